/- Contracts of functions, part CStreamTicks3. -/
import Derived.Test.YtpglhicfhppaiaaGreatCStreamTicks1
import Derived.Test.YtpglhicfhppaiaaGreatCStreamTicks2
import Derived.RangeFuncRecord
import Derived.RangeFuncLeaves
import Derived.RangeFuncCalls
import Derived.OpenShut
import Derived.Below
import Derived.Deep.Upon
import Derived.Laws.BitsAllLaws
import Derived.Laws.StructEq
set_option linter.unusedVariables false
set_option linter.unusedSimpArgs false
set_option maxRecDepth 100000
set_option maxHeartbeats 4000000
namespace Go.Proofs.YtpglhicfhppaiaaGreat
open Go.RowKit
def sK (C:ak) : ak:=(C.bytesC 1).need (C.byteV==6) 9
def pW (C:ak) : ak:=((sK C).wordsC 1).need ((sK C).wordV != 0) 6
def pk (C:ak) : ak:=((pW C).wordsC 1).need (decide ((pW C).wordV≤9999)) 7
def fM (C:ak) : ak:=((pk C).wordsC 1).need ((pk C).wordV != 0) 5
def b7 (C:ak) : dU:=⟨(sK C).wordV,(pW C).wordV,(pk C).wordV,[]⟩
def fu (s:Int)(C:ak) : Int:=s+(2+2*(pk C).wordV)
def e9 (s:Int)(C:ak) : ak:=(fM C).need (decide (fu s C≤245)) 5
def jB (C:ak) : ak:=(C.bytesC 1).need ((C.byteV%2==1&&decide (3≤C.byteV))&&decide (C.byteV≤((C.bytesC 1).l.length:Int))) 5
def kg (C:ak) : ak:=((jB C).bytesC 1).need ((jB C).byteV==6) 9
def ff (C:ak) : ak:=(kg C).wordsC (Int.tdiv (C.byteV-1) 2)
def ex (C:ak) : dU:=⟨0,0,0,(kg C).wordsR (Int.tdiv (C.byteV-1) 2)⟩
def pl (C:ak) : ak:=(fM C).need (decide (2*(pk C).wordV≤((fM C).l.length:Int))) 5
def iu (C:ak) : ak:=(pl C).wordsC (pk C).wordV
def gv (C:ak) : dU:=⟨(sK C).wordV,(pW C).wordV,(pk C).wordV,(pl C).wordsR (pk C).wordV⟩
def sG (g:Nat)(C':ak)(r:dU)(w:World)(e:Ending)(w':World) : Prop:=∃ A c,e = .returned (.agg #[.int .u16 r.file,.int .u16 r.record,.int .u16 r.count,.slice A r.words.length c])∧dJ true w' (.slice A r.words.length c) r.words∧dq r.file∧dq r.record∧dq r.count∧ae w' g C'∧au [g] w w'
theorem kj{g:Nat}{C:ak}{w:World}(hC:ae w g C) : Calls Tryz.prog 125 #[.pointer (some ⟨g,0,none⟩)] w (sG g (fM C) (b7 C) w):=by
 have hlen:=hC.len
 refine en 34 Tryz.func125 rfl<|sg<|L0<|bz #[.int .u16 0,.int .u16 0,.int .u16 0,.slice none 0 0] fun Z a0 c B b=>ng<|Pl 2<|?_
 refine L0<|Oc<|m3 (bi (ae.old hC b)) fun a1 D d a2=>Pl 1<|L0<|Oc<|m2 (aL ((C.byteV==6)) 9 D) fun a3 E e=>?_
 refine ab E fun fE F G=>?_
 refine ng<|L0<|bz #[.int .u16 0,.int .u16 0,.int .u16 0,.slice none 0 0] fun a4 a5 f H h=>ng<|Pl 1<|?_
 refine L0<|Oc<|m3 (bh (ae.old G h)) fun a6 I i a7=>Pl 1<|?_
 have a:=nb (ae.lt hC) (le (le b.size d.size) e.size) f
 have j:=aO i (Ne.symm a) H
 refine L0<|bO j 0 #[.int .u16 fE.wordV,.int .u16 0,.int .u16 0,.slice none 0 0] fun a8 k l=>ng<|Pl 2<|L0<|aR k 0<|Pl 1<|?_
 refine L0<|Oc<|m2 (aL ((fE.wordV != 0)) 6 (ae.upd I l (aa a ax) (ah (aD j (by decide)) az))) fun a9 J K=>?_
 refine ab J fun g7 L M=>?_
 refine ng<|Pl 1<|L0<|Oc<|m3 (bh M) fun ac N O ad=>Pl 1<|?_
 have m:=u1 K O im
 have n:=aO m (Ne.symm a) k
 refine L0<|bO n 1 #[.int .u16 fE.wordV,.int .u16 g7.wordV,.int .u16 0,.slice none 0 0] fun af o p=>ng<|Pl 2<|L0<|aR o 1<|Pl 1<|?_
 refine L0<|Oc<|m2 (aL ((decide (g7.wordV≤9999))) 7 (ae.upd N p (aa a ax) (ah (aD n (by decide)) az))) fun ag P Q=>?_
 refine ab P fun x61 R S=>?_
 refine ng<|Pl 1<|L0<|Oc<|m3 (bh S) fun ai T U aj=>Pl 1<|?_
 have q:=u1 Q U im
 have r:=aO q (Ne.symm a) o
 refine L0<|bO r 2 #[.int .u16 fE.wordV,.int .u16 g7.wordV,.int .u16 x61.wordV,.slice none 0 0] fun al s t=>ng<|Pl 2<|L0<|aR s 2<|Pl 1<|?_
 refine L0<|Oc<|m2 (aL ((x61.wordV != 0)) 5 (ae.upd T t (aa a ax) (ah (aD r (by decide)) az))) fun am V u=>?_
 refine ab V fun x77 W X=>?_
 refine ng<|?_
 refine L0<|c9 (aO u (Ne.symm a) s)<|?_
 have v:=u1 d (u1 e (ud h (ui i (ui l (ui m (ui p (ui q (us t u)))))) f) im) im
 have y:=nb (ae.lt hC) lr c
 have z:=aO v (Ne.symm y) B
 refine L0<|b6 z #[.int .u16 fE.wordV,.int .u16 g7.wordV,.int .u16 x61.wordV,.slice none 0 0] fun an Y A=>nt<|rt<|t6 Y<|?_
 subst W R L F
 exact⟨_,_,rfl,aH.nil ..,aB (x:=((C.bytesC 1).need (C.byteV==6) 9).wordV) (by omega),aB (x:=((((C.bytesC 1).need (C.byteV==6) 9).wordsC 1).need (((C.bytesC 1).need (C.byteV==6) 9).wordV != 0) 6).wordV) (by omega),aB (x:=((((((C.bytesC 1).need (C.byteV==6) 9).wordsC 1).need (((C.bytesC 1).need (C.byteV==6) 9).wordV != 0) 6).wordsC 1).need (decide (((((C.bytesC 1).need (C.byteV==6) 9).wordsC 1).need (((C.bytesC 1).need (C.byteV==6) 9).wordV != 0) 6).wordV≤9999)) 7).wordV) (by omega),(ae.upd X A (aa y ax) (ah (aD z (by decide)) az)),(ue b (us v A) c)⟩
theorem ns{g:Nat}{C:ak}{w:World}(hC:ae w g C) : Calls Tryz.prog 128 #[.pointer (some ⟨g,0,none⟩)] w (sG g (ff C) (ex C) w):=by
 have hlen:=hC.len
 refine en 33 Tryz.func128 rfl<|sg<|L0<|bz #[.int .u16 0,.int .u16 0,.int .u16 0,.slice none 0 0] fun R S f i j=>ng<|Pl 1<|?_
 refine L0<|Oc<|m3 (bi (ae.old hC j)) fun T c k U=>L0<|Oi C.byteV<|Pl 1<|ng<|Pl 2<|L0<|Oe (.int .i64 (Int.tmod C.byteV 2)) (.int .i64 (C.byteV%2)) (congrArg (Value.int .i64) (Int.tmod_eq_emod_of_nonneg (by omega)))<|Pl 2<|cu 3 [11] 14 ((((C.byteV%2)==1)&&(decide (3≤C.byteV)))) (fun K m=>?_) ?_
 refine bl 11 (((C.byteV%2)==1)) (fun a=>?_) (fun a=>?_)
 have y:=aA a
 exact Pl 3<|ce m (decide (3≤C.byteV)) (by rw[a];rfl)
 have y:=aG a
 exact Pl 3<|ce m false (by rw[a];rfl)
 refine Pl 1<|cu 5 [15] 20 (((((C.byteV%2)==1)&&(decide (3≤C.byteV)))&&(decide (C.byteV≤(((C.bytesC 1).l.length:Nat) : Int))))) (fun K o=>?_) ?_
 refine bl 15 ((((C.byteV%2)==1)&&(decide (3≤C.byteV)))) (fun b=>?_) (fun b=>?_)
 have z:=(bM b).1
 have A:=(bM b).2
 have V:=aA z
 have W:=of_decide_eq_true A
 refine Pl 2<|L1<|Oc<|mq (cE c)<|?_
 have X:=ae.len c
 exact Pl 2<|ce o (decide (C.byteV≤(((C.bytesC 1).l.length:Nat) : Int))) (by rw[b];rfl)
 exact Pl 5<|ce o false (by rw[b];rfl)
 refine L0<|Oc<|m2 (aL (((((C.byteV%2)==1)&&(decide (3≤C.byteV)))&&(decide (C.byteV≤(((C.bytesC 1).l.length:Nat) : Int))))) 5 c) fun Y B p=>?_
 refine ab B fun x28 D E=>?_
 refine ng<|Pl 2<|L0<|Oc<|m3 (bi E) fun Z F q a0=>Pl 1<|L0<|Oc<|m2 (aL ((x28.byteV==6)) 9 F) fun a1 G r=>?_
 refine ab G fun x38 H I=>?_
 refine ng<|Pl 2<|L0<|Oi (C.byteV-1)<|L0<|Oe (.int .i64 (IntKind.i64.wrap (Int.tdiv (C.byteV-1) 2))) (.int .i64 (Int.tdiv (C.byteV-1) 2)) (congrArg (Value.int .i64) (p3 (by omega) (by omega)))<|L0<|Oc<|mw (cH (n:=(Int.tdiv (C.byteV-1) 2)) I) fun J L a2 s a3 a4 M N=>?_
 refine ab M fun x48 O P=>?_
 refine Pl 1<|?_
 have t:=u1 k (u1 p (u1 q (u1 r N im) im) im) im
 have u:=nb (ae.lt hC) lr f
 have v:=aO t (Ne.symm u) i
 refine L0<|b6 v #[.int .u16 0,.int .u16 0,.int .u16 0,.slice J ((x38.wordsR (Int.tdiv (C.byteV-1) 2)).length) L] fun a5 Q d=>nt<|rt<|t6 Q<|?_
 subst O H D
 exact⟨_,_,rfl,((am s d (fun x hx=>(aa (fun e=>(aq (aj i) (le (le (le k.size p.size) q.size) r.size) s) (e▸hx)) ax)) (fun _ _ h=>h))).rd,aB (x:=0) (by omega),aB (x:=0) (by omega),aB (x:=0) (by omega),(ae.upd P d (aa u ax) (ah (aD v (by decide)) az)),(ue j (us t d) f)⟩
theorem rC{g:Nat}{C:ak}{w:World}(hC:ae w g C) : Calls Tryz.prog 130 #[.pointer (some ⟨g,0,none⟩)] w (sG g (iu C) (gv C) w):=by
 have hlen:=hC.len
 refine en 22 Tryz.func130 rfl<|sg<|L0<|bz #[.int .u16 0,.int .u16 0,.int .u16 0,.slice none 0 0] fun X Y v f i=>ng<|Pl 1<|?_
 refine L0<|Oc<|sO (kj (ae.old hC i)) fun I J Z a0 K L M N c=>?_
 obtain⟨a1,a2⟩:=K
 obtain⟨a3,a4⟩:=L
 obtain⟨a5,a6⟩:=M
 refine L0<|bz #[.int .u16 0,.int .u16 0,.int .u16 0,.slice none 0 0] fun O a7 j y z=>L0<|b6 y #[.int .u16 ((b7 C).file),.int .u16 ((b7 C).record),.int .u16 ((b7 C).count),.slice I ((b7 C).words.length) J] fun a8 P k=>nt<|sq<|Rg 9 (fun w'=>w'.cell? ⟨O,2,none⟩=some (.int .u16 ((b7 C).count))) fun a9 d=>?_
 have m:=ub d P
 refine be (ai m rfl) fun a=>Rt 0 a<|Rt 1 a<|Rl 2 a (fun _ hs=>hs)<|Rr 3 a (.int .i64 ((b7 C).count)) (fun _ _=>bV (.int .i64 (IntKind.i64.wrap ((b7 C).count))) (by kernel_rfl) (congrArg (Value.int .i64) (i64_in (by omega))))<|Rr 4 a (.int .i64 (2*((b7 C).count))) (fun _ _=>bV (.int .i64 (IntKind.i64.wrap (2*((b7 C).count)))) (by kernel_rfl) (congrArg (Value.int .i64) (IntWalk.i64_in _ (by omega))))<|Rt 5 a<|?_
 have o:=ud z (aE k d) j
 have p:=ae.old N o
 refine R0 6 rfl<|Oc<|mq (cE p)<|?_
 have ac:=ae.len p
 refine be (ai m rfl) fun Q=>Rt 7 Q<|R0 8 rfl<|Oc<|m2 (aL ((decide ((2*((b7 C).count))≤(((fM C).l.length:Nat) : Int)))) 5 p) fun ad R b=>?_
 refine ab R fun x54 S T=>?_
 have q:=nb (ae.lt hC) (le i.size c.size) j
 have r:=aO b (Ne.symm q) m
 refine be (ai r rfl) fun af=>re<|tn<|sg<|Pl 2<|L0<|aR r 2<|L0<|Oi ((b7 C).count)<|L0<|Oc<|mw (cH (n:=(b7 C).count) T) fun A B ag s al an U t=>Pl 1<|?_
 have D:=aO t (Ne.symm q) r
 refine L0<|bO D 3 #[.int .u16 ((b7 C).file),.int .u16 ((b7 C).record),.int .u16 ((b7 C).count),.slice A ((x54.wordsR ((b7 C).count)).length) B] fun ao V E=>ng<|L0<|c9 V<|?_
 have F:=u1 c (ue o (ui b (us t E)) j) im
 have u:=nb (ae.lt hC) lr v
 refine L0<|b6 (aO F (Ne.symm u) f) #[.int .u16 ((b7 C).file),.int .u16 ((b7 C).record),.int .u16 ((b7 C).count),.slice A ((x54.wordsR ((b7 C).count)).length) B] fun ap W G=>nt<|rt<|t6 W<|?_
 subst S
 have H:=us E G
 exact⟨_,_,rfl,((am s H (fun x hx=>(aa (fun e=>(aq (aj y) (le (le k.size d.size) b.size) s) (e▸hx)) (aa (fun e=>(aq (aj f) (le (le (le (le c.size z.size) k.size) d.size) b.size) s) (e▸hx)) ax))) (fun _ _ h=>h))).rd,aB (x:=(b7 C).file) (by omega),aB (x:=(b7 C).record) (by omega),aB (x:=(b7 C).count) (by omega),(ae.upd U H (aa q (aa u ax)) (ah (aD D (by decide)) (ah (aD (aO (u1 c (uz o (u1 b t im)) im) (Ne.symm u) f) (by decide)) az))),(ue i (us F G) v)⟩
theorem kZ{n:Int}{w:World}(hn:0≤n∧n<256) : Calls Tryz.prog 126 #[.int .i64 n] w (bg (.bool ((decide (7≤n)&&decide (n≤245))&&n%7==0)) w):=by
 refine en 14 Tryz.func126 rfl<|sg<|Pl 1<|ng<|Pl 3<|cu 3 [5] 8 (((decide (7≤n))&&(decide (n≤245)))) (fun K c=>?_) ?_
 refine bl 5 ((decide (7≤n))) (fun a=>?_) (fun a=>?_)
 have e:=of_decide_eq_true a
 exact Pl 3<|ce c (decide (n≤245)) (by rw[a];rfl)
 have e:=of_decide_eq_false a
 exact Pl 3<|ce c false (by rw[a];rfl)
 refine Pl 1<|cu 4 [9] 13 ((((decide (7≤n))&&(decide (n≤245)))&&((n%7)==0))) (fun K d=>?_) ?_
 refine bl 9 (((decide (7≤n))&&(decide (n≤245)))) (fun b=>?_) (fun b=>?_)
 have f:=(bM b).1
 have g:=(bM b).2
 have h:=of_decide_eq_true f
 have i:=of_decide_eq_true g
 exact Pl 1<|L1<|Oe (.int .i64 (Int.tmod n 7)) (.int .i64 (n%7)) (congrArg (Value.int .i64) (Int.tmod_eq_emod_of_nonneg (by omega)))<|Pl 2<|ce d ((n%7)==0) (by rw[b];rfl)
 exact Pl 4<|ce d false (by rw[b];rfl)
 refine Pl 1<|nt<|rt<|rr (.bool (((decide (7≤n))&&(decide (n≤245)))&&((n%7)==0)))<|?_
 exact⟨rfl,(au.refl [] _)⟩
theorem kV{n:Int}{w:World}(hn:0≤n∧n<256) : Calls Tryz.prog 127 #[.int .i64 n] w (bg (.bool (decide (4≤n)&&decide (n≤245))) w):=by
 refine en 9 Tryz.func127 rfl<|sg<|Pl 1<|ng<|Pl 3<|cu 3 [5] 8 (((decide (4≤n))&&(decide (n≤245)))) (fun K b=>?_) ?_
 refine bl 5 ((decide (4≤n))) (fun a=>?_) (fun a=>?_)
 have c:=of_decide_eq_true a
 exact Pl 3<|ce b (decide (n≤245)) (by rw[a];rfl)
 have c:=of_decide_eq_false a
 exact Pl 3<|ce b false (by rw[a];rfl)
 refine Pl 1<|nt<|rt<|rr (.bool ((decide (4≤n))&&(decide (n≤245))))<|?_
 exact⟨rfl,(au.refl [] _)⟩
theorem l3{n:Int}{w:World}(hn:0≤n∧n<256) : Calls Tryz.prog 129 #[.int .i64 n] w (bg (.bool (decide (9≤n)&&decide (n≤251))) w):=by
 refine en 9 Tryz.func129 rfl<|sg<|Pl 1<|ng<|Pl 3<|cu 3 [5] 8 (((decide (9≤n))&&(decide (n≤251)))) (fun K b=>?_) ?_
 refine bl 5 ((decide (9≤n))) (fun a=>?_) (fun a=>?_)
 have c:=of_decide_eq_true a
 exact Pl 3<|ce b (decide (n≤251)) (by rw[a];rfl)
 have c:=of_decide_eq_false a
 exact Pl 3<|ce b false (by rw[a];rfl)
 refine Pl 1<|nt<|rt<|rr (.bool ((decide (9≤n))&&(decide (n≤251))))<|?_
 exact⟨rfl,(au.refl [] _)⟩
theorem fl{e:Int}{w:World}:Calls Tryz.prog 96 #[.int .i64 e] w (bg (.int .i64 (if e==2 then 5 else e)) w):=by
 refine en 6 Tryz.func96 rfl<|sg<|Pl 1<|nt<|sq<|sg<|Pl 2<|nt<|cb ((e==2)) (fun a=>?_) (fun a=>?_)
 have b:=aA a
 refine sg<|Pl 1<|nt<|rt<|tr<|rr (.int .i64 5)<|?_
 have hs:(if e==2 then (5:Int) else e)=5:=by simp only[a,bs,if_true,if_false,decide_true,decide_false,reduceIte]
 rw[hs]
 exact⟨rfl,(au.refl [] _)⟩
 have b:=aG a
 refine bB<|sg<|Pl 2<|nt<|rt<|rr (.int .i64 e)<|?_
 have hs:(if e==2 then (5:Int) else e)=e:=by simp only[a,bs,if_true,if_false,decide_true,decide_false,reduceIte]
 rw[hs]
 exact⟨rfl,(au.refl [] _)⟩
open Go.RowKit
structure WF (F:Fence) (n:Nat) (P:Program) (ops:Array Oper) (Q:Exit→Act→World→Prop) (l:List Oper) (a:Act) (w:World) : Prop where
  out:wpListIn F n P ops Q l a w
def dg (F:Fence) : Prop:=F=Fence.wide∨∃ l,F=Fence.wide.inRound l
theorem i7:dg Fence.wide:=.inl rfl
theorem gl(l:Nat) : dg (Fence.wide.inRound l):=.inr ⟨l,rfl⟩
theorem dg.fn{F:Fence}(h:dg F)(f:FuncId) : F.fn f:=by
  rcases h with rfl|⟨l,rfl⟩<;>trivial
theorem dg.depth{F:Fence}(h:dg F) : F.depth=none:=by
  rcases h with rfl|⟨l,rfl⟩<;>rfl
section
variable {F:Fence}{n:Nat}{P:Program}{Q:Exit→Act→World→Prop}{a:Act}{w:World}{K:Act→World→Prop}{ops:Array Oper}{rest:List Oper}{o:Oper}{N:Option Tmp}
theorem se{f:FuncId}{args:Array Value}{R:Ending→World→Prop}(hF:dg F)(h:Calls P f args w R) : CallsIn F n P f args w R:=by
  rcases hF with rfl|⟨l,rfl⟩
  · exact callsIn_wide.2 h
  · exact CallsIn.inRound l (callsIn_wide.2 h)
theorem tP{row:String}{args:Array Value}{R:Value→World→Prop}(hF:dg F)(h:Rows P row args w R) : RowsIn F n P row args w R:=by
  have h0:RowsIn Fence.wide n P row args w R:=fun c cs _=>let ⟨v,w',r,s⟩:=h c cs; ⟨v,w',r,stepsIn_wide.2 s⟩
  rcases hF with rfl|⟨l,rfl⟩
  · exact h0
  · exact h0
def dR:Op→Bool
  | .defer _=>false
  | _=>true
theorem vF(hF:dg F)(hd:dR o.op=true)(h:o.wp P a w K Q) : o.wpIn F n P a w K Q:=by
  refine⟨fun f _=>hF.fn f,?_⟩
  rw[Oper.semAt_eq _ _ _ (fun c hc=>by rw[hc] at hd;cases hd)]
  unfold Oper.wp at h
  have hdep:∀ {p:Prop},F.depth.isSome=true→p:=fun h=>by rw[hF.depth] at h;cases h
  generalize (execOp a.eval o).run P w=r at h ⊢
  cases r with
  | ok x w' =>
    cases x<;>simp only[Oper.upon,Oper.uponIn] at h ⊢
    case value u=>exact h
    case skip=>exact h
    case defer d=>exact h
    case enter f args=>exact⟨hdep,se hF h⟩
    case row row args=>exact⟨hdep,tP hF h⟩
  | halt x w' =>
    cases x<;>simp only[Oper.upon,Oper.uponIn] at h ⊢
    case panic u=>exact h
theorem vx{id:Nat}{l:List Oper}(n:Nat)(h:WF Fence.wide n P l.toArray Q l a w) : (Code.region id l.toArray false).wp P Q a w:=wpIn_wide.1 (wpIn_region_lit h.out)
theorem uT{id:Nat}{l:List Oper}(h:WF F n P l.toArray Q l a w) : (Code.region id l.toArray false).wpIn F n P Q a w:=wpIn_region_lit h.out
theorem uS(h:Q .normal a w) : WF F n P ops Q [] a w:=⟨h⟩
theorem v6(hF:dg F)(hd:dR o.op=true)(hw:Region.wanted o (yielded ops a.tmps)=true)(h:OW P o a w (WF F n P ops Q rest) Q) : WF F n P ops Q (o :: rest) a w:=by
  refine⟨?_⟩
  unfold wpListIn
  rw[if_pos hw]
  exact vF hF hd (eV h fun _ _ h=>h.out)
theorem uJ(hF:dg F)(hw:Region.wanted o (yielded ops a.tmps)=false)(hN:o.dst=N)(h:WF F n P ops Q rest (a.put N undef) w) : WF F n P ops Q (o :: rest) a w:=by
  subst hN
  refine⟨?_⟩
  unfold wpListIn
  rw[if_neg (by simp[hw])]
  exact⟨fun f _=>hF.fn f,h.out⟩
theorem sr{x:Operand}{opds:Array Operand}{ts:Array TypeId}{l:Nat}{r:Loop}(args:Array Value)(hw:Region.wanted o (yielded ops a.tmps)=true)(hN:o.dst=N)(hop:o.op = .call { callee:=.value x,args:=opds,argTypes:=ts })
    (hx:a.eval x = .func (.yield l) #[] #[]) (hargs:opds.map a.eval=args) (hl:w.heap[l]? = some (.loop r)) (hs:args.size=r.params.size)
    (h:RoundIn Fence.wide (n-1) P l r.fn ((r.params.zip args).foldl (fun tmps (t,a)=>tmps.setIfInBounds t a) r.tmps) r.assign r.body w (fun e w'=>∃ v,e = .returned v∧WF Fence.wide n P ops Q rest (a.put N v) w')) : WF Fence.wide n P ops Q (o :: rest) a w:=by
  subst hN
  refine⟨?_⟩
  unfold wpListIn
  rw[if_pos hw]
  refine⟨fun f _=>trivial,?_⟩
  have hrun:(o.semAt Fence.wide.round a.eval).run P w = .ok (.round l r.fn ((r.params.zip args).foldl (fun tmps (t,a)=>tmps.setIfInBounds t a) r.tmps) r.assign r.body) w:=by
    show(execOp a.eval o).run P w=_
    unfold execOp
    simp only[hop,resolve,hx,Deferred.ofValue,Sem.run_bind,Sem.run_pure,Result.andThen_ok,invoke,hargs]
    have:=run_yield (P:=P) (args:=args) hl hs
    simpa using this
  rw[hrun,Oper.uponIn_round]
  refine⟨(by simp[Fence.wide]),h.mono fun e w' hh=>?_⟩
  obtain⟨v,rfl,h2⟩:=hh
  exact h2.out
end
theorem q5{P:Program}{n:Nat}{ops:Array Oper}{Q:Exit→Act→World→Prop}{rest:List Oper}{o:Oper}{a:Act}{w:World}{N:Option Tmp}{x:Operand}{opds:Array Operand}{ts:Array TypeId}{l:Nat}{r:Loop}(v:Value)(p:Tmp)(hw:Region.wanted o (yielded ops a.tmps)=true)(hN:o.dst=N)(hop:o.op = .call { callee:=.value x,args:=opds,argTypes:=ts })
    (hx:a.eval x = .func (.yield l) #[] #[]) (hargs:opds.map a.eval = #[v]) (hl:w.heap[l]? = some (.loop r)) (hp:r.params = #[p])
    (h:RoundIn Fence.wide (n-1) P l r.fn (r.tmps.setIfInBounds p v) r.assign r.body w (fun e w'=>∃ u,e = .returned u∧WF Fence.wide n P ops Q rest (a.put N u) w')) : WF Fence.wide n P ops Q (o :: rest) a w:=by
  refine sr #[v] hw hN hop hx hargs hl (by rw[hp];rfl) ?_
  have:((r.params.zip #[v]).foldl (fun tmps (t,a)=>tmps.setIfInBounds t a) r.tmps)=r.tmps.setIfInBounds p v:=by rw[hp];simp
  rw[this]
  exact h
theorem ef{w:World}{l:Nat}(o:Go.Obj) : au [l] w (w.putObj l o) :=
  ⟨rfl,rfl,rfl,by simp[World.putObj],fun k hk hn=>World.putObj_heap_other (by simpa using hn)⟩
theorem gV{w:World}{l:Nat}{o:Go.Obj}(o':Go.Obj)(h:w.heap[l]? = some o) : (w.putObj l o').heap[l]? = some o':=World.putObj_heap_same (aj h)
def fL:Go.Obj→Bool
  | .cells ..=>false
  | _=>true
theorem aH.updl{α:Type}{m:Bool}{e:TypeId}{sz:Nat}{R:World→α→List Value→Prop}{w w':World}{v:Value}{xs:List α}{l:Nat}{o:Go.Obj}
    (h:aH m e sz R w v xs) (hu:au [l] w w') (hl:w.heap[l]? = some o) (ho:fL o=true) (hR:∀ x cs,R w x cs→R w' x cs) : aH m e sz R w' v xs:=by
  obtain⟨A,c,rfl,h1,h2,h0,h3⟩:=h
  refine⟨A,c,rfl,h1,h2,h0,fun hp=>?_⟩
  obtain⟨b,off,cells,t,fr,rfl,hb,ht,hx⟩:=h3 hp
  refine⟨b,off,cells,t,fr,rfl,?_,ht,fun j x hj=>?_⟩
  · refine hu.blk (fun hbs=>?_) hb
    simp at hbs
    subst hbs
    rw[hl] at hb
    injection hb with hb
    subst hb
    cases ho
  · obtain⟨cs,hl,hr,hc⟩:=hx j x hj
    exact⟨cs,hl,hR _ _ hr,hc⟩
theorem aM.updl{m:Bool}{w w':World}{v:Value}{xs:List Int}{l:Nat}{o:Go.Obj}(h:aM m w v xs)(hu:au [l] w w')(hl:w.heap[l]? = some o)(ho:fL o=true) : aM m w' v xs:=aH.updl h hu hl ho fun _ _ h=>h
theorem dJ.updl{m:Bool}{w w':World}{v:Value}{xs:List Int}{l:Nat}{o:Go.Obj}(h:dJ m w v xs)(hu:au [l] w w')(hl:w.heap[l]? = some o)(ho:fL o=true) : dJ m w' v xs:=aH.updl h hu hl ho fun _ _ h=>h
theorem bj.updl{m:Bool}{w w':World}{l:Nat}{o:Go.Obj}(hu:au [l] w w')(hl:w.heap[l]? = some o)(ho:fL o=true)(r:dU)(cs:List Value)(h:bj m w r cs) : bj m w' r cs:=by
  obtain⟨v,h1,h2,h3⟩:=h
  exact⟨v,h1,dJ.updl h2 hu hl ho,h3⟩
theorem ae.updl{w w':World}{g:Nat}{c:ak}{l:Nat}{o:Go.Obj}(h:ae w g c)(hu:au [l] w w')(hg:g∉[l])(hl:w.heap[l]? = some o)(ho:fL o=true) : ae w' g c:=by
  obtain⟨v,hb,hr,hn⟩:=h
  exact⟨v,hu.blk hg hb,hr.updl hu hl ho,hn⟩
theorem oH{n:Nat}{P:Program}{l:Nat}{f:FuncId}{tmps:Array Value}{assign body:Code}{w:World}{r:Loop}{R:Ending→World→Prop}
    (h:assign.wpIn (Fence.wide.inRound l) n P (Exit.then (fun a₁ w₁=>w₁.heap[l]? = some (.loop r)∧r.state = .ready∧∀ w₂,w₂.heap[l]? = some (.loop { r with state:=.busy })→au [l] w₁ w₂ →
      body.wpIn (Fence.wide.inRound l) n P (Exit.then (fun _ w₃=>∃ r',w₃.heap[l]? = some (.loop r')∧∀ w₄,w₄.heap[l]? = some (.loop { r' with state:=.ready,pending:=none })→au [l] w₃ w₄→R (.returned (.bool true)) w₄) (fun _ _ _=>False)) a₁ w₂) (fun _ _ _=>False)) { tmps:=tmps,defers:=[] } w) :
    RoundIn Fence.wide n P l f tmps assign body w R:=by
  refine roundIn_of_wpIn trivial (Code.wpIn_mono (fun e a w q=>?_) h)
  cases e with
  | normal =>
    obtain⟨h1,h2,h3⟩:=q
    refine⟨_,run_beginRound h1 h2,Code.wpIn_mono (fun e a w q=>?_) (h3 _ (gV _ h1) (ef _))⟩
    cases e with
    | normal =>
      obtain⟨r',h4,h5⟩:=q
      exact⟨_,_,run_endRound none h4,h5 _ (gV _ h4) (ef _)⟩
    | _=>exact q.elim
  | _=>exact q.elim
theorem hZ{n:Nat}{P:Program}{l:Nat}{f:FuncId}{tmps:Array Value}{assign body:Code}{w:World}{r:Loop}{R:Ending→World→Prop}
    (hl:w.heap[l]? = some (.loop r))
    (h:assign.wpIn (Fence.wide.inRound l) n P (Exit.then (fun a₁ w₁=>w₁.heap[l]? = some (.loop r)∧r.state = .ready∧∀ w₂,w₂.heap[l]? = some (.loop { r with state:=.busy })→au [l] w₁ w₂ →
      body.wpIn (Fence.wide.inRound l) n P (Exit.then (fun _ w₃=>∃ r',w₃.heap[l]? = some (.loop r')∧∀ w₄,w₄.heap[l]? = some (.loop { r' with state:=.ready,pending:=none })→au [l] w₃ w₄→R (.returned (.bool true)) w₄) (fun _ _ _=>False)) a₁ w₂) (fun _ _ _=>False)) { tmps:=tmps,defers:=[] } w) :
    RoundIn Fence.wide n P l f tmps assign body w R:=oH h
theorem pK{P:Program}{Q:Exit→Act→World→Prop}{a:Act}{w:World}{g:Operand}{ps:Array Tmp}{assign body:Code}{f:FuncId}{fn:Func}(cap:Array Value)
    (hx : a.eval g = .func (.func f) #[] cap) (hf : P.funcs[f]? = some fn) (hname : (fn.name == "runtime.NumGoroutine") = false) (hb : fn.body.isSome = true)
    (h:∀ fn0 D l w₂,w.heap.size≤D→w.heap.size≤l→D≠l→w₂.heap[D]? = some (.deferred (some []))→w₂.heap[l]? = some (.loop { state:=.ready,pending:=none,fn:=fn0,tmps:=a.tmps,params:=ps,assign:=assign,body:=body,defers:=D })→au [] w w₂ →
      Calls P f (#[.func (.yield l) #[] #[]]++cap) w₂ (fun e w₃=>∃ v r',e = .returned v∧w₃.heap[l]? = some (.loop r')∧r'.state≠.busy∧r'.pending=none∧∀ w₄,au [l] w₃ w₄→Q .normal { a with defers:={ target:=.collected D,args:=#[] } :: a.defers } w₄)) :
    (Code.rangeFunc g ps assign body).wp P Q a w:=by
  refine(wpIn_wide (n:=9)).1 (wpIn_rangeFunc fun fn0 _=>?_)
  have h1 : fn.name ≠ "runtime.NumGoroutine" := by simpa using hname
  obtain⟨cd,hcd⟩:=Option.isSome_iff_exists.1 hb
  refine⟨w.heap.size+1,[{ target:=.collected w.heap.size,args:=#[] }],((w.alloc (.deferred (some []))).alloc (.loop { state:=.ready,pending:=none,fn:=fn0,tmps:=a.tmps,params:=ps,assign:=assign,body:=body,defers:=w.heap.size })),
    { target:=.fn (.func f) cap,args:=#[]++#[.func (.yield (w.heap.size+1)) #[] #[]] },((w.alloc (.deferred (some []))).alloc (.loop { state:=.ready,pending:=none,fn:=fn0,tmps:=a.tmps,params:=ps,assign:=assign,body:=body,defers:=w.heap.size })),
    f,#[.func (.yield (w.heap.size+1)) #[] #[]]++cap,((w.alloc (.deferred (some []))).alloc (.loop { state:=.ready,pending:=none,fn:=fn0,tmps:=a.tmps,params:=ps,assign:=assign,body:=body,defers:=w.heap.size })),run_enterLoop_outer fn0 a.tmps ps assign body,?_,fun _ _=>trivial,?_,by simp[Fence.wide],?_⟩
  · unfold resolve
    simp only[rangeCall,hx,Deferred.ofValue,Sem.run_pure,List.map_toArray,List.map_cons,List.map_nil]
    rfl
  · simp[invoke,callFunc,hf,h1,hcd]
  · have hD:((w.alloc (.deferred (some []))).alloc (.loop { state:=.ready,pending:=none,fn:=fn0,tmps:=a.tmps,params:=ps,assign:=assign,body:=body,defers:=w.heap.size })).heap[w.heap.size]? = some (.deferred (some [])):=qW (cU w _) _
    have hl:((w.alloc (.deferred (some []))).alloc (.loop { state:=.ready,pending:=none,fn:=fn0,tmps:=a.tmps,params:=ps,assign:=assign,body:=body,defers:=w.heap.size })).heap[w.heap.size+1]? = some (.loop { state:=.ready,pending:=none,fn:=fn0,tmps:=a.tmps,params:=ps,assign:=assign,body:=body,defers:=w.heap.size }):=by
      have:=cU (w.alloc (.deferred (some []))) (.loop { state:=.ready,pending:=none,fn:=fn0,tmps:=a.tmps,params:=ps,assign:=assign,body:=body,defers:=w.heap.size })
      simpa using this
    refine callsIn_wide.2 ((h fn0 w.heap.size (w.heap.size+1) _ (Nat.le_refl _) (by omega) (by omega) hD hl (((au.refl [] w).alloc _).alloc _)).mono ?_)
    rintro e w₃ ⟨v,r',rfl,h3,h4,h5,h6⟩
    refine⟨_,_,run_endLoop h3 h4,?_⟩
    rw[h5]
    exact h6 _ (ef _)
theorem jR{P:Program}{f:FuncId}{fn:Func}{c:Code}{args:Array Value}{w:World}{R:Ending→World→Prop}(hf:P.funcs[f]? = some fn)(hb:fn.body=some c)
    (h:c.wp P (bodyPostM Fence.wide 9 P fn R) { tmps:=args++Array.replicate (fn.ntmps-args.size) undef,defers:=[] } w) : Calls P f args w R :=
  callsIn_wide.1 (callsIn_of_wp_marks hf hb trivial (wpIn_wide.2 h) rfl)
theorem sQ{P:Program}{fn:Func}{R:Ending→World→Prop}{a:Act}{w:World}{D:Nat}(hd:a.defers=[{ target:=.collected D,args:=#[] }])(hD:w.heap[D]? = some (.deferred (some [])))
    (h:∀ w',au [D] w w'→∃ v,(results fn a.tmps).run P w' = .ok v w'∧R (.returned v) w') : bodyPostM Fence.wide 9 P fn R .ret a w:=by
  show LeavesInM Fence.wide 9 P fn a.tmps R a.defers .returning w
  rw[hd]
  exact⟨by simp,.inl ⟨D,_,rfl,run_takeDeferred hD,h _ (ef _)⟩⟩
theorem rq{P:Program}{fn:Func}{R:Ending→World→Prop}{a:Act}{w:World}(hd:a.defers=[])(h:∃ v,(results fn a.tmps).run P w = .ok v w∧R (.returned v) w) : bodyPostM Fence.wide 9 P fn R .ret a w:=by
  show LeavesInM Fence.wide 9 P fn a.tmps R a.defers .returning w
  rw[hd]
  exact h
open Go.RowKit
structure GF (E:Fence) (m:Nat) (P:Program) (ops:Array Oper) (Q:Exit→Act→World→Prop) (l:List Oper) (n:Nat) (D:List Deferred) (F:Fr) (w:World) : Prop where
  out:∀ a,Ag n D F a→WF E m P ops Q l a w
structure GI (E:Fence) (m:Nat) (P:Program) (c:Code) (Q:Exit→Act→World→Prop) (n:Nat) (D:List Deferred) (F:Fr) (w:World) : Prop where
  out:∀ a,Ag n D F a→c.wpIn E m P Q a w
section
variable {E:Fence}{m:Nat}{P:Program}{Q:Exit→Act→World→Prop}{n:Nat}{D:List Deferred}{F:Fr}{w:World}{ops:Array Oper}{rest l:List Oper}{d:Option Tmp}{op:Op}{t:TypeId}{s:String}{af:Array Edge}{gu:Option (Nat × Bool)}{x y c:Code}{id:Nat}
theorem ux(m:Nat)(h:GF Fence.wide m P l.toArray Q l n D F w) : GC P (.region id l.toArray false) Q n D F w:=⟨fun a ha=>vx m (h.out a ha)⟩
theorem t1(h:GF E m P l.toArray Q l n D F w) : GI E m P (.region id l.toArray false) Q n D F w:=⟨fun a ha=>uT (h.out a ha)⟩
theorem un(h:GI E m P c (Exit.inBlock id Q) n D F w) : GI E m P (.block id c) Q n D F w:=⟨fun a ha=>wpIn_block (h.out a ha)⟩
theorem oh(h:GQ Q .normal n D F w) : GF E m P ops Q [] n D F w:=⟨fun a ha=>uS (h.out a ha)⟩
theorem v8(hE:dg E)(h:OG P ⟨d,op,t,s,af,gu⟩ n D F w (GF E m P ops Q rest n D) Q)(hw:gY ops F gu=(true,true))(hd:dR op=true) : GF E m P ops Q (⟨d,op,t,s,af,gu⟩ :: rest) n D F w :=
  ⟨fun a ha=>v6 hE hd (dM ha hw) (h.out a ha _ fun F' w' a' k ha'=>k.out a' ha')⟩
theorem vl(hE:dg E){o:Oper}(h:GF E m P ops Q rest n D (ld P ops w F o) w)(hc:rI P ops w n 1 (o :: rest) F=rH P ops w 1 (o :: rest) F)(hd:dR o.op=true) : GF E m P ops Q (o :: rest) n D F w:=by
  simp only[rI,rH,List.cons.injEq,Prod.mk.injEq,Bool.and_eq_true] at hc
  obtain⟨⟨⟨h1,h2,h3⟩,h4⟩,h5⟩:=hc
  refine⟨fun a ha=>?_⟩
  cases hon:(gY ops F o.guard).2 with
  | true =>
    rw[hon] at h3 h4
    simp only[cond_true] at h3 h4
    have hst:ld P ops w F o=pt o.dst (vo P w F o) F:=by simp[ld,hon]
    rw[hst] at h
    exact v6 hE hd (dM ha (Prod.ext h1 hon)) (dN (N:=o.dst) (vo P w F o) rfl (by rw[← eX ha h3];exact h4) (h.out _ (ha.put h2)))
  | false =>
    have hst:ld P ops w F o=pt o.dst undef F:=by simp[ld,hon]
    rw[hst] at h
    exact uJ (N:=o.dst) hE (dM ha (Prod.ext h1 hon)) rfl (h.out _ (ha.put h2))
theorem F0(h:OG P ⟨d,op,t,s,af,gu⟩ n D F w (GF Fence.wide m P ops Q rest n D) Q)(hw:gY ops F gu=(true,true):=by kernel_rfl)(hd:dR op=true:=by kernel_rfl) : GF Fence.wide m P ops Q (⟨d,op,t,s,af,gu⟩ :: rest) n D F w:=v8 i7 h hw hd
theorem ii{q:Nat}(h:OG P ⟨d,op,t,s,af,gu⟩ n D F w (GF (Fence.wide.inRound q) m P ops Q rest n D) Q)(hw:gY ops F gu=(true,true):=by kernel_rfl)(hd:dR op=true:=by kernel_rfl) : GF (Fence.wide.inRound q) m P ops Q (⟨d,op,t,s,af,gu⟩ :: rest) n D F w:=v8 (gl _) h hw hd
theorem Fp{o:Oper}(h:GF Fence.wide m P ops Q rest n D (ld P ops w F o) w)(hc:rI P ops w n 1 (o :: rest) F=rH P ops w 1 (o :: rest) F:=by kernel_rfl)(hd:dR o.op=true:=by kernel_rfl) : GF Fence.wide m P ops Q (o :: rest) n D F w:=vl i7 h hc hd
theorem sY{q:Nat}{o:Oper}(h:GF (Fence.wide.inRound q) m P ops Q rest n D (ld P ops w F o) w)(hc:rI P ops w n 1 (o :: rest) F=rH P ops w 1 (o :: rest) F:=by kernel_rfl)(hd:dR o.op=true:=by kernel_rfl) : GF (Fence.wide.inRound q) m P ops Q (o :: rest) n D F w:=vl (gl _) h hc hd
theorem uI(j:Nat)(e:Bool)(ht:e=true→GF E m P ops Q l n D ((j,.bool true) :: F) w)(hf:e=false→GF E m P ops Q l n D ((j,.bool false) :: F) w)(hv:lk F j=some (.bool e):=by kernel_rfl) : GF E m P ops Q l n D F w:=by
  refine⟨fun a ha=>?_⟩
  have key:∀ b,e=b→Ag n D ((j,.bool b) :: F) a:=fun b hb=>⟨ha.sz,ha.df,fun i v hi=>by
    rcases el hi with⟨rfl,rfl⟩|⟨_,h2⟩
    · rw[← hb];exact ha.at_ _ _ hv
    · exact ha.at_ _ _ h2⟩
  rcases e8 e with q|q
  · exact(ht q).out a (key _ q)
  · exact(hf q).out a (key _ q)
theorem Fy{x:Operand}{opds:Array Operand}{ts:Array TypeId}{q:Nat}{r:Loop}(v:Value)(p:Tmp)(hl:w.heap[q]? = some (.loop r))(hp:r.params = #[p])
    (h:RoundIn Fence.wide (m-1) P q r.fn (r.tmps.setIfInBounds p v) r.assign r.body w (fun e w'=>∃ u,e = .returned u∧GF Fence.wide m P ops Q rest n D (pt d u F) w'))
    (hw:gY ops F gu=(true,true):=by kernel_rfl) (hx:cX F x=some (.func (.yield q) #[] #[]):=by kernel_rfl) (ha:opds.toList.map (cX F)=[some v]:=by kernel_rfl) (hd:dw n d=true:=by kernel_rfl) :
    GF Fence.wide m P ops Q (⟨d,.call { callee:=.value x,args:=opds,argTypes:=ts },t,s,af,gu⟩ :: rest) n D F w :=
  ⟨fun a hag=>q5 v p (dM hag hw) rfl rfl (hag.ev hx) (by apply Array.toList_inj.1;rw[Array.toList_map];exact gz (vs:=[v]) hag ha) hl hp (h.mono fun e w' hh=>by
    obtain⟨u,rfl,hk⟩:=hh
    exact⟨u,rfl,hk.out _ (hag.put hd)⟩)⟩
theorem lg{g:Operand}{ps:Array Tmp}{assign body:Code}{f:FuncId}(cap:Array Value)
    (h:∀ a,Ag n D F a→∀ fn0 D' q w₂,w.heap.size≤D'→w.heap.size≤q→D'≠q→w₂.heap[D']? = some (.deferred (some []))→w₂.heap[q]? = some (.loop { state:=.ready,pending:=none,fn:=fn0,tmps:=a.tmps,params:=ps,assign:=assign,body:=body,defers:=D' })→au [] w w₂ →
      Calls P f (#[.func (.yield q) #[] #[]]++cap) w₂ (fun e w₃=>∃ v r',e = .returned v∧w₃.heap[q]? = some (.loop r')∧r'.state≠.busy∧r'.pending=none∧∀ w₄,au [q] w₃ w₄→GQ Q .normal n ({ target:=.collected D',args:=#[] } :: D) F w₄))
    (hx:cX F g=some (.func (.func f) #[] cap):=by kernel_rfl) (hf:t4 P f=some (false,true):=by kernel_rfl) : GC P (.rangeFunc g ps assign body) Q n D F w:=by
  obtain⟨fn,h1,h2,h3⟩:=fG hf
  refine⟨fun a ha=>pK cap (ha.ev hx) h1 h2 h3 fun fn0 D' q w₂ g1 g2 g3 g4 g5 g6=>(h a ha fn0 D' q w₂ g1 g2 g3 g4 g5 g6).mono fun e w₃ hh=>?_⟩
  obtain⟨v,r',k1,k2,k3,k4,k5⟩:=hh
  exact⟨v,r',k1,k2,k3,k4,fun w₄ hu=>(k5 w₄ hu).out _ ⟨ha.sz,by rw[ha.df],ha.at_⟩⟩
theorem uG{a:Act}(ha:Ag n D F a)(p:Tmp){v:Value}(h:GI E m P c Q n [] ((p,v) :: F) w)(hp:Nat.blt p n=true:=by kernel_rfl) : c.wpIn E m P Q { tmps:=a.tmps.setIfInBounds p v,defers:=[] } w:=by
  have h0:Ag n [] F { tmps:=a.tmps,defers:=[] }:=⟨ha.sz,rfl,ha.at_⟩
  exact h.out _ (h0.put (d:=some p) hp)
theorem uZ{r:Loop}{q:Nat}{c:Code}{Qb:Exit→Act→World→Prop}(h1:w.heap[q]? = some (.loop r))(h2:r.state = .ready)(h:∀ w₂,w₂.heap[q]? = some (.loop { r with state:=.busy })→au [q] w w₂→GI E m P c Qb n D F w₂) :
    GQ (Exit.then (fun a₁ w₁=>w₁.heap[q]? = some (.loop r)∧r.state = .ready∧∀ w₂,w₂.heap[q]? = some (.loop { r with state:=.busy })→au [q] w₁ w₂→c.wpIn E m P Qb a₁ w₂) Q) .normal n D F w:=⟨fun a ha=>⟨h1,h2,fun w₂ k1 k2=>(h w₂ k1 k2).out a ha⟩⟩
theorem ur{r:Loop}{q:Nat}{Z:World→Prop}(h1:w.heap[q]? = some (.loop r))(h:∀ w₄,w₄.heap[q]? = some (.loop { r with state:=.ready,pending:=none })→au [q] w w₄→Z w₄) :
    GQ (Exit.then (fun _ w₃=>∃ r',w₃.heap[q]? = some (.loop r')∧∀ w₄,w₄.heap[q]? = some (.loop { r' with state:=.ready,pending:=none })→au [q] w₃ w₄→Z w₄) Q) .normal n D F w:=⟨fun a ha=>⟨r,h1,h⟩⟩
end
section
variable {P:Program}{n:Nat}{F:Fr}{w:World}{fn:Func}{R:Ending→World→Prop}
theorem sZ{f:FuncId}{c:Code}{args:List Value}{w:World}(n:Nat)(hf:P.funcs[f]? = some fn)(hb:fn.body=some c)
    (h:GC P c (bodyPostM Fence.wide 9 P fn R) n [] (pe 0 args) w) (hn:args.length+(fn.ntmps-args.length)=n:=by kernel_rfl) : Calls P f args.toArray w R:=by
  subst hn
  exact jR hf hb (by simpa using h.out _ (vj (args:=args) (m:=fn.ntmps-args.length)))
theorem sX{D:Nat}(hD:w.heap[D]? = some (.deferred (some [])))(h:∀ w',au [D] w w'→GQ (fun _ a w'=>∃ v,(results fn a.tmps).run P w' = .ok v w'∧R (.returned v) w') .ret n [{ target:=.collected D,args:=#[] }] F w') : GQ (bodyPostM Fence.wide 9 P fn R) .ret n [{ target:=.collected D,args:=#[] }] F w :=
  ⟨fun a ha=>sQ ha.df hD fun w' hu=>(h w' hu).out a ha⟩
theorem rx{D:List Deferred}{g:Nat}{cs:Array Value}{t:TypeId}{fr:Nat × Nat}(B:w.heap[g]? = some (.cells cs t fr))(u:Value)(h:R (.returned (.tuple #[.agg cs,u])) w)(hc:t0 P fn.results F=some (some (.pointer (some ⟨g,0,none⟩)),some u,some true,some cs.size):=by kernel_rfl) : GQ (fun _ a w'=>∃ v,(results fn a.tmps).run P w' = .ok v w'∧R (.returned v) w') .ret n D F w :=
  ⟨fun a ha=>⟨_,gF ha B rfl hc,h⟩⟩
theorem ry{g:Nat}{cs:Array Value}{t:TypeId}{fr:Nat × Nat}(B:w.heap[g]? = some (.cells cs t fr))(u:Value)(h:R (.returned (.tuple #[.agg cs,u])) w)(hc:t0 P fn.results F=some (some (.pointer (some ⟨g,0,none⟩)),some u,some true,some cs.size):=by kernel_rfl) : GQ (bodyPostM Fence.wide 9 P fn R) .ret n [] F w :=
  ⟨fun a ha=>rq ha.df ⟨_,gF ha B rfl hc,h⟩⟩
end
open Go.RowKit
def sR (mk:Nat→Value)(w:World)(e:Ending)(w':World) : Prop:=∃ gs,e = .returned (.tuple #[mk gs,.bool true])∧w.heap.size≤gs∧w'.heap[gs]? = some (.cells #[.int .i64 0] 3 (0,0))∧au [] w w'
def uE (gs:Nat) : Value:=.agg #[.func (.func 126) #[] #[],.func (.func 124) #[] #[.pointer (some ⟨gs,0,none⟩)]]
def uu (gs:Nat) : Value:=.agg #[.func (.func 127) #[] #[],.func (.func 128) #[] #[]]
def uj (gs:Nat) : Value:=.agg #[.func (.func 129) #[] #[],.func (.func 130) #[] #[]]
theorem qN{w:World}:Calls Tryz.prog 91 #[.int .i64 0,.int .u8 20] w (sR uE w):=by
 refine en 27 Tryz.func91 rfl<|sg<|L0<|bz #[.nilFunc,.nilFunc] fun m n g b c=>Pl 1<|ng<|L0<|bz #[.int .i64 0] fun d o a h i=>L0<|bO h 0 #[.int .i64 0] fun p j k=>nt<|sq<|?_
 refine go<|Pl 2<|nt<|sq<|bk<|sg<|Pl 7<|nt<|c1<|sg<|?_
 refine Pl 2<|?_
 have e:=ud i k a
 refine L0<|b6 (ub e b) #[.func (.func 126) #[] #[],.func (.func 124) #[] #[.pointer (some ⟨d,0,none⟩)]] fun q l f=>Pl 1<|nt<|rt<|br<|tr<|cc l (.bool true)<|?_
 exact⟨d,rfl,(Nat.le_trans c.size a),(aO f (Ne.symm (nb (aj b) lr a)) j),(ud c (uz e f) g)⟩
theorem pZ{w:World}:Calls Tryz.prog 91 #[.int .i64 1,.int .u8 20] w (sR uu w):=by
 refine en 27 Tryz.func91 rfl<|sg<|L0<|bz #[.nilFunc,.nilFunc] fun m n f b c=>Pl 1<|ng<|L0<|bz #[.int .i64 0] fun g o a h i=>L0<|bO h 0 #[.int .i64 0] fun p j k=>nt<|sq<|?_
 refine go<|Pl 2<|nt<|sq<|bk<|sg<|Pl 7<|nt<|c0<|sg<|?_
 refine Pl 3<|nt<|c1<|sg<|Pl 1<|?_
 have d:=ud i k a
 refine L0<|b6 (ub d b) #[.func (.func 127) #[] #[],.func (.func 128) #[] #[]] fun q l e=>Pl 1<|nt<|rt<|br<|tr<|cc l (.bool true)<|?_
 exact⟨g,rfl,(Nat.le_trans c.size a),(aO e (Ne.symm (nb (aj b) lr a)) j),(ud c (uz d e) f)⟩
theorem qI{dir:Int}{w:World}:Calls Tryz.prog 91 #[.int .i64 dir,.int .u8 21] w (sR uj w):=by
 refine en 27 Tryz.func91 rfl<|sg<|L0<|bz #[.nilFunc,.nilFunc] fun m n f b c=>Pl 1<|ng<|L0<|bz #[.int .i64 0] fun g o a h i=>L0<|bO h 0 #[.int .i64 0] fun p j k=>nt<|sq<|?_
 refine go<|Pl 2<|nt<|sq<|bk<|sg<|Pl 7<|nt<|c0<|sg<|?_
 refine Pl 3<|nt<|c0<|sg<|Pl 3<|nt<|c1<|sg<|Pl 1<|?_
 have d:=ud i k a
 refine L0<|b6 (ub d b) #[.func (.func 129) #[] #[],.func (.func 130) #[] #[]] fun q l e=>Pl 1<|nt<|rt<|br<|tr<|cc l (.bool true)<|?_
 exact⟨g,rfl,(Nat.le_trans c.size a),(aO e (Ne.symm (nb (aj b) lr a)) j),(ud c (uz d e) f)⟩
theorem jD{dir x:Int}{w:World}(n1:(x==20)=false)(n2:(x==21)=false) : Calls Tryz.prog 91 #[.int .i64 dir,.int .u8 x] w (bg (.tuple #[.agg #[.nilFunc,.nilFunc],.bool false]) w):=by
 refine en 27 Tryz.func91 rfl<|sg<|L0<|bz #[.nilFunc,.nilFunc] fun k l b c d=>Pl 1<|ng<|L0<|bz #[.int .i64 0] fun m n e f g=>L0<|bO f 0 #[.int .i64 0] fun o p h=>nt<|sq<|?_
 refine go<|Pl 2<|nt<|sq<|bk<|sg<|Pl 3<|sy 12 n1<|Pl 4<|nt<|c0<|?_
 refine sg<|Pl 3<|nt<|cf n1<|sg<|Pl 3<|nt<|cf n2<|sk<|bn<|?_
 refine tn<|sg<|Pl 1<|?_
 have a:=ud g h e
 refine L0<|b6 (ub a c) #[.nilFunc,.nilFunc] fun q i j=>Pl 1<|nt<|rt<|cc i (.bool false)<|?_
 exact⟨rfl,(ud d (uz a j) b)⟩
theorem gS{gb:Nat}{f:Fn}{x y:Array Value}{w:World}:Calls Tryz.prog 95 #[.pointer (some ⟨gb,0,none⟩),.func f x y] w (fun e w'=>∃ b1 b2,e = .returned (.func (.func 131) #[] #[.pointer (some ⟨b1,0,none⟩),.pointer (some ⟨b2,0,none⟩)])∧w.heap.size≤b1∧w.heap.size≤b2∧b1≠b2 ∧
      w'.heap[b1]? = some (.cells #[.pointer (some ⟨gb,0,none⟩)] 143 (0,0))∧w'.heap[b2]? = some (.cells #[.func f x y] 158 (0,0))∧au [] w w'):=by
 refine en 6 Tryz.func95 rfl<|sg<|L0<|cW #[.pointer (some ⟨gb,0,none⟩)] fun a k i b c=>L0<|cW #[.func f x y] fun d l g j h=>Pl 1<|ng<|Pl 2<|nt<|rt<|?_
 refine rr (.func (.func 131) #[] #[.pointer (some ⟨a,0,none⟩),.pointer (some ⟨d,0,none⟩)])<|?_
 exact⟨a,d,rfl,i,(Nat.le_trans c.size g),(nb (aj b) lr g),(ub h b),j,(aE c h)⟩
theorem nk{g gs:Nat}{s:Int}{C:ak}{w:World}(hC:ae w g C)(hS:w.heap[gs]? = some (.cells #[.int .i64 s] 3 (0,0)))(hne:g≠gs)(hs:0≤s∧s≤1000000000000) :
    Calls Tryz.prog 124 #[.pointer (some ⟨g,0,none⟩),.pointer (some ⟨gs,0,none⟩)] w (fun e w'=>∃ A c,e = .returned (.agg #[.int .u16 (b7 C).file,.int .u16 (b7 C).record,.int .u16 (b7 C).count,.slice A (b7 C).words.length c])∧dJ true w' (.slice A (b7 C).words.length c) (b7 C).words∧dq (b7 C).file∧dq (b7 C).record∧dq (b7 C).count∧ae w' g (e9 s C)∧w'.heap[gs]? = some (.cells #[.int .i64 (fu s C)] 3 (0,0))∧au [g,gs] w w'):=by
 refine en 19 Tryz.func124 rfl<|sg<|L0<|bz #[.int .u16 0,.int .u16 0,.int .u16 0,.slice none 0 0] fun S T b j d=>ng<|Pl 1<|?_
 refine L0<|Oc<|sO (kj (ae.old hC d)) fun k l U H I J K m f=>?_
 obtain⟨V,W⟩:=I
 obtain⟨X,Y⟩:=J
 obtain⟨Z,a0⟩:=K
 refine L0<|bz #[.int .u16 0,.int .u16 0,.int .u16 0,.slice none 0 0] fun a1 a2 h L M=>L0<|b6 L #[.int .u16 ((b7 C).file),.int .u16 ((b7 C).record),.int .u16 ((b7 C).count),.slice k ((b7 C).words.length) l] fun a3 n N=>ng<|?_
 have o:=ud M N h
 have p:=aE f o
 have q:=aO (uz d p) (Ne.symm hne) hS
 refine L0<|aR q 0<|Pl 1<|L0<|aR n 2<|L0<|Oi ((b7 C).count)<|L0<|Oi (2*((b7 C).count))<|L0<|Oi (2+(2*((b7 C).count)))<|L0<|Oi (s+(2+(2*((b7 C).count))))<|L0<|bO q 0 #[.int .i64 (s+(2+(2*((b7 C).count))))] fun a4 r t=>ng<|Pl 1<|L0<|aR r 0<|?_
 refine Pl 1<|?_
 have u:=uz o t
 have a:=uz d f
 have v:=aO a (Ne.symm hne) hS
 refine L0<|Oc<|m2 (aL ((decide ((s+(2+(2*((b7 C).count))))≤245))) 5 (ae.upd m u (aa hne ax) (ah (aD v (by decide)) az))) fun a5 O y=>?_
 refine ab O fun x47 P Q=>?_
 refine ng<|?_
 have z:=us t y
 refine L0<|c9 (au.blk z (aa (Ne.symm (nb (aj hS) a.size h)) (aa (Ne.symm (nb (ae.lt hC) a.size h)) ax)) n)<|?_
 have i:=nb (ae.lt hC) lr b
 have B:=nb (aj hS) lr b
 have D:=au.blk (ui p z) (aa (Ne.symm B) (aa (Ne.symm i) ax)) j
 refine L0<|b6 D #[.int .u16 ((b7 C).file),.int .u16 ((b7 C).record),.int .u16 ((b7 C).count),.slice k ((b7 C).words.length) l] fun a6 R E=>nt<|rt<|t6 R<|?_
 subst P
 have F:=us y E
 have G:=us u F
 exact⟨_,_,rfl,(dJ.upd' H G (ah (aD v (by decide)) (ah (ae.safe m _ (by decide)) (ah (aD (aO f (Ne.symm i) j) (by decide)) az)))),aB (x:=(b7 C).file) (by omega),aB (x:=(b7 C).record) (by omega),aB (x:=(b7 C).count) (by omega),(ae.upd Q E (aa i ax) (ah (aD D (by decide)) az)),(au.blk F (aa (Ne.symm hne) (aa B ax)) r),(ut (au.mono (S':=[g,gs]) a (ac im av)) G (ac im (ac im (ac (nr b) av))))⟩
def dW (c:Int)(v:Value) : Array Value:=#[.int .u8 c,.int .u8 0,.int .u16 0,.int .u16 0,.int .u16 0,.int .u16 0,.int .u16 0,.int .u16 0,.int .u16 0,.int .u16 0,.int .u16 0,.int .u16 0,eK,eK,eK,v,.int .u8 0,.int .u8 0,.int .u8 0,.int .u8 0,.int .u8 0,eK]
structure JR (w0:World) (gb gs gm l:Nat) (c:Int) (r:Loop) (C:ak) (s:Int) (L:List dU) (A:Option Addr) (cp:Nat) (W:World) : Prop where
  u:au [gb,gs,gm,l] w0 W
  hC:ae W gb C
  hS:W.heap[gs]? = some (.cells #[.int .i64 s] 3 (0,0))
  hm:W.heap[gm]? = some (.cells (dW c (.slice A L.length cp)) 31 (0,0))
  ho:aN w0.heap.size 83 4 (bj true) W (.slice A L.length cp) L
  hl:W.heap[l]? = some (.loop r)
def dz (s:Int)(C:ak) : Int × ak × dU:=(fu s C,e9 s C,b7 C)
def cA (s:Int)(C:ak) : Int × ak × dU:=(s,ff C,ex C)
def dD (s:Int)(C:ak) : Int × ak × dU:=(s,iu C,gv C)
def aW (one:Int→ak→Int × ak × dU) : Nat→Int→ak→List dU→ak × List dU
  | 0,_,C,L=>(C,L)
  | n+1,s,C,L =>
    if decide (0<(C.l.length:Int))&&C.e==0 then
      (if (one s C).2.1.e != 0 then ((one s C).2.1,L) else aW one n (one s C).1 (one s C).2.1 (L++[(one s C).2.2]))
    else (C,L)
theorem gX(C:ak)(n:Int) : (C.bytesC n).l.length≤C.l.length:=by
  unfold ak.bytesC
  split
  · unfold ak.need
    split<;>simp
  · simp
theorem gW(C:ak)(h:0<C.l.length) : (C.bytesC 1).l.length<C.l.length:=by
  unfold ak.bytesC
  split
  · unfold ak.need
    split<;>simpa using h
  · simp
    omega
theorem dk(C:ak)(b:Bool)(e:Int) : (C.need b e).l.length=C.l.length:=by
  unfold ak.need
  split<;>rfl
theorem dG(C:ak)(n:Int) : (C.wordsC n).l.length≤C.l.length:=by
  unfold ak.wordsC
  split<;>exact gX ..
theorem kB(C:ak)(h:0<C.l.length) : (fM C).l.length<C.l.length:=by
  have h1:(sK C).l.length<C.l.length:=by unfold sK;rw[dk];exact gW C h
  have h2:(pW C).l.length≤(sK C).l.length:=by unfold pW;rw[dk];exact dG ..
  have h3:(pk C).l.length≤(pW C).l.length:=by unfold pk;rw[dk];exact dG ..
  have h4:(fM C).l.length≤(pk C).l.length:=by unfold fM;rw[dk];exact dG ..
  omega
theorem qa(s:Int)(C:ak)(h:0<C.l.length) : (dz s C).2.1.l.length<C.l.length:=by
  show(e9 s C).l.length<_
  unfold e9
  rw[dk]
  exact kB C h
theorem p8(s:Int)(C:ak)(h:0<C.l.length) : (cA s C).2.1.l.length<C.l.length:=by
  show(ff C).l.length<_
  have h1:(jB C).l.length<C.l.length:=by unfold jB;rw[dk];exact gW C h
  have h2:(kg C).l.length≤(jB C).l.length:=by unfold kg;rw[dk];exact gX ..
  have h3:(ff C).l.length≤(kg C).l.length:=by unfold ff;exact dG ..
  omega
theorem rz(s:Int)(C:ak)(h:0<C.l.length) : (dD s C).2.1.l.length<C.l.length:=by
  show(iu C).l.length<_
  have h1:=kB C h
  have h2:(pl C).l.length=(fM C).l.length:=by unfold pl;rw[dk]
  have h3:(iu C).l.length≤(pl C).l.length:=by unfold iu;exact dG ..
  omega
theorem fh(one:Int→ak→Int × ak × dU)(n:Nat)(s:Int)(C:ak)(L:List dU)(h:(decide (0<(C.l.length:Int))&&C.e==0)=false) : aW one n s C L=(C,L):=by
  cases n with
  | zero=>rfl
  | succ n=>simp only[aW,h,Bool.false_eq_true,if_false]
open Go.RowKit
def cy (fn0:FuncId)(tm:Array Value)(asg bdy:Code)(D:Nat) : Loop:={ state:=.ready,pending:=none,fn:=fn0,tmps:=tm,params:=#[53],assign:=asg,body:=bdy,defers:=D }
def lH (w:World)(gb gs gm l:Nat)(c:Int)(R:Loop) : Prop:=∀ (W:World)(C:ak)(s:Int)(L:List dU)(A:Option Addr)(cp:Nat)(x:dU)(Ax:Option Addr)(cx:Nat),JR w gb gs gm l c R C s L A cp W→dJ true W (.slice Ax x.words.length cx) x.words→dq x.file→dq x.record→dq x.count→L.length≤1048576 →
    RoundIn Fence.wide 8 Tryz.prog l R.fn (R.tmps.setIfInBounds 53 (.agg #[.int .u16 x.file,.int .u16 x.record,.int .u16 x.count,.slice Ax x.words.length cx])) R.assign R.body W (fun e W'=>e = .returned (.bool true)∧W.heap.size≤W'.heap.size∧∃ A2 c2,JR w gb gs gm l c R C s (L++[x]) A2 c2 W')
theorem sx{w:World}{gb gs gm l b1 b2 fn0 D:Nat}{tm:Array Value}{asg bdy:Code}{c:Int}{C0:ak}(hC:ae w gb C0)(hS:w.heap[gs]? = some (.cells #[.int .i64 0] 3 (0,0)))(hm:w.heap[gm]? = some (.cells (dW c eK) 31 (0,0)))
    (hl:w.heap[l]? = some (.loop (cy fn0 tm asg bdy D))) (hb1:w.heap[b1]? = some (.cells #[.pointer (some ⟨gb,0,none⟩)] 143 (0,0))) (hb2:w.heap[b2]? = some (.cells #[.func (.func 124) #[] #[.pointer (some ⟨gs,0,none⟩)]] 158 (0,0)))
    (n1:gb≠gs) (n2:gb≠gm) (n3:gb≠l) (n4:gs≠gm) (n5:gs≠l) (n6:gm≠l) (m1:b1≠gb) (m2:b1≠gs) (m3:b1≠gm) (m4:b1≠l) (k1:b2≠gb) (k2:b2≠gs) (k3:b2≠gm) (k4:b2≠l) (hround:lH w gb gs gm l c (cy fn0 tm asg bdy D)) :
    Calls Tryz.prog 131 #[.func (.yield l) #[] #[],.pointer (some ⟨b1,0,none⟩),.pointer (some ⟨b2,0,none⟩)] w (fun e W=>e = .returned (.tuple #[])∧∃ s A cp,JR w gb gs gm l c (cy fn0 tm asg bdy D) (aW dz C0.l.length 0 C0 []).1 s (aW dz C0.l.length 0 C0 []).2 A cp W):=by
 have hlen:=hC.len
 refine en 25 Tryz.func131 rfl<|bk<|?_
 refine fR (fun x=>[(0,.func (.yield l) #[] #[]),(1,.pointer (some ⟨b1,0,none⟩)),(2,.pointer (some ⟨b2,0,none⟩))]) (fun(x:Nat × ak × Int × List dU × Option Addr × Nat) w'=>au [gb,gs,gm,l] w w'∧ae w' gb x.2.1∧w'.heap[gs]? = some (.cells #[.int .i64 x.2.2.1] 3 (0,0))∧w'.heap[gm]? = some (.cells (dW c (.slice x.2.2.2.2.1 x.2.2.2.1.length x.2.2.2.2.2)) 31 (0,0))∧w'.heap[l]? = some (.loop (cy fn0 tm asg bdy D))∧aN w.heap.size 83 4 (bj true) w' (.slice x.2.2.2.2.1 x.2.2.2.1.length x.2.2.2.2.2) x.2.2.2.1∧(aW dz x.1 x.2.2.1 x.2.1 x.2.2.2.1=aW dz C0.l.length 0 C0 [])∧(x.2.1.l.length≤x.1)∧(0≤x.2.2.1∧x.2.2.1≤131074*(x.2.2.2.1.length:Int))∧(x.2.2.2.1.length+x.1≤C0.l.length)) (fun x=>x.1) (C0.l.length,C0,0,[],none,0) ⟨au.refl _ _,hC,hS,hm,hl,aN.nil ..,rfl,(Nat.le_refl _),(by(try dsimp only);omega),(by(try dsimp only);(try simp only[List.length_nil]);omega)⟩ ?_
 rintro⟨n,C,s,L,A,cp⟩ h ⟨m,J,M,N,O,P,Q,R,S,T⟩
 refine fz [(0,.func (.yield l) #[] #[]),(1,.pointer (some ⟨b1,0,none⟩)),(2,.pointer (some ⟨b2,0,none⟩))] ?_
 have b:ae h gb C:=J
 have o:h.heap[gs]? = some (.cells #[.int .i64 s] 3 (0,0)):=M
 have t:h.heap[gm]? = some (.cells (dW c (.slice A L.length cp)) 31 (0,0)):=N
 have v:h.heap[l]? = some (.loop (cy fn0 tm asg bdy D)):=O
 have d:aN w.heap.size 83 4 (bj true) h (.slice A L.length cp) L:=P
 have af:aW dz n s C L=aW dz C0.l.length 0 C0 []:=Q
 have ai:C.l.length≤n:=R
 have al:0≤s∧s≤131074*(L.length:Int):=S
 have an:L.length+n≤C0.l.length:=T
 have hrec:aW dz n s C L=aW dz C0.l.length 0 C0 []:=by assumption
 refine sq<|sg<|?_
 have p:=au.blk m (aa m1 (aa m2 (aa m3 (aa m4 ax)))) hb1
 refine L0<|aR p 0<|L0<|Oc<|mq (cE b)<|?_
 have ao:=ae.len b
 refine Pl 2<|cu 4 [8] 12 (((decide (0<((C.l.length:Nat) : Int)))&&(C.e==0))) (fun K B=>?_) ?_
 refine bl 8 ((decide (0<((C.l.length:Nat) : Int)))) (fun i=>?_) (fun i=>?_)
 have U:=of_decide_eq_true i
 refine L1<|aR p 0<|L1<|Oc<|mq (aX b)<|?_
 have ap:=ae.len b
 exact Pl 2<|ce B (C.e==0) (by rw[i];rfl)
 have U:=of_decide_eq_false i
 exact Pl 4<|ce B false (by rw[i];rfl)
 refine nt<|cb (((decide (0<((C.l.length:Nat) : Int)))&&(C.e==0))) (fun f=>?_) (fun f=>?_)
 have y:=(bM f).1
 have z:=(bM f).2
 have ar:=of_decide_eq_true y
 have aw:=aA z
 refine bB<|bk<|sg<|?_
 refine L0<|aR (au.blk m (aa k1 (aa k2 (aa k3 (aa k4 ax)))) hb2) 0<|L0<|aR p 0<|L0<|eP #[] #[.pointer (some ⟨gs,0,none⟩)] (args:=#[.pointer (some ⟨gb,0,none⟩),.pointer (some ⟨gs,0,none⟩)])<|vy (nk (s:=s) b o n1 (by omega)) fun E F aC V X Y Z a0 G a1=>?_
 have aF:fu s C=s+(2+2*(b7 C).count):=rfl
 obtain⟨aG,aH⟩:=X
 obtain⟨aI,aJ⟩:=Y
 obtain⟨aK,aL⟩:=Z
 refine L0<|bz #[.int .u16 0,.int .u16 0,.int .u16 0,.slice none 0 0] fun aM aO a2 a3 a4=>L0<|b6 a3 #[.int .u16 ((b7 C).file),.int .u16 ((b7 C).record),.int .u16 ((b7 C).count),.slice E ((b7 C).words.length) F] fun a5 a6 a7=>nt<|sq<|ux 9<|?_
 have j:=ud a4 a7 a2
 have a:=aE a1 j
 refine F0<|aR (au.blk a (aa m1 (aa m2 ax)) p) 0<|?_
 have q:=ae.old a0 j
 refine F0<|Oc<|mq (aX q)<|?_
 have aP:=ae.len q
 refine Fp<|Fp<|?_
 have H:=ut m a (ac im (ac im av))
 refine uI 19 ((((e9 s C).e)!=0)) (fun k=>?_) (fun k=>?_)
 have a8:=ay k
 refine Fp<|Fp<|Fp<|Fp<|Fp<|oh<|tn<|c1<|rt<|br<|tr<|br<|rr (.tuple #[])<|?_
 have hfin:aW dz C0.l.length 0 C0 []=((e9 s C),L):=by
   rw[← hrec]
   rw[show n=(n-1)+1 from by omega]
   simp only[aW,dz,f,y,z,k,bs,if_true,if_false,decide_true,decide_false,reduceIte]
 refine⟨rfl,(fu s C),A,cp,?_⟩
 rw[hfin]
 exact⟨H,q,(ub j G),(au.blk a (aa (Ne.symm n2) (aa (Ne.symm n4) ax)) t),(am d a (fun x hx=>(aa (fun e=>(aq (ae.lt hC) lr d) (e▸hx)) (aa (fun e=>(aq (aj hS) lr d) (e▸hx)) ax))) (bj.upd16 a (ah (ae.safe b _ (by decide)) (ah (aD o (by decide)) az)))),(au.blk a (aa (Ne.symm n3) (aa (Ne.symm n5) ax)) v)⟩
 have a8:=ag k
 refine Fp<|F0<|c9 a6<|?_
 have I:=au.blk a (aa (Ne.symm n3) (aa (Ne.symm n5) ax)) v
 have a9:JR w gb gs gm l c (cy fn0 tm asg bdy D) (e9 s C) (fu s C) L A cp a5:=⟨H,q,(ub j G),(au.blk a (aa (Ne.symm n2) (aa (Ne.symm n4) ax)) t),(am d a (fun x hx=>(aa (fun e=>(aq (ae.lt hC) lr d) (e▸hx)) (aa (fun e=>(aq (aj hS) lr d) (e▸hx)) ax))) (bj.upd16 a (ah (ae.safe b _ (by decide)) (ah (aD o (by decide)) az)))),I⟩
 refine Fy (r:=cy fn0 tm asg bdy D) (.agg #[.int .u16 ((b7 C).file),.int .u16 ((b7 C).record),.int .u16 ((b7 C).count),.slice E ((b7 C).words.length) F]) 53 I rfl<|?_
 refine RoundIn.mono (hround _ _ _ _ _ _ (b7 C) _ _ a9 (dJ.upd' V j az) (aB (by omega)) (aB (by omega)) (aB (by omega)) (by omega)) ?_
 rintro _ aQ ⟨rfl,aS,ab,ad,g⟩
 refine⟨_,rfl,?_⟩
 exact Fp<|Fp<|oh<|tn<|c0<|sk<|bn<|dZ ((n-1),(e9 s C),(fu s C),(L++[(b7 C)]),ab,ad) ⟨g.u,g.hC,g.hS,g.hm,g.hl,g.ho,(by(try dsimp only);rw[← hrec,show n=(n-1)+1 from by omega];simp only[aW,dz,f,y,z,k,bs,if_true,if_false,decide_true,decide_false,Nat.add_sub_cancel,reduceIte]),(by(try dsimp only);have hd:=qa s C (by omega);have pW:(dz s C).2.1.l.length=(e9 s C).l.length:=rfl;omega),(by(try dsimp only);simp only[List.length_append,List.length_cons,List.length_nil];omega),(by(try dsimp only);simp only[List.length_append,List.length_cons,List.length_nil];omega)⟩ (by omega)
 refine xt<|tx<|tx<|bx<|rm (.tuple #[])<|?_
 have hfin:aW dz C0.l.length 0 C0 []=(C,L):=by
   rw[← hrec]
   exact fh _ _ _ _ _ (by simp only[f,bs,if_true,if_false,decide_true,decide_false])
 refine⟨rfl,s,A,cp,?_⟩
 rw[hfin]
 exact⟨m,b,o,t,d,v⟩
theorem sm{w:World}{gb gs gm l b1 b2 fn0 D:Nat}{tm:Array Value}{asg bdy:Code}{c:Int}{C0:ak}(hC:ae w gb C0)(hS:w.heap[gs]? = some (.cells #[.int .i64 0] 3 (0,0)))(hm:w.heap[gm]? = some (.cells (dW c eK) 31 (0,0)))
    (hl:w.heap[l]? = some (.loop (cy fn0 tm asg bdy D))) (hb1:w.heap[b1]? = some (.cells #[.pointer (some ⟨gb,0,none⟩)] 143 (0,0))) (hb2:w.heap[b2]? = some (.cells #[.func (.func 128) #[] #[]] 158 (0,0)))
    (n1:gb≠gs) (n2:gb≠gm) (n3:gb≠l) (n4:gs≠gm) (n5:gs≠l) (n6:gm≠l) (m1:b1≠gb) (m2:b1≠gs) (m3:b1≠gm) (m4:b1≠l) (k1:b2≠gb) (k2:b2≠gs) (k3:b2≠gm) (k4:b2≠l) (hround:lH w gb gs gm l c (cy fn0 tm asg bdy D)) :
    Calls Tryz.prog 131 #[.func (.yield l) #[] #[],.pointer (some ⟨b1,0,none⟩),.pointer (some ⟨b2,0,none⟩)] w (fun e W=>e = .returned (.tuple #[])∧∃ s A cp,JR w gb gs gm l c (cy fn0 tm asg bdy D) (aW cA C0.l.length 0 C0 []).1 s (aW cA C0.l.length 0 C0 []).2 A cp W):=by
 have hlen:=hC.len
 refine en 25 Tryz.func131 rfl<|bk<|?_
 refine fR (fun x=>[(0,.func (.yield l) #[] #[]),(1,.pointer (some ⟨b1,0,none⟩)),(2,.pointer (some ⟨b2,0,none⟩))]) (fun(x:Nat × ak × Int × List dU × Option Addr × Nat) w'=>au [gb,gs,gm,l] w w'∧ae w' gb x.2.1∧w'.heap[gs]? = some (.cells #[.int .i64 x.2.2.1] 3 (0,0))∧w'.heap[gm]? = some (.cells (dW c (.slice x.2.2.2.2.1 x.2.2.2.1.length x.2.2.2.2.2)) 31 (0,0))∧w'.heap[l]? = some (.loop (cy fn0 tm asg bdy D))∧aN w.heap.size 83 4 (bj true) w' (.slice x.2.2.2.2.1 x.2.2.2.1.length x.2.2.2.2.2) x.2.2.2.1∧(aW cA x.1 x.2.2.1 x.2.1 x.2.2.2.1=aW cA C0.l.length 0 C0 [])∧(x.2.1.l.length≤x.1)∧(0≤x.2.2.1∧x.2.2.1≤131074*(x.2.2.2.1.length:Int))∧(x.2.2.2.1.length+x.1≤C0.l.length)) (fun x=>x.1) (C0.l.length,C0,0,[],none,0) ⟨au.refl _ _,hC,hS,hm,hl,aN.nil ..,rfl,(Nat.le_refl _),(by(try dsimp only);omega),(by(try dsimp only);(try simp only[List.length_nil]);omega)⟩ ?_
 rintro⟨n,C,s,L,A,cp⟩ g ⟨k,I,J,M,N,O,P,Q,R,S⟩
 refine fz [(0,.func (.yield l) #[] #[]),(1,.pointer (some ⟨b1,0,none⟩)),(2,.pointer (some ⟨b2,0,none⟩))] ?_
 have b:ae g gb C:=I
 have p:g.heap[gs]? = some (.cells #[.int .i64 s] 3 (0,0)):=J
 have q:g.heap[gm]? = some (.cells (dW c (.slice A L.length cp)) 31 (0,0)):=M
 have t:g.heap[l]? = some (.loop (cy fn0 tm asg bdy D)):=N
 have h:aN w.heap.size 83 4 (bj true) g (.slice A L.length cp) L:=O
 have ac:aW cA n s C L=aW cA C0.l.length 0 C0 []:=P
 have ad:C.l.length≤n:=Q
 have af:0≤s∧s≤131074*(L.length:Int):=R
 have ai:L.length+n≤C0.l.length:=S
 have hrec:aW cA n s C L=aW cA C0.l.length 0 C0 []:=by assumption
 refine sq<|sg<|?_
 have m:=au.blk k (aa m1 (aa m2 (aa m3 (aa m4 ax)))) hb1
 refine L0<|aR m 0<|L0<|Oc<|mq (cE b)<|?_
 have aj:=ae.len b
 refine Pl 2<|cu 4 [8] 12 (((decide (0<((C.l.length:Nat) : Int)))&&(C.e==0))) (fun K B=>?_) ?_
 refine bl 8 ((decide (0<((C.l.length:Nat) : Int)))) (fun i=>?_) (fun i=>?_)
 have T:=of_decide_eq_true i
 refine L1<|aR m 0<|L1<|Oc<|mq (aX b)<|?_
 have al:=ae.len b
 exact Pl 2<|ce B (C.e==0) (by rw[i];rfl)
 have T:=of_decide_eq_false i
 exact Pl 4<|ce B false (by rw[i];rfl)
 refine nt<|cb (((decide (0<((C.l.length:Nat) : Int)))&&(C.e==0))) (fun d=>?_) (fun d=>?_)
 have v:=(bM d).1
 have y:=(bM d).2
 have an:=of_decide_eq_true v
 have ao:=aA y
 refine bB<|bk<|sg<|?_
 refine L0<|aR (au.blk k (aa k1 (aa k2 (aa k3 (aa k4 ax)))) hb2) 0<|L0<|aR m 0<|L0<|eP #[] #[] (args:=#[.pointer (some ⟨gb,0,none⟩)])<|sO (ns b) fun E F ap U V X Y Z a0=>?_
 obtain⟨ar,av⟩:=V
 obtain⟨aw,aC⟩:=X
 obtain⟨aD,aF⟩:=Y
 refine L0<|bz #[.int .u16 0,.int .u16 0,.int .u16 0,.slice none 0 0] fun aG aH a1 a2 a3=>L0<|b6 a2 #[.int .u16 ((ex C).file),.int .u16 ((ex C).record),.int .u16 ((ex C).count),.slice E ((ex C).words.length) F] fun a4 a5 a6=>nt<|sq<|ux 9<|?_
 have z:=ud a3 a6 a1
 have a:=aE a0 z
 refine F0<|aR (aO a m1 m) 0<|?_
 have o:=ae.old Z z
 refine F0<|Oc<|mq (aX o)<|?_
 have aI:=ae.len o
 refine Fp<|Fp<|?_
 have G:=u1 k a im
 refine uI 19 ((((ff C).e)!=0)) (fun j=>?_) (fun j=>?_)
 have a7:=ay j
 refine Fp<|Fp<|Fp<|Fp<|Fp<|oh<|tn<|c1<|rt<|br<|tr<|br<|rr (.tuple #[])<|?_
 have hfin:aW cA C0.l.length 0 C0 []=((ff C),L):=by
   rw[← hrec]
   rw[show n=(n-1)+1 from by omega]
   simp only[aW,cA,d,v,y,j,bs,if_true,if_false,decide_true,decide_false,reduceIte]
 refine⟨rfl,s,A,cp,?_⟩
 rw[hfin]
 exact⟨G,o,(aO a (Ne.symm n1) p),(aO a (Ne.symm n2) q),(am h a (fun x hx=>(aa (fun e=>(aq (ae.lt hC) lr h) (e▸hx)) ax)) (bj.upd16 a (ah (ae.safe b _ (by decide)) az))),(aO a (Ne.symm n3) t)⟩
 have a7:=ag j
 refine Fp<|F0<|c9 a5<|?_
 have H:=aO a (Ne.symm n3) t
 have a8:JR w gb gs gm l c (cy fn0 tm asg bdy D) (ff C) s L A cp a4:=⟨G,o,(aO a (Ne.symm n1) p),(aO a (Ne.symm n2) q),(am h a (fun x hx=>(aa (fun e=>(aq (ae.lt hC) lr h) (e▸hx)) ax)) (bj.upd16 a (ah (ae.safe b _ (by decide)) az))),H⟩
 refine Fy (r:=cy fn0 tm asg bdy D) (.agg #[.int .u16 ((ex C).file),.int .u16 ((ex C).record),.int .u16 ((ex C).count),.slice E ((ex C).words.length) F]) 53 H rfl<|?_
 refine RoundIn.mono (hround _ _ _ _ _ _ (ex C) _ _ a8 (dJ.upd' U z az) (aB (by omega)) (aB (by omega)) (aB (by omega)) (by omega)) ?_
 rintro _ aJ ⟨rfl,aK,a9,ab,f⟩
 refine⟨_,rfl,?_⟩
 exact Fp<|Fp<|oh<|tn<|c0<|sk<|bn<|dZ ((n-1),(ff C),s,(L++[(ex C)]),a9,ab) ⟨f.u,f.hC,f.hS,f.hm,f.hl,f.ho,(by(try dsimp only);rw[← hrec,show n=(n-1)+1 from by omega];simp only[aW,cA,d,v,y,j,bs,if_true,if_false,decide_true,decide_false,Nat.add_sub_cancel,reduceIte]),(by(try dsimp only);have hd:=p8 s C (by omega);have pW:(cA s C).2.1.l.length=(ff C).l.length:=rfl;omega),(by(try dsimp only);simp only[List.length_append,List.length_cons,List.length_nil];omega),(by(try dsimp only);simp only[List.length_append,List.length_cons,List.length_nil];omega)⟩ (by omega)
 refine xt<|tx<|tx<|bx<|rm (.tuple #[])<|?_
 have hfin:aW cA C0.l.length 0 C0 []=(C,L):=by
   rw[← hrec]
   exact fh _ _ _ _ _ (by simp only[d,bs,if_true,if_false,decide_true,decide_false])
 refine⟨rfl,s,A,cp,?_⟩
 rw[hfin]
 exact⟨k,b,p,q,h,t⟩
theorem sI{w:World}{gb gs gm l b1 b2 fn0 D:Nat}{tm:Array Value}{asg bdy:Code}{c:Int}{C0:ak}(hC:ae w gb C0)(hS:w.heap[gs]? = some (.cells #[.int .i64 0] 3 (0,0)))(hm:w.heap[gm]? = some (.cells (dW c eK) 31 (0,0)))
    (hl:w.heap[l]? = some (.loop (cy fn0 tm asg bdy D))) (hb1:w.heap[b1]? = some (.cells #[.pointer (some ⟨gb,0,none⟩)] 143 (0,0))) (hb2:w.heap[b2]? = some (.cells #[.func (.func 130) #[] #[]] 158 (0,0)))
    (n1:gb≠gs) (n2:gb≠gm) (n3:gb≠l) (n4:gs≠gm) (n5:gs≠l) (n6:gm≠l) (m1:b1≠gb) (m2:b1≠gs) (m3:b1≠gm) (m4:b1≠l) (k1:b2≠gb) (k2:b2≠gs) (k3:b2≠gm) (k4:b2≠l) (hround:lH w gb gs gm l c (cy fn0 tm asg bdy D)) :
    Calls Tryz.prog 131 #[.func (.yield l) #[] #[],.pointer (some ⟨b1,0,none⟩),.pointer (some ⟨b2,0,none⟩)] w (fun e W=>e = .returned (.tuple #[])∧∃ s A cp,JR w gb gs gm l c (cy fn0 tm asg bdy D) (aW dD C0.l.length 0 C0 []).1 s (aW dD C0.l.length 0 C0 []).2 A cp W):=by
 have hlen:=hC.len
 refine en 25 Tryz.func131 rfl<|bk<|?_
 refine fR (fun x=>[(0,.func (.yield l) #[] #[]),(1,.pointer (some ⟨b1,0,none⟩)),(2,.pointer (some ⟨b2,0,none⟩))]) (fun(x:Nat × ak × Int × List dU × Option Addr × Nat) w'=>au [gb,gs,gm,l] w w'∧ae w' gb x.2.1∧w'.heap[gs]? = some (.cells #[.int .i64 x.2.2.1] 3 (0,0))∧w'.heap[gm]? = some (.cells (dW c (.slice x.2.2.2.2.1 x.2.2.2.1.length x.2.2.2.2.2)) 31 (0,0))∧w'.heap[l]? = some (.loop (cy fn0 tm asg bdy D))∧aN w.heap.size 83 4 (bj true) w' (.slice x.2.2.2.2.1 x.2.2.2.1.length x.2.2.2.2.2) x.2.2.2.1∧(aW dD x.1 x.2.2.1 x.2.1 x.2.2.2.1=aW dD C0.l.length 0 C0 [])∧(x.2.1.l.length≤x.1)∧(0≤x.2.2.1∧x.2.2.1≤131074*(x.2.2.2.1.length:Int))∧(x.2.2.2.1.length+x.1≤C0.l.length)) (fun x=>x.1) (C0.l.length,C0,0,[],none,0) ⟨au.refl _ _,hC,hS,hm,hl,aN.nil ..,rfl,(Nat.le_refl _),(by(try dsimp only);omega),(by(try dsimp only);(try simp only[List.length_nil]);omega)⟩ ?_
 rintro⟨n,C,s,L,A,cp⟩ g ⟨k,I,J,M,N,O,P,Q,R,S⟩
 refine fz [(0,.func (.yield l) #[] #[]),(1,.pointer (some ⟨b1,0,none⟩)),(2,.pointer (some ⟨b2,0,none⟩))] ?_
 have b:ae g gb C:=I
 have p:g.heap[gs]? = some (.cells #[.int .i64 s] 3 (0,0)):=J
 have q:g.heap[gm]? = some (.cells (dW c (.slice A L.length cp)) 31 (0,0)):=M
 have t:g.heap[l]? = some (.loop (cy fn0 tm asg bdy D)):=N
 have h:aN w.heap.size 83 4 (bj true) g (.slice A L.length cp) L:=O
 have ac:aW dD n s C L=aW dD C0.l.length 0 C0 []:=P
 have ad:C.l.length≤n:=Q
 have af:0≤s∧s≤131074*(L.length:Int):=R
 have ai:L.length+n≤C0.l.length:=S
 have hrec:aW dD n s C L=aW dD C0.l.length 0 C0 []:=by assumption
 refine sq<|sg<|?_
 have m:=au.blk k (aa m1 (aa m2 (aa m3 (aa m4 ax)))) hb1
 refine L0<|aR m 0<|L0<|Oc<|mq (cE b)<|?_
 have aj:=ae.len b
 refine Pl 2<|cu 4 [8] 12 (((decide (0<((C.l.length:Nat) : Int)))&&(C.e==0))) (fun K B=>?_) ?_
 refine bl 8 ((decide (0<((C.l.length:Nat) : Int)))) (fun i=>?_) (fun i=>?_)
 have T:=of_decide_eq_true i
 refine L1<|aR m 0<|L1<|Oc<|mq (aX b)<|?_
 have al:=ae.len b
 exact Pl 2<|ce B (C.e==0) (by rw[i];rfl)
 have T:=of_decide_eq_false i
 exact Pl 4<|ce B false (by rw[i];rfl)
 refine nt<|cb (((decide (0<((C.l.length:Nat) : Int)))&&(C.e==0))) (fun d=>?_) (fun d=>?_)
 have v:=(bM d).1
 have y:=(bM d).2
 have an:=of_decide_eq_true v
 have ao:=aA y
 refine bB<|bk<|sg<|?_
 refine L0<|aR (au.blk k (aa k1 (aa k2 (aa k3 (aa k4 ax)))) hb2) 0<|L0<|aR m 0<|L0<|eP #[] #[] (args:=#[.pointer (some ⟨gb,0,none⟩)])<|sO (rC b) fun E F ap U V X Y Z a0=>?_
 obtain⟨ar,av⟩:=V
 obtain⟨aw,aC⟩:=X
 obtain⟨aD,aF⟩:=Y
 refine L0<|bz #[.int .u16 0,.int .u16 0,.int .u16 0,.slice none 0 0] fun aG aH a1 a2 a3=>L0<|b6 a2 #[.int .u16 ((gv C).file),.int .u16 ((gv C).record),.int .u16 ((gv C).count),.slice E ((gv C).words.length) F] fun a4 a5 a6=>nt<|sq<|ux 9<|?_
 have z:=ud a3 a6 a1
 have a:=aE a0 z
 refine F0<|aR (aO a m1 m) 0<|?_
 have o:=ae.old Z z
 refine F0<|Oc<|mq (aX o)<|?_
 have aI:=ae.len o
 refine Fp<|Fp<|?_
 have G:=u1 k a im
 refine uI 19 ((((iu C).e)!=0)) (fun j=>?_) (fun j=>?_)
 have a7:=ay j
 refine Fp<|Fp<|Fp<|Fp<|Fp<|oh<|tn<|c1<|rt<|br<|tr<|br<|rr (.tuple #[])<|?_
 have hfin:aW dD C0.l.length 0 C0 []=((iu C),L):=by
   rw[← hrec]
   rw[show n=(n-1)+1 from by omega]
   simp only[aW,dD,d,v,y,j,bs,if_true,if_false,decide_true,decide_false,reduceIte]
 refine⟨rfl,s,A,cp,?_⟩
 rw[hfin]
 exact⟨G,o,(aO a (Ne.symm n1) p),(aO a (Ne.symm n2) q),(am h a (fun x hx=>(aa (fun e=>(aq (ae.lt hC) lr h) (e▸hx)) ax)) (bj.upd16 a (ah (ae.safe b _ (by decide)) az))),(aO a (Ne.symm n3) t)⟩
 have a7:=ag j
 refine Fp<|F0<|c9 a5<|?_
 have H:=aO a (Ne.symm n3) t
 have a8:JR w gb gs gm l c (cy fn0 tm asg bdy D) (iu C) s L A cp a4:=⟨G,o,(aO a (Ne.symm n1) p),(aO a (Ne.symm n2) q),(am h a (fun x hx=>(aa (fun e=>(aq (ae.lt hC) lr h) (e▸hx)) ax)) (bj.upd16 a (ah (ae.safe b _ (by decide)) az))),H⟩
 refine Fy (r:=cy fn0 tm asg bdy D) (.agg #[.int .u16 ((gv C).file),.int .u16 ((gv C).record),.int .u16 ((gv C).count),.slice E ((gv C).words.length) F]) 53 H rfl<|?_
 refine RoundIn.mono (hround _ _ _ _ _ _ (gv C) _ _ a8 (dJ.upd' U z az) (aB (by omega)) (aB (by omega)) (aB (by omega)) (by omega)) ?_
 rintro _ aJ ⟨rfl,aK,a9,ab,f⟩
 refine⟨_,rfl,?_⟩
 exact Fp<|Fp<|oh<|tn<|c0<|sk<|bn<|dZ ((n-1),(iu C),s,(L++[(gv C)]),a9,ab) ⟨f.u,f.hC,f.hS,f.hm,f.hl,f.ho,(by(try dsimp only);rw[← hrec,show n=(n-1)+1 from by omega];simp only[aW,dD,d,v,y,j,bs,if_true,if_false,decide_true,decide_false,Nat.add_sub_cancel,reduceIte]),(by(try dsimp only);have hd:=rz s C (by omega);have pW:(dD s C).2.1.l.length=(iu C).l.length:=rfl;omega),(by(try dsimp only);simp only[List.length_append,List.length_cons,List.length_nil];omega),(by(try dsimp only);simp only[List.length_append,List.length_cons,List.length_nil];omega)⟩ (by omega)
 refine xt<|tx<|tx<|bx<|rm (.tuple #[])<|?_
 have hfin:aW dD C0.l.length 0 C0 []=(C,L):=by
   rw[← hrec]
   exact fh _ _ _ _ _ (by simp only[d,bs,if_true,if_false,decide_true,decide_false])
 refine⟨rfl,s,A,cp,?_⟩
 rw[hfin]
 exact⟨k,b,p,q,h,t⟩
open Go.RowKit
def fa (n:Int) : Bool:=(decide (7≤n)&&decide (n≤245))&&n%7==0
def f7 (n:Int) : Bool:=decide (4≤n)&&decide (n≤245)
def f9 (n:Int) : Bool:=decide (9≤n)&&decide (n≤251)
def rG (may:Int→Bool)(C:ak) : ak:=(C.bytesC 1).need (may C.byteV) 5
def rN (may:Int→Bool)(C:ak) : ak:=⟨(rG may C).bytesR C.byteV,false,0⟩
def rl (one:Int→ak→Int × ak × dU)(may:Int→Bool)(C:ak) : ak × List dU:=aW one (rN may C).l.length 0 (rN may C) []
def di (e:Int) : Int:=if e==2 then 5 else e
def ei (one:Int→ak→Int × ak × dU)(may:Int→Bool)(c:Int)(C:ak) : ak × bf :=
  (((rG may C).bytesC C.byteV).need ((rl one may C).1.e==0) (di (rl one may C).1.e),{ bf.zero with code:=c,recs:=(rl one may C).2 })
def aV (dir c:Int)(C:ak) : Option (ak × bf) :=
  if c==20 then (if dir==0 then some (ei dz fa c C) else some (ei cA f7 c C)) else if c==21 then some (ei dD f9 c C) else none
theorem iZ:((20:Int)==20)=true:=rfl
theorem iE:((21:Int)==20)=false:=rfl
theorem iA:((21:Int)==21)=true:=rfl
theorem kf{m:Bool}{A:Option Addr}{cp:Nat}{b:List Int}{w:World}{dir:Int}(hd:dir=0∨dir=1)(hsl:aM m w (.slice A b.length cp) b)(hb:b.length≤1048576) :
    Calls Tryz.prog 64 #[.int .i64 0,.int .u8 20,.slice A b.length cp] w (cO (al aV 0 20 b) w):=by
 have hln:(b.length:Int)≤1048576:=by omega
 have cQ:((dir != 0)&&(dir != 1))=false:=by rcases hd with rfl | rfl<;>rfl
 refine sZ 77 Tryz.func64 rfl<|sg<|L0<|bz mZ fun ad cR bp K af=>Pl 1<|nt<|sq<|sg<|Pl 6<|nt<|c0<|?_
 refine bB<|sg<|Pl 2<|L0<|Oc (args:=#[.int .i64 0,.int .u8 20])<|e3 qN fun v cS Z G N=>Pl 3<|L0<|bz #[.nilFunc,.nilFunc] fun cT cU ch bq z=>L0<|b6 bq #[.func (.func 126) #[] #[],.func (.func 124) #[] #[.pointer (some ⟨v,0,none⟩)]] fun cV ci t=>Pl 1<|nt<|sq<|sq<|?_
 refine go<|Pl 2<|nt<|c0<|bB<|sg<|Pl 1<|?_
 have ai:=ud z t ch
 have a0:=aE N ai
 have br:=aE af a0
 refine L0<|Oc<|e3 (cl (aM.old hsl br) (by omega)) fun a1 cW U M r=>Pl 1<|ng<|Pl 1<|L0<|Oc<|m3 (bi M) fun cX cj o cY=>L0<|Oi ((ak.mk b false 0).byteV)<|Pl 1<|ng<|?_
 refine Pl 2<|?_
 have aN:=ud r o U
 have bu:=ub aN ci
 refine L0<|aR bu 0<|Pl 1<|L0<|eP #[] #[] (args:=#[.int .i64 ((ak.mk b false 0).byteV)])<|m1 (kZ (n:=(ak.mk b false 0).byteV) (by omega)) fun cZ d=>?_
 refine L0<|Oc<|m2 (aL ((fa ((ak.mk b false 0).byteV))) 5 (ae.old cj d)) fun d0 cm i=>?_
 refine ab cm fun x49 bv bw=>?_
 refine ng<|Pl 2<|L0<|Oc<|nz (bC (n:=(ak.mk b false 0).byteV) bw) fun d1 d2 d3 cn d4 d5 co j=>?_
 have d6:=Nat.le_trans (ak.bytesR_le x49 ((ak.mk b false 0).byteV)) (ae.len bw)
 refine ab co fun x58 bx aP=>?_
 refine L0<|Oc<|e3 (cl cn (by omega)) fun O d7 P Q g=>Pl 1<|ng<|Pl 2<|L0<|bz mZ fun B d8 H V p=>L0<|b6 V (mC 20) fun d9 cq h=>nt<|sq<|sg<|?_
 refine Pl 2<|?_
 have an:=ud p h H
 have ao:=aE g an
 have bD:=uz d (u1 i (aE j ao) im)
 refine L0<|aR (aO bD (nb (aj bq) t.size U) bu) 1<|L0<|Oc<|sO (gS (gb:=O) (f:=.func 124) (x:=#[]) (y:=#[.pointer (some ⟨v,0,none⟩)])) fun cs ct da aU aZ db bE bF k=>nt<|bk<|?_
 refine lg (f:=131) #[.pointer (some ⟨cs,0,none⟩),.pointer (some ⟨ct,0,none⟩)] fun a ha=>?_
 intro dc cu I dd D E bG ar S J
 have bH:=nb (ae.lt Q) lr H
 have aw:=nb (ae.lt Q) (le (le p.size h.size) k.size) E
 have bI:=nb (aj G) (le (le (le (le (le (le (le z.size t.size) r.size) o.size) d.size) i.size) j.size) g.size) H
 have bJ:=nb (aj G) (le (le (le (le (le (le (le (le (le (le z.size t.size) r.size) o.size) d.size) i.size) j.size) g.size) p.size) h.size) k.size) E
 have a2:=nb (aj V) (le h.size k.size) E
 have X:=aE k J
 have bK:=ae.old Q (aE an X)
 have aA:=ud aN (aE bD X) U
 have bL:=ub (aE ai aA) G
 have b0:=ub X cq
 refine(sx (c:=20) bK bL b0 S (ub J bE) (ub J bF) (Ne.symm (nb (aj G) (le (le (le (le (le (le z.size t.size) r.size) o.size) d.size) i.size) j.size) P)) bH aw bI bJ a2 (Ne.symm (nb (ae.lt Q) an.size aU)) (Ne.symm (nb (aj G) (le (le (le (le (le (le (le (le (le z.size t.size) r.size) o.size) d.size) i.size) j.size) g.size) p.size) h.size) aU)) (Ne.symm (nb (aj V) h.size aU)) (nb (aj bE) lr E) (Ne.symm (nb (ae.lt Q) an.size aZ)) (Ne.symm (nb (aj G) (le (le (le (le (le (le (le (le (le z.size t.size) r.size) o.size) d.size) i.size) j.size) g.size) p.size) h.size) aZ)) (Ne.symm (nb (aj V) h.size aZ)) (nb (aj bF) lr E) ?_).mono ?_
 intro W C s L Ar cr x Ax cx hJ hrd hx1 hx2 hx3 hL
 simp only[dq] at hx1 hx2 hx3
 have hm2:W.heap[B]? = some (.cells #[.int .u8 20,.int .u8 0,.int .u16 0,.int .u16 0,.int .u16 0,.int .u16 0,.int .u16 0,.int .u16 0,.int .u16 0,.int .u16 0,.int .u16 0,.int .u16 0,.slice none 0 0,.slice none 0 0,.slice none 0 0,.slice Ar L.length cr,.int .u8 0,.int .u8 0,.int .u8 0,.int .u8 0,.int .u8 0,.slice none 0 0] 31 (0,0)):=hJ.hm
 refine hZ hJ.hl ?_
 refine uG ha 53<|t1<|ii<|bz #[.int .u16 0,.int .u16 0,.int .u16 0,.slice none 0 0] fun de df bM cv bN=>ii<|b6 cv #[.int .u16 x.file,.int .u16 x.record,.int .u16 x.count,.slice Ax x.words.length cx] fun dg cw bP=>oh<|?_
 have bQ:=ud bN bP bM
 refine uZ (ub bQ hJ.hl) (by trivial) fun dh cz b1=>un<|t1<|sY<|?_
 have b2:=uz bQ b1
 have bR:=aO b2 a2 hm2
 refine ii<|aR bR 15<|?_
 refine ii<|c9 (aO b1 (Ne.symm (nb (aj S) hJ.u.size bM)) cw)<|ii<|fk (m:=1) (e:=83) #[.int .u16 x.file,.int .u16 x.record,.int .u16 x.count,.slice Ax x.words.length cx] fun dj dk dl cA b3=>?_
 have Y:=aE b2 b3
 have cB:=lM (R:=bj true) (x:=(dU.mk x.file x.record x.count x.words)) cA rfl ⟨_,rfl,(dJ.updl hrd Y hJ.hl rfl),aB (by omega),aB (by omega),aB (by omega)⟩
 have b4:=am hJ.ho Y (fun x hx=>(aa (fun e=>(aq (aj S) lr hJ.ho) (e▸hx)) ax)) (bj.updl Y hJ.hl rfl)
 refine ii<|hM (xs:=L) (ys:=([(dU.mk x.file x.record x.count x.words)])) (.agg #[.int .u16 0,.int .u16 0,.int .u16 0,.slice none 0 0]) 4 32 b4 cB (by simp) bj.ones (fun w' hv=>bj.upd16 hv (bS (ck _ b4 (by decide)) az)) (by(try simp only[List.length_append,List.length_cons,List.length_nil,aT]);omega) (le (le (le (le hJ.u.size bN.size) bP.size) b1.size) b3.size) fun bT bU dm b5 aC=>sY<|?_
 have bV:=ut (au.mono (S':=(ob Ar++[])) b3 av) aC (ap il av)
 have b7:=au.blk bV (aK (aq (aj b0) lr hJ.ho) ax) bR
 refine ii<|bO b7 15 (mG 20 0 0 0 0 0 0 0 0 0 0 0 nS nS nS (.slice bT ((L++[(dU.mk x.file x.record x.count x.words)]).length) bU) 0 0 0 0 0 nS) fun dn cC a3=>oh<|bn<|?_
 have bW:=u1 (au.mono (S':=(ob Ar++(B :: []))) bV (ap il av)) a3 im
 have b9:=au.blk bW (aK (aq (aj S) lr hJ.ho) (aa (Ne.symm a2) ax)) cz
 refine ur b9 fun dp cD a4=>?_
 have ba:=ut (au.mono (S':=(I :: (ob Ar++(B :: [])))) Y (ac im av)) (ut (au.mono (S':=(ob Ar++(B :: (I :: [])))) aC (ap il av)) (us a3 a4) (ac im (ac im av))) (ap il (ac im (ac im av)))
 have dr:=ut hJ.u (ut (au.mono (S':=(I :: (ob Ar++(B :: [])))) b2 (ac im av)) bW (ap il (ac im av))) (ac im (ap (bt hJ.ho lr) (ac im av)))
 have ds:=ut hJ.u (ut (au.mono (S':=(I :: (ob Ar++[]))) Y (ac im av)) aC (ap il av)) (ac im (ap (bt hJ.ho lr) av))
 exact⟨by trivial,ba.size,bT,bU,⟨(ut hJ.u ba (ac im (ap (bt hJ.ho lr) (ac im av)))),(ae.updl (ae.upd (ae.upd (ae.updl hJ.hC Y (aa aw ax) hJ.hl rfl) aC (aK (aq (ae.lt bK) lr hJ.ho) ax) (bS (ck _ b4 (by decide)) az)) a3 (aa bH ax) (ah (aD b7 (by decide)) az)) a4 (aa aw ax) b9 rfl),(au.blk ba (aa bJ (aK (aq (aj bL) lr hJ.ho) (aa bI ax))) hJ.hS),(aO a4 a2 cC),(am (am b5 a3 (fun x hx=>(aa (fun e=>(aq (aj b0) lr b5) (e▸hx)) ax)) (bj.upd16 a3 (ah (aD b7 (by decide)) az))) a4 (fun x hx=>(aa (fun e=>(aq (aj S) lr b5) (e▸hx)) ax)) (bj.updl a4 b9 rfl)),cD⟩⟩
 rintro _ cE ⟨rfl,dt,bX,bY,q⟩
 refine⟨_,_,rfl,q.hl,by simp[cy],by trivial,fun du bZ=>?_⟩
 refine ab q.hC fun bb c1 cG=>?_
 have cH:cE.heap[B]? = some (.cells #[.int .u8 20,.int .u8 0,.int .u16 0,.int .u16 0,.int .u16 0,.int .u16 0,.int .u16 0,.int .u16 0,.int .u16 0,.int .u16 0,.int .u16 0,.int .u16 0,.slice none 0 0,.slice none 0 0,.slice none 0 0,.slice bX ((aW dz (ak.mk (x49.bytesR ((ak.mk b false 0).byteV)) false 0).l.length 0 (ak.mk (x49.bytesR ((ak.mk b false 0).byteV)) false 0) []).2.length) bY,.int .u8 0,.int .u8 0,.int .u8 0,.int .u8 0,.int .u8 0,.slice none 0 0] 31 (0,0)):=q.hm
 refine bn<|tn<|sg<|Pl 2<|?_
 have aF:=ae.updl cG bZ (aa aw ax) q.hl rfl
 refine L0<|Oc<|mq (aX aF)<|?_
 have dv:=ae.len aF
 refine Pl 2<|L0<|Oc<|mq (aX aF)<|?_
 have dw:=ae.len aF
 refine L0<|Oc<|m1 (fl (e:=bb.e)) fun dx cL=>?_
 have F:=aE bZ cL
 have c2:=u1 q.u F im
 have bc:=nb (aj G) ai.size U
 have aG:=ud aN (uz d (u1 i j im)) U
 have bd:=ub (aE ai aG) G
 have be:=ae.upd aP (ut (au.mono (S':=[v]) ao av) (ut (au.mono (S':=[O,v,B]) X av) c2 (ac im (ac im (ac im (ac (ni k.size E) av))))) (ac (nr P) (ac im (ac (ni g.size H) av)))) (aa (Ne.symm bc) ax) (ah (aD bd (by decide)) az)
 refine L0<|Oc<|m2 (aL ((bb.e==0)) (di bb.e) be) fun dy cM T=>?_
 refine ab cM fun c3 c4 bg=>?_
 refine ng<|Pl 1<|L0<|Oc<|m2 (bA bg) fun dA c5 a5=>nt<|sq<|sg<|Pl 1<|L0<|Oc<|mq (aX c5)<|?_
 have dB:=ae.len c5
 refine Pl 1<|ng<|Pl 2<|nt<|?_
 have a6:=u1 T a5 im
 have bh:=u1 (au.mono (S':=[O,v,B,I,a1]) c2 (ac im (ac im (ac im (ac im av))))) a6 im
 have bl:=ut (au.mono (S':=[v]) aA av) bh (ac (ni aG.size P) (ac im (ac (ni (le (le (le (le (le r.size o.size) d.size) i.size) j.size) g.size) H) (ac (ni (le (le (le (le (le (le (le (le r.size o.size) d.size) i.size) j.size) g.size) p.size) h.size) k.size) E) (ac (nr U) av)))))
 have c6:=ud br bl (le af.size Z)
 refine cb ((c3.endC.e != 0)) (fun a7=>?_) (fun a7=>?_)
 have bm:=ay a7
 refine sg<|Pl 2<|?_
 have c7:=ub (ud a0 bl Z) K
 refine L0<|b6 c7 mZ fun dC cN a8=>Pl 1<|nt<|rt<|tr<|?_
 have c8:=nb (aj K) (le (le (le (le (le (le (le (le (le (le (le N.size z.size) t.size) r.size) o.size) d.size) i.size) j.size) g.size) p.size) h.size) k.size) D
 have ca:=au.blk (u1 (au.mono (S':=[O,v,B,I,a1,ad]) bh (ac im (ac im (ac im (ac im (ac im av)))))) a8 im) (aa (Ne.symm (nb (ae.lt Q) (le (le p.size h.size) k.size) D)) (aa (Ne.symm (nb (aj G) (le (le (le (le (le (le (le (le (le (le z.size t.size) r.size) o.size) d.size) i.size) j.size) g.size) p.size) h.size) k.size) D)) (aa (Ne.symm (nb (aj V) (le h.size k.size) D)) (aa bG (aa (Ne.symm (nb (ae.lt M) (le (le (le (le (le (le (le o.size d.size) i.size) j.size) g.size) p.size) h.size) k.size) D)) (aa (Ne.symm c8) ax)))))) ar
 refine sX ca fun dD aI=>?_
 refine rx (aO aI c8 cN) (.int .i64 c3.endC.e)<|?_
 subst c4 c1 bx bv
 have cc:=us a8 aI
 have dE:=us F (us a6 cc)
 have dF:=us F (us a6 a8)
 have dG:=ub (ud a0 (ut (au.mono (S':=[v]) aA av) q.u (ac (ni aG.size P) (ac im (ac (ni (le (le (le (le (le r.size o.size) d.size) i.size) j.size) g.size) H) (ac (ni (le (le (le (le (le (le (le (le r.size o.size) d.size) i.size) j.size) g.size) p.size) h.size) k.size) E) av))))) Z) K
 have dH:=ae.upd aP (ut (au.mono (S':=[v]) ao av) (ut (au.mono (S':=[O,v,B]) X av) q.u (ac im (ac im (ac im (ac (ni k.size E) av))))) (ac (nr P) (ac im (ac (ni g.size H) av)))) (aa (Ne.symm bc) ax) (ah (aD bd (by decide)) az)
 have dI:=us F a6
 have dK:=us F T
 have dL:=am (am (am (am (am q.ho F (fun x hx=>(aa (fun e=>(aq (aj S) lr q.ho) (e▸hx)) ax)) (bj.updl F q.hl rfl)) T (fun x hx=>(aa (fun e=>(aq (ae.lt M) (le (le (le (le (le (le (le (le o.size d.size) i.size) j.size) g.size) p.size) h.size) k.size) J.size) q.ho) (e▸hx)) ax)) (bj.upd16 T (ah (ae.safe be _ (by decide)) az))) a5 (fun x hx=>(aa (fun e=>(aq (ae.lt M) (le (le (le (le (le (le (le (le o.size d.size) i.size) j.size) g.size) p.size) h.size) k.size) J.size) q.ho) (e▸hx)) ax)) (bj.upd16 a5 (ah (ae.safe bg _ (by decide)) az))) a8 (fun x hx=>(aa (fun e=>(aq (aj K) (le (le (le (le (le (le (le (le (le (le (le (le N.size z.size) t.size) r.size) o.size) d.size) i.size) j.size) g.size) p.size) h.size) k.size) J.size) q.ho) (e▸hx)) ax)) (bj.upd16 a8 (ah (aD c7 (by decide)) az))) aI (fun x hx=>(aa (fun e=>(aq (aj ar) lr q.ho) (e▸hx)) ax)) (bj.updl aI ca rfl)
 have hs:al aV 0 20 b=aQ (bf.mk 20 0 0 0 0 0 0 0 0 0 0 0 [] [] [] (aW dz (ak.mk ((((ak.mk b false 0).bytesC 1).need (fa ((ak.mk b false 0).byteV)) 5).bytesR ((ak.mk b false 0).byteV)) false 0).l.length 0 (ak.mk ((((ak.mk b false 0).bytesC 1).need (fa ((ak.mk b false 0).byteV)) 5).bytesR ((ak.mk b false 0).byteV)) false 0) []).2 0 0 0 0 0 []) (((((ak.mk b false 0).bytesC 1).need (fa ((ak.mk b false 0).byteV)) 5).bytesC ((ak.mk b false 0).byteV)).need (((aW dz (ak.mk ((((ak.mk b false 0).bytesC 1).need (fa ((ak.mk b false 0).byteV)) 5).bytesR ((ak.mk b false 0).byteV)) false 0).l.length 0 (ak.mk ((((ak.mk b false 0).bytesC 1).need (fa ((ak.mk b false 0).byteV)) 5).bytesR ((ak.mk b false 0).byteV)) false 0) []).1).e==0) (di ((aW dz (ak.mk ((((ak.mk b false 0).bytesC 1).need (fa ((ak.mk b false 0).byteV)) 5).bytesR ((ak.mk b false 0).byteV)) false 0).l.length 0 (ak.mk ((((ak.mk b false 0).bytesC 1).need (fa ((ak.mk b false 0).byteV)) 5).bytesR ((ak.mk b false 0).byteV)) false 0) []).1).e)):=by
   unfold al aV ei rl rN rG
   (try simp only[a7,bs,if_true,if_false,decide_true,decide_false,eq_self,true_or,or_true,or_false,false_or,if_true,if_false,cJ,cK,cF,cI,reduceIte,iZ,iE,iA])
   all_goals rfl
 rw[hs]
 exact aS bm (ut c6 cc (ac (nr bp) (ac (ni (le (le (le (le (le (le (le (le (le (le (le (le af.size N.size) z.size) t.size) r.size) o.size) d.size) i.size) j.size) g.size) p.size) h.size) k.size) D) av)))
 have bm:=ag a7
 refine bB<|sg<|?_
 have bo:=us F a6
 refine L0<|c9 (au.blk bo (aa a2 (aa (Ne.symm (nb (ae.lt M) (le (le (le (le o.size d.size) i.size) j.size) g.size) H)) ax)) cH)<|?_
 have cd:=ub (ud a0 bl Z) K
 refine L0<|b6 cd (mG 20 0 0 0 0 0 0 0 0 0 0 0 nS nS nS (.slice bX ((aW dz (ak.mk (x49.bytesR ((ak.mk b false 0).byteV)) false 0).l.length 0 (ak.mk (x49.bytesR ((ak.mk b false 0).byteV)) false 0) []).2.length) bY) 0 0 0 0 0 nS) fun dM cP a9=>Pl 1<|nt<|rt<|?_
 have ce:=nb (aj K) (le (le (le (le (le (le (le (le (le (le (le N.size z.size) t.size) r.size) o.size) d.size) i.size) j.size) g.size) p.size) h.size) k.size) D
 have cf:=au.blk (u1 (au.mono (S':=[O,v,B,I,a1,ad]) bh (ac im (ac im (ac im (ac im (ac im av)))))) a9 im) (aa (Ne.symm (nb (ae.lt Q) (le (le p.size h.size) k.size) D)) (aa (Ne.symm (nb (aj G) (le (le (le (le (le (le (le (le (le (le z.size t.size) r.size) o.size) d.size) i.size) j.size) g.size) p.size) h.size) k.size) D)) (aa (Ne.symm (nb (aj V) (le h.size k.size) D)) (aa bG (aa (Ne.symm (nb (ae.lt M) (le (le (le (le (le (le (le o.size d.size) i.size) j.size) g.size) p.size) h.size) k.size) D)) (aa (Ne.symm ce) ax)))))) ar
 refine sX cf fun dN aJ=>?_
 refine rx (aO aJ ce cP) (.int .i64 0)<|?_
 subst c4 c1 bx bv
 have cg:=us a9 aJ
 have dO:=ut (au.mono (S':=[I,a1,ad,cu]) bo (ac im (ac im av))) cg (ac im (ac im av))
 have dP:=u1 (au.mono (S':=[I,a1,ad]) bo (ac im (ac im av))) a9 im
 have dQ:=ub (ud a0 (ut (au.mono (S':=[v]) aA av) q.u (ac (ni aG.size P) (ac im (ac (ni (le (le (le (le (le r.size o.size) d.size) i.size) j.size) g.size) H) (ac (ni (le (le (le (le (le (le (le (le r.size o.size) d.size) i.size) j.size) g.size) p.size) h.size) k.size) E) av))))) Z) K
 have dR:=ae.upd aP (ut (au.mono (S':=[v]) ao av) (ut (au.mono (S':=[O,v,B]) X av) q.u (ac im (ac im (ac im (ac (ni k.size E) av))))) (ac (nr P) (ac im (ac (ni g.size H) av)))) (aa (Ne.symm bc) ax) (ah (aD bd (by decide)) az)
 have dS:=us F T
 have hs:al aV 0 20 b=aQ (bf.mk 20 0 0 0 0 0 0 0 0 0 0 0 [] [] [] (aW dz (ak.mk ((((ak.mk b false 0).bytesC 1).need (fa ((ak.mk b false 0).byteV)) 5).bytesR ((ak.mk b false 0).byteV)) false 0).l.length 0 (ak.mk ((((ak.mk b false 0).bytesC 1).need (fa ((ak.mk b false 0).byteV)) 5).bytesR ((ak.mk b false 0).byteV)) false 0) []).2 0 0 0 0 0 []) (((((ak.mk b false 0).bytesC 1).need (fa ((ak.mk b false 0).byteV)) 5).bytesC ((ak.mk b false 0).byteV)).need (((aW dz (ak.mk ((((ak.mk b false 0).bytesC 1).need (fa ((ak.mk b false 0).byteV)) 5).bytesR ((ak.mk b false 0).byteV)) false 0).l.length 0 (ak.mk ((((ak.mk b false 0).bytesC 1).need (fa ((ak.mk b false 0).byteV)) 5).bytesR ((ak.mk b false 0).byteV)) false 0) []).1).e==0) (di ((aW dz (ak.mk ((((ak.mk b false 0).bytesC 1).need (fa ((ak.mk b false 0).byteV)) 5).bytesR ((ak.mk b false 0).byteV)) false 0).l.length 0 (ak.mk ((((ak.mk b false 0).bytesC 1).need (fa ((ak.mk b false 0).byteV)) 5).bytesR ((ak.mk b false 0).byteV)) false 0) []).1).e)):=by
   unfold al aV ei rl rN rG
   (try simp only[a7,bs,if_true,if_false,decide_true,decide_false,eq_self,true_or,or_true,or_false,false_or,if_true,if_false,cJ,cK,cF,cI,reduceIte,iZ,iE,iA])
   all_goals rfl
 rw[hs]
 exact aY bm ⟨_,_,_,_,_,rfl,aH.nil ..,aH.nil ..,aH.nil ..,((am (am (am (am (am q.ho F (fun x hx=>(aa (fun e=>(aq (aj S) lr q.ho) (e▸hx)) ax)) (bj.updl F q.hl rfl)) T (fun x hx=>(aa (fun e=>(aq (ae.lt M) (le (le (le (le (le (le (le (le o.size d.size) i.size) j.size) g.size) p.size) h.size) k.size) J.size) q.ho) (e▸hx)) ax)) (bj.upd16 T (ah (ae.safe be _ (by decide)) az))) a5 (fun x hx=>(aa (fun e=>(aq (ae.lt M) (le (le (le (le (le (le (le (le o.size d.size) i.size) j.size) g.size) p.size) h.size) k.size) J.size) q.ho) (e▸hx)) ax)) (bj.upd16 a5 (ah (ae.safe bg _ (by decide)) az))) a9 (fun x hx=>(aa (fun e=>(aq (aj K) (le (le (le (le (le (le (le (le (le (le (le (le N.size z.size) t.size) r.size) o.size) d.size) i.size) j.size) g.size) p.size) h.size) k.size) J.size) q.ho) (e▸hx)) ax)) (bj.upd16 a9 (ah (aD cd (by decide)) az))) aJ (fun x hx=>(aa (fun e=>(aq (aj ar) lr q.ho) (e▸hx)) ax)) (bj.updl aJ cf rfl))).rd,aH.nil ..,⟨(b8 (x:=20) (by omega)),(b8 (x:=0) (by omega)),(aB (x:=0) (by omega)),(aB (x:=0) (by omega)),(aB (x:=0) (by omega)),(aB (x:=0) (by omega)),(aB (x:=0) (by omega)),(aB (x:=0) (by omega)),(aB (x:=0) (by omega)),(aB (x:=0) (by omega)),(aB (x:=0) (by omega)),(aB (x:=0) (by omega)),(b8 (x:=0) (by omega)),(b8 (x:=0) (by omega)),(b8 (x:=0) (by omega)),(b8 (x:=0) (by omega)),(b8 (x:=0) (by omega))⟩⟩ (ut c6 cg (ac (nr bp) (ac (ni (le (le (le (le (le (le (le (le (le (le (le (le af.size N.size) z.size) t.size) r.size) o.size) d.size) i.size) j.size) g.size) p.size) h.size) k.size) D) av)))
theorem jO{m:Bool}{A:Option Addr}{cp:Nat}{b:List Int}{w:World}{dir:Int}(hd:dir=0∨dir=1)(hsl:aM m w (.slice A b.length cp) b)(hb:b.length≤1048576) :
    Calls Tryz.prog 64 #[.int .i64 1,.int .u8 20,.slice A b.length cp] w (cO (al aV 1 20 b) w):=by
 have hln:(b.length:Int)≤1048576:=by omega
 have cR:((dir != 0)&&(dir != 1))=false:=by rcases hd with rfl | rfl<;>rfl
 refine sZ 77 Tryz.func64 rfl<|sg<|L0<|bz mZ fun ad cS bp K af=>Pl 1<|nt<|sq<|sg<|Pl 6<|nt<|c0<|?_
 refine bB<|sg<|Pl 2<|L0<|Oc (args:=#[.int .i64 1,.int .u8 20])<|e3 pZ fun z cT Z G N=>Pl 3<|L0<|bz #[.nilFunc,.nilFunc] fun cU cV ch bq v=>L0<|b6 bq #[.func (.func 127) #[] #[],.func (.func 128) #[] #[]] fun cW ci t=>Pl 1<|nt<|sq<|sq<|?_
 refine go<|Pl 2<|nt<|c0<|bB<|sg<|Pl 1<|?_
 have ai:=ud v t ch
 have a0:=aE N ai
 have br:=aE af a0
 refine L0<|Oc<|e3 (cl (aM.old hsl br) (by omega)) fun a1 cX U M r=>Pl 1<|ng<|Pl 1<|L0<|Oc<|m3 (bi M) fun cY cj o cZ=>L0<|Oi ((ak.mk b false 0).byteV)<|Pl 1<|ng<|?_
 refine Pl 2<|?_
 have aN:=ud r o U
 have bu:=ub aN ci
 refine L0<|aR bu 0<|Pl 1<|L0<|eP #[] #[] (args:=#[.int .i64 ((ak.mk b false 0).byteV)])<|m1 (kV (n:=(ak.mk b false 0).byteV) (by omega)) fun d0 d=>?_
 refine L0<|Oc<|m2 (aL ((f7 ((ak.mk b false 0).byteV))) 5 (ae.old cj d)) fun d1 cm i=>?_
 refine ab cm fun x49 bv bw=>?_
 refine ng<|Pl 2<|L0<|Oc<|nz (bC (n:=(ak.mk b false 0).byteV) bw) fun d2 d3 d4 cn d5 d6 co j=>?_
 have d7:=Nat.le_trans (ak.bytesR_le x49 ((ak.mk b false 0).byteV)) (ae.len bw)
 refine ab co fun x58 bx aP=>?_
 refine L0<|Oc<|e3 (cl cn (by omega)) fun O d8 P Q g=>Pl 1<|ng<|Pl 2<|L0<|bz mZ fun B d9 H V p=>L0<|b6 V (mC 20) fun da cq h=>nt<|sq<|sg<|?_
 refine Pl 2<|?_
 have an:=ud p h H
 have ao:=aE g an
 have bD:=uz d (u1 i (aE j ao) im)
 refine L0<|aR (aO bD (nb (aj bq) t.size U) bu) 1<|L0<|Oc<|sO (gS (gb:=O) (f:=.func 128) (x:=#[]) (y:=#[])) fun cs ct db aU aZ dc bE bF k=>nt<|bk<|?_
 refine lg (f:=131) #[.pointer (some ⟨cs,0,none⟩),.pointer (some ⟨ct,0,none⟩)] fun a ha=>?_
 intro dd cu I de D E bG ar S J
 have bH:=nb (ae.lt Q) lr H
 have aw:=nb (ae.lt Q) (le (le p.size h.size) k.size) E
 have bI:=nb (aj G) (le (le (le (le (le (le (le v.size t.size) r.size) o.size) d.size) i.size) j.size) g.size) H
 have bJ:=nb (aj G) (le (le (le (le (le (le (le (le (le (le v.size t.size) r.size) o.size) d.size) i.size) j.size) g.size) p.size) h.size) k.size) E
 have a2:=nb (aj V) (le h.size k.size) E
 have X:=aE k J
 have bK:=ae.old Q (aE an X)
 have aA:=ud aN (aE bD X) U
 have bL:=ub (aE ai aA) G
 have b0:=ub X cq
 refine(sm (c:=20) bK bL b0 S (ub J bE) (ub J bF) (Ne.symm (nb (aj G) (le (le (le (le (le (le v.size t.size) r.size) o.size) d.size) i.size) j.size) P)) bH aw bI bJ a2 (Ne.symm (nb (ae.lt Q) an.size aU)) (Ne.symm (nb (aj G) (le (le (le (le (le (le (le (le (le v.size t.size) r.size) o.size) d.size) i.size) j.size) g.size) p.size) h.size) aU)) (Ne.symm (nb (aj V) h.size aU)) (nb (aj bE) lr E) (Ne.symm (nb (ae.lt Q) an.size aZ)) (Ne.symm (nb (aj G) (le (le (le (le (le (le (le (le (le v.size t.size) r.size) o.size) d.size) i.size) j.size) g.size) p.size) h.size) aZ)) (Ne.symm (nb (aj V) h.size aZ)) (nb (aj bF) lr E) ?_).mono ?_
 intro W C s L Ar cr x Ax cx hJ hrd hx1 hx2 hx3 hL
 simp only[dq] at hx1 hx2 hx3
 have hm2:W.heap[B]? = some (.cells #[.int .u8 20,.int .u8 0,.int .u16 0,.int .u16 0,.int .u16 0,.int .u16 0,.int .u16 0,.int .u16 0,.int .u16 0,.int .u16 0,.int .u16 0,.int .u16 0,.slice none 0 0,.slice none 0 0,.slice none 0 0,.slice Ar L.length cr,.int .u8 0,.int .u8 0,.int .u8 0,.int .u8 0,.int .u8 0,.slice none 0 0] 31 (0,0)):=hJ.hm
 refine hZ hJ.hl ?_
 refine uG ha 53<|t1<|ii<|bz #[.int .u16 0,.int .u16 0,.int .u16 0,.slice none 0 0] fun df dg bM cv bN=>ii<|b6 cv #[.int .u16 x.file,.int .u16 x.record,.int .u16 x.count,.slice Ax x.words.length cx] fun dh cw bP=>oh<|?_
 have bQ:=ud bN bP bM
 refine uZ (ub bQ hJ.hl) (by trivial) fun dj cz b1=>un<|t1<|sY<|?_
 have b2:=uz bQ b1
 have bR:=aO b2 a2 hm2
 refine ii<|aR bR 15<|?_
 refine ii<|c9 (aO b1 (Ne.symm (nb (aj S) hJ.u.size bM)) cw)<|ii<|fk (m:=1) (e:=83) #[.int .u16 x.file,.int .u16 x.record,.int .u16 x.count,.slice Ax x.words.length cx] fun dk dl dm cB b3=>?_
 have Y:=aE b2 b3
 have cC:=lM (R:=bj true) (x:=(dU.mk x.file x.record x.count x.words)) cB rfl ⟨_,rfl,(dJ.updl hrd Y hJ.hl rfl),aB (by omega),aB (by omega),aB (by omega)⟩
 have b4:=am hJ.ho Y (fun x hx=>(aa (fun e=>(aq (aj S) lr hJ.ho) (e▸hx)) ax)) (bj.updl Y hJ.hl rfl)
 refine ii<|hM (xs:=L) (ys:=([(dU.mk x.file x.record x.count x.words)])) (.agg #[.int .u16 0,.int .u16 0,.int .u16 0,.slice none 0 0]) 4 32 b4 cC (by simp) bj.ones (fun w' hv=>bj.upd16 hv (bS (ck _ b4 (by decide)) az)) (by(try simp only[List.length_append,List.length_cons,List.length_nil,aT]);omega) (le (le (le (le hJ.u.size bN.size) bP.size) b1.size) b3.size) fun bT bU dn b5 aC=>sY<|?_
 have bV:=ut (au.mono (S':=(ob Ar++[])) b3 av) aC (ap il av)
 have b7:=au.blk bV (aK (aq (aj b0) lr hJ.ho) ax) bR
 refine ii<|bO b7 15 (mG 20 0 0 0 0 0 0 0 0 0 0 0 nS nS nS (.slice bT ((L++[(dU.mk x.file x.record x.count x.words)]).length) bU) 0 0 0 0 0 nS) fun dp cD a3=>oh<|bn<|?_
 have bW:=u1 (au.mono (S':=(ob Ar++(B :: []))) bV (ap il av)) a3 im
 have b9:=au.blk bW (aK (aq (aj S) lr hJ.ho) (aa (Ne.symm a2) ax)) cz
 refine ur b9 fun dr cE a4=>?_
 have ba:=ut (au.mono (S':=(I :: (ob Ar++(B :: [])))) Y (ac im av)) (ut (au.mono (S':=(ob Ar++(B :: (I :: [])))) aC (ap il av)) (us a3 a4) (ac im (ac im av))) (ap il (ac im (ac im av)))
 have ds:=ut hJ.u (ut (au.mono (S':=(I :: (ob Ar++(B :: [])))) b2 (ac im av)) bW (ap il (ac im av))) (ac im (ap (bt hJ.ho lr) (ac im av)))
 have dt:=ut hJ.u (ut (au.mono (S':=(I :: (ob Ar++[]))) Y (ac im av)) aC (ap il av)) (ac im (ap (bt hJ.ho lr) av))
 exact⟨by trivial,ba.size,bT,bU,⟨(ut hJ.u ba (ac im (ap (bt hJ.ho lr) (ac im av)))),(ae.updl (ae.upd (ae.upd (ae.updl hJ.hC Y (aa aw ax) hJ.hl rfl) aC (aK (aq (ae.lt bK) lr hJ.ho) ax) (bS (ck _ b4 (by decide)) az)) a3 (aa bH ax) (ah (aD b7 (by decide)) az)) a4 (aa aw ax) b9 rfl),(au.blk ba (aa bJ (aK (aq (aj bL) lr hJ.ho) (aa bI ax))) hJ.hS),(aO a4 a2 cD),(am (am b5 a3 (fun x hx=>(aa (fun e=>(aq (aj b0) lr b5) (e▸hx)) ax)) (bj.upd16 a3 (ah (aD b7 (by decide)) az))) a4 (fun x hx=>(aa (fun e=>(aq (aj S) lr b5) (e▸hx)) ax)) (bj.updl a4 b9 rfl)),cE⟩⟩
 rintro _ cG ⟨rfl,du,bX,bY,q⟩
 refine⟨_,_,rfl,q.hl,by simp[cy],by trivial,fun dv bZ=>?_⟩
 refine ab q.hC fun bb c1 cH=>?_
 have cL:cG.heap[B]? = some (.cells #[.int .u8 20,.int .u8 0,.int .u16 0,.int .u16 0,.int .u16 0,.int .u16 0,.int .u16 0,.int .u16 0,.int .u16 0,.int .u16 0,.int .u16 0,.int .u16 0,.slice none 0 0,.slice none 0 0,.slice none 0 0,.slice bX ((aW cA (ak.mk (x49.bytesR ((ak.mk b false 0).byteV)) false 0).l.length 0 (ak.mk (x49.bytesR ((ak.mk b false 0).byteV)) false 0) []).2.length) bY,.int .u8 0,.int .u8 0,.int .u8 0,.int .u8 0,.int .u8 0,.slice none 0 0] 31 (0,0)):=q.hm
 refine bn<|tn<|sg<|Pl 2<|?_
 have aF:=ae.updl cH bZ (aa aw ax) q.hl rfl
 refine L0<|Oc<|mq (aX aF)<|?_
 have dw:=ae.len aF
 refine Pl 2<|L0<|Oc<|mq (aX aF)<|?_
 have dx:=ae.len aF
 refine L0<|Oc<|m1 (fl (e:=bb.e)) fun dy cM=>?_
 have F:=aE bZ cM
 have c2:=u1 q.u F im
 have bc:=nb (aj G) ai.size U
 have aG:=ud aN (uz d (u1 i j im)) U
 have bd:=ub (aE ai aG) G
 have be:=ae.upd aP (ut (au.mono (S':=[z]) ao av) (ut (au.mono (S':=[O,z,B]) X av) c2 (ac im (ac im (ac im (ac (ni k.size E) av))))) (ac (nr P) (ac im (ac (ni g.size H) av)))) (aa (Ne.symm bc) ax) (ah (aD bd (by decide)) az)
 refine L0<|Oc<|m2 (aL ((bb.e==0)) (di bb.e) be) fun dz cN T=>?_
 refine ab cN fun c3 c4 bg=>?_
 refine ng<|Pl 1<|L0<|Oc<|m2 (bA bg) fun dA c5 a5=>nt<|sq<|sg<|Pl 1<|L0<|Oc<|mq (aX c5)<|?_
 have dB:=ae.len c5
 refine Pl 1<|ng<|Pl 2<|nt<|?_
 have a6:=u1 T a5 im
 have bh:=u1 (au.mono (S':=[O,z,B,I,a1]) c2 (ac im (ac im (ac im (ac im av))))) a6 im
 have bl:=ut (au.mono (S':=[z]) aA av) bh (ac (ni aG.size P) (ac im (ac (ni (le (le (le (le (le r.size o.size) d.size) i.size) j.size) g.size) H) (ac (ni (le (le (le (le (le (le (le (le r.size o.size) d.size) i.size) j.size) g.size) p.size) h.size) k.size) E) (ac (nr U) av)))))
 have c6:=ud br bl (le af.size Z)
 refine cb ((c3.endC.e != 0)) (fun a7=>?_) (fun a7=>?_)
 have bm:=ay a7
 refine sg<|Pl 2<|?_
 have c7:=ub (ud a0 bl Z) K
 refine L0<|b6 c7 mZ fun dC cP a8=>Pl 1<|nt<|rt<|tr<|?_
 have c8:=nb (aj K) (le (le (le (le (le (le (le (le (le (le (le N.size v.size) t.size) r.size) o.size) d.size) i.size) j.size) g.size) p.size) h.size) k.size) D
 have ca:=au.blk (u1 (au.mono (S':=[O,z,B,I,a1,ad]) bh (ac im (ac im (ac im (ac im (ac im av)))))) a8 im) (aa (Ne.symm (nb (ae.lt Q) (le (le p.size h.size) k.size) D)) (aa (Ne.symm (nb (aj G) (le (le (le (le (le (le (le (le (le (le v.size t.size) r.size) o.size) d.size) i.size) j.size) g.size) p.size) h.size) k.size) D)) (aa (Ne.symm (nb (aj V) (le h.size k.size) D)) (aa bG (aa (Ne.symm (nb (ae.lt M) (le (le (le (le (le (le (le o.size d.size) i.size) j.size) g.size) p.size) h.size) k.size) D)) (aa (Ne.symm c8) ax)))))) ar
 refine sX ca fun dD aI=>?_
 refine rx (aO aI c8 cP) (.int .i64 c3.endC.e)<|?_
 subst c4 c1 bx bv
 have cc:=us a8 aI
 have dE:=us F (us a6 cc)
 have dF:=us F (us a6 a8)
 have dG:=ub (ud a0 (ut (au.mono (S':=[z]) aA av) q.u (ac (ni aG.size P) (ac im (ac (ni (le (le (le (le (le r.size o.size) d.size) i.size) j.size) g.size) H) (ac (ni (le (le (le (le (le (le (le (le r.size o.size) d.size) i.size) j.size) g.size) p.size) h.size) k.size) E) av))))) Z) K
 have dH:=ae.upd aP (ut (au.mono (S':=[z]) ao av) (ut (au.mono (S':=[O,z,B]) X av) q.u (ac im (ac im (ac im (ac (ni k.size E) av))))) (ac (nr P) (ac im (ac (ni g.size H) av)))) (aa (Ne.symm bc) ax) (ah (aD bd (by decide)) az)
 have dI:=us F a6
 have dK:=us F T
 have dL:=am (am (am (am (am q.ho F (fun x hx=>(aa (fun e=>(aq (aj S) lr q.ho) (e▸hx)) ax)) (bj.updl F q.hl rfl)) T (fun x hx=>(aa (fun e=>(aq (ae.lt M) (le (le (le (le (le (le (le (le o.size d.size) i.size) j.size) g.size) p.size) h.size) k.size) J.size) q.ho) (e▸hx)) ax)) (bj.upd16 T (ah (ae.safe be _ (by decide)) az))) a5 (fun x hx=>(aa (fun e=>(aq (ae.lt M) (le (le (le (le (le (le (le (le o.size d.size) i.size) j.size) g.size) p.size) h.size) k.size) J.size) q.ho) (e▸hx)) ax)) (bj.upd16 a5 (ah (ae.safe bg _ (by decide)) az))) a8 (fun x hx=>(aa (fun e=>(aq (aj K) (le (le (le (le (le (le (le (le (le (le (le (le N.size v.size) t.size) r.size) o.size) d.size) i.size) j.size) g.size) p.size) h.size) k.size) J.size) q.ho) (e▸hx)) ax)) (bj.upd16 a8 (ah (aD c7 (by decide)) az))) aI (fun x hx=>(aa (fun e=>(aq (aj ar) lr q.ho) (e▸hx)) ax)) (bj.updl aI ca rfl)
 have hs:al aV 1 20 b=aQ (bf.mk 20 0 0 0 0 0 0 0 0 0 0 0 [] [] [] (aW cA (ak.mk ((((ak.mk b false 0).bytesC 1).need (f7 ((ak.mk b false 0).byteV)) 5).bytesR ((ak.mk b false 0).byteV)) false 0).l.length 0 (ak.mk ((((ak.mk b false 0).bytesC 1).need (f7 ((ak.mk b false 0).byteV)) 5).bytesR ((ak.mk b false 0).byteV)) false 0) []).2 0 0 0 0 0 []) (((((ak.mk b false 0).bytesC 1).need (f7 ((ak.mk b false 0).byteV)) 5).bytesC ((ak.mk b false 0).byteV)).need (((aW cA (ak.mk ((((ak.mk b false 0).bytesC 1).need (f7 ((ak.mk b false 0).byteV)) 5).bytesR ((ak.mk b false 0).byteV)) false 0).l.length 0 (ak.mk ((((ak.mk b false 0).bytesC 1).need (f7 ((ak.mk b false 0).byteV)) 5).bytesR ((ak.mk b false 0).byteV)) false 0) []).1).e==0) (di ((aW cA (ak.mk ((((ak.mk b false 0).bytesC 1).need (f7 ((ak.mk b false 0).byteV)) 5).bytesR ((ak.mk b false 0).byteV)) false 0).l.length 0 (ak.mk ((((ak.mk b false 0).bytesC 1).need (f7 ((ak.mk b false 0).byteV)) 5).bytesR ((ak.mk b false 0).byteV)) false 0) []).1).e)):=by
   unfold al aV ei rl rN rG
   (try simp only[a7,bs,if_true,if_false,decide_true,decide_false,eq_self,true_or,or_true,or_false,false_or,if_true,if_false,cJ,cK,cF,cI,reduceIte,iZ,iE,iA])
   all_goals rfl
 rw[hs]
 exact aS bm (ut c6 cc (ac (nr bp) (ac (ni (le (le (le (le (le (le (le (le (le (le (le (le af.size N.size) v.size) t.size) r.size) o.size) d.size) i.size) j.size) g.size) p.size) h.size) k.size) D) av)))
 have bm:=ag a7
 refine bB<|sg<|?_
 have bo:=us F a6
 refine L0<|c9 (au.blk bo (aa a2 (aa (Ne.symm (nb (ae.lt M) (le (le (le (le o.size d.size) i.size) j.size) g.size) H)) ax)) cL)<|?_
 have cd:=ub (ud a0 bl Z) K
 refine L0<|b6 cd (mG 20 0 0 0 0 0 0 0 0 0 0 0 nS nS nS (.slice bX ((aW cA (ak.mk (x49.bytesR ((ak.mk b false 0).byteV)) false 0).l.length 0 (ak.mk (x49.bytesR ((ak.mk b false 0).byteV)) false 0) []).2.length) bY) 0 0 0 0 0 nS) fun dM cQ a9=>Pl 1<|nt<|rt<|?_
 have ce:=nb (aj K) (le (le (le (le (le (le (le (le (le (le (le N.size v.size) t.size) r.size) o.size) d.size) i.size) j.size) g.size) p.size) h.size) k.size) D
 have cf:=au.blk (u1 (au.mono (S':=[O,z,B,I,a1,ad]) bh (ac im (ac im (ac im (ac im (ac im av)))))) a9 im) (aa (Ne.symm (nb (ae.lt Q) (le (le p.size h.size) k.size) D)) (aa (Ne.symm (nb (aj G) (le (le (le (le (le (le (le (le (le (le v.size t.size) r.size) o.size) d.size) i.size) j.size) g.size) p.size) h.size) k.size) D)) (aa (Ne.symm (nb (aj V) (le h.size k.size) D)) (aa bG (aa (Ne.symm (nb (ae.lt M) (le (le (le (le (le (le (le o.size d.size) i.size) j.size) g.size) p.size) h.size) k.size) D)) (aa (Ne.symm ce) ax)))))) ar
 refine sX cf fun dN aJ=>?_
 refine rx (aO aJ ce cQ) (.int .i64 0)<|?_
 subst c4 c1 bx bv
 have cg:=us a9 aJ
 have dO:=ut (au.mono (S':=[I,a1,ad,cu]) bo (ac im (ac im av))) cg (ac im (ac im av))
 have dP:=u1 (au.mono (S':=[I,a1,ad]) bo (ac im (ac im av))) a9 im
 have dQ:=ub (ud a0 (ut (au.mono (S':=[z]) aA av) q.u (ac (ni aG.size P) (ac im (ac (ni (le (le (le (le (le r.size o.size) d.size) i.size) j.size) g.size) H) (ac (ni (le (le (le (le (le (le (le (le r.size o.size) d.size) i.size) j.size) g.size) p.size) h.size) k.size) E) av))))) Z) K
 have dR:=ae.upd aP (ut (au.mono (S':=[z]) ao av) (ut (au.mono (S':=[O,z,B]) X av) q.u (ac im (ac im (ac im (ac (ni k.size E) av))))) (ac (nr P) (ac im (ac (ni g.size H) av)))) (aa (Ne.symm bc) ax) (ah (aD bd (by decide)) az)
 have dS:=us F T
 have hs:al aV 1 20 b=aQ (bf.mk 20 0 0 0 0 0 0 0 0 0 0 0 [] [] [] (aW cA (ak.mk ((((ak.mk b false 0).bytesC 1).need (f7 ((ak.mk b false 0).byteV)) 5).bytesR ((ak.mk b false 0).byteV)) false 0).l.length 0 (ak.mk ((((ak.mk b false 0).bytesC 1).need (f7 ((ak.mk b false 0).byteV)) 5).bytesR ((ak.mk b false 0).byteV)) false 0) []).2 0 0 0 0 0 []) (((((ak.mk b false 0).bytesC 1).need (f7 ((ak.mk b false 0).byteV)) 5).bytesC ((ak.mk b false 0).byteV)).need (((aW cA (ak.mk ((((ak.mk b false 0).bytesC 1).need (f7 ((ak.mk b false 0).byteV)) 5).bytesR ((ak.mk b false 0).byteV)) false 0).l.length 0 (ak.mk ((((ak.mk b false 0).bytesC 1).need (f7 ((ak.mk b false 0).byteV)) 5).bytesR ((ak.mk b false 0).byteV)) false 0) []).1).e==0) (di ((aW cA (ak.mk ((((ak.mk b false 0).bytesC 1).need (f7 ((ak.mk b false 0).byteV)) 5).bytesR ((ak.mk b false 0).byteV)) false 0).l.length 0 (ak.mk ((((ak.mk b false 0).bytesC 1).need (f7 ((ak.mk b false 0).byteV)) 5).bytesR ((ak.mk b false 0).byteV)) false 0) []).1).e)):=by
   unfold al aV ei rl rN rG
   (try simp only[a7,bs,if_true,if_false,decide_true,decide_false,eq_self,true_or,or_true,or_false,false_or,if_true,if_false,cJ,cK,cF,cI,reduceIte,iZ,iE,iA])
   all_goals rfl
 rw[hs]
 exact aY bm ⟨_,_,_,_,_,rfl,aH.nil ..,aH.nil ..,aH.nil ..,((am (am (am (am (am q.ho F (fun x hx=>(aa (fun e=>(aq (aj S) lr q.ho) (e▸hx)) ax)) (bj.updl F q.hl rfl)) T (fun x hx=>(aa (fun e=>(aq (ae.lt M) (le (le (le (le (le (le (le (le o.size d.size) i.size) j.size) g.size) p.size) h.size) k.size) J.size) q.ho) (e▸hx)) ax)) (bj.upd16 T (ah (ae.safe be _ (by decide)) az))) a5 (fun x hx=>(aa (fun e=>(aq (ae.lt M) (le (le (le (le (le (le (le (le o.size d.size) i.size) j.size) g.size) p.size) h.size) k.size) J.size) q.ho) (e▸hx)) ax)) (bj.upd16 a5 (ah (ae.safe bg _ (by decide)) az))) a9 (fun x hx=>(aa (fun e=>(aq (aj K) (le (le (le (le (le (le (le (le (le (le (le (le N.size v.size) t.size) r.size) o.size) d.size) i.size) j.size) g.size) p.size) h.size) k.size) J.size) q.ho) (e▸hx)) ax)) (bj.upd16 a9 (ah (aD cd (by decide)) az))) aJ (fun x hx=>(aa (fun e=>(aq (aj ar) lr q.ho) (e▸hx)) ax)) (bj.updl aJ cf rfl))).rd,aH.nil ..,⟨(b8 (x:=20) (by omega)),(b8 (x:=0) (by omega)),(aB (x:=0) (by omega)),(aB (x:=0) (by omega)),(aB (x:=0) (by omega)),(aB (x:=0) (by omega)),(aB (x:=0) (by omega)),(aB (x:=0) (by omega)),(aB (x:=0) (by omega)),(aB (x:=0) (by omega)),(aB (x:=0) (by omega)),(aB (x:=0) (by omega)),(b8 (x:=0) (by omega)),(b8 (x:=0) (by omega)),(b8 (x:=0) (by omega)),(b8 (x:=0) (by omega)),(b8 (x:=0) (by omega))⟩⟩ (ut c6 cg (ac (nr bp) (ac (ni (le (le (le (le (le (le (le (le (le (le (le (le af.size N.size) v.size) t.size) r.size) o.size) d.size) i.size) j.size) g.size) p.size) h.size) k.size) D) av)))
theorem iK{m:Bool}{A:Option Addr}{cp:Nat}{b:List Int}{w:World}{dir:Int}(hd:dir=0∨dir=1)(hsl:aM m w (.slice A b.length cp) b)(hb:b.length≤1048576) :
    Calls Tryz.prog 64 #[.int .i64 dir,.int .u8 21,.slice A b.length cp] w (cO (al aV dir 21 b) w):=by
 have hln:(b.length:Int)≤1048576:=by omega
 have aU:((dir != 0)&&(dir != 1))=false:=by rcases hd with rfl | rfl<;>rfl
 refine sZ 77 Tryz.func64 rfl<|sg<|L0<|bz mZ fun ai cZ bv M an=>Pl 1<|nt<|sq<|sg<|Pl 3<|cu 3 [18] 21 (((dir != 0)&&(dir != 1))) (fun K bw=>?_) ?_
 refine bl 18 ((dir != 0)) (fun a0=>?_) (fun a0=>?_)
 have cs:=ay a0
 exact Pl 3<|ce bw (dir != 1) (by rw[a0];rfl)
 have cs:=ag a0
 exact Pl 3<|ce bw false (by rw[a0];rfl)
 refine nt<|cf aU<|bB<|sg<|Pl 2<|L0<|Oc (args:=#[.int .i64 dir,.int .u8 21])<|e3 qI fun z d0 a1 G O=>Pl 3<|L0<|bz #[.nilFunc,.nilFunc] fun d1 d2 ct bx v=>L0<|b6 bx #[.func (.func 129) #[] #[],.func (.func 130) #[] #[]] fun d3 cv t=>Pl 1<|nl<|?_
 refine tn<|sq<|sg<|Pl 2<|nt<|c0<|bB<|sg<|Pl 1<|?_
 have ao:=ud v t ct
 have a2:=aE O ao
 have bD:=aE an a2
 refine L0<|Oc<|e3 (cl (aM.old hsl bD) (by omega)) fun a3 d4 V N r=>Pl 1<|ng<|Pl 1<|L0<|Oc<|m3 (bi N) fun d5 cw o d6=>L0<|Oi ((ak.mk b false 0).byteV)<|Pl 1<|ng<|?_
 refine Pl 2<|?_
 have aZ:=ud r o V
 have bE:=ub aZ cv
 refine L0<|aR bE 0<|Pl 1<|L0<|eP #[] #[] (args:=#[.int .i64 ((ak.mk b false 0).byteV)])<|m1 (l3 (n:=(ak.mk b false 0).byteV) (by omega)) fun d7 d=>?_
 refine L0<|Oc<|m2 (aL ((f9 ((ak.mk b false 0).byteV))) 5 (ae.old cw d)) fun d8 cz i=>?_
 refine ab cz fun x51 bF bG=>?_
 refine ng<|Pl 2<|L0<|Oc<|nz (bC (n:=(ak.mk b false 0).byteV) bG) fun d9 da db cA dc dd cB j=>?_
 have de:=Nat.le_trans (ak.bytesR_le x51 ((ak.mk b false 0).byteV)) (ae.len bG)
 refine ab cB fun x60 bH b0=>?_
 refine L0<|Oc<|e3 (cl cA (by omega)) fun P df Q S g=>Pl 1<|ng<|Pl 2<|L0<|bz mZ fun B dg H X p=>L0<|b6 X (mC 21) fun dh cC h=>nt<|sq<|sg<|?_
 refine Pl 2<|?_
 have ar:=ud p h H
 have aw:=aE g ar
 have bI:=uz d (u1 i (aE j aw) im)
 refine L0<|aR (aO bI (nb (aj bx) t.size V) bE) 1<|L0<|Oc<|sO (gS (gb:=P) (f:=.func 130) (x:=#[]) (y:=#[])) fun cD cE dj b1 b2 dk bJ bK k=>nt<|bk<|?_
 refine lg (f:=131) #[.pointer (some ⟨cD,0,none⟩),.pointer (some ⟨cE,0,none⟩)] fun a ha=>?_
 intro dl cG I dm D E bL aA T J
 have bM:=nb (ae.lt S) lr H
 have aC:=nb (ae.lt S) (le (le p.size h.size) k.size) E
 have bN:=nb (aj G) (le (le (le (le (le (le (le v.size t.size) r.size) o.size) d.size) i.size) j.size) g.size) H
 have bP:=nb (aj G) (le (le (le (le (le (le (le (le (le (le v.size t.size) r.size) o.size) d.size) i.size) j.size) g.size) p.size) h.size) k.size) E
 have a4:=nb (aj X) (le h.size k.size) E
 have Y:=aE k J
 have bQ:=ae.old S (aE ar Y)
 have aF:=ud aZ (aE bI Y) V
 have bR:=ub (aE ao aF) G
 have b3:=ub Y cC
 refine(sI (c:=21) bQ bR b3 T (ub J bJ) (ub J bK) (Ne.symm (nb (aj G) (le (le (le (le (le (le v.size t.size) r.size) o.size) d.size) i.size) j.size) Q)) bM aC bN bP a4 (Ne.symm (nb (ae.lt S) ar.size b1)) (Ne.symm (nb (aj G) (le (le (le (le (le (le (le (le (le v.size t.size) r.size) o.size) d.size) i.size) j.size) g.size) p.size) h.size) b1)) (Ne.symm (nb (aj X) h.size b1)) (nb (aj bJ) lr E) (Ne.symm (nb (ae.lt S) ar.size b2)) (Ne.symm (nb (aj G) (le (le (le (le (le (le (le (le (le v.size t.size) r.size) o.size) d.size) i.size) j.size) g.size) p.size) h.size) b2)) (Ne.symm (nb (aj X) h.size b2)) (nb (aj bK) lr E) ?_).mono ?_
 intro W C s L Ar cr x Ax cx hJ hrd hx1 hx2 hx3 hL
 simp only[dq] at hx1 hx2 hx3
 have hm2:W.heap[B]? = some (.cells #[.int .u8 21,.int .u8 0,.int .u16 0,.int .u16 0,.int .u16 0,.int .u16 0,.int .u16 0,.int .u16 0,.int .u16 0,.int .u16 0,.int .u16 0,.int .u16 0,.slice none 0 0,.slice none 0 0,.slice none 0 0,.slice Ar L.length cr,.int .u8 0,.int .u8 0,.int .u8 0,.int .u8 0,.int .u8 0,.slice none 0 0] 31 (0,0)):=hJ.hm
 refine hZ hJ.hl ?_
 refine uG ha 53<|t1<|ii<|bz #[.int .u16 0,.int .u16 0,.int .u16 0,.slice none 0 0] fun dn dp bT cH bU=>ii<|b6 cH #[.int .u16 x.file,.int .u16 x.record,.int .u16 x.count,.slice Ax x.words.length cx] fun dr cL bV=>oh<|?_
 have bW:=ud bU bV bT
 refine uZ (ub bW hJ.hl) (by trivial) fun ds cM b4=>un<|t1<|sY<|?_
 have b5:=uz bW b4
 have bX:=aO b5 a4 hm2
 refine ii<|aR bX 15<|?_
 refine ii<|c9 (aO b4 (Ne.symm (nb (aj T) hJ.u.size bT)) cL)<|ii<|fk (m:=1) (e:=83) #[.int .u16 x.file,.int .u16 x.record,.int .u16 x.count,.slice Ax x.words.length cx] fun dt du dv cN b7=>?_
 have Z:=aE b5 b7
 have cP:=lM (R:=bj true) (x:=(dU.mk x.file x.record x.count x.words)) cN rfl ⟨_,rfl,(dJ.updl hrd Z hJ.hl rfl),aB (by omega),aB (by omega),aB (by omega)⟩
 have b9:=am hJ.ho Z (fun x hx=>(aa (fun e=>(aq (aj T) lr hJ.ho) (e▸hx)) ax)) (bj.updl Z hJ.hl rfl)
 refine ii<|hM (xs:=L) (ys:=([(dU.mk x.file x.record x.count x.words)])) (.agg #[.int .u16 0,.int .u16 0,.int .u16 0,.slice none 0 0]) 4 32 b9 cP (by simp) bj.ones (fun w' hv=>bj.upd16 hv (bS (ck _ b9 (by decide)) az)) (by(try simp only[List.length_append,List.length_cons,List.length_nil,aT]);omega) (le (le (le (le hJ.u.size bU.size) bV.size) b4.size) b7.size) fun bY bZ dw ba aG=>sY<|?_
 have c1:=ut (au.mono (S':=(ob Ar++[])) b7 av) aG (ap il av)
 have bb:=au.blk c1 (aK (aq (aj b3) lr hJ.ho) ax) bX
 refine ii<|bO bb 15 (mG 21 0 0 0 0 0 0 0 0 0 0 0 nS nS nS (.slice bY ((L++[(dU.mk x.file x.record x.count x.words)]).length) bZ) 0 0 0 0 0 nS) fun dx cQ a5=>oh<|bn<|?_
 have c2:=u1 (au.mono (S':=(ob Ar++(B :: []))) c1 (ap il av)) a5 im
 have bc:=au.blk c2 (aK (aq (aj T) lr hJ.ho) (aa (Ne.symm a4) ax)) cM
 refine ur bc fun dy cR a6=>?_
 have bd:=ut (au.mono (S':=(I :: (ob Ar++(B :: [])))) Z (ac im av)) (ut (au.mono (S':=(ob Ar++(B :: (I :: [])))) aG (ap il av)) (us a5 a6) (ac im (ac im av))) (ap il (ac im (ac im av)))
 have dz:=ut hJ.u (ut (au.mono (S':=(I :: (ob Ar++(B :: [])))) b5 (ac im av)) c2 (ap il (ac im av))) (ac im (ap (bt hJ.ho lr) (ac im av)))
 have dA:=ut hJ.u (ut (au.mono (S':=(I :: (ob Ar++[]))) Z (ac im av)) aG (ap il av)) (ac im (ap (bt hJ.ho lr) av))
 exact⟨by trivial,bd.size,bY,bZ,⟨(ut hJ.u bd (ac im (ap (bt hJ.ho lr) (ac im av)))),(ae.updl (ae.upd (ae.upd (ae.updl hJ.hC Z (aa aC ax) hJ.hl rfl) aG (aK (aq (ae.lt bQ) lr hJ.ho) ax) (bS (ck _ b9 (by decide)) az)) a5 (aa bM ax) (ah (aD bb (by decide)) az)) a6 (aa aC ax) bc rfl),(au.blk bd (aa bP (aK (aq (aj bR) lr hJ.ho) (aa bN ax))) hJ.hS),(aO a6 a4 cQ),(am (am ba a5 (fun x hx=>(aa (fun e=>(aq (aj b3) lr ba) (e▸hx)) ax)) (bj.upd16 a5 (ah (aD bb (by decide)) az))) a6 (fun x hx=>(aa (fun e=>(aq (aj T) lr ba) (e▸hx)) ax)) (bj.updl a6 bc rfl)),cR⟩⟩
 rintro _ cS ⟨rfl,dB,c3,c4,q⟩
 refine⟨_,_,rfl,q.hl,by simp[cy],by trivial,fun dC c5=>?_⟩
 refine ab q.hC fun be c6 cT=>?_
 have cU:cS.heap[B]? = some (.cells #[.int .u8 21,.int .u8 0,.int .u16 0,.int .u16 0,.int .u16 0,.int .u16 0,.int .u16 0,.int .u16 0,.int .u16 0,.int .u16 0,.int .u16 0,.int .u16 0,.slice none 0 0,.slice none 0 0,.slice none 0 0,.slice c3 ((aW dD (ak.mk (x51.bytesR ((ak.mk b false 0).byteV)) false 0).l.length 0 (ak.mk (x51.bytesR ((ak.mk b false 0).byteV)) false 0) []).2.length) c4,.int .u8 0,.int .u8 0,.int .u8 0,.int .u8 0,.int .u8 0,.slice none 0 0] 31 (0,0)):=q.hm
 refine bn<|tn<|sg<|Pl 2<|?_
 have aI:=ae.updl cT c5 (aa aC ax) q.hl rfl
 refine L0<|Oc<|mq (aX aI)<|?_
 have dE:=ae.len aI
 refine Pl 2<|L0<|Oc<|mq (aX aI)<|?_
 have dF:=ae.len aI
 refine L0<|Oc<|m1 (fl (e:=be.e)) fun dG cV=>?_
 have F:=aE c5 cV
 have c7:=u1 q.u F im
 have bg:=nb (aj G) ao.size V
 have aJ:=ud aZ (uz d (u1 i j im)) V
 have bh:=ub (aE ao aJ) G
 have bm:=ae.upd b0 (ut (au.mono (S':=[z]) aw av) (ut (au.mono (S':=[P,z,B]) Y av) c7 (ac im (ac im (ac im (ac (ni k.size E) av))))) (ac (nr Q) (ac im (ac (ni g.size H) av)))) (aa (Ne.symm bg) ax) (ah (aD bh (by decide)) az)
 refine L0<|Oc<|m2 (aL ((be.e==0)) (di be.e) bm) fun dH cW U=>?_
 refine ab cW fun c8 ca bo=>?_
 refine ng<|Pl 1<|L0<|Oc<|m2 (bA bo) fun dI cc a7=>nt<|sq<|sg<|Pl 1<|L0<|Oc<|mq (aX cc)<|?_
 have dK:=ae.len cc
 refine Pl 1<|ng<|Pl 2<|nt<|?_
 have a8:=u1 U a7 im
 have bp:=u1 (au.mono (S':=[P,z,B,I,a3]) c7 (ac im (ac im (ac im (ac im av))))) a8 im
 have bq:=ut (au.mono (S':=[z]) aF av) bp (ac (ni aJ.size Q) (ac im (ac (ni (le (le (le (le (le r.size o.size) d.size) i.size) j.size) g.size) H) (ac (ni (le (le (le (le (le (le (le (le r.size o.size) d.size) i.size) j.size) g.size) p.size) h.size) k.size) E) (ac (nr V) av)))))
 have cd:=ud bD bq (le an.size a1)
 refine cb ((c8.endC.e != 0)) (fun a9=>?_) (fun a9=>?_)
 have br:=ay a9
 refine sg<|Pl 2<|?_
 have cg:=ub (ud a2 bq a1) M
 refine L0<|b6 cg mZ fun dL cX ad=>Pl 1<|nt<|rt<|tr<|?_
 have ch:=nb (aj M) (le (le (le (le (le (le (le (le (le (le (le O.size v.size) t.size) r.size) o.size) d.size) i.size) j.size) g.size) p.size) h.size) k.size) D
 have ci:=au.blk (u1 (au.mono (S':=[P,z,B,I,a3,ai]) bp (ac im (ac im (ac im (ac im (ac im av)))))) ad im) (aa (Ne.symm (nb (ae.lt S) (le (le p.size h.size) k.size) D)) (aa (Ne.symm (nb (aj G) (le (le (le (le (le (le (le (le (le (le v.size t.size) r.size) o.size) d.size) i.size) j.size) g.size) p.size) h.size) k.size) D)) (aa (Ne.symm (nb (aj X) (le h.size k.size) D)) (aa bL (aa (Ne.symm (nb (ae.lt N) (le (le (le (le (le (le (le o.size d.size) i.size) j.size) g.size) p.size) h.size) k.size) D)) (aa (Ne.symm ch) ax)))))) aA
 refine sX ci fun dM aN=>?_
 refine rx (aO aN ch cX) (.int .i64 c8.endC.e)<|?_
 subst ca c6 bH bF
 have cj:=us ad aN
 have dN:=us F (us a8 cj)
 have dO:=us F (us a8 ad)
 have dP:=ub (ud a2 (ut (au.mono (S':=[z]) aF av) q.u (ac (ni aJ.size Q) (ac im (ac (ni (le (le (le (le (le r.size o.size) d.size) i.size) j.size) g.size) H) (ac (ni (le (le (le (le (le (le (le (le r.size o.size) d.size) i.size) j.size) g.size) p.size) h.size) k.size) E) av))))) a1) M
 have dQ:=ae.upd b0 (ut (au.mono (S':=[z]) aw av) (ut (au.mono (S':=[P,z,B]) Y av) q.u (ac im (ac im (ac im (ac (ni k.size E) av))))) (ac (nr Q) (ac im (ac (ni g.size H) av)))) (aa (Ne.symm bg) ax) (ah (aD bh (by decide)) az)
 have dR:=us F a8
 have dS:=us F U
 have dT:=am (am (am (am (am q.ho F (fun x hx=>(aa (fun e=>(aq (aj T) lr q.ho) (e▸hx)) ax)) (bj.updl F q.hl rfl)) U (fun x hx=>(aa (fun e=>(aq (ae.lt N) (le (le (le (le (le (le (le (le o.size d.size) i.size) j.size) g.size) p.size) h.size) k.size) J.size) q.ho) (e▸hx)) ax)) (bj.upd16 U (ah (ae.safe bm _ (by decide)) az))) a7 (fun x hx=>(aa (fun e=>(aq (ae.lt N) (le (le (le (le (le (le (le (le o.size d.size) i.size) j.size) g.size) p.size) h.size) k.size) J.size) q.ho) (e▸hx)) ax)) (bj.upd16 a7 (ah (ae.safe bo _ (by decide)) az))) ad (fun x hx=>(aa (fun e=>(aq (aj M) (le (le (le (le (le (le (le (le (le (le (le (le O.size v.size) t.size) r.size) o.size) d.size) i.size) j.size) g.size) p.size) h.size) k.size) J.size) q.ho) (e▸hx)) ax)) (bj.upd16 ad (ah (aD cg (by decide)) az))) aN (fun x hx=>(aa (fun e=>(aq (aj aA) lr q.ho) (e▸hx)) ax)) (bj.updl aN ci rfl)
 have hs:al aV dir 21 b=aQ (bf.mk 21 0 0 0 0 0 0 0 0 0 0 0 [] [] [] (aW dD (ak.mk ((((ak.mk b false 0).bytesC 1).need (f9 ((ak.mk b false 0).byteV)) 5).bytesR ((ak.mk b false 0).byteV)) false 0).l.length 0 (ak.mk ((((ak.mk b false 0).bytesC 1).need (f9 ((ak.mk b false 0).byteV)) 5).bytesR ((ak.mk b false 0).byteV)) false 0) []).2 0 0 0 0 0 []) (((((ak.mk b false 0).bytesC 1).need (f9 ((ak.mk b false 0).byteV)) 5).bytesC ((ak.mk b false 0).byteV)).need (((aW dD (ak.mk ((((ak.mk b false 0).bytesC 1).need (f9 ((ak.mk b false 0).byteV)) 5).bytesR ((ak.mk b false 0).byteV)) false 0).l.length 0 (ak.mk ((((ak.mk b false 0).bytesC 1).need (f9 ((ak.mk b false 0).byteV)) 5).bytesR ((ak.mk b false 0).byteV)) false 0) []).1).e==0) (di ((aW dD (ak.mk ((((ak.mk b false 0).bytesC 1).need (f9 ((ak.mk b false 0).byteV)) 5).bytesR ((ak.mk b false 0).byteV)) false 0).l.length 0 (ak.mk ((((ak.mk b false 0).bytesC 1).need (f9 ((ak.mk b false 0).byteV)) 5).bytesR ((ak.mk b false 0).byteV)) false 0) []).1).e)):=by
   unfold al aV ei rl rN rG
   (try simp only[aU,a9,bs,if_true,if_false,decide_true,decide_false,eq_self,true_or,or_true,or_false,false_or,if_true,if_false,cJ,cK,cF,cI,reduceIte,iZ,iE,iA,if_pos hd])
   all_goals rfl
 rw[hs]
 exact aS br (ut cd cj (ac (nr bv) (ac (ni (le (le (le (le (le (le (le (le (le (le (le (le an.size O.size) v.size) t.size) r.size) o.size) d.size) i.size) j.size) g.size) p.size) h.size) k.size) D) av)))
 have br:=ag a9
 refine bB<|sg<|?_
 have bu:=us F a8
 refine L0<|c9 (au.blk bu (aa a4 (aa (Ne.symm (nb (ae.lt N) (le (le (le (le o.size d.size) i.size) j.size) g.size) H)) ax)) cU)<|?_
 have cm:=ub (ud a2 bq a1) M
 refine L0<|b6 cm (mG 21 0 0 0 0 0 0 0 0 0 0 0 nS nS nS (.slice c3 ((aW dD (ak.mk (x51.bytesR ((ak.mk b false 0).byteV)) false 0).l.length 0 (ak.mk (x51.bytesR ((ak.mk b false 0).byteV)) false 0) []).2.length) c4) 0 0 0 0 0 nS) fun dV cY af=>Pl 1<|nt<|rt<|?_
 have cn:=nb (aj M) (le (le (le (le (le (le (le (le (le (le (le O.size v.size) t.size) r.size) o.size) d.size) i.size) j.size) g.size) p.size) h.size) k.size) D
 have co:=au.blk (u1 (au.mono (S':=[P,z,B,I,a3,ai]) bp (ac im (ac im (ac im (ac im (ac im av)))))) af im) (aa (Ne.symm (nb (ae.lt S) (le (le p.size h.size) k.size) D)) (aa (Ne.symm (nb (aj G) (le (le (le (le (le (le (le (le (le (le v.size t.size) r.size) o.size) d.size) i.size) j.size) g.size) p.size) h.size) k.size) D)) (aa (Ne.symm (nb (aj X) (le h.size k.size) D)) (aa bL (aa (Ne.symm (nb (ae.lt N) (le (le (le (le (le (le (le o.size d.size) i.size) j.size) g.size) p.size) h.size) k.size) D)) (aa (Ne.symm cn) ax)))))) aA
 refine sX co fun dW aP=>?_
 refine rx (aO aP cn cY) (.int .i64 0)<|?_
 subst ca c6 bH bF
 have cq:=us af aP
 have dX:=ut (au.mono (S':=[I,a3,ai,cG]) bu (ac im (ac im av))) cq (ac im (ac im av))
 have dY:=u1 (au.mono (S':=[I,a3,ai]) bu (ac im (ac im av))) af im
 have dZ:=ub (ud a2 (ut (au.mono (S':=[z]) aF av) q.u (ac (ni aJ.size Q) (ac im (ac (ni (le (le (le (le (le r.size o.size) d.size) i.size) j.size) g.size) H) (ac (ni (le (le (le (le (le (le (le (le r.size o.size) d.size) i.size) j.size) g.size) p.size) h.size) k.size) E) av))))) a1) M
 have e0:=ae.upd b0 (ut (au.mono (S':=[z]) aw av) (ut (au.mono (S':=[P,z,B]) Y av) q.u (ac im (ac im (ac im (ac (ni k.size E) av))))) (ac (nr Q) (ac im (ac (ni g.size H) av)))) (aa (Ne.symm bg) ax) (ah (aD bh (by decide)) az)
 have e1:=us F U
 have hs:al aV dir 21 b=aQ (bf.mk 21 0 0 0 0 0 0 0 0 0 0 0 [] [] [] (aW dD (ak.mk ((((ak.mk b false 0).bytesC 1).need (f9 ((ak.mk b false 0).byteV)) 5).bytesR ((ak.mk b false 0).byteV)) false 0).l.length 0 (ak.mk ((((ak.mk b false 0).bytesC 1).need (f9 ((ak.mk b false 0).byteV)) 5).bytesR ((ak.mk b false 0).byteV)) false 0) []).2 0 0 0 0 0 []) (((((ak.mk b false 0).bytesC 1).need (f9 ((ak.mk b false 0).byteV)) 5).bytesC ((ak.mk b false 0).byteV)).need (((aW dD (ak.mk ((((ak.mk b false 0).bytesC 1).need (f9 ((ak.mk b false 0).byteV)) 5).bytesR ((ak.mk b false 0).byteV)) false 0).l.length 0 (ak.mk ((((ak.mk b false 0).bytesC 1).need (f9 ((ak.mk b false 0).byteV)) 5).bytesR ((ak.mk b false 0).byteV)) false 0) []).1).e==0) (di ((aW dD (ak.mk ((((ak.mk b false 0).bytesC 1).need (f9 ((ak.mk b false 0).byteV)) 5).bytesR ((ak.mk b false 0).byteV)) false 0).l.length 0 (ak.mk ((((ak.mk b false 0).bytesC 1).need (f9 ((ak.mk b false 0).byteV)) 5).bytesR ((ak.mk b false 0).byteV)) false 0) []).1).e)):=by
   unfold al aV ei rl rN rG
   (try simp only[aU,a9,bs,if_true,if_false,decide_true,decide_false,eq_self,true_or,or_true,or_false,false_or,if_true,if_false,cJ,cK,cF,cI,reduceIte,iZ,iE,iA,if_pos hd])
   all_goals rfl
 rw[hs]
 exact aY br ⟨_,_,_,_,_,rfl,aH.nil ..,aH.nil ..,aH.nil ..,((am (am (am (am (am q.ho F (fun x hx=>(aa (fun e=>(aq (aj T) lr q.ho) (e▸hx)) ax)) (bj.updl F q.hl rfl)) U (fun x hx=>(aa (fun e=>(aq (ae.lt N) (le (le (le (le (le (le (le (le o.size d.size) i.size) j.size) g.size) p.size) h.size) k.size) J.size) q.ho) (e▸hx)) ax)) (bj.upd16 U (ah (ae.safe bm _ (by decide)) az))) a7 (fun x hx=>(aa (fun e=>(aq (ae.lt N) (le (le (le (le (le (le (le (le o.size d.size) i.size) j.size) g.size) p.size) h.size) k.size) J.size) q.ho) (e▸hx)) ax)) (bj.upd16 a7 (ah (ae.safe bo _ (by decide)) az))) af (fun x hx=>(aa (fun e=>(aq (aj M) (le (le (le (le (le (le (le (le (le (le (le (le O.size v.size) t.size) r.size) o.size) d.size) i.size) j.size) g.size) p.size) h.size) k.size) J.size) q.ho) (e▸hx)) ax)) (bj.upd16 af (ah (aD cm (by decide)) az))) aP (fun x hx=>(aa (fun e=>(aq (aj aA) lr q.ho) (e▸hx)) ax)) (bj.updl aP co rfl))).rd,aH.nil ..,⟨(b8 (x:=21) (by omega)),(b8 (x:=0) (by omega)),(aB (x:=0) (by omega)),(aB (x:=0) (by omega)),(aB (x:=0) (by omega)),(aB (x:=0) (by omega)),(aB (x:=0) (by omega)),(aB (x:=0) (by omega)),(aB (x:=0) (by omega)),(aB (x:=0) (by omega)),(aB (x:=0) (by omega)),(aB (x:=0) (by omega)),(b8 (x:=0) (by omega)),(b8 (x:=0) (by omega)),(b8 (x:=0) (by omega)),(b8 (x:=0) (by omega)),(b8 (x:=0) (by omega))⟩⟩ (ut cd cq (ac (nr bv) (ac (ni (le (le (le (le (le (le (le (le (le (le (le (le an.size O.size) v.size) t.size) r.size) o.size) d.size) i.size) j.size) g.size) p.size) h.size) k.size) D) av)))
theorem nO{A:Option Addr}{cp:Nat}{b:List Int}{w:World}{c:Int}(n1:(c==20)=false)(n2:(c==21)=false) : Calls Tryz.prog 64 #[.int .i64 0,.int .u8 c,.slice A b.length cp] w (cO (al aV 0 c b) w):=by
 refine sZ 77 Tryz.func64 rfl<|sg<|L0<|bz mZ fun n o d e f=>Pl 1<|nt<|sq<|sg<|Pl 6<|nt<|c0<|?_
 refine bB<|sg<|Pl 2<|L0<|Oc (args:=#[.int .i64 0,.int .u8 c])<|m1 (jD (dir:=0) (x:=c) n1 n2) fun p g=>Pl 3<|L0<|bz #[.nilFunc,.nilFunc] fun q r h i j=>L0<|b6 i #[.nilFunc,.nilFunc] fun s t k=>Pl 1<|nt<|sq<|sq<|?_
 refine go<|Pl 2<|nt<|c1<|sg<|Pl 1<|?_
 have a:=aE g (ud j k h)
 refine L0<|b6 (ub a e) mZ fun u l m=>Pl 1<|nt<|rt<|tr<|ry l (.int .i64 4)<|?_
 have hs:al aV 0 c b=(bf.zero,4):=by
   unfold al aV
   (try simp only[bs,if_true,if_false,decide_true,decide_false,eq_self,true_or,or_true,or_false,false_or,if_true,if_false,cJ,cK,cF,cI,reduceIte,n1,n2])
   all_goals rfl
 rw[hs]
 exact bE (ud f (uz a m) d)
theorem mQ{A:Option Addr}{cp:Nat}{b:List Int}{w:World}{c:Int}(n1:(c==20)=false)(n2:(c==21)=false) : Calls Tryz.prog 64 #[.int .i64 1,.int .u8 c,.slice A b.length cp] w (cO (al aV 1 c b) w):=by
 refine sZ 77 Tryz.func64 rfl<|sg<|L0<|bz mZ fun n o d e f=>Pl 1<|nt<|sq<|sg<|Pl 6<|nt<|c0<|?_
 refine bB<|sg<|Pl 2<|L0<|Oc (args:=#[.int .i64 1,.int .u8 c])<|m1 (jD (dir:=1) (x:=c) n1 n2) fun p g=>Pl 3<|L0<|bz #[.nilFunc,.nilFunc] fun q r h i j=>L0<|b6 i #[.nilFunc,.nilFunc] fun s t k=>Pl 1<|nt<|sq<|sq<|?_
 refine go<|Pl 2<|nt<|c1<|sg<|Pl 1<|?_
 have a:=aE g (ud j k h)
 refine L0<|b6 (ub a e) mZ fun u l m=>Pl 1<|nt<|rt<|tr<|ry l (.int .i64 4)<|?_
 have hs:al aV 1 c b=(bf.zero,4):=by
   unfold al aV
   (try simp only[bs,if_true,if_false,decide_true,decide_false,eq_self,true_or,or_true,or_false,false_or,if_true,if_false,cJ,cK,cF,cI,reduceIte,n1,n2])
   all_goals rfl
 rw[hs]
 exact bE (ud f (uz a m) d)
theorem o9{A:Option Addr}{cp:Nat}{b:List Int}{w:World}{dir c:Int}(hd:¬ (dir=0∨dir=1)) : Calls Tryz.prog 64 #[.int .i64 dir,.int .u8 c,.slice A b.length cp] w (cO (al aV dir c b) w):=by
 have e0:(dir != 0)=true:=by simp;omega
 have e1:(dir != 1)=true:=by simp;omega
 refine sZ 77 Tryz.func64 rfl<|sg<|L0<|bz mZ fun g h a d e=>Pl 1<|nt<|sq<|sg<|Pl 3<|sy 18 e0<|Pl 3<|nl<|?_
 refine tn<|ct e1<|sg<|Pl 1<|L0<|b6 d mZ fun i dq f=>Pl 1<|nt<|rt<|tr<|ry dq (.int .i64 1)<|?_
 have hs:al aV dir c b=(bf.zero,1):=by
   unfold al aV
   (try simp only[e0,e1,bs,if_true,if_false,decide_true,decide_false,eq_self,true_or,or_true,or_false,false_or,if_true,if_false,cJ,cK,cF,cI,reduceIte,hd])
   all_goals rfl
 rw[hs]
 exact bE (ud e f a)
theorem kJ{m:Bool}{v:Value}{b:List Int}{w:World}{dir c:Int}(hc:B8 c)(h:aM m w v b)(hb:b.length≤1048576) :
    Calls Tryz.prog 64 #[.int .i64 dir,.int .u8 c,v] w (cO (al aV dir c b) w):=by
  obtain⟨A,cp,rfl,_,_⟩:=h.shape
  by_cases h0:dir=0
  · subst h0
    by_cases a:c=20
    · subst a;exact kf (Or.inl (rfl:(0:Int)=0)) h hb
    by_cases d:c=21
    · subst d;exact iK (Or.inl rfl) h hb
    exact nO (by simpa using a) (by simpa using d)
  by_cases h1:dir=1
  · subst h1
    by_cases a:c=20
    · subst a;exact jO (Or.inl (rfl:(0:Int)=0)) h hb
    by_cases d:c=21
    · subst d;exact iK (Or.inr rfl) h hb
    exact mQ (by simpa using a) (by simpa using d)
  exact o9 (by omega)
open Go.RowKit
open Go.RowKit
open Go.RowKit
open Go.RowKit
open Go.RowKit
open Go.RowKit
open Go.RowKit
open Go.RowKit
open Go.RowKit
theorem fe{x y:bf × Int}(h:x=y){w:World}{e:Ending}{w':World}(k:cO y w e w') : cO x w e w':=by rw[h];exact k
def gG:Nat→Int→List Int→bf × Int
  | 1,dir,b=>al aJ dir (b.getD 0 0) (b.drop 1)
  | 2,dir,b=>al bG dir (b.getD 0 0) (b.drop 1)
  | 3,dir,b=>al aI dir (b.getD 0 0) (b.drop 1)
  | 4,dir,b=>al aV dir (b.getD 0 0) (b.drop 1)
  | 5,dir,b=>al bq dir (b.getD 0 0) (b.drop 1)
  | _,_,_=>(bf.zero,4)
def co (dir:Int)(b:List Int) : bf × Int :=
  if dir != 0&&dir != 1 then (bf.zero,1)
  else if (b.length:Int)==0 then (bf.zero,2)
  else if decide (253<(b.length:Int)) then (bf.zero,3)
  else if decide (128≤b.getD 0 0)&&dir==1 then er b
  else gG (jt (b.getD 0 0)) dir b
theorem lX{m:Bool}{A:Option Addr}{cp:Nat}{b:List Int}{w:World}{dir:Int}(hsl:aM m w (.slice A b.length cp) b)(hb:b.length≤1048576) :
    Calls Tryz.prog 162 #[.int .i64 dir,.slice A b.length cp] w (cO (co dir b) w):=by
 have hln:(b.length:Int)≤1048576:=by omega
 refine en 60 Tryz.func162 rfl<|sg<|L0<|bz mZ fun dl t h a f=>Pl 1<|nt<|sq<|bk<|sg<|Pl 3<|cu 3 [11] 14 (((dir != 0)&&(dir != 1))) (fun K a2=>?_) ?_
 refine bl 11 ((dir != 0)) (fun u=>?_) (fun u=>?_)
 have bZ:=ay u
 exact Pl 3<|ce a2 (dir != 1) (by rw[u];rfl)
 have bZ:=ag u
 exact Pl 3<|ce a2 false (by rw[u];rfl)
 refine Pl 1<|nt<|cb (((dir != 0)&&(dir != 1))) (fun d=>?_) (fun d=>?_)
 have a3:=(bM d).1
 have a4:=(bM d).2
 have dm:=ay a3
 have dn:=ay a4
 refine sg<|Pl 1<|L0<|b6 a mZ fun dp c2 c3=>Pl 1<|nt<|rt<|br<|tr<|cc c2 (.int .i64 1)<|?_
 have hs:co dir b=(bf.zero,1):=by
   unfold co
   (try simp only[d,a3,a4,bs,if_true,if_false,decide_true,decide_false,gG,reduceIte])
   all_goals rfl
 refine fe hs ?_
 exact bE (ud f c3 h)
 refine sg<|Pl 4<|nt<|cb ((((b.length:Nat) : Int)==0)) (fun e=>?_) (fun e=>?_)
 have c4:=aA e
 refine sg<|Pl 1<|L0<|b6 a mZ fun dq c5 c6=>Pl 1<|nt<|rt<|br<|tr<|cc c5 (.int .i64 2)<|?_
 have hs:co dir b=(bf.zero,2):=by
   unfold co
   (try simp only[d,e,bs,if_true,if_false,decide_true,decide_false,gG,reduceIte])
   all_goals rfl
 refine fe hs ?_
 exact bE (ud f c6 h)
 have c4:=aG e
 refine sg<|Pl 4<|nt<|cb ((decide (253<((b.length:Nat) : Int)))) (fun g=>?_) (fun g=>?_)
 have c7:=of_decide_eq_true g
 refine sg<|Pl 1<|L0<|b6 a mZ fun dr c8 c9=>Pl 1<|nt<|rt<|br<|tr<|cc c8 (.int .i64 3)<|?_
 have hs:co dir b=(bf.zero,3):=by
   unfold co
   (try simp only[d,e,g,bs,if_true,if_false,decide_true,decide_false,gG,reduceIte])
   all_goals rfl
 refine fe hs ?_
 exact bE (ud f c9 h)
 have c7:=of_decide_eq_false g
 refine sg<|Pl 1<|?_
 have s:=aM.old hsl f
 refine fE (aM.at_ s 0 (by omega)) fun a5 a6 a7 a8 ds=>L0<|mN b.length 0 a7 (by omega)<|L0<|jx (p:=⟨a5,a6+0,none⟩) (v:=.int .u8 (b.getD 0 0)) a8<|Pl 2<|cu 3 [31] 34 (((decide (128≤(b.getD 0 0)))&&(dir==1))) (fun K a9=>?_) ?_
 refine bl 31 ((decide (128≤(b.getD 0 0)))) (fun y=>?_) (fun y=>?_)
 have ca:=of_decide_eq_true y
 exact Pl 3<|ce a9 (dir==1) (by rw[y];rfl)
 have ca:=of_decide_eq_false y
 exact Pl 3<|ce a9 false (by rw[y];rfl)
 refine Pl 1<|nt<|cb (((decide (128≤(b.getD 0 0)))&&(dir==1))) (fun i=>?_) (fun i=>?_)
 have aa:=(bM i).1
 have ab:=(bM i).2
 have dt:=of_decide_eq_true aa
 have du:=aA ab
 refine sg<|Pl 1<|L0<|Oc<|e2 (nw s (by omega)) fun cd dv z ac=>Pl 2<|?_
 have ad:=ub ac a
 refine L0<|b6 (hz:=(by rw[z.size];exact aP)) (hv:=z.size) (h1:=z.one) ad (cd) fun dw cf ae=>Pl 1<|nt<|rt<|br<|tr<|dy 22 z.size cf (.int .i64 (((er b)).2))<|?_
 have hs:co dir b=(er b):=by
   unfold co
   (try simp only[d,e,g,i,aa,ab,bs,if_true,if_false,decide_true,decide_false,gG,reduceIte])
   all_goals rfl
 refine fe hs ?_
 exact⟨_,rfl,(aU.upd z ae (ah (aD ad (by decide)) az)),(ud f (uz ac ae) h)⟩
 refine sk<|bn<|tn<|sg<|Pl 1<|L0<|mN b.length 0 a7 (by omega)<|L0<|jx (p:=⟨a5,a6+0,none⟩) (v:=.int .u8 (b.getD 0 0)) a8<|?_
 rcases j1 (b.getD 0 0) with⟨hk,hkf⟩|⟨hk,hkf⟩|⟨hk,hkf⟩|⟨hk,hkf⟩|⟨hk,hkf⟩|⟨hk,hkf⟩
 have af:=g8 (x:=(b.getD 0 0)) (w:=t)
 rw[hkf] at af
 refine L0<|Oc<|m1 af fun dx ak=>Pl 3<|L0<|bz #[.nilFunc,.nilFunc] fun cg dz am ch ci=>L0<|b6 ch #[.func (.func 58) #[] #[],.func (.func 59) #[] #[]] fun dA cj ck=>Pl 1<|nt<|sq<|sg<|Pl 2<|nt<|c0<|?_
 refine bB<|sq<|?_
 have an:=aE ak (ud ci ck am)
 have ao:=aM.old s an
 refine fE (aM.at_ ao 0 (by omega)) fun cl cm ap aq dB=>Rg 13 (fun w'=>w'.cell? ⟨cg,0,none⟩=some (.func (.func 58) #[] #[])∧w'.cell? ⟨cl,cm+0,none⟩=some (.int .u8 (b.getD 0 0))) fun dC M=>?_
 have ar:=ub M cj
 refine be ⟨(ai ar rfl),(uc M aq)⟩ fun j=>Rt 0 j<|Rl 1 j (fun _ hs=>hs.1)<|Rt 2 j<|Rt 3 j<|lU 4 j b.length 0 0 rfl ap (by omega)<|Rl 5 j (fun _ hs=>hs.2)<|Rt 6 j<|pf (dE (P:=Tryz.prog) 27 5 1 Tryz.underlying27 rfl rfl A b.length cp 1 (by omega)) fun au hrun108 cn=>Rr 7 j (.slice au (b.length-1) (cp-1)) (fun _ _=>dF (kl:=.i64) (k:=((1:Nat) : Int)) (A:=A) (n:=b.length) (c:=cp) rfl Tryz.underlying27 (by kernel_rfl) (by kernel_rfl) (hrun108 _ _))<|?_
 refine R0 8 rfl<|eP #[] #[] (args:=#[.int .i64 dir,.int .u8 (b.getD 0 0),.slice au (b.length-1) (cp-1)])<|e2 (ka (dir:=dir) (c:=(b.getD 0 0)) (b8 (by omega)) (cn _ _ _ _ _ (aM.old ao M)) (by(try simp only[List.length_drop]);omega)) fun cq dD B S=>?_
 have av:=ub S ar
 have T:=aE M S
 refine be ⟨(ai av rfl),(uc T aq)⟩ fun aw=>Rt 9 aw<|Rt 10 aw<|?_
 have ax:=aE an T
 have aB:=ub ax a
 refine R0 11 rfl<|b6 (hz:=(by rw[B.size];exact aP)) (hv:=B.size) (h1:=B.one) aB (cq) fun dG cr C=>?_
 have dH:=uz T C
 have dI:=uz S C
 have aC:=ud f (uz ax C) h
 refine be ⟨(ai (aO C (Ne.symm (nb (aj a) ak.size am)) av) rfl),(cB (aM.old hsl aC) ap 0 (by omega))⟩ fun cs=>Rt 12 cs<|re<|tn<|rt<|dy 22 B.size cr (.int .i64 (((al aJ dir (b.getD 0 0) (b.drop 1))).2))<|?_
 have hs:co dir b=(al aJ dir (b.getD 0 0) (b.drop 1)):=by
   unfold co
   (try simp only[d,e,g,i,bs,if_true,if_false,decide_true,decide_false,hkf,gG,reduceIte])
   all_goals rfl
 refine fe hs ?_
 exact⟨_,rfl,(aU.upd B C (ah (aD aB (by decide)) az)),aC⟩
 have aF:=g8 (x:=(b.getD 0 0)) (w:=t)
 rw[hkf] at aF
 refine L0<|Oc<|m1 aF fun dJ aH=>Pl 3<|L0<|bz #[.nilFunc,.nilFunc] fun ct dK aK cv cw=>L0<|b6 cv #[.func (.func 60) #[] #[],.func (.func 61) #[] #[]] fun dL cx cy=>Pl 1<|nt<|sq<|sg<|Pl 2<|nt<|c0<|?_
 refine bB<|sq<|?_
 have aL:=aE aH (ud cw cy aK)
 have aN:=aM.old s aL
 refine fE (aM.at_ aN 0 (by omega)) fun cz cA aQ aR dM=>Rg 13 (fun w'=>w'.cell? ⟨ct,0,none⟩=some (.func (.func 60) #[] #[])∧w'.cell? ⟨cz,cA+0,none⟩=some (.int .u8 (b.getD 0 0))) fun dN N=>?_
 have aS:=ub N cx
 refine be ⟨(ai aS rfl),(uc N aR)⟩ fun l=>Rt 0 l<|Rl 1 l (fun _ hs=>hs.1)<|Rt 2 l<|Rt 3 l<|lU 4 l b.length 0 0 rfl aQ (by omega)<|Rl 5 l (fun _ hs=>hs.2)<|Rt 6 l<|pf (dE (P:=Tryz.prog) 27 5 1 Tryz.underlying27 rfl rfl A b.length cp 1 (by omega)) fun aT hrun188 cC=>Rr 7 l (.slice aT (b.length-1) (cp-1)) (fun _ _=>dF (kl:=.i64) (k:=((1:Nat) : Int)) (A:=A) (n:=b.length) (c:=cp) rfl Tryz.underlying27 (by kernel_rfl) (by kernel_rfl) (hrun188 _ _))<|?_
 refine R0 8 rfl<|eP #[] #[] (args:=#[.int .i64 dir,.int .u8 (b.getD 0 0),.slice aT (b.length-1) (cp-1)])<|e2 (l9 (dir:=dir) (c:=(b.getD 0 0)) (b8 (by omega)) (cC _ _ _ _ _ (aM.old aN N)) (by(try simp only[List.length_drop]);omega)) fun cD dO D U=>?_
 have aW:=ub U aS
 have V:=aE N U
 refine be ⟨(ai aW rfl),(uc V aR)⟩ fun aX=>Rt 9 aX<|Rt 10 aX<|?_
 have aY:=aE aL V
 have aZ:=ub aY a
 refine R0 11 rfl<|b6 (hz:=(by rw[D.size];exact aP)) (hv:=D.size) (h1:=D.one) aZ (cD) fun dP cE E=>?_
 have dQ:=uz V E
 have dR:=uz U E
 have b0:=ud f (uz aY E) h
 refine be ⟨(ai (aO E (Ne.symm (nb (aj a) aH.size aK)) aW) rfl),(cB (aM.old hsl b0) aQ 0 (by omega))⟩ fun cF=>Rt 12 cF<|re<|tn<|rt<|dy 22 D.size cE (.int .i64 (((al bG dir (b.getD 0 0) (b.drop 1))).2))<|?_
 have hs:co dir b=(al bG dir (b.getD 0 0) (b.drop 1)):=by
   unfold co
   (try simp only[d,e,g,i,bs,if_true,if_false,decide_true,decide_false,hkf,gG,reduceIte])
   all_goals rfl
 refine fe hs ?_
 exact⟨_,rfl,(aU.upd D E (ah (aD aZ (by decide)) az)),b0⟩
 have b1:=g8 (x:=(b.getD 0 0)) (w:=t)
 rw[hkf] at b1
 refine L0<|Oc<|m1 b1 fun dS b2=>Pl 3<|L0<|bz #[.nilFunc,.nilFunc] fun cG dT b3 cH cI=>L0<|b6 cH #[.func (.func 62) #[] #[],.func (.func 63) #[] #[]] fun dU cJ cK=>Pl 1<|nt<|sq<|sg<|Pl 2<|nt<|c0<|?_
 refine bB<|sq<|?_
 have b4:=aE b2 (ud cI cK b3)
 have b5:=aM.old s b4
 refine fE (aM.at_ b5 0 (by omega)) fun cL cM b7 b9 dV=>Rg 13 (fun w'=>w'.cell? ⟨cG,0,none⟩=some (.func (.func 62) #[] #[])∧w'.cell? ⟨cL,cM+0,none⟩=some (.int .u8 (b.getD 0 0))) fun dW O=>?_
 have ba:=ub O cJ
 refine be ⟨(ai ba rfl),(uc O b9)⟩ fun o=>Rt 0 o<|Rl 1 o (fun _ hs=>hs.1)<|Rt 2 o<|Rt 3 o<|lU 4 o b.length 0 0 rfl b7 (by omega)<|Rl 5 o (fun _ hs=>hs.2)<|Rt 6 o<|pf (dE (P:=Tryz.prog) 27 5 1 Tryz.underlying27 rfl rfl A b.length cp 1 (by omega)) fun bb hrun268 cN=>Rr 7 o (.slice bb (b.length-1) (cp-1)) (fun _ _=>dF (kl:=.i64) (k:=((1:Nat) : Int)) (A:=A) (n:=b.length) (c:=cp) rfl Tryz.underlying27 (by kernel_rfl) (by kernel_rfl) (hrun268 _ _))<|?_
 refine R0 8 rfl<|eP #[] #[] (args:=#[.int .i64 dir,.int .u8 (b.getD 0 0),.slice bb (b.length-1) (cp-1)])<|e2 (lC (dir:=dir) (c:=(b.getD 0 0)) (b8 (by omega)) (cN _ _ _ _ _ (aM.old b5 O)) (by(try simp only[List.length_drop]);omega)) fun cP dX F W=>?_
 have bc:=ub W ba
 have X:=aE O W
 refine be ⟨(ai bc rfl),(uc X b9)⟩ fun bd=>Rt 9 bd<|Rt 10 bd<|?_
 have bg:=aE b4 X
 have bh:=ub bg a
 refine R0 11 rfl<|b6 (hz:=(by rw[F.size];exact aP)) (hv:=F.size) (h1:=F.one) bh (cP) fun dY cQ G=>?_
 have dZ:=uz X G
 have e0:=uz W G
 have bi:=ud f (uz bg G) h
 refine be ⟨(ai (aO G (Ne.symm (nb (aj a) b2.size b3)) bc) rfl),(cB (aM.old hsl bi) b7 0 (by omega))⟩ fun cR=>Rt 12 cR<|re<|tn<|rt<|dy 22 F.size cQ (.int .i64 (((al aI dir (b.getD 0 0) (b.drop 1))).2))<|?_
 have hs:co dir b=(al aI dir (b.getD 0 0) (b.drop 1)):=by
   unfold co
   (try simp only[d,e,g,i,bs,if_true,if_false,decide_true,decide_false,hkf,gG,reduceIte])
   all_goals rfl
 refine fe hs ?_
 exact⟨_,rfl,(aU.upd F G (ah (aD bh (by decide)) az)),bi⟩
 have bj:=g8 (x:=(b.getD 0 0)) (w:=t)
 rw[hkf] at bj
 refine L0<|Oc<|m1 bj fun e1 bm=>Pl 3<|L0<|bz #[.nilFunc,.nilFunc] fun cS e3 bo cT cU=>L0<|b6 cT #[.func (.func 64) #[] #[],.func (.func 65) #[] #[]] fun e4 cV cW=>Pl 1<|nt<|sq<|sg<|Pl 2<|nt<|c0<|?_
 refine bB<|sq<|?_
 have bp:=aE bm (ud cU cW bo)
 have bt:=aM.old s bp
 refine fE (aM.at_ bt 0 (by omega)) fun cX cY bu bv e5=>Rg 13 (fun w'=>w'.cell? ⟨cS,0,none⟩=some (.func (.func 64) #[] #[])∧w'.cell? ⟨cX,cY+0,none⟩=some (.int .u8 (b.getD 0 0))) fun e6 Q=>?_
 have bw:=ub Q cV
 refine be ⟨(ai bw rfl),(uc Q bv)⟩ fun q=>Rt 0 q<|Rl 1 q (fun _ hs=>hs.1)<|Rt 2 q<|Rt 3 q<|lU 4 q b.length 0 0 rfl bu (by omega)<|Rl 5 q (fun _ hs=>hs.2)<|Rt 6 q<|pf (dE (P:=Tryz.prog) 27 5 1 Tryz.underlying27 rfl rfl A b.length cp 1 (by omega)) fun bx hrun348 cZ=>Rr 7 q (.slice bx (b.length-1) (cp-1)) (fun _ _=>dF (kl:=.i64) (k:=((1:Nat) : Int)) (A:=A) (n:=b.length) (c:=cp) rfl Tryz.underlying27 (by kernel_rfl) (by kernel_rfl) (hrun348 _ _))<|?_
 refine R0 8 rfl<|eP #[] #[] (args:=#[.int .i64 dir,.int .u8 (b.getD 0 0),.slice bx (b.length-1) (cp-1)])<|e2 (kJ (dir:=dir) (c:=(b.getD 0 0)) (b8 (by omega)) (cZ _ _ _ _ _ (aM.old bt Q)) (by(try simp only[List.length_drop]);omega)) fun d0 e7 H Y=>?_
 have bA:=ub Y bw
 have Z:=aE Q Y
 refine be ⟨(ai bA rfl),(uc Z bv)⟩ fun bC=>Rt 9 bC<|Rt 10 bC<|?_
 have bD:=aE bp Z
 have bF:=ub bD a
 refine R0 11 rfl<|b6 (hz:=(by rw[H.size];exact aP)) (hv:=H.size) (h1:=H.one) bF (d0) fun e8 d1 I=>?_
 have e9:=uz Z I
 have ea:=uz Y I
 have bH:=ud f (uz bD I) h
 refine be ⟨(ai (aO I (Ne.symm (nb (aj a) bm.size bo)) bA) rfl),(cB (aM.old hsl bH) bu 0 (by omega))⟩ fun d2=>Rt 12 d2<|re<|tn<|rt<|dy 22 H.size d1 (.int .i64 (((al aV dir (b.getD 0 0) (b.drop 1))).2))<|?_
 have hs:co dir b=(al aV dir (b.getD 0 0) (b.drop 1)):=by
   unfold co
   (try simp only[d,e,g,i,bs,if_true,if_false,decide_true,decide_false,hkf,gG,reduceIte])
   all_goals rfl
 refine fe hs ?_
 exact⟨_,rfl,(aU.upd H I (ah (aD bF (by decide)) az)),bH⟩
 have bI:=g8 (x:=(b.getD 0 0)) (w:=t)
 rw[hkf] at bI
 refine L0<|Oc<|m1 bI fun eb bJ=>Pl 3<|L0<|bz #[.nilFunc,.nilFunc] fun d3 ec bK d4 d5=>L0<|b6 d4 #[.func (.func 66) #[] #[],.func (.func 67) #[] #[]] fun ed d6 d7=>Pl 1<|nt<|sq<|sg<|Pl 2<|nt<|c0<|?_
 refine bB<|sq<|?_
 have bL:=aE bJ (ud d5 d7 bK)
 have bN:=aM.old s bL
 refine fE (aM.at_ bN 0 (by omega)) fun d8 d9 bO bP ee=>Rg 13 (fun w'=>w'.cell? ⟨d3,0,none⟩=some (.func (.func 66) #[] #[])∧w'.cell? ⟨d8,d9+0,none⟩=some (.int .u8 (b.getD 0 0))) fun ef R=>?_
 have bQ:=ub R d6
 refine be ⟨(ai bQ rfl),(uc R bP)⟩ fun r=>Rt 0 r<|Rl 1 r (fun _ hs=>hs.1)<|Rt 2 r<|Rt 3 r<|lU 4 r b.length 0 0 rfl bO (by omega)<|Rl 5 r (fun _ hs=>hs.2)<|Rt 6 r<|pf (dE (P:=Tryz.prog) 27 5 1 Tryz.underlying27 rfl rfl A b.length cp 1 (by omega)) fun bR hrun428 da=>Rr 7 r (.slice bR (b.length-1) (cp-1)) (fun _ _=>dF (kl:=.i64) (k:=((1:Nat) : Int)) (A:=A) (n:=b.length) (c:=cp) rfl Tryz.underlying27 (by kernel_rfl) (by kernel_rfl) (hrun428 _ _))<|?_
 refine R0 8 rfl<|eP #[] #[] (args:=#[.int .i64 dir,.int .u8 (b.getD 0 0),.slice bR (b.length-1) (cp-1)])<|e2 (mT (dir:=dir) (c:=(b.getD 0 0)) (b8 (by omega)) (da _ _ _ _ _ (aM.old bN R)) (by(try simp only[List.length_drop]);omega)) fun db eg J a0=>?_
 have bS:=ub a0 bQ
 have a1:=aE R a0
 refine be ⟨(ai bS rfl),(uc a1 bP)⟩ fun bT=>Rt 9 bT<|Rt 10 bT<|?_
 have bU:=aE bL a1
 have bV:=ub bU a
 refine R0 11 rfl<|b6 (hz:=(by rw[J.size];exact aP)) (hv:=J.size) (h1:=J.one) bV (db) fun eh dc L=>?_
 have ei:=uz a1 L
 have ej:=uz a0 L
 have bW:=ud f (uz bU L) h
 refine be ⟨(ai (aO L (Ne.symm (nb (aj a) bJ.size bK)) bS) rfl),(cB (aM.old hsl bW) bO 0 (by omega))⟩ fun dd=>Rt 12 dd<|re<|tn<|rt<|dy 22 J.size dc (.int .i64 (((al bq dir (b.getD 0 0) (b.drop 1))).2))<|?_
 have hs:co dir b=(al bq dir (b.getD 0 0) (b.drop 1)):=by
   unfold co
   (try simp only[d,e,g,i,bs,if_true,if_false,decide_true,decide_false,hkf,gG,reduceIte])
   all_goals rfl
 refine fe hs ?_
 exact⟨_,rfl,(aU.upd J L (ah (aD bV (by decide)) az)),bW⟩
 have bX:=g8 (x:=(b.getD 0 0)) (w:=t)
 rw[hkf] at bX
 refine L0<|Oc<|m1 bX fun ek de=>Pl 3<|L0<|bz #[.nilFunc,.nilFunc] fun el em df dg dh=>L0<|b6 dg #[.nilFunc,.nilFunc] fun eo ep di=>Pl 1<|nt<|sq<|sg<|Pl 2<|nt<|c1<|?_
 refine sg<|Pl 1<|?_
 have bY:=aE de (ud dh di df)
 refine L0<|b6 (ub bY a) mZ fun eq dj dk=>Pl 1<|nt<|rt<|tr<|cc dj (.int .i64 4)<|?_
 have hs:co dir b=(bf.zero,4):=by
   unfold co
   (try simp only[d,e,g,i,bs,if_true,if_false,decide_true,decide_false,hkf,gG,reduceIte])
   all_goals rfl
 refine fe hs ?_
 exact bE (ud f (uz bY dk) h)
theorem fT{m:Bool}{v:Value}{b:List Int}{w:World}{dir:Int}(h:aM m w v b)(hb:b.length≤1048576) : Calls Tryz.prog 162 #[.int .i64 dir,v] w (cO (co dir b) w):=by
  obtain⟨A,cp,rfl,_,_⟩:=h.shape
  exact lX h hb
end Go.Proofs.YtpglhicfhppaiaaGreat
namespace Go.Proofs.YtpglhicfhppaiaaGreat
def N1 (C:ak) : Prop:=C.e≠1
theorem N1.need{C:ak}{b:Bool}{x:Int}(hx:x≠1)(h:N1 C) : N1 (C.need b x):=by
  unfold N1 ak.need at *
  split
  · exact hx
  · exact h
theorem N1.bytesC{C:ak}{n:Int}(h:N1 C) : N1 (C.bytesC n):=by
  unfold ak.bytesC
  split
  · exact N1.need (by decide) h
  · exact h
theorem N1.wordsC{C:ak}{n:Int}(h:N1 C) : N1 (C.wordsC n):=by
  unfold ak.wordsC
  split<;>exact N1.bytesC h
theorem N1.recs{one:Int→ak→Int × ak × dU}(ho:∀ s C,N1 C→N1 (one s C).2.1) : ∀ (n:Nat)(s:Int)(C:ak)(L:List dU),N1 C→N1 (aW one n s C L).1
  | 0,_,_,_,h=>h
  | n+1,s,C,L,h=>by
    unfold aW
    split
    · split
      · exact ho s C h
      · exact N1.recs ho n _ _ _ (ho s C h)
    · exact h
theorem N1.endC{C:ak}(h:N1 C) : N1 C.endC:=by
  unfold ak.endC
  exact N1.need (by decide) h
end Go.Proofs.YtpglhicfhppaiaaGreat
namespace Go.Proofs.YtpglhicfhppaiaaGreat
end Go.Proofs.YtpglhicfhppaiaaGreat
namespace Go.Proofs.YtpglhicfhppaiaaGreat
open Go.RowKit
theorem nH{w w':World}(h:au [] w w') : Below w.heap.size w w':=⟨h.os,h.tape,h.output,h.size,fun k hk=>h.block k hk (by simp)⟩
theorem nN{n:Int}(h:(Lit.int .u8 n).wf=true) : 0≤n∧n<256:=by
  have:=bounds_u8 h
  omega
open Go.RowKit
structure SL where
  aw:Option Addr
  kw:Nat
  ab:Option Addr
  kb:Nat
  ad:Option Addr
  kd:Nat
  ar:Option Addr
  kr:Nat
  ao:Option Addr
  ko:Nat
def ol (M:bf)(x:SL) : Array Value:=mG M.code M.fail M.addr M.count M.value M.and_ M.or_ M.addr2 M.sub M.status M.events M.messages (.slice x.aw M.words.length x.kw) (.slice x.ab M.bits.length x.kb) (.slice x.ad M.data.length x.kd) (.slice x.ar M.recs.length x.kr) M.mei M.kind M.level M.more M.next (.slice x.ao M.objects.length x.ko)
theorem m6{m:Bool}{w:World}{cs:Array Value}{M:bf}(h:aU m w cs.toList M) : ∃ x,cs=ol M x:=by
  obtain⟨vw,vb,vd,vr,vo,h0,hw,hb,hd,hr,ho,hR⟩:=h
  obtain⟨aw,kw,rfl,_,_⟩:=hw.shape
  obtain⟨ab,kb,rfl,_,_⟩:=hb.shape
  obtain⟨ad,kd,rfl,_,_⟩:=hd.shape
  obtain⟨ar,kr,rfl,_,_⟩:=hr.shape
  obtain⟨ao,ko,rfl,_,_⟩:=ho.shape
  refine⟨⟨aw,kw,ab,kb,ad,kd,ar,kr,ao,ko⟩,?_⟩
  apply Array.toList_inj.1
  rw[h0]
  rfl
open Go.RowKit
def o3:bf:={ bf.zero with code:=7 }
open Go.RowKit
structure cT where
  unit:Int
  tid:Int
  msg:bf
def cT.zero:cT:=⟨0,0,bf.zero⟩
def tq (m:Bool)(w:World)(cs:Array Value)(F:cT) : Prop:=∃ c:Array Value,cs = #[.int .u8 F.unit,.int .u16 F.tid]++c∧aU m w c.toList F.msg∧B8 F.unit∧dq F.tid
def jh (res:cT × Int)(w:World)(e:Ending)(w':World) : Prop:=∃ cs,e = .returned (.tuple #[.agg cs,.int .i64 res.2])∧tq true w' cs res.1∧au [] w w'
theorem cQ{x y:cT × Int}(h:x=y){w:World}{e:Ending}{w':World}(k:jh y w e w') : jh x w e w':=by rw[h];exact k
def tE:Array Value:=#[.int .u8 0,.int .u16 0,.int .u8 0,.int .u8 0,.int .u16 0,.int .u16 0,.int .u16 0,.int .u16 0,.int .u16 0,.int .u16 0,.int .u16 0,.int .u16 0,.int .u16 0,.int .u16 0,.slice none 0 0,.slice none 0 0,.slice none 0 0,.slice none 0 0,.int .u8 0,.int .u8 0,.int .u8 0,.int .u8 0,.int .u8 0,.slice none 0 0]
theorem bW{x:Int}{w W:World}(hu:au [] w W) : jh (cT.zero,x) w (.returned (.tuple #[.agg tE,.int .i64 x])) W:=⟨_,rfl,⟨oP,(by kernel_rfl),aU.zero ..,(show(0:Int)≤0∧(0:Int)<256 from by decide),(show(0:Int)≤0∧(0:Int)<65536 from by decide)⟩,hu⟩
def cw (u t:Int) : bf × Int→cT × Int
  | (M,E)=>if E != 0 then (cT.zero,E) else (⟨u,t,M⟩,0)
open Go.RowKit
deriving instance DecidableEq for cT
def o5 (u t:Int)(M:bf)(x:SL) : Array Value:=#[.int .u8 u,.int .u16 t,.int .u8 M.code,.int .u8 M.fail,.int .u16 M.addr,.int .u16 M.count,.int .u16 M.value,.int .u16 M.and_,.int .u16 M.or_,.int .u16 M.addr2,.int .u16 M.sub,.int .u16 M.status,.int .u16 M.events,.int .u16 M.messages,.slice x.aw M.words.length x.kw,.slice x.ab M.bits.length x.kb,.slice x.ad M.data.length x.kd,.slice x.ar M.recs.length x.kr,.int .u8 M.mei,.int .u8 M.kind,.int .u8 M.level,.int .u8 M.more,.int .u8 M.next,.slice x.ao M.objects.length x.ko]
theorem i5(u t:Int)(M:bf)(x:SL) : o5 u t M x = #[.int .u8 u,.int .u16 t]++ol M x:=by kernel_rfl
open Go.RowKit
structure Ev where
  e:Int
  f:cT
def Ev.bad (e:Int) : Ev:=⟨e,cT.zero⟩
def kS (x:Ev)(s:SL) : Array Value:=#[.int .i64 x.e,.int .u8 x.f.unit,.int .u16 x.f.tid,.int .u8 x.f.msg.code,.int .u8 x.f.msg.fail,.int .u16 x.f.msg.addr,.int .u16 x.f.msg.count,.int .u16 x.f.msg.value,.int .u16 x.f.msg.and_,.int .u16 x.f.msg.or_,.int .u16 x.f.msg.addr2,.int .u16 x.f.msg.sub,.int .u16 x.f.msg.status,.int .u16 x.f.msg.events,.int .u16 x.f.msg.messages,.slice s.aw x.f.msg.words.length s.kw,.slice s.ab x.f.msg.bits.length s.kb,.slice s.ad x.f.msg.data.length s.kd,.slice s.ar x.f.msg.recs.length s.kr,.int .u8 x.f.msg.mei,.int .u8 x.f.msg.kind,.int .u8 x.f.msg.level,.int .u8 x.f.msg.more,.int .u8 x.f.msg.next,.slice s.ao x.f.msg.objects.length s.ko]
theorem rV(x:Ev)(s:SL) : kS x s = #[.int .i64 x.e]++o5 x.f.unit x.f.tid x.f.msg s:=by kernel_rfl
def j4 (m:Bool)(w:World)(x:Ev)(cs:List Value) : Prop:=∃ s,cs=(kS x s).toList∧aU m w (ol x.f.msg s).toList x.f.msg∧(0≤x.f.unit∧x.f.unit<256)∧(0≤x.f.tid∧x.f.tid<65536)
def jz (m:Bool)(w:World)(f:cT)(cs:List Value) : Prop:=∃ s,cs=(o5 f.unit f.tid f.msg s).toList∧aU m w (ol f.msg s).toList f.msg∧(0≤f.unit∧f.unit<256)∧(0≤f.tid∧f.tid<65536)
def vS (m:Bool)(w:World)(b:List Int)(cs:List Value) : Prop:=∃ v,cs=[v]∧aM m w v b
abbrev kP (m:Bool) (w:World) (v:Value) (xs:List Ev) : Prop:=aH m 66 25 (j4 m) w v xs
abbrev f6 (base:Nat) (w:World) (v:Value) (xs:List Ev) : Prop:=aN base 66 25 (j4 true) w v xs
theorem j4.upd{m:Bool}{w w':World}{S:List Nat}(hu:au S w w')(hs:bN m ez S w)(x:Ev)(cs:List Value)(h:j4 m w x cs) : j4 m w' x cs:=by
  obtain⟨s,h1,h2,h3⟩:=h
  exact⟨s,h1,h2.upd hu hs,h3⟩
theorem kP.upd'{m:Bool}{w w':World}{v:Value}{xs:List Ev}{S:List Nat}(h:kP m w v xs)(hu:au S w w')(hs:bN m (66 :: ez) S w) : kP m w' v xs:=aH.upd h hu (hs.sub fun t ht=>by rw[List.mem_singleton] at ht;rw[ht];exact List.mem_cons_self ..) (j4.upd hu (hs.sub fun t ht=>List.mem_cons_of_mem _ ht))
theorem kP.old{m:Bool}{w w':World}{v:Value}{xs:List Ev}(h:kP m w v xs)(hu:au [] w w') : kP m w' v xs:=h.upd' hu (bN.nil _ _ _)
theorem pn(x:Ev)(s:SL) : (kS x s).toList.length=25:=by kernel_rfl
theorem jg{w:World}:aU true w (ol bf.zero ⟨none,0,none,0,none,0,none,0,none,0⟩).toList bf.zero:=aU.zero ..
theorem j8{w0 w:World}{g:Nat}{cs:Array Value}{x:Ev}(hg:w0.heap.size≤g)(hb:w.heap[g]? = some (.cells cs 66 (0,0)))(h:j4 true w x cs.toList) : f6 w0.heap.size w (.slice (some ⟨g,0,none⟩) 1 1) [x]:=by
  have hh:=h
  obtain⟨s,h1,h2⟩:=hh
  have hl:cs.toList.length=25:=by rw[h1];exact pn x s
  clear h1
  refine⟨cs.toList,⟨hl,.inr ⟨g,1,cs,rfl,hg,hb,Nat.le_refl _,by unfold maxLen;omega,by simpa using hl,by rw[List.take_of_length_le];exact Nat.le_of_eq hl⟩⟩,fun j y hj=>?_⟩
  cases j with
  | succ j=>simp at hj
  | zero =>
    have hj:x=y:=by simpa using hj
    subst hj
    exact⟨cs.toList,hl,h,fun i u hi=>by simpa using hi⟩
theorem tU{α β γ δ ε ζ:Sort _}{C:Prop}{P1 P2 P3 P4:α→β→γ→δ→ε→ζ→Prop}(h:∃ a b c d e f,P1 a b c d e f∧P2 a b c d e f∧P3 a b c d e f∧P4 a b c d e f)(k:∀ a b c d e f,P1 a b c d e f→P2 a b c d e f→P3 a b c d e f→P4 a b c d e f→C) : C :=
  let ⟨a,b,c,d,e,f,h1,h2,h3,h4⟩:=h;k a b c d e f h1 h2 h3 h4
theorem g7{α β γ δ:Sort _}{C:Prop}{P1 P2 P3 P4 P5:α→β→γ→δ→Prop}(h:∃ a b c d,P1 a b c d∧P2 a b c d∧P3 a b c d∧P4 a b c d∧P5 a b c d)(k:∀ a b c d,P1 a b c d→P2 a b c d→P3 a b c d→P4 a b c d→P5 a b c d→C) : C :=
  let ⟨a,b,c,d,h1,h2,h3,h4,h5⟩:=h;k a b c d h1 h2 h3 h4 h5
theorem j4.ones{m:Bool}{w:World}(x:Ev)(cs:List Value)(h:j4 m w x cs) : ∀ v,v∈cs→v.oneCell'=true:=by
  obtain⟨s,h1,h2,_⟩:=h
  have h3:=h2.one
  intro v hv
  rw[h1,rV,i5,Array.toList_append,Array.toList_append,List.mem_append,List.mem_append] at hv
  clear h1
  rw[Array.all_eq_true'] at h3
  rcases hv with hv|hv|hv
  · simp at hv;subst hv;rfl
  · simp at hv;rcases hv with rfl | rfl<;>rfl
  · exact h3 v (by simpa using hv)
theorem kP.elt{m:Bool}{w:World}{A:Option Addr}{n c:Nat}{xs:List Ev}(h:kP m w (.slice A n c) xs)(j:Nat)(hj:j<xs.length)(d:Ev) :
    ∃ b off cells t fr s,A=some ⟨b,off,none⟩∧w.heap[b]? = some (.cells cells t fr)∧(aU m w (ol (xs.getD j d).f.msg s).toList (xs.getD j d).f.msg∧(0≤(xs.getD j d).f.unit∧(xs.getD j d).f.unit<256)∧(0≤(xs.getD j d).f.tid∧(xs.getD j d).f.tid<65536))∧(cells.toList.drop (off+j*25)).take 25=(kS (xs.getD j d) s).toList:=by
  obtain⟨b,off,cells,t,fr,cs,h1,h2,h3,⟨s,h4,h5⟩,h6⟩:=aH.elt h d j hj
  exact⟨b,off,cells,t,fr,s,h1,h2,h5,h6.trans h4⟩
abbrev tJ (m:Bool) (w:World) (v:Value) (xs:List cT) : Prop:=aH m 33 24 (jz m) w v xs
abbrev kG (m:Bool) (w:World) (v:Value) (xs:List (List Int)) : Prop:=aH m 27 1 (vS m) w v xs
theorem jz.upd{m:Bool}{w w':World}{S:List Nat}(hu:au S w w')(hs:bN m ez S w)(x:cT)(cs:List Value)(h:jz m w x cs) : jz m w' x cs:=by
  obtain⟨s,h1,h2,h3⟩:=h
  exact⟨s,h1,h2.upd hu hs,h3⟩
theorem tJ.old{m:Bool}{w w':World}{v:Value}{xs:List cT}(h:tJ m w v xs)(hu:au [] w w') : tJ m w' v xs:=aH.upd h hu (bN.nil _ _ _) (jz.upd hu (bN.nil _ _ _))
theorem tJ.elt{m:Bool}{w:World}{A:Option Addr}{n c:Nat}{xs:List cT}(h:tJ m w (.slice A n c) xs)(j:Nat)(hj:j<xs.length)(d:cT) :
    ∃ b off cells t fr s,A=some ⟨b,off,none⟩∧w.heap[b]? = some (.cells cells t fr)∧(aU m w (ol (xs.getD j d).msg s).toList (xs.getD j d).msg∧(0≤(xs.getD j d).unit∧(xs.getD j d).unit<256)∧(0≤(xs.getD j d).tid∧(xs.getD j d).tid<65536))∧(cells.toList.drop (off+j*24)).take 24=(o5 (xs.getD j d).unit (xs.getD j d).tid (xs.getD j d).msg s).toList:=by
  obtain⟨b,off,cells,t,fr,cs,h1,h2,h3,⟨s,h4,h5⟩,h6⟩:=aH.elt h d j hj
  exact⟨b,off,cells,t,fr,s,h1,h2,h5,h6.trans h4⟩
theorem kG.old{m:Bool}{w w':World}{v:Value}{xs:List (List Int)}(h:kG m w v xs)(hu:au [] w w') : kG m w' v xs:=aH.upd h hu (bN.nil _ _ _) fun x cs ⟨v,h1,h2⟩=>⟨v,h1,h2.old hu⟩
theorem kG.elt{m:Bool}{w:World}{A:Option Addr}{n c:Nat}{xs:List (List Int)}(h:kG m w (.slice A n c) xs)(j:Nat)(hj:j<xs.length) :
    ∃ b off A' c',A=some ⟨b,off,none⟩∧w.cell? ⟨b,off+j,none⟩=some (.slice A' (xs.getD j []).length c')∧aM m w (.slice A' (xs.getD j []).length c') (xs.getD j [])∧(xs.getD j []).length≤c'∧c'≤maxLen:=by
  obtain⟨b,off,cells,t,fr,cs,h1,h2,h3,⟨v,h4,h5⟩,h6⟩:=aH.elt h [] j hj
  obtain⟨A',c',rfl,h7,h8⟩:=h5.shape
  refine⟨b,off,A',c',h1,?_,h5,h7,h8⟩
  rw[bF h2]
  rw[h4] at h6
  have h9:=congrArg (fun z=>z[0]?) h6
  simpa using h9
open Go.RowKit
theorem rJ{P:Program}(t e:TypeId)(sz:Nat){i:TypeInfo}(ht:P.underlying t=some (.slice e))(hi:P.info? e=some i)(hsz:i.size=sz)(A:Option Addr)(n c:Nat){k:Int}(h:Nat)(hk:k=(h:Int))(hh:h≤n)(hc:n≤c) :
    ∃ A':Option Addr,(∀ (kh:IntKind) (W:World),(Instr.slice t (.slice A n c) none (some (.int kh k)) none).run P W = .ok (.slice A' h c) W) ∧
      ∀ {α:Type} (m:Bool) (e':TypeId) (R:World→α→List Value→Prop) (w:World) (xs:List α),aH m e' sz R w (.slice A n c) xs→aH m e' sz R w (.slice A' h c) (xs.take h):=by
  subst hk
  obtain⟨A',h1,h2⟩:=ou (P:=P) t e sz ht hi hsz A n c 0 h (Nat.zero_le _) hh hc
  refine⟨A',fun kh W=>?_,fun m e' R w xs hr=>by simpa using h2 m e' R w xs hr⟩
  have h3:=h1 .i64 kh W
  have hel:P.elem t=e:=by simp[Program.elem,ht]
  have hu:P.underlying t=some (.slice (P.elem t)):=by rw[hel];exact ht
  rw[run_slice_h W t A n c hu kh (h:Int) (Int.natCast_nonneg _) (by omega)]
  rw[run_slice_lh W t A n c hu .i64 kh (((0:Nat) : Int)) (h:Int) (Int.natCast_nonneg _) (by omega) (by omega)] at h3
  simpa using h3
theorem kM{o:Oper}{ev:Operand→Value}{P:Program}{w:World}{t:TypeId}{x y:Operand}{A:Option Addr}{n c:Nat}{kl:IntKind}{k:Int}{v:Value}{e:TypeId}(ho:o.op = .slice t x none (some y) none)(ht:P.underlying t=some (.slice e))(hx:ev x = .slice A n c)(hy:ev y = .int kl k)
    (hr:(Instr.slice t (.slice A n c) none (some (.int kl k)) none).run P w = .ok v w) : (execOp ev o).run P w = .ok (.value v) w:=by
  have hu:(underlying t).run P w = .ok (.slice e) w:=run_underlying ht w
  unfold execOp
  simp only[ho,Option.map_some,Option.map_none,hx,hy,Instr.sliceAt,Sem.run_bind,hu,hr,Result.andThen,Sem.run_pure]
theorem mg{P:Program}(t e:TypeId)(sz:Nat){i:TypeInfo}(ht:P.underlying t=some (.slice e))(hi:P.info? e=some i)(hsz:i.size=sz)(A:Option Addr)(n c:Nat){lo up:Int}(k h:Nat)(hlo:lo=(k:Int))(hup:up=(h:Int))(hk:k≤h)(hh:h≤n)(hc:n≤c) :
    ∃ A':Option Addr,(∀ (kl kh:IntKind) (W:World),(Instr.slice t (.slice A n c) (some (.int kl lo)) (some (.int kh up)) none).run P W = .ok (.slice A' (h-k) (c-k)) W) ∧
      ∀ {α:Type} (m:Bool) (e':TypeId) (R:World→α→List Value→Prop) (w:World) (xs:List α),aH m e' sz R w (.slice A n c) xs→aH m e' sz R w (.slice A' (h-k) (c-k)) ((xs.take h).drop k):=by
  subst hlo hup
  exact ou t e sz ht hi hsz A n c k h hk hh hc
theorem iz{o:Oper}{ev:Operand→Value}{P:Program}{w:World}{t:TypeId}{x y z:Operand}{A:Option Addr}{n c:Nat}{kl kh:IntKind}{lo hi:Int}{v:Value}{e:TypeId}(ho:o.op = .slice t x (some y) (some z) none)(ht:P.underlying t=some (.slice e))(hx:ev x = .slice A n c)(hy:ev y = .int kl lo)(hz:ev z = .int kh hi)
    (hr:(Instr.slice t (.slice A n c) (some (.int kl lo)) (some (.int kh hi)) none).run P w = .ok v w) : (execOp ev o).run P w = .ok (.value v) w:=by
  have hu:(underlying t).run P w = .ok (.slice e) w:=run_underlying ht w
  unfold execOp
  simp only[ho,Option.map_some,Option.map_none,hx,hy,hz,Instr.sliceAt,Sem.run_bind,hu,hr,Result.andThen,Sem.run_pure]
theorem iC{P:Program}(t e:TypeId)(sz:Nat){i:TypeInfo}(ht:P.underlying t=some (.slice e))(hi:P.info? e=some i)(hsz:i.size=sz)(A:Option Addr)(n c:Nat){lo:Int}(k:Nat)(hlo:lo=(k:Int))(hk:k≤n) :
    ∃ A':Option Addr,(∀ (kl:IntKind) (W:World),(Instr.slice t (.slice A n c) (some (.int kl lo)) none none).run P W = .ok (.slice A' (n-k) (c-k)) W) ∧
      ∀ {α:Type} (m:Bool) (e':TypeId) (R:World→α→List Value→Prop) (w:World) (xs:List α),aH m e' sz R w (.slice A n c) xs→aH m e' sz R w (.slice A' (n-k) (c-k)) (xs.drop k):=by
  subst hlo
  exact dE t e sz ht hi hsz A n c k hk
open Go.RowKit
theorem qn{P:Program}{w:World}{ev:Operand→Value}{o:Oper}{x y:Operand}{ts:Array TypeId}{k:IntKind}{a b:Int}(ho:o.op = .call { callee:=.builtin .min,args:=#[x,y],argTypes:=ts })(hx:ev x = .int k a)(hy:ev y = .int k b) : (execOp ev o).run P w = .ok (.value (.int k (min a b))) w:=by
  have h:(Builtin.min_ ts o.type #[.int k a,.int k b]).run P w = .ok (.int k (min a b)) w:=by
    simp[Builtin.min_,Builtin.min2]
    split<;>simp[Int.min_def]<;>omega
  unfold execOp
  simp only[ho,resolve,invoke,builtin,Sem.run_bind,Sem.run_pure,Result.andThen_ok,List.map_toArray,List.map_cons,List.map_nil,hx,hy,h]
theorem aH.adr{α:Type}{m:Bool}{e:TypeId}{sz:Nat}{R:World→α→List Value→Prop}{w:World}{A:Option Addr}{n c:Nat}{xs:List α}(h:aH m e sz R w (.slice A n c) xs) : 0<n→∃ b off,A=some ⟨b,off,none⟩:=fun hn=>by
  obtain⟨A',c',hv,hc1,hc2,h0,h3⟩:=h
  injection hv with e1 e2 e3
  subst e1 e2 e3
  obtain⟨b,off,cells,t,fr,hA,_⟩:=h3 hn
  exact⟨b,off,hA⟩
theorem aH.cap{α:Type}{m:Bool}{e:TypeId}{sz:Nat}{R:World→α→List Value→Prop}{w:World}{A:Option Addr}{n c:Nat}{xs:List α}(h:aH m e sz R w (.slice A n c) xs) : n≤c:=by
  obtain⟨A',c',hv,h1,_⟩:=h
  injection hv with _ e2 e3
  subst e2 e3
  exact h1
theorem oA{P:Program}{w:World}{ev:Operand→Value}{o:Oper}{x y z:Operand}{t e:TypeId}{A:Option Addr}{n c:Nat}{k1 k2:IntKind}{i1 i2:Int}(ho:o.op = .slice t x none (some y) (some z))(ht:P.underlying t=some (.slice e))(hi:(P.info? e).map (·.size)=some 1)
    (hx:ev x = .slice A n c) (hy:ev y = .int k1 i1) (hz:ev z = .int k2 i2) (h1:i1=(n:Int)) (h2:i2=(n:Int)) (hc1:n≤c) (hA:0<n→∃ b off,A=some ⟨b,off,none⟩) : (execOp ev o).run P w = .ok (.value (.slice A n n)) w:=by
  subst h1 h2
  obtain⟨i0,hi0,hs⟩:=Option.map_eq_some_iff.1 hi
  have hel:P.elem t=e:=by simp[Program.elem,ht]
  have hu:P.underlying t=some (.slice (P.elem t)):=by rw[hel];exact ht
  have hr:=run_slice_hm (P:=P) w t A n c hu k1 k2 ((n:Nat) : Int) ((n:Nat) : Int) (by omega) (Int.le_refl _) (by omega)
  have hA:(if n=0 then A else A.map (·.add 0))=A:=by
    split
    · rfl
    · rename_i hne
      obtain⟨b,off,rfl⟩:=hA (by omega)
      rfl
  have hr2:(Instr.slice t (.slice A n c) none (some (.int k1 ((n:Nat) : Int))) (some (.int k2 ((n:Nat) : Int)))).run P w = .ok (.slice A n n) w:=by
    rw[hr,hel]
    simp[sizeOf,typeInfo,hi0,hs,sliced,Result.andThen]
    simpa using hA
  have hu2:(underlying t).run P w = .ok (.slice e) w:=run_underlying ht w
  unfold execOp
  simp only[ho,Option.map_some,Option.map_none,hx,hy,hz,Instr.sliceAt,Sem.run_bind,hu2,hr2,Result.andThen,Sem.run_pure]
theorem aM.full{m:Bool}{w:World}{A:Option Addr}{n c:Nat}{xs:List Int}(h:aM m w (.slice A n c) xs) : aM m w (.slice A n n) xs:=by
  obtain⟨A',c',hv,hc1,hc2,h0,h3⟩:=h
  injection hv with e1 e2 e3
  subst e1 e2 e3
  refine⟨A,xs.length,rfl,Nat.le_refl _,Nat.le_trans hc1 hc2,fun hA=>?_,h3⟩
  have:=h0 hA
  omega
theorem jF{P:Program}{A:Option Addr}{c:Nat}(w:World) : (Builtin.firstCells 1 0 (.slice A 0 c)).run P w = .ok #[] w:=by
  cases A with
  | none=>simp[Builtin.firstCells]
  | some a =>
    have:=run_loadCells_list (P:=P) w a [] (fun j v hj=>by simp at hj)
    simpa [Builtin.firstCells] using this
theorem s5{P:Program}{m:Bool}{w:World}{t e:TypeId}{A:Option Addr}{n c:Nat}{ys:List Int}(ht:P.underlying t=some (.slice e))(h:aM m w (.slice A n c) ys)(h0:ys=[]) : Src P 1 t (.slice A n c) 0 [] w:=by
  subst h0
  obtain⟨A',c',hv,hc1,hc2,h0,h3⟩:=h
  injection hv with e1 e2 e3
  subst e1 e2 e3
  exact⟨.inl ⟨e,ht⟩,fun w'=>by simp[Builtin.lenOf],jF w,jF w.drew,rfl,fun u hu=>by cases hu⟩
section
variable {P:Program}{n:Nat}{D:List Deferred}{F:Fr}{w:World}{K:Fr→World→Prop}{Q:Exit→Act→World→Prop}{d:Option Tmp}{t:TypeId}{s:String}{af:Array Edge}{gu:Option (Nat × Bool)}
end
end Go.Proofs.YtpglhicfhppaiaaGreat
namespace Go.Proofs.YtpglhicfhppaiaaGreat
def pS (x:Nat) : Nat:=(x/2) ^^^ (x%2*40961)
def eL:Nat→Nat→Nat
  | 0,x=>x
  | k+1,x=>pS (eL k x)
def qL (i:Nat) : Nat:=eL 8 i
theorem pY{x:Nat}(h:x<65536) : pS x<65536:=by
  unfold pS
  exact Nat.xor_lt_two_pow (n:=16) (by omega) (by omega)
theorem j9{x:Nat}(h:x<65536) : ∀ k,eL k x<65536
  | 0=>h
  | k+1=>pY (j9 h k)
theorem my{i:Nat}(h:i<256) : qL i<65536:=j9 (by omega) 8
def p6 (s c:Nat) : Nat:=(s/256) ^^^ qL ((s%256) ^^^ c)
theorem mn{a b:Nat}(ha:a<256)(hb:b<256) : a ^^^ b<256:=Nat.xor_lt_two_pow (n:=8) ha hb
theorem oS{a b:Nat}(ha:a<65536)(hb:b<65536) : a ^^^ b<65536:=Nat.xor_lt_two_pow (n:=16) ha hb
theorem ph{s c:Nat}(hs:s<65536)(hc:c<256) : p6 s c<65536:=oS (by omega) (my (mn (by omega) hc))
def xi (a b:Int) : Int:=((a.toNat ^^^ b.toNat:Nat) : Int)
theorem vn{a b:Int}(ha:0≤a∧a<256)(hb:0≤b∧b<256) : 0≤xi a b∧xi a b<256:=by
  have:=mn (a:=a.toNat) (b:=b.toNat) (by omega) (by omega)
  unfold xi
  omega
theorem rp(n:Nat) : xi (((n:Nat) : Int)/2) ((((n:Nat) : Int)%2)*40961%65536)=((pS n:Nat) : Int):=by
  unfold xi pS
  rw[show(((n:Nat) : Int)/2).toNat=n/2 from by omega,show((((n:Nat) : Int)%2)*40961%65536).toNat=n%2*40961 from by omega]
def gq (i:Int) : Int:=((qL i.toNat:Nat) : Int)
theorem ky{i:Int}(h:0≤i∧i<256) : 0≤gq i∧gq i<65536:=by
  have:=my (i:=i.toNat) (by omega)
  unfold gq
  omega
def lw (s c:Int) : Int:=xi (s/256) (gq (xi (s%256) c))
theorem oB{s c:Int}(hs:0≤s∧s<65536)(hc:0≤c∧c<256) : lw s c=((p6 s.toNat c.toNat:Nat) : Int):=by
  unfold lw gq xi p6
  rw[show(s/256).toNat=s.toNat/256 from by omega,show(s%256).toNat=s.toNat%256 from by omega]
  simp only[Int.toNat_natCast]
theorem kp{s c:Int}(hs:0≤s∧s<65536)(hc:0≤c∧c<256) : 0≤lw s c∧lw s c<65536:=by
  have:=ph (s:=s.toNat) (c:=c.toNat) (by omega) (by omega)
  rw[oB hs hc]
  omega
def bZ (s:Int)(b:List Int) : Int:=b.foldl lw s
theorem gQ:∀ (b:List Int){s:Int},(0≤s∧s<65536)→(∀ x,x∈b→0≤x∧x<256)→0≤bZ s b∧bZ s b<65536
  | [],s,hs,_=>hs
  | c :: b,s,hs,hb=>gQ b (kp hs (hb c (List.mem_cons_self ..))) fun x hx=>hb x (List.mem_cons_of_mem _ hx)
theorem ow(s:Int)(a b:List Int) : bZ s (a++b)=bZ (bZ s a) b:=by unfold bZ;rw[List.foldl_append]
def bK (s:Int) : List Int:=[s%256,s/256%256]
def dx (b:List Int) : Bool:=decide (2≤b.length)&&decide (bK (bZ 65535 (b.take (b.length-2)))=b.drop (b.length-2))
open Go.RowKit
def u4 (P:Program)(ty:TypeId) : Option (Nat × TypeId):=match P.underlying ty with | some (.array m e)=>some (m,e) | _=>none
theorem ot{P:Program}{ty e:TypeId}{m:Nat}(h:u4 P ty=some (m,e)) : P.underlying ty=some (.array m e):=by
  unfold u4 at h
  split at h
  · injection h with h
    injection h with h1 h2
    subst h1 h2
    assumption
  · cases h
theorem nP{P:Program}{w:World}{ev:Operand→Value}{o:Oper}{t e:TypeId}{x ix:Operand}{b off j m:Nat}{k:IntKind}{i:Int}(ho:o.op = .indexAddr t x ix)(ht:P.underlying t=some (.array m e))(hi:(P.info? e).map (·.size)=some 1)
    (hx:ev x = .pointer (some ⟨b,off,none⟩)) (hix:ev ix = .int k i) (hj:i=j) (hlt:j<m) : (execOp ev o).run P w = .ok (.value (.pointer (some ⟨b,off+j,none⟩))) w:=by
  subst hj
  obtain⟨i0,hi0,hs⟩:=Option.map_eq_some_iff.1 hi
  unfold execOp
  have h2:(0:Int)≤(j:Int)∧(j:Int)<(m:Int):=by omega
  simp[ho,hx,hix,Instr.indexAt,Instr.sureAddr,asIntOf,run_underlying ht,Result.andThen,h2,sizeOf,typeInfo,hi0,hs,fp,hlt]
section
variable {P:Program}{n:Nat}{D:List Deferred}{F:Fr}{w:World}{K:Fr→World→Prop}{Q:Exit→Act→World→Prop}{d:Option Tmp}{t:TypeId}{s:String}{af:Array Edge}{gu:Option (Nat × Bool)}
theorem v9{ty:TypeId}{x ix:Operand}{b off:Nat}(m j:Nat)(i:Int)(hj:i=j)(hlt:j<m)(h:K (pt d (.pointer (some ⟨b,off+j,none⟩)) F) w)
    (hx:cX F x=some (.pointer (some ⟨b,off,none⟩)):=by kernel_rfl) (hi:rj F ix=some i:=by kernel_rfl) (hs:((u4 P ty).bind fun p=>(P.info? p.2).map fun q=>(p.1,q.size),dw n d)=(some (m,1),true):=by kernel_rfl) : OG P ⟨d,.indexAddr ty x ix,t,s,af,gu⟩ n D F w K Q:=by
  simp only[Prod.mk.injEq] at hs
  obtain⟨hs,hd⟩:=hs
  obtain⟨k,hi⟩:=gT hi
  cases he:u4 P ty with
  | none=>rw[he] at hs;simp at hs
  | some p =>
    obtain⟨m',e⟩:=p
    rw[he] at hs
    obtain⟨q,hq,h3⟩:=Option.map_eq_some_iff.1 (show(P.info? e).map (fun q=>(m',q.size))=some (m,1) from hs)
    injection h3 with h4 h5
    subst h4
    exact⟨fun a ha K' hK=>dN _ rfl (nP rfl (ot he) (by rw[hq];simp[h5]) (ha.ev hx) (ha.ev hi) hj hlt) (hK _ _ _ h (ha.put hd))⟩
end
theorem ta{a b:Int}(ha:0≤a∧a<256)(hb:0≤b∧b<256) : bits .xor .u8 a b=xi a b:=u8_xor a b ha.1 ha.2 hb.1 hb.2
theorem oR{a b:Int}(ha:0≤a∧a<65536)(hb:0≤b∧b<65536) : bits .xor .u16 a b=xi a b:=u16_xor a b ha.1 ha.2 hb.1 hb.2
theorem oV{a:Int}(ha:0≤a∧a<65536) : bits .and .u16 a 1=a%2:=by
  rw[u16_and a 1 ha.1 ha.2 (by omega) (by omega)]
  show((a.toNat &&& 1:Nat) : Int)=_
  rw[Nat.and_one_is_mod]
  omega
def eG (k:Nat) : Array Value:=((List.range 256).map fun i=>if i<k then Value.int .u16 (gq i) else Value.int .u16 0).toArray
theorem cG(k:Nat) : (eG k).size=256:=by simp[eG]
theorem kC(k:Nat) : (eG k).all (·.oneCell')=true:=by
  unfold eG
  rw[List.all_toArray,List.all_eq_true]
  intro v hv
  rw[List.mem_map] at hv
  obtain⟨i,_,rfl⟩:=hv
  split<;>rfl
theorem oW{i k:Nat}(hk:k=8)(hi:i<256) : (eG i).setIfInBounds i (.int .u16 ((eL k i:Nat) : Int))=eG (i+1):=by
  subst hk
  unfold eG
  rw[List.setIfInBounds_toArray]
  congr 1
  apply List.ext_getElem?
  intro j
  rw[List.getElem?_set]
  by_cases hj:j<256
  · by_cases hij:i=j
    · subst hij
      simp[hi,gq,qL]
    · simp[hij,hj]
      congr 1
      simp only[eq_iff_iff]
      omega
  · rw[if_neg (by omega)]
    simp[hj]
theorem qS{i:Nat}(h:i<256) : (eG 256)[i]? = some (.int .u16 (gq i)):=by simp[eG,h]
def db (s:Int)(b:List Int) : Nat→Int
  | 0=>s
  | k+1=>lw (db s b k) (b.getD k 0)
theorem iH(s:Int)(b:List Int) : ∀ k,k≤b.length→db s b k=bZ s (b.take k)
  | 0,_=>by simp[db,bZ]
  | k+1,h=>by
    rw[List.take_succ_eq_append_getElem (by omega),ow,← iH s b k (by omega)]
    show lw _ (b.getD k 0)=_
    rw[List.getD_eq_getElem?_getD,List.getElem?_eq_getElem (by omega)]
    rfl
theorem pC{s:Int}{b:List Int}{k:Nat}(h:k=b.length) : db s b k=bZ s b:=by
  subst h
  rw[iH _ _ _ (Nat.le_refl _),List.take_length]
theorem jY{s:Int}{b:List Int}(hs:0≤s∧s<65536)(hb:∀ x,x∈b→0≤x∧x<256) : ∀ k,0≤db s b k∧db s b k<65536
  | 0=>hs
  | k+1=>kp (jY hs hb k) (dY (by omega) hb k)
theorem ox{i:Int}(h:0≤i) : gq ((i.toNat:Nat) : Int)=gq i:=by rw[Int.toNat_of_nonneg h]
open Go.RowKit
theorem j7{w:World}:Calls Tryz.prog 167 #[] w (bg (.agg (eG 256)) w):=by
 refine en 23 Tryz.func167 rfl<|sg<|L0<|bz (eG 0) fun c G o p q=>ng<|L0<|bz (eG 0) fun a r s t u=>nt<|sq<|sg<|?_
 refine Pl 1<|nt<|bk<|?_
 refine fR (fun x=>[(0,.pointer (some ⟨c,0,none⟩)),(1,.pointer (some ⟨a,0,none⟩)),(4,.int .i64 ((x:Nat) : Int))]) (fun(x:Nat) w'=>au [a] r w'∧w'.heap[a]? = some (.cells (eG x) 218 (0,0))∧(x≤256)) (fun x=>256-x) 0 ⟨au.refl _ _,t,(by(try dsimp only);omega)⟩ ?_
 rintro i g ⟨h,v,y⟩
 refine fz [(0,.pointer (some ⟨c,0,none⟩)),(1,.pointer (some ⟨a,0,none⟩)),(4,.int .i64 ((i:Nat) : Int))] ?_
 have j:g.heap[a]? = some (.cells (eG i) 218 (0,0)):=v
 have H:i≤256:=y
 refine sg<|Pl 1<|nt<|sq<|?_
 have l:=ud u h s
 have m:=aE q l
 refine cb ((decide (((i:Nat) : Int)<256))) (fun e=>?_) (fun e=>?_)
 have z:=of_decide_eq_true e
 refine bB<|sq<|bk<|sg<|Pl 2<|ng<|Pl 1<|L0<|Oe (.int .u16 (IntKind.u16.wrap ((i:Nat) : Int))) (.int .u16 ((eL 0 i:Nat) : Int)) (congrArg (Value.int .u16) (lY (x:=((i:Nat) : Int)) (by omega)))<|Pl 1<|nl<|?_
 refine tn<|sq<|sg<|Pl 1<|nt<|bk<|?_
 refine fR (fun x=>[(0,.pointer (some ⟨c,0,none⟩)),(1,.pointer (some ⟨a,0,none⟩)),(2,.int .i64 ((i:Nat) : Int)),(3,.int .u16 ((eL x i:Nat) : Int)),(4,.int .i64 ((i:Nat) : Int)),(5,.bool (decide (((i:Nat) : Int)<256))),(6,.int .i64 ((i:Nat) : Int)),(7,.int .i64 ((i:Nat) : Int)),(8,.int .u16 ((eL 0 i:Nat) : Int)),(9,.int .i64 ((x:Nat) : Int))]) (fun(x:Nat) w'=>au [] g w'∧(x≤8)) (fun x=>8-x) 0 ⟨au.refl _ _,(by(try dsimp only);omega)⟩ ?_
 rintro k I ⟨d,A⟩
 refine fz [(0,.pointer (some ⟨c,0,none⟩)),(1,.pointer (some ⟨a,0,none⟩)),(2,.int .i64 ((i:Nat) : Int)),(3,.int .u16 ((eL k i:Nat) : Int)),(4,.int .i64 ((i:Nat) : Int)),(5,.bool (decide (((i:Nat) : Int)<256))),(6,.int .i64 ((i:Nat) : Int)),(7,.int .i64 ((i:Nat) : Int)),(8,.int .u16 ((eL 0 i:Nat) : Int)),(9,.int .i64 ((k:Nat) : Int))] ?_
 have J:k≤8:=A
 have K:=j9 (x:=i) (by omega) k
 refine sg<|Pl 1<|nt<|sq<|?_
 have L:=aE m d
 refine cb ((decide (((k:Nat) : Int)<8))) (fun f=>?_) (fun f=>?_)
 have B:=of_decide_eq_true f
 refine bB<|sq<|bk<|go<|Pl 1<|L0<|Oe (.int .u16 (Int.fdiv ((eL k i:Nat) : Int) (2 ^ 1))) (.int .u16 (((eL k i:Nat) : Int)/2)) (congrArg (Value.int .u16) (ji _ _ _ (by decide)))<|Pl 1<|L0<|Oe (.int .u16 (bits .and .u16 ((eL k i:Nat) : Int) 1)) (.int .u16 (((eL k i:Nat) : Int)%2)) (congrArg (Value.int .u16) (oV (by omega)))<|Pl 1<|L0<|Oe (.int .u16 (bits .xor .u16 (((eL k i:Nat) : Int)/2) (((((eL k i:Nat) : Int)%2)*40961)%65536))) (.int .u16 ((eL (k+1) i:Nat) : Int)) (congrArg (Value.int .u16) ((oR (by omega) (by omega)).trans (rp _)))<|Pl 1<|nl<|bn<|?_
 exact tn<|go<|L0<|Oi (((k:Nat) : Int)+1)<|Pl 1<|nl<|dZ (k+1) ⟨d,(by(try dsimp only);omega)⟩ (by omega)
 have B:=of_decide_eq_false f
 refine xt<|tx<|tx<|bx<|tn<|go<|Pl 2<|L0<|v9 (b:=a) (off:=0) 256 i ((i:Nat) : Int) rfl (by omega)<|?_
 refine L0<|bO (hl:=(by rw[cG];simp;omega)) (ub d j) (0+i) ((eG i).setIfInBounds (0+i) (.int .u16 ((eL k i:Nat) : Int))) fun M C D=>?_
 have n:=C
 rw[Nat.zero_add,oW (by omega) (by omega)] at n
 refine nl<|bn<|tn<|go<|L0<|Oi (((i:Nat) : Int)+1)<|Pl 1<|nl<|?_
 exact dZ (i+1) ⟨(u1 h (uz d D) im),n,(by(try dsimp only);omega)⟩ (by omega)
 have z:=of_decide_eq_false e
 refine xt<|tx<|tx<|bx<|tn<|sg<|L0<|c9 (hz:=(by rw[cG];kernel_rfl)) j<|?_
 refine L0<|b6 (hz:=(by rw[cG];kernel_rfl)) (hv:=(by rw[cG,cG])) (h1:=(kC _)) (ub l p) ((eG i)) fun N E F=>nt<|rt<|uX 256 (cG _) E<|?_
 have hi:i=256:=by omega
 subst hi
 exact⟨rfl,(ud m F o)⟩
theorem jo{m:Bool}{A:Option Addr}{cp:Nat}{b:List Int}{w:World}{s:Int}(hsl:aM m w (.slice A b.length cp) b)(hs:0≤s∧s<65536) :
    Calls Tryz.prog 166 #[.int .u16 s,.slice A b.length cp] w (bg (.int .u16 (bZ s b)) w):=by
 have hln:=aH.len hsl
 have hb:=aM.range hsl
 refine en 26 Tryz.func166 rfl<|sg<|Pl 1<|ng<|L0<|Oc<|m1 (@j7 w) fun D g=>L0<|bz (eG 0) fun c E h j l=>L0<|b6 (hz:=(by rw[cG];kernel_rfl)) (hv:=(by rw[cG,cG])) (h1:=(kC _)) j ((eG 256)) fun n o q=>nt<|sq<|?_
 refine sg<|Pl 3<|nt<|bk<|?_
 refine fR (fun x=>[(0,.int .u16 (db s b x)),(4,.int .u16 0),(5,.pointer (some ⟨c,0,none⟩)),(9,.slice A b.length cp),(10,.int .i64 ((b.length:Nat) : Int)),(11,.int .i64 ((x:Nat) : Int))]) (fun(x:Nat) w'=>au [] n w'∧(x≤b.length)∧(0≤db s b x∧db s b x<65536)) (fun x=>b.length-x) 0 ⟨au.refl _ _,(by(try dsimp only);omega),hs⟩ ?_
 rintro k F ⟨d,r,t⟩
 refine fz [(0,.int .u16 (db s b k)),(4,.int .u16 0),(5,.pointer (some ⟨c,0,none⟩)),(9,.slice A b.length cp),(10,.int .i64 ((b.length:Nat) : Int)),(11,.int .i64 ((k:Nat) : Int))] ?_
 have G:k≤b.length:=r
 have H:0≤db s b k∧db s b k<65536:=t
 refine sg<|Pl 1<|nt<|sq<|?_
 have f:=aE g (ud l (aE q d) h)
 refine cb ((decide (((k:Nat) : Int)<((b.length:Nat) : Int)))) (fun e=>?_) (fun e=>?_)
 have u:=of_decide_eq_true e
 refine bB<|sq<|bk<|sg<|?_
 refine fE (aM.at_ (aM.old hsl f) k (by omega)) fun y z B C I=>L0<|mN b.length k B (by omega)<|L0<|jx (p:=⟨y,z+k,none⟩) (v:=.int .u8 (b.getD k 0)) C<|Pl 1<|nt<|go<|Pl 1<|L0<|Oe (.int .u16 (Int.fdiv (db s b k) (2 ^ 8))) (.int .u16 ((db s b k)/256)) (congrArg (Value.int .u16) (ji _ _ _ (by decide)))<|Pl 3<|?_
 have J:=vn (a:=((db s b k)%256)) (b:=(b.getD k 0)) (by omega) (by omega)
 refine L0<|Oe (.int .u8 (bits .xor .u8 ((db s b k)%256) (b.getD k 0))) (.int .u8 (xi ((db s b k)%256) (b.getD k 0))) (congrArg (Value.int .u8) (ta (by omega) (by omega)))<|L0<|v9 (b:=c) (off:=0) 256 (((xi ((db s b k)%256) (b.getD k 0))).toNat) (xi ((db s b k)%256) (b.getD k 0)) (by omega) (by omega)<|?_
 have K:=ky (i:=(xi ((db s b k)%256) (b.getD k 0))) (by omega)
 exact L0<|jx (p:=⟨c,0+((xi ((db s b k)%256) (b.getD k 0))).toNat,none⟩) (v:=.int .u16 (gq ((xi ((db s b k)%256) (b.getD k 0))))) (ai (ub d o) (by rw[Nat.zero_add,qS (by omega),ox (by omega)]))<|L0<|Oe (.int .u16 (bits .xor .u16 ((db s b k)/256) (gq (xi ((db s b k)%256) (b.getD k 0))))) (.int .u16 (db s b (k+1))) (congrArg (Value.int .u16) (oR (by omega) (ky (by omega))))<|Pl 1<|nl<|bn<|tn<|go<|L0<|Oi (((k:Nat) : Int)+1)<|Pl 1<|nl<|dZ (k+1) ⟨d,(by(try dsimp only);omega),(jY hs hb _)⟩ (by omega)
 have u:=of_decide_eq_false e
 refine xt<|tx<|tx<|bx<|tn<|sg<|Pl 2<|nt<|rt<|rr (.int .u16 (db s b k))<|?_
 have hk:db s b k=bZ s b:=pC (by omega)
 rw[hk]
 exact⟨rfl,f⟩
theorem kE{m:Bool}{v:Value}{b:List Int}{w:World}(h:aM m w v b) : Calls Tryz.prog 166 #[.int .u16 65535,v] w (bg (.int .u16 (bZ 65535 b)) w):=by
  obtain⟨A,cp,rfl,_,_⟩:=h.shape
  exact jo h (by decide)
theorem ll{m:Bool}{A:Option Addr}{cp:Nat}{b:List Int}{w:World}(hsl:aM m w (.slice A b.length cp) b) :
    Calls Tryz.prog 164 #[.slice A b.length cp] w (bg (.int .u16 (bZ 65535 b)) w):=by
 refine en 5 Tryz.func164 rfl<|sg<|Pl 1<|ng<|Pl 1<|L0<|Oc<|m1 (kE hsl) fun c a=>Pl 1<|nt<|rt<|?_
 refine rr (.int .u16 (bZ 65535 b))<|?_
 exact⟨rfl,a⟩
theorem iv{m:Bool}{v:Value}{b:List Int}{w:World}(h:aM m w v b) : Calls Tryz.prog 164 #[v] w (bg (.int .u16 (bZ 65535 b)) w):=by
  obtain⟨A,cp,rfl,_,_⟩:=h.shape
  exact ll h
theorem fi{w:World}{s:Int}(hs:0≤s∧s<65536) : Calls Tryz.prog 163 #[.int .u16 s] w (fun e w'=>∃ v,e = .returned v∧cN w.heap.size w' v (bK s)∧au [] w w'):=by
 refine en 9 Tryz.func163 rfl<|sg<|Pl 1<|ng<|Pl 3<|L0<|Oe (.int .u16 (Int.fdiv s (2 ^ 8))) (.int .u16 (s/256)) (congrArg (Value.int .u16) (ji _ _ _ (by decide)))<|Pl 1<|L0<|fk (m:=2) (e:=5) #[.int .u8 (s%256),.int .u8 ((s/256)%256)] fun a g b c d=>?_
 have f:=ir b (xs:=[(s%256),((s/256)%256)]) (by as_aux_lemma=>kernel_rfl) (aF (by omega) (aF (by omega) cV)) (by(try simp only[List.length_cons,List.length_nil]);omega) c
 refine Pl 1<|nt<|rt<|rr (.slice (some ⟨a,0,none⟩) 2 2)<|?_
 exact⟨_,rfl,f,d⟩
theorem gE{b:List Int}{n:Nat}(h:2≤b.length)(hn:n=b.length-2) : dx b=decide (bK (bZ 65535 (b.take n))=b.drop n):=by
  subst hn
  unfold dx
  simp[h]
theorem rc{b:List Int}(h:b.length<2) : dx b=false:=by
  unfold dx
  simp
  omega
theorem lN{m:Bool}{A:Option Addr}{cp:Nat}{b:List Int}{w:World}(hsl:aM m w (.slice A b.length cp) b)(hb:b.length≤1048576)(hcp:b.length≤cp) :
    Calls Tryz.prog 161 #[.slice A b.length cp] w (bg (.bool (dx b)) w):=by
 have hc:=aH.len hsl
 refine en 22 Tryz.func161 rfl<|sg<|Pl 1<|ng<|Pl 2<|L0<|Oi (((b.length:Nat) : Int)-2)<|Pl 1<|nt<|sq<|?_
 refine Rg 16 (fun w'=>True) fun R f=>be trivial fun d=>Rt 0 d<|Rt 1 d<|Rt 2 d<|tM 9 ((decide (0≤(((b.length:Nat) : Int)-2)))) (fun p=>?_) (fun p=>?_)
 have I:=of_decide_eq_true p
 refine Rt 3 d<|Rt 4 d<|pf (rJ (P:=Tryz.prog) 27 5 1 Tryz.underlying27 rfl rfl A b.length cp (k:=(((b.length:Nat) : Int)-2)) (((((b.length:Nat) : Int)-2)).toNat) (by omega) (by omega) (by omega)) fun q hrun60 i=>Rr 5 d (.slice q (((((b.length:Nat) : Int)-2)).toNat) cp) (fun _ _=>kM (kl:=.i64) (k:=(((b.length:Nat) : Int)-2)) (A:=A) (n:=b.length) (c:=cp) rfl Tryz.underlying27 (by kernel_rfl) (by kernel_rfl) (hrun60 _ _))<|Rt 9 d<|Rt 10 d<|pf (iC (P:=Tryz.prog) 27 5 1 Tryz.underlying27 rfl rfl A b.length cp (lo:=(((b.length:Nat) : Int)-2)) (((((b.length:Nat) : Int)-2)).toNat) (by omega) (by omega)) fun g hrun63 e=>Rr 11 d (.slice g (b.length-(((((b.length:Nat) : Int)-2)).toNat)) (cp-(((((b.length:Nat) : Int)-2)).toNat))) (fun _ _=>dF (kl:=.i64) (k:=(((b.length:Nat) : Int)-2)) (A:=A) (n:=b.length) (c:=cp) rfl Tryz.underlying27 (by kernel_rfl) (by kernel_rfl) (hrun63 _ _))<|?_
 refine R2 6 12 rfl rfl ?_ ?_
 have h:=aM.old hsl f
 refine  Oc (args:=#[.slice q (((((b.length:Nat) : Int)-2)).toNat) cp])<|m1 (iv (i _ _ _ _ _ h)) fun S j=>?_
 have T:=gQ (b.take (((((b.length:Nat) : Int)-2)).toNat)) (s:=65535) (by decide) (aM.range (i _ _ _ _ _ h))
 refine be trivial fun U=>?_
 refine R2 7 12 rfl rfl ?_ ?_
 refine  Oc<|gH (fi (s:=(bZ 65535 (b.take (((((b.length:Nat) : Int)-2)).toNat)))) (by omega)) fun x y V l W X z=>be trivial fun Y=>?_
 refine R2 8 12 rfl rfl ?_ ?_
 refine  gw (.string (strOfNums (bK (bZ 65535 (b.take (((((b.length:Nat) : Int)-2)).toNat)))))) (bR (A:=x) (n:=(bK (bZ 65535 (b.take (((((b.length:Nat) : Int)-2)).toNat)))).length) (c:=y) rfl (by kernel_rfl) Tryz.underlying27 Tryz.underlying5 Tryz.underlying9 (l).rd)<|be trivial fun Z=>?_
 have B:=aE j z
 have C:=aM.old h B
 refine R0 12 rfl<|gw (.string (strOfNums (b.drop (((((b.length:Nat) : Int)-2)).toNat)))) (bR (A:=g) (n:=(b.length-(((((b.length:Nat) : Int)-2)).toNat))) (c:=(cp-(((((b.length:Nat) : Int)-2)).toNat))) rfl (by kernel_rfl) Tryz.underlying27 Tryz.underlying5 Tryz.underlying9 (e _ _ _ _ _ C))<|be trivial fun r=>Rr 13 r (.bool (decide ((bK (bZ 65535 (b.take (((((b.length:Nat) : Int)-2)).toNat))))=(b.drop (((((b.length:Nat) : Int)-2)).toNat))))) (fun _ _=>dL (a:=(strOfNums (bK (bZ 65535 (b.take (((((b.length:Nat) : Int)-2)).toNat)))))) (b:=(strOfNums (b.drop (((((b.length:Nat) : Int)-2)).toNat)))) rfl (by kernel_rfl) (by kernel_rfl) (gc (l).rd (e _ _ _ _ _ C)))<|Rt 14 r<|Rt 15 r<|re<|tn<|rt<|rr (.bool (decide ((bK (bZ 65535 (b.take (((((b.length:Nat) : Int)-2)).toNat))))=(b.drop (((((b.length:Nat) : Int)-2)).toNat)))))<|?_
 have hs:dx b=(decide ((bK (bZ 65535 (b.take (((((b.length:Nat) : Int)-2)).toNat))))=(b.drop (((((b.length:Nat) : Int)-2)).toNat)))):=(gE (by omega) (by omega))
 rw[hs]
 exact⟨rfl,(aE f B)⟩
 have D:=aE j z
 have E:=aM.old h D
 refine  gw (.string (strOfNums (b.drop (((((b.length:Nat) : Int)-2)).toNat)))) (bR (A:=g) (n:=(b.length-(((((b.length:Nat) : Int)-2)).toNat))) (c:=(cp-(((((b.length:Nat) : Int)-2)).toNat))) rfl (by kernel_rfl) Tryz.underlying27 Tryz.underlying5 Tryz.underlying9 (e _ _ _ _ _ E))<|be trivial fun a0=>R0 8 rfl<|gw (.string (strOfNums (bK (bZ 65535 (b.take (((((b.length:Nat) : Int)-2)).toNat)))))) (bR (A:=x) (n:=(bK (bZ 65535 (b.take (((((b.length:Nat) : Int)-2)).toNat)))).length) (c:=y) rfl (by kernel_rfl) Tryz.underlying27 Tryz.underlying5 Tryz.underlying9 (l).rd)<|be trivial fun t=>Rr 13 t (.bool (decide ((bK (bZ 65535 (b.take (((((b.length:Nat) : Int)-2)).toNat))))=(b.drop (((((b.length:Nat) : Int)-2)).toNat))))) (fun _ _=>dL (a:=(strOfNums (bK (bZ 65535 (b.take (((((b.length:Nat) : Int)-2)).toNat)))))) (b:=(strOfNums (b.drop (((((b.length:Nat) : Int)-2)).toNat)))) rfl (by kernel_rfl) (by kernel_rfl) (gc (l).rd (e _ _ _ _ _ E)))<|Rt 14 t<|Rt 15 t<|re<|tn<|rt<|rr (.bool (decide ((bK (bZ 65535 (b.take (((((b.length:Nat) : Int)-2)).toNat))))=(b.drop (((((b.length:Nat) : Int)-2)).toNat)))))<|?_
 have hs:dx b=(decide ((bK (bZ 65535 (b.take (((((b.length:Nat) : Int)-2)).toNat))))=(b.drop (((((b.length:Nat) : Int)-2)).toNat)))):=(gE (by omega) (by omega))
 rw[hs]
 exact⟨rfl,(aE f D)⟩
 have F:=aM.old h j
 refine  gw (.string (strOfNums (b.drop (((((b.length:Nat) : Int)-2)).toNat)))) (bR (A:=g) (n:=(b.length-(((((b.length:Nat) : Int)-2)).toNat))) (c:=(cp-(((((b.length:Nat) : Int)-2)).toNat))) rfl (by kernel_rfl) Tryz.underlying27 Tryz.underlying5 Tryz.underlying9 (e _ _ _ _ _ F))<|be trivial fun a1=>R0 7 rfl<|Oc<|gH (fi (s:=(bZ 65535 (b.take (((((b.length:Nat) : Int)-2)).toNat)))) (by omega)) fun J K a2 G a3 a4 L=>be trivial fun a5=>R0 8 rfl<|gw (.string (strOfNums (bK (bZ 65535 (b.take (((((b.length:Nat) : Int)-2)).toNat)))))) (bR (A:=J) (n:=(bK (bZ 65535 (b.take (((((b.length:Nat) : Int)-2)).toNat)))).length) (c:=K) rfl (by kernel_rfl) Tryz.underlying27 Tryz.underlying5 Tryz.underlying9 (G).rd)<|be trivial fun u=>Rr 13 u (.bool (decide ((bK (bZ 65535 (b.take (((((b.length:Nat) : Int)-2)).toNat))))=(b.drop (((((b.length:Nat) : Int)-2)).toNat))))) (fun _ _=>dL (a:=(strOfNums (bK (bZ 65535 (b.take (((((b.length:Nat) : Int)-2)).toNat)))))) (b:=(strOfNums (b.drop (((((b.length:Nat) : Int)-2)).toNat)))) rfl (by kernel_rfl) (by kernel_rfl) (gc (G).rd (e _ _ _ _ _ F)))<|Rt 14 u<|Rt 15 u<|re<|tn<|rt<|rr (.bool (decide ((bK (bZ 65535 (b.take (((((b.length:Nat) : Int)-2)).toNat))))=(b.drop (((((b.length:Nat) : Int)-2)).toNat)))))<|?_
 have hs:dx b=(decide ((bK (bZ 65535 (b.take (((((b.length:Nat) : Int)-2)).toNat))))=(b.drop (((((b.length:Nat) : Int)-2)).toNat)))):=(gE (by omega) (by omega))
 rw[hs]
 exact⟨rfl,(aE f (aE j L))⟩
 have o:=aM.old hsl f
 refine  gw (.string (strOfNums (b.drop (((((b.length:Nat) : Int)-2)).toNat)))) (bR (A:=g) (n:=(b.length-(((((b.length:Nat) : Int)-2)).toNat))) (c:=(cp-(((((b.length:Nat) : Int)-2)).toNat))) rfl (by kernel_rfl) Tryz.underlying27 Tryz.underlying5 Tryz.underlying9 (e _ _ _ _ _ o))<|be trivial fun a6=>R0 6 rfl<|Oc (args:=#[.slice q (((((b.length:Nat) : Int)-2)).toNat) cp])<|m1 (iv (i _ _ _ _ _ o)) fun a7 M=>?_
 have a8:=gQ (b.take (((((b.length:Nat) : Int)-2)).toNat)) (s:=65535) (by decide) (aM.range (i _ _ _ _ _ o))
 refine be trivial fun a9=>R0 7 rfl<|Oc<|gH (fi (s:=(bZ 65535 (b.take (((((b.length:Nat) : Int)-2)).toNat)))) (by omega)) fun N O aa H ab ac Q=>be trivial fun ad=>R0 8 rfl<|gw (.string (strOfNums (bK (bZ 65535 (b.take (((((b.length:Nat) : Int)-2)).toNat)))))) (bR (A:=N) (n:=(bK (bZ 65535 (b.take (((((b.length:Nat) : Int)-2)).toNat)))).length) (c:=O) rfl (by kernel_rfl) Tryz.underlying27 Tryz.underlying5 Tryz.underlying9 (H).rd)<|be trivial fun v=>Rr 13 v (.bool (decide ((bK (bZ 65535 (b.take (((((b.length:Nat) : Int)-2)).toNat))))=(b.drop (((((b.length:Nat) : Int)-2)).toNat))))) (fun _ _=>dL (a:=(strOfNums (bK (bZ 65535 (b.take (((((b.length:Nat) : Int)-2)).toNat)))))) (b:=(strOfNums (b.drop (((((b.length:Nat) : Int)-2)).toNat)))) rfl (by kernel_rfl) (by kernel_rfl) (gc (H).rd (e _ _ _ _ _ o)))<|Rt 14 v<|Rt 15 v<|re<|tn<|rt<|rr (.bool (decide ((bK (bZ 65535 (b.take (((((b.length:Nat) : Int)-2)).toNat))))=(b.drop (((((b.length:Nat) : Int)-2)).toNat)))))<|?_
 have hs:dx b=(decide ((bK (bZ 65535 (b.take (((((b.length:Nat) : Int)-2)).toNat))))=(b.drop (((((b.length:Nat) : Int)-2)).toNat)))):=(gE (by omega) (by omega))
 rw[hs]
 exact⟨rfl,(aE f (aE M Q))⟩
 have I:=of_decide_eq_false p
 refine Ro 3 d<|Ro 4 d<|Ro 5 d<|Ro 6 d<|Ro 7 d<|Ro 8 d<|Ro 9 d<|Ro 10 d<|Ro 11 d<|Ro 12 d<|Ro 13 d<|Rt 14 d<|Rt 15 d<|re<|?_
 refine tn<|rt<|rr (.bool false)<|?_
 have hs:dx b=false:=(rc (by omega))
 rw[hs]
 exact⟨rfl,f⟩
theorem n8{m:Bool}{v:Value}{b:List Int}{w:World}(h:aM m w v b)(hb:b.length≤1048576) : Calls Tryz.prog 161 #[v] w (bg (.bool (dx b)) w):=by
  obtain⟨A,cp,rfl,hc,_⟩:=h.shape
  exact lN h hb hc
open Go.RowKit
def fw (b:List Int) : List Int:=(b.take (b.length-2)).drop 1
theorem gU(b:List Int) : fw b=(b.take (((b.length:Nat) : Int)-2).toNat).drop 1:=by
  unfold fw
  rw[show(((b.length:Nat) : Int)-2).toNat=b.length-2 from by omega]
def eh (dir:Int)(b:List Int) : cT × Int :=
  if dir != 0&&dir != 1 then (cT.zero,1)
  else if decide ((b.length:Int)<4) then (cT.zero,2)
  else if decide (256<(b.length:Int)) then (cT.zero,3)
  else if !(dx b) then (cT.zero,10)
  else cw (b.getD 0 0) 0 (co dir (fw b))
theorem lI{m:Bool}{A:Option Addr}{cp:Nat}{b:List Int}{w:World}{dir:Int}(hsl:aM m w (.slice A b.length cp) b)(hb:b.length≤1048576)(hcp:b.length≤cp) :
    Calls Tryz.prog 160 #[.int .i64 dir,.slice A b.length cp] w (jh (eh dir b) w):=by
 have hln:(b.length:Int)≤1048576:=by omega
 refine en 51 Tryz.func160 rfl<|sg<|L0<|bz #[.int .u8 0,.int .u16 0,.int .u8 0,.int .u8 0,.int .u16 0,.int .u16 0,.int .u16 0,.int .u16 0,.int .u16 0,.int .u16 0,.int .u16 0,.int .u16 0,.int .u16 0,.int .u16 0,.slice none 0 0,.slice none 0 0,.slice none 0 0,.slice none 0 0,.int .u8 0,.int .u8 0,.int .u8 0,.int .u8 0,.int .u8 0,.slice none 0 0] fun aX aY j e B=>Pl 1<|nt<|sq<|bk<|sg<|Pl 3<|cu 3 [11] 14 (((dir != 0)&&(dir != 1))) (fun K O=>?_) ?_
 refine bl 11 ((dir != 0)) (fun C=>?_) (fun C=>?_)
 have a7:=ay C
 exact Pl 3<|ce O (dir != 1) (by rw[C];rfl)
 have a7:=ag C
 exact Pl 3<|ce O false (by rw[C];rfl)
 refine Pl 1<|nt<|cb (((dir != 0)&&(dir != 1))) (fun d=>?_) (fun d=>?_)
 have Q:=(bM d).1
 have R:=(bM d).2
 have aZ:=ay Q
 have b0:=ay R
 refine sg<|Pl 1<|L0<|b6 e #[.int .u8 0,.int .u16 0,.int .u8 0,.int .u8 0,.int .u16 0,.int .u16 0,.int .u16 0,.int .u16 0,.int .u16 0,.int .u16 0,.int .u16 0,.int .u16 0,.int .u16 0,.int .u16 0,.slice none 0 0,.slice none 0 0,.slice none 0 0,.slice none 0 0,.int .u8 0,.int .u8 0,.int .u8 0,.int .u8 0,.int .u8 0,.slice none 0 0] fun b1 a8 a9=>Pl 1<|nt<|rt<|br<|tr<|cc a8 (.int .i64 1)<|?_
 have hs:eh dir b=(cT.zero,1):=by
   unfold eh
   (try simp only[d,Q,R,bs,if_true,if_false,decide_true,decide_false,cw,reduceIte])
   all_goals rfl
 refine cQ hs ?_
 exact bW (ud B a9 j)
 refine sg<|Pl 4<|nt<|cb ((decide (((b.length:Nat) : Int)<4))) (fun f=>?_) (fun f=>?_)
 have aa:=of_decide_eq_true f
 refine sg<|Pl 1<|L0<|b6 e #[.int .u8 0,.int .u16 0,.int .u8 0,.int .u8 0,.int .u16 0,.int .u16 0,.int .u16 0,.int .u16 0,.int .u16 0,.int .u16 0,.int .u16 0,.int .u16 0,.int .u16 0,.int .u16 0,.slice none 0 0,.slice none 0 0,.slice none 0 0,.slice none 0 0,.int .u8 0,.int .u8 0,.int .u8 0,.int .u8 0,.int .u8 0,.slice none 0 0] fun b2 ab ac=>Pl 1<|nt<|rt<|br<|tr<|cc ab (.int .i64 2)<|?_
 have hs:eh dir b=(cT.zero,2):=by
   unfold eh
   (try simp only[d,f,bs,if_true,if_false,decide_true,decide_false,cw,reduceIte])
   all_goals rfl
 refine cQ hs ?_
 exact bW (ud B ac j)
 have aa:=of_decide_eq_false f
 refine sg<|Pl 4<|nt<|cb ((decide (256<((b.length:Nat) : Int)))) (fun h=>?_) (fun h=>?_)
 have ad:=of_decide_eq_true h
 refine sg<|Pl 1<|L0<|b6 e #[.int .u8 0,.int .u16 0,.int .u8 0,.int .u8 0,.int .u16 0,.int .u16 0,.int .u16 0,.int .u16 0,.int .u16 0,.int .u16 0,.int .u16 0,.int .u16 0,.int .u16 0,.int .u16 0,.slice none 0 0,.slice none 0 0,.slice none 0 0,.slice none 0 0,.int .u8 0,.int .u8 0,.int .u8 0,.int .u8 0,.int .u8 0,.slice none 0 0] fun b3 ae af=>Pl 1<|nt<|rt<|br<|tr<|cc ae (.int .i64 3)<|?_
 have hs:eh dir b=(cT.zero,3):=by
   unfold eh
   (try simp only[d,f,h,bs,if_true,if_false,decide_true,decide_false,cw,reduceIte])
   all_goals rfl
 refine cQ hs ?_
 exact bW (ud B af j)
 have ad:=of_decide_eq_false h
 refine sg<|Pl 1<|?_
 have S:=aM.old hsl B
 refine L0<|Oc (args:=#[.slice A b.length cp])<|m1 (n8 S (by omega)) fun ai i=>Pl 2<|nt<|?_
 have T:=aE B i
 refine cb ((!(dx b))) (fun k=>?_) (fun k=>?_)
 have G:(dx b)=false:=by simpa using k
 refine sg<|Pl 1<|?_
 refine L0<|b6 (ub i e) #[.int .u8 0,.int .u16 0,.int .u8 0,.int .u8 0,.int .u16 0,.int .u16 0,.int .u16 0,.int .u16 0,.int .u16 0,.int .u16 0,.int .u16 0,.int .u16 0,.int .u16 0,.int .u16 0,.slice none 0 0,.slice none 0 0,.slice none 0 0,.slice none 0 0,.int .u8 0,.int .u8 0,.int .u8 0,.int .u8 0,.int .u8 0,.slice none 0 0] fun b4 ak al=>Pl 1<|nt<|rt<|br<|tr<|cc ak (.int .i64 10)<|?_
 have hs:eh dir b=(cT.zero,10):=by
   unfold eh
   (try simp only[d,f,h,k,G,bs,if_true,if_false,decide_true,decide_false,cw,reduceIte])
   all_goals rfl
 refine cQ hs ?_
 exact bW (ud T al j)
 have G:(dx b)=true:=by simpa using k
 refine sk<|bn<|tn<|sg<|Pl 4<|L0<|Oi (((b.length:Nat) : Int)-2)<|pf (mg (P:=Tryz.prog) 27 5 1 Tryz.underlying27 rfl rfl A b.length cp (lo:=1) (up:=(((b.length:Nat) : Int)-2)) 1 (((((b.length:Nat) : Int)-2)).toNat) (by omega) (by omega) (by omega) (by omega) (by omega)) fun am hrun43 an=>L0<|gw (.slice am ((((((b.length:Nat) : Int)-2)).toNat)-1) (cp-1)) (iz (kl:=.i64) (kh:=.i64) (lo:=1) (hi:=(((b.length:Nat) : Int)-2)) (A:=A) (n:=b.length) (c:=cp) rfl Tryz.underlying27 (by kernel_rfl) (by kernel_rfl) (by kernel_rfl) (hrun43 _ _ _))<|?_
 obtain⟨a,D,L⟩ : ∃ M E,co dir ((b.take (((((b.length:Nat) : Int)-2)).toNat)).drop 1)=(M,E):=⟨_,_,rfl⟩
 have U:=aM.old S i
 have V:=fT (dir:=dir) (w:=ai) (an _ _ _ _ _ U) (by rw[List.length_drop,List.length_take];omega)
 rw[L] at V
 refine L0<|Oc<|e2 V fun ao b5 W N=>?_
 have ap:=W
 obtain⟨aq,ar,au,av,aw,ax,aA,aC,aF,aG,aH,b7⟩:=ap
 obtain rfl:ao=(dH a aq ar au av aw).toArray:=by apply Array.toList_inj.1;simpa using ax
 obtain⟨l,o,rfl,_,_⟩:=aA.shape
 obtain⟨p,q,rfl,_,_⟩:=aC.shape
 obtain⟨r,s,rfl,_,_⟩:=aF.shape
 obtain⟨t,u,rfl,_,_⟩:=aG.shape
 obtain⟨v,y,rfl,_,_⟩:=aH.shape
 refine Pl 3<|L0<|bz mZ fun X b9 Y aI aJ=>L0<|b6 aI (mG a.code a.fail a.addr a.count a.value a.and_ a.or_ a.addr2 a.sub a.status a.events a.messages (.slice l a.words.length o) (.slice p a.bits.length q) (.slice r a.data.length s) (.slice t a.recs.length u) a.mei a.kind a.level a.more a.next (.slice v a.objects.length y)) fun ba aK aL=>Pl 1<|nt<|sq<|sg<|Pl 2<|nt<|?_
 have Z:=ud aJ aL Y
 have H:=aE N Z
 have a0:=aE T H
 refine cb ((D != 0)) (fun F=>?_) (fun F=>?_)
 have aN:=ay F
 refine sg<|Pl 2<|?_
 refine L0<|b6 (ub (aE i H) e) #[.int .u8 0,.int .u16 0,.int .u8 0,.int .u8 0,.int .u16 0,.int .u16 0,.int .u16 0,.int .u16 0,.int .u16 0,.int .u16 0,.int .u16 0,.int .u16 0,.int .u16 0,.int .u16 0,.slice none 0 0,.slice none 0 0,.slice none 0 0,.slice none 0 0,.int .u8 0,.int .u8 0,.int .u8 0,.int .u8 0,.int .u8 0,.slice none 0 0] fun bb aP aQ=>Pl 1<|nt<|rt<|tr<|cc aP (.int .i64 D)<|?_
 have hX2:co dir (fw b)=(a,D):=(congrArg (co dir) (gU b)).trans L
 have hs:eh dir b=(cT.zero,D):=by
   unfold eh
   (try simp only[d,f,h,k,G,F,bs,if_true,if_false,decide_true,decide_false,cw,hX2,reduceIte])
   all_goals rfl
 refine cQ hs ?_
 exact bW (ud a0 aQ j)
 have aN:=ag F
 refine bB<|sq<|?_
 refine fE (aM.at_ (aM.old U H) 0 (by omega)) fun aR aS a1 aT bc=>Rg 8 (fun w'=>w'.cell? ⟨aR,aS+0,none⟩=some (.int .u8 (b.getD 0 0))∧w'.heap[X]? = some (.cells (mG a.code a.fail a.addr a.count a.value a.and_ a.or_ a.addr2 a.sub a.status a.events a.messages (.slice l a.words.length o) (.slice p a.bits.length q) (.slice r a.data.length s) (.slice t a.recs.length u) a.mei a.kind a.level a.more a.next (.slice v a.objects.length y)) 31 (0,0))) fun bd I=>?_
 have a2:=ub I aK
 refine be ⟨(uc I aT),a2⟩ fun z=>Rt 0 z<|lU 1 z b.length 0 0 rfl a1 (by omega)<|Rl 2 z (fun _ hs=>hs.1)<|Rt 3 z<|Rr 4 z (.agg (mG a.code a.fail a.addr a.count a.value a.and_ a.or_ a.addr2 a.sub a.status a.events a.messages (.slice l a.words.length o) (.slice p a.bits.length q) (.slice r a.data.length s) (.slice t a.recs.length u) a.mei a.kind a.level a.more a.next (.slice v a.objects.length y))) (fun w' hs=>mp (g:=X) (off:=0) [.int .u8 a.code,.int .u8 a.fail,.int .u16 a.addr,.int .u16 a.count,.int .u16 a.value,.int .u16 a.and_,.int .u16 a.or_,.int .u16 a.addr2,.int .u16 a.sub,.int .u16 a.status,.int .u16 a.events,.int .u16 a.messages,.slice l a.words.length o,.slice p a.bits.length q,.slice r a.data.length s,.slice t a.recs.length u,.int .u8 a.mei,.int .u8 a.kind,.int .u8 a.level,.int .u8 a.more,.int .u8 a.next,.slice v a.objects.length y] rfl (by kernel_rfl) hs.2 (by kernel_rfl) (by kernel_rfl) rfl)<|Rt 5 z<|?_
 have a3:=aE H I
 have a4:=aE i a3
 refine R0 6 rfl<|b6 (ub a4 e) #[.int .u8 (b.getD 0 0),.int .u16 0,.int .u8 a.code,.int .u8 a.fail,.int .u16 a.addr,.int .u16 a.count,.int .u16 a.value,.int .u16 a.and_,.int .u16 a.or_,.int .u16 a.addr2,.int .u16 a.sub,.int .u16 a.status,.int .u16 a.events,.int .u16 a.messages,.slice l a.words.length o,.slice p a.bits.length q,.slice r a.data.length s,.slice t a.recs.length u,.int .u8 a.mei,.int .u8 a.kind,.int .u8 a.level,.int .u8 a.more,.int .u8 a.next,.slice v a.objects.length y] fun bf aV J=>?_
 have a5:=uz I J
 have bg:=uz a3 J
 have bh:=uz a4 J
 have a6:=ud a0 a5 j
 refine be ⟨(cB (aM.old hsl a6) a1 0 (by omega)),(aO J (Ne.symm (nb (aj e) (le i.size N.size) Y)) a2)⟩ fun aW=>Rt 7 aW<|re<|tn<|rt<|cc aV (.int .i64 0)<|?_
 have hX2:co dir (fw b)=(a,D):=(congrArg (co dir) (gU b)).trans L
 have hs:eh dir b=(⟨(b.getD 0 0),0,a⟩,0):=by
   unfold eh
   (try simp only[d,f,h,k,G,F,bs,if_true,if_false,decide_true,decide_false,cw,hX2,reduceIte])
   all_goals rfl
 refine cQ hs ?_
 exact⟨_,rfl,⟨#[.int .u8 a.code,.int .u8 a.fail,.int .u16 a.addr,.int .u16 a.count,.int .u16 a.value,.int .u16 a.and_,.int .u16 a.or_,.int .u16 a.addr2,.int .u16 a.sub,.int .u16 a.status,.int .u16 a.events,.int .u16 a.messages,.slice l a.words.length o,.slice p a.bits.length q,.slice r a.data.length s,.slice t a.recs.length u,.int .u8 a.mei,.int .u8 a.kind,.int .u8 a.level,.int .u8 a.more,.int .u8 a.next,.slice v a.objects.length y],(by as_aux_lemma=>kernel_rfl),(aU.upd W (uz Z a5) (ah (aD (ub (aE i N) e) (by decide)) az)),b8 (x:=(b.getD 0 0)) (by omega),aB (x:=0) (by omega)⟩,a6⟩
theorem mW{m:Bool}{v:Value}{b:List Int}{w:World}{dir:Int}(h:aM m w v b)(hb:b.length≤1048576) : Calls Tryz.prog 160 #[.int .i64 dir,v] w (jh (eh dir b) w):=by
  obtain⟨A,cp,rfl,hc,_⟩:=h.shape
  exact lI h hb hc
open Go.RowKit
theorem oy(a b c d:Int)(w:World) : (Op.equalIn 10000 24 (.agg #[.int .u8 a,.int .u16 b]) (.agg #[.int .u8 c,.int .u16 d])).run Tryz.prog w = .ok ((a==c)&&(b==d)) w:=by
  have hS:Tryz.prog.underlying 24=some (.struct (Tryz.prog.fieldsOf 24)):=by kernel_rfl
  have hp:Tryz.prog.stoodInHeld 24=false:=by kernel_rfl
  rw[show(10000:Nat)=9998+1+1 from rfl,run_equalIn_agg w (9998+1) 24 _ _ hS hp]
  simp only[Program.fieldsOf,Tryz.underlying24]
  have p0:∀ v:Int,(part 5 #[.int .u8 v,.int .u16 b] 0).run Tryz.prog w = .ok (.int .u8 v) w:=fun v=>by simp[part,isAgg,run_underlying Tryz.underlying5,Result.andThen]
  have p0':∀ v:Int,(part 5 #[.int .u8 v,.int .u16 d] 0).run Tryz.prog w = .ok (.int .u8 v) w:=fun v=>by simp[part,isAgg,run_underlying Tryz.underlying5,Result.andThen]
  have p1:∀ v u:Int,(part 22 #[.int .u8 u,.int .u16 v] 1).run Tryz.prog w = .ok (.int .u16 v) w:=fun v u=>by simp[part,isAgg,run_underlying Tryz.underlying22,Result.andThen]
  have e0:=run_equalIn_int (P:=Tryz.prog) w 9998 5 .u8 _ a c Tryz.underlying5
  have e1:=run_equalIn_int (P:=Tryz.prog) w 9998 22 .u16 _ b d Tryz.underlying22
  simp only[Op.eqFields,Sem.run_bind,p0,p0',p1,e0,e1,Result.andThen_ok,ne_eq,String.reduceEq,not_false_eq_true,if_true,Sem.run_ite]
  cases (a==c)<;>cases (b==d)<;>simp
theorem kT{ev:Operand→Value}{o:Oper}{x y:Operand}{t:TypeId}(a b c d:Int){v:Bool}{w:World}(ho:o.op = .binOp .eql 24 x y t)
    (hx:ev x = .agg #[.int .u8 a,.int .u16 b]) (hy:ev y = .agg #[.int .u8 c,.int .u16 d]) (hv:((a==c)&&(b==d))=v) : (execOp ev o).run Tryz.prog w = .ok (.value (.bool v)) w:=by
  subst hv
  have hg:(eqGuard .eql 24 x y (.agg #[.int .u8 a,.int .u16 b]) (.agg #[.int .u8 c,.int .u16 d])).run Tryz.prog w = .ok () w:=run_eqGuard_agg w _ _ _ _ _ _ (by kernel_rfl)
  unfold execOp
  simp only[ho,hx,hy,Sem.run_bind,hg,Result.andThen_ok,run_eql_struct,oy,Sem.run_pure]
open Go.RowKit
open Go.RowKit
theorem kO{m:Bool}{v:Value}{b:List Int}{w:World}{dir:Int}{F:cT}{E:Int}(hX:eh dir b=(F,E))(h:aM m w v b)(hb:b.length≤1048576) : Calls Tryz.prog 160 #[.int .i64 dir,v] w (fun e w'=>∃ x,e = .returned (.tuple #[.agg (o5 F.unit F.tid F.msg x),.int .i64 E])∧(aU true w' (ol F.msg x).toList F.msg∧(0≤F.unit∧F.unit<256)∧(0≤F.tid∧F.tid<65536))∧au [] w w'):=by
  refine(mW h hb).mono ?_
  rintro e w' ⟨cs,rfl,h1,h2⟩
  rw[hX] at h1 ⊢
  obtain⟨c,rfl,h3,h4,h5⟩:=h1
  obtain⟨x,rfl⟩:=m6 h3
  exact⟨x,by rw[i5],⟨h3,h4,h5⟩,h2⟩
open Go.RowKit
structure SS where
  dir:Int
  held:List Int
  off:Bool
def d9 (w:World)(g:Nat)(S:SS) : Prop:=∃ A cp,w.heap[g]? = some (.cells #[.int .i64 S.dir,.slice A S.held.length cp,.bool S.off] 127 (0,0))∧aM true w (.slice A S.held.length cp) S.held∧S.held.length≤256∧S.held.length≤cp
def SS.feed (S:SS)(b:List Int) : SS × List Ev :=
  if S.off then (S,[]) else if decide (b.length≤256-S.held.length) then (⟨S.dir,S.held++b,false⟩,[]) else (⟨S.dir,[],true⟩,[Ev.bad 3])
def SS.tick (S:SS) : SS × List Ev:=(⟨S.dir,[],false⟩,if S.held.length=0 then [] else [⟨(eh S.dir S.held).2,(eh S.dir S.held).1⟩])
theorem d9.lt{w:World}{g:Nat}{S:SS}(h:d9 w g S) : g<w.heap.size:=by
  obtain⟨A,cp,h1,_⟩:=h
  exact aj h1
theorem d9.upd{w w':World}{g:Nat}{S:SS}{X:List Nat}(h:d9 w g S)(hu:au X w w')(hg:g∉X)(hs:bN true [5] X w) : d9 w' g S:=by
  obtain⟨A,cp,h1,h2,h3⟩:=h
  exact⟨A,cp,hu.blk hg h1,h2.upd' hu hs,h3⟩
theorem d9.old{w w':World}{g:Nat}{S:SS}(h:d9 w g S)(hu:au [] w w') : d9 w' g S:=h.upd hu (by simp) (bN.nil _ _ _)
theorem d9.cells{w:World}{g:Nat}{S:SS}(h:d9 w g S) : ∃ cs fr,w.heap[g]? = some (.cells cs 127 fr):=by
  obtain⟨A,cp,h1,_⟩:=h
  exact⟨_,_,h1⟩
theorem d9.le{w:World}{g:Nat}{S:SS}(h:d9 w g S) : S.held.length≤256:=by
  obtain⟨A,cp,_,_,h1,_⟩:=h
  exact h1
theorem d9.safe{w:World}{g:Nat}{S:SS}(h:d9 w g S)(D:List TypeId)(hD:D.contains 127=false) : bN true D [g] w:=by
  obtain⟨A,cp,h1,_⟩:=h
  exact aD h1 hD
theorem SS.feed_le{S S2:SS}{b:List Int}{L:List Ev}(h:S.feed b=(S2,L)) : L.length≤1:=by
  have k:=congrArg Prod.snd h
  rw[show L=(S.feed b).2 from k.symm]
  unfold SS.feed
  split
  · exact Nat.zero_le _
  split
  · exact Nat.zero_le _
  · exact Nat.le_refl _
theorem SS.tick_le{S S2:SS}{L:List Ev}(h:S.tick=(S2,L)) : L.length≤1:=by
  have k:=congrArg Prod.snd h
  rw[show L=S.tick.2 from k.symm]
  unfold SS.tick
  dsimp only
  split
  · exact Nat.zero_le _
  · exact Nat.le_refl _
open Go.RowKit
theorem iF{P:Program}{sz:Nat}{A:Option Addr}{c:Nat}(w:World) : (Builtin.firstCells sz 0 (.slice A 0 c)).run P w = .ok #[] w:=by
  cases A with
  | none=>simp[Builtin.firstCells]
  | some a =>
    have:=run_loadCells_list (P:=P) w a [] (fun j v hj=>by simp at hj)
    simpa [Builtin.firstCells] using this
theorem np{α:Type}{base sz:Nat}{e t:TypeId}{R:World→α→List Value→Prop}{w:World}{A:Option Addr}{n c g:Nat}{xs:List α}(hb:∃ cs fr,w.heap[g]? = some (.cells cs t fr))(h:aN base e sz R w (.slice A n c) xs)(ht:(t==e)=false) : g∉ob A:=by
  obtain⟨cs,fr,hb⟩:=hb
  exact bJ hb h ht
section
variable {P:Program}{n:Nat}{D:List Deferred}{F:Fr}{w:World}{K:Fr→World→Prop}{Q:Exit→Act→World→Prop}{d:Option Tmp}{t:TypeId}{s:String}{af:Array Edge}{gu:Option (Nat × Bool)}
theorem t9{α:Type}{R:World→α→List Value→Prop}{x y:Operand}{e:TypeId}{base m c:Nat}{A:Option Addr}{xs ys:List α}{mm:Bool}{e' ty:TypeId}{u:Value}(z:Value)(sz bytes:Nat)(HO:aN base e sz R w (.slice A m c) xs)(HY:aH mm e' sz R w u ys)
    (hone:∀ x cs,R w x cs→∀ v,v∈cs→v.oneCell'=true) (hRU:∀ w',au (ob A++[]) w w'→∀ x cs,R w x cs→R w' x cs)
    (hl:xs.length+ys.length≤4611686018427387904) (hmul:(xs.length+ys.length)*bytes≤140737488355328) (hbase:base≤w.heap.size) (h:∀ A' c' w',aN base e sz R w' (.slice A' (xs++ys).length c') (xs++ys)→au (ob A++[]) w w'→(∀ g,g∈ob A'→g∈ob A∨w.heap.size≤g)→K (pt d (.slice A' (xs++ys).length c') F) w')
    (hx:cX F x=some (.slice A m c):=by kernel_rfl) (hy':cX F y=some u:=by kernel_rfl) (he:kF P ty=some e:=by kernel_rfl) (hs:(kq P ty,z.cells.size,(dw n d&&Nat.ble bytes 65536)&&Nat.blt 0 sz)=(some (some z,sz,bytes),sz,true):=by kernel_rfl) : OG P ⟨d,.call { callee:=.builtin .append,args:=#[x,y],argTypes:=#[ty,ty] },t,s,af,gu⟩ n D F w K Q:=by
  by_cases hne:ys=[]
  · subst hne
    simp only[Prod.mk.injEq] at hs
    have h3:=dm (dm hs.2.2).1
    obtain⟨A0,c0,e0,hc1,_⟩:=HO.rd.shape
    have e0:=e0.symm
    injection e0 with e1 e2 e3
    subst e2
    subst e1 e3
    obtain⟨B,cB,rfl,_,_⟩:=HY.shape
    have hinf:(P.info? e).map (fun i=>(i.zero,i.size,i.bytes))=some (some z,sz,bytes):=by have:=hs.1;unfold kq at this;rw[he] at this;exact this
    obtain⟨i0,hi,hz0,hz1,hz2⟩:=info_parts hinf
    have hsr:Src P i0.size ty (.slice B 0 cB) 0 [] w:=⟨.inl ⟨e,d8 he⟩,fun w'=>by simp[Builtin.lenOf],iF w,iF w.drew,by simp,fun u hu=>by cases hu⟩
    have hr:=run_append_nothing w ty ty t _ i0 (d8 he) hi A0 xs.length c0 hc1 _ hsr
    refine⟨fun a ha K' hK=>OW.mk ?_⟩
    have hx':=ha.ev hx
    have hy2:=ha.ev hy'
    simp only[List.length_nil] at hy2
    unfold Oper.wp execOp
    simp only[resolve,invoke,builtin,Sem.run_bind,Sem.run_pure,Result.andThen_ok,List.map_toArray,List.map_cons,List.map_nil,hx',hy2,hr]
    refine hK _ _ _ (h A0 c0 w (by rw[List.append_nil];exact HO) (au.mono (S':=ob A0++[]) (au.refl [] w) (fun x hx=>by cases hx)) (fun g hg=>.inl hg)) ?_
    rw[List.append_nil]
    exact ha.put h3.1
  · have hy:0<ys.length:=by
      cases ys with
      | nil=>exact absurd rfl hne
      | cons a r=>simp
    simp only[Prod.mk.injEq] at hs
    have h2:=dm hs.2.2
    have h3:=dm h2.1
    exact⟨fun a ha K' hK=>jG z sz bytes rfl rfl (d8 he) (by have:=hs.1;unfold kq at this;rw[he] at this;exact this) hs.2.1 (by simpa using h2.2) xs (ha.ev hx) HO u ys (ha.ev hy') HY hy hone hRU hl hmul hbase fun A' c' w' hO hu hat=>hK _ _ _ (h A' c' w' hO hu hat) (ha.put h3.1)⟩
theorem ge{α:Type}{R:World→α→List Value→Prop}{x y:Operand}{e:TypeId}{base m c:Nat}{A:Option Addr}{xs ys:List α}{mm:Bool}{e' ty:TypeId}{u:Value}(z:Value)(sz bytes:Nat)(HO:aN base e sz R w (.slice A m c) xs)(HY:aH mm e' sz R w u ys)
    (hone:∀ x cs,R w x cs→∀ v,v∈cs→v.oneCell'=true) (hRU:∀ w',au (ob A++[]) w w'→∀ x cs,R w x cs→R w' x cs)
    (hl:xs.length+ys.length≤4194304) (hbase:base≤w.heap.size) (h:∀ A' c' w',aN base e sz R w' (.slice A' (xs++ys).length c') (xs++ys)→au (ob A++[]) w w'→(∀ g,g∈ob A'→g∈ob A∨w.heap.size≤g)→K (pt d (.slice A' (xs++ys).length c') F) w')
    (hx:cX F x=some (.slice A m c):=by kernel_rfl) (hy':cX F y=some u:=by kernel_rfl) (he:kF P ty=some e:=by kernel_rfl) (hs:(kq P ty,z.cells.size,(dw n d&&Nat.ble bytes 65536)&&Nat.blt 0 sz)=(some (some z,sz,bytes),sz,true):=by kernel_rfl) : OG P ⟨d,.call { callee:=.builtin .append,args:=#[x,y],argTypes:=#[ty,ty] },t,s,af,gu⟩ n D F w K Q:=by
  have hb:bytes≤65536:=by
    simp only[Prod.mk.injEq] at hs
    simpa using (dm (dm hs.2.2).1).2
  exact t9 z sz bytes HO HY hone hRU (by omega) (Nat.le_trans (Nat.mul_le_mul hl hb) (by decide)) hbase h hx hy' he hs
end
open Go.RowKit
theorem bY{α β:Type}{base sz base2 sz2:Nat}{e e2:TypeId}{R:World→α→List Value→Prop}{R2:World→β→List Value→Prop}{w:World}{A A2:Option Addr}{n c n2 c2:Nat}{xs:List α}{ys:List β}(h:aN base e sz R w (.slice A n c) xs)(h2:aN base2 e2 sz2 R2 w (.slice A2 n2 c2) ys)(ht:(e==e2)=false) : ∀ x,x∈ob A→x∉ob A2:=fun x hx hx2=>by
  rcases cC h with rfl|⟨g,cells,rfl,_,h1⟩
  · simp[ob] at hx
  rcases cC h2 with rfl|⟨g2,cells2,rfl,_,h3⟩
  · simp[ob] at hx2
  simp[ob] at hx hx2
  subst hx
  subst hx2
  rw[h1] at h3
  injection h3 with h3
  injection h3 with _ h3 _
  subst h3
  simp at ht
theorem gD{A A0:Option Addr}{w w0:World}{S:List Nat}(hat:∀ x,x∈ob A→x∈ob A0∨w.heap.size≤x)(h:∀ x,x∈ob A0→x∈S∨w0.heap.size≤x)(hs:w0.heap.size≤w.heap.size) : ∀ x,x∈ob A→x∈S∨w0.heap.size≤x:=fun x hx=>by
  rcases hat x hx with k|k
  · exact h x k
  · exact .inr (Nat.le_trans hs k)
theorem fX{A A1 A0:Option Addr}{w w0:World}(hat:∀ x,x∈ob A→x∈ob A1∨w.heap.size≤x)(h:∀ x,x∈ob A1→x∈ob A0∨w0.heap.size≤x)(hs:w0.heap.size≤w.heap.size) : ∀ x,x∈ob A→x∈ob A0∨w0.heap.size≤x:=gD hat h hs
theorem d7{A0:Option Addr}{w:World}:∀ x,x∈ob none→x∈ob A0∨w.heap.size≤x:=fun x hx=>by simp[ob] at hx
theorem fx{A0:Option Addr}{w:World}:∀ x,x∈ob A0→x∈ob A0∨w.heap.size≤x:=fun x hx=>.inl hx
theorem mH{w:World}:∀ x cs,kQ w x cs→∀ v,v∈cs→v.oneCell'=true:=fun x cs h v hv=>by
  rw[h.1] at hv
  simp at hv
  subst hv
  rfl
section
variable {n:Nat}{B:Option Addr}
def iV (n:Nat)(B:Option Addr)(X:List Nat) : Prop:=0<n→∀ x,x∈ob B→x∉X
theorem dh:iV n B []:=fun _ x _=>by simp
theorem cP{g:Nat}{X:List Nat}(h:0<n→∀ x,x∈ob B→x≠g)(k:iV n B X) : iV n B (g :: X):=fun hn x hx=>by
  rw[List.mem_cons]
  rintro(e|e)
  · exact h hn x hx e
  · exact k hn x hx e
theorem cj{A:Option Addr}{X:List Nat}(h:iV n B (ob A))(k:iV n B X) : iV n B (ob A++X):=fun hn x hx=>by
  rw[List.mem_append]
  rintro(e|e)
  · exact h hn x hx e
  · exact k hn x hx e
theorem dP{A A0:Option Addr}{w:World}(h:iV n B (ob A0))(hl:0<n→∀ x,x∈ob B→x<w.heap.size)(hat:∀ x,x∈ob A→x∈ob A0∨w.heap.size≤x) : iV n B (ob A):=fun hn x hx hx2=>by
  rcases hat x hx2 with k|k
  · exact h hn x hx k
  · have:=hl hn x hx;omega
theorem dT{α:Type}{base sz:Nat}{e:TypeId}{R:World→α→List Value→Prop}{w w':World}{A:Option Addr}{m c:Nat}{xs:List α}(hl:0<n→∀ x,x∈ob B→x<w.heap.size)(h:aN base e sz R w' (.slice A m c) xs)(hs:w.heap.size≤base) : iV n B (ob A):=fun hn x hx hx2=>by
  have:=hl hn x hx
  have:=cS h x hx2
  omega
theorem aH.low{α:Type}{m:Bool}{e:TypeId}{sz c:Nat}{R:World→α→List Value→Prop}{w:World}{xs:List α}(h:aH m e sz R w (.slice B n c) xs) : 0<n→∀ x,x∈ob B→x<w.heap.size:=fun hn x hx=>by
  obtain⟨A',c',hv,_,_,_,h3⟩:=h
  injection hv with e1 e2 e3
  subst e1 e2 e3
  obtain⟨b,off,cells,t,fr,rfl,hh,_⟩:=h3 hn
  simp[ob] at hx
  subst hx
  exact aj hh
theorem aM.far{m:Bool}{c:Nat}{w w':World}{xs:List Int}{X:List Nat}(h:aM m w (.slice B n c) xs)(hu:au X w w')(hd:iV n B X) : aM m w' (.slice B n c) xs:=by
  obtain⟨A',c',hv,h1,h2,h0,h3⟩:=h
  injection hv with e1 e2 e3
  subst e1 e2 e3
  refine⟨_,_,rfl,h1,h2,h0,fun hp=>?_⟩
  obtain⟨b,off,cells,t,fr,rfl,hh,h4,h5⟩:=h3 hp
  exact⟨b,off,cells,t,fr,rfl,hu.blk (hd hp b (by simp[ob])) hh,h4,h5⟩
end
open Go.RowKit
def oc (n:Nat)(X:List Nat)(w:World) : Prop:=∀ y,y∈X→n≤y∨∃ cells t fr,w.heap[y]? = some (.cells cells t fr)∧t∉ez
def aZ (n:Nat)(w:World)(x:Ev)(cs:List Value) : Prop:=n≤w.heap.size∧∀ (w':World)(X:List Nat),au X w w'→oc n X w→j4 true w' x cs
theorem aZ.mk{w:World}{x:Ev}{cs:List Value}(h:j4 true w x cs) : aZ w.heap.size w x cs:=⟨Nat.le_refl _,fun w' X hu ha=>j4.upd hu (fun y hy=>by
  rcases ha y hy with k|k
  · exact .inl k
  · exact .inr ⟨rfl,k⟩) x cs h⟩
theorem aZ.ev{n:Nat}{w:World}{x:Ev}{cs:List Value}(h:aZ n w x cs) : j4 true w x cs:=h.2 w [] (au.refl _ _) (fun y hy=>by cases hy)
theorem aZ.mono{n n':Nat}{w:World}{x:Ev}{cs:List Value}(hn:n≤n')(hs:n'≤w.heap.size)(h:aZ n w x cs) : aZ n' w x cs:=⟨hs,fun w' X hu ha=>h.2 w' X hu fun y hy=>by
  rcases ha y hy with k|k
  · exact .inl (Nat.le_trans hn k)
  · exact .inr k⟩
theorem aZ.upd{n:Nat}{w w':World}{X:List Nat}{x:Ev}{cs:List Value}(hu:au X w w')(ha:oc n X w)(h:aZ n w x cs) : aZ n w' x cs:=by
  refine⟨Nat.le_trans h.1 hu.size,fun w2 X2 hu2 ha2=>h.2 w2 (X++X2) ?_ ?_⟩
  · exact au.trans' (au.mono hu (fun y hy=>.inl (List.mem_append_left _ hy))) hu2 (fun y hy=>.inl (List.mem_append_right _ hy))
  · intro y hy
    rcases List.mem_append.1 hy with hy|hy
    · exact ha y hy
    · rcases ha2 y hy with k | ⟨cells,t,fr,k1,k2⟩
      · exact .inl k
      · by_cases hl:y<w.heap.size
        · by_cases hX:y∈X
          · exact ha y hX
          · exact .inr ⟨cells,t,fr,by rw[← hu.block y hl hX];exact k1,k2⟩
        · exact .inl (Nat.le_trans h.1 (by omega))
theorem aZ.ones{n:Nat}{w:World}:∀ (x:Ev)(cs:List Value),aZ n w x cs→∀ v,v∈cs→v.oneCell'=true:=fun x cs h=>j4.ones x cs h.ev
abbrev cv (n base:Nat) (w:World) (v:Value) (xs:List Ev) : Prop:=aN base 66 25 (aZ n) w v xs
theorem aN.map{α:Type}{base sz:Nat}{e:TypeId}{R R':World→α→List Value→Prop}{w:World}{v:Value}{xs:List α}(h:aN base e sz R w v xs)(k:∀ x cs,R w x cs→R' w x cs) : aN base e sz R' w v xs:=by
  obtain⟨cells,ho,hx⟩:=h
  refine⟨cells,ho,fun j x hj=>?_⟩
  obtain⟨cs,h1,h2,h3⟩:=hx j x hj
  exact⟨cs,h1,k _ _ h2,h3⟩
theorem f6.low{base:Nat}{w:World}{v:Value}{xs:List Ev}(h:f6 base w v xs) : cv w.heap.size base w v xs:=aN.map h fun _ _=>aZ.mk
theorem cv.own{n base:Nat}{w:World}{v:Value}{xs:List Ev}(h:cv n base w v xs) : f6 base w v xs:=aN.map h fun _ _ q=>q.ev
theorem cv.up{n n' base:Nat}{w:World}{v:Value}{xs:List Ev}(hn:n≤n')(hs:n'≤w.heap.size)(h:cv n base w v xs) : cv n' base w v xs:=aN.map h fun _ _ q=>q.mono hn hs
theorem bv{n:Nat}{w:World}:oc n [] w:=fun y hy=>by cases hy
theorem dr{n g:Nat}{w:World}{cs:Array Value}{t:TypeId}{fr:Nat × Nat}{X:List Nat}(hb:w.heap[g]? = some (.cells cs t fr))(ht:ez.contains t=false)(k:oc n X w) : oc n (g :: X) w:=fun y hy=>by
  rcases List.mem_cons.1 hy with rfl|hy
  · exact .inr ⟨cs,t,fr,hb,by simpa using ht⟩
  · exact k y hy
theorem eO{n:Nat}{w:World}{A:Option Addr}{X:List Nat}(h:∀ x,x∈ob A→n≤x)(k:oc n X w) : oc n (ob A++X) w:=fun y hy=>by
  rcases List.mem_append.1 hy with hy|hy
  · exact .inl (h y hy)
  · exact k y hy
theorem fN{α:Type}{n base sz m c:Nat}{e:TypeId}{R:World→α→List Value→Prop}{w:World}{A:Option Addr}{xs:List α}{X:List Nat}(h:aN base e sz R w (.slice A m c) xs)(ht:ez.contains e=false)(k:oc n X w) : oc n (ob A++X) w:=fun y hy=>by
  rcases List.mem_append.1 hy with hy|hy
  · rcases cC h with rfl | ⟨g,cells,rfl,_,h1⟩
    · simp[ob] at hy
    · simp[ob] at hy
      subst hy
      exact .inr ⟨_,_,_,h1,by simpa using ht⟩
  · exact k y hy
theorem bU{n:Nat}:∀ x,x∈ob none→n≤x:=fun x hx=>by simp[ob] at hx
theorem mE{n:Nat}{A A0:Option Addr}{w:World}(hat:∀ x,x∈ob A→x∈ob A0∨w.heap.size≤x)(h:∀ x,x∈ob A0→n≤x)(hs:n≤w.heap.size) : ∀ x,x∈ob A→n≤x:=fun x hx=>by
  rcases hat x hx with k|k
  · exact h x k
  · exact Nat.le_trans hs k
section
variable {n base g cp:Nat}{w w':World}{A:Option Addr}{X:List Nat}
theorem l7{n':Nat}(hn:n≤n')(h:∀ x,x∈ob A→n'≤x) : ∀ x,x∈ob A→n≤x:=fun x hx=>Nat.le_trans hn (h x hx)
theorem pv{k:Nat}{B:Option Addr}(hl:0<k→∀ x,x∈ob B→x<w.heap.size)(hg:w.heap.size≤g) : 0<k→∀ x,x∈ob B→x≠g:=fun hk x hx e=>by
  have:=hl hk x hx
  omega
end
theorem pm{α:Type}{b0 b1 sz:Nat}{e:TypeId}{R:World→α→List Value→Prop}{w:World}{v:Value}{xs:List α}(hb:b0≤b1)(h:aN b1 e sz R w v xs) : aN b0 e sz R w v xs:=by
  obtain⟨cells,⟨h1,h2⟩,h3⟩:=h
  refine⟨cells,⟨h1,?_⟩,h3⟩
  rcases h2 with h2|⟨g,cap,cur,k0,k1,k2⟩
  · exact .inl h2
  · exact .inr ⟨g,cap,cur,k0,Nat.le_trans hb k1,k2⟩
theorem qB{α:Type}{b1 sz m c:Nat}{e:TypeId}{R:World→α→List Value→Prop}{w w1:World}{A A0:Option Addr}{xs:List α}(h:aN b1 e sz R w1 (.slice A m c) xs)(hb:w.heap.size≤b1) : ∀ x,x∈ob A→x∈ob A0∨w.heap.size≤x:=fun x hx=>.inr (Nat.le_trans hb (cS h x hx))
theorem qC{α:Type}{n b1 sz m c:Nat}{e:TypeId}{R:World→α→List Value→Prop}{w1:World}{A:Option Addr}{xs:List α}(h:aN b1 e sz R w1 (.slice A m c) xs)(hb:n≤b1) : ∀ x,x∈ob A→n≤x:=fun x hx=>Nat.le_trans hb (cS h x hx)
open Go.RowKit
theorem s3{base g:Nat}{w:World}{cur:Array Value}(hb:base≤g)(hg:w.heap[g]? = some (.cells cur 5 (0,0)))(hc:cur.size≤maxLen) : cN base w (.slice (some ⟨g,0,none⟩) 0 cur.size) [] :=
  ⟨[],⟨rfl,.inr ⟨g,cur.size,cur,rfl,hb,hg,Nat.zero_le _,hc,(Nat.mul_one _).symm,by simp⟩⟩,fun j x hj=>by simp at hj⟩
theorem mi{base:Nat}{w:World}{A:Option Addr}{n c:Nat}{xs:List Int}(h:cN base w (.slice A n c) xs) : cN base w (.slice A 0 c) []:=by
  obtain⟨cells,⟨_,h2⟩,_⟩:=h
  rcases h2 with⟨e,_⟩|⟨g,cap,cur,e,h3,h4,h5,h6,h7,_⟩
  · injection e with e1 e2 e3
    subst e1 e3
    exact aN.nil ..
  · injection e with e1 e2 e3
    subst e1 e3
    exact⟨[],⟨rfl,.inr ⟨g,c,cur,rfl,h3,h4,Nat.zero_le _,h6,h7,by simp⟩⟩,fun j x hj=>by simp at hj⟩
theorem fU{P:Program}{m:Bool}{w:World}(t ty e:TypeId)(ht:P.underlying t=some (.slice e))(hte:e=5)(hinfo:(P.info? e).map (fun i=>(i.zero,i.size,i.bytes))=some (some (.int .u8 0),1,1))
    {A:Option Addr} {xs ys:List Int} (HX:aM true w (.slice A xs.length xs.length) xs) {u:Value} (HY:aM m w u ys) (hl:xs.length+ys.length≤4194304) :
    ∃ A' cp w',(Builtin.append_ #[t,t] ty #[.slice A xs.length xs.length,u]).run P w = .ok (.slice A' (xs++ys).length cp) w'∧aM true w' (.slice A' (xs++ys).length cp) (xs++ys)∧au [] w w'∧((A'=A∧w'=w)∨∃ c,cN w.heap.size w' (.slice A' 0 c) []):=by
  subst hte
  obtain⟨i0,hi,hz0,hz1,hz2⟩:=info_parts hinfo
  obtain⟨B,c,rfl,hc1,hc2⟩:=HY.shape
  by_cases hy:ys=[]
  · have hs:=s5 (P:=P) ht HY hy
    subst hy
    rw[← hz1] at hs
    rw[List.append_nil]
    exact⟨A,_,w,run_append_nothing w t t ty _ i0 ht hi A xs.length xs.length (Nat.le_refl _) _ hs,HX,au.refl _ _,.inl ⟨rfl,rfl⟩⟩
  have hyl:0<ys.length:=by
    cases ys with
    | nil=>exact absurd rfl hy
    | cons a r=>simp
  cases B with
  | none =>
    obtain⟨B,c',hv,_,_,h0,h3⟩:=HY
    injection hv with e1 e2 e3
    subst e1 e3
    obtain⟨b,off,cells,t,fr,hh,_⟩:=h3 hyl
    cases hh
  | some ad =>
    obtain⟨_,hnews⟩:=eZ jv.cell HY
    have hby:∀ x,x∈xs++ys→0≤x∧x<256:=fun x hx=>by
      rcases List.mem_append.1 hx with h|h
      · exact HX.rng x h
      · exact HY.rng x h
    have fin:∀ (cp:Nat) (w':World) (zs:Array Value),xs.length+ys.length≤cp→cp≤maxLen→zs.size=cp-(xs.length+ys.length)→w'.heap[w.heap.size]? = some (.cells (((xs++ys).map (Value.int .u8)).toArray++zs) 5 (0,0))→aM true w' (.slice (some ⟨w.heap.size,0,none⟩) (xs++ys).length cp) (xs++ys)∧∃ c,cN w.heap.size w' (.slice (some ⟨w.heap.size,0,none⟩) 0 c) []:=fun cp w' zs h1 h2 hz h3=>by
      refine⟨⟨_,cp,rfl,by rw[List.length_append];exact h1,h2,(fun hA=>by cases hA),fun hp=>⟨w.heap.size,0,_,_,_,rfl,h3,fun _=>rfl,fun j x hj=>?_⟩⟩,_,s3 (Nat.le_refl _) h3 ?_⟩
      · refine⟨[.int .u8 x],rfl,⟨rfl,hby x (List.mem_of_getElem? hj)⟩,fun i u hi=>?_⟩
        cases i with
        | succ i=>simp at hi
        | zero =>
          have hi:Value.int .u8 x=u:=by simpa using hi
          subst hi
          have hlt:=(List.getElem?_eq_some_iff.1 hj).1
          rw[Array.getElem?_append_left (by simp;simpa using hlt)]
          simp only[Nat.zero_add,Nat.mul_one,Nat.add_zero]
          rw[List.getElem?_toArray,List.getElem?_map,hj]
          rfl
      · rw[Array.size_append,hz]
        simp
        omega
    have hzc:∀ k,(Builtin.zeroCells (Value.int .u8 0).cells k).size=k:=fun k=>by simp[Builtin.zeroCells,Value.cells]
    cases A with
    | none =>
      have hx0:xs=[]:=by
        obtain⟨B,c',hv,_,_,h0,h3⟩:=HX
        injection hv with e1 e2 e3
        subst e1
        have:=h0 rfl
        exact List.eq_nil_of_length_eq_zero (by omega)
      subst hx0
      have hr:=run_append_nil (P:=P) w t ty _ i0 (.int .u8 0) ht hi hz0 ad ys.length c (ys.map (Value.int .u8)) (by rw[hz1];simp) hnews hyl (by omega) (by rw[hz2];omega)
      have f:=fin (grownCap w ys.length 0 5) (w.drew.alloc (.cells ((ys.map (Value.int .u8)).toArray++Builtin.zeroCells (Value.int .u8 0).cells (grownCap w ys.length 0 5-ys.length)) 5)) (Builtin.zeroCells (Value.int .u8 0).cells (grownCap w ys.length 0 5-ys.length)) (by simpa using grownCap_ge w ys.length 0 _) (grownCap_le_maxLen _ _ _ _ (by unfold maxLen;omega)) (by rw[hzc];simp) (by simpa using cU w.drew _)
      exact⟨_,_,_,hr,f.1,((au.refl _ _).drew).alloc _,.inr f.2⟩
    | some bd =>
      obtain⟨_,holds⟩:=eZ jv.cell HX
      have hr:=run_append_grow (P:=P) w t ty _ i0 (.int .u8 0) ht hi hz0 bd xs.length xs.length (xs.map (Value.int .u8)) (by rw[hz1];simp) holds ad ys.length c (ys.map (Value.int .u8)) (by rw[hz1];simp) hnews (by omega) (by omega) (by
        rw[hz2]
        have:=nextslicecap_le (need:=xs.length+ys.length) (old:=xs.length) (by omega)
        omega)
      have f:=fin (grownCap w (xs.length+ys.length) xs.length 5) (w.drew.alloc (.cells ((xs.map (Value.int .u8)).toArray++(ys.map (Value.int .u8)).toArray++Builtin.zeroCells (Value.int .u8 0).cells (grownCap w (xs.length+ys.length) xs.length 5-(xs.length+ys.length))) 5)) (Builtin.zeroCells (Value.int .u8 0).cells (grownCap w (xs.length+ys.length) xs.length 5-(xs.length+ys.length))) (grownCap_ge w _ _ _) (grownCap_le_maxLen _ _ _ _ (by unfold maxLen;omega)) (by rw[hzc]) (by simpa using cU w.drew _)
      exact⟨some ⟨w.heap.size,0,none⟩,grownCap w (xs.length+ys.length) xs.length 5,_,by rw[hr,List.length_append],f.1,((au.refl _ _).drew).alloc _,.inr f.2⟩
section
variable {P:Program}{n:Nat}{D:List Deferred}{F:Fr}{w:World}{K:Fr→World→Prop}{Q:Exit→Act→World→Prop}{d:Option Tmp}{t:TypeId}{s:String}{af:Array Edge}{gu:Option (Nat × Bool)}
theorem uv{ty:TypeId}{x y:Operand}{m:Bool}{A:Option Addr}{xs ys:List Int}{u:Value}(HX:aM true w (.slice A xs.length xs.length) xs)(HY:aM m w u ys)(hl:xs.length+ys.length≤4194304)
    (h:∀ A' cp w',aM true w' (.slice A' (xs++ys).length cp) (xs++ys)→((A'=A∧w'=w)∨∃ c,cN w.heap.size w' (.slice A' 0 c) [])→au [] w w'→K (pt d (.slice A' (xs++ys).length cp) F) w') (hx:cX F x=some (.slice A xs.length xs.length):=by kernel_rfl) (hy:cX F y=some u:=by kernel_rfl)
    (hs:(kF P ty,(P.info? 5).map (fun i=>(i.zero,i.size,i.bytes)),dw n d)=(some 5,some (some (.int .u8 0),1,1),true):=by kernel_rfl) : OG P ⟨d,.call { callee:=.builtin .append,args:=#[x,y],argTypes:=#[ty,ty] },t,s,af,gu⟩ n D F w K Q:=by
  simp only[Prod.mk.injEq] at hs
  obtain⟨h1,h2,h3⟩:=hs
  obtain⟨A',cp,w',hr,hv,hu,ho⟩:=fU (P:=P) (w:=w) ty t _ (d8 h1) rfl h2 HX HY hl
  refine⟨fun a ha K' hK=>OW.mk ?_⟩
  have hx':=ha.ev hx
  have hy':=ha.ev hy
  unfold Oper.wp execOp
  simp only[resolve,invoke,builtin,Sem.run_bind,Sem.run_pure,Result.andThen_ok,List.map_toArray,List.map_cons,List.map_nil,hx',hy',hr]
  exact hK _ _ _ (h A' cp w' hv ho hu) (ha.put h3)
end
open Go.RowKit
def bT (n base:Nat)(w:World)(g:Nat)(A:Option Addr)(c:Nat)(S:SS) : Prop:=(∃ cp,w.heap[g]? = some (.cells #[.int .i64 S.dir,.slice A S.held.length cp,.bool S.off] 127 (0,0))∧aM true w (.slice A S.held.length cp) S.held∧S.held.length≤256∧S.held.length≤cp)∧cN base w (.slice A 0 c) []∧n≤w.heap.size∧(∀ x,x∈ob A→n≤x)∧base≤w.heap.size
section
variable {n base g c:Nat}{w w':World}{A:Option Addr}{S:SS}{X:List Nat}
theorem bT.row(h:bT n base w g A c S) : cN base w (.slice A 0 c) []:=h.2.1
theorem bT.low(h:bT n base w g A c S) : ∀ x,x∈ob A→n≤x:=h.2.2.2.1
theorem bT.nle(h:bT n base w g A c S) : n≤w.heap.size:=h.2.2.1
theorem bT.le(h:bT n base w g A c S) : S.held.length≤256:=by
  obtain⟨⟨cp,_,_,h1,_⟩,_⟩:=h
  exact h1
theorem bT.lt(h:bT n base w g A c S) : g<w.heap.size:=by
  obtain⟨⟨cp,h1,_⟩,_⟩:=h
  exact aj h1
theorem bT.cells(h:bT n base w g A c S) : ∃ cs fr,w.heap[g]? = some (.cells cs 127 fr):=by
  obtain⟨⟨cp,h1,_⟩,_⟩:=h
  exact⟨_,_,h1⟩
theorem bT.upd(h:bT n base w g A c S)(hu:au X w w')(hg:g∉X)(hr:∀ x,x∈ob A→x∉X) : bT n base w' g A c S:=by
  obtain⟨⟨cp,h1,h2,h3⟩,h4,h5,h6,h7⟩:=h
  exact⟨⟨cp,hu.blk hg h1,aM.far h2 hu (fun _=>hr),h3⟩,am h4 hu hr (fun _ _ q=>q),Nat.le_trans h5 hu.size,h6,Nat.le_trans h7 hu.size⟩
end
theorem aZ.bad{n:Nat}{w:World}(hn:n≤w.heap.size){e:Int}{cs:List Value}(h:j4 true w (Ev.bad e) cs) : aZ n w (Ev.bad e) cs:=⟨hn,fun w' X hu ha=>by
  obtain⟨s,h1,h2,h3⟩:=h
  obtain⟨vw,vb,vd,vr,vo,k0,kw,kb,kd,kr,ko,kR⟩:=h2
  have nl:∀ {α:Type} {e:TypeId} {sz:Nat} {R:World→α→List Value→Prop} {v:Value},aH true e sz R w v []→aH true e sz R w' v []:=fun⟨A,c,hv,q1,q2,q3,q4⟩=>⟨A,c,hv,q1,q2,q3,fun hp=>absurd hp (Nat.lt_irrefl 0)⟩
  exact⟨s,h1,⟨vw,vb,vd,vr,vo,k0,nl kw,nl kb,nl kd,nl kr,nl ko,kR⟩,h3⟩⟩
theorem cv.nil{n base:Nat}{w:World}:cv n base w (.slice none 0 0) []:=aN.nil ..
theorem cv.bad{n base:Nat}{w:World}{v:Value}{e:Int}(hn:n≤w.heap.size)(h:f6 base w v [Ev.bad e]) : cv n base w v [Ev.bad e]:=by
  obtain⟨cells,ho,hx⟩:=h
  refine⟨cells,ho,fun j x hj=>?_⟩
  obtain⟨cs,h1,h2,h3⟩:=hx j x hj
  cases j with
  | succ j=>simp at hj
  | zero =>
    have hj:Ev.bad e=x:=by simpa using hj
    subst hj
    exact⟨cs,h1,aZ.bad hn h2,h3⟩
def uM (n base:Nat)(S2:SS)(L:List Ev)(g:Nat)(A:Option Addr)(w:World)(e:Ending)(w':World) : Prop:=∃ v A2 c2 n2,e = .returned v∧cv n2 w.heap.size w' v L∧bT n2 base w' g A2 c2 S2∧(∀ x,x∈ob A2→x∈ob A∨w.heap.size≤x)∧n≤n2∧au (g :: (ob A++[])) w w'
theorem hG{g:Nat}{A:Option Addr}{w w':World}(h:au [g] w w') : au (g :: (ob A++[])) w w':=au.mono h fun x hx=>.inl (by rw[List.mem_singleton] at hx;rw[hx];exact List.mem_cons_self ..)
theorem qH{w:World}{d:Int}(hd:d=0∨d=1) : Calls Tryz.prog 46 #[.int .i64 d] w (fun e w'=>∃ g,e = .returned (.pointer (some ⟨g,0,none⟩))∧w.heap.size≤g∧bT w.heap.size w.heap.size w' g none 0 ⟨d,[],false⟩∧au [] w w'):=by
 have h:((d != 0)&&(d != 1))=false:=by rcases hd with rfl | rfl<;>rfl
 refine en 12 Tryz.func46 rfl<|sg<|Pl 1<|nt<|sq<|sg<|Pl 3<|cu 3 [5] 8 (((d != 0)&&(d != 1))) (fun K c=>?_) ?_
 refine bl 5 ((d != 0)) (fun a=>?_) (fun a=>?_)
 have i:=ay a
 exact Pl 3<|ce c (d != 1) (by rw[a];rfl)
 have i:=ag a
 exact Pl 3<|ce c false (by rw[a];rfl)
 refine nt<|cf h<|bB<|sg<|Pl 2<|L0<|cW #[.int .i64 d,.slice none 0 0,.bool false] fun f l j k b=>Pl 1<|nt<|rt<|rr (.pointer (some ⟨f,0,none⟩))<|?_
 exact⟨f,rfl,j,⟨⟨0,k,aH.nil ..,Nat.zero_le _,Nat.zero_le _⟩,aN.nil ..,b.size,bU,b.size⟩,b⟩
theorem oJ{w:World}{n base g c:Nat}{A:Option Addr}{S:SS}(h:bT n base w g A c S) : Calls Tryz.prog 158 #[.pointer (some ⟨g,0,none⟩)] w (bg (.int .i64 ((S.held.length:Nat) : Int)) w):=by
 obtain⟨⟨cp,hb,hr,hl,hcp⟩,hrow,hn0,hlow,hbs⟩:=h
 have hcm:=aH.len hr
 refine en 8 Tryz.func158 rfl<|sg<|Pl 1<|ng<|Pl 3<|L0<|aR hb 1<|Pl 2<|nt<|rt<|?_
 refine rr (.int .i64 ((S.held.length:Nat) : Int))<|?_
 exact⟨rfl,(au.refl [] _)⟩
theorem nD{w:World}{n base g c:Nat}{A:Option Addr}{S:SS}(h:bT n base w g A c S){m:Bool}{B:Option Addr}{cpb:Nat}{b:List Int}(hgA:g∉ob A)(hsl:aM m w (.slice B b.length cpb) b)(hbl:b.length≤1048576)(hcb:b.length≤cpb) :
    Calls Tryz.prog 157 #[.pointer (some ⟨g,0,none⟩),.slice B b.length cpb] w (uM n base (S.feed b).1 (S.feed b).2 g A w):=by
 obtain⟨⟨cp,hb,hr,hl,hcp⟩,hrow,hn0,hlow,hbs⟩:=h
 have hcm:=aH.len hr
 have hbm:=aH.len hsl
 refine en 53 Tryz.func157 rfl<|sg<|Pl 1<|nt<|sq<|sg<|Pl 3<|L0<|aR hb 2<|nt<|cb (S.off) (fun l=>?_) (fun l=>?_)
 refine sg<|Pl 1<|nt<|rt<|tr<|rr (.slice none 0 0)<|?_
 have hs:S.feed b=(S,[]):=by unfold SS.feed;rw[l];rfl
 rw[hs]
 exact⟨_,A,c,n,rfl,cv.nil,⟨⟨cp,hb,hr,hl,hcp⟩,am hrow (au.refl [] _) (fun x hx=>(by simp)) (fun _ _ q=>q),Nat.le_trans hn0 lr,hlow,Nat.le_trans hbs lr⟩,fx,Nat.le_refl _,hG (au.mono (S':=[g]) (au.refl [] _) av)⟩
 refine bB<|sg<|Pl 5<|L0<|aR hb 1<|Pl 1<|L0<|Oi (256-((S.held.length:Nat) : Int))<|L0<|gw (.int .i64 (min ((b.length:Nat) : Int) (256-((S.held.length:Nat) : Int)))) (qn (a:=((b.length:Nat) : Int)) (b:=(256-((S.held.length:Nat) : Int))) rfl (by kernel_rfl) (by kernel_rfl))<|Pl 1<|nt<|sq<|Rg 23 (fun w'=>w'.cell? ⟨g,1,none⟩=some (.slice A S.held.length cp)) fun R f=>?_
 have z:=ub f hb
 refine be (ai z rfl) fun d=>Rt 0 d<|Rt 1 d<|Rt 2 d<|Rt 3 d<|Rl 4 d (fun _ hs=>hs)<|Rt 5 d<|Rt 6 d<|Rt 7 d<|Rl 8 d (fun _ hs=>hs)<|Rt 9 d<|Rt 10 d<|Rt 11 d<|Rt 12 d<|?_
 refine Rl 13 d (fun _ hs=>hs)<|Rt 14 d<|?_
 have u:=aM.upd' hr f az
 refine Rr 15 d (.slice A S.held.length S.held.length) (fun _ _=>oA (k1:=.i64) (k2:=.i64) (i1:=((S.held.length:Nat) : Int)) (i2:=((S.held.length:Nat) : Int)) (A:=A) (n:=S.held.length) (c:=cp) rfl Tryz.underlying27 (by kernel_rfl) (by kernel_rfl) (by kernel_rfl) (by kernel_rfl) rfl rfl (aH.cap u) (aH.adr u))<|Rt 16 d<|Rt 17 d<|pf (rJ (P:=Tryz.prog) 27 5 1 Tryz.underlying27 rfl rfl B b.length cpb (k:=(min ((b.length:Nat) : Int) (256-((S.held.length:Nat) : Int)))) (((min ((b.length:Nat) : Int) (256-((S.held.length:Nat) : Int)))).toNat) (by omega) (by omega) (by omega)) fun G hrun30 H=>Rr 18 d (.slice G (((min ((b.length:Nat) : Int) (256-((S.held.length:Nat) : Int)))).toNat) cpb) (fun _ _=>kM (kl:=.i64) (k:=(min ((b.length:Nat) : Int) (256-((S.held.length:Nat) : Int)))) (A:=B) (n:=b.length) (c:=cpb) rfl Tryz.underlying27 (by kernel_rfl) (by kernel_rfl) (hrun30 _ _))<|?_
 refine R0 19 rfl<|uv (xs:=S.held) (ys:=(b.take (((min ((b.length:Nat) : Int) (256-((S.held.length:Nat) : Int)))).toNat))) (u).full (H _ _ _ _ _ (aM.upd' hsl f az)) (by(try simp only[List.length_take]);omega) fun o C T I J j=>?_
 have v:=ub j z
 refine be (ai v rfl) fun D=>Rt 20 D<|Rt 21 D<|vq 22 rfl<|bO v 1 #[.int .i64 S.dir,.slice o ((S.held++(b.take (((min ((b.length:Nat) : Int) (256-((S.held.length:Nat) : Int)))).toNat))).length) C,.bool S.off] fun E F i=>re<|tn<|sq<|sg<|Pl 4<|nt<|?_
 have p:=uz f (uz j i)
 refine cb (((min ((b.length:Nat) : Int) (256-((S.held.length:Nat) : Int)))==((b.length:Nat) : Int))) (fun y=>?_) (fun y=>?_)
 have K:=aA y
 refine sg<|Pl 1<|nt<|rt<|tr<|rr (.slice none 0 0)<|?_
 have hle:b.length≤256-S.held.length:=by omega
 have hs:S.feed b=(⟨S.dir,S.held++b,false⟩,[]):=by unfold SS.feed;rw[l,decide_eq_true hle];rfl
 rw[hs]
 have hz:(b.take (((min ((b.length:Nat) : Int) (256-((S.held.length:Nat) : Int)))).toNat))=b:=List.take_of_length_le (by omega)
 have hB:=F
 have hR:=(aM.upd' I i (ah (aD v (by decide)) az))
 rw[hz] at hB hR
 have hsh:=hR.cap
 have hgr:g∉ob A:=fun e=>hgA e
 have fin:∀ c2,cN base E (.slice o 0 c2) []→(∀ x,x∈ob o→n≤x)→(∀ x,x∈ob o→x∈ob A∨w.heap.size≤x)→uM n base ⟨S.dir,S.held++b,false⟩ [] g A w (.returned (.slice none 0 0)) E:=fun c2 k1 k2 k3=>⟨_,o,c2,n,rfl,cv.nil,⟨⟨C,by rw[← l];exact hB,hR,by rw[List.length_append];omega,hsh⟩,k1,Nat.le_trans hn0 p.size,k2,Nat.le_trans hbs p.size⟩,k3,Nat.le_refl _,hG p⟩
 rcases J with⟨e1,e2⟩|⟨c2,k⟩
 · refine fin c ?_ ?_ ?_
   · rw[e1];exact am hrow p (fun x hx=>(by rw[List.mem_singleton];intro e;exact hgA (e▸hx))) (fun _ _ q=>q)
   · rw[e1];exact hlow
   · rw[e1];exact fx
 · refine fin c2 ?_ ?_ ?_
   · exact aN.weaken (am k i (fun x hx=>(by rw[List.mem_singleton];intro e;have:=cS k x hx;have:=aj hb;have:=f.size;omega)) (fun _ _ q=>q)) (Nat.le_trans hbs f.size)
   · exact fun x hx=>Nat.le_trans (Nat.le_trans hn0 f.size) (cS k x hx)
   · exact fun x hx=>.inr (Nat.le_trans f.size (cS k x hx))
 have K:=aG y
 refine bB<|sg<|Pl 4<|L0<|bO F 1 #[.int .i64 S.dir,.slice none 0 0,.bool S.off] fun U L r=>Pl 2<|L0<|bO L 2 #[.int .i64 S.dir,.slice none 0 0,.bool true] fun V M s=>ng<|Pl 1<|L0<|fk (m:=1) (e:=66) #[.int .i64 3,.int .u8 0,.int .u16 0,.int .u8 0,.int .u8 0,.int .u16 0,.int .u16 0,.int .u16 0,.int .u16 0,.int .u16 0,.int .u16 0,.int .u16 0,.int .u16 0,.int .u16 0,.int .u16 0,.slice none 0 0,.slice none 0 0,.slice none 0 0,.slice none 0 0,.int .u8 0,.int .u8 0,.int .u8 0,.int .u8 0,.int .u8 0,.slice none 0 0] fun N W O Q t=>?_
 refine Pl 1<|nt<|rt<|rr (.slice (some ⟨N,0,none⟩) 1 1)<|?_
 have hle:¬ b.length≤256-S.held.length:=by omega
 have hs:S.feed b=(⟨S.dir,[],true⟩,[Ev.bad 3]):=by unfold SS.feed;rw[l,decide_eq_false hle];rfl
 rw[hs]
 have hE:=j8 (w0:=w) (x:=Ev.bad 3) (Nat.le_trans (le (le (le (le f.size j.size) i.size) r.size) s.size) O) Q ⟨⟨none,0,none,0,none,0,none,0,none,0⟩,by kernel_rfl,jg,by decide,by decide⟩
 exact⟨_,none,0,n,rfl,cv.bad (Nat.le_trans hn0 (le (le (le (le (le f.size j.size) i.size) r.size) s.size) t.size)) hE,⟨⟨0,(ub t M),aH.nil ..,(Nat.zero_le _),(Nat.zero_le _)⟩,aN.nil ..,Nat.le_trans hn0 (le (le (le (le (le f.size j.size) i.size) r.size) s.size) t.size),bU,Nat.le_trans hbs (le (le (le (le (le f.size j.size) i.size) r.size) s.size) t.size)⟩,d7,Nat.le_refl _,hG (u1 p (u1 r (aE s t) im) im)⟩
theorem mO{w:World}{n base g c:Nat}{A:Option Addr}{S:SS}(h:bT n base w g A c S) : Calls Tryz.prog 159 #[.pointer (some ⟨g,0,none⟩)] w (uM n base S.tick.1 S.tick.2 g A w):=by
 obtain⟨⟨cp,hb,hr,hl,hcp⟩,hrow,hn0,hlow,hbs⟩:=h
 have hcm:=aH.len hr
 refine en 32 Tryz.func159 rfl<|sg<|Pl 1<|ng<|Pl 3<|L0<|aR hb 1<|Pl 1<|nt<|sq<|?_
 refine go<|Pl 4<|L0<|bO hb 1 #[.int .i64 S.dir,.slice none 0 0,.bool S.off] fun L u d=>Pl 2<|L0<|bO u 2 #[.int .i64 S.dir,.slice none 0 0,.bool false] fun v l f=>nt<|sq<|sg<|Pl 3<|nt<|?_
 have b:=u1 d f im
 refine cb ((((S.held.length:Nat) : Int)==0)) (fun o=>?_) (fun o=>?_)
 have y:=aA o
 refine sg<|Pl 1<|nt<|rt<|tr<|rr (.slice none 0 0)<|?_
 have hs:S.tick=(⟨S.dir,[],false⟩,[]):=by unfold SS.tick;rw[if_pos (by omega)]
 rw[hs]
 exact⟨_,none,0,v.heap.size,rfl,cv.nil,⟨⟨0,l,aH.nil ..,(Nat.zero_le _),(Nat.zero_le _)⟩,aN.nil ..,Nat.le_refl _,bU,Nat.le_trans hbs b.size⟩,d7,Nat.le_trans hn0 b.size,hG b⟩
 have y:=aG o
 refine bB<|sg<|Pl 3<|L0<|aR l 0<|Pl 1<|?_
 refine pr (eh S.dir S.held) fun a p r=>?_
 refine L0<|Oc<|e2 (kO r (aM.upd' hr b (ah (aD hb (by decide)) az)) (by omega)) fun sW M z i=>?_
 obtain⟨B,C,D⟩:=z
 refine Pl 3<|L0<|bz #[.int .u8 0,.int .u16 0,.int .u8 0,.int .u8 0,.int .u16 0,.int .u16 0,.int .u16 0,.int .u16 0,.int .u16 0,.int .u16 0,.int .u16 0,.int .u16 0,.int .u16 0,.int .u16 0,.slice none 0 0,.slice none 0 0,.slice none 0 0,.slice none 0 0,.int .u8 0,.int .u8 0,.int .u8 0,.int .u8 0,.int .u8 0,.slice none 0 0] fun N O E F j=>L0<|b6 F (o5 a.unit a.tid a.msg sW) fun P G k=>Pl 1<|ng<|Pl 1<|L0<|c9 G<|Pl 1<|L0<|fk (m:=1) (e:=66) (kS ⟨p,a⟩ sW) fun H I J K q=>Pl 1<|nl<|?_
 refine tn<|rt<|rr (.slice (some ⟨H,0,none⟩) 1 1)<|?_
 have hs:S.tick=(⟨S.dir,[],false⟩,[⟨p,a⟩]):=by unfold SS.tick;rw[if_neg (by omega),r]
 rw[hs]
 have s:=ud j (aE k q) E
 have hE:=j8 (w0:=w) (x:=⟨p,a⟩) (Nat.le_trans (le (le (le (le d.size f.size) i.size) j.size) k.size) J) K ⟨sW,rfl,(aU.upd B s az),C,D⟩
 have t:=aE i s
 exact⟨_,none,0,I.heap.size,rfl,f6.low hE,⟨⟨0,(ub t l),aH.nil ..,(Nat.zero_le _),(Nat.zero_le _)⟩,aN.nil ..,Nat.le_refl _,bU,Nat.le_trans hbs (le (le (le (le (le d.size f.size) i.size) j.size) k.size) q.size)⟩,d7,Nat.le_trans hn0 (le (le (le (le (le d.size f.size) i.size) j.size) k.size) q.size),hG (aE b t)⟩
open Go.RowKit
def qQ (b:List Int) : ak:=⟨b,false,0⟩
def ql (b:List Int) : ak:=(qQ b).wordsC 1
def qF (b:List Int) : ak:=(ql b).wordsC 1
def rE (b:List Int) : ak:=(qF b).wordsC 1
def rf (b:List Int) : ak:=(rE b).bytesC 1
def m7 (b:List Int) : List Int:=(rf b).bytesR (((rf b).l.length:Nat) : Int)
def ca (dir:Int)(b:List Int) : cT × Int :=
  if dir != 0&&dir != 1 then (cT.zero,1)
  else if decide ((b.length:Int)<8) then (cT.zero,2)
  else if decide (260<(b.length:Int)) then (cT.zero,3)
  else if (ql b).wordV != 0 then (cT.zero,13)
  else if (qF b).wordV != (b.length:Int)-6 then (cT.zero,5)
  else cw (rE b).byteV (qQ b).wordV (co dir (m7 b))
theorem jN{m:Bool}{A:Option Addr}{cp:Nat}{b:List Int}{w:World}{dir:Int}(hsl:aM m w (.slice A b.length cp) b)(hb:b.length≤1048576) :
    Calls Tryz.prog 192 #[.int .i64 dir,.slice A b.length cp] w (jh (ca dir b) w):=by
 have hln:(b.length:Int)≤1048576:=by omega
 refine en 75 Tryz.func192 rfl<|sg<|L0<|bz #[.int .u8 0,.int .u16 0,.int .u8 0,.int .u8 0,.int .u16 0,.int .u16 0,.int .u16 0,.int .u16 0,.int .u16 0,.int .u16 0,.int .u16 0,.int .u16 0,.int .u16 0,.int .u16 0,.slice none 0 0,.slice none 0 0,.slice none 0 0,.slice none 0 0,.int .u8 0,.int .u8 0,.int .u8 0,.int .u8 0,.int .u8 0,.slice none 0 0] fun b0 b1 g e i=>Pl 1<|nt<|sq<|bk<|sg<|Pl 3<|cu 3 [17] 20 (((dir != 0)&&(dir != 1))) (fun K N=>?_) ?_
 refine bl 17 ((dir != 0)) (fun o=>?_) (fun o=>?_)
 have Z:=ay o
 exact Pl 3<|ce N (dir != 1) (by rw[o];rfl)
 have Z:=ag o
 exact Pl 3<|ce N false (by rw[o];rfl)
 refine Pl 1<|nt<|cb (((dir != 0)&&(dir != 1))) (fun c=>?_) (fun c=>?_)
 have O:=(bM c).1
 have P:=(bM c).2
 have b2:=ay O
 have b3:=ay P
 refine sg<|Pl 1<|L0<|b6 e #[.int .u8 0,.int .u16 0,.int .u8 0,.int .u8 0,.int .u16 0,.int .u16 0,.int .u16 0,.int .u16 0,.int .u16 0,.int .u16 0,.int .u16 0,.int .u16 0,.int .u16 0,.int .u16 0,.slice none 0 0,.slice none 0 0,.slice none 0 0,.slice none 0 0,.int .u8 0,.int .u8 0,.int .u8 0,.int .u8 0,.int .u8 0,.slice none 0 0] fun b4 a0 a1=>Pl 1<|nt<|rt<|br<|tr<|cc a0 (.int .i64 1)<|?_
 have hs:ca dir b=(cT.zero,1):=by
   unfold ca
   (try simp only[c,O,P,bs,if_true,if_false,decide_true,decide_false,cw,rf,rE,qF,ql,qQ,reduceIte])
   all_goals rfl
 refine cQ hs ?_
 exact bW (ud i a1 g)
 refine sg<|Pl 4<|nt<|cb ((decide (((b.length:Nat) : Int)<8))) (fun d=>?_) (fun d=>?_)
 have a2:=of_decide_eq_true d
 refine sg<|Pl 1<|L0<|b6 e #[.int .u8 0,.int .u16 0,.int .u8 0,.int .u8 0,.int .u16 0,.int .u16 0,.int .u16 0,.int .u16 0,.int .u16 0,.int .u16 0,.int .u16 0,.int .u16 0,.int .u16 0,.int .u16 0,.slice none 0 0,.slice none 0 0,.slice none 0 0,.slice none 0 0,.int .u8 0,.int .u8 0,.int .u8 0,.int .u8 0,.int .u8 0,.slice none 0 0] fun b5 a3 a4=>Pl 1<|nt<|rt<|br<|tr<|cc a3 (.int .i64 2)<|?_
 have hs:ca dir b=(cT.zero,2):=by
   unfold ca
   (try simp only[c,d,bs,if_true,if_false,decide_true,decide_false,cw,rf,rE,qF,ql,qQ,reduceIte])
   all_goals rfl
 refine cQ hs ?_
 exact bW (ud i a4 g)
 have a2:=of_decide_eq_false d
 refine sg<|Pl 4<|nt<|cb ((decide (260<((b.length:Nat) : Int)))) (fun f=>?_) (fun f=>?_)
 have a5:=of_decide_eq_true f
 refine sg<|Pl 1<|L0<|b6 e #[.int .u8 0,.int .u16 0,.int .u8 0,.int .u8 0,.int .u16 0,.int .u16 0,.int .u16 0,.int .u16 0,.int .u16 0,.int .u16 0,.int .u16 0,.int .u16 0,.int .u16 0,.int .u16 0,.slice none 0 0,.slice none 0 0,.slice none 0 0,.slice none 0 0,.int .u8 0,.int .u8 0,.int .u8 0,.int .u8 0,.int .u8 0,.slice none 0 0] fun b7 a6 a7=>Pl 1<|nt<|rt<|br<|tr<|cc a6 (.int .i64 3)<|?_
 have hs:ca dir b=(cT.zero,3):=by
   unfold ca
   (try simp only[c,d,f,bs,if_true,if_false,decide_true,decide_false,cw,rf,rE,qF,ql,qQ,reduceIte])
   all_goals rfl
 refine cQ hs ?_
 exact bW (ud i a7 g)
 have a5:=of_decide_eq_false f
 refine sk<|bn<|tn<|sg<|Pl 1<|?_
 refine L0<|Oc<|e3 (cl (aM.old hsl i) (by omega)) fun u b9 p a8 a9=>Pl 1<|ng<|Pl 1<|ng<|Pl 2<|L0<|eP #[] #[] (args:=#[.pointer (some ⟨u,0,none⟩)])<|m3 (bh a8) fun ba aa ac bb=>Pl 2<|L0<|eP #[] #[] (args:=#[.pointer (some ⟨u,0,none⟩)])<|m3 (bh aa) fun bc ad af bd=>?_
 refine ab ad fun x46 s ai=>?_
 refine Pl 2<|L0<|eP #[] #[] (args:=#[.pointer (some ⟨u,0,none⟩)])<|m3 (bh ai) fun be aj al bf=>Pl 3<|nt<|sq<|bk<|sg<|Pl 3<|nt<|?_
 have j:=ud a9 (u1 ac (u1 af al im) im) p
 have v:=aE i j
 refine cb (((((ak.mk b false 0).wordsC 1).wordV)!=0)) (fun h=>?_) (fun h=>?_)
 have am:=ay h
 refine sg<|Pl 1<|?_
 refine L0<|b6 (ub j e) #[.int .u8 0,.int .u16 0,.int .u8 0,.int .u8 0,.int .u16 0,.int .u16 0,.int .u16 0,.int .u16 0,.int .u16 0,.int .u16 0,.int .u16 0,.int .u16 0,.int .u16 0,.int .u16 0,.slice none 0 0,.slice none 0 0,.slice none 0 0,.slice none 0 0,.int .u8 0,.int .u8 0,.int .u8 0,.int .u8 0,.int .u8 0,.slice none 0 0] fun bg an ao=>Pl 1<|nt<|rt<|br<|tr<|cc an (.int .i64 13)<|?_
 subst s
 have hs:ca dir b=(cT.zero,13):=by
   unfold ca
   (try simp only[c,d,f,h,bs,if_true,if_false,decide_true,decide_false,cw,rf,rE,qF,ql,qQ,reduceIte])
   all_goals rfl
 refine cQ hs ?_
 exact bW (ud v ao g)
 have am:=ag h
 refine sg<|Pl 1<|L0<|Oi x46.wordV<|Pl 2<|L0<|Oi (((b.length:Nat) : Int)-6)<|Pl 2<|nt<|cb ((x46.wordV != (((b.length:Nat) : Int)-6))) (fun k=>?_) (fun k=>?_)
 have ap:=ay k
 refine sg<|Pl 1<|?_
 refine L0<|b6 (ub j e) #[.int .u8 0,.int .u16 0,.int .u8 0,.int .u8 0,.int .u16 0,.int .u16 0,.int .u16 0,.int .u16 0,.int .u16 0,.int .u16 0,.int .u16 0,.int .u16 0,.int .u16 0,.int .u16 0,.slice none 0 0,.slice none 0 0,.slice none 0 0,.slice none 0 0,.int .u8 0,.int .u8 0,.int .u8 0,.int .u8 0,.int .u8 0,.slice none 0 0] fun bj aq ar=>Pl 1<|nt<|rt<|br<|tr<|cc aq (.int .i64 5)<|?_
 subst s
 have hs:ca dir b=(cT.zero,5):=by
   unfold ca
   (try simp only[c,d,f,h,k,bs,if_true,if_false,decide_true,decide_false,cw,rf,rE,qF,ql,qQ,reduceIte])
   all_goals rfl
 refine cQ hs ?_
 exact bW (ud v ar g)
 have ap:=ag k
 refine sk<|bn<|tn<|sg<|Pl 1<|L0<|Oc<|m3 (bi aj) fun bm t Q bo=>Pl 1<|ng<|Pl 3<|L0<|Oc<|mq (cE t)<|?_
 have bp:=ae.len t
 refine L0<|Oc<|nz (bC (n:=((((x46.wordsC 1).bytesC 1).l.length:Nat) : Int)) t) fun bq bt au av bu bv aw R=>?_
 have bw:=Nat.le_trans (ak.bytesR_le ((x46.wordsC 1).bytesC 1) ((((x46.wordsC 1).bytesC 1).l.length:Nat) : Int)) (ae.len t)
 refine ab aw fun x80 S bx=>?_
 obtain⟨a,q,x⟩ : ∃ M E,co dir (((x46.wordsC 1).bytesC 1).bytesR ((((x46.wordsC 1).bytesC 1).l.length:Nat) : Int))=(M,E):=⟨_,_,rfl⟩
 have T:=fT (dir:=dir) (w:=au) av (by omega)
 rw[x] at T
 refine L0<|Oc<|e2 T fun ax bA U V=>?_
 have aA:=U
 obtain⟨aC,aF,aG,aH,aI,aJ,aK,aL,aN,aO,aP,bD⟩:=aA
 obtain rfl:ax=(dH a aC aF aG aH aI).toArray:=by apply Array.toList_inj.1;simpa using aJ
 obtain⟨y,z,rfl,_,_⟩:=aK.shape
 obtain⟨B,C,rfl,_,_⟩:=aL.shape
 obtain⟨D,F,rfl,_,_⟩:=aN.shape
 obtain⟨G,H,rfl,_,_⟩:=aO.shape
 obtain⟨I,J,rfl,_,_⟩:=aP.shape
 refine Pl 3<|L0<|bz mZ fun bE bF aQ aR aS=>L0<|b6 aR (mG a.code a.fail a.addr a.count a.value a.and_ a.or_ a.addr2 a.sub a.status a.events a.messages (.slice y a.words.length z) (.slice B a.bits.length C) (.slice D a.data.length F) (.slice G a.recs.length H) a.mei a.kind a.level a.more a.next (.slice I a.objects.length J)) fun bG aT aV=>Pl 1<|nt<|sq<|sg<|Pl 2<|nt<|?_
 have W:=ud aS aV aQ
 have L:=u1 Q (aE R (aE V W)) im
 have X:=ud v L (le i.size p)
 refine cb ((q != 0)) (fun r=>?_) (fun r=>?_)
 have aW:=ay r
 refine sg<|Pl 2<|?_
 refine L0<|b6 (ub (ud j L p) e) #[.int .u8 0,.int .u16 0,.int .u8 0,.int .u8 0,.int .u16 0,.int .u16 0,.int .u16 0,.int .u16 0,.int .u16 0,.int .u16 0,.int .u16 0,.int .u16 0,.int .u16 0,.int .u16 0,.slice none 0 0,.slice none 0 0,.slice none 0 0,.slice none 0 0,.int .u8 0,.int .u8 0,.int .u8 0,.int .u8 0,.int .u8 0,.slice none 0 0] fun bH aX aY=>Pl 1<|nt<|rt<|tr<|cc aX (.int .i64 q)<|?_
 subst S s
 have hX2:co dir (m7 b)=(a,q):=x
 have hs:ca dir b=(cT.zero,q):=by
   unfold ca
   (try simp only[c,d,f,h,k,r,bs,if_true,if_false,decide_true,decide_false,cw,rf,rE,qF,ql,qQ,hX2,reduceIte])
   all_goals rfl
 refine cQ hs ?_
 exact bW (ud X aY g)
 have aW:=ag r
 refine bB<|sg<|Pl 3<|L0<|c9 aT<|Pl 1<|?_
 refine L0<|b6 (ub (ud j L p) e) #[.int .u8 ((x46.wordsC 1).byteV),.int .u16 ((ak.mk b false 0).wordV),.int .u8 a.code,.int .u8 a.fail,.int .u16 a.addr,.int .u16 a.count,.int .u16 a.value,.int .u16 a.and_,.int .u16 a.or_,.int .u16 a.addr2,.int .u16 a.sub,.int .u16 a.status,.int .u16 a.events,.int .u16 a.messages,.slice y a.words.length z,.slice B a.bits.length C,.slice D a.data.length F,.slice G a.recs.length H,.int .u8 a.mei,.int .u8 a.kind,.int .u8 a.level,.int .u8 a.more,.int .u8 a.next,.slice I a.objects.length J] fun bI aZ Y=>Pl 1<|nt<|rt<|cc aZ (.int .i64 0)<|?_
 subst S s
 have hX2:co dir (m7 b)=(a,q):=x
 have hs:ca dir b=(⟨((((ak.mk b false 0).wordsC 1).wordsC 1).wordsC 1).byteV,(ak.mk b false 0).wordV,a⟩,0):=by
   unfold ca
   (try simp only[c,d,f,h,k,r,bs,if_true,if_false,decide_true,decide_false,cw,rf,rE,qF,ql,qQ,hX2,reduceIte])
   all_goals rfl
 refine cQ hs ?_
 exact⟨_,rfl,⟨#[.int .u8 a.code,.int .u8 a.fail,.int .u16 a.addr,.int .u16 a.count,.int .u16 a.value,.int .u16 a.and_,.int .u16 a.or_,.int .u16 a.addr2,.int .u16 a.sub,.int .u16 a.status,.int .u16 a.events,.int .u16 a.messages,.slice y a.words.length z,.slice B a.bits.length C,.slice D a.data.length F,.slice G a.recs.length H,.int .u8 a.mei,.int .u8 a.kind,.int .u8 a.level,.int .u8 a.more,.int .u8 a.next,.slice I a.objects.length J],(by as_aux_lemma=>kernel_rfl),(aU.upd U (uz W Y) (ah (aD (ub (ud j (u1 Q (aE R V) im) p) e) (by decide)) az)),b8 (by omega),aB (by omega)⟩,(ud X Y g)⟩
theorem lS{m:Bool}{v:Value}{b:List Int}{w:World}{dir:Int}(h:aM m w v b)(hb:b.length≤1048576) : Calls Tryz.prog 192 #[.int .i64 dir,v] w (jh (ca dir b) w):=by
  obtain⟨A,cp,rfl,_,_⟩:=h.shape
  exact jN h hb
open Go.RowKit
open Go.RowKit
theorem fH{m:Bool}{v:Value}{b:List Int}{w:World}{dir:Int}{F:cT}{E:Int}(hX:ca dir b=(F,E))(h:aM m w v b)(hb:b.length≤1048576) : Calls Tryz.prog 192 #[.int .i64 dir,v] w (fun e w'=>∃ x,e = .returned (.tuple #[.agg (o5 F.unit F.tid F.msg x),.int .i64 E])∧(aU true w' (ol F.msg x).toList F.msg∧(0≤F.unit∧F.unit<256)∧(0≤F.tid∧F.tid<65536))∧au [] w w'):=by
  refine(lS h hb).mono ?_
  rintro e w' ⟨cs,rfl,h1,h2⟩
  rw[hX] at h1 ⊢
  obtain⟨c,rfl,h3,h4,h5⟩:=h1
  obtain⟨x,rfl⟩:=m6 h3
  exact⟨x,by rw[i5],⟨h3,h4,h5⟩,h2⟩
end Go.Proofs.YtpglhicfhppaiaaGreat
