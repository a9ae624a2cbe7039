/- Contracts of functions, part CStreamParts3. -/
import Derived.Test.YtpglhicfhppaiaaGreatCStreamParts1
import Derived.Test.YtpglhicfhppaiaaGreatCStreamParts2
import Derived.RangeFuncRecord
import Derived.RangeFuncLeaves
import Derived.RangeFuncCalls
import Derived.OpenShut
import Derived.Below
import Derived.Deep.Upon
import Derived.Laws.BitsAllLaws
import Derived.Laws.StructEq
set_option linter.unusedVariables false
set_option linter.unusedSimpArgs false
set_option maxRecDepth 100000
set_option maxHeartbeats 4000000
namespace Go.Proofs.YtpglhicfhppaiaaGreat
open Go.RowKit
def sj (C:ak) : ak:=(C.bytesC 1).need (C.byteV==6) 9
def pS (C:ak) : ak:=((sj C).wordsC 1).need ((sj C).wordV != 0) 6
def pa (C:ak) : ak:=((pS C).wordsC 1).need (decide ((pS C).wordV≤9999)) 7
def fN (C:ak) : ak:=((pa C).wordsC 1).need ((pa C).wordV != 0) 5
def bf (C:ak) : dP:=⟨(sj C).wordV,(pS C).wordV,(pa C).wordV,[]⟩
def fo (s:Int)(C:ak) : Int:=s+(2+2*(pa C).wordV)
def ej (s:Int)(C:ak) : ak:=(fN C).need (decide (fo s C≤245)) 5
def jQ (C:ak) : ak:=(C.bytesC 1).need ((C.byteV%2==1&&decide (3≤C.byteV))&&decide (C.byteV≤((C.bytesC 1).l.length:Int))) 5
def kf (C:ak) : ak:=((jQ C).bytesC 1).need ((jQ C).byteV==6) 9
def fb (C:ak) : ak:=(kf C).wordsC (Int.tdiv (C.byteV-1) 2)
def ex (C:ak) : dP:=⟨0,0,0,(kf C).wordsR (Int.tdiv (C.byteV-1) 2)⟩
def oA (C:ak) : ak:=(fN C).need (decide (2*(pa C).wordV≤((fN C).l.length:Int))) 5
def ij (C:ak) : ak:=(oA C).wordsC (pa C).wordV
def gp (C:ak) : dP:=⟨(sj C).wordV,(pS C).wordV,(pa C).wordV,(oA C).wordsR (pa C).wordV⟩
def rT (g:Nat)(C':ak)(r:dP)(w:World)(e:Ending)(w':World) : Prop:=∃ A c,e = .returned (.agg #[.int .u16 r.file,.int .u16 r.record,.int .u16 r.count,.slice A r.words.length c])∧dE true w' (.slice A r.words.length c) r.words∧dp r.file∧dp r.record∧dp r.count∧ae w' g C'∧ax [g] w w'
theorem jC{g:Nat}{C:ak}{w:World}(hC:ae w g C) : Calls Tryz.prog 125 #[.pointer (some ⟨g,0,none⟩)] w (rT g (fN C) (bf C) w):=by
 have hlen:=hC.len
 refine en 34 Tryz.func125 rfl<|sg<|L0<|bB #[.int .u16 0,.int .u16 0,.int .u16 0,.slice none 0 0] fun Z a0 c B b=>ng<|Pl 2<|?_
 refine L0<|Oc<|m3 (bo (ae.old hC b)) fun a1 D d a2=>Pl 1<|L0<|Oc<|m2 (aM ((C.byteV==6)) 9 D) fun a3 E e=>?_
 refine ab E fun fF F G=>?_
 refine ng<|L0<|bB #[.int .u16 0,.int .u16 0,.int .u16 0,.slice none 0 0] fun a4 a5 f H h=>ng<|Pl 1<|?_
 refine L0<|Oc<|m3 (bj (ae.old G h)) fun a6 I i a7=>Pl 1<|?_
 have a:=nb (ae.lt hC) (le (le b.size d.size) e.size) f
 have j:=aQ i (Ne.symm a) H
 refine L0<|bS j 0 #[.int .u16 fF.wordV,.int .u16 0,.int .u16 0,.slice none 0 0] fun a8 k l=>ng<|Pl 2<|L0<|aU k 0<|Pl 1<|?_
 refine L0<|Oc<|m2 (aM ((fF.wordV != 0)) 6 (ae.upd I l (aa a av) (ah (aF j (by decide)) az))) fun a9 J K=>?_
 refine ab J fun fU L M=>?_
 refine ng<|Pl 1<|L0<|Oc<|m3 (bj M) fun ac N O ad=>Pl 1<|?_
 have m:=u1 K O im
 have n:=aQ m (Ne.symm a) k
 refine L0<|bS n 1 #[.int .u16 fF.wordV,.int .u16 fU.wordV,.int .u16 0,.slice none 0 0] fun af o p=>ng<|Pl 2<|L0<|aU o 1<|Pl 1<|?_
 refine L0<|Oc<|m2 (aM ((decide (fU.wordV≤9999))) 7 (ae.upd N p (aa a av) (ah (aF n (by decide)) az))) fun ag P Q=>?_
 refine ab P fun x61 R S=>?_
 refine ng<|Pl 1<|L0<|Oc<|m3 (bj S) fun ai T U aj=>Pl 1<|?_
 have q:=u1 Q U im
 have r:=aQ q (Ne.symm a) o
 refine L0<|bS r 2 #[.int .u16 fF.wordV,.int .u16 fU.wordV,.int .u16 x61.wordV,.slice none 0 0] fun al s t=>ng<|Pl 2<|L0<|aU s 2<|Pl 1<|?_
 refine L0<|Oc<|m2 (aM ((x61.wordV != 0)) 5 (ae.upd T t (aa a av) (ah (aF r (by decide)) az))) fun am V u=>?_
 refine ab V fun x77 W X=>?_
 refine ng<|?_
 refine L0<|c7 (aQ u (Ne.symm a) s)<|?_
 have v:=u1 d (u1 e (ud h (ui i (ui l (ui m (ui p (ui q (us t u)))))) f) im) im
 have y:=nb (ae.lt hC) lr c
 have z:=aQ v (Ne.symm y) B
 refine L0<|be z #[.int .u16 fF.wordV,.int .u16 fU.wordV,.int .u16 x61.wordV,.slice none 0 0] fun an Y A=>nt<|rt<|sU Y<|?_
 subst W R L F
 exact⟨_,_,rfl,aI.nil ..,aD (x:=((C.bytesC 1).need (C.byteV==6) 9).wordV) (by omega),aD (x:=((((C.bytesC 1).need (C.byteV==6) 9).wordsC 1).need (((C.bytesC 1).need (C.byteV==6) 9).wordV != 0) 6).wordV) (by omega),aD (x:=((((((C.bytesC 1).need (C.byteV==6) 9).wordsC 1).need (((C.bytesC 1).need (C.byteV==6) 9).wordV != 0) 6).wordsC 1).need (decide (((((C.bytesC 1).need (C.byteV==6) 9).wordsC 1).need (((C.bytesC 1).need (C.byteV==6) 9).wordV != 0) 6).wordV≤9999)) 7).wordV) (by omega),(ae.upd X A (aa y av) (ah (aF z (by decide)) az)),(ue b (us v A) c)⟩
theorem mX{g:Nat}{C:ak}{w:World}(hC:ae w g C) : Calls Tryz.prog 128 #[.pointer (some ⟨g,0,none⟩)] w (rT g (fb C) (ex C) w):=by
 have hlen:=hC.len
 refine en 33 Tryz.func128 rfl<|sg<|L0<|bB #[.int .u16 0,.int .u16 0,.int .u16 0,.slice none 0 0] fun R S f i j=>ng<|Pl 1<|?_
 refine L0<|Oc<|m3 (bo (ae.old hC j)) fun T c k U=>L0<|Oi C.byteV<|Pl 1<|ng<|Pl 2<|L0<|Oe (.int .i64 (Int.tmod C.byteV 2)) (.int .i64 (C.byteV%2)) (congrArg (Value.int .i64) (Int.tmod_eq_emod_of_nonneg (by omega)))<|Pl 2<|cu 3 [11] 14 ((((C.byteV%2)==1)&&(decide (3≤C.byteV)))) (fun K m=>?_) ?_
 refine bl 11 (((C.byteV%2)==1)) (fun a=>?_) (fun a=>?_)
 have y:=aB a
 exact Pl 3<|ce m (decide (3≤C.byteV)) (by rw[a];rfl)
 have y:=aH a
 exact Pl 3<|ce m false (by rw[a];rfl)
 refine Pl 1<|cu 5 [15] 20 (((((C.byteV%2)==1)&&(decide (3≤C.byteV)))&&(decide (C.byteV≤(((C.bytesC 1).l.length:Nat) : Int))))) (fun K o=>?_) ?_
 refine bl 15 ((((C.byteV%2)==1)&&(decide (3≤C.byteV)))) (fun b=>?_) (fun b=>?_)
 have z:=(bQ b).1
 have A:=(bQ b).2
 have V:=aB z
 have W:=of_decide_eq_true A
 refine Pl 2<|L1<|Oc<|mq (cy c)<|?_
 have X:=ae.len c
 exact Pl 2<|ce o (decide (C.byteV≤(((C.bytesC 1).l.length:Nat) : Int))) (by rw[b];rfl)
 exact Pl 5<|ce o false (by rw[b];rfl)
 refine L0<|Oc<|m2 (aM (((((C.byteV%2)==1)&&(decide (3≤C.byteV)))&&(decide (C.byteV≤(((C.bytesC 1).l.length:Nat) : Int))))) 5 c) fun Y B p=>?_
 refine ab B fun x28 D E=>?_
 refine ng<|Pl 2<|L0<|Oc<|m3 (bo E) fun Z F q a0=>Pl 1<|L0<|Oc<|m2 (aM ((x28.byteV==6)) 9 F) fun a1 G r=>?_
 refine ab G fun x38 H I=>?_
 refine ng<|Pl 2<|L0<|Oi (C.byteV-1)<|L0<|Oe (.int .i64 (IntKind.i64.wrap (Int.tdiv (C.byteV-1) 2))) (.int .i64 (Int.tdiv (C.byteV-1) 2)) (congrArg (Value.int .i64) (pe (by omega) (by omega)))<|L0<|Oc<|mr (cD (n:=(Int.tdiv (C.byteV-1) 2)) I) fun J L a2 s a3 a4 M N=>?_
 refine ab M fun x48 O P=>?_
 refine Pl 1<|?_
 have t:=u1 k (u1 p (u1 q (u1 r N im) im) im) im
 have u:=nb (ae.lt hC) lr f
 have v:=aQ t (Ne.symm u) i
 refine L0<|be v #[.int .u16 0,.int .u16 0,.int .u16 0,.slice J ((x38.wordsR (Int.tdiv (C.byteV-1) 2)).length) L] fun a5 Q d=>nt<|rt<|sU Q<|?_
 subst O H D
 exact⟨_,_,rfl,((am s d (fun x hx=>(aa (fun e=>(ap (ai i) (le (le (le k.size p.size) q.size) r.size) s) (e▸hx)) av)) (fun _ _ h=>h))).rd,aD (x:=0) (by omega),aD (x:=0) (by omega),aD (x:=0) (by omega),(ae.upd P d (aa u av) (ah (aF v (by decide)) az)),(ue j (us t d) f)⟩
theorem pT{g:Nat}{C:ak}{w:World}(hC:ae w g C) : Calls Tryz.prog 130 #[.pointer (some ⟨g,0,none⟩)] w (rT g (ij C) (gp C) w):=by
 have hlen:=hC.len
 refine en 22 Tryz.func130 rfl<|sg<|L0<|bB #[.int .u16 0,.int .u16 0,.int .u16 0,.slice none 0 0] fun X Y v f i=>ng<|Pl 1<|?_
 refine L0<|Oc<|rY (jC (ae.old hC i)) fun I J Z a0 K L M N c=>?_
 obtain⟨a1,a2⟩:=K
 obtain⟨a3,a4⟩:=L
 obtain⟨a5,a6⟩:=M
 refine L0<|bB #[.int .u16 0,.int .u16 0,.int .u16 0,.slice none 0 0] fun O a7 j y z=>L0<|be y #[.int .u16 ((bf C).file),.int .u16 ((bf C).record),.int .u16 ((bf C).count),.slice I ((bf C).words.length) J] fun a8 P k=>nt<|sq<|Rg 9 (fun w'=>w'.cell? ⟨O,2,none⟩=some (.int .u16 ((bf C).count))) fun a9 d=>?_
 have m:=ub d P
 refine bg (aj m rfl) fun a=>Rt 0 a<|Rt 1 a<|Rl 2 a (fun _ hs=>hs)<|Rr 3 a (.int .i64 ((bf C).count)) (fun _ _=>bX (.int .i64 (IntKind.i64.wrap ((bf C).count))) (by kernel_rfl) (congrArg (Value.int .i64) (i64_in (by omega))))<|Rr 4 a (.int .i64 (2*((bf C).count))) (fun _ _=>bX (.int .i64 (IntKind.i64.wrap (2*((bf C).count)))) (by kernel_rfl) (congrArg (Value.int .i64) (IntWalk.i64_in _ (by omega))))<|Rt 5 a<|?_
 have o:=ud z (aG k d) j
 have p:=ae.old N o
 refine R0 6 rfl<|Oc<|mq (cy p)<|?_
 have ac:=ae.len p
 refine bg (aj m rfl) fun Q=>Rt 7 Q<|R0 8 rfl<|Oc<|m2 (aM ((decide ((2*((bf C).count))≤(((fN C).l.length:Nat) : Int)))) 5 p) fun ad R b=>?_
 refine ab R fun x54 S T=>?_
 have q:=nb (ae.lt hC) (le i.size c.size) j
 have r:=aQ b (Ne.symm q) m
 refine bg (aj r rfl) fun af=>re<|tn<|sg<|Pl 2<|L0<|aU r 2<|L0<|Oi ((bf C).count)<|L0<|Oc<|mr (cD (n:=(bf C).count) T) fun A B ag s al an U t=>Pl 1<|?_
 have D:=aQ t (Ne.symm q) r
 refine L0<|bS D 3 #[.int .u16 ((bf C).file),.int .u16 ((bf C).record),.int .u16 ((bf C).count),.slice A ((x54.wordsR ((bf C).count)).length) B] fun ao V E=>ng<|L0<|c7 V<|?_
 have F:=u1 c (ue o (ui b (us t E)) j) im
 have u:=nb (ae.lt hC) lr v
 refine L0<|be (aQ F (Ne.symm u) f) #[.int .u16 ((bf C).file),.int .u16 ((bf C).record),.int .u16 ((bf C).count),.slice A ((x54.wordsR ((bf C).count)).length) B] fun aq W G=>nt<|rt<|sU W<|?_
 subst S
 have H:=us E G
 exact⟨_,_,rfl,((am s H (fun x hx=>(aa (fun e=>(ap (ai y) (le (le k.size d.size) b.size) s) (e▸hx)) (aa (fun e=>(ap (ai f) (le (le (le (le c.size z.size) k.size) d.size) b.size) s) (e▸hx)) av))) (fun _ _ h=>h))).rd,aD (x:=(bf C).file) (by omega),aD (x:=(bf C).record) (by omega),aD (x:=(bf C).count) (by omega),(ae.upd U H (aa q (aa u av)) (ah (aF D (by decide)) (ah (aF (aQ (u1 c (uz o (u1 b t im)) im) (Ne.symm u) f) (by decide)) az))),(ue i (us F G) v)⟩
theorem kP{n:Int}{w:World}(hn:0≤n∧n<256) : Calls Tryz.prog 126 #[.int .i64 n] w (bi (.bool ((decide (7≤n)&&decide (n≤245))&&n%7==0)) w):=by
 refine en 14 Tryz.func126 rfl<|sg<|Pl 1<|ng<|Pl 3<|cu 3 [5] 8 (((decide (7≤n))&&(decide (n≤245)))) (fun K c=>?_) ?_
 refine bl 5 ((decide (7≤n))) (fun a=>?_) (fun a=>?_)
 have e:=of_decide_eq_true a
 exact Pl 3<|ce c (decide (n≤245)) (by rw[a];rfl)
 have e:=of_decide_eq_false a
 exact Pl 3<|ce c false (by rw[a];rfl)
 refine Pl 1<|cu 4 [9] 13 ((((decide (7≤n))&&(decide (n≤245)))&&((n%7)==0))) (fun K d=>?_) ?_
 refine bl 9 (((decide (7≤n))&&(decide (n≤245)))) (fun b=>?_) (fun b=>?_)
 have f:=(bQ b).1
 have g:=(bQ b).2
 have h:=of_decide_eq_true f
 have i:=of_decide_eq_true g
 exact Pl 1<|L1<|Oe (.int .i64 (Int.tmod n 7)) (.int .i64 (n%7)) (congrArg (Value.int .i64) (Int.tmod_eq_emod_of_nonneg (by omega)))<|Pl 2<|ce d ((n%7)==0) (by rw[b];rfl)
 exact Pl 4<|ce d false (by rw[b];rfl)
 refine Pl 1<|nt<|rt<|rr (.bool (((decide (7≤n))&&(decide (n≤245)))&&((n%7)==0)))<|?_
 exact⟨rfl,(ax.refl [] _)⟩
theorem lV{n:Int}{w:World}(hn:0≤n∧n<256) : Calls Tryz.prog 127 #[.int .i64 n] w (bi (.bool (decide (4≤n)&&decide (n≤245))) w):=by
 refine en 9 Tryz.func127 rfl<|sg<|Pl 1<|ng<|Pl 3<|cu 3 [5] 8 (((decide (4≤n))&&(decide (n≤245)))) (fun K b=>?_) ?_
 refine bl 5 ((decide (4≤n))) (fun a=>?_) (fun a=>?_)
 have c:=of_decide_eq_true a
 exact Pl 3<|ce b (decide (n≤245)) (by rw[a];rfl)
 have c:=of_decide_eq_false a
 exact Pl 3<|ce b false (by rw[a];rfl)
 refine Pl 1<|nt<|rt<|rr (.bool ((decide (4≤n))&&(decide (n≤245))))<|?_
 exact⟨rfl,(ax.refl [] _)⟩
theorem lX{n:Int}{w:World}(hn:0≤n∧n<256) : Calls Tryz.prog 129 #[.int .i64 n] w (bi (.bool (decide (9≤n)&&decide (n≤251))) w):=by
 refine en 9 Tryz.func129 rfl<|sg<|Pl 1<|ng<|Pl 3<|cu 3 [5] 8 (((decide (9≤n))&&(decide (n≤251)))) (fun K b=>?_) ?_
 refine bl 5 ((decide (9≤n))) (fun a=>?_) (fun a=>?_)
 have c:=of_decide_eq_true a
 exact Pl 3<|ce b (decide (n≤251)) (by rw[a];rfl)
 have c:=of_decide_eq_false a
 exact Pl 3<|ce b false (by rw[a];rfl)
 refine Pl 1<|nt<|rt<|rr (.bool ((decide (9≤n))&&(decide (n≤251))))<|?_
 exact⟨rfl,(ax.refl [] _)⟩
theorem fm{e:Int}{w:World}:Calls Tryz.prog 96 #[.int .i64 e] w (bi (.int .i64 (if e==2 then 5 else e)) w):=by
 refine en 6 Tryz.func96 rfl<|sg<|Pl 1<|nt<|sq<|sg<|Pl 2<|nt<|cb ((e==2)) (fun a=>?_) (fun a=>?_)
 have b:=aB a
 refine sg<|Pl 1<|nt<|rt<|tr<|rr (.int .i64 5)<|?_
 have hs:(if e==2 then (5:Int) else e)=5:=by simp only[a,bs,if_true,if_false,decide_true,decide_false,reduceIte]
 rw[hs]
 exact⟨rfl,(ax.refl [] _)⟩
 have b:=aH a
 refine bC<|sg<|Pl 2<|nt<|rt<|rr (.int .i64 e)<|?_
 have hs:(if e==2 then (5:Int) else e)=e:=by simp only[a,bs,if_true,if_false,decide_true,decide_false,reduceIte]
 rw[hs]
 exact⟨rfl,(ax.refl [] _)⟩
open Go.RowKit
structure WF (F:Fence) (n:Nat) (P:Program) (ops:Array Oper) (Q:Exit→Act→World→Prop) (l:List Oper) (a:Act) (w:World) : Prop where
  out:wpListIn F n P ops Q l a w
def dc (F:Fence) : Prop:=F=Fence.wide∨∃ l,F=Fence.wide.inRound l
theorem i5:dc Fence.wide:=.inl rfl
theorem gi(l:Nat) : dc (Fence.wide.inRound l):=.inr ⟨l,rfl⟩
theorem dc.fn{F:Fence}(h:dc F)(f:FuncId) : F.fn f:=by
  rcases h with rfl|⟨l,rfl⟩<;>trivial
theorem dc.depth{F:Fence}(h:dc F) : F.depth=none:=by
  rcases h with rfl|⟨l,rfl⟩<;>rfl
section
variable {F:Fence}{n:Nat}{P:Program}{Q:Exit→Act→World→Prop}{a:Act}{w:World}{K:Act→World→Prop}{ops:Array Oper}{rest:List Oper}{o:Oper}{N:Option Tmp}
theorem sP{f:FuncId}{args:Array Value}{R:Ending→World→Prop}(hF:dc F)(h:Calls P f args w R) : CallsIn F n P f args w R:=by
  rcases hF with rfl|⟨l,rfl⟩
  · exact callsIn_wide.2 h
  · exact CallsIn.inRound l (callsIn_wide.2 h)
theorem tJ{row:String}{args:Array Value}{R:Value→World→Prop}(hF:dc F)(h:Rows P row args w R) : RowsIn F n P row args w R:=by
  have h0:RowsIn Fence.wide n P row args w R:=fun c cs _=>let ⟨v,w',r,s⟩:=h c cs; ⟨v,w',r,stepsIn_wide.2 s⟩
  rcases hF with rfl|⟨l,rfl⟩
  · exact h0
  · exact h0
def dR:Op→Bool
  | .defer _=>false
  | _=>true
theorem vA(hF:dc F)(hd:dR o.op=true)(h:o.wp P a w K Q) : o.wpIn F n P a w K Q:=by
  refine⟨fun f _=>hF.fn f,?_⟩
  rw[Oper.semAt_eq _ _ _ (fun c hc=>by rw[hc] at hd;cases hd)]
  unfold Oper.wp at h
  have hdep:∀ {p:Prop},F.depth.isSome=true→p:=fun h=>by rw[hF.depth] at h;cases h
  generalize (execOp a.eval o).run P w=r at h ⊢
  cases r with
  | ok x w' =>
    cases x<;>simp only[Oper.upon,Oper.uponIn] at h ⊢
    case value u=>exact h
    case skip=>exact h
    case defer d=>exact h
    case enter f args=>exact⟨hdep,sP hF h⟩
    case row row args=>exact⟨hdep,tJ hF h⟩
  | halt x w' =>
    cases x<;>simp only[Oper.upon,Oper.uponIn] at h ⊢
    case panic u=>exact h
theorem vn{id:Nat}{l:List Oper}(n:Nat)(h:WF Fence.wide n P l.toArray Q l a w) : (Code.region id l.toArray false).wp P Q a w:=wpIn_wide.1 (wpIn_region_lit h.out)
theorem u6{id:Nat}{l:List Oper}(h:WF F n P l.toArray Q l a w) : (Code.region id l.toArray false).wpIn F n P Q a w:=wpIn_region_lit h.out
theorem uE(h:Q .normal a w) : WF F n P ops Q [] a w:=⟨h⟩
theorem v4(hF:dc F)(hd:dR o.op=true)(hw:Region.wanted o (yielded ops a.tmps)=true)(h:OW P o a w (WF F n P ops Q rest) Q) : WF F n P ops Q (o :: rest) a w:=by
  refine⟨?_⟩
  unfold wpListIn
  rw[if_pos hw]
  exact vA hF hd (eX h fun _ _ h=>h.out)
theorem uN(hF:dc F)(hw:Region.wanted o (yielded ops a.tmps)=false)(hN:o.dst=N)(h:WF F n P ops Q rest (a.put N undef) w) : WF F n P ops Q (o :: rest) a w:=by
  subst hN
  refine⟨?_⟩
  unfold wpListIn
  rw[if_neg (by simp[hw])]
  exact⟨fun f _=>hF.fn f,h.out⟩
theorem sl{x:Operand}{opds:Array Operand}{ts:Array TypeId}{l:Nat}{r:Loop}(args:Array Value)(hw:Region.wanted o (yielded ops a.tmps)=true)(hN:o.dst=N)(hop:o.op = .call { callee:=.value x,args:=opds,argTypes:=ts })
    (hx:a.eval x = .func (.yield l) #[] #[]) (hargs:opds.map a.eval=args) (hl:w.heap[l]? = some (.loop r)) (hs:args.size=r.params.size)
    (h:RoundIn Fence.wide (n-1) P l r.fn ((r.params.zip args).foldl (fun tmps (t,a)=>tmps.setIfInBounds t a) r.tmps) r.assign r.body w (fun e w'=>∃ v,e = .returned v∧WF Fence.wide n P ops Q rest (a.put N v) w')) : WF Fence.wide n P ops Q (o :: rest) a w:=by
  subst hN
  refine⟨?_⟩
  unfold wpListIn
  rw[if_pos hw]
  refine⟨fun f _=>trivial,?_⟩
  have hrun:(o.semAt Fence.wide.round a.eval).run P w = .ok (.round l r.fn ((r.params.zip args).foldl (fun tmps (t,a)=>tmps.setIfInBounds t a) r.tmps) r.assign r.body) w:=by
    show(execOp a.eval o).run P w=_
    unfold execOp
    simp only[hop,resolve,hx,Deferred.ofValue,Sem.run_bind,Sem.run_pure,Result.andThen_ok,invoke,hargs]
    have:=run_yield (P:=P) (args:=args) hl hs
    simpa using this
  rw[hrun,Oper.uponIn_round]
  refine⟨(by simp[Fence.wide]),h.mono fun e w' hh=>?_⟩
  obtain⟨v,rfl,h2⟩:=hh
  exact h2.out
end
theorem rc{P:Program}{n:Nat}{ops:Array Oper}{Q:Exit→Act→World→Prop}{rest:List Oper}{o:Oper}{a:Act}{w:World}{N:Option Tmp}{x:Operand}{opds:Array Operand}{ts:Array TypeId}{l:Nat}{r:Loop}(v:Value)(p:Tmp)(hw:Region.wanted o (yielded ops a.tmps)=true)(hN:o.dst=N)(hop:o.op = .call { callee:=.value x,args:=opds,argTypes:=ts })
    (hx:a.eval x = .func (.yield l) #[] #[]) (hargs:opds.map a.eval = #[v]) (hl:w.heap[l]? = some (.loop r)) (hp:r.params = #[p])
    (h:RoundIn Fence.wide (n-1) P l r.fn (r.tmps.setIfInBounds p v) r.assign r.body w (fun e w'=>∃ u,e = .returned u∧WF Fence.wide n P ops Q rest (a.put N u) w')) : WF Fence.wide n P ops Q (o :: rest) a w:=by
  refine sl #[v] hw hN hop hx hargs hl (by rw[hp];rfl) ?_
  have:((r.params.zip #[v]).foldl (fun tmps (t,a)=>tmps.setIfInBounds t a) r.tmps)=r.tmps.setIfInBounds p v:=by rw[hp];simp
  rw[this]
  exact h
theorem eb{w:World}{l:Nat}(o:Go.Obj) : ax [l] w (w.putObj l o) :=
  ⟨rfl,rfl,rfl,by simp[World.putObj],fun k hk hn=>World.putObj_heap_other (by simpa using hn)⟩
theorem gS{w:World}{l:Nat}{o:Go.Obj}(o':Go.Obj)(h:w.heap[l]? = some o) : (w.putObj l o').heap[l]? = some o':=World.putObj_heap_same (ai h)
def fJ:Go.Obj→Bool
  | .cells ..=>false
  | _=>true
theorem aI.updl{α:Type}{m:Bool}{e:TypeId}{sz:Nat}{R:World→α→List Value→Prop}{w w':World}{v:Value}{xs:List α}{l:Nat}{o:Go.Obj}
    (h:aI m e sz R w v xs) (hu:ax [l] w w') (hl:w.heap[l]? = some o) (ho:fJ o=true) (hR:∀ x cs,R w x cs→R w' x cs) : aI m e sz R w' v xs:=by
  obtain⟨A,c,rfl,h1,h2,h0,h3⟩:=h
  refine⟨A,c,rfl,h1,h2,h0,fun hp=>?_⟩
  obtain⟨b,off,cells,t,fr,rfl,hb,ht,hx⟩:=h3 hp
  refine⟨b,off,cells,t,fr,rfl,?_,ht,fun j x hj=>?_⟩
  · refine hu.blk (fun hbs=>?_) hb
    simp at hbs
    subst hbs
    rw[hl] at hb
    injection hb with hb
    subst hb
    cases ho
  · obtain⟨cs,hl,hr,hc⟩:=hx j x hj
    exact⟨cs,hl,hR _ _ hr,hc⟩
theorem aN.updl{m:Bool}{w w':World}{v:Value}{xs:List Int}{l:Nat}{o:Go.Obj}(h:aN m w v xs)(hu:ax [l] w w')(hl:w.heap[l]? = some o)(ho:fJ o=true) : aN m w' v xs:=aI.updl h hu hl ho fun _ _ h=>h
theorem dE.updl{m:Bool}{w w':World}{v:Value}{xs:List Int}{l:Nat}{o:Go.Obj}(h:dE m w v xs)(hu:ax [l] w w')(hl:w.heap[l]? = some o)(ho:fJ o=true) : dE m w' v xs:=aI.updl h hu hl ho fun _ _ h=>h
theorem bp.updl{m:Bool}{w w':World}{l:Nat}{o:Go.Obj}(hu:ax [l] w w')(hl:w.heap[l]? = some o)(ho:fJ o=true)(r:dP)(cs:List Value)(h:bp m w r cs) : bp m w' r cs:=by
  obtain⟨v,h1,h2,h3⟩:=h
  exact⟨v,h1,dE.updl h2 hu hl ho,h3⟩
theorem ae.updl{w w':World}{g:Nat}{c:ak}{l:Nat}{o:Go.Obj}(h:ae w g c)(hu:ax [l] w w')(hg:g∉[l])(hl:w.heap[l]? = some o)(ho:fJ o=true) : ae w' g c:=by
  obtain⟨v,hb,hr,hn⟩:=h
  exact⟨v,hu.blk hg hb,hr.updl hu hl ho,hn⟩
theorem oy{n:Nat}{P:Program}{l:Nat}{f:FuncId}{tmps:Array Value}{assign body:Code}{w:World}{r:Loop}{R:Ending→World→Prop}
    (h:assign.wpIn (Fence.wide.inRound l) n P (Exit.then (fun a₁ w₁=>w₁.heap[l]? = some (.loop r)∧r.state = .ready∧∀ w₂,w₂.heap[l]? = some (.loop { r with state:=.busy })→ax [l] w₁ w₂ →
      body.wpIn (Fence.wide.inRound l) n P (Exit.then (fun _ w₃=>∃ r',w₃.heap[l]? = some (.loop r')∧∀ w₄,w₄.heap[l]? = some (.loop { r' with state:=.ready,pending:=none })→ax [l] w₃ w₄→R (.returned (.bool true)) w₄) (fun _ _ _=>False)) a₁ w₂) (fun _ _ _=>False)) { tmps:=tmps,defers:=[] } w) :
    RoundIn Fence.wide n P l f tmps assign body w R:=by
  refine roundIn_of_wpIn trivial (Code.wpIn_mono (fun e a w q=>?_) h)
  cases e with
  | normal =>
    obtain⟨h1,h2,h3⟩:=q
    refine⟨_,run_beginRound h1 h2,Code.wpIn_mono (fun e a w q=>?_) (h3 _ (gS _ h1) (eb _))⟩
    cases e with
    | normal =>
      obtain⟨r',h4,h5⟩:=q
      exact⟨_,_,run_endRound none h4,h5 _ (gS _ h4) (eb _)⟩
    | _=>exact q.elim
  | _=>exact q.elim
theorem gT{n:Nat}{P:Program}{l:Nat}{f:FuncId}{tmps:Array Value}{assign body:Code}{w:World}{r:Loop}{R:Ending→World→Prop}
    (hl:w.heap[l]? = some (.loop r))
    (h:assign.wpIn (Fence.wide.inRound l) n P (Exit.then (fun a₁ w₁=>w₁.heap[l]? = some (.loop r)∧r.state = .ready∧∀ w₂,w₂.heap[l]? = some (.loop { r with state:=.busy })→ax [l] w₁ w₂ →
      body.wpIn (Fence.wide.inRound l) n P (Exit.then (fun _ w₃=>∃ r',w₃.heap[l]? = some (.loop r')∧∀ w₄,w₄.heap[l]? = some (.loop { r' with state:=.ready,pending:=none })→ax [l] w₃ w₄→R (.returned (.bool true)) w₄) (fun _ _ _=>False)) a₁ w₂) (fun _ _ _=>False)) { tmps:=tmps,defers:=[] } w) :
    RoundIn Fence.wide n P l f tmps assign body w R:=oy h
theorem pK{P:Program}{Q:Exit→Act→World→Prop}{a:Act}{w:World}{g:Operand}{ps:Array Tmp}{assign body:Code}{f:FuncId}{fn:Func}(cap:Array Value)
    (hx : a.eval g = .func (.func f) #[] cap) (hf : P.funcs[f]? = some fn) (hname : (fn.name == "runtime.NumGoroutine") = false) (hb : fn.body.isSome = true)
    (h:∀ fn0 D l w₂,w.heap.size≤D→w.heap.size≤l→D≠l→w₂.heap[D]? = some (.deferred (some []))→w₂.heap[l]? = some (.loop { state:=.ready,pending:=none,fn:=fn0,tmps:=a.tmps,params:=ps,assign:=assign,body:=body,defers:=D })→ax [] w w₂ →
      Calls P f (#[.func (.yield l) #[] #[]]++cap) w₂ (fun e w₃=>∃ v r',e = .returned v∧w₃.heap[l]? = some (.loop r')∧r'.state≠.busy∧r'.pending=none∧∀ w₄,ax [l] w₃ w₄→Q .normal { a with defers:={ target:=.collected D,args:=#[] } :: a.defers } w₄)) :
    (Code.rangeFunc g ps assign body).wp P Q a w:=by
  refine(wpIn_wide (n:=9)).1 (wpIn_rangeFunc fun fn0 _=>?_)
  have h1 : fn.name ≠ "runtime.NumGoroutine" := by simpa using hname
  obtain⟨cd,hcd⟩:=Option.isSome_iff_exists.1 hb
  refine⟨w.heap.size+1,[{ target:=.collected w.heap.size,args:=#[] }],((w.alloc (.deferred (some []))).alloc (.loop { state:=.ready,pending:=none,fn:=fn0,tmps:=a.tmps,params:=ps,assign:=assign,body:=body,defers:=w.heap.size })),
    { target:=.fn (.func f) cap,args:=#[]++#[.func (.yield (w.heap.size+1)) #[] #[]] },((w.alloc (.deferred (some []))).alloc (.loop { state:=.ready,pending:=none,fn:=fn0,tmps:=a.tmps,params:=ps,assign:=assign,body:=body,defers:=w.heap.size })),
    f,#[.func (.yield (w.heap.size+1)) #[] #[]]++cap,((w.alloc (.deferred (some []))).alloc (.loop { state:=.ready,pending:=none,fn:=fn0,tmps:=a.tmps,params:=ps,assign:=assign,body:=body,defers:=w.heap.size })),run_enterLoop_outer fn0 a.tmps ps assign body,?_,fun _ _=>trivial,?_,by simp[Fence.wide],?_⟩
  · unfold resolve
    simp only[rangeCall,hx,Deferred.ofValue,Sem.run_pure,List.map_toArray,List.map_cons,List.map_nil]
    rfl
  · simp[invoke,callFunc,hf,h1,hcd]
  · have hD:((w.alloc (.deferred (some []))).alloc (.loop { state:=.ready,pending:=none,fn:=fn0,tmps:=a.tmps,params:=ps,assign:=assign,body:=body,defers:=w.heap.size })).heap[w.heap.size]? = some (.deferred (some [])):=rk (cQ w _) _
    have hl:((w.alloc (.deferred (some []))).alloc (.loop { state:=.ready,pending:=none,fn:=fn0,tmps:=a.tmps,params:=ps,assign:=assign,body:=body,defers:=w.heap.size })).heap[w.heap.size+1]? = some (.loop { state:=.ready,pending:=none,fn:=fn0,tmps:=a.tmps,params:=ps,assign:=assign,body:=body,defers:=w.heap.size }):=by
      have:=cQ (w.alloc (.deferred (some []))) (.loop { state:=.ready,pending:=none,fn:=fn0,tmps:=a.tmps,params:=ps,assign:=assign,body:=body,defers:=w.heap.size })
      simpa using this
    refine callsIn_wide.2 ((h fn0 w.heap.size (w.heap.size+1) _ (Nat.le_refl _) (by omega) (by omega) hD hl (((ax.refl [] w).alloc _).alloc _)).mono ?_)
    rintro e w₃ ⟨v,r',rfl,h3,h4,h5,h6⟩
    refine⟨_,_,run_endLoop h3 h4,?_⟩
    rw[h5]
    exact h6 _ (eb _)
theorem kB{P:Program}{f:FuncId}{fn:Func}{c:Code}{args:Array Value}{w:World}{R:Ending→World→Prop}(hf:P.funcs[f]? = some fn)(hb:fn.body=some c)
    (h:c.wp P (bodyPostM Fence.wide 9 P fn R) { tmps:=args++Array.replicate (fn.ntmps-args.size) undef,defers:=[] } w) : Calls P f args w R :=
  callsIn_wide.1 (callsIn_of_wp_marks hf hb trivial (wpIn_wide.2 h) rfl)
theorem sD{P:Program}{fn:Func}{R:Ending→World→Prop}{a:Act}{w:World}{D:Nat}(hd:a.defers=[{ target:=.collected D,args:=#[] }])(hD:w.heap[D]? = some (.deferred (some [])))
    (h:∀ w',ax [D] w w'→∃ v,(results fn a.tmps).run P w' = .ok v w'∧R (.returned v) w') : bodyPostM Fence.wide 9 P fn R .ret a w:=by
  show LeavesInM Fence.wide 9 P fn a.tmps R a.defers .returning w
  rw[hd]
  exact⟨by simp,.inl ⟨D,_,rfl,run_takeDeferred hD,h _ (eb _)⟩⟩
theorem qp{P:Program}{fn:Func}{R:Ending→World→Prop}{a:Act}{w:World}(hd:a.defers=[])(h:∃ v,(results fn a.tmps).run P w = .ok v w∧R (.returned v) w) : bodyPostM Fence.wide 9 P fn R .ret a w:=by
  show LeavesInM Fence.wide 9 P fn a.tmps R a.defers .returning w
  rw[hd]
  exact h
open Go.RowKit
structure GF (E:Fence) (m:Nat) (P:Program) (ops:Array Oper) (Q:Exit→Act→World→Prop) (l:List Oper) (n:Nat) (D:List Deferred) (F:Fr) (w:World) : Prop where
  out:∀ a,Ag n D F a→WF E m P ops Q l a w
structure GI (E:Fence) (m:Nat) (P:Program) (c:Code) (Q:Exit→Act→World→Prop) (n:Nat) (D:List Deferred) (F:Fr) (w:World) : Prop where
  out:∀ a,Ag n D F a→c.wpIn E m P Q a w
section
variable {E:Fence}{m:Nat}{P:Program}{Q:Exit→Act→World→Prop}{n:Nat}{D:List Deferred}{F:Fr}{w:World}{ops:Array Oper}{rest l:List Oper}{d:Option Tmp}{op:Op}{t:TypeId}{s:String}{af:Array Edge}{gu:Option (Nat × Bool)}{x y c:Code}{id:Nat}
theorem ul(m:Nat)(h:GF Fence.wide m P l.toArray Q l n D F w) : GC P (.region id l.toArray false) Q n D F w:=⟨fun a ha=>vn m (h.out a ha)⟩
theorem sX(h:GF E m P l.toArray Q l n D F w) : GI E m P (.region id l.toArray false) Q n D F w:=⟨fun a ha=>u6 (h.out a ha)⟩
theorem u0(h:GI E m P c (Exit.inBlock id Q) n D F w) : GI E m P (.block id c) Q n D F w:=⟨fun a ha=>wpIn_block (h.out a ha)⟩
theorem ol(h:GQ Q .normal n D F w) : GF E m P ops Q [] n D F w:=⟨fun a ha=>uE (h.out a ha)⟩
theorem vc(hE:dc E)(h:OG P ⟨d,op,t,s,af,gu⟩ n D F w (GF E m P ops Q rest n D) Q)(hw:gG ops F gu=(true,true))(hd:dR op=true) : GF E m P ops Q (⟨d,op,t,s,af,gu⟩ :: rest) n D F w :=
  ⟨fun a ha=>v4 hE hd (dG ha hw) (h.out a ha _ fun F' w' a' k ha'=>k.out a' ha')⟩
theorem v9(hE:dc E){o:Oper}(h:GF E m P ops Q rest n D (lS P ops w F o) w)(hc:rC P ops w n 1 (o :: rest) F=rA P ops w 1 (o :: rest) F)(hd:dR o.op=true) : GF E m P ops Q (o :: rest) n D F w:=by
  simp only[rC,rA,List.cons.injEq,Prod.mk.injEq,Bool.and_eq_true] at hc
  obtain⟨⟨⟨h1,h2,h3⟩,h4⟩,h5⟩:=hc
  refine⟨fun a ha=>?_⟩
  cases hon:(gG ops F o.guard).2 with
  | true =>
    rw[hon] at h3 h4
    simp only[cond_true] at h3 h4
    have hst:lS P ops w F o=pt o.dst (vo P w F o) F:=by simp[lS,hon]
    rw[hst] at h
    exact v4 hE hd (dG ha (Prod.ext h1 hon)) (dy (N:=o.dst) (vo P w F o) rfl (by rw[← eY ha h3];exact h4) (h.out _ (ha.put h2)))
  | false =>
    have hst:lS P ops w F o=pt o.dst undef F:=by simp[lS,hon]
    rw[hst] at h
    exact uN (N:=o.dst) hE (dG ha (Prod.ext h1 hon)) rfl (h.out _ (ha.put h2))
theorem F0(h:OG P ⟨d,op,t,s,af,gu⟩ n D F w (GF Fence.wide m P ops Q rest n D) Q)(hw:gG ops F gu=(true,true):=by kernel_rfl)(hd:dR op=true:=by kernel_rfl) : GF Fence.wide m P ops Q (⟨d,op,t,s,af,gu⟩ :: rest) n D F w:=vc i5 h hw hd
theorem io{q:Nat}(h:OG P ⟨d,op,t,s,af,gu⟩ n D F w (GF (Fence.wide.inRound q) m P ops Q rest n D) Q)(hw:gG ops F gu=(true,true):=by kernel_rfl)(hd:dR op=true:=by kernel_rfl) : GF (Fence.wide.inRound q) m P ops Q (⟨d,op,t,s,af,gu⟩ :: rest) n D F w:=vc (gi _) h hw hd
theorem Fp{o:Oper}(h:GF Fence.wide m P ops Q rest n D (lS P ops w F o) w)(hc:rC P ops w n 1 (o :: rest) F=rA P ops w 1 (o :: rest) F:=by kernel_rfl)(hd:dR o.op=true:=by kernel_rfl) : GF Fence.wide m P ops Q (o :: rest) n D F w:=v9 i5 h hc hd
theorem sY{q:Nat}{o:Oper}(h:GF (Fence.wide.inRound q) m P ops Q rest n D (lS P ops w F o) w)(hc:rC P ops w n 1 (o :: rest) F=rA P ops w 1 (o :: rest) F:=by kernel_rfl)(hd:dR o.op=true:=by kernel_rfl) : GF (Fence.wide.inRound q) m P ops Q (o :: rest) n D F w:=v9 (gi _) h hc hd
theorem uQ(j:Nat)(e:Bool)(ht:e=true→GF E m P ops Q l n D ((j,.bool true) :: F) w)(hf:e=false→GF E m P ops Q l n D ((j,.bool false) :: F) w)(hv:lk F j=some (.bool e):=by kernel_rfl) : GF E m P ops Q l n D F w:=by
  refine⟨fun a ha=>?_⟩
  have key:∀ b,e=b→Ag n D ((j,.bool b) :: F) a:=fun b hb=>⟨ha.sz,ha.df,fun i v hi=>by
    rcases e8 hi with⟨rfl,rfl⟩|⟨_,h2⟩
    · rw[← hb];exact ha.at_ _ _ hv
    · exact ha.at_ _ _ h2⟩
  rcases e7 e with q|q
  · exact(ht q).out a (key _ q)
  · exact(hf q).out a (key _ q)
theorem Fy{x:Operand}{opds:Array Operand}{ts:Array TypeId}{q:Nat}{r:Loop}(v:Value)(p:Tmp)(hl:w.heap[q]? = some (.loop r))(hp:r.params = #[p])
    (h:RoundIn Fence.wide (m-1) P q r.fn (r.tmps.setIfInBounds p v) r.assign r.body w (fun e w'=>∃ u,e = .returned u∧GF Fence.wide m P ops Q rest n D (pt d u F) w'))
    (hw:gG ops F gu=(true,true):=by kernel_rfl) (hx:cY F x=some (.func (.yield q) #[] #[]):=by kernel_rfl) (ha:opds.toList.map (cY F)=[some v]:=by kernel_rfl) (hd:dA n d=true:=by kernel_rfl) :
    GF Fence.wide m P ops Q (⟨d,.call { callee:=.value x,args:=opds,argTypes:=ts },t,s,af,gu⟩ :: rest) n D F w :=
  ⟨fun a hag=>rc v p (dG hag hw) rfl rfl (hag.ev hx) (by apply Array.toList_inj.1;rw[Array.toList_map];exact gB (vs:=[v]) hag ha) hl hp (h.mono fun e w' hh=>by
    obtain⟨u,rfl,hk⟩:=hh
    exact⟨u,rfl,hk.out _ (hag.put hd)⟩)⟩
theorem lA{g:Operand}{ps:Array Tmp}{assign body:Code}{f:FuncId}(cap:Array Value)
    (h:∀ a,Ag n D F a→∀ fn0 D' q w₂,w.heap.size≤D'→w.heap.size≤q→D'≠q→w₂.heap[D']? = some (.deferred (some []))→w₂.heap[q]? = some (.loop { state:=.ready,pending:=none,fn:=fn0,tmps:=a.tmps,params:=ps,assign:=assign,body:=body,defers:=D' })→ax [] w w₂ →
      Calls P f (#[.func (.yield q) #[] #[]]++cap) w₂ (fun e w₃=>∃ v r',e = .returned v∧w₃.heap[q]? = some (.loop r')∧r'.state≠.busy∧r'.pending=none∧∀ w₄,ax [q] w₃ w₄→GQ Q .normal n ({ target:=.collected D',args:=#[] } :: D) F w₄))
    (hx:cY F g=some (.func (.func f) #[] cap):=by kernel_rfl) (hf:sR P f=some (false,true):=by kernel_rfl) : GC P (.rangeFunc g ps assign body) Q n D F w:=by
  obtain⟨fn,h1,h2,h3⟩:=fH hf
  refine⟨fun a ha=>pK cap (ha.ev hx) h1 h2 h3 fun fn0 D' q w₂ g1 g2 g3 g4 g5 g6=>(h a ha fn0 D' q w₂ g1 g2 g3 g4 g5 g6).mono fun e w₃ hh=>?_⟩
  obtain⟨v,r',k1,k2,k3,k4,k5⟩:=hh
  exact⟨v,r',k1,k2,k3,k4,fun w₄ hu=>(k5 w₄ hu).out _ ⟨ha.sz,by rw[ha.df],ha.at_⟩⟩
theorem u4{a:Act}(ha:Ag n D F a)(p:Tmp){v:Value}(h:GI E m P c Q n [] ((p,v) :: F) w)(hp:Nat.blt p n=true:=by kernel_rfl) : c.wpIn E m P Q { tmps:=a.tmps.setIfInBounds p v,defers:=[] } w:=by
  have h0:Ag n [] F { tmps:=a.tmps,defers:=[] }:=⟨ha.sz,rfl,ha.at_⟩
  exact h.out _ (h0.put (d:=some p) hp)
theorem tX{r:Loop}{q:Nat}{c:Code}{Qb:Exit→Act→World→Prop}(h1:w.heap[q]? = some (.loop r))(h2:r.state = .ready)(h:∀ w₂,w₂.heap[q]? = some (.loop { r with state:=.busy })→ax [q] w w₂→GI E m P c Qb n D F w₂) :
    GQ (Exit.then (fun a₁ w₁=>w₁.heap[q]? = some (.loop r)∧r.state = .ready∧∀ w₂,w₂.heap[q]? = some (.loop { r with state:=.busy })→ax [q] w₁ w₂→c.wpIn E m P Qb a₁ w₂) Q) .normal n D F w:=⟨fun a ha=>⟨h1,h2,fun w₂ k1 k2=>(h w₂ k1 k2).out a ha⟩⟩
theorem uj{r:Loop}{q:Nat}{Z:World→Prop}(h1:w.heap[q]? = some (.loop r))(h:∀ w₄,w₄.heap[q]? = some (.loop { r with state:=.ready,pending:=none })→ax [q] w w₄→Z w₄) :
    GQ (Exit.then (fun _ w₃=>∃ r',w₃.heap[q]? = some (.loop r')∧∀ w₄,w₄.heap[q]? = some (.loop { r' with state:=.ready,pending:=none })→ax [q] w₃ w₄→Z w₄) Q) .normal n D F w:=⟨fun a ha=>⟨r,h1,h⟩⟩
end
section
variable {P:Program}{n:Nat}{F:Fr}{w:World}{fn:Func}{R:Ending→World→Prop}
theorem sS{f:FuncId}{c:Code}{args:List Value}{w:World}(n:Nat)(hf:P.funcs[f]? = some fn)(hb:fn.body=some c)
    (h:GC P c (bodyPostM Fence.wide 9 P fn R) n [] (oF 0 args) w) (hn:args.length+(fn.ntmps-args.length)=n:=by kernel_rfl) : Calls P f args.toArray w R:=by
  subst hn
  exact kB hf hb (by simpa using h.out _ (v8 (args:=args) (m:=fn.ntmps-args.length)))
theorem sW{D:Nat}(hD:w.heap[D]? = some (.deferred (some [])))(h:∀ w',ax [D] w w'→GQ (fun _ a w'=>∃ v,(results fn a.tmps).run P w' = .ok v w'∧R (.returned v) w') .ret n [{ target:=.collected D,args:=#[] }] F w') : GQ (bodyPostM Fence.wide 9 P fn R) .ret n [{ target:=.collected D,args:=#[] }] F w :=
  ⟨fun a ha=>sD ha.df hD fun w' hu=>(h w' hu).out a ha⟩
theorem rx{D:List Deferred}{g:Nat}{cs:Array Value}{t:TypeId}{fr:Nat × Nat}(B:w.heap[g]? = some (.cells cs t fr))(u:Value)(h:R (.returned (.tuple #[.agg cs,u])) w)(hc:sZ P fn.results F=some (some (.pointer (some ⟨g,0,none⟩)),some u,some true,some cs.size):=by kernel_rfl) : GQ (fun _ a w'=>∃ v,(results fn a.tmps).run P w' = .ok v w'∧R (.returned v) w') .ret n D F w :=
  ⟨fun a ha=>⟨_,gC ha B rfl hc,h⟩⟩
theorem ry{g:Nat}{cs:Array Value}{t:TypeId}{fr:Nat × Nat}(B:w.heap[g]? = some (.cells cs t fr))(u:Value)(h:R (.returned (.tuple #[.agg cs,u])) w)(hc:sZ P fn.results F=some (some (.pointer (some ⟨g,0,none⟩)),some u,some true,some cs.size):=by kernel_rfl) : GQ (bodyPostM Fence.wide 9 P fn R) .ret n [] F w :=
  ⟨fun a ha=>qp ha.df ⟨_,gC ha B rfl hc,h⟩⟩
end
open Go.RowKit
def sG (mk:Nat→Value)(w:World)(e:Ending)(w':World) : Prop:=∃ gs,e = .returned (.tuple #[mk gs,.bool true])∧w.heap.size≤gs∧w'.heap[gs]? = some (.cells #[.int .i64 0] 3 (0,0))∧ax [] w w'
def uA (gs:Nat) : Value:=.agg #[.func (.func 126) #[] #[],.func (.func 124) #[] #[.pointer (some ⟨gs,0,none⟩)]]
def uU (gs:Nat) : Value:=.agg #[.func (.func 127) #[] #[],.func (.func 128) #[] #[]]
def un (gs:Nat) : Value:=.agg #[.func (.func 129) #[] #[],.func (.func 130) #[] #[]]
theorem qS{w:World}:Calls Tryz.prog 91 #[.int .i64 0,.int .u8 20] w (sG uA w):=by
 refine en 27 Tryz.func91 rfl<|sg<|L0<|bB #[.nilFunc,.nilFunc] fun m n g b c=>Pl 1<|ng<|L0<|bB #[.int .i64 0] fun d o a h i=>L0<|bS h 0 #[.int .i64 0] fun p j k=>nt<|sq<|?_
 refine go<|Pl 2<|nt<|sq<|bk<|sg<|Pl 7<|nt<|c1<|sg<|?_
 refine Pl 2<|?_
 have e:=ud i k a
 refine L0<|be (ub e b) #[.func (.func 126) #[] #[],.func (.func 124) #[] #[.pointer (some ⟨d,0,none⟩)]] fun q l f=>Pl 1<|nt<|rt<|br<|tr<|c9 l (.bool true)<|?_
 exact⟨d,rfl,(Nat.le_trans c.size a),(aQ f (Ne.symm (nb (ai b) lr a)) j),(ud c (uz e f) g)⟩
theorem qX{w:World}:Calls Tryz.prog 91 #[.int .i64 1,.int .u8 20] w (sG uU w):=by
 refine en 27 Tryz.func91 rfl<|sg<|L0<|bB #[.nilFunc,.nilFunc] fun m n f b c=>Pl 1<|ng<|L0<|bB #[.int .i64 0] fun g o a h i=>L0<|bS h 0 #[.int .i64 0] fun p j k=>nt<|sq<|?_
 refine go<|Pl 2<|nt<|sq<|bk<|sg<|Pl 7<|nt<|c0<|sg<|?_
 refine Pl 3<|nt<|c1<|sg<|Pl 1<|?_
 have d:=ud i k a
 refine L0<|be (ub d b) #[.func (.func 127) #[] #[],.func (.func 128) #[] #[]] fun q l e=>Pl 1<|nt<|rt<|br<|tr<|c9 l (.bool true)<|?_
 exact⟨g,rfl,(Nat.le_trans c.size a),(aQ e (Ne.symm (nb (ai b) lr a)) j),(ud c (uz d e) f)⟩
theorem r9{dir:Int}{w:World}:Calls Tryz.prog 91 #[.int .i64 dir,.int .u8 21] w (sG un w):=by
 refine en 27 Tryz.func91 rfl<|sg<|L0<|bB #[.nilFunc,.nilFunc] fun m n f b c=>Pl 1<|ng<|L0<|bB #[.int .i64 0] fun g o a h i=>L0<|bS h 0 #[.int .i64 0] fun p j k=>nt<|sq<|?_
 refine go<|Pl 2<|nt<|sq<|bk<|sg<|Pl 7<|nt<|c0<|sg<|?_
 refine Pl 3<|nt<|c0<|sg<|Pl 3<|nt<|c1<|sg<|Pl 1<|?_
 have d:=ud i k a
 refine L0<|be (ub d b) #[.func (.func 129) #[] #[],.func (.func 130) #[] #[]] fun q l e=>Pl 1<|nt<|rt<|br<|tr<|c9 l (.bool true)<|?_
 exact⟨g,rfl,(Nat.le_trans c.size a),(aQ e (Ne.symm (nb (ai b) lr a)) j),(ud c (uz d e) f)⟩
theorem ku{dir x:Int}{w:World}(n1:(x==20)=false)(n2:(x==21)=false) : Calls Tryz.prog 91 #[.int .i64 dir,.int .u8 x] w (bi (.tuple #[.agg #[.nilFunc,.nilFunc],.bool false]) w):=by
 refine en 27 Tryz.func91 rfl<|sg<|L0<|bB #[.nilFunc,.nilFunc] fun k l b c d=>Pl 1<|ng<|L0<|bB #[.int .i64 0] fun m n e f g=>L0<|bS f 0 #[.int .i64 0] fun o p h=>nt<|sq<|?_
 refine go<|Pl 2<|nt<|sq<|bk<|sg<|Pl 3<|sy 12 n1<|Pl 4<|nt<|c0<|?_
 refine sg<|Pl 3<|nt<|cf n1<|sg<|Pl 3<|nt<|cf n2<|sk<|bn<|?_
 refine tn<|sg<|Pl 1<|?_
 have a:=ud g h e
 refine L0<|be (ub a c) #[.nilFunc,.nilFunc] fun q i j=>Pl 1<|nt<|rt<|c9 i (.bool false)<|?_
 exact⟨rfl,(ud d (uz a j) b)⟩
theorem hZ{gb:Nat}{f:Fn}{x y:Array Value}{w:World}:Calls Tryz.prog 95 #[.pointer (some ⟨gb,0,none⟩),.func f x y] w (fun e w'=>∃ b1 b2,e = .returned (.func (.func 131) #[] #[.pointer (some ⟨b1,0,none⟩),.pointer (some ⟨b2,0,none⟩)])∧w.heap.size≤b1∧w.heap.size≤b2∧b1≠b2 ∧
      w'.heap[b1]? = some (.cells #[.pointer (some ⟨gb,0,none⟩)] 143 (0,0))∧w'.heap[b2]? = some (.cells #[.func f x y] 158 (0,0))∧ax [] w w'):=by
 refine en 6 Tryz.func95 rfl<|sg<|L0<|cS #[.pointer (some ⟨gb,0,none⟩)] fun a k i b c=>L0<|cS #[.func f x y] fun d l g j h=>Pl 1<|ng<|Pl 2<|nt<|rt<|?_
 refine rr (.func (.func 131) #[] #[.pointer (some ⟨a,0,none⟩),.pointer (some ⟨d,0,none⟩)])<|?_
 exact⟨a,d,rfl,i,(Nat.le_trans c.size g),(nb (ai b) lr g),(ub h b),j,(aG c h)⟩
theorem mN{g gs:Nat}{s:Int}{C:ak}{w:World}(hC:ae w g C)(hS:w.heap[gs]? = some (.cells #[.int .i64 s] 3 (0,0)))(hne:g≠gs)(hs:0≤s∧s≤1000000000000) :
    Calls Tryz.prog 124 #[.pointer (some ⟨g,0,none⟩),.pointer (some ⟨gs,0,none⟩)] w (fun e w'=>∃ A c,e = .returned (.agg #[.int .u16 (bf C).file,.int .u16 (bf C).record,.int .u16 (bf C).count,.slice A (bf C).words.length c])∧dE true w' (.slice A (bf C).words.length c) (bf C).words∧dp (bf C).file∧dp (bf C).record∧dp (bf C).count∧ae w' g (ej s C)∧w'.heap[gs]? = some (.cells #[.int .i64 (fo s C)] 3 (0,0))∧ax [g,gs] w w'):=by
 refine en 19 Tryz.func124 rfl<|sg<|L0<|bB #[.int .u16 0,.int .u16 0,.int .u16 0,.slice none 0 0] fun S T b j d=>ng<|Pl 1<|?_
 refine L0<|Oc<|rY (jC (ae.old hC d)) fun k l U H I J K m f=>?_
 obtain⟨V,W⟩:=I
 obtain⟨X,Y⟩:=J
 obtain⟨Z,a0⟩:=K
 refine L0<|bB #[.int .u16 0,.int .u16 0,.int .u16 0,.slice none 0 0] fun a1 a2 h L M=>L0<|be L #[.int .u16 ((bf C).file),.int .u16 ((bf C).record),.int .u16 ((bf C).count),.slice k ((bf C).words.length) l] fun a3 n N=>ng<|?_
 have o:=ud M N h
 have p:=aG f o
 have q:=aQ (uz d p) (Ne.symm hne) hS
 refine L0<|aU q 0<|Pl 1<|L0<|aU n 2<|L0<|Oi ((bf C).count)<|L0<|Oi (2*((bf C).count))<|L0<|Oi (2+(2*((bf C).count)))<|L0<|Oi (s+(2+(2*((bf C).count))))<|L0<|bS q 0 #[.int .i64 (s+(2+(2*((bf C).count))))] fun a4 r t=>ng<|Pl 1<|L0<|aU r 0<|?_
 refine Pl 1<|?_
 have u:=uz o t
 have a:=uz d f
 have v:=aQ a (Ne.symm hne) hS
 refine L0<|Oc<|m2 (aM ((decide ((s+(2+(2*((bf C).count))))≤245))) 5 (ae.upd m u (aa hne av) (ah (aF v (by decide)) az))) fun a5 O y=>?_
 refine ab O fun x47 P Q=>?_
 refine ng<|?_
 have z:=us t y
 refine L0<|c7 (ax.blk z (aa (Ne.symm (nb (ai hS) a.size h)) (aa (Ne.symm (nb (ae.lt hC) a.size h)) av)) n)<|?_
 have i:=nb (ae.lt hC) lr b
 have B:=nb (ai hS) lr b
 have D:=ax.blk (ui p z) (aa (Ne.symm B) (aa (Ne.symm i) av)) j
 refine L0<|be D #[.int .u16 ((bf C).file),.int .u16 ((bf C).record),.int .u16 ((bf C).count),.slice k ((bf C).words.length) l] fun a6 R E=>nt<|rt<|sU R<|?_
 subst P
 have F:=us y E
 have G:=us u F
 exact⟨_,_,rfl,(dE.upd' H G (ah (aF v (by decide)) (ah (ae.safe m _ (by decide)) (ah (aF (aQ f (Ne.symm i) j) (by decide)) az)))),aD (x:=(bf C).file) (by omega),aD (x:=(bf C).record) (by omega),aD (x:=(bf C).count) (by omega),(ae.upd Q E (aa i av) (ah (aF D (by decide)) az)),(ax.blk F (aa (Ne.symm hne) (aa B av)) r),(ut (ax.mono (S':=[g,gs]) a (ac im au)) G (ac im (ac im (ac (nr b) au))))⟩
def dT (c:Int)(v:Value) : Array Value:=#[.int .u8 c,.int .u8 0,.int .u16 0,.int .u16 0,.int .u16 0,.int .u16 0,.int .u16 0,.int .u16 0,.int .u16 0,.int .u16 0,.int .u16 0,.int .u16 0,eT,eT,eT,v,.int .u8 0,.int .u8 0,.int .u8 0,.int .u8 0,.int .u8 0,eT]
structure JR (w0:World) (gb gs gm l:Nat) (c:Int) (r:Loop) (C:ak) (s:Int) (L:List dP) (A:Option Addr) (cp:Nat) (W:World) : Prop where
  u:ax [gb,gs,gm,l] w0 W
  hC:ae W gb C
  hS:W.heap[gs]? = some (.cells #[.int .i64 s] 3 (0,0))
  hm:W.heap[gm]? = some (.cells (dT c (.slice A L.length cp)) 31 (0,0))
  ho:aO w0.heap.size 83 4 (bp true) W (.slice A L.length cp) L
  hl:W.heap[l]? = some (.loop r)
def dH (s:Int)(C:ak) : Int × ak × dP:=(fo s C,ej s C,bf C)
def cz (s:Int)(C:ak) : Int × ak × dP:=(s,fb C,ex C)
def dz (s:Int)(C:ak) : Int × ak × dP:=(s,ij C,gp C)
def b6 (one:Int→ak→Int × ak × dP) : Nat→Int→ak→List dP→ak × List dP
  | 0,_,C,L=>(C,L)
  | n+1,s,C,L =>
    if decide (0<(C.l.length:Int))&&C.e==0 then
      (if (one s C).2.1.e != 0 then ((one s C).2.1,L) else b6 one n (one s C).1 (one s C).2.1 (L++[(one s C).2.2]))
    else (C,L)
theorem gH(C:ak)(n:Int) : (C.bytesC n).l.length≤C.l.length:=by
  unfold ak.bytesC
  split
  · unfold ak.need
    split<;>simp
  · simp
theorem gR(C:ak)(h:0<C.l.length) : (C.bytesC 1).l.length<C.l.length:=by
  unfold ak.bytesC
  split
  · unfold ak.need
    split<;>simpa using h
  · simp
    omega
theorem dh(C:ak)(b:Bool)(e:Int) : (C.need b e).l.length=C.l.length:=by
  unfold ak.need
  split<;>rfl
theorem dD(C:ak)(n:Int) : (C.wordsC n).l.length≤C.l.length:=by
  unfold ak.wordsC
  split<;>exact gH ..
theorem jL(C:ak)(h:0<C.l.length) : (fN C).l.length<C.l.length:=by
  have h1:(sj C).l.length<C.l.length:=by unfold sj;rw[dh];exact gR C h
  have h2:(pS C).l.length≤(sj C).l.length:=by unfold pS;rw[dh];exact dD ..
  have h3:(pa C).l.length≤(pS C).l.length:=by unfold pa;rw[dh];exact dD ..
  have h4:(fN C).l.length≤(pa C).l.length:=by unfold fN;rw[dh];exact dD ..
  omega
theorem pU(s:Int)(C:ak)(h:0<C.l.length) : (dH s C).2.1.l.length<C.l.length:=by
  show(ej s C).l.length<_
  unfold ej
  rw[dh]
  exact jL C h
theorem p7(s:Int)(C:ak)(h:0<C.l.length) : (cz s C).2.1.l.length<C.l.length:=by
  show(fb C).l.length<_
  have h1:(jQ C).l.length<C.l.length:=by unfold jQ;rw[dh];exact gR C h
  have h2:(kf C).l.length≤(jQ C).l.length:=by unfold kf;rw[dh];exact gH ..
  have h3:(fb C).l.length≤(kf C).l.length:=by unfold fb;exact dD ..
  omega
theorem qn(s:Int)(C:ak)(h:0<C.l.length) : (dz s C).2.1.l.length<C.l.length:=by
  show(ij C).l.length<_
  have h1:=jL C h
  have h2:(oA C).l.length=(fN C).l.length:=by unfold oA;rw[dh]
  have h3:(ij C).l.length≤(oA C).l.length:=by unfold ij;exact dD ..
  omega
theorem fj(one:Int→ak→Int × ak × dP)(n:Nat)(s:Int)(C:ak)(L:List dP)(h:(decide (0<(C.l.length:Int))&&C.e==0)=false) : b6 one n s C L=(C,L):=by
  cases n with
  | zero=>rfl
  | succ n=>simp only[b6,h,Bool.false_eq_true,if_false]
open Go.RowKit
def cm (fn0:FuncId)(tm:Array Value)(asg bdy:Code)(D:Nat) : Loop:={ state:=.ready,pending:=none,fn:=fn0,tmps:=tm,params:=#[53],assign:=asg,body:=bdy,defers:=D }
def ln (w:World)(gb gs gm l:Nat)(c:Int)(R:Loop) : Prop:=∀ (W:World)(C:ak)(s:Int)(L:List dP)(A:Option Addr)(cp:Nat)(x:dP)(Ax:Option Addr)(cx:Nat),JR w gb gs gm l c R C s L A cp W→dE true W (.slice Ax x.words.length cx) x.words→dp x.file→dp x.record→dp x.count→L.length≤1048576 →
    RoundIn Fence.wide 8 Tryz.prog l R.fn (R.tmps.setIfInBounds 53 (.agg #[.int .u16 x.file,.int .u16 x.record,.int .u16 x.count,.slice Ax x.words.length cx])) R.assign R.body W (fun e W'=>e = .returned (.bool true)∧W.heap.size≤W'.heap.size∧∃ A2 c2,JR w gb gs gm l c R C s (L++[x]) A2 c2 W')
theorem s0{w:World}{gb gs gm l b1 b2 fn0 D:Nat}{tm:Array Value}{asg bdy:Code}{c:Int}{C0:ak}(hC:ae w gb C0)(hS:w.heap[gs]? = some (.cells #[.int .i64 0] 3 (0,0)))(hm:w.heap[gm]? = some (.cells (dT c eT) 31 (0,0)))
    (hl:w.heap[l]? = some (.loop (cm fn0 tm asg bdy D))) (hb1:w.heap[b1]? = some (.cells #[.pointer (some ⟨gb,0,none⟩)] 143 (0,0))) (hb2:w.heap[b2]? = some (.cells #[.func (.func 124) #[] #[.pointer (some ⟨gs,0,none⟩)]] 158 (0,0)))
    (n1:gb≠gs) (n2:gb≠gm) (n3:gb≠l) (n4:gs≠gm) (n5:gs≠l) (n6:gm≠l) (m1:b1≠gb) (m2:b1≠gs) (m3:b1≠gm) (m4:b1≠l) (k1:b2≠gb) (k2:b2≠gs) (k3:b2≠gm) (k4:b2≠l) (hround:ln w gb gs gm l c (cm fn0 tm asg bdy D)) :
    Calls Tryz.prog 131 #[.func (.yield l) #[] #[],.pointer (some ⟨b1,0,none⟩),.pointer (some ⟨b2,0,none⟩)] w (fun e W=>e = .returned (.tuple #[])∧∃ s A cp,JR w gb gs gm l c (cm fn0 tm asg bdy D) (b6 dH C0.l.length 0 C0 []).1 s (b6 dH C0.l.length 0 C0 []).2 A cp W):=by
 have hlen:=hC.len
 refine en 25 Tryz.func131 rfl<|bk<|?_
 refine fR (fun x=>[(0,.func (.yield l) #[] #[]),(1,.pointer (some ⟨b1,0,none⟩)),(2,.pointer (some ⟨b2,0,none⟩))]) (fun(x:Nat × ak × Int × List dP × Option Addr × Nat) w'=>ax [gb,gs,gm,l] w w'∧ae w' gb x.2.1∧w'.heap[gs]? = some (.cells #[.int .i64 x.2.2.1] 3 (0,0))∧w'.heap[gm]? = some (.cells (dT c (.slice x.2.2.2.2.1 x.2.2.2.1.length x.2.2.2.2.2)) 31 (0,0))∧w'.heap[l]? = some (.loop (cm fn0 tm asg bdy D))∧aO w.heap.size 83 4 (bp true) w' (.slice x.2.2.2.2.1 x.2.2.2.1.length x.2.2.2.2.2) x.2.2.2.1∧(b6 dH x.1 x.2.2.1 x.2.1 x.2.2.2.1=b6 dH C0.l.length 0 C0 [])∧(x.2.1.l.length≤x.1)∧(0≤x.2.2.1∧x.2.2.1≤131074*(x.2.2.2.1.length:Int))∧(x.2.2.2.1.length+x.1≤C0.l.length)) (fun x=>x.1) (C0.l.length,C0,0,[],none,0) ⟨ax.refl _ _,hC,hS,hm,hl,aO.nil ..,rfl,(Nat.le_refl _),(by(try dsimp only);omega),(by(try dsimp only);(try simp only[List.length_nil]);omega)⟩ ?_
 rintro⟨n,C,s,L,A,cp⟩ h ⟨m,J,M,N,O,P,Q,R,S,T⟩
 refine ge [(0,.func (.yield l) #[] #[]),(1,.pointer (some ⟨b1,0,none⟩)),(2,.pointer (some ⟨b2,0,none⟩))] ?_
 have b:ae h gb C:=J
 have o:h.heap[gs]? = some (.cells #[.int .i64 s] 3 (0,0)):=M
 have t:h.heap[gm]? = some (.cells (dT c (.slice A L.length cp)) 31 (0,0)):=N
 have v:h.heap[l]? = some (.loop (cm fn0 tm asg bdy D)):=O
 have d:aO w.heap.size 83 4 (bp true) h (.slice A L.length cp) L:=P
 have af:b6 dH n s C L=b6 dH C0.l.length 0 C0 []:=Q
 have aj:C.l.length≤n:=R
 have al:0≤s∧s≤131074*(L.length:Int):=S
 have an:L.length+n≤C0.l.length:=T
 have hrec:b6 dH n s C L=b6 dH C0.l.length 0 C0 []:=by assumption
 refine sq<|sg<|?_
 have p:=ax.blk m (aa m1 (aa m2 (aa m3 (aa m4 av)))) hb1
 refine L0<|aU p 0<|L0<|Oc<|mq (cy b)<|?_
 have ao:=ae.len b
 refine Pl 2<|cu 4 [8] 12 (((decide (0<((C.l.length:Nat) : Int)))&&(C.e==0))) (fun K B=>?_) ?_
 refine bl 8 ((decide (0<((C.l.length:Nat) : Int)))) (fun i=>?_) (fun i=>?_)
 have U:=of_decide_eq_true i
 refine L1<|aU p 0<|L1<|Oc<|mq (b7 b)<|?_
 have aq:=ae.len b
 exact Pl 2<|ce B (C.e==0) (by rw[i];rfl)
 have U:=of_decide_eq_false i
 exact Pl 4<|ce B false (by rw[i];rfl)
 refine nt<|cb (((decide (0<((C.l.length:Nat) : Int)))&&(C.e==0))) (fun f=>?_) (fun f=>?_)
 have y:=(bQ f).1
 have z:=(bQ f).2
 have ar:=of_decide_eq_true y
 have aw:=aB z
 refine bC<|bk<|sg<|?_
 refine L0<|aU (ax.blk m (aa k1 (aa k2 (aa k3 (aa k4 av)))) hb2) 0<|L0<|aU p 0<|L0<|eK #[] #[.pointer (some ⟨gs,0,none⟩)] (args:=#[.pointer (some ⟨gb,0,none⟩),.pointer (some ⟨gs,0,none⟩)])<|vN (mN (s:=s) b o n1 (by omega)) fun E F aA V X Y Z a0 G a1=>?_
 have aC:fo s C=s+(2+2*(bf C).count):=rfl
 obtain⟨aE,aH⟩:=X
 obtain⟨aI,aJ⟩:=Y
 obtain⟨aK,aL⟩:=Z
 refine L0<|bB #[.int .u16 0,.int .u16 0,.int .u16 0,.slice none 0 0] fun aM aN a2 a3 a4=>L0<|be a3 #[.int .u16 ((bf C).file),.int .u16 ((bf C).record),.int .u16 ((bf C).count),.slice E ((bf C).words.length) F] fun a5 a6 a7=>nt<|sq<|ul 9<|?_
 have j:=ud a4 a7 a2
 have a:=aG a1 j
 refine F0<|aU (ax.blk a (aa m1 (aa m2 av)) p) 0<|?_
 have q:=ae.old a0 j
 refine F0<|Oc<|mq (b7 q)<|?_
 have aP:=ae.len q
 refine Fp<|Fp<|?_
 have H:=ut m a (ac im (ac im au))
 refine uQ 19 ((((ej s C).e)!=0)) (fun k=>?_) (fun k=>?_)
 have a8:=ay k
 refine Fp<|Fp<|Fp<|Fp<|Fp<|ol<|tn<|c1<|rt<|br<|tr<|br<|rr (.tuple #[])<|?_
 have hfin:b6 dH C0.l.length 0 C0 []=((ej s C),L):=by
   rw[← hrec]
   rw[show n=(n-1)+1 from by omega]
   simp only[b6,dH,f,y,z,k,bs,if_true,if_false,decide_true,decide_false,reduceIte]
 refine⟨rfl,(fo s C),A,cp,?_⟩
 rw[hfin]
 exact⟨H,q,(ub j G),(ax.blk a (aa (Ne.symm n2) (aa (Ne.symm n4) av)) t),(am d a (fun x hx=>(aa (fun e=>(ap (ae.lt hC) lr d) (e▸hx)) (aa (fun e=>(ap (ai hS) lr d) (e▸hx)) av))) (bp.upd16 a (ah (ae.safe b _ (by decide)) (ah (aF o (by decide)) az)))),(ax.blk a (aa (Ne.symm n3) (aa (Ne.symm n5) av)) v)⟩
 have a8:=ag k
 refine Fp<|F0<|c7 a6<|?_
 have I:=ax.blk a (aa (Ne.symm n3) (aa (Ne.symm n5) av)) v
 have a9:JR w gb gs gm l c (cm fn0 tm asg bdy D) (ej s C) (fo s C) L A cp a5:=⟨H,q,(ub j G),(ax.blk a (aa (Ne.symm n2) (aa (Ne.symm n4) av)) t),(am d a (fun x hx=>(aa (fun e=>(ap (ae.lt hC) lr d) (e▸hx)) (aa (fun e=>(ap (ai hS) lr d) (e▸hx)) av))) (bp.upd16 a (ah (ae.safe b _ (by decide)) (ah (aF o (by decide)) az)))),I⟩
 refine Fy (r:=cm fn0 tm asg bdy D) (.agg #[.int .u16 ((bf C).file),.int .u16 ((bf C).record),.int .u16 ((bf C).count),.slice E ((bf C).words.length) F]) 53 I rfl<|?_
 refine RoundIn.mono (hround _ _ _ _ _ _ (bf C) _ _ a9 (dE.upd' V j az) (aD (by omega)) (aD (by omega)) (aD (by omega)) (by omega)) ?_
 rintro _ aQ ⟨rfl,aR,ab,ad,g⟩
 refine⟨_,rfl,?_⟩
 exact Fp<|Fp<|ol<|tn<|c0<|sk<|bn<|dY ((n-1),(ej s C),(fo s C),(L++[(bf C)]),ab,ad) ⟨g.u,g.hC,g.hS,g.hm,g.hl,g.ho,(by(try dsimp only);rw[← hrec,show n=(n-1)+1 from by omega];simp only[b6,dH,f,y,z,k,bs,if_true,if_false,decide_true,decide_false,Nat.add_sub_cancel,reduceIte]),(by(try dsimp only);have hd:=pU s C (by omega);have pS:(dH s C).2.1.l.length=(ej s C).l.length:=rfl;omega),(by(try dsimp only);simp only[List.length_append,List.length_cons,List.length_nil];omega),(by(try dsimp only);simp only[List.length_append,List.length_cons,List.length_nil];omega)⟩ (by omega)
 refine xt<|tx<|tx<|bx<|rm (.tuple #[])<|?_
 have hfin:b6 dH C0.l.length 0 C0 []=(C,L):=by
   rw[← hrec]
   exact fj _ _ _ _ _ (by simp only[f,bs,if_true,if_false,decide_true,decide_false])
 refine⟨rfl,s,A,cp,?_⟩
 rw[hfin]
 exact⟨m,b,o,t,d,v⟩
theorem sx{w:World}{gb gs gm l b1 b2 fn0 D:Nat}{tm:Array Value}{asg bdy:Code}{c:Int}{C0:ak}(hC:ae w gb C0)(hS:w.heap[gs]? = some (.cells #[.int .i64 0] 3 (0,0)))(hm:w.heap[gm]? = some (.cells (dT c eT) 31 (0,0)))
    (hl:w.heap[l]? = some (.loop (cm fn0 tm asg bdy D))) (hb1:w.heap[b1]? = some (.cells #[.pointer (some ⟨gb,0,none⟩)] 143 (0,0))) (hb2:w.heap[b2]? = some (.cells #[.func (.func 128) #[] #[]] 158 (0,0)))
    (n1:gb≠gs) (n2:gb≠gm) (n3:gb≠l) (n4:gs≠gm) (n5:gs≠l) (n6:gm≠l) (m1:b1≠gb) (m2:b1≠gs) (m3:b1≠gm) (m4:b1≠l) (k1:b2≠gb) (k2:b2≠gs) (k3:b2≠gm) (k4:b2≠l) (hround:ln w gb gs gm l c (cm fn0 tm asg bdy D)) :
    Calls Tryz.prog 131 #[.func (.yield l) #[] #[],.pointer (some ⟨b1,0,none⟩),.pointer (some ⟨b2,0,none⟩)] w (fun e W=>e = .returned (.tuple #[])∧∃ s A cp,JR w gb gs gm l c (cm fn0 tm asg bdy D) (b6 cz C0.l.length 0 C0 []).1 s (b6 cz C0.l.length 0 C0 []).2 A cp W):=by
 have hlen:=hC.len
 refine en 25 Tryz.func131 rfl<|bk<|?_
 refine fR (fun x=>[(0,.func (.yield l) #[] #[]),(1,.pointer (some ⟨b1,0,none⟩)),(2,.pointer (some ⟨b2,0,none⟩))]) (fun(x:Nat × ak × Int × List dP × Option Addr × Nat) w'=>ax [gb,gs,gm,l] w w'∧ae w' gb x.2.1∧w'.heap[gs]? = some (.cells #[.int .i64 x.2.2.1] 3 (0,0))∧w'.heap[gm]? = some (.cells (dT c (.slice x.2.2.2.2.1 x.2.2.2.1.length x.2.2.2.2.2)) 31 (0,0))∧w'.heap[l]? = some (.loop (cm fn0 tm asg bdy D))∧aO w.heap.size 83 4 (bp true) w' (.slice x.2.2.2.2.1 x.2.2.2.1.length x.2.2.2.2.2) x.2.2.2.1∧(b6 cz x.1 x.2.2.1 x.2.1 x.2.2.2.1=b6 cz C0.l.length 0 C0 [])∧(x.2.1.l.length≤x.1)∧(0≤x.2.2.1∧x.2.2.1≤131074*(x.2.2.2.1.length:Int))∧(x.2.2.2.1.length+x.1≤C0.l.length)) (fun x=>x.1) (C0.l.length,C0,0,[],none,0) ⟨ax.refl _ _,hC,hS,hm,hl,aO.nil ..,rfl,(Nat.le_refl _),(by(try dsimp only);omega),(by(try dsimp only);(try simp only[List.length_nil]);omega)⟩ ?_
 rintro⟨n,C,s,L,A,cp⟩ g ⟨k,I,J,M,N,O,P,Q,R,S⟩
 refine ge [(0,.func (.yield l) #[] #[]),(1,.pointer (some ⟨b1,0,none⟩)),(2,.pointer (some ⟨b2,0,none⟩))] ?_
 have b:ae g gb C:=I
 have p:g.heap[gs]? = some (.cells #[.int .i64 s] 3 (0,0)):=J
 have q:g.heap[gm]? = some (.cells (dT c (.slice A L.length cp)) 31 (0,0)):=M
 have t:g.heap[l]? = some (.loop (cm fn0 tm asg bdy D)):=N
 have h:aO w.heap.size 83 4 (bp true) g (.slice A L.length cp) L:=O
 have ac:b6 cz n s C L=b6 cz C0.l.length 0 C0 []:=P
 have ad:C.l.length≤n:=Q
 have af:0≤s∧s≤131074*(L.length:Int):=R
 have ai:L.length+n≤C0.l.length:=S
 have hrec:b6 cz n s C L=b6 cz C0.l.length 0 C0 []:=by assumption
 refine sq<|sg<|?_
 have m:=ax.blk k (aa m1 (aa m2 (aa m3 (aa m4 av)))) hb1
 refine L0<|aU m 0<|L0<|Oc<|mq (cy b)<|?_
 have aj:=ae.len b
 refine Pl 2<|cu 4 [8] 12 (((decide (0<((C.l.length:Nat) : Int)))&&(C.e==0))) (fun K B=>?_) ?_
 refine bl 8 ((decide (0<((C.l.length:Nat) : Int)))) (fun i=>?_) (fun i=>?_)
 have T:=of_decide_eq_true i
 refine L1<|aU m 0<|L1<|Oc<|mq (b7 b)<|?_
 have al:=ae.len b
 exact Pl 2<|ce B (C.e==0) (by rw[i];rfl)
 have T:=of_decide_eq_false i
 exact Pl 4<|ce B false (by rw[i];rfl)
 refine nt<|cb (((decide (0<((C.l.length:Nat) : Int)))&&(C.e==0))) (fun d=>?_) (fun d=>?_)
 have v:=(bQ d).1
 have y:=(bQ d).2
 have an:=of_decide_eq_true v
 have ao:=aB y
 refine bC<|bk<|sg<|?_
 refine L0<|aU (ax.blk k (aa k1 (aa k2 (aa k3 (aa k4 av)))) hb2) 0<|L0<|aU m 0<|L0<|eK #[] #[] (args:=#[.pointer (some ⟨gb,0,none⟩)])<|rY (mX b) fun E F aq U V X Y Z a0=>?_
 obtain⟨ar,au⟩:=V
 obtain⟨aw,aA⟩:=X
 obtain⟨aC,aE⟩:=Y
 refine L0<|bB #[.int .u16 0,.int .u16 0,.int .u16 0,.slice none 0 0] fun aF aH a1 a2 a3=>L0<|be a2 #[.int .u16 ((ex C).file),.int .u16 ((ex C).record),.int .u16 ((ex C).count),.slice E ((ex C).words.length) F] fun a4 a5 a6=>nt<|sq<|ul 9<|?_
 have z:=ud a3 a6 a1
 have a:=aG a0 z
 refine F0<|aU (aQ a m1 m) 0<|?_
 have o:=ae.old Z z
 refine F0<|Oc<|mq (b7 o)<|?_
 have aI:=ae.len o
 refine Fp<|Fp<|?_
 have G:=u1 k a im
 refine uQ 19 ((((fb C).e)!=0)) (fun j=>?_) (fun j=>?_)
 have a7:=ay j
 refine Fp<|Fp<|Fp<|Fp<|Fp<|ol<|tn<|c1<|rt<|br<|tr<|br<|rr (.tuple #[])<|?_
 have hfin:b6 cz C0.l.length 0 C0 []=((fb C),L):=by
   rw[← hrec]
   rw[show n=(n-1)+1 from by omega]
   simp only[b6,cz,d,v,y,j,bs,if_true,if_false,decide_true,decide_false,reduceIte]
 refine⟨rfl,s,A,cp,?_⟩
 rw[hfin]
 exact⟨G,o,(aQ a (Ne.symm n1) p),(aQ a (Ne.symm n2) q),(am h a (fun x hx=>(aa (fun e=>(ap (ae.lt hC) lr h) (e▸hx)) av)) (bp.upd16 a (ah (ae.safe b _ (by decide)) az))),(aQ a (Ne.symm n3) t)⟩
 have a7:=ag j
 refine Fp<|F0<|c7 a5<|?_
 have H:=aQ a (Ne.symm n3) t
 have a8:JR w gb gs gm l c (cm fn0 tm asg bdy D) (fb C) s L A cp a4:=⟨G,o,(aQ a (Ne.symm n1) p),(aQ a (Ne.symm n2) q),(am h a (fun x hx=>(aa (fun e=>(ap (ae.lt hC) lr h) (e▸hx)) av)) (bp.upd16 a (ah (ae.safe b _ (by decide)) az))),H⟩
 refine Fy (r:=cm fn0 tm asg bdy D) (.agg #[.int .u16 ((ex C).file),.int .u16 ((ex C).record),.int .u16 ((ex C).count),.slice E ((ex C).words.length) F]) 53 H rfl<|?_
 refine RoundIn.mono (hround _ _ _ _ _ _ (ex C) _ _ a8 (dE.upd' U z az) (aD (by omega)) (aD (by omega)) (aD (by omega)) (by omega)) ?_
 rintro _ aJ ⟨rfl,aK,a9,ab,f⟩
 refine⟨_,rfl,?_⟩
 exact Fp<|Fp<|ol<|tn<|c0<|sk<|bn<|dY ((n-1),(fb C),s,(L++[(ex C)]),a9,ab) ⟨f.u,f.hC,f.hS,f.hm,f.hl,f.ho,(by(try dsimp only);rw[← hrec,show n=(n-1)+1 from by omega];simp only[b6,cz,d,v,y,j,bs,if_true,if_false,decide_true,decide_false,Nat.add_sub_cancel,reduceIte]),(by(try dsimp only);have hd:=p7 s C (by omega);have pS:(cz s C).2.1.l.length=(fb C).l.length:=rfl;omega),(by(try dsimp only);simp only[List.length_append,List.length_cons,List.length_nil];omega),(by(try dsimp only);simp only[List.length_append,List.length_cons,List.length_nil];omega)⟩ (by omega)
 refine xt<|tx<|tx<|bx<|rm (.tuple #[])<|?_
 have hfin:b6 cz C0.l.length 0 C0 []=(C,L):=by
   rw[← hrec]
   exact fj _ _ _ _ _ (by simp only[d,bs,if_true,if_false,decide_true,decide_false])
 refine⟨rfl,s,A,cp,?_⟩
 rw[hfin]
 exact⟨k,b,p,q,h,t⟩
theorem sC{w:World}{gb gs gm l b1 b2 fn0 D:Nat}{tm:Array Value}{asg bdy:Code}{c:Int}{C0:ak}(hC:ae w gb C0)(hS:w.heap[gs]? = some (.cells #[.int .i64 0] 3 (0,0)))(hm:w.heap[gm]? = some (.cells (dT c eT) 31 (0,0)))
    (hl:w.heap[l]? = some (.loop (cm fn0 tm asg bdy D))) (hb1:w.heap[b1]? = some (.cells #[.pointer (some ⟨gb,0,none⟩)] 143 (0,0))) (hb2:w.heap[b2]? = some (.cells #[.func (.func 130) #[] #[]] 158 (0,0)))
    (n1:gb≠gs) (n2:gb≠gm) (n3:gb≠l) (n4:gs≠gm) (n5:gs≠l) (n6:gm≠l) (m1:b1≠gb) (m2:b1≠gs) (m3:b1≠gm) (m4:b1≠l) (k1:b2≠gb) (k2:b2≠gs) (k3:b2≠gm) (k4:b2≠l) (hround:ln w gb gs gm l c (cm fn0 tm asg bdy D)) :
    Calls Tryz.prog 131 #[.func (.yield l) #[] #[],.pointer (some ⟨b1,0,none⟩),.pointer (some ⟨b2,0,none⟩)] w (fun e W=>e = .returned (.tuple #[])∧∃ s A cp,JR w gb gs gm l c (cm fn0 tm asg bdy D) (b6 dz C0.l.length 0 C0 []).1 s (b6 dz C0.l.length 0 C0 []).2 A cp W):=by
 have hlen:=hC.len
 refine en 25 Tryz.func131 rfl<|bk<|?_
 refine fR (fun x=>[(0,.func (.yield l) #[] #[]),(1,.pointer (some ⟨b1,0,none⟩)),(2,.pointer (some ⟨b2,0,none⟩))]) (fun(x:Nat × ak × Int × List dP × Option Addr × Nat) w'=>ax [gb,gs,gm,l] w w'∧ae w' gb x.2.1∧w'.heap[gs]? = some (.cells #[.int .i64 x.2.2.1] 3 (0,0))∧w'.heap[gm]? = some (.cells (dT c (.slice x.2.2.2.2.1 x.2.2.2.1.length x.2.2.2.2.2)) 31 (0,0))∧w'.heap[l]? = some (.loop (cm fn0 tm asg bdy D))∧aO w.heap.size 83 4 (bp true) w' (.slice x.2.2.2.2.1 x.2.2.2.1.length x.2.2.2.2.2) x.2.2.2.1∧(b6 dz x.1 x.2.2.1 x.2.1 x.2.2.2.1=b6 dz C0.l.length 0 C0 [])∧(x.2.1.l.length≤x.1)∧(0≤x.2.2.1∧x.2.2.1≤131074*(x.2.2.2.1.length:Int))∧(x.2.2.2.1.length+x.1≤C0.l.length)) (fun x=>x.1) (C0.l.length,C0,0,[],none,0) ⟨ax.refl _ _,hC,hS,hm,hl,aO.nil ..,rfl,(Nat.le_refl _),(by(try dsimp only);omega),(by(try dsimp only);(try simp only[List.length_nil]);omega)⟩ ?_
 rintro⟨n,C,s,L,A,cp⟩ g ⟨k,I,J,M,N,O,P,Q,R,S⟩
 refine ge [(0,.func (.yield l) #[] #[]),(1,.pointer (some ⟨b1,0,none⟩)),(2,.pointer (some ⟨b2,0,none⟩))] ?_
 have b:ae g gb C:=I
 have p:g.heap[gs]? = some (.cells #[.int .i64 s] 3 (0,0)):=J
 have q:g.heap[gm]? = some (.cells (dT c (.slice A L.length cp)) 31 (0,0)):=M
 have t:g.heap[l]? = some (.loop (cm fn0 tm asg bdy D)):=N
 have h:aO w.heap.size 83 4 (bp true) g (.slice A L.length cp) L:=O
 have ac:b6 dz n s C L=b6 dz C0.l.length 0 C0 []:=P
 have ad:C.l.length≤n:=Q
 have af:0≤s∧s≤131074*(L.length:Int):=R
 have ai:L.length+n≤C0.l.length:=S
 have hrec:b6 dz n s C L=b6 dz C0.l.length 0 C0 []:=by assumption
 refine sq<|sg<|?_
 have m:=ax.blk k (aa m1 (aa m2 (aa m3 (aa m4 av)))) hb1
 refine L0<|aU m 0<|L0<|Oc<|mq (cy b)<|?_
 have aj:=ae.len b
 refine Pl 2<|cu 4 [8] 12 (((decide (0<((C.l.length:Nat) : Int)))&&(C.e==0))) (fun K B=>?_) ?_
 refine bl 8 ((decide (0<((C.l.length:Nat) : Int)))) (fun i=>?_) (fun i=>?_)
 have T:=of_decide_eq_true i
 refine L1<|aU m 0<|L1<|Oc<|mq (b7 b)<|?_
 have al:=ae.len b
 exact Pl 2<|ce B (C.e==0) (by rw[i];rfl)
 have T:=of_decide_eq_false i
 exact Pl 4<|ce B false (by rw[i];rfl)
 refine nt<|cb (((decide (0<((C.l.length:Nat) : Int)))&&(C.e==0))) (fun d=>?_) (fun d=>?_)
 have v:=(bQ d).1
 have y:=(bQ d).2
 have an:=of_decide_eq_true v
 have ao:=aB y
 refine bC<|bk<|sg<|?_
 refine L0<|aU (ax.blk k (aa k1 (aa k2 (aa k3 (aa k4 av)))) hb2) 0<|L0<|aU m 0<|L0<|eK #[] #[] (args:=#[.pointer (some ⟨gb,0,none⟩)])<|rY (pT b) fun E F aq U V X Y Z a0=>?_
 obtain⟨ar,au⟩:=V
 obtain⟨aw,aA⟩:=X
 obtain⟨aC,aE⟩:=Y
 refine L0<|bB #[.int .u16 0,.int .u16 0,.int .u16 0,.slice none 0 0] fun aF aH a1 a2 a3=>L0<|be a2 #[.int .u16 ((gp C).file),.int .u16 ((gp C).record),.int .u16 ((gp C).count),.slice E ((gp C).words.length) F] fun a4 a5 a6=>nt<|sq<|ul 9<|?_
 have z:=ud a3 a6 a1
 have a:=aG a0 z
 refine F0<|aU (aQ a m1 m) 0<|?_
 have o:=ae.old Z z
 refine F0<|Oc<|mq (b7 o)<|?_
 have aI:=ae.len o
 refine Fp<|Fp<|?_
 have G:=u1 k a im
 refine uQ 19 ((((ij C).e)!=0)) (fun j=>?_) (fun j=>?_)
 have a7:=ay j
 refine Fp<|Fp<|Fp<|Fp<|Fp<|ol<|tn<|c1<|rt<|br<|tr<|br<|rr (.tuple #[])<|?_
 have hfin:b6 dz C0.l.length 0 C0 []=((ij C),L):=by
   rw[← hrec]
   rw[show n=(n-1)+1 from by omega]
   simp only[b6,dz,d,v,y,j,bs,if_true,if_false,decide_true,decide_false,reduceIte]
 refine⟨rfl,s,A,cp,?_⟩
 rw[hfin]
 exact⟨G,o,(aQ a (Ne.symm n1) p),(aQ a (Ne.symm n2) q),(am h a (fun x hx=>(aa (fun e=>(ap (ae.lt hC) lr h) (e▸hx)) av)) (bp.upd16 a (ah (ae.safe b _ (by decide)) az))),(aQ a (Ne.symm n3) t)⟩
 have a7:=ag j
 refine Fp<|F0<|c7 a5<|?_
 have H:=aQ a (Ne.symm n3) t
 have a8:JR w gb gs gm l c (cm fn0 tm asg bdy D) (ij C) s L A cp a4:=⟨G,o,(aQ a (Ne.symm n1) p),(aQ a (Ne.symm n2) q),(am h a (fun x hx=>(aa (fun e=>(ap (ae.lt hC) lr h) (e▸hx)) av)) (bp.upd16 a (ah (ae.safe b _ (by decide)) az))),H⟩
 refine Fy (r:=cm fn0 tm asg bdy D) (.agg #[.int .u16 ((gp C).file),.int .u16 ((gp C).record),.int .u16 ((gp C).count),.slice E ((gp C).words.length) F]) 53 H rfl<|?_
 refine RoundIn.mono (hround _ _ _ _ _ _ (gp C) _ _ a8 (dE.upd' U z az) (aD (by omega)) (aD (by omega)) (aD (by omega)) (by omega)) ?_
 rintro _ aJ ⟨rfl,aK,a9,ab,f⟩
 refine⟨_,rfl,?_⟩
 exact Fp<|Fp<|ol<|tn<|c0<|sk<|bn<|dY ((n-1),(ij C),s,(L++[(gp C)]),a9,ab) ⟨f.u,f.hC,f.hS,f.hm,f.hl,f.ho,(by(try dsimp only);rw[← hrec,show n=(n-1)+1 from by omega];simp only[b6,dz,d,v,y,j,bs,if_true,if_false,decide_true,decide_false,Nat.add_sub_cancel,reduceIte]),(by(try dsimp only);have hd:=qn s C (by omega);have pS:(dz s C).2.1.l.length=(ij C).l.length:=rfl;omega),(by(try dsimp only);simp only[List.length_append,List.length_cons,List.length_nil];omega),(by(try dsimp only);simp only[List.length_append,List.length_cons,List.length_nil];omega)⟩ (by omega)
 refine xt<|tx<|tx<|bx<|rm (.tuple #[])<|?_
 have hfin:b6 dz C0.l.length 0 C0 []=(C,L):=by
   rw[← hrec]
   exact fj _ _ _ _ _ (by simp only[d,bs,if_true,if_false,decide_true,decide_false])
 refine⟨rfl,s,A,cp,?_⟩
 rw[hfin]
 exact⟨k,b,p,q,h,t⟩
open Go.RowKit
def f8 (n:Int) : Bool:=(decide (7≤n)&&decide (n≤245))&&n%7==0
def f7 (n:Int) : Bool:=decide (4≤n)&&decide (n≤245)
def f6 (n:Int) : Bool:=decide (9≤n)&&decide (n≤251)
def rF (may:Int→Bool)(C:ak) : ak:=(C.bytesC 1).need (may C.byteV) 5
def rD (may:Int→Bool)(C:ak) : ak:=⟨(rF may C).bytesR C.byteV,false,0⟩
def qO (one:Int→ak→Int × ak × dP)(may:Int→Bool)(C:ak) : ak × List dP:=b6 one (rD may C).l.length 0 (rD may C) []
def de (e:Int) : Int:=if e==2 then 5 else e
def ee (one:Int→ak→Int × ak × dP)(may:Int→Bool)(c:Int)(C:ak) : ak × bh :=
  (((rF may C).bytesC C.byteV).need ((qO one may C).1.e==0) (de (qO one may C).1.e),{ bh.zero with code:=c,recs:=(qO one may C).2 })
def aZ (dir c:Int)(C:ak) : Option (ak × bh) :=
  if c==20 then (if dir==0 then some (ee dH f8 c C) else some (ee cz f7 c C)) else if c==21 then some (ee dz f6 c C) else none
theorem iO:((20:Int)==20)=true:=rfl
theorem iQ:((21:Int)==20)=false:=rfl
theorem iA:((21:Int)==21)=true:=rfl
theorem km{m:Bool}{A:Option Addr}{cp:Nat}{b:List Int}{w:World}{dir:Int}(hd:dir=0∨dir=1)(hsl:aN m w (.slice A b.length cp) b)(hb:b.length≤1048576) :
    Calls Tryz.prog 64 #[.int .i64 0,.int .u8 20,.slice A b.length cp] w (cM (al aZ 0 20 b) w):=by
 have hln:(b.length:Int)≤1048576:=by omega
 have cQ:((dir != 0)&&(dir != 1))=false:=by rcases hd with rfl | rfl<;>rfl
 refine sS 77 Tryz.func64 rfl<|sg<|L0<|bB mZ fun ad cR bm K af=>Pl 1<|nt<|sq<|sg<|Pl 6<|nt<|c0<|?_
 refine bC<|sg<|Pl 2<|L0<|Oc (args:=#[.int .i64 0,.int .u8 20])<|e3 qS fun v cS Z G N=>Pl 3<|L0<|bB #[.nilFunc,.nilFunc] fun cT cU cj bq z=>L0<|be bq #[.func (.func 126) #[] #[],.func (.func 124) #[] #[.pointer (some ⟨v,0,none⟩)]] fun cV ck t=>Pl 1<|nt<|sq<|sq<|?_
 refine go<|Pl 2<|nt<|c0<|bC<|sg<|Pl 1<|?_
 have aj:=ud z t cj
 have a0:=aG N aj
 have br:=aG af a0
 refine L0<|Oc<|e3 (ca (aN.old hsl br) (by omega)) fun a1 cW U M r=>Pl 1<|ng<|Pl 1<|L0<|Oc<|m3 (bo M) fun cX cl o cY=>L0<|Oi ((ak.mk b false 0).byteV)<|Pl 1<|ng<|?_
 refine Pl 2<|?_
 have aL:=ud r o U
 have bt:=ub aL ck
 refine L0<|aU bt 0<|Pl 1<|L0<|eK #[] #[] (args:=#[.int .i64 ((ak.mk b false 0).byteV)])<|m1 (kP (n:=(ak.mk b false 0).byteV) (by omega)) fun cZ d=>?_
 refine L0<|Oc<|m2 (aM ((f8 ((ak.mk b false 0).byteV))) 5 (ae.old cl d)) fun d0 cn i=>?_
 refine ab cn fun x49 bu bw=>?_
 refine ng<|Pl 2<|L0<|Oc<|mY (bD (n:=(ak.mk b false 0).byteV) bw) fun d1 d2 d3 co d4 d5 cq j=>?_
 have d6:=Nat.le_trans (ak.bytesR_le x49 ((ak.mk b false 0).byteV)) (ae.len bw)
 refine ab cq fun x58 bx aO=>?_
 refine L0<|Oc<|e3 (ca co (by omega)) fun O d7 P Q g=>Pl 1<|ng<|Pl 2<|L0<|bB mZ fun B d8 H V p=>L0<|be V (mC 20) fun d9 cs h=>nt<|sq<|sg<|?_
 refine Pl 2<|?_
 have an:=ud p h H
 have ao:=aG g an
 have bz:=uz d (u1 i (aG j ao) im)
 refine L0<|aU (aQ bz (nb (ai bq) t.size U) bt) 1<|L0<|Oc<|rY (hZ (gb:=O) (f:=.func 124) (x:=#[]) (y:=#[.pointer (some ⟨v,0,none⟩)])) fun ct cu da aP aS db bE bF k=>nt<|bk<|?_
 refine lA (f:=131) #[.pointer (some ⟨ct,0,none⟩),.pointer (some ⟨cu,0,none⟩)] fun a ha=>?_
 intro dc cv I dd D E bG ar S J
 have bH:=nb (ae.lt Q) lr H
 have aw:=nb (ae.lt Q) (le (le p.size h.size) k.size) E
 have bI:=nb (ai G) (le (le (le (le (le (le (le z.size t.size) r.size) o.size) d.size) i.size) j.size) g.size) H
 have bJ:=nb (ai G) (le (le (le (le (le (le (le (le (le (le z.size t.size) r.size) o.size) d.size) i.size) j.size) g.size) p.size) h.size) k.size) E
 have a2:=nb (ai V) (le h.size k.size) E
 have X:=aG k J
 have bK:=ae.old Q (aG an X)
 have aB:=ud aL (aG bz X) U
 have bL:=ub (aG aj aB) G
 have aW:=ub X cs
 refine(s0 (c:=20) bK bL aW S (ub J bE) (ub J bF) (Ne.symm (nb (ai G) (le (le (le (le (le (le z.size t.size) r.size) o.size) d.size) i.size) j.size) P)) bH aw bI bJ a2 (Ne.symm (nb (ae.lt Q) an.size aP)) (Ne.symm (nb (ai G) (le (le (le (le (le (le (le (le (le z.size t.size) r.size) o.size) d.size) i.size) j.size) g.size) p.size) h.size) aP)) (Ne.symm (nb (ai V) h.size aP)) (nb (ai bE) lr E) (Ne.symm (nb (ae.lt Q) an.size aS)) (Ne.symm (nb (ai G) (le (le (le (le (le (le (le (le (le z.size t.size) r.size) o.size) d.size) i.size) j.size) g.size) p.size) h.size) aS)) (Ne.symm (nb (ai V) h.size aS)) (nb (ai bF) lr E) ?_).mono ?_
 intro W C s L Ar cr x Ax cx hJ hrd hx1 hx2 hx3 hL
 simp only[dp] at hx1 hx2 hx3
 have hm2:W.heap[B]? = some (.cells #[.int .u8 20,.int .u8 0,.int .u16 0,.int .u16 0,.int .u16 0,.int .u16 0,.int .u16 0,.int .u16 0,.int .u16 0,.int .u16 0,.int .u16 0,.int .u16 0,.slice none 0 0,.slice none 0 0,.slice none 0 0,.slice Ar L.length cr,.int .u8 0,.int .u8 0,.int .u8 0,.int .u8 0,.int .u8 0,.slice none 0 0] 31 (0,0)):=hJ.hm
 refine gT hJ.hl ?_
 refine u4 ha 53<|sX<|io<|bB #[.int .u16 0,.int .u16 0,.int .u16 0,.slice none 0 0] fun df dg bM cw bN=>io<|be cw #[.int .u16 x.file,.int .u16 x.record,.int .u16 x.count,.slice Ax x.words.length cx] fun dh cy bO=>ol<|?_
 have bP:=ud bN bO bM
 refine tX (ub bP hJ.hl) (by trivial) fun di cz aX=>u0<|sX<|sY<|?_
 have aY:=uz bP aX
 have bQ:=aQ aY a2 hm2
 refine io<|aU bQ 15<|?_
 refine io<|c7 (aQ aX (Ne.symm (nb (ai S) hJ.u.size bM)) cy)<|io<|fg (m:=1) (e:=83) #[.int .u16 x.file,.int .u16 x.record,.int .u16 x.count,.slice Ax x.words.length cx] fun dj dk dl cA b0=>?_
 have Y:=aG aY b0
 have cB:=l2 (R:=bp true) (x:=(dP.mk x.file x.record x.count x.words)) cA rfl ⟨_,rfl,(dE.updl hrd Y hJ.hl rfl),aD (by omega),aD (by omega),aD (by omega)⟩
 have b1:=am hJ.ho Y (fun x hx=>(aa (fun e=>(ap (ai S) lr hJ.ho) (e▸hx)) av)) (bp.updl Y hJ.hl rfl)
 refine io<|hG (xs:=L) (ys:=([(dP.mk x.file x.record x.count x.words)])) (.agg #[.int .u16 0,.int .u16 0,.int .u16 0,.slice none 0 0]) 4 32 b1 cB (by simp) bp.ones (fun w' hv=>bp.upd16 hv (bW (cg _ b1 (by decide)) az)) (by(try simp only[List.length_append,List.length_cons,List.length_nil,aR]);omega) (le (le (le (le hJ.u.size bN.size) bO.size) aX.size) b0.size) fun bR bT dm b2 aC=>sY<|?_
 have bU:=ut (ax.mono (S':=(ob Ar++[])) b0 au) aC (aq il au)
 have b3:=ax.blk bU (aA (ap (ai aW) lr hJ.ho) av) bQ
 refine io<|bS b3 15 (mG 20 0 0 0 0 0 0 0 0 0 0 0 nS nS nS (.slice bR ((L++[(dP.mk x.file x.record x.count x.words)]).length) bT) 0 0 0 0 0 nS) fun dn cD a3=>ol<|bn<|?_
 have bV:=u1 (ax.mono (S':=(ob Ar++(B :: []))) bU (aq il au)) a3 im
 have b4:=ax.blk bV (aA (ap (ai S) lr hJ.ho) (aa (Ne.symm a2) av)) cz
 refine uj b4 fun dq cF a4=>?_
 have b5:=ut (ax.mono (S':=(I :: (ob Ar++(B :: [])))) Y (ac im au)) (ut (ax.mono (S':=(ob Ar++(B :: (I :: [])))) aC (aq il au)) (us a3 a4) (ac im (ac im au))) (aq il (ac im (ac im au)))
 have dr:=ut hJ.u (ut (ax.mono (S':=(I :: (ob Ar++(B :: [])))) aY (ac im au)) bV (aq il (ac im au))) (ac im (aq (bv hJ.ho lr) (ac im au)))
 have ds:=ut hJ.u (ut (ax.mono (S':=(I :: (ob Ar++[]))) Y (ac im au)) aC (aq il au)) (ac im (aq (bv hJ.ho lr) au))
 exact⟨by trivial,b5.size,bR,bT,⟨(ut hJ.u b5 (ac im (aq (bv hJ.ho lr) (ac im au)))),(ae.updl (ae.upd (ae.upd (ae.updl hJ.hC Y (aa aw av) hJ.hl rfl) aC (aA (ap (ae.lt bK) lr hJ.ho) av) (bW (cg _ b1 (by decide)) az)) a3 (aa bH av) (ah (aF b3 (by decide)) az)) a4 (aa aw av) b4 rfl),(ax.blk b5 (aa bJ (aA (ap (ai bL) lr hJ.ho) (aa bI av))) hJ.hS),(aQ a4 a2 cD),(am (am b2 a3 (fun x hx=>(aa (fun e=>(ap (ai aW) lr b2) (e▸hx)) av)) (bp.upd16 a3 (ah (aF b3 (by decide)) az))) a4 (fun x hx=>(aa (fun e=>(ap (ai S) lr b2) (e▸hx)) av)) (bp.updl a4 b4 rfl)),cF⟩⟩
 rintro _ cI ⟨rfl,dt,bX,bY,q⟩
 refine⟨_,_,rfl,q.hl,by simp[cm],by trivial,fun du bZ=>?_⟩
 refine ab q.hC fun ba c1 cJ=>?_
 have cK:cI.heap[B]? = some (.cells #[.int .u8 20,.int .u8 0,.int .u16 0,.int .u16 0,.int .u16 0,.int .u16 0,.int .u16 0,.int .u16 0,.int .u16 0,.int .u16 0,.int .u16 0,.int .u16 0,.slice none 0 0,.slice none 0 0,.slice none 0 0,.slice bX ((b6 dH (ak.mk (x49.bytesR ((ak.mk b false 0).byteV)) false 0).l.length 0 (ak.mk (x49.bytesR ((ak.mk b false 0).byteV)) false 0) []).2.length) bY,.int .u8 0,.int .u8 0,.int .u8 0,.int .u8 0,.int .u8 0,.slice none 0 0] 31 (0,0)):=q.hm
 refine bn<|tn<|sg<|Pl 2<|?_
 have aE:=ae.updl cJ bZ (aa aw av) q.hl rfl
 refine L0<|Oc<|mq (b7 aE)<|?_
 have dv:=ae.len aE
 refine Pl 2<|L0<|Oc<|mq (b7 aE)<|?_
 have dw:=ae.len aE
 refine L0<|Oc<|m1 (fm (e:=ba.e)) fun dx cL=>?_
 have F:=aG bZ cL
 have c2:=u1 q.u F im
 have bb:=nb (ai G) aj.size U
 have aH:=ud aL (uz d (u1 i j im)) U
 have bc:=ub (aG aj aH) G
 have bd:=ae.upd aO (ut (ax.mono (S':=[v]) ao au) (ut (ax.mono (S':=[O,v,B]) X au) c2 (ac im (ac im (ac im (ac (ni k.size E) au))))) (ac (nr P) (ac im (ac (ni g.size H) au)))) (aa (Ne.symm bb) av) (ah (aF bc (by decide)) az)
 refine L0<|Oc<|m2 (aM ((ba.e==0)) (de ba.e) bd) fun dy cN T=>?_
 refine ab cN fun c3 c4 bf=>?_
 refine ng<|Pl 1<|L0<|Oc<|m2 (bA bf) fun dz c5 a5=>nt<|sq<|sg<|Pl 1<|L0<|Oc<|mq (b7 c5)<|?_
 have dA:=ae.len c5
 refine Pl 1<|ng<|Pl 2<|nt<|?_
 have a6:=u1 T a5 im
 have bg:=u1 (ax.mono (S':=[O,v,B,I,a1]) c2 (ac im (ac im (ac im (ac im au))))) a6 im
 have bi:=ut (ax.mono (S':=[v]) aB au) bg (ac (ni aH.size P) (ac im (ac (ni (le (le (le (le (le r.size o.size) d.size) i.size) j.size) g.size) H) (ac (ni (le (le (le (le (le (le (le (le r.size o.size) d.size) i.size) j.size) g.size) p.size) h.size) k.size) E) (ac (nr U) au)))))
 have c6:=ud br bi (le af.size Z)
 refine cb ((c3.endC.e != 0)) (fun a7=>?_) (fun a7=>?_)
 have bj:=ay a7
 refine sg<|Pl 2<|?_
 have c8:=ub (ud a0 bi Z) K
 refine L0<|be c8 mZ fun dB cO a8=>Pl 1<|nt<|rt<|tr<|?_
 have c9:=nb (ai K) (le (le (le (le (le (le (le (le (le (le (le N.size z.size) t.size) r.size) o.size) d.size) i.size) j.size) g.size) p.size) h.size) k.size) D
 have cc:=ax.blk (u1 (ax.mono (S':=[O,v,B,I,a1,ad]) bg (ac im (ac im (ac im (ac im (ac im au)))))) a8 im) (aa (Ne.symm (nb (ae.lt Q) (le (le p.size h.size) k.size) D)) (aa (Ne.symm (nb (ai G) (le (le (le (le (le (le (le (le (le (le z.size t.size) r.size) o.size) d.size) i.size) j.size) g.size) p.size) h.size) k.size) D)) (aa (Ne.symm (nb (ai V) (le h.size k.size) D)) (aa bG (aa (Ne.symm (nb (ae.lt M) (le (le (le (le (le (le (le o.size d.size) i.size) j.size) g.size) p.size) h.size) k.size) D)) (aa (Ne.symm c9) av)))))) ar
 refine sW cc fun dC aJ=>?_
 refine rx (aQ aJ c9 cO) (.int .i64 c3.endC.e)<|?_
 subst c4 c1 bx bu
 have cd:=us a8 aJ
 have dD:=us F (us a6 cd)
 have dF:=us F (us a6 a8)
 have dG:=ub (ud a0 (ut (ax.mono (S':=[v]) aB au) q.u (ac (ni aH.size P) (ac im (ac (ni (le (le (le (le (le r.size o.size) d.size) i.size) j.size) g.size) H) (ac (ni (le (le (le (le (le (le (le (le r.size o.size) d.size) i.size) j.size) g.size) p.size) h.size) k.size) E) au))))) Z) K
 have dI:=ae.upd aO (ut (ax.mono (S':=[v]) ao au) (ut (ax.mono (S':=[O,v,B]) X au) q.u (ac im (ac im (ac im (ac (ni k.size E) au))))) (ac (nr P) (ac im (ac (ni g.size H) au)))) (aa (Ne.symm bb) av) (ah (aF bc (by decide)) az)
 have dJ:=us F a6
 have dK:=us F T
 have dL:=am (am (am (am (am q.ho F (fun x hx=>(aa (fun e=>(ap (ai S) lr q.ho) (e▸hx)) av)) (bp.updl F q.hl rfl)) T (fun x hx=>(aa (fun e=>(ap (ae.lt M) (le (le (le (le (le (le (le (le o.size d.size) i.size) j.size) g.size) p.size) h.size) k.size) J.size) q.ho) (e▸hx)) av)) (bp.upd16 T (ah (ae.safe bd _ (by decide)) az))) a5 (fun x hx=>(aa (fun e=>(ap (ae.lt M) (le (le (le (le (le (le (le (le o.size d.size) i.size) j.size) g.size) p.size) h.size) k.size) J.size) q.ho) (e▸hx)) av)) (bp.upd16 a5 (ah (ae.safe bf _ (by decide)) az))) a8 (fun x hx=>(aa (fun e=>(ap (ai K) (le (le (le (le (le (le (le (le (le (le (le (le N.size z.size) t.size) r.size) o.size) d.size) i.size) j.size) g.size) p.size) h.size) k.size) J.size) q.ho) (e▸hx)) av)) (bp.upd16 a8 (ah (aF c8 (by decide)) az))) aJ (fun x hx=>(aa (fun e=>(ap (ai ar) lr q.ho) (e▸hx)) av)) (bp.updl aJ cc rfl)
 have hs:al aZ 0 20 b=aT (bh.mk 20 0 0 0 0 0 0 0 0 0 0 0 [] [] [] (b6 dH (ak.mk ((((ak.mk b false 0).bytesC 1).need (f8 ((ak.mk b false 0).byteV)) 5).bytesR ((ak.mk b false 0).byteV)) false 0).l.length 0 (ak.mk ((((ak.mk b false 0).bytesC 1).need (f8 ((ak.mk b false 0).byteV)) 5).bytesR ((ak.mk b false 0).byteV)) false 0) []).2 0 0 0 0 0 []) (((((ak.mk b false 0).bytesC 1).need (f8 ((ak.mk b false 0).byteV)) 5).bytesC ((ak.mk b false 0).byteV)).need (((b6 dH (ak.mk ((((ak.mk b false 0).bytesC 1).need (f8 ((ak.mk b false 0).byteV)) 5).bytesR ((ak.mk b false 0).byteV)) false 0).l.length 0 (ak.mk ((((ak.mk b false 0).bytesC 1).need (f8 ((ak.mk b false 0).byteV)) 5).bytesR ((ak.mk b false 0).byteV)) false 0) []).1).e==0) (de ((b6 dH (ak.mk ((((ak.mk b false 0).bytesC 1).need (f8 ((ak.mk b false 0).byteV)) 5).bytesR ((ak.mk b false 0).byteV)) false 0).l.length 0 (ak.mk ((((ak.mk b false 0).bytesC 1).need (f8 ((ak.mk b false 0).byteV)) 5).bytesR ((ak.mk b false 0).byteV)) false 0) []).1).e)):=by
   unfold al aZ ee qO rD rF
   (try simp only[a7,bs,if_true,if_false,decide_true,decide_false,eq_self,true_or,or_true,or_false,false_or,if_true,if_false,cG,cC,cH,cE,reduceIte,iO,iQ,iA])
   all_goals rfl
 rw[hs]
 exact aV bj (ut c6 cd (ac (nr bm) (ac (ni (le (le (le (le (le (le (le (le (le (le (le (le af.size N.size) z.size) t.size) r.size) o.size) d.size) i.size) j.size) g.size) p.size) h.size) k.size) D) au)))
 have bj:=ag a7
 refine bC<|sg<|?_
 have bl:=us F a6
 refine L0<|c7 (ax.blk bl (aa a2 (aa (Ne.symm (nb (ae.lt M) (le (le (le (le o.size d.size) i.size) j.size) g.size) H)) av)) cK)<|?_
 have ce:=ub (ud a0 bi Z) K
 refine L0<|be ce (mG 20 0 0 0 0 0 0 0 0 0 0 0 nS nS nS (.slice bX ((b6 dH (ak.mk (x49.bytesR ((ak.mk b false 0).byteV)) false 0).l.length 0 (ak.mk (x49.bytesR ((ak.mk b false 0).byteV)) false 0) []).2.length) bY) 0 0 0 0 0 nS) fun dM cP a9=>Pl 1<|nt<|rt<|?_
 have cf:=nb (ai K) (le (le (le (le (le (le (le (le (le (le (le N.size z.size) t.size) r.size) o.size) d.size) i.size) j.size) g.size) p.size) h.size) k.size) D
 have ch:=ax.blk (u1 (ax.mono (S':=[O,v,B,I,a1,ad]) bg (ac im (ac im (ac im (ac im (ac im au)))))) a9 im) (aa (Ne.symm (nb (ae.lt Q) (le (le p.size h.size) k.size) D)) (aa (Ne.symm (nb (ai G) (le (le (le (le (le (le (le (le (le (le z.size t.size) r.size) o.size) d.size) i.size) j.size) g.size) p.size) h.size) k.size) D)) (aa (Ne.symm (nb (ai V) (le h.size k.size) D)) (aa bG (aa (Ne.symm (nb (ae.lt M) (le (le (le (le (le (le (le o.size d.size) i.size) j.size) g.size) p.size) h.size) k.size) D)) (aa (Ne.symm cf) av)))))) ar
 refine sW ch fun dN aK=>?_
 refine rx (aQ aK cf cP) (.int .i64 0)<|?_
 subst c4 c1 bx bu
 have ci:=us a9 aK
 have dO:=ut (ax.mono (S':=[I,a1,ad,cv]) bl (ac im (ac im au))) ci (ac im (ac im au))
 have dQ:=u1 (ax.mono (S':=[I,a1,ad]) bl (ac im (ac im au))) a9 im
 have dR:=ub (ud a0 (ut (ax.mono (S':=[v]) aB au) q.u (ac (ni aH.size P) (ac im (ac (ni (le (le (le (le (le r.size o.size) d.size) i.size) j.size) g.size) H) (ac (ni (le (le (le (le (le (le (le (le r.size o.size) d.size) i.size) j.size) g.size) p.size) h.size) k.size) E) au))))) Z) K
 have dS:=ae.upd aO (ut (ax.mono (S':=[v]) ao au) (ut (ax.mono (S':=[O,v,B]) X au) q.u (ac im (ac im (ac im (ac (ni k.size E) au))))) (ac (nr P) (ac im (ac (ni g.size H) au)))) (aa (Ne.symm bb) av) (ah (aF bc (by decide)) az)
 have dT:=us F T
 have hs:al aZ 0 20 b=aT (bh.mk 20 0 0 0 0 0 0 0 0 0 0 0 [] [] [] (b6 dH (ak.mk ((((ak.mk b false 0).bytesC 1).need (f8 ((ak.mk b false 0).byteV)) 5).bytesR ((ak.mk b false 0).byteV)) false 0).l.length 0 (ak.mk ((((ak.mk b false 0).bytesC 1).need (f8 ((ak.mk b false 0).byteV)) 5).bytesR ((ak.mk b false 0).byteV)) false 0) []).2 0 0 0 0 0 []) (((((ak.mk b false 0).bytesC 1).need (f8 ((ak.mk b false 0).byteV)) 5).bytesC ((ak.mk b false 0).byteV)).need (((b6 dH (ak.mk ((((ak.mk b false 0).bytesC 1).need (f8 ((ak.mk b false 0).byteV)) 5).bytesR ((ak.mk b false 0).byteV)) false 0).l.length 0 (ak.mk ((((ak.mk b false 0).bytesC 1).need (f8 ((ak.mk b false 0).byteV)) 5).bytesR ((ak.mk b false 0).byteV)) false 0) []).1).e==0) (de ((b6 dH (ak.mk ((((ak.mk b false 0).bytesC 1).need (f8 ((ak.mk b false 0).byteV)) 5).bytesR ((ak.mk b false 0).byteV)) false 0).l.length 0 (ak.mk ((((ak.mk b false 0).bytesC 1).need (f8 ((ak.mk b false 0).byteV)) 5).bytesR ((ak.mk b false 0).byteV)) false 0) []).1).e)):=by
   unfold al aZ ee qO rD rF
   (try simp only[a7,bs,if_true,if_false,decide_true,decide_false,eq_self,true_or,or_true,or_false,false_or,if_true,if_false,cG,cC,cH,cE,reduceIte,iO,iQ,iA])
   all_goals rfl
 rw[hs]
 exact b9 bj ⟨_,_,_,_,_,rfl,aI.nil ..,aI.nil ..,aI.nil ..,((am (am (am (am (am q.ho F (fun x hx=>(aa (fun e=>(ap (ai S) lr q.ho) (e▸hx)) av)) (bp.updl F q.hl rfl)) T (fun x hx=>(aa (fun e=>(ap (ae.lt M) (le (le (le (le (le (le (le (le o.size d.size) i.size) j.size) g.size) p.size) h.size) k.size) J.size) q.ho) (e▸hx)) av)) (bp.upd16 T (ah (ae.safe bd _ (by decide)) az))) a5 (fun x hx=>(aa (fun e=>(ap (ae.lt M) (le (le (le (le (le (le (le (le o.size d.size) i.size) j.size) g.size) p.size) h.size) k.size) J.size) q.ho) (e▸hx)) av)) (bp.upd16 a5 (ah (ae.safe bf _ (by decide)) az))) a9 (fun x hx=>(aa (fun e=>(ap (ai K) (le (le (le (le (le (le (le (le (le (le (le (le N.size z.size) t.size) r.size) o.size) d.size) i.size) j.size) g.size) p.size) h.size) k.size) J.size) q.ho) (e▸hx)) av)) (bp.upd16 a9 (ah (aF ce (by decide)) az))) aK (fun x hx=>(aa (fun e=>(ap (ai ar) lr q.ho) (e▸hx)) av)) (bp.updl aK ch rfl))).rd,aI.nil ..,⟨(b8 (x:=20) (by omega)),(b8 (x:=0) (by omega)),(aD (x:=0) (by omega)),(aD (x:=0) (by omega)),(aD (x:=0) (by omega)),(aD (x:=0) (by omega)),(aD (x:=0) (by omega)),(aD (x:=0) (by omega)),(aD (x:=0) (by omega)),(aD (x:=0) (by omega)),(aD (x:=0) (by omega)),(aD (x:=0) (by omega)),(b8 (x:=0) (by omega)),(b8 (x:=0) (by omega)),(b8 (x:=0) (by omega)),(b8 (x:=0) (by omega)),(b8 (x:=0) (by omega))⟩⟩ (ut c6 ci (ac (nr bm) (ac (ni (le (le (le (le (le (le (le (le (le (le (le (le af.size N.size) z.size) t.size) r.size) o.size) d.size) i.size) j.size) g.size) p.size) h.size) k.size) D) au)))
theorem kq{m:Bool}{A:Option Addr}{cp:Nat}{b:List Int}{w:World}{dir:Int}(hd:dir=0∨dir=1)(hsl:aN m w (.slice A b.length cp) b)(hb:b.length≤1048576) :
    Calls Tryz.prog 64 #[.int .i64 1,.int .u8 20,.slice A b.length cp] w (cM (al aZ 1 20 b) w):=by
 have hln:(b.length:Int)≤1048576:=by omega
 have cR:((dir != 0)&&(dir != 1))=false:=by rcases hd with rfl | rfl<;>rfl
 refine sS 77 Tryz.func64 rfl<|sg<|L0<|bB mZ fun ad cS bm K af=>Pl 1<|nt<|sq<|sg<|Pl 6<|nt<|c0<|?_
 refine bC<|sg<|Pl 2<|L0<|Oc (args:=#[.int .i64 1,.int .u8 20])<|e3 qX fun z cT Z G N=>Pl 3<|L0<|bB #[.nilFunc,.nilFunc] fun cU cV cj bq v=>L0<|be bq #[.func (.func 127) #[] #[],.func (.func 128) #[] #[]] fun cW ck t=>Pl 1<|nt<|sq<|sq<|?_
 refine go<|Pl 2<|nt<|c0<|bC<|sg<|Pl 1<|?_
 have aj:=ud v t cj
 have a0:=aG N aj
 have br:=aG af a0
 refine L0<|Oc<|e3 (ca (aN.old hsl br) (by omega)) fun a1 cX U M r=>Pl 1<|ng<|Pl 1<|L0<|Oc<|m3 (bo M) fun cY cl o cZ=>L0<|Oi ((ak.mk b false 0).byteV)<|Pl 1<|ng<|?_
 refine Pl 2<|?_
 have aL:=ud r o U
 have bt:=ub aL ck
 refine L0<|aU bt 0<|Pl 1<|L0<|eK #[] #[] (args:=#[.int .i64 ((ak.mk b false 0).byteV)])<|m1 (lV (n:=(ak.mk b false 0).byteV) (by omega)) fun d0 d=>?_
 refine L0<|Oc<|m2 (aM ((f7 ((ak.mk b false 0).byteV))) 5 (ae.old cl d)) fun d1 cn i=>?_
 refine ab cn fun x49 bu bw=>?_
 refine ng<|Pl 2<|L0<|Oc<|mY (bD (n:=(ak.mk b false 0).byteV) bw) fun d2 d3 d4 co d5 d6 cq j=>?_
 have d7:=Nat.le_trans (ak.bytesR_le x49 ((ak.mk b false 0).byteV)) (ae.len bw)
 refine ab cq fun x58 bx aO=>?_
 refine L0<|Oc<|e3 (ca co (by omega)) fun O d8 P Q g=>Pl 1<|ng<|Pl 2<|L0<|bB mZ fun B d9 H V p=>L0<|be V (mC 20) fun da cs h=>nt<|sq<|sg<|?_
 refine Pl 2<|?_
 have an:=ud p h H
 have ao:=aG g an
 have bz:=uz d (u1 i (aG j ao) im)
 refine L0<|aU (aQ bz (nb (ai bq) t.size U) bt) 1<|L0<|Oc<|rY (hZ (gb:=O) (f:=.func 128) (x:=#[]) (y:=#[])) fun ct cu db aP aS dc bE bF k=>nt<|bk<|?_
 refine lA (f:=131) #[.pointer (some ⟨ct,0,none⟩),.pointer (some ⟨cu,0,none⟩)] fun a ha=>?_
 intro dd cv I df D E bG ar S J
 have bH:=nb (ae.lt Q) lr H
 have aw:=nb (ae.lt Q) (le (le p.size h.size) k.size) E
 have bI:=nb (ai G) (le (le (le (le (le (le (le v.size t.size) r.size) o.size) d.size) i.size) j.size) g.size) H
 have bJ:=nb (ai G) (le (le (le (le (le (le (le (le (le (le v.size t.size) r.size) o.size) d.size) i.size) j.size) g.size) p.size) h.size) k.size) E
 have a2:=nb (ai V) (le h.size k.size) E
 have X:=aG k J
 have bK:=ae.old Q (aG an X)
 have aB:=ud aL (aG bz X) U
 have bL:=ub (aG aj aB) G
 have aW:=ub X cs
 refine(sx (c:=20) bK bL aW S (ub J bE) (ub J bF) (Ne.symm (nb (ai G) (le (le (le (le (le (le v.size t.size) r.size) o.size) d.size) i.size) j.size) P)) bH aw bI bJ a2 (Ne.symm (nb (ae.lt Q) an.size aP)) (Ne.symm (nb (ai G) (le (le (le (le (le (le (le (le (le v.size t.size) r.size) o.size) d.size) i.size) j.size) g.size) p.size) h.size) aP)) (Ne.symm (nb (ai V) h.size aP)) (nb (ai bE) lr E) (Ne.symm (nb (ae.lt Q) an.size aS)) (Ne.symm (nb (ai G) (le (le (le (le (le (le (le (le (le v.size t.size) r.size) o.size) d.size) i.size) j.size) g.size) p.size) h.size) aS)) (Ne.symm (nb (ai V) h.size aS)) (nb (ai bF) lr E) ?_).mono ?_
 intro W C s L Ar cr x Ax cx hJ hrd hx1 hx2 hx3 hL
 simp only[dp] at hx1 hx2 hx3
 have hm2:W.heap[B]? = some (.cells #[.int .u8 20,.int .u8 0,.int .u16 0,.int .u16 0,.int .u16 0,.int .u16 0,.int .u16 0,.int .u16 0,.int .u16 0,.int .u16 0,.int .u16 0,.int .u16 0,.slice none 0 0,.slice none 0 0,.slice none 0 0,.slice Ar L.length cr,.int .u8 0,.int .u8 0,.int .u8 0,.int .u8 0,.int .u8 0,.slice none 0 0] 31 (0,0)):=hJ.hm
 refine gT hJ.hl ?_
 refine u4 ha 53<|sX<|io<|bB #[.int .u16 0,.int .u16 0,.int .u16 0,.slice none 0 0] fun dg dh bM cw bN=>io<|be cw #[.int .u16 x.file,.int .u16 x.record,.int .u16 x.count,.slice Ax x.words.length cx] fun di cy bO=>ol<|?_
 have bP:=ud bN bO bM
 refine tX (ub bP hJ.hl) (by trivial) fun dj cA aX=>u0<|sX<|sY<|?_
 have aY:=uz bP aX
 have bQ:=aQ aY a2 hm2
 refine io<|aU bQ 15<|?_
 refine io<|c7 (aQ aX (Ne.symm (nb (ai S) hJ.u.size bM)) cy)<|io<|fg (m:=1) (e:=83) #[.int .u16 x.file,.int .u16 x.record,.int .u16 x.count,.slice Ax x.words.length cx] fun dk dl dm cB b0=>?_
 have Y:=aG aY b0
 have cD:=l2 (R:=bp true) (x:=(dP.mk x.file x.record x.count x.words)) cB rfl ⟨_,rfl,(dE.updl hrd Y hJ.hl rfl),aD (by omega),aD (by omega),aD (by omega)⟩
 have b1:=am hJ.ho Y (fun x hx=>(aa (fun e=>(ap (ai S) lr hJ.ho) (e▸hx)) av)) (bp.updl Y hJ.hl rfl)
 refine io<|hG (xs:=L) (ys:=([(dP.mk x.file x.record x.count x.words)])) (.agg #[.int .u16 0,.int .u16 0,.int .u16 0,.slice none 0 0]) 4 32 b1 cD (by simp) bp.ones (fun w' hv=>bp.upd16 hv (bW (cg _ b1 (by decide)) az)) (by(try simp only[List.length_append,List.length_cons,List.length_nil,aR]);omega) (le (le (le (le hJ.u.size bN.size) bO.size) aX.size) b0.size) fun bR bT dn b2 aC=>sY<|?_
 have bU:=ut (ax.mono (S':=(ob Ar++[])) b0 au) aC (aq il au)
 have b3:=ax.blk bU (aA (ap (ai aW) lr hJ.ho) av) bQ
 refine io<|bS b3 15 (mG 20 0 0 0 0 0 0 0 0 0 0 0 nS nS nS (.slice bR ((L++[(dP.mk x.file x.record x.count x.words)]).length) bT) 0 0 0 0 0 nS) fun dq cF a3=>ol<|bn<|?_
 have bV:=u1 (ax.mono (S':=(ob Ar++(B :: []))) bU (aq il au)) a3 im
 have b4:=ax.blk bV (aA (ap (ai S) lr hJ.ho) (aa (Ne.symm a2) av)) cA
 refine uj b4 fun dr cI a4=>?_
 have b5:=ut (ax.mono (S':=(I :: (ob Ar++(B :: [])))) Y (ac im au)) (ut (ax.mono (S':=(ob Ar++(B :: (I :: [])))) aC (aq il au)) (us a3 a4) (ac im (ac im au))) (aq il (ac im (ac im au)))
 have ds:=ut hJ.u (ut (ax.mono (S':=(I :: (ob Ar++(B :: [])))) aY (ac im au)) bV (aq il (ac im au))) (ac im (aq (bv hJ.ho lr) (ac im au)))
 have dt:=ut hJ.u (ut (ax.mono (S':=(I :: (ob Ar++[]))) Y (ac im au)) aC (aq il au)) (ac im (aq (bv hJ.ho lr) au))
 exact⟨by trivial,b5.size,bR,bT,⟨(ut hJ.u b5 (ac im (aq (bv hJ.ho lr) (ac im au)))),(ae.updl (ae.upd (ae.upd (ae.updl hJ.hC Y (aa aw av) hJ.hl rfl) aC (aA (ap (ae.lt bK) lr hJ.ho) av) (bW (cg _ b1 (by decide)) az)) a3 (aa bH av) (ah (aF b3 (by decide)) az)) a4 (aa aw av) b4 rfl),(ax.blk b5 (aa bJ (aA (ap (ai bL) lr hJ.ho) (aa bI av))) hJ.hS),(aQ a4 a2 cF),(am (am b2 a3 (fun x hx=>(aa (fun e=>(ap (ai aW) lr b2) (e▸hx)) av)) (bp.upd16 a3 (ah (aF b3 (by decide)) az))) a4 (fun x hx=>(aa (fun e=>(ap (ai S) lr b2) (e▸hx)) av)) (bp.updl a4 b4 rfl)),cI⟩⟩
 rintro _ cJ ⟨rfl,du,bX,bY,q⟩
 refine⟨_,_,rfl,q.hl,by simp[cm],by trivial,fun dv bZ=>?_⟩
 refine ab q.hC fun ba c1 cK=>?_
 have cL:cJ.heap[B]? = some (.cells #[.int .u8 20,.int .u8 0,.int .u16 0,.int .u16 0,.int .u16 0,.int .u16 0,.int .u16 0,.int .u16 0,.int .u16 0,.int .u16 0,.int .u16 0,.int .u16 0,.slice none 0 0,.slice none 0 0,.slice none 0 0,.slice bX ((b6 cz (ak.mk (x49.bytesR ((ak.mk b false 0).byteV)) false 0).l.length 0 (ak.mk (x49.bytesR ((ak.mk b false 0).byteV)) false 0) []).2.length) bY,.int .u8 0,.int .u8 0,.int .u8 0,.int .u8 0,.int .u8 0,.slice none 0 0] 31 (0,0)):=q.hm
 refine bn<|tn<|sg<|Pl 2<|?_
 have aE:=ae.updl cK bZ (aa aw av) q.hl rfl
 refine L0<|Oc<|mq (b7 aE)<|?_
 have dw:=ae.len aE
 refine Pl 2<|L0<|Oc<|mq (b7 aE)<|?_
 have dx:=ae.len aE
 refine L0<|Oc<|m1 (fm (e:=ba.e)) fun dy cN=>?_
 have F:=aG bZ cN
 have c2:=u1 q.u F im
 have bb:=nb (ai G) aj.size U
 have aH:=ud aL (uz d (u1 i j im)) U
 have bc:=ub (aG aj aH) G
 have bd:=ae.upd aO (ut (ax.mono (S':=[z]) ao au) (ut (ax.mono (S':=[O,z,B]) X au) c2 (ac im (ac im (ac im (ac (ni k.size E) au))))) (ac (nr P) (ac im (ac (ni g.size H) au)))) (aa (Ne.symm bb) av) (ah (aF bc (by decide)) az)
 refine L0<|Oc<|m2 (aM ((ba.e==0)) (de ba.e) bd) fun dz cO T=>?_
 refine ab cO fun c3 c4 bf=>?_
 refine ng<|Pl 1<|L0<|Oc<|m2 (bA bf) fun dA c5 a5=>nt<|sq<|sg<|Pl 1<|L0<|Oc<|mq (b7 c5)<|?_
 have dB:=ae.len c5
 refine Pl 1<|ng<|Pl 2<|nt<|?_
 have a6:=u1 T a5 im
 have bg:=u1 (ax.mono (S':=[O,z,B,I,a1]) c2 (ac im (ac im (ac im (ac im au))))) a6 im
 have bi:=ut (ax.mono (S':=[z]) aB au) bg (ac (ni aH.size P) (ac im (ac (ni (le (le (le (le (le r.size o.size) d.size) i.size) j.size) g.size) H) (ac (ni (le (le (le (le (le (le (le (le r.size o.size) d.size) i.size) j.size) g.size) p.size) h.size) k.size) E) (ac (nr U) au)))))
 have c6:=ud br bi (le af.size Z)
 refine cb ((c3.endC.e != 0)) (fun a7=>?_) (fun a7=>?_)
 have bj:=ay a7
 refine sg<|Pl 2<|?_
 have c8:=ub (ud a0 bi Z) K
 refine L0<|be c8 mZ fun dC cP a8=>Pl 1<|nt<|rt<|tr<|?_
 have c9:=nb (ai K) (le (le (le (le (le (le (le (le (le (le (le N.size v.size) t.size) r.size) o.size) d.size) i.size) j.size) g.size) p.size) h.size) k.size) D
 have cc:=ax.blk (u1 (ax.mono (S':=[O,z,B,I,a1,ad]) bg (ac im (ac im (ac im (ac im (ac im au)))))) a8 im) (aa (Ne.symm (nb (ae.lt Q) (le (le p.size h.size) k.size) D)) (aa (Ne.symm (nb (ai G) (le (le (le (le (le (le (le (le (le (le v.size t.size) r.size) o.size) d.size) i.size) j.size) g.size) p.size) h.size) k.size) D)) (aa (Ne.symm (nb (ai V) (le h.size k.size) D)) (aa bG (aa (Ne.symm (nb (ae.lt M) (le (le (le (le (le (le (le o.size d.size) i.size) j.size) g.size) p.size) h.size) k.size) D)) (aa (Ne.symm c9) av)))))) ar
 refine sW cc fun dD aJ=>?_
 refine rx (aQ aJ c9 cP) (.int .i64 c3.endC.e)<|?_
 subst c4 c1 bx bu
 have cd:=us a8 aJ
 have dF:=us F (us a6 cd)
 have dG:=us F (us a6 a8)
 have dH:=ub (ud a0 (ut (ax.mono (S':=[z]) aB au) q.u (ac (ni aH.size P) (ac im (ac (ni (le (le (le (le (le r.size o.size) d.size) i.size) j.size) g.size) H) (ac (ni (le (le (le (le (le (le (le (le r.size o.size) d.size) i.size) j.size) g.size) p.size) h.size) k.size) E) au))))) Z) K
 have dI:=ae.upd aO (ut (ax.mono (S':=[z]) ao au) (ut (ax.mono (S':=[O,z,B]) X au) q.u (ac im (ac im (ac im (ac (ni k.size E) au))))) (ac (nr P) (ac im (ac (ni g.size H) au)))) (aa (Ne.symm bb) av) (ah (aF bc (by decide)) az)
 have dJ:=us F a6
 have dK:=us F T
 have dL:=am (am (am (am (am q.ho F (fun x hx=>(aa (fun e=>(ap (ai S) lr q.ho) (e▸hx)) av)) (bp.updl F q.hl rfl)) T (fun x hx=>(aa (fun e=>(ap (ae.lt M) (le (le (le (le (le (le (le (le o.size d.size) i.size) j.size) g.size) p.size) h.size) k.size) J.size) q.ho) (e▸hx)) av)) (bp.upd16 T (ah (ae.safe bd _ (by decide)) az))) a5 (fun x hx=>(aa (fun e=>(ap (ae.lt M) (le (le (le (le (le (le (le (le o.size d.size) i.size) j.size) g.size) p.size) h.size) k.size) J.size) q.ho) (e▸hx)) av)) (bp.upd16 a5 (ah (ae.safe bf _ (by decide)) az))) a8 (fun x hx=>(aa (fun e=>(ap (ai K) (le (le (le (le (le (le (le (le (le (le (le (le N.size v.size) t.size) r.size) o.size) d.size) i.size) j.size) g.size) p.size) h.size) k.size) J.size) q.ho) (e▸hx)) av)) (bp.upd16 a8 (ah (aF c8 (by decide)) az))) aJ (fun x hx=>(aa (fun e=>(ap (ai ar) lr q.ho) (e▸hx)) av)) (bp.updl aJ cc rfl)
 have hs:al aZ 1 20 b=aT (bh.mk 20 0 0 0 0 0 0 0 0 0 0 0 [] [] [] (b6 cz (ak.mk ((((ak.mk b false 0).bytesC 1).need (f7 ((ak.mk b false 0).byteV)) 5).bytesR ((ak.mk b false 0).byteV)) false 0).l.length 0 (ak.mk ((((ak.mk b false 0).bytesC 1).need (f7 ((ak.mk b false 0).byteV)) 5).bytesR ((ak.mk b false 0).byteV)) false 0) []).2 0 0 0 0 0 []) (((((ak.mk b false 0).bytesC 1).need (f7 ((ak.mk b false 0).byteV)) 5).bytesC ((ak.mk b false 0).byteV)).need (((b6 cz (ak.mk ((((ak.mk b false 0).bytesC 1).need (f7 ((ak.mk b false 0).byteV)) 5).bytesR ((ak.mk b false 0).byteV)) false 0).l.length 0 (ak.mk ((((ak.mk b false 0).bytesC 1).need (f7 ((ak.mk b false 0).byteV)) 5).bytesR ((ak.mk b false 0).byteV)) false 0) []).1).e==0) (de ((b6 cz (ak.mk ((((ak.mk b false 0).bytesC 1).need (f7 ((ak.mk b false 0).byteV)) 5).bytesR ((ak.mk b false 0).byteV)) false 0).l.length 0 (ak.mk ((((ak.mk b false 0).bytesC 1).need (f7 ((ak.mk b false 0).byteV)) 5).bytesR ((ak.mk b false 0).byteV)) false 0) []).1).e)):=by
   unfold al aZ ee qO rD rF
   (try simp only[a7,bs,if_true,if_false,decide_true,decide_false,eq_self,true_or,or_true,or_false,false_or,if_true,if_false,cG,cC,cH,cE,reduceIte,iO,iQ,iA])
   all_goals rfl
 rw[hs]
 exact aV bj (ut c6 cd (ac (nr bm) (ac (ni (le (le (le (le (le (le (le (le (le (le (le (le af.size N.size) v.size) t.size) r.size) o.size) d.size) i.size) j.size) g.size) p.size) h.size) k.size) D) au)))
 have bj:=ag a7
 refine bC<|sg<|?_
 have bl:=us F a6
 refine L0<|c7 (ax.blk bl (aa a2 (aa (Ne.symm (nb (ae.lt M) (le (le (le (le o.size d.size) i.size) j.size) g.size) H)) av)) cL)<|?_
 have ce:=ub (ud a0 bi Z) K
 refine L0<|be ce (mG 20 0 0 0 0 0 0 0 0 0 0 0 nS nS nS (.slice bX ((b6 cz (ak.mk (x49.bytesR ((ak.mk b false 0).byteV)) false 0).l.length 0 (ak.mk (x49.bytesR ((ak.mk b false 0).byteV)) false 0) []).2.length) bY) 0 0 0 0 0 nS) fun dM cQ a9=>Pl 1<|nt<|rt<|?_
 have cf:=nb (ai K) (le (le (le (le (le (le (le (le (le (le (le N.size v.size) t.size) r.size) o.size) d.size) i.size) j.size) g.size) p.size) h.size) k.size) D
 have ch:=ax.blk (u1 (ax.mono (S':=[O,z,B,I,a1,ad]) bg (ac im (ac im (ac im (ac im (ac im au)))))) a9 im) (aa (Ne.symm (nb (ae.lt Q) (le (le p.size h.size) k.size) D)) (aa (Ne.symm (nb (ai G) (le (le (le (le (le (le (le (le (le (le v.size t.size) r.size) o.size) d.size) i.size) j.size) g.size) p.size) h.size) k.size) D)) (aa (Ne.symm (nb (ai V) (le h.size k.size) D)) (aa bG (aa (Ne.symm (nb (ae.lt M) (le (le (le (le (le (le (le o.size d.size) i.size) j.size) g.size) p.size) h.size) k.size) D)) (aa (Ne.symm cf) av)))))) ar
 refine sW ch fun dN aK=>?_
 refine rx (aQ aK cf cQ) (.int .i64 0)<|?_
 subst c4 c1 bx bu
 have ci:=us a9 aK
 have dO:=ut (ax.mono (S':=[I,a1,ad,cv]) bl (ac im (ac im au))) ci (ac im (ac im au))
 have dQ:=u1 (ax.mono (S':=[I,a1,ad]) bl (ac im (ac im au))) a9 im
 have dR:=ub (ud a0 (ut (ax.mono (S':=[z]) aB au) q.u (ac (ni aH.size P) (ac im (ac (ni (le (le (le (le (le r.size o.size) d.size) i.size) j.size) g.size) H) (ac (ni (le (le (le (le (le (le (le (le r.size o.size) d.size) i.size) j.size) g.size) p.size) h.size) k.size) E) au))))) Z) K
 have dS:=ae.upd aO (ut (ax.mono (S':=[z]) ao au) (ut (ax.mono (S':=[O,z,B]) X au) q.u (ac im (ac im (ac im (ac (ni k.size E) au))))) (ac (nr P) (ac im (ac (ni g.size H) au)))) (aa (Ne.symm bb) av) (ah (aF bc (by decide)) az)
 have dT:=us F T
 have hs:al aZ 1 20 b=aT (bh.mk 20 0 0 0 0 0 0 0 0 0 0 0 [] [] [] (b6 cz (ak.mk ((((ak.mk b false 0).bytesC 1).need (f7 ((ak.mk b false 0).byteV)) 5).bytesR ((ak.mk b false 0).byteV)) false 0).l.length 0 (ak.mk ((((ak.mk b false 0).bytesC 1).need (f7 ((ak.mk b false 0).byteV)) 5).bytesR ((ak.mk b false 0).byteV)) false 0) []).2 0 0 0 0 0 []) (((((ak.mk b false 0).bytesC 1).need (f7 ((ak.mk b false 0).byteV)) 5).bytesC ((ak.mk b false 0).byteV)).need (((b6 cz (ak.mk ((((ak.mk b false 0).bytesC 1).need (f7 ((ak.mk b false 0).byteV)) 5).bytesR ((ak.mk b false 0).byteV)) false 0).l.length 0 (ak.mk ((((ak.mk b false 0).bytesC 1).need (f7 ((ak.mk b false 0).byteV)) 5).bytesR ((ak.mk b false 0).byteV)) false 0) []).1).e==0) (de ((b6 cz (ak.mk ((((ak.mk b false 0).bytesC 1).need (f7 ((ak.mk b false 0).byteV)) 5).bytesR ((ak.mk b false 0).byteV)) false 0).l.length 0 (ak.mk ((((ak.mk b false 0).bytesC 1).need (f7 ((ak.mk b false 0).byteV)) 5).bytesR ((ak.mk b false 0).byteV)) false 0) []).1).e)):=by
   unfold al aZ ee qO rD rF
   (try simp only[a7,bs,if_true,if_false,decide_true,decide_false,eq_self,true_or,or_true,or_false,false_or,if_true,if_false,cG,cC,cH,cE,reduceIte,iO,iQ,iA])
   all_goals rfl
 rw[hs]
 exact b9 bj ⟨_,_,_,_,_,rfl,aI.nil ..,aI.nil ..,aI.nil ..,((am (am (am (am (am q.ho F (fun x hx=>(aa (fun e=>(ap (ai S) lr q.ho) (e▸hx)) av)) (bp.updl F q.hl rfl)) T (fun x hx=>(aa (fun e=>(ap (ae.lt M) (le (le (le (le (le (le (le (le o.size d.size) i.size) j.size) g.size) p.size) h.size) k.size) J.size) q.ho) (e▸hx)) av)) (bp.upd16 T (ah (ae.safe bd _ (by decide)) az))) a5 (fun x hx=>(aa (fun e=>(ap (ae.lt M) (le (le (le (le (le (le (le (le o.size d.size) i.size) j.size) g.size) p.size) h.size) k.size) J.size) q.ho) (e▸hx)) av)) (bp.upd16 a5 (ah (ae.safe bf _ (by decide)) az))) a9 (fun x hx=>(aa (fun e=>(ap (ai K) (le (le (le (le (le (le (le (le (le (le (le (le N.size v.size) t.size) r.size) o.size) d.size) i.size) j.size) g.size) p.size) h.size) k.size) J.size) q.ho) (e▸hx)) av)) (bp.upd16 a9 (ah (aF ce (by decide)) az))) aK (fun x hx=>(aa (fun e=>(ap (ai ar) lr q.ho) (e▸hx)) av)) (bp.updl aK ch rfl))).rd,aI.nil ..,⟨(b8 (x:=20) (by omega)),(b8 (x:=0) (by omega)),(aD (x:=0) (by omega)),(aD (x:=0) (by omega)),(aD (x:=0) (by omega)),(aD (x:=0) (by omega)),(aD (x:=0) (by omega)),(aD (x:=0) (by omega)),(aD (x:=0) (by omega)),(aD (x:=0) (by omega)),(aD (x:=0) (by omega)),(aD (x:=0) (by omega)),(b8 (x:=0) (by omega)),(b8 (x:=0) (by omega)),(b8 (x:=0) (by omega)),(b8 (x:=0) (by omega)),(b8 (x:=0) (by omega))⟩⟩ (ut c6 ci (ac (nr bm) (ac (ni (le (le (le (le (le (le (le (le (le (le (le (le af.size N.size) v.size) t.size) r.size) o.size) d.size) i.size) j.size) g.size) p.size) h.size) k.size) D) au)))
theorem it{m:Bool}{A:Option Addr}{cp:Nat}{b:List Int}{w:World}{dir:Int}(hd:dir=0∨dir=1)(hsl:aN m w (.slice A b.length cp) b)(hb:b.length≤1048576) :
    Calls Tryz.prog 64 #[.int .i64 dir,.int .u8 21,.slice A b.length cp] w (cM (al aZ dir 21 b) w):=by
 have hln:(b.length:Int)≤1048576:=by omega
 have aP:((dir != 0)&&(dir != 1))=false:=by rcases hd with rfl | rfl<;>rfl
 refine sS 77 Tryz.func64 rfl<|sg<|L0<|bB mZ fun aj cZ bu M an=>Pl 1<|nt<|sq<|sg<|Pl 3<|cu 3 [18] 21 (((dir != 0)&&(dir != 1))) (fun K bw=>?_) ?_
 refine bl 18 ((dir != 0)) (fun a0=>?_) (fun a0=>?_)
 have ct:=ay a0
 exact Pl 3<|ce bw (dir != 1) (by rw[a0];rfl)
 have ct:=ag a0
 exact Pl 3<|ce bw false (by rw[a0];rfl)
 refine nt<|cf aP<|bC<|sg<|Pl 2<|L0<|Oc (args:=#[.int .i64 dir,.int .u8 21])<|e3 r9 fun z d0 a1 G O=>Pl 3<|L0<|bB #[.nilFunc,.nilFunc] fun d1 d2 cv bx v=>L0<|be bx #[.func (.func 129) #[] #[],.func (.func 130) #[] #[]] fun d3 cw t=>Pl 1<|nl<|?_
 refine tn<|sq<|sg<|Pl 2<|nt<|c0<|bC<|sg<|Pl 1<|?_
 have ao:=ud v t cv
 have a2:=aG O ao
 have bz:=aG an a2
 refine L0<|Oc<|e3 (ca (aN.old hsl bz) (by omega)) fun a3 d4 V N r=>Pl 1<|ng<|Pl 1<|L0<|Oc<|m3 (bo N) fun d5 cy o d6=>L0<|Oi ((ak.mk b false 0).byteV)<|Pl 1<|ng<|?_
 refine Pl 2<|?_
 have aS:=ud r o V
 have bE:=ub aS cw
 refine L0<|aU bE 0<|Pl 1<|L0<|eK #[] #[] (args:=#[.int .i64 ((ak.mk b false 0).byteV)])<|m1 (lX (n:=(ak.mk b false 0).byteV) (by omega)) fun d7 d=>?_
 refine L0<|Oc<|m2 (aM ((f6 ((ak.mk b false 0).byteV))) 5 (ae.old cy d)) fun d8 cz i=>?_
 refine ab cz fun x51 bF bG=>?_
 refine ng<|Pl 2<|L0<|Oc<|mY (bD (n:=(ak.mk b false 0).byteV) bG) fun d9 da db cA dc dd cB j=>?_
 have df:=Nat.le_trans (ak.bytesR_le x51 ((ak.mk b false 0).byteV)) (ae.len bG)
 refine ab cB fun x60 bH aW=>?_
 refine L0<|Oc<|e3 (ca cA (by omega)) fun P dg Q S g=>Pl 1<|ng<|Pl 2<|L0<|bB mZ fun B dh H X p=>L0<|be X (mC 21) fun di cD h=>nt<|sq<|sg<|?_
 refine Pl 2<|?_
 have ar:=ud p h H
 have aw:=aG g ar
 have bI:=uz d (u1 i (aG j aw) im)
 refine L0<|aU (aQ bI (nb (ai bx) t.size V) bE) 1<|L0<|Oc<|rY (hZ (gb:=P) (f:=.func 130) (x:=#[]) (y:=#[])) fun cF cI dj aX aY dk bJ bK k=>nt<|bk<|?_
 refine lA (f:=131) #[.pointer (some ⟨cF,0,none⟩),.pointer (some ⟨cI,0,none⟩)] fun a ha=>?_
 intro dl cJ I dm D E bL aB T J
 have bM:=nb (ae.lt S) lr H
 have aC:=nb (ae.lt S) (le (le p.size h.size) k.size) E
 have bN:=nb (ai G) (le (le (le (le (le (le (le v.size t.size) r.size) o.size) d.size) i.size) j.size) g.size) H
 have bO:=nb (ai G) (le (le (le (le (le (le (le (le (le (le v.size t.size) r.size) o.size) d.size) i.size) j.size) g.size) p.size) h.size) k.size) E
 have a4:=nb (ai X) (le h.size k.size) E
 have Y:=aG k J
 have bP:=ae.old S (aG ar Y)
 have aE:=ud aS (aG bI Y) V
 have bQ:=ub (aG ao aE) G
 have b0:=ub Y cD
 refine(sC (c:=21) bP bQ b0 T (ub J bJ) (ub J bK) (Ne.symm (nb (ai G) (le (le (le (le (le (le v.size t.size) r.size) o.size) d.size) i.size) j.size) Q)) bM aC bN bO a4 (Ne.symm (nb (ae.lt S) ar.size aX)) (Ne.symm (nb (ai G) (le (le (le (le (le (le (le (le (le v.size t.size) r.size) o.size) d.size) i.size) j.size) g.size) p.size) h.size) aX)) (Ne.symm (nb (ai X) h.size aX)) (nb (ai bJ) lr E) (Ne.symm (nb (ae.lt S) ar.size aY)) (Ne.symm (nb (ai G) (le (le (le (le (le (le (le (le (le v.size t.size) r.size) o.size) d.size) i.size) j.size) g.size) p.size) h.size) aY)) (Ne.symm (nb (ai X) h.size aY)) (nb (ai bK) lr E) ?_).mono ?_
 intro W C s L Ar cr x Ax cx hJ hrd hx1 hx2 hx3 hL
 simp only[dp] at hx1 hx2 hx3
 have hm2:W.heap[B]? = some (.cells #[.int .u8 21,.int .u8 0,.int .u16 0,.int .u16 0,.int .u16 0,.int .u16 0,.int .u16 0,.int .u16 0,.int .u16 0,.int .u16 0,.int .u16 0,.int .u16 0,.slice none 0 0,.slice none 0 0,.slice none 0 0,.slice Ar L.length cr,.int .u8 0,.int .u8 0,.int .u8 0,.int .u8 0,.int .u8 0,.slice none 0 0] 31 (0,0)):=hJ.hm
 refine gT hJ.hl ?_
 refine u4 ha 53<|sX<|io<|bB #[.int .u16 0,.int .u16 0,.int .u16 0,.slice none 0 0] fun dn dq bR cK bT=>io<|be cK #[.int .u16 x.file,.int .u16 x.record,.int .u16 x.count,.slice Ax x.words.length cx] fun dr cL bU=>ol<|?_
 have bV:=ud bT bU bR
 refine tX (ub bV hJ.hl) (by trivial) fun ds cN b1=>u0<|sX<|sY<|?_
 have b2:=uz bV b1
 have bX:=aQ b2 a4 hm2
 refine io<|aU bX 15<|?_
 refine io<|c7 (aQ b1 (Ne.symm (nb (ai T) hJ.u.size bR)) cL)<|io<|fg (m:=1) (e:=83) #[.int .u16 x.file,.int .u16 x.record,.int .u16 x.count,.slice Ax x.words.length cx] fun dt du dv cO b3=>?_
 have Z:=aG b2 b3
 have cP:=l2 (R:=bp true) (x:=(dP.mk x.file x.record x.count x.words)) cO rfl ⟨_,rfl,(dE.updl hrd Z hJ.hl rfl),aD (by omega),aD (by omega),aD (by omega)⟩
 have b4:=am hJ.ho Z (fun x hx=>(aa (fun e=>(ap (ai T) lr hJ.ho) (e▸hx)) av)) (bp.updl Z hJ.hl rfl)
 refine io<|hG (xs:=L) (ys:=([(dP.mk x.file x.record x.count x.words)])) (.agg #[.int .u16 0,.int .u16 0,.int .u16 0,.slice none 0 0]) 4 32 b4 cP (by simp) bp.ones (fun w' hv=>bp.upd16 hv (bW (cg _ b4 (by decide)) az)) (by(try simp only[List.length_append,List.length_cons,List.length_nil,aR]);omega) (le (le (le (le hJ.u.size bT.size) bU.size) b1.size) b3.size) fun bY bZ dw b5 aH=>sY<|?_
 have c1:=ut (ax.mono (S':=(ob Ar++[])) b3 au) aH (aq il au)
 have ba:=ax.blk c1 (aA (ap (ai b0) lr hJ.ho) av) bX
 refine io<|bS ba 15 (mG 21 0 0 0 0 0 0 0 0 0 0 0 nS nS nS (.slice bY ((L++[(dP.mk x.file x.record x.count x.words)]).length) bZ) 0 0 0 0 0 nS) fun dx cQ a5=>ol<|bn<|?_
 have c2:=u1 (ax.mono (S':=(ob Ar++(B :: []))) c1 (aq il au)) a5 im
 have bb:=ax.blk c2 (aA (ap (ai T) lr hJ.ho) (aa (Ne.symm a4) av)) cN
 refine uj bb fun dy cR a6=>?_
 have bc:=ut (ax.mono (S':=(I :: (ob Ar++(B :: [])))) Z (ac im au)) (ut (ax.mono (S':=(ob Ar++(B :: (I :: [])))) aH (aq il au)) (us a5 a6) (ac im (ac im au))) (aq il (ac im (ac im au)))
 have dA:=ut hJ.u (ut (ax.mono (S':=(I :: (ob Ar++(B :: [])))) b2 (ac im au)) c2 (aq il (ac im au))) (ac im (aq (bv hJ.ho lr) (ac im au)))
 have dB:=ut hJ.u (ut (ax.mono (S':=(I :: (ob Ar++[]))) Z (ac im au)) aH (aq il au)) (ac im (aq (bv hJ.ho lr) au))
 exact⟨by trivial,bc.size,bY,bZ,⟨(ut hJ.u bc (ac im (aq (bv hJ.ho lr) (ac im au)))),(ae.updl (ae.upd (ae.upd (ae.updl hJ.hC Z (aa aC av) hJ.hl rfl) aH (aA (ap (ae.lt bP) lr hJ.ho) av) (bW (cg _ b4 (by decide)) az)) a5 (aa bM av) (ah (aF ba (by decide)) az)) a6 (aa aC av) bb rfl),(ax.blk bc (aa bO (aA (ap (ai bQ) lr hJ.ho) (aa bN av))) hJ.hS),(aQ a6 a4 cQ),(am (am b5 a5 (fun x hx=>(aa (fun e=>(ap (ai b0) lr b5) (e▸hx)) av)) (bp.upd16 a5 (ah (aF ba (by decide)) az))) a6 (fun x hx=>(aa (fun e=>(ap (ai T) lr b5) (e▸hx)) av)) (bp.updl a6 bb rfl)),cR⟩⟩
 rintro _ cS ⟨rfl,dC,c3,c4,q⟩
 refine⟨_,_,rfl,q.hl,by simp[cm],by trivial,fun dD c5=>?_⟩
 refine ab q.hC fun bd c6 cT=>?_
 have cU:cS.heap[B]? = some (.cells #[.int .u8 21,.int .u8 0,.int .u16 0,.int .u16 0,.int .u16 0,.int .u16 0,.int .u16 0,.int .u16 0,.int .u16 0,.int .u16 0,.int .u16 0,.int .u16 0,.slice none 0 0,.slice none 0 0,.slice none 0 0,.slice c3 ((b6 dz (ak.mk (x51.bytesR ((ak.mk b false 0).byteV)) false 0).l.length 0 (ak.mk (x51.bytesR ((ak.mk b false 0).byteV)) false 0) []).2.length) c4,.int .u8 0,.int .u8 0,.int .u8 0,.int .u8 0,.int .u8 0,.slice none 0 0] 31 (0,0)):=q.hm
 refine bn<|tn<|sg<|Pl 2<|?_
 have aJ:=ae.updl cT c5 (aa aC av) q.hl rfl
 refine L0<|Oc<|mq (b7 aJ)<|?_
 have dF:=ae.len aJ
 refine Pl 2<|L0<|Oc<|mq (b7 aJ)<|?_
 have dG:=ae.len aJ
 refine L0<|Oc<|m1 (fm (e:=bd.e)) fun dH cV=>?_
 have F:=aG c5 cV
 have c8:=u1 q.u F im
 have bf:=nb (ai G) ao.size V
 have aK:=ud aS (uz d (u1 i j im)) V
 have bg:=ub (aG ao aK) G
 have bi:=ae.upd aW (ut (ax.mono (S':=[z]) aw au) (ut (ax.mono (S':=[P,z,B]) Y au) c8 (ac im (ac im (ac im (ac (ni k.size E) au))))) (ac (nr Q) (ac im (ac (ni g.size H) au)))) (aa (Ne.symm bf) av) (ah (aF bg (by decide)) az)
 refine L0<|Oc<|m2 (aM ((bd.e==0)) (de bd.e) bi) fun dI cW U=>?_
 refine ab cW fun c9 cc bj=>?_
 refine ng<|Pl 1<|L0<|Oc<|m2 (bA bj) fun dJ cd a7=>nt<|sq<|sg<|Pl 1<|L0<|Oc<|mq (b7 cd)<|?_
 have dK:=ae.len cd
 refine Pl 1<|ng<|Pl 2<|nt<|?_
 have a8:=u1 U a7 im
 have bm:=u1 (ax.mono (S':=[P,z,B,I,a3]) c8 (ac im (ac im (ac im (ac im au))))) a8 im
 have bq:=ut (ax.mono (S':=[z]) aE au) bm (ac (ni aK.size Q) (ac im (ac (ni (le (le (le (le (le r.size o.size) d.size) i.size) j.size) g.size) H) (ac (ni (le (le (le (le (le (le (le (le r.size o.size) d.size) i.size) j.size) g.size) p.size) h.size) k.size) E) (ac (nr V) au)))))
 have ch:=ud bz bq (le an.size a1)
 refine cb ((c9.endC.e != 0)) (fun a9=>?_) (fun a9=>?_)
 have br:=ay a9
 refine sg<|Pl 2<|?_
 have ci:=ub (ud a2 bq a1) M
 refine L0<|be ci mZ fun dL cX ad=>Pl 1<|nt<|rt<|tr<|?_
 have cj:=nb (ai M) (le (le (le (le (le (le (le (le (le (le (le O.size v.size) t.size) r.size) o.size) d.size) i.size) j.size) g.size) p.size) h.size) k.size) D
 have ck:=ax.blk (u1 (ax.mono (S':=[P,z,B,I,a3,aj]) bm (ac im (ac im (ac im (ac im (ac im au)))))) ad im) (aa (Ne.symm (nb (ae.lt S) (le (le p.size h.size) k.size) D)) (aa (Ne.symm (nb (ai G) (le (le (le (le (le (le (le (le (le (le v.size t.size) r.size) o.size) d.size) i.size) j.size) g.size) p.size) h.size) k.size) D)) (aa (Ne.symm (nb (ai X) (le h.size k.size) D)) (aa bL (aa (Ne.symm (nb (ae.lt N) (le (le (le (le (le (le (le o.size d.size) i.size) j.size) g.size) p.size) h.size) k.size) D)) (aa (Ne.symm cj) av)))))) aB
 refine sW ck fun dM aL=>?_
 refine rx (aQ aL cj cX) (.int .i64 c9.endC.e)<|?_
 subst cc c6 bH bF
 have cl:=us ad aL
 have dN:=us F (us a8 cl)
 have dO:=us F (us a8 ad)
 have dQ:=ub (ud a2 (ut (ax.mono (S':=[z]) aE au) q.u (ac (ni aK.size Q) (ac im (ac (ni (le (le (le (le (le r.size o.size) d.size) i.size) j.size) g.size) H) (ac (ni (le (le (le (le (le (le (le (le r.size o.size) d.size) i.size) j.size) g.size) p.size) h.size) k.size) E) au))))) a1) M
 have dR:=ae.upd aW (ut (ax.mono (S':=[z]) aw au) (ut (ax.mono (S':=[P,z,B]) Y au) q.u (ac im (ac im (ac im (ac (ni k.size E) au))))) (ac (nr Q) (ac im (ac (ni g.size H) au)))) (aa (Ne.symm bf) av) (ah (aF bg (by decide)) az)
 have dS:=us F a8
 have dT:=us F U
 have dU:=am (am (am (am (am q.ho F (fun x hx=>(aa (fun e=>(ap (ai T) lr q.ho) (e▸hx)) av)) (bp.updl F q.hl rfl)) U (fun x hx=>(aa (fun e=>(ap (ae.lt N) (le (le (le (le (le (le (le (le o.size d.size) i.size) j.size) g.size) p.size) h.size) k.size) J.size) q.ho) (e▸hx)) av)) (bp.upd16 U (ah (ae.safe bi _ (by decide)) az))) a7 (fun x hx=>(aa (fun e=>(ap (ae.lt N) (le (le (le (le (le (le (le (le o.size d.size) i.size) j.size) g.size) p.size) h.size) k.size) J.size) q.ho) (e▸hx)) av)) (bp.upd16 a7 (ah (ae.safe bj _ (by decide)) az))) ad (fun x hx=>(aa (fun e=>(ap (ai M) (le (le (le (le (le (le (le (le (le (le (le (le O.size v.size) t.size) r.size) o.size) d.size) i.size) j.size) g.size) p.size) h.size) k.size) J.size) q.ho) (e▸hx)) av)) (bp.upd16 ad (ah (aF ci (by decide)) az))) aL (fun x hx=>(aa (fun e=>(ap (ai aB) lr q.ho) (e▸hx)) av)) (bp.updl aL ck rfl)
 have hs:al aZ dir 21 b=aT (bh.mk 21 0 0 0 0 0 0 0 0 0 0 0 [] [] [] (b6 dz (ak.mk ((((ak.mk b false 0).bytesC 1).need (f6 ((ak.mk b false 0).byteV)) 5).bytesR ((ak.mk b false 0).byteV)) false 0).l.length 0 (ak.mk ((((ak.mk b false 0).bytesC 1).need (f6 ((ak.mk b false 0).byteV)) 5).bytesR ((ak.mk b false 0).byteV)) false 0) []).2 0 0 0 0 0 []) (((((ak.mk b false 0).bytesC 1).need (f6 ((ak.mk b false 0).byteV)) 5).bytesC ((ak.mk b false 0).byteV)).need (((b6 dz (ak.mk ((((ak.mk b false 0).bytesC 1).need (f6 ((ak.mk b false 0).byteV)) 5).bytesR ((ak.mk b false 0).byteV)) false 0).l.length 0 (ak.mk ((((ak.mk b false 0).bytesC 1).need (f6 ((ak.mk b false 0).byteV)) 5).bytesR ((ak.mk b false 0).byteV)) false 0) []).1).e==0) (de ((b6 dz (ak.mk ((((ak.mk b false 0).bytesC 1).need (f6 ((ak.mk b false 0).byteV)) 5).bytesR ((ak.mk b false 0).byteV)) false 0).l.length 0 (ak.mk ((((ak.mk b false 0).bytesC 1).need (f6 ((ak.mk b false 0).byteV)) 5).bytesR ((ak.mk b false 0).byteV)) false 0) []).1).e)):=by
   unfold al aZ ee qO rD rF
   (try simp only[aP,a9,bs,if_true,if_false,decide_true,decide_false,eq_self,true_or,or_true,or_false,false_or,if_true,if_false,cG,cC,cH,cE,reduceIte,iO,iQ,iA,if_pos hd])
   all_goals rfl
 rw[hs]
 exact aV br (ut ch cl (ac (nr bu) (ac (ni (le (le (le (le (le (le (le (le (le (le (le (le an.size O.size) v.size) t.size) r.size) o.size) d.size) i.size) j.size) g.size) p.size) h.size) k.size) D) au)))
 have br:=ag a9
 refine bC<|sg<|?_
 have bt:=us F a8
 refine L0<|c7 (ax.blk bt (aa a4 (aa (Ne.symm (nb (ae.lt N) (le (le (le (le o.size d.size) i.size) j.size) g.size) H)) av)) cU)<|?_
 have cn:=ub (ud a2 bq a1) M
 refine L0<|be cn (mG 21 0 0 0 0 0 0 0 0 0 0 0 nS nS nS (.slice c3 ((b6 dz (ak.mk (x51.bytesR ((ak.mk b false 0).byteV)) false 0).l.length 0 (ak.mk (x51.bytesR ((ak.mk b false 0).byteV)) false 0) []).2.length) c4) 0 0 0 0 0 nS) fun dV cY af=>Pl 1<|nt<|rt<|?_
 have co:=nb (ai M) (le (le (le (le (le (le (le (le (le (le (le O.size v.size) t.size) r.size) o.size) d.size) i.size) j.size) g.size) p.size) h.size) k.size) D
 have cq:=ax.blk (u1 (ax.mono (S':=[P,z,B,I,a3,aj]) bm (ac im (ac im (ac im (ac im (ac im au)))))) af im) (aa (Ne.symm (nb (ae.lt S) (le (le p.size h.size) k.size) D)) (aa (Ne.symm (nb (ai G) (le (le (le (le (le (le (le (le (le (le v.size t.size) r.size) o.size) d.size) i.size) j.size) g.size) p.size) h.size) k.size) D)) (aa (Ne.symm (nb (ai X) (le h.size k.size) D)) (aa bL (aa (Ne.symm (nb (ae.lt N) (le (le (le (le (le (le (le o.size d.size) i.size) j.size) g.size) p.size) h.size) k.size) D)) (aa (Ne.symm co) av)))))) aB
 refine sW cq fun dW aO=>?_
 refine rx (aQ aO co cY) (.int .i64 0)<|?_
 subst cc c6 bH bF
 have cs:=us af aO
 have dX:=ut (ax.mono (S':=[I,a3,aj,cJ]) bt (ac im (ac im au))) cs (ac im (ac im au))
 have dY:=u1 (ax.mono (S':=[I,a3,aj]) bt (ac im (ac im au))) af im
 have dZ:=ub (ud a2 (ut (ax.mono (S':=[z]) aE au) q.u (ac (ni aK.size Q) (ac im (ac (ni (le (le (le (le (le r.size o.size) d.size) i.size) j.size) g.size) H) (ac (ni (le (le (le (le (le (le (le (le r.size o.size) d.size) i.size) j.size) g.size) p.size) h.size) k.size) E) au))))) a1) M
 have e0:=ae.upd aW (ut (ax.mono (S':=[z]) aw au) (ut (ax.mono (S':=[P,z,B]) Y au) q.u (ac im (ac im (ac im (ac (ni k.size E) au))))) (ac (nr Q) (ac im (ac (ni g.size H) au)))) (aa (Ne.symm bf) av) (ah (aF bg (by decide)) az)
 have e1:=us F U
 have hs:al aZ dir 21 b=aT (bh.mk 21 0 0 0 0 0 0 0 0 0 0 0 [] [] [] (b6 dz (ak.mk ((((ak.mk b false 0).bytesC 1).need (f6 ((ak.mk b false 0).byteV)) 5).bytesR ((ak.mk b false 0).byteV)) false 0).l.length 0 (ak.mk ((((ak.mk b false 0).bytesC 1).need (f6 ((ak.mk b false 0).byteV)) 5).bytesR ((ak.mk b false 0).byteV)) false 0) []).2 0 0 0 0 0 []) (((((ak.mk b false 0).bytesC 1).need (f6 ((ak.mk b false 0).byteV)) 5).bytesC ((ak.mk b false 0).byteV)).need (((b6 dz (ak.mk ((((ak.mk b false 0).bytesC 1).need (f6 ((ak.mk b false 0).byteV)) 5).bytesR ((ak.mk b false 0).byteV)) false 0).l.length 0 (ak.mk ((((ak.mk b false 0).bytesC 1).need (f6 ((ak.mk b false 0).byteV)) 5).bytesR ((ak.mk b false 0).byteV)) false 0) []).1).e==0) (de ((b6 dz (ak.mk ((((ak.mk b false 0).bytesC 1).need (f6 ((ak.mk b false 0).byteV)) 5).bytesR ((ak.mk b false 0).byteV)) false 0).l.length 0 (ak.mk ((((ak.mk b false 0).bytesC 1).need (f6 ((ak.mk b false 0).byteV)) 5).bytesR ((ak.mk b false 0).byteV)) false 0) []).1).e)):=by
   unfold al aZ ee qO rD rF
   (try simp only[aP,a9,bs,if_true,if_false,decide_true,decide_false,eq_self,true_or,or_true,or_false,false_or,if_true,if_false,cG,cC,cH,cE,reduceIte,iO,iQ,iA,if_pos hd])
   all_goals rfl
 rw[hs]
 exact b9 br ⟨_,_,_,_,_,rfl,aI.nil ..,aI.nil ..,aI.nil ..,((am (am (am (am (am q.ho F (fun x hx=>(aa (fun e=>(ap (ai T) lr q.ho) (e▸hx)) av)) (bp.updl F q.hl rfl)) U (fun x hx=>(aa (fun e=>(ap (ae.lt N) (le (le (le (le (le (le (le (le o.size d.size) i.size) j.size) g.size) p.size) h.size) k.size) J.size) q.ho) (e▸hx)) av)) (bp.upd16 U (ah (ae.safe bi _ (by decide)) az))) a7 (fun x hx=>(aa (fun e=>(ap (ae.lt N) (le (le (le (le (le (le (le (le o.size d.size) i.size) j.size) g.size) p.size) h.size) k.size) J.size) q.ho) (e▸hx)) av)) (bp.upd16 a7 (ah (ae.safe bj _ (by decide)) az))) af (fun x hx=>(aa (fun e=>(ap (ai M) (le (le (le (le (le (le (le (le (le (le (le (le O.size v.size) t.size) r.size) o.size) d.size) i.size) j.size) g.size) p.size) h.size) k.size) J.size) q.ho) (e▸hx)) av)) (bp.upd16 af (ah (aF cn (by decide)) az))) aO (fun x hx=>(aa (fun e=>(ap (ai aB) lr q.ho) (e▸hx)) av)) (bp.updl aO cq rfl))).rd,aI.nil ..,⟨(b8 (x:=21) (by omega)),(b8 (x:=0) (by omega)),(aD (x:=0) (by omega)),(aD (x:=0) (by omega)),(aD (x:=0) (by omega)),(aD (x:=0) (by omega)),(aD (x:=0) (by omega)),(aD (x:=0) (by omega)),(aD (x:=0) (by omega)),(aD (x:=0) (by omega)),(aD (x:=0) (by omega)),(aD (x:=0) (by omega)),(b8 (x:=0) (by omega)),(b8 (x:=0) (by omega)),(b8 (x:=0) (by omega)),(b8 (x:=0) (by omega)),(b8 (x:=0) (by omega))⟩⟩ (ut ch cs (ac (nr bu) (ac (ni (le (le (le (le (le (le (le (le (le (le (le (le an.size O.size) v.size) t.size) r.size) o.size) d.size) i.size) j.size) g.size) p.size) h.size) k.size) D) au)))
theorem o6{A:Option Addr}{cp:Nat}{b:List Int}{w:World}{c:Int}(n1:(c==20)=false)(n2:(c==21)=false) : Calls Tryz.prog 64 #[.int .i64 0,.int .u8 c,.slice A b.length cp] w (cM (al aZ 0 c b) w):=by
 refine sS 77 Tryz.func64 rfl<|sg<|L0<|bB mZ fun n o d e f=>Pl 1<|nt<|sq<|sg<|Pl 6<|nt<|c0<|?_
 refine bC<|sg<|Pl 2<|L0<|Oc (args:=#[.int .i64 0,.int .u8 c])<|m1 (ku (dir:=0) (x:=c) n1 n2) fun p g=>Pl 3<|L0<|bB #[.nilFunc,.nilFunc] fun q r h i j=>L0<|be i #[.nilFunc,.nilFunc] fun s t k=>Pl 1<|nt<|sq<|sq<|?_
 refine go<|Pl 2<|nt<|c1<|sg<|Pl 1<|?_
 have a:=aG g (ud j k h)
 refine L0<|be (ub a e) mZ fun u l m=>Pl 1<|nt<|rt<|tr<|ry l (.int .i64 4)<|?_
 have hs:al aZ 0 c b=(bh.zero,4):=by
   unfold al aZ
   (try simp only[bs,if_true,if_false,decide_true,decide_false,eq_self,true_or,or_true,or_false,false_or,if_true,if_false,cG,cC,cH,cE,reduceIte,n1,n2])
   all_goals rfl
 rw[hs]
 exact bF (ud f (uz a m) d)
theorem n8{A:Option Addr}{cp:Nat}{b:List Int}{w:World}{c:Int}(n1:(c==20)=false)(n2:(c==21)=false) : Calls Tryz.prog 64 #[.int .i64 1,.int .u8 c,.slice A b.length cp] w (cM (al aZ 1 c b) w):=by
 refine sS 77 Tryz.func64 rfl<|sg<|L0<|bB mZ fun n o d e f=>Pl 1<|nt<|sq<|sg<|Pl 6<|nt<|c0<|?_
 refine bC<|sg<|Pl 2<|L0<|Oc (args:=#[.int .i64 1,.int .u8 c])<|m1 (ku (dir:=1) (x:=c) n1 n2) fun p g=>Pl 3<|L0<|bB #[.nilFunc,.nilFunc] fun q r h i j=>L0<|be i #[.nilFunc,.nilFunc] fun s t k=>Pl 1<|nt<|sq<|sq<|?_
 refine go<|Pl 2<|nt<|c1<|sg<|Pl 1<|?_
 have a:=aG g (ud j k h)
 refine L0<|be (ub a e) mZ fun u l m=>Pl 1<|nt<|rt<|tr<|ry l (.int .i64 4)<|?_
 have hs:al aZ 1 c b=(bh.zero,4):=by
   unfold al aZ
   (try simp only[bs,if_true,if_false,decide_true,decide_false,eq_self,true_or,or_true,or_false,false_or,if_true,if_false,cG,cC,cH,cE,reduceIte,n1,n2])
   all_goals rfl
 rw[hs]
 exact bF (ud f (uz a m) d)
theorem nT{A:Option Addr}{cp:Nat}{b:List Int}{w:World}{dir c:Int}(hd:¬ (dir=0∨dir=1)) : Calls Tryz.prog 64 #[.int .i64 dir,.int .u8 c,.slice A b.length cp] w (cM (al aZ dir c b) w):=by
 have e0:(dir != 0)=true:=by simp;omega
 have e1:(dir != 1)=true:=by simp;omega
 refine sS 77 Tryz.func64 rfl<|sg<|L0<|bB mZ fun g h a d e=>Pl 1<|nt<|sq<|sg<|Pl 3<|sy 18 e0<|Pl 3<|nl<|?_
 refine tn<|ct e1<|sg<|Pl 1<|L0<|be d mZ fun i dp f=>Pl 1<|nt<|rt<|tr<|ry dp (.int .i64 1)<|?_
 have hs:al aZ dir c b=(bh.zero,1):=by
   unfold al aZ
   (try simp only[e0,e1,bs,if_true,if_false,decide_true,decide_false,eq_self,true_or,or_true,or_false,false_or,if_true,if_false,cG,cC,cH,cE,reduceIte,hd])
   all_goals rfl
 rw[hs]
 exact bF (ud e f a)
theorem kc{m:Bool}{v:Value}{b:List Int}{w:World}{dir c:Int}(hc:B8 c)(h:aN m w v b)(hb:b.length≤1048576) :
    Calls Tryz.prog 64 #[.int .i64 dir,.int .u8 c,v] w (cM (al aZ dir c b) w):=by
  obtain⟨A,cp,rfl,_,_⟩:=h.shape
  by_cases h0:dir=0
  · subst h0
    by_cases a:c=20
    · subst a;exact km (Or.inl (rfl:(0:Int)=0)) h hb
    by_cases d:c=21
    · subst d;exact it (Or.inl rfl) h hb
    exact o6 (by simpa using a) (by simpa using d)
  by_cases h1:dir=1
  · subst h1
    by_cases a:c=20
    · subst a;exact kq (Or.inl (rfl:(0:Int)=0)) h hb
    by_cases d:c=21
    · subst d;exact it (Or.inr rfl) h hb
    exact n8 (by simpa using a) (by simpa using d)
  exact nT (by omega)
open Go.RowKit
open Go.RowKit
open Go.RowKit
open Go.RowKit
open Go.RowKit
open Go.RowKit
open Go.RowKit
open Go.RowKit
open Go.RowKit
theorem fe{x y:bh × Int}(h:x=y){w:World}{e:Ending}{w':World}(k:cM y w e w') : cM x w e w':=by rw[h];exact k
def gF:Nat→Int→List Int→bh × Int
  | 1,dir,b=>al aL dir (b.getD 0 0) (b.drop 1)
  | 2,dir,b=>al bG dir (b.getD 0 0) (b.drop 1)
  | 3,dir,b=>al aK dir (b.getD 0 0) (b.drop 1)
  | 4,dir,b=>al aZ dir (b.getD 0 0) (b.drop 1)
  | 5,dir,b=>al bt dir (b.getD 0 0) (b.drop 1)
  | _,_,_=>(bh.zero,4)
def cj (dir:Int)(b:List Int) : bh × Int :=
  if dir != 0&&dir != 1 then (bh.zero,1)
  else if (b.length:Int)==0 then (bh.zero,2)
  else if decide (253<(b.length:Int)) then (bh.zero,3)
  else if decide (128≤b.getD 0 0)&&dir==1 then ed b
  else gF (jh (b.getD 0 0)) dir b
theorem l9{m:Bool}{A:Option Addr}{cp:Nat}{b:List Int}{w:World}{dir:Int}(hsl:aN m w (.slice A b.length cp) b)(hb:b.length≤1048576) :
    Calls Tryz.prog 162 #[.int .i64 dir,.slice A b.length cp] w (cM (cj dir b) w):=by
 have hln:(b.length:Int)≤1048576:=by omega
 refine en 60 Tryz.func162 rfl<|sg<|L0<|bB mZ fun dl t h a f=>Pl 1<|nt<|sq<|bk<|sg<|Pl 3<|cu 3 [11] 14 (((dir != 0)&&(dir != 1))) (fun K a2=>?_) ?_
 refine bl 11 ((dir != 0)) (fun u=>?_) (fun u=>?_)
 have bZ:=ay u
 exact Pl 3<|ce a2 (dir != 1) (by rw[u];rfl)
 have bZ:=ag u
 exact Pl 3<|ce a2 false (by rw[u];rfl)
 refine Pl 1<|nt<|cb (((dir != 0)&&(dir != 1))) (fun d=>?_) (fun d=>?_)
 have a3:=(bQ d).1
 have a4:=(bQ d).2
 have dm:=ay a3
 have dn:=ay a4
 refine sg<|Pl 1<|L0<|be a mZ fun dp c2 c3=>Pl 1<|nt<|rt<|br<|tr<|c9 c2 (.int .i64 1)<|?_
 have hs:cj dir b=(bh.zero,1):=by
   unfold cj
   (try simp only[d,a3,a4,bs,if_true,if_false,decide_true,decide_false,gF,reduceIte])
   all_goals rfl
 refine fe hs ?_
 exact bF (ud f c3 h)
 refine sg<|Pl 4<|nt<|cb ((((b.length:Nat) : Int)==0)) (fun e=>?_) (fun e=>?_)
 have c4:=aB e
 refine sg<|Pl 1<|L0<|be a mZ fun dq c5 c6=>Pl 1<|nt<|rt<|br<|tr<|c9 c5 (.int .i64 2)<|?_
 have hs:cj dir b=(bh.zero,2):=by
   unfold cj
   (try simp only[d,e,bs,if_true,if_false,decide_true,decide_false,gF,reduceIte])
   all_goals rfl
 refine fe hs ?_
 exact bF (ud f c6 h)
 have c4:=aH e
 refine sg<|Pl 4<|nt<|cb ((decide (253<((b.length:Nat) : Int)))) (fun g=>?_) (fun g=>?_)
 have c7:=of_decide_eq_true g
 refine sg<|Pl 1<|L0<|be a mZ fun dr c8 ca=>Pl 1<|nt<|rt<|br<|tr<|c9 c8 (.int .i64 3)<|?_
 have hs:cj dir b=(bh.zero,3):=by
   unfold cj
   (try simp only[d,e,g,bs,if_true,if_false,decide_true,decide_false,gF,reduceIte])
   all_goals rfl
 refine fe hs ?_
 exact bF (ud f ca h)
 have c7:=of_decide_eq_false g
 refine sg<|Pl 1<|?_
 have s:=aN.old hsl f
 refine fF (aN.at_ s 0 (by omega)) fun a5 a6 a7 a8 ds=>L0<|ny b.length 0 a7 (by omega)<|L0<|jx (p:=⟨a5,a6+0,none⟩) (v:=.int .u8 (b.getD 0 0)) a8<|Pl 2<|cu 3 [31] 34 (((decide (128≤(b.getD 0 0)))&&(dir==1))) (fun K a9=>?_) ?_
 refine bl 31 ((decide (128≤(b.getD 0 0)))) (fun y=>?_) (fun y=>?_)
 have cc:=of_decide_eq_true y
 exact Pl 3<|ce a9 (dir==1) (by rw[y];rfl)
 have cc:=of_decide_eq_false y
 exact Pl 3<|ce a9 false (by rw[y];rfl)
 refine Pl 1<|nt<|cb (((decide (128≤(b.getD 0 0)))&&(dir==1))) (fun i=>?_) (fun i=>?_)
 have aa:=(bQ i).1
 have ab:=(bQ i).2
 have dt:=of_decide_eq_true aa
 have du:=aB ab
 refine sg<|Pl 1<|L0<|Oc<|e2 (nF s (by omega)) fun cd dv z ac=>Pl 2<|?_
 have ad:=ub ac a
 refine L0<|be (hz:=(by rw[z.size];exact aS)) (hv:=z.size) (h1:=z.one) ad (cd) fun dw cf ae=>Pl 1<|nt<|rt<|br<|tr<|dF 22 z.size cf (.int .i64 (((ed b)).2))<|?_
 have hs:cj dir b=(ed b):=by
   unfold cj
   (try simp only[d,e,g,i,aa,ab,bs,if_true,if_false,decide_true,decide_false,gF,reduceIte])
   all_goals rfl
 refine fe hs ?_
 exact⟨_,rfl,(aX.upd z ae (ah (aF ad (by decide)) az)),(ud f (uz ac ae) h)⟩
 refine sk<|bn<|tn<|sg<|Pl 1<|L0<|ny b.length 0 a7 (by omega)<|L0<|jx (p:=⟨a5,a6+0,none⟩) (v:=.int .u8 (b.getD 0 0)) a8<|?_
 rcases iI (b.getD 0 0) with⟨hk,hkf⟩|⟨hk,hkf⟩|⟨hk,hkf⟩|⟨hk,hkf⟩|⟨hk,hkf⟩|⟨hk,hkf⟩
 have af:=fT (x:=(b.getD 0 0)) (w:=t)
 rw[hkf] at af
 refine L0<|Oc<|m1 af fun dx ak=>Pl 3<|L0<|bB #[.nilFunc,.nilFunc] fun cg dy am ch ci=>L0<|be ch #[.func (.func 58) #[] #[],.func (.func 59) #[] #[]] fun dz ck cl=>Pl 1<|nt<|sq<|sg<|Pl 2<|nt<|c0<|?_
 refine bC<|sq<|?_
 have an:=aG ak (ud ci cl am)
 have ao:=aN.old s an
 refine fF (aN.at_ ao 0 (by omega)) fun cm cn ap aq dA=>Rg 13 (fun w'=>w'.cell? ⟨cg,0,none⟩=some (.func (.func 58) #[] #[])∧w'.cell? ⟨cm,cn+0,none⟩=some (.int .u8 (b.getD 0 0))) fun dB M=>?_
 have ar:=ub M ck
 refine bg ⟨(aj ar rfl),(uc M aq)⟩ fun j=>Rt 0 j<|Rl 1 j (fun _ hs=>hs.1)<|Rt 2 j<|Rt 3 j<|lz 4 j b.length 0 0 rfl ap (by omega)<|Rl 5 j (fun _ hs=>hs.2)<|Rt 6 j<|o0 (dI (P:=Tryz.prog) 27 5 1 Tryz.underlying27 rfl rfl A b.length cp 1 (by omega)) fun au hrun108 co=>Rr 7 j (.slice au (b.length-1) (cp-1)) (fun _ _=>dJ (kl:=.i64) (k:=((1:Nat) : Int)) (A:=A) (n:=b.length) (c:=cp) rfl Tryz.underlying27 (by kernel_rfl) (by kernel_rfl) (hrun108 _ _))<|?_
 refine R0 8 rfl<|eK #[] #[] (args:=#[.int .i64 dir,.int .u8 (b.getD 0 0),.slice au (b.length-1) (cp-1)])<|e2 (kC (dir:=dir) (c:=(b.getD 0 0)) (b8 (by omega)) (co _ _ _ _ _ (aN.old ao M)) (by(try simp only[List.length_drop]);omega)) fun cq dC B S=>?_
 have av:=ub S ar
 have T:=aG M S
 refine bg ⟨(aj av rfl),(uc T aq)⟩ fun aw=>Rt 9 aw<|Rt 10 aw<|?_
 have ax:=aG an T
 have aA:=ub ax a
 refine R0 11 rfl<|be (hz:=(by rw[B.size];exact aS)) (hv:=B.size) (h1:=B.one) aA (cq) fun dD cr C=>?_
 have dE:=uz T C
 have dG:=uz S C
 have aC:=ud f (uz ax C) h
 refine bg ⟨(aj (aQ C (Ne.symm (nb (ai a) ak.size am)) av) rfl),(cB (aN.old hsl aC) ap 0 (by omega))⟩ fun cs=>Rt 12 cs<|re<|tn<|rt<|dF 22 B.size cr (.int .i64 (((al aL dir (b.getD 0 0) (b.drop 1))).2))<|?_
 have hs:cj dir b=(al aL dir (b.getD 0 0) (b.drop 1)):=by
   unfold cj
   (try simp only[d,e,g,i,bs,if_true,if_false,decide_true,decide_false,hkf,gF,reduceIte])
   all_goals rfl
 refine fe hs ?_
 exact⟨_,rfl,(aX.upd B C (ah (aF aA (by decide)) az)),aC⟩
 have aD:=fT (x:=(b.getD 0 0)) (w:=t)
 rw[hkf] at aD
 refine L0<|Oc<|m1 aD fun dH aE=>Pl 3<|L0<|bB #[.nilFunc,.nilFunc] fun ct dK aI cv cw=>L0<|be cv #[.func (.func 60) #[] #[],.func (.func 61) #[] #[]] fun dL cx cy=>Pl 1<|nt<|sq<|sg<|Pl 2<|nt<|c0<|?_
 refine bC<|sq<|?_
 have aJ:=aG aE (ud cw cy aI)
 have aM:=aN.old s aJ
 refine fF (aN.at_ aM 0 (by omega)) fun cz cA aO aP dM=>Rg 13 (fun w'=>w'.cell? ⟨ct,0,none⟩=some (.func (.func 60) #[] #[])∧w'.cell? ⟨cz,cA+0,none⟩=some (.int .u8 (b.getD 0 0))) fun dN N=>?_
 have aR:=ub N cx
 refine bg ⟨(aj aR rfl),(uc N aP)⟩ fun l=>Rt 0 l<|Rl 1 l (fun _ hs=>hs.1)<|Rt 2 l<|Rt 3 l<|lz 4 l b.length 0 0 rfl aO (by omega)<|Rl 5 l (fun _ hs=>hs.2)<|Rt 6 l<|o0 (dI (P:=Tryz.prog) 27 5 1 Tryz.underlying27 rfl rfl A b.length cp 1 (by omega)) fun aT hrun188 cC=>Rr 7 l (.slice aT (b.length-1) (cp-1)) (fun _ _=>dJ (kl:=.i64) (k:=((1:Nat) : Int)) (A:=A) (n:=b.length) (c:=cp) rfl Tryz.underlying27 (by kernel_rfl) (by kernel_rfl) (hrun188 _ _))<|?_
 refine R0 8 rfl<|eK #[] #[] (args:=#[.int .i64 dir,.int .u8 (b.getD 0 0),.slice aT (b.length-1) (cp-1)])<|e2 (m5 (dir:=dir) (c:=(b.getD 0 0)) (b8 (by omega)) (cC _ _ _ _ _ (aN.old aM N)) (by(try simp only[List.length_drop]);omega)) fun cD dO D U=>?_
 have aU:=ub U aR
 have V:=aG N U
 refine bg ⟨(aj aU rfl),(uc V aP)⟩ fun aV=>Rt 9 aV<|Rt 10 aV<|?_
 have aW:=aG aJ V
 have aY:=ub aW a
 refine R0 11 rfl<|be (hz:=(by rw[D.size];exact aS)) (hv:=D.size) (h1:=D.one) aY (cD) fun dP cE E=>?_
 have dQ:=uz V E
 have dR:=uz U E
 have b0:=ud f (uz aW E) h
 refine bg ⟨(aj (aQ E (Ne.symm (nb (ai a) aE.size aI)) aU) rfl),(cB (aN.old hsl b0) aO 0 (by omega))⟩ fun cF=>Rt 12 cF<|re<|tn<|rt<|dF 22 D.size cE (.int .i64 (((al bG dir (b.getD 0 0) (b.drop 1))).2))<|?_
 have hs:cj dir b=(al bG dir (b.getD 0 0) (b.drop 1)):=by
   unfold cj
   (try simp only[d,e,g,i,bs,if_true,if_false,decide_true,decide_false,hkf,gF,reduceIte])
   all_goals rfl
 refine fe hs ?_
 exact⟨_,rfl,(aX.upd D E (ah (aF aY (by decide)) az)),b0⟩
 have b1:=fT (x:=(b.getD 0 0)) (w:=t)
 rw[hkf] at b1
 refine L0<|Oc<|m1 b1 fun dS b2=>Pl 3<|L0<|bB #[.nilFunc,.nilFunc] fun cG dT b3 cH cI=>L0<|be cH #[.func (.func 62) #[] #[],.func (.func 63) #[] #[]] fun dU cJ cK=>Pl 1<|nt<|sq<|sg<|Pl 2<|nt<|c0<|?_
 refine bC<|sq<|?_
 have b4:=aG b2 (ud cI cK b3)
 have b5:=aN.old s b4
 refine fF (aN.at_ b5 0 (by omega)) fun cL cN b6 b7 dV=>Rg 13 (fun w'=>w'.cell? ⟨cG,0,none⟩=some (.func (.func 62) #[] #[])∧w'.cell? ⟨cL,cN+0,none⟩=some (.int .u8 (b.getD 0 0))) fun dW O=>?_
 have b9:=ub O cJ
 refine bg ⟨(aj b9 rfl),(uc O b7)⟩ fun o=>Rt 0 o<|Rl 1 o (fun _ hs=>hs.1)<|Rt 2 o<|Rt 3 o<|lz 4 o b.length 0 0 rfl b6 (by omega)<|Rl 5 o (fun _ hs=>hs.2)<|Rt 6 o<|o0 (dI (P:=Tryz.prog) 27 5 1 Tryz.underlying27 rfl rfl A b.length cp 1 (by omega)) fun ba hrun268 cO=>Rr 7 o (.slice ba (b.length-1) (cp-1)) (fun _ _=>dJ (kl:=.i64) (k:=((1:Nat) : Int)) (A:=A) (n:=b.length) (c:=cp) rfl Tryz.underlying27 (by kernel_rfl) (by kernel_rfl) (hrun268 _ _))<|?_
 refine R0 8 rfl<|eK #[] #[] (args:=#[.int .i64 dir,.int .u8 (b.getD 0 0),.slice ba (b.length-1) (cp-1)])<|e2 (lU (dir:=dir) (c:=(b.getD 0 0)) (b8 (by omega)) (cO _ _ _ _ _ (aN.old b5 O)) (by(try simp only[List.length_drop]);omega)) fun cP dX F W=>?_
 have bb:=ub W b9
 have X:=aG O W
 refine bg ⟨(aj bb rfl),(uc X b7)⟩ fun bc=>Rt 9 bc<|Rt 10 bc<|?_
 have bd:=aG b4 X
 have bf:=ub bd a
 refine R0 11 rfl<|be (hz:=(by rw[F.size];exact aS)) (hv:=F.size) (h1:=F.one) bf (cP) fun dY cQ G=>?_
 have dZ:=uz X G
 have e0:=uz W G
 have bi:=ud f (uz bd G) h
 refine bg ⟨(aj (aQ G (Ne.symm (nb (ai a) b2.size b3)) bb) rfl),(cB (aN.old hsl bi) b6 0 (by omega))⟩ fun cR=>Rt 12 cR<|re<|tn<|rt<|dF 22 F.size cQ (.int .i64 (((al aK dir (b.getD 0 0) (b.drop 1))).2))<|?_
 have hs:cj dir b=(al aK dir (b.getD 0 0) (b.drop 1)):=by
   unfold cj
   (try simp only[d,e,g,i,bs,if_true,if_false,decide_true,decide_false,hkf,gF,reduceIte])
   all_goals rfl
 refine fe hs ?_
 exact⟨_,rfl,(aX.upd F G (ah (aF bf (by decide)) az)),bi⟩
 have bj:=fT (x:=(b.getD 0 0)) (w:=t)
 rw[hkf] at bj
 refine L0<|Oc<|m1 bj fun e1 bm=>Pl 3<|L0<|bB #[.nilFunc,.nilFunc] fun cS e3 bo cT cU=>L0<|be cT #[.func (.func 64) #[] #[],.func (.func 65) #[] #[]] fun e4 cV cW=>Pl 1<|nt<|sq<|sg<|Pl 2<|nt<|c0<|?_
 refine bC<|sq<|?_
 have bp:=aG bm (ud cU cW bo)
 have bq:=aN.old s bp
 refine fF (aN.at_ bq 0 (by omega)) fun cX cY bu bv e5=>Rg 13 (fun w'=>w'.cell? ⟨cS,0,none⟩=some (.func (.func 64) #[] #[])∧w'.cell? ⟨cX,cY+0,none⟩=some (.int .u8 (b.getD 0 0))) fun e6 Q=>?_
 have bw:=ub Q cV
 refine bg ⟨(aj bw rfl),(uc Q bv)⟩ fun q=>Rt 0 q<|Rl 1 q (fun _ hs=>hs.1)<|Rt 2 q<|Rt 3 q<|lz 4 q b.length 0 0 rfl bu (by omega)<|Rl 5 q (fun _ hs=>hs.2)<|Rt 6 q<|o0 (dI (P:=Tryz.prog) 27 5 1 Tryz.underlying27 rfl rfl A b.length cp 1 (by omega)) fun bx hrun348 cZ=>Rr 7 q (.slice bx (b.length-1) (cp-1)) (fun _ _=>dJ (kl:=.i64) (k:=((1:Nat) : Int)) (A:=A) (n:=b.length) (c:=cp) rfl Tryz.underlying27 (by kernel_rfl) (by kernel_rfl) (hrun348 _ _))<|?_
 refine R0 8 rfl<|eK #[] #[] (args:=#[.int .i64 dir,.int .u8 (b.getD 0 0),.slice bx (b.length-1) (cp-1)])<|e2 (kc (dir:=dir) (c:=(b.getD 0 0)) (b8 (by omega)) (cZ _ _ _ _ _ (aN.old bq Q)) (by(try simp only[List.length_drop]);omega)) fun d0 e7 H Y=>?_
 have bz:=ub Y bw
 have Z:=aG Q Y
 refine bg ⟨(aj bz rfl),(uc Z bv)⟩ fun bA=>Rt 9 bA<|Rt 10 bA<|?_
 have bD:=aG bp Z
 have bE:=ub bD a
 refine R0 11 rfl<|be (hz:=(by rw[H.size];exact aS)) (hv:=H.size) (h1:=H.one) bE (d0) fun e8 d1 I=>?_
 have e9:=uz Z I
 have ea:=uz Y I
 have bH:=ud f (uz bD I) h
 refine bg ⟨(aj (aQ I (Ne.symm (nb (ai a) bm.size bo)) bz) rfl),(cB (aN.old hsl bH) bu 0 (by omega))⟩ fun d2=>Rt 12 d2<|re<|tn<|rt<|dF 22 H.size d1 (.int .i64 (((al aZ dir (b.getD 0 0) (b.drop 1))).2))<|?_
 have hs:cj dir b=(al aZ dir (b.getD 0 0) (b.drop 1)):=by
   unfold cj
   (try simp only[d,e,g,i,bs,if_true,if_false,decide_true,decide_false,hkf,gF,reduceIte])
   all_goals rfl
 refine fe hs ?_
 exact⟨_,rfl,(aX.upd H I (ah (aF bE (by decide)) az)),bH⟩
 have bI:=fT (x:=(b.getD 0 0)) (w:=t)
 rw[hkf] at bI
 refine L0<|Oc<|m1 bI fun eb bJ=>Pl 3<|L0<|bB #[.nilFunc,.nilFunc] fun d3 ec bK d4 d5=>L0<|be d4 #[.func (.func 66) #[] #[],.func (.func 67) #[] #[]] fun ee d6 d7=>Pl 1<|nt<|sq<|sg<|Pl 2<|nt<|c0<|?_
 refine bC<|sq<|?_
 have bL:=aG bJ (ud d5 d7 bK)
 have bM:=aN.old s bL
 refine fF (aN.at_ bM 0 (by omega)) fun d8 d9 bN bO ef=>Rg 13 (fun w'=>w'.cell? ⟨d3,0,none⟩=some (.func (.func 66) #[] #[])∧w'.cell? ⟨d8,d9+0,none⟩=some (.int .u8 (b.getD 0 0))) fun eg R=>?_
 have bP:=ub R d6
 refine bg ⟨(aj bP rfl),(uc R bO)⟩ fun r=>Rt 0 r<|Rl 1 r (fun _ hs=>hs.1)<|Rt 2 r<|Rt 3 r<|lz 4 r b.length 0 0 rfl bN (by omega)<|Rl 5 r (fun _ hs=>hs.2)<|Rt 6 r<|o0 (dI (P:=Tryz.prog) 27 5 1 Tryz.underlying27 rfl rfl A b.length cp 1 (by omega)) fun bR hrun428 da=>Rr 7 r (.slice bR (b.length-1) (cp-1)) (fun _ _=>dJ (kl:=.i64) (k:=((1:Nat) : Int)) (A:=A) (n:=b.length) (c:=cp) rfl Tryz.underlying27 (by kernel_rfl) (by kernel_rfl) (hrun428 _ _))<|?_
 refine R0 8 rfl<|eK #[] #[] (args:=#[.int .i64 dir,.int .u8 (b.getD 0 0),.slice bR (b.length-1) (cp-1)])<|e2 (mS (dir:=dir) (c:=(b.getD 0 0)) (b8 (by omega)) (da _ _ _ _ _ (aN.old bM R)) (by(try simp only[List.length_drop]);omega)) fun db eh J a0=>?_
 have bS:=ub a0 bP
 have a1:=aG R a0
 refine bg ⟨(aj bS rfl),(uc a1 bO)⟩ fun bT=>Rt 9 bT<|Rt 10 bT<|?_
 have bU:=aG bL a1
 have bV:=ub bU a
 refine R0 11 rfl<|be (hz:=(by rw[J.size];exact aS)) (hv:=J.size) (h1:=J.one) bV (db) fun ei dc L=>?_
 have ej:=uz a1 L
 have ek:=uz a0 L
 have bW:=ud f (uz bU L) h
 refine bg ⟨(aj (aQ L (Ne.symm (nb (ai a) bJ.size bK)) bS) rfl),(cB (aN.old hsl bW) bN 0 (by omega))⟩ fun dd=>Rt 12 dd<|re<|tn<|rt<|dF 22 J.size dc (.int .i64 (((al bt dir (b.getD 0 0) (b.drop 1))).2))<|?_
 have hs:cj dir b=(al bt dir (b.getD 0 0) (b.drop 1)):=by
   unfold cj
   (try simp only[d,e,g,i,bs,if_true,if_false,decide_true,decide_false,hkf,gF,reduceIte])
   all_goals rfl
 refine fe hs ?_
 exact⟨_,rfl,(aX.upd J L (ah (aF bV (by decide)) az)),bW⟩
 have bX:=fT (x:=(b.getD 0 0)) (w:=t)
 rw[hkf] at bX
 refine L0<|Oc<|m1 bX fun el de=>Pl 3<|L0<|bB #[.nilFunc,.nilFunc] fun em eo df dg dh=>L0<|be dg #[.nilFunc,.nilFunc] fun ep eq di=>Pl 1<|nt<|sq<|sg<|Pl 2<|nt<|c1<|?_
 refine sg<|Pl 1<|?_
 have bY:=aG de (ud dh di df)
 refine L0<|be (ub bY a) mZ fun er dj dk=>Pl 1<|nt<|rt<|tr<|c9 dj (.int .i64 4)<|?_
 have hs:cj dir b=(bh.zero,4):=by
   unfold cj
   (try simp only[d,e,g,i,bs,if_true,if_false,decide_true,decide_false,hkf,gF,reduceIte])
   all_goals rfl
 refine fe hs ?_
 exact bF (ud f (uz bY dk) h)
theorem fV{m:Bool}{v:Value}{b:List Int}{w:World}{dir:Int}(h:aN m w v b)(hb:b.length≤1048576) : Calls Tryz.prog 162 #[.int .i64 dir,v] w (cM (cj dir b) w):=by
  obtain⟨A,cp,rfl,_,_⟩:=h.shape
  exact l9 h hb
end Go.Proofs.YtpglhicfhppaiaaGreat
namespace Go.Proofs.YtpglhicfhppaiaaGreat
def N1 (C:ak) : Prop:=C.e≠1
theorem N1.need{C:ak}{b:Bool}{x:Int}(hx:x≠1)(h:N1 C) : N1 (C.need b x):=by
  unfold N1 ak.need at *
  split
  · exact hx
  · exact h
theorem N1.bytesC{C:ak}{n:Int}(h:N1 C) : N1 (C.bytesC n):=by
  unfold ak.bytesC
  split
  · exact N1.need (by decide) h
  · exact h
theorem N1.wordsC{C:ak}{n:Int}(h:N1 C) : N1 (C.wordsC n):=by
  unfold ak.wordsC
  split<;>exact N1.bytesC h
theorem N1.recs{one:Int→ak→Int × ak × dP}(ho:∀ s C,N1 C→N1 (one s C).2.1) : ∀ (n:Nat)(s:Int)(C:ak)(L:List dP),N1 C→N1 (b6 one n s C L).1
  | 0,_,_,_,h=>h
  | n+1,s,C,L,h=>by
    unfold b6
    split
    · split
      · exact ho s C h
      · exact N1.recs ho n _ _ _ (ho s C h)
    · exact h
theorem N1.endC{C:ak}(h:N1 C) : N1 C.endC:=by
  unfold ak.endC
  exact N1.need (by decide) h
end Go.Proofs.YtpglhicfhppaiaaGreat
namespace Go.Proofs.YtpglhicfhppaiaaGreat
end Go.Proofs.YtpglhicfhppaiaaGreat
namespace Go.Proofs.YtpglhicfhppaiaaGreat
open Go.RowKit
theorem mL{w w':World}(h:ax [] w w') : Below w.heap.size w w':=⟨h.os,h.tape,h.output,h.size,fun k hk=>h.block k hk (by simp)⟩
theorem n7{n:Int}(h:(Lit.int .u8 n).wf=true) : 0≤n∧n<256:=by
  have:=bounds_u8 h
  omega
open Go.RowKit
structure SL where
  aw:Option Addr
  kw:Nat
  ab:Option Addr
  kb:Nat
  ad:Option Addr
  kd:Nat
  ar:Option Addr
  kr:Nat
  ao:Option Addr
  ko:Nat
def og (M:bh)(x:SL) : Array Value:=mG M.code M.fail M.addr M.count M.value M.and_ M.or_ M.addr2 M.sub M.status M.events M.messages (.slice x.aw M.words.length x.kw) (.slice x.ab M.bits.length x.kb) (.slice x.ad M.data.length x.kd) (.slice x.ar M.recs.length x.kr) M.mei M.kind M.level M.more M.next (.slice x.ao M.objects.length x.ko)
theorem kV{m:Bool}{w:World}{cs:Array Value}{M:bh}(h:aX m w cs.toList M) : ∃ x,cs=og M x:=by
  obtain⟨vw,vb,vd,vr,vo,h0,hw,hb,hd,hr,ho,hR⟩:=h
  obtain⟨aw,kw,rfl,_,_⟩:=hw.shape
  obtain⟨ab,kb,rfl,_,_⟩:=hb.shape
  obtain⟨ad,kd,rfl,_,_⟩:=hd.shape
  obtain⟨ar,kr,rfl,_,_⟩:=hr.shape
  obtain⟨ao,ko,rfl,_,_⟩:=ho.shape
  refine⟨⟨aw,kw,ab,kb,ad,kd,ar,kr,ao,ko⟩,?_⟩
  apply Array.toList_inj.1
  rw[h0]
  rfl
open Go.RowKit
def o4:bh:={ bh.zero with code:=7 }
open Go.RowKit
structure cN where
  unit:Int
  tid:Int
  msg:bh
def cN.zero:cN:=⟨0,0,bh.zero⟩
def tE (m:Bool)(w:World)(cs:Array Value)(F:cN) : Prop:=∃ c:Array Value,cs = #[.int .u8 F.unit,.int .u16 F.tid]++c∧aX m w c.toList F.msg∧B8 F.unit∧dp F.tid
def j2 (res:cN × Int)(w:World)(e:Ending)(w':World) : Prop:=∃ cs,e = .returned (.tuple #[.agg cs,.int .i64 res.2])∧tE true w' cs res.1∧ax [] w w'
theorem cK{x y:cN × Int}(h:x=y){w:World}{e:Ending}{w':World}(k:j2 y w e w') : j2 x w e w':=by rw[h];exact k
def t1:Array Value:=#[.int .u8 0,.int .u16 0,.int .u8 0,.int .u8 0,.int .u16 0,.int .u16 0,.int .u16 0,.int .u16 0,.int .u16 0,.int .u16 0,.int .u16 0,.int .u16 0,.int .u16 0,.int .u16 0,.slice none 0 0,.slice none 0 0,.slice none 0 0,.slice none 0 0,.int .u8 0,.int .u8 0,.int .u8 0,.int .u8 0,.int .u8 0,.slice none 0 0]
theorem bY{x:Int}{w W:World}(hu:ax [] w W) : j2 (cN.zero,x) w (.returned (.tuple #[.agg t1,.int .i64 x])) W:=⟨_,rfl,⟨oO,(by kernel_rfl),aX.zero ..,(show(0:Int)≤0∧(0:Int)<256 from by decide),(show(0:Int)≤0∧(0:Int)<65536 from by decide)⟩,hu⟩
def cn (u t:Int) : bh × Int→cN × Int
  | (M,E)=>if E != 0 then (cN.zero,E) else (⟨u,t,M⟩,0)
open Go.RowKit
deriving instance DecidableEq for cN
def nB (u t:Int)(M:bh)(x:SL) : Array Value:=#[.int .u8 u,.int .u16 t,.int .u8 M.code,.int .u8 M.fail,.int .u16 M.addr,.int .u16 M.count,.int .u16 M.value,.int .u16 M.and_,.int .u16 M.or_,.int .u16 M.addr2,.int .u16 M.sub,.int .u16 M.status,.int .u16 M.events,.int .u16 M.messages,.slice x.aw M.words.length x.kw,.slice x.ab M.bits.length x.kb,.slice x.ad M.data.length x.kd,.slice x.ar M.recs.length x.kr,.int .u8 M.mei,.int .u8 M.kind,.int .u8 M.level,.int .u8 M.more,.int .u8 M.next,.slice x.ao M.objects.length x.ko]
theorem gQ(u t:Int)(M:bh)(x:SL) : nB u t M x = #[.int .u8 u,.int .u16 t]++og M x:=by kernel_rfl
open Go.RowKit
structure Ev where
  e:Int
  f:cN
def Ev.bad (e:Int) : Ev:=⟨e,cN.zero⟩
def kM (x:Ev)(s:SL) : Array Value:=#[.int .i64 x.e,.int .u8 x.f.unit,.int .u16 x.f.tid,.int .u8 x.f.msg.code,.int .u8 x.f.msg.fail,.int .u16 x.f.msg.addr,.int .u16 x.f.msg.count,.int .u16 x.f.msg.value,.int .u16 x.f.msg.and_,.int .u16 x.f.msg.or_,.int .u16 x.f.msg.addr2,.int .u16 x.f.msg.sub,.int .u16 x.f.msg.status,.int .u16 x.f.msg.events,.int .u16 x.f.msg.messages,.slice s.aw x.f.msg.words.length s.kw,.slice s.ab x.f.msg.bits.length s.kb,.slice s.ad x.f.msg.data.length s.kd,.slice s.ar x.f.msg.recs.length s.kr,.int .u8 x.f.msg.mei,.int .u8 x.f.msg.kind,.int .u8 x.f.msg.level,.int .u8 x.f.msg.more,.int .u8 x.f.msg.next,.slice s.ao x.f.msg.objects.length s.ko]
theorem ss(x:Ev)(s:SL) : kM x s = #[.int .i64 x.e]++nB x.f.unit x.f.tid x.f.msg s:=by kernel_rfl
def jD (m:Bool)(w:World)(x:Ev)(cs:List Value) : Prop:=∃ s,cs=(kM x s).toList∧aX m w (og x.f.msg s).toList x.f.msg∧(0≤x.f.unit∧x.f.unit<256)∧(0≤x.f.tid∧x.f.tid<65536)
def jv (m:Bool)(w:World)(f:cN)(cs:List Value) : Prop:=∃ s,cs=(nB f.unit f.tid f.msg s).toList∧aX m w (og f.msg s).toList f.msg∧(0≤f.unit∧f.unit<256)∧(0≤f.tid∧f.tid<65536)
def vv (m:Bool)(w:World)(b:List Int)(cs:List Value) : Prop:=∃ v,cs=[v]∧aN m w v b
abbrev kK (m:Bool) (w:World) (v:Value) (xs:List Ev) : Prop:=aI m 66 25 (jD m) w v xs
abbrev dZ (base:Nat) (w:World) (v:Value) (xs:List Ev) : Prop:=aO base 66 25 (jD true) w v xs
theorem jD.upd{m:Bool}{w w':World}{S:List Nat}(hu:ax S w w')(hs:bR m ew S w)(x:Ev)(cs:List Value)(h:jD m w x cs) : jD m w' x cs:=by
  obtain⟨s,h1,h2,h3⟩:=h
  exact⟨s,h1,h2.upd hu hs,h3⟩
theorem kK.upd'{m:Bool}{w w':World}{v:Value}{xs:List Ev}{S:List Nat}(h:kK m w v xs)(hu:ax S w w')(hs:bR m (66 :: ew) S w) : kK m w' v xs:=aI.upd h hu (hs.sub fun t ht=>by rw[List.mem_singleton] at ht;rw[ht];exact List.mem_cons_self ..) (jD.upd hu (hs.sub fun t ht=>List.mem_cons_of_mem _ ht))
theorem kK.old{m:Bool}{w w':World}{v:Value}{xs:List Ev}(h:kK m w v xs)(hu:ax [] w w') : kK m w' v xs:=h.upd' hu (bR.nil _ _ _)
theorem oN(x:Ev)(s:SL) : (kM x s).toList.length=25:=by kernel_rfl
theorem ja{w:World}:aX true w (og bh.zero ⟨none,0,none,0,none,0,none,0,none,0⟩).toList bh.zero:=aX.zero ..
theorem jj{w0 w:World}{g:Nat}{cs:Array Value}{x:Ev}(hg:w0.heap.size≤g)(hb:w.heap[g]? = some (.cells cs 66 (0,0)))(h:jD true w x cs.toList) : dZ w0.heap.size w (.slice (some ⟨g,0,none⟩) 1 1) [x]:=by
  have hh:=h
  obtain⟨s,h1,h2⟩:=hh
  have hl:cs.toList.length=25:=by rw[h1];exact oN x s
  clear h1
  refine⟨cs.toList,⟨hl,.inr ⟨g,1,cs,rfl,hg,hb,Nat.le_refl _,by unfold maxLen;omega,by simpa using hl,by rw[List.take_of_length_le];exact Nat.le_of_eq hl⟩⟩,fun j y hj=>?_⟩
  cases j with
  | succ j=>simp at hj
  | zero =>
    have hj:x=y:=by simpa using hj
    subst hj
    exact⟨cs.toList,hl,h,fun i u hi=>by simpa using hi⟩
theorem tN{α β γ δ ε ζ:Sort _}{C:Prop}{P1 P2 P3 P4:α→β→γ→δ→ε→ζ→Prop}(h:∃ a b c d e f,P1 a b c d e f∧P2 a b c d e f∧P3 a b c d e f∧P4 a b c d e f)(k:∀ a b c d e f,P1 a b c d e f→P2 a b c d e f→P3 a b c d e f→P4 a b c d e f→C) : C :=
  let ⟨a,b,c,d,e,f,h1,h2,h3,h4⟩:=h;k a b c d e f h1 h2 h3 h4
theorem fU{α β γ δ:Sort _}{C:Prop}{P1 P2 P3 P4 P5:α→β→γ→δ→Prop}(h:∃ a b c d,P1 a b c d∧P2 a b c d∧P3 a b c d∧P4 a b c d∧P5 a b c d)(k:∀ a b c d,P1 a b c d→P2 a b c d→P3 a b c d→P4 a b c d→P5 a b c d→C) : C :=
  let ⟨a,b,c,d,h1,h2,h3,h4,h5⟩:=h;k a b c d h1 h2 h3 h4 h5
theorem jD.ones{m:Bool}{w:World}(x:Ev)(cs:List Value)(h:jD m w x cs) : ∀ v,v∈cs→v.oneCell'=true:=by
  obtain⟨s,h1,h2,_⟩:=h
  have h3:=h2.one
  intro v hv
  rw[h1,ss,gQ,Array.toList_append,Array.toList_append,List.mem_append,List.mem_append] at hv
  clear h1
  rw[Array.all_eq_true'] at h3
  rcases hv with hv|hv|hv
  · simp at hv;subst hv;rfl
  · simp at hv;rcases hv with rfl | rfl<;>rfl
  · exact h3 v (by simpa using hv)
theorem kK.elt{m:Bool}{w:World}{A:Option Addr}{n c:Nat}{xs:List Ev}(h:kK m w (.slice A n c) xs)(j:Nat)(hj:j<xs.length)(d:Ev) :
    ∃ b off cells t fr s,A=some ⟨b,off,none⟩∧w.heap[b]? = some (.cells cells t fr)∧(aX m w (og (xs.getD j d).f.msg s).toList (xs.getD j d).f.msg∧(0≤(xs.getD j d).f.unit∧(xs.getD j d).f.unit<256)∧(0≤(xs.getD j d).f.tid∧(xs.getD j d).f.tid<65536))∧(cells.toList.drop (off+j*25)).take 25=(kM (xs.getD j d) s).toList:=by
  obtain⟨b,off,cells,t,fr,cs,h1,h2,h3,⟨s,h4,h5⟩,h6⟩:=aI.elt h d j hj
  exact⟨b,off,cells,t,fr,s,h1,h2,h5,h6.trans h4⟩
abbrev tb (m:Bool) (w:World) (v:Value) (xs:List cN) : Prop:=aI m 33 24 (jv m) w v xs
abbrev jR (m:Bool) (w:World) (v:Value) (xs:List (List Int)) : Prop:=aI m 27 1 (vv m) w v xs
theorem jv.upd{m:Bool}{w w':World}{S:List Nat}(hu:ax S w w')(hs:bR m ew S w)(x:cN)(cs:List Value)(h:jv m w x cs) : jv m w' x cs:=by
  obtain⟨s,h1,h2,h3⟩:=h
  exact⟨s,h1,h2.upd hu hs,h3⟩
theorem tb.old{m:Bool}{w w':World}{v:Value}{xs:List cN}(h:tb m w v xs)(hu:ax [] w w') : tb m w' v xs:=aI.upd h hu (bR.nil _ _ _) (jv.upd hu (bR.nil _ _ _))
theorem tb.elt{m:Bool}{w:World}{A:Option Addr}{n c:Nat}{xs:List cN}(h:tb m w (.slice A n c) xs)(j:Nat)(hj:j<xs.length)(d:cN) :
    ∃ b off cells t fr s,A=some ⟨b,off,none⟩∧w.heap[b]? = some (.cells cells t fr)∧(aX m w (og (xs.getD j d).msg s).toList (xs.getD j d).msg∧(0≤(xs.getD j d).unit∧(xs.getD j d).unit<256)∧(0≤(xs.getD j d).tid∧(xs.getD j d).tid<65536))∧(cells.toList.drop (off+j*24)).take 24=(nB (xs.getD j d).unit (xs.getD j d).tid (xs.getD j d).msg s).toList:=by
  obtain⟨b,off,cells,t,fr,cs,h1,h2,h3,⟨s,h4,h5⟩,h6⟩:=aI.elt h d j hj
  exact⟨b,off,cells,t,fr,s,h1,h2,h5,h6.trans h4⟩
theorem jR.old{m:Bool}{w w':World}{v:Value}{xs:List (List Int)}(h:jR m w v xs)(hu:ax [] w w') : jR m w' v xs:=aI.upd h hu (bR.nil _ _ _) fun x cs ⟨v,h1,h2⟩=>⟨v,h1,h2.old hu⟩
theorem jR.elt{m:Bool}{w:World}{A:Option Addr}{n c:Nat}{xs:List (List Int)}(h:jR m w (.slice A n c) xs)(j:Nat)(hj:j<xs.length) :
    ∃ b off A' c',A=some ⟨b,off,none⟩∧w.cell? ⟨b,off+j,none⟩=some (.slice A' (xs.getD j []).length c')∧aN m w (.slice A' (xs.getD j []).length c') (xs.getD j [])∧(xs.getD j []).length≤c'∧c'≤maxLen:=by
  obtain⟨b,off,cells,t,fr,cs,h1,h2,h3,⟨v,h4,h5⟩,h6⟩:=aI.elt h [] j hj
  obtain⟨A',c',rfl,h7,h8⟩:=h5.shape
  refine⟨b,off,A',c',h1,?_,h5,h7,h8⟩
  rw[bJ h2]
  rw[h4] at h6
  have h9:=congrArg (fun z=>z[0]?) h6
  simpa using h9
open Go.RowKit
theorem ml{P:Program}{w:World}{ev:Operand→Value}{o:Oper}{x y:Operand}{t t':TypeId}{k:IntKind}{a b:Int}(ho:o.op = .binOp .rem t x y t')(hx:ev x = .int k a)(hy:ev y = .int k b)(h0:0≤a)(hb:0<b) : (execOp ev o).run P w = .ok (.value (.int k (a%b))) w:=by
  have hg:eqGuard .rem t x y (.int k a) (.int k b)=pure ():=rfl
  have hz:(b==0)=false:=by simpa using Int.ne_of_gt hb
  unfold execOp
  simp only[ho,hx,hy,hg,binOp_rem,Sem.run_bind,Sem.run_pure,Result.andThen,Op.intDiv]
  simp[hz,Int.ne_of_gt hb,Int.tmod_eq_emod_of_nonneg h0,Result.andThen]
theorem mn{x y:Int}(hy:0<y) : 0≤x%y∧x%y<y:=⟨Int.emod_nonneg _ (Int.ne_of_gt hy),Int.emod_lt_of_pos _ hy⟩
theorem mw{P:Program}(t e:TypeId)(sz:Nat){i:TypeInfo}(ht:P.underlying t=some (.slice e))(hi:P.info? e=some i)(hsz:i.size=sz)(A:Option Addr)(n c:Nat){k:Int}(h:Nat)(hk:k=(h:Int))(hh:h≤n)(hc:n≤c) :
    ∃ A':Option Addr,(∀ (kh:IntKind) (W:World),(Instr.slice t (.slice A n c) none (some (.int kh k)) none).run P W = .ok (.slice A' h c) W) ∧
      ∀ {α:Type} (m:Bool) (e':TypeId) (R:World→α→List Value→Prop) (w:World) (xs:List α),aI m e' sz R w (.slice A n c) xs→aI m e' sz R w (.slice A' h c) (xs.take h):=by
  subst hk
  obtain⟨A',h1,h2⟩:=pL (P:=P) t e sz ht hi hsz A n c 0 h (Nat.zero_le _) hh hc
  refine⟨A',fun kh W=>?_,fun m e' R w xs hr=>by simpa using h2 m e' R w xs hr⟩
  have h3:=h1 .i64 kh W
  have hel:P.elem t=e:=by simp[Program.elem,ht]
  have hu:P.underlying t=some (.slice (P.elem t)):=by rw[hel];exact ht
  rw[run_slice_h W t A n c hu kh (h:Int) (Int.natCast_nonneg _) (by omega)]
  rw[run_slice_lh W t A n c hu .i64 kh (((0:Nat) : Int)) (h:Int) (Int.natCast_nonneg _) (by omega) (by omega)] at h3
  simpa using h3
theorem fK{o:Oper}{ev:Operand→Value}{P:Program}{w:World}{t:TypeId}{x y:Operand}{A:Option Addr}{n c:Nat}{kl:IntKind}{k:Int}{v:Value}{e:TypeId}(ho:o.op = .slice t x none (some y) none)(ht:P.underlying t=some (.slice e))(hx:ev x = .slice A n c)(hy:ev y = .int kl k)
    (hr:(Instr.slice t (.slice A n c) none (some (.int kl k)) none).run P w = .ok v w) : (execOp ev o).run P w = .ok (.value v) w:=by
  have hu:(underlying t).run P w = .ok (.slice e) w:=run_underlying ht w
  unfold execOp
  simp only[ho,Option.map_some,Option.map_none,hx,hy,Instr.sliceAt,Sem.run_bind,hu,hr,Result.andThen,Sem.run_pure]
theorem m7{P:Program}(t e:TypeId)(sz:Nat){i:TypeInfo}(ht:P.underlying t=some (.slice e))(hi:P.info? e=some i)(hsz:i.size=sz)(A:Option Addr)(n c:Nat){lo up:Int}(k h:Nat)(hlo:lo=(k:Int))(hup:up=(h:Int))(hk:k≤h)(hh:h≤n)(hc:n≤c) :
    ∃ A':Option Addr,(∀ (kl kh:IntKind) (W:World),(Instr.slice t (.slice A n c) (some (.int kl lo)) (some (.int kh up)) none).run P W = .ok (.slice A' (h-k) (c-k)) W) ∧
      ∀ {α:Type} (m:Bool) (e':TypeId) (R:World→α→List Value→Prop) (w:World) (xs:List α),aI m e' sz R w (.slice A n c) xs→aI m e' sz R w (.slice A' (h-k) (c-k)) ((xs.take h).drop k):=by
  subst hlo hup
  exact pL t e sz ht hi hsz A n c k h hk hh hc
theorem iw{o:Oper}{ev:Operand→Value}{P:Program}{w:World}{t:TypeId}{x y z:Operand}{A:Option Addr}{n c:Nat}{kl kh:IntKind}{lo hi:Int}{v:Value}{e:TypeId}(ho:o.op = .slice t x (some y) (some z) none)(ht:P.underlying t=some (.slice e))(hx:ev x = .slice A n c)(hy:ev y = .int kl lo)(hz:ev z = .int kh hi)
    (hr:(Instr.slice t (.slice A n c) (some (.int kl lo)) (some (.int kh hi)) none).run P w = .ok v w) : (execOp ev o).run P w = .ok (.value v) w:=by
  have hu:(underlying t).run P w = .ok (.slice e) w:=run_underlying ht w
  unfold execOp
  simp only[ho,Option.map_some,Option.map_none,hx,hy,hz,Instr.sliceAt,Sem.run_bind,hu,hr,Result.andThen,Sem.run_pure]
theorem iM{P:Program}(t e:TypeId)(sz:Nat){i:TypeInfo}(ht:P.underlying t=some (.slice e))(hi:P.info? e=some i)(hsz:i.size=sz)(A:Option Addr)(n c:Nat){lo:Int}(k:Nat)(hlo:lo=(k:Int))(hk:k≤n) :
    ∃ A':Option Addr,(∀ (kl:IntKind) (W:World),(Instr.slice t (.slice A n c) (some (.int kl lo)) none none).run P W = .ok (.slice A' (n-k) (c-k)) W) ∧
      ∀ {α:Type} (m:Bool) (e':TypeId) (R:World→α→List Value→Prop) (w:World) (xs:List α),aI m e' sz R w (.slice A n c) xs→aI m e' sz R w (.slice A' (n-k) (c-k)) (xs.drop k):=by
  subst hlo
  exact dI t e sz ht hi hsz A n c k hk
open Go.RowKit
theorem qu{P:Program}{w:World}{ev:Operand→Value}{o:Oper}{x y:Operand}{ts:Array TypeId}{k:IntKind}{a b:Int}(ho:o.op = .call { callee:=.builtin .min,args:=#[x,y],argTypes:=ts })(hx:ev x = .int k a)(hy:ev y = .int k b) : (execOp ev o).run P w = .ok (.value (.int k (min a b))) w:=by
  have h:(Builtin.min_ ts o.type #[.int k a,.int k b]).run P w = .ok (.int k (min a b)) w:=by
    simp[Builtin.min_,Builtin.min2]
    split<;>simp[Int.min_def]<;>omega
  unfold execOp
  simp only[ho,resolve,invoke,builtin,Sem.run_bind,Sem.run_pure,Result.andThen_ok,List.map_toArray,List.map_cons,List.map_nil,hx,hy,h]
theorem aI.adr{α:Type}{m:Bool}{e:TypeId}{sz:Nat}{R:World→α→List Value→Prop}{w:World}{A:Option Addr}{n c:Nat}{xs:List α}(h:aI m e sz R w (.slice A n c) xs) : 0<n→∃ b off,A=some ⟨b,off,none⟩:=fun hn=>by
  obtain⟨A',c',hv,hc1,hc2,h0,h3⟩:=h
  injection hv with e1 e2 e3
  subst e1 e2 e3
  obtain⟨b,off,cells,t,fr,hA,_⟩:=h3 hn
  exact⟨b,off,hA⟩
theorem aI.cap{α:Type}{m:Bool}{e:TypeId}{sz:Nat}{R:World→α→List Value→Prop}{w:World}{A:Option Addr}{n c:Nat}{xs:List α}(h:aI m e sz R w (.slice A n c) xs) : n≤c:=by
  obtain⟨A',c',hv,h1,_⟩:=h
  injection hv with _ e2 e3
  subst e2 e3
  exact h1
theorem ph{P:Program}{w:World}{ev:Operand→Value}{o:Oper}{x y z:Operand}{t e:TypeId}{A:Option Addr}{n c:Nat}{k1 k2:IntKind}{i1 i2:Int}(ho:o.op = .slice t x none (some y) (some z))(ht:P.underlying t=some (.slice e))(hi:(P.info? e).map (·.size)=some 1)
    (hx:ev x = .slice A n c) (hy:ev y = .int k1 i1) (hz:ev z = .int k2 i2) (h1:i1=(n:Int)) (h2:i2=(n:Int)) (hc1:n≤c) (hA:0<n→∃ b off,A=some ⟨b,off,none⟩) : (execOp ev o).run P w = .ok (.value (.slice A n n)) w:=by
  subst h1 h2
  obtain⟨i0,hi0,hs⟩:=Option.map_eq_some_iff.1 hi
  have hel:P.elem t=e:=by simp[Program.elem,ht]
  have hu:P.underlying t=some (.slice (P.elem t)):=by rw[hel];exact ht
  have hr:=run_slice_hm (P:=P) w t A n c hu k1 k2 ((n:Nat) : Int) ((n:Nat) : Int) (by omega) (Int.le_refl _) (by omega)
  have hA:(if n=0 then A else A.map (·.add 0))=A:=by
    split
    · rfl
    · rename_i hne
      obtain⟨b,off,rfl⟩:=hA (by omega)
      rfl
  have hr2:(Instr.slice t (.slice A n c) none (some (.int k1 ((n:Nat) : Int))) (some (.int k2 ((n:Nat) : Int)))).run P w = .ok (.slice A n n) w:=by
    rw[hr,hel]
    simp[sizeOf,typeInfo,hi0,hs,sliced,Result.andThen]
    simpa using hA
  have hu2:(underlying t).run P w = .ok (.slice e) w:=run_underlying ht w
  unfold execOp
  simp only[ho,Option.map_some,Option.map_none,hx,hy,hz,Instr.sliceAt,Sem.run_bind,hu2,hr2,Result.andThen,Sem.run_pure]
theorem aN.full{m:Bool}{w:World}{A:Option Addr}{n c:Nat}{xs:List Int}(h:aN m w (.slice A n c) xs) : aN m w (.slice A n n) xs:=by
  obtain⟨A',c',hv,hc1,hc2,h0,h3⟩:=h
  injection hv with e1 e2 e3
  subst e1 e2 e3
  refine⟨A,xs.length,rfl,Nat.le_refl _,Nat.le_trans hc1 hc2,fun hA=>?_,h3⟩
  have:=h0 hA
  omega
theorem jZ{P:Program}{A:Option Addr}{c:Nat}(w:World) : (Builtin.firstCells 1 0 (.slice A 0 c)).run P w = .ok #[] w:=by
  cases A with
  | none=>simp[Builtin.firstCells]
  | some a =>
    have:=run_loadCells_list (P:=P) w a [] (fun j v hj=>by simp at hj)
    simpa [Builtin.firstCells] using this
theorem sw{P:Program}{m:Bool}{w:World}{t e:TypeId}{A:Option Addr}{n c:Nat}{ys:List Int}(ht:P.underlying t=some (.slice e))(h:aN m w (.slice A n c) ys)(h0:ys=[]) : Src P 1 t (.slice A n c) 0 [] w:=by
  subst h0
  obtain⟨A',c',hv,hc1,hc2,h0,h3⟩:=h
  injection hv with e1 e2 e3
  subst e1 e2 e3
  exact⟨.inl ⟨e,ht⟩,fun w'=>by simp[Builtin.lenOf],jZ w,jZ w.drew,rfl,fun u hu=>by cases hu⟩
section
variable {P:Program}{n:Nat}{D:List Deferred}{F:Fr}{w:World}{K:Fr→World→Prop}{Q:Exit→Act→World→Prop}{d:Option Tmp}{t:TypeId}{s:String}{af:Array Edge}{gu:Option (Nat × Bool)}
end
end Go.Proofs.YtpglhicfhppaiaaGreat
namespace Go.Proofs.YtpglhicfhppaiaaGreat
def p8 (x:Nat) : Nat:=(x/2) ^^^ (x%2*40961)
def eP:Nat→Nat→Nat
  | 0,x=>x
  | k+1,x=>p8 (eP k x)
def qm (i:Nat) : Nat:=eP 8 i
theorem rf{x:Nat}(h:x<65536) : p8 x<65536:=by
  unfold p8
  exact Nat.xor_lt_two_pow (n:=16) (by omega) (by omega)
theorem jk{x:Nat}(h:x<65536) : ∀ k,eP k x<65536
  | 0=>h
  | k+1=>rf (jk h k)
theorem mi{i:Nat}(h:i<256) : qm i<65536:=jk (by omega) 8
def oP (s c:Nat) : Nat:=(s/256) ^^^ qm ((s%256) ^^^ c)
theorem m6{a b:Nat}(ha:a<256)(hb:b<256) : a ^^^ b<256:=Nat.xor_lt_two_pow (n:=8) ha hb
theorem pv{a b:Nat}(ha:a<65536)(hb:b<65536) : a ^^^ b<65536:=Nat.xor_lt_two_pow (n:=16) ha hb
theorem pA{s c:Nat}(hs:s<65536)(hc:c<256) : oP s c<65536:=pv (by omega) (mi (m6 (by omega) hc))
def xi (a b:Int) : Int:=((a.toNat ^^^ b.toNat:Nat) : Int)
theorem vE{a b:Int}(ha:0≤a∧a<256)(hb:0≤b∧b<256) : 0≤xi a b∧xi a b<256:=by
  have:=m6 (a:=a.toNat) (b:=b.toNat) (by omega) (by omega)
  unfold xi
  omega
theorem qh(n:Nat) : xi (((n:Nat) : Int)/2) ((((n:Nat) : Int)%2)*40961%65536)=((p8 n:Nat) : Int):=by
  unfold xi p8
  rw[show(((n:Nat) : Int)/2).toNat=n/2 from by omega,show((((n:Nat) : Int)%2)*40961%65536).toNat=n%2*40961 from by omega]
def gq (i:Int) : Int:=((qm i.toNat:Nat) : Int)
theorem kE{i:Int}(h:0≤i∧i<256) : 0≤gq i∧gq i<65536:=by
  have:=mi (i:=i.toNat) (by omega)
  unfold gq
  omega
def ly (s c:Int) : Int:=xi (s/256) (gq (xi (s%256) c))
theorem oR{s c:Int}(hs:0≤s∧s<65536)(hc:0≤c∧c<256) : ly s c=((oP s.toNat c.toNat:Nat) : Int):=by
  unfold ly gq xi oP
  rw[show(s/256).toNat=s.toNat/256 from by omega,show(s%256).toNat=s.toNat%256 from by omega]
  simp only[Int.toNat_natCast]
theorem ke{s c:Int}(hs:0≤s∧s<65536)(hc:0≤c∧c<256) : 0≤ly s c∧ly s c<65536:=by
  have:=pA (s:=s.toNat) (c:=c.toNat) (by omega) (by omega)
  rw[oR hs hc]
  omega
def c3 (s:Int)(b:List Int) : Int:=b.foldl ly s
theorem hY:∀ (b:List Int){s:Int},(0≤s∧s<65536)→(∀ x,x∈b→0≤x∧x<256)→0≤c3 s b∧c3 s b<65536
  | [],s,hs,_=>hs
  | c :: b,s,hs,hb=>hY b (ke hs (hb c (List.mem_cons_self ..))) fun x hx=>hb x (List.mem_cons_of_mem _ hx)
theorem oX(s:Int)(a b:List Int) : c3 s (a++b)=c3 (c3 s a) b:=by unfold c3;rw[List.foldl_append]
def bP (s:Int) : List Int:=[s%256,s/256%256]
def dK (b:List Int) : Bool:=decide (2≤b.length)&&decide (bP (c3 65535 (b.take (b.length-2)))=b.drop (b.length-2))
open Go.RowKit
def tM (P:Program)(ty:TypeId) : Option (Nat × TypeId):=match P.underlying ty with | some (.array m e)=>some (m,e) | _=>none
theorem pp{P:Program}{ty e:TypeId}{m:Nat}(h:tM P ty=some (m,e)) : P.underlying ty=some (.array m e):=by
  unfold tM at h
  split at h
  · injection h with h
    injection h with h1 h2
    subst h1 h2
    assumption
  · cases h
theorem nD{P:Program}{w:World}{ev:Operand→Value}{o:Oper}{t e:TypeId}{x ix:Operand}{b off j m:Nat}{k:IntKind}{i:Int}(ho:o.op = .indexAddr t x ix)(ht:P.underlying t=some (.array m e))(hi:(P.info? e).map (·.size)=some 1)
    (hx:ev x = .pointer (some ⟨b,off,none⟩)) (hix:ev ix = .int k i) (hj:i=j) (hlt:j<m) : (execOp ev o).run P w = .ok (.value (.pointer (some ⟨b,off+j,none⟩))) w:=by
  subst hj
  obtain⟨i0,hi0,hs⟩:=Option.map_eq_some_iff.1 hi
  unfold execOp
  have h2:(0:Int)≤(j:Int)∧(j:Int)<(m:Int):=by omega
  simp[ho,hx,hix,Instr.indexAt,Instr.sureAddr,asIntOf,run_underlying ht,Result.andThen,h2,sizeOf,typeInfo,hi0,hs,fl,hlt]
section
variable {P:Program}{n:Nat}{D:List Deferred}{F:Fr}{w:World}{K:Fr→World→Prop}{Q:Exit→Act→World→Prop}{d:Option Tmp}{t:TypeId}{s:String}{af:Array Edge}{gu:Option (Nat × Bool)}
theorem uW{ty:TypeId}{x ix:Operand}{b off:Nat}(m j:Nat)(i:Int)(hj:i=j)(hlt:j<m)(h:K (pt d (.pointer (some ⟨b,off+j,none⟩)) F) w)
    (hx:cY F x=some (.pointer (some ⟨b,off,none⟩)):=by kernel_rfl) (hi:r7 F ix=some i:=by kernel_rfl) (hs:((tM P ty).bind fun p=>(P.info? p.2).map fun q=>(p.1,q.size),dA n d)=(some (m,1),true):=by kernel_rfl) : OG P ⟨d,.indexAddr ty x ix,t,s,af,gu⟩ n D F w K Q:=by
  simp only[Prod.mk.injEq] at hs
  obtain⟨hs,hd⟩:=hs
  obtain⟨k,hi⟩:=gM hi
  cases he:tM P ty with
  | none=>rw[he] at hs;simp at hs
  | some p =>
    obtain⟨m',e⟩:=p
    rw[he] at hs
    obtain⟨q,hq,h3⟩:=Option.map_eq_some_iff.1 (show(P.info? e).map (fun q=>(m',q.size))=some (m,1) from hs)
    injection h3 with h4 h5
    subst h4
    exact⟨fun a ha K' hK=>dy _ rfl (nD rfl (pp he) (by rw[hq];simp[h5]) (ha.ev hx) (ha.ev hi) hj hlt) (hK _ _ _ h (ha.put hd))⟩
end
theorem tu{a b:Int}(ha:0≤a∧a<256)(hb:0≤b∧b<256) : bits .xor .u8 a b=xi a b:=u8_xor a b ha.1 ha.2 hb.1 hb.2
theorem pB{a b:Int}(ha:0≤a∧a<65536)(hb:0≤b∧b<65536) : bits .xor .u16 a b=xi a b:=u16_xor a b ha.1 ha.2 hb.1 hb.2
theorem oW{a:Int}(ha:0≤a∧a<65536) : bits .and .u16 a 1=a%2:=by
  rw[u16_and a 1 ha.1 ha.2 (by omega) (by omega)]
  show((a.toNat &&& 1:Nat) : Int)=_
  rw[Nat.and_one_is_mod]
  omega
def ez (k:Nat) : Array Value:=((List.range 256).map fun i=>if i<k then Value.int .u16 (gq i) else Value.int .u16 0).toArray
theorem cF(k:Nat) : (ez k).size=256:=by simp[ez]
theorem kI(k:Nat) : (ez k).all (·.oneCell')=true:=by
  unfold ez
  rw[List.all_toArray,List.all_eq_true]
  intro v hv
  rw[List.mem_map] at hv
  obtain⟨i,_,rfl⟩:=hv
  split<;>rfl
theorem ot{i k:Nat}(hk:k=8)(hi:i<256) : (ez i).setIfInBounds i (.int .u16 ((eP k i:Nat) : Int))=ez (i+1):=by
  subst hk
  unfold ez
  rw[List.setIfInBounds_toArray]
  congr 1
  apply List.ext_getElem?
  intro j
  rw[List.getElem?_set]
  by_cases hj:j<256
  · by_cases hij:i=j
    · subst hij
      simp[hi,gq,qm]
    · simp[hij,hj]
      congr 1
      simp only[eq_iff_iff]
      omega
  · rw[if_neg (by omega)]
    simp[hj]
theorem qj{i:Nat}(h:i<256) : (ez 256)[i]? = some (.int .u16 (gq i)):=by simp[ez,h]
def d9 (s:Int)(b:List Int) : Nat→Int
  | 0=>s
  | k+1=>ly (d9 s b k) (b.getD k 0)
theorem iL(s:Int)(b:List Int) : ∀ k,k≤b.length→d9 s b k=c3 s (b.take k)
  | 0,_=>by simp[d9,c3]
  | k+1,h=>by
    rw[List.take_succ_eq_append_getElem (by omega),oX,← iL s b k (by omega)]
    show ly _ (b.getD k 0)=_
    rw[List.getD_eq_getElem?_getD,List.getElem?_eq_getElem (by omega)]
    rfl
theorem pO{s:Int}{b:List Int}{k:Nat}(h:k=b.length) : d9 s b k=c3 s b:=by
  subst h
  rw[iL _ _ _ (Nat.le_refl _),List.take_length]
theorem jy{s:Int}{b:List Int}(hs:0≤s∧s<65536)(hb:∀ x,x∈b→0≤x∧x<256) : ∀ k,0≤d9 s b k∧d9 s b k<65536
  | 0=>hs
  | k+1=>ke (jy hs hb k) (dX (by omega) hb k)
theorem pI{i:Int}(h:0≤i) : gq ((i.toNat:Nat) : Int)=gq i:=by rw[Int.toNat_of_nonneg h]
open Go.RowKit
theorem je{w:World}:Calls Tryz.prog 167 #[] w (bi (.agg (ez 256)) w):=by
 refine en 23 Tryz.func167 rfl<|sg<|L0<|bB (ez 0) fun c G o p q=>ng<|L0<|bB (ez 0) fun a r s t u=>nt<|sq<|sg<|?_
 refine Pl 1<|nt<|bk<|?_
 refine fR (fun x=>[(0,.pointer (some ⟨c,0,none⟩)),(1,.pointer (some ⟨a,0,none⟩)),(4,.int .i64 ((x:Nat) : Int))]) (fun(x:Nat) w'=>ax [a] r w'∧w'.heap[a]? = some (.cells (ez x) 218 (0,0))∧(x≤256)) (fun x=>256-x) 0 ⟨ax.refl _ _,t,(by(try dsimp only);omega)⟩ ?_
 rintro i g ⟨h,v,y⟩
 refine ge [(0,.pointer (some ⟨c,0,none⟩)),(1,.pointer (some ⟨a,0,none⟩)),(4,.int .i64 ((i:Nat) : Int))] ?_
 have j:g.heap[a]? = some (.cells (ez i) 218 (0,0)):=v
 have H:i≤256:=y
 refine sg<|Pl 1<|nt<|sq<|?_
 have l:=ud u h s
 have m:=aG q l
 refine cb ((decide (((i:Nat) : Int)<256))) (fun e=>?_) (fun e=>?_)
 have z:=of_decide_eq_true e
 refine bC<|sq<|bk<|sg<|Pl 2<|ng<|Pl 1<|L0<|Oe (.int .u16 (IntKind.u16.wrap ((i:Nat) : Int))) (.int .u16 ((eP 0 i:Nat) : Int)) (congrArg (Value.int .u16) (lc (x:=((i:Nat) : Int)) (by omega)))<|Pl 1<|nl<|?_
 refine tn<|sq<|sg<|Pl 1<|nt<|bk<|?_
 refine fR (fun x=>[(0,.pointer (some ⟨c,0,none⟩)),(1,.pointer (some ⟨a,0,none⟩)),(2,.int .i64 ((i:Nat) : Int)),(3,.int .u16 ((eP x i:Nat) : Int)),(4,.int .i64 ((i:Nat) : Int)),(5,.bool (decide (((i:Nat) : Int)<256))),(6,.int .i64 ((i:Nat) : Int)),(7,.int .i64 ((i:Nat) : Int)),(8,.int .u16 ((eP 0 i:Nat) : Int)),(9,.int .i64 ((x:Nat) : Int))]) (fun(x:Nat) w'=>ax [] g w'∧(x≤8)) (fun x=>8-x) 0 ⟨ax.refl _ _,(by(try dsimp only);omega)⟩ ?_
 rintro k I ⟨d,A⟩
 refine ge [(0,.pointer (some ⟨c,0,none⟩)),(1,.pointer (some ⟨a,0,none⟩)),(2,.int .i64 ((i:Nat) : Int)),(3,.int .u16 ((eP k i:Nat) : Int)),(4,.int .i64 ((i:Nat) : Int)),(5,.bool (decide (((i:Nat) : Int)<256))),(6,.int .i64 ((i:Nat) : Int)),(7,.int .i64 ((i:Nat) : Int)),(8,.int .u16 ((eP 0 i:Nat) : Int)),(9,.int .i64 ((k:Nat) : Int))] ?_
 have J:k≤8:=A
 have K:=jk (x:=i) (by omega) k
 refine sg<|Pl 1<|nt<|sq<|?_
 have L:=aG m d
 refine cb ((decide (((k:Nat) : Int)<8))) (fun f=>?_) (fun f=>?_)
 have B:=of_decide_eq_true f
 refine bC<|sq<|bk<|go<|Pl 1<|L0<|Oe (.int .u16 (Int.fdiv ((eP k i:Nat) : Int) (2 ^ 1))) (.int .u16 (((eP k i:Nat) : Int)/2)) (congrArg (Value.int .u16) (j8 _ _ _ (by decide)))<|Pl 1<|L0<|Oe (.int .u16 (bits .and .u16 ((eP k i:Nat) : Int) 1)) (.int .u16 (((eP k i:Nat) : Int)%2)) (congrArg (Value.int .u16) (oW (by omega)))<|Pl 1<|L0<|Oe (.int .u16 (bits .xor .u16 (((eP k i:Nat) : Int)/2) (((((eP k i:Nat) : Int)%2)*40961)%65536))) (.int .u16 ((eP (k+1) i:Nat) : Int)) (congrArg (Value.int .u16) ((pB (by omega) (by omega)).trans (qh _)))<|Pl 1<|nl<|bn<|?_
 exact tn<|go<|L0<|Oi (((k:Nat) : Int)+1)<|Pl 1<|nl<|dY (k+1) ⟨d,(by(try dsimp only);omega)⟩ (by omega)
 have B:=of_decide_eq_false f
 refine xt<|tx<|tx<|bx<|tn<|go<|Pl 2<|L0<|uW (b:=a) (off:=0) 256 i ((i:Nat) : Int) rfl (by omega)<|?_
 refine L0<|bS (hl:=(by rw[cF];simp;omega)) (ub d j) (0+i) ((ez i).setIfInBounds (0+i) (.int .u16 ((eP k i:Nat) : Int))) fun M C D=>?_
 have n:=C
 rw[Nat.zero_add,ot (by omega) (by omega)] at n
 refine nl<|bn<|tn<|go<|L0<|Oi (((i:Nat) : Int)+1)<|Pl 1<|nl<|?_
 exact dY (i+1) ⟨(u1 h (uz d D) im),n,(by(try dsimp only);omega)⟩ (by omega)
 have z:=of_decide_eq_false e
 refine xt<|tx<|tx<|bx<|tn<|sg<|L0<|c7 (hz:=(by rw[cF];kernel_rfl)) j<|?_
 refine L0<|be (hz:=(by rw[cF];kernel_rfl)) (hv:=(by rw[cF,cF])) (h1:=(kI _)) (ub l p) ((ez i)) fun N E F=>nt<|rt<|uC 256 (cF _) E<|?_
 have hi:i=256:=by omega
 subst hi
 exact⟨rfl,(ud m F o)⟩
theorem ju{m:Bool}{A:Option Addr}{cp:Nat}{b:List Int}{w:World}{s:Int}(hsl:aN m w (.slice A b.length cp) b)(hs:0≤s∧s<65536) :
    Calls Tryz.prog 166 #[.int .u16 s,.slice A b.length cp] w (bi (.int .u16 (c3 s b)) w):=by
 have hln:=aI.len hsl
 have hb:=aN.range hsl
 refine en 26 Tryz.func166 rfl<|sg<|Pl 1<|ng<|L0<|Oc<|m1 (@je w) fun D g=>L0<|bB (ez 0) fun c E h j l=>L0<|be (hz:=(by rw[cF];kernel_rfl)) (hv:=(by rw[cF,cF])) (h1:=(kI _)) j ((ez 256)) fun n o q=>nt<|sq<|?_
 refine sg<|Pl 3<|nt<|bk<|?_
 refine fR (fun x=>[(0,.int .u16 (d9 s b x)),(4,.int .u16 0),(5,.pointer (some ⟨c,0,none⟩)),(9,.slice A b.length cp),(10,.int .i64 ((b.length:Nat) : Int)),(11,.int .i64 ((x:Nat) : Int))]) (fun(x:Nat) w'=>ax [] n w'∧(x≤b.length)∧(0≤d9 s b x∧d9 s b x<65536)) (fun x=>b.length-x) 0 ⟨ax.refl _ _,(by(try dsimp only);omega),hs⟩ ?_
 rintro k F ⟨d,r,t⟩
 refine ge [(0,.int .u16 (d9 s b k)),(4,.int .u16 0),(5,.pointer (some ⟨c,0,none⟩)),(9,.slice A b.length cp),(10,.int .i64 ((b.length:Nat) : Int)),(11,.int .i64 ((k:Nat) : Int))] ?_
 have G:k≤b.length:=r
 have H:0≤d9 s b k∧d9 s b k<65536:=t
 refine sg<|Pl 1<|nt<|sq<|?_
 have f:=aG g (ud l (aG q d) h)
 refine cb ((decide (((k:Nat) : Int)<((b.length:Nat) : Int)))) (fun e=>?_) (fun e=>?_)
 have u:=of_decide_eq_true e
 refine bC<|sq<|bk<|sg<|?_
 refine fF (aN.at_ (aN.old hsl f) k (by omega)) fun y z B C I=>L0<|ny b.length k B (by omega)<|L0<|jx (p:=⟨y,z+k,none⟩) (v:=.int .u8 (b.getD k 0)) C<|Pl 1<|nt<|go<|Pl 1<|L0<|Oe (.int .u16 (Int.fdiv (d9 s b k) (2 ^ 8))) (.int .u16 ((d9 s b k)/256)) (congrArg (Value.int .u16) (j8 _ _ _ (by decide)))<|Pl 3<|?_
 have J:=vE (a:=((d9 s b k)%256)) (b:=(b.getD k 0)) (by omega) (by omega)
 refine L0<|Oe (.int .u8 (bits .xor .u8 ((d9 s b k)%256) (b.getD k 0))) (.int .u8 (xi ((d9 s b k)%256) (b.getD k 0))) (congrArg (Value.int .u8) (tu (by omega) (by omega)))<|L0<|uW (b:=c) (off:=0) 256 (((xi ((d9 s b k)%256) (b.getD k 0))).toNat) (xi ((d9 s b k)%256) (b.getD k 0)) (by omega) (by omega)<|?_
 have K:=kE (i:=(xi ((d9 s b k)%256) (b.getD k 0))) (by omega)
 exact L0<|jx (p:=⟨c,0+((xi ((d9 s b k)%256) (b.getD k 0))).toNat,none⟩) (v:=.int .u16 (gq ((xi ((d9 s b k)%256) (b.getD k 0))))) (aj (ub d o) (by rw[Nat.zero_add,qj (by omega),pI (by omega)]))<|L0<|Oe (.int .u16 (bits .xor .u16 ((d9 s b k)/256) (gq (xi ((d9 s b k)%256) (b.getD k 0))))) (.int .u16 (d9 s b (k+1))) (congrArg (Value.int .u16) (pB (by omega) (kE (by omega))))<|Pl 1<|nl<|bn<|tn<|go<|L0<|Oi (((k:Nat) : Int)+1)<|Pl 1<|nl<|dY (k+1) ⟨d,(by(try dsimp only);omega),(jy hs hb _)⟩ (by omega)
 have u:=of_decide_eq_false e
 refine xt<|tx<|tx<|bx<|tn<|sg<|Pl 2<|nt<|rt<|rr (.int .u16 (d9 s b k))<|?_
 have hk:d9 s b k=c3 s b:=pO (by omega)
 rw[hk]
 exact⟨rfl,f⟩
theorem jX{m:Bool}{v:Value}{b:List Int}{w:World}(h:aN m w v b) : Calls Tryz.prog 166 #[.int .u16 65535,v] w (bi (.int .u16 (c3 65535 b)) w):=by
  obtain⟨A,cp,rfl,_,_⟩:=h.shape
  exact ju h (by decide)
theorem lG{m:Bool}{A:Option Addr}{cp:Nat}{b:List Int}{w:World}(hsl:aN m w (.slice A b.length cp) b) :
    Calls Tryz.prog 164 #[.slice A b.length cp] w (bi (.int .u16 (c3 65535 b)) w):=by
 refine en 5 Tryz.func164 rfl<|sg<|Pl 1<|ng<|Pl 1<|L0<|Oc<|m1 (jX hsl) fun c a=>Pl 1<|nt<|rt<|?_
 refine rr (.int .u16 (c3 65535 b))<|?_
 exact⟨rfl,a⟩
theorem iC{m:Bool}{v:Value}{b:List Int}{w:World}(h:aN m w v b) : Calls Tryz.prog 164 #[v] w (bi (.int .u16 (c3 65535 b)) w):=by
  obtain⟨A,cp,rfl,_,_⟩:=h.shape
  exact lG h
theorem fq{w:World}{s:Int}(hs:0≤s∧s<65536) : Calls Tryz.prog 163 #[.int .u16 s] w (fun e w'=>∃ v,e = .returned v∧cJ w.heap.size w' v (bP s)∧ax [] w w'):=by
 refine en 9 Tryz.func163 rfl<|sg<|Pl 1<|ng<|Pl 3<|L0<|Oe (.int .u16 (Int.fdiv s (2 ^ 8))) (.int .u16 (s/256)) (congrArg (Value.int .u16) (j8 _ _ _ (by decide)))<|Pl 1<|L0<|fg (m:=2) (e:=5) #[.int .u8 (s%256),.int .u8 ((s/256)%256)] fun a g b c d=>?_
 have f:=ik b (xs:=[(s%256),((s/256)%256)]) (by as_aux_lemma=>kernel_rfl) (aJ (by omega) (aJ (by omega) cR)) (by(try simp only[List.length_cons,List.length_nil]);omega) c
 refine Pl 1<|nt<|rt<|rr (.slice (some ⟨a,0,none⟩) 2 2)<|?_
 exact⟨_,rfl,f,d⟩
theorem gz{b:List Int}{n:Nat}(h:2≤b.length)(hn:n=b.length-2) : dK b=decide (bP (c3 65535 (b.take n))=b.drop n):=by
  subst hn
  unfold dK
  simp[h]
theorem qB{b:List Int}(h:b.length<2) : dK b=false:=by
  unfold dK
  simp
  omega
theorem lB{m:Bool}{A:Option Addr}{cp:Nat}{b:List Int}{w:World}(hsl:aN m w (.slice A b.length cp) b)(hb:b.length≤1048576)(hcp:b.length≤cp) :
    Calls Tryz.prog 161 #[.slice A b.length cp] w (bi (.bool (dK b)) w):=by
 have hc:=aI.len hsl
 refine en 22 Tryz.func161 rfl<|sg<|Pl 1<|ng<|Pl 2<|L0<|Oi (((b.length:Nat) : Int)-2)<|Pl 1<|nt<|sq<|?_
 refine Rg 16 (fun w'=>True) fun R f=>bg trivial fun d=>Rt 0 d<|Rt 1 d<|Rt 2 d<|tw 9 ((decide (0≤(((b.length:Nat) : Int)-2)))) (fun p=>?_) (fun p=>?_)
 have I:=of_decide_eq_true p
 refine Rt 3 d<|Rt 4 d<|o0 (mw (P:=Tryz.prog) 27 5 1 Tryz.underlying27 rfl rfl A b.length cp (k:=(((b.length:Nat) : Int)-2)) (((((b.length:Nat) : Int)-2)).toNat) (by omega) (by omega) (by omega)) fun q hrun60 i=>Rr 5 d (.slice q (((((b.length:Nat) : Int)-2)).toNat) cp) (fun _ _=>fK (kl:=.i64) (k:=(((b.length:Nat) : Int)-2)) (A:=A) (n:=b.length) (c:=cp) rfl Tryz.underlying27 (by kernel_rfl) (by kernel_rfl) (hrun60 _ _))<|Rt 9 d<|Rt 10 d<|o0 (iM (P:=Tryz.prog) 27 5 1 Tryz.underlying27 rfl rfl A b.length cp (lo:=(((b.length:Nat) : Int)-2)) (((((b.length:Nat) : Int)-2)).toNat) (by omega) (by omega)) fun g hrun63 e=>Rr 11 d (.slice g (b.length-(((((b.length:Nat) : Int)-2)).toNat)) (cp-(((((b.length:Nat) : Int)-2)).toNat))) (fun _ _=>dJ (kl:=.i64) (k:=(((b.length:Nat) : Int)-2)) (A:=A) (n:=b.length) (c:=cp) rfl Tryz.underlying27 (by kernel_rfl) (by kernel_rfl) (hrun63 _ _))<|?_
 refine R2 6 12 rfl rfl ?_ ?_
 have h:=aN.old hsl f
 refine  Oc (args:=#[.slice q (((((b.length:Nat) : Int)-2)).toNat) cp])<|m1 (iC (i _ _ _ _ _ h)) fun S j=>?_
 have T:=hY (b.take (((((b.length:Nat) : Int)-2)).toNat)) (s:=65535) (by decide) (aN.range (i _ _ _ _ _ h))
 refine bg trivial fun U=>?_
 refine R2 7 12 rfl rfl ?_ ?_
 refine  Oc<|oB (fq (s:=(c3 65535 (b.take (((((b.length:Nat) : Int)-2)).toNat)))) (by omega)) fun x y V l W X z=>bg trivial fun Y=>?_
 refine R2 8 12 rfl rfl ?_ ?_
 refine  fw (.string (strOfNums (bP (c3 65535 (b.take (((((b.length:Nat) : Int)-2)).toNat)))))) (bU (A:=x) (n:=(bP (c3 65535 (b.take (((((b.length:Nat) : Int)-2)).toNat)))).length) (c:=y) rfl (by kernel_rfl) Tryz.underlying27 Tryz.underlying5 Tryz.underlying9 (l).rd)<|bg trivial fun Z=>?_
 have B:=aG j z
 have C:=aN.old h B
 refine R0 12 rfl<|fw (.string (strOfNums (b.drop (((((b.length:Nat) : Int)-2)).toNat)))) (bU (A:=g) (n:=(b.length-(((((b.length:Nat) : Int)-2)).toNat))) (c:=(cp-(((((b.length:Nat) : Int)-2)).toNat))) rfl (by kernel_rfl) Tryz.underlying27 Tryz.underlying5 Tryz.underlying9 (e _ _ _ _ _ C))<|bg trivial fun r=>Rr 13 r (.bool (decide ((bP (c3 65535 (b.take (((((b.length:Nat) : Int)-2)).toNat))))=(b.drop (((((b.length:Nat) : Int)-2)).toNat))))) (fun _ _=>dN (a:=(strOfNums (bP (c3 65535 (b.take (((((b.length:Nat) : Int)-2)).toNat)))))) (b:=(strOfNums (b.drop (((((b.length:Nat) : Int)-2)).toNat)))) rfl (by kernel_rfl) (by kernel_rfl) (gg (l).rd (e _ _ _ _ _ C)))<|Rt 14 r<|Rt 15 r<|re<|tn<|rt<|rr (.bool (decide ((bP (c3 65535 (b.take (((((b.length:Nat) : Int)-2)).toNat))))=(b.drop (((((b.length:Nat) : Int)-2)).toNat)))))<|?_
 have hs:dK b=(decide ((bP (c3 65535 (b.take (((((b.length:Nat) : Int)-2)).toNat))))=(b.drop (((((b.length:Nat) : Int)-2)).toNat)))):=(gz (by omega) (by omega))
 rw[hs]
 exact⟨rfl,(aG f B)⟩
 have D:=aG j z
 have E:=aN.old h D
 refine  fw (.string (strOfNums (b.drop (((((b.length:Nat) : Int)-2)).toNat)))) (bU (A:=g) (n:=(b.length-(((((b.length:Nat) : Int)-2)).toNat))) (c:=(cp-(((((b.length:Nat) : Int)-2)).toNat))) rfl (by kernel_rfl) Tryz.underlying27 Tryz.underlying5 Tryz.underlying9 (e _ _ _ _ _ E))<|bg trivial fun a0=>R0 8 rfl<|fw (.string (strOfNums (bP (c3 65535 (b.take (((((b.length:Nat) : Int)-2)).toNat)))))) (bU (A:=x) (n:=(bP (c3 65535 (b.take (((((b.length:Nat) : Int)-2)).toNat)))).length) (c:=y) rfl (by kernel_rfl) Tryz.underlying27 Tryz.underlying5 Tryz.underlying9 (l).rd)<|bg trivial fun t=>Rr 13 t (.bool (decide ((bP (c3 65535 (b.take (((((b.length:Nat) : Int)-2)).toNat))))=(b.drop (((((b.length:Nat) : Int)-2)).toNat))))) (fun _ _=>dN (a:=(strOfNums (bP (c3 65535 (b.take (((((b.length:Nat) : Int)-2)).toNat)))))) (b:=(strOfNums (b.drop (((((b.length:Nat) : Int)-2)).toNat)))) rfl (by kernel_rfl) (by kernel_rfl) (gg (l).rd (e _ _ _ _ _ E)))<|Rt 14 t<|Rt 15 t<|re<|tn<|rt<|rr (.bool (decide ((bP (c3 65535 (b.take (((((b.length:Nat) : Int)-2)).toNat))))=(b.drop (((((b.length:Nat) : Int)-2)).toNat)))))<|?_
 have hs:dK b=(decide ((bP (c3 65535 (b.take (((((b.length:Nat) : Int)-2)).toNat))))=(b.drop (((((b.length:Nat) : Int)-2)).toNat)))):=(gz (by omega) (by omega))
 rw[hs]
 exact⟨rfl,(aG f D)⟩
 have F:=aN.old h j
 refine  fw (.string (strOfNums (b.drop (((((b.length:Nat) : Int)-2)).toNat)))) (bU (A:=g) (n:=(b.length-(((((b.length:Nat) : Int)-2)).toNat))) (c:=(cp-(((((b.length:Nat) : Int)-2)).toNat))) rfl (by kernel_rfl) Tryz.underlying27 Tryz.underlying5 Tryz.underlying9 (e _ _ _ _ _ F))<|bg trivial fun a1=>R0 7 rfl<|Oc<|oB (fq (s:=(c3 65535 (b.take (((((b.length:Nat) : Int)-2)).toNat)))) (by omega)) fun J K a2 G a3 a4 L=>bg trivial fun a5=>R0 8 rfl<|fw (.string (strOfNums (bP (c3 65535 (b.take (((((b.length:Nat) : Int)-2)).toNat)))))) (bU (A:=J) (n:=(bP (c3 65535 (b.take (((((b.length:Nat) : Int)-2)).toNat)))).length) (c:=K) rfl (by kernel_rfl) Tryz.underlying27 Tryz.underlying5 Tryz.underlying9 (G).rd)<|bg trivial fun u=>Rr 13 u (.bool (decide ((bP (c3 65535 (b.take (((((b.length:Nat) : Int)-2)).toNat))))=(b.drop (((((b.length:Nat) : Int)-2)).toNat))))) (fun _ _=>dN (a:=(strOfNums (bP (c3 65535 (b.take (((((b.length:Nat) : Int)-2)).toNat)))))) (b:=(strOfNums (b.drop (((((b.length:Nat) : Int)-2)).toNat)))) rfl (by kernel_rfl) (by kernel_rfl) (gg (G).rd (e _ _ _ _ _ F)))<|Rt 14 u<|Rt 15 u<|re<|tn<|rt<|rr (.bool (decide ((bP (c3 65535 (b.take (((((b.length:Nat) : Int)-2)).toNat))))=(b.drop (((((b.length:Nat) : Int)-2)).toNat)))))<|?_
 have hs:dK b=(decide ((bP (c3 65535 (b.take (((((b.length:Nat) : Int)-2)).toNat))))=(b.drop (((((b.length:Nat) : Int)-2)).toNat)))):=(gz (by omega) (by omega))
 rw[hs]
 exact⟨rfl,(aG f (aG j L))⟩
 have o:=aN.old hsl f
 refine  fw (.string (strOfNums (b.drop (((((b.length:Nat) : Int)-2)).toNat)))) (bU (A:=g) (n:=(b.length-(((((b.length:Nat) : Int)-2)).toNat))) (c:=(cp-(((((b.length:Nat) : Int)-2)).toNat))) rfl (by kernel_rfl) Tryz.underlying27 Tryz.underlying5 Tryz.underlying9 (e _ _ _ _ _ o))<|bg trivial fun a6=>R0 6 rfl<|Oc (args:=#[.slice q (((((b.length:Nat) : Int)-2)).toNat) cp])<|m1 (iC (i _ _ _ _ _ o)) fun a7 M=>?_
 have a8:=hY (b.take (((((b.length:Nat) : Int)-2)).toNat)) (s:=65535) (by decide) (aN.range (i _ _ _ _ _ o))
 refine bg trivial fun a9=>R0 7 rfl<|Oc<|oB (fq (s:=(c3 65535 (b.take (((((b.length:Nat) : Int)-2)).toNat)))) (by omega)) fun N O aa H ab ac Q=>bg trivial fun ad=>R0 8 rfl<|fw (.string (strOfNums (bP (c3 65535 (b.take (((((b.length:Nat) : Int)-2)).toNat)))))) (bU (A:=N) (n:=(bP (c3 65535 (b.take (((((b.length:Nat) : Int)-2)).toNat)))).length) (c:=O) rfl (by kernel_rfl) Tryz.underlying27 Tryz.underlying5 Tryz.underlying9 (H).rd)<|bg trivial fun v=>Rr 13 v (.bool (decide ((bP (c3 65535 (b.take (((((b.length:Nat) : Int)-2)).toNat))))=(b.drop (((((b.length:Nat) : Int)-2)).toNat))))) (fun _ _=>dN (a:=(strOfNums (bP (c3 65535 (b.take (((((b.length:Nat) : Int)-2)).toNat)))))) (b:=(strOfNums (b.drop (((((b.length:Nat) : Int)-2)).toNat)))) rfl (by kernel_rfl) (by kernel_rfl) (gg (H).rd (e _ _ _ _ _ o)))<|Rt 14 v<|Rt 15 v<|re<|tn<|rt<|rr (.bool (decide ((bP (c3 65535 (b.take (((((b.length:Nat) : Int)-2)).toNat))))=(b.drop (((((b.length:Nat) : Int)-2)).toNat)))))<|?_
 have hs:dK b=(decide ((bP (c3 65535 (b.take (((((b.length:Nat) : Int)-2)).toNat))))=(b.drop (((((b.length:Nat) : Int)-2)).toNat)))):=(gz (by omega) (by omega))
 rw[hs]
 exact⟨rfl,(aG f (aG M Q))⟩
 have I:=of_decide_eq_false p
 refine Ro 3 d<|Ro 4 d<|Ro 5 d<|Ro 6 d<|Ro 7 d<|Ro 8 d<|Ro 9 d<|Ro 10 d<|Ro 11 d<|Ro 12 d<|Ro 13 d<|Rt 14 d<|Rt 15 d<|re<|?_
 refine tn<|rt<|rr (.bool false)<|?_
 have hs:dK b=false:=(qB (by omega))
 rw[hs]
 exact⟨rfl,f⟩
theorem nU{m:Bool}{v:Value}{b:List Int}{w:World}(h:aN m w v b)(hb:b.length≤1048576) : Calls Tryz.prog 161 #[v] w (bi (.bool (dK b)) w):=by
  obtain⟨A,cp,rfl,hc,_⟩:=h.shape
  exact lB h hb hc
open Go.RowKit
def fz (b:List Int) : List Int:=(b.take (b.length-2)).drop 1
theorem gU(b:List Int) : fz b=(b.take (((b.length:Nat) : Int)-2).toNat).drop 1:=by
  unfold fz
  rw[show(((b.length:Nat) : Int)-2).toNat=b.length-2 from by omega]
def er (dir:Int)(b:List Int) : cN × Int :=
  if dir != 0&&dir != 1 then (cN.zero,1)
  else if decide ((b.length:Int)<4) then (cN.zero,2)
  else if decide (256<(b.length:Int)) then (cN.zero,3)
  else if !(dK b) then (cN.zero,10)
  else cn (b.getD 0 0) 0 (cj dir (fz b))
theorem lC{m:Bool}{A:Option Addr}{cp:Nat}{b:List Int}{w:World}{dir:Int}(hsl:aN m w (.slice A b.length cp) b)(hb:b.length≤1048576)(hcp:b.length≤cp) :
    Calls Tryz.prog 160 #[.int .i64 dir,.slice A b.length cp] w (j2 (er dir b) w):=by
 have hln:(b.length:Int)≤1048576:=by omega
 refine en 51 Tryz.func160 rfl<|sg<|L0<|bB #[.int .u8 0,.int .u16 0,.int .u8 0,.int .u8 0,.int .u16 0,.int .u16 0,.int .u16 0,.int .u16 0,.int .u16 0,.int .u16 0,.int .u16 0,.int .u16 0,.int .u16 0,.int .u16 0,.slice none 0 0,.slice none 0 0,.slice none 0 0,.slice none 0 0,.int .u8 0,.int .u8 0,.int .u8 0,.int .u8 0,.int .u8 0,.slice none 0 0] fun aW aY j e B=>Pl 1<|nt<|sq<|bk<|sg<|Pl 3<|cu 3 [11] 14 (((dir != 0)&&(dir != 1))) (fun K O=>?_) ?_
 refine bl 11 ((dir != 0)) (fun C=>?_) (fun C=>?_)
 have a7:=ay C
 exact Pl 3<|ce O (dir != 1) (by rw[C];rfl)
 have a7:=ag C
 exact Pl 3<|ce O false (by rw[C];rfl)
 refine Pl 1<|nt<|cb (((dir != 0)&&(dir != 1))) (fun d=>?_) (fun d=>?_)
 have Q:=(bQ d).1
 have R:=(bQ d).2
 have aZ:=ay Q
 have b0:=ay R
 refine sg<|Pl 1<|L0<|be e #[.int .u8 0,.int .u16 0,.int .u8 0,.int .u8 0,.int .u16 0,.int .u16 0,.int .u16 0,.int .u16 0,.int .u16 0,.int .u16 0,.int .u16 0,.int .u16 0,.int .u16 0,.int .u16 0,.slice none 0 0,.slice none 0 0,.slice none 0 0,.slice none 0 0,.int .u8 0,.int .u8 0,.int .u8 0,.int .u8 0,.int .u8 0,.slice none 0 0] fun b1 a8 a9=>Pl 1<|nt<|rt<|br<|tr<|c9 a8 (.int .i64 1)<|?_
 have hs:er dir b=(cN.zero,1):=by
   unfold er
   (try simp only[d,Q,R,bs,if_true,if_false,decide_true,decide_false,cn,reduceIte])
   all_goals rfl
 refine cK hs ?_
 exact bY (ud B a9 j)
 refine sg<|Pl 4<|nt<|cb ((decide (((b.length:Nat) : Int)<4))) (fun f=>?_) (fun f=>?_)
 have aa:=of_decide_eq_true f
 refine sg<|Pl 1<|L0<|be e #[.int .u8 0,.int .u16 0,.int .u8 0,.int .u8 0,.int .u16 0,.int .u16 0,.int .u16 0,.int .u16 0,.int .u16 0,.int .u16 0,.int .u16 0,.int .u16 0,.int .u16 0,.int .u16 0,.slice none 0 0,.slice none 0 0,.slice none 0 0,.slice none 0 0,.int .u8 0,.int .u8 0,.int .u8 0,.int .u8 0,.int .u8 0,.slice none 0 0] fun b2 ab ac=>Pl 1<|nt<|rt<|br<|tr<|c9 ab (.int .i64 2)<|?_
 have hs:er dir b=(cN.zero,2):=by
   unfold er
   (try simp only[d,f,bs,if_true,if_false,decide_true,decide_false,cn,reduceIte])
   all_goals rfl
 refine cK hs ?_
 exact bY (ud B ac j)
 have aa:=of_decide_eq_false f
 refine sg<|Pl 4<|nt<|cb ((decide (256<((b.length:Nat) : Int)))) (fun h=>?_) (fun h=>?_)
 have ad:=of_decide_eq_true h
 refine sg<|Pl 1<|L0<|be e #[.int .u8 0,.int .u16 0,.int .u8 0,.int .u8 0,.int .u16 0,.int .u16 0,.int .u16 0,.int .u16 0,.int .u16 0,.int .u16 0,.int .u16 0,.int .u16 0,.int .u16 0,.int .u16 0,.slice none 0 0,.slice none 0 0,.slice none 0 0,.slice none 0 0,.int .u8 0,.int .u8 0,.int .u8 0,.int .u8 0,.int .u8 0,.slice none 0 0] fun b3 ae af=>Pl 1<|nt<|rt<|br<|tr<|c9 ae (.int .i64 3)<|?_
 have hs:er dir b=(cN.zero,3):=by
   unfold er
   (try simp only[d,f,h,bs,if_true,if_false,decide_true,decide_false,cn,reduceIte])
   all_goals rfl
 refine cK hs ?_
 exact bY (ud B af j)
 have ad:=of_decide_eq_false h
 refine sg<|Pl 1<|?_
 have S:=aN.old hsl B
 refine L0<|Oc (args:=#[.slice A b.length cp])<|m1 (nU S (by omega)) fun aj i=>Pl 2<|nt<|?_
 have T:=aG B i
 refine cb ((!(dK b))) (fun k=>?_) (fun k=>?_)
 have G:(dK b)=false:=by simpa using k
 refine sg<|Pl 1<|?_
 refine L0<|be (ub i e) #[.int .u8 0,.int .u16 0,.int .u8 0,.int .u8 0,.int .u16 0,.int .u16 0,.int .u16 0,.int .u16 0,.int .u16 0,.int .u16 0,.int .u16 0,.int .u16 0,.int .u16 0,.int .u16 0,.slice none 0 0,.slice none 0 0,.slice none 0 0,.slice none 0 0,.int .u8 0,.int .u8 0,.int .u8 0,.int .u8 0,.int .u8 0,.slice none 0 0] fun b4 ak al=>Pl 1<|nt<|rt<|br<|tr<|c9 ak (.int .i64 10)<|?_
 have hs:er dir b=(cN.zero,10):=by
   unfold er
   (try simp only[d,f,h,k,G,bs,if_true,if_false,decide_true,decide_false,cn,reduceIte])
   all_goals rfl
 refine cK hs ?_
 exact bY (ud T al j)
 have G:(dK b)=true:=by simpa using k
 refine sk<|bn<|tn<|sg<|Pl 4<|L0<|Oi (((b.length:Nat) : Int)-2)<|o0 (m7 (P:=Tryz.prog) 27 5 1 Tryz.underlying27 rfl rfl A b.length cp (lo:=1) (up:=(((b.length:Nat) : Int)-2)) 1 (((((b.length:Nat) : Int)-2)).toNat) (by omega) (by omega) (by omega) (by omega) (by omega)) fun am hrun43 an=>L0<|fw (.slice am ((((((b.length:Nat) : Int)-2)).toNat)-1) (cp-1)) (iw (kl:=.i64) (kh:=.i64) (lo:=1) (hi:=(((b.length:Nat) : Int)-2)) (A:=A) (n:=b.length) (c:=cp) rfl Tryz.underlying27 (by kernel_rfl) (by kernel_rfl) (by kernel_rfl) (hrun43 _ _ _))<|?_
 obtain⟨a,D,L⟩ : ∃ M E,cj dir ((b.take (((((b.length:Nat) : Int)-2)).toNat)).drop 1)=(M,E):=⟨_,_,rfl⟩
 have U:=aN.old S i
 have V:=fV (dir:=dir) (w:=aj) (an _ _ _ _ _ U) (by rw[List.length_drop,List.length_take];omega)
 rw[L] at V
 refine L0<|Oc<|e2 V fun ao b5 W N=>?_
 have ap:=W
 obtain⟨aq,ar,au,av,aw,ax,aA,aB,aC,aE,aH,b6⟩:=ap
 obtain rfl:ao=(dL a aq ar au av aw).toArray:=by apply Array.toList_inj.1;simpa using ax
 obtain⟨l,o,rfl,_,_⟩:=aA.shape
 obtain⟨p,q,rfl,_,_⟩:=aB.shape
 obtain⟨r,s,rfl,_,_⟩:=aC.shape
 obtain⟨t,u,rfl,_,_⟩:=aE.shape
 obtain⟨v,y,rfl,_,_⟩:=aH.shape
 refine Pl 3<|L0<|bB mZ fun X b7 Y aI aJ=>L0<|be aI (mG a.code a.fail a.addr a.count a.value a.and_ a.or_ a.addr2 a.sub a.status a.events a.messages (.slice l a.words.length o) (.slice p a.bits.length q) (.slice r a.data.length s) (.slice t a.recs.length u) a.mei a.kind a.level a.more a.next (.slice v a.objects.length y)) fun b9 aK aL=>Pl 1<|nt<|sq<|sg<|Pl 2<|nt<|?_
 have Z:=ud aJ aL Y
 have H:=aG N Z
 have a0:=aG T H
 refine cb ((D != 0)) (fun F=>?_) (fun F=>?_)
 have aM:=ay F
 refine sg<|Pl 2<|?_
 refine L0<|be (ub (aG i H) e) #[.int .u8 0,.int .u16 0,.int .u8 0,.int .u8 0,.int .u16 0,.int .u16 0,.int .u16 0,.int .u16 0,.int .u16 0,.int .u16 0,.int .u16 0,.int .u16 0,.int .u16 0,.int .u16 0,.slice none 0 0,.slice none 0 0,.slice none 0 0,.slice none 0 0,.int .u8 0,.int .u8 0,.int .u8 0,.int .u8 0,.int .u8 0,.slice none 0 0] fun ba aO aP=>Pl 1<|nt<|rt<|tr<|c9 aO (.int .i64 D)<|?_
 have hX2:cj dir (fz b)=(a,D):=(congrArg (cj dir) (gU b)).trans L
 have hs:er dir b=(cN.zero,D):=by
   unfold er
   (try simp only[d,f,h,k,G,F,bs,if_true,if_false,decide_true,decide_false,cn,hX2,reduceIte])
   all_goals rfl
 refine cK hs ?_
 exact bY (ud a0 aP j)
 have aM:=ag F
 refine bC<|sq<|?_
 refine fF (aN.at_ (aN.old U H) 0 (by omega)) fun aR aS a1 aT bb=>Rg 8 (fun w'=>w'.cell? ⟨aR,aS+0,none⟩=some (.int .u8 (b.getD 0 0))∧w'.heap[X]? = some (.cells (mG a.code a.fail a.addr a.count a.value a.and_ a.or_ a.addr2 a.sub a.status a.events a.messages (.slice l a.words.length o) (.slice p a.bits.length q) (.slice r a.data.length s) (.slice t a.recs.length u) a.mei a.kind a.level a.more a.next (.slice v a.objects.length y)) 31 (0,0))) fun bc I=>?_
 have a2:=ub I aK
 refine bg ⟨(uc I aT),a2⟩ fun z=>Rt 0 z<|lz 1 z b.length 0 0 rfl a1 (by omega)<|Rl 2 z (fun _ hs=>hs.1)<|Rt 3 z<|Rr 4 z (.agg (mG a.code a.fail a.addr a.count a.value a.and_ a.or_ a.addr2 a.sub a.status a.events a.messages (.slice l a.words.length o) (.slice p a.bits.length q) (.slice r a.data.length s) (.slice t a.recs.length u) a.mei a.kind a.level a.more a.next (.slice v a.objects.length y))) (fun w' hs=>ma (g:=X) (off:=0) [.int .u8 a.code,.int .u8 a.fail,.int .u16 a.addr,.int .u16 a.count,.int .u16 a.value,.int .u16 a.and_,.int .u16 a.or_,.int .u16 a.addr2,.int .u16 a.sub,.int .u16 a.status,.int .u16 a.events,.int .u16 a.messages,.slice l a.words.length o,.slice p a.bits.length q,.slice r a.data.length s,.slice t a.recs.length u,.int .u8 a.mei,.int .u8 a.kind,.int .u8 a.level,.int .u8 a.more,.int .u8 a.next,.slice v a.objects.length y] rfl (by kernel_rfl) hs.2 (by kernel_rfl) (by kernel_rfl) rfl)<|Rt 5 z<|?_
 have a3:=aG H I
 have a4:=aG i a3
 refine R0 6 rfl<|be (ub a4 e) #[.int .u8 (b.getD 0 0),.int .u16 0,.int .u8 a.code,.int .u8 a.fail,.int .u16 a.addr,.int .u16 a.count,.int .u16 a.value,.int .u16 a.and_,.int .u16 a.or_,.int .u16 a.addr2,.int .u16 a.sub,.int .u16 a.status,.int .u16 a.events,.int .u16 a.messages,.slice l a.words.length o,.slice p a.bits.length q,.slice r a.data.length s,.slice t a.recs.length u,.int .u8 a.mei,.int .u8 a.kind,.int .u8 a.level,.int .u8 a.more,.int .u8 a.next,.slice v a.objects.length y] fun bd aU J=>?_
 have a5:=uz I J
 have bf:=uz a3 J
 have bh:=uz a4 J
 have a6:=ud a0 a5 j
 refine bg ⟨(cB (aN.old hsl a6) a1 0 (by omega)),(aQ J (Ne.symm (nb (ai e) (le i.size N.size) Y)) a2)⟩ fun aV=>Rt 7 aV<|re<|tn<|rt<|c9 aU (.int .i64 0)<|?_
 have hX2:cj dir (fz b)=(a,D):=(congrArg (cj dir) (gU b)).trans L
 have hs:er dir b=(⟨(b.getD 0 0),0,a⟩,0):=by
   unfold er
   (try simp only[d,f,h,k,G,F,bs,if_true,if_false,decide_true,decide_false,cn,hX2,reduceIte])
   all_goals rfl
 refine cK hs ?_
 exact⟨_,rfl,⟨#[.int .u8 a.code,.int .u8 a.fail,.int .u16 a.addr,.int .u16 a.count,.int .u16 a.value,.int .u16 a.and_,.int .u16 a.or_,.int .u16 a.addr2,.int .u16 a.sub,.int .u16 a.status,.int .u16 a.events,.int .u16 a.messages,.slice l a.words.length o,.slice p a.bits.length q,.slice r a.data.length s,.slice t a.recs.length u,.int .u8 a.mei,.int .u8 a.kind,.int .u8 a.level,.int .u8 a.more,.int .u8 a.next,.slice v a.objects.length y],(by as_aux_lemma=>kernel_rfl),(aX.upd W (uz Z a5) (ah (aF (ub (aG i N) e) (by decide)) az)),b8 (x:=(b.getD 0 0)) (by omega),aD (x:=0) (by omega)⟩,a6⟩
theorem mV{m:Bool}{v:Value}{b:List Int}{w:World}{dir:Int}(h:aN m w v b)(hb:b.length≤1048576) : Calls Tryz.prog 160 #[.int .i64 dir,v] w (j2 (er dir b) w):=by
  obtain⟨A,cp,rfl,hc,_⟩:=h.shape
  exact lC h hb hc
open Go.RowKit
theorem oC(a b c d:Int)(w:World) : (Op.equalIn 10000 24 (.agg #[.int .u8 a,.int .u16 b]) (.agg #[.int .u8 c,.int .u16 d])).run Tryz.prog w = .ok ((a==c)&&(b==d)) w:=by
  have hS:Tryz.prog.underlying 24=some (.struct (Tryz.prog.fieldsOf 24)):=by kernel_rfl
  have hp:Tryz.prog.stoodInHeld 24=false:=by kernel_rfl
  rw[show(10000:Nat)=9998+1+1 from rfl,run_equalIn_agg w (9998+1) 24 _ _ hS hp]
  simp only[Program.fieldsOf,Tryz.underlying24]
  have p0:∀ v:Int,(part 5 #[.int .u8 v,.int .u16 b] 0).run Tryz.prog w = .ok (.int .u8 v) w:=fun v=>by simp[part,isAgg,run_underlying Tryz.underlying5,Result.andThen]
  have p0':∀ v:Int,(part 5 #[.int .u8 v,.int .u16 d] 0).run Tryz.prog w = .ok (.int .u8 v) w:=fun v=>by simp[part,isAgg,run_underlying Tryz.underlying5,Result.andThen]
  have p1:∀ v u:Int,(part 22 #[.int .u8 u,.int .u16 v] 1).run Tryz.prog w = .ok (.int .u16 v) w:=fun v u=>by simp[part,isAgg,run_underlying Tryz.underlying22,Result.andThen]
  have e0:=run_equalIn_int (P:=Tryz.prog) w 9998 5 .u8 _ a c Tryz.underlying5
  have e1:=run_equalIn_int (P:=Tryz.prog) w 9998 22 .u16 _ b d Tryz.underlying22
  simp only[Op.eqFields,Sem.run_bind,p0,p0',p1,e0,e1,Result.andThen_ok,ne_eq,String.reduceEq,not_false_eq_true,if_true,Sem.run_ite]
  cases (a==c)<;>cases (b==d)<;>simp
theorem lf{ev:Operand→Value}{o:Oper}{x y:Operand}{t:TypeId}(a b c d:Int){v:Bool}{w:World}(ho:o.op = .binOp .eql 24 x y t)
    (hx:ev x = .agg #[.int .u8 a,.int .u16 b]) (hy:ev y = .agg #[.int .u8 c,.int .u16 d]) (hv:((a==c)&&(b==d))=v) : (execOp ev o).run Tryz.prog w = .ok (.value (.bool v)) w:=by
  subst hv
  have hg:(eqGuard .eql 24 x y (.agg #[.int .u8 a,.int .u16 b]) (.agg #[.int .u8 c,.int .u16 d])).run Tryz.prog w = .ok () w:=run_eqGuard_agg w _ _ _ _ _ _ (by kernel_rfl)
  unfold execOp
  simp only[ho,hx,hy,Sem.run_bind,hg,Result.andThen_ok,run_eql_struct,oC,Sem.run_pure]
open Go.RowKit
open Go.RowKit
theorem jE{m:Bool}{v:Value}{b:List Int}{w:World}{dir:Int}{F:cN}{E:Int}(hX:er dir b=(F,E))(h:aN m w v b)(hb:b.length≤1048576) : Calls Tryz.prog 160 #[.int .i64 dir,v] w (fun e w'=>∃ x,e = .returned (.tuple #[.agg (nB F.unit F.tid F.msg x),.int .i64 E])∧(aX true w' (og F.msg x).toList F.msg∧(0≤F.unit∧F.unit<256)∧(0≤F.tid∧F.tid<65536))∧ax [] w w'):=by
  refine(mV h hb).mono ?_
  rintro e w' ⟨cs,rfl,h1,h2⟩
  rw[hX] at h1 ⊢
  obtain⟨c,rfl,h3,h4,h5⟩:=h1
  obtain⟨x,rfl⟩:=kV h3
  exact⟨x,by rw[gQ],⟨h3,h4,h5⟩,h2⟩
open Go.RowKit
structure SS where
  dir:Int
  held:List Int
  off:Bool
def d7 (w:World)(g:Nat)(S:SS) : Prop:=∃ A cp,w.heap[g]? = some (.cells #[.int .i64 S.dir,.slice A S.held.length cp,.bool S.off] 127 (0,0))∧aN true w (.slice A S.held.length cp) S.held∧S.held.length≤256∧S.held.length≤cp
def SS.feed (S:SS)(b:List Int) : SS × List Ev :=
  if S.off then (S,[]) else if decide (b.length≤256-S.held.length) then (⟨S.dir,S.held++b,false⟩,[]) else (⟨S.dir,[],true⟩,[Ev.bad 3])
def SS.tick (S:SS) : SS × List Ev:=(⟨S.dir,[],false⟩,if S.held.length=0 then [] else [⟨(er S.dir S.held).2,(er S.dir S.held).1⟩])
theorem d7.lt{w:World}{g:Nat}{S:SS}(h:d7 w g S) : g<w.heap.size:=by
  obtain⟨A,cp,h1,_⟩:=h
  exact ai h1
theorem d7.upd{w w':World}{g:Nat}{S:SS}{X:List Nat}(h:d7 w g S)(hu:ax X w w')(hg:g∉X)(hs:bR true [5] X w) : d7 w' g S:=by
  obtain⟨A,cp,h1,h2,h3⟩:=h
  exact⟨A,cp,hu.blk hg h1,h2.upd' hu hs,h3⟩
theorem d7.old{w w':World}{g:Nat}{S:SS}(h:d7 w g S)(hu:ax [] w w') : d7 w' g S:=h.upd hu (by simp) (bR.nil _ _ _)
theorem d7.cells{w:World}{g:Nat}{S:SS}(h:d7 w g S) : ∃ cs fr,w.heap[g]? = some (.cells cs 127 fr):=by
  obtain⟨A,cp,h1,_⟩:=h
  exact⟨_,_,h1⟩
theorem d7.le{w:World}{g:Nat}{S:SS}(h:d7 w g S) : S.held.length≤256:=by
  obtain⟨A,cp,_,_,h1,_⟩:=h
  exact h1
theorem d7.safe{w:World}{g:Nat}{S:SS}(h:d7 w g S)(D:List TypeId)(hD:D.contains 127=false) : bR true D [g] w:=by
  obtain⟨A,cp,h1,_⟩:=h
  exact aF h1 hD
theorem SS.feed_le{S S2:SS}{b:List Int}{L:List Ev}(h:S.feed b=(S2,L)) : L.length≤1:=by
  have k:=congrArg Prod.snd h
  rw[show L=(S.feed b).2 from k.symm]
  unfold SS.feed
  split
  · exact Nat.zero_le _
  split
  · exact Nat.zero_le _
  · exact Nat.le_refl _
theorem SS.tick_le{S S2:SS}{L:List Ev}(h:S.tick=(S2,L)) : L.length≤1:=by
  have k:=congrArg Prod.snd h
  rw[show L=S.tick.2 from k.symm]
  unfold SS.tick
  dsimp only
  split
  · exact Nat.zero_le _
  · exact Nat.le_refl _
open Go.RowKit
theorem iV{P:Program}{sz:Nat}{A:Option Addr}{c:Nat}(w:World) : (Builtin.firstCells sz 0 (.slice A 0 c)).run P w = .ok #[] w:=by
  cases A with
  | none=>simp[Builtin.firstCells]
  | some a =>
    have:=run_loadCells_list (P:=P) w a [] (fun j v hj=>by simp at hj)
    simpa [Builtin.firstCells] using this
theorem nu{α:Type}{base sz:Nat}{e t:TypeId}{R:World→α→List Value→Prop}{w:World}{A:Option Addr}{n c g:Nat}{xs:List α}(hb:∃ cs fr,w.heap[g]? = some (.cells cs t fr))(h:aO base e sz R w (.slice A n c) xs)(ht:(t==e)=false) : g∉ob A:=by
  obtain⟨cs,fr,hb⟩:=hb
  exact bN hb h ht
section
variable {P:Program}{n:Nat}{D:List Deferred}{F:Fr}{w:World}{K:Fr→World→Prop}{Q:Exit→Act→World→Prop}{d:Option Tmp}{t:TypeId}{s:String}{af:Array Edge}{gu:Option (Nat × Bool)}
theorem ta{α:Type}{R:World→α→List Value→Prop}{x y:Operand}{e:TypeId}{base m c:Nat}{A:Option Addr}{xs ys:List α}{mm:Bool}{e' ty:TypeId}{u:Value}(z:Value)(sz bytes:Nat)(HO:aO base e sz R w (.slice A m c) xs)(HY:aI mm e' sz R w u ys)
    (hone:∀ x cs,R w x cs→∀ v,v∈cs→v.oneCell'=true) (hRU:∀ w',ax (ob A++[]) w w'→∀ x cs,R w x cs→R w' x cs)
    (hl:xs.length+ys.length≤4611686018427387904) (hmul:(xs.length+ys.length)*bytes≤140737488355328) (hbase:base≤w.heap.size) (h:∀ A' c' w',aO base e sz R w' (.slice A' (xs++ys).length c') (xs++ys)→ax (ob A++[]) w w'→(∀ g,g∈ob A'→g∈ob A∨w.heap.size≤g)→K (pt d (.slice A' (xs++ys).length c') F) w')
    (hx:cY F x=some (.slice A m c):=by kernel_rfl) (hy':cY F y=some u:=by kernel_rfl) (he:jO P ty=some e:=by kernel_rfl) (hs:(jK P ty,z.cells.size,(dA n d&&Nat.ble bytes 65536)&&Nat.blt 0 sz)=(some (some z,sz,bytes),sz,true):=by kernel_rfl) : OG P ⟨d,.call { callee:=.builtin .append,args:=#[x,y],argTypes:=#[ty,ty] },t,s,af,gu⟩ n D F w K Q:=by
  by_cases hne:ys=[]
  · subst hne
    simp only[Prod.mk.injEq] at hs
    have h3:=dm (dm hs.2.2).1
    obtain⟨A0,c0,e0,hc1,_⟩:=HO.rd.shape
    have e0:=e0.symm
    injection e0 with e1 e2 e3
    subst e2
    subst e1 e3
    obtain⟨B,cB,rfl,_,_⟩:=HY.shape
    have hinf:(P.info? e).map (fun i=>(i.zero,i.size,i.bytes))=some (some z,sz,bytes):=by have:=hs.1;unfold jK at this;rw[he] at this;exact this
    obtain⟨i0,hi,hz0,hz1,hz2⟩:=info_parts hinf
    have hsr:Src P i0.size ty (.slice B 0 cB) 0 [] w:=⟨.inl ⟨e,cZ he⟩,fun w'=>by simp[Builtin.lenOf],iV w,iV w.drew,by simp,fun u hu=>by cases hu⟩
    have hr:=run_append_nothing w ty ty t _ i0 (cZ he) hi A0 xs.length c0 hc1 _ hsr
    refine⟨fun a ha K' hK=>OW.mk ?_⟩
    have hx':=ha.ev hx
    have hy2:=ha.ev hy'
    simp only[List.length_nil] at hy2
    unfold Oper.wp execOp
    simp only[resolve,invoke,builtin,Sem.run_bind,Sem.run_pure,Result.andThen_ok,List.map_toArray,List.map_cons,List.map_nil,hx',hy2,hr]
    refine hK _ _ _ (h A0 c0 w (by rw[List.append_nil];exact HO) (ax.mono (S':=ob A0++[]) (ax.refl [] w) (fun x hx=>by cases hx)) (fun g hg=>.inl hg)) ?_
    rw[List.append_nil]
    exact ha.put h3.1
  · have hy:0<ys.length:=by
      cases ys with
      | nil=>exact absurd rfl hne
      | cons a r=>simp
    simp only[Prod.mk.injEq] at hs
    have h2:=dm hs.2.2
    have h3:=dm h2.1
    exact⟨fun a ha K' hK=>kG z sz bytes rfl rfl (cZ he) (by have:=hs.1;unfold jK at this;rw[he] at this;exact this) hs.2.1 (by simpa using h2.2) xs (ha.ev hx) HO u ys (ha.ev hy') HY hy hone hRU hl hmul hbase fun A' c' w' hO hu hat=>hK _ _ _ (h A' c' w' hO hu hat) (ha.put h3.1)⟩
theorem eE{α:Type}{R:World→α→List Value→Prop}{x y:Operand}{e:TypeId}{base m c:Nat}{A:Option Addr}{xs ys:List α}{mm:Bool}{e' ty:TypeId}{u:Value}(z:Value)(sz bytes:Nat)(HO:aO base e sz R w (.slice A m c) xs)(HY:aI mm e' sz R w u ys)
    (hone:∀ x cs,R w x cs→∀ v,v∈cs→v.oneCell'=true) (hRU:∀ w',ax (ob A++[]) w w'→∀ x cs,R w x cs→R w' x cs)
    (hl:xs.length+ys.length≤4194304) (hbase:base≤w.heap.size) (h:∀ A' c' w',aO base e sz R w' (.slice A' (xs++ys).length c') (xs++ys)→ax (ob A++[]) w w'→(∀ g,g∈ob A'→g∈ob A∨w.heap.size≤g)→K (pt d (.slice A' (xs++ys).length c') F) w')
    (hx:cY F x=some (.slice A m c):=by kernel_rfl) (hy':cY F y=some u:=by kernel_rfl) (he:jO P ty=some e:=by kernel_rfl) (hs:(jK P ty,z.cells.size,(dA n d&&Nat.ble bytes 65536)&&Nat.blt 0 sz)=(some (some z,sz,bytes),sz,true):=by kernel_rfl) : OG P ⟨d,.call { callee:=.builtin .append,args:=#[x,y],argTypes:=#[ty,ty] },t,s,af,gu⟩ n D F w K Q:=by
  have hb:bytes≤65536:=by
    simp only[Prod.mk.injEq] at hs
    simpa using (dm (dm hs.2.2).1).2
  exact ta z sz bytes HO HY hone hRU (by omega) (Nat.le_trans (Nat.mul_le_mul hl hb) (by decide)) hbase h hx hy' he hs
end
open Go.RowKit
theorem aY{α β:Type}{base sz base2 sz2:Nat}{e e2:TypeId}{R:World→α→List Value→Prop}{R2:World→β→List Value→Prop}{w:World}{A A2:Option Addr}{n c n2 c2:Nat}{xs:List α}{ys:List β}(h:aO base e sz R w (.slice A n c) xs)(h2:aO base2 e2 sz2 R2 w (.slice A2 n2 c2) ys)(ht:(e==e2)=false) : ∀ x,x∈ob A→x∉ob A2:=fun x hx hx2=>by
  rcases cw h with rfl|⟨g,cells,rfl,_,h1⟩
  · simp[ob] at hx
  rcases cw h2 with rfl|⟨g2,cells2,rfl,_,h3⟩
  · simp[ob] at hx2
  simp[ob] at hx hx2
  subst hx
  subst hx2
  rw[h1] at h3
  injection h3 with h3
  injection h3 with _ h3 _
  subst h3
  simp at ht
theorem gv{A A0:Option Addr}{w w0:World}{S:List Nat}(hat:∀ x,x∈ob A→x∈ob A0∨w.heap.size≤x)(h:∀ x,x∈ob A0→x∈S∨w0.heap.size≤x)(hs:w0.heap.size≤w.heap.size) : ∀ x,x∈ob A→x∈S∨w0.heap.size≤x:=fun x hx=>by
  rcases hat x hx with k|k
  · exact h x k
  · exact .inr (Nat.le_trans hs k)
theorem fS{A A1 A0:Option Addr}{w w0:World}(hat:∀ x,x∈ob A→x∈ob A1∨w.heap.size≤x)(h:∀ x,x∈ob A1→x∈ob A0∨w0.heap.size≤x)(hs:w0.heap.size≤w.heap.size) : ∀ x,x∈ob A→x∈ob A0∨w0.heap.size≤x:=gv hat h hs
theorem d6{A0:Option Addr}{w:World}:∀ x,x∈ob none→x∈ob A0∨w.heap.size≤x:=fun x hx=>by simp[ob] at hx
theorem fy{A0:Option Addr}{w:World}:∀ x,x∈ob A0→x∈ob A0∨w.heap.size≤x:=fun x hx=>.inl hx
theorem ms{w:World}:∀ x cs,kL w x cs→∀ v,v∈cs→v.oneCell'=true:=fun x cs h v hv=>by
  rw[h.1] at hv
  simp at hv
  subst hv
  rfl
section
variable {n:Nat}{B:Option Addr}
def iv (n:Nat)(B:Option Addr)(X:List Nat) : Prop:=0<n→∀ x,x∈ob B→x∉X
theorem dg:iv n B []:=fun _ x _=>by simp
theorem cP{g:Nat}{X:List Nat}(h:0<n→∀ x,x∈ob B→x≠g)(k:iv n B X) : iv n B (g :: X):=fun hn x hx=>by
  rw[List.mem_cons]
  rintro(e|e)
  · exact h hn x hx e
  · exact k hn x hx e
theorem ci{A:Option Addr}{X:List Nat}(h:iv n B (ob A))(k:iv n B X) : iv n B (ob A++X):=fun hn x hx=>by
  rw[List.mem_append]
  rintro(e|e)
  · exact h hn x hx e
  · exact k hn x hx e
theorem dO{A A0:Option Addr}{w:World}(h:iv n B (ob A0))(hl:0<n→∀ x,x∈ob B→x<w.heap.size)(hat:∀ x,x∈ob A→x∈ob A0∨w.heap.size≤x) : iv n B (ob A):=fun hn x hx hx2=>by
  rcases hat x hx2 with k|k
  · exact h hn x hx k
  · have:=hl hn x hx;omega
theorem cT{α:Type}{base sz:Nat}{e:TypeId}{R:World→α→List Value→Prop}{w w':World}{A:Option Addr}{m c:Nat}{xs:List α}(hl:0<n→∀ x,x∈ob B→x<w.heap.size)(h:aO base e sz R w' (.slice A m c) xs)(hs:w.heap.size≤base) : iv n B (ob A):=fun hn x hx hx2=>by
  have:=hl hn x hx
  have:=eu h x hx2
  omega
theorem aI.low{α:Type}{m:Bool}{e:TypeId}{sz c:Nat}{R:World→α→List Value→Prop}{w:World}{xs:List α}(h:aI m e sz R w (.slice B n c) xs) : 0<n→∀ x,x∈ob B→x<w.heap.size:=fun hn x hx=>by
  obtain⟨A',c',hv,_,_,_,h3⟩:=h
  injection hv with e1 e2 e3
  subst e1 e2 e3
  obtain⟨b,off,cells,t,fr,rfl,hh,_⟩:=h3 hn
  simp[ob] at hx
  subst hx
  exact ai hh
theorem aN.far{m:Bool}{c:Nat}{w w':World}{xs:List Int}{X:List Nat}(h:aN m w (.slice B n c) xs)(hu:ax X w w')(hd:iv n B X) : aN m w' (.slice B n c) xs:=by
  obtain⟨A',c',hv,h1,h2,h0,h3⟩:=h
  injection hv with e1 e2 e3
  subst e1 e2 e3
  refine⟨_,_,rfl,h1,h2,h0,fun hp=>?_⟩
  obtain⟨b,off,cells,t,fr,rfl,hh,h4,h5⟩:=h3 hp
  exact⟨b,off,cells,t,fr,rfl,hu.blk (hd hp b (by simp[ob])) hh,h4,h5⟩
end
open Go.RowKit
def na (n:Nat)(X:List Nat)(w:World) : Prop:=∀ y,y∈X→n≤y∨∃ cells t fr,w.heap[y]? = some (.cells cells t fr)∧t∉ew
def aP (n:Nat)(w:World)(x:Ev)(cs:List Value) : Prop:=n≤w.heap.size∧∀ (w':World)(X:List Nat),ax X w w'→na n X w→jD true w' x cs
theorem aP.mk{w:World}{x:Ev}{cs:List Value}(h:jD true w x cs) : aP w.heap.size w x cs:=⟨Nat.le_refl _,fun w' X hu ha=>jD.upd hu (fun y hy=>by
  rcases ha y hy with k|k
  · exact .inl k
  · exact .inr ⟨rfl,k⟩) x cs h⟩
theorem aP.ev{n:Nat}{w:World}{x:Ev}{cs:List Value}(h:aP n w x cs) : jD true w x cs:=h.2 w [] (ax.refl _ _) (fun y hy=>by cases hy)
theorem aP.mono{n n':Nat}{w:World}{x:Ev}{cs:List Value}(hn:n≤n')(hs:n'≤w.heap.size)(h:aP n w x cs) : aP n' w x cs:=⟨hs,fun w' X hu ha=>h.2 w' X hu fun y hy=>by
  rcases ha y hy with k|k
  · exact .inl (Nat.le_trans hn k)
  · exact .inr k⟩
theorem aP.upd{n:Nat}{w w':World}{X:List Nat}{x:Ev}{cs:List Value}(hu:ax X w w')(ha:na n X w)(h:aP n w x cs) : aP n w' x cs:=by
  refine⟨Nat.le_trans h.1 hu.size,fun w2 X2 hu2 ha2=>h.2 w2 (X++X2) ?_ ?_⟩
  · exact ax.trans' (ax.mono hu (fun y hy=>.inl (List.mem_append_left _ hy))) hu2 (fun y hy=>.inl (List.mem_append_right _ hy))
  · intro y hy
    rcases List.mem_append.1 hy with hy|hy
    · exact ha y hy
    · rcases ha2 y hy with k | ⟨cells,t,fr,k1,k2⟩
      · exact .inl k
      · by_cases hl:y<w.heap.size
        · by_cases hX:y∈X
          · exact ha y hX
          · exact .inr ⟨cells,t,fr,by rw[← hu.block y hl hX];exact k1,k2⟩
        · exact .inl (Nat.le_trans h.1 (by omega))
theorem aP.ones{n:Nat}{w:World}:∀ (x:Ev)(cs:List Value),aP n w x cs→∀ v,v∈cs→v.oneCell'=true:=fun x cs h=>jD.ones x cs h.ev
abbrev bH (n base:Nat) (w:World) (v:Value) (xs:List Ev) : Prop:=aO base 66 25 (aP n) w v xs
theorem aO.map{α:Type}{base sz:Nat}{e:TypeId}{R R':World→α→List Value→Prop}{w:World}{v:Value}{xs:List α}(h:aO base e sz R w v xs)(k:∀ x cs,R w x cs→R' w x cs) : aO base e sz R' w v xs:=by
  obtain⟨cells,ho,hx⟩:=h
  refine⟨cells,ho,fun j x hj=>?_⟩
  obtain⟨cs,h1,h2,h3⟩:=hx j x hj
  exact⟨cs,h1,k _ _ h2,h3⟩
theorem dZ.low{base:Nat}{w:World}{v:Value}{xs:List Ev}(h:dZ base w v xs) : bH w.heap.size base w v xs:=aO.map h fun _ _=>aP.mk
theorem bH.own{n base:Nat}{w:World}{v:Value}{xs:List Ev}(h:bH n base w v xs) : dZ base w v xs:=aO.map h fun _ _ q=>q.ev
theorem bH.up{n n' base:Nat}{w:World}{v:Value}{xs:List Ev}(hn:n≤n')(hs:n'≤w.heap.size)(h:bH n base w v xs) : bH n' base w v xs:=aO.map h fun _ _ q=>q.mono hn hs
theorem aW{n:Nat}{w:World}:na n [] w:=fun y hy=>by cases hy
theorem dq{n g:Nat}{w:World}{cs:Array Value}{t:TypeId}{fr:Nat × Nat}{X:List Nat}(hb:w.heap[g]? = some (.cells cs t fr))(ht:ew.contains t=false)(k:na n X w) : na n (g :: X) w:=fun y hy=>by
  rcases List.mem_cons.1 hy with rfl|hy
  · exact .inr ⟨cs,t,fr,hb,by simpa using ht⟩
  · exact k y hy
theorem cv{n:Nat}{w:World}{A:Option Addr}{X:List Nat}(h:∀ x,x∈ob A→n≤x)(k:na n X w) : na n (ob A++X) w:=fun y hy=>by
  rcases List.mem_append.1 hy with hy|hy
  · exact .inl (h y hy)
  · exact k y hy
theorem cL{α:Type}{n base sz m c:Nat}{e:TypeId}{R:World→α→List Value→Prop}{w:World}{A:Option Addr}{xs:List α}{X:List Nat}(h:aO base e sz R w (.slice A m c) xs)(ht:ew.contains e=false)(k:na n X w) : na n (ob A++X) w:=fun y hy=>by
  rcases List.mem_append.1 hy with hy|hy
  · rcases cw h with rfl | ⟨g,cells,rfl,_,h1⟩
    · simp[ob] at hy
    · simp[ob] at hy
      subst hy
      exact .inr ⟨_,_,_,h1,by simpa using ht⟩
  · exact k y hy
theorem bM{n:Nat}:∀ x,x∈ob none→n≤x:=fun x hx=>by simp[ob] at hx
theorem mf{n:Nat}{A A0:Option Addr}{w:World}(hat:∀ x,x∈ob A→x∈ob A0∨w.heap.size≤x)(h:∀ x,x∈ob A0→n≤x)(hs:n≤w.heap.size) : ∀ x,x∈ob A→n≤x:=fun x hx=>by
  rcases hat x hx with k|k
  · exact h x k
  · exact Nat.le_trans hs k
section
variable {n base g cp:Nat}{w w':World}{A:Option Addr}{X:List Nat}
theorem cV{n':Nat}(hn:n≤n')(h:∀ x,x∈ob A→n'≤x) : ∀ x,x∈ob A→n≤x:=fun x hx=>Nat.le_trans hn (h x hx)
theorem eN{k:Nat}{B:Option Addr}(hl:0<k→∀ x,x∈ob B→x<w.heap.size)(hg:w.heap.size≤g) : 0<k→∀ x,x∈ob B→x≠g:=fun hk x hx e=>by
  have:=hl hk x hx
  omega
end
theorem p6{α:Type}{b0 b1 sz:Nat}{e:TypeId}{R:World→α→List Value→Prop}{w:World}{v:Value}{xs:List α}(hb:b0≤b1)(h:aO b1 e sz R w v xs) : aO b0 e sz R w v xs:=by
  obtain⟨cells,⟨h1,h2⟩,h3⟩:=h
  refine⟨cells,⟨h1,?_⟩,h3⟩
  rcases h2 with h2|⟨g,cap,cur,k0,k1,k2⟩
  · exact .inl h2
  · exact .inr ⟨g,cap,cur,k0,Nat.le_trans hb k1,k2⟩
theorem qa{α:Type}{b1 sz m c:Nat}{e:TypeId}{R:World→α→List Value→Prop}{w w1:World}{A A0:Option Addr}{xs:List α}(h:aO b1 e sz R w1 (.slice A m c) xs)(hb:w.heap.size≤b1) : ∀ x,x∈ob A→x∈ob A0∨w.heap.size≤x:=fun x hx=>.inr (Nat.le_trans hb (eu h x hx))
theorem qG{α:Type}{n b1 sz m c:Nat}{e:TypeId}{R:World→α→List Value→Prop}{w1:World}{A:Option Addr}{xs:List α}(h:aO b1 e sz R w1 (.slice A m c) xs)(hb:n≤b1) : ∀ x,x∈ob A→n≤x:=fun x hx=>Nat.le_trans hb (eu h x hx)
open Go.RowKit
theorem rK{base g:Nat}{w:World}{cur:Array Value}(hb:base≤g)(hg:w.heap[g]? = some (.cells cur 5 (0,0)))(hc:cur.size≤maxLen) : cJ base w (.slice (some ⟨g,0,none⟩) 0 cur.size) [] :=
  ⟨[],⟨rfl,.inr ⟨g,cur.size,cur,rfl,hb,hg,Nat.zero_le _,hc,(Nat.mul_one _).symm,by simp⟩⟩,fun j x hj=>by simp at hj⟩
theorem mH{base:Nat}{w:World}{A:Option Addr}{n c:Nat}{xs:List Int}(h:cJ base w (.slice A n c) xs) : cJ base w (.slice A 0 c) []:=by
  obtain⟨cells,⟨_,h2⟩,_⟩:=h
  rcases h2 with⟨e,_⟩|⟨g,cap,cur,e,h3,h4,h5,h6,h7,_⟩
  · injection e with e1 e2 e3
    subst e1 e3
    exact aO.nil ..
  · injection e with e1 e2 e3
    subst e1 e3
    exact⟨[],⟨rfl,.inr ⟨g,c,cur,rfl,h3,h4,Nat.zero_le _,h6,h7,by simp⟩⟩,fun j x hj=>by simp at hj⟩
theorem fW{P:Program}{m:Bool}{w:World}(t ty e:TypeId)(ht:P.underlying t=some (.slice e))(hte:e=5)(hinfo:(P.info? e).map (fun i=>(i.zero,i.size,i.bytes))=some (some (.int .u8 0),1,1))
    {A:Option Addr} {xs ys:List Int} (HX:aN true w (.slice A xs.length xs.length) xs) {u:Value} (HY:aN m w u ys) (hl:xs.length+ys.length≤4194304) :
    ∃ A' cp w',(Builtin.append_ #[t,t] ty #[.slice A xs.length xs.length,u]).run P w = .ok (.slice A' (xs++ys).length cp) w'∧aN true w' (.slice A' (xs++ys).length cp) (xs++ys)∧ax [] w w'∧((A'=A∧w'=w)∨∃ c,cJ w.heap.size w' (.slice A' 0 c) []):=by
  subst hte
  obtain⟨i0,hi,hz0,hz1,hz2⟩:=info_parts hinfo
  obtain⟨B,c,rfl,hc1,hc2⟩:=HY.shape
  by_cases hy:ys=[]
  · have hs:=sw (P:=P) ht HY hy
    subst hy
    rw[← hz1] at hs
    rw[List.append_nil]
    exact⟨A,_,w,run_append_nothing w t t ty _ i0 ht hi A xs.length xs.length (Nat.le_refl _) _ hs,HX,ax.refl _ _,.inl ⟨rfl,rfl⟩⟩
  have hyl:0<ys.length:=by
    cases ys with
    | nil=>exact absurd rfl hy
    | cons a r=>simp
  cases B with
  | none =>
    obtain⟨B,c',hv,_,_,h0,h3⟩:=HY
    injection hv with e1 e2 e3
    subst e1 e3
    obtain⟨b,off,cells,t,fr,hh,_⟩:=h3 hyl
    cases hh
  | some ad =>
    obtain⟨_,hnews⟩:=f3 jn.cell HY
    have hby:∀ x,x∈xs++ys→0≤x∧x<256:=fun x hx=>by
      rcases List.mem_append.1 hx with h|h
      · exact HX.rng x h
      · exact HY.rng x h
    have fin:∀ (cp:Nat) (w':World) (zs:Array Value),xs.length+ys.length≤cp→cp≤maxLen→zs.size=cp-(xs.length+ys.length)→w'.heap[w.heap.size]? = some (.cells (((xs++ys).map (Value.int .u8)).toArray++zs) 5 (0,0))→aN true w' (.slice (some ⟨w.heap.size,0,none⟩) (xs++ys).length cp) (xs++ys)∧∃ c,cJ w.heap.size w' (.slice (some ⟨w.heap.size,0,none⟩) 0 c) []:=fun cp w' zs h1 h2 hz h3=>by
      refine⟨⟨_,cp,rfl,by rw[List.length_append];exact h1,h2,(fun hA=>by cases hA),fun hp=>⟨w.heap.size,0,_,_,_,rfl,h3,fun _=>rfl,fun j x hj=>?_⟩⟩,_,rK (Nat.le_refl _) h3 ?_⟩
      · refine⟨[.int .u8 x],rfl,⟨rfl,hby x (List.mem_of_getElem? hj)⟩,fun i u hi=>?_⟩
        cases i with
        | succ i=>simp at hi
        | zero =>
          have hi:Value.int .u8 x=u:=by simpa using hi
          subst hi
          have hlt:=(List.getElem?_eq_some_iff.1 hj).1
          rw[Array.getElem?_append_left (by simp;simpa using hlt)]
          simp only[Nat.zero_add,Nat.mul_one,Nat.add_zero]
          rw[List.getElem?_toArray,List.getElem?_map,hj]
          rfl
      · rw[Array.size_append,hz]
        simp
        omega
    have hzc:∀ k,(Builtin.zeroCells (Value.int .u8 0).cells k).size=k:=fun k=>by simp[Builtin.zeroCells,Value.cells]
    cases A with
    | none =>
      have hx0:xs=[]:=by
        obtain⟨B,c',hv,_,_,h0,h3⟩:=HX
        injection hv with e1 e2 e3
        subst e1
        have:=h0 rfl
        exact List.eq_nil_of_length_eq_zero (by omega)
      subst hx0
      have hr:=run_append_nil (P:=P) w t ty _ i0 (.int .u8 0) ht hi hz0 ad ys.length c (ys.map (Value.int .u8)) (by rw[hz1];simp) hnews hyl (by omega) (by rw[hz2];omega)
      have f:=fin (grownCap w ys.length 0 5) (w.drew.alloc (.cells ((ys.map (Value.int .u8)).toArray++Builtin.zeroCells (Value.int .u8 0).cells (grownCap w ys.length 0 5-ys.length)) 5)) (Builtin.zeroCells (Value.int .u8 0).cells (grownCap w ys.length 0 5-ys.length)) (by simpa using grownCap_ge w ys.length 0 _) (grownCap_le_maxLen _ _ _ _ (by unfold maxLen;omega)) (by rw[hzc];simp) (by simpa using cQ w.drew _)
      exact⟨_,_,_,hr,f.1,((ax.refl _ _).drew).alloc _,.inr f.2⟩
    | some bd =>
      obtain⟨_,holds⟩:=f3 jn.cell HX
      have hr:=run_append_grow (P:=P) w t ty _ i0 (.int .u8 0) ht hi hz0 bd xs.length xs.length (xs.map (Value.int .u8)) (by rw[hz1];simp) holds ad ys.length c (ys.map (Value.int .u8)) (by rw[hz1];simp) hnews (by omega) (by omega) (by
        rw[hz2]
        have:=nextslicecap_le (need:=xs.length+ys.length) (old:=xs.length) (by omega)
        omega)
      have f:=fin (grownCap w (xs.length+ys.length) xs.length 5) (w.drew.alloc (.cells ((xs.map (Value.int .u8)).toArray++(ys.map (Value.int .u8)).toArray++Builtin.zeroCells (Value.int .u8 0).cells (grownCap w (xs.length+ys.length) xs.length 5-(xs.length+ys.length))) 5)) (Builtin.zeroCells (Value.int .u8 0).cells (grownCap w (xs.length+ys.length) xs.length 5-(xs.length+ys.length))) (grownCap_ge w _ _ _) (grownCap_le_maxLen _ _ _ _ (by unfold maxLen;omega)) (by rw[hzc]) (by simpa using cQ w.drew _)
      exact⟨some ⟨w.heap.size,0,none⟩,grownCap w (xs.length+ys.length) xs.length 5,_,by rw[hr,List.length_append],f.1,((ax.refl _ _).drew).alloc _,.inr f.2⟩
section
variable {P:Program}{n:Nat}{D:List Deferred}{F:Fr}{w:World}{K:Fr→World→Prop}{Q:Exit→Act→World→Prop}{d:Option Tmp}{t:TypeId}{s:String}{af:Array Edge}{gu:Option (Nat × Bool)}
theorem uB{ty:TypeId}{x y:Operand}{m:Bool}{A:Option Addr}{xs ys:List Int}{u:Value}(HX:aN true w (.slice A xs.length xs.length) xs)(HY:aN m w u ys)(hl:xs.length+ys.length≤4194304)
    (h:∀ A' cp w',aN true w' (.slice A' (xs++ys).length cp) (xs++ys)→((A'=A∧w'=w)∨∃ c,cJ w.heap.size w' (.slice A' 0 c) [])→ax [] w w'→K (pt d (.slice A' (xs++ys).length cp) F) w') (hx:cY F x=some (.slice A xs.length xs.length):=by kernel_rfl) (hy:cY F y=some u:=by kernel_rfl)
    (hs:(jO P ty,(P.info? 5).map (fun i=>(i.zero,i.size,i.bytes)),dA n d)=(some 5,some (some (.int .u8 0),1,1),true):=by kernel_rfl) : OG P ⟨d,.call { callee:=.builtin .append,args:=#[x,y],argTypes:=#[ty,ty] },t,s,af,gu⟩ n D F w K Q:=by
  simp only[Prod.mk.injEq] at hs
  obtain⟨h1,h2,h3⟩:=hs
  obtain⟨A',cp,w',hr,hv,hu,ho⟩:=fW (P:=P) (w:=w) ty t _ (cZ h1) rfl h2 HX HY hl
  refine⟨fun a ha K' hK=>OW.mk ?_⟩
  have hx':=ha.ev hx
  have hy':=ha.ev hy
  unfold Oper.wp execOp
  simp only[resolve,invoke,builtin,Sem.run_bind,Sem.run_pure,Result.andThen_ok,List.map_toArray,List.map_cons,List.map_nil,hx',hy',hr]
  exact hK _ _ _ (h A' cp w' hv ho hu) (ha.put h3)
end
open Go.RowKit
def bV (n base:Nat)(w:World)(g:Nat)(A:Option Addr)(c:Nat)(S:SS) : Prop:=(∃ cp,w.heap[g]? = some (.cells #[.int .i64 S.dir,.slice A S.held.length cp,.bool S.off] 127 (0,0))∧aN true w (.slice A S.held.length cp) S.held∧S.held.length≤256∧S.held.length≤cp)∧cJ base w (.slice A 0 c) []∧n≤w.heap.size∧(∀ x,x∈ob A→n≤x)∧base≤w.heap.size
section
variable {n base g c:Nat}{w w':World}{A:Option Addr}{S:SS}{X:List Nat}
theorem bV.row(h:bV n base w g A c S) : cJ base w (.slice A 0 c) []:=h.2.1
theorem bV.low(h:bV n base w g A c S) : ∀ x,x∈ob A→n≤x:=h.2.2.2.1
theorem bV.nle(h:bV n base w g A c S) : n≤w.heap.size:=h.2.2.1
theorem bV.le(h:bV n base w g A c S) : S.held.length≤256:=by
  obtain⟨⟨cp,_,_,h1,_⟩,_⟩:=h
  exact h1
theorem bV.lt(h:bV n base w g A c S) : g<w.heap.size:=by
  obtain⟨⟨cp,h1,_⟩,_⟩:=h
  exact ai h1
theorem bV.cells(h:bV n base w g A c S) : ∃ cs fr,w.heap[g]? = some (.cells cs 127 fr):=by
  obtain⟨⟨cp,h1,_⟩,_⟩:=h
  exact⟨_,_,h1⟩
theorem bV.upd(h:bV n base w g A c S)(hu:ax X w w')(hg:g∉X)(hr:∀ x,x∈ob A→x∉X) : bV n base w' g A c S:=by
  obtain⟨⟨cp,h1,h2,h3⟩,h4,h5,h6,h7⟩:=h
  exact⟨⟨cp,hu.blk hg h1,aN.far h2 hu (fun _=>hr),h3⟩,am h4 hu hr (fun _ _ q=>q),Nat.le_trans h5 hu.size,h6,Nat.le_trans h7 hu.size⟩
end
theorem aP.bad{n:Nat}{w:World}(hn:n≤w.heap.size){e:Int}{cs:List Value}(h:jD true w (Ev.bad e) cs) : aP n w (Ev.bad e) cs:=⟨hn,fun w' X hu ha=>by
  obtain⟨s,h1,h2,h3⟩:=h
  obtain⟨vw,vb,vd,vr,vo,k0,kw,kb,kd,kr,ko,kR⟩:=h2
  have nl:∀ {α:Type} {e:TypeId} {sz:Nat} {R:World→α→List Value→Prop} {v:Value},aI true e sz R w v []→aI true e sz R w' v []:=fun⟨A,c,hv,q1,q2,q3,q4⟩=>⟨A,c,hv,q1,q2,q3,fun hp=>absurd hp (Nat.lt_irrefl 0)⟩
  exact⟨s,h1,⟨vw,vb,vd,vr,vo,k0,nl kw,nl kb,nl kd,nl kr,nl ko,kR⟩,h3⟩⟩
theorem bH.nil{n base:Nat}{w:World}:bH n base w (.slice none 0 0) []:=aO.nil ..
theorem bH.bad{n base:Nat}{w:World}{v:Value}{e:Int}(hn:n≤w.heap.size)(h:dZ base w v [Ev.bad e]) : bH n base w v [Ev.bad e]:=by
  obtain⟨cells,ho,hx⟩:=h
  refine⟨cells,ho,fun j x hj=>?_⟩
  obtain⟨cs,h1,h2,h3⟩:=hx j x hj
  cases j with
  | succ j=>simp at hj
  | zero =>
    have hj:Ev.bad e=x:=by simpa using hj
    subst hj
    exact⟨cs,h1,aP.bad hn h2,h3⟩
def uk (n base:Nat)(S2:SS)(L:List Ev)(g:Nat)(A:Option Addr)(w:World)(e:Ending)(w':World) : Prop:=∃ v A2 c2 n2,e = .returned v∧bH n2 w.heap.size w' v L∧bV n2 base w' g A2 c2 S2∧(∀ x,x∈ob A2→x∈ob A∨w.heap.size≤x)∧n≤n2∧ax (g :: (ob A++[])) w w'
theorem i3{g:Nat}{A:Option Addr}{w w':World}(h:ax [g] w w') : ax (g :: (ob A++[])) w w':=ax.mono h fun x hx=>.inl (by rw[List.mem_singleton] at hx;rw[hx];exact List.mem_cons_self ..)
theorem ru{w:World}{d:Int}(hd:d=0∨d=1) : Calls Tryz.prog 46 #[.int .i64 d] w (fun e w'=>∃ g,e = .returned (.pointer (some ⟨g,0,none⟩))∧w.heap.size≤g∧bV w.heap.size w.heap.size w' g none 0 ⟨d,[],false⟩∧ax [] w w'):=by
 have h:((d != 0)&&(d != 1))=false:=by rcases hd with rfl | rfl<;>rfl
 refine en 12 Tryz.func46 rfl<|sg<|Pl 1<|nt<|sq<|sg<|Pl 3<|cu 3 [5] 8 (((d != 0)&&(d != 1))) (fun K c=>?_) ?_
 refine bl 5 ((d != 0)) (fun a=>?_) (fun a=>?_)
 have i:=ay a
 exact Pl 3<|ce c (d != 1) (by rw[a];rfl)
 have i:=ag a
 exact Pl 3<|ce c false (by rw[a];rfl)
 refine nt<|cf h<|bC<|sg<|Pl 2<|L0<|cS #[.int .i64 d,.slice none 0 0,.bool false] fun f l j k b=>Pl 1<|nt<|rt<|rr (.pointer (some ⟨f,0,none⟩))<|?_
 exact⟨f,rfl,j,⟨⟨0,k,aI.nil ..,Nat.zero_le _,Nat.zero_le _⟩,aO.nil ..,b.size,bM,b.size⟩,b⟩
theorem pJ{w:World}{n base g c:Nat}{A:Option Addr}{S:SS}(h:bV n base w g A c S) : Calls Tryz.prog 158 #[.pointer (some ⟨g,0,none⟩)] w (bi (.int .i64 ((S.held.length:Nat) : Int)) w):=by
 obtain⟨⟨cp,hb,hr,hl,hcp⟩,hrow,hn0,hlow,hbs⟩:=h
 have hcm:=aI.len hr
 refine en 8 Tryz.func158 rfl<|sg<|Pl 1<|ng<|Pl 3<|L0<|aU hb 1<|Pl 2<|nt<|rt<|?_
 refine rr (.int .i64 ((S.held.length:Nat) : Int))<|?_
 exact⟨rfl,(ax.refl [] _)⟩
theorem nZ{w:World}{n base g c:Nat}{A:Option Addr}{S:SS}(h:bV n base w g A c S){m:Bool}{B:Option Addr}{cpb:Nat}{b:List Int}(hgA:g∉ob A)(hsl:aN m w (.slice B b.length cpb) b)(hbl:b.length≤1048576)(hcb:b.length≤cpb) :
    Calls Tryz.prog 157 #[.pointer (some ⟨g,0,none⟩),.slice B b.length cpb] w (uk n base (S.feed b).1 (S.feed b).2 g A w):=by
 obtain⟨⟨cp,hb,hr,hl,hcp⟩,hrow,hn0,hlow,hbs⟩:=h
 have hcm:=aI.len hr
 have hbm:=aI.len hsl
 refine en 53 Tryz.func157 rfl<|sg<|Pl 1<|nt<|sq<|sg<|Pl 3<|L0<|aU hb 2<|nt<|cb (S.off) (fun l=>?_) (fun l=>?_)
 refine sg<|Pl 1<|nt<|rt<|tr<|rr (.slice none 0 0)<|?_
 have hs:S.feed b=(S,[]):=by unfold SS.feed;rw[l];rfl
 rw[hs]
 exact⟨_,A,c,n,rfl,bH.nil,⟨⟨cp,hb,hr,hl,hcp⟩,am hrow (ax.refl [] _) (fun x hx=>(by simp)) (fun _ _ q=>q),Nat.le_trans hn0 lr,hlow,Nat.le_trans hbs lr⟩,fy,Nat.le_refl _,i3 (ax.mono (S':=[g]) (ax.refl [] _) au)⟩
 refine bC<|sg<|Pl 5<|L0<|aU hb 1<|Pl 1<|L0<|Oi (256-((S.held.length:Nat) : Int))<|L0<|fw (.int .i64 (min ((b.length:Nat) : Int) (256-((S.held.length:Nat) : Int)))) (qu (a:=((b.length:Nat) : Int)) (b:=(256-((S.held.length:Nat) : Int))) rfl (by kernel_rfl) (by kernel_rfl))<|Pl 1<|nt<|sq<|Rg 23 (fun w'=>w'.cell? ⟨g,1,none⟩=some (.slice A S.held.length cp)) fun R f=>?_
 have z:=ub f hb
 refine bg (aj z rfl) fun d=>Rt 0 d<|Rt 1 d<|Rt 2 d<|Rt 3 d<|Rl 4 d (fun _ hs=>hs)<|Rt 5 d<|Rt 6 d<|Rt 7 d<|Rl 8 d (fun _ hs=>hs)<|Rt 9 d<|Rt 10 d<|Rt 11 d<|Rt 12 d<|?_
 refine Rl 13 d (fun _ hs=>hs)<|Rt 14 d<|?_
 have u:=aN.upd' hr f az
 refine Rr 15 d (.slice A S.held.length S.held.length) (fun _ _=>ph (k1:=.i64) (k2:=.i64) (i1:=((S.held.length:Nat) : Int)) (i2:=((S.held.length:Nat) : Int)) (A:=A) (n:=S.held.length) (c:=cp) rfl Tryz.underlying27 (by kernel_rfl) (by kernel_rfl) (by kernel_rfl) (by kernel_rfl) rfl rfl (aI.cap u) (aI.adr u))<|Rt 16 d<|Rt 17 d<|o0 (mw (P:=Tryz.prog) 27 5 1 Tryz.underlying27 rfl rfl B b.length cpb (k:=(min ((b.length:Nat) : Int) (256-((S.held.length:Nat) : Int)))) (((min ((b.length:Nat) : Int) (256-((S.held.length:Nat) : Int)))).toNat) (by omega) (by omega) (by omega)) fun G hrun30 H=>Rr 18 d (.slice G (((min ((b.length:Nat) : Int) (256-((S.held.length:Nat) : Int)))).toNat) cpb) (fun _ _=>fK (kl:=.i64) (k:=(min ((b.length:Nat) : Int) (256-((S.held.length:Nat) : Int)))) (A:=B) (n:=b.length) (c:=cpb) rfl Tryz.underlying27 (by kernel_rfl) (by kernel_rfl) (hrun30 _ _))<|?_
 refine R0 19 rfl<|uB (xs:=S.held) (ys:=(b.take (((min ((b.length:Nat) : Int) (256-((S.held.length:Nat) : Int)))).toNat))) (u).full (H _ _ _ _ _ (aN.upd' hsl f az)) (by(try simp only[List.length_take]);omega) fun o C T I J j=>?_
 have v:=ub j z
 refine bg (aj v rfl) fun D=>Rt 20 D<|Rt 21 D<|vi 22 rfl<|bS v 1 #[.int .i64 S.dir,.slice o ((S.held++(b.take (((min ((b.length:Nat) : Int) (256-((S.held.length:Nat) : Int)))).toNat))).length) C,.bool S.off] fun E F i=>re<|tn<|sq<|sg<|Pl 4<|nt<|?_
 have p:=uz f (uz j i)
 refine cb (((min ((b.length:Nat) : Int) (256-((S.held.length:Nat) : Int)))==((b.length:Nat) : Int))) (fun y=>?_) (fun y=>?_)
 have K:=aB y
 refine sg<|Pl 1<|nt<|rt<|tr<|rr (.slice none 0 0)<|?_
 have hle:b.length≤256-S.held.length:=by omega
 have hs:S.feed b=(⟨S.dir,S.held++b,false⟩,[]):=by unfold SS.feed;rw[l,decide_eq_true hle];rfl
 rw[hs]
 have hz:(b.take (((min ((b.length:Nat) : Int) (256-((S.held.length:Nat) : Int)))).toNat))=b:=List.take_of_length_le (by omega)
 have hB:=F
 have hR:=(aN.upd' I i (ah (aF v (by decide)) az))
 rw[hz] at hB hR
 have hsh:=hR.cap
 have hgr:g∉ob A:=fun e=>hgA e
 have fin:∀ c2,cJ base E (.slice o 0 c2) []→(∀ x,x∈ob o→n≤x)→(∀ x,x∈ob o→x∈ob A∨w.heap.size≤x)→uk n base ⟨S.dir,S.held++b,false⟩ [] g A w (.returned (.slice none 0 0)) E:=fun c2 k1 k2 k3=>⟨_,o,c2,n,rfl,bH.nil,⟨⟨C,by rw[← l];exact hB,hR,by rw[List.length_append];omega,hsh⟩,k1,Nat.le_trans hn0 p.size,k2,Nat.le_trans hbs p.size⟩,k3,Nat.le_refl _,i3 p⟩
 rcases J with⟨e1,e2⟩|⟨c2,k⟩
 · refine fin c ?_ ?_ ?_
   · rw[e1];exact am hrow p (fun x hx=>(by rw[List.mem_singleton];intro e;exact hgA (e▸hx))) (fun _ _ q=>q)
   · rw[e1];exact hlow
   · rw[e1];exact fy
 · refine fin c2 ?_ ?_ ?_
   · exact aO.weaken (am k i (fun x hx=>(by rw[List.mem_singleton];intro e;have:=eu k x hx;have:=ai hb;have:=f.size;omega)) (fun _ _ q=>q)) (Nat.le_trans hbs f.size)
   · exact fun x hx=>Nat.le_trans (Nat.le_trans hn0 f.size) (eu k x hx)
   · exact fun x hx=>.inr (Nat.le_trans f.size (eu k x hx))
 have K:=aH y
 refine bC<|sg<|Pl 4<|L0<|bS F 1 #[.int .i64 S.dir,.slice none 0 0,.bool S.off] fun U L r=>Pl 2<|L0<|bS L 2 #[.int .i64 S.dir,.slice none 0 0,.bool true] fun V M s=>ng<|Pl 1<|L0<|fg (m:=1) (e:=66) #[.int .i64 3,.int .u8 0,.int .u16 0,.int .u8 0,.int .u8 0,.int .u16 0,.int .u16 0,.int .u16 0,.int .u16 0,.int .u16 0,.int .u16 0,.int .u16 0,.int .u16 0,.int .u16 0,.int .u16 0,.slice none 0 0,.slice none 0 0,.slice none 0 0,.slice none 0 0,.int .u8 0,.int .u8 0,.int .u8 0,.int .u8 0,.int .u8 0,.slice none 0 0] fun N W O Q t=>?_
 refine Pl 1<|nt<|rt<|rr (.slice (some ⟨N,0,none⟩) 1 1)<|?_
 have hle:¬ b.length≤256-S.held.length:=by omega
 have hs:S.feed b=(⟨S.dir,[],true⟩,[Ev.bad 3]):=by unfold SS.feed;rw[l,decide_eq_false hle];rfl
 rw[hs]
 have hE:=jj (w0:=w) (x:=Ev.bad 3) (Nat.le_trans (le (le (le (le f.size j.size) i.size) r.size) s.size) O) Q ⟨⟨none,0,none,0,none,0,none,0,none,0⟩,by kernel_rfl,ja,by decide,by decide⟩
 exact⟨_,none,0,n,rfl,bH.bad (Nat.le_trans hn0 (le (le (le (le (le f.size j.size) i.size) r.size) s.size) t.size)) hE,⟨⟨0,(ub t M),aI.nil ..,(Nat.zero_le _),(Nat.zero_le _)⟩,aO.nil ..,Nat.le_trans hn0 (le (le (le (le (le f.size j.size) i.size) r.size) s.size) t.size),bM,Nat.le_trans hbs (le (le (le (le (le f.size j.size) i.size) r.size) s.size) t.size)⟩,d6,Nat.le_refl _,i3 (u1 p (u1 r (aG s t) im) im)⟩
theorem nQ{w:World}{n base g c:Nat}{A:Option Addr}{S:SS}(h:bV n base w g A c S) : Calls Tryz.prog 159 #[.pointer (some ⟨g,0,none⟩)] w (uk n base S.tick.1 S.tick.2 g A w):=by
 obtain⟨⟨cp,hb,hr,hl,hcp⟩,hrow,hn0,hlow,hbs⟩:=h
 have hcm:=aI.len hr
 refine en 32 Tryz.func159 rfl<|sg<|Pl 1<|ng<|Pl 3<|L0<|aU hb 1<|Pl 1<|nt<|sq<|?_
 refine go<|Pl 4<|L0<|bS hb 1 #[.int .i64 S.dir,.slice none 0 0,.bool S.off] fun L u d=>Pl 2<|L0<|bS u 2 #[.int .i64 S.dir,.slice none 0 0,.bool false] fun v l f=>nt<|sq<|sg<|Pl 3<|nt<|?_
 have b:=u1 d f im
 refine cb ((((S.held.length:Nat) : Int)==0)) (fun o=>?_) (fun o=>?_)
 have y:=aB o
 refine sg<|Pl 1<|nt<|rt<|tr<|rr (.slice none 0 0)<|?_
 have hs:S.tick=(⟨S.dir,[],false⟩,[]):=by unfold SS.tick;rw[if_pos (by omega)]
 rw[hs]
 exact⟨_,none,0,v.heap.size,rfl,bH.nil,⟨⟨0,l,aI.nil ..,(Nat.zero_le _),(Nat.zero_le _)⟩,aO.nil ..,Nat.le_refl _,bM,Nat.le_trans hbs b.size⟩,d6,Nat.le_trans hn0 b.size,i3 b⟩
 have y:=aH o
 refine bC<|sg<|Pl 3<|L0<|aU l 0<|Pl 1<|?_
 refine pr (er S.dir S.held) fun a p r=>?_
 refine L0<|Oc<|e2 (jE r (aN.upd' hr b (ah (aF hb (by decide)) az)) (by omega)) fun sT M z i=>?_
 obtain⟨B,C,D⟩:=z
 refine Pl 3<|L0<|bB #[.int .u8 0,.int .u16 0,.int .u8 0,.int .u8 0,.int .u16 0,.int .u16 0,.int .u16 0,.int .u16 0,.int .u16 0,.int .u16 0,.int .u16 0,.int .u16 0,.int .u16 0,.int .u16 0,.slice none 0 0,.slice none 0 0,.slice none 0 0,.slice none 0 0,.int .u8 0,.int .u8 0,.int .u8 0,.int .u8 0,.int .u8 0,.slice none 0 0] fun N O E F j=>L0<|be F (nB a.unit a.tid a.msg sT) fun P G k=>Pl 1<|ng<|Pl 1<|L0<|c7 G<|Pl 1<|L0<|fg (m:=1) (e:=66) (kM ⟨p,a⟩ sT) fun H I J K q=>Pl 1<|nl<|?_
 refine tn<|rt<|rr (.slice (some ⟨H,0,none⟩) 1 1)<|?_
 have hs:S.tick=(⟨S.dir,[],false⟩,[⟨p,a⟩]):=by unfold SS.tick;rw[if_neg (by omega),r]
 rw[hs]
 have s:=ud j (aG k q) E
 have hE:=jj (w0:=w) (x:=⟨p,a⟩) (Nat.le_trans (le (le (le (le d.size f.size) i.size) j.size) k.size) J) K ⟨sT,rfl,(aX.upd B s az),C,D⟩
 have t:=aG i s
 exact⟨_,none,0,I.heap.size,rfl,dZ.low hE,⟨⟨0,(ub t l),aI.nil ..,(Nat.zero_le _),(Nat.zero_le _)⟩,aO.nil ..,Nat.le_refl _,bM,Nat.le_trans hbs (le (le (le (le (le d.size f.size) i.size) j.size) k.size) q.size)⟩,d6,Nat.le_trans hn0 (le (le (le (le (le d.size f.size) i.size) j.size) k.size) q.size),i3 (aG b t)⟩
open Go.RowKit
def qK (b:List Int) : ak:=⟨b,false,0⟩
def qt (b:List Int) : ak:=(qK b).wordsC 1
def q6 (b:List Int) : ak:=(qt b).wordsC 1
def qD (b:List Int) : ak:=(q6 b).wordsC 1
def qf (b:List Int) : ak:=(qD b).bytesC 1
def lJ (b:List Int) : List Int:=(qf b).bytesR (((qf b).l.length:Nat) : Int)
def c8 (dir:Int)(b:List Int) : cN × Int :=
  if dir != 0&&dir != 1 then (cN.zero,1)
  else if decide ((b.length:Int)<8) then (cN.zero,2)
  else if decide (260<(b.length:Int)) then (cN.zero,3)
  else if (qt b).wordV != 0 then (cN.zero,13)
  else if (q6 b).wordV != (b.length:Int)-6 then (cN.zero,5)
  else cn (qD b).byteV (qK b).wordV (cj dir (lJ b))
theorem jN{m:Bool}{A:Option Addr}{cp:Nat}{b:List Int}{w:World}{dir:Int}(hsl:aN m w (.slice A b.length cp) b)(hb:b.length≤1048576) :
    Calls Tryz.prog 192 #[.int .i64 dir,.slice A b.length cp] w (j2 (c8 dir b) w):=by
 have hln:(b.length:Int)≤1048576:=by omega
 refine en 75 Tryz.func192 rfl<|sg<|L0<|bB #[.int .u8 0,.int .u16 0,.int .u8 0,.int .u8 0,.int .u16 0,.int .u16 0,.int .u16 0,.int .u16 0,.int .u16 0,.int .u16 0,.int .u16 0,.int .u16 0,.int .u16 0,.int .u16 0,.slice none 0 0,.slice none 0 0,.slice none 0 0,.slice none 0 0,.int .u8 0,.int .u8 0,.int .u8 0,.int .u8 0,.int .u8 0,.slice none 0 0] fun b0 b1 g e i=>Pl 1<|nt<|sq<|bk<|sg<|Pl 3<|cu 3 [17] 20 (((dir != 0)&&(dir != 1))) (fun K N=>?_) ?_
 refine bl 17 ((dir != 0)) (fun o=>?_) (fun o=>?_)
 have Z:=ay o
 exact Pl 3<|ce N (dir != 1) (by rw[o];rfl)
 have Z:=ag o
 exact Pl 3<|ce N false (by rw[o];rfl)
 refine Pl 1<|nt<|cb (((dir != 0)&&(dir != 1))) (fun c=>?_) (fun c=>?_)
 have O:=(bQ c).1
 have P:=(bQ c).2
 have b2:=ay O
 have b3:=ay P
 refine sg<|Pl 1<|L0<|be e #[.int .u8 0,.int .u16 0,.int .u8 0,.int .u8 0,.int .u16 0,.int .u16 0,.int .u16 0,.int .u16 0,.int .u16 0,.int .u16 0,.int .u16 0,.int .u16 0,.int .u16 0,.int .u16 0,.slice none 0 0,.slice none 0 0,.slice none 0 0,.slice none 0 0,.int .u8 0,.int .u8 0,.int .u8 0,.int .u8 0,.int .u8 0,.slice none 0 0] fun b4 a0 a1=>Pl 1<|nt<|rt<|br<|tr<|c9 a0 (.int .i64 1)<|?_
 have hs:c8 dir b=(cN.zero,1):=by
   unfold c8
   (try simp only[c,O,P,bs,if_true,if_false,decide_true,decide_false,cn,qf,qD,q6,qt,qK,reduceIte])
   all_goals rfl
 refine cK hs ?_
 exact bY (ud i a1 g)
 refine sg<|Pl 4<|nt<|cb ((decide (((b.length:Nat) : Int)<8))) (fun d=>?_) (fun d=>?_)
 have a2:=of_decide_eq_true d
 refine sg<|Pl 1<|L0<|be e #[.int .u8 0,.int .u16 0,.int .u8 0,.int .u8 0,.int .u16 0,.int .u16 0,.int .u16 0,.int .u16 0,.int .u16 0,.int .u16 0,.int .u16 0,.int .u16 0,.int .u16 0,.int .u16 0,.slice none 0 0,.slice none 0 0,.slice none 0 0,.slice none 0 0,.int .u8 0,.int .u8 0,.int .u8 0,.int .u8 0,.int .u8 0,.slice none 0 0] fun b5 a3 a4=>Pl 1<|nt<|rt<|br<|tr<|c9 a3 (.int .i64 2)<|?_
 have hs:c8 dir b=(cN.zero,2):=by
   unfold c8
   (try simp only[c,d,bs,if_true,if_false,decide_true,decide_false,cn,qf,qD,q6,qt,qK,reduceIte])
   all_goals rfl
 refine cK hs ?_
 exact bY (ud i a4 g)
 have a2:=of_decide_eq_false d
 refine sg<|Pl 4<|nt<|cb ((decide (260<((b.length:Nat) : Int)))) (fun f=>?_) (fun f=>?_)
 have a5:=of_decide_eq_true f
 refine sg<|Pl 1<|L0<|be e #[.int .u8 0,.int .u16 0,.int .u8 0,.int .u8 0,.int .u16 0,.int .u16 0,.int .u16 0,.int .u16 0,.int .u16 0,.int .u16 0,.int .u16 0,.int .u16 0,.int .u16 0,.int .u16 0,.slice none 0 0,.slice none 0 0,.slice none 0 0,.slice none 0 0,.int .u8 0,.int .u8 0,.int .u8 0,.int .u8 0,.int .u8 0,.slice none 0 0] fun b6 a6 a7=>Pl 1<|nt<|rt<|br<|tr<|c9 a6 (.int .i64 3)<|?_
 have hs:c8 dir b=(cN.zero,3):=by
   unfold c8
   (try simp only[c,d,f,bs,if_true,if_false,decide_true,decide_false,cn,qf,qD,q6,qt,qK,reduceIte])
   all_goals rfl
 refine cK hs ?_
 exact bY (ud i a7 g)
 have a5:=of_decide_eq_false f
 refine sk<|bn<|tn<|sg<|Pl 1<|?_
 refine L0<|Oc<|e3 (ca (aN.old hsl i) (by omega)) fun u b7 p a8 a9=>Pl 1<|ng<|Pl 1<|ng<|Pl 2<|L0<|eK #[] #[] (args:=#[.pointer (some ⟨u,0,none⟩)])<|m3 (bj a8) fun b9 aa ac ba=>Pl 2<|L0<|eK #[] #[] (args:=#[.pointer (some ⟨u,0,none⟩)])<|m3 (bj aa) fun bb ad af bc=>?_
 refine ab ad fun x46 s ai=>?_
 refine Pl 2<|L0<|eK #[] #[] (args:=#[.pointer (some ⟨u,0,none⟩)])<|m3 (bj ai) fun bd aj al bf=>Pl 3<|nt<|sq<|bk<|sg<|Pl 3<|nt<|?_
 have j:=ud a9 (u1 ac (u1 af al im) im) p
 have v:=aG i j
 refine cb (((((ak.mk b false 0).wordsC 1).wordV)!=0)) (fun h=>?_) (fun h=>?_)
 have am:=ay h
 refine sg<|Pl 1<|?_
 refine L0<|be (ub j e) #[.int .u8 0,.int .u16 0,.int .u8 0,.int .u8 0,.int .u16 0,.int .u16 0,.int .u16 0,.int .u16 0,.int .u16 0,.int .u16 0,.int .u16 0,.int .u16 0,.int .u16 0,.int .u16 0,.slice none 0 0,.slice none 0 0,.slice none 0 0,.slice none 0 0,.int .u8 0,.int .u8 0,.int .u8 0,.int .u8 0,.int .u8 0,.slice none 0 0] fun bg an ao=>Pl 1<|nt<|rt<|br<|tr<|c9 an (.int .i64 13)<|?_
 subst s
 have hs:c8 dir b=(cN.zero,13):=by
   unfold c8
   (try simp only[c,d,f,h,bs,if_true,if_false,decide_true,decide_false,cn,qf,qD,q6,qt,qK,reduceIte])
   all_goals rfl
 refine cK hs ?_
 exact bY (ud v ao g)
 have am:=ag h
 refine sg<|Pl 1<|L0<|Oi x46.wordV<|Pl 2<|L0<|Oi (((b.length:Nat) : Int)-6)<|Pl 2<|nt<|cb ((x46.wordV != (((b.length:Nat) : Int)-6))) (fun k=>?_) (fun k=>?_)
 have ap:=ay k
 refine sg<|Pl 1<|?_
 refine L0<|be (ub j e) #[.int .u8 0,.int .u16 0,.int .u8 0,.int .u8 0,.int .u16 0,.int .u16 0,.int .u16 0,.int .u16 0,.int .u16 0,.int .u16 0,.int .u16 0,.int .u16 0,.int .u16 0,.int .u16 0,.slice none 0 0,.slice none 0 0,.slice none 0 0,.slice none 0 0,.int .u8 0,.int .u8 0,.int .u8 0,.int .u8 0,.int .u8 0,.slice none 0 0] fun bh aq ar=>Pl 1<|nt<|rt<|br<|tr<|c9 aq (.int .i64 5)<|?_
 subst s
 have hs:c8 dir b=(cN.zero,5):=by
   unfold c8
   (try simp only[c,d,f,h,k,bs,if_true,if_false,decide_true,decide_false,cn,qf,qD,q6,qt,qK,reduceIte])
   all_goals rfl
 refine cK hs ?_
 exact bY (ud v ar g)
 have ap:=ag k
 refine sk<|bn<|tn<|sg<|Pl 1<|L0<|Oc<|m3 (bo aj) fun bi t Q bm=>Pl 1<|ng<|Pl 3<|L0<|Oc<|mq (cy t)<|?_
 have bp:=ae.len t
 refine L0<|Oc<|mY (bD (n:=((((x46.wordsC 1).bytesC 1).l.length:Nat) : Int)) t) fun bq bt au av bu bv aw R=>?_
 have bw:=Nat.le_trans (ak.bytesR_le ((x46.wordsC 1).bytesC 1) ((((x46.wordsC 1).bytesC 1).l.length:Nat) : Int)) (ae.len t)
 refine ab aw fun x80 S bx=>?_
 obtain⟨a,q,x⟩ : ∃ M E,cj dir (((x46.wordsC 1).bytesC 1).bytesR ((((x46.wordsC 1).bytesC 1).l.length:Nat) : Int))=(M,E):=⟨_,_,rfl⟩
 have T:=fV (dir:=dir) (w:=au) av (by omega)
 rw[x] at T
 refine L0<|Oc<|e2 T fun ax bz U V=>?_
 have aA:=U
 obtain⟨aB,aC,aE,aH,aI,aJ,aK,aL,aM,aO,aP,bA⟩:=aA
 obtain rfl:ax=(dL a aB aC aE aH aI).toArray:=by apply Array.toList_inj.1;simpa using aJ
 obtain⟨y,z,rfl,_,_⟩:=aK.shape
 obtain⟨B,C,rfl,_,_⟩:=aL.shape
 obtain⟨D,F,rfl,_,_⟩:=aM.shape
 obtain⟨G,H,rfl,_,_⟩:=aO.shape
 obtain⟨I,J,rfl,_,_⟩:=aP.shape
 refine Pl 3<|L0<|bB mZ fun bE bF aQ aR aS=>L0<|be aR (mG a.code a.fail a.addr a.count a.value a.and_ a.or_ a.addr2 a.sub a.status a.events a.messages (.slice y a.words.length z) (.slice B a.bits.length C) (.slice D a.data.length F) (.slice G a.recs.length H) a.mei a.kind a.level a.more a.next (.slice I a.objects.length J)) fun bG aT aU=>Pl 1<|nt<|sq<|sg<|Pl 2<|nt<|?_
 have W:=ud aS aU aQ
 have L:=u1 Q (aG R (aG V W)) im
 have X:=ud v L (le i.size p)
 refine cb ((q != 0)) (fun r=>?_) (fun r=>?_)
 have aV:=ay r
 refine sg<|Pl 2<|?_
 refine L0<|be (ub (ud j L p) e) #[.int .u8 0,.int .u16 0,.int .u8 0,.int .u8 0,.int .u16 0,.int .u16 0,.int .u16 0,.int .u16 0,.int .u16 0,.int .u16 0,.int .u16 0,.int .u16 0,.int .u16 0,.int .u16 0,.slice none 0 0,.slice none 0 0,.slice none 0 0,.slice none 0 0,.int .u8 0,.int .u8 0,.int .u8 0,.int .u8 0,.int .u8 0,.slice none 0 0] fun bH aW aY=>Pl 1<|nt<|rt<|tr<|c9 aW (.int .i64 q)<|?_
 subst S s
 have hX2:cj dir (lJ b)=(a,q):=x
 have hs:c8 dir b=(cN.zero,q):=by
   unfold c8
   (try simp only[c,d,f,h,k,r,bs,if_true,if_false,decide_true,decide_false,cn,qf,qD,q6,qt,qK,hX2,reduceIte])
   all_goals rfl
 refine cK hs ?_
 exact bY (ud X aY g)
 have aV:=ag r
 refine bC<|sg<|Pl 3<|L0<|c7 aT<|Pl 1<|?_
 refine L0<|be (ub (ud j L p) e) #[.int .u8 ((x46.wordsC 1).byteV),.int .u16 ((ak.mk b false 0).wordV),.int .u8 a.code,.int .u8 a.fail,.int .u16 a.addr,.int .u16 a.count,.int .u16 a.value,.int .u16 a.and_,.int .u16 a.or_,.int .u16 a.addr2,.int .u16 a.sub,.int .u16 a.status,.int .u16 a.events,.int .u16 a.messages,.slice y a.words.length z,.slice B a.bits.length C,.slice D a.data.length F,.slice G a.recs.length H,.int .u8 a.mei,.int .u8 a.kind,.int .u8 a.level,.int .u8 a.more,.int .u8 a.next,.slice I a.objects.length J] fun bI aZ Y=>Pl 1<|nt<|rt<|c9 aZ (.int .i64 0)<|?_
 subst S s
 have hX2:cj dir (lJ b)=(a,q):=x
 have hs:c8 dir b=(⟨((((ak.mk b false 0).wordsC 1).wordsC 1).wordsC 1).byteV,(ak.mk b false 0).wordV,a⟩,0):=by
   unfold c8
   (try simp only[c,d,f,h,k,r,bs,if_true,if_false,decide_true,decide_false,cn,qf,qD,q6,qt,qK,hX2,reduceIte])
   all_goals rfl
 refine cK hs ?_
 exact⟨_,rfl,⟨#[.int .u8 a.code,.int .u8 a.fail,.int .u16 a.addr,.int .u16 a.count,.int .u16 a.value,.int .u16 a.and_,.int .u16 a.or_,.int .u16 a.addr2,.int .u16 a.sub,.int .u16 a.status,.int .u16 a.events,.int .u16 a.messages,.slice y a.words.length z,.slice B a.bits.length C,.slice D a.data.length F,.slice G a.recs.length H,.int .u8 a.mei,.int .u8 a.kind,.int .u8 a.level,.int .u8 a.more,.int .u8 a.next,.slice I a.objects.length J],(by as_aux_lemma=>kernel_rfl),(aX.upd U (uz W Y) (ah (aF (ub (ud j (u1 Q (aG R V) im) p) e) (by decide)) az)),b8 (by omega),aD (by omega)⟩,(ud X Y g)⟩
theorem m0{m:Bool}{v:Value}{b:List Int}{w:World}{dir:Int}(h:aN m w v b)(hb:b.length≤1048576) : Calls Tryz.prog 192 #[.int .i64 dir,v] w (j2 (c8 dir b) w):=by
  obtain⟨A,cp,rfl,_,_⟩:=h.shape
  exact jN h hb
open Go.RowKit
open Go.RowKit
theorem fB{m:Bool}{v:Value}{b:List Int}{w:World}{dir:Int}{F:cN}{E:Int}(hX:c8 dir b=(F,E))(h:aN m w v b)(hb:b.length≤1048576) : Calls Tryz.prog 192 #[.int .i64 dir,v] w (fun e w'=>∃ x,e = .returned (.tuple #[.agg (nB F.unit F.tid F.msg x),.int .i64 E])∧(aX true w' (og F.msg x).toList F.msg∧(0≤F.unit∧F.unit<256)∧(0≤F.tid∧F.tid<65536))∧ax [] w w'):=by
  refine(m0 h hb).mono ?_
  rintro e w' ⟨cs,rfl,h1,h2⟩
  rw[hX] at h1 ⊢
  obtain⟨c,rfl,h3,h4,h5⟩:=h1
  obtain⟨x,rfl⟩:=kV h3
  exact⟨x,by rw[gQ],⟨h3,h4,h5⟩,h2⟩
end Go.Proofs.YtpglhicfhppaiaaGreat
