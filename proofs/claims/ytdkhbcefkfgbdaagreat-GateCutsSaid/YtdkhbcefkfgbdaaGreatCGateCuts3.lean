/- Contracts of functions, part CGateCuts3. -/
import Derived.Test.YtdkhbcefkfgbdaaGreatCGateCuts1
import Derived.Test.YtdkhbcefkfgbdaaGreatCGateCuts2
import Derived.RangeFuncRecord
import Derived.RangeFuncLeaves
import Derived.RangeFuncCalls
import Derived.OpenShut
import Derived.Below
import Derived.Deep.Upon
set_option linter.unusedVariables false
set_option linter.unusedSimpArgs false
set_option maxRecDepth 100000
set_option maxHeartbeats 4000000
namespace Go.Proofs.YtdkhbcefkfgbdaaGreat
open Go.RowKit
def s6 (C:aA) : aA:=(C.bytesC 1).need (C.byteV==6) 9
def oo (C:aA) : aA:=((s6 C).wordsC 1).need ((s6 C).wordV != 0) 6
def qy (C:aA) : aA:=((oo C).wordsC 1).need (decide ((oo C).wordV≤9999)) 7
def gh (C:aA) : aA:=((qy C).wordsC 1).need ((qy C).wordV != 0) 5
def bp (C:aA) : dY:=⟨(s6 C).wordV,(oo C).wordV,(qy C).wordV,[]⟩
def iP (s:Int)(C:aA) : Int:=s+(2+2*(qy C).wordV)
def fj (s:Int)(C:aA) : aA:=(gh C).need (decide (iP s C≤245)) 5
def ka (C:aA) : aA:=(C.bytesC 1).need ((C.byteV%2==1&&decide (3≤C.byteV))&&decide (C.byteV≤((C.bytesC 1).l.length:Int))) 5
def fA (C:aA) : aA:=((ka C).bytesC 1).need ((ka C).byteV==6) 9
def hZ (C:aA) : aA:=(fA C).wordsC (Int.tdiv (C.byteV-1) 2)
def gS (C:aA) : dY:=⟨0,0,0,(fA C).wordsR (Int.tdiv (C.byteV-1) 2)⟩
def rE (C:aA) : aA:=(gh C).need (decide (2*(qy C).wordV≤((gh C).l.length:Int))) 5
def m6 (C:aA) : aA:=(rE C).wordsC (qy C).wordV
def kE (C:aA) : dY:=⟨(s6 C).wordV,(oo C).wordV,(qy C).wordV,(rE C).wordsR (qy C).wordV⟩
def AL (g:Nat)(C':aA)(r:dY)(w:World)(e:Ending)(w':World) : Prop:=∃ A c,e = .returned (.agg #[.int .u16 r.file,.int .u16 r.record,.int .u16 r.count,.slice A r.words.length c])∧eO (.hi w.heap.size) w' (.slice A r.words.length c) r.words∧eo r.file∧eo r.record∧eo r.count∧ag w' g C'∧ap [g] w w'
variable {C:aA}{g:Nat}{w:World}
theorem oC(hC:ag w g C) : Calls Tryz.prog 214 #[vP g 0] w (AL g (gh C) (bp C) w):=by
 have hlen:=hC.len
 refine en 34 Tryz.func214 rfl<|sg<|aL #[vW 0,vW 0,vW 0,nS] fun Z a0 c B b=>aS 2<|?_
 refine aF<|m3 (bD (ag.old hC b)) fun a1 D d a2=>Pl 1<|aF<|m2 (aU ((C.byteV==6)) 9 D) fun a3 E e=>?_
 refine ab E fun jc F G=>?_
 refine ng<|aL #[vW 0,vW 0,vW 0,nS] fun a4 a5 f H h=>aS 1<|?_
 refine aF<|m3 (bC (ag.old G h)) fun a6 I i a7=>Pl 1<|?_
 have a:=nb (ag.lt hC) (le (le b.size d.size) e.size) f
 have j:=b7 i (Ne.symm a) H
 refine L0<|cv j 0 #[vW jc.wordV,vW 0,vW 0,nS] fun a8 k l=>aS 2<|ax k 0<|Pl 1<|?_
 refine aF<|m2 (aU ((jc.wordV != 0)) 6 (ag.upd I l (aa a az) (ak (aW j (by decide)) aK))) fun a9 J K=>?_
 refine ab J fun jt L M=>?_
 refine aS 1<|aF<|m3 (bC M) fun ac N O ad=>Pl 1<|?_
 have m:=u1 K O im
 have n:=b7 m (Ne.symm a) k
 refine L0<|cv n 1 #[vW jc.wordV,vW jt.wordV,vW 0,nS] fun ae o p=>aS 2<|ax o 1<|Pl 1<|?_
 refine aF<|m2 (aU ((decide (jt.wordV≤9999))) 7 (ag.upd N p (aa a az) (ak (aW n (by decide)) aK))) fun af P Q=>?_
 refine ab P fun x61 R S=>?_
 refine aS 1<|aF<|m3 (bC S) fun ah T U ai=>Pl 1<|?_
 have q:=u1 Q U im
 have r:=b7 q (Ne.symm a) o
 refine L0<|cv r 2 #[vW jc.wordV,vW jt.wordV,vW x61.wordV,nS] fun aj s t=>aS 2<|ax s 2<|Pl 1<|?_
 refine aF<|m2 (aU ((x61.wordV != 0)) 5 (ag.upd T t (aa a az) (ak (aW r (by decide)) aK))) fun al V u=>?_
 refine ab V fun x77 W X=>?_
 refine ng<|?_
 refine L0<|cH (b7 u (Ne.symm a) s)<|?_
 have v:=u1 d (u1 e (ud h (ui i (ui l (ui m (ui p (ui q (us t u)))))) f) im) im
 have y:=nb (ag.lt hC) lr c
 have z:=b7 v (Ne.symm y) B
 refine aI z #[vW jc.wordV,vW jt.wordV,vW x61.wordV,nS] fun am Y A=>qQ<|Bx Y<|?_
 subst W R L F
 exact⟨_,_,rfl,aP.nil ..,co (x:=((C.bytesC 1).need (C.byteV==6) 9).wordV) (by omega),co (x:=((((C.bytesC 1).need (C.byteV==6) 9).wordsC 1).need (((C.bytesC 1).need (C.byteV==6) 9).wordV != 0) 6).wordV) (by omega),co (x:=((((((C.bytesC 1).need (C.byteV==6) 9).wordsC 1).need (((C.bytesC 1).need (C.byteV==6) 9).wordV != 0) 6).wordsC 1).need (decide (((((C.bytesC 1).need (C.byteV==6) 9).wordsC 1).need (((C.bytesC 1).need (C.byteV==6) 9).wordV != 0) 6).wordV≤9999)) 7).wordV) (by omega),(ag.upd X A (aa y az) (ak (aW z (by decide)) aK)),(ue b (us v A) c)⟩
theorem ux(hC:ag w g C) : Calls Tryz.prog 217 #[vP g 0] w (AL g (hZ C) (gS C) w):=by
 have hlen:=hC.len
 refine en 33 Tryz.func217 rfl<|sg<|aL #[vW 0,vW 0,vW 0,nS] fun Q R k m a=>aS 1<|?_
 refine aF<|m3 (bD (ag.old hC a)) fun S b c T=>bA C.byteV<|Pl 1<|aS 2<|L0<|Oe (vI (Int.tmod C.byteV 2)) (vI (C.byteV%2)) (congrArg (Value.int .i64) (Int.tmod_eq_emod_of_nonneg (by omega)))<|Pl 2<|gy 3 [11] 14 11 ((C.byteV%2)==1) (decide (3≤C.byteV)) (fun K t u=>?_) ?_
 have U:=aC u
 exact Pl 3<|ce t _ rfl
 refine Pl 1<|gy 5 [15] 20 15 (((C.byteV%2)==1)&&(decide (3≤C.byteV))) (decide (C.byteV≤(((C.bytesC 1).l.length:Nat) : Int))) (fun K v o=>?_) ?_
 have y:=(bK o).1
 have z:=(bK o).2
 have V:=aC y
 have W:=of_decide_eq_true z
 refine Pl 2<|L1<|Oc<|mq (dK b)<|?_
 have X:=ag.len b
 exact Pl 2<|ce v _ rfl
 refine aF<|m2 (aU (((((C.byteV%2)==1)&&(decide (3≤C.byteV)))&&(decide (C.byteV≤(((C.bytesC 1).l.length:Nat) : Int))))) 5 b) fun Y A d=>?_
 refine ab A fun x28 B D=>?_
 refine aS 2<|aF<|m3 (bD D) fun Z E f a0=>Pl 1<|aF<|m2 (aU ((x28.byteV==6)) 9 E) fun a1 F i=>?_
 refine ab F fun x38 G H=>?_
 refine aS 2<|bA (C.byteV-1)<|L0<|Oe (vI (IntKind.i64.wrap (Int.tdiv (C.byteV-1) 2))) (vI (Int.tdiv (C.byteV-1) 2)) (congrArg (Value.int .i64) (xS (by omega) (by omega)))<|aF<|sY (dO (n:=(Int.tdiv (C.byteV-1) 2)) H) fun I J a2 p a3 a4 L M=>?_
 refine ab L fun x48 N O=>?_
 refine Pl 1<|?_
 have q:=u1 c (u1 d (u1 f (u1 i M im) im) im) im
 have r:=nb (ag.lt hC) lr k
 have s:=b7 q (Ne.symm r) m
 refine aI s #[vW 0,vW 0,vW 0,.slice I ((x38.wordsR (Int.tdiv (C.byteV-1) 2)).length) J] fun a5 P j=>qQ<|Bx P<|?_
 subst N G B
 exact⟨_,_,rfl,(aJ.hi (aj p j (fun x hx=>(aa (fun e=>(aD (ai m) (le (le (le c.size d.size) f.size) i.size) p) (e▸hx)) az)) (fun _ _ h=>h)) (le (le (le (le a.size c.size) d.size) f.size) i.size)),co (x:=0) (by omega),co (x:=0) (by omega),co (x:=0) (by omega),(ag.upd O j (aa r az) (ak (aW s (by decide)) aK)),(ue a (us q j) k)⟩
theorem yU(hC:ag w g C) : Calls Tryz.prog 219 #[vP g 0] w (AL g (m6 C) (kE C) w):=by
 have hlen:=hC.len
 refine en 22 Tryz.func219 rfl<|sg<|aL #[vW 0,vW 0,vW 0,nS] fun X Y y j f=>aS 1<|?_
 refine aF<|Az (oC (ag.old hC f)) fun I J Z a0 K L M N c=>?_
 obtain⟨a1,a2⟩:=K
 obtain⟨a3,a4⟩:=L
 obtain⟨a5,a6⟩:=M
 refine aL #[vW 0,vW 0,vW 0,nS] fun O a7 k z m=>aI z #[vW ((bp C).file),vW ((bp C).record),vW ((bp C).count),.slice I ((bp C).words.length) J] fun a8 P i=>nt<|sq<|Rg 9 (fun w'=>w'.cell? ⟨O,2,none⟩=some (vW ((bp C).count))) fun a9 d=>?_
 have o:=ub d P
 refine b9 (ae o rfl) fun a=>Rt 0 a<|Rt 1 a<|Rl 2 a (fun _ hs=>hs)<|Rr 3 a (vI ((bp C).count)) (fun _ _=>cE (vI (IntKind.i64.wrap ((bp C).count))) (by kernel_rfl) (congrArg (Value.int .i64) (i64_in (by omega))))<|Rr 4 a (vI (2*((bp C).count))) (fun _ _=>cE (vI (IntKind.i64.wrap (2*((bp C).count)))) (by kernel_rfl) (congrArg (Value.int .i64) (IntWalk.i64_in _ (by omega))))<|Rt 5 a<|?_
 have p:=ud m (aH i d) k
 have q:=ag.old N p
 refine R0 6 rfl<|Oc<|mq (dK q)<|?_
 have ac:=ag.len q
 refine b9 (ae o rfl) fun Q=>Rt 7 Q<|R0 8 rfl<|Oc<|m2 (aU ((decide ((2*((bp C).count))≤(((gh C).l.length:Nat) : Int)))) 5 q) fun ad R b=>?_
 refine ab R fun x54 S T=>?_
 have r:=nb (ag.lt hC) (le f.size c.size) k
 have s:=b7 b (Ne.symm r) o
 refine b9 (ae s rfl) fun af=>re<|tn<|au 2<|ax s 2<|bA ((bp C).count)<|aF<|sY (dO (n:=(bp C).count) T) fun A B ah t al am U u=>Pl 1<|?_
 have D:=b7 u (Ne.symm r) s
 refine L0<|cv D 3 #[vW ((bp C).file),vW ((bp C).record),vW ((bp C).count),.slice A ((x54.wordsR ((bp C).count)).length) B] fun an V E=>ng<|L0<|cH V<|?_
 have F:=u1 c (ue p (ui b (us u E)) k) im
 have v:=nb (ag.lt hC) lr y
 refine aI (b7 F (Ne.symm v) j) #[vW ((bp C).file),vW ((bp C).record),vW ((bp C).count),.slice A ((x54.wordsR ((bp C).count)).length) B] fun ao W G=>qQ<|Bx W<|?_
 subst S
 have H:=us E G
 exact⟨_,_,rfl,(aJ.hi (aj t H (fun x hx=>(aa (fun e=>(aD (ai z) (le (le i.size d.size) b.size) t) (e▸hx)) (aa (fun e=>(aD (ai j) (le (le (le (le c.size m.size) i.size) d.size) b.size) t) (e▸hx)) az))) (fun _ _ h=>h)) (le (le (le (le (le f.size c.size) m.size) i.size) d.size) b.size)),co (x:=(bp C).file) (by omega),co (x:=(bp C).record) (by omega),co (x:=(bp C).count) (by omega),(ag.upd U H (aa r (aa v az)) (ak (aW D (by decide)) (ak (aW (b7 (u1 c (uz p (u1 b u im)) im) (Ne.symm v) j) (by decide)) aK))),(ue f (us F G) y)⟩
variable {n:Int}
theorem sl(hn:0≤n∧n<256) : Calls Tryz.prog 215 #[vI n] w (bH (.bool ((decide (7≤n)&&decide (n≤245))&&n%7==0)) w):=by
 refine en 14 Tryz.func215 rfl<|au 1<|aS 3<|gy 3 [5] 8 5 (decide (7≤n)) (decide (n≤245)) (fun K b c=>?_) ?_
 have g:=of_decide_eq_true c
 exact Pl 3<|ce b _ rfl
 refine Pl 1<|gy 4 [9] 13 9 ((decide (7≤n))&&(decide (n≤245))) ((n%7)==0) (fun K d a=>?_) ?_
 have e:=(bK a).1
 have f:=(bK a).2
 have h:=of_decide_eq_true e
 have i:=of_decide_eq_true f
 exact Pl 1<|L1<|Oe (vI (Int.tmod n 7)) (vI (n%7)) (congrArg (Value.int .i64) (Int.tmod_eq_emod_of_nonneg (by omega)))<|Pl 2<|ce d _ rfl
 exact al 1<|rt<|rr (.bool (((decide (7≤n))&&(decide (n≤245)))&&((n%7)==0)))<|⟨rfl,(ap.refl [] _)⟩
theorem qP(hn:0≤n∧n<256) : Calls Tryz.prog 216 #[vI n] w (bH (.bool (decide (4≤n)&&decide (n≤245))) w):=by
 refine en 9 Tryz.func216 rfl<|au 1<|aS 3<|gy 3 [5] 8 5 (decide (4≤n)) (decide (n≤245)) (fun K a b=>?_) ?_
 have c:=of_decide_eq_true b
 exact Pl 3<|ce a _ rfl
 exact al 1<|rt<|rr (.bool ((decide (4≤n))&&(decide (n≤245))))<|⟨rfl,(ap.refl [] _)⟩
theorem rC(hn:0≤n∧n<256) : Calls Tryz.prog 218 #[vI n] w (bH (.bool (decide (9≤n)&&decide (n≤251))) w):=by
 refine en 9 Tryz.func218 rfl<|au 1<|aS 3<|gy 3 [5] 8 5 (decide (9≤n)) (decide (n≤251)) (fun K a b=>?_) ?_
 have c:=of_decide_eq_true b
 exact Pl 3<|ce a _ rfl
 exact al 1<|rt<|rr (.bool ((decide (9≤n))&&(decide (n≤251))))<|⟨rfl,(ap.refl [] _)⟩
theorem iN{e:Int}  : Calls Tryz.prog 158 #[vI e] w (bH (vI (if e==2 then 5 else e)) w):=by
 refine en 6 Tryz.func158 rfl<|ay 1<|sq<|ay 2<|cb ((e==2)) (fun a=>?_) (fun a=>?_)
 have b:=aC a
 refine ay 1<|bJ<|rr (vI 5)<|?_
 have hs:(if e==2 then (5:Int) else e)=5:=by simp only[a,bt,reduceIte]
 rw[hs]
 exact⟨rfl,(ap.refl [] _)⟩
 have b:=aO a
 refine bU<|ay 2<|rt<|rr (vI e)<|?_
 have hs:(if e==2 then (5:Int) else e)=e:=by simp only[a,bt,reduceIte]
 rw[hs]
 exact⟨rfl,(ap.refl [] _)⟩
open Go.RowKit
structure WF (F:Fence) (n:Nat) (P:Program) (ops:Array Oper) (Q:Exit→Act→World→Prop) (l:List Oper) (a:Act) (w:World) : Prop where
  out:wpListIn F n P ops Q l a w
def ex (F:Fence) : Prop:=F=Fence.wide∨∃ l,F=Fence.wide.inRound l
theorem ln:ex Fence.wide:=.inl rfl
theorem kp(l:Nat) : ex (Fence.wide.inRound l):=.inr ⟨l,rfl⟩
theorem ex.fn{F:Fence}(h:ex F)(f:FuncId) : F.fn f:=by
  rcases h with rfl|⟨l,rfl⟩<;>trivial
theorem ex.depth{F:Fence}(h:ex F) : F.depth=none:=by
  rcases h with rfl|⟨l,rfl⟩<;>rfl
section
variable {F:Fence}{n:Nat}{P:Program}{Q:Exit→Act→World→Prop}{a:Act}{w:World}{K:Act→World→Prop}{ops:Array Oper}{rest:List Oper}{o:Oper}{N:Option Tmp}
theorem An{f:FuncId}{args:Array Value}{R:Ending→World→Prop}(hF:ex F)(h:Calls P f args w R) : CallsIn F n P f args w R:=by
  rcases hF with rfl|⟨l,rfl⟩
  · exact callsIn_wide.2 h
  · exact CallsIn.inRound l (callsIn_wide.2 h)
theorem BX{row:String}{args:Array Value}{R:Value→World→Prop}(hF:ex F)(h:Rows P row args w R) : RowsIn F n P row args w R:=by
  have h0:RowsIn Fence.wide n P row args w R:=fun c cs _=>let ⟨v,w',r,s⟩:=h c cs; ⟨v,w',r,stepsIn_wide.2 s⟩
  rcases hF with rfl|⟨l,rfl⟩
  · exact h0
  · exact h0
def fF:Op→Bool
  | .defer _=>false
  | _=>true
theorem DQ(hF:ex F)(hd:fF o.op=true)(h:o.wp P a w K Q) : o.wpIn F n P a w K Q:=by
  refine⟨fun f _=>hF.fn f,?_⟩
  rw[Oper.semAt_eq _ _ _ (fun c hc=>by rw[hc] at hd;cases hd)]
  unfold Oper.wp at h
  have hdep:∀ {p:Prop},F.depth.isSome=true→p:=fun h=>by rw[hF.depth] at h;cases h
  generalize (execOp a.eval o).run P w=r at h ⊢
  cases r with
  | ok x w' =>
    cases x<;>simp only[Oper.upon,Oper.uponIn] at h ⊢
    case value u=>exact h
    case skip=>exact h
    case defer d=>exact h
    case enter f args=>exact⟨hdep,An hF h⟩
    case row row args=>exact⟨hdep,BX hF h⟩
  | halt x w' =>
    cases x<;>simp only[Oper.upon,Oper.uponIn] at h ⊢
    case panic u=>exact h
theorem DJ{id:Nat}{l:List Oper}(n:Nat)(h:WF Fence.wide n P l.toArray Q l a w) : (Code.region id l.toArray false).wp P Q a w:=wpIn_wide.1 (wpIn_region_lit h.out)
theorem CZ{id:Nat}{l:List Oper}(h:WF F n P l.toArray Q l a w) : (Code.region id l.toArray false).wpIn F n P Q a w:=wpIn_region_lit h.out
theorem D5(h:Q .normal a w) : WF F n P ops Q [] a w:=⟨h⟩
theorem Ds(hF:ex F)(hd:fF o.op=true)(hw:Region.wanted o (yielded ops a.tmps)=true)(h:OW P o a w (WF F n P ops Q rest) Q) : WF F n P ops Q (o :: rest) a w:=by
  refine⟨?_⟩
  unfold wpListIn
  rw[if_pos hw]
  exact DQ hF hd (ib h fun _ _ h=>h.out)
theorem CF(hF:ex F)(hw:Region.wanted o (yielded ops a.tmps)=false)(hN:o.dst=N)(h:WF F n P ops Q rest (a.put N undef) w) : WF F n P ops Q (o :: rest) a w:=by
  subst hN
  refine⟨?_⟩
  unfold wpListIn
  rw[if_neg (by simp[hw])]
  exact⟨fun f _=>hF.fn f,h.out⟩
theorem Bc{x:Operand}{opds:Array Operand}{ts:Array TypeId}{l:Nat}{r:Loop}(args:Array Value)(hw:Region.wanted o (yielded ops a.tmps)=true)(hN:o.dst=N)(hop:o.op = .call { callee:=.value x,args:=opds,argTypes:=ts })
    (hx:a.eval x = .func (.yield l) #[] #[]) (hargs:opds.map a.eval=args) (hl:w.heap[l]? = some (.loop r)) (hs:args.size=r.params.size)
    (h:RoundIn Fence.wide (n-1) P l r.fn ((r.params.zip args).foldl (fun tmps (t,a)=>tmps.setIfInBounds t a) r.tmps) r.assign r.body w (fun e w'=>∃ v,e = .returned v∧WF Fence.wide n P ops Q rest (a.put N v) w')) : WF Fence.wide n P ops Q (o :: rest) a w:=by
  subst hN
  refine⟨?_⟩
  unfold wpListIn
  rw[if_pos hw]
  refine⟨fun f _=>trivial,?_⟩
  have hrun:(o.semAt Fence.wide.round a.eval).run P w = .ok (.round l r.fn ((r.params.zip args).foldl (fun tmps (t,a)=>tmps.setIfInBounds t a) r.tmps) r.assign r.body) w:=by
    show(execOp a.eval o).run P w=_
    unfold execOp
    simp only[hop,resolve,hx,Deferred.ofValue,Sem.run_bind,Sem.run_pure,Result.andThen_ok,invoke,hargs]
    have:=run_yield (P:=P) (args:=args) hl hs
    simpa using this
  rw[hrun,Oper.uponIn_round]
  refine⟨(by simp[Fence.wide]),h.mono fun e w' hh=>?_⟩
  obtain⟨v,rfl,h2⟩:=hh
  exact h2.out
end
theorem yX{P:Program}{n:Nat}{ops:Array Oper}{Q:Exit→Act→World→Prop}{rest:List Oper}{o:Oper}{a:Act}{w:World}{N:Option Tmp}{x:Operand}{opds:Array Operand}{ts:Array TypeId}{l:Nat}{r:Loop}(v:Value)(p:Tmp)(hw:Region.wanted o (yielded ops a.tmps)=true)(hN:o.dst=N)(hop:o.op = .call { callee:=.value x,args:=opds,argTypes:=ts })
    (hx:a.eval x = .func (.yield l) #[] #[]) (hargs:opds.map a.eval = #[v]) (hl:w.heap[l]? = some (.loop r)) (hp:r.params = #[p])
    (h:RoundIn Fence.wide (n-1) P l r.fn (r.tmps.setIfInBounds p v) r.assign r.body w (fun e w'=>∃ u,e = .returned u∧WF Fence.wide n P ops Q rest (a.put N u) w')) : WF Fence.wide n P ops Q (o :: rest) a w:=by
  refine Bc #[v] hw hN hop hx hargs hl (by rw[hp];rfl) ?_
  have:((r.params.zip #[v]).foldl (fun tmps (t,a)=>tmps.setIfInBounds t a) r.tmps)=r.tmps.setIfInBounds p v:=by rw[hp];simp
  rw[this]
  exact h
theorem gJ{w:World}{l:Nat}(o:Go.Obj) : ap [l] w (w.putObj l o) :=
  ⟨rfl,rfl,rfl,by simp[World.putObj],fun k hk hn=>World.putObj_heap_other (by simpa using hn)⟩
theorem kZ{w:World}{l:Nat}{o:Go.Obj}(o':Go.Obj)(h:w.heap[l]? = some o) : (w.putObj l o').heap[l]? = some o':=World.putObj_heap_same (ai h)
def iZ:Go.Obj→Bool
  | .cells ..=>false
  | _=>true
theorem aP.updl{α:Type}{m:Md}{e:TypeId}{sz:Nat}{R:World→α→List Value→Prop}{w w':World}{v:Value}{xs:List α}{l:Nat}{o:Go.Obj}
    (h:aP m e sz R w v xs) (hu:ap [l] w w') (hl:w.heap[l]? = some o) (ho:iZ o=true) (hR:∀ x cs,R w x cs→R w' x cs) : aP m e sz R w' v xs:=by
  obtain⟨A,c,rfl,h1,h2,h0,h3⟩:=h
  refine⟨A,c,rfl,h1,h2,h0,fun hp=>?_⟩
  obtain⟨b,off,cells,t,fr,rfl,hb,ht,hx⟩:=h3 hp
  refine⟨b,off,cells,t,fr,rfl,?_,ht,fun j x hj=>?_⟩
  · refine hu.blk (fun hbs=>?_) hb
    simp at hbs
    subst hbs
    rw[hl] at hb
    injection hb with hb
    subst hb
    cases ho
  · obtain⟨cs,hl,hr,hc⟩:=hx j x hj
    exact⟨cs,hl,hR _ _ hr,hc⟩
theorem aR.updl{m:Md}{w w':World}{v:Value}{xs:List Int}{l:Nat}{o:Go.Obj}(h:aR m w v xs)(hu:ap [l] w w')(hl:w.heap[l]? = some o)(ho:iZ o=true) : aR m w' v xs:=aP.updl h hu hl ho fun _ _ h=>h
theorem eO.updl{m:Md}{w w':World}{v:Value}{xs:List Int}{l:Nat}{o:Go.Obj}(h:eO m w v xs)(hu:ap [l] w w')(hl:w.heap[l]? = some o)(ho:iZ o=true) : eO m w' v xs:=aP.updl h hu hl ho fun _ _ h=>h
theorem bE.updl{m:Md}{w w':World}{l:Nat}{o:Go.Obj}(hu:ap [l] w w')(hl:w.heap[l]? = some o)(ho:iZ o=true)(r:dY)(cs:List Value)(h:bE m w r cs) : bE m w' r cs:=by
  obtain⟨v,h1,h2,h3⟩:=h
  exact⟨v,h1,eO.updl h2 hu hl ho,h3⟩
theorem ag.updl{w w':World}{g:Nat}{c:aA}{l:Nat}{o:Go.Obj}(h:ag w g c)(hu:ap [l] w w')(hg:g∉[l])(hl:w.heap[l]? = some o)(ho:iZ o=true) : ag w' g c:=by
  obtain⟨v,hb,hr,hn⟩:=h
  exact⟨v,hu.blk hg hb,hr.updl hu hl ho,hn⟩
theorem wC{n:Nat}{P:Program}{l:Nat}{f:FuncId}{tmps:Array Value}{assign body:Code}{w:World}{r:Loop}{R:Ending→World→Prop}
    (h:assign.wpIn (Fence.wide.inRound l) n P (Exit.then (fun a₁ w₁=>w₁.heap[l]? = some (.loop r)∧r.state = .ready∧∀ w₂,w₂.heap[l]? = some (.loop { r with state:=.busy })→ap [l] w₁ w₂ →
      body.wpIn (Fence.wide.inRound l) n P (Exit.then (fun _ w₃=>∃ r',w₃.heap[l]? = some (.loop r')∧∀ w₄,w₄.heap[l]? = some (.loop { r' with state:=.ready,pending:=none })→ap [l] w₃ w₄→R (.returned (.bool true)) w₄) (fun _ _ _=>False)) a₁ w₂) (fun _ _ _=>False)) { tmps:=tmps,defers:=[] } w) :
    RoundIn Fence.wide n P l f tmps assign body w R:=by
  refine roundIn_of_wpIn trivial (Code.wpIn_mono (fun e a w q=>?_) h)
  cases e with
  | normal =>
    obtain⟨h1,h2,h3⟩:=q
    refine⟨_,run_beginRound h1 h2,Code.wpIn_mono (fun e a w q=>?_) (h3 _ (kZ _ h1) (gJ _))⟩
    cases e with
    | normal =>
      obtain⟨r',h4,h5⟩:=q
      exact⟨_,_,run_endRound none h4,h5 _ (kZ _ h4) (gJ _)⟩
    | _=>exact q.elim
  | _=>exact q.elim
theorem lH{n:Nat}{P:Program}{l:Nat}{f:FuncId}{tmps:Array Value}{assign body:Code}{w:World}{r:Loop}{R:Ending→World→Prop}
    (hl:w.heap[l]? = some (.loop r))
    (h:assign.wpIn (Fence.wide.inRound l) n P (Exit.then (fun a₁ w₁=>w₁.heap[l]? = some (.loop r)∧r.state = .ready∧∀ w₂,w₂.heap[l]? = some (.loop { r with state:=.busy })→ap [l] w₁ w₂ →
      body.wpIn (Fence.wide.inRound l) n P (Exit.then (fun _ w₃=>∃ r',w₃.heap[l]? = some (.loop r')∧∀ w₄,w₄.heap[l]? = some (.loop { r' with state:=.ready,pending:=none })→ap [l] w₃ w₄→R (.returned (.bool true)) w₄) (fun _ _ _=>False)) a₁ w₂) (fun _ _ _=>False)) { tmps:=tmps,defers:=[] } w) :
    RoundIn Fence.wide n P l f tmps assign body w R:=wC h
theorem x4{P:Program}{Q:Exit→Act→World→Prop}{a:Act}{w:World}{g:Operand}{ps:Array Tmp}{assign body:Code}{f:FuncId}{fn:Func}(cap:Array Value)
    (hx : a.eval g = .func (.func f) #[] cap) (hf : P.funcs[f]? = some fn) (hname : (fn.name == "runtime.NumGoroutine") = false) (hb : fn.body.isSome = true)
    (h:∀ fn0 D l w₂,w.heap.size≤D→w.heap.size≤l→D≠l→w₂.heap[D]? = some (.deferred (some []))→w₂.heap[l]? = some (.loop { state:=.ready,pending:=none,fn:=fn0,tmps:=a.tmps,params:=ps,assign:=assign,body:=body,defers:=D })→ap [] w w₂ →
      Calls P f (#[.func (.yield l) #[] #[]]++cap) w₂ (fun e w₃=>∃ v r',e = .returned v∧w₃.heap[l]? = some (.loop r')∧r'.state≠.busy∧r'.pending=none∧∀ w₄,ap [l] w₃ w₄→Q .normal { a with defers:={ target:=.collected D,args:=#[] } :: a.defers } w₄)) :
    (Code.rangeFunc g ps assign body).wp P Q a w:=by
  refine(wpIn_wide (n:=9)).1 (wpIn_rangeFunc fun fn0 _=>?_)
  have h1 : fn.name ≠ "runtime.NumGoroutine" := by simpa using hname
  obtain⟨cd,hcd⟩:=Option.isSome_iff_exists.1 hb
  refine⟨w.heap.size+1,[{ target:=.collected w.heap.size,args:=#[] }],((w.alloc (.deferred (some []))).alloc (.loop { state:=.ready,pending:=none,fn:=fn0,tmps:=a.tmps,params:=ps,assign:=assign,body:=body,defers:=w.heap.size })),
    { target:=.fn (.func f) cap,args:=#[]++#[.func (.yield (w.heap.size+1)) #[] #[]] },((w.alloc (.deferred (some []))).alloc (.loop { state:=.ready,pending:=none,fn:=fn0,tmps:=a.tmps,params:=ps,assign:=assign,body:=body,defers:=w.heap.size })),
    f,#[.func (.yield (w.heap.size+1)) #[] #[]]++cap,((w.alloc (.deferred (some []))).alloc (.loop { state:=.ready,pending:=none,fn:=fn0,tmps:=a.tmps,params:=ps,assign:=assign,body:=body,defers:=w.heap.size })),run_enterLoop_outer fn0 a.tmps ps assign body,?_,fun _ _=>trivial,?_,by simp[Fence.wide],?_⟩
  · unfold resolve
    simp only[rangeCall,hx,Deferred.ofValue,Sem.run_pure,List.map_toArray,List.map_cons,List.map_nil]
    rfl
  · simp[invoke,callFunc,hf,h1,hcd]
  · have hD:((w.alloc (.deferred (some []))).alloc (.loop { state:=.ready,pending:=none,fn:=fn0,tmps:=a.tmps,params:=ps,assign:=assign,body:=body,defers:=w.heap.size })).heap[w.heap.size]? = some (.deferred (some [])):=zu (dr w _) _
    have hl:((w.alloc (.deferred (some []))).alloc (.loop { state:=.ready,pending:=none,fn:=fn0,tmps:=a.tmps,params:=ps,assign:=assign,body:=body,defers:=w.heap.size })).heap[w.heap.size+1]? = some (.loop { state:=.ready,pending:=none,fn:=fn0,tmps:=a.tmps,params:=ps,assign:=assign,body:=body,defers:=w.heap.size }):=by
      have:=dr (w.alloc (.deferred (some []))) (.loop { state:=.ready,pending:=none,fn:=fn0,tmps:=a.tmps,params:=ps,assign:=assign,body:=body,defers:=w.heap.size })
      simpa using this
    refine callsIn_wide.2 ((h fn0 w.heap.size (w.heap.size+1) _ (Nat.le_refl _) (by omega) (by omega) hD hl (((ap.refl [] w).alloc _).alloc _)).mono ?_)
    rintro e w₃ ⟨v,r',rfl,h3,h4,h5,h6⟩
    refine⟨_,_,run_endLoop h3 h4,?_⟩
    rw[h5]
    exact h6 _ (gJ _)
theorem oM{P:Program}{f:FuncId}{fn:Func}{c:Code}{args:Array Value}{w:World}{R:Ending→World→Prop}(hf:P.funcs[f]? = some fn)(hb:fn.body=some c)
    (h:c.wp P (bodyPostM Fence.wide 9 P fn R) { tmps:=args++Array.replicate (fn.ntmps-args.size) undef,defers:=[] } w) : Calls P f args w R :=
  callsIn_wide.1 (callsIn_of_wp_marks hf hb trivial (wpIn_wide.2 h) rfl)
theorem AW{P:Program}{fn:Func}{R:Ending→World→Prop}{a:Act}{w:World}{D:Nat}(hd:a.defers=[{ target:=.collected D,args:=#[] }])(hD:w.heap[D]? = some (.deferred (some [])))
    (h:∀ w',ap [D] w w'→∃ v,(results fn a.tmps).run P w' = .ok v w'∧R (.returned v) w') : bodyPostM Fence.wide 9 P fn R .ret a w:=by
  show LeavesInM Fence.wide 9 P fn a.tmps R a.defers .returning w
  rw[hd]
  exact⟨by simp,.inl ⟨D,_,rfl,run_takeDeferred hD,h _ (gJ _)⟩⟩
theorem yr{P:Program}{fn:Func}{R:Ending→World→Prop}{a:Act}{w:World}(hd:a.defers=[])(h:∃ v,(results fn a.tmps).run P w = .ok v w∧R (.returned v) w) : bodyPostM Fence.wide 9 P fn R .ret a w:=by
  show LeavesInM Fence.wide 9 P fn a.tmps R a.defers .returning w
  rw[hd]
  exact h
open Go.RowKit
structure GF (E:Fence) (m:Nat) (P:Program) (ops:Array Oper) (Q:Exit→Act→World→Prop) (l:List Oper) (n:Nat) (D:List Deferred) (F:Fr) (w:World) : Prop where
  out:∀ a,Ag n D F a→WF E m P ops Q l a w
structure GI (E:Fence) (m:Nat) (P:Program) (c:Code) (Q:Exit→Act→World→Prop) (n:Nat) (D:List Deferred) (F:Fr) (w:World) : Prop where
  out:∀ a,Ag n D F a→c.wpIn E m P Q a w
section
variable {E:Fence}{m:Nat}{P:Program}{Q:Exit→Act→World→Prop}{n:Nat}{D:List Deferred}{F:Fr}{w:World}{ops:Array Oper}{rest l:List Oper}{d:Option Tmp}{op:Op}{t:TypeId}{s:String}{af:Array Edge}{gu:Option (Nat × Bool)}{x y c:Code}{id:Nat}
theorem CK(m:Nat)(h:GF Fence.wide m P l.toArray Q l n D F w) : GC P (.region id l.toArray false) Q n D F w:=⟨fun a ha=>DJ m (h.out a ha)⟩
theorem BA(h:GF E m P l.toArray Q l n D F w) : GI E m P (.region id l.toArray false) Q n D F w:=⟨fun a ha=>CZ (h.out a ha)⟩
theorem D6(h:GI E m P c (Exit.inBlock id Q) n D F w) : GI E m P (.block id c) Q n D F w:=⟨fun a ha=>wpIn_block (h.out a ha)⟩
theorem vm(h:GQ Q .normal n D F w) : GF E m P ops Q [] n D F w:=⟨fun a ha=>D5 (h.out a ha)⟩
theorem Dx(hE:ex E)(h:OG P ⟨d,op,t,s,af,gu⟩ n D F w (GF E m P ops Q rest n D) Q)(hw:lh ops F gu=(true,true))(hd:fF op=true) : GF E m P ops Q (⟨d,op,t,s,af,gu⟩ :: rest) n D F w :=
  ⟨fun a ha=>Ds hE hd (fb ha hw) (h.out a ha _ fun F' w' a' k ha'=>k.out a' ha')⟩
theorem Dq(hE:ex E){o:Oper}(h:GF E m P ops Q rest n D (s5 P ops w F o) w)(hc:rW P ops w n 1 (o :: rest) F=rO P ops w 1 (o :: rest) F)(hd:fF o.op=true) : GF E m P ops Q (o :: rest) n D F w:=by
  simp only[rW,rO,List.cons.injEq,Prod.mk.injEq,Bool.and_eq_true] at hc
  obtain⟨⟨⟨h1,h2,h3⟩,h4⟩,h5⟩:=hc
  refine⟨fun a ha=>?_⟩
  cases hon:(lh ops F o.guard).2 with
  | true =>
    rw[hon] at h3 h4
    simp only[cond_true] at h3 h4
    have hst:s5 P ops w F o=pt o.dst (vo P w F o) F:=by simp[s5,hon]
    rw[hst] at h
    exact Ds hE hd (fb ha (Prod.ext h1 hon)) (f9 (N:=o.dst) (vo P w F o) rfl (by rw[← ik ha h3];exact h4) (h.out _ (ha.put h2)))
  | false =>
    have hst:s5 P ops w F o=pt o.dst undef F:=by simp[s5,hon]
    rw[hst] at h
    exact CF (N:=o.dst) hE (fb ha (Prod.ext h1 hon)) rfl (h.out _ (ha.put h2))
theorem F0(h:OG P ⟨d,op,t,s,af,gu⟩ n D F w (GF Fence.wide m P ops Q rest n D) Q)(hw:lh ops F gu=(true,true):=by kernel_rfl)(hd:fF op=true:=by kernel_rfl) : GF Fence.wide m P ops Q (⟨d,op,t,s,af,gu⟩ :: rest) n D F w:=Dx ln h hw hd
theorem mn{q:Nat}(h:OG P ⟨d,op,t,s,af,gu⟩ n D F w (GF (Fence.wide.inRound q) m P ops Q rest n D) Q)(hw:lh ops F gu=(true,true):=by kernel_rfl)(hd:fF op=true:=by kernel_rfl) : GF (Fence.wide.inRound q) m P ops Q (⟨d,op,t,s,af,gu⟩ :: rest) n D F w:=Dx (kp _) h hw hd
theorem Fp{o:Oper}(h:GF Fence.wide m P ops Q rest n D (s5 P ops w F o) w)(hc:rW P ops w n 1 (o :: rest) F=rO P ops w 1 (o :: rest) F:=by kernel_rfl)(hd:fF o.op=true:=by kernel_rfl) : GF Fence.wide m P ops Q (o :: rest) n D F w:=Dq ln h hc hd
theorem Bz{q:Nat}{o:Oper}(h:GF (Fence.wide.inRound q) m P ops Q rest n D (s5 P ops w F o) w)(hc:rW P ops w n 1 (o :: rest) F=rO P ops w 1 (o :: rest) F:=by kernel_rfl)(hd:fF o.op=true:=by kernel_rfl) : GF (Fence.wide.inRound q) m P ops Q (o :: rest) n D F w:=Dq (kp _) h hc hd
theorem D9(j:Nat)(e:Bool)(ht:e=true→GF E m P ops Q l n D ((j,.bool true) :: F) w)(hf:e=false→GF E m P ops Q l n D ((j,.bool false) :: F) w)(hv:lk F j=some (.bool e):=by kernel_rfl) : GF E m P ops Q l n D F w:=by
  refine⟨fun a ha=>?_⟩
  have key:∀ b,e=b→Ag n D ((j,.bool b) :: F) a:=fun b hb=>⟨ha.sz,ha.df,fun i v hi=>by
    rcases gC hi with⟨rfl,rfl⟩|⟨_,h2⟩
    · rw[← hb];exact ha.at_ _ _ hv
    · exact ha.at_ _ _ h2⟩
  rcases gw e with q|q
  · exact(ht q).out a (key _ q)
  · exact(hf q).out a (key _ q)
theorem Fy{x:Operand}{opds:Array Operand}{ts:Array TypeId}{q:Nat}{r:Loop}(v:Value)(p:Tmp)(hl:w.heap[q]? = some (.loop r))(hp:r.params = #[p])
    (h:RoundIn Fence.wide (m-1) P q r.fn (r.tmps.setIfInBounds p v) r.assign r.body w (fun e w'=>∃ u,e = .returned u∧GF Fence.wide m P ops Q rest n D (pt d u F) w'))
    (hw:lh ops F gu=(true,true):=by kernel_rfl) (hx:dM F x=some (.func (.yield q) #[] #[]):=by kernel_rfl) (ha:opds.toList.map (dM F)=[some v]:=by kernel_rfl) (hd:ey n d=true:=by kernel_rfl) :
    GF Fence.wide m P ops Q (⟨d,.call { callee:=.value x,args:=opds,argTypes:=ts },t,s,af,gu⟩ :: rest) n D F w :=
  ⟨fun a hag=>yX v p (fb hag hw) rfl rfl (hag.ev hx) (by apply Array.toList_inj.1;rw[Array.toList_map];exact kM (vs:=[v]) hag ha) hl hp (h.mono fun e w' hh=>by
    obtain⟨u,rfl,hk⟩:=hh
    exact⟨u,rfl,hk.out _ (hag.put hd)⟩)⟩
theorem rp{g:Operand}{ps:Array Tmp}{assign body:Code}{f:FuncId}(cap:Array Value)
    (h:∀ a,Ag n D F a→∀ fn0 D' q w₂,w.heap.size≤D'→w.heap.size≤q→D'≠q→w₂.heap[D']? = some (.deferred (some []))→w₂.heap[q]? = some (.loop { state:=.ready,pending:=none,fn:=fn0,tmps:=a.tmps,params:=ps,assign:=assign,body:=body,defers:=D' })→ap [] w w₂ →
      Calls P f (#[.func (.yield q) #[] #[]]++cap) w₂ (fun e w₃=>∃ v r',e = .returned v∧w₃.heap[q]? = some (.loop r')∧r'.state≠.busy∧r'.pending=none∧∀ w₄,ap [q] w₃ w₄→GQ Q .normal n ({ target:=.collected D',args:=#[] } :: D) F w₄))
    (hx:dM F g=some (.func (.func f) #[] cap):=by kernel_rfl) (hf:AX P f=some (false,true):=by kernel_rfl) : GC P (.rangeFunc g ps assign body) Q n D F w:=by
  obtain⟨fn,h1,h2,h3⟩:=ja hf
  refine⟨fun a ha=>x4 cap (ha.ev hx) h1 h2 h3 fun fn0 D' q w₂ g1 g2 g3 g4 g5 g6=>(h a ha fn0 D' q w₂ g1 g2 g3 g4 g5 g6).mono fun e w₃ hh=>?_⟩
  obtain⟨v,r',k1,k2,k3,k4,k5⟩:=hh
  exact⟨v,r',k1,k2,k3,k4,fun w₄ hu=>(k5 w₄ hu).out _ ⟨ha.sz,by rw[ha.df],ha.at_⟩⟩
theorem D8{a:Act}(ha:Ag n D F a)(p:Tmp){v:Value}(h:GI E m P c Q n [] ((p,v) :: F) w)(hp:Nat.blt p n=true:=by kernel_rfl) : c.wpIn E m P Q { tmps:=a.tmps.setIfInBounds p v,defers:=[] } w:=by
  have h0:Ag n [] F { tmps:=a.tmps,defers:=[] }:=⟨ha.sz,rfl,ha.at_⟩
  exact h.out _ (h0.put (d:=some p) hp)
theorem CX{r:Loop}{q:Nat}{c:Code}{Qb:Exit→Act→World→Prop}(h1:w.heap[q]? = some (.loop r))(h2:r.state = .ready)(h:∀ w₂,w₂.heap[q]? = some (.loop { r with state:=.busy })→ap [q] w w₂→GI E m P c Qb n D F w₂) :
    GQ (Exit.then (fun a₁ w₁=>w₁.heap[q]? = some (.loop r)∧r.state = .ready∧∀ w₂,w₂.heap[q]? = some (.loop { r with state:=.busy })→ap [q] w₁ w₂→c.wpIn E m P Qb a₁ w₂) Q) .normal n D F w:=⟨fun a ha=>⟨h1,h2,fun w₂ k1 k2=>(h w₂ k1 k2).out a ha⟩⟩
theorem CM{r:Loop}{q:Nat}{Z:World→Prop}(h1:w.heap[q]? = some (.loop r))(h:∀ w₄,w₄.heap[q]? = some (.loop { r with state:=.ready,pending:=none })→ap [q] w w₄→Z w₄) :
    GQ (Exit.then (fun _ w₃=>∃ r',w₃.heap[q]? = some (.loop r')∧∀ w₄,w₄.heap[q]? = some (.loop { r' with state:=.ready,pending:=none })→ap [q] w₃ w₄→Z w₄) Q) .normal n D F w:=⟨fun a ha=>⟨r,h1,h⟩⟩
end
section
variable {P:Program}{n:Nat}{F:Fr}{w:World}{fn:Func}{R:Ending→World→Prop}
theorem Bt{f:FuncId}{c:Code}{args:List Value}{w:World}(n:Nat)(hf:P.funcs[f]? = some fn)(hb:fn.body=some c)
    (h:GC P c (bodyPostM Fence.wide 9 P fn R) n [] (vN 0 args) w) (hn:args.length+(fn.ntmps-args.length)=n:=by kernel_rfl) : Calls P f args.toArray w R:=by
  subst hn
  exact oM hf hb (by simpa using h.out _ (DB (args:=args) (m:=fn.ntmps-args.length)))
theorem Bw{D:Nat}(hD:w.heap[D]? = some (.deferred (some [])))(h:∀ w',ap [D] w w'→GQ (fun _ a w'=>∃ v,(results fn a.tmps).run P w' = .ok v w'∧R (.returned v) w') .ret n [{ target:=.collected D,args:=#[] }] F w') : GQ (bodyPostM Fence.wide 9 P fn R) .ret n [{ target:=.collected D,args:=#[] }] F w :=
  ⟨fun a ha=>AW ha.df hD fun w' hu=>(h w' hu).out a ha⟩
theorem rx{D:List Deferred}{g:Nat}{cs:Array Value}{t:TypeId}{fr:Nat × Nat}(B:w.heap[g]? = some (.cells cs t fr))(u:Value)(h:R (.returned (.tuple #[.agg cs,u])) w)(hc:Bv P fn.results F=some (some (.pointer (some ⟨g,0,none⟩)),some u,some true,some cs.size):=by kernel_rfl) : GQ (fun _ a w'=>∃ v,(results fn a.tmps).run P w' = .ok v w'∧R (.returned v) w') .ret n D F w :=
  ⟨fun a ha=>⟨_,kO ha B rfl hc,h⟩⟩
theorem ry{g:Nat}{cs:Array Value}{t:TypeId}{fr:Nat × Nat}(B:w.heap[g]? = some (.cells cs t fr))(u:Value)(h:R (.returned (.tuple #[.agg cs,u])) w)(hc:Bv P fn.results F=some (some (.pointer (some ⟨g,0,none⟩)),some u,some true,some cs.size):=by kernel_rfl) : GQ (bodyPostM Fence.wide 9 P fn R) .ret n [] F w :=
  ⟨fun a ha=>yr ha.df ⟨_,kO ha B rfl hc,h⟩⟩
end
open Go.RowKit
def B7 (mk:Nat→Value)(w:World)(e:Ending)(w':World) : Prop:=∃ gs,e = .returned (.tuple #[mk gs,.bool true])∧w.heap.size≤gs∧w'.heap[gs]? = some (.cells #[.int .i64 0] 3 (0,0))∧ap [] w w'
def Dm (gs:Nat) : Value:=.agg #[.func (.func 215) #[] #[],.func (.func 213) #[] #[.pointer (some ⟨gs,0,none⟩)]]
def Da (gs:Nat) : Value:=.agg #[.func (.func 216) #[] #[],.func (.func 217) #[] #[]]
def CS (gs:Nat) : Value:=.agg #[.func (.func 218) #[] #[],.func (.func 219) #[] #[]]
theorem yt{w:World}:Calls Tryz.prog 153 #[vI 0,vB 20] w (B7 Dm w):=by
 refine en 27 Tryz.func153 rfl<|sg<|aL #[.nilFunc,.nilFunc] fun m n g b c=>Pl 1<|ng<|aL #[vI 0] fun d o a h i=>L0<|cv h 0 #[vI 0] fun p j k=>nt<|sq<|go<|al 2<|sq<|bk<|ay 7<|c1<|au 2<|?_
 have e:=ud i k a
 refine aI (ub e b) #[.func (.func 215) #[] #[],.func (.func 213) #[] #[vP d 0]] fun q l f=>al 1<|rt<|br<|tr<|dZ l (.bool true)<|?_
 exact⟨d,rfl,(Nat.le_trans c.size a),(b7 f (Ne.symm (nb (ai b) lr a)) j),(ud c (uz e f) g)⟩
theorem yS{w:World}:Calls Tryz.prog 153 #[vI 1,vB 20] w (B7 Da w):=by
 refine en 27 Tryz.func153 rfl<|sg<|aL #[.nilFunc,.nilFunc] fun m n f b c=>Pl 1<|ng<|aL #[vI 0] fun g o a h i=>L0<|cv h 0 #[vI 0] fun p j k=>nt<|sq<|go<|al 2<|sq<|bk<|ay 7<|c0<|ay 3<|c1<|au 1<|?_
 have d:=ud i k a
 refine aI (ub d b) #[.func (.func 216) #[] #[],.func (.func 217) #[] #[]] fun q l e=>al 1<|rt<|br<|tr<|dZ l (.bool true)<|?_
 exact⟨g,rfl,(Nat.le_trans c.size a),(b7 e (Ne.symm (nb (ai b) lr a)) j),(ud c (uz d e) f)⟩
theorem zE{dir:Int}{w:World}:Calls Tryz.prog 153 #[vI dir,vB 21] w (B7 CS w):=by
 refine en 27 Tryz.func153 rfl<|sg<|aL #[.nilFunc,.nilFunc] fun m n f b c=>Pl 1<|ng<|aL #[vI 0] fun g o a h i=>L0<|cv h 0 #[vI 0] fun p j k=>nt<|sq<|go<|al 2<|sq<|bk<|ay 7<|c0<|ay 3<|c0<|ay 3<|c1<|au 1<|?_
 have d:=ud i k a
 refine aI (ub d b) #[.func (.func 218) #[] #[],.func (.func 219) #[] #[]] fun q l e=>al 1<|rt<|br<|tr<|dZ l (.bool true)<|?_
 exact⟨g,rfl,(Nat.le_trans c.size a),(b7 e (Ne.symm (nb (ai b) lr a)) j),(ud c (uz d e) f)⟩
theorem oG{dir x:Int}{w:World}(n1:(x==20)=false)(n2:(x==21)=false) : Calls Tryz.prog 153 #[vI dir,vB x] w (bH (.tuple #[.agg #[.nilFunc,.nilFunc],.bool false]) w):=by
 refine en 27 Tryz.func153 rfl<|sg<|aL #[.nilFunc,.nilFunc] fun k l b c d=>Pl 1<|ng<|aL #[vI 0] fun m n e f g=>L0<|cv f 0 #[vI 0] fun o p h=>nt<|sq<|go<|al 2<|sq<|bk<|au 3<|sy 12 n1<|al 4<|c0<|ay 3<|cf n1<|ay 3<|cf n2<|sk<|bn<|tn<|au 1<|?_
 have a:=ud g h e
 refine aI (ub a c) #[.nilFunc,.nilFunc] fun q i j=>al 1<|rt<|dZ i (.bool false)<|?_
 exact⟨rfl,(ud d (uz a j) b)⟩
theorem l6{gb:Nat}{f:Fn}{x y:Array Value}{w:World}:Calls Tryz.prog 157 #[vP gb 0,.func f x y] w (fun e w'=>∃ b1 b2,e = .returned (.func (.func 220) #[] #[vP b1 0,vP b2 0])∧w.heap.size≤b1∧w.heap.size≤b2∧b1≠b2 ∧
      w'.heap[b1]? = some (.cells #[vP gb 0] 164 (0,0))∧w'.heap[b2]? = some (.cells #[.func f x y] 178 (0,0))∧ap [] w w'):=by
 refine en 6 Tryz.func157 rfl<|sg<|L0<|cU #[vP gb 0] fun a k i b c=>L0<|cU #[.func f x y] fun d l g j h=>Pl 1<|dl 2<|rt<|rr (.func (.func 220) #[] #[vP a 0,vP d 0])<|?_
 exact⟨a,d,rfl,i,(Nat.le_trans c.size g),(nb (ai b) lr g),(ub h b),j,(aH c h)⟩
theorem uE{g gs:Nat}{s:Int}{C:aA}{w:World}(hC:ag w g C)(hS:w.heap[gs]? = some (.cells #[vI s] 3 (0,0)))(hne:g≠gs)(hs:0≤s∧s≤1000000000000) :
    Calls Tryz.prog 213 #[vP g 0,vP gs 0] w (fun e w'=>∃ A c,e = .returned (.agg #[vW (bp C).file,vW (bp C).record,vW (bp C).count,.slice A (bp C).words.length c])∧eO (.hi w.heap.size) w' (.slice A (bp C).words.length c) (bp C).words∧eo (bp C).file∧eo (bp C).record∧eo (bp C).count∧ag w' g (fj s C)∧w'.heap[gs]? = some (.cells #[vI (iP s C)] 3 (0,0))∧ap [g,gs] w w'):=by
 refine en 19 Tryz.func213 rfl<|sg<|aL #[vW 0,vW 0,vW 0,nS] fun T U d j a=>aS 1<|?_
 refine aF<|Az (oC (ag.old hC a)) fun k l V I J K L m f=>?_
 obtain⟨W,X⟩:=J
 obtain⟨Y,Z⟩:=K
 obtain⟨a0,a1⟩:=L
 refine aL #[vW 0,vW 0,vW 0,nS] fun a2 a3 h M N=>aI M #[vW ((bp C).file),vW ((bp C).record),vW ((bp C).count),.slice k ((bp C).words.length) l] fun a4 n O=>ng<|?_
 have o:=ud N O h
 have p:=aH f o
 have r:=b7 (uz a p) (Ne.symm hne) hS
 refine ax r 0<|Pl 1<|ax n 2<|bA ((bp C).count)<|bA (2*((bp C).count))<|bA (2+(2*((bp C).count)))<|bA (s+(2+(2*((bp C).count))))<|L0<|cv r 0 #[vI (s+(2+(2*((bp C).count))))] fun a5 t u=>aS 1<|ax t 0<|Pl 1<|?_
 have v:=uz o u
 have b:=uz a f
 have y:=b7 b (Ne.symm hne) hS
 refine aF<|m2 (aU ((decide ((s+(2+(2*((bp C).count))))≤245))) 5 (ag.upd m v (aa hne az) (ak (aW y (by decide)) aK))) fun a6 P z=>?_
 refine ab P fun x47 Q R=>?_
 refine ng<|?_
 have B:=us u z
 refine L0<|cH (ap.blk B (aa (Ne.symm (nb (ai hS) b.size h)) (aa (Ne.symm (nb (ag.lt hC) b.size h)) az)) n)<|?_
 have i:=nb (ag.lt hC) lr d
 have D:=nb (ai hS) lr d
 have E:=ap.blk (ui p B) (aa (Ne.symm D) (aa (Ne.symm i) az)) j
 refine aI E #[vW ((bp C).file),vW ((bp C).record),vW ((bp C).count),.slice k ((bp C).words.length) l] fun a7 S F=>qQ<|Bx S<|?_
 subst Q
 have G:=us z F
 have H:=us v G
 exact⟨_,_,rfl,(aP.hi_le (eO.upd' I H (ak (aW y (by decide)) (ak (ag.safe m _ (by decide)) (ak (aW (b7 f (Ne.symm i) j) (by decide)) aK)))) a.size fun _ _ q=>q),co (x:=(bp C).file) (by omega),co (x:=(bp C).record) (by omega),co (x:=(bp C).count) (by omega),(ag.upd R F (aa i az) (ak (aW E (by decide)) aK)),(ap.blk G (aa (Ne.symm hne) (aa D az)) t),(ut (ap.mono (S':=[g,gs]) b (ac im aB)) H (ac im (ac im (ac (nr d) aB))))⟩
def fN (c:Int)(v:Value) : Array Value:=#[.int .u8 c,.int .u8 0,.int .u16 0,.int .u16 0,.int .u16 0,.int .u16 0,.int .u16 0,.int .u16 0,.int .u16 0,.int .u16 0,.int .u16 0,.int .u16 0,gZ,gZ,gZ,v,.int .u8 0,.int .u8 0,.int .u8 0,.int .u8 0,.int .u8 0,gZ]
structure JR (w0:World) (gb gs gm l:Nat) (c:Int) (r:Loop) (C:aA) (s:Int) (L:List dY) (A:Option Addr) (cp:Nat) (W:World) : Prop where
  u:ap [gb,gs,gm,l] w0 W
  hC:ag W gb C
  hS:W.heap[gs]? = some (.cells #[.int .i64 s] 3 (0,0))
  hm:W.heap[gm]? = some (.cells (fN c (.slice A L.length cp)) 45 (0,0))
  ho:aJ w0.heap.size 98 4 (bE (.hi w0.heap.size)) W (.slice A L.length cp) L
  hl:W.heap[l]? = some (.loop r)
def eG (s:Int)(C:aA) : Int × aA × dY:=(iP s C,fj s C,bp C)
def da (s:Int)(C:aA) : Int × aA × dY:=(s,hZ C,gS C)
def eS (s:Int)(C:aA) : Int × aA × dY:=(s,m6 C,kE C)
def bq (one:Int→aA→Int × aA × dY) : Nat→Int→aA→List dY→aA × List dY
  | 0,_,C,L=>(C,L)
  | n+1,s,C,L =>
    if decide (0<(C.l.length:Int))&&C.e==0 then
      (if (one s C).2.1.e != 0 then ((one s C).2.1,L) else bq one n (one s C).1 (one s C).2.1 (L++[(one s C).2.2]))
    else (C,L)
theorem iH(C:aA)(n:Int) : (C.bytesC n).l.length≤C.l.length:=by
  unfold aA.bytesC
  split
  · unfold aA.need
    split<;>simp
  · simp
theorem lF(C:aA)(h:0<C.l.length) : (C.bytesC 1).l.length<C.l.length:=by
  unfold aA.bytesC
  split
  · unfold aA.need
    split<;>simpa using h
  · simp
    omega
theorem ed(C:aA)(b:Bool)(e:Int) : (C.need b e).l.length=C.l.length:=by
  unfold aA.need
  split<;>rfl
theorem eA(C:aA)(n:Int) : (C.wordsC n).l.length≤C.l.length:=by
  unfold aA.wordsC
  split<;>exact iH ..
theorem pA(C:aA)(h:0<C.l.length) : (gh C).l.length<C.l.length:=by
  have h1:(s6 C).l.length<C.l.length:=by unfold s6;rw[ed];exact lF C h
  have h2:(oo C).l.length≤(s6 C).l.length:=by unfold oo;rw[ed];exact eA ..
  have h3:(qy C).l.length≤(oo C).l.length:=by unfold qy;rw[ed];exact eA ..
  have h4:(gh C).l.length≤(qy C).l.length:=by unfold gh;rw[ed];exact eA ..
  omega
theorem nI(s:Int)(C:aA)(h:0<C.l.length) : (eG s C).2.1.l.length<C.l.length:=by
  show(fj s C).l.length<_
  unfold fj
  rw[ed]
  exact pA C h
theorem lG(s:Int)(C:aA)(h:0<C.l.length) : (da s C).2.1.l.length<C.l.length:=by
  show(hZ C).l.length<_
  have h1:(ka C).l.length<C.l.length:=by unfold ka;rw[ed];exact lF C h
  have h2:(fA C).l.length≤(ka C).l.length:=by unfold fA;rw[ed];exact iH ..
  have h3:(hZ C).l.length≤(fA C).l.length:=by unfold hZ;exact eA ..
  omega
theorem nC(s:Int)(C:aA)(h:0<C.l.length) : (eS s C).2.1.l.length<C.l.length:=by
  show(m6 C).l.length<_
  have h1:=pA C h
  have h2:(rE C).l.length=(gh C).l.length:=by unfold rE;rw[ed]
  have h3:(m6 C).l.length≤(rE C).l.length:=by unfold m6;exact eA ..
  omega
theorem iV(one:Int→aA→Int × aA × dY)(n:Nat)(s:Int)(C:aA)(L:List dY)(h:(decide (0<(C.l.length:Int))&&C.e==0)=false) : bq one n s C L=(C,L):=by
  cases n with
  | zero=>rfl
  | succ n=>simp only[bq,h,Bool.false_eq_true,if_false]
open Go.RowKit
def dE (fn0:FuncId)(tm:Array Value)(asg bdy:Code)(D:Nat) : Loop:={ state:=.ready,pending:=none,fn:=fn0,tmps:=tm,params:=#[53],assign:=asg,body:=bdy,defers:=D }
def rK (w:World)(gb gs gm l:Nat)(c:Int)(R:Loop) : Prop:=∀ (W:World)(C:aA)(s:Int)(L:List dY)(A:Option Addr)(cp:Nat)(x:dY)(Ax:Option Addr)(cx:Nat),JR w gb gs gm l c R C s L A cp W→eO (.hi w.heap.size) W (.slice Ax x.words.length cx) x.words→eo x.file→eo x.record→eo x.count→L.length≤1048576 →
    RoundIn Fence.wide 8 Tryz.prog l R.fn (R.tmps.setIfInBounds 53 (.agg #[.int .u16 x.file,.int .u16 x.record,.int .u16 x.count,.slice Ax x.words.length cx])) R.assign R.body W (fun e W'=>e = .returned (.bool true)∧W.heap.size≤W'.heap.size∧∃ A2 c2,JR w gb gs gm l c R C s (L++[x]) A2 c2 W')
theorem Ap{w:World}{gb gs gm l b1 b2 fn0 D:Nat}{tm:Array Value}{asg bdy:Code}{c:Int}{C0:aA}(hC:ag w gb C0)(hS:w.heap[gs]? = some (.cells #[vI 0] 3 (0,0)))(hm:w.heap[gm]? = some (.cells (fN c gZ) 45 (0,0)))
    (hl:w.heap[l]? = some (.loop (dE fn0 tm asg bdy D))) (hb1:w.heap[b1]? = some (.cells #[vP gb 0] 164 (0,0))) (hb2:w.heap[b2]? = some (.cells #[.func (.func 213) #[] #[vP gs 0]] 178 (0,0)))
    (n1:gb≠gs) (n2:gb≠gm) (n3:gb≠l) (n4:gs≠gm) (n5:gs≠l) (n6:gm≠l) (m1:b1≠gb) (m2:b1≠gs) (m3:b1≠gm) (m4:b1≠l) (k1:b2≠gb) (k2:b2≠gs) (k3:b2≠gm) (k4:b2≠l) (hround:rK w gb gs gm l c (dE fn0 tm asg bdy D)) :
    Calls Tryz.prog 220 #[.func (.yield l) #[] #[],vP b1 0,vP b2 0] w (fun e W=>e = .returned (.tuple #[])∧∃ s A cp,JR w gb gs gm l c (dE fn0 tm asg bdy D) (bq eG C0.l.length 0 C0 []).1 s (bq eG C0.l.length 0 C0 []).2 A cp W):=by
 have hlen:=hC.len
 refine en 25 Tryz.func220 rfl<|bk<|?_
 refine js (fun x=>[(0,.func (.yield l) #[] #[]),(1,vP b1 0),(2,vP b2 0)]) (fun(x:Nat × aA × Int × List dY × Option Addr × Nat) w'=>ap [gb,gs,gm,l] w w'∧ag w' gb x.2.1∧w'.heap[gs]? = some (.cells #[vI x.2.2.1] 3 (0,0))∧w'.heap[gm]? = some (.cells (fN c (.slice x.2.2.2.2.1 x.2.2.2.1.length x.2.2.2.2.2)) 45 (0,0))∧w'.heap[l]? = some (.loop (dE fn0 tm asg bdy D))∧aJ w.heap.size 98 4 (bE (.hi w.heap.size)) w' (.slice x.2.2.2.2.1 x.2.2.2.1.length x.2.2.2.2.2) x.2.2.2.1∧(bq eG x.1 x.2.2.1 x.2.1 x.2.2.2.1=bq eG C0.l.length 0 C0 [])∧(x.2.1.l.length≤x.1)∧(0≤x.2.2.1∧x.2.2.1≤131074*(x.2.2.2.1.length:Int))∧(x.2.2.2.1.length+x.1≤C0.l.length)) (fun x=>x.1) (C0.l.length,C0,0,[],none,0) ⟨ap.refl _ _,hC,hS,hm,hl,aJ.nil ..,rfl,(Nat.le_refl _),(by(try dsimp only);omega),(by(try dsimp only);(try simp only[List.length_nil]);omega)⟩ ?_
 rintro⟨n,C,s,L,A,cp⟩ h ⟨i,I,J,M,N,O,P,Q,R,S⟩
 refine ip [(0,.func (.yield l) #[] #[]),(1,vP b1 0),(2,vP b2 0)] ?_
 have b:ag h gb C:=I
 have m:h.heap[gs]? = some (.cells #[vI s] 3 (0,0)):=J
 have t:h.heap[gm]? = some (.cells (fN c (.slice A L.length cp)) 45 (0,0)):=M
 have v:h.heap[l]? = some (.loop (dE fn0 tm asg bdy D)):=N
 have d:aJ w.heap.size 98 4 (bE (.hi w.heap.size)) h (.slice A L.length cp) L:=O
 have ae:bq eG n s C L=bq eG C0.l.length 0 C0 []:=P
 have af:C.l.length≤n:=Q
 have ah:0≤s∧s≤131074*(L.length:Int):=R
 have al:L.length+n≤C0.l.length:=S
 have hrec:bq eG n s C L=bq eG C0.l.length 0 C0 []:=by assumption
 refine sq<|sg<|?_
 have o:=ap.blk i (aa m1 (aa m2 (aa m3 (aa m4 az)))) hb1
 refine ax o 0<|aF<|mq (dK b)<|?_
 have am:=ag.len b
 refine Pl 2<|gy 4 [8] 12 8 (decide (0<(C.l.length:Int))) (C.e==0) (fun K T U=>?_) ?_
 have an:=of_decide_eq_true U
 refine L1<|ii o 0<|L1<|Oc<|mq (ci b)<|?_
 have ao:=ag.len b
 exact Pl 2<|ce T _ rfl
 refine nt<|cb (((decide (0<(C.l.length:Int)))&&(C.e==0))) (fun f=>?_) (fun f=>?_)
 have y:=(bK f).1
 have z:=(bK f).2
 have aq:=of_decide_eq_true y
 have ar:=aC z
 refine bU<|bk<|sg<|?_
 refine ax (ap.blk i (aa k1 (aa k2 (aa k3 (aa k4 az)))) hb2) 0<|ax o 0<|L0<|fy #[] #[vP gs 0] (args:=#[vP gb 0,vP gs 0])<|DO (uE (s:=s) b m n1 (by omega)) fun B E au V X Y Z a0 F a1=>?_
 have av:iP s C=s+(2+2*(bp C).count):=rfl
 obtain⟨aw,ay⟩:=X
 obtain⟨aE,aG⟩:=Y
 obtain⟨aM,aO⟩:=Z
 refine aL #[vW 0,vW 0,vW 0,nS] fun aQ aR a2 a3 a4=>aI a3 #[vW ((bp C).file),vW ((bp C).record),vW ((bp C).count),.slice B ((bp C).words.length) E] fun a5 a6 a7=>nt<|sq<|CK 9<|?_
 have j:=ud a4 a7 a2
 have a:=aH a1 j
 refine F0<|ii (ap.blk a (aa m1 (aa m2 az)) o) 0<|?_
 have p:=ag.old a0 j
 refine F0<|Oc<|mq (ci p)<|?_
 have aS:=ag.len p
 refine Fp<|Fp<|?_
 have G:=ut i a (ac im (ac im aB))
 refine D9 19 ((((fj s C).e)!=0)) (fun k=>?_) (fun k=>?_)
 have a8:=aN k
 refine Fp<|Fp<|Fp<|Fp<|Fp<|vm<|tn<|c1<|rt<|br<|tr<|br<|rr (.tuple #[])<|?_
 have hfin:bq eG C0.l.length 0 C0 []=((fj s C),L):=by
   rw[← hrec]
   rw[show n=(n-1)+1 from by omega]
   simp only[bq,eG,f,y,z,k,bt,reduceIte]
 refine⟨rfl,(iP s C),A,cp,?_⟩
 rw[hfin]
 exact⟨G,p,(ub j F),(ap.blk a (aa (Ne.symm n2) (aa (Ne.symm n4) az)) t),(aj d a (fun x hx=>(aa (fun e=>(aD (ag.lt hC) lr d) (e▸hx)) (aa (fun e=>(aD (ai hS) lr d) (e▸hx)) az))) (bE.upd16 a (ak (ag.safe b _ (by decide)) (ak (aW m (by decide)) aK)))),(ap.blk a (aa (Ne.symm n3) (aa (Ne.symm n5) az)) v)⟩
 have a8:=aV k
 refine Fp<|F0<|cH a6<|?_
 have H:=ap.blk a (aa (Ne.symm n3) (aa (Ne.symm n5) az)) v
 have a9:JR w gb gs gm l c (dE fn0 tm asg bdy D) (fj s C) (iP s C) L A cp a5:=⟨G,p,(ub j F),(ap.blk a (aa (Ne.symm n2) (aa (Ne.symm n4) az)) t),(aj d a (fun x hx=>(aa (fun e=>(aD (ag.lt hC) lr d) (e▸hx)) (aa (fun e=>(aD (ai hS) lr d) (e▸hx)) az))) (bE.upd16 a (ak (ag.safe b _ (by decide)) (ak (aW m (by decide)) aK)))),H⟩
 refine Fy (r:=dE fn0 tm asg bdy D) (.agg #[vW ((bp C).file),vW ((bp C).record),vW ((bp C).count),.slice B ((bp C).words.length) E]) 53 H rfl<|?_
 refine RoundIn.mono (hround _ _ _ _ _ _ (bp C) _ _ a9 (aP.hi_le (eO.upd' V j aK) i.size fun _ _ q=>q) (co (by omega)) (co (by omega)) (co (by omega)) (by omega)) ?_
 rintro _ aT ⟨rfl,aU,ab,ad,g⟩
 refine⟨_,rfl,?_⟩
 exact Fp<|Fp<|vm<|tn<|c0<|sk<|bn<|fM ((n-1),(fj s C),(iP s C),(L++[(bp C)]),ab,ad) ⟨g.u,g.hC,g.hS,g.hm,g.hl,g.ho,(by(try dsimp only);rw[← hrec,show n=(n-1)+1 from by omega];simp only[bq,eG,f,y,z,k,bt,Nat.add_sub_cancel,reduceIte]),(by(try dsimp only);have hd:=nI s C (by omega);have oo:(eG s C).2.1.l.length=(fj s C).l.length:=rfl;omega),(by(try dsimp only);simp only[cl];omega),(by(try dsimp only);simp only[cl];omega)⟩ (by omega)
 refine xt<|tx<|tx<|bx<|rm (.tuple #[])<|?_
 have hfin:bq eG C0.l.length 0 C0 []=(C,L):=by
   rw[← hrec]
   exact iV _ _ _ _ _ (by simp only[f,bt])
 refine⟨rfl,s,A,cp,?_⟩
 rw[hfin]
 exact⟨i,b,m,t,d,v⟩
theorem Aq{w:World}{gb gs gm l b1 b2 fn0 D:Nat}{tm:Array Value}{asg bdy:Code}{c:Int}{C0:aA}(hC:ag w gb C0)(hS:w.heap[gs]? = some (.cells #[vI 0] 3 (0,0)))(hm:w.heap[gm]? = some (.cells (fN c gZ) 45 (0,0)))
    (hl:w.heap[l]? = some (.loop (dE fn0 tm asg bdy D))) (hb1:w.heap[b1]? = some (.cells #[vP gb 0] 164 (0,0))) (hb2:w.heap[b2]? = some (.cells #[.func (.func 217) #[] #[]] 178 (0,0)))
    (n1:gb≠gs) (n2:gb≠gm) (n3:gb≠l) (n4:gs≠gm) (n5:gs≠l) (n6:gm≠l) (m1:b1≠gb) (m2:b1≠gs) (m3:b1≠gm) (m4:b1≠l) (k1:b2≠gb) (k2:b2≠gs) (k3:b2≠gm) (k4:b2≠l) (hround:rK w gb gs gm l c (dE fn0 tm asg bdy D)) :
    Calls Tryz.prog 220 #[.func (.yield l) #[] #[],vP b1 0,vP b2 0] w (fun e W=>e = .returned (.tuple #[])∧∃ s A cp,JR w gb gs gm l c (dE fn0 tm asg bdy D) (bq da C0.l.length 0 C0 []).1 s (bq da C0.l.length 0 C0 []).2 A cp W):=by
 have hlen:=hC.len
 refine en 25 Tryz.func220 rfl<|bk<|?_
 refine js (fun x=>[(0,.func (.yield l) #[] #[]),(1,vP b1 0),(2,vP b2 0)]) (fun(x:Nat × aA × Int × List dY × Option Addr × Nat) w'=>ap [gb,gs,gm,l] w w'∧ag w' gb x.2.1∧w'.heap[gs]? = some (.cells #[vI x.2.2.1] 3 (0,0))∧w'.heap[gm]? = some (.cells (fN c (.slice x.2.2.2.2.1 x.2.2.2.1.length x.2.2.2.2.2)) 45 (0,0))∧w'.heap[l]? = some (.loop (dE fn0 tm asg bdy D))∧aJ w.heap.size 98 4 (bE (.hi w.heap.size)) w' (.slice x.2.2.2.2.1 x.2.2.2.1.length x.2.2.2.2.2) x.2.2.2.1∧(bq da x.1 x.2.2.1 x.2.1 x.2.2.2.1=bq da C0.l.length 0 C0 [])∧(x.2.1.l.length≤x.1)∧(0≤x.2.2.1∧x.2.2.1≤131074*(x.2.2.2.1.length:Int))∧(x.2.2.2.1.length+x.1≤C0.l.length)) (fun x=>x.1) (C0.l.length,C0,0,[],none,0) ⟨ap.refl _ _,hC,hS,hm,hl,aJ.nil ..,rfl,(Nat.le_refl _),(by(try dsimp only);omega),(by(try dsimp only);(try simp only[List.length_nil]);omega)⟩ ?_
 rintro⟨n,C,s,L,A,cp⟩ g ⟨h,H,I,J,M,N,O,P,Q,R⟩
 refine ip [(0,.func (.yield l) #[] #[]),(1,vP b1 0),(2,vP b2 0)] ?_
 have b:ag g gb C:=H
 have o:g.heap[gs]? = some (.cells #[vI s] 3 (0,0)):=I
 have p:g.heap[gm]? = some (.cells (fN c (.slice A L.length cp)) 45 (0,0)):=J
 have t:g.heap[l]? = some (.loop (dE fn0 tm asg bdy D)):=M
 have i:aJ w.heap.size 98 4 (bE (.hi w.heap.size)) g (.slice A L.length cp) L:=N
 have ac:bq da n s C L=bq da C0.l.length 0 C0 []:=O
 have ad:C.l.length≤n:=P
 have ae:0≤s∧s≤131074*(L.length:Int):=Q
 have af:L.length+n≤C0.l.length:=R
 have hrec:bq da n s C L=bq da C0.l.length 0 C0 []:=by assumption
 refine sq<|sg<|?_
 have k:=ap.blk h (aa m1 (aa m2 (aa m3 (aa m4 az)))) hb1
 refine ax k 0<|aF<|mq (dK b)<|?_
 have ah:=ag.len b
 refine Pl 2<|gy 4 [8] 12 8 (decide (0<(C.l.length:Int))) (C.e==0) (fun K S T=>?_) ?_
 have ai:=of_decide_eq_true T
 refine L1<|ii k 0<|L1<|Oc<|mq (ci b)<|?_
 have al:=ag.len b
 exact Pl 2<|ce S _ rfl
 refine nt<|cb (((decide (0<(C.l.length:Int)))&&(C.e==0))) (fun d=>?_) (fun d=>?_)
 have v:=(bK d).1
 have y:=(bK d).2
 have am:=of_decide_eq_true v
 have an:=aC y
 refine bU<|bk<|sg<|?_
 refine ax (ap.blk h (aa k1 (aa k2 (aa k3 (aa k4 az)))) hb2) 0<|ax k 0<|L0<|fy #[] #[] (args:=#[vP gb 0])<|Az (ux b) fun B E ao U V X Y Z a0=>?_
 obtain⟨aq,ar⟩:=V
 obtain⟨au,av⟩:=X
 obtain⟨aw,ay⟩:=Y
 refine aL #[vW 0,vW 0,vW 0,nS] fun aB aE a1 a2 a3=>aI a2 #[vW ((gS C).file),vW ((gS C).record),vW ((gS C).count),.slice B ((gS C).words.length) E] fun a4 a5 a6=>nt<|sq<|CK 9<|?_
 have z:=ud a3 a6 a1
 have a:=aH a0 z
 refine F0<|ii (b7 a m1 k) 0<|?_
 have m:=ag.old Z z
 refine F0<|Oc<|mq (ci m)<|?_
 have aG:=ag.len m
 refine Fp<|Fp<|?_
 have F:=u1 h a im
 refine D9 19 ((((hZ C).e)!=0)) (fun j=>?_) (fun j=>?_)
 have a7:=aN j
 refine Fp<|Fp<|Fp<|Fp<|Fp<|vm<|tn<|c1<|rt<|br<|tr<|br<|rr (.tuple #[])<|?_
 have hfin:bq da C0.l.length 0 C0 []=((hZ C),L):=by
   rw[← hrec]
   rw[show n=(n-1)+1 from by omega]
   simp only[bq,da,d,v,y,j,bt,reduceIte]
 refine⟨rfl,s,A,cp,?_⟩
 rw[hfin]
 exact⟨F,m,(b7 a (Ne.symm n1) o),(b7 a (Ne.symm n2) p),(aj i a (fun x hx=>(aa (fun e=>(aD (ag.lt hC) lr i) (e▸hx)) az)) (bE.upd16 a (ak (ag.safe b _ (by decide)) aK))),(b7 a (Ne.symm n3) t)⟩
 have a7:=aV j
 refine Fp<|F0<|cH a5<|?_
 have G:=b7 a (Ne.symm n3) t
 have a8:JR w gb gs gm l c (dE fn0 tm asg bdy D) (hZ C) s L A cp a4:=⟨F,m,(b7 a (Ne.symm n1) o),(b7 a (Ne.symm n2) p),(aj i a (fun x hx=>(aa (fun e=>(aD (ag.lt hC) lr i) (e▸hx)) az)) (bE.upd16 a (ak (ag.safe b _ (by decide)) aK))),G⟩
 refine Fy (r:=dE fn0 tm asg bdy D) (.agg #[vW ((gS C).file),vW ((gS C).record),vW ((gS C).count),.slice B ((gS C).words.length) E]) 53 G rfl<|?_
 refine RoundIn.mono (hround _ _ _ _ _ _ (gS C) _ _ a8 (aP.hi_le (eO.upd' U z aK) h.size fun _ _ q=>q) (co (by omega)) (co (by omega)) (co (by omega)) (by omega)) ?_
 rintro _ aM ⟨rfl,aO,a9,ab,f⟩
 refine⟨_,rfl,?_⟩
 exact Fp<|Fp<|vm<|tn<|c0<|sk<|bn<|fM ((n-1),(hZ C),s,(L++[(gS C)]),a9,ab) ⟨f.u,f.hC,f.hS,f.hm,f.hl,f.ho,(by(try dsimp only);rw[← hrec,show n=(n-1)+1 from by omega];simp only[bq,da,d,v,y,j,bt,Nat.add_sub_cancel,reduceIte]),(by(try dsimp only);have hd:=lG s C (by omega);have oo:(da s C).2.1.l.length=(hZ C).l.length:=rfl;omega),(by(try dsimp only);simp only[cl];omega),(by(try dsimp only);simp only[cl];omega)⟩ (by omega)
 refine xt<|tx<|tx<|bx<|rm (.tuple #[])<|?_
 have hfin:bq da C0.l.length 0 C0 []=(C,L):=by
   rw[← hrec]
   exact iV _ _ _ _ _ (by simp only[d,bt])
 refine⟨rfl,s,A,cp,?_⟩
 rw[hfin]
 exact⟨h,b,o,p,i,t⟩
theorem Ae{w:World}{gb gs gm l b1 b2 fn0 D:Nat}{tm:Array Value}{asg bdy:Code}{c:Int}{C0:aA}(hC:ag w gb C0)(hS:w.heap[gs]? = some (.cells #[vI 0] 3 (0,0)))(hm:w.heap[gm]? = some (.cells (fN c gZ) 45 (0,0)))
    (hl:w.heap[l]? = some (.loop (dE fn0 tm asg bdy D))) (hb1:w.heap[b1]? = some (.cells #[vP gb 0] 164 (0,0))) (hb2:w.heap[b2]? = some (.cells #[.func (.func 219) #[] #[]] 178 (0,0)))
    (n1:gb≠gs) (n2:gb≠gm) (n3:gb≠l) (n4:gs≠gm) (n5:gs≠l) (n6:gm≠l) (m1:b1≠gb) (m2:b1≠gs) (m3:b1≠gm) (m4:b1≠l) (k1:b2≠gb) (k2:b2≠gs) (k3:b2≠gm) (k4:b2≠l) (hround:rK w gb gs gm l c (dE fn0 tm asg bdy D)) :
    Calls Tryz.prog 220 #[.func (.yield l) #[] #[],vP b1 0,vP b2 0] w (fun e W=>e = .returned (.tuple #[])∧∃ s A cp,JR w gb gs gm l c (dE fn0 tm asg bdy D) (bq eS C0.l.length 0 C0 []).1 s (bq eS C0.l.length 0 C0 []).2 A cp W):=by
 have hlen:=hC.len
 refine en 25 Tryz.func220 rfl<|bk<|?_
 refine js (fun x=>[(0,.func (.yield l) #[] #[]),(1,vP b1 0),(2,vP b2 0)]) (fun(x:Nat × aA × Int × List dY × Option Addr × Nat) w'=>ap [gb,gs,gm,l] w w'∧ag w' gb x.2.1∧w'.heap[gs]? = some (.cells #[vI x.2.2.1] 3 (0,0))∧w'.heap[gm]? = some (.cells (fN c (.slice x.2.2.2.2.1 x.2.2.2.1.length x.2.2.2.2.2)) 45 (0,0))∧w'.heap[l]? = some (.loop (dE fn0 tm asg bdy D))∧aJ w.heap.size 98 4 (bE (.hi w.heap.size)) w' (.slice x.2.2.2.2.1 x.2.2.2.1.length x.2.2.2.2.2) x.2.2.2.1∧(bq eS x.1 x.2.2.1 x.2.1 x.2.2.2.1=bq eS C0.l.length 0 C0 [])∧(x.2.1.l.length≤x.1)∧(0≤x.2.2.1∧x.2.2.1≤131074*(x.2.2.2.1.length:Int))∧(x.2.2.2.1.length+x.1≤C0.l.length)) (fun x=>x.1) (C0.l.length,C0,0,[],none,0) ⟨ap.refl _ _,hC,hS,hm,hl,aJ.nil ..,rfl,(Nat.le_refl _),(by(try dsimp only);omega),(by(try dsimp only);(try simp only[List.length_nil]);omega)⟩ ?_
 rintro⟨n,C,s,L,A,cp⟩ g ⟨h,H,I,J,M,N,O,P,Q,R⟩
 refine ip [(0,.func (.yield l) #[] #[]),(1,vP b1 0),(2,vP b2 0)] ?_
 have b:ag g gb C:=H
 have o:g.heap[gs]? = some (.cells #[vI s] 3 (0,0)):=I
 have p:g.heap[gm]? = some (.cells (fN c (.slice A L.length cp)) 45 (0,0)):=J
 have t:g.heap[l]? = some (.loop (dE fn0 tm asg bdy D)):=M
 have i:aJ w.heap.size 98 4 (bE (.hi w.heap.size)) g (.slice A L.length cp) L:=N
 have ac:bq eS n s C L=bq eS C0.l.length 0 C0 []:=O
 have ad:C.l.length≤n:=P
 have ae:0≤s∧s≤131074*(L.length:Int):=Q
 have af:L.length+n≤C0.l.length:=R
 have hrec:bq eS n s C L=bq eS C0.l.length 0 C0 []:=by assumption
 refine sq<|sg<|?_
 have k:=ap.blk h (aa m1 (aa m2 (aa m3 (aa m4 az)))) hb1
 refine ax k 0<|aF<|mq (dK b)<|?_
 have ah:=ag.len b
 refine Pl 2<|gy 4 [8] 12 8 (decide (0<(C.l.length:Int))) (C.e==0) (fun K S T=>?_) ?_
 have ai:=of_decide_eq_true T
 refine L1<|ii k 0<|L1<|Oc<|mq (ci b)<|?_
 have al:=ag.len b
 exact Pl 2<|ce S _ rfl
 refine nt<|cb (((decide (0<(C.l.length:Int)))&&(C.e==0))) (fun d=>?_) (fun d=>?_)
 have v:=(bK d).1
 have y:=(bK d).2
 have am:=of_decide_eq_true v
 have an:=aC y
 refine bU<|bk<|sg<|?_
 refine ax (ap.blk h (aa k1 (aa k2 (aa k3 (aa k4 az)))) hb2) 0<|ax k 0<|L0<|fy #[] #[] (args:=#[vP gb 0])<|Az (yU b) fun B E ao U V X Y Z a0=>?_
 obtain⟨aq,ar⟩:=V
 obtain⟨au,av⟩:=X
 obtain⟨aw,ay⟩:=Y
 refine aL #[vW 0,vW 0,vW 0,nS] fun aB aE a1 a2 a3=>aI a2 #[vW ((kE C).file),vW ((kE C).record),vW ((kE C).count),.slice B ((kE C).words.length) E] fun a4 a5 a6=>nt<|sq<|CK 9<|?_
 have z:=ud a3 a6 a1
 have a:=aH a0 z
 refine F0<|ii (b7 a m1 k) 0<|?_
 have m:=ag.old Z z
 refine F0<|Oc<|mq (ci m)<|?_
 have aG:=ag.len m
 refine Fp<|Fp<|?_
 have F:=u1 h a im
 refine D9 19 ((((m6 C).e)!=0)) (fun j=>?_) (fun j=>?_)
 have a7:=aN j
 refine Fp<|Fp<|Fp<|Fp<|Fp<|vm<|tn<|c1<|rt<|br<|tr<|br<|rr (.tuple #[])<|?_
 have hfin:bq eS C0.l.length 0 C0 []=((m6 C),L):=by
   rw[← hrec]
   rw[show n=(n-1)+1 from by omega]
   simp only[bq,eS,d,v,y,j,bt,reduceIte]
 refine⟨rfl,s,A,cp,?_⟩
 rw[hfin]
 exact⟨F,m,(b7 a (Ne.symm n1) o),(b7 a (Ne.symm n2) p),(aj i a (fun x hx=>(aa (fun e=>(aD (ag.lt hC) lr i) (e▸hx)) az)) (bE.upd16 a (ak (ag.safe b _ (by decide)) aK))),(b7 a (Ne.symm n3) t)⟩
 have a7:=aV j
 refine Fp<|F0<|cH a5<|?_
 have G:=b7 a (Ne.symm n3) t
 have a8:JR w gb gs gm l c (dE fn0 tm asg bdy D) (m6 C) s L A cp a4:=⟨F,m,(b7 a (Ne.symm n1) o),(b7 a (Ne.symm n2) p),(aj i a (fun x hx=>(aa (fun e=>(aD (ag.lt hC) lr i) (e▸hx)) az)) (bE.upd16 a (ak (ag.safe b _ (by decide)) aK))),G⟩
 refine Fy (r:=dE fn0 tm asg bdy D) (.agg #[vW ((kE C).file),vW ((kE C).record),vW ((kE C).count),.slice B ((kE C).words.length) E]) 53 G rfl<|?_
 refine RoundIn.mono (hround _ _ _ _ _ _ (kE C) _ _ a8 (aP.hi_le (eO.upd' U z aK) h.size fun _ _ q=>q) (co (by omega)) (co (by omega)) (co (by omega)) (by omega)) ?_
 rintro _ aM ⟨rfl,aO,a9,ab,f⟩
 refine⟨_,rfl,?_⟩
 exact Fp<|Fp<|vm<|tn<|c0<|sk<|bn<|fM ((n-1),(m6 C),s,(L++[(kE C)]),a9,ab) ⟨f.u,f.hC,f.hS,f.hm,f.hl,f.ho,(by(try dsimp only);rw[← hrec,show n=(n-1)+1 from by omega];simp only[bq,eS,d,v,y,j,bt,Nat.add_sub_cancel,reduceIte]),(by(try dsimp only);have hd:=nC s C (by omega);have oo:(eS s C).2.1.l.length=(m6 C).l.length:=rfl;omega),(by(try dsimp only);simp only[cl];omega),(by(try dsimp only);simp only[cl];omega)⟩ (by omega)
 refine xt<|tx<|tx<|bx<|rm (.tuple #[])<|?_
 have hfin:bq eS C0.l.length 0 C0 []=(C,L):=by
   rw[← hrec]
   exact iV _ _ _ _ _ (by simp only[d,bt])
 refine⟨rfl,s,A,cp,?_⟩
 rw[hfin]
 exact⟨h,b,o,p,i,t⟩
open Go.RowKit
def kV (n:Int) : Bool:=(decide (7≤n)&&decide (n≤245))&&n%7==0
def lW (n:Int) : Bool:=decide (4≤n)&&decide (n≤245)
def oe (n:Int) : Bool:=decide (9≤n)&&decide (n≤251)
def t8 (may:Int→Bool)(C:aA) : aA:=(C.bytesC 1).need (may C.byteV) 5
def wZ (may:Int→Bool)(C:aA) : aA:=⟨(t8 may C).bytesR C.byteV,false,0⟩
def n8 (one:Int→aA→Int × aA × dY)(may:Int→Bool)(C:aA) : aA × List dY:=bq one (wZ may C).l.length 0 (wZ may C) []
def dP (e:Int) : Int:=if e==2 then 5 else e
def dJ (one:Int→aA→Int × aA × dY)(may:Int→Bool)(c:Int)(C:aA) : aA × b6 :=
  (((t8 may C).bytesC C.byteV).need ((n8 one may C).1.e==0) (dP (n8 one may C).1.e),{ b6.zero with code:=c,recs:=(n8 one may C).2 })
def bz (dir c:Int)(C:aA) : Option (aA × b6) :=
  if c==20 then (if dir==0 then some (dJ eG kV c C) else some (dJ da lW c C)) else if c==21 then some (dJ eS oe c C) else none
theorem xk:((20:Int)==20)=true:=rfl
theorem xK:((21:Int)==20)=false:=rfl
theorem xH:((21:Int)==21)=true:=rfl
theorem pk{m:Md}{A:Option Addr}{cp:Nat}{b:List Int}{w:World}{dir:Int}(hd:dir=0∨dir=1)(hsl:aR m w (.slice A b.length cp) b)(hb:b.length≤1048576) :
    Calls Tryz.prog 102 #[vI 0,vB 20,.slice A b.length cp] w (dL (aG bz 0 20 b) w):=by
 have hln:(b.length:Int)≤1048576:=by omega
 have cD:((dir != 0)&&(dir != 1))=false:=by rcases hd with rfl | rfl<;>rfl
 refine Bt 77 Tryz.func102 rfl<|sg<|aL mZ fun b5 cE b8 Q J=>al 1<|sq<|ay 6<|c0<|bU<|au 2<|aF (args:=#[vI 0,vB 20])<|e3 yt fun E cF a7 B F=>Pl 3<|aL #[.nilFunc,.nilFunc] fun cG cI c5 b9 t=>aI b9 #[.func (.func 215) #[] #[],.func (.func 213) #[] #[vP E 0]] fun cJ c6 r=>al 1<|sq<|sq<|go<|al 2<|c0<|bU<|au 1<|?_
 have Z:=ud t r c5
 have a8:=aH F Z
 have ba:=aH J a8
 refine aF<|e3 (dt (aR.old hsl ba) (by omega)) fun a9 cK K M q=>Pl 1<|aS 1<|aF<|m3 (bD M) fun cL c7 k cM=>bA ((aA.mk b false 0).byteV)<|Pl 1<|aS 2<|?_
 have ad:=ud q k K
 have bb:=ub ad c6
 refine ax bb 0<|Pl 1<|L0<|fy #[] #[] (args:=#[vI ((aA.mk b false 0).byteV)])<|m1 (sl (n:=(aA.mk b false 0).byteV) (by omega)) fun cN g=>?_
 refine aF<|m2 (aU ((kV ((aA.mk b false 0).byteV))) 5 (ag.old c7 g)) fun cO c8 h=>?_
 refine ab c8 fun x49 bc bd=>?_
 refine aS 2<|aF<|um (bP (n:=(aA.mk b false 0).byteV) bd) fun cP cS cT c9 cU cV ca i=>?_
 have cW:=Nat.le_trans (aA.bytesR_le x49 ((aA.mk b false 0).byteV)) (ag.len bd)
 refine ab ca fun x58 be cc=>?_
 refine aF<|e3 (dt c9 (by omega)) fun S cX ae H o=>Pl 1<|aS 2<|aL mZ fun D cY N O p=>aI O (mC 20) fun cZ cd d=>nt<|sq<|au 2<|?_
 have a0:=ud p d N
 have bf:=aH o a0
 have bg:=uz g (u1 h (aH i bf) im)
 refine ax (b7 bg (nb (ai b9) r.size K) bb) 1<|aF<|Az (l6 (gb:=S) (f:=.func 213) (x:=#[]) (y:=#[vP E 0])) fun ce cf d0 af am d1 bh bi j=>nt<|bk<|rp (f:=220) #[vP ce 0,vP cf 0] fun a ha=>?_
 intro d2 d3 T cg v I bj an P G
 have bl:=nb (ag.lt H) lr N
 have a1:=nb (ag.lt H) (le (le p.size d.size) j.size) I
 have bm:=nb (ai B) (le (le (le (le (le (le (le t.size r.size) q.size) k.size) g.size) h.size) i.size) o.size) N
 have bo:=nb (ai B) (le (le (le (le (le (le (le (le (le (le t.size r.size) q.size) k.size) g.size) h.size) i.size) o.size) p.size) d.size) j.size) I
 have U:=nb (ai O) (le d.size j.size) I
 have a2:=aH j G
 have bp:=ag.old H (aH a0 a2)
 have br:=ud ad (aH bg a2) K
 have bs:=ub (aH Z br) B
 have ao:=ub a2 cd
 refine(Ap (c:=20) bp bs ao P (ub G bh) (ub G bi) (Ne.symm (nb (ai B) (le (le (le (le (le (le t.size r.size) q.size) k.size) g.size) h.size) i.size) ae)) bl a1 bm bo U (Ne.symm (nb (ag.lt H) a0.size af)) (Ne.symm (nb (ai B) (le (le (le (le (le (le (le (le (le t.size r.size) q.size) k.size) g.size) h.size) i.size) o.size) p.size) d.size) af)) (Ne.symm (nb (ai O) d.size af)) (nb (ai bh) lr I) (Ne.symm (nb (ag.lt H) a0.size am)) (Ne.symm (nb (ai B) (le (le (le (le (le (le (le (le (le t.size r.size) q.size) k.size) g.size) h.size) i.size) o.size) p.size) d.size) am)) (Ne.symm (nb (ai O) d.size am)) (nb (ai bi) lr I) ?_).mono ?_
 intro W C s L Ar cr x Ax cx hJ hrd hx1 hx2 hx3 hL
 simp only[eo] at hx1 hx2 hx3
 have hm2:W.heap[D]? = some (.cells #[vB 20,vB 0,vW 0,vW 0,vW 0,vW 0,vW 0,vW 0,vW 0,vW 0,vW 0,vW 0,nS,nS,nS,.slice Ar L.length cr,vB 0,vB 0,vB 0,vB 0,vB 0,nS] 45 (0,0)):=hJ.hm
 refine lH hJ.hl ?_
 refine D8 ha 53<|BA<|mn<|zW #[vW 0,vW 0,vW 0,nS] fun d4 d5 bu ch bv=>mn<|qv ch #[vW x.file,vW x.record,vW x.count,.slice Ax x.words.length cx] fun d6 cj bw=>vm<|?_
 have bx:=ud bv bw bu
 refine CX (ub bx hJ.hl) (by trivial) fun d7 ck ar=>D6<|BA<|Bz<|?_
 have bB:=uz bx ar
 have bC:=b7 bB U hm2
 refine mn<|ii bC 15<|?_
 refine mn<|cH (b7 ar (Ne.symm (nb (ai P) hJ.u.size bu)) cj)<|mn<|dv (m:=1) (e:=98) #[vW x.file,vW x.record,vW x.count,.slice Ax x.words.length cx] fun d8 d9 da cm av=>?_
 have V:=aH bB av
 have cn:=sw (R:=bE (.hi cg.heap.size)) (x:=(dY.mk x.file x.record x.count x.words)) cm rfl ⟨_,rfl,(eO.updl hrd V hJ.hl rfl),co (x:=x.file) (by omega),co (x:=x.record) (by omega),co (x:=x.count) (by omega)⟩
 have aw:=aj hJ.ho V (fun x hx=>(aa (fun e=>(aD (ai P) lr hJ.ho) (e▸hx)) az)) (bE.updl V hJ.hl rfl)
 refine mn<|lI (xs:=L) (ys:=([(dY.mk x.file x.record x.count x.words)])) (.agg #[vW 0,vW 0,vW 0,nS]) 4 32 aw cn (by simp) bE.ones (fun w' hv=>bE.upd16 hv (cR (du _ aw (by decide)) aK)) (by(try simp only[cl,aq]);omega) (le (le (le (le hJ.u.size bv.size) bw.size) ar.size) av.size) fun bF bG db aC aE=>Bz<|?_
 have bH:=ut (ap.mono (S':=(ob Ar++[])) av aB) aE (ah il aB)
 have aO:=ap.blk bH (aM (aD (ai ao) lr hJ.ho) az) bC
 refine mn<|cv aO 15 (mG 20 0 0 0 0 0 0 0 0 0 0 0 nS nS nS (.slice bF ((L++[(dY.mk x.file x.record x.count x.words)]).length) bG) 0 0 0 0 0 nS) fun dc cq X=>vm<|bn<|?_
 have aQ:=ap.blk (u1 (ap.mono (S':=(ob Ar++(D :: []))) bH (ah il aB)) X im) (aM (aD (ai P) lr hJ.ho) (aa (Ne.symm U) az)) ck
 refine CM aQ fun dd cs Y=>?_
 have aX:=ut (ap.mono (S':=(T :: (ob Ar++(D :: [])))) V (ac im aB)) (ut (ap.mono (S':=(ob Ar++(D :: (T :: [])))) aE (ah il aB)) (us X Y) (ac im (ac im aB))) (ah il (ac im (ac im aB)))
 exact⟨by trivial,aX.size,bF,bG,⟨(ut hJ.u aX (ac im (ah (aT hJ.ho lr) (ac im aB)))),(ag.updl (ag.upd (ag.upd (ag.updl hJ.hC V (aa a1 az) hJ.hl rfl) aE (aM (aD (ag.lt bp) lr hJ.ho) az) (cR (du _ aw (by decide)) aK)) X (aa bl az) (ak (aW aO (by decide)) aK)) Y (aa a1 az) aQ rfl),(ap.blk aX (aa bo (aM (aD (ai bs) lr hJ.ho) (aa bm az))) hJ.hS),(b7 Y U cq),(aj (aj aC X (fun x hx=>(aa (fun e=>(aD (ai ao) lr aC) (e▸hx)) az)) (bE.upd16 X (ak (aW aO (by decide)) aK))) Y (fun x hx=>(aa (fun e=>(aD (ai P) lr aC) (e▸hx)) az)) (bE.updl Y aQ rfl)),cs⟩⟩
 rintro _ ct ⟨rfl,df,bI,bK,z⟩
 refine⟨_,_,rfl,z.hl,by simp[dE],by trivial,fun dg bL=>?_⟩
 refine ab z.hC fun aY bM cu=>?_
 have cw:ct.heap[D]? = some (.cells #[vB 20,vB 0,vW 0,vW 0,vW 0,vW 0,vW 0,vW 0,vW 0,vW 0,vW 0,vW 0,nS,nS,nS,.slice bI ((bq eG (aA.mk (x49.bytesR ((aA.mk b false 0).byteV)) false 0).l.length 0 (aA.mk (x49.bytesR ((aA.mk b false 0).byteV)) false 0) []).2.length) bK,vB 0,vB 0,vB 0,vB 0,vB 0,nS] 45 (0,0)):=z.hm
 refine bn<|tn<|au 2<|?_
 have a3:=ag.updl cu bL (aa a1 az) z.hl rfl
 refine aF<|mq (ci a3)<|?_
 have dh:=ag.len a3
 refine Pl 2<|aF<|mq (ci a3)<|?_
 have di:=ag.len a3
 refine aF<|m1 (iN (e:=aY.e)) fun dj cy=>?_
 have a4:=aH bL cy
 have bN:=u1 z.u a4 im
 have bO:=ud ad (uz g (u1 h i im)) K
 have bQ:=ag.upd cc (ut (ap.mono (S':=[E]) bf aB) (ut (ap.mono (S':=[S,E,D]) a2 aB) bN (ac im (ac im (ac im (ac (ni j.size I) aB))))) (ac (nr ae) (ac im (ac (ni o.size N) aB)))) (aa (Ne.symm (nb (ai B) Z.size K)) az) (ak (aW (ub (aH Z bO) B) (by decide)) aK)
 refine aF<|m2 (aU ((aY.e==0)) (dP aY.e) bQ) fun dk cz aZ=>?_
 refine ab cz fun bR bS bT=>?_
 refine aS 1<|aF<|m2 (ee bT) fun dm bV b0=>nt<|sq<|au 1<|aF<|mq (ci bV)<|?_
 have dn:=ag.len bV
 refine Pl 1<|dl 2<|?_
 have bW:=u1 aZ b0 im
 have b1:=u1 (ap.mono (S':=[S,E,D,T,a9]) bN (ac im (ac im (ac im (ac im aB))))) bW im
 have b2:=ut (ap.mono (S':=[E]) br aB) b1 (ac (ni bO.size ae) (ac im (ac (ni (le (le (le (le (le q.size k.size) g.size) h.size) i.size) o.size) N) (ac (ni (le (le (le (le (le (le (le (le q.size k.size) g.size) h.size) i.size) o.size) p.size) d.size) j.size) I) (ac (nr K) aB)))))
 have bX:=ud ba b2 (le J.size a7)
 have hs:aG bz 0 20 b=cC (b6.mk 20 0 0 0 0 0 0 0 0 0 0 0 [] [] [] (bq eG (aA.mk ((((aA.mk b false 0).bytesC 1).need (kV ((aA.mk b false 0).byteV)) 5).bytesR ((aA.mk b false 0).byteV)) false 0).l.length 0 (aA.mk ((((aA.mk b false 0).bytesC 1).need (kV ((aA.mk b false 0).byteV)) 5).bytesR ((aA.mk b false 0).byteV)) false 0) []).2 0 0 0 0 0 []) (((((aA.mk b false 0).bytesC 1).need (kV ((aA.mk b false 0).byteV)) 5).bytesC ((aA.mk b false 0).byteV)).need (((bq eG (aA.mk ((((aA.mk b false 0).bytesC 1).need (kV ((aA.mk b false 0).byteV)) 5).bytesR ((aA.mk b false 0).byteV)) false 0).l.length 0 (aA.mk ((((aA.mk b false 0).bytesC 1).need (kV ((aA.mk b false 0).byteV)) 5).bytesR ((aA.mk b false 0).byteV)) false 0) []).1).e==0) (dP ((bq eG (aA.mk ((((aA.mk b false 0).bytesC 1).need (kV ((aA.mk b false 0).byteV)) 5).bytesR ((aA.mk b false 0).byteV)) false 0).l.length 0 (aA.mk ((((aA.mk b false 0).bytesC 1).need (kV ((aA.mk b false 0).byteV)) 5).bytesR ((aA.mk b false 0).byteV)) false 0) []).1).e)):=by
   unfold aG bz dJ n8 wZ t8
   (try simp only[bt,fO,fQ,fP,fR,fS,reduceIte,xk,xK,xH])
   all_goals rfl
 refine cb ((bR.endC.e != 0)) (fun b3=>?_) (fun b3=>?_)
 have b4:=aN b3
 refine au 2<|?_
 refine aI (ub (ud a8 b2 a7) Q) mZ fun dp cA bY=>al 1<|bJ<|?_
 have bZ:=nb (ai Q) (le (le (le (le (le (le (le (le (le (le (le F.size t.size) r.size) q.size) k.size) g.size) h.size) i.size) o.size) p.size) d.size) j.size) v
 refine Bw (ap.blk (u1 (ap.mono (S':=[S,E,D,T,a9,b5]) b1 (ac im (ac im (ac im (ac im (ac im aB)))))) bY im) (aa (Ne.symm (nb (ag.lt H) (le (le p.size d.size) j.size) v)) (aa (Ne.symm (nb (ai B) (le (le (le (le (le (le (le (le (le (le t.size r.size) q.size) k.size) g.size) h.size) i.size) o.size) p.size) d.size) j.size) v)) (aa (Ne.symm (nb (ai O) (le d.size j.size) v)) (aa bj (aa (Ne.symm (nb (ag.lt M) (le (le (le (le (le (le (le k.size g.size) h.size) i.size) o.size) p.size) d.size) j.size) v)) (aa (Ne.symm bZ) az)))))) an) fun dq c1=>?_
 refine rx (b7 c1 bZ cA) (vI bR.endC.e)<|?_
 subst bS bM be bc
 rw[hs]
 exact cQ b4 (ut bX (us bY c1) (ac (nr b8) (ac (ni (le (le (le (le (le (le (le (le (le (le (le (le J.size F.size) t.size) r.size) q.size) k.size) g.size) h.size) i.size) o.size) p.size) d.size) j.size) v) aB)))
 have b4:=aV b3
 refine bU<|sg<|?_
 refine L0<|cH (ap.blk (us a4 bW) (aa U (aa (Ne.symm (nb (ag.lt M) (le (le (le (le k.size g.size) h.size) i.size) o.size) N)) az)) cw)<|?_
 have c2:=ub (ud a8 b2 a7) Q
 refine aI c2 (mG 20 0 0 0 0 0 0 0 0 0 0 0 nS nS nS (.slice bI ((bq eG (aA.mk (x49.bytesR ((aA.mk b false 0).byteV)) false 0).l.length 0 (aA.mk (x49.bytesR ((aA.mk b false 0).byteV)) false 0) []).2.length) bK) 0 0 0 0 0 nS) fun dr cB a5=>al 1<|rt<|?_
 have c3:=nb (ai Q) (le (le (le (le (le (le (le (le (le (le (le F.size t.size) r.size) q.size) k.size) g.size) h.size) i.size) o.size) p.size) d.size) j.size) v
 have c4:=ap.blk (u1 (ap.mono (S':=[S,E,D,T,a9,b5]) b1 (ac im (ac im (ac im (ac im (ac im aB)))))) a5 im) (aa (Ne.symm (nb (ag.lt H) (le (le p.size d.size) j.size) v)) (aa (Ne.symm (nb (ai B) (le (le (le (le (le (le (le (le (le (le t.size r.size) q.size) k.size) g.size) h.size) i.size) o.size) p.size) d.size) j.size) v)) (aa (Ne.symm (nb (ai O) (le d.size j.size) v)) (aa bj (aa (Ne.symm (nb (ag.lt M) (le (le (le (le (le (le (le k.size g.size) h.size) i.size) o.size) p.size) d.size) j.size) v)) (aa (Ne.symm c3) az)))))) an
 refine Bw c4 fun ds a6=>?_
 refine rx (b7 a6 c3 cB) (vI 0)<|?_
 subst bS bM be bc
 rw[hs]
 exact de b4 ⟨_,_,_,_,_,rfl,aP.nil ..,aP.nil ..,aP.nil ..,(aP.hi_le (aJ.hi (aj (aj (aj (aj (aj z.ho a4 (fun x hx=>(aa (fun e=>(aD (ai P) lr z.ho) (e▸hx)) az)) (bE.updl a4 z.hl rfl)) aZ (fun x hx=>(aa (fun e=>(aD (ag.lt M) (le (le (le (le (le (le (le (le k.size g.size) h.size) i.size) o.size) p.size) d.size) j.size) G.size) z.ho) (e▸hx)) az)) (bE.upd16 aZ (ak (ag.safe bQ _ (by decide)) aK))) b0 (fun x hx=>(aa (fun e=>(aD (ag.lt M) (le (le (le (le (le (le (le (le k.size g.size) h.size) i.size) o.size) p.size) d.size) j.size) G.size) z.ho) (e▸hx)) az)) (bE.upd16 b0 (ak (ag.safe bT _ (by decide)) aK))) a5 (fun x hx=>(aa (fun e=>(aD (ai Q) (le (le (le (le (le (le (le (le (le (le (le (le F.size t.size) r.size) q.size) k.size) g.size) h.size) i.size) o.size) p.size) d.size) j.size) G.size) z.ho) (e▸hx)) az)) (bE.upd16 a5 (ak (aW c2 (by decide)) aK))) a6 (fun x hx=>(aa (fun e=>(aD (ai an) lr z.ho) (e▸hx)) az)) (bE.updl a6 c4 rfl)) lr) (le (le (le (le (le (le (le (le (le (le (le (le (le J.size F.size) t.size) r.size) q.size) k.size) g.size) h.size) i.size) o.size) p.size) d.size) j.size) G.size) (bE.lo (le (le (le (le (le (le (le (le (le (le (le (le (le J.size F.size) t.size) r.size) q.size) k.size) g.size) h.size) i.size) o.size) p.size) d.size) j.size) G.size))),aP.nil ..,(ek (by omega))⟩ (ut bX (us a5 a6) (ac (nr b8) (ac (ni (le (le (le (le (le (le (le (le (le (le (le (le J.size F.size) t.size) r.size) q.size) k.size) g.size) h.size) i.size) o.size) p.size) d.size) j.size) v) aB)))
theorem pD{m:Md}{A:Option Addr}{cp:Nat}{b:List Int}{w:World}{dir:Int}(hd:dir=0∨dir=1)(hsl:aR m w (.slice A b.length cp) b)(hb:b.length≤1048576) :
    Calls Tryz.prog 102 #[vI 1,vB 20,.slice A b.length cp] w (dL (aG bz 1 20 b) w):=by
 have hln:(b.length:Int)≤1048576:=by omega
 have cD:((dir != 0)&&(dir != 1))=false:=by rcases hd with rfl | rfl<;>rfl
 refine Bt 77 Tryz.func102 rfl<|sg<|aL mZ fun b5 cE b8 Q I=>al 1<|sq<|ay 6<|c0<|bU<|au 2<|aF (args:=#[vI 1,vB 20])<|e3 yS fun J cF a7 B E=>Pl 3<|aL #[.nilFunc,.nilFunc] fun cG cI c5 b9 t=>aI b9 #[.func (.func 216) #[] #[],.func (.func 217) #[] #[]] fun cJ c6 r=>al 1<|sq<|sq<|go<|al 2<|c0<|bU<|au 1<|?_
 have Z:=ud t r c5
 have a8:=aH E Z
 have ba:=aH I a8
 refine aF<|e3 (dt (aR.old hsl ba) (by omega)) fun a9 cK K M q=>Pl 1<|aS 1<|aF<|m3 (bD M) fun cL c7 k cM=>bA ((aA.mk b false 0).byteV)<|Pl 1<|aS 2<|?_
 have ad:=ud q k K
 have bb:=ub ad c6
 refine ax bb 0<|Pl 1<|L0<|fy #[] #[] (args:=#[vI ((aA.mk b false 0).byteV)])<|m1 (qP (n:=(aA.mk b false 0).byteV) (by omega)) fun cN g=>?_
 refine aF<|m2 (aU ((lW ((aA.mk b false 0).byteV))) 5 (ag.old c7 g)) fun cO c8 h=>?_
 refine ab c8 fun x49 bc bd=>?_
 refine aS 2<|aF<|um (bP (n:=(aA.mk b false 0).byteV) bd) fun cP cS cT c9 cU cV ca i=>?_
 have cW:=Nat.le_trans (aA.bytesR_le x49 ((aA.mk b false 0).byteV)) (ag.len bd)
 refine ab ca fun x58 be cc=>?_
 refine aF<|e3 (dt c9 (by omega)) fun S cX ae G o=>Pl 1<|aS 2<|aL mZ fun D cY N O p=>aI O (mC 20) fun cZ cd d=>nt<|sq<|au 2<|?_
 have a0:=ud p d N
 have bf:=aH o a0
 have bg:=uz g (u1 h (aH i bf) im)
 refine ax (b7 bg (nb (ai b9) r.size K) bb) 1<|aF<|Az (l6 (gb:=S) (f:=.func 217) (x:=#[]) (y:=#[])) fun ce cf d0 af am d1 bh bi j=>nt<|bk<|rp (f:=220) #[vP ce 0,vP cf 0] fun a ha=>?_
 intro d2 d3 T cg v H bj an P F
 have bl:=nb (ag.lt G) lr N
 have a1:=nb (ag.lt G) (le (le p.size d.size) j.size) H
 have bm:=nb (ai B) (le (le (le (le (le (le (le t.size r.size) q.size) k.size) g.size) h.size) i.size) o.size) N
 have bo:=nb (ai B) (le (le (le (le (le (le (le (le (le (le t.size r.size) q.size) k.size) g.size) h.size) i.size) o.size) p.size) d.size) j.size) H
 have U:=nb (ai O) (le d.size j.size) H
 have a2:=aH j F
 have bp:=ag.old G (aH a0 a2)
 have br:=ud ad (aH bg a2) K
 have bs:=ub (aH Z br) B
 have ao:=ub a2 cd
 refine(Aq (c:=20) bp bs ao P (ub F bh) (ub F bi) (Ne.symm (nb (ai B) (le (le (le (le (le (le t.size r.size) q.size) k.size) g.size) h.size) i.size) ae)) bl a1 bm bo U (Ne.symm (nb (ag.lt G) a0.size af)) (Ne.symm (nb (ai B) (le (le (le (le (le (le (le (le (le t.size r.size) q.size) k.size) g.size) h.size) i.size) o.size) p.size) d.size) af)) (Ne.symm (nb (ai O) d.size af)) (nb (ai bh) lr H) (Ne.symm (nb (ag.lt G) a0.size am)) (Ne.symm (nb (ai B) (le (le (le (le (le (le (le (le (le t.size r.size) q.size) k.size) g.size) h.size) i.size) o.size) p.size) d.size) am)) (Ne.symm (nb (ai O) d.size am)) (nb (ai bi) lr H) ?_).mono ?_
 intro W C s L Ar cr x Ax cx hJ hrd hx1 hx2 hx3 hL
 simp only[eo] at hx1 hx2 hx3
 have hm2:W.heap[D]? = some (.cells #[vB 20,vB 0,vW 0,vW 0,vW 0,vW 0,vW 0,vW 0,vW 0,vW 0,vW 0,vW 0,nS,nS,nS,.slice Ar L.length cr,vB 0,vB 0,vB 0,vB 0,vB 0,nS] 45 (0,0)):=hJ.hm
 refine lH hJ.hl ?_
 refine D8 ha 53<|BA<|mn<|zW #[vW 0,vW 0,vW 0,nS] fun d4 d5 bu ch bv=>mn<|qv ch #[vW x.file,vW x.record,vW x.count,.slice Ax x.words.length cx] fun d6 cj bw=>vm<|?_
 have bx:=ud bv bw bu
 refine CX (ub bx hJ.hl) (by trivial) fun d7 ck ar=>D6<|BA<|Bz<|?_
 have bB:=uz bx ar
 have bC:=b7 bB U hm2
 refine mn<|ii bC 15<|?_
 refine mn<|cH (b7 ar (Ne.symm (nb (ai P) hJ.u.size bu)) cj)<|mn<|dv (m:=1) (e:=98) #[vW x.file,vW x.record,vW x.count,.slice Ax x.words.length cx] fun d8 d9 db cm av=>?_
 have V:=aH bB av
 have cn:=sw (R:=bE (.hi cg.heap.size)) (x:=(dY.mk x.file x.record x.count x.words)) cm rfl ⟨_,rfl,(eO.updl hrd V hJ.hl rfl),co (x:=x.file) (by omega),co (x:=x.record) (by omega),co (x:=x.count) (by omega)⟩
 have aw:=aj hJ.ho V (fun x hx=>(aa (fun e=>(aD (ai P) lr hJ.ho) (e▸hx)) az)) (bE.updl V hJ.hl rfl)
 refine mn<|lI (xs:=L) (ys:=([(dY.mk x.file x.record x.count x.words)])) (.agg #[vW 0,vW 0,vW 0,nS]) 4 32 aw cn (by simp) bE.ones (fun w' hv=>bE.upd16 hv (cR (du _ aw (by decide)) aK)) (by(try simp only[cl,aq]);omega) (le (le (le (le hJ.u.size bv.size) bw.size) ar.size) av.size) fun bF bG dc aC aE=>Bz<|?_
 have bH:=ut (ap.mono (S':=(ob Ar++[])) av aB) aE (ah il aB)
 have aO:=ap.blk bH (aM (aD (ai ao) lr hJ.ho) az) bC
 refine mn<|cv aO 15 (mG 20 0 0 0 0 0 0 0 0 0 0 0 nS nS nS (.slice bF ((L++[(dY.mk x.file x.record x.count x.words)]).length) bG) 0 0 0 0 0 nS) fun dd cq X=>vm<|bn<|?_
 have aQ:=ap.blk (u1 (ap.mono (S':=(ob Ar++(D :: []))) bH (ah il aB)) X im) (aM (aD (ai P) lr hJ.ho) (aa (Ne.symm U) az)) ck
 refine CM aQ fun df cs Y=>?_
 have aX:=ut (ap.mono (S':=(T :: (ob Ar++(D :: [])))) V (ac im aB)) (ut (ap.mono (S':=(ob Ar++(D :: (T :: [])))) aE (ah il aB)) (us X Y) (ac im (ac im aB))) (ah il (ac im (ac im aB)))
 exact⟨by trivial,aX.size,bF,bG,⟨(ut hJ.u aX (ac im (ah (aT hJ.ho lr) (ac im aB)))),(ag.updl (ag.upd (ag.upd (ag.updl hJ.hC V (aa a1 az) hJ.hl rfl) aE (aM (aD (ag.lt bp) lr hJ.ho) az) (cR (du _ aw (by decide)) aK)) X (aa bl az) (ak (aW aO (by decide)) aK)) Y (aa a1 az) aQ rfl),(ap.blk aX (aa bo (aM (aD (ai bs) lr hJ.ho) (aa bm az))) hJ.hS),(b7 Y U cq),(aj (aj aC X (fun x hx=>(aa (fun e=>(aD (ai ao) lr aC) (e▸hx)) az)) (bE.upd16 X (ak (aW aO (by decide)) aK))) Y (fun x hx=>(aa (fun e=>(aD (ai P) lr aC) (e▸hx)) az)) (bE.updl Y aQ rfl)),cs⟩⟩
 rintro _ ct ⟨rfl,dg,bI,bK,z⟩
 refine⟨_,_,rfl,z.hl,by simp[dE],by trivial,fun dh bL=>?_⟩
 refine ab z.hC fun aY bM cu=>?_
 have cw:ct.heap[D]? = some (.cells #[vB 20,vB 0,vW 0,vW 0,vW 0,vW 0,vW 0,vW 0,vW 0,vW 0,vW 0,vW 0,nS,nS,nS,.slice bI ((bq da (aA.mk (x49.bytesR ((aA.mk b false 0).byteV)) false 0).l.length 0 (aA.mk (x49.bytesR ((aA.mk b false 0).byteV)) false 0) []).2.length) bK,vB 0,vB 0,vB 0,vB 0,vB 0,nS] 45 (0,0)):=z.hm
 refine bn<|tn<|au 2<|?_
 have a3:=ag.updl cu bL (aa a1 az) z.hl rfl
 refine aF<|mq (ci a3)<|?_
 have di:=ag.len a3
 refine Pl 2<|aF<|mq (ci a3)<|?_
 have dj:=ag.len a3
 refine aF<|m1 (iN (e:=aY.e)) fun dk cy=>?_
 have a4:=aH bL cy
 have bN:=u1 z.u a4 im
 have bO:=ud ad (uz g (u1 h i im)) K
 have bQ:=ag.upd cc (ut (ap.mono (S':=[J]) bf aB) (ut (ap.mono (S':=[S,J,D]) a2 aB) bN (ac im (ac im (ac im (ac (ni j.size H) aB))))) (ac (nr ae) (ac im (ac (ni o.size N) aB)))) (aa (Ne.symm (nb (ai B) Z.size K)) az) (ak (aW (ub (aH Z bO) B) (by decide)) aK)
 refine aF<|m2 (aU ((aY.e==0)) (dP aY.e) bQ) fun dm cz aZ=>?_
 refine ab cz fun bR bS bT=>?_
 refine aS 1<|aF<|m2 (ee bT) fun dn bV b0=>nt<|sq<|au 1<|aF<|mq (ci bV)<|?_
 have dp:=ag.len bV
 refine Pl 1<|dl 2<|?_
 have bW:=u1 aZ b0 im
 have b1:=u1 (ap.mono (S':=[S,J,D,T,a9]) bN (ac im (ac im (ac im (ac im aB))))) bW im
 have b2:=ut (ap.mono (S':=[J]) br aB) b1 (ac (ni bO.size ae) (ac im (ac (ni (le (le (le (le (le q.size k.size) g.size) h.size) i.size) o.size) N) (ac (ni (le (le (le (le (le (le (le (le q.size k.size) g.size) h.size) i.size) o.size) p.size) d.size) j.size) H) (ac (nr K) aB)))))
 have bX:=ud ba b2 (le I.size a7)
 have hs:aG bz 1 20 b=cC (b6.mk 20 0 0 0 0 0 0 0 0 0 0 0 [] [] [] (bq da (aA.mk ((((aA.mk b false 0).bytesC 1).need (lW ((aA.mk b false 0).byteV)) 5).bytesR ((aA.mk b false 0).byteV)) false 0).l.length 0 (aA.mk ((((aA.mk b false 0).bytesC 1).need (lW ((aA.mk b false 0).byteV)) 5).bytesR ((aA.mk b false 0).byteV)) false 0) []).2 0 0 0 0 0 []) (((((aA.mk b false 0).bytesC 1).need (lW ((aA.mk b false 0).byteV)) 5).bytesC ((aA.mk b false 0).byteV)).need (((bq da (aA.mk ((((aA.mk b false 0).bytesC 1).need (lW ((aA.mk b false 0).byteV)) 5).bytesR ((aA.mk b false 0).byteV)) false 0).l.length 0 (aA.mk ((((aA.mk b false 0).bytesC 1).need (lW ((aA.mk b false 0).byteV)) 5).bytesR ((aA.mk b false 0).byteV)) false 0) []).1).e==0) (dP ((bq da (aA.mk ((((aA.mk b false 0).bytesC 1).need (lW ((aA.mk b false 0).byteV)) 5).bytesR ((aA.mk b false 0).byteV)) false 0).l.length 0 (aA.mk ((((aA.mk b false 0).bytesC 1).need (lW ((aA.mk b false 0).byteV)) 5).bytesR ((aA.mk b false 0).byteV)) false 0) []).1).e)):=by
   unfold aG bz dJ n8 wZ t8
   (try simp only[bt,fO,fQ,fP,fR,fS,reduceIte,xk,xK,xH])
   all_goals rfl
 refine cb ((bR.endC.e != 0)) (fun b3=>?_) (fun b3=>?_)
 have b4:=aN b3
 refine au 2<|?_
 refine aI (ub (ud a8 b2 a7) Q) mZ fun dq cA bY=>al 1<|bJ<|?_
 have bZ:=nb (ai Q) (le (le (le (le (le (le (le (le (le (le (le E.size t.size) r.size) q.size) k.size) g.size) h.size) i.size) o.size) p.size) d.size) j.size) v
 refine Bw (ap.blk (u1 (ap.mono (S':=[S,J,D,T,a9,b5]) b1 (ac im (ac im (ac im (ac im (ac im aB)))))) bY im) (aa (Ne.symm (nb (ag.lt G) (le (le p.size d.size) j.size) v)) (aa (Ne.symm (nb (ai B) (le (le (le (le (le (le (le (le (le (le t.size r.size) q.size) k.size) g.size) h.size) i.size) o.size) p.size) d.size) j.size) v)) (aa (Ne.symm (nb (ai O) (le d.size j.size) v)) (aa bj (aa (Ne.symm (nb (ag.lt M) (le (le (le (le (le (le (le k.size g.size) h.size) i.size) o.size) p.size) d.size) j.size) v)) (aa (Ne.symm bZ) az)))))) an) fun dr c1=>?_
 refine rx (b7 c1 bZ cA) (vI bR.endC.e)<|?_
 subst bS bM be bc
 rw[hs]
 exact cQ b4 (ut bX (us bY c1) (ac (nr b8) (ac (ni (le (le (le (le (le (le (le (le (le (le (le (le I.size E.size) t.size) r.size) q.size) k.size) g.size) h.size) i.size) o.size) p.size) d.size) j.size) v) aB)))
 have b4:=aV b3
 refine bU<|sg<|?_
 refine L0<|cH (ap.blk (us a4 bW) (aa U (aa (Ne.symm (nb (ag.lt M) (le (le (le (le k.size g.size) h.size) i.size) o.size) N)) az)) cw)<|?_
 have c2:=ub (ud a8 b2 a7) Q
 refine aI c2 (mG 20 0 0 0 0 0 0 0 0 0 0 0 nS nS nS (.slice bI ((bq da (aA.mk (x49.bytesR ((aA.mk b false 0).byteV)) false 0).l.length 0 (aA.mk (x49.bytesR ((aA.mk b false 0).byteV)) false 0) []).2.length) bK) 0 0 0 0 0 nS) fun ds cB a5=>al 1<|rt<|?_
 have c3:=nb (ai Q) (le (le (le (le (le (le (le (le (le (le (le E.size t.size) r.size) q.size) k.size) g.size) h.size) i.size) o.size) p.size) d.size) j.size) v
 have c4:=ap.blk (u1 (ap.mono (S':=[S,J,D,T,a9,b5]) b1 (ac im (ac im (ac im (ac im (ac im aB)))))) a5 im) (aa (Ne.symm (nb (ag.lt G) (le (le p.size d.size) j.size) v)) (aa (Ne.symm (nb (ai B) (le (le (le (le (le (le (le (le (le (le t.size r.size) q.size) k.size) g.size) h.size) i.size) o.size) p.size) d.size) j.size) v)) (aa (Ne.symm (nb (ai O) (le d.size j.size) v)) (aa bj (aa (Ne.symm (nb (ag.lt M) (le (le (le (le (le (le (le k.size g.size) h.size) i.size) o.size) p.size) d.size) j.size) v)) (aa (Ne.symm c3) az)))))) an
 refine Bw c4 fun dw a6=>?_
 refine rx (b7 a6 c3 cB) (vI 0)<|?_
 subst bS bM be bc
 rw[hs]
 exact de b4 ⟨_,_,_,_,_,rfl,aP.nil ..,aP.nil ..,aP.nil ..,(aP.hi_le (aJ.hi (aj (aj (aj (aj (aj z.ho a4 (fun x hx=>(aa (fun e=>(aD (ai P) lr z.ho) (e▸hx)) az)) (bE.updl a4 z.hl rfl)) aZ (fun x hx=>(aa (fun e=>(aD (ag.lt M) (le (le (le (le (le (le (le (le k.size g.size) h.size) i.size) o.size) p.size) d.size) j.size) F.size) z.ho) (e▸hx)) az)) (bE.upd16 aZ (ak (ag.safe bQ _ (by decide)) aK))) b0 (fun x hx=>(aa (fun e=>(aD (ag.lt M) (le (le (le (le (le (le (le (le k.size g.size) h.size) i.size) o.size) p.size) d.size) j.size) F.size) z.ho) (e▸hx)) az)) (bE.upd16 b0 (ak (ag.safe bT _ (by decide)) aK))) a5 (fun x hx=>(aa (fun e=>(aD (ai Q) (le (le (le (le (le (le (le (le (le (le (le (le E.size t.size) r.size) q.size) k.size) g.size) h.size) i.size) o.size) p.size) d.size) j.size) F.size) z.ho) (e▸hx)) az)) (bE.upd16 a5 (ak (aW c2 (by decide)) aK))) a6 (fun x hx=>(aa (fun e=>(aD (ai an) lr z.ho) (e▸hx)) az)) (bE.updl a6 c4 rfl)) lr) (le (le (le (le (le (le (le (le (le (le (le (le (le I.size E.size) t.size) r.size) q.size) k.size) g.size) h.size) i.size) o.size) p.size) d.size) j.size) F.size) (bE.lo (le (le (le (le (le (le (le (le (le (le (le (le (le I.size E.size) t.size) r.size) q.size) k.size) g.size) h.size) i.size) o.size) p.size) d.size) j.size) F.size))),aP.nil ..,(ek (by omega))⟩ (ut bX (us a5 a6) (ac (nr b8) (ac (ni (le (le (le (le (le (le (le (le (le (le (le (le I.size E.size) t.size) r.size) q.size) k.size) g.size) h.size) i.size) o.size) p.size) d.size) j.size) v) aB)))
theorem mK{m:Md}{A:Option Addr}{cp:Nat}{b:List Int}{w:World}{dir:Int}(hd:dir=0∨dir=1)(hsl:aR m w (.slice A b.length cp) b)(hb:b.length≤1048576) :
    Calls Tryz.prog 102 #[vI dir,vB 21,.slice A b.length cp] w (dL (aG bz dir 21 b) w):=by
 have hln:(b.length:Int)≤1048576:=by omega
 have b8:((dir != 0)&&(dir != 1))=false:=by rcases hd with rfl | rfl<;>rfl
 refine Bt 77 Tryz.func102 rfl<|sg<|aL mZ fun b9 cK ba S I=>al 1<|sq<|au 3<|gy 3 [18] 21 18 (dir != 0) (dir != 1) (fun K c7 c8=>?_) ?_
 have cL:=aN c8
 exact Pl 3<|ce c7 _ rfl
 refine nt<|cf b8<|bU<|au 2<|aF (args:=#[vI dir,vB 21])<|e3 zE fun J cM a8 B E=>Pl 3<|aL #[.nilFunc,.nilFunc] fun cN cO c9 bb t=>aI bb #[.func (.func 218) #[] #[],.func (.func 219) #[] #[]] fun cP ca r=>Pl 1<|nl<|tn<|sq<|ay 2<|c0<|bU<|au 1<|?_
 have a0:=ud t r c9
 have a9:=aH E a0
 have bc:=aH I a9
 refine aF<|e3 (dt (aR.old hsl bc) (by omega)) fun ad cS M N q=>Pl 1<|aS 1<|aF<|m3 (bD N) fun cT cc k cU=>bA ((aA.mk b false 0).byteV)<|Pl 1<|aS 2<|?_
 have ae:=ud q k M
 have bd:=ub ae ca
 refine ax bd 0<|Pl 1<|L0<|fy #[] #[] (args:=#[vI ((aA.mk b false 0).byteV)])<|m1 (rC (n:=(aA.mk b false 0).byteV) (by omega)) fun cV g=>?_
 refine aF<|m2 (aU ((oe ((aA.mk b false 0).byteV))) 5 (ag.old cc g)) fun cW cd h=>?_
 refine ab cd fun x51 be bf=>?_
 refine aS 2<|aF<|um (bP (n:=(aA.mk b false 0).byteV) bf) fun cX cY cZ cg d0 d1 ch i=>?_
 have d2:=Nat.le_trans (aA.bytesR_le x51 ((aA.mk b false 0).byteV)) (ag.len bf)
 refine ab ch fun x60 bg cj=>?_
 refine aF<|e3 (dt cg (by omega)) fun T d3 af G o=>Pl 1<|aS 2<|aL mZ fun D d4 O P p=>aI P (mC 21) fun d5 ck d=>nt<|sq<|au 2<|?_
 have a1:=ud p d O
 have bh:=aH o a1
 have bi:=uz g (u1 h (aH i bh) im)
 refine ax (b7 bi (nb (ai bb) r.size M) bd) 1<|aF<|Az (l6 (gb:=T) (f:=.func 219) (x:=#[]) (y:=#[])) fun cm cn d6 am an d7 bj bl j=>nt<|bk<|rp (f:=220) #[vP cm 0,vP cn 0] fun a ha=>?_
 intro d8 d9 U cq v H bm ao Q F
 have bo:=nb (ag.lt G) lr O
 have a2:=nb (ag.lt G) (le (le p.size d.size) j.size) H
 have bp:=nb (ai B) (le (le (le (le (le (le (le t.size r.size) q.size) k.size) g.size) h.size) i.size) o.size) O
 have br:=nb (ai B) (le (le (le (le (le (le (le (le (le (le t.size r.size) q.size) k.size) g.size) h.size) i.size) o.size) p.size) d.size) j.size) H
 have V:=nb (ai P) (le d.size j.size) H
 have a3:=aH j F
 have bs:=ag.old G (aH a1 a3)
 have bu:=ud ae (aH bi a3) M
 have bv:=ub (aH a0 bu) B
 have ar:=ub a3 ck
 refine(Ae (c:=21) bs bv ar Q (ub F bj) (ub F bl) (Ne.symm (nb (ai B) (le (le (le (le (le (le t.size r.size) q.size) k.size) g.size) h.size) i.size) af)) bo a2 bp br V (Ne.symm (nb (ag.lt G) a1.size am)) (Ne.symm (nb (ai B) (le (le (le (le (le (le (le (le (le t.size r.size) q.size) k.size) g.size) h.size) i.size) o.size) p.size) d.size) am)) (Ne.symm (nb (ai P) d.size am)) (nb (ai bj) lr H) (Ne.symm (nb (ag.lt G) a1.size an)) (Ne.symm (nb (ai B) (le (le (le (le (le (le (le (le (le t.size r.size) q.size) k.size) g.size) h.size) i.size) o.size) p.size) d.size) an)) (Ne.symm (nb (ai P) d.size an)) (nb (ai bl) lr H) ?_).mono ?_
 intro W C s L Ar cr x Ax cx hJ hrd hx1 hx2 hx3 hL
 simp only[eo] at hx1 hx2 hx3
 have hm2:W.heap[D]? = some (.cells #[vB 21,vB 0,vW 0,vW 0,vW 0,vW 0,vW 0,vW 0,vW 0,vW 0,vW 0,vW 0,nS,nS,nS,.slice Ar L.length cr,vB 0,vB 0,vB 0,vB 0,vB 0,nS] 45 (0,0)):=hJ.hm
 refine lH hJ.hl ?_
 refine D8 ha 53<|BA<|mn<|zW #[vW 0,vW 0,vW 0,nS] fun da db bw cs bx=>mn<|qv cs #[vW x.file,vW x.record,vW x.count,.slice Ax x.words.length cx] fun dc ct bB=>vm<|?_
 have bC:=ud bx bB bw
 refine CX (ub bC hJ.hl) (by trivial) fun dd cu av=>D6<|BA<|Bz<|?_
 have bF:=uz bC av
 have bG:=b7 bF V hm2
 refine mn<|ii bG 15<|?_
 refine mn<|cH (b7 av (Ne.symm (nb (ai Q) hJ.u.size bw)) ct)<|mn<|dv (m:=1) (e:=98) #[vW x.file,vW x.record,vW x.count,.slice Ax x.words.length cx] fun df dg dh cw aw=>?_
 have X:=aH bF aw
 have cy:=sw (R:=bE (.hi cq.heap.size)) (x:=(dY.mk x.file x.record x.count x.words)) cw rfl ⟨_,rfl,(eO.updl hrd X hJ.hl rfl),co (x:=x.file) (by omega),co (x:=x.record) (by omega),co (x:=x.count) (by omega)⟩
 have aC:=aj hJ.ho X (fun x hx=>(aa (fun e=>(aD (ai Q) lr hJ.ho) (e▸hx)) az)) (bE.updl X hJ.hl rfl)
 refine mn<|lI (xs:=L) (ys:=([(dY.mk x.file x.record x.count x.words)])) (.agg #[vW 0,vW 0,vW 0,nS]) 4 32 aC cy (by simp) bE.ones (fun w' hv=>bE.upd16 hv (cR (du _ aC (by decide)) aK)) (by(try simp only[cl,aq]);omega) (le (le (le (le hJ.u.size bx.size) bB.size) av.size) aw.size) fun bH bI di aE aO=>Bz<|?_
 have bK:=ut (ap.mono (S':=(ob Ar++[])) aw aB) aO (ah il aB)
 have aQ:=ap.blk bK (aM (aD (ai ar) lr hJ.ho) az) bG
 refine mn<|cv aQ 15 (mG 21 0 0 0 0 0 0 0 0 0 0 0 nS nS nS (.slice bH ((L++[(dY.mk x.file x.record x.count x.words)]).length) bI) 0 0 0 0 0 nS) fun dj cz Y=>vm<|bn<|?_
 have aX:=ap.blk (u1 (ap.mono (S':=(ob Ar++(D :: []))) bK (ah il aB)) Y im) (aM (aD (ai Q) lr hJ.ho) (aa (Ne.symm V) az)) cu
 refine CM aX fun dk cA Z=>?_
 have aY:=ut (ap.mono (S':=(U :: (ob Ar++(D :: [])))) X (ac im aB)) (ut (ap.mono (S':=(ob Ar++(D :: (U :: [])))) aO (ah il aB)) (us Y Z) (ac im (ac im aB))) (ah il (ac im (ac im aB)))
 exact⟨by trivial,aY.size,bH,bI,⟨(ut hJ.u aY (ac im (ah (aT hJ.ho lr) (ac im aB)))),(ag.updl (ag.upd (ag.upd (ag.updl hJ.hC X (aa a2 az) hJ.hl rfl) aO (aM (aD (ag.lt bs) lr hJ.ho) az) (cR (du _ aC (by decide)) aK)) Y (aa bo az) (ak (aW aQ (by decide)) aK)) Z (aa a2 az) aX rfl),(ap.blk aY (aa br (aM (aD (ai bv) lr hJ.ho) (aa bp az))) hJ.hS),(b7 Z V cz),(aj (aj aE Y (fun x hx=>(aa (fun e=>(aD (ai ar) lr aE) (e▸hx)) az)) (bE.upd16 Y (ak (aW aQ (by decide)) aK))) Z (fun x hx=>(aa (fun e=>(aD (ai Q) lr aE) (e▸hx)) az)) (bE.updl Z aX rfl)),cA⟩⟩
 rintro _ cB ⟨rfl,dm,bL,bM,z⟩
 refine⟨_,_,rfl,z.hl,by simp[dE],by trivial,fun dn bN=>?_⟩
 refine ab z.hC fun aZ bO cD=>?_
 have cE:cB.heap[D]? = some (.cells #[vB 21,vB 0,vW 0,vW 0,vW 0,vW 0,vW 0,vW 0,vW 0,vW 0,vW 0,vW 0,nS,nS,nS,.slice bL ((bq eS (aA.mk (x51.bytesR ((aA.mk b false 0).byteV)) false 0).l.length 0 (aA.mk (x51.bytesR ((aA.mk b false 0).byteV)) false 0) []).2.length) bM,vB 0,vB 0,vB 0,vB 0,vB 0,nS] 45 (0,0)):=z.hm
 refine bn<|tn<|au 2<|?_
 have a4:=ag.updl cD bN (aa a2 az) z.hl rfl
 refine aF<|mq (ci a4)<|?_
 have dp:=ag.len a4
 refine Pl 2<|aF<|mq (ci a4)<|?_
 have dq:=ag.len a4
 refine aF<|m1 (iN (e:=aZ.e)) fun dr cF=>?_
 have a5:=aH bN cF
 have bQ:=u1 z.u a5 im
 have bR:=ud ae (uz g (u1 h i im)) M
 have bS:=ag.upd cj (ut (ap.mono (S':=[J]) bh aB) (ut (ap.mono (S':=[T,J,D]) a3 aB) bQ (ac im (ac im (ac im (ac (ni j.size H) aB))))) (ac (nr af) (ac im (ac (ni o.size O) aB)))) (aa (Ne.symm (nb (ai B) a0.size M)) az) (ak (aW (ub (aH a0 bR) B) (by decide)) aK)
 refine aF<|m2 (aU ((aZ.e==0)) (dP aZ.e) bS) fun ds cG b0=>?_
 refine ab cG fun bT bV bW=>?_
 refine aS 1<|aF<|m2 (ee bW) fun dw bX b1=>nt<|sq<|au 1<|aF<|mq (ci bX)<|?_
 have dx:=ag.len bX
 refine Pl 1<|dl 2<|?_
 have bY:=u1 b0 b1 im
 have b2:=u1 (ap.mono (S':=[T,J,D,U,ad]) bQ (ac im (ac im (ac im (ac im aB))))) bY im
 have b3:=ut (ap.mono (S':=[J]) bu aB) b2 (ac (ni bR.size af) (ac im (ac (ni (le (le (le (le (le q.size k.size) g.size) h.size) i.size) o.size) O) (ac (ni (le (le (le (le (le (le (le (le q.size k.size) g.size) h.size) i.size) o.size) p.size) d.size) j.size) H) (ac (nr M) aB)))))
 have bZ:=ud bc b3 (le I.size a8)
 have hs:aG bz dir 21 b=cC (b6.mk 21 0 0 0 0 0 0 0 0 0 0 0 [] [] [] (bq eS (aA.mk ((((aA.mk b false 0).bytesC 1).need (oe ((aA.mk b false 0).byteV)) 5).bytesR ((aA.mk b false 0).byteV)) false 0).l.length 0 (aA.mk ((((aA.mk b false 0).bytesC 1).need (oe ((aA.mk b false 0).byteV)) 5).bytesR ((aA.mk b false 0).byteV)) false 0) []).2 0 0 0 0 0 []) (((((aA.mk b false 0).bytesC 1).need (oe ((aA.mk b false 0).byteV)) 5).bytesC ((aA.mk b false 0).byteV)).need (((bq eS (aA.mk ((((aA.mk b false 0).bytesC 1).need (oe ((aA.mk b false 0).byteV)) 5).bytesR ((aA.mk b false 0).byteV)) false 0).l.length 0 (aA.mk ((((aA.mk b false 0).bytesC 1).need (oe ((aA.mk b false 0).byteV)) 5).bytesR ((aA.mk b false 0).byteV)) false 0) []).1).e==0) (dP ((bq eS (aA.mk ((((aA.mk b false 0).bytesC 1).need (oe ((aA.mk b false 0).byteV)) 5).bytesR ((aA.mk b false 0).byteV)) false 0).l.length 0 (aA.mk ((((aA.mk b false 0).bytesC 1).need (oe ((aA.mk b false 0).byteV)) 5).bytesR ((aA.mk b false 0).byteV)) false 0) []).1).e)):=by
   unfold aG bz dJ n8 wZ t8
   (try simp only[b8,bt,fO,fQ,fP,fR,fS,reduceIte,xk,xK,xH,if_pos hd])
   all_goals rfl
 refine cb ((bT.endC.e != 0)) (fun b4=>?_) (fun b4=>?_)
 have b5:=aN b4
 refine au 2<|?_
 refine aI (ub (ud a9 b3 a8) S) mZ fun dy cI c1=>al 1<|bJ<|?_
 have c2:=nb (ai S) (le (le (le (le (le (le (le (le (le (le (le E.size t.size) r.size) q.size) k.size) g.size) h.size) i.size) o.size) p.size) d.size) j.size) v
 refine Bw (ap.blk (u1 (ap.mono (S':=[T,J,D,U,ad,b9]) b2 (ac im (ac im (ac im (ac im (ac im aB)))))) c1 im) (aa (Ne.symm (nb (ag.lt G) (le (le p.size d.size) j.size) v)) (aa (Ne.symm (nb (ai B) (le (le (le (le (le (le (le (le (le (le t.size r.size) q.size) k.size) g.size) h.size) i.size) o.size) p.size) d.size) j.size) v)) (aa (Ne.symm (nb (ai P) (le d.size j.size) v)) (aa bm (aa (Ne.symm (nb (ag.lt N) (le (le (le (le (le (le (le k.size g.size) h.size) i.size) o.size) p.size) d.size) j.size) v)) (aa (Ne.symm c2) az)))))) ao) fun dz c3=>?_
 refine rx (b7 c3 c2 cI) (vI bT.endC.e)<|?_
 subst bV bO bg be
 rw[hs]
 exact cQ b5 (ut bZ (us c1 c3) (ac (nr ba) (ac (ni (le (le (le (le (le (le (le (le (le (le (le (le I.size E.size) t.size) r.size) q.size) k.size) g.size) h.size) i.size) o.size) p.size) d.size) j.size) v) aB)))
 have b5:=aV b4
 refine bU<|sg<|?_
 refine L0<|cH (ap.blk (us a5 bY) (aa V (aa (Ne.symm (nb (ag.lt N) (le (le (le (le k.size g.size) h.size) i.size) o.size) O)) az)) cE)<|?_
 have c4:=ub (ud a9 b3 a8) S
 refine aI c4 (mG 21 0 0 0 0 0 0 0 0 0 0 0 nS nS nS (.slice bL ((bq eS (aA.mk (x51.bytesR ((aA.mk b false 0).byteV)) false 0).l.length 0 (aA.mk (x51.bytesR ((aA.mk b false 0).byteV)) false 0) []).2.length) bM) 0 0 0 0 0 nS) fun dA cJ a6=>al 1<|rt<|?_
 have c5:=nb (ai S) (le (le (le (le (le (le (le (le (le (le (le E.size t.size) r.size) q.size) k.size) g.size) h.size) i.size) o.size) p.size) d.size) j.size) v
 have c6:=ap.blk (u1 (ap.mono (S':=[T,J,D,U,ad,b9]) b2 (ac im (ac im (ac im (ac im (ac im aB)))))) a6 im) (aa (Ne.symm (nb (ag.lt G) (le (le p.size d.size) j.size) v)) (aa (Ne.symm (nb (ai B) (le (le (le (le (le (le (le (le (le (le t.size r.size) q.size) k.size) g.size) h.size) i.size) o.size) p.size) d.size) j.size) v)) (aa (Ne.symm (nb (ai P) (le d.size j.size) v)) (aa bm (aa (Ne.symm (nb (ag.lt N) (le (le (le (le (le (le (le k.size g.size) h.size) i.size) o.size) p.size) d.size) j.size) v)) (aa (Ne.symm c5) az)))))) ao
 refine Bw c6 fun dB a7=>?_
 refine rx (b7 a7 c5 cJ) (vI 0)<|?_
 subst bV bO bg be
 rw[hs]
 exact de b5 ⟨_,_,_,_,_,rfl,aP.nil ..,aP.nil ..,aP.nil ..,(aP.hi_le (aJ.hi (aj (aj (aj (aj (aj z.ho a5 (fun x hx=>(aa (fun e=>(aD (ai Q) lr z.ho) (e▸hx)) az)) (bE.updl a5 z.hl rfl)) b0 (fun x hx=>(aa (fun e=>(aD (ag.lt N) (le (le (le (le (le (le (le (le k.size g.size) h.size) i.size) o.size) p.size) d.size) j.size) F.size) z.ho) (e▸hx)) az)) (bE.upd16 b0 (ak (ag.safe bS _ (by decide)) aK))) b1 (fun x hx=>(aa (fun e=>(aD (ag.lt N) (le (le (le (le (le (le (le (le k.size g.size) h.size) i.size) o.size) p.size) d.size) j.size) F.size) z.ho) (e▸hx)) az)) (bE.upd16 b1 (ak (ag.safe bW _ (by decide)) aK))) a6 (fun x hx=>(aa (fun e=>(aD (ai S) (le (le (le (le (le (le (le (le (le (le (le (le E.size t.size) r.size) q.size) k.size) g.size) h.size) i.size) o.size) p.size) d.size) j.size) F.size) z.ho) (e▸hx)) az)) (bE.upd16 a6 (ak (aW c4 (by decide)) aK))) a7 (fun x hx=>(aa (fun e=>(aD (ai ao) lr z.ho) (e▸hx)) az)) (bE.updl a7 c6 rfl)) lr) (le (le (le (le (le (le (le (le (le (le (le (le (le I.size E.size) t.size) r.size) q.size) k.size) g.size) h.size) i.size) o.size) p.size) d.size) j.size) F.size) (bE.lo (le (le (le (le (le (le (le (le (le (le (le (le (le I.size E.size) t.size) r.size) q.size) k.size) g.size) h.size) i.size) o.size) p.size) d.size) j.size) F.size))),aP.nil ..,(ek (by omega))⟩ (ut bZ (us a6 a7) (ac (nr ba) (ac (ni (le (le (le (le (le (le (le (le (le (le (le (le I.size E.size) t.size) r.size) q.size) k.size) g.size) h.size) i.size) o.size) p.size) d.size) j.size) v) aB)))
theorem uW{A:Option Addr}{cp:Nat}{b:List Int}{w:World}{c:Int}(n1:(c==20)=false)(n2:(c==21)=false) : Calls Tryz.prog 102 #[vI 0,vB c,.slice A b.length cp] w (dL (aG bz 0 c b) w):=by
 refine Bt 77 Tryz.func102 rfl<|sg<|aL mZ fun n o d e f=>al 1<|sq<|ay 6<|c0<|bU<|au 2<|aF (args:=#[vI 0,vB c])<|m1 (oG (dir:=0) (x:=c) n1 n2) fun p g=>Pl 3<|aL #[.nilFunc,.nilFunc] fun q r h i j=>aI i #[.nilFunc,.nilFunc] fun s t k=>al 1<|sq<|sq<|go<|al 2<|c1<|au 1<|?_
 have a:=aH g (ud j k h)
 refine aI (ub a e) mZ fun u l m=>al 1<|bJ<|ry l (vI 4)<|?_
 exact dA (by unfold aG bz;(try simp only[bt,fO,fQ,fP,fR,fS,reduceIte,n1,n2])<;>rfl) (bV (ud f (uz a m) d))
theorem u4{A:Option Addr}{cp:Nat}{b:List Int}{w:World}{c:Int}(n1:(c==20)=false)(n2:(c==21)=false) : Calls Tryz.prog 102 #[vI 1,vB c,.slice A b.length cp] w (dL (aG bz 1 c b) w):=by
 refine Bt 77 Tryz.func102 rfl<|sg<|aL mZ fun n o d e f=>al 1<|sq<|ay 6<|c0<|bU<|au 2<|aF (args:=#[vI 1,vB c])<|m1 (oG (dir:=1) (x:=c) n1 n2) fun p g=>Pl 3<|aL #[.nilFunc,.nilFunc] fun q r h i j=>aI i #[.nilFunc,.nilFunc] fun s t k=>al 1<|sq<|sq<|go<|al 2<|c1<|au 1<|?_
 have a:=aH g (ud j k h)
 refine aI (ub a e) mZ fun u l m=>al 1<|bJ<|ry l (vI 4)<|?_
 exact dA (by unfold aG bz;(try simp only[bt,fO,fQ,fP,fR,fS,reduceIte,n1,n2])<;>rfl) (bV (ud f (uz a m) d))
theorem uw{A:Option Addr}{cp:Nat}{b:List Int}{w:World}{dir c:Int}(hd:¬ (dir=0∨dir=1)) : Calls Tryz.prog 102 #[vI dir,vB c,.slice A b.length cp] w (dL (aG bz dir c b) w):=by
 have e0:(dir != 0)=true:=by simp;omega
 have e1:(dir != 1)=true:=by simp;omega
 refine Bt 77 Tryz.func102 rfl<|sg<|aL mZ fun g h a d e=>al 1<|sq<|au 3<|sy 18 e0<|Pl 3<|nl<|tn<|ct e1<|au 1<|aI d mZ fun i eo f=>al 1<|bJ<|ry eo (vI 1)<|?_
 exact dA (by unfold aG bz;(try simp only[e0,e1,bt,fO,fQ,fP,fR,fS,reduceIte,hd])<;>rfl) (bV (ud e f a))
theorem jZ{m:Md}{v:Value}{b:List Int}{w:World}{dir c:Int}(hc:B8 c)(h:aR m w v b)(hb:b.length≤1048576) :
    Calls Tryz.prog 102 #[.int .i64 dir,.int .u8 c,v] w (dL (aG bz dir c b) w):=by
  obtain⟨A,cp,rfl,_,_⟩:=h.shape
  by_cases h0:dir=0
  · subst h0
    by_cases a:c=20
    · subst a;exact pk (Or.inl (rfl:(0:Int)=0)) h hb
    by_cases d:c=21
    · subst d;exact mK (Or.inl rfl) h hb
    exact uW (by simpa using a) (by simpa using d)
  by_cases h1:dir=1
  · subst h1
    by_cases a:c=20
    · subst a;exact pD (Or.inl (rfl:(0:Int)=0)) h hb
    by_cases d:c=21
    · subst d;exact mK (Or.inr rfl) h hb
    exact u4 (by simpa using a) (by simpa using d)
  exact uw (by omega)
open Go.RowKit
def fx (res:Option (List Int))(w:World)(e:Ending)(w':World) : Prop :=
  match res with
  | some l=>∃ v,e = .returned (.tuple #[v,.int .i64 0])∧cn w.heap.size w' v l∧ap [] w w'
  | none=>e = .returned (.tuple #[.slice none 0 0,.int .i64 1])∧ap [] w w'
def cg (parse:Int→Int→List Int→b6 × Int)(lay:Int→b6→List Int)(dir:Int)(M:b6) : Option (List Int) :=
  if parse dir M.code (lay dir M)=(M,0) then some (lay dir M) else none
def fw:=aG bj
def gj:=aG bQ
def fW:=aG bv
def i6:=aG cc
def fa:=aG bz
open Go.RowKit
def pq (M:b6) : Option (List Int):=if !(i7 M.code M.fail) then none else if !(decide (M=j5 M.code M.fail)) then none else some [(M.code+128)%256,M.fail]
theorem mP{m:Md}{cs:Array Value}{M:b6}{w:World}(h:aE m w cs.toList M) : Calls Tryz.prog 72 #[.agg cs] w (fx (pq M) w):=by
 have hM:=h
 refine iK h fun Aw kw Ab kb Ad kd Ar kr Ao ko e hw hbt hd hr ho _ _ _ _ _ _ _ _ _ _ q0 q1 q2 q3 q4 q5 q6 q7 q8 q9 X Y Z a0 a1 a2 a3=>?_
 subst e
 refine en 26 Tryz.func72 rfl<|sg<|L0<|cU (mG M.code M.fail M.addr M.count M.value M.and_ M.or_ M.addr2 M.sub M.status M.events M.messages (.slice Aw M.words.length kw) (.slice Ab M.bits.length kb) (.slice Ad M.data.length kd) (.slice Ar M.recs.length kr) M.mei M.kind M.level M.more M.next (.slice Ao M.objects.length ko)) fun s a4 a5 k J=>Pl 2<|aS 1<|ax k 0<|Pl 1<|ax k 1<|Pl 1<|aL #[vB 0,vB 0] fun l a6 K L N=>?_
 refine aI L #[vB M.code,vB M.fail] fun a7 O P=>nt<|sq<|sq<|Rg 10 (fun w'=>w'.heap[l]? = some (.cells #[vB M.code,vB M.fail] 145 (0,0))∧w'.heap[s]? = some (.cells (mG M.code M.fail M.addr M.count M.value M.and_ M.or_ M.addr2 M.sub M.status M.events M.messages (.slice Aw M.words.length kw) (.slice Ab M.bits.length kb) (.slice Ad M.data.length kd) (.slice Ar M.recs.length kr) M.mei M.kind M.level M.more M.next (.slice Ao M.objects.length ko)) 45 (0,0))) fun a8 t=>?_
 have u:=ub t O
 have v:=ud N (aH P t) K
 have z:=ub v k
 refine b9 ⟨u,z⟩ fun Q=>Rr 0 Q (.agg #[vB M.code,vB M.fail]) (fun w' hs=>gg (g:=l) (off:=0) [vB M.code,vB M.fail] rfl (by kernel_rfl) hs.1 (by kernel_rfl) (by kernel_rfl) rfl)<|R0 1 rfl<|Oc<|m1 (uZ (a:=M.code) (b:=M.fail) (w:=_)) fun a9 n=>?_
 have C:=ub n u
 have D:=ub n z
 refine b9 ⟨C,D⟩ fun c=>Rt 2 c<|Rt 3 c<|?_
 have E:=aH J (aH v n)
 refine y2 13 ((!(i7 M.code M.fail))) (fun d=>?_) (fun d=>?_)
 have j:(i7 M.code M.fail)=false:=by simpa using d
 exact Ro 4 c<|Ro 5 c<|Ro 6 c<|Ro 7 c<|Ro 8 c<|Rt 9 c<|re<|tn<|c1<|ay 2<|bJ<|rr (.tuple #[nS,vI 1])<|dA (y:=none) (by unfold pq;(try simp only[d,j,bt,reduceIte])<;>rfl) ⟨rfl,E⟩
 have j:(i7 M.code M.fail)=true:=by simpa using d
 refine Rr 4 c (.agg (mG M.code M.fail M.addr M.count M.value M.and_ M.or_ M.addr2 M.sub M.status M.events M.messages (.slice Aw M.words.length kw) (.slice Ab M.bits.length kb) (.slice Ad M.data.length kd) (.slice Ar M.recs.length kr) M.mei M.kind M.level M.more M.next (.slice Ao M.objects.length ko))) (fun w' hs=>gg (g:=s) (off:=0) [vB M.code,vB M.fail,vW M.addr,vW M.count,vW M.value,vW M.and_,vW M.or_,vW M.addr2,vW M.sub,vW M.status,vW M.events,vW M.messages,.slice Aw M.words.length kw,.slice Ab M.bits.length kb,.slice Ad M.data.length kd,.slice Ar M.recs.length kr,vB M.mei,vB M.kind,vB M.level,vB M.more,vB M.next,.slice Ao M.objects.length ko] rfl (by kernel_rfl) hs.2 (by kernel_rfl) (by kernel_rfl) rfl)<|Rr 5 c (.agg #[vB M.code,vB M.fail]) (fun w' hs=>gg (g:=l) (off:=0) [vB M.code,vB M.fail] rfl (by kernel_rfl) hs.1 (by kernel_rfl) (by kernel_rfl) rfl)<|R0 6 rfl<|Oc<|m1 (la (a:=M.code) (b:=M.fail) (w:=_)) fun aa o=>?_
 have F:=ub o C
 have G:=ub o D
 refine b9 ⟨F,G⟩ fun ab=>?_
 have H:=aH E o
 refine R0 7 rfl<|Oc<|m1 (ga (A:=M) (B:=j5 M.code M.fail) (aE.old hM H) (show aE true _ _ _ from⟨_,_,_,_,_,rfl,aP.nil ..,aP.nil ..,aP.nil ..,aP.nil ..,aP.nil ..,⟨(b8 (x:=M.code) (by omega)),(b8 (x:=M.fail) (by omega)),(co (x:=0) (by omega)),(co (x:=0) (by omega)),(co (x:=0) (by omega)),(co (x:=0) (by omega)),(co (x:=0) (by omega)),(co (x:=0) (by omega)),(co (x:=0) (by omega)),(co (x:=0) (by omega)),(co (x:=0) (by omega)),(co (x:=0) (by omega)),(b8 (x:=0) (by omega)),(b8 (x:=0) (by omega)),(b8 (x:=0) (by omega)),(b8 (x:=0) (by omega)),(b8 (x:=0) (by omega))⟩⟩)) fun ac p=>?_
 have q:=ub p G
 refine b9 ⟨(ub p F),q⟩ fun I=>Rt 8 I<|Rt 9 I<|re<|tn<|?_
 have r:=aH H p
 refine cb ((!(decide (M=j5 M.code M.fail)))) (fun f=>?_) (fun f=>?_)
 have i:(decide (M=j5 M.code M.fail))=false:=by simpa using f
 have R:=of_decide_eq_false i
 exact ay 2<|bJ<|rr (.tuple #[nS,vI 1])<|dA (y:=none) (by unfold pq;(try simp only[d,j,f,i,bt,reduceIte])<;>rfl) ⟨rfl,r⟩
 have i:(decide (M=j5 M.code M.fail))=true:=by simpa using f
 have R:=of_decide_eq_true i
 refine bU<|au 1<|ax q 0<|Pl 2<|ax q 1<|L0<|dv (m:=2) (e:=5) #[vB ((M.code+128)%256),vB M.fail] fun S ad T U V=>?_
 have W:=dF T (xs:=[((M.code+128)%256),M.fail]) (by as_aux_lemma=>kernel_rfl) (am (by omega) (am (by omega) aY)) (by(try simp only[List.length_cons,List.length_nil]);omega) U
 refine al 2<|rt<|rr (.tuple #[.slice (some ⟨S,0,none⟩) 2 2,vI 0])<|?_
 exact dA (y:=(some [((M.code+128)%256),M.fail])) (by unfold pq;(try simp only[d,j,f,i,bt,reduceIte])<;>rfl) ⟨_,rfl,(aJ.weaken W r.size),(aH r V)⟩
open Go.RowKit
def bL (dir:Int)(M:b6) : List Int :=
  if (!(dir==0))&&(M.code==3 || M.code==4 || M.code==23) then [(2*(M.words.length:Int))%256]++aQ M.words
  else if M.code==6 then aQ [M.addr,M.value]
  else if M.code==22 then aQ [M.addr,M.and_,M.or_]
  else if M.code==16&&dir==0 then ((aQ [M.addr,M.count]++[(2*(M.words.length:Int))%256])++aQ M.words)
  else if M.code==23 then ((aQ [M.addr,M.count,M.addr2,(M.words.length:Int)%65536]++[(2*(M.words.length:Int))%256])++aQ M.words)
  else if M.code==24&&dir==0 then aQ [M.addr]
  else if M.code==24 then aQ [(2+2*(M.words.length:Int))%65536,(M.words.length:Int)%65536]++aQ M.words
  else aQ [M.addr,M.count]
theorem w6{m:Md}{cs:Array Value}{M:b6}{w:World}{dir:Int}(h:aE m w cs.toList M)(hf:bf M) : Calls Tryz.prog 149 #[vI dir,.agg cs] w (wK (bL dir M) w):=by
 refine iK h fun Aw kw Ab kb Ad kd Ar kr Ao ko e hw hbt hd hr ho _ _ _ _ _ _ _ _ _ _ q0 q1 q2 q3 q4 q5 q6 q7 q8 q9 bI bJ bM bN bO bP bQ=>?_
 subst e
 have hf1:=hf.words
 have hf2:=hf.bits
 have hf3:=hf.data
 have hf4:=hf.recs
 have hf5:=hf.objects
 refine en 124 Tryz.func149 rfl<|sg<|L0<|cU (mG M.code M.fail M.addr M.count M.value M.and_ M.or_ M.addr2 M.sub M.status M.events M.messages (.slice Aw M.words.length kw) (.slice Ab M.bits.length kb) (.slice Ad M.data.length kd) (.slice Ar M.recs.length kr) M.mei M.kind M.level M.more M.next (.slice Ao M.objects.length ko)) fun bR bS bT A d=>Pl 1<|aS 1<|ax A 12<|al 2<|au 1<|bA (2*(M.words.length:Int))<|Pl 1<|L0<|dv (m:=1) (e:=5) #[vB ((2*(M.words.length:Int))%256)] fun bU bV a4 a5 f=>?_
 have q:=dF a4 (xs:=[((2*(M.words.length:Int))%256)]) (by as_aux_lemma=>kernel_rfl) (am (by omega) aY) (by(try simp only[List.length_cons,List.length_nil]);omega) a5
 refine Pl 1<|?_
 have B:=ub f A
 refine ax B 12<|?_
 have C:=aH d f
 refine aF<|eU (bW (xs:=M.words) (eO.old hw C) (by(try simp only[List.length_cons,List.length_nil]);omega)) fun bX bY bZ r c0 c1 b=>Pl 2<|dl 3<|sq<|au 1<|?_
 have a:=ub b B
 refine ax a 0<|al 1<|bk<|au 3<|cu 11 [27] 38 (((!(dir==0))&&(((M.code==3)||(M.code==4))||(M.code==23)))) (fun K D=>?_) ?_
 refine bl 27 ((!(dir==0))) (fun o=>?_) (fun o=>?_)
 have u:(dir==0)=false:=by simpa using o
 have a6:=aO u
 refine Pl 3<|xG 3 [30] 33 30 (M.code==3) (M.code==4) (fun K a7 a8=>?_) ?_
 have c2:=aO a8
 exact Pl 3<|ce a7 _ rfl
 refine Pl 1<|xG 3 [34] 37 34 ((M.code==3)||(M.code==4)) (M.code==23) (fun K a9 E=>?_) ?_
 have aa:=(uC E).1
 have ab:=(uC E).2
 have c3:=aO aa
 have c4:=aO ab
 exact Pl 3<|ce a9 _ rfl
 exact Pl 1<|ce D (((M.code==3)||(M.code==4))||(M.code==23)) (by rw[o];rfl)
 have u:(dir==0)=true:=by simpa using o
 have a6:=aC u
 exact Pl 11<|ce D false (by rw[o];rfl)
 refine al 1<|?_
 have j:=aH C b
 refine cb (((!(dir==0))&&(((M.code==3)||(M.code==4))||(M.code==23)))) (fun c=>?_) (fun c=>?_)
 have F:=(bK c).1
 have ac:=(bK c).2
 have G:(dir==0)=false:=by simpa using F
 have q41anp:=aO G
 refine au 2<|?_
 refine L0<|cZ bh (xs:=([((2*(M.words.length:Int))%256)])) (ys:=(aQ M.words)) (vB 0) 1 (aj q b (fun x hx=>az) (fun _ _ h=>h)) (r).rd (by(try simp only[cl,aq]);omega) (le f.size b.size) fun ad ae c5 af ag=>al 1<|rt<|br<|tr<|rr (.slice ad (([((2*(M.words.length:Int))%256)]++(aQ M.words)).length) ae)<|?_
 have hs:bL dir M=([((2*(M.words.length:Int))%256)]++(aQ M.words)):=by
   unfold bL
   (try simp only[c,F,G,ac,bt,reduceIte])
   all_goals first | rfl | (simp_all;done)
 rw[hs]
 exact⟨_,rfl,(aJ.weaken af d.size),(ut j ag (ah (aT q d.size) aB))⟩
 refine ay 3<|cb ((M.code==6)) (fun g=>?_) (fun g=>?_)
 have ai:=aC g
 refine au 1<|ax a 2<|Pl 1<|ax a 4<|L0<|dv (m:=2) (e:=37) #[vW M.addr,vW M.value] fun c6 c7 ak an H=>?_
 have ao:=gN ak (xs:=[M.addr,M.value]) (by as_aux_lemma=>kernel_rfl) (am (by omega) (am (by omega) aY)) (by(try simp only[List.length_cons,List.length_nil]);omega) an
 refine aF<|eU (bW (xs:=[M.addr,M.value]) (ao).rd (by(try simp only[List.length_cons,List.length_nil]);omega)) fun ap ar c8 av c9 ca aw=>al 1<|rt<|br<|tr<|rr (.slice ap ((aQ ([M.addr,M.value])).length) ar)<|?_
 have hs:bL dir M=(aQ ([M.addr,M.value])):=by
   unfold bL
   (try simp only[c,g,bt,reduceIte])
   all_goals first | rfl | (simp_all;done)
 rw[hs]
 exact⟨_,rfl,(aJ.weaken av (le (le (le d.size f.size) b.size) H.size)),(aH j (aH H aw))⟩
 have ai:=aO g
 refine ay 3<|cb ((M.code==22)) (fun i=>?_) (fun i=>?_)
 have aA:=aC i
 refine au 1<|ax a 2<|Pl 1<|ax a 5<|Pl 1<|ax a 6<|L0<|dv (m:=3) (e:=37) #[vW M.addr,vW M.and_,vW M.or_] fun cc cd aD aG I=>?_
 have aI:=gN aD (xs:=[M.addr,M.and_,M.or_]) (by as_aux_lemma=>kernel_rfl) (am (by omega) (am (by omega) (am (by omega) aY))) (by(try simp only[List.length_cons,List.length_nil]);omega) aG
 refine aF<|eU (bW (xs:=[M.addr,M.and_,M.or_]) (aI).rd (by(try simp only[List.length_cons,List.length_nil]);omega)) fun aK aL cf aM cg ch aN=>al 1<|rt<|br<|tr<|rr (.slice aK ((aQ ([M.addr,M.and_,M.or_])).length) aL)<|?_
 have hs:bL dir M=(aQ ([M.addr,M.and_,M.or_])):=by
   unfold bL
   (try simp only[c,g,i,bt,reduceIte])
   all_goals first | rfl | (simp_all;done)
 rw[hs]
 exact⟨_,rfl,(aJ.weaken aM (le (le (le d.size f.size) b.size) I.size)),(aH j (aH I aN))⟩
 have aA:=aO i
 refine au 3<|gy 2 [65] 67 65 (M.code==16) (dir==0) (fun K aP aR=>?_) ?_
 have ci:=aC aR
 exact Pl 2<|ce aP _ rfl
 refine al 1<|cb (((M.code==16)&&(dir==0))) (fun k=>?_) (fun k=>?_)
 have J:=(bK k).1
 have L:=(bK k).2
 have cj:=aC J
 have ck:=aC L
 refine au 1<|ax a 2<|Pl 1<|ax a 3<|L0<|dv (m:=2) (e:=37) #[vW M.addr,vW M.count] fun cm cn aU aV s=>?_
 have aW:=gN aU (xs:=[M.addr,M.count]) (by as_aux_lemma=>kernel_rfl) (am (by omega) (am (by omega) aY)) (by(try simp only[List.length_cons,List.length_nil]);omega) aV
 refine aF<|eU (bW (xs:=[M.addr,M.count]) (aW).rd (by(try simp only[List.length_cons,List.length_nil]);omega)) fun co cp cq N cr ct v=>Pl 1<|?_
 have O:=aH s v
 refine L0<|cZ bh (xs:=(aQ ([M.addr,M.count]))) (ys:=([((2*(M.words.length:Int))%256)])) (vB 0) 1 N ((aj q (aH b O) (fun x hx=>az) (fun _ _ h=>h))).rd (by(try simp only[cl,aq]);omega) v.size fun cv cw cx P Q=>Pl 1<|?_
 have R:=ut O Q (ah (aT N s.size) aB)
 refine L0<|cZ bh (xs:=((aQ ([M.addr,M.count]))++[((2*(M.words.length:Int))%256)])) (ys:=(aQ M.words)) (vB 0) 1 P ((aj r R (fun x hx=>az) (fun _ _ h=>h))).rd (by(try simp only[cl,aq]);omega) (le v.size Q.size) fun aX aZ cy b0 b1=>al 1<|rt<|br<|tr<|rr (.slice aX ((((aQ ([M.addr,M.count]))++[((2*(M.words.length:Int))%256)])++(aQ M.words)).length) aZ)<|?_
 have hs:bL dir M=(((aQ ([M.addr,M.count]))++[((2*(M.words.length:Int))%256)])++(aQ M.words)):=by
   unfold bL
   (try simp only[c,g,i,k,J,L,bt,reduceIte])
   all_goals first | rfl | (simp_all;done)
 rw[hs]
 exact⟨_,rfl,(aJ.weaken b0 (le (le (le d.size f.size) b.size) s.size)),(aH j (ut R b1 (ah (aT P s.size) aB)))⟩
 refine ay 3<|cb ((M.code==23)) (fun l=>?_) (fun l=>?_)
 have b2:=aC l
 refine au 1<|ax a 2<|Pl 1<|ax a 3<|Pl 1<|ax a 7<|Pl 2<|L0<|dv (m:=4) (e:=37) #[vW M.addr,vW M.count,vW M.addr2,vW ((M.words.length:Int)%65536)] fun cz cA b3 b4 t=>?_
 have b5:=gN b3 (xs:=[M.addr,M.count,M.addr2,((M.words.length:Int)%65536)]) (by as_aux_lemma=>kernel_rfl) (am (by omega) (am (by omega) (am (by omega) (am (by omega) aY)))) (by(try simp only[List.length_cons,List.length_nil]);omega) b4
 refine aF<|eU (bW (xs:=[M.addr,M.count,M.addr2,((M.words.length:Int)%65536)]) (b5).rd (by(try simp only[List.length_cons,List.length_nil]);omega)) fun cB cC cD S cE cF y=>Pl 1<|?_
 have T:=aH t y
 refine L0<|cZ bh (xs:=(aQ ([M.addr,M.count,M.addr2,((M.words.length:Int)%65536)]))) (ys:=([((2*(M.words.length:Int))%256)])) (vB 0) 1 S ((aj q (aH b T) (fun x hx=>az) (fun _ _ h=>h))).rd (by(try simp only[cl,aq]);omega) y.size fun cG cH cI U V=>Pl 1<|?_
 have W:=ut T V (ah (aT S t.size) aB)
 refine L0<|cZ bh (xs:=((aQ ([M.addr,M.count,M.addr2,((M.words.length:Int)%65536)]))++[((2*(M.words.length:Int))%256)])) (ys:=(aQ M.words)) (vB 0) 1 U ((aj r W (fun x hx=>az) (fun _ _ h=>h))).rd (by(try simp only[cl,aq]);omega) (le y.size V.size) fun b7 b8 cJ b9 ba=>al 1<|rt<|br<|tr<|rr (.slice b7 ((((aQ ([M.addr,M.count,M.addr2,((M.words.length:Int)%65536)]))++[((2*(M.words.length:Int))%256)])++(aQ M.words)).length) b8)<|?_
 have hs:bL dir M=(((aQ ([M.addr,M.count,M.addr2,((M.words.length:Int)%65536)]))++[((2*(M.words.length:Int))%256)])++(aQ M.words)):=by
   unfold bL
   (try simp only[c,g,i,k,l,bt,reduceIte])
   all_goals first | rfl | (simp_all;done)
 rw[hs]
 exact⟨_,rfl,(aJ.weaken b9 (le (le (le d.size f.size) b.size) t.size)),(aH j (ut W ba (ah (aT U t.size) aB)))⟩
 have b2:=aO l
 refine au 3<|gy 2 [98] 100 98 (M.code==24) (dir==0) (fun K bb bc=>?_) ?_
 have cK:=aC bc
 exact Pl 2<|ce bb _ rfl
 refine al 1<|cb (((M.code==24)&&(dir==0))) (fun n=>?_) (fun n=>?_)
 have X:=(bK n).1
 have Y:=(bK n).2
 have cL:=aC X
 have cM:=aC Y
 refine au 1<|ax a 2<|L0<|dv (m:=1) (e:=37) #[vW M.addr] fun cN cO bd be Z=>?_
 have bg:=gN bd (xs:=[M.addr]) (by as_aux_lemma=>kernel_rfl) (am (by omega) aY) (by(try simp only[List.length_cons,List.length_nil]);omega) be
 refine aF<|eU (bW (xs:=[M.addr]) (bg).rd (by(try simp only[List.length_cons,List.length_nil]);omega)) fun bi bj cP bm cQ cR bo=>al 1<|rt<|br<|tr<|rr (.slice bi ((aQ ([M.addr])).length) bj)<|?_
 have hs:bL dir M=(aQ ([M.addr])):=by
   unfold bL
   (try simp only[c,g,i,k,l,n,X,Y,bt,reduceIte])
   all_goals first | rfl | (simp_all;done)
 rw[hs]
 exact⟨_,rfl,(aJ.weaken bm (le (le (le d.size f.size) b.size) Z.size)),(aH j (aH Z bo))⟩
 refine ay 3<|cb ((M.code==24)) (fun p=>?_) (fun p=>?_)
 have bp:=aC p
 refine au 1<|bA (2*(M.words.length:Int))<|bA (2+(2*(M.words.length:Int)))<|Pl 3<|L0<|dv (m:=2) (e:=37) #[vW ((2+(2*(M.words.length:Int)))%65536),vW ((M.words.length:Int)%65536)] fun cS cT bq bs z=>?_
 have bu:=gN bq (xs:=[((2+(2*(M.words.length:Int)))%65536),((M.words.length:Int)%65536)]) (by as_aux_lemma=>kernel_rfl) (am (by omega) (am (by omega) aY)) (by(try simp only[List.length_cons,List.length_nil]);omega) bs
 refine aF<|eU (bW (xs:=[((2+(2*(M.words.length:Int)))%65536),((M.words.length:Int)%65536)]) (bu).rd (by(try simp only[List.length_cons,List.length_nil]);omega)) fun cV cW cX a0 cY d0 a1=>Pl 1<|?_
 have a2:=aH z a1
 refine L0<|cZ bh (xs:=(aQ ([((2+(2*(M.words.length:Int)))%65536),((M.words.length:Int)%65536)]))) (ys:=(aQ M.words)) (vB 0) 1 a0 ((aj r a2 (fun x hx=>az) (fun _ _ h=>h))).rd (by(try simp only[cl,aq]);omega) a1.size fun bv bw d1 bx bz=>al 1<|rt<|br<|tr<|rr (.slice bv (((aQ ([((2+(2*(M.words.length:Int)))%65536),((M.words.length:Int)%65536)]))++(aQ M.words)).length) bw)<|?_
 have hs:bL dir M=((aQ ([((2+(2*(M.words.length:Int)))%65536),((M.words.length:Int)%65536)]))++(aQ M.words)):=by
   unfold bL
   (try simp only[c,g,i,k,l,n,p,bt,reduceIte])
   all_goals first | rfl | (simp_all;done)
 rw[hs]
 exact⟨_,rfl,(aJ.weaken bx (le (le (le d.size f.size) b.size) z.size)),(aH j (ut a2 bz (ah (aT a0 z.size) aB)))⟩
 have bp:=aO p
 refine sk<|bn<|tn<|au 1<|ax a 2<|Pl 1<|ax a 3<|L0<|dv (m:=2) (e:=37) #[vW M.addr,vW M.count] fun d2 d3 bB bC a3=>?_
 have bD:=gN bB (xs:=[M.addr,M.count]) (by as_aux_lemma=>kernel_rfl) (am (by omega) (am (by omega) aY)) (by(try simp only[List.length_cons,List.length_nil]);omega) bC
 refine aF<|eU (bW (xs:=[M.addr,M.count]) (bD).rd (by(try simp only[List.length_cons,List.length_nil]);omega)) fun bE bF d4 bG d5 d6 bH=>al 1<|rt<|rr (.slice bE ((aQ ([M.addr,M.count])).length) bF)<|?_
 have hs:bL dir M=(aQ ([M.addr,M.count])):=by
   unfold bL
   (try simp only[c,g,i,k,l,n,p,bt,reduceIte])
   all_goals first | rfl | (simp_all;done)
 rw[hs]
 exact⟨_,rfl,(aJ.weaken bG (le (le (le d.size f.size) b.size) a3.size)),(aH j (aH a3 bH))⟩
open Go.RowKit
def bG (dir:Int)(M:b6) : List Int :=
  if M.code==8 then aQ [M.sub]++aQ M.words
  else if dir==0 then []
  else if M.code==7 then [M.value%256]
  else if M.code==11 then aQ [M.status,M.events]
  else if M.code==12 then (([(6+(M.data.length:Int))%256]++aQ [M.status,M.events,M.messages])++M.data)
  else [(M.data.length:Int)%256]++M.data
theorem wu{m:Md}{cs:Array Value}{M:b6}{w:World}{dir:Int}(h:aE m w cs.toList M)(hf:bf M) : Calls Tryz.prog 152 #[vI dir,.agg cs] w (wK (bG dir M) w):=by
 refine iK h fun Aw kw Ab kb Ad kd Ar kr Ao ko e hw hbt hd hr ho _ _ _ _ _ _ _ _ _ _ q0 q1 q2 q3 q4 q5 q6 q7 q8 q9 bU bV bX bY bZ c0 c1=>?_
 subst e
 have hf1:=hf.words
 have hf2:=hf.bits
 have hf3:=hf.data
 have hf4:=hf.recs
 have hf5:=hf.objects
 refine en 70 Tryz.func152 rfl<|sg<|L0<|cU (mG M.code M.fail M.addr M.count M.value M.and_ M.or_ M.addr2 M.sub M.status M.events M.messages (.slice Aw M.words.length kw) (.slice Ab M.bits.length kb) (.slice Ad M.data.length kd) (.slice Ar M.recs.length kr) M.mei M.kind M.level M.more M.next (.slice Ao M.objects.length ko)) fun n c2 c3 b a=>al 1<|sq<|bk<|au 1<|ax b 0<|Pl 2<|nl<|tn<|cb ((M.code==8)) (fun d=>?_) (fun d=>?_)
 have ao:=aC d
 refine sq<|Rg 9 (fun w'=>w'.cell? ⟨n,8,none⟩=some (vW M.sub)∧w'.cell? ⟨n,12,none⟩=some (.slice Aw M.words.length kw)) fun c4 q=>?_
 have K:=ub q b
 refine b9 ⟨(ae K rfl),(ae K rfl)⟩ fun F=>Rt 0 F<|Rl 1 F (fun _ hs=>hs.1)<|Rt 4 F<|Rl 5 F (fun _ hs=>hs.2)<|R0 2 rfl<|dv (m:=1) (e:=37) #[vW M.sub] fun c5 c6 ar av r=>?_
 have aw:=gN ar (xs:=[M.sub]) (by as_aux_lemma=>kernel_rfl) (am (by omega) aY) (by(try simp only[List.length_cons,List.length_nil]);omega) av
 have L:=ub r K
 refine b9 ⟨(ae L rfl),(ae L rfl)⟩ fun c7=>R0 3 rfl<|Oc<|eU (bW (xs:=[M.sub]) (aw).rd (by(try simp only[List.length_cons,List.length_nil]);omega)) fun aA c8 c9 N ca cc O=>?_
 have P:=ub O L
 refine b9 ⟨(ae P rfl),(ae P rfl)⟩ fun cd=>?_
 have Y:=aH a (aH q (aH r O))
 refine R0 6 rfl<|Oc<|eU (bW (xs:=M.words) (eO.old hw Y) (by(try simp only[List.length_cons,List.length_nil]);omega)) fun ce cf cg aG ch ci G=>?_
 have Q:=ub G P
 refine b9 ⟨(ae Q rfl),(ae Q rfl)⟩ fun cj=>?_
 refine R0 7 rfl<|cZ bh (xs:=(aQ ([M.sub]))) (ys:=(aQ M.words)) (vB 0) 1 (aj N G (fun x hx=>az) (fun _ _ h=>h)) (aG).rd (by(try simp only[cl,aq]);omega) (le O.size G.size) fun aI aK ck aL Z=>?_
 have a0:=ap.blk Z (aM (aD (ai b) (le q.size r.size) N) az) Q
 refine b9 ⟨(ae a0 rfl),(ae a0 rfl)⟩ fun aN=>Rt 8 aN<|re<|tn<|rt<|br<|tr<|rr (.slice aI (((aQ ([M.sub]))++(aQ M.words)).length) aK)<|?_
 have hs:bG dir M=((aQ ([M.sub]))++(aQ M.words)):=by
   unfold bG
   (try simp only[d,bt,reduceIte])
   all_goals first | rfl | (simp_all;done)
 rw[hs]
 exact⟨_,rfl,(aJ.weaken aL (le (le a.size q.size) r.size)),(ut Y (ut (ap.mono (S':=(ob aA++[])) G aB) Z (ah il aB)) (ah (aT N (le (le a.size q.size) r.size)) aB))⟩
 have ao:=aO d
 refine ay 3<|cb ((dir==0)) (fun g=>?_) (fun g=>?_)
 have aP:=aC g
 refine ay 1<|rt<|br<|tr<|rr nS<|?_
 have hs:bG dir M=[]:=by
   unfold bG
   (try simp only[d,g,bt,reduceIte])
   all_goals first | rfl | (simp_all;done)
 rw[hs]
 exact⟨_,rfl,(aJ.nil ..),a⟩
 have aP:=aO g
 refine au 1<|ax b 0<|al 2<|cb ((M.code==7)) (fun i=>?_) (fun i=>?_)
 have aS:=aC i
 refine au 1<|ax b 4<|Pl 1<|L0<|dv (m:=1) (e:=5) #[vB (M.value%256)] fun aU cm aV aW aX=>?_
 have aZ:=dF aV (xs:=[(M.value%256)]) (by as_aux_lemma=>kernel_rfl) (am (by omega) aY) (by(try simp only[List.length_cons,List.length_nil]);omega) aW
 refine al 1<|rt<|br<|tr<|rr (.slice (some ⟨aU,0,none⟩) 1 1)<|?_
 have hs:bG dir M=[(M.value%256)]:=by
   unfold bG
   (try simp only[d,g,i,bt,reduceIte])
   all_goals first | rfl | (simp_all;done)
 rw[hs]
 exact⟨_,rfl,(aJ.weaken aZ a.size),(aH a aX)⟩
 have aS:=aO i
 refine au 1<|ax b 0<|al 2<|cb ((M.code==11)) (fun k=>?_) (fun k=>?_)
 have b0:=aC k
 refine au 1<|ax b 9<|Pl 1<|ax b 10<|L0<|dv (m:=2) (e:=37) #[vW M.status,vW M.events] fun cn co b1 b2 a1=>?_
 have b3:=gN b1 (xs:=[M.status,M.events]) (by as_aux_lemma=>kernel_rfl) (am (by omega) (am (by omega) aY)) (by(try simp only[List.length_cons,List.length_nil]);omega) b2
 refine aF<|eU (bW (xs:=[M.status,M.events]) (b3).rd (by(try simp only[List.length_cons,List.length_nil]);omega)) fun b4 b5 cp b7 cq cr b8=>al 1<|rt<|br<|tr<|rr (.slice b4 ((aQ ([M.status,M.events])).length) b5)<|?_
 have hs:bG dir M=(aQ ([M.status,M.events])):=by
   unfold bG
   (try simp only[d,g,i,k,bt,reduceIte])
   all_goals first | rfl | (simp_all;done)
 rw[hs]
 exact⟨_,rfl,(aJ.weaken b7 (le a.size a1.size)),(aH a (aH a1 b8))⟩
 have b0:=aO k
 refine au 1<|ax b 0<|al 2<|cb ((M.code==12)) (fun l=>?_) (fun l=>?_)
 have ba:=aC l
 refine sq<|Rg 16 (fun w'=>w'.cell? ⟨n,14,none⟩=some (.slice Ad M.data.length kd)∧w'.cell? ⟨n,9,none⟩=some (vW M.status)∧w'.cell? ⟨n,10,none⟩=some (vW M.events)∧w'.cell? ⟨n,11,none⟩=some (vW M.messages)) fun ct c=>?_
 have o:=ub c b
 refine b9 ⟨(ae o rfl),(ae o rfl),(ae o rfl),(ae o rfl)⟩ fun f=>Rt 0 f<|Rl 1 f (fun _ hs=>hs.1)<|Rt 2 f<|Rr 3 f (vI (6+(M.data.length:Int))) (fun _ _=>cE (vI (IntKind.i64.wrap (6+(M.data.length:Int)))) (by kernel_rfl) (congrArg (Value.int .i64) (IntWalk.i64_in _ (by omega))))<|Rt 4 f<|Rt 6 f<|Rl 7 f (fun _ hs=>hs.2.1)<|Rt 8 f<|Rl 9 f (fun _ hs=>hs.2.2.1)<|Rt 10 f<|Rl 11 f (fun _ hs=>hs.2.2.2)<|R2 5 12 rfl rfl ?_ ?_
 refine  dv (m:=1) (e:=5) #[vB ((6+(M.data.length:Int))%256)] fun bb cu bc bd R=>?_
 have S:=dF bc (xs:=[((6+(M.data.length:Int))%256)]) (by as_aux_lemma=>kernel_rfl) (am (by omega) aY) (by(try simp only[List.length_cons,List.length_nil]);omega) bd
 have s:=ub R o
 refine b9 ⟨(ae s rfl),(ae s rfl),(ae s rfl),(ae s rfl)⟩ fun cv=>R0 12 rfl<|dv (m:=3) (e:=37) #[vW M.status,vW M.events,vW M.messages] fun cw cx be bg T=>?_
 have bi:=gN be (xs:=[M.status,M.events,M.messages]) (by as_aux_lemma=>kernel_rfl) (am (by omega) (am (by omega) (am (by omega) aY))) (by(try simp only[List.length_cons,List.length_nil]);omega) bg
 have t:=ub T s
 refine b9 ⟨(ae t rfl),(ae t rfl),(ae t rfl),(ae t rfl)⟩ fun cy=>R0 13 rfl<|Oc<|eU (bW (xs:=[M.status,M.events,M.messages]) (bi).rd (by(try simp only[List.length_cons,List.length_nil]);omega)) fun cz cA cB bj cC cD U=>?_
 have u:=ub U t
 refine b9 ⟨(ae u rfl),(ae u rfl),(ae u rfl),(ae u rfl)⟩ fun cF=>?_
 have a2:=aH T U
 refine R0 14 rfl<|cZ bh (xs:=([((6+(M.data.length:Int))%256)])) (ys:=(aQ ([M.status,M.events,M.messages]))) (vB 0) 1 (aj S a2 (fun x hx=>az) (fun _ _ h=>h)) (bj).rd (by(try simp only[cl,aq]);omega) (le (le R.size T.size) U.size) fun cG cH cI a3 a4=>?_
 have v:=ap.blk a4 (aM (aD (ai b) c.size S) az) u
 refine b9 ⟨(ae v rfl),(ae v rfl),(ae v rfl),(ae v rfl)⟩ fun bl=>Rt 15 bl<|re<|tn<|au 2<|ax v 14<|?_
 have a5:=ut R (ut (ap.mono (S':=(ob (some ⟨bb,0,none⟩)++[])) a2 aB) a4 (ah il aB)) (ah (aT S lr) aB)
 have a6:=aH a (aH c a5)
 refine L0<|cZ bh (xs:=([((6+(M.data.length:Int))%256)]++(aQ ([M.status,M.events,M.messages])))) (ys:=M.data) (vB 0) 1 a3 (aR.old hd a6) (by(try simp only[cl,aq]);omega) a5.size fun bm bo cJ bp bq=>al 1<|rt<|br<|tr<|rr (.slice bm ((([((6+(M.data.length:Int))%256)]++(aQ ([M.status,M.events,M.messages])))++M.data).length) bo)<|?_
 have hs:bG dir M=(([((6+(M.data.length:Int))%256)]++(aQ ([M.status,M.events,M.messages])))++M.data):=by
   unfold bG
   (try simp only[d,g,i,k,l,bt,reduceIte])
   all_goals first | rfl | (simp_all;done)
 rw[hs]
 exact⟨_,rfl,(aJ.weaken bp (le a.size c.size)),(ut a6 bq (ah (aT a3 (le a.size c.size)) aB))⟩
 refine  dv (m:=3) (e:=37) #[vW M.status,vW M.events,vW M.messages] fun cK cL bs bu j=>?_
 have a7:=gN bs (xs:=[M.status,M.events,M.messages]) (by as_aux_lemma=>kernel_rfl) (am (by omega) (am (by omega) (am (by omega) aY))) (by(try simp only[List.length_cons,List.length_nil]);omega) bu
 have p:=ub j o
 refine b9 ⟨(ae p rfl),(ae p rfl),(ae p rfl),(ae p rfl)⟩ fun cM=>?_
 refine R2 5 13 rfl rfl ?_ ?_
 refine  dv (m:=1) (e:=5) #[vB ((6+(M.data.length:Int))%256)] fun bv cN bw bx H=>?_
 have V:=dF bw (xs:=[((6+(M.data.length:Int))%256)]) (by as_aux_lemma=>kernel_rfl) (am (by omega) aY) (by(try simp only[List.length_cons,List.length_nil]);omega) bx
 have y:=ub H p
 refine b9 ⟨(ae y rfl),(ae y rfl),(ae y rfl),(ae y rfl)⟩ fun cO=>?_
 refine R0 13 rfl<|Oc<|eU (bW (xs:=[M.status,M.events,M.messages]) ((aj a7 H (fun x hx=>az) (fun _ _ h=>h))).rd (by(try simp only[List.length_cons,List.length_nil]);omega)) fun cP cQ cR bz cS cT I=>?_
 have z:=ub I y
 refine b9 ⟨(ae z rfl),(ae z rfl),(ae z rfl),(ae z rfl)⟩ fun cV=>?_
 refine R0 14 rfl<|cZ bh (xs:=([((6+(M.data.length:Int))%256)])) (ys:=(aQ ([M.status,M.events,M.messages]))) (vB 0) 1 (aj V I (fun x hx=>az) (fun _ _ h=>h)) (bz).rd (by(try simp only[cl,aq]);omega) (le H.size I.size) fun cW cX cY a8 a9=>?_
 have A:=ap.blk a9 (aM (aD (ai b) (le c.size j.size) V) az) z
 refine b9 ⟨(ae A rfl),(ae A rfl),(ae A rfl),(ae A rfl)⟩ fun bA=>Rt 15 bA<|re<|tn<|au 2<|ax A 14<|?_
 have aa:=ut H (ut (ap.mono (S':=(ob (some ⟨bv,0,none⟩)++[])) I aB) a9 (ah il aB)) (ah (aT V lr) aB)
 have ab:=aH a (aH c (aH j aa))
 refine L0<|cZ bh (xs:=([((6+(M.data.length:Int))%256)]++(aQ ([M.status,M.events,M.messages])))) (ys:=M.data) (vB 0) 1 a8 (aR.old hd ab) (by(try simp only[cl,aq]);omega) aa.size fun bB bC d0 bD bE=>al 1<|rt<|br<|tr<|rr (.slice bB ((([((6+(M.data.length:Int))%256)]++(aQ ([M.status,M.events,M.messages])))++M.data).length) bC)<|?_
 have hs:bG dir M=(([((6+(M.data.length:Int))%256)]++(aQ ([M.status,M.events,M.messages])))++M.data):=by
   unfold bG
   (try simp only[d,g,i,k,l,bt,reduceIte])
   all_goals first | rfl | (simp_all;done)
 rw[hs]
 exact⟨_,rfl,(aJ.weaken bD (le (le a.size c.size) j.size)),(ut ab bE (ah (aT a8 (le (le a.size c.size) j.size)) aB))⟩
 refine  Oc<|eU (bW (xs:=[M.status,M.events,M.messages]) (a7).rd (by(try simp only[List.length_cons,List.length_nil]);omega)) fun d1 d2 d3 bF d4 d5 B=>?_
 have C:=ub B p
 refine b9 ⟨(ae C rfl),(ae C rfl),(ae C rfl),(ae C rfl)⟩ fun d6=>R0 5 rfl<|dv (m:=1) (e:=5) #[vB ((6+(M.data.length:Int))%256)] fun d7 d8 bH bI J=>?_
 have W:=dF bH (xs:=[((6+(M.data.length:Int))%256)]) (by as_aux_lemma=>kernel_rfl) (am (by omega) aY) (by(try simp only[List.length_cons,List.length_nil]);omega) bI
 have D:=ub J C
 refine b9 ⟨(ae D rfl),(ae D rfl),(ae D rfl),(ae D rfl)⟩ fun d9=>?_
 refine R0 14 rfl<|cZ bh (xs:=([((6+(M.data.length:Int))%256)])) (ys:=(aQ ([M.status,M.events,M.messages]))) (vB 0) 1 W ((aj bF J (fun x hx=>az) (fun _ _ h=>h))).rd (by(try simp only[cl,aq]);omega) J.size fun da db dc ac ad=>?_
 have E:=ap.blk ad (aM (aD (ai b) (le (le c.size j.size) B.size) W) az) D
 refine b9 ⟨(ae E rfl),(ae E rfl),(ae E rfl),(ae E rfl)⟩ fun bJ=>Rt 15 bJ<|re<|tn<|au 2<|ax E 14<|?_
 have af:=ut J ad (ah (aT W lr) aB)
 have ag:=aH a (aH c (aH j (aH B af)))
 refine L0<|cZ bh (xs:=([((6+(M.data.length:Int))%256)]++(aQ ([M.status,M.events,M.messages])))) (ys:=M.data) (vB 0) 1 ac (aR.old hd ag) (by(try simp only[cl,aq]);omega) af.size fun bK bL dd bM bN=>al 1<|rt<|br<|tr<|rr (.slice bK ((([((6+(M.data.length:Int))%256)]++(aQ ([M.status,M.events,M.messages])))++M.data).length) bL)<|?_
 have hs:bG dir M=(([((6+(M.data.length:Int))%256)]++(aQ ([M.status,M.events,M.messages])))++M.data):=by
   unfold bG
   (try simp only[d,g,i,k,l,bt,reduceIte])
   all_goals first | rfl | (simp_all;done)
 rw[hs]
 exact⟨_,rfl,(aJ.weaken bM (le (le (le a.size c.size) j.size) B.size)),(ut ag bN (ah (aT ac (le (le (le a.size c.size) j.size) B.size)) aB))⟩
 have ba:=aO l
 refine sk<|bn<|tn<|au 1<|ax b 14<|Pl 2<|L0<|dv (m:=1) (e:=5) #[vB ((M.data.length:Int)%256)] fun de df bO bP X=>?_
 have ak:=dF bO (xs:=[((M.data.length:Int)%256)]) (by as_aux_lemma=>kernel_rfl) (am (by omega) aY) (by(try simp only[List.length_cons,List.length_nil]);omega) bP
 refine Pl 1<|?_
 refine ax (ub X b) 14<|?_
 have an:=aH a X
 refine L0<|cZ bh (xs:=([((M.data.length:Int)%256)])) (ys:=M.data) (vB 0) 1 ak (aR.old hd an) (by(try simp only[cl,aq]);omega) X.size fun bQ bR dg bS bT=>al 1<|rt<|rr (.slice bQ (([((M.data.length:Int)%256)]++M.data).length) bR)<|?_
 have hs:bG dir M=([((M.data.length:Int)%256)]++M.data):=by
   unfold bG
   (try simp only[d,g,i,k,l,bt,reduceIte])
   all_goals first | rfl | (simp_all;done)
 rw[hs]
 exact⟨_,rfl,(aJ.weaken bS a.size),(ut an bT (ah (aT ak a.size) aB))⟩
open Go.RowKit
theorem fe{α:Type}(d:α)(xs:List α)(k:Nat)(h:k<xs.length) : xs.getD k d∈xs:=by
  simp[List.getD_eq_getElem?_getD,List.getElem?_eq_getElem h]
def eM:List Obj→List Int
  | []=>[]
  | o :: r=>([o.id,(o.value.length:Int)%256]++o.value)++eM r
theorem ti(xs:List Obj)(k:Nat)(h:k<xs.length) : eM (xs.drop k)=([(xs.getD k ⟨0,[]⟩).id,((xs.getD k ⟨0,[]⟩).value.length:Int)%256]++(xs.getD k ⟨0,[]⟩).value)++eM (xs.drop (k+1)):=by
  rw[List.drop_eq_getElem_cons h]
  simp[eM,List.getD_eq_getElem?_getD,List.getElem?_eq_getElem h]
def d7 (dir:Int)(M:b6) : List Int :=
  if M.mei==13 then [M.mei]++M.data
  else if dir==0 then [M.mei,M.kind,M.next]
  else [M.mei,M.kind,M.level,M.more,M.next,(M.objects.length:Int)%256]++eM M.objects
theorem yG{m:Md}{cs:Array Value}{M:b6}{w:World}{dir:Int}(h:aE m w cs.toList M)(hf:bf M) : Calls Tryz.prog 162 #[vI dir,.agg cs] w (wK (d7 dir M) w):=by
 refine iK h fun Aw kw Ab kb Ad kd Ar kr Ao ko e hw hbt hd hr ho _ _ _ _ _ _ _ _ _ _ q0 q1 q2 q3 q4 q5 q6 q7 q8 q9 aN aP aQ aS aU aV aW=>?_
 subst e
 have hf1:=hf.words
 have hf2:=hf.bits
 have hf3:=hf.data
 have hf4:=hf.recs
 have hf5:=hf.objects
 refine en 64 Tryz.func162 rfl<|sg<|L0<|cU (mG M.code M.fail M.addr M.count M.value M.and_ M.or_ M.addr2 M.sub M.status M.events M.messages (.slice Aw M.words.length kw) (.slice Ab M.bits.length kb) (.slice Ad M.data.length kd) (.slice Ar M.recs.length kr) M.mei M.kind M.level M.more M.next (.slice Ao M.objects.length ko)) fun aZ s b0 a c=>al 1<|sq<|bk<|au 1<|ax a 16<|Pl 2<|nl<|tn<|cb ((M.mei==13)) (fun d=>?_) (fun d=>?_)
 have P:=aC d
 refine au 1<|ax a 16<|L0<|dv (m:=1) (e:=5) #[vB M.mei] fun b1 b2 Q R t=>?_
 have F:=dF Q (xs:=[M.mei]) (by as_aux_lemma=>kernel_rfl) (am (by omega) aY) (by(try simp only[List.length_cons,List.length_nil]);omega) R
 refine Pl 1<|?_
 refine ax (ub t a) 14<|?_
 have G:=aH c t
 refine L0<|cZ bh (xs:=([M.mei])) (ys:=M.data) (vB 0) 1 F (aR.old hd G) (by(try simp only[cl,aq]);omega) t.size fun S T b3 U V=>al 1<|rt<|br<|tr<|rr (.slice S (([M.mei]++M.data).length) T)<|?_
 have hs:d7 dir M=([M.mei]++M.data):=by
   unfold d7
   (try simp only[d,bt,reduceIte])
   all_goals first | rfl | (simp_all;done)
 rw[hs]
 exact⟨_,rfl,(aJ.weaken U c.size),(ut G V (ah (aT F c.size) aB))⟩
 have P:=aO d
 refine ay 3<|cb ((dir==0)) (fun f=>?_) (fun f=>?_)
 have W:=aC f
 refine au 1<|ax a 16<|Pl 1<|ax a 17<|Pl 1<|ax a 20<|L0<|dv (m:=3) (e:=5) #[vB M.mei,vB M.kind,vB M.next] fun X b4 Y Z a0=>?_
 have a1:=dF Y (xs:=[M.mei,M.kind,M.next]) (by as_aux_lemma=>kernel_rfl) (am (by omega) (am (by omega) (am (by omega) aY))) (by(try simp only[List.length_cons,List.length_nil]);omega) Z
 refine al 1<|rt<|br<|tr<|rr (.slice (some ⟨X,0,none⟩) 3 3)<|?_
 have hs:d7 dir M=[M.mei,M.kind,M.next]:=by
   unfold d7
   (try simp only[d,f,bt,reduceIte])
   all_goals first | rfl | (simp_all;done)
 rw[hs]
 exact⟨_,rfl,(aJ.weaken a1 c.size),(aH c a0)⟩
 have W:=aO f
 refine sk<|bn<|tn<|au 1<|ax a 16<|Pl 1<|ax a 17<|Pl 1<|ax a 18<|Pl 1<|ax a 19<|Pl 1<|ax a 20<|Pl 1<|ax a 21<|Pl 2<|L0<|dv (m:=6) (e:=5) #[vB M.mei,vB M.kind,vB M.level,vB M.more,vB M.next,vB ((M.objects.length:Int)%256)] fun a2 a3 a4 a5 l=>?_
 have a6:=dF a4 (xs:=[M.mei,M.kind,M.level,M.more,M.next,((M.objects.length:Int)%256)]) (by as_aux_lemma=>kernel_rfl) (am (by omega) (am (by omega) (am (by omega) (am (by omega) (am (by omega) (am (by omega) aY)))))) (by(try simp only[List.length_cons,List.length_nil]);omega) a5
 refine al 1<|sq<|au 1<|?_
 refine ax (ub l a) 21<|al 2<|bk<|js (fun x=>[(4,nS),(5,.slice x.2.2.1 x.2.1.length x.2.2.2),(44,.slice Ao M.objects.length ko),(45,vI (M.objects.length:Int)),(46,vI (x.1:Int))]) (fun(x:Nat × List Int × Option Addr × Nat) w'=>ap [] s w'∧a3.heap.size≤w'.heap.size∧cn s.heap.size w' (.slice x.2.2.1 x.2.1.length x.2.2.2) x.2.1∧(x.1≤M.objects.length)∧(x.2.1++eM (M.objects.drop x.1)=([M.mei,M.kind,M.level,M.more,M.next,((M.objects.length:Int)%256)])++eM M.objects)∧(x.2.1.length≤16+x.1*1026)∧(6≤x.2.1.length)) (fun x=>M.objects.length-x.1) (0,[M.mei,M.kind,M.level,M.more,M.next,((M.objects.length:Int)%256)],some ⟨a2,0,none⟩,6) ⟨l,lr,a6,(by(try dsimp only);omega),rfl,(by(try dsimp only);(try simp only[List.length_cons,List.length_nil]);omega),(by(try dsimp only);(try simp only[List.length_cons,List.length_nil]);omega)⟩ ?_
 rintro⟨k,L,A,cp⟩ a7 ⟨H,u,a8,a9,aa,ab,ac⟩
 refine ip [(4,nS),(5,.slice A L.length cp),(44,.slice Ao M.objects.length ko),(45,vI (M.objects.length:Int)),(46,vI (k:Int))] ?_
 have g:cn s.heap.size a7 (.slice A L.length cp) L:=a8
 have b5:k≤M.objects.length:=a9
 have b7:L++eM (M.objects.drop k)=([M.mei,M.kind,M.level,M.more,M.next,((M.objects.length:Int)%256)])++eM M.objects:=aa
 have b8:L.length≤16+k*1026:=ab
 have ba:6≤L.length:=ac
 have hL:L++eM (M.objects.drop k)=([M.mei,M.kind,M.level,M.more,M.next,((M.objects.length:Int)%256)])++eM M.objects:=by assumption
 have hv0:=fun(h:k<M.objects.length)=>hf.objv _ (fe ⟨0,[]⟩ M.objects k h)
 refine ay 1<|sq<|?_
 have v:=aH c H
 refine cb ((decide ((k:Int)<(M.objects.length:Int)))) (fun n=>?_) (fun n=>?_)
 have ad:=of_decide_eq_true n
 refine bU<|sq<|bk<|sg<|y5 (qz.elt ho k (by omega)) fun bb bc bd be bg y z af ag ai bi ak=>L0<|oO 2 M.objects.length k af (by omega)<|?_
 refine L0<|BP [vB ((M.objects.getD k ⟨0,[]⟩).id),.slice y ((M.objects.getD k ⟨0,[]⟩).value.length) z] (ub v ag) ak<|aL #[vB 0,nS] fun I bj J an o=>aI an #[vB ((M.objects.getD k ⟨0,[]⟩).id),.slice y ((M.objects.getD k ⟨0,[]⟩).value.length) z] fun bl ao p=>nt<|Rg 13 (fun w'=>w'.cell? ⟨I,0,none⟩=some (vB ((M.objects.getD k ⟨0,[]⟩).id))∧w'.cell? ⟨I,1,none⟩=some (.slice y ((M.objects.getD k ⟨0,[]⟩).value.length) z)) fun bm i=>?_
 have B:=ub i ao
 refine b9 ⟨(ae B rfl),(ae B rfl)⟩ fun b=>Rt 0 b<|Rt 1 b<|Rl 2 b (fun _ hs=>hs.1)<|Rt 3 b<|Rl 4 b (fun _ hs=>hs.2)<|Rt 5 b<|Rt 6 b<|Rt 9 b<|Rl 10 b (fun _ hs=>hs.2)<|R0 7 rfl<|dv (m:=2) (e:=5) #[vB ((M.objects.getD k ⟨0,[]⟩).id),vB ((((M.objects.getD k ⟨0,[]⟩).value.length:Nat) : Int)%256)] fun bo bp ar av j=>?_
 have aw:=dF ar (xs:=[(M.objects.getD k ⟨0,[]⟩).id,((((M.objects.getD k ⟨0,[]⟩).value.length:Nat) : Int)%256)]) (by as_aux_lemma=>kernel_rfl) (am (by omega) (am (by omega) aY)) (by(try simp only[List.length_cons,List.length_nil]);omega) av
 have C:=ub j B
 refine b9 ⟨(ae C rfl),(ae C rfl)⟩ fun bq=>?_
 have K:=ud o (aH p (aH i j)) J
 refine R0 8 rfl<|cZ bh (xs:=L) (ys:=([(M.objects.getD k ⟨0,[]⟩).id,((((M.objects.getD k ⟨0,[]⟩).value.length:Nat) : Int)%256)])) (vB 0) 1 (aj g K (fun x hx=>az) (fun _ _ h=>h)) (aw).rd (by(try simp only[cl,aq]);omega) (le (le (le (le (le l.size u) o.size) p.size) i.size) j.size) fun aA bs bu D q=>?_
 have r:=ap.blk q (aM (dQ g lr J) az) C
 refine b9 ⟨(ae r rfl),(ae r rfl)⟩ fun bv=>?_
 have N:=ut (ap.mono (S':=(ob A++[])) K aB) q (ah il aB)
 refine R0 11 rfl<|cZ bh (xs:=(L++[(M.objects.getD k ⟨0,[]⟩).id,((((M.objects.getD k ⟨0,[]⟩).value.length:Nat) : Int)%256)])) (ys:=((M.objects.getD k ⟨0,[]⟩).value)) (vB 0) 1 D (aR.old ai (ut v N (ah (aT g c.size) aB))) (by(try simp only[cl,aq]);omega) (le (le (le (le (le (le l.size u) o.size) p.size) i.size) j.size) q.size) fun aD aF bw aG E=>?_
 have O:=ap.blk E (aM (aX r D (by decide)) az) r
 refine b9 ⟨(ae O rfl),(ae O rfl)⟩ fun aK=>Rt 12 aK<|re<|bn<|tn<|go<|bA ((k:Int)+1)<|Pl 1<|nl<|?_
 exact fM ((k+1),((L++[(M.objects.getD k ⟨0,[]⟩).id,((((M.objects.getD k ⟨0,[]⟩).value.length:Nat) : Int)%256)])++(M.objects.getD k ⟨0,[]⟩).value),aD,aF) ⟨(ut H (ut (ap.mono (S':=(ob A++(ob aA++[]))) N (ah il aB)) E (ah il aB)) (ah (aT g lr) (ah (aT D lr) aB))),(le (le (le (le (le (le u o.size) p.size) i.size) j.size) q.size) E.size),aG,(by(try dsimp only);omega),(by(try dsimp only);rw[← hL,ti  M.objects k (by omega)];simp only[List.append_assoc]),(by(try dsimp only);have hv:=hf.objv _ (fe ⟨0,[]⟩ M.objects k (by omega));(try simp only[cl,aq]);omega),(by(try dsimp only);(try simp only[cl]);omega)⟩ (by omega)
 have ad:=of_decide_eq_false n
 refine xt<|tx<|tx<|bx<|tn<|ay 2<|rt<|rr (.slice A L.length cp)<|?_
 have hk:k=M.objects.length:=by omega
 rw[hk,List.drop_length] at hL
 have hL2:L=([M.mei,M.kind,M.level,M.more,M.next,((M.objects.length:Int)%256)])++eM M.objects:=by rw[← hL];simp[eM]
 have hs:d7 dir M=L:=by
   rw[hL2]
   unfold d7
   (try simp only[d,f,n,bt,reduceIte])
   all_goals rfl
 rw[hs]
 exact⟨_,rfl,(aJ.weaken g c.size),v⟩
open Go.RowKit
def eX (dir code:Int)(r:dY) : List Int:=(if code==20&&dir==1 then [(1+2*(r.words.length:Int))%256,6] else [6]++aQ [r.file,r.record,r.count])++aQ r.words
def bX (dir code:Int) : List dY→List Int
  | []=>[]
  | r :: rs=>eX dir code r++bX dir code rs
theorem fE(dir code:Int)(xs:List dY)(k:Nat)(h:k<xs.length) : bX dir code (xs.drop k)=eX dir code (xs.getD k ⟨0,0,0,[]⟩)++bX dir code (xs.drop (k+1)):=by
  rw[List.drop_eq_getElem_cons h]
  simp[bX,List.getD_eq_getElem?_getD,List.getElem?_eq_getElem h]
def cO (dir:Int)(M:b6) : List Int:=([0]++bX dir M.code M.recs).set 0 (((([0]++bX dir M.code M.recs).length:Int)-1)%256)
theorem tY{m:Md}{cs:Array Value}{M:b6}{w:World}{dir:Int}(h:aE m w cs.toList M)(hf:bf M) : Calls Tryz.prog 159 #[vI dir,.agg cs] w (wK (cO dir M) w):=by
 refine iK h fun Aw kw Ab kb Ad kd Ar kr Ao ko e hw hbt hd hr ho _ _ _ _ _ _ _ _ _ _ q0 q1 q2 q3 q4 q5 q6 q7 q8 q9 cx cy cz cA cB cC cD=>?_
 subst e
 have hf1:=hf.words
 have hf2:=hf.bits
 have hf3:=hf.data
 have hf4:=hf.recs
 have hf5:=hf.objects
 refine en 58 Tryz.func159 rfl<|sg<|L0<|cU (mG M.code M.fail M.addr M.count M.value M.and_ M.or_ M.addr2 M.sub M.status M.events M.messages (.slice Aw M.words.length kw) (.slice Ab M.bits.length kb) (.slice Ad M.data.length kd) (.slice Ar M.recs.length kr) M.mei M.kind M.level M.more M.next (.slice Ao M.objects.length ko)) fun ar ab cE av l=>Pl 1<|ng<|L0<|dv (m:=1) (e:=5) #[vB 0] fun bo bp bq br g=>?_
 have bs:=dF bq (xs:=[0]) (by as_aux_lemma=>kernel_rfl) (am (by omega) aY) (by(try simp only[List.length_cons,List.length_nil]);omega) br
 refine al 1<|sq<|au 1<|?_
 refine ax (ub g av) 15<|al 2<|bk<|js (fun x=>[(0,vI dir),(3,vP ar 0),(4,nS),(5,.slice x.2.2.1 x.2.1.length x.2.2.2),(10,.slice Ar M.recs.length kr),(11,vI (M.recs.length:Int)),(12,vI (x.1:Int))]) (fun(x:Nat × List Int × Option Addr × Nat) w'=>ap [] ab w'∧bp.heap.size≤w'.heap.size∧cn ab.heap.size w' (.slice x.2.2.1 x.2.1.length x.2.2.2) x.2.1∧(x.1≤M.recs.length)∧(x.2.1++bX dir M.code (M.recs.drop x.1)=([0])++bX dir M.code M.recs)∧(x.2.1.length≤16+x.1*2060)∧(1≤x.2.1.length)) (fun x=>M.recs.length-x.1) (0,[0],some ⟨bo,0,none⟩,1) ⟨g,lr,bs,(by(try dsimp only);omega),rfl,(by(try dsimp only);(try simp only[List.length_cons,List.length_nil]);omega),(by(try dsimp only);(try simp only[List.length_cons,List.length_nil]);omega)⟩ ?_
 rintro⟨k,L,A,cp⟩ bu ⟨aw,f,bv,bw,bz,bB,bC⟩
 refine ip [(0,vI dir),(3,vP ar 0),(4,nS),(5,.slice A L.length cp),(10,.slice Ar M.recs.length kr),(11,vI (M.recs.length:Int)),(12,vI (k:Int))] ?_
 have a:cn ab.heap.size bu (.slice A L.length cp) L:=bv
 have cF:k≤M.recs.length:=bw
 have cG:L++bX dir M.code (M.recs.drop k)=([0])++bX dir M.code M.recs:=bz
 have cH:L.length≤16+k*2060:=bB
 have cI:1≤L.length:=bC
 have hL:L++bX dir M.code (M.recs.drop k)=([0])++bX dir M.code M.recs:=by assumption
 have hv0:=fun(h:k<M.recs.length)=>hf.recw _ (fe ⟨0,0,0,[]⟩ M.recs k h)
 refine ay 1<|sq<|?_
 have ac:=aH l aw
 refine cb ((decide ((k:Int)<(M.recs.length:Int)))) (fun n=>?_) (fun n=>?_)
 have bD:=of_decide_eq_true n
 refine bU<|sq<|bk<|sg<|y5 (qx.elt hr k (by omega)) fun cJ cK cL cM cN aA aD bE bF P cP bG=>L0<|oO 4 M.recs.length k bE (by omega)<|?_
 refine L0<|BP [vW ((M.recs.getD k ⟨0,0,0,[]⟩).file),vW ((M.recs.getD k ⟨0,0,0,[]⟩).record),vW ((M.recs.getD k ⟨0,0,0,[]⟩).count),.slice aA ((M.recs.getD k ⟨0,0,0,[]⟩).words.length) aD] (ub ac bF) bG<|aL #[vW 0,vW 0,vW 0,nS] fun ad cQ B bH b=>aI bH #[vW ((M.recs.getD k ⟨0,0,0,[]⟩).file),vW ((M.recs.getD k ⟨0,0,0,[]⟩).record),vW ((M.recs.getD k ⟨0,0,0,[]⟩).count),.slice aA ((M.recs.getD k ⟨0,0,0,[]⟩).words.length) aD] fun cR af c=>nt<|sq<|bk<|au 1<|?_
 have s:=ud b c B
 have C:=aH aw s
 refine ax (ub C av) 0<|Pl 2<|gy 3 [32] 35 32 (M.code==20) (dir==1) (fun K bI bJ=>?_) ?_
 have cS:=aC bJ
 exact Pl 3<|ce bI _ rfl
 refine al 1<|?_
 have Q:=aH ac s
 refine cb (((M.code==20)&&(dir==1))) (fun o=>?_) (fun o=>?_)
 have aG:=(bK o).1
 have aK:=(bK o).2
 have cT:=aC aG
 have cV:=aC aK
 refine go<|Pl 2<|ax af 3<|Pl 1<|bA (2*(((M.recs.getD k ⟨0,0,0,[]⟩).words.length:Nat) : Int))<|bA (1+(2*(((M.recs.getD k ⟨0,0,0,[]⟩).words.length:Nat) : Int)))<|Pl 1<|L0<|dv (m:=2) (e:=5) #[vB ((1+(2*(((M.recs.getD k ⟨0,0,0,[]⟩).words.length:Nat) : Int)))%256),vB 6] fun cW cX bL bM D=>?_
 have bN:=dF bL (xs:=[((1+(2*(((M.recs.getD k ⟨0,0,0,[]⟩).words.length:Nat) : Int)))%256),6]) (by as_aux_lemma=>kernel_rfl) (am (by omega) (am (by omega) aY)) (by(try simp only[List.length_cons,List.length_nil]);omega) bM
 refine L0<|cZ bh (xs:=L) (ys:=([((1+(2*(((M.recs.getD k ⟨0,0,0,[]⟩).words.length:Nat) : Int)))%256),6])) (vB 0) 1 (aj a (aH s D) (fun x hx=>az) (fun _ _ h=>h)) (bN).rd (by(try simp only[cl,aq]);omega) (le (le (le (le g.size f) b.size) c.size) D.size) fun aN cY d0 aO ag=>Pl 1<|nl<|bn<|tn<|go<|Pl 2<|?_
 have ai:=ut (ap.mono (S':=(ob A++[])) D aB) ag (ah il aB)
 refine ax (ap.blk ai (aM (dQ a lr B) az) af) 3<|?_
 refine aF<|eU (bW (xs:=(M.recs.getD k ⟨0,0,0,[]⟩).words) (eO.old P (ut Q ai (ah (aT a l.size) aB))) (by(try simp only[List.length_cons,List.length_nil]);omega)) fun d1 d2 d3 bO d4 d5 R=>?_
 refine L0<|cZ bh (xs:=(L++[((1+(2*(((M.recs.getD k ⟨0,0,0,[]⟩).words.length:Nat) : Int)))%256),6])) (ys:=(aQ ((M.recs.getD k ⟨0,0,0,[]⟩).words))) (vB 0) 1 (aj aO R (fun x hx=>az) (fun _ _ h=>h)) (bO).rd (by(try simp only[cl,aq]);omega) (le (le (le (le (le (le g.size f) b.size) c.size) D.size) ag.size) R.size) fun bP bQ d6 bR aP=>Pl 1<|nl<|bn<|tn<|go<|bA ((k:Int)+1)<|Pl 1<|nl<|?_
 exact fM ((k+1),((L++[((1+(2*(((M.recs.getD k ⟨0,0,0,[]⟩).words.length:Nat) : Int)))%256),6])++(aQ ((M.recs.getD k ⟨0,0,0,[]⟩).words))),bP,bQ) ⟨(ut C (ut (ap.mono (S':=(ob A++(ob aN++[]))) ai (ah il aB)) (ut (ap.mono (S':=(ob aN++[])) R aB) aP (ah il aB)) (ah il aB)) (ah (aT a lr) (ah (aT aO lr) aB))),(le (le (le (le (le (le f b.size) c.size) D.size) ag.size) R.size) aP.size),bR,(by(try dsimp only);omega),(by(try dsimp only);rw[← hL,fE dir M.code M.recs k (by omega)];simp only[eX,n,o,aG,aK,bt,List.append_assoc]),(by(try dsimp only);have hv:=hf.recw _ (fe ⟨0,0,0,[]⟩ M.recs k (by omega));(try simp only[cl,aq]);omega),(by(try dsimp only);(try simp only[cl]);omega)⟩ (by omega)
 refine Rg 13 (fun w'=>w'.cell? ⟨ad,0,none⟩=some (vW ((M.recs.getD k ⟨0,0,0,[]⟩).file))∧w'.cell? ⟨ad,1,none⟩=some (vW ((M.recs.getD k ⟨0,0,0,[]⟩).record))∧w'.cell? ⟨ad,2,none⟩=some (vW ((M.recs.getD k ⟨0,0,0,[]⟩).count))) fun d7 d=>?_
 have E:=ub d af
 refine b9 ⟨(ae E rfl),(ae E rfl),(ae E rfl)⟩ fun p=>Rt 0 p<|Rt 3 p<|Rl 4 p (fun _ hs=>hs.1)<|Rt 5 p<|Rl 6 p (fun _ hs=>hs.2.1)<|Rt 7 p<|Rl 8 p (fun _ hs=>hs.2.2)<|R2 1 9 rfl rfl ?_ ?_
 refine  dv (m:=1) (e:=5) #[vB 6] fun d8 d9 bS bT i=>?_
 have aS:=dF bS (xs:=[6]) (by as_aux_lemma=>kernel_rfl) (am (by omega) aY) (by(try simp only[List.length_cons,List.length_nil]);omega) bT
 have F:=ub i E
 refine b9 ⟨(ae F rfl),(ae F rfl),(ae F rfl)⟩ fun da=>?_
 refine R2 2 9 rfl rfl ?_ ?_
 have aU:=aH d i
 refine  cZ bh (xs:=L) (ys:=([6])) (vB 0) 1 (aj a (aH s aU) (fun x hx=>az) (fun _ _ h=>h)) (aS).rd (by(try simp only[cl,aq]);omega) (le (le (le (le (le g.size f) b.size) c.size) d.size) i.size) fun S db dc ak G=>?_
 have T:=ap.blk G (aM (dQ a lr B) az) F
 refine b9 ⟨(ae T rfl),(ae T rfl),(ae T rfl)⟩ fun dd=>R0 9 rfl<|dv (m:=3) (e:=37) #[vW ((M.recs.getD k ⟨0,0,0,[]⟩).file),vW ((M.recs.getD k ⟨0,0,0,[]⟩).record),vW ((M.recs.getD k ⟨0,0,0,[]⟩).count)] fun de df bV bY H=>?_
 have bZ:=gN bV (xs:=[(M.recs.getD k ⟨0,0,0,[]⟩).file,(M.recs.getD k ⟨0,0,0,[]⟩).record,(M.recs.getD k ⟨0,0,0,[]⟩).count]) (by as_aux_lemma=>kernel_rfl) (am (by omega) (am (by omega) (am (by omega) aY))) (by(try simp only[List.length_cons,List.length_nil]);omega) bY
 have U:=ub H T
 refine b9 ⟨(ae U rfl),(ae U rfl),(ae U rfl)⟩ fun dg=>R0 10 rfl<|Oc<|eU (bW (xs:=[(M.recs.getD k ⟨0,0,0,[]⟩).file,(M.recs.getD k ⟨0,0,0,[]⟩).record,(M.recs.getD k ⟨0,0,0,[]⟩).count]) (bZ).rd (by(try simp only[List.length_cons,List.length_nil]);omega)) fun dh di dj c0 dk dl I=>?_
 have J:=ub I U
 refine b9 ⟨(ae J rfl),(ae J rfl),(ae J rfl)⟩ fun dm=>?_
 have aV:=aH H I
 have aW:=aj ak aV (fun x hx=>az) (fun _ _ h=>h)
 refine R0 11 rfl<|cZ bh (xs:=(L++[6])) (ys:=(aQ ([(M.recs.getD k ⟨0,0,0,[]⟩).file,(M.recs.getD k ⟨0,0,0,[]⟩).record,(M.recs.getD k ⟨0,0,0,[]⟩).count]))) (vB 0) 1 aW (c0).rd (by(try simp only[cl,aq]);omega) (le (le (le (le (le (le (le (le g.size f) b.size) c.size) d.size) i.size) G.size) H.size) I.size) fun aZ dn dp b0 V=>?_
 have W:=ap.blk V (aM (aX J aW (by decide)) az) J
 refine b9 ⟨(ae W rfl),(ae W rfl),(ae W rfl)⟩ fun c1=>Rt 12 c1<|re<|bn<|tn<|go<|Pl 2<|ax W 3<|?_
 have b1:=ut (ap.mono (S':=(ob A++(ob S++[]))) aU aB) (ut (ap.mono (S':=(ob A++(ob S++[]))) G (ah il aB)) (ut (ap.mono (S':=(ob S++[])) aV aB) V (ah il aB)) (ah il aB)) (ah il (ah il aB))
 refine aF<|eU (bW (xs:=(M.recs.getD k ⟨0,0,0,[]⟩).words) (eO.old P (ut Q b1 (ah (aT a l.size) (ah (aT ak l.size) aB)))) (by(try simp only[List.length_cons,List.length_nil]);omega)) fun dq dr ds c2 dt du X=>?_
 refine L0<|cZ bh (xs:=((L++[6])++(aQ ([(M.recs.getD k ⟨0,0,0,[]⟩).file,(M.recs.getD k ⟨0,0,0,[]⟩).record,(M.recs.getD k ⟨0,0,0,[]⟩).count])))) (ys:=(aQ ((M.recs.getD k ⟨0,0,0,[]⟩).words))) (vB 0) 1 (aj b0 X (fun x hx=>az) (fun _ _ h=>h)) (c2).rd (by(try simp only[cl,aq]);omega) (le (le (le (le (le (le (le (le (le (le g.size f) b.size) c.size) d.size) i.size) G.size) H.size) I.size) V.size) X.size) fun c3 c4 dw c5 b2=>Pl 1<|nl<|bn<|tn<|go<|bA ((k:Int)+1)<|Pl 1<|nl<|?_
 exact fM ((k+1),(((L++[6])++(aQ ([(M.recs.getD k ⟨0,0,0,[]⟩).file,(M.recs.getD k ⟨0,0,0,[]⟩).record,(M.recs.getD k ⟨0,0,0,[]⟩).count])))++(aQ ((M.recs.getD k ⟨0,0,0,[]⟩).words))),c3,c4) ⟨(ut C (ut (ap.mono (S':=(ob A++(ob S++(ob aZ++[])))) b1 (ah il (ah il aB))) (ut (ap.mono (S':=(ob aZ++[])) X aB) b2 (ah il aB)) (ah il aB)) (ah (aT a lr) (ah (aT ak lr) (ah (aT b0 lr) aB)))),(le (le (le (le (le (le (le (le (le (le f b.size) c.size) d.size) i.size) G.size) H.size) I.size) V.size) X.size) b2.size),c5,(by(try dsimp only);omega),(by(try dsimp only);rw[← hL,fE dir M.code M.recs k (by omega)];simp only[eX,n,o,bt,List.append_assoc]),(by(try dsimp only);have hv:=hf.recw _ (fe ⟨0,0,0,[]⟩ M.recs k (by omega));(try simp only[cl,aq]);omega),(by(try dsimp only);(try simp only[cl]);omega)⟩ (by omega)
 refine  dv (m:=3) (e:=37) #[vW ((M.recs.getD k ⟨0,0,0,[]⟩).file),vW ((M.recs.getD k ⟨0,0,0,[]⟩).record),vW ((M.recs.getD k ⟨0,0,0,[]⟩).count)] fun dx dy c6 c7 q=>?_
 have b3:=gN c6 (xs:=[(M.recs.getD k ⟨0,0,0,[]⟩).file,(M.recs.getD k ⟨0,0,0,[]⟩).record,(M.recs.getD k ⟨0,0,0,[]⟩).count]) (by as_aux_lemma=>kernel_rfl) (am (by omega) (am (by omega) (am (by omega) aY))) (by(try simp only[List.length_cons,List.length_nil]);omega) c7
 have Y:=ub q F
 refine b9 ⟨(ae Y rfl),(ae Y rfl),(ae Y rfl)⟩ fun dz=>?_
 have b4:=aH d (aH i q)
 refine R0 2 rfl<|cZ bh (xs:=L) (ys:=([6])) (vB 0) 1 (aj a (aH s b4) (fun x hx=>az) (fun _ _ h=>h)) ((aj aS q (fun x hx=>az) (fun _ _ h=>h))).rd (by(try simp only[cl,aq]);omega) (le (le (le (le (le (le g.size f) b.size) c.size) d.size) i.size) q.size) fun Z dA dB an t=>?_
 have a0:=ap.blk t (aM (dQ a lr B) az) Y
 refine b9 ⟨(ae a0 rfl),(ae a0 rfl),(ae a0 rfl)⟩ fun dC=>?_
 refine R0 10 rfl<|Oc<|eU (bW (xs:=[(M.recs.getD k ⟨0,0,0,[]⟩).file,(M.recs.getD k ⟨0,0,0,[]⟩).record,(M.recs.getD k ⟨0,0,0,[]⟩).count]) ((aj b3 t (fun x hx=>(aM ((ly b3 a (le (le (le b.size c.size) d.size) i.size)) x hx) az)) (fun _ _ h=>h))).rd (by(try simp only[List.length_cons,List.length_nil]);omega)) fun dD dE dG c8 dH dI u=>?_
 have N:=ub u a0
 refine b9 ⟨(ae N rfl),(ae N rfl),(ae N rfl)⟩ fun dJ=>?_
 have b5:=aj an u (fun x hx=>az) (fun _ _ h=>h)
 refine R0 11 rfl<|cZ bh (xs:=(L++[6])) (ys:=(aQ ([(M.recs.getD k ⟨0,0,0,[]⟩).file,(M.recs.getD k ⟨0,0,0,[]⟩).record,(M.recs.getD k ⟨0,0,0,[]⟩).count]))) (vB 0) 1 b5 (c8).rd (by(try simp only[cl,aq]);omega) (le (le (le (le (le (le (le (le g.size f) b.size) c.size) d.size) i.size) q.size) t.size) u.size) fun b7 dK dL b8 a1=>?_
 have a2:=ap.blk a1 (aM (aX N b5 (by decide)) az) N
 refine b9 ⟨(ae a2 rfl),(ae a2 rfl),(ae a2 rfl)⟩ fun c9=>Rt 12 c9<|re<|bn<|tn<|go<|Pl 2<|ax a2 3<|?_
 have ba:=ut (ap.mono (S':=(ob A++(ob Z++[]))) b4 aB) (ut (ap.mono (S':=(ob A++(ob Z++[]))) t (ah il aB)) (ut (ap.mono (S':=(ob Z++[])) u aB) a1 (ah il aB)) (ah il aB)) (ah il (ah il aB))
 refine aF<|eU (bW (xs:=(M.recs.getD k ⟨0,0,0,[]⟩).words) (eO.old P (ut Q ba (ah (aT a l.size) (ah (aT an l.size) aB)))) (by(try simp only[List.length_cons,List.length_nil]);omega)) fun dM dN dO ca dP dR a3=>?_
 refine L0<|cZ bh (xs:=((L++[6])++(aQ ([(M.recs.getD k ⟨0,0,0,[]⟩).file,(M.recs.getD k ⟨0,0,0,[]⟩).record,(M.recs.getD k ⟨0,0,0,[]⟩).count])))) (ys:=(aQ ((M.recs.getD k ⟨0,0,0,[]⟩).words))) (vB 0) 1 (aj b8 a3 (fun x hx=>az) (fun _ _ h=>h)) (ca).rd (by(try simp only[cl,aq]);omega) (le (le (le (le (le (le (le (le (le (le g.size f) b.size) c.size) d.size) i.size) q.size) t.size) u.size) a1.size) a3.size) fun cc cd dS cf bb=>Pl 1<|nl<|bn<|tn<|go<|bA ((k:Int)+1)<|Pl 1<|nl<|?_
 exact fM ((k+1),(((L++[6])++(aQ ([(M.recs.getD k ⟨0,0,0,[]⟩).file,(M.recs.getD k ⟨0,0,0,[]⟩).record,(M.recs.getD k ⟨0,0,0,[]⟩).count])))++(aQ ((M.recs.getD k ⟨0,0,0,[]⟩).words))),cc,cd) ⟨(ut C (ut (ap.mono (S':=(ob A++(ob Z++(ob b7++[])))) ba (ah il (ah il aB))) (ut (ap.mono (S':=(ob b7++[])) a3 aB) bb (ah il aB)) (ah il aB)) (ah (aT a lr) (ah (aT an lr) (ah (aT b8 lr) aB)))),(le (le (le (le (le (le (le (le (le (le f b.size) c.size) d.size) i.size) q.size) t.size) u.size) a1.size) a3.size) bb.size),cf,(by(try dsimp only);omega),(by(try dsimp only);rw[← hL,fE dir M.code M.recs k (by omega)];simp only[eX,n,o,bt,List.append_assoc]),(by(try dsimp only);have hv:=hf.recw _ (fe ⟨0,0,0,[]⟩ M.recs k (by omega));(try simp only[cl,aq]);omega),(by(try dsimp only);(try simp only[cl]);omega)⟩ (by omega)
 refine  dv (m:=3) (e:=37) #[vW ((M.recs.getD k ⟨0,0,0,[]⟩).file),vW ((M.recs.getD k ⟨0,0,0,[]⟩).record),vW ((M.recs.getD k ⟨0,0,0,[]⟩).count)] fun dT dU cg ch v=>?_
 have bc:=gN cg (xs:=[(M.recs.getD k ⟨0,0,0,[]⟩).file,(M.recs.getD k ⟨0,0,0,[]⟩).record,(M.recs.getD k ⟨0,0,0,[]⟩).count]) (by as_aux_lemma=>kernel_rfl) (am (by omega) (am (by omega) (am (by omega) aY))) (by(try simp only[List.length_cons,List.length_nil]);omega) ch
 have a4:=ub v E
 refine b9 ⟨(ae a4 rfl),(ae a4 rfl),(ae a4 rfl)⟩ fun dV=>R0 1 rfl<|dv (m:=1) (e:=5) #[vB 6] fun dW dX ci cj r=>?_
 have ck:=dF ci (xs:=[6]) (by as_aux_lemma=>kernel_rfl) (am (by omega) aY) (by(try simp only[List.length_cons,List.length_nil]);omega) cj
 have a5:=ub r a4
 refine b9 ⟨(ae a5 rfl),(ae a5 rfl),(ae a5 rfl)⟩ fun dY=>?_
 have bd:=aH d (aH v r)
 refine R0 2 rfl<|cZ bh (xs:=L) (ys:=([6])) (vB 0) 1 (aj a (aH s bd) (fun x hx=>az) (fun _ _ h=>h)) (ck).rd (by(try simp only[cl,aq]);omega) (le (le (le (le (le (le g.size f) b.size) c.size) d.size) v.size) r.size) fun a6 dZ e0 ao y=>?_
 have a7:=ap.blk y (aM (dQ a lr B) az) a5
 refine b9 ⟨(ae a7 rfl),(ae a7 rfl),(ae a7 rfl)⟩ fun e1=>?_
 refine R0 10 rfl<|Oc<|eU (bW (xs:=[(M.recs.getD k ⟨0,0,0,[]⟩).file,(M.recs.getD k ⟨0,0,0,[]⟩).record,(M.recs.getD k ⟨0,0,0,[]⟩).count]) ((aj bc (ut (ap.mono (S':=(ob A++[])) r aB) y (ah il aB)) (fun x hx=>(aM ((ly bc a (le (le b.size c.size) d.size)) x hx) az)) (fun _ _ h=>h))).rd (by(try simp only[List.length_cons,List.length_nil]);omega)) fun e2 e3 e4 cm e5 e6 z=>?_
 have O:=ub z a7
 refine b9 ⟨(ae O rfl),(ae O rfl),(ae O rfl)⟩ fun e7=>?_
 have be:=aj ao z (fun x hx=>az) (fun _ _ h=>h)
 refine R0 11 rfl<|cZ bh (xs:=(L++[6])) (ys:=(aQ ([(M.recs.getD k ⟨0,0,0,[]⟩).file,(M.recs.getD k ⟨0,0,0,[]⟩).record,(M.recs.getD k ⟨0,0,0,[]⟩).count]))) (vB 0) 1 be (cm).rd (by(try simp only[cl,aq]);omega) (le (le (le (le (le (le (le (le g.size f) b.size) c.size) d.size) v.size) r.size) y.size) z.size) fun bg e8 e9 bi a8=>?_
 have a9:=ap.blk a8 (aM (aX O be (by decide)) az) O
 refine b9 ⟨(ae a9 rfl),(ae a9 rfl),(ae a9 rfl)⟩ fun co=>Rt 12 co<|re<|bn<|tn<|go<|Pl 2<|ax a9 3<|?_
 have bj:=ut (ap.mono (S':=(ob A++(ob a6++[]))) bd aB) (ut (ap.mono (S':=(ob A++(ob a6++[]))) y (ah il aB)) (ut (ap.mono (S':=(ob a6++[])) z aB) a8 (ah il aB)) (ah il aB)) (ah il (ah il aB))
 refine aF<|eU (bW (xs:=(M.recs.getD k ⟨0,0,0,[]⟩).words) (eO.old P (ut Q bj (ah (aT a l.size) (ah (aT ao l.size) aB)))) (by(try simp only[List.length_cons,List.length_nil]);omega)) fun ea eb ec cq ed ee aa=>?_
 refine L0<|cZ bh (xs:=((L++[6])++(aQ ([(M.recs.getD k ⟨0,0,0,[]⟩).file,(M.recs.getD k ⟨0,0,0,[]⟩).record,(M.recs.getD k ⟨0,0,0,[]⟩).count])))) (ys:=(aQ ((M.recs.getD k ⟨0,0,0,[]⟩).words))) (vB 0) 1 (aj bi aa (fun x hx=>az) (fun _ _ h=>h)) (cq).rd (by(try simp only[cl,aq]);omega) (le (le (le (le (le (le (le (le (le (le g.size f) b.size) c.size) d.size) v.size) r.size) y.size) z.size) a8.size) aa.size) fun cr ct ef cu bl=>Pl 1<|nl<|bn<|tn<|go<|bA ((k:Int)+1)<|Pl 1<|nl<|?_
 exact fM ((k+1),(((L++[6])++(aQ ([(M.recs.getD k ⟨0,0,0,[]⟩).file,(M.recs.getD k ⟨0,0,0,[]⟩).record,(M.recs.getD k ⟨0,0,0,[]⟩).count])))++(aQ ((M.recs.getD k ⟨0,0,0,[]⟩).words))),cr,ct) ⟨(ut C (ut (ap.mono (S':=(ob A++(ob a6++(ob bg++[])))) bj (ah il (ah il aB))) (ut (ap.mono (S':=(ob bg++[])) aa aB) bl (ah il aB)) (ah il aB)) (ah (aT a lr) (ah (aT ao lr) (ah (aT bi lr) aB)))),(le (le (le (le (le (le (le (le (le (le f b.size) c.size) d.size) v.size) r.size) y.size) z.size) a8.size) aa.size) bl.size),cu,(by(try dsimp only);omega),(by(try dsimp only);rw[← hL,fE dir M.code M.recs k (by omega)];simp only[eX,n,o,bt,List.append_assoc]),(by(try dsimp only);have hv:=hf.recw _ (fe ⟨0,0,0,[]⟩ M.recs k (by omega));(try simp only[cl,aq]);omega),(by(try dsimp only);(try simp only[cl]);omega)⟩ (by omega)
 have bD:=of_decide_eq_false n
 refine xt<|tx<|tx<|bx<|tn<|au 3<|bA ((L.length:Int)-1)<|Pl 1<|jc (aR.at_ (a).rd 0 (by omega)) fun eg eh bm ei ej=>L0<|pf L.length 0 bm (by omega)<|L0<|D0 bh (j:=0) a bm (by omega) (((L.length:Int)-1)%256) (fun _=>⟨rfl,by omega⟩) fun ek cv cw=>nl<|tn<|ay 2<|rt<|rr (.slice A L.length cp)<|?_
 have hk:k=M.recs.length:=by omega
 rw[hk,List.drop_length] at hL
 have hL2:[0]++bX dir M.code M.recs=L:=by rw[← hL];simp[bX]
 have hs:cO dir M=(L.set 0 (((L.length:Int)-1)%256)):=by unfold cO;rw[hL2]
 rw[hs]
 exact⟨_,rfl,(aJ.weaken cv l.size),(ut ac cw (ah (aT a l.size) aB))⟩
open Go.RowKit
theorem jm{parse:Int→Int→List Int→b6 × Int}{lay:Int→b6→List Int}{dir E:Int}{M X:b6}(hX:parse dir M.code (lay dir M)=(X,E))(hE:(E != 0)=true) : cg parse lay dir M=none:=by
  unfold cg
  rw[hX,if_neg]
  intro h
  injection h with h1 h2
  rw[h2] at hE
  cases hE
theorem jh{parse:Int→Int→List Int→b6 × Int}{lay:Int→b6→List Int}{dir E:Int}{M X:b6}(hX:parse dir M.code (lay dir M)=(X,E))(hE:decide (X=M)=false) : cg parse lay dir M=none:=by
  unfold cg
  rw[hX,if_neg]
  intro h
  injection h with h1 h2
  rw[h1] at hE
  simp at hE
theorem oP{parse:Int→Int→List Int→b6 × Int}{lay:Int→b6→List Int}{dir E:Int}{M X:b6}(hX:parse dir M.code (lay dir M)=(X,E))(hE:(E != 0)=false)(h:decide (X=M)=true) : cg parse lay dir M=some (lay dir M):=by
  unfold cg
  have h1:X=M:=by simpa using h
  have h2:E=0:=by simpa using hE
  rw[hX,h1,h2,if_pos rfl]
theorem fp{x y:Option (List Int)}(h:x=y){w:World}{e:Ending}{w':World}(k:fx y w e w') : fx x w e w':=by rw[h];exact k
theorem ki{m:Md}{cs:Array Value}{M:b6}{w:World}{dir:Int}(h:aE m w cs.toList M)(hf:bf M)(hlen:(cj dir M).length≤1048576) : Calls Tryz.prog 97 #[vI dir,.agg cs] w (fx (cg fw cj dir M) w):=by
 have hM:=h
 refine iK h fun Aw kw Ab kb Ad kd Ar kr Ao ko e hw hbt hd hr ho _ _ _ _ _ _ _ _ _ _ q0 q1 q2 q3 q4 q5 q6 q7 q8 q9 P Q R S T U V=>?_
 subst e
 refine en 29 Tryz.func97 rfl<|sg<|L0<|cU (mG M.code M.fail M.addr M.count M.value M.and_ M.or_ M.addr2 M.sub M.status M.events M.messages (.slice Aw M.words.length kw) (.slice Ab M.bits.length kb) (.slice Ad M.data.length kd) (.slice Ar M.recs.length kr) M.mei M.kind M.level M.more M.next (.slice Ao M.objects.length ko)) fun W X Y l i=>Pl 2<|aS 1<|L0<|cH l<|?_
 have n:=aE.old hM i
 refine aF<|eU (tP (dir:=dir) n hf) fun z C D o Z a0 p=>Pl 1<|aS 2<|?_
 have q:=ub p l
 refine ax q 0<|Pl 1<|pr (fw dir M.code (cj dir M)) fun f E g=>?_
 have r:Calls _ _ _ _ (dL (fw dir M.code (cj dir M)) D):=ku (dir:=dir) (c:=M.code) q0 (o).rd hlen
 rw[g] at r
 refine aF<|e2 (r) fun F a1 a G=>Pl 3<|aL mZ fun a2 a3 H I J=>aI (hz:=(by rw[a.size];exact bo)) (hv:=a.size) (h1:=a.one) I (F) fun a4 K L=>al 1<|sq<|au 3<|?_
 have s:=ud J L H
 have j:=aH G s
 have t:=aH p j
 have u:=aH i t
 refine bl 22 ((E != 0)) (fun b=>?_) (fun b=>?_)
 have N:=aN b
 refine al 5<|c1<|ay 2<|bJ<|rr (.tuple #[nS,vI 1])<|fp (jm g b) ?_
 exact⟨rfl,u⟩
 have N:=aV b
 refine L1<|cH (hz:=(by rw[a.size];exact bo)) K<|?_
 refine L1<|cH (ub j q)<|?_
 refine L1<|Oc<|m1 (ga (A:=f) (B:=M) (aE.upd a s aK) (aE.old n t)) fun a5 v=>al 2<|?_
 have y:=aH u v
 refine cb ((!(decide (f=M)))) (fun k=>?_) (fun k=>?_)
 have d:(decide (f=M))=false:=by simpa using k
 have O:=of_decide_eq_false d
 refine ay 2<|bJ<|rr (.tuple #[nS,vI 1])<|fp (jh g d) ?_
 exact⟨rfl,y⟩
 have d:(decide (f=M))=true:=by simpa using k
 have O:=of_decide_eq_true d
 refine bU<|ay 3<|rt<|rr (.tuple #[.slice z ((cj dir M).length) C,vI 0])<|?_
 refine fp (oP g b d) ?_
 exact⟨_,rfl,(aJ.weaken (aj o (aH j v) (fun x hx=>az) (fun _ _ h=>h)) i.size),y⟩
theorem kY{m:Md}{cs:Array Value}{M:b6}{w:World}{dir:Int}(h:aE m w cs.toList M)(hf:bf M)(hlen:(bL dir M).length≤1048576) : Calls Tryz.prog 99 #[vI dir,.agg cs] w (fx (cg gj bL dir M) w):=by
 have hM:=h
 refine iK h fun Aw kw Ab kb Ad kd Ar kr Ao ko e hw hbt hd hr ho _ _ _ _ _ _ _ _ _ _ q0 q1 q2 q3 q4 q5 q6 q7 q8 q9 P Q R S T U V=>?_
 subst e
 refine en 29 Tryz.func99 rfl<|sg<|L0<|cU (mG M.code M.fail M.addr M.count M.value M.and_ M.or_ M.addr2 M.sub M.status M.events M.messages (.slice Aw M.words.length kw) (.slice Ab M.bits.length kb) (.slice Ad M.data.length kd) (.slice Ar M.recs.length kr) M.mei M.kind M.level M.more M.next (.slice Ao M.objects.length ko)) fun W X Y l i=>Pl 2<|aS 1<|L0<|cH l<|?_
 have n:=aE.old hM i
 refine aF<|eU (w6 (dir:=dir) n hf) fun z C D o Z a0 p=>Pl 1<|aS 2<|?_
 have q:=ub p l
 refine ax q 0<|Pl 1<|pr (gj dir M.code (bL dir M)) fun f E g=>?_
 have r:Calls _ _ _ _ (dL (gj dir M.code (bL dir M)) D):=lM (dir:=dir) (c:=M.code) q0 (o).rd hlen
 rw[g] at r
 refine aF<|e2 (r) fun F a1 a G=>Pl 3<|aL mZ fun a2 a3 H I J=>aI (hz:=(by rw[a.size];exact bo)) (hv:=a.size) (h1:=a.one) I (F) fun a4 K L=>al 1<|sq<|au 3<|?_
 have s:=ud J L H
 have j:=aH G s
 have t:=aH p j
 have u:=aH i t
 refine bl 22 ((E != 0)) (fun b=>?_) (fun b=>?_)
 have N:=aN b
 refine al 5<|c1<|ay 2<|bJ<|rr (.tuple #[nS,vI 1])<|fp (jm g b) ?_
 exact⟨rfl,u⟩
 have N:=aV b
 refine L1<|cH (hz:=(by rw[a.size];exact bo)) K<|?_
 refine L1<|cH (ub j q)<|?_
 refine L1<|Oc<|m1 (ga (A:=f) (B:=M) (aE.upd a s aK) (aE.old n t)) fun a5 v=>al 2<|?_
 have y:=aH u v
 refine cb ((!(decide (f=M)))) (fun k=>?_) (fun k=>?_)
 have d:(decide (f=M))=false:=by simpa using k
 have O:=of_decide_eq_false d
 refine ay 2<|bJ<|rr (.tuple #[nS,vI 1])<|fp (jh g d) ?_
 exact⟨rfl,y⟩
 have d:(decide (f=M))=true:=by simpa using k
 have O:=of_decide_eq_true d
 refine bU<|ay 3<|rt<|rr (.tuple #[.slice z ((bL dir M).length) C,vI 0])<|?_
 refine fp (oP g b d) ?_
 exact⟨_,rfl,(aJ.weaken (aj o (aH j v) (fun x hx=>az) (fun _ _ h=>h)) i.size),y⟩
theorem lQ{m:Md}{cs:Array Value}{M:b6}{w:World}{dir:Int}(h:aE m w cs.toList M)(hf:bf M)(hlen:(bG dir M).length≤1048576) : Calls Tryz.prog 101 #[vI dir,.agg cs] w (fx (cg fW bG dir M) w):=by
 have hM:=h
 refine iK h fun Aw kw Ab kb Ad kd Ar kr Ao ko e hw hbt hd hr ho _ _ _ _ _ _ _ _ _ _ q0 q1 q2 q3 q4 q5 q6 q7 q8 q9 P Q R S T U V=>?_
 subst e
 refine en 29 Tryz.func101 rfl<|sg<|L0<|cU (mG M.code M.fail M.addr M.count M.value M.and_ M.or_ M.addr2 M.sub M.status M.events M.messages (.slice Aw M.words.length kw) (.slice Ab M.bits.length kb) (.slice Ad M.data.length kd) (.slice Ar M.recs.length kr) M.mei M.kind M.level M.more M.next (.slice Ao M.objects.length ko)) fun W X Y l i=>Pl 2<|aS 1<|L0<|cH l<|?_
 have n:=aE.old hM i
 refine aF<|eU (wu (dir:=dir) n hf) fun z C D o Z a0 p=>Pl 1<|aS 2<|?_
 have q:=ub p l
 refine ax q 0<|Pl 1<|pr (fW dir M.code (bG dir M)) fun f E g=>?_
 have r:Calls _ _ _ _ (dL (fW dir M.code (bG dir M)) D):=lx (dir:=dir) (c:=M.code) q0 (o).rd hlen
 rw[g] at r
 refine aF<|e2 (r) fun F a1 a G=>Pl 3<|aL mZ fun a2 a3 H I J=>aI (hz:=(by rw[a.size];exact bo)) (hv:=a.size) (h1:=a.one) I (F) fun a4 K L=>al 1<|sq<|au 3<|?_
 have s:=ud J L H
 have j:=aH G s
 have t:=aH p j
 have u:=aH i t
 refine bl 22 ((E != 0)) (fun b=>?_) (fun b=>?_)
 have N:=aN b
 refine al 5<|c1<|ay 2<|bJ<|rr (.tuple #[nS,vI 1])<|fp (jm g b) ?_
 exact⟨rfl,u⟩
 have N:=aV b
 refine L1<|cH (hz:=(by rw[a.size];exact bo)) K<|?_
 refine L1<|cH (ub j q)<|?_
 refine L1<|Oc<|m1 (ga (A:=f) (B:=M) (aE.upd a s aK) (aE.old n t)) fun a5 v=>al 2<|?_
 have y:=aH u v
 refine cb ((!(decide (f=M)))) (fun k=>?_) (fun k=>?_)
 have d:(decide (f=M))=false:=by simpa using k
 have O:=of_decide_eq_false d
 refine ay 2<|bJ<|rr (.tuple #[nS,vI 1])<|fp (jh g d) ?_
 exact⟨rfl,y⟩
 have d:(decide (f=M))=true:=by simpa using k
 have O:=of_decide_eq_true d
 refine bU<|ay 3<|rt<|rr (.tuple #[.slice z ((bG dir M).length) C,vI 0])<|?_
 refine fp (oP g b d) ?_
 exact⟨_,rfl,(aJ.weaken (aj o (aH j v) (fun x hx=>az) (fun _ _ h=>h)) i.size),y⟩
theorem mB{m:Md}{cs:Array Value}{M:b6}{w:World}{dir:Int}(h:aE m w cs.toList M)(hf:bf M)(hlen:(d7 dir M).length≤1048576) : Calls Tryz.prog 105 #[vI dir,.agg cs] w (fx (cg i6 d7 dir M) w):=by
 have hM:=h
 refine iK h fun Aw kw Ab kb Ad kd Ar kr Ao ko e hw hbt hd hr ho _ _ _ _ _ _ _ _ _ _ q0 q1 q2 q3 q4 q5 q6 q7 q8 q9 P Q R S T U V=>?_
 subst e
 refine en 29 Tryz.func105 rfl<|sg<|L0<|cU (mG M.code M.fail M.addr M.count M.value M.and_ M.or_ M.addr2 M.sub M.status M.events M.messages (.slice Aw M.words.length kw) (.slice Ab M.bits.length kb) (.slice Ad M.data.length kd) (.slice Ar M.recs.length kr) M.mei M.kind M.level M.more M.next (.slice Ao M.objects.length ko)) fun W X Y l i=>Pl 2<|aS 1<|L0<|cH l<|?_
 have n:=aE.old hM i
 refine aF<|eU (yG (dir:=dir) n hf) fun z C D o Z a0 p=>Pl 1<|aS 2<|?_
 have q:=ub p l
 refine ax q 0<|Pl 1<|pr (i6 dir M.code (d7 dir M)) fun f E g=>?_
 have r:Calls _ _ _ _ (dL (i6 dir M.code (d7 dir M)) D):=mW (dir:=dir) (c:=M.code) q0 (o).rd hlen
 rw[g] at r
 refine aF<|e2 (r) fun F a1 a G=>Pl 3<|aL mZ fun a2 a3 H I J=>aI (hz:=(by rw[a.size];exact bo)) (hv:=a.size) (h1:=a.one) I (F) fun a4 K L=>al 1<|sq<|au 3<|?_
 have s:=ud J L H
 have j:=aH G s
 have t:=aH p j
 have u:=aH i t
 refine bl 22 ((E != 0)) (fun b=>?_) (fun b=>?_)
 have N:=aN b
 refine al 5<|c1<|ay 2<|bJ<|rr (.tuple #[nS,vI 1])<|fp (jm g b) ?_
 exact⟨rfl,u⟩
 have N:=aV b
 refine L1<|cH (hz:=(by rw[a.size];exact bo)) K<|?_
 refine L1<|cH (ub j q)<|?_
 refine L1<|Oc<|m1 (ga (A:=f) (B:=M) (aE.upd a s aK) (aE.old n t)) fun a5 v=>al 2<|?_
 have y:=aH u v
 refine cb ((!(decide (f=M)))) (fun k=>?_) (fun k=>?_)
 have d:(decide (f=M))=false:=by simpa using k
 have O:=of_decide_eq_false d
 refine ay 2<|bJ<|rr (.tuple #[nS,vI 1])<|fp (jh g d) ?_
 exact⟨rfl,y⟩
 have d:(decide (f=M))=true:=by simpa using k
 have O:=of_decide_eq_true d
 refine bU<|ay 3<|rt<|rr (.tuple #[.slice z ((d7 dir M).length) C,vI 0])<|?_
 refine fp (oP g b d) ?_
 exact⟨_,rfl,(aJ.weaken (aj o (aH j v) (fun x hx=>az) (fun _ _ h=>h)) i.size),y⟩
theorem kg{m:Md}{cs:Array Value}{M:b6}{w:World}{dir:Int}(h:aE m w cs.toList M)(hf:bf M)(hlen:(cO dir M).length≤1048576) : Calls Tryz.prog 103 #[vI dir,.agg cs] w (fx (cg fa cO dir M) w):=by
 have hM:=h
 refine iK h fun Aw kw Ab kb Ad kd Ar kr Ao ko e hw hbt hd hr ho _ _ _ _ _ _ _ _ _ _ q0 q1 q2 q3 q4 q5 q6 q7 q8 q9 P Q R S T U V=>?_
 subst e
 refine en 29 Tryz.func103 rfl<|sg<|L0<|cU (mG M.code M.fail M.addr M.count M.value M.and_ M.or_ M.addr2 M.sub M.status M.events M.messages (.slice Aw M.words.length kw) (.slice Ab M.bits.length kb) (.slice Ad M.data.length kd) (.slice Ar M.recs.length kr) M.mei M.kind M.level M.more M.next (.slice Ao M.objects.length ko)) fun W X Y l i=>Pl 2<|aS 1<|L0<|cH l<|?_
 have n:=aE.old hM i
 refine aF<|eU (tY (dir:=dir) n hf) fun z C D o Z a0 p=>Pl 1<|aS 2<|?_
 have q:=ub p l
 refine ax q 0<|Pl 1<|pr (fa dir M.code (cO dir M)) fun f E g=>?_
 have r:Calls _ _ _ _ (dL (fa dir M.code (cO dir M)) D):=jZ (dir:=dir) (c:=M.code) q0 (o).rd hlen
 rw[g] at r
 refine aF<|e2 (r) fun F a1 a G=>Pl 3<|aL mZ fun a2 a3 H I J=>aI (hz:=(by rw[a.size];exact bo)) (hv:=a.size) (h1:=a.one) I (F) fun a4 K L=>al 1<|sq<|au 3<|?_
 have s:=ud J L H
 have j:=aH G s
 have t:=aH p j
 have u:=aH i t
 refine bl 22 ((E != 0)) (fun b=>?_) (fun b=>?_)
 have N:=aN b
 refine al 5<|c1<|ay 2<|bJ<|rr (.tuple #[nS,vI 1])<|fp (jm g b) ?_
 exact⟨rfl,u⟩
 have N:=aV b
 refine L1<|cH (hz:=(by rw[a.size];exact bo)) K<|?_
 refine L1<|cH (ub j q)<|?_
 refine L1<|Oc<|m1 (ga (A:=f) (B:=M) (aE.upd a s aK) (aE.old n t)) fun a5 v=>al 2<|?_
 have y:=aH u v
 refine cb ((!(decide (f=M)))) (fun k=>?_) (fun k=>?_)
 have d:(decide (f=M))=false:=by simpa using k
 have O:=of_decide_eq_false d
 refine ay 2<|bJ<|rr (.tuple #[nS,vI 1])<|fp (jh g d) ?_
 exact⟨rfl,y⟩
 have d:(decide (f=M))=true:=by simpa using k
 have O:=of_decide_eq_true d
 refine bU<|ay 3<|rt<|rr (.tuple #[.slice z ((cO dir M).length) C,vI 0])<|?_
 refine fp (oP g b d) ?_
 exact⟨_,rfl,(aJ.weaken (aj o (aH j v) (fun x hx=>az) (fun _ _ h=>h)) i.size),y⟩
open Go.RowKit
def gX:Nat→Int→b6→Option (List Int)
  | 1,dir,M=>cg fw cj dir M
  | 2,dir,M=>cg gj bL dir M
  | 3,dir,M=>cg fW bG dir M
  | 4,dir,M=>cg fa cO dir M
  | 5,dir,M=>cg i6 d7 dir M
  | _,_,_=>none
def dD (dir:Int)(M:b6) : Option (List Int) :=
  if M.fail != 0 then (if dir != 1 then none else pq M)
  else match gX (mr M.code) dir M with
    | none=>none
    | some l=>if decide (253≤(l.length:Int)) then none else some ([M.code]++l)
theorem pO:∀ (L:List Obj),(∀ r,r∈L→r.value.length≤1024)→(eM L).length≤1026*L.length
  | [],_=>by simp[eM]
  | r :: L,h=>by
    have h1:=h r (by simp)
    have h2:=pO L fun x hx=>h x (by simp[hx])
    simp only[eM,List.length_append,List.length_cons,List.length_nil]
    omega
theorem lc(dir c:Int) : ∀ (L:List dY),(∀ r,r∈L→r.words.length≤1024)→(bX dir c L).length≤2064*L.length
  | [],_=>by simp[bX]
  | r :: L,h=>by
    have h1:=h r (by simp)
    have h2:=lc dir c L fun x hx=>h x (by simp[hx])
    simp only[bX,eX]
    repeat' split
    all_goals simp only[cl,aq]
    all_goals omega
theorem eB{M:b6}(hf:bf M)(dir:Int) : (cj dir M).length≤1048576∧(bL dir M).length≤1048576∧(bG dir M).length≤1048576∧(d7 dir M).length≤1048576∧(cO dir M).length≤1048576:=by
  have hp:(dy M.bits).length≤1024:=by
    have:=hf.bits
    simp only[dy,List.length_map,List.length_range,eI]
    omega
  have h1:=hf.words
  have h2:=hf.data
  have h3:=hf.objects
  have h4:=pO M.objects hf.objv
  have h5:=lc dir M.code M.recs hf.recw
  have h6:=hf.recs
  refine⟨?_,?_,?_,?_,?_⟩
  · unfold cj
    repeat' split
    all_goals simp only[cl,aq]
    all_goals omega
  · unfold bL
    repeat' split
    all_goals simp only[cl,aq]
    all_goals omega
  · unfold bG
    repeat' split
    all_goals simp only[cl,aq]
    all_goals omega
  · unfold d7
    repeat' split
    all_goals simp only[cl]
    all_goals omega
  · unfold cO
    simp only[List.length_set,List.length_append,List.length_cons,List.length_nil]
    omega
theorem eV{m:Md}{cs:Array Value}{M:b6}{w:World}{dir:Int}(h:aE m w cs.toList M)(hf:bf M) : Calls Tryz.prog 51 #[vI dir,.agg cs] w (fx (dD dir M) w):=by
 have hM:=h
 refine iK h fun Aw kw Ab kb Ad kd Ar kr Ao ko e hw hbt hd hr ho _ _ _ _ _ _ _ _ _ _ q0 q1 q2 q3 q4 q5 q6 q7 q8 q9 cf ch d ci ck cm cn=>?_
 subst e
 refine en 47 Tryz.func51 rfl<|sg<|L0<|cU (mG M.code M.fail M.addr M.count M.value M.and_ M.or_ M.addr2 M.sub M.status M.events M.messages (.slice Aw M.words.length kw) (.slice Ab M.bits.length kb) (.slice Ad M.data.length kd) (.slice Ar M.recs.length kr) M.mei M.kind M.level M.more M.next (.slice Ao M.objects.length ko)) fun co f cp c b=>al 2<|sq<|au 1<|ax c 1<|Pl 1<|nl<|tn<|cb ((M.fail != 0)) (fun a=>?_) (fun a=>?_)
 have ak:=aN a
 refine sq<|ay 2<|cb ((dir != 1)) (fun d=>?_) (fun d=>?_)
 have an:=aN d
 exact ay 2<|bJ<|tr<|rr (.tuple #[nS,vI 1])<|dA (y:=none) (by unfold dD;(try simp only[a,d,bt,reduceIte])<;>rfl) ⟨rfl,b⟩
 have an:=aV d
 refine bU<|sg<|L0<|cH c<|?_
 rcases hwr:pq M with _|lw
 have F:=mP (aE.old hM b)
 rw[hwr] at F
 refine aF<|m1 F fun cq ao=>al 4<|bJ<|rr (.tuple #[nS,vI 1])<|?_
 exact dA (y:=none) (by unfold dD;(try simp only[a,d,bt,hwr,reduceIte])<;>rfl) ⟨rfl,(aH b ao)⟩
 have G:=mP (aE.old hM b)
 rw[hwr] at G
 refine aF<|eU G fun ap ar cr av ct cu aw=>al 4<|bJ<|rr (.tuple #[.slice ap lw.length ar,vI 0])<|?_
 exact dA (y:=(some lw)) (by unfold dD;(try simp only[a,d,bt,hwr,reduceIte])<;>rfl) ⟨_,rfl,(aJ.weaken av b.size),(aH b aw)⟩
 have ak:=aV a
 refine bU<|au 1<|ax c 0<|?_
 rcases jI M.code with⟨hk,hkf⟩|⟨hk,hkf⟩|⟨hk,hkf⟩|⟨hk,hkf⟩|⟨hk,hkf⟩|⟨hk,hkf⟩
 have H:=eL (x:=M.code) (w:=f)
 rw[hkf] at H
 refine aF<|m1 H fun cv aA=>Pl 3<|aL #[.nilFunc,.nilFunc] fun cw cx aC aD aG=>aI aD #[.func (.func 96) #[] #[],.func (.func 97) #[] #[]] fun cy aK aM=>al 1<|sq<|ay 2<|c0<|bU<|au 1<|ax aK 1<|Pl 1<|?_
 have I:=aH aA (ud aG aM aC)
 have J:=ub I c
 refine L0<|cH J<|?_
 have n:=aH b I
 rcases hwr:cg fw cj dir M with _|lw
 have K:=ki (dir:=dir) (aE.old hM n) hf (eB hf dir).1
 rw[hwr] at K
 refine L0<|fy #[] #[] (args:=#[vI dir,.agg (mG M.code M.fail M.addr M.count M.value M.and_ M.or_ M.addr2 M.sub M.status M.events M.messages (.slice Aw M.words.length kw) (.slice Ab M.bits.length kb) (.slice Ad M.data.length kd) (.slice Ar M.recs.length kr) M.mei M.kind M.level M.more M.next (.slice Ao M.objects.length ko))])<|m1 K fun cz aO=>al 5<|sq<|ay 7<|c1<|au 2<|nl<|tn<|bJ<|rr (.tuple #[nS,vI 1])<|?_
 exact dA (y:=none) (by unfold dD;(try simp only[a,bt,hkf,gX,hwr,reduceIte])<;>rfl) ⟨rfl,(aH n aO)⟩
 have L:=ki (dir:=dir) (aE.old hM n) hf (eB hf dir).1
 rw[hwr] at L
 refine L0<|fy #[] #[] (args:=#[vI dir,.agg (mG M.code M.fail M.addr M.count M.value M.and_ M.or_ M.addr2 M.sub M.status M.events M.messages (.slice Aw M.words.length kw) (.slice Ab M.bits.length kb) (.slice Ad M.data.length kd) (.slice Ar M.recs.length kr) M.mei M.kind M.level M.more M.next (.slice Ao M.objects.length ko))])<|eU L fun cA cB cC aP cD cE N=>al 5<|sq<|ay 7<|?_
 have s:=aH n N
 refine cb ((decide (253≤(lw.length:Int)))) (fun g=>?_) (fun g=>?_)
 have aQ:=of_decide_eq_true g
 exact ay 2<|bJ<|rr (.tuple #[nS,vI 1])<|dA (y:=none) (by unfold dD;(try simp only[a,g,bt,hkf,gX,hwr,reduceIte])<;>rfl) ⟨rfl,s⟩
 have aQ:=of_decide_eq_false g
 refine bU<|au 1<|?_
 refine ax (ub N J) 0<|L0<|dv (m:=1) (e:=5) #[vB M.code] fun cF cG aR aS t=>?_
 have O:=dF aR (xs:=[M.code]) (by as_aux_lemma=>kernel_rfl) (am (by omega) aY) (by(try simp only[List.length_cons,List.length_nil]);omega) aS
 refine Pl 1<|?_
 refine L0<|cZ bh (xs:=([M.code])) (ys:=lw) (vB 0) 1 O ((aj aP t (fun x hx=>az) (fun _ _ h=>h))).rd (by(try simp only[cl,aq]);omega) t.size fun aU aW cI aX aZ=>al 2<|rt<|rr (.tuple #[.slice aU (([M.code]++lw).length) aW,vI 0])<|?_
 exact dA (y:=(some ([M.code]++lw))) (by unfold dD;(try simp only[a,g,bt,hkf,gX,hwr,reduceIte])<;>rfl) ⟨_,rfl,(aJ.weaken aX s.size),(aH s (ut t aZ (ah (aT O lr) aB)))⟩
 have P:=eL (x:=M.code) (w:=f)
 rw[hkf] at P
 refine aF<|m1 P fun cJ b0=>Pl 3<|aL #[.nilFunc,.nilFunc] fun cK cL b1 b2 b3=>aI b2 #[.func (.func 98) #[] #[],.func (.func 99) #[] #[]] fun cM b4 b5=>al 1<|sq<|ay 2<|c0<|bU<|au 1<|ax b4 1<|Pl 1<|?_
 have Q:=aH b0 (ud b3 b5 b1)
 have R:=ub Q c
 refine L0<|cH R<|?_
 have o:=aH b Q
 rcases hwr:cg gj bL dir M with _|lw
 have S:=kY (dir:=dir) (aE.old hM o) hf (eB hf dir).2.1
 rw[hwr] at S
 refine L0<|fy #[] #[] (args:=#[vI dir,.agg (mG M.code M.fail M.addr M.count M.value M.and_ M.or_ M.addr2 M.sub M.status M.events M.messages (.slice Aw M.words.length kw) (.slice Ab M.bits.length kb) (.slice Ad M.data.length kd) (.slice Ar M.recs.length kr) M.mei M.kind M.level M.more M.next (.slice Ao M.objects.length ko))])<|m1 S fun cN b7=>al 5<|sq<|ay 7<|c1<|au 2<|nl<|tn<|bJ<|rr (.tuple #[nS,vI 1])<|?_
 exact dA (y:=none) (by unfold dD;(try simp only[a,bt,hkf,gX,hwr,reduceIte])<;>rfl) ⟨rfl,(aH o b7)⟩
 have T:=kY (dir:=dir) (aE.old hM o) hf (eB hf dir).2.1
 rw[hwr] at T
 refine L0<|fy #[] #[] (args:=#[vI dir,.agg (mG M.code M.fail M.addr M.count M.value M.and_ M.or_ M.addr2 M.sub M.status M.events M.messages (.slice Aw M.words.length kw) (.slice Ab M.bits.length kb) (.slice Ad M.data.length kd) (.slice Ar M.recs.length kr) M.mei M.kind M.level M.more M.next (.slice Ao M.objects.length ko))])<|eU T fun cP cQ cR b8 cS cT U=>al 5<|sq<|ay 7<|?_
 have u:=aH o U
 refine cb ((decide (253≤(lw.length:Int)))) (fun i=>?_) (fun i=>?_)
 have b9:=of_decide_eq_true i
 exact ay 2<|bJ<|rr (.tuple #[nS,vI 1])<|dA (y:=none) (by unfold dD;(try simp only[a,i,bt,hkf,gX,hwr,reduceIte])<;>rfl) ⟨rfl,u⟩
 have b9:=of_decide_eq_false i
 refine bU<|au 1<|?_
 refine ax (ub U R) 0<|L0<|dv (m:=1) (e:=5) #[vB M.code] fun cV cW ba bb v=>?_
 have V:=dF ba (xs:=[M.code]) (by as_aux_lemma=>kernel_rfl) (am (by omega) aY) (by(try simp only[List.length_cons,List.length_nil]);omega) bb
 refine Pl 1<|?_
 refine L0<|cZ bh (xs:=([M.code])) (ys:=lw) (vB 0) 1 V ((aj b8 v (fun x hx=>az) (fun _ _ h=>h))).rd (by(try simp only[cl,aq]);omega) v.size fun bc bd cX be bg=>al 2<|rt<|rr (.tuple #[.slice bc (([M.code]++lw).length) bd,vI 0])<|?_
 exact dA (y:=(some ([M.code]++lw))) (by unfold dD;(try simp only[a,i,bt,hkf,gX,hwr,reduceIte])<;>rfl) ⟨_,rfl,(aJ.weaken be u.size),(aH u (ut v bg (ah (aT V lr) aB)))⟩
 have W:=eL (x:=M.code) (w:=f)
 rw[hkf] at W
 refine aF<|m1 W fun cY bi=>Pl 3<|aL #[.nilFunc,.nilFunc] fun d0 d1 bj bk bl=>aI bk #[.func (.func 100) #[] #[],.func (.func 101) #[] #[]] fun d2 bm bn=>al 1<|sq<|ay 2<|c0<|bU<|au 1<|ax bm 1<|Pl 1<|?_
 have X:=aH bi (ud bl bn bj)
 have Y:=ub X c
 refine L0<|cH Y<|?_
 have p:=aH b X
 rcases hwr:cg fW bG dir M with _|lw
 have Z:=lQ (dir:=dir) (aE.old hM p) hf (eB hf dir).2.2.1
 rw[hwr] at Z
 refine L0<|fy #[] #[] (args:=#[vI dir,.agg (mG M.code M.fail M.addr M.count M.value M.and_ M.or_ M.addr2 M.sub M.status M.events M.messages (.slice Aw M.words.length kw) (.slice Ab M.bits.length kb) (.slice Ad M.data.length kd) (.slice Ar M.recs.length kr) M.mei M.kind M.level M.more M.next (.slice Ao M.objects.length ko))])<|m1 Z fun d3 bo=>al 5<|sq<|ay 7<|c1<|au 2<|nl<|tn<|bJ<|rr (.tuple #[nS,vI 1])<|?_
 exact dA (y:=none) (by unfold dD;(try simp only[a,bt,hkf,gX,hwr,reduceIte])<;>rfl) ⟨rfl,(aH p bo)⟩
 have a0:=lQ (dir:=dir) (aE.old hM p) hf (eB hf dir).2.2.1
 rw[hwr] at a0
 refine L0<|fy #[] #[] (args:=#[vI dir,.agg (mG M.code M.fail M.addr M.count M.value M.and_ M.or_ M.addr2 M.sub M.status M.events M.messages (.slice Aw M.words.length kw) (.slice Ab M.bits.length kb) (.slice Ad M.data.length kd) (.slice Ar M.recs.length kr) M.mei M.kind M.level M.more M.next (.slice Ao M.objects.length ko))])<|eU a0 fun d4 d5 d6 bp d8 d9 a1=>al 5<|sq<|ay 7<|?_
 have z:=aH p a1
 refine cb ((decide (253≤(lw.length:Int)))) (fun j=>?_) (fun j=>?_)
 have bq:=of_decide_eq_true j
 exact ay 2<|bJ<|rr (.tuple #[nS,vI 1])<|dA (y:=none) (by unfold dD;(try simp only[a,j,bt,hkf,gX,hwr,reduceIte])<;>rfl) ⟨rfl,z⟩
 have bq:=of_decide_eq_false j
 refine bU<|au 1<|?_
 refine ax (ub a1 Y) 0<|L0<|dv (m:=1) (e:=5) #[vB M.code] fun da db br bs A=>?_
 have a2:=dF br (xs:=[M.code]) (by as_aux_lemma=>kernel_rfl) (am (by omega) aY) (by(try simp only[List.length_cons,List.length_nil]);omega) bs
 refine Pl 1<|?_
 refine L0<|cZ bh (xs:=([M.code])) (ys:=lw) (vB 0) 1 a2 ((aj bp A (fun x hx=>az) (fun _ _ h=>h))).rd (by(try simp only[cl,aq]);omega) A.size fun bu bv dc bw bx=>al 2<|rt<|rr (.tuple #[.slice bu (([M.code]++lw).length) bv,vI 0])<|?_
 exact dA (y:=(some ([M.code]++lw))) (by unfold dD;(try simp only[a,j,bt,hkf,gX,hwr,reduceIte])<;>rfl) ⟨_,rfl,(aJ.weaken bw z.size),(aH z (ut A bx (ah (aT a2 lr) aB)))⟩
 have a3:=eL (x:=M.code) (w:=f)
 rw[hkf] at a3
 refine aF<|m1 a3 fun dd bz=>Pl 3<|aL #[.nilFunc,.nilFunc] fun de df bA bB bC=>aI bB #[.func (.func 102) #[] #[],.func (.func 103) #[] #[]] fun dg bD bE=>al 1<|sq<|ay 2<|c0<|bU<|au 1<|ax bD 1<|Pl 1<|?_
 have a4:=aH bz (ud bC bE bA)
 have a5:=ub a4 c
 refine L0<|cH a5<|?_
 have q:=aH b a4
 rcases hwr:cg fa cO dir M with _|lw
 have a6:=kg (dir:=dir) (aE.old hM q) hf (eB hf dir).2.2.2.2
 rw[hwr] at a6
 refine L0<|fy #[] #[] (args:=#[vI dir,.agg (mG M.code M.fail M.addr M.count M.value M.and_ M.or_ M.addr2 M.sub M.status M.events M.messages (.slice Aw M.words.length kw) (.slice Ab M.bits.length kb) (.slice Ad M.data.length kd) (.slice Ar M.recs.length kr) M.mei M.kind M.level M.more M.next (.slice Ao M.objects.length ko))])<|m1 a6 fun dh bF=>al 5<|sq<|ay 7<|c1<|au 2<|nl<|tn<|bJ<|rr (.tuple #[nS,vI 1])<|?_
 exact dA (y:=none) (by unfold dD;(try simp only[a,bt,hkf,gX,hwr,reduceIte])<;>rfl) ⟨rfl,(aH q bF)⟩
 have a7:=kg (dir:=dir) (aE.old hM q) hf (eB hf dir).2.2.2.2
 rw[hwr] at a7
 refine L0<|fy #[] #[] (args:=#[vI dir,.agg (mG M.code M.fail M.addr M.count M.value M.and_ M.or_ M.addr2 M.sub M.status M.events M.messages (.slice Aw M.words.length kw) (.slice Ab M.bits.length kb) (.slice Ad M.data.length kd) (.slice Ar M.recs.length kr) M.mei M.kind M.level M.more M.next (.slice Ao M.objects.length ko))])<|eU a7 fun di dj dk bH dl dm a8=>al 5<|sq<|ay 7<|?_
 have B:=aH q a8
 refine cb ((decide (253≤(lw.length:Int)))) (fun k=>?_) (fun k=>?_)
 have bI:=of_decide_eq_true k
 exact ay 2<|bJ<|rr (.tuple #[nS,vI 1])<|dA (y:=none) (by unfold dD;(try simp only[a,k,bt,hkf,gX,hwr,reduceIte])<;>rfl) ⟨rfl,B⟩
 have bI:=of_decide_eq_false k
 refine bU<|au 1<|?_
 refine ax (ub a8 a5) 0<|L0<|dv (m:=1) (e:=5) #[vB M.code] fun dn dp bK bM C=>?_
 have a9:=dF bK (xs:=[M.code]) (by as_aux_lemma=>kernel_rfl) (am (by omega) aY) (by(try simp only[List.length_cons,List.length_nil]);omega) bM
 refine Pl 1<|?_
 refine L0<|cZ bh (xs:=([M.code])) (ys:=lw) (vB 0) 1 a9 ((aj bH C (fun x hx=>az) (fun _ _ h=>h))).rd (by(try simp only[cl,aq]);omega) C.size fun bN bO dq bP bQ=>al 2<|rt<|rr (.tuple #[.slice bN (([M.code]++lw).length) bO,vI 0])<|?_
 exact dA (y:=(some ([M.code]++lw))) (by unfold dD;(try simp only[a,k,bt,hkf,gX,hwr,reduceIte])<;>rfl) ⟨_,rfl,(aJ.weaken bP B.size),(aH B (ut C bQ (ah (aT a9 lr) aB)))⟩
 have aa:=eL (x:=M.code) (w:=f)
 rw[hkf] at aa
 refine aF<|m1 aa fun dr bR=>Pl 3<|aL #[.nilFunc,.nilFunc] fun ds dt bS bT bV=>aI bT #[.func (.func 104) #[] #[],.func (.func 105) #[] #[]] fun du bW bX=>al 1<|sq<|ay 2<|c0<|bU<|au 1<|ax bW 1<|Pl 1<|?_
 have ab:=aH bR (ud bV bX bS)
 have ac:=ub ab c
 refine L0<|cH ac<|?_
 have r:=aH b ab
 rcases hwr:cg i6 d7 dir M with _|lw
 have ad:=mB (dir:=dir) (aE.old hM r) hf (eB hf dir).2.2.2.1
 rw[hwr] at ad
 refine L0<|fy #[] #[] (args:=#[vI dir,.agg (mG M.code M.fail M.addr M.count M.value M.and_ M.or_ M.addr2 M.sub M.status M.events M.messages (.slice Aw M.words.length kw) (.slice Ab M.bits.length kb) (.slice Ad M.data.length kd) (.slice Ar M.recs.length kr) M.mei M.kind M.level M.more M.next (.slice Ao M.objects.length ko))])<|m1 ad fun dw bY=>al 5<|sq<|ay 7<|c1<|au 2<|nl<|tn<|bJ<|rr (.tuple #[nS,vI 1])<|?_
 exact dA (y:=none) (by unfold dD;(try simp only[a,bt,hkf,gX,hwr,reduceIte])<;>rfl) ⟨rfl,(aH r bY)⟩
 have ae:=mB (dir:=dir) (aE.old hM r) hf (eB hf dir).2.2.2.1
 rw[hwr] at ae
 refine L0<|fy #[] #[] (args:=#[vI dir,.agg (mG M.code M.fail M.addr M.count M.value M.and_ M.or_ M.addr2 M.sub M.status M.events M.messages (.slice Aw M.words.length kw) (.slice Ab M.bits.length kb) (.slice Ad M.data.length kd) (.slice Ar M.recs.length kr) M.mei M.kind M.level M.more M.next (.slice Ao M.objects.length ko))])<|eU ae fun dx dy dz bZ dB dC af=>al 5<|sq<|ay 7<|?_
 have D:=aH r af
 refine cb ((decide (253≤(lw.length:Int)))) (fun l=>?_) (fun l=>?_)
 have c2:=of_decide_eq_true l
 exact ay 2<|bJ<|rr (.tuple #[nS,vI 1])<|dA (y:=none) (by unfold dD;(try simp only[a,l,bt,hkf,gX,hwr,reduceIte])<;>rfl) ⟨rfl,D⟩
 have c2:=of_decide_eq_false l
 refine bU<|au 1<|?_
 refine ax (ub af ac) 0<|L0<|dv (m:=1) (e:=5) #[vB M.code] fun dE dG c3 c4 E=>?_
 have ag:=dF c3 (xs:=[M.code]) (by as_aux_lemma=>kernel_rfl) (am (by omega) aY) (by(try simp only[List.length_cons,List.length_nil]);omega) c4
 refine Pl 1<|?_
 refine L0<|cZ bh (xs:=([M.code])) (ys:=lw) (vB 0) 1 ag ((aj bZ E (fun x hx=>az) (fun _ _ h=>h))).rd (by(try simp only[cl,aq]);omega) E.size fun c5 c6 dH c7 c8=>al 2<|rt<|rr (.tuple #[.slice c5 (([M.code]++lw).length) c6,vI 0])<|?_
 exact dA (y:=(some ([M.code]++lw))) (by unfold dD;(try simp only[a,l,bt,hkf,gX,hwr,reduceIte])<;>rfl) ⟨_,rfl,(aJ.weaken c7 D.size),(aH D (ut E c8 (ah (aT ag lr) aB)))⟩
 have ai:=eL (x:=M.code) (w:=f)
 rw[hkf] at ai
 refine aF<|m1 ai fun dI c9=>Pl 3<|aL #[.nilFunc,.nilFunc] fun dJ dK ca cc cd=>aI cc #[.nilFunc,.nilFunc] fun dL dM ce=>al 1<|sq<|ay 2<|c1<|ay 2<|bJ<|rr (.tuple #[nS,vI 1])<|?_
 exact dA (y:=none) (by unfold dD;(try simp only[a,bt,hkf,gX,reduceIte])<;>rfl) ⟨rfl,(aH b (aH c9 (ud cd ce ca)))⟩
open Go.RowKit
def gY:Nat→Int→List Int→b6 × Int
  | 1,dir,b=>aG bj dir (b.getD 0 0) (b.drop 1)
  | 2,dir,b=>aG bQ dir (b.getD 0 0) (b.drop 1)
  | 3,dir,b=>aG bv dir (b.getD 0 0) (b.drop 1)
  | 4,dir,b=>aG bz dir (b.getD 0 0) (b.drop 1)
  | 5,dir,b=>aG cc dir (b.getD 0 0) (b.drop 1)
  | _,_,_=>(b6.zero,4)
def dm (dir:Int)(b:List Int) : b6 × Int :=
  if dir != 0&&dir != 1 then (b6.zero,1)
  else if (b.length:Int)==0 then (b6.zero,2)
  else if decide (253<(b.length:Int)) then (b6.zero,3)
  else if decide (128≤b.getD 0 0)&&dir==1 then iQ b
  else gY (mr (b.getD 0 0)) dir b
theorem sj{m:Md}{A:Option Addr}{cp:Nat}{b:List Int}{w:World}{dir:Int}(hsl:aR m w (.slice A b.length cp) b)(hb:b.length≤1048576) :
    Calls Tryz.prog 83 #[vI dir,.slice A b.length cp] w (dL (dm dir b) w):=by
 have hln:(b.length:Int)≤1048576:=by omega
 refine en 60 Tryz.func83 rfl<|sg<|aL mZ fun dh t h d a=>al 1<|sq<|bk<|au 3<|gy 3 [11] 14 11 (dir != 0) (dir != 1) (fun K c8 c9=>?_) ?_
 have di:=aN c9
 exact Pl 3<|ce c8 _ rfl
 refine al 1<|cb (((dir != 0)&&(dir != 1))) (fun e=>?_) (fun e=>?_)
 have V:=(bK e).1
 have W:=(bK e).2
 have dj:=aN V
 have dk:=aN W
 refine au 1<|aI d mZ fun dl ca cd=>al 1<|rt<|br<|tr<|dZ ca (vI 1)<|?_
 exact dA (by unfold dm;(try simp only[e,V,W,bt,gY,reduceIte])<;>rfl) (bV (ud a cd h))
 refine ay 4<|cb (((b.length:Int)==0)) (fun f=>?_) (fun f=>?_)
 have cf:=aC f
 refine au 1<|aI d mZ fun dn cg ch=>al 1<|rt<|br<|tr<|dZ cg (vI 2)<|?_
 exact dA (by unfold dm;(try simp only[e,f,bt,gY,reduceIte])<;>rfl) (bV (ud a ch h))
 have cf:=aO f
 refine ay 4<|cb ((decide (253<(b.length:Int)))) (fun g=>?_) (fun g=>?_)
 have ci:=of_decide_eq_true g
 refine au 1<|aI d mZ fun dp cj ck=>al 1<|rt<|br<|tr<|dZ cj (vI 3)<|?_
 exact dA (by unfold dm;(try simp only[e,f,g,bt,gY,reduceIte])<;>rfl) (bV (ud a ck h))
 have ci:=of_decide_eq_false g
 refine au 1<|?_
 have s:=aR.old hsl a
 refine jc (aR.at_ s 0 (by omega)) fun X Y Z a0 dq=>L0<|pf b.length 0 Z (by omega)<|L0<|m8 (p:=⟨X,Y+0,none⟩) (v:=vB (b.getD 0 0)) a0<|Pl 2<|gy 3 [31] 34 31 (decide (128≤(b.getD 0 0))) (dir==1) (fun K cl cm=>?_) ?_
 have dr:=of_decide_eq_true cm
 exact Pl 3<|ce cl _ rfl
 refine al 1<|cb (((decide (128≤(b.getD 0 0)))&&(dir==1))) (fun i=>?_) (fun i=>?_)
 have a1:=(bK i).1
 have a2:=(bK i).2
 have ds:=of_decide_eq_true a1
 have dt:=aC a2
 refine au 1<|aF<|e2 (u0 s (by omega)) fun cn du u a3=>Pl 2<|?_
 have a4:=ub a3 d
 refine aI (hz:=(by rw[u.size];exact bo)) (hv:=u.size) (h1:=u.one) a4 (cn) fun dv co a5=>al 1<|rt<|br<|tr<|jq 22 u.size co (vI (((iQ b)).2))<|?_
 exact dA (by unfold dm;(try simp only[e,f,g,i,a1,a2,bt,gY,reduceIte])<;>rfl) ⟨_,rfl,(aE.lo (aE.upd u a5 (ak (aW a4 (by decide)) aK)) a.size),(ud a (uz a3 a5) h)⟩
 refine sk<|bn<|tn<|au 1<|L0<|pf b.length 0 Z (by omega)<|L0<|m8 (p:=⟨X,Y+0,none⟩) (v:=vB (b.getD 0 0)) a0<|?_
 rcases jI (b.getD 0 0) with⟨hk,hkf⟩|⟨hk,hkf⟩|⟨hk,hkf⟩|⟨hk,hkf⟩|⟨hk,hkf⟩|⟨hk,hkf⟩
 have a6:=eL (x:=(b.getD 0 0)) (w:=t)
 rw[hkf] at a6
 refine aF<|m1 a6 fun dw J=>Pl 3<|aL #[.nilFunc,.nilFunc] fun cq dx a7 cr a8=>aI cr #[.func (.func 96) #[] #[],.func (.func 97) #[] #[]] fun dy cs a9=>al 1<|sq<|ay 2<|c0<|bU<|sq<|?_
 have aa:=aH J (ud a8 a9 a7)
 have ab:=aR.old s aa
 refine jc (aR.at_ ab 0 (by omega)) fun ct cu ac ad dz=>Rg 13 (fun w'=>w'.cell? ⟨cq,0,none⟩=some (.func (.func 96) #[] #[])∧w'.cell? ⟨ct,cu+0,none⟩=some (vB (b.getD 0 0))) fun dB y=>?_
 have af:=ub y cs
 refine b9 ⟨(ae af rfl),(uc y ad)⟩ fun j=>Rt 0 j<|Rl 1 j (fun _ hs=>hs.1)<|Rt 2 j<|Rt 3 j<|xz 4 j b.length 0 0 rfl ac (by omega)<|Rl 5 j (fun _ hs=>hs.2)<|Rt 6 j<|qN (ft (P:=Tryz.prog) 27 5 1 Tryz.underlying27 rfl rfl A b.length cp 1 (by omega)) fun ag hrun108 cv=>Rr 7 j (.slice ag (b.length-1) (cp-1)) (fun _ _=>e7 (kl:=.i64) (k:=((1:Nat) : Int)) (A:=A) (n:=b.length) (c:=cp) rfl Tryz.underlying27 (by kernel_rfl) (by kernel_rfl) (hrun108 _ _))<|?_
 refine R0 8 rfl<|fy #[] #[] (args:=#[vI dir,vB (b.getD 0 0),.slice ag (b.length-1) (cp-1)])<|e2 (ku (dir:=dir) (c:=(b.getD 0 0)) (b8 (by omega)) (cv _ _ _ _ _ (aR.old ab y)) (by(try simp only[List.length_drop]);omega)) fun cw dC z ah=>?_
 have aj:=ub ah af
 have am:=aH y ah
 refine b9 ⟨(ae aj rfl),(uc am ad)⟩ fun an=>Rt 9 an<|Rt 10 an<|?_
 have ao:=aH aa am
 have ap:=ub ao d
 refine R0 11 rfl<|qv (hz:=(by rw[z.size];exact bo)) (hv:=z.size) (h1:=z.one) ap (cw) fun dD cx L=>?_
 have aq:=ud a (uz ao L) h
 refine b9 ⟨(ae (b7 L (Ne.symm (nb (ai d) J.size a7)) aj) rfl),(cB (aR.old hsl aq) ac 0 (by omega))⟩ fun cy=>Rt 12 cy<|re<|tn<|rt<|jq 22 z.size cx (vI (((aG bj dir (b.getD 0 0) (b.drop 1))).2))<|?_
 exact dA (by unfold dm;(try simp only[e,f,g,i,bt,hkf,gY,reduceIte])<;>rfl) ⟨_,rfl,(aE.lo (aE.upd z L (ak (aW ap (by decide)) aK)) (le (le (le (le a.size J.size) a8.size) a9.size) y.size)),aq⟩
 have ar:=eL (x:=(b.getD 0 0)) (w:=t)
 rw[hkf] at ar
 refine aF<|m1 ar fun dE M=>Pl 3<|aL #[.nilFunc,.nilFunc] fun cz dF av cA aw=>aI cA #[.func (.func 98) #[] #[],.func (.func 99) #[] #[]] fun dG cC ax=>al 1<|sq<|ay 2<|c0<|bU<|sq<|?_
 have az:=aH M (ud aw ax av)
 have aA:=aR.old s az
 refine jc (aR.at_ aA 0 (by omega)) fun cD cE aB aD dH=>Rg 13 (fun w'=>w'.cell? ⟨cz,0,none⟩=some (.func (.func 98) #[] #[])∧w'.cell? ⟨cD,cE+0,none⟩=some (vB (b.getD 0 0))) fun dI B=>?_
 have aJ:=ub B cC
 refine b9 ⟨(ae aJ rfl),(uc B aD)⟩ fun l=>Rt 0 l<|Rl 1 l (fun _ hs=>hs.1)<|Rt 2 l<|Rt 3 l<|xz 4 l b.length 0 0 rfl aB (by omega)<|Rl 5 l (fun _ hs=>hs.2)<|Rt 6 l<|qN (ft (P:=Tryz.prog) 27 5 1 Tryz.underlying27 rfl rfl A b.length cp 1 (by omega)) fun aM hrun188 cF=>Rr 7 l (.slice aM (b.length-1) (cp-1)) (fun _ _=>e7 (kl:=.i64) (k:=((1:Nat) : Int)) (A:=A) (n:=b.length) (c:=cp) rfl Tryz.underlying27 (by kernel_rfl) (by kernel_rfl) (hrun188 _ _))<|?_
 refine R0 8 rfl<|fy #[] #[] (args:=#[vI dir,vB (b.getD 0 0),.slice aM (b.length-1) (cp-1)])<|e2 (lM (dir:=dir) (c:=(b.getD 0 0)) (b8 (by omega)) (cF _ _ _ _ _ (aR.old aA B)) (by(try simp only[List.length_drop]);omega)) fun cG dJ C aP=>?_
 have aQ:=ub aP aJ
 have aS:=aH B aP
 refine b9 ⟨(ae aQ rfl),(uc aS aD)⟩ fun aT=>Rt 9 aT<|Rt 10 aT<|?_
 have aU:=aH az aS
 have aV:=ub aU d
 refine R0 11 rfl<|qv (hz:=(by rw[C.size];exact bo)) (hv:=C.size) (h1:=C.one) aV (cG) fun dK cH N=>?_
 have aX:=ud a (uz aU N) h
 refine b9 ⟨(ae (b7 N (Ne.symm (nb (ai d) M.size av)) aQ) rfl),(cB (aR.old hsl aX) aB 0 (by omega))⟩ fun cI=>Rt 12 cI<|re<|tn<|rt<|jq 22 C.size cH (vI (((aG bQ dir (b.getD 0 0) (b.drop 1))).2))<|?_
 exact dA (by unfold dm;(try simp only[e,f,g,i,bt,hkf,gY,reduceIte])<;>rfl) ⟨_,rfl,(aE.lo (aE.upd C N (ak (aW aV (by decide)) aK)) (le (le (le (le a.size M.size) aw.size) ax.size) B.size)),aX⟩
 have aY:=eL (x:=(b.getD 0 0)) (w:=t)
 rw[hkf] at aY
 refine aF<|m1 aY fun dM O=>Pl 3<|aL #[.nilFunc,.nilFunc] fun cJ dN aZ cK b0=>aI cK #[.func (.func 100) #[] #[],.func (.func 101) #[] #[]] fun dO cL b1=>al 1<|sq<|ay 2<|c0<|bU<|sq<|?_
 have b2:=aH O (ud b0 b1 aZ)
 have b3:=aR.old s b2
 refine jc (aR.at_ b3 0 (by omega)) fun cM cN b4 b5 dP=>Rg 13 (fun w'=>w'.cell? ⟨cJ,0,none⟩=some (.func (.func 100) #[] #[])∧w'.cell? ⟨cM,cN+0,none⟩=some (vB (b.getD 0 0))) fun dQ D=>?_
 have b6:=ub D cL
 refine b9 ⟨(ae b6 rfl),(uc D b5)⟩ fun o=>Rt 0 o<|Rl 1 o (fun _ hs=>hs.1)<|Rt 2 o<|Rt 3 o<|xz 4 o b.length 0 0 rfl b4 (by omega)<|Rl 5 o (fun _ hs=>hs.2)<|Rt 6 o<|qN (ft (P:=Tryz.prog) 27 5 1 Tryz.underlying27 rfl rfl A b.length cp 1 (by omega)) fun ba hrun268 cO=>Rr 7 o (.slice ba (b.length-1) (cp-1)) (fun _ _=>e7 (kl:=.i64) (k:=((1:Nat) : Int)) (A:=A) (n:=b.length) (c:=cp) rfl Tryz.underlying27 (by kernel_rfl) (by kernel_rfl) (hrun268 _ _))<|?_
 refine R0 8 rfl<|fy #[] #[] (args:=#[vI dir,vB (b.getD 0 0),.slice ba (b.length-1) (cp-1)])<|e2 (lx (dir:=dir) (c:=(b.getD 0 0)) (b8 (by omega)) (cO _ _ _ _ _ (aR.old b3 D)) (by(try simp only[List.length_drop]);omega)) fun cP dR E bb=>?_
 have bc:=ub bb b6
 have bd:=aH D bb
 refine b9 ⟨(ae bc rfl),(uc bd b5)⟩ fun be=>Rt 9 be<|Rt 10 be<|?_
 have bf:=aH b2 bd
 have bg:=ub bf d
 refine R0 11 rfl<|qv (hz:=(by rw[E.size];exact bo)) (hv:=E.size) (h1:=E.one) bg (cP) fun dS cQ Q=>?_
 have bh:=ud a (uz bf Q) h
 refine b9 ⟨(ae (b7 Q (Ne.symm (nb (ai d) O.size aZ)) bc) rfl),(cB (aR.old hsl bh) b4 0 (by omega))⟩ fun cR=>Rt 12 cR<|re<|tn<|rt<|jq 22 E.size cQ (vI (((aG bv dir (b.getD 0 0) (b.drop 1))).2))<|?_
 exact dA (by unfold dm;(try simp only[e,f,g,i,bt,hkf,gY,reduceIte])<;>rfl) ⟨_,rfl,(aE.lo (aE.upd E Q (ak (aW bg (by decide)) aK)) (le (le (le (le a.size O.size) b0.size) b1.size) D.size)),bh⟩
 have bi:=eL (x:=(b.getD 0 0)) (w:=t)
 rw[hkf] at bi
 refine aF<|m1 bi fun dT R=>Pl 3<|aL #[.nilFunc,.nilFunc] fun cS dU bl cT bm=>aI cT #[.func (.func 102) #[] #[],.func (.func 103) #[] #[]] fun dV cU bp=>al 1<|sq<|ay 2<|c0<|bU<|sq<|?_
 have bq:=aH R (ud bm bp bl)
 have bs:=aR.old s bq
 refine jc (aR.at_ bs 0 (by omega)) fun cV cW bu bw dW=>Rg 13 (fun w'=>w'.cell? ⟨cS,0,none⟩=some (.func (.func 102) #[] #[])∧w'.cell? ⟨cV,cW+0,none⟩=some (vB (b.getD 0 0))) fun dX F=>?_
 have bx:=ub F cU
 refine b9 ⟨(ae bx rfl),(uc F bw)⟩ fun q=>Rt 0 q<|Rl 1 q (fun _ hs=>hs.1)<|Rt 2 q<|Rt 3 q<|xz 4 q b.length 0 0 rfl bu (by omega)<|Rl 5 q (fun _ hs=>hs.2)<|Rt 6 q<|qN (ft (P:=Tryz.prog) 27 5 1 Tryz.underlying27 rfl rfl A b.length cp 1 (by omega)) fun bA hrun348 cX=>Rr 7 q (.slice bA (b.length-1) (cp-1)) (fun _ _=>e7 (kl:=.i64) (k:=((1:Nat) : Int)) (A:=A) (n:=b.length) (c:=cp) rfl Tryz.underlying27 (by kernel_rfl) (by kernel_rfl) (hrun348 _ _))<|?_
 refine R0 8 rfl<|fy #[] #[] (args:=#[vI dir,vB (b.getD 0 0),.slice bA (b.length-1) (cp-1)])<|e2 (jZ (dir:=dir) (c:=(b.getD 0 0)) (b8 (by omega)) (cX _ _ _ _ _ (aR.old bs F)) (by(try simp only[List.length_drop]);omega)) fun cY dY G bB=>?_
 have bC:=ub bB bx
 have bD:=aH F bB
 refine b9 ⟨(ae bC rfl),(uc bD bw)⟩ fun bE=>Rt 9 bE<|Rt 10 bE<|?_
 have bF:=aH bq bD
 have bG:=ub bF d
 refine R0 11 rfl<|qv (hz:=(by rw[G.size];exact bo)) (hv:=G.size) (h1:=G.one) bG (cY) fun e0 cZ S=>?_
 have bH:=ud a (uz bF S) h
 refine b9 ⟨(ae (b7 S (Ne.symm (nb (ai d) R.size bl)) bC) rfl),(cB (aR.old hsl bH) bu 0 (by omega))⟩ fun d0=>Rt 12 d0<|re<|tn<|rt<|jq 22 G.size cZ (vI (((aG bz dir (b.getD 0 0) (b.drop 1))).2))<|?_
 exact dA (by unfold dm;(try simp only[e,f,g,i,bt,hkf,gY,reduceIte])<;>rfl) ⟨_,rfl,(aE.lo (aE.upd G S (ak (aW bG (by decide)) aK)) (le (le (le (le a.size R.size) bm.size) bp.size) F.size)),bH⟩
 have bI:=eL (x:=(b.getD 0 0)) (w:=t)
 rw[hkf] at bI
 refine aF<|m1 bI fun e1 T=>Pl 3<|aL #[.nilFunc,.nilFunc] fun d1 e3 bL d2 bM=>aI d2 #[.func (.func 104) #[] #[],.func (.func 105) #[] #[]] fun e4 d3 bN=>al 1<|sq<|ay 2<|c0<|bU<|sq<|?_
 have bO:=aH T (ud bM bN bL)
 have bP:=aR.old s bO
 refine jc (aR.at_ bP 0 (by omega)) fun d4 d5 bR bS e5=>Rg 13 (fun w'=>w'.cell? ⟨d1,0,none⟩=some (.func (.func 104) #[] #[])∧w'.cell? ⟨d4,d5+0,none⟩=some (vB (b.getD 0 0))) fun e6 H=>?_
 have bT:=ub H d3
 refine b9 ⟨(ae bT rfl),(uc H bS)⟩ fun r=>Rt 0 r<|Rl 1 r (fun _ hs=>hs.1)<|Rt 2 r<|Rt 3 r<|xz 4 r b.length 0 0 rfl bR (by omega)<|Rl 5 r (fun _ hs=>hs.2)<|Rt 6 r<|qN (ft (P:=Tryz.prog) 27 5 1 Tryz.underlying27 rfl rfl A b.length cp 1 (by omega)) fun bW hrun428 d6=>Rr 7 r (.slice bW (b.length-1) (cp-1)) (fun _ _=>e7 (kl:=.i64) (k:=((1:Nat) : Int)) (A:=A) (n:=b.length) (c:=cp) rfl Tryz.underlying27 (by kernel_rfl) (by kernel_rfl) (hrun428 _ _))<|?_
 refine R0 8 rfl<|fy #[] #[] (args:=#[vI dir,vB (b.getD 0 0),.slice bW (b.length-1) (cp-1)])<|e2 (mW (dir:=dir) (c:=(b.getD 0 0)) (b8 (by omega)) (d6 _ _ _ _ _ (aR.old bP H)) (by(try simp only[List.length_drop]);omega)) fun d7 e8 I bX=>?_
 have bY:=ub bX bT
 have bZ:=aH H bX
 refine b9 ⟨(ae bY rfl),(uc bZ bS)⟩ fun c2=>Rt 9 c2<|Rt 10 c2<|?_
 have c3:=aH bO bZ
 have c4:=ub c3 d
 refine R0 11 rfl<|qv (hz:=(by rw[I.size];exact bo)) (hv:=I.size) (h1:=I.one) c4 (d7) fun e9 d8 U=>?_
 have c5:=ud a (uz c3 U) h
 refine b9 ⟨(ae (b7 U (Ne.symm (nb (ai d) T.size bL)) bY) rfl),(cB (aR.old hsl c5) bR 0 (by omega))⟩ fun d9=>Rt 12 d9<|re<|tn<|rt<|jq 22 I.size d8 (vI (((aG cc dir (b.getD 0 0) (b.drop 1))).2))<|?_
 exact dA (by unfold dm;(try simp only[e,f,g,i,bt,hkf,gY,reduceIte])<;>rfl) ⟨_,rfl,(aE.lo (aE.upd I U (ak (aW c4 (by decide)) aK)) (le (le (le (le a.size T.size) bM.size) bN.size) H.size)),c5⟩
 have c6:=eL (x:=(b.getD 0 0)) (w:=t)
 rw[hkf] at c6
 refine aF<|m1 c6 fun ea da=>Pl 3<|aL #[.nilFunc,.nilFunc] fun eb ec db dc dd=>aI dc #[.nilFunc,.nilFunc] fun ed ee de=>al 1<|sq<|ay 2<|c1<|au 1<|?_
 have c7:=aH da (ud dd de db)
 refine aI (ub c7 d) mZ fun ef df dg=>al 1<|bJ<|dZ df (vI 4)<|?_
 exact dA (by unfold dm;(try simp only[e,f,g,i,bt,hkf,gY,reduceIte])<;>rfl) (bV (ud a (uz c7 dg) h))
theorem jz{m:Md}{v:Value}{b:List Int}{w:World}{dir:Int}(h:aR m w v b)(hb:b.length≤1048576) : Calls Tryz.prog 83 #[.int .i64 dir,v] w (dL (dm dir b) w):=by
  obtain⟨A,cp,rfl,_,_⟩:=h.shape
  exact sj h hb
end Go.Proofs.YtdkhbcefkfgbdaaGreat
namespace Go.Proofs.YtdkhbcefkfgbdaaGreat
def N1 (C:aA) : Prop:=C.e≠1
theorem N1.need{C:aA}{b:Bool}{x:Int}(hx:x≠1)(h:N1 C) : N1 (C.need b x):=by
  unfold N1 aA.need at *
  split
  · exact hx
  · exact h
theorem N1.bytesC{C:aA}{n:Int}(h:N1 C) : N1 (C.bytesC n):=by
  unfold aA.bytesC
  split
  · exact N1.need (by decide) h
  · exact h
theorem N1.wordsC{C:aA}{n:Int}(h:N1 C) : N1 (C.wordsC n):=by
  unfold aA.wordsC
  split<;>exact N1.bytesC h
theorem N1.recs{one:Int→aA→Int × aA × dY}(ho:∀ s C,N1 C→N1 (one s C).2.1) : ∀ (n:Nat)(s:Int)(C:aA)(L:List dY),N1 C→N1 (bq one n s C L).1
  | 0,_,_,_,h=>h
  | n+1,s,C,L,h=>by
    unfold bq
    split
    · split
      · exact ho s C h
      · exact N1.recs ho n _ _ _ (ho s C h)
    · exact h
theorem N1.objs:∀ (n:Nat)(C:aA)(L:List Obj),N1 C→N1 (fI n C L).1
  | 0,_,_,h=>h
  | n+1,C,L,h=>N1.objs n _ _ (N1.bytesC (N1.bytesC (N1.bytesC h)))
theorem vj{x:Int}(h:x≠1) : dP x≠1:=by
  unfold dP
  split
  · decide
  · exact h
def uJ (c:Int)(r:aA × b6) : Prop:=N1 r.1∧r.2.code=c∧r.2.fail=0
theorem qA{dir c:Int}{C:aA}{r:aA × b6}(hC:N1 C)(h:bj dir c C=some r) : uJ c r:=by
  unfold bj at h
  repeat' split at h
  all_goals first | cases h | skip
  all_goals refine⟨?_,rfl,rfl⟩
  all_goals simp only[fk,gO,f7,nN,cM,lT,oH,hY,Cm,pv]
  all_goals repeat' first | with_reducible exact hC | with_reducible apply N1.bytesC | with_reducible apply N1.wordsC | (with_reducible refine N1.need (by decide) ?_)
theorem uo{dir c:Int}{C:aA}{r:aA × b6}(hC:N1 C)(h:bQ dir c C=some r) : uJ c r:=by
  unfold bQ at h
  repeat' split at h
  all_goals first | cases h | skip
  all_goals refine⟨?_,rfl,rfl⟩
  all_goals simp only[cL,dC,fZ,eY,ez,eZ,fu,y4,iG,hH,bB,ll,cA,fH,t1,zV,tv]
  all_goals repeat' first | with_reducible exact hC | with_reducible apply N1.bytesC | with_reducible apply N1.wordsC | (with_reducible refine N1.need (by decide) ?_)
theorem u9{dir c:Int}{C:aA}{r:aA × b6}(hC:N1 C)(h:bv dir c C=some r) : uJ c r:=by
  unfold bv eb cm at h
  repeat' split at h
  all_goals first | cases h | skip
  all_goals refine⟨?_,rfl,rfl⟩
  all_goals simp only[gi,mO,fz,gT,dx]
  all_goals repeat' first | with_reducible exact hC | with_reducible apply N1.bytesC | with_reducible apply N1.wordsC | (with_reducible refine N1.need (by decide) ?_)
theorem vU{dir c:Int}{C:aA}{r:aA × b6}(hC:N1 C)(h:cc dir c C=some r) : uJ c r:=by
  unfold cc at h
  repeat' split at h
  all_goals first | cases h | skip
  all_goals refine⟨?_,rfl,rfl⟩
  all_goals simp only[dV,jd,dG,db,mp,pU,oR,yI]
  all_goals repeat' first | with_reducible exact hC | with_reducible apply N1.bytesC | with_reducible apply N1.wordsC | with_reducible apply N1.objs | (with_reducible refine N1.need (by decide) ?_)
theorem zb(s:Int)(C:aA)(h:N1 C) : N1 (eG s C).2.1:=by
  simp only[eG,fj,gh,s6,oo,qy]
  repeat' first | with_reducible exact h | with_reducible apply N1.bytesC | with_reducible apply N1.wordsC | (with_reducible refine N1.need (by decide) ?_)
theorem wg(s:Int)(C:aA)(h:N1 C) : N1 (da s C).2.1:=by
  simp only[da,hZ,ka,fA]
  repeat' first | with_reducible exact h | with_reducible apply N1.bytesC | with_reducible apply N1.wordsC | (with_reducible refine N1.need (by decide) ?_)
theorem yj(s:Int)(C:aA)(h:N1 C) : N1 (eS s C).2.1:=by
  simp only[eS,m6,rE,gh,s6,oo,qy]
  repeat' first | with_reducible exact h | with_reducible apply N1.bytesC | with_reducible apply N1.wordsC | (with_reducible refine N1.need (by decide) ?_)
theorem jK{one:Int→aA→Int × aA × dY}(ho:∀ s C,N1 C→N1 (one s C).2.1)(may:Int→Bool)(c:Int){C:aA}(hC:N1 C) : N1 (dJ one may c C).1:=by
  unfold dJ t8
  refine N1.need (vj (N1.recs ho _ _ _ _ ?_)) (N1.bytesC (N1.need (by decide) (N1.bytesC hC)))
  show(0:Int)≠1
  decide
theorem sc{dir c:Int}{C:aA}{r:aA × b6}(hC:N1 C)(h:bz dir c C=some r) : uJ c r:=by
  unfold bz at h
  repeat' split at h
  all_goals first | cases h | skip
  · exact⟨jK zb _ _ hC,rfl,rfl⟩
  · exact⟨jK wg _ _ hC,rfl,rfl⟩
  · exact⟨jK yj _ _ hC,rfl,rfl⟩
theorem N1.endC{C:aA}(h:N1 C) : N1 C.endC:=by
  unfold aA.endC
  exact N1.need (by decide) h
theorem fo{form:Int→Int→aA→Option (aA × b6)}(hg:∀ {dir c:Int}{C:aA}{r:aA × b6},N1 C→form dir c C=some r→uJ c r){dir c:Int}{b:List Int}(hd:dir=0∨dir=1){M:b6}{E:Int}(h:aG form dir c b=(M,E)) :
    E≠1∧(E=0→M.code=c∧M.fail=0):=by
  unfold aG at h
  rw[if_pos hd] at h
  have h0:N1 ⟨b,false,0⟩:=by show(0:Int)≠1;decide
  split at h
  · injection h with h1 h2
    subst h1 h2
    exact⟨by decide,fun h=>by cases h⟩
  · rename_i r hr
    obtain⟨g1,g2,g3⟩:=hg h0 hr
    unfold cC at h
    split at h
    · injection h with h1 h2
      subst h1 h2
      exact⟨by decide,fun _=>⟨g2,g3⟩⟩
    · rename_i hne
      injection h with h1 h2
      subst h1 h2
      exact⟨N1.endC g1,fun h=>absurd h hne⟩
end Go.Proofs.YtdkhbcefkfgbdaaGreat
namespace Go.Proofs.YtdkhbcefkfgbdaaGreat
theorem uh{dir:Int}{b:List Int}(hd:dir=0∨dir=1){k:Nat}{M:b6}{E:Int}(h:gY k dir b=(M,E)) : E≠1∧(E=0→M.code=b.getD 0 0∧M.fail=0):=by
  unfold gY at h
  split at h
  · exact fo (fun hC h=>qA hC h) hd h
  · exact fo (fun hC h=>uo hC h) hd h
  · exact fo (fun hC h=>u9 hC h) hd h
  · exact fo (fun hC h=>sc hC h) hd h
  · exact fo (fun hC h=>vU hC h) hd h
  · injection h with h1 h2
    subst h1 h2
    exact⟨by decide,fun h=>by cases h⟩
theorem yh{b:List Int}{M:b6}(h:iQ b=(M,0)) : M=j5 ((b.getD 0 0-128)%256) (b.getD 1 0)∧128≤b.getD 0 0∧eC ((b.getD 0 0-128)%256)=true∧dU (b.getD 1 0)=true∧b.length=2:=by
  unfold iQ at h
  split at h
  · cases h
  split at h
  · cases h
  split at h
  · cases h
  split at h
  · cases h
  split at h
  · cases h
  split at h
  · cases h
  injection h with h1 h2
  simp only[decide_eq_true_eq,Bool.not_eq_true',Bool.not_eq_true,beq_iff_eq,Bool.not_eq_false'] at *
  refine⟨h1.symm,by omega,by simp_all,by simp_all,by omega⟩
end Go.Proofs.YtdkhbcefkfgbdaaGreat
namespace Go.Proofs.YtdkhbcefkfgbdaaGreat
open Go.RowKit
theorem tF{w w':World}(h:ap [] w w') : Below w.heap.size w w':=⟨h.os,h.tape,h.output,h.size,fun k hk=>h.block k hk (by simp)⟩
theorem uy{n:Int}(h:(Lit.int .u8 n).wf=true) : 0≤n∧n<256:=by
  have:=bounds_u8 h
  omega
open Go.RowKit
structure SL where
  aw:Option Addr
  kw:Nat
  ab:Option Addr
  kb:Nat
  ad:Option Addr
  kd:Nat
  ar:Option Addr
  kr:Nat
  ao:Option Addr
  ko:Nat
def j6 (M:b6)(x:SL) : Array Value:=mG M.code M.fail M.addr M.count M.value M.and_ M.or_ M.addr2 M.sub M.status M.events M.messages (.slice x.aw M.words.length x.kw) (.slice x.ab M.bits.length x.kb) (.slice x.ad M.data.length x.kd) (.slice x.ar M.recs.length x.kr) M.mei M.kind M.level M.more M.next (.slice x.ao M.objects.length x.ko)
theorem rP{m:Md}{w:World}{cs:Array Value}{M:b6}(h:aE m w cs.toList M) : ∃ x,cs=j6 M x:=by
  obtain⟨vw,vb,vd,vr,vo,h0,hw,hb,hd,hr,ho,hR⟩:=h
  obtain⟨aw,kw,rfl,_,_⟩:=hw.shape
  obtain⟨ab,kb,rfl,_,_⟩:=hb.shape
  obtain⟨ad,kd,rfl,_,_⟩:=hd.shape
  obtain⟨ar,kr,rfl,_,_⟩:=hr.shape
  obtain⟨ao,ko,rfl,_,_⟩:=ho.shape
  refine⟨⟨aw,kw,ab,kb,ad,kd,ar,kr,ao,ko⟩,?_⟩
  apply Array.toList_inj.1
  rw[h0]
  rfl
open Go.RowKit
structure bu where
  unit:Int
  tid:Int
  msg:b6
def bu.zero:bu:=⟨0,0,b6.zero⟩
def BQ (m:Md)(w:World)(cs:Array Value)(F:bu) : Prop:=∃ c:Array Value,cs = #[.int .u8 F.unit,.int .u16 F.tid]++c∧aE m w c.toList F.msg∧B8 F.unit∧eo F.tid
def nF (res:bu × Int)(w:World)(e:Ending)(w':World) : Prop:=∃ cs,e = .returned (.tuple #[.agg cs,.int .i64 res.2])∧BQ (.hi w.heap.size) w' cs res.1∧ap [] w w'
theorem dR{x y:bu × Int}(h:x=y){w:World}{e:Ending}{w':World}(k:nF y w e w') : nF x w e w':=by rw[h];exact k
def AI:Array Value:=#[.int .u8 0,.int .u16 0,.int .u8 0,.int .u8 0,.int .u16 0,.int .u16 0,.int .u16 0,.int .u16 0,.int .u16 0,.int .u16 0,.int .u16 0,.int .u16 0,.int .u16 0,.int .u16 0,.slice none 0 0,.slice none 0 0,.slice none 0 0,.slice none 0 0,.int .u8 0,.int .u8 0,.int .u8 0,.int .u8 0,.int .u8 0,.slice none 0 0]
theorem cV{x:Int}{w W:World}(hu:ap [] w W) : nF (bu.zero,x) w (.returned (.tuple #[.agg AI,.int .i64 x])) W:=⟨_,rfl,⟨wU,(by kernel_rfl),aE.zero ..,(show(0:Int)≤0∧(0:Int)<256 from by decide),(show(0:Int)≤0∧(0:Int)<65536 from by decide)⟩,hu⟩
def dn (u t:Int) : b6 × Int→bu × Int
  | (M,E)=>if E != 0 then (bu.zero,E) else (⟨u,t,M⟩,0)
theorem gq{dir:Int}{M:b6}{l:List Int}(h:dD dir M=some l) : l.length≤253:=by
  unfold dD at h
  split at h
  · split at h
    · cases h
    · unfold pq at h
      split at h
      · cases h
      · split at h
        · cases h
        · injection h with h
          subst h
          simp only[List.length_cons,List.length_nil]
          omega
  · split at h
    · cases h
    · split at h
      · cases h
      · rename_i hl
        injection h with h
        subst h
        simp only[decide_eq_true_eq] at hl
        simp only[List.length_append,List.length_cons,List.length_nil]
        omega
open Go.RowKit
deriving instance DecidableEq for bu
def ep (u t:Int)(M:b6)(x:SL) : Array Value:=#[.int .u8 u,.int .u16 t,.int .u8 M.code,.int .u8 M.fail,.int .u16 M.addr,.int .u16 M.count,.int .u16 M.value,.int .u16 M.and_,.int .u16 M.or_,.int .u16 M.addr2,.int .u16 M.sub,.int .u16 M.status,.int .u16 M.events,.int .u16 M.messages,.slice x.aw M.words.length x.kw,.slice x.ab M.bits.length x.kb,.slice x.ad M.data.length x.kd,.slice x.ar M.recs.length x.kr,.int .u8 M.mei,.int .u8 M.kind,.int .u8 M.level,.int .u8 M.more,.int .u8 M.next,.slice x.ao M.objects.length x.ko]
theorem fv(u t:Int)(M:b6)(x:SL) : ep u t M x = #[.int .u8 u,.int .u16 t]++j6 M x:=by kernel_rfl
open Go.RowKit
structure Ev where
  e:Int
  f:bu
def Ev.bad (e:Int) : Ev:=⟨e,bu.zero⟩
def y3 (x:Ev)(s:SL) : Array Value:=#[.int .i64 x.e,.int .u8 x.f.unit,.int .u16 x.f.tid,.int .u8 x.f.msg.code,.int .u8 x.f.msg.fail,.int .u16 x.f.msg.addr,.int .u16 x.f.msg.count,.int .u16 x.f.msg.value,.int .u16 x.f.msg.and_,.int .u16 x.f.msg.or_,.int .u16 x.f.msg.addr2,.int .u16 x.f.msg.sub,.int .u16 x.f.msg.status,.int .u16 x.f.msg.events,.int .u16 x.f.msg.messages,.slice s.aw x.f.msg.words.length s.kw,.slice s.ab x.f.msg.bits.length s.kb,.slice s.ad x.f.msg.data.length s.kd,.slice s.ar x.f.msg.recs.length s.kr,.int .u8 x.f.msg.mei,.int .u8 x.f.msg.kind,.int .u8 x.f.msg.level,.int .u8 x.f.msg.more,.int .u8 x.f.msg.next,.slice s.ao x.f.msg.objects.length s.ko]
theorem Bh(x:Ev)(s:SL) : y3 x s = #[.int .i64 x.e]++ep x.f.unit x.f.tid x.f.msg s:=by kernel_rfl
def kF (m:Md)(w:World)(x:Ev)(cs:List Value) : Prop:=∃ s,cs=(y3 x s).toList∧aE m w (j6 x.f.msg s).toList x.f.msg∧(0≤x.f.unit∧x.f.unit<256)∧(0≤x.f.tid∧x.f.tid<65536)
def nY (m:Md)(w:World)(f:bu)(cs:List Value) : Prop:=∃ s,cs=(ep f.unit f.tid f.msg s).toList∧aE m w (j6 f.msg s).toList f.msg∧(0≤f.unit∧f.unit<256)∧(0≤f.tid∧f.tid<65536)
def Cn (m:Md)(w:World)(b:List Int)(cs:List Value) : Prop:=∃ v,cs=[v]∧aR m w v b
theorem kF.lo{k n:Nat}{w:World}{x:Ev}{cs:List Value}(hn:n≤k)(h:kF (.hi k) w x cs) : kF (.hi n) w x cs:=by
  obtain⟨s,h1,h2,h3⟩:=h
  exact⟨s,h1,h2.lo hn,h3⟩
theorem kF.tt{k:Nat}{w:World}{x:Ev}{cs:List Value}(h:kF (.hi k) w x cs) : kF true w x cs:=by
  obtain⟨s,h1,h2,h3⟩:=h
  exact⟨s,h1,h2.tt,h3⟩
abbrev wE (m:Md) (w:World) (v:Value) (xs:List Ev) : Prop:=aP m 87 25 (kF m) w v xs
abbrev CH (base:Nat) (w:World) (v:Value) (xs:List Ev) : Prop:=aJ base 87 25 (kF true) w v xs
abbrev wx (base:Nat) (w:World) (v:Value) (xs:List Ev) : Prop:=aJ base 87 25 (kF (.hi base)) w v xs
theorem kF.upd{m:Md}{w w':World}{S:List Nat}(hu:ap S w w')(hs:bM m gv S w)(x:Ev)(cs:List Value)(h:kF m w x cs) : kF m w' x cs:=by
  obtain⟨s,h1,h2,h3⟩:=h
  exact⟨s,h1,h2.upd hu hs,h3⟩
theorem wE.upd'{m:Md}{w w':World}{v:Value}{xs:List Ev}{S:List Nat}(h:wE m w v xs)(hu:ap S w w')(hs:bM m (87 :: gv) S w) : wE m w' v xs:=aP.upd h hu (hs.sub fun t ht=>by rw[List.mem_singleton] at ht;rw[ht];exact List.mem_cons_self ..) (kF.upd hu (hs.sub fun t ht=>List.mem_cons_of_mem _ ht))
theorem wE.old{m:Md}{w w':World}{v:Value}{xs:List Ev}(h:wE m w v xs)(hu:ap [] w w') : wE m w' v xs:=h.upd' hu (bM.nil _ _ _)
theorem vy(x:Ev)(s:SL) : (y3 x s).toList.length=25:=by kernel_rfl
theorem ny{m:Md}{w:World}:aE m w (j6 b6.zero ⟨none,0,none,0,none,0,none,0,none,0⟩).toList b6.zero:=aE.zero ..
theorem nE{m:Md}{w0 w:World}{g:Nat}{cs:Array Value}{x:Ev}(hg:w0.heap.size≤g)(hb:w.heap[g]? = some (.cells cs 87 (0,0)))(h:kF m w x cs.toList) : aJ w0.heap.size 87 25 (kF m) w (.slice (some ⟨g,0,none⟩) 1 1) [x]:=by
  have hh:=h
  obtain⟨s,h1,h2⟩:=hh
  have hl:cs.toList.length=25:=by rw[h1];exact vy x s
  clear h1
  refine⟨cs.toList,⟨hl,.inr ⟨g,1,cs,rfl,hg,hb,Nat.le_refl _,by unfold maxLen;omega,by simpa using hl,by rw[List.take_of_length_le];exact Nat.le_of_eq hl⟩⟩,fun j y hj=>?_⟩
  cases j with
  | succ j=>simp at hj
  | zero =>
    have hj:x=y:=by simpa using hj
    subst hj
    exact⟨cs.toList,hl,h,fun i u hi=>by simpa using hi⟩
theorem DD{α β γ δ ε ζ:Sort _}{C:Prop}{P1 P2 P3 P4:α→β→γ→δ→ε→ζ→Prop}(h:∃ a b c d e f,P1 a b c d e f∧P2 a b c d e f∧P3 a b c d e f∧P4 a b c d e f)(k:∀ a b c d e f,P1 a b c d e f→P2 a b c d e f→P3 a b c d e f→P4 a b c d e f→C) : C :=
  let ⟨a,b,c,d,e,f,h1,h2,h3,h4⟩:=h;k a b c d e f h1 h2 h3 h4
theorem jt{α β γ δ:Sort _}{C:Prop}{P1 P2 P3 P4 P5:α→β→γ→δ→Prop}(h:∃ a b c d,P1 a b c d∧P2 a b c d∧P3 a b c d∧P4 a b c d∧P5 a b c d)(k:∀ a b c d,P1 a b c d→P2 a b c d→P3 a b c d→P4 a b c d→P5 a b c d→C) : C :=
  let ⟨a,b,c,d,h1,h2,h3,h4,h5⟩:=h;k a b c d h1 h2 h3 h4 h5
theorem kF.ones{m:Md}{w:World}(x:Ev)(cs:List Value)(h:kF m w x cs) : ∀ v,v∈cs→v.oneCell'=true:=by
  obtain⟨s,h1,h2,_⟩:=h
  have h3:=h2.one
  intro v hv
  rw[h1,Bh,fv,Array.toList_append,Array.toList_append,List.mem_append,List.mem_append] at hv
  clear h1
  rw[Array.all_eq_true'] at h3
  rcases hv with hv|hv|hv
  · simp at hv;subst hv;rfl
  · simp at hv;rcases hv with rfl | rfl<;>rfl
  · exact h3 v (by simpa using hv)
theorem wE.elt{m:Md}{w:World}{A:Option Addr}{n c:Nat}{xs:List Ev}(h:wE m w (.slice A n c) xs)(j:Nat)(hj:j<xs.length)(d:Ev) :
    ∃ b off cells t fr s,A=some ⟨b,off,none⟩∧w.heap[b]? = some (.cells cells t fr)∧(aE m w (j6 (xs.getD j d).f.msg s).toList (xs.getD j d).f.msg∧(0≤(xs.getD j d).f.unit∧(xs.getD j d).f.unit<256)∧(0≤(xs.getD j d).f.tid∧(xs.getD j d).f.tid<65536))∧(cells.toList.drop (off+j*25)).take 25=(y3 (xs.getD j d) s).toList:=by
  obtain⟨b,off,cells,t,fr,cs,h1,h2,h3,⟨s,h4,h5⟩,h6⟩:=aP.elt h d j hj
  exact⟨b,off,cells,t,fr,s,h1,h2,h5,h6.trans h4⟩
abbrev Bu (m:Md) (w:World) (v:Value) (xs:List bu) : Prop:=aP m 47 24 (nY m) w v xs
abbrev kC (m:Md) (w:World) (v:Value) (xs:List (List Int)) : Prop:=aP m 27 1 (Cn m) w v xs
theorem nY.upd{m:Md}{w w':World}{S:List Nat}(hu:ap S w w')(hs:bM m gv S w)(x:bu)(cs:List Value)(h:nY m w x cs) : nY m w' x cs:=by
  obtain⟨s,h1,h2,h3⟩:=h
  exact⟨s,h1,h2.upd hu hs,h3⟩
theorem Bu.old{m:Md}{w w':World}{v:Value}{xs:List bu}(h:Bu m w v xs)(hu:ap [] w w') : Bu m w' v xs:=aP.upd h hu (bM.nil _ _ _) (nY.upd hu (bM.nil _ _ _))
theorem Bu.elt{m:Md}{w:World}{A:Option Addr}{n c:Nat}{xs:List bu}(h:Bu m w (.slice A n c) xs)(j:Nat)(hj:j<xs.length)(d:bu) :
    ∃ b off cells t fr s,A=some ⟨b,off,none⟩∧w.heap[b]? = some (.cells cells t fr)∧(aE m w (j6 (xs.getD j d).msg s).toList (xs.getD j d).msg∧(0≤(xs.getD j d).unit∧(xs.getD j d).unit<256)∧(0≤(xs.getD j d).tid∧(xs.getD j d).tid<65536))∧(cells.toList.drop (off+j*24)).take 24=(ep (xs.getD j d).unit (xs.getD j d).tid (xs.getD j d).msg s).toList:=by
  obtain⟨b,off,cells,t,fr,cs,h1,h2,h3,⟨s,h4,h5⟩,h6⟩:=aP.elt h d j hj
  exact⟨b,off,cells,t,fr,s,h1,h2,h5,h6.trans h4⟩
theorem kC.old{m:Md}{w w':World}{v:Value}{xs:List (List Int)}(h:kC m w v xs)(hu:ap [] w w') : kC m w' v xs:=aP.upd h hu (bM.nil _ _ _) fun x cs ⟨v,h1,h2⟩=>⟨v,h1,h2.old hu⟩
theorem kC.elt{m:Md}{w:World}{A:Option Addr}{n c:Nat}{xs:List (List Int)}(h:kC m w (.slice A n c) xs)(j:Nat)(hj:j<xs.length) :
    ∃ b off A' c',A=some ⟨b,off,none⟩∧w.cell? ⟨b,off+j,none⟩=some (.slice A' (xs.getD j []).length c')∧aR m w (.slice A' (xs.getD j []).length c') (xs.getD j [])∧(xs.getD j []).length≤c'∧c'≤maxLen:=by
  obtain⟨b,off,cells,t,fr,cs,h1,h2,h3,⟨v,h4,h5⟩,h6⟩:=aP.elt h [] j hj
  obtain⟨A',c',rfl,h7,h8⟩:=h5.shape
  refine⟨b,off,A',c',h1,?_,h5,h7,h8⟩
  rw[be h2]
  rw[h4] at h6
  have h9:=congrArg (fun z=>z[0]?) h6
  simpa using h9
open Go.RowKit
theorem sx{P:Program}{w:World}{ev:Operand→Value}{o:Oper}{x y:Operand}{t t':TypeId}{k:IntKind}{a b:Int}(ho:o.op = .binOp .rem t x y t')(hx:ev x = .int k a)(hy:ev y = .int k b)(h0:0≤a)(hb:0<b) : (execOp ev o).run P w = .ok (.value (.int k (a%b))) w:=by
  have hg:eqGuard .rem t x y (.int k a) (.int k b)=pure ():=rfl
  have hz:(b==0)=false:=by simpa using Int.ne_of_gt hb
  unfold execOp
  simp only[ho,hx,hy,hg,binOp_rem,Sem.run_bind,Sem.run_pure,Result.andThen,Op.intDiv]
  simp[hz,Int.ne_of_gt hb,Int.tmod_eq_emod_of_nonneg h0,Result.andThen]
theorem sS{x y:Int}(hy:0<y) : 0≤x%y∧x%y<y:=⟨Int.emod_nonneg _ (Int.ne_of_gt hy),Int.emod_lt_of_pos _ hy⟩
theorem th{P:Program}(t e:TypeId)(sz:Nat){i:TypeInfo}(ht:P.underlying t=some (.slice e))(hi:P.info? e=some i)(hsz:i.size=sz)(A:Option Addr)(n c:Nat){k:Int}(h:Nat)(hk:k=(h:Int))(hh:h≤n)(hc:n≤c) :
    ∃ A':Option Addr,(∀ (kh:IntKind) (W:World),(Instr.slice t (.slice A n c) none (some (.int kh k)) none).run P W = .ok (.slice A' h c) W) ∧
      ∀ {α:Type} (m:Md) (e':TypeId) (R:World→α→List Value→Prop) (w:World) (xs:List α),aP m e' sz R w (.slice A n c) xs→aP m e' sz R w (.slice A' h c) (xs.take h):=by
  subst hk
  obtain⟨A',h1,h2⟩:=vY (P:=P) t e sz ht hi hsz A n c 0 h (Nat.zero_le _) hh hc
  refine⟨A',fun kh W=>?_,fun m e' R w xs hr=>by simpa using h2 m e' R w xs hr⟩
  have h3:=h1 .i64 kh W
  have hel:P.elem t=e:=by simp[Program.elem,ht]
  have hu:P.underlying t=some (.slice (P.elem t)):=by rw[hel];exact ht
  rw[run_slice_h W t A n c hu kh (h:Int) (Int.natCast_nonneg _) (by omega)]
  rw[run_slice_lh W t A n c hu .i64 kh (((0:Nat) : Int)) (h:Int) (Int.natCast_nonneg _) (by omega) (by omega)] at h3
  simpa using h3
theorem fU{o:Oper}{ev:Operand→Value}{P:Program}{w:World}{t:TypeId}{x y:Operand}{A:Option Addr}{n c:Nat}{kl:IntKind}{k:Int}{v:Value}{e:TypeId}(ho:o.op = .slice t x none (some y) none)(ht:P.underlying t=some (.slice e))(hx:ev x = .slice A n c)(hy:ev y = .int kl k)
    (hr:(Instr.slice t (.slice A n c) none (some (.int kl k)) none).run P w = .ok v w) : (execOp ev o).run P w = .ok (.value v) w:=by
  have hu:(underlying t).run P w = .ok (.slice e) w:=run_underlying ht w
  unfold execOp
  simp only[ho,Option.map_some,Option.map_none,hx,hy,Instr.sliceAt,Sem.run_bind,hu,hr,Result.andThen,Sem.run_pure]
theorem sG{P:Program}(t e:TypeId)(sz:Nat){i:TypeInfo}(ht:P.underlying t=some (.slice e))(hi:P.info? e=some i)(hsz:i.size=sz)(A:Option Addr)(n c:Nat){lo up:Int}(k h:Nat)(hlo:lo=(k:Int))(hup:up=(h:Int))(hk:k≤h)(hh:h≤n)(hc:n≤c) :
    ∃ A':Option Addr,(∀ (kl kh:IntKind) (W:World),(Instr.slice t (.slice A n c) (some (.int kl lo)) (some (.int kh up)) none).run P W = .ok (.slice A' (h-k) (c-k)) W) ∧
      ∀ {α:Type} (m:Md) (e':TypeId) (R:World→α→List Value→Prop) (w:World) (xs:List α),aP m e' sz R w (.slice A n c) xs→aP m e' sz R w (.slice A' (h-k) (c-k)) ((xs.take h).drop k):=by
  subst hlo hup
  exact vY t e sz ht hi hsz A n c k h hk hh hc
theorem nh{o:Oper}{ev:Operand→Value}{P:Program}{w:World}{t:TypeId}{x y z:Operand}{A:Option Addr}{n c:Nat}{kl kh:IntKind}{lo hi:Int}{v:Value}{e:TypeId}(ho:o.op = .slice t x (some y) (some z) none)(ht:P.underlying t=some (.slice e))(hx:ev x = .slice A n c)(hy:ev y = .int kl lo)(hz:ev z = .int kh hi)
    (hr:(Instr.slice t (.slice A n c) (some (.int kl lo)) (some (.int kh hi)) none).run P w = .ok v w) : (execOp ev o).run P w = .ok (.value v) w:=by
  have hu:(underlying t).run P w = .ok (.slice e) w:=run_underlying ht w
  unfold execOp
  simp only[ho,Option.map_some,Option.map_none,hx,hy,hz,Instr.sliceAt,Sem.run_bind,hu,hr,Result.andThen,Sem.run_pure]
theorem io{P:Program}(t e:TypeId)(sz:Nat){i:TypeInfo}(ht:P.underlying t=some (.slice e))(hi:P.info? e=some i)(hsz:i.size=sz)(A:Option Addr)(n c:Nat){lo:Int}(k:Nat)(hlo:lo=(k:Int))(hk:k≤n) :
    ∃ A':Option Addr,(∀ (kl:IntKind) (W:World),(Instr.slice t (.slice A n c) (some (.int kl lo)) none none).run P W = .ok (.slice A' (n-k) (c-k)) W) ∧
      ∀ {α:Type} (m:Md) (e':TypeId) (R:World→α→List Value→Prop) (w:World) (xs:List α),aP m e' sz R w (.slice A n c) xs→aP m e' sz R w (.slice A' (n-k) (c-k)) (xs.drop k):=by
  subst hlo
  exact ft t e sz ht hi hsz A n c k hk
open Go.RowKit
theorem zG{P:Program}{w:World}{ev:Operand→Value}{o:Oper}{x y:Operand}{ts:Array TypeId}{k:IntKind}{a b:Int}(ho:o.op = .call { callee:=.builtin .min,args:=#[x,y],argTypes:=ts })(hx:ev x = .int k a)(hy:ev y = .int k b) : (execOp ev o).run P w = .ok (.value (.int k (min a b))) w:=by
  have h:(Builtin.min_ ts o.type #[.int k a,.int k b]).run P w = .ok (.int k (min a b)) w:=by
    simp[Builtin.min_,Builtin.min2]
    split<;>simp[Int.min_def]<;>omega
  unfold execOp
  simp only[ho,resolve,invoke,builtin,Sem.run_bind,Sem.run_pure,Result.andThen_ok,List.map_toArray,List.map_cons,List.map_nil,hx,hy,h]
theorem aP.adr{α:Type}{m:Md}{e:TypeId}{sz:Nat}{R:World→α→List Value→Prop}{w:World}{A:Option Addr}{n c:Nat}{xs:List α}(h:aP m e sz R w (.slice A n c) xs) : 0<n→∃ b off,A=some ⟨b,off,none⟩:=fun hn=>by
  obtain⟨A',c',hv,hc1,hc2,h0,h3⟩:=h
  injection hv with e1 e2 e3
  subst e1 e2 e3
  obtain⟨b,off,cells,t,fr,hA,_⟩:=h3 hn
  exact⟨b,off,hA⟩
theorem aP.cap{α:Type}{m:Md}{e:TypeId}{sz:Nat}{R:World→α→List Value→Prop}{w:World}{A:Option Addr}{n c:Nat}{xs:List α}(h:aP m e sz R w (.slice A n c) xs) : n≤c:=by
  obtain⟨A',c',hv,h1,_⟩:=h
  injection hv with _ e2 e3
  subst e2 e3
  exact h1
theorem we{P:Program}{w:World}{ev:Operand→Value}{o:Oper}{x y z:Operand}{t e:TypeId}{A:Option Addr}{n c:Nat}{k1 k2:IntKind}{i1 i2:Int}(ho:o.op = .slice t x none (some y) (some z))(ht:P.underlying t=some (.slice e))(hi:(P.info? e).map (·.size)=some 1)
    (hx:ev x = .slice A n c) (hy:ev y = .int k1 i1) (hz:ev z = .int k2 i2) (h1:i1=(n:Int)) (h2:i2=(n:Int)) (hc1:n≤c) (hA:0<n→∃ b off,A=some ⟨b,off,none⟩) : (execOp ev o).run P w = .ok (.value (.slice A n n)) w:=by
  subst h1 h2
  obtain⟨i0,hi0,hs⟩:=Option.map_eq_some_iff.1 hi
  have hel:P.elem t=e:=by simp[Program.elem,ht]
  have hu:P.underlying t=some (.slice (P.elem t)):=by rw[hel];exact ht
  have hr:=run_slice_hm (P:=P) w t A n c hu k1 k2 ((n:Nat) : Int) ((n:Nat) : Int) (by omega) (Int.le_refl _) (by omega)
  have hA:(if n=0 then A else A.map (·.add 0))=A:=by
    split
    · rfl
    · rename_i hne
      obtain⟨b,off,rfl⟩:=hA (by omega)
      rfl
  have hr2:(Instr.slice t (.slice A n c) none (some (.int k1 ((n:Nat) : Int))) (some (.int k2 ((n:Nat) : Int)))).run P w = .ok (.slice A n n) w:=by
    rw[hr,hel]
    simp[sizeOf,typeInfo,hi0,hs,sliced,Result.andThen]
    simpa using hA
  have hu2:(underlying t).run P w = .ok (.slice e) w:=run_underlying ht w
  unfold execOp
  simp only[ho,Option.map_some,Option.map_none,hx,hy,hz,Instr.sliceAt,Sem.run_bind,hu2,hr2,Result.andThen,Sem.run_pure]
theorem aR.full{m:Md}{w:World}{A:Option Addr}{n c:Nat}{xs:List Int}(h:aR m w (.slice A n c) xs) : aR m w (.slice A n n) xs:=by
  obtain⟨A',c',hv,hc1,hc2,h0,h3⟩:=h
  injection hv with e1 e2 e3
  subst e1 e2 e3
  refine⟨A,xs.length,rfl,Nat.le_refl _,Nat.le_trans hc1 hc2,fun hA=>?_,h3⟩
  have:=h0 hA
  omega
theorem pB{P:Program}{A:Option Addr}{c:Nat}(w:World) : (Builtin.firstCells 1 0 (.slice A 0 c)).run P w = .ok #[] w:=by
  cases A with
  | none=>simp[Builtin.firstCells]
  | some a =>
    have:=run_loadCells_list (P:=P) w a [] (fun j v hj=>by simp at hj)
    simpa [Builtin.firstCells] using this
theorem Ba{P:Program}{m:Md}{w:World}{t e:TypeId}{A:Option Addr}{n c:Nat}{ys:List Int}(ht:P.underlying t=some (.slice e))(h:aR m w (.slice A n c) ys)(h0:ys=[]) : Src P 1 t (.slice A n c) 0 [] w:=by
  subst h0
  obtain⟨A',c',hv,hc1,hc2,h0,h3⟩:=h
  injection hv with e1 e2 e3
  subst e1 e2 e3
  exact⟨.inl ⟨e,ht⟩,fun w'=>by simp[Builtin.lenOf],pB w,pB w.drew,rfl,fun u hu=>by cases hu⟩
section
variable {P:Program}{n:Nat}{D:List Deferred}{F:Fr}{w:World}{K:Fr→World→Prop}{Q:Exit→Act→World→Prop}{d:Option Tmp}{t:TypeId}{s:String}{af:Array Edge}{gu:Option (Nat × Bool)}
end
open Go.RowKit
theorem mw{P:Program}{sz:Nat}{A:Option Addr}{c:Nat}(w:World) : (Builtin.firstCells sz 0 (.slice A 0 c)).run P w = .ok #[] w:=by
  cases A with
  | none=>simp[Builtin.firstCells]
  | some a =>
    have:=run_loadCells_list (P:=P) w a [] (fun j v hj=>by simp at hj)
    simpa [Builtin.firstCells] using this
theorem tQ{α:Type}{base sz:Nat}{e t:TypeId}{R:World→α→List Value→Prop}{w:World}{A:Option Addr}{n c g:Nat}{xs:List α}(hb:∃ cs fr,w.heap[g]? = some (.cells cs t fr))(h:aJ base e sz R w (.slice A n c) xs)(ht:(t==e)=false) : g∉ob A:=by
  obtain⟨cs,fr,hb⟩:=hb
  exact aX hb h ht
theorem wy{A B:Option Addr}(h:∀ x,x∈ob A→x∉ob B) : ∀ x,x∈ob B→x∉ob A:=fun x hx hy=>h x hy hx
section
variable {P:Program}{n:Nat}{D:List Deferred}{F:Fr}{w:World}{K:Fr→World→Prop}{Q:Exit→Act→World→Prop}{d:Option Tmp}{t:TypeId}{s:String}{af:Array Edge}{gu:Option (Nat × Bool)}
theorem BM{α:Type}{R:World→α→List Value→Prop}{x y:Operand}{e:TypeId}{base m c:Nat}{A:Option Addr}{xs ys:List α}{mm:Md}{e' ty:TypeId}{u:Value}(z:Value)(sz bytes:Nat)(HO:aJ base e sz R w (.slice A m c) xs)(HY:aP mm e' sz R w u ys)
    (hone:∀ x cs,R w x cs→∀ v,v∈cs→v.oneCell'=true) (hRU:∀ w',ap (ob A++[]) w w'→∀ x cs,R w x cs→R w' x cs)
    (hl:xs.length+ys.length≤4611686018427387904) (hmul:(xs.length+ys.length)*bytes≤140737488355328) (hbase:base≤w.heap.size) (h:∀ A' c' w',aJ base e sz R w' (.slice A' (xs++ys).length c') (xs++ys)→ap (ob A++[]) w w'→(∀ g,g∈ob A'→g∈ob A∨w.heap.size≤g)→K (pt d (.slice A' (xs++ys).length c') F) w')
    (hx:dM F x=some (.slice A m c):=by kernel_rfl) (hy':dM F y=some u:=by kernel_rfl) (he:ol P ty=some e:=by kernel_rfl) (hs:(mg P ty,z.cells.size,(ey n d&&Nat.ble bytes 65536)&&Nat.blt 0 sz)=(some (some z,sz,bytes),sz,true):=by kernel_rfl) : OG P ⟨d,.call { callee:=.builtin .append,args:=#[x,y],argTypes:=#[ty,ty] },t,s,af,gu⟩ n D F w K Q:=by
  by_cases hne:ys=[]
  · subst hne
    simp only[Prod.mk.injEq] at hs
    have h3:=eH (eH hs.2.2).1
    obtain⟨A0,c0,e0,hc1,_⟩:=HO.rd.shape
    have e0:=e0.symm
    injection e0 with e1 e2 e3
    subst e2
    subst e1 e3
    obtain⟨B,cB,rfl,_,_⟩:=HY.shape
    have hinf:(P.info? e).map (fun i=>(i.zero,i.size,i.bytes))=some (some z,sz,bytes):=by have:=hs.1;unfold mg at this;rw[he] at this;exact this
    obtain⟨i0,hi,hz0,hz1,hz2⟩:=info_parts hinf
    have hsr:Src P i0.size ty (.slice B 0 cB) 0 [] w:=⟨.inl ⟨e,dS he⟩,fun w'=>by simp[Builtin.lenOf],mw w,mw w.drew,by simp,fun u hu=>by cases hu⟩
    have hr:=run_append_nothing w ty ty t _ i0 (dS he) hi A0 xs.length c0 hc1 _ hsr
    refine⟨fun a ha K' hK=>OW.mk ?_⟩
    have hx':=ha.ev hx
    have hy2:=ha.ev hy'
    simp only[List.length_nil] at hy2
    unfold Oper.wp execOp
    simp only[resolve,invoke,builtin,Sem.run_bind,Sem.run_pure,Result.andThen_ok,List.map_toArray,List.map_cons,List.map_nil,hx',hy2,hr]
    refine hK _ _ _ (h A0 c0 w (by rw[List.append_nil];exact HO) (ap.mono (S':=ob A0++[]) (ap.refl [] w) (fun x hx=>by cases hx)) (fun g hg=>.inl hg)) ?_
    rw[List.append_nil]
    exact ha.put h3.1
  · have hy:0<ys.length:=by
      cases ys with
      | nil=>exact absurd rfl hne
      | cons a r=>simp
    simp only[Prod.mk.injEq] at hs
    have h2:=eH hs.2.2
    have h3:=eH h2.1
    exact⟨fun a ha K' hK=>qm z sz bytes rfl rfl (dS he) (by have:=hs.1;unfold mg at this;rw[he] at this;exact this) hs.2.1 (by simpa using h2.2) xs (ha.ev hx) HO u ys (ha.ev hy') HY hy hone hRU hl hmul hbase fun A' c' w' hO hu hat=>hK _ _ _ (h A' c' w' hO hu hat) (ha.put h3.1)⟩
theorem i3{α:Type}{R:World→α→List Value→Prop}{x y:Operand}{e:TypeId}{base m c:Nat}{A:Option Addr}{xs ys:List α}{mm:Md}{e' ty:TypeId}{u:Value}(z:Value)(sz bytes:Nat)(HO:aJ base e sz R w (.slice A m c) xs)(HY:aP mm e' sz R w u ys)
    (hone:∀ x cs,R w x cs→∀ v,v∈cs→v.oneCell'=true) (hRU:∀ w',ap (ob A++[]) w w'→∀ x cs,R w x cs→R w' x cs)
    (hl:xs.length+ys.length≤4194304) (hbase:base≤w.heap.size) (h:∀ A' c' w',aJ base e sz R w' (.slice A' (xs++ys).length c') (xs++ys)→ap (ob A++[]) w w'→(∀ g,g∈ob A'→g∈ob A∨w.heap.size≤g)→K (pt d (.slice A' (xs++ys).length c') F) w')
    (hx:dM F x=some (.slice A m c):=by kernel_rfl) (hy':dM F y=some u:=by kernel_rfl) (he:ol P ty=some e:=by kernel_rfl) (hs:(mg P ty,z.cells.size,(ey n d&&Nat.ble bytes 65536)&&Nat.blt 0 sz)=(some (some z,sz,bytes),sz,true):=by kernel_rfl) : OG P ⟨d,.call { callee:=.builtin .append,args:=#[x,y],argTypes:=#[ty,ty] },t,s,af,gu⟩ n D F w K Q:=by
  have hb:bytes≤65536:=by
    simp only[Prod.mk.injEq] at hs
    simpa using (eH (eH hs.2.2).1).2
  exact BM z sz bytes HO HY hone hRU (by omega) (Nat.le_trans (Nat.mul_le_mul hl hb) (by decide)) hbase h hx hy' he hs
end
open Go.RowKit
theorem nY.ones{m:Md}{w:World}(x:bu)(cs:List Value)(h:nY m w x cs) : ∀ v,v∈cs→v.oneCell'=true:=by
  obtain⟨s,h1,h2,_⟩:=h
  have h3:=h2.one
  intro v hv
  rw[h1,fv,Array.toList_append,List.mem_append] at hv
  rw[Array.all_eq_true'] at h3
  rcases hv with hv|hv
  · simp at hv;rcases hv with rfl | rfl<;>rfl
  · exact h3 v (by simpa using hv)
theorem Df{m:Md}{w0 w:World}{g:Nat}{cs:Array Value}{x:bu}(hg:w0.heap.size≤g)(hb:w.heap[g]? = some (.cells cs 47 (0,0)))(h:nY m w x cs.toList) : aJ w0.heap.size 47 24 (nY m) w (.slice (some ⟨g,0,none⟩) 1 1) [x]:=by
  have hh:=h
  obtain⟨s,h1,h2⟩:=hh
  have hl:cs.toList.length=24:=by rw[h1];kernel_rfl
  clear h1
  refine⟨cs.toList,⟨hl,.inr ⟨g,1,cs,rfl,hg,hb,Nat.le_refl _,by unfold maxLen;omega,by simpa using hl,by rw[List.take_of_length_le];exact Nat.le_of_eq hl⟩⟩,fun j y hj=>?_⟩
  cases j with
  | succ j=>simp at hj
  | zero =>
    have hj:x=y:=by simpa using hj
    subst hj
    exact⟨cs.toList,hl,h,fun i u hi=>by simpa using hi⟩
def av (L:List Ev) : List bu:=(L.filter fun x=>x.e==0).map (·.f)
theorem tg{L:List Ev}{fs:List bu}{k:Nat}(hk:k<L.length)(h:fs=av (L.take k)) : (((L.getD k (Ev.bad 0)).e==0)=true→fs++[(L.getD k (Ev.bad 0)).f]=av (L.take (k+1)))∧(((L.getD k (Ev.bad 0)).e==0)=false→fs=av (L.take (k+1))):=by
  have e:av (L.take (k+1))=av (L.take k)++av [L.getD k (Ev.bad 0)]:=by
    unfold av
    rw[List.take_succ_eq_append_getElem hk,List.getD_eq_getElem?_getD,List.getElem?_eq_getElem hk,List.filter_append,List.map_append]
    rfl
  rw[e,← h]
  refine⟨fun q=>?_,fun q=>?_⟩
  · unfold av;rw[List.filter_cons,if_pos q];rfl
  · unfold av;rw[List.filter_cons,if_neg (by rw[q];simp)];simp
end Go.Proofs.YtdkhbcefkfgbdaaGreat
