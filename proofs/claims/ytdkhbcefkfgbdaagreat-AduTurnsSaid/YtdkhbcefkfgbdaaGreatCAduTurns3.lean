/- Contracts of functions, part CAduTurns3. -/
import Derived.Test.YtdkhbcefkfgbdaaGreatCAduTurns1
import Derived.Test.YtdkhbcefkfgbdaaGreatCAduTurns2
import Derived.RangeFuncRecord
import Derived.RangeFuncLeaves
import Derived.RangeFuncCalls
import Derived.OpenShut
import Derived.Below
import Derived.Laws.BitsAllLaws
set_option linter.unusedVariables false
set_option linter.unusedSimpArgs false
set_option maxRecDepth 100000
set_option maxHeartbeats 4000000
namespace Go.Proofs.YtdkhbcefkfgbdaaGreat
open Go.RowKit
def jd (C:ap) : ap:=(C.bytesC 1).need (C.byteV==6) 9
def jO (C:ap) : ap:=((jd C).wordsC 1).need ((jd C).wordV != 0) 6
def o4 (C:ap) : ap:=((jO C).wordsC 1).need (decide ((jO C).wordV≤9999)) 7
def dR (C:ap) : ap:=((o4 C).wordsC 1).need ((o4 C).wordV != 0) 5
def aW (C:ap) : dl:=⟨(jd C).wordV,(jO C).wordV,(o4 C).wordV,[]⟩
def fh (s:Int)(C:ap) : Int:=s+(2+2*(o4 C).wordV)
def fb (s:Int)(C:ap) : ap:=(dR C).need (decide (fh s C≤245)) 5
def iy (C:ap) : ap:=(C.bytesC 1).need ((C.byteV%2==1&&decide (3≤C.byteV))&&decide (C.byteV≤((C.bytesC 1).l.length:Int))) 5
def ff (C:ap) : ap:=((iy C).bytesC 1).need ((iy C).byteV==6) 9
def fu (C:ap) : ap:=(ff C).wordsC (Int.tdiv (C.byteV-1) 2)
def fv (C:ap) : dl:=⟨0,0,0,(ff C).wordsR (Int.tdiv (C.byteV-1) 2)⟩
def oD (C:ap) : ap:=(dR C).need (decide (2*(o4 C).wordV≤((dR C).l.length:Int))) 5
def jX (C:ap) : ap:=(oD C).wordsC (o4 C).wordV
def kg (C:ap) : dl:=⟨(jd C).wordV,(jO C).wordV,(o4 C).wordV,(oD C).wordsR (o4 C).wordV⟩
def CN (g:Nat)(C':ap)(r:dl)(w:World)(e:Ending)(w':World) : Prop:=∃ A c,e = .returned (.agg #[.int .u16 r.file,.int .u16 r.record,.int .u16 r.count,.slice A r.words.length c])∧eF true w' (.slice A r.words.length c) r.words∧eR r.file∧eR r.record∧eR r.count∧aj w' g C'∧aI [g] w w'
variable {C:ap}{g:Nat}{w:World}
theorem rg(hC:aj w g C) : Calls Tryz.prog 214 #[vP g 0] w (CN g (dR C) (aW C) w):=by
 have hlen:=hC.len
 refine en 34 Tryz.func214 rfl<|sg<|aK #[vW 0,vW 0,vW 0,nS] fun Z a0 c B b=>aL 2<|?_
 refine ay<|m3 (bX (aj.old hC b)) fun a1 D d a2=>Pl 1<|ay<|m2 (bq ((C.byteV==6)) 9 D) fun a3 E e=>?_
 refine ab E fun fo F G=>?_
 refine ng<|aK #[vW 0,vW 0,vW 0,nS] fun a4 a5 f H h=>aL 1<|?_
 refine ay<|m3 (bZ (aj.old G h)) fun a6 I i a7=>Pl 1<|?_
 have a:=nb (aj.lt hC) (le (le b.size d.size) e.size) f
 have j:=bj i (Ne.symm a) H
 refine L0<|bY j 0 #[vW fo.wordV,vW 0,vW 0,nS] fun a8 k l=>aL 2<|aC k 0<|Pl 1<|?_
 refine ay<|m2 (bq ((fo.wordV != 0)) 6 (aj.upd I l (aa a aE) (av (b9 j (by decide)) aM))) fun a9 J K=>?_
 refine ab J fun x45 L M=>?_
 refine aL 1<|ay<|m3 (bZ M) fun ac N O ad=>Pl 1<|?_
 have m:=u1 K O im
 have n:=bj m (Ne.symm a) k
 refine L0<|bY n 1 #[vW fo.wordV,vW x45.wordV,vW 0,nS] fun ae o p=>aL 2<|aC o 1<|Pl 1<|?_
 refine ay<|m2 (bq ((decide (x45.wordV≤9999))) 7 (aj.upd N p (aa a aE) (av (b9 n (by decide)) aM))) fun af P Q=>?_
 refine ab P fun x61 R S=>?_
 refine aL 1<|ay<|m3 (bZ S) fun ag T U ah=>Pl 1<|?_
 have q:=u1 Q U im
 have r:=bj q (Ne.symm a) o
 refine L0<|bY r 2 #[vW fo.wordV,vW x45.wordV,vW x61.wordV,nS] fun ai s t=>aL 2<|aC s 2<|Pl 1<|?_
 refine ay<|m2 (bq ((x61.wordV != 0)) 5 (aj.upd T t (aa a aE) (av (b9 r (by decide)) aM))) fun ak V u=>?_
 refine ab V fun x77 W X=>?_
 refine ng<|?_
 refine L0<|cm (bj u (Ne.symm a) s)<|?_
 have v:=u1 d (u1 e (ud h (ui i (ui l (ui m (ui p (ui q (us t u)))))) f) im) im
 have y:=nb (aj.lt hC) lr c
 have z:=bj v (Ne.symm y) B
 refine aG z #[vW fo.wordV,vW x45.wordV,vW x61.wordV,nS] fun al Y A=>ss<|D3 Y<|?_
 subst W R L F
 exact⟨_,_,rfl,aT.nil ..,cM (x:=((C.bytesC 1).need (C.byteV==6) 9).wordV) (by omega),cM (x:=((((C.bytesC 1).need (C.byteV==6) 9).wordsC 1).need (((C.bytesC 1).need (C.byteV==6) 9).wordV != 0) 6).wordV) (by omega),cM (x:=((((((C.bytesC 1).need (C.byteV==6) 9).wordsC 1).need (((C.bytesC 1).need (C.byteV==6) 9).wordV != 0) 6).wordsC 1).need (decide (((((C.bytesC 1).need (C.byteV==6) 9).wordsC 1).need (((C.bytesC 1).need (C.byteV==6) 9).wordV != 0) 6).wordV≤9999)) 7).wordV) (by omega),(aj.upd X A (aa y aE) (av (b9 z (by decide)) aM)),(ue b (us v A) c)⟩
theorem wT(hC:aj w g C) : Calls Tryz.prog 217 #[vP g 0] w (CN g (fu C) (fv C) w):=by
 have hlen:=hC.len
 refine en 33 Tryz.func217 rfl<|sg<|aK #[vW 0,vW 0,vW 0,nS] fun P Q f i j=>aL 1<|?_
 refine ay<|m3 (bX (aj.old hC j)) fun R b k S=>bp C.byteV<|Pl 1<|aL 2<|L0<|Oe (vI (Int.tmod C.byteV 2)) (vI (C.byteV%2)) (congrArg (Value.int .i64) (Int.tmod_eq_emod_of_nonneg (by omega)))<|Pl 2<|cu 3 [11] 14 ((((C.byteV%2)==1)&&(decide (3≤C.byteV)))) (fun K m=>?_) ?_
 refine bl 11 (((C.byteV%2)==1)) (fun a=>?_) (fun a=>?_)
 have y:=ag a
 exact Pl 3<|ce m (decide (3≤C.byteV)) (by rw[a];rfl)
 have y:=ai a
 exact Pl 3<|ce m false (by rw[a];rfl)
 refine Pl 1<|cu 5 [15] 20 (((((C.byteV%2)==1)&&(decide (3≤C.byteV)))&&(decide (C.byteV≤(((C.bytesC 1).l.length:Nat) : Int))))) (fun K o=>?_) ?_
 refine bl 15 ((((C.byteV%2)==1)&&(decide (3≤C.byteV)))) (fun c=>?_) (fun c=>?_)
 refine Pl 2<|L1<|Oc<|mq (eO b)<|?_
 have T:=aj.len b
 exact Pl 2<|ce o (decide (C.byteV≤(((C.bytesC 1).l.length:Nat) : Int))) (by rw[c];rfl)
 exact Pl 5<|ce o false (by rw[c];rfl)
 refine ay<|m2 (bq (((((C.byteV%2)==1)&&(decide (3≤C.byteV)))&&(decide (C.byteV≤(((C.bytesC 1).l.length:Nat) : Int))))) 5 b) fun U z p=>?_
 refine ab z fun x28 A B=>?_
 refine aL 2<|ay<|m3 (bX B) fun V D q W=>Pl 1<|ay<|m2 (bq ((x28.byteV==6)) 9 D) fun X E r=>?_
 refine ab E fun x38 F G=>?_
 refine aL 2<|bp (C.byteV-1)<|L0<|Oe (vI (IntKind.i64.wrap (Int.tdiv (C.byteV-1) 2))) (vI (Int.tdiv (C.byteV-1) 2)) (congrArg (Value.int .i64) (mF (by omega) (by omega)))<|ay<|qk (eU (n:=(Int.tdiv (C.byteV-1) 2)) G) fun H I Y s Z a0 J L=>?_
 refine ab J fun x48 M N=>?_
 refine Pl 1<|?_
 have t:=u1 k (u1 p (u1 q (u1 r L im) im) im) im
 have u:=nb (aj.lt hC) lr f
 have v:=bj t (Ne.symm u) i
 refine aG v #[vW 0,vW 0,vW 0,.slice H ((x38.wordsR (Int.tdiv (C.byteV-1) 2)).length) I] fun a1 O d=>ss<|D3 O<|?_
 subst M F A
 exact⟨_,_,rfl,((au s d (fun x hx=>(aa (fun e=>(aO (az i) (le (le (le k.size p.size) q.size) r.size) s) (e▸hx)) aE)) (fun _ _ h=>h))).rd,cM (x:=0) (by omega),cM (x:=0) (by omega),cM (x:=0) (by omega),(aj.upd N d (aa u aE) (av (b9 v (by decide)) aM)),(ue j (us t d) f)⟩
theorem AS(hC:aj w g C) : Calls Tryz.prog 219 #[vP g 0] w (CN g (jX C) (kg C) w):=by
 have hlen:=hC.len
 refine en 22 Tryz.func219 rfl<|sg<|aK #[vW 0,vW 0,vW 0,nS] fun X Y v f i=>aL 1<|?_
 refine ay<|Cq (rg (aj.old hC i)) fun I J Z a0 K L M N c=>?_
 obtain⟨a1,a2⟩:=K
 obtain⟨a3,a4⟩:=L
 obtain⟨a5,a6⟩:=M
 refine aK #[vW 0,vW 0,vW 0,nS] fun O a7 j y z=>aG y #[vW ((aW C).file),vW ((aW C).record),vW ((aW C).count),.slice I ((aW C).words.length) J] fun a8 P k=>nt<|sq<|Rg 9 (fun w'=>w'.cell? ⟨O,2,none⟩=some (vW ((aW C).count))) fun a9 d=>?_
 have m:=ub d P
 refine bv (ae m rfl) fun a=>Rt 0 a<|Rt 1 a<|Rl 2 a (fun _ hs=>hs)<|Rr 3 a (vI ((aW C).count)) (fun _ _=>bO (vI (IntKind.i64.wrap ((aW C).count))) (by kernel_rfl) (congrArg (Value.int .i64) (i64_in (by omega))))<|Rr 4 a (vI (2*((aW C).count))) (fun _ _=>bO (vI (IntKind.i64.wrap (2*((aW C).count)))) (by kernel_rfl) (congrArg (Value.int .i64) (IntWalk.i64_in _ (by omega))))<|Rt 5 a<|?_
 have o:=ud z (aJ k d) j
 have p:=aj.old N o
 refine R0 6 rfl<|Oc<|mq (eO p)<|?_
 have ac:=aj.len p
 refine bv (ae m rfl) fun Q=>Rt 7 Q<|R0 8 rfl<|Oc<|m2 (bq ((decide ((2*((aW C).count))≤(((dR C).l.length:Nat) : Int)))) 5 p) fun ad R b=>?_
 refine ab R fun x54 S T=>?_
 have q:=nb (aj.lt hC) (le i.size c.size) j
 have r:=bj b (Ne.symm q) m
 refine bv (ae r rfl) fun af=>re<|tn<|aq 2<|aC r 2<|bp ((aW C).count)<|ay<|qk (eU (n:=(aW C).count) T) fun A B ag s ah ai U t=>Pl 1<|?_
 have D:=bj t (Ne.symm q) r
 refine L0<|bY D 3 #[vW ((aW C).file),vW ((aW C).record),vW ((aW C).count),.slice A ((x54.wordsR ((aW C).count)).length) B] fun ak V E=>ng<|L0<|cm V<|?_
 have F:=u1 c (ue o (ui b (us t E)) j) im
 have u:=nb (aj.lt hC) lr v
 refine aG (bj F (Ne.symm u) f) #[vW ((aW C).file),vW ((aW C).record),vW ((aW C).count),.slice A ((x54.wordsR ((aW C).count)).length) B] fun al W G=>ss<|D3 W<|?_
 subst S
 have H:=us E G
 exact⟨_,_,rfl,((au s H (fun x hx=>(aa (fun e=>(aO (az y) (le (le k.size d.size) b.size) s) (e▸hx)) (aa (fun e=>(aO (az f) (le (le (le (le c.size z.size) k.size) d.size) b.size) s) (e▸hx)) aE))) (fun _ _ h=>h))).rd,cM (x:=(aW C).file) (by omega),cM (x:=(aW C).record) (by omega),cM (x:=(aW C).count) (by omega),(aj.upd U H (aa q (aa u aE)) (av (b9 D (by decide)) (av (b9 (bj (u1 c (uz o (u1 b t im)) im) (Ne.symm u) f) (by decide)) aM))),(ue i (us F G) v)⟩
variable {n:Int}
theorem ta(hn:0≤n∧n<256) : Calls Tryz.prog 215 #[vI n] w (bS (.bool ((decide (7≤n)&&decide (n≤245))&&n%7==0)) w):=by
 refine en 14 Tryz.func215 rfl<|aq 1<|aL 3<|cu 3 [5] 8 (((decide (7≤n))&&(decide (n≤245)))) (fun K c=>?_) ?_
 refine bl 5 ((decide (7≤n))) (fun a=>?_) (fun a=>?_)
 have e:=of_decide_eq_true a
 exact Pl 3<|ce c (decide (n≤245)) (by rw[a];rfl)
 have e:=of_decide_eq_false a
 exact Pl 3<|ce c false (by rw[a];rfl)
 refine Pl 1<|cu 4 [9] 13 ((((decide (7≤n))&&(decide (n≤245)))&&((n%7)==0))) (fun K d=>?_) ?_
 refine bl 9 (((decide (7≤n))&&(decide (n≤245)))) (fun b=>?_) (fun b=>?_)
 exact Pl 1<|L1<|Oe (vI (Int.tmod n 7)) (vI (n%7)) (congrArg (Value.int .i64) (Int.tmod_eq_emod_of_nonneg (by omega)))<|Pl 2<|ce d ((n%7)==0) (by rw[b];rfl)
 exact Pl 4<|ce d false (by rw[b];rfl)
 exact ah 1<|rt<|rr (.bool (((decide (7≤n))&&(decide (n≤245)))&&((n%7)==0)))<|⟨rfl,(aI.refl [] _)⟩
theorem uq(hn:0≤n∧n<256) : Calls Tryz.prog 216 #[vI n] w (bS (.bool (decide (4≤n)&&decide (n≤245))) w):=by
 refine en 9 Tryz.func216 rfl<|aq 1<|aL 3<|cu 3 [5] 8 (((decide (4≤n))&&(decide (n≤245)))) (fun K b=>?_) ?_
 refine bl 5 ((decide (4≤n))) (fun a=>?_) (fun a=>?_)
 have c:=of_decide_eq_true a
 exact Pl 3<|ce b (decide (n≤245)) (by rw[a];rfl)
 have c:=of_decide_eq_false a
 exact Pl 3<|ce b false (by rw[a];rfl)
 exact ah 1<|rt<|rr (.bool ((decide (4≤n))&&(decide (n≤245))))<|⟨rfl,(aI.refl [] _)⟩
theorem sZ(hn:0≤n∧n<256) : Calls Tryz.prog 218 #[vI n] w (bS (.bool (decide (9≤n)&&decide (n≤251))) w):=by
 refine en 9 Tryz.func218 rfl<|aq 1<|aL 3<|cu 3 [5] 8 (((decide (9≤n))&&(decide (n≤251)))) (fun K b=>?_) ?_
 refine bl 5 ((decide (9≤n))) (fun a=>?_) (fun a=>?_)
 have c:=of_decide_eq_true a
 exact Pl 3<|ce b (decide (n≤251)) (by rw[a];rfl)
 have c:=of_decide_eq_false a
 exact Pl 3<|ce b false (by rw[a];rfl)
 exact ah 1<|rt<|rr (.bool ((decide (9≤n))&&(decide (n≤251))))<|⟨rfl,(aI.refl [] _)⟩
theorem jZ{e:Int}  : Calls Tryz.prog 158 #[vI e] w (bS (vI (if e==2 then 5 else e)) w):=by
 refine en 6 Tryz.func158 rfl<|aB 1<|sq<|aB 2<|cb ((e==2)) (fun a=>?_) (fun a=>?_)
 have b:=ag a
 refine aB 1<|b6<|rr (vI 5)<|?_
 have hs:(if e==2 then (5:Int) else e)=5:=by simp only[a,bi,reduceIte]
 rw[hs]
 exact⟨rfl,(aI.refl [] _)⟩
 have b:=ai a
 refine bu<|aB 2<|rt<|rr (vI e)<|?_
 have hs:(if e==2 then (5:Int) else e)=e:=by simp only[a,bi,reduceIte]
 rw[hs]
 exact⟨rfl,(aI.refl [] _)⟩
open Go.RowKit
structure WF (F:Fence) (n:Nat) (P:Program) (ops:Array Oper) (Q:Exit→Act→World→Prop) (l:List Oper) (a:Act) (w:World) : Prop where
  out:wpListIn F n P ops Q l a w
def fH (F:Fence) : Prop:=F=Fence.wide∨∃ l,F=Fence.wide.inRound l
theorem nv:fH Fence.wide:=.inl rfl
theorem lJ(l:Nat) : fH (Fence.wide.inRound l):=.inr ⟨l,rfl⟩
theorem fH.fn{F:Fence}(h:fH F)(f:FuncId) : F.fn f:=by
  rcases h with rfl|⟨l,rfl⟩<;>trivial
theorem fH.depth{F:Fence}(h:fH F) : F.depth=none:=by
  rcases h with rfl|⟨l,rfl⟩<;>rfl
section
variable {F:Fence}{n:Nat}{P:Program}{Q:Exit→Act→World→Prop}{a:Act}{w:World}{K:Act→World→Prop}{ops:Array Oper}{rest:List Oper}{o:Oper}{N:Option Tmp}
theorem D1{f:FuncId}{args:Array Value}{R:Ending→World→Prop}(hF:fH F)(h:Calls P f args w R) : CallsIn F n P f args w R:=by
  rcases hF with rfl|⟨l,rfl⟩
  · exact callsIn_wide.2 h
  · exact CallsIn.inRound l (callsIn_wide.2 h)
theorem Du{row:String}{args:Array Value}{R:Value→World→Prop}(hF:fH F)(h:Rows P row args w R) : RowsIn F n P row args w R:=by
  have h0:RowsIn Fence.wide n P row args w R:=fun c cs _=>let ⟨v,w',r,s⟩:=h c cs; ⟨v,w',r,stepsIn_wide.2 s⟩
  rcases hF with rfl|⟨l,rfl⟩
  · exact h0
  · exact h0
def gY:Op→Bool
  | .defer _=>false
  | _=>true
theorem Fe(hF:fH F)(hd:gY o.op=true)(h:o.wp P a w K Q) : o.wpIn F n P a w K Q:=by
  refine⟨fun f _=>hF.fn f,?_⟩
  rw[Oper.semAt_eq _ _ _ (fun c hc=>by rw[hc] at hd;cases hd)]
  unfold Oper.wp at h
  have hdep:∀ {p:Prop},F.depth.isSome=true→p:=fun h=>by rw[hF.depth] at h;cases h
  generalize (execOp a.eval o).run P w=r at h ⊢
  cases r with
  | ok x w' =>
    cases x<;>simp only[Oper.upon,Oper.uponIn] at h ⊢
    case value u=>exact h
    case skip=>exact h
    case defer d=>exact h
    case enter f args=>exact⟨hdep,D1 hF h⟩
    case row row args=>exact⟨hdep,Du hF h⟩
  | halt x w' =>
    cases x<;>simp only[Oper.upon,Oper.uponIn] at h ⊢
    case panic u=>exact h
theorem Fh{id:Nat}{l:List Oper}(n:Nat)(h:WF Fence.wide n P l.toArray Q l a w) : (Code.region id l.toArray false).wp P Q a w:=wpIn_wide.1 (wpIn_region_lit h.out)
theorem EB{id:Nat}{l:List Oper}(h:WF F n P l.toArray Q l a w) : (Code.region id l.toArray false).wpIn F n P Q a w:=wpIn_region_lit h.out
theorem Ex(h:Q .normal a w) : WF F n P ops Q [] a w:=⟨h⟩
theorem EW(hF:fH F)(hd:gY o.op=true)(hw:Region.wanted o (yielded ops a.tmps)=true)(h:OW P o a w (WF F n P ops Q rest) Q) : WF F n P ops Q (o :: rest) a w:=by
  refine⟨?_⟩
  unfold wpListIn
  rw[if_pos hw]
  exact Fe hF hd (kW h fun _ _ h=>h.out)
theorem En(hF:fH F)(hw:Region.wanted o (yielded ops a.tmps)=false)(hN:o.dst=N)(h:WF F n P ops Q rest (a.put N undef) w) : WF F n P ops Q (o :: rest) a w:=by
  subst hN
  refine⟨?_⟩
  unfold wpListIn
  rw[if_neg (by simp[hw])]
  exact⟨fun f _=>hF.fn f,h.out⟩
theorem CZ{x:Operand}{opds:Array Operand}{ts:Array TypeId}{l:Nat}{r:Loop}(args:Array Value)(hw:Region.wanted o (yielded ops a.tmps)=true)(hN:o.dst=N)(hop:o.op = .call { callee:=.value x,args:=opds,argTypes:=ts })
    (hx:a.eval x = .func (.yield l) #[] #[]) (hargs:opds.map a.eval=args) (hl:w.heap[l]? = some (.loop r)) (hs:args.size=r.params.size)
    (h:RoundIn Fence.wide (n-1) P l r.fn ((r.params.zip args).foldl (fun tmps (t,a)=>tmps.setIfInBounds t a) r.tmps) r.assign r.body w (fun e w'=>∃ v,e = .returned v∧WF Fence.wide n P ops Q rest (a.put N v) w')) : WF Fence.wide n P ops Q (o :: rest) a w:=by
  subst hN
  refine⟨?_⟩
  unfold wpListIn
  rw[if_pos hw]
  refine⟨fun f _=>trivial,?_⟩
  have hrun:(o.semAt Fence.wide.round a.eval).run P w = .ok (.round l r.fn ((r.params.zip args).foldl (fun tmps (t,a)=>tmps.setIfInBounds t a) r.tmps) r.assign r.body) w:=by
    show(execOp a.eval o).run P w=_
    unfold execOp
    simp only[hop,resolve,hx,Deferred.ofValue,Sem.run_bind,Sem.run_pure,Result.andThen_ok,invoke,hargs]
    have:=run_yield (P:=P) (args:=args) hl hs
    simpa using this
  rw[hrun,Oper.uponIn_round]
  refine⟨(by simp[Fence.wide]),h.mono fun e w' hh=>?_⟩
  obtain⟨v,rfl,h2⟩:=hh
  exact h2.out
end
theorem A9{P:Program}{n:Nat}{ops:Array Oper}{Q:Exit→Act→World→Prop}{rest:List Oper}{o:Oper}{a:Act}{w:World}{N:Option Tmp}{x:Operand}{opds:Array Operand}{ts:Array TypeId}{l:Nat}{r:Loop}(v:Value)(p:Tmp)(hw:Region.wanted o (yielded ops a.tmps)=true)(hN:o.dst=N)(hop:o.op = .call { callee:=.value x,args:=opds,argTypes:=ts })
    (hx:a.eval x = .func (.yield l) #[] #[]) (hargs:opds.map a.eval = #[v]) (hl:w.heap[l]? = some (.loop r)) (hp:r.params = #[p])
    (h:RoundIn Fence.wide (n-1) P l r.fn (r.tmps.setIfInBounds p v) r.assign r.body w (fun e w'=>∃ u,e = .returned u∧WF Fence.wide n P ops Q rest (a.put N u) w')) : WF Fence.wide n P ops Q (o :: rest) a w:=by
  refine CZ #[v] hw hN hop hx hargs hl (by rw[hp];rfl) ?_
  have:((r.params.zip #[v]).foldl (fun tmps (t,a)=>tmps.setIfInBounds t a) r.tmps)=r.tmps.setIfInBounds p v:=by rw[hp];simp
  rw[this]
  exact h
theorem iX{w:World}{l:Nat}(o:Go.Obj) : aI [l] w (w.putObj l o) :=
  ⟨rfl,rfl,rfl,by simp[World.putObj],fun k hk hn=>World.putObj_heap_other (by simpa using hn)⟩
theorem mU{w:World}{l:Nat}{o:Go.Obj}(o':Go.Obj)(h:w.heap[l]? = some o) : (w.putObj l o').heap[l]? = some o':=World.putObj_heap_same (az h)
def kM:Go.Obj→Bool
  | .cells ..=>false
  | _=>true
theorem aT.updl{α:Type}{m:Md}{e:TypeId}{sz:Nat}{R:World→α→List Value→Prop}{w w':World}{v:Value}{xs:List α}{l:Nat}{o:Go.Obj}
    (h:aT m e sz R w v xs) (hu:aI [l] w w') (hl:w.heap[l]? = some o) (ho:kM o=true) (hR:∀ x cs,R w x cs→R w' x cs) : aT m e sz R w' v xs:=by
  obtain⟨A,c,rfl,h1,h2,h0,h3⟩:=h
  refine⟨A,c,rfl,h1,h2,h0,fun hp=>?_⟩
  obtain⟨b,off,cells,t,fr,rfl,hb,ht,hx⟩:=h3 hp
  refine⟨b,off,cells,t,fr,rfl,?_,ht,fun j x hj=>?_⟩
  · refine hu.blk (fun hbs=>?_) hb
    simp at hbs
    subst hbs
    rw[hl] at hb
    injection hb with hb
    subst hb
    cases ho
  · obtain⟨cs,hl,hr,hc⟩:=hx j x hj
    exact⟨cs,hl,hR _ _ hr,hc⟩
theorem aV.updl{m:Md}{w w':World}{v:Value}{xs:List Int}{l:Nat}{o:Go.Obj}(h:aV m w v xs)(hu:aI [l] w w')(hl:w.heap[l]? = some o)(ho:kM o=true) : aV m w' v xs:=aT.updl h hu hl ho fun _ _ h=>h
theorem eF.updl{m:Md}{w w':World}{v:Value}{xs:List Int}{l:Nat}{o:Go.Obj}(h:eF m w v xs)(hu:aI [l] w w')(hl:w.heap[l]? = some o)(ho:kM o=true) : eF m w' v xs:=aT.updl h hu hl ho fun _ _ h=>h
theorem bH.updl{m:Md}{w w':World}{l:Nat}{o:Go.Obj}(hu:aI [l] w w')(hl:w.heap[l]? = some o)(ho:kM o=true)(r:dl)(cs:List Value)(h:bH m w r cs) : bH m w' r cs:=by
  obtain⟨v,h1,h2,h3⟩:=h
  exact⟨v,h1,eF.updl h2 hu hl ho,h3⟩
theorem aj.updl{w w':World}{g:Nat}{c:ap}{l:Nat}{o:Go.Obj}(h:aj w g c)(hu:aI [l] w w')(hg:g∉[l])(hl:w.heap[l]? = some o)(ho:kM o=true) : aj w' g c:=by
  obtain⟨v,hb,hr,hn⟩:=h
  exact⟨v,hu.blk hg hb,hr.updl hu hl ho,hn⟩
theorem yo{n:Nat}{P:Program}{l:Nat}{f:FuncId}{tmps:Array Value}{assign body:Code}{w:World}{r:Loop}{R:Ending→World→Prop}
    (h:assign.wpIn (Fence.wide.inRound l) n P (Exit.then (fun a₁ w₁=>w₁.heap[l]? = some (.loop r)∧r.state = .ready∧∀ w₂,w₂.heap[l]? = some (.loop { r with state:=.busy })→aI [l] w₁ w₂ →
      body.wpIn (Fence.wide.inRound l) n P (Exit.then (fun _ w₃=>∃ r',w₃.heap[l]? = some (.loop r')∧∀ w₄,w₄.heap[l]? = some (.loop { r' with state:=.ready,pending:=none })→aI [l] w₃ w₄→R (.returned (.bool true)) w₄) (fun _ _ _=>False)) a₁ w₂) (fun _ _ _=>False)) { tmps:=tmps,defers:=[] } w) :
    RoundIn Fence.wide n P l f tmps assign body w R:=by
  refine roundIn_of_wpIn trivial (Code.wpIn_mono (fun e a w q=>?_) h)
  cases e with
  | normal =>
    obtain⟨h1,h2,h3⟩:=q
    refine⟨_,run_beginRound h1 h2,Code.wpIn_mono (fun e a w q=>?_) (h3 _ (mU _ h1) (iX _))⟩
    cases e with
    | normal =>
      obtain⟨r',h4,h5⟩:=q
      exact⟨_,_,run_endRound none h4,h5 _ (mU _ h4) (iX _)⟩
    | _=>exact q.elim
  | _=>exact q.elim
theorem n0{n:Nat}{P:Program}{l:Nat}{f:FuncId}{tmps:Array Value}{assign body:Code}{w:World}{r:Loop}{R:Ending→World→Prop}
    (hl:w.heap[l]? = some (.loop r))
    (h:assign.wpIn (Fence.wide.inRound l) n P (Exit.then (fun a₁ w₁=>w₁.heap[l]? = some (.loop r)∧r.state = .ready∧∀ w₂,w₂.heap[l]? = some (.loop { r with state:=.busy })→aI [l] w₁ w₂ →
      body.wpIn (Fence.wide.inRound l) n P (Exit.then (fun _ w₃=>∃ r',w₃.heap[l]? = some (.loop r')∧∀ w₄,w₄.heap[l]? = some (.loop { r' with state:=.ready,pending:=none })→aI [l] w₃ w₄→R (.returned (.bool true)) w₄) (fun _ _ _=>False)) a₁ w₂) (fun _ _ _=>False)) { tmps:=tmps,defers:=[] } w) :
    RoundIn Fence.wide n P l f tmps assign body w R:=yo h
theorem xI{P:Program}{Q:Exit→Act→World→Prop}{a:Act}{w:World}{g:Operand}{ps:Array Tmp}{assign body:Code}{f:FuncId}{fn:Func}(cap:Array Value)
    (hx : a.eval g = .func (.func f) #[] cap) (hf : P.funcs[f]? = some fn) (hname : (fn.name == "runtime.NumGoroutine") = false) (hb : fn.body.isSome = true)
    (h:∀ fn0 D l w₂,w.heap.size≤D→w.heap.size≤l→D≠l→w₂.heap[D]? = some (.deferred (some []))→w₂.heap[l]? = some (.loop { state:=.ready,pending:=none,fn:=fn0,tmps:=a.tmps,params:=ps,assign:=assign,body:=body,defers:=D })→aI [] w w₂ →
      Calls P f (#[.func (.yield l) #[] #[]]++cap) w₂ (fun e w₃=>∃ v r',e = .returned v∧w₃.heap[l]? = some (.loop r')∧r'.state≠.busy∧r'.pending=none∧∀ w₄,aI [l] w₃ w₄→Q .normal { a with defers:={ target:=.collected D,args:=#[] } :: a.defers } w₄)) :
    (Code.rangeFunc g ps assign body).wp P Q a w:=by
  refine(wpIn_wide (n:=9)).1 (wpIn_rangeFunc fun fn0 _=>?_)
  have h1 : fn.name ≠ "runtime.NumGoroutine" := by simpa using hname
  obtain⟨cd,hcd⟩:=Option.isSome_iff_exists.1 hb
  refine⟨w.heap.size+1,[{ target:=.collected w.heap.size,args:=#[] }],((w.alloc (.deferred (some []))).alloc (.loop { state:=.ready,pending:=none,fn:=fn0,tmps:=a.tmps,params:=ps,assign:=assign,body:=body,defers:=w.heap.size })),
    { target:=.fn (.func f) cap,args:=#[]++#[.func (.yield (w.heap.size+1)) #[] #[]] },((w.alloc (.deferred (some []))).alloc (.loop { state:=.ready,pending:=none,fn:=fn0,tmps:=a.tmps,params:=ps,assign:=assign,body:=body,defers:=w.heap.size })),
    f,#[.func (.yield (w.heap.size+1)) #[] #[]]++cap,((w.alloc (.deferred (some []))).alloc (.loop { state:=.ready,pending:=none,fn:=fn0,tmps:=a.tmps,params:=ps,assign:=assign,body:=body,defers:=w.heap.size })),run_enterLoop_outer fn0 a.tmps ps assign body,?_,fun _ _=>trivial,?_,by simp[Fence.wide],?_⟩
  · unfold resolve
    simp only[rangeCall,hx,Deferred.ofValue,Sem.run_pure,List.map_toArray,List.map_cons,List.map_nil]
    rfl
  · simp[invoke,callFunc,hf,h1,hcd]
  · have hD:((w.alloc (.deferred (some []))).alloc (.loop { state:=.ready,pending:=none,fn:=fn0,tmps:=a.tmps,params:=ps,assign:=assign,body:=body,defers:=w.heap.size })).heap[w.heap.size]? = some (.deferred (some [])):=AL (eV w _) _
    have hl:((w.alloc (.deferred (some []))).alloc (.loop { state:=.ready,pending:=none,fn:=fn0,tmps:=a.tmps,params:=ps,assign:=assign,body:=body,defers:=w.heap.size })).heap[w.heap.size+1]? = some (.loop { state:=.ready,pending:=none,fn:=fn0,tmps:=a.tmps,params:=ps,assign:=assign,body:=body,defers:=w.heap.size }):=by
      have:=eV (w.alloc (.deferred (some []))) (.loop { state:=.ready,pending:=none,fn:=fn0,tmps:=a.tmps,params:=ps,assign:=assign,body:=body,defers:=w.heap.size })
      simpa using this
    refine callsIn_wide.2 ((h fn0 w.heap.size (w.heap.size+1) _ (Nat.le_refl _) (by omega) (by omega) hD hl (((aI.refl [] w).alloc _).alloc _)).mono ?_)
    rintro e w₃ ⟨v,r',rfl,h3,h4,h5,h6⟩
    refine⟨_,_,run_endLoop h3 h4,?_⟩
    rw[h5]
    exact h6 _ (iX _)
theorem rk{P:Program}{f:FuncId}{fn:Func}{c:Code}{args:Array Value}{w:World}{R:Ending→World→Prop}(hf:P.funcs[f]? = some fn)(hb:fn.body=some c)
    (h:c.wp P (bodyPostM Fence.wide 9 P fn R) { tmps:=args++Array.replicate (fn.ntmps-args.size) undef,defers:=[] } w) : Calls P f args w R :=
  callsIn_wide.1 (callsIn_of_wp_marks hf hb trivial (wpIn_wide.2 h) rfl)
theorem CF{P:Program}{fn:Func}{R:Ending→World→Prop}{a:Act}{w:World}{D:Nat}(hd:a.defers=[{ target:=.collected D,args:=#[] }])(hD:w.heap[D]? = some (.deferred (some [])))
    (h:∀ w',aI [D] w w'→∃ v,(results fn a.tmps).run P w' = .ok v w'∧R (.returned v) w') : bodyPostM Fence.wide 9 P fn R .ret a w:=by
  show LeavesInM Fence.wide 9 P fn a.tmps R a.defers .returning w
  rw[hd]
  exact⟨by simp,.inl ⟨D,_,rfl,run_takeDeferred hD,h _ (iX _)⟩⟩
theorem AV{P:Program}{fn:Func}{R:Ending→World→Prop}{a:Act}{w:World}(hd:a.defers=[])(h:∃ v,(results fn a.tmps).run P w = .ok v w∧R (.returned v) w) : bodyPostM Fence.wide 9 P fn R .ret a w:=by
  show LeavesInM Fence.wide 9 P fn a.tmps R a.defers .returning w
  rw[hd]
  exact h
open Go.RowKit
structure GF (E:Fence) (m:Nat) (P:Program) (ops:Array Oper) (Q:Exit→Act→World→Prop) (l:List Oper) (n:Nat) (D:List Deferred) (F:Fr) (w:World) : Prop where
  out:∀ a,Ag n D F a→WF E m P ops Q l a w
structure GI (E:Fence) (m:Nat) (P:Program) (c:Code) (Q:Exit→Act→World→Prop) (n:Nat) (D:List Deferred) (F:Fr) (w:World) : Prop where
  out:∀ a,Ag n D F a→c.wpIn E m P Q a w
section
variable {E:Fence}{m:Nat}{P:Program}{Q:Exit→Act→World→Prop}{n:Nat}{D:List Deferred}{F:Fr}{w:World}{ops:Array Oper}{rest l:List Oper}{d:Option Tmp}{op:Op}{t:TypeId}{s:String}{af:Array Edge}{gu:Option (Nat × Bool)}{x y c:Code}{id:Nat}
theorem Er(m:Nat)(h:GF Fence.wide m P l.toArray Q l n D F w) : GC P (.region id l.toArray false) Q n D F w:=⟨fun a ha=>Fh m (h.out a ha)⟩
theorem Dq(h:GF E m P l.toArray Q l n D F w) : GI E m P (.region id l.toArray false) Q n D F w:=⟨fun a ha=>EB (h.out a ha)⟩
theorem Ef(h:GI E m P c (Exit.inBlock id Q) n D F w) : GI E m P (.block id c) Q n D F w:=⟨fun a ha=>wpIn_block (h.out a ha)⟩
theorem xC(h:GQ Q .normal n D F w) : GF E m P ops Q [] n D F w:=⟨fun a ha=>Ex (h.out a ha)⟩
theorem F2(hE:fH E)(h:OG P ⟨d,op,t,s,af,gu⟩ n D F w (GF E m P ops Q rest n D) Q)(hw:o0 ops F gu=(true,true))(hd:gY op=true) : GF E m P ops Q (⟨d,op,t,s,af,gu⟩ :: rest) n D F w :=
  ⟨fun a ha=>EW hE hd (gN ha hw) (h.out a ha _ fun F' w' a' k ha'=>k.out a' ha')⟩
theorem F4(hE:fH E){o:Oper}(h:GF E m P ops Q rest n D (tt P ops w F o) w)(hc:xc P ops w n 1 (o :: rest) F=vV P ops w 1 (o :: rest) F)(hd:gY o.op=true) : GF E m P ops Q (o :: rest) n D F w:=by
  simp only[xc,vV,List.cons.injEq,Prod.mk.injEq,Bool.and_eq_true] at hc
  obtain⟨⟨⟨h1,h2,h3⟩,h4⟩,h5⟩:=hc
  refine⟨fun a ha=>?_⟩
  cases hon:(o0 ops F o.guard).2 with
  | true =>
    rw[hon] at h3 h4
    simp only[cond_true] at h3 h4
    have hst:tt P ops w F o=pt o.dst (vo P w F o) F:=by simp[tt,hon]
    rw[hst] at h
    exact EW hE hd (gN ha (Prod.ext h1 hon)) (iY (N:=o.dst) (vo P w F o) rfl (by rw[← jy ha h3];exact h4) (h.out _ (ha.put h2)))
  | false =>
    have hst:tt P ops w F o=pt o.dst undef F:=by simp[tt,hon]
    rw[hst] at h
    exact En (N:=o.dst) hE (gN ha (Prod.ext h1 hon)) rfl (h.out _ (ha.put h2))
theorem F0(h:OG P ⟨d,op,t,s,af,gu⟩ n D F w (GF Fence.wide m P ops Q rest n D) Q)(hw:o0 ops F gu=(true,true):=by kernel_rfl)(hd:gY op=true:=by kernel_rfl) : GF Fence.wide m P ops Q (⟨d,op,t,s,af,gu⟩ :: rest) n D F w:=F2 nv h hw hd
theorem oH{q:Nat}(h:OG P ⟨d,op,t,s,af,gu⟩ n D F w (GF (Fence.wide.inRound q) m P ops Q rest n D) Q)(hw:o0 ops F gu=(true,true):=by kernel_rfl)(hd:gY op=true:=by kernel_rfl) : GF (Fence.wide.inRound q) m P ops Q (⟨d,op,t,s,af,gu⟩ :: rest) n D F w:=F2 (lJ _) h hw hd
theorem Fp{o:Oper}(h:GF Fence.wide m P ops Q rest n D (tt P ops w F o) w)(hc:xc P ops w n 1 (o :: rest) F=vV P ops w 1 (o :: rest) F:=by kernel_rfl)(hd:gY o.op=true:=by kernel_rfl) : GF Fence.wide m P ops Q (o :: rest) n D F w:=F4 nv h hc hd
theorem Dl{q:Nat}{o:Oper}(h:GF (Fence.wide.inRound q) m P ops Q rest n D (tt P ops w F o) w)(hc:xc P ops w n 1 (o :: rest) F=vV P ops w 1 (o :: rest) F:=by kernel_rfl)(hd:gY o.op=true:=by kernel_rfl) : GF (Fence.wide.inRound q) m P ops Q (o :: rest) n D F w:=F4 (lJ _) h hc hd
theorem Ev(j:Nat)(e:Bool)(ht:e=true→GF E m P ops Q l n D ((j,.bool true) :: F) w)(hf:e=false→GF E m P ops Q l n D ((j,.bool false) :: F) w)(hv:lk F j=some (.bool e):=by kernel_rfl) : GF E m P ops Q l n D F w:=by
  refine⟨fun a ha=>?_⟩
  have key:∀ b,e=b→Ag n D ((j,.bool b) :: F) a:=fun b hb=>⟨ha.sz,ha.df,fun i v hi=>by
    rcases iW hi with⟨rfl,rfl⟩|⟨_,h2⟩
    · rw[← hb];exact ha.at_ _ _ hv
    · exact ha.at_ _ _ h2⟩
  rcases iD e with q|q
  · exact(ht q).out a (key _ q)
  · exact(hf q).out a (key _ q)
theorem Fy{x:Operand}{opds:Array Operand}{ts:Array TypeId}{q:Nat}{r:Loop}(v:Value)(p:Tmp)(hl:w.heap[q]? = some (.loop r))(hp:r.params = #[p])
    (h:RoundIn Fence.wide (m-1) P q r.fn (r.tmps.setIfInBounds p v) r.assign r.body w (fun e w'=>∃ u,e = .returned u∧GF Fence.wide m P ops Q rest n D (pt d u F) w'))
    (hw:o0 ops F gu=(true,true):=by kernel_rfl) (hx:fj F x=some (.func (.yield q) #[] #[]):=by kernel_rfl) (ha:opds.toList.map (fj F)=[some v]:=by kernel_rfl) (hd:gv n d=true:=by kernel_rfl) :
    GF Fence.wide m P ops Q (⟨d,.call { callee:=.value x,args:=opds,argTypes:=ts },t,s,af,gu⟩ :: rest) n D F w :=
  ⟨fun a hag=>A9 v p (gN hag hw) rfl rfl (hag.ev hx) (by apply Array.toList_inj.1;rw[Array.toList_map];exact mv (vs:=[v]) hag ha) hl hp (h.mono fun e w' hh=>by
    obtain⟨u,rfl,hk⟩:=hh
    exact⟨u,rfl,hk.out _ (hag.put hd)⟩)⟩
theorem tI{g:Operand}{ps:Array Tmp}{assign body:Code}{f:FuncId}(cap:Array Value)
    (h:∀ a,Ag n D F a→∀ fn0 D' q w₂,w.heap.size≤D'→w.heap.size≤q→D'≠q→w₂.heap[D']? = some (.deferred (some []))→w₂.heap[q]? = some (.loop { state:=.ready,pending:=none,fn:=fn0,tmps:=a.tmps,params:=ps,assign:=assign,body:=body,defers:=D' })→aI [] w w₂ →
      Calls P f (#[.func (.yield q) #[] #[]]++cap) w₂ (fun e w₃=>∃ v r',e = .returned v∧w₃.heap[q]? = some (.loop r')∧r'.state≠.busy∧r'.pending=none∧∀ w₄,aI [q] w₃ w₄→GQ Q .normal n ({ target:=.collected D',args:=#[] } :: D) F w₄))
    (hx:fj F g=some (.func (.func f) #[] cap):=by kernel_rfl) (hf:D5 P f=some (false,true):=by kernel_rfl) : GC P (.rangeFunc g ps assign body) Q n D F w:=by
  obtain⟨fn,h1,h2,h3⟩:=kR hf
  refine⟨fun a ha=>xI cap (ha.ev hx) h1 h2 h3 fun fn0 D' q w₂ g1 g2 g3 g4 g5 g6=>(h a ha fn0 D' q w₂ g1 g2 g3 g4 g5 g6).mono fun e w₃ hh=>?_⟩
  obtain⟨v,r',k1,k2,k3,k4,k5⟩:=hh
  exact⟨v,r',k1,k2,k3,k4,fun w₄ hu=>(k5 w₄ hu).out _ ⟨ha.sz,by rw[ha.df],ha.at_⟩⟩
theorem Ee{a:Act}(ha:Ag n D F a)(p:Tmp){v:Value}(h:GI E m P c Q n [] ((p,v) :: F) w)(hp:Nat.blt p n=true:=by kernel_rfl) : c.wpIn E m P Q { tmps:=a.tmps.setIfInBounds p v,defers:=[] } w:=by
  have h0:Ag n [] F { tmps:=a.tmps,defers:=[] }:=⟨ha.sz,rfl,ha.at_⟩
  exact h.out _ (h0.put (d:=some p) hp)
theorem EA{r:Loop}{q:Nat}{c:Code}{Qb:Exit→Act→World→Prop}(h1:w.heap[q]? = some (.loop r))(h2:r.state = .ready)(h:∀ w₂,w₂.heap[q]? = some (.loop { r with state:=.busy })→aI [q] w w₂→GI E m P c Qb n D F w₂) :
    GQ (Exit.then (fun a₁ w₁=>w₁.heap[q]? = some (.loop r)∧r.state = .ready∧∀ w₂,w₂.heap[q]? = some (.loop { r with state:=.busy })→aI [q] w₁ w₂→c.wpIn E m P Qb a₁ w₂) Q) .normal n D F w:=⟨fun a ha=>⟨h1,h2,fun w₂ k1 k2=>(h w₂ k1 k2).out a ha⟩⟩
theorem EG{r:Loop}{q:Nat}{Z:World→Prop}(h1:w.heap[q]? = some (.loop r))(h:∀ w₄,w₄.heap[q]? = some (.loop { r with state:=.ready,pending:=none })→aI [q] w w₄→Z w₄) :
    GQ (Exit.then (fun _ w₃=>∃ r',w₃.heap[q]? = some (.loop r')∧∀ w₄,w₄.heap[q]? = some (.loop { r' with state:=.ready,pending:=none })→aI [q] w₃ w₄→Z w₄) Q) .normal n D F w:=⟨fun a ha=>⟨r,h1,h⟩⟩
end
section
variable {P:Program}{n:Nat}{F:Fr}{w:World}{fn:Func}{R:Ending→World→Prop}
theorem Dn{f:FuncId}{c:Code}{args:List Value}{w:World}(n:Nat)(hf:P.funcs[f]? = some fn)(hb:fn.body=some c)
    (h:GC P c (bodyPostM Fence.wide 9 P fn R) n [] (xK 0 args) w) (hn:args.length+(fn.ntmps-args.length)=n:=by kernel_rfl) : Calls P f args.toArray w R:=by
  subst hn
  exact rk hf hb (by simpa using h.out _ (F7 (args:=args) (m:=fn.ntmps-args.length)))
theorem Do{D:Nat}(hD:w.heap[D]? = some (.deferred (some [])))(h:∀ w',aI [D] w w'→GQ (fun _ a w'=>∃ v,(results fn a.tmps).run P w' = .ok v w'∧R (.returned v) w') .ret n [{ target:=.collected D,args:=#[] }] F w') : GQ (bodyPostM Fence.wide 9 P fn R) .ret n [{ target:=.collected D,args:=#[] }] F w :=
  ⟨fun a ha=>CF ha.df hD fun w' hu=>(h w' hu).out a ha⟩
theorem rx{D:List Deferred}{g:Nat}{cs:Array Value}{t:TypeId}{fr:Nat × Nat}(B:w.heap[g]? = some (.cells cs t fr))(u:Value)(h:R (.returned (.tuple #[.agg cs,u])) w)(hc:Dm P fn.results F=some (some (.pointer (some ⟨g,0,none⟩)),some u,some true,some cs.size):=by kernel_rfl) : GQ (fun _ a w'=>∃ v,(results fn a.tmps).run P w' = .ok v w'∧R (.returned v) w') .ret n D F w :=
  ⟨fun a ha=>⟨_,mp ha B rfl hc,h⟩⟩
theorem ry{g:Nat}{cs:Array Value}{t:TypeId}{fr:Nat × Nat}(B:w.heap[g]? = some (.cells cs t fr))(u:Value)(h:R (.returned (.tuple #[.agg cs,u])) w)(hc:Dm P fn.results F=some (some (.pointer (some ⟨g,0,none⟩)),some u,some true,some cs.size):=by kernel_rfl) : GQ (bodyPostM Fence.wide 9 P fn R) .ret n [] F w :=
  ⟨fun a ha=>AV ha.df ⟨_,mp ha B rfl hc,h⟩⟩
end
open Go.RowKit
def CL (mk:Nat→Value)(w:World)(e:Ending)(w':World) : Prop:=∃ gs,e = .returned (.tuple #[mk gs,.bool true])∧w.heap.size≤gs∧w'.heap[gs]? = some (.cells #[.int .i64 0] 3 (0,0))∧aI [] w w'
def Eo (gs:Nat) : Value:=.agg #[.func (.func 215) #[] #[],.func (.func 213) #[] #[.pointer (some ⟨gs,0,none⟩)]]
def EP (gs:Nat) : Value:=.agg #[.func (.func 216) #[] #[],.func (.func 217) #[] #[]]
def Et (gs:Nat) : Value:=.agg #[.func (.func 218) #[] #[],.func (.func 219) #[] #[]]
theorem Ba{w:World}:Calls Tryz.prog 153 #[vI 0,vB 20] w (CL Eo w):=by
 refine en 27 Tryz.func153 rfl<|sg<|aK #[.nilFunc,.nilFunc] fun m n g b c=>Pl 1<|ng<|aK #[vI 0] fun d o a h i=>L0<|bY h 0 #[vI 0] fun p j k=>nt<|sq<|go<|ah 2<|sq<|bk<|aB 7<|c1<|aq 2<|?_
 have e:=ud i k a
 refine aG (ub e b) #[.func (.func 215) #[] #[],.func (.func 213) #[] #[vP d 0]] fun q l f=>ah 1<|rt<|br<|tr<|ck l (.bool true)<|?_
 exact⟨d,rfl,(Nat.le_trans c.size a),(bj f (Ne.symm (nb (az b) lr a)) j),(ud c (uz e f) g)⟩
theorem C5{w:World}:Calls Tryz.prog 153 #[vI 1,vB 20] w (CL EP w):=by
 refine en 27 Tryz.func153 rfl<|sg<|aK #[.nilFunc,.nilFunc] fun m n f b c=>Pl 1<|ng<|aK #[vI 0] fun g o a h i=>L0<|bY h 0 #[vI 0] fun p j k=>nt<|sq<|go<|ah 2<|sq<|bk<|aB 7<|c0<|aB 3<|c1<|aq 1<|?_
 have d:=ud i k a
 refine aG (ub d b) #[.func (.func 216) #[] #[],.func (.func 217) #[] #[]] fun q l e=>ah 1<|rt<|br<|tr<|ck l (.bool true)<|?_
 exact⟨g,rfl,(Nat.le_trans c.size a),(bj e (Ne.symm (nb (az b) lr a)) j),(ud c (uz d e) f)⟩
theorem Bc{dir:Int}{w:World}:Calls Tryz.prog 153 #[vI dir,vB 21] w (CL Et w):=by
 refine en 27 Tryz.func153 rfl<|sg<|aK #[.nilFunc,.nilFunc] fun m n f b c=>Pl 1<|ng<|aK #[vI 0] fun g o a h i=>L0<|bY h 0 #[vI 0] fun p j k=>nt<|sq<|go<|ah 2<|sq<|bk<|aB 7<|c0<|aB 3<|c0<|aB 3<|c1<|aq 1<|?_
 have d:=ud i k a
 refine aG (ub d b) #[.func (.func 218) #[] #[],.func (.func 219) #[] #[]] fun q l e=>ah 1<|rt<|br<|tr<|ck l (.bool true)<|?_
 exact⟨g,rfl,(Nat.le_trans c.size a),(bj e (Ne.symm (nb (az b) lr a)) j),(ud c (uz d e) f)⟩
theorem sB{dir x:Int}{w:World}(n1:(x==20)=false)(n2:(x==21)=false) : Calls Tryz.prog 153 #[vI dir,vB x] w (bS (.tuple #[.agg #[.nilFunc,.nilFunc],.bool false]) w):=by
 refine en 27 Tryz.func153 rfl<|sg<|aK #[.nilFunc,.nilFunc] fun k l b c d=>Pl 1<|ng<|aK #[vI 0] fun m n e f g=>L0<|bY f 0 #[vI 0] fun o p h=>nt<|sq<|go<|ah 2<|sq<|bk<|aq 3<|sy 12 n1<|ah 4<|c0<|aB 3<|cf n1<|aB 3<|cf n2<|sk<|bn<|tn<|aq 1<|?_
 have a:=ud g h e
 refine aG (ub a c) #[.nilFunc,.nilFunc] fun q i j=>ah 1<|rt<|ck i (.bool false)<|?_
 exact⟨rfl,(ud d (uz a j) b)⟩
theorem mP{gb:Nat}{f:Fn}{x y:Array Value}{w:World}:Calls Tryz.prog 157 #[vP gb 0,.func f x y] w (fun e w'=>∃ b1 b2,e = .returned (.func (.func 220) #[] #[vP b1 0,vP b2 0])∧w.heap.size≤b1∧w.heap.size≤b2∧b1≠b2 ∧
      w'.heap[b1]? = some (.cells #[vP gb 0] 164 (0,0))∧w'.heap[b2]? = some (.cells #[.func f x y] 178 (0,0))∧aI [] w w'):=by
 refine en 6 Tryz.func157 rfl<|sg<|L0<|cY #[vP gb 0] fun a k i b c=>L0<|cY #[.func f x y] fun d l g j h=>Pl 1<|dk 2<|rt<|rr (.func (.func 220) #[] #[vP a 0,vP d 0])<|?_
 exact⟨a,d,rfl,i,(Nat.le_trans c.size g),(nb (az b) lr g),(ub h b),j,(aJ c h)⟩
theorem wI{g gs:Nat}{s:Int}{C:ap}{w:World}(hC:aj w g C)(hS:w.heap[gs]? = some (.cells #[vI s] 3 (0,0)))(hne:g≠gs)(hs:0≤s∧s≤1000000000000) :
    Calls Tryz.prog 213 #[vP g 0,vP gs 0] w (fun e w'=>∃ A c,e = .returned (.agg #[vW (aW C).file,vW (aW C).record,vW (aW C).count,.slice A (aW C).words.length c])∧eF true w' (.slice A (aW C).words.length c) (aW C).words∧eR (aW C).file∧eR (aW C).record∧eR (aW C).count∧aj w' g (fb s C)∧w'.heap[gs]? = some (.cells #[vI (fh s C)] 3 (0,0))∧aI [g,gs] w w'):=by
 refine en 19 Tryz.func213 rfl<|sg<|aK #[vW 0,vW 0,vW 0,nS] fun S T b j d=>aL 1<|?_
 refine ay<|Cq (rg (aj.old hC d)) fun k l U H I J K m f=>?_
 obtain⟨V,W⟩:=I
 obtain⟨X,Y⟩:=J
 obtain⟨Z,a0⟩:=K
 refine aK #[vW 0,vW 0,vW 0,nS] fun a1 a2 h L M=>aG L #[vW ((aW C).file),vW ((aW C).record),vW ((aW C).count),.slice k ((aW C).words.length) l] fun a3 n N=>ng<|?_
 have o:=ud M N h
 have p:=aJ f o
 have q:=bj (uz d p) (Ne.symm hne) hS
 refine aC q 0<|Pl 1<|aC n 2<|bp ((aW C).count)<|bp (2*((aW C).count))<|bp (2+(2*((aW C).count)))<|bp (s+(2+(2*((aW C).count))))<|L0<|bY q 0 #[vI (s+(2+(2*((aW C).count))))] fun a4 r t=>aL 1<|aC r 0<|Pl 1<|?_
 have u:=uz o t
 have a:=uz d f
 have v:=bj a (Ne.symm hne) hS
 refine ay<|m2 (bq ((decide ((s+(2+(2*((aW C).count))))≤245))) 5 (aj.upd m u (aa hne aE) (av (b9 v (by decide)) aM))) fun a5 O y=>?_
 refine ab O fun x47 P Q=>?_
 refine ng<|?_
 have z:=us t y
 refine L0<|cm (aI.blk z (aa (Ne.symm (nb (az hS) a.size h)) (aa (Ne.symm (nb (aj.lt hC) a.size h)) aE)) n)<|?_
 have i:=nb (aj.lt hC) lr b
 have B:=nb (az hS) lr b
 have D:=aI.blk (ui p z) (aa (Ne.symm B) (aa (Ne.symm i) aE)) j
 refine aG D #[vW ((aW C).file),vW ((aW C).record),vW ((aW C).count),.slice k ((aW C).words.length) l] fun a6 R E=>ss<|D3 R<|?_
 subst P
 have F:=us y E
 have G:=us u F
 exact⟨_,_,rfl,(eF.upd' H G (av (b9 v (by decide)) (av (aj.safe m _ (by decide)) (av (b9 (bj f (Ne.symm i) j) (by decide)) aM)))),cM (x:=(aW C).file) (by omega),cM (x:=(aW C).record) (by omega),cM (x:=(aW C).count) (by omega),(aj.upd Q E (aa i aE) (av (b9 D (by decide)) aM)),(aI.blk F (aa (Ne.symm hne) (aa B aE)) r),(ut (aI.mono (S':=[g,gs]) a (ac im aD)) G (ac im (ac im (ac (nr b) aD))))⟩
def i7 (c:Int)(v:Value) : Array Value:=#[.int .u8 c,.int .u8 0,.int .u16 0,.int .u16 0,.int .u16 0,.int .u16 0,.int .u16 0,.int .u16 0,.int .u16 0,.int .u16 0,.int .u16 0,.int .u16 0,jk,jk,jk,v,.int .u8 0,.int .u8 0,.int .u8 0,.int .u8 0,.int .u8 0,jk]
structure JR (w0:World) (gb gs gm l:Nat) (c:Int) (r:Loop) (C:ap) (s:Int) (L:List dl) (A:Option Addr) (cp:Nat) (W:World) : Prop where
  u:aI [gb,gs,gm,l] w0 W
  hC:aj W gb C
  hS:W.heap[gs]? = some (.cells #[.int .i64 s] 3 (0,0))
  hm:W.heap[gm]? = some (.cells (i7 c (.slice A L.length cp)) 45 (0,0))
  ho:aZ w0.heap.size 98 4 (bH true) W (.slice A L.length cp) L
  hl:W.heap[l]? = some (.loop r)
def dj (s:Int)(C:ap) : Int × ap × dl:=(fh s C,fb s C,aW C)
def bQ (s:Int)(C:ap) : Int × ap × dl:=(s,fu C,fv C)
def dr (s:Int)(C:ap) : Int × ap × dl:=(s,jX C,kg C)
def aX (one:Int→ap→Int × ap × dl) : Nat→Int→ap→List dl→ap × List dl
  | 0,_,C,L=>(C,L)
  | n+1,s,C,L =>
    if decide (0<(C.l.length:Int))&&C.e==0 then
      (if (one s C).2.1.e != 0 then ((one s C).2.1,L) else aX one n (one s C).1 (one s C).2.1 (L++[(one s C).2.2]))
    else (C,L)
theorem ke(C:ap)(n:Int) : (C.bytesC n).l.length≤C.l.length:=by
  unfold ap.bytesC
  split
  · unfold ap.need
    split<;>simp
  · simp
theorem ns(C:ap)(h:0<C.l.length) : (C.bytesC 1).l.length<C.l.length:=by
  unfold ap.bytesC
  split
  · unfold ap.need
    split<;>simpa using h
  · simp
    omega
theorem fm(C:ap)(b:Bool)(e:Int) : (C.need b e).l.length=C.l.length:=by
  unfold ap.need
  split<;>rfl
theorem fG(C:ap)(n:Int) : (C.wordsC n).l.length≤C.l.length:=by
  unfold ap.wordsC
  split<;>exact ke ..
theorem rJ(C:ap)(h:0<C.l.length) : (dR C).l.length<C.l.length:=by
  have h1:(jd C).l.length<C.l.length:=by unfold jd;rw[fm];exact ns C h
  have h2:(jO C).l.length≤(jd C).l.length:=by unfold jO;rw[fm];exact fG ..
  have h3:(o4 C).l.length≤(jO C).l.length:=by unfold o4;rw[fm];exact fG ..
  have h4:(dR C).l.length≤(o4 C).l.length:=by unfold dR;rw[fm];exact fG ..
  omega
theorem ms(s:Int)(C:ap)(h:0<C.l.length) : (dj s C).2.1.l.length<C.l.length:=by
  show(fb s C).l.length<_
  unfold fb
  rw[fm]
  exact rJ C h
theorem ju(s:Int)(C:ap)(h:0<C.l.length) : (bQ s C).2.1.l.length<C.l.length:=by
  show(fu C).l.length<_
  have h1:(iy C).l.length<C.l.length:=by unfold iy;rw[fm];exact ns C h
  have h2:(ff C).l.length≤(iy C).l.length:=by unfold ff;rw[fm];exact ke ..
  have h3:(fu C).l.length≤(ff C).l.length:=by unfold fu;exact fG ..
  omega
theorem mr(s:Int)(C:ap)(h:0<C.l.length) : (dr s C).2.1.l.length<C.l.length:=by
  show(jX C).l.length<_
  have h1:=rJ C h
  have h2:(oD C).l.length=(dR C).l.length:=by unfold oD;rw[fm]
  have h3:(jX C).l.length≤(oD C).l.length:=by unfold jX;exact fG ..
  omega
theorem iJ(one:Int→ap→Int × ap × dl)(n:Nat)(s:Int)(C:ap)(L:List dl)(h:(decide (0<(C.l.length:Int))&&C.e==0)=false) : aX one n s C L=(C,L):=by
  cases n with
  | zero=>rfl
  | succ n=>simp only[aX,h,Bool.false_eq_true,if_false]
open Go.RowKit
def eJ (fn0:FuncId)(tm:Array Value)(asg bdy:Code)(D:Nat) : Loop:={ state:=.ready,pending:=none,fn:=fn0,tmps:=tm,params:=#[53],assign:=asg,body:=bdy,defers:=D }
def tY (w:World)(gb gs gm l:Nat)(c:Int)(R:Loop) : Prop:=∀ (W:World)(C:ap)(s:Int)(L:List dl)(A:Option Addr)(cp:Nat)(x:dl)(Ax:Option Addr)(cx:Nat),JR w gb gs gm l c R C s L A cp W→eF true W (.slice Ax x.words.length cx) x.words→eR x.file→eR x.record→eR x.count→L.length≤1048576 →
    RoundIn Fence.wide 8 Tryz.prog l R.fn (R.tmps.setIfInBounds 53 (.agg #[.int .u16 x.file,.int .u16 x.record,.int .u16 x.count,.slice Ax x.words.length cx])) R.assign R.body W (fun e W'=>e = .returned (.bool true)∧W.heap.size≤W'.heap.size∧∃ A2 c2,JR w gb gs gm l c R C s (L++[x]) A2 c2 W')
theorem CG{w:World}{gb gs gm l b1 b2 fn0 D:Nat}{tm:Array Value}{asg bdy:Code}{c:Int}{C0:ap}(hC:aj w gb C0)(hS:w.heap[gs]? = some (.cells #[vI 0] 3 (0,0)))(hm:w.heap[gm]? = some (.cells (i7 c jk) 45 (0,0)))
    (hl:w.heap[l]? = some (.loop (eJ fn0 tm asg bdy D))) (hb1:w.heap[b1]? = some (.cells #[vP gb 0] 164 (0,0))) (hb2:w.heap[b2]? = some (.cells #[.func (.func 213) #[] #[vP gs 0]] 178 (0,0)))
    (n1:gb≠gs) (n2:gb≠gm) (n3:gb≠l) (n4:gs≠gm) (n5:gs≠l) (n6:gm≠l) (m1:b1≠gb) (m2:b1≠gs) (m3:b1≠gm) (m4:b1≠l) (k1:b2≠gb) (k2:b2≠gs) (k3:b2≠gm) (k4:b2≠l) (hround:tY w gb gs gm l c (eJ fn0 tm asg bdy D)) :
    Calls Tryz.prog 220 #[.func (.yield l) #[] #[],vP b1 0,vP b2 0] w (fun e W=>e = .returned (.tuple #[])∧∃ s A cp,JR w gb gs gm l c (eJ fn0 tm asg bdy D) (aX dj C0.l.length 0 C0 []).1 s (aX dj C0.l.length 0 C0 []).2 A cp W):=by
 have hlen:=hC.len
 refine en 25 Tryz.func220 rfl<|bk<|je (fun x=>[(0,.func (.yield l) #[] #[]),(1,vP b1 0),(2,vP b2 0)]) (fun(x:Nat × ap × Int × List dl × Option Addr × Nat) w'=>aI [gb,gs,gm,l] w w'∧aj w' gb x.2.1∧w'.heap[gs]? = some (.cells #[vI x.2.2.1] 3 (0,0))∧w'.heap[gm]? = some (.cells (i7 c (.slice x.2.2.2.2.1 x.2.2.2.1.length x.2.2.2.2.2)) 45 (0,0))∧w'.heap[l]? = some (.loop (eJ fn0 tm asg bdy D))∧aZ w.heap.size 98 4 (bH true) w' (.slice x.2.2.2.2.1 x.2.2.2.1.length x.2.2.2.2.2) x.2.2.2.1∧(aX dj x.1 x.2.2.1 x.2.1 x.2.2.2.1=aX dj C0.l.length 0 C0 [])∧(x.2.1.l.length≤x.1)∧(0≤x.2.2.1∧x.2.2.1≤131074*(x.2.2.2.1.length:Int))∧(x.2.2.2.1.length+x.1≤C0.l.length)) (fun x=>x.1) (C0.l.length,C0,0,[],none,0) ⟨aI.refl _ _,hC,hS,hm,hl,aZ.nil ..,rfl,(Nat.le_refl _),(by(try dsimp only);omega),(by(try dsimp only);(try simp only[List.length_nil]);omega)⟩ ?_
 rintro⟨n,C,s,L,A,cp⟩ h ⟨m,J,M,N,O,P,Q,R,S,T⟩
 refine gi [(0,.func (.yield l) #[] #[]),(1,vP b1 0),(2,vP b2 0)] ?_
 have b:aj h gb C:=J
 have o:h.heap[gs]? = some (.cells #[vI s] 3 (0,0)):=M
 have t:h.heap[gm]? = some (.cells (i7 c (.slice A L.length cp)) 45 (0,0)):=N
 have v:h.heap[l]? = some (.loop (eJ fn0 tm asg bdy D)):=O
 have d:aZ w.heap.size 98 4 (bH true) h (.slice A L.length cp) L:=P
 have ae:aX dj n s C L=aX dj C0.l.length 0 C0 []:=Q
 have af:C.l.length≤n:=R
 have ah:0≤s∧s≤131074*(L.length:Int):=S
 have ai:L.length+n≤C0.l.length:=T
 have hrec:aX dj n s C L=aX dj C0.l.length 0 C0 []:=by assumption
 refine sq<|sg<|?_
 have p:=aI.blk m (aa m1 (aa m2 (aa m3 (aa m4 aE)))) hb1
 refine aC p 0<|ay<|mq (eO b)<|?_
 have ak:=aj.len b
 refine Pl 2<|cu 4 [8] 12 (((decide (0<(C.l.length:Int)))&&(C.e==0))) (fun K B=>?_) ?_
 refine bl 8 ((decide (0<(C.l.length:Int)))) (fun i=>?_) (fun i=>?_)
 have U:=of_decide_eq_true i
 refine L1<|dQ p 0<|L1<|Oc<|mq (cT b)<|?_
 have al:=aj.len b
 exact Pl 2<|ce B (C.e==0) (by rw[i];rfl)
 have U:=of_decide_eq_false i
 exact Pl 4<|ce B false (by rw[i];rfl)
 refine nt<|cb (((decide (0<(C.l.length:Int)))&&(C.e==0))) (fun f=>?_) (fun f=>?_)
 have y:=(b7 f).1
 have z:=(b7 f).2
 have am:=of_decide_eq_true y
 have an:=ag z
 refine bu<|bk<|sg<|?_
 refine aC (aI.blk m (aa k1 (aa k2 (aa k3 (aa k4 aE)))) hb2) 0<|aC p 0<|L0<|i8 #[] #[vP gs 0] (args:=#[vP gb 0,vP gs 0])<|Fk (wI (s:=s) b o n1 (by omega)) fun E F ao V X Y Z a0 G a1=>?_
 have aq:fh s C=s+(2+2*(aW C).count):=rfl
 obtain⟨ar,aw⟩:=X
 obtain⟨ax,aB⟩:=Y
 obtain⟨aH,aL⟩:=Z
 refine aK #[vW 0,vW 0,vW 0,nS] fun aN aP a2 a3 a4=>aG a3 #[vW ((aW C).file),vW ((aW C).record),vW ((aW C).count),.slice E ((aW C).words.length) F] fun a5 a6 a7=>nt<|sq<|Er 9<|?_
 have j:=ud a4 a7 a2
 have a:=aJ a1 j
 refine F0<|dQ (aI.blk a (aa m1 (aa m2 aE)) p) 0<|?_
 have q:=aj.old a0 j
 refine F0<|Oc<|mq (cT q)<|?_
 have aQ:=aj.len q
 refine Fp<|Fp<|?_
 have H:=ut m a (ac im (ac im aD))
 refine Ev 19 ((((fb s C).e)!=0)) (fun k=>?_) (fun k=>?_)
 have a8:=aA k
 refine Fp<|Fp<|Fp<|Fp<|Fp<|xC<|tn<|c1<|rt<|br<|tr<|br<|rr (.tuple #[])<|?_
 have hfin:aX dj C0.l.length 0 C0 []=((fb s C),L):=by
   rw[← hrec]
   rw[show n=(n-1)+1 from by omega]
   simp only[aX,dj,f,y,z,k,bi,reduceIte]
 refine⟨rfl,(fh s C),A,cp,?_⟩
 rw[hfin]
 exact⟨H,q,(ub j G),(aI.blk a (aa (Ne.symm n2) (aa (Ne.symm n4) aE)) t),(au d a (fun x hx=>(aa (fun e=>(aO (aj.lt hC) lr d) (e▸hx)) (aa (fun e=>(aO (az hS) lr d) (e▸hx)) aE))) (bH.upd16 a (av (aj.safe b _ (by decide)) (av (b9 o (by decide)) aM)))),(aI.blk a (aa (Ne.symm n3) (aa (Ne.symm n5) aE)) v)⟩
 have a8:=aF k
 refine Fp<|F0<|cm a6<|?_
 have I:=aI.blk a (aa (Ne.symm n3) (aa (Ne.symm n5) aE)) v
 have a9:JR w gb gs gm l c (eJ fn0 tm asg bdy D) (fb s C) (fh s C) L A cp a5:=⟨H,q,(ub j G),(aI.blk a (aa (Ne.symm n2) (aa (Ne.symm n4) aE)) t),(au d a (fun x hx=>(aa (fun e=>(aO (aj.lt hC) lr d) (e▸hx)) (aa (fun e=>(aO (az hS) lr d) (e▸hx)) aE))) (bH.upd16 a (av (aj.safe b _ (by decide)) (av (b9 o (by decide)) aM)))),I⟩
 refine Fy (r:=eJ fn0 tm asg bdy D) (.agg #[vW ((aW C).file),vW ((aW C).record),vW ((aW C).count),.slice E ((aW C).words.length) F]) 53 I rfl<|?_
 refine RoundIn.mono (hround _ _ _ _ _ _ (aW C) _ _ a9 (eF.upd' V j aM) (cM (by omega)) (cM (by omega)) (cM (by omega)) (by omega)) ?_
 rintro _ aR ⟨rfl,aS,ab,ad,g⟩
 refine⟨_,rfl,?_⟩
 exact Fp<|Fp<|xC<|tn<|c0<|sk<|bn<|gK ((n-1),(fb s C),(fh s C),(L++[(aW C)]),ab,ad) ⟨g.u,g.hC,g.hS,g.hm,g.hl,g.ho,(by(try dsimp only);rw[← hrec,show n=(n-1)+1 from by omega];simp only[aX,dj,f,y,z,k,bi,Nat.add_sub_cancel,reduceIte]),(by(try dsimp only);have hd:=ms s C (by omega);have jO:(dj s C).2.1.l.length=(fb s C).l.length:=rfl;omega),(by(try dsimp only);simp only[bM];omega),(by(try dsimp only);simp only[bM];omega)⟩ (by omega)
 refine xt<|tx<|tx<|bx<|rm (.tuple #[])<|?_
 have hfin:aX dj C0.l.length 0 C0 []=(C,L):=by
   rw[← hrec]
   exact iJ _ _ _ _ _ (by simp only[f,bi])
 refine⟨rfl,s,A,cp,?_⟩
 rw[hfin]
 exact⟨m,b,o,t,d,v⟩
theorem Cn{w:World}{gb gs gm l b1 b2 fn0 D:Nat}{tm:Array Value}{asg bdy:Code}{c:Int}{C0:ap}(hC:aj w gb C0)(hS:w.heap[gs]? = some (.cells #[vI 0] 3 (0,0)))(hm:w.heap[gm]? = some (.cells (i7 c jk) 45 (0,0)))
    (hl:w.heap[l]? = some (.loop (eJ fn0 tm asg bdy D))) (hb1:w.heap[b1]? = some (.cells #[vP gb 0] 164 (0,0))) (hb2:w.heap[b2]? = some (.cells #[.func (.func 217) #[] #[]] 178 (0,0)))
    (n1:gb≠gs) (n2:gb≠gm) (n3:gb≠l) (n4:gs≠gm) (n5:gs≠l) (n6:gm≠l) (m1:b1≠gb) (m2:b1≠gs) (m3:b1≠gm) (m4:b1≠l) (k1:b2≠gb) (k2:b2≠gs) (k3:b2≠gm) (k4:b2≠l) (hround:tY w gb gs gm l c (eJ fn0 tm asg bdy D)) :
    Calls Tryz.prog 220 #[.func (.yield l) #[] #[],vP b1 0,vP b2 0] w (fun e W=>e = .returned (.tuple #[])∧∃ s A cp,JR w gb gs gm l c (eJ fn0 tm asg bdy D) (aX bQ C0.l.length 0 C0 []).1 s (aX bQ C0.l.length 0 C0 []).2 A cp W):=by
 have hlen:=hC.len
 refine en 25 Tryz.func220 rfl<|bk<|je (fun x=>[(0,.func (.yield l) #[] #[]),(1,vP b1 0),(2,vP b2 0)]) (fun(x:Nat × ap × Int × List dl × Option Addr × Nat) w'=>aI [gb,gs,gm,l] w w'∧aj w' gb x.2.1∧w'.heap[gs]? = some (.cells #[vI x.2.2.1] 3 (0,0))∧w'.heap[gm]? = some (.cells (i7 c (.slice x.2.2.2.2.1 x.2.2.2.1.length x.2.2.2.2.2)) 45 (0,0))∧w'.heap[l]? = some (.loop (eJ fn0 tm asg bdy D))∧aZ w.heap.size 98 4 (bH true) w' (.slice x.2.2.2.2.1 x.2.2.2.1.length x.2.2.2.2.2) x.2.2.2.1∧(aX bQ x.1 x.2.2.1 x.2.1 x.2.2.2.1=aX bQ C0.l.length 0 C0 [])∧(x.2.1.l.length≤x.1)∧(0≤x.2.2.1∧x.2.2.1≤131074*(x.2.2.2.1.length:Int))∧(x.2.2.2.1.length+x.1≤C0.l.length)) (fun x=>x.1) (C0.l.length,C0,0,[],none,0) ⟨aI.refl _ _,hC,hS,hm,hl,aZ.nil ..,rfl,(Nat.le_refl _),(by(try dsimp only);omega),(by(try dsimp only);(try simp only[List.length_nil]);omega)⟩ ?_
 rintro⟨n,C,s,L,A,cp⟩ g ⟨k,I,J,M,N,O,P,Q,R,S⟩
 refine gi [(0,.func (.yield l) #[] #[]),(1,vP b1 0),(2,vP b2 0)] ?_
 have b:aj g gb C:=I
 have p:g.heap[gs]? = some (.cells #[vI s] 3 (0,0)):=J
 have q:g.heap[gm]? = some (.cells (i7 c (.slice A L.length cp)) 45 (0,0)):=M
 have t:g.heap[l]? = some (.loop (eJ fn0 tm asg bdy D)):=N
 have h:aZ w.heap.size 98 4 (bH true) g (.slice A L.length cp) L:=O
 have ac:aX bQ n s C L=aX bQ C0.l.length 0 C0 []:=P
 have ad:C.l.length≤n:=Q
 have ae:0≤s∧s≤131074*(L.length:Int):=R
 have af:L.length+n≤C0.l.length:=S
 have hrec:aX bQ n s C L=aX bQ C0.l.length 0 C0 []:=by assumption
 refine sq<|sg<|?_
 have m:=aI.blk k (aa m1 (aa m2 (aa m3 (aa m4 aE)))) hb1
 refine aC m 0<|ay<|mq (eO b)<|?_
 have ah:=aj.len b
 refine Pl 2<|cu 4 [8] 12 (((decide (0<(C.l.length:Int)))&&(C.e==0))) (fun K B=>?_) ?_
 refine bl 8 ((decide (0<(C.l.length:Int)))) (fun i=>?_) (fun i=>?_)
 have T:=of_decide_eq_true i
 refine L1<|dQ m 0<|L1<|Oc<|mq (cT b)<|?_
 have ai:=aj.len b
 exact Pl 2<|ce B (C.e==0) (by rw[i];rfl)
 have T:=of_decide_eq_false i
 exact Pl 4<|ce B false (by rw[i];rfl)
 refine nt<|cb (((decide (0<(C.l.length:Int)))&&(C.e==0))) (fun d=>?_) (fun d=>?_)
 have v:=(b7 d).1
 have y:=(b7 d).2
 have ak:=of_decide_eq_true v
 have al:=ag y
 refine bu<|bk<|sg<|?_
 refine aC (aI.blk k (aa k1 (aa k2 (aa k3 (aa k4 aE)))) hb2) 0<|aC m 0<|L0<|i8 #[] #[] (args:=#[vP gb 0])<|Cq (wT b) fun E F am U V X Y Z a0=>?_
 obtain⟨an,ao⟩:=V
 obtain⟨aq,ar⟩:=X
 obtain⟨aw,ax⟩:=Y
 refine aK #[vW 0,vW 0,vW 0,nS] fun az aB a1 a2 a3=>aG a2 #[vW ((fv C).file),vW ((fv C).record),vW ((fv C).count),.slice E ((fv C).words.length) F] fun a4 a5 a6=>nt<|sq<|Er 9<|?_
 have z:=ud a3 a6 a1
 have a:=aJ a0 z
 refine F0<|dQ (bj a m1 m) 0<|?_
 have o:=aj.old Z z
 refine F0<|Oc<|mq (cT o)<|?_
 have aD:=aj.len o
 refine Fp<|Fp<|?_
 have G:=u1 k a im
 refine Ev 19 ((((fu C).e)!=0)) (fun j=>?_) (fun j=>?_)
 have a7:=aA j
 refine Fp<|Fp<|Fp<|Fp<|Fp<|xC<|tn<|c1<|rt<|br<|tr<|br<|rr (.tuple #[])<|?_
 have hfin:aX bQ C0.l.length 0 C0 []=((fu C),L):=by
   rw[← hrec]
   rw[show n=(n-1)+1 from by omega]
   simp only[aX,bQ,d,v,y,j,bi,reduceIte]
 refine⟨rfl,s,A,cp,?_⟩
 rw[hfin]
 exact⟨G,o,(bj a (Ne.symm n1) p),(bj a (Ne.symm n2) q),(au h a (fun x hx=>(aa (fun e=>(aO (aj.lt hC) lr h) (e▸hx)) aE)) (bH.upd16 a (av (aj.safe b _ (by decide)) aM))),(bj a (Ne.symm n3) t)⟩
 have a7:=aF j
 refine Fp<|F0<|cm a5<|?_
 have H:=bj a (Ne.symm n3) t
 have a8:JR w gb gs gm l c (eJ fn0 tm asg bdy D) (fu C) s L A cp a4:=⟨G,o,(bj a (Ne.symm n1) p),(bj a (Ne.symm n2) q),(au h a (fun x hx=>(aa (fun e=>(aO (aj.lt hC) lr h) (e▸hx)) aE)) (bH.upd16 a (av (aj.safe b _ (by decide)) aM))),H⟩
 refine Fy (r:=eJ fn0 tm asg bdy D) (.agg #[vW ((fv C).file),vW ((fv C).record),vW ((fv C).count),.slice E ((fv C).words.length) F]) 53 H rfl<|?_
 refine RoundIn.mono (hround _ _ _ _ _ _ (fv C) _ _ a8 (eF.upd' U z aM) (cM (by omega)) (cM (by omega)) (cM (by omega)) (by omega)) ?_
 rintro _ aH ⟨rfl,aL,a9,ab,f⟩
 refine⟨_,rfl,?_⟩
 exact Fp<|Fp<|xC<|tn<|c0<|sk<|bn<|gK ((n-1),(fu C),s,(L++[(fv C)]),a9,ab) ⟨f.u,f.hC,f.hS,f.hm,f.hl,f.ho,(by(try dsimp only);rw[← hrec,show n=(n-1)+1 from by omega];simp only[aX,bQ,d,v,y,j,bi,Nat.add_sub_cancel,reduceIte]),(by(try dsimp only);have hd:=ju s C (by omega);have jO:(bQ s C).2.1.l.length=(fu C).l.length:=rfl;omega),(by(try dsimp only);simp only[bM];omega),(by(try dsimp only);simp only[bM];omega)⟩ (by omega)
 refine xt<|tx<|tx<|bx<|rm (.tuple #[])<|?_
 have hfin:aX bQ C0.l.length 0 C0 []=(C,L):=by
   rw[← hrec]
   exact iJ _ _ _ _ _ (by simp only[d,bi])
 refine⟨rfl,s,A,cp,?_⟩
 rw[hfin]
 exact⟨k,b,p,q,h,t⟩
theorem Df{w:World}{gb gs gm l b1 b2 fn0 D:Nat}{tm:Array Value}{asg bdy:Code}{c:Int}{C0:ap}(hC:aj w gb C0)(hS:w.heap[gs]? = some (.cells #[vI 0] 3 (0,0)))(hm:w.heap[gm]? = some (.cells (i7 c jk) 45 (0,0)))
    (hl:w.heap[l]? = some (.loop (eJ fn0 tm asg bdy D))) (hb1:w.heap[b1]? = some (.cells #[vP gb 0] 164 (0,0))) (hb2:w.heap[b2]? = some (.cells #[.func (.func 219) #[] #[]] 178 (0,0)))
    (n1:gb≠gs) (n2:gb≠gm) (n3:gb≠l) (n4:gs≠gm) (n5:gs≠l) (n6:gm≠l) (m1:b1≠gb) (m2:b1≠gs) (m3:b1≠gm) (m4:b1≠l) (k1:b2≠gb) (k2:b2≠gs) (k3:b2≠gm) (k4:b2≠l) (hround:tY w gb gs gm l c (eJ fn0 tm asg bdy D)) :
    Calls Tryz.prog 220 #[.func (.yield l) #[] #[],vP b1 0,vP b2 0] w (fun e W=>e = .returned (.tuple #[])∧∃ s A cp,JR w gb gs gm l c (eJ fn0 tm asg bdy D) (aX dr C0.l.length 0 C0 []).1 s (aX dr C0.l.length 0 C0 []).2 A cp W):=by
 have hlen:=hC.len
 refine en 25 Tryz.func220 rfl<|bk<|je (fun x=>[(0,.func (.yield l) #[] #[]),(1,vP b1 0),(2,vP b2 0)]) (fun(x:Nat × ap × Int × List dl × Option Addr × Nat) w'=>aI [gb,gs,gm,l] w w'∧aj w' gb x.2.1∧w'.heap[gs]? = some (.cells #[vI x.2.2.1] 3 (0,0))∧w'.heap[gm]? = some (.cells (i7 c (.slice x.2.2.2.2.1 x.2.2.2.1.length x.2.2.2.2.2)) 45 (0,0))∧w'.heap[l]? = some (.loop (eJ fn0 tm asg bdy D))∧aZ w.heap.size 98 4 (bH true) w' (.slice x.2.2.2.2.1 x.2.2.2.1.length x.2.2.2.2.2) x.2.2.2.1∧(aX dr x.1 x.2.2.1 x.2.1 x.2.2.2.1=aX dr C0.l.length 0 C0 [])∧(x.2.1.l.length≤x.1)∧(0≤x.2.2.1∧x.2.2.1≤131074*(x.2.2.2.1.length:Int))∧(x.2.2.2.1.length+x.1≤C0.l.length)) (fun x=>x.1) (C0.l.length,C0,0,[],none,0) ⟨aI.refl _ _,hC,hS,hm,hl,aZ.nil ..,rfl,(Nat.le_refl _),(by(try dsimp only);omega),(by(try dsimp only);(try simp only[List.length_nil]);omega)⟩ ?_
 rintro⟨n,C,s,L,A,cp⟩ g ⟨k,I,J,M,N,O,P,Q,R,S⟩
 refine gi [(0,.func (.yield l) #[] #[]),(1,vP b1 0),(2,vP b2 0)] ?_
 have b:aj g gb C:=I
 have p:g.heap[gs]? = some (.cells #[vI s] 3 (0,0)):=J
 have q:g.heap[gm]? = some (.cells (i7 c (.slice A L.length cp)) 45 (0,0)):=M
 have t:g.heap[l]? = some (.loop (eJ fn0 tm asg bdy D)):=N
 have h:aZ w.heap.size 98 4 (bH true) g (.slice A L.length cp) L:=O
 have ac:aX dr n s C L=aX dr C0.l.length 0 C0 []:=P
 have ad:C.l.length≤n:=Q
 have ae:0≤s∧s≤131074*(L.length:Int):=R
 have af:L.length+n≤C0.l.length:=S
 have hrec:aX dr n s C L=aX dr C0.l.length 0 C0 []:=by assumption
 refine sq<|sg<|?_
 have m:=aI.blk k (aa m1 (aa m2 (aa m3 (aa m4 aE)))) hb1
 refine aC m 0<|ay<|mq (eO b)<|?_
 have ah:=aj.len b
 refine Pl 2<|cu 4 [8] 12 (((decide (0<(C.l.length:Int)))&&(C.e==0))) (fun K B=>?_) ?_
 refine bl 8 ((decide (0<(C.l.length:Int)))) (fun i=>?_) (fun i=>?_)
 have T:=of_decide_eq_true i
 refine L1<|dQ m 0<|L1<|Oc<|mq (cT b)<|?_
 have ai:=aj.len b
 exact Pl 2<|ce B (C.e==0) (by rw[i];rfl)
 have T:=of_decide_eq_false i
 exact Pl 4<|ce B false (by rw[i];rfl)
 refine nt<|cb (((decide (0<(C.l.length:Int)))&&(C.e==0))) (fun d=>?_) (fun d=>?_)
 have v:=(b7 d).1
 have y:=(b7 d).2
 have ak:=of_decide_eq_true v
 have al:=ag y
 refine bu<|bk<|sg<|?_
 refine aC (aI.blk k (aa k1 (aa k2 (aa k3 (aa k4 aE)))) hb2) 0<|aC m 0<|L0<|i8 #[] #[] (args:=#[vP gb 0])<|Cq (AS b) fun E F am U V X Y Z a0=>?_
 obtain⟨an,ao⟩:=V
 obtain⟨aq,ar⟩:=X
 obtain⟨aw,ax⟩:=Y
 refine aK #[vW 0,vW 0,vW 0,nS] fun az aB a1 a2 a3=>aG a2 #[vW ((kg C).file),vW ((kg C).record),vW ((kg C).count),.slice E ((kg C).words.length) F] fun a4 a5 a6=>nt<|sq<|Er 9<|?_
 have z:=ud a3 a6 a1
 have a:=aJ a0 z
 refine F0<|dQ (bj a m1 m) 0<|?_
 have o:=aj.old Z z
 refine F0<|Oc<|mq (cT o)<|?_
 have aD:=aj.len o
 refine Fp<|Fp<|?_
 have G:=u1 k a im
 refine Ev 19 ((((jX C).e)!=0)) (fun j=>?_) (fun j=>?_)
 have a7:=aA j
 refine Fp<|Fp<|Fp<|Fp<|Fp<|xC<|tn<|c1<|rt<|br<|tr<|br<|rr (.tuple #[])<|?_
 have hfin:aX dr C0.l.length 0 C0 []=((jX C),L):=by
   rw[← hrec]
   rw[show n=(n-1)+1 from by omega]
   simp only[aX,dr,d,v,y,j,bi,reduceIte]
 refine⟨rfl,s,A,cp,?_⟩
 rw[hfin]
 exact⟨G,o,(bj a (Ne.symm n1) p),(bj a (Ne.symm n2) q),(au h a (fun x hx=>(aa (fun e=>(aO (aj.lt hC) lr h) (e▸hx)) aE)) (bH.upd16 a (av (aj.safe b _ (by decide)) aM))),(bj a (Ne.symm n3) t)⟩
 have a7:=aF j
 refine Fp<|F0<|cm a5<|?_
 have H:=bj a (Ne.symm n3) t
 have a8:JR w gb gs gm l c (eJ fn0 tm asg bdy D) (jX C) s L A cp a4:=⟨G,o,(bj a (Ne.symm n1) p),(bj a (Ne.symm n2) q),(au h a (fun x hx=>(aa (fun e=>(aO (aj.lt hC) lr h) (e▸hx)) aE)) (bH.upd16 a (av (aj.safe b _ (by decide)) aM))),H⟩
 refine Fy (r:=eJ fn0 tm asg bdy D) (.agg #[vW ((kg C).file),vW ((kg C).record),vW ((kg C).count),.slice E ((kg C).words.length) F]) 53 H rfl<|?_
 refine RoundIn.mono (hround _ _ _ _ _ _ (kg C) _ _ a8 (eF.upd' U z aM) (cM (by omega)) (cM (by omega)) (cM (by omega)) (by omega)) ?_
 rintro _ aH ⟨rfl,aL,a9,ab,f⟩
 refine⟨_,rfl,?_⟩
 exact Fp<|Fp<|xC<|tn<|c0<|sk<|bn<|gK ((n-1),(jX C),s,(L++[(kg C)]),a9,ab) ⟨f.u,f.hC,f.hS,f.hm,f.hl,f.ho,(by(try dsimp only);rw[← hrec,show n=(n-1)+1 from by omega];simp only[aX,dr,d,v,y,j,bi,Nat.add_sub_cancel,reduceIte]),(by(try dsimp only);have hd:=mr s C (by omega);have jO:(dr s C).2.1.l.length=(jX C).l.length:=rfl;omega),(by(try dsimp only);simp only[bM];omega),(by(try dsimp only);simp only[bM];omega)⟩ (by omega)
 refine xt<|tx<|tx<|bx<|rm (.tuple #[])<|?_
 have hfin:aX dr C0.l.length 0 C0 []=(C,L):=by
   rw[← hrec]
   exact iJ _ _ _ _ _ (by simp only[d,bi])
 refine⟨rfl,s,A,cp,?_⟩
 rw[hfin]
 exact⟨k,b,p,q,h,t⟩
open Go.RowKit
def iS (n:Int) : Bool:=(decide (7≤n)&&decide (n≤245))&&n%7==0
def iF (n:Int) : Bool:=decide (4≤n)&&decide (n≤245)
def jj (n:Int) : Bool:=decide (9≤n)&&decide (n≤251)
def l7 (may:Int→Bool)(C:ap) : ap:=(C.bytesC 1).need (may C.byteV) 5
def wq (may:Int→Bool)(C:ap) : ap:=⟨(l7 may C).bytesR C.byteV,false,0⟩
def oe (one:Int→ap→Int × ap × dl)(may:Int→Bool)(C:ap) : ap × List dl:=aX one (wq may C).l.length 0 (wq may C) []
def bB (e:Int) : Int:=if e==2 then 5 else e
def dm (one:Int→ap→Int × ap × dl)(may:Int→Bool)(c:Int)(C:ap) : ap × aS :=
  (((l7 may C).bytesC C.byteV).need ((oe one may C).1.e==0) (bB (oe one may C).1.e),{ aS.zero with code:=c,recs:=(oe one may C).2 })
def bg (dir c:Int)(C:ap) : Option (ap × aS) :=
  if c==20 then (if dir==0 then some (dm dj iS c C) else some (dm bQ iF c C)) else if c==21 then some (dm dr jj c C) else none
theorem zu:((20:Int)==20)=true:=rfl
theorem xO:((21:Int)==20)=false:=rfl
theorem zd:((21:Int)==21)=true:=rfl
theorem rP{m:Md}{A:Option Addr}{cp:Nat}{b:List Int}{w:World}{dir:Int}(hd:dir=0∨dir=1)(hsl:aV m w (.slice A b.length cp) b)(hb:b.length≤1048576) :
    Calls Tryz.prog 102 #[vI 0,vB 20,.slice A b.length cp] w (eN (ak bg 0 20 b) w):=by
 have hln:(b.length:Int)≤1048576:=by omega
 have cA:((dir != 0)&&(dir != 1))=false:=by rcases hd with rfl | rfl<;>rfl
 refine Dn 77 Tryz.func102 rfl<|sg<|aK mZ fun b3 cB b4 P Y=>ah 1<|sq<|aB 6<|c0<|bu<|aq 2<|ay (args:=#[vI 0,vB 20])<|e3 Ba fun E cC a7 B H=>Pl 3<|aK #[.nilFunc,.nilFunc] fun cD cE c7 b5 t=>aG b5 #[.func (.func 215) #[] #[],.func (.func 213) #[] #[vP E 0]] fun cF c8 r=>ah 1<|sq<|sq<|go<|ah 2<|c0<|bu<|aq 1<|?_
 have Z:=ud t r c7
 have a8:=aJ H Z
 have b7:=aJ Y a8
 refine ay<|e3 (er (aV.old hsl b7) (by omega)) fun a9 cG I J q=>Pl 1<|aL 1<|ay<|m3 (bX J) fun cH c9 k cI=>bp ((ap.mk b false 0).byteV)<|Pl 1<|aL 2<|?_
 have ad:=ud q k I
 have b8:=ub ad c8
 refine aC b8 0<|Pl 1<|L0<|i8 #[] #[] (args:=#[vI ((ap.mk b false 0).byteV)])<|m1 (ta (n:=(ap.mk b false 0).byteV) (by omega)) fun cJ g=>?_
 refine ay<|m2 (bq ((iS ((ap.mk b false 0).byteV))) 5 (aj.old c9 g)) fun cL ca h=>?_
 refine ab ca fun x49 ba bb=>?_
 refine aL 2<|ay<|vD (cK (n:=(ap.mk b false 0).byteV) bb) fun cN cO cQ cc cR cS cd i=>?_
 have cU:=Nat.le_trans (ap.bytesR_le x49 ((ap.mk b false 0).byteV)) (aj.len bb)
 refine ab cd fun x58 bc ce=>?_
 refine ay<|e3 (er cc (by omega)) fun Q cV ae F o=>Pl 1<|aL 2<|aK mZ fun D cW K M p=>aG M (mC 20) fun cY cf d=>nt<|sq<|aq 2<|?_
 have a0:=ud p d K
 have bd:=aJ o a0
 have be:=uz g (u1 h (aJ i bd) im)
 refine aC (bj be (nb (az b5) r.size I) b8) 1<|ay<|Cq (mP (gb:=Q) (f:=.func 213) (x:=#[]) (y:=#[vP E 0])) fun cg ch cZ af ag d0 bf bh j=>nt<|bk<|tI (f:=220) #[vP cg 0,vP ch 0] fun a ha=>?_
 intro d1 d2 S d3 v G bl ai N O
 have bm:=nb (aj.lt F) lr K
 have a1:=nb (aj.lt F) (le (le p.size d.size) j.size) G
 have bo:=nb (az B) (le (le (le (le (le (le (le t.size r.size) q.size) k.size) g.size) h.size) i.size) o.size) K
 have br:=nb (az B) (le (le (le (le (le (le (le (le (le (le t.size r.size) q.size) k.size) g.size) h.size) i.size) o.size) p.size) d.size) j.size) G
 have T:=nb (az M) (le d.size j.size) G
 have a2:=aJ j O
 have bs:=aj.old F (aJ a0 a2)
 have bt:=ud ad (aJ be a2) I
 have bv:=ub (aJ Z bt) B
 have al:=ub a2 cf
 refine(CG (c:=20) bs bv al N (ub O bf) (ub O bh) (Ne.symm (nb (az B) (le (le (le (le (le (le t.size r.size) q.size) k.size) g.size) h.size) i.size) ae)) bm a1 bo br T (Ne.symm (nb (aj.lt F) a0.size af)) (Ne.symm (nb (az B) (le (le (le (le (le (le (le (le (le t.size r.size) q.size) k.size) g.size) h.size) i.size) o.size) p.size) d.size) af)) (Ne.symm (nb (az M) d.size af)) (nb (az bf) lr G) (Ne.symm (nb (aj.lt F) a0.size ag)) (Ne.symm (nb (az B) (le (le (le (le (le (le (le (le (le t.size r.size) q.size) k.size) g.size) h.size) i.size) o.size) p.size) d.size) ag)) (Ne.symm (nb (az M) d.size ag)) (nb (az bh) lr G) ?_).mono ?_
 intro W C s L Ar cr x Ax cx hJ hrd hx1 hx2 hx3 hL
 simp only[eR] at hx1 hx2 hx3
 have hm2:W.heap[D]? = some (.cells #[vB 20,vB 0,vW 0,vW 0,vW 0,vW 0,vW 0,vW 0,vW 0,vW 0,vW 0,vW 0,nS,nS,nS,.slice Ar L.length cr,vB 0,vB 0,vB 0,vB 0,vB 0,nS] 45 (0,0)):=hJ.hm
 refine n0 hJ.hl ?_
 refine Ee ha 53<|Dq<|oH<|Eb #[vW 0,vW 0,vW 0,nS] fun d4 d5 bw ci bx=>oH<|mb ci #[vW x.file,vW x.record,vW x.count,.slice Ax x.words.length cx] fun d7 cj bz=>xC<|?_
 have bD:=ud bx bz bw
 refine EA (ub bD hJ.hl) (by trivial) fun d8 ck an=>Ef<|Dq<|Dl<|?_
 have bE:=uz bD an
 have bF:=bj bE T hm2
 refine oH<|dQ bF 15<|?_
 refine oH<|cm (bj an (Ne.symm (nb (az N) hJ.u.size bw)) cj)<|oH<|cX (m:=1) (e:=98) #[vW x.file,vW x.record,vW x.count,.slice Ax x.words.length cx] fun d9 da db cl ao=>?_
 have U:=aJ bE ao
 have cn:=ma (R:=bH true) (x:=(dl.mk x.file x.record x.count x.words)) cl rfl ⟨_,rfl,(eF.updl hrd U hJ.hl rfl),cM (by omega),cM (by omega),cM (by omega)⟩
 have ar:=au hJ.ho U (fun x hx=>(aa (fun e=>(aO (az N) lr hJ.ho) (e▸hx)) aE)) (bH.updl U hJ.hl rfl)
 refine oH<|j7 (xs:=L) (ys:=([(dl.mk x.file x.record x.count x.words)])) (.agg #[vW 0,vW 0,vW 0,nS]) 4 32 ar cn (by simp) bH.ones (fun w' hv=>bH.upd16 hv (d6 (dP _ ar (by decide)) aM)) (by(try simp only[bM,ax]);omega) (le (le (le (le hJ.u.size bx.size) bz.size) an.size) ao.size) fun bG bI dc aw aH=>Dl<|?_
 have bJ:=ut (aI.mono (S':=(ob Ar++[])) ao aD) aH (am il aD)
 have aN:=aI.blk bJ (bA (aO (az al) lr hJ.ho) aE) bF
 refine oH<|bY aN 15 (mG 20 0 0 0 0 0 0 0 0 0 0 0 nS nS nS (.slice bG ((L++[(dl.mk x.file x.record x.count x.words)]).length) bI) 0 0 0 0 0 nS) fun dd co V=>xC<|bn<|?_
 have aP:=aI.blk (u1 (aI.mono (S':=(ob Ar++(D :: []))) bJ (am il aD)) V im) (bA (aO (az N) lr hJ.ho) (aa (Ne.symm T) aE)) ck
 refine EG aP fun de cq X=>?_
 have aQ:=ut (aI.mono (S':=(S :: (ob Ar++(D :: [])))) U (ac im aD)) (ut (aI.mono (S':=(ob Ar++(D :: (S :: [])))) aH (am il aD)) (us V X) (ac im (ac im aD))) (am il (ac im (ac im aD)))
 exact⟨by trivial,aQ.size,bG,bI,⟨(ut hJ.u aQ (ac im (am (aU hJ.ho lr) (ac im aD)))),(aj.updl (aj.upd (aj.upd (aj.updl hJ.hC U (aa a1 aE) hJ.hl rfl) aH (bA (aO (aj.lt bs) lr hJ.ho) aE) (d6 (dP _ ar (by decide)) aM)) V (aa bm aE) (av (b9 aN (by decide)) aM)) X (aa a1 aE) aP rfl),(aI.blk aQ (aa br (bA (aO (az bv) lr hJ.ho) (aa bo aE))) hJ.hS),(bj X T co),(au (au aw V (fun x hx=>(aa (fun e=>(aO (az al) lr aw) (e▸hx)) aE)) (bH.upd16 V (av (b9 aN (by decide)) aM))) X (fun x hx=>(aa (fun e=>(aO (az N) lr aw) (e▸hx)) aE)) (bH.updl X aP rfl)),cq⟩⟩
 rintro _ cs ⟨rfl,df,bK,bL,z⟩
 refine⟨_,_,rfl,z.hl,by simp[eJ],by trivial,fun dg bN=>?_⟩
 refine ab z.hC fun aR bO ct=>?_
 have cu:cs.heap[D]? = some (.cells #[vB 20,vB 0,vW 0,vW 0,vW 0,vW 0,vW 0,vW 0,vW 0,vW 0,vW 0,vW 0,nS,nS,nS,.slice bK ((aX dj (ap.mk (x49.bytesR ((ap.mk b false 0).byteV)) false 0).l.length 0 (ap.mk (x49.bytesR ((ap.mk b false 0).byteV)) false 0) []).2.length) bL,vB 0,vB 0,vB 0,vB 0,vB 0,nS] 45 (0,0)):=z.hm
 refine bn<|tn<|aq 2<|?_
 have a3:=aj.updl ct bN (aa a1 aE) z.hl rfl
 refine ay<|mq (cT a3)<|?_
 have dh:=aj.len a3
 refine Pl 2<|ay<|mq (cT a3)<|?_
 have di:=aj.len a3
 refine ay<|m1 (jZ (e:=aR.e)) fun dn cv=>?_
 have a4:=aJ bN cv
 have bP:=u1 z.u a4 im
 have bQ:=ud ad (uz g (u1 h i im)) I
 have bR:=aj.upd ce (ut (aI.mono (S':=[E]) bd aD) (ut (aI.mono (S':=[Q,E,D]) a2 aD) bP (ac im (ac im (ac im (ac (ni j.size G) aD))))) (ac (nr ae) (ac im (ac (ni o.size K) aD)))) (aa (Ne.symm (nb (az B) Z.size I)) aE) (av (b9 (ub (aJ Z bQ) B) (by decide)) aM)
 refine ay<|m2 (bq ((aR.e==0)) (bB aR.e) bR) fun dp cw aW=>?_
 refine ab cw fun bS bT bU=>?_
 refine aL 1<|ay<|m2 (fk bU) fun dq bV aY=>nt<|sq<|aq 1<|ay<|mq (cT bV)<|?_
 have dr:=aj.len bV
 refine Pl 1<|dk 2<|?_
 have bW:=u1 aW aY im
 have aZ:=u1 (aI.mono (S':=[Q,E,D,S,a9]) bP (ac im (ac im (ac im (ac im aD))))) bW im
 have b0:=ut (aI.mono (S':=[E]) bt aD) aZ (ac (ni bQ.size ae) (ac im (ac (ni (le (le (le (le (le q.size k.size) g.size) h.size) i.size) o.size) K) (ac (ni (le (le (le (le (le (le (le (le q.size k.size) g.size) h.size) i.size) o.size) p.size) d.size) j.size) G) (ac (nr I) aD)))))
 have bZ:=ud b7 b0 (le Y.size a7)
 have hs:ak bg 0 20 b=bC (aS.mk 20 0 0 0 0 0 0 0 0 0 0 0 [] [] [] (aX dj (ap.mk ((((ap.mk b false 0).bytesC 1).need (iS ((ap.mk b false 0).byteV)) 5).bytesR ((ap.mk b false 0).byteV)) false 0).l.length 0 (ap.mk ((((ap.mk b false 0).bytesC 1).need (iS ((ap.mk b false 0).byteV)) 5).bytesR ((ap.mk b false 0).byteV)) false 0) []).2 0 0 0 0 0 []) (((((ap.mk b false 0).bytesC 1).need (iS ((ap.mk b false 0).byteV)) 5).bytesC ((ap.mk b false 0).byteV)).need (((aX dj (ap.mk ((((ap.mk b false 0).bytesC 1).need (iS ((ap.mk b false 0).byteV)) 5).bytesR ((ap.mk b false 0).byteV)) false 0).l.length 0 (ap.mk ((((ap.mk b false 0).bytesC 1).need (iS ((ap.mk b false 0).byteV)) 5).bytesR ((ap.mk b false 0).byteV)) false 0) []).1).e==0) (bB ((aX dj (ap.mk ((((ap.mk b false 0).bytesC 1).need (iS ((ap.mk b false 0).byteV)) 5).bytesR ((ap.mk b false 0).byteV)) false 0).l.length 0 (ap.mk ((((ap.mk b false 0).bytesC 1).need (iS ((ap.mk b false 0).byteV)) 5).bytesR ((ap.mk b false 0).byteV)) false 0) []).1).e)):=by
   unfold ak bg dm oe wq l7
   (try simp only[bi,ea,ed,e9,eb,ec,reduceIte,zu,xO,zd])
   all_goals rfl
 refine cb ((bS.endC.e != 0)) (fun b1=>?_) (fun b1=>?_)
 have b2:=aA b1
 refine aq 2<|?_
 refine aG (ub (ud a8 b0 a7) P) mZ fun ds cy c1=>ah 1<|b6<|?_
 have c2:=nb (az P) (le (le (le (le (le (le (le (le (le (le (le H.size t.size) r.size) q.size) k.size) g.size) h.size) i.size) o.size) p.size) d.size) j.size) v
 refine Do (aI.blk (u1 (aI.mono (S':=[Q,E,D,S,a9,b3]) aZ (ac im (ac im (ac im (ac im (ac im aD)))))) c1 im) (aa (Ne.symm (nb (aj.lt F) (le (le p.size d.size) j.size) v)) (aa (Ne.symm (nb (az B) (le (le (le (le (le (le (le (le (le (le t.size r.size) q.size) k.size) g.size) h.size) i.size) o.size) p.size) d.size) j.size) v)) (aa (Ne.symm (nb (az M) (le d.size j.size) v)) (aa bl (aa (Ne.symm (nb (aj.lt J) (le (le (le (le (le (le (le k.size g.size) h.size) i.size) o.size) p.size) d.size) j.size) v)) (aa (Ne.symm c2) aE)))))) ai) fun dt c3=>?_
 refine rx (bj c3 c2 cy) (vI bS.endC.e)<|?_
 subst bT bO bc ba
 rw[hs]
 exact dL b2 (ut bZ (us c1 c3) (ac (nr b4) (ac (ni (le (le (le (le (le (le (le (le (le (le (le (le Y.size H.size) t.size) r.size) q.size) k.size) g.size) h.size) i.size) o.size) p.size) d.size) j.size) v) aD)))
 have b2:=aF b1
 refine bu<|sg<|?_
 refine L0<|cm (aI.blk (us a4 bW) (aa T (aa (Ne.symm (nb (aj.lt J) (le (le (le (le k.size g.size) h.size) i.size) o.size) K)) aE)) cu)<|?_
 have c4:=ub (ud a8 b0 a7) P
 refine aG c4 (mG 20 0 0 0 0 0 0 0 0 0 0 0 nS nS nS (.slice bK ((aX dj (ap.mk (x49.bytesR ((ap.mk b false 0).byteV)) false 0).l.length 0 (ap.mk (x49.bytesR ((ap.mk b false 0).byteV)) false 0) []).2.length) bL) 0 0 0 0 0 nS) fun du cz a5=>ah 1<|rt<|?_
 have c5:=nb (az P) (le (le (le (le (le (le (le (le (le (le (le H.size t.size) r.size) q.size) k.size) g.size) h.size) i.size) o.size) p.size) d.size) j.size) v
 have c6:=aI.blk (u1 (aI.mono (S':=[Q,E,D,S,a9,b3]) aZ (ac im (ac im (ac im (ac im (ac im aD)))))) a5 im) (aa (Ne.symm (nb (aj.lt F) (le (le p.size d.size) j.size) v)) (aa (Ne.symm (nb (az B) (le (le (le (le (le (le (le (le (le (le t.size r.size) q.size) k.size) g.size) h.size) i.size) o.size) p.size) d.size) j.size) v)) (aa (Ne.symm (nb (az M) (le d.size j.size) v)) (aa bl (aa (Ne.symm (nb (aj.lt J) (le (le (le (le (le (le (le k.size g.size) h.size) i.size) o.size) p.size) d.size) j.size) v)) (aa (Ne.symm c5) aE)))))) ai
 refine Do c6 fun dv a6=>?_
 refine rx (bj a6 c5 cz) (vI 0)<|?_
 subst bT bO bc ba
 rw[hs]
 exact el b2 ⟨_,_,_,_,_,rfl,aT.nil ..,aT.nil ..,aT.nil ..,((au (au (au (au (au z.ho a4 (fun x hx=>(aa (fun e=>(aO (az N) lr z.ho) (e▸hx)) aE)) (bH.updl a4 z.hl rfl)) aW (fun x hx=>(aa (fun e=>(aO (aj.lt J) (le (le (le (le (le (le (le (le k.size g.size) h.size) i.size) o.size) p.size) d.size) j.size) O.size) z.ho) (e▸hx)) aE)) (bH.upd16 aW (av (aj.safe bR _ (by decide)) aM))) aY (fun x hx=>(aa (fun e=>(aO (aj.lt J) (le (le (le (le (le (le (le (le k.size g.size) h.size) i.size) o.size) p.size) d.size) j.size) O.size) z.ho) (e▸hx)) aE)) (bH.upd16 aY (av (aj.safe bU _ (by decide)) aM))) a5 (fun x hx=>(aa (fun e=>(aO (az P) (le (le (le (le (le (le (le (le (le (le (le (le H.size t.size) r.size) q.size) k.size) g.size) h.size) i.size) o.size) p.size) d.size) j.size) O.size) z.ho) (e▸hx)) aE)) (bH.upd16 a5 (av (b9 c4 (by decide)) aM))) a6 (fun x hx=>(aa (fun e=>(aO (az ai) lr z.ho) (e▸hx)) aE)) (bH.updl a6 c6 rfl))).rd,aT.nil ..,(cP (by omega))⟩ (ut bZ (us a5 a6) (ac (nr b4) (ac (ni (le (le (le (le (le (le (le (le (le (le (le (le Y.size H.size) t.size) r.size) q.size) k.size) g.size) h.size) i.size) o.size) p.size) d.size) j.size) v) aD)))
theorem rA{m:Md}{A:Option Addr}{cp:Nat}{b:List Int}{w:World}{dir:Int}(hd:dir=0∨dir=1)(hsl:aV m w (.slice A b.length cp) b)(hb:b.length≤1048576) :
    Calls Tryz.prog 102 #[vI 1,vB 20,.slice A b.length cp] w (eN (ak bg 1 20 b) w):=by
 have hln:(b.length:Int)≤1048576:=by omega
 have cB:((dir != 0)&&(dir != 1))=false:=by rcases hd with rfl | rfl<;>rfl
 refine Dn 77 Tryz.func102 rfl<|sg<|aK mZ fun b3 cC b4 P Y=>ah 1<|sq<|aB 6<|c0<|bu<|aq 2<|ay (args:=#[vI 1,vB 20])<|e3 C5 fun G cD a7 B H=>Pl 3<|aK #[.nilFunc,.nilFunc] fun cE cF c8 b5 t=>aG b5 #[.func (.func 216) #[] #[],.func (.func 217) #[] #[]] fun cG c9 r=>ah 1<|sq<|sq<|go<|ah 2<|c0<|bu<|aq 1<|?_
 have Z:=ud t r c8
 have a8:=aJ H Z
 have b7:=aJ Y a8
 refine ay<|e3 (er (aV.old hsl b7) (by omega)) fun a9 cH I J q=>Pl 1<|aL 1<|ay<|m3 (bX J) fun cI ca k cJ=>bp ((ap.mk b false 0).byteV)<|Pl 1<|aL 2<|?_
 have ad:=ud q k I
 have b8:=ub ad c9
 refine aC b8 0<|Pl 1<|L0<|i8 #[] #[] (args:=#[vI ((ap.mk b false 0).byteV)])<|m1 (uq (n:=(ap.mk b false 0).byteV) (by omega)) fun cL g=>?_
 refine ay<|m2 (bq ((iF ((ap.mk b false 0).byteV))) 5 (aj.old ca g)) fun cN cc h=>?_
 refine ab cc fun x49 ba bb=>?_
 refine aL 2<|ay<|vD (cK (n:=(ap.mk b false 0).byteV) bb) fun cO cQ cR cd cS cU ce i=>?_
 have cV:=Nat.le_trans (ap.bytesR_le x49 ((ap.mk b false 0).byteV)) (aj.len bb)
 refine ab ce fun x58 bc cf=>?_
 refine ay<|e3 (er cd (by omega)) fun Q cW ae E o=>Pl 1<|aL 2<|aK mZ fun D cY K M p=>aG M (mC 20) fun cZ cg d=>nt<|sq<|aq 2<|?_
 have a0:=ud p d K
 have bd:=aJ o a0
 have be:=uz g (u1 h (aJ i bd) im)
 refine aC (bj be (nb (az b5) r.size I) b8) 1<|ay<|Cq (mP (gb:=Q) (f:=.func 217) (x:=#[]) (y:=#[])) fun ch ci d0 af ag d1 bf bh j=>nt<|bk<|tI (f:=220) #[vP ch 0,vP ci 0] fun a ha=>?_
 intro d2 d3 S d4 v F bl ai N O
 have bm:=nb (aj.lt E) lr K
 have a1:=nb (aj.lt E) (le (le p.size d.size) j.size) F
 have bo:=nb (az B) (le (le (le (le (le (le (le t.size r.size) q.size) k.size) g.size) h.size) i.size) o.size) K
 have br:=nb (az B) (le (le (le (le (le (le (le (le (le (le t.size r.size) q.size) k.size) g.size) h.size) i.size) o.size) p.size) d.size) j.size) F
 have T:=nb (az M) (le d.size j.size) F
 have a2:=aJ j O
 have bs:=aj.old E (aJ a0 a2)
 have bt:=ud ad (aJ be a2) I
 have bv:=ub (aJ Z bt) B
 have al:=ub a2 cg
 refine(Cn (c:=20) bs bv al N (ub O bf) (ub O bh) (Ne.symm (nb (az B) (le (le (le (le (le (le t.size r.size) q.size) k.size) g.size) h.size) i.size) ae)) bm a1 bo br T (Ne.symm (nb (aj.lt E) a0.size af)) (Ne.symm (nb (az B) (le (le (le (le (le (le (le (le (le t.size r.size) q.size) k.size) g.size) h.size) i.size) o.size) p.size) d.size) af)) (Ne.symm (nb (az M) d.size af)) (nb (az bf) lr F) (Ne.symm (nb (aj.lt E) a0.size ag)) (Ne.symm (nb (az B) (le (le (le (le (le (le (le (le (le t.size r.size) q.size) k.size) g.size) h.size) i.size) o.size) p.size) d.size) ag)) (Ne.symm (nb (az M) d.size ag)) (nb (az bh) lr F) ?_).mono ?_
 intro W C s L Ar cr x Ax cx hJ hrd hx1 hx2 hx3 hL
 simp only[eR] at hx1 hx2 hx3
 have hm2:W.heap[D]? = some (.cells #[vB 20,vB 0,vW 0,vW 0,vW 0,vW 0,vW 0,vW 0,vW 0,vW 0,vW 0,vW 0,nS,nS,nS,.slice Ar L.length cr,vB 0,vB 0,vB 0,vB 0,vB 0,nS] 45 (0,0)):=hJ.hm
 refine n0 hJ.hl ?_
 refine Ee ha 53<|Dq<|oH<|Eb #[vW 0,vW 0,vW 0,nS] fun d5 d7 bw cj bx=>oH<|mb cj #[vW x.file,vW x.record,vW x.count,.slice Ax x.words.length cx] fun d8 ck bz=>xC<|?_
 have bD:=ud bx bz bw
 refine EA (ub bD hJ.hl) (by trivial) fun d9 cl an=>Ef<|Dq<|Dl<|?_
 have bE:=uz bD an
 have bF:=bj bE T hm2
 refine oH<|dQ bF 15<|?_
 refine oH<|cm (bj an (Ne.symm (nb (az N) hJ.u.size bw)) ck)<|oH<|cX (m:=1) (e:=98) #[vW x.file,vW x.record,vW x.count,.slice Ax x.words.length cx] fun da db dc cn ao=>?_
 have U:=aJ bE ao
 have co:=ma (R:=bH true) (x:=(dl.mk x.file x.record x.count x.words)) cn rfl ⟨_,rfl,(eF.updl hrd U hJ.hl rfl),cM (by omega),cM (by omega),cM (by omega)⟩
 have ar:=au hJ.ho U (fun x hx=>(aa (fun e=>(aO (az N) lr hJ.ho) (e▸hx)) aE)) (bH.updl U hJ.hl rfl)
 refine oH<|j7 (xs:=L) (ys:=([(dl.mk x.file x.record x.count x.words)])) (.agg #[vW 0,vW 0,vW 0,nS]) 4 32 ar co (by simp) bH.ones (fun w' hv=>bH.upd16 hv (d6 (dP _ ar (by decide)) aM)) (by(try simp only[bM,ax]);omega) (le (le (le (le hJ.u.size bx.size) bz.size) an.size) ao.size) fun bG bI dd aw aH=>Dl<|?_
 have bJ:=ut (aI.mono (S':=(ob Ar++[])) ao aD) aH (am il aD)
 have aN:=aI.blk bJ (bA (aO (az al) lr hJ.ho) aE) bF
 refine oH<|bY aN 15 (mG 20 0 0 0 0 0 0 0 0 0 0 0 nS nS nS (.slice bG ((L++[(dl.mk x.file x.record x.count x.words)]).length) bI) 0 0 0 0 0 nS) fun de cq V=>xC<|bn<|?_
 have aP:=aI.blk (u1 (aI.mono (S':=(ob Ar++(D :: []))) bJ (am il aD)) V im) (bA (aO (az N) lr hJ.ho) (aa (Ne.symm T) aE)) cl
 refine EG aP fun df cs X=>?_
 have aQ:=ut (aI.mono (S':=(S :: (ob Ar++(D :: [])))) U (ac im aD)) (ut (aI.mono (S':=(ob Ar++(D :: (S :: [])))) aH (am il aD)) (us V X) (ac im (ac im aD))) (am il (ac im (ac im aD)))
 exact⟨by trivial,aQ.size,bG,bI,⟨(ut hJ.u aQ (ac im (am (aU hJ.ho lr) (ac im aD)))),(aj.updl (aj.upd (aj.upd (aj.updl hJ.hC U (aa a1 aE) hJ.hl rfl) aH (bA (aO (aj.lt bs) lr hJ.ho) aE) (d6 (dP _ ar (by decide)) aM)) V (aa bm aE) (av (b9 aN (by decide)) aM)) X (aa a1 aE) aP rfl),(aI.blk aQ (aa br (bA (aO (az bv) lr hJ.ho) (aa bo aE))) hJ.hS),(bj X T cq),(au (au aw V (fun x hx=>(aa (fun e=>(aO (az al) lr aw) (e▸hx)) aE)) (bH.upd16 V (av (b9 aN (by decide)) aM))) X (fun x hx=>(aa (fun e=>(aO (az N) lr aw) (e▸hx)) aE)) (bH.updl X aP rfl)),cs⟩⟩
 rintro _ ct ⟨rfl,dg,bK,bL,z⟩
 refine⟨_,_,rfl,z.hl,by simp[eJ],by trivial,fun dh bN=>?_⟩
 refine ab z.hC fun aR bO cu=>?_
 have cv:ct.heap[D]? = some (.cells #[vB 20,vB 0,vW 0,vW 0,vW 0,vW 0,vW 0,vW 0,vW 0,vW 0,vW 0,vW 0,nS,nS,nS,.slice bK ((aX bQ (ap.mk (x49.bytesR ((ap.mk b false 0).byteV)) false 0).l.length 0 (ap.mk (x49.bytesR ((ap.mk b false 0).byteV)) false 0) []).2.length) bL,vB 0,vB 0,vB 0,vB 0,vB 0,nS] 45 (0,0)):=z.hm
 refine bn<|tn<|aq 2<|?_
 have a3:=aj.updl cu bN (aa a1 aE) z.hl rfl
 refine ay<|mq (cT a3)<|?_
 have di:=aj.len a3
 refine Pl 2<|ay<|mq (cT a3)<|?_
 have dj:=aj.len a3
 refine ay<|m1 (jZ (e:=aR.e)) fun dn cw=>?_
 have a4:=aJ bN cw
 have bP:=u1 z.u a4 im
 have bR:=ud ad (uz g (u1 h i im)) I
 have bS:=aj.upd cf (ut (aI.mono (S':=[G]) bd aD) (ut (aI.mono (S':=[Q,G,D]) a2 aD) bP (ac im (ac im (ac im (ac (ni j.size F) aD))))) (ac (nr ae) (ac im (ac (ni o.size K) aD)))) (aa (Ne.symm (nb (az B) Z.size I)) aE) (av (b9 (ub (aJ Z bR) B) (by decide)) aM)
 refine ay<|m2 (bq ((aR.e==0)) (bB aR.e) bS) fun dp cy aW=>?_
 refine ab cy fun bT bU bV=>?_
 refine aL 1<|ay<|m2 (fk bV) fun dq bW aY=>nt<|sq<|aq 1<|ay<|mq (cT bW)<|?_
 have dr:=aj.len bW
 refine Pl 1<|dk 2<|?_
 have bZ:=u1 aW aY im
 have aZ:=u1 (aI.mono (S':=[Q,G,D,S,a9]) bP (ac im (ac im (ac im (ac im aD))))) bZ im
 have b0:=ut (aI.mono (S':=[G]) bt aD) aZ (ac (ni bR.size ae) (ac im (ac (ni (le (le (le (le (le q.size k.size) g.size) h.size) i.size) o.size) K) (ac (ni (le (le (le (le (le (le (le (le q.size k.size) g.size) h.size) i.size) o.size) p.size) d.size) j.size) F) (ac (nr I) aD)))))
 have c1:=ud b7 b0 (le Y.size a7)
 have hs:ak bg 1 20 b=bC (aS.mk 20 0 0 0 0 0 0 0 0 0 0 0 [] [] [] (aX bQ (ap.mk ((((ap.mk b false 0).bytesC 1).need (iF ((ap.mk b false 0).byteV)) 5).bytesR ((ap.mk b false 0).byteV)) false 0).l.length 0 (ap.mk ((((ap.mk b false 0).bytesC 1).need (iF ((ap.mk b false 0).byteV)) 5).bytesR ((ap.mk b false 0).byteV)) false 0) []).2 0 0 0 0 0 []) (((((ap.mk b false 0).bytesC 1).need (iF ((ap.mk b false 0).byteV)) 5).bytesC ((ap.mk b false 0).byteV)).need (((aX bQ (ap.mk ((((ap.mk b false 0).bytesC 1).need (iF ((ap.mk b false 0).byteV)) 5).bytesR ((ap.mk b false 0).byteV)) false 0).l.length 0 (ap.mk ((((ap.mk b false 0).bytesC 1).need (iF ((ap.mk b false 0).byteV)) 5).bytesR ((ap.mk b false 0).byteV)) false 0) []).1).e==0) (bB ((aX bQ (ap.mk ((((ap.mk b false 0).bytesC 1).need (iF ((ap.mk b false 0).byteV)) 5).bytesR ((ap.mk b false 0).byteV)) false 0).l.length 0 (ap.mk ((((ap.mk b false 0).bytesC 1).need (iF ((ap.mk b false 0).byteV)) 5).bytesR ((ap.mk b false 0).byteV)) false 0) []).1).e)):=by
   unfold ak bg dm oe wq l7
   (try simp only[bi,ea,ed,e9,eb,ec,reduceIte,zu,xO,zd])
   all_goals rfl
 refine cb ((bT.endC.e != 0)) (fun b1=>?_) (fun b1=>?_)
 have b2:=aA b1
 refine aq 2<|?_
 refine aG (ub (ud a8 b0 a7) P) mZ fun ds cz c2=>ah 1<|b6<|?_
 have c3:=nb (az P) (le (le (le (le (le (le (le (le (le (le (le H.size t.size) r.size) q.size) k.size) g.size) h.size) i.size) o.size) p.size) d.size) j.size) v
 refine Do (aI.blk (u1 (aI.mono (S':=[Q,G,D,S,a9,b3]) aZ (ac im (ac im (ac im (ac im (ac im aD)))))) c2 im) (aa (Ne.symm (nb (aj.lt E) (le (le p.size d.size) j.size) v)) (aa (Ne.symm (nb (az B) (le (le (le (le (le (le (le (le (le (le t.size r.size) q.size) k.size) g.size) h.size) i.size) o.size) p.size) d.size) j.size) v)) (aa (Ne.symm (nb (az M) (le d.size j.size) v)) (aa bl (aa (Ne.symm (nb (aj.lt J) (le (le (le (le (le (le (le k.size g.size) h.size) i.size) o.size) p.size) d.size) j.size) v)) (aa (Ne.symm c3) aE)))))) ai) fun dt c4=>?_
 refine rx (bj c4 c3 cz) (vI bT.endC.e)<|?_
 subst bU bO bc ba
 rw[hs]
 exact dL b2 (ut c1 (us c2 c4) (ac (nr b4) (ac (ni (le (le (le (le (le (le (le (le (le (le (le (le Y.size H.size) t.size) r.size) q.size) k.size) g.size) h.size) i.size) o.size) p.size) d.size) j.size) v) aD)))
 have b2:=aF b1
 refine bu<|sg<|?_
 refine L0<|cm (aI.blk (us a4 bZ) (aa T (aa (Ne.symm (nb (aj.lt J) (le (le (le (le k.size g.size) h.size) i.size) o.size) K)) aE)) cv)<|?_
 have c5:=ub (ud a8 b0 a7) P
 refine aG c5 (mG 20 0 0 0 0 0 0 0 0 0 0 0 nS nS nS (.slice bK ((aX bQ (ap.mk (x49.bytesR ((ap.mk b false 0).byteV)) false 0).l.length 0 (ap.mk (x49.bytesR ((ap.mk b false 0).byteV)) false 0) []).2.length) bL) 0 0 0 0 0 nS) fun du cA a5=>ah 1<|rt<|?_
 have c6:=nb (az P) (le (le (le (le (le (le (le (le (le (le (le H.size t.size) r.size) q.size) k.size) g.size) h.size) i.size) o.size) p.size) d.size) j.size) v
 have c7:=aI.blk (u1 (aI.mono (S':=[Q,G,D,S,a9,b3]) aZ (ac im (ac im (ac im (ac im (ac im aD)))))) a5 im) (aa (Ne.symm (nb (aj.lt E) (le (le p.size d.size) j.size) v)) (aa (Ne.symm (nb (az B) (le (le (le (le (le (le (le (le (le (le t.size r.size) q.size) k.size) g.size) h.size) i.size) o.size) p.size) d.size) j.size) v)) (aa (Ne.symm (nb (az M) (le d.size j.size) v)) (aa bl (aa (Ne.symm (nb (aj.lt J) (le (le (le (le (le (le (le k.size g.size) h.size) i.size) o.size) p.size) d.size) j.size) v)) (aa (Ne.symm c6) aE)))))) ai
 refine Do c7 fun dv a6=>?_
 refine rx (bj a6 c6 cA) (vI 0)<|?_
 subst bU bO bc ba
 rw[hs]
 exact el b2 ⟨_,_,_,_,_,rfl,aT.nil ..,aT.nil ..,aT.nil ..,((au (au (au (au (au z.ho a4 (fun x hx=>(aa (fun e=>(aO (az N) lr z.ho) (e▸hx)) aE)) (bH.updl a4 z.hl rfl)) aW (fun x hx=>(aa (fun e=>(aO (aj.lt J) (le (le (le (le (le (le (le (le k.size g.size) h.size) i.size) o.size) p.size) d.size) j.size) O.size) z.ho) (e▸hx)) aE)) (bH.upd16 aW (av (aj.safe bS _ (by decide)) aM))) aY (fun x hx=>(aa (fun e=>(aO (aj.lt J) (le (le (le (le (le (le (le (le k.size g.size) h.size) i.size) o.size) p.size) d.size) j.size) O.size) z.ho) (e▸hx)) aE)) (bH.upd16 aY (av (aj.safe bV _ (by decide)) aM))) a5 (fun x hx=>(aa (fun e=>(aO (az P) (le (le (le (le (le (le (le (le (le (le (le (le H.size t.size) r.size) q.size) k.size) g.size) h.size) i.size) o.size) p.size) d.size) j.size) O.size) z.ho) (e▸hx)) aE)) (bH.upd16 a5 (av (b9 c5 (by decide)) aM))) a6 (fun x hx=>(aa (fun e=>(aO (az ai) lr z.ho) (e▸hx)) aE)) (bH.updl a6 c7 rfl))).rd,aT.nil ..,(cP (by omega))⟩ (ut c1 (us a5 a6) (ac (nr b4) (ac (ni (le (le (le (le (le (le (le (le (le (le (le (le Y.size H.size) t.size) r.size) q.size) k.size) g.size) h.size) i.size) o.size) p.size) d.size) j.size) v) aD)))
theorem oX{m:Md}{A:Option Addr}{cp:Nat}{b:List Int}{w:World}{dir:Int}(hd:dir=0∨dir=1)(hsl:aV m w (.slice A b.length cp) b)(hb:b.length≤1048576) :
    Calls Tryz.prog 102 #[vI dir,vB 21,.slice A b.length cp] w (eN (ak bg dir 21 b) w):=by
 have hln:(b.length:Int)≤1048576:=by omega
 have b5:((dir != 0)&&(dir != 1))=false:=by rcases hd with rfl | rfl<;>rfl
 refine Dn 77 Tryz.func102 rfl<|sg<|aK mZ fun b7 cJ b8 Q a0=>ah 1<|sq<|aq 3<|cu 3 [18] 21 (((dir != 0)&&(dir != 1))) (fun K ba=>?_) ?_
 refine bl 18 ((dir != 0)) (fun S=>?_) (fun S=>?_)
 have cd:=aA S
 exact Pl 3<|ce ba (dir != 1) (by rw[S];rfl)
 have cd:=aF S
 exact Pl 3<|ce ba false (by rw[S];rfl)
 refine nt<|cf b5<|bu<|aq 2<|ay (args:=#[vI dir,vB 21])<|e3 Bc fun G cL a9 B H=>Pl 3<|aK #[.nilFunc,.nilFunc] fun cN cO cg bb t=>aG bb #[.func (.func 218) #[] #[],.func (.func 219) #[] #[]] fun cQ ch r=>Pl 1<|nl<|tn<|sq<|aB 2<|c0<|bu<|aq 1<|?_
 have a1:=ud t r cg
 have ad:=aJ H a1
 have bc:=aJ a0 ad
 refine ay<|e3 (er (aV.old hsl bc) (by omega)) fun ae cR I J q=>Pl 1<|aL 1<|ay<|m3 (bX J) fun cS ci k cU=>bp ((ap.mk b false 0).byteV)<|Pl 1<|aL 2<|?_
 have af:=ud q k I
 have bd:=ub af ch
 refine aC bd 0<|Pl 1<|L0<|i8 #[] #[] (args:=#[vI ((ap.mk b false 0).byteV)])<|m1 (sZ (n:=(ap.mk b false 0).byteV) (by omega)) fun cV g=>?_
 refine ay<|m2 (bq ((jj ((ap.mk b false 0).byteV))) 5 (aj.old ci g)) fun cW cj h=>?_
 refine ab cj fun x51 be bf=>?_
 refine aL 2<|ay<|vD (cK (n:=(ap.mk b false 0).byteV) bf) fun cY cZ d0 ck d1 d2 cl i=>?_
 have d3:=Nat.le_trans (ap.bytesR_le x51 ((ap.mk b false 0).byteV)) (aj.len bf)
 refine ab cl fun x60 bh cn=>?_
 refine ay<|e3 (er ck (by omega)) fun T d4 ag E o=>Pl 1<|aL 2<|aK mZ fun D d5 M N p=>aG N (mC 21) fun d7 co d=>nt<|sq<|aq 2<|?_
 have a2:=ud p d M
 have bm:=aJ o a2
 have bo:=uz g (u1 h (aJ i bm) im)
 refine aC (bj bo (nb (az bb) r.size I) bd) 1<|ay<|Cq (mP (gb:=T) (f:=.func 219) (x:=#[]) (y:=#[])) fun cq cs d8 ai al d9 br bs j=>nt<|bk<|tI (f:=220) #[vP cq 0,vP cs 0] fun a ha=>?_
 intro da db U dc v F bt an O P
 have bv:=nb (aj.lt E) lr M
 have a3:=nb (aj.lt E) (le (le p.size d.size) j.size) F
 have bw:=nb (az B) (le (le (le (le (le (le (le t.size r.size) q.size) k.size) g.size) h.size) i.size) o.size) M
 have bx:=nb (az B) (le (le (le (le (le (le (le (le (le (le t.size r.size) q.size) k.size) g.size) h.size) i.size) o.size) p.size) d.size) j.size) F
 have V:=nb (az N) (le d.size j.size) F
 have a4:=aJ j P
 have bz:=aj.old E (aJ a2 a4)
 have bD:=ud af (aJ bo a4) I
 have bE:=ub (aJ a1 bD) B
 have ao:=ub a4 co
 refine(Df (c:=21) bz bE ao O (ub P br) (ub P bs) (Ne.symm (nb (az B) (le (le (le (le (le (le t.size r.size) q.size) k.size) g.size) h.size) i.size) ag)) bv a3 bw bx V (Ne.symm (nb (aj.lt E) a2.size ai)) (Ne.symm (nb (az B) (le (le (le (le (le (le (le (le (le t.size r.size) q.size) k.size) g.size) h.size) i.size) o.size) p.size) d.size) ai)) (Ne.symm (nb (az N) d.size ai)) (nb (az br) lr F) (Ne.symm (nb (aj.lt E) a2.size al)) (Ne.symm (nb (az B) (le (le (le (le (le (le (le (le (le t.size r.size) q.size) k.size) g.size) h.size) i.size) o.size) p.size) d.size) al)) (Ne.symm (nb (az N) d.size al)) (nb (az bs) lr F) ?_).mono ?_
 intro W C s L Ar cr x Ax cx hJ hrd hx1 hx2 hx3 hL
 simp only[eR] at hx1 hx2 hx3
 have hm2:W.heap[D]? = some (.cells #[vB 21,vB 0,vW 0,vW 0,vW 0,vW 0,vW 0,vW 0,vW 0,vW 0,vW 0,vW 0,nS,nS,nS,.slice Ar L.length cr,vB 0,vB 0,vB 0,vB 0,vB 0,nS] 45 (0,0)):=hJ.hm
 refine n0 hJ.hl ?_
 refine Ee ha 53<|Dq<|oH<|Eb #[vW 0,vW 0,vW 0,nS] fun dd de bF ct bG=>oH<|mb ct #[vW x.file,vW x.record,vW x.count,.slice Ax x.words.length cx] fun df cv bI=>xC<|?_
 have bJ:=ud bG bI bF
 refine EA (ub bJ hJ.hl) (by trivial) fun dg cw ar=>Ef<|Dq<|Dl<|?_
 have bK:=uz bJ ar
 have bL:=bj bK V hm2
 refine oH<|dQ bL 15<|?_
 refine oH<|cm (bj ar (Ne.symm (nb (az O) hJ.u.size bF)) cv)<|oH<|cX (m:=1) (e:=98) #[vW x.file,vW x.record,vW x.count,.slice Ax x.words.length cx] fun dh di dj cy aw=>?_
 have X:=aJ bK aw
 have cz:=ma (R:=bH true) (x:=(dl.mk x.file x.record x.count x.words)) cy rfl ⟨_,rfl,(eF.updl hrd X hJ.hl rfl),cM (by omega),cM (by omega),cM (by omega)⟩
 have aH:=au hJ.ho X (fun x hx=>(aa (fun e=>(aO (az O) lr hJ.ho) (e▸hx)) aE)) (bH.updl X hJ.hl rfl)
 refine oH<|j7 (xs:=L) (ys:=([(dl.mk x.file x.record x.count x.words)])) (.agg #[vW 0,vW 0,vW 0,nS]) 4 32 aH cz (by simp) bH.ones (fun w' hv=>bH.upd16 hv (d6 (dP _ aH (by decide)) aM)) (by(try simp only[bM,ax]);omega) (le (le (le (le hJ.u.size bG.size) bI.size) ar.size) aw.size) fun bN bO dn aN aP=>Dl<|?_
 have bP:=ut (aI.mono (S':=(ob Ar++[])) aw aD) aP (am il aD)
 have aQ:=aI.blk bP (bA (aO (az ao) lr hJ.ho) aE) bL
 refine oH<|bY aQ 15 (mG 21 0 0 0 0 0 0 0 0 0 0 0 nS nS nS (.slice bN ((L++[(dl.mk x.file x.record x.count x.words)]).length) bO) 0 0 0 0 0 nS) fun dp cA Y=>xC<|bn<|?_
 have aR:=aI.blk (u1 (aI.mono (S':=(ob Ar++(D :: []))) bP (am il aD)) Y im) (bA (aO (az O) lr hJ.ho) (aa (Ne.symm V) aE)) cw
 refine EG aR fun dq cB Z=>?_
 have aW:=ut (aI.mono (S':=(U :: (ob Ar++(D :: [])))) X (ac im aD)) (ut (aI.mono (S':=(ob Ar++(D :: (U :: [])))) aP (am il aD)) (us Y Z) (ac im (ac im aD))) (am il (ac im (ac im aD)))
 exact⟨by trivial,aW.size,bN,bO,⟨(ut hJ.u aW (ac im (am (aU hJ.ho lr) (ac im aD)))),(aj.updl (aj.upd (aj.upd (aj.updl hJ.hC X (aa a3 aE) hJ.hl rfl) aP (bA (aO (aj.lt bz) lr hJ.ho) aE) (d6 (dP _ aH (by decide)) aM)) Y (aa bv aE) (av (b9 aQ (by decide)) aM)) Z (aa a3 aE) aR rfl),(aI.blk aW (aa bx (bA (aO (az bE) lr hJ.ho) (aa bw aE))) hJ.hS),(bj Z V cA),(au (au aN Y (fun x hx=>(aa (fun e=>(aO (az ao) lr aN) (e▸hx)) aE)) (bH.upd16 Y (av (b9 aQ (by decide)) aM))) Z (fun x hx=>(aa (fun e=>(aO (az O) lr aN) (e▸hx)) aE)) (bH.updl Z aR rfl)),cB⟩⟩
 rintro _ cC ⟨rfl,ds,bQ,bR,z⟩
 refine⟨_,_,rfl,z.hl,by simp[eJ],by trivial,fun dt bS=>?_⟩
 refine ab z.hC fun aY bT cD=>?_
 have cE:cC.heap[D]? = some (.cells #[vB 21,vB 0,vW 0,vW 0,vW 0,vW 0,vW 0,vW 0,vW 0,vW 0,vW 0,vW 0,nS,nS,nS,.slice bQ ((aX dr (ap.mk (x51.bytesR ((ap.mk b false 0).byteV)) false 0).l.length 0 (ap.mk (x51.bytesR ((ap.mk b false 0).byteV)) false 0) []).2.length) bR,vB 0,vB 0,vB 0,vB 0,vB 0,nS] 45 (0,0)):=z.hm
 refine bn<|tn<|aq 2<|?_
 have a5:=aj.updl cD bS (aa a3 aE) z.hl rfl
 refine ay<|mq (cT a5)<|?_
 have du:=aj.len a5
 refine Pl 2<|ay<|mq (cT a5)<|?_
 have dv:=aj.len a5
 refine ay<|m1 (jZ (e:=aY.e)) fun dw cF=>?_
 have a6:=aJ bS cF
 have bU:=u1 z.u a6 im
 have bV:=ud af (uz g (u1 h i im)) I
 have bW:=aj.upd cn (ut (aI.mono (S':=[G]) bm aD) (ut (aI.mono (S':=[T,G,D]) a4 aD) bU (ac im (ac im (ac im (ac (ni j.size F) aD))))) (ac (nr ag) (ac im (ac (ni o.size M) aD)))) (aa (Ne.symm (nb (az B) a1.size I)) aE) (av (b9 (ub (aJ a1 bV) B) (by decide)) aM)
 refine ay<|m2 (bq ((aY.e==0)) (bB aY.e) bW) fun dx cG aZ=>?_
 refine ab cG fun bZ c1 c2=>?_
 refine aL 1<|ay<|m2 (fk c2) fun dy c3 b0=>nt<|sq<|aq 1<|ay<|mq (cT c3)<|?_
 have dz:=aj.len c3
 refine Pl 1<|dk 2<|?_
 have c4:=u1 aZ b0 im
 have b1:=u1 (aI.mono (S':=[T,G,D,U,ae]) bU (ac im (ac im (ac im (ac im aD))))) c4 im
 have b2:=ut (aI.mono (S':=[G]) bD aD) b1 (ac (ni bV.size ag) (ac im (ac (ni (le (le (le (le (le q.size k.size) g.size) h.size) i.size) o.size) M) (ac (ni (le (le (le (le (le (le (le (le q.size k.size) g.size) h.size) i.size) o.size) p.size) d.size) j.size) F) (ac (nr I) aD)))))
 have c5:=ud bc b2 (le a0.size a9)
 have hs:ak bg dir 21 b=bC (aS.mk 21 0 0 0 0 0 0 0 0 0 0 0 [] [] [] (aX dr (ap.mk ((((ap.mk b false 0).bytesC 1).need (jj ((ap.mk b false 0).byteV)) 5).bytesR ((ap.mk b false 0).byteV)) false 0).l.length 0 (ap.mk ((((ap.mk b false 0).bytesC 1).need (jj ((ap.mk b false 0).byteV)) 5).bytesR ((ap.mk b false 0).byteV)) false 0) []).2 0 0 0 0 0 []) (((((ap.mk b false 0).bytesC 1).need (jj ((ap.mk b false 0).byteV)) 5).bytesC ((ap.mk b false 0).byteV)).need (((aX dr (ap.mk ((((ap.mk b false 0).bytesC 1).need (jj ((ap.mk b false 0).byteV)) 5).bytesR ((ap.mk b false 0).byteV)) false 0).l.length 0 (ap.mk ((((ap.mk b false 0).bytesC 1).need (jj ((ap.mk b false 0).byteV)) 5).bytesR ((ap.mk b false 0).byteV)) false 0) []).1).e==0) (bB ((aX dr (ap.mk ((((ap.mk b false 0).bytesC 1).need (jj ((ap.mk b false 0).byteV)) 5).bytesR ((ap.mk b false 0).byteV)) false 0).l.length 0 (ap.mk ((((ap.mk b false 0).bytesC 1).need (jj ((ap.mk b false 0).byteV)) 5).bytesR ((ap.mk b false 0).byteV)) false 0) []).1).e)):=by
   unfold ak bg dm oe wq l7
   (try simp only[b5,bi,ea,ed,e9,eb,ec,reduceIte,zu,xO,zd,if_pos hd])
   all_goals rfl
 refine cb ((bZ.endC.e != 0)) (fun b3=>?_) (fun b3=>?_)
 have b4:=aA b3
 refine aq 2<|?_
 refine aG (ub (ud ad b2 a9) Q) mZ fun dA cH c6=>ah 1<|b6<|?_
 have c7:=nb (az Q) (le (le (le (le (le (le (le (le (le (le (le H.size t.size) r.size) q.size) k.size) g.size) h.size) i.size) o.size) p.size) d.size) j.size) v
 refine Do (aI.blk (u1 (aI.mono (S':=[T,G,D,U,ae,b7]) b1 (ac im (ac im (ac im (ac im (ac im aD)))))) c6 im) (aa (Ne.symm (nb (aj.lt E) (le (le p.size d.size) j.size) v)) (aa (Ne.symm (nb (az B) (le (le (le (le (le (le (le (le (le (le t.size r.size) q.size) k.size) g.size) h.size) i.size) o.size) p.size) d.size) j.size) v)) (aa (Ne.symm (nb (az N) (le d.size j.size) v)) (aa bt (aa (Ne.symm (nb (aj.lt J) (le (le (le (le (le (le (le k.size g.size) h.size) i.size) o.size) p.size) d.size) j.size) v)) (aa (Ne.symm c7) aE)))))) an) fun dB c8=>?_
 refine rx (bj c8 c7 cH) (vI bZ.endC.e)<|?_
 subst c1 bT bh be
 rw[hs]
 exact dL b4 (ut c5 (us c6 c8) (ac (nr b8) (ac (ni (le (le (le (le (le (le (le (le (le (le (le (le a0.size H.size) t.size) r.size) q.size) k.size) g.size) h.size) i.size) o.size) p.size) d.size) j.size) v) aD)))
 have b4:=aF b3
 refine bu<|sg<|?_
 refine L0<|cm (aI.blk (us a6 c4) (aa V (aa (Ne.symm (nb (aj.lt J) (le (le (le (le k.size g.size) h.size) i.size) o.size) M)) aE)) cE)<|?_
 have c9:=ub (ud ad b2 a9) Q
 refine aG c9 (mG 21 0 0 0 0 0 0 0 0 0 0 0 nS nS nS (.slice bQ ((aX dr (ap.mk (x51.bytesR ((ap.mk b false 0).byteV)) false 0).l.length 0 (ap.mk (x51.bytesR ((ap.mk b false 0).byteV)) false 0) []).2.length) bR) 0 0 0 0 0 nS) fun dC cI a7=>ah 1<|rt<|?_
 have ca:=nb (az Q) (le (le (le (le (le (le (le (le (le (le (le H.size t.size) r.size) q.size) k.size) g.size) h.size) i.size) o.size) p.size) d.size) j.size) v
 have cc:=aI.blk (u1 (aI.mono (S':=[T,G,D,U,ae,b7]) b1 (ac im (ac im (ac im (ac im (ac im aD)))))) a7 im) (aa (Ne.symm (nb (aj.lt E) (le (le p.size d.size) j.size) v)) (aa (Ne.symm (nb (az B) (le (le (le (le (le (le (le (le (le (le t.size r.size) q.size) k.size) g.size) h.size) i.size) o.size) p.size) d.size) j.size) v)) (aa (Ne.symm (nb (az N) (le d.size j.size) v)) (aa bt (aa (Ne.symm (nb (aj.lt J) (le (le (le (le (le (le (le k.size g.size) h.size) i.size) o.size) p.size) d.size) j.size) v)) (aa (Ne.symm ca) aE)))))) an
 refine Do cc fun dD a8=>?_
 refine rx (bj a8 ca cI) (vI 0)<|?_
 subst c1 bT bh be
 rw[hs]
 exact el b4 ⟨_,_,_,_,_,rfl,aT.nil ..,aT.nil ..,aT.nil ..,((au (au (au (au (au z.ho a6 (fun x hx=>(aa (fun e=>(aO (az O) lr z.ho) (e▸hx)) aE)) (bH.updl a6 z.hl rfl)) aZ (fun x hx=>(aa (fun e=>(aO (aj.lt J) (le (le (le (le (le (le (le (le k.size g.size) h.size) i.size) o.size) p.size) d.size) j.size) P.size) z.ho) (e▸hx)) aE)) (bH.upd16 aZ (av (aj.safe bW _ (by decide)) aM))) b0 (fun x hx=>(aa (fun e=>(aO (aj.lt J) (le (le (le (le (le (le (le (le k.size g.size) h.size) i.size) o.size) p.size) d.size) j.size) P.size) z.ho) (e▸hx)) aE)) (bH.upd16 b0 (av (aj.safe c2 _ (by decide)) aM))) a7 (fun x hx=>(aa (fun e=>(aO (az Q) (le (le (le (le (le (le (le (le (le (le (le (le H.size t.size) r.size) q.size) k.size) g.size) h.size) i.size) o.size) p.size) d.size) j.size) P.size) z.ho) (e▸hx)) aE)) (bH.upd16 a7 (av (b9 c9 (by decide)) aM))) a8 (fun x hx=>(aa (fun e=>(aO (az an) lr z.ho) (e▸hx)) aE)) (bH.updl a8 cc rfl))).rd,aT.nil ..,(cP (by omega))⟩ (ut c5 (us a7 a8) (ac (nr b8) (ac (ni (le (le (le (le (le (le (le (le (le (le (le (le a0.size H.size) t.size) r.size) q.size) k.size) g.size) h.size) i.size) o.size) p.size) d.size) j.size) v) aD)))
theorem vE{A:Option Addr}{cp:Nat}{b:List Int}{w:World}{c:Int}(n1:(c==20)=false)(n2:(c==21)=false) : Calls Tryz.prog 102 #[vI 0,vB c,.slice A b.length cp] w (eN (ak bg 0 c b) w):=by
 refine Dn 77 Tryz.func102 rfl<|sg<|aK mZ fun n o d e f=>ah 1<|sq<|aB 6<|c0<|bu<|aq 2<|ay (args:=#[vI 0,vB c])<|m1 (sB (dir:=0) (x:=c) n1 n2) fun p g=>Pl 3<|aK #[.nilFunc,.nilFunc] fun q r h i j=>aG i #[.nilFunc,.nilFunc] fun s t k=>ah 1<|sq<|sq<|go<|ah 2<|c1<|aq 1<|?_
 have a:=aJ g (ud j k h)
 refine aG (ub a e) mZ fun u l m=>ah 1<|b6<|ry l (vI 4)<|?_
 exact cI (by unfold ak bg;(try simp only[bi,ea,ed,e9,eb,ec,reduceIte,n1,n2])<;>rfl) (cQ (ud f (uz a m) d))
theorem wY{A:Option Addr}{cp:Nat}{b:List Int}{w:World}{c:Int}(n1:(c==20)=false)(n2:(c==21)=false) : Calls Tryz.prog 102 #[vI 1,vB c,.slice A b.length cp] w (eN (ak bg 1 c b) w):=by
 refine Dn 77 Tryz.func102 rfl<|sg<|aK mZ fun n o d e f=>ah 1<|sq<|aB 6<|c0<|bu<|aq 2<|ay (args:=#[vI 1,vB c])<|m1 (sB (dir:=1) (x:=c) n1 n2) fun p g=>Pl 3<|aK #[.nilFunc,.nilFunc] fun q r h i j=>aG i #[.nilFunc,.nilFunc] fun s t k=>ah 1<|sq<|sq<|go<|ah 2<|c1<|aq 1<|?_
 have a:=aJ g (ud j k h)
 refine aG (ub a e) mZ fun u l m=>ah 1<|b6<|ry l (vI 4)<|?_
 exact cI (by unfold ak bg;(try simp only[bi,ea,ed,e9,eb,ec,reduceIte,n1,n2])<;>rfl) (cQ (ud f (uz a m) d))
theorem wu{A:Option Addr}{cp:Nat}{b:List Int}{w:World}{dir c:Int}(hd:¬ (dir=0∨dir=1)) : Calls Tryz.prog 102 #[vI dir,vB c,.slice A b.length cp] w (eN (ak bg dir c b) w):=by
 have e0:(dir != 0)=true:=by simp;omega
 have e1:(dir != 1)=true:=by simp;omega
 refine Dn 77 Tryz.func102 rfl<|sg<|aK mZ fun g h a d e=>ah 1<|sq<|aq 3<|sy 18 e0<|Pl 3<|nl<|tn<|ct e1<|aq 1<|aG d mZ fun i eR f=>ah 1<|b6<|ry eR (vI 1)<|?_
 exact cI (by unfold ak bg;(try simp only[e0,e1,bi,ea,ed,e9,eb,ec,reduceIte,hd])<;>rfl) (cQ (ud e f a))
theorem lP{m:Md}{v:Value}{b:List Int}{w:World}{dir c:Int}(hc:B8 c)(h:aV m w v b)(hb:b.length≤1048576) :
    Calls Tryz.prog 102 #[.int .i64 dir,.int .u8 c,v] w (eN (ak bg dir c b) w):=by
  obtain⟨A,cp,rfl,_,_⟩:=h.shape
  by_cases h0:dir=0
  · subst h0
    by_cases a:c=20
    · subst a;exact rP (Or.inl (rfl:(0:Int)=0)) h hb
    by_cases d:c=21
    · subst d;exact oX (Or.inl rfl) h hb
    exact vE (by simpa using a) (by simpa using d)
  by_cases h1:dir=1
  · subst h1
    by_cases a:c=20
    · subst a;exact rA (Or.inl (rfl:(0:Int)=0)) h hb
    by_cases d:c=21
    · subst d;exact oX (Or.inr rfl) h hb
    exact wY (by simpa using a) (by simpa using d)
  exact wu (by omega)
open Go.RowKit
def dT (res:Option (List Int))(w:World)(e:Ending)(w':World) : Prop :=
  match res with
  | some l=>∃ v,e = .returned (.tuple #[v,.int .i64 0])∧eE w.heap.size w' v l∧aI [] w w'
  | none=>e = .returned (.tuple #[.slice none 0 0,.int .i64 1])∧aI [] w w'
def bt (parse:Int→Int→List Int→aS × Int)(lay:Int→aS→List Int)(dir:Int)(M:aS) : Option (List Int) :=
  if parse dir M.code (lay dir M)=(M,0) then some (lay dir M) else none
def gH:=ak aR
def ib:=ak aY
def ig:=ak bo
def jt:=ak bJ
def gw:=ak bg
open Go.RowKit
def oG (M:aS) : Option (List Int):=if !(gU M.code M.fail) then none else if !(decide (M=i5 M.code M.fail)) then none else some [(M.code+128)%256,M.fail]
theorem pF{m:Md}{cs:Array Value}{M:aS}{w:World}(h:aH m w cs.toList M) : Calls Tryz.prog 72 #[.agg cs] w (dT (oG M) w):=by
 have hM:=h
 refine fC h fun Aw kw Ab kb Ad kd Ar kr Ao ko e hw hbt hd hr ho _ _ _ _ _ _ _ _ _ _ q0 q1 q2 q3 q4 q5 q6 q7 q8 q9 X Y Z a0 a1 a2 a3=>?_
 subst e
 refine en 26 Tryz.func72 rfl<|sg<|L0<|cY (mG M.code M.fail M.addr M.count M.value M.and_ M.or_ M.addr2 M.sub M.status M.events M.messages (.slice Aw M.words.length kw) (.slice Ab M.bits.length kb) (.slice Ad M.data.length kd) (.slice Ar M.recs.length kr) M.mei M.kind M.level M.more M.next (.slice Ao M.objects.length ko)) fun s a4 a5 k J=>Pl 2<|aL 1<|aC k 0<|Pl 1<|aC k 1<|Pl 1<|aK #[vB 0,vB 0] fun l a6 K L N=>?_
 refine aG L #[vB M.code,vB M.fail] fun a7 O P=>nt<|sq<|sq<|Rg 10 (fun w'=>w'.heap[l]? = some (.cells #[vB M.code,vB M.fail] 145 (0,0))∧w'.heap[s]? = some (.cells (mG M.code M.fail M.addr M.count M.value M.and_ M.or_ M.addr2 M.sub M.status M.events M.messages (.slice Aw M.words.length kw) (.slice Ab M.bits.length kb) (.slice Ad M.data.length kd) (.slice Ar M.recs.length kr) M.mei M.kind M.level M.more M.next (.slice Ao M.objects.length ko)) 45 (0,0))) fun a8 t=>?_
 have u:=ub t O
 have v:=ud N (aJ P t) K
 have z:=ub v k
 refine bv ⟨u,z⟩ fun Q=>Rr 0 Q (.agg #[vB M.code,vB M.fail]) (fun w' hs=>gS (g:=l) (off:=0) [vB M.code,vB M.fail] rfl (by kernel_rfl) hs.1 (by kernel_rfl) (by kernel_rfl) rfl)<|R0 1 rfl<|Oc<|m1 (vK (a:=M.code) (b:=M.fail) (w:=_)) fun a9 n=>?_
 have C:=ub n u
 have D:=ub n z
 refine bv ⟨C,D⟩ fun c=>Rt 2 c<|Rt 3 c<|?_
 have E:=aJ J (aJ v n)
 refine wc 13 ((!(gU M.code M.fail))) (fun d=>?_) (fun d=>?_)
 have j:(gU M.code M.fail)=false:=by simpa using d
 exact Ro 4 c<|Ro 5 c<|Ro 6 c<|Ro 7 c<|Ro 8 c<|Rt 9 c<|re<|tn<|c1<|aB 2<|b6<|rr (.tuple #[nS,vI 1])<|cI (y:=none) (by unfold oG;(try simp only[d,j,bi,reduceIte])<;>rfl) ⟨rfl,E⟩
 have j:(gU M.code M.fail)=true:=by simpa using d
 refine Rr 4 c (.agg (mG M.code M.fail M.addr M.count M.value M.and_ M.or_ M.addr2 M.sub M.status M.events M.messages (.slice Aw M.words.length kw) (.slice Ab M.bits.length kb) (.slice Ad M.data.length kd) (.slice Ar M.recs.length kr) M.mei M.kind M.level M.more M.next (.slice Ao M.objects.length ko))) (fun w' hs=>gS (g:=s) (off:=0) [vB M.code,vB M.fail,vW M.addr,vW M.count,vW M.value,vW M.and_,vW M.or_,vW M.addr2,vW M.sub,vW M.status,vW M.events,vW M.messages,.slice Aw M.words.length kw,.slice Ab M.bits.length kb,.slice Ad M.data.length kd,.slice Ar M.recs.length kr,vB M.mei,vB M.kind,vB M.level,vB M.more,vB M.next,.slice Ao M.objects.length ko] rfl (by kernel_rfl) hs.2 (by kernel_rfl) (by kernel_rfl) rfl)<|Rr 5 c (.agg #[vB M.code,vB M.fail]) (fun w' hs=>gS (g:=l) (off:=0) [vB M.code,vB M.fail] rfl (by kernel_rfl) hs.1 (by kernel_rfl) (by kernel_rfl) rfl)<|R0 6 rfl<|Oc<|m1 (n7 (a:=M.code) (b:=M.fail) (w:=_)) fun aa o=>?_
 have F:=ub o C
 have G:=ub o D
 refine bv ⟨F,G⟩ fun ab=>?_
 have H:=aJ E o
 refine R0 7 rfl<|Oc<|m1 (ij (A:=M) (B:=i5 M.code M.fail) (aH.old hM H) (show aH true _ _ _ from⟨_,_,_,_,_,rfl,aT.nil ..,aT.nil ..,aT.nil ..,aT.nil ..,aT.nil ..,⟨(b8 (x:=M.code) (by omega)),(b8 (x:=M.fail) (by omega)),(cM (x:=0) (by omega)),(cM (x:=0) (by omega)),(cM (x:=0) (by omega)),(cM (x:=0) (by omega)),(cM (x:=0) (by omega)),(cM (x:=0) (by omega)),(cM (x:=0) (by omega)),(cM (x:=0) (by omega)),(cM (x:=0) (by omega)),(cM (x:=0) (by omega)),(b8 (x:=0) (by omega)),(b8 (x:=0) (by omega)),(b8 (x:=0) (by omega)),(b8 (x:=0) (by omega)),(b8 (x:=0) (by omega))⟩⟩)) fun ac p=>?_
 have q:=ub p G
 refine bv ⟨(ub p F),q⟩ fun I=>Rt 8 I<|Rt 9 I<|re<|tn<|?_
 have r:=aJ H p
 refine cb ((!(decide (M=i5 M.code M.fail)))) (fun f=>?_) (fun f=>?_)
 have i:(decide (M=i5 M.code M.fail))=false:=by simpa using f
 have R:=of_decide_eq_false i
 exact aB 2<|b6<|rr (.tuple #[nS,vI 1])<|cI (y:=none) (by unfold oG;(try simp only[d,j,f,i,bi,reduceIte])<;>rfl) ⟨rfl,r⟩
 have i:(decide (M=i5 M.code M.fail))=true:=by simpa using f
 have R:=of_decide_eq_true i
 refine bu<|aq 1<|aC q 0<|Pl 2<|aC q 1<|L0<|cX (m:=2) (e:=5) #[vB ((M.code+128)%256),vB M.fail] fun S ad T U V=>?_
 have W:=cD T (xs:=[((M.code+128)%256),M.fail]) (by as_aux_lemma=>kernel_rfl) (al (by omega) (al (by omega) aP)) (by(try simp only[List.length_cons,List.length_nil]);omega) U
 refine ah 2<|rt<|rr (.tuple #[.slice (some ⟨S,0,none⟩) 2 2,vI 0])<|?_
 exact cI (y:=(some [((M.code+128)%256),M.fail])) (by unfold oG;(try simp only[d,j,f,i,bi,reduceIte])<;>rfl) ⟨_,rfl,(aZ.weaken W r.size),(aJ r V)⟩
open Go.RowKit
def cj (dir:Int)(M:aS) : List Int :=
  if (!(dir==0))&&(M.code==3 || M.code==4 || M.code==23) then [(2*(M.words.length:Int))%256]++aN M.words
  else if M.code==6 then aN [M.addr,M.value]
  else if M.code==22 then aN [M.addr,M.and_,M.or_]
  else if M.code==16&&dir==0 then ((aN [M.addr,M.count]++[(2*(M.words.length:Int))%256])++aN M.words)
  else if M.code==23 then ((aN [M.addr,M.count,M.addr2,(M.words.length:Int)%65536]++[(2*(M.words.length:Int))%256])++aN M.words)
  else if M.code==24&&dir==0 then aN [M.addr]
  else if M.code==24 then aN [(2+2*(M.words.length:Int))%65536,(M.words.length:Int)%65536]++aN M.words
  else aN [M.addr,M.count]
theorem yL{m:Md}{cs:Array Value}{M:aS}{w:World}{dir:Int}(h:aH m w cs.toList M)(hf:bh M) : Calls Tryz.prog 149 #[vI dir,.agg cs] w (jP (cj dir M) w):=by
 refine fC h fun Aw kw Ab kb Ad kd Ar kr Ao ko e hw hbt hd hr ho _ _ _ _ _ _ _ _ _ _ q0 q1 q2 q3 q4 q5 q6 q7 q8 q9 bP bQ bR bS bT bU bV=>?_
 subst e
 have hf1:=hf.words
 have hf2:=hf.bits
 have hf3:=hf.data
 have hf4:=hf.recs
 have hf5:=hf.objects
 refine en 124 Tryz.func149 rfl<|sg<|L0<|cY (mG M.code M.fail M.addr M.count M.value M.and_ M.or_ M.addr2 M.sub M.status M.events M.messages (.slice Aw M.words.length kw) (.slice Ab M.bits.length kb) (.slice Ad M.data.length kd) (.slice Ar M.recs.length kr) M.mei M.kind M.level M.more M.next (.slice Ao M.objects.length ko)) fun bW bX bY E d=>Pl 1<|aL 1<|aC E 12<|ah 2<|aq 1<|bp (2*(M.words.length:Int))<|Pl 1<|L0<|cX (m:=1) (e:=5) #[vB ((2*(M.words.length:Int))%256)] fun bZ c0 ab ac f=>?_
 have u:=cD ab (xs:=[((2*(M.words.length:Int))%256)]) (by as_aux_lemma=>kernel_rfl) (al (by omega) aP) (by(try simp only[List.length_cons,List.length_nil]);omega) ac
 refine Pl 1<|?_
 have F:=ub f E
 refine aC F 12<|?_
 have G:=aJ d f
 refine ay<|dU (cR (xs:=M.words) (eF.old hw G) (by(try simp only[List.length_cons,List.length_nil]);omega)) fun c1 c2 c3 v c4 c5 b=>Pl 2<|dk 3<|sq<|aq 1<|?_
 have a:=ub b F
 refine aC a 0<|ah 1<|bk<|aq 3<|cu 11 [27] 38 (((!(dir==0))&&(((M.code==3)||(M.code==4))||(M.code==23)))) (fun K H=>?_) ?_
 refine bl 27 ((!(dir==0))) (fun o=>?_) (fun o=>?_)
 have A:(dir==0)=false:=by simpa using o
 have ad:=ai A
 refine Pl 3<|cu 3 [30] 33 (((M.code==3)||(M.code==4))) (fun K I=>?_) ?_
 refine bl 30 ((M.code==3)) (fun p=>?_) (fun p=>?_)
 have ae:=ag p
 exact Pl 3<|ce I true (by rw[p];rfl)
 have ae:=ai p
 exact Pl 3<|ce I (M.code==4) (by rw[p];rfl)
 refine Pl 1<|cu 3 [34] 37 ((((M.code==3)||(M.code==4))||(M.code==23))) (fun K J=>?_) ?_
 refine bl 34 (((M.code==3)||(M.code==4))) (fun q=>?_) (fun q=>?_)
 exact Pl 3<|ce J true (by rw[q];rfl)
 have af:=(bL q).1
 have aj:=(bL q).2
 have c6:=ai af
 have c7:=ai aj
 exact Pl 3<|ce J (M.code==23) (by rw[q];rfl)
 exact Pl 1<|ce H (((M.code==3)||(M.code==4))||(M.code==23)) (by rw[o];rfl)
 have A:(dir==0)=true:=by simpa using o
 have ad:=ag A
 exact Pl 11<|ce H false (by rw[o];rfl)
 refine ah 1<|?_
 have j:=aJ G b
 refine cb (((!(dir==0))&&(((M.code==3)||(M.code==4))||(M.code==23)))) (fun c=>?_) (fun c=>?_)
 have L:=(b7 c).1
 have ak:=(b7 c).2
 have N:(dir==0)=false:=by simpa using L
 have q41anp:=ai N
 refine aq 2<|?_
 refine L0<|bK be (xs:=([((2*(M.words.length:Int))%256)])) (ys:=(aN M.words)) (vB 0) 1 (au u b (fun x hx=>aE) (fun _ _ h=>h)) (v).rd (by(try simp only[bM,ax]);omega) (le f.size b.size) fun an ao c8 ap ar=>ah 1<|rt<|br<|tr<|rr (.slice an (([((2*(M.words.length:Int))%256)]++(aN M.words)).length) ao)<|?_
 have hs:cj dir M=([((2*(M.words.length:Int))%256)]++(aN M.words)):=by
   unfold cj
   (try simp only[c,L,N,ak,bi,reduceIte])
   all_goals first | rfl | (simp_all;done)
 rw[hs]
 exact⟨_,rfl,(aZ.weaken ap d.size),(ut j ar (am (aU u d.size) aD))⟩
 refine aB 3<|cb ((M.code==6)) (fun g=>?_) (fun g=>?_)
 have av:=ag g
 refine aq 1<|aC a 2<|Pl 1<|aC a 4<|L0<|cX (m:=2) (e:=37) #[vW M.addr,vW M.value] fun c9 ca aw az O=>?_
 have aA:=eH aw (xs:=[M.addr,M.value]) (by as_aux_lemma=>kernel_rfl) (al (by omega) (al (by omega) aP)) (by(try simp only[List.length_cons,List.length_nil]);omega) az
 refine ay<|dU (cR (xs:=[M.addr,M.value]) (aA).rd (by(try simp only[List.length_cons,List.length_nil]);omega)) fun aF aG cc aI cd cf aK=>ah 1<|rt<|br<|tr<|rr (.slice aF ((aN ([M.addr,M.value])).length) aG)<|?_
 have hs:cj dir M=(aN ([M.addr,M.value])):=by
   unfold cj
   (try simp only[c,g,bi,reduceIte])
   all_goals first | rfl | (simp_all;done)
 rw[hs]
 exact⟨_,rfl,(aZ.weaken aI (le (le (le d.size f.size) b.size) O.size)),(aJ j (aJ O aK))⟩
 have av:=ai g
 refine aB 3<|cb ((M.code==22)) (fun i=>?_) (fun i=>?_)
 have aM:=ag i
 refine aq 1<|aC a 2<|Pl 1<|aC a 5<|Pl 1<|aC a 6<|L0<|cX (m:=3) (e:=37) #[vW M.addr,vW M.and_,vW M.or_] fun cg ch aO aQ P=>?_
 have aR:=eH aO (xs:=[M.addr,M.and_,M.or_]) (by as_aux_lemma=>kernel_rfl) (al (by omega) (al (by omega) (al (by omega) aP))) (by(try simp only[List.length_cons,List.length_nil]);omega) aQ
 refine ay<|dU (cR (xs:=[M.addr,M.and_,M.or_]) (aR).rd (by(try simp only[List.length_cons,List.length_nil]);omega)) fun aT aV ci aW ck cl aX=>ah 1<|rt<|br<|tr<|rr (.slice aT ((aN ([M.addr,M.and_,M.or_])).length) aV)<|?_
 have hs:cj dir M=(aN ([M.addr,M.and_,M.or_])):=by
   unfold cj
   (try simp only[c,g,i,bi,reduceIte])
   all_goals first | rfl | (simp_all;done)
 rw[hs]
 exact⟨_,rfl,(aZ.weaken aW (le (le (le d.size f.size) b.size) P.size)),(aJ j (aJ P aX))⟩
 have aM:=ai i
 refine aq 3<|cu 2 [65] 67 (((M.code==16)&&(dir==0))) (fun K Q=>?_) ?_
 refine bl 65 ((M.code==16)) (fun r=>?_) (fun r=>?_)
 have aY:=ag r
 exact Pl 2<|ce Q (dir==0) (by rw[r];rfl)
 have aY:=ai r
 exact Pl 2<|ce Q false (by rw[r];rfl)
 refine ah 1<|cb (((M.code==16)&&(dir==0))) (fun k=>?_) (fun k=>?_)
 have R:=(b7 k).1
 have S:=(b7 k).2
 have cm:=ag R
 have cn:=ag S
 refine aq 1<|aC a 2<|Pl 1<|aC a 3<|L0<|cX (m:=2) (e:=37) #[vW M.addr,vW M.count] fun co cp b0 b1 y=>?_
 have b2:=eH b0 (xs:=[M.addr,M.count]) (by as_aux_lemma=>kernel_rfl) (al (by omega) (al (by omega) aP)) (by(try simp only[List.length_cons,List.length_nil]);omega) b1
 refine ay<|dU (cR (xs:=[M.addr,M.count]) (b2).rd (by(try simp only[List.length_cons,List.length_nil]);omega)) fun cq cr ct T cv cw B=>Pl 1<|?_
 have U:=aJ y B
 refine L0<|bK be (xs:=(aN ([M.addr,M.count]))) (ys:=([((2*(M.words.length:Int))%256)])) (vB 0) 1 T ((au u (aJ b U) (fun x hx=>aE) (fun _ _ h=>h))).rd (by(try simp only[bM,ax]);omega) B.size fun cx cy cz V W=>Pl 1<|?_
 have X:=ut U W (am (aU T y.size) aD)
 refine L0<|bK be (xs:=((aN ([M.addr,M.count]))++[((2*(M.words.length:Int))%256)])) (ys:=(aN M.words)) (vB 0) 1 V ((au v X (fun x hx=>aE) (fun _ _ h=>h))).rd (by(try simp only[bM,ax]);omega) (le B.size W.size) fun b3 b4 cA b5 b6=>ah 1<|rt<|br<|tr<|rr (.slice b3 ((((aN ([M.addr,M.count]))++[((2*(M.words.length:Int))%256)])++(aN M.words)).length) b4)<|?_
 have hs:cj dir M=(((aN ([M.addr,M.count]))++[((2*(M.words.length:Int))%256)])++(aN M.words)):=by
   unfold cj
   (try simp only[c,g,i,k,R,S,bi,reduceIte])
   all_goals first | rfl | (simp_all;done)
 rw[hs]
 exact⟨_,rfl,(aZ.weaken b5 (le (le (le d.size f.size) b.size) y.size)),(aJ j (ut X b6 (am (aU V y.size) aD)))⟩
 refine aB 3<|cb ((M.code==23)) (fun l=>?_) (fun l=>?_)
 have b8:=ag l
 refine aq 1<|aC a 2<|Pl 1<|aC a 3<|Pl 1<|aC a 7<|Pl 2<|L0<|cX (m:=4) (e:=37) #[vW M.addr,vW M.count,vW M.addr2,vW ((M.words.length:Int)%65536)] fun cB cC b9 ba z=>?_
 have bb:=eH b9 (xs:=[M.addr,M.count,M.addr2,((M.words.length:Int)%65536)]) (by as_aux_lemma=>kernel_rfl) (al (by omega) (al (by omega) (al (by omega) (al (by omega) aP)))) (by(try simp only[List.length_cons,List.length_nil]);omega) ba
 refine ay<|dU (cR (xs:=[M.addr,M.count,M.addr2,((M.words.length:Int)%65536)]) (bb).rd (by(try simp only[List.length_cons,List.length_nil]);omega)) fun cE cF cG Y cH cI C=>Pl 1<|?_
 have Z:=aJ z C
 refine L0<|bK be (xs:=(aN ([M.addr,M.count,M.addr2,((M.words.length:Int)%65536)]))) (ys:=([((2*(M.words.length:Int))%256)])) (vB 0) 1 Y ((au u (aJ b Z) (fun x hx=>aE) (fun _ _ h=>h))).rd (by(try simp only[bM,ax]);omega) C.size fun cJ cK cL a0 a1=>Pl 1<|?_
 have a2:=ut Z a1 (am (aU Y z.size) aD)
 refine L0<|bK be (xs:=((aN ([M.addr,M.count,M.addr2,((M.words.length:Int)%65536)]))++[((2*(M.words.length:Int))%256)])) (ys:=(aN M.words)) (vB 0) 1 a0 ((au v a2 (fun x hx=>aE) (fun _ _ h=>h))).rd (by(try simp only[bM,ax]);omega) (le C.size a1.size) fun bc bd cM bf bg=>ah 1<|rt<|br<|tr<|rr (.slice bc ((((aN ([M.addr,M.count,M.addr2,((M.words.length:Int)%65536)]))++[((2*(M.words.length:Int))%256)])++(aN M.words)).length) bd)<|?_
 have hs:cj dir M=(((aN ([M.addr,M.count,M.addr2,((M.words.length:Int)%65536)]))++[((2*(M.words.length:Int))%256)])++(aN M.words)):=by
   unfold cj
   (try simp only[c,g,i,k,l,bi,reduceIte])
   all_goals first | rfl | (simp_all;done)
 rw[hs]
 exact⟨_,rfl,(aZ.weaken bf (le (le (le d.size f.size) b.size) z.size)),(aJ j (ut a2 bg (am (aU a0 z.size) aD)))⟩
 have b8:=ai l
 refine aq 3<|cu 2 [98] 100 (((M.code==24)&&(dir==0))) (fun K a3=>?_) ?_
 refine bl 98 ((M.code==24)) (fun s=>?_) (fun s=>?_)
 have bj:=ag s
 exact Pl 2<|ce a3 (dir==0) (by rw[s];rfl)
 have bj:=ai s
 exact Pl 2<|ce a3 false (by rw[s];rfl)
 refine ah 1<|cb (((M.code==24)&&(dir==0))) (fun n=>?_) (fun n=>?_)
 have a4:=(b7 n).1
 have a5:=(b7 n).2
 have cN:=ag a4
 have cO:=ag a5
 refine aq 1<|aC a 2<|L0<|cX (m:=1) (e:=37) #[vW M.addr] fun cP cQ bm bo a6=>?_
 have bq:=eH bm (xs:=[M.addr]) (by as_aux_lemma=>kernel_rfl) (al (by omega) aP) (by(try simp only[List.length_cons,List.length_nil]);omega) bo
 refine ay<|dU (cR (xs:=[M.addr]) (bq).rd (by(try simp only[List.length_cons,List.length_nil]);omega)) fun bs bt cS bu cT cU bv=>ah 1<|rt<|br<|tr<|rr (.slice bs ((aN ([M.addr])).length) bt)<|?_
 have hs:cj dir M=(aN ([M.addr])):=by
   unfold cj
   (try simp only[c,g,i,k,l,n,a4,a5,bi,reduceIte])
   all_goals first | rfl | (simp_all;done)
 rw[hs]
 exact⟨_,rfl,(aZ.weaken bu (le (le (le d.size f.size) b.size) a6.size)),(aJ j (aJ a6 bv))⟩
 refine aB 3<|cb ((M.code==24)) (fun t=>?_) (fun t=>?_)
 have bw:=ag t
 refine aq 1<|bp (2*(M.words.length:Int))<|bp (2+(2*(M.words.length:Int)))<|Pl 3<|L0<|cX (m:=2) (e:=37) #[vW ((2+(2*(M.words.length:Int)))%65536),vW ((M.words.length:Int)%65536)] fun cV cW bx bz D=>?_
 have bA:=eH bx (xs:=[((2+(2*(M.words.length:Int)))%65536),((M.words.length:Int)%65536)]) (by as_aux_lemma=>kernel_rfl) (al (by omega) (al (by omega) aP)) (by(try simp only[List.length_cons,List.length_nil]);omega) bz
 refine ay<|dU (cR (xs:=[((2+(2*(M.words.length:Int)))%65536),((M.words.length:Int)%65536)]) (bA).rd (by(try simp only[List.length_cons,List.length_nil]);omega)) fun cZ d0 d1 a7 d2 d3 a8=>Pl 1<|?_
 have a9:=aJ D a8
 refine L0<|bK be (xs:=(aN ([((2+(2*(M.words.length:Int)))%65536),((M.words.length:Int)%65536)]))) (ys:=(aN M.words)) (vB 0) 1 a7 ((au v a9 (fun x hx=>aE) (fun _ _ h=>h))).rd (by(try simp only[bM,ax]);omega) a8.size fun bB bC d4 bD bE=>ah 1<|rt<|br<|tr<|rr (.slice bB (((aN ([((2+(2*(M.words.length:Int)))%65536),((M.words.length:Int)%65536)]))++(aN M.words)).length) bC)<|?_
 have hs:cj dir M=((aN ([((2+(2*(M.words.length:Int)))%65536),((M.words.length:Int)%65536)]))++(aN M.words)):=by
   unfold cj
   (try simp only[c,g,i,k,l,n,t,bi,reduceIte])
   all_goals first | rfl | (simp_all;done)
 rw[hs]
 exact⟨_,rfl,(aZ.weaken bD (le (le (le d.size f.size) b.size) D.size)),(aJ j (ut a9 bE (am (aU a7 D.size) aD)))⟩
 have bw:=ai t
 refine sk<|bn<|tn<|aq 1<|aC a 2<|Pl 1<|aC a 3<|L0<|cX (m:=2) (e:=37) #[vW M.addr,vW M.count] fun d5 d6 bF bG aa=>?_
 have bH:=eH bF (xs:=[M.addr,M.count]) (by as_aux_lemma=>kernel_rfl) (al (by omega) (al (by omega) aP)) (by(try simp only[List.length_cons,List.length_nil]);omega) bG
 refine ay<|dU (cR (xs:=[M.addr,M.count]) (bH).rd (by(try simp only[List.length_cons,List.length_nil]);omega)) fun bI bJ d7 bN d8 d9 bO=>ah 1<|rt<|rr (.slice bI ((aN ([M.addr,M.count])).length) bJ)<|?_
 have hs:cj dir M=(aN ([M.addr,M.count])):=by
   unfold cj
   (try simp only[c,g,i,k,l,n,t,bi,reduceIte])
   all_goals first | rfl | (simp_all;done)
 rw[hs]
 exact⟨_,rfl,(aZ.weaken bN (le (le (le d.size f.size) b.size) aa.size)),(aJ j (aJ aa bO))⟩
open Go.RowKit
def bV (dir:Int)(M:aS) : List Int :=
  if M.code==8 then aN [M.sub]++aN M.words
  else if dir==0 then []
  else if M.code==7 then [M.value%256]
  else if M.code==11 then aN [M.status,M.events]
  else if M.code==12 then (([(6+(M.data.length:Int))%256]++aN [M.status,M.events,M.messages])++M.data)
  else [(M.data.length:Int)%256]++M.data
theorem zX{m:Md}{cs:Array Value}{M:aS}{w:World}{dir:Int}(h:aH m w cs.toList M)(hf:bh M) : Calls Tryz.prog 152 #[vI dir,.agg cs] w (jP (bV dir M) w):=by
 refine fC h fun Aw kw Ab kb Ad kd Ar kr Ao ko e hw hbt hd hr ho _ _ _ _ _ _ _ _ _ _ q0 q1 q2 q3 q4 q5 q6 q7 q8 q9 bX bY bZ c0 c1 c2 c3=>?_
 subst e
 have hf1:=hf.words
 have hf2:=hf.bits
 have hf3:=hf.data
 have hf4:=hf.recs
 have hf5:=hf.objects
 refine en 70 Tryz.func152 rfl<|sg<|L0<|cY (mG M.code M.fail M.addr M.count M.value M.and_ M.or_ M.addr2 M.sub M.status M.events M.messages (.slice Aw M.words.length kw) (.slice Ab M.bits.length kb) (.slice Ad M.data.length kd) (.slice Ar M.recs.length kr) M.mei M.kind M.level M.more M.next (.slice Ao M.objects.length ko)) fun n c4 c5 b a=>ah 1<|sq<|bk<|aq 1<|aC b 0<|Pl 2<|nl<|tn<|cb ((M.code==8)) (fun d=>?_) (fun d=>?_)
 have ao:=ag d
 refine sq<|Rg 9 (fun w'=>w'.cell? ⟨n,8,none⟩=some (vW M.sub)∧w'.cell? ⟨n,12,none⟩=some (.slice Aw M.words.length kw)) fun c6 q=>?_
 have K:=ub q b
 refine bv ⟨(ae K rfl),(ae K rfl)⟩ fun F=>Rt 0 F<|Rl 1 F (fun _ hs=>hs.1)<|Rt 4 F<|Rl 5 F (fun _ hs=>hs.2)<|R0 2 rfl<|cX (m:=1) (e:=37) #[vW M.sub] fun c7 c8 ap ar r=>?_
 have av:=eH ap (xs:=[M.sub]) (by as_aux_lemma=>kernel_rfl) (al (by omega) aP) (by(try simp only[List.length_cons,List.length_nil]);omega) ar
 have L:=ub r K
 refine bv ⟨(ae L rfl),(ae L rfl)⟩ fun c9=>R0 3 rfl<|Oc<|dU (cR (xs:=[M.sub]) (av).rd (by(try simp only[List.length_cons,List.length_nil]);omega)) fun aw ca cc N cd ce O=>?_
 have P:=ub O L
 refine bv ⟨(ae P rfl),(ae P rfl)⟩ fun cf=>?_
 have Y:=aJ a (aJ q (aJ r O))
 refine R0 6 rfl<|Oc<|dU (cR (xs:=M.words) (eF.old hw Y) (by(try simp only[List.length_cons,List.length_nil]);omega)) fun cg ch ci aA cj ck G=>?_
 have Q:=ub G P
 refine bv ⟨(ae Q rfl),(ae Q rfl)⟩ fun cl=>?_
 refine R0 7 rfl<|bK be (xs:=(aN ([M.sub]))) (ys:=(aN M.words)) (vB 0) 1 (au N G (fun x hx=>aE) (fun _ _ h=>h)) (aA).rd (by(try simp only[bM,ax]);omega) (le O.size G.size) fun aF aG cm aK Z=>?_
 have a0:=aI.blk Z (bA (aO (az b) (le q.size r.size) N) aE) Q
 refine bv ⟨(ae a0 rfl),(ae a0 rfl)⟩ fun aL=>Rt 8 aL<|re<|tn<|rt<|br<|tr<|rr (.slice aF (((aN ([M.sub]))++(aN M.words)).length) aG)<|?_
 have hs:bV dir M=((aN ([M.sub]))++(aN M.words)):=by
   unfold bV
   (try simp only[d,bi,reduceIte])
   all_goals first | rfl | (simp_all;done)
 rw[hs]
 exact⟨_,rfl,(aZ.weaken aK (le (le a.size q.size) r.size)),(ut Y (ut (aI.mono (S':=(ob aw++[])) G aD) Z (am il aD)) (am (aU N (le (le a.size q.size) r.size)) aD))⟩
 have ao:=ai d
 refine aB 3<|cb ((dir==0)) (fun g=>?_) (fun g=>?_)
 have aM:=ag g
 refine aB 1<|rt<|br<|tr<|rr nS<|?_
 have hs:bV dir M=[]:=by
   unfold bV
   (try simp only[d,g,bi,reduceIte])
   all_goals first | rfl | (simp_all;done)
 rw[hs]
 exact⟨_,rfl,(aZ.nil ..),a⟩
 have aM:=ai g
 refine aq 1<|aC b 0<|ah 2<|cb ((M.code==7)) (fun i=>?_) (fun i=>?_)
 have aQ:=ag i
 refine aq 1<|aC b 4<|Pl 1<|L0<|cX (m:=1) (e:=5) #[vB (M.value%256)] fun aR cn aT aW aX=>?_
 have aY:=cD aT (xs:=[(M.value%256)]) (by as_aux_lemma=>kernel_rfl) (al (by omega) aP) (by(try simp only[List.length_cons,List.length_nil]);omega) aW
 refine ah 1<|rt<|br<|tr<|rr (.slice (some ⟨aR,0,none⟩) 1 1)<|?_
 have hs:bV dir M=[(M.value%256)]:=by
   unfold bV
   (try simp only[d,g,i,bi,reduceIte])
   all_goals first | rfl | (simp_all;done)
 rw[hs]
 exact⟨_,rfl,(aZ.weaken aY a.size),(aJ a aX)⟩
 have aQ:=ai i
 refine aq 1<|aC b 0<|ah 2<|cb ((M.code==11)) (fun k=>?_) (fun k=>?_)
 have b0:=ag k
 refine aq 1<|aC b 9<|Pl 1<|aC b 10<|L0<|cX (m:=2) (e:=37) #[vW M.status,vW M.events] fun co cp b1 b2 a1=>?_
 have b3:=eH b1 (xs:=[M.status,M.events]) (by as_aux_lemma=>kernel_rfl) (al (by omega) (al (by omega) aP)) (by(try simp only[List.length_cons,List.length_nil]);omega) b2
 refine ay<|dU (cR (xs:=[M.status,M.events]) (b3).rd (by(try simp only[List.length_cons,List.length_nil]);omega)) fun b4 b5 cq b6 cr ct b7=>ah 1<|rt<|br<|tr<|rr (.slice b4 ((aN ([M.status,M.events])).length) b5)<|?_
 have hs:bV dir M=(aN ([M.status,M.events])):=by
   unfold bV
   (try simp only[d,g,i,k,bi,reduceIte])
   all_goals first | rfl | (simp_all;done)
 rw[hs]
 exact⟨_,rfl,(aZ.weaken b6 (le a.size a1.size)),(aJ a (aJ a1 b7))⟩
 have b0:=ai k
 refine aq 1<|aC b 0<|ah 2<|cb ((M.code==12)) (fun l=>?_) (fun l=>?_)
 have b8:=ag l
 refine sq<|Rg 16 (fun w'=>w'.cell? ⟨n,14,none⟩=some (.slice Ad M.data.length kd)∧w'.cell? ⟨n,9,none⟩=some (vW M.status)∧w'.cell? ⟨n,10,none⟩=some (vW M.events)∧w'.cell? ⟨n,11,none⟩=some (vW M.messages)) fun cu c=>?_
 have o:=ub c b
 refine bv ⟨(ae o rfl),(ae o rfl),(ae o rfl),(ae o rfl)⟩ fun f=>Rt 0 f<|Rl 1 f (fun _ hs=>hs.1)<|Rt 2 f<|Rr 3 f (vI (6+(M.data.length:Int))) (fun _ _=>bO (vI (IntKind.i64.wrap (6+(M.data.length:Int)))) (by kernel_rfl) (congrArg (Value.int .i64) (IntWalk.i64_in _ (by omega))))<|Rt 4 f<|Rt 6 f<|Rl 7 f (fun _ hs=>hs.2.1)<|Rt 8 f<|Rl 9 f (fun _ hs=>hs.2.2.1)<|Rt 10 f<|Rl 11 f (fun _ hs=>hs.2.2.2)<|R2 5 12 rfl rfl ?_ ?_
 refine  cX (m:=1) (e:=5) #[vB ((6+(M.data.length:Int))%256)] fun b9 cv ba bb R=>?_
 have S:=cD ba (xs:=[((6+(M.data.length:Int))%256)]) (by as_aux_lemma=>kernel_rfl) (al (by omega) aP) (by(try simp only[List.length_cons,List.length_nil]);omega) bb
 have s:=ub R o
 refine bv ⟨(ae s rfl),(ae s rfl),(ae s rfl),(ae s rfl)⟩ fun cw=>R0 12 rfl<|cX (m:=3) (e:=37) #[vW M.status,vW M.events,vW M.messages] fun cx cy bc bd T=>?_
 have bf:=eH bc (xs:=[M.status,M.events,M.messages]) (by as_aux_lemma=>kernel_rfl) (al (by omega) (al (by omega) (al (by omega) aP))) (by(try simp only[List.length_cons,List.length_nil]);omega) bd
 have t:=ub T s
 refine bv ⟨(ae t rfl),(ae t rfl),(ae t rfl),(ae t rfl)⟩ fun cz=>R0 13 rfl<|Oc<|dU (cR (xs:=[M.status,M.events,M.messages]) (bf).rd (by(try simp only[List.length_cons,List.length_nil]);omega)) fun cA cB cC bg cE cF U=>?_
 have u:=ub U t
 refine bv ⟨(ae u rfl),(ae u rfl),(ae u rfl),(ae u rfl)⟩ fun cG=>?_
 have a2:=aJ T U
 refine R0 14 rfl<|bK be (xs:=([((6+(M.data.length:Int))%256)])) (ys:=(aN ([M.status,M.events,M.messages]))) (vB 0) 1 (au S a2 (fun x hx=>aE) (fun _ _ h=>h)) (bg).rd (by(try simp only[bM,ax]);omega) (le (le R.size T.size) U.size) fun cH cI cJ a3 a4=>?_
 have v:=aI.blk a4 (bA (aO (az b) c.size S) aE) u
 refine bv ⟨(ae v rfl),(ae v rfl),(ae v rfl),(ae v rfl)⟩ fun bj=>Rt 15 bj<|re<|tn<|aq 2<|aC v 14<|?_
 have a5:=ut R (ut (aI.mono (S':=(ob (some ⟨b9,0,none⟩)++[])) a2 aD) a4 (am il aD)) (am (aU S lr) aD)
 have a6:=aJ a (aJ c a5)
 refine L0<|bK be (xs:=([((6+(M.data.length:Int))%256)]++(aN ([M.status,M.events,M.messages])))) (ys:=M.data) (vB 0) 1 a3 (aV.old hd a6) (by(try simp only[bM,ax]);omega) a5.size fun bl bm cK bo bp=>ah 1<|rt<|br<|tr<|rr (.slice bl ((([((6+(M.data.length:Int))%256)]++(aN ([M.status,M.events,M.messages])))++M.data).length) bm)<|?_
 have hs:bV dir M=(([((6+(M.data.length:Int))%256)]++(aN ([M.status,M.events,M.messages])))++M.data):=by
   unfold bV
   (try simp only[d,g,i,k,l,bi,reduceIte])
   all_goals first | rfl | (simp_all;done)
 rw[hs]
 exact⟨_,rfl,(aZ.weaken bo (le a.size c.size)),(ut a6 bp (am (aU a3 (le a.size c.size)) aD))⟩
 refine  cX (m:=3) (e:=37) #[vW M.status,vW M.events,vW M.messages] fun cL cM bq bs j=>?_
 have a7:=eH bq (xs:=[M.status,M.events,M.messages]) (by as_aux_lemma=>kernel_rfl) (al (by omega) (al (by omega) (al (by omega) aP))) (by(try simp only[List.length_cons,List.length_nil]);omega) bs
 have p:=ub j o
 refine bv ⟨(ae p rfl),(ae p rfl),(ae p rfl),(ae p rfl)⟩ fun cN=>?_
 refine R2 5 13 rfl rfl ?_ ?_
 refine  cX (m:=1) (e:=5) #[vB ((6+(M.data.length:Int))%256)] fun bt cO bu bw H=>?_
 have V:=cD bu (xs:=[((6+(M.data.length:Int))%256)]) (by as_aux_lemma=>kernel_rfl) (al (by omega) aP) (by(try simp only[List.length_cons,List.length_nil]);omega) bw
 have y:=ub H p
 refine bv ⟨(ae y rfl),(ae y rfl),(ae y rfl),(ae y rfl)⟩ fun cP=>?_
 refine R0 13 rfl<|Oc<|dU (cR (xs:=[M.status,M.events,M.messages]) ((au a7 H (fun x hx=>aE) (fun _ _ h=>h))).rd (by(try simp only[List.length_cons,List.length_nil]);omega)) fun cQ cS cT bx cU cV I=>?_
 have z:=ub I y
 refine bv ⟨(ae z rfl),(ae z rfl),(ae z rfl),(ae z rfl)⟩ fun cW=>?_
 refine R0 14 rfl<|bK be (xs:=([((6+(M.data.length:Int))%256)])) (ys:=(aN ([M.status,M.events,M.messages]))) (vB 0) 1 (au V I (fun x hx=>aE) (fun _ _ h=>h)) (bx).rd (by(try simp only[bM,ax]);omega) (le H.size I.size) fun cZ d0 d1 a8 a9=>?_
 have A:=aI.blk a9 (bA (aO (az b) (le c.size j.size) V) aE) z
 refine bv ⟨(ae A rfl),(ae A rfl),(ae A rfl),(ae A rfl)⟩ fun bz=>Rt 15 bz<|re<|tn<|aq 2<|aC A 14<|?_
 have aa:=ut H (ut (aI.mono (S':=(ob (some ⟨bt,0,none⟩)++[])) I aD) a9 (am il aD)) (am (aU V lr) aD)
 have ab:=aJ a (aJ c (aJ j aa))
 refine L0<|bK be (xs:=([((6+(M.data.length:Int))%256)]++(aN ([M.status,M.events,M.messages])))) (ys:=M.data) (vB 0) 1 a8 (aV.old hd ab) (by(try simp only[bM,ax]);omega) aa.size fun bB bC d2 bD bE=>ah 1<|rt<|br<|tr<|rr (.slice bB ((([((6+(M.data.length:Int))%256)]++(aN ([M.status,M.events,M.messages])))++M.data).length) bC)<|?_
 have hs:bV dir M=(([((6+(M.data.length:Int))%256)]++(aN ([M.status,M.events,M.messages])))++M.data):=by
   unfold bV
   (try simp only[d,g,i,k,l,bi,reduceIte])
   all_goals first | rfl | (simp_all;done)
 rw[hs]
 exact⟨_,rfl,(aZ.weaken bD (le (le a.size c.size) j.size)),(ut ab bE (am (aU a8 (le (le a.size c.size) j.size)) aD))⟩
 refine  Oc<|dU (cR (xs:=[M.status,M.events,M.messages]) (a7).rd (by(try simp only[List.length_cons,List.length_nil]);omega)) fun d3 d4 d5 bF d6 d7 B=>?_
 have C:=ub B p
 refine bv ⟨(ae C rfl),(ae C rfl),(ae C rfl),(ae C rfl)⟩ fun d8=>R0 5 rfl<|cX (m:=1) (e:=5) #[vB ((6+(M.data.length:Int))%256)] fun d9 da bG bH J=>?_
 have W:=cD bG (xs:=[((6+(M.data.length:Int))%256)]) (by as_aux_lemma=>kernel_rfl) (al (by omega) aP) (by(try simp only[List.length_cons,List.length_nil]);omega) bH
 have D:=ub J C
 refine bv ⟨(ae D rfl),(ae D rfl),(ae D rfl),(ae D rfl)⟩ fun db=>?_
 refine R0 14 rfl<|bK be (xs:=([((6+(M.data.length:Int))%256)])) (ys:=(aN ([M.status,M.events,M.messages]))) (vB 0) 1 W ((au bF J (fun x hx=>aE) (fun _ _ h=>h))).rd (by(try simp only[bM,ax]);omega) J.size fun dc dd de ac ad=>?_
 have E:=aI.blk ad (bA (aO (az b) (le (le c.size j.size) B.size) W) aE) D
 refine bv ⟨(ae E rfl),(ae E rfl),(ae E rfl),(ae E rfl)⟩ fun bI=>Rt 15 bI<|re<|tn<|aq 2<|aC E 14<|?_
 have af:=ut J ad (am (aU W lr) aD)
 have aj:=aJ a (aJ c (aJ j (aJ B af)))
 refine L0<|bK be (xs:=([((6+(M.data.length:Int))%256)]++(aN ([M.status,M.events,M.messages])))) (ys:=M.data) (vB 0) 1 ac (aV.old hd aj) (by(try simp only[bM,ax]);omega) af.size fun bJ bL df bN bP=>ah 1<|rt<|br<|tr<|rr (.slice bJ ((([((6+(M.data.length:Int))%256)]++(aN ([M.status,M.events,M.messages])))++M.data).length) bL)<|?_
 have hs:bV dir M=(([((6+(M.data.length:Int))%256)]++(aN ([M.status,M.events,M.messages])))++M.data):=by
   unfold bV
   (try simp only[d,g,i,k,l,bi,reduceIte])
   all_goals first | rfl | (simp_all;done)
 rw[hs]
 exact⟨_,rfl,(aZ.weaken bN (le (le (le a.size c.size) j.size) B.size)),(ut aj bP (am (aU ac (le (le (le a.size c.size) j.size) B.size)) aD))⟩
 have b8:=ai l
 refine sk<|bn<|tn<|aq 1<|aC b 14<|Pl 2<|L0<|cX (m:=1) (e:=5) #[vB ((M.data.length:Int)%256)] fun dg dh bQ bR X=>?_
 have ak:=cD bQ (xs:=[((M.data.length:Int)%256)]) (by as_aux_lemma=>kernel_rfl) (al (by omega) aP) (by(try simp only[List.length_cons,List.length_nil]);omega) bR
 refine Pl 1<|?_
 refine aC (ub X b) 14<|?_
 have an:=aJ a X
 refine L0<|bK be (xs:=([((M.data.length:Int)%256)])) (ys:=M.data) (vB 0) 1 ak (aV.old hd an) (by(try simp only[bM,ax]);omega) X.size fun bS bT di bU bW=>ah 1<|rt<|rr (.slice bS (([((M.data.length:Int)%256)]++M.data).length) bT)<|?_
 have hs:bV dir M=([((M.data.length:Int)%256)]++M.data):=by
   unfold bV
   (try simp only[d,g,i,k,l,bi,reduceIte])
   all_goals first | rfl | (simp_all;done)
 rw[hs]
 exact⟨_,rfl,(aZ.weaken bU a.size),(ut an bW (am (aU ak a.size) aD))⟩
open Go.RowKit
theorem eB{α:Type}(d:α)(xs:List α)(k:Nat)(h:k<xs.length) : xs.getD k d∈xs:=by
  simp[List.getD_eq_getElem?_getD,List.getElem?_eq_getElem h]
def eT:List Obj→List Int
  | []=>[]
  | o :: r=>([o.id,(o.value.length:Int)%256]++o.value)++eT r
theorem pC(xs:List Obj)(k:Nat)(h:k<xs.length) : eT (xs.drop k)=([(xs.getD k ⟨0,[]⟩).id,((xs.getD k ⟨0,[]⟩).value.length:Int)%256]++(xs.getD k ⟨0,[]⟩).value)++eT (xs.drop (k+1)):=by
  rw[List.drop_eq_getElem_cons h]
  simp[eT,List.getD_eq_getElem?_getD,List.getElem?_eq_getElem h]
def dA (dir:Int)(M:aS) : List Int :=
  if M.mei==13 then [M.mei]++M.data
  else if dir==0 then [M.mei,M.kind,M.next]
  else [M.mei,M.kind,M.level,M.more,M.next,(M.objects.length:Int)%256]++eT M.objects
theorem AG{m:Md}{cs:Array Value}{M:aS}{w:World}{dir:Int}(h:aH m w cs.toList M)(hf:bh M) : Calls Tryz.prog 162 #[vI dir,.agg cs] w (jP (dA dir M) w):=by
 refine fC h fun Aw kw Ab kb Ad kd Ar kr Ao ko e hw hbt hd hr ho _ _ _ _ _ _ _ _ _ _ q0 q1 q2 q3 q4 q5 q6 q7 q8 q9 aM aN aO aQ aR aT aW=>?_
 subst e
 have hf1:=hf.words
 have hf2:=hf.bits
 have hf3:=hf.data
 have hf4:=hf.recs
 have hf5:=hf.objects
 refine en 64 Tryz.func162 rfl<|sg<|L0<|cY (mG M.code M.fail M.addr M.count M.value M.and_ M.or_ M.addr2 M.sub M.status M.events M.messages (.slice Aw M.words.length kw) (.slice Ab M.bits.length kb) (.slice Ad M.data.length kd) (.slice Ar M.recs.length kr) M.mei M.kind M.level M.more M.next (.slice Ao M.objects.length ko)) fun aX s aY a c=>ah 1<|sq<|bk<|aq 1<|aC a 16<|Pl 2<|nl<|tn<|cb ((M.mei==13)) (fun d=>?_) (fun d=>?_)
 have P:=ag d
 refine aq 1<|aC a 16<|L0<|cX (m:=1) (e:=5) #[vB M.mei] fun b0 b1 Q R t=>?_
 have F:=cD Q (xs:=[M.mei]) (by as_aux_lemma=>kernel_rfl) (al (by omega) aP) (by(try simp only[List.length_cons,List.length_nil]);omega) R
 refine Pl 1<|?_
 refine aC (ub t a) 14<|?_
 have G:=aJ c t
 refine L0<|bK be (xs:=([M.mei])) (ys:=M.data) (vB 0) 1 F (aV.old hd G) (by(try simp only[bM,ax]);omega) t.size fun S T b2 U V=>ah 1<|rt<|br<|tr<|rr (.slice S (([M.mei]++M.data).length) T)<|?_
 have hs:dA dir M=([M.mei]++M.data):=by
   unfold dA
   (try simp only[d,bi,reduceIte])
   all_goals first | rfl | (simp_all;done)
 rw[hs]
 exact⟨_,rfl,(aZ.weaken U c.size),(ut G V (am (aU F c.size) aD))⟩
 have P:=ai d
 refine aB 3<|cb ((dir==0)) (fun f=>?_) (fun f=>?_)
 have W:=ag f
 refine aq 1<|aC a 16<|Pl 1<|aC a 17<|Pl 1<|aC a 20<|L0<|cX (m:=3) (e:=5) #[vB M.mei,vB M.kind,vB M.next] fun X b3 Y Z a0=>?_
 have a1:=cD Y (xs:=[M.mei,M.kind,M.next]) (by as_aux_lemma=>kernel_rfl) (al (by omega) (al (by omega) (al (by omega) aP))) (by(try simp only[List.length_cons,List.length_nil]);omega) Z
 refine ah 1<|rt<|br<|tr<|rr (.slice (some ⟨X,0,none⟩) 3 3)<|?_
 have hs:dA dir M=[M.mei,M.kind,M.next]:=by
   unfold dA
   (try simp only[d,f,bi,reduceIte])
   all_goals first | rfl | (simp_all;done)
 rw[hs]
 exact⟨_,rfl,(aZ.weaken a1 c.size),(aJ c a0)⟩
 have W:=ai f
 refine sk<|bn<|tn<|aq 1<|aC a 16<|Pl 1<|aC a 17<|Pl 1<|aC a 18<|Pl 1<|aC a 19<|Pl 1<|aC a 20<|Pl 1<|aC a 21<|Pl 2<|L0<|cX (m:=6) (e:=5) #[vB M.mei,vB M.kind,vB M.level,vB M.more,vB M.next,vB ((M.objects.length:Int)%256)] fun a2 a3 a4 a5 l=>?_
 have a6:=cD a4 (xs:=[M.mei,M.kind,M.level,M.more,M.next,((M.objects.length:Int)%256)]) (by as_aux_lemma=>kernel_rfl) (al (by omega) (al (by omega) (al (by omega) (al (by omega) (al (by omega) (al (by omega) aP)))))) (by(try simp only[List.length_cons,List.length_nil]);omega) a5
 refine ah 1<|sq<|aq 1<|?_
 refine aC (ub l a) 21<|ah 2<|bk<|je (fun x=>[(4,nS),(5,.slice x.2.2.1 x.2.1.length x.2.2.2),(44,.slice Ao M.objects.length ko),(45,vI (M.objects.length:Int)),(46,vI (x.1:Int))]) (fun(x:Nat × List Int × Option Addr × Nat) w'=>aI [] s w'∧a3.heap.size≤w'.heap.size∧eE s.heap.size w' (.slice x.2.2.1 x.2.1.length x.2.2.2) x.2.1∧(x.1≤M.objects.length)∧(x.2.1++eT (M.objects.drop x.1)=([M.mei,M.kind,M.level,M.more,M.next,((M.objects.length:Int)%256)])++eT M.objects)∧(x.2.1.length≤16+x.1*1026)∧(6≤x.2.1.length)) (fun x=>M.objects.length-x.1) (0,[M.mei,M.kind,M.level,M.more,M.next,((M.objects.length:Int)%256)],some ⟨a2,0,none⟩,6) ⟨l,lr,a6,(by(try dsimp only);omega),rfl,(by(try dsimp only);(try simp only[List.length_cons,List.length_nil]);omega),(by(try dsimp only);(try simp only[List.length_cons,List.length_nil]);omega)⟩ ?_
 rintro⟨k,L,A,cp⟩ a7 ⟨H,u,a8,a9,aa,ab,ac⟩
 refine gi [(4,nS),(5,.slice A L.length cp),(44,.slice Ao M.objects.length ko),(45,vI (M.objects.length:Int)),(46,vI (k:Int))] ?_
 have g:eE s.heap.size a7 (.slice A L.length cp) L:=a8
 have b4:k≤M.objects.length:=a9
 have b5:L++eT (M.objects.drop k)=([M.mei,M.kind,M.level,M.more,M.next,((M.objects.length:Int)%256)])++eT M.objects:=aa
 have b6:L.length≤16+k*1026:=ab
 have b7:6≤L.length:=ac
 have hL:L++eT (M.objects.drop k)=([M.mei,M.kind,M.level,M.more,M.next,((M.objects.length:Int)%256)])++eT M.objects:=by assumption
 have hv0:=fun(h:k<M.objects.length)=>hf.objv _ (eB ⟨0,[]⟩ M.objects k h)
 refine aB 1<|sq<|?_
 have v:=aJ c H
 refine cb ((decide ((k:Int)<(M.objects.length:Int)))) (fun n=>?_) (fun n=>?_)
 have ad:=of_decide_eq_true n
 refine bu<|sq<|bk<|sg<|nw (qi.elt ho k (by omega)) fun b8 b9 ba bb bc y z af aj ak bd an=>L0<|w9 2 M.objects.length k af (by omega)<|?_
 refine L0<|DU [vB ((M.objects.getD k ⟨0,[]⟩).id),.slice y ((M.objects.getD k ⟨0,[]⟩).value.length) z] (ub v aj) an<|aK #[vB 0,nS] fun I bf J ao o=>aG ao #[vB ((M.objects.getD k ⟨0,[]⟩).id),.slice y ((M.objects.getD k ⟨0,[]⟩).value.length) z] fun bg ap p=>nt<|Rg 13 (fun w'=>w'.cell? ⟨I,0,none⟩=some (vB ((M.objects.getD k ⟨0,[]⟩).id))∧w'.cell? ⟨I,1,none⟩=some (.slice y ((M.objects.getD k ⟨0,[]⟩).value.length) z)) fun bj i=>?_
 have B:=ub i ap
 refine bv ⟨(ae B rfl),(ae B rfl)⟩ fun b=>Rt 0 b<|Rt 1 b<|Rl 2 b (fun _ hs=>hs.1)<|Rt 3 b<|Rl 4 b (fun _ hs=>hs.2)<|Rt 5 b<|Rt 6 b<|Rt 9 b<|Rl 10 b (fun _ hs=>hs.2)<|R0 7 rfl<|cX (m:=2) (e:=5) #[vB ((M.objects.getD k ⟨0,[]⟩).id),vB ((((M.objects.getD k ⟨0,[]⟩).value.length:Nat) : Int)%256)] fun bl bm ar av j=>?_
 have aw:=cD ar (xs:=[(M.objects.getD k ⟨0,[]⟩).id,((((M.objects.getD k ⟨0,[]⟩).value.length:Nat) : Int)%256)]) (by as_aux_lemma=>kernel_rfl) (al (by omega) (al (by omega) aP)) (by(try simp only[List.length_cons,List.length_nil]);omega) av
 have C:=ub j B
 refine bv ⟨(ae C rfl),(ae C rfl)⟩ fun bo=>?_
 have K:=ud o (aJ p (aJ i j)) J
 refine R0 8 rfl<|bK be (xs:=L) (ys:=([(M.objects.getD k ⟨0,[]⟩).id,((((M.objects.getD k ⟨0,[]⟩).value.length:Nat) : Int)%256)])) (vB 0) 1 (au g K (fun x hx=>aE) (fun _ _ h=>h)) (aw).rd (by(try simp only[bM,ax]);omega) (le (le (le (le (le l.size u) o.size) p.size) i.size) j.size) fun ay bq bs D q=>?_
 have r:=aI.blk q (bA (fA g lr J) aE) C
 refine bv ⟨(ae r rfl),(ae r rfl)⟩ fun bt=>?_
 have N:=ut (aI.mono (S':=(ob A++[])) K aD) q (am il aD)
 refine R0 11 rfl<|bK be (xs:=(L++[(M.objects.getD k ⟨0,[]⟩).id,((((M.objects.getD k ⟨0,[]⟩).value.length:Nat) : Int)%256)])) (ys:=((M.objects.getD k ⟨0,[]⟩).value)) (vB 0) 1 D (aV.old ak (ut v N (am (aU g c.size) aD))) (by(try simp only[bM,ax]);omega) (le (le (le (le (le (le l.size u) o.size) p.size) i.size) j.size) q.size) fun az aA bw aF E=>?_
 have O:=aI.blk E (bA (dJ r D (by decide)) aE) r
 refine bv ⟨(ae O rfl),(ae O rfl)⟩ fun aL=>Rt 12 aL<|re<|bn<|tn<|go<|bp ((k:Int)+1)<|Pl 1<|nl<|?_
 exact gK ((k+1),((L++[(M.objects.getD k ⟨0,[]⟩).id,((((M.objects.getD k ⟨0,[]⟩).value.length:Nat) : Int)%256)])++(M.objects.getD k ⟨0,[]⟩).value),az,aA) ⟨(ut H (ut (aI.mono (S':=(ob A++(ob ay++[]))) N (am il aD)) E (am il aD)) (am (aU g lr) (am (aU D lr) aD))),(le (le (le (le (le (le u o.size) p.size) i.size) j.size) q.size) E.size),aF,(by(try dsimp only);omega),(by(try dsimp only);rw[← hL,pC  M.objects k (by omega)];simp only[List.append_assoc]),(by(try dsimp only);have hv:=hf.objv _ (eB ⟨0,[]⟩ M.objects k (by omega));(try simp only[bM,ax]);omega),(by(try dsimp only);(try simp only[bM]);omega)⟩ (by omega)
 have ad:=of_decide_eq_false n
 refine xt<|tx<|tx<|bx<|tn<|aB 2<|rt<|rr (.slice A L.length cp)<|?_
 have hk:k=M.objects.length:=by omega
 rw[hk,List.drop_length] at hL
 have hL2:L=([M.mei,M.kind,M.level,M.more,M.next,((M.objects.length:Int)%256)])++eT M.objects:=by rw[← hL];simp[eT]
 have hs:dA dir M=L:=by
   rw[hL2]
   unfold dA
   (try simp only[d,f,n,bi,reduceIte])
   all_goals rfl
 rw[hs]
 exact⟨_,rfl,(aZ.weaken g c.size),v⟩
open Go.RowKit
def g7 (dir code:Int)(r:dl) : List Int:=(if code==20&&dir==1 then [(1+2*(r.words.length:Int))%256,6] else [6]++aN [r.file,r.record,r.count])++aN r.words
def cE (dir code:Int) : List dl→List Int
  | []=>[]
  | r :: rs=>g7 dir code r++cE dir code rs
theorem gO(dir code:Int)(xs:List dl)(k:Nat)(h:k<xs.length) : cE dir code (xs.drop k)=g7 dir code (xs.getD k ⟨0,0,0,[]⟩)++cE dir code (xs.drop (k+1)):=by
  rw[List.drop_eq_getElem_cons h]
  simp[cE,List.getD_eq_getElem?_getD,List.getElem?_eq_getElem h]
def dg (dir:Int)(M:aS) : List Int:=([0]++cE dir M.code M.recs).set 0 (((([0]++cE dir M.code M.recs).length:Int)-1)%256)
theorem vG{m:Md}{cs:Array Value}{M:aS}{w:World}{dir:Int}(h:aH m w cs.toList M)(hf:bh M) : Calls Tryz.prog 159 #[vI dir,.agg cs] w (jP (dg dir M) w):=by
 refine fC h fun Aw kw Ab kb Ad kd Ar kr Ao ko e hw hbt hd hr ho _ _ _ _ _ _ _ _ _ _ q0 q1 q2 q3 q4 q5 q6 q7 q8 q9 cy cz cA cB cC cF cG=>?_
 subst e
 have hf1:=hf.words
 have hf2:=hf.bits
 have hf3:=hf.data
 have hf4:=hf.recs
 have hf5:=hf.objects
 refine en 58 Tryz.func159 rfl<|sg<|L0<|cY (mG M.code M.fail M.addr M.count M.value M.and_ M.or_ M.addr2 M.sub M.status M.events M.messages (.slice Aw M.words.length kw) (.slice Ab M.bits.length kb) (.slice Ad M.data.length kd) (.slice Ar M.recs.length kr) M.mei M.kind M.level M.more M.next (.slice Ao M.objects.length ko)) fun av ac cH aw l=>Pl 1<|ng<|L0<|cX (m:=1) (e:=5) #[vB 0] fun bs bt bw bz g=>?_
 have bB:=cD bw (xs:=[0]) (by as_aux_lemma=>kernel_rfl) (al (by omega) aP) (by(try simp only[List.length_cons,List.length_nil]);omega) bz
 refine ah 1<|sq<|aq 1<|?_
 refine aC (ub g aw) 15<|ah 2<|bk<|je (fun x=>[(0,vI dir),(3,vP av 0),(4,nS),(5,.slice x.2.2.1 x.2.1.length x.2.2.2),(10,.slice Ar M.recs.length kr),(11,vI (M.recs.length:Int)),(12,vI (x.1:Int))]) (fun(x:Nat × List Int × Option Addr × Nat) w'=>aI [] ac w'∧bt.heap.size≤w'.heap.size∧eE ac.heap.size w' (.slice x.2.2.1 x.2.1.length x.2.2.2) x.2.1∧(x.1≤M.recs.length)∧(x.2.1++cE dir M.code (M.recs.drop x.1)=([0])++cE dir M.code M.recs)∧(x.2.1.length≤16+x.1*2060)∧(1≤x.2.1.length)) (fun x=>M.recs.length-x.1) (0,[0],some ⟨bs,0,none⟩,1) ⟨g,lr,bB,(by(try dsimp only);omega),rfl,(by(try dsimp only);(try simp only[List.length_cons,List.length_nil]);omega),(by(try dsimp only);(try simp only[List.length_cons,List.length_nil]);omega)⟩ ?_
 rintro⟨k,L,A,cp⟩ bC ⟨az,f,bD,bE,bF,bG,bH⟩
 refine gi [(0,vI dir),(3,vP av 0),(4,nS),(5,.slice A L.length cp),(10,.slice Ar M.recs.length kr),(11,vI (M.recs.length:Int)),(12,vI (k:Int))] ?_
 have a:eE ac.heap.size bC (.slice A L.length cp) L:=bD
 have cI:k≤M.recs.length:=bE
 have cJ:L++cE dir M.code (M.recs.drop k)=([0])++cE dir M.code M.recs:=bF
 have cK:L.length≤16+k*2060:=bG
 have cL:1≤L.length:=bH
 have hL:L++cE dir M.code (M.recs.drop k)=([0])++cE dir M.code M.recs:=by assumption
 have hv0:=fun(h:k<M.recs.length)=>hf.recw _ (eB ⟨0,0,0,[]⟩ M.recs k h)
 refine aB 1<|sq<|?_
 have ad:=aJ l az
 refine cb ((decide ((k:Int)<(M.recs.length:Int)))) (fun n=>?_) (fun n=>?_)
 have bI:=of_decide_eq_true n
 refine bu<|sq<|bk<|sg<|nw (oA.elt hr k (by omega)) fun cM cN cO cP cQ aA aF bJ bL Q cS bN=>L0<|w9 4 M.recs.length k bJ (by omega)<|?_
 refine L0<|DU [vW ((M.recs.getD k ⟨0,0,0,[]⟩).file),vW ((M.recs.getD k ⟨0,0,0,[]⟩).record),vW ((M.recs.getD k ⟨0,0,0,[]⟩).count),.slice aA ((M.recs.getD k ⟨0,0,0,[]⟩).words.length) aF] (ub ad bL) bN<|aK #[vW 0,vW 0,vW 0,nS] fun af cT B bO b=>aG bO #[vW ((M.recs.getD k ⟨0,0,0,[]⟩).file),vW ((M.recs.getD k ⟨0,0,0,[]⟩).record),vW ((M.recs.getD k ⟨0,0,0,[]⟩).count),.slice aA ((M.recs.getD k ⟨0,0,0,[]⟩).words.length) aF] fun cU aj c=>nt<|sq<|bk<|aq 1<|?_
 have s:=ud b c B
 have C:=aJ az s
 refine aC (ub C aw) 0<|Pl 2<|cu 3 [32] 35 (((M.code==20)&&(dir==1))) (fun K aL=>?_) ?_
 refine bl 32 ((M.code==20)) (fun D=>?_) (fun D=>?_)
 have bP:=ag D
 exact Pl 3<|ce aL (dir==1) (by rw[D];rfl)
 have bP:=ai D
 exact Pl 3<|ce aL false (by rw[D];rfl)
 refine ah 1<|?_
 have R:=aJ ad s
 refine cb (((M.code==20)&&(dir==1))) (fun o=>?_) (fun o=>?_)
 have aM:=(b7 o).1
 have aO:=(b7 o).2
 have cV:=ag aM
 have cW:=ag aO
 refine go<|Pl 2<|aC aj 3<|Pl 1<|bp (2*(((M.recs.getD k ⟨0,0,0,[]⟩).words.length:Nat) : Int))<|bp (1+(2*(((M.recs.getD k ⟨0,0,0,[]⟩).words.length:Nat) : Int)))<|Pl 1<|L0<|cX (m:=2) (e:=5) #[vB ((1+(2*(((M.recs.getD k ⟨0,0,0,[]⟩).words.length:Nat) : Int)))%256),vB 6] fun cZ d0 bQ bR E=>?_
 have bS:=cD bQ (xs:=[((1+(2*(((M.recs.getD k ⟨0,0,0,[]⟩).words.length:Nat) : Int)))%256),6]) (by as_aux_lemma=>kernel_rfl) (al (by omega) (al (by omega) aP)) (by(try simp only[List.length_cons,List.length_nil]);omega) bR
 refine L0<|bK be (xs:=L) (ys:=([((1+(2*(((M.recs.getD k ⟨0,0,0,[]⟩).words.length:Nat) : Int)))%256),6])) (vB 0) 1 (au a (aJ s E) (fun x hx=>aE) (fun _ _ h=>h)) (bS).rd (by(try simp only[bM,ax]);omega) (le (le (le (le g.size f) b.size) c.size) E.size) fun aQ d1 d2 aR ak=>Pl 1<|nl<|bn<|tn<|go<|Pl 2<|?_
 have an:=ut (aI.mono (S':=(ob A++[])) E aD) ak (am il aD)
 refine aC (aI.blk an (bA (fA a lr B) aE) aj) 3<|?_
 refine ay<|dU (cR (xs:=(M.recs.getD k ⟨0,0,0,[]⟩).words) (eF.old Q (ut R an (am (aU a l.size) aD))) (by(try simp only[List.length_cons,List.length_nil]);omega)) fun d3 d4 d5 bT d6 d7 S=>?_
 refine L0<|bK be (xs:=(L++[((1+(2*(((M.recs.getD k ⟨0,0,0,[]⟩).words.length:Nat) : Int)))%256),6])) (ys:=(aN ((M.recs.getD k ⟨0,0,0,[]⟩).words))) (vB 0) 1 (au aR S (fun x hx=>aE) (fun _ _ h=>h)) (bT).rd (by(try simp only[bM,ax]);omega) (le (le (le (le (le (le g.size f) b.size) c.size) E.size) ak.size) S.size) fun bU bV d8 bW aT=>Pl 1<|nl<|bn<|tn<|go<|bp ((k:Int)+1)<|Pl 1<|nl<|?_
 exact gK ((k+1),((L++[((1+(2*(((M.recs.getD k ⟨0,0,0,[]⟩).words.length:Nat) : Int)))%256),6])++(aN ((M.recs.getD k ⟨0,0,0,[]⟩).words))),bU,bV) ⟨(ut C (ut (aI.mono (S':=(ob A++(ob aQ++[]))) an (am il aD)) (ut (aI.mono (S':=(ob aQ++[])) S aD) aT (am il aD)) (am il aD)) (am (aU a lr) (am (aU aR lr) aD))),(le (le (le (le (le (le f b.size) c.size) E.size) ak.size) S.size) aT.size),bW,(by(try dsimp only);omega),(by(try dsimp only);rw[← hL,gO dir M.code M.recs k (by omega)];simp only[g7,n,o,aM,aO,bi,List.append_assoc]),(by(try dsimp only);have hv:=hf.recw _ (eB ⟨0,0,0,[]⟩ M.recs k (by omega));(try simp only[bM,ax]);omega),(by(try dsimp only);(try simp only[bM]);omega)⟩ (by omega)
 refine Rg 13 (fun w'=>w'.cell? ⟨af,0,none⟩=some (vW ((M.recs.getD k ⟨0,0,0,[]⟩).file))∧w'.cell? ⟨af,1,none⟩=some (vW ((M.recs.getD k ⟨0,0,0,[]⟩).record))∧w'.cell? ⟨af,2,none⟩=some (vW ((M.recs.getD k ⟨0,0,0,[]⟩).count))) fun d9 d=>?_
 have F:=ub d aj
 refine bv ⟨(ae F rfl),(ae F rfl),(ae F rfl)⟩ fun p=>Rt 0 p<|Rt 3 p<|Rl 4 p (fun _ hs=>hs.1)<|Rt 5 p<|Rl 6 p (fun _ hs=>hs.2.1)<|Rt 7 p<|Rl 8 p (fun _ hs=>hs.2.2)<|R2 1 9 rfl rfl ?_ ?_
 refine  cX (m:=1) (e:=5) #[vB 6] fun da db bX bY i=>?_
 have aW:=cD bX (xs:=[6]) (by as_aux_lemma=>kernel_rfl) (al (by omega) aP) (by(try simp only[List.length_cons,List.length_nil]);omega) bY
 have G:=ub i F
 refine bv ⟨(ae G rfl),(ae G rfl),(ae G rfl)⟩ fun dc=>?_
 refine R2 2 9 rfl rfl ?_ ?_
 have aX:=aJ d i
 refine  bK be (xs:=L) (ys:=([6])) (vB 0) 1 (au a (aJ s aX) (fun x hx=>aE) (fun _ _ h=>h)) (aW).rd (by(try simp only[bM,ax]);omega) (le (le (le (le (le g.size f) b.size) c.size) d.size) i.size) fun T dd de ao H=>?_
 have U:=aI.blk H (bA (fA a lr B) aE) G
 refine bv ⟨(ae U rfl),(ae U rfl),(ae U rfl)⟩ fun df=>R0 9 rfl<|cX (m:=3) (e:=37) #[vW ((M.recs.getD k ⟨0,0,0,[]⟩).file),vW ((M.recs.getD k ⟨0,0,0,[]⟩).record),vW ((M.recs.getD k ⟨0,0,0,[]⟩).count)] fun dh di bZ c0 I=>?_
 have c1:=eH bZ (xs:=[(M.recs.getD k ⟨0,0,0,[]⟩).file,(M.recs.getD k ⟨0,0,0,[]⟩).record,(M.recs.getD k ⟨0,0,0,[]⟩).count]) (by as_aux_lemma=>kernel_rfl) (al (by omega) (al (by omega) (al (by omega) aP))) (by(try simp only[List.length_cons,List.length_nil]);omega) c0
 have V:=ub I U
 refine bv ⟨(ae V rfl),(ae V rfl),(ae V rfl)⟩ fun dj=>R0 10 rfl<|Oc<|dU (cR (xs:=[(M.recs.getD k ⟨0,0,0,[]⟩).file,(M.recs.getD k ⟨0,0,0,[]⟩).record,(M.recs.getD k ⟨0,0,0,[]⟩).count]) (c1).rd (by(try simp only[List.length_cons,List.length_nil]);omega)) fun dk dl dm c2 dn dp J=>?_
 have N:=ub J V
 refine bv ⟨(ae N rfl),(ae N rfl),(ae N rfl)⟩ fun dq=>?_
 have aY:=aJ I J
 have b0:=au ao aY (fun x hx=>aE) (fun _ _ h=>h)
 refine R0 11 rfl<|bK be (xs:=(L++[6])) (ys:=(aN ([(M.recs.getD k ⟨0,0,0,[]⟩).file,(M.recs.getD k ⟨0,0,0,[]⟩).record,(M.recs.getD k ⟨0,0,0,[]⟩).count]))) (vB 0) 1 b0 (c2).rd (by(try simp only[bM,ax]);omega) (le (le (le (le (le (le (le (le g.size f) b.size) c.size) d.size) i.size) H.size) I.size) J.size) fun b1 dr ds b2 W=>?_
 have X:=aI.blk W (bA (dJ N b0 (by decide)) aE) N
 refine bv ⟨(ae X rfl),(ae X rfl),(ae X rfl)⟩ fun c3=>Rt 12 c3<|re<|bn<|tn<|go<|Pl 2<|aC X 3<|?_
 have b3:=ut (aI.mono (S':=(ob A++(ob T++[]))) aX aD) (ut (aI.mono (S':=(ob A++(ob T++[]))) H (am il aD)) (ut (aI.mono (S':=(ob T++[])) aY aD) W (am il aD)) (am il aD)) (am il (am il aD))
 refine ay<|dU (cR (xs:=(M.recs.getD k ⟨0,0,0,[]⟩).words) (eF.old Q (ut R b3 (am (aU a l.size) (am (aU ao l.size) aD)))) (by(try simp only[List.length_cons,List.length_nil]);omega)) fun dt du dv c4 dw dx Y=>?_
 refine L0<|bK be (xs:=((L++[6])++(aN ([(M.recs.getD k ⟨0,0,0,[]⟩).file,(M.recs.getD k ⟨0,0,0,[]⟩).record,(M.recs.getD k ⟨0,0,0,[]⟩).count])))) (ys:=(aN ((M.recs.getD k ⟨0,0,0,[]⟩).words))) (vB 0) 1 (au b2 Y (fun x hx=>aE) (fun _ _ h=>h)) (c4).rd (by(try simp only[bM,ax]);omega) (le (le (le (le (le (le (le (le (le (le g.size f) b.size) c.size) d.size) i.size) H.size) I.size) J.size) W.size) Y.size) fun c5 c6 dy c7 b4=>Pl 1<|nl<|bn<|tn<|go<|bp ((k:Int)+1)<|Pl 1<|nl<|?_
 exact gK ((k+1),(((L++[6])++(aN ([(M.recs.getD k ⟨0,0,0,[]⟩).file,(M.recs.getD k ⟨0,0,0,[]⟩).record,(M.recs.getD k ⟨0,0,0,[]⟩).count])))++(aN ((M.recs.getD k ⟨0,0,0,[]⟩).words))),c5,c6) ⟨(ut C (ut (aI.mono (S':=(ob A++(ob T++(ob b1++[])))) b3 (am il (am il aD))) (ut (aI.mono (S':=(ob b1++[])) Y aD) b4 (am il aD)) (am il aD)) (am (aU a lr) (am (aU ao lr) (am (aU b2 lr) aD)))),(le (le (le (le (le (le (le (le (le (le f b.size) c.size) d.size) i.size) H.size) I.size) J.size) W.size) Y.size) b4.size),c7,(by(try dsimp only);omega),(by(try dsimp only);rw[← hL,gO dir M.code M.recs k (by omega)];simp only[g7,n,o,bi,List.append_assoc]),(by(try dsimp only);have hv:=hf.recw _ (eB ⟨0,0,0,[]⟩ M.recs k (by omega));(try simp only[bM,ax]);omega),(by(try dsimp only);(try simp only[bM]);omega)⟩ (by omega)
 refine  cX (m:=3) (e:=37) #[vW ((M.recs.getD k ⟨0,0,0,[]⟩).file),vW ((M.recs.getD k ⟨0,0,0,[]⟩).record),vW ((M.recs.getD k ⟨0,0,0,[]⟩).count)] fun dz dA c8 c9 q=>?_
 have b5:=eH c8 (xs:=[(M.recs.getD k ⟨0,0,0,[]⟩).file,(M.recs.getD k ⟨0,0,0,[]⟩).record,(M.recs.getD k ⟨0,0,0,[]⟩).count]) (by as_aux_lemma=>kernel_rfl) (al (by omega) (al (by omega) (al (by omega) aP))) (by(try simp only[List.length_cons,List.length_nil]);omega) c9
 have Z:=ub q G
 refine bv ⟨(ae Z rfl),(ae Z rfl),(ae Z rfl)⟩ fun dB=>?_
 have b6:=aJ d (aJ i q)
 refine R0 2 rfl<|bK be (xs:=L) (ys:=([6])) (vB 0) 1 (au a (aJ s b6) (fun x hx=>aE) (fun _ _ h=>h)) ((au aW q (fun x hx=>aE) (fun _ _ h=>h))).rd (by(try simp only[bM,ax]);omega) (le (le (le (le (le (le g.size f) b.size) c.size) d.size) i.size) q.size) fun a0 dC dD ap t=>?_
 have a1:=aI.blk t (bA (fA a lr B) aE) Z
 refine bv ⟨(ae a1 rfl),(ae a1 rfl),(ae a1 rfl)⟩ fun dE=>?_
 refine R0 10 rfl<|Oc<|dU (cR (xs:=[(M.recs.getD k ⟨0,0,0,[]⟩).file,(M.recs.getD k ⟨0,0,0,[]⟩).record,(M.recs.getD k ⟨0,0,0,[]⟩).count]) ((au b5 t (fun x hx=>(bA ((jY b5 a (le (le (le b.size c.size) d.size) i.size)) x hx) aE)) (fun _ _ h=>h))).rd (by(try simp only[List.length_cons,List.length_nil]);omega)) fun dF dG dH ca dI dK u=>?_
 have O:=ub u a1
 refine bv ⟨(ae O rfl),(ae O rfl),(ae O rfl)⟩ fun dL=>?_
 have b8:=au ap u (fun x hx=>aE) (fun _ _ h=>h)
 refine R0 11 rfl<|bK be (xs:=(L++[6])) (ys:=(aN ([(M.recs.getD k ⟨0,0,0,[]⟩).file,(M.recs.getD k ⟨0,0,0,[]⟩).record,(M.recs.getD k ⟨0,0,0,[]⟩).count]))) (vB 0) 1 b8 (ca).rd (by(try simp only[bM,ax]);omega) (le (le (le (le (le (le (le (le g.size f) b.size) c.size) d.size) i.size) q.size) t.size) u.size) fun b9 dM dN ba a2=>?_
 have a3:=aI.blk a2 (bA (dJ O b8 (by decide)) aE) O
 refine bv ⟨(ae a3 rfl),(ae a3 rfl),(ae a3 rfl)⟩ fun cc=>Rt 12 cc<|re<|bn<|tn<|go<|Pl 2<|aC a3 3<|?_
 have bb:=ut (aI.mono (S':=(ob A++(ob a0++[]))) b6 aD) (ut (aI.mono (S':=(ob A++(ob a0++[]))) t (am il aD)) (ut (aI.mono (S':=(ob a0++[])) u aD) a2 (am il aD)) (am il aD)) (am il (am il aD))
 refine ay<|dU (cR (xs:=(M.recs.getD k ⟨0,0,0,[]⟩).words) (eF.old Q (ut R bb (am (aU a l.size) (am (aU ap l.size) aD)))) (by(try simp only[List.length_cons,List.length_nil]);omega)) fun dO dP dQ cd dR dS a4=>?_
 refine L0<|bK be (xs:=((L++[6])++(aN ([(M.recs.getD k ⟨0,0,0,[]⟩).file,(M.recs.getD k ⟨0,0,0,[]⟩).record,(M.recs.getD k ⟨0,0,0,[]⟩).count])))) (ys:=(aN ((M.recs.getD k ⟨0,0,0,[]⟩).words))) (vB 0) 1 (au ba a4 (fun x hx=>aE) (fun _ _ h=>h)) (cd).rd (by(try simp only[bM,ax]);omega) (le (le (le (le (le (le (le (le (le (le g.size f) b.size) c.size) d.size) i.size) q.size) t.size) u.size) a2.size) a4.size) fun cf cg dT ch bc=>Pl 1<|nl<|bn<|tn<|go<|bp ((k:Int)+1)<|Pl 1<|nl<|?_
 exact gK ((k+1),(((L++[6])++(aN ([(M.recs.getD k ⟨0,0,0,[]⟩).file,(M.recs.getD k ⟨0,0,0,[]⟩).record,(M.recs.getD k ⟨0,0,0,[]⟩).count])))++(aN ((M.recs.getD k ⟨0,0,0,[]⟩).words))),cf,cg) ⟨(ut C (ut (aI.mono (S':=(ob A++(ob a0++(ob b9++[])))) bb (am il (am il aD))) (ut (aI.mono (S':=(ob b9++[])) a4 aD) bc (am il aD)) (am il aD)) (am (aU a lr) (am (aU ap lr) (am (aU ba lr) aD)))),(le (le (le (le (le (le (le (le (le (le f b.size) c.size) d.size) i.size) q.size) t.size) u.size) a2.size) a4.size) bc.size),ch,(by(try dsimp only);omega),(by(try dsimp only);rw[← hL,gO dir M.code M.recs k (by omega)];simp only[g7,n,o,bi,List.append_assoc]),(by(try dsimp only);have hv:=hf.recw _ (eB ⟨0,0,0,[]⟩ M.recs k (by omega));(try simp only[bM,ax]);omega),(by(try dsimp only);(try simp only[bM]);omega)⟩ (by omega)
 refine  cX (m:=3) (e:=37) #[vW ((M.recs.getD k ⟨0,0,0,[]⟩).file),vW ((M.recs.getD k ⟨0,0,0,[]⟩).record),vW ((M.recs.getD k ⟨0,0,0,[]⟩).count)] fun dV dW ci cj v=>?_
 have bd:=eH ci (xs:=[(M.recs.getD k ⟨0,0,0,[]⟩).file,(M.recs.getD k ⟨0,0,0,[]⟩).record,(M.recs.getD k ⟨0,0,0,[]⟩).count]) (by as_aux_lemma=>kernel_rfl) (al (by omega) (al (by omega) (al (by omega) aP))) (by(try simp only[List.length_cons,List.length_nil]);omega) cj
 have a5:=ub v F
 refine bv ⟨(ae a5 rfl),(ae a5 rfl),(ae a5 rfl)⟩ fun dX=>R0 1 rfl<|cX (m:=1) (e:=5) #[vB 6] fun dY dZ ck cl r=>?_
 have cm:=cD ck (xs:=[6]) (by as_aux_lemma=>kernel_rfl) (al (by omega) aP) (by(try simp only[List.length_cons,List.length_nil]);omega) cl
 have a6:=ub r a5
 refine bv ⟨(ae a6 rfl),(ae a6 rfl),(ae a6 rfl)⟩ fun e0=>?_
 have bf:=aJ d (aJ v r)
 refine R0 2 rfl<|bK be (xs:=L) (ys:=([6])) (vB 0) 1 (au a (aJ s bf) (fun x hx=>aE) (fun _ _ h=>h)) (cm).rd (by(try simp only[bM,ax]);omega) (le (le (le (le (le (le g.size f) b.size) c.size) d.size) v.size) r.size) fun a7 e1 e2 ar y=>?_
 have a8:=aI.blk y (bA (fA a lr B) aE) a6
 refine bv ⟨(ae a8 rfl),(ae a8 rfl),(ae a8 rfl)⟩ fun e3=>?_
 refine R0 10 rfl<|Oc<|dU (cR (xs:=[(M.recs.getD k ⟨0,0,0,[]⟩).file,(M.recs.getD k ⟨0,0,0,[]⟩).record,(M.recs.getD k ⟨0,0,0,[]⟩).count]) ((au bd (ut (aI.mono (S':=(ob A++[])) r aD) y (am il aD)) (fun x hx=>(bA ((jY bd a (le (le b.size c.size) d.size)) x hx) aE)) (fun _ _ h=>h))).rd (by(try simp only[List.length_cons,List.length_nil]);omega)) fun e4 e5 e6 cn e7 e8 z=>?_
 have P:=ub z a8
 refine bv ⟨(ae P rfl),(ae P rfl),(ae P rfl)⟩ fun e9=>?_
 have bg:=au ar z (fun x hx=>aE) (fun _ _ h=>h)
 refine R0 11 rfl<|bK be (xs:=(L++[6])) (ys:=(aN ([(M.recs.getD k ⟨0,0,0,[]⟩).file,(M.recs.getD k ⟨0,0,0,[]⟩).record,(M.recs.getD k ⟨0,0,0,[]⟩).count]))) (vB 0) 1 bg (cn).rd (by(try simp only[bM,ax]);omega) (le (le (le (le (le (le (le (le g.size f) b.size) c.size) d.size) v.size) r.size) y.size) z.size) fun bj ea eb bm a9=>?_
 have aa:=aI.blk a9 (bA (dJ P bg (by decide)) aE) P
 refine bv ⟨(ae aa rfl),(ae aa rfl),(ae aa rfl)⟩ fun co=>Rt 12 co<|re<|bn<|tn<|go<|Pl 2<|aC aa 3<|?_
 have bo:=ut (aI.mono (S':=(ob A++(ob a7++[]))) bf aD) (ut (aI.mono (S':=(ob A++(ob a7++[]))) y (am il aD)) (ut (aI.mono (S':=(ob a7++[])) z aD) a9 (am il aD)) (am il aD)) (am il (am il aD))
 refine ay<|dU (cR (xs:=(M.recs.getD k ⟨0,0,0,[]⟩).words) (eF.old Q (ut R bo (am (aU a l.size) (am (aU ar l.size) aD)))) (by(try simp only[List.length_cons,List.length_nil]);omega)) fun ec ed ee cq ef eg ab=>?_
 refine L0<|bK be (xs:=((L++[6])++(aN ([(M.recs.getD k ⟨0,0,0,[]⟩).file,(M.recs.getD k ⟨0,0,0,[]⟩).record,(M.recs.getD k ⟨0,0,0,[]⟩).count])))) (ys:=(aN ((M.recs.getD k ⟨0,0,0,[]⟩).words))) (vB 0) 1 (au bm ab (fun x hx=>aE) (fun _ _ h=>h)) (cq).rd (by(try simp only[bM,ax]);omega) (le (le (le (le (le (le (le (le (le (le g.size f) b.size) c.size) d.size) v.size) r.size) y.size) z.size) a9.size) ab.size) fun cr ct eh cv bq=>Pl 1<|nl<|bn<|tn<|go<|bp ((k:Int)+1)<|Pl 1<|nl<|?_
 exact gK ((k+1),(((L++[6])++(aN ([(M.recs.getD k ⟨0,0,0,[]⟩).file,(M.recs.getD k ⟨0,0,0,[]⟩).record,(M.recs.getD k ⟨0,0,0,[]⟩).count])))++(aN ((M.recs.getD k ⟨0,0,0,[]⟩).words))),cr,ct) ⟨(ut C (ut (aI.mono (S':=(ob A++(ob a7++(ob bj++[])))) bo (am il (am il aD))) (ut (aI.mono (S':=(ob bj++[])) ab aD) bq (am il aD)) (am il aD)) (am (aU a lr) (am (aU ar lr) (am (aU bm lr) aD)))),(le (le (le (le (le (le (le (le (le (le f b.size) c.size) d.size) v.size) r.size) y.size) z.size) a9.size) ab.size) bq.size),cv,(by(try dsimp only);omega),(by(try dsimp only);rw[← hL,gO dir M.code M.recs k (by omega)];simp only[g7,n,o,bi,List.append_assoc]),(by(try dsimp only);have hv:=hf.recw _ (eB ⟨0,0,0,[]⟩ M.recs k (by omega));(try simp only[bM,ax]);omega),(by(try dsimp only);(try simp only[bM]);omega)⟩ (by omega)
 have bI:=of_decide_eq_false n
 refine xt<|tx<|tx<|bx<|tn<|aq 3<|bp ((L.length:Int)-1)<|Pl 1<|fo (aV.at_ (a).rd 0 (by omega)) fun ei ej br ek el=>L0<|lc L.length 0 br (by omega)<|L0<|Ed be (j:=0) a br (by omega) (((L.length:Int)-1)%256) (fun _=>⟨rfl,by omega⟩) fun em cw cx=>nl<|tn<|aB 2<|rt<|rr (.slice A L.length cp)<|?_
 have hk:k=M.recs.length:=by omega
 rw[hk,List.drop_length] at hL
 have hL2:[0]++cE dir M.code M.recs=L:=by rw[← hL];simp[cE]
 have hs:dg dir M=(L.set 0 (((L.length:Int)-1)%256)):=by unfold dg;rw[hL2]
 rw[hs]
 exact⟨_,rfl,(aZ.weaken cw l.size),(ut ad cx (am (aU a l.size) aD))⟩
open Go.RowKit
theorem kv{parse:Int→Int→List Int→aS × Int}{lay:Int→aS→List Int}{dir E:Int}{M X:aS}(hX:parse dir M.code (lay dir M)=(X,E))(hE:(E != 0)=true) : bt parse lay dir M=none:=by
  unfold bt
  rw[hX,if_neg]
  intro h
  injection h with h1 h2
  rw[h2] at hE
  cases hE
theorem kC{parse:Int→Int→List Int→aS × Int}{lay:Int→aS→List Int}{dir E:Int}{M X:aS}(hX:parse dir M.code (lay dir M)=(X,E))(hE:decide (X=M)=false) : bt parse lay dir M=none:=by
  unfold bt
  rw[hX,if_neg]
  intro h
  injection h with h1 h2
  rw[h1] at hE
  simp at hE
theorem ji{parse:Int→Int→List Int→aS × Int}{lay:Int→aS→List Int}{dir E:Int}{M X:aS}(hX:parse dir M.code (lay dir M)=(X,E))(hE:(E != 0)=false)(h:decide (X=M)=true) : bt parse lay dir M=some (lay dir M):=by
  unfold bt
  have h1:X=M:=by simpa using h
  have h2:E=0:=by simpa using hE
  rw[hX,h1,h2,if_pos rfl]
theorem cL{x y:Option (List Int)}(h:x=y){w:World}{e:Ending}{w':World}(k:dT y w e w') : dT x w e w':=by rw[h];exact k
theorem m6{m:Md}{cs:Array Value}{M:aS}{w:World}{dir:Int}(h:aH m w cs.toList M)(hf:bh M)(hlen:(cC dir M).length≤1048576) : Calls Tryz.prog 97 #[vI dir,.agg cs] w (dT (bt gH cC dir M) w):=by
 have hM:=h
 refine fC h fun Aw kw Ab kb Ad kd Ar kr Ao ko e hw hbt hd hr ho _ _ _ _ _ _ _ _ _ _ q0 q1 q2 q3 q4 q5 q6 q7 q8 q9 P Q R S T U V=>?_
 subst e
 refine en 29 Tryz.func97 rfl<|sg<|L0<|cY (mG M.code M.fail M.addr M.count M.value M.and_ M.or_ M.addr2 M.sub M.status M.events M.messages (.slice Aw M.words.length kw) (.slice Ab M.bits.length kb) (.slice Ad M.data.length kd) (.slice Ar M.recs.length kr) M.mei M.kind M.level M.more M.next (.slice Ao M.objects.length ko)) fun W X Y l i=>Pl 2<|aL 1<|L0<|cm l<|?_
 have n:=aH.old hM i
 refine ay<|dU (xl (dir:=dir) n hf) fun z C D o Z a0 p=>Pl 1<|aL 2<|?_
 have q:=ub p l
 refine aC q 0<|Pl 1<|pr (gH dir M.code (cC dir M)) fun f E g=>?_
 have r:Calls _ _ _ _ (eN (gH dir M.code (cC dir M)) D):=lO (dir:=dir) (c:=M.code) q0 (o).rd hlen
 rw[g] at r
 refine ay<|e2 (r) fun F a1 a G=>Pl 3<|aK mZ fun a2 a3 H I J=>aG (hz:=(by rw[a.size];exact aQ)) (hv:=a.size) (h1:=a.one) I (F) fun a4 K L=>ah 1<|sq<|aq 3<|?_
 have s:=ud J L H
 have j:=aJ G s
 have t:=aJ p j
 have u:=aJ i t
 refine bl 22 ((E != 0)) (fun b=>?_) (fun b=>?_)
 have N:=aA b
 refine ah 5<|c1<|aB 2<|b6<|rr (.tuple #[nS,vI 1])<|cL (kv g b) ?_
 exact⟨rfl,u⟩
 have N:=aF b
 refine L1<|cm (hz:=(by rw[a.size];exact aQ)) K<|?_
 refine L1<|cm (ub j q)<|?_
 refine L1<|Oc<|m1 (ij (A:=f) (B:=M) (aH.upd a s aM) (aH.old n t)) fun a5 v=>ah 2<|?_
 have y:=aJ u v
 refine cb ((!(decide (f=M)))) (fun k=>?_) (fun k=>?_)
 have d:(decide (f=M))=false:=by simpa using k
 have O:=of_decide_eq_false d
 refine aB 2<|b6<|rr (.tuple #[nS,vI 1])<|cL (kC g d) ?_
 exact⟨rfl,y⟩
 have d:(decide (f=M))=true:=by simpa using k
 have O:=of_decide_eq_true d
 refine bu<|aB 3<|rt<|rr (.tuple #[.slice z ((cC dir M).length) C,vI 0])<|?_
 refine cL (ji g b d) ?_
 exact⟨_,rfl,(aZ.weaken (au o (aJ j v) (fun x hx=>aE) (fun _ _ h=>h)) i.size),y⟩
theorem nI{m:Md}{cs:Array Value}{M:aS}{w:World}{dir:Int}(h:aH m w cs.toList M)(hf:bh M)(hlen:(cj dir M).length≤1048576) : Calls Tryz.prog 99 #[vI dir,.agg cs] w (dT (bt ib cj dir M) w):=by
 have hM:=h
 refine fC h fun Aw kw Ab kb Ad kd Ar kr Ao ko e hw hbt hd hr ho _ _ _ _ _ _ _ _ _ _ q0 q1 q2 q3 q4 q5 q6 q7 q8 q9 P Q R S T U V=>?_
 subst e
 refine en 29 Tryz.func99 rfl<|sg<|L0<|cY (mG M.code M.fail M.addr M.count M.value M.and_ M.or_ M.addr2 M.sub M.status M.events M.messages (.slice Aw M.words.length kw) (.slice Ab M.bits.length kb) (.slice Ad M.data.length kd) (.slice Ar M.recs.length kr) M.mei M.kind M.level M.more M.next (.slice Ao M.objects.length ko)) fun W X Y l i=>Pl 2<|aL 1<|L0<|cm l<|?_
 have n:=aH.old hM i
 refine ay<|dU (yL (dir:=dir) n hf) fun z C D o Z a0 p=>Pl 1<|aL 2<|?_
 have q:=ub p l
 refine aC q 0<|Pl 1<|pr (ib dir M.code (cj dir M)) fun f E g=>?_
 have r:Calls _ _ _ _ (eN (ib dir M.code (cj dir M)) D):=mJ (dir:=dir) (c:=M.code) q0 (o).rd hlen
 rw[g] at r
 refine ay<|e2 (r) fun F a1 a G=>Pl 3<|aK mZ fun a2 a3 H I J=>aG (hz:=(by rw[a.size];exact aQ)) (hv:=a.size) (h1:=a.one) I (F) fun a4 K L=>ah 1<|sq<|aq 3<|?_
 have s:=ud J L H
 have j:=aJ G s
 have t:=aJ p j
 have u:=aJ i t
 refine bl 22 ((E != 0)) (fun b=>?_) (fun b=>?_)
 have N:=aA b
 refine ah 5<|c1<|aB 2<|b6<|rr (.tuple #[nS,vI 1])<|cL (kv g b) ?_
 exact⟨rfl,u⟩
 have N:=aF b
 refine L1<|cm (hz:=(by rw[a.size];exact aQ)) K<|?_
 refine L1<|cm (ub j q)<|?_
 refine L1<|Oc<|m1 (ij (A:=f) (B:=M) (aH.upd a s aM) (aH.old n t)) fun a5 v=>ah 2<|?_
 have y:=aJ u v
 refine cb ((!(decide (f=M)))) (fun k=>?_) (fun k=>?_)
 have d:(decide (f=M))=false:=by simpa using k
 have O:=of_decide_eq_false d
 refine aB 2<|b6<|rr (.tuple #[nS,vI 1])<|cL (kC g d) ?_
 exact⟨rfl,y⟩
 have d:(decide (f=M))=true:=by simpa using k
 have O:=of_decide_eq_true d
 refine bu<|aB 3<|rt<|rr (.tuple #[.slice z ((cj dir M).length) C,vI 0])<|?_
 refine cL (ji g b d) ?_
 exact⟨_,rfl,(aZ.weaken (au o (aJ j v) (fun x hx=>aE) (fun _ _ h=>h)) i.size),y⟩
theorem mW{m:Md}{cs:Array Value}{M:aS}{w:World}{dir:Int}(h:aH m w cs.toList M)(hf:bh M)(hlen:(bV dir M).length≤1048576) : Calls Tryz.prog 101 #[vI dir,.agg cs] w (dT (bt ig bV dir M) w):=by
 have hM:=h
 refine fC h fun Aw kw Ab kb Ad kd Ar kr Ao ko e hw hbt hd hr ho _ _ _ _ _ _ _ _ _ _ q0 q1 q2 q3 q4 q5 q6 q7 q8 q9 P Q R S T U V=>?_
 subst e
 refine en 29 Tryz.func101 rfl<|sg<|L0<|cY (mG M.code M.fail M.addr M.count M.value M.and_ M.or_ M.addr2 M.sub M.status M.events M.messages (.slice Aw M.words.length kw) (.slice Ab M.bits.length kb) (.slice Ad M.data.length kd) (.slice Ar M.recs.length kr) M.mei M.kind M.level M.more M.next (.slice Ao M.objects.length ko)) fun W X Y l i=>Pl 2<|aL 1<|L0<|cm l<|?_
 have n:=aH.old hM i
 refine ay<|dU (zX (dir:=dir) n hf) fun z C D o Z a0 p=>Pl 1<|aL 2<|?_
 have q:=ub p l
 refine aC q 0<|Pl 1<|pr (ig dir M.code (bV dir M)) fun f E g=>?_
 have r:Calls _ _ _ _ (eN (ig dir M.code (bV dir M)) D):=nq (dir:=dir) (c:=M.code) q0 (o).rd hlen
 rw[g] at r
 refine ay<|e2 (r) fun F a1 a G=>Pl 3<|aK mZ fun a2 a3 H I J=>aG (hz:=(by rw[a.size];exact aQ)) (hv:=a.size) (h1:=a.one) I (F) fun a4 K L=>ah 1<|sq<|aq 3<|?_
 have s:=ud J L H
 have j:=aJ G s
 have t:=aJ p j
 have u:=aJ i t
 refine bl 22 ((E != 0)) (fun b=>?_) (fun b=>?_)
 have N:=aA b
 refine ah 5<|c1<|aB 2<|b6<|rr (.tuple #[nS,vI 1])<|cL (kv g b) ?_
 exact⟨rfl,u⟩
 have N:=aF b
 refine L1<|cm (hz:=(by rw[a.size];exact aQ)) K<|?_
 refine L1<|cm (ub j q)<|?_
 refine L1<|Oc<|m1 (ij (A:=f) (B:=M) (aH.upd a s aM) (aH.old n t)) fun a5 v=>ah 2<|?_
 have y:=aJ u v
 refine cb ((!(decide (f=M)))) (fun k=>?_) (fun k=>?_)
 have d:(decide (f=M))=false:=by simpa using k
 have O:=of_decide_eq_false d
 refine aB 2<|b6<|rr (.tuple #[nS,vI 1])<|cL (kC g d) ?_
 exact⟨rfl,y⟩
 have d:(decide (f=M))=true:=by simpa using k
 have O:=of_decide_eq_true d
 refine bu<|aB 3<|rt<|rr (.tuple #[.slice z ((bV dir M).length) C,vI 0])<|?_
 refine cL (ji g b d) ?_
 exact⟨_,rfl,(aZ.weaken (au o (aJ j v) (fun x hx=>aE) (fun _ _ h=>h)) i.size),y⟩
theorem pm{m:Md}{cs:Array Value}{M:aS}{w:World}{dir:Int}(h:aH m w cs.toList M)(hf:bh M)(hlen:(dA dir M).length≤1048576) : Calls Tryz.prog 105 #[vI dir,.agg cs] w (dT (bt jt dA dir M) w):=by
 have hM:=h
 refine fC h fun Aw kw Ab kb Ad kd Ar kr Ao ko e hw hbt hd hr ho _ _ _ _ _ _ _ _ _ _ q0 q1 q2 q3 q4 q5 q6 q7 q8 q9 P Q R S T U V=>?_
 subst e
 refine en 29 Tryz.func105 rfl<|sg<|L0<|cY (mG M.code M.fail M.addr M.count M.value M.and_ M.or_ M.addr2 M.sub M.status M.events M.messages (.slice Aw M.words.length kw) (.slice Ab M.bits.length kb) (.slice Ad M.data.length kd) (.slice Ar M.recs.length kr) M.mei M.kind M.level M.more M.next (.slice Ao M.objects.length ko)) fun W X Y l i=>Pl 2<|aL 1<|L0<|cm l<|?_
 have n:=aH.old hM i
 refine ay<|dU (AG (dir:=dir) n hf) fun z C D o Z a0 p=>Pl 1<|aL 2<|?_
 have q:=ub p l
 refine aC q 0<|Pl 1<|pr (jt dir M.code (dA dir M)) fun f E g=>?_
 have r:Calls _ _ _ _ (eN (jt dir M.code (dA dir M)) D):=pn (dir:=dir) (c:=M.code) q0 (o).rd hlen
 rw[g] at r
 refine ay<|e2 (r) fun F a1 a G=>Pl 3<|aK mZ fun a2 a3 H I J=>aG (hz:=(by rw[a.size];exact aQ)) (hv:=a.size) (h1:=a.one) I (F) fun a4 K L=>ah 1<|sq<|aq 3<|?_
 have s:=ud J L H
 have j:=aJ G s
 have t:=aJ p j
 have u:=aJ i t
 refine bl 22 ((E != 0)) (fun b=>?_) (fun b=>?_)
 have N:=aA b
 refine ah 5<|c1<|aB 2<|b6<|rr (.tuple #[nS,vI 1])<|cL (kv g b) ?_
 exact⟨rfl,u⟩
 have N:=aF b
 refine L1<|cm (hz:=(by rw[a.size];exact aQ)) K<|?_
 refine L1<|cm (ub j q)<|?_
 refine L1<|Oc<|m1 (ij (A:=f) (B:=M) (aH.upd a s aM) (aH.old n t)) fun a5 v=>ah 2<|?_
 have y:=aJ u v
 refine cb ((!(decide (f=M)))) (fun k=>?_) (fun k=>?_)
 have d:(decide (f=M))=false:=by simpa using k
 have O:=of_decide_eq_false d
 refine aB 2<|b6<|rr (.tuple #[nS,vI 1])<|cL (kC g d) ?_
 exact⟨rfl,y⟩
 have d:(decide (f=M))=true:=by simpa using k
 have O:=of_decide_eq_true d
 refine bu<|aB 3<|rt<|rr (.tuple #[.slice z ((dA dir M).length) C,vI 0])<|?_
 refine cL (ji g b d) ?_
 exact⟨_,rfl,(aZ.weaken (au o (aJ j v) (fun x hx=>aE) (fun _ _ h=>h)) i.size),y⟩
theorem lG{m:Md}{cs:Array Value}{M:aS}{w:World}{dir:Int}(h:aH m w cs.toList M)(hf:bh M)(hlen:(dg dir M).length≤1048576) : Calls Tryz.prog 103 #[vI dir,.agg cs] w (dT (bt gw dg dir M) w):=by
 have hM:=h
 refine fC h fun Aw kw Ab kb Ad kd Ar kr Ao ko e hw hbt hd hr ho _ _ _ _ _ _ _ _ _ _ q0 q1 q2 q3 q4 q5 q6 q7 q8 q9 P Q R S T U V=>?_
 subst e
 refine en 29 Tryz.func103 rfl<|sg<|L0<|cY (mG M.code M.fail M.addr M.count M.value M.and_ M.or_ M.addr2 M.sub M.status M.events M.messages (.slice Aw M.words.length kw) (.slice Ab M.bits.length kb) (.slice Ad M.data.length kd) (.slice Ar M.recs.length kr) M.mei M.kind M.level M.more M.next (.slice Ao M.objects.length ko)) fun W X Y l i=>Pl 2<|aL 1<|L0<|cm l<|?_
 have n:=aH.old hM i
 refine ay<|dU (vG (dir:=dir) n hf) fun z C D o Z a0 p=>Pl 1<|aL 2<|?_
 have q:=ub p l
 refine aC q 0<|Pl 1<|pr (gw dir M.code (dg dir M)) fun f E g=>?_
 have r:Calls _ _ _ _ (eN (gw dir M.code (dg dir M)) D):=lP (dir:=dir) (c:=M.code) q0 (o).rd hlen
 rw[g] at r
 refine ay<|e2 (r) fun F a1 a G=>Pl 3<|aK mZ fun a2 a3 H I J=>aG (hz:=(by rw[a.size];exact aQ)) (hv:=a.size) (h1:=a.one) I (F) fun a4 K L=>ah 1<|sq<|aq 3<|?_
 have s:=ud J L H
 have j:=aJ G s
 have t:=aJ p j
 have u:=aJ i t
 refine bl 22 ((E != 0)) (fun b=>?_) (fun b=>?_)
 have N:=aA b
 refine ah 5<|c1<|aB 2<|b6<|rr (.tuple #[nS,vI 1])<|cL (kv g b) ?_
 exact⟨rfl,u⟩
 have N:=aF b
 refine L1<|cm (hz:=(by rw[a.size];exact aQ)) K<|?_
 refine L1<|cm (ub j q)<|?_
 refine L1<|Oc<|m1 (ij (A:=f) (B:=M) (aH.upd a s aM) (aH.old n t)) fun a5 v=>ah 2<|?_
 have y:=aJ u v
 refine cb ((!(decide (f=M)))) (fun k=>?_) (fun k=>?_)
 have d:(decide (f=M))=false:=by simpa using k
 have O:=of_decide_eq_false d
 refine aB 2<|b6<|rr (.tuple #[nS,vI 1])<|cL (kC g d) ?_
 exact⟨rfl,y⟩
 have d:(decide (f=M))=true:=by simpa using k
 have O:=of_decide_eq_true d
 refine bu<|aB 3<|rt<|rr (.tuple #[.slice z ((dg dir M).length) C,vI 0])<|?_
 refine cL (ji g b d) ?_
 exact⟨_,rfl,(aZ.weaken (au o (aJ j v) (fun x hx=>aE) (fun _ _ h=>h)) i.size),y⟩
open Go.RowKit
def i6:Nat→Int→aS→Option (List Int)
  | 1,dir,M=>bt gH cC dir M
  | 2,dir,M=>bt ib cj dir M
  | 3,dir,M=>bt ig bV dir M
  | 4,dir,M=>bt gw dg dir M
  | 5,dir,M=>bt jt dA dir M
  | _,_,_=>none
def cZ (dir:Int)(M:aS) : Option (List Int) :=
  if M.fail != 0 then (if dir != 1 then none else oG M)
  else match i6 (ka M.code) dir M with
    | none=>none
    | some l=>if decide (253≤(l.length:Int)) then none else some ([M.code]++l)
theorem nY:∀ (L:List Obj),(∀ r,r∈L→r.value.length≤1024)→(eT L).length≤1026*L.length
  | [],_=>by simp[eT]
  | r :: L,h=>by
    have h1:=h r (by simp)
    have h2:=nY L fun x hx=>h x (by simp[hx])
    simp only[eT,List.length_append,List.length_cons,List.length_nil]
    omega
theorem nd(dir c:Int) : ∀ (L:List dl),(∀ r,r∈L→r.words.length≤1024)→(cE dir c L).length≤2064*L.length
  | [],_=>by simp[cE]
  | r :: L,h=>by
    have h1:=h r (by simp)
    have h2:=nd dir c L fun x hx=>h x (by simp[hx])
    simp only[cE,g7]
    repeat' split
    all_goals simp only[bM,ax]
    all_goals omega
theorem fK{M:aS}(hf:bh M)(dir:Int) : (cC dir M).length≤1048576∧(cj dir M).length≤1048576∧(bV dir M).length≤1048576∧(dA dir M).length≤1048576∧(dg dir M).length≤1048576:=by
  have hp:(bP M.bits).length≤1024:=by
    have:=hf.bits
    simp only[bP,List.length_map,List.length_range,ep]
    omega
  have h1:=hf.words
  have h2:=hf.data
  have h3:=hf.objects
  have h4:=nY M.objects hf.objv
  have h5:=nd dir M.code M.recs hf.recw
  have h6:=hf.recs
  refine⟨?_,?_,?_,?_,?_⟩
  · unfold cC
    repeat' split
    all_goals simp only[bM,ax]
    all_goals omega
  · unfold cj
    repeat' split
    all_goals simp only[bM,ax]
    all_goals omega
  · unfold bV
    repeat' split
    all_goals simp only[bM,ax]
    all_goals omega
  · unfold dA
    repeat' split
    all_goals simp only[bM]
    all_goals omega
  · unfold dg
    simp only[List.length_set,List.length_append,List.length_cons,List.length_nil]
    omega
theorem gn{m:Md}{cs:Array Value}{M:aS}{w:World}{dir:Int}(h:aH m w cs.toList M)(hf:bh M) : Calls Tryz.prog 51 #[vI dir,.agg cs] w (dT (cZ dir M) w):=by
 have hM:=h
 refine fC h fun Aw kw Ab kb Ad kd Ar kr Ao ko e hw hbt hd hr ho _ _ _ _ _ _ _ _ _ _ q0 q1 q2 q3 q4 q5 q6 q7 q8 q9 ch ci d ck cl cn co=>?_
 subst e
 refine en 47 Tryz.func51 rfl<|sg<|L0<|cY (mG M.code M.fail M.addr M.count M.value M.and_ M.or_ M.addr2 M.sub M.status M.events M.messages (.slice Aw M.words.length kw) (.slice Ab M.bits.length kb) (.slice Ad M.data.length kd) (.slice Ar M.recs.length kr) M.mei M.kind M.level M.more M.next (.slice Ao M.objects.length ko)) fun cp f cq c b=>ah 2<|sq<|aq 1<|aC c 1<|Pl 1<|nl<|tn<|cb ((M.fail != 0)) (fun a=>?_) (fun a=>?_)
 have aj:=aA a
 refine sq<|aB 2<|cb ((dir != 1)) (fun d=>?_) (fun d=>?_)
 have ak:=aA d
 exact aB 2<|b6<|tr<|rr (.tuple #[nS,vI 1])<|cI (y:=none) (by unfold cZ;(try simp only[a,d,bi,reduceIte])<;>rfl) ⟨rfl,b⟩
 have ak:=aF d
 refine bu<|sg<|L0<|cm c<|?_
 rcases hwr:oG M with _|lw
 have F:=pF (aH.old hM b)
 rw[hwr] at F
 refine ay<|m1 F fun cr an=>ah 4<|b6<|rr (.tuple #[nS,vI 1])<|?_
 exact cI (y:=none) (by unfold cZ;(try simp only[a,d,bi,hwr,reduceIte])<;>rfl) ⟨rfl,(aJ b an)⟩
 have G:=pF (aH.old hM b)
 rw[hwr] at G
 refine ay<|dU G fun ao ap ct ar cu cv av=>ah 4<|b6<|rr (.tuple #[.slice ao lw.length ap,vI 0])<|?_
 exact cI (y:=(some lw)) (by unfold cZ;(try simp only[a,d,bi,hwr,reduceIte])<;>rfl) ⟨_,rfl,(aZ.weaken ar b.size),(aJ b av)⟩
 have aj:=aF a
 refine bu<|aq 1<|aC c 0<|?_
 rcases iA M.code with⟨hk,hkf⟩|⟨hk,hkf⟩|⟨hk,hkf⟩|⟨hk,hkf⟩|⟨hk,hkf⟩|⟨hk,hkf⟩
 have H:=fZ (x:=M.code) (w:=f)
 rw[hkf] at H
 refine ay<|m1 H fun cw aw=>Pl 3<|aK #[.nilFunc,.nilFunc] fun cx cy az aI aL=>aG aI #[.func (.func 96) #[] #[],.func (.func 97) #[] #[]] fun cz aM aN=>ah 1<|sq<|aB 2<|c0<|bu<|aq 1<|aC aM 1<|Pl 1<|?_
 have I:=aJ aw (ud aL aN az)
 have J:=ub I c
 refine L0<|cm J<|?_
 have n:=aJ b I
 rcases hwr:bt gH cC dir M with _|lw
 have K:=m6 (dir:=dir) (aH.old hM n) hf (fK hf dir).1
 rw[hwr] at K
 refine L0<|i8 #[] #[] (args:=#[vI dir,.agg (mG M.code M.fail M.addr M.count M.value M.and_ M.or_ M.addr2 M.sub M.status M.events M.messages (.slice Aw M.words.length kw) (.slice Ab M.bits.length kb) (.slice Ad M.data.length kd) (.slice Ar M.recs.length kr) M.mei M.kind M.level M.more M.next (.slice Ao M.objects.length ko))])<|m1 K fun cA aO=>ah 5<|sq<|aB 7<|c1<|aq 2<|nl<|tn<|b6<|rr (.tuple #[nS,vI 1])<|?_
 exact cI (y:=none) (by unfold cZ;(try simp only[a,bi,hkf,i6,hwr,reduceIte])<;>rfl) ⟨rfl,(aJ n aO)⟩
 have L:=m6 (dir:=dir) (aH.old hM n) hf (fK hf dir).1
 rw[hwr] at L
 refine L0<|i8 #[] #[] (args:=#[vI dir,.agg (mG M.code M.fail M.addr M.count M.value M.and_ M.or_ M.addr2 M.sub M.status M.events M.messages (.slice Aw M.words.length kw) (.slice Ab M.bits.length kb) (.slice Ad M.data.length kd) (.slice Ar M.recs.length kr) M.mei M.kind M.level M.more M.next (.slice Ao M.objects.length ko))])<|dU L fun cB cE cF aQ cG cH N=>ah 5<|sq<|aB 7<|?_
 have s:=aJ n N
 refine cb ((decide (253≤(lw.length:Int)))) (fun g=>?_) (fun g=>?_)
 have aR:=of_decide_eq_true g
 exact aB 2<|b6<|rr (.tuple #[nS,vI 1])<|cI (y:=none) (by unfold cZ;(try simp only[a,g,bi,hkf,i6,hwr,reduceIte])<;>rfl) ⟨rfl,s⟩
 have aR:=of_decide_eq_false g
 refine bu<|aq 1<|?_
 refine aC (ub N J) 0<|L0<|cX (m:=1) (e:=5) #[vB M.code] fun cJ cK aT aV t=>?_
 have O:=cD aT (xs:=[M.code]) (by as_aux_lemma=>kernel_rfl) (al (by omega) aP) (by(try simp only[List.length_cons,List.length_nil]);omega) aV
 refine Pl 1<|?_
 refine L0<|bK be (xs:=([M.code])) (ys:=lw) (vB 0) 1 O ((au aQ t (fun x hx=>aE) (fun _ _ h=>h))).rd (by(try simp only[bM,ax]);omega) t.size fun aW aX cL aY b0=>ah 2<|rt<|rr (.tuple #[.slice aW (([M.code]++lw).length) aX,vI 0])<|?_
 exact cI (y:=(some ([M.code]++lw))) (by unfold cZ;(try simp only[a,g,bi,hkf,i6,hwr,reduceIte])<;>rfl) ⟨_,rfl,(aZ.weaken aY s.size),(aJ s (ut t b0 (am (aU O lr) aD)))⟩
 have P:=fZ (x:=M.code) (w:=f)
 rw[hkf] at P
 refine ay<|m1 P fun cM b1=>Pl 3<|aK #[.nilFunc,.nilFunc] fun cN cO b2 b3 b4=>aG b3 #[.func (.func 98) #[] #[],.func (.func 99) #[] #[]] fun cP b5 b7=>ah 1<|sq<|aB 2<|c0<|bu<|aq 1<|aC b5 1<|Pl 1<|?_
 have Q:=aJ b1 (ud b4 b7 b2)
 have R:=ub Q c
 refine L0<|cm R<|?_
 have o:=aJ b Q
 rcases hwr:bt ib cj dir M with _|lw
 have S:=nI (dir:=dir) (aH.old hM o) hf (fK hf dir).2.1
 rw[hwr] at S
 refine L0<|i8 #[] #[] (args:=#[vI dir,.agg (mG M.code M.fail M.addr M.count M.value M.and_ M.or_ M.addr2 M.sub M.status M.events M.messages (.slice Aw M.words.length kw) (.slice Ab M.bits.length kb) (.slice Ad M.data.length kd) (.slice Ar M.recs.length kr) M.mei M.kind M.level M.more M.next (.slice Ao M.objects.length ko))])<|m1 S fun cQ b8=>ah 5<|sq<|aB 7<|c1<|aq 2<|nl<|tn<|b6<|rr (.tuple #[nS,vI 1])<|?_
 exact cI (y:=none) (by unfold cZ;(try simp only[a,bi,hkf,i6,hwr,reduceIte])<;>rfl) ⟨rfl,(aJ o b8)⟩
 have T:=nI (dir:=dir) (aH.old hM o) hf (fK hf dir).2.1
 rw[hwr] at T
 refine L0<|i8 #[] #[] (args:=#[vI dir,.agg (mG M.code M.fail M.addr M.count M.value M.and_ M.or_ M.addr2 M.sub M.status M.events M.messages (.slice Aw M.words.length kw) (.slice Ab M.bits.length kb) (.slice Ad M.data.length kd) (.slice Ar M.recs.length kr) M.mei M.kind M.level M.more M.next (.slice Ao M.objects.length ko))])<|dU T fun cR cS cT b9 cU cV U=>ah 5<|sq<|aB 7<|?_
 have u:=aJ o U
 refine cb ((decide (253≤(lw.length:Int)))) (fun i=>?_) (fun i=>?_)
 have ba:=of_decide_eq_true i
 exact aB 2<|b6<|rr (.tuple #[nS,vI 1])<|cI (y:=none) (by unfold cZ;(try simp only[a,i,bi,hkf,i6,hwr,reduceIte])<;>rfl) ⟨rfl,u⟩
 have ba:=of_decide_eq_false i
 refine bu<|aq 1<|?_
 refine aC (ub U R) 0<|L0<|cX (m:=1) (e:=5) #[vB M.code] fun cW d0 bb bc v=>?_
 have V:=cD bb (xs:=[M.code]) (by as_aux_lemma=>kernel_rfl) (al (by omega) aP) (by(try simp only[List.length_cons,List.length_nil]);omega) bc
 refine Pl 1<|?_
 refine L0<|bK be (xs:=([M.code])) (ys:=lw) (vB 0) 1 V ((au b9 v (fun x hx=>aE) (fun _ _ h=>h))).rd (by(try simp only[bM,ax]);omega) v.size fun bd bf d1 bg bj=>ah 2<|rt<|rr (.tuple #[.slice bd (([M.code]++lw).length) bf,vI 0])<|?_
 exact cI (y:=(some ([M.code]++lw))) (by unfold cZ;(try simp only[a,i,bi,hkf,i6,hwr,reduceIte])<;>rfl) ⟨_,rfl,(aZ.weaken bg u.size),(aJ u (ut v bj (am (aU V lr) aD)))⟩
 have W:=fZ (x:=M.code) (w:=f)
 rw[hkf] at W
 refine ay<|m1 W fun d2 bk=>Pl 3<|aK #[.nilFunc,.nilFunc] fun d3 d4 bl bm bn=>aG bm #[.func (.func 100) #[] #[],.func (.func 101) #[] #[]] fun d5 bo bp=>ah 1<|sq<|aB 2<|c0<|bu<|aq 1<|aC bo 1<|Pl 1<|?_
 have X:=aJ bk (ud bn bp bl)
 have Y:=ub X c
 refine L0<|cm Y<|?_
 have p:=aJ b X
 rcases hwr:bt ig bV dir M with _|lw
 have Z:=mW (dir:=dir) (aH.old hM p) hf (fK hf dir).2.2.1
 rw[hwr] at Z
 refine L0<|i8 #[] #[] (args:=#[vI dir,.agg (mG M.code M.fail M.addr M.count M.value M.and_ M.or_ M.addr2 M.sub M.status M.events M.messages (.slice Aw M.words.length kw) (.slice Ab M.bits.length kb) (.slice Ad M.data.length kd) (.slice Ar M.recs.length kr) M.mei M.kind M.level M.more M.next (.slice Ao M.objects.length ko))])<|m1 Z fun d6 bq=>ah 5<|sq<|aB 7<|c1<|aq 2<|nl<|tn<|b6<|rr (.tuple #[nS,vI 1])<|?_
 exact cI (y:=none) (by unfold cZ;(try simp only[a,bi,hkf,i6,hwr,reduceIte])<;>rfl) ⟨rfl,(aJ p bq)⟩
 have a0:=mW (dir:=dir) (aH.old hM p) hf (fK hf dir).2.2.1
 rw[hwr] at a0
 refine L0<|i8 #[] #[] (args:=#[vI dir,.agg (mG M.code M.fail M.addr M.count M.value M.and_ M.or_ M.addr2 M.sub M.status M.events M.messages (.slice Aw M.words.length kw) (.slice Ab M.bits.length kb) (.slice Ad M.data.length kd) (.slice Ar M.recs.length kr) M.mei M.kind M.level M.more M.next (.slice Ao M.objects.length ko))])<|dU a0 fun d7 d8 d9 br da db a1=>ah 5<|sq<|aB 7<|?_
 have z:=aJ p a1
 refine cb ((decide (253≤(lw.length:Int)))) (fun j=>?_) (fun j=>?_)
 have bs:=of_decide_eq_true j
 exact aB 2<|b6<|rr (.tuple #[nS,vI 1])<|cI (y:=none) (by unfold cZ;(try simp only[a,j,bi,hkf,i6,hwr,reduceIte])<;>rfl) ⟨rfl,z⟩
 have bs:=of_decide_eq_false j
 refine bu<|aq 1<|?_
 refine aC (ub a1 Y) 0<|L0<|cX (m:=1) (e:=5) #[vB M.code] fun dc dd bv bw A=>?_
 have a2:=cD bv (xs:=[M.code]) (by as_aux_lemma=>kernel_rfl) (al (by omega) aP) (by(try simp only[List.length_cons,List.length_nil]);omega) bw
 refine Pl 1<|?_
 refine L0<|bK be (xs:=([M.code])) (ys:=lw) (vB 0) 1 a2 ((au br A (fun x hx=>aE) (fun _ _ h=>h))).rd (by(try simp only[bM,ax]);omega) A.size fun bx bz de bA bB=>ah 2<|rt<|rr (.tuple #[.slice bx (([M.code]++lw).length) bz,vI 0])<|?_
 exact cI (y:=(some ([M.code]++lw))) (by unfold cZ;(try simp only[a,j,bi,hkf,i6,hwr,reduceIte])<;>rfl) ⟨_,rfl,(aZ.weaken bA z.size),(aJ z (ut A bB (am (aU a2 lr) aD)))⟩
 have a3:=fZ (x:=M.code) (w:=f)
 rw[hkf] at a3
 refine ay<|m1 a3 fun df bC=>Pl 3<|aK #[.nilFunc,.nilFunc] fun dh di bD bE bF=>aG bE #[.func (.func 102) #[] #[],.func (.func 103) #[] #[]] fun dj bG bH=>ah 1<|sq<|aB 2<|c0<|bu<|aq 1<|aC bG 1<|Pl 1<|?_
 have a4:=aJ bC (ud bF bH bD)
 have a5:=ub a4 c
 refine L0<|cm a5<|?_
 have q:=aJ b a4
 rcases hwr:bt gw dg dir M with _|lw
 have a6:=lG (dir:=dir) (aH.old hM q) hf (fK hf dir).2.2.2.2
 rw[hwr] at a6
 refine L0<|i8 #[] #[] (args:=#[vI dir,.agg (mG M.code M.fail M.addr M.count M.value M.and_ M.or_ M.addr2 M.sub M.status M.events M.messages (.slice Aw M.words.length kw) (.slice Ab M.bits.length kb) (.slice Ad M.data.length kd) (.slice Ar M.recs.length kr) M.mei M.kind M.level M.more M.next (.slice Ao M.objects.length ko))])<|m1 a6 fun dk bI=>ah 5<|sq<|aB 7<|c1<|aq 2<|nl<|tn<|b6<|rr (.tuple #[nS,vI 1])<|?_
 exact cI (y:=none) (by unfold cZ;(try simp only[a,bi,hkf,i6,hwr,reduceIte])<;>rfl) ⟨rfl,(aJ q bI)⟩
 have a7:=lG (dir:=dir) (aH.old hM q) hf (fK hf dir).2.2.2.2
 rw[hwr] at a7
 refine L0<|i8 #[] #[] (args:=#[vI dir,.agg (mG M.code M.fail M.addr M.count M.value M.and_ M.or_ M.addr2 M.sub M.status M.events M.messages (.slice Aw M.words.length kw) (.slice Ab M.bits.length kb) (.slice Ad M.data.length kd) (.slice Ar M.recs.length kr) M.mei M.kind M.level M.more M.next (.slice Ao M.objects.length ko))])<|dU a7 fun dl dm dn bJ dp dq a8=>ah 5<|sq<|aB 7<|?_
 have B:=aJ q a8
 refine cb ((decide (253≤(lw.length:Int)))) (fun k=>?_) (fun k=>?_)
 have bL:=of_decide_eq_true k
 exact aB 2<|b6<|rr (.tuple #[nS,vI 1])<|cI (y:=none) (by unfold cZ;(try simp only[a,k,bi,hkf,i6,hwr,reduceIte])<;>rfl) ⟨rfl,B⟩
 have bL:=of_decide_eq_false k
 refine bu<|aq 1<|?_
 refine aC (ub a8 a5) 0<|L0<|cX (m:=1) (e:=5) #[vB M.code] fun dr ds bN bO C=>?_
 have a9:=cD bN (xs:=[M.code]) (by as_aux_lemma=>kernel_rfl) (al (by omega) aP) (by(try simp only[List.length_cons,List.length_nil]);omega) bO
 refine Pl 1<|?_
 refine L0<|bK be (xs:=([M.code])) (ys:=lw) (vB 0) 1 a9 ((au bJ C (fun x hx=>aE) (fun _ _ h=>h))).rd (by(try simp only[bM,ax]);omega) C.size fun bP bQ dt bR bS=>ah 2<|rt<|rr (.tuple #[.slice bP (([M.code]++lw).length) bQ,vI 0])<|?_
 exact cI (y:=(some ([M.code]++lw))) (by unfold cZ;(try simp only[a,k,bi,hkf,i6,hwr,reduceIte])<;>rfl) ⟨_,rfl,(aZ.weaken bR B.size),(aJ B (ut C bS (am (aU a9 lr) aD)))⟩
 have aa:=fZ (x:=M.code) (w:=f)
 rw[hkf] at aa
 refine ay<|m1 aa fun du bT=>Pl 3<|aK #[.nilFunc,.nilFunc] fun dv dw bU bW bX=>aG bW #[.func (.func 104) #[] #[],.func (.func 105) #[] #[]] fun dx bY bZ=>ah 1<|sq<|aB 2<|c0<|bu<|aq 1<|aC bY 1<|Pl 1<|?_
 have ab:=aJ bT (ud bX bZ bU)
 have ac:=ub ab c
 refine L0<|cm ac<|?_
 have r:=aJ b ab
 rcases hwr:bt jt dA dir M with _|lw
 have ad:=pm (dir:=dir) (aH.old hM r) hf (fK hf dir).2.2.2.1
 rw[hwr] at ad
 refine L0<|i8 #[] #[] (args:=#[vI dir,.agg (mG M.code M.fail M.addr M.count M.value M.and_ M.or_ M.addr2 M.sub M.status M.events M.messages (.slice Aw M.words.length kw) (.slice Ab M.bits.length kb) (.slice Ad M.data.length kd) (.slice Ar M.recs.length kr) M.mei M.kind M.level M.more M.next (.slice Ao M.objects.length ko))])<|m1 ad fun dy c2=>ah 5<|sq<|aB 7<|c1<|aq 2<|nl<|tn<|b6<|rr (.tuple #[nS,vI 1])<|?_
 exact cI (y:=none) (by unfold cZ;(try simp only[a,bi,hkf,i6,hwr,reduceIte])<;>rfl) ⟨rfl,(aJ r c2)⟩
 have ae:=pm (dir:=dir) (aH.old hM r) hf (fK hf dir).2.2.2.1
 rw[hwr] at ae
 refine L0<|i8 #[] #[] (args:=#[vI dir,.agg (mG M.code M.fail M.addr M.count M.value M.and_ M.or_ M.addr2 M.sub M.status M.events M.messages (.slice Aw M.words.length kw) (.slice Ab M.bits.length kb) (.slice Ad M.data.length kd) (.slice Ar M.recs.length kr) M.mei M.kind M.level M.more M.next (.slice Ao M.objects.length ko))])<|dU ae fun dz dB dC c3 dD dE af=>ah 5<|sq<|aB 7<|?_
 have D:=aJ r af
 refine cb ((decide (253≤(lw.length:Int)))) (fun l=>?_) (fun l=>?_)
 have c4:=of_decide_eq_true l
 exact aB 2<|b6<|rr (.tuple #[nS,vI 1])<|cI (y:=none) (by unfold cZ;(try simp only[a,l,bi,hkf,i6,hwr,reduceIte])<;>rfl) ⟨rfl,D⟩
 have c4:=of_decide_eq_false l
 refine bu<|aq 1<|?_
 refine aC (ub af ac) 0<|L0<|cX (m:=1) (e:=5) #[vB M.code] fun dF dG c5 c6 E=>?_
 have ag:=cD c5 (xs:=[M.code]) (by as_aux_lemma=>kernel_rfl) (al (by omega) aP) (by(try simp only[List.length_cons,List.length_nil]);omega) c6
 refine Pl 1<|?_
 refine L0<|bK be (xs:=([M.code])) (ys:=lw) (vB 0) 1 ag ((au c3 E (fun x hx=>aE) (fun _ _ h=>h))).rd (by(try simp only[bM,ax]);omega) E.size fun c7 c8 dH c9 ca=>ah 2<|rt<|rr (.tuple #[.slice c7 (([M.code]++lw).length) c8,vI 0])<|?_
 exact cI (y:=(some ([M.code]++lw))) (by unfold cZ;(try simp only[a,l,bi,hkf,i6,hwr,reduceIte])<;>rfl) ⟨_,rfl,(aZ.weaken c9 D.size),(aJ D (ut E ca (am (aU ag lr) aD)))⟩
 have ai:=fZ (x:=M.code) (w:=f)
 rw[hkf] at ai
 refine ay<|m1 ai fun dI cc=>Pl 3<|aK #[.nilFunc,.nilFunc] fun dJ dK cd ce cf=>aG ce #[.nilFunc,.nilFunc] fun dL dM cg=>ah 1<|sq<|aB 2<|c1<|aB 2<|b6<|rr (.tuple #[nS,vI 1])<|?_
 exact cI (y:=none) (by unfold cZ;(try simp only[a,bi,hkf,i6,reduceIte])<;>rfl) ⟨rfl,(aJ b (aJ cc (ud cf cg cd)))⟩
open Go.RowKit
def ir:Nat→Int→List Int→aS × Int
  | 1,dir,b=>ak aR dir (b.getD 0 0) (b.drop 1)
  | 2,dir,b=>ak aY dir (b.getD 0 0) (b.drop 1)
  | 3,dir,b=>ak bo dir (b.getD 0 0) (b.drop 1)
  | 4,dir,b=>ak bg dir (b.getD 0 0) (b.drop 1)
  | 5,dir,b=>ak bJ dir (b.getD 0 0) (b.drop 1)
  | _,_,_=>(aS.zero,4)
def ci (dir:Int)(b:List Int) : aS × Int :=
  if dir != 0&&dir != 1 then (aS.zero,1)
  else if (b.length:Int)==0 then (aS.zero,2)
  else if decide (253<(b.length:Int)) then (aS.zero,3)
  else if decide (128≤b.getD 0 0)&&dir==1 then fd b
  else ir (ka (b.getD 0 0)) dir b
theorem tc{m:Md}{A:Option Addr}{cp:Nat}{b:List Int}{w:World}{dir:Int}(hsl:aV m w (.slice A b.length cp) b)(hb:b.length≤1048576) :
    Calls Tryz.prog 83 #[vI dir,.slice A b.length cp] w (eN (ci dir b) w):=by
 have hln:(b.length:Int)≤1048576:=by omega
 refine en 60 Tryz.func83 rfl<|sg<|aK mZ fun dq t h a f=>ah 1<|sq<|bk<|aq 3<|cu 3 [11] 14 (((dir != 0)&&(dir != 1))) (fun K S=>?_) ?_
 refine bl 11 ((dir != 0)) (fun u=>?_) (fun u=>?_)
 have bY:=aA u
 exact Pl 3<|ce S (dir != 1) (by rw[u];rfl)
 have bY:=aF u
 exact Pl 3<|ce S false (by rw[u];rfl)
 refine ah 1<|cb (((dir != 0)&&(dir != 1))) (fun d=>?_) (fun d=>?_)
 have bZ:=(b7 d).1
 have c2:=(b7 d).2
 refine aq 1<|aG a mZ fun dr c3 c4=>ah 1<|rt<|br<|tr<|ck c3 (vI 1)<|?_
 exact cI (by unfold ci;(try simp only[d,bZ,c2,bi,ir,reduceIte])<;>rfl) (cQ (ud f c4 h))
 refine aB 4<|cb (((b.length:Int)==0)) (fun e=>?_) (fun e=>?_)
 have c5:=ag e
 refine aq 1<|aG a mZ fun ds c6 c7=>ah 1<|rt<|br<|tr<|ck c6 (vI 2)<|?_
 exact cI (by unfold ci;(try simp only[d,e,bi,ir,reduceIte])<;>rfl) (cQ (ud f c7 h))
 have c5:=ai e
 refine aB 4<|cb ((decide (253<(b.length:Int)))) (fun g=>?_) (fun g=>?_)
 have c8:=of_decide_eq_true g
 refine aq 1<|aG a mZ fun dt c9 ca=>ah 1<|rt<|br<|tr<|ck c9 (vI 3)<|?_
 exact cI (by unfold ci;(try simp only[d,e,g,bi,ir,reduceIte])<;>rfl) (cQ (ud f ca h))
 have c8:=of_decide_eq_false g
 refine aq 1<|?_
 have s:=aV.old hsl f
 refine fo (aV.at_ s 0 (by omega)) fun T U V W du=>L0<|lc b.length 0 V (by omega)<|L0<|fR (p:=⟨T,U+0,none⟩) (v:=vB (b.getD 0 0)) W<|Pl 2<|cu 3 [31] 34 (((decide (128≤(b.getD 0 0)))&&(dir==1))) (fun K X=>?_) ?_
 refine bl 31 ((decide (128≤(b.getD 0 0)))) (fun y=>?_) (fun y=>?_)
 have cc:=of_decide_eq_true y
 exact Pl 3<|ce X (dir==1) (by rw[y];rfl)
 have cc:=of_decide_eq_false y
 exact Pl 3<|ce X false (by rw[y];rfl)
 refine ah 1<|cb (((decide (128≤(b.getD 0 0)))&&(dir==1))) (fun i=>?_) (fun i=>?_)
 have cd:=(b7 i).1
 have cf:=(b7 i).2
 refine aq 1<|ay<|e2 (wM s (by omega)) fun cg dv z Y=>Pl 2<|?_
 have Z:=ub Y a
 refine aG (hz:=(by rw[z.size];exact aQ)) (hv:=z.size) (h1:=z.one) Z (cg) fun dw ch a0=>ah 1<|rt<|br<|tr<|fO 22 z.size ch (vI (((fd b)).2))<|?_
 exact cI (by unfold ci;(try simp only[d,e,g,i,cd,cf,bi,ir,reduceIte])<;>rfl) ⟨_,rfl,(aH.upd z a0 (av (b9 Z (by decide)) aM)),(ud f (uz Y a0) h)⟩
 refine sk<|bn<|tn<|aq 1<|L0<|lc b.length 0 V (by omega)<|L0<|fR (p:=⟨T,U+0,none⟩) (v:=vB (b.getD 0 0)) W<|?_
 rcases iA (b.getD 0 0) with⟨hk,hkf⟩|⟨hk,hkf⟩|⟨hk,hkf⟩|⟨hk,hkf⟩|⟨hk,hkf⟩|⟨hk,hkf⟩
 have a1:=fZ (x:=(b.getD 0 0)) (w:=t)
 rw[hkf] at a1
 refine ay<|m1 a1 fun dx a2=>Pl 3<|aK #[.nilFunc,.nilFunc] fun cj dy a3 cl cm=>aG cl #[.func (.func 96) #[] #[],.func (.func 97) #[] #[]] fun dz cn co=>ah 1<|sq<|aB 2<|c0<|bu<|sq<|?_
 have a4:=aJ a2 (ud cm co a3)
 have a5:=aV.old s a4
 refine fo (aV.at_ a5 0 (by omega)) fun cq cr a6 a7 dA=>Rg 13 (fun w'=>w'.cell? ⟨cj,0,none⟩=some (.func (.func 96) #[] #[])∧w'.cell? ⟨cq,cr+0,none⟩=some (vB (b.getD 0 0))) fun dB G=>?_
 have a8:=ub G cn
 refine bv ⟨(ae a8 rfl),(uc G a7)⟩ fun j=>Rt 0 j<|Rl 1 j (fun _ hs=>hs.1)<|Rt 2 j<|Rt 3 j<|m0 4 j b.length 0 0 rfl a6 (by omega)<|Rl 5 j (fun _ hs=>hs.2)<|Rt 6 j<|ny (eh (P:=Tryz.prog) 27 5 1 Tryz.underlying27 rfl rfl A b.length cp 1 (by omega)) fun a9 hrun108 cs=>Rr 7 j (.slice a9 (b.length-1) (cp-1)) (fun _ _=>eC (kl:=.i64) (k:=((1:Nat) : Int)) (A:=A) (n:=b.length) (c:=cp) rfl Tryz.underlying27 (by kernel_rfl) (by kernel_rfl) (hrun108 _ _))<|?_
 refine R0 8 rfl<|i8 #[] #[] (args:=#[vI dir,vB (b.getD 0 0),.slice a9 (b.length-1) (cp-1)])<|e2 (lO (dir:=dir) (c:=(b.getD 0 0)) (b8 (by omega)) (cs _ _ _ _ _ (aV.old a5 G)) (by(try simp only[List.length_drop]);omega)) fun ct dC B aa=>?_
 have ab:=ub aa a8
 have ac:=aJ G aa
 refine bv ⟨(ae ab rfl),(uc ac a7)⟩ fun ad=>Rt 9 ad<|Rt 10 ad<|?_
 have af:=aJ a4 ac
 have aj:=ub af a
 refine R0 11 rfl<|mb (hz:=(by rw[B.size];exact aQ)) (hv:=B.size) (h1:=B.one) aj (ct) fun dD cv M=>?_
 have al:=ud f (uz af M) h
 refine bv ⟨(ae (bj M (Ne.symm (nb (az a) a2.size a3)) ab) rfl),(cB (aV.old hsl al) a6 0 (by omega))⟩ fun cw=>Rt 12 cw<|re<|tn<|rt<|fO 22 B.size cv (vI (((ak aR dir (b.getD 0 0) (b.drop 1))).2))<|?_
 exact cI (by unfold ci;(try simp only[d,e,g,i,bi,hkf,ir,reduceIte])<;>rfl) ⟨_,rfl,(aH.upd B M (av (b9 aj (by decide)) aM)),al⟩
 have am:=fZ (x:=(b.getD 0 0)) (w:=t)
 rw[hkf] at am
 refine ay<|m1 am fun dE an=>Pl 3<|aK #[.nilFunc,.nilFunc] fun cx dF ao cy cz=>aG cy #[.func (.func 98) #[] #[],.func (.func 99) #[] #[]] fun dG cA cC=>ah 1<|sq<|aB 2<|c0<|bu<|sq<|?_
 have ap:=aJ an (ud cz cC ao)
 have ar:=aV.old s ap
 refine fo (aV.at_ ar 0 (by omega)) fun cD cE au aw dH=>Rg 13 (fun w'=>w'.cell? ⟨cx,0,none⟩=some (.func (.func 98) #[] #[])∧w'.cell? ⟨cD,cE+0,none⟩=some (vB (b.getD 0 0))) fun dI H=>?_
 have ax:=ub H cA
 refine bv ⟨(ae ax rfl),(uc H aw)⟩ fun l=>Rt 0 l<|Rl 1 l (fun _ hs=>hs.1)<|Rt 2 l<|Rt 3 l<|m0 4 l b.length 0 0 rfl au (by omega)<|Rl 5 l (fun _ hs=>hs.2)<|Rt 6 l<|ny (eh (P:=Tryz.prog) 27 5 1 Tryz.underlying27 rfl rfl A b.length cp 1 (by omega)) fun aC hrun188 cF=>Rr 7 l (.slice aC (b.length-1) (cp-1)) (fun _ _=>eC (kl:=.i64) (k:=((1:Nat) : Int)) (A:=A) (n:=b.length) (c:=cp) rfl Tryz.underlying27 (by kernel_rfl) (by kernel_rfl) (hrun188 _ _))<|?_
 refine R0 8 rfl<|i8 #[] #[] (args:=#[vI dir,vB (b.getD 0 0),.slice aC (b.length-1) (cp-1)])<|e2 (mJ (dir:=dir) (c:=(b.getD 0 0)) (b8 (by omega)) (cF _ _ _ _ _ (aV.old ar H)) (by(try simp only[List.length_drop]);omega)) fun cG dJ C aD=>?_
 have aE:=ub aD ax
 have aI:=aJ H aD
 refine bv ⟨(ae aE rfl),(uc aI aw)⟩ fun aL=>Rt 9 aL<|Rt 10 aL<|?_
 have aN:=aJ ap aI
 have aO:=ub aN a
 refine R0 11 rfl<|mb (hz:=(by rw[C.size];exact aQ)) (hv:=C.size) (h1:=C.one) aO (cG) fun dK cH N=>?_
 have aP:=ud f (uz aN N) h
 refine bv ⟨(ae (bj N (Ne.symm (nb (az a) an.size ao)) aE) rfl),(cB (aV.old hsl aP) au 0 (by omega))⟩ fun cJ=>Rt 12 cJ<|re<|tn<|rt<|fO 22 C.size cH (vI (((ak aY dir (b.getD 0 0) (b.drop 1))).2))<|?_
 exact cI (by unfold ci;(try simp only[d,e,g,i,bi,hkf,ir,reduceIte])<;>rfl) ⟨_,rfl,(aH.upd C N (av (b9 aO (by decide)) aM)),aP⟩
 have aS:=fZ (x:=(b.getD 0 0)) (w:=t)
 rw[hkf] at aS
 refine ay<|m1 aS fun dL aT=>Pl 3<|aK #[.nilFunc,.nilFunc] fun cK dM aU cL cM=>aG cL #[.func (.func 100) #[] #[],.func (.func 101) #[] #[]] fun dN cN cO=>ah 1<|sq<|aB 2<|c0<|bu<|sq<|?_
 have aW:=aJ aT (ud cM cO aU)
 have aX:=aV.old s aW
 refine fo (aV.at_ aX 0 (by omega)) fun cP cR aZ b0 dO=>Rg 13 (fun w'=>w'.cell? ⟨cK,0,none⟩=some (.func (.func 100) #[] #[])∧w'.cell? ⟨cP,cR+0,none⟩=some (vB (b.getD 0 0))) fun dP I=>?_
 have b1:=ub I cN
 refine bv ⟨(ae b1 rfl),(uc I b0)⟩ fun o=>Rt 0 o<|Rl 1 o (fun _ hs=>hs.1)<|Rt 2 o<|Rt 3 o<|m0 4 o b.length 0 0 rfl aZ (by omega)<|Rl 5 o (fun _ hs=>hs.2)<|Rt 6 o<|ny (eh (P:=Tryz.prog) 27 5 1 Tryz.underlying27 rfl rfl A b.length cp 1 (by omega)) fun b2 hrun268 cS=>Rr 7 o (.slice b2 (b.length-1) (cp-1)) (fun _ _=>eC (kl:=.i64) (k:=((1:Nat) : Int)) (A:=A) (n:=b.length) (c:=cp) rfl Tryz.underlying27 (by kernel_rfl) (by kernel_rfl) (hrun268 _ _))<|?_
 refine R0 8 rfl<|i8 #[] #[] (args:=#[vI dir,vB (b.getD 0 0),.slice b2 (b.length-1) (cp-1)])<|e2 (nq (dir:=dir) (c:=(b.getD 0 0)) (b8 (by omega)) (cS _ _ _ _ _ (aV.old aX I)) (by(try simp only[List.length_drop]);omega)) fun cT dQ D b3=>?_
 have b4:=ub b3 b1
 have b5:=aJ I b3
 refine bv ⟨(ae b4 rfl),(uc b5 b0)⟩ fun ba=>Rt 9 ba<|Rt 10 ba<|?_
 have bb:=aJ aW b5
 have bc:=ub bb a
 refine R0 11 rfl<|mb (hz:=(by rw[D.size];exact aQ)) (hv:=D.size) (h1:=D.one) bc (cT) fun dR cU O=>?_
 have bd:=ud f (uz bb O) h
 refine bv ⟨(ae (bj O (Ne.symm (nb (az a) aT.size aU)) b4) rfl),(cB (aV.old hsl bd) aZ 0 (by omega))⟩ fun cV=>Rt 12 cV<|re<|tn<|rt<|fO 22 D.size cU (vI (((ak bo dir (b.getD 0 0) (b.drop 1))).2))<|?_
 exact cI (by unfold ci;(try simp only[d,e,g,i,bi,hkf,ir,reduceIte])<;>rfl) ⟨_,rfl,(aH.upd D O (av (b9 bc (by decide)) aM)),bd⟩
 have be:=fZ (x:=(b.getD 0 0)) (w:=t)
 rw[hkf] at be
 refine ay<|m1 be fun dS bf=>Pl 3<|aK #[.nilFunc,.nilFunc] fun cW dT bh cX cY=>aG cX #[.func (.func 102) #[] #[],.func (.func 103) #[] #[]] fun dU cZ d0=>ah 1<|sq<|aB 2<|c0<|bu<|sq<|?_
 have bm:=aJ bf (ud cY d0 bh)
 have bp:=aV.old s bm
 refine fo (aV.at_ bp 0 (by omega)) fun d1 d2 bq bs dV=>Rg 13 (fun w'=>w'.cell? ⟨cW,0,none⟩=some (.func (.func 102) #[] #[])∧w'.cell? ⟨d1,d2+0,none⟩=some (vB (b.getD 0 0))) fun dW J=>?_
 have bt:=ub J cZ
 refine bv ⟨(ae bt rfl),(uc J bs)⟩ fun q=>Rt 0 q<|Rl 1 q (fun _ hs=>hs.1)<|Rt 2 q<|Rt 3 q<|m0 4 q b.length 0 0 rfl bq (by omega)<|Rl 5 q (fun _ hs=>hs.2)<|Rt 6 q<|ny (eh (P:=Tryz.prog) 27 5 1 Tryz.underlying27 rfl rfl A b.length cp 1 (by omega)) fun bw hrun348 d3=>Rr 7 q (.slice bw (b.length-1) (cp-1)) (fun _ _=>eC (kl:=.i64) (k:=((1:Nat) : Int)) (A:=A) (n:=b.length) (c:=cp) rfl Tryz.underlying27 (by kernel_rfl) (by kernel_rfl) (hrun348 _ _))<|?_
 refine R0 8 rfl<|i8 #[] #[] (args:=#[vI dir,vB (b.getD 0 0),.slice bw (b.length-1) (cp-1)])<|e2 (lP (dir:=dir) (c:=(b.getD 0 0)) (b8 (by omega)) (d3 _ _ _ _ _ (aV.old bp J)) (by(try simp only[List.length_drop]);omega)) fun d4 dX E bx=>?_
 have bz:=ub bx bt
 have bA:=aJ J bx
 refine bv ⟨(ae bz rfl),(uc bA bs)⟩ fun bB=>Rt 9 bB<|Rt 10 bB<|?_
 have bC:=aJ bm bA
 have bD:=ub bC a
 refine R0 11 rfl<|mb (hz:=(by rw[E.size];exact aQ)) (hv:=E.size) (h1:=E.one) bD (d4) fun dY d5 Q=>?_
 have bE:=ud f (uz bC Q) h
 refine bv ⟨(ae (bj Q (Ne.symm (nb (az a) bf.size bh)) bz) rfl),(cB (aV.old hsl bE) bq 0 (by omega))⟩ fun d6=>Rt 12 d6<|re<|tn<|rt<|fO 22 E.size d5 (vI (((ak bg dir (b.getD 0 0) (b.drop 1))).2))<|?_
 exact cI (by unfold ci;(try simp only[d,e,g,i,bi,hkf,ir,reduceIte])<;>rfl) ⟨_,rfl,(aH.upd E Q (av (b9 bD (by decide)) aM)),bE⟩
 have bF:=fZ (x:=(b.getD 0 0)) (w:=t)
 rw[hkf] at bF
 refine ay<|m1 bF fun dZ bG=>Pl 3<|aK #[.nilFunc,.nilFunc] fun d7 e0 bH d8 d9=>aG d8 #[.func (.func 104) #[] #[],.func (.func 105) #[] #[]] fun e1 da db=>ah 1<|sq<|aB 2<|c0<|bu<|sq<|?_
 have bI:=aJ bG (ud d9 db bH)
 have bK:=aV.old s bI
 refine fo (aV.at_ bK 0 (by omega)) fun dc dd bL bM e3=>Rg 13 (fun w'=>w'.cell? ⟨d7,0,none⟩=some (.func (.func 104) #[] #[])∧w'.cell? ⟨dc,dd+0,none⟩=some (vB (b.getD 0 0))) fun e4 L=>?_
 have bN:=ub L da
 refine bv ⟨(ae bN rfl),(uc L bM)⟩ fun r=>Rt 0 r<|Rl 1 r (fun _ hs=>hs.1)<|Rt 2 r<|Rt 3 r<|m0 4 r b.length 0 0 rfl bL (by omega)<|Rl 5 r (fun _ hs=>hs.2)<|Rt 6 r<|ny (eh (P:=Tryz.prog) 27 5 1 Tryz.underlying27 rfl rfl A b.length cp 1 (by omega)) fun bO hrun428 de=>Rr 7 r (.slice bO (b.length-1) (cp-1)) (fun _ _=>eC (kl:=.i64) (k:=((1:Nat) : Int)) (A:=A) (n:=b.length) (c:=cp) rfl Tryz.underlying27 (by kernel_rfl) (by kernel_rfl) (hrun428 _ _))<|?_
 refine R0 8 rfl<|i8 #[] #[] (args:=#[vI dir,vB (b.getD 0 0),.slice bO (b.length-1) (cp-1)])<|e2 (pn (dir:=dir) (c:=(b.getD 0 0)) (b8 (by omega)) (de _ _ _ _ _ (aV.old bK L)) (by(try simp only[List.length_drop]);omega)) fun df e5 F bP=>?_
 have bQ:=ub bP bN
 have bR:=aJ L bP
 refine bv ⟨(ae bQ rfl),(uc bR bM)⟩ fun bS=>Rt 9 bS<|Rt 10 bS<|?_
 have bT:=aJ bI bR
 have bU:=ub bT a
 refine R0 11 rfl<|mb (hz:=(by rw[F.size];exact aQ)) (hv:=F.size) (h1:=F.one) bU (df) fun e6 dg R=>?_
 have bV:=ud f (uz bT R) h
 refine bv ⟨(ae (bj R (Ne.symm (nb (az a) bG.size bH)) bQ) rfl),(cB (aV.old hsl bV) bL 0 (by omega))⟩ fun dh=>Rt 12 dh<|re<|tn<|rt<|fO 22 F.size dg (vI (((ak bJ dir (b.getD 0 0) (b.drop 1))).2))<|?_
 exact cI (by unfold ci;(try simp only[d,e,g,i,bi,hkf,ir,reduceIte])<;>rfl) ⟨_,rfl,(aH.upd F R (av (b9 bU (by decide)) aM)),bV⟩
 have bW:=fZ (x:=(b.getD 0 0)) (w:=t)
 rw[hkf] at bW
 refine ay<|m1 bW fun e7 di=>Pl 3<|aK #[.nilFunc,.nilFunc] fun e8 e9 dj dk dl=>aG dk #[.nilFunc,.nilFunc] fun ea eb dm=>ah 1<|sq<|aB 2<|c1<|aq 1<|?_
 have bX:=aJ di (ud dl dm dj)
 refine aG (ub bX a) mZ fun ec dn dp=>ah 1<|b6<|ck dn (vI 4)<|?_
 exact cI (by unfold ci;(try simp only[d,e,g,i,bi,hkf,ir,reduceIte])<;>rfl) (cQ (ud f (uz bX dp) h))
theorem lC{m:Md}{v:Value}{b:List Int}{w:World}{dir:Int}(h:aV m w v b)(hb:b.length≤1048576) : Calls Tryz.prog 83 #[.int .i64 dir,v] w (eN (ci dir b) w):=by
  obtain⟨A,cp,rfl,_,_⟩:=h.shape
  exact tc h hb
end Go.Proofs.YtdkhbcefkfgbdaaGreat
namespace Go.Proofs.YtdkhbcefkfgbdaaGreat
def N1 (C:ap) : Prop:=C.e≠1
theorem N1.need{C:ap}{b:Bool}{x:Int}(hx:x≠1)(h:N1 C) : N1 (C.need b x):=by
  unfold N1 ap.need at *
  split
  · exact hx
  · exact h
theorem N1.bytesC{C:ap}{n:Int}(h:N1 C) : N1 (C.bytesC n):=by
  unfold ap.bytesC
  split
  · exact N1.need (by decide) h
  · exact h
theorem N1.wordsC{C:ap}{n:Int}(h:N1 C) : N1 (C.wordsC n):=by
  unfold ap.wordsC
  split<;>exact N1.bytesC h
theorem N1.recs{one:Int→ap→Int × ap × dl}(ho:∀ s C,N1 C→N1 (one s C).2.1) : ∀ (n:Nat)(s:Int)(C:ap)(L:List dl),N1 C→N1 (aX one n s C L).1
  | 0,_,_,_,h=>h
  | n+1,s,C,L,h=>by
    unfold aX
    split
    · split
      · exact ho s C h
      · exact N1.recs ho n _ _ _ (ho s C h)
    · exact h
theorem N1.objs:∀ (n:Nat)(C:ap)(L:List Obj),N1 C→N1 (eP n C L).1
  | 0,_,_,h=>h
  | n+1,C,L,h=>N1.objs n _ _ (N1.bytesC (N1.bytesC (N1.bytesC h)))
theorem wh{x:Int}(h:x≠1) : bB x≠1:=by
  unfold bB
  split
  · decide
  · exact h
def vX (c:Int)(r:ap × aS) : Prop:=N1 r.1∧r.2.code=c∧r.2.fail=0
theorem un{dir c:Int}{C:ap}{r:ap × aS}(hC:N1 C)(h:aR dir c C=some r) : vX c r:=by
  unfold aR at h
  repeat' split at h
  all_goals first | cases h | skip
  all_goals refine⟨?_,rfl,rfl⟩
  all_goals simp only[ek,dZ,dM,hG,cz,km,fP,ef,sX,iB]
  all_goals repeat' first | with_reducible exact hC | with_reducible apply N1.bytesC | with_reducible apply N1.wordsC | (with_reducible refine N1.need (by decide) ?_)
theorem xA{dir c:Int}{C:ap}{r:ap × aS}(hC:N1 C)(h:aY dir c C=some r) : vX c r:=by
  unfold aY at h
  repeat' split at h
  all_goals first | cases h | skip
  all_goals refine⟨?_,rfl,rfl⟩
  all_goals simp only[cn,cF,eo,dq,da,dn,dp,mn,js,j6,bI,lI,d8,gC,rz,Bt,uC]
  all_goals repeat' first | with_reducible exact hC | with_reducible apply N1.bytesC | with_reducible apply N1.wordsC | (with_reducible refine N1.need (by decide) ?_)
theorem vy{dir c:Int}{C:ap}{r:ap × aS}(hC:N1 C)(h:bo dir c C=some r) : vX c r:=by
  unfold bo eM cV at h
  repeat' split at h
  all_goals first | cases h | skip
  all_goals refine⟨?_,rfl,rfl⟩
  all_goals simp only[fq,l6,fp,gG,dS]
  all_goals repeat' first | with_reducible exact hC | with_reducible apply N1.bytesC | with_reducible apply N1.wordsC | (with_reducible refine N1.need (by decide) ?_)
theorem yl{dir c:Int}{C:ap}{r:ap × aS}(hC:N1 C)(h:bJ dir c C=some r) : vX c r:=by
  unfold bJ at h
  repeat' split at h
  all_goals first | cases h | skip
  all_goals refine⟨?_,rfl,rfl⟩
  all_goals simp only[dF,ga,eG,dN,m9,mc,oJ,yV]
  all_goals repeat' first | with_reducible exact hC | with_reducible apply N1.bytesC | with_reducible apply N1.wordsC | with_reducible apply N1.objs | (with_reducible refine N1.need (by decide) ?_)
theorem Ak(s:Int)(C:ap)(h:N1 C) : N1 (dj s C).2.1:=by
  simp only[dj,fb,dR,jd,jO,o4]
  repeat' first | with_reducible exact h | with_reducible apply N1.bytesC | with_reducible apply N1.wordsC | (with_reducible refine N1.need (by decide) ?_)
theorem yB(s:Int)(C:ap)(h:N1 C) : N1 (bQ s C).2.1:=by
  simp only[bQ,fu,iy,ff]
  repeat' first | with_reducible exact h | with_reducible apply N1.bytesC | with_reducible apply N1.wordsC | (with_reducible refine N1.need (by decide) ?_)
theorem Bk(s:Int)(C:ap)(h:N1 C) : N1 (dr s C).2.1:=by
  simp only[dr,jX,oD,dR,jd,jO,o4]
  repeat' first | with_reducible exact h | with_reducible apply N1.bytesC | with_reducible apply N1.wordsC | (with_reducible refine N1.need (by decide) ?_)
theorem lb{one:Int→ap→Int × ap × dl}(ho:∀ s C,N1 C→N1 (one s C).2.1)(may:Int→Bool)(c:Int){C:ap}(hC:N1 C) : N1 (dm one may c C).1:=by
  unfold dm l7
  refine N1.need (wh (N1.recs ho _ _ _ _ ?_)) (N1.bytesC (N1.need (by decide) (N1.bytesC hC)))
  show(0:Int)≠1
  decide
theorem tV{dir c:Int}{C:ap}{r:ap × aS}(hC:N1 C)(h:bg dir c C=some r) : vX c r:=by
  unfold bg at h
  repeat' split at h
  all_goals first | cases h | skip
  · exact⟨lb Ak _ _ hC,rfl,rfl⟩
  · exact⟨lb yB _ _ hC,rfl,rfl⟩
  · exact⟨lb Bk _ _ hC,rfl,rfl⟩
theorem N1.endC{C:ap}(h:N1 C) : N1 C.endC:=by
  unfold ap.endC
  exact N1.need (by decide) h
theorem gE{form:Int→Int→ap→Option (ap × aS)}(hg:∀ {dir c:Int}{C:ap}{r:ap × aS},N1 C→form dir c C=some r→vX c r){dir c:Int}{b:List Int}(hd:dir=0∨dir=1){M:aS}{E:Int}(h:ak form dir c b=(M,E)) :
    E≠1∧(E=0→M.code=c∧M.fail=0):=by
  unfold ak at h
  rw[if_pos hd] at h
  have h0:N1 ⟨b,false,0⟩:=by show(0:Int)≠1;decide
  split at h
  · injection h with h1 h2
    subst h1 h2
    exact⟨by decide,fun h=>by cases h⟩
  · rename_i r hr
    obtain⟨g1,g2,g3⟩:=hg h0 hr
    unfold bC at h
    split at h
    · injection h with h1 h2
      subst h1 h2
      exact⟨by decide,fun _=>⟨g2,g3⟩⟩
    · rename_i hne
      injection h with h1 h2
      subst h1 h2
      exact⟨N1.endC g1,fun h=>absurd h hne⟩
end Go.Proofs.YtdkhbcefkfgbdaaGreat
namespace Go.Proofs.YtdkhbcefkfgbdaaGreat
theorem zz:∀ n:Nat,n<256→(ee (n:Int)=kI (n:Int))∧(kI (n:Int)=false→ka (n:Int)=0)∧(128≤n→kI (n:Int)=false):=by decide +kernel
theorem wx{x:Int}(h:0≤x∧x<256) : ee x=kI x∧(kI x=false→ka x=0)∧(128≤x→kI x=false):=by
  obtain⟨n,rfl⟩:=Int.eq_ofNat_of_zero_le h.1
  obtain⟨a,b,c⟩:=zz n (by omega)
  exact⟨a,b,fun h=>c (by omega)⟩
theorem wK{dir:Int}{b:List Int}(hd:dir=0∨dir=1){k:Nat}{M:aS}{E:Int}(h:ir k dir b=(M,E)) : E≠1∧(E=0→M.code=b.getD 0 0∧M.fail=0):=by
  unfold ir at h
  split at h
  · exact gE (fun hC h=>un hC h) hd h
  · exact gE (fun hC h=>xA hC h) hd h
  · exact gE (fun hC h=>vy hC h) hd h
  · exact gE (fun hC h=>tV hC h) hd h
  · exact gE (fun hC h=>yl hC h) hd h
  · injection h with h1 h2
    subst h1 h2
    exact⟨by decide,fun h=>by cases h⟩
theorem uG{b:List Int}{M:aS}(h:fd b=(M,0)) : M=i5 ((b.getD 0 0-128)%256) (b.getD 1 0)∧128≤b.getD 0 0∧ee ((b.getD 0 0-128)%256)=true∧cU (b.getD 1 0)=true∧b.length=2:=by
  unfold fd at h
  split at h
  · cases h
  split at h
  · cases h
  split at h
  · cases h
  split at h
  · cases h
  split at h
  · cases h
  split at h
  · cases h
  injection h with h1 h2
  simp only[decide_eq_true_eq,Bool.not_eq_true',Bool.not_eq_true,beq_iff_eq,Bool.not_eq_false'] at *
  refine⟨h1.symm,by omega,by simp_all,by simp_all,by omega⟩
end Go.Proofs.YtdkhbcefkfgbdaaGreat
namespace Go.Proofs.YtdkhbcefkfgbdaaGreat
theorem dy{parse:Int→Int→List Int→aS × Int}{lay:Int→aS→List Int}{dir:Int}{M:aS}{l:List Int}(h:bt parse lay dir M=some l) : parse dir M.code l=(M,0)∧l=lay dir M:=by
  unfold bt at h
  split at h
  · rename_i hh
    injection h with h
    subst h
    exact⟨hh,rfl⟩
  · cases h
theorem lh{k:Nat}{dir:Int}{M:aS}{l:List Int}(h:i6 k dir M=some l) : k≠0∧ir k dir ([M.code]++l)=(M,0):=by
  unfold i6 at h
  split at h
  · exact⟨by decide,(dy h).1⟩
  · exact⟨by decide,(dy h).1⟩
  · exact⟨by decide,(dy h).1⟩
  · exact⟨by decide,(dy h).1⟩
  · exact⟨by decide,(dy h).1⟩
  · cases h
theorem xg{M:aS}{l:List Int}(h:oG M=some l) : ee M.code=true∧cU M.fail=true∧M=i5 M.code M.fail∧l=[(M.code+128)%256,M.fail]:=by
  unfold oG at h
  split at h
  · cases h
  split at h
  · cases h
  rename_i h1 h2
  injection h with h
  subst h
  have h3:gU M.code M.fail=true:=by
    cases hp:gU M.code M.fail
    · rw[hp] at h1;exact absurd rfl h1
    · rfl
  have h4:M=i5 M.code M.fail:=by
    by_cases hm:M=i5 M.code M.fail
    · exact hm
    · rw[decide_eq_false hm] at h2;exact absurd rfl h2
  unfold gU at h3
  obtain⟨h5,h6⟩:=hZ h3
  exact⟨(hZ h5).2,h6,h4,rfl⟩
theorem ic{dir:Int}{M:aS}{l:List Int}(hc:0≤M.code∧M.code<256)(h:cZ dir M=some l) :
    (M.fail≠0∧dir=1∧ee M.code=true∧cU M.fail=true∧M=i5 M.code M.fail∧l=[M.code+128,M.fail]∧M.code<128) ∨
    (M.fail=0∧ka M.code≠0∧M.code<128∧∃ l',i6 (ka M.code) dir M=some l'∧l'.length<253∧l=[M.code]++l'):=by
  obtain⟨t1,t2,t3⟩:=wx hc
  unfold cZ at h
  split at h
  · rename_i hf
    split at h
    · cases h
    · rename_i hd
      obtain⟨h1,h2,h3,h4⟩:=xg h
      have h5:M.code<128:=by
        by_cases h6:128≤M.code
        · have:=t3 h6
          rw[← t1,h1] at this
          cases this
        · omega
      refine .inl ⟨by simpa using hf,by simpa using hd,h1,h2,h3,?_,h5⟩
      rw[h4]
      congr 1
      omega
  · rename_i hf
    split at h
    · cases h
    · rename_i l' hl
      split at h
      · cases h
      · rename_i hn
        injection h with h
        have hk:=(lh hl).1
        have h5:M.code<128:=by
          by_cases h6:128≤M.code
          · exact absurd (t2 (t3 h6)) hk
          · omega
        simp only[decide_eq_true_eq] at hn
        exact .inr ⟨by simpa using hf,hk,h5,l',hl,by omega,h.symm⟩
theorem qE{dir:Int}{M:aS}{l:List Int}(hd:dir=0∨dir=1)(hc:0≤M.code∧M.code<256)(hf:0≤M.fail∧M.fail<256)(h:cZ dir M=some l) : ci dir l=(M,0):=by
  have hdd:(dir != 0&&dir != 1)=false:=by rcases hd with rfl | rfl<;>rfl
  rcases ic hc h with⟨h1,rfl,h2,h3,h4,rfl,h5⟩|⟨h1,h2,h3,l',h4,h5,rfl⟩
  · have ha:decide (128≤M.code+128)=true:=by simp;omega
    have hb:(M.code+128-128)%256=M.code:=by omega
    have jd:decide (M.code+128<128)=false:=by simp;omega
    unfold ci
    simp only[List.length_cons,List.length_nil,List.getD_cons_zero,ha]
    show fd [M.code+128,M.fail]=(M,0)
    unfold fd
    simp only[List.length_cons,List.length_nil,List.getD_cons_zero,List.getD_cons_succ,hb,jd,h2,h3]
    show(i5 M.code M.fail,(0:Int))=(M,0)
    rw[← h4]
  · have ha:(decide (128≤M.code)&&dir==1)=false:=by
      have:decide (128≤M.code)=false:=by simp;omega
      rw[this];rfl
    have hl0:(((([M.code]++l').length:Nat) : Int)==0)=false:=by
      simp only[List.length_append,List.length_cons,List.length_nil,beq_eq_false_iff_ne,ne_eq];omega
    have hl1:decide (253<((([M.code]++l').length:Nat) : Int))=false:=by
      simp only[List.length_append,List.length_cons,List.length_nil,decide_eq_false_iff_not];omega
    have hg:([M.code]++l').getD 0 0=M.code:=rfl
    unfold ci
    rw[hdd,hl0,hl1,hg,ha]
    exact(lh h4).2
theorem iq{dir:Int}{M:aS}{l:List Int}(hc:0≤M.code∧M.code<256)(h:cZ dir M=some l) : 0<l.length:=by
  rcases ic hc h with⟨_,_,_,_,_,rfl,_⟩|⟨_,_,_,l',_,_,rfl⟩<;>simp
theorem qI{dir:Int}{M:aS}{l:List Int}(hc:0≤M.code∧M.code<256)(h:cZ dir M=some l) : l.length≤253:=by
  rcases ic hc h with⟨_,_,_,_,_,rfl,_⟩|⟨_,_,_,l',_,h2,rfl⟩
  · simp
  · simp only[List.length_append,List.length_cons,List.length_nil];omega
open Go.RowKit
theorem wA{w w':World}(h:aI [] w w') : Below w.heap.size w w':=⟨h.os,h.tape,h.output,h.size,fun k hk=>h.block k hk (by simp)⟩
theorem wV{n:Int}(h:(Lit.int .u8 n).wf=true) : 0≤n∧n<256:=by
  have:=bounds_u8 h
  omega
open Go.RowKit
structure SL where
  aw:Option Addr
  kw:Nat
  ab:Option Addr
  kb:Nat
  ad:Option Addr
  kd:Nat
  ar:Option Addr
  kr:Nat
  ao:Option Addr
  ko:Nat
def f5 (M:aS)(x:SL) : Array Value:=mG M.code M.fail M.addr M.count M.value M.and_ M.or_ M.addr2 M.sub M.status M.events M.messages (.slice x.aw M.words.length x.kw) (.slice x.ab M.bits.length x.kb) (.slice x.ad M.data.length x.kd) (.slice x.ar M.recs.length x.kr) M.mei M.kind M.level M.more M.next (.slice x.ao M.objects.length x.ko)
theorem nU{m:Md}{w:World}{cs:Array Value}{M:aS}(h:aH m w cs.toList M) : ∃ x,cs=f5 M x:=by
  obtain⟨vw,vb,vd,vr,vo,h0,hw,hb,hd,hr,ho,hR⟩:=h
  obtain⟨aw,kw,rfl,_,_⟩:=hw.shape
  obtain⟨ab,kb,rfl,_,_⟩:=hb.shape
  obtain⟨ad,kd,rfl,_,_⟩:=hd.shape
  obtain⟨ar,kr,rfl,_,_⟩:=hr.shape
  obtain⟨ao,ko,rfl,_,_⟩:=ho.shape
  refine⟨⟨aw,kw,ab,kb,ad,kd,ar,kr,ao,ko⟩,?_⟩
  apply Array.toList_inj.1
  rw[h0]
  rfl
theorem aH.rngs{m:Md}{w:World}{cs:Array Value}{M:aS}(h:aH m w cs.toList M) : (0≤M.code∧M.code<256)∧(0≤M.fail∧M.fail<256):=by
  obtain⟨vw,vb,vd,vr,vo,h0,hw,hb,hd,hr,ho,hR⟩:=h
  exact⟨hR.code,hR.fail⟩
open Go.RowKit
def w7:aS:={ aS.zero with code:=7 }
open Go.RowKit
section
variable {P:Program}{n:Nat}{D:List Deferred}{F:Fr}{w:World}{K:Fr→World→Prop}{Q:Exit→Act→World→Prop}{d:Option Tmp}{t:TypeId}{s:String}{af:Array Edge}{gu:Option (Nat × Bool)}
theorem yi{a:Act}{K:Act→World→Prop}{o:Oper}{N:Option Tmp}{f:FuncId}{fn:Func}{x:Operand}{nm:String}{opds:Array Operand}{ts:Array TypeId}{T:TypeId}{v rv:Value}(args:Array Value)(hN:o.dst=N)(hop:o.op = .call { callee:=.invoke x nm,args:=opds,argTypes:=ts })
    (hx : a.eval x = .iface T v) (hm : (method (P.types.size + Made.depth) T v nm).run P w = .ok (f, rv) w) (hf : P.funcs[f]? = some fn) (hname : (fn.name == "runtime.NumGoroutine") = false) (hb : fn.body.isSome = true) (hargs : #[rv] ++ opds.map a.eval = args)
    (h:Calls P f args w fun e w'=>∃ v,e = .returned v∧K (a.put N v) w') : OW P o a w K Q:=by
  refine OW.mk ?_
  subst hN
  subst hargs
  have h1 : fn.name ≠ "runtime.NumGoroutine" := by simpa using hname
  obtain⟨cd,hcd⟩:=Option.isSome_iff_exists.1 hb
  have hcm:(callMethod (.iface T v) nm (opds.map a.eval)).run P w = .ok (.enter f (#[rv]++opds.map a.eval)) w:=by
    unfold callMethod
    simp only[program,Sem.run_bind]
    have hp:(pure P:Sem Program).run P w = .ok P w:=rfl
    simp[Sem.run,hm,callFunc,hf,h1,hcd,Result.andThen]
  have hinv:invoke (.fn (.method nm) #[]) (#[.iface T v]++opds.map a.eval)=callMethod (.iface T v) nm (opds.map a.eval):=by
    have e0:(#[Value.iface T v]++opds.map a.eval)[0]? = some (.iface T v):=by
      rw[Array.getElem?_append_left (by simp)]
      rfl
    have e1:(#[Value.iface T v]++opds.map a.eval).extract 1 (#[Value.iface T v]++opds.map a.eval).size=opds.map a.eval:=by
      apply Array.toList_inj.1
      simp only[Array.toList_extract,List.extract_eq_take_drop,Array.toList_append,Array.toList_map,Array.size_append,Array.size_map]
      simp[List.take_of_length_le]
    unfold invoke
    simp only[e0,e1]
  have hrun:(execOp a.eval o).run P w = .ok (.enter f (#[rv]++opds.map a.eval)) w:=by
    unfold execOp
    simp only[hop,resolve,hx,Sem.run_bind,Sem.run_pure,Result.andThen_ok,hinv,hcm]
  unfold Oper.wp
  rw[hrun,Oper.upon_enter]
  refine h.mono fun e w'' hh=>?_
  obtain⟨v,rfl,h2⟩:=hh
  exact h2
theorem xB{f:FuncId}{x:Operand}{nm:String}{opds:Array Operand}{ts:Array TypeId}{args:Array Value}(T:TypeId)(v rv:Value)(h:Calls P f args w fun e w'=>∃ v,e = .returned v∧K (pt d v F) w')
    (hm:(method (P.types.size+Made.depth) T v nm).run P w = .ok (f,rv) w:=by kernel_rfl) (hx:fj F x=some (.iface T v):=by kernel_rfl) (ha:some rv :: opds.toList.map (fj F)=args.toList.map some:=by kernel_rfl) (hf:D5 P f=some (false,true):=by kernel_rfl) (hs:gv n d=true:=by kernel_rfl) : OG P ⟨d,.call { callee:=.invoke x nm,args:=opds,argTypes:=ts },t,s,af,gu⟩ n D F w K Q:=by
  obtain⟨fn,h1,h2,h3⟩:=kR hf
  refine⟨fun a hag K' hK=>yi args rfl rfl (hag.ev hx) hm h1 h2 h3 ?_ (h.mono fun e w' hh=>by
    obtain⟨v,rfl,hk⟩:=hh
    exact⟨v,rfl,hK _ _ _ hk (hag.put hs)⟩)⟩
  apply Array.toList_inj.1
  obtain⟨vs,has⟩ : ∃ vs:List Value,args.toList=rv :: vs∧opds.toList.map (fj F)=vs.map some:=by
    cases hl:args.toList with
    | nil=>rw[hl] at ha;cases ha
    | cons y ys =>
      rw[hl] at ha
      injection ha with e1 e2
      exact⟨ys,by rw[Option.some.inj e1],e2⟩
  rw[has.1,Array.toList_append,Array.toList_map,mv hag has.2]
  rfl
end
open Go.RowKit
structure cy where
  unit:Int
  tid:Int
  msg:aS
def cy.zero:cy:=⟨0,0,aS.zero⟩
def Dy (m:Md)(w:World)(cs:Array Value)(F:cy) : Prop:=∃ c:Array Value,cs = #[.int .u8 F.unit,.int .u16 F.tid]++c∧aH m w c.toList F.msg∧B8 F.unit∧eR F.tid
def nO (res:cy × Int)(w:World)(e:Ending)(w':World) : Prop:=∃ cs,e = .returned (.tuple #[.agg cs,.int .i64 res.2])∧Dy true w' cs res.1∧aI [] w w'
theorem dH{x y:cy × Int}(h:x=y){w:World}{e:Ending}{w':World}(k:nO y w e w') : nO x w e w':=by rw[h];exact k
def kP:Array Value:=#[.int .u8 0,.int .u16 0,.int .u8 0,.int .u8 0,.int .u16 0,.int .u16 0,.int .u16 0,.int .u16 0,.int .u16 0,.int .u16 0,.int .u16 0,.int .u16 0,.int .u16 0,.int .u16 0,.slice none 0 0,.slice none 0 0,.slice none 0 0,.slice none 0 0,.int .u8 0,.int .u8 0,.int .u8 0,.int .u8 0,.int .u8 0,.slice none 0 0]
theorem cA{x:Int}{w W:World}(hu:aI [] w W) : nO (cy.zero,x) w (.returned (.tuple #[.agg kP,.int .i64 x])) W:=⟨_,rfl,⟨oF,(by kernel_rfl),aH.zero ..,(show(0:Int)≤0∧(0:Int)<256 from by decide),(show(0:Int)≤0∧(0:Int)<65536 from by decide)⟩,hu⟩
def bU (u t:Int) : aS × Int→cy × Int
  | (M,E)=>if E != 0 then (cy.zero,E) else (⟨u,t,M⟩,0)
theorem ie{dir:Int}{M:aS}{l:List Int}(h:cZ dir M=some l) : l.length≤253:=by
  unfold cZ at h
  split at h
  · split at h
    · cases h
    · unfold oG at h
      split at h
      · cases h
      · split at h
        · cases h
        · injection h with h
          subst h
          simp only[List.length_cons,List.length_nil]
          omega
  · split at h
    · cases h
    · split at h
      · cases h
      · rename_i hl
        injection h with h
        subst h
        simp only[decide_eq_true_eq] at hl
        simp only[List.length_append,List.length_cons,List.length_nil]
        omega
open Go.RowKit
deriving instance DecidableEq for cy
def dC (u t:Int)(M:aS)(x:SL) : Array Value:=#[.int .u8 u,.int .u16 t,.int .u8 M.code,.int .u8 M.fail,.int .u16 M.addr,.int .u16 M.count,.int .u16 M.value,.int .u16 M.and_,.int .u16 M.or_,.int .u16 M.addr2,.int .u16 M.sub,.int .u16 M.status,.int .u16 M.events,.int .u16 M.messages,.slice x.aw M.words.length x.kw,.slice x.ab M.bits.length x.kb,.slice x.ad M.data.length x.kd,.slice x.ar M.recs.length x.kr,.int .u8 M.mei,.int .u8 M.kind,.int .u8 M.level,.int .u8 M.more,.int .u8 M.next,.slice x.ao M.objects.length x.ko]
theorem gZ(u t:Int)(M:aS)(x:SL) : dC u t M x = #[.int .u8 u,.int .u16 t]++f5 M x:=by kernel_rfl
end Go.Proofs.YtdkhbcefkfgbdaaGreat
namespace Go.Proofs.YtdkhbcefkfgbdaaGreat
def kX (x:Nat) : Nat:=(x/2) ^^^ (x%2*40961)
def fY:Nat→Nat→Nat
  | 0,x=>x
  | k+1,x=>kX (fY k x)
def Bl (i:Nat) : Nat:=fY 8 i
theorem Al{x:Nat}(h:x<65536) : kX x<65536:=by
  unfold kX
  exact Nat.xor_lt_two_pow (n:=16) (by omega) (by omega)
theorem jL{x:Nat}(h:x<65536) : ∀ k,fY k x<65536
  | 0=>h
  | k+1=>Al (jL h k)
theorem uS{i:Nat}(h:i<256) : Bl i<65536:=jL (by omega) 8
def uN (s c:Nat) : Nat:=(s/256) ^^^ Bl ((s%256) ^^^ c)
theorem vj{a b:Nat}(ha:a<256)(hb:b<256) : a ^^^ b<256:=Nat.xor_lt_two_pow (n:=8) ha hb
theorem nu{a b:Nat}(ha:a<65536)(hb:b<65536) : a ^^^ b<65536:=Nat.xor_lt_two_pow (n:=16) ha hb
theorem xP{s c:Nat}(hs:s<65536)(hc:c<256) : uN s c<65536:=nu (by omega) (uS (vj (by omega) hc))
def xi (a b:Int) : Int:=((a.toNat ^^^ b.toNat:Nat) : Int)
theorem Ff{a b:Int}(ha:0≤a∧a<256)(hb:0≤b∧b<256) : 0≤xi a b∧xi a b<256:=by
  have:=vj (a:=a.toNat) (b:=b.toNat) (by omega) (by omega)
  unfold xi
  omega
theorem DB{a b:Int}(ha:0≤a∧a<65536)(hb:0≤b∧b<65536) : 0≤xi a b∧xi a b<65536:=by
  have:=nu (a:=a.toNat) (b:=b.toNat) (by omega) (by omega)
  unfold xi
  omega
theorem Bx(n:Nat) : xi (((n:Nat) : Int)/2) ((((n:Nat) : Int)%2)*40961%65536)=((kX n:Nat) : Int):=by
  unfold xi kX
  rw[show(((n:Nat) : Int)/2).toNat=n/2 from by omega,show((((n:Nat) : Int)%2)*40961%65536).toNat=n%2*40961 from by omega]
def md (i:Int) : Int:=((Bl i.toNat:Nat) : Int)
theorem ru{i:Int}(h:0≤i∧i<256) : 0≤md i∧md i<65536:=by
  have:=uS (i:=i.toNat) (by omega)
  unfold md
  omega
def tq (s c:Int) : Int:=xi (s/256) (md (xi (s%256) c))
theorem qL{s c:Int}(hs:0≤s∧s<65536)(hc:0≤c∧c<256) : tq s c=((uN s.toNat c.toNat:Nat) : Int):=by
  unfold tq md xi uN
  rw[show(s/256).toNat=s.toNat/256 from by omega,show(s%256).toNat=s.toNat%256 from by omega]
  simp only[Int.toNat_natCast]
theorem sa{s c:Int}(hs:0≤s∧s<65536)(hc:0≤c∧c<256) : 0≤tq s c∧tq s c<65536:=by
  have:=xP (s:=s.toNat) (c:=c.toNat) (by omega) (by omega)
  rw[qL hs hc]
  omega
def cc (s:Int)(b:List Int) : Int:=b.foldl tq s
theorem iv:∀ (b:List Int){s:Int},(0≤s∧s<65536)→(∀ x,x∈b→0≤x∧x<256)→0≤cc s b∧cc s b<65536
  | [],s,hs,_=>hs
  | c :: b,s,hs,hb=>iv b (sa hs (hb c (List.mem_cons_self ..))) fun x hx=>hb x (List.mem_cons_of_mem _ hx)
theorem ym(s:Int)(a b:List Int) : cc s (a++b)=cc (cc s a) b:=by unfold cc;rw[List.foldl_append]
def cg (s:Int) : List Int:=[s%256,s/256%256]
theorem jV(s:Int) : (cg s).length=2:=rfl
def dK (b:List Int) : Bool:=decide (2≤b.length)&&decide (cg (cc 65535 (b.take (b.length-2)))=b.drop (b.length-2))
open Go.RowKit
def E0 (P:Program)(ty:TypeId) : Option (Nat × TypeId):=match P.underlying ty with | some (.array m e)=>some (m,e) | _=>none
theorem zt{P:Program}{ty e:TypeId}{m:Nat}(h:E0 P ty=some (m,e)) : P.underlying ty=some (.array m e):=by
  unfold E0 at h
  split at h
  · injection h with h
    injection h with h1 h2
    subst h1 h2
    assumption
  · cases h
theorem vz{P:Program}{w:World}{ev:Operand→Value}{o:Oper}{t e:TypeId}{x ix:Operand}{b off j m:Nat}{k:IntKind}{i:Int}(ho:o.op = .indexAddr t x ix)(ht:P.underlying t=some (.array m e))(hi:(P.info? e).map (·.size)=some 1)
    (hx:ev x = .pointer (some ⟨b,off,none⟩)) (hix:ev ix = .int k i) (hj:i=j) (hlt:j<m) : (execOp ev o).run P w = .ok (.value (.pointer (some ⟨b,off+j,none⟩))) w:=by
  subst hj
  obtain⟨i0,hi0,hs⟩:=Option.map_eq_some_iff.1 hi
  unfold execOp
  have h2:(0:Int)≤(j:Int)∧(j:Int)<(m:Int):=by omega
  simp[ho,hx,hix,Instr.indexAt,Instr.sureAddr,asIntOf,run_underlying ht,Result.andThen,h2,sizeOf,typeInfo,hi0,hs,kn,hlt]
section
variable {P:Program}{n:Nat}{D:List Deferred}{F:Fr}{w:World}{K:Fr→World→Prop}{Q:Exit→Act→World→Prop}{d:Option Tmp}{t:TypeId}{s:String}{af:Array Edge}{gu:Option (Nat × Bool)}
theorem DW{ty:TypeId}{x ix:Operand}{b off:Nat}(m j:Nat)(i:Int)(hj:i=j)(hlt:j<m)(h:K (pt d (.pointer (some ⟨b,off+j,none⟩)) F) w)
    (hx:fj F x=some (.pointer (some ⟨b,off,none⟩)):=by kernel_rfl) (hi:BI F ix=some i:=by kernel_rfl) (hs:((E0 P ty).bind fun p=>(P.info? p.2).map fun q=>(p.1,q.size),gv n d)=(some (m,1),true):=by kernel_rfl) : OG P ⟨d,.indexAddr ty x ix,t,s,af,gu⟩ n D F w K Q:=by
  simp only[Prod.mk.injEq] at hs
  obtain⟨hs,hd⟩:=hs
  obtain⟨k,hi⟩:=nW hi
  cases he:E0 P ty with
  | none=>rw[he] at hs;simp at hs
  | some p =>
    obtain⟨m',e⟩:=p
    rw[he] at hs
    obtain⟨q,hq,h3⟩:=Option.map_eq_some_iff.1 (show(P.info? e).map (fun q=>(m',q.size))=some (m,1) from hs)
    injection h3 with h4 h5
    subst h4
    exact⟨fun a ha K' hK=>iY _ rfl (vz rfl (zt he) (by rw[hq];simp[h5]) (ha.ev hx) (ha.ev hi) hj hlt) (hK _ _ _ h (ha.put hd))⟩
end
theorem Dt{a b:Int}(ha:0≤a∧a<256)(hb:0≤b∧b<256) : bits .xor .u8 a b=xi a b:=u8_xor a b ha.1 ha.2 hb.1 hb.2
theorem pP{a b:Int}(ha:0≤a∧a<65536)(hb:0≤b∧b<65536) : bits .xor .u16 a b=xi a b:=u16_xor a b ha.1 ha.2 hb.1 hb.2
theorem ze{a:Int}(ha:0≤a∧a<65536) : bits .and .u16 a 1=a%2:=by
  rw[u16_and a 1 ha.1 ha.2 (by omega) (by omega)]
  show((a.toNat &&& 1:Nat) : Int)=_
  rw[Nat.and_one_is_mod]
  omega
def jb (k:Nat) : Array Value:=((List.range 256).map fun i=>if i<k then Value.int .u16 (md i) else Value.int .u16 0).toArray
theorem dG(k:Nat) : (jb k).size=256:=by simp[jb]
theorem rN(k:Nat) : (jb k).all (·.oneCell')=true:=by
  unfold jb
  rw[List.all_toArray,List.all_eq_true]
  intro v hv
  rw[List.mem_map] at hv
  obtain⟨i,_,rfl⟩:=hv
  split<;>rfl
theorem zv{i k:Nat}(hk:k=8)(hi:i<256) : (jb i).setIfInBounds i (.int .u16 ((fY k i:Nat) : Int))=jb (i+1):=by
  subst hk
  unfold jb
  rw[List.setIfInBounds_toArray]
  congr 1
  apply List.ext_getElem?
  intro j
  rw[List.getElem?_set]
  by_cases hj:j<256
  · by_cases hij:i=j
    · subst hij
      simp[hi,md,Bl]
    · simp[hij,hj]
      congr 1
      simp only[eq_iff_iff]
      omega
  · rw[if_neg (by omega)]
    simp[hj]
theorem BE{i:Nat}(h:i<256) : (jb 256)[i]? = some (.int .u16 (md i)):=by simp[jb,h]
def ex (s:Int)(b:List Int) : Nat→Int
  | 0=>s
  | k+1=>tq (ex s b k) (b.getD k 0)
theorem p6(s:Int)(b:List Int) : ∀ k,k≤b.length→ex s b k=cc s (b.take k)
  | 0,_=>by simp[ex,cc]
  | k+1,h=>by
    rw[List.take_succ_eq_append_getElem (by omega),ym,← p6 s b k (by omega)]
    show tq _ (b.getD k 0)=_
    rw[List.getD_eq_getElem?_getD,List.getElem?_eq_getElem (by omega)]
    rfl
theorem s8{s:Int}{b:List Int}{k:Nat}(h:k=b.length) : ex s b k=cc s b:=by
  subst h
  rw[p6 _ _ _ (Nat.le_refl _),List.take_length]
theorem kq{s:Int}{b:List Int}(hs:0≤s∧s<65536)(hb:∀ x,x∈b→0≤x∧x<256) : ∀ k,0≤ex s b k∧ex s b k<65536
  | 0=>hs
  | k+1=>sa (kq hs hb k) (fe (by omega) hb k)
theorem xQ{i:Int}(h:0≤i) : md ((i.toNat:Nat) : Int)=md i:=by rw[Int.toNat_of_nonneg h]
open Go.RowKit
theorem Ce{P:Program}(t e:TypeId)(sz:Nat){i:TypeInfo}(ht:P.underlying t=some (.slice e))(hi:P.info? e=some i)(hsz:i.size=sz)(A:Option Addr)(n c:Nat){k:Int}(h:Nat)(hk:k=(h:Int))(hh:h≤n)(hc:n≤c) :
    ∃ A':Option Addr,(∀ (kh:IntKind) (W:World),(Instr.slice t (.slice A n c) none (some (.int kh k)) none).run P W = .ok (.slice A' h c) W) ∧
      ∀ {α:Type} (m:Md) (e':TypeId) (R:World→α→List Value→Prop) (w:World) (xs:List α),aT m e' sz R w (.slice A n c) xs→aT m e' sz R w (.slice A' h c) (xs.take h):=by
  subst hk
  obtain⟨A',h1,h2⟩:=xG (P:=P) t e sz ht hi hsz A n c 0 h (Nat.zero_le _) hh hc
  refine⟨A',fun kh W=>?_,fun m e' R w xs hr=>by simpa using h2 m e' R w xs hr⟩
  have h3:=h1 .i64 kh W
  have hel:P.elem t=e:=by simp[Program.elem,ht]
  have hu:P.underlying t=some (.slice (P.elem t)):=by rw[hel];exact ht
  rw[run_slice_h W t A n c hu kh (h:Int) (Int.natCast_nonneg _) (by omega)]
  rw[run_slice_lh W t A n c hu .i64 kh (((0:Nat) : Int)) (h:Int) (Int.natCast_nonneg _) (by omega) (by omega)] at h3
  simpa using h3
theorem sM{o:Oper}{ev:Operand→Value}{P:Program}{w:World}{t:TypeId}{x y:Operand}{A:Option Addr}{n c:Nat}{kl:IntKind}{k:Int}{v:Value}{e:TypeId}(ho:o.op = .slice t x none (some y) none)(ht:P.underlying t=some (.slice e))(hx:ev x = .slice A n c)(hy:ev y = .int kl k)
    (hr:(Instr.slice t (.slice A n c) none (some (.int kl k)) none).run P w = .ok v w) : (execOp ev o).run P w = .ok (.value v) w:=by
  have hu:(underlying t).run P w = .ok (.slice e) w:=run_underlying ht w
  unfold execOp
  simp only[ho,Option.map_some,Option.map_none,hx,hy,Instr.sliceAt,Sem.run_bind,hu,hr,Result.andThen,Sem.run_pure]
theorem gl{P:Program}(t e:TypeId)(sz:Nat){i:TypeInfo}(ht:P.underlying t=some (.slice e))(hi:P.info? e=some i)(hsz:i.size=sz)(A:Option Addr)(n c:Nat){lo up:Int}(k h:Nat)(hlo:lo=(k:Int))(hup:up=(h:Int))(hk:k≤h)(hh:h≤n)(hc:n≤c) :
    ∃ A':Option Addr,(∀ (kl kh:IntKind) (W:World),(Instr.slice t (.slice A n c) (some (.int kl lo)) (some (.int kh up)) none).run P W = .ok (.slice A' (h-k) (c-k)) W) ∧
      ∀ {α:Type} (m:Md) (e':TypeId) (R:World→α→List Value→Prop) (w:World) (xs:List α),aT m e' sz R w (.slice A n c) xs→aT m e' sz R w (.slice A' (h-k) (c-k)) ((xs.take h).drop k):=by
  subst hlo hup
  exact xG t e sz ht hi hsz A n c k h hk hh hc
theorem eW{o:Oper}{ev:Operand→Value}{P:Program}{w:World}{t:TypeId}{x y z:Operand}{A:Option Addr}{n c:Nat}{kl kh:IntKind}{lo hi:Int}{v:Value}{e:TypeId}(ho:o.op = .slice t x (some y) (some z) none)(ht:P.underlying t=some (.slice e))(hx:ev x = .slice A n c)(hy:ev y = .int kl lo)(hz:ev z = .int kh hi)
    (hr:(Instr.slice t (.slice A n c) (some (.int kl lo)) (some (.int kh hi)) none).run P w = .ok v w) : (execOp ev o).run P w = .ok (.value v) w:=by
  have hu:(underlying t).run P w = .ok (.slice e) w:=run_underlying ht w
  unfold execOp
  simp only[ho,Option.map_some,Option.map_none,hx,hy,hz,Instr.sliceAt,Sem.run_bind,hu,hr,Result.andThen,Sem.run_pure]
theorem vT{P:Program}(t e:TypeId)(sz:Nat){i:TypeInfo}(ht:P.underlying t=some (.slice e))(hi:P.info? e=some i)(hsz:i.size=sz)(A:Option Addr)(n c:Nat){lo:Int}(k:Nat)(hlo:lo=(k:Int))(hk:k≤n) :
    ∃ A':Option Addr,(∀ (kl:IntKind) (W:World),(Instr.slice t (.slice A n c) (some (.int kl lo)) none none).run P W = .ok (.slice A' (n-k) (c-k)) W) ∧
      ∀ {α:Type} (m:Md) (e':TypeId) (R:World→α→List Value→Prop) (w:World) (xs:List α),aT m e' sz R w (.slice A n c) xs→aT m e' sz R w (.slice A' (n-k) (c-k)) (xs.drop k):=by
  subst hlo
  exact eh t e sz ht hi hsz A n c k hk
end Go.Proofs.YtdkhbcefkfgbdaaGreat
