/- Contracts of functions, part CGateBack5. -/
import Derived.Test.YtdkhbcefkfgbdaaGreatCGateBack1
import Derived.Test.YtdkhbcefkfgbdaaGreatCGateBack2
import Derived.Test.YtdkhbcefkfgbdaaGreatCGateBack3
import Derived.Test.YtdkhbcefkfgbdaaGreatCGateBack4
import Derived.Lib.AppendZeros
import Derived.Lib.AppendZerosOnto
import Derived.Laws.AppendOwn
set_option linter.unusedVariables false
set_option linter.unusedSimpArgs false
set_option maxRecDepth 100000
set_option maxHeartbeats 4000000
namespace Go.Proofs.YtdkhbcefkfgbdaaGreat
open Go.RowKit
inductive XS where
  | r (S:SS)
  | a (S:SA)
  | m (S:SM)
def XS.zero (k d:Int) : XS:=bif k==0 then .r ⟨d,[],false⟩ else bif k==1 then .a ⟨d,[]⟩ else .m ⟨d,[],0⟩
def XS.feed:XS→List Int→XS × List Ev
  | .r S,b=>(.r (S.feed b).1,(S.feed b).2)
  | .a S,b=>(.a (S.feed b).1,(S.feed b).2)
  | .m S,b=>(.m (S.feed b).1,(S.feed b).2)
def XS.tick:XS→XS × List Ev
  | .r S=>(.r S.tick.1,S.tick.2)
  | .a S=>(.a S,[])
  | .m S=>(.m S,[])
def XS.take (S:XS)(b:List Int)(t:Bool) : XS × List Ev:=bif t then ((S.feed b).1.tick.1,(S.feed b).2++(S.feed b).1.tick.2) else S.feed b
def XS.held:XS→List Int
  | .r S=>S.held
  | .a S=>S.held
  | .m S=>S.held
def Fc:XS→TypeId
  | .r _=>107
  | .a _=>35
  | .m _=>25
def cQ (n base:Nat)(w:World)(g:Nat)(A:Option Addr)(c:Nat) : XS→Prop
  | .r S=>de n base w g A c S
  | .a S=>dn n base w g A c S
  | .m S=>dr n base w g A c S
abbrev F5 (S:XS) (g:Nat) : Array Value:=#[.iface (Fc S) (.pointer (some ⟨g,0,none⟩))]
def aj (n base:Nat)(w:World)(s g:Nat)(A:Option Addr)(c:Nat)(S:XS) : Prop:=w.heap[s]? = some (.cells (F5 S g) 112 (0,0))∧cQ n base w g A c S
section
variable {n base s g c:Nat}{w w':World}{A:Option Addr}{S:XS}{X:List Nat}
theorem cQ.row(h:cQ n base w g A c S) : cG base w (.slice A 0 c) []:=by
  cases S with
  | r S=>exact h.2.1
  | a S=>exact pk h.2.1
  | m S=>exact pk h.2.1
theorem cQ.low(h:cQ n base w g A c S) : ∀ x,x∈ob A→n≤x:=by
  cases S with
  | r S=>exact h.2.2.2.1
  | a S=>exact h.2.2.2.2.1
  | m S=>exact h.2.2.2.2.1
theorem cQ.nle(h:cQ n base w g A c S) : n≤w.heap.size:=by
  cases S with
  | r S=>exact h.2.2.1
  | a S=>exact h.2.2.2.1
  | m S=>exact h.2.2.2.1
theorem cQ.ble(h:cQ n base w g A c S) : base≤w.heap.size:=by
  cases S with
  | r S=>exact h.2.2.2.2
  | a S=>exact h.2.2.2.2.2
  | m S=>exact h.2.2.2.2.2
theorem cQ.cells(h:cQ n base w g A c S) : ∃ t cs fr,w.heap[g]? = some (.cells cs t fr)∧gC.contains t=false∧(t==112)=false∧(t==5)=false:=by
  cases S with
  | r S=>obtain⟨cs,fr,k⟩:=de.cells h;exact⟨_,cs,fr,k,by decide,by decide,by decide⟩
  | a S=>exact⟨_,_,_,h.1,by decide,by decide,by decide⟩
  | m S=>exact⟨_,_,_,h.1,by decide,by decide,by decide⟩
theorem cQ.lt(h:cQ n base w g A c S) : g<w.heap.size:=by
  obtain⟨t,cs,fr,k,_⟩:=h.cells
  exact ag k
theorem cQ.upd(h:cQ n base w g A c S)(hu:ay X w w')(hg:g∉X)(hr:∀ x,x∈ob A→x∉X) : cQ n base w' g A c S:=by
  cases S with
  | r S=>exact de.upd h hu hg hr
  | a S=>exact dn.upd h hu hg hr
  | m S=>exact dr.upd h hu hg hr
theorem cQ.gA(h:cQ n base w g A c S) : g∉ob A:=by
  obtain⟨t,cs,fr,k,_,_,h2⟩:=h.cells
  exact aJ k h.row h2
theorem aj.row(h:aj n base w s g A c S) : cG base w (.slice A 0 c) []:=h.2.row
theorem aj.low(h:aj n base w s g A c S) : ∀ x,x∈ob A→n≤x:=h.2.low
theorem aj.nle(h:aj n base w s g A c S) : n≤w.heap.size:=h.2.nle
theorem aj.ble(h:aj n base w s g A c S) : base≤w.heap.size:=h.2.ble
theorem aj.lt(h:aj n base w s g A c S) : s<w.heap.size:=ag h.1
theorem aj.glt(h:aj n base w s g A c S) : g<w.heap.size:=h.2.lt
theorem aj.cells(h:aj n base w s g A c S) : ∃ cs fr,w.heap[s]? = some (.cells cs 112 fr):=⟨_,_,h.1⟩
theorem aj.sg(h:aj n base w s g A c S) : s≠g:=fun e=>by
  obtain⟨t,cs,fr,k,_,h2,_⟩:=h.2.cells
  rw[← e,h.1] at k
  injection k with k
  injection k with _ k _
  rw[← k] at h2
  exact absurd h2 (by decide)
theorem aj.gA(h:aj n base w s g A c S) : g∉ob A:=h.2.gA
theorem aj.upd(h:aj n base w s g A c S)(hu:ay X w w')(hs:s∉X)(hg:g∉X)(hr:∀ x,x∈ob A→x∉X) : aj n base w' s g A c S:=⟨hu.blk hs h.1,h.2.upd hu hg hr⟩
theorem aj.old(h:aj n base w s g A c S)(hu:ay [] w w') : aj n base w' s g A c S:=h.upd hu (by simp) (by simp) (fun x _=>by simp)
theorem cQ.ty(h:cQ n base w g A c S) : ∃ t cs fr,w.heap[g]? = some (.cells cs t fr)∧(t=142∨t=95∨t=89):=by
  cases S with
  | r S=>obtain⟨cs,fr,k⟩:=de.cells h;exact⟨_,cs,fr,k,.inl rfl⟩
  | a S=>exact⟨_,_,_,h.1,.inr (.inl rfl)⟩
  | m S=>exact⟨_,_,_,h.1,.inr (.inr rfl)⟩
theorem aj.gx{α:Type}{b2 sz m c2:Nat}{e:TypeId}{R:World→α→List Value→Prop}{A2:Option Addr}{xs:List α}(h:aj n base w s g A c S)(hO:aQ b2 e sz R w (.slice A2 m c2) xs)(he:(142==e)=false∧(95==e)=false∧(89==e)=false) : g∉ob A2:=by
  obtain⟨t,cs,fr,k,rfl|rfl|rfl⟩:=h.2.ty
  · exact aJ k hO he.1
  · exact aJ k hO he.2.1
  · exact aJ k hO he.2.2
theorem aj.apt(h:aj n base w s g A c S){k:Nat}(hk:k≤n) : wx k (g :: (ob A++[])) w:=by
  obtain⟨t,cs,fr,q,h1,_⟩:=h.2.cells
  exact fR q h1 (jp (wX hk h.low) cv)
end
def DE (n base:Nat)(S2:XS)(L:List Ev)(s g:Nat)(A:Option Addr)(w:World)(e:Ending)(w':World) : Prop:=∃ v A2 c2 n2,e = .returned v∧dy n2 w.heap.size w' v L∧aj n2 base w' s g A2 c2 S2∧(∀ x,x∈ob A2→x∈ob A∨w.heap.size≤x)∧n≤n2∧ay (g :: (ob A++[])) w w'
def DK (n base:Nat)(S2:XS)(L:List Ev)(g:Nat)(A:Option Addr)(w:World)(e:Ending)(w':World) : Prop:=∃ v A2 c2 n2,e = .returned v∧dy n2 w.heap.size w' v L∧cQ n2 base w' g A2 c2 S2∧(∀ x,x∈ob A2→x∈ob A∨w.heap.size≤x)∧n≤n2∧ay (g :: (ob A++[])) w w'
section
variable {w:World}{n base g c cpb nb:Nat}{A B:Option Addr}{m:Md}{b:List Int}
theorem vf{S:SS}(h:cQ n base w g A c (.r S))(hsl:aW m w (.slice B nb cpb) b)(hbl:b.length≤1048576) :
    Calls Tryz.prog 250 #[.pointer (some ⟨g,0,none⟩),.slice B nb cpb] w (DK n base (.r (S.feed b).1) (S.feed b).2 g A w):=by
  obtain⟨_,_,e,hc,_⟩:=hsl.shape
  injection e with e1 e2 e3
  subst e1 e2 e3
  exact uy h h.gA hsl hbl hc
theorem uT{S:SS}(h:cQ n base w g A c (.r S)) : Calls Tryz.prog 252 #[.pointer (some ⟨g,0,none⟩)] w (DK n base (.r S.tick.1) S.tick.2 g A w):=uZ h
theorem uY{S:SA}(h:cQ n base w g A c (.a S))(hsl:aW m w (.slice B nb cpb) b)(hdg:0<nb→∀ x,x∈ob B→x≠g)(hda:lU nb B (ob A))(hbl:b.length≤1048576) :
    Calls Tryz.prog 22 #[.pointer (some ⟨g,0,none⟩),.slice B nb cpb] w (DK n base (.a (S.feed b).1) (S.feed b).2 g A w):=tp rfl h hsl hdg hda hbl
theorem wg{S:SM}(h:cQ n base w g A c (.m S))(hsl:aW m w (.slice B nb cpb) b)(hdg:0<nb→∀ x,x∈ob B→x≠g)(hda:lU nb B (ob A))(hbl:b.length≤1048576) :
    Calls Tryz.prog 16 #[.pointer (some ⟨g,0,none⟩),.slice B nb cpb] w (DK n base (.m (S.feed b).1) (S.feed b).2 g A w):=sx rfl h hsl hdg hda hbl
end
open Go.RowKit
section
variable {P:Program}{n:Nat}{D:List Deferred}{F:Fr}{w:World}{K:Fr→World→Prop}{Q:Exit→Act→World→Prop}{d:Option Tmp}{t:TypeId}{s:String}{af:Array Edge}{gu:Option (Nat × Bool)}
theorem yW{a:Act}{K:Act→World→Prop}{o:Oper}{N:Option Tmp}{f:FuncId}{fn:Func}{x:Operand}{nm:String}{opds:Array Operand}{ts:Array TypeId}{T:TypeId}{v rv:Value}(args:Array Value)(hN:o.dst=N)(hop:o.op = .call { callee:=.invoke x nm,args:=opds,argTypes:=ts })
    (hx : a.eval x = .iface T v) (hm : (method (P.types.size + Made.depth) T v nm).run P w = .ok (f, rv) w) (hf : P.funcs[f]? = some fn) (hname : (fn.name == "runtime.NumGoroutine") = false) (hb : fn.body.isSome = true) (hargs : #[rv] ++ opds.map a.eval = args)
    (h:Calls P f args w fun e w'=>∃ v,e = .returned v∧K (a.put N v) w') : OW P o a w K Q:=by
  refine OW.mk ?_
  subst hN
  subst hargs
  have h1 : fn.name ≠ "runtime.NumGoroutine" := by simpa using hname
  obtain⟨cd,hcd⟩:=Option.isSome_iff_exists.1 hb
  have hcm:(callMethod (.iface T v) nm (opds.map a.eval)).run P w = .ok (.enter f (#[rv]++opds.map a.eval)) w:=by
    unfold callMethod
    simp only[program,Sem.run_bind]
    have hp:(pure P:Sem Program).run P w = .ok P w:=rfl
    simp[Sem.run,hm,callFunc,hf,h1,hcd,Result.andThen]
  have hinv:invoke (.fn (.method nm) #[]) (#[.iface T v]++opds.map a.eval)=callMethod (.iface T v) nm (opds.map a.eval):=by
    have e0:(#[Value.iface T v]++opds.map a.eval)[0]? = some (.iface T v):=by
      rw[Array.getElem?_append_left (by simp)]
      rfl
    have e1:(#[Value.iface T v]++opds.map a.eval).extract 1 (#[Value.iface T v]++opds.map a.eval).size=opds.map a.eval:=by
      apply Array.toList_inj.1
      simp only[Array.toList_extract,List.extract_eq_take_drop,Array.toList_append,Array.toList_map,Array.size_append,Array.size_map]
      simp[List.take_of_length_le]
    unfold invoke
    simp only[e0,e1]
  have hrun:(execOp a.eval o).run P w = .ok (.enter f (#[rv]++opds.map a.eval)) w:=by
    unfold execOp
    simp only[hop,resolve,hx,Sem.run_bind,Sem.run_pure,Result.andThen_ok,hinv,hcm]
  unfold Oper.wp
  rw[hrun,Oper.upon_enter]
  refine h.mono fun e w'' hh=>?_
  obtain⟨v,rfl,h2⟩:=hh
  exact h2
theorem wv{f:FuncId}{x:Operand}{nm:String}{opds:Array Operand}{ts:Array TypeId}{args:Array Value}(T:TypeId)(v rv:Value)(h:Calls P f args w fun e w'=>∃ v,e = .returned v∧K (pt d v F) w')
    (hm:(method (P.types.size+Made.depth) T v nm).run P w = .ok (f,rv) w:=by kernel_rfl) (hx:eg F x=some (.iface T v):=by kernel_rfl) (ha:some rv :: opds.toList.map (eg F)=args.toList.map some:=by kernel_rfl) (hf:BW P f=some (false,true):=by kernel_rfl) (hs:eU n d=true:=by kernel_rfl) : OG P ⟨d,.call { callee:=.invoke x nm,args:=opds,argTypes:=ts },t,s,af,gu⟩ n D F w K Q:=by
  obtain⟨fn,h1,h2,h3⟩:=jU hf
  refine⟨fun a hag K' hK=>yW args rfl rfl (hag.ev hx) hm h1 h2 h3 ?_ (h.mono fun e w' hh=>by
    obtain⟨v,rfl,hk⟩:=hh
    exact⟨v,rfl,hK _ _ _ hk (hag.put hs)⟩)⟩
  apply Array.toList_inj.1
  obtain⟨vs,has⟩ : ∃ vs:List Value,args.toList=rv :: vs∧opds.toList.map (eg F)=vs.map some:=by
    cases hl:args.toList with
    | nil=>rw[hl] at ha;cases ha
    | cons y ys =>
      rw[hl] at ha
      injection ha with e1 e2
      exact⟨ys,by rw[Option.some.inj e1],e2⟩
  rw[has.1,Array.toList_append,Array.toList_map,lK hag has.2]
  rfl
theorem Fz{x:Operand}{xt ty:TypeId}{ok:Bool}(T:TypeId)(v r:Value)(h:K (pt d r F) w)(hx:eg F x=some (.iface T v):=by kernel_rfl)(hr:(Instr.typeAssert (.iface T v) xt ty ok).run P w = .ok r w:=by kernel_rfl)(hs:eU n d=true:=by kernel_rfl) : OG P ⟨d,.typeAssert x xt ty ok,t,s,af,gu⟩ n D F w K Q:=by
  refine⟨fun a ha K' hK=>gi r rfl ?_ (hK _ _ _ h (ha.put hs))⟩
  unfold execOp
  simp only[ha.ev hx,Sem.run_bind,hr,Result.andThen_ok,Sem.run_pure]
theorem mp:∀ {l:List String},l≠[]→∃ m,Instr.least l=some m
  | [],h=>absurd rfl h
  | s :: r,_=>⟨_,rfl⟩
theorem oV{want:Array (String × TypeId)}{got:Array Method}(h:(want.toList.filter fun p=>!got.any fun m=>m.name==p.1&&m.sig==p.2).isEmpty=false) : ∃ m,Instr.missingMethod want got=some m:=by
  unfold Instr.missingMethod
  simp only[List.partition_eq_filter_filter]
  have hne:((want.toList.filter fun p=>!got.any fun m=>m.name==p.1&&m.sig==p.2).map (·.1))≠[]:=by
    intro e
    rw[List.map_eq_nil_iff] at e
    rw[e] at h
    cases h
  generalize ((want.toList.filter fun p=>!got.any fun m=>m.name==p.1&&m.sig==p.2).map (·.1))=l at hne
  by_cases hx:l.filter (not ∘ (fun s:String=>s.contains '.'))=[]
  · have hy:l.filter (fun s:String=>s.contains '.')≠[]:=by
      intro hy
      obtain⟨s,hs⟩:=List.exists_mem_of_ne_nil l hne
      cases hc:s.contains '.'
      · have:s∈l.filter (not ∘ (fun s:String=>s.contains '.')):=List.mem_filter.2 ⟨hs,by simp only[Function.comp,hc,Bool.not_false]⟩
        rw[hx] at this
        cases this
      · have:s∈l.filter (fun s:String=>s.contains '.'):=List.mem_filter.2 ⟨hs,hc⟩
        rw[hy] at this
        cases this
    rw[hx]
    obtain ⟨m, hm⟩ := mp (l := (l.filter (fun s : String => s.contains '.')).map (fun id => (id.splitOn ".").getLastD id)) (by simpa using hy)
    exact⟨m,by rw[hm];rfl⟩
  · obtain⟨m,hm⟩:=mp hx
    exact⟨m,by rw[hm];rfl⟩
def Du (P:Program)(ty T:TypeId) : Bool:=match P.underlying ty,P.info? T with
  | some (.interface want),some i=>!(want.toList.filter fun p=>!i.methods.any fun m=>m.name==p.1&&m.sig==p.2).isEmpty
  | _,_=>false
theorem ER{x:Operand}{xt ty:TypeId}(T:TypeId)(v z:Value)(h:K (pt d (.tuple #[z,.bool false]) F) w)(hm:Du P ty T=true:=by kernel_rfl)(hx:eg F x=some (.iface T v):=by kernel_rfl)(hz:(zeroValue ty).run P w = .ok z w:=by kernel_rfl)(hs:eU n d=true:=by kernel_rfl) : OG P ⟨d,.typeAssert x xt ty true,t,s,af,gu⟩ n D F w K Q:=by
  refine⟨fun a ha K' hK=>gi _ rfl ?_ (hK _ _ _ h (ha.put hs))⟩
  unfold Du at hm
  split at hm
  · rename_i want i hu hi
    obtain⟨m,hmm⟩:=oV (by simpa using hm)
    have h1:(underlying ty).run P w = .ok (.interface want) w:=run_underlying hu w
    have h2:(typeInfo T).run P w = .ok i w:=by simp[typeInfo,hi]
    unfold execOp
    simp only[ha.ev hx,Instr.typeAssert,Sem.run_bind,h1,h2,Result.andThen_ok,hmm,hz,Sem.run_pure,if_true]
  · cases hm
end
open Go.RowKit
def mQ (k dir:Int)(b:List Int) : aM × Int:=bif k==0 then eN dir b else bif k==1 then ee dir b else bif k==2 then cE dir b else (aM.zero,1)
def gf (k dir u t:Int)(M:b7) : Option (List Int):=bif k==0 then gK dir u t M else bif k==1 then gM dir u t M else bif k==2 then eq dir u t M else none
def xf (k:Int) : Int:=bif k==0 then 256 else bif k==1 then 513 else bif k==2 then 260 else 0
theorem k4{C:Prop}(k:Int)(h0:k=0→C)(h1:k=1→C)(h2:k=2→C)(h3:(k==0)=false→(k==1)=false→(k==2)=false→C) : C:=by
  cases e0:k==0
  · cases e1:k==1
    · cases e2:k==2
      · exact h3 e0 e1 e2
      · exact h2 (by simpa using e2)
    · exact h1 (by simpa using e1)
  · exact h0 (by simpa using e0)
theorem dt(x:Int) : x%3=0∨x%3=1∨x%3=2:=by omega
theorem xS{k dir:Int}{b:List Int}(h0:(k==0)=false)(h1:(k==1)=false)(h2:(k==2)=false) : mQ k dir b=(aM.zero,1):=by unfold mQ;rw[h0,h1,h2];rfl
theorem rT{k dir u t:Int}{M:b7}(h0:(k==0)=false)(h1:(k==1)=false)(h2:(k==2)=false) : gf k dir u t M=none:=by unfold gf;rw[h0,h1,h2];rfl
theorem Cu{k:Int}(h0:(k==0)=false)(h1:(k==1)=false)(h2:(k==2)=false) : xf k=0:=by unfold xf;rw[h0,h1,h2];rfl
def iq (base:Nat)(w:World)(v:Value)(xs:List Int) : Prop:=aW true w v xs∧∃ A n c,v = .slice A n c∧∀ x,x∈ob A→base≤x
theorem iq.wk{base base':Nat}{w:World}{v:Value}{xs:List Int}(h:iq base w v xs)(k:base'≤base) : iq base' w v xs:=by
  obtain⟨h1,A,n,c,h2,h3⟩:=h
  exact⟨h1,A,n,c,h2,fun x hx=>Nat.le_trans k (h3 x hx)⟩
def WR (res:Option (List Int))(base:Nat)(w:World)(v:Value)(n:Int) : Prop:=match res with
  | some l=>n=0∧iq base w v l
  | none=>n=1∧v = .slice none 0 0
theorem WR.wk{res:Option (List Int)}{base base':Nat}{w:World}{v:Value}{n:Int}(h:WR res base w v n)(k:base'≤base) : WR res base' w v n:=by
  cases res with
  | none=>exact h
  | some l=>exact⟨h.1,h.2.wk k⟩
def wD (res:Option (List Int))(w:World)(e:Ending)(w':World) : Prop:=∃ v n,e = .returned (.tuple #[v,.int .i64 n])∧WR res w.heap.size w' v n∧ay [] w w'
theorem iq.of{base:Nat}{w:World}{v:Value}{xs:List Int}(h:cG base w v xs) : iq base w v xs:=by
  obtain⟨A,c,rfl,_,_⟩:=h.rd.shape
  exact⟨h.rd,A,_,c,rfl,jr h⟩
theorem iq.ofF{base:Nat}{w:World}{v:Value}{xs:List Int}(h:ky base w v xs) : iq base w v xs:=by
  obtain⟨b,c,rfl⟩:=h.shape
  exact⟨h.rd,_,_,c,rfl,fun x hx=>by simp[ob] at hx;subst hx;exact h.ge⟩
theorem tT{w:World}:Calls Tryz.prog 59 #[vI 0] w (bS (.iface 133 (.agg #[])) w):=by
 exact en 18 Tryz.func59 rfl<|aB 1<|sq<|aB 1<|bk<|sq<|go<|al 2<|c1<|aB 3<|rt<|br<|tr<|rr (.iface 133 (.agg #[]))<|⟨rfl,(ay.refl [] _)⟩
theorem tZ{w:World}:Calls Tryz.prog 59 #[vI 1] w (bS (.iface 134 (.agg #[])) w):=by
 exact en 18 Tryz.func59 rfl<|aB 1<|sq<|aB 1<|bk<|sq<|go<|al 2<|c0<|aB 2<|c1<|aA 3<|nl<|tn<|rt<|br<|tr<|rr (.iface 134 (.agg #[]))<|⟨rfl,(ay.refl [] _)⟩
theorem tV{w:World}:Calls Tryz.prog 59 #[vI 2] w (bS (.iface 135 (.agg #[])) w):=by
 exact en 18 Tryz.func59 rfl<|aB 1<|sq<|aB 1<|bk<|sq<|go<|al 2<|c0<|aB 2<|c0<|aA 2<|nl<|tn<|c1<|aB 3<|rt<|br<|tr<|rr (.iface 135 (.agg #[]))<|⟨rfl,(ay.refl [] _)⟩
theorem tN{w:World}{k:Int}(h0:(k==0)=false)(h1:(k==1)=false)(h2:(k==2)=false) : Calls Tryz.prog 59 #[vI k] w (bS (.iface 136 (.agg #[])) w):=by
 exact en 18 Tryz.func59 rfl<|aB 1<|sq<|aB 1<|bk<|sq<|go<|al 2<|cf h0<|aB 2<|cf h1<|aA 2<|nl<|tn<|cf h2<|sk<|bn<|tn<|aB 3<|rt<|rr (.iface 136 (.agg #[]))<|⟨rfl,(ay.refl [] _)⟩
theorem AH{w:World}:Calls Tryz.prog 259 #[.agg #[]] w (bS (vI 256) w):=by
 exact en 3 Tryz.func259 rfl<|sg<|L0<|cX #[] fun b c d e a=>Pl 1<|dK 1<|rt<|rr (vI 256)<|⟨rfl,a⟩
theorem wq{w:World}:Calls Tryz.prog 58 #[vI 0] w (bS (vI 256) w):=by
 refine en 6 Tryz.func58 rfl<|aA 1<|aU 1<|aG<|m1 (tT) fun c a=>L0<|wv (f:=259) (args:=#[.agg #[]]) 133 (.agg #[]) (.agg #[])<|m1 (@AH _) fun d b=>al 1<|rt<|rr (vI 256)<|?_
 exact⟨rfl,(aK a b)⟩
theorem AA{w:World}:Calls Tryz.prog 263 #[.agg #[]] w (bS (vI 513) w):=by
 exact en 3 Tryz.func263 rfl<|sg<|L0<|cX #[] fun b c d e a=>Pl 1<|dK 1<|rt<|rr (vI 513)<|⟨rfl,a⟩
theorem uR{w:World}:Calls Tryz.prog 58 #[vI 1] w (bS (vI 513) w):=by
 refine en 6 Tryz.func58 rfl<|aA 1<|aU 1<|aG<|m1 (tZ) fun c a=>L0<|wv (f:=263) (args:=#[.agg #[]]) 134 (.agg #[]) (.agg #[])<|m1 (@AA _) fun d b=>al 1<|rt<|rr (vI 513)<|?_
 exact⟨rfl,(aK a b)⟩
theorem AK{w:World}:Calls Tryz.prog 272 #[.agg #[]] w (bS (vI 260) w):=by
 exact en 3 Tryz.func272 rfl<|sg<|L0<|cX #[] fun b c d e a=>Pl 1<|dK 1<|rt<|rr (vI 260)<|⟨rfl,a⟩
theorem v8{w:World}:Calls Tryz.prog 58 #[vI 2] w (bS (vI 260) w):=by
 refine en 6 Tryz.func58 rfl<|aA 1<|aU 1<|aG<|m1 (tV) fun c a=>L0<|wv (f:=272) (args:=#[.agg #[]]) 135 (.agg #[]) (.agg #[])<|m1 (@AK _) fun d b=>al 1<|rt<|rr (vI 260)<|?_
 exact⟨rfl,(aK a b)⟩
theorem zO{w:World}:Calls Tryz.prog 276 #[.agg #[]] w (bS (vI 0) w):=by
 exact en 3 Tryz.func276 rfl<|sg<|L0<|cX #[] fun b c d e a=>Pl 1<|dK 1<|rt<|rr (vI 0)<|⟨rfl,a⟩
theorem uw{w:World}{k:Int}(h0:(k==0)=false)(h1:(k==1)=false)(h2:(k==2)=false) : Calls Tryz.prog 58 #[vI k] w (bS (vI 0) w):=by
 refine en 6 Tryz.func58 rfl<|aA 1<|aU 1<|aG<|m1 (tN h0 h1 h2) fun c a=>L0<|wv (f:=276) (args:=#[.agg #[]]) 136 (.agg #[]) (.agg #[])<|m1 (@zO _) fun d b=>al 1<|rt<|rr (vI 0)<|?_
 exact⟨rfl,(aK a b)⟩
theorem jP{w:World}{k:Int}:Calls Tryz.prog 58 #[.int .i64 k] w (bS (.int .i64 (xf k)) w):=by
  refine k4 k (fun h=>?_) (fun h=>?_) (fun h=>?_) (fun h0 h1 h2=>?_)
  · subst h;exact wq
  · subst h;exact uR
  · subst h;exact v8
  · rw[Cu h0 h1 h2];exact uw h0 h1 h2
theorem rV{m:Md}{x:SL}{M:b7}{w:World}{dir u t:Int}(h:aH m w (jq M x).toList M)(hf:bg M)(hbu:0≤u∧u<256)(hbt:0≤t∧t<65536) : Calls Tryz.prog 262 #[.int .i64 dir,.agg (eo u t M x)] w (wD (gK dir u t M) w):=by
  cases hX:gK dir u t M with
  | none =>
    refine(pU hX h hf hbu hbt).mono ?_
    rintro e w' ⟨rfl,hu⟩
    exact⟨_,_,rfl,⟨rfl,rfl⟩,hu⟩
  | some l =>
    refine(rk hX h hf hbu hbt).mono ?_
    rintro e w' ⟨v,rfl,ho,hu⟩
    exact⟨_,_,rfl,⟨rfl,iq.of ho⟩,hu⟩
theorem AO{m:Md}{x:SL}{M:b7}{w:World}{dir u t:Int}(h:aH m w (jq M x).toList M)(hf:bg M)(hbu:0≤u∧u<256)(hbt:0≤t∧t<65536) : Calls Tryz.prog 261 #[.agg #[],vI dir,.agg (eo u t M x)] w (wD (gK dir u t M) w):=by
 refine en 13 Tryz.func261 rfl<|sg<|L0<|cX #[] fun j k l n b=>L0<|cX (eo u t M x) fun o p q c d=>Pl 2<|aU 1<|L0<|cM c<|?_
 have a:=aK b d
 refine aG<|Bz (rV (dir:=dir) (aH.old h a) hf hbu hbt) fun e f r g i=>al 4<|rt<|rr (.tuple #[e,vI f])<|?_
 exact⟨_,_,rfl,g.wk a.size,(aK a i)⟩
theorem sV{m:Md}{x:SL}{M:b7}{w:World}{dir u t:Int}(h:aH m w (jq M x).toList M)(hf:bg M)(hbu:0≤u∧u<256)(hbt:0≤t∧t<65536) : Calls Tryz.prog 27 #[vI 0,vI dir,.agg (eo u t M x)] w (wD (gK dir u t M) w):=by
 refine en 15 Tryz.func27 rfl<|sg<|L0<|cX (eo u t M x) fun d s v n o=>al 2<|sq<|Rg 9 (fun w'=>w'.heap[d]? = some (.cells (eo u t M x) 47 (0,0))) fun y e=>?_
 have i:=ub e n
 refine bi i fun b=>Rt 0 b<|Rt 2 b<|Rr 3 b (.agg (eo u t M x)) (fun w' hs=>ie (g:=d) (off:=0) [vB u,vW t,vB M.code,vB M.fail,vW M.addr,vW M.count,vW M.value,vW M.and_,vW M.or_,vW M.addr2,vW M.sub,vW M.status,vW M.events,vW M.messages,.slice x.aw M.words.length x.kw,.slice x.ab M.bits.length x.kb,.slice x.ad M.data.length x.kd,.slice x.ar M.recs.length x.kr,vB M.mei,vB M.kind,vB M.level,vB M.more,vB M.next,.slice x.ao M.objects.length x.ko] rfl (by kernel_rfl) hs (by kernel_rfl) (by kernel_rfl) rfl)<|R0 1 rfl<|Oc<|m1 (tT) fun z j=>?_
 have k:=ub j i
 refine bi k fun A=>?_
 have c:=aK o (aK e j)
 refine R0 4 rfl<|wv (f:=261) (args:=#[.agg #[],vI dir,.agg (eo u t M x)]) 133 (.agg #[]) (.agg #[])<|Bz (AO (dir:=dir) (aH.old h c) hf hbu hbt) fun p q B r l=>?_
 refine bi (ub l k) fun a=>Rt 5 a<|Rt 6 a<|Rt 7 a<|Rt 8 a<|re<|tn<|rt<|rr (.tuple #[p,vI q])<|?_
 exact⟨_,_,rfl,r.wk c.size,(aK c l)⟩
theorem ss{m:Md}{x:SL}{M:b7}{w:World}{dir u t:Int}(h:aH m w (jq M x).toList M)(hf:bg M)(hbu:0≤u∧u<256)(hbt:0≤t∧t<65536) : Calls Tryz.prog 266 #[.int .i64 dir,.agg (eo u t M x)] w (wD (gM dir u t M) w):=by
  cases hX:gM dir u t M with
  | none =>
    refine(rA hX h hf hbu hbt).mono ?_
    rintro e w' ⟨rfl,hu⟩
    exact⟨_,_,rfl,⟨rfl,rfl⟩,hu⟩
  | some l =>
    refine(qZ hX h hf hbu hbt).mono ?_
    rintro e w' ⟨v,rfl,ho,hu⟩
    exact⟨_,_,rfl,⟨rfl,iq.ofF ho⟩,hu⟩
theorem AB{m:Md}{x:SL}{M:b7}{w:World}{dir u t:Int}(h:aH m w (jq M x).toList M)(hf:bg M)(hbu:0≤u∧u<256)(hbt:0≤t∧t<65536) : Calls Tryz.prog 265 #[.agg #[],vI dir,.agg (eo u t M x)] w (wD (gM dir u t M) w):=by
 refine en 13 Tryz.func265 rfl<|sg<|L0<|cX #[] fun j k l n b=>L0<|cX (eo u t M x) fun o p q c d=>Pl 2<|aU 1<|L0<|cM c<|?_
 have a:=aK b d
 refine aG<|Bz (ss (dir:=dir) (aH.old h a) hf hbu hbt) fun e f r g i=>al 4<|rt<|rr (.tuple #[e,vI f])<|?_
 exact⟨_,_,rfl,g.wk a.size,(aK a i)⟩
theorem sf{m:Md}{x:SL}{M:b7}{w:World}{dir u t:Int}(h:aH m w (jq M x).toList M)(hf:bg M)(hbu:0≤u∧u<256)(hbt:0≤t∧t<65536) : Calls Tryz.prog 27 #[vI 1,vI dir,.agg (eo u t M x)] w (wD (gM dir u t M) w):=by
 refine en 15 Tryz.func27 rfl<|sg<|L0<|cX (eo u t M x) fun d s v n o=>al 2<|sq<|Rg 9 (fun w'=>w'.heap[d]? = some (.cells (eo u t M x) 47 (0,0))) fun y e=>?_
 have i:=ub e n
 refine bi i fun b=>Rt 0 b<|Rt 2 b<|Rr 3 b (.agg (eo u t M x)) (fun w' hs=>ie (g:=d) (off:=0) [vB u,vW t,vB M.code,vB M.fail,vW M.addr,vW M.count,vW M.value,vW M.and_,vW M.or_,vW M.addr2,vW M.sub,vW M.status,vW M.events,vW M.messages,.slice x.aw M.words.length x.kw,.slice x.ab M.bits.length x.kb,.slice x.ad M.data.length x.kd,.slice x.ar M.recs.length x.kr,vB M.mei,vB M.kind,vB M.level,vB M.more,vB M.next,.slice x.ao M.objects.length x.ko] rfl (by kernel_rfl) hs (by kernel_rfl) (by kernel_rfl) rfl)<|R0 1 rfl<|Oc<|m1 (tZ) fun z j=>?_
 have k:=ub j i
 refine bi k fun A=>?_
 have c:=aK o (aK e j)
 refine R0 4 rfl<|wv (f:=265) (args:=#[.agg #[],vI dir,.agg (eo u t M x)]) 134 (.agg #[]) (.agg #[])<|Bz (AB (dir:=dir) (aH.old h c) hf hbu hbt) fun p q B r l=>?_
 refine bi (ub l k) fun a=>Rt 5 a<|Rt 6 a<|Rt 7 a<|Rt 8 a<|re<|tn<|rt<|rr (.tuple #[p,vI q])<|?_
 exact⟨_,_,rfl,r.wk c.size,(aK c l)⟩
theorem qL{m:Md}{x:SL}{M:b7}{w:World}{dir u t:Int}(h:aH m w (jq M x).toList M)(hf:bg M)(hbu:0≤u∧u<256)(hbt:0≤t∧t<65536) : Calls Tryz.prog 275 #[.int .i64 dir,.agg (eo u t M x)] w (wD (eq dir u t M) w):=by
  cases hX:eq dir u t M with
  | none =>
    refine(pg hX h hf hbu hbt).mono ?_
    rintro e w' ⟨rfl,hu⟩
    exact⟨_,_,rfl,⟨rfl,rfl⟩,hu⟩
  | some l =>
    refine(oP hX h hf hbu hbt).mono ?_
    rintro e w' ⟨v,rfl,ho,hu⟩
    exact⟨_,_,rfl,⟨rfl,iq.of ho⟩,hu⟩
theorem zX{m:Md}{x:SL}{M:b7}{w:World}{dir u t:Int}(h:aH m w (jq M x).toList M)(hf:bg M)(hbu:0≤u∧u<256)(hbt:0≤t∧t<65536) : Calls Tryz.prog 274 #[.agg #[],vI dir,.agg (eo u t M x)] w (wD (eq dir u t M) w):=by
 refine en 13 Tryz.func274 rfl<|sg<|L0<|cX #[] fun j k l n b=>L0<|cX (eo u t M x) fun o p q c d=>Pl 2<|aU 1<|L0<|cM c<|?_
 have a:=aK b d
 refine aG<|Bz (qL (dir:=dir) (aH.old h a) hf hbu hbt) fun e f r g i=>al 4<|rt<|rr (.tuple #[e,vI f])<|?_
 exact⟨_,_,rfl,g.wk a.size,(aK a i)⟩
theorem sZ{m:Md}{x:SL}{M:b7}{w:World}{dir u t:Int}(h:aH m w (jq M x).toList M)(hf:bg M)(hbu:0≤u∧u<256)(hbt:0≤t∧t<65536) : Calls Tryz.prog 27 #[vI 2,vI dir,.agg (eo u t M x)] w (wD (eq dir u t M) w):=by
 refine en 15 Tryz.func27 rfl<|sg<|L0<|cX (eo u t M x) fun d s v n o=>al 2<|sq<|Rg 9 (fun w'=>w'.heap[d]? = some (.cells (eo u t M x) 47 (0,0))) fun y e=>?_
 have i:=ub e n
 refine bi i fun b=>Rt 0 b<|Rt 2 b<|Rr 3 b (.agg (eo u t M x)) (fun w' hs=>ie (g:=d) (off:=0) [vB u,vW t,vB M.code,vB M.fail,vW M.addr,vW M.count,vW M.value,vW M.and_,vW M.or_,vW M.addr2,vW M.sub,vW M.status,vW M.events,vW M.messages,.slice x.aw M.words.length x.kw,.slice x.ab M.bits.length x.kb,.slice x.ad M.data.length x.kd,.slice x.ar M.recs.length x.kr,vB M.mei,vB M.kind,vB M.level,vB M.more,vB M.next,.slice x.ao M.objects.length x.ko] rfl (by kernel_rfl) hs (by kernel_rfl) (by kernel_rfl) rfl)<|R0 1 rfl<|Oc<|m1 (tV) fun z j=>?_
 have k:=ub j i
 refine bi k fun A=>?_
 have c:=aK o (aK e j)
 refine R0 4 rfl<|wv (f:=274) (args:=#[.agg #[],vI dir,.agg (eo u t M x)]) 135 (.agg #[]) (.agg #[])<|Bz (zX (dir:=dir) (aH.old h c) hf hbu hbt) fun p q B r l=>?_
 refine bi (ub l k) fun a=>Rt 5 a<|Rt 6 a<|Rt 7 a<|Rt 8 a<|re<|tn<|rt<|rr (.tuple #[p,vI q])<|?_
 exact⟨_,_,rfl,r.wk c.size,(aK c l)⟩
theorem Bk{m:Md}{x:SL}{M:b7}{w:World}{dir u t:Int}(h:aH m w (jq M x).toList M)(hf:bg M)(hbu:0≤u∧u<256)(hbt:0≤t∧t<65536) : Calls Tryz.prog 278 #[.agg #[],vI dir,.agg (eo u t M x)] w (wD (none) w):=by
 refine en 8 Tryz.func278 rfl<|sg<|L0<|cX #[] fun c d e f a=>L0<|cX (eo u t M x) fun g i j k b=>Pl 2<|dK 2<|rt<|rr (.tuple #[nS,vI 1])<|?_
 exact⟨_,_,rfl,⟨rfl,rfl⟩,(aK a b)⟩
theorem td{m:Md}{x:SL}{M:b7}{w:World}{dir u t:Int}(h:aH m w (jq M x).toList M)(hf:bg M)(hbu:0≤u∧u<256)(hbt:0≤t∧t<65536){k:Int}(h0:(k==0)=false)(h1:(k==1)=false)(h2:(k==2)=false) : Calls Tryz.prog 27 #[vI k,vI dir,.agg (eo u t M x)] w (wD (none) w):=by
 refine en 15 Tryz.func27 rfl<|sg<|L0<|cX (eo u t M x) fun d v y o p=>al 2<|sq<|Rg 9 (fun w'=>w'.heap[d]? = some (.cells (eo u t M x) 47 (0,0))) fun z e=>?_
 have i:=ub e o
 refine bi i fun b=>Rt 0 b<|Rt 2 b<|Rr 3 b (.agg (eo u t M x)) (fun w' hs=>ie (g:=d) (off:=0) [vB u,vW t,vB M.code,vB M.fail,vW M.addr,vW M.count,vW M.value,vW M.and_,vW M.or_,vW M.addr2,vW M.sub,vW M.status,vW M.events,vW M.messages,.slice x.aw M.words.length x.kw,.slice x.ab M.bits.length x.kb,.slice x.ad M.data.length x.kd,.slice x.ar M.recs.length x.kr,vB M.mei,vB M.kind,vB M.level,vB M.more,vB M.next,.slice x.ao M.objects.length x.ko] rfl (by kernel_rfl) hs (by kernel_rfl) (by kernel_rfl) rfl)<|R0 1 rfl<|Oc<|m1 (tN h0 h1 h2) fun A j=>?_
 have l:=ub j i
 refine bi l fun B=>?_
 have c:=aK p (aK e j)
 refine R0 4 rfl<|wv (f:=278) (args:=#[.agg #[],vI dir,.agg (eo u t M x)]) 136 (.agg #[]) (.agg #[])<|Bz (Bk (dir:=dir) (aH.old h c) hf hbu hbt) fun q r C s n=>?_
 refine bi (ub n l) fun a=>Rt 5 a<|Rt 6 a<|Rt 7 a<|Rt 8 a<|re<|tn<|rt<|rr (.tuple #[q,vI r])<|?_
 exact⟨_,_,rfl,s.wk c.size,(aK c n)⟩
theorem nV{k:Int}{m:Md}{x:SL}{M:b7}{w:World}{dir u t:Int}(h:aH m w (jq M x).toList M)(hf:bg M)(hbu:0≤u∧u<256)(hbt:0≤t∧t<65536) : Calls Tryz.prog 27 #[.int .i64 k,.int .i64 dir,.agg (eo u t M x)] w (wD (gf k dir u t M) w):=by
  refine k4 k (fun e=>?_) (fun e=>?_) (fun e=>?_) (fun h0 h1 h2=>?_)
  · subst e;exact sV h hf hbu hbt
  · subst e;exact sf h hf hbu hbt
  · subst e;exact sZ h hf hbu hbt
  · rw[rT h0 h1 h2];exact td h hf hbu hbt h0 h1 h2
theorem gH{k:Int}{m:Md}{x:SL}{M:b7}{w:World}{dir u t:Int}(h:aH m w (jq M x).toList M)(hf:bg M)(hbu:0≤u∧u<256)(hbt:0≤t∧t<65536)(hX:gf k dir u t M=none) : Calls Tryz.prog 27 #[.int .i64 k,.int .i64 dir,.agg (eo u t M x)] w (fun e w'=>e = .returned (.tuple #[.slice none 0 0,.int .i64 1])∧ay [] w w'):=by
  refine(nV h hf hbu hbt).mono ?_
  rw[hX]
  rintro e w' ⟨v,n,rfl,⟨rfl,rfl⟩,hu⟩
  exact⟨rfl,hu⟩
theorem fm{k:Int}{m:Md}{x:SL}{M:b7}{w:World}{dir u t:Int}{l:List Int}(h:aH m w (jq M x).toList M)(hf:bg M)(hbu:0≤u∧u<256)(hbt:0≤t∧t<65536)(hX:gf k dir u t M=some l) : Calls Tryz.prog 27 #[.int .i64 k,.int .i64 dir,.agg (eo u t M x)] w (fun e w'=>∃ v,e = .returned (.tuple #[v,.int .i64 0])∧iq w.heap.size w' v l∧ay [] w w'):=by
  refine(nV h hf hbu hbt).mono ?_
  rw[hX]
  rintro e w' ⟨v,n,rfl,⟨rfl,ho⟩,hu⟩
  exact⟨v,rfl,ho,hu⟩
open Go.RowKit
theorem cQ.apt{n base g c:Nat}{w:World}{A:Option Addr}{S:XS}(h:cQ n base w g A c S){k:Nat}(hk:k≤n) : wx k (g :: (ob A++[])) w:=by
  obtain⟨t,cs,fr,q,h1,_⟩:=h.cells
  exact fR q h1 (jp (wX hk h.low) cv)
theorem C9{d:Int}(hd:d=0∨d=1) : ((d != 0)&&(d != 1))=false:=by rcases hd with rfl | rfl<;>rfl
theorem de.old0{n base g c:Nat}{w w':World}{A:Option Addr}{S:SS}(h:de n base w g A c S)(hu:ay [] w w') : de n base w' g A c S:=h.upd hu (by simp) (fun x _=>by simp)
theorem de.weak{n n' g:Nat}{w:World}{S:SS}{c:Nat}(h:de n n w g none c S)(hn:n'≤n) : de n' n' w g none c S:=by
  obtain⟨h1,h2,h3,h4,h5⟩:=h
  exact⟨h1,aQ.weaken h2 hn,Nat.le_trans hn h3,d8,Nat.le_trans hn h5⟩
theorem uI{w:World}{d:Int}(hd:d=0∨d=1) : Calls Tryz.prog 37 #[vI 0,vI d] w (fun e w'=>∃ s g,e = .returned (vP s 0)∧w.heap.size≤s∧w.heap.size≤g∧aj w.heap.size w.heap.size w' s g none 0 (XS.zero 0 d)∧ay [] w w'):=by
 refine en 36 Tryz.func37 rfl<|aB 1<|sq<|aA 1<|aG<|m1 (jP (k:=0)) fun p a=>Pl 5<|ij 3 [11] 14 11 (d != 0) (d != 1) (fun K i j=>?_) ?_
 have q:=aR j
 exact Pl 3<|ce i _ rfl
 refine al 1<|cf (C9 hd)<|bM<|sq<|aB 1<|bk<|sq<|go<|al 2<|c1<|aA 1<|aG<|e3 (zU hd) fun b t l m c=>Pl 2<|L0<|cX #[.iface 107 (vP b 0)] fun f u n o h=>al 1<|rt<|br<|tr<|rr (vP f 0)<|?_
 exact⟨f,b,rfl,(Nat.le_trans (le a.size c.size) n),(Nat.le_trans a.size l),⟨o,(show cQ _ _ _ _ _ _ (XS.r _) from((de.old0 m h)).weak a.size)⟩,(aK a (aK c h))⟩
theorem xE{w:World}{d:Int}(hd:d=0∨d=1) : Calls Tryz.prog 21 #[.int .i64 d] w (fun e w'=>∃ g,e = .returned (.pointer (some ⟨g,0,none⟩))∧w.heap.size≤g∧dn w.heap.size w.heap.size w' g none 0 ⟨d,[]⟩∧ay [] w w'):=by
  rcases hd with rfl|rfl
  · exact tR 0 vY
  · exact tR 1 vk
theorem dn.old0{n base g c:Nat}{w w':World}{A:Option Addr}{S:SA}(h:dn n base w g A c S)(hu:ay [] w w') : dn n base w' g A c S:=h.upd hu (by simp) (fun x _=>by simp)
theorem dn.weak{n n' g:Nat}{w:World}{S:SA}{c:Nat}(h:dn n n w g none c S)(hn:n'≤n) : dn n' n' w g none c S:=by
  obtain⟨h1,h2,h6,h3,h4,h5⟩:=h
  exact⟨h1,aQ.weaken h2 hn,h6,Nat.le_trans hn h3,d8,Nat.le_trans hn h5⟩
theorem wa{w:World}{d:Int}(hd:d=0∨d=1) : Calls Tryz.prog 37 #[vI 1,vI d] w (fun e w'=>∃ s g,e = .returned (vP s 0)∧w.heap.size≤s∧w.heap.size≤g∧aj w.heap.size w.heap.size w' s g none 0 (XS.zero 1 d)∧ay [] w w'):=by
 refine en 36 Tryz.func37 rfl<|aB 1<|sq<|aA 1<|aG<|m1 (jP (k:=1)) fun q b=>Pl 5<|ij 3 [11] 14 11 (d != 0) (d != 1) (fun K j l=>?_) ?_
 have r:=aR l
 exact Pl 3<|ce j _ rfl
 refine al 1<|cf (C9 hd)<|bM<|sq<|aB 1<|bk<|sq<|go<|al 2<|c0<|aB 2<|c1<|aA 1<|aG<|e3 (xE hd) fun c t m n f=>?_
 refine Pl 2<|L0<|cX #[.iface 35 (vP c 0)] fun h u o p i=>al 1<|rt<|br<|tr<|rr (vP h 0)<|?_
 exact⟨h,c,rfl,(Nat.le_trans (le b.size f.size) o),(Nat.le_trans b.size m),⟨p,(show cQ _ _ _ _ _ _ (XS.a _) from((dn.old0 n i)).weak b.size)⟩,(aK b (aK f i))⟩
theorem yT{w:World}{d:Int}(hd:d=0∨d=1) : Calls Tryz.prog 15 #[.int .i64 d] w (fun e w'=>∃ g,e = .returned (.pointer (some ⟨g,0,none⟩))∧w.heap.size≤g∧dr w.heap.size w.heap.size w' g none 0 ⟨d,[],0⟩∧ay [] w w'):=by
  rcases hd with rfl|rfl
  · exact tQ 0 sA
  · exact tQ 1 ta
theorem dr.old0{n base g c:Nat}{w w':World}{A:Option Addr}{S:SM}(h:dr n base w g A c S)(hu:ay [] w w') : dr n base w' g A c S:=h.upd hu (by simp) (fun x _=>by simp)
theorem dr.weak{n n' g:Nat}{w:World}{S:SM}{c:Nat}(h:dr n n w g none c S)(hn:n'≤n) : dr n' n' w g none c S:=by
  obtain⟨h1,h2,h6,h3,h4,h5⟩:=h
  exact⟨h1,aQ.weaken h2 hn,h6,Nat.le_trans hn h3,d8,Nat.le_trans hn h5⟩
theorem vU{w:World}{d:Int}(hd:d=0∨d=1) : Calls Tryz.prog 37 #[vI 2,vI d] w (fun e w'=>∃ s g,e = .returned (vP s 0)∧w.heap.size≤s∧w.heap.size≤g∧aj w.heap.size w.heap.size w' s g none 0 (XS.zero 2 d)∧ay [] w w'):=by
 refine en 36 Tryz.func37 rfl<|aB 1<|sq<|aA 1<|aG<|m1 (jP (k:=2)) fun q a=>Pl 5<|ij 3 [11] 14 11 (d != 0) (d != 1) (fun K i j=>?_) ?_
 have r:=aR j
 exact Pl 3<|ce i _ rfl
 refine al 1<|cf (C9 hd)<|bM<|sq<|aB 1<|bk<|sq<|go<|al 2<|c0<|aB 2<|c0<|sk<|bn<|tn<|aA 1<|aG<|e3 (yT hd) fun b t l n c=>Pl 2<|L0<|cX #[.iface 25 (vP b 0)] fun f u o p h=>al 1<|rt<|rr (vP f 0)<|?_
 exact⟨f,b,rfl,(Nat.le_trans (le a.size c.size) o),(Nat.le_trans a.size l),⟨p,(show cQ _ _ _ _ _ _ (XS.m _) from((dr.old0 n h)).weak a.size)⟩,(aK a (aK c h))⟩
theorem Ba{w:World}{k:Int}(hk:k=0∨k=1∨k=2){d:Int}(hd:d=0∨d=1) : Calls Tryz.prog 37 #[.int .i64 k,.int .i64 d] w (fun e w'=>∃ s g,e = .returned (.pointer (some ⟨s,0,none⟩))∧w.heap.size≤s∧w.heap.size≤g∧aj w.heap.size w.heap.size w' s g none 0 (XS.zero k d)∧ay [] w w'):=by
  rcases hk with rfl|rfl|rfl
  · exact uI hd
  · exact wa hd
  · exact vU hd
theorem tq{w:World}{n base s g c:Nat}{A B:Option Addr}{cpb:Nat}{S:SS}{m:Md}{t:Bool}{b:List Int}(h:aj n base w s g A c (.r S))(hsl:aW m w (.slice B b.length cpb) b)(hdg:0<b.length→∀ x,x∈ob B→x≠g)(hda:lU b.length B (ob A))(hbl:b.length≤1048576) :
    Calls Tryz.prog 64 #[vP s 0,.agg #[.slice B b.length cpb,.bool t]] w (DE n base (XS.take (.r S) b t).1 (XS.take (.r S) b t).2 s g A w):=by
 have hzb:=aT.len hsl
 have hz1:(S.feed b).2.length≤1:=SS.feed_le (S:=S) (b:=b) rfl
 have hz2:(S.feed b).1.tick.2.length≤1:=SS.tick_le (S:=(S.feed b).1) rfl
 refine en 33 Tryz.func64 rfl<|sg<|L0<|cX #[.slice B b.length cpb,.bool t] fun O a4 C P Q=>al 1<|sq<|Rg 8 (fun w'=>w'.cell? ⟨s,0,none⟩=some (.iface 107 (vP g 0))∧w'.cell? ⟨O,0,none⟩=some (.slice B b.length cpb)) fun T D=>?_
 have a:=aK Q D
 have p:=ub a h.1
 have E:=ub D P
 refine bi ⟨(ae p rfl),(ae E rfl)⟩ fun i=>Rt 0 i<|Rt 1 i<|Rt 2 i<|Rl 3 i (fun _ hs=>hs.1)<|Rt 4 i<|Rl 5 i (fun _ hs=>hs.2)<|?_
 refine R0 6 rfl<|wv (f:=250) (args:=#[vP g 0,.slice B b.length cpb]) 107 (vP g 0) (vP g 0)<|(vf (cQ.upd h.2 a av (fun x hx=>av)) (aW.old hsl a) hbl).mono ?_
 rintro _ a5 ⟨a6,F,a7,a8,rfl,U,k,u,G,j⟩
 refine⟨_,rfl,?_⟩
 have d:=U
 obtain⟨H,V,rfl,a9,ab⟩:=aT.shape d.rd
 have l:=ay.blk j (aa h.sg (aq (aJ p (ak (cQ.row h.2) a (fun x hx=>av) (fun _ _ h=>h)) (by decide)) av)) p
 have I:=ay.blk j (aa (Ne.symm (nb (cQ.lt h.2) lr C)) (aq (ej (cQ.row h.2) lr C) av)) E
 refine bi ⟨(ae l rfl),(ae I rfl)⟩ fun W=>Rt 7 W<|re<|tn<|sq<|aA 3<|aD l 0<|L0<|Fz 107 (vP g 0) (.tuple #[.iface 107 (vP g 0),.bool true])<|al 5<|sq<|go<|Pl 3<|L1<|iH I 1<|al 1<|?_
 have J:=ut (ay.mono (S':=(g :: (ob A++[]))) a aC) j (ac im (ai il aC))
 refine cb (t) (fun v=>?_) (fun v=>?_)
 refine go<|Pl 2<|L0<|wv (f:=252) (args:=#[vP g 0]) 107 (vP g 0) (vP g 0)<|(uT k).mono ?_
 rintro _ ad ⟨af,X,ah,Y,rfl,Z,y,a0,K,o⟩
 refine⟨_,rfl,?_⟩
 have L:=Z
 obtain⟨am,an,rfl,ao,ap⟩:=aT.shape L.rd
 have z:=ak d o (fun x hx=>(aa (fun e=>(az (cQ.lt h.2) a.size d) (e▸hx)) (aq ((dP d (cQ.row k) (by decide)) x hx) av))) (fun x cs q=>bq.upd o (cQ.apt k (Nat.le_refl _)) q)
 refine L0<|ku (R:=bq T.heap.size Y) (xs:=((S.feed b).2)) (ys:=((S.feed b).1.tick.2)) (.agg #[vI 0,vB 0,vW 0,vB 0,vB 0,vW 0,vW 0,vW 0,vW 0,vW 0,vW 0,vW 0,vW 0,vW 0,vW 0,nS,nS,nS,nS,vB 0,vB 0,vB 0,vB 0,vB 0,nS]) 25 168 (dy.up K (y.nle) z) ((dy.lo L j.size)).rd bq.ones (fun w' hv x cs q=>bq.upd hv (lB z (by decide) cv) q) (by omega) (le j.size o.size) fun a1 a2 ar a3 M au=>Pl 1<|dK 2<|rt<|rr (.slice a1 (((S.feed b).2++(S.feed b).1.tick.2).length) a2)<|?_
 have hs:XS.take (.r S) b t=(.r (S.feed b).1.tick.1,(S.feed b).2++(S.feed b).1.tick.2):=by unfold XS.take;rw[v];rfl
 rw[hs]
 have hat0:∀ x,x∈ob X→x∈ob A∨w.heap.size≤x:=fun x hx=>((fun x hx=>ld a0 u j.size x hx) x hx).imp id (Nat.le_trans a.size)
 have N:=ut (ay.mono (S':=(g :: (ob F++(ob H++[])))) o (ac im (ai il aC))) M (ai il aC)
 exact⟨_,_,_,_,rfl,dy.lo a3 a.size,⟨(ay.blk N (aa h.sg (aq (aJ l (cQ.row k) (by decide)) (aq (az (ag h.1) a.size d) av))) l),(cQ.upd y M (aq (az (cQ.lt h.2) a.size d) av) (fun x hx=>(aq ((dP (cQ.row y) z (by decide)) x hx) av)))⟩,hat0,Nat.le_trans G K,(ay.mono (S':=g :: (ob A++[])) (ut J N (ac im (ai (lM u il a.size) (ai (aX d a.size) aC)))) (ac im (ai il aC)))⟩
 refine bM<|aB 2<|rt<|rr (.slice H (((S.feed b).2).length) V)<|?_
 have hs:XS.take (.r S) b t=(.r (S.feed b).1,(S.feed b).2):=by unfold XS.take;rw[v];rfl
 rw[hs]
 have hat0:∀ x,x∈ob F→x∈ob A∨w.heap.size≤x:=fun x hx=>((fun x hx=>u x hx) x hx).imp id (Nat.le_trans a.size)
 exact⟨_,_,_,_,rfl,dy.lo d a.size,⟨l,k⟩,hat0,G,(ay.mono (S':=g :: (ob A++[])) J (ac im (ai il aC)))⟩
theorem sE{w:World}{n base s g c:Nat}{A B:Option Addr}{cpb:Nat}{S:SA}{m:Md}{t:Bool}{b:List Int}(h:aj n base w s g A c (.a S))(hsl:aW m w (.slice B b.length cpb) b)(hdg:0<b.length→∀ x,x∈ob B→x≠g)(hda:lU b.length B (ob A))(hbl:b.length≤1048576) :
    Calls Tryz.prog 64 #[vP s 0,.agg #[.slice B b.length cpb,.bool t]] w (DE n base (XS.take (.a S) b t).1 (XS.take (.a S) b t).2 s g A w):=by
 have hzb:=aT.len hsl
 refine en 33 Tryz.func64 rfl<|sg<|L0<|cX #[.slice B b.length cpb,.bool t] fun r I l u v=>al 1<|sq<|Rg 8 (fun w'=>w'.cell? ⟨s,0,none⟩=some (.iface 35 (vP g 0))∧w'.cell? ⟨r,0,none⟩=some (.slice B b.length cpb)) fun J o=>?_
 have d:=aK v o
 have i:=ub d h.1
 have p:=ub o u
 refine bi ⟨(ae i rfl),(ae p rfl)⟩ fun e=>Rt 0 e<|Rt 1 e<|Rt 2 e<|Rl 3 e (fun _ hs=>hs.1)<|Rt 4 e<|Rl 5 e (fun _ hs=>hs.2)<|?_
 refine R0 6 rfl<|wv (f:=22) (args:=#[vP g 0,.slice B b.length cpb]) 35 (vP g 0) (vP g 0)<|(uY (cQ.upd h.2 d av (fun x hx=>av)) (aW.old hsl d) hdg hda hbl).mono ?_
 rintro _ K ⟨L,y,M,N,rfl,z,C,D,E,j⟩
 refine⟨_,rfl,?_⟩
 have q:=z
 obtain⟨F,G,rfl,O,P⟩:=aT.shape q.rd
 have k:=ay.blk j (aa h.sg (aq (aJ i (ak (cQ.row h.2) d (fun x hx=>av) (fun _ _ h=>h)) (by decide)) av)) i
 refine bi ⟨(ae k rfl),(ae (ay.blk j (aa (Ne.symm (nb (cQ.lt h.2) lr l)) (aq (ej (cQ.row h.2) lr l) av)) p) rfl)⟩ fun H=>Rt 7 H<|re<|tn<|sq<|aA 3<|aD k 0<|L0<|ER 35 (vP g 0) .nilIface<|al 5<|sq<|go<|al 5<|c0<|bM<|aB 2<|rt<|rr (.slice F (((S.feed b).2).length) G)<|?_
 have hs:XS.take (.a S) b t=(.a (S.feed b).1,(S.feed b).2):=by unfold XS.take;cases t;rfl;show(_,(S.feed b).2++[])=_;rw[List.append_nil];rfl
 rw[hs]
 have hat0:∀ x,x∈ob y→x∈ob A∨w.heap.size≤x:=fun x hx=>((fun x hx=>D x hx) x hx).imp id (Nat.le_trans d.size)
 exact⟨_,_,_,_,rfl,dy.lo q d.size,⟨k,C⟩,hat0,E,(ay.mono (S':=g :: (ob A++[])) (ut (ay.mono (S':=(g :: (ob A++[]))) d aC) j (ac im (ai il aC))) (ac im (ai il aC)))⟩
theorem rQ{w:World}{n base s g c:Nat}{A B:Option Addr}{cpb:Nat}{S:SM}{m:Md}{t:Bool}{b:List Int}(h:aj n base w s g A c (.m S))(hsl:aW m w (.slice B b.length cpb) b)(hdg:0<b.length→∀ x,x∈ob B→x≠g)(hda:lU b.length B (ob A))(hbl:b.length≤1048576) :
    Calls Tryz.prog 64 #[vP s 0,.agg #[.slice B b.length cpb,.bool t]] w (DE n base (XS.take (.m S) b t).1 (XS.take (.m S) b t).2 s g A w):=by
 have hzb:=aT.len hsl
 refine en 33 Tryz.func64 rfl<|sg<|L0<|cX #[.slice B b.length cpb,.bool t] fun q H k r u=>al 1<|sq<|Rg 8 (fun w'=>w'.cell? ⟨s,0,none⟩=some (.iface 25 (vP g 0))∧w'.cell? ⟨q,0,none⟩=some (.slice B b.length cpb)) fun I l=>?_
 have a:=aK u l
 have e:=ub a h.1
 have o:=ub l r
 refine bi ⟨(ae e rfl),(ae o rfl)⟩ fun d=>Rt 0 d<|Rt 1 d<|Rt 2 d<|Rl 3 d (fun _ hs=>hs.1)<|Rt 4 d<|Rl 5 d (fun _ hs=>hs.2)<|?_
 refine R0 6 rfl<|wv (f:=16) (args:=#[vP g 0,.slice B b.length cpb]) 25 (vP g 0) (vP g 0)<|(wg (cQ.upd h.2 a av (fun x hx=>av)) (aW.old hsl a) hdg hda hbl).mono ?_
 rintro _ J ⟨K,v,L,M,rfl,y,z,C,D,i⟩
 refine⟨_,rfl,?_⟩
 have p:=y
 obtain⟨E,F,rfl,N,O⟩:=aT.shape p.rd
 have j:=ay.blk i (aa h.sg (aq (aJ e (ak (cQ.row h.2) a (fun x hx=>av) (fun _ _ h=>h)) (by decide)) av)) e
 refine bi ⟨(ae j rfl),(ae (ay.blk i (aa (Ne.symm (nb (cQ.lt h.2) lr k)) (aq (ej (cQ.row h.2) lr k) av)) o) rfl)⟩ fun G=>Rt 7 G<|re<|tn<|sq<|aA 3<|aD j 0<|L0<|ER 25 (vP g 0) .nilIface<|al 5<|sq<|go<|al 5<|c0<|bM<|aB 2<|rt<|rr (.slice E (((S.feed b).2).length) F)<|?_
 have hs:XS.take (.m S) b t=(.m (S.feed b).1,(S.feed b).2):=by unfold XS.take;cases t;rfl;show(_,(S.feed b).2++[])=_;rw[List.append_nil];rfl
 rw[hs]
 have hat0:∀ x,x∈ob v→x∈ob A∨w.heap.size≤x:=fun x hx=>((fun x hx=>C x hx) x hx).imp id (Nat.le_trans a.size)
 exact⟨_,_,_,_,rfl,dy.lo p a.size,⟨j,z⟩,hat0,D,(ay.mono (S':=g :: (ob A++[])) (ut (ay.mono (S':=(g :: (ob A++[]))) a aC) i (ac im (ai il aC))) (ac im (ai il aC)))⟩
theorem yd{w:World}{n base s g c nb:Nat}{A B:Option Addr}{cpb:Nat}{S S2:XS}{L:List Ev}{m:Md}{t:Bool}{b:List Int}(hX:S.take b t=(S2,L))(h:aj n base w s g A c S)(hsl:aW m w (.slice B nb cpb) b)(hdg:0<nb→∀ x,x∈ob B→x≠g)(hda:lU nb B (ob A))(hbl:b.length≤1048576) :
    Calls Tryz.prog 64 #[.pointer (some ⟨s,0,none⟩),.agg #[.slice B nb cpb,.bool t]] w (DE n base S2 L s g A w):=by
  obtain⟨_,_,e,_,_⟩:=hsl.shape
  injection e with e1 e2 e3
  subst e1 e2 e3
  have e1:S2=(S.take b t).1:=(congrArg Prod.fst hX).symm
  have e2:L=(S.take b t).2:=(congrArg Prod.snd hX).symm
  rw[e1,e2]
  cases S with
  | r S=>exact tq h hsl hdg hda hbl
  | a S=>exact sE h hsl hdg hda hbl
  | m S=>exact rQ h hsl hdg hda hbl
open Go.RowKit
def fz:List (List Int)→Nat
  | []=>0
  | x :: t=>x.length+fz t
theorem iP(a b:List (List Int)) : fz (a++b)=fz a+fz b:=by
  induction a with
  | nil=>simp[fz]
  | cons x t ih=>simp only[List.cons_append,fz,ih];omega
theorem ow{ls:List (List Int)}{k:Nat}(hk:k<ls.length) : ls.take (k+1)=ls.take k++[ls.getD k []]:=by
  rw[List.take_succ_eq_append_getElem hk,List.getD_eq_getElem?_getD,List.getElem?_eq_getElem hk]
  rfl
open Go.RowKit
structure Pc where
  bytes:List Int
  tick:Bool
def Pc.z:Pc:=⟨[],false⟩
def wh (n:Nat)(w:World)(v:Value)(b:List Int) : Prop:=aW false w v b∧∀ A k c,v = .slice A k c→0<k→∀ x,x∈ob A→x<n
theorem wh.of{m:Md}{w:World}{v:Value}{b:List Int}(h:aW m w v b) : wh w.heap.size w v b:=⟨aT.any h (fun _ _ q=>q),fun A k c e hk=>by subst e;exact aT.low h hk⟩
theorem wh.nil{n:Nat}{w:World}:wh n w (.slice none 0 0) []:=⟨aT.nil ..,fun A k c e hk=>by injection e with _ e;omega⟩
theorem wh.upd{n:Nat}{w w':World}{X:List Nat}{v:Value}{b:List Int}(hu:ay X w w')(hx:∀ x,x∈X→n≤x)(h:wh n w v b) : wh n w' v b:=by
  obtain⟨A,c,rfl,_,_⟩:=h.1.shape
  exact⟨aW.far h.1 hu fun hn x hxA hxX=>Nat.lt_irrefl _ (Nat.lt_of_lt_of_le (h.2 A _ _ rfl hn x hxA) (hx x hxX)),h.2⟩
def DP (m:Md)(w:World)(p:Pc)(cs:List Value) : Prop:=∃ v,cs=[v,.bool p.tick]∧aW m w v p.bytes
def yk (n:Nat)(w:World)(p:Pc)(cs:List Value) : Prop:=∃ v,cs=[v,.bool p.tick]∧wh n w v p.bytes
def CP (n:Nat)(w:World)(b:List Int)(cs:List Value) : Prop:=∃ v,cs=[v]∧wh n w v b
abbrev tI (m:Md) (w:World) (v:Value) (ps:List Pc) : Prop:=aT m 70 2 (DP m) w v ps
abbrev Dk (n base:Nat) (w:World) (v:Value) (ps:List Pc) : Prop:=aQ base 70 2 (yk n) w v ps
theorem yk.upd{n:Nat}{w w':World}{X:List Nat}(hu:ay X w w')(hx:∀ x,x∈X→n≤x)(p:Pc)(cs:List Value)(h:yk n w p cs) : yk n w' p cs:=by
  obtain⟨v,h1,h2⟩:=h
  exact⟨v,h1,wh.upd hu hx h2⟩
theorem CP.upd{n:Nat}{w w':World}{X:List Nat}(hu:ay X w w')(hx:∀ x,x∈X→n≤x)(p:List Int)(cs:List Value)(h:CP n w p cs) : CP n w' p cs:=by
  obtain⟨v,h1,h2⟩:=h
  exact⟨v,h1,wh.upd hu hx h2⟩
theorem CP.ones{n:Nat}{w:World}:∀ (x:List Int)(cs:List Value),CP n w x cs→∀ v,v∈cs→v.oneCell'=true:=fun x cs ⟨v,h1,h2⟩ u hu=>by
  rw[h1,List.mem_singleton] at hu
  obtain⟨A,c,e,_⟩:=h2.1.shape
  rw[hu,e]
  rfl
theorem yk.ones{n:Nat}{w:World}:∀ (x:Pc)(cs:List Value),yk n w x cs→∀ v,v∈cs→v.oneCell'=true:=fun x cs ⟨v,h1,h2⟩ u hu=>by
  rw[h1] at hu
  obtain⟨A,c,e,_⟩:=h2.1.shape
  rcases List.mem_cons.1 hu with e2|hu
  · rw[e2,e];rfl
  · rw[List.mem_singleton] at hu;rw[hu];rfl
theorem Dk.any{n base:Nat}{w:World}{v:Value}{ps:List Pc}(h:Dk n base w v ps) : tI false w v ps:=aT.any h.rd fun p cs ⟨v,h1,h2⟩=>⟨v,h1,h2.1⟩
theorem tI.old{m:Md}{w w':World}{v:Value}{ps:List Pc}(h:tI m w v ps)(hu:ay [] w w') : tI m w' v ps:=aT.upd h hu (bV.nil _ _ _) fun x cs ⟨v,h1,h2⟩=>⟨v,h1,h2.old hu⟩
theorem tI.elt{m:Md}{w:World}{A:Option Addr}{n c:Nat}{ps:List Pc}(h:tI m w (.slice A n c) ps)(j:Nat)(hj:j<ps.length) :
    ∃ b off cells t fr A' c',A=some ⟨b,off,none⟩∧w.heap[b]? = some (.cells cells t fr)∧aW m w (.slice A' (ps.getD j Pc.z).bytes.length c') (ps.getD j Pc.z).bytes∧((ps.getD j Pc.z).bytes.length≤c'∧c'≤maxLen)∧(cells.toList.drop (off+j*2)).take 2=[.slice A' (ps.getD j Pc.z).bytes.length c',.bool (ps.getD j Pc.z).tick]:=by
  obtain⟨b,off,cells,t,fr,cs,h1,h2,h3,⟨v,h4,h5⟩,h6⟩:=aT.elt h Pc.z j hj
  obtain⟨A',c',rfl,h7,h8⟩:=h5.shape
  exact⟨b,off,cells,t,fr,A',c',h1,h2,h5,⟨h7,h8⟩,h6.trans h4⟩
theorem tI.n{m:Md}{w:World}{v:Value}{ps:List Pc}(h:tI m w v ps) : aT false 70 2 (yk w.heap.size) w v ps:=aT.any h fun p cs ⟨v,h1,h2⟩=>⟨v,h1,wh.of h2⟩
theorem RdPn.old{n:Nat}{w w':World}{v:Value}{ps:List Pc}(h:aT false 70 2 (yk n) w v ps)(hu:ay [] w w') : aT false 70 2 (yk n) w' v ps:=aT.upd h hu (bV.nil _ _ _) fun x cs q=>yk.upd hu (fun x hx=>by cases hx) x cs q
theorem RdPn.elt{n0:Nat}{w:World}{A:Option Addr}{n c:Nat}{ps:List Pc}(h:aT false 70 2 (yk n0) w (.slice A n c) ps)(j:Nat)(hj:j<ps.length) :
    ∃ b off cells t fr A' c',A=some ⟨b,off,none⟩∧w.heap[b]? = some (.cells cells t fr)∧wh n0 w (.slice A' (ps.getD j Pc.z).bytes.length c') (ps.getD j Pc.z).bytes∧((ps.getD j Pc.z).bytes.length≤c'∧c'≤maxLen)∧(cells.toList.drop (off+j*2)).take 2=[.slice A' (ps.getD j Pc.z).bytes.length c',.bool (ps.getD j Pc.z).tick]:=by
  obtain⟨b,off,cells,t,fr,cs,h1,h2,h3,⟨v,h4,h5⟩,h6⟩:=aT.elt h Pc.z j hj
  obtain⟨A',c',rfl,h7,h8⟩:=h5.1.shape
  exact⟨b,off,cells,t,fr,A',c',h1,h2,h5,⟨h7,h8⟩,h6.trans h4⟩
section
variable {P:Program}{n:Nat}{D:List Deferred}{F:Fr}{w:World}{K:Fr→World→Prop}{Q:Exit→Act→World→Prop}{d:Option Tmp}{t:TypeId}{s:String}{af:Array Edge}{gu:Option (Nat × Bool)}
end
def XS.run (S:XS)(ps:List Pc) : XS × List Ev:=ps.foldl (fun p c=>((p.1.take c.bytes c.tick).1,p.2++(p.1.take c.bytes c.tick).2)) (S,[])
theorem pj:∀ (ps:List Pc)(S:XS)(K:List Ev),ps.foldl (fun p c=>((p.1.take c.bytes c.tick).1,p.2++(p.1.take c.bytes c.tick).2)) (S,K)=((S.run ps).1,K++(S.run ps).2)
  | [],S,K=>by simp[XS.run]
  | c :: t,S,K=>by
    unfold XS.run
    rw[List.foldl_cons,List.foldl_cons,pj t,pj t]
    simp
theorem tO(S:XS)(a b:List Pc) : S.run (a++b)=(((S.run a).1.run b).1,(S.run a).2++((S.run a).1.run b).2):=by
  unfold XS.run
  rw[List.foldl_append]
  exact pj b _ _
theorem mH{ps:List Pc}{k:Nat}(hk:k<ps.length) : ps.take (k+1)=ps.take k++[ps.getD k Pc.z]:=by
  rw[List.take_succ_eq_append_getElem hk,List.getD_eq_getElem?_getD,List.getElem?_eq_getElem hk]
  rfl
theorem un(S:XS)(p:Pc) : S.run [p]=S.take p.bytes p.tick:=by
  unfold XS.run
  simp
theorem yI{S0 S S2:XS}{ps:List Pc}{L L2:List Ev}{k:Nat}(hk:k<ps.length)(h:(S,L)=S0.run (ps.take k))(hX:S.take (ps.getD k Pc.z).bytes (ps.getD k Pc.z).tick=(S2,L2)) : (S2,L++L2)=S0.run (ps.take (k+1)):=by
  rw[mH hk,tO,← h,un,hX]
def kD (ps:List Pc) : Nat:=fz (ps.map Pc.bytes)
theorem nO{ps:List Pc}{k:Nat}(hk:k<ps.length) : kD (ps.take (k+1))=kD (ps.take k)+(ps.getD k Pc.z).bytes.length:=by
  unfold kD
  rw[mH hk,List.map_append,iP]
  rfl
theorem uK{ps:List Pc}{k:Nat}(hk:k<ps.length) : (ps.getD k Pc.z).bytes.length+kD (ps.take k)≤kD ps:=by
  have h:=nO hk
  have e:ps=ps.take (k+1)++ps.drop (k+1):=(List.take_append_drop ..).symm
  have e2:kD ps=kD (ps.take (k+1))+kD (ps.drop (k+1)):=by
    conv=>lhs;rw[e]
    unfold kD
    rw[List.map_append,iP]
  omega
theorem aj.take_le{n base s g c:Nat}{w:World}{A:Option Addr}{S S2:XS}{b:List Int}{t:Bool}{L:List Ev}(h:aj n base w s g A c S)(hb:∀ x,x∈b→0≤x∧x<256)(hX:S.take b t=(S2,L)) : L.length≤b.length+2:=by
  have e:L=(S.take b t).2:=(congrArg Prod.snd hX).symm
  rw[e]
  have h:=h.2
  have hf:(S.feed b).2.length≤b.length+1:=by
    cases S with
    | r S=>exact Nat.le_trans (SS.feed_le (S:=S) (b:=b) rfl) (by omega)
    | a S=>exact Nat.le_trans (SA.feed_le h.2.2.1 hb rfl) (by omega)
    | m S=>exact Nat.le_trans (SM.feed_le h.2.2.1 hb rfl) (by omega)
  have ht:(S.feed b).1.tick.2.length≤1:=by
    cases S with
    | r S=>exact SS.tick_le (S:=(S.feed b).1) rfl
    | a S=>exact Nat.zero_le _
    | m S=>exact Nat.zero_le _
  unfold XS.take
  cases t
  · exact Nat.le_trans hf (by omega)
  · show(((S.feed b).2++(S.feed b).1.tick.2:List Ev)).length≤_
    rw[List.length_append]
    omega
open Go.RowKit
theorem OwnS.any{n base:Nat}{w:World}{v:Value}{ls:List (List Int)}(h:aQ base 27 1 (CP n) w v ls) : iD false w v ls:=aT.any h.rd fun p cs ⟨v,h1,h2⟩=>⟨v,h1,h2.1⟩
open Go.RowKit
def dR (a c next was:Int) : Int:=bif c != 2 then 0 else bif a==2 then was else next
def kU (a c next:Int) : Int:=bif c != 2 then next else bif a==2 then next else (next+1)%65536
def gn (a c next:Int) : Nat→Int
  | 0=>next
  | k+1=>kU a c (gn a c next k)
def Cr (c d u t:Int)(M:b7) : List Int:=(gf c d u t M).getD []
def zh (a c d next:Int)(F:List aM)(k:Nat) : List Int:=Cr c d (F.getD k aM.zero).unit (dR a c (gn a c next k) (F.getD k aM.zero).tid) (F.getD k aM.zero).msg
def ii (a c d next:Int)(F:List aM)(n:Nat) : List (List Int):=(List.range n).map (zh a c d next F)
theorem eZ{a c d next:Int}{F:List aM}{n:Nat}{l:List Int}(h:zh a c d next F n=l) : ii a c d next F n++[l]=ii a c d next F (n+1):=by
  unfold ii
  rw[List.range_succ,List.map_append,← h]
  rfl
theorem yS{a c next:Int}(h:0≤next∧next<65536) : 0≤kU a c next∧kU a c next<65536:=by
  unfold kU
  cases c != 2 with
  | true=>exact h
  | false =>
    cases a==2 with
    | true=>exact h
    | false=>show 0≤(next+1)%65536∧(next+1)%65536<65536;omega
theorem be{a c next:Int}(h:0≤next∧next<65536) : ∀ k,0≤gn a c next k∧gn a c next k<65536
  | 0=>h
  | k+1=>yS (be h k)
theorem j0{a c next was:Int}(h:0≤next∧next<65536)(hw:0≤was∧was<65536) : 0≤dR a c next was∧dR a c next was<65536:=by
  unfold dR
  cases c != 2 with
  | true=>show(0:Int)≤0∧(0:Int)<65536;decide
  | false =>
    cases a==2 with
    | true=>exact hw
    | false=>exact h
structure ap (w:World) (gt s bT bF bN:Nat) (a c d next lost:Int) : Prop where
  cell:w.heap[gt]? = some (.cells #[.pointer (some ⟨s,0,none⟩),.int .i64 c,.int .i64 d,.func (.func 92) #[] #[.pointer (some ⟨bT,0,none⟩),.pointer (some ⟨bF,0,none⟩),.pointer (some ⟨bN,0,none⟩)],.int .i64 lost] 119 (0,0))
  cT:w.heap[bT]? = some (.cells #[.int .i64 c] 3 (0,0))
  cF:w.heap[bF]? = some (.cells #[.int .i64 a] 3 (0,0))
  cN:w.heap[bN]? = some (.cells #[.int .u16 next] 37 (0,0))
  rng:0≤next∧next<65536
section
variable {n base s g c gt bT bF bN:Nat}{w w':World}{A:Option Addr}{S:XS}{X:List Nat}{a k d next lost:Int}
theorem ap.upd(h:ap w gt s bT bF bN a k d next lost)(hu:ay X w w')(h1:gt∉X)(h2:bT∉X)(h3:bF∉X)(h4:bN∉X) : ap w' gt s bT bF bN a k d next lost:=⟨hu.blk h1 h.cell,hu.blk h2 h.cT,hu.blk h3 h.cF,hu.blk h4 h.cN,h.rng⟩
theorem ap.old(h:ap w gt s bT bF bN a k d next lost)(hu:ay [] w w') : ap w' gt s bT bF bN a k d next lost:=h.upd hu (by simp) (by simp) (by simp) (by simp)
theorem aj.gne{cs:Array Value}{t:TypeId}{fr:Nat × Nat}{b:Nat}(h:aj n base w s g A c S)(hb:w.heap[b]? = some (.cells cs t fr))(ht:(t==142)=false∧(t==95)=false∧(t==89)=false) : b≠g:=fun e=>by
  subst e
  obtain⟨t2,cs2,fr2,k2,h2⟩:=h.2.ty
  rw[hb] at k2
  injection k2 with k2
  injection k2 with _ k2 _
  rcases h2 with h2|h2|h2<;>rw[k2,h2] at ht<;>simp at ht
theorem aj.sne{cs:Array Value}{t:TypeId}{fr:Nat × Nat}{b:Nat}(h:aj n base w s g A c S)(hb:w.heap[b]? = some (.cells cs t fr))(ht:(t==112)=false) : b≠s:=fun e=>by
  subst e
  rw[h.1] at hb
  injection hb with hb
  injection hb with _ hb _
  rw[← hb] at ht
  simp at ht
end
theorem iQ{A B:Option Addr}{p:Nat}(hB:∀ x,x∈ob B→p≤x)(hA:∀ y,y∈ob A→y<p) : ∀ x,x∈ob B→x∉ob A:=fun x hx hx2=>by
  have h1:=hB x hx
  have h2:=hA x hx2
  omega
theorem dq{B:Option Addr}{p y:Nat}(hB:∀ x,x∈ob B→p≤x)(hy:y<p) : ∀ x,x∈ob B→x≠y:=fun x hx e=>by
  have h1:=hB x hx
  omega
theorem aT.stay{α:Type}{m:Md}{e:TypeId}{sz nn c:Nat}{R:World→α→List Value→Prop}{w w':World}{A:Option Addr}{xs:List α}{X:List Nat}
    (h:aT m e sz R w (.slice A nn c) xs) (hu:ay X w w') (hn:∀ x,x∈ob A→x∉X) (hR:∀ x cs,R w x cs→R w' x cs) : aT m e sz R w' (.slice A nn c) xs:=by
  obtain⟨A',c',hv,h1,h2,h0,h3⟩:=h
  injection hv with e1 e2 e3
  subst e1 e2 e3
  refine⟨A,c,rfl,h1,h2,h0,fun hp=>?_⟩
  obtain⟨b,off,cells,t,fr,rfl,hb,ho,hx⟩:=h3 hp
  refine⟨b,off,cells,t,fr,rfl,?_,ho,fun j x hj=>?_⟩
  · rw[hu.block b (ag hb) (hn b (by simp[ob]))]
    exact hb
  · obtain⟨cs,k1,k2,k3⟩:=hx j x hj
    exact⟨cs,k1,hR _ _ k2,k3⟩
section
variable {n n2 p p2 base:Nat}{w w':World}{A A2 B:Option Addr}{X:List Nat}{b:List Int}{cs:List Value}
def rZ (A:Option Addr)(n:Nat)(X:List Nat)(w:World) : Prop:=∀ y,y∈X→n≤y∨y∈ob A∨∃ cells t fr,w.heap[y]? = some (.cells cells t fr)∧(t==5)=false
def kJ (p:Nat)(A:Option Addr)(n:Nat)(w:World)(b:List Int)(cs:List Value) : Prop:=n≤w.heap.size∧∀ (w':World)(X:List Nat),ay X w w'→rZ A n X w→Di (.hi p) w' b cs
theorem kJ.hi(h:kJ p A n w b cs) : Di (.hi p) w b cs:=h.2 w [] (ay.refl _ _) (fun y hy=>by cases hy)
theorem kJ.by(h:kJ p A n w b cs) : Di true w b cs:=by
  obtain⟨v,h1,h2⟩:=h.hi
  exact⟨v,h1,aT.hi_t h2 fun _ _ q=>q⟩
theorem kJ.upd(hu:ay X w w')(ha:rZ A n X w)(h:kJ p A n w b cs) : kJ p A n w' b cs:=by
  refine⟨Nat.le_trans h.1 hu.size,fun w2 X2 hu2 ha2=>h.2 w2 (X++X2) ?_ ?_⟩
  · exact ay.trans' (ay.mono hu (fun y hy=>.inl (List.mem_append_left _ hy))) hu2 (fun y hy=>.inl (List.mem_append_right _ hy))
  · intro y hy
    rcases List.mem_append.1 hy with hy|hy
    · exact ha y hy
    · rcases ha2 y hy with k | k | ⟨cells,t,fr,k1,k2⟩
      · exact .inl k
      · exact .inr (.inl k)
      · by_cases hl:y<w.heap.size
        · by_cases hX:y∈X
          · exact ha y hX
          · exact .inr (.inr ⟨cells,t,fr,by rw[← hu.block y hl hX];exact k1,k2⟩)
        · exact .inl (Nat.le_trans h.1 (by omega))
theorem kJ.row(hA:∀ y,y∈ob A2→y∈ob A∨n≤y)(hn:n≤n2)(hs:n2≤w.heap.size)(h:kJ p A n w b cs) : kJ p A2 n2 w b cs:=⟨hs,fun w' X hu ha=>h.2 w' X hu fun y hy=>by
  rcases ha y hy with k|k|k
  · exact .inl (Nat.le_trans hn k)
  · exact(hA y k).elim (fun q=>.inr (.inl q)) .inl
  · exact .inr (.inr k)⟩
theorem kJ.raise(hn:n≤n2)(hs:n2≤w.heap.size)(h:kJ p A n w b cs) : kJ p A n2 w b cs:=h.row (fun _ hy=>.inl hy) hn hs
theorem kJ.of{nn c:Nat}(hr:aW true w (.slice B nn c) b)(hB:∀ x,x∈ob B→p≤x)(hA:∀ y,y∈ob A→y<p)(hp:p2≤p) : kJ p2 A w.heap.size w b [.slice B nn c]:=⟨Nat.le_refl _,fun w' X hu ha=>by
  have hh:aW (.hi p2) w (.slice B nn c) b:=by
    obtain⟨A',c',hv,h1,h2,h0,h3⟩:=hr
    injection hv with e1 e2 e3
    subst e1 e2 e3
    refine⟨_,_,rfl,h1,h2,h0,fun q=>?_⟩
    obtain⟨g,off,cells,t,fr,rfl,hb,ho,hx⟩:=h3 q
    exact⟨g,off,cells,t,fr,rfl,hb,fun _=>⟨(ho rfl).1,Nat.le_trans hp (hB g (by simp[ob]))⟩,hx⟩
  by_cases hn:0<b.length
  · refine⟨_,rfl,hh.stay hu (fun x hx hX=>?_) (fun _ _ q=>q)⟩
    obtain⟨A',c',hv,_,_,_,h3⟩:=hr
    injection hv with e1 e2 e3
    subst e1 e2 e3
    obtain⟨g,off,cells,t,fr,rfl,hb,ho,_⟩:=h3 hn
    have hx:x=g:=by simpa [ob] using hx
    subst hx
    rcases ha x hX with k|k|⟨c2,t2,fr2,k,k2⟩
    · have:=ag hb
      omega
    · have h1:=hA x k
      have h2:=hB x (by simp[ob])
      omega
    · rw[hb] at k
      injection k with k
      injection k with _ k _
      have h1:=(ho rfl).1
      rw[← k,h1] at k2
      simp at k2
  · refine⟨_,rfl,?_⟩
    obtain⟨A',c',hv,h1,h2,h0,h3⟩:=hh
    exact⟨A',c',hv,h1,h2,h0,fun q=>absurd q hn⟩⟩
theorem kJ.ones:∀ (x:List Int)(cs:List Value),kJ p A n w x cs→∀ v,v∈cs→v.oneCell'=true:=fun x cs h=>by
  obtain⟨v,rfl,h2⟩:=h.by
  obtain⟨_,_,rfl,_⟩:=h2
  intro u hu
  have hu:u=_:=List.mem_singleton.1 hu
  rw[hu]
  rfl
abbrev iS (p:Nat) (A:Option Addr) (n base:Nat) (w:World) (v:Value) (xs:List (List Int)) : Prop:=aQ base 27 1 (kJ p A n) w v xs
theorem iS.own{v:Value}{xs:List (List Int)}(h:iS p A n base w v xs) : aQ base 27 1 (Di true) w v xs:=aQ.map h fun _ _ q=>q.by
theorem iS.rdh{v:Value}{xs:List (List Int)}(h:iS p A n p w v xs) : iD (.hi p) w v xs:=aQ.hi (aQ.map h fun _ _ q=>q.hi) (Nat.le_refl _)
theorem Bu{nb c:Nat}(h:aW (.hi p) w (.slice B nb c) b)(hn:0<nb) : ∀ x,x∈ob B→p≤x:=fun x hx=>by
  obtain⟨A',c',hv,_,_,_,h3⟩:=h
  injection hv with e1 e2 e3
  subst e1 e2 e3
  obtain⟨g,off,cells,t,fr,rfl,hb,ho,_⟩:=h3 hn
  have hx:x=g:=by simpa [ob] using hx
  rw[hx]
  exact(ho rfl).2
theorem u6{nb c g:Nat}{w0:World}(h:aW (.hi p) w (.slice B nb c) b)(hg:g<w0.heap.size)(hs:w0.heap.size≤p) : 0<nb→∀ x,x∈ob B→x≠g:=fun hn x hx e=>by
  have:=Bu h hn x hx
  omega
theorem oI{α:Type}{nb c b2 sz m c2:Nat}{e:TypeId}{R:World→α→List Value→Prop}{xs:List α}{w0:World}(h:aW (.hi p) w (.slice B nb c) b)(hO:aQ b2 e sz R w0 (.slice A m c2) xs)(hs:w0.heap.size≤p) : lU nb B (ob A):=fun hn x hx hx2=>by
  have h1:=Bu h hn x hx
  have h2:=dA hO x hx2
  omega
theorem qO:rZ A n [] w:=fun y hy=>by cases hy
theorem CC{g:Nat}{t:TypeId}{cs:Array Value}{fr:Nat × Nat}(hb:w.heap[g]? = some (.cells cs t fr))(ht:(t==5)=false)(k:rZ A n X w) : rZ A n (g :: X) w:=by
  intro y hy
  rcases List.mem_cons.1 hy with rfl|hy
  · exact .inr (.inr ⟨cs,t,fr,hb,ht⟩)
  · exact k y hy
theorem CA{α:Type}{base sz m c:Nat}{e:TypeId}{R:World→α→List Value→Prop}{xs:List α}(h:aQ base e sz R w (.slice B m c) xs)(ht:(e==5)=false)(k:rZ A n X w) : rZ A n (ob B++X) w:=fun y hy=>by
  rcases List.mem_append.1 hy with hy|hy
  · rcases dw h with rfl | ⟨g,cells,rfl,_,h1⟩
    · simp[ob] at hy
    · simp[ob] at hy
      subst hy
      exact .inr (.inr ⟨_,_,_,h1,ht⟩)
  · exact k y hy
theorem Ep{w0:World}{g:Nat}{b:List Int}{v:Value}(hg:w0.heap.size≤g)(hb:w.heap[g]? = some (.cells #[v] 27 (0,0)))(h:kJ p A n w b [v]) : aQ w0.heap.size 27 1 (kJ p A n) w (.slice (some ⟨g,0,none⟩) 1 1) [b]:=by
  refine⟨[v],⟨rfl,.inr ⟨g,1,#[v],rfl,hg,hb,Nat.le_refl _,by unfold maxLen;omega,rfl,rfl⟩⟩,fun j y hj=>?_⟩
  cases j with
  | succ j=>simp at hj
  | zero =>
    have hj:b=y:=by simpa using hj
    subst hj
    exact⟨[v],rfl,h,fun i u hi=>by simpa using hi⟩
end
def Fk (n base:Nat)(S2:XS)(outs:List (List Int))(a c d next lost:Int)(gt s g bT bF bN:Nat)(A:Option Addr)(w:World)(e:Ending)(w':World) : Prop :=
  ∃ v A2 c2 n2,e = .returned v∧iS w.heap.size A2 w'.heap.size w.heap.size w' v outs∧aj n2 base w' s g A2 c2 S2∧ap w' gt s bT bF bN a c d next lost∧(∀ x,x∈ob A2→x∈ob A∨w.heap.size≤x)∧n≤n2∧ay (gt :: bN :: g :: (ob A++[])) w w'
def Ff (a c d:Int)(w:World)(e:Ending)(w':World) : Prop :=
  ∃ gt s g bT bF bN,e = .returned (.pointer (some ⟨gt,0,none⟩))∧w.heap.size≤gt∧w.heap.size≤s∧w.heap.size≤g∧w.heap.size≤bN∧w.heap.size≤bT∧w.heap.size≤bF∧aj w.heap.size w.heap.size w' s g none 0 (XS.zero a d)∧ap w' gt s bT bF bN a c d 0 0∧ay [] w w'
end Go.Proofs.YtdkhbcefkfgbdaaGreat
namespace Go.Proofs.YtdkhbcefkfgbdaaGreat
def gZ (C:aF) : Prop:=∀ x,x∈C.l→0≤x∧x<256
theorem fx{C:aF}{ok:Bool}{x:Int}(hx:x≠0)(h:(C.need ok x).e=0) : C.e=0∧ok=true:=by
  unfold aF.need at h
  split at h
  · exact absurd h hx
  · rename_i hh
    refine⟨h,?_⟩
    cases ok
    · exact absurd ⟨h,rfl⟩ hh
    · rfl
theorem gV{C:aF}{n:Int}(h:(C.bytesC n).e=0) : C.e=0∧C.l=C.bytesR n++(C.bytesC n).l∧((C.bytesR n).length:Int)=n:=by
  unfold aF.bytesC at h ⊢
  unfold aF.bytesR
  split at h
  · exfalso
    unfold aF.need at h
    split at h
    · cases h
    · rename_i hh
      exact hh ⟨h,rfl⟩
  · rename_i hf
    rw[if_neg hf,if_neg hf]
    refine⟨h,(List.take_append_drop _ _).symm,?_⟩
    unfold aF.fails at hf
    simp only[Bool.or_eq_true,decide_eq_true_eq,not_or] at hf
    rw[List.length_take]
    omega
theorem lZ:∀ (l:List Int),l.length%2=0→(∀ x,x∈l→0≤x∧x<256)→aV (eE l)=l
  | [],_,_=>rfl
  | [_],h,_=>by simp at h
  | a :: b :: r,h,hr=>by
    have ha:=hr a (by simp)
    have hb:=hr b (by simp)
    simp only[eE,aV]
    rw[lZ r (by simp at h;omega) (fun x hx=>hr x (by simp[hx]))]
    congr 1
    · omega
    · congr 1
      omega
theorem jT{C:aF}{n:Int}(hr:gZ C)(h:(C.wordsC n).e=0) : C.e=0∧C.l=aV (C.wordsR n)++(C.wordsC n).l∧((C.wordsR n).length:Int)=n:=by
  unfold aF.wordsC at h ⊢
  unfold aF.wordsR
  split at h
  · obtain⟨_,_,h3⟩:=gV h
    omega
  · rename_i hb
    rw[if_neg hb,if_neg hb]
    obtain⟨h1,h2,h3⟩:=gV h
    have h4:(C.bytesR (2*n)).length%2=0:=by omega
    have h5:∀ x,x∈C.bytesR (2*n)→0≤x∧x<256:=fun x hx=>hr x (by rw[h2];exact List.mem_append_left _ hx)
    unfold ed
    rw[if_pos h4]
    refine⟨h1,by rw[lZ _ h4 h5];exact h2,?_⟩
    rw[eO]
    omega
def cP (C:aF)(l:List Int)(C':aF) : Prop:=gZ C→gZ C'∧(C'.e=0→C.e=0∧C.l=l++C'.l)
theorem cP.trans{A B C:aF}{l m:List Int}(h:cP A l B)(k:cP B m C) : cP A (l++m) C:=fun hr=>by
  obtain⟨h1,h2⟩:=h hr
  obtain⟨k1,k2⟩:=k h1
  refine⟨k1,fun he=>?_⟩
  obtain⟨k3,k4⟩:=k2 he
  obtain⟨h3,h4⟩:=h2 k3
  exact⟨h3,by rw[h4,k4,List.append_assoc]⟩
theorem cP.refl(C:aF) : cP C [] C:=fun hr=>⟨hr,fun he=>⟨he,rfl⟩⟩
theorem cP.need{A C:aF}{l:List Int}{ok:Bool}{x:Int}(h:cP A l C)(hx:x≠0:=by decide) : cP A l (C.need ok x):=fun hr=>by
  obtain⟨h1,h2⟩:=h hr
  refine⟨fun y hy=>h1 y (by rwa [kY] at hy),fun he=>?_⟩
  rw[kY]
  exact h2 (fx hx he).1
theorem cP.bytes{A C:aF}{l:List Int}(h:cP A l C)(n:Int) : cP A (l++C.bytesR n) (C.bytesC n):=h.trans fun hr=>⟨jK hr n,fun he=>⟨(gV he).1,(gV he).2.1⟩⟩
theorem cP.words{A C:aF}{l:List Int}(h:cP A l C)(n:Int) : cP A (l++aV (C.wordsR n)) (C.wordsC n):=h.trans fun hr=>⟨dk hr n,fun he=>⟨(jT hr he).1,(jT hr he).2.1⟩⟩
theorem zf{l:List Int}(h:(l.length:Int)=1) : l=[l.getD 0 0]:=by
  match l,h with
  | [a],_=>rfl
  | [],h=>simp at h
  | _ :: _ :: _,h=>simp at h;omega
theorem cP.byte{A C:aF}{l:List Int}(h:cP A l C) : cP A (l++[C.byteV]) (C.bytesC 1):=h.trans fun hr=>⟨jK hr 1,fun he=>by
  obtain⟨h1,h2,h3⟩:=gV he
  refine⟨h1,?_⟩
  have:=zf h3
  show C.l=[(C.bytesR 1).getD 0 0]++_
  rw[← this]
  exact h2⟩
theorem cP.word{A C:aF}{l:List Int}(h:cP A l C) : cP A (l++aV [C.wordV]) (C.wordsC 1):=h.trans fun hr=>⟨dk hr 1,fun he=>by
  obtain⟨h1,h2,h3⟩:=jT hr he
  refine⟨h1,?_⟩
  have:=zf h3
  show C.l=aV [(C.wordsR 1).getD 0 0]++_
  rw[← this]
  exact h2⟩
theorem cP.fin{A C:aF}{l:List Int}(h:cP A l C)(hr:gZ A)(he:C.endC.e=0) : C.e=0∧A.l=l:=by
  unfold aF.endC at he
  obtain⟨h1,h2⟩:=fx (by decide) he
  obtain⟨_,h3⟩:=(h hr).2 h1
  have:C.l=[]:=by
    simp only[beq_iff_eq] at h2
    exact List.eq_nil_of_length_eq_zero (by omega)
  exact⟨h1,by rw[h3,this,List.append_nil]⟩
theorem dl{C:aF}(hr:gZ C) : 0≤C.byteV∧C.byteV<256:=by
  unfold aF.byteV
  rw[List.getD_eq_getElem?_getD]
  cases h:(C.bytesR 1)[0]? with
  | none=>simp
  | some x =>
    have hm:x∈C.bytesR 1:=List.mem_of_getElem? h
    have:x∈C.l:=by
      unfold aF.bytesR at hm
      split at hm
      · cases hm
      · exact List.mem_of_mem_take hm
    exact hr x this
theorem mO(C:aF)(most:Int) : cP C (aV [C.wordV,(C.wordsC 1).wordV]) (d7 C most):=by
  have:=(((cP.refl C).word).word)
  exact(this.need).need
theorem Av:∀ n:Nat,n<256→(((if ((n:Int)/2 ^ 0%2==1) then 1 else 0)+(if ((n:Int)/2 ^ 1%2==1) then 2 else 0)+(if ((n:Int)/2 ^ 2%2==1) then 4 else 0)+(if ((n:Int)/2 ^ 3%2==1) then 8 else 0)+(if ((n:Int)/2 ^ 4%2==1) then 16 else 0)+(if ((n:Int)/2 ^ 5%2==1) then 32 else 0)+(if ((n:Int)/2 ^ 6%2==1) then 64 else 0)+(if ((n:Int)/2 ^ 7%2==1) then 128 else 0) : Nat) : Int)=n:=by decide +kernel
theorem nI{x:Int}(hx:0≤x∧x<256)(f:Nat→Bool)(hf:∀ i,i<8→f i=(x/2 ^ i%2==1)) :
    (((if f 0 then 1 else 0)+(if f 1 then 2 else 0)+(if f 2 then 4 else 0)+(if f 3 then 8 else 0)+(if f 4 then 16 else 0)+(if f 5 then 32 else 0)+(if f 6 then 64 else 0)+(if f 7 then 128 else 0) : Nat) : Int)=x:=by
  rw[hf 0 (by decide),hf 1 (by decide),hf 2 (by decide),hf 3 (by decide),hf 4 (by decide),hf 5 (by decide),hf 6 (by decide),hf 7 (by decide)]
  obtain⟨n,rfl⟩:=Int.eq_ofNat_of_zero_le hx.1
  exact Av n (by omega)
theorem rc{b:List Int}{n:Int}{l:List Bool}(hr:∀ x,x∈b→0≤x∧x<256)(h:dv b n=some l) : dO l=b:=by
  unfold dv at h
  split at h
  · rename_i hc
    split at h
    · rename_i hall
      injection h with h
      subst h
      have hlen:((List.range n.toNat).map (cS b)).length=n.toNat:=by simp
      have hm:((List.range n.toNat).map (cS b)).length=n:=by rw[hlen];omega
      unfold dO
      rw[hm,← hc.2]
      apply List.ext_getElem
      · simp
      intro j h1 h2
      simp only[List.getElem_map,List.getElem_range]
      have hj:j<b.length:=h2
      have hget:∀ i,i<8*b.length→((List.range n.toNat).map (cS b)).getD i false=cS b i:=fun i hi=>by
        rw[List.getD_eq_getElem?_getD,List.getElem?_map]
        by_cases hin:i<n.toNat
        · rw[List.getElem?_range hin];rfl
        · rw[List.getElem?_eq_none (by simpa using hin)]
          rw[List.all_eq_true] at hall
          have:=hall i (by simpa using hi)
          simp only[Bool.or_eq_true,decide_eq_true_eq,Bool.not_eq_true'] at this
          rcases this with h3|h3
          · omega
          · simp[h3]
      have hx:∀ k,k<8→cS b (8*j+k)=(b[j]/2 ^ k%2==1):=fun k hk=>by
        unfold cS
        rw[show(8*j+k)/8=j from by omega,show(8*j+k)%8=k from by omega,List.getD_eq_getElem?_getD,List.getElem?_eq_getElem hj]
        rfl
      unfold dg
      rw[show(8*j:Nat)=8*j+0 from rfl]
      simp only[hget _ (show 8*j+0<8*b.length by omega),hget _ (show 8*j+0+1<8*b.length by omega),hget _ (show 8*j+0+2<8*b.length by omega),hget _ (show 8*j+0+3<8*b.length by omega),hget _ (show 8*j+0+4<8*b.length by omega),hget _ (show 8*j+0+5<8*b.length by omega),hget _ (show 8*j+0+6<8*b.length by omega),hget _ (show 8*j+0+7<8*b.length by omega)]
      exact nI (hr _ (List.getElem_mem hj)) (fun k=>cS b (8*j+k)) hx
    · cases h
  · cases h
end Go.Proofs.YtdkhbcefkfgbdaaGreat
namespace Go.Proofs.YtdkhbcefkfgbdaaGreat
theorem bj{α β:Type}{p:α × β}{a:α}{b:β}(h:some p=some (a,b)) : p.1=a∧p.2=b:=by
  injection h with h
  rw[h]
  exact⟨rfl,rfl⟩
theorem uj{C:aF}{most c:Int}(hr:gZ C)(he:(fO most c C).1.endC.e=0) : aV [C.wordV,(C.wordsC 1).wordV]=C.l:=((mO C most).fin hr he).2.symm
theorem xP{C:aF}{c:Int}(hr:gZ C)(he:(iy c C).1.endC.e=0) : [(((iZ C).bytesR C.byteV).length:Int)%256]++(iZ C).bytesR C.byteV=C.l:=by
  have hbv:=dl hr
  have hE:cP C ([]++[C.byteV]++(iZ C).bytesR C.byteV) ((iZ C).bytesC C.byteV):=(((cP.refl C).byte).need).bytes _
  obtain⟨h1,h2⟩:=hE.fin hr he
  obtain⟨_,_,h3⟩:=gV h1
  rw[h2,h3,Int.emod_eq_of_lt hbv.1 hbv.2]
  rfl
theorem yB{C:aF}{c:Int}(hr:gZ C)(he:(fE c C).1.endC.e=0) : aV [C.wordV,(C.wordsC 1).wordV]=C.l:=by
  have hE:cP C ([]++aV [C.wordV]++aV [(C.wordsC 1).wordV]) (pZ C):=(((cP.refl C).word).word).need
  rw[(hE.fin hr he).2]
  rfl
theorem BI{C:aF}{c:Int}(hr:gZ C)(he:(pf c C).1.endC.e=0) : (aV [C.wordV,(C.wordsC 1).wordV]++[((dO ((Ca C).getD [])).length:Int)%256])++dO ((Ca C).getD [])=C.l:=by
  have hE:cP C (aV [C.wordV,(C.wordsC 1).wordV]++[(d7 C 1968).byteV]++(qC C).bytesR (zt C)) (DD C):=(((((mO C 1968).byte).need).bytes _).need)
  obtain⟨h1,h2⟩:=hE.fin hr he
  obtain⟨h3,h4⟩:=fx (by decide) h1
  obtain⟨_,_,h5⟩:=gV h3
  obtain⟨l,hl⟩:=Option.isSome_iff_exists.1 h4
  have hB:∀ x,x∈(qC C).bytesR (zt C)→0≤x∧x<256:=fun x hx=>hr x (by rw[h2];exact List.mem_append_right _ hx)
  have h6:dO l=(qC C).bytesR (zt C):=rc hB hl
  have hk:0≤zt C∧zt C<256:=dl ((mO C 1968) hr).1
  rw[hl]
  show(aV [C.wordV,(C.wordsC 1).wordV]++[((dO l).length:Int)%256])++dO l=C.l
  rw[h6,h2,h5,Int.emod_eq_of_lt hk.1 hk.2]
  rfl
theorem yP{dir c:Int}{C C':aF}{M:b7}(hd:dir=0∨dir=1)(hr:gZ C)(h:bt dir c C=some (C',M))(he:C'.endC.e=0) : cy dir M=C.l:=by
  unfold bt at h
  split at h
  · rename_i hc
    simp only[Bool.or_eq_true,beq_iff_eq] at hc
    rcases hd with rfl|rfl
    · have h:some (fO 2000 c C)=some (C',M):=h
      obtain⟨rfl,rfl⟩:=bj h
      rcases hc with rfl|rfl<;>exact uj hr he
    · have h:some (iy c C)=some (C',M):=h
      obtain⟨rfl,rfl⟩:=bj h
      rcases hc with rfl|rfl<;>exact xP hr he
  split at h
  · rename_i hc
    obtain rfl:c=5:=by simpa using hc
    obtain⟨rfl,rfl⟩:=bj h
    exact yB hr he
  split at h
  · rename_i hc
    obtain rfl:c=15:=by simpa using hc
    rcases hd with rfl|rfl
    · have h:some (pf 15 C)=some (C',M):=h
      obtain⟨rfl,rfl⟩:=bj h
      exact BI hr he
    · have h:some (fO 1968 15 C)=some (C',M):=h
      obtain⟨rfl,rfl⟩:=bj h
      exact uj hr he
  · cases h
theorem je{A C:aF}{l:List Int}(h:cP A l C)(a most:Int) : cP A (l++aV [C.wordV]) (bI C a most):=((h.word).need).need
theorem Dq{n hi:Int}(h:kV n hi=true) : n%2=0∧2≤n∧n≤hi:=by
  unfold kV at h
  simp only[Bool.and_eq_true,decide_eq_true_eq,beq_iff_eq] at h
  exact⟨h.1.1,h.1.2,h.2⟩
theorem pY{c:Int}{C:aF}(hr:gZ C)(he:(dT c C).1.endC.e=0) : [(2*(((ms C).wordsR (C.byteV/2)).length:Int))%256]++aV ((ms C).wordsR (C.byteV/2))=C.l:=by
  have hbv:=dl hr
  have hE0:cP C ([]++[C.byteV]) (ms C):=((cP.refl C).byte).need
  have hE:=hE0.words (C.byteV/2)
  obtain⟨h1,h2⟩:=hE.fin hr he
  obtain⟨h3,_,h5⟩:=jT (hE0 hr).1 h1
  obtain⟨h6,h7,h8⟩:=Dq (fx (by decide) h3).2
  rw[h2,h5,show(2*(C.byteV/2))%256=C.byteV from by omega]
  rfl
theorem rq{most c:Int}{C:aF}(hr:gZ C)(he:(d6 most c C).1.endC.e=0) : aV [C.wordV,(C.wordsC 1).wordV]=C.l:=by
  rw[((je (cP.refl C).word C.wordV most).fin hr he).2]
  rfl
theorem zD{c:Int}{C:aF}(hr:gZ C)(he:(i4 c C).1.endC.e=0) : aV [C.wordV,(C.wordsC 1).wordV]=C.l:=by
  rw[(((cP.refl C).word).word.fin hr he).2]
  rfl
theorem lD{A C:aF}{l:List Int}(h:cP A l C)(n:Int) : cP A (l++[C.byteV]) (cK C n):=(h.byte).need
theorem wF{c:Int}{C:aF}(hr:gZ C)(he:(fI c C).1.endC.e=0) : (aV [C.wordV,(C.wordsC 1).wordV]++[(2*(((jD C).wordsR (C.wordsC 1).wordV).length:Int))%256])++aV ((jD C).wordsR (C.wordsC 1).wordV)=C.l:=by
  have hE0:cP C _ (bI (C.wordsC 1) C.wordV 123):=je (cP.refl C).word C.wordV 123
  have hE1:cP C _ (jD C):=lD hE0 (C.wordsC 1).wordV
  have hbv:=dl (hE0 hr).1
  obtain⟨h1,h2⟩:=(hE1.words (C.wordsC 1).wordV).fin hr he
  obtain⟨h3,_,h5⟩:=jT (hE1 hr).1 h1
  have h6:=(fx (by decide) h3).2
  simp only[beq_iff_eq] at h6
  rw[h5,← h6,Int.emod_eq_of_lt hbv.1 hbv.2,h2]
  rfl
theorem xJ{c:Int}{C:aF}(hr:gZ C)(he:(eX c C).1.endC.e=0) : aV [C.wordV,(C.wordsC 1).wordV,((C.wordsC 1).wordsC 1).wordV]=C.l:=by
  rw[(((cP.refl C).word).word.word.fin hr he).2]
  rfl
theorem yp{c:Int}{C:aF}(hr:gZ C)(he:(fY c C).1.endC.e=0) : (aV [C.wordV,(C.wordsC 1).wordV,(bI (C.wordsC 1) C.wordV 125).wordV,(((iM C).wordsR (gz C).wordV).length:Int)%65536]++[(2*(((iM C).wordsR (gz C).wordV).length:Int))%256])++aV ((iM C).wordsR (gz C).wordV)=C.l:=by
  have hE0:cP C _ (gz C):=(je (cP.refl C).word C.wordV 125).word
  have hE1:cP C _ (uh C):=je hE0 (bI (C.wordsC 1) C.wordV 125).wordV 121
  have hE2:cP C _ (iM C):=lD hE1 (gz C).wordV
  have hbv:=dl (hE1 hr).1
  have hwv:0≤(gz C).wordV∧(gz C).wordV<65536:=dC (hE0 hr).1
  obtain⟨h1,h2⟩:=(hE2.words (gz C).wordV).fin hr he
  obtain⟨h3,_,h5⟩:=jT (hE2 hr).1 h1
  have h6:=(fx (by decide) h3).2
  simp only[beq_iff_eq] at h6
  rw[h5,Int.emod_eq_of_lt hwv.1 hwv.2,← h6,Int.emod_eq_of_lt hbv.1 hbv.2,h2]
  rfl
theorem ya{c:Int}{C:aF}(hr:gZ C)(he:(fV c C).1.endC.e=0) : aV [C.wordV]=C.l:=by
  rw[((cP.refl C).word.fin hr he).2]
  rfl
theorem Do{c:Int}{C:aF}(hr:gZ C)(he:(zr c C).1.endC.e=0) : aV [(2+2*(((BD C).wordsR (uJ C).wordV).length:Int))%65536,(((BD C).wordsR (uJ C).wordV).length:Int)%65536]++aV ((BD C).wordsR (uJ C).wordV)=C.l:=by
  have hE0:cP C _ (uJ C):=((cP.refl C).word).need
  have hE1:cP C _ (BD C):=(hE0.word).need
  have hwc:0≤C.wordV∧C.wordV<65536:=dC hr
  have hwv:0≤(uJ C).wordV∧(uJ C).wordV<65536:=dC (hE0 hr).1
  obtain⟨h1,h2⟩:=(hE1.words (uJ C).wordV).fin hr he
  obtain⟨h3,_,h5⟩:=jT (hE1 hr).1 h1
  have h6:=(fx (by decide) h3).2
  simp only[beq_iff_eq] at h6
  rw[h5,h6,Int.emod_eq_of_lt hwv.1 hwv.2,Int.emod_eq_of_lt hwc.1 hwc.2,h2]
  rfl
theorem AS{dir c:Int}{C C':aF}{M:b7}(hd:dir=0∨dir=1)(hr:gZ C)(h:ci dir c C=some (C',M))(he:C'.endC.e=0) : bY dir M=C.l:=by
  unfold ci at h
  split at h
  · rename_i hc
    simp only[Bool.or_eq_true,beq_iff_eq] at hc
    rcases hd with rfl|rfl
    · have h:some (d6 125 c C)=some (C',M):=h
      obtain⟨rfl,rfl⟩:=bj h
      rcases hc with rfl|rfl<;>exact rq hr he
    · have h:some (dT c C)=some (C',M):=h
      obtain⟨rfl,rfl⟩:=bj h
      rcases hc with rfl|rfl<;>exact pY hr he
  split at h
  · rename_i hc
    obtain rfl:c=6:=by simpa using hc
    obtain⟨rfl,rfl⟩:=bj h
    rcases hd with rfl|rfl<;>exact zD hr he
  split at h
  · rename_i hc
    obtain rfl:c=16:=by simpa using hc
    rcases hd with rfl|rfl
    · have h:some (fI 16 C)=some (C',M):=h
      obtain⟨rfl,rfl⟩:=bj h
      exact wF hr he
    · have h:some (d6 123 16 C)=some (C',M):=h
      obtain⟨rfl,rfl⟩:=bj h
      exact rq hr he
  split at h
  · rename_i hc
    obtain rfl:c=22:=by simpa using hc
    obtain⟨rfl,rfl⟩:=bj h
    rcases hd with rfl|rfl<;>exact xJ hr he
  split at h
  · rename_i hc
    obtain rfl:c=23:=by simpa using hc
    rcases hd with rfl|rfl
    · have h:some (fY 23 C)=some (C',M):=h
      obtain⟨rfl,rfl⟩:=bj h
      exact yp hr he
    · have h:some (dT 23 C)=some (C',M):=h
      obtain⟨rfl,rfl⟩:=bj h
      exact pY hr he
  split at h
  · rename_i hc
    obtain rfl:c=24:=by simpa using hc
    rcases hd with rfl|rfl
    · have h:some (fV 24 C)=some (C',M):=h
      obtain⟨rfl,rfl⟩:=bj h
      exact ya hr he
    · have h:some (zr 24 C)=some (C',M):=h
      obtain⟨rfl,rfl⟩:=bj h
      exact Do hr he
  · cases h
end Go.Proofs.YtdkhbcefkfgbdaaGreat
namespace Go.Proofs.YtdkhbcefkfgbdaaGreat
theorem cP.conv{A C:aF}{l l':List Int}(h:cP A l C)(k:gZ A→gZ C→C.e=0→l=l') : cP A l' C:=fun hr=>by
  obtain⟨h1,h2⟩:=h hr
  refine⟨h1,fun he=>?_⟩
  rw[← k hr h1 he]
  exact h2 he
theorem AJ{dir c:Int}{C:aF}(hr:gZ C)(he:(eH dir c C).1.endC.e=0) : aV [(eH dir c C).2.sub]++aV (eH dir c C).2.words=C.l:=by
  have hE0:cP C ([]++aV [C.wordV]) (i5 dir C):=((cP.refl C).word).need
  unfold eH at he ⊢
  split at he
  · rename_i hw
    rw[if_pos hw]
    exact(((hE0.words 1).need).fin hr he).2.symm
  · rename_i hw
    rw[if_neg hw]
    exact(((hE0.need).words _).fin hr he).2.symm
theorem rb(C:aF)(lo hi:Int) : cP C ([]++[C.byteV]) (gq C lo hi):=((cP.refl C).byte).need
theorem pG{A C:aF}{l:List Int}(h:cP A l C) : cP A (l++aV [C.wordV]) (dN C):=(h.word).need
theorem BH{c:Int}{C:aF}(hc:c=7∨c=11∨c=12∨c=17)(hr:gZ C)(he:(cC c C).1.endC.e=0) : bP 1 (cC c C).2=C.l:=by
  have hbv:=dl hr
  rcases hc with rfl|rfl|rfl|rfl
  · have he:(C.bytesC 1).endC.e=0:=he
    show[C.byteV%256]=C.l
    rw[Int.emod_eq_of_lt hbv.1 hbv.2,((cP.refl C).byte.fin hr he).2]
    rfl
  · have he:((dN C).wordsC 1).endC.e=0:=he
    show aV [C.wordV,(dN C).wordV]=C.l
    rw[((pG (cP.refl C)).word.fin hr he).2]
    rfl
  · have he:((iJ C).bytesC (C.byteV-6)).endC.e=0:=he
    have hE:=(((pG (rb C 6 70)).word).word).bytes (C.byteV-6)
    obtain⟨h1,h2⟩:=hE.fin hr he
    obtain⟨_,_,h3⟩:=gV h1
    show([(6+(((iJ C).bytesR (C.byteV-6)).length:Int))%256]++aV [(gq C 6 70).wordV,(dN (gq C 6 70)).wordV,((dN (gq C 6 70)).wordsC 1).wordV])++(iJ C).bytesR (C.byteV-6)=C.l
    have h4:(((iJ C).bytesR (C.byteV-6)).length:Int)=C.byteV-6:=h3
    rw[h4,show(6+(C.byteV-6))%256=C.byteV from by omega,h2]
    rfl
  · have he:((gq C 1 251).bytesC C.byteV).endC.e=0:=he
    have hE:=(rb C 1 251).bytes C.byteV
    obtain⟨h1,h2⟩:=hE.fin hr he
    obtain⟨_,_,h3⟩:=gV h1
    show[(((gq C 1 251).bytesR C.byteV).length:Int)%256]++(gq C 1 251).bytesR C.byteV=C.l
    rw[h3,Int.emod_eq_of_lt hbv.1 hbv.2,h2]
    rfl
theorem BG{c:Int}{C:aF}(hc:c=7∨c=11∨c=12∨c=17)(hr:gZ C)(he:C.endC.e=0) : bP 0 { b7.zero with code:=c }=C.l:=by
  have h:=((cP.refl C).fin hr he).2
  rcases hc with rfl|rfl|rfl|rfl<;>exact h.symm
theorem As{dir c:Int}{C C':aF}{M:b7}(hd:dir=0∨dir=1)(hr:gZ C)(h:bE dir c C=some (C',M))(he:C'.endC.e=0) : bP dir M=C.l:=by
  unfold bE at h
  split at h
  · rename_i hc
    obtain rfl:c=8:=by simpa using hc
    obtain⟨rfl,rfl⟩:=bj h
    have hco:(eH dir 8 C).2.code=8:=by unfold eH;split<;>rfl
    unfold bP
    rw[hco,if_pos (by rfl)]
    exact AJ hr he
  split at h
  · rename_i hc
    simp only[Bool.or_eq_true,beq_iff_eq] at hc
    have hc:c=7∨c=11∨c=12∨c=17:=by omega
    rcases hd with rfl|rfl
    · have h:some (C,({ b7.zero with code:=c }:b7))=some (C',M):=h
      obtain⟨rfl,rfl⟩:=bj h
      exact BG hc hr he
    · have h:some (cC c C)=some (C',M):=h
      obtain⟨rfl,rfl⟩:=bj h
      exact BH hc hr he
  · cases h
theorem rD:∀ (n:Nat)(C:aF)(L:List Obj),∃ L',(gB n C L).2=L++L'∧L'.length=n∧cP C (ft L') (gB n C L).1
  | 0,C,L=>⟨[],by simp[gB],rfl,cP.refl C⟩
  | n+1,C,L=>by
    obtain⟨L',h1,h2,h3⟩:=rD n (((C.bytesC 1).bytesC 1).bytesC (C.bytesC 1).byteV) (L++[⟨C.byteV,((C.bytesC 1).bytesC 1).bytesR (C.bytesC 1).byteV⟩])
    refine⟨⟨C.byteV,((C.bytesC 1).bytesC 1).bytesR (C.bytesC 1).byteV⟩ :: L',?_,by simp[h2],?_⟩
    · show(gB n _ _).2=_
      rw[h1]
      simp
    · have hE0:cP C _ ((C.bytesC 1).bytesC 1):=(cP.refl C).byte.byte
      have hE1:cP C (([C.byteV,((((C.bytesC 1).bytesC 1).bytesR (C.bytesC 1).byteV).length:Int)%256])++((C.bytesC 1).bytesC 1).bytesR (C.bytesC 1).byteV) (((C.bytesC 1).bytesC 1).bytesC (C.bytesC 1).byteV):=(hE0.bytes _).conv fun hr _ he=>by
        have hb:=dl ((cP.refl C).byte hr).1
        rw[(gV he).2.2,Int.emod_eq_of_lt hb.1 hb.2]
        rfl
      exact hE1.trans h3
theorem xG{c:Int}{C:aF}(hr:gZ C)(he:(du (ex C).byteV (ec C)).1.endC.e=0) : [C.byteV,(ex C).byteV,(ec C).byteV,(nE (ec C)).byteV,(rj (ec C)).byteV,((du (ex C).byteV (ec C)).2.length:Int)%256]++ft (du (ex C).byteV (ec C)).2=C.l:=by
  have hE0:cP C _ (ex C):=(cP.refl C).byte.need
  have hE1:cP C _ (ec C):=hE0.byte.need
  have hE2:cP C _ (nE (ec C)):=hE1.byte.need
  have hE3:cP C _ (rj (ec C)):=hE2.byte.need
  have hE4:cP C _ (qW (ec C)):=hE3.byte.need
  have hE5:cP C _ (Br (ex C).byteV (ec C)):=hE4.byte.need
  obtain⟨L',h1,h2,h3⟩:=rD (qW (ec C)).byteV.toNat (Br (ex C).byteV (ec C)) []
  have hb:=dl (hE4 hr).1
  have h4:(du (ex C).byteV (ec C)).2=L':=by unfold du;rw[h1];rfl
  obtain⟨_,h5⟩:=(hE5.trans h3).fin hr he
  rw[h4,h2,show(((qW (ec C)).byteV.toNat:Nat) : Int)%256=(qW (ec C)).byteV from by omega,h5]
  rfl
theorem zg{dir c:Int}{C C':aF}{M:b7}(hd:dir=0∨dir=1)(hr:gZ C)(h:cn dir c C=some (C',M))(he:C'.endC.e=0) : dm dir M=C.l:=by
  have hE0:cP C _ (ex C):=(cP.refl C).byte.need
  unfold cn at h
  split at h
  · cases h
  split at h
  · rename_i hm
    obtain⟨rfl,rfl⟩:=bj h
    have hE1:=(hE0.need (ok:=decide (((ex C).l.length:Int)≤251)) (x:=5)).bytes ((jM C).l.length:Int)
    obtain⟨_,h5⟩:=hE1.fin hr he
    unfold dm
    rw[if_pos (show(C.byteV==13)=true from hm),h5]
    rfl
  rename_i hm
  split at h
  · rename_i hc
    obtain rfl:dir=1:=by simpa using hc
    obtain⟨rfl,rfl⟩:=bj h
    unfold dm
    rw[if_neg (show ¬ (C.byteV==13)=true from hm),if_neg (by decide)]
    exact xG (c:=c) hr he
  · rename_i hc
    obtain rfl:dir=0:=by
      rcases hd with rfl|rfl
      · rfl
      · exact absurd rfl hc
    obtain⟨rfl,rfl⟩:=bj h
    have hE1:cP C _ (ec C):=hE0.byte.need
    obtain⟨_,h5⟩:=hE1.byte.fin hr he
    unfold dm
    rw[if_neg (show ¬ (C.byteV==13)=true from hm),if_pos (by rfl),h5]
    rfl
theorem qY{one:Int→aF→Int × aF × et}{dir code:Int}(hl:∀ s C,0<C.l.length→(one s C).2.1.l.length<C.l.length)(hE:∀ s C,cP C (fP dir code (one s C).2.2) (one s C).2.1) :
    ∀ (n:Nat) (s:Int) (C:aF) (L:List et),C.l.length≤n→gZ C→(bB one n s C L).1.e=0→∃ L',(bB one n s C L).2=L++L'∧C.l=cm dir code L'
  | 0,s,C,L,h,_,_=>⟨[],by simp[bB],by simpa [cm] using h⟩
  | n+1,s,C,L,h,hr,he=>by
    unfold bB at he ⊢
    split at he
    · rename_i hc
      rw[if_pos hc]
      simp only[Bool.and_eq_true,decide_eq_true_eq,beq_iff_eq] at hc
      have h1:=hl s C (by omega)
      obtain⟨h2,h3⟩:=hE s C hr
      split at he
      · rename_i hn
        rw[he] at hn
        cases hn
      · rename_i hn
        rw[if_neg hn]
        have h4:(one s C).2.1.e=0:=by simpa using hn
        obtain⟨L',h5,h6⟩:=qY hl hE n (one s C).1 (one s C).2.1 (L++[(one s C).2.2]) (by omega) h2 he
        refine⟨(one s C).2.2 :: L',by rw[h5];simp,?_⟩
        rw[(h3 h4).2,h6]
        rfl
    · rename_i hc
      rw[if_neg hc]
      have he:C.e=0:=he
      refine⟨[],by simp,?_⟩
      have:C.l=[]:=by
        apply List.eq_nil_of_length_eq_zero
        simp only[he,Bool.and_eq_true,decide_eq_true_eq,beq_self_eq_true,and_true] at hc
        omega
      rw[this]
      rfl
theorem zB(C:aF) : cP C [6] (rE C):=((cP.refl C).byte.need).conv fun hr _ he=>by
  have h:=(fx (by decide) he).2
  simp only[beq_iff_eq] at h
  rw[h]
  rfl
theorem rJ(C:aF) : cP C ([6]++aV [(bz C).file,(bz C).record,(bz C).count]) (ig C):=by
  have hE1:cP C _ (pB C):=(zB C).word.need
  have hE2:cP C _ (rM C):=hE1.word.need
  have hE3:cP C _ (ig C):=hE2.word.need
  exact hE3
theorem ua(s:Int)(C:aF) : cP C (fP 0 20 (fl s C).2.2) (fl s C).2.1:=by
  have h:cP C _ (fM s C):=(rJ C).need
  exact h.conv fun _ _ _=>rfl
theorem tA(dir s:Int)(C:aF) : cP C (fP dir 21 (fy s C).2.2) (fy s C).2.1:=by
  have h:cP C _ (sl C):=(rJ C).need
  exact(h.words (rM C).wordV).conv fun _ _ _=>rfl
theorem uk(s:Int)(C:aF) : cP C (fP 1 20 (dp s C).2.2) (dp s C).2.1:=by
  have hE1:cP C _ (lz C):=(cP.refl C).byte.need
  have hE2:cP C _ (gy C):=hE1.byte.need
  refine(hE2.words (Int.tdiv (C.byteV-1) 2)).conv fun hr _ he=>?_
  obtain⟨h1,_,h2⟩:=jT (hE2 hr).1 he
  obtain⟨h3,h4⟩:=fx (by decide) h1
  obtain⟨h5,h6⟩:=fx (by decide) (gV h3).1
  have hb:=dl hr
  simp only[Bool.and_eq_true,decide_eq_true_eq,beq_iff_eq] at h4 h6
  have h7:(1+2*(((gy C).wordsR (Int.tdiv (C.byteV-1) 2)).length:Int))%256=C.byteV:=by
    rw[h2,Int.tdiv_eq_ediv_of_nonneg (by omega)]
    omega
  show _=[(1+2*(((gy C).wordsR (Int.tdiv (C.byteV-1) 2)).length:Int))%256,6]++aV ((gy C).wordsR (Int.tdiv (C.byteV-1) 2))
  rw[h7,h4]
  rfl
theorem jf{one:Int→aF→Int × aF × et}{dir code:Int}(hl:∀ s C,0<C.l.length→(one s C).2.1.l.length<C.l.length)(hE:∀ s C,cP C (fP dir code (one s C).2.2) (one s C).2.1){may:Int→Bool}{c:Int}{C:aF}(hr:gZ C)
    (he:(eb one may c C).1.endC.e=0) : [((cm dir code (nU one may C).2).length:Int)%256]++cm dir code (nU one may C).2=C.l:=by
  have hE0:cP C _ (ul may C):=(cP.refl C).byte.need
  have hE1:=hE0.bytes C.byteV
  have hb:=dl hr
  unfold aF.endC at he
  obtain⟨h0,a⟩:=fx (by decide) he
  unfold eb at h0 a
  have hw:ei (nU one may C).1.e≠0∨(nU one may C).1.e=0:=by
    by_cases hz:(nU one may C).1.e=0
    · exact Or.inr hz
    · left
      unfold ei
      split
      · decide
      · exact hz
  have h1:((ul may C).bytesC C.byteV).e=0∧(nU one may C).1.e=0:=by
    rcases hw with hw|hw
    · obtain⟨h2,h3⟩:=fx hw h0
      exact⟨h2,by simpa using h3⟩
    · rw[hw] at h0
      refine⟨?_,hw⟩
      unfold aF.need at h0
      rw[if_neg (by rintro⟨_,hx⟩;cases hx)] at h0
      exact h0
  obtain⟨h2,h3,h4⟩:=gV h1.1
  have h5:((ul may C).bytesC C.byteV).l=[]:=by
    rw[kY] at a
    simp only[beq_iff_eq] at a
    exact List.eq_nil_of_length_eq_zero (by omega)
  have h6:C.l=[C.byteV]++(ul may C).bytesR C.byteV:=by
    rw[((hE1 hr).2 h1.1).2,h5]
    simp
  have hB:gZ (xO may C):=fun x hx=>hr x (by rw[h6];exact List.mem_append_right _ hx)
  obtain⟨L',h7,h8⟩:=qY hl hE (xO may C).l.length 0 (xO may C) [] (Nat.le_refl _) hB h1.2
  have h9:(nU one may C).2=L':=by unfold nU;rw[h7];rfl
  have b:cm dir code L'=(ul may C).bytesR C.byteV:=h8.symm
  rw[h9,b,h4,Int.emod_eq_of_lt hb.1 hb.2,h6]
theorem qF(dir:Int)(M:b7) : cY dir M=[((cm dir M.code M.recs).length:Int)%256]++cm dir M.code M.recs:=by
  unfold cY
  simp
theorem yD{dir c:Int}{C C':aF}{M:b7}(hd:dir=0∨dir=1)(hr:gZ C)(h:bG dir c C=some (C',M))(he:C'.endC.e=0) : cY dir M=C.l:=by
  rw[qF]
  unfold bG at h
  split at h
  · rename_i hc
    obtain rfl:c=20:=by simpa using hc
    rcases hd with rfl|rfl
    · have h:some (eb fl m9 20 C)=some (C',M):=h
      obtain⟨rfl,rfl⟩:=bj h
      exact jf pa ua hr he
    · have h:some (eb dp mi 20 C)=some (C',M):=h
      obtain⟨rfl,rfl⟩:=bj h
      exact jf mS uk hr he
  split at h
  · rename_i hc
    obtain rfl:c=21:=by simpa using hc
    obtain⟨rfl,rfl⟩:=bj h
    exact jf p4 (tA dir) hr he
  · cases h
theorem fN{form:Int→Int→aF→Option (aF × b7)}{lay:Int→b7→List Int}(hf:∀ {dir c:Int}{C C':aF}{M:b7},(dir=0∨dir=1)→gZ C→form dir c C=some (C',M)→C'.endC.e=0→lay dir M=C.l)
    {dir c:Int} {b:List Int} {M:b7} (hd:dir=0∨dir=1) (hr:∀ x,x∈b→0≤x∧x<256) (h:aL form dir c b=(M,0)) : lay dir M=b:=by
  unfold aL at h
  rw[if_pos hd] at h
  split at h
  · cases h
  · rename_i r hr'
    unfold cL at h
    split at h
    · rename_i he
      injection h with h
      obtain⟨C',M'⟩:=r
      have h:M'=M:=h
      subst h
      exact hf (C:=⟨b,false,0⟩) hd hr hr' he
    · rename_i he
      injection h with _ h
      exact absurd h he
theorem fJ{parse:Int→Int→List Int→b7 × Int}{lay:Int→b7→List Int}{dir:Int}{M:b7}{l:List Int}(h1:lay dir M=l)(h2:parse dir M.code l=(M,0)) : cj parse lay dir M=some l:=by
  unfold cj
  rw[h1,if_pos h2]
theorem zS{k:Nat}{dir:Int}{b:List Int}{M:b7}(hd:dir=0∨dir=1)(hr:∀ x,x∈b→0≤x∧x<256)(h:iK k dir b=(M,0))(hc:M.code=b.getD 0 0) : gO k dir M=some (b.drop 1):=by
  have hr':∀ x,x∈b.drop 1→0≤x∧x<256:=fun x hx=>hr x (List.mem_of_mem_drop hx)
  unfold iK at h
  split at h
  · exact fJ (fN yP hd hr' h) (by rw[hc];exact h)
  · exact fJ (fN AS hd hr' h) (by rw[hc];exact h)
  · exact fJ (fN As hd hr' h) (by rw[hc];exact h)
  · exact fJ (fN yD hd hr' h) (by rw[hc];exact h)
  · exact fJ (fN zg hd hr' h) (by rw[hc];exact h)
  · cases h
theorem zo{x:Int}(h:dL x=true) : (x != 0)=true:=by
  unfold dL at h
  simp only[decide_eq_true_eq,List.mem_cons,List.not_mem_nil,or_false] at h
  simp only[bne_iff_ne]
  omega
theorem vl{x:Int}(h:dU x=true) : 0<x∧x<128:=by
  unfold dU at h
  simp only[decide_eq_true_eq,List.mem_cons,List.not_mem_nil,or_false] at h
  omega
theorem mR{dir:Int}{b:List Int}{M:b7}(hd:dir=0∨dir=1)(hr:∀ x,x∈b→0≤x∧x<256)(h:db dir b=(M,0)) : dc dir M=some b:=by
  unfold db at h
  split at h
  · cases h
  split at h
  · cases h
  split at h
  · cases h
  rename_i h1 h2 h3
  simp only[beq_iff_eq] at h2
  simp only[decide_eq_true_eq] at h3
  obtain⟨x,t,rfl⟩ : ∃ x t,b=x :: t:=by
    cases b with
    | nil=>exact absurd rfl h2
    | cons x t=>exact⟨x,t,rfl⟩
  have hx:=hr x (by simp)
  split at h
  · rename_i hq
    simp only[Bool.and_eq_true,decide_eq_true_eq,beq_iff_eq] at hq
    obtain⟨rfl,k1,k2,k3,k4⟩:=AL h
    have k5:=vl k2
    unfold dc
    rw[if_pos (show((iB _ ((x :: t).getD 1 0)).fail != 0)=true from zo k3)]
    rw[if_neg (by rw[hq.2];decide)]
    unfold nu
    have k6:gw (iB (((x :: t).getD 0 0-128)%256) ((x :: t).getD 1 0)).code (iB (((x :: t).getD 0 0-128)%256) ((x :: t).getD 1 0)).fail=true:=by
      show gw (((x :: t).getD 0 0-128)%256) ((x :: t).getD 1 0)=true
      unfold gw
      rw[k2,k3]
      have:(((x :: t).getD 0 0-128)%256 != 0)=true:=by simp only[bne_iff_ne];omega
      rw[this]
      rfl
    rw[k6]
    have k7:decide (iB (((x :: t).getD 0 0-128)%256) ((x :: t).getD 1 0)=iB (iB (((x :: t).getD 0 0-128)%256) ((x :: t).getD 1 0)).code (iB (((x :: t).getD 0 0-128)%256) ((x :: t).getD 1 0)).fail)=true:=decide_eq_true rfl
    rw[k7]
    show some [(((x-128)%256)+128)%256,(x :: t).getD 1 0]=some (x :: t)
    match t,k4 with
    | [y],_ =>
      rw[show(((x-128)%256)+128)%256=x from by omega]
      rfl
  · obtain⟨_,k1⟩:=v7 hd h
    obtain⟨k2,k3⟩:=k1 rfl
    have k4:=zS hd hr h k2
    unfold dc
    rw[if_neg (by rw[k3];decide),k2,k4]
    show(if decide (253≤(t.length:Int))=true then none else some ([x]++t))=some (x :: t)
    rw[if_neg (by simp only[decide_eq_true_eq];simp only[List.length_cons] at h3;omega)]
    rfl
end Go.Proofs.YtdkhbcefkfgbdaaGreat
namespace Go.Proofs.YtdkhbcefkfgbdaaGreat
theorem mT(C:aF)(n:Int) : (C.bytesR n).length≤C.l.length:=by
  unfold aF.bytesR
  split
  · simp
  · rw[List.length_take];omega
theorem uV(C:aF)(n:Int) : (C.wordsR n).length≤C.l.length:=by
  have h:=mT C (2*n)
  unfold aF.wordsR
  split
  · simp
  · unfold ed
    split
    · rw[eO];omega
    · simp
def Sh (C C':aF) : Prop:=C'.l.length≤C.l.length
theorem Sh.refl(C:aF) : Sh C C:=Nat.le_refl _
theorem Sh.bytes{A C:aF}(h:Sh A C){n:Int}:Sh A (C.bytesC n):=Nat.le_trans (jB C n) h
theorem Sh.words{A C:aF}(h:Sh A C){n:Int}:Sh A (C.wordsC n):=Nat.le_trans (eV C n) h
theorem Sh.need{A C:aF}(h:Sh A C){b:Bool}{e:Int}:Sh A (C.need b e):=by unfold Sh;rw[eJ];exact h
theorem Sh.bR{A C:aF}(h:Sh A C)(n:Int){k:Nat}(hk:A.l.length≤k) : (C.bytesR n).length≤k:=Nat.le_trans (mT C n) (Nat.le_trans h hk)
theorem Sh.wR{A C:aF}(h:Sh A C)(n:Int){k:Nat}(hk:A.l.length≤k) : (C.wordsR n).length≤k:=Nat.le_trans (uV C n) (Nat.le_trans h hk)
theorem fc{M:b7}(h1:M.words.length≤252)(h2:M.bits.length≤2016)(h3:M.data.length≤252)(h4:M.recs=[])(h5:M.objects=[]) : bg M :=
  ⟨by omega,by omega,by omega,by rw[h4];decide,(by rw[h4];exact fun r h=>nomatch h),by rw[h5];decide,(by rw[h5];exact fun r h=>nomatch h)⟩
theorem dH(M:b7)(h1:M.words=[])(h2:M.bits=[])(h3:M.data=[])(h4:M.recs=[])(h5:M.objects=[]) : bg M:=fc (by rw[h1];decide) (by rw[h2];decide) (by rw[h3];decide) h4 h5
theorem AX(C:aF)(m:Int) : Sh C (d7 C m):=((Sh.refl C).words.words.need).need
theorem nh{A C:aF}(h:Sh A C)(a m:Int) : Sh A (bI C a m):=(h.words.need).need
theorem tb{b:List Int}{n:Int}{l:List Bool}(h:dv b n=some l) : l.length≤8*b.length:=by
  unfold dv at h
  split at h
  · rename_i hc
    split at h
    · injection h with h
      subst h
      have:=hc.2
      rw[List.length_map,List.length_range]
      unfold fg at this
      split at this<;>omega
    · cases h
  · cases h
theorem ve{dir c:Int}{C C':aF}{M:b7}(hl:C.l.length≤252)(h:bt dir c C=some (C',M)) : bg M:=by
  unfold bt at h
  repeat' split at h
  all_goals first | (cases h;done) | obtain⟨rfl,rfl⟩:=bj h
  · exact dH _ rfl rfl rfl rfl rfl
  · exact fc (Nat.zero_le _) (Nat.zero_le _) (((Sh.refl C).bytes.need).bR _ hl) rfl rfl
  · exact dH _ rfl rfl rfl rfl rfl
  · refine fc (Nat.zero_le _) ?_ (Nat.zero_le _) rfl rfl
    show((Ca C).getD []).length≤2016
    cases hu:Ca C with
    | none=>simp
    | some l =>
      have h1:=tb hu
      have h2:((qC C).bytesR (zt C)).length≤252:=((AX C 1968).bytes.need).bR _ hl
      simp only[Option.getD_some]
      omega
  · exact dH _ rfl rfl rfl rfl rfl
theorem xk{dir c:Int}{C C':aF}{M:b7}(hl:C.l.length≤252)(h:ci dir c C=some (C',M)) : bg M:=by
  unfold ci at h
  repeat' split at h
  all_goals first | (cases h;done) | obtain⟨rfl,rfl⟩:=bj h
  · exact dH _ rfl rfl rfl rfl rfl
  · exact fc (((Sh.refl C).bytes.need).wR _ hl) (Nat.zero_le _) (Nat.zero_le _) rfl rfl
  · exact dH _ rfl rfl rfl rfl rfl
  · exact fc (((nh (Sh.refl C).words _ _).bytes.need).wR _ hl) (Nat.zero_le _) (Nat.zero_le _) rfl rfl
  · exact dH _ rfl rfl rfl rfl rfl
  · exact dH _ rfl rfl rfl rfl rfl
  · exact fc (((nh (nh (Sh.refl C).words _ _).words _ _).bytes.need).wR _ hl) (Nat.zero_le _) (Nat.zero_le _) rfl rfl
  · exact fc (((Sh.refl C).bytes.need).wR _ hl) (Nat.zero_le _) (Nat.zero_le _) rfl rfl
  · exact dH _ rfl rfl rfl rfl rfl
  · exact fc ((((Sh.refl C).words.need).words.need).wR _ hl) (Nat.zero_le _) (Nat.zero_le _) rfl rfl
theorem xN{dir c:Int}{C C':aF}{M:b7}(hl:C.l.length≤252)(h:bE dir c C=some (C',M)) : bg M:=by
  unfold bE at h
  repeat' split at h
  all_goals first | (cases h;done) | obtain⟨rfl,rfl⟩:=bj h
  · unfold eH
    split
    · exact fc (((Sh.refl C).words.need).wR _ hl) (Nat.zero_le _) (Nat.zero_le _) rfl rfl
    · exact fc (((Sh.refl C).words.need.need).wR _ hl) (Nat.zero_le _) (Nat.zero_le _) rfl rfl
  · unfold cC
    have h1:Sh C (gq C 6 70):=(Sh.refl C).bytes.need
    have h2:Sh C (dN (gq C 6 70)):=h1.words.need
    repeat' split
    · exact dH _ rfl rfl rfl rfl rfl
    · exact dH _ rfl rfl rfl rfl rfl
    · exact fc (Nat.zero_le _) (Nat.zero_le _) (h2.words.words.bR _ hl) rfl rfl
    · exact fc (Nat.zero_le _) (Nat.zero_le _) (Sh.bR (C:=gq C 1 251) ((Sh.refl C).bytes.need) _ hl) rfl rfl
    · exact dH _ rfl rfl rfl rfl rfl
  · exact dH _ rfl rfl rfl rfl rfl
theorem qU:∀ (L:List Obj),2*L.length≤(ft L).length∧∀ o,o∈L→o.value.length≤(ft L).length
  | []=>⟨by simp[ft],fun o h=>nomatch h⟩
  | x :: L=>by
    obtain⟨h1,h2⟩:=qU L
    have h3:(ft (x :: L)).length=2+x.value.length+(ft L).length:=by simp[ft];omega
    refine⟨by rw[h3,List.length_cons];omega,fun o ho=>?_⟩
    rcases List.mem_cons.1 ho with rfl|ho
    · omega
    · have:=h2 o ho
      omega
theorem Bc{dir c:Int}{C C':aF}{M:b7}(hd:dir=0∨dir=1)(hr:gZ C)(hl:C.l.length≤252)(h:cn dir c C=some (C',M))(he:C'.endC.e=0) : bg M:=by
  have hb:=zg hd hr h he
  have hA:Sh C (ex C):=(Sh.refl C).bytes.need
  unfold cn at h
  repeat' split at h
  all_goals first | (cases h;done) | obtain⟨rfl,rfl⟩:=bj h
  · exact fc (Nat.zero_le _) (Nat.zero_le _) (Sh.bR (C:=jM C) hA.need _ hl) rfl rfl
  · rename_i hm hc
    obtain rfl:dir=1:=by simpa using hc
    unfold dm at hb
    rw[if_neg (show ¬ (C.byteV==13)=true from hm),if_neg (by decide)] at hb
    have h1:=congrArg List.length hb
    rw[List.length_append] at h1
    obtain⟨h2,h3⟩:=qU (du (ex C).byteV (ec C)).2
    have h1:6+(ft (du (ex C).byteV (ec C)).2).length=C.l.length:=h1
    refine⟨Nat.zero_le _,Nat.zero_le _,Nat.zero_le _,Nat.zero_le _,(fun r h=>nomatch h),?_,?_⟩
    · show(du (ex C).byteV (ec C)).2.length≤128
      omega
    · intro o ho
      have:=h3 o ho
      omega
  · exact dH _ rfl rfl rfl rfl rfl
theorem m6{dir code:Int}:∀ (L:List et),(∀ r,r∈L→4≤(fP dir code r).length)→4*L.length≤(cm dir code L).length∧∀ r,r∈L→r.words.length≤(cm dir code L).length
  | [],_=>⟨by simp[cm],fun o h=>nomatch h⟩
  | x :: L,h=>by
    obtain⟨h1,h2⟩:=m6 L fun r hr=>h r (by simp[hr])
    have h3:(cm dir code (x :: L)).length=(fP dir code x).length+(cm dir code L).length:=by simp[cm]
    have h4:=h x (by simp)
    have h5:x.words.length≤(fP dir code x).length:=by
      have:=aE x.words
      unfold fP
      rw[List.length_append]
      omega
    refine⟨by rw[h3,List.length_cons];omega,fun o ho=>?_⟩
    rcases List.mem_cons.1 ho with rfl|ho
    · omega
    · have:=h2 o ho
      omega
theorem qn{one:Int→aF→Int × aF × et}{P:et→Prop}{dir code:Int}(hE:∀ s C,cP C (fP dir code (one s C).2.2) (one s C).2.1)(hP:∀ s C,gZ C→(one s C).2.1.e=0→P (one s C).2.2) :
    ∀ (n:Nat) (s:Int) (C:aF) (L:List et),gZ C→(bB one n s C L).1.e=0→(∀ r,r∈L→P r)→∀ r,r∈(bB one n s C L).2→P r
  | 0,s,C,L,_,_,h=>h
  | n+1,s,C,L,hr,he,h=>by
    unfold bB at he ⊢
    split at he
    · rename_i hc
      rw[if_pos hc]
      split at he
      · rename_i hn
        rw[he] at hn
        cases hn
      · rename_i hn
        rw[if_neg hn]
        have h4:(one s C).2.1.e=0:=by simpa using hn
        exact qn hE hP n _ _ _ ((hE s C) hr).1 he fun r hr'=>by
          rcases List.mem_append.1 hr' with h5|h5
          · exact h r h5
          · rw[List.mem_singleton.1 h5]
            exact hP s C hr h4
    · rename_i hc
      rw[if_neg hc]
      exact h
theorem BX(s:Int)(C:aF)(hr:gZ C)(he:(dp s C).2.1.e=0) : 4≤(fP 1 20 (dp s C).2.2).length:=by
  have hE1:cP C _ (lz C):=(cP.refl C).byte.need
  have hE2:cP C _ (gy C):=hE1.byte.need
  obtain⟨h1,_,h2⟩:=jT (hE2 hr).1 (show((gy C).wordsC (Int.tdiv (C.byteV-1) 2)).e=0 from he)
  obtain⟨h3,_⟩:=fx (by decide) h1
  obtain⟨_,h6⟩:=fx (by decide) (gV h3).1
  simp only[Bool.and_eq_true,decide_eq_true_eq,beq_iff_eq] at h6
  rw[Int.tdiv_eq_ediv_of_nonneg (by omega)] at h2
  have h7:=aE ((gy C).wordsR (Int.tdiv (C.byteV-1) 2))
  show 4≤([_,6]++aV ((gy C).wordsR (Int.tdiv (C.byteV-1) 2))).length
  rw[List.length_append,h7,Int.tdiv_eq_ediv_of_nonneg (by omega)]
  simp only[List.length_cons,List.length_nil]
  omega
theorem xl(dir code:Int)(r:et)(h:(code==20&&dir==1)=false) : 4≤(fP dir code r).length:=by
  unfold fP
  rw[h]
  simp[aV]
theorem jw{one:Int→aF→Int × aF × et}{dir code:Int}(hl:∀ s C,0<C.l.length→(one s C).2.1.l.length<C.l.length)(hE:∀ s C,cP C (fP dir code (one s C).2.2) (one s C).2.1)
    (hP:∀ s C,gZ C→(one s C).2.1.e=0→4≤(fP dir code (one s C).2.2).length) {may:Int→Bool} {c:Int} {C:aF} (hr:gZ C) (hl':C.l.length≤252)
    (he:(eb one may c C).1.endC.e=0) : bg (eb one may c C).2:=by
  have hb:=jf hl hE hr he
  have h1:=congrArg List.length hb
  rw[List.length_append] at h1
  have h1:1+(cm dir code (nU one may C).2).length=C.l.length:=h1
  have h2:(nU one may C).1.e=0:=by
    unfold aF.endC at he
    obtain⟨h0,_⟩:=fx (by decide) he
    unfold eb at h0
    by_cases hz:(nU one may C).1.e=0
    · exact hz
    · have hw:ei (nU one may C).1.e≠0:=by
        unfold ei
        split
        · decide
        · exact hz
      simpa using (fx hw h0).2
  have hB:gZ (xO may C):=fun x hx=>hr x (by
    have h5:x∈(ul may C).l:=by
      have:x∈(ul may C).bytesR C.byteV:=hx
      unfold aF.bytesR at this
      split at this
      · cases this
      · exact List.mem_of_mem_take this
    have h6:x∈(C.bytesC 1).l:=by unfold ul at h5;rwa [kY] at h5
    unfold aF.bytesC at h6
    split at h6
    · rw[kY] at h6
      cases h6
    · exact List.mem_of_mem_drop h6)
  have h3:=qn (P:=fun r=>4≤(fP dir code r).length) hE hP (xO may C).l.length 0 (xO may C) [] hB h2 (fun r h=>nomatch h)
  obtain⟨h4,h5⟩:=m6 (dir:=dir) (code:=code) (nU one may C).2 h3
  refine⟨Nat.zero_le _,Nat.zero_le _,Nat.zero_le _,?_,?_,Nat.zero_le _,(fun r h=>nomatch h)⟩
  · show(nU one may C).2.length≤64
    omega
  · intro r hr'
    have:=h5 r hr'
    omega
theorem ur{dir c:Int}{C C':aF}{M:b7}(hd:dir=0∨dir=1)(hr:gZ C)(hl:C.l.length≤252)(h:bG dir c C=some (C',M))(he:C'.endC.e=0) : bg M:=by
  unfold bG at h
  split at h
  · rename_i hc
    obtain rfl:c=20:=by simpa using hc
    rcases hd with rfl|rfl
    · have h:some (eb fl m9 20 C)=some (C',M):=h
      obtain⟨rfl,rfl⟩:=bj h
      exact jw pa ua (fun _ _ _ _=>xl _ _ _ rfl) hr hl he
    · have h:some (eb dp mi 20 C)=some (C',M):=h
      obtain⟨rfl,rfl⟩:=bj h
      exact jw mS uk BX hr hl he
  split at h
  · rename_i hc
    obtain rfl:c=21:=by simpa using hc
    obtain⟨rfl,rfl⟩:=bj h
    exact jw p4 (tA dir) (fun _ _ _ _=>xl _ _ _ rfl) hr hl he
  · cases h
theorem dz:bg b7.zero:=dH _ rfl rfl rfl rfl rfl
theorem ga{form:Int→Int→aF→Option (aF × b7)}(hf:∀ {dir c:Int}{C C':aF}{M:b7},(dir=0∨dir=1)→gZ C→C.l.length≤252→form dir c C=some (C',M)→C'.endC.e=0→bg M)
    {dir c:Int} {b:List Int} {M:b7} {E:Int} (hr:∀ x,x∈b→0≤x∧x<256) (hl:b.length≤252) (h:aL form dir c b=(M,E)) : bg M∧(E≠0→M=b7.zero):=by
  unfold aL at h
  split at h
  · rename_i hd
    split at h
    · injection h with h1 h2
      subst h1 h2
      exact⟨dz,fun _=>rfl⟩
    · rename_i r hr'
      unfold cL at h
      split at h
      · rename_i he
        injection h with h1 h2
        obtain⟨C',M'⟩:=r
        have h1:M'=M:=h1
        subst h1
        exact⟨hf (C:=⟨b,false,0⟩) hd hr hl hr' he,fun hE=>absurd h2.symm hE⟩
      · injection h with h1 h2
        subst h1
        exact⟨dz,fun _=>rfl⟩
  · injection h with h1 h2
    subst h1
    exact⟨dz,fun _=>rfl⟩
theorem wG{k:Nat}{dir:Int}{b:List Int}{M:b7}{E:Int}(hr:∀ x,x∈b→0≤x∧x<256)(hl:b.length≤253)(h:iK k dir b=(M,E)) : bg M∧(E≠0→M=b7.zero):=by
  have hr':∀ x,x∈b.drop 1→0≤x∧x<256:=fun x hx=>hr x (List.mem_of_mem_drop hx)
  have hl':(b.drop 1).length≤252:=by rw[List.length_drop];omega
  unfold iK at h
  split at h
  · exact ga (fun _ _ hl h _=>ve hl h) hr' hl' h
  · exact ga (fun _ _ hl h _=>xk hl h) hr' hl' h
  · exact ga (fun _ _ hl h _=>xN hl h) hr' hl' h
  · exact ga ur hr' hl' h
  · exact ga Bc hr' hl' h
  · injection h with h1 h2
    subst h1
    exact⟨dz,fun _=>rfl⟩
theorem xq{b:List Int}{M:b7}{E:Int}(h:iO b=(M,E)) : bg M∧(E≠0→M=b7.zero):=by
  unfold iO at h
  repeat' split at h
  all_goals (injection h with h1 h2;subst h1)
  all_goals first | exact⟨dz,fun _=>rfl⟩ | exact⟨dH _ rfl rfl rfl rfl rfl,fun hE=>absurd h2.symm hE⟩
theorem m5{dir:Int}{b:List Int}{M:b7}{E:Int}(hr:∀ x,x∈b→0≤x∧x<256)(h:db dir b=(M,E)) : bg M∧(E≠0→M=b7.zero):=by
  unfold db at h
  split at h
  · injection h with h1 h2;subst h1;exact⟨dz,fun _=>rfl⟩
  split at h
  · injection h with h1 h2;subst h1;exact⟨dz,fun _=>rfl⟩
  split at h
  · injection h with h1 h2;subst h1;exact⟨dz,fun _=>rfl⟩
  rename_i h3
  simp only[decide_eq_true_eq] at h3
  split at h
  · exact xq h
  · exact wG hr (by omega) h
open Go.RowKit
theorem E0{a:Int}{r:List Int}(ha:0≤a∧a<65536) : (aF.mk (aV [a]++r) false 0).wordV=a∧(aF.mk (aV [a]++r) false 0).wordsC 1=⟨r,false,0⟩:=by
  have hb:(aF.mk (aV [a]++r) false 0).wbad 1=false:=by
    unfold aF.wbad
    simp only[aV,List.length_append,List.length_cons,List.length_nil,Bool.or_eq_false_iff,decide_eq_false_iff_not]
    omega
  have hf:(aF.mk (aV [a]++r) false 0).fails (2*1)=false:=by
    unfold aF.fails
    simp[aV]
    omega
  constructor
  · unfold aF.wordV aF.wordsR aF.bytesR
    rw[hb,hf]
    show(ed [a/256,a%256]).getD 0 0=a
    unfold ed
    rw[if_pos (by simp)]
    show a/256*256+a%256=a
    omega
  · unfold aF.wordsC aF.bytesC
    rw[hb,hf]
    rfl
end Go.Proofs.YtdkhbcefkfgbdaaGreat
namespace Go.Proofs.YtdkhbcefkfgbdaaGreat
theorem gg(u:Int)(l:List Int) : (kx u l).length=3+l.length:=by simp[kx,bX];omega
theorem ja{dir u t:Int}{M:b7}{b:List Int}(h:gK dir u t M=some b) : t=0∧∃ l,dc dir M=some l∧b=kx u l∧l.length≤253:=by
  unfold gK at h
  split at h
  · cases h
  · rename_i l hl
    have hle:=gW hl
    split at h
    · cases h
    · rename_i ht
      injection h with h
      exact⟨by simpa using ht,l,hl,h.symm,hle⟩
theorem u2{dir u t:Int}{M:b7}{b:List Int}(hc:0≤M.code∧M.code<256)(h:gK dir u t M=some b) : 4≤b.length∧b.length≤256:=by
  obtain⟨_,l,h1,rfl,h2⟩:=ja h
  have:=fH hc h1
  rw[gg]
  omega
theorem o0(u:Int)(l:List Int) : (kx u l).take ((kx u l).length-2)=[u]++l:=by
  rw[gg,show 3+l.length-2=([u]++l).length from by simp;omega]
  exact List.take_left' rfl
theorem vX(u:Int)(l:List Int) : (kx u l).drop ((kx u l).length-2)=bX (cO 65535 ([u]++l)):=by
  rw[gg,show 3+l.length-2=([u]++l).length from by simp;omega]
  exact List.drop_left' rfl
theorem An(u:Int)(l:List Int) : eC (kx u l)=true:=by
  unfold eC
  rw[o0,vX,gg]
  simp only[decide_true,Bool.and_true,decide_eq_true_eq]
  omega
theorem wI(u:Int)(l:List Int) : gD (kx u l)=l:=by
  unfold gD
  rw[o0]
  rfl
theorem BU{dir u:Int}{l:List Int}(hd:dir=0∨dir=1)(h:0<l.length)(h2:l.length≤253) : eN dir (kx u l)=di u 0 (db dir l):=by
  unfold eN
  rw[An,wI]
  rw[if_neg (show ¬ (dir != 0&&dir != 1)=true by rcases hd with rfl | rfl<;>decide),if_neg (by rw[gg];simp only[decide_eq_true_eq];omega),if_neg (by rw[gg];simp only[decide_eq_true_eq];omega),if_neg (by decide)]
  rfl
theorem CD{dir u t:Int}{M:b7}{b:List Int}(hd:dir=0∨dir=1)(hc:0≤M.code∧M.code<256)(hf:0≤M.fail∧M.fail<256)(h:gK dir u t M=some b) : eN dir b=(⟨u,t,M⟩,0):=by
  obtain⟨rfl,l,h1,rfl,h2⟩:=ja h
  rw[BU hd (fH hc h1) h2,s4 hd hc hf h1]
  rfl
theorem xw{b:List Int}(hl:3≤b.length)(h:eC b=true) : ∃ u l,b=kx u l:=by
  unfold eC at h
  rw[Bool.and_eq_true,decide_eq_true_eq,decide_eq_true_eq] at h
  obtain⟨h1,h2⟩:=h
  cases hb:b.take (b.length-2) with
  | nil =>
    have:=congrArg List.length hb
    rw[List.length_take,List.length_nil] at this
    omega
  | cons u l =>
    refine⟨u,l,?_⟩
    conv=>lhs;rw[← List.take_append_drop (b.length-2) b,← h2,hb]
    rfl
theorem yM{dir:Int}{b:List Int}{F:aM}{E:Int}(hr:∀ x,x∈b→0≤x∧x<256)(h:eN dir b=(F,E)) : bg F.msg∧(E≠0→F=aM.zero):=by
  have hz:∀ k:Int,((aM.zero,k) : aM × Int)=(F,E)→bg F.msg∧(E≠0→F=aM.zero):=fun k h=>by
    injection h with h1 h2
    subst h1
    exact⟨dz,fun _=>rfl⟩
  unfold eN at h
  split at h
  · exact hz _ h
  split at h
  · exact hz _ h
  split at h
  · exact hz _ h
  split at h
  · exact hz _ h
  cases hp:db dir (gD b) with
  | mk M E' =>
    rw[hp] at h
    obtain⟨k1,k2⟩:=m5 (fun x hx=>hr x (List.mem_of_mem_take (List.mem_of_mem_drop hx))) hp
    have h:(if (E' != 0)=true then ((aM.zero,E') : aM × Int) else (⟨_,_,M⟩,0))=(F,E):=h
    split at h
    · exact hz _ h
    · injection h with h5 h6
      subst h5
      exact⟨k1,fun hE=>absurd h6.symm hE⟩
theorem yv{dir:Int}{b:List Int}{F:aM}{E:Int}{r:Option (List Int)}(hd:dir=0∨dir=1)(hr:∀ x,x∈b→0≤x∧x<256)(h:eN dir b=(F,E))(hE:(E==0)=true)(hW:gK dir F.unit F.tid F.msg=r) : r=some b∧4≤b.length∧b.length≤256:=by
  obtain rfl:E=0:=by simpa using hE
  unfold eN at h
  split at h
  · cases h
  split at h
  · cases h
  split at h
  · cases h
  split at h
  · cases h
  rename_i h1 h2 h3 h4
  simp only[decide_eq_true_eq] at h2 h3
  have h4:eC b=true:=by simpa using h4
  obtain⟨u,l,rfl⟩:=xw (by omega) h4
  rw[wI] at h
  have h:di u 0 (db dir l)=(F,0):=h
  cases hp:db dir l with
  | mk M E' =>
    rw[hp] at h
    have h:(if (E' != 0)=true then ((aM.zero,E') : aM × Int) else (⟨_,_,M⟩,0))=(F,0):=h
    split at h
    · rename_i h5
      injection h with _ h6
      subst h6
      cases h5
    · rename_i h5
      injection h with h6 _
      subst h6
      obtain rfl:E'=0:=by simpa using h5
      have h7:=mR hd (fun x hx=>hr x (by unfold kx;simp[hx])) hp
      rw[← hW]
      refine⟨?_,by omega,by omega⟩
      show gK dir u 0 M=_
      unfold gK
      rw[h7]
      simp
open Go.RowKit
theorem bH{m:Md}{cs:Array Value}{M:b7}{w:World}{dir:Int}(h:aH m w cs.toList M)(hf:bg M)(l:List Int)(hX:dc dir M=some l) : d5 l:=by
  obtain⟨e,w',_,hR,_⟩:=fb (dir:=dir) h hf []
  rw[hX] at hR
  obtain⟨v,_,ho,_⟩:=hR
  exact aW.range ho.rd
def mM (u:Int)(l:List Int) : List Int:=([u]++l)++[dh ([u]++l)]
theorem i9(u:Int)(l:List Int) : (mM u l).length=l.length+2:=by simp[mM]
theorem ml(u:Int)(l:List Int) : t6 u l=([58]++dD (mM u l))++[13,10]:=rfl
theorem pJ(u:Int)(l:List Int) : (t6 u l).length=2*l.length+7:=by
  rw[ml]
  simp only[List.length_append,List.length_cons,List.length_nil,dM,i9]
  omega
theorem oz{u:Int}{l:List Int}(hu:0≤u∧u<256)(hl:d5 l) : d5 (mM u l):=by
  refine kz (kz ?_ hl) ?_
  · intro x hx;rw[List.mem_singleton] at hx;rw[hx];exact hu
  · intro x hx;rw[List.mem_singleton] at hx;rw[hx];exact la _
theorem hH{dir u t:Int}{M:b7}{b:List Int}(h:gM dir u t M=some b) : t=0∧∃ l,dc dir M=some l∧b=t6 u l∧l.length≤253:=by
  unfold gM at h
  split at h
  · cases h
  · rename_i l hl
    have hle:=gW hl
    split at h
    · cases h
    · rename_i ht
      injection h with h
      exact⟨by simpa using ht,l,hl,h.symm,hle⟩
theorem Bf{dir u t:Int}{M:b7}{b:List Int}(hc:0≤M.code∧M.code<256)(h:gM dir u t M=some b) : 9≤b.length∧b.length≤513:=by
  obtain⟨_,l,h1,rfl,h2⟩:=hH h
  have:=fH hc h1
  rw[pJ]
  omega
theorem ql(s:List Int) : (([58]++s)++[13,10]).drop 1=s++[13,10]:=rfl
theorem zP(s:List Int) : gl (s++[13,10])=true:=by
  unfold gl
  have e:(((s++[13,10]).length:Nat) : Int)=(s.length:Int)+2:=by simp
  have e2:((s.length:Int)+2-2).toNat=s.length:=by omega
  rw[e,e2,List.drop_left' rfl]
  simp
  omega
theorem yH(s:List Int) : iR (([58]++s)++[13,10])=some s:=by
  rw[yE rfl (by rw[ql];exact zP s),ql]
  have e:(([58]++s)++[13,10]).length-3=s.length:=by simp
  rw[e,List.take_left' rfl]
theorem xB{b s:List Int}(h:iR b=some s) : b=([58]++s)++[13,10]:=by
  obtain⟨h1,h2,rfl,h3⟩:=l7 h
  cases b with
  | nil=>simp at h3
  | cons a r =>
    have ha:a=58:=h1
    subst ha
    have h2:gl r=true:=h2
    have h4:=my h2
    unfold gl at h2
    simp only[Bool.and_eq_true,decide_eq_true_eq] at h2
    have h5:=h2.2
    rw[show(((r.length:Nat) : Int)-2).toNat=r.length-2 from by omega] at h5
    show 58 :: r=58 :: (r.take ((58 :: r).length-3)++[13,10])
    rw[show(58 :: r).length-3=r.length-2 from by simp only[List.length_cons];omega,← h5,List.take_append_drop]
theorem ra(a b:List Int) : ∀ k,k≤a.length→ki (a++b) k=ki a k
  | 0,_=>rfl
  | k+1,h=>by
    unfold ki
    rw[ra a b k (by omega),List.getD_eq_getElem?_getD,List.getD_eq_getElem?_getD,List.getElem?_append_left (by omega)]
theorem wu(a:List Int)(c:Int) : sJ (a++[c])=(sJ a+c)%256:=by
  unfold sJ
  have e:(a++[c]).length=a.length+1:=by simp
  rw[e]
  show(ki (a++[c]) a.length+(a++[c]).getD a.length 0)%256=_
  rw[ra a [c] _ (Nat.le_refl _)]
  simp
theorem mh{a:List Int}{c:Int}(hc:0≤c∧c<256) : fk (a++[c])=true↔c=dh a:=by
  have h:=wM a a.length
  unfold fk dh
  rw[wu]
  have hs:sJ a=ki a a.length:=rfl
  simp only[Bool.and_eq_true,decide_eq_true_eq,beq_iff_eq,List.length_append,List.length_cons,List.length_nil]
  constructor
  · intro k;omega
  · intro k;omega
theorem Bd(u:Int)(l:List Int) : fk (mM u l)=true:=(mh (la _)).2 rfl
theorem Cp(u:Int)(l:List Int) : dV (mM u l)=l:=by
  unfold dV
  rw[i9,show l.length+2-1=([u]++l).length from by simp]
  unfold mM
  rw[List.take_left' rfl]
  rfl
theorem BV{dir:Int}{s:List Int}(hd:dir=0∨dir=1)(h:6≤s.length)(h2:s.length≤510) : ee dir (([58]++s)++[13,10])=match bZ s with
      | none=>(aM.zero,11)
      | some x=>if !(fk x) then (aM.zero,10) else di (x.getD 0 0) 0 (db dir (dV x)):=by
  have hl:((([58]++s)++[13,10]).length:Int)=(s.length:Int)+3:=by simp;omega
  unfold ee
  rw[yH,hl]
  rw[if_neg (show ¬ (dir != 0&&dir != 1)=true by rcases hd with rfl | rfl<;>decide),if_neg (by simp only[decide_eq_true_eq];omega),if_neg (by simp only[decide_eq_true_eq];omega)]
  all_goals rfl
theorem CE{dir u:Int}{l:List Int}(hd:dir=0∨dir=1)(hu:0≤u∧u<256)(hb:d5 l)(h:0<l.length)(h2:l.length≤253) : ee dir (t6 u l)=di u 0 (db dir l):=by
  rw[ml,BV hd (by rw[dM,i9];omega) (by rw[dM,i9];omega),nZ _ (oz hu hb)]
  show(if !(fk (mM u l)) then _ else _)=_
  rw[Bd,Cp]
  rfl
theorem CF{dir u t:Int}{M:b7}{b:List Int}(hd:dir=0∨dir=1)(hu:0≤u∧u<256)(hc:0≤M.code∧M.code<256)(hf:0≤M.fail∧M.fail<256)(hb:∀ l,dc dir M=some l→d5 l)(h:gM dir u t M=some b) : ee dir b=(⟨u,t,M⟩,0):=by
  obtain⟨rfl,l,h1,rfl,h2⟩:=hH h
  rw[CE hd hu (hb l h1) (fH hc h1) h2,s4 hd hc hf h1]
  rfl
theorem zw{x:List Int}(h:2≤x.length)(hb:d5 x)(k:fk x=true) : x=mM (x.getD 0 0) (dV x):=by
  have hne:x≠[]:=fun e=>by rw[e] at h;simp at h
  obtain⟨y,c,rfl⟩ : ∃ y c,x=y++[c]:=⟨x.dropLast,x.getLast hne,(List.dropLast_concat_getLast hne).symm⟩
  have hc:=hb c (by simp)
  have h1:=(mh hc).1 k
  cases y with
  | nil=>simp at h
  | cons u l =>
    have e:dV ((u :: l)++[c])=l:=by
      unfold dV
      rw[show((u :: l)++[c]).length-1=(u :: l).length from by simp,List.take_left' rfl]
      rfl
    rw[e]
    show(u :: l)++[c]=([u]++l)++[dh ([u]++l)]
    rw[h1]
    rfl
theorem yZ{dir:Int}{b:List Int}{F:aM}{E:Int}(h:ee dir b=(F,E)) : bg F.msg∧(E≠0→F=aM.zero):=by
  have hz:∀ k:Int,((aM.zero,k) : aM × Int)=(F,E)→bg F.msg∧(E≠0→F=aM.zero):=fun k h=>by
    injection h with h1 h2
    subst h1
    exact⟨dz,fun _=>rfl⟩
  unfold ee at h
  split at h
  · exact hz _ h
  split at h
  · exact hz _ h
  split at h
  · exact hz _ h
  split at h
  · exact hz _ h
  split at h
  · exact hz _ h
  rename_i s _ x hx
  split at h
  · exact hz _ h
  cases hp:db dir (dV x) with
  | mk M E' =>
    rw[hp] at h
    obtain⟨k1,k2⟩:=m5 (fun y hy=>(iu hx).2 y (List.mem_of_mem_take (List.mem_of_mem_drop hy))) hp
    have h:(if (E' != 0)=true then ((aM.zero,E') : aM × Int) else (⟨_,_,M⟩,0))=(F,E):=h
    split at h
    · exact hz _ h
    · injection h with h5 h6
      subst h5
      exact⟨k1,fun hE=>absurd h6.symm hE⟩
theorem xW{dir:Int}{b:List Int}{F:aM}{E:Int}{r:Option (List Int)}(hd:dir=0∨dir=1)(h:ee dir b=(F,E))(hE:(E==0)=true)(hW:gM dir F.unit F.tid F.msg=r) : r=some b∧9≤b.length∧b.length≤513:=by
  obtain rfl:E=0:=by simpa using hE
  unfold ee at h
  split at h
  · cases h
  split at h
  · cases h
  rename_i h2
  split at h
  · cases h
  rename_i h3
  simp only[decide_eq_true_eq] at h2 h3
  cases hs:iR b with
  | none=>rw[hs] at h;cases h
  | some s =>
  rw[hs] at h
  cases hx:bZ s with
  | none=>dsimp only at h;rw[hx] at h;cases h
  | some x =>
  dsimp only at h
  rw[hx] at h
  dsimp only at h
  split at h
  · cases h
  rename_i h4
  have h4:fk x=true:=by simpa using h4
  have hl:=rF hs
  have hxl:=o9 hx
  obtain⟨e1,e2⟩:=iu hx
  have hsh:=zw (by omega) e2 h4
  cases hp:db dir (dV x) with
  | mk M E' =>
    rw[hp] at h
    have h:(if (E' != 0)=true then ((aM.zero,E') : aM × Int) else (⟨_,_,M⟩,0))=(F,0):=h
    split at h
    · rename_i h5
      injection h with _ h6
      subst h6
      cases h5
    · rename_i h5
      injection h with h6 _
      subst h6
      obtain rfl:E'=0:=by simpa using h5
      have h7:dc dir M=some (dV x):=mR hd (fun y hy=>e2 y (List.mem_of_mem_take (List.mem_of_mem_drop hy))) hp
      rw[← hW]
      refine⟨?_,by omega,by omega⟩
      show gM dir (x.getD 0 0) 0 M=_
      unfold gM
      rw[h7]
      show some (t6 _ _)=_
      rw[ml,← hsh,← e1,← xB hs]
open Go.RowKit
end Go.Proofs.YtdkhbcefkfgbdaaGreat
namespace Go.Proofs.YtdkhbcefkfgbdaaGreat
def pV (t z n u:Int)(l:List Int) : List Int:=(aV [t,z,n]++[u])++l
theorem jX(t z n u:Int)(l:List Int) : (pV t z n u l).length=7+l.length:=by simp[pV,aV];omega
theorem EZ(u:Int)(l:List Int) : (aF.mk ([u]++l) false 0).byteV=u∧(aF.mk ([u]++l) false 0).bytesC 1=⟨l,false,0⟩:=by
  have hf:(aF.mk ([u]++l) false 0).fails 1=false:=by
    unfold aF.fails
    simp only[List.length_append,List.length_cons,List.length_nil,Bool.or_eq_false_iff,decide_eq_false_iff_not]
    refine⟨⟨trivial,?_⟩,?_⟩<;>omega
  constructor
  · unfold aF.byteV aF.bytesR
    rw[hf]
    rfl
  · unfold aF.bytesC
    rw[hf]
    rfl
theorem wl(l:List Int) : (aF.mk l false 0).bytesR ((l.length:Nat) : Int)=l:=by
  have hf:(aF.mk l false 0).fails ((l.length:Nat) : Int)=false:=by
    unfold aF.fails
    simp only[Bool.or_eq_false_iff,decide_eq_false_iff_not]
    refine⟨⟨trivial,?_⟩,?_⟩<;>omega
  unfold aF.bytesR
  rw[hf]
  show l.take (l.length:Int).toNat=l
  rw[Int.toNat_natCast,List.take_length]
theorem pF{t z n u:Int}{l:List Int}(ht:0≤t∧t<65536)(hz:0≤z∧z<65536)(hn:0≤n∧n<65536) :
    (wC (pV t z n u l)).wordV=t∧(wB (pV t z n u l)).wordV=z∧(ww (pV t z n u l)).wordV=n∧(wz (pV t z n u l)).byteV=u∧mY (pV t z n u l)=l:=by
  have h1:=E0 (r:=aV [z]++(aV [n]++([u]++l))) ht
  have h2:=E0 (r:=aV [n]++([u]++l)) hz
  have h3:=E0 (r:=[u]++l) hn
  have h4:=EZ u l
  have e0:wC (pV t z n u l)=⟨aV [t]++(aV [z]++(aV [n]++([u]++l))),false,0⟩:=by simp[wC,pV,aV]
  have e1:wB (pV t z n u l)=⟨aV [z]++(aV [n]++([u]++l)),false,0⟩:=by unfold wB;rw[e0];exact h1.2
  have e2:ww (pV t z n u l)=⟨aV [n]++([u]++l),false,0⟩:=by unfold ww;rw[e1];exact h2.2
  have e3:wz (pV t z n u l)=⟨[u]++l,false,0⟩:=by unfold wz;rw[e2];exact h3.2
  have e4:wP (pV t z n u l)=⟨l,false,0⟩:=by unfold wP;rw[e3];exact h4.2
  refine⟨by rw[e0];exact h1.1,by rw[e1];exact h2.1,by rw[e2];exact h3.1,by rw[e3];exact h4.1,?_⟩
  unfold mY
  rw[e4]
  exact wl l
theorem uf{dir t z n u:Int}{l:List Int}(hd:dir=0∨dir=1)(ht:0≤t∧t<65536)(hz:0≤z∧z<65536)(hn:0≤n∧n<65536) :
    cE dir (pV t z n u l)=if decide ((7+l.length:Int)<8) then (aM.zero,2) else if decide (260<(7+l.length:Int)) then (aM.zero,3) else if z != 0 then (aM.zero,13) else if n != (l.length:Int)+1 then (aM.zero,5) else di u t (db dir l):=by
  obtain⟨h0,h1,h2,h3,h4⟩:=pF (u:=u) (l:=l) ht hz hn
  unfold cE
  rw[h0,h1,h2,h3,h4,jX]
  rw[if_neg (show ¬ (dir != 0&&dir != 1)=true by rcases hd with rfl | rfl<;>decide)]
  rw[show((7+l.length:Nat) : Int)=7+(l.length:Int) by omega,show(7+(l.length:Int))-6=(l.length:Int)+1 by omega]
theorem fX{dir u t:Int}{M:b7}{b:List Int}(h:eq dir u t M=some b) : ∃ l,dc dir M=some l∧b=pV t 0 ((l.length:Int)+1) u l∧l.length≤253:=by
  unfold eq at h
  split at h
  · cases h
  · rename_i l hl
    have hle:=gW hl
    injection h with h
    refine⟨l,hl,?_,hle⟩
    rw[← h,Int.emod_eq_of_lt (by omega) (by omega)]
    rfl
theorem pP{dir u t:Int}{M:b7}{b:List Int}(hc:0≤M.code∧M.code<256)(h:eq dir u t M=some b) : 8≤b.length∧b.length≤260:=by
  obtain⟨l,h1,rfl,h2⟩:=fX h
  have:=fH hc h1
  rw[jX]
  omega
theorem zx{dir u t:Int}{M:b7}{b:List Int}(hd:dir=0∨dir=1)(hc:0≤M.code∧M.code<256)(hf:0≤M.fail∧M.fail<256)(ht:0≤t∧t<65536)(h:eq dir u t M=some b) : cE dir b=(⟨u,t,M⟩,0):=by
  obtain⟨l,h1,rfl,h2⟩:=fX h
  have h3:=fH hc h1
  rw[uf hd ht (by decide) (by omega),s4 hd hc hf h1]
  rw[if_neg (by simp only[decide_eq_true_eq];omega),if_neg (by simp only[decide_eq_true_eq];omega),if_neg (by decide),if_neg (by simp)]
  rfl
theorem D1{a b c d e f:Int}(ha:0≤a∧a<256)(hb:0≤b∧b<256)(hc:0≤c∧c<256)(hd:0≤d∧d<256)(he:0≤e∧e<256)(hf:0≤f∧f<256) : aV [a*256+b,c*256+d,e*256+f]=[a,b,c,d,e,f]:=by
  simp only[aV]
  congr 1
  · omega
  congr 1
  · omega
  congr 1
  · omega
  congr 1
  · omega
  congr 1
  · omega
  congr 1
  omega
theorem qz{b:List Int}(hr:∀ x,x∈b→0≤x∧x<256)(hl:8≤b.length) : ∃ t z n u l,b=pV t z n u l∧(0≤t∧t<65536)∧(0≤z∧z<65536)∧(0≤n∧n<65536)∧∀ x,x∈l→0≤x∧x<256:=by
  match b,hr,hl with
  | a0 :: a1 :: a2 :: a3 :: a4 :: a5 :: u :: l,hr,_ =>
    have h0:=hr a0 (by simp)
    have h1:=hr a1 (by simp)
    have h2:=hr a2 (by simp)
    have h3:=hr a3 (by simp)
    have h4:=hr a4 (by simp)
    have h5:=hr a5 (by simp)
    refine⟨a0*256+a1,a2*256+a3,a4*256+a5,u,l,?_,by omega,by omega,by omega,fun x hx=>hr x (by simp[hx])⟩
    unfold pV
    rw[D1 h0 h1 h2 h3 h4 h5]
    rfl
theorem uP{dir:Int}{b:List Int}{F:aM}{E:Int}(hr:∀ x,x∈b→0≤x∧x<256)(h:cE dir b=(F,E)) : bg F.msg∧(E≠0→F=aM.zero):=by
  have hz:∀ k:Int,((aM.zero,k) : aM × Int)=(F,E)→bg F.msg∧(E≠0→F=aM.zero):=fun k h=>by
    injection h with h1 h2
    subst h1
    exact⟨dz,fun _=>rfl⟩
  unfold cE at h
  split at h
  · exact hz _ h
  split at h
  · exact hz _ h
  split at h
  · exact hz _ h
  split at h
  · exact hz _ h
  split at h
  · exact hz _ h
  rename_i _ h8 _ _ _
  simp only[decide_eq_true_eq] at h8
  obtain⟨t,z,n,u,l,rfl,ht,hz',hn,hl⟩:=qz hr (by omega)
  obtain⟨h0,h1,h2,h3,h4⟩:=pF (u:=u) (l:=l) ht hz' hn
  rw[h4] at h
  cases hp:db dir l with
  | mk M E' =>
    rw[hp] at h
    obtain⟨k1,k2⟩:=m5 hl hp
    have h:(if (E' != 0)=true then ((aM.zero,E') : aM × Int) else (⟨_,_,M⟩,0))=(F,E):=h
    split at h
    · exact hz _ h
    · injection h with h5 h6
      subst h5
      exact⟨k1,fun hE=>absurd h6.symm hE⟩
theorem vH{dir:Int}{b:List Int}{F:aM}{E:Int}{r:Option (List Int)}(hd:dir=0∨dir=1)(hr:∀ x,x∈b→0≤x∧x<256)(h:cE dir b=(F,E))(hE:(E==0)=true)(hW:eq dir F.unit F.tid F.msg=r) : r=some b∧8≤b.length∧b.length≤260:=by
  obtain rfl:E=0:=by simpa using hE
  by_cases h8:8≤b.length
  · obtain⟨t,z,n,u,l,rfl,ht,hz',hn,hl⟩:=qz hr h8
    rw[uf hd ht hz' hn] at h
    split at h
    · cases h
    split at h
    · cases h
    split at h
    · cases h
    split at h
    · cases h
    rename_i h1 h2 h3 h4
    simp only[decide_eq_true_eq] at h1 h2
    simp only[bne_iff_ne,ne_eq,Decidable.not_not] at h3 h4
    cases hp:db dir l with
    | mk M E' =>
      rw[hp] at h
      have h:(if (E' != 0)=true then ((aM.zero,E') : aM × Int) else (⟨_,_,M⟩,0))=(F,0):=h
      split at h
      · rename_i h5
        injection h with _ h6
        subst h6
        cases h5
      · rename_i h5
        injection h with h6 _
        subst h6
        obtain rfl:E'=0:=by simpa using h5
        have h7:=mR hd hl hp
        rw[← hW]
        refine⟨?_,h8,by rw[jX];omega⟩
        show eq dir u t M=_
        unfold eq
        rw[h7]
        show some ((aV [t,0,((l.length:Int)+1)%65536]++[u])++l)=_
        rw[h3,h4,Int.emod_eq_of_lt (by omega) (by omega)]
        rfl
  · exfalso
    unfold cE at h
    split at h
    · cases h
    rw[if_pos (by simp only[decide_eq_true_eq];omega)] at h
    cases h
theorem wd{dir u t:Int}{M:b7}{b:List Int}(hc:0≤M.code∧M.code<256)(h:eq dir u t M=some b) : b.getD 6 0=u∧b.getD 2 0=0∧b.getD 3 0=0∧256*b.getD 4 0+b.getD 5 0=(b.length:Int)-6∧((M.fail != 0)=false→b.getD 7 0=M.code):=by
  obtain⟨l,h1,rfl,h2⟩:=fX h
  refine⟨rfl,rfl,rfl,?_,fun hf=>?_⟩
  · rw[jX]
    show 256*(((l.length:Int)+1)/256)+((l.length:Int)+1)%256=_
    omega
  · have:=zc hc h1 hf
    have h3:=fH hc h1
    cases l with
    | nil=>simp at h3
    | cons a r=>exact this
open Go.RowKit
theorem jj{k dir u t:Int}{M:b7}{b:List Int}(h:gf k dir u t M=some b) : (k=0∨k=1∨k=2)∧(k≠2→t=0)∧∃ l,dc dir M=some l∧l.length≤253:=by
  revert h
  refine k4 k (fun e=>?_) (fun e=>?_) (fun e=>?_) (fun h0 h1 h2=>?_)
  · subst e;intro h;obtain⟨h1,l,h2,_,h3⟩:=ja h;exact⟨.inl rfl,fun _=>h1,l,h2,h3⟩
  · subst e;intro h;obtain⟨h1,l,h2,_,h3⟩:=hH h;exact⟨.inr (.inl rfl),fun _=>h1,l,h2,h3⟩
  · subst e;intro h;obtain⟨l,h2,_,h3⟩:=fX h;exact⟨.inr (.inr rfl),fun h=>absurd rfl h,l,h2,h3⟩
  · rw[rT h0 h1 h2];intro h;cases h
theorem tC{k dir u t:Int}{M:b7}{l:List Int}(hk:k=0∨k=1∨k=2)(ht:k≠2→t=0)(h:dc dir M=some l) : ∃ b,gf k dir u t M=some b:=by
  rcases hk with rfl|rfl|rfl
  · obtain rfl:=ht (by decide);show ∃ b,gK dir u 0 M=some b;unfold gK;rw[h];exact⟨kx u l,by simp⟩
  · obtain rfl:=ht (by decide);show ∃ b,gM dir u 0 M=some b;unfold gM;rw[h];exact⟨t6 u l,by simp⟩
  · show ∃ b,eq dir u t M=some b;unfold eq;rw[h];exact⟨_,rfl⟩
theorem lL{k dir u t:Int}{M:b7}{b:List Int}(hc:0≤M.code∧M.code<256)(h:gf k dir u t M=some b) : 4≤b.length∧(b.length:Int)≤xf k∧b.length≤513:=by
  rcases(jj h).1 with rfl|rfl|rfl
  · have:=u2 hc h;show 4≤b.length∧(b.length:Int)≤256∧_;omega
  · have:=Bf hc h;show 4≤b.length∧(b.length:Int)≤513∧_;omega
  · have:=pP hc h;show 4≤b.length∧(b.length:Int)≤260∧_;omega
theorem yo{k dir:Int}{b:List Int}{F:aM}{E:Int}(hr:∀ x,x∈b→0≤x∧x<256)(h:mQ k dir b=(F,E)) : bg F.msg∧(E≠0→F=aM.zero):=by
  revert h
  refine k4 k (fun e=>?_) (fun e=>?_) (fun e=>?_) (fun h0 h1 h2=>?_)
  · subst e;exact yM hr
  · subst e;exact yZ
  · subst e;exact uP hr
  · rw[xS h0 h1 h2];intro h;injection h with e1 e2;subst e1 e2;exact⟨dz,fun _=>rfl⟩
theorem xy{k dir:Int}{b:List Int}{F:aM}(hd:dir=0∨dir=1)(hr:∀ x,x∈b→0≤x∧x<256)(h:mQ k dir b=(F,0)) : gf k dir F.unit F.tid F.msg=some b:=by
  revert h
  refine k4 k (fun e=>?_) (fun e=>?_) (fun e=>?_) (fun h0 h1 h2=>?_)
  · subst e;intro h;exact(yv hd hr h rfl rfl).1
  · subst e;intro h;exact(xW hd h rfl rfl).1
  · subst e;intro h;exact(vH hd hr h rfl rfl).1
  · rw[xS h0 h1 h2];intro h;injection h with e1 e2;cases e2
theorem wL{k:Int}(h:k=0∨k=1∨k=2) : (xf k==0)=false:=by rcases h with rfl | rfl | rfl<;>rfl
open Go.RowKit
def DN (a c next was:Int)(bN:Nat)(w:World)(e:Ending)(w':World) : Prop:=e = .returned (.int .u16 (dR a c next was))∧w'.heap[bN]? = some (.cells #[.int .u16 (kU a c next)] 37 (0,0))∧ay [bN] w w'
theorem zk{w:World}{bT bF bN:Nat}{a c next was:Int}(hT:w.heap[bT]? = some (.cells #[vI c] 3 (0,0)))(hF:w.heap[bF]? = some (.cells #[vI a] 3 (0,0)))(hN:w.heap[bN]? = some (.cells #[vW next] 37 (0,0)))(hr:0≤next∧next<65536)(hw:0≤was∧was<65536) : Calls Tryz.prog 92 #[vW was,vP bT 0,vP bF 0,vP bN 0] w (DN a c next was bN w):=by
 refine en 17 Tryz.func92 rfl<|aB 1<|sq<|bk<|sg<|aD hT 0<|al 2<|cb ((c != 2)) (fun b=>?_) (fun b=>?_)
 have f:=aR b
 refine aB 1<|rt<|br<|tr<|rr (vW 0)<|?_
 have h1:dR a c next was=0:=by unfold dR;simp only[b,cond_true,cond_false]
 have h2:kU a c next=next:=by unfold kU;simp only[b,cond_true,cond_false]
 unfold DN
 rw[h1,h2]
 exact⟨rfl,hN,(ay.mono (S':=[bN]) (ay.refl [] _) aC)⟩
 have f:=aZ b
 refine sg<|aD hF 0<|al 2<|cb ((a==2)) (fun d=>?_) (fun d=>?_)
 have g:=aI d
 refine aB 2<|rt<|br<|tr<|rr (vW was)<|?_
 have h1:dR a c next was=was:=by unfold dR;simp only[b,d,cond_true,cond_false]
 have h2:kU a c next=next:=by unfold kU;simp only[b,d,cond_true,cond_false]
 unfold DN
 rw[h1,h2]
 exact⟨rfl,hN,(ay.mono (S':=[bN]) (ay.refl [] _) aC)⟩
 have g:=aS d
 refine sk<|bn<|tn<|sg<|aD hN 0<|Pl 1<|L0<|cA hN 0 #[vW ((next+1)%65536)] fun i e h=>ng<|aD e 0<|Pl 2<|nl<|tn<|rt<|rr (vW ((((next+1)%65536)-1)%65536))<|?_
 have h1:dR a c next was=((((next+1)%65536)-1)%65536):=by unfold dR;simp only[b,d,cond_true,cond_false];omega
 have h2:kU a c next=((next+1)%65536):=by unfold kU;simp only[b,d,cond_true,cond_false]
 unfold DN
 rw[h1,h2]
 exact⟨rfl,e,h⟩
def F2 (a c:Int)(w:World)(e:Ending)(w':World) : Prop:=∃ bT bF bN,e = .returned (.func (.func 92) #[] #[.pointer (some ⟨bT,0,none⟩),.pointer (some ⟨bF,0,none⟩),.pointer (some ⟨bN,0,none⟩)])∧w.heap.size≤bT∧w.heap.size≤bF∧w.heap.size≤bN∧w'.heap[bT]? = some (.cells #[.int .i64 c] 3 (0,0))∧w'.heap[bF]? = some (.cells #[.int .i64 a] 3 (0,0))∧w'.heap[bN]? = some (.cells #[.int .u16 0] 37 (0,0))∧ay [] w w'
theorem uA{w:World}{a c:Int}:Calls Tryz.prog 71 #[vI a,vI c] w (F2 a c w):=by
 refine en 7 Tryz.func71 rfl<|sg<|L0<|cX #[vI a] fun d s k l b=>L0<|cX #[vI c] fun e t m n f=>Pl 1<|ng<|aO #[vW 0] fun g u h o p=>L0<|cA o 0 #[vW 0] fun v q r=>nt<|aB 2<|rt<|rr (.func (.func 92) #[] #[vP e 0,vP d 0,vP g 0])<|?_
 have i:=ud p r h
 have j:=aK f i
 exact⟨e,d,g,rfl,(Nat.le_trans b.size m),k,(Nat.le_trans (le b.size f.size) h),(ub i n),(ub j l),q,(aK b j)⟩
theorem eM{w:World}{a c d:Int}(hk:a=0∨a=1∨a=2)(hc:c=0∨c=1∨c=2)(hd:d=0∨d=1) : Calls Tryz.prog 44 #[vI a,vI c,vI d] w (Ff a c d w):=by
 refine en 26 Tryz.func44 rfl<|aA 1<|aU 2<|aG (args:=#[vI a,vI d])<|Fv (Ba (k:=a) (d:=d) hk hd) fun g o B p q r b=>al 1<|sq<|aA 4<|L1<|Oc<|m1 (jP (k:=c)) fun C e=>al 2<|cf (wL hc)<|bM<|aA 5<|aG<|(uA (a:=a) (c:=c)).mono ?_
 rintro _ D ⟨h,i,j,rfl,s,t,u,v,x,y,l⟩
 refine⟨_,rfl,?_⟩
 refine Pl 1<|L0<|cX #[vP g 0,vI c,vI d,.func (.func 92) #[] #[vP h 0,vP i 0,vP j 0],vI 0] fun m E z A f=>al 1<|rt<|rr (vP m 0)<|?_
 have n:=aK e (aK l f)
 exact⟨m,g,o,h,i,j,rfl,(Nat.le_trans (le (le b.size e.size) l.size) z),p,q,(Nat.le_trans (le b.size e.size) u),(Nat.le_trans (le b.size e.size) s),(Nat.le_trans (le b.size e.size) t),(aj.old r n),⟨A,(ub f v),(ub f x),(ub f y),by decide⟩,(aK b n)⟩
theorem eB{w:World}{gt s bT bF bN:Nat}{a c d next lost:Int}(hG:ap w gt s bT bF bN a c d next lost) : Calls Tryz.prog 46 #[vP gt 0] w (bS (vI lost) w):=by
 exact en 7 Tryz.func46 rfl<|aA 1<|aU 3<|aD hG.cell 4<|al 1<|rt<|rr (vI lost)<|⟨rfl,(ay.refl [] _)⟩
open Go.RowKit
theorem iq.shape{base:Nat}{w:World}{v:Value}{xs:List Int}(h:iq base w v xs) : ∃ A cp,v = .slice A xs.length cp∧aW true w (.slice A xs.length cp) xs∧∀ x,x∈ob A→base≤x:=by
  obtain⟨h1,A,n,c,rfl,h2⟩:=h
  obtain⟨A',c',e,_,_⟩:=h1.shape
  injection e with e1 e2 e3
  subst e1 e2 e3
  exact⟨A,c,rfl,h1,h2⟩
open Go.RowKit
theorem si:∀ (b:List Int)(T:SA)(K:List Ev),b.foldl (fun(p:SA × List Ev) c=>((p.1.byte c).1,p.2++(p.1.byte c).2)) (T,K)=((T.feed b).1,K++(T.feed b).2)
  | [],T,K=>by simp[SA.feed]
  | c :: t,T,K=>by
    unfold SA.feed
    rw[List.foldl_cons,List.foldl_cons,si t,si t]
    simp
theorem rX:∀ (b:List Int)(T:SM)(K:List Ev),b.foldl (fun(p:SM × List Ev) c=>((p.1.byte c).1,p.2++(p.1.byte c).2)) (T,K)=((T.feed b).1,K++(T.feed b).2)
  | [],T,K=>by simp[SM.feed]
  | c :: t,T,K=>by
    unfold SM.feed
    rw[List.foldl_cons,List.foldl_cons,rX t,rX t]
    simp
theorem ri(S:SA)(a b:List Int) : S.feed (a++b)=(((S.feed a).1.feed b).1,(S.feed a).2++((S.feed a).1.feed b).2):=by
  conv=>lhs;unfold SA.feed
  rw[List.foldl_append]
  exact si b _ _
theorem qu(S:SM)(a b:List Int) : S.feed (a++b)=(((S.feed a).1.feed b).1,(S.feed a).2++((S.feed a).1.feed b).2):=by
  conv=>lhs;unfold SM.feed
  rw[List.foldl_append]
  exact rX b _ _
def BO:XS→Prop
  | .r _=>False
  | _=>True
theorem nR{S:XS}(h:BO S)(b:List Int)(t t':Bool) : S.take b t=S.take b t':=by
  have e:∀ t,S.take b t=S.feed b:=by
    intro t
    cases S with
    | r S=>exact h.elim
    | a S=>cases t;rfl;show(_,(S.feed b).2++[])=_;rw[List.append_nil];rfl
    | m S=>cases t;rfl;show(_,(S.feed b).2++[])=_;rw[List.append_nil];rfl
  rw[e,e]
open Go.RowKit
def XS.isK (k d:Int) : XS→Prop
  | .r S=>k=0∧S.dir=d
  | .a S=>k=1∧S.dir=d
  | .m S=>k=2∧S.dir=d
theorem bO{k d:Int}(hk:k=0∨k=1∨k=2) : (XS.zero k d).isK k d:=by
  rcases hk with rfl|rfl|rfl<;>exact⟨rfl,rfl⟩
def pv (k d:Int)(x:Ev) : Prop:=bg x.f.msg∧(x.e≠0→x.f=aM.zero)∧(x.e=0→∃ l,gf k d x.f.unit x.f.tid x.f.msg=some l)
theorem iV{k d e:Int}(he:e≠0) : pv k d (Ev.bad e):=⟨dz,fun _=>rfl,fun h=>absurd h he⟩
theorem jz{k d:Int}{b:List Int}(hd:d=0∨d=1)(hb:∀ x,x∈b→0≤x∧x<256) : pv k d ⟨(mQ k d b).2,(mQ k d b).1⟩:=by
  have h:=yo (k:=k) (dir:=d) (F:=(mQ k d b).1) (E:=(mQ k d b).2) hb rfl
  refine⟨h.1,h.2,fun h0=>⟨b,xy hd hb ?_⟩⟩
  show mQ k d b=((mQ k d b).1,0)
  rw[← show(mQ k d b).2=0 from h0]
theorem tj{S:SA}{c d:Int}(hd:d=0∨d=1)(h:S.ok)(hc:0≤c∧c<256)(hS:S.dir=d) : (S.byte c).1.dir=d∧∀ x,x∈(S.byte c).2→pv 1 d x:=by
  subst hS
  unfold SA.byte
  split
  · exact⟨rfl,fun x hx=>by rw[List.mem_singleton] at hx;rw[hx];exact iV (by decide)⟩
  split
  · exact⟨rfl,fun x hx=>by cases hx⟩
  unfold SA.tail
  split
  · exact⟨rfl,fun x hx=>by rw[List.mem_singleton] at hx;rw[hx];exact iV (by decide)⟩
  split
  · refine⟨rfl,fun x hx=>?_⟩
    rw[List.mem_singleton] at hx
    rw[hx]
    refine jz (k:=1) hd fun y hy=>?_
    rcases List.mem_append.1 hy with h1|h1
    · exact h.1 y h1
    · rw[List.mem_singleton] at h1;rw[h1];exact hc
  · exact⟨rfl,fun x hx=>by cases hx⟩
theorem mf{d:Int}(hd:d=0∨d=1) : ∀ (b:List Int)(S:SA),S.ok→(∀ x,x∈b→0≤x∧x<256)→S.dir=d→(S.feed b).1.dir=d∧∀ x,x∈(S.feed b).2→pv 1 d x
  | [],S,_,_,hS=>⟨hS,fun x hx=>by cases hx⟩
  | c :: t,S,h,hb,hS=>by
    have e:=ri S [c] t
    have e1:S.feed [c]=S.byte c:=by unfold SA.feed;simp
    have h1:=tj hd h (hb c (List.mem_cons_self ..)) hS
    have h2:=(SA.byte_ok (S2:=(S.byte c).1) (L2:=(S.byte c).2) h (hb c (List.mem_cons_self ..)) rfl).1
    have h3:=mf hd t (S.byte c).1 h2 (fun x hx=>hb x (List.mem_cons_of_mem _ hx)) h1.1
    rw[show c :: t=[c]++t from rfl,e,e1]
    refine⟨h3.1,fun x hx=>?_⟩
    rcases List.mem_append.1 hx with hx|hx
    · exact h1.2 x hx
    · exact h3.2 x hx
theorem sB{S:SM}{c d:Int}(hd:d=0∨d=1)(h:S.ok)(hc:0≤c∧c<256)(hS:S.dir=d) : (S.byte c).1.dir=d∧∀ x,x∈(S.byte c).2→pv 2 d x:=by
  subst hS
  unfold SM.byte
  split
  · exact⟨rfl,fun x hx=>by cases hx⟩
  unfold SM.does
  split
  · exact⟨rfl,fun x hx=>by rw[List.mem_singleton] at hx;rw[hx];exact iV (by decide)⟩
  · exact⟨rfl,fun x hx=>by rw[List.mem_singleton] at hx;rw[hx];exact iV (by decide)⟩
  · refine⟨rfl,fun x hx=>?_⟩
    rw[List.mem_singleton] at hx
    rw[hx]
    refine jz (k:=2) hd fun y hy=>?_
    rcases List.mem_append.1 hy with h1|h1
    · exact h.2.1 y h1
    · rw[List.mem_singleton] at h1;rw[h1];exact hc
  · exact⟨rfl,fun x hx=>by cases hx⟩
theorem mX{d:Int}(hd:d=0∨d=1) : ∀ (b:List Int)(S:SM),S.ok→(∀ x,x∈b→0≤x∧x<256)→S.dir=d→(S.feed b).1.dir=d∧∀ x,x∈(S.feed b).2→pv 2 d x
  | [],S,_,_,hS=>⟨hS,fun x hx=>by cases hx⟩
  | c :: t,S,h,hb,hS=>by
    have e:=qu S [c] t
    have e1:S.feed [c]=S.byte c:=by unfold SM.feed;simp
    have h1:=sB hd h (hb c (List.mem_cons_self ..)) hS
    have h2:=(SM.byte_ok (S2:=(S.byte c).1) (L2:=(S.byte c).2) h (hb c (List.mem_cons_self ..)) rfl).1
    have h3:=mX hd t (S.byte c).1 h2 (fun x hx=>hb x (List.mem_cons_of_mem _ hx)) h1.1
    rw[show c :: t=[c]++t from rfl,e,e1]
    refine⟨h3.1,fun x hx=>?_⟩
    rcases List.mem_append.1 hx with hx|hx
    · exact h1.2 x hx
    · exact h3.2 x hx
theorem dW{n base s g c:Nat}{w:World}{A:Option Addr}{S S2:XS}{b:List Int}{t:Bool}{L:List Ev}{k d:Int}(hd:d=0∨d=1)(h:aj n base w s g A c S)(hS:S.isK k d)(hb:∀ x,x∈b→0≤x∧x<256)(hX:S.take b t=(S2,L)) : S2.isK k d∧∀ x,x∈L→pv k d x:=by
  have e1:S2=(S.take b t).1:=(congrArg Prod.fst hX).symm
  have e2:L=(S.take b t).2:=(congrArg Prod.snd hX).symm
  rw[e1,e2]
  have h:=h.2
  cases S with
  | r S =>
    obtain⟨rfl,hS⟩:=hS
    obtain⟨⟨cp,_,hr,_⟩,_⟩:=h
    have hh:=aW.range hr
    have hf:(S.feed b).1.dir=d∧(∀ x,x∈(S.feed b).1.held→0≤x∧x<256)∧∀ x,x∈(S.feed b).2→pv 0 d x:=by
      unfold SS.feed
      split
      · exact⟨hS,hh,fun x hx=>by cases hx⟩
      split
      · refine⟨hS,fun x hx=>?_,fun x hx=>by cases hx⟩
        rcases List.mem_append.1 hx with hx|hx
        · exact hh x hx
        · exact hb x hx
      · exact⟨hS,(fun x hx=>by cases hx),fun x hx=>by rw[List.mem_singleton] at hx;rw[hx];exact iV (by decide)⟩
    cases t
    · exact⟨⟨rfl,hf.1⟩,hf.2.2⟩
    · refine⟨⟨rfl,hf.1⟩,fun x hx=>?_⟩
      rcases List.mem_append.1 hx with hx|hx
      · exact hf.2.2 x hx
      · have hx:x∈(S.feed b).1.tick.2:=hx
        unfold SS.tick at hx
        dsimp only at hx
        split at hx
        · cases hx
        · rw[List.mem_singleton] at hx
          rw[hx,hf.1]
          exact jz (k:=0) hd hf.2.1
  | a S =>
    obtain⟨rfl,hS⟩:=hS
    have hf:=mf hd b S h.2.2.1 hb hS
    rw[nR (S:=.a S) trivial b t false]
    exact⟨⟨rfl,hf.1⟩,hf.2⟩
  | m S =>
    obtain⟨rfl,hS⟩:=hS
    have hf:=mX hd b S h.2.2.1 hb hS
    rw[nR (S:=.m S) trivial b t false]
    exact⟨⟨rfl,hf.1⟩,hf.2⟩
open Go.RowKit
theorem kX{a c next was:Int}(h:c≠2) : dR a c next was=0:=by
  unfold dR
  rw[show(c != 2)=true from bne_iff_ne.2 h]
  rfl
theorem oF{a c n:Int}(j:Nat) : ∀ k,gn a c (gn a c n j) k=gn a c n (j+k)
  | 0=>rfl
  | k+1=>by
    show kU a c (gn a c (gn a c n j) k)=kU a c (gn a c n (j+k))
    rw[oF j k]
theorem iz(L K:List Ev) : au (L++K)=au L++au K:=by
  unfold au
  rw[List.filter_append,List.map_append]
theorem zG{L:List Ev}{f:aM}(h:f∈au L) : ∃ x,x∈L∧x.e=0∧x.f=f:=by
  unfold au at h
  obtain⟨x,hx,e⟩:=List.mem_map.1 h
  obtain⟨h1,h2⟩:=List.mem_filter.1 hx
  exact⟨x,h1,eq_of_beq h2,e⟩
def DA (c d:Int)(f:aM) : Prop:=bg f.msg∧∀ t,0≤t→t<65536→(c≠2→t=0)→∃ l,gf c d f.unit t f.msg=some l
theorem Df{a c d:Int}{L:List Ev}(hc:c=0∨c=1∨c=2)(h:∀ x,x∈L→pv a d x) : ∀ f,f∈au L→DA c d f:=fun f hf=>by
  obtain⟨x,hx,h0,rfl⟩:=zG hf
  obtain⟨h1,_,h2⟩:=h x hx
  obtain⟨l,hl⟩:=h2 h0
  obtain⟨_,_,p,hp,_⟩:=jj hl
  exact⟨h1,fun t _ _ ht=>tC hc ht hp⟩
theorem j7{k dir u t:Int}{M:b7}{b:List Int}(h:gf k dir u t M=some b) : b.length≤513:=by
  revert h
  refine k4 k (fun e=>?_) (fun e=>?_) (fun e=>?_) (fun h0 h1 h2=>?_)
  · subst e;intro h;obtain⟨h1,l,h2,rfl,h3⟩:=ja h;rw[gg];omega
  · subst e;intro h;obtain⟨h1,l,h2,rfl,h3⟩:=hH h;rw[pJ];omega
  · subst e;intro h;obtain⟨l,h2,rfl,h3⟩:=fX h;rw[jX];omega
  · rw[rT h0 h1 h2];intro h;cases h
theorem AI{a c d next:Int}{F:List aM}{k:Nat}:(zh a c d next F k).length≤513:=by
  unfold zh Cr
  cases h:gf c d (F.getD k aM.zero).unit (dR a c (gn a c next k) (F.getD k aM.zero).tid) (F.getD k aM.zero).msg with
  | none=>exact Nat.zero_le _
  | some l=>exact j7 h
theorem oe{a c d next:Int}{F:List aM}:∀ n,fz (ii a c d next F n)≤513*n
  | 0=>Nat.zero_le _
  | n+1=>by
    rw[← eZ rfl,iP]
    have h:=oe (a:=a) (c:=c) (d:=d) (next:=next) (F:=F) n
    have h2:=AI (a:=a) (c:=c) (d:=d) (next:=next) (F:=F) (k:=n)
    have h3:fz [zh a c d next F n]=(zh a c d next F n).length+0:=rfl
    omega
def bo (L:List Ev) : Int:=(L.length:Int)-((au L).length:Int)
theorem m8(L K:List Ev) : bo (L++K)=bo L+((K.length:Int)-((au K).length:Int)):=by
  unfold bo
  rw[iz,List.length_append,List.length_append]
  omega
def nF (a c d:Int)(K L:List Ev) : List (List Int):=ii a c d (gn a c 0 (au K).length) (au L) (au L).length
def lJ (a c d:Int)(L:List Ev) : List (List Int):=nF a c d [] L
theorem lv{a c d next:Int}{F G:List aM}:∀ n,n≤G.length→ii a c d next (F++G) (F.length+n)=ii a c d next F F.length++ii a c d (gn a c next F.length) G n
  | 0,_=>by
    have h:∀ m,m≤F.length→ii a c d next (F++G) m=ii a c d next F m:=by
      intro m
      induction m with
      | zero=>intro _;rfl
      | succ m ih =>
        intro hm
        rw[← eZ rfl,← eZ (F:=F) rfl,ih (by omega)]
        unfold zh
        rw[show(F++G).getD m aM.zero=F.getD m aM.zero by rw[List.getD_eq_getElem?_getD,List.getD_eq_getElem?_getD,List.getElem?_append_left (by omega)]]
    rw[Nat.add_zero,h _ (Nat.le_refl _)]
    show _=_++[]
    rw[List.append_nil]
  | n+1,hn=>by
    rw[← Nat.add_assoc,← eZ rfl,← eZ (F:=G) rfl,lv n (by omega),List.append_assoc]
    unfold zh
    rw[oF,show(F++G).getD (F.length+n) aM.zero=G.getD n aM.zero by rw[List.getD_eq_getElem?_getD,List.getD_eq_getElem?_getD,List.getElem?_append_right (by omega),Nat.add_sub_cancel_left]]
theorem xQ{a c d:Int}(K L:List Ev) : lJ a c d (K++L)=lJ a c d K++nF a c d K L:=by
  unfold lJ nF
  rw[iz,List.length_append,lv _ (Nat.le_refl _)]
  rfl
theorem nk{a c d:Int}{K L:List Ev}:fz (nF a c d K L)≤513*L.length:=Nat.le_trans (oe _) (Nat.mul_le_mul_left _ (by unfold au;rw[List.length_map];exact List.length_filter_le _ _))
def gN (w:World)(gt s bT bF bN:Nat)(a c d:Int)(L:List Ev) : Prop:=ap w gt s bT bF bN a c d (gn a c 0 (au L).length) (bo L)
open Go.RowKit
theorem iN:∀ y,y∈ob none→False:=fun y hy=>by simp[ob] at hy
theorem ll{L:List Ev}:(au L).length≤L.length:=by
  unfold au
  rw[List.length_map]
  exact List.length_filter_le _ _
theorem yV{F:List aM}{k:Nat}(hk:k<F.length) : F.getD k aM.zero∈F:=by
  rw[List.getD_eq_getElem?_getD,List.getElem?_eq_getElem hk]
  exact List.getElem_mem hk
theorem xZ{a c d next:Int}{F:List aM}{k:Nat}{l:List Int}(h:gf c d (F.getD k aM.zero).unit (dR a c (gn a c next k) (F.getD k aM.zero).tid) (F.getD k aM.zero).msg=some l) : zh a c d next F k=l:=by
  unfold zh Cr
  rw[h]
  rfl
theorem sW{w:World}{n base gt s g c0 bT bF bN cpb:Nat}{A B:Option Addr}{S S2:XS}{L:List Ev}{m:Md}{t:Bool}{b:List Int}{a c d next lost:Int}(hX:S.take b t=(S2,L))(hG:ap w gt s bT bF bN a c d next lost)(hS:aj n base w s g A c0 S)(hsl:aW m w (.slice B b.length cpb) b)(hdg:0<b.length→∀ x,x∈ob B→x≠g)(hda:lU b.length B (ob A))(hbl:b.length≤1048576)(hL:L.length≤200000)(hlo:0≤lost∧lost≤1000000000)(hwr:∀ f,f∈au L→DA c d f) :
    Calls Tryz.prog 45 #[vP gt 0,.agg #[.slice B b.length cpb,.bool t]] w (Fk n base S2 (ii a c d next (au L) (au L).length) a c d (gn a c next (au L).length) (lost+((L.length:Int)-((au L).length:Int))) gt s g bT bF bN A w):=by
 have hzb:=aT.len hsl
 refine en 69 Tryz.func45 rfl<|sg<|L0<|cX #[.slice B b.length cpb,.bool t] fun aI c9 aL br P=>al 1<|sq<|Rg 7 (fun w'=>w'.cell? ⟨gt,0,none⟩=some (vP s 0)∧w'.heap[aI]? = some (.cells #[.slice B b.length cpb,.bool t] 70 (0,0))) fun bs E=>?_
 have l:=aK P E
 have Z:=ub l hG.cell
 have aR:=ub E br
 refine bi ⟨(ae Z rfl),aR⟩ fun G=>Rt 0 G<|Rt 1 G<|Rt 2 G<|Rl 3 G (fun _ hs=>hs.1)<|Rr 4 G (.agg #[.slice B b.length cpb,.bool t]) (fun w' hs=>ie (g:=aI) (off:=0) [.slice B b.length cpb,.bool t] rfl (by kernel_rfl) hs.2 (by kernel_rfl) (by kernel_rfl) rfl)<|?_
 have hwl:=l.size
 refine R0 5 rfl<|Oc (args:=#[vP s 0,.agg #[.slice B b.length cpb,.bool t]])<|(yd hX (aj.old hS l) (aW.old hsl l) hdg hda hbl).mono ?_
 rintro _ ca ⟨cc,v,bt,bu,rfl,bv,y,bw,bz,j⟩
 refine⟨_,rfl,?_⟩
 have aS:=bv
 obtain⟨cd,ce,rfl,cf,cg⟩:=aT.shape aS.rd
 have Q:=ay.blk j (aa (aj.gne hS hG.cell (by decide)) (aq (aJ Z (ak (aj.row hS) l (fun x hx=>av) (fun _ _ h=>h)) (by decide)) av)) Z
 refine bi ⟨(ae Q rfl),(ay.blk j (aa (Ne.symm (nb (aj.glt hS) lr aL)) (aq (ej (aj.row hS) lr aL) av)) aR)⟩ fun bA=>Rt 6 bA<|re<|tn<|aA 1<|aG<|fC (wm (p:=bs.heap.size) (L:=L) (aQ.hi (aQ.map aS fun _ _ q=>q.hi) (Nat.le_refl _)) hL) fun aV aY ch a0 ci cj T=>?_
 have hfl:=ll (L:=L)
 refine Pl 1<|aU 3<|?_
 have a1:=ub T Q
 refine aD a1 4<|Pl 4<|bD ((L.length:Int)-((au L).length:Int))<|bD (lost+((L.length:Int)-((au L).length:Int)))<|Pl 2<|L0<|cA a1 4 #[vP s 0,vI c,vI d,.func (.func 92) #[] #[vP bT 0,vP bF 0,vP bN 0],vI (lost+((L.length:Int)-((au L).length:Int)))] fun z aZ a2=>dK 1<|sq<|aB 3<|bk<|?_
 have a3:=uz T a2
 have H:=ut (ay.mono (S':=(g :: (ob A++(gt :: [])))) l aC) (u1 (ay.mono (S':=(g :: (ob A++(gt :: [])))) j (ac im (ai il aC))) a3 im) (ac im (ai il (ac im aC)))
 refine jZ (fun x=>[(0,vP gt 0),(4,nS),(7,.slice x.2.2.1 x.2.1.length x.2.2.2.1),(32,.slice aV ((au L).length) aY),(33,vI ((au L).length:Int)),(34,vI (x.1:Int))]) (fun(x:Nat × List (List Int) × Option Addr × Nat × Nat) w'=>ay [bN] z w'∧w'.heap[bN]? = some (.cells #[vW (gn a c next x.1)] 37 (0,0))∧iS w.heap.size v x.2.2.2.2 z.heap.size w' (.slice x.2.2.1 x.2.1.length x.2.2.2.1) x.2.1∧x.2.2.2.2≤w'.heap.size∧(x.1≤(au L).length)∧(x.2.1.length≤x.1)∧(x.2.1=ii a c d next (au L) x.1)) (fun x=>(au L).length-x.1) (0,[],none,0,z.heap.size) ⟨ay.refl _ _,(ay.blk H (aa (aj.gne hS hG.cN (by decide)) (aq (aJ hG.cN (aj.row hS) (by decide)) (aa (Ne.symm (fw hG.cell hG.cN (by decide))) av))) hG.cN),(aQ.nil z.heap.size _ _ (kJ w.heap.size v z.heap.size) _),(Nat.le_refl _),(by(try dsimp only);omega),(by(try dsimp only);exact Nat.zero_le _),rfl⟩ ?_
 rintro⟨k,o,Bq,cq,n⟩ a4 ⟨u,bB,bC,bE,bG,bH,bI⟩
 refine iW [(0,vP gt 0),(4,nS),(7,.slice Bq o.length cq),(32,.slice aV ((au L).length) aY),(33,vI ((au L).length:Int)),(34,vI (k:Int))] ?_
 have U:a4.heap[bN]? = some (.cells #[vW (gn a c next k)] 37 (0,0)):=bB
 have I:iS w.heap.size v n z.heap.size a4 (.slice Bq o.length cq) o:=bC
 have bJ:n≤a4.heap.size:=bE
 have hni:=bJ
 have ck:k≤(au L).length:=bG
 have cl:o.length≤k:=bH
 have b0:o=ii a c d next (au L) k:=bI
 refine aB 1<|sq<|?_
 have C:=u1 (ay.mono (S':=(g :: (ob A++(gt :: (bN :: []))))) H (ac im (ai il (ac im aC)))) u im
 refine cb ((decide ((k:Int)<((au L).length:Int)))) (fun a5=>?_) (fun a5=>?_)
 have bK:=of_decide_eq_true a5
 refine bM<|sq<|bk<|sg<|?_
 have b1:=us a2 u
 refine CV (um.elt (aQ.hi (ak a0 b1 (fun x hx=>(aa (fun e=>(az (ag hG.cell) (le (le P.size E.size) j.size) a0) (e▸hx)) (aa (fun e=>(az (ag hG.cN) (le (le P.size E.size) j.size) a0) (e▸hx)) av))) (nA.upd b1 (am (b6 a1 (by decide)) (am (bV.low (ay.blk (ut (ay.mono (S':=(g :: (ob A++[]))) l aC) (aK j T) (ac im (ai il aC))) (aa (aj.gne hS hG.cN (by decide)) (aq (aJ hG.cN (aj.row hS) (by decide)) av)) hG.cN) (Nat.lt_of_lt_of_le (ag hG.cN) hwl)) aP)))) j.size) k (by omega) aM.zero) fun cm cn cp cr ct i bL bO J bP=>?_
 have cu:=J.2
 refine L0<|jC 24 ((au L).length) k bL (by omega)<|L0<|wb [vB (((au L).getD k aM.zero).unit),vW (((au L).getD k aM.zero).tid),vB (((au L).getD k aM.zero).msg.code),vB (((au L).getD k aM.zero).msg.fail),vW (((au L).getD k aM.zero).msg.addr),vW (((au L).getD k aM.zero).msg.count),vW (((au L).getD k aM.zero).msg.value),vW (((au L).getD k aM.zero).msg.and_),vW (((au L).getD k aM.zero).msg.or_),vW (((au L).getD k aM.zero).msg.addr2),vW (((au L).getD k aM.zero).msg.sub),vW (((au L).getD k aM.zero).msg.status),vW (((au L).getD k aM.zero).msg.events),vW (((au L).getD k aM.zero).msg.messages),.slice i.aw (((au L).getD k aM.zero).msg.words.length) i.kw,.slice i.ab (((au L).getD k aM.zero).msg.bits.length) i.kb,.slice i.ad (((au L).getD k aM.zero).msg.data.length) i.kd,.slice i.ar (((au L).getD k aM.zero).msg.recs.length) i.kr,vB (((au L).getD k aM.zero).msg.mei),vB (((au L).getD k aM.zero).msg.kind),vB (((au L).getD k aM.zero).msg.level),vB (((au L).getD k aM.zero).msg.more),vB (((au L).getD k aM.zero).msg.next),.slice i.ao (((au L).getD k aM.zero).msg.objects.length) i.ko] bO bP<|aO rU fun a6 cv K bQ a7=>aN bQ (eo (((au L).getD k aM.zero).unit) (((au L).getD k aM.zero).tid) (((au L).getD k aM.zero).msg) i) fun cw bR a8=>nt<|sq<|Rg 11 (fun w'=>w'.cell? ⟨gt,3,none⟩=some (.func (.func 92) #[] #[vP bT 0,vP bF 0,vP bN 0])) fun cx V=>?_
 have W:=ud a7 (aK a8 V) K
 have b2:=aK u W
 have a9:=bf b2 (fw hG.cell hG.cN (by decide)) aZ
 refine bi (ae a9 rfl) fun D=>Rt 0 D<|Rt 1 D<|Rt 2 D<|Rl 3 D (fun _ hs=>hs)<|Rt 4 D<|Rt 5 D<|?_
 have b3:=ub V bR
 refine R0 6 rfl<|iH b3 1<|bi (ae a9 rfl) fun cy=>?_
 have b4:=aK C W
 refine R0 7 rfl<|gk #[] #[vP bT 0,vP bF 0,vP bN 0] (args:=#[vW (((au L).getD k aM.zero).tid),vP bT 0,vP bF 0,vP bN 0])<|m2 (zk (a:=a) (c:=c) (next:=gn a c next k) (was:=((au L).getD k aM.zero).tid) (ay.blk b4 (aa (aj.gne hS hG.cT (by decide)) (aq (aJ hG.cT (aj.row hS) (by decide)) (aa (Ne.symm (fw hG.cell hG.cT (by decide))) (aa (fw hG.cT hG.cN (by decide)) av)))) hG.cT) (ay.blk b4 (aa (aj.gne hS hG.cF (by decide)) (aq (aJ hG.cF (aj.row hS) (by decide)) (aa (Ne.symm (fw hG.cell hG.cF (by decide))) (aa (fw hG.cF hG.cN (by decide)) av)))) hG.cF) (ub W U) (be hG.rng k) J.2.2) fun cz bS M=>?_
 have b5:=bf M (fw hG.cell hG.cN (by decide)) a9
 refine bi (ae b5 rfl) fun b7=>Rt 8 b7<|Rt 9 b7<|?_
 have b8:=nb (ag hG.cN) C.size K
 refine R0 10 rfl<|cA (bf M (Ne.symm b8) b3) 1 (eo (((au L).getD k aM.zero).unit) (dR a c (gn a c next k) (((au L).getD k aM.zero).tid)) (((au L).getD k aM.zero).msg) i) fun cB bU X=>?_
 have b9:=bf X (nb (ag hG.cell) C.size K) b5
 refine bi (ae b9 rfl) fun cC=>re<|tn<|sq<|Rg 15 (fun w'=>w'.cell? ⟨gt,1,none⟩=some (vI c)∧w'.cell? ⟨gt,2,none⟩=some (vI d)∧w'.heap[a6]? = some (.cells (eo (((au L).getD k aM.zero).unit) (dR a c (gn a c next k) (((au L).getD k aM.zero).tid)) (((au L).getD k aM.zero).msg) i) 47 (0,0))) fun cD N=>?_
 have af:=ub N b9
 have ba:=ub N bU
 refine bi ⟨(ae af rfl),(ae af rfl),ba⟩ fun r=>Rt 0 r<|Rt 1 r<|Rt 2 r<|Rl 3 r (fun _ hs=>hs.1)<|Rt 4 r<|Rt 5 r<|Rt 6 r<|Rl 7 r (fun _ hs=>hs.2.1)<|Rr 8 r (.agg (eo (((au L).getD k aM.zero).unit) (dR a c (gn a c next k) (((au L).getD k aM.zero).tid)) (((au L).getD k aM.zero).msg) i)) (fun w' hs=>ie (g:=a6) (off:=0) [vB (((au L).getD k aM.zero).unit),vW (dR a c (gn a c next k) (((au L).getD k aM.zero).tid)),vB (((au L).getD k aM.zero).msg.code),vB (((au L).getD k aM.zero).msg.fail),vW (((au L).getD k aM.zero).msg.addr),vW (((au L).getD k aM.zero).msg.count),vW (((au L).getD k aM.zero).msg.value),vW (((au L).getD k aM.zero).msg.and_),vW (((au L).getD k aM.zero).msg.or_),vW (((au L).getD k aM.zero).msg.addr2),vW (((au L).getD k aM.zero).msg.sub),vW (((au L).getD k aM.zero).msg.status),vW (((au L).getD k aM.zero).msg.events),vW (((au L).getD k aM.zero).msg.messages),.slice i.aw (((au L).getD k aM.zero).msg.words.length) i.kw,.slice i.ab (((au L).getD k aM.zero).msg.bits.length) i.kb,.slice i.ad (((au L).getD k aM.zero).msg.data.length) i.kd,.slice i.ar (((au L).getD k aM.zero).msg.recs.length) i.kr,vB (((au L).getD k aM.zero).msg.mei),vB (((au L).getD k aM.zero).msg.kind),vB (((au L).getD k aM.zero).msg.level),vB (((au L).getD k aM.zero).msg.more),vB (((au L).getD k aM.zero).msg.next),.slice i.ao (((au L).getD k aM.zero).msg.objects.length) i.ko] rfl (by kernel_rfl) hs.2.2 (by kernel_rfl) (by kernel_rfl) rfl)<|?_
 have bb:=aK X N
 have bc:=us M bb
 have bd:=ue W bc K
 have ah:=j0 (a:=a) (c:=c) (be (a:=a) (c:=c) hG.rng k) J.2.2
 obtain⟨an,bg⟩:=(hwr _ (yV (F:=(au L)) (k:=k) (by omega))).2 _ ah.1 ah.2 kX
 refine R0 9 rfl<|Oc<|e2 (fm (aH.upd (J.1) bd (am (bV.low U (Nat.lt_of_lt_of_le (ag hG.cN) hwl)) aP)) (hwr _ (yV (F:=(au L)) (k:=k) (by omega))).1 J.2.1 ah bg) fun cE cG bW Y=>?_
 obtain⟨bX,bY,rfl,bZ,c2⟩:=iq.shape bW
 have bh:=ub Y af
 refine bi ⟨(ae bh rfl),(ae bh rfl),(ub Y ba)⟩ fun O=>Rt 10 O<|Rt 11 O<|Rt 12 O<|Rt 13 O<|Rt 14 O<|re<|tn<|aB 2<|c1<|go<|Pl 2<|L0<|dX (m:=1) (e:=27) #[.slice bX an.length bY] fun cH bj c3 c4 ax=>?_
 have bl:=ut b2 bc (ac im (ac (ni u.size K) aC))
 have c5:=Ep (A:=v) c3 c4 (kJ.of (aW.upd' bZ ax aP) c2 (dA (ak (aj.row y) (us a3 bl) (fun x hx=>(aa (fun e=>(aJ Q (aj.row y) (by decide)) (e▸hx)) (aa (fun e=>(aJ (ay.blk (ut (ay.mono (S':=(g :: (ob A++[]))) l aC) j (ac im (ai il aC))) (aa (aj.gne hS hG.cN (by decide)) (aq (aJ hG.cN (aj.row hS) (by decide)) av)) hG.cN) (aj.row y) (by decide)) (e▸hx)) av))) (fun _ _ h=>h))) (le (le (le (le (le (le (le (le (le (le (le P.size E.size) j.size) T.size) a2.size) u.size) a7.size) a8.size) V.size) M.size) X.size) N.size))
 have bm:=aK Y ax
 have aF:=aK bd bm
 have bo:=ak I aF (fun x hx=>(aa (fun e=>(az (ag hG.cN) H.size I) (e▸hx)) av)) (fun x cs q=>kJ.upd aF (CC U (by decide) qO) q)
 refine L0<|ku (R:=kJ w.heap.size v bj.heap.size) (xs:=o) (ys:=([an])) nS 1 24 (aQ.map bo fun x cs q=>kJ.raise (Nat.le_trans hni aF.size) (Nat.le_refl _) q) (c5).rd kJ.ones (fun w' hv x cs q=>kJ.upd hv (CA bo (by decide) qO) q) (by(try simp only[co,aE]);omega) (le (le (le (le (le (le (le (le u.size a7.size) a8.size) V.size) M.size) X.size) N.size) Y.size) ax.size) fun c6 c7 cI c8 bp cJ=>Pl 1<|nl<|bn<|tn<|go<|bD ((k:Int)+1)<|Pl 1<|nl<|?_
 have bq:=ut (ay.mono (S':=(ob Bq++[])) bm aC) bp (ai il aC)
 exact fD ((k+1),(o++[an]),c6,c7,bj.heap.size) ⟨(ut bl bq (ai (aX I lr) aC)),(ay.blk (ut (ay.mono (S':=(a6 :: (ob Bq++[]))) bb (ac im aC)) bq (ai il aC)) (aa b8 (aq (az (ag hG.cN) H.size I) av)) bS),c8,bp.size,(by(try dsimp only);omega),(by(try dsimp only);(try simp only[co]);omega),(by(try dsimp only);rw[b0];exact eZ (xZ bg))⟩ (by omega)
 have bK:=of_decide_eq_false a5
 refine xt<|tx<|tx<|bx<|tn<|aB 2<|rt<|rr (.slice Bq o.length cq)<|?_
 obtain rfl:k=(au L).length:=by omega
 subst b0
 exact⟨_,v,bt,bu,rfl,aQ.weaken (aQ.map I fun x cs q=>kJ.raise (Nat.le_trans hni lr) (Nat.le_refl _) q) H.size,(aj.upd y (us a3 u) (aa (Ne.symm (aj.sne hS hG.cell (by decide))) (aa (Ne.symm (aj.sne hS hG.cN (by decide))) av)) (aa (Ne.symm (aj.gne hS hG.cell (by decide))) (aa (Ne.symm (aj.gne hS hG.cN (by decide))) av)) (fun x hx=>(aa (fun e=>(aJ Q (aj.row y) (by decide)) (e▸hx)) (aa (fun e=>(aJ (ay.blk (ut (ay.mono (S':=(g :: (ob A++[]))) l aC) j (ac im (ai il aC))) (aa (aj.gne hS hG.cN (by decide)) (aq (aJ hG.cN (aj.row hS) (by decide)) av)) hG.cN) (aj.row y) (by decide)) (e▸hx)) av)))),⟨(bf u (fw hG.cell hG.cN (by decide)) aZ),(ay.blk C (aa (aj.gne hS hG.cT (by decide)) (aq (aJ hG.cT (aj.row hS) (by decide)) (aa (Ne.symm (fw hG.cell hG.cT (by decide))) (aa (fw hG.cT hG.cN (by decide)) av)))) hG.cT),(ay.blk C (aa (aj.gne hS hG.cF (by decide)) (aq (aJ hG.cF (aj.row hS) (by decide)) (aa (Ne.symm (fw hG.cell hG.cF (by decide))) (aa (fw hG.cF hG.cN (by decide)) av)))) hG.cF),U,be hG.rng _⟩,(fun x hx=>(bw x hx).imp_right (Nat.le_trans hwl)),bz,(ay.mono (S':=gt :: bN :: g :: (ob A++[])) C (ac im (ai il (ac im (ac im aC)))))⟩
def FC (n base:Nat)(S2:XS)(K L:List Ev)(a c d:Int)(gt s g bT bF bN:Nat)(A:Option Addr)(w:World)(e:Ending)(w':World) : Prop :=
  ∃ v A2 c2 n2,e = .returned v∧iS w.heap.size A2 w'.heap.size w.heap.size w' v (nF a c d K L)∧aj n2 base w' s g A2 c2 S2∧gN w' gt s bT bF bN a c d (K++L)∧(∀ x,x∈ob A2→x∈ob A∨w.heap.size≤x)∧n≤n2∧ay (gt :: bN :: g :: (ob A++[])) w w'
theorem cU{w:World}{n base gt s g c0 bT bF bN nb cpb:Nat}{A B:Option Addr}{S S2:XS}{K L:List Ev}{m:Md}{t:Bool}{b:List Int}{a c d:Int}(hX:S.take b t=(S2,L))(hc:c=0∨c=1∨c=2)(hd:d=0∨d=1)(hk:S.isK a d)(hG:gN w gt s bT bF bN a c d K)(hS:aj n base w s g A c0 S)(hsl:aW m w (.slice B nb cpb) b)(hdg:0<nb→∀ x,x∈ob B→x≠g)(hda:lU nb B (ob A))(hbl:b.length≤100000)(hKl:K.length≤1000000) :
    Calls Tryz.prog 45 #[.pointer (some ⟨gt,0,none⟩),.agg #[.slice B nb cpb,.bool t]] w (FC n base S2 K L a c d gt s g bT bF bN A w):=by
  obtain⟨_,_,e,_,_⟩:=hsl.shape
  injection e with e1 e2 e3
  subst e1 e2 e3
  have h1:=(dW hd hS hk hsl.range hX).2
  have h2:=hS.take_le hsl.range hX
  have h3:=ll (L:=K)
  have h4:0≤bo K∧bo K≤1000000000:=by unfold bo;omega
  refine(sW hX hG hS hsl hdg hda (by omega) (by omega) h4 (Df hc h1)).mono ?_
  rintro _ w2 ⟨v,A2,c2,n2,rfl,k1,k2,k3,k4,k5,k6⟩
  refine⟨v,A2,c2,n2,rfl,k1,k2,?_,k4,k5,k6⟩
  unfold gN
  rw[m8,iz,List.length_append,← oF]
  exact k3
open Go.RowKit
theorem zL{z:Value}(hz:z.cells = #[z])(k:Nat) : (Builtin.zeroCells z.cells k).toList=List.replicate k z:=by
  rw[hz]
  have h:(Builtin.zeroCells #[z] k).toList=List.map (fun i=>[z][i%1]?.getD default) (List.range k):=by simp[Builtin.zeroCells]
  rw[h]
  refine List.eq_replicate_iff.2 ⟨by simp,fun b hb=>?_⟩
  obtain⟨i,_,rfl⟩:=List.mem_map.1 hb
  simp[Nat.mod_one]
theorem kP{P:Program}(w:World)(base:Nat)(t tn ty e:TypeId)(i:TypeInfo)(z:Value)(kq kn:IntKind)(ht:P.underlying t=some (.slice e))(htn:P.underlying tn=some (.int kn))(hi:P.info? e=some i)(hz:i.zero=some z)
    (hsize:i.size=1) (hby:i.bytes≤65536) (hzc:z.cells = #[z]) (hone:z.oneCell'=true) (v:Value) (n:Nat) (xs:List Value) (hown:w.ownsRow base e 1 v n xs) (k:Nat) (h0:0<k) (a:n+k≤4194304) (hbase:base≤w.heap.size) :
    ∃ v' w',(Builtin.append_ #[t,tn] ty #[v,.int kq (k:Int)]).run P w = .ok v' w'∧w'.ownsRow base e 1 v' (n+k) (xs++List.replicate k z)∧w.grownBy w' v.ownBlock:=by
  have hlen:(xs++List.replicate k z).length=(n+k)*1:=by rw[List.length_append,hown.1,List.length_replicate];omega
  have hmx:n+k≤maxLen:=by unfold maxLen;omega
  have hmul:(n+k)*i.bytes≤140737488355328:=Nat.le_trans (Nat.mul_le_mul a hby) (by decide)
  have hmulk:k*i.bytes≤281474976710656:=Nat.le_trans (Nat.mul_le_mul (show k≤4194304 by omega) hby) (by decide)
  have hzl:=zL hzc
  have grown:∀ (old:Nat),old<n+k→∀ (row:Option Nat),
      (w.drew.alloc (.cells (xs.toArray++Builtin.zeroCells z.cells k++Builtin.zeroCells z.cells (grownCap w (n+k) old e-(n+k))) e)).ownsRow base e 1
        (.slice (some ⟨w.heap.size,0,none⟩) (n+k) (grownCap w (n+k) old e)) (n+k) (xs++List.replicate k z) ∧
      w.grownBy (w.drew.alloc (.cells (xs.toArray++Builtin.zeroCells z.cells k++Builtin.zeroCells z.cells (grownCap w (n+k) old e-(n+k))) e)) row:=by
    intro old ho row
    have hge:=grownCap_ge w (n+k) old e
    have hcm:grownCap w (n+k) old e≤maxLen:=grownCap_le_maxLen w (n+k) old e hmx
    refine⟨⟨hlen,.inr ⟨w.heap.size,_,_,rfl,hbase,heap_alloc_new w.drew _,hge,hcm,?_,?_⟩⟩,⟨rfl,rfl,rfl,by simp,fun k hk _=>heap_alloc_old w.drew _ hk⟩⟩
    · simp only[Array.size_append,List.size_toArray,size_zeroCells,hzc,hown.1,List.size_toArray,List.length_cons,List.length_nil]
      omega
    · simp only[Array.toList_append,hzl]
      rw[← hlen]
      exact List.take_left
  rcases hown.2 with⟨rfl,rfl⟩|⟨g,cap,cur,rfl,hbg,hg,hnc,hcm,hcs,htake⟩
  · have hx:xs=[]:=List.eq_nil_of_length_eq_zero (by simpa using hown.1)
    subst hx
    have hr:=Lib.run_append_nil_zeros (P:=P) w t tn ty e i z kq kn ht htn hi hz k h0 (by omega) (by omega) hmulk
    have hgr:=grown 0 (by omega) (Value.ownBlock (.slice none 0 0))
    simp only[Nat.zero_add,List.nil_append,Array.empty_append] at hgr ⊢
    exact⟨_,_,hr,hgr.1,hgr.2⟩
  · by_cases hroom:n+k≤cap
    · have hst:=run_storeCells_at P g (n*1) e (List.replicate k z) 0 cur w hg (by rw[List.length_replicate,hcs];omega) (fun u hu=>by rw[(List.mem_replicate.1 hu).2];exact hone)
      simp only[Nat.add_zero,Nat.mul_one] at hst
      have hw:IntKind.i64.wrap (k:Int)=k:=by rw[IntKind.wrap_i64];omega
      have hneg:¬ ((k:Int)<0):=by omega
      have b:¬ (281474976710656<(k:Int)*(i.bytes:Int)):=by
        rw[← Int.natCast_mul]
        omega
      have hns:¬ (k=0):=by omega
      have hr:(Builtin.append_ #[t,tn] ty #[.slice (some ⟨g,0,none⟩) n cap,.int kq (k:Int)]).run P w = .ok (.slice (some ⟨g,0,none⟩) (n+k) cap) (w.setRow g (cur.toList.take n++List.replicate k z++cur.toList.drop (n+(List.replicate k z).length)).toArray):=by
        simp[Builtin.append_,run_underlying ht,run_underlying htn,sizeOf,typeInfo,zeroValue,hi,hz,hsize,asInt,asIntOf,hw,hroom,hneg,hns,b,Addr.add_lit,hzl,hst]
        done
      refine⟨_,_,hr,⟨hlen,.inr ⟨g,cap,_,rfl,hbg,setRow_heap w g cur _ e _ hg,hroom,hcm,?_,?_⟩⟩,⟨rfl,rfl,rfl,by simp,fun k _ hk=>setRow_other w g k _ (fun e=>hk (by simp[Value.ownBlock,e]))⟩⟩
      · simp only[List.size_toArray,List.length_append,List.length_take,List.length_drop,Array.length_toList,List.length_replicate]
        omega
      · have h1:cur.toList.take n=xs:=by simpa using htake
        rw[h1,← hlen]
        exact List.take_left
    · have holds:(Builtin.firstCells i.size n (.slice (some ⟨g,0,none⟩) n cap)).run P w.drew = .ok xs.toArray w.drew:=by
        refine run_firstCells_some (P:=P) w.drew i.size n ⟨g,0,none⟩ n cap xs (by rw[hsize];exact hown.1) ?_
        intro j u hj
        exact hown.cells (g:=g) rfl j u hj
      have hr:=Lib.run_append_grow_zeros (P:=P) w t tn ty e i z kq kn ht htn hi hz (some ⟨g,0,none⟩) n cap xs holds k h0 (by omega) (by omega) (by omega) hmulk (growslice_fits (by omega) hmul)
      have hgr:=grown cap (by omega) (Value.ownBlock (.slice (some ⟨g,0,none⟩) n cap))
      exact⟨_,_,hr,hgr.1,hgr.2⟩
theorem Cw{P:Program}{Q:Exit→Act→World→Prop}{a:Act}{w:World}{K:Act→World→Prop}{o:Oper}{N:Option Tmp}
    {s x:Operand} {t tn e:TypeId} {base n c:Nat} {kq kn:IntKind} {A:Option Addr} (bytes:Nat) (hN:o.dst=N) (ho:o.op = .call { callee:=.builtin .append,args:=#[s,x],argTypes:=#[t,tn] })
    (ht:P.underlying t=some (.slice e)) (htn:P.underlying tn=some (.int kn)) (hinfo:(P.info? e).map (fun i=>(i.zero,i.size,i.bytes))=some (some (.int .u8 0),1,bytes))
    (xs:List Int) (hs:a.eval s = .slice A n c) (HO:aQ base e 1 lf w (.slice A n c) xs) (k:Nat) {v:Int} (hv:v=(k:Int)) (hx:a.eval x = .int kq v) (h0:0<k)
    (hl:xs.length+k≤4194304) (hby:bytes≤65536) (hbase:base≤w.heap.size)
    (h:∀ A' c' w',aQ base e 1 lf w' (.slice A' (xs++List.replicate k 0).length c') (xs++List.replicate k 0)→ay (ob A++[]) w w'→K (a.put N (.slice A' (xs++List.replicate k 0).length c')) w') : OW P o a w K Q:=by
  subst hN
  subst hv
  refine⟨?_⟩
  obtain⟨i0,hi,hz0,hz1,hz2⟩:=info_parts hinfo
  have hmap:xs.map (Value.int .u8)++List.replicate k (.int .u8 0)=(xs++List.replicate k 0).map (Value.int .u8):=by simp
  obtain⟨v',w',hr,h1,hg⟩:=kP (P:=P) w base t tn o.type e i0 (.int .u8 0) kq kn ht htn hi hz0 hz1 (by omega) rfl rfl _ xs.length (xs.map (Value.int .u8)) (ew bp.cell HO) k h0 hl hbase
  have h2:aQ base e 1 lf w' v' (xs++List.replicate k 0):=by
    refine ez (enc:=Value.int .u8) (fun y hy=>?_) (by rw[← hmap];simpa using h1)
    rcases List.mem_append.1 hy with hy|hy
    · obtain⟨cs,h1⟩:=HO.mem y hy
      exact bp.any _ _ _ _ h1
    · rw[(List.mem_replicate.1 hy).2]
      exact⟨rfl,by decide⟩
  have hU:ay (ob A) w w':=ay.of_grown hg _ fun k hk=>.inl (by
    rcases dw HO with rfl|⟨g,cells,rfl,_,_⟩
    · simp[Value.ownBlock] at hk
    · simp[Value.ownBlock] at hk
      simp[ob,hk])
  have hn:n=xs.length:=by
    obtain⟨_,_,hv,_⟩:=HO.rd.shape
    injection hv
  have hrun:(execOp a.eval o).run P w = .ok (.value v') w':=by
    subst hn
    unfold execOp
    simp only[ho,resolve,invoke,builtin,Sem.run_bind,Sem.run_pure,Result.andThen_ok,List.map_toArray,List.map_cons,List.map_nil,hs,hx,hr]
  unfold Oper.wp
  rw[hrun]
  obtain⟨A',c',rfl,_,_⟩:=h2.rd.shape
  exact h _ _ _ h2 (by simpa using hU)
def Eu (P:Program)(t:TypeId) : Option IntKind:=match P.underlying t with | some (.int k)=>some k | _=>none
theorem yj{P:Program}{t:TypeId}{k:IntKind}(h:Eu P t=some k) : P.underlying t=some (.int k):=by
  unfold Eu at h
  split at h
  · rename_i q hq;rw[hq];simpa using h
  · cases h
section
variable {P:Program}{Q:Exit→Act→World→Prop}{n:Nat}{D:List Deferred}{F:Fr}{w:World}{K:Fr→World→Prop}{d:Option Tmp}{t:TypeId}{s:String}{af:Array Edge}{gu:Option (Nat × Bool)}
theorem Ex{x y:Operand}{e:TypeId}{base m c:Nat}{A:Option Addr}{xs:List Int}{ty tn:TypeId}{kq:IntKind}{v:Int}(bytes k:Nat)(HO:aQ base e 1 lf w (.slice A m c) xs)(hv:v=(k:Int))(h0:0<k)
    (hl:xs.length+k≤4194304) (hbase:base≤w.heap.size) (h:∀ A' c' w',aQ base e 1 lf w' (.slice A' (xs++List.replicate k 0).length c') (xs++List.replicate k 0)→ay (ob A++[]) w w'→K (pt d (.slice A' (xs++List.replicate k 0).length c') F) w')
    (hx:eg F x=some (.slice A m c):=by kernel_rfl) (hy:eg F y=some (.int kq v):=by kernel_rfl) (he:pE P ty=some e:=by kernel_rfl) (hk:Eu P tn=some .i64:=by kernel_rfl) (hs:(nJ P ty,eU n d&&Nat.ble bytes 65536)=(some (some (.int .u8 0),1,bytes),true):=by kernel_rfl) : OG P ⟨d,.call { callee:=.builtin .append,args:=#[x,y],argTypes:=#[ty,tn] },t,s,af,gu⟩ n D F w K Q:=by
  simp only[Prod.mk.injEq] at hs
  have h2:=eQ hs.2
  exact⟨fun a ha K' hK=>Cw bytes rfl rfl (ep he) (yj hk) (by have:=hs.1;unfold nJ at this;rw[he] at this;exact this) xs (ha.ev hx) HO k hv (ha.ev hy) h0 hl (by simpa using h2.2) hbase fun A' c' w' hO hu=>hK _ _ _ (h A' c' w' hO hu) (ha.put h2.1)⟩
end
open Go.RowKit
def Fe (w:World)(e:Ending)(w':World) : Prop:=∃ A c,e = .returned (.slice A 0 c)∧cG w.heap.size w' (.slice A 0 c) []∧ay [] w w'
theorem BF{P:Program}(t e:TypeId)(sz:Nat){i:TypeInfo}(ht:P.underlying t=some (.slice e))(hi:P.info? e=some i)(hsz:i.size=sz)(A:Option Addr)(n c:Nat)(hc:n≤c)(kh:IntKind)(W:World) : (Instr.slice t (.slice A n c) none (some (.int kh 0)) none).run P W = .ok (.slice A 0 c) W:=by
  have hel:P.elem t=e:=by simp[Program.elem,ht]
  have hu:P.underlying t=some (.slice (P.elem t)):=by rw[hel];exact ht
  rw[run_slice_h W t A n c hu kh 0 (Int.le_refl _) (by omega),hel]
  cases A<;>simp[sizeOf,typeInfo,hi,hsz,sliced,Result.andThen,Addr.add]
theorem s0{ls:List (List Int)}{k:Nat}{xs:List Int}(hk:k<ls.length)(h:xs=(ls.take k).flatten) : xs++ls.getD k []=(ls.take (k+1)).flatten:=by rw[ow hk,List.flatten_append,h];simp
theorem jE{ls:List (List Int)}{k:Nat}(hk:k<ls.length) : fz (ls.take (k+1))=fz (ls.take k)+(ls.getD k []).length:=by rw[ow hk,iP];rfl
theorem lY{ls:List (List Int)}(k:Nat) : fz (ls.take k)≤fz ls:=by
  have h:fz ls=fz (ls.take k)+fz (ls.drop k):=by rw[← iP,List.take_append_drop]
  omega
theorem oR:∀ ls:List (List Int),ls.flatten.length=fz ls
  | []=>rfl
  | x :: t=>by
    rw[List.flatten_cons,List.length_append,oR t]
    rfl
theorem wV{w:World}{n:Int}(hn:0≤n∧n≤4000000) : Calls Tryz.prog 91 #[nS,vI n] w (Fe w):=by
 refine en 27 Tryz.func91 rfl<|aB 1<|sq<|aB 2<|cf (decide_eq_false (show ¬ n<0 by omega))<|sk<|tn<|sq<|aA 6<|bD (n-0)<|Pl 1<|dK 2<|cb ((decide (0<(n-0)))) (fun d=>?_) (fun d=>?_)
 have f:=of_decide_eq_true d
 refine go<|Pl 3<|L0<|jv nS (kc (kl:=.i64) (k:=0) (A:=none) (n:=0) (c:=0) rfl Tryz.underlying27 (by kernel_rfl) (by kernel_rfl) (BF (P:=Tryz.prog) 27 5 1 Tryz.underlying27 rfl rfl none 0 0 (Nat.le_refl _) _ _))<|Pl 1<|L0<|Ex (xs:=([] : List Int)) (kq:=.i64) (v:=(n-0)) 1 (((n-0)).toNat) (aQ.nil w.heap.size 5 1 lf _) (by omega) (by omega) (by(try simp only[co]);omega) lr fun a b g e h=>?_
 have i:ay [] w g:=h
 exact Pl 2<|L0<|jv (.slice a 0 b) (kc (kl:=.i64) (k:=0) (A:=a) (n:=(([] : List Int)++List.replicate (((n-0)).toNat) 0).length) (c:=b) rfl Tryz.underlying27 (by kernel_rfl) (by kernel_rfl) (BF (P:=Tryz.prog) 27 5 1 Tryz.underlying27 rfl rfl a ((([] : List Int)++List.replicate (((n-0)).toNat) 0).length) b (aT.cap (e).rd) _ _))<|Pl 1<|dK 2<|rt<|rr (.slice a 0 b)<|⟨_,_,rfl,pk e,i⟩
 have f:=of_decide_eq_false d
 exact bM<|aB 2<|rt<|rr nS<|⟨_,_,rfl,aQ.nil ..,(ay.refl [] _)⟩
theorem pK{m:Md}{A:Option Addr}{cp:Nat}{ls:List (List Int)}{w:World}(h:iD m w (.slice A ls.length cp) ls)(hs:fz ls≤4000000) : Calls Tryz.prog 70 #[.slice A ls.length cp] w (fun e w'=>∃ v,e = .returned v∧cG w.heap.size w' v ls.flatten∧ay [] w w'):=by
 have hz:=aT.len h
 refine en 36 Tryz.func70 rfl<|aA 1<|dK 1<|sq<|aB 3<|bk<|?_
 refine jZ (fun x=>[(0,.slice A ls.length cp),(2,nS),(3,vI x.2),(9,.slice A ls.length cp),(10,vI (ls.length:Int)),(11,vI (x.1:Int))]) (fun(x:Nat × Int) w'=>ay [] w w'∧(x.1≤ls.length)∧(x.2=((fz (ls.take x.1) : Nat) : Int))) (fun x=>ls.length-x.1) (0,0) ⟨ay.refl _ _,(by(try dsimp only);omega),rfl⟩ ?_
 rintro⟨k,z⟩ g ⟨a,r,s⟩
 refine iW [(0,.slice A ls.length cp),(2,nS),(3,vI z),(9,.slice A ls.length cp),(10,vI (ls.length:Int)),(11,vI (k:Int))] ?_
 have a1:k≤ls.length:=r
 have a2:z=((fz (ls.take k) : Nat) : Int):=s
 have hsn:=fun hk=>jE (ls:=ls) (k:=k) hk
 have hsz:=lY (ls:=ls) (k+1)
 refine aB 1<|sq<|cb ((decide ((k:Int)<(ls.length:Int)))) (fun c=>?_) (fun c=>?_)
 have t:=of_decide_eq_true c
 exact bM<|sq<|bk<|sg<|j5 (iD.elt h k (by omega)) fun u B C D E F a3 a4 a5=>L0<|lW ls.length k E (by omega)<|L0<|jO (p:=⟨u,B+k,none⟩) (v:=.slice C ((ls.getD k []).length) D) (uc a F)<|Pl 1<|aU 3<|bD (z+((ls.getD k []).length:Int))<|Pl 1<|dK 2<|cf (decide_eq_false (show ¬ (z+((ls.getD k []).length:Int))<0 by omega))<|sk<|bn<|tn<|go<|bD ((k:Int)+1)<|Pl 1<|nl<|fD ((k+1),(z+((ls.getD k []).length:Int))) ⟨a,(by(try dsimp only);omega),(by(try dsimp only);have y:=hsn (by omega);omega)⟩ (by omega)
 have t:=of_decide_eq_false c
 refine xt<|tx<|tx<|bx<|tn<|aA 1<|?_
 have hsz:=lY (ls:=ls) k
 refine aG (args:=#[nS,vI z])<|Bz (wV (n:=z) (by omega)) fun G H I J j=>al 1<|sq<|aB 3<|bk<|?_
 refine jZ (fun x=>[(2,nS),(6,.slice x.2.2.1 x.2.1.length x.2.2.2),(25,.slice A ls.length cp),(26,vI (ls.length:Int)),(27,vI (x.1:Int))]) (fun(x:Nat × List Int × Option Addr × Nat) w'=>ay [] w w'∧I.heap.size≤w'.heap.size∧cG g.heap.size w' (.slice x.2.2.1 x.2.1.length x.2.2.2) x.2.1∧(x.1≤ls.length)∧(x.2.1=(ls.take x.1).flatten)∧(x.2.1.length=fz (ls.take x.1))) (fun x=>ls.length-x.1) (0,[],G,H) ⟨(aK a j),lr,J,(by(try dsimp only);omega),rfl,rfl⟩ ?_
 rintro⟨i,xs,Ab,cq⟩ K ⟨b,l,L,M,N,O⟩
 refine iW [(2,nS),(6,.slice Ab xs.length cq),(25,.slice A ls.length cp),(26,vI (ls.length:Int)),(27,vI (i:Int))] ?_
 have d:cG g.heap.size K (.slice Ab xs.length cq) xs:=L
 have a6:i≤ls.length:=M
 have o:xs=(ls.take i).flatten:=N
 have a7:xs.length=fz (ls.take i):=O
 refine aB 1<|sq<|cb ((decide ((i:Int)<(ls.length:Int)))) (fun f=>?_) (fun f=>?_)
 have P:=of_decide_eq_true f
 refine bM<|sq<|bk<|sg<|j5 (iD.elt h i (by omega)) fun Q S T U V W X a8 a9=>L0<|lW ls.length i V (by omega)<|L0<|jO (p:=⟨Q,S+i,none⟩) (v:=.slice T ((ls.getD i []).length) U) (uc b W)<|al 1<|go<|Pl 2<|?_
 have hsn:=jE (ls:=ls) (k:=i) (by omega)
 have hsz:=lY (ls:=ls) (i+1)
 refine L0<|ku (R:=lf) (xs:=xs) (ys:=(ls.getD i [])) (vB 0) 1 1 d (aW.old X b) lO (fun _ _ _ _ h=>h) (by(try simp only[List.length_append]);omega) (le j.size l) fun Y Z aa a0 q ab=>Pl 1<|nl<|bn<|tn<|go<|bD ((i:Int)+1)<|Pl 1<|nl<|?_
 exact fD ((i+1),(xs++(ls.getD i [])),Y,Z) ⟨(ut b q (ai (aX d a.size) aC)),(le l q.size),a0,(by(try dsimp only);omega),(by(try dsimp only);exact s0 (by omega) o),(by(try dsimp only);have y:=jE (ls:=ls) (k:=i) (by omega);rw[List.length_append];omega)⟩ (by omega)
 have P:=of_decide_eq_false f
 refine xt<|tx<|tx<|bx<|tn<|aB 2<|rt<|rr (.slice Ab xs.length cq)<|?_
 have hs:xs=ls.flatten:=by rw[o,List.take_of_length_le (by omega)]
 exact⟨_,rfl,by rw[← hs];exact aQ.weaken d a.size,b⟩
theorem sF{m:Md}{v:Value}{ls:List (List Int)}{w:World}(h:iD m w v ls)(hs:fz ls≤4000000) : Calls Tryz.prog 70 #[v] w (fun e w'=>∃ v,e = .returned v∧cG w.heap.size w' v ls.flatten∧ay [] w w'):=by
  obtain⟨A,cp,rfl,_,_⟩:=h.shape
  exact pK h hs
open Go.RowKit
def Ea (r:List Int)(w:World)(e:Ending)(w':World) : Prop:=∃ v,e = .returned v∧cG w.heap.size w' v r∧ay [] w w'
theorem xo{S0 S:XS}{L:List Ev}{ps:List Pc}{k:Nat}(h:(S,L)=XS.run S0 (ps.take k))(hk:ps.length≤k) : (XS.run S0 ps).2=L:=by
  rw[List.take_of_length_le hk] at h
  rw[← h]
theorem vn{A B A2:Option Addr}{m:Nat}(hap:∀ x,x∈ob B→x∉ob A)(hB:∀ x,x∈ob B→x<m)(hat:∀ x,x∈ob A2→x∈ob A∨m≤x) : ∀ x,x∈ob B→x∉ob A2:=fun x hx hx2=>by
  rcases hat x hx2 with k|k
  · exact hap x hx k
  · have:=hB x hx
    omega
theorem cV{A B B2:Option Addr}{m:Nat}(hap:∀ x,x∈ob B→x∉ob A)(hA:∀ x,x∈ob A→x<m)(hat:∀ x,x∈ob B2→x∈ob B∨m≤x) : ∀ x,x∈ob B2→x∉ob A:=fun x hx hx2=>by
  rcases hat x hx with k|k
  · exact hap x k hx2
  · have:=hA x hx2
    omega
theorem vA{a c d:Int}{K L:List Ev}{xs:List Int}(h:xs=(lJ a c d K).flatten) : xs++(nF a c d K L).flatten=(lJ a c d (K++L)).flatten:=by rw[xQ,List.flatten_append,h]
theorem vM{m:Md}{A:Option Addr}{cp:Nat}{ps:List Pc}{w:World}{a c d:Int}(hk:a=0∨a=1∨a=2)(hc:c=0∨c=1∨c=2)(hd:d=0∨d=1)(h:tI m w (.slice A ps.length cp) ps)(hps:ps.length≤200)(hsum:kD ps≤4000) : Calls Tryz.prog 42 #[vI a,vI c,vI d,.slice A ps.length cp] w (Ea (lJ a c d (XS.run (XS.zero a d) ps).2).flatten w):=by
 have hz:=aT.len h
 refine en 33 Tryz.func42 rfl<|aA 1<|aU 3<|aG (args:=#[vI a,vI c,vI d])<|(eM (a:=a) (c:=c) (d:=d) hk hc hd).mono ?_
 rintro _ a9 ⟨i,r,C,W,X,D,rfl,ab,b5,Y,ad,b6,b7,ae,s,Z⟩
 refine⟨_,rfl,?_⟩
 refine al 1<|sq<|aB 2<|c0<|bM<|aB 1<|sq<|aB 3<|bk<|?_
 refine jZ (fun x=>[(8,nS),(9,vP i 0),(10,.slice x.2.2.2.2.2.2.2.1 x.2.2.2.2.2.2.1.length x.2.2.2.2.2.2.2.2),(19,.slice A ps.length cp),(20,vI (ps.length:Int)),(21,vI (x.1:Int))]) (fun(x:Nat × XS × List Ev × Option Addr × Nat × Nat × List Int × Option Addr × Nat) w'=>ay [] w w'∧a9.heap.size≤w'.heap.size∧aj x.2.2.2.2.2.1 w.heap.size w' r C x.2.2.2.1 x.2.2.2.2.1 x.2.1∧gN w' i r W X D a c d x.2.2.1∧cG w.heap.size w' (.slice x.2.2.2.2.2.2.2.1 x.2.2.2.2.2.2.1.length x.2.2.2.2.2.2.2.2) x.2.2.2.2.2.2.1∧(∀ y,y∈ob x.2.2.2.2.2.2.2.1→y∉ob x.2.2.2.1)∧(x.1≤ps.length)∧((x.2.1,x.2.2.1)=XS.run (XS.zero a d) (ps.take x.1))∧(x.2.2.2.2.2.2.1=(lJ a c d x.2.2.1).flatten)∧(x.2.2.1.length≤kD (ps.take x.1)+2*x.1)∧(x.2.1.isK a d)∧(x.2.2.2.2.2.2.1.length≤513*x.2.2.1.length)) (fun x=>ps.length-x.1) (0,(XS.zero a d),[],none,0,w.heap.size,[],none,0) ⟨Z,lr,ae,(ap.mk (ap.cell s) (ap.cT s) (ap.cF s) (ap.cN s) (be (by decide) _)),(aQ.nil w.heap.size _ _ lf _),(fun x hx=>absurd hx (iN x)),(by(try dsimp only);omega),rfl,rfl,(by(try dsimp only);exact Nat.zero_le _),(by(try dsimp only);exact bO hk),(by(try dsimp only);exact Nat.zero_le _)⟩ ?_
 rintro⟨k,S,L,Ah,ch,n,xs,Bq,cq⟩ E ⟨F,a0,af,ag,ah,am,an,ao,ar,au,aw,ax⟩
 refine iW [(8,nS),(9,vP i 0),(10,.slice Bq xs.length cq),(19,.slice A ps.length cp),(20,vI (ps.length:Int)),(21,vI (k:Int))] ?_
 have a1:aj n w.heap.size E r C Ah ch S:=af
 have t:gN E i r W X D a c d L:=ag
 have G:cG w.heap.size E (.slice Bq xs.length cq) xs:=ah
 have H:(∀ y,y∈ob Bq→y∉ob Ah):=am
 have b8:k≤ps.length:=an
 have a2:(S,L)=XS.run (XS.zero a d) (ps.take k):=ao
 have a3:xs=(lJ a c d L).flatten:=ar
 have b9:L.length≤kD (ps.take k)+2*k:=au
 have a4:S.isK a d:=aw
 have ba:xs.length≤513*L.length:=ax
 refine aB 1<|sq<|cb ((decide ((k:Int)<(ps.length:Int)))) (fun I=>?_) (fun I=>?_)
 have az:=of_decide_eq_true I
 refine bM<|sq<|bk<|sg<|BA (tI.elt h k (by omega)) fun bb bc bd bf bg J M aD aE N bh aF=>L0<|jC 2 ps.length k aD (by omega)<|?_
 refine L0<|wb [.slice J ((ps.getD k Pc.z).bytes.length) M,.bool ((ps.getD k Pc.z).tick)] (ub F aE) aF<|aO #[nS,.bool false] fun bi bj aH aI O=>aN aI #[.slice J ((ps.getD k Pc.z).bytes.length) M,.bool ((ps.getD k Pc.z).tick)] fun bl aL P=>nt<|go<|Pl 2<|L0<|cM aL<|?_
 have g:=ud O P aH
 have a5:=aK F g
 have Q:=aW.old N a5
 have hpart:=uK (ps:=ps) (k:=k) (by omega)
 have j:=aj.old a1 g
 have T:=ub g (ap.cell t)
 have U:=ub g (ap.cN t)
 refine pr (XS.take S ((ps.getD k Pc.z).bytes) ((ps.getD k Pc.z).tick)) fun aM o u=>?_
 have bm:=aj.take_le j (aW.range Q) u
 have aP:=dW (k:=a) hd j a4 (aW.range Q) u
 refine aG (args:=#[vP i 0,.agg #[.slice J ((ps.getD k Pc.z).bytes.length) M,.bool ((ps.getD k Pc.z).tick)]])<|(cU (a:=a) (c:=c) (K:=L) u hc hd a4 (ap.mk T (ub g (ap.cT t)) (ub g (ap.cF t)) U (be (by decide) _)) j Q (wY (aT.low (N)) Y) (gG (aT.low (N)) (aj.row j) lr) (by omega) (by omega)).mono ?_
 rintro _ bo ⟨bp,aR,aS,aV,rfl,aY,v,f,aZ,bq,B⟩
 refine⟨_,rfl,?_⟩
 have a6:=aY
 obtain⟨br,bs,rfl,bt,bu⟩:=aT.shape a6.rd
 have b:=ak G g (fun x hx=>av) (fun _ _ h=>h)
 have a7:=vn H (dA b) aZ
 refine aG<|fC (sF (iS.rdh a6) (Nat.le_trans nk (by omega))) fun bv bw bz b0 bA bB p=>?_
 have a8:=aK B p
 have hgs:=nk (a:=a) (c:=c) (d:=d) (K:=L) (L:=o)
 refine L0<|ku (R:=lf) (xs:=xs) (ys:=((nF a c d L o).flatten)) (vB 0) 1 1 (ak b a8 (fun x hx=>(aa (fun e=>(aJ T b (by decide)) (e▸hx)) (aa (fun e=>(aJ U b (by decide)) (e▸hx)) (aa (fun e=>(aj.gx j b (by decide)) (e▸hx)) (aq (H x hx) av))))) (fun _ _ h=>h)) (b0).rd lO (fun _ _ _ _ h=>h) (by rw[oR];omega) (le (le (le (le (le Z.size a0) O.size) P.size) B.size) p.size) fun b1 b2 bC b3 V b4=>Pl 1<|nl<|bn<|tn<|go<|bD ((k:Int)+1)<|Pl 1<|nl<|?_
 have q:=ut (ay.mono (S':=(ob Bq++[])) p aC) V (ai il aC)
 have l:=ak b B (fun x hx=>(aa (fun e=>(aJ T b (by decide)) (e▸hx)) (aa (fun e=>(aJ U b (by decide)) (e▸hx)) (aa (fun e=>(aj.gx j b (by decide)) (e▸hx)) (aq (H x hx) av))))) (fun _ _ h=>h)
 exact fD ((k+1),aM,(L++o),aR,aS,aV,(xs++((nF a c d L o).flatten)),b1,b2) ⟨(ut a5 (ut (ay.mono (S':=(i :: (D :: (C :: (ob Ah++(ob Bq++[])))))) a8 (ac im (ac im (ac im (ai il aC))))) V (ai il aC)) (ac (nr ab) (ac (nr ad) (ac (nr Y) (ai (aX (aj.row a1) lr) (ai (aX G lr) aC)))))),(le (le (le (le (le a0 O.size) P.size) B.size) p.size) V.size),(aj.upd v q (aq (eh (aj.cells v) l (by decide)) av) (aq (aj.gx v l (by decide)) av) (fun x hx=>(aq ((cJ a7) x hx) av))),(ap.mk (ay.blk q (aq (aJ (ap.cell f) l (by decide)) av) (ap.cell f)) (ay.blk q (aq (aJ (ap.cT f) l (by decide)) av) (ap.cT f)) (ay.blk q (aq (aJ (ap.cF f) l (by decide)) av) (ap.cF f)) (ay.blk q (aq (aJ (ap.cN f) l (by decide)) av) (ap.cN f)) (be (by decide) _)),b3,(cV a7 (dA (ak (aj.row v) p (fun x hx=>av) (fun _ _ h=>h))) b4),(by(try dsimp only);omega),(by(try dsimp only);exact yI (by omega) a2 u),(by(try dsimp only);exact vA a3),(by(try dsimp only);have y:=nO (ps:=ps) (k:=k) (by omega);simp only[List.length_append];omega),(by(try dsimp only);exact aP.1),(by(try dsimp only);rw[List.length_append,List.length_append,oR];have y:=nk (a:=a) (c:=c) (d:=d) (K:=L) (L:=o);omega)⟩ (by omega)
 have az:=of_decide_eq_false I
 refine xt<|tx<|tx<|bx<|tn<|aB 2<|rt<|rr (.slice Bq xs.length cq)<|?_
 rw[xo a2 (by omega),← a3]
 exact⟨_,rfl,G,F⟩
theorem wW{m:Md}{v:Value}{ps:List Pc}{w:World}{a c d:Int}(hk:a=0∨a=1∨a=2)(hc:c=0∨c=1∨c=2)(hd:d=0∨d=1)(h:tI m w v ps)(hps:ps.length≤200)(hsum:kD ps≤4000) : Calls Tryz.prog 42 #[.int .i64 a,.int .i64 c,.int .i64 d,v] w (Ea (lJ a c d (XS.run (XS.zero a d) ps).2).flatten w):=by
  obtain⟨A,cp,rfl,_,_⟩:=h.shape
  exact vM hk hc hd h hps hsum
open Go.RowKit
def qS:b7:={ b7.zero with code:=7 }
open Go.RowKit
theorem jN{α:Type}{k base base0 sz n c:Nat}{e:TypeId}{R:World→α→List Value→Prop}{B A:Option Addr}{w:World}{xs:List α}(h:∀ x,x∈ob B→base≤x)(hO:aQ base0 e sz R w (.slice A n c) xs)(hs:w.heap.size≤base) : lU k B (ob A):=fun _ x hx hx2=>by
  have:=h x hx
  have:=dA hO x hx2
  omega
open Go.RowKit
theorem Ac{w:World}{g:Nat}{cs:Array Value}{t:TypeId}{fr:Nat × Nat}{ps:List Pc}(hb:w.heap[g]? = some (.cells cs t fr))(hl:ps.length≤maxLen)(h:∀ j,j<ps.length→∃ v,(cs.toList.drop (j*2)).take 2=[v,.bool (ps.getD j Pc.z).tick]∧aW false w v (ps.getD j Pc.z).bytes) : tI false w (.slice (some ⟨g,0,none⟩) ps.length ps.length) ps:=by
  refine⟨_,_,rfl,Nat.le_refl _,hl,(fun e=>by cases e),fun hp=>⟨g,0,cs,t,fr,rfl,hb,(fun e=>by cases e),fun j x hj=>?_⟩⟩
  have hlt:=(List.getElem?_eq_some_iff.1 hj).1
  obtain⟨v,h1,h2⟩:=h j hlt
  have hx:ps.getD j Pc.z=x:=by rw[List.getD_eq_getElem?_getD,hj];rfl
  rw[hx] at h1 h2
  refine⟨[v,.bool x.tick],rfl,⟨v,rfl,h2⟩,fun i u hi=>?_⟩
  rw[← h1] at hi
  rw[List.getElem?_take] at hi
  split at hi
  · rw[List.getElem?_drop] at hi
    rw[Nat.zero_add,← Array.getElem?_toList]
    exact hi
  · cases hi
theorem Da{m m':Md}{w:World}{g:Nat}{t:TypeId}{fr:Nat × Nat}{v v':Value}{p p':Pc}(hb:w.heap[g]? = some (.cells #[v,.bool p.tick,v',.bool p'.tick] t fr))(h:aW m w v p.bytes)(h':aW m' w v' p'.bytes) : tI false w (.slice (some ⟨g,0,none⟩) 2 2) [p,p']:=by
  refine Ac (ps:=[p,p']) hb (by unfold maxLen;simp) fun j hj=>?_
  match j,hj with
  | 0,_=>exact⟨v,rfl,aT.any h fun _ _ q=>q⟩
  | 1,_=>exact⟨v',rfl,aT.any h' fun _ _ q=>q⟩
open Go.RowKit
theorem sM{m:Md}{v:Value}{ps:List Pc}{w:World}{a c d:Int}{r:List Int}(hX:(lJ a c d (XS.run (XS.zero a d) ps).2).flatten=r)(hk:a=0∨a=1∨a=2)(hc:c=0∨c=1∨c=2)(hd:d=0∨d=1)(h:tI m w v ps)(hps:ps.length≤200)(hsum:kD ps≤4000) : Calls Tryz.prog 42 #[.int .i64 a,.int .i64 c,.int .i64 d,v] w (Ea r w):=by
  have k:=wW hk hc hd h hps hsum
  rw[hX] at k
  exact k
theorem Dm:eN 0 [1,7,65,226]=(⟨1,0,qS⟩,0):=by decide +kernel
theorem Db:(XS.r (SS.mk 0 [] false)).take [1,7,65,226] true=(XS.r (SS.mk 0 [] false),[⟨0,⟨1,0,qS⟩⟩]):=by
  have e1:(SS.mk 0 [] false).feed [1,7,65,226]=(SS.mk 0 [1,7,65,226] false,[]):=rfl
  have e2:(SS.mk 0 [1,7,65,226] false).tick=(SS.mk 0 [] false,[⟨0,⟨1,0,qS⟩⟩]):=by
    unfold SS.tick
    rw[if_neg (by decide),Dm]
  show(XS.r ((SS.mk 0 [] false).feed [1,7,65,226]).1.tick.1,((SS.mk 0 [] false).feed [1,7,65,226]).2++((SS.mk 0 [] false).feed [1,7,65,226]).1.tick.2)=_
  rw[e1,e2]
  rfl
theorem Dd:(XS.run (XS.zero 0 0) [Pc.mk [1,7,65,226] true,Pc.mk [1,7,65,226] true]).2=[⟨0,⟨1,0,qS⟩⟩,⟨0,⟨1,0,qS⟩⟩]:=by
  have g1:(XS.r (SS.mk 0 [] false)).run [Pc.mk [1,7,65,226] true]=(XS.r (SS.mk 0 [] false),[⟨0,⟨1,0,qS⟩⟩]):=(un _ _).trans Db
  rw[show[Pc.mk [1,7,65,226] true,Pc.mk [1,7,65,226] true]=[Pc.mk [1,7,65,226] true]++[Pc.mk [1,7,65,226] true] from rfl,show(XS.zero 0 0)=XS.r (SS.mk 0 [] false) from rfl,tO,g1]
  show[_]++((XS.r (SS.mk 0 [] false)).run [Pc.mk [1,7,65,226] true]).2=_
  rw[g1]
  rfl
theorem Dy:(lJ 0 2 0 [⟨0,⟨1,0,qS⟩⟩,⟨0,⟨1,0,qS⟩⟩]).flatten=[0,0,0,0,0,2,1,7,0,1,0,0,0,2,1,7]:=by decide +kernel
theorem EE:(lJ 0 2 0 (XS.run (XS.zero 0 0) [Pc.mk [1,7,65,226] true,Pc.mk [1,7,65,226] true]).2).flatten=[0,0,0,0,0,2,1,7,0,1,0,0,0,2,1,7]:=by rw[Dd,Dy]
theorem AV{w:World}:Calls Tryz.prog 41 #[] w (bS (.bool true) w):=by
 refine en 12 Tryz.func41 rfl<|aA 1<|ng<|L0<|dX (m:=4) (e:=5) #[vB 1,vB 7,vB 65,vB 226] fun d G k l o=>?_
 have q:=dZ k (xs:=[1,7,65,226]) (by as_aux_lemma=>kernel_rfl) (ax (by omega) (ax (by omega) (ax (by omega) (ax (by omega) b9)))) (by(try simp only[List.length_cons,List.length_nil]);omega) l
 refine Pl 1<|aO #[nS,.bool false] fun H I r s t=>aN s #[.slice (some ⟨d,0,none⟩) 4 4,.bool true] fun J f u=>ng<|L0<|cM f<|L0<|cM f<|L0<|dX (m:=2) (e:=70) #[.slice (some ⟨d,0,none⟩) 4 4,.bool true,.slice (some ⟨d,0,none⟩) 4 4,.bool true] fun v K L y z=>?_
 have g:=ud t (aK u z) r
 have i:=ak q g (fun x hx=>av) (fun _ _ h=>h)
 have B:=Da (p:=(Pc.mk ([1,7,65,226]) true)) (p':=(Pc.mk ([1,7,65,226]) true)) y (i).rd (i).rd
 refine aG (args:=#[vI 0,vI 2,vI 0,.slice (some ⟨v,0,none⟩) 2 2])<|e2 (sM EE (show 0=0∨0=1∨0=2 by decide) (show 2=0∨2=1∨2=2 by decide) (show 0=0∨0=1 by decide) B (by decide) (by decide)) fun M N C D=>?_
 have j:=(C).rd
 obtain⟨E,F,rfl,O,P⟩:=aT.shape j
 refine Pl 1<|aU 1<|L0<|jv (.string (strOfNums ([0,0,0,0,0,2,1,7,0,1,0,0,0,2,1,7]))) (cz (A:=E) (n:=([0,0,0,0,0,2,1,7,0,1,0,0,0,2,1,7]).length) (c:=F) rfl (by kernel_rfl) Tryz.underlying27 Tryz.underlying5 Tryz.underlying9 j)<|L0<|jv (.bool true) (eF (a:=(strOfNums ([0,0,0,0,0,2,1,7,0,1,0,0,0,2,1,7]))) (b:=⟨#[0,0,0,0,0,2,1,7,0,1,0,0,0,2,1,7]⟩) rfl (by kernel_rfl) (by kernel_rfl) (zZ rfl (by decide)))<|al 1<|rt<|rr (.bool true)<|?_
 exact⟨rfl,(aK o (aK g D))⟩
open Go.RowKit
theorem sm{m m':Md}{A B:Option Addr}{c d:Nat}{xs ys:List Int}{w:World}(h1:aW m w (.slice A xs.length c) xs)(h2:aW m' w (.slice B ys.length d) ys) :
    Calls Tryz.prog 29 #[.slice A xs.length c,.slice B ys.length d] w (bS (.bool (decide (xs=ys))) w):=by
 exact en 10 Tryz.func29 rfl<|aA 1<|aU 1<|L0<|jv (.string (strOfNums xs)) (cz (A:=A) (n:=xs.length) (c:=c) rfl (by kernel_rfl) Tryz.underlying27 Tryz.underlying5 Tryz.underlying9 h1)<|Pl 1<|L0<|jv (.string (strOfNums ys)) (cz (A:=B) (n:=ys.length) (c:=d) rfl (by kernel_rfl) Tryz.underlying27 Tryz.underlying5 Tryz.underlying9 h2)<|L0<|jv (.bool (decide (xs=ys))) (eF (a:=(strOfNums xs)) (b:=(strOfNums ys)) rfl (by kernel_rfl) (by kernel_rfl) (jy h1 h2))<|Pl 1<|nl<|tn<|rt<|rr (.bool (decide (xs=ys)))<|⟨rfl,(ay.refl [] _)⟩
theorem jh{m m':Md}{a b:Value}{xs ys:List Int}{w:World}(h1:aW m w a xs)(h2:aW m' w b ys) : Calls Tryz.prog 29 #[a,b] w (bS (.bool (decide (xs=ys))) w):=by
  obtain⟨A,c,rfl,_,_⟩:=h1.shape
  obtain⟨B,d,rfl,_,_⟩:=h2.shape
  exact sm h1 h2
open Go.RowKit
open Go.RowKit
open Go.RowKit
deriving instance DecidableEq for Ev
end Go.Proofs.YtdkhbcefkfgbdaaGreat
namespace Go.Proofs.YtdkhbcefkfgbdaaGreat
theorem jW{S S2 S3:SA}{a b:List Int}{L L2:List Ev}(h:S.feed a=(S2,L))(hX:S2.feed b=(S3,L2)) : S.feed (a++b)=(S3,L++L2):=by
  have gen:∀ (b:List Int) (T:SA) (K:List Ev),b.foldl (fun(p:SA × List Ev) c=>((p.1.byte c).1,p.2++(p.1.byte c).2)) (T,K)=((T.feed b).1,K++(T.feed b).2):=by
    intro b
    induction b with
    | nil=>intro T K;simp[SA.feed]
    | cons c t ih =>
      intro T K
      unfold SA.feed
      rw[List.foldl_cons,List.foldl_cons,ih,ih]
      simp
  unfold SA.feed at h ⊢
  rw[List.foldl_append,h,gen,hX]
theorem lN{S:SA}{c:Int}:S.feed [c]=S.byte c:=by
  unfold SA.feed
  simp
theorem ze{h:List Int}{c:Int}(hc:c≠10) : fL (h++[c]) [13,10]=false:=by
  unfold fL
  rw[Bool.and_eq_false_iff]
  by_cases hl:2≤(h++[c]).length
  · refine .inr (decide_eq_false fun e=>hc ?_)
    have hn:((((h++[c]).length:Nat) : Int)-(([13,10] : List Int).length:Nat)).toNat=h.length-1:=by
      rw[List.length_append,List.length_cons,List.length_nil]
      show((((h.length+(0+1)) : Nat) : Int)-2).toNat=_
      omega
    rw[hn] at e
    have hl2:1≤h.length:=by rw[List.length_append,List.length_cons,List.length_nil] at hl;omega
    have h1:((h++[c]).drop (h.length-1))[1]? = some c:=by
      rw[List.getElem?_drop,List.getElem?_append_right (by omega)]
      rw[show h.length-1+1-h.length=0 by omega]
      rfl
    rw[e] at h1
    injection h1 with h1
    exact h1.symm
  · refine .inl (decide_eq_false ?_)
    show ¬ (2:Int)≤_
    omega
theorem oo{d:Int}{h:List Int}{c:Int}(h0:0<h.length)(hl:h.length<513)(a:c≠58)(b:c≠10) : (SA.mk d h).byte c=(SA.mk d (h++[c]),[]) :=
  xT (T:=SA.mk d h) (by rw[show(c==58)=false from beq_eq_false_iff_ne.2 a];rfl) (by rw[Bool.and_eq_false_iff];refine .inr (beq_eq_false_iff_ne.2 ?_);show((h.length:Nat) : Int)≠0;omega) (by refine decide_eq_false ?_;show ¬ (513:Int)<(((h++[c]).length:Nat) : Int);rw[List.length_append,List.length_cons,List.length_nil];omega) (ze b)
theorem tX{d:Int}:∀ (l h:List Int),0<h.length→h.length+l.length≤513→(∀ x,x∈l→x≠58∧x≠10)→(SA.mk d h).feed l=(SA.mk d (h++l),[])
  | [],h,_,_,_=>by rw[List.append_nil];rfl
  | c :: t,h,h0,hl,hx=>by
    have hc:=hx c (List.mem_cons_self ..)
    rw[List.length_cons] at hl
    have e:(SA.mk d h).feed [c]=(SA.mk d (h++[c]),[]):=by rw[lN];exact oo h0 (by omega) hc.1 hc.2
    have q:=jW e (tX (d:=d) t (h++[c]) (by rw[List.length_append];omega) (by rw[List.length_append,List.length_cons,List.length_nil];omega) (fun x hx'=>hx x (List.mem_cons_of_mem _ hx')))
    simpa using q
theorem Am{d:Int}{h:List Int}{F:aM}{E:Int}(h0:0<h.length)(hl:h.length+2≤513)(hP:ee d (h++[13,10])=(F,E)) : (SA.mk d h).feed [13,10]=(SA.mk d [],[Ev.mk E F]):=by
  have e:(SA.mk d h).feed [13]=(SA.mk d (h++[13]),[]):=by rw[lN];exact oo h0 (by omega) (by decide) (by decide)
  have e2:(SA.mk d (h++[13])).feed [10]=(SA.mk d [],[Ev.mk E F]):=by
    rw[lN]
    have ha:(h++[13])++[10]=h++[13,10]:=by simp
    refine yh (T:=SA.mk d (h++[13])) (by simp) ?_ ?_ ?_ (by show ee d ((h++[13])++[10])=_;rw[ha];exact hP)
    · rw[Bool.and_eq_false_iff]
      refine .inr (beq_eq_false_iff_ne.2 ?_)
      show(((h++[13]).length:Nat) : Int)≠0
      rw[List.length_append,List.length_cons,List.length_nil]
      omega
    · refine decide_eq_false ?_
      show ¬ (513:Int)<((((h++[13])++[10]).length:Nat) : Int)
      rw[ha,List.length_append]
      show ¬ (513:Int)<((h.length+2:Nat) : Int)
      omega
    · show fL ((h++[13])++[10]) [13,10]=true
      rw[ha]
      unfold fL
      rw[Bool.and_eq_true]
      refine⟨decide_eq_true ?_,decide_eq_true ?_⟩
      · rw[List.length_append];show(2:Int)≤((h.length+2:Nat) : Int);omega
      · have hn:((((h++[13,10]).length:Nat) : Int)-(([13,10] : List Int).length:Nat)).toNat=h.length:=by
          rw[List.length_append]
          show(((h.length+2:Nat) : Int)-2).toNat=_
          omega
        rw[hn,List.drop_left]
  exact jW e e2
theorem Aa{b:List Int}(h:d5 b) : ∀ x,x∈dD b→x≠58∧x≠10:=by
  have hd:∀ n:Int,0≤n∧n<16→er n≠58∧er n≠10:=fun n hn=>by
    unfold er
    split<;>omega
  induction b with
  | nil=>intro x hx;cases hx
  | cons c t ih =>
    have hc:=h c (List.mem_cons_self ..)
    have ht:d5 t:=fun x hx=>h x (List.mem_cons_of_mem _ hx)
    intro x hx
    simp only[dD,List.mem_cons] at hx
    rcases hx with rfl|rfl|hx
    · exact hd _ (by omega)
    · exact hd _ (by omega)
    · exact ih ht x hx
end Go.Proofs.YtdkhbcefkfgbdaaGreat
namespace Go.Proofs.YtdkhbcefkfgbdaaGreat
theorem qP{b:List Int}{k:Nat}(hk:k<b.length) : b.take k++[b.getD k 0]=b.take (k+1):=by
  rw[List.take_succ_eq_append_getElem hk,List.getD_eq_getElem?_getD,List.getElem?_eq_getElem hk]
  rfl
theorem mw{b:List Int}{i k:Nat}(h:i<k) : (b.take k).getD i 0=b.getD i 0:=by
  rw[List.getD_eq_getElem?_getD,List.getD_eq_getElem?_getD,List.getElem?_take,if_pos h]
theorem qN{d s:Int}{b:List Int}{k:Nat}(h:6≤k) : (SM.mk d (b.take k) s).size=b.getD 4 0*256+b.getD 5 0:=by
  unfold SM.size
  rw[mw (by omega),mw (by omega)]
theorem xK{d:Int}{b:List Int}{k:Nat}(hl:(b.length:Int)=6+(b.getD 4 0*256+b.getD 5 0))(h1:2≤b.getD 4 0*256+b.getD 5 0)(h2:b.getD 4 0*256+b.getD 5 0≤254)(hk:k+1<b.length) :
    (SM.mk d (b.take k) 0).byte (b.getD k 0)=(SM.mk d (b.take (k+1)) 0,[]):=by
  have e:=yc (T:=SM.mk d (b.take k) 0) (c:=b.getD k 0) (show ¬ (0:Int)<0 by omega)
  simp only[qP (show k<b.length by omega)] at e
  refine e ?_
  have hlen:(b.take (k+1)).length=k+1:=by rw[List.length_take];omega
  unfold SM.nx
  by_cases h6:k+1<6
  · rw[if_pos (by show(b.take (k+1)).length<6;omega)]
  · rw[if_neg (by show ¬ (b.take (k+1)).length<6;omega),qN (by omega),if_neg (by omega),if_neg (by omega),if_neg (by show ¬ ((b.take (k+1)).length:Int)=_;omega)]
theorem ug{d:Int}{b:List Int}(hl:(b.length:Int)=6+(b.getD 4 0*256+b.getD 5 0))(h1:2≤b.getD 4 0*256+b.getD 5 0)(h2:b.getD 4 0*256+b.getD 5 0≤254) :
    ∀ k,k<b.length→(SM.mk d (b.take k) 0,[])=(SM.mk d [] 0).feed (b.take k)
  | 0,_=>rfl
  | k+1,hk=>by
    have ih:=ug (d:=d) hl h1 h2 k (by omega)
    exact mr (by omega) ih (xK hl h1 h2 hk)
theorem uF{d:Int}{b:List Int}{F:aM}{E:Int}(hl:(b.length:Int)=6+(b.getD 4 0*256+b.getD 5 0))(h1:2≤b.getD 4 0*256+b.getD 5 0)(h2:b.getD 4 0*256+b.getD 5 0≤254)(hP:cE d b=(F,E)) :
    (SM.mk d [] 0).feed b=(SM.mk d [] 0,[⟨E,F⟩]):=by
  obtain⟨k,hk⟩ : ∃ k,b.length=k+1:=⟨b.length-1,by omega⟩
  have ih:=ug (d:=d) hl h1 h2 k (by omega)
  have ht:b.take (k+1)=b:=List.take_of_length_le (by omega)
  have hx:(SM.mk d (b.take k) 0).byte (b.getD k 0)=(SM.mk d [] 0,[⟨E,F⟩]):=by
    have e:=wS (T:=SM.mk d (b.take k) 0) (c:=b.getD k 0) (F:=F) (E:=E) (show ¬ (0:Int)<0 by omega)
    simp only[qP (show k<b.length by omega)] at e
    refine e ?_ (by rw[ht];exact hP)
    unfold SM.nx
    rw[if_neg (by show ¬ (b.take (k+1)).length<6;rw[ht];omega),qN (by omega),if_neg (by omega),if_neg (by omega),if_pos (by show((b.take (k+1)).length:Int)=_;rw[ht];omega)]
  have q:=kA (by omega) ih hx
  rw[ht] at q
  exact q.symm
theorem uG{dir u t:Int}{M:b7}{b:List Int}(hd:dir=0∨dir=1)(hM:(0≤M.code∧M.code<256)∧(0≤M.fail∧M.fail<256))(ht:0≤t∧t<65536)(h:eq dir u t M=some b) : (SM.mk dir [] 0).feed b=(SM.mk dir [] 0,[⟨0,⟨u,t,M⟩⟩]):=by
  obtain⟨_,_,_,h4,_⟩:=wd hM.1 h
  have h5:=pP hM.1 h
  exact uF (by omega) (by omega) (by omega) (zx hd hM.1 hM.2 ht h)
open Go.RowKit
theorem xD{d u t:Int}{M:b7}{b:List Int}(hd:d=0∨d=1)(hM:(0≤M.code∧M.code<256)∧(0≤M.fail∧M.fail<256))(hW:gK d u t M=some b) : (XS.r ⟨d,[],false⟩).take b true=(XS.r ⟨d,[],false⟩,[⟨0,⟨u,t,M⟩⟩]):=by
  have hl:=u2 hM.1 hW
  have e1:(SS.mk d [] false).feed b=(SS.mk d b false,[]):=by
    unfold SS.feed
    rw[if_neg (by simp),if_pos (by rw[decide_eq_true_eq];show b.length≤256-0;omega)]
    simp
  show(XS.r ((SS.mk d [] false).feed b).1.tick.1,((SS.mk d [] false).feed b).2++((SS.mk d [] false).feed b).1.tick.2)=_
  rw[e1]
  show(XS.r ⟨d,[],false⟩,(if b.length=0 then ([] : List Ev) else [⟨(eN d b).2,(eN d b).1⟩]))=_
  rw[if_neg (by omega),CD hd hM.1 hM.2 hW]
theorem wO{d u t:Int}{M:b7}{b:List Int}(hd:d=0∨d=1)(hu:0≤u∧u<256)(hM:(0≤M.code∧M.code<256)∧(0≤M.fail∧M.fail<256))(hb:∀ l,dc d M=some l→d5 l)(h:gM d u t M=some b) : (SA.mk d []).feed b=(SA.mk d [],[⟨0,⟨u,t,M⟩⟩]):=by
  have hP:=CF hd hu hM.1 hM.2 hb h
  obtain⟨h0,l,h1,h2,h3⟩:=hH h
  have hx:=oz hu (hb l h1)
  rw[h2,ml] at hP
  rw[h2,ml]
  have g1:(SA.mk d []).feed [58]=(SA.mk d [58],[]):=by
    rw[lN]
    exact xT (T:=SA.mk d []) (by simp) (by simp) (by simp) (by simp[fL])
  have g3:=tX (d:=d) (dD (mM u l)) [58] (by decide) (by rw[dM,i9,List.length_cons,List.length_nil];omega) (Aa hx)
  have g4:=Am (d:=d) (h:=[58]++dD (mM u l)) (by simp) (by rw[List.length_append,dM,i9,List.length_cons,List.length_nil];omega) hP
  exact jW (jW g1 g3) g4
theorem bu{k d u t:Int}{M:b7}{b:List Int}(hd:d=0∨d=1)(hu:0≤u∧u<256)(ht:0≤t∧t<65536)(hM:(0≤M.code∧M.code<256)∧(0≤M.fail∧M.fail<256))(hb:∀ l,dc d M=some l→d5 l)(h:gf k d u t M=some b) : (XS.zero k d).take b true=(XS.zero k d,[⟨0,⟨u,t,M⟩⟩]):=by
  rcases(jj h).1 with rfl|rfl|rfl
  · exact xD hd hM h
  · show(XS.a ((SA.mk d []).feed b).1,((SA.mk d []).feed b).2++[])=_
    rw[wO hd hu hM hb h]
    rfl
  · show(XS.m ((SM.mk d [] 0).feed b).1,((SM.mk d [] 0).feed b).2++[])=_
    rw[uG hd hM ht h]
    rfl
theorem pcS.upd{m:Md}{w w':World}{X:List Nat}(hu:ay X w w')(hs:bV m gC X w)(p:Pc)(cs:List Value)(h:DP m w p cs) : DP m w' p cs:=by
  obtain⟨v,h1,h2⟩:=h
  exact⟨v,h1,aW.upd' h2 hu (hs.sub (by decide))⟩
theorem pcS.ones{m:Md}{w:World}:∀ (x:Pc)(cs:List Value),DP m w x cs→∀ v,v∈cs→v.oneCell'=true:=fun x cs ⟨v,h1,h2⟩ u hu=>by
  rw[h1] at hu
  obtain⟨A,c,e,_⟩:=h2.shape
  rcases List.mem_cons.1 hu with e2|hu
  · rw[e2,e];rfl
  · rw[List.mem_singleton] at hu;rw[hu];rfl
def xA (w0 w:World)(x:Ev)(cs:List Value) : Prop:=kg false w0 x cs∧ay [] w0 w
theorem xA.upd{w0 w w':World}{X:List Nat}(hu:ay X w w')(hx:∀ x,x∈X→w0.heap.size≤x)(x:Ev)(cs:List Value)(h:xA w0 w x cs) : xA w0 w' x cs:=⟨h.1,ay.trans' h.2 hu (fun y hy=>.inr (hx y hy))⟩
theorem xA.ev{w0 w:World}(x:Ev)(cs:List Value)(h:xA w0 w x cs) : kg false w x cs:=kg.upd h.2 (bV.nil _ _ _) x cs h.1
theorem xA.ones{w0 w:World}:∀ (x:Ev)(cs:List Value),xA w0 w x cs→∀ v,v∈cs→v.oneCell'=true:=fun x cs h=>kg.ones x cs h.1
theorem aH.fls{m:Md}{w:World}{cs:List Value}{M:b7}(h:aH m w cs M) : aH false w cs M:=by
  obtain⟨vw,vb,vd,vr,vo,h0,h1,h2,h3,h4,h5,h6⟩:=h
  exact⟨vw,vb,vd,vr,vo,h0,aT.any h1 fun _ _ q=>q,aT.any h2 fun _ _ q=>q,aT.any h3 fun _ _ q=>q,aT.any h4 fun r cs ⟨v,a,b,c⟩=>⟨v,a,aT.any b fun _ _ q=>q,c⟩,aT.any h5 fun r cs ⟨v,a,b,c⟩=>⟨v,a,aT.any b fun _ _ q=>q,c⟩,h6⟩
theorem xA.mk{m:Md}{w0 w:World}{u t:Int}{M:b7}{s:SL}(h:aH m w0 (jq M s).toList M)(hu:0≤u∧u<256)(ht:0≤t∧t<65536)(k:ay [] w0 w) : xA w0 w (Ev.mk 0 ⟨u,t,M⟩) (xV ⟨0,⟨u,t,M⟩⟩ s).toList:=⟨⟨s,rfl,h.fls,hu,ht⟩,k⟩
theorem OwnU.any{w0 w:World}{base:Nat}{v:Value}{xs:List Ev}(h:aQ base 87 25 (xA w0) w v xs) : wE false w v xs:=aT.any h.rd xA.ev
end Go.Proofs.YtdkhbcefkfgbdaaGreat
