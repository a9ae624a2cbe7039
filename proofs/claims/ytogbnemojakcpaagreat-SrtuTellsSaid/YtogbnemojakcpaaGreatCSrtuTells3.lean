/- Contracts of functions, part CSrtuTells3. -/
import Derived.Test.YtogbnemojakcpaaGreatCSrtuTells1
import Derived.Test.YtogbnemojakcpaaGreatCSrtuTells2
import Derived.OpenShut
import Derived.Below
import Derived.Deep.Upon
import Derived.Laws.BitsAllLaws
import Derived.Laws.StructEq
set_option linter.unusedVariables false
set_option linter.unusedSimpArgs false
set_option maxRecDepth 100000
set_option maxHeartbeats 4000000
namespace Go.Proofs.YtogbnemojakcpaaGreat
open Go.RowKit
structure GF (E:Fence) (m:Nat) (P:Program) (ops:Array Oper) (Q:Exit→Act→World→Prop) (l:List Oper) (n:Nat) (D:List Deferred) (F:Fr) (w:World) : Prop where
  out:∀ a,Ag n D F a→WF E m P ops Q l a w
structure GI (E:Fence) (m:Nat) (P:Program) (c:Code) (Q:Exit→Act→World→Prop) (n:Nat) (D:List Deferred) (F:Fr) (w:World) : Prop where
  out:∀ a,Ag n D F a→c.wpIn E m P Q a w
section
variable {E:Fence}{m:Nat}{P:Program}{Q:Exit→Act→World→Prop}{n:Nat}{D:List Deferred}{F:Fr}{w:World}{ops:Array Oper}{rest l:List Oper}{d:Option Tmp}{op:Op}{t:TypeId}{s:String}{af:Array Edge}{gu:Option (Nat × Bool)}{x y c:Code}{id:Nat}
theorem uX(m:Nat)(h:GF Fence.wide m P l.toArray Q l n D F w) : GC P (.region id l.toArray false) Q n D F w:=⟨fun a ha=>vU m (h.out a ha)⟩
theorem tF(h:GF E m P l.toArray Q l n D F w) : GI E m P (.region id l.toArray false) Q n D F w:=⟨fun a ha=>vh (h.out a ha)⟩
theorem uV(h:GI E m P c (Exit.inBlock id Q) n D F w) : GI E m P (.block id c) Q n D F w:=⟨fun a ha=>wpIn_block (h.out a ha)⟩
theorem pn(h:GQ Q .normal n D F w) : GF E m P ops Q [] n D F w:=⟨fun a ha=>uU (h.out a ha)⟩
theorem vK(hE:dR E)(h:OG P ⟨d,op,t,s,af,gu⟩ n D F w (GF E m P ops Q rest n D) Q)(hw:iS ops F gu=(true,true))(hd:eL op=true) : GF E m P ops Q (⟨d,op,t,s,af,gu⟩ :: rest) n D F w :=
  ⟨fun a ha=>vI hE hd (eC ha hw) (h.out a ha _ fun F' w' a' k ha'=>k.out a' ha')⟩
theorem vC(hE:dR E){o:Oper}(h:GF E m P ops Q rest n D (n7 P ops w F o) w)(hc:so P ops w n 1 (o :: rest) F=sn P ops w 1 (o :: rest) F)(hd:eL o.op=true) : GF E m P ops Q (o :: rest) n D F w:=by
  simp only[so,sn,List.cons.injEq,Prod.mk.injEq,Bool.and_eq_true] at hc
  obtain⟨⟨⟨h1,h2,h3⟩,h4⟩,h5⟩:=hc
  refine⟨fun a ha=>?_⟩
  cases hon:(iS ops F o.guard).2 with
  | true =>
    rw[hon] at h3 h4
    simp only[cond_true] at h3 h4
    have hst:n7 P ops w F o=pt o.dst (vo P w F o) F:=by simp[n7,hon]
    rw[hst] at h
    exact vI hE hd (eC ha (Prod.ext h1 hon)) (f5 (N:=o.dst) (vo P w F o) rfl (by rw[← fF ha h3];exact h4) (h.out _ (ha.put h2)))
  | false =>
    have hst:n7 P ops w F o=pt o.dst undef F:=by simp[n7,hon]
    rw[hst] at h
    exact v5 (N:=o.dst) hE (eC ha (Prod.ext h1 hon)) rfl (h.out _ (ha.put h2))
theorem F0(h:OG P ⟨d,op,t,s,af,gu⟩ n D F w (GF Fence.wide m P ops Q rest n D) Q)(hw:iS ops F gu=(true,true):=by kernel_rfl)(hd:eL op=true:=by kernel_rfl) : GF Fence.wide m P ops Q (⟨d,op,t,s,af,gu⟩ :: rest) n D F w:=vK iQ h hw hd
theorem jx{q:Nat}(h:OG P ⟨d,op,t,s,af,gu⟩ n D F w (GF (Fence.wide.inRound q) m P ops Q rest n D) Q)(hw:iS ops F gu=(true,true):=by kernel_rfl)(hd:eL op=true:=by kernel_rfl) : GF (Fence.wide.inRound q) m P ops Q (⟨d,op,t,s,af,gu⟩ :: rest) n D F w:=vK (i9 _) h hw hd
theorem Fp{o:Oper}(h:GF Fence.wide m P ops Q rest n D (n7 P ops w F o) w)(hc:so P ops w n 1 (o :: rest) F=sn P ops w 1 (o :: rest) F:=by kernel_rfl)(hd:eL o.op=true:=by kernel_rfl) : GF Fence.wide m P ops Q (o :: rest) n D F w:=vC iQ h hc hd
theorem tC{q:Nat}{o:Oper}(h:GF (Fence.wide.inRound q) m P ops Q rest n D (n7 P ops w F o) w)(hc:so P ops w n 1 (o :: rest) F=sn P ops w 1 (o :: rest) F:=by kernel_rfl)(hd:eL o.op=true:=by kernel_rfl) : GF (Fence.wide.inRound q) m P ops Q (o :: rest) n D F w:=vC (i9 _) h hc hd
theorem v4(j:Nat)(e:Bool)(ht:e=true→GF E m P ops Q l n D ((j,.bool true) :: F) w)(hf:e=false→GF E m P ops Q l n D ((j,.bool false) :: F) w)(hv:lk F j=some (.bool e):=by kernel_rfl) : GF E m P ops Q l n D F w:=by
  refine⟨fun a ha=>?_⟩
  have key:∀ b,e=b→Ag n D ((j,.bool b) :: F) a:=fun b hb=>⟨ha.sz,ha.df,fun i v hi=>by
    rcases eZ hi with⟨rfl,rfl⟩|⟨_,h2⟩
    · rw[← hb];exact ha.at_ _ _ hv
    · exact ha.at_ _ _ h2⟩
  rcases fN e with q|q
  · exact(ht q).out a (key _ q)
  · exact(hf q).out a (key _ q)
theorem Fy{x:Operand}{opds:Array Operand}{ts:Array TypeId}{q:Nat}{r:Loop}(v:Value)(p:Tmp)(hl:w.heap[q]? = some (.loop r))(hp:r.params = #[p])
    (h:RoundIn Fence.wide (m-1) P q r.fn (r.tmps.setIfInBounds p v) r.assign r.body w (fun e w'=>∃ u,e = .returned u∧GF Fence.wide m P ops Q rest n D (pt d u F) w'))
    (hw:iS ops F gu=(true,true):=by kernel_rfl) (hx:dQ F x=some (.func (.yield q) #[] #[]):=by kernel_rfl) (ha:opds.toList.map (dQ F)=[some v]:=by kernel_rfl) (hd:eR n d=true:=by kernel_rfl) :
    GF Fence.wide m P ops Q (⟨d,.call { callee:=.value x,args:=opds,argTypes:=ts },t,s,af,gu⟩ :: rest) n D F w :=
  ⟨fun a hag=>sf v p (eC hag hw) rfl rfl (hag.ev hx) (by apply Array.toList_inj.1;rw[Array.toList_map];exact kP (vs:=[v]) hag ha) hl hp (h.mono fun e w' hh=>by
    obtain⟨u,rfl,hk⟩:=hh
    exact⟨u,rfl,hk.out _ (hag.put hd)⟩)⟩
theorem mh{g:Operand}{ps:Array Tmp}{assign body:Code}{f:FuncId}(cap:Array Value)
    (h:∀ a,Ag n D F a→∀ fn0 D' q w₂,w.heap.size≤D'→w.heap.size≤q→D'≠q→w₂.heap[D']? = some (.deferred (some []))→w₂.heap[q]? = some (.loop { state:=.ready,pending:=none,fn:=fn0,tmps:=a.tmps,params:=ps,assign:=assign,body:=body,defers:=D' })→az [] w w₂ →
      Calls P f (#[.func (.yield q) #[] #[]]++cap) w₂ (fun e w₃=>∃ v r',e = .returned v∧w₃.heap[q]? = some (.loop r')∧r'.state≠.busy∧r'.pending=none∧∀ w₄,az [q] w₃ w₄→GQ Q .normal n ({ target:=.collected D',args:=#[] } :: D) F w₄))
    (hx:dQ F g=some (.func (.func f) #[] cap):=by kernel_rfl) (hf:tU P f=some (false,true):=by kernel_rfl) : GC P (.rangeFunc g ps assign body) Q n D F w:=by
  obtain⟨fn,h1,h2,h3⟩:=j6 hf
  refine⟨fun a ha=>q7 cap (ha.ev hx) h1 h2 h3 fun fn0 D' q w₂ g1 g2 g3 g4 g5 g6=>(h a ha fn0 D' q w₂ g1 g2 g3 g4 g5 g6).mono fun e w₃ hh=>?_⟩
  obtain⟨v,r',k1,k2,k3,k4,k5⟩:=hh
  exact⟨v,r',k1,k2,k3,k4,fun w₄ hu=>(k5 w₄ hu).out _ ⟨ha.sz,by rw[ha.df],ha.at_⟩⟩
theorem va{a:Act}(ha:Ag n D F a)(p:Tmp){v:Value}(h:GI E m P c Q n [] ((p,v) :: F) w)(hp:Nat.blt p n=true:=by kernel_rfl) : c.wpIn E m P Q { tmps:=a.tmps.setIfInBounds p v,defers:=[] } w:=by
  have h0:Ag n [] F { tmps:=a.tmps,defers:=[] }:=⟨ha.sz,rfl,ha.at_⟩
  exact h.out _ (h0.put (d:=some p) hp)
theorem uY{r:Loop}{q:Nat}{c:Code}{Qb:Exit→Act→World→Prop}(h1:w.heap[q]? = some (.loop r))(h2:r.state = .ready)(h:∀ w₂,w₂.heap[q]? = some (.loop { r with state:=.busy })→az [q] w w₂→GI E m P c Qb n D F w₂) :
    GQ (Exit.then (fun a₁ w₁=>w₁.heap[q]? = some (.loop r)∧r.state = .ready∧∀ w₂,w₂.heap[q]? = some (.loop { r with state:=.busy })→az [q] w₁ w₂→c.wpIn E m P Qb a₁ w₂) Q) .normal n D F w:=⟨fun a ha=>⟨h1,h2,fun w₂ k1 k2=>(h w₂ k1 k2).out a ha⟩⟩
theorem uP{r:Loop}{q:Nat}{Z:World→Prop}(h1:w.heap[q]? = some (.loop r))(h:∀ w₄,w₄.heap[q]? = some (.loop { r with state:=.ready,pending:=none })→az [q] w w₄→Z w₄) :
    GQ (Exit.then (fun _ w₃=>∃ r',w₃.heap[q]? = some (.loop r')∧∀ w₄,w₄.heap[q]? = some (.loop { r' with state:=.ready,pending:=none })→az [q] w₃ w₄→Z w₄) Q) .normal n D F w:=⟨fun a ha=>⟨r,h1,h⟩⟩
end
section
variable {P:Program}{n:Nat}{F:Fr}{w:World}{fn:Func}{R:Ending→World→Prop}
theorem tD{f:FuncId}{c:Code}{args:List Value}{w:World}(n:Nat)(hf:P.funcs[f]? = some fn)(hb:fn.body=some c)
    (h:GC P c (bodyPostM Fence.wide 9 P fn R) n [] (ql 0 args) w) (hn:args.length+(fn.ntmps-args.length)=n:=by kernel_rfl) : Calls P f args.toArray w R:=by
  subst hn
  exact lc hf hb (by simpa using h.out _ (vu (args:=args) (m:=fn.ntmps-args.length)))
theorem tH{D:Nat}(hD:w.heap[D]? = some (.deferred (some [])))(h:∀ w',az [D] w w'→GQ (fun _ a w'=>∃ v,(results fn a.tmps).run P w' = .ok v w'∧R (.returned v) w') .ret n [{ target:=.collected D,args:=#[] }] F w') : GQ (bodyPostM Fence.wide 9 P fn R) .ret n [{ target:=.collected D,args:=#[] }] F w :=
  ⟨fun a ha=>sD ha.df hD fun w' hu=>(h w' hu).out a ha⟩
theorem rx{D:List Deferred}{g:Nat}{cs:Array Value}{t:TypeId}{fr:Nat × Nat}(B:w.heap[g]? = some (.cells cs t fr))(u:Value)(h:R (.returned (.tuple #[.agg cs,u])) w)(hc:tG P fn.results F=some (some (.pointer (some ⟨g,0,none⟩)),some u,some true,some cs.size):=by kernel_rfl) : GQ (fun _ a w'=>∃ v,(results fn a.tmps).run P w' = .ok v w'∧R (.returned v) w') .ret n D F w :=
  ⟨fun a ha=>⟨_,it ha B rfl hc,h⟩⟩
theorem ry{g:Nat}{cs:Array Value}{t:TypeId}{fr:Nat × Nat}(B:w.heap[g]? = some (.cells cs t fr))(u:Value)(h:R (.returned (.tuple #[.agg cs,u])) w)(hc:tG P fn.results F=some (some (.pointer (some ⟨g,0,none⟩)),some u,some true,some cs.size):=by kernel_rfl) : GQ (bodyPostM Fence.wide 9 P fn R) .ret n [] F w :=
  ⟨fun a ha=>rF ha.df ⟨_,it ha B rfl hc,h⟩⟩
end
open Go.RowKit
def ti (mk:Nat→Value)(w:World)(e:Ending)(w':World) : Prop:=∃ gs,e = .returned (.tuple #[mk gs,.bool true])∧w.heap.size≤gs∧w'.heap[gs]? = some (.cells #[.int .i64 0] 3 (0,0))∧az [] w w'
def v7 (gs:Nat) : Value:=.agg #[.func (.func 252) #[] #[],.func (.func 250) #[] #[.pointer (some ⟨gs,0,none⟩)]]
def v9 (gs:Nat) : Value:=.agg #[.func (.func 253) #[] #[],.func (.func 254) #[] #[]]
def uK (gs:Nat) : Value:=.agg #[.func (.func 255) #[] #[],.func (.func 256) #[] #[]]
theorem rI{w:World}:Calls Tryz.prog 209 #[.int .i64 0,.int .u8 20] w (ti v7 w):=by
 refine en 27 Tryz.func209 rfl<|sg<|L0<|bD #[.nilFunc,.nilFunc] fun m n g b c=>Pl 1<|ng<|L0<|bD #[.int .i64 0] fun d o a h i=>L0<|bC h 0 #[.int .i64 0] fun p j k=>nt<|sq<|?_
 refine go<|Pl 2<|nt<|sq<|bk<|sg<|Pl 7<|nt<|c1<|sg<|?_
 refine Pl 2<|?_
 have e:=ud i k a
 refine L0<|aT (ub e b) #[.func (.func 252) #[] #[],.func (.func 250) #[] #[.pointer (some ⟨d,0,none⟩)]] fun q l f=>Pl 1<|nt<|rt<|br<|tr<|bu l (.bool true)<|?_
 exact⟨d,rfl,(Nat.le_trans c.size a),(aK f (Ne.symm (nb (ak b) lr a)) j),(ud c (uz e f) g)⟩
theorem sb{w:World}:Calls Tryz.prog 209 #[.int .i64 1,.int .u8 20] w (ti v9 w):=by
 refine en 27 Tryz.func209 rfl<|sg<|L0<|bD #[.nilFunc,.nilFunc] fun m n f b c=>Pl 1<|ng<|L0<|bD #[.int .i64 0] fun g o a h i=>L0<|bC h 0 #[.int .i64 0] fun p j k=>nt<|sq<|?_
 refine go<|Pl 2<|nt<|sq<|bk<|sg<|Pl 7<|nt<|c0<|sg<|?_
 refine Pl 3<|nt<|c1<|sg<|Pl 1<|?_
 have d:=ud i k a
 refine L0<|aT (ub d b) #[.func (.func 253) #[] #[],.func (.func 254) #[] #[]] fun q l e=>Pl 1<|nt<|rt<|br<|tr<|bu l (.bool true)<|?_
 exact⟨g,rfl,(Nat.le_trans c.size a),(aK e (Ne.symm (nb (ak b) lr a)) j),(ud c (uz d e) f)⟩
theorem sd{dir:Int}{w:World}:Calls Tryz.prog 209 #[.int .i64 dir,.int .u8 21] w (ti uK w):=by
 refine en 27 Tryz.func209 rfl<|sg<|L0<|bD #[.nilFunc,.nilFunc] fun m n f b c=>Pl 1<|ng<|L0<|bD #[.int .i64 0] fun g o a h i=>L0<|bC h 0 #[.int .i64 0] fun p j k=>nt<|sq<|?_
 refine go<|Pl 2<|nt<|sq<|bk<|sg<|Pl 7<|nt<|c0<|sg<|?_
 refine Pl 3<|nt<|c0<|sg<|Pl 3<|nt<|c1<|sg<|Pl 1<|?_
 have d:=ud i k a
 refine L0<|aT (ub d b) #[.func (.func 255) #[] #[],.func (.func 256) #[] #[]] fun q l e=>Pl 1<|nt<|rt<|br<|tr<|bu l (.bool true)<|?_
 exact⟨g,rfl,(Nat.le_trans c.size a),(aK e (Ne.symm (nb (ak b) lr a)) j),(ud c (uz d e) f)⟩
theorem m0{dir x:Int}{w:World}(n1:(x==20)=false)(n2:(x==21)=false) : Calls Tryz.prog 209 #[.int .i64 dir,.int .u8 x] w (c8 (.tuple #[.agg #[.nilFunc,.nilFunc],.bool false]) w):=by
 refine en 27 Tryz.func209 rfl<|sg<|L0<|bD #[.nilFunc,.nilFunc] fun k l b c d=>Pl 1<|ng<|L0<|bD #[.int .i64 0] fun m n e f g=>L0<|bC f 0 #[.int .i64 0] fun o p h=>nt<|sq<|?_
 refine go<|Pl 2<|nt<|sq<|bk<|sg<|Pl 3<|sy 12 n1<|Pl 4<|nt<|c0<|?_
 refine sg<|Pl 3<|nt<|cf n1<|sg<|Pl 3<|nt<|cf n2<|sk<|bn<|?_
 refine tn<|sg<|Pl 1<|?_
 have a:=ud g h e
 refine L0<|aT (ub a c) #[.nilFunc,.nilFunc] fun q i j=>Pl 1<|nt<|rt<|bu i (.bool false)<|?_
 exact⟨rfl,(ud d (uz a j) b)⟩
theorem iJ{gb:Nat}{f:Fn}{x y:Array Value}{w:World}:Calls Tryz.prog 210 #[.pointer (some ⟨gb,0,none⟩),.func f x y] w (fun e w'=>∃ b1 b2,e = .returned (.func (.func 257) #[] #[.pointer (some ⟨b1,0,none⟩),.pointer (some ⟨b2,0,none⟩)])∧w.heap.size≤b1∧w.heap.size≤b2∧b1≠b2 ∧
      w'.heap[b1]? = some (.cells #[.pointer (some ⟨gb,0,none⟩)] 113 (0,0))∧w'.heap[b2]? = some (.cells #[.func f x y] 212 (0,0))∧az [] w w'):=by
 refine en 6 Tryz.func210 rfl<|sg<|L0<|dC #[.pointer (some ⟨gb,0,none⟩)] fun a k i b c=>L0<|dC #[.func f x y] fun d l g j h=>Pl 1<|ng<|Pl 2<|nt<|rt<|?_
 refine rr (.func (.func 257) #[] #[.pointer (some ⟨a,0,none⟩),.pointer (some ⟨d,0,none⟩)])<|?_
 exact⟨a,d,rfl,i,(Nat.le_trans c.size g),(nb (ak b) lr g),(ub h b),j,(aE c h)⟩
theorem oe{g gs:Nat}{s:Int}{C:ai}{w:World}(hC:ag w g C)(hS:w.heap[gs]? = some (.cells #[.int .i64 s] 3 (0,0)))(hne:g≠gs)(hs:0≤s∧s≤1000000000000) :
    Calls Tryz.prog 250 #[.pointer (some ⟨g,0,none⟩),.pointer (some ⟨gs,0,none⟩)] w (fun e w'=>∃ A c,e = .returned (.agg #[.int .u16 (aF C).file,.int .u16 (aF C).record,.int .u16 (aF C).count,.slice A (aF C).words.length c])∧ei true w' (.slice A (aF C).words.length c) (aF C).words∧dF (aF C).file∧dF (aF C).record∧dF (aF C).count∧ag w' g (dO s C)∧w'.heap[gs]? = some (.cells #[.int .i64 (dH s C)] 3 (0,0))∧az [g,gs] w w'):=by
 refine en 19 Tryz.func250 rfl<|sg<|L0<|bD #[.int .u16 0,.int .u16 0,.int .u16 0,.slice none 0 0] fun S T b j d=>ng<|Pl 1<|?_
 refine L0<|Oc<|sQ (l4 (ag.old hC d)) fun k l U H I J K m f=>?_
 obtain⟨V,W⟩:=I
 obtain⟨X,Y⟩:=J
 obtain⟨Z,a0⟩:=K
 refine L0<|bD #[.int .u16 0,.int .u16 0,.int .u16 0,.slice none 0 0] fun a1 a2 h L M=>L0<|aT L #[.int .u16 ((aF C).file),.int .u16 ((aF C).record),.int .u16 ((aF C).count),.slice k ((aF C).words.length) l] fun a3 n N=>ng<|?_
 have o:=ud M N h
 have p:=aE f o
 have q:=aK (uz d p) (Ne.symm hne) hS
 refine L0<|aZ q 0<|Pl 1<|L0<|aZ n 2<|L0<|Oi ((aF C).count)<|L0<|Oi (2*((aF C).count))<|L0<|Oi (2+(2*((aF C).count)))<|L0<|Oi (s+(2+(2*((aF C).count))))<|L0<|bC q 0 #[.int .i64 (s+(2+(2*((aF C).count))))] fun a4 r t=>ng<|Pl 1<|L0<|aZ r 0<|?_
 refine Pl 1<|?_
 have u:=uz o t
 have a:=uz d f
 have v:=aK a (Ne.symm hne) hS
 refine L0<|Oc<|m2 (aS ((decide ((s+(2+(2*((aF C).count))))≤245))) 5 (ag.upd m u (aa hne am) (ah (aG v (by decide)) aA))) fun a5 O y=>?_
 refine ab O fun x47 P Q=>?_
 refine ng<|?_
 have z:=us t y
 refine L0<|bV (az.blk z (aa (Ne.symm (nb (ak hS) a.size h)) (aa (Ne.symm (nb (ag.lt hC) a.size h)) am)) n)<|?_
 have i:=nb (ag.lt hC) lr b
 have B:=nb (ak hS) lr b
 have D:=az.blk (ui p z) (aa (Ne.symm B) (aa (Ne.symm i) am)) j
 refine L0<|aT D #[.int .u16 ((aF C).file),.int .u16 ((aF C).record),.int .u16 ((aF C).count),.slice k ((aF C).words.length) l] fun a6 R E=>nt<|rt<|tJ R<|?_
 subst P
 have F:=us y E
 have G:=us u F
 exact⟨_,_,rfl,(ei.upd' H G (ah (aG v (by decide)) (ah (ag.safe m _ (by decide)) (ah (aG (aK f (Ne.symm i) j) (by decide)) aA)))),dJ (x:=(aF C).file) (by omega),dJ (x:=(aF C).record) (by omega),dJ (x:=(aF C).count) (by omega),(ag.upd Q E (aa i am) (ah (aG D (by decide)) aA)),(az.blk F (aa (Ne.symm hne) (aa B am)) r),(ut (az.mono (S':=[g,gs]) a (ac im av)) G (ac im (ac im (ac (nr b) av))))⟩
def eP (c:Int)(v:Value) : Array Value:=#[.int .u8 c,.int .u8 0,.int .u16 0,.int .u16 0,.int .u16 0,.int .u16 0,.int .u16 0,.int .u16 0,.int .u16 0,.int .u16 0,.int .u16 0,.int .u16 0,fz,fz,fz,v,.int .u8 0,.int .u8 0,.int .u8 0,.int .u8 0,.int .u8 0,fz]
structure JR (w0:World) (gb gs gm l:Nat) (c:Int) (r:Loop) (C:ai) (s:Int) (L:List cW) (A:Option Addr) (cp:Nat) (W:World) : Prop where
  u:az [gb,gs,gm,l] w0 W
  hC:ag W gb C
  hS:W.heap[gs]? = some (.cells #[.int .i64 s] 3 (0,0))
  hm:W.heap[gm]? = some (.cells (eP c (.slice A L.length cp)) 30 (0,0))
  ho:b6 w0.heap.size 109 4 (b9 true) W (.slice A L.length cp) L
  hl:W.heap[l]? = some (.loop r)
def cn (s:Int)(C:ai) : Int × ai × cW:=(dH s C,dO s C,aF C)
def bz (s:Int)(C:ai) : Int × ai × cW:=(s,dV C,dK C)
def cm (s:Int)(C:ai) : Int × ai × cW:=(s,gE C,ge C)
def aI (one:Int→ai→Int × ai × cW) : Nat→Int→ai→List cW→ai × List cW
  | 0,_,C,L=>(C,L)
  | n+1,s,C,L =>
    if decide (0<(C.l.length:Int))&&C.e==0 then
      (if (one s C).2.1.e != 0 then ((one s C).2.1,L) else aI one n (one s C).1 (one s C).2.1 (L++[(one s C).2.2]))
    else (C,L)
theorem g8(C:ai)(n:Int) : (C.bytesC n).l.length≤C.l.length:=by
  unfold ai.bytesC
  split
  · unfold ai.need
    split<;>simp
  · simp
theorem iA(C:ai)(h:0<C.l.length) : (C.bytesC 1).l.length<C.l.length:=by
  unfold ai.bytesC
  split
  · unfold ai.need
    split<;>simpa using h
  · simp
    omega
theorem dE(C:ai)(b:Bool)(e:Int) : (C.need b e).l.length=C.l.length:=by
  unfold ai.need
  split<;>rfl
theorem dL(C:ai)(n:Int) : (C.wordsC n).l.length≤C.l.length:=by
  unfold ai.wordsC
  split<;>exact g8 ..
theorem lx(C:ai)(h:0<C.l.length) : (cZ C).l.length<C.l.length:=by
  have h1:(io C).l.length<C.l.length:=by unfold io;rw[dE];exact iA C h
  have h2:(ii C).l.length≤(io C).l.length:=by unfold ii;rw[dE];exact dL ..
  have h3:(lw C).l.length≤(ii C).l.length:=by unfold lw;rw[dE];exact dL ..
  have h4:(cZ C).l.length≤(lw C).l.length:=by unfold cZ;rw[dE];exact dL ..
  omega
theorem nn(s:Int)(C:ai)(h:0<C.l.length) : (cn s C).2.1.l.length<C.l.length:=by
  show(dO s C).l.length<_
  unfold dO
  rw[dE]
  exact lx C h
theorem iX(s:Int)(C:ai)(h:0<C.l.length) : (bz s C).2.1.l.length<C.l.length:=by
  show(dV C).l.length<_
  have h1:(fU C).l.length<C.l.length:=by unfold fU;rw[dE];exact iA C h
  have h2:(fW C).l.length≤(fU C).l.length:=by unfold fW;rw[dE];exact g8 ..
  have h3:(dV C).l.length≤(fW C).l.length:=by unfold dV;exact dL ..
  omega
theorem nC(s:Int)(C:ai)(h:0<C.l.length) : (cm s C).2.1.l.length<C.l.length:=by
  show(gE C).l.length<_
  have h1:=lx C h
  have h2:(lQ C).l.length=(cZ C).l.length:=by unfold lQ;rw[dE]
  have h3:(gE C).l.length≤(lQ C).l.length:=by unfold gE;exact dL ..
  omega
theorem f8(one:Int→ai→Int × ai × cW)(n:Nat)(s:Int)(C:ai)(L:List cW)(h:(decide (0<(C.l.length:Int))&&C.e==0)=false) : aI one n s C L=(C,L):=by
  cases n with
  | zero=>rfl
  | succ n=>simp only[aI,h,Bool.false_eq_true,if_false]
open Go.RowKit
def dg (fn0:FuncId)(tm:Array Value)(asg bdy:Code)(D:Nat) : Loop:={ state:=.ready,pending:=none,fn:=fn0,tmps:=tm,params:=#[53],assign:=asg,body:=bdy,defers:=D }
def mD (w:World)(gb gs gm l:Nat)(c:Int)(R:Loop) : Prop:=∀ (W:World)(C:ai)(s:Int)(L:List cW)(A:Option Addr)(cp:Nat)(x:cW)(Ax:Option Addr)(cx:Nat),JR w gb gs gm l c R C s L A cp W→ei true W (.slice Ax x.words.length cx) x.words→dF x.file→dF x.record→dF x.count→L.length≤1048576 →
    RoundIn Fence.wide 8 Tryz.prog l R.fn (R.tmps.setIfInBounds 53 (.agg #[.int .u16 x.file,.int .u16 x.record,.int .u16 x.count,.slice Ax x.words.length cx])) R.assign R.body W (fun e W'=>e = .returned (.bool true)∧W.heap.size≤W'.heap.size∧∃ A2 c2,JR w gb gs gm l c R C s (L++[x]) A2 c2 W')
theorem sZ{w:World}{gb gs gm l b1 b2 fn0 D:Nat}{tm:Array Value}{asg bdy:Code}{c:Int}{C0:ai}(hC:ag w gb C0)(hS:w.heap[gs]? = some (.cells #[.int .i64 0] 3 (0,0)))(hm:w.heap[gm]? = some (.cells (eP c fz) 30 (0,0)))
    (hl:w.heap[l]? = some (.loop (dg fn0 tm asg bdy D))) (hb1:w.heap[b1]? = some (.cells #[.pointer (some ⟨gb,0,none⟩)] 113 (0,0))) (hb2:w.heap[b2]? = some (.cells #[.func (.func 250) #[] #[.pointer (some ⟨gs,0,none⟩)]] 212 (0,0)))
    (n1:gb≠gs) (n2:gb≠gm) (n3:gb≠l) (n4:gs≠gm) (n5:gs≠l) (n6:gm≠l) (m1:b1≠gb) (m2:b1≠gs) (m3:b1≠gm) (m4:b1≠l) (k1:b2≠gb) (k2:b2≠gs) (k3:b2≠gm) (k4:b2≠l) (hround:mD w gb gs gm l c (dg fn0 tm asg bdy D)) :
    Calls Tryz.prog 257 #[.func (.yield l) #[] #[],.pointer (some ⟨b1,0,none⟩),.pointer (some ⟨b2,0,none⟩)] w (fun e W=>e = .returned (.tuple #[])∧∃ s A cp,JR w gb gs gm l c (dg fn0 tm asg bdy D) (aI cn C0.l.length 0 C0 []).1 s (aI cn C0.l.length 0 C0 []).2 A cp W):=by
 have hlen:=hC.len
 refine en 25 Tryz.func257 rfl<|bk<|?_
 refine gI (fun x=>[(0,.func (.yield l) #[] #[]),(1,.pointer (some ⟨b1,0,none⟩)),(2,.pointer (some ⟨b2,0,none⟩))]) (fun(x:Nat × ai × Int × List cW × Option Addr × Nat) w'=>az [gb,gs,gm,l] w w'∧ag w' gb x.2.1∧w'.heap[gs]? = some (.cells #[.int .i64 x.2.2.1] 3 (0,0))∧w'.heap[gm]? = some (.cells (eP c (.slice x.2.2.2.2.1 x.2.2.2.1.length x.2.2.2.2.2)) 30 (0,0))∧w'.heap[l]? = some (.loop (dg fn0 tm asg bdy D))∧b6 w.heap.size 109 4 (b9 true) w' (.slice x.2.2.2.2.1 x.2.2.2.1.length x.2.2.2.2.2) x.2.2.2.1∧(aI cn x.1 x.2.2.1 x.2.1 x.2.2.2.1=aI cn C0.l.length 0 C0 [])∧(x.2.1.l.length≤x.1)∧(0≤x.2.2.1∧x.2.2.1≤131074*(x.2.2.2.1.length:Int))∧(x.2.2.2.1.length+x.1≤C0.l.length)) (fun x=>x.1) (C0.l.length,C0,0,[],none,0) ⟨az.refl _ _,hC,hS,hm,hl,b6.nil ..,rfl,(Nat.le_refl _),(by(try dsimp only);omega),(by(try dsimp only);(try simp only[List.length_nil]);omega)⟩ ?_
 rintro⟨n,C,s,L,A,cp⟩ h ⟨m,J,M,N,O,P,Q,R,S,T⟩
 refine gJ [(0,.func (.yield l) #[] #[]),(1,.pointer (some ⟨b1,0,none⟩)),(2,.pointer (some ⟨b2,0,none⟩))] ?_
 have b:ag h gb C:=J
 have o:h.heap[gs]? = some (.cells #[.int .i64 s] 3 (0,0)):=M
 have t:h.heap[gm]? = some (.cells (eP c (.slice A L.length cp)) 30 (0,0)):=N
 have v:h.heap[l]? = some (.loop (dg fn0 tm asg bdy D)):=O
 have d:b6 w.heap.size 109 4 (b9 true) h (.slice A L.length cp) L:=P
 have af:aI cn n s C L=aI cn C0.l.length 0 C0 []:=Q
 have aj:C.l.length≤n:=R
 have an:0≤s∧s≤131074*(L.length:Int):=S
 have ao:L.length+n≤C0.l.length:=T
 have hrec:aI cn n s C L=aI cn C0.l.length 0 C0 []:=by assumption
 refine sq<|sg<|?_
 have p:=az.blk m (aa m1 (aa m2 (aa m3 (aa m4 am)))) hb1
 refine L0<|aZ p 0<|L0<|Oc<|mq (dv b)<|?_
 have aq:=ag.len b
 refine Pl 2<|cu 4 [8] 12 (((decide (0<((C.l.length:Nat) : Int)))&&(C.e==0))) (fun K B=>?_) ?_
 refine bl 8 ((decide (0<((C.l.length:Nat) : Int)))) (fun i=>?_) (fun i=>?_)
 have U:=of_decide_eq_true i
 refine L1<|aZ p 0<|L1<|Oc<|mq (bp b)<|?_
 have ar:=ag.len b
 exact Pl 2<|ce B (C.e==0) (by rw[i];rfl)
 have U:=of_decide_eq_false i
 exact Pl 4<|ce B false (by rw[i];rfl)
 refine nt<|cb (((decide (0<((C.l.length:Nat) : Int)))&&(C.e==0))) (fun f=>?_) (fun f=>?_)
 have y:=(aO f).1
 have z:=(aO f).2
 have au:=of_decide_eq_true y
 have aw:=ap z
 refine aX<|bk<|sg<|?_
 refine L0<|aZ (az.blk m (aa k1 (aa k2 (aa k3 (aa k4 am)))) hb2) 0<|L0<|aZ p 0<|L0<|gH #[] #[.pointer (some ⟨gs,0,none⟩)] (args:=#[.pointer (some ⟨gb,0,none⟩),.pointer (some ⟨gs,0,none⟩)])<|vS (oe (s:=s) b o n1 (by omega)) fun E F aB V X Y Z a0 G a1=>?_
 have aC:dH s C=s+(2+2*(aF C).count):=rfl
 obtain⟨aD,aH⟩:=X
 obtain⟨aJ,aK⟩:=Y
 obtain⟨aL,aM⟩:=Z
 refine L0<|bD #[.int .u16 0,.int .u16 0,.int .u16 0,.slice none 0 0] fun aN aP a2 a3 a4=>L0<|aT a3 #[.int .u16 ((aF C).file),.int .u16 ((aF C).record),.int .u16 ((aF C).count),.slice E ((aF C).words.length) F] fun a5 a6 a7=>nt<|sq<|uX 9<|?_
 have j:=ud a4 a7 a2
 have a:=aE a1 j
 refine F0<|aZ (az.blk a (aa m1 (aa m2 am)) p) 0<|?_
 have q:=ag.old a0 j
 refine F0<|Oc<|mq (bp q)<|?_
 have aQ:=ag.len q
 refine Fp<|Fp<|?_
 have H:=ut m a (ac im (ac im av))
 refine v4 19 ((((dO s C).e)!=0)) (fun k=>?_) (fun k=>?_)
 have a8:=al k
 refine Fp<|Fp<|Fp<|Fp<|Fp<|pn<|tn<|c1<|rt<|br<|tr<|br<|rr (.tuple #[])<|?_
 have hfin:aI cn C0.l.length 0 C0 []=((dO s C),L):=by
   rw[← hrec]
   rw[show n=(n-1)+1 from by omega]
   simp only[aI,cn,f,y,z,k,bs,if_true,if_false,decide_true,decide_false,reduceIte]
 refine⟨rfl,(dH s C),A,cp,?_⟩
 rw[hfin]
 exact⟨H,q,(ub j G),(az.blk a (aa (Ne.symm n2) (aa (Ne.symm n4) am)) t),(ax d a (fun x hx=>(aa (fun e=>(ay (ag.lt hC) lr d) (e▸hx)) (aa (fun e=>(ay (ak hS) lr d) (e▸hx)) am))) (b9.upd16 a (ah (ag.safe b _ (by decide)) (ah (aG o (by decide)) aA)))),(az.blk a (aa (Ne.symm n3) (aa (Ne.symm n5) am)) v)⟩
 have a8:=ae k
 refine Fp<|F0<|bV a6<|?_
 have I:=az.blk a (aa (Ne.symm n3) (aa (Ne.symm n5) am)) v
 have a9:JR w gb gs gm l c (dg fn0 tm asg bdy D) (dO s C) (dH s C) L A cp a5:=⟨H,q,(ub j G),(az.blk a (aa (Ne.symm n2) (aa (Ne.symm n4) am)) t),(ax d a (fun x hx=>(aa (fun e=>(ay (ag.lt hC) lr d) (e▸hx)) (aa (fun e=>(ay (ak hS) lr d) (e▸hx)) am))) (b9.upd16 a (ah (ag.safe b _ (by decide)) (ah (aG o (by decide)) aA)))),I⟩
 refine Fy (r:=dg fn0 tm asg bdy D) (.agg #[.int .u16 ((aF C).file),.int .u16 ((aF C).record),.int .u16 ((aF C).count),.slice E ((aF C).words.length) F]) 53 I rfl<|?_
 refine RoundIn.mono (hround _ _ _ _ _ _ (aF C) _ _ a9 (ei.upd' V j aA) (dJ (by omega)) (dJ (by omega)) (dJ (by omega)) (by omega)) ?_
 rintro _ aR ⟨rfl,aS,ab,ad,g⟩
 refine⟨_,rfl,?_⟩
 exact Fp<|Fp<|pn<|tn<|c0<|sk<|bn<|ek ((n-1),(dO s C),(dH s C),(L++[(aF C)]),ab,ad) ⟨g.u,g.hC,g.hS,g.hm,g.hl,g.ho,(by(try dsimp only);rw[← hrec,show n=(n-1)+1 from by omega];simp only[aI,cn,f,y,z,k,bs,if_true,if_false,decide_true,decide_false,Nat.add_sub_cancel,reduceIte]),(by(try dsimp only);have hd:=nn s C (by omega);have ii:(cn s C).2.1.l.length=(dO s C).l.length:=rfl;omega),(by(try dsimp only);simp only[List.length_append,List.length_cons,List.length_nil];omega),(by(try dsimp only);simp only[List.length_append,List.length_cons,List.length_nil];omega)⟩ (by omega)
 refine xt<|tx<|tx<|bx<|rm (.tuple #[])<|?_
 have hfin:aI cn C0.l.length 0 C0 []=(C,L):=by
   rw[← hrec]
   exact f8 _ _ _ _ _ (by simp only[f,bs,if_true,if_false,decide_true,decide_false])
 refine⟨rfl,s,A,cp,?_⟩
 rw[hfin]
 exact⟨m,b,o,t,d,v⟩
theorem t8{w:World}{gb gs gm l b1 b2 fn0 D:Nat}{tm:Array Value}{asg bdy:Code}{c:Int}{C0:ai}(hC:ag w gb C0)(hS:w.heap[gs]? = some (.cells #[.int .i64 0] 3 (0,0)))(hm:w.heap[gm]? = some (.cells (eP c fz) 30 (0,0)))
    (hl:w.heap[l]? = some (.loop (dg fn0 tm asg bdy D))) (hb1:w.heap[b1]? = some (.cells #[.pointer (some ⟨gb,0,none⟩)] 113 (0,0))) (hb2:w.heap[b2]? = some (.cells #[.func (.func 254) #[] #[]] 212 (0,0)))
    (n1:gb≠gs) (n2:gb≠gm) (n3:gb≠l) (n4:gs≠gm) (n5:gs≠l) (n6:gm≠l) (m1:b1≠gb) (m2:b1≠gs) (m3:b1≠gm) (m4:b1≠l) (k1:b2≠gb) (k2:b2≠gs) (k3:b2≠gm) (k4:b2≠l) (hround:mD w gb gs gm l c (dg fn0 tm asg bdy D)) :
    Calls Tryz.prog 257 #[.func (.yield l) #[] #[],.pointer (some ⟨b1,0,none⟩),.pointer (some ⟨b2,0,none⟩)] w (fun e W=>e = .returned (.tuple #[])∧∃ s A cp,JR w gb gs gm l c (dg fn0 tm asg bdy D) (aI bz C0.l.length 0 C0 []).1 s (aI bz C0.l.length 0 C0 []).2 A cp W):=by
 have hlen:=hC.len
 refine en 25 Tryz.func257 rfl<|bk<|?_
 refine gI (fun x=>[(0,.func (.yield l) #[] #[]),(1,.pointer (some ⟨b1,0,none⟩)),(2,.pointer (some ⟨b2,0,none⟩))]) (fun(x:Nat × ai × Int × List cW × Option Addr × Nat) w'=>az [gb,gs,gm,l] w w'∧ag w' gb x.2.1∧w'.heap[gs]? = some (.cells #[.int .i64 x.2.2.1] 3 (0,0))∧w'.heap[gm]? = some (.cells (eP c (.slice x.2.2.2.2.1 x.2.2.2.1.length x.2.2.2.2.2)) 30 (0,0))∧w'.heap[l]? = some (.loop (dg fn0 tm asg bdy D))∧b6 w.heap.size 109 4 (b9 true) w' (.slice x.2.2.2.2.1 x.2.2.2.1.length x.2.2.2.2.2) x.2.2.2.1∧(aI bz x.1 x.2.2.1 x.2.1 x.2.2.2.1=aI bz C0.l.length 0 C0 [])∧(x.2.1.l.length≤x.1)∧(0≤x.2.2.1∧x.2.2.1≤131074*(x.2.2.2.1.length:Int))∧(x.2.2.2.1.length+x.1≤C0.l.length)) (fun x=>x.1) (C0.l.length,C0,0,[],none,0) ⟨az.refl _ _,hC,hS,hm,hl,b6.nil ..,rfl,(Nat.le_refl _),(by(try dsimp only);omega),(by(try dsimp only);(try simp only[List.length_nil]);omega)⟩ ?_
 rintro⟨n,C,s,L,A,cp⟩ g ⟨k,I,J,M,N,O,P,Q,R,S⟩
 refine gJ [(0,.func (.yield l) #[] #[]),(1,.pointer (some ⟨b1,0,none⟩)),(2,.pointer (some ⟨b2,0,none⟩))] ?_
 have b:ag g gb C:=I
 have p:g.heap[gs]? = some (.cells #[.int .i64 s] 3 (0,0)):=J
 have q:g.heap[gm]? = some (.cells (eP c (.slice A L.length cp)) 30 (0,0)):=M
 have t:g.heap[l]? = some (.loop (dg fn0 tm asg bdy D)):=N
 have h:b6 w.heap.size 109 4 (b9 true) g (.slice A L.length cp) L:=O
 have ac:aI bz n s C L=aI bz C0.l.length 0 C0 []:=P
 have ad:C.l.length≤n:=Q
 have af:0≤s∧s≤131074*(L.length:Int):=R
 have aj:L.length+n≤C0.l.length:=S
 have hrec:aI bz n s C L=aI bz C0.l.length 0 C0 []:=by assumption
 refine sq<|sg<|?_
 have m:=az.blk k (aa m1 (aa m2 (aa m3 (aa m4 am)))) hb1
 refine L0<|aZ m 0<|L0<|Oc<|mq (dv b)<|?_
 have ak:=ag.len b
 refine Pl 2<|cu 4 [8] 12 (((decide (0<((C.l.length:Nat) : Int)))&&(C.e==0))) (fun K B=>?_) ?_
 refine bl 8 ((decide (0<((C.l.length:Nat) : Int)))) (fun i=>?_) (fun i=>?_)
 have T:=of_decide_eq_true i
 refine L1<|aZ m 0<|L1<|Oc<|mq (bp b)<|?_
 have an:=ag.len b
 exact Pl 2<|ce B (C.e==0) (by rw[i];rfl)
 have T:=of_decide_eq_false i
 exact Pl 4<|ce B false (by rw[i];rfl)
 refine nt<|cb (((decide (0<((C.l.length:Nat) : Int)))&&(C.e==0))) (fun d=>?_) (fun d=>?_)
 have v:=(aO d).1
 have y:=(aO d).2
 have ao:=of_decide_eq_true v
 have aq:=ap y
 refine aX<|bk<|sg<|?_
 refine L0<|aZ (az.blk k (aa k1 (aa k2 (aa k3 (aa k4 am)))) hb2) 0<|L0<|aZ m 0<|L0<|gH #[] #[] (args:=#[.pointer (some ⟨gb,0,none⟩)])<|sQ (pj b) fun E F ar U V X Y Z a0=>?_
 obtain⟨au,av⟩:=V
 obtain⟨aw,aB⟩:=X
 obtain⟨aC,aD⟩:=Y
 refine L0<|bD #[.int .u16 0,.int .u16 0,.int .u16 0,.slice none 0 0] fun aF aG a1 a2 a3=>L0<|aT a2 #[.int .u16 ((dK C).file),.int .u16 ((dK C).record),.int .u16 ((dK C).count),.slice E ((dK C).words.length) F] fun a4 a5 a6=>nt<|sq<|uX 9<|?_
 have z:=ud a3 a6 a1
 have a:=aE a0 z
 refine F0<|aZ (aK a m1 m) 0<|?_
 have o:=ag.old Z z
 refine F0<|Oc<|mq (bp o)<|?_
 have aH:=ag.len o
 refine Fp<|Fp<|?_
 have G:=u1 k a im
 refine v4 19 ((((dV C).e)!=0)) (fun j=>?_) (fun j=>?_)
 have a7:=al j
 refine Fp<|Fp<|Fp<|Fp<|Fp<|pn<|tn<|c1<|rt<|br<|tr<|br<|rr (.tuple #[])<|?_
 have hfin:aI bz C0.l.length 0 C0 []=((dV C),L):=by
   rw[← hrec]
   rw[show n=(n-1)+1 from by omega]
   simp only[aI,bz,d,v,y,j,bs,if_true,if_false,decide_true,decide_false,reduceIte]
 refine⟨rfl,s,A,cp,?_⟩
 rw[hfin]
 exact⟨G,o,(aK a (Ne.symm n1) p),(aK a (Ne.symm n2) q),(ax h a (fun x hx=>(aa (fun e=>(ay (ag.lt hC) lr h) (e▸hx)) am)) (b9.upd16 a (ah (ag.safe b _ (by decide)) aA))),(aK a (Ne.symm n3) t)⟩
 have a7:=ae j
 refine Fp<|F0<|bV a5<|?_
 have H:=aK a (Ne.symm n3) t
 have a8:JR w gb gs gm l c (dg fn0 tm asg bdy D) (dV C) s L A cp a4:=⟨G,o,(aK a (Ne.symm n1) p),(aK a (Ne.symm n2) q),(ax h a (fun x hx=>(aa (fun e=>(ay (ag.lt hC) lr h) (e▸hx)) am)) (b9.upd16 a (ah (ag.safe b _ (by decide)) aA))),H⟩
 refine Fy (r:=dg fn0 tm asg bdy D) (.agg #[.int .u16 ((dK C).file),.int .u16 ((dK C).record),.int .u16 ((dK C).count),.slice E ((dK C).words.length) F]) 53 H rfl<|?_
 refine RoundIn.mono (hround _ _ _ _ _ _ (dK C) _ _ a8 (ei.upd' U z aA) (dJ (by omega)) (dJ (by omega)) (dJ (by omega)) (by omega)) ?_
 rintro _ aJ ⟨rfl,aL,a9,ab,f⟩
 refine⟨_,rfl,?_⟩
 exact Fp<|Fp<|pn<|tn<|c0<|sk<|bn<|ek ((n-1),(dV C),s,(L++[(dK C)]),a9,ab) ⟨f.u,f.hC,f.hS,f.hm,f.hl,f.ho,(by(try dsimp only);rw[← hrec,show n=(n-1)+1 from by omega];simp only[aI,bz,d,v,y,j,bs,if_true,if_false,decide_true,decide_false,Nat.add_sub_cancel,reduceIte]),(by(try dsimp only);have hd:=iX s C (by omega);have ii:(bz s C).2.1.l.length=(dV C).l.length:=rfl;omega),(by(try dsimp only);simp only[List.length_append,List.length_cons,List.length_nil];omega),(by(try dsimp only);simp only[List.length_append,List.length_cons,List.length_nil];omega)⟩ (by omega)
 refine xt<|tx<|tx<|bx<|rm (.tuple #[])<|?_
 have hfin:aI bz C0.l.length 0 C0 []=(C,L):=by
   rw[← hrec]
   exact f8 _ _ _ _ _ (by simp only[d,bs,if_true,if_false,decide_true,decide_false])
 refine⟨rfl,s,A,cp,?_⟩
 rw[hfin]
 exact⟨k,b,p,q,h,t⟩
theorem sS{w:World}{gb gs gm l b1 b2 fn0 D:Nat}{tm:Array Value}{asg bdy:Code}{c:Int}{C0:ai}(hC:ag w gb C0)(hS:w.heap[gs]? = some (.cells #[.int .i64 0] 3 (0,0)))(hm:w.heap[gm]? = some (.cells (eP c fz) 30 (0,0)))
    (hl:w.heap[l]? = some (.loop (dg fn0 tm asg bdy D))) (hb1:w.heap[b1]? = some (.cells #[.pointer (some ⟨gb,0,none⟩)] 113 (0,0))) (hb2:w.heap[b2]? = some (.cells #[.func (.func 256) #[] #[]] 212 (0,0)))
    (n1:gb≠gs) (n2:gb≠gm) (n3:gb≠l) (n4:gs≠gm) (n5:gs≠l) (n6:gm≠l) (m1:b1≠gb) (m2:b1≠gs) (m3:b1≠gm) (m4:b1≠l) (k1:b2≠gb) (k2:b2≠gs) (k3:b2≠gm) (k4:b2≠l) (hround:mD w gb gs gm l c (dg fn0 tm asg bdy D)) :
    Calls Tryz.prog 257 #[.func (.yield l) #[] #[],.pointer (some ⟨b1,0,none⟩),.pointer (some ⟨b2,0,none⟩)] w (fun e W=>e = .returned (.tuple #[])∧∃ s A cp,JR w gb gs gm l c (dg fn0 tm asg bdy D) (aI cm C0.l.length 0 C0 []).1 s (aI cm C0.l.length 0 C0 []).2 A cp W):=by
 have hlen:=hC.len
 refine en 25 Tryz.func257 rfl<|bk<|?_
 refine gI (fun x=>[(0,.func (.yield l) #[] #[]),(1,.pointer (some ⟨b1,0,none⟩)),(2,.pointer (some ⟨b2,0,none⟩))]) (fun(x:Nat × ai × Int × List cW × Option Addr × Nat) w'=>az [gb,gs,gm,l] w w'∧ag w' gb x.2.1∧w'.heap[gs]? = some (.cells #[.int .i64 x.2.2.1] 3 (0,0))∧w'.heap[gm]? = some (.cells (eP c (.slice x.2.2.2.2.1 x.2.2.2.1.length x.2.2.2.2.2)) 30 (0,0))∧w'.heap[l]? = some (.loop (dg fn0 tm asg bdy D))∧b6 w.heap.size 109 4 (b9 true) w' (.slice x.2.2.2.2.1 x.2.2.2.1.length x.2.2.2.2.2) x.2.2.2.1∧(aI cm x.1 x.2.2.1 x.2.1 x.2.2.2.1=aI cm C0.l.length 0 C0 [])∧(x.2.1.l.length≤x.1)∧(0≤x.2.2.1∧x.2.2.1≤131074*(x.2.2.2.1.length:Int))∧(x.2.2.2.1.length+x.1≤C0.l.length)) (fun x=>x.1) (C0.l.length,C0,0,[],none,0) ⟨az.refl _ _,hC,hS,hm,hl,b6.nil ..,rfl,(Nat.le_refl _),(by(try dsimp only);omega),(by(try dsimp only);(try simp only[List.length_nil]);omega)⟩ ?_
 rintro⟨n,C,s,L,A,cp⟩ g ⟨k,I,J,M,N,O,P,Q,R,S⟩
 refine gJ [(0,.func (.yield l) #[] #[]),(1,.pointer (some ⟨b1,0,none⟩)),(2,.pointer (some ⟨b2,0,none⟩))] ?_
 have b:ag g gb C:=I
 have p:g.heap[gs]? = some (.cells #[.int .i64 s] 3 (0,0)):=J
 have q:g.heap[gm]? = some (.cells (eP c (.slice A L.length cp)) 30 (0,0)):=M
 have t:g.heap[l]? = some (.loop (dg fn0 tm asg bdy D)):=N
 have h:b6 w.heap.size 109 4 (b9 true) g (.slice A L.length cp) L:=O
 have ac:aI cm n s C L=aI cm C0.l.length 0 C0 []:=P
 have ad:C.l.length≤n:=Q
 have af:0≤s∧s≤131074*(L.length:Int):=R
 have aj:L.length+n≤C0.l.length:=S
 have hrec:aI cm n s C L=aI cm C0.l.length 0 C0 []:=by assumption
 refine sq<|sg<|?_
 have m:=az.blk k (aa m1 (aa m2 (aa m3 (aa m4 am)))) hb1
 refine L0<|aZ m 0<|L0<|Oc<|mq (dv b)<|?_
 have ak:=ag.len b
 refine Pl 2<|cu 4 [8] 12 (((decide (0<((C.l.length:Nat) : Int)))&&(C.e==0))) (fun K B=>?_) ?_
 refine bl 8 ((decide (0<((C.l.length:Nat) : Int)))) (fun i=>?_) (fun i=>?_)
 have T:=of_decide_eq_true i
 refine L1<|aZ m 0<|L1<|Oc<|mq (bp b)<|?_
 have an:=ag.len b
 exact Pl 2<|ce B (C.e==0) (by rw[i];rfl)
 have T:=of_decide_eq_false i
 exact Pl 4<|ce B false (by rw[i];rfl)
 refine nt<|cb (((decide (0<((C.l.length:Nat) : Int)))&&(C.e==0))) (fun d=>?_) (fun d=>?_)
 have v:=(aO d).1
 have y:=(aO d).2
 have ao:=of_decide_eq_true v
 have aq:=ap y
 refine aX<|bk<|sg<|?_
 refine L0<|aZ (az.blk k (aa k1 (aa k2 (aa k3 (aa k4 am)))) hb2) 0<|L0<|aZ m 0<|L0<|gH #[] #[] (args:=#[.pointer (some ⟨gb,0,none⟩)])<|sQ (rf b) fun E F ar U V X Y Z a0=>?_
 obtain⟨au,av⟩:=V
 obtain⟨aw,aB⟩:=X
 obtain⟨aC,aD⟩:=Y
 refine L0<|bD #[.int .u16 0,.int .u16 0,.int .u16 0,.slice none 0 0] fun aF aG a1 a2 a3=>L0<|aT a2 #[.int .u16 ((ge C).file),.int .u16 ((ge C).record),.int .u16 ((ge C).count),.slice E ((ge C).words.length) F] fun a4 a5 a6=>nt<|sq<|uX 9<|?_
 have z:=ud a3 a6 a1
 have a:=aE a0 z
 refine F0<|aZ (aK a m1 m) 0<|?_
 have o:=ag.old Z z
 refine F0<|Oc<|mq (bp o)<|?_
 have aH:=ag.len o
 refine Fp<|Fp<|?_
 have G:=u1 k a im
 refine v4 19 ((((gE C).e)!=0)) (fun j=>?_) (fun j=>?_)
 have a7:=al j
 refine Fp<|Fp<|Fp<|Fp<|Fp<|pn<|tn<|c1<|rt<|br<|tr<|br<|rr (.tuple #[])<|?_
 have hfin:aI cm C0.l.length 0 C0 []=((gE C),L):=by
   rw[← hrec]
   rw[show n=(n-1)+1 from by omega]
   simp only[aI,cm,d,v,y,j,bs,if_true,if_false,decide_true,decide_false,reduceIte]
 refine⟨rfl,s,A,cp,?_⟩
 rw[hfin]
 exact⟨G,o,(aK a (Ne.symm n1) p),(aK a (Ne.symm n2) q),(ax h a (fun x hx=>(aa (fun e=>(ay (ag.lt hC) lr h) (e▸hx)) am)) (b9.upd16 a (ah (ag.safe b _ (by decide)) aA))),(aK a (Ne.symm n3) t)⟩
 have a7:=ae j
 refine Fp<|F0<|bV a5<|?_
 have H:=aK a (Ne.symm n3) t
 have a8:JR w gb gs gm l c (dg fn0 tm asg bdy D) (gE C) s L A cp a4:=⟨G,o,(aK a (Ne.symm n1) p),(aK a (Ne.symm n2) q),(ax h a (fun x hx=>(aa (fun e=>(ay (ag.lt hC) lr h) (e▸hx)) am)) (b9.upd16 a (ah (ag.safe b _ (by decide)) aA))),H⟩
 refine Fy (r:=dg fn0 tm asg bdy D) (.agg #[.int .u16 ((ge C).file),.int .u16 ((ge C).record),.int .u16 ((ge C).count),.slice E ((ge C).words.length) F]) 53 H rfl<|?_
 refine RoundIn.mono (hround _ _ _ _ _ _ (ge C) _ _ a8 (ei.upd' U z aA) (dJ (by omega)) (dJ (by omega)) (dJ (by omega)) (by omega)) ?_
 rintro _ aJ ⟨rfl,aL,a9,ab,f⟩
 refine⟨_,rfl,?_⟩
 exact Fp<|Fp<|pn<|tn<|c0<|sk<|bn<|ek ((n-1),(gE C),s,(L++[(ge C)]),a9,ab) ⟨f.u,f.hC,f.hS,f.hm,f.hl,f.ho,(by(try dsimp only);rw[← hrec,show n=(n-1)+1 from by omega];simp only[aI,cm,d,v,y,j,bs,if_true,if_false,decide_true,decide_false,Nat.add_sub_cancel,reduceIte]),(by(try dsimp only);have hd:=nC s C (by omega);have ii:(cm s C).2.1.l.length=(gE C).l.length:=rfl;omega),(by(try dsimp only);simp only[List.length_append,List.length_cons,List.length_nil];omega),(by(try dsimp only);simp only[List.length_append,List.length_cons,List.length_nil];omega)⟩ (by omega)
 refine xt<|tx<|tx<|bx<|rm (.tuple #[])<|?_
 have hfin:aI cm C0.l.length 0 C0 []=(C,L):=by
   rw[← hrec]
   exact f8 _ _ _ _ _ (by simp only[d,bs,if_true,if_false,decide_true,decide_false])
 refine⟨rfl,s,A,cp,?_⟩
 rw[hfin]
 exact⟨k,b,p,q,h,t⟩
open Go.RowKit
def eD (n:Int) : Bool:=(decide (7≤n)&&decide (n≤245))&&n%7==0
def eA (n:Int) : Bool:=decide (4≤n)&&decide (n≤245)
def ex (n:Int) : Bool:=decide (9≤n)&&decide (n≤251)
def km (may:Int→Bool)(C:ai) : ai:=(C.bytesC 1).need (may C.byteV) 5
def tw (may:Int→Bool)(C:ai) : ai:=⟨(km may C).bytesR C.byteV,false,0⟩
def sJ (one:Int→ai→Int × ai × cW)(may:Int→Bool)(C:ai) : ai × List cW:=aI one (tw may C).l.length 0 (tw may C) []
def be (e:Int) : Int:=if e==2 then 5 else e
def dD (one:Int→ai→Int × ai × cW)(may:Int→Bool)(c:Int)(C:ai) : ai × aU :=
  (((km may C).bytesC C.byteV).need ((sJ one may C).1.e==0) (be (sJ one may C).1.e),{ aU.zero with code:=c,recs:=(sJ one may C).2 })
def aY (dir c:Int)(C:ai) : Option (ai × aU) :=
  if c==20 then (if dir==0 then some (dD cn eD c C) else some (dD bz eA c C)) else if c==21 then some (dD cm ex c C) else none
theorem pO:((20:Int)==20)=true:=rfl
theorem qP:((21:Int)==20)=false:=rfl
theorem r9:((21:Int)==21)=true:=rfl
theorem l1{m:Md}{A:Option Addr}{cp:Nat}{b:List Int}{w:World}{dir:Int}(hd:dir=0∨dir=1)(hsl:aQ m w (.slice A b.length cp) b)(hb:b.length≤1048576) :
    Calls Tryz.prog 144 #[.int .i64 0,.int .u8 20,.slice A b.length cp] w (dx (aj aY 0 20 b) w):=by
 have hln:(b.length:Int)≤1048576:=by omega
 have cK:((dir != 0)&&(dir != 1))=false:=by rcases hd with rfl | rfl<;>rfl
 refine tD 77 Tryz.func144 rfl<|sg<|L0<|bD mZ fun a9 cL bj K ad=>Pl 1<|nt<|sq<|sg<|Pl 6<|nt<|c0<|?_
 refine aX<|sg<|Pl 2<|L0<|Oc (args:=#[.int .i64 0,.int .u8 20])<|e3 rI fun v cM Z G N=>Pl 3<|L0<|bD #[.nilFunc,.nilFunc] fun cQ cS cg bl z=>L0<|aT bl #[.func (.func 252) #[] #[],.func (.func 250) #[] #[.pointer (some ⟨v,0,none⟩)]] fun cT ch t=>Pl 1<|nt<|sq<|sq<|?_
 refine go<|Pl 2<|nt<|c0<|aX<|sg<|Pl 1<|?_
 have af:=ud z t cg
 have a0:=aE N af
 have bm:=aE ad a0
 refine L0<|Oc<|e3 (di (aQ.old hsl bm) (by omega)) fun a1 cU U M r=>Pl 1<|ng<|Pl 1<|L0<|Oc<|m3 (bF M) fun cV ci o cX=>L0<|Oi ((ai.mk b false 0).byteV)<|Pl 1<|ng<|?_
 refine Pl 2<|?_
 have aH:=ud r o U
 have bo:=ub aH ch
 refine L0<|aZ bo 0<|Pl 1<|L0<|gH #[] #[] (args:=#[.int .i64 ((ai.mk b false 0).byteV)])<|m1 (mE (n:=(ai.mk b false 0).byteV) (by omega)) fun cY d=>?_
 refine L0<|Oc<|m2 (aS ((eD ((ai.mk b false 0).byteV))) 5 (ag.old ci d)) fun cZ cj i=>?_
 refine ab cj fun x49 bq br=>?_
 refine ng<|Pl 2<|L0<|Oc<|pm (bW (n:=(ai.mk b false 0).byteV) br) fun d0 d1 d2 ck d3 d4 cl j=>?_
 have d5:=Nat.le_trans (ai.bytesR_le x49 ((ai.mk b false 0).byteV)) (ag.len br)
 refine ab cl fun x58 bu aJ=>?_
 refine L0<|Oc<|e3 (di ck (by omega)) fun O d6 P Q g=>Pl 1<|ng<|Pl 2<|L0<|bD mZ fun B d7 H V p=>L0<|aT V (mC 20) fun d8 cm h=>nt<|sq<|sg<|?_
 refine Pl 2<|?_
 have an:=ud p h H
 have ao:=aE g an
 have bv:=uz d (u1 i (aE j ao) im)
 refine L0<|aZ (aK bv (nb (ak bl) t.size U) bo) 1<|L0<|Oc<|sQ (iJ (gb:=O) (f:=.func 250) (x:=#[]) (y:=#[.pointer (some ⟨v,0,none⟩)])) fun co cq d9 aL aN da bw bx k=>nt<|bk<|?_
 refine mh (f:=257) #[.pointer (some ⟨co,0,none⟩),.pointer (some ⟨cq,0,none⟩)] fun a ha=>?_
 intro db cs I dc D E bz ap S J
 have bA:=nb (ag.lt Q) lr H
 have aq:=nb (ag.lt Q) (le (le p.size h.size) k.size) E
 have bE:=nb (ak G) (le (le (le (le (le (le (le z.size t.size) r.size) o.size) d.size) i.size) j.size) g.size) H
 have bG:=nb (ak G) (le (le (le (le (le (le (le (le (le (le z.size t.size) r.size) o.size) d.size) i.size) j.size) g.size) p.size) h.size) k.size) E
 have a2:=nb (ak V) (le h.size k.size) E
 have X:=aE k J
 have bH:=ag.old Q (aE an X)
 have ar:=ud aH (aE bv X) U
 have bI:=ub (aE af ar) G
 have aO:=ub X cm
 refine(sZ (c:=20) bH bI aO S (ub J bw) (ub J bx) (Ne.symm (nb (ak G) (le (le (le (le (le (le z.size t.size) r.size) o.size) d.size) i.size) j.size) P)) bA aq bE bG a2 (Ne.symm (nb (ag.lt Q) an.size aL)) (Ne.symm (nb (ak G) (le (le (le (le (le (le (le (le (le z.size t.size) r.size) o.size) d.size) i.size) j.size) g.size) p.size) h.size) aL)) (Ne.symm (nb (ak V) h.size aL)) (nb (ak bw) lr E) (Ne.symm (nb (ag.lt Q) an.size aN)) (Ne.symm (nb (ak G) (le (le (le (le (le (le (le (le (le z.size t.size) r.size) o.size) d.size) i.size) j.size) g.size) p.size) h.size) aN)) (Ne.symm (nb (ak V) h.size aN)) (nb (ak bx) lr E) ?_).mono ?_
 intro W C s L Ar cr x Ax cx hJ hrd hx1 hx2 hx3 hL
 simp only[dF] at hx1 hx2 hx3
 have hm2:W.heap[B]? = some (.cells #[.int .u8 20,.int .u8 0,.int .u16 0,.int .u16 0,.int .u16 0,.int .u16 0,.int .u16 0,.int .u16 0,.int .u16 0,.int .u16 0,.int .u16 0,.int .u16 0,.slice none 0 0,.slice none 0 0,.slice none 0 0,.slice Ar L.length cr,.int .u8 0,.int .u8 0,.int .u8 0,.int .u8 0,.int .u8 0,.slice none 0 0] 30 (0,0)):=hJ.hm
 refine iz hJ.hl ?_
 refine va ha 53<|tF<|jx<|bD #[.int .u16 0,.int .u16 0,.int .u16 0,.slice none 0 0] fun dd de bJ ct bK=>jx<|aT ct #[.int .u16 x.file,.int .u16 x.record,.int .u16 x.count,.slice Ax x.words.length cx] fun df cu bN=>pn<|?_
 have bO:=ud bK bN bJ
 refine uY (ub bO hJ.hl) (by trivial) fun dh cv aR=>uV<|tF<|tC<|?_
 have aV:=uz bO aR
 have bP:=aK aV a2 hm2
 refine jx<|aZ bP 15<|?_
 refine jx<|bV (aK aR (Ne.symm (nb (ak S) hJ.u.size bJ)) cu)<|jx<|gA (m:=1) (e:=109) #[.int .u16 x.file,.int .u16 x.record,.int .u16 x.count,.slice Ax x.words.length cx] fun dj dk dl cw aW=>?_
 have Y:=aE aV aW
 have cy:=ip (R:=b9 true) (x:=(cW.mk x.file x.record x.count x.words)) cw rfl ⟨_,rfl,(ei.updl hrd Y hJ.hl rfl),dJ (by omega),dJ (by omega),dJ (by omega)⟩
 have b0:=ax hJ.ho Y (fun x hx=>(aa (fun e=>(ay (ak S) lr hJ.ho) (e▸hx)) am)) (b9.updl Y hJ.hl rfl)
 refine jx<|fm (xs:=L) (ys:=([(cW.mk x.file x.record x.count x.words)])) (.agg #[.int .u16 0,.int .u16 0,.int .u16 0,.slice none 0 0]) 4 32 b0 cy (by simp) b9.ones (fun w' hv=>b9.upd16 hv (cc (cF _ b0 (by decide)) aA)) (by(try simp only[List.length_append,List.length_cons,List.length_nil,bB]);omega) (le (le (le (le hJ.u.size bK.size) bN.size) aR.size) aW.size) fun bQ bR dm b1 au=>tC<|?_
 have bS:=ut (az.mono (S':=(ob Ar++[])) aW av) au (aM il av)
 have b2:=az.blk bS (bi (ay (ak aO) lr hJ.ho) am) bP
 refine jx<|bC b2 15 (mG 20 0 0 0 0 0 0 0 0 0 0 0 nS nS nS (.slice bQ ((L++[(cW.mk x.file x.record x.count x.words)]).length) bR) 0 0 0 0 0 nS) fun dn cz a3=>pn<|bn<|?_
 have bT:=u1 (az.mono (S':=(ob Ar++(B :: []))) bS (aM il av)) a3 im
 have b3:=az.blk bT (bi (ay (ak S) lr hJ.ho) (aa (Ne.symm a2) am)) cv
 refine uP b3 fun dp cA a4=>?_
 have b4:=ut (az.mono (S':=(I :: (ob Ar++(B :: [])))) Y (ac im av)) (ut (az.mono (S':=(ob Ar++(B :: (I :: [])))) au (aM il av)) (us a3 a4) (ac im (ac im av))) (aM il (ac im (ac im av)))
 have dq:=ut hJ.u (ut (az.mono (S':=(I :: (ob Ar++(B :: [])))) aV (ac im av)) bT (aM il (ac im av))) (ac im (aM (cC hJ.ho lr) (ac im av)))
 have dr:=ut hJ.u (ut (az.mono (S':=(I :: (ob Ar++[]))) Y (ac im av)) au (aM il av)) (ac im (aM (cC hJ.ho lr) av))
 exact⟨by trivial,b4.size,bQ,bR,⟨(ut hJ.u b4 (ac im (aM (cC hJ.ho lr) (ac im av)))),(ag.updl (ag.upd (ag.upd (ag.updl hJ.hC Y (aa aq am) hJ.hl rfl) au (bi (ay (ag.lt bH) lr hJ.ho) am) (cc (cF _ b0 (by decide)) aA)) a3 (aa bA am) (ah (aG b2 (by decide)) aA)) a4 (aa aq am) b3 rfl),(az.blk b4 (aa bG (bi (ay (ak bI) lr hJ.ho) (aa bE am))) hJ.hS),(aK a4 a2 cz),(ax (ax b1 a3 (fun x hx=>(aa (fun e=>(ay (ak aO) lr b1) (e▸hx)) am)) (b9.upd16 a3 (ah (aG b2 (by decide)) aA))) a4 (fun x hx=>(aa (fun e=>(ay (ak S) lr b1) (e▸hx)) am)) (b9.updl a4 b3 rfl)),cA⟩⟩
 rintro _ cB ⟨rfl,ds,bU,bX,q⟩
 refine⟨_,_,rfl,q.hl,by simp[dg],by trivial,fun dt bY=>?_⟩
 refine ab q.hC fun b5 bZ cD=>?_
 have cE:cB.heap[B]? = some (.cells #[.int .u8 20,.int .u8 0,.int .u16 0,.int .u16 0,.int .u16 0,.int .u16 0,.int .u16 0,.int .u16 0,.int .u16 0,.int .u16 0,.int .u16 0,.int .u16 0,.slice none 0 0,.slice none 0 0,.slice none 0 0,.slice bU ((aI cn (ai.mk (x49.bytesR ((ai.mk b false 0).byteV)) false 0).l.length 0 (ai.mk (x49.bytesR ((ai.mk b false 0).byteV)) false 0) []).2.length) bX,.int .u8 0,.int .u8 0,.int .u8 0,.int .u8 0,.int .u8 0,.slice none 0 0] 30 (0,0)):=q.hm
 refine bn<|tn<|sg<|Pl 2<|?_
 have aw:=ag.updl cD bY (aa aq am) q.hl rfl
 refine L0<|Oc<|mq (bp aw)<|?_
 have du:=ag.len aw
 refine Pl 2<|L0<|Oc<|mq (bp aw)<|?_
 have dv:=ag.len aw
 refine L0<|Oc<|m1 (ga (e:=b5.e)) fun dw cG=>?_
 have F:=aE bY cG
 have c1:=u1 q.u F im
 have b6:=nb (ak G) af.size U
 have aC:=ud aH (uz d (u1 i j im)) U
 have b7:=ub (aE af aC) G
 have b8:=ag.upd aJ (ut (az.mono (S':=[v]) ao av) (ut (az.mono (S':=[O,v,B]) X av) c1 (ac im (ac im (ac im (ac (ni k.size E) av))))) (ac (nr P) (ac im (ac (ni g.size H) av)))) (aa (Ne.symm b6) am) (ah (aG b7 (by decide)) aA)
 refine L0<|Oc<|m2 (aS ((b5.e==0)) (be b5.e) b8) fun dy cH T=>?_
 refine ab cH fun c2 c3 ba=>?_
 refine ng<|Pl 1<|L0<|Oc<|m2 (bM ba) fun dz c4 a5=>nt<|sq<|sg<|Pl 1<|L0<|Oc<|mq (bp c4)<|?_
 have dA:=ag.len c4
 refine Pl 1<|ng<|Pl 2<|nt<|?_
 have a6:=u1 T a5 im
 have bb:=u1 (az.mono (S':=[O,v,B,I,a1]) c1 (ac im (ac im (ac im (ac im av))))) a6 im
 have bc:=ut (az.mono (S':=[v]) ar av) bb (ac (ni aC.size P) (ac im (ac (ni (le (le (le (le (le r.size o.size) d.size) i.size) j.size) g.size) H) (ac (ni (le (le (le (le (le (le (le (le r.size o.size) d.size) i.size) j.size) g.size) p.size) h.size) k.size) E) (ac (nr U) av)))))
 have c5:=ud bm bc (le ad.size Z)
 have hs:aj aY 0 20 b=aP (aU.mk 20 0 0 0 0 0 0 0 0 0 0 0 [] [] [] (aI cn (ai.mk ((((ai.mk b false 0).bytesC 1).need (eD ((ai.mk b false 0).byteV)) 5).bytesR ((ai.mk b false 0).byteV)) false 0).l.length 0 (ai.mk ((((ai.mk b false 0).bytesC 1).need (eD ((ai.mk b false 0).byteV)) 5).bytesR ((ai.mk b false 0).byteV)) false 0) []).2 0 0 0 0 0 []) (((((ai.mk b false 0).bytesC 1).need (eD ((ai.mk b false 0).byteV)) 5).bytesC ((ai.mk b false 0).byteV)).need (((aI cn (ai.mk ((((ai.mk b false 0).bytesC 1).need (eD ((ai.mk b false 0).byteV)) 5).bytesR ((ai.mk b false 0).byteV)) false 0).l.length 0 (ai.mk ((((ai.mk b false 0).bytesC 1).need (eD ((ai.mk b false 0).byteV)) 5).bytesR ((ai.mk b false 0).byteV)) false 0) []).1).e==0) (be ((aI cn (ai.mk ((((ai.mk b false 0).bytesC 1).need (eD ((ai.mk b false 0).byteV)) 5).bytesR ((ai.mk b false 0).byteV)) false 0).l.length 0 (ai.mk ((((ai.mk b false 0).bytesC 1).need (eD ((ai.mk b false 0).byteV)) 5).bytesR ((ai.mk b false 0).byteV)) false 0) []).1).e)):=by
   unfold aj aY dD sJ tw km
   (try simp only[bs,if_true,if_false,decide_true,decide_false,eq_self,true_or,or_true,or_false,false_or,if_true,if_false,cP,cO,cN,cR,reduceIte,pO,qP,r9])
   all_goals rfl
 refine cb ((c2.endC.e != 0)) (fun bd=>?_) (fun bd=>?_)
 have bf:=al bd
 refine sg<|Pl 2<|?_
 have c6:=ub (ud a0 bc Z) K
 refine L0<|aT c6 mZ fun dB cI a7=>Pl 1<|nt<|rt<|tr<|?_
 have c7:=nb (ak K) (le (le (le (le (le (le (le (le (le (le (le N.size z.size) t.size) r.size) o.size) d.size) i.size) j.size) g.size) p.size) h.size) k.size) D
 have c8:=az.blk (u1 (az.mono (S':=[O,v,B,I,a1,a9]) bb (ac im (ac im (ac im (ac im (ac im av)))))) a7 im) (aa (Ne.symm (nb (ag.lt Q) (le (le p.size h.size) k.size) D)) (aa (Ne.symm (nb (ak G) (le (le (le (le (le (le (le (le (le (le z.size t.size) r.size) o.size) d.size) i.size) j.size) g.size) p.size) h.size) k.size) D)) (aa (Ne.symm (nb (ak V) (le h.size k.size) D)) (aa bz (aa (Ne.symm (nb (ag.lt M) (le (le (le (le (le (le (le o.size d.size) i.size) j.size) g.size) p.size) h.size) k.size) D)) (aa (Ne.symm c7) am)))))) ap
 refine tH c8 fun dC aD=>?_
 refine rx (aK aD c7 cI) (.int .i64 c2.endC.e)<|?_
 subst c3 bZ bu bq
 have c9:=us a7 aD
 have dE:=us F (us a6 c9)
 have dG:=us F (us a6 a7)
 have dH:=ub (ud a0 (ut (az.mono (S':=[v]) ar av) q.u (ac (ni aC.size P) (ac im (ac (ni (le (le (le (le (le r.size o.size) d.size) i.size) j.size) g.size) H) (ac (ni (le (le (le (le (le (le (le (le r.size o.size) d.size) i.size) j.size) g.size) p.size) h.size) k.size) E) av))))) Z) K
 have dI:=ag.upd aJ (ut (az.mono (S':=[v]) ao av) (ut (az.mono (S':=[O,v,B]) X av) q.u (ac im (ac im (ac im (ac (ni k.size E) av))))) (ac (nr P) (ac im (ac (ni g.size H) av)))) (aa (Ne.symm b6) am) (ah (aG b7 (by decide)) aA)
 have dK:=us F a6
 have dL:=us F T
 have dM:=ax (ax (ax (ax (ax q.ho F (fun x hx=>(aa (fun e=>(ay (ak S) lr q.ho) (e▸hx)) am)) (b9.updl F q.hl rfl)) T (fun x hx=>(aa (fun e=>(ay (ag.lt M) (le (le (le (le (le (le (le (le o.size d.size) i.size) j.size) g.size) p.size) h.size) k.size) J.size) q.ho) (e▸hx)) am)) (b9.upd16 T (ah (ag.safe b8 _ (by decide)) aA))) a5 (fun x hx=>(aa (fun e=>(ay (ag.lt M) (le (le (le (le (le (le (le (le o.size d.size) i.size) j.size) g.size) p.size) h.size) k.size) J.size) q.ho) (e▸hx)) am)) (b9.upd16 a5 (ah (ag.safe ba _ (by decide)) aA))) a7 (fun x hx=>(aa (fun e=>(ay (ak K) (le (le (le (le (le (le (le (le (le (le (le (le N.size z.size) t.size) r.size) o.size) d.size) i.size) j.size) g.size) p.size) h.size) k.size) J.size) q.ho) (e▸hx)) am)) (b9.upd16 a7 (ah (aG c6 (by decide)) aA))) aD (fun x hx=>(aa (fun e=>(ay (ak ap) lr q.ho) (e▸hx)) am)) (b9.updl aD c8 rfl)
 rw[hs]
 exact bh bf (ut c5 c9 (ac (nr bj) (ac (ni (le (le (le (le (le (le (le (le (le (le (le (le ad.size N.size) z.size) t.size) r.size) o.size) d.size) i.size) j.size) g.size) p.size) h.size) k.size) D) av)))
 have bf:=ae bd
 refine aX<|sg<|?_
 have bg:=us F a6
 refine L0<|bV (az.blk bg (aa a2 (aa (Ne.symm (nb (ag.lt M) (le (le (le (le o.size d.size) i.size) j.size) g.size) H)) am)) cE)<|?_
 have ca:=ub (ud a0 bc Z) K
 refine L0<|aT ca (mG 20 0 0 0 0 0 0 0 0 0 0 0 nS nS nS (.slice bU ((aI cn (ai.mk (x49.bytesR ((ai.mk b false 0).byteV)) false 0).l.length 0 (ai.mk (x49.bytesR ((ai.mk b false 0).byteV)) false 0) []).2.length) bX) 0 0 0 0 0 nS) fun dN cJ a8=>Pl 1<|nt<|rt<|?_
 have cd:=nb (ak K) (le (le (le (le (le (le (le (le (le (le (le N.size z.size) t.size) r.size) o.size) d.size) i.size) j.size) g.size) p.size) h.size) k.size) D
 have ce:=az.blk (u1 (az.mono (S':=[O,v,B,I,a1,a9]) bb (ac im (ac im (ac im (ac im (ac im av)))))) a8 im) (aa (Ne.symm (nb (ag.lt Q) (le (le p.size h.size) k.size) D)) (aa (Ne.symm (nb (ak G) (le (le (le (le (le (le (le (le (le (le z.size t.size) r.size) o.size) d.size) i.size) j.size) g.size) p.size) h.size) k.size) D)) (aa (Ne.symm (nb (ak V) (le h.size k.size) D)) (aa bz (aa (Ne.symm (nb (ag.lt M) (le (le (le (le (le (le (le o.size d.size) i.size) j.size) g.size) p.size) h.size) k.size) D)) (aa (Ne.symm cd) am)))))) ap
 refine tH ce fun dO aF=>?_
 refine rx (aK aF cd cJ) (.int .i64 0)<|?_
 subst c3 bZ bu bq
 have cf:=us a8 aF
 have dP:=ut (az.mono (S':=[I,a1,a9,cs]) bg (ac im (ac im av))) cf (ac im (ac im av))
 have dQ:=u1 (az.mono (S':=[I,a1,a9]) bg (ac im (ac im av))) a8 im
 have dR:=ub (ud a0 (ut (az.mono (S':=[v]) ar av) q.u (ac (ni aC.size P) (ac im (ac (ni (le (le (le (le (le r.size o.size) d.size) i.size) j.size) g.size) H) (ac (ni (le (le (le (le (le (le (le (le r.size o.size) d.size) i.size) j.size) g.size) p.size) h.size) k.size) E) av))))) Z) K
 have dS:=ag.upd aJ (ut (az.mono (S':=[v]) ao av) (ut (az.mono (S':=[O,v,B]) X av) q.u (ac im (ac im (ac im (ac (ni k.size E) av))))) (ac (nr P) (ac im (ac (ni g.size H) av)))) (aa (Ne.symm b6) am) (ah (aG b7 (by decide)) aA)
 have dT:=us F T
 rw[hs]
 exact bt bf ⟨_,_,_,_,_,rfl,aB.nil ..,aB.nil ..,aB.nil ..,((ax (ax (ax (ax (ax q.ho F (fun x hx=>(aa (fun e=>(ay (ak S) lr q.ho) (e▸hx)) am)) (b9.updl F q.hl rfl)) T (fun x hx=>(aa (fun e=>(ay (ag.lt M) (le (le (le (le (le (le (le (le o.size d.size) i.size) j.size) g.size) p.size) h.size) k.size) J.size) q.ho) (e▸hx)) am)) (b9.upd16 T (ah (ag.safe b8 _ (by decide)) aA))) a5 (fun x hx=>(aa (fun e=>(ay (ag.lt M) (le (le (le (le (le (le (le (le o.size d.size) i.size) j.size) g.size) p.size) h.size) k.size) J.size) q.ho) (e▸hx)) am)) (b9.upd16 a5 (ah (ag.safe ba _ (by decide)) aA))) a8 (fun x hx=>(aa (fun e=>(ay (ak K) (le (le (le (le (le (le (le (le (le (le (le (le N.size z.size) t.size) r.size) o.size) d.size) i.size) j.size) g.size) p.size) h.size) k.size) J.size) q.ho) (e▸hx)) am)) (b9.upd16 a8 (ah (aG ca (by decide)) aA))) aF (fun x hx=>(aa (fun e=>(ay (ak ap) lr q.ho) (e▸hx)) am)) (b9.updl aF ce rfl))).rd,aB.nil ..,(bL (by omega))⟩ (ut c5 cf (ac (nr bj) (ac (ni (le (le (le (le (le (le (le (le (le (le (le (le ad.size N.size) z.size) t.size) r.size) o.size) d.size) i.size) j.size) g.size) p.size) h.size) k.size) D) av)))
theorem lD{m:Md}{A:Option Addr}{cp:Nat}{b:List Int}{w:World}{dir:Int}(hd:dir=0∨dir=1)(hsl:aQ m w (.slice A b.length cp) b)(hb:b.length≤1048576) :
    Calls Tryz.prog 144 #[.int .i64 1,.int .u8 20,.slice A b.length cp] w (dx (aj aY 1 20 b) w):=by
 have hln:(b.length:Int)≤1048576:=by omega
 have cK:((dir != 0)&&(dir != 1))=false:=by rcases hd with rfl | rfl<;>rfl
 refine tD 77 Tryz.func144 rfl<|sg<|L0<|bD mZ fun a9 cL bj K ad=>Pl 1<|nt<|sq<|sg<|Pl 6<|nt<|c0<|?_
 refine aX<|sg<|Pl 2<|L0<|Oc (args:=#[.int .i64 1,.int .u8 20])<|e3 sb fun z cM Z G N=>Pl 3<|L0<|bD #[.nilFunc,.nilFunc] fun cQ cS ch bl v=>L0<|aT bl #[.func (.func 253) #[] #[],.func (.func 254) #[] #[]] fun cT ci t=>Pl 1<|nt<|sq<|sq<|?_
 refine go<|Pl 2<|nt<|c0<|aX<|sg<|Pl 1<|?_
 have af:=ud v t ch
 have a0:=aE N af
 have bm:=aE ad a0
 refine L0<|Oc<|e3 (di (aQ.old hsl bm) (by omega)) fun a1 cU U M r=>Pl 1<|ng<|Pl 1<|L0<|Oc<|m3 (bF M) fun cV cj o cX=>L0<|Oi ((ai.mk b false 0).byteV)<|Pl 1<|ng<|?_
 refine Pl 2<|?_
 have aH:=ud r o U
 have bo:=ub aH ci
 refine L0<|aZ bo 0<|Pl 1<|L0<|gH #[] #[] (args:=#[.int .i64 ((ai.mk b false 0).byteV)])<|m1 (ml (n:=(ai.mk b false 0).byteV) (by omega)) fun cY d=>?_
 refine L0<|Oc<|m2 (aS ((eA ((ai.mk b false 0).byteV))) 5 (ag.old cj d)) fun cZ ck i=>?_
 refine ab ck fun x49 bq br=>?_
 refine ng<|Pl 2<|L0<|Oc<|pm (bW (n:=(ai.mk b false 0).byteV) br) fun d0 d1 d2 cl d3 d4 cm j=>?_
 have d5:=Nat.le_trans (ai.bytesR_le x49 ((ai.mk b false 0).byteV)) (ag.len br)
 refine ab cm fun x58 bu aJ=>?_
 refine L0<|Oc<|e3 (di cl (by omega)) fun O d6 P Q g=>Pl 1<|ng<|Pl 2<|L0<|bD mZ fun B d7 H V p=>L0<|aT V (mC 20) fun d8 cn h=>nt<|sq<|sg<|?_
 refine Pl 2<|?_
 have an:=ud p h H
 have ao:=aE g an
 have bv:=uz d (u1 i (aE j ao) im)
 refine L0<|aZ (aK bv (nb (ak bl) t.size U) bo) 1<|L0<|Oc<|sQ (iJ (gb:=O) (f:=.func 254) (x:=#[]) (y:=#[])) fun co cq d9 aL aN da bw bx k=>nt<|bk<|?_
 refine mh (f:=257) #[.pointer (some ⟨co,0,none⟩),.pointer (some ⟨cq,0,none⟩)] fun a ha=>?_
 intro db cs I dc D E bA ap S J
 have bE:=nb (ag.lt Q) lr H
 have aq:=nb (ag.lt Q) (le (le p.size h.size) k.size) E
 have bG:=nb (ak G) (le (le (le (le (le (le (le v.size t.size) r.size) o.size) d.size) i.size) j.size) g.size) H
 have bH:=nb (ak G) (le (le (le (le (le (le (le (le (le (le v.size t.size) r.size) o.size) d.size) i.size) j.size) g.size) p.size) h.size) k.size) E
 have a2:=nb (ak V) (le h.size k.size) E
 have X:=aE k J
 have bI:=ag.old Q (aE an X)
 have ar:=ud aH (aE bv X) U
 have bJ:=ub (aE af ar) G
 have aO:=ub X cn
 refine(t8 (c:=20) bI bJ aO S (ub J bw) (ub J bx) (Ne.symm (nb (ak G) (le (le (le (le (le (le v.size t.size) r.size) o.size) d.size) i.size) j.size) P)) bE aq bG bH a2 (Ne.symm (nb (ag.lt Q) an.size aL)) (Ne.symm (nb (ak G) (le (le (le (le (le (le (le (le (le v.size t.size) r.size) o.size) d.size) i.size) j.size) g.size) p.size) h.size) aL)) (Ne.symm (nb (ak V) h.size aL)) (nb (ak bw) lr E) (Ne.symm (nb (ag.lt Q) an.size aN)) (Ne.symm (nb (ak G) (le (le (le (le (le (le (le (le (le v.size t.size) r.size) o.size) d.size) i.size) j.size) g.size) p.size) h.size) aN)) (Ne.symm (nb (ak V) h.size aN)) (nb (ak bx) lr E) ?_).mono ?_
 intro W C s L Ar cr x Ax cx hJ hrd hx1 hx2 hx3 hL
 simp only[dF] at hx1 hx2 hx3
 have hm2:W.heap[B]? = some (.cells #[.int .u8 20,.int .u8 0,.int .u16 0,.int .u16 0,.int .u16 0,.int .u16 0,.int .u16 0,.int .u16 0,.int .u16 0,.int .u16 0,.int .u16 0,.int .u16 0,.slice none 0 0,.slice none 0 0,.slice none 0 0,.slice Ar L.length cr,.int .u8 0,.int .u8 0,.int .u8 0,.int .u8 0,.int .u8 0,.slice none 0 0] 30 (0,0)):=hJ.hm
 refine iz hJ.hl ?_
 refine va ha 53<|tF<|jx<|bD #[.int .u16 0,.int .u16 0,.int .u16 0,.slice none 0 0] fun dd de bK ct bN=>jx<|aT ct #[.int .u16 x.file,.int .u16 x.record,.int .u16 x.count,.slice Ax x.words.length cx] fun df cu bO=>pn<|?_
 have bP:=ud bN bO bK
 refine uY (ub bP hJ.hl) (by trivial) fun dh cv aR=>uV<|tF<|tC<|?_
 have aV:=uz bP aR
 have bQ:=aK aV a2 hm2
 refine jx<|aZ bQ 15<|?_
 refine jx<|bV (aK aR (Ne.symm (nb (ak S) hJ.u.size bK)) cu)<|jx<|gA (m:=1) (e:=109) #[.int .u16 x.file,.int .u16 x.record,.int .u16 x.count,.slice Ax x.words.length cx] fun dj dk dl cw aW=>?_
 have Y:=aE aV aW
 have cy:=ip (R:=b9 true) (x:=(cW.mk x.file x.record x.count x.words)) cw rfl ⟨_,rfl,(ei.updl hrd Y hJ.hl rfl),dJ (by omega),dJ (by omega),dJ (by omega)⟩
 have b0:=ax hJ.ho Y (fun x hx=>(aa (fun e=>(ay (ak S) lr hJ.ho) (e▸hx)) am)) (b9.updl Y hJ.hl rfl)
 refine jx<|fm (xs:=L) (ys:=([(cW.mk x.file x.record x.count x.words)])) (.agg #[.int .u16 0,.int .u16 0,.int .u16 0,.slice none 0 0]) 4 32 b0 cy (by simp) b9.ones (fun w' hv=>b9.upd16 hv (cc (cF _ b0 (by decide)) aA)) (by(try simp only[List.length_append,List.length_cons,List.length_nil,bB]);omega) (le (le (le (le hJ.u.size bN.size) bO.size) aR.size) aW.size) fun bR bS dm b1 au=>tC<|?_
 have bT:=ut (az.mono (S':=(ob Ar++[])) aW av) au (aM il av)
 have b2:=az.blk bT (bi (ay (ak aO) lr hJ.ho) am) bQ
 refine jx<|bC b2 15 (mG 20 0 0 0 0 0 0 0 0 0 0 0 nS nS nS (.slice bR ((L++[(cW.mk x.file x.record x.count x.words)]).length) bS) 0 0 0 0 0 nS) fun dn cz a3=>pn<|bn<|?_
 have bU:=u1 (az.mono (S':=(ob Ar++(B :: []))) bT (aM il av)) a3 im
 have b3:=az.blk bU (bi (ay (ak S) lr hJ.ho) (aa (Ne.symm a2) am)) cv
 refine uP b3 fun dp cA a4=>?_
 have b4:=ut (az.mono (S':=(I :: (ob Ar++(B :: [])))) Y (ac im av)) (ut (az.mono (S':=(ob Ar++(B :: (I :: [])))) au (aM il av)) (us a3 a4) (ac im (ac im av))) (aM il (ac im (ac im av)))
 have dq:=ut hJ.u (ut (az.mono (S':=(I :: (ob Ar++(B :: [])))) aV (ac im av)) bU (aM il (ac im av))) (ac im (aM (cC hJ.ho lr) (ac im av)))
 have dr:=ut hJ.u (ut (az.mono (S':=(I :: (ob Ar++[]))) Y (ac im av)) au (aM il av)) (ac im (aM (cC hJ.ho lr) av))
 exact⟨by trivial,b4.size,bR,bS,⟨(ut hJ.u b4 (ac im (aM (cC hJ.ho lr) (ac im av)))),(ag.updl (ag.upd (ag.upd (ag.updl hJ.hC Y (aa aq am) hJ.hl rfl) au (bi (ay (ag.lt bI) lr hJ.ho) am) (cc (cF _ b0 (by decide)) aA)) a3 (aa bE am) (ah (aG b2 (by decide)) aA)) a4 (aa aq am) b3 rfl),(az.blk b4 (aa bH (bi (ay (ak bJ) lr hJ.ho) (aa bG am))) hJ.hS),(aK a4 a2 cz),(ax (ax b1 a3 (fun x hx=>(aa (fun e=>(ay (ak aO) lr b1) (e▸hx)) am)) (b9.upd16 a3 (ah (aG b2 (by decide)) aA))) a4 (fun x hx=>(aa (fun e=>(ay (ak S) lr b1) (e▸hx)) am)) (b9.updl a4 b3 rfl)),cA⟩⟩
 rintro _ cB ⟨rfl,ds,bX,bY,q⟩
 refine⟨_,_,rfl,q.hl,by simp[dg],by trivial,fun dt bZ=>?_⟩
 refine ab q.hC fun b5 c1 cD=>?_
 have cE:cB.heap[B]? = some (.cells #[.int .u8 20,.int .u8 0,.int .u16 0,.int .u16 0,.int .u16 0,.int .u16 0,.int .u16 0,.int .u16 0,.int .u16 0,.int .u16 0,.int .u16 0,.int .u16 0,.slice none 0 0,.slice none 0 0,.slice none 0 0,.slice bX ((aI bz (ai.mk (x49.bytesR ((ai.mk b false 0).byteV)) false 0).l.length 0 (ai.mk (x49.bytesR ((ai.mk b false 0).byteV)) false 0) []).2.length) bY,.int .u8 0,.int .u8 0,.int .u8 0,.int .u8 0,.int .u8 0,.slice none 0 0] 30 (0,0)):=q.hm
 refine bn<|tn<|sg<|Pl 2<|?_
 have aw:=ag.updl cD bZ (aa aq am) q.hl rfl
 refine L0<|Oc<|mq (bp aw)<|?_
 have du:=ag.len aw
 refine Pl 2<|L0<|Oc<|mq (bp aw)<|?_
 have dv:=ag.len aw
 refine L0<|Oc<|m1 (ga (e:=b5.e)) fun dw cG=>?_
 have F:=aE bZ cG
 have c2:=u1 q.u F im
 have b6:=nb (ak G) af.size U
 have aC:=ud aH (uz d (u1 i j im)) U
 have b7:=ub (aE af aC) G
 have b8:=ag.upd aJ (ut (az.mono (S':=[z]) ao av) (ut (az.mono (S':=[O,z,B]) X av) c2 (ac im (ac im (ac im (ac (ni k.size E) av))))) (ac (nr P) (ac im (ac (ni g.size H) av)))) (aa (Ne.symm b6) am) (ah (aG b7 (by decide)) aA)
 refine L0<|Oc<|m2 (aS ((b5.e==0)) (be b5.e) b8) fun dy cH T=>?_
 refine ab cH fun c3 c4 ba=>?_
 refine ng<|Pl 1<|L0<|Oc<|m2 (bM ba) fun dz c5 a5=>nt<|sq<|sg<|Pl 1<|L0<|Oc<|mq (bp c5)<|?_
 have dA:=ag.len c5
 refine Pl 1<|ng<|Pl 2<|nt<|?_
 have a6:=u1 T a5 im
 have bb:=u1 (az.mono (S':=[O,z,B,I,a1]) c2 (ac im (ac im (ac im (ac im av))))) a6 im
 have bc:=ut (az.mono (S':=[z]) ar av) bb (ac (ni aC.size P) (ac im (ac (ni (le (le (le (le (le r.size o.size) d.size) i.size) j.size) g.size) H) (ac (ni (le (le (le (le (le (le (le (le r.size o.size) d.size) i.size) j.size) g.size) p.size) h.size) k.size) E) (ac (nr U) av)))))
 have c6:=ud bm bc (le ad.size Z)
 have hs:aj aY 1 20 b=aP (aU.mk 20 0 0 0 0 0 0 0 0 0 0 0 [] [] [] (aI bz (ai.mk ((((ai.mk b false 0).bytesC 1).need (eA ((ai.mk b false 0).byteV)) 5).bytesR ((ai.mk b false 0).byteV)) false 0).l.length 0 (ai.mk ((((ai.mk b false 0).bytesC 1).need (eA ((ai.mk b false 0).byteV)) 5).bytesR ((ai.mk b false 0).byteV)) false 0) []).2 0 0 0 0 0 []) (((((ai.mk b false 0).bytesC 1).need (eA ((ai.mk b false 0).byteV)) 5).bytesC ((ai.mk b false 0).byteV)).need (((aI bz (ai.mk ((((ai.mk b false 0).bytesC 1).need (eA ((ai.mk b false 0).byteV)) 5).bytesR ((ai.mk b false 0).byteV)) false 0).l.length 0 (ai.mk ((((ai.mk b false 0).bytesC 1).need (eA ((ai.mk b false 0).byteV)) 5).bytesR ((ai.mk b false 0).byteV)) false 0) []).1).e==0) (be ((aI bz (ai.mk ((((ai.mk b false 0).bytesC 1).need (eA ((ai.mk b false 0).byteV)) 5).bytesR ((ai.mk b false 0).byteV)) false 0).l.length 0 (ai.mk ((((ai.mk b false 0).bytesC 1).need (eA ((ai.mk b false 0).byteV)) 5).bytesR ((ai.mk b false 0).byteV)) false 0) []).1).e)):=by
   unfold aj aY dD sJ tw km
   (try simp only[bs,if_true,if_false,decide_true,decide_false,eq_self,true_or,or_true,or_false,false_or,if_true,if_false,cP,cO,cN,cR,reduceIte,pO,qP,r9])
   all_goals rfl
 refine cb ((c3.endC.e != 0)) (fun bd=>?_) (fun bd=>?_)
 have bf:=al bd
 refine sg<|Pl 2<|?_
 have c7:=ub (ud a0 bc Z) K
 refine L0<|aT c7 mZ fun dB cI a7=>Pl 1<|nt<|rt<|tr<|?_
 have c8:=nb (ak K) (le (le (le (le (le (le (le (le (le (le (le N.size v.size) t.size) r.size) o.size) d.size) i.size) j.size) g.size) p.size) h.size) k.size) D
 have c9:=az.blk (u1 (az.mono (S':=[O,z,B,I,a1,a9]) bb (ac im (ac im (ac im (ac im (ac im av)))))) a7 im) (aa (Ne.symm (nb (ag.lt Q) (le (le p.size h.size) k.size) D)) (aa (Ne.symm (nb (ak G) (le (le (le (le (le (le (le (le (le (le v.size t.size) r.size) o.size) d.size) i.size) j.size) g.size) p.size) h.size) k.size) D)) (aa (Ne.symm (nb (ak V) (le h.size k.size) D)) (aa bA (aa (Ne.symm (nb (ag.lt M) (le (le (le (le (le (le (le o.size d.size) i.size) j.size) g.size) p.size) h.size) k.size) D)) (aa (Ne.symm c8) am)))))) ap
 refine tH c9 fun dC aD=>?_
 refine rx (aK aD c8 cI) (.int .i64 c3.endC.e)<|?_
 subst c4 c1 bu bq
 have ca:=us a7 aD
 have dE:=us F (us a6 ca)
 have dG:=us F (us a6 a7)
 have dH:=ub (ud a0 (ut (az.mono (S':=[z]) ar av) q.u (ac (ni aC.size P) (ac im (ac (ni (le (le (le (le (le r.size o.size) d.size) i.size) j.size) g.size) H) (ac (ni (le (le (le (le (le (le (le (le r.size o.size) d.size) i.size) j.size) g.size) p.size) h.size) k.size) E) av))))) Z) K
 have dI:=ag.upd aJ (ut (az.mono (S':=[z]) ao av) (ut (az.mono (S':=[O,z,B]) X av) q.u (ac im (ac im (ac im (ac (ni k.size E) av))))) (ac (nr P) (ac im (ac (ni g.size H) av)))) (aa (Ne.symm b6) am) (ah (aG b7 (by decide)) aA)
 have dK:=us F a6
 have dL:=us F T
 have dM:=ax (ax (ax (ax (ax q.ho F (fun x hx=>(aa (fun e=>(ay (ak S) lr q.ho) (e▸hx)) am)) (b9.updl F q.hl rfl)) T (fun x hx=>(aa (fun e=>(ay (ag.lt M) (le (le (le (le (le (le (le (le o.size d.size) i.size) j.size) g.size) p.size) h.size) k.size) J.size) q.ho) (e▸hx)) am)) (b9.upd16 T (ah (ag.safe b8 _ (by decide)) aA))) a5 (fun x hx=>(aa (fun e=>(ay (ag.lt M) (le (le (le (le (le (le (le (le o.size d.size) i.size) j.size) g.size) p.size) h.size) k.size) J.size) q.ho) (e▸hx)) am)) (b9.upd16 a5 (ah (ag.safe ba _ (by decide)) aA))) a7 (fun x hx=>(aa (fun e=>(ay (ak K) (le (le (le (le (le (le (le (le (le (le (le (le N.size v.size) t.size) r.size) o.size) d.size) i.size) j.size) g.size) p.size) h.size) k.size) J.size) q.ho) (e▸hx)) am)) (b9.upd16 a7 (ah (aG c7 (by decide)) aA))) aD (fun x hx=>(aa (fun e=>(ay (ak ap) lr q.ho) (e▸hx)) am)) (b9.updl aD c9 rfl)
 rw[hs]
 exact bh bf (ut c6 ca (ac (nr bj) (ac (ni (le (le (le (le (le (le (le (le (le (le (le (le ad.size N.size) v.size) t.size) r.size) o.size) d.size) i.size) j.size) g.size) p.size) h.size) k.size) D) av)))
 have bf:=ae bd
 refine aX<|sg<|?_
 have bg:=us F a6
 refine L0<|bV (az.blk bg (aa a2 (aa (Ne.symm (nb (ag.lt M) (le (le (le (le o.size d.size) i.size) j.size) g.size) H)) am)) cE)<|?_
 have cd:=ub (ud a0 bc Z) K
 refine L0<|aT cd (mG 20 0 0 0 0 0 0 0 0 0 0 0 nS nS nS (.slice bX ((aI bz (ai.mk (x49.bytesR ((ai.mk b false 0).byteV)) false 0).l.length 0 (ai.mk (x49.bytesR ((ai.mk b false 0).byteV)) false 0) []).2.length) bY) 0 0 0 0 0 nS) fun dN cJ a8=>Pl 1<|nt<|rt<|?_
 have ce:=nb (ak K) (le (le (le (le (le (le (le (le (le (le (le N.size v.size) t.size) r.size) o.size) d.size) i.size) j.size) g.size) p.size) h.size) k.size) D
 have cf:=az.blk (u1 (az.mono (S':=[O,z,B,I,a1,a9]) bb (ac im (ac im (ac im (ac im (ac im av)))))) a8 im) (aa (Ne.symm (nb (ag.lt Q) (le (le p.size h.size) k.size) D)) (aa (Ne.symm (nb (ak G) (le (le (le (le (le (le (le (le (le (le v.size t.size) r.size) o.size) d.size) i.size) j.size) g.size) p.size) h.size) k.size) D)) (aa (Ne.symm (nb (ak V) (le h.size k.size) D)) (aa bA (aa (Ne.symm (nb (ag.lt M) (le (le (le (le (le (le (le o.size d.size) i.size) j.size) g.size) p.size) h.size) k.size) D)) (aa (Ne.symm ce) am)))))) ap
 refine tH cf fun dO aF=>?_
 refine rx (aK aF ce cJ) (.int .i64 0)<|?_
 subst c4 c1 bu bq
 have cg:=us a8 aF
 have dP:=ut (az.mono (S':=[I,a1,a9,cs]) bg (ac im (ac im av))) cg (ac im (ac im av))
 have dQ:=u1 (az.mono (S':=[I,a1,a9]) bg (ac im (ac im av))) a8 im
 have dR:=ub (ud a0 (ut (az.mono (S':=[z]) ar av) q.u (ac (ni aC.size P) (ac im (ac (ni (le (le (le (le (le r.size o.size) d.size) i.size) j.size) g.size) H) (ac (ni (le (le (le (le (le (le (le (le r.size o.size) d.size) i.size) j.size) g.size) p.size) h.size) k.size) E) av))))) Z) K
 have dS:=ag.upd aJ (ut (az.mono (S':=[z]) ao av) (ut (az.mono (S':=[O,z,B]) X av) q.u (ac im (ac im (ac im (ac (ni k.size E) av))))) (ac (nr P) (ac im (ac (ni g.size H) av)))) (aa (Ne.symm b6) am) (ah (aG b7 (by decide)) aA)
 have dT:=us F T
 rw[hs]
 exact bt bf ⟨_,_,_,_,_,rfl,aB.nil ..,aB.nil ..,aB.nil ..,((ax (ax (ax (ax (ax q.ho F (fun x hx=>(aa (fun e=>(ay (ak S) lr q.ho) (e▸hx)) am)) (b9.updl F q.hl rfl)) T (fun x hx=>(aa (fun e=>(ay (ag.lt M) (le (le (le (le (le (le (le (le o.size d.size) i.size) j.size) g.size) p.size) h.size) k.size) J.size) q.ho) (e▸hx)) am)) (b9.upd16 T (ah (ag.safe b8 _ (by decide)) aA))) a5 (fun x hx=>(aa (fun e=>(ay (ag.lt M) (le (le (le (le (le (le (le (le o.size d.size) i.size) j.size) g.size) p.size) h.size) k.size) J.size) q.ho) (e▸hx)) am)) (b9.upd16 a5 (ah (ag.safe ba _ (by decide)) aA))) a8 (fun x hx=>(aa (fun e=>(ay (ak K) (le (le (le (le (le (le (le (le (le (le (le (le N.size v.size) t.size) r.size) o.size) d.size) i.size) j.size) g.size) p.size) h.size) k.size) J.size) q.ho) (e▸hx)) am)) (b9.upd16 a8 (ah (aG cd (by decide)) aA))) aF (fun x hx=>(aa (fun e=>(ay (ak ap) lr q.ho) (e▸hx)) am)) (b9.updl aF cf rfl))).rd,aB.nil ..,(bL (by omega))⟩ (ut c6 cg (ac (nr bj) (ac (ni (le (le (le (le (le (le (le (le (le (le (le (le ad.size N.size) v.size) t.size) r.size) o.size) d.size) i.size) j.size) g.size) p.size) h.size) k.size) D) av)))
theorem jQ{m:Md}{A:Option Addr}{cp:Nat}{b:List Int}{w:World}{dir:Int}(hd:dir=0∨dir=1)(hsl:aQ m w (.slice A b.length cp) b)(hb:b.length≤1048576) :
    Calls Tryz.prog 144 #[.int .i64 dir,.int .u8 21,.slice A b.length cp] w (dx (aj aY dir 21 b) w):=by
 have hln:(b.length:Int)≤1048576:=by omega
 have bo:((dir != 0)&&(dir != 1))=false:=by rcases hd with rfl | rfl<;>rfl
 refine tD 77 Tryz.func144 rfl<|sg<|L0<|bD mZ fun af cY bq M an=>Pl 1<|nt<|sq<|sg<|Pl 3<|cu 3 [18] 21 (((dir != 0)&&(dir != 1))) (fun K br=>?_) ?_
 refine bl 18 ((dir != 0)) (fun a0=>?_) (fun a0=>?_)
 have co:=al a0
 exact Pl 3<|ce br (dir != 1) (by rw[a0];rfl)
 have co:=ae a0
 exact Pl 3<|ce br false (by rw[a0];rfl)
 refine nt<|cf bo<|aX<|sg<|Pl 2<|L0<|Oc (args:=#[.int .i64 dir,.int .u8 21])<|e3 sd fun z cZ a1 G O=>Pl 3<|L0<|bD #[.nilFunc,.nilFunc] fun d0 d1 cq bu v=>L0<|aT bu #[.func (.func 255) #[] #[],.func (.func 256) #[] #[]] fun d2 cs t=>Pl 1<|nl<|?_
 refine tn<|sq<|sg<|Pl 2<|nt<|c0<|aX<|sg<|Pl 1<|?_
 have ao:=ud v t cq
 have a2:=aE O ao
 have bv:=aE an a2
 refine L0<|Oc<|e3 (di (aQ.old hsl bv) (by omega)) fun a3 d3 V N r=>Pl 1<|ng<|Pl 1<|L0<|Oc<|m3 (bF N) fun d4 ct o d5=>L0<|Oi ((ai.mk b false 0).byteV)<|Pl 1<|ng<|?_
 refine Pl 2<|?_
 have aL:=ud r o V
 have bw:=ub aL cs
 refine L0<|aZ bw 0<|Pl 1<|L0<|gH #[] #[] (args:=#[.int .i64 ((ai.mk b false 0).byteV)])<|m1 (mj (n:=(ai.mk b false 0).byteV) (by omega)) fun d6 d=>?_
 refine L0<|Oc<|m2 (aS ((ex ((ai.mk b false 0).byteV))) 5 (ag.old ct d)) fun d7 cv i=>?_
 refine ab cv fun x51 bx bz=>?_
 refine ng<|Pl 2<|L0<|Oc<|pm (bW (n:=(ai.mk b false 0).byteV) bz) fun d8 d9 da cw db dc cy j=>?_
 have dd:=Nat.le_trans (ai.bytesR_le x51 ((ai.mk b false 0).byteV)) (ag.len bz)
 refine ab cy fun x60 bA aN=>?_
 refine L0<|Oc<|e3 (di cw (by omega)) fun P de Q S g=>Pl 1<|ng<|Pl 2<|L0<|bD mZ fun B df H X p=>L0<|aT X (mC 21) fun dh cz h=>nt<|sq<|sg<|?_
 refine Pl 2<|?_
 have ap:=ud p h H
 have aq:=aE g ap
 have bE:=uz d (u1 i (aE j aq) im)
 refine L0<|aZ (aK bE (nb (ak bu) t.size V) bw) 1<|L0<|Oc<|sQ (iJ (gb:=P) (f:=.func 256) (x:=#[]) (y:=#[])) fun cA cB dj aO aR dk bG bH k=>nt<|bk<|?_
 refine mh (f:=257) #[.pointer (some ⟨cA,0,none⟩),.pointer (some ⟨cB,0,none⟩)] fun a ha=>?_
 intro dl cD I dm D E bI ar T J
 have bJ:=nb (ag.lt S) lr H
 have au:=nb (ag.lt S) (le (le p.size h.size) k.size) E
 have bK:=nb (ak G) (le (le (le (le (le (le (le v.size t.size) r.size) o.size) d.size) i.size) j.size) g.size) H
 have bN:=nb (ak G) (le (le (le (le (le (le (le (le (le (le v.size t.size) r.size) o.size) d.size) i.size) j.size) g.size) p.size) h.size) k.size) E
 have a4:=nb (ak X) (le h.size k.size) E
 have Y:=aE k J
 have bO:=ag.old S (aE ap Y)
 have aw:=ud aL (aE bE Y) V
 have bP:=ub (aE ao aw) G
 have aV:=ub Y cz
 refine(sS (c:=21) bO bP aV T (ub J bG) (ub J bH) (Ne.symm (nb (ak G) (le (le (le (le (le (le v.size t.size) r.size) o.size) d.size) i.size) j.size) Q)) bJ au bK bN a4 (Ne.symm (nb (ag.lt S) ap.size aO)) (Ne.symm (nb (ak G) (le (le (le (le (le (le (le (le (le v.size t.size) r.size) o.size) d.size) i.size) j.size) g.size) p.size) h.size) aO)) (Ne.symm (nb (ak X) h.size aO)) (nb (ak bG) lr E) (Ne.symm (nb (ag.lt S) ap.size aR)) (Ne.symm (nb (ak G) (le (le (le (le (le (le (le (le (le v.size t.size) r.size) o.size) d.size) i.size) j.size) g.size) p.size) h.size) aR)) (Ne.symm (nb (ak X) h.size aR)) (nb (ak bH) lr E) ?_).mono ?_
 intro W C s L Ar cr x Ax cx hJ hrd hx1 hx2 hx3 hL
 simp only[dF] at hx1 hx2 hx3
 have hm2:W.heap[B]? = some (.cells #[.int .u8 21,.int .u8 0,.int .u16 0,.int .u16 0,.int .u16 0,.int .u16 0,.int .u16 0,.int .u16 0,.int .u16 0,.int .u16 0,.int .u16 0,.int .u16 0,.slice none 0 0,.slice none 0 0,.slice none 0 0,.slice Ar L.length cr,.int .u8 0,.int .u8 0,.int .u8 0,.int .u8 0,.int .u8 0,.slice none 0 0] 30 (0,0)):=hJ.hm
 refine iz hJ.hl ?_
 refine va ha 53<|tF<|jx<|bD #[.int .u16 0,.int .u16 0,.int .u16 0,.slice none 0 0] fun dn dp bQ cE bR=>jx<|aT cE #[.int .u16 x.file,.int .u16 x.record,.int .u16 x.count,.slice Ax x.words.length cx] fun dq cG bS=>pn<|?_
 have bT:=ud bR bS bQ
 refine uY (ub bT hJ.hl) (by trivial) fun dr cH aW=>uV<|tF<|tC<|?_
 have b0:=uz bT aW
 have bU:=aK b0 a4 hm2
 refine jx<|aZ bU 15<|?_
 refine jx<|bV (aK aW (Ne.symm (nb (ak T) hJ.u.size bQ)) cG)<|jx<|gA (m:=1) (e:=109) #[.int .u16 x.file,.int .u16 x.record,.int .u16 x.count,.slice Ax x.words.length cx] fun ds dt du cI b1=>?_
 have Z:=aE b0 b1
 have cJ:=ip (R:=b9 true) (x:=(cW.mk x.file x.record x.count x.words)) cI rfl ⟨_,rfl,(ei.updl hrd Z hJ.hl rfl),dJ (by omega),dJ (by omega),dJ (by omega)⟩
 have b2:=ax hJ.ho Z (fun x hx=>(aa (fun e=>(ay (ak T) lr hJ.ho) (e▸hx)) am)) (b9.updl Z hJ.hl rfl)
 refine jx<|fm (xs:=L) (ys:=([(cW.mk x.file x.record x.count x.words)])) (.agg #[.int .u16 0,.int .u16 0,.int .u16 0,.slice none 0 0]) 4 32 b2 cJ (by simp) b9.ones (fun w' hv=>b9.upd16 hv (cc (cF _ b2 (by decide)) aA)) (by(try simp only[List.length_append,List.length_cons,List.length_nil,bB]);omega) (le (le (le (le hJ.u.size bR.size) bS.size) aW.size) b1.size) fun bX bY dv b3 aC=>tC<|?_
 have bZ:=ut (az.mono (S':=(ob Ar++[])) b1 av) aC (aM il av)
 have b4:=az.blk bZ (bi (ay (ak aV) lr hJ.ho) am) bU
 refine jx<|bC b4 15 (mG 21 0 0 0 0 0 0 0 0 0 0 0 nS nS nS (.slice bX ((L++[(cW.mk x.file x.record x.count x.words)]).length) bY) 0 0 0 0 0 nS) fun dw cK a5=>pn<|bn<|?_
 have c1:=u1 (az.mono (S':=(ob Ar++(B :: []))) bZ (aM il av)) a5 im
 have b5:=az.blk c1 (bi (ay (ak T) lr hJ.ho) (aa (Ne.symm a4) am)) cH
 refine uP b5 fun dy cL a6=>?_
 have b6:=ut (az.mono (S':=(I :: (ob Ar++(B :: [])))) Z (ac im av)) (ut (az.mono (S':=(ob Ar++(B :: (I :: [])))) aC (aM il av)) (us a5 a6) (ac im (ac im av))) (aM il (ac im (ac im av)))
 have dz:=ut hJ.u (ut (az.mono (S':=(I :: (ob Ar++(B :: [])))) b0 (ac im av)) c1 (aM il (ac im av))) (ac im (aM (cC hJ.ho lr) (ac im av)))
 have dA:=ut hJ.u (ut (az.mono (S':=(I :: (ob Ar++[]))) Z (ac im av)) aC (aM il av)) (ac im (aM (cC hJ.ho lr) av))
 exact⟨by trivial,b6.size,bX,bY,⟨(ut hJ.u b6 (ac im (aM (cC hJ.ho lr) (ac im av)))),(ag.updl (ag.upd (ag.upd (ag.updl hJ.hC Z (aa au am) hJ.hl rfl) aC (bi (ay (ag.lt bO) lr hJ.ho) am) (cc (cF _ b2 (by decide)) aA)) a5 (aa bJ am) (ah (aG b4 (by decide)) aA)) a6 (aa au am) b5 rfl),(az.blk b6 (aa bN (bi (ay (ak bP) lr hJ.ho) (aa bK am))) hJ.hS),(aK a6 a4 cK),(ax (ax b3 a5 (fun x hx=>(aa (fun e=>(ay (ak aV) lr b3) (e▸hx)) am)) (b9.upd16 a5 (ah (aG b4 (by decide)) aA))) a6 (fun x hx=>(aa (fun e=>(ay (ak T) lr b3) (e▸hx)) am)) (b9.updl a6 b5 rfl)),cL⟩⟩
 rintro _ cM ⟨rfl,dB,c2,c3,q⟩
 refine⟨_,_,rfl,q.hl,by simp[dg],by trivial,fun dC c4=>?_⟩
 refine ab q.hC fun b7 c5 cQ=>?_
 have cS:cM.heap[B]? = some (.cells #[.int .u8 21,.int .u8 0,.int .u16 0,.int .u16 0,.int .u16 0,.int .u16 0,.int .u16 0,.int .u16 0,.int .u16 0,.int .u16 0,.int .u16 0,.int .u16 0,.slice none 0 0,.slice none 0 0,.slice none 0 0,.slice c2 ((aI cm (ai.mk (x51.bytesR ((ai.mk b false 0).byteV)) false 0).l.length 0 (ai.mk (x51.bytesR ((ai.mk b false 0).byteV)) false 0) []).2.length) c3,.int .u8 0,.int .u8 0,.int .u8 0,.int .u8 0,.int .u8 0,.slice none 0 0] 30 (0,0)):=q.hm
 refine bn<|tn<|sg<|Pl 2<|?_
 have aD:=ag.updl cQ c4 (aa au am) q.hl rfl
 refine L0<|Oc<|mq (bp aD)<|?_
 have dE:=ag.len aD
 refine Pl 2<|L0<|Oc<|mq (bp aD)<|?_
 have dG:=ag.len aD
 refine L0<|Oc<|m1 (ga (e:=b7.e)) fun dH cT=>?_
 have F:=aE c4 cT
 have c6:=u1 q.u F im
 have b8:=nb (ak G) ao.size V
 have aF:=ud aL (uz d (u1 i j im)) V
 have ba:=ub (aE ao aF) G
 have bb:=ag.upd aN (ut (az.mono (S':=[z]) aq av) (ut (az.mono (S':=[P,z,B]) Y av) c6 (ac im (ac im (ac im (ac (ni k.size E) av))))) (ac (nr Q) (ac im (ac (ni g.size H) av)))) (aa (Ne.symm b8) am) (ah (aG ba (by decide)) aA)
 refine L0<|Oc<|m2 (aS ((b7.e==0)) (be b7.e) bb) fun dI cU U=>?_
 refine ab cU fun c7 c8 bc=>?_
 refine ng<|Pl 1<|L0<|Oc<|m2 (bM bc) fun dK c9 a7=>nt<|sq<|sg<|Pl 1<|L0<|Oc<|mq (bp c9)<|?_
 have dL:=ag.len c9
 refine Pl 1<|ng<|Pl 2<|nt<|?_
 have a8:=u1 U a7 im
 have bd:=u1 (az.mono (S':=[P,z,B,I,a3]) c6 (ac im (ac im (ac im (ac im av))))) a8 im
 have bf:=ut (az.mono (S':=[z]) aw av) bd (ac (ni aF.size Q) (ac im (ac (ni (le (le (le (le (le r.size o.size) d.size) i.size) j.size) g.size) H) (ac (ni (le (le (le (le (le (le (le (le r.size o.size) d.size) i.size) j.size) g.size) p.size) h.size) k.size) E) (ac (nr V) av)))))
 have ca:=ud bv bf (le an.size a1)
 have hs:aj aY dir 21 b=aP (aU.mk 21 0 0 0 0 0 0 0 0 0 0 0 [] [] [] (aI cm (ai.mk ((((ai.mk b false 0).bytesC 1).need (ex ((ai.mk b false 0).byteV)) 5).bytesR ((ai.mk b false 0).byteV)) false 0).l.length 0 (ai.mk ((((ai.mk b false 0).bytesC 1).need (ex ((ai.mk b false 0).byteV)) 5).bytesR ((ai.mk b false 0).byteV)) false 0) []).2 0 0 0 0 0 []) (((((ai.mk b false 0).bytesC 1).need (ex ((ai.mk b false 0).byteV)) 5).bytesC ((ai.mk b false 0).byteV)).need (((aI cm (ai.mk ((((ai.mk b false 0).bytesC 1).need (ex ((ai.mk b false 0).byteV)) 5).bytesR ((ai.mk b false 0).byteV)) false 0).l.length 0 (ai.mk ((((ai.mk b false 0).bytesC 1).need (ex ((ai.mk b false 0).byteV)) 5).bytesR ((ai.mk b false 0).byteV)) false 0) []).1).e==0) (be ((aI cm (ai.mk ((((ai.mk b false 0).bytesC 1).need (ex ((ai.mk b false 0).byteV)) 5).bytesR ((ai.mk b false 0).byteV)) false 0).l.length 0 (ai.mk ((((ai.mk b false 0).bytesC 1).need (ex ((ai.mk b false 0).byteV)) 5).bytesR ((ai.mk b false 0).byteV)) false 0) []).1).e)):=by
   unfold aj aY dD sJ tw km
   (try simp only[bo,bs,if_true,if_false,decide_true,decide_false,eq_self,true_or,or_true,or_false,false_or,if_true,if_false,cP,cO,cN,cR,reduceIte,pO,qP,r9,if_pos hd])
   all_goals rfl
 refine cb ((c7.endC.e != 0)) (fun bg=>?_) (fun bg=>?_)
 have bj:=al bg
 refine sg<|Pl 2<|?_
 have cd:=ub (ud a2 bf a1) M
 refine L0<|aT cd mZ fun dM cV a9=>Pl 1<|nt<|rt<|tr<|?_
 have cg:=nb (ak M) (le (le (le (le (le (le (le (le (le (le (le O.size v.size) t.size) r.size) o.size) d.size) i.size) j.size) g.size) p.size) h.size) k.size) D
 have ch:=az.blk (u1 (az.mono (S':=[P,z,B,I,a3,af]) bd (ac im (ac im (ac im (ac im (ac im av)))))) a9 im) (aa (Ne.symm (nb (ag.lt S) (le (le p.size h.size) k.size) D)) (aa (Ne.symm (nb (ak G) (le (le (le (le (le (le (le (le (le (le v.size t.size) r.size) o.size) d.size) i.size) j.size) g.size) p.size) h.size) k.size) D)) (aa (Ne.symm (nb (ak X) (le h.size k.size) D)) (aa bI (aa (Ne.symm (nb (ag.lt N) (le (le (le (le (le (le (le o.size d.size) i.size) j.size) g.size) p.size) h.size) k.size) D)) (aa (Ne.symm cg) am)))))) ar
 refine tH ch fun dN aH=>?_
 refine rx (aK aH cg cV) (.int .i64 c7.endC.e)<|?_
 subst c8 c5 bA bx
 have ci:=us a9 aH
 have dO:=us F (us a8 ci)
 have dP:=us F (us a8 a9)
 have dQ:=ub (ud a2 (ut (az.mono (S':=[z]) aw av) q.u (ac (ni aF.size Q) (ac im (ac (ni (le (le (le (le (le r.size o.size) d.size) i.size) j.size) g.size) H) (ac (ni (le (le (le (le (le (le (le (le r.size o.size) d.size) i.size) j.size) g.size) p.size) h.size) k.size) E) av))))) a1) M
 have dR:=ag.upd aN (ut (az.mono (S':=[z]) aq av) (ut (az.mono (S':=[P,z,B]) Y av) q.u (ac im (ac im (ac im (ac (ni k.size E) av))))) (ac (nr Q) (ac im (ac (ni g.size H) av)))) (aa (Ne.symm b8) am) (ah (aG ba (by decide)) aA)
 have dS:=us F a8
 have dT:=us F U
 have dU:=ax (ax (ax (ax (ax q.ho F (fun x hx=>(aa (fun e=>(ay (ak T) lr q.ho) (e▸hx)) am)) (b9.updl F q.hl rfl)) U (fun x hx=>(aa (fun e=>(ay (ag.lt N) (le (le (le (le (le (le (le (le o.size d.size) i.size) j.size) g.size) p.size) h.size) k.size) J.size) q.ho) (e▸hx)) am)) (b9.upd16 U (ah (ag.safe bb _ (by decide)) aA))) a7 (fun x hx=>(aa (fun e=>(ay (ag.lt N) (le (le (le (le (le (le (le (le o.size d.size) i.size) j.size) g.size) p.size) h.size) k.size) J.size) q.ho) (e▸hx)) am)) (b9.upd16 a7 (ah (ag.safe bc _ (by decide)) aA))) a9 (fun x hx=>(aa (fun e=>(ay (ak M) (le (le (le (le (le (le (le (le (le (le (le (le O.size v.size) t.size) r.size) o.size) d.size) i.size) j.size) g.size) p.size) h.size) k.size) J.size) q.ho) (e▸hx)) am)) (b9.upd16 a9 (ah (aG cd (by decide)) aA))) aH (fun x hx=>(aa (fun e=>(ay (ak ar) lr q.ho) (e▸hx)) am)) (b9.updl aH ch rfl)
 rw[hs]
 exact bh bj (ut ca ci (ac (nr bq) (ac (ni (le (le (le (le (le (le (le (le (le (le (le (le an.size O.size) v.size) t.size) r.size) o.size) d.size) i.size) j.size) g.size) p.size) h.size) k.size) D) av)))
 have bj:=ae bg
 refine aX<|sg<|?_
 have bm:=us F a8
 refine L0<|bV (az.blk bm (aa a4 (aa (Ne.symm (nb (ag.lt N) (le (le (le (le o.size d.size) i.size) j.size) g.size) H)) am)) cS)<|?_
 have cj:=ub (ud a2 bf a1) M
 refine L0<|aT cj (mG 21 0 0 0 0 0 0 0 0 0 0 0 nS nS nS (.slice c2 ((aI cm (ai.mk (x51.bytesR ((ai.mk b false 0).byteV)) false 0).l.length 0 (ai.mk (x51.bytesR ((ai.mk b false 0).byteV)) false 0) []).2.length) c3) 0 0 0 0 0 nS) fun dV cX ad=>Pl 1<|nt<|rt<|?_
 have ck:=nb (ak M) (le (le (le (le (le (le (le (le (le (le (le O.size v.size) t.size) r.size) o.size) d.size) i.size) j.size) g.size) p.size) h.size) k.size) D
 have cl:=az.blk (u1 (az.mono (S':=[P,z,B,I,a3,af]) bd (ac im (ac im (ac im (ac im (ac im av)))))) ad im) (aa (Ne.symm (nb (ag.lt S) (le (le p.size h.size) k.size) D)) (aa (Ne.symm (nb (ak G) (le (le (le (le (le (le (le (le (le (le v.size t.size) r.size) o.size) d.size) i.size) j.size) g.size) p.size) h.size) k.size) D)) (aa (Ne.symm (nb (ak X) (le h.size k.size) D)) (aa bI (aa (Ne.symm (nb (ag.lt N) (le (le (le (le (le (le (le o.size d.size) i.size) j.size) g.size) p.size) h.size) k.size) D)) (aa (Ne.symm ck) am)))))) ar
 refine tH cl fun dW aJ=>?_
 refine rx (aK aJ ck cX) (.int .i64 0)<|?_
 subst c8 c5 bA bx
 have cn:=us ad aJ
 have dX:=ut (az.mono (S':=[I,a3,af,cD]) bm (ac im (ac im av))) cn (ac im (ac im av))
 have dY:=u1 (az.mono (S':=[I,a3,af]) bm (ac im (ac im av))) ad im
 have dZ:=ub (ud a2 (ut (az.mono (S':=[z]) aw av) q.u (ac (ni aF.size Q) (ac im (ac (ni (le (le (le (le (le r.size o.size) d.size) i.size) j.size) g.size) H) (ac (ni (le (le (le (le (le (le (le (le r.size o.size) d.size) i.size) j.size) g.size) p.size) h.size) k.size) E) av))))) a1) M
 have e0:=ag.upd aN (ut (az.mono (S':=[z]) aq av) (ut (az.mono (S':=[P,z,B]) Y av) q.u (ac im (ac im (ac im (ac (ni k.size E) av))))) (ac (nr Q) (ac im (ac (ni g.size H) av)))) (aa (Ne.symm b8) am) (ah (aG ba (by decide)) aA)
 have e1:=us F U
 rw[hs]
 exact bt bj ⟨_,_,_,_,_,rfl,aB.nil ..,aB.nil ..,aB.nil ..,((ax (ax (ax (ax (ax q.ho F (fun x hx=>(aa (fun e=>(ay (ak T) lr q.ho) (e▸hx)) am)) (b9.updl F q.hl rfl)) U (fun x hx=>(aa (fun e=>(ay (ag.lt N) (le (le (le (le (le (le (le (le o.size d.size) i.size) j.size) g.size) p.size) h.size) k.size) J.size) q.ho) (e▸hx)) am)) (b9.upd16 U (ah (ag.safe bb _ (by decide)) aA))) a7 (fun x hx=>(aa (fun e=>(ay (ag.lt N) (le (le (le (le (le (le (le (le o.size d.size) i.size) j.size) g.size) p.size) h.size) k.size) J.size) q.ho) (e▸hx)) am)) (b9.upd16 a7 (ah (ag.safe bc _ (by decide)) aA))) ad (fun x hx=>(aa (fun e=>(ay (ak M) (le (le (le (le (le (le (le (le (le (le (le (le O.size v.size) t.size) r.size) o.size) d.size) i.size) j.size) g.size) p.size) h.size) k.size) J.size) q.ho) (e▸hx)) am)) (b9.upd16 ad (ah (aG cj (by decide)) aA))) aJ (fun x hx=>(aa (fun e=>(ay (ak ar) lr q.ho) (e▸hx)) am)) (b9.updl aJ cl rfl))).rd,aB.nil ..,(bL (by omega))⟩ (ut ca cn (ac (nr bq) (ac (ni (le (le (le (le (le (le (le (le (le (le (le (le an.size O.size) v.size) t.size) r.size) o.size) d.size) i.size) j.size) g.size) p.size) h.size) k.size) D) av)))
theorem pa{A:Option Addr}{cp:Nat}{b:List Int}{w:World}{c:Int}(n1:(c==20)=false)(n2:(c==21)=false) : Calls Tryz.prog 144 #[.int .i64 0,.int .u8 c,.slice A b.length cp] w (dx (aj aY 0 c b) w):=by
 refine tD 77 Tryz.func144 rfl<|sg<|L0<|bD mZ fun n o d e f=>Pl 1<|nt<|sq<|sg<|Pl 6<|nt<|c0<|?_
 refine aX<|sg<|Pl 2<|L0<|Oc (args:=#[.int .i64 0,.int .u8 c])<|m1 (m0 (dir:=0) (x:=c) n1 n2) fun p g=>Pl 3<|L0<|bD #[.nilFunc,.nilFunc] fun q r h i j=>L0<|aT i #[.nilFunc,.nilFunc] fun s t k=>Pl 1<|nt<|sq<|sq<|?_
 refine go<|Pl 2<|nt<|c1<|sg<|Pl 1<|?_
 have a:=aE g (ud j k h)
 refine L0<|aT (ub a e) mZ fun u l m=>Pl 1<|nt<|rt<|tr<|ry l (.int .i64 4)<|?_
 have hs:aj aY 0 c b=(aU.zero,4):=by
   unfold aj aY
   (try simp only[bs,if_true,if_false,decide_true,decide_false,eq_self,true_or,or_true,or_false,false_or,if_true,if_false,cP,cO,cN,cR,reduceIte,n1,n2])
   all_goals rfl
 rw[hs]
 exact bT (ud f (uz a m) d)
theorem oG{A:Option Addr}{cp:Nat}{b:List Int}{w:World}{c:Int}(n1:(c==20)=false)(n2:(c==21)=false) : Calls Tryz.prog 144 #[.int .i64 1,.int .u8 c,.slice A b.length cp] w (dx (aj aY 1 c b) w):=by
 refine tD 77 Tryz.func144 rfl<|sg<|L0<|bD mZ fun n o d e f=>Pl 1<|nt<|sq<|sg<|Pl 6<|nt<|c0<|?_
 refine aX<|sg<|Pl 2<|L0<|Oc (args:=#[.int .i64 1,.int .u8 c])<|m1 (m0 (dir:=1) (x:=c) n1 n2) fun p g=>Pl 3<|L0<|bD #[.nilFunc,.nilFunc] fun q r h i j=>L0<|aT i #[.nilFunc,.nilFunc] fun s t k=>Pl 1<|nt<|sq<|sq<|?_
 refine go<|Pl 2<|nt<|c1<|sg<|Pl 1<|?_
 have a:=aE g (ud j k h)
 refine L0<|aT (ub a e) mZ fun u l m=>Pl 1<|nt<|rt<|tr<|ry l (.int .i64 4)<|?_
 have hs:aj aY 1 c b=(aU.zero,4):=by
   unfold aj aY
   (try simp only[bs,if_true,if_false,decide_true,decide_false,eq_self,true_or,or_true,or_false,false_or,if_true,if_false,cP,cO,cN,cR,reduceIte,n1,n2])
   all_goals rfl
 rw[hs]
 exact bT (ud f (uz a m) d)
theorem oP{A:Option Addr}{cp:Nat}{b:List Int}{w:World}{dir c:Int}(hd:¬ (dir=0∨dir=1)) : Calls Tryz.prog 144 #[.int .i64 dir,.int .u8 c,.slice A b.length cp] w (dx (aj aY dir c b) w):=by
 have e0:(dir != 0)=true:=by simp;omega
 have e1:(dir != 1)=true:=by simp;omega
 refine tD 77 Tryz.func144 rfl<|sg<|L0<|bD mZ fun g h a d e=>Pl 1<|nt<|sq<|sg<|Pl 3<|sy 18 e0<|Pl 3<|nl<|?_
 refine tn<|ct e1<|sg<|Pl 1<|L0<|aT d mZ fun i dF f=>Pl 1<|nt<|rt<|tr<|ry dF (.int .i64 1)<|?_
 have hs:aj aY dir c b=(aU.zero,1):=by
   unfold aj aY
   (try simp only[e0,e1,bs,if_true,if_false,decide_true,decide_false,eq_self,true_or,or_true,or_false,false_or,if_true,if_false,cP,cO,cN,cR,reduceIte,hd])
   all_goals rfl
 rw[hs]
 exact bT (ud e f a)
theorem lS{m:Md}{v:Value}{b:List Int}{w:World}{dir c:Int}(hc:B8 c)(h:aQ m w v b)(hb:b.length≤1048576) :
    Calls Tryz.prog 144 #[.int .i64 dir,.int .u8 c,v] w (dx (aj aY dir c b) w):=by
  obtain⟨A,cp,rfl,_,_⟩:=h.shape
  by_cases h0:dir=0
  · subst h0
    by_cases a:c=20
    · subst a;exact l1 (Or.inl (rfl:(0:Int)=0)) h hb
    by_cases d:c=21
    · subst d;exact jQ (Or.inl rfl) h hb
    exact pa (by simpa using a) (by simpa using d)
  by_cases h1:dir=1
  · subst h1
    by_cases a:c=20
    · subst a;exact lD (Or.inl (rfl:(0:Int)=0)) h hb
    by_cases d:c=21
    · subst d;exact jQ (Or.inr rfl) h hb
    exact oG (by simpa using a) (by simpa using d)
  exact oP (by omega)
open Go.RowKit
open Go.RowKit
open Go.RowKit
open Go.RowKit
open Go.RowKit
open Go.RowKit
open Go.RowKit
open Go.RowKit
open Go.RowKit
theorem fV{x y:aU × Int}(h:x=y){w:World}{e:Ending}{w':World}(k:dx y w e w') : dx x w e w':=by rw[h];exact k
def ij:Nat→Int→List Int→aU × Int
  | 1,dir,b=>aj aC dir (b.getD 0 0) (b.drop 1)
  | 2,dir,b=>aj aH dir (b.getD 0 0) (b.drop 1)
  | 3,dir,b=>aj aW dir (b.getD 0 0) (b.drop 1)
  | 4,dir,b=>aj aY dir (b.getD 0 0) (b.drop 1)
  | 5,dir,b=>aj bJ dir (b.getD 0 0) (b.drop 1)
  | _,_,_=>(aU.zero,4)
def da (dir:Int)(b:List Int) : aU × Int :=
  if dir != 0&&dir != 1 then (aU.zero,1)
  else if (b.length:Int)==0 then (aU.zero,2)
  else if decide (253<(b.length:Int)) then (aU.zero,3)
  else if decide (128≤b.getD 0 0)&&dir==1 then eh b
  else ij (jk (b.getD 0 0)) dir b
theorem mU{m:Md}{A:Option Addr}{cp:Nat}{b:List Int}{w:World}{dir:Int}(hsl:aQ m w (.slice A b.length cp) b)(hb:b.length≤1048576) :
    Calls Tryz.prog 24 #[.int .i64 dir,.slice A b.length cp] w (dx (da dir b) w):=by
 have hln:(b.length:Int)≤1048576:=by omega
 refine en 60 Tryz.func24 rfl<|sg<|L0<|bD mZ fun dn t h a f=>Pl 1<|nt<|sq<|bk<|sg<|Pl 3<|cu 3 [11] 14 (((dir != 0)&&(dir != 1))) (fun K a2=>?_) ?_
 refine bl 11 ((dir != 0)) (fun u=>?_) (fun u=>?_)
 have c2:=al u
 exact Pl 3<|ce a2 (dir != 1) (by rw[u];rfl)
 have c2:=ae u
 exact Pl 3<|ce a2 false (by rw[u];rfl)
 refine Pl 1<|nt<|cb (((dir != 0)&&(dir != 1))) (fun d=>?_) (fun d=>?_)
 have a3:=(aO d).1
 have a4:=(aO d).2
 have dp:=al a3
 have dq:=al a4
 refine sg<|Pl 1<|L0<|aT a mZ fun dr c3 c4=>Pl 1<|nt<|rt<|br<|tr<|bu c3 (.int .i64 1)<|?_
 have hs:da dir b=(aU.zero,1):=by
   unfold da
   (try simp only[d,a3,a4,bs,if_true,if_false,decide_true,decide_false,ij,reduceIte])
   all_goals rfl
 refine fV hs ?_
 exact bT (ud f c4 h)
 refine sg<|Pl 4<|nt<|cb ((((b.length:Nat) : Int)==0)) (fun e=>?_) (fun e=>?_)
 have c5:=ap e
 refine sg<|Pl 1<|L0<|aT a mZ fun ds c6 c7=>Pl 1<|nt<|rt<|br<|tr<|bu c6 (.int .i64 2)<|?_
 have hs:da dir b=(aU.zero,2):=by
   unfold da
   (try simp only[d,e,bs,if_true,if_false,decide_true,decide_false,ij,reduceIte])
   all_goals rfl
 refine fV hs ?_
 exact bT (ud f c7 h)
 have c5:=aq e
 refine sg<|Pl 4<|nt<|cb ((decide (253<((b.length:Nat) : Int)))) (fun g=>?_) (fun g=>?_)
 have c8:=of_decide_eq_true g
 refine sg<|Pl 1<|L0<|aT a mZ fun dt c9 ca=>Pl 1<|nt<|rt<|br<|tr<|bu c9 (.int .i64 3)<|?_
 have hs:da dir b=(aU.zero,3):=by
   unfold da
   (try simp only[d,e,g,bs,if_true,if_false,decide_true,decide_false,ij,reduceIte])
   all_goals rfl
 refine fV hs ?_
 exact bT (ud f ca h)
 have c8:=of_decide_eq_false g
 refine sg<|Pl 1<|?_
 have s:=aQ.old hsl f
 refine f3 (aQ.at_ s 0 (by omega)) fun a5 a6 a7 a8 du=>L0<|fR b.length 0 a7 (by omega)<|L0<|cY (p:=⟨a5,a6+0,none⟩) (v:=.int .u8 (b.getD 0 0)) a8<|Pl 2<|cu 3 [31] 34 (((decide (128≤(b.getD 0 0)))&&(dir==1))) (fun K a9=>?_) ?_
 refine bl 31 ((decide (128≤(b.getD 0 0)))) (fun y=>?_) (fun y=>?_)
 have cc:=of_decide_eq_true y
 exact Pl 3<|ce a9 (dir==1) (by rw[y];rfl)
 have cc:=of_decide_eq_false y
 exact Pl 3<|ce a9 false (by rw[y];rfl)
 refine Pl 1<|nt<|cb (((decide (128≤(b.getD 0 0)))&&(dir==1))) (fun i=>?_) (fun i=>?_)
 have aa:=(aO i).1
 have ab:=(aO i).2
 have dv:=of_decide_eq_true aa
 have dw:=ap ab
 refine sg<|Pl 1<|L0<|Oc<|e2 (o7 s (by omega)) fun cd dy z ac=>Pl 2<|?_
 have ad:=ub ac a
 refine L0<|aT (hz:=(by rw[z.size];exact aN)) (hv:=z.size) (h1:=z.one) ad (cd) fun dz cf af=>Pl 1<|nt<|rt<|br<|tr<|dG 22 z.size cf (.int .i64 (((eh b)).2))<|?_
 have hs:da dir b=(eh b):=by
   unfold da
   (try simp only[d,e,g,i,aa,ab,bs,if_true,if_false,decide_true,decide_false,ij,reduceIte])
   all_goals rfl
 refine fV hs ?_
 exact⟨_,rfl,(bq.upd z af (ah (aG ad (by decide)) aA)),(ud f (uz ac af) h)⟩
 refine sk<|bn<|tn<|sg<|Pl 1<|L0<|fR b.length 0 a7 (by omega)<|L0<|cY (p:=⟨a5,a6+0,none⟩) (v:=.int .u8 (b.getD 0 0)) a8<|?_
 rcases gV (b.getD 0 0) with⟨hk,hkf⟩|⟨hk,hkf⟩|⟨hk,hkf⟩|⟨hk,hkf⟩|⟨hk,hkf⟩|⟨hk,hkf⟩
 have ag:=gL (x:=(b.getD 0 0)) (w:=t)
 rw[hkf] at ag
 refine L0<|Oc<|m1 ag fun dA ai=>Pl 3<|L0<|bD #[.nilFunc,.nilFunc] fun cg dB am ch ci=>L0<|aT ch #[.func (.func 138) #[] #[],.func (.func 139) #[] #[]] fun dC cj ck=>Pl 1<|nt<|sq<|sg<|Pl 2<|nt<|c0<|?_
 refine aX<|sq<|?_
 have an:=aE ai (ud ci ck am)
 have ao:=aQ.old s an
 refine f3 (aQ.at_ ao 0 (by omega)) fun cl cm ar av dD=>Rg 13 (fun w'=>w'.cell? ⟨cg,0,none⟩=some (.func (.func 138) #[] #[])∧w'.cell? ⟨cl,cm+0,none⟩=some (.int .u8 (b.getD 0 0))) fun dE M=>?_
 have aw:=ub M cj
 refine bg ⟨(au aw rfl),(uc M av)⟩ fun j=>Rt 0 j<|Rl 1 j (fun _ hs=>hs.1)<|Rt 2 j<|Rt 3 j<|mb 4 j b.length 0 0 rfl ar (by omega)<|Rl 5 j (fun _ hs=>hs.2)<|Rt 6 j<|jn (d9 (P:=Tryz.prog) 22 5 1 Tryz.underlying22 rfl rfl A b.length cp 1 (by omega)) fun ax hrun108 cn=>Rr 7 j (.slice ax (b.length-1) (cp-1)) (fun _ _=>dl (kl:=.i64) (k:=((1:Nat) : Int)) (A:=A) (n:=b.length) (c:=cp) rfl Tryz.underlying22 (by kernel_rfl) (by kernel_rfl) (hrun108 _ _))<|?_
 refine R0 8 rfl<|gH #[] #[] (args:=#[.int .i64 dir,.int .u8 (b.getD 0 0),.slice ax (b.length-1) (cp-1)])<|e2 (lh (dir:=dir) (c:=(b.getD 0 0)) (b8 (by omega)) (cn _ _ _ _ _ (aQ.old ao M)) (by(try simp only[List.length_drop]);omega)) fun co dF B S=>?_
 have ay:=ub S aw
 have T:=aE M S
 refine bg ⟨(au ay rfl),(uc T av)⟩ fun az=>Rt 9 az<|Rt 10 az<|?_
 have aB:=aE an T
 have aD:=ub aB a
 refine R0 11 rfl<|aT (hz:=(by rw[B.size];exact aN)) (hv:=B.size) (h1:=B.one) aD (co) fun dH cq C=>?_
 have dI:=uz T C
 have dJ:=uz S C
 have aF:=ud f (uz aB C) h
 refine bg ⟨(au (aK C (Ne.symm (nb (ak a) ai.size am)) ay) rfl),(cB (aQ.old hsl aF) ar 0 (by omega))⟩ fun cr=>Rt 12 cr<|re<|tn<|rt<|dG 22 B.size cq (.int .i64 (((aj aC dir (b.getD 0 0) (b.drop 1))).2))<|?_
 have hs:da dir b=(aj aC dir (b.getD 0 0) (b.drop 1)):=by
   unfold da
   (try simp only[d,e,g,i,bs,if_true,if_false,decide_true,decide_false,hkf,ij,reduceIte])
   all_goals rfl
 refine fV hs ?_
 exact⟨_,rfl,(bq.upd B C (ah (aG aD (by decide)) aA)),aF⟩
 have aI:=gL (x:=(b.getD 0 0)) (w:=t)
 rw[hkf] at aI
 refine L0<|Oc<|m1 aI fun dK aJ=>Pl 3<|L0<|bD #[.nilFunc,.nilFunc] fun cs dL aL ct cv=>L0<|aT ct #[.func (.func 140) #[] #[],.func (.func 141) #[] #[]] fun dM cw cx=>Pl 1<|nt<|sq<|sg<|Pl 2<|nt<|c0<|?_
 refine aX<|sq<|?_
 have aM:=aE aJ (ud cv cx aL)
 have aP:=aQ.old s aM
 refine f3 (aQ.at_ aP 0 (by omega)) fun cy cz aR aS dN=>Rg 13 (fun w'=>w'.cell? ⟨cs,0,none⟩=some (.func (.func 140) #[] #[])∧w'.cell? ⟨cy,cz+0,none⟩=some (.int .u8 (b.getD 0 0))) fun dO N=>?_
 have aV:=ub N cw
 refine bg ⟨(au aV rfl),(uc N aS)⟩ fun l=>Rt 0 l<|Rl 1 l (fun _ hs=>hs.1)<|Rt 2 l<|Rt 3 l<|mb 4 l b.length 0 0 rfl aR (by omega)<|Rl 5 l (fun _ hs=>hs.2)<|Rt 6 l<|jn (d9 (P:=Tryz.prog) 22 5 1 Tryz.underlying22 rfl rfl A b.length cp 1 (by omega)) fun aZ hrun188 cA=>Rr 7 l (.slice aZ (b.length-1) (cp-1)) (fun _ _=>dl (kl:=.i64) (k:=((1:Nat) : Int)) (A:=A) (n:=b.length) (c:=cp) rfl Tryz.underlying22 (by kernel_rfl) (by kernel_rfl) (hrun188 _ _))<|?_
 refine R0 8 rfl<|gH #[] #[] (args:=#[.int .i64 dir,.int .u8 (b.getD 0 0),.slice aZ (b.length-1) (cp-1)])<|e2 (mV (dir:=dir) (c:=(b.getD 0 0)) (b8 (by omega)) (cA _ _ _ _ _ (aQ.old aP N)) (by(try simp only[List.length_drop]);omega)) fun cC dP D U=>?_
 have b0:=ub U aV
 have V:=aE N U
 refine bg ⟨(au b0 rfl),(uc V aS)⟩ fun b1=>Rt 9 b1<|Rt 10 b1<|?_
 have b2:=aE aM V
 have b3:=ub b2 a
 refine R0 11 rfl<|aT (hz:=(by rw[D.size];exact aN)) (hv:=D.size) (h1:=D.one) b3 (cC) fun dQ cD E=>?_
 have dR:=uz V E
 have dS:=uz U E
 have b4:=ud f (uz b2 E) h
 refine bg ⟨(au (aK E (Ne.symm (nb (ak a) aJ.size aL)) b0) rfl),(cB (aQ.old hsl b4) aR 0 (by omega))⟩ fun cE=>Rt 12 cE<|re<|tn<|rt<|dG 22 D.size cD (.int .i64 (((aj aH dir (b.getD 0 0) (b.drop 1))).2))<|?_
 have hs:da dir b=(aj aH dir (b.getD 0 0) (b.drop 1)):=by
   unfold da
   (try simp only[d,e,g,i,bs,if_true,if_false,decide_true,decide_false,hkf,ij,reduceIte])
   all_goals rfl
 refine fV hs ?_
 exact⟨_,rfl,(bq.upd D E (ah (aG b3 (by decide)) aA)),b4⟩
 have b5:=gL (x:=(b.getD 0 0)) (w:=t)
 rw[hkf] at b5
 refine L0<|Oc<|m1 b5 fun dT b6=>Pl 3<|L0<|bD #[.nilFunc,.nilFunc] fun cF dU b7 cG cH=>L0<|aT cG #[.func (.func 142) #[] #[],.func (.func 143) #[] #[]] fun dV cI cJ=>Pl 1<|nt<|sq<|sg<|Pl 2<|nt<|c0<|?_
 refine aX<|sq<|?_
 have b9:=aE b6 (ud cH cJ b7)
 have ba:=aQ.old s b9
 refine f3 (aQ.at_ ba 0 (by omega)) fun cK cL bb bc dW=>Rg 13 (fun w'=>w'.cell? ⟨cF,0,none⟩=some (.func (.func 142) #[] #[])∧w'.cell? ⟨cK,cL+0,none⟩=some (.int .u8 (b.getD 0 0))) fun dX O=>?_
 have bd:=ub O cI
 refine bg ⟨(au bd rfl),(uc O bc)⟩ fun o=>Rt 0 o<|Rl 1 o (fun _ hs=>hs.1)<|Rt 2 o<|Rt 3 o<|mb 4 o b.length 0 0 rfl bb (by omega)<|Rl 5 o (fun _ hs=>hs.2)<|Rt 6 o<|jn (d9 (P:=Tryz.prog) 22 5 1 Tryz.underlying22 rfl rfl A b.length cp 1 (by omega)) fun be hrun268 cM=>Rr 7 o (.slice be (b.length-1) (cp-1)) (fun _ _=>dl (kl:=.i64) (k:=((1:Nat) : Int)) (A:=A) (n:=b.length) (c:=cp) rfl Tryz.underlying22 (by kernel_rfl) (by kernel_rfl) (hrun268 _ _))<|?_
 refine R0 8 rfl<|gH #[] #[] (args:=#[.int .i64 dir,.int .u8 (b.getD 0 0),.slice be (b.length-1) (cp-1)])<|e2 (mY (dir:=dir) (c:=(b.getD 0 0)) (b8 (by omega)) (cM _ _ _ _ _ (aQ.old ba O)) (by(try simp only[List.length_drop]);omega)) fun cN dY F W=>?_
 have bf:=ub W bd
 have X:=aE O W
 refine bg ⟨(au bf rfl),(uc X bc)⟩ fun bh=>Rt 9 bh<|Rt 10 bh<|?_
 have bi:=aE b9 X
 have bj:=ub bi a
 refine R0 11 rfl<|aT (hz:=(by rw[F.size];exact aN)) (hv:=F.size) (h1:=F.one) bj (cN) fun dZ cO G=>?_
 have e0:=uz X G
 have e1:=uz W G
 have bm:=ud f (uz bi G) h
 refine bg ⟨(au (aK G (Ne.symm (nb (ak a) b6.size b7)) bf) rfl),(cB (aQ.old hsl bm) bb 0 (by omega))⟩ fun cP=>Rt 12 cP<|re<|tn<|rt<|dG 22 F.size cO (.int .i64 (((aj aW dir (b.getD 0 0) (b.drop 1))).2))<|?_
 have hs:da dir b=(aj aW dir (b.getD 0 0) (b.drop 1)):=by
   unfold da
   (try simp only[d,e,g,i,bs,if_true,if_false,decide_true,decide_false,hkf,ij,reduceIte])
   all_goals rfl
 refine fV hs ?_
 exact⟨_,rfl,(bq.upd F G (ah (aG bj (by decide)) aA)),bm⟩
 have bo:=gL (x:=(b.getD 0 0)) (w:=t)
 rw[hkf] at bo
 refine L0<|Oc<|m1 bo fun e3 bp=>Pl 3<|L0<|bD #[.nilFunc,.nilFunc] fun cQ e4 bt cR cS=>L0<|aT cR #[.func (.func 144) #[] #[],.func (.func 145) #[] #[]] fun e5 cT cU=>Pl 1<|nt<|sq<|sg<|Pl 2<|nt<|c0<|?_
 refine aX<|sq<|?_
 have bv:=aE bp (ud cS cU bt)
 have bw:=aQ.old s bv
 refine f3 (aQ.at_ bw 0 (by omega)) fun cV cW bx bz e6=>Rg 13 (fun w'=>w'.cell? ⟨cQ,0,none⟩=some (.func (.func 144) #[] #[])∧w'.cell? ⟨cV,cW+0,none⟩=some (.int .u8 (b.getD 0 0))) fun e7 Q=>?_
 have bA:=ub Q cT
 refine bg ⟨(au bA rfl),(uc Q bz)⟩ fun q=>Rt 0 q<|Rl 1 q (fun _ hs=>hs.1)<|Rt 2 q<|Rt 3 q<|mb 4 q b.length 0 0 rfl bx (by omega)<|Rl 5 q (fun _ hs=>hs.2)<|Rt 6 q<|jn (d9 (P:=Tryz.prog) 22 5 1 Tryz.underlying22 rfl rfl A b.length cp 1 (by omega)) fun bB hrun348 cX=>Rr 7 q (.slice bB (b.length-1) (cp-1)) (fun _ _=>dl (kl:=.i64) (k:=((1:Nat) : Int)) (A:=A) (n:=b.length) (c:=cp) rfl Tryz.underlying22 (by kernel_rfl) (by kernel_rfl) (hrun348 _ _))<|?_
 refine R0 8 rfl<|gH #[] #[] (args:=#[.int .i64 dir,.int .u8 (b.getD 0 0),.slice bB (b.length-1) (cp-1)])<|e2 (lS (dir:=dir) (c:=(b.getD 0 0)) (b8 (by omega)) (cX _ _ _ _ _ (aQ.old bw Q)) (by(try simp only[List.length_drop]);omega)) fun cZ e8 H Y=>?_
 have bC:=ub Y bA
 have Z:=aE Q Y
 refine bg ⟨(au bC rfl),(uc Z bz)⟩ fun bE=>Rt 9 bE<|Rt 10 bE<|?_
 have bF:=aE bv Z
 have bG:=ub bF a
 refine R0 11 rfl<|aT (hz:=(by rw[H.size];exact aN)) (hv:=H.size) (h1:=H.one) bG (cZ) fun e9 d0 I=>?_
 have ea:=uz Z I
 have eb:=uz Y I
 have bH:=ud f (uz bF I) h
 refine bg ⟨(au (aK I (Ne.symm (nb (ak a) bp.size bt)) bC) rfl),(cB (aQ.old hsl bH) bx 0 (by omega))⟩ fun d1=>Rt 12 d1<|re<|tn<|rt<|dG 22 H.size d0 (.int .i64 (((aj aY dir (b.getD 0 0) (b.drop 1))).2))<|?_
 have hs:da dir b=(aj aY dir (b.getD 0 0) (b.drop 1)):=by
   unfold da
   (try simp only[d,e,g,i,bs,if_true,if_false,decide_true,decide_false,hkf,ij,reduceIte])
   all_goals rfl
 refine fV hs ?_
 exact⟨_,rfl,(bq.upd H I (ah (aG bG (by decide)) aA)),bH⟩
 have bI:=gL (x:=(b.getD 0 0)) (w:=t)
 rw[hkf] at bI
 refine L0<|Oc<|m1 bI fun ec bK=>Pl 3<|L0<|bD #[.nilFunc,.nilFunc] fun d2 ed bL d3 d4=>L0<|aT d3 #[.func (.func 146) #[] #[],.func (.func 147) #[] #[]] fun ee d5 d6=>Pl 1<|nt<|sq<|sg<|Pl 2<|nt<|c0<|?_
 refine aX<|sq<|?_
 have bM:=aE bK (ud d4 d6 bL)
 have bN:=aQ.old s bM
 refine f3 (aQ.at_ bN 0 (by omega)) fun d7 d8 bO bP ef=>Rg 13 (fun w'=>w'.cell? ⟨d2,0,none⟩=some (.func (.func 146) #[] #[])∧w'.cell? ⟨d7,d8+0,none⟩=some (.int .u8 (b.getD 0 0))) fun eg R=>?_
 have bQ:=ub R d5
 refine bg ⟨(au bQ rfl),(uc R bP)⟩ fun r=>Rt 0 r<|Rl 1 r (fun _ hs=>hs.1)<|Rt 2 r<|Rt 3 r<|mb 4 r b.length 0 0 rfl bO (by omega)<|Rl 5 r (fun _ hs=>hs.2)<|Rt 6 r<|jn (d9 (P:=Tryz.prog) 22 5 1 Tryz.underlying22 rfl rfl A b.length cp 1 (by omega)) fun bR hrun428 db=>Rr 7 r (.slice bR (b.length-1) (cp-1)) (fun _ _=>dl (kl:=.i64) (k:=((1:Nat) : Int)) (A:=A) (n:=b.length) (c:=cp) rfl Tryz.underlying22 (by kernel_rfl) (by kernel_rfl) (hrun428 _ _))<|?_
 refine R0 8 rfl<|gH #[] #[] (args:=#[.int .i64 dir,.int .u8 (b.getD 0 0),.slice bR (b.length-1) (cp-1)])<|e2 (oX (dir:=dir) (c:=(b.getD 0 0)) (b8 (by omega)) (db _ _ _ _ _ (aQ.old bN R)) (by(try simp only[List.length_drop]);omega)) fun dc ei J a0=>?_
 have bS:=ub a0 bQ
 have a1:=aE R a0
 refine bg ⟨(au bS rfl),(uc a1 bP)⟩ fun bU=>Rt 9 bU<|Rt 10 bU<|?_
 have bV:=aE bM a1
 have bW:=ub bV a
 refine R0 11 rfl<|aT (hz:=(by rw[J.size];exact aN)) (hv:=J.size) (h1:=J.one) bW (dc) fun ej dd L=>?_
 have ek:=uz a1 L
 have el:=uz a0 L
 have bX:=ud f (uz bV L) h
 refine bg ⟨(au (aK L (Ne.symm (nb (ak a) bK.size bL)) bS) rfl),(cB (aQ.old hsl bX) bO 0 (by omega))⟩ fun de=>Rt 12 de<|re<|tn<|rt<|dG 22 J.size dd (.int .i64 (((aj bJ dir (b.getD 0 0) (b.drop 1))).2))<|?_
 have hs:da dir b=(aj bJ dir (b.getD 0 0) (b.drop 1)):=by
   unfold da
   (try simp only[d,e,g,i,bs,if_true,if_false,decide_true,decide_false,hkf,ij,reduceIte])
   all_goals rfl
 refine fV hs ?_
 exact⟨_,rfl,(bq.upd J L (ah (aG bW (by decide)) aA)),bX⟩
 have bY:=gL (x:=(b.getD 0 0)) (w:=t)
 rw[hkf] at bY
 refine L0<|Oc<|m1 bY fun em df=>Pl 3<|L0<|bD #[.nilFunc,.nilFunc] fun eo ep dg dh di=>L0<|aT dh #[.nilFunc,.nilFunc] fun eq er dj=>Pl 1<|nt<|sq<|sg<|Pl 2<|nt<|c1<|?_
 refine sg<|Pl 1<|?_
 have bZ:=aE df (ud di dj dg)
 refine L0<|aT (ub bZ a) mZ fun es dk dm=>Pl 1<|nt<|rt<|tr<|bu dk (.int .i64 4)<|?_
 have hs:da dir b=(aU.zero,4):=by
   unfold da
   (try simp only[d,e,g,i,bs,if_true,if_false,decide_true,decide_false,hkf,ij,reduceIte])
   all_goals rfl
 refine fV hs ?_
 exact bT (ud f (uz bZ dm) h)
theorem pl{m:Md}{v:Value}{b:List Int}{w:World}{dir:Int}(h:aQ m w v b)(hb:b.length≤1048576) : Calls Tryz.prog 24 #[.int .i64 dir,v] w (dx (da dir b) w):=by
  obtain⟨A,cp,rfl,_,_⟩:=h.shape
  exact mU h hb
end Go.Proofs.YtogbnemojakcpaaGreat
namespace Go.Proofs.YtogbnemojakcpaaGreat
def N1 (C:ai) : Prop:=C.e≠1
theorem N1.need{C:ai}{b:Bool}{x:Int}(hx:x≠1)(h:N1 C) : N1 (C.need b x):=by
  unfold N1 ai.need at *
  split
  · exact hx
  · exact h
theorem N1.bytesC{C:ai}{n:Int}(h:N1 C) : N1 (C.bytesC n):=by
  unfold ai.bytesC
  split
  · exact N1.need (by decide) h
  · exact h
theorem N1.wordsC{C:ai}{n:Int}(h:N1 C) : N1 (C.wordsC n):=by
  unfold ai.wordsC
  split<;>exact N1.bytesC h
theorem N1.recs{one:Int→ai→Int × ai × cW}(ho:∀ s C,N1 C→N1 (one s C).2.1) : ∀ (n:Nat)(s:Int)(C:ai)(L:List cW),N1 C→N1 (aI one n s C L).1
  | 0,_,_,_,h=>h
  | n+1,s,C,L,h=>by
    unfold aI
    split
    · split
      · exact ho s C h
      · exact N1.recs ho n _ _ _ (ho s C h)
    · exact h
theorem N1.endC{C:ai}(h:N1 C) : N1 C.endC:=by
  unfold ai.endC
  exact N1.need (by decide) h
end Go.Proofs.YtogbnemojakcpaaGreat
namespace Go.Proofs.YtogbnemojakcpaaGreat
end Go.Proofs.YtogbnemojakcpaaGreat
namespace Go.Proofs.YtogbnemojakcpaaGreat
open Go.RowKit
theorem oZ{w w':World}(h:az [] w w') : Below w.heap.size w w':=⟨h.os,h.tape,h.output,h.size,fun k hk=>h.block k hk (by simp)⟩
theorem pe{n:Int}(h:(Lit.int .u8 n).wf=true) : 0≤n∧n<256:=by
  have:=bounds_u8 h
  omega
open Go.RowKit
structure SL where
  aw:Option Addr
  kw:Nat
  ab:Option Addr
  kb:Nat
  ad:Option Addr
  kd:Nat
  ar:Option Addr
  kr:Nat
  ao:Option Addr
  ko:Nat
def lH (M:aU)(x:SL) : Array Value:=mG M.code M.fail M.addr M.count M.value M.and_ M.or_ M.addr2 M.sub M.status M.events M.messages (.slice x.aw M.words.length x.kw) (.slice x.ab M.bits.length x.kb) (.slice x.ad M.data.length x.kd) (.slice x.ar M.recs.length x.kr) M.mei M.kind M.level M.more M.next (.slice x.ao M.objects.length x.ko)
theorem pI{m:Md}{w:World}{cs:Array Value}{M:aU}(h:bq m w cs.toList M) : ∃ x,cs=lH M x:=by
  obtain⟨vw,vb,vd,vr,vo,h0,hw,hb,hd,hr,ho,hR⟩:=h
  obtain⟨aw,kw,rfl,_,_⟩:=hw.shape
  obtain⟨ab,kb,rfl,_,_⟩:=hb.shape
  obtain⟨ad,kd,rfl,_,_⟩:=hd.shape
  obtain⟨ar,kr,rfl,_,_⟩:=hr.shape
  obtain⟨ao,ko,rfl,_,_⟩:=ho.shape
  refine⟨⟨aw,kw,ab,kb,ad,kd,ar,kr,ao,ko⟩,?_⟩
  apply Array.toList_inj.1
  rw[h0]
  rfl
open Go.RowKit
def tX:aU:={ aU.zero with code:=7 }
open Go.RowKit
structure fo where
  unit:Int
  tid:Int
  msg:aU
def fo.zero:fo:=⟨0,0,aU.zero⟩
def un (m:Md)(w:World)(cs:Array Value)(F:fo) : Prop:=∃ c:Array Value,cs = #[.int .u8 F.unit,.int .u16 F.tid]++c∧bq m w c.toList F.msg∧B8 F.unit∧dF F.tid
def qZ (res:fo × Int)(w:World)(e:Ending)(w':World) : Prop:=∃ cs,e = .returned (.tuple #[.agg cs,.int .i64 res.2])∧un true w' cs res.1∧az [] w w'
theorem jO{x y:fo × Int}(h:x=y){w:World}{e:Ending}{w':World}(k:qZ y w e w') : qZ x w e w':=by rw[h];exact k
def ux:Array Value:=#[.int .u8 0,.int .u16 0,.int .u8 0,.int .u8 0,.int .u16 0,.int .u16 0,.int .u16 0,.int .u16 0,.int .u16 0,.int .u16 0,.int .u16 0,.int .u16 0,.int .u16 0,.int .u16 0,.slice none 0 0,.slice none 0 0,.slice none 0 0,.slice none 0 0,.int .u8 0,.int .u8 0,.int .u8 0,.int .u8 0,.int .u8 0,.slice none 0 0]
theorem gl{x:Int}{w W:World}(hu:az [] w W) : qZ (fo.zero,x) w (.returned (.tuple #[.agg ux,.int .i64 x])) W:=⟨_,rfl,⟨jt,(by kernel_rfl),bq.zero ..,(show(0:Int)≤0∧(0:Int)<256 from by decide),(show(0:Int)≤0∧(0:Int)<65536 from by decide)⟩,hu⟩
def eS (u t:Int) : aU × Int→fo × Int
  | (M,E)=>if E != 0 then (fo.zero,E) else (⟨u,t,M⟩,0)
open Go.RowKit
deriving instance DecidableEq for fo
def qv (u t:Int)(M:aU)(x:SL) : Array Value:=#[.int .u8 u,.int .u16 t,.int .u8 M.code,.int .u8 M.fail,.int .u16 M.addr,.int .u16 M.count,.int .u16 M.value,.int .u16 M.and_,.int .u16 M.or_,.int .u16 M.addr2,.int .u16 M.sub,.int .u16 M.status,.int .u16 M.events,.int .u16 M.messages,.slice x.aw M.words.length x.kw,.slice x.ab M.bits.length x.kb,.slice x.ad M.data.length x.kd,.slice x.ar M.recs.length x.kr,.int .u8 M.mei,.int .u8 M.kind,.int .u8 M.level,.int .u8 M.more,.int .u8 M.next,.slice x.ao M.objects.length x.ko]
theorem qz(u t:Int)(M:aU)(x:SL) : qv u t M x = #[.int .u8 u,.int .u16 t]++lH M x:=by kernel_rfl
open Go.RowKit
structure Ev where
  e:Int
  f:fo
def Ev.bad (e:Int) : Ev:=⟨e,fo.zero⟩
def oV (x:Ev)(s:SL) : Array Value:=#[.int .i64 x.e,.int .u8 x.f.unit,.int .u16 x.f.tid,.int .u8 x.f.msg.code,.int .u8 x.f.msg.fail,.int .u16 x.f.msg.addr,.int .u16 x.f.msg.count,.int .u16 x.f.msg.value,.int .u16 x.f.msg.and_,.int .u16 x.f.msg.or_,.int .u16 x.f.msg.addr2,.int .u16 x.f.msg.sub,.int .u16 x.f.msg.status,.int .u16 x.f.msg.events,.int .u16 x.f.msg.messages,.slice s.aw x.f.msg.words.length s.kw,.slice s.ab x.f.msg.bits.length s.kb,.slice s.ad x.f.msg.data.length s.kd,.slice s.ar x.f.msg.recs.length s.kr,.int .u8 x.f.msg.mei,.int .u8 x.f.msg.kind,.int .u8 x.f.msg.level,.int .u8 x.f.msg.more,.int .u8 x.f.msg.next,.slice s.ao x.f.msg.objects.length s.ko]
theorem tc(x:Ev)(s:SL) : oV x s = #[.int .i64 x.e]++qv x.f.unit x.f.tid x.f.msg s:=by kernel_rfl
def gh (m:Md)(w:World)(x:Ev)(cs:List Value) : Prop:=∃ s,cs=(oV x s).toList∧bq m w (lH x.f.msg s).toList x.f.msg∧(0≤x.f.unit∧x.f.unit<256)∧(0≤x.f.tid∧x.f.tid<65536)
def tL (m:Md)(w:World)(f:fo)(cs:List Value) : Prop:=∃ s,cs=(qv f.unit f.tid f.msg s).toList∧bq m w (lH f.msg s).toList f.msg∧(0≤f.unit∧f.unit<256)∧(0≤f.tid∧f.tid<65536)
def w6 (m:Md)(w:World)(b:List Int)(cs:List Value) : Prop:=∃ v,cs=[v]∧aQ m w v b
abbrev oy (m:Md) (w:World) (v:Value) (xs:List Ev) : Prop:=aB m 122 25 (gh m) w v xs
abbrev lA (base:Nat) (w:World) (v:Value) (xs:List Ev) : Prop:=b6 base 122 25 (gh true) w v xs
theorem gh.upd{m:Md}{w w':World}{S:List Nat}(hu:az S w w')(hs:c6 m fX S w)(x:Ev)(cs:List Value)(h:gh m w x cs) : gh m w' x cs:=by
  obtain⟨s,h1,h2,h3⟩:=h
  exact⟨s,h1,h2.upd hu hs,h3⟩
theorem oy.upd'{m:Md}{w w':World}{v:Value}{xs:List Ev}{S:List Nat}(h:oy m w v xs)(hu:az S w w')(hs:c6 m (122 :: fX) S w) : oy m w' v xs:=aB.upd h hu (hs.sub fun t ht=>by rw[List.mem_singleton] at ht;rw[ht];exact List.mem_cons_self ..) (gh.upd hu (hs.sub fun t ht=>List.mem_cons_of_mem _ ht))
theorem oy.old{m:Md}{w w':World}{v:Value}{xs:List Ev}(h:oy m w v xs)(hu:az [] w w') : oy m w' v xs:=h.upd' hu (c6.nil _ _ _)
theorem qj(x:Ev)(s:SL) : (oV x s).toList.length=25:=by kernel_rfl
theorem mp{w:World}:bq true w (lH aU.zero ⟨none,0,none,0,none,0,none,0,none,0⟩).toList aU.zero:=bq.zero ..
theorem oM{w0 w:World}{g:Nat}{cs:Array Value}{x:Ev}(hg:w0.heap.size≤g)(hb:w.heap[g]? = some (.cells cs 122 (0,0)))(h:gh true w x cs.toList) : lA w0.heap.size w (.slice (some ⟨g,0,none⟩) 1 1) [x]:=by
  have hh:=h
  obtain⟨s,h1,h2⟩:=hh
  have hl:cs.toList.length=25:=by rw[h1];exact qj x s
  clear h1
  refine⟨cs.toList,⟨hl,.inr ⟨g,1,cs,rfl,hg,hb,Nat.le_refl _,by unfold maxLen;omega,by simpa using hl,by rw[List.take_of_length_le];exact Nat.le_of_eq hl⟩⟩,fun j y hj=>?_⟩
  cases j with
  | succ j=>simp at hj
  | zero =>
    have hj:x=y:=by simpa using hj
    subst hj
    exact⟨cs.toList,hl,h,fun i u hi=>by simpa using hi⟩
theorem vn{α β γ δ ε ζ:Sort _}{C:Prop}{P1 P2 P3 P4:α→β→γ→δ→ε→ζ→Prop}(h:∃ a b c d e f,P1 a b c d e f∧P2 a b c d e f∧P3 a b c d e f∧P4 a b c d e f)(k:∀ a b c d e f,P1 a b c d e f→P2 a b c d e f→P3 a b c d e f→P4 a b c d e f→C) : C :=
  let ⟨a,b,c,d,e,f,h1,h2,h3,h4⟩:=h;k a b c d e f h1 h2 h3 h4
theorem gz{α β γ δ:Sort _}{C:Prop}{P1 P2 P3 P4 P5:α→β→γ→δ→Prop}(h:∃ a b c d,P1 a b c d∧P2 a b c d∧P3 a b c d∧P4 a b c d∧P5 a b c d)(k:∀ a b c d,P1 a b c d→P2 a b c d→P3 a b c d→P4 a b c d→P5 a b c d→C) : C :=
  let ⟨a,b,c,d,h1,h2,h3,h4,h5⟩:=h;k a b c d h1 h2 h3 h4 h5
theorem gh.ones{m:Md}{w:World}(x:Ev)(cs:List Value)(h:gh m w x cs) : ∀ v,v∈cs→v.oneCell'=true:=by
  obtain⟨s,h1,h2,_⟩:=h
  have h3:=h2.one
  intro v hv
  rw[h1,tc,qz,Array.toList_append,Array.toList_append,List.mem_append,List.mem_append] at hv
  clear h1
  rw[Array.all_eq_true'] at h3
  rcases hv with hv|hv|hv
  · simp at hv;subst hv;rfl
  · simp at hv;rcases hv with rfl | rfl<;>rfl
  · exact h3 v (by simpa using hv)
theorem oy.elt{m:Md}{w:World}{A:Option Addr}{n c:Nat}{xs:List Ev}(h:oy m w (.slice A n c) xs)(j:Nat)(hj:j<xs.length)(d:Ev) :
    ∃ b off cells t fr s,A=some ⟨b,off,none⟩∧w.heap[b]? = some (.cells cells t fr)∧(bq m w (lH (xs.getD j d).f.msg s).toList (xs.getD j d).f.msg∧(0≤(xs.getD j d).f.unit∧(xs.getD j d).f.unit<256)∧(0≤(xs.getD j d).f.tid∧(xs.getD j d).f.tid<65536))∧(cells.toList.drop (off+j*25)).take 25=(oV (xs.getD j d) s).toList:=by
  obtain⟨b,off,cells,t,fr,cs,h1,h2,h3,⟨s,h4,h5⟩,h6⟩:=aB.elt h d j hj
  exact⟨b,off,cells,t,fr,s,h1,h2,h5,h6.trans h4⟩
abbrev tW (m:Md) (w:World) (v:Value) (xs:List fo) : Prop:=aB m 44 24 (tL m) w v xs
abbrev fs (m:Md) (w:World) (v:Value) (xs:List (List Int)) : Prop:=aB m 22 1 (w6 m) w v xs
theorem tL.upd{m:Md}{w w':World}{S:List Nat}(hu:az S w w')(hs:c6 m fX S w)(x:fo)(cs:List Value)(h:tL m w x cs) : tL m w' x cs:=by
  obtain⟨s,h1,h2,h3⟩:=h
  exact⟨s,h1,h2.upd hu hs,h3⟩
theorem tW.old{m:Md}{w w':World}{v:Value}{xs:List fo}(h:tW m w v xs)(hu:az [] w w') : tW m w' v xs:=aB.upd h hu (c6.nil _ _ _) (tL.upd hu (c6.nil _ _ _))
theorem tW.elt{m:Md}{w:World}{A:Option Addr}{n c:Nat}{xs:List fo}(h:tW m w (.slice A n c) xs)(j:Nat)(hj:j<xs.length)(d:fo) :
    ∃ b off cells t fr s,A=some ⟨b,off,none⟩∧w.heap[b]? = some (.cells cells t fr)∧(bq m w (lH (xs.getD j d).msg s).toList (xs.getD j d).msg∧(0≤(xs.getD j d).unit∧(xs.getD j d).unit<256)∧(0≤(xs.getD j d).tid∧(xs.getD j d).tid<65536))∧(cells.toList.drop (off+j*24)).take 24=(qv (xs.getD j d).unit (xs.getD j d).tid (xs.getD j d).msg s).toList:=by
  obtain⟨b,off,cells,t,fr,cs,h1,h2,h3,⟨s,h4,h5⟩,h6⟩:=aB.elt h d j hj
  exact⟨b,off,cells,t,fr,s,h1,h2,h5,h6.trans h4⟩
theorem fs.old{m:Md}{w w':World}{v:Value}{xs:List (List Int)}(h:fs m w v xs)(hu:az [] w w') : fs m w' v xs:=aB.upd h hu (c6.nil _ _ _) fun x cs ⟨v,h1,h2⟩=>⟨v,h1,h2.old hu⟩
theorem fs.elt{m:Md}{w:World}{A:Option Addr}{n c:Nat}{xs:List (List Int)}(h:fs m w (.slice A n c) xs)(j:Nat)(hj:j<xs.length) :
    ∃ b off A' c',A=some ⟨b,off,none⟩∧w.cell? ⟨b,off+j,none⟩=some (.slice A' (xs.getD j []).length c')∧aQ m w (.slice A' (xs.getD j []).length c') (xs.getD j [])∧(xs.getD j []).length≤c'∧c'≤maxLen:=by
  obtain⟨b,off,cells,t,fr,cs,h1,h2,h3,⟨v,h4,h5⟩,h6⟩:=aB.elt h [] j hj
  obtain⟨A',c',rfl,h7,h8⟩:=h5.shape
  refine⟨b,off,A',c',h1,?_,h5,h7,h8⟩
  rw[bR h2]
  rw[h4] at h6
  have h9:=congrArg (fun z=>z[0]?) h6
  simpa using h9
open Go.RowKit
theorem nV{P:Program}(t e:TypeId)(sz:Nat){i:TypeInfo}(ht:P.underlying t=some (.slice e))(hi:P.info? e=some i)(hsz:i.size=sz)(A:Option Addr)(n c:Nat){k:Int}(h:Nat)(hk:k=(h:Int))(hh:h≤n)(hc:n≤c) :
    ∃ A':Option Addr,(∀ (kh:IntKind) (W:World),(Instr.slice t (.slice A n c) none (some (.int kh k)) none).run P W = .ok (.slice A' h c) W) ∧
      ∀ {α:Type} (m:Md) (e':TypeId) (R:World→α→List Value→Prop) (w:World) (xs:List α),aB m e' sz R w (.slice A n c) xs→aB m e' sz R w (.slice A' h c) (xs.take h):=by
  subst hk
  obtain⟨A',h1,h2⟩:=q5 (P:=P) t e sz ht hi hsz A n c 0 h (Nat.zero_le _) hh hc
  refine⟨A',fun kh W=>?_,fun m e' R w xs hr=>by simpa using h2 m e' R w xs hr⟩
  have h3:=h1 .i64 kh W
  have hel:P.elem t=e:=by simp[Program.elem,ht]
  have hu:P.underlying t=some (.slice (P.elem t)):=by rw[hel];exact ht
  rw[run_slice_h W t A n c hu kh (h:Int) (Int.natCast_nonneg _) (by omega)]
  rw[run_slice_lh W t A n c hu .i64 kh (((0:Nat) : Int)) (h:Int) (Int.natCast_nonneg _) (by omega) (by omega)] at h3
  simpa using h3
theorem gC{o:Oper}{ev:Operand→Value}{P:Program}{w:World}{t:TypeId}{x y:Operand}{A:Option Addr}{n c:Nat}{kl:IntKind}{k:Int}{v:Value}{e:TypeId}(ho:o.op = .slice t x none (some y) none)(ht:P.underlying t=some (.slice e))(hx:ev x = .slice A n c)(hy:ev y = .int kl k)
    (hr:(Instr.slice t (.slice A n c) none (some (.int kl k)) none).run P w = .ok v w) : (execOp ev o).run P w = .ok (.value v) w:=by
  have hu:(underlying t).run P w = .ok (.slice e) w:=run_underlying ht w
  unfold execOp
  simp only[ho,Option.map_some,Option.map_none,hx,hy,Instr.sliceAt,Sem.run_bind,hu,hr,Result.andThen,Sem.run_pure]
theorem fE{P:Program}(t e:TypeId)(sz:Nat){i:TypeInfo}(ht:P.underlying t=some (.slice e))(hi:P.info? e=some i)(hsz:i.size=sz)(A:Option Addr)(n c:Nat){lo up:Int}(k h:Nat)(hlo:lo=(k:Int))(hup:up=(h:Int))(hk:k≤h)(hh:h≤n)(hc:n≤c) :
    ∃ A':Option Addr,(∀ (kl kh:IntKind) (W:World),(Instr.slice t (.slice A n c) (some (.int kl lo)) (some (.int kh up)) none).run P W = .ok (.slice A' (h-k) (c-k)) W) ∧
      ∀ {α:Type} (m:Md) (e':TypeId) (R:World→α→List Value→Prop) (w:World) (xs:List α),aB m e' sz R w (.slice A n c) xs→aB m e' sz R w (.slice A' (h-k) (c-k)) ((xs.take h).drop k):=by
  subst hlo hup
  exact q5 t e sz ht hi hsz A n c k h hk hh hc
theorem eu{o:Oper}{ev:Operand→Value}{P:Program}{w:World}{t:TypeId}{x y z:Operand}{A:Option Addr}{n c:Nat}{kl kh:IntKind}{lo hi:Int}{v:Value}{e:TypeId}(ho:o.op = .slice t x (some y) (some z) none)(ht:P.underlying t=some (.slice e))(hx:ev x = .slice A n c)(hy:ev y = .int kl lo)(hz:ev z = .int kh hi)
    (hr:(Instr.slice t (.slice A n c) (some (.int kl lo)) (some (.int kh hi)) none).run P w = .ok v w) : (execOp ev o).run P w = .ok (.value v) w:=by
  have hu:(underlying t).run P w = .ok (.slice e) w:=run_underlying ht w
  unfold execOp
  simp only[ho,Option.map_some,Option.map_none,hx,hy,hz,Instr.sliceAt,Sem.run_bind,hu,hr,Result.andThen,Sem.run_pure]
theorem o6{P:Program}(t e:TypeId)(sz:Nat){i:TypeInfo}(ht:P.underlying t=some (.slice e))(hi:P.info? e=some i)(hsz:i.size=sz)(A:Option Addr)(n c:Nat){lo:Int}(k:Nat)(hlo:lo=(k:Int))(hk:k≤n) :
    ∃ A':Option Addr,(∀ (kl:IntKind) (W:World),(Instr.slice t (.slice A n c) (some (.int kl lo)) none none).run P W = .ok (.slice A' (n-k) (c-k)) W) ∧
      ∀ {α:Type} (m:Md) (e':TypeId) (R:World→α→List Value→Prop) (w:World) (xs:List α),aB m e' sz R w (.slice A n c) xs→aB m e' sz R w (.slice A' (n-k) (c-k)) (xs.drop k):=by
  subst hlo
  exact d9 t e sz ht hi hsz A n c k hk
open Go.RowKit
theorem nN{P:Program}{w:World}{ev:Operand→Value}{o:Oper}{x y:Operand}{ts:Array TypeId}{k:IntKind}{a b:Int}(ho:o.op = .call { callee:=.builtin .min,args:=#[x,y],argTypes:=ts })(hx:ev x = .int k a)(hy:ev y = .int k b) : (execOp ev o).run P w = .ok (.value (.int k (min a b))) w:=by
  have h:(Builtin.min_ ts o.type #[.int k a,.int k b]).run P w = .ok (.int k (min a b)) w:=by
    simp[Builtin.min_,Builtin.min2]
    split<;>simp[Int.min_def]<;>omega
  unfold execOp
  simp only[ho,resolve,invoke,builtin,Sem.run_bind,Sem.run_pure,Result.andThen_ok,List.map_toArray,List.map_cons,List.map_nil,hx,hy,h]
theorem aB.adr{α:Type}{m:Md}{e:TypeId}{sz:Nat}{R:World→α→List Value→Prop}{w:World}{A:Option Addr}{n c:Nat}{xs:List α}(h:aB m e sz R w (.slice A n c) xs) : 0<n→∃ b off,A=some ⟨b,off,none⟩:=fun hn=>by
  obtain⟨A',c',hv,hc1,hc2,h0,h3⟩:=h
  injection hv with e1 e2 e3
  subst e1 e2 e3
  obtain⟨b,off,cells,t,fr,hA,_⟩:=h3 hn
  exact⟨b,off,hA⟩
theorem aB.cap{α:Type}{m:Md}{e:TypeId}{sz:Nat}{R:World→α→List Value→Prop}{w:World}{A:Option Addr}{n c:Nat}{xs:List α}(h:aB m e sz R w (.slice A n c) xs) : n≤c:=by
  obtain⟨A',c',hv,h1,_⟩:=h
  injection hv with _ e2 e3
  subst e2 e3
  exact h1
theorem l0{P:Program}{w:World}{ev:Operand→Value}{o:Oper}{x y z:Operand}{t e:TypeId}{A:Option Addr}{n c:Nat}{k1 k2:IntKind}{i1 i2:Int}(ho:o.op = .slice t x none (some y) (some z))(ht:P.underlying t=some (.slice e))(hi:(P.info? e).map (·.size)=some 1)
    (hx:ev x = .slice A n c) (hy:ev y = .int k1 i1) (hz:ev z = .int k2 i2) (h1:i1=(n:Int)) (h2:i2=(n:Int)) (hc1:n≤c) (hA:0<n→∃ b off,A=some ⟨b,off,none⟩) : (execOp ev o).run P w = .ok (.value (.slice A n n)) w:=by
  subst h1 h2
  obtain⟨i0,hi0,hs⟩:=Option.map_eq_some_iff.1 hi
  have hel:P.elem t=e:=by simp[Program.elem,ht]
  have hu:P.underlying t=some (.slice (P.elem t)):=by rw[hel];exact ht
  have hr:=run_slice_hm (P:=P) w t A n c hu k1 k2 ((n:Nat) : Int) ((n:Nat) : Int) (by omega) (Int.le_refl _) (by omega)
  have hA:(if n=0 then A else A.map (·.add 0))=A:=by
    split
    · rfl
    · rename_i hne
      obtain⟨b,off,rfl⟩:=hA (by omega)
      rfl
  have hr2:(Instr.slice t (.slice A n c) none (some (.int k1 ((n:Nat) : Int))) (some (.int k2 ((n:Nat) : Int)))).run P w = .ok (.slice A n n) w:=by
    rw[hr,hel]
    simp[sizeOf,typeInfo,hi0,hs,sliced,Result.andThen]
    simpa using hA
  have hu2:(underlying t).run P w = .ok (.slice e) w:=run_underlying ht w
  unfold execOp
  simp only[ho,Option.map_some,Option.map_none,hx,hy,hz,Instr.sliceAt,Sem.run_bind,hu2,hr2,Result.andThen,Sem.run_pure]
theorem aQ.full{m:Md}{w:World}{A:Option Addr}{n c:Nat}{xs:List Int}(h:aQ m w (.slice A n c) xs) : aQ m w (.slice A n n) xs:=by
  obtain⟨A',c',hv,hc1,hc2,h0,h3⟩:=h
  injection hv with e1 e2 e3
  subst e1 e2 e3
  refine⟨A,xs.length,rfl,Nat.le_refl _,Nat.le_trans hc1 hc2,fun hA=>?_,h3⟩
  have:=h0 hA
  omega
theorem lY{P:Program}{A:Option Addr}{c:Nat}(w:World) : (Builtin.firstCells 1 0 (.slice A 0 c)).run P w = .ok #[] w:=by
  cases A with
  | none=>simp[Builtin.firstCells]
  | some a =>
    have:=run_loadCells_list (P:=P) w a [] (fun j v hj=>by simp at hj)
    simpa [Builtin.firstCells] using this
theorem r4{P:Program}{m:Md}{w:World}{t e:TypeId}{A:Option Addr}{n c:Nat}{ys:List Int}(ht:P.underlying t=some (.slice e))(h:aQ m w (.slice A n c) ys)(h0:ys=[]) : Src P 1 t (.slice A n c) 0 [] w:=by
  subst h0
  obtain⟨A',c',hv,hc1,hc2,h0,h3⟩:=h
  injection hv with e1 e2 e3
  subst e1 e2 e3
  exact⟨.inl ⟨e,ht⟩,fun w'=>by simp[Builtin.lenOf],lY w,lY w.drew,rfl,fun u hu=>by cases hu⟩
theorem ie{P:Program}{m:Md}{w:World}(t ty e:TypeId)(ht:P.underlying t=some (.slice e))(hte:e=5)(hinfo:(P.info? e).map (fun i=>(i.zero,i.size,i.bytes))=some (some (.int .u8 0),1,1))
    {A:Option Addr} {xs ys:List Int} (HX:aQ true w (.slice A xs.length xs.length) xs) {u:Value} (HY:aQ m w u ys) (hl:xs.length+ys.length≤4194304) :
    ∃ v w',(Builtin.append_ #[t,t] ty #[.slice A xs.length xs.length,u]).run P w = .ok v w'∧aQ true w' v (xs++ys)∧az [] w w':=by
  subst hte
  obtain⟨i0,hi,hz0,hz1,hz2⟩:=info_parts hinfo
  obtain⟨B,c,rfl,hc1,hc2⟩:=HY.shape
  by_cases hy:ys=[]
  · have hs:=r4 (P:=P) ht HY hy
    subst hy
    rw[← hz1] at hs
    exact⟨_,w,run_append_nothing w t t ty _ i0 ht hi A xs.length xs.length (Nat.le_refl _) _ hs,by simpa using HX,az.refl _ _⟩
  have hyl:0<ys.length:=by
    cases ys with
    | nil=>exact absurd rfl hy
    | cons a r=>simp
  cases B with
  | none =>
    obtain⟨B,c',hv,_,_,h0,h3⟩:=HY
    injection hv with e1 e2 e3
    subst e1 e3
    obtain⟨b,off,cells,t,fr,hh,_⟩:=h3 hyl
    cases hh
  | some ad =>
    obtain⟨_,hnews⟩:=et i3.cell HY
    have hby:∀ x,x∈xs++ys→0≤x∧x<256:=fun x hx=>by
      rcases List.mem_append.1 hx with h|h
      · exact HX.rng x h
      · exact HY.rng x h
    have fin:∀ (cp:Nat) (w':World) (zs:Array Value),xs.length+ys.length≤cp→cp≤maxLen→w'.heap[w.heap.size]? = some (.cells (((xs++ys).map (Value.int .u8)).toArray++zs) 5 (0,0))→aQ true w' (.slice (some ⟨w.heap.size,0,none⟩) (xs.length+ys.length) cp) (xs++ys):=fun cp w' zs h1 h2 h3=>by
      refine⟨_,cp,by rw[List.length_append],by rw[List.length_append];exact h1,h2,(fun hA=>by cases hA),fun hp=>⟨w.heap.size,0,_,_,_,rfl,h3,(fun _=>⟨rfl,Nat.zero_le _⟩),fun j x hj=>?_⟩⟩
      refine⟨[.int .u8 x],rfl,⟨rfl,hby x (List.mem_of_getElem? hj)⟩,fun i u hi=>?_⟩
      cases i with
      | succ i=>simp at hi
      | zero =>
        have hi:Value.int .u8 x=u:=by simpa using hi
        subst hi
        have hlt:=(List.getElem?_eq_some_iff.1 hj).1
        rw[Array.getElem?_append_left (by simp;simpa using hlt)]
        simp only[Nat.zero_add,Nat.mul_one,Nat.add_zero]
        rw[List.getElem?_toArray,List.getElem?_map,hj]
        rfl
    cases A with
    | none =>
      have hx0:xs=[]:=by
        obtain⟨B,c',hv,_,_,h0,h3⟩:=HX
        injection hv with e1 e2 e3
        subst e1
        have:=h0 rfl
        exact List.eq_nil_of_length_eq_zero (by omega)
      subst hx0
      have hr:=run_append_nil (P:=P) w t ty _ i0 (.int .u8 0) ht hi hz0 ad ys.length c (ys.map (Value.int .u8)) (by rw[hz1];simp) hnews hyl (by omega) (by rw[hz2];omega)
      refine⟨_,_,hr,?_,((az.refl _ _).drew).alloc _⟩
      have:=fin (grownCap w ys.length 0 5) (w.drew.alloc (.cells ((ys.map (Value.int .u8)).toArray++Builtin.zeroCells (Value.int .u8 0).cells (grownCap w ys.length 0 5-ys.length)) 5)) (Builtin.zeroCells (Value.int .u8 0).cells (grownCap w ys.length 0 5-ys.length)) (by simpa using grownCap_ge w ys.length 0 _) (grownCap_le_maxLen _ _ _ _ (by unfold maxLen;omega)) (by simpa using dq w.drew _)
      simpa using this
    | some bd =>
      obtain⟨_,holds⟩:=et i3.cell HX
      have hr:=run_append_grow (P:=P) w t ty _ i0 (.int .u8 0) ht hi hz0 bd xs.length xs.length (xs.map (Value.int .u8)) (by rw[hz1];simp) holds ad ys.length c (ys.map (Value.int .u8)) (by rw[hz1];simp) hnews (by omega) (by omega) (by
        rw[hz2]
        have:=nextslicecap_le (need:=xs.length+ys.length) (old:=xs.length) (by omega)
        omega)
      refine⟨_,_,hr,?_,((az.refl _ _).drew).alloc _⟩
      refine fin (grownCap w (xs.length+ys.length) xs.length 5) _ (Builtin.zeroCells (Value.int .u8 0).cells (grownCap w (xs.length+ys.length) xs.length 5-(xs.length+ys.length))) (grownCap_ge w _ _ _) (grownCap_le_maxLen _ _ _ _ (by unfold maxLen;omega)) ?_
      simpa using dq w.drew _
section
variable {P:Program}{n:Nat}{D:List Deferred}{F:Fr}{w:World}{K:Fr→World→Prop}{Q:Exit→Act→World→Prop}{d:Option Tmp}{t:TypeId}{s:String}{af:Array Edge}{gu:Option (Nat × Bool)}
theorem uT{ty:TypeId}{x y:Operand}{m:Md}{A:Option Addr}{xs ys:List Int}{u:Value}(HX:aQ true w (.slice A xs.length xs.length) xs)(HY:aQ m w u ys)(hl:xs.length+ys.length≤4194304)
    (h:∀ A' cp w',aQ true w' (.slice A' (xs++ys).length cp) (xs++ys)→az [] w w'→K (pt d (.slice A' (xs++ys).length cp) F) w') (hx:dQ F x=some (.slice A xs.length xs.length):=by kernel_rfl) (hy:dQ F y=some u:=by kernel_rfl)
    (hs:(kZ P ty,(P.info? 5).map (fun i=>(i.zero,i.size,i.bytes)),eR n d)=(some 5,some (some (.int .u8 0),1,1),true):=by kernel_rfl) : OG P ⟨d,.call { callee:=.builtin .append,args:=#[x,y],argTypes:=#[ty,ty] },t,s,af,gu⟩ n D F w K Q:=by
  simp only[Prod.mk.injEq] at hs
  obtain⟨h1,h2,h3⟩:=hs
  obtain⟨v,w',hr,hv,hu⟩:=ie (P:=P) (w:=w) ty t _ (dI h1) rfl h2 HX HY hl
  obtain⟨A',cp,rfl,_,_⟩:=hv.shape
  refine⟨fun a ha K' hK=>OW.mk ?_⟩
  have hx':=ha.ev hx
  have hy':=ha.ev hy
  unfold Oper.wp execOp
  simp only[resolve,invoke,builtin,Sem.run_bind,Sem.run_pure,Result.andThen_ok,List.map_toArray,List.map_cons,List.map_nil,hx',hy',hr]
  exact hK _ _ _ (h A' cp w' hv hu) (ha.put h3)
end
end Go.Proofs.YtogbnemojakcpaaGreat
namespace Go.Proofs.YtogbnemojakcpaaGreat
def gq (x:Nat) : Nat:=(x/2) ^^^ (x%2*40961)
def ec:Nat→Nat→Nat
  | 0,x=>x
  | k+1,x=>gq (ec k x)
def rz (i:Nat) : Nat:=ec 8 i
theorem rb{x:Nat}(h:x<65536) : gq x<65536:=by
  unfold gq
  exact Nat.xor_lt_two_pow (n:=16) (by omega) (by omega)
theorem fK{x:Nat}(h:x<65536) : ∀ k,ec k x<65536
  | 0=>h
  | k+1=>rb (fK h k)
theorem ny{i:Nat}(h:i<256) : rz i<65536:=fK (by omega) 8
def nD (s c:Nat) : Nat:=(s/256) ^^^ rz ((s%256) ^^^ c)
theorem nF{a b:Nat}(ha:a<256)(hb:b<256) : a ^^^ b<256:=Nat.xor_lt_two_pow (n:=8) ha hb
theorem iB{a b:Nat}(ha:a<65536)(hb:b<65536) : a ^^^ b<65536:=Nat.xor_lt_two_pow (n:=16) ha hb
theorem qJ{s c:Nat}(hs:s<65536)(hc:c<256) : nD s c<65536:=iB (by omega) (ny (nF (by omega) hc))
def xi (a b:Int) : Int:=((a.toNat ^^^ b.toNat:Nat) : Int)
theorem vV{a b:Int}(ha:0≤a∧a<256)(hb:0≤b∧b<256) : 0≤xi a b∧xi a b<256:=by
  have:=nF (a:=a.toNat) (b:=b.toNat) (by omega) (by omega)
  unfold xi
  omega
theorem ug{a b:Int}(ha:0≤a∧a<65536)(hb:0≤b∧b<65536) : 0≤xi a b∧xi a b<65536:=by
  have:=iB (a:=a.toNat) (b:=b.toNat) (by omega) (by omega)
  unfold xi
  omega
theorem ru(n:Nat) : xi (((n:Nat) : Int)/2) ((((n:Nat) : Int)%2)*40961%65536)=((gq n:Nat) : Int):=by
  unfold xi gq
  rw[show(((n:Nat) : Int)/2).toNat=n/2 from by omega,show((((n:Nat) : Int)%2)*40961%65536).toNat=n%2*40961 from by omega]
def iq (i:Int) : Int:=((rz i.toNat:Nat) : Int)
theorem lX{i:Int}(h:0≤i∧i<256) : 0≤iq i∧iq i<65536:=by
  have:=ny (i:=i.toNat) (by omega)
  unfold iq
  omega
def n8 (s c:Int) : Int:=xi (s/256) (iq (xi (s%256) c))
theorem lE{s c:Int}(hs:0≤s∧s<65536)(hc:0≤c∧c<256) : n8 s c=((nD s.toNat c.toNat:Nat) : Int):=by
  unfold n8 iq xi nD
  rw[show(s/256).toNat=s.toNat/256 from by omega,show(s%256).toNat=s.toNat%256 from by omega]
  simp only[Int.toNat_natCast]
theorem l5{s c:Int}(hs:0≤s∧s<65536)(hc:0≤c∧c<256) : 0≤n8 s c∧n8 s c<65536:=by
  have:=qJ (s:=s.toNat) (c:=c.toNat) (by omega) (by omega)
  rw[lE hs hc]
  omega
def cg (s:Int)(b:List Int) : Int:=b.foldl n8 s
theorem gB:∀ (b:List Int){s:Int},(0≤s∧s<65536)→(∀ x,x∈b→0≤x∧x<256)→0≤cg s b∧cg s b<65536
  | [],s,hs,_=>hs
  | c :: b,s,hs,hb=>gB b (l5 hs (hb c (List.mem_cons_self ..))) fun x hx=>hb x (List.mem_cons_of_mem _ hx)
theorem qB(s:Int)(a b:List Int) : cg s (a++b)=cg (cg s a) b:=by unfold cg;rw[List.foldl_append]
def c7 (s:Int) : List Int:=[s%256,s/256%256]
def cX (b:List Int) : Bool:=decide (2≤b.length)&&decide (c7 (cg 65535 (b.take (b.length-2)))=b.drop (b.length-2))
open Go.RowKit
def uH (P:Program)(ty:TypeId) : Option (Nat × TypeId):=match P.underlying ty with | some (.array m e)=>some (m,e) | _=>none
theorem qQ{P:Program}{ty e:TypeId}{m:Nat}(h:uH P ty=some (m,e)) : P.underlying ty=some (.array m e):=by
  unfold uH at h
  split at h
  · injection h with h
    injection h with h1 h2
    subst h1 h2
    assumption
  · cases h
theorem ph{P:Program}{w:World}{ev:Operand→Value}{o:Oper}{t e:TypeId}{x ix:Operand}{b off j m:Nat}{k:IntKind}{i:Int}(ho:o.op = .indexAddr t x ix)(ht:P.underlying t=some (.array m e))(hi:(P.info? e).map (·.size)=some 1)
    (hx:ev x = .pointer (some ⟨b,off,none⟩)) (hix:ev ix = .int k i) (hj:i=j) (hlt:j<m) : (execOp ev o).run P w = .ok (.value (.pointer (some ⟨b,off+j,none⟩))) w:=by
  subst hj
  obtain⟨i0,hi0,hs⟩:=Option.map_eq_some_iff.1 hi
  unfold execOp
  have h2:(0:Int)≤(j:Int)∧(j:Int)<(m:Int):=by omega
  simp[ho,hx,hix,Instr.indexAt,Instr.sureAddr,asIntOf,run_underlying ht,Result.andThen,h2,sizeOf,typeInfo,hi0,hs,fZ,hlt]
section
variable {P:Program}{n:Nat}{D:List Deferred}{F:Fr}{w:World}{K:Fr→World→Prop}{Q:Exit→Act→World→Prop}{d:Option Tmp}{t:TypeId}{s:String}{af:Array Edge}{gu:Option (Nat × Bool)}
theorem vv{ty:TypeId}{x ix:Operand}{b off:Nat}(m j:Nat)(i:Int)(hj:i=j)(hlt:j<m)(h:K (pt d (.pointer (some ⟨b,off+j,none⟩)) F) w)
    (hx:dQ F x=some (.pointer (some ⟨b,off,none⟩)):=by kernel_rfl) (hi:rq F ix=some i:=by kernel_rfl) (hs:((uH P ty).bind fun p=>(P.info? p.2).map fun q=>(p.1,q.size),eR n d)=(some (m,1),true):=by kernel_rfl) : OG P ⟨d,.indexAddr ty x ix,t,s,af,gu⟩ n D F w K Q:=by
  simp only[Prod.mk.injEq] at hs
  obtain⟨hs,hd⟩:=hs
  obtain⟨k,hi⟩:=iV hi
  cases he:uH P ty with
  | none=>rw[he] at hs;simp at hs
  | some p =>
    obtain⟨m',e⟩:=p
    rw[he] at hs
    obtain⟨q,hq,h3⟩:=Option.map_eq_some_iff.1 (show(P.info? e).map (fun q=>(m',q.size))=some (m,1) from hs)
    injection h3 with h4 h5
    subst h4
    exact⟨fun a ha K' hK=>f5 _ rfl (ph rfl (qQ he) (by rw[hq];simp[h5]) (ha.ev hx) (ha.ev hi) hj hlt) (hK _ _ _ h (ha.put hd))⟩
end
theorem tP{a b:Int}(ha:0≤a∧a<256)(hb:0≤b∧b<256) : bits .xor .u8 a b=xi a b:=u8_xor a b ha.1 ha.2 hb.1 hb.2
theorem kz{a b:Int}(ha:0≤a∧a<65536)(hb:0≤b∧b<65536) : bits .xor .u16 a b=xi a b:=u16_xor a b ha.1 ha.2 hb.1 hb.2
theorem qL{a:Int}(ha:0≤a∧a<65536) : bits .and .u16 a 1=a%2:=by
  rw[u16_and a 1 ha.1 ha.2 (by omega) (by omega)]
  show((a.toNat &&& 1:Nat) : Int)=_
  rw[Nat.and_one_is_mod]
  omega
def fu (k:Nat) : Array Value:=((List.range 256).map fun i=>if i<k then Value.int .u16 (iq i) else Value.int .u16 0).toArray
theorem dp(k:Nat) : (fu k).size=256:=by simp[fu]
theorem lP(k:Nat) : (fu k).all (·.oneCell')=true:=by
  unfold fu
  rw[List.all_toArray,List.all_eq_true]
  intro v hv
  rw[List.mem_map] at hv
  obtain⟨i,_,rfl⟩:=hv
  split<;>rfl
theorem pQ{i k:Nat}(hk:k=8)(hi:i<256) : (fu i).setIfInBounds i (.int .u16 ((ec k i:Nat) : Int))=fu (i+1):=by
  subst hk
  unfold fu
  rw[List.setIfInBounds_toArray]
  congr 1
  apply List.ext_getElem?
  intro j
  rw[List.getElem?_set]
  by_cases hj:j<256
  · by_cases hij:i=j
    · subst hij
      simp[hi,iq,rz]
    · simp[hij,hj]
      congr 1
      simp only[eq_iff_iff]
      omega
  · rw[if_neg (by omega)]
    simp[hj]
theorem rH{i:Nat}(h:i<256) : (fu 256)[i]? = some (.int .u16 (iq i)):=by simp[fu,h]
def db (s:Int)(b:List Int) : Nat→Int
  | 0=>s
  | k+1=>n8 (db s b k) (b.getD k 0)
theorem jT(s:Int)(b:List Int) : ∀ k,k≤b.length→db s b k=cg s (b.take k)
  | 0,_=>by simp[db,cg]
  | k+1,h=>by
    rw[List.take_succ_eq_append_getElem (by omega),qB,← jT s b k (by omega)]
    show n8 _ (b.getD k 0)=_
    rw[List.getD_eq_getElem?_getD,List.getElem?_eq_getElem (by omega)]
    rfl
theorem lb{s:Int}{b:List Int}{k:Nat}(h:k=b.length) : db s b k=cg s b:=by
  subst h
  rw[jT _ _ _ (Nat.le_refl _),List.take_length]
theorem gG{s:Int}{b:List Int}(hs:0≤s∧s<65536)(hb:∀ x,x∈b→0≤x∧x<256) : ∀ k,0≤db s b k∧db s b k<65536
  | 0=>hs
  | k+1=>l5 (gG hs hb k) (fv (by omega) hb k)
theorem qa{i:Int}(h:0≤i) : iq ((i.toNat:Nat) : Int)=iq i:=by rw[Int.toNat_of_nonneg h]
open Go.RowKit
theorem kG{w:World}:Calls Tryz.prog 228 #[] w (c8 (.agg (fu 256)) w):=by
 refine en 23 Tryz.func228 rfl<|sg<|L0<|bD (fu 0) fun c G o p q=>ng<|L0<|bD (fu 0) fun a r s t u=>nt<|sq<|sg<|?_
 refine Pl 1<|nt<|bk<|?_
 refine gI (fun x=>[(0,.pointer (some ⟨c,0,none⟩)),(1,.pointer (some ⟨a,0,none⟩)),(4,.int .i64 ((x:Nat) : Int))]) (fun(x:Nat) w'=>az [a] r w'∧w'.heap[a]? = some (.cells (fu x) 233 (0,0))∧(x≤256)) (fun x=>256-x) 0 ⟨az.refl _ _,t,(by(try dsimp only);omega)⟩ ?_
 rintro i g ⟨h,v,y⟩
 refine gJ [(0,.pointer (some ⟨c,0,none⟩)),(1,.pointer (some ⟨a,0,none⟩)),(4,.int .i64 ((i:Nat) : Int))] ?_
 have j:g.heap[a]? = some (.cells (fu i) 233 (0,0)):=v
 have H:i≤256:=y
 refine sg<|Pl 1<|nt<|sq<|?_
 have l:=ud u h s
 have m:=aE q l
 refine cb ((decide (((i:Nat) : Int)<256))) (fun e=>?_) (fun e=>?_)
 have z:=of_decide_eq_true e
 refine aX<|sq<|bk<|sg<|Pl 2<|ng<|Pl 1<|L0<|Oe (.int .u16 (IntKind.u16.wrap ((i:Nat) : Int))) (.int .u16 ((ec 0 i:Nat) : Int)) (congrArg (Value.int .u16) (hM (x:=((i:Nat) : Int)) (by omega)))<|Pl 1<|nl<|?_
 refine tn<|sq<|sg<|Pl 1<|nt<|bk<|?_
 refine gI (fun x=>[(0,.pointer (some ⟨c,0,none⟩)),(1,.pointer (some ⟨a,0,none⟩)),(2,.int .i64 ((i:Nat) : Int)),(3,.int .u16 ((ec x i:Nat) : Int)),(4,.int .i64 ((i:Nat) : Int)),(5,.bool (decide (((i:Nat) : Int)<256))),(6,.int .i64 ((i:Nat) : Int)),(7,.int .i64 ((i:Nat) : Int)),(8,.int .u16 ((ec 0 i:Nat) : Int)),(9,.int .i64 ((x:Nat) : Int))]) (fun(x:Nat) w'=>az [] g w'∧(x≤8)) (fun x=>8-x) 0 ⟨az.refl _ _,(by(try dsimp only);omega)⟩ ?_
 rintro k I ⟨d,A⟩
 refine gJ [(0,.pointer (some ⟨c,0,none⟩)),(1,.pointer (some ⟨a,0,none⟩)),(2,.int .i64 ((i:Nat) : Int)),(3,.int .u16 ((ec k i:Nat) : Int)),(4,.int .i64 ((i:Nat) : Int)),(5,.bool (decide (((i:Nat) : Int)<256))),(6,.int .i64 ((i:Nat) : Int)),(7,.int .i64 ((i:Nat) : Int)),(8,.int .u16 ((ec 0 i:Nat) : Int)),(9,.int .i64 ((k:Nat) : Int))] ?_
 have J:k≤8:=A
 have K:=fK (x:=i) (by omega) k
 refine sg<|Pl 1<|nt<|sq<|?_
 have L:=aE m d
 refine cb ((decide (((k:Nat) : Int)<8))) (fun f=>?_) (fun f=>?_)
 have B:=of_decide_eq_true f
 refine aX<|sq<|bk<|go<|Pl 1<|L0<|Oe (.int .u16 (Int.fdiv ((ec k i:Nat) : Int) (2 ^ 1))) (.int .u16 (((ec k i:Nat) : Int)/2)) (congrArg (Value.int .u16) (kM _ _ _ (by decide)))<|Pl 1<|L0<|Oe (.int .u16 (bits .and .u16 ((ec k i:Nat) : Int) 1)) (.int .u16 (((ec k i:Nat) : Int)%2)) (congrArg (Value.int .u16) (qL (by omega)))<|Pl 1<|L0<|Oe (.int .u16 (bits .xor .u16 (((ec k i:Nat) : Int)/2) (((((ec k i:Nat) : Int)%2)*40961)%65536))) (.int .u16 ((ec (k+1) i:Nat) : Int)) (congrArg (Value.int .u16) ((kz (by omega) (by omega)).trans (ru _)))<|Pl 1<|nl<|bn<|?_
 exact tn<|go<|L0<|Oi (((k:Nat) : Int)+1)<|Pl 1<|nl<|ek (k+1) ⟨d,(by(try dsimp only);omega)⟩ (by omega)
 have B:=of_decide_eq_false f
 refine xt<|tx<|tx<|bx<|tn<|go<|Pl 2<|L0<|vv (b:=a) (off:=0) 256 i ((i:Nat) : Int) rfl (by omega)<|?_
 refine L0<|bC (hl:=(by rw[dp];simp;omega)) (ub d j) (0+i) ((fu i).setIfInBounds (0+i) (.int .u16 ((ec k i:Nat) : Int))) fun M C D=>?_
 have n:=C
 rw[Nat.zero_add,pQ (by omega) (by omega)] at n
 refine nl<|bn<|tn<|go<|L0<|Oi (((i:Nat) : Int)+1)<|Pl 1<|nl<|?_
 exact ek (i+1) ⟨(u1 h (uz d D) im),n,(by(try dsimp only);omega)⟩ (by omega)
 have z:=of_decide_eq_false e
 refine xt<|tx<|tx<|bx<|tn<|sg<|L0<|bV (hz:=(by rw[dp];kernel_rfl)) j<|?_
 refine L0<|aT (hz:=(by rw[dp];kernel_rfl)) (hv:=(by rw[dp,dp])) (h1:=(lP _)) (ub l p) ((fu i)) fun N E F=>nt<|rt<|uS 256 (dp _) E<|?_
 have hi:i=256:=by omega
 subst hi
 exact⟨rfl,(ud m F o)⟩
theorem kL{m:Md}{A:Option Addr}{cp:Nat}{b:List Int}{w:World}{s:Int}(hsl:aQ m w (.slice A b.length cp) b)(hs:0≤s∧s<65536) :
    Calls Tryz.prog 180 #[.int .u16 s,.slice A b.length cp] w (c8 (.int .u16 (cg s b)) w):=by
 have hln:=aB.len hsl
 have hb:=aQ.range hsl
 refine en 26 Tryz.func180 rfl<|sg<|Pl 1<|ng<|L0<|Oc<|m1 (@kG w) fun D g=>L0<|bD (fu 0) fun c E h j l=>L0<|aT (hz:=(by rw[dp];kernel_rfl)) (hv:=(by rw[dp,dp])) (h1:=(lP _)) j ((fu 256)) fun n o q=>nt<|sq<|?_
 refine sg<|Pl 3<|nt<|bk<|?_
 refine gI (fun x=>[(0,.int .u16 (db s b x)),(4,.int .u16 0),(5,.pointer (some ⟨c,0,none⟩)),(9,.slice A b.length cp),(10,.int .i64 ((b.length:Nat) : Int)),(11,.int .i64 ((x:Nat) : Int))]) (fun(x:Nat) w'=>az [] n w'∧(x≤b.length)∧(0≤db s b x∧db s b x<65536)) (fun x=>b.length-x) 0 ⟨az.refl _ _,(by(try dsimp only);omega),hs⟩ ?_
 rintro k F ⟨d,r,t⟩
 refine gJ [(0,.int .u16 (db s b k)),(4,.int .u16 0),(5,.pointer (some ⟨c,0,none⟩)),(9,.slice A b.length cp),(10,.int .i64 ((b.length:Nat) : Int)),(11,.int .i64 ((k:Nat) : Int))] ?_
 have G:k≤b.length:=r
 have H:0≤db s b k∧db s b k<65536:=t
 refine sg<|Pl 1<|nt<|sq<|?_
 have f:=aE g (ud l (aE q d) h)
 refine cb ((decide (((k:Nat) : Int)<((b.length:Nat) : Int)))) (fun e=>?_) (fun e=>?_)
 have u:=of_decide_eq_true e
 refine aX<|sq<|bk<|sg<|?_
 refine f3 (aQ.at_ (aQ.old hsl f) k (by omega)) fun y z B C I=>L0<|fR b.length k B (by omega)<|L0<|cY (p:=⟨y,z+k,none⟩) (v:=.int .u8 (b.getD k 0)) C<|Pl 1<|nt<|go<|Pl 1<|L0<|Oe (.int .u16 (Int.fdiv (db s b k) (2 ^ 8))) (.int .u16 ((db s b k)/256)) (congrArg (Value.int .u16) (kM _ _ _ (by decide)))<|Pl 3<|?_
 have J:=vV (a:=((db s b k)%256)) (b:=(b.getD k 0)) (by omega) (by omega)
 refine L0<|Oe (.int .u8 (bits .xor .u8 ((db s b k)%256) (b.getD k 0))) (.int .u8 (xi ((db s b k)%256) (b.getD k 0))) (congrArg (Value.int .u8) (tP (by omega) (by omega)))<|L0<|vv (b:=c) (off:=0) 256 (((xi ((db s b k)%256) (b.getD k 0))).toNat) (xi ((db s b k)%256) (b.getD k 0)) (by omega) (by omega)<|?_
 have K:=lX (i:=(xi ((db s b k)%256) (b.getD k 0))) (by omega)
 exact L0<|cY (p:=⟨c,0+((xi ((db s b k)%256) (b.getD k 0))).toNat,none⟩) (v:=.int .u16 (iq ((xi ((db s b k)%256) (b.getD k 0))))) (au (ub d o) (by rw[Nat.zero_add,rH (by omega),qa (by omega)]))<|L0<|Oe (.int .u16 (bits .xor .u16 ((db s b k)/256) (iq (xi ((db s b k)%256) (b.getD k 0))))) (.int .u16 (db s b (k+1))) (congrArg (Value.int .u16) (kz (by omega) (lX (by omega))))<|Pl 1<|nl<|bn<|tn<|go<|L0<|Oi (((k:Nat) : Int)+1)<|Pl 1<|nl<|ek (k+1) ⟨d,(by(try dsimp only);omega),(gG hs hb _)⟩ (by omega)
 have u:=of_decide_eq_false e
 refine xt<|tx<|tx<|bx<|tn<|sg<|Pl 2<|nt<|rt<|rr (.int .u16 (db s b k))<|?_
 have hk:db s b k=cg s b:=lb (by omega)
 rw[hk]
 exact⟨rfl,f⟩
theorem lV{m:Md}{v:Value}{b:List Int}{w:World}(h:aQ m w v b) : Calls Tryz.prog 180 #[.int .u16 65535,v] w (c8 (.int .u16 (cg 65535 b)) w):=by
  obtain⟨A,cp,rfl,_,_⟩:=h.shape
  exact kL h (by decide)
theorem mz{m:Md}{A:Option Addr}{cp:Nat}{b:List Int}{w:World}(hsl:aQ m w (.slice A b.length cp) b) :
    Calls Tryz.prog 119 #[.slice A b.length cp] w (c8 (.int .u16 (cg 65535 b)) w):=by
 refine en 5 Tryz.func119 rfl<|sg<|Pl 1<|ng<|Pl 1<|L0<|Oc<|m1 (lV hsl) fun c a=>Pl 1<|nt<|rt<|?_
 refine rr (.int .u16 (cg 65535 b))<|?_
 exact⟨rfl,a⟩
theorem jC{m:Md}{v:Value}{b:List Int}{w:World}(h:aQ m w v b) : Calls Tryz.prog 119 #[v] w (c8 (.int .u16 (cg 65535 b)) w):=by
  obtain⟨A,cp,rfl,_,_⟩:=h.shape
  exact mz h
theorem fY{w:World}{s:Int}(hs:0≤s∧s<65536) : Calls Tryz.prog 118 #[.int .u16 s] w (fun e w'=>∃ v,e = .returned v∧fp w.heap.size w' v (c7 s)∧az [] w w'):=by
 refine en 9 Tryz.func118 rfl<|sg<|Pl 1<|ng<|Pl 3<|L0<|Oe (.int .u16 (Int.fdiv s (2 ^ 8))) (.int .u16 (s/256)) (congrArg (Value.int .u16) (kM _ _ _ (by decide)))<|Pl 1<|L0<|gA (m:=2) (e:=5) #[.int .u8 (s%256),.int .u8 ((s/256)%256)] fun a g b c d=>?_
 have f:=oS b (xs:=[(s%256),((s/256)%256)]) (by as_aux_lemma=>kernel_rfl) (aR (by omega) (aR (by omega) dS)) (by(try simp only[List.length_cons,List.length_nil]);omega) c
 refine Pl 1<|nt<|rt<|rr (.slice (some ⟨a,0,none⟩) 2 2)<|?_
 exact⟨_,rfl,f,d⟩
theorem iy{b:List Int}{n:Nat}(h:2≤b.length)(hn:n=b.length-2) : cX b=decide (c7 (cg 65535 (b.take n))=b.drop n):=by
  subst hn
  unfold cX
  simp[h]
theorem rM{b:List Int}(h:b.length<2) : cX b=false:=by
  unfold cX
  simp
  omega
theorem ma{m:Md}{A:Option Addr}{cp:Nat}{b:List Int}{w:World}(hsl:aQ m w (.slice A b.length cp) b)(hb:b.length≤1048576)(hcp:b.length≤cp) :
    Calls Tryz.prog 116 #[.slice A b.length cp] w (c8 (.bool (cX b)) w):=by
 have hc:=aB.len hsl
 refine en 22 Tryz.func116 rfl<|sg<|Pl 1<|ng<|Pl 2<|L0<|Oi (((b.length:Nat) : Int)-2)<|Pl 1<|nt<|sq<|?_
 refine Rg 16 (fun w'=>True) fun R f=>bg trivial fun d=>Rt 0 d<|Rt 1 d<|Rt 2 d<|sG 9 ((decide (0≤(((b.length:Nat) : Int)-2)))) (fun p=>?_) (fun p=>?_)
 have I:=of_decide_eq_true p
 refine Rt 3 d<|Rt 4 d<|jn (nV (P:=Tryz.prog) 22 5 1 Tryz.underlying22 rfl rfl A b.length cp (k:=(((b.length:Nat) : Int)-2)) (((((b.length:Nat) : Int)-2)).toNat) (by omega) (by omega) (by omega)) fun q hrun60 i=>Rr 5 d (.slice q (((((b.length:Nat) : Int)-2)).toNat) cp) (fun _ _=>gC (kl:=.i64) (k:=(((b.length:Nat) : Int)-2)) (A:=A) (n:=b.length) (c:=cp) rfl Tryz.underlying22 (by kernel_rfl) (by kernel_rfl) (hrun60 _ _))<|Rt 9 d<|Rt 10 d<|jn (o6 (P:=Tryz.prog) 22 5 1 Tryz.underlying22 rfl rfl A b.length cp (lo:=(((b.length:Nat) : Int)-2)) (((((b.length:Nat) : Int)-2)).toNat) (by omega) (by omega)) fun g hrun63 e=>Rr 11 d (.slice g (b.length-(((((b.length:Nat) : Int)-2)).toNat)) (cp-(((((b.length:Nat) : Int)-2)).toNat))) (fun _ _=>dl (kl:=.i64) (k:=(((b.length:Nat) : Int)-2)) (A:=A) (n:=b.length) (c:=cp) rfl Tryz.underlying22 (by kernel_rfl) (by kernel_rfl) (hrun63 _ _))<|?_
 refine R2 6 12 rfl rfl ?_ ?_
 have h:=aQ.old hsl f
 refine  Oc (args:=#[.slice q (((((b.length:Nat) : Int)-2)).toNat) cp])<|m1 (jC (i _ _ _ _ _ h)) fun S j=>?_
 have T:=gB (b.take (((((b.length:Nat) : Int)-2)).toNat)) (s:=65535) (by decide) (aQ.range (i _ _ _ _ _ h))
 refine bg trivial fun U=>?_
 refine R2 7 12 rfl rfl ?_ ?_
 refine  Oc<|m6 (fY (s:=(cg 65535 (b.take (((((b.length:Nat) : Int)-2)).toNat)))) (by omega)) fun x y V l W X z=>bg trivial fun Y=>?_
 refine R2 8 12 rfl rfl ?_ ?_
 refine  i7 (.string (strOfNums (c7 (cg 65535 (b.take (((((b.length:Nat) : Int)-2)).toNat)))))) (cL (A:=x) (n:=(c7 (cg 65535 (b.take (((((b.length:Nat) : Int)-2)).toNat)))).length) (c:=y) rfl (by kernel_rfl) Tryz.underlying22 Tryz.underlying5 Tryz.underlying9 (l).rd)<|bg trivial fun Z=>?_
 have B:=aE j z
 have C:=aQ.old h B
 refine R0 12 rfl<|i7 (.string (strOfNums (b.drop (((((b.length:Nat) : Int)-2)).toNat)))) (cL (A:=g) (n:=(b.length-(((((b.length:Nat) : Int)-2)).toNat))) (c:=(cp-(((((b.length:Nat) : Int)-2)).toNat))) rfl (by kernel_rfl) Tryz.underlying22 Tryz.underlying5 Tryz.underlying9 (e _ _ _ _ _ C))<|bg trivial fun r=>Rr 13 r (.bool (decide ((c7 (cg 65535 (b.take (((((b.length:Nat) : Int)-2)).toNat))))=(b.drop (((((b.length:Nat) : Int)-2)).toNat))))) (fun _ _=>fx (a:=(strOfNums (c7 (cg 65535 (b.take (((((b.length:Nat) : Int)-2)).toNat)))))) (b:=(strOfNums (b.drop (((((b.length:Nat) : Int)-2)).toNat)))) rfl (by kernel_rfl) (by kernel_rfl) (gR (l).rd (e _ _ _ _ _ C)))<|Rt 14 r<|Rt 15 r<|re<|tn<|rt<|rr (.bool (decide ((c7 (cg 65535 (b.take (((((b.length:Nat) : Int)-2)).toNat))))=(b.drop (((((b.length:Nat) : Int)-2)).toNat)))))<|?_
 have hs:cX b=(decide ((c7 (cg 65535 (b.take (((((b.length:Nat) : Int)-2)).toNat))))=(b.drop (((((b.length:Nat) : Int)-2)).toNat)))):=(iy (by omega) (by omega))
 rw[hs]
 exact⟨rfl,(aE f B)⟩
 have D:=aE j z
 have E:=aQ.old h D
 refine  i7 (.string (strOfNums (b.drop (((((b.length:Nat) : Int)-2)).toNat)))) (cL (A:=g) (n:=(b.length-(((((b.length:Nat) : Int)-2)).toNat))) (c:=(cp-(((((b.length:Nat) : Int)-2)).toNat))) rfl (by kernel_rfl) Tryz.underlying22 Tryz.underlying5 Tryz.underlying9 (e _ _ _ _ _ E))<|bg trivial fun a0=>R0 8 rfl<|i7 (.string (strOfNums (c7 (cg 65535 (b.take (((((b.length:Nat) : Int)-2)).toNat)))))) (cL (A:=x) (n:=(c7 (cg 65535 (b.take (((((b.length:Nat) : Int)-2)).toNat)))).length) (c:=y) rfl (by kernel_rfl) Tryz.underlying22 Tryz.underlying5 Tryz.underlying9 (l).rd)<|bg trivial fun t=>Rr 13 t (.bool (decide ((c7 (cg 65535 (b.take (((((b.length:Nat) : Int)-2)).toNat))))=(b.drop (((((b.length:Nat) : Int)-2)).toNat))))) (fun _ _=>fx (a:=(strOfNums (c7 (cg 65535 (b.take (((((b.length:Nat) : Int)-2)).toNat)))))) (b:=(strOfNums (b.drop (((((b.length:Nat) : Int)-2)).toNat)))) rfl (by kernel_rfl) (by kernel_rfl) (gR (l).rd (e _ _ _ _ _ E)))<|Rt 14 t<|Rt 15 t<|re<|tn<|rt<|rr (.bool (decide ((c7 (cg 65535 (b.take (((((b.length:Nat) : Int)-2)).toNat))))=(b.drop (((((b.length:Nat) : Int)-2)).toNat)))))<|?_
 have hs:cX b=(decide ((c7 (cg 65535 (b.take (((((b.length:Nat) : Int)-2)).toNat))))=(b.drop (((((b.length:Nat) : Int)-2)).toNat)))):=(iy (by omega) (by omega))
 rw[hs]
 exact⟨rfl,(aE f D)⟩
 have F:=aQ.old h j
 refine  i7 (.string (strOfNums (b.drop (((((b.length:Nat) : Int)-2)).toNat)))) (cL (A:=g) (n:=(b.length-(((((b.length:Nat) : Int)-2)).toNat))) (c:=(cp-(((((b.length:Nat) : Int)-2)).toNat))) rfl (by kernel_rfl) Tryz.underlying22 Tryz.underlying5 Tryz.underlying9 (e _ _ _ _ _ F))<|bg trivial fun a1=>R0 7 rfl<|Oc<|m6 (fY (s:=(cg 65535 (b.take (((((b.length:Nat) : Int)-2)).toNat)))) (by omega)) fun J K a2 G a3 a4 L=>bg trivial fun a5=>R0 8 rfl<|i7 (.string (strOfNums (c7 (cg 65535 (b.take (((((b.length:Nat) : Int)-2)).toNat)))))) (cL (A:=J) (n:=(c7 (cg 65535 (b.take (((((b.length:Nat) : Int)-2)).toNat)))).length) (c:=K) rfl (by kernel_rfl) Tryz.underlying22 Tryz.underlying5 Tryz.underlying9 (G).rd)<|bg trivial fun u=>Rr 13 u (.bool (decide ((c7 (cg 65535 (b.take (((((b.length:Nat) : Int)-2)).toNat))))=(b.drop (((((b.length:Nat) : Int)-2)).toNat))))) (fun _ _=>fx (a:=(strOfNums (c7 (cg 65535 (b.take (((((b.length:Nat) : Int)-2)).toNat)))))) (b:=(strOfNums (b.drop (((((b.length:Nat) : Int)-2)).toNat)))) rfl (by kernel_rfl) (by kernel_rfl) (gR (G).rd (e _ _ _ _ _ F)))<|Rt 14 u<|Rt 15 u<|re<|tn<|rt<|rr (.bool (decide ((c7 (cg 65535 (b.take (((((b.length:Nat) : Int)-2)).toNat))))=(b.drop (((((b.length:Nat) : Int)-2)).toNat)))))<|?_
 have hs:cX b=(decide ((c7 (cg 65535 (b.take (((((b.length:Nat) : Int)-2)).toNat))))=(b.drop (((((b.length:Nat) : Int)-2)).toNat)))):=(iy (by omega) (by omega))
 rw[hs]
 exact⟨rfl,(aE f (aE j L))⟩
 have o:=aQ.old hsl f
 refine  i7 (.string (strOfNums (b.drop (((((b.length:Nat) : Int)-2)).toNat)))) (cL (A:=g) (n:=(b.length-(((((b.length:Nat) : Int)-2)).toNat))) (c:=(cp-(((((b.length:Nat) : Int)-2)).toNat))) rfl (by kernel_rfl) Tryz.underlying22 Tryz.underlying5 Tryz.underlying9 (e _ _ _ _ _ o))<|bg trivial fun a6=>R0 6 rfl<|Oc (args:=#[.slice q (((((b.length:Nat) : Int)-2)).toNat) cp])<|m1 (jC (i _ _ _ _ _ o)) fun a7 M=>?_
 have a8:=gB (b.take (((((b.length:Nat) : Int)-2)).toNat)) (s:=65535) (by decide) (aQ.range (i _ _ _ _ _ o))
 refine bg trivial fun a9=>R0 7 rfl<|Oc<|m6 (fY (s:=(cg 65535 (b.take (((((b.length:Nat) : Int)-2)).toNat)))) (by omega)) fun N O aa H ab ac Q=>bg trivial fun ad=>R0 8 rfl<|i7 (.string (strOfNums (c7 (cg 65535 (b.take (((((b.length:Nat) : Int)-2)).toNat)))))) (cL (A:=N) (n:=(c7 (cg 65535 (b.take (((((b.length:Nat) : Int)-2)).toNat)))).length) (c:=O) rfl (by kernel_rfl) Tryz.underlying22 Tryz.underlying5 Tryz.underlying9 (H).rd)<|bg trivial fun v=>Rr 13 v (.bool (decide ((c7 (cg 65535 (b.take (((((b.length:Nat) : Int)-2)).toNat))))=(b.drop (((((b.length:Nat) : Int)-2)).toNat))))) (fun _ _=>fx (a:=(strOfNums (c7 (cg 65535 (b.take (((((b.length:Nat) : Int)-2)).toNat)))))) (b:=(strOfNums (b.drop (((((b.length:Nat) : Int)-2)).toNat)))) rfl (by kernel_rfl) (by kernel_rfl) (gR (H).rd (e _ _ _ _ _ o)))<|Rt 14 v<|Rt 15 v<|re<|tn<|rt<|rr (.bool (decide ((c7 (cg 65535 (b.take (((((b.length:Nat) : Int)-2)).toNat))))=(b.drop (((((b.length:Nat) : Int)-2)).toNat)))))<|?_
 have hs:cX b=(decide ((c7 (cg 65535 (b.take (((((b.length:Nat) : Int)-2)).toNat))))=(b.drop (((((b.length:Nat) : Int)-2)).toNat)))):=(iy (by omega) (by omega))
 rw[hs]
 exact⟨rfl,(aE f (aE M Q))⟩
 have I:=of_decide_eq_false p
 refine Ro 3 d<|Ro 4 d<|Ro 5 d<|Ro 6 d<|Ro 7 d<|Ro 8 d<|Ro 9 d<|Ro 10 d<|Ro 11 d<|Ro 12 d<|Ro 13 d<|Rt 14 d<|Rt 15 d<|re<|?_
 refine tn<|rt<|rr (.bool false)<|?_
 have hs:cX b=false:=(rM (by omega))
 rw[hs]
 exact⟨rfl,f⟩
theorem oO{m:Md}{v:Value}{b:List Int}{w:World}(h:aQ m w v b)(hb:b.length≤1048576) : Calls Tryz.prog 116 #[v] w (c8 (.bool (cX b)) w):=by
  obtain⟨A,cp,rfl,hc,_⟩:=h.shape
  exact ma h hb hc
open Go.RowKit
def f6 (b:List Int) : List Int:=(b.take (b.length-2)).drop 1
theorem fb(b:List Int) : f6 b=(b.take (((b.length:Nat) : Int)-2).toNat).drop 1:=by
  unfold f6
  rw[show(((b.length:Nat) : Int)-2).toNat=b.length-2 from by omega]
def d8 (dir:Int)(b:List Int) : fo × Int :=
  if dir != 0&&dir != 1 then (fo.zero,1)
  else if decide ((b.length:Int)<4) then (fo.zero,2)
  else if decide (256<(b.length:Int)) then (fo.zero,3)
  else if !(cX b) then (fo.zero,10)
  else eS (b.getD 0 0) 0 (da dir (f6 b))
theorem mu{m:Md}{A:Option Addr}{cp:Nat}{b:List Int}{w:World}{dir:Int}(hsl:aQ m w (.slice A b.length cp) b)(hb:b.length≤1048576)(hcp:b.length≤cp) :
    Calls Tryz.prog 50 #[.int .i64 dir,.slice A b.length cp] w (qZ (d8 dir b) w):=by
 have hln:(b.length:Int)≤1048576:=by omega
 refine en 51 Tryz.func50 rfl<|sg<|L0<|bD #[.int .u8 0,.int .u16 0,.int .u8 0,.int .u8 0,.int .u16 0,.int .u16 0,.int .u16 0,.int .u16 0,.int .u16 0,.int .u16 0,.int .u16 0,.int .u16 0,.int .u16 0,.int .u16 0,.slice none 0 0,.slice none 0 0,.slice none 0 0,.slice none 0 0,.int .u8 0,.int .u8 0,.int .u8 0,.int .u8 0,.int .u8 0,.slice none 0 0] fun aY aZ j e B=>Pl 1<|nt<|sq<|bk<|sg<|Pl 3<|cu 3 [11] 14 (((dir != 0)&&(dir != 1))) (fun K O=>?_) ?_
 refine bl 11 ((dir != 0)) (fun C=>?_) (fun C=>?_)
 have a7:=al C
 exact Pl 3<|ce O (dir != 1) (by rw[C];rfl)
 have a7:=ae C
 exact Pl 3<|ce O false (by rw[C];rfl)
 refine Pl 1<|nt<|cb (((dir != 0)&&(dir != 1))) (fun d=>?_) (fun d=>?_)
 have Q:=(aO d).1
 have R:=(aO d).2
 have b0:=al Q
 have b1:=al R
 refine sg<|Pl 1<|L0<|aT e #[.int .u8 0,.int .u16 0,.int .u8 0,.int .u8 0,.int .u16 0,.int .u16 0,.int .u16 0,.int .u16 0,.int .u16 0,.int .u16 0,.int .u16 0,.int .u16 0,.int .u16 0,.int .u16 0,.slice none 0 0,.slice none 0 0,.slice none 0 0,.slice none 0 0,.int .u8 0,.int .u8 0,.int .u8 0,.int .u8 0,.int .u8 0,.slice none 0 0] fun b2 a8 a9=>Pl 1<|nt<|rt<|br<|tr<|bu a8 (.int .i64 1)<|?_
 have hs:d8 dir b=(fo.zero,1):=by
   unfold d8
   (try simp only[d,Q,R,bs,if_true,if_false,decide_true,decide_false,eS,reduceIte])
   all_goals rfl
 refine jO hs ?_
 exact gl (ud B a9 j)
 refine sg<|Pl 4<|nt<|cb ((decide (((b.length:Nat) : Int)<4))) (fun f=>?_) (fun f=>?_)
 have aa:=of_decide_eq_true f
 refine sg<|Pl 1<|L0<|aT e #[.int .u8 0,.int .u16 0,.int .u8 0,.int .u8 0,.int .u16 0,.int .u16 0,.int .u16 0,.int .u16 0,.int .u16 0,.int .u16 0,.int .u16 0,.int .u16 0,.int .u16 0,.int .u16 0,.slice none 0 0,.slice none 0 0,.slice none 0 0,.slice none 0 0,.int .u8 0,.int .u8 0,.int .u8 0,.int .u8 0,.int .u8 0,.slice none 0 0] fun b3 ab ac=>Pl 1<|nt<|rt<|br<|tr<|bu ab (.int .i64 2)<|?_
 have hs:d8 dir b=(fo.zero,2):=by
   unfold d8
   (try simp only[d,f,bs,if_true,if_false,decide_true,decide_false,eS,reduceIte])
   all_goals rfl
 refine jO hs ?_
 exact gl (ud B ac j)
 have aa:=of_decide_eq_false f
 refine sg<|Pl 4<|nt<|cb ((decide (256<((b.length:Nat) : Int)))) (fun h=>?_) (fun h=>?_)
 have ad:=of_decide_eq_true h
 refine sg<|Pl 1<|L0<|aT e #[.int .u8 0,.int .u16 0,.int .u8 0,.int .u8 0,.int .u16 0,.int .u16 0,.int .u16 0,.int .u16 0,.int .u16 0,.int .u16 0,.int .u16 0,.int .u16 0,.int .u16 0,.int .u16 0,.slice none 0 0,.slice none 0 0,.slice none 0 0,.slice none 0 0,.int .u8 0,.int .u8 0,.int .u8 0,.int .u8 0,.int .u8 0,.slice none 0 0] fun b4 af ag=>Pl 1<|nt<|rt<|br<|tr<|bu af (.int .i64 3)<|?_
 have hs:d8 dir b=(fo.zero,3):=by
   unfold d8
   (try simp only[d,f,h,bs,if_true,if_false,decide_true,decide_false,eS,reduceIte])
   all_goals rfl
 refine jO hs ?_
 exact gl (ud B ag j)
 have ad:=of_decide_eq_false h
 refine sg<|Pl 1<|?_
 have S:=aQ.old hsl B
 refine L0<|Oc (args:=#[.slice A b.length cp])<|m1 (oO S (by omega)) fun ai i=>Pl 2<|nt<|?_
 have T:=aE B i
 refine cb ((!(cX b))) (fun k=>?_) (fun k=>?_)
 have G:(cX b)=false:=by simpa using k
 refine sg<|Pl 1<|?_
 refine L0<|aT (ub i e) #[.int .u8 0,.int .u16 0,.int .u8 0,.int .u8 0,.int .u16 0,.int .u16 0,.int .u16 0,.int .u16 0,.int .u16 0,.int .u16 0,.int .u16 0,.int .u16 0,.int .u16 0,.int .u16 0,.slice none 0 0,.slice none 0 0,.slice none 0 0,.slice none 0 0,.int .u8 0,.int .u8 0,.int .u8 0,.int .u8 0,.int .u8 0,.slice none 0 0] fun b5 aj am=>Pl 1<|nt<|rt<|br<|tr<|bu aj (.int .i64 10)<|?_
 have hs:d8 dir b=(fo.zero,10):=by
   unfold d8
   (try simp only[d,f,h,k,G,bs,if_true,if_false,decide_true,decide_false,eS,reduceIte])
   all_goals rfl
 refine jO hs ?_
 exact gl (ud T am j)
 have G:(cX b)=true:=by simpa using k
 refine sk<|bn<|tn<|sg<|Pl 4<|L0<|Oi (((b.length:Nat) : Int)-2)<|jn (fE (P:=Tryz.prog) 22 5 1 Tryz.underlying22 rfl rfl A b.length cp (lo:=1) (up:=(((b.length:Nat) : Int)-2)) 1 (((((b.length:Nat) : Int)-2)).toNat) (by omega) (by omega) (by omega) (by omega) (by omega)) fun an hrun43 ao=>L0<|i7 (.slice an ((((((b.length:Nat) : Int)-2)).toNat)-1) (cp-1)) (eu (kl:=.i64) (kh:=.i64) (lo:=1) (hi:=(((b.length:Nat) : Int)-2)) (A:=A) (n:=b.length) (c:=cp) rfl Tryz.underlying22 (by kernel_rfl) (by kernel_rfl) (by kernel_rfl) (hrun43 _ _ _))<|?_
 obtain⟨a,D,L⟩ : ∃ M E,da dir ((b.take (((((b.length:Nat) : Int)-2)).toNat)).drop 1)=(M,E):=⟨_,_,rfl⟩
 have U:=aQ.old S i
 have V:=pl (dir:=dir) (w:=ai) (ao _ _ _ _ _ U) (by rw[List.length_drop,List.length_take];omega)
 rw[L] at V
 refine L0<|Oc<|e2 V fun ap b6 W N=>?_
 have aq:=W
 obtain⟨ar,au,av,aw,ax,ay,az,aB,aC,aD,aF,b7⟩:=aq
 obtain rfl:ap=(eU a ar au av aw ax).toArray:=by apply Array.toList_inj.1;simpa using ay
 obtain⟨l,o,rfl,_,_⟩:=az.shape
 obtain⟨p,q,rfl,_,_⟩:=aB.shape
 obtain⟨r,s,rfl,_,_⟩:=aC.shape
 obtain⟨t,u,rfl,_,_⟩:=aD.shape
 obtain⟨v,y,rfl,_,_⟩:=aF.shape
 refine Pl 3<|L0<|bD mZ fun X b9 Y aH aI=>L0<|aT aH (mG a.code a.fail a.addr a.count a.value a.and_ a.or_ a.addr2 a.sub a.status a.events a.messages (.slice l a.words.length o) (.slice p a.bits.length q) (.slice r a.data.length s) (.slice t a.recs.length u) a.mei a.kind a.level a.more a.next (.slice v a.objects.length y)) fun ba aJ aL=>Pl 1<|nt<|sq<|sg<|Pl 2<|nt<|?_
 have Z:=ud aI aL Y
 have H:=aE N Z
 have a0:=aE T H
 refine cb ((D != 0)) (fun F=>?_) (fun F=>?_)
 have aM:=al F
 refine sg<|Pl 2<|?_
 refine L0<|aT (ub (aE i H) e) #[.int .u8 0,.int .u16 0,.int .u8 0,.int .u8 0,.int .u16 0,.int .u16 0,.int .u16 0,.int .u16 0,.int .u16 0,.int .u16 0,.int .u16 0,.int .u16 0,.int .u16 0,.int .u16 0,.slice none 0 0,.slice none 0 0,.slice none 0 0,.slice none 0 0,.int .u8 0,.int .u8 0,.int .u8 0,.int .u8 0,.int .u8 0,.slice none 0 0] fun bb aN aP=>Pl 1<|nt<|rt<|tr<|bu aN (.int .i64 D)<|?_
 have hX2:da dir (f6 b)=(a,D):=(congrArg (da dir) (fb b)).trans L
 have hs:d8 dir b=(fo.zero,D):=by
   unfold d8
   (try simp only[d,f,h,k,G,F,bs,if_true,if_false,decide_true,decide_false,eS,hX2,reduceIte])
   all_goals rfl
 refine jO hs ?_
 exact gl (ud a0 aP j)
 have aM:=ae F
 refine aX<|sq<|?_
 refine f3 (aQ.at_ (aQ.old U H) 0 (by omega)) fun aR aS a1 aU bc=>Rg 8 (fun w'=>w'.cell? ⟨aR,aS+0,none⟩=some (.int .u8 (b.getD 0 0))∧w'.heap[X]? = some (.cells (mG a.code a.fail a.addr a.count a.value a.and_ a.or_ a.addr2 a.sub a.status a.events a.messages (.slice l a.words.length o) (.slice p a.bits.length q) (.slice r a.data.length s) (.slice t a.recs.length u) a.mei a.kind a.level a.more a.next (.slice v a.objects.length y)) 30 (0,0))) fun bd I=>?_
 have a2:=ub I aJ
 refine bg ⟨(uc I aU),a2⟩ fun z=>Rt 0 z<|mb 1 z b.length 0 0 rfl a1 (by omega)<|Rl 2 z (fun _ hs=>hs.1)<|Rt 3 z<|Rr 4 z (.agg (mG a.code a.fail a.addr a.count a.value a.and_ a.or_ a.addr2 a.sub a.status a.events a.messages (.slice l a.words.length o) (.slice p a.bits.length q) (.slice r a.data.length s) (.slice t a.recs.length u) a.mei a.kind a.level a.more a.next (.slice v a.objects.length y))) (fun w' hs=>o0 (g:=X) (off:=0) [.int .u8 a.code,.int .u8 a.fail,.int .u16 a.addr,.int .u16 a.count,.int .u16 a.value,.int .u16 a.and_,.int .u16 a.or_,.int .u16 a.addr2,.int .u16 a.sub,.int .u16 a.status,.int .u16 a.events,.int .u16 a.messages,.slice l a.words.length o,.slice p a.bits.length q,.slice r a.data.length s,.slice t a.recs.length u,.int .u8 a.mei,.int .u8 a.kind,.int .u8 a.level,.int .u8 a.more,.int .u8 a.next,.slice v a.objects.length y] rfl (by kernel_rfl) hs.2 (by kernel_rfl) (by kernel_rfl) rfl)<|Rt 5 z<|?_
 have a3:=aE H I
 have a4:=aE i a3
 refine R0 6 rfl<|aT (ub a4 e) #[.int .u8 (b.getD 0 0),.int .u16 0,.int .u8 a.code,.int .u8 a.fail,.int .u16 a.addr,.int .u16 a.count,.int .u16 a.value,.int .u16 a.and_,.int .u16 a.or_,.int .u16 a.addr2,.int .u16 a.sub,.int .u16 a.status,.int .u16 a.events,.int .u16 a.messages,.slice l a.words.length o,.slice p a.bits.length q,.slice r a.data.length s,.slice t a.recs.length u,.int .u8 a.mei,.int .u8 a.kind,.int .u8 a.level,.int .u8 a.more,.int .u8 a.next,.slice v a.objects.length y] fun be aV J=>?_
 have a5:=uz I J
 have bf:=uz a3 J
 have bh:=uz a4 J
 have a6:=ud a0 a5 j
 refine bg ⟨(cB (aQ.old hsl a6) a1 0 (by omega)),(aK J (Ne.symm (nb (ak e) (le i.size N.size) Y)) a2)⟩ fun aW=>Rt 7 aW<|re<|tn<|rt<|bu aV (.int .i64 0)<|?_
 have hX2:da dir (f6 b)=(a,D):=(congrArg (da dir) (fb b)).trans L
 have hs:d8 dir b=(⟨(b.getD 0 0),0,a⟩,0):=by
   unfold d8
   (try simp only[d,f,h,k,G,F,bs,if_true,if_false,decide_true,decide_false,eS,hX2,reduceIte])
   all_goals rfl
 refine jO hs ?_
 exact⟨_,rfl,⟨#[.int .u8 a.code,.int .u8 a.fail,.int .u16 a.addr,.int .u16 a.count,.int .u16 a.value,.int .u16 a.and_,.int .u16 a.or_,.int .u16 a.addr2,.int .u16 a.sub,.int .u16 a.status,.int .u16 a.events,.int .u16 a.messages,.slice l a.words.length o,.slice p a.bits.length q,.slice r a.data.length s,.slice t a.recs.length u,.int .u8 a.mei,.int .u8 a.kind,.int .u8 a.level,.int .u8 a.more,.int .u8 a.next,.slice v a.objects.length y],(by as_aux_lemma=>kernel_rfl),(bq.upd W (uz Z a5) (ah (aG (ub (aE i N) e) (by decide)) aA)),b8 (x:=(b.getD 0 0)) (by omega),dJ (x:=0) (by omega)⟩,a6⟩
theorem oz{m:Md}{v:Value}{b:List Int}{w:World}{dir:Int}(h:aQ m w v b)(hb:b.length≤1048576) : Calls Tryz.prog 50 #[.int .i64 dir,v] w (qZ (d8 dir b) w):=by
  obtain⟨A,cp,rfl,hc,_⟩:=h.shape
  exact mu h hb hc
open Go.RowKit
theorem pq(a b c d:Int)(w:World) : (Op.equalIn 10000 42 (.agg #[.int .u8 a,.int .u16 b]) (.agg #[.int .u8 c,.int .u16 d])).run Tryz.prog w = .ok ((a==c)&&(b==d)) w:=by
  have hS:Tryz.prog.underlying 42=some (.struct (Tryz.prog.fieldsOf 42)):=by kernel_rfl
  have hp:Tryz.prog.stoodInHeld 42=false:=by kernel_rfl
  rw[show(10000:Nat)=9998+1+1 from rfl,run_equalIn_agg w (9998+1) 42 _ _ hS hp]
  simp only[Program.fieldsOf,Tryz.underlying42]
  have p0:∀ v:Int,(part 5 #[.int .u8 v,.int .u16 b] 0).run Tryz.prog w = .ok (.int .u8 v) w:=fun v=>by simp[part,isAgg,run_underlying Tryz.underlying5,Result.andThen]
  have p0':∀ v:Int,(part 5 #[.int .u8 v,.int .u16 d] 0).run Tryz.prog w = .ok (.int .u8 v) w:=fun v=>by simp[part,isAgg,run_underlying Tryz.underlying5,Result.andThen]
  have p1:∀ v u:Int,(part 24 #[.int .u8 u,.int .u16 v] 1).run Tryz.prog w = .ok (.int .u16 v) w:=fun v u=>by simp[part,isAgg,run_underlying Tryz.underlying24,Result.andThen]
  have e0:=run_equalIn_int (P:=Tryz.prog) w 9998 5 .u8 _ a c Tryz.underlying5
  have e1:=run_equalIn_int (P:=Tryz.prog) w 9998 24 .u16 _ b d Tryz.underlying24
  simp only[Op.eqFields,Sem.run_bind,p0,p0',p1,e0,e1,Result.andThen_ok,ne_eq,String.reduceEq,not_false_eq_true,if_true,Sem.run_ite]
  cases (a==c)<;>cases (b==d)<;>simp
theorem mv{ev:Operand→Value}{o:Oper}{x y:Operand}{t:TypeId}(a b c d:Int){v:Bool}{w:World}(ho:o.op = .binOp .eql 42 x y t)
    (hx:ev x = .agg #[.int .u8 a,.int .u16 b]) (hy:ev y = .agg #[.int .u8 c,.int .u16 d]) (hv:((a==c)&&(b==d))=v) : (execOp ev o).run Tryz.prog w = .ok (.value (.bool v)) w:=by
  subst hv
  have hg:(eqGuard .eql 42 x y (.agg #[.int .u8 a,.int .u16 b]) (.agg #[.int .u8 c,.int .u16 d])).run Tryz.prog w = .ok () w:=run_eqGuard_agg w _ _ _ _ _ _ (by kernel_rfl)
  unfold execOp
  simp only[ho,hx,hy,Sem.run_bind,hg,Result.andThen_ok,run_eql_struct,pq,Sem.run_pure]
open Go.RowKit
open Go.RowKit
theorem i5{m:Md}{v:Value}{b:List Int}{w:World}{dir:Int}{F:fo}{E:Int}(hX:d8 dir b=(F,E))(h:aQ m w v b)(hb:b.length≤1048576) : Calls Tryz.prog 50 #[.int .i64 dir,v] w (fun e w'=>∃ x,e = .returned (.tuple #[.agg (qv F.unit F.tid F.msg x),.int .i64 E])∧(bq true w' (lH F.msg x).toList F.msg∧(0≤F.unit∧F.unit<256)∧(0≤F.tid∧F.tid<65536))∧az [] w w'):=by
  refine(oz h hb).mono ?_
  rintro e w' ⟨cs,rfl,h1,h2⟩
  rw[hX] at h1 ⊢
  obtain⟨c,rfl,h3,h4,h5⟩:=h1
  obtain⟨x,rfl⟩:=pI h3
  exact⟨x,by rw[qz],⟨h3,h4,h5⟩,h2⟩
open Go.RowKit
structure SS where
  dir:Int
  held:List Int
  off:Bool
def c4 (w:World)(g:Nat)(S:SS) : Prop:=∃ A cp,w.heap[g]? = some (.cells #[.int .i64 S.dir,.slice A S.held.length cp,.bool S.off] 124 (0,0))∧aQ true w (.slice A S.held.length cp) S.held∧S.held.length≤256∧S.held.length≤cp
def SS.feed (S:SS)(b:List Int) : SS × List Ev :=
  if S.off then (S,[]) else if decide (b.length≤256-S.held.length) then (⟨S.dir,S.held++b,false⟩,[]) else (⟨S.dir,[],true⟩,[Ev.bad 3])
def SS.tick (S:SS) : SS × List Ev:=(⟨S.dir,[],false⟩,if S.held.length=0 then [] else [⟨(d8 S.dir S.held).2,(d8 S.dir S.held).1⟩])
theorem c4.lt{w:World}{g:Nat}{S:SS}(h:c4 w g S) : g<w.heap.size:=by
  obtain⟨A,cp,h1,_⟩:=h
  exact ak h1
theorem c4.upd{w w':World}{g:Nat}{S:SS}{X:List Nat}(h:c4 w g S)(hu:az X w w')(hg:g∉X)(hs:c6 true [5] X w) : c4 w' g S:=by
  obtain⟨A,cp,h1,h2,h3⟩:=h
  exact⟨A,cp,hu.blk hg h1,h2.upd' hu hs,h3⟩
theorem c4.old{w w':World}{g:Nat}{S:SS}(h:c4 w g S)(hu:az [] w w') : c4 w' g S:=h.upd hu (by simp) (c6.nil _ _ _)
theorem c4.cells{w:World}{g:Nat}{S:SS}(h:c4 w g S) : ∃ cs fr,w.heap[g]? = some (.cells cs 124 fr):=by
  obtain⟨A,cp,h1,_⟩:=h
  exact⟨_,_,h1⟩
theorem c4.le{w:World}{g:Nat}{S:SS}(h:c4 w g S) : S.held.length≤256:=by
  obtain⟨A,cp,_,_,h1,_⟩:=h
  exact h1
theorem c4.safe{w:World}{g:Nat}{S:SS}(h:c4 w g S)(D:List TypeId)(hD:D.contains 124=false) : c6 true D [g] w:=by
  obtain⟨A,cp,h1,_⟩:=h
  exact aG h1 hD
def qF (At:World→Prop)(L:List Ev)(g:Nat)(w:World)(e:Ending)(w':World) : Prop:=∃ v,e = .returned v∧lA w.heap.size w' v L∧At w'∧az [g] w w'
theorem p6{w:World}:Calls Tryz.prog 38 #[.int .i64 0] w (fun e w'=>∃ g,e = .returned (.pointer (some ⟨g,0,none⟩))∧w.heap.size≤g∧c4 w' g ⟨0,[],false⟩∧az [] w w'):=by
 refine en 12 Tryz.func38 rfl<|sg<|Pl 1<|nt<|sq<|sg<|Pl 6<|nt<|c0<|sk<|?_
 refine tn<|sg<|Pl 2<|L0<|dC #[.int .i64 0,.slice none 0 0,.bool false] fun a f b c d=>Pl 1<|nt<|rt<|rr (.pointer (some ⟨a,0,none⟩))<|?_
 exact⟨a,rfl,b,⟨none,0,c,aB.nil ..,by decide,by decide⟩,d⟩
theorem jX{w:World}{g:Nat}{S:SS}(h:c4 w g S) : Calls Tryz.prog 42 #[.pointer (some ⟨g,0,none⟩)] w (c8 (.int .i64 ((S.held.length:Nat) : Int)) w):=by
 obtain⟨A,cp,hb,hr,hl,hcp⟩:=h
 have hcm:=aB.len hr
 refine en 8 Tryz.func42 rfl<|sg<|Pl 1<|ng<|Pl 3<|L0<|aZ hb 1<|Pl 2<|nt<|rt<|?_
 refine rr (.int .i64 ((S.held.length:Nat) : Int))<|?_
 exact⟨rfl,(az.refl [] _)⟩
theorem mW{w:World}{g:Nat}{S:SS}{m:Md}{B:Option Addr}{cpb:Nat}{b:List Int}(h:c4 w g S)(hsl:aQ m w (.slice B b.length cpb) b)(hbl:b.length≤1048576)(hcb:b.length≤cpb) :
    Calls Tryz.prog 41 #[.pointer (some ⟨g,0,none⟩),.slice B b.length cpb] w (qF (fun W=>c4 W g (S.feed b).1) (S.feed b).2 g w):=by
 obtain⟨A,cp,hb,hr,hl,hcp⟩:=h
 have hcm:=aB.len hr
 have hbm:=aB.len hsl
 refine en 53 Tryz.func41 rfl<|sg<|Pl 1<|nt<|sq<|sg<|Pl 3<|L0<|aZ hb 2<|nt<|cb (S.off) (fun f=>?_) (fun f=>?_)
 refine sg<|Pl 1<|nt<|rt<|tr<|rr (.slice none 0 0)<|?_
 have hs:S.feed b=(S,[]):=by unfold SS.feed;rw[f];rfl
 rw[hs]
 exact⟨_,rfl,b6.nil ..,⟨A,cp,hb,hr,hl,hcp⟩,(az.mono (S':=[g]) (az.refl [] _) av)⟩
 refine aX<|sg<|Pl 5<|L0<|aZ hb 1<|Pl 1<|L0<|Oi (256-((S.held.length:Nat) : Int))<|L0<|i7 (.int .i64 (min ((b.length:Nat) : Int) (256-((S.held.length:Nat) : Int)))) (nN (a:=((b.length:Nat) : Int)) (b:=(256-((S.held.length:Nat) : Int))) rfl (by kernel_rfl) (by kernel_rfl))<|Pl 1<|nt<|sq<|Rg 23 (fun w'=>w'.cell? ⟨g,1,none⟩=some (.slice A S.held.length cp)) fun N i=>?_
 have r:=ub i hb
 refine bg (au r rfl) fun d=>Rt 0 d<|Rt 1 d<|Rt 2 d<|Rt 3 d<|Rl 4 d (fun _ hs=>hs)<|Rt 5 d<|Rt 6 d<|Rt 7 d<|Rl 8 d (fun _ hs=>hs)<|Rt 9 d<|Rt 10 d<|Rt 11 d<|Rt 12 d<|?_
 refine Rl 13 d (fun _ hs=>hs)<|Rt 14 d<|?_
 have j:=aQ.upd' hr i aA
 refine Rr 15 d (.slice A S.held.length S.held.length) (fun _ _=>l0 (k1:=.i64) (k2:=.i64) (i1:=((S.held.length:Nat) : Int)) (i2:=((S.held.length:Nat) : Int)) (A:=A) (n:=S.held.length) (c:=cp) rfl Tryz.underlying22 (by kernel_rfl) (by kernel_rfl) (by kernel_rfl) (by kernel_rfl) rfl rfl (aB.cap j) (aB.adr j))<|Rt 16 d<|Rt 17 d<|jn (nV (P:=Tryz.prog) 22 5 1 Tryz.underlying22 rfl rfl B b.length cpb (k:=(min ((b.length:Nat) : Int) (256-((S.held.length:Nat) : Int)))) (((min ((b.length:Nat) : Int) (256-((S.held.length:Nat) : Int)))).toNat) (by omega) (by omega) (by omega)) fun E hrun29 F=>Rr 18 d (.slice E (((min ((b.length:Nat) : Int) (256-((S.held.length:Nat) : Int)))).toNat) cpb) (fun _ _=>gC (kl:=.i64) (k:=(min ((b.length:Nat) : Int) (256-((S.held.length:Nat) : Int)))) (A:=B) (n:=b.length) (c:=cpb) rfl Tryz.underlying22 (by kernel_rfl) (by kernel_rfl) (hrun29 _ _))<|?_
 refine R0 19 rfl<|uT (xs:=S.held) (ys:=(b.take (((min ((b.length:Nat) : Int) (256-((S.held.length:Nat) : Int)))).toNat))) (j).full (F _ _ _ _ _ (aQ.upd' hsl i aA)) (by(try simp only[List.length_take]);omega) fun s t O G l=>?_
 have o:=ub l r
 refine bg (au o rfl) fun u=>Rt 20 u<|Rt 21 u<|vy 22 rfl<|bC o 1 #[.int .i64 S.dir,.slice s ((S.held++(b.take (((min ((b.length:Nat) : Int) (256-((S.held.length:Nat) : Int)))).toNat))).length) t,.bool S.off] fun Q v p=>re<|tn<|sq<|sg<|Pl 4<|nt<|?_
 have y:=uz i (uz l p)
 refine cb (((min ((b.length:Nat) : Int) (256-((S.held.length:Nat) : Int)))==((b.length:Nat) : Int))) (fun q=>?_) (fun q=>?_)
 have H:=ap q
 refine sg<|Pl 1<|nt<|rt<|tr<|rr (.slice none 0 0)<|?_
 have hle:b.length≤256-S.held.length:=by omega
 have hs:S.feed b=(⟨S.dir,S.held++b,false⟩,[]):=by unfold SS.feed;rw[f,decide_eq_true hle];rfl
 rw[hs]
 have hz:(b.take (((min ((b.length:Nat) : Int) (256-((S.held.length:Nat) : Int)))).toNat))=b:=List.take_of_length_le (by omega)
 have hB:=v
 have hR:=(aQ.upd' G p (ah (aG o (by decide)) aA))
 rw[hz] at hB hR
 have hsh:=hR.cap
 exact⟨_,rfl,b6.nil ..,⟨s,t,by rw[← f];exact hB,hR,by rw[List.length_append];omega,hsh⟩,y⟩
 have H:=aq q
 refine aX<|sg<|Pl 4<|L0<|bC v 1 #[.int .i64 S.dir,.slice none 0 0,.bool S.off] fun R I z=>Pl 2<|L0<|bC I 2 #[.int .i64 S.dir,.slice none 0 0,.bool true] fun T J C=>ng<|Pl 1<|L0<|gA (m:=1) (e:=122) #[.int .i64 3,.int .u8 0,.int .u16 0,.int .u8 0,.int .u8 0,.int .u16 0,.int .u16 0,.int .u16 0,.int .u16 0,.int .u16 0,.int .u16 0,.int .u16 0,.int .u16 0,.int .u16 0,.int .u16 0,.slice none 0 0,.slice none 0 0,.slice none 0 0,.slice none 0 0,.int .u8 0,.int .u8 0,.int .u8 0,.int .u8 0,.int .u8 0,.slice none 0 0] fun K U L M D=>?_
 refine Pl 1<|nt<|rt<|rr (.slice (some ⟨K,0,none⟩) 1 1)<|?_
 have hle:¬ b.length≤256-S.held.length:=by omega
 have hs:S.feed b=(⟨S.dir,[],true⟩,[Ev.bad 3]):=by unfold SS.feed;rw[f,decide_eq_false hle];rfl
 rw[hs]
 have hE:=oM (w0:=w) (x:=Ev.bad 3) (Nat.le_trans (le (le (le (le i.size l.size) p.size) z.size) C.size) L) M ⟨⟨none,0,none,0,none,0,none,0,none,0⟩,by kernel_rfl,mp,by decide,by decide⟩
 exact⟨_,rfl,hE,⟨none,0,(ub D J),aB.nil ..,(Nat.zero_le _),(Nat.zero_le _)⟩,(u1 y (u1 z (aE C D) im) im)⟩
theorem pi{w:World}{g:Nat}{S:SS}{m:Md}{v:Value}{b:List Int}(h:c4 w g S)(hsl:aQ m w v b)(hbl:b.length≤1048576) :
    Calls Tryz.prog 41 #[.pointer (some ⟨g,0,none⟩),v] w (qF (fun W=>c4 W g (S.feed b).1) (S.feed b).2 g w):=by
  obtain⟨B,cb,rfl,hc,_⟩:=hsl.shape
  exact mW h hsl hbl hc
theorem oq{w:World}{g:Nat}{S:SS}(h:c4 w g S) : Calls Tryz.prog 43 #[.pointer (some ⟨g,0,none⟩)] w (qF (fun W=>c4 W g S.tick.1) S.tick.2 g w):=by
 obtain⟨A,cp,hb,hr,hl,hcp⟩:=h
 have hcm:=aB.len hr
 refine en 32 Tryz.func43 rfl<|sg<|Pl 1<|ng<|Pl 3<|L0<|aZ hb 1<|Pl 1<|nt<|sq<|?_
 refine go<|Pl 4<|L0<|bC hb 1 #[.int .i64 S.dir,.slice none 0 0,.bool S.off] fun H r i=>Pl 2<|L0<|bC r 2 #[.int .i64 S.dir,.slice none 0 0,.bool false] fun I b j=>nt<|sq<|sg<|Pl 3<|nt<|?_
 have c:=u1 i j im
 refine cb ((((S.held.length:Nat) : Int)==0)) (fun d=>?_) (fun d=>?_)
 have s:=ap d
 refine sg<|Pl 1<|nt<|rt<|tr<|rr (.slice none 0 0)<|?_
 have hs:S.tick=(⟨S.dir,[],false⟩,[]):=by unfold SS.tick;rw[if_pos (by omega)]
 rw[hs]
 exact⟨_,rfl,b6.nil ..,⟨none,0,b,aB.nil ..,(Nat.zero_le _),(Nat.zero_le _)⟩,c⟩
 have s:=aq d
 refine aX<|sg<|Pl 3<|L0<|aZ b 0<|Pl 1<|?_
 refine pr (d8 S.dir S.held) fun a f k=>?_
 refine L0<|Oc<|e2 (i5 k (aQ.upd' hr c (ah (aG hb (by decide)) aA)) (by omega)) fun jf J t l=>?_
 obtain⟨u,v,y⟩:=t
 refine Pl 3<|L0<|bD #[.int .u8 0,.int .u16 0,.int .u8 0,.int .u8 0,.int .u16 0,.int .u16 0,.int .u16 0,.int .u16 0,.int .u16 0,.int .u16 0,.int .u16 0,.int .u16 0,.int .u16 0,.int .u16 0,.slice none 0 0,.slice none 0 0,.slice none 0 0,.slice none 0 0,.int .u8 0,.int .u8 0,.int .u8 0,.int .u8 0,.int .u8 0,.slice none 0 0] fun K L z B n=>L0<|aT B (qv a.unit a.tid a.msg jf) fun M C o=>Pl 1<|ng<|Pl 1<|L0<|bV C<|Pl 1<|L0<|gA (m:=1) (e:=122) (oV ⟨f,a⟩ jf) fun D N E F G=>Pl 1<|nl<|?_
 refine tn<|rt<|rr (.slice (some ⟨D,0,none⟩) 1 1)<|?_
 have hs:S.tick=(⟨S.dir,[],false⟩,[⟨f,a⟩]):=by unfold SS.tick;rw[if_neg (by omega),k]
 rw[hs]
 have p:=ud n (aE o G) z
 have hE:=oM (w0:=w) (x:=⟨f,a⟩) (Nat.le_trans (le (le (le (le i.size j.size) l.size) n.size) o.size) E) F ⟨jf,rfl,(bq.upd u p aA),v,y⟩
 have q:=aE l p
 exact⟨_,rfl,hE,⟨none,0,(ub q b),aB.nil ..,(Nat.zero_le _),(Nat.zero_le _)⟩,(aE c q)⟩
theorem ia{w:World}{g:Nat}{S S2:SS}{L:List Ev}{m:Md}{v:Value}{b:List Int}(hX:S.feed b=(S2,L))(h:c4 w g S)(hsl:aQ m w v b)(hbl:b.length≤1048576) :
    Calls Tryz.prog 41 #[.pointer (some ⟨g,0,none⟩),v] w (qF (fun W=>c4 W g S2) L g w):=by
  have k:=pi h hsl hbl
  rw[hX] at k
  exact k
theorem l2{w:World}{g:Nat}{S S2:SS}{L:List Ev}(hX:S.tick=(S2,L))(h:c4 w g S) : Calls Tryz.prog 43 #[.pointer (some ⟨g,0,none⟩)] w (qF (fun W=>c4 W g S2) L g w):=by
  have k:=oq h
  rw[hX] at k
  exact k
open Go.RowKit
theorem uv:SS.feed (SS.mk 0 [] false) [1,7]=((SS.mk 0 [1,7] false),[]):=rfl
theorem u9:SS.feed (SS.mk 0 [1,7] false) [65,226]=((SS.mk 0 [1,7,65,226] false),[]):=rfl
theorem u7:d8 0 [1,7,65,226]=(⟨1,0,tX⟩,0):=by decide +kernel
theorem u6:SS.tick (SS.mk 0 [1,7,65,226] false)=((SS.mk 0 [] false),[⟨0,⟨1,0,tX⟩⟩]):=by
  unfold SS.tick
  rw[if_neg (by decide),u7]
theorem kp{w:World}:Calls Tryz.prog 36 #[] w (c8 (.bool true) w):=by
 refine en 62 Tryz.func36 rfl<|sg<|Pl 1<|ng<|L0<|Oc<|e3 p6 fun E F a l n=>Pl 1<|nt<|sq<|sq<|?_
 refine go<|Pl 2<|nt<|c0<|aX<|sg<|Pl 1<|L0<|gA (m:=2) (e:=5) #[.int .u8 1,.int .u8 7] fun G H o q h=>?_
 have r:=oS o (xs:=[1,7]) (by as_aux_lemma=>kernel_rfl) (aR (by omega) (aR (by omega) dS)) (by(try simp only[List.length_cons,List.length_nil]);omega) q
 refine L0<|Oc<|jc (ia uv (c4.old l h) (r).rd (by decide)) fun I J K L M N s t=>Pl 1<|ng<|Pl 1<|L0<|gA (m:=2) (e:=5) #[.int .u8 65,.int .u8 226] fun O P u x i=>?_
 have y:=oS u (xs:=[65,226]) (by as_aux_lemma=>kernel_rfl) (aR (by omega) (aR (by omega) dS)) (by(try simp only[List.length_cons,List.length_nil]);omega) x
 refine L0<|Oc<|jc (ia u9 (c4.old s i) (y).rd (by decide)) fun Q R S T U V j z=>Pl 1<|ng<|Pl 1<|L0<|Oc<|m1 (jX j) fun W k=>Pl 1<|ng<|Pl 1<|?_
 refine L0<|Oc<|jc (l2 u6 (c4.old j k)) fun X Y Z A a0 a1 B C=>Pl 1<|nt<|sq<|sg<|Pl 3<|nt<|c0<|aX<|sq<|?_
 refine go<|Pl 12<|vn (oy.elt (A).rd 0 (by decide) (Ev.bad 0)) fun b c a2 a3 a4 a5 d f a6 g=>L1<|pZ 25 1 0 d (by omega)<|Pl 1<|L1<|cY (p:=⟨b,c+0*25+0,none⟩) (v:=.int .i64 0) (gt f g 0 (by kernel_rfl) (by decide))<|Pl 4<|L1<|pZ 25 1 0 d (by omega)<|Pl 3<|L1<|cY (p:=⟨b,c+0*25+1+0+0,none⟩) (v:=.int .u8 1) (gt f g 1 (by kernel_rfl) (by decide))<|Pl 4<|L1<|pZ 25 1 0 d (by omega)<|Pl 3<|L1<|cY (p:=⟨b,c+0*25+1+2+0,none⟩) (v:=.int .u8 7) (gt f g 3 (by kernel_rfl) (by decide))<|?_
 refine Pl 4<|L1<|Oc<|m1 (jX B) fun a7 D=>Pl 3<|nt<|rt<|rr (.bool true)<|?_
 exact⟨rfl,(aE (u1 (aE (u1 (aE (u1 (aE n h) t (nr a)) i) z (nr a)) k) C (nr a)) D)⟩
open Go.RowKit
def ez:List (List Int)→Nat
  | []=>0
  | x :: t=>x.length+ez t
def dc (ls:List (List Int)) : Bool:=decide (ls.length≤60)&&decide (ez ls≤3000)
theorem ln(a b:List (List Int)) : ez (a++b)=ez a+ez b:=by
  induction a with
  | nil=>simp[ez]
  | cons x t ih=>simp only[List.cons_append,ez,ih];omega
theorem ow{ls:List (List Int)}{k:Nat}(hk:k<ls.length) : ls.take (k+1)=ls.take k++[ls.getD k []]:=by
  rw[List.take_succ_eq_append_getElem hk,List.getD_eq_getElem?_getD,List.getElem?_eq_getElem hk]
  rfl
theorem bG{ls:List (List Int)}{k:Nat}(hk:k<ls.length) : ez (ls.take (k+1))=ez (ls.take k)+(ls.getD k []).length:=by
  rw[ow hk,ln]
  rfl
theorem nA{ls:List (List Int)}(hb:∀ x,x∈ls→x.length≤140737488355328) : ∀ k,k≤ls.length→ez (ls.take k)≤k*140737488355328
  | 0,_=>by simp[ez]
  | k+1,h=>by
    rw[bG (by omega)]
    have h1:=nA hb k (by omega)
    have h2:(ls.getD k []).length≤140737488355328:=by
      rw[List.getD_eq_getElem?_getD,List.getElem?_eq_getElem (by omega)]
      exact hb _ (List.getElem_mem _)
    rw[Nat.succ_mul]
    omega
theorem eq{ls:List (List Int)}{k:Nat}(hk:k<ls.length) : ez (ls.take k)+(ls.getD k []).length≤ez ls:=by
  rw[← bG hk]
  have:=ln (ls.take (k+1)) (ls.drop (k+1))
  rw[List.take_append_drop] at this
  omega
theorem n0{ls:List (List Int)}{k:Nat}{n:Int}(hb:∀ x,x∈ls→x.length≤140737488355328)(h:k≤60→n=(ez (ls.take k) : Nat))(hk:k<ls.length) : k+1≤60→IntKind.i64.wrap (n+(((ls.getD k []).length:Nat) : Int))=(ez (ls.take (k+1)) : Nat):=by
  intro a
  have h1:=nA hb (k+1) hk
  have h2:=bG hk
  rw[h (by omega),i64_in]
  · rw[h2];omega
  · omega
theorem jL{ls:List (List Int)}{k:Nat}{n:Int}(h:k≤60→n=(ez (ls.take k) : Nat))(hk:k=ls.length) : (decide ((ls.length:Int)≤60)&&decide (n≤3000))=dc ls:=by
  subst hk
  rw[List.take_length] at h
  unfold dc
  by_cases a:ls.length≤60
  · rw[h a]
    congr 1
    · rw[decide_eq_decide];omega
    · rw[decide_eq_decide];omega
  · rw[decide_eq_false a,decide_eq_false (by omega)];rfl
theorem kT{ls:List (List Int)}(h:dc ls=true) : ls.length≤60∧ez ls≤3000:=by
  unfold dc at h
  simpa using h
theorem gX{m:Md}{A:Option Addr}{cp:Nat}{ls:List (List Int)}{w:World}(h:fs m w (.slice A ls.length cp) ls)(hbb:∀ x,x∈ls→x.length≤140737488355328) : Calls Tryz.prog 37 #[.slice A ls.length cp] w (c8 (.bool (dc ls)) w):=by
 have hz:=aB.len h
 refine en 25 Tryz.func37 rfl<|sg<|Pl 1<|ng<|Pl 1<|nt<|sq<|sg<|?_
 refine Pl 1<|nt<|bk<|?_
 refine gI (fun x=>[(0,.slice A ls.length cp),(2,.bool false),(3,.int .i64 x.2),(4,.int .i64 ((x.1:Nat) : Int))]) (fun(x:Nat × Int) w'=>az [] w w'∧(x.1≤ls.length)∧(x.1≤60→x.2=(ez (ls.take x.1) : Nat))) (fun x=>ls.length-x.1) (0,0) ⟨az.refl _ _,(by(try dsimp only);omega),(by(try dsimp only);intro _;rfl)⟩ ?_
 rintro⟨k,n⟩ u ⟨c,f,g⟩
 refine gJ [(0,.slice A ls.length cp),(2,.bool false),(3,.int .i64 n),(4,.int .i64 ((k:Nat) : Int))] ?_
 have y:k≤ls.length:=f
 have d:k≤60→n=(ez (ls.take k) : Nat):=g
 refine sq<|sg<|Pl 4<|nt<|cb ((decide (((k:Nat) : Int)<((ls.length:Nat) : Int)))) (fun b=>?_) (fun b=>?_)
 have i:=of_decide_eq_true b
 refine aX<|sq<|bk<|go<|Pl 3<|gz (fs.elt h k (by omega)) fun j l o q r s z B C=>L0<|fR ls.length k r (by omega)<|L0<|cY (p:=⟨j,l+k,none⟩) (v:=.slice o ((ls.getD k []).length) q) (uc c s)<|Pl 3<|nl<|bn<|tn<|go<|?_
 exact Pl 1<|L0<|Oi (((k:Nat) : Int)+1)<|Pl 1<|nl<|ek ((k+1),(IntKind.i64.wrap (n+(((ls.getD k []).length:Nat) : Int)))) ⟨c,(by(try dsimp only);omega),(n0 hbb d (by omega))⟩ (by omega)
 have i:=of_decide_eq_false b
 refine xt<|tx<|tx<|bx<|tn<|sg<|Pl 4<|cu 3 [21] 24 (((decide (((ls.length:Nat) : Int)≤60))&&(decide (n≤3000)))) (fun K e=>?_) ?_
 refine bl 21 ((decide (((ls.length:Nat) : Int)≤60))) (fun a=>?_) (fun a=>?_)
 have t:=of_decide_eq_true a
 exact Pl 3<|ce e (decide (n≤3000)) (by rw[a];rfl)
 have t:=of_decide_eq_false a
 exact Pl 3<|ce e false (by rw[a];rfl)
 refine Pl 1<|nt<|rt<|rr (.bool ((decide (((ls.length:Nat) : Int)≤60))&&(decide (n≤3000))))<|?_
 have hs:((decide (((ls.length:Nat) : Int)≤60))&&(decide (n≤3000)))=dc ls:=by first | exact jL d (by omega) | (rw[← jL d (by omega)];simp only[b,bs,if_true,if_false,decide_true,decide_false,Bool.true_and,Bool.false_and])
 rw[hs]
 exact⟨rfl,c⟩
open Go.RowKit
theorem mi{m m':Md}{A B:Option Addr}{c d:Nat}{xs ys:List Int}{w:World}(h1:aQ m w (.slice A xs.length c) xs)(h2:aQ m' w (.slice B ys.length d) ys) :
    Calls Tryz.prog 30 #[.slice A xs.length c,.slice B ys.length d] w (c8 (.bool (decide (xs=ys))) w):=by
 refine en 10 Tryz.func30 rfl<|sg<|Pl 1<|ng<|Pl 1<|L0<|i7 (.string (strOfNums xs)) (cL (A:=A) (n:=xs.length) (c:=c) rfl (by kernel_rfl) Tryz.underlying22 Tryz.underlying5 Tryz.underlying9 h1)<|Pl 1<|L0<|i7 (.string (strOfNums ys)) (cL (A:=B) (n:=ys.length) (c:=d) rfl (by kernel_rfl) Tryz.underlying22 Tryz.underlying5 Tryz.underlying9 h2)<|L0<|i7 (.bool (decide (xs=ys))) (fx (a:=(strOfNums xs)) (b:=(strOfNums ys)) rfl (by kernel_rfl) (by kernel_rfl) (gR h1 h2))<|Pl 1<|nl<|?_
 refine tn<|rt<|rr (.bool (decide (xs=ys)))<|?_
 exact⟨rfl,(az.refl [] _)⟩
theorem jA{m m':Md}{a b:Value}{xs ys:List Int}{w:World}(h1:aQ m w a xs)(h2:aQ m' w b ys) : Calls Tryz.prog 30 #[a,b] w (c8 (.bool (decide (xs=ys))) w):=by
  obtain⟨A,c,rfl,_,_⟩:=h1.shape
  obtain⟨B,d,rfl,_,_⟩:=h2.shape
  exact mi h1 h2
open Go.RowKit
theorem fc{α:Type}{xs ys:List α}{k:Nat}(h:xs.take k=ys.take k)(h1:k=xs.length)(h2:xs.length=ys.length) : xs=ys:=by
  rw[List.take_of_length_le (by omega),List.take_of_length_le (by omega)] at h
  exact h
theorem jg{m m':Md}{A B:Option Addr}{c d:Nat}{xs ys:List Int}{w:World}(h1:ei m w (.slice A xs.length c) xs)(h2:ei m' w (.slice B ys.length d) ys) :
    Calls Tryz.prog 98 #[.slice A xs.length c,.slice B ys.length d] w (c8 (.bool (decide (xs=ys))) w):=by
 have hz1:=aB.len h1
 have hz2:=aB.len h2
 refine en 26 Tryz.func98 rfl<|sg<|Pl 1<|nt<|sq<|sg<|Pl 5<|nt<|cb ((((xs.length:Nat) : Int)!=((ys.length:Nat) : Int))) (fun g=>?_) (fun g=>?_)
 have j:=al g
 refine sg<|Pl 1<|nt<|rt<|tr<|rr (.bool false)<|?_
 have hs:decide (xs=ys)=false:=decide_eq_false (fun e=>by rw[e] at j;omega)
 rw[hs]
 exact⟨rfl,(az.refl [] _)⟩
 have j:=ae g
 refine aX<|sq<|sg<|Pl 1<|nt<|bk<|?_
 refine gI (fun x=>[(0,.slice A xs.length c),(1,.slice B ys.length d),(5,.int .i64 ((x:Nat) : Int))]) (fun(x:Nat) w'=>az [] w w'∧(xs.take x=ys.take x)∧(x≤xs.length)) (fun x=>xs.length-x) 0 ⟨az.refl _ _,(by(try dsimp only);simp),(by(try dsimp only);omega)⟩ ?_
 rintro k E ⟨b,p,q⟩
 refine gJ [(0,.slice A xs.length c),(1,.slice B ys.length d),(5,.int .i64 ((k:Nat) : Int))] ?_
 have l:xs.take k=ys.take k:=p
 have F:k≤xs.length:=q
 refine sq<|sg<|Pl 4<|nt<|cb ((decide (((k:Nat) : Int)<((xs.length:Nat) : Int)))) (fun h=>?_) (fun h=>?_)
 have r:=of_decide_eq_true h
 refine aX<|sq<|bk<|sq<|?_
 refine f3 (ei.at_ (ei.old h1 b) k (by omega)) fun s t u v G=>?_
 refine f3 (ei.at_ (ei.old h2 b) k (by omega)) fun y z C D H=>Rg 9 (fun w'=>w'.cell? ⟨s,t+k,none⟩=some (.int .u16 (xs.getD k 0))∧w'.cell? ⟨y,z+k,none⟩=some (.int .u16 (ys.getD k 0))) fun I i=>bg ⟨(uc i v),(uc i D)⟩ fun a=>Rt 0 a<|Rt 1 a<|mb 2 a xs.length k ((k:Nat) : Int) rfl u (by omega)<|Rl 3 a (fun _ hs=>hs.1)<|Rt 4 a<|Rt 5 a<|mb 6 a ys.length k ((k:Nat) : Int) rfl C (by omega)<|Rl 7 a (fun _ hs=>hs.2)<|Rt 8 a<|re<|tn<|?_
 have n:=aE b i
 refine cb (((xs.getD k 0)!=(ys.getD k 0))) (fun f=>?_) (fun f=>?_)
 have o:=al f
 refine sg<|Pl 1<|nt<|rt<|br<|tr<|tr<|br<|tr<|rr (.bool false)<|?_
 have hs:decide (xs=ys)=false:=decide_eq_false (uh (d:=0) k (by simpa using f))
 rw[hs]
 exact⟨rfl,n⟩
 have o:=ae f
 exact sk<|bn<|tn<|go<|Pl 1<|L0<|Oi (((k:Nat) : Int)+1)<|Pl 1<|nl<|ek (k+1) ⟨n,(pU (d:=0) (by omega) (by omega) l o),(by(try dsimp only);omega)⟩ (by omega)
 have r:=of_decide_eq_false h
 refine xt<|tx<|tx<|bx<|tn<|sg<|Pl 1<|nt<|rt<|rr (.bool true)<|?_
 have hs:decide (xs=ys)=true:=decide_eq_true (fc l (by omega) (by omega))
 rw[hs]
 exact⟨rfl,b⟩
theorem gD{m m':Md}{a b:Value}{xs ys:List Int}{w:World}(h1:ei m w a xs)(h2:ei m' w b ys) : Calls Tryz.prog 98 #[a,b] w (c8 (.bool (decide (xs=ys))) w):=by
  obtain⟨A,c,rfl,_,_⟩:=h1.shape
  obtain⟨B,d,rfl,_,_⟩:=h2.shape
  exact jg h1 h2
theorem jy{m m':Md}{A B:Option Addr}{c d:Nat}{xs ys:List Bool}{w:World}(h1:eN m w (.slice A xs.length c) xs)(h2:eN m' w (.slice B ys.length d) ys) :
    Calls Tryz.prog 99 #[.slice A xs.length c,.slice B ys.length d] w (c8 (.bool (decide (xs=ys))) w):=by
 have hz1:=aB.len h1
 have hz2:=aB.len h2
 refine en 26 Tryz.func99 rfl<|sg<|Pl 1<|nt<|sq<|sg<|Pl 5<|nt<|cb ((((xs.length:Nat) : Int)!=((ys.length:Nat) : Int))) (fun f=>?_) (fun f=>?_)
 have j:=al f
 refine sg<|Pl 1<|nt<|rt<|tr<|rr (.bool false)<|?_
 have hs:decide (xs=ys)=false:=decide_eq_false (fun e=>by rw[e] at j;omega)
 rw[hs]
 exact⟨rfl,(az.refl [] _)⟩
 have j:=ae f
 refine aX<|sq<|sg<|Pl 1<|nt<|bk<|?_
 refine gI (fun x=>[(0,.slice A xs.length c),(1,.slice B ys.length d),(5,.int .i64 ((x:Nat) : Int))]) (fun(x:Nat) w'=>az [] w w'∧(xs.take x=ys.take x)∧(x≤xs.length)) (fun x=>xs.length-x) 0 ⟨az.refl _ _,(by(try dsimp only);simp),(by(try dsimp only);omega)⟩ ?_
 rintro k D ⟨b,o,p⟩
 refine gJ [(0,.slice A xs.length c),(1,.slice B ys.length d),(5,.int .i64 ((k:Nat) : Int))] ?_
 have l:xs.take k=ys.take k:=o
 have E:k≤xs.length:=p
 refine sq<|sg<|Pl 4<|nt<|cb ((decide (((k:Nat) : Int)<((xs.length:Nat) : Int)))) (fun g=>?_) (fun g=>?_)
 have q:=of_decide_eq_true g
 refine aX<|sq<|bk<|sq<|?_
 refine jf (eN.at_ (eN.old h1 b) k (by omega)) fun r s t u=>?_
 refine jf (eN.at_ (eN.old h2 b) k (by omega)) fun v y z C=>Rg 9 (fun w'=>w'.cell? ⟨r,s+k,none⟩=some (.bool (xs.getD k false))∧w'.cell? ⟨v,y+k,none⟩=some (.bool (ys.getD k false))) fun F h=>bg ⟨(uc h u),(uc h C)⟩ fun a=>Rt 0 a<|Rt 1 a<|mb 2 a xs.length k ((k:Nat) : Int) rfl t (by omega)<|Rl 3 a (fun _ hs=>hs.1)<|Rt 4 a<|Rt 5 a<|mb 6 a ys.length k ((k:Nat) : Int) rfl z (by omega)<|Rl 7 a (fun _ hs=>hs.2)<|Rt 8 a<|re<|tn<|?_
 have n:=aE b h
 refine cb (((xs.getD k false)!=(ys.getD k false))) (fun i=>?_) (fun i=>?_)
 refine sg<|Pl 1<|nt<|rt<|br<|tr<|tr<|br<|tr<|rr (.bool false)<|?_
 have hs:decide (xs=ys)=false:=decide_eq_false (uh (d:=false) k (by simpa using i))
 rw[hs]
 exact⟨rfl,n⟩
 exact sk<|bn<|tn<|go<|Pl 1<|L0<|Oi (((k:Nat) : Int)+1)<|Pl 1<|nl<|ek (k+1) ⟨n,(pU (d:=false) (by omega) (by omega) l (by simpa using i)),(by(try dsimp only);omega)⟩ (by omega)
 have q:=of_decide_eq_false g
 refine xt<|tx<|tx<|bx<|tn<|sg<|Pl 1<|nt<|rt<|rr (.bool true)<|?_
 have hs:decide (xs=ys)=true:=decide_eq_true (fc l (by omega) (by omega))
 rw[hs]
 exact⟨rfl,b⟩
theorem ku{m m':Md}{a b:Value}{xs ys:List Bool}{w:World}(h1:eN m w a xs)(h2:eN m' w b ys) : Calls Tryz.prog 99 #[a,b] w (c8 (.bool (decide (xs=ys))) w):=by
  obtain⟨A,c,rfl,_,_⟩:=h1.shape
  obtain⟨B,d,rfl,_,_⟩:=h2.shape
  exact jy h1 h2
open Go.RowKit
theorem nu{α:Type}{xs ys:List α}{d:α}{k:Nat}(h:xs.take k=ys.take k)(hk:k<xs.length)(hl:xs.length=ys.length)(he:xs.getD k d=ys.getD k d) : xs.take (k+1)=ys.take (k+1):=by
  have hk2:k<ys.length:=by omega
  rw[List.take_succ_eq_append_getElem hk,List.take_succ_eq_append_getElem hk2,h]
  rw[List.getD_eq_getElem?_getD,List.getElem?_eq_getElem hk,List.getD_eq_getElem?_getD,List.getElem?_eq_getElem (by omega)] at he
  simp only[Option.getD_some] at he
  rw[he]
theorem t5{a b:cW}(h:((((!(decide (a.words=b.words)))||(a.file != b.file))||(a.record != b.record))||(a.count != b.count))=false) : a=b:=by
  cases a
  cases b
  simp at h
  simp[h]
theorem sI{a b:Obj}(h:((!(decide (a.value=b.value)))||(a.id != b.id))=false) : a=b:=by
  cases a
  cases b
  simp at h
  simp[h]
theorem rK{a b:Obj}(h:(!(decide (a.value=b.value)))=false)(h2:(a.id != b.id)=false) : a=b:=sI (by rw[h,h2];rfl)
theorem jN{A B:aU}{f:aU→aU→Bool}(h:f A B=true)(hf:∀ M,f M M=false) : decide (A=B)=false:=decide_eq_false fun e=>by rw[e,hf] at h;cases h
theorem rL{A B:aU}(h1:((((((((((((A.code != B.code)||(A.fail != B.fail))||(A.addr != B.addr))||(A.count != B.count))||(A.value != B.value))||(A.and_ != B.and_))||(A.or_ != B.or_))||(A.addr2 != B.addr2))||(A.sub != B.sub))||(A.status != B.status))||(A.events != B.events))||(A.messages != B.messages))=false)(h2:(((((A.mei != B.mei)||(A.kind != B.kind))||(A.level != B.level))||(A.more != B.more))||(A.next != B.next))=false)(h3:(((((!(decide (A.words=B.words)))||(!(decide (A.bits=B.bits))))||(!(decide (A.data=B.data))))||(((A.recs.length:Nat) : Int)!=((B.recs.length:Nat) : Int)))||(((A.objects.length:Nat) : Int)!=((B.objects.length:Nat) : Int)))=false)(hr:A.recs.length=B.recs.length→A.recs=B.recs)(ho:A.objects.length=B.objects.length→A.objects=B.objects) : A=B:=by
  cases A
  cases B
  simp only[Bool.or_eq_false_iff,bne_eq_false_iff_eq,Bool.not_eq_false',decide_eq_true_eq] at h1 h2 h3
  simp only at hr ho
  obtain⟨⟨⟨⟨⟨⟨⟨⟨⟨⟨⟨a1,a2⟩,a3⟩,a4⟩,a5⟩,a6⟩,a7⟩,a8⟩,a9⟩,a⟩,b⟩,c⟩:=h1
  obtain⟨⟨⟨⟨b1,b2⟩,b3⟩,b4⟩,b5⟩:=h2
  obtain⟨⟨⟨⟨d1,d2⟩,d3⟩,d4⟩,d5⟩:=h3
  have d4:=hr (by omega)
  have d5:=ho (by omega)
  subst a1 a2 a3 a4 a5 a6 a7 a8 a9 a b c b1 b2 b3 b4 b5 d1 d2 d3 d4 d5
  rfl
theorem oo{m m':Md}{pc qc:Array Value}{A B:aU}{w:World}(ha:bq m w pc.toList A)(hb:bq m' w qc.toList B) :
    Calls Tryz.prog 26 #[.agg pc,.agg qc] w (c8 (.bool (decide (A=B))) w):=by
 have pM:=ha
 obtain⟨pvw,pvb,pvd,pvr,pvo,ph0,phw,phb,phd,phr,pho,pR⟩:=ha
 obtain rfl:pc=(eU A pvw pvb pvd pvr pvo).toArray:=by apply Array.toList_inj.1;simpa using ph0
 clear ph0
 obtain⟨pw,pkw,rfl,_,_⟩:=phw.shape
 obtain⟨pb,pkb,rfl,_,_⟩:=phb.shape
 obtain⟨pd,pkd,rfl,_,_⟩:=phd.shape
 obtain⟨pr,pkr,rfl,_,_⟩:=phr.shape
 obtain⟨po,pko,rfl,_,_⟩:=pho.shape
 have qM:=hb
 obtain⟨qvw,qvb,qvd,qvr,qvo,qh0,qhw,qhb,qhd,qhr,qho,qR⟩:=hb
 obtain rfl:qc=(eU B qvw qvb qvd qvr qvo).toArray:=by apply Array.toList_inj.1;simpa using qh0
 clear qh0
 obtain⟨qw,qkw,rfl,_,_⟩:=qhw.shape
 obtain⟨qb,qkb,rfl,_,_⟩:=qhb.shape
 obtain⟨qd,qkd,rfl,_,_⟩:=qhd.shape
 obtain⟨qr,qkr,rfl,_,_⟩:=qhr.shape
 obtain⟨qo,qko,rfl,_,_⟩:=qho.shape
 have hz1:=aB.len phr
 have hz2:=aB.len pho
 refine en 254 Tryz.func26 rfl<|sg<|L0<|dC (mG A.code A.fail A.addr A.count A.value A.and_ A.or_ A.addr2 A.sub A.status A.events A.messages (.slice pw A.words.length pkw) (.slice pb A.bits.length pkb) (.slice pd A.data.length pkd) (.slice pr A.recs.length pkr) A.mei A.kind A.level A.more A.next (.slice po A.objects.length pko)) fun i dI dJ cf cg=>L0<|dC (mG B.code B.fail B.addr B.count B.value B.and_ B.or_ B.addr2 B.sub B.status B.events B.messages (.slice qw B.words.length qkw) (.slice qb B.bits.length qkb) (.slice qd B.data.length qkd) (.slice qr B.recs.length qkr) B.mei B.kind B.level B.more B.next (.slice qo B.objects.length qko)) fun l dK dL b aA=>Pl 1<|nt<|sq<|sg<|Pl 1<|?_
 have c:=ub aA cf
 refine L0<|aZ c 0<|Pl 1<|L0<|aZ b 0<|Pl 2<|cu 6 [19] 25 (((A.code != B.code)||(A.fail != B.fail))) (fun K aC=>?_) ?_
 refine bl 19 ((A.code != B.code)) (fun q=>?_) (fun q=>?_)
 have ch:=al q
 exact Pl 6<|ce aC true (by rw[q];rfl)
 have ch:=ae q
 exact Pl 1<|L1<|aZ c 1<|Pl 1<|L1<|aZ b 1<|Pl 2<|ce aC (A.fail != B.fail) (by rw[q];rfl)
 refine Pl 1<|cu 6 [26] 32 ((((A.code != B.code)||(A.fail != B.fail))||(A.addr != B.addr))) (fun K aF=>?_) ?_
 refine bl 26 (((A.code != B.code)||(A.fail != B.fail))) (fun r=>?_) (fun r=>?_)
 exact Pl 6<|ce aF true (by rw[r];rfl)
 have ci:=(aD r).1
 have cj:=(aD r).2
 have dM:=ae ci
 have dN:=ae cj
 exact Pl 1<|L1<|aZ c 2<|Pl 1<|L1<|aZ b 2<|Pl 2<|ce aF (A.addr != B.addr) (by rw[r];rfl)
 refine Pl 1<|cu 6 [33] 39 (((((A.code != B.code)||(A.fail != B.fail))||(A.addr != B.addr))||(A.count != B.count))) (fun K aG=>?_) ?_
 refine bl 33 ((((A.code != B.code)||(A.fail != B.fail))||(A.addr != B.addr))) (fun s=>?_) (fun s=>?_)
 exact Pl 6<|ce aG true (by rw[s];rfl)
 have aH:=(aD s).1
 have ck:=(aD s).2
 have cl:=(aD aH).1
 have cm:=(aD aH).2
 have q25aap:=ae cl
 have q25abp:=ae cm
 have dO:=ae ck
 exact Pl 1<|L1<|aZ c 3<|Pl 1<|L1<|aZ b 3<|Pl 2<|ce aG (A.count != B.count) (by rw[s];rfl)
 refine Pl 1<|cu 6 [40] 46 ((((((A.code != B.code)||(A.fail != B.fail))||(A.addr != B.addr))||(A.count != B.count))||(A.value != B.value))) (fun K aI=>?_) ?_
 refine bl 40 (((((A.code != B.code)||(A.fail != B.fail))||(A.addr != B.addr))||(A.count != B.count))) (fun t=>?_) (fun t=>?_)
 exact Pl 6<|ce aI true (by rw[t];rfl)
 have aJ:=(aD t).1
 have cn:=(aD t).2
 have aK:=(aD aJ).1
 have co:=(aD aJ).2
 have q27aaa:=(aD aK).1
 have q27aab:=(aD aK).2
 have q27aaap:=ae q27aaa
 have q27aabp:=ae q27aab
 have q27abp:=ae co
 have dP:=ae cn
 exact Pl 1<|L1<|aZ c 4<|Pl 1<|L1<|aZ b 4<|Pl 2<|ce aI (A.value != B.value) (by rw[t];rfl)
 refine Pl 1<|cu 6 [47] 53 (((((((A.code != B.code)||(A.fail != B.fail))||(A.addr != B.addr))||(A.count != B.count))||(A.value != B.value))||(A.and_ != B.and_))) (fun K aL=>?_) ?_
 refine bl 47 ((((((A.code != B.code)||(A.fail != B.fail))||(A.addr != B.addr))||(A.count != B.count))||(A.value != B.value))) (fun u=>?_) (fun u=>?_)
 exact Pl 6<|ce aL true (by rw[u];rfl)
 have aM:=(aD u).1
 have cp:=(aD u).2
 have aN:=(aD aM).1
 have cq:=(aD aM).2
 have q29aaa:=(aD aN).1
 have q29aab:=(aD aN).2
 have q29aaaa:=(aD q29aaa).1
 have q29aaab:=(aD q29aaa).2
 have q29aaaap:=ae q29aaaa
 have q29aaabp:=ae q29aaab
 have q29aabp:=ae q29aab
 have q29abp:=ae cq
 have dQ:=ae cp
 exact Pl 1<|L1<|aZ c 5<|Pl 1<|L1<|aZ b 5<|Pl 2<|ce aL (A.and_ != B.and_) (by rw[u];rfl)
 refine Pl 1<|cu 6 [54] 60 ((((((((A.code != B.code)||(A.fail != B.fail))||(A.addr != B.addr))||(A.count != B.count))||(A.value != B.value))||(A.and_ != B.and_))||(A.or_ != B.or_))) (fun K aO=>?_) ?_
 refine bl 54 (((((((A.code != B.code)||(A.fail != B.fail))||(A.addr != B.addr))||(A.count != B.count))||(A.value != B.value))||(A.and_ != B.and_))) (fun v=>?_) (fun v=>?_)
 exact Pl 6<|ce aO true (by rw[v];rfl)
 have aP:=(aD v).1
 have cr:=(aD v).2
 have aR:=(aD aP).1
 have cs:=(aD aP).2
 have q31aaa:=(aD aR).1
 have q31aab:=(aD aR).2
 have q31aaaa:=(aD q31aaa).1
 have q31aaab:=(aD q31aaa).2
 have q31aaaaa:=(aD q31aaaa).1
 have q31aaaab:=(aD q31aaaa).2
 have q31aaaaap:=ae q31aaaaa
 have q31aaaabp:=ae q31aaaab
 have q31aaabp:=ae q31aaab
 have q31aabp:=ae q31aab
 have q31abp:=ae cs
 have dR:=ae cr
 exact Pl 1<|L1<|aZ c 6<|Pl 1<|L1<|aZ b 6<|Pl 2<|ce aO (A.or_ != B.or_) (by rw[v];rfl)
 refine Pl 1<|cu 6 [61] 67 (((((((((A.code != B.code)||(A.fail != B.fail))||(A.addr != B.addr))||(A.count != B.count))||(A.value != B.value))||(A.and_ != B.and_))||(A.or_ != B.or_))||(A.addr2 != B.addr2))) (fun K aS=>?_) ?_
 refine bl 61 ((((((((A.code != B.code)||(A.fail != B.fail))||(A.addr != B.addr))||(A.count != B.count))||(A.value != B.value))||(A.and_ != B.and_))||(A.or_ != B.or_))) (fun z=>?_) (fun z=>?_)
 exact Pl 6<|ce aS true (by rw[z];rfl)
 have aV:=(aD z).1
 have ct:=(aD z).2
 have aW:=(aD aV).1
 have cv:=(aD aV).2
 have q33aaa:=(aD aW).1
 have q33aab:=(aD aW).2
 have q33aaaa:=(aD q33aaa).1
 have q33aaab:=(aD q33aaa).2
 have q33aaaaa:=(aD q33aaaa).1
 have q33aaaab:=(aD q33aaaa).2
 have q33aaaaaa:=(aD q33aaaaa).1
 have q33aaaaab:=(aD q33aaaaa).2
 have q33aaaaaap:=ae q33aaaaaa
 have q33aaaaabp:=ae q33aaaaab
 have q33aaaabp:=ae q33aaaab
 have q33aaabp:=ae q33aaab
 have q33aabp:=ae q33aab
 have q33abp:=ae cv
 have dS:=ae ct
 exact Pl 1<|L1<|aZ c 7<|Pl 1<|L1<|aZ b 7<|Pl 2<|ce aS (A.addr2 != B.addr2) (by rw[z];rfl)
 refine Pl 1<|cu 6 [68] 74 ((((((((((A.code != B.code)||(A.fail != B.fail))||(A.addr != B.addr))||(A.count != B.count))||(A.value != B.value))||(A.and_ != B.and_))||(A.or_ != B.or_))||(A.addr2 != B.addr2))||(A.sub != B.sub))) (fun K aY=>?_) ?_
 refine bl 68 (((((((((A.code != B.code)||(A.fail != B.fail))||(A.addr != B.addr))||(A.count != B.count))||(A.value != B.value))||(A.and_ != B.and_))||(A.or_ != B.or_))||(A.addr2 != B.addr2))) (fun C=>?_) (fun C=>?_)
 exact Pl 6<|ce aY true (by rw[C];rfl)
 have b0:=(aD C).1
 have cw:=(aD C).2
 have b1:=(aD b0).1
 have cx:=(aD b0).2
 have q35aaa:=(aD b1).1
 have q35aab:=(aD b1).2
 have q35aaaa:=(aD q35aaa).1
 have q35aaab:=(aD q35aaa).2
 have q35aaaaa:=(aD q35aaaa).1
 have q35aaaab:=(aD q35aaaa).2
 have q35aaaaaa:=(aD q35aaaaa).1
 have q35aaaaab:=(aD q35aaaaa).2
 have q35aaaaaaa:=(aD q35aaaaaa).1
 have q35aaaaaab:=(aD q35aaaaaa).2
 have q35aaaaaaap:=ae q35aaaaaaa
 have q35aaaaaabp:=ae q35aaaaaab
 have q35aaaaabp:=ae q35aaaaab
 have q35aaaabp:=ae q35aaaab
 have q35aaabp:=ae q35aaab
 have q35aabp:=ae q35aab
 have q35abp:=ae cx
 have dT:=ae cw
 exact Pl 1<|L1<|aZ c 8<|Pl 1<|L1<|aZ b 8<|Pl 2<|ce aY (A.sub != B.sub) (by rw[C];rfl)
 refine Pl 1<|cu 6 [75] 81 (((((((((((A.code != B.code)||(A.fail != B.fail))||(A.addr != B.addr))||(A.count != B.count))||(A.value != B.value))||(A.and_ != B.and_))||(A.or_ != B.or_))||(A.addr2 != B.addr2))||(A.sub != B.sub))||(A.status != B.status))) (fun K b2=>?_) ?_
 refine bl 75 ((((((((((A.code != B.code)||(A.fail != B.fail))||(A.addr != B.addr))||(A.count != B.count))||(A.value != B.value))||(A.and_ != B.and_))||(A.or_ != B.or_))||(A.addr2 != B.addr2))||(A.sub != B.sub))) (fun D=>?_) (fun D=>?_)
 exact Pl 6<|ce b2 true (by rw[D];rfl)
 have b3:=(aD D).1
 have cy:=(aD D).2
 have b4:=(aD b3).1
 have cz:=(aD b3).2
 have q37aaa:=(aD b4).1
 have q37aab:=(aD b4).2
 have q37aaaa:=(aD q37aaa).1
 have q37aaab:=(aD q37aaa).2
 have q37aaaaa:=(aD q37aaaa).1
 have q37aaaab:=(aD q37aaaa).2
 have q37aaaaaa:=(aD q37aaaaa).1
 have q37aaaaab:=(aD q37aaaaa).2
 have q37aaaaaaa:=(aD q37aaaaaa).1
 have q37aaaaaab:=(aD q37aaaaaa).2
 have q37aaaaaaaa:=(aD q37aaaaaaa).1
 have q37aaaaaaab:=(aD q37aaaaaaa).2
 have q37aaaaaaaap:=ae q37aaaaaaaa
 have q37aaaaaaabp:=ae q37aaaaaaab
 have q37aaaaaabp:=ae q37aaaaaab
 have q37aaaaabp:=ae q37aaaaab
 have q37aaaabp:=ae q37aaaab
 have q37aaabp:=ae q37aaab
 have q37aabp:=ae q37aab
 have q37abp:=ae cz
 have dU:=ae cy
 exact Pl 1<|L1<|aZ c 9<|Pl 1<|L1<|aZ b 9<|Pl 2<|ce b2 (A.status != B.status) (by rw[D];rfl)
 refine Pl 1<|cu 6 [82] 88 ((((((((((((A.code != B.code)||(A.fail != B.fail))||(A.addr != B.addr))||(A.count != B.count))||(A.value != B.value))||(A.and_ != B.and_))||(A.or_ != B.or_))||(A.addr2 != B.addr2))||(A.sub != B.sub))||(A.status != B.status))||(A.events != B.events))) (fun K b5=>?_) ?_
 refine bl 82 (((((((((((A.code != B.code)||(A.fail != B.fail))||(A.addr != B.addr))||(A.count != B.count))||(A.value != B.value))||(A.and_ != B.and_))||(A.or_ != B.or_))||(A.addr2 != B.addr2))||(A.sub != B.sub))||(A.status != B.status))) (fun E=>?_) (fun E=>?_)
 exact Pl 6<|ce b5 true (by rw[E];rfl)
 have b6:=(aD E).1
 have cA:=(aD E).2
 have b7:=(aD b6).1
 have cB:=(aD b6).2
 have q39aaa:=(aD b7).1
 have q39aab:=(aD b7).2
 have q39aaaa:=(aD q39aaa).1
 have q39aaab:=(aD q39aaa).2
 have q39aaaaa:=(aD q39aaaa).1
 have q39aaaab:=(aD q39aaaa).2
 have q39aaaaaa:=(aD q39aaaaa).1
 have q39aaaaab:=(aD q39aaaaa).2
 have q39aaaaaaa:=(aD q39aaaaaa).1
 have q39aaaaaab:=(aD q39aaaaaa).2
 have q39aaaaaaaa:=(aD q39aaaaaaa).1
 have q39aaaaaaab:=(aD q39aaaaaaa).2
 have q39aaaaaaaaa:=(aD q39aaaaaaaa).1
 have q39aaaaaaaab:=(aD q39aaaaaaaa).2
 have q39aaaaaaaaap:=ae q39aaaaaaaaa
 have q39aaaaaaaabp:=ae q39aaaaaaaab
 have q39aaaaaaabp:=ae q39aaaaaaab
 have q39aaaaaabp:=ae q39aaaaaab
 have q39aaaaabp:=ae q39aaaaab
 have q39aaaabp:=ae q39aaaab
 have q39aaabp:=ae q39aaab
 have q39aabp:=ae q39aab
 have q39abp:=ae cB
 have dV:=ae cA
 exact Pl 1<|L1<|aZ c 10<|Pl 1<|L1<|aZ b 10<|Pl 2<|ce b5 (A.events != B.events) (by rw[E];rfl)
 refine Pl 1<|cu 6 [89] 95 (((((((((((((A.code != B.code)||(A.fail != B.fail))||(A.addr != B.addr))||(A.count != B.count))||(A.value != B.value))||(A.and_ != B.and_))||(A.or_ != B.or_))||(A.addr2 != B.addr2))||(A.sub != B.sub))||(A.status != B.status))||(A.events != B.events))||(A.messages != B.messages))) (fun K b8=>?_) ?_
 refine bl 89 ((((((((((((A.code != B.code)||(A.fail != B.fail))||(A.addr != B.addr))||(A.count != B.count))||(A.value != B.value))||(A.and_ != B.and_))||(A.or_ != B.or_))||(A.addr2 != B.addr2))||(A.sub != B.sub))||(A.status != B.status))||(A.events != B.events))) (fun F=>?_) (fun F=>?_)
 exact Pl 6<|ce b8 true (by rw[F];rfl)
 have b9:=(aD F).1
 have cC:=(aD F).2
 have ba:=(aD b9).1
 have cD:=(aD b9).2
 have q41aaa:=(aD ba).1
 have q41aab:=(aD ba).2
 have q41aaaa:=(aD q41aaa).1
 have q41aaab:=(aD q41aaa).2
 have q41aaaaa:=(aD q41aaaa).1
 have q41aaaab:=(aD q41aaaa).2
 have q41aaaaaa:=(aD q41aaaaa).1
 have q41aaaaab:=(aD q41aaaaa).2
 have q41aaaaaaa:=(aD q41aaaaaa).1
 have q41aaaaaab:=(aD q41aaaaaa).2
 have q41aaaaaaaa:=(aD q41aaaaaaa).1
 have q41aaaaaaab:=(aD q41aaaaaaa).2
 have q41aaaaaaaaa:=(aD q41aaaaaaaa).1
 have q41aaaaaaaab:=(aD q41aaaaaaaa).2
 have q41aaaaaaaaaa:=(aD q41aaaaaaaaa).1
 have q41aaaaaaaaab:=(aD q41aaaaaaaaa).2
 have q41aaaaaaaaaap:=ae q41aaaaaaaaaa
 have q41aaaaaaaaabp:=ae q41aaaaaaaaab
 have q41aaaaaaaabp:=ae q41aaaaaaaab
 have q41aaaaaaabp:=ae q41aaaaaaab
 have q41aaaaaabp:=ae q41aaaaaab
 have q41aaaaabp:=ae q41aaaaab
 have q41aaaabp:=ae q41aaaab
 have q41aaabp:=ae q41aaab
 have q41aabp:=ae q41aab
 have q41abp:=ae cD
 have dW:=ae cC
 exact Pl 1<|L1<|aZ c 11<|Pl 1<|L1<|aZ b 11<|Pl 2<|ce b8 (A.messages != B.messages) (by rw[F];rfl)
 refine nt<|?_
 have G:=aE cg aA
 refine cb (((((((((((((A.code != B.code)||(A.fail != B.fail))||(A.addr != B.addr))||(A.count != B.count))||(A.value != B.value))||(A.and_ != B.and_))||(A.or_ != B.or_))||(A.addr2 != B.addr2))||(A.sub != B.sub))||(A.status != B.status))||(A.events != B.events))||(A.messages != B.messages))) (fun H=>?_) (fun H=>?_)
 refine sg<|Pl 1<|nt<|rt<|tr<|rr (.bool false)<|?_
 have hs:decide (A=B)=false:=jN (f:=fun x y=>((((((((((((x.code != y.code)||(x.fail != y.fail))||(x.addr != y.addr))||(x.count != y.count))||(x.value != y.value))||(x.and_ != y.and_))||(x.or_ != y.or_))||(x.addr2 != y.addr2))||(x.sub != y.sub))||(x.status != y.status))||(x.events != y.events))||(x.messages != y.messages))) H (fun M=>by simp)
 rw[hs]
 exact⟨rfl,G⟩
 have bb:=(aD H).1
 have cE:=(aD H).2
 have bc:=(aD bb).1
 have cF:=(aD bb).2
 have q44aaa:=(aD bc).1
 have q44aab:=(aD bc).2
 have q44aaaa:=(aD q44aaa).1
 have q44aaab:=(aD q44aaa).2
 have q44aaaaa:=(aD q44aaaa).1
 have q44aaaab:=(aD q44aaaa).2
 have q44aaaaaa:=(aD q44aaaaa).1
 have q44aaaaab:=(aD q44aaaaa).2
 have q44aaaaaaa:=(aD q44aaaaaa).1
 have q44aaaaaab:=(aD q44aaaaaa).2
 have q44aaaaaaaa:=(aD q44aaaaaaa).1
 have q44aaaaaaab:=(aD q44aaaaaaa).2
 have q44aaaaaaaaa:=(aD q44aaaaaaaa).1
 have q44aaaaaaaab:=(aD q44aaaaaaaa).2
 have q44aaaaaaaaaa:=(aD q44aaaaaaaaa).1
 have q44aaaaaaaaab:=(aD q44aaaaaaaaa).2
 have q44aaaaaaaaaaa:=(aD q44aaaaaaaaaa).1
 have q44aaaaaaaaaab:=(aD q44aaaaaaaaaa).2
 have q44aaaaaaaaaaap:=ae q44aaaaaaaaaaa
 have q44aaaaaaaaaabp:=ae q44aaaaaaaaaab
 have q44aaaaaaaaabp:=ae q44aaaaaaaaab
 have q44aaaaaaaabp:=ae q44aaaaaaaab
 have q44aaaaaaabp:=ae q44aaaaaaab
 have q44aaaaaabp:=ae q44aaaaaab
 have q44aaaaabp:=ae q44aaaaab
 have q44aaaabp:=ae q44aaaab
 have q44aaabp:=ae q44aaab
 have q44aabp:=ae q44aab
 have q44abp:=ae cF
 have dX:=ae cE
 refine aX<|sq<|sg<|Pl 1<|L0<|aZ c 16<|Pl 1<|L0<|aZ b 16<|Pl 2<|cu 6 [101] 107 (((A.mei != B.mei)||(A.kind != B.kind))) (fun K bd=>?_) ?_
 refine bl 101 ((A.mei != B.mei)) (fun I=>?_) (fun I=>?_)
 have cG:=al I
 exact Pl 6<|ce bd true (by rw[I];rfl)
 have cG:=ae I
 exact Pl 1<|L1<|aZ c 17<|Pl 1<|L1<|aZ b 17<|Pl 2<|ce bd (A.kind != B.kind) (by rw[I];rfl)
 refine Pl 1<|cu 6 [108] 114 ((((A.mei != B.mei)||(A.kind != B.kind))||(A.level != B.level))) (fun K be=>?_) ?_
 refine bl 108 (((A.mei != B.mei)||(A.kind != B.kind))) (fun J=>?_) (fun J=>?_)
 exact Pl 6<|ce be true (by rw[J];rfl)
 have cH:=(aD J).1
 have cI:=(aD J).2
 have dY:=ae cH
 have dZ:=ae cI
 exact Pl 1<|L1<|aZ c 18<|Pl 1<|L1<|aZ b 18<|Pl 2<|ce be (A.level != B.level) (by rw[J];rfl)
 refine Pl 1<|cu 6 [115] 121 (((((A.mei != B.mei)||(A.kind != B.kind))||(A.level != B.level))||(A.more != B.more))) (fun K bf=>?_) ?_
 refine bl 115 ((((A.mei != B.mei)||(A.kind != B.kind))||(A.level != B.level))) (fun L=>?_) (fun L=>?_)
 exact Pl 6<|ce bf true (by rw[L];rfl)
 have bh:=(aD L).1
 have cJ:=(aD L).2
 have cK:=(aD bh).1
 have cL:=(aD bh).2
 have q49aap:=ae cK
 have q49abp:=ae cL
 have e0:=ae cJ
 exact Pl 1<|L1<|aZ c 19<|Pl 1<|L1<|aZ b 19<|Pl 2<|ce bf (A.more != B.more) (by rw[L];rfl)
 refine Pl 1<|cu 6 [122] 128 ((((((A.mei != B.mei)||(A.kind != B.kind))||(A.level != B.level))||(A.more != B.more))||(A.next != B.next))) (fun K bi=>?_) ?_
 refine bl 122 (((((A.mei != B.mei)||(A.kind != B.kind))||(A.level != B.level))||(A.more != B.more))) (fun N=>?_) (fun N=>?_)
 exact Pl 6<|ce bi true (by rw[N];rfl)
 have bj:=(aD N).1
 have cM:=(aD N).2
 have bm:=(aD bj).1
 have cN:=(aD bj).2
 have q51aaa:=(aD bm).1
 have q51aab:=(aD bm).2
 have q51aaap:=ae q51aaa
 have q51aabp:=ae q51aab
 have q51abp:=ae cN
 have e1:=ae cM
 exact Pl 1<|L1<|aZ c 20<|Pl 1<|L1<|aZ b 20<|Pl 2<|ce bi (A.next != B.next) (by rw[N];rfl)
 refine nt<|cb ((((((A.mei != B.mei)||(A.kind != B.kind))||(A.level != B.level))||(A.more != B.more))||(A.next != B.next))) (fun O=>?_) (fun O=>?_)
 refine sg<|Pl 1<|nt<|rt<|tr<|rr (.bool false)<|?_
 have hs:decide (A=B)=false:=jN (f:=fun x y=>(((((x.mei != y.mei)||(x.kind != y.kind))||(x.level != y.level))||(x.more != y.more))||(x.next != y.next))) O (fun M=>by simp)
 rw[hs]
 exact⟨rfl,G⟩
 have bo:=(aD O).1
 have cO:=(aD O).2
 have bp:=(aD bo).1
 have cP:=(aD bo).2
 have q53aaa:=(aD bp).1
 have q53aab:=(aD bp).2
 have q53aaaa:=(aD q53aaa).1
 have q53aaab:=(aD q53aaa).2
 have q53aaaap:=ae q53aaaa
 have q53aaabp:=ae q53aaab
 have q53aabp:=ae q53aab
 have q53abp:=ae cP
 have e2:=ae cO
 refine aX<|sg<|Pl 1<|L0<|aZ c 12<|Pl 1<|L0<|aZ b 12<|?_
 refine L0<|Oc<|m1 (gD (ei.old phw G) (ei.old qhw G)) fun e3 aa=>Pl 1<|ng<|Pl 1<|?_
 have bs:=ub aa c
 refine L0<|aZ bs 13<|Pl 1<|?_
 have bt:=ub aa b
 refine L0<|aZ bt 13<|?_
 have ab:=aE G aa
 refine L0<|Oc<|m1 (ku (eN.old phb ab) (eN.old qhb ab)) fun e4 ac=>Pl 1<|ng<|Pl 1<|?_
 have a2:=ub ac bs
 refine L0<|aZ a2 14<|Pl 1<|?_
 have P:=ub ac bt
 refine L0<|aZ P 14<|?_
 have ad:=aE ab ac
 refine L0<|Oc<|m1 (jA (aQ.old phd ad) (aQ.old qhd ad)) fun cQ n=>Pl 1<|nt<|sq<|sg<|Pl 3<|cu 3 [146] 149 (((!(decide (A.words=B.words)))||(!(decide (A.bits=B.bits))))) (fun K bu=>?_) ?_
 refine bl 146 ((!(decide (A.words=B.words)))) (fun Q=>?_) (fun Q=>?_)
 have af:(decide (A.words=B.words))=false:=by simpa using Q
 have cR:=of_decide_eq_false af
 exact Pl 3<|ce bu true (by rw[Q];rfl)
 have af:(decide (A.words=B.words))=true:=by simpa using Q
 have cR:=of_decide_eq_true af
 exact Pl 3<|ce bu (!(decide (A.bits=B.bits))) (by rw[Q];rfl)
 refine Pl 1<|cu 3 [150] 153 ((((!(decide (A.words=B.words)))||(!(decide (A.bits=B.bits))))||(!(decide (A.data=B.data))))) (fun K bv=>?_) ?_
 refine bl 150 (((!(decide (A.words=B.words)))||(!(decide (A.bits=B.bits))))) (fun R=>?_) (fun R=>?_)
 exact Pl 3<|ce bv true (by rw[R];rfl)
 have cS:=(aD R).1
 have cT:=(aD R).2
 have cU:(decide (A.words=B.words))=true:=by simpa using cS
 have q74anp:=of_decide_eq_true cU
 have cV:(decide (A.bits=B.bits))=true:=by simpa using cT
 have q74bnp:=of_decide_eq_true cV
 exact Pl 3<|ce bv (!(decide (A.data=B.data))) (by rw[R];rfl)
 refine Pl 1<|cu 8 [154] 162 (((((!(decide (A.words=B.words)))||(!(decide (A.bits=B.bits))))||(!(decide (A.data=B.data))))||(((A.recs.length:Nat) : Int)!=((B.recs.length:Nat) : Int)))) (fun K bw=>?_) ?_
 refine bl 154 ((((!(decide (A.words=B.words)))||(!(decide (A.bits=B.bits))))||(!(decide (A.data=B.data))))) (fun S=>?_) (fun S=>?_)
 exact Pl 8<|ce bw true (by rw[S];rfl)
 have bz:=(aD S).1
 have cW:=(aD S).2
 have cX:=(aD bz).1
 have cY:=(aD bz).2
 have q76aan:(decide (A.words=B.words))=true:=by simpa using cX
 have q76aanp:=of_decide_eq_true q76aan
 have q76abn:(decide (A.bits=B.bits))=true:=by simpa using cY
 have q76abnp:=of_decide_eq_true q76abn
 have cZ:(decide (A.data=B.data))=true:=by simpa using cW
 have q76bnp:=of_decide_eq_true cZ
 refine Pl 1<|?_
 refine L1<|aZ (ub n a2) 15<|Pl 2<|?_
 exact L1<|aZ (ub n P) 15<|Pl 3<|ce bw (((A.recs.length:Nat) : Int)!=((B.recs.length:Nat) : Int)) (by rw[S];rfl)
 refine Pl 1<|cu 8 [163] 171 ((((((!(decide (A.words=B.words)))||(!(decide (A.bits=B.bits))))||(!(decide (A.data=B.data))))||(((A.recs.length:Nat) : Int)!=((B.recs.length:Nat) : Int)))||(((A.objects.length:Nat) : Int)!=((B.objects.length:Nat) : Int)))) (fun K bA=>?_) ?_
 refine bl 163 (((((!(decide (A.words=B.words)))||(!(decide (A.bits=B.bits))))||(!(decide (A.data=B.data))))||(((A.recs.length:Nat) : Int)!=((B.recs.length:Nat) : Int)))) (fun T=>?_) (fun T=>?_)
 exact Pl 8<|ce bA true (by rw[T];rfl)
 have bB:=(aD T).1
 have d0:=(aD T).2
 have bC:=(aD bB).1
 have d1:=(aD bB).2
 have q80aaa:=(aD bC).1
 have q80aab:=(aD bC).2
 have q80aaan:(decide (A.words=B.words))=true:=by simpa using q80aaa
 have q80aaanp:=of_decide_eq_true q80aaan
 have q80aabn:(decide (A.bits=B.bits))=true:=by simpa using q80aab
 have q80aabnp:=of_decide_eq_true q80aabn
 have q80abn:(decide (A.data=B.data))=true:=by simpa using d1
 have q80abnp:=of_decide_eq_true q80abn
 have e5:=ae d0
 refine Pl 1<|?_
 refine L1<|aZ (ub n a2) 21<|Pl 2<|?_
 exact L1<|aZ (ub n P) 21<|Pl 3<|ce bA (((A.objects.length:Nat) : Int)!=((B.objects.length:Nat) : Int)) (by rw[T];rfl)
 refine nt<|?_
 have bE:=aE ad n
 refine cb ((((((!(decide (A.words=B.words)))||(!(decide (A.bits=B.bits))))||(!(decide (A.data=B.data))))||(((A.recs.length:Nat) : Int)!=((B.recs.length:Nat) : Int)))||(((A.objects.length:Nat) : Int)!=((B.objects.length:Nat) : Int)))) (fun U=>?_) (fun U=>?_)
 refine sg<|Pl 1<|nt<|rt<|tr<|rr (.bool false)<|?_
 have hs:decide (A=B)=false:=jN (f:=fun x y=>(((((!(decide (x.words=y.words)))||(!(decide (x.bits=y.bits))))||(!(decide (x.data=y.data))))||(((x.recs.length:Nat) : Int)!=((y.recs.length:Nat) : Int)))||(((x.objects.length:Nat) : Int)!=((y.objects.length:Nat) : Int)))) U (fun M=>by simp)
 rw[hs]
 exact⟨rfl,bE⟩
 have bF:=(aD U).1
 have d2:=(aD U).2
 have bG:=(aD bF).1
 have d3:=(aD bF).2
 have q85aaa:=(aD bG).1
 have q85aab:=(aD bG).2
 have q85aaaa:=(aD q85aaa).1
 have q85aaab:=(aD q85aaa).2
 have q85aaaan:(decide (A.words=B.words))=true:=by simpa using q85aaaa
 have q85aaaanp:=of_decide_eq_true q85aaaan
 have q85aaabn:(decide (A.bits=B.bits))=true:=by simpa using q85aaab
 have q85aaabnp:=of_decide_eq_true q85aaabn
 have q85aabn:(decide (A.data=B.data))=true:=by simpa using q85aab
 have q85aabnp:=of_decide_eq_true q85aabn
 have q85abp:=ae d3
 have e6:=ae d2
 refine aX<|sq<|sg<|Pl 1<|nt<|bk<|?_
 refine gI (fun x=>[(2,.pointer (some ⟨i,0,none⟩)),(3,.pointer (some ⟨l,0,none⟩)),(8,.int .i64 ((x:Nat) : Int))]) (fun(x:Nat) w'=>az [] cQ w'∧(A.recs.take x=B.recs.take x)∧(x≤A.recs.length)) (fun x=>A.recs.length-x) 0 ⟨az.refl _ _,(by(try dsimp only);simp),(by(try dsimp only);omega)⟩ ?_
 rintro j d4 ⟨a3,d5,d6⟩
 refine gJ [(2,.pointer (some ⟨i,0,none⟩)),(3,.pointer (some ⟨l,0,none⟩)),(8,.int .i64 ((j:Nat) : Int))] ?_
 have bH:A.recs.take j=B.recs.take j:=d5
 have e7:j≤A.recs.length:=d6
 refine sq<|sg<|Pl 2<|?_
 have a4:=aE n a3
 have ag:=ub a4 a2
 refine L0<|aZ ag 15<|Pl 2<|nt<|?_
 have a5:=aE bE a3
 refine cb ((decide (((j:Nat) : Int)<((A.recs.length:Nat) : Int)))) (fun ah=>?_) (fun ah=>?_)
 have d7:=of_decide_eq_true ah
 refine aX<|sq<|bk<|sg<|Pl 1<|L0<|aZ ag 15<|Pl 1<|kq (nL.elt phr j (by omega)) fun e8 e9 ea eb ec bI bJ d8 d9 da ed db=>L0<|pZ 4 A.recs.length j d8 (by omega)<|?_
 refine L0<|vz [.int .u16 ((A.recs.getD j ⟨0,0,0,[]⟩).file),.int .u16 ((A.recs.getD j ⟨0,0,0,[]⟩).record),.int .u16 ((A.recs.getD j ⟨0,0,0,[]⟩).count),.slice bI ((A.recs.getD j ⟨0,0,0,[]⟩).words.length) bJ] (ub a5 d9) db<|L0<|bD #[.int .u16 0,.int .u16 0,.int .u16 0,.slice none 0 0] fun ee ef ai dc aj=>L0<|aT dc #[.int .u16 ((A.recs.getD j ⟨0,0,0,[]⟩).file),.int .u16 ((A.recs.getD j ⟨0,0,0,[]⟩).record),.int .u16 ((A.recs.getD j ⟨0,0,0,[]⟩).count),.slice bI ((A.recs.getD j ⟨0,0,0,[]⟩).words.length) bJ] fun eg dd ak=>ng<|Pl 1<|?_
 refine L0<|aZ (ub (u1 (aE a4 aj) ak (ni a4.size ai)) P) 15<|Pl 1<|kq (nL.elt qhr j (by omega)) fun eh ej el em eo bK bL de df dg ep dh=>L0<|pZ 4 B.recs.length j de (by omega)<|?_
 have am:=u1 (aE a5 aj) ak (ni a5.size ai)
 refine L0<|vz [.int .u16 ((B.recs.getD j ⟨0,0,0,[]⟩).file),.int .u16 ((B.recs.getD j ⟨0,0,0,[]⟩).record),.int .u16 ((B.recs.getD j ⟨0,0,0,[]⟩).count),.slice bK ((B.recs.getD j ⟨0,0,0,[]⟩).words.length) bL] (ub am df) dh<|L0<|bD #[.int .u16 0,.int .u16 0,.int .u16 0,.slice none 0 0] fun eq er an di ao=>L0<|aT di #[.int .u16 ((B.recs.getD j ⟨0,0,0,[]⟩).file),.int .u16 ((B.recs.getD j ⟨0,0,0,[]⟩).record),.int .u16 ((B.recs.getD j ⟨0,0,0,[]⟩).count),.slice bK ((B.recs.getD j ⟨0,0,0,[]⟩).words.length) bL] fun es a6 ap=>ng<|Pl 1<|?_
 have a7:=ub (u1 ao ap (nr an)) dd
 refine L0<|aZ a7 3<|Pl 1<|L0<|aZ a6 3<|?_
 have aq:=u1 (aE am ao) ap (ni am.size an)
 refine L0<|Oc<|m1 (gD (ei.old da aq) (ei.old dg aq)) fun et h=>Pl 1<|ng<|Pl 3<|cu 6 [196] 202 (((!(decide ((A.recs.getD j ⟨0,0,0,[]⟩).words=(B.recs.getD j ⟨0,0,0,[]⟩).words)))||(((A.recs.getD j ⟨0,0,0,[]⟩).file)!=((B.recs.getD j ⟨0,0,0,[]⟩).file)))) (fun K bM=>?_) ?_
 refine bl 196 ((!(decide ((A.recs.getD j ⟨0,0,0,[]⟩).words=(B.recs.getD j ⟨0,0,0,[]⟩).words)))) (fun V=>?_) (fun V=>?_)
 have ar:(decide ((A.recs.getD j ⟨0,0,0,[]⟩).words=(B.recs.getD j ⟨0,0,0,[]⟩).words))=false:=by simpa using V
 have dj:=of_decide_eq_false ar
 exact Pl 6<|ce bM true (by rw[V];rfl)
 have ar:(decide ((A.recs.getD j ⟨0,0,0,[]⟩).words=(B.recs.getD j ⟨0,0,0,[]⟩).words))=true:=by simpa using V
 have dj:=of_decide_eq_true ar
 refine Pl 1<|?_
 refine L1<|aZ (ub h a7) 0<|Pl 1<|?_
 exact L1<|aZ (ub h a6) 0<|Pl 2<|ce bM (((A.recs.getD j ⟨0,0,0,[]⟩).file)!=((B.recs.getD j ⟨0,0,0,[]⟩).file)) (by rw[V];rfl)
 refine Pl 1<|cu 6 [203] 209 ((((!(decide ((A.recs.getD j ⟨0,0,0,[]⟩).words=(B.recs.getD j ⟨0,0,0,[]⟩).words)))||(((A.recs.getD j ⟨0,0,0,[]⟩).file)!=((B.recs.getD j ⟨0,0,0,[]⟩).file)))||(((A.recs.getD j ⟨0,0,0,[]⟩).record)!=((B.recs.getD j ⟨0,0,0,[]⟩).record)))) (fun K bN=>?_) ?_
 refine bl 203 (((!(decide ((A.recs.getD j ⟨0,0,0,[]⟩).words=(B.recs.getD j ⟨0,0,0,[]⟩).words)))||(((A.recs.getD j ⟨0,0,0,[]⟩).file)!=((B.recs.getD j ⟨0,0,0,[]⟩).file)))) (fun W=>?_) (fun W=>?_)
 exact Pl 6<|ce bN true (by rw[W];rfl)
 have dk:=(aD W).1
 have dl:=(aD W).2
 have dm:(decide ((A.recs.getD j ⟨0,0,0,[]⟩).words=(B.recs.getD j ⟨0,0,0,[]⟩).words))=true:=by simpa using dk
 have q156anp:=of_decide_eq_true dm
 have eu:=ae dl
 refine Pl 1<|?_
 refine L1<|aZ (ub h a7) 1<|Pl 1<|?_
 exact L1<|aZ (ub h a6) 1<|Pl 2<|ce bN (((A.recs.getD j ⟨0,0,0,[]⟩).record)!=((B.recs.getD j ⟨0,0,0,[]⟩).record)) (by rw[W];rfl)
 refine Pl 1<|cu 6 [210] 216 (((((!(decide ((A.recs.getD j ⟨0,0,0,[]⟩).words=(B.recs.getD j ⟨0,0,0,[]⟩).words)))||(((A.recs.getD j ⟨0,0,0,[]⟩).file)!=((B.recs.getD j ⟨0,0,0,[]⟩).file)))||(((A.recs.getD j ⟨0,0,0,[]⟩).record)!=((B.recs.getD j ⟨0,0,0,[]⟩).record)))||(((A.recs.getD j ⟨0,0,0,[]⟩).count)!=((B.recs.getD j ⟨0,0,0,[]⟩).count)))) (fun K bO=>?_) ?_
 refine bl 210 ((((!(decide ((A.recs.getD j ⟨0,0,0,[]⟩).words=(B.recs.getD j ⟨0,0,0,[]⟩).words)))||(((A.recs.getD j ⟨0,0,0,[]⟩).file)!=((B.recs.getD j ⟨0,0,0,[]⟩).file)))||(((A.recs.getD j ⟨0,0,0,[]⟩).record)!=((B.recs.getD j ⟨0,0,0,[]⟩).record)))) (fun X=>?_) (fun X=>?_)
 exact Pl 6<|ce bO true (by rw[X];rfl)
 have bP:=(aD X).1
 have dn:=(aD X).2
 have dp:=(aD bP).1
 have dq:=(aD bP).2
 have q160aan:(decide ((A.recs.getD j ⟨0,0,0,[]⟩).words=(B.recs.getD j ⟨0,0,0,[]⟩).words))=true:=by simpa using dp
 have q160aanp:=of_decide_eq_true q160aan
 have q160abp:=ae dq
 have ev:=ae dn
 refine Pl 1<|?_
 refine L1<|aZ (ub h a7) 2<|Pl 1<|?_
 exact L1<|aZ (ub h a6) 2<|Pl 2<|ce bO (((A.recs.getD j ⟨0,0,0,[]⟩).count)!=((B.recs.getD j ⟨0,0,0,[]⟩).count)) (by rw[X];rfl)
 refine nt<|?_
 refine cb (((((!(decide ((A.recs.getD j ⟨0,0,0,[]⟩).words=(B.recs.getD j ⟨0,0,0,[]⟩).words)))||(((A.recs.getD j ⟨0,0,0,[]⟩).file)!=((B.recs.getD j ⟨0,0,0,[]⟩).file)))||(((A.recs.getD j ⟨0,0,0,[]⟩).record)!=((B.recs.getD j ⟨0,0,0,[]⟩).record)))||(((A.recs.getD j ⟨0,0,0,[]⟩).count)!=((B.recs.getD j ⟨0,0,0,[]⟩).count)))) (fun Y=>?_) (fun Y=>?_)
 refine sg<|Pl 1<|nt<|rt<|br<|tr<|tr<|br<|tr<|rr (.bool false)<|?_
 have hs:decide (A=B)=false:=jN (f:=fun x y=>((((!(decide ((x.recs.getD j ⟨0,0,0,[]⟩).words=(y.recs.getD j ⟨0,0,0,[]⟩).words)))||(((x.recs.getD j ⟨0,0,0,[]⟩).file)!=((y.recs.getD j ⟨0,0,0,[]⟩).file)))||(((x.recs.getD j ⟨0,0,0,[]⟩).record)!=((y.recs.getD j ⟨0,0,0,[]⟩).record)))||(((x.recs.getD j ⟨0,0,0,[]⟩).count)!=((y.recs.getD j ⟨0,0,0,[]⟩).count)))) Y (fun M=>by simp)
 rw[hs]
 exact⟨rfl,(aE aq h)⟩
 have bQ:=(aD Y).1
 have dr:=(aD Y).2
 have bR:=(aD bQ).1
 have ds:=(aD bQ).2
 have q165aaa:=(aD bR).1
 have q165aab:=(aD bR).2
 have q165aaan:(decide ((A.recs.getD j ⟨0,0,0,[]⟩).words=(B.recs.getD j ⟨0,0,0,[]⟩).words))=true:=by simpa using q165aaa
 have q165aaanp:=of_decide_eq_true q165aaan
 have q165aabp:=ae q165aab
 have q165abp:=ae ds
 have ew:=ae dr
 refine sk<|bn<|tn<|go<|Pl 1<|L0<|Oi (((j:Nat) : Int)+1)<|Pl 1<|nl<|?_
 have bS:=u1 (aE a3 aj) ak (ni a3.size ai)
 exact ek (j+1) ⟨(aE (u1 (aE bS ao) ap (ni bS.size an)) h),(nu (d:=⟨0,0,0,[]⟩) bH (by omega) (by omega) (t5 Y)),(by(try dsimp only);omega)⟩ (by omega)
 have d7:=of_decide_eq_false ah
 refine xt<|tx<|tx<|bx<|tn<|sq<|sg<|Pl 1<|nt<|bk<|?_
 refine gI (fun x=>[(2,.pointer (some ⟨i,0,none⟩)),(3,.pointer (some ⟨l,0,none⟩)),(12,.int .i64 ((x:Nat) : Int))]) (fun(x:Nat) w'=>az [] d4 w'∧(A.objects.take x=B.objects.take x)∧(x≤A.objects.length)) (fun x=>A.objects.length-x) 0 ⟨az.refl _ _,(by(try dsimp only);simp),(by(try dsimp only);omega)⟩ ?_
 rintro k ex ⟨a8,dt,du⟩
 refine gJ [(2,.pointer (some ⟨i,0,none⟩)),(3,.pointer (some ⟨l,0,none⟩)),(12,.int .i64 ((k:Nat) : Int))] ?_
 have bT:A.objects.take k=B.objects.take k:=dt
 have ey:k≤A.objects.length:=du
 refine sq<|sg<|Pl 2<|?_
 have bU:=ub a8 ag
 refine L0<|aZ bU 21<|Pl 2<|nt<|?_
 have bV:=aE a5 a8
 refine cb ((decide (((k:Nat) : Int)<((A.objects.length:Nat) : Int)))) (fun av=>?_) (fun av=>?_)
 have dv:=of_decide_eq_true av
 refine aX<|sq<|bk<|sq<|kq (pp.elt pho k (by omega)) fun bW bX ez eA eB dw dx bY dy dz eC aw=>kq (pp.elt qho k (by omega)) fun bZ c0 eD eE eF dA dB c2 dD dE eG ax=>Rg 14 (fun w'=>w'.cell? ⟨i,21,none⟩=some (.slice po A.objects.length pko)∧w'.cell? ⟨bW,bX+k*2+1,none⟩=some (.slice dw ((A.objects.getD k ⟨0,[]⟩).value.length) dx)∧w'.cell? ⟨l,21,none⟩=some (.slice qo B.objects.length qko)∧w'.cell? ⟨bZ,c0+k*2+1,none⟩=some (.slice dA ((B.objects.getD k ⟨0,[]⟩).value.length) dB)) fun eH a9=>?_
 have c3:=ub a9 bU
 have Z:=aE bV a9
 have c4:=ub Z dy
 have c5:=ub (aE (aE a4 a8) a9) P
 have c6:=ub Z dD
 refine bg ⟨(au c3 rfl),(gt c4 aw 1 rfl (by decide)),(au c5 rfl),(gt c6 ax 1 rfl (by decide))⟩ fun g=>Rt 0 g<|Rl 1 g (fun _ hs=>hs.1)<|Rt 2 g<|Ri 3 g 2 A.objects.length k ((k:Nat) : Int) rfl bY (by omega)<|Rt 4 g<|Rl 5 g (fun _ hs=>hs.2.1)<|Rt 6 g<|Rl 7 g (fun _ hs=>hs.2.2.1)<|Rt 8 g<|Ri 9 g 2 B.objects.length k ((k:Nat) : Int) rfl c2 (by omega)<|Rt 10 g<|Rl 11 g (fun _ hs=>hs.2.2.2)<|?_
 refine R0 12 rfl<|Oc<|m1 (jA (aQ.old dz Z) (aQ.old dE Z)) fun eI o=>?_
 have c7:=ub o c3
 have c9:=ub o c4
 have ca:=ub o c5
 have cc:=ub o c6
 refine bg ⟨(au c7 rfl),(gt c9 aw 1 rfl (by decide)),(au ca rfl),(gt cc ax 1 rfl (by decide))⟩ fun dF=>Rt 13 dF<|re<|tn<|sq<|Rg 17 (fun w'=>w'.cell? ⟨i,21,none⟩=some (.slice po A.objects.length pko)∧w'.cell? ⟨bW,bX+k*2+0,none⟩=some (.int .u8 ((A.objects.getD k ⟨0,[]⟩).id))∧w'.cell? ⟨l,21,none⟩=some (.slice qo B.objects.length qko)∧w'.cell? ⟨bZ,c0+k*2+0,none⟩=some (.int .u8 ((B.objects.getD k ⟨0,[]⟩).id))) fun eJ p=>?_
 refine bg ⟨(au (ub p c7) rfl),(gt (ub p c9) aw 0 rfl (by decide)),(au (ub p ca) rfl),(gt (ub p cc) ax 0 rfl (by decide))⟩ fun a=>Rt 0 a<|Rt 1 a<|Rt 2 a<|?_
 have cd:=aE (aE Z o) p
 refine sG 239 ((!(decide ((A.objects.getD k ⟨0,[]⟩).value=(B.objects.getD k ⟨0,[]⟩).value)))) (fun a0=>?_) (fun a0=>?_)
 have ay:(decide ((A.objects.getD k ⟨0,[]⟩).value=(B.objects.getD k ⟨0,[]⟩).value))=false:=by simpa using a0
 have dG:=of_decide_eq_false ay
 refine Ro 3 a<|Ro 4 a<|Ro 5 a<|Ro 6 a<|Ro 7 a<|Ro 8 a<|Ro 9 a<|Ro 10 a<|Ro 11 a<|Ro 12 a<|Ro 13 a<|Ro 14 a<|Ro 15 a<|Rt 16 a<|?_
 refine re<|tn<|c1<|sg<|Pl 1<|nt<|rt<|br<|tr<|tr<|br<|tr<|?_
 refine rr (.bool false)<|?_
 have hs:decide (A=B)=false:=jN (f:=fun x y=>(!(decide ((x.objects.getD k ⟨0,[]⟩).value=(y.objects.getD k ⟨0,[]⟩).value)))) a0 (fun M=>by simp)
 rw[hs]
 exact⟨rfl,cd⟩
 have ay:(decide ((A.objects.getD k ⟨0,[]⟩).value=(B.objects.getD k ⟨0,[]⟩).value))=true:=by simpa using a0
 have dG:=of_decide_eq_true ay
 refine Rt 3 a<|Rl 4 a (fun _ hs=>hs.1)<|Rt 5 a<|Ri 6 a 2 A.objects.length k ((k:Nat) : Int) rfl bY (by omega)<|Rt 7 a<|Rl 8 a (fun _ hs=>hs.2.1)<|Rt 9 a<|Rl 10 a (fun _ hs=>hs.2.2.1)<|Rt 11 a<|Ri 12 a 2 B.objects.length k ((k:Nat) : Int) rfl c2 (by omega)<|Rt 13 a<|Rl 14 a (fun _ hs=>hs.2.2.2)<|Rt 15 a<|Rt 16 a<|?_
 refine re<|tn<|cb ((((A.objects.getD k ⟨0,[]⟩).id)!=((B.objects.getD k ⟨0,[]⟩).id))) (fun a1=>?_) (fun a1=>?_)
 have dH:=al a1
 refine sg<|Pl 1<|nt<|rt<|br<|tr<|tr<|br<|tr<|rr (.bool false)<|?_
 have hs:decide (A=B)=false:=jN (f:=fun x y=>(((x.objects.getD k ⟨0,[]⟩).id)!=((y.objects.getD k ⟨0,[]⟩).id))) a1 (fun M=>by simp)
 rw[hs]
 exact⟨rfl,cd⟩
 have dH:=ae a1
 refine sk<|bn<|tn<|go<|Pl 1<|L0<|Oi (((k:Nat) : Int)+1)<|Pl 1<|nl<|?_
 exact ek (k+1) ⟨(aE (aE (aE a8 a9) o) p),(nu (d:=⟨0,[]⟩) bT (by omega) (by omega) (rK a0 a1)),(by(try dsimp only);omega)⟩ (by omega)
 have dv:=of_decide_eq_false av
 refine xt<|tx<|tx<|bx<|tn<|sg<|Pl 1<|nt<|rt<|rr (.bool true)<|?_
 have hs:decide (A=B)=true:=decide_eq_true (rL H O U (fun e=>fc bH (by omega) e) (fun e=>fc bT (by omega) e))
 rw[hs]
 exact⟨rfl,bV⟩
open Go.RowKit
deriving instance DecidableEq for Ev
theorem jS(A B:Ev) : (((A.e==B.e)&&((A.f.unit==B.f.unit)&&(A.f.tid==B.f.tid)))&&decide (A.f.msg=B.f.msg))=decide (A=B):=by
  rw[Bool.eq_iff_iff]
  simp only[Bool.and_eq_true,beq_iff_eq,decide_eq_true_eq]
  obtain⟨e,u,t,M⟩:=A
  obtain⟨e2,u2,t2,M2⟩:=B
  simp only[Ev.mk.injEq,fo.mk.injEq]
  constructor
  · rintro⟨⟨h1,h2,h3⟩,h4⟩;exact⟨h1,h2,h3,h4⟩
  · rintro⟨h1,h2,h3,h4⟩;exact⟨⟨h1,h2,h3⟩,h4⟩
theorem tv{xs ys:List Ev}{k:Nat}(hk:k<xs.length)(hl:xs.length=ys.length)(h:xs.take k=ys.take k)(he:xs.getD k (Ev.bad 0)=ys.getD k (Ev.bad 0)) : xs.take (k+1)=ys.take (k+1):=by
  exact pU hl hk h he
theorem tu{xs ys:List Ev}{k:Nat}(h:xs.take k=ys.take k)(h1:k=xs.length)(h2:xs.length=ys.length) : decide (xs=ys)=true:=by
  rw[List.take_of_length_le (by omega),List.take_of_length_le (by omega)] at h
  exact decide_eq_true h
theorem u0{xs ys:List Ev}(k:Nat)(h:decide (xs.getD k (Ev.bad 0)=ys.getD k (Ev.bad 0))=false) : decide (xs=ys)=false:=by
  rw[decide_eq_false_iff_not] at h ⊢
  exact fun e=>h (by rw[e])
theorem mK{m m':Md}{A B:Ev}{sA sB:SL}{w:World}(hA:bq m w (lH A.f.msg sA).toList A.f.msg)(hB:bq m' w (lH B.f.msg sB).toList B.f.msg) : Calls Tryz.prog 114 #[.agg (oV A sA),.agg (oV B sB)] w (c8 (.bool (decide (A=B))) w):=by
 refine en 28 Tryz.func114 rfl<|sg<|L0<|dC (oV ⟨A.e,A.f⟩ sA) fun s t u o p=>L0<|dC (oV ⟨B.e,B.f⟩ sB) fun v x y d i=>Pl 1<|ng<|Pl 1<|?_
 have g:=ub i o
 refine L0<|aZ g 0<|Pl 1<|L0<|aZ d 0<|Pl 2<|cu 8 [10] 18 (((A.e==B.e)&&((A.f.unit==B.f.unit)&&(A.f.tid==B.f.tid)))) (fun K j=>?_) ?_
 refine bl 10 ((A.e==B.e)) (fun a=>?_) (fun a=>?_)
 have q:=ap a
 exact Pl 2<|L1<|uB g 1 2<|Pl 2<|L1<|uB d 1 2<|L1<|i7 (.bool ((A.f.unit==B.f.unit)&&(A.f.tid==B.f.tid))) (mv A.f.unit A.f.tid B.f.unit B.f.tid rfl (by kernel_rfl) (by kernel_rfl) rfl)<|Pl 1<|ce j ((A.f.unit==B.f.unit)&&(A.f.tid==B.f.tid)) (by rw[a];rfl)
 have q:=aq a
 exact Pl 8<|ce j false (by rw[a];rfl)
 refine Pl 1<|?_
 have c:=aE p i
 refine bl 19 (((A.e==B.e)&&((A.f.unit==B.f.unit)&&(A.f.tid==B.f.tid)))) (fun b=>?_) (fun b=>?_)
 have k:=(aO b).1
 have h:=(aO b).2
 have z:=ap k
 have l:=(aO h).1
 have n:=(aO h).2
 have q24bap:=ap l
 have q24bbp:=ap n
 refine Pl 2<|L1<|uB g 3 22<|Pl 2<|L1<|uB d 3 22<|?_
 refine L1<|Oc<|m1 (oo (bq.old hA c) (bq.old hB c)) fun C r=>Pl 2<|nt<|rt<|rr (.bool (decide (A.f.msg=B.f.msg)))<|?_
 have hs:(decide (A.f.msg=B.f.msg))=decide (A=B):=by rw[← jS];simp only[b,k,h,l,n,bs,if_true,if_false,decide_true,decide_false,Bool.true_and,Bool.false_and,Bool.and_true,Bool.and_false]
 rw[hs]
 exact⟨rfl,(aE c r)⟩
 refine Pl 9<|nt<|rt<|rr (.bool false)<|?_
 have hs:false=decide (A=B):=by rw[← jS];simp only[b,bs,if_true,if_false,decide_true,decide_false,Bool.true_and,Bool.false_and,Bool.and_true,Bool.and_false]
 rw[hs]
 exact⟨rfl,c⟩
theorem c5{m m':Md}{A B:Option Addr}{c d:Nat}{xs ys:List Ev}{w:World}(h1:oy m w (.slice A xs.length c) xs)(h2:oy m' w (.slice B ys.length d) ys) : Calls Tryz.prog 40 #[.slice A xs.length c,.slice B ys.length d] w (c8 (.bool (decide (xs=ys))) w):=by
 have hz1:=aB.len h1
 have hz2:=aB.len h2
 refine en 27 Tryz.func40 rfl<|sg<|Pl 1<|nt<|sq<|sg<|Pl 5<|nt<|cb ((((xs.length:Nat) : Int)!=((ys.length:Nat) : Int))) (fun l=>?_) (fun l=>?_)
 have q:=al l
 refine sg<|Pl 1<|nt<|rt<|tr<|rr (.bool false)<|?_
 have hs:decide (xs=ys)=false:=decide_eq_false (fun e=>by rw[e] at q;omega)
 rw[hs]
 exact⟨rfl,(az.refl [] _)⟩
 have q:=ae l
 refine aX<|sq<|sg<|Pl 1<|nt<|bk<|?_
 refine gI (fun x=>[(0,.slice A xs.length c),(1,.slice B ys.length d),(5,.int .i64 ((x:Nat) : Int))]) (fun(x:Nat) w'=>az [] w w'∧(xs.take x=ys.take x)∧(x≤xs.length)) (fun x=>xs.length-x) 0 ⟨az.refl _ _,rfl,(by(try dsimp only);omega)⟩ ?_
 rintro k Y ⟨r,C,D⟩
 refine gJ [(0,.slice A xs.length c),(1,.slice B ys.length d),(5,.int .i64 ((k:Nat) : Int))] ?_
 have s:xs.take k=ys.take k:=C
 have Z:k≤xs.length:=D
 refine sq<|sg<|Pl 4<|nt<|cb ((decide (((k:Nat) : Int)<((xs.length:Nat) : Int)))) (fun n=>?_) (fun n=>?_)
 have E:=of_decide_eq_true n
 refine aX<|sq<|bk<|sq<|vn (oy.elt h1 k (by omega) (Ev.bad 0)) fun t F G H I a J K L M=>vn (oy.elt h2 k (by omega) (Ev.bad 0)) fun u N O P Q b R S T U=>Rg 10 (fun w'=>w'.heap[t]? = some (.cells G H I)∧w'.heap[u]? = some (.cells O P Q)) fun a0 V=>?_
 have i:=aE r V
 have v:=ub i K
 have y:=ub i S
 refine bg ⟨v,y⟩ fun h=>Rt 0 h<|Rt 1 h<|Ri 2 h 25 xs.length k ((k:Nat) : Int) rfl J (by omega)<|Rr 3 h (.agg (oV ⟨(xs.getD k (Ev.bad 0)).e,(xs.getD k (Ev.bad 0)).f⟩ a)) (fun w' hs=>o0 (g:=t) (off:=F+k*25) [.int .i64 ((xs.getD k (Ev.bad 0)).e),.int .u8 ((xs.getD k (Ev.bad 0)).f.unit),.int .u16 ((xs.getD k (Ev.bad 0)).f.tid),.int .u8 ((xs.getD k (Ev.bad 0)).f.msg.code),.int .u8 ((xs.getD k (Ev.bad 0)).f.msg.fail),.int .u16 ((xs.getD k (Ev.bad 0)).f.msg.addr),.int .u16 ((xs.getD k (Ev.bad 0)).f.msg.count),.int .u16 ((xs.getD k (Ev.bad 0)).f.msg.value),.int .u16 ((xs.getD k (Ev.bad 0)).f.msg.and_),.int .u16 ((xs.getD k (Ev.bad 0)).f.msg.or_),.int .u16 ((xs.getD k (Ev.bad 0)).f.msg.addr2),.int .u16 ((xs.getD k (Ev.bad 0)).f.msg.sub),.int .u16 ((xs.getD k (Ev.bad 0)).f.msg.status),.int .u16 ((xs.getD k (Ev.bad 0)).f.msg.events),.int .u16 ((xs.getD k (Ev.bad 0)).f.msg.messages),.slice a.aw ((xs.getD k (Ev.bad 0)).f.msg.words.length) a.kw,.slice a.ab ((xs.getD k (Ev.bad 0)).f.msg.bits.length) a.kb,.slice a.ad ((xs.getD k (Ev.bad 0)).f.msg.data.length) a.kd,.slice a.ar ((xs.getD k (Ev.bad 0)).f.msg.recs.length) a.kr,.int .u8 ((xs.getD k (Ev.bad 0)).f.msg.mei),.int .u8 ((xs.getD k (Ev.bad 0)).f.msg.kind),.int .u8 ((xs.getD k (Ev.bad 0)).f.msg.level),.int .u8 ((xs.getD k (Ev.bad 0)).f.msg.more),.int .u8 ((xs.getD k (Ev.bad 0)).f.msg.next),.slice a.ao ((xs.getD k (Ev.bad 0)).f.msg.objects.length) a.ko] rfl (by kernel_rfl) hs.1 (by kernel_rfl) (by kernel_rfl) M)<|Rt 4 h<|Rt 5 h<|Ri 6 h 25 ys.length k ((k:Nat) : Int) rfl R (by omega)<|Rr 7 h (.agg (oV ⟨(ys.getD k (Ev.bad 0)).e,(ys.getD k (Ev.bad 0)).f⟩ b)) (fun w' hs=>o0 (g:=u) (off:=N+k*25) [.int .i64 ((ys.getD k (Ev.bad 0)).e),.int .u8 ((ys.getD k (Ev.bad 0)).f.unit),.int .u16 ((ys.getD k (Ev.bad 0)).f.tid),.int .u8 ((ys.getD k (Ev.bad 0)).f.msg.code),.int .u8 ((ys.getD k (Ev.bad 0)).f.msg.fail),.int .u16 ((ys.getD k (Ev.bad 0)).f.msg.addr),.int .u16 ((ys.getD k (Ev.bad 0)).f.msg.count),.int .u16 ((ys.getD k (Ev.bad 0)).f.msg.value),.int .u16 ((ys.getD k (Ev.bad 0)).f.msg.and_),.int .u16 ((ys.getD k (Ev.bad 0)).f.msg.or_),.int .u16 ((ys.getD k (Ev.bad 0)).f.msg.addr2),.int .u16 ((ys.getD k (Ev.bad 0)).f.msg.sub),.int .u16 ((ys.getD k (Ev.bad 0)).f.msg.status),.int .u16 ((ys.getD k (Ev.bad 0)).f.msg.events),.int .u16 ((ys.getD k (Ev.bad 0)).f.msg.messages),.slice b.aw ((ys.getD k (Ev.bad 0)).f.msg.words.length) b.kw,.slice b.ab ((ys.getD k (Ev.bad 0)).f.msg.bits.length) b.kb,.slice b.ad ((ys.getD k (Ev.bad 0)).f.msg.data.length) b.kd,.slice b.ar ((ys.getD k (Ev.bad 0)).f.msg.recs.length) b.kr,.int .u8 ((ys.getD k (Ev.bad 0)).f.msg.mei),.int .u8 ((ys.getD k (Ev.bad 0)).f.msg.kind),.int .u8 ((ys.getD k (Ev.bad 0)).f.msg.level),.int .u8 ((ys.getD k (Ev.bad 0)).f.msg.more),.int .u8 ((ys.getD k (Ev.bad 0)).f.msg.next),.slice b.ao ((ys.getD k (Ev.bad 0)).f.msg.objects.length) b.ko] rfl (by kernel_rfl) hs.2 (by kernel_rfl) (by kernel_rfl) U)<|?_
 refine R0 8 rfl<|Oc<|m1 (mK (A:=(xs.getD k (Ev.bad 0))) (B:=(ys.getD k (Ev.bad 0))) (bq.old (L.1) i) (bq.old (T.1) i)) fun a1 o=>?_
 refine bg ⟨(ub o v),(ub o y)⟩ fun W=>Rt 9 W<|re<|tn<|?_
 have z:=aE i o
 refine cb ((!(decide ((xs.getD k (Ev.bad 0))=(ys.getD k (Ev.bad 0)))))) (fun p=>?_) (fun p=>?_)
 have j:(decide ((xs.getD k (Ev.bad 0))=(ys.getD k (Ev.bad 0))))=false:=by simpa using p
 have X:=of_decide_eq_false j
 refine sg<|Pl 1<|nt<|rt<|br<|tr<|tr<|br<|tr<|rr (.bool false)<|?_
 have hs:decide (xs=ys)=false:=u0 k j
 rw[hs]
 exact⟨rfl,z⟩
 have j:(decide ((xs.getD k (Ev.bad 0))=(ys.getD k (Ev.bad 0))))=true:=by simpa using p
 have X:=of_decide_eq_true j
 exact sk<|bn<|tn<|go<|Pl 1<|L0<|Oi (((k:Nat) : Int)+1)<|Pl 1<|nl<|ek (k+1) ⟨z,(tv (by omega) (by omega) s (of_decide_eq_true j)),(by(try dsimp only);omega)⟩ (by omega)
 have E:=of_decide_eq_false n
 refine xt<|tx<|tx<|bx<|tn<|sg<|Pl 1<|nt<|rt<|rr (.bool true)<|?_
 have hs:decide (xs=ys)=true:=tu s (by omega) (by omega)
 rw[hs]
 exact⟨rfl,r⟩
open Go.RowKit
theorem jU{P:Program}{sz:Nat}{A:Option Addr}{c:Nat}(w:World) : (Builtin.firstCells sz 0 (.slice A 0 c)).run P w = .ok #[] w:=by
  cases A with
  | none=>simp[Builtin.firstCells]
  | some a =>
    have:=run_loadCells_list (P:=P) w a [] (fun j v hj=>by simp at hj)
    simpa [Builtin.firstCells] using this
theorem bH{α:Type}{base sz:Nat}{e t:TypeId}{R:World→α→List Value→Prop}{w:World}{A:Option Addr}{n c g:Nat}{xs:List α}(hb:∃ cs fr,w.heap[g]? = some (.cells cs t fr))(h:b6 base e sz R w (.slice A n c) xs)(ht:(t==e)=false) : g∉ob A:=by
  obtain⟨cs,fr,hb⟩:=hb
  exact eB hb h ht
theorem cK{β:Type}{base2 sz2:Nat}{e2:TypeId}{R2:World→β→List Value→Prop}{A A2 B:Option Addr}{w wY:World}{n c:Nat}{ys:List β}(hat:∀ g,g∈ob A2→g∈ob A∨w.heap.size≤g)(h1:∀ x,x∈ob A→x∉ob B)(hY:b6 base2 e2 sz2 R2 wY (.slice B n c) ys)(hs:wY.heap.size≤w.heap.size) : ∀ x,x∈ob A2→x∉ob B:=fun x hx=>by
  rcases hat x hx with h|h
  · exact h1 x h
  · exact fun hb=>by have:=tZ hY x hb;omega
theorem bU{A B:Option Addr}(h:∀ x,x∈ob A→x∉ob B) : ∀ x,x∈ob B→x∉ob A:=fun x hx hy=>h x hy hx
section
variable {P:Program}{n:Nat}{D:List Deferred}{F:Fr}{w:World}{K:Fr→World→Prop}{Q:Exit→Act→World→Prop}{d:Option Tmp}{t:TypeId}{s:String}{af:Array Edge}{gu:Option (Nat × Bool)}
theorem vc{α:Type}{R:World→α→List Value→Prop}{x y:Operand}{e:TypeId}{base m c:Nat}{A:Option Addr}{xs ys:List α}{mm:Md}{e' ty:TypeId}{u:Value}(z:Value)(sz bytes:Nat)(HO:b6 base e sz R w (.slice A m c) xs)(HY:aB mm e' sz R w u ys)
    (hone:∀ x cs,R w x cs→∀ v,v∈cs→v.oneCell'=true) (hRU:∀ w',az (ob A++[]) w w'→∀ x cs,R w x cs→R w' x cs)
    (hl:xs.length+ys.length≤4611686018427387904) (hmul:(xs.length+ys.length)*bytes≤140737488355328) (hbase:base≤w.heap.size) (h:∀ A' c' w',b6 base e sz R w' (.slice A' (xs++ys).length c') (xs++ys)→az (ob A++[]) w w'→(∀ g,g∈ob A'→g∈ob A∨w.heap.size≤g)→K (pt d (.slice A' (xs++ys).length c') F) w')
    (hx:dQ F x=some (.slice A m c):=by kernel_rfl) (hy':dQ F y=some u:=by kernel_rfl) (he:kZ P ty=some e:=by kernel_rfl) (hs:(lG P ty,z.cells.size,(eR n d&&Nat.ble bytes 65536)&&Nat.blt 0 sz)=(some (some z,sz,bytes),sz,true):=by kernel_rfl) : OG P ⟨d,.call { callee:=.builtin .append,args:=#[x,y],argTypes:=#[ty,ty] },t,s,af,gu⟩ n D F w K Q:=by
  by_cases hne:ys=[]
  · subst hne
    simp only[Prod.mk.injEq] at hs
    have h3:=ee (ee hs.2.2).1
    obtain⟨A0,c0,e0,hc1,_⟩:=HO.rd.shape
    have e0:=e0.symm
    injection e0 with e1 e2 e3
    subst e2
    subst e1 e3
    obtain⟨B,cB,rfl,_,_⟩:=HY.shape
    have hinf:(P.info? e).map (fun i=>(i.zero,i.size,i.bytes))=some (some z,sz,bytes):=by have:=hs.1;unfold lG at this;rw[he] at this;exact this
    obtain⟨i0,hi,hz0,hz1,hz2⟩:=info_parts hinf
    have hsr:Src P i0.size ty (.slice B 0 cB) 0 [] w:=⟨.inl ⟨e,dI he⟩,fun w'=>by simp[Builtin.lenOf],jU w,jU w.drew,by simp,fun u hu=>by cases hu⟩
    have hr:=run_append_nothing w ty ty t _ i0 (dI he) hi A0 xs.length c0 hc1 _ hsr
    refine⟨fun a ha K' hK=>OW.mk ?_⟩
    have hx':=ha.ev hx
    have hy2:=ha.ev hy'
    simp only[List.length_nil] at hy2
    unfold Oper.wp execOp
    simp only[resolve,invoke,builtin,Sem.run_bind,Sem.run_pure,Result.andThen_ok,List.map_toArray,List.map_cons,List.map_nil,hx',hy2,hr]
    refine hK _ _ _ (h A0 c0 w (by rw[List.append_nil];exact HO) (az.mono (S':=ob A0++[]) (az.refl [] w) (fun x hx=>by cases hx)) (fun g hg=>.inl hg)) ?_
    rw[List.append_nil]
    exact ha.put h3.1
  · have hy:0<ys.length:=by
      cases ys with
      | nil=>exact absurd rfl hne
      | cons a r=>simp
    simp only[Prod.mk.injEq] at hs
    have h2:=ee hs.2.2
    have h3:=ee h2.1
    exact⟨fun a ha K' hK=>lL z sz bytes rfl rfl (dI he) (by have:=hs.1;unfold lG at this;rw[he] at this;exact this) hs.2.1 (by simpa using h2.2) xs (ha.ev hx) HO u ys (ha.ev hy') HY hy hone hRU hl hmul hbase fun A' c' w' hO hu hat=>hK _ _ _ (h A' c' w' hO hu hat) (ha.put h3.1)⟩
theorem tQ{α:Type}{R:World→α→List Value→Prop}{x y:Operand}{e:TypeId}{base m c:Nat}{A:Option Addr}{xs ys:List α}{mm:Md}{e' ty:TypeId}{u:Value}(z:Value)(sz bytes:Nat)(HO:b6 base e sz R w (.slice A m c) xs)(HY:aB mm e' sz R w u ys)
    (hone:∀ x cs,R w x cs→∀ v,v∈cs→v.oneCell'=true) (hRU:∀ w',az (ob A++[]) w w'→∀ x cs,R w x cs→R w' x cs)
    (hl:xs.length+ys.length≤4194304) (hbase:base≤w.heap.size) (h:∀ A' c' w',b6 base e sz R w' (.slice A' (xs++ys).length c') (xs++ys)→az (ob A++[]) w w'→(∀ g,g∈ob A'→g∈ob A∨w.heap.size≤g)→K (pt d (.slice A' (xs++ys).length c') F) w')
    (hx:dQ F x=some (.slice A m c):=by kernel_rfl) (hy':dQ F y=some u:=by kernel_rfl) (he:kZ P ty=some e:=by kernel_rfl) (hs:(lG P ty,z.cells.size,(eR n d&&Nat.ble bytes 65536)&&Nat.blt 0 sz)=(some (some z,sz,bytes),sz,true):=by kernel_rfl) : OG P ⟨d,.call { callee:=.builtin .append,args:=#[x,y],argTypes:=#[ty,ty] },t,s,af,gu⟩ n D F w K Q:=by
  have hb:bytes≤65536:=by
    simp only[Prod.mk.injEq] at hs
    simpa using (ee (ee hs.2.2).1).2
  exact vc z sz bytes HO HY hone hRU (by omega) (Nat.le_trans (Nat.mul_le_mul hl hb) (by decide)) hbase h hx hy' he hs
end
end Go.Proofs.YtogbnemojakcpaaGreat
namespace Go.Proofs.YtogbnemojakcpaaGreat
end Go.Proofs.YtogbnemojakcpaaGreat
