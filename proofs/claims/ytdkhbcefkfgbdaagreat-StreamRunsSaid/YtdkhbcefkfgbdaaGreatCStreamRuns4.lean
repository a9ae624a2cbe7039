/- Contracts of functions, part CStreamRuns4. -/
import Derived.Test.YtdkhbcefkfgbdaaGreatCStreamRuns1
import Derived.Test.YtdkhbcefkfgbdaaGreatCStreamRuns2
import Derived.Test.YtdkhbcefkfgbdaaGreatCStreamRuns3
import Derived.Lib.SlBytesConst
set_option linter.unusedVariables false
set_option linter.unusedSimpArgs false
set_option maxRecDepth 100000
set_option maxHeartbeats 4000000
namespace Go.Proofs.YtdkhbcefkfgbdaaGreat
open Go.RowKit
theorem y8{P:Program}{w:World}{t e:TypeId}{g n c:Nat}{C:Array Value}(ht:P.underlying t=some (.slice e))(he:P.underlying e=some (.int .u8))(hb:w.heap[g]? = some (.cells C e (0,0))) :
    ∃ w2,(convert t t (.slice (some ⟨g,0,none⟩) n c)).run P w = .ok (.slice (some ⟨g,0,none⟩) n c) w2∧w2.heap[g]? = some (.cells C e (C.size,C.size+1))∧aD [g] w w2:=by
  have hsh:w.shape? g=some (e,C.size):=by
    unfold World.shape?
    rw[hb]
  refine⟨w.freeze ⟨g,C.size,none⟩ 1,?_,?_,?_⟩
  · simp[convert,run_underlying ht,run_underlying he,markStringish,hsh]
  · unfold World.freeze
    rw[if_neg (by decide)]
    simp[Array.getElem?_modify,hb]
  · unfold World.freeze
    rw[if_neg (by decide)]
    refine⟨rfl,rfl,rfl,by simp,fun k hk hn=>?_⟩
    have hne:¬ g=k:=fun q=>hn (by rw[q];exact List.mem_singleton.2 rfl)
    simp[Array.getElem?_modify,hne]
theorem yO{w:World}{g:Nat}{C:Array Value}{fr:Nat × Nat}{xs:List Int}(hb:w.heap[g]? = some (.cells C 5 fr))(hC:C=(xs.map (Value.int .u8)).toArray)(hr:∀ x,x∈xs→0≤x∧x<256)(hl:xs.length≤4194304) : aO true w (.slice (some ⟨g,0,none⟩) xs.length xs.length) xs:=by
  refine⟨_,xs.length,rfl,Nat.le_refl _,by unfold maxLen;omega,(fun h=>by cases h),fun _=>⟨g,0,C,_,fr,rfl,hb,(fun _=>⟨rfl,Nat.zero_le _⟩),fun j x hj=>?_⟩⟩
  refine⟨[.int .u8 x],rfl,⟨rfl,hr x (List.mem_of_getElem? hj)⟩,fun i u hi=>?_⟩
  cases i with
  | succ i=>simp at hi
  | zero =>
    have hi:Value.int .u8 x=u:=by simpa using hi
    subst hi
    subst hC
    simp only[Nat.zero_add,Nat.mul_one,Nat.add_zero]
    rw[List.getElem?_toArray,List.getElem?_map,hj]
    rfl
section
variable {P:Program}{n:Nat}{D:List Deferred}{F:Fr}{w:World}{K:Fr→World→Prop}{Q:Exit→Act→World→Prop}{d:Option Tmp}{t:TypeId}{s:String}{af:Array Edge}{gu:Option (Nat × Bool)}
theorem Ci{ty e:TypeId}{x:Operand}{g m c:Nat}{C:Array Value}(hb:w.heap[g]? = some (.cells C e (0,0)))(h:∀ w',w'.heap[g]? = some (.cells C e (C.size,C.size+1))→aD [g] w w'→K (pt d (.slice (some ⟨g,0,none⟩) m c) F) w')
    (hx:ee F x=some (.slice (some ⟨g,0,none⟩) m c):=by kernel_rfl) (hs:(pm P ty,P.underlying e,f8 n d)=(some e,some (.int .u8),true):=by kernel_rfl) : OG P ⟨d,.convert ty ty x,t,s,af,gu⟩ n D F w K Q:=by
  simp only[Prod.mk.injEq] at hs
  obtain⟨h1,h2,h3⟩:=hs
  obtain⟨w2,hr,hB,hu⟩:=y8 (n:=m) (c:=c) (eD h1) h2 hb
  refine⟨fun a ha K' hK=>OW.mk ?_⟩
  have hx':=ha.ev hx
  unfold Oper.wp execOp
  simp only[hx',Sem.run_bind,Sem.run_pure,hr,Result.andThen_ok]
  exact hK _ _ _ (h w2 hB hu) (ha.put h3)
end
open Go.RowKit
structure SA where
  dir:Int
  held:List Int
abbrev Dn (S:SA) (A:Option Addr) (cp:Nat) : Array Value:=#[.int .i64 S.dir,.slice A S.held.length cp]
abbrev yh (w:World) (g:Nat) (S:SA) (A:Option Addr) (cp:Nat) : Prop:=w.heap[g]? = some (.cells (Dn S A cp) 95 (0,0))
def SA.tail (d:Int)(h:List Int) : SA × List Ev:=if decide (513<((h.length:Nat) : Int))=true then (⟨d,[]⟩,[Ev.bad 3]) else if g9 h [13,10]=true then (⟨d,[]⟩,[Ev.mk (dZ d h).2 (dZ d h).1]) else (⟨d,h⟩,[])
def SA.byte (S:SA)(c:Int) : SA × List Ev:=if ((c==58)&&(decide (0<((S.held.length:Nat) : Int))))=true then (⟨S.dir,[58]⟩,[Ev.bad 12]) else if ((c != 58)&&(((S.held.length:Nat) : Int)==0))=true then (S,[]) else SA.tail S.dir (S.held++[c])
def SA.feed (S:SA)(b:List Int) : SA × List Ev:=b.foldl (fun p c=>((p.1.byte c).1,p.2++(p.1.byte c).2)) (S,[])
def SA.ok (S:SA) : Prop:=(∀ x,x∈S.held→0≤x∧x<256)∧S.held.length≤513
theorem SA.ok_le{S:SA}(h:S.ok) : S.held.length≤513:=h.2
theorem SA.byte_ok{S S2:SA}{c:Int}{L2:List Ev}(h:S.ok)(hc:0≤c∧c<256)(hx:S.byte c=(S2,L2)) : S2.ok∧L2.length≤1:=by
  have h0:∀ d,(SA.mk d []).ok:=fun d=>⟨fun x hx=>(by cases hx),Nat.zero_le _⟩
  unfold SA.byte at hx
  split at hx
  · injection hx with e1 e2
    subst e1 e2
    exact⟨⟨fun x hx=>(by rw[List.mem_singleton] at hx;rw[hx];decide),(by show 1≤513;decide)⟩,Nat.le_refl _⟩
  split at hx
  · injection hx with e1 e2
    subst e1 e2
    exact⟨h,Nat.zero_le _⟩
  unfold SA.tail at hx
  split at hx
  · injection hx with e1 e2
    subst e1 e2
    exact⟨h0 _,Nat.le_refl _⟩
  rename_i hl
  split at hx
  · injection hx with e1 e2
    subst e1 e2
    exact⟨h0 _,Nat.le_refl _⟩
  · injection hx with e1 e2
    subst e1 e2
    refine⟨⟨fun x hx=>?_,?_⟩,Nat.zero_le _⟩
    · rcases List.mem_append.1 hx with k | k
      · exact h.1 x k
      · rw[List.mem_singleton] at k;rw[k];exact hc
    · simp only[decide_eq_true_eq] at hl
      show(S.held++[c]).length≤513
      omega
theorem jc{S0 T T2:SA}{L L2:List Ev}{b:List Int}{k:Nat}(hk:k<b.length)(h:(T,L)=S0.feed (b.take k))(hx:T.byte (b.getD k 0)=(T2,L2)) : (T2,L++L2)=S0.feed (b.take (k+1)):=by
  rw[List.take_succ_eq_append_getElem hk]
  unfold SA.feed at h ⊢
  rw[List.foldl_append,← h]
  rw[List.getD_eq_getElem?_getD,List.getElem?_eq_getElem hk] at hx
  simp only[Option.getD_some] at hx
  simp only[List.foldl_cons,List.foldl_nil,hx]
theorem oo{S0 T T2:SA}{L:List Ev}{b:List Int}{k:Nat}(hk:k<b.length)(h:(T,L)=S0.feed (b.take k))(hx:T.byte (b.getD k 0)=(T2,[])) : (T2,L)=S0.feed (b.take (k+1)):=by
  have:=jc hk h hx
  rwa [List.append_nil] at this
theorem Bp{T:SA}{c:Int}(h:((c==58)&&(decide (0<((T.held.length:Nat) : Int))))=true) : T.byte c=(⟨T.dir,[58]⟩,[Ev.bad 12]):=by unfold SA.byte;rw[if_pos h]
theorem BA{T:SA}{c:Int}(h:((c==58)&&(decide (0<((T.held.length:Nat) : Int))))=false)(h2:((c != 58)&&(((T.held.length:Nat) : Int)==0))=true) : T.byte c=(T,[]):=by unfold SA.byte;rw[if_neg (by rw[h];decide),if_pos h2]
theorem Bz{T:SA}{c:Int}(h:((c==58)&&(decide (0<((T.held.length:Nat) : Int))))=false)(h2:((c != 58)&&(((T.held.length:Nat) : Int)==0))=false)(h3:decide (513<(((T.held++[c]).length:Nat) : Int))=true) : T.byte c=(⟨T.dir,[]⟩,[Ev.bad 3]):=by unfold SA.byte;rw[if_neg (by rw[h];decide),if_neg (by rw[h2];decide)];unfold SA.tail;rw[if_pos h3]
theorem zi{T:SA}{c:Int}{F:bq}{E:Int}(h:((c==58)&&(decide (0<((T.held.length:Nat) : Int))))=false)(h2:((c != 58)&&(((T.held.length:Nat) : Int)==0))=false)(h3:decide (513<(((T.held++[c]).length:Nat) : Int))=false)(h4:g9 (T.held++[c]) [13,10]=true)(hX:dZ T.dir (T.held++[c])=(F,E)) : T.byte c=(⟨T.dir,[]⟩,[Ev.mk E F]):=by unfold SA.byte;rw[if_neg (by rw[h];decide),if_neg (by rw[h2];decide)];unfold SA.tail;rw[if_neg (by rw[h3];decide),if_pos h4,hX]
theorem BH{T:SA}{c:Int}(h:((c==58)&&(decide (0<((T.held.length:Nat) : Int))))=false)(h2:((c != 58)&&(((T.held.length:Nat) : Int)==0))=false)(h3:decide (513<(((T.held++[c]).length:Nat) : Int))=false)(h4:g9 (T.held++[c]) [13,10]=false) : T.byte c=(⟨T.dir,T.held++[c]⟩,[]):=by unfold SA.byte;rw[if_neg (by rw[h];decide),if_neg (by rw[h2];decide)];unfold SA.tail;rw[if_neg (by rw[h3];decide),if_neg (by rw[h4];decide)]
def Dr (base n0:Nat)(S2:SA)(L:List Ev)(g:Nat)(A:Option Addr)(w:World)(e:Ending)(w':World) : Prop:=∃ v A2 cp2 n2,e = .returned v∧cZ n2 w.heap.size w' v L∧yh w' g S2 A2 cp2∧du base w' (.slice A2 S2.held.length cp2) S2.held∧(∀ x,x∈ob A2→x∈ob A∨w.heap.size≤x)∧(n0≤n2∧n2≤w'.heap.size)∧(∀ x,x∈ob A2→n2≤x)∧aD (g :: (ob A++[])) w w'
theorem jB{b:List Int}(h:∀ x,x∈b→0≤x∧x<256)(k:Nat) : 0≤b.getD k 0∧b.getD k 0<256:=by
  rw[List.getD_eq_getElem?_getD]
  cases hj:b[k]? with
  | none=>simp
  | some x=>exact h x (List.mem_of_getElem? hj)
theorem t1{w:World}:Calls Tryz.prog 21 #[vI 0] w (fun e w'=>∃ g,e = .returned (vP g 0)∧w.heap.size≤g∧yh w' g ⟨0,[]⟩ none 0∧aD [] w w'):=by
 exact en 12 Tryz.func21 rfl<|ax 1<|sq<|ax 6<|c0<|sk<|tn<|ak 2<|L0<|dK #[vI 0,nS] fun a f b c d=>aj 1<|rt<|rr (vP a 0)<|⟨a,rfl,b,c,d⟩
theorem sZ{w:World}:Calls Tryz.prog 21 #[vI 1] w (fun e w'=>∃ g,e = .returned (vP g 0)∧w.heap.size≤g∧yh w' g ⟨1,[]⟩ none 0∧aD [] w w'):=by
 exact en 12 Tryz.func21 rfl<|ax 1<|sq<|ax 6<|c0<|sk<|tn<|ak 2<|L0<|dK #[vI 1,nS] fun a f b c d=>aj 1<|rt<|rr (vP a 0)<|⟨a,rfl,b,c,d⟩
theorem tQ{w:World}{g:Nat}{S:SA}{A:Option Addr}{cp:Nat}(hb:yh w g S A cp)(hr:aO true w (.slice A S.held.length cp) S.held) : Calls Tryz.prog 24 #[vP g 0] w (bD (vI (S.held.length:Int)) w):=by
 have hcm:=aI.len hr
 exact en 8 Tryz.func24 rfl<|ak 1<|aL 3<|aH hb 1<|aj 2<|rt<|rr (vI (S.held.length:Int))<|⟨rfl,(aD.refl [] _)⟩
theorem qI{w:World}{g base:Nat}{S:SA}{A:Option Addr}{cp:Nat}{m:Md}{B:Option Addr}{cpb:Nat}{b:List Int}(hb:yh w g S A cp)(ho:du base w (.slice A S.held.length cp) S.held)(hbs:base≤w.heap.size)(hok0:S.ok){n0:Nat}(hn0:n0≤w.heap.size)(hlo:∀ x,x∈ob A→n0≤x)(hsl:aO m w (.slice B b.length cpb) b)(hdg:0<b.length→∀ x,x∈ob B→x≠g)(hda:ms b.length B (ob A))(hbl:b.length≤1048576) :
    Calls Tryz.prog 22 #[vP g 0,.slice B b.length cpb] w (Dr base n0 (S.feed b).1 (S.feed b).2 g A w):=by
 have hdl:=aI.low hsl
 have hok0l:=SA.ok_le hok0
 have hrb:=aO.range hsl
 refine en 98 Tryz.func22 rfl<|ax 1<|Dh<|ax 1<|sq<|Dm<|tn<|sq<|ax 3<|bk<|?_
 refine fE (fun x=>[(0,vP g 0),(4,nS),(5,.slice x.2.2.2.2.2.1 x.2.2.1.length x.2.2.2.2.2.2.1),(10,.slice B b.length cpb),(11,vI (b.length:Int)),(12,vI (x.1:Int))]) (fun(x:Nat × SA × List Ev × Option Addr × Nat × Option Addr × Nat × Nat) w'=>aD (g :: (ob A++[])) w w'∧yh w' g x.2.1 x.2.2.2.1 x.2.2.2.2.1∧du base w' (.slice x.2.2.2.1 x.2.1.held.length x.2.2.2.2.1) x.2.1.held∧cZ x.2.2.2.2.2.2.2 w.heap.size w' (.slice x.2.2.2.2.2.1 x.2.2.1.length x.2.2.2.2.2.2.1) x.2.2.1∧x.2.2.2.2.2.2.2≤w'.heap.size∧aO m w' (.slice B b.length cpb) b∧((x.2.1,x.2.2.1)=S.feed (b.take x.1))∧(x.2.1.ok)∧(x.2.1.held.length≤513)∧(x.1≤b.length)∧(x.2.2.1.length≤x.1)∧(∀ y,y∈ob x.2.2.2.1→y∈ob A∨w.heap.size≤y)∧(n0≤x.2.2.2.2.2.2.2)∧(∀ y,y∈ob x.2.2.2.1→x.2.2.2.2.2.2.2≤y)) (fun x=>b.length-x.1) (0,S,[],A,cp,none,0,n0) ⟨aD.refl _ _,hb,ho,(aQ.nil w.heap.size _ _ (bz w.heap.size n0) _),(Nat.le_trans hn0 lr),hsl,rfl,hok0,hok0l,(by(try dsimp only);exact Nat.zero_le _),(by(try dsimp only);exact Nat.zero_le _),iY,(by(try dsimp only);exact Nat.le_refl _),hlo⟩ ?_
 rintro⟨k,T,L,Ah,ch,Bq,cq,n⟩ M ⟨d,c9,ca,cc,cd,cf,cg,ci,cj,ck,cl,cm,cn,co⟩
 refine eH [(0,vP g 0),(4,nS),(5,.slice Bq L.length cq),(10,.slice B b.length cpb),(11,vI (b.length:Int)),(12,vI (k:Int))] ?_
 have f:yh M g T Ah ch:=c9
 have t:du base M (.slice Ah T.held.length ch) T.held:=ca
 have a:cZ n w.heap.size M (.slice Bq L.length cq) L:=cc
 have cr:n≤M.heap.size:=cd
 have hnl:=cr
 have D:aO m M (.slice B b.length cpb) b:=cf
 have ct:(T,L)=S.feed (b.take k):=cg
 have cu:T.ok:=ci
 have dQ:T.held.length≤513:=cj
 have dR:k≤b.length:=ck
 have dS:L.length≤k:=cl
 have cv:∀ y,y∈ob Ah→y∈ob A∨w.heap.size≤y:=cm
 have cw:n0≤n:=cn
 have cx:∀ y,y∈ob Ah→n≤y:=co
 have hlow:=cx
 have hn0l:=cw
 have hat0:=cv
 have hok:=cu
 have hpj:=ct
 have hle:=SA.ok_le hok
 refine ax 1<|sq<|cb ((decide ((k:Int)<(b.length:Int)))) (fun ab=>?_) (fun ab=>?_)
 have cy:=of_decide_eq_true ab
 refine bp<|sq<|bk<|sg<|ea (aO.at_ D k (by omega)) fun cA cB cC cE dT=>L0<|iV b.length k cC (by omega)<|L0<|dX (p:=⟨cA,cB+k,none⟩) (v:=vB (b.getD k 0)) cE<|aj 1<|sq<|bk<|ak 3<|cV 7 [19] 26 19 ((b.getD k 0)==58) (decide (0<(T.held.length:Int))) (fun K cF cG=>?_) ?_
 have dU:=am cG
 exact Pl 3<|L1<|dp f 1<|Pl 3<|ce cF _ rfl
 refine aj 1<|cb ((((b.getD k 0)==58)&&(decide (0<(T.held.length:Int))))) (fun r=>?_) (fun r=>?_)
 have cH:=(aR r).1
 have cI:=(aR r).2
 have dV:=am cH
 have dW:=of_decide_eq_true cI
 refine ak 2<|L0<|ep (m:=1) (e:=87) #[vI 12,vB 0,vW 0,vB 0,vB 0,vW 0,vW 0,vW 0,vW 0,vW 0,vW 0,vW 0,vW 0,vW 0,vW 0,nS,nS,nS,nS,vB 0,vB 0,vB 0,vB 0,vB 0,nS] fun e0 ad cJ cK l=>?_
 have cL:=f5 (m:=.hi w.heap.size) (w0:=M) (x:=(Ev.bad 12)) cJ cK ⟨⟨none,0,none,0,none,0,none,0,none,0⟩,by kernel_rfl,dY,(show(0:Int)≤0∧(0:Int)<256 from by decide),(show(0:Int)≤0∧(0:Int)<65536 from by decide)⟩
 have bb:=ai a l (fun x hx=>ay) (fun x cs q=>bz.upd l bW q)
 have cM:n≤ad.heap.size:=Nat.le_trans hnl l.size
 refine L0<|eb (R:=bz w.heap.size ad.heap.size) (xs:=L) (ys:=([Ev.bad 12])) (.agg #[vI 0,vB 0,vW 0,vB 0,vB 0,vW 0,vW 0,vW 0,vW 0,vW 0,vW 0,vW 0,vW 0,vW 0,vW 0,nS,nS,nS,nS,vB 0,vB 0,vB 0,vB 0,vB 0,nS]) 25 168 (cZ.up cM (Nat.le_refl _) bb) (pV cL).rd bz.ones (fun w' hv x cs q=>bz.upd hv (iW bb (by decide) bW) q) (by(try simp only[cD,aN]);omega) (le d.size l.size) fun cN cP e1 bc E e3=>Pl 1<|aL 1<|L0<|ep (m:=1) (e:=5) #[vB 58] fun bd e4 cQ cR ae=>?_
 have V:=kv cQ (xs:=[58]) (by as_aux_lemma=>kernel_rfl) (aV (by omega) dc) (by(try simp only[List.length_cons,List.length_nil]);omega) cR
 refine Pl 2<|?_
 have be:=ut (aD.mono (S':=(ob Bq++[])) l aA) (aM E ae) (aB il aA)
 refine L0<|bI (aD.blk be (aZ (aG (ag hb) lr a) ay) f) 1 #[vI T.dir,.slice (some ⟨bd,0,none⟩) 1 1] fun e5 cT W=>nt<|xt<|BR<|tx<|bx<|tn<|go<|b6 ((k:Int)+1)<|Pl 1<|nl<|?_
 have bf:=u1 (aD.mono (S':=(ob Bq++(g :: []))) be (aB il aA)) W im
 have bg:=uz ae W
 have bh:=Bp (T:=T) (c:=(b.getD k 0)) r
 have bi:=SA.byte_ok hok (jB hrb k) bh
 exact dH ((k+1),(SA.mk T.dir [58]),(L++[Ev.bad 12]),some ⟨bd,0,none⟩,1,cN,cP,ad.heap.size) ⟨(ut d bf (aB (bE a lr) (ac im aA))),cT,(we (Nat.le_trans hbs (le (le d.size l.size) E.size)) (ai V W (fun x hx=>(aa (fun e=>(aG (ag hb) (le (le d.size l.size) E.size) V) (e▸hx)) ay)) (fun _ _ h=>h))),(ai bc bg (fun x hx=>(aa (fun e=>(aG (ag hb) lr bc) (e▸hx)) ay)) (fun x cs q=>bz.upd bg (fe (aD.blk (ut (aD.mono (S':=(ob Bq++[])) l aA) E (aB il aA)) (aZ (aG (ag hb) lr a) ay) f) (by decide) bW) q)),(le (le E.size ae.size) W.size),(aO.far D bf (dC (fG hdl a (Nat.le_refl _)) (ef hdg eR))),(by(try dsimp only);exact jc (by omega) hpj bh),(by(try dsimp only);exact bi.1),(by(try dsimp only);have q:=SA.ok_le bi.1;exact q),(by(try dsimp only);omega),(by(try dsimp only);(try simp only[cD]);omega),(by(try dsimp only);exact(yL V (le (le d.size l.size) E.size))),(by(try dsimp only);exact Nat.le_trans hn0l (Nat.le_trans hnl l.size)),(by(try dsimp only);exact(yj V E.size))⟩ (by omega)
 refine ak 3<|cV 7 [38] 45 38 ((b.getD k 0)!=58) ((T.held.length:Int)==0) (fun K cU cW=>?_) ?_
 have e6:=av cW
 exact Pl 3<|L1<|dp f 1<|Pl 3<|ce cU _ rfl
 refine aj 1<|cb ((((b.getD k 0)!=58)&&((T.held.length:Int)==0))) (fun u=>?_) (fun u=>?_)
 have cX:=(aR u).1
 have cY:=(aR u).2
 have e7:=av cX
 have e8:=am cY
 refine xt<|BR<|tx<|bx<|tn<|go<|b6 ((k:Int)+1)<|Pl 1<|nl<|?_
 have bj:=BA (T:=T) (c:=(b.getD k 0)) r u
 have bl:=SA.byte_ok hok (jB hrb k) bj
 exact dH ((k+1),T,L,Ah,ch,Bq,cq,n) ⟨d,f,t,a,(Nat.le_trans hnl lr),D,(by(try dsimp only);exact oo (by omega) hpj bj),(by(try dsimp only);exact bl.1),(by(try dsimp only);have q:=SA.ok_le bl.1;exact q),(by(try dsimp only);omega),(by(try dsimp only);(try simp only[cD]);omega),(by(try dsimp only);exact hat0),(by(try dsimp only);exact hn0l),(by(try dsimp only);exact hlow)⟩ (by omega)
 refine sk<|bn<|tn<|ak 4<|aH f 1<|Pl 1<|L0<|ep (m:=1) (e:=5) #[vB (b.getD k 0)] fun e9 ec d0 d1 i=>?_
 have d2:=kv d0 (xs:=[(b.getD k 0)]) (by as_aux_lemma=>kernel_rfl) (aV (by omega) dc) (by(try simp only[List.length_cons,List.length_nil]);omega) d1
 refine L0<|eb (R:=ma) (xs:=T.held) (ys:=([(b.getD k 0)])) (vB 0) 1 1 (ai t i (fun x hx=>ay) (fun _ _ h=>h)) (d2).rd nO (fun _ _ _ _ h=>h) (by(try simp only[cD,aN]);omega) (Nat.le_trans hbs (le d.size i.size)) fun X Y ed bm z bo=>Pl 2<|?_
 have bq:=ut (aD.mono (S':=(ob Ah++[])) i aA) z (aB il aA)
 have br:=aD.blk bq (aZ (bU f t (by decide)) ay) f
 refine L0<|bI br 1 #[vI T.dir,.slice X ((T.held++[(b.getD k 0)]).length) Y] fun d3 O s=>nt<|sq<|bk<|ak 3<|aH O 1<|aj 3<|?_
 have N:=u1 (aD.mono (S':=(ob Ah++(g :: []))) bq (aB il aA)) s im
 have bs:=ut d N (aB (kD hat0 il lr) (ac im aA))
 refine cb ((decide (513<((T.held++[(b.getD k 0)]).length:Int)))) (fun F=>?_) (fun F=>?_)
 have d4:=of_decide_eq_true F
 refine go<|Pl 2<|L0<|ep (m:=1) (e:=87) #[vI 3,vB 0,vW 0,vB 0,vB 0,vW 0,vW 0,vW 0,vW 0,vW 0,vW 0,vW 0,vW 0,vW 0,vW 0,nS,nS,nS,nS,vB 0,vB 0,vB 0,vB 0,vB 0,nS] fun ee af d5 d6 al=>?_
 have d7:=f5 (m:=.hi w.heap.size) (w0:=d3) (x:=(Ev.bad 3)) d5 d6 ⟨⟨none,0,none,0,none,0,none,0,none,0⟩,by kernel_rfl,dY,(show(0:Int)≤0∧(0:Int)<256 from by decide),(show(0:Int)≤0∧(0:Int)<65536 from by decide)⟩
 have Z:=aM N al
 have bt:=ai a Z (fun x hx=>(aZ ((cz a t (by decide)) x hx) (aa (fun e=>(aG (ag hb) lr a) (e▸hx)) ay))) (fun x cs q=>bz.upd Z (gX hlow (fe f (by decide) bW)) q)
 have d8:n≤af.heap.size:=Nat.le_trans hnl Z.size
 refine L0<|eb (R:=bz w.heap.size af.heap.size) (xs:=L) (ys:=([Ev.bad 3])) (.agg #[vI 0,vB 0,vW 0,vB 0,vB 0,vW 0,vW 0,vW 0,vW 0,vW 0,vW 0,vW 0,vW 0,vW 0,vW 0,nS,nS,nS,nS,vB 0,vB 0,vB 0,vB 0,vB 0,nS]) 25 168 (cZ.up d8 (Nat.le_refl _) bt) (pV d7).rd bz.ones (fun w' hv x cs q=>bz.upd hv (iW bt (by decide) bW) q) (by(try simp only[cD,aN]);omega) (le (le (le (le d.size i.size) z.size) s.size) al.size) fun d9 da eg bu bv eh=>Pl 1<|nl<|bn<|tn<|go<|Pl 3<|?_
 have bw:=ut (aD.mono (S':=(ob Bq++[])) al aA) bv (aB il aA)
 have bA:=aD.blk bw (aZ (aG (ag hb) lr a) ay) O
 refine L0<|bI bA 1 #[vI T.dir,nS] fun ei db a0=>nl<|bn<|tn<|go<|b6 ((k:Int)+1)<|Pl 1<|nl<|?_
 have bC:=u1 (aD.mono (S':=(ob Bq++(g :: []))) bw (aB il aA)) a0 im
 have bD:=Bz (T:=T) (c:=(b.getD k 0)) r u F
 have bF:=SA.byte_ok hok (jB hrb k) bD
 exact dH ((k+1),(SA.mk T.dir []),(L++[Ev.bad 3]),none,0,d9,da,af.heap.size) ⟨(ut bs bC (aB (bE a lr) (ac im aA))),db,(aQ.nil base _ _ ma _),(ai bu a0 (fun x hx=>(aa (fun e=>(aG (ag hb) lr bu) (e▸hx)) ay)) (fun x cs q=>bz.upd a0 (fe bA (by decide) bW) q)),(le bv.size a0.size),(aO.far D (ut (aD.mono (S':=(ob Ah++(g :: (ob Bq++[])))) N (aB il (ac im aA))) bC (aB il (ac im aA))) (dC (fI hda hdl hat0) (ef hdg (dC (fG hdl a (Nat.le_refl _)) eR)))),(by(try dsimp only);exact jc (by omega) hpj bD),(by(try dsimp only);exact bF.1),(by(try dsimp only);have q:=SA.ok_le bF.1;exact q),(by(try dsimp only);omega),(by(try dsimp only);(try simp only[cD]);omega),(by(try dsimp only);exact eq),(by(try dsimp only);exact Nat.le_trans hn0l (Nat.le_trans hnl Z.size)),(by(try dsimp only);exact cS)⟩ (by omega)
 have d4:=of_decide_eq_false F
 refine ak 3<|aH O 1<|L0<|ep (m:=2) (e:=5) #[vB 13,vB 10] fun dd ej bG bH G=>?_
 have ek:=kv bG (xs:=[13,10]) (by as_aux_lemma=>kernel_rfl) (aV (by omega) (aV (by omega) dc)) (by(try simp only[List.length_cons,List.length_nil]);omega) bH
 refine L0<|Ci (m:=2) (c:=2) bH fun el de H=>?_
 have df:=yO de (xs:=[13,10]) (by as_aux_lemma=>kernel_rfl) (aV (by omega) (aV (by omega) dc)) (by(try simp only[List.length_cons,List.length_nil]);omega)
 have bJ:=ud G H bG
 have a1:=ai bm (aM s bJ) (fun x hx=>(aa (fun e=>(bU br bm (by decide)) (e▸hx)) ay)) (fun _ _ h=>h)
 refine az (args:=#[.slice X ((T.held++[(b.getD k 0)]).length) Y,.slice (some ⟨dd,0,none⟩) 2 2])<|m1 (y2 (xs:=(T.held++[(b.getD k 0)])) (ys:=[13,10]) (a1).rd df) fun em o=>aj 1<|?_
 have a2:=aM bJ o
 have an:=aM bs a2
 refine cb ((g9 (T.held++[(b.getD k 0)]) ([13,10]))) (fun a3=>?_) (fun a3=>?_)
 refine sq<|Rg 15 (fun w'=>w'.cell? ⟨g,0,none⟩=some (vI T.dir)∧w'.cell? ⟨g,1,none⟩=some (.slice X ((T.held++[(b.getD k 0)]).length) Y)) fun eo j=>?_
 have ao:=aM a2 j
 have a4:=ub ao O
 refine bB ⟨(ap a4 rfl),(ap a4 rfl)⟩ fun C=>Rt 0 C<|Rt 1 C<|Rt 2 C<|Rl 3 C (fun _ hs=>hs.1)<|Rt 4 C<|Rt 5 C<|Rt 6 C<|Rl 7 C (fun _ hs=>hs.2)<|R2 8 12 rfl rfl ?_ ?_
 refine pr (dZ T.dir (T.held++[(b.getD k 0)])) fun I a5 bK=>?_
 refine  Oc<|e2 (kc bK ((ai a1 (aM o j) (fun x hx=>ay) (fun _ _ h=>h))).rd (by simp only[cD,List.length_replicate];omega)) fun aq er dg a6=>?_
 obtain⟨dh,di,dj⟩:=dg
 have ar:=ub a6 a4
 refine bB ⟨(ap ar rfl),(ap ar rfl)⟩ fun au=>Rt 9 au<|Rt 10 au<|Rt 11 au<|R0 12 rfl<|zl #[vB 0,vW 0,vB 0,vB 0,vW 0,vW 0,vW 0,vW 0,vW 0,vW 0,vW 0,vW 0,vW 0,vW 0,nS,nS,nS,nS,vB 0,vB 0,vB 0,vB 0,vB 0,nS] fun es et bL dk aw=>?_
 have aE:=ub aw ar
 refine bB ⟨(ap aE rfl),(ap aE rfl)⟩ fun eu=>R0 13 rfl<|iX dk (k9 I.unit I.tid I.msg aq) fun dl dm aF=>?_
 have aJ:=aY aF (nb (ag hb) (le (le (le (le (le (le (le (le d.size i.size) z.size) s.size) G.size) H.size) o.size) j.size) a6.size) bL) aE
 refine bB ⟨(ap aJ rfl),(ap aJ rfl)⟩ fun dn=>Rt 14 dn<|re<|tn<|go<|Pl 2<|L0<|cO dm<|Pl 1<|L0<|ep (m:=1) (e:=87) (lV ⟨a5,I⟩ aq) fun ev aK dq dr aP=>?_
 have bM:=ud aw (aM aF aP) bL
 have ds:=f5 (m:=.hi w.heap.size) (w0:=dl) (x:=(Ev.mk a5 I)) dq dr ⟨aq,rfl,(aS.lo (aS.upd dh bM aC) (le (le (le (le (le (le (le d.size i.size) z.size) s.size) G.size) H.size) o.size) j.size)),di,dj⟩
 have bN:=aM a6 bM
 have P:=aM N (aM ao bN)
 have bO:=ai a P (fun x hx=>(aZ ((cz a t (by decide)) x hx) (aa (fun e=>(aG (ag hb) lr a) (e▸hx)) ay))) (fun x cs q=>bz.upd P (gX hlow (fe f (by decide) bW)) q)
 have dt:n≤aK.heap.size:=Nat.le_trans hnl P.size
 refine L0<|eb (R:=bz w.heap.size aK.heap.size) (xs:=L) (ys:=([Ev.mk a5 I])) (.agg #[vI 0,vB 0,vW 0,vB 0,vB 0,vW 0,vW 0,vW 0,vW 0,vW 0,vW 0,vW 0,vW 0,vW 0,vW 0,nS,nS,nS,nS,vB 0,vB 0,vB 0,vB 0,vB 0,nS]) 25 168 (cZ.up dt (Nat.le_refl _) bO) (pV ds).rd bz.ones (fun w' hv x cs q=>bz.upd hv (iW bO (by decide) bW) q) (by(try simp only[cD,aN]);omega) (le (le (le (le (le (le (le (le (le (le (le d.size i.size) z.size) s.size) G.size) H.size) o.size) j.size) a6.size) aw.size) aF.size) aP.size) fun dv dw ew bP bQ ex=>Pl 1<|nl<|bn<|tn<|go<|Pl 3<|?_
 have bR:=aD.blk (ut (aD.mono (S':=(ob Bq++[])) aP aA) bQ (aB il aA)) (aZ (aG (ag hb) lr a) ay) aJ
 refine L0<|bI bR 1 #[vI T.dir,nS] fun ey dx aT=>nl<|bn<|tn<|go<|b6 ((k:Int)+1)<|Pl 1<|nl<|?_
 have aU:=u1 (aD.mono (S':=(ob Bq++(g :: []))) bQ (aB il aA)) aT im
 have bS:=zi (T:=T) (c:=(b.getD k 0)) r u F a3 bK
 have bT:=SA.byte_ok hok (jB hrb k) bS
 exact dH ((k+1),(SA.mk T.dir []),(L++[Ev.mk a5 I]),none,0,dv,dw,aK.heap.size) ⟨(ut an (ut (aD.mono (S':=(ob Bq++(g :: []))) j aA) (ut (aD.mono (S':=(ob Bq++(g :: []))) bN aA) aU (aB il (ac im aA))) (aB il (ac im aA))) (aB (bE a lr) (ac im aA))),dx,(aQ.nil base _ _ ma _),(ai bP aT (fun x hx=>(aa (fun e=>(aG (ag hb) lr bP) (e▸hx)) ay)) (fun x cs q=>bz.upd aT (fe bR (by decide) bW) q)),aU.size,(aO.far D (ut (aD.mono (S':=(ob Ah++(g :: (ob Bq++[])))) P (aB il (ac im aA))) aU (aB il (ac im aA))) (dC (fI hda hdl hat0) (ef hdg (dC (fG hdl a (Nat.le_refl _)) eR)))),(by(try dsimp only);exact jc (by omega) hpj bS),(by(try dsimp only);exact bT.1),(by(try dsimp only);have q:=SA.ok_le bT.1;exact q),(by(try dsimp only);omega),(by(try dsimp only);(try simp only[cD]);omega),(by(try dsimp only);exact eq),(by(try dsimp only);exact Nat.le_trans hn0l (Nat.le_trans hnl P.size)),(by(try dsimp only);exact cS)⟩ (by omega)
 refine  zl #[vB 0,vW 0,vB 0,vB 0,vW 0,vW 0,vW 0,vW 0,vW 0,vW 0,vW 0,vW 0,vW 0,vW 0,nS,nS,nS,nS,vB 0,vB 0,vB 0,vB 0,vB 0,nS] fun dy ez aX dz Q=>?_
 have b0:=ub Q a4
 refine bB ⟨(ap b0 rfl),(ap b0 rfl)⟩ fun eA=>?_
 have bV:=aM j Q
 refine pr (dZ T.dir (T.held++[(b.getD k 0)])) fun J a7 bX=>?_
 refine R0 8 rfl<|Oc<|e2 (kc bX ((ai a1 (aM o bV) (fun x hx=>ay) (fun _ _ h=>h))).rd (by simp only[cD,List.length_replicate];omega)) fun b1 eB dA a8=>?_
 obtain⟨dB,dD,dE⟩:=dA
 have b2:=ub a8 b0
 refine bB ⟨(ap b2 rfl),(ap b2 rfl)⟩ fun b3=>Rt 9 b3<|Rt 10 b3<|Rt 11 b3<|?_
 have bY:=ub a8 dz
 refine R0 13 rfl<|iX bY (k9 J.unit J.tid J.msg b1) fun dF dG b4=>?_
 have b5:=aY b4 (nb (ag hb) (le (le (le (le (le (le (le d.size i.size) z.size) s.size) G.size) H.size) o.size) j.size) aX) b2
 refine bB ⟨(ap b5 rfl),(ap b5 rfl)⟩ fun dI=>Rt 14 dI<|re<|tn<|go<|Pl 2<|L0<|cO dG<|Pl 1<|L0<|ep (m:=1) (e:=87) (lV ⟨a7,J⟩ b1) fun eC b7 dJ dK b8=>?_
 have bZ:=aM b4 b8
 have dL:=f5 (m:=.hi w.heap.size) (w0:=dF) (x:=(Ev.mk a7 J)) dJ dK ⟨b1,rfl,(aS.lo (aS.upd dB bZ (ah (aW bY (by decide)) aC)) (le (le (le (le (le (le (le (le d.size i.size) z.size) s.size) G.size) H.size) o.size) j.size) Q.size)),dD,dE⟩
 have c0:=uz a8 bZ
 have U:=aM N (aM ao (ud Q c0 aX))
 have c1:=ai a U (fun x hx=>(aZ ((cz a t (by decide)) x hx) (aa (fun e=>(aG (ag hb) lr a) (e▸hx)) ay))) (fun x cs q=>bz.upd U (gX hlow (fe f (by decide) bW)) q)
 have dM:n≤b7.heap.size:=Nat.le_trans hnl U.size
 refine L0<|eb (R:=bz w.heap.size b7.heap.size) (xs:=L) (ys:=([Ev.mk a7 J])) (.agg #[vI 0,vB 0,vW 0,vB 0,vB 0,vW 0,vW 0,vW 0,vW 0,vW 0,vW 0,vW 0,vW 0,vW 0,vW 0,nS,nS,nS,nS,vB 0,vB 0,vB 0,vB 0,vB 0,nS]) 25 168 (cZ.up dM (Nat.le_refl _) c1) (pV dL).rd bz.ones (fun w' hv x cs q=>bz.upd hv (iW c1 (by decide) bW) q) (by(try simp only[cD,aN]);omega) (le (le (le (le (le (le (le (le (le (le (le d.size i.size) z.size) s.size) G.size) H.size) o.size) j.size) Q.size) a8.size) b4.size) b8.size) fun dN dO eD c2 c3 eE=>Pl 1<|nl<|bn<|tn<|go<|Pl 3<|?_
 have c4:=aD.blk (ut (aD.mono (S':=(ob Bq++[])) b8 aA) c3 (aB il aA)) (aZ (aG (ag hb) lr a) ay) b5
 refine L0<|bI c4 1 #[vI T.dir,nS] fun eF dP b9=>nl<|bn<|tn<|go<|b6 ((k:Int)+1)<|Pl 1<|nl<|?_
 have ba:=u1 (aD.mono (S':=(ob Bq++(g :: []))) c3 (aB il aA)) b9 im
 have c5:=zi (T:=T) (c:=(b.getD k 0)) r u F a3 bX
 have c6:=SA.byte_ok hok (jB hrb k) c5
 exact dH ((k+1),(SA.mk T.dir []),(L++[Ev.mk a7 J]),none,0,dN,dO,b7.heap.size) ⟨(ut an (ut (aD.mono (S':=(ob Bq++(g :: []))) bV aA) (ut (aD.mono (S':=(dy :: (ob Bq++(g :: [])))) c0 (ac im aA)) ba (aB il (ac im aA))) (ac (ni j.size aX) (aB il (ac im aA)))) (aB (bE a lr) (ac im aA))),dP,(aQ.nil base _ _ ma _),(ai c2 b9 (fun x hx=>(aa (fun e=>(aG (ag hb) lr c2) (e▸hx)) ay)) (fun x cs q=>bz.upd b9 (fe c4 (by decide) bW) q)),ba.size,(aO.far D (ut (aD.mono (S':=(ob Ah++(g :: (ob Bq++[])))) U (aB il (ac im aA))) ba (aB il (ac im aA))) (dC (fI hda hdl hat0) (ef hdg (dC (fG hdl a (Nat.le_refl _)) eR)))),(by(try dsimp only);exact jc (by omega) hpj c5),(by(try dsimp only);exact c6.1),(by(try dsimp only);have q:=SA.ok_le c6.1;exact q),(by(try dsimp only);omega),(by(try dsimp only);(try simp only[cD]);omega),(by(try dsimp only);exact eq),(by(try dsimp only);exact Nat.le_trans hn0l (Nat.le_trans hnl U.size)),(by(try dsimp only);exact cS)⟩ (by omega)
 refine xt<|BR<|tx<|bx<|tn<|go<|b6 ((k:Int)+1)<|Pl 1<|nl<|?_
 have a9:=aM N a2
 have c7:=BH (T:=T) (c:=(b.getD k 0)) r u F a3
 have c8:=SA.byte_ok hok (jB hrb k) c7
 exact dH ((k+1),(SA.mk T.dir (T.held++[(b.getD k 0)])),L,X,Y,Bq,cq,n) ⟨an,(ub a2 O),(ai a1 o (fun x hx=>ay) (fun _ _ h=>h)),(ai a a9 (fun x hx=>(aZ ((cz a t (by decide)) x hx) (aa (fun e=>(aG (ag hb) lr a) (e▸hx)) ay))) (fun x cs q=>bz.upd a9 (gX hlow (fe f (by decide) bW)) q)),(Nat.le_trans hnl a9.size),(aO.far D a9 (dC (fI hda hdl hat0) (ef hdg eR))),(by(try dsimp only);exact oo (by omega) hpj c7),(by(try dsimp only);exact c8.1),(by(try dsimp only);have q:=SA.ok_le c8.1;exact q),(by(try dsimp only);omega),(by(try dsimp only);(try simp only[cD]);omega),(by(try dsimp only);exact(jT bo hat0 (le d.size i.size))),(by(try dsimp only);exact hn0l),(by(try dsimp only);exact(rI bo hlow (Nat.le_trans hnl i.size)))⟩ (by omega)
 have cy:=of_decide_eq_false ab
 refine xt<|tx<|tx<|bx<|tn<|ax 2<|rt<|gr<|rr (.slice Bq L.length cq)<|?_
 have hs:S.feed b=(T,L):=by rw[hpj,List.take_of_length_le (by omega)]
 rw[hs]
 exact⟨_,Ah,ch,n,rfl,a,f,t,hat0,⟨hn0l,Nat.le_trans hnl lr⟩,hlow,d⟩
open Go.RowKit
def da (n base:Nat)(w:World)(g:Nat)(A:Option Addr)(cp:Nat)(S:SA) : Prop:=yh w g S A cp∧du base w (.slice A S.held.length cp) S.held∧S.ok∧n≤w.heap.size∧(∀ x,x∈ob A→n≤x)∧base≤w.heap.size
section
variable {n base g cp:Nat}{w w':World}{A:Option Addr}{S:SA}{X:List Nat}
theorem da.row(h:da n base w g A cp S) : du base w (.slice A S.held.length cp) S.held:=h.2.1
theorem da.low(h:da n base w g A cp S) : ∀ x,x∈ob A→n≤x:=h.2.2.2.2.1
theorem da.nle(h:da n base w g A cp S) : n≤w.heap.size:=h.2.2.2.1
theorem da.le(h:da n base w g A cp S) : S.held.length≤513:=SA.ok_le h.2.2.1
theorem da.lt(h:da n base w g A cp S) : g<w.heap.size:=ag h.1
theorem da.cells(h:da n base w g A cp S) : ∃ cs fr,w.heap[g]? = some (.cells cs 95 fr):=⟨_,_,h.1⟩
theorem da.upd(h:da n base w g A cp S)(hu:aD X w w')(hg:g∉X)(hr:∀ x,x∈ob A→x∉X) : da n base w' g A cp S :=
  ⟨hu.blk hg h.1,ai h.2.1 hu hr (fun _ _ q=>q),h.2.2.1,Nat.le_trans h.2.2.2.1 hu.size,h.2.2.2.2.1,Nat.le_trans h.2.2.2.2.2 hu.size⟩
end
theorem SA.feed_ok:∀ (b:List Int)(S:SA)(L:List Ev),S.ok→(∀ x,x∈b→0≤x∧x<256)→(b.foldl (fun(p:SA × List Ev) c=>((p.1.byte c).1,p.2++(p.1.byte c).2)) (S,L)).1.ok∧(b.foldl (fun(p:SA × List Ev) c=>((p.1.byte c).1,p.2++(p.1.byte c).2)) (S,L)).2.length≤L.length+b.length
  | [],S,L,h,_=>⟨h,Nat.le_refl _⟩
  | c :: t,S,L,h,hb=>by
    have k:=SA.byte_ok (S2:=(S.byte c).1) (L2:=(S.byte c).2) h (hb c (List.mem_cons_self ..)) rfl
    have q:=SA.feed_ok t (S.byte c).1 (L++(S.byte c).2) k.1 (fun x hx=>hb x (List.mem_cons_of_mem _ hx))
    refine⟨q.1,Nat.le_trans q.2 ?_⟩
    rw[List.length_append,List.length_cons]
    omega
theorem SA.feed_le{S S2:SA}{b:List Int}{L:List Ev}(h:S.ok)(hb:∀ x,x∈b→0≤x∧x<256)(hX:S.feed b=(S2,L)) : L.length≤b.length:=by
  have q:=(SA.feed_ok b S [] h hb).2
  have e:L=(S.feed b).2:=(congrArg Prod.snd hX).symm
  rw[e]
  rw[List.length_nil,Nat.zero_add] at q
  exact q
def CZ (n base:Nat)(S2:SA)(L:List Ev)(g:Nat)(A:Option Addr)(w:World)(e:Ending)(w':World) : Prop:=∃ v A2 cp2 n2,e = .returned v∧cZ n2 w.heap.size w' v L∧da n2 base w' g A2 cp2 S2∧(∀ x,x∈ob A2→x∈ob A∨w.heap.size≤x)∧n≤n2∧aD (g :: (ob A++[])) w w'
theorem qN{w:World}{n base g cp cpb nb:Nat}{S S2:SA}{L:List Ev}{A B:Option Addr}{m:Md}{b:List Int}(hX:S.feed b=(S2,L))(h:da n base w g A cp S)(hsl:aO m w (.slice B nb cpb) b)(hdg:0<nb→∀ x,x∈ob B→x≠g)(hda:ms nb B (ob A))(hbl:b.length≤1048576) :
    Calls Tryz.prog 22 #[.pointer (some ⟨g,0,none⟩),.slice B nb cpb] w (CZ n base S2 L g A w):=by
  obtain⟨h1,h2,h3,h4,h5,h6⟩:=h
  obtain rfl:nb=b.length:=by
    obtain⟨_,_,e,_⟩:=hsl.shape
    injection e
  refine(qI h1 h2 h6 h3 h4 h5 hsl hdg hda hbl).mono ?_
  rintro e w' ⟨v,A2,cp2,n2,he,k1,k2,k3,k4,⟨k5,k6⟩,k7,k8⟩
  have hok:=(SA.feed_ok b S [] h3 (aO.range hsl)).1
  rw[hX] at k1 k2 k3
  have e2:S2=(S.feed b).1:=(congrArg Prod.fst hX).symm
  exact⟨v,A2,cp2,n2,he,k1,⟨k2,k3,by rw[e2];exact hok,k6,k7,Nat.le_trans h6 k8.size⟩,k4,k5,k8⟩
theorem so(d:Int){w:World}(hq:Calls Tryz.prog 21 #[.int .i64 d] w (fun e w'=>∃ g,e = .returned (.pointer (some ⟨g,0,none⟩))∧w.heap.size≤g∧yh w' g ⟨d,[]⟩ none 0∧aD [] w w')) :
    Calls Tryz.prog 21 #[.int .i64 d] w (fun e w'=>∃ g,e = .returned (.pointer (some ⟨g,0,none⟩))∧w.heap.size≤g∧da w.heap.size w.heap.size w' g none 0 ⟨d,[]⟩∧aD [] w w'):=by
  refine hq.mono ?_
  rintro e w' ⟨g,he,h1,h2,h3⟩
  exact⟨g,he,h1,⟨h2,aQ.nil ..,⟨(fun x hx=>by cases hx),(show 0≤513 from by decide)⟩,h3.size,cS,h3.size⟩,h3⟩
theorem wO{w:World}{n base g cp:Nat}{S:SA}{A:Option Addr}(h:da n base w g A cp S) : Calls Tryz.prog 24 #[.pointer (some ⟨g,0,none⟩)] w (bD (.int .i64 ((S.held.length:Nat) : Int)) w):=tQ h.1 h.2.1.rd
open Go.RowKit
inductive XS where
  | r (S:SS)
  | a (S:SA)
  | m (S:SM)
def XS.zero (k d:Int) : XS:=bif k==0 then .r ⟨d,[],false⟩ else bif k==1 then .a ⟨d,[]⟩ else .m ⟨d,[],0⟩
def XS.feed:XS→List Int→XS × List Ev
  | .r S,b=>(.r (S.feed b).1,(S.feed b).2)
  | .a S,b=>(.a (S.feed b).1,(S.feed b).2)
  | .m S,b=>(.m (S.feed b).1,(S.feed b).2)
def XS.tick:XS→XS × List Ev
  | .r S=>(.r S.tick.1,S.tick.2)
  | .a S=>(.a S,[])
  | .m S=>(.m S,[])
def XS.take (S:XS)(b:List Int)(t:Bool) : XS × List Ev:=bif t then ((S.feed b).1.tick.1,(S.feed b).2++(S.feed b).1.tick.2) else S.feed b
def XS.held:XS→List Int
  | .r S=>S.held
  | .a S=>S.held
  | .m S=>S.held
def Dp:XS→TypeId
  | .r _=>107
  | .a _=>35
  | .m _=>25
def cJ (n base:Nat)(w:World)(g:Nat)(A:Option Addr)(c:Nat) : XS→Prop
  | .r S=>cQ n base w g A c S
  | .a S=>da n base w g A c S
  | .m S=>db n base w g A c S
abbrev Di (S:XS) (g:Nat) : Array Value:=#[.iface (Dp S) (.pointer (some ⟨g,0,none⟩))]
def bH (n base:Nat)(w:World)(s g:Nat)(A:Option Addr)(c:Nat)(S:XS) : Prop:=w.heap[s]? = some (.cells (Di S g) 112 (0,0))∧cJ n base w g A c S
section
variable {n base s g c:Nat}{w w':World}{A:Option Addr}{S:XS}{X:List Nat}
theorem cJ.row(h:cJ n base w g A c S) : du base w (.slice A 0 c) []:=by
  cases S with
  | r S=>exact h.2.1
  | a S=>exact sf h.2.1
  | m S=>exact sf h.2.1
theorem cJ.low(h:cJ n base w g A c S) : ∀ x,x∈ob A→n≤x:=by
  cases S with
  | r S=>exact h.2.2.2.1
  | a S=>exact h.2.2.2.2.1
  | m S=>exact h.2.2.2.2.1
theorem cJ.nle(h:cJ n base w g A c S) : n≤w.heap.size:=by
  cases S with
  | r S=>exact h.2.2.1
  | a S=>exact h.2.2.2.1
  | m S=>exact h.2.2.2.1
theorem cJ.ble(h:cJ n base w g A c S) : base≤w.heap.size:=by
  cases S with
  | r S=>exact h.2.2.2.2
  | a S=>exact h.2.2.2.2.2
  | m S=>exact h.2.2.2.2.2
theorem cJ.cells(h:cJ n base w g A c S) : ∃ t cs fr,w.heap[g]? = some (.cells cs t fr)∧ff.contains t=false∧(t==112)=false∧(t==5)=false:=by
  cases S with
  | r S=>obtain⟨cs,fr,k⟩:=cQ.cells h;exact⟨_,cs,fr,k,by decide,by decide,by decide⟩
  | a S=>exact⟨_,_,_,h.1,by decide,by decide,by decide⟩
  | m S=>exact⟨_,_,_,h.1,by decide,by decide,by decide⟩
theorem cJ.lt(h:cJ n base w g A c S) : g<w.heap.size:=by
  obtain⟨t,cs,fr,k,_⟩:=h.cells
  exact ag k
theorem cJ.upd(h:cJ n base w g A c S)(hu:aD X w w')(hg:g∉X)(hr:∀ x,x∈ob A→x∉X) : cJ n base w' g A c S:=by
  cases S with
  | r S=>exact cQ.upd h hu hg hr
  | a S=>exact da.upd h hu hg hr
  | m S=>exact db.upd h hu hg hr
theorem cJ.gA(h:cJ n base w g A c S) : g∉ob A:=by
  obtain⟨t,cs,fr,k,_,_,h2⟩:=h.cells
  exact bU k h.row h2
theorem bH.row(h:bH n base w s g A c S) : du base w (.slice A 0 c) []:=h.2.row
theorem bH.low(h:bH n base w s g A c S) : ∀ x,x∈ob A→n≤x:=h.2.low
theorem bH.nle(h:bH n base w s g A c S) : n≤w.heap.size:=h.2.nle
theorem bH.ble(h:bH n base w s g A c S) : base≤w.heap.size:=h.2.ble
theorem bH.lt(h:bH n base w s g A c S) : s<w.heap.size:=ag h.1
theorem bH.cells(h:bH n base w s g A c S) : ∃ cs fr,w.heap[s]? = some (.cells cs 112 fr):=⟨_,_,h.1⟩
theorem bH.sg(h:bH n base w s g A c S) : s≠g:=fun e=>by
  obtain⟨t,cs,fr,k,_,h2,_⟩:=h.2.cells
  rw[← e,h.1] at k
  injection k with k
  injection k with _ k _
  rw[← k] at h2
  exact absurd h2 (by decide)
theorem bH.sA(h:bH n base w s g A c S) : s∉ob A:=bU h.1 h.row (by decide)
theorem bH.gA(h:bH n base w s g A c S) : g∉ob A:=h.2.gA
theorem bH.upd(h:bH n base w s g A c S)(hu:aD X w w')(hs:s∉X)(hg:g∉X)(hr:∀ x,x∈ob A→x∉X) : bH n base w' s g A c S:=⟨hu.blk hs h.1,h.2.upd hu hg hr⟩
theorem bH.old(h:bH n base w s g A c S)(hu:aD [] w w') : bH n base w' s g A c S:=h.upd hu (by simp) (by simp) (fun x _=>by simp)
theorem cJ.ty(h:cJ n base w g A c S) : ∃ t cs fr,w.heap[g]? = some (.cells cs t fr)∧(t=142∨t=95∨t=89):=by
  cases S with
  | r S=>obtain⟨cs,fr,k⟩:=cQ.cells h;exact⟨_,cs,fr,k,.inl rfl⟩
  | a S=>exact⟨_,_,_,h.1,.inr (.inl rfl)⟩
  | m S=>exact⟨_,_,_,h.1,.inr (.inr rfl)⟩
theorem bH.gx{α:Type}{b2 sz m c2:Nat}{e:TypeId}{R:World→α→List Value→Prop}{A2:Option Addr}{xs:List α}(h:bH n base w s g A c S)(hO:aQ b2 e sz R w (.slice A2 m c2) xs)(he:(142==e)=false∧(95==e)=false∧(89==e)=false) : g∉ob A2:=by
  obtain⟨t,cs,fr,k,rfl|rfl|rfl⟩:=h.2.ty
  · exact bU k hO he.1
  · exact bU k hO he.2.1
  · exact bU k hO he.2.2
theorem bH.apt(h:bH n base w s g A c S){k:Nat}(hk:k≤n) : s6 k (g :: (ob A++[])) w:=by
  obtain⟨t,cs,fr,q,h1,_⟩:=h.2.cells
  exact fe q h1 (gX (rp hk h.low) bW)
end
def BS (n base:Nat)(S2:XS)(L:List Ev)(s g:Nat)(A:Option Addr)(w:World)(e:Ending)(w':World) : Prop:=∃ v A2 c2 n2,e = .returned v∧cZ n2 w.heap.size w' v L∧bH n2 base w' s g A2 c2 S2∧(∀ x,x∈ob A2→x∈ob A∨w.heap.size≤x)∧n≤n2∧aD (g :: (ob A++[])) w w'
def BK (n base:Nat)(S2:XS)(L:List Ev)(g:Nat)(A:Option Addr)(w:World)(e:Ending)(w':World) : Prop:=∃ v A2 c2 n2,e = .returned v∧cZ n2 w.heap.size w' v L∧cJ n2 base w' g A2 c2 S2∧(∀ x,x∈ob A2→x∈ob A∨w.heap.size≤x)∧n≤n2∧aD (g :: (ob A++[])) w w'
section
variable {w:World}{n base g c cpb nb:Nat}{A B:Option Addr}{m:Md}{b:List Int}
theorem sw{S:SS}(h:cJ n base w g A c (.r S))(hsl:aO m w (.slice B nb cpb) b)(hbl:b.length≤1048576) :
    Calls Tryz.prog 250 #[.pointer (some ⟨g,0,none⟩),.slice B nb cpb] w (BK n base (.r (S.feed b).1) (S.feed b).2 g A w):=by
  obtain⟨_,_,e,hc,_⟩:=hsl.shape
  injection e with e1 e2 e3
  subst e1 e2 e3
  exact tK h h.gA hsl hbl hc
theorem ua{S:SS}(h:cJ n base w g A c (.r S)) : Calls Tryz.prog 252 #[.pointer (some ⟨g,0,none⟩)] w (BK n base (.r S.tick.1) S.tick.2 g A w):=ta h
theorem tb{S:SA}(h:cJ n base w g A c (.a S))(hsl:aO m w (.slice B nb cpb) b)(hdg:0<nb→∀ x,x∈ob B→x≠g)(hda:ms nb B (ob A))(hbl:b.length≤1048576) :
    Calls Tryz.prog 22 #[.pointer (some ⟨g,0,none⟩),.slice B nb cpb] w (BK n base (.a (S.feed b).1) (S.feed b).2 g A w):=qN rfl h hsl hdg hda hbl
theorem uj{S:SM}(h:cJ n base w g A c (.m S))(hsl:aO m w (.slice B nb cpb) b)(hdg:0<nb→∀ x,x∈ob B→x≠g)(hda:ms nb B (ob A))(hbl:b.length≤1048576) :
    Calls Tryz.prog 16 #[.pointer (some ⟨g,0,none⟩),.slice B nb cpb] w (BK n base (.m (S.feed b).1) (S.feed b).2 g A w):=rf rfl h hsl hdg hda hbl
end
open Go.RowKit
section
variable {P:Program}{n:Nat}{D:List Deferred}{F:Fr}{w:World}{K:Fr→World→Prop}{Q:Exit→Act→World→Prop}{d:Option Tmp}{t:TypeId}{s:String}{af:Array Edge}{gu:Option (Nat × Bool)}
theorem uB{a:Act}{K:Act→World→Prop}{o:Oper}{N:Option Tmp}{f:FuncId}{fn:Func}{x:Operand}{nm:String}{opds:Array Operand}{ts:Array TypeId}{T:TypeId}{v rv:Value}(args:Array Value)(hN:o.dst=N)(hop:o.op = .call { callee:=.invoke x nm,args:=opds,argTypes:=ts })
    (hx : a.eval x = .iface T v) (hm : (method (P.types.size + Made.depth) T v nm).run P w = .ok (f, rv) w) (hf : P.funcs[f]? = some fn) (hname : (fn.name == "runtime.NumGoroutine") = false) (hb : fn.body.isSome = true) (hargs : #[rv] ++ opds.map a.eval = args)
    (h:Calls P f args w fun e w'=>∃ v,e = .returned v∧K (a.put N v) w') : OW P o a w K Q:=by
  refine OW.mk ?_
  subst hN
  subst hargs
  have h1 : fn.name ≠ "runtime.NumGoroutine" := by simpa using hname
  obtain⟨cd,hcd⟩:=Option.isSome_iff_exists.1 hb
  have hcm:(callMethod (.iface T v) nm (opds.map a.eval)).run P w = .ok (.enter f (#[rv]++opds.map a.eval)) w:=by
    unfold callMethod
    simp only[program,Sem.run_bind]
    have hp:(pure P:Sem Program).run P w = .ok P w:=rfl
    simp[Sem.run,hm,callFunc,hf,h1,hcd,Result.andThen]
  have hinv:invoke (.fn (.method nm) #[]) (#[.iface T v]++opds.map a.eval)=callMethod (.iface T v) nm (opds.map a.eval):=by
    have e0:(#[Value.iface T v]++opds.map a.eval)[0]? = some (.iface T v):=by
      rw[Array.getElem?_append_left (by simp)]
      rfl
    have e1:(#[Value.iface T v]++opds.map a.eval).extract 1 (#[Value.iface T v]++opds.map a.eval).size=opds.map a.eval:=by
      apply Array.toList_inj.1
      simp only[Array.toList_extract,List.extract_eq_take_drop,Array.toList_append,Array.toList_map,Array.size_append,Array.size_map]
      simp[List.take_of_length_le]
    unfold invoke
    simp only[e0,e1]
  have hrun:(execOp a.eval o).run P w = .ok (.enter f (#[rv]++opds.map a.eval)) w:=by
    unfold execOp
    simp only[hop,resolve,hx,Sem.run_bind,Sem.run_pure,Result.andThen_ok,hinv,hcm]
  unfold Oper.wp
  rw[hrun,Oper.upon_enter]
  refine h.mono fun e w'' hh=>?_
  obtain⟨v,rfl,h2⟩:=hh
  exact h2
theorem wX{f:FuncId}{x:Operand}{nm:String}{opds:Array Operand}{ts:Array TypeId}{args:Array Value}(T:TypeId)(v rv:Value)(h:Calls P f args w fun e w'=>∃ v,e = .returned v∧K (pt d v F) w')
    (hm:(method (P.types.size+Made.depth) T v nm).run P w = .ok (f,rv) w:=by kernel_rfl) (hx:ee F x=some (.iface T v):=by kernel_rfl) (ha:some rv :: opds.toList.map (ee F)=args.toList.map some:=by kernel_rfl) (hf:zM P f=some (false,true):=by kernel_rfl) (hs:f8 n d=true:=by kernel_rfl) : OG P ⟨d,.call { callee:=.invoke x nm,args:=opds,argTypes:=ts },t,s,af,gu⟩ n D F w K Q:=by
  obtain⟨fn,h1,h2,h3⟩:=jf hf
  refine⟨fun a hag K' hK=>uB args rfl rfl (hag.ev hx) hm h1 h2 h3 ?_ (h.mono fun e w' hh=>by
    obtain⟨v,rfl,hk⟩:=hh
    exact⟨v,rfl,hK _ _ _ hk (hag.put hs)⟩)⟩
  apply Array.toList_inj.1
  obtain⟨vs,has⟩ : ∃ vs:List Value,args.toList=rv :: vs∧opds.toList.map (ee F)=vs.map some:=by
    cases hl:args.toList with
    | nil=>rw[hl] at ha;cases ha
    | cons y ys =>
      rw[hl] at ha
      injection ha with e1 e2
      exact⟨ys,by rw[Option.some.inj e1],e2⟩
  rw[has.1,Array.toList_append,Array.toList_map,kH hag has.2]
  rfl
theorem D1{x:Operand}{xt ty:TypeId}{ok:Bool}(T:TypeId)(v r:Value)(h:K (pt d r F) w)(hx:ee F x=some (.iface T v):=by kernel_rfl)(hr:(Instr.typeAssert (.iface T v) xt ty ok).run P w = .ok r w:=by kernel_rfl)(hs:f8 n d=true:=by kernel_rfl) : OG P ⟨d,.typeAssert x xt ty ok,t,s,af,gu⟩ n D F w K Q:=by
  refine⟨fun a ha K' hK=>ft r rfl ?_ (hK _ _ _ h (ha.put hs))⟩
  unfold execOp
  simp only[ha.ev hx,Sem.run_bind,hr,Result.andThen_ok,Sem.run_pure]
theorem kT:∀ {l:List String},l≠[]→∃ m,Instr.least l=some m
  | [],h=>absurd rfl h
  | s :: r,_=>⟨_,rfl⟩
theorem o2{want:Array (String × TypeId)}{got:Array Method}(h:(want.toList.filter fun p=>!got.any fun m=>m.name==p.1&&m.sig==p.2).isEmpty=false) : ∃ m,Instr.missingMethod want got=some m:=by
  unfold Instr.missingMethod
  simp only[List.partition_eq_filter_filter]
  have hne:((want.toList.filter fun p=>!got.any fun m=>m.name==p.1&&m.sig==p.2).map (·.1))≠[]:=by
    intro e
    rw[List.map_eq_nil_iff] at e
    rw[e] at h
    cases h
  generalize ((want.toList.filter fun p=>!got.any fun m=>m.name==p.1&&m.sig==p.2).map (·.1))=l at hne
  by_cases hx:l.filter (not ∘ (fun s:String=>s.contains '.'))=[]
  · have hy:l.filter (fun s:String=>s.contains '.')≠[]:=by
      intro hy
      obtain⟨s,hs⟩:=List.exists_mem_of_ne_nil l hne
      cases hc:s.contains '.'
      · have:s∈l.filter (not ∘ (fun s:String=>s.contains '.')):=List.mem_filter.2 ⟨hs,by simp only[Function.comp,hc,Bool.not_false]⟩
        rw[hx] at this
        cases this
      · have:s∈l.filter (fun s:String=>s.contains '.'):=List.mem_filter.2 ⟨hs,hc⟩
        rw[hy] at this
        cases this
    rw[hx]
    obtain ⟨m, hm⟩ := kT (l := (l.filter (fun s : String => s.contains '.')).map (fun id => (id.splitOn ".").getLastD id)) (by simpa using hy)
    exact⟨m,by rw[hm];rfl⟩
  · obtain⟨m,hm⟩:=kT hx
    exact⟨m,by rw[hm];rfl⟩
def AM (P:Program)(ty T:TypeId) : Bool:=match P.underlying ty,P.info? T with
  | some (.interface want),some i=>!(want.toList.filter fun p=>!i.methods.any fun m=>m.name==p.1&&m.sig==p.2).isEmpty
  | _,_=>false
theorem CM{x:Operand}{xt ty:TypeId}(T:TypeId)(v z:Value)(h:K (pt d (.tuple #[z,.bool false]) F) w)(hm:AM P ty T=true:=by kernel_rfl)(hx:ee F x=some (.iface T v):=by kernel_rfl)(hz:(zeroValue ty).run P w = .ok z w:=by kernel_rfl)(hs:f8 n d=true:=by kernel_rfl) : OG P ⟨d,.typeAssert x xt ty true,t,s,af,gu⟩ n D F w K Q:=by
  refine⟨fun a ha K' hK=>ft _ rfl ?_ (hK _ _ _ h (ha.put hs))⟩
  unfold AM at hm
  split at hm
  · rename_i want i hu hi
    obtain⟨m,hmm⟩:=o2 (by simpa using hm)
    have h1:(underlying ty).run P w = .ok (.interface want) w:=run_underlying hu w
    have h2:(typeInfo T).run P w = .ok i w:=by simp[typeInfo,hi]
    unfold execOp
    simp only[ha.ev hx,Instr.typeAssert,Sem.run_bind,h1,h2,Result.andThen_ok,hmm,hz,Sem.run_pure,if_true]
  · cases hm
end
open Go.RowKit
def o7 (k:Int) : Int:=bif k==0 then 256 else bif k==1 then 513 else bif k==2 then 260 else 0
theorem k4{C:Prop}(k:Int)(h0:k=0→C)(h1:k=1→C)(h2:k=2→C)(h3:(k==0)=false→(k==1)=false→(k==2)=false→C) : C:=by
  cases e0:k==0
  · cases e1:k==1
    · cases e2:k==2
      · exact h3 e0 e1 e2
      · exact h2 (by simpa using e2)
    · exact h1 (by simpa using e1)
  · exact h0 (by simpa using e0)
theorem Aa{k:Int}(h0:(k==0)=false)(h1:(k==1)=false)(h2:(k==2)=false) : o7 k=0:=by unfold o7;rw[h0,h1,h2];rfl
def sY (base:Nat)(w:World)(v:Value)(xs:List Int) : Prop:=aO true w v xs∧∃ A n c,v = .slice A n c∧∀ x,x∈ob A→base≤x
theorem sY.wk{base base':Nat}{w:World}{v:Value}{xs:List Int}(h:sY base w v xs)(k:base'≤base) : sY base' w v xs:=by
  obtain⟨h1,A,n,c,h2,h3⟩:=h
  exact⟨h1,A,n,c,h2,fun x hx=>Nat.le_trans k (h3 x hx)⟩
def WR (res:Option (List Int))(base:Nat)(w:World)(v:Value)(n:Int) : Prop:=match res with
  | some l=>n=0∧sY base w v l
  | none=>n=1∧v = .slice none 0 0
theorem WR.wk{res:Option (List Int)}{base base':Nat}{w:World}{v:Value}{n:Int}(h:WR res base w v n)(k:base'≤base) : WR res base' w v n:=by
  cases res with
  | none=>exact h
  | some l=>exact⟨h.1,h.2.wk k⟩
theorem sY.of{base:Nat}{w:World}{v:Value}{xs:List Int}(h:du base w v xs) : sY base w v xs:=by
  obtain⟨A,c,rfl,_,_⟩:=h.rd.shape
  exact⟨h.rd,A,_,c,rfl,gS h⟩
theorem yZ{w:World}:Calls Tryz.prog 59 #[vI 0] w (bD (.iface 133 (.agg #[])) w):=by
 exact en 18 Tryz.func59 rfl<|ax 1<|sq<|ax 1<|bk<|sq<|go<|aj 2<|c1<|ax 3<|rt<|br<|tr<|rr (.iface 133 (.agg #[]))<|⟨rfl,(aD.refl [] _)⟩
theorem xI{w:World}:Calls Tryz.prog 59 #[vI 1] w (bD (.iface 134 (.agg #[])) w):=by
 exact en 18 Tryz.func59 rfl<|ax 1<|sq<|ax 1<|bk<|sq<|go<|aj 2<|c0<|ax 2<|c1<|ak 3<|nl<|tn<|rt<|br<|tr<|rr (.iface 134 (.agg #[]))<|⟨rfl,(aD.refl [] _)⟩
theorem yE{w:World}:Calls Tryz.prog 59 #[vI 2] w (bD (.iface 135 (.agg #[])) w):=by
 exact en 18 Tryz.func59 rfl<|ax 1<|sq<|ax 1<|bk<|sq<|go<|aj 2<|c0<|ax 2<|c0<|ak 2<|nl<|tn<|c1<|ax 3<|rt<|br<|tr<|rr (.iface 135 (.agg #[]))<|⟨rfl,(aD.refl [] _)⟩
theorem yq{w:World}{k:Int}(h0:(k==0)=false)(h1:(k==1)=false)(h2:(k==2)=false) : Calls Tryz.prog 59 #[vI k] w (bD (.iface 136 (.agg #[])) w):=by
 exact en 18 Tryz.func59 rfl<|ax 1<|sq<|ax 1<|bk<|sq<|go<|aj 2<|cf h0<|ax 2<|cf h1<|ak 2<|nl<|tn<|cf h2<|sk<|bn<|tn<|ax 3<|rt<|rr (.iface 136 (.agg #[]))<|⟨rfl,(aD.refl [] _)⟩
theorem xJ{w:World}:Calls Tryz.prog 259 #[.agg #[]] w (bD (vI 256) w):=by
 exact en 3 Tryz.func259 rfl<|sg<|L0<|dK #[] fun b c d e a=>Pl 1<|cy 1<|rt<|rr (vI 256)<|⟨rfl,a⟩
theorem th{w:World}:Calls Tryz.prog 58 #[vI 0] w (bD (vI 256) w):=by
 refine en 6 Tryz.func58 rfl<|ak 1<|aL 1<|az<|m1 (yZ) fun c a=>L0<|wX (f:=259) (args:=#[.agg #[]]) 133 (.agg #[]) (.agg #[])<|m1 (@xJ _) fun d b=>aj 1<|rt<|rr (vI 256)<|?_
 exact⟨rfl,(aM a b)⟩
theorem yW{w:World}:Calls Tryz.prog 263 #[.agg #[]] w (bD (vI 513) w):=by
 exact en 3 Tryz.func263 rfl<|sg<|L0<|dK #[] fun b c d e a=>Pl 1<|cy 1<|rt<|rr (vI 513)<|⟨rfl,a⟩
theorem t4{w:World}:Calls Tryz.prog 58 #[vI 1] w (bD (vI 513) w):=by
 refine en 6 Tryz.func58 rfl<|ak 1<|aL 1<|az<|m1 (xI) fun c a=>L0<|wX (f:=263) (args:=#[.agg #[]]) 134 (.agg #[]) (.agg #[])<|m1 (@yW _) fun d b=>aj 1<|rt<|rr (vI 513)<|?_
 exact⟨rfl,(aM a b)⟩
theorem yJ{w:World}:Calls Tryz.prog 272 #[.agg #[]] w (bD (vI 260) w):=by
 exact en 3 Tryz.func272 rfl<|sg<|L0<|dK #[] fun b c d e a=>Pl 1<|cy 1<|rt<|rr (vI 260)<|⟨rfl,a⟩
theorem tR{w:World}:Calls Tryz.prog 58 #[vI 2] w (bD (vI 260) w):=by
 refine en 6 Tryz.func58 rfl<|ak 1<|aL 1<|az<|m1 (yE) fun c a=>L0<|wX (f:=272) (args:=#[.agg #[]]) 135 (.agg #[]) (.agg #[])<|m1 (@yJ _) fun d b=>aj 1<|rt<|rr (vI 260)<|?_
 exact⟨rfl,(aM a b)⟩
theorem xN{w:World}:Calls Tryz.prog 276 #[.agg #[]] w (bD (vI 0) w):=by
 exact en 3 Tryz.func276 rfl<|sg<|L0<|dK #[] fun b c d e a=>Pl 1<|cy 1<|rt<|rr (vI 0)<|⟨rfl,a⟩
theorem sT{w:World}{k:Int}(h0:(k==0)=false)(h1:(k==1)=false)(h2:(k==2)=false) : Calls Tryz.prog 58 #[vI k] w (bD (vI 0) w):=by
 refine en 6 Tryz.func58 rfl<|ak 1<|aL 1<|az<|m1 (yq h0 h1 h2) fun c a=>L0<|wX (f:=276) (args:=#[.agg #[]]) 136 (.agg #[]) (.agg #[])<|m1 (@xN _) fun d b=>aj 1<|rt<|rr (vI 0)<|?_
 exact⟨rfl,(aM a b)⟩
theorem i7{w:World}{k:Int}:Calls Tryz.prog 58 #[.int .i64 k] w (bD (.int .i64 (o7 k)) w):=by
  refine k4 k (fun h=>?_) (fun h=>?_) (fun h=>?_) (fun h0 h1 h2=>?_)
  · subst h;exact th
  · subst h;exact t4
  · subst h;exact tR
  · rw[Aa h0 h1 h2];exact sT h0 h1 h2
open Go.RowKit
theorem cJ.apt{n base g c:Nat}{w:World}{A:Option Addr}{S:XS}(h:cJ n base w g A c S){k:Nat}(hk:k≤n) : s6 k (g :: (ob A++[])) w:=by
  obtain⟨t,cs,fr,q,h1,_⟩:=h.cells
  exact fe q h1 (gX (rp hk h.low) bW)
theorem yF{d:Int}(hd:d=0∨d=1) : ((d != 0)&&(d != 1))=false:=by rcases hd with rfl | rfl<;>rfl
theorem cQ.old0{n base g c:Nat}{w w':World}{A:Option Addr}{S:SS}(h:cQ n base w g A c S)(hu:aD [] w w') : cQ n base w' g A c S:=h.upd hu (by simp) (fun x _=>by simp)
theorem cQ.weak{n n' g:Nat}{w:World}{S:SS}{c:Nat}(h:cQ n n w g none c S)(hn:n'≤n) : cQ n' n' w g none c S:=by
  obtain⟨h1,h2,h3,h4,h5⟩:=h
  exact⟨h1,aQ.weaken h2 hn,Nat.le_trans hn h3,cS,Nat.le_trans hn h5⟩
theorem tz{w:World}{d:Int}(hd:d=0∨d=1) : Calls Tryz.prog 37 #[vI 0,vI d] w (fun e w'=>∃ s g,e = .returned (vP s 0)∧w.heap.size≤s∧w.heap.size≤g∧bH w.heap.size w.heap.size w' s g none 0 (XS.zero 0 d)∧aD [] w w'):=by
 refine en 36 Tryz.func37 rfl<|ax 1<|sq<|ak 1<|az<|m1 (i7 (k:=0)) fun p a=>Pl 5<|cV 3 [11] 14 11 (d != 0) (d != 1) (fun K i j=>?_) ?_
 have q:=av j
 exact Pl 3<|ce i _ rfl
 refine aj 1<|cf (yF hd)<|bp<|sq<|ax 1<|bk<|sq<|go<|aj 2<|c1<|ak 1<|az<|e3 (xK hd) fun b t l m c=>Pl 2<|L0<|dK #[.iface 107 (vP b 0)] fun f u n o h=>aj 1<|rt<|br<|tr<|rr (vP f 0)<|?_
 exact⟨f,b,rfl,(Nat.le_trans (le a.size c.size) n),(Nat.le_trans a.size l),⟨o,(show cJ _ _ _ _ _ _ (XS.r _) from((cQ.old0 m h)).weak a.size)⟩,(aM a (aM c h))⟩
theorem vS{w:World}{d:Int}(hd:d=0∨d=1) : Calls Tryz.prog 21 #[.int .i64 d] w (fun e w'=>∃ g,e = .returned (.pointer (some ⟨g,0,none⟩))∧w.heap.size≤g∧da w.heap.size w.heap.size w' g none 0 ⟨d,[]⟩∧aD [] w w'):=by
  rcases hd with rfl|rfl
  · exact so 0 t1
  · exact so 1 sZ
theorem da.old0{n base g c:Nat}{w w':World}{A:Option Addr}{S:SA}(h:da n base w g A c S)(hu:aD [] w w') : da n base w' g A c S:=h.upd hu (by simp) (fun x _=>by simp)
theorem da.weak{n n' g:Nat}{w:World}{S:SA}{c:Nat}(h:da n n w g none c S)(hn:n'≤n) : da n' n' w g none c S:=by
  obtain⟨h1,h2,h6,h3,h4,h5⟩:=h
  exact⟨h1,aQ.weaken h2 hn,h6,Nat.le_trans hn h3,cS,Nat.le_trans hn h5⟩
theorem tk{w:World}{d:Int}(hd:d=0∨d=1) : Calls Tryz.prog 37 #[vI 1,vI d] w (fun e w'=>∃ s g,e = .returned (vP s 0)∧w.heap.size≤s∧w.heap.size≤g∧bH w.heap.size w.heap.size w' s g none 0 (XS.zero 1 d)∧aD [] w w'):=by
 refine en 36 Tryz.func37 rfl<|ax 1<|sq<|ak 1<|az<|m1 (i7 (k:=1)) fun q b=>Pl 5<|cV 3 [11] 14 11 (d != 0) (d != 1) (fun K j l=>?_) ?_
 have r:=av l
 exact Pl 3<|ce j _ rfl
 refine aj 1<|cf (yF hd)<|bp<|sq<|ax 1<|bk<|sq<|go<|aj 2<|c0<|ax 2<|c1<|ak 1<|az<|e3 (vS hd) fun c t m n f=>?_
 refine Pl 2<|L0<|dK #[.iface 35 (vP c 0)] fun h u o p i=>aj 1<|rt<|br<|tr<|rr (vP h 0)<|?_
 exact⟨h,c,rfl,(Nat.le_trans (le b.size f.size) o),(Nat.le_trans b.size m),⟨p,(show cJ _ _ _ _ _ _ (XS.a _) from((da.old0 n i)).weak b.size)⟩,(aM b (aM f i))⟩
theorem vz{w:World}{d:Int}(hd:d=0∨d=1) : Calls Tryz.prog 15 #[.int .i64 d] w (fun e w'=>∃ g,e = .returned (.pointer (some ⟨g,0,none⟩))∧w.heap.size≤g∧db w.heap.size w.heap.size w' g none 0 ⟨d,[],0⟩∧aD [] w w'):=by
  rcases hd with rfl|rfl
  · exact rR 0 qj
  · exact rR 1 qk
theorem db.old0{n base g c:Nat}{w w':World}{A:Option Addr}{S:SM}(h:db n base w g A c S)(hu:aD [] w w') : db n base w' g A c S:=h.upd hu (by simp) (fun x _=>by simp)
theorem db.weak{n n' g:Nat}{w:World}{S:SM}{c:Nat}(h:db n n w g none c S)(hn:n'≤n) : db n' n' w g none c S:=by
  obtain⟨h1,h2,h6,h3,h4,h5⟩:=h
  exact⟨h1,aQ.weaken h2 hn,h6,Nat.le_trans hn h3,cS,Nat.le_trans hn h5⟩
theorem tp{w:World}{d:Int}(hd:d=0∨d=1) : Calls Tryz.prog 37 #[vI 2,vI d] w (fun e w'=>∃ s g,e = .returned (vP s 0)∧w.heap.size≤s∧w.heap.size≤g∧bH w.heap.size w.heap.size w' s g none 0 (XS.zero 2 d)∧aD [] w w'):=by
 refine en 36 Tryz.func37 rfl<|ax 1<|sq<|ak 1<|az<|m1 (i7 (k:=2)) fun q a=>Pl 5<|cV 3 [11] 14 11 (d != 0) (d != 1) (fun K i j=>?_) ?_
 have r:=av j
 exact Pl 3<|ce i _ rfl
 refine aj 1<|cf (yF hd)<|bp<|sq<|ax 1<|bk<|sq<|go<|aj 2<|c0<|ax 2<|c0<|sk<|bn<|tn<|ak 1<|az<|e3 (vz hd) fun b t l n c=>Pl 2<|L0<|dK #[.iface 25 (vP b 0)] fun f u o p h=>aj 1<|rt<|rr (vP f 0)<|?_
 exact⟨f,b,rfl,(Nat.le_trans (le a.size c.size) o),(Nat.le_trans a.size l),⟨p,(show cJ _ _ _ _ _ _ (XS.m _) from((db.old0 n h)).weak a.size)⟩,(aM a (aM c h))⟩
theorem rN{w:World}{k:Int}(hk:k=0∨k=1∨k=2){d:Int}(hd:d=0∨d=1) : Calls Tryz.prog 37 #[.int .i64 k,.int .i64 d] w (fun e w'=>∃ s g,e = .returned (.pointer (some ⟨s,0,none⟩))∧w.heap.size≤s∧w.heap.size≤g∧bH w.heap.size w.heap.size w' s g none 0 (XS.zero k d)∧aD [] w w'):=by
  rcases hk with rfl|rfl|rfl
  · exact tz hd
  · exact tk hd
  · exact tp hd
theorem qJ{w:World}{n base s g c:Nat}{A B:Option Addr}{cpb:Nat}{S:SS}{m:Md}{t:Bool}{b:List Int}(h:bH n base w s g A c (.r S))(hsl:aO m w (.slice B b.length cpb) b)(hdg:0<b.length→∀ x,x∈ob B→x≠g)(hda:ms b.length B (ob A))(hbl:b.length≤1048576) :
    Calls Tryz.prog 64 #[vP s 0,.agg #[.slice B b.length cpb,.bool t]] w (BS n base (XS.take (.r S) b t).1 (XS.take (.r S) b t).2 s g A w):=by
 have hzb:=aI.len hsl
 have hz1:(S.feed b).2.length≤1:=SS.feed_le (S:=S) (b:=b) rfl
 have hz2:(S.feed b).1.tick.2.length≤1:=SS.tick_le (S:=(S.feed b).1) rfl
 refine en 33 Tryz.func64 rfl<|sg<|L0<|dK #[.slice B b.length cpb,.bool t] fun O a4 C P Q=>aj 1<|sq<|Rg 8 (fun w'=>w'.cell? ⟨s,0,none⟩=some (.iface 107 (vP g 0))∧w'.cell? ⟨O,0,none⟩=some (.slice B b.length cpb)) fun T D=>?_
 have a:=aM Q D
 have p:=ub a h.1
 have E:=ub D P
 refine bB ⟨(ap p rfl),(ap E rfl)⟩ fun i=>Rt 0 i<|Rt 1 i<|Rt 2 i<|Rl 3 i (fun _ hs=>hs.1)<|Rt 4 i<|Rl 5 i (fun _ hs=>hs.2)<|?_
 refine R0 6 rfl<|wX (f:=250) (args:=#[vP g 0,.slice B b.length cpb]) 107 (vP g 0) (vP g 0)<|(sw (cJ.upd h.2 a ay (fun x hx=>ay)) (aO.old hsl a) hbl).mono ?_
 rintro _ a5 ⟨a6,F,a7,a8,rfl,U,k,u,G,j⟩
 refine⟨_,rfl,?_⟩
 have d:=U
 obtain⟨H,V,rfl,a9,ab⟩:=aI.shape d.rd
 have l:=aD.blk j (aa h.sg (aZ (bU p (ai (cJ.row h.2) a (fun x hx=>ay) (fun _ _ h=>h)) (by decide)) ay)) p
 have I:=aD.blk j (aa (Ne.symm (nb (cJ.lt h.2) lr C)) (aZ (jU (cJ.row h.2) lr C) ay)) E
 refine bB ⟨(ap l rfl),(ap I rfl)⟩ fun W=>Rt 7 W<|re<|tn<|sq<|ak 3<|aH l 0<|L0<|D1 107 (vP g 0) (.tuple #[.iface 107 (vP g 0),.bool true])<|aj 5<|sq<|go<|Pl 3<|L1<|dp I 1<|aj 1<|?_
 have J:=ut (aD.mono (S':=(g :: (ob A++[]))) a aA) j (ac im (aB il aA))
 refine cb (t) (fun v=>?_) (fun v=>?_)
 refine go<|Pl 2<|L0<|wX (f:=252) (args:=#[vP g 0]) 107 (vP g 0) (vP g 0)<|(ua k).mono ?_
 rintro _ ad ⟨ae,X,af,Y,rfl,Z,y,a0,K,o⟩
 refine⟨_,rfl,?_⟩
 have L:=Z
 obtain⟨ah,al,rfl,am,an⟩:=aI.shape L.rd
 have z:=ai d o (fun x hx=>(aa (fun e=>(aG (cJ.lt h.2) a.size d) (e▸hx)) (aZ ((cz d (cJ.row k) (by decide)) x hx) ay))) (fun x cs q=>bz.upd o (cJ.apt k (Nat.le_refl _)) q)
 refine L0<|eb (R:=bz T.heap.size Y) (xs:=((S.feed b).2)) (ys:=((S.feed b).1.tick.2)) (.agg #[vI 0,vB 0,vW 0,vB 0,vB 0,vW 0,vW 0,vW 0,vW 0,vW 0,vW 0,vW 0,vW 0,vW 0,vW 0,nS,nS,nS,nS,vB 0,vB 0,vB 0,vB 0,vB 0,nS]) 25 168 (cZ.up K (y.nle) z) ((cZ.lo L j.size)).rd bz.ones (fun w' hv x cs q=>bz.upd hv (iW z (by decide) bW) q) (by omega) (le j.size o.size) fun a1 a2 ao a3 M aq=>Pl 1<|cy 2<|rt<|rr (.slice a1 (((S.feed b).2++(S.feed b).1.tick.2).length) a2)<|?_
 have hs:XS.take (.r S) b t=(.r (S.feed b).1.tick.1,(S.feed b).2++(S.feed b).1.tick.2):=by unfold XS.take;rw[v];rfl
 rw[hs]
 have hat0:∀ x,x∈ob X→x∈ob A∨w.heap.size≤x:=fun x hx=>((fun x hx=>jT a0 u j.size x hx) x hx).imp id (Nat.le_trans a.size)
 have N:=ut (aD.mono (S':=(g :: (ob F++(ob H++[])))) o (ac im (aB il aA))) M (aB il aA)
 exact⟨_,_,_,_,rfl,cZ.lo a3 a.size,⟨(aD.blk N (aa h.sg (aZ (bU l (cJ.row k) (by decide)) (aZ (aG (ag h.1) a.size d) ay))) l),(cJ.upd y M (aZ (aG (cJ.lt h.2) a.size d) ay) (fun x hx=>(aZ ((cz (cJ.row y) z (by decide)) x hx) ay)))⟩,hat0,Nat.le_trans G K,(aD.mono (S':=g :: (ob A++[])) (ut J N (ac im (aB (kD u il a.size) (aB (bE d a.size) aA)))) (ac im (aB il aA)))⟩
 refine bp<|ax 2<|rt<|rr (.slice H (((S.feed b).2).length) V)<|?_
 have hs:XS.take (.r S) b t=(.r (S.feed b).1,(S.feed b).2):=by unfold XS.take;rw[v];rfl
 rw[hs]
 have hat0:∀ x,x∈ob F→x∈ob A∨w.heap.size≤x:=fun x hx=>((fun x hx=>u x hx) x hx).imp id (Nat.le_trans a.size)
 exact⟨_,_,_,_,rfl,cZ.lo d a.size,⟨l,k⟩,hat0,G,(aD.mono (S':=g :: (ob A++[])) J (ac im (aB il aA)))⟩
theorem pU{w:World}{n base s g c:Nat}{A B:Option Addr}{cpb:Nat}{S:SA}{m:Md}{t:Bool}{b:List Int}(h:bH n base w s g A c (.a S))(hsl:aO m w (.slice B b.length cpb) b)(hdg:0<b.length→∀ x,x∈ob B→x≠g)(hda:ms b.length B (ob A))(hbl:b.length≤1048576) :
    Calls Tryz.prog 64 #[vP s 0,.agg #[.slice B b.length cpb,.bool t]] w (BS n base (XS.take (.a S) b t).1 (XS.take (.a S) b t).2 s g A w):=by
 have hzb:=aI.len hsl
 refine en 33 Tryz.func64 rfl<|sg<|L0<|dK #[.slice B b.length cpb,.bool t] fun r I l u v=>aj 1<|sq<|Rg 8 (fun w'=>w'.cell? ⟨s,0,none⟩=some (.iface 35 (vP g 0))∧w'.cell? ⟨r,0,none⟩=some (.slice B b.length cpb)) fun J o=>?_
 have d:=aM v o
 have i:=ub d h.1
 have p:=ub o u
 refine bB ⟨(ap i rfl),(ap p rfl)⟩ fun e=>Rt 0 e<|Rt 1 e<|Rt 2 e<|Rl 3 e (fun _ hs=>hs.1)<|Rt 4 e<|Rl 5 e (fun _ hs=>hs.2)<|?_
 refine R0 6 rfl<|wX (f:=22) (args:=#[vP g 0,.slice B b.length cpb]) 35 (vP g 0) (vP g 0)<|(tb (cJ.upd h.2 d ay (fun x hx=>ay)) (aO.old hsl d) hdg hda hbl).mono ?_
 rintro _ K ⟨L,y,M,N,rfl,z,C,D,E,j⟩
 refine⟨_,rfl,?_⟩
 have q:=z
 obtain⟨F,G,rfl,O,P⟩:=aI.shape q.rd
 have k:=aD.blk j (aa h.sg (aZ (bU i (ai (cJ.row h.2) d (fun x hx=>ay) (fun _ _ h=>h)) (by decide)) ay)) i
 refine bB ⟨(ap k rfl),(ap (aD.blk j (aa (Ne.symm (nb (cJ.lt h.2) lr l)) (aZ (jU (cJ.row h.2) lr l) ay)) p) rfl)⟩ fun H=>Rt 7 H<|re<|tn<|sq<|ak 3<|aH k 0<|L0<|CM 35 (vP g 0) .nilIface<|aj 5<|sq<|go<|aj 5<|c0<|bp<|ax 2<|rt<|rr (.slice F (((S.feed b).2).length) G)<|?_
 have hs:XS.take (.a S) b t=(.a (S.feed b).1,(S.feed b).2):=by unfold XS.take;cases t;rfl;show(_,(S.feed b).2++[])=_;rw[List.append_nil];rfl
 rw[hs]
 have hat0:∀ x,x∈ob y→x∈ob A∨w.heap.size≤x:=fun x hx=>((fun x hx=>D x hx) x hx).imp id (Nat.le_trans d.size)
 exact⟨_,_,_,_,rfl,cZ.lo q d.size,⟨k,C⟩,hat0,E,(aD.mono (S':=g :: (ob A++[])) (ut (aD.mono (S':=(g :: (ob A++[]))) d aA) j (ac im (aB il aA))) (ac im (aB il aA)))⟩
theorem r3{w:World}{n base s g c:Nat}{A B:Option Addr}{cpb:Nat}{S:SM}{m:Md}{t:Bool}{b:List Int}(h:bH n base w s g A c (.m S))(hsl:aO m w (.slice B b.length cpb) b)(hdg:0<b.length→∀ x,x∈ob B→x≠g)(hda:ms b.length B (ob A))(hbl:b.length≤1048576) :
    Calls Tryz.prog 64 #[vP s 0,.agg #[.slice B b.length cpb,.bool t]] w (BS n base (XS.take (.m S) b t).1 (XS.take (.m S) b t).2 s g A w):=by
 have hzb:=aI.len hsl
 refine en 33 Tryz.func64 rfl<|sg<|L0<|dK #[.slice B b.length cpb,.bool t] fun q H k r u=>aj 1<|sq<|Rg 8 (fun w'=>w'.cell? ⟨s,0,none⟩=some (.iface 25 (vP g 0))∧w'.cell? ⟨q,0,none⟩=some (.slice B b.length cpb)) fun I l=>?_
 have a:=aM u l
 have e:=ub a h.1
 have o:=ub l r
 refine bB ⟨(ap e rfl),(ap o rfl)⟩ fun d=>Rt 0 d<|Rt 1 d<|Rt 2 d<|Rl 3 d (fun _ hs=>hs.1)<|Rt 4 d<|Rl 5 d (fun _ hs=>hs.2)<|?_
 refine R0 6 rfl<|wX (f:=16) (args:=#[vP g 0,.slice B b.length cpb]) 25 (vP g 0) (vP g 0)<|(uj (cJ.upd h.2 a ay (fun x hx=>ay)) (aO.old hsl a) hdg hda hbl).mono ?_
 rintro _ J ⟨K,v,L,M,rfl,y,z,C,D,i⟩
 refine⟨_,rfl,?_⟩
 have p:=y
 obtain⟨E,F,rfl,N,O⟩:=aI.shape p.rd
 have j:=aD.blk i (aa h.sg (aZ (bU e (ai (cJ.row h.2) a (fun x hx=>ay) (fun _ _ h=>h)) (by decide)) ay)) e
 refine bB ⟨(ap j rfl),(ap (aD.blk i (aa (Ne.symm (nb (cJ.lt h.2) lr k)) (aZ (jU (cJ.row h.2) lr k) ay)) o) rfl)⟩ fun G=>Rt 7 G<|re<|tn<|sq<|ak 3<|aH j 0<|L0<|CM 25 (vP g 0) .nilIface<|aj 5<|sq<|go<|aj 5<|c0<|bp<|ax 2<|rt<|rr (.slice E (((S.feed b).2).length) F)<|?_
 have hs:XS.take (.m S) b t=(.m (S.feed b).1,(S.feed b).2):=by unfold XS.take;cases t;rfl;show(_,(S.feed b).2++[])=_;rw[List.append_nil];rfl
 rw[hs]
 have hat0:∀ x,x∈ob v→x∈ob A∨w.heap.size≤x:=fun x hx=>((fun x hx=>C x hx) x hx).imp id (Nat.le_trans a.size)
 exact⟨_,_,_,_,rfl,cZ.lo p a.size,⟨j,z⟩,hat0,D,(aD.mono (S':=g :: (ob A++[])) (ut (aD.mono (S':=(g :: (ob A++[]))) a aA) i (ac im (aB il aA))) (ac im (aB il aA)))⟩
theorem uY{w:World}{n base s g c nb:Nat}{A B:Option Addr}{cpb:Nat}{S S2:XS}{L:List Ev}{m:Md}{t:Bool}{b:List Int}(hX:S.take b t=(S2,L))(h:bH n base w s g A c S)(hsl:aO m w (.slice B nb cpb) b)(hdg:0<nb→∀ x,x∈ob B→x≠g)(hda:ms nb B (ob A))(hbl:b.length≤1048576) :
    Calls Tryz.prog 64 #[.pointer (some ⟨s,0,none⟩),.agg #[.slice B nb cpb,.bool t]] w (BS n base S2 L s g A w):=by
  obtain⟨_,_,e,_,_⟩:=hsl.shape
  injection e with e1 e2 e3
  subst e1 e2 e3
  have e1:S2=(S.take b t).1:=(congrArg Prod.fst hX).symm
  have e2:L=(S.take b t).2:=(congrArg Prod.snd hX).symm
  rw[e1,e2]
  cases S with
  | r S=>exact qJ h hsl hdg hda hbl
  | a S=>exact pU h hsl hdg hda hbl
  | m S=>exact r3 h hsl hdg hda hbl
theorem qO{w:World}{n base s g c:Nat}{A:Option Addr}{S:SS}(h:bH n base w s g A c (.r S)) : Calls Tryz.prog 65 #[vP s 0] w (bD (vI (S.held.length:Int)) w):=by
 exact en 8 Tryz.func65 rfl<|ak 1<|aL 3<|aH h.1 0<|L0<|wX (f:=251) (args:=#[vP g 0]) 107 (vP g 0) (vP g 0)<|m1 (vu h.2) fun b a=>aj 1<|rt<|rr (vI (S.held.length:Int))<|⟨rfl,a⟩
theorem r9{w:World}{n base s g c:Nat}{A:Option Addr}{S:SA}(h:bH n base w s g A c (.a S)) : Calls Tryz.prog 65 #[vP s 0] w (bD (vI (S.held.length:Int)) w):=by
 exact en 8 Tryz.func65 rfl<|ak 1<|aL 3<|aH h.1 0<|L0<|wX (f:=24) (args:=#[vP g 0]) 35 (vP g 0) (vP g 0)<|m1 (wO h.2) fun d b=>aj 1<|rt<|rr (vI (S.held.length:Int))<|⟨rfl,b⟩
theorem qz{w:World}{n base s g c:Nat}{A:Option Addr}{S:SM}(h:bH n base w s g A c (.m S)) : Calls Tryz.prog 65 #[vP s 0] w (bD (vI (S.held.length:Int)) w):=by
 exact en 8 Tryz.func65 rfl<|ak 1<|aL 3<|aH h.1 0<|L0<|wX (f:=19) (args:=#[vP g 0]) 25 (vP g 0) (vP g 0)<|m1 (w7 h.2) fun b a=>aj 1<|rt<|rr (vI (S.held.length:Int))<|⟨rfl,a⟩
theorem uG{w:World}{n base s g c:Nat}{A:Option Addr}{S:XS}(h:bH n base w s g A c S) : Calls Tryz.prog 65 #[.pointer (some ⟨s,0,none⟩)] w (bD (.int .i64 ((S.held.length:Nat) : Int)) w):=by
  cases S with
  | r S=>exact qO h
  | a S=>exact r9 h
  | m S=>exact qz h
open Go.RowKit
def gM:List (List Int)→Nat
  | []=>0
  | x :: t=>x.length+gM t
def gK (ls:List (List Int)) : Bool:=decide (ls.length≤60)&&decide (gM ls≤3000)
theorem jk(a b:List (List Int)) : gM (a++b)=gM a+gM b:=by
  induction a with
  | nil=>simp[gM]
  | cons x t ih=>simp only[List.cons_append,gM,ih];omega
theorem sC{ls:List (List Int)}{k:Nat}(hk:k<ls.length) : ls.take (k+1)=ls.take k++[ls.getD k []]:=by
  rw[List.take_succ_eq_append_getElem hk,List.getD_eq_getElem?_getD,List.getElem?_eq_getElem hk]
  rfl
theorem mu{ls:List (List Int)}{k:Nat}(hk:k<ls.length) : gM (ls.take (k+1))=gM (ls.take k)+(ls.getD k []).length:=by
  rw[sC hk,jk]
  rfl
theorem sl{ls:List (List Int)}(hb:∀ x,x∈ls→x.length≤140737488355328) : ∀ k,k≤ls.length→gM (ls.take k)≤k*140737488355328
  | 0,_=>by simp[gM]
  | k+1,h=>by
    rw[mu (by omega)]
    have h1:=sl hb k (by omega)
    have h2:(ls.getD k []).length≤140737488355328:=by
      rw[List.getD_eq_getElem?_getD,List.getElem?_eq_getElem (by omega)]
      exact hb _ (List.getElem_mem _)
    rw[Nat.succ_mul]
    omega
theorem r4{ls:List (List Int)}{k:Nat}{n:Int}(hb:∀ x,x∈ls→x.length≤140737488355328)(h:k≤60→n=(gM (ls.take k) : Nat))(hk:k<ls.length) : k+1≤60→IntKind.i64.wrap (n+(((ls.getD k []).length:Nat) : Int))=(gM (ls.take (k+1)) : Nat):=by
  intro a
  have h1:=sl hb (k+1) hk
  have h2:=mu hk
  rw[h (by omega),i64_in]
  · rw[h2];omega
  · omega
theorem mN{ls:List (List Int)}{k:Nat}{n:Int}(h:k≤60→n=(gM (ls.take k) : Nat))(hk:k=ls.length) : (decide ((ls.length:Int)≤60)&&decide (n≤3000))=gK ls:=by
  subst hk
  rw[List.take_length] at h
  unfold gK
  by_cases a:ls.length≤60
  · rw[h a]
    congr 1
    · rw[decide_eq_decide];omega
    · rw[decide_eq_decide];omega
  · rw[decide_eq_false a,decide_eq_false (by omega)];rfl
theorem tj{m:Md}{A:Option Addr}{cp:Nat}{ls:List (List Int)}{w:World}(h:p9 m w (.slice A ls.length cp) ls)(hbb:∀ x,x∈ls→x.length≤140737488355328) : Calls Tryz.prog 14 #[.slice A ls.length cp] w (bD (.bool (gK ls)) w):=by
 have hz:=aI.len h
 refine en 25 Tryz.func14 rfl<|sg<|Pl 1<|ng<|Pl 1<|nt<|sq<|sg<|?_
 refine Pl 1<|nt<|bk<|?_
 refine fE (fun x=>[(0,.slice A ls.length cp),(2,.bool false),(3,.int .i64 x.2),(4,.int .i64 ((x.1:Nat) : Int))]) (fun(x:Nat × Int) w'=>aD [] w w'∧(x.1≤ls.length)∧(x.1≤60→x.2=(gM (ls.take x.1) : Nat))) (fun x=>ls.length-x.1) (0,0) ⟨aD.refl _ _,(by(try dsimp only);omega),(by(try dsimp only);intro _;rfl)⟩ ?_
 rintro⟨k,n⟩ u ⟨c,f,g⟩
 refine eH [(0,.slice A ls.length cp),(2,.bool false),(3,.int .i64 n),(4,.int .i64 ((k:Nat) : Int))] ?_
 have y:k≤ls.length:=f
 have d:k≤60→n=(gM (ls.take k) : Nat):=g
 refine sq<|sg<|Pl 4<|nt<|cb ((decide (((k:Nat) : Int)<((ls.length:Nat) : Int)))) (fun b=>?_) (fun b=>?_)
 have i:=of_decide_eq_true b
 refine bp<|sq<|bk<|go<|Pl 3<|ka (p9.elt h k (by omega)) fun j l o q r s z B C=>L0<|iV ls.length k r (by omega)<|L0<|dX (p:=⟨j,l+k,none⟩) (v:=.slice o ((ls.getD k []).length) q) (uc c s)<|Pl 3<|nl<|bn<|tn<|go<|?_
 exact Pl 1<|L0<|Oi (((k:Nat) : Int)+1)<|Pl 1<|nl<|dH ((k+1),(IntKind.i64.wrap (n+(((ls.getD k []).length:Nat) : Int)))) ⟨c,(by(try dsimp only);omega),(r4 hbb d (by omega))⟩ (by omega)
 have i:=of_decide_eq_false b
 refine xt<|tx<|tx<|bx<|tn<|sg<|Pl 4<|cu 3 [21] 24 (((decide (((ls.length:Nat) : Int)≤60))&&(decide (n≤3000)))) (fun K e=>?_) ?_
 refine bl 21 ((decide (((ls.length:Nat) : Int)≤60))) (fun a=>?_) (fun a=>?_)
 have t:=of_decide_eq_true a
 exact Pl 3<|ce e (decide (n≤3000)) (by rw[a];rfl)
 have t:=of_decide_eq_false a
 exact Pl 3<|ce e false (by rw[a];rfl)
 refine Pl 1<|nt<|rt<|rr (.bool ((decide (((ls.length:Nat) : Int)≤60))&&(decide (n≤3000))))<|?_
 have hs:((decide (((ls.length:Nat) : Int)≤60))&&(decide (n≤3000)))=gK ls:=by first | exact mN d (by omega) | (rw[← mN d (by omega)];simp only[b,bj,Bool.true_and,Bool.false_and])
 rw[hs]
 exact⟨rfl,c⟩
open Go.RowKit
structure Pc where
  bytes:List Int
  tick:Bool
def Pc.z:Pc:=⟨[],false⟩
def pJ (n:Nat)(w:World)(v:Value)(b:List Int) : Prop:=aO false w v b∧∀ A k c,v = .slice A k c→0<k→∀ x,x∈ob A→x<n
theorem pJ.of{m:Md}{w:World}{v:Value}{b:List Int}(h:aO m w v b) : pJ w.heap.size w v b:=⟨aI.any h (fun _ _ q=>q),fun A k c e hk=>by subst e;exact aI.low h hk⟩
theorem pJ.nil{n:Nat}{w:World}:pJ n w (.slice none 0 0) []:=⟨aI.nil ..,fun A k c e hk=>by injection e with _ e;omega⟩
theorem pJ.upd{n:Nat}{w w':World}{X:List Nat}{v:Value}{b:List Int}(hu:aD X w w')(hx:∀ x,x∈X→n≤x)(h:pJ n w v b) : pJ n w' v b:=by
  obtain⟨A,c,rfl,_,_⟩:=h.1.shape
  exact⟨aO.far h.1 hu fun hn x hxA hxX=>Nat.lt_irrefl _ (Nat.lt_of_lt_of_le (h.2 A _ _ rfl hn x hxA) (hx x hxX)),h.2⟩
def CJ (m:Md)(w:World)(p:Pc)(cs:List Value) : Prop:=∃ v,cs=[v,.bool p.tick]∧aO m w v p.bytes
def mp (n:Nat)(w:World)(p:Pc)(cs:List Value) : Prop:=∃ v,cs=[v,.bool p.tick]∧pJ n w v p.bytes
def sj (n:Nat)(w:World)(b:List Int)(cs:List Value) : Prop:=∃ v,cs=[v]∧pJ n w v b
abbrev iS (m:Md) (w:World) (v:Value) (ps:List Pc) : Prop:=aI m 70 2 (CJ m) w v ps
abbrev tW (n base:Nat) (w:World) (v:Value) (ps:List Pc) : Prop:=aQ base 70 2 (mp n) w v ps
theorem mp.upd{n:Nat}{w w':World}{X:List Nat}(hu:aD X w w')(hx:∀ x,x∈X→n≤x)(p:Pc)(cs:List Value)(h:mp n w p cs) : mp n w' p cs:=by
  obtain⟨v,h1,h2⟩:=h
  exact⟨v,h1,pJ.upd hu hx h2⟩
theorem sj.upd{n:Nat}{w w':World}{X:List Nat}(hu:aD X w w')(hx:∀ x,x∈X→n≤x)(p:List Int)(cs:List Value)(h:sj n w p cs) : sj n w' p cs:=by
  obtain⟨v,h1,h2⟩:=h
  exact⟨v,h1,pJ.upd hu hx h2⟩
theorem sj.ones{n:Nat}{w:World}:∀ (x:List Int)(cs:List Value),sj n w x cs→∀ v,v∈cs→v.oneCell'=true:=fun x cs ⟨v,h1,h2⟩ u hu=>by
  rw[h1,List.mem_singleton] at hu
  obtain⟨A,c,e,_⟩:=h2.1.shape
  rw[hu,e]
  rfl
theorem mp.ones{n:Nat}{w:World}:∀ (x:Pc)(cs:List Value),mp n w x cs→∀ v,v∈cs→v.oneCell'=true:=fun x cs ⟨v,h1,h2⟩ u hu=>by
  rw[h1] at hu
  obtain⟨A,c,e,_⟩:=h2.1.shape
  rcases List.mem_cons.1 hu with e2|hu
  · rw[e2,e];rfl
  · rw[List.mem_singleton] at hu;rw[hu];rfl
theorem tW.any{n base:Nat}{w:World}{v:Value}{ps:List Pc}(h:tW n base w v ps) : iS false w v ps:=aI.any h.rd fun p cs ⟨v,h1,h2⟩=>⟨v,h1,h2.1⟩
theorem iS.old{m:Md}{w w':World}{v:Value}{ps:List Pc}(h:iS m w v ps)(hu:aD [] w w') : iS m w' v ps:=aI.upd h hu (bZ.nil _ _ _) fun x cs ⟨v,h1,h2⟩=>⟨v,h1,h2.old hu⟩
theorem iS.elt{m:Md}{w:World}{A:Option Addr}{n c:Nat}{ps:List Pc}(h:iS m w (.slice A n c) ps)(j:Nat)(hj:j<ps.length) :
    ∃ b off cells t fr A' c',A=some ⟨b,off,none⟩∧w.heap[b]? = some (.cells cells t fr)∧aO m w (.slice A' (ps.getD j Pc.z).bytes.length c') (ps.getD j Pc.z).bytes∧((ps.getD j Pc.z).bytes.length≤c'∧c'≤maxLen)∧(cells.toList.drop (off+j*2)).take 2=[.slice A' (ps.getD j Pc.z).bytes.length c',.bool (ps.getD j Pc.z).tick]:=by
  obtain⟨b,off,cells,t,fr,cs,h1,h2,h3,⟨v,h4,h5⟩,h6⟩:=aI.elt h Pc.z j hj
  obtain⟨A',c',rfl,h7,h8⟩:=h5.shape
  exact⟨b,off,cells,t,fr,A',c',h1,h2,h5,⟨h7,h8⟩,h6.trans h4⟩
theorem iS.n{m:Md}{w:World}{v:Value}{ps:List Pc}(h:iS m w v ps) : aI false 70 2 (mp w.heap.size) w v ps:=aI.any h fun p cs ⟨v,h1,h2⟩=>⟨v,h1,pJ.of h2⟩
theorem RdPn.old{n:Nat}{w w':World}{v:Value}{ps:List Pc}(h:aI false 70 2 (mp n) w v ps)(hu:aD [] w w') : aI false 70 2 (mp n) w' v ps:=aI.upd h hu (bZ.nil _ _ _) fun x cs q=>mp.upd hu (fun x hx=>by cases hx) x cs q
theorem RdPn.elt{n0:Nat}{w:World}{A:Option Addr}{n c:Nat}{ps:List Pc}(h:aI false 70 2 (mp n0) w (.slice A n c) ps)(j:Nat)(hj:j<ps.length) :
    ∃ b off cells t fr A' c',A=some ⟨b,off,none⟩∧w.heap[b]? = some (.cells cells t fr)∧pJ n0 w (.slice A' (ps.getD j Pc.z).bytes.length c') (ps.getD j Pc.z).bytes∧((ps.getD j Pc.z).bytes.length≤c'∧c'≤maxLen)∧(cells.toList.drop (off+j*2)).take 2=[.slice A' (ps.getD j Pc.z).bytes.length c',.bool (ps.getD j Pc.z).tick]:=by
  obtain⟨b,off,cells,t,fr,cs,h1,h2,h3,⟨v,h4,h5⟩,h6⟩:=aI.elt h Pc.z j hj
  obtain⟨A',c',rfl,h7,h8⟩:=h5.1.shape
  exact⟨b,off,cells,t,fr,A',c',h1,h2,h5,⟨h7,h8⟩,h6.trans h4⟩
theorem BX{n:Nat}{w0 w:World}{g:Nat}{cs:Array Value}{p:Pc}(hg:w0.heap.size≤g)(hb:w.heap[g]? = some (.cells cs 70 (0,0)))(h:mp n w p cs.toList) : tW n w0.heap.size w (.slice (some ⟨g,0,none⟩) 1 1) [p]:=by
  have hl:cs.toList.length=2:=by
    obtain⟨v,h1,_⟩:=h
    rw[h1]
    rfl
  refine⟨cs.toList,⟨hl,.inr ⟨g,1,cs,rfl,hg,hb,Nat.le_refl _,by unfold maxLen;omega,by simpa using hl,by rw[List.take_of_length_le];exact Nat.le_of_eq hl⟩⟩,fun j y hj=>?_⟩
  cases j with
  | succ j=>simp at hj
  | zero =>
    have hj:p=y:=by simpa using hj
    subst hj
    exact⟨cs.toList,hl,h,fun i u hi=>by simpa using hi⟩
theorem Cv{n:Nat}{w0 w:World}{g:Nat}{cs:Array Value}{b:List Int}(hg:w0.heap.size≤g)(hb:w.heap[g]? = some (.cells cs 27 (0,0)))(h:sj n w b cs.toList) : aQ w0.heap.size 27 1 (sj n) w (.slice (some ⟨g,0,none⟩) 1 1) [b]:=by
  have hl:cs.toList.length=1:=by
    obtain⟨v,h1,_⟩:=h
    rw[h1]
    rfl
  refine⟨cs.toList,⟨hl,.inr ⟨g,1,cs,rfl,hg,hb,Nat.le_refl _,by unfold maxLen;omega,by simpa using hl,by rw[List.take_of_length_le];exact Nat.le_of_eq hl⟩⟩,fun j y hj=>?_⟩
  cases j with
  | succ j=>simp at hj
  | zero =>
    have hj:b=y:=by simpa using hj
    subst hj
    exact⟨cs.toList,hl,h,fun i u hi=>by simpa using hi⟩
section
variable {P:Program}{n:Nat}{D:List Deferred}{F:Fr}{w:World}{K:Fr→World→Prop}{Q:Exit→Act→World→Prop}{d:Option Tmp}{t:TypeId}{s:String}{af:Array Edge}{gu:Option (Nat × Bool)}
end
def XS.run (S:XS)(ps:List Pc) : XS × List Ev:=ps.foldl (fun p c=>((p.1.take c.bytes c.tick).1,p.2++(p.1.take c.bytes c.tick).2)) (S,[])
theorem nM:∀ (ps:List Pc)(S:XS)(K:List Ev),ps.foldl (fun p c=>((p.1.take c.bytes c.tick).1,p.2++(p.1.take c.bytes c.tick).2)) (S,K)=((S.run ps).1,K++(S.run ps).2)
  | [],S,K=>by simp[XS.run]
  | c :: t,S,K=>by
    unfold XS.run
    rw[List.foldl_cons,List.foldl_cons,nM t,nM t]
    simp
theorem rV(S:XS)(a b:List Pc) : S.run (a++b)=(((S.run a).1.run b).1,(S.run a).2++((S.run a).1.run b).2):=by
  unfold XS.run
  rw[List.foldl_append]
  exact nM b _ _
theorem fy{ps:List Pc}{k:Nat}(hk:k<ps.length) : ps.take (k+1)=ps.take k++[ps.getD k Pc.z]:=by
  rw[List.take_succ_eq_append_getElem hk,List.getD_eq_getElem?_getD,List.getElem?_eq_getElem hk]
  rfl
theorem nw(S:XS)(p:Pc) : S.run [p]=S.take p.bytes p.tick:=by
  unfold XS.run
  simp
theorem uI{S0 S S2:XS}{ps:List Pc}{L L2:List Ev}{k:Nat}(hk:k<ps.length)(h:(S,L)=S0.run (ps.take k))(hX:S.take (ps.getD k Pc.z).bytes (ps.getD k Pc.z).tick=(S2,L2)) : (S2,L++L2)=S0.run (ps.take (k+1)):=by
  rw[fy hk,rV,← h,nw,hX]
def el (ps:List Pc) : Nat:=gM (ps.map Pc.bytes)
theorem ga{ps:List Pc}{k:Nat}(hk:k<ps.length) : el (ps.take (k+1))=el (ps.take k)+(ps.getD k Pc.z).bytes.length:=by
  unfold el
  rw[fy hk,List.map_append,jk]
  rfl
theorem mX{ps:List Pc}{k:Nat}(hk:k<ps.length) : (ps.getD k Pc.z).bytes.length+el (ps.take k)≤el ps:=by
  have h:=ga hk
  have e:ps=ps.take (k+1)++ps.drop (k+1):=(List.take_append_drop ..).symm
  have e2:el ps=el (ps.take (k+1))+el (ps.drop (k+1)):=by
    conv=>lhs;rw[e]
    unfold el
    rw[List.map_append,jk]
  omega
theorem bH.take_le{n base s g c:Nat}{w:World}{A:Option Addr}{S S2:XS}{b:List Int}{t:Bool}{L:List Ev}(h:bH n base w s g A c S)(hb:∀ x,x∈b→0≤x∧x<256)(hX:S.take b t=(S2,L)) : L.length≤b.length+2:=by
  have e:L=(S.take b t).2:=(congrArg Prod.snd hX).symm
  rw[e]
  have h:=h.2
  have hf:(S.feed b).2.length≤b.length+1:=by
    cases S with
    | r S=>exact Nat.le_trans (SS.feed_le (S:=S) (b:=b) rfl) (by omega)
    | a S=>exact Nat.le_trans (SA.feed_le h.2.2.1 hb rfl) (by omega)
    | m S=>exact Nat.le_trans (SM.feed_le h.2.2.1 hb rfl) (by omega)
  have ht:(S.feed b).1.tick.2.length≤1:=by
    cases S with
    | r S=>exact SS.tick_le (S:=(S.feed b).1) rfl
    | a S=>exact Nat.zero_le _
    | m S=>exact Nat.zero_le _
  unfold XS.take
  cases t
  · exact Nat.le_trans hf (by omega)
  · show(((S.feed b).2++(S.feed b).1.tick.2:List Ev)).length≤_
    rw[List.length_append]
    omega
open Go.RowKit
theorem OwnS.any{n base:Nat}{w:World}{v:Value}{ls:List (List Int)}(h:aQ base 27 1 (sj n) w v ls) : p9 false w v ls:=aI.any h.rd fun p cs ⟨v,h1,h2⟩=>⟨v,h1,h2.1⟩
theorem xU{L ps:List Pc}{k:Nat}(hL:L=ps.take k)(hk:k<ps.length) : L++[Pc.mk (ps.getD k Pc.z).bytes (ps.getD k Pc.z).tick]=ps.take (k+1):=by rw[fy hk,hL]
theorem xL{L:List (List Int)}{ps:List Pc}{k:Nat}(hL:L=(ps.take k).map Pc.bytes)(hk:k<ps.length) : L++[(ps.getD k Pc.z).bytes]=(ps.take (k+1)).map Pc.bytes:=by rw[fy hk,List.map_append,hL];rfl
theorem pT{m:Md}{A:Option Addr}{cp:Nat}{ps:List Pc}{w:World}(h:iS m w (.slice A ps.length cp) ps)(hps:ps.length≤4398046511104)(hbb:∀ p,p∈ps→p.bytes.length≤140737488355328) : Calls Tryz.prog 33 #[.slice A ps.length cp] w (bD (.bool (gK (ps.map Pc.bytes))) w):=by
 have hz:=aI.len h
 refine en 21 Tryz.func33 rfl<|ak 1<|cy 1<|sq<|ax 1<|bk<|?_
 refine fE (fun x=>[(0,.slice A ps.length cp),(2,.bool false),(3,.slice x.2.2.1 x.2.1.length x.2.2.2),(4,vI (x.1:Int))]) (fun(x:Nat × List (List Int) × Option Addr × Nat) w'=>aD [] w w'∧aQ w.heap.size 27 1 (sj w.heap.size) w' (.slice x.2.2.1 x.2.1.length x.2.2.2) x.2.1∧(x.1≤ps.length)∧(x.2.1.length≤x.1)∧(x.2.1=(ps.take x.1).map Pc.bytes)) (fun x=>ps.length-x.1) (0,[],none,0) ⟨aD.refl _ _,(aQ.nil w.heap.size _ _ (sj w.heap.size) _),(by(try dsimp only);omega),(by(try dsimp only);exact Nat.le_refl _),rfl⟩ ?_
 rintro⟨k,L,B,cq⟩ q ⟨a,r,s,t,u⟩
 refine eH [(0,.slice A ps.length cp),(2,.bool false),(3,.slice B L.length cq),(4,vI (k:Int))] ?_
 have c:aQ w.heap.size 27 1 (sj w.heap.size) q (.slice B L.length cq) L:=r
 have R:k≤ps.length:=s
 have S:L.length≤k:=t
 have i:L=(ps.take k).map Pc.bytes:=u
 refine sq<|ax 4<|cb ((decide ((k:Int)<(ps.length:Int)))) (fun d=>?_) (fun d=>?_)
 have y:=of_decide_eq_true d
 refine bp<|sq<|bk<|go<|Pl 3<|l0 (iS.elt h k (by omega)) fun C D T U V j l E F G W H=>L0<|lx 2 ps.length k E (by omega)<|Pl 1<|?_
 refine L0<|dX (p:=⟨C,D+k*2+0,none⟩) (v:=.slice j ((ps.getD k Pc.z).bytes.length) l) (eJ (ub a F) H 0 rfl (by decide))<|L0<|ep (m:=1) (e:=27) #[.slice j ((ps.getD k Pc.z).bytes.length) l] fun X Y I J f=>?_
 have g:=aM a f
 have K:=Cv (n:=w.heap.size) (b:=(ps.getD k Pc.z).bytes) I J (⟨_,rfl,pJ.upd g (fun x hx=>by cases hx) (pJ.of (G))⟩)
 have o:=ai c f (fun x hx=>ay) (sj.upd f (fun x hx=>by cases hx))
 refine L0<|Bx (xs:=L) (ys:=([(ps.getD k Pc.z).bytes])) nS 1 24 o (K).rd sj.ones (fun w' hv=>sj.upd hv (aB (fun x hx=>Nat.le_trans lr (gS o x hx)) aA)) (by(try simp only[cD,aN]);omega) (by(try simp only[cD,aN]);omega) g.size fun M N Z O P a0=>Pl 1<|nl<|bn<|tn<|go<|Pl 1<|b6 ((k:Int)+1)<|Pl 1<|nl<|?_
 exact dH ((k+1),(L++[(ps.getD k Pc.z).bytes]),M,N) ⟨(ut g P (aB (bE c lr) aA)),O,(by(try dsimp only);omega),(by(try dsimp only);simp only[cD];omega),(by(try dsimp only);exact xL i (by omega))⟩ (by omega)
 have y:=of_decide_eq_false d
 refine xt<|tx<|tx<|bx<|tn<|ak 1<|?_
 have hs:L=ps.map Pc.bytes:=by rw[i,List.take_of_length_le (by omega)]
 have hbb2:∀ x,x∈L→x.length≤140737488355328:=by rw[hs];intro x hx;obtain⟨p,hp,rfl⟩:=List.mem_map.1 hx;exact hbb p hp
 refine az<|m1 (tj (OwnS.any c) hbb2) fun a1 Q=>aj 1<|rt<|rr (.bool (gK L))<|?_
 rw[hs]
 exact⟨rfl,(aM a Q)⟩
open Go.RowKit
theorem Bk{n n0 base s g c:Nat}{w:World}{A:Option Addr}{S:XS}{X:List Nat}(h:bH n0 base w s g A c S)(k:s6 n X w) : s6 n (g :: X) w:=by
  obtain⟨t,cs,fr,q,h1,_⟩:=h.2.cells
  exact fe q h1 k
theorem xq{S0 S:XS}{L:List Ev}{ps:List Pc}{k:Nat}(h:(S,L)=XS.run S0 (ps.take k))(hk:ps.length≤k) : XS.run S0 ps=(S,L):=by
  rw[List.take_of_length_le hk] at h
  exact h.symm
def BD (r:XS × List Ev)(w:World)(e:Ending)(w':World) : Prop:=∃ v,e = .returned (.tuple #[v,.int .i64 ((r.1.held.length:Nat) : Int)])∧lT w.heap.size w' v r.2∧aD [] w w'
theorem vx{m:Md}{A:Option Addr}{cp:Nat}{ps:List Pc}{w:World}{k0 d:Int}(hk:k0=0∨k0=1∨k0=2)(hd:d=0∨d=1)(h:iS m w (.slice A ps.length cp) ps)(hps:ps.length≤1000)(hsum:el ps≤100000) : Calls Tryz.prog 34 #[vI k0,vI d,.slice A ps.length cp] w (BD (XS.run (XS.zero k0 d) ps) w):=by
 have hz:=aI.len h
 refine en 32 Tryz.func34 rfl<|ak 2<|aL 2<|az (args:=#[vI k0,vI d])<|D6 (rN (k:=k0) (d:=d) hk hd) fun b i T ah G U H=>aj 1<|sq<|ax 2<|c0<|bp<|ax 1<|sq<|ax 3<|bk<|?_
 refine fE (fun x=>[(6,nS),(7,vI 0),(8,vP b 0),(9,.slice x.2.2.2.2.2.1 x.2.2.1.length x.2.2.2.2.2.2.1),(17,.slice A ps.length cp),(18,vI (ps.length:Int)),(19,vI (x.1:Int))]) (fun(x:Nat × XS × List Ev × Option Addr × Nat × Option Addr × Nat × Nat) w'=>aD [] w w'∧T.heap.size≤w'.heap.size∧bH x.2.2.2.2.2.2.2 w.heap.size w' b i x.2.2.2.1 x.2.2.2.2.1 x.2.1∧cZ x.2.2.2.2.2.2.2 w.heap.size w' (.slice x.2.2.2.2.2.1 x.2.2.1.length x.2.2.2.2.2.2.1) x.2.2.1∧(x.1≤ps.length)∧((x.2.1,x.2.2.1)=XS.run (XS.zero k0 d) (ps.take x.1))∧(x.2.2.1.length≤el (ps.take x.1)+2*x.1)) (fun x=>ps.length-x.1) (0,(XS.zero k0 d),[],none,0,none,0,w.heap.size) ⟨H,lr,U,(aQ.nil w.heap.size _ _ (bz w.heap.size w.heap.size) _),(by(try dsimp only);omega),rfl,(by(try dsimp only);exact Nat.zero_le _)⟩ ?_
 rintro⟨k,S,L,Ah,ch,Bq,cq,n⟩ I ⟨l,J,V,W,X,Y,Z⟩
 refine eH [(6,nS),(7,vI 0),(8,vP b 0),(9,.slice Bq L.length cq),(17,.slice A ps.length cp),(18,vI (ps.length:Int)),(19,vI (k:Int))] ?_
 have a:bH n w.heap.size I b i Ah ch S:=V
 have c:cZ n w.heap.size I (.slice Bq L.length cq) L:=W
 have al:k≤ps.length:=X
 have K:(S,L)=XS.run (XS.zero k0 d) (ps.take k):=Y
 have am:L.length≤el (ps.take k)+2*k:=Z
 refine ax 1<|sq<|cb ((decide ((k:Int)<(ps.length:Int)))) (fun o=>?_) (fun o=>?_)
 have a0:=of_decide_eq_true o
 refine bp<|sq<|bk<|sg<|l0 (iS.elt h k (by omega)) fun an ao ap aq ar p r a1 a2 s au a3=>L0<|lx 2 ps.length k a1 (by omega)<|?_
 refine L0<|Bl [.slice p ((ps.getD k Pc.z).bytes.length) r,.bool ((ps.getD k Pc.z).tick)] (ub l a2) a3<|aK #[nS,.bool false] fun av aw a4 a5 t=>aE a5 #[.slice p ((ps.getD k Pc.z).bytes.length) r,.bool ((ps.getD k Pc.z).tick)] fun aC a6 u=>nt<|go<|Pl 2<|L0<|cO a6<|?_
 have v:=ud t u a4
 have B:=aM l v
 have M:=aO.old s B
 have hpart:=mX (ps:=ps) (k:=k) (by omega)
 have C:=bH.old a v
 refine pr (XS.take S ((ps.getD k Pc.z).bytes) ((ps.getD k Pc.z).tick)) fun a7 N D=>?_
 have aF:=bH.take_le C (aO.range M) D
 refine az (args:=#[vP b 0,.agg #[.slice p ((ps.getD k Pc.z).bytes.length) r,.bool ((ps.getD k Pc.z).tick)]])<|(uY D C M (vZ (aI.low (s)) G) (fG (aI.low (s)) (bH.row C) lr) (by omega)).mono ?_
 rintro _ aG ⟨aH,a8,a9,O,rfl,ab,f,aJ,ad,j⟩
 refine⟨_,rfl,?_⟩
 have P:=ab
 obtain⟨aP,aR,rfl,aS,aT⟩:=aI.shape P.rd
 have Q:=ut (aD.mono (S':=(i :: (ob Ah++[]))) v aA) j (ac im (aB il aA))
 have g:=ai c Q (fun x hx=>(aa (fun e=>(bH.gx a c (by decide)) (e▸hx)) (aZ ((cz c (bH.row a) (by decide)) x hx) ay))) (fun x cs q=>bz.upd Q (Bk a (gX (rp (Nat.le_refl _) (bH.low a)) bW)) q)
 refine L0<|eb (R:=bz w.heap.size O) (xs:=L) (ys:=N) (.agg #[vI 0,vB 0,vW 0,vB 0,vB 0,vW 0,vW 0,vW 0,vW 0,vW 0,vW 0,vW 0,vW 0,vW 0,vW 0,nS,nS,nS,nS,vB 0,vB 0,vB 0,vB 0,vB 0,nS]) 25 168 (cZ.up ad (bH.nle f) g) ((cZ.lo P B.size)).rd bz.ones (fun w' hv x cs q=>bz.upd hv (iW g (by decide) bW) q) (by(try simp only[cD,aN]);omega) (le (le (le (le H.size J) t.size) u.size) j.size) fun ae af aU ag E aV=>Pl 1<|nl<|bn<|tn<|go<|b6 ((k:Int)+1)<|Pl 1<|nl<|?_
 exact dH ((k+1),a7,(L++N),a8,a9,ae,af,O) ⟨(ut B (ut (aD.mono (S':=(i :: (ob Ah++(ob Bq++[])))) j (ac im (aB il aA))) E (aB il aA)) (ac (nr G) (aB (bE (bH.row a) lr) (aB (bE c lr) aA)))),(le (le (le (le J t.size) u.size) j.size) E.size),(bH.upd f E (aZ (tL (bH.cells f) g (by decide)) ay) (aZ (bH.gx f g (by decide)) ay) (fun x hx=>(aZ ((cz (bH.row f) g (by decide)) x hx) ay))),ag,(by(try dsimp only);omega),(by(try dsimp only);exact uI (by omega) K D),(by(try dsimp only);have y:=ga (ps:=ps) (k:=k) (by omega);simp only[List.length_append];omega)⟩ (by omega)
 have a0:=of_decide_eq_false o
 refine xt<|tx<|tx<|bx<|tn<|ak 2<|az<|m1 (uG a) fun aW F=>aj 2<|rt<|rr (.tuple #[.slice Bq L.length cq,vI (S.held.length:Int)])<|?_
 have hs:XS.run (XS.zero k0 d) ps=(S,L):=xq K (by omega)
 rw[hs]
 exact⟨_,rfl,cZ.own (ai c F (fun x hx=>ay) (fun x cs q=>bz.upd F bW q)),(aM l F)⟩
theorem rM{m:Md}{v:Value}{ps:List Pc}{w:World}{k0 d:Int}(hk:k0=0∨k0=1∨k0=2)(hd:d=0∨d=1)(h:iS m w v ps)(hps:ps.length≤1000)(hsum:el ps≤100000) : Calls Tryz.prog 34 #[.int .i64 k0,.int .i64 d,v] w (BD (XS.run (XS.zero k0 d) ps) w):=by
  obtain⟨A,cp,rfl,_,_⟩:=h.shape
  exact vx hk hd h hps hsum
open Go.RowKit
theorem kn.ones{m:Md}{w:World}(x:bq)(cs:List Value)(h:kn m w x cs) : ∀ v,v∈cs→v.oneCell'=true:=by
  obtain⟨s,h1,h2,_⟩:=h
  have h3:=h2.one
  intro v hv
  rw[h1,jJ,Array.toList_append,List.mem_append] at hv
  rw[Array.all_eq_true'] at h3
  rcases hv with hv|hv
  · simp at hv;rcases hv with rfl | rfl<;>rfl
  · exact h3 v (by simpa using hv)
theorem AP{w0 w:World}{g:Nat}{cs:Array Value}{x:bq}(hg:w0.heap.size≤g)(hb:w.heap[g]? = some (.cells cs 47 (0,0)))(h:kn true w x cs.toList) : aQ w0.heap.size 47 24 (kn true) w (.slice (some ⟨g,0,none⟩) 1 1) [x]:=by
  have hh:=h
  obtain⟨s,h1,h2⟩:=hh
  have hl:cs.toList.length=24:=by rw[h1];kernel_rfl
  clear h1
  refine⟨cs.toList,⟨hl,.inr ⟨g,1,cs,rfl,hg,hb,Nat.le_refl _,by unfold maxLen;omega,by simpa using hl,by rw[List.take_of_length_le];exact Nat.le_of_eq hl⟩⟩,fun j y hj=>?_⟩
  cases j with
  | succ j=>simp at hj
  | zero =>
    have hj:x=y:=by simpa using hj
    subst hj
    exact⟨cs.toList,hl,h,fun i u hi=>by simpa using hi⟩
def aF (L:List Ev) : List bq:=(L.filter fun x=>x.e==0).map (·.f)
theorem kI{L:List Ev}{fs:List bq}{k:Nat}(hk:k<L.length)(h:fs=aF (L.take k)) : (((L.getD k (Ev.bad 0)).e==0)=true→fs++[(L.getD k (Ev.bad 0)).f]=aF (L.take (k+1)))∧(((L.getD k (Ev.bad 0)).e==0)=false→fs=aF (L.take (k+1))):=by
  have e:aF (L.take (k+1))=aF (L.take k)++aF [L.getD k (Ev.bad 0)]:=by
    unfold aF
    rw[List.take_succ_eq_append_getElem hk,List.getD_eq_getElem?_getD,List.getElem?_eq_getElem hk,List.filter_append,List.map_append]
    rfl
  rw[e,← h]
  refine⟨fun q=>?_,fun q=>?_⟩
  · unfold aF;rw[List.filter_cons,if_pos q];rfl
  · unfold aF;rw[List.filter_cons,if_neg (by rw[q];simp)];simp
theorem oM{A:Option Addr}{cp:Nat}{L:List Ev}{w:World}(h:nq true w (.slice A L.length cp) L)(hL:L.length≤200000) : Calls Tryz.prog 38 #[.slice A L.length cp] w (fun e w'=>∃ v,e = .returned v∧aQ w.heap.size 47 24 (kn true) w' v (aF L)∧aD [] w w'):=by
 have hz:=aI.len h
 refine en 22 Tryz.func38 rfl<|ak 1<|cy 1<|sq<|ax 3<|bk<|?_
 refine fE (fun x=>[(2,nS),(3,.slice x.2.2.1 x.2.1.length x.2.2.2),(6,.slice A L.length cp),(7,vI (L.length:Int)),(8,vI (x.1:Int))]) (fun(x:Nat × List bq × Option Addr × Nat) w'=>aD [] w w'∧aQ w.heap.size 47 24 (kn true) w' (.slice x.2.2.1 x.2.1.length x.2.2.2) x.2.1∧(x.1≤L.length)∧(x.2.1.length≤x.1)∧(x.2.1=aF (L.take x.1))) (fun x=>L.length-x.1) (0,[],none,0) ⟨aD.refl _ _,(aQ.nil w.heap.size _ _ (kn true) _),(by(try dsimp only);omega),(by(try dsimp only);exact Nat.le_refl _),rfl⟩ ?_
 rintro⟨k,fs,B,cq⟩ t ⟨g,u,y,z,C⟩
 refine eH [(2,nS),(3,.slice B fs.length cq),(6,.slice A L.length cp),(7,vI (L.length:Int)),(8,vI (k:Int))] ?_
 have c:aQ w.heap.size 47 24 (kn true) t (.slice B fs.length cq) fs:=u
 have U:k≤L.length:=y
 have V:fs.length≤k:=z
 have i:fs=aF (L.take k):=C
 refine ax 1<|sq<|cb ((decide ((k:Int)<(L.length:Int)))) (fun j=>?_) (fun j=>?_)
 have D:=of_decide_eq_true j
 refine bp<|sq<|bk<|sg<|Ak (nq.elt h k (by omega) (Ev.bad 0)) fun W X Y Z a0 a E F n G=>L0<|lx 25 L.length k E (by omega)<|?_
 refine L0<|Bl [vI ((L.getD k (Ev.bad 0)).e),vB ((L.getD k (Ev.bad 0)).f.unit),vW ((L.getD k (Ev.bad 0)).f.tid),vB ((L.getD k (Ev.bad 0)).f.msg.code),vB ((L.getD k (Ev.bad 0)).f.msg.fail),vW ((L.getD k (Ev.bad 0)).f.msg.addr),vW ((L.getD k (Ev.bad 0)).f.msg.count),vW ((L.getD k (Ev.bad 0)).f.msg.value),vW ((L.getD k (Ev.bad 0)).f.msg.and_),vW ((L.getD k (Ev.bad 0)).f.msg.or_),vW ((L.getD k (Ev.bad 0)).f.msg.addr2),vW ((L.getD k (Ev.bad 0)).f.msg.sub),vW ((L.getD k (Ev.bad 0)).f.msg.status),vW ((L.getD k (Ev.bad 0)).f.msg.events),vW ((L.getD k (Ev.bad 0)).f.msg.messages),.slice a.aw ((L.getD k (Ev.bad 0)).f.msg.words.length) a.kw,.slice a.ab ((L.getD k (Ev.bad 0)).f.msg.bits.length) a.kb,.slice a.ad ((L.getD k (Ev.bad 0)).f.msg.data.length) a.kd,.slice a.ar ((L.getD k (Ev.bad 0)).f.msg.recs.length) a.kr,vB ((L.getD k (Ev.bad 0)).f.msg.mei),vB ((L.getD k (Ev.bad 0)).f.msg.kind),vB ((L.getD k (Ev.bad 0)).f.msg.level),vB ((L.getD k (Ev.bad 0)).f.msg.more),vB ((L.getD k (Ev.bad 0)).f.msg.next),.slice a.ao ((L.getD k (Ev.bad 0)).f.msg.objects.length) a.ko] (ub g F) G<|aK #[vI 0,vB 0,vW 0,vB 0,vB 0,vW 0,vW 0,vW 0,vW 0,vW 0,vW 0,vW 0,vW 0,vW 0,vW 0,nS,nS,nS,nS,vB 0,vB 0,vB 0,vB 0,vB 0,nS] fun a1 a2 H I J=>aE I (lV ⟨(L.getD k (Ev.bad 0)).e,(L.getD k (Ev.bad 0)).f⟩ a) fun a3 o K=>aL 1<|aH o 0<|aj 1<|?_
 have d:=ud J K H
 have p:=aM g d
 refine cb ((((L.getD k (Ev.bad 0)).e)==0)) (fun b=>?_) (fun b=>?_)
 have M:=am b
 refine go<|Pl 2<|L0<|Bn o 1 24<|L0<|ep (m:=1) (e:=47) (k9 ((L.getD k (Ev.bad 0)).f.unit) ((L.getD k (Ev.bad 0)).f.tid) ((L.getD k (Ev.bad 0)).f.msg) a) fun a4 a5 N O q=>?_
 have l:=aM p q
 have P:=AP N O ⟨a,rfl,(aS.old (n.1) l),n.2⟩
 have r:=aM d q
 have s:=ai c r (fun x hx=>ay) (kn.upd r aC)
 refine L0<|eb (xs:=fs) (ys:=([(L.getD k (Ev.bad 0)).f])) (.agg uD) 24 160 s (P).rd kn.ones (fun w' hv=>kn.upd hv (b9 (bi _ s (by decide)) aC)) (by(try simp only[cD,aN]);omega) l.size fun Q R a6 S T a7=>Pl 1<|nl<|bn<|tn<|go<|b6 ((k:Int)+1)<|Pl 1<|nl<|?_
 exact dH ((k+1),(fs++[(L.getD k (Ev.bad 0)).f]),Q,R) ⟨(ut l T (aB (bE c lr) aA)),S,(by(try dsimp only);omega),(by(try dsimp only);(try simp only[cD]);omega),(by(try dsimp only);exact(kI (by omega) i).1 b)⟩ (by omega)
 have M:=au b
 refine sk<|bn<|tn<|go<|b6 ((k:Int)+1)<|Pl 1<|nl<|?_
 exact dH ((k+1),fs,B,cq) ⟨p,(ai c d (fun x hx=>ay) (kn.upd d aC)),(by(try dsimp only);omega),(by(try dsimp only);(try simp only[cD]);omega),(by(try dsimp only);exact(kI (by omega) i).2 b)⟩ (by omega)
 have D:=of_decide_eq_false j
 refine xt<|tx<|tx<|bx<|tn<|ax 2<|rt<|rr (.slice B fs.length cq)<|?_
 have hs:fs=aF L:=by rw[i,List.take_of_length_le (by omega)]
 exact⟨_,rfl,by rw[← hs];exact c,g⟩
theorem lA{v:Value}{L:List Ev}{w:World}(h:nq true w v L)(hL:L.length≤200000) : Calls Tryz.prog 38 #[v] w (fun e w'=>∃ v,e = .returned v∧aQ w.heap.size 47 24 (kn true) w' v (aF L)∧aD [] w w'):=by
  obtain⟨A,cp,rfl,_,_⟩:=h.shape
  exact oM h hL
open Go.RowKit
theorem w8{ps:List Pc}(h:gK (ps.map Pc.bytes)=true) : ps.length≤60∧el ps≤3000:=by
  unfold gK at h
  rw[Bool.and_eq_true,decide_eq_true_eq,decide_eq_true_eq,List.length_map] at h
  exact h
theorem fU{ps:List Pc}(m:Nat) : el (ps.take m)≤el ps:=by
  have e2:el (ps.take m++ps.drop m)=el (ps.take m)+el (ps.drop m):=by
    unfold el
    rw[List.map_append,jk]
  rw[List.take_append_drop] at e2
  omega
open Go.RowKit
theorem xW{w:World}{g:Nat}{cs:Array Value}{t:TypeId}{fr:Nat × Nat}{ps:List Pc}(hb:w.heap[g]? = some (.cells cs t fr))(hl:ps.length≤maxLen)(h:∀ j,j<ps.length→∃ v,(cs.toList.drop (j*2)).take 2=[v,.bool (ps.getD j Pc.z).tick]∧aO false w v (ps.getD j Pc.z).bytes) : iS false w (.slice (some ⟨g,0,none⟩) ps.length ps.length) ps:=by
  refine⟨_,_,rfl,Nat.le_refl _,hl,(fun e=>by cases e),fun hp=>⟨g,0,cs,t,fr,rfl,hb,(fun e=>by cases e),fun j x hj=>?_⟩⟩
  have hlt:=(List.getElem?_eq_some_iff.1 hj).1
  obtain⟨v,h1,h2⟩:=h j hlt
  have hx:ps.getD j Pc.z=x:=by rw[List.getD_eq_getElem?_getD,hj];rfl
  rw[hx] at h1 h2
  refine⟨[v,.bool x.tick],rfl,⟨v,rfl,h2⟩,fun i u hi=>?_⟩
  rw[← h1] at hi
  rw[List.getElem?_take] at hi
  split at hi
  · rw[List.getElem?_drop] at hi
    rw[Nat.zero_add,← Array.getElem?_toList]
    exact hi
  · cases hi
theorem BB{m m':Md}{w:World}{g:Nat}{t:TypeId}{fr:Nat × Nat}{v v':Value}{p p':Pc}(hb:w.heap[g]? = some (.cells #[v,.bool p.tick,v',.bool p'.tick] t fr))(h:aO m w v p.bytes)(h':aO m' w v' p'.bytes) : iS false w (.slice (some ⟨g,0,none⟩) 2 2) [p,p']:=by
  refine xW (ps:=[p,p']) hb (by unfold maxLen;simp) fun j hj=>?_
  match j,hj with
  | 0,_=>exact⟨v,rfl,aI.any h fun _ _ q=>q⟩
  | 1,_=>exact⟨v',rfl,aI.any h' fun _ _ q=>q⟩
theorem tO{m:Md}{v:Value}{ps:List Pc}{w:World}{k0 d:Int}{S:XS}{L:List Ev}(hX:XS.run (XS.zero k0 d) ps=(S,L))(hk:k0=0∨k0=1∨k0=2)(hd:d=0∨d=1)(h:iS m w v ps)(hps:ps.length≤1000)(hsum:el ps≤100000) : Calls Tryz.prog 34 #[.int .i64 k0,.int .i64 d,v] w (fun e w'=>∃ v,e = .returned (.tuple #[v,.int .i64 ((S.held.length:Nat) : Int)])∧lT w.heap.size w' v L∧aD [] w w'):=by
  have k:=rM hk hd h hps hsum
  rw[hX] at k
  exact k
theorem uq{m:Md}{v:Value}{ps:List Pc}{w:World}(h:iS m w v ps)(hbb:∀ p,p∈ps→p.bytes.length≤140737488355328)(hps:ps.length≤4398046511104) : Calls Tryz.prog 33 #[v] w (bD (.bool (gK (ps.map Pc.bytes))) w):=by
  obtain⟨A,cp,rfl,_,_⟩:=h.shape
  exact pT h hps hbb
open Go.RowKit
theorem Bf:dM 0 [1,7,65,226]=(⟨1,0,to⟩,0):=by decide +kernel
theorem AQ:XS.run (XS.zero 0 0) [Pc.mk [1,7] false,Pc.mk [65,226] true]=((XS.r ⟨0,[],false⟩),[⟨0,⟨1,0,to⟩⟩]):=by
  have e1:(SS.mk 0 [] false).feed [1,7]=(SS.mk 0 [1,7] false,[]):=rfl
  have e2:(SS.mk 0 [1,7] false).feed [65,226]=(SS.mk 0 [1,7,65,226] false,[]):=rfl
  have e3:(SS.mk 0 [1,7,65,226] false).tick=(SS.mk 0 [] false,[⟨0,⟨1,0,to⟩⟩]):=by
    unfold SS.tick
    rw[if_neg (by decide),Bf]
  have h1:(XS.zero 0 0).take [1,7] false=(XS.r (SS.mk 0 [1,7] false),[]):=rfl
  have h2:(XS.r (SS.mk 0 [1,7] false)).take [65,226] true=((XS.r ⟨0,[],false⟩),[⟨0,⟨1,0,to⟩⟩]):=by
    show(XS.r ((SS.mk 0 [1,7] false).feed [65,226]).1.tick.1,((SS.mk 0 [1,7] false).feed [65,226]).2++((SS.mk 0 [1,7] false).feed [65,226]).1.tick.2)=_
    rw[e2,e3]
    rfl
  have g1:(XS.zero 0 0).run [Pc.mk [1,7] false]=(XS.r (SS.mk 0 [1,7] false),[]):=(nw _ _).trans h1
  have g2:(XS.r (SS.mk 0 [1,7] false)).run [Pc.mk [65,226] true]=((XS.r ⟨0,[],false⟩),[⟨0,⟨1,0,to⟩⟩]):=(nw _ _).trans h2
  rw[show[Pc.mk [1,7] false,Pc.mk [65,226] true]=[Pc.mk [1,7] false]++[Pc.mk [65,226] true] from rfl,rV,g1]
  show(((XS.r (SS.mk 0 [1,7] false)).run [Pc.mk [65,226] true]).1,[]++((XS.r (SS.mk 0 [1,7] false)).run [Pc.mk [65,226] true]).2)=_
  rw[g2]
  rfl
theorem yP{w:World}:Calls Tryz.prog 32 #[] w (bD (.bool true) w):=by
 refine en 39 Tryz.func32 rfl<|sg<|Pl 1<|ng<|L0<|ep (m:=2) (e:=5) #[.int .u8 1,.int .u8 7] fun k E l n o=>?_
 have q:=kv l (xs:=[1,7]) (by as_aux_lemma=>kernel_rfl) (aV (by omega) (aV (by omega) dc)) (by(try simp only[List.length_cons,List.length_nil]);omega) n
 refine Pl 1<|L0<|ep (m:=2) (e:=5) #[.int .u8 65,.int .u8 226] fun r F s t u=>?_
 have y:=kv s (xs:=[65,226]) (by as_aux_lemma=>kernel_rfl) (aV (by omega) (aV (by omega) dc)) (by(try simp only[List.length_cons,List.length_nil]);omega) t
 refine Pl 1<|L0<|ep (m:=2) (e:=70) #[.slice (some ⟨k,0,none⟩) 2 2,.bool false,.slice (some ⟨r,0,none⟩) 2 2,.bool true] fun z G H A a=>?_
 have b:=aM u a
 have B:=BB (p:=(Pc.mk ([1,7]) false)) (p':=(Pc.mk ([65,226]) true)) A ((ai q b (fun x hx=>ay) (fun _ _ h=>h))).rd ((ai y a (fun x hx=>ay) (fun _ _ h=>h))).rd
 refine L0<|Oc (args:=#[.int .i64 0,.int .i64 0,.slice (some ⟨z,0,none⟩) 2 2])<|nk (tO AQ (show 0=0∨0=1∨0=2 by decide) (show 0=0∨0=1 by decide) B (by decide) (by decide)) fun I J K c M N C=>Pl 5<|nt<|sq<|sg<|Pl 3<|nt<|c0<|bp<|sq<|?_
 refine go<|Pl 1<|Ak (nq.elt (c).rd 0 (by decide) (Ev.bad 0)) fun d f O P Q R g i S j=>L0<|lx 25 1 0 g (by omega)<|Pl 1<|L0<|dX (p:=⟨d,f+0*25+0,none⟩) (v:=.int .i64 0) (eJ i j 0 (by kernel_rfl) (by decide))<|Pl 3<|L1<|lx 25 1 0 g (by omega)<|Pl 3<|L1<|dX (p:=⟨d,f+0*25+1+2+0,none⟩) (v:=.int .u8 7) (eJ i j 3 (by kernel_rfl) (by decide))<|Pl 8<|L1<|Oc<|nk (lA (L:=[⟨0,⟨1,0,to⟩⟩]) (c).rd (by decide)) fun T U V W X Y D=>Pl 4<|nl<|?_
 refine tn<|rt<|rr (.bool true)<|?_
 exact⟨rfl,(aM o (aM b (aM C D)))⟩
open Go.RowKit
theorem q7{m m':Md}{A B:Option Addr}{c d:Nat}{xs ys:List Int}{w:World}(h1:aO m w (.slice A xs.length c) xs)(h2:aO m' w (.slice B ys.length d) ys) :
    Calls Tryz.prog 29 #[.slice A xs.length c,.slice B ys.length d] w (bD (.bool (decide (xs=ys))) w):=by
 exact en 10 Tryz.func29 rfl<|ak 1<|aL 1<|L0<|f9 (.string (strOfNums xs)) (cm (A:=A) (n:=xs.length) (c:=c) rfl (by kernel_rfl) Tryz.underlying27 Tryz.underlying5 Tryz.underlying9 h1)<|Pl 1<|L0<|f9 (.string (strOfNums ys)) (cm (A:=B) (n:=ys.length) (c:=d) rfl (by kernel_rfl) Tryz.underlying27 Tryz.underlying5 Tryz.underlying9 h2)<|L0<|f9 (.bool (decide (xs=ys))) (fz (a:=(strOfNums xs)) (b:=(strOfNums ys)) rfl (by kernel_rfl) (by kernel_rfl) (iR h1 h2))<|Pl 1<|nl<|tn<|rt<|rr (.bool (decide (xs=ys)))<|⟨rfl,(aD.refl [] _)⟩
theorem n9{m m':Md}{a b:Value}{xs ys:List Int}{w:World}(h1:aO m w a xs)(h2:aO m' w b ys) : Calls Tryz.prog 29 #[a,b] w (bD (.bool (decide (xs=ys))) w):=by
  obtain⟨A,c,rfl,_,_⟩:=h1.shape
  obtain⟨B,d,rfl,_,_⟩:=h2.shape
  exact q7 h1 h2
open Go.RowKit
theorem gE{α:Type}{xs ys:List α}{k:Nat}(h:xs.take k=ys.take k)(h1:k=xs.length)(h2:xs.length=ys.length) : xs=ys:=by
  rw[List.take_of_length_le (by omega),List.take_of_length_le (by omega)] at h
  exact h
theorem mb{m m':Md}{A B:Option Addr}{c d:Nat}{xs ys:List Int}{w:World}(h1:fg m w (.slice A xs.length c) xs)(h2:fg m' w (.slice B ys.length d) ys) :
    Calls Tryz.prog 68 #[.slice A xs.length c,.slice B ys.length d] w (bD (.bool (decide (xs=ys))) w):=by
 have hz1:=aI.len h1
 have hz2:=aI.len h2
 refine en 26 Tryz.func68 rfl<|ax 1<|sq<|ax 5<|cb ((((xs.length:Nat) : Int)!=((ys.length:Nat) : Int))) (fun g=>?_) (fun g=>?_)
 have j:=av g
 refine ax 1<|bh<|rr (.bool false)<|?_
 have hs:decide (xs=ys)=false:=decide_eq_false (fun e=>by rw[e] at j;omega)
 rw[hs]
 exact⟨rfl,(aD.refl [] _)⟩
 have j:=aJ g
 refine bp<|sq<|ax 1<|bk<|?_
 refine fE (fun x=>[(0,.slice A xs.length c),(1,.slice B ys.length d),(5,vI ((x:Nat) : Int))]) (fun(x:Nat) w'=>aD [] w w'∧(xs.take x=ys.take x)∧(x≤xs.length)) (fun x=>xs.length-x) 0 ⟨aD.refl _ _,(by(try dsimp only);simp),(by(try dsimp only);omega)⟩ ?_
 rintro k E ⟨b,p,q⟩
 refine eH [(0,.slice A xs.length c),(1,.slice B ys.length d),(5,vI ((k:Nat) : Int))] ?_
 have l:xs.take k=ys.take k:=p
 have F:k≤xs.length:=q
 refine sq<|ax 4<|cb ((decide (((k:Nat) : Int)<((xs.length:Nat) : Int)))) (fun h=>?_) (fun h=>?_)
 have r:=of_decide_eq_true h
 refine bp<|sq<|bk<|sq<|?_
 refine ea (fg.at_ (fg.old h1 b) k (by omega)) fun s t u v G=>?_
 refine ea (fg.at_ (fg.old h2 b) k (by omega)) fun y z C D H=>Rg 9 (fun w'=>w'.cell? ⟨s,t+k,none⟩=some (vW (xs.getD k 0))∧w'.cell? ⟨y,z+k,none⟩=some (vW (ys.getD k 0))) fun I i=>bB ⟨(uc i v),(uc i D)⟩ fun a=>Rt 0 a<|Rt 1 a<|kj 2 a xs.length k ((k:Nat) : Int) rfl u (by omega)<|Rl 3 a (fun _ hs=>hs.1)<|Rt 4 a<|Rt 5 a<|kj 6 a ys.length k ((k:Nat) : Int) rfl C (by omega)<|Rl 7 a (fun _ hs=>hs.2)<|Rt 8 a<|re<|tn<|?_
 have n:=aM b i
 refine cb (((xs.getD k 0)!=(ys.getD k 0))) (fun f=>?_) (fun f=>?_)
 have o:=av f
 refine ax 1<|rt<|br<|tr<|tr<|br<|tr<|rr (.bool false)<|?_
 have hs:decide (xs=ys)=false:=decide_eq_false (AX (d:=0) k (by simpa using f))
 rw[hs]
 exact⟨rfl,n⟩
 have o:=aJ f
 exact sk<|bn<|tn<|go<|Pl 1<|b6 (((k:Nat) : Int)+1)<|Pl 1<|nl<|dH (k+1) ⟨n,(uU (d:=0) (by omega) (by omega) l o),(by(try dsimp only);omega)⟩ (by omega)
 have r:=of_decide_eq_false h
 refine xt<|tx<|tx<|bx<|tn<|ax 1<|rt<|rr (.bool true)<|?_
 have hs:decide (xs=ys)=true:=decide_eq_true (gE l (by omega) (by omega))
 rw[hs]
 exact⟨rfl,b⟩
theorem jo{m m':Md}{a b:Value}{xs ys:List Int}{w:World}(h1:fg m w a xs)(h2:fg m' w b ys) : Calls Tryz.prog 68 #[a,b] w (bD (.bool (decide (xs=ys))) w):=by
  obtain⟨A,c,rfl,_,_⟩:=h1.shape
  obtain⟨B,d,rfl,_,_⟩:=h2.shape
  exact mb h1 h2
theorem lY{m m':Md}{A B:Option Addr}{c d:Nat}{xs ys:List Bool}{w:World}(h1:jZ m w (.slice A xs.length c) xs)(h2:jZ m' w (.slice B ys.length d) ys) :
    Calls Tryz.prog 69 #[.slice A xs.length c,.slice B ys.length d] w (bD (.bool (decide (xs=ys))) w):=by
 have hz1:=aI.len h1
 have hz2:=aI.len h2
 refine en 26 Tryz.func69 rfl<|ax 1<|sq<|ax 5<|cb ((((xs.length:Nat) : Int)!=((ys.length:Nat) : Int))) (fun f=>?_) (fun f=>?_)
 have j:=av f
 refine ax 1<|bh<|rr (.bool false)<|?_
 have hs:decide (xs=ys)=false:=decide_eq_false (fun e=>by rw[e] at j;omega)
 rw[hs]
 exact⟨rfl,(aD.refl [] _)⟩
 have j:=aJ f
 refine bp<|sq<|ax 1<|bk<|?_
 refine fE (fun x=>[(0,.slice A xs.length c),(1,.slice B ys.length d),(5,vI ((x:Nat) : Int))]) (fun(x:Nat) w'=>aD [] w w'∧(xs.take x=ys.take x)∧(x≤xs.length)) (fun x=>xs.length-x) 0 ⟨aD.refl _ _,(by(try dsimp only);simp),(by(try dsimp only);omega)⟩ ?_
 rintro k D ⟨b,o,p⟩
 refine eH [(0,.slice A xs.length c),(1,.slice B ys.length d),(5,vI ((k:Nat) : Int))] ?_
 have l:xs.take k=ys.take k:=o
 have E:k≤xs.length:=p
 refine sq<|ax 4<|cb ((decide (((k:Nat) : Int)<((xs.length:Nat) : Int)))) (fun g=>?_) (fun g=>?_)
 have q:=of_decide_eq_true g
 refine bp<|sq<|bk<|sq<|?_
 refine wc (jZ.at_ (jZ.old h1 b) k (by omega)) fun r s t u=>?_
 refine wc (jZ.at_ (jZ.old h2 b) k (by omega)) fun v y z C=>Rg 9 (fun w'=>w'.cell? ⟨r,s+k,none⟩=some (.bool (xs.getD k false))∧w'.cell? ⟨v,y+k,none⟩=some (.bool (ys.getD k false))) fun F h=>bB ⟨(uc h u),(uc h C)⟩ fun a=>Rt 0 a<|Rt 1 a<|kj 2 a xs.length k ((k:Nat) : Int) rfl t (by omega)<|Rl 3 a (fun _ hs=>hs.1)<|Rt 4 a<|Rt 5 a<|kj 6 a ys.length k ((k:Nat) : Int) rfl z (by omega)<|Rl 7 a (fun _ hs=>hs.2)<|Rt 8 a<|re<|tn<|?_
 have n:=aM b h
 refine cb (((xs.getD k false)!=(ys.getD k false))) (fun i=>?_) (fun i=>?_)
 refine ax 1<|rt<|br<|tr<|tr<|br<|tr<|rr (.bool false)<|?_
 have hs:decide (xs=ys)=false:=decide_eq_false (AX (d:=false) k (by simpa using i))
 rw[hs]
 exact⟨rfl,n⟩
 exact sk<|bn<|tn<|go<|Pl 1<|b6 (((k:Nat) : Int)+1)<|Pl 1<|nl<|dH (k+1) ⟨n,(uU (d:=false) (by omega) (by omega) l (by simpa using i)),(by(try dsimp only);omega)⟩ (by omega)
 have q:=of_decide_eq_false g
 refine xt<|tx<|tx<|bx<|tn<|ax 1<|rt<|rr (.bool true)<|?_
 have hs:decide (xs=ys)=true:=decide_eq_true (gE l (by omega) (by omega))
 rw[hs]
 exact⟨rfl,b⟩
theorem o5{m m':Md}{a b:Value}{xs ys:List Bool}{w:World}(h1:jZ m w a xs)(h2:jZ m' w b ys) : Calls Tryz.prog 69 #[a,b] w (bD (.bool (decide (xs=ys))) w):=by
  obtain⟨A,c,rfl,_,_⟩:=h1.shape
  obtain⟨B,d,rfl,_,_⟩:=h2.shape
  exact lY h1 h2
open Go.RowKit
theorem rH{α:Type}{xs ys:List α}{d:α}{k:Nat}(h:xs.take k=ys.take k)(hk:k<xs.length)(hl:xs.length=ys.length)(he:xs.getD k d=ys.getD k d) : xs.take (k+1)=ys.take (k+1):=by
  have hk2:k<ys.length:=by omega
  rw[List.take_succ_eq_append_getElem hk,List.take_succ_eq_append_getElem hk2,h]
  rw[List.getD_eq_getElem?_getD,List.getElem?_eq_getElem hk,List.getD_eq_getElem?_getD,List.getElem?_eq_getElem (by omega)] at he
  simp only[Option.getD_some] at he
  rw[he]
theorem AB{a b:dx}(h:((((!(decide (a.words=b.words)))||(a.file != b.file))||(a.record != b.record))||(a.count != b.count))=false) : a=b:=by
  cases a
  cases b
  simp at h
  simp[h]
theorem zW{a b:Obj}(h:((!(decide (a.value=b.value)))||(a.id != b.id))=false) : a=b:=by
  cases a
  cases b
  simp at h
  simp[h]
theorem yA{a b:Obj}(h:(!(decide (a.value=b.value)))=false)(h2:(a.id != b.id)=false) : a=b:=zW (by rw[h,h2];rfl)
theorem my{A B:bg}{f:bg→bg→Bool}(h:f A B=true)(hf:∀ M,f M M=false) : decide (A=B)=false:=decide_eq_false fun e=>by rw[e,hf] at h;cases h
theorem yX{A B:bg}(h1:((((((((((((A.code != B.code)||(A.fail != B.fail))||(A.addr != B.addr))||(A.count != B.count))||(A.value != B.value))||(A.and_ != B.and_))||(A.or_ != B.or_))||(A.addr2 != B.addr2))||(A.sub != B.sub))||(A.status != B.status))||(A.events != B.events))||(A.messages != B.messages))=false)(h2:(((((A.mei != B.mei)||(A.kind != B.kind))||(A.level != B.level))||(A.more != B.more))||(A.next != B.next))=false)(h3:(((((!(decide (A.words=B.words)))||(!(decide (A.bits=B.bits))))||(!(decide (A.data=B.data))))||(((A.recs.length:Nat) : Int)!=((B.recs.length:Nat) : Int)))||(((A.objects.length:Nat) : Int)!=((B.objects.length:Nat) : Int)))=false)(hr:A.recs.length=B.recs.length→A.recs=B.recs)(ho:A.objects.length=B.objects.length→A.objects=B.objects) : A=B:=by
  cases A
  cases B
  simp only[Bool.or_eq_false_iff,bne_eq_false_iff_eq,Bool.not_eq_false',decide_eq_true_eq] at h1 h2 h3
  simp only at hr ho
  obtain⟨⟨⟨⟨⟨⟨⟨⟨⟨⟨⟨a1,a2⟩,a3⟩,a4⟩,a5⟩,a6⟩,a7⟩,a8⟩,a9⟩,a⟩,b⟩,c⟩:=h1
  obtain⟨⟨⟨⟨b1,b2⟩,b3⟩,b4⟩,b5⟩:=h2
  obtain⟨⟨⟨⟨d1,d2⟩,d3⟩,d4⟩,d5⟩:=h3
  have d4:=hr (by omega)
  have d5:=ho (by omega)
  subst a1 a2 a3 a4 a5 a6 a7 a8 a9 a b c b1 b2 b3 b4 b5 d1 d2 d3 d4 d5
  rfl
theorem mB{m m':Md}{pc qc:Array Value}{A B:bg}{w:World}(ha:aS m w pc.toList A)(hb:aS m' w qc.toList B) :
    Calls Tryz.prog 40 #[.agg pc,.agg qc] w (bD (.bool (decide (A=B))) w):=by
 have pM:=ha
 obtain⟨pvw,pvb,pvd,pvr,pvo,ph0,phw,phb,phd,phr,pho,pR⟩:=ha
 obtain rfl:pc=(f3 A pvw pvb pvd pvr pvo).toArray:=by apply Array.toList_inj.1;simpa using ph0
 clear ph0
 obtain⟨pw,pkw,rfl,_,_⟩:=phw.shape
 obtain⟨pb,pkb,rfl,_,_⟩:=phb.shape
 obtain⟨pd,pkd,rfl,_,_⟩:=phd.shape
 obtain⟨pr,pkr,rfl,_,_⟩:=phr.shape
 obtain⟨po,pko,rfl,_,_⟩:=pho.shape
 have qM:=hb
 obtain⟨qvw,qvb,qvd,qvr,qvo,qh0,qhw,qhb,qhd,qhr,qho,qR⟩:=hb
 obtain rfl:qc=(f3 B qvw qvb qvd qvr qvo).toArray:=by apply Array.toList_inj.1;simpa using qh0
 clear qh0
 obtain⟨qw,qkw,rfl,_,_⟩:=qhw.shape
 obtain⟨qb,qkb,rfl,_,_⟩:=qhb.shape
 obtain⟨qd,qkd,rfl,_,_⟩:=qhd.shape
 obtain⟨qr,qkr,rfl,_,_⟩:=qhr.shape
 obtain⟨qo,qko,rfl,_,_⟩:=qho.shape
 have hz1:=aI.len phr
 have hz2:=aI.len pho
 refine en 254 Tryz.func40 rfl<|sg<|L0<|dK (mG A.code A.fail A.addr A.count A.value A.and_ A.or_ A.addr2 A.sub A.status A.events A.messages (.slice pw A.words.length pkw) (.slice pb A.bits.length pkb) (.slice pd A.data.length pkd) (.slice pr A.recs.length pkr) A.mei A.kind A.level A.more A.next (.slice po A.objects.length pko)) fun i cE cF ba bb=>L0<|dK (mG B.code B.fail B.addr B.count B.value B.and_ B.or_ B.addr2 B.sub B.status B.events B.messages (.slice qw B.words.length qkw) (.slice qb B.bits.length qkb) (.slice qd B.data.length qkd) (.slice qr B.recs.length qkr) B.mei B.kind B.level B.more B.next (.slice qo B.objects.length qko)) fun l cG cH b aa=>aj 1<|sq<|ak 1<|?_
 have c:=ub aa ba
 refine aH c 0<|Pl 1<|aH b 0<|Pl 2<|eE 6 [19] 25 19 (A.code != B.code) (A.fail != B.fail) (fun K bc bd=>?_) ?_
 have cI:=aJ bd
 exact Pl 1<|L1<|dp c 1<|Pl 1<|L1<|dp b 1<|Pl 2<|ce bc _ rfl
 refine Pl 1<|eE 6 [26] 32 26 ((A.code != B.code)||(A.fail != B.fail)) (A.addr != B.addr) (fun K be cJ=>?_) ?_
 exact Pl 1<|L1<|dp c 2<|Pl 1<|L1<|dp b 2<|Pl 2<|ce be _ rfl
 refine Pl 1<|eE 6 [33] 39 33 (((A.code != B.code)||(A.fail != B.fail))||(A.addr != B.addr)) (A.count != B.count) (fun K bf cK=>?_) ?_
 exact Pl 1<|L1<|dp c 3<|Pl 1<|L1<|dp b 3<|Pl 2<|ce bf _ rfl
 refine Pl 1<|eE 6 [40] 46 40 ((((A.code != B.code)||(A.fail != B.fail))||(A.addr != B.addr))||(A.count != B.count)) (A.value != B.value) (fun K bi cL=>?_) ?_
 exact Pl 1<|L1<|dp c 4<|Pl 1<|L1<|dp b 4<|Pl 2<|ce bi _ rfl
 refine Pl 1<|eE 6 [47] 53 47 (((((A.code != B.code)||(A.fail != B.fail))||(A.addr != B.addr))||(A.count != B.count))||(A.value != B.value)) (A.and_ != B.and_) (fun K bj cM=>?_) ?_
 exact Pl 1<|L1<|dp c 5<|Pl 1<|L1<|dp b 5<|Pl 2<|ce bj _ rfl
 refine Pl 1<|eE 6 [54] 60 54 ((((((A.code != B.code)||(A.fail != B.fail))||(A.addr != B.addr))||(A.count != B.count))||(A.value != B.value))||(A.and_ != B.and_)) (A.or_ != B.or_) (fun K bm cN=>?_) ?_
 exact Pl 1<|L1<|dp c 6<|Pl 1<|L1<|dp b 6<|Pl 2<|ce bm _ rfl
 refine Pl 1<|eE 6 [61] 67 61 (((((((A.code != B.code)||(A.fail != B.fail))||(A.addr != B.addr))||(A.count != B.count))||(A.value != B.value))||(A.and_ != B.and_))||(A.or_ != B.or_)) (A.addr2 != B.addr2) (fun K bo cO=>?_) ?_
 exact Pl 1<|L1<|dp c 7<|Pl 1<|L1<|dp b 7<|Pl 2<|ce bo _ rfl
 refine Pl 1<|eE 6 [68] 74 68 ((((((((A.code != B.code)||(A.fail != B.fail))||(A.addr != B.addr))||(A.count != B.count))||(A.value != B.value))||(A.and_ != B.and_))||(A.or_ != B.or_))||(A.addr2 != B.addr2)) (A.sub != B.sub) (fun K bq cP=>?_) ?_
 exact Pl 1<|L1<|dp c 8<|Pl 1<|L1<|dp b 8<|Pl 2<|ce bq _ rfl
 refine Pl 1<|eE 6 [75] 81 75 (((((((((A.code != B.code)||(A.fail != B.fail))||(A.addr != B.addr))||(A.count != B.count))||(A.value != B.value))||(A.and_ != B.and_))||(A.or_ != B.or_))||(A.addr2 != B.addr2))||(A.sub != B.sub)) (A.status != B.status) (fun K bs cQ=>?_) ?_
 exact Pl 1<|L1<|dp c 9<|Pl 1<|L1<|dp b 9<|Pl 2<|ce bs _ rfl
 refine Pl 1<|eE 6 [82] 88 82 ((((((((((A.code != B.code)||(A.fail != B.fail))||(A.addr != B.addr))||(A.count != B.count))||(A.value != B.value))||(A.and_ != B.and_))||(A.or_ != B.or_))||(A.addr2 != B.addr2))||(A.sub != B.sub))||(A.status != B.status)) (A.events != B.events) (fun K bt cR=>?_) ?_
 exact Pl 1<|L1<|dp c 10<|Pl 1<|L1<|dp b 10<|Pl 2<|ce bt _ rfl
 refine Pl 1<|eE 6 [89] 95 89 (((((((((((A.code != B.code)||(A.fail != B.fail))||(A.addr != B.addr))||(A.count != B.count))||(A.value != B.value))||(A.and_ != B.and_))||(A.or_ != B.or_))||(A.addr2 != B.addr2))||(A.sub != B.sub))||(A.status != B.status))||(A.events != B.events)) (A.messages != B.messages) (fun K bu cS=>?_) ?_
 exact Pl 1<|L1<|dp c 11<|Pl 1<|L1<|dp b 11<|Pl 2<|ce bu _ rfl
 refine nt<|?_
 have q:=aM bb aa
 refine cb (((((((((((((A.code != B.code)||(A.fail != B.fail))||(A.addr != B.addr))||(A.count != B.count))||(A.value != B.value))||(A.and_ != B.and_))||(A.or_ != B.or_))||(A.addr2 != B.addr2))||(A.sub != B.sub))||(A.status != B.status))||(A.events != B.events))||(A.messages != B.messages))) (fun O=>?_) (fun O=>?_)
 refine ax 1<|bh<|rr (.bool false)<|?_
 have hs:decide (A=B)=false:=my (f:=fun x y=>((((((((((((x.code != y.code)||(x.fail != y.fail))||(x.addr != y.addr))||(x.count != y.count))||(x.value != y.value))||(x.and_ != y.and_))||(x.or_ != y.or_))||(x.addr2 != y.addr2))||(x.sub != y.sub))||(x.status != y.status))||(x.events != y.events))||(x.messages != y.messages))) O (fun M=>by simp)
 rw[hs]
 exact⟨rfl,q⟩
 refine bp<|sq<|ak 1<|aH c 16<|Pl 1<|aH b 16<|Pl 2<|eE 6 [101] 107 101 (A.mei != B.mei) (A.kind != B.kind) (fun K bv bw=>?_) ?_
 have cT:=aJ bw
 exact Pl 1<|L1<|dp c 17<|Pl 1<|L1<|dp b 17<|Pl 2<|ce bv _ rfl
 refine Pl 1<|eE 6 [108] 114 108 ((A.mei != B.mei)||(A.kind != B.kind)) (A.level != B.level) (fun K bz cU=>?_) ?_
 exact Pl 1<|L1<|dp c 18<|Pl 1<|L1<|dp b 18<|Pl 2<|ce bz _ rfl
 refine Pl 1<|eE 6 [115] 121 115 (((A.mei != B.mei)||(A.kind != B.kind))||(A.level != B.level)) (A.more != B.more) (fun K bA cV=>?_) ?_
 exact Pl 1<|L1<|dp c 19<|Pl 1<|L1<|dp b 19<|Pl 2<|ce bA _ rfl
 refine Pl 1<|eE 6 [122] 128 122 ((((A.mei != B.mei)||(A.kind != B.kind))||(A.level != B.level))||(A.more != B.more)) (A.next != B.next) (fun K bC cW=>?_) ?_
 exact Pl 1<|L1<|dp c 20<|Pl 1<|L1<|dp b 20<|Pl 2<|ce bC _ rfl
 refine nt<|cb ((((((A.mei != B.mei)||(A.kind != B.kind))||(A.level != B.level))||(A.more != B.more))||(A.next != B.next))) (fun P=>?_) (fun P=>?_)
 refine ax 1<|bh<|rr (.bool false)<|?_
 have hs:decide (A=B)=false:=my (f:=fun x y=>(((((x.mei != y.mei)||(x.kind != y.kind))||(x.level != y.level))||(x.more != y.more))||(x.next != y.next))) P (fun M=>by simp)
 rw[hs]
 exact⟨rfl,q⟩
 refine bp<|ak 1<|aH c 12<|Pl 1<|aH b 12<|?_
 refine az<|m1 (jo (fg.old phw q) (fg.old qhw q)) fun cX Q=>Pl 1<|aL 1<|?_
 have ab:=ub Q c
 refine aH ab 13<|Pl 1<|?_
 have ac:=ub Q b
 refine aH ac 13<|?_
 have R:=aM q Q
 refine az<|m1 (o5 (jZ.old phb R) (jZ.old qhb R)) fun cY S=>Pl 1<|aL 1<|?_
 have E:=ub S ab
 refine aH E 14<|Pl 1<|?_
 have r:=ub S ac
 refine aH r 14<|?_
 have T:=aM R S
 refine az<|m1 (n9 (aO.old phd T) (aO.old qhd T)) fun bE n=>aj 1<|sq<|ak 3<|cu 3 [146] 149 (((!(decide (A.words=B.words)))||(!(decide (A.bits=B.bits))))) (fun K ad=>?_) ?_
 refine bl 146 ((!(decide (A.words=B.words)))) (fun s=>?_) (fun s=>?_)
 have U:(decide (A.words=B.words))=false:=by simpa using s
 have bF:=of_decide_eq_false U
 exact Pl 3<|ce ad true (by rw[s];rfl)
 have U:(decide (A.words=B.words))=true:=by simpa using s
 have bF:=of_decide_eq_true U
 exact Pl 3<|ce ad (!(decide (A.bits=B.bits))) (by rw[s];rfl)
 refine Pl 1<|eE 3 [150] 153 150 ((!(decide (A.words=B.words)))||(!(decide (A.bits=B.bits)))) (!(decide (A.data=B.data))) (fun K bG ae=>?_) ?_
 have bH:=(cv ae).1
 have bI:=(cv ae).2
 have bJ:(decide (A.words=B.words))=true:=by simpa using bH
 have q74anp:=of_decide_eq_true bJ
 have bK:(decide (A.bits=B.bits))=true:=by simpa using bI
 have q74bnp:=of_decide_eq_true bK
 exact Pl 3<|ce bG _ rfl
 refine Pl 1<|eE 8 [154] 162 154 (((!(decide (A.words=B.words)))||(!(decide (A.bits=B.bits))))||(!(decide (A.data=B.data)))) (((A.recs.length:Nat) : Int)!=((B.recs.length:Nat) : Int)) (fun K bL af=>?_) ?_
 have ag:=(cv af).1
 have bM:=(cv af).2
 have bN:=(cv ag).1
 have bO:=(cv ag).2
 have q76aan:(decide (A.words=B.words))=true:=by simpa using bN
 have q76aanp:=of_decide_eq_true q76aan
 have q76abn:(decide (A.bits=B.bits))=true:=by simpa using bO
 have q76abnp:=of_decide_eq_true q76abn
 have bP:(decide (A.data=B.data))=true:=by simpa using bM
 have q76bnp:=of_decide_eq_true bP
 refine Pl 1<|?_
 refine L1<|dp (ub n E) 15<|Pl 2<|?_
 exact L1<|dp (ub n r) 15<|Pl 3<|ce bL _ rfl
 refine Pl 1<|eE 8 [163] 171 163 ((((!(decide (A.words=B.words)))||(!(decide (A.bits=B.bits))))||(!(decide (A.data=B.data))))||(((A.recs.length:Nat) : Int)!=((B.recs.length:Nat) : Int))) (((A.objects.length:Nat) : Int)!=((B.objects.length:Nat) : Int)) (fun K bQ ah=>?_) ?_
 have ai:=(cv ah).1
 have bR:=(cv ah).2
 have al:=(cv ai).1
 have bS:=(cv ai).2
 have q80aaa:=(cv al).1
 have q80aab:=(cv al).2
 have q80aaan:(decide (A.words=B.words))=true:=by simpa using q80aaa
 have q80aaanp:=of_decide_eq_true q80aaan
 have q80aabn:(decide (A.bits=B.bits))=true:=by simpa using q80aab
 have q80aabnp:=of_decide_eq_true q80aabn
 have q80abn:(decide (A.data=B.data))=true:=by simpa using bS
 have q80abnp:=of_decide_eq_true q80abn
 have cZ:=aJ bR
 refine Pl 1<|?_
 refine L1<|dp (ub n E) 21<|Pl 2<|?_
 exact L1<|dp (ub n r) 21<|Pl 3<|ce bQ _ rfl
 refine nt<|?_
 have am:=aM T n
 refine cb ((((((!(decide (A.words=B.words)))||(!(decide (A.bits=B.bits))))||(!(decide (A.data=B.data))))||(((A.recs.length:Nat) : Int)!=((B.recs.length:Nat) : Int)))||(((A.objects.length:Nat) : Int)!=((B.objects.length:Nat) : Int)))) (fun t=>?_) (fun t=>?_)
 refine ax 1<|bh<|rr (.bool false)<|?_
 have hs:decide (A=B)=false:=my (f:=fun x y=>(((((!(decide (x.words=y.words)))||(!(decide (x.bits=y.bits))))||(!(decide (x.data=y.data))))||(((x.recs.length:Nat) : Int)!=((y.recs.length:Nat) : Int)))||(((x.objects.length:Nat) : Int)!=((y.objects.length:Nat) : Int)))) t (fun M=>by simp)
 rw[hs]
 exact⟨rfl,am⟩
 have an:=(cv t).1
 have bT:=(cv t).2
 have ao:=(cv an).1
 have bU:=(cv an).2
 have q85aaa:=(cv ao).1
 have q85aab:=(cv ao).2
 have q85aaaa:=(cv q85aaa).1
 have q85aaab:=(cv q85aaa).2
 have q85aaaan:(decide (A.words=B.words))=true:=by simpa using q85aaaa
 have q85aaaanp:=of_decide_eq_true q85aaaan
 have q85aaabn:(decide (A.bits=B.bits))=true:=by simpa using q85aaab
 have q85aaabnp:=of_decide_eq_true q85aaabn
 have q85aabn:(decide (A.data=B.data))=true:=by simpa using q85aab
 have q85aabnp:=of_decide_eq_true q85aabn
 have q85abp:=aJ bU
 have d0:=aJ bT
 refine bp<|sq<|ax 1<|bk<|?_
 refine fE (fun x=>[(2,vP i 0),(3,vP l 0),(8,vI ((x:Nat) : Int))]) (fun(x:Nat) w'=>aD [] bE w'∧(A.recs.take x=B.recs.take x)∧(x≤A.recs.length)) (fun x=>A.recs.length-x) 0 ⟨aD.refl _ _,(by(try dsimp only);simp),(by(try dsimp only);omega)⟩ ?_
 rintro j bV ⟨F,bW,bX⟩
 refine eH [(2,vP i 0),(3,vP l 0),(8,vI ((j:Nat) : Int))] ?_
 have aq:A.recs.take j=B.recs.take j:=bW
 have d1:j≤A.recs.length:=bX
 refine sq<|ak 2<|?_
 have G:=aM n F
 have V:=ub G E
 refine aH V 15<|aj 2<|?_
 have H:=aM am F
 refine cb ((decide (((j:Nat) : Int)<((A.recs.length:Nat) : Int)))) (fun W=>?_) (fun W=>?_)
 have bY:=of_decide_eq_true W
 refine bp<|sq<|bk<|ak 1<|aH V 15<|Pl 1<|l0 (sr.elt phr j (by omega)) fun d2 d3 d4 d5 d6 ar au bZ c0 c2 d7 c3=>L0<|lx 4 A.recs.length j bZ (by omega)<|?_
 refine L0<|Bl [vW ((A.recs.getD j ⟨0,0,0,[]⟩).file),vW ((A.recs.getD j ⟨0,0,0,[]⟩).record),vW ((A.recs.getD j ⟨0,0,0,[]⟩).count),.slice ar ((A.recs.getD j ⟨0,0,0,[]⟩).words.length) au] (ub H c0) c3<|aK #[vW 0,vW 0,vW 0,nS] fun d8 d9 X c4 Y=>aE c4 #[vW ((A.recs.getD j ⟨0,0,0,[]⟩).file),vW ((A.recs.getD j ⟨0,0,0,[]⟩).record),vW ((A.recs.getD j ⟨0,0,0,[]⟩).count),.slice ar ((A.recs.getD j ⟨0,0,0,[]⟩).words.length) au] fun da c5 Z=>aL 1<|?_
 refine aH (ub (u1 (aM G Y) Z (ni G.size X)) r) 15<|Pl 1<|l0 (sr.elt qhr j (by omega)) fun db dc dd de df aw ay c6 c7 c8 dg c9=>L0<|lx 4 B.recs.length j c6 (by omega)<|?_
 have a0:=u1 (aM H Y) Z (ni H.size X)
 refine L0<|Bl [vW ((B.recs.getD j ⟨0,0,0,[]⟩).file),vW ((B.recs.getD j ⟨0,0,0,[]⟩).record),vW ((B.recs.getD j ⟨0,0,0,[]⟩).count),.slice aw ((B.recs.getD j ⟨0,0,0,[]⟩).words.length) ay] (ub a0 c7) c9<|aK #[vW 0,vW 0,vW 0,nS] fun dh di a1 ca a2=>aE ca #[vW ((B.recs.getD j ⟨0,0,0,[]⟩).file),vW ((B.recs.getD j ⟨0,0,0,[]⟩).record),vW ((B.recs.getD j ⟨0,0,0,[]⟩).count),.slice aw ((B.recs.getD j ⟨0,0,0,[]⟩).words.length) ay] fun dj I a3=>aL 1<|?_
 have J:=ub (u1 a2 a3 (nr a1)) c5
 refine aH J 3<|Pl 1<|aH I 3<|?_
 have a4:=u1 (aM a0 a2) a3 (ni a0.size a1)
 refine az<|m1 (jo (fg.old c2 a4) (fg.old c8 a4)) fun dk h=>Pl 1<|aL 3<|cu 6 [196] 202 (((!(decide ((A.recs.getD j ⟨0,0,0,[]⟩).words=(B.recs.getD j ⟨0,0,0,[]⟩).words)))||(((A.recs.getD j ⟨0,0,0,[]⟩).file)!=((B.recs.getD j ⟨0,0,0,[]⟩).file)))) (fun K aA=>?_) ?_
 refine bl 196 ((!(decide ((A.recs.getD j ⟨0,0,0,[]⟩).words=(B.recs.getD j ⟨0,0,0,[]⟩).words)))) (fun u=>?_) (fun u=>?_)
 have a5:(decide ((A.recs.getD j ⟨0,0,0,[]⟩).words=(B.recs.getD j ⟨0,0,0,[]⟩).words))=false:=by simpa using u
 have cc:=of_decide_eq_false a5
 exact Pl 6<|ce aA true (by rw[u];rfl)
 have a5:(decide ((A.recs.getD j ⟨0,0,0,[]⟩).words=(B.recs.getD j ⟨0,0,0,[]⟩).words))=true:=by simpa using u
 have cc:=of_decide_eq_true a5
 refine Pl 1<|?_
 refine L1<|dp (ub h J) 0<|Pl 1<|?_
 exact L1<|dp (ub h I) 0<|Pl 2<|ce aA (((A.recs.getD j ⟨0,0,0,[]⟩).file)!=((B.recs.getD j ⟨0,0,0,[]⟩).file)) (by rw[u];rfl)
 refine Pl 1<|eE 6 [203] 209 203 ((!(decide ((A.recs.getD j ⟨0,0,0,[]⟩).words=(B.recs.getD j ⟨0,0,0,[]⟩).words)))||(((A.recs.getD j ⟨0,0,0,[]⟩).file)!=((B.recs.getD j ⟨0,0,0,[]⟩).file))) (((A.recs.getD j ⟨0,0,0,[]⟩).record)!=((B.recs.getD j ⟨0,0,0,[]⟩).record)) (fun K cd aB=>?_) ?_
 have cf:=(cv aB).1
 have cg:=(cv aB).2
 have ch:(decide ((A.recs.getD j ⟨0,0,0,[]⟩).words=(B.recs.getD j ⟨0,0,0,[]⟩).words))=true:=by simpa using cf
 have q156anp:=of_decide_eq_true ch
 have dl:=aJ cg
 refine Pl 1<|?_
 refine L1<|dp (ub h J) 1<|Pl 1<|?_
 exact L1<|dp (ub h I) 1<|Pl 2<|ce cd _ rfl
 refine Pl 1<|eE 6 [210] 216 210 (((!(decide ((A.recs.getD j ⟨0,0,0,[]⟩).words=(B.recs.getD j ⟨0,0,0,[]⟩).words)))||(((A.recs.getD j ⟨0,0,0,[]⟩).file)!=((B.recs.getD j ⟨0,0,0,[]⟩).file)))||(((A.recs.getD j ⟨0,0,0,[]⟩).record)!=((B.recs.getD j ⟨0,0,0,[]⟩).record))) (((A.recs.getD j ⟨0,0,0,[]⟩).count)!=((B.recs.getD j ⟨0,0,0,[]⟩).count)) (fun K ci aC=>?_) ?_
 have aF:=(cv aC).1
 have cj:=(cv aC).2
 have ck:=(cv aF).1
 have cl:=(cv aF).2
 have q160aan:(decide ((A.recs.getD j ⟨0,0,0,[]⟩).words=(B.recs.getD j ⟨0,0,0,[]⟩).words))=true:=by simpa using ck
 have q160aanp:=of_decide_eq_true q160aan
 have q160abp:=aJ cl
 have dm:=aJ cj
 refine Pl 1<|?_
 refine L1<|dp (ub h J) 2<|Pl 1<|?_
 exact L1<|dp (ub h I) 2<|Pl 2<|ce ci _ rfl
 refine nt<|?_
 refine cb (((((!(decide ((A.recs.getD j ⟨0,0,0,[]⟩).words=(B.recs.getD j ⟨0,0,0,[]⟩).words)))||(((A.recs.getD j ⟨0,0,0,[]⟩).file)!=((B.recs.getD j ⟨0,0,0,[]⟩).file)))||(((A.recs.getD j ⟨0,0,0,[]⟩).record)!=((B.recs.getD j ⟨0,0,0,[]⟩).record)))||(((A.recs.getD j ⟨0,0,0,[]⟩).count)!=((B.recs.getD j ⟨0,0,0,[]⟩).count)))) (fun v=>?_) (fun v=>?_)
 refine ax 1<|rt<|br<|tr<|tr<|br<|tr<|rr (.bool false)<|?_
 have hs:decide (A=B)=false:=my (f:=fun x y=>((((!(decide ((x.recs.getD j ⟨0,0,0,[]⟩).words=(y.recs.getD j ⟨0,0,0,[]⟩).words)))||(((x.recs.getD j ⟨0,0,0,[]⟩).file)!=((y.recs.getD j ⟨0,0,0,[]⟩).file)))||(((x.recs.getD j ⟨0,0,0,[]⟩).record)!=((y.recs.getD j ⟨0,0,0,[]⟩).record)))||(((x.recs.getD j ⟨0,0,0,[]⟩).count)!=((y.recs.getD j ⟨0,0,0,[]⟩).count)))) v (fun M=>by simp)
 rw[hs]
 exact⟨rfl,(aM a4 h)⟩
 have aG:=(cv v).1
 have cm:=(cv v).2
 have aN:=(cv aG).1
 have cn:=(cv aG).2
 have q165aaa:=(cv aN).1
 have q165aab:=(cv aN).2
 have q165aaan:(decide ((A.recs.getD j ⟨0,0,0,[]⟩).words=(B.recs.getD j ⟨0,0,0,[]⟩).words))=true:=by simpa using q165aaa
 have q165aaanp:=of_decide_eq_true q165aaan
 have q165aabp:=aJ q165aab
 have q165abp:=aJ cn
 have dn:=aJ cm
 refine sk<|bn<|tn<|go<|Pl 1<|b6 (((j:Nat) : Int)+1)<|Pl 1<|nl<|?_
 have aP:=u1 (aM F Y) Z (ni F.size X)
 exact dH (j+1) ⟨(aM (u1 (aM aP a2) a3 (ni aP.size a1)) h),(rH (d:=⟨0,0,0,[]⟩) aq (by omega) (by omega) (AB v)),(by(try dsimp only);omega)⟩ (by omega)
 have bY:=of_decide_eq_false W
 refine xt<|tx<|tx<|bx<|tn<|sq<|ax 1<|bk<|?_
 refine fE (fun x=>[(2,vP i 0),(3,vP l 0),(12,vI ((x:Nat) : Int))]) (fun(x:Nat) w'=>aD [] bV w'∧(A.objects.take x=B.objects.take x)∧(x≤A.objects.length)) (fun x=>A.objects.length-x) 0 ⟨aD.refl _ _,(by(try dsimp only);simp),(by(try dsimp only);omega)⟩ ?_
 rintro k dq ⟨L,co,cp⟩
 refine eH [(2,vP i 0),(3,vP l 0),(12,vI ((k:Nat) : Int))] ?_
 have aQ:A.objects.take k=B.objects.take k:=co
 have dr:k≤A.objects.length:=cp
 refine sq<|ak 2<|?_
 have aR:=ub L V
 refine aH aR 21<|aj 2<|?_
 have aT:=aM H L
 refine cb ((decide (((k:Nat) : Int)<((A.objects.length:Nat) : Int)))) (fun a6=>?_) (fun a6=>?_)
 have cq:=of_decide_eq_true a6
 refine bp<|sq<|bk<|sq<|l0 (uu.elt pho k (by omega)) fun aU aV ds dt du cr cs aW ct cw dv a7=>l0 (uu.elt qho k (by omega)) fun aX aY dw dx dy cx cy aZ cz cA dz a8=>Rg 14 (fun w'=>w'.cell? ⟨i,21,none⟩=some (.slice po A.objects.length pko)∧w'.cell? ⟨aU,aV+k*2+1,none⟩=some (.slice cr ((A.objects.getD k ⟨0,[]⟩).value.length) cs)∧w'.cell? ⟨l,21,none⟩=some (.slice qo B.objects.length qko)∧w'.cell? ⟨aX,aY+k*2+1,none⟩=some (.slice cx ((B.objects.getD k ⟨0,[]⟩).value.length) cy)) fun dA N=>?_
 have b0:=ub N aR
 have z:=aM aT N
 have b1:=ub z ct
 have b2:=ub (aM (aM G L) N) r
 have b3:=ub z cz
 refine bB ⟨(ap b0 rfl),(eJ b1 a7 1 rfl (by decide)),(ap b2 rfl),(eJ b3 a8 1 rfl (by decide))⟩ fun g=>Rt 0 g<|Rl 1 g (fun _ hs=>hs.1)<|Rt 2 g<|Ri 3 g 2 A.objects.length k ((k:Nat) : Int) rfl aW (by omega)<|Rt 4 g<|Rl 5 g (fun _ hs=>hs.2.1)<|Rt 6 g<|Rl 7 g (fun _ hs=>hs.2.2.1)<|Rt 8 g<|Ri 9 g 2 B.objects.length k ((k:Nat) : Int) rfl aZ (by omega)<|Rt 10 g<|Rl 11 g (fun _ hs=>hs.2.2.2)<|?_
 refine R0 12 rfl<|Oc<|m1 (n9 (aO.old cw z) (aO.old cA z)) fun dB o=>?_
 have b4:=ub o b0
 have b5:=ub o b1
 have b7:=ub o b2
 have b8:=ub o b3
 refine bB ⟨(ap b4 rfl),(eJ b5 a7 1 rfl (by decide)),(ap b7 rfl),(eJ b8 a8 1 rfl (by decide))⟩ fun cB=>Rt 13 cB<|re<|tn<|sq<|Rg 17 (fun w'=>w'.cell? ⟨i,21,none⟩=some (.slice po A.objects.length pko)∧w'.cell? ⟨aU,aV+k*2+0,none⟩=some (vB ((A.objects.getD k ⟨0,[]⟩).id))∧w'.cell? ⟨l,21,none⟩=some (.slice qo B.objects.length qko)∧w'.cell? ⟨aX,aY+k*2+0,none⟩=some (vB ((B.objects.getD k ⟨0,[]⟩).id))) fun dC p=>?_
 refine bB ⟨(ap (ub p b4) rfl),(eJ (ub p b5) a7 0 rfl (by decide)),(ap (ub p b7) rfl),(eJ (ub p b8) a8 0 rfl (by decide))⟩ fun a=>Rt 0 a<|Rt 1 a<|Rt 2 a<|?_
 have b9:=aM (aM z o) p
 refine ze 239 ((!(decide ((A.objects.getD k ⟨0,[]⟩).value=(B.objects.getD k ⟨0,[]⟩).value)))) (fun C=>?_) (fun C=>?_)
 have a9:(decide ((A.objects.getD k ⟨0,[]⟩).value=(B.objects.getD k ⟨0,[]⟩).value))=false:=by simpa using C
 have cC:=of_decide_eq_false a9
 refine Ro 3 a<|Ro 4 a<|Ro 5 a<|Ro 6 a<|Ro 7 a<|Ro 8 a<|Ro 9 a<|Ro 10 a<|Ro 11 a<|Ro 12 a<|Ro 13 a<|Ro 14 a<|Ro 15 a<|Rt 16 a<|?_
 refine re<|tn<|c1<|ax 1<|rt<|br<|tr<|tr<|br<|tr<|?_
 refine rr (.bool false)<|?_
 have hs:decide (A=B)=false:=my (f:=fun x y=>(!(decide ((x.objects.getD k ⟨0,[]⟩).value=(y.objects.getD k ⟨0,[]⟩).value)))) C (fun M=>by simp)
 rw[hs]
 exact⟨rfl,b9⟩
 have a9:(decide ((A.objects.getD k ⟨0,[]⟩).value=(B.objects.getD k ⟨0,[]⟩).value))=true:=by simpa using C
 have cC:=of_decide_eq_true a9
 refine Rt 3 a<|Rl 4 a (fun _ hs=>hs.1)<|Rt 5 a<|Ri 6 a 2 A.objects.length k ((k:Nat) : Int) rfl aW (by omega)<|Rt 7 a<|Rl 8 a (fun _ hs=>hs.2.1)<|Rt 9 a<|Rl 10 a (fun _ hs=>hs.2.2.1)<|Rt 11 a<|Ri 12 a 2 B.objects.length k ((k:Nat) : Int) rfl aZ (by omega)<|Rt 13 a<|Rl 14 a (fun _ hs=>hs.2.2.2)<|Rt 15 a<|Rt 16 a<|?_
 refine re<|tn<|cb ((((A.objects.getD k ⟨0,[]⟩).id)!=((B.objects.getD k ⟨0,[]⟩).id))) (fun D=>?_) (fun D=>?_)
 have cD:=av D
 refine ax 1<|rt<|br<|tr<|tr<|br<|tr<|rr (.bool false)<|?_
 have hs:decide (A=B)=false:=my (f:=fun x y=>(((x.objects.getD k ⟨0,[]⟩).id)!=((y.objects.getD k ⟨0,[]⟩).id))) D (fun M=>by simp)
 rw[hs]
 exact⟨rfl,b9⟩
 have cD:=aJ D
 refine sk<|bn<|tn<|go<|Pl 1<|b6 (((k:Nat) : Int)+1)<|Pl 1<|nl<|?_
 exact dH (k+1) ⟨(aM (aM (aM L N) o) p),(rH (d:=⟨0,[]⟩) aQ (by omega) (by omega) (yA C D)),(by(try dsimp only);omega)⟩ (by omega)
 have cq:=of_decide_eq_false a6
 refine xt<|tx<|tx<|bx<|tn<|ax 1<|rt<|rr (.bool true)<|?_
 have hs:decide (A=B)=true:=decide_eq_true (yX O P t (fun e=>gE aq (by omega) e) (fun e=>gE aQ (by omega) e))
 rw[hs]
 exact⟨rfl,aT⟩
open Go.RowKit
deriving instance DecidableEq for Ev
theorem mn(A B:Ev) : (((A.e==B.e)&&((A.f.unit==B.f.unit)&&(A.f.tid==B.f.tid)))&&decide (A.f.msg=B.f.msg))=decide (A=B):=by
  rw[Bool.eq_iff_iff]
  simp only[Bool.and_eq_true,beq_iff_eq,decide_eq_true_eq]
  obtain⟨e,u,t,M⟩:=A
  obtain⟨e2,u2,t2,M2⟩:=B
  simp only[Ev.mk.injEq,bq.mk.injEq]
  constructor
  · rintro⟨⟨h1,h2,h3⟩,h4⟩;exact⟨h1,h2,h3,h4⟩
  · rintro⟨h1,h2,h3,h4⟩;exact⟨⟨h1,h2,h3⟩,h4⟩
theorem zr{xs ys:List Ev}{k:Nat}(hk:k<xs.length)(hl:xs.length=ys.length)(h:xs.take k=ys.take k)(he:xs.getD k (Ev.bad 0)=ys.getD k (Ev.bad 0)) : xs.take (k+1)=ys.take (k+1):=by
  exact uU hl hk h he
theorem zH{xs ys:List Ev}{k:Nat}(h:xs.take k=ys.take k)(h1:k=xs.length)(h2:xs.length=ys.length) : decide (xs=ys)=true:=by
  rw[List.take_of_length_le (by omega),List.take_of_length_le (by omega)] at h
  exact decide_eq_true h
theorem AN{xs ys:List Ev}(k:Nat)(h:decide (xs.getD k (Ev.bad 0)=ys.getD k (Ev.bad 0))=false) : decide (xs=ys)=false:=by
  rw[decide_eq_false_iff_not] at h ⊢
  exact fun e=>h (by rw[e])
theorem rk{m m':Md}{A B:Ev}{sA sB:SL}{w:World}(hA:aS m w (iU A.f.msg sA).toList A.f.msg)(hB:aS m' w (iU B.f.msg sB).toList B.f.msg) : Calls Tryz.prog 54 #[.agg (lV A sA),.agg (lV B sB)] w (bD (.bool (decide (A=B))) w):=by
 refine en 28 Tryz.func54 rfl<|sg<|L0<|dK (lV ⟨A.e,A.f⟩ sA) fun s t u o p=>L0<|dK (lV ⟨B.e,B.f⟩ sB) fun v x y d i=>Pl 1<|ng<|Pl 1<|?_
 have g:=ub i o
 refine L0<|dp g 0<|Pl 1<|L0<|dp d 0<|Pl 2<|cu 8 [10] 18 (((A.e==B.e)&&((A.f.unit==B.f.unit)&&(A.f.tid==B.f.tid)))) (fun K j=>?_) ?_
 refine bl 10 ((A.e==B.e)) (fun a=>?_) (fun a=>?_)
 have q:=am a
 exact Pl 2<|L1<|Bn g 1 2<|Pl 2<|L1<|Bn d 1 2<|L1<|f9 (.bool ((A.f.unit==B.f.unit)&&(A.f.tid==B.f.tid))) (pY A.f.unit A.f.tid B.f.unit B.f.tid rfl (by kernel_rfl) (by kernel_rfl) rfl)<|Pl 1<|ce j ((A.f.unit==B.f.unit)&&(A.f.tid==B.f.tid)) (by rw[a];rfl)
 have q:=au a
 exact Pl 8<|ce j false (by rw[a];rfl)
 refine Pl 1<|?_
 have c:=aM p i
 refine bl 19 (((A.e==B.e)&&((A.f.unit==B.f.unit)&&(A.f.tid==B.f.tid)))) (fun b=>?_) (fun b=>?_)
 have k:=(aR b).1
 have h:=(aR b).2
 have z:=am k
 have l:=(aR h).1
 have n:=(aR h).2
 have q24bap:=am l
 have q24bbp:=am n
 refine Pl 2<|L1<|Bn g 3 22<|Pl 2<|L1<|Bn d 3 22<|?_
 refine L1<|Oc<|m1 (mB (aS.old hA c) (aS.old hB c)) fun C r=>Pl 2<|nt<|rt<|rr (.bool (decide (A.f.msg=B.f.msg)))<|?_
 have hs:(decide (A.f.msg=B.f.msg))=decide (A=B):=by rw[← mn];simp only[b,k,h,l,n,bj,Bool.true_and,Bool.false_and,Bool.and_true,Bool.and_false]
 rw[hs]
 exact⟨rfl,(aM c r)⟩
 refine Pl 9<|nt<|rt<|rr (.bool false)<|?_
 have hs:false=decide (A=B):=by rw[← mn];simp only[b,bj,Bool.true_and,Bool.false_and,Bool.and_true,Bool.and_false]
 rw[hs]
 exact⟨rfl,c⟩
theorem uh{m m':Md}{A B:Option Addr}{c d:Nat}{xs ys:List Ev}{w:World}(h1:nq m w (.slice A xs.length c) xs)(h2:nq m' w (.slice B ys.length d) ys) : Calls Tryz.prog 18 #[.slice A xs.length c,.slice B ys.length d] w (bD (.bool (decide (xs=ys))) w):=by
 have hz1:=aI.len h1
 have hz2:=aI.len h2
 refine en 27 Tryz.func18 rfl<|sg<|Pl 1<|nt<|sq<|sg<|Pl 5<|nt<|cb ((((xs.length:Nat) : Int)!=((ys.length:Nat) : Int))) (fun l=>?_) (fun l=>?_)
 have q:=av l
 refine sg<|Pl 1<|nt<|rt<|tr<|rr (.bool false)<|?_
 have hs:decide (xs=ys)=false:=decide_eq_false (fun e=>by rw[e] at q;omega)
 rw[hs]
 exact⟨rfl,(aD.refl [] _)⟩
 have q:=aJ l
 refine bp<|sq<|sg<|Pl 1<|nt<|bk<|?_
 refine fE (fun x=>[(0,.slice A xs.length c),(1,.slice B ys.length d),(5,.int .i64 ((x:Nat) : Int))]) (fun(x:Nat) w'=>aD [] w w'∧(xs.take x=ys.take x)∧(x≤xs.length)) (fun x=>xs.length-x) 0 ⟨aD.refl _ _,rfl,(by(try dsimp only);omega)⟩ ?_
 rintro k Y ⟨r,C,D⟩
 refine eH [(0,.slice A xs.length c),(1,.slice B ys.length d),(5,.int .i64 ((k:Nat) : Int))] ?_
 have s:xs.take k=ys.take k:=C
 have Z:k≤xs.length:=D
 refine sq<|sg<|Pl 4<|nt<|cb ((decide (((k:Nat) : Int)<((xs.length:Nat) : Int)))) (fun n=>?_) (fun n=>?_)
 have E:=of_decide_eq_true n
 refine bp<|sq<|bk<|sq<|Ak (nq.elt h1 k (by omega) (Ev.bad 0)) fun t F G H I a J K L M=>Ak (nq.elt h2 k (by omega) (Ev.bad 0)) fun u N O P Q b R S T U=>Rg 10 (fun w'=>w'.heap[t]? = some (.cells G H I)∧w'.heap[u]? = some (.cells O P Q)) fun a0 V=>?_
 have i:=aM r V
 have v:=ub i K
 have y:=ub i S
 refine bB ⟨v,y⟩ fun h=>Rt 0 h<|Rt 1 h<|Ri 2 h 25 xs.length k ((k:Nat) : Int) rfl J (by omega)<|Rr 3 h (.agg (lV ⟨(xs.getD k (Ev.bad 0)).e,(xs.getD k (Ev.bad 0)).f⟩ a)) (fun w' hs=>hG (g:=t) (off:=F+k*25) [.int .i64 ((xs.getD k (Ev.bad 0)).e),.int .u8 ((xs.getD k (Ev.bad 0)).f.unit),.int .u16 ((xs.getD k (Ev.bad 0)).f.tid),.int .u8 ((xs.getD k (Ev.bad 0)).f.msg.code),.int .u8 ((xs.getD k (Ev.bad 0)).f.msg.fail),.int .u16 ((xs.getD k (Ev.bad 0)).f.msg.addr),.int .u16 ((xs.getD k (Ev.bad 0)).f.msg.count),.int .u16 ((xs.getD k (Ev.bad 0)).f.msg.value),.int .u16 ((xs.getD k (Ev.bad 0)).f.msg.and_),.int .u16 ((xs.getD k (Ev.bad 0)).f.msg.or_),.int .u16 ((xs.getD k (Ev.bad 0)).f.msg.addr2),.int .u16 ((xs.getD k (Ev.bad 0)).f.msg.sub),.int .u16 ((xs.getD k (Ev.bad 0)).f.msg.status),.int .u16 ((xs.getD k (Ev.bad 0)).f.msg.events),.int .u16 ((xs.getD k (Ev.bad 0)).f.msg.messages),.slice a.aw ((xs.getD k (Ev.bad 0)).f.msg.words.length) a.kw,.slice a.ab ((xs.getD k (Ev.bad 0)).f.msg.bits.length) a.kb,.slice a.ad ((xs.getD k (Ev.bad 0)).f.msg.data.length) a.kd,.slice a.ar ((xs.getD k (Ev.bad 0)).f.msg.recs.length) a.kr,.int .u8 ((xs.getD k (Ev.bad 0)).f.msg.mei),.int .u8 ((xs.getD k (Ev.bad 0)).f.msg.kind),.int .u8 ((xs.getD k (Ev.bad 0)).f.msg.level),.int .u8 ((xs.getD k (Ev.bad 0)).f.msg.more),.int .u8 ((xs.getD k (Ev.bad 0)).f.msg.next),.slice a.ao ((xs.getD k (Ev.bad 0)).f.msg.objects.length) a.ko] rfl (by kernel_rfl) hs.1 (by kernel_rfl) (by kernel_rfl) M)<|Rt 4 h<|Rt 5 h<|Ri 6 h 25 ys.length k ((k:Nat) : Int) rfl R (by omega)<|Rr 7 h (.agg (lV ⟨(ys.getD k (Ev.bad 0)).e,(ys.getD k (Ev.bad 0)).f⟩ b)) (fun w' hs=>hG (g:=u) (off:=N+k*25) [.int .i64 ((ys.getD k (Ev.bad 0)).e),.int .u8 ((ys.getD k (Ev.bad 0)).f.unit),.int .u16 ((ys.getD k (Ev.bad 0)).f.tid),.int .u8 ((ys.getD k (Ev.bad 0)).f.msg.code),.int .u8 ((ys.getD k (Ev.bad 0)).f.msg.fail),.int .u16 ((ys.getD k (Ev.bad 0)).f.msg.addr),.int .u16 ((ys.getD k (Ev.bad 0)).f.msg.count),.int .u16 ((ys.getD k (Ev.bad 0)).f.msg.value),.int .u16 ((ys.getD k (Ev.bad 0)).f.msg.and_),.int .u16 ((ys.getD k (Ev.bad 0)).f.msg.or_),.int .u16 ((ys.getD k (Ev.bad 0)).f.msg.addr2),.int .u16 ((ys.getD k (Ev.bad 0)).f.msg.sub),.int .u16 ((ys.getD k (Ev.bad 0)).f.msg.status),.int .u16 ((ys.getD k (Ev.bad 0)).f.msg.events),.int .u16 ((ys.getD k (Ev.bad 0)).f.msg.messages),.slice b.aw ((ys.getD k (Ev.bad 0)).f.msg.words.length) b.kw,.slice b.ab ((ys.getD k (Ev.bad 0)).f.msg.bits.length) b.kb,.slice b.ad ((ys.getD k (Ev.bad 0)).f.msg.data.length) b.kd,.slice b.ar ((ys.getD k (Ev.bad 0)).f.msg.recs.length) b.kr,.int .u8 ((ys.getD k (Ev.bad 0)).f.msg.mei),.int .u8 ((ys.getD k (Ev.bad 0)).f.msg.kind),.int .u8 ((ys.getD k (Ev.bad 0)).f.msg.level),.int .u8 ((ys.getD k (Ev.bad 0)).f.msg.more),.int .u8 ((ys.getD k (Ev.bad 0)).f.msg.next),.slice b.ao ((ys.getD k (Ev.bad 0)).f.msg.objects.length) b.ko] rfl (by kernel_rfl) hs.2 (by kernel_rfl) (by kernel_rfl) U)<|?_
 refine R0 8 rfl<|Oc<|m1 (rk (A:=(xs.getD k (Ev.bad 0))) (B:=(ys.getD k (Ev.bad 0))) (aS.old (L.1) i) (aS.old (T.1) i)) fun a1 o=>?_
 refine bB ⟨(ub o v),(ub o y)⟩ fun W=>Rt 9 W<|re<|tn<|?_
 have z:=aM i o
 refine cb ((!(decide ((xs.getD k (Ev.bad 0))=(ys.getD k (Ev.bad 0)))))) (fun p=>?_) (fun p=>?_)
 have j:(decide ((xs.getD k (Ev.bad 0))=(ys.getD k (Ev.bad 0))))=false:=by simpa using p
 have X:=of_decide_eq_false j
 refine sg<|Pl 1<|nt<|rt<|br<|tr<|tr<|br<|tr<|rr (.bool false)<|?_
 have hs:decide (xs=ys)=false:=AN k j
 rw[hs]
 exact⟨rfl,z⟩
 have j:(decide ((xs.getD k (Ev.bad 0))=(ys.getD k (Ev.bad 0))))=true:=by simpa using p
 have X:=of_decide_eq_true j
 exact sk<|bn<|tn<|go<|Pl 1<|L0<|Oi (((k:Nat) : Int)+1)<|Pl 1<|nl<|dH (k+1) ⟨z,(zr (by omega) (by omega) s (of_decide_eq_true j)),(by(try dsimp only);omega)⟩ (by omega)
 have E:=of_decide_eq_false n
 refine xt<|tx<|tx<|bx<|tn<|sg<|Pl 1<|nt<|rt<|rr (.bool true)<|?_
 have hs:decide (xs=ys)=true:=zH s (by omega) (by omega)
 rw[hs]
 exact⟨rfl,r⟩
open Go.RowKit
theorem sO{n:Nat}{A:Option Addr}{cp:Nat}{ps:List Pc}{w:World}(h:aI false 70 2 (mp n) w (.slice A ps.length cp) ps)(hn:n≤w.heap.size)(hps:ps.length≤1048576) : Calls Tryz.prog 35 #[.slice A ps.length cp] w (fun e w'=>∃ v,e = .returned v∧tW n w.heap.size w' v ps∧aD [] w w'):=by
 have hz:=aI.len h
 refine en 26 Tryz.func35 rfl<|ak 1<|cy 1<|sq<|ax 1<|bk<|?_
 refine fE (fun x=>[(0,.slice A ps.length cp),(2,nS),(3,.slice x.2.2.1 x.2.1.length x.2.2.2),(4,vI (x.1:Int))]) (fun(x:Nat × List Pc × Option Addr × Nat) w'=>aD [] w w'∧aQ w.heap.size 70 2 (mp n) w' (.slice x.2.2.1 x.2.1.length x.2.2.2) x.2.1∧(x.1≤ps.length)∧(x.2.1.length≤x.1)∧(x.2.1=ps.take x.1)) (fun x=>ps.length-x.1) (0,[],none,0) ⟨aD.refl _ _,(aQ.nil w.heap.size _ _ (mp n) _),(by(try dsimp only);omega),(by(try dsimp only);exact Nat.le_refl _),rfl⟩ ?_
 rintro⟨k,L,B,cq⟩ I ⟨l,J,K,M,N⟩
 refine eH [(0,.slice A ps.length cp),(2,nS),(3,.slice B L.length cq),(4,vI (k:Int))] ?_
 have c:aQ w.heap.size 70 2 (mp n) I (.slice B L.length cq) L:=J
 have X:k≤ps.length:=K
 have Y:L.length≤k:=M
 have o:L=ps.take k:=N
 refine sq<|ax 4<|cb ((decide ((k:Int)<(ps.length:Int)))) (fun d=>?_) (fun d=>?_)
 have O:=of_decide_eq_true d
 refine bp<|sq<|bk<|l0 (RdPn.elt h k (by omega)) fun q r Z a0 a1 s t u y P a2 b=>Rg 15 (fun w'=>w'.cell? ⟨q,r+k*2+0,none⟩=some (.slice s ((ps.getD k Pc.z).bytes.length) t)∧w'.cell? ⟨q,r+k*2+1,none⟩=some (.bool ((ps.getD k Pc.z).tick))) fun a3 C=>?_
 have D:=aM l C
 have f:=ub D y
 refine bB ⟨(eJ f b 0 rfl (by decide)),(eJ f b 1 rfl (by decide))⟩ fun a=>Rt 0 a<|Rt 1 a<|Rt 2 a<|Ri 3 a 2 ps.length k (k:Int) rfl u (by omega)<|Rt 4 a<|Rl 5 a (fun _ hs=>hs.1)<|Rt 6 a<|Rt 7 a<|Ri 8 a 2 ps.length k (k:Int) rfl u (by omega)<|Rt 9 a<|Rl 10 a (fun _ hs=>hs.2)<|Rt 11 a<|R0 12 rfl<|ep (m:=1) (e:=70) #[.slice s ((ps.getD k Pc.z).bytes.length) t,.bool ((ps.getD k Pc.z).tick)] fun a4 a5 Q R g=>?_
 have i:=aM D g
 have S:=BX (n:=n) (p:=(Pc.mk ((ps.getD k Pc.z).bytes) ((ps.getD k Pc.z).tick))) Q R (⟨_,rfl,pJ.upd i (fun x hx=>by cases hx) P⟩)
 have j:=ub g f
 refine bB ⟨(eJ j b 0 rfl (by decide)),(eJ j b 1 rfl (by decide))⟩ fun a6=>?_
 have E:=aM C g
 have F:=ai c E (fun x hx=>ay) (mp.upd E (fun x hx=>by cases hx))
 refine R0 13 rfl<|eb (xs:=L) (ys:=([Pc.mk ((ps.getD k Pc.z).bytes) ((ps.getD k Pc.z).tick)])) (.agg #[nS,.bool false]) 2 32 F (S).rd mp.ones (fun w' hv=>mp.upd hv (aB (fun x hx=>Nat.le_trans hn (Nat.le_trans lr (gS F x hx))) aA)) (by(try simp only[cD,aN]);omega) i.size fun T U a7 V G a8=>?_
 have H:=aD.blk G (aZ (aG (ag y) lr c) ay) j
 refine bB ⟨(eJ H b 0 rfl (by decide)),(eJ H b 1 rfl (by decide))⟩ fun W=>Rt 14 W<|re<|bn<|tn<|go<|Pl 1<|b6 ((k:Int)+1)<|Pl 1<|nl<|?_
 exact dH ((k+1),(L++[Pc.mk ((ps.getD k Pc.z).bytes) ((ps.getD k Pc.z).tick)]),T,U) ⟨(ut i G (aB (bE c lr) aA)),V,(by(try dsimp only);omega),(by(try dsimp only);simp only[cD];omega),(by(try dsimp only);exact xU o (by omega))⟩ (by omega)
 have O:=of_decide_eq_false d
 refine xt<|tx<|tx<|bx<|tn<|ax 2<|rt<|rr (.slice B L.length cq)<|?_
 have hs:L=ps:=by rw[o,List.take_of_length_le (by omega)]
 exact⟨_,rfl,by rw[← hs];exact c,l⟩
theorem nE{n:Nat}{v:Value}{ps:List Pc}{w:World}(h:aI false 70 2 (mp n) w v ps)(hn:n≤w.heap.size)(hps:ps.length≤1048576) : Calls Tryz.prog 35 #[v] w (fun e w'=>∃ v,e = .returned v∧tW n w.heap.size w' v ps∧aD [] w w'):=by
  obtain⟨A,cp,rfl,_,_⟩:=h.shape
  exact sO h hn hps
end Go.Proofs.YtdkhbcefkfgbdaaGreat
namespace Go.Proofs.YtdkhbcefkfgbdaaGreat
def N4 (C:al) : Prop:=C.e≠4
theorem N4.need{C:al}{b:Bool}{x:Int}(hx:x≠4)(h:N4 C) : N4 (C.need b x):=by
  unfold N4 al.need at *
  split
  · exact hx
  · exact h
theorem N4.bytesC{C:al}{n:Int}(h:N4 C) : N4 (C.bytesC n):=by
  unfold al.bytesC
  split
  · exact N4.need (by decide) h
  · exact h
theorem N4.wordsC{C:al}{n:Int}(h:N4 C) : N4 (C.wordsC n):=by
  unfold al.wordsC
  split<;>exact N4.bytesC h
theorem N4.recs{one:Int→al→Int × al × dx}(ho:∀ s C,N4 C→N4 (one s C).2.1) : ∀ (n:Nat)(s:Int)(C:al)(L:List dx),N4 C→N4 (aT one n s C L).1
  | 0,_,_,_,h=>h
  | n+1,s,C,L,h=>by
    unfold aT
    split
    · split
      · exact ho s C h
      · exact N4.recs ho n _ _ _ (ho s C h)
    · exact h
theorem rl{x:Int}(h:x≠4) : bt x≠4:=by
  unfold bt
  split
  · decide
  · exact h
theorem wF{dir c:Int}{C:al}{r:al × bg}(hC:N4 C)(h:aU dir c C=some r) : N4 r.1:=by
  unfold aU at h
  repeat' split at h
  all_goals first | cases h | skip
  all_goals simp only[dT,dL,de,gR,c9,jK,fv,ei,rZ,iM]
  all_goals repeat' first | with_reducible exact hC | with_reducible apply N4.bytesC | with_reducible apply N4.wordsC | (with_reducible refine N4.need (by decide) ?_)
theorem xS{dir c:Int}{C:al}{r:al × bg}(hC:N4 C)(h:b7 dir c C=some r) : N4 r.1:=by
  unfold b7 at h
  repeat' split at h
  all_goals first | cases h | skip
  all_goals simp only[bX,cj,dD,d8,cF,d6,d7,m6,nh,nH,bJ,s9,cM,mr,uL,BP,AK]
  all_goals repeat' first | with_reducible exact hC | with_reducible apply N4.bytesC | with_reducible apply N4.wordsC | (with_reducible refine N4.need (by decide) ?_)
theorem xh{dir c:Int}{C:al}{r:al × bg}(hC:N4 C)(h:bv dir c C=some r) : N4 r.1:=by
  unfold bv fx cW at h
  repeat' split at h
  all_goals first | cases h | skip
  all_goals simp only[fh,kg,gU,iC,dQ]
  all_goals repeat' first | with_reducible exact hC | with_reducible apply N4.bytesC | with_reducible apply N4.wordsC | (with_reducible refine N4.need (by decide) ?_)
theorem yI(s:Int)(C:al)(h:N4 C) : N4 (cU s C).2.1:=by
  simp only[cU,eM,dz,kp,ku,pA]
  repeat' first | with_reducible exact h | with_reducible apply N4.bytesC | with_reducible apply N4.wordsC | (with_reducible refine N4.need (by decide) ?_)
theorem v7(s:Int)(C:al)(h:N4 C) : N4 (bR s C).2.1:=by
  simp only[bR,eT,iD,iB]
  repeat' first | with_reducible exact h | with_reducible apply N4.bytesC | with_reducible apply N4.wordsC | (with_reducible refine N4.need (by decide) ?_)
theorem yk(s:Int)(C:al)(h:N4 C) : N4 (cP s C).2.1:=by
  simp only[cP,ju,ot,dz,kp,ku,pA]
  repeat' first | with_reducible exact h | with_reducible apply N4.bytesC | with_reducible apply N4.wordsC | (with_reducible refine N4.need (by decide) ?_)
theorem jD{one:Int→al→Int × al × dx}(ho:∀ s C,N4 C→N4 (one s C).2.1)(may:Int→Bool)(c:Int){C:al}(hC:N4 C) : N4 (ex one may c C).1:=by
  unfold ex ny
  refine N4.need (rl (N4.recs ho _ _ _ _ ?_)) (N4.bytesC (N4.need (by decide) (N4.bytesC hC)))
  show(0:Int)≠4
  decide
theorem ve{dir c:Int}{C:al}{r:al × bg}(hC:N4 C)(h:bo dir c C=some r) : N4 r.1:=by
  unfold bo at h
  repeat' split at h
  all_goals first | cases h | skip
  · exact jD yI _ _ hC
  · exact jD v7 _ _ hC
  · exact jD yk _ _ hC
theorem N4.endC{C:al}(h:N4 C) : N4 C.endC:=by
  unfold al.endC
  exact N4.need (by decide) h
theorem uH{form:Int→Int→al→Option (al × bg)}(hg:∀ {dir c:Int}{C:al}{r:al × bg},N4 C→form dir c C=some r→N4 r.1){dir c:Int}{b:List Int}(hd:dir=0∨dir=1){r:al × bg}(hf:form dir c ⟨b,false,0⟩=some r) :
    (aq form dir c b).2≠4:=by
  unfold aq
  rw[if_pos hd,hf]
  have h0:N4 ⟨b,false,0⟩:=by show(0:Int)≠4;decide
  have g1:=hg h0 hf
  show(bA r.2 r.1).2≠4
  unfold bA
  split
  · exact(show ¬ (0:Int)=4 from by decide)
  · exact N4.endC g1
theorem ou{form:Int→Int→al→Option (al × bg)}{dir c:Int}{b:List Int}(hd:dir=0∨dir=1)(hf:form dir c ⟨b,false,0⟩=none) : aq form dir c b=(bg.zero,4):=by
  unfold aq
  rw[if_pos hd,hf]
def fa (dir:Int)(b:List Int) : bg × Int :=
  if (aq aU dir (b.getD 0 0) (b.drop 1)).2==4 then
    if (aq b7 dir (b.getD 0 0) (b.drop 1)).2==4 then
      if (aq bv dir (b.getD 0 0) (b.drop 1)).2==4 then
        if (aq bo dir (b.getD 0 0) (b.drop 1)).2==4 then aq ca dir (b.getD 0 0) (b.drop 1)
        else aq bo dir (b.getD 0 0) (b.drop 1)
      else aq bv dir (b.getD 0 0) (b.drop 1)
    else aq b7 dir (b.getD 0 0) (b.drop 1)
  else aq aU dir (b.getD 0 0) (b.drop 1)
theorem sV{dir:Int}{b:List Int}(hd:dir=0∨dir=1) : fa dir b=kq (lM (b.getD 0 0)) dir b:=by
  have no:∀ (form:Int→Int→al→Option (al × bg)),form dir (b.getD 0 0) ⟨b.drop 1,false,0⟩=none→((aq form dir (b.getD 0 0) (b.drop 1)).2==4)=true:=fun f h=>by rw[ou hd h];rfl
  have ye:∀ (form:Int→Int→al→Option (al × bg)),(∀ {dir c:Int} {C:al} {r:al × bg},N4 C→form dir c C=some r→N4 r.1)→(form dir (b.getD 0 0) ⟨b.drop 1,false,0⟩).isSome=true→¬ ((aq form dir (b.getD 0 0) (b.drop 1)).2==4)=true:=fun form hg h=>by
    obtain⟨r,hr⟩:=Option.isSome_iff_exists.1 h
    have k:=uH (form:=form) (c:=b.getD 0 0) (fun hC h=>hg hC h) hd hr
    rw[beq_iff_eq]
    exact k
  unfold fa
  rcases jX (b.getD 0 0) with⟨hk,hf⟩|⟨hk,hf⟩|⟨hk,hf⟩|⟨hk,hf⟩|⟨hk,hf⟩|⟨hk,hf⟩<;>rw[hf]
  · rw[if_neg (ye aU (fun hC h=>wF hC h) (by rcases hd with rfl | rfl<;>rcases hk with h | h | h | h<;>rw[h]<;>rfl))]
    rfl
  · rw[if_pos (no aU (by rcases hk with h | h | h | h | h | h | h<;>rw[h]<;>rfl)),if_neg (ye b7 (fun hC h=>xS hC h) (by rcases hd with rfl | rfl<;>rcases hk with h | h | h | h | h | h | h<;>rw[h]<;>rfl))]
    rfl
  · rw[if_pos (no aU (by rcases hk with h | h | h | h | h<;>rw[h]<;>rfl)),if_pos (no b7 (by rcases hk with h | h | h | h | h<;>rw[h]<;>rfl)),if_neg (ye bv (fun hC h=>xh hC h) (by rcases hd with rfl | rfl<;>rcases hk with h | h | h | h | h<;>rw[h]<;>rfl))]
    rfl
  · rw[if_pos (no aU (by rcases hk with h | h<;>rw[h]<;>rfl)),if_pos (no b7 (by rcases hk with h | h<;>rw[h]<;>rfl)),if_pos (no bv (by rcases hk with h | h<;>rw[h]<;>rfl)),if_neg (ye bo (fun hC h=>ve hC h) (by rcases hd with rfl | rfl<;>rcases hk with h | h<;>rw[h]<;>rfl))]
    rfl
  · rw[if_pos (no aU (by rw[hk]<;>rfl)),if_pos (no b7 (by rw[hk]<;>rfl)),if_pos (no bv (by rw[hk]<;>rfl)),if_pos (no bo (by rw[hk]<;>rfl))]
    rfl
  · have no0:∀ (form:Int→Int→al→Option (al × bg)),(∀ C,form dir (b.getD 0 0) C=none)→((aq form dir (b.getD 0 0) (b.drop 1)).2==4)=true:=fun f h=>no f (h _)
    have ne:∀ k:Int,¬ b.getD 0 0=k→(b.getD 0 0==k)=false:=fun k h=>by simpa using h
    obtain⟨z1,z2,z5,a,z3,z4,z6,d,e,g,i,z7,z8,j,l,m,n,o,p⟩:=hk
    rw[if_pos (no0 aU fun C=>by unfold aU;simp only[ne _ z1,ne _ z2,ne _ z5,ne _ a,Bool.or_false,Bool.false_eq_true,if_false]),if_pos (no0 b7 fun C=>by unfold b7;simp only[ne _ z3,ne _ z4,ne _ z6,ne _ d,ne _ e,ne _ g,ne _ i,Bool.or_false,Bool.false_eq_true,if_false]),if_pos (no0 bv fun C=>by unfold bv;simp only[ne _ z7,ne _ z8,ne _ j,ne _ l,ne _ m,Bool.or_false,Bool.false_eq_true,if_false]),if_pos (no0 bo fun C=>by unfold bo;simp only[ne _ n,ne _ o,Bool.or_false,Bool.false_eq_true,if_false])]
    exact ou hd (by unfold ca;rw[if_pos (show(b.getD 0 0 != 43)=true from by rw[bne_iff_ne];exact p)])
def fW (dir:Int)(b:List Int) : bg × Int :=
  if dir != 0&&dir != 1 then (bg.zero,1)
  else if (b.length:Int)==0 then (bg.zero,2)
  else if decide (253<(b.length:Int)) then (bg.zero,3)
  else if decide (128≤b.getD 0 0)&&dir==1 then gW b
  else fa dir b
theorem fi(dir:Int)(b:List Int) : fW dir b=di dir b:=by
  unfold fW di
  split
  · rfl
  · rename_i hh
    have hd:dir=0∨dir=1:=by simp only[Bool.and_eq_true,bne_iff_ne,ne_eq] at hh;omega
    rw[sV hd]
open Go.RowKit
theorem sK{xs:List Int}{k a b:Nat}(h:2*k+1<xs.length)(ha:a=2*k)(hb:b=2*k+1)(hr:∀ x,x∈xs→0≤x∧x<256) : cK (xs.drop (2*k))=[(((256*xs.getD a 0)%65536)+xs.getD b 0)%65536]++cK (xs.drop (2*(k+1))):=by
  subst ha hb
  rw[List.drop_eq_getElem_cons (show 2*k<xs.length by omega),List.drop_eq_getElem_cons h]
  have h1:=hr _ (List.getElem_mem (show 2*k<xs.length by omega))
  have h2:=hr _ (List.getElem_mem h)
  have e1:xs.getD (2*k) 0=xs[2*k]:=by rw[List.getD_eq_getElem?_getD,List.getElem?_eq_getElem (by omega)];rfl
  have e2:xs.getD (2*k+1) 0=xs[2*k+1]:=by rw[List.getD_eq_getElem?_getD,List.getElem?_eq_getElem h];rfl
  rw[e1,e2]
  show(xs[2*k]*256+xs[2*k+1]) :: cK (xs.drop (2*k+1+1))=_
  rw[show 2*k+1+1=2*(k+1) by omega,show((256*xs[2*k])%65536+xs[2*k+1])%65536=xs[2*k]*256+xs[2*k+1] by omega]
  rfl
theorem sI{xs L:List Int}{k:Nat}(h:L++cK (xs.drop (2*k))=cK xs)(h1:¬ 2*k+1<xs.length)(h2:xs.length%2=0) : L=c6 xs:=by
  have hd:xs.drop (2*k)=[]:=List.drop_eq_nil_of_le (by omega)
  rw[hd] at h
  unfold c6
  rw[if_pos h2,← h]
  simp[cK]
theorem Ad{m:Md}{A:Option Addr}{cp:Nat}{xs:List Int}{w:World}(h:aO m w (.slice A xs.length cp) xs)(hn:xs.length≤1048576) : Calls Tryz.prog 224 #[.slice A xs.length cp] w (wA xs w):=by
 have hr:=aO.range h
 refine en 33 Tryz.func224 rfl<|ak 1<|cy 1<|sq<|ak 2<|L0<|Oe (vI (Int.tmod (xs.length:Int) 2)) (vI ((xs.length:Int)%2)) (congrArg (Value.int .i64) (Int.tmod_eq_emod_of_nonneg (by omega)))<|aj 1<|cb ((((xs.length:Int)%2)==1)) (fun f=>?_) (fun f=>?_)
 have v:=am f
 refine ax 1<|bh<|rr nS<|?_
 have hs:c6 xs=[]:=by unfold c6;rw[if_neg (by have:=am f;omega)]
 exact⟨_,rfl,by rw[hs];exact aQ.nil ..,(aD.refl [] _)⟩
 have v:=au f
 refine bp<|sq<|ax 1<|bk<|fE (fun x=>[(0,.slice A xs.length cp),(2,nS),(3,.slice x.2.2.1 x.2.1.length x.2.2.2),(4,vI ((2*x.1:Nat) : Int))]) (fun(x:Nat × List Int × Option Addr × Nat) w'=>aD [] w w'∧kx w.heap.size w' (.slice x.2.2.1 x.2.1.length x.2.2.2) x.2.1∧(2*x.1≤xs.length)∧(x.2.1++cK (xs.drop (2*x.1))=cK xs)∧(x.2.1.length=x.1)) (fun x=>xs.length-2*x.1) (0,[],none,0) ⟨aD.refl _ _,(aQ.nil w.heap.size _ _ uJ _),(by(try dsimp only);omega),rfl,rfl⟩ ?_
 rintro⟨k,L,B,cq⟩ y ⟨g,z,C,D,E⟩
 refine eH [(0,.slice A xs.length cp),(2,nS),(3,.slice B L.length cq),(4,vI ((2*k:Nat) : Int))] ?_
 have i:kx w.heap.size y (.slice B L.length cq) L:=z
 have T:2*k≤xs.length:=C
 have U:L++cK (xs.drop (2*k))=cK xs:=D
 have V:L.length=k:=E
 have hL:L++cK (xs.drop (2*k))=cK xs:=by assumption
 refine sq<|ak 1<|b6 (((2*k:Nat) : Int)+1)<|aj 3<|cb ((decide ((((2*k:Nat) : Int)+1)<(xs.length:Int)))) (fun j=>?_) (fun j=>?_)
 have F:=of_decide_eq_true j
 refine bp<|sq<|bk<|?_
 have o:=aO.old h g
 refine ea (aO.at_ o (2*k) (by omega)) fun G H p q W=>ea (aO.at_ o (((((2*k:Nat) : Int)+1)).toNat) (by omega)) fun I J r s X=>Rg 17 (fun w'=>w'.cell? ⟨G,H+2*k,none⟩=some (vB (xs.getD (2*k) 0))∧w'.cell? ⟨I,J+((((2*k:Nat) : Int)+1)).toNat,none⟩=some (vB (xs.getD (((((2*k:Nat) : Int)+1)).toNat) 0))) fun Y d=>bB ⟨(uc d q),(uc d s)⟩ fun c=>Rt 0 c<|Rt 1 c<|Rt 2 c<|kj 3 c xs.length (2*k) ((2*k:Nat) : Int) rfl p (by omega)<|Rl 4 c (fun _ hs=>hs.1)<|Rr 5 c (vW (xs.getD (2*k) 0)) (fun _ _=>bF (vW (IntKind.u16.wrap (xs.getD (2*k) 0))) (by kernel_rfl) (congrArg (Value.int .u16) (i6 (by omega))))<|Rt 6 c<|Rt 7 c<|Rt 8 c<|Rr 9 c (vI (((2*k:Nat) : Int)+1)) (fun _ _=>bF (vI (IntKind.i64.wrap (((2*k:Nat) : Int)+1))) (by kernel_rfl) (congrArg (Value.int .i64) (IntWalk.i64_in _ (by omega))))<|kj 10 c xs.length (((((2*k:Nat) : Int)+1)).toNat) (((2*k:Nat) : Int)+1) (by omega) r (by omega)<|Rl 11 c (fun _ hs=>hs.2)<|Rr 12 c (vW (xs.getD (((((2*k:Nat) : Int)+1)).toNat) 0)) (fun _ _=>bF (vW (IntKind.u16.wrap (xs.getD (((((2*k:Nat) : Int)+1)).toNat) 0))) (by kernel_rfl) (congrArg (Value.int .u16) (i6 (by omega))))<|Rt 13 c<|R0 14 rfl<|ep (m:=1) (e:=37) #[vW ((((256*(xs.getD (2*k) 0))%65536)+(xs.getD (((((2*k:Nat) : Int)+1)).toNat) 0))%65536)] fun Z a0 K M l=>?_
 have N:=xM K (xs:=[((((256*(xs.getD (2*k) 0))%65536)+(xs.getD (((((2*k:Nat) : Int)+1)).toNat) 0))%65536)]) (by as_aux_lemma=>kernel_rfl) (aV (by omega) dc) (by(try simp only[List.length_cons,List.length_nil]);omega) M
 have n:=aM d l
 refine bB ⟨(uc n q),(uc n s)⟩ fun a1=>?_
 refine R0 15 rfl<|vh rY (xs:=L) (ys:=([((((256*(xs.getD (2*k) 0))%65536)+(xs.getD (((((2*k:Nat) : Int)+1)).toNat) 0))%65536)])) (vW 0) 2 (ai i n (fun x hx=>ay) (fun _ _ h=>h)) (N).rd (by(try simp only[cD,aN]);omega) (le (le g.size d.size) l.size) fun O P a2 Q R=>?_
 have t:=ut (aM (aM g d) l) R (aB (bE i lr) aA)
 have u:=aO.old h t
 exact bB ⟨(cB u p (2*k) (by omega)),(cB u r (((((2*k:Nat) : Int)+1)).toNat) (by omega))⟩ fun S=>Rt 16 S<|re<|bn<|tn<|go<|Pl 1<|b6 (((2*k:Nat) : Int)+2)<|Pl 1<|nl<|dH ((k+1),(L++[((((256*(xs.getD (2*k) 0))%65536)+(xs.getD (((((2*k:Nat) : Int)+1)).toNat) 0))%65536)]),O,P) ⟨t,Q,(by(try dsimp only);omega),(by(try dsimp only);rw[← hL,sK (k:=k) (a:=2*k) (b:=(((2*k:Nat) : Int)+1).toNat) (by omega) rfl (by omega) hr,List.append_assoc]),(by(try dsimp only);simp only[cD];omega)⟩ (by omega)
 have F:=of_decide_eq_false j
 refine xt<|tx<|tx<|bx<|tn<|ax 2<|rt<|rr (.slice B L.length cq)<|?_
 have hs:L=c6 xs:=sI hL (by omega) (by omega)
 exact⟨_,rfl,by rw[← hs];exact i,g⟩
theorem zj{m:Md}{v:Value}{xs:List Int}{w:World}(h:aO m w v xs)(hn:xs.length≤1048576) : Calls Tryz.prog 224 #[v] w (wA xs w):=by
  obtain⟨A,cp,rfl,_,_⟩:=h.shape
  exact Ad h hn
theorem rS{a n:Int}{w:World}(ha:0≤a∧a<65536)(hn : -1048576≤n∧n≤1048576) : Calls Tryz.prog 222 #[vW a,vI n] w (bD (.bool (dh a n)) w):=by
 refine en 16 Tryz.func222 rfl<|ax 1<|sq<|ak 3<|eE 3 [7] 10 7 (decide (n<1)) (decide (65536<n)) (fun K c d=>?_) ?_
 have g:=of_decide_eq_false d
 exact Pl 3<|ce c _ rfl
 refine nt<|cb (((decide (n<1))||(decide (65536<n)))) (fun b=>?_) (fun b=>?_)
 refine ax 1<|bh<|rr (.bool false)<|?_
 have hq:=b
 have hs:dh a n=false:=by unfold dh;simp only[Bool.or_eq_true,decide_eq_true_eq] at hq;simp only[Bool.and_eq_false_iff,decide_eq_false_iff_not];omega
 rw[hs]
 exact⟨rfl,(aD.refl [] _)⟩
 have e:=(cv b).1
 have f:=(cv b).2
 have h:=of_decide_eq_false e
 have i:=of_decide_eq_false f
 refine bp<|ak 1<|b6 a<|Pl 1<|b6 (a+n)<|aj 2<|rt<|rr (.bool (decide ((a+n)≤65536)))<|?_
 have hs:dh a n=(decide ((a+n)≤65536)):=by unfold dh;rw[Bool.eq_iff_iff];simp only[Bool.and_eq_true,decide_eq_true_eq];omega
 rw[hs]
 exact⟨rfl,(aD.refl [] _)⟩
open Go.RowKit
def CL (A:Option Addr)(cp:Nat)(full:List Int)(k:Nat)(C:al) : Array Value:=#[.slice A full.length cp,.int .i64 ((k:Nat) : Int),.bool C.sh,.int .i64 C.e]
structure RC (w0:World) (m:Md) (A:Option Addr) (cp:Nat) (full:List Int) (w:World) (g:Nat) (C:al) : Prop where
  src:aO m w0 (.slice A full.length cp) full
  u:aD [] w0 w
  new:w0.heap.size≤g
  cell:∃ k:Nat,w.heap[g]? = some (.cells (CL A cp full k C) 194 (0,0))∧k≤full.length∧C.l=full.drop k
  len:full.length≤1048576
theorem RC.upd{w0:World}{m:Md}{A:Option Addr}{cp:Nat}{full:List Int}{w w':World}{g:Nat}{C:al}{S:List Nat}(h:RC w0 m A cp full w g C)(hu:aD S w w')(hg:g∉S)(U:aD [] w0 w') : RC w0 m A cp full w' g C:=by
  obtain⟨h1,h2,h3,⟨k,h4,h5,h6⟩,h7⟩:=h
  exact⟨h1,U,h3,⟨k,hu.blk hg h4,h5,h6⟩,h7⟩
theorem RC.rd{w0:World}{m:Md}{A:Option Addr}{cp:Nat}{full:List Int}{w:World}{g:Nat}{C:al}(h:RC w0 m A cp full w g C) : aO m w (.slice A full.length cp) full:=aO.old h.src h.u
theorem RC.rng{w0:World}{m:Md}{A:Option Addr}{cp:Nat}{full:List Int}{w:World}{g:Nat}{C:al}(h:RC w0 m A cp full w g C) : ∀ x,x∈C.l→0≤x∧x<256:=fun x hx=>by
  obtain⟨k,_,_,h2⟩:=h.cell
  rw[h2] at hx
  exact aO.range h.src x (List.mem_of_mem_drop hx)
theorem xj(C:al){ok:Bool}{x:Int}(h:(ok || (C.e != 0))=true) : C.need ok x=C:=by
  unfold al.need
  rw[if_neg]
  rintro⟨h1,rfl⟩
  rw[h1] at h
  cases h
theorem yT(C:al){ok:Bool}{x:Int}(h:(ok || (C.e != 0))=false) : C.need ok x = { C with e:=x }:=by
  simp only[Bool.or_eq_false_iff,bne_eq_false_iff_eq] at h
  unfold al.need
  rw[if_pos ⟨h.2,h.1⟩]
def zq (w0:World)(m:Md)(A:Option Addr)(cp:Nat)(full:List Int)(g:Nat)(C:al)(w:World)(e:Ending)(w':World) : Prop:=e = .returned (.tuple #[])∧RC w0 m A cp full w' g C∧aD [g] w w'
theorem aX{w0:World}{m:Md}{A:Option Addr}{cp:Nat}{full:List Int}{w:World}{g:Nat}{C:al}(ok:Bool)(x:Int)(hC:RC w0 m A cp full w g C) :
    Calls Tryz.prog 168 #[vP g 0,.bool ok,vI x] w (zq w0 m A cp full g (C.need ok x) w):=by
 obtain⟨hsrc,hU,hnew,⟨k,hB,hk,hl⟩,hlen⟩:=hC
 refine en 18 Tryz.func168 rfl<|sq<|ak 2<|eE 6 [7] 13 7 ok (C.e != 0) (fun K c h=>?_) ?_
 exact Pl 3<|L1<|dp hB 3<|Pl 2<|ce c _ rfl
 refine nt<|cb ((ok || (C.e != 0))) (fun a=>?_) (fun a=>?_)
 refine bh<|rr (.tuple #[])<|?_
 rw[xj C a]
 exact⟨rfl,⟨hsrc,hU.trans' (aD.mono (S':=[g]) (aD.refl [] _) aA) (fun x hx=>.inr (by simp at hx;subst hx;exact hnew)),hnew,⟨k,hB,hk,hl⟩,hlen⟩,(aD.mono (S':=[g]) (aD.refl [] _) aA)⟩
 have i:=(cv a).1
 have d:=(cv a).2
 have j:=aJ d
 refine bp<|go<|Pl 4<|L0<|bI hB 3 #[.slice A full.length cp,vI (k:Int),.bool C.sh,vI x] fun l f b=>nl<|rm (.tuple #[])<|?_
 rw[yT C a]
 exact⟨rfl,⟨hsrc,hU.trans' b (fun x hx=>.inr (by simp at hx;subst hx;exact hnew)),hnew,⟨k,f,hk,hl⟩,hlen⟩,b⟩
theorem ji{C:al}{full:List Int}{k:Nat}{n:Int}(hk:k≤full.length)(hl:C.l=full.drop k) : C.fails n=((C.sh || decide (n<0))||decide ((((full.length:Nat) : Int)-((k:Nat) : Int))<n)):=by
  unfold al.fails
  rw[hl,List.length_drop,show((full.length-k:Nat) : Int)=((full.length:Nat) : Int)-((k:Nat) : Int) by omega]
def xV (w0:World)(m:Md)(A:Option Addr)(cp:Nat)(full:List Int)(g:Nat)(C:al)(n:Int)(w:World)(e:Ending)(w':World) : Prop:=∃ A2 n2 c2,e = .returned (.slice A2 n2 c2)∧(∀ m' w'',aO m' w'' (.slice A full.length cp) full→aO m' w'' (.slice A2 n2 c2) (C.bytesR n))∧RC w0 m A cp full w' g (C.bytesC n)∧aD [g] w w'
theorem xE{l full:List Int}{k a b:Nat}(hl:l=full.drop k)(h:b=k+a) : l.drop a=full.drop b:=by
  rw[hl,List.drop_drop,h]
theorem qU{C:al}{full:List Int}{k:Nat}{n:Int}(hk:k≤full.length)(hl:C.l=full.drop k)(hf:C.fails n=false)(a b:Nat)(ha:(a:Int)=k)(hb:(b:Int)=(k:Int)+n) : (full.take b).drop a=C.bytesR n:=by
  obtain rfl:a=k:=by omega
  unfold al.bytesR
  rw[hf,hl,List.drop_take]
  show _=(full.drop a).take n.toNat
  rw[show b-a=n.toNat by omega]
theorem pW{w0:World}{m:Md}{A:Option Addr}{cp:Nat}{full:List Int}{w:World}{g:Nat}{C:al}{n:Int}(hn : -1048576≤n∧n≤2097152)(hC:RC w0 m A cp full w g C) :
    Calls Tryz.prog 169 #[vP g 0,vI n] w (xV w0 m A cp full g C n w):=by
 obtain⟨hsrc,hU,hnew,⟨k,hB,hk,hl⟩,hlen⟩:=hC
 have hcp:full.length≤cp:=by obtain⟨_,_,hv,h1,_⟩:=aI.shape hsrc;injection hv with _ _ h3;omega
 refine en 64 Tryz.func169 rfl<|ax 1<|sq<|sq<|Rg 22 (fun w'=>w'.cell? ⟨g,2,none⟩=some (.bool C.sh)∧w'.cell? ⟨g,0,none⟩=some (.slice A full.length cp)∧w'.cell? ⟨g,1,none⟩=some (vI (k:Int))) fun a4 i=>?_
 have d:=ub i hB
 refine bB ⟨(ap d rfl),(ap d rfl),(ap d rfl)⟩ fun a=>Rt 0 a<|Rt 1 a<|Rt 2 a<|Rl 3 a (fun _ hs=>hs.1)<|Rt 4 a<|ze 9 (C.sh) (fun j=>?_) (fun j=>?_)
 refine Ro 5 a<|Ro 6 a<|Rt 7 a<|Rt 8 a<|Ro 9 a<|Ro 10 a<|Ro 11 a<|Ro 12 a<|Ro 13 a<|Ro 14 a<|Ro 15 a<|Ro 16 a<|Ro 17 a<|Ro 18 a<|Ro 19 a<|Ro 20 a<|Rt 21 a<|re<|tn<|c1<|ak 3<|L0<|bI d 2 #[.slice A full.length cp,vI (k:Int),.bool true,vI C.e] fun a5 q D=>aL 4<|aH q 0<|Pl 3<|L0<|bI q 1 #[.slice A full.length cp,vI (full.length:Int),.bool true,vI C.e] fun E F G=>aL 1<|?_
 have r:=u1 (u1 (aD.mono (S':=[g]) i aA) D im) G im
 have H:RC w0 m A cp full E g { C with l:=[],sh:=true }:=⟨hsrc,hU.trans' r (fun x hx=>.inr (by simp at hx;subst hx;exact hnew)),hnew,⟨full.length,F,Nat.le_refl _,List.drop_length.symm⟩,hlen⟩
 refine az<|m2 (aX false 2 H) fun a6 I J=>cy 1<|bh<|rr nS<|?_
 have hf:C.fails n=true:=by rw[ji (n:=n) hk hl,j];rfl
 have e1:C.bytesR n=[]:=by unfold al.bytesR;rw[hf];rfl
 have e2:C.bytesC n=al.need { C with l:=[],sh:=true } false 2:=by unfold al.bytesC;rw[hf];rfl
 exact⟨none,0,0,rfl,fun _ _ _=>by rw[e1];exact aI.nil ..,by rw[e2];exact I,(u1 r J im)⟩
 refine Rt 5 a<|Rt 6 a<|Rt 7 a<|Rt 8 a<|ze 13 ((decide (n<0))) (fun f=>?_) (fun f=>?_)
 have K:=of_decide_eq_true f
 refine Ro 9 a<|Ro 10 a<|Ro 11 a<|Ro 12 a<|Ro 13 a<|Ro 14 a<|Ro 15 a<|Ro 16 a<|Ro 17 a<|Ro 18 a<|Ro 19 a<|Ro 20 a<|Rt 21 a<|re<|tn<|c1<|ak 3<|L0<|bI d 2 #[.slice A full.length cp,vI (k:Int),.bool true,vI C.e] fun a7 s L=>aL 4<|aH s 0<|Pl 3<|L0<|bI s 1 #[.slice A full.length cp,vI (full.length:Int),.bool true,vI C.e] fun M N O=>?_
 refine aL 1<|?_
 have t:=u1 (u1 (aD.mono (S':=[g]) i aA) L im) O im
 have Q:RC w0 m A cp full M g { C with l:=[],sh:=true }:=⟨hsrc,hU.trans' t (fun x hx=>.inr (by simp at hx;subst hx;exact hnew)),hnew,⟨full.length,N,Nat.le_refl _,List.drop_length.symm⟩,hlen⟩
 refine az<|m2 (aX false 2 Q) fun a8 R S=>cy 1<|bh<|rr nS<|?_
 have hf:C.fails n=true:=by rw[ji (n:=n) hk hl,j,f];rfl
 have e1:C.bytesR n=[]:=by unfold al.bytesR;rw[hf];rfl
 have e2:C.bytesC n=al.need { C with l:=[],sh:=true } false 2:=by unfold al.bytesC;rw[hf];rfl
 exact⟨none,0,0,rfl,fun _ _ _=>by rw[e1];exact aI.nil ..,by rw[e2];exact R,(u1 t S im)⟩
 have K:=of_decide_eq_false f
 refine Rt 9 a<|Rt 10 a<|Rt 11 a<|Rt 12 a<|Rl 13 a (fun _ hs=>hs.2.1)<|Rt 14 a<|Rt 15 a<|Rt 16 a<|Rt 17 a<|Rl 18 a (fun _ hs=>hs.2.2)<|Rr 19 a (vI ((full.length:Int)-(k:Int))) (fun _ _=>bF (vI (IntKind.i64.wrap ((full.length:Int)-(k:Int)))) (by kernel_rfl) (congrArg (Value.int .i64) (IntWalk.i64_in _ (by omega))))<|Rt 20 a<|Rt 21 a<|re<|tn<|cb ((decide (((full.length:Int)-(k:Int))<n))) (fun o=>?_) (fun o=>?_)
 have T:=of_decide_eq_true o
 refine ak 3<|L0<|bI d 2 #[.slice A full.length cp,vI (k:Int),.bool true,vI C.e] fun a9 u U=>aL 4<|aH u 0<|Pl 3<|L0<|bI u 1 #[.slice A full.length cp,vI (full.length:Int),.bool true,vI C.e] fun V W X=>nt<|ak 1<|?_
 have v:=u1 (u1 (aD.mono (S':=[g]) i aA) U im) X im
 have Y:RC w0 m A cp full V g { C with l:=[],sh:=true }:=⟨hsrc,hU.trans' v (fun x hx=>.inr (by simp at hx;subst hx;exact hnew)),hnew,⟨full.length,W,Nat.le_refl _,List.drop_length.symm⟩,hlen⟩
 refine az<|m2 (aX false 2 Y) fun aa Z a0=>cy 1<|bh<|rr nS<|?_
 have hf:C.fails n=true:=by rw[ji (n:=n) hk hl,j,f,o];rfl
 have e1:C.bytesR n=[]:=by unfold al.bytesR;rw[hf];rfl
 have e2:C.bytesC n=al.need { C with l:=[],sh:=true } false 2:=by unfold al.bytesC;rw[hf];rfl
 exact⟨none,0,0,rfl,fun _ _ _=>by rw[e1];exact aI.nil ..,by rw[e2];exact Z,(u1 v a0 im)⟩
 have T:=of_decide_eq_false o
 refine bp<|ak 4<|aH d 1<|Pl 1<|b6 ((k:Int)+n)<|Pl 2<|L0<|bI d 1 #[.slice A full.length cp,vI ((k:Int)+n),.bool C.sh,vI C.e] fun ab a1 a2=>nt<|sq<|Rg 16 (fun w'=>w'.cell? ⟨g,0,none⟩=some (.slice A full.length cp)∧w'.cell? ⟨g,1,none⟩=some (vI ((k:Int)+n))) fun ac y=>?_
 have p:=ub y a1
 refine bB ⟨(ap p rfl),(ap p rfl)⟩ fun b=>Rt 0 b<|Rt 1 b<|Rt 2 b<|Rl 3 b (fun _ hs=>hs.1)<|Rt 4 b<|Rt 5 b<|Rt 6 b<|Rl 7 b (fun _ hs=>hs.2)<|Rt 8 b<|Rr 9 b (vI (((k:Int)+n)-n)) (fun _ _=>bF (vI (IntKind.i64.wrap (((k:Int)+n)-n))) (by kernel_rfl) (congrArg (Value.int .i64) (IntWalk.i64_in _ (by omega))))<|Rt 10 b<|Rt 11 b<|Rt 12 b<|Rl 13 b (fun _ hs=>hs.2)<|iy (eh (P:=Tryz.prog) 27 5 1 Tryz.underlying27 rfl rfl A full.length cp (lo:=(((k:Int)+n)-n)) (up:=((k:Int)+n)) (((((k:Int)+n)-n)).toNat) ((((k:Int)+n)).toNat) (by omega) (by omega) (by omega) (by omega) (by omega)) fun z hrun69 a3=>Rr 14 b (.slice z (((((k:Int)+n)).toNat)-(((((k:Int)+n)-n)).toNat)) (cp-(((((k:Int)+n)-n)).toNat))) (fun _ _=>d9 (kl:=.i64) (kh:=.i64) (lo:=(((k:Int)+n)-n)) (hi:=((k:Int)+n)) (A:=A) (n:=full.length) (c:=cp) rfl Tryz.underlying27 (by kernel_rfl) (by kernel_rfl) (by kernel_rfl) (hrun69 _ _ _))<|Rt 15 b<|re<|tn<|rt<|rr (.slice z (((((k:Int)+n)).toNat)-(((((k:Int)+n)-n)).toNat)) (cp-(((((k:Int)+n)-n)).toNat)))<|?_
 have hf:C.fails n=false:=by rw[ji (n:=n) hk hl,j,f,o];rfl
 have B:=aM (u1 (aD.mono (S':=[g]) i aA) a2 im) y
 have e2:C.bytesC n = { C with l:=C.l.drop n.toNat }:=by unfold al.bytesC;rw[hf];rfl
 exact⟨_,_,_,rfl,fun m' w'' h=>by have:=a3 m' _ _ w'' full h;rw[qU hk hl hf _ _ (by omega) (by omega)] at this;exact this,by rw[e2];exact⟨hsrc,hU.trans' B (fun x hx=>.inr (by simp at hx;subst hx;exact hnew)),hnew,⟨((k:Int)+n).toNat,(by unfold CL;rw[show(((((k:Int)+n).toNat:Nat) : Int))=(k:Int)+n by omega];exact p),by omega,xE hl (by omega)⟩,hlen⟩,B⟩
def yR (w0:World)(m:Md)(A:Option Addr)(cp:Nat)(full:List Int)(g:Nat)(C:al)(n:Int)(w:World)(e:Ending)(w':World) : Prop:=∃ A2 c2,e = .returned (.slice A2 (C.bytesR n).length c2)∧(∀ m' w'',aO m' w'' (.slice A full.length cp) full→aO m' w'' (.slice A2 (C.bytesR n).length c2) (C.bytesR n))∧RC w0 m A cp full w' g (C.bytesC n)∧aD [g] w w'
theorem fw{w0:World}{m:Md}{A:Option Addr}{cp:Nat}{full:List Int}{w:World}{g:Nat}{C:al}{n:Int}(hn : -1048576≤n∧n≤2097152)(hC:RC w0 m A cp full w g C) : Calls Tryz.prog 169 #[.pointer (some ⟨g,0,none⟩),.int .i64 n] w (yR w0 m A cp full g C n w):=by
  refine(pW hn hC).mono ?_
  rintro e w' ⟨A2,n2,c2,rfl,h1,h2,h3⟩
  obtain⟨_,_,hv,_⟩:=aI.shape (h1 m w0 hC.src)
  injection hv with _ e2 _
  subst e2
  exact⟨A2,c2,rfl,h1,h2,h3⟩
theorem yi{full:List Int}{k:Nat}{C:al}(hk:k≤full.length)(hl:C.l=full.drop k) : ((full.length:Nat) : Int)-((k:Nat) : Int)=((C.l.length:Nat) : Int):=by
  rw[hl,List.length_drop]
  omega
theorem iw{w0:World}{m:Md}{A:Option Addr}{cp:Nat}{full:List Int}{w:World}{g:Nat}{C:al}(hC:RC w0 m A cp full w g C) :
    Calls Tryz.prog 177 #[vP g 0] w (bD (vI (C.l.length:Int)) w):=by
 obtain⟨hsrc,hU,hnew,⟨k,hB,hk,hl⟩,hlen⟩:=hC
 have hcp:full.length≤1048576:=hlen
 refine en 13 Tryz.func177 rfl<|ax 1<|sq<|Rg 11 (fun w'=>w'.cell? ⟨g,0,none⟩=some (.slice A full.length cp)∧w'.cell? ⟨g,1,none⟩=some (vI (k:Int))) fun d b=>?_
 have c:=ub b hB
 refine bB ⟨(ap c rfl),(ap c rfl)⟩ fun a=>Rt 0 a<|Rt 1 a<|Rt 2 a<|Rl 3 a (fun _ hs=>hs.1)<|Rt 4 a<|Rt 5 a<|Rt 6 a<|Rt 7 a<|Rl 8 a (fun _ hs=>hs.2)<|Rr 9 a (vI ((full.length:Int)-(k:Int))) (fun _ _=>bF (vI (IntKind.i64.wrap ((full.length:Int)-(k:Int)))) (by kernel_rfl) (congrArg (Value.int .i64) (IntWalk.i64_in _ (by omega))))<|Rt 10 a<|re<|tn<|rt<|rr (vI ((full.length:Int)-(k:Int)))<|?_
 rw[yi hk hl]
 exact⟨rfl,b⟩
theorem lZ{w0:World}{m:Md}{A:Option Addr}{cp:Nat}{full:List Int}{w:World}{g:Nat}{C:al}(hC:RC w0 m A cp full w g C) :
    Calls Tryz.prog 173 #[vP g 0] w (zq w0 m A cp full g C.endC w):=by
 refine en 7 Tryz.func173 rfl<|go<|Pl 2<|az<|m1 (iw hC) fun e a=>?_
 have b:=RC.upd hC a ay (aD.step (RC.u hC) a)
 refine Pl 1<|az<|m2 (aX (((C.l.length:Int)==0)) 3 b) fun f c d=>nl<|rm (.tuple #[])<|?_
 exact⟨rfl,c,(u1 (aD.mono (S':=[g]) a aA) d im)⟩
theorem RC.clen{w0:World}{m:Md}{A:Option Addr}{cp:Nat}{full:List Int}{w:World}{g:Nat}{C:al}(h:RC w0 m A cp full w g C) : C.l.length≤1048576:=by
  obtain⟨k,_,_,h2⟩:=h.cell
  have:=h.len
  rw[h2,List.length_drop]
  omega
theorem ss{C:al}(h:((((C.bytesR 1).length:Nat) : Int)==0)=true) : C.byteV=0:=by
  have hz:C.bytesR 1=[]:=List.eq_nil_of_length_eq_zero (by have:=am h;omega)
  unfold al.byteV
  rw[hz]
  rfl
def qe (w0:World)(m:Md)(A:Option Addr)(cp:Nat)(full:List Int)(g:Nat)(q:IntKind)(M x:Int)(C:al)(w:World)(e:Ending)(w':World) : Prop:=e = .returned (.int q x)∧RC w0 m A cp full w' g C∧aD [g] w w'∧0≤x∧x<M
theorem dP{w0:World}{m:Md}{A:Option Addr}{cp:Nat}{full:List Int}{w:World}{g:Nat}{C:al}(hC:RC w0 m A cp full w g C) :
    Calls Tryz.prog 167 #[vP g 0] w (qe w0 m A cp full g .u8 256 C.byteV (C.bytesC 1) w):=by
 refine en 12 Tryz.func167 rfl<|ak 1<|aL 1<|az<|pK (fw (n:=1) (by omega) hC) fun k l o d b c=>?_
 have q:=Nat.le_trans (al.bytesR_le C 1) (RC.clen hC)
 refine aj 1<|sq<|ax 3<|cb ((((C.bytesR 1).length:Int)==0)) (fun a=>?_) (fun a=>?_)
 have e:=am a
 exact ax 1<|bh<|rr (vB 0)<|⟨by rw[ss a],b,c,mj (RC.rng hC)⟩
 have e:=au a
 exact bp<|ak 1<|ea (aO.at_ (d _ _ (RC.rd b)) 0 (by omega)) fun f h i j r=>L0<|iV ((C.bytesR 1).length) 0 i (by omega)<|L0<|dX (p:=⟨f,h+0,none⟩) (v:=vB ((C.bytesR 1).getD 0 0)) j<|aj 1<|rt<|rr (vB ((C.bytesR 1).getD 0 0))<|⟨rfl,b,c,mj (RC.rng hC)⟩
theorem u0{C:al}{full:List Int}{k:Nat}{n:Int}(hk:k≤full.length)(hl:C.l=full.drop k)(h:(decide (n<0)||decide (((full.length:Nat) : Int)<n))=true) : C.wordsR n=c6 (C.bytesR (-1))∧C.wordsC n=C.bytesC (-1):=by
  have hb:C.wbad n=true:=by
    unfold al.wbad
    simp only[Bool.or_eq_true,decide_eq_true_eq] at h ⊢
    rw[hl,List.length_drop]
    omega
  have hf:C.fails (-1)=true:=by
    unfold al.fails
    simp
  constructor
  · unfold al.wordsR al.bytesR
    rw[hb,hf]
    rfl
  · unfold al.wordsC
    rw[hb]
    rfl
theorem vV{C:al}{full:List Int}{k:Nat}{n:Int}(hk:k≤full.length)(hl:C.l=full.drop k)(h:(decide (n<0)||decide (((full.length:Nat) : Int)<n))=false) : C.wordsR n=c6 (C.bytesR (n+n))∧C.wordsC n=C.bytesC (n+n):=by
  simp only[Bool.or_eq_false_iff,decide_eq_false_iff_not] at h
  by_cases hw:((C.l.length:Int)<n)
  · have hb:C.wbad n=true:=by
      unfold al.wbad
      simp only[Bool.or_eq_true,decide_eq_true_eq]
      omega
    have hf:C.fails (-1)=true:=by
      unfold al.fails
      simp
    have hf2:C.fails (n+n)=true:=by
      unfold al.fails
      simp only[Bool.or_eq_true,decide_eq_true_eq]
      omega
    constructor
    · unfold al.wordsR al.bytesR
      rw[hb,hf2]
      rfl
    · unfold al.wordsC
      rw[hb]
      unfold al.bytesC
      rw[hf2,hf]
      rfl
  · have hb:C.wbad n=false:=by
      unfold al.wbad
      simp only[Bool.or_eq_false_iff,decide_eq_false_iff_not]
      omega
    constructor
    · unfold al.wordsR
      rw[hb,show 2*n=n+n by omega]
      rfl
    · unfold al.wordsC
      rw[hb,show 2*n=n+n by omega]
      rfl
def z9 (w0:World)(m:Md)(A:Option Addr)(cp:Nat)(full:List Int)(g:Nat)(C:al)(n:Int)(w:World)(e:Ending)(w':World) : Prop:=∃ v,e = .returned v∧kx w.heap.size w' v (C.wordsR n)∧RC w0 m A cp full w' g (C.wordsC n)∧aD [g] w w'
theorem fR{w0:World}{m:Md}{A:Option Addr}{cp:Nat}{full:List Int}{w:World}{g:Nat}{C:al}{n:Int}(hn : -1048576≤n∧n≤1048576)(hC:RC w0 m A cp full w g C) :
    Calls Tryz.prog 174 #[vP g 0,vI n] w (z9 w0 m A cp full g C n w):=by
 have hC0:=hC
 obtain⟨hsrc,hU,hnew,⟨k,hB,hk,hl⟩,hlen⟩:=hC0
 refine en 25 Tryz.func174 rfl<|ax 1<|sq<|ak 3<|eE 8 [7] 15 7 (decide (n<0)) (decide ((full.length:Int)<n)) (fun K i j=>?_) ?_
 have D:=of_decide_eq_false j
 exact Pl 4<|L1<|dp hB 0<|Pl 3<|ce i _ rfl
 refine nt<|cb (((decide (n<0))||(decide ((full.length:Int)<n)))) (fun a=>?_) (fun a=>?_)
 refine ak 1<|?_
 have l:=RC.upd hC (aD.refl [] _) ay (aD.step hC.u (aD.refl [] _))
 refine az<|pK (fw (n:=-1) (by omega) l) fun E F G o b f=>?_
 have H:=Nat.le_trans (al.bytesR_le C (-1)) (RC.clen hC)
 refine az<|nk (zj (o _ _ (RC.rd b)) (by omega)) fun p q I r J L c=>aj 1<|bh<|rr (.slice p ((c6 (C.bytesR (-1))).length) q)<|?_
 have hw:=u0 hk hl a
 exact⟨_,rfl,by rw[hw.1];exact(aQ.weaken r f.size),by rw[hw.2];exact(RC.upd b c ay (aD.step (RC.u b) c)),(aM f c)⟩
 have s:=(cv a).1
 have t:=(cv a).2
 have M:=of_decide_eq_false s
 have N:=of_decide_eq_false t
 refine bp<|ak 3<|b6 (n+n)<|?_
 have v:=RC.upd hC (aD.refl [] _) ay (aD.step hC.u (aD.refl [] _))
 refine az<|pK (fw (n:=(n+n)) (by omega) v) fun O P Q x d h=>?_
 have R:=Nat.le_trans (al.bytesR_le C (n+n)) (RC.clen hC)
 refine az<|nk (zj (x _ _ (RC.rd d)) (by omega)) fun y z S B T U e=>aj 1<|rt<|rr (.slice y ((c6 (C.bytesR (n+n))).length) z)<|?_
 have hw:=vV hk hl a
 exact⟨_,rfl,by rw[hw.1];exact(aQ.weaken B h.size),by rw[hw.2];exact(RC.upd d e ay (aD.step (RC.u d) e)),(aM h e)⟩
theorem tg{C:al}(h:((((C.wordsR 1).length:Nat) : Int)==0)=true) : C.wordV=0:=by
  have hz:C.wordsR 1=[]:=List.eq_nil_of_length_eq_zero (by have:=am h;omega)
  unfold al.wordV
  rw[hz]
  rfl
theorem cw{w0:World}{m:Md}{A:Option Addr}{cp:Nat}{full:List Int}{w:World}{g:Nat}{C:al}(hC:RC w0 m A cp full w g C) :
    Calls Tryz.prog 170 #[vP g 0] w (qe w0 m A cp full g .u16 65536 C.wordV (C.wordsC 1) w):=by
 refine en 12 Tryz.func170 rfl<|ak 1<|aL 1<|az<|kF (fR (n:=1) (by omega) hC) fun k l o d q r b c=>aj 1<|sq<|ax 3<|cb ((((C.wordsR 1).length:Int)==0)) (fun a=>?_) (fun a=>?_)
 have e:=am a
 exact ax 1<|bh<|rr (vW 0)<|⟨by rw[tg a],b,c,bN (RC.rng hC)⟩
 have e:=au a
 exact bp<|ak 1<|ea (fg.at_ (d).rd 0 (by omega)) fun f h i j s=>L0<|iV ((C.wordsR 1).length) 0 i (by omega)<|L0<|dX (p:=⟨f,h+0,none⟩) (v:=vW ((C.wordsR 1).getD 0 0)) j<|aj 1<|rt<|rr (vW ((C.wordsR 1).getD 0 0))<|⟨rfl,b,c,bN (RC.rng hC)⟩
theorem fB{w0:World}{m:Md}{A:Option Addr}{cp:Nat}{full:List Int}{w:World}{g:Nat}{C:al}{G:Prop}(h:RC w0 m A cp full w g C)(k:∀ x,C=x→RC w0 m A cp full w g x→G) : G:=k C rfl h
open Go.RowKit
theorem ti{x:Int}(hx:0≤x∧x<65536) : ed x=((decide (x≤4)||(decide (10≤x)&&decide (x≤18)))||x==20):=by
  unfold ed
  rw[Bool.eq_iff_iff]
  simp only[decide_eq_true_eq,List.mem_cons,List.not_mem_nil,or_false,Bool.or_eq_true,Bool.and_eq_true,beq_iff_eq]
  omega
theorem m8{x:Int}(hx:0≤x∧x<256) : dE x=((((decide (1≤x)&&decide (x≤6))||x==8)||x==10)||x==11):=by
  unfold dE
  rw[Bool.eq_iff_iff]
  simp only[decide_eq_true_eq,List.mem_cons,List.not_mem_nil,or_false,Bool.or_eq_true,Bool.and_eq_true,beq_iff_eq]
  omega
theorem BG{x:Int}{w:World}(hx:0≤x∧x<65536) : Calls Tryz.prog 176 #[vW x] w (bD (.bool (ed x)) w):=by
 refine en 17 Tryz.func176 rfl<|ak 1<|aL 3<|cu 7 [5] 12 (((decide (x≤4))||((decide (10≤x))&&(decide (x≤18))))) (fun K b=>?_) ?_
 refine bl 5 ((decide (x≤4))) (fun a=>?_) (fun a=>?_)
 have c:=of_decide_eq_true a
 exact Pl 7<|ce b true (by rw[a];rfl)
 have c:=of_decide_eq_false a
 refine Pl 3<|cV 3 [8] 11 8 (decide (10≤x)) (decide (x≤18)) (fun K d e=>?_) ?_
 have g:=of_decide_eq_true e
 exact Pl 3<|ce d _ rfl
 exact Pl 1<|ce b ((decide (10≤x))&&(decide (x≤18))) (by rw[a];rfl)
 refine Pl 1<|eE 3 [13] 16 13 ((decide (x≤4))||((decide (10≤x))&&(decide (x≤18)))) (x==20) (fun K f h=>?_) ?_
 exact Pl 3<|ce f _ rfl
 refine aj 1<|rt<|rr (.bool (((decide (x≤4))||((decide (10≤x))&&(decide (x≤18))))||(x==20)))<|?_
 rw[ti hx]
 have hs:((decide (x≤4)||(decide (10≤x)&&decide (x≤18)))||x==20)=(((decide (x≤4))||((decide (10≤x))&&(decide (x≤18))))||(x==20)):=by(try simp only[Bool.true_or,Bool.false_or,Bool.true_and,Bool.false_and,Bool.or_true,Bool.or_false]);all_goals rfl
 rw[hs]
 exact⟨rfl,(aD.refl [] _)⟩
theorem wS{x:Int}{w:World}(hx:0≤x∧x<256) : Calls Tryz.prog 165 #[vB x] w (bD (.bool (dE x)) w):=by
 refine en 21 Tryz.func165 rfl<|ak 1<|aL 3<|cV 3 [5] 8 5 (decide (1≤x)) (decide (x≤6)) (fun K a b=>?_) ?_
 have f:=of_decide_eq_true b
 exact Pl 3<|ce a _ rfl
 refine Pl 1<|eE 3 [9] 12 9 ((decide (1≤x))&&(decide (x≤6))) (x==8) (fun K c g=>?_) ?_
 exact Pl 3<|ce c _ rfl
 refine Pl 1<|eE 3 [13] 16 13 (((decide (1≤x))&&(decide (x≤6)))||(x==8)) (x==10) (fun K d h=>?_) ?_
 exact Pl 3<|ce d _ rfl
 refine Pl 1<|eE 3 [17] 20 17 ((((decide (1≤x))&&(decide (x≤6)))||(x==8))||(x==10)) (x==11) (fun K e i=>?_) ?_
 exact Pl 3<|ce e _ rfl
 refine aj 1<|rt<|rr (.bool (((((decide (1≤x))&&(decide (x≤6)))||(x==8))||(x==10))||(x==11)))<|?_
 rw[m8 hx]
 have hs:((((decide (1≤x)&&decide (x≤6))||x==8)||x==10)||x==11)=(((((decide (1≤x))&&(decide (x≤6)))||(x==8))||(x==10))||(x==11)):=by(try simp only[Bool.true_or,Bool.false_or,Bool.true_and,Bool.false_and,Bool.or_true,Bool.or_false]);all_goals rfl
 rw[hs]
 exact⟨rfl,(aD.refl [] _)⟩
theorem ie{dir sub v:Int}:fO dir sub v=if sub==1 then (v==0 || v==65280) else if sub==3 then v%256==0 else if dir==1&&(sub==2 || (decide (11≤sub)&&decide (sub≤18))) then true else v==0:=by
  unfold fO
  by_cases h1:sub=1
  · subst h1
    rfl
  by_cases h3:sub=3
  · subst h3
    rfl
  have e1:(sub==1)=false:=by simpa using h1
  have e3:(sub==3)=false:=by simpa using h3
  rw[e1,e3,Bool.and_comm]
  rfl
theorem Bu{dir sub v:Int}{w:World}(hv:0≤v∧v<65536) : Calls Tryz.prog 178 #[vI dir,vW sub,vW v] w (bD (.bool (fO dir sub v)) w):=by
 refine en 39 Tryz.func178 rfl<|ax 1<|sq<|bk<|ax 3<|cb ((sub==1)) (fun a=>?_) (fun a=>?_)
 have h:=am a
 refine ak 3<|eE 3 [12] 15 12 (v==0) (v==65280) (fun K i j=>?_) ?_
 have r:=au j
 exact Pl 3<|ce i _ rfl
 refine aj 1<|rt<|br<|tr<|rr (.bool ((v==0)||(v==65280)))<|?_
 have hs:fO dir sub v=((v==0)||(v==65280)):=by
   rw[ie]
   (try simp only[a,bj,reduceIte])
   all_goals rfl
 rw[hs]
 exact⟨rfl,(aD.refl [] _)⟩
 have h:=au a
 refine ax 3<|cb ((sub==3)) (fun b=>?_) (fun b=>?_)
 have k:=am b
 refine ak 1<|L0<|Oe (vW (Int.tmod v 256)) (vW (v%256)) (congrArg (Value.int .u16) (Int.tmod_eq_emod_of_nonneg (by omega)))<|aj 2<|rt<|br<|tr<|rr (.bool ((v%256)==0))<|?_
 have hs:fO dir sub v=((v%256)==0):=by
   rw[ie]
   (try simp only[a,b,bj,reduceIte])
   all_goals rfl
 rw[hs]
 exact⟨rfl,(aD.refl [] _)⟩
 have k:=au b
 refine ak 3<|cu 11 [25] 36 (((dir==1)&&((sub==2)||((decide (11≤sub))&&(decide (sub≤18)))))) (fun K f=>?_) ?_
 refine bl 25 ((dir==1)) (fun c=>?_) (fun c=>?_)
 have l:=am c
 refine Pl 3<|cu 7 [28] 35 (((sub==2)||((decide (11≤sub))&&(decide (sub≤18))))) (fun K g=>?_) ?_
 refine bl 28 ((sub==2)) (fun d=>?_) (fun d=>?_)
 have m:=am d
 exact Pl 7<|ce g true (by rw[d];rfl)
 have m:=au d
 refine Pl 3<|cV 3 [31] 34 31 (decide (11≤sub)) (decide (sub≤18)) (fun K n o=>?_) ?_
 have s:=of_decide_eq_true o
 exact Pl 3<|ce n _ rfl
 exact Pl 1<|ce g ((decide (11≤sub))&&(decide (sub≤18))) (by rw[d];rfl)
 exact Pl 1<|ce f ((sub==2)||((decide (11≤sub))&&(decide (sub≤18)))) (by rw[c];rfl)
 have l:=au c
 exact Pl 11<|ce f false (by rw[c];rfl)
 refine aj 1<|cb (((dir==1)&&((sub==2)||((decide (11≤sub))&&(decide (sub≤18)))))) (fun e=>?_) (fun e=>?_)
 have p:=(aR e).1
 have q:=(aR e).2
 refine ax 1<|rt<|br<|tr<|rr (.bool true)<|?_
 have hs:fO dir sub v=true:=by
   rw[ie]
   (try simp only[a,b,e,p,q,bj,reduceIte])
   all_goals rfl
 rw[hs]
 exact⟨rfl,(aD.refl [] _)⟩
 refine sk<|bn<|tn<|ax 3<|rt<|rr (.bool (v==0))<|?_
 have hs:fO dir sub v=(v==0):=by
   rw[ie]
   (try simp only[a,b,e,bj,reduceIte])
   all_goals rfl
 rw[hs]
 exact⟨rfl,(aD.refl [] _)⟩
open Go.RowKit
theorem RC.lt{w0:World}{m:Md}{A:Option Addr}{cp:Nat}{full:List Int}{w:World}{g:Nat}{C:al}(h:RC w0 m A cp full w g C) : g<w.heap.size:=by
  obtain⟨k,h1,_⟩:=h.cell
  exact ag h1
theorem RC.fld{w0:World}{m:Md}{A:Option Addr}{cp:Nat}{full:List Int}{w:World}{g:Nat}{C:al}(h:RC w0 m A cp full w g C) : w.cell? ⟨g,3,none⟩=some (.int .i64 C.e):=by
  obtain⟨k,h1,_⟩:=h.cell
  rw[c4 h1]
  rfl
theorem RC.safe{w0:World}{m:Md}{A:Option Addr}{cp:Nat}{full:List Int}{w:World}{g:Nat}{C:al}(h:RC w0 m A cp full w g C)(D:List TypeId)(hD:194∉D) : bZ true D [g] w:=by
  obtain⟨k,h1,_⟩:=h.cell
  exact bZ.one h1 hD
theorem uC{c:Int}{C:al}(h:(((c==3)||(c==4))||(c==23))=true) : b7 1 c C=some (cj c C):=by
  unfold b7
  by_cases h1:(c==3 || c==4)=true
  · rw[if_pos h1]
    rfl
  · rw[if_neg h1]
    have h2:c=23:=by
      simp only[Bool.or_eq_true,beq_iff_eq] at h h1
      omega
    subst h2
    rfl
theorem rK{n m:Int}:((n%2==0&&decide (0<n))&&decide (n≤m))=jO n m:=by
  unfold jO
  rw[Bool.eq_iff_iff]
  simp only[Bool.and_eq_true,decide_eq_true_eq,beq_iff_eq]
  omega
theorem rP{a k:Int}:(a==2*k+2)=(2+2*k==a):=by
  rw[Bool.eq_iff_iff]
  simp only[beq_iff_eq]
  omega
theorem eQ{x:Int}:decide (0<x)=decide (1≤x):=by
  rw[Bool.eq_iff_iff]
  simp only[decide_eq_true_eq]
  omega
theorem ld{w0:World}{m:Md}{A:Option Addr}{cp:Nat}{full:List Int}{w:World}{g:Nat}{C:al}{a most:Int}(ha:0≤a∧a<65536)(hC:RC w0 m A cp full w g C) :
    Calls Tryz.prog 175 #[vP g 0,vW a,vI most] w (qe w0 m A cp full g .i64 65536 C.wordV (bJ C a most) w):=by
 have hrng:=bN (RC.rng hC)
 refine en 26 Tryz.func175 rfl<|ak 1<|aL 1<|az<|m3 (cw hC) fun q d e r=>b6 C.wordV<|aj 1<|ak 4<|cV 4 [14] 18 14 (decide (0<C.wordV)) (decide (C.wordV≤most)) (fun K f h=>?_) ?_
 have s:=of_decide_eq_true h
 exact Pl 4<|ce f _ rfl
 refine az<|m2 (aX (((decide (0<C.wordV))&&(decide (C.wordV≤most)))) 5 d) fun i j k=>?_
 refine fB j fun x19 l c=>?_
 refine aL 3<|az<|m1 (rS (a:=a) (n:=C.wordV) (w:=i) (by omega) (by omega)) fun t b=>?_
 refine az<|m2 (aX ((dh a C.wordV)) 7 (RC.upd c b ay (aD.step (RC.u c) b))) fun v o p=>cy 2<|rt<|rr (vI C.wordV)<|?_
 subst l
 have e1:bJ C a most=((C.wordsC 1).need (decide (0<C.wordV)&&decide (C.wordV≤most)) 5).need (dh a C.wordV) 7:=by unfold bJ;rw[← eQ]
 rw[e1]
 exact⟨rfl,o,(u1 e (u1 k (uz b p) im) im),hrng⟩
theorem aI.upd0{α:Type}{m:Md}{e:TypeId}{sz:Nat}{R R':World→α→List Value→Prop}{w:World}{v:Value}{xs:List α}(h:aI m e sz R w v xs)(hR:∀ x cs,R w x cs→R' w x cs) : aI m e sz R' w v xs:=by
  obtain⟨A,c,rfl,h1,h2,h0,h3⟩:=h
  refine⟨A,c,rfl,h1,h2,h0,fun hp=>?_⟩
  obtain⟨b,off,cells,t,fr,rfl,hb,ht,hx⟩:=h3 hp
  exact⟨b,off,cells,t,fr,rfl,hb,ht,fun j x hj=>by obtain⟨cs,hl,hr,hc⟩:=hx j x hj;exact⟨cs,hl,hR _ _ hr,hc⟩⟩
def pC (v0:Value)(b:List Int)(w:World)(o:Obj)(cs:List Value) : Prop:=∃ A n c,cs=[.int .u8 o.id,.slice A n c]∧(∀ m' w',aO m' w' v0 b→aO m' w' (.slice A n c) o.value)∧B8 o.id
theorem pC.ones{v0:Value}{b:List Int}{w:World}(x:Obj)(cs:List Value)(h:pC v0 b w x cs) : ∀ v,v∈cs→v.oneCell'=true:=by
  obtain⟨A,n,c,rfl,h2,_⟩:=h
  intro u hu
  simp at hu
  rcases hu with rfl|rfl<;>rfl
def bG (v0:Value)(b:List Int)(w:World)(cs:List Value)(M:bg) : Prop :=
  ∃ vw vb vd vr vo,cs=f3 M vw vb vd vr vo∧fg true w vw M.words∧jZ true w vb M.bits∧(∀ m' w',aO m' w' v0 b→aO m' w' vd M.data)∧sr true w vr M.recs∧aI true 100 2 (pC v0 b) w vo M.objects∧jI M
theorem bG.rd{v0:Value}{b:List Int}{m:Md}{w:World}{cs:List Value}{M:bg}(h:bG v0 b w cs M)(hb:aO m w v0 b) : aS false w cs M:=by
  obtain⟨vw,vb,vd,vr,vo,h0,h1,h2,h3,h4,h5,h6⟩:=h
  exact⟨vw,vb,vd,vr,vo,h0,aI.any h1 fun _ _ q=>q,aI.any h2 fun _ _ q=>q,aI.any (h3 _ _ hb) fun _ _ q=>q,aI.any h4 fun r cs ⟨v,a,b,c⟩=>⟨v,a,aI.any b fun _ _ q=>q,c⟩,aI.any h5 fun r cs ⟨A,n,k,a,b,c⟩=>⟨_,a,aI.any (b _ _ hb) fun _ _ q=>q,c⟩,h6⟩
theorem bG.rdt{v0:Value}{b:List Int}{w:World}{cs:List Value}{M:bg}(h:bG v0 b w cs M)(hb:aO true w v0 b) : aS true w cs M:=by
  obtain⟨vw,vb,vd,vr,vo,h0,h1,h2,h3,h4,h5,h6⟩:=h
  exact⟨vw,vb,vd,vr,vo,h0,h1,h2,h3 _ _ hb,h4,aI.upd0 h5 fun r cs ⟨A,n,k,a,b,c⟩=>⟨_,a,b _ _ hb,c⟩,h6⟩
theorem bG.sub{v0 v1:Value}{b b1:List Int}{w:World}{cs:List Value}{M:bg}(h:bG v1 b1 w cs M)(hv:∀ m' w',aO m' w' v0 b→aO m' w' v1 b1) : bG v0 b w cs M:=by
  obtain⟨vw,vb,vd,vr,vo,h0,h1,h2,h3,h4,h5,h6⟩:=h
  exact⟨vw,vb,vd,vr,vo,h0,h1,h2,fun m' w' q=>h3 _ _ (hv _ _ q),h4,aI.upd0 h5 fun r cs ⟨A,n,k,a,b,c⟩=>⟨A,n,k,a,fun m' w' q=>b _ _ (hv _ _ q),c⟩,h6⟩
theorem bG.upd{v0:Value}{b:List Int}{w w':World}{cs:List Value}{M:bg}{S:List Nat}(h:bG v0 b w cs M)(hu:aD S w w')(hs:bZ true ff S w) : bG v0 b w' cs M:=by
  obtain⟨vw,vb,vd,vr,vo,h0,h1,h2,h3,h4,h5,h6⟩:=h
  exact⟨vw,vb,vd,vr,vo,h0,fg.upd' h1 hu (hs.sub (by decide)),jZ.upd' h2 hu (hs.sub (by decide)),h3,sr.upd' h4 hu hs,aI.upd h5 hu (hs.sub (by decide)) (fun _ _ q=>q),h6⟩
theorem bG.zero(v0:Value)(b:List Int)(w:World) : bG v0 b w kQ.toList bg.zero:=by
  obtain⟨vw,vb,vd,vr,vo,h0,h1,h2,h3,h4,h5,h6⟩:=aS.zero true w
  exact⟨_,_,_,_,_,rfl,aI.nil ..,aI.nil ..,(fun _ _ _=>aI.nil ..),aI.nil ..,aI.nil ..,h6⟩
theorem bG.size{v0:Value}{b:List Int}{w:World}{cs:Array Value}{M:bg}(h:bG v0 b w cs.toList M) : cs.size=22:=by
  obtain⟨vw,vb,vd,vr,vo,h0,_⟩:=h
  rw[← Array.length_toList,h0]
  rfl
theorem bG.one{v0:Value}{b:List Int}{w w2:World}{m:Md}{cs:Array Value}{M:bg}(h:bG v0 b w cs.toList M)(hb:aO m w2 v0 b) : cs.all (·.oneCell')=true:=by
  obtain⟨vw,vb,vd,vr,vo,h0,h1,h2,h3,h4,h5,h6⟩:=h
  rw[← Array.all_toList,h0]
  obtain⟨_,_,rfl,_⟩:=h1
  obtain⟨_,_,rfl,_⟩:=h2
  obtain⟨_,_,rfl,_⟩:=h3 _ _ hb
  obtain⟨_,_,rfl,_⟩:=h4
  obtain⟨_,_,rfl,_⟩:=h5
  rfl
def cT (v0:Value)(b:List Int)(res:bg × Int)(w:World)(e:Ending)(w':World) : Prop:=∃ cs,e = .returned (.tuple #[.agg cs,.int .i64 res.2])∧bG v0 b w' cs.toList res.1∧aD [] w w'
theorem dg{v0:Value}{b:List Int}{M:bg}{c:al}{w W:World}{cs:Array Value}(h0:c.endC.e=0)(h:bG v0 b W cs.toList M)(hu:aD [] w W) : cT v0 b (bA M c) w (.returned (.tuple #[.agg cs,.int .i64 0])) W:=by
  unfold bA
  rw[if_pos h0]
  exact⟨cs,rfl,h,hu⟩
theorem cL{v0:Value}{b:List Int}{M:bg}{c:al}{w W:World}(h0:¬ c.endC.e=0)(hu:aD [] w W) : cT v0 b (bA M c) w (.returned (.tuple #[.agg kQ,.int .i64 c.endC.e])) W:=by
  unfold bA
  rw[if_neg h0]
  exact⟨kQ,rfl,bG.zero ..,hu⟩
theorem bu{v0:Value}{b:List Int}{x:Int}{w W:World}(hu:aD [] w W) : cT v0 b (bg.zero,x) w (.returned (.tuple #[.agg kQ,.int .i64 x])) W:=⟨kQ,rfl,bG.zero ..,hu⟩
theorem lJ{m:Md}{A:Option Addr}{cp:Nat}{b:List Int}{w:World}{c:Int}(hcode:B8 c)(hsl:aO m w (.slice A b.length cp) b)(hb:b.length≤1048576) :
    Calls Tryz.prog 110 #[vI 0,vB c,.slice A b.length cp] w (cT (.slice A b.length cp) b (aq b7 0 c b) w):=by
 obtain⟨hcode1,hcode2⟩:=hcode
 have hln:(b.length:Int)≤1048576:=by omega
 refine en 221 Tryz.func110 rfl<|sg<|aK mZ fun aF dN U J d=>aj 1<|sq<|ax 6<|c0<|bp<|ak 2<|L0<|dK #[.slice A b.length cp,vI 0,.bool false,vI 0] fun q dO g r i=>Pl 1<|aL 2<|aK mZ fun L dQ f V cm=>aE V (mC c) fun aN E W=>?_
 refine nt<|?_
 have aP:=ud cm W f
 have N:=aM i aP
 have l:=aM d N
 have F:RC w _ A cp b aN q (al.mk b false 0):=⟨hsl,l,(Nat.le_trans d.size g),⟨0,(ub aP r),Nat.zero_le _,rfl⟩,by omega⟩
 refine x8 (fun x=>[(6,vP aF 0),(8,vP q 0),(9,vP L 0)]) (fun(x:al × Array Value × bg) w'=>aD [q,L] aN w'∧RC w m A cp b w' q x.1∧w'.heap[L]? = some (.cells x.2.1 45 (0,0))∧bG (.slice A b.length cp) b w' x.2.1.toList x.2.2∧(aq b7 0 c b=bA x.2.2 x.1)) ?_ ?_
 rintro⟨C,cs,M⟩ X ⟨aQ,cn,co,cq,cr⟩
 refine eH [(6,vP aF 0),(8,vP q 0),(9,vP L 0)] ?_
 have aR:RC w m A cp b X q C:=cn
 have ct:X.heap[L]? = some (.cells cs 45 (0,0)):=co
 have Q:bG (.slice A b.length cp) b X cs.toList M:=cq
 have Y:=bG.size Q
 have aS:aq b7 0 c b=bA M C:=cr
 refine ak 1<|az<|m2 (lZ aR) fun dR Z a0=>nt<|sq<|ak 3<|L0<|dX (p:=⟨q,3,none⟩) (v:=vI C.endC.e) (RC.fld Z)<|aj 1<|?_
 have a1:=u1 aQ a0 im
 have aT:=ut l a1 (ac (ni d.size g) (ac (ni (le d.size i.size) f) aA))
 refine cb ((C.endC.e != 0)) (fun a2=>?_) (fun a2=>?_)
 have a3:=av a2
 refine sq<|Rg 7 (fun w'=>w'.cell? ⟨q,3,none⟩=some (vI C.endC.e)) fun dS R=>?_
 have aU:=RC.upd Z R ay (aD.step (RC.u Z) R)
 refine bB (RC.fld aU) fun O=>Rt 0 O<|Rt 1 O<|Rt 2 O<|Rt 3 O<|Rl 4 O (fun _ hs=>hs)<|?_
 refine R0 5 rfl<|iX (ub (ut N (aM a1 R) (ac (nr g) (ac (ni i.size f) aA))) J) mZ fun dT cx aV=>?_
 have aZ:=ud aT (uz R aV) U
 refine bB (RC.fld (RC.upd aU aV (aa (Ne.symm (nb (ag J) lr g)) ay) aZ)) fun cz=>Rt 6 cz<|re<|tn<|bh<|bV cx (vI C.endC.e)<|?_
 rw[aS]
 exact cL a3 aZ
 have a3:=aJ a2
 refine bp<|sg<|?_
 refine L0<|cO (hz:=(by rw[Y];exact be)) (aY a0 (Ne.symm (nb (ag r) lr f)) ct)<|?_
 refine aE (hz:=(by rw[Y];exact be)) (hv:=(bG.size Q)) (h1:=(bG.one Q hsl)) (ub (ut N a1 (ac (nr g) (ac (ni i.size f) aA))) J) (cs) fun dU cA b0=>aj 1<|rt<|eW 22 Y cA (vI 0)<|?_
 rw[aS]
 exact dg a3 (bG.upd Q (us a0 b0) (ah (RC.safe aR _ (by decide)) (ah (aW (ub (ut N aQ (ac (nr g) (ac (ni i.size f) aA))) J) (by decide)) aC))) (ud aT b0 U)
 refine bk<|ax 15<|c0<|ak 3<|eE 3 [68] 71 68 (c==3) (c==4) (fun K cB cC=>?_) ?_
 have dV:=au cC
 exact Pl 3<|ce cB _ rfl
 refine aj 1<|cb (((c==3)||(c==4))) (fun k=>?_) (fun k=>?_)
 refine ak 1<|az<|m3 (cw F) fun dW cD b1 dY=>Pl 1<|?_
 have S:=nb (ag r) lr f
 refine L0<|bI (aY b1 (Ne.symm S) E) 2 (mG c 0 ((al.mk b false 0).wordV) 0 0 0 0 0 0 0 0 0 nS nS nS nS 0 0 0 0 0 nS) fun dZ b2 b3=>nt<|go<|Pl 2<|aH b2 2<|?_
 have b4:=us b1 b3
 have b5:=ut l b4 (ac (ni d.size g) (ac (ni (le d.size i.size) f) aA))
 refine az<|m3 (ld (a:=(al.mk b false 0).wordV) (most:=125) (by omega) (RC.upd cD b3 (aa S ay) b5)) fun e0 cE b8 e1=>?_
 refine fB cE fun cG cH cI=>?_
 refine L0<|zZ (((al.mk b false 0).wordsC 1).wordV)<|Pl 1<|?_
 refine L0<|bI (aY b8 (Ne.symm S) b2) 3 (mG c 0 ((al.mk b false 0).wordV) (((al.mk b false 0).wordsC 1).wordV) 0 0 0 0 0 0 0 0 nS nS nS nS 0 0 0 0 0 nS) fun e2 cJ b9=>nl<|bn<|?_
 have ba:=us b8 b9
 exact jn (cG,_,(bg.mk c 0 ((al.mk b false 0).wordV) (((al.mk b false 0).wordsC 1).wordV) 0 0 0 0 0 0 0 0 [] [] [] [] 0 0 0 0 0 [])) ⟨(ut b4 ba (ac im (ac im aA))),(RC.upd cI b9 (aa S ay) (ut b5 ba (ac (ni d.size g) (ac (ni (le d.size i.size) f) aA)))),cJ,⟨_,_,_,_,_,rfl,aI.nil ..,aI.nil ..,(fun _ _ _=>aI.nil ..),aI.nil ..,aI.nil ..,(c8 (by omega))⟩,by subst cH;unfold aq b7 bX cj dD d8 cF d6 d7 m6;(try simp only[k,bj,dl,dm,dj,dn,dk,reduceIte,rK,rP])<;>rfl⟩
 have z:=(cv k).1
 have B:=(cv k).2
 have e3:=au z
 have e4:=au B
 refine ax 3<|cb ((c==6)) (fun o=>?_) (fun o=>?_)
 have cK:=am o
 refine ak 1<|az<|m3 (cw F) fun e5 cM bb e6=>Pl 1<|?_
 have T:=nb (ag r) lr f
 refine L0<|bI (aY bb (Ne.symm T) E) 2 (mG c 0 ((al.mk b false 0).wordV) 0 0 0 0 0 0 0 0 0 nS nS nS nS 0 0 0 0 0 nS) fun e7 cN bc=>nt<|go<|Pl 1<|?_
 have bd:=us bb bc
 have bf:=ut l bd (ac (ni d.size g) (ac (ni (le d.size i.size) f) aA))
 refine az<|m3 (cw (RC.upd cM bc (aa T ay) bf)) fun e8 cP bi e9=>Pl 1<|?_
 refine L0<|bI (aY bi (Ne.symm T) cN) 4 (mG c 0 ((al.mk b false 0).wordV) 0 (((al.mk b false 0).wordsC 1).wordV) 0 0 0 0 0 0 0 nS nS nS nS 0 0 0 0 0 nS) fun ea cQ bm=>nl<|bn<|?_
 have bo:=us bi bm
 exact jn ((((al.mk b false 0).wordsC 1).wordsC 1),_,(bg.mk c 0 ((al.mk b false 0).wordV) 0 (((al.mk b false 0).wordsC 1).wordV) 0 0 0 0 0 0 0 [] [] [] [] 0 0 0 0 0 [])) ⟨(ut bd bo (ac im (ac im aA))),(RC.upd cP bm (aa T ay) (ut bf bo (ac (ni d.size g) (ac (ni (le d.size i.size) f) aA)))),cQ,⟨_,_,_,_,_,rfl,aI.nil ..,aI.nil ..,(fun _ _ _=>aI.nil ..),aI.nil ..,aI.nil ..,(c8 (by omega))⟩,by unfold aq b7 bX cj dD d8 cF d6 d7 m6;(try simp only[k,z,B,o,bj,dl,dm,dj,dn,dk,reduceIte,rK,rP])<;>rfl⟩
 have cK:=au o
 refine ax 3<|cb ((c==16)) (fun s=>?_) (fun s=>?_)
 have cR:=am s
 refine ak 1<|az<|m3 (cw F) fun eb cS a4 ec=>Pl 1<|?_
 have t:=nb (ag r) lr f
 refine L0<|bI (aY a4 (Ne.symm t) E) 2 (mG c 0 ((al.mk b false 0).wordV) 0 0 0 0 0 0 0 0 0 nS nS nS nS 0 0 0 0 0 nS) fun ed bq a5=>aL 2<|aH bq 2<|?_
 have bs:=us a4 a5
 have bt:=ut l bs (ac (ni d.size g) (ac (ni (le d.size i.size) f) aA))
 refine az<|m3 (ld (a:=(al.mk b false 0).wordV) (most:=123) (by omega) (RC.upd cS a5 (aa t ay) bt)) fun ee cU a6 ef=>?_
 refine fB cU fun bv cV cW=>?_
 refine L0<|zZ (((al.mk b false 0).wordsC 1).wordV)<|Pl 1<|?_
 refine L0<|bI (aY a6 (Ne.symm t) bq) 3 (mG c 0 ((al.mk b false 0).wordV) (((al.mk b false 0).wordsC 1).wordV) 0 0 0 0 0 0 0 0 nS nS nS nS 0 0 0 0 0 nS) fun eg cX a7=>cy 2<|c1<|ak 1<|?_
 have bw:=us a6 a7
 have bx:=ut bt bw (ac (ni d.size g) (ac (ni (le d.size i.size) f) aA))
 refine az<|m3 (dP (RC.upd cW a7 (aa t ay) bx)) fun eh cY a8 ei=>b6 bv.byteV<|Pl 1<|aL 3<|?_
 have bz:=aY a8 (Ne.symm t) cX
 refine aH bz 3<|b6 (((al.mk b false 0).wordsC 1).wordV)<|b6 (2*(((al.mk b false 0).wordsC 1).wordV))<|Pl 1<|az<|m2 (aX ((bv.byteV==(2*(((al.mk b false 0).wordsC 1).wordV)))) 5 cY) fun ej cZ a9=>?_
 refine fB cZ fun ab d0 d1=>?_
 refine nt<|go<|Pl 2<|?_
 have bC:=aY a9 (Ne.symm t) bz
 refine aH bC 3<|b6 (((al.mk b false 0).wordsC 1).wordV)<|az<|kF (fR (n:=((al.mk b false 0).wordsC 1).wordV) (by omega) d1) fun d2 d3 ek bD el em d4 bE=>Pl 1<|?_
 refine L0<|bI (aY bE (Ne.symm t) bC) 12 (mG c 0 ((al.mk b false 0).wordV) (((al.mk b false 0).wordsC 1).wordV) 0 0 0 0 0 0 0 0 (.slice d2 ((ab.wordsR (((al.mk b false 0).wordsC 1).wordV)).length) d3) nS nS nS 0 0 0 0 0 nS) fun eo d5 ad=>nl<|bn<|?_
 have bF:=ui a8 (ui a9 (us bE ad))
 exact jn ((ab.wordsC (((al.mk b false 0).wordsC 1).wordV)),_,(bg.mk c 0 ((al.mk b false 0).wordV) (((al.mk b false 0).wordsC 1).wordV) 0 0 0 0 0 0 0 0 (ab.wordsR (((al.mk b false 0).wordsC 1).wordV)) [] [] [] 0 0 0 0 0 [])) ⟨(ut bs (ut bw bF (ac im (ac im aA))) (ac im (ac im aA))),(RC.upd d4 ad (aa t ay) (ut bx bF (ac (ni d.size g) (ac (ni (le d.size i.size) f) aA)))),d5,⟨_,_,_,_,_,rfl,((ai bD ad (fun x hx=>(aa (fun e=>(aG (ag V) (le (le (le (le (le (le W.size a4.size) a5.size) a6.size) a7.size) a8.size) a9.size) bD) (e▸hx)) ay)) (fun _ _ h=>h))).rd,aI.nil ..,(fun _ _ _=>aI.nil ..),aI.nil ..,aI.nil ..,(c8 (by omega))⟩,by subst d0 cV;unfold aq b7 bX cj dD d8 cF d6 d7 m6;(try simp only[k,z,B,o,s,bj,dl,dm,dj,dn,dk,reduceIte,rK,rP])<;>rfl⟩
 have cR:=au s
 refine ax 3<|cb ((c==22)) (fun D=>?_) (fun D=>?_)
 have d9:=am D
 refine ak 1<|az<|m3 (cw F) fun ep da bH eq=>Pl 1<|?_
 have G:=nb (ag r) lr f
 refine L0<|bI (aY bH (Ne.symm G) E) 2 (mG c 0 ((al.mk b false 0).wordV) 0 0 0 0 0 0 0 0 0 nS nS nS nS 0 0 0 0 0 nS) fun er db bK=>aL 1<|?_
 have bL:=us bH bK
 have bM:=ut l bL (ac (ni d.size g) (ac (ni (le d.size i.size) f) aA))
 refine az<|m3 (cw (RC.upd da bK (aa G ay) bM)) fun es dc bN et=>Pl 1<|?_
 refine L0<|bI (aY bN (Ne.symm G) db) 5 (mG c 0 ((al.mk b false 0).wordV) 0 0 (((al.mk b false 0).wordsC 1).wordV) 0 0 0 0 0 0 nS nS nS nS 0 0 0 0 0 nS) fun eu dd bO=>nt<|go<|Pl 1<|?_
 have bP:=us bN bO
 have bQ:=ut bM bP (ac (ni d.size g) (ac (ni (le d.size i.size) f) aA))
 refine az<|m3 (cw (RC.upd dc bO (aa G ay) bQ)) fun ev de bR ew=>Pl 1<|?_
 refine L0<|bI (aY bR (Ne.symm G) dd) 6 (mG c 0 ((al.mk b false 0).wordV) 0 0 (((al.mk b false 0).wordsC 1).wordV) ((((al.mk b false 0).wordsC 1).wordsC 1).wordV) 0 0 0 0 0 nS nS nS nS 0 0 0 0 0 nS) fun ex df bS=>nl<|bn<|?_
 have bT:=us bR bS
 exact jn (((((al.mk b false 0).wordsC 1).wordsC 1).wordsC 1),_,(bg.mk c 0 ((al.mk b false 0).wordV) 0 0 (((al.mk b false 0).wordsC 1).wordV) ((((al.mk b false 0).wordsC 1).wordsC 1).wordV) 0 0 0 0 0 [] [] [] [] 0 0 0 0 0 [])) ⟨(ut bL (ut bP bT (ac im (ac im aA))) (ac im (ac im aA))),(RC.upd de bS (aa G ay) (ut bQ bT (ac (ni d.size g) (ac (ni (le d.size i.size) f) aA)))),df,⟨_,_,_,_,_,rfl,aI.nil ..,aI.nil ..,(fun _ _ _=>aI.nil ..),aI.nil ..,aI.nil ..,(c8 (by omega))⟩,by unfold aq b7 bX cj dD d8 cF d6 d7 m6;(try simp only[k,z,B,o,s,D,bj,dl,dm,dj,dn,dk,reduceIte,rK,rP])<;>rfl⟩
 have d9:=au D
 refine ax 3<|cb ((c==23)) (fun H=>?_) (fun H=>?_)
 have dh:=am H
 refine ak 1<|az<|m3 (cw F) fun ey di ae ez=>Pl 1<|?_
 have y:=nb (ag r) lr f
 refine L0<|bI (aY ae (Ne.symm y) E) 2 (mG c 0 ((al.mk b false 0).wordV) 0 0 0 0 0 0 0 0 0 nS nS nS nS 0 0 0 0 0 nS) fun eA bU af=>aL 2<|aH bU 2<|?_
 have bW:=us ae af
 have bY:=ut l bW (ac (ni d.size g) (ac (ni (le d.size i.size) f) aA))
 refine az<|m3 (ld (a:=(al.mk b false 0).wordV) (most:=125) (by omega) (RC.upd di af (aa y ay) bY)) fun eB dp an eC=>?_
 refine fB dp fun j dr ds=>?_
 refine L0<|zZ (((al.mk b false 0).wordsC 1).wordV)<|Pl 1<|?_
 refine L0<|bI (aY an (Ne.symm y) bU) 3 (mG c 0 ((al.mk b false 0).wordV) (((al.mk b false 0).wordsC 1).wordV) 0 0 0 0 0 0 0 0 nS nS nS nS 0 0 0 0 0 nS) fun eD dt ao=>aL 1<|?_
 have bZ:=us an ao
 have c2:=ut bY bZ (ac (ni d.size g) (ac (ni (le d.size i.size) f) aA))
 refine az<|m3 (cw (RC.upd ds ao (aa y ay) c2)) fun eF du ap eG=>Pl 1<|?_
 refine L0<|bI (aY ap (Ne.symm y) dt) 7 (mG c 0 ((al.mk b false 0).wordV) (((al.mk b false 0).wordsC 1).wordV) 0 0 0 j.wordV 0 0 0 0 nS nS nS nS 0 0 0 0 0 nS) fun eI c3 ar=>aL 2<|aH c3 7<|?_
 have c4:=us ap ar
 have c5:=ut c2 c4 (ac (ni d.size g) (ac (ni (le d.size i.size) f) aA))
 refine az<|m3 (ld (a:=j.wordV) (most:=121) (by omega) (RC.upd du ar (aa y ay) c5)) fun eJ dv c6 eK=>Pl 1<|aL 1<|az<|m3 (dP dv) fun eL dw c7 eM=>b6 ((bJ (j.wordsC 1) j.wordV 121).byteV)<|Pl 1<|aL 3<|b6 (2*((j.wordsC 1).wordV))<|Pl 1<|az<|m2 (aX ((((bJ (j.wordsC 1) j.wordV 121).byteV)==(2*((j.wordsC 1).wordV)))) 5 dw) fun eN dx c9=>?_
 refine fB dx fun aw dy dz=>?_
 refine nt<|go<|Pl 2<|az<|kF (fR (n:=(j.wordsC 1).wordV) (by omega) dz) fun dA dB eO ca eP eQ dC dE=>Pl 1<|?_
 have cc:=u1 c6 (u1 c7 (u1 c9 dE im) im) im
 refine L0<|bI (aY cc (Ne.symm y) c3) 12 (mG c 0 ((al.mk b false 0).wordV) (((al.mk b false 0).wordsC 1).wordV) 0 0 0 j.wordV 0 0 0 0 (.slice dA ((aw.wordsR ((j.wordsC 1).wordV)).length) dB) nS nS nS 0 0 0 0 0 nS) fun eR dF aB=>nl<|bn<|?_
 have cd:=us cc aB
 exact jn ((aw.wordsC ((j.wordsC 1).wordV)),_,(bg.mk c 0 ((al.mk b false 0).wordV) (((al.mk b false 0).wordsC 1).wordV) 0 0 0 j.wordV 0 0 0 0 (aw.wordsR ((j.wordsC 1).wordV)) [] [] [] 0 0 0 0 0 [])) ⟨(ut bW (ut bZ (ut c4 cd (ac im (ac im aA))) (ac im (ac im aA))) (ac im (ac im aA))),(RC.upd dC aB (aa y ay) (ut c5 cd (ac (ni d.size g) (ac (ni (le d.size i.size) f) aA)))),dF,⟨_,_,_,_,_,rfl,((ai ca aB (fun x hx=>(aa (fun e=>(aG (ag V) (le (le (le (le (le (le (le (le (le W.size ae.size) af.size) an.size) ao.size) ap.size) ar.size) c6.size) c7.size) c9.size) ca) (e▸hx)) ay)) (fun _ _ h=>h))).rd,aI.nil ..,(fun _ _ _=>aI.nil ..),aI.nil ..,aI.nil ..,(c8 (by omega))⟩,by subst dy dr;unfold aq b7 bX cj dD d8 cF d6 d7 m6;(try simp only[k,z,B,o,s,D,H,bj,dl,dm,dj,dn,dk,reduceIte,rK,rP])<;>rfl⟩
 have dh:=au H
 refine ak 3<|cu 3 [168] 171 ((c==24)) (fun K cg=>?_) ?_
 refine bl 168 ((c==24)) (fun P=>?_) (fun P=>?_)
 have dG:=am P
 exact Pl 3<|ce cg true P
 have dG:=au P
 exact Pl 3<|ce cg false P
 refine aj 1<|cb ((c==24)) (fun I=>?_) (fun I=>?_)
 have dH:=am I
 refine go<|Pl 1<|az<|m3 (cw F) fun eS dI ch eT=>Pl 1<|?_
 have ci:=nb (ag r) lr f
 refine L0<|bI (aY ch (Ne.symm ci) E) 2 (mG c 0 ((al.mk b false 0).wordV) 0 0 0 0 0 0 0 0 0 nS nS nS nS 0 0 0 0 0 nS) fun eU dJ ck=>nl<|bn<|?_
 have cl:=us ch ck
 exact jn (((al.mk b false 0).wordsC 1),_,(bg.mk c 0 ((al.mk b false 0).wordV) 0 0 0 0 0 0 0 0 0 [] [] [] [] 0 0 0 0 0 [])) ⟨cl,(RC.upd dI ck (aa ci ay) (ut l cl (ac (ni d.size g) (ac (ni (le d.size i.size) f) aA)))),dJ,⟨_,_,_,_,_,rfl,aI.nil ..,aI.nil ..,(fun _ _ _=>aI.nil ..),aI.nil ..,aI.nil ..,(c8 (by omega))⟩,by unfold aq b7 bX cj dD d8 cF d6 d7 m6;(try simp only[k,z,B,o,s,D,H,I,bj,dl,dm,dj,dn,dk,reduceIte,rK,rP])<;>rfl⟩
 have dH:=au I
 refine ax 3<|cf I<|ak 1<|?_
 refine aE (ub N J) mZ fun eV dL dM=>aj 1<|rt<|br<|tr<|bV dL (vI 4)<|?_
 exact dq (by unfold aq b7 bX cj dD d8 cF d6 d7 m6;(try simp only[k,z,B,o,s,D,H,I,bj,dl,dm,dj,dn,dk,reduceIte,rK,rP])<;>rfl) (bu (ud l dM U))
theorem lS{m:Md}{A:Option Addr}{cp:Nat}{b:List Int}{w:World}{c:Int}(hcode:B8 c)(hsl:aO m w (.slice A b.length cp) b)(hb:b.length≤1048576) :
    Calls Tryz.prog 110 #[vI 1,vB c,.slice A b.length cp] w (cT (.slice A b.length cp) b (aq b7 1 c b) w):=by
 obtain⟨hcode1,hcode2⟩:=hcode
 have hln:(b.length:Int)≤1048576:=by omega
 refine en 221 Tryz.func110 rfl<|sg<|aK mZ fun a6 dh S F d=>aj 1<|sq<|ax 6<|c0<|bp<|ak 2<|L0<|dK #[.slice A b.length cp,vI 0,.bool false,vI 0] fun k di g r i=>Pl 1<|aL 2<|aK mZ fun G dp f T bN=>aE T (mC c) fun a7 H U=>?_
 refine nt<|?_
 have a8:=ud bN U f
 have I:=aM i a8
 have l:=aM d I
 have J:RC w _ A cp b a7 k (al.mk b false 0):=⟨hsl,l,(Nat.le_trans d.size g),⟨0,(ub a8 r),Nat.zero_le _,rfl⟩,by omega⟩
 refine x8 (fun x=>[(6,vP a6 0),(8,vP k 0),(9,vP G 0)]) (fun(x:al × Array Value × bg) w'=>aD [k,G] a7 w'∧RC w m A cp b w' k x.1∧w'.heap[G]? = some (.cells x.2.1 45 (0,0))∧bG (.slice A b.length cp) b w' x.2.1.toList x.2.2∧(aq b7 1 c b=bA x.2.2 x.1)) ?_ ?_
 rintro⟨C,cs,M⟩ V ⟨a9,bO,bP,bQ,bR⟩
 refine eH [(6,vP a6 0),(8,vP k 0),(9,vP G 0)] ?_
 have ab:RC w m A cp b V k C:=bO
 have bS:V.heap[G]? = some (.cells cs 45 (0,0)):=bP
 have O:bG (.slice A b.length cp) b V cs.toList M:=bQ
 have W:=bG.size O
 have ad:aq b7 1 c b=bA M C:=bR
 refine ak 1<|az<|m2 (lZ ab) fun dr X Y=>nt<|sq<|ak 3<|L0<|dX (p:=⟨k,3,none⟩) (v:=vI C.endC.e) (RC.fld X)<|aj 1<|?_
 have Z:=u1 a9 Y im
 have ae:=ut l Z (ac (ni d.size g) (ac (ni (le d.size i.size) f) aA))
 refine cb ((C.endC.e != 0)) (fun a0=>?_) (fun a0=>?_)
 have a1:=av a0
 refine sq<|Rg 7 (fun w'=>w'.cell? ⟨k,3,none⟩=some (vI C.endC.e)) fun ds P=>?_
 have af:=RC.upd X P ay (aD.step (RC.u X) P)
 refine bB (RC.fld af) fun L=>Rt 0 L<|Rt 1 L<|Rt 2 L<|Rt 3 L<|Rl 4 L (fun _ hs=>hs)<|?_
 refine R0 5 rfl<|iX (ub (ut I (aM Z P) (ac (nr g) (ac (ni i.size f) aA))) F) mZ fun dt bT an=>?_
 have ao:=ud ae (uz P an) S
 refine bB (RC.fld (RC.upd af an (aa (Ne.symm (nb (ag F) lr g)) ay) ao)) fun bU=>Rt 6 bU<|re<|tn<|bh<|bV bT (vI C.endC.e)<|?_
 rw[ad]
 exact cL a1 ao
 have a1:=aJ a0
 refine bp<|sg<|?_
 refine L0<|cO (hz:=(by rw[W];exact be)) (aY Y (Ne.symm (nb (ag r) lr f)) bS)<|?_
 refine aE (hz:=(by rw[W];exact be)) (hv:=(bG.size O)) (h1:=(bG.one O hsl)) (ub (ut I Z (ac (nr g) (ac (ni i.size f) aA))) F) (cs) fun du bW ap=>aj 1<|rt<|eW 22 W bW (vI 0)<|?_
 rw[ad]
 exact dg a1 (bG.upd O (us Y ap) (ah (RC.safe ab _ (by decide)) (ah (aW (ub (ut I a9 (ac (nr g) (ac (ni i.size f) aA))) F) (by decide)) aC))) (ud ae ap S)
 refine bk<|ak 6<|eE 3 [35] 38 35 (c==3) (c==4) (fun K bY bZ=>?_) ?_
 have dv:=au bZ
 exact Pl 3<|ce bY _ rfl
 refine Pl 1<|eE 3 [39] 42 39 ((c==3)||(c==4)) (c==23) (fun K c1 ar=>?_) ?_
 have c2:=(cv ar).1
 have c3:=(cv ar).2
 have dw:=au c2
 have dx:=au c3
 exact Pl 3<|ce c1 _ rfl
 refine aj 2<|cb ((((c==3)||(c==4))||(c==23))) (fun j=>?_) (fun j=>?_)
 refine ak 1<|az<|m3 (dP J) fun dy c4 aw dz=>b6 ((al.mk b false 0).byteV)<|Pl 1<|aL 2<|L0<|Oe (vI (Int.tmod ((al.mk b false 0).byteV) 2)) (vI (((al.mk b false 0).byteV)%2)) (congrArg (Value.int .i64) (Int.tmod_eq_emod_of_nonneg (by omega)))<|Pl 2<|cV 3 [51] 54 51 ((((al.mk b false 0).byteV)%2)==0) (decide (0<((al.mk b false 0).byteV))) (fun K c5 c6=>?_) ?_
 have dA:=am c6
 exact Pl 3<|ce c5 _ rfl
 refine Pl 1<|cV 3 [55] 58 55 (((((al.mk b false 0).byteV)%2)==0)&&(decide (0<((al.mk b false 0).byteV)))) (decide (((al.mk b false 0).byteV)≤250)) (fun K c7 aB=>?_) ?_
 have c9:=(aR aB).1
 have ca:=(aR aB).2
 have dB:=am c9
 have dC:=of_decide_eq_true ca
 exact Pl 3<|ce c7 _ rfl
 refine az<|m2 (aX (((((((al.mk b false 0).byteV)%2)==0)&&(decide (0<((al.mk b false 0).byteV))))&&(decide (((al.mk b false 0).byteV)≤250)))) 5 c4) fun dE cc aF=>?_
 refine fB cc fun x99 cd cg=>?_
 refine nt<|go<|Pl 2<|L0<|Oe (vI (IntKind.i64.wrap (Int.tdiv ((al.mk b false 0).byteV) 2))) (vI (((al.mk b false 0).byteV)/2)) (congrArg (Value.int .i64) (fJ (by omega) (by omega)))<|az<|kF (fR (n:=(((al.mk b false 0).byteV)/2)) (by omega) cg) fun ch ci dF aN dG dH ck cl=>Pl 1<|?_
 have aP:=u1 aw (u1 aF cl im) im
 have aQ:=nb (ag r) lr f
 refine L0<|bI (aY aP (Ne.symm aQ) H) 12 (mG c 0 0 0 0 0 0 0 0 0 0 0 (.slice ch ((x99.wordsR (((al.mk b false 0).byteV)/2)).length) ci) nS nS nS 0 0 0 0 0 nS) fun dI cm a2=>nl<|bn<|?_
 have aS:=us aP a2
 exact jn ((x99.wordsC (((al.mk b false 0).byteV)/2)),_,(bg.mk c 0 0 0 0 0 0 0 0 0 0 0 (x99.wordsR (((al.mk b false 0).byteV)/2)) [] [] [] 0 0 0 0 0 [])) ⟨aS,(RC.upd ck a2 (aa aQ ay) (ut l aS (ac (ni d.size g) (ac (ni (le d.size i.size) f) aA)))),cm,⟨_,_,_,_,_,rfl,((ai aN a2 (fun x hx=>(aa (fun e=>(aG (ag T) (le (le U.size aw.size) aF.size) aN) (e▸hx)) ay)) (fun _ _ h=>h))).rd,aI.nil ..,(fun _ _ _=>aI.nil ..),aI.nil ..,aI.nil ..,(c8 (by omega))⟩,by subst cd;unfold aq  ;(try simp only[j,bj,dl,dm,dj,dn,dk,reduceIte,rK,rP,uC j])<;>rfl⟩
 have s:=(cv j).1
 have t:=(cv j).2
 have y:=(cv s).1
 have z:=(cv s).2
 have q87aap:=au y
 have q87abp:=au z
 have dJ:=au t
 refine ak 3<|sy 68 y<|aj 4<|cf z<|ax 3<|cb ((c==6)) (fun o=>?_) (fun o=>?_)
 have cn:=am o
 refine ak 1<|az<|m3 (cw J) fun dL co aT dM=>Pl 1<|?_
 have Q:=nb (ag r) lr f
 refine L0<|bI (aY aT (Ne.symm Q) H) 2 (mG c 0 ((al.mk b false 0).wordV) 0 0 0 0 0 0 0 0 0 nS nS nS nS 0 0 0 0 0 nS) fun dN cq aU=>nt<|go<|Pl 1<|?_
 have aV:=us aT aU
 have aZ:=ut l aV (ac (ni d.size g) (ac (ni (le d.size i.size) f) aA))
 refine az<|m3 (cw (RC.upd co aU (aa Q ay) aZ)) fun dO cr b0 dQ=>Pl 1<|?_
 refine L0<|bI (aY b0 (Ne.symm Q) cq) 4 (mG c 0 ((al.mk b false 0).wordV) 0 (((al.mk b false 0).wordsC 1).wordV) 0 0 0 0 0 0 0 nS nS nS nS 0 0 0 0 0 nS) fun dR ct b1=>nl<|bn<|?_
 have b2:=us b0 b1
 exact jn ((((al.mk b false 0).wordsC 1).wordsC 1),_,(bg.mk c 0 ((al.mk b false 0).wordV) 0 (((al.mk b false 0).wordsC 1).wordV) 0 0 0 0 0 0 0 [] [] [] [] 0 0 0 0 0 [])) ⟨(ut aV b2 (ac im (ac im aA))),(RC.upd cr b1 (aa Q ay) (ut aZ b2 (ac (ni d.size g) (ac (ni (le d.size i.size) f) aA)))),ct,⟨_,_,_,_,_,rfl,aI.nil ..,aI.nil ..,(fun _ _ _=>aI.nil ..),aI.nil ..,aI.nil ..,(c8 (by omega))⟩,by unfold aq b7 bX cj dD d8 cF d6 d7 m6;(try simp only[j,s,y,z,t,o,bj,dl,dm,dj,dn,dk,reduceIte,rK,rP])<;>rfl⟩
 have cn:=au o
 refine ax 3<|cb ((c==16)) (fun B=>?_) (fun B=>?_)
 have cx:=am B
 refine ak 1<|az<|m3 (cw J) fun dS cz b3 dT=>Pl 1<|?_
 have R:=nb (ag r) lr f
 refine L0<|bI (aY b3 (Ne.symm R) H) 2 (mG c 0 ((al.mk b false 0).wordV) 0 0 0 0 0 0 0 0 0 nS nS nS nS 0 0 0 0 0 nS) fun dU b4 b5=>aL 2<|aH b4 2<|?_
 have b8:=us b3 b5
 have b9:=ut l b8 (ac (ni d.size g) (ac (ni (le d.size i.size) f) aA))
 refine az<|m3 (ld (a:=(al.mk b false 0).wordV) (most:=123) (by omega) (RC.upd cz b5 (aa R ay) b9)) fun dV cA ba dW=>?_
 refine fB cA fun cB cC cD=>?_
 refine L0<|zZ (((al.mk b false 0).wordsC 1).wordV)<|Pl 1<|?_
 refine L0<|bI (aY ba (Ne.symm R) b4) 3 (mG c 0 ((al.mk b false 0).wordV) (((al.mk b false 0).wordsC 1).wordV) 0 0 0 0 0 0 0 0 nS nS nS nS 0 0 0 0 0 nS) fun dY cE bb=>cy 2<|c0<|sk<|bn<|?_
 have bc:=us ba bb
 exact jn (cB,_,(bg.mk c 0 ((al.mk b false 0).wordV) (((al.mk b false 0).wordsC 1).wordV) 0 0 0 0 0 0 0 0 [] [] [] [] 0 0 0 0 0 [])) ⟨(ut b8 bc (ac im (ac im aA))),(RC.upd cD bb (aa R ay) (ut b9 bc (ac (ni d.size g) (ac (ni (le d.size i.size) f) aA)))),cE,⟨_,_,_,_,_,rfl,aI.nil ..,aI.nil ..,(fun _ _ _=>aI.nil ..),aI.nil ..,aI.nil ..,(c8 (by omega))⟩,by subst cC;unfold aq b7 bX cj dD d8 cF d6 d7 m6;(try simp only[j,s,y,z,t,o,B,bj,dl,dm,dj,dn,dk,reduceIte,rK,rP])<;>rfl⟩
 have cx:=au B
 refine ax 3<|cb ((c==22)) (fun D=>?_) (fun D=>?_)
 have cG:=am D
 refine ak 1<|az<|m3 (cw J) fun dZ cH bd e0=>Pl 1<|?_
 have E:=nb (ag r) lr f
 refine L0<|bI (aY bd (Ne.symm E) H) 2 (mG c 0 ((al.mk b false 0).wordV) 0 0 0 0 0 0 0 0 0 nS nS nS nS 0 0 0 0 0 nS) fun e1 cI bf=>aL 1<|?_
 have bi:=us bd bf
 have bm:=ut l bi (ac (ni d.size g) (ac (ni (le d.size i.size) f) aA))
 refine az<|m3 (cw (RC.upd cH bf (aa E ay) bm)) fun e2 cJ bo e3=>Pl 1<|?_
 refine L0<|bI (aY bo (Ne.symm E) cI) 5 (mG c 0 ((al.mk b false 0).wordV) 0 0 (((al.mk b false 0).wordsC 1).wordV) 0 0 0 0 0 0 nS nS nS nS 0 0 0 0 0 nS) fun e4 cK bq=>nt<|go<|Pl 1<|?_
 have bs:=us bo bq
 have bt:=ut bm bs (ac (ni d.size g) (ac (ni (le d.size i.size) f) aA))
 refine az<|m3 (cw (RC.upd cJ bq (aa E ay) bt)) fun e5 cM bv e6=>Pl 1<|?_
 refine L0<|bI (aY bv (Ne.symm E) cK) 6 (mG c 0 ((al.mk b false 0).wordV) 0 0 (((al.mk b false 0).wordsC 1).wordV) ((((al.mk b false 0).wordsC 1).wordsC 1).wordV) 0 0 0 0 0 nS nS nS nS 0 0 0 0 0 nS) fun e7 cN bw=>nl<|bn<|?_
 have bx:=us bv bw
 exact jn (((((al.mk b false 0).wordsC 1).wordsC 1).wordsC 1),_,(bg.mk c 0 ((al.mk b false 0).wordV) 0 0 (((al.mk b false 0).wordsC 1).wordV) ((((al.mk b false 0).wordsC 1).wordsC 1).wordV) 0 0 0 0 0 [] [] [] [] 0 0 0 0 0 [])) ⟨(ut bi (ut bs bx (ac im (ac im aA))) (ac im (ac im aA))),(RC.upd cM bw (aa E ay) (ut bt bx (ac (ni d.size g) (ac (ni (le d.size i.size) f) aA)))),cN,⟨_,_,_,_,_,rfl,aI.nil ..,aI.nil ..,(fun _ _ _=>aI.nil ..),aI.nil ..,aI.nil ..,(c8 (by omega))⟩,by unfold aq b7 bX cj dD d8 cF d6 d7 m6;(try simp only[j,s,y,z,t,o,B,D,bj,dl,dm,dj,dn,dk,reduceIte,rK,rP])<;>rfl⟩
 have cG:=au D
 refine ax 3<|cf t<|ak 3<|cu 3 [168] 171 (false) (fun K bz=>?_) ?_
 refine bl 168 ((c==24)) (fun a3=>?_) (fun a3=>?_)
 have cP:=am a3
 exact Pl 3<|ce bz false rfl
 have cP:=au a3
 exact Pl 3<|ce bz false rfl
 refine aj 1<|c0<|ax 3<|cb ((c==24)) (fun N=>?_) (fun N=>?_)
 have cQ:=am N
 refine ak 1<|az<|m3 (cw J) fun e8 cR bC e9=>b6 ((al.mk b false 0).wordV)<|Pl 1<|aL 2<|L0<|Oe (vI (Int.tmod ((al.mk b false 0).wordV) 2)) (vI (((al.mk b false 0).wordV)%2)) (congrArg (Value.int .i64) (Int.tmod_eq_emod_of_nonneg (by omega)))<|Pl 2<|cV 3 [185] 188 185 ((((al.mk b false 0).wordV)%2)==0) (decide (2≤((al.mk b false 0).wordV))) (fun K cS cU=>?_) ?_
 have ea:=am cU
 exact Pl 3<|ce cS _ rfl
 refine Pl 1<|cV 3 [189] 192 189 (((((al.mk b false 0).wordV)%2)==0)&&(decide (2≤((al.mk b false 0).wordV)))) (decide (((al.mk b false 0).wordV)≤64)) (fun K cW bD=>?_) ?_
 have cX:=(aR bD).1
 have cY:=(aR bD).2
 have eb:=am cX
 have ec:=of_decide_eq_true cY
 exact Pl 3<|ce cW _ rfl
 refine az<|m2 (aX (((((((al.mk b false 0).wordV)%2)==0)&&(decide (2≤((al.mk b false 0).wordV))))&&(decide (((al.mk b false 0).wordV)≤64)))) 5 cR) fun ed cZ bE=>?_
 refine fB cZ fun q d0 d1=>?_
 refine aL 1<|az<|m3 (cw d1) fun ee d2 bF ef=>b6 q.wordV<|Pl 1<|aL 3<|b6 (2*q.wordV)<|b6 ((2*q.wordV)+2)<|Pl 1<|az<|m2 (aX ((((al.mk b false 0).wordV)==((2*q.wordV)+2))) 5 d2) fun eg d3 bH=>?_
 refine fB d3 fun a4 d4 d5=>?_
 refine nt<|go<|Pl 2<|az<|kF (fR (n:=q.wordV) (by omega) d5) fun d9 da eh bJ ei ej db dc=>Pl 1<|?_
 have bK:=u1 bC (u1 bE (u1 bF (u1 bH dc im) im) im) im
 have bL:=nb (ag r) lr f
 refine L0<|bI (aY bK (Ne.symm bL) H) 12 (mG c 0 0 0 0 0 0 0 0 0 0 0 (.slice d9 ((a4.wordsR q.wordV).length) da) nS nS nS 0 0 0 0 0 nS) fun ek dd a5=>nl<|bn<|?_
 have bM:=us bK a5
 exact jn ((a4.wordsC q.wordV),_,(bg.mk c 0 0 0 0 0 0 0 0 0 0 0 (a4.wordsR q.wordV) [] [] [] 0 0 0 0 0 [])) ⟨bM,(RC.upd db a5 (aa bL ay) (ut l bM (ac (ni d.size g) (ac (ni (le d.size i.size) f) aA)))),dd,⟨_,_,_,_,_,rfl,((ai bJ a5 (fun x hx=>(aa (fun e=>(aG (ag T) (le (le (le (le U.size bC.size) bE.size) bF.size) bH.size) bJ) (e▸hx)) ay)) (fun _ _ h=>h))).rd,aI.nil ..,(fun _ _ _=>aI.nil ..),aI.nil ..,aI.nil ..,(c8 (by omega))⟩,by subst d4 d0;unfold aq b7 bX cj dD d8 cF d6 d7 m6;(try simp only[j,s,y,z,t,o,B,D,N,bj,dl,dm,dj,dn,dk,reduceIte,rK,rP])<;>rfl⟩
 have cQ:=au N
 refine ak 1<|?_
 refine aE (ub I F) mZ fun el de df=>aj 1<|rt<|br<|tr<|bV de (vI 4)<|?_
 exact dq (by unfold aq b7 bX cj dD d8 cF d6 d7 m6;(try simp only[j,s,y,z,t,o,B,D,N,bj,dl,dm,dj,dn,dk,reduceIte,rK,rP])<;>rfl) (bu (ud l df S))
theorem mg{m:Md}{A:Option Addr}{cp:Nat}{b:List Int}{w:World}{dir c:Int}(hcode:B8 c)(hsl:aO m w (.slice A b.length cp) b)(hb:b.length≤1048576)(hd:¬ (dir=0∨dir=1)) :
    Calls Tryz.prog 110 #[vI dir,vB c,.slice A b.length cp] w (cT (.slice A b.length cp) b (aq b7 dir c b) w):=by
 obtain⟨hcode1,hcode2⟩:=hcode
 have hln:(b.length:Int)≤1048576:=by omega
 have e0:(dir != 0)=true:=by simp;omega
 have e1:(dir != 1)=true:=by simp;omega
 refine en 221 Tryz.func110 rfl<|sg<|aK mZ fun g h a d e=>aj 1<|sq<|ak 3<|sy 18 e0<|Pl 3<|nl<|tn<|ct e1<|ak 1<|aE d mZ fun i ej f=>aj 1<|bh<|bV ej (vI 1)<|?_
 exact dq (by unfold aq b7 bX cj dD d8 cF d6 d7 m6;(try simp only[e0,e1,bj,dl,dm,dj,dn,dk,reduceIte,hd,rK,rP])<;>rfl) (bu (ud e f a))
end Go.Proofs.YtdkhbcefkfgbdaaGreat
