/- Contracts of functions, part CAduTurns4. -/
import Derived.Test.YtdkhbcefkfgbdaaGreatCAduTurns1
import Derived.Test.YtdkhbcefkfgbdaaGreatCAduTurns2
import Derived.Test.YtdkhbcefkfgbdaaGreatCAduTurns3
import Derived.Laws.BitsAllLaws
import Derived.Laws.StructEq
import Derived.Lib.ConvBytes
import Derived.Lib.OthersKept
import Derived.Shelf.Strings.Builder1
set_option linter.unusedVariables false
set_option linter.unusedSimpArgs false
set_option maxRecDepth 100000
set_option maxHeartbeats 4000000
namespace Go.Proofs.YtdkhbcefkfgbdaaGreat
open Go.RowKit
variable {A C C':ai}{B:Option Addr}{E a c code dir i n t u x:Int}{F:cF}{L b l s xs ys:List Int}{M:aT}{P:Program}{base d k:Nat}{e:TypeId}{ev:Operand→Value}{m m':Md}{o:Oper}{one:Int→ai→Int × ai × dt}{r:Option (List Int)}{v:Value}{w:World}{y:Operand}
structure SL where
  aw:Option Addr
  kw:Nat
  ab:Option Addr
  kb:Nat
  ad:Option Addr
  kd:Nat
  ar:Option Addr
  kr:Nat
  ao:Option Addr
  ko:Nat
def f8 (M:aT)(x:SL) : Array Value:=mG M.code M.fail M.addr M.count M.value M.and_ M.or_ M.addr2 M.sub M.status M.events M.messages (.slice x.aw M.words.length x.kw) (.slice x.ab M.bits.length x.kb) (.slice x.ad M.data.length x.kd) (.slice x.ar M.recs.length x.kr) M.mei M.kind M.level M.more M.next (.slice x.ao M.objects.length x.ko)
theorem mF{cs:Array Value}  (h:aI m w cs.toList M) : ∃ x,cs=f8 M x:=by
  obtain⟨vw,vb,vd,vr,vo,h0,hw,hb,hd,hr,ho,hR⟩:=h
  obtain⟨aw,kw,rfl,_,_⟩:=hw.shape
  obtain⟨ab,kb,rfl,_,_⟩:=hb.shape
  obtain⟨ad,kd,rfl,_,_⟩:=hd.shape
  obtain⟨ar,kr,rfl,_,_⟩:=hr.shape
  obtain⟨ao,ko,rfl,_,_⟩:=ho.shape
  refine⟨⟨aw,kw,ab,kb,ad,kd,ar,kr,ao,ko⟩,?_⟩
  apply Array.toList_inj.1
  rw[h0]
  rfl
theorem aI.rngs{cs:Array Value}  (h:aI m w cs.toList M) : (0≤M.code∧M.code<256)∧(0≤M.fail∧M.fail<256):=by
  obtain⟨vw,vb,vd,vr,vo,h0,hw,hb,hd,hr,ho,hR⟩:=h
  exact⟨hR.code,hR.fail⟩
open Go.RowKit
def vT:aT:={ aT.zero with code:=7 }
open Go.RowKit
section
variable {P:Program}{n:Nat}{D:List Deferred}{F:Fr}{w:World}{K:Fr→World→Prop}{Q:Exit→Act→World→Prop}{d:Option Tmp}{t:TypeId}{s:String}{af:Array Edge}{gu:Option (Nat × Bool)}
theorem yi{a:Act}{K:Act→World→Prop}{o:Oper}{N:Option Tmp}{f:FuncId}{fn:Func}{x:Operand}{nm:String}{opds:Array Operand}{ts:Array TypeId}{T:TypeId}{v rv:Value}(args:Array Value)(hN:o.dst=N)(hop:o.op = .call { callee:=.invoke x nm,args:=opds,argTypes:=ts })
    (hx : a.eval x = .iface T v) (hm : (method (P.types.size + Made.depth) T v nm).run P w = .ok (f, rv) w) (hf : P.funcs[f]? = some fn) (hname : (fn.name == "runtime.NumGoroutine") = false) (hb : fn.body.isSome = true) (hargs : #[rv] ++ opds.map a.eval = args)
    (h:Calls P f args w fun e w'=>∃ v,e = .returned v∧K (a.put N v) w') : OW P o a w K Q:=by
  refine OW.mk ?_
  subst hN
  subst hargs
  have h1 : fn.name ≠ "runtime.NumGoroutine" := by simpa using hname
  obtain⟨cd,hcd⟩:=Option.isSome_iff_exists.1 hb
  have hcm:(callMethod (.iface T v) nm (opds.map a.eval)).run P w = .ok (.enter f (#[rv]++opds.map a.eval)) w:=by
    unfold callMethod
    simp only[program,Sem.run_bind]
    have hp:(pure P:Sem Program).run P w = .ok P w:=rfl
    simp[Sem.run,hm,callFunc,hf,h1,hcd,Result.andThen]
  have hinv:invoke (.fn (.method nm) #[]) (#[.iface T v]++opds.map a.eval)=callMethod (.iface T v) nm (opds.map a.eval):=by
    have e0:(#[Value.iface T v]++opds.map a.eval)[0]? = some (.iface T v):=by
      rw[Array.getElem?_append_left (by simp)]
      rfl
    have e1:(#[Value.iface T v]++opds.map a.eval).extract 1 (#[Value.iface T v]++opds.map a.eval).size=opds.map a.eval:=by
      apply Array.toList_inj.1
      simp only[Array.toList_extract,List.extract_eq_take_drop,Array.toList_append,Array.toList_map,Array.size_append,Array.size_map]
      simp[List.take_of_length_le]
    unfold invoke
    simp only[e0,e1]
  have hrun:(execOp a.eval o).run P w = .ok (.enter f (#[rv]++opds.map a.eval)) w:=by
    unfold execOp
    simp only[hop,resolve,hx,Sem.run_bind,Sem.run_pure,Result.andThen_ok,hinv,hcm]
  unfold Oper.wp
  rw[hrun,Oper.upon_enter]
  refine h.mono fun e w'' hh=>?_
  obtain⟨v,rfl,h2⟩:=hh
  exact h2
theorem xB{f:FuncId}{x:Operand}{nm:String}{opds:Array Operand}{ts:Array TypeId}{args:Array Value}(T:TypeId)(v rv:Value)(h:Calls P f args w fun e w'=>∃ v,e = .returned v∧K (pt d v F) w')
    (hm:(method (P.types.size+Made.depth) T v nm).run P w = .ok (f,rv) w:=by kernel_rfl) (hx:fp F x=some (.iface T v):=by kernel_rfl) (ha:some rv :: opds.toList.map (fp F)=args.toList.map some:=by kernel_rfl) (hf:CA P f=some (false,true):=by kernel_rfl) (hs:gw n d=true:=by kernel_rfl) : OG P ⟨d,.call { callee:=.invoke x nm,args:=opds,argTypes:=ts },t,s,af,gu⟩ n D F w K Q:=by
  obtain⟨fn,h1,h2,h3⟩:=kY hf
  refine⟨fun a hag K' hK=>yi args rfl rfl (hag.ev hx) hm h1 h2 h3 ?_ (h.mono fun e w' hh=>by
    obtain⟨v,rfl,hk⟩:=hh
    exact⟨v,rfl,hK _ _ _ hk (hag.put hs)⟩)⟩
  apply Array.toList_inj.1
  obtain⟨vs,has⟩ : ∃ vs:List Value,args.toList=rv :: vs∧opds.toList.map (fp F)=vs.map some:=by
    cases hl:args.toList with
    | nil=>rw[hl] at ha;cases ha
    | cons y ys =>
      rw[hl] at ha
      injection ha with e1 e2
      exact⟨ys,by rw[Option.some.inj e1],e2⟩
  rw[has.1,Array.toList_append,Array.toList_map,mn hag has.2]
  rfl
end
open Go.RowKit
structure cF where
  unit:Int
  tid:Int
  msg:aT
def cF.zero:cF:=⟨0,0,aT.zero⟩
def DO (m:Md)(w:World)(cs:Array Value)(F:cF) : Prop:=∃ c:Array Value,cs = #[.int .u8 F.unit,.int .u16 F.tid]++c∧aI m w c.toList F.msg∧B8 F.unit∧eP F.tid
def mO (res:cF × Int)(w:World)(e:Ending)(w':World) : Prop:=∃ cs,e = .returned (.tuple #[.agg cs,.int .i64 res.2])∧DO true w' cs res.1∧aH [] w w'
theorem dL{x y:cF × Int}(h:x=y){w:World}{e:Ending}{w':World}(k:mO y w e w') : mO x w e w':=by rw[h];exact k
def kX:Array Value:=#[.int .u8 0,.int .u16 0,.int .u8 0,.int .u8 0,.int .u16 0,.int .u16 0,.int .u16 0,.int .u16 0,.int .u16 0,.int .u16 0,.int .u16 0,.int .u16 0,.int .u16 0,.int .u16 0,.slice none 0 0,.slice none 0 0,.slice none 0 0,.slice none 0 0,.int .u8 0,.int .u8 0,.int .u8 0,.int .u8 0,.int .u8 0,.slice none 0 0]
theorem cJ{x:Int}{w W:World}(hu:aH [] w W) : mO (cF.zero,x) w (.returned (.tuple #[.agg kX,.int .i64 x])) W:=⟨_,rfl,⟨oD,(by kernel_rfl),aI.zero ..,(show(0:Int)≤0∧(0:Int)<256 from by decide),(show(0:Int)≤0∧(0:Int)<65536 from by decide)⟩,hu⟩
def ch (u t:Int) : aT × Int→cF × Int
  | (M,E)=>if E != 0 then (cF.zero,E) else (⟨u,t,M⟩,0)
theorem it{dir:Int}{M:aT}{l:List Int}(h:db dir M=some l) : l.length≤253:=by
  unfold db at h
  split at h
  · split at h
    · cases h
    · unfold og at h
      split at h
      · cases h
      · split at h
        · cases h
        · injection h with h
          subst h
          simp only[List.length_cons,List.length_nil]
          omega
  · split at h
    · cases h
    · split at h
      · cases h
      · rename_i hl
        injection h with h
        subst h
        simp only[decide_eq_true_eq] at hl
        simp only[List.length_append,List.length_cons,List.length_nil]
        omega
open Go.RowKit
deriving instance DecidableEq for cF
def dH (u t:Int)(M:aT)(x:SL) : Array Value:=#[.int .u8 u,.int .u16 t,.int .u8 M.code,.int .u8 M.fail,.int .u16 M.addr,.int .u16 M.count,.int .u16 M.value,.int .u16 M.and_,.int .u16 M.or_,.int .u16 M.addr2,.int .u16 M.sub,.int .u16 M.status,.int .u16 M.events,.int .u16 M.messages,.slice x.aw M.words.length x.kw,.slice x.ab M.bits.length x.kb,.slice x.ad M.data.length x.kd,.slice x.ar M.recs.length x.kr,.int .u8 M.mei,.int .u8 M.kind,.int .u8 M.level,.int .u8 M.more,.int .u8 M.next,.slice x.ao M.objects.length x.ko]
theorem i2(u t:Int)(M:aT)(x:SL) : dH u t M x = #[.int .u8 u,.int .u16 t]++f8 M x:=by kernel_rfl
end Go.Proofs.YtdkhbcefkfgbdaaGreat
namespace Go.Proofs.YtdkhbcefkfgbdaaGreat
def kI (x:Nat) : Nat:=(x/2) ^^^ (x%2*40961)
def gc:Nat→Nat→Nat
  | 0,x=>x
  | k+1,x=>kI (gc k x)
def BM (i:Nat) : Nat:=gc 8 i
theorem AQ{x:Nat}(h:x<65536) : kI x<65536:=by
  unfold kI
  exact Nat.xor_lt_two_pow (n:=16) (by omega) (by omega)
theorem jB{x:Nat}(h:x<65536) : ∀ k,gc k x<65536
  | 0=>h
  | k+1=>AQ (jB h k)
theorem vg{i:Nat}(h:i<256) : BM i<65536:=jB (by omega) 8
def v6 (s c:Nat) : Nat:=(s/256) ^^^ BM ((s%256) ^^^ c)
theorem uK{a b:Nat}(ha:a<256)(hb:b<256) : a ^^^ b<256:=Nat.xor_lt_two_pow (n:=8) ha hb
theorem nN{a b:Nat}(ha:a<65536)(hb:b<65536) : a ^^^ b<65536:=Nat.xor_lt_two_pow (n:=16) ha hb
theorem zz{s c:Nat}(hs:s<65536)(hc:c<256) : v6 s c<65536:=nN (by omega) (vg (uK (by omega) hc))
def xi (a b:Int) : Int:=((a.toNat ^^^ b.toNat:Nat) : Int)
theorem Fc{b:Int}(ha:0≤a∧a<256)(hb:0≤b∧b<256) : 0≤xi a b∧xi a b<256:=by
  have:=uK (a:=a.toNat) (b:=b.toNat) (by omega) (by omega)
  unfold xi
  omega
theorem DK{b:Int}(ha:0≤a∧a<65536)(hb:0≤b∧b<65536) : 0≤xi a b∧xi a b<65536:=by
  have:=nN (a:=a.toNat) (b:=b.toNat) (by omega) (by omega)
  unfold xi
  omega
theorem Av(n:Nat) : xi (((n:Nat) : Int)/2) ((((n:Nat) : Int)%2)*40961%65536)=((kI n:Nat) : Int):=by
  unfold xi kI
  rw[show(((n:Nat) : Int)/2).toNat=n/2 from by omega,show((((n:Nat) : Int)%2)*40961%65536).toNat=n%2*40961 from by omega]
def m9 (i:Int) : Int:=((BM i.toNat:Nat) : Int)
theorem rE(h:0≤i∧i<256) : 0≤m9 i∧m9 i<65536:=by
  have:=vg (i:=i.toNat) (by omega)
  unfold m9
  omega
def u2 (s c:Int) : Int:=xi (s/256) (m9 (xi (s%256) c))
theorem qZ{s:Int}(hs:0≤s∧s<65536)(hc:0≤c∧c<256) : u2 s c=((v6 s.toNat c.toNat:Nat) : Int):=by
  unfold u2 m9 xi v6
  rw[show(s/256).toNat=s.toNat/256 from by omega,show(s%256).toNat=s.toNat%256 from by omega]
  simp only[Int.toNat_natCast]
theorem rA{s:Int}(hs:0≤s∧s<65536)(hc:0≤c∧c<256) : 0≤u2 s c∧u2 s c<65536:=by
  have:=zz (s:=s.toNat) (c:=c.toNat) (by omega) (by omega)
  rw[qZ hs hc]
  omega
def cn (s:Int)(b:List Int) : Int:=b.foldl u2 s
theorem ie:∀ (b:List Int){s:Int},(0≤s∧s<65536)→(∀ x,x∈b→0≤x∧x<256)→0≤cn s b∧cn s b<65536
  | [],s,hs,_=>hs
  | c :: b,s,hs,hb=>ie b (rA hs (hb c (List.mem_cons_self ..))) fun x hx=>hb x (List.mem_cons_of_mem _ hx)
theorem zu(s:Int)(a b:List Int) : cn s (a++b)=cn (cn s a) b:=by unfold cn;rw[List.foldl_append]
def co (s:Int) : List Int:=[s%256,s/256%256]
theorem jT(s:Int) : (co s).length=2:=rfl
def dO (b:List Int) : Bool:=decide (2≤b.length)&&decide (co (cn 65535 (b.take (b.length-2)))=b.drop (b.length-2))
open Go.RowKit
def DX (P:Program)(ty:TypeId) : Option (Nat × TypeId):=match P.underlying ty with | some (.array m e)=>some (m,e) | _=>none
theorem yE{ty:TypeId}{m:Nat}(h:DX P ty=some (m,e)) : P.underlying ty=some (.array m e):=by
  unfold DX at h
  split at h
  · injection h with h
    injection h with h1 h2
    subst h1 h2
    assumption
  · cases h
theorem xp{t:TypeId}{x ix:Operand}{b off j m:Nat}{k:IntKind}  (ho:o.op = .indexAddr t x ix)(ht:P.underlying t=some (.array m e))(hi:(P.info? e).map (·.size)=some 1)
    (hx:ev x = .pointer (some ⟨b,off,none⟩)) (hix:ev ix = .int k i) (hj:i=j) (hlt:j<m) : (execOp ev o).run P w = .ok (.value (.pointer (some ⟨b,off+j,none⟩))) w:=by
  subst hj
  obtain⟨i0,hi0,hs⟩:=Option.map_eq_some_iff.1 hi
  unfold execOp
  have h2:(0:Int)≤(j:Int)∧(j:Int)<(m:Int):=by omega
  simp[ho,hx,hix,Instr.indexAt,Instr.sureAddr,asIntOf,run_underlying ht,Result.andThen,h2,sizeOf,typeInfo,hi0,hs,kp,hlt]
section
variable {P:Program}{n:Nat}{D:List Deferred}{F:Fr}{w:World}{K:Fr→World→Prop}{Q:Exit→Act→World→Prop}{d:Option Tmp}{t:TypeId}{s:String}{af:Array Edge}{gu:Option (Nat × Bool)}
theorem E9{ty:TypeId}{x ix:Operand}{b off:Nat}(m j:Nat)(i:Int)(hj:i=j)(hlt:j<m)(h:K (pt d (.pointer (some ⟨b,off+j,none⟩)) F) w)
    (hx:fp F x=some (.pointer (some ⟨b,off,none⟩)):=by kernel_rfl) (hi:Be F ix=some i:=by kernel_rfl) (hs:((DX P ty).bind fun p=>(P.info? p.2).map fun q=>(p.1,q.size),gw n d)=(some (m,1),true):=by kernel_rfl) : OG P ⟨d,.indexAddr ty x ix,t,s,af,gu⟩ n D F w K Q:=by
  simp only[Prod.mk.injEq] at hs
  obtain⟨hs,hd⟩:=hs
  obtain⟨k,hi⟩:=mI hi
  cases he:DX P ty with
  | none=>rw[he] at hs;simp at hs
  | some p =>
    obtain⟨m',e⟩:=p
    rw[he] at hs
    obtain⟨q,hq,h3⟩:=Option.map_eq_some_iff.1 (show(P.info? e).map (fun q=>(m',q.size))=some (m,1) from hs)
    injection h3 with h4 h5
    subst h4
    exact⟨fun a ha K' hK=>iR _ rfl (xp rfl (yE he) (by rw[hq];simp[h5]) (ha.ev hx) (ha.ev hi) hj hlt) (hK _ _ _ h (ha.put hd))⟩
end
theorem DE{a b:Int}(ha:0≤a∧a<256)(hb:0≤b∧b<256) : bits .xor .u8 a b=xi a b:=u8_xor a b ha.1 ha.2 hb.1 hb.2
theorem pL{a b:Int}(ha:0≤a∧a<65536)(hb:0≤b∧b<65536) : bits .xor .u16 a b=xi a b:=u16_xor a b ha.1 ha.2 hb.1 hb.2
theorem zR{a:Int}(ha:0≤a∧a<65536) : bits .and .u16 a 1=a%2:=by
  rw[u16_and a 1 ha.1 ha.2 (by omega) (by omega)]
  show((a.toNat &&& 1:Nat) : Int)=_
  rw[Nat.and_one_is_mod]
  omega
def jc (k:Nat) : Array Value:=((List.range 256).map fun i=>if i<k then Value.int .u16 (m9 i) else Value.int .u16 0).toArray
theorem dK(k:Nat) : (jc k).size=256:=by simp[jc]
theorem sa(k:Nat) : (jc k).all (·.oneCell')=true:=by
  unfold jc
  rw[List.all_toArray,List.all_eq_true]
  intro v hv
  rw[List.mem_map] at hv
  obtain⟨i,_,rfl⟩:=hv
  split<;>rfl
theorem zL{i k:Nat}(hk:k=8)(hi:i<256) : (jc i).setIfInBounds i (.int .u16 ((gc k i:Nat) : Int))=jc (i+1):=by
  subst hk
  unfold jc
  rw[List.setIfInBounds_toArray]
  congr 1
  apply List.ext_getElem?
  intro j
  rw[List.getElem?_set]
  by_cases hj:j<256
  · by_cases hij:i=j
    · subst hij
      simp[hi,m9,BM]
    · simp[hij,hj]
      congr 1
      simp only[eq_iff_iff]
      omega
  · rw[if_neg (by omega)]
    simp[hj]
theorem BS{i:Nat}(h:i<256) : (jc 256)[i]? = some (.int .u16 (m9 i)):=by simp[jc,h]
def eF (s:Int)(b:List Int) : Nat→Int
  | 0=>s
  | k+1=>u2 (eF s b k) (b.getD k 0)
theorem pp(s:Int)(b:List Int) : ∀ k,k≤b.length→eF s b k=cn s (b.take k)
  | 0,_=>by simp[eF,cn]
  | k+1,h=>by
    rw[List.take_succ_eq_append_getElem (by omega),zu,← pp s b k (by omega)]
    show u2 _ (b.getD k 0)=_
    rw[List.getD_eq_getElem?_getD,List.getElem?_eq_getElem (by omega)]
    rfl
theorem rU{s:Int}{b:List Int}{k:Nat}(h:k=b.length) : eF s b k=cn s b:=by
  subst h
  rw[pp _ _ _ (Nat.le_refl _),List.take_length]
theorem kF{s:Int}{b:List Int}(hs:0≤s∧s<65536)(hb:∀ x,x∈b→0≤x∧x<256) : ∀ k,0≤eF s b k∧eF s b k<65536
  | 0=>hs
  | k+1=>rA (kF hs hb k) (fl (by omega) hb k)
theorem yz{i:Int}(h:0≤i) : m9 ((i.toNat:Nat) : Int)=m9 i:=by rw[Int.toNat_of_nonneg h]
open Go.RowKit
theorem C8{P:Program}(t e:TypeId)(sz:Nat){i:TypeInfo}(ht:P.underlying t=some (.slice e))(hi:P.info? e=some i)(hsz:i.size=sz)(A:Option Addr)(n c:Nat){k:Int}(h:Nat)(hk:k=(h:Int))(hh:h≤n)(hc:n≤c) :
    ∃ A':Option Addr,(∀ (kh:IntKind) (W:World),(Instr.slice t (.slice A n c) none (some (.int kh k)) none).run P W = .ok (.slice A' h c) W) ∧
      ∀ {α:Type} (m:Md) (e':TypeId) (R:World→α→List Value→Prop) (w:World) (xs:List α),aS m e' sz R w (.slice A n c) xs→aS m e' sz R w (.slice A' h c) (xs.take h):=by
  subst hk
  obtain⟨A',h1,h2⟩:=xU (P:=P) t e sz ht hi hsz A n c 0 h (Nat.zero_le _) hh hc
  refine⟨A',fun kh W=>?_,fun m e' R w xs hr=>by simpa using h2 m e' R w xs hr⟩
  have h3:=h1 .i64 kh W
  have hel:P.elem t=e:=by simp[Program.elem,ht]
  have hu:P.underlying t=some (.slice (P.elem t)):=by rw[hel];exact ht
  rw[run_slice_h W t A n c hu kh (h:Int) (Int.natCast_nonneg _) (by omega)]
  rw[run_slice_lh W t A n c hu .i64 kh (((0:Nat) : Int)) (h:Int) (Int.natCast_nonneg _) (by omega) (by omega)] at h3
  simpa using h3
theorem rp{o:Oper}{ev:Operand→Value}{P:Program}{w:World}{t:TypeId}{x y:Operand}{A:Option Addr}{n c:Nat}{kl:IntKind}{k:Int}{v:Value}{e:TypeId}(ho:o.op = .slice t x none (some y) none)(ht:P.underlying t=some (.slice e))(hx:ev x = .slice A n c)(hy:ev y = .int kl k)
    (hr:(Instr.slice t (.slice A n c) none (some (.int kl k)) none).run P w = .ok v w) : (execOp ev o).run P w = .ok (.value v) w:=by
  have hu:(underlying t).run P w = .ok (.slice e) w:=run_underlying ht w
  unfold execOp
  simp only[ho,Option.map_some,Option.map_none,hx,hy,Instr.sliceAt,Sem.run_bind,hu,hr,Result.andThen,Sem.run_pure]
theorem gh{P:Program}(t e:TypeId)(sz:Nat){i:TypeInfo}(ht:P.underlying t=some (.slice e))(hi:P.info? e=some i)(hsz:i.size=sz)(A:Option Addr)(n c:Nat){lo up:Int}(k h:Nat)(hlo:lo=(k:Int))(hup:up=(h:Int))(hk:k≤h)(hh:h≤n)(hc:n≤c) :
    ∃ A':Option Addr,(∀ (kl kh:IntKind) (W:World),(Instr.slice t (.slice A n c) (some (.int kl lo)) (some (.int kh up)) none).run P W = .ok (.slice A' (h-k) (c-k)) W) ∧
      ∀ {α:Type} (m:Md) (e':TypeId) (R:World→α→List Value→Prop) (w:World) (xs:List α),aS m e' sz R w (.slice A n c) xs→aS m e' sz R w (.slice A' (h-k) (c-k)) ((xs.take h).drop k):=by
  subst hlo hup
  exact xU t e sz ht hi hsz A n c k h hk hh hc
theorem eY{o:Oper}{ev:Operand→Value}{P:Program}{w:World}{t:TypeId}{x y z:Operand}{A:Option Addr}{n c:Nat}{kl kh:IntKind}{lo hi:Int}{v:Value}{e:TypeId}(ho:o.op = .slice t x (some y) (some z) none)(ht:P.underlying t=some (.slice e))(hx:ev x = .slice A n c)(hy:ev y = .int kl lo)(hz:ev z = .int kh hi)
    (hr:(Instr.slice t (.slice A n c) (some (.int kl lo)) (some (.int kh hi)) none).run P w = .ok v w) : (execOp ev o).run P w = .ok (.value v) w:=by
  have hu:(underlying t).run P w = .ok (.slice e) w:=run_underlying ht w
  unfold execOp
  simp only[ho,Option.map_some,Option.map_none,hx,hy,hz,Instr.sliceAt,Sem.run_bind,hu,hr,Result.andThen,Sem.run_pure]
theorem x9{P:Program}(t e:TypeId)(sz:Nat){i:TypeInfo}(ht:P.underlying t=some (.slice e))(hi:P.info? e=some i)(hsz:i.size=sz)(A:Option Addr)(n c:Nat){lo:Int}(k:Nat)(hlo:lo=(k:Int))(hk:k≤n) :
    ∃ A':Option Addr,(∀ (kl:IntKind) (W:World),(Instr.slice t (.slice A n c) (some (.int kl lo)) none none).run P W = .ok (.slice A' (n-k) (c-k)) W) ∧
      ∀ {α:Type} (m:Md) (e':TypeId) (R:World→α→List Value→Prop) (w:World) (xs:List α),aS m e' sz R w (.slice A n c) xs→aS m e' sz R w (.slice A' (n-k) (c-k)) (xs.drop k):=by
  subst hlo
  exact eg t e sz ht hi hsz A n c k hk
open Go.RowKit
theorem qp{w:World}:Calls Tryz.prog 258 #[] w (cc (.agg (jc 256)) w):=by
 refine en 23 Tryz.func258 rfl<|sg<|aK (jc 0) fun c F n o p=>ng<|aK (jc 0) fun a q r s t=>nt<|sq<|sg<|?_
 refine ah 1<|bk<|?_
 refine je (fun x=>[(0,vP c 0),(1,vP a 0),(4,vI ((x:Nat) : Int))]) (fun(x:Nat) w'=>aH [a] q w'∧w'.heap[a]? = some (.cells (jc x) 247 (0,0))∧(x≤256)) (fun x=>256-x) 0 ⟨aH.refl _ _,s,(by(try dsimp only);omega)⟩ ?_
 rintro i g ⟨h,u,v⟩
 refine ji [(0,vP c 0),(1,vP a 0),(4,vI ((i:Nat) : Int))] ?_
 have j:g.heap[a]? = some (.cells (jc i) 247 (0,0)):=u
 have G:i≤256:=v
 refine aD 1<|sq<|?_
 have l:=ud t h r
 refine cb ((decide (((i:Nat) : Int)<256))) (fun d=>?_) (fun d=>?_)
 have y:=of_decide_eq_true d
 refine bo<|sq<|bk<|ak 2<|aM 1<|L0<|Oe (vW (IntKind.u16.wrap ((i:Nat) : Int))) (vW ((gc 0 i:Nat) : Int)) (congrArg (Value.int .u16) (jm (x:=((i:Nat) : Int)) (by omega)))<|Pl 1<|nl<|?_
 refine tn<|sq<|aD 1<|bk<|?_
 refine je (fun x=>[(0,vP c 0),(1,vP a 0),(2,vI ((i:Nat) : Int)),(3,vW ((gc x i:Nat) : Int)),(4,vI ((i:Nat) : Int)),(5,.bool (decide (((i:Nat) : Int)<256))),(6,vI ((i:Nat) : Int)),(7,vI ((i:Nat) : Int)),(8,vW ((gc 0 i:Nat) : Int)),(9,vI ((x:Nat) : Int))]) (fun(x:Nat) w'=>aH [] g w'∧(x≤8)) (fun x=>8-x) 0 ⟨aH.refl _ _,(by(try dsimp only);omega)⟩ ?_
 rintro k H ⟨e,z⟩
 refine ji [(0,vP c 0),(1,vP a 0),(2,vI ((i:Nat) : Int)),(3,vW ((gc k i:Nat) : Int)),(4,vI ((i:Nat) : Int)),(5,.bool (decide (((i:Nat) : Int)<256))),(6,vI ((i:Nat) : Int)),(7,vI ((i:Nat) : Int)),(8,vW ((gc 0 i:Nat) : Int)),(9,vI ((k:Nat) : Int))] ?_
 have I:k≤8:=z
 have J:=jB (x:=i) (by omega) k
 refine aD 1<|sq<|?_
 refine cb ((decide (((k:Nat) : Int)<8))) (fun f=>?_) (fun f=>?_)
 have A:=of_decide_eq_true f
 refine bo<|sq<|bk<|go<|Pl 1<|L0<|Oe (vW (Int.fdiv ((gc k i:Nat) : Int) (2 ^ 1))) (vW (((gc k i:Nat) : Int)/2)) (congrArg (Value.int .u16) (ms _ _ _ (by decide)))<|Pl 1<|L0<|Oe (vW (bits .and .u16 ((gc k i:Nat) : Int) 1)) (vW (((gc k i:Nat) : Int)%2)) (congrArg (Value.int .u16) (zR (by omega)))<|Pl 1<|L0<|Oe (vW (bits .xor .u16 (((gc k i:Nat) : Int)/2) (((((gc k i:Nat) : Int)%2)*40961)%65536))) (vW ((gc (k+1) i:Nat) : Int)) (congrArg (Value.int .u16) ((pL (by omega) (by omega)).trans (Av _)))<|Pl 1<|nl<|bn<|?_
 exact tn<|go<|bq (((k:Nat) : Int)+1)<|Pl 1<|nl<|gL (k+1) ⟨e,(by(try dsimp only);omega)⟩ (by omega)
 have A:=of_decide_eq_false f
 refine xt<|tx<|tx<|bx<|tn<|go<|Pl 2<|L0<|E9 (b:=a) (off:=0) 256 i ((i:Nat) : Int) rfl (by omega)<|?_
 refine L0<|cm (hl:=(by rw[dK];simp;omega)) (ub e j) (0+i) ((jc i).setIfInBounds (0+i) (vW ((gc k i:Nat) : Int))) fun K B C=>?_
 have m:=B
 rw[Nat.zero_add,zL (by omega) (by omega)] at m
 refine nl<|bn<|tn<|go<|bq (((i:Nat) : Int)+1)<|Pl 1<|nl<|?_
 exact gL (i+1) ⟨(u1 h (uz e C) im),m,(by(try dsimp only);omega)⟩ (by omega)
 have y:=of_decide_eq_false d
 refine xt<|tx<|tx<|bx<|tn<|sg<|L0<|bO (hz:=(by rw[dK];kernel_rfl)) j<|?_
 refine aG (hz:=(by rw[dK];kernel_rfl)) (hv:=(Eq.trans (by first | rw[dK,dK] | rw[dK]) (Eq.symm (dK _)))) (h1:=(sa _)) (ub l o) ((jc i)) fun L D E=>sI<|EC 256 (dK _) D<|?_
 have hi:i=256:=by omega
 subst hi
 exact⟨rfl,(ud (aJ p l) E n)⟩
theorem pI{m:Md}{A:Option Addr}{cp:Nat}{b:List Int}{w:World}{s:Int}(hsl:aX m w (.slice A b.length cp) b)(hs:0≤s∧s<65536) :
    Calls Tryz.prog 257 #[vW s,.slice A b.length cp] w (cc (vW (cn s b)) w):=by
 have hln:=aS.len hsl
 have hb:=aX.range hsl
 refine en 26 Tryz.func257 rfl<|ak 1<|ng<|ay<|m1 (@qp w) fun D g=>aK (jc 0) fun c E h j l=>aG (hz:=(by rw[dK];kernel_rfl)) (hv:=(Eq.trans (by first | rw[dK,dK] | rw[dK]) (Eq.symm (dK _)))) (h1:=(sa _)) j ((jc 256)) fun n o q=>nt<|sq<|aD 3<|bk<|?_
 refine je (fun x=>[(0,vW (eF s b x)),(4,vW 0),(5,vP c 0),(9,.slice A b.length cp),(10,vI (b.length:Int)),(11,vI (x:Int))]) (fun(x:Nat) w'=>aH [] n w'∧(x≤b.length)∧(0≤eF s b x∧eF s b x<65536)) (fun x=>b.length-x) 0 ⟨aH.refl _ _,(by(try dsimp only);omega),hs⟩ ?_
 rintro k F ⟨d,r,t⟩
 refine ji [(0,vW (eF s b k)),(4,vW 0),(5,vP c 0),(9,.slice A b.length cp),(10,vI (b.length:Int)),(11,vI (k:Int))] ?_
 have G:k≤b.length:=r
 have H:0≤eF s b k∧eF s b k<65536:=t
 refine aD 1<|sq<|?_
 have f:=aJ g (ud l (aJ q d) h)
 refine cb ((decide ((k:Int)<(b.length:Int)))) (fun e=>?_) (fun e=>?_)
 have u:=of_decide_eq_true e
 refine bo<|sq<|bk<|sg<|?_
 refine ft (aX.at_ (aX.old hsl f) k (by omega)) fun y z B C I=>L0<|l9 b.length k B (by omega)<|L0<|eH (p:=⟨y,z+k,none⟩) (v:=vB (b.getD k 0)) C<|ah 1<|go<|Pl 1<|L0<|Oe (vW (Int.fdiv (eF s b k) (2 ^ 8))) (vW ((eF s b k)/256)) (congrArg (Value.int .u16) (ms _ _ _ (by decide)))<|Pl 3<|?_
 have J:=Fc (a:=((eF s b k)%256)) (b:=(b.getD k 0)) (by omega) (by omega)
 refine L0<|Oe (vB (bits .xor .u8 ((eF s b k)%256) (b.getD k 0))) (vB (xi ((eF s b k)%256) (b.getD k 0))) (congrArg (Value.int .u8) (DE (by omega) (by omega)))<|L0<|E9 (b:=c) (off:=0) 256 (((xi ((eF s b k)%256) (b.getD k 0))).toNat) (xi ((eF s b k)%256) (b.getD k 0)) (by omega) (by omega)<|?_
 have K:=rE (i:=(xi ((eF s b k)%256) (b.getD k 0))) (by omega)
 exact L0<|eH (p:=⟨c,0+((xi ((eF s b k)%256) (b.getD k 0))).toNat,none⟩) (v:=vW (m9 ((xi ((eF s b k)%256) (b.getD k 0))))) (ae (ub d o) (by rw[Nat.zero_add,BS (by omega),yz (by omega)]))<|L0<|Oe (vW (bits .xor .u16 ((eF s b k)/256) (m9 (xi ((eF s b k)%256) (b.getD k 0))))) (vW (eF s b (k+1))) (congrArg (Value.int .u16) (pL (by omega) (rE (by omega))))<|Pl 1<|nl<|bn<|tn<|go<|bq ((k:Int)+1)<|Pl 1<|nl<|gL (k+1) ⟨d,(by(try dsimp only);omega),(kF hs hb _)⟩ (by omega)
 have u:=of_decide_eq_false e
 refine xt<|tx<|tx<|bx<|tn<|aD 2<|rt<|rr (vW (eF s b k))<|?_
 have hk:eF s b k=cn s b:=rU (by omega)
 rw[hk]
 exact⟨rfl,f⟩
theorem sf{m:Md}{v:Value}{b:List Int}{w:World}(h:aX m w v b) : Calls Tryz.prog 257 #[.int .u16 65535,v] w (cc (.int .u16 (cn 65535 b)) w):=by
  obtain⟨A,cp,rfl,_,_⟩:=h.shape
  exact pI h (by decide)
theorem u6{m:Md}{A:Option Addr}{cp:Nat}{b:List Int}{w:World}(hsl:aX m w (.slice A b.length cp) b) :
    Calls Tryz.prog 256 #[.slice A b.length cp] w (cc (vW (cn 65535 b)) w):=by
 exact en 5 Tryz.func256 rfl<|ak 1<|aM 1<|ay<|m1 (sf hsl) fun c a=>ah 1<|rt<|rr (vW (cn 65535 b))<|⟨rfl,a⟩
theorem la{m:Md}{v:Value}{b:List Int}{w:World}(h:aX m w v b) : Calls Tryz.prog 256 #[v] w (cc (.int .u16 (cn 65535 b)) w):=by
  obtain⟨A,cp,rfl,_,_⟩:=h.shape
  exact u6 h
theorem iF{w:World}{s:Int}(hs:0≤s∧s<65536) : Calls Tryz.prog 255 #[vW s] w (fun e w'=>∃ v,e = .returned v∧eB w.heap.size w' v (co s)∧aH [] w w'):=by
 refine en 9 Tryz.func255 rfl<|ak 1<|aM 3<|L0<|Oe (vW (Int.fdiv s (2 ^ 8))) (vW (s/256)) (congrArg (Value.int .u16) (ms _ _ _ (by decide)))<|Pl 1<|L0<|d9 (m:=2) (e:=5) #[vB (s%256),vB ((s/256)%256)] fun a g b c d=>?_
 have f:=cL b (xs:=[(s%256),((s/256)%256)]) (by as_aux_lemma=>kernel_rfl) (ap (by omega) (ap (by omega) aR)) (by(try simp only[List.length_cons,List.length_nil]);omega) c
 exact ah 1<|rt<|rr (.slice (some ⟨a,0,none⟩) 2 2)<|⟨_,rfl,f,d⟩
theorem mv{b:List Int}{n:Nat}(h:2≤b.length)(hn:n=b.length-2) : dO b=decide (co (cn 65535 (b.take n))=b.drop n):=by
  subst hn
  unfold dO
  simp[h]
theorem AS{b:List Int}(h:b.length<2) : dO b=false:=by
  unfold dO
  simp
  omega
theorem uq{m:Md}{A:Option Addr}{cp:Nat}{b:List Int}{w:World}(hsl:aX m w (.slice A b.length cp) b)(hb:b.length≤1048576)(hcp:b.length≤cp) :
    Calls Tryz.prog 254 #[.slice A b.length cp] w (cc (.bool (dO b)) w):=by
 have hc:=aS.len hsl
 refine en 22 Tryz.func254 rfl<|ak 1<|aM 2<|bq ((b.length:Int)-2)<|ah 1<|sq<|?_
 refine Rg 16 (fun w'=>True) fun R f=>bp trivial fun d=>Rt 0 d<|Rt 1 d<|Rt 2 d<|vp 9 ((decide (0≤((b.length:Int)-2)))) (fun p=>?_) (fun p=>?_)
 have I:=of_decide_eq_true p
 refine Rt 3 d<|Rt 4 d<|mT (C8 (P:=Tryz.prog) 27 5 1 Tryz.underlying27 rfl rfl A b.length cp (k:=((b.length:Int)-2)) ((((b.length:Int)-2)).toNat) (by omega) (by omega) (by omega)) fun q hrun60 i=>Rr 5 d (.slice q ((((b.length:Int)-2)).toNat) cp) (fun _ _=>rp (kl:=.i64) (k:=((b.length:Int)-2)) (A:=A) (n:=b.length) (c:=cp) rfl Tryz.underlying27 (by kernel_rfl) (by kernel_rfl) (hrun60 _ _))<|Rt 9 d<|Rt 10 d<|mT (x9 (P:=Tryz.prog) 27 5 1 Tryz.underlying27 rfl rfl A b.length cp (lo:=((b.length:Int)-2)) ((((b.length:Int)-2)).toNat) (by omega) (by omega)) fun g hrun63 e=>Rr 11 d (.slice g (b.length-((((b.length:Int)-2)).toNat)) (cp-((((b.length:Int)-2)).toNat))) (fun _ _=>eA (kl:=.i64) (k:=((b.length:Int)-2)) (A:=A) (n:=b.length) (c:=cp) rfl Tryz.underlying27 (by kernel_rfl) (by kernel_rfl) (hrun63 _ _))<|R2 6 12 rfl rfl ?_ ?_
 have h:=aX.old hsl f
 refine  Oc (args:=#[.slice q ((((b.length:Int)-2)).toNat) cp])<|m1 (la (i _ _ _ _ _ h)) fun S j=>?_
 have T:=ie (b.take ((((b.length:Int)-2)).toNat)) (s:=65535) (by decide) (aX.range (i _ _ _ _ _ h))
 refine bp trivial fun U=>?_
 refine R2 7 12 rfl rfl ?_ ?_
 refine  Oc<|e9 (iF (s:=(cn 65535 (b.take ((((b.length:Int)-2)).toNat)))) (by omega)) fun x y V l W X z=>bp trivial fun Y=>?_
 refine R2 8 12 rfl rfl ?_ ?_
 refine  gt (.string (strOfNums (co (cn 65535 (b.take ((((b.length:Int)-2)).toNat)))))) (cS (A:=x) (n:=(co (cn 65535 (b.take ((((b.length:Int)-2)).toNat)))).length) (c:=y) rfl (by kernel_rfl) Tryz.underlying27 Tryz.underlying5 Tryz.underlying9 (l).rd)<|bp trivial fun Z=>?_
 have B:=aJ j z
 have C:=aX.old h B
 refine R0 12 rfl<|gt (.string (strOfNums (b.drop ((((b.length:Int)-2)).toNat)))) (cS (A:=g) (n:=(b.length-((((b.length:Int)-2)).toNat))) (c:=(cp-((((b.length:Int)-2)).toNat))) rfl (by kernel_rfl) Tryz.underlying27 Tryz.underlying5 Tryz.underlying9 (e _ _ _ _ _ C))<|bp trivial fun r=>Rr 13 r (.bool (decide ((co (cn 65535 (b.take ((((b.length:Int)-2)).toNat))))=(b.drop ((((b.length:Int)-2)).toNat))))) (fun _ _=>fY (a:=(strOfNums (co (cn 65535 (b.take ((((b.length:Int)-2)).toNat)))))) (b:=(strOfNums (b.drop ((((b.length:Int)-2)).toNat)))) rfl (by kernel_rfl) (by kernel_rfl) (jX (l).rd (e _ _ _ _ _ C)))<|Rt 14 r<|Rt 15 r<|re<|tn<|rt<|rr (.bool (decide ((co (cn 65535 (b.take ((((b.length:Int)-2)).toNat))))=(b.drop ((((b.length:Int)-2)).toNat)))))<|?_
 have hs:dO b=(decide ((co (cn 65535 (b.take ((((b.length:Int)-2)).toNat))))=(b.drop ((((b.length:Int)-2)).toNat)))):=(mv (by omega) (by omega))
 rw[hs]
 exact⟨rfl,(aJ f B)⟩
 have D:=aJ j z
 have E:=aX.old h D
 refine  gt (.string (strOfNums (b.drop ((((b.length:Int)-2)).toNat)))) (cS (A:=g) (n:=(b.length-((((b.length:Int)-2)).toNat))) (c:=(cp-((((b.length:Int)-2)).toNat))) rfl (by kernel_rfl) Tryz.underlying27 Tryz.underlying5 Tryz.underlying9 (e _ _ _ _ _ E))<|bp trivial fun a0=>R0 8 rfl<|gt (.string (strOfNums (co (cn 65535 (b.take ((((b.length:Int)-2)).toNat)))))) (cS (A:=x) (n:=(co (cn 65535 (b.take ((((b.length:Int)-2)).toNat)))).length) (c:=y) rfl (by kernel_rfl) Tryz.underlying27 Tryz.underlying5 Tryz.underlying9 (l).rd)<|bp trivial fun t=>Rr 13 t (.bool (decide ((co (cn 65535 (b.take ((((b.length:Int)-2)).toNat))))=(b.drop ((((b.length:Int)-2)).toNat))))) (fun _ _=>fY (a:=(strOfNums (co (cn 65535 (b.take ((((b.length:Int)-2)).toNat)))))) (b:=(strOfNums (b.drop ((((b.length:Int)-2)).toNat)))) rfl (by kernel_rfl) (by kernel_rfl) (jX (l).rd (e _ _ _ _ _ E)))<|Rt 14 t<|Rt 15 t<|re<|tn<|rt<|rr (.bool (decide ((co (cn 65535 (b.take ((((b.length:Int)-2)).toNat))))=(b.drop ((((b.length:Int)-2)).toNat)))))<|?_
 have hs:dO b=(decide ((co (cn 65535 (b.take ((((b.length:Int)-2)).toNat))))=(b.drop ((((b.length:Int)-2)).toNat)))):=(mv (by omega) (by omega))
 rw[hs]
 exact⟨rfl,(aJ f D)⟩
 have F:=aX.old h j
 refine  gt (.string (strOfNums (b.drop ((((b.length:Int)-2)).toNat)))) (cS (A:=g) (n:=(b.length-((((b.length:Int)-2)).toNat))) (c:=(cp-((((b.length:Int)-2)).toNat))) rfl (by kernel_rfl) Tryz.underlying27 Tryz.underlying5 Tryz.underlying9 (e _ _ _ _ _ F))<|bp trivial fun a1=>R0 7 rfl<|Oc<|e9 (iF (s:=(cn 65535 (b.take ((((b.length:Int)-2)).toNat)))) (by omega)) fun J K a2 G a3 a4 L=>bp trivial fun a5=>R0 8 rfl<|gt (.string (strOfNums (co (cn 65535 (b.take ((((b.length:Int)-2)).toNat)))))) (cS (A:=J) (n:=(co (cn 65535 (b.take ((((b.length:Int)-2)).toNat)))).length) (c:=K) rfl (by kernel_rfl) Tryz.underlying27 Tryz.underlying5 Tryz.underlying9 (G).rd)<|bp trivial fun u=>Rr 13 u (.bool (decide ((co (cn 65535 (b.take ((((b.length:Int)-2)).toNat))))=(b.drop ((((b.length:Int)-2)).toNat))))) (fun _ _=>fY (a:=(strOfNums (co (cn 65535 (b.take ((((b.length:Int)-2)).toNat)))))) (b:=(strOfNums (b.drop ((((b.length:Int)-2)).toNat)))) rfl (by kernel_rfl) (by kernel_rfl) (jX (G).rd (e _ _ _ _ _ F)))<|Rt 14 u<|Rt 15 u<|re<|tn<|rt<|rr (.bool (decide ((co (cn 65535 (b.take ((((b.length:Int)-2)).toNat))))=(b.drop ((((b.length:Int)-2)).toNat)))))<|?_
 have hs:dO b=(decide ((co (cn 65535 (b.take ((((b.length:Int)-2)).toNat))))=(b.drop ((((b.length:Int)-2)).toNat)))):=(mv (by omega) (by omega))
 rw[hs]
 exact⟨rfl,(aJ f (aJ j L))⟩
 have o:=aX.old hsl f
 refine  gt (.string (strOfNums (b.drop ((((b.length:Int)-2)).toNat)))) (cS (A:=g) (n:=(b.length-((((b.length:Int)-2)).toNat))) (c:=(cp-((((b.length:Int)-2)).toNat))) rfl (by kernel_rfl) Tryz.underlying27 Tryz.underlying5 Tryz.underlying9 (e _ _ _ _ _ o))<|bp trivial fun a6=>R0 6 rfl<|Oc (args:=#[.slice q ((((b.length:Int)-2)).toNat) cp])<|m1 (la (i _ _ _ _ _ o)) fun a7 M=>?_
 have a8:=ie (b.take ((((b.length:Int)-2)).toNat)) (s:=65535) (by decide) (aX.range (i _ _ _ _ _ o))
 refine bp trivial fun a9=>R0 7 rfl<|Oc<|e9 (iF (s:=(cn 65535 (b.take ((((b.length:Int)-2)).toNat)))) (by omega)) fun N O aa H ab ac Q=>bp trivial fun ad=>R0 8 rfl<|gt (.string (strOfNums (co (cn 65535 (b.take ((((b.length:Int)-2)).toNat)))))) (cS (A:=N) (n:=(co (cn 65535 (b.take ((((b.length:Int)-2)).toNat)))).length) (c:=O) rfl (by kernel_rfl) Tryz.underlying27 Tryz.underlying5 Tryz.underlying9 (H).rd)<|bp trivial fun v=>Rr 13 v (.bool (decide ((co (cn 65535 (b.take ((((b.length:Int)-2)).toNat))))=(b.drop ((((b.length:Int)-2)).toNat))))) (fun _ _=>fY (a:=(strOfNums (co (cn 65535 (b.take ((((b.length:Int)-2)).toNat)))))) (b:=(strOfNums (b.drop ((((b.length:Int)-2)).toNat)))) rfl (by kernel_rfl) (by kernel_rfl) (jX (H).rd (e _ _ _ _ _ o)))<|Rt 14 v<|Rt 15 v<|re<|tn<|rt<|rr (.bool (decide ((co (cn 65535 (b.take ((((b.length:Int)-2)).toNat))))=(b.drop ((((b.length:Int)-2)).toNat)))))<|?_
 have hs:dO b=(decide ((co (cn 65535 (b.take ((((b.length:Int)-2)).toNat))))=(b.drop ((((b.length:Int)-2)).toNat)))):=(mv (by omega) (by omega))
 rw[hs]
 exact⟨rfl,(aJ f (aJ M Q))⟩
 have I:=of_decide_eq_false p
 refine Ro 3 d<|Ro 4 d<|Ro 5 d<|Ro 6 d<|Ro 7 d<|Ro 8 d<|Ro 9 d<|Ro 10 d<|Ro 11 d<|Ro 12 d<|Ro 13 d<|Rt 14 d<|Rt 15 d<|re<|tn<|rt<|rr (.bool false)<|?_
 have hs:dO b=false:=(AS (by omega))
 rw[hs]
 exact⟨rfl,f⟩
theorem vz{m:Md}{v:Value}{b:List Int}{w:World}(h:aX m w v b)(hb:b.length≤1048576) : Calls Tryz.prog 254 #[v] w (cc (.bool (dO b)) w):=by
  obtain⟨A,cp,rfl,hc,_⟩:=h.shape
  exact uq h hb hc
open Go.RowKit
def fM (b:List Int) : List Int:=(b.take (b.length-2)).drop 1
theorem iQ(b:List Int) : fM b=(b.take (((b.length:Nat) : Int)-2).toNat).drop 1:=by
  unfold fM
  rw[show(((b.length:Nat) : Int)-2).toNat=b.length-2 from by omega]
def ec (dir:Int)(b:List Int) : cF × Int :=
  if dir != 0&&dir != 1 then (cF.zero,1)
  else if decide ((b.length:Int)<4) then (cF.zero,2)
  else if decide (256<(b.length:Int)) then (cF.zero,3)
  else if !(dO b) then (cF.zero,10)
  else ch (b.getD 0 0) 0 (cw dir (fM b))
theorem t7{m:Md}{A:Option Addr}{cp:Nat}{b:List Int}{w:World}{dir:Int}(hsl:aX m w (.slice A b.length cp) b)(hb:b.length≤1048576)(hcp:b.length≤cp) :
    Calls Tryz.prog 253 #[vI dir,.slice A b.length cp] w (mO (ec dir b) w):=by
 have hln:(b.length:Int)≤1048576:=by omega
 refine en 51 Tryz.func253 rfl<|sg<|aK #[vB 0,vW 0,vB 0,vB 0,vW 0,vW 0,vW 0,vW 0,vW 0,vW 0,vW 0,vW 0,vW 0,vW 0,nS,nS,nS,nS,vB 0,vB 0,vB 0,vB 0,vB 0,nS] fun aZ b0 j e B=>ah 1<|sq<|bk<|ak 3<|cu 3 [11] 14 (((dir != 0)&&(dir != 1))) (fun K N=>?_) ?_
 refine bl 11 ((dir != 0)) (fun C=>?_) (fun C=>?_)
 have a5:=az C
 exact Pl 3<|ce N (dir != 1) (by rw[C];rfl)
 have a5:=aA C
 exact Pl 3<|ce N false (by rw[C];rfl)
 refine ah 1<|cb (((dir != 0)&&(dir != 1))) (fun d=>?_) (fun d=>?_)
 have O:=(bB d).1
 have Q:=(bB d).2
 have b1:=az O
 have b2:=az Q
 refine ak 1<|aG e #[vB 0,vW 0,vB 0,vB 0,vW 0,vW 0,vW 0,vW 0,vW 0,vW 0,vW 0,vW 0,vW 0,vW 0,nS,nS,nS,nS,vB 0,vB 0,vB 0,vB 0,vB 0,nS] fun b3 a6 a7=>ah 1<|rt<|br<|tr<|bH a6 (vI 1)<|?_
 have hs:ec dir b=(cF.zero,1):=by
   unfold ec
   (try simp only[d,O,Q,bj,ch,reduceIte])
   all_goals rfl
 refine dL hs ?_
 exact cJ (ud B a7 j)
 refine aD 4<|cb ((decide ((b.length:Int)<4))) (fun f=>?_) (fun f=>?_)
 have a8:=of_decide_eq_true f
 refine ak 1<|aG e #[vB 0,vW 0,vB 0,vB 0,vW 0,vW 0,vW 0,vW 0,vW 0,vW 0,vW 0,vW 0,vW 0,vW 0,nS,nS,nS,nS,vB 0,vB 0,vB 0,vB 0,vB 0,nS] fun b4 a9 aa=>ah 1<|rt<|br<|tr<|bH a9 (vI 2)<|?_
 have hs:ec dir b=(cF.zero,2):=by
   unfold ec
   (try simp only[d,f,bj,ch,reduceIte])
   all_goals rfl
 refine dL hs ?_
 exact cJ (ud B aa j)
 have a8:=of_decide_eq_false f
 refine aD 4<|cb ((decide (256<(b.length:Int)))) (fun h=>?_) (fun h=>?_)
 have ab:=of_decide_eq_true h
 refine ak 1<|aG e #[vB 0,vW 0,vB 0,vB 0,vW 0,vW 0,vW 0,vW 0,vW 0,vW 0,vW 0,vW 0,vW 0,vW 0,nS,nS,nS,nS,vB 0,vB 0,vB 0,vB 0,vB 0,nS] fun b5 ac ad=>ah 1<|rt<|br<|tr<|bH ac (vI 3)<|?_
 have hs:ec dir b=(cF.zero,3):=by
   unfold ec
   (try simp only[d,f,h,bj,ch,reduceIte])
   all_goals rfl
 refine dL hs ?_
 exact cJ (ud B ad j)
 have ab:=of_decide_eq_false h
 refine ak 1<|?_
 have R:=aX.old hsl B
 refine ay (args:=#[.slice A b.length cp])<|m1 (vz R (by omega)) fun ae i=>ah 2<|?_
 have S:=aJ B i
 refine cb ((!(dO b))) (fun k=>?_) (fun k=>?_)
 have G:(dO b)=false:=by simpa using k
 refine ak 1<|?_
 refine aG (ub i e) #[vB 0,vW 0,vB 0,vB 0,vW 0,vW 0,vW 0,vW 0,vW 0,vW 0,vW 0,vW 0,vW 0,vW 0,nS,nS,nS,nS,vB 0,vB 0,vB 0,vB 0,vB 0,nS] fun b7 af ag=>ah 1<|rt<|br<|tr<|bH af (vI 10)<|?_
 have hs:ec dir b=(cF.zero,10):=by
   unfold ec
   (try simp only[d,f,h,k,G,bj,ch,reduceIte])
   all_goals rfl
 refine dL hs ?_
 exact cJ (ud S ag j)
 have G:(dO b)=true:=by simpa using k
 refine sk<|bn<|tn<|ak 4<|bq ((b.length:Int)-2)<|mT (gh (P:=Tryz.prog) 27 5 1 Tryz.underlying27 rfl rfl A b.length cp (lo:=1) (up:=((b.length:Int)-2)) 1 ((((b.length:Int)-2)).toNat) (by omega) (by omega) (by omega) (by omega) (by omega)) fun ai hrun43 aj=>L0<|gt (.slice ai (((((b.length:Int)-2)).toNat)-1) (cp-1)) (eY (kl:=.i64) (kh:=.i64) (lo:=1) (hi:=((b.length:Int)-2)) (A:=A) (n:=b.length) (c:=cp) rfl Tryz.underlying27 (by kernel_rfl) (by kernel_rfl) (by kernel_rfl) (hrun43 _ _ _))<|?_
 obtain⟨a,D,J⟩ : ∃ M E,cw dir ((b.take ((((b.length:Int)-2)).toNat)).drop 1)=(M,E):=⟨_,_,rfl⟩
 have T:=aX.old R i
 have U:=lc (dir:=dir) (w:=ae) (aj _ _ _ _ _ T) (by rw[List.length_drop,List.length_take];omega)
 rw[J] at U
 refine ay<|e2 U fun al b9 V L=>?_
 have am:=V
 obtain⟨an,ao,ap,aq,ar,aw,ax,aB,aC,aE,aF,ba⟩:=am
 obtain rfl:al=(eC a an ao ap aq ar).toArray:=by apply Array.toList_inj.1;simpa using aw
 obtain⟨l,o,rfl,_,_⟩:=ax.shape
 obtain⟨p,q,rfl,_,_⟩:=aB.shape
 obtain⟨r,s,rfl,_,_⟩:=aC.shape
 obtain⟨t,u,rfl,_,_⟩:=aE.shape
 obtain⟨v,y,rfl,_,_⟩:=aF.shape
 refine Pl 3<|aK mZ fun W bb X aH aL=>aG aH (mG a.code a.fail a.addr a.count a.value a.and_ a.or_ a.addr2 a.sub a.status a.events a.messages (.slice l a.words.length o) (.slice p a.bits.length q) (.slice r a.data.length s) (.slice t a.recs.length u) a.mei a.kind a.level a.more a.next (.slice v a.objects.length y)) fun bc aM aO=>ah 1<|sq<|aD 2<|?_
 have Y:=ud aL aO X
 have H:=aJ L Y
 have Z:=aJ S H
 refine cb ((D != 0)) (fun F=>?_) (fun F=>?_)
 have aP:=az F
 refine ak 2<|?_
 refine aG (ub (aJ i H) e) #[vB 0,vW 0,vB 0,vB 0,vW 0,vW 0,vW 0,vW 0,vW 0,vW 0,vW 0,vW 0,vW 0,vW 0,nS,nS,nS,nS,vB 0,vB 0,vB 0,vB 0,vB 0,nS] fun bd aQ aR=>ah 1<|aV<|bH aQ (vI D)<|?_
 have hX2:cw dir (fM b)=(a,D):=(congrArg (cw dir) (iQ b)).trans J
 have hs:ec dir b=(cF.zero,D):=by
   unfold ec
   (try simp only[d,f,h,k,G,F,bj,ch,hX2,reduceIte])
   all_goals rfl
 refine dL hs ?_
 exact cJ (ud Z aR j)
 have aP:=aA F
 refine bo<|sq<|?_
 refine ft (aX.at_ (aX.old T H) 0 (by omega)) fun aS aT a0 aU bf=>Rg 8 (fun w'=>w'.cell? ⟨aS,aT+0,none⟩=some (vB (b.getD 0 0))∧w'.heap[W]? = some (.cells (mG a.code a.fail a.addr a.count a.value a.and_ a.or_ a.addr2 a.sub a.status a.events a.messages (.slice l a.words.length o) (.slice p a.bits.length q) (.slice r a.data.length s) (.slice t a.recs.length u) a.mei a.kind a.level a.more a.next (.slice v a.objects.length y)) 45 (0,0))) fun bg I=>?_
 have a1:=ub I aM
 refine bp ⟨(uc I aU),a1⟩ fun z=>Rt 0 z<|lL 1 z b.length 0 0 rfl a0 (by omega)<|Rl 2 z (fun _ hs=>hs.1)<|Rt 3 z<|Rr 4 z (.agg (mG a.code a.fail a.addr a.count a.value a.and_ a.or_ a.addr2 a.sub a.status a.events a.messages (.slice l a.words.length o) (.slice p a.bits.length q) (.slice r a.data.length s) (.slice t a.recs.length u) a.mei a.kind a.level a.more a.next (.slice v a.objects.length y))) (fun w' hs=>gW (g:=W) (off:=0) [vB a.code,vB a.fail,vW a.addr,vW a.count,vW a.value,vW a.and_,vW a.or_,vW a.addr2,vW a.sub,vW a.status,vW a.events,vW a.messages,.slice l a.words.length o,.slice p a.bits.length q,.slice r a.data.length s,.slice t a.recs.length u,vB a.mei,vB a.kind,vB a.level,vB a.more,vB a.next,.slice v a.objects.length y] rfl (by kernel_rfl) hs.2 (by kernel_rfl) (by kernel_rfl) rfl)<|Rt 5 z<|?_
 refine R0 6 rfl<|gk (ub (aJ i (aJ H I)) e) #[vB (b.getD 0 0),vW 0,vB a.code,vB a.fail,vW a.addr,vW a.count,vW a.value,vW a.and_,vW a.or_,vW a.addr2,vW a.sub,vW a.status,vW a.events,vW a.messages,.slice l a.words.length o,.slice p a.bits.length q,.slice r a.data.length s,.slice t a.recs.length u,vB a.mei,vB a.kind,vB a.level,vB a.more,vB a.next,.slice v a.objects.length y] fun bh aW a2=>?_
 have a3:=uz I a2
 have a4:=ud Z a3 j
 refine bp ⟨(cB (aX.old hsl a4) a0 0 (by omega)),(be a2 (Ne.symm (nb (au e) (le i.size L.size) X)) a1)⟩ fun aY=>Rt 7 aY<|re<|tn<|rt<|bH aW (vI 0)<|?_
 have hX2:cw dir (fM b)=(a,D):=(congrArg (cw dir) (iQ b)).trans J
 have hs:ec dir b=(⟨(b.getD 0 0),0,a⟩,0):=by
   unfold ec
   (try simp only[d,f,h,k,G,F,bj,ch,hX2,reduceIte])
   all_goals rfl
 refine dL hs ?_
 exact⟨_,rfl,⟨#[vB a.code,vB a.fail,vW a.addr,vW a.count,vW a.value,vW a.and_,vW a.or_,vW a.addr2,vW a.sub,vW a.status,vW a.events,vW a.messages,.slice l a.words.length o,.slice p a.bits.length q,.slice r a.data.length s,.slice t a.recs.length u,vB a.mei,vB a.kind,vB a.level,vB a.more,vB a.next,.slice v a.objects.length y],(by as_aux_lemma=>kernel_rfl),(aI.upd V (uz Y a3) (av (b6 (ub (aJ i L) e) (by decide)) aN)),b8 (x:=(b.getD 0 0)) (by omega),cT (x:=0) (by omega)⟩,a4⟩
theorem vZ{m:Md}{v:Value}{b:List Int}{w:World}{dir:Int}(h:aX m w v b)(hb:b.length≤1048576) : Calls Tryz.prog 253 #[.int .i64 dir,v] w (mO (ec dir b) w):=by
  obtain⟨A,cp,rfl,hc,_⟩:=h.shape
  exact t7 h hb hc
open Go.RowKit
theorem y7(a b c d:Int)(w:World) : (Op.equalIn 10000 39 (.agg #[.int .u8 a,.int .u16 b]) (.agg #[.int .u8 c,.int .u16 d])).run Tryz.prog w = .ok ((a==c)&&(b==d)) w:=by
  have hS:Tryz.prog.underlying 39=some (.struct (Tryz.prog.fieldsOf 39)):=by kernel_rfl
  have hp:Tryz.prog.stoodInHeld 39=false:=by kernel_rfl
  rw[show(10000:Nat)=9998+1+1 from rfl,run_equalIn_agg w (9998+1) 39 _ _ hS hp]
  simp only[Program.fieldsOf,Tryz.underlying39]
  have p0:∀ v:Int,(part 5 #[.int .u8 v,.int .u16 b] 0).run Tryz.prog w = .ok (.int .u8 v) w:=fun v=>by simp[part,isAgg,run_underlying Tryz.underlying5,Result.andThen]
  have p0':∀ v:Int,(part 5 #[.int .u8 v,.int .u16 d] 0).run Tryz.prog w = .ok (.int .u8 v) w:=fun v=>by simp[part,isAgg,run_underlying Tryz.underlying5,Result.andThen]
  have p1:∀ v u:Int,(part 37 #[.int .u8 u,.int .u16 v] 1).run Tryz.prog w = .ok (.int .u16 v) w:=fun v u=>by simp[part,isAgg,run_underlying Tryz.underlying37,Result.andThen]
  have e0:=run_equalIn_int (P:=Tryz.prog) w 9998 5 .u8 _ a c Tryz.underlying5
  have e1:=run_equalIn_int (P:=Tryz.prog) w 9998 37 .u16 _ b d Tryz.underlying37
  simp only[Op.eqFields,Sem.run_bind,p0,p0',p1,e0,e1,Result.andThen_ok,ne_eq,String.reduceEq,not_false_eq_true,if_true,Sem.run_ite]
  cases (a==c)<;>cases (b==d)<;>simp
theorem iS{ev:Operand→Value}{o:Oper}{x y:Operand}{t:TypeId}(a b c d:Int){v:Bool}{w:World}(ho:o.op = .binOp .neq 39 x y t)
    (hx:ev x = .agg #[.int .u8 a,.int .u16 b]) (hy:ev y = .agg #[.int .u8 c,.int .u16 d]) (hv:(!((a==c)&&(b==d)))=v) : (execOp ev o).run Tryz.prog w = .ok (.value (.bool v)) w:=by
  subst hv
  have hg:(eqGuard .neq 39 x y (.agg #[.int .u8 a,.int .u16 b]) (.agg #[.int .u8 c,.int .u16 d])).run Tryz.prog w = .ok () w:=run_eqGuard_agg w _ _ _ _ _ _ (by kernel_rfl)
  unfold execOp
  simp only[ho,hx,hy,Sem.run_bind,hg,Result.andThen_ok,run_neq_struct,y7,Sem.run_pure]
open Go.RowKit
def jd (u:Int)(l:List Int) : List Int:=([u]++l)++co (cn 65535 ([u]++l))
def fP (dir u t:Int)(M:aT) : Option (List Int) :=
  match db dir M with
  | none=>none
  | some l=>if !((u==u)&&(t==0)) then none else some (jd u l)
theorem oZ{m:Md}{cs:Array Value}{M:aT}{w:World}{dir u t:Int}(h:aI m w cs.toList M)(hf:bi M)(hu:B8 u)(ht:eP t) : Calls Tryz.prog 262 #[vI dir,.agg (#[vB u,vW t]++cs)] w (e8 (fP dir u t M) w):=by
 have hM:=h
 obtain⟨hu1,hu2⟩:=hu
 obtain⟨ht1,ht2⟩:=ht
 refine fE h fun Aw kw Ab kb Ad kd Ar kr Ao ko e hw hbt hd hr ho _ _ _ _ _ _ _ _ _ _ q0 q1 q2 q3 q4 q5 q6 q7 q8 q9 O P Q R S T U=>?_
 subst e
 refine en 38 Tryz.func262 rfl<|sg<|L0<|da #[vB u,vW t,vB M.code,vB M.fail,vW M.addr,vW M.count,vW M.value,vW M.and_,vW M.or_,vW M.addr2,vW M.sub,vW M.status,vW M.events,vW M.messages,.slice Aw M.words.length kw,.slice Ab M.bits.length kb,.slice Ad M.data.length kd,.slice Ar M.recs.length kr,vB M.mei,vB M.kind,vB M.level,vB M.more,vB M.next,.slice Ao M.objects.length ko] fun V W X k c=>Pl 2<|aM 2<|L0<|nZ k 2 22<|?_
 rcases hwr:db dir M with _|lw
 have l:=gv (dir:=dir) (aI.old hM c) hf
 rw[hwr] at l
 refine ay<|m1 l fun Y C=>ah 5<|sq<|aD 11<|c1<|ak 2<|nl<|tn<|aV<|rr (.tuple #[nS,vI 1])<|?_
 exact cC (y:=none) (by unfold fP;(try simp only[hwr,bj,reduceIte])<;>rfl) ⟨rfl,(aJ c C)⟩
 have hlw:=it hwr
 have n:=gv (dir:=dir) (aI.old hM c) hf
 rw[hwr] at n
 refine ay<|e9 n fun Z a0 a1 D a2 a3 o=>ah 5<|sq<|ak 4<|?_
 have g:=ub o k
 refine L1<|nZ g 0 2<|Pl 2<|L1<|dX g 0<|Pl 1<|L1<|gt (.bool (!((u==u)&&(t==0)))) (iS u t u 0 rfl (by kernel_rfl) (by kernel_rfl) rfl)<|ah 1<|?_
 have i:=aJ c o
 refine cb ((!((u==u)&&(t==0)))) (fun a=>?_) (fun a=>?_)
 have b:((u==u)&&(t==0))=false:=by simpa using a
 exact aD 2<|aV<|rr (.tuple #[nS,vI 1])<|cC (y:=none) (by unfold fP;(try simp only[hwr,a,b,bj,reduceIte])<;>rfl) ⟨rfl,i⟩
 have b:((u==u)&&(t==0))=true:=by simpa using a
 have p:=(bB b).1
 have q:=(bB b).2
 have q33nap:=ag p
 have q33nbp:=ag q
 refine bo<|ak 2<|aE g 0<|L0<|d9 (m:=1) (e:=5) #[vB u] fun E a4 F G d=>?_
 have r:=cL F (xs:=[u]) (by as_aux_lemma=>kernel_rfl) (ap (by omega) aR) (by(try simp only[List.length_cons,List.length_nil]);omega) G
 refine Pl 1<|?_
 refine L0<|bS b9 (xs:=([u])) (ys:=lw) (vB 0) 1 r ((ax D d (fun x hx=>aF) (fun _ _ h=>h))).rd (by(try simp only[bV,aB,jT]);omega) d.size fun j H a5 f v=>Pl 1<|aM 2<|ay (args:=#[.slice j (([u]++lw).length) H])<|m1 (la (f).rd) fun a6 z=>?_
 have a7:=ie ([u]++lw) (s:=65535) (by decide) (aX.range (f).rd)
 refine ay<|e9 (iF (s:=(cn 65535 ([u]++lw))) (by omega)) fun a8 a9 aa I ab ac A=>?_
 have B:=aJ z A
 refine L0<|bS b9 (xs:=([u]++lw)) (ys:=(co (cn 65535 ([u]++lw)))) (vB 0) 1 (ax f B (fun x hx=>aF) (fun _ _ h=>h)) (I).rd (by(try simp only[bV,aB,jT]);omega) (le (le (le d.size v.size) z.size) A.size) fun J K ad L N=>ah 2<|rt<|rr (.tuple #[.slice J ((([u]++lw)++(co (cn 65535 ([u]++lw)))).length) K,vI 0])<|?_
 exact cC (y:=(some (([u]++lw)++(co (cn 65535 ([u]++lw)))))) (by unfold fP;(try simp only[hwr,a,b,p,q,bj,reduceIte])<;>rfl) ⟨_,rfl,(b7.weaken L i.size),(aJ i (ut d (ut (aH.mono (S':=(ob (some ⟨E,0,none⟩)++(ob j++[]))) v (aq il aC)) (ut (aH.mono (S':=(ob j++[])) B aC) N (aq il aC)) (aq il aC)) (aq (aU r lr) (aq (aU f lr) aC))))⟩
open Go.RowKit
theorem rY{m:Md}{v:Value}{b:List Int}{w:World}{dir:Int}{F:cF}{E:Int}(hX:ec dir b=(F,E))(h:aX m w v b)(hb:b.length≤1048576) : Calls Tryz.prog 253 #[.int .i64 dir,v] w (fun e w'=>∃ x,e = .returned (.tuple #[.agg (dH F.unit F.tid F.msg x),.int .i64 E])∧(aI true w' (f8 F.msg x).toList F.msg∧(0≤F.unit∧F.unit<256)∧(0≤F.tid∧F.tid<65536))∧aH [] w w'):=by
  refine(vZ h hb).mono ?_
  rintro e w' ⟨cs,rfl,h1,h2⟩
  rw[hX] at h1 ⊢
  obtain⟨c,rfl,h3,h4,h5⟩:=h1
  obtain⟨x,rfl⟩:=mF h3
  exact⟨x,by rw[i2],⟨h3,h4,h5⟩,h2⟩
theorem sR{m:Md}{x:SL}{M:aT}{w:World}{dir u t:Int}(hX:fP dir u t M=none)(h:aI m w (f8 M x).toList M)(hf:bi M)(hu:0≤u∧u<256)(ht:0≤t∧t<65536) : Calls Tryz.prog 262 #[.int .i64 dir,.agg (dH u t M x)] w (fun e w'=>e = .returned (.tuple #[.slice none 0 0,.int .i64 1])∧aH [] w w'):=by
  have:=oZ (dir:=dir) h hf hu ht
  rw[hX] at this
  rw[i2]
  exact this
theorem so{m:Md}{x:SL}{M:aT}{w:World}{dir u t:Int}{l:List Int}(hX:fP dir u t M=some l)(h:aI m w (f8 M x).toList M)(hf:bi M)(hu:0≤u∧u<256)(ht:0≤t∧t<65536) : Calls Tryz.prog 262 #[.int .i64 dir,.agg (dH u t M x)] w (fun e w'=>∃ v,e = .returned (.tuple #[v,.int .i64 0])∧eB w.heap.size w' v l∧aH [] w w'):=by
  have:=oZ (dir:=dir) h hf hu ht
  rw[hX] at this
  rw[i2]
  exact this
end Go.Proofs.YtdkhbcefkfgbdaaGreat
namespace Go.Proofs.YtdkhbcefkfgbdaaGreat
def gl (b:List Int) : Nat→Int
  | 0=>0
  | k+1=>(gl b k+b.getD k 0)%256
def sE (b:List Int) : Int:=gl b b.length
def cE (b:List Int) : Int:=(0-sE b)%256
def ep (b:List Int) : Bool:=decide (0<((b.length:Nat) : Int))&&(cE b==0)
theorem sx(b:List Int) : ∀ k,0≤gl b k∧gl b k<256
  | 0=>by unfold gl;omega
  | k+1=>by unfold gl;omega
def dB (n:Int) : Int:=if n<10 then 48+n else 55+n
def cj (c:Int) : Int:=if 48≤c∧c≤57 then c-48 else if 65≤c∧c≤70 then c-55 else -1
def dp:List Int→List Int
  | []=>[]
  | c :: b=>dB (c/16) :: dB (c%16) :: dp b
def cg:List Int→Option (List Int)
  | []=>some []
  | [_]=>none
  | a :: b :: r=>if cj a<0∨cj b<0 then none else (cg r).map fun l=>(16*cj a+cj b)%256 :: l
theorem ik(h:0≤n∧n<16) : 48≤dB n∧dB n≤70:=by unfold dB;split<;>omega
theorem lf(h:0≤n∧n<16) : cj (dB n)=n:=by
  unfold dB
  split<;>unfold cj
  · rw[if_pos (by omega)];omega
  · rw[if_neg (by omega),if_pos (by omega)];omega
theorem lu(h:0≤cj c) : dB (cj c)=c∧cj c<16:=by
  unfold cj at h ⊢
  split at h
  · rename_i h1
    rw[if_pos h1]
    unfold dB
    rw[if_pos (by omega)]
    omega
  · rename_i h1
    split at h
    · rename_i h2
      rw[if_neg h1,if_pos h2]
      unfold dB
      rw[if_neg (by omega)]
      omega
    · omega
theorem kz(c:Int) : cj c<16∧-1≤cj c:=by unfold cj;split;omega;split<;>omega
theorem eb:∀ b:List Int,(dp b).length=2*b.length
  | []=>rfl
  | c :: b=>by simp only[dp,List.length_cons,eb b];omega
theorem rG:∀ a b:List Int,dp (a++b)=dp a++dp b
  | [],b=>rfl
  | c :: a,b=>by simp only[List.cons_append,dp,rG a b]
theorem oR:∀ b:List Int,(∀ x,x∈b→0≤x∧x<256)→cg (dp b)=some b
  | [],_=>rfl
  | c :: b,h=>by
    have hc:=h c (List.mem_cons_self ..)
    have h1:=lf (n:=c/16) (by omega)
    have h2:=lf (n:=c%16) (by omega)
    simp only[dp,cg]
    rw[h1,h2,if_neg (by omega),oR b fun x hx=>h x (List.mem_cons_of_mem _ hx),show(16*(c/16)+c%16)%256=c from by omega]
    rfl
theorem iJ:∀ {s x:List Int},cg s=some x→s=dp x∧∀ y,y∈x→0≤y∧y<256
  | [],x,h=>by
    injection h with h
    subst h
    exact⟨rfl,fun y hy=>by cases hy⟩
  | [_],x,h=>by cases h
  | a :: b :: r,x,h=>by
    simp only[cg] at h
    split at h
    · cases h
    · rename_i hd
      cases hr:cg r with
      | none=>rw[hr] at h;cases h
      | some l =>
        rw[hr] at h
        injection h with h
        obtain⟨h1,h2⟩:=iJ hr
        have ha:=lu (c:=a) (by omega)
        have hb:=lu (c:=b) (by omega)
        subst h
        refine⟨?_,fun y hy=>?_⟩
        · simp only[dp]
          rw[show(16*cj a+cj b)%256/16=cj a from by omega,show(16*cj a+cj b)%256%16=cj b from by omega,ha.1,hb.1,← h1]
        · rcases List.mem_cons.1 hy with rfl | hy
          · omega
          · exact h2 y hy
theorem uv(h:2*k+1<xs.length)(ha:¬ cj (xs.getD (2*k) 0)<0)(hb:¬ cj (xs.getD (2*k+1) 0)<0) : cg (xs.drop (2*k))=(cg (xs.drop (2*(k+1)))).map fun l=>[(16*cj (xs.getD (2*k) 0)+cj (xs.getD (2*k+1) 0))%256]++l:=by
  have e1:xs.getD (2*k) 0=xs[2*k]:=by rw[List.getD_eq_getElem?_getD,List.getElem?_eq_getElem (by omega)];rfl
  have e2:xs.getD (2*k+1) 0=xs[2*k+1]:=by rw[List.getD_eq_getElem?_getD,List.getElem?_eq_getElem h];rfl
  rw[List.drop_eq_getElem_cons (show 2*k<xs.length by omega),List.drop_eq_getElem_cons h,← e1,← e2]
  simp only[cg]
  rw[if_neg (by omega),show 2*k+1+1=2*(k+1) by omega]
  rfl
theorem wC(h:2*k+1<xs.length)(hd:cj (xs.getD (2*k) 0)<0∨cj (xs.getD (2*k+1) 0)<0) : cg (xs.drop (2*k))=none:=by
  have e1:xs.getD (2*k) 0=xs[2*k]:=by rw[List.getD_eq_getElem?_getD,List.getElem?_eq_getElem (by omega)];rfl
  have e2:xs.getD (2*k+1) 0=xs[2*k+1]:=by rw[List.getD_eq_getElem?_getD,List.getElem?_eq_getElem h];rfl
  rw[List.drop_eq_getElem_cons (show 2*k<xs.length by omega),List.drop_eq_getElem_cons h,← e1,← e2]
  simp only[cg]
  rw[if_pos hd]
theorem ls:∀ {xs:List Int},xs.length%2≠0→cg xs=none
  | [],h=>by simp at h
  | [_],_=>rfl
  | a :: b :: r,h=>by
    simp only[cg]
    split
    · rfl
    · rw[ls (by simp only[List.length_cons] at h;omega)]
      rfl
theorem lE{x:List Int}(h:cg s=some x) : s.length=2*x.length:=by
  obtain⟨h1,_⟩:=iJ h
  rw[h1,eb]
theorem pl(h:cg xs=(cg (xs.drop (2*k))).map fun l=>L++l)(h1:¬ 2*k<xs.length) : cg xs=some L:=by
  rw[List.drop_eq_nil_of_le (by omega)] at h
  rw[h]
  simp[cg]
theorem nn(h:cg xs=(cg (xs.drop (2*k))).map fun l=>L++l)(h2:2*k+1<xs.length)(ha:¬ cj (xs.getD (2*k) 0)<0)(hb:¬ cj (xs.getD (2*k+1) 0)<0) : cg xs=(cg (xs.drop (2*(k+1)))).map fun l=>(L++[(16*cj (xs.getD (2*k) 0)+cj (xs.getD (2*k+1) 0))%256])++l:=by
  rw[h,uv h2 ha hb]
  cases cg (xs.drop (2*(k+1))) with
  | none=>rfl
  | some l=>simp
theorem sG(h:cg xs=(cg (xs.drop (2*k))).map fun l=>L++l)(h2:2*k+1<xs.length)(hd:cj (xs.getD (2*k) 0)<0∨cj (xs.getD (2*k+1) 0)<0) : cg xs=none:=by
  rw[h,wC h2 hd]
  rfl
theorem pE(b:List Int)(k:Nat)(h:k<b.length) : dp (b.take (k+1))=(dp (b.take k)++[dB (b.getD k 0/16)])++[dB (b.getD k 0%16)]:=by
  rw[List.take_succ_eq_append_getElem h,rG,List.getD_eq_getElem?_getD,List.getElem?_eq_getElem h]
  simp[dp]
open Go.RowKit
abbrev dz (xs:List Int) : Prop:=∀ x,x∈xs→0≤x∧x<256
theorem qz(h:0≤x∧x<256) : ((UInt8.ofNat x.toNat).toNat:Int)=x:=by
  simp only[UInt8.toNat_ofNat']
  omega
theorem jV{j:Nat}(hj:j<xs.length)(hs:j<(strOfNums xs).size) : (strOfNums xs)[j]=UInt8.ofNat (xs.getD j 0).toNat:=by
  show(strOfNums xs).data[j]=_
  simp[strOfNums,List.getD_eq_getElem?_getD,List.getElem?_eq_getElem hj]
theorem kC{x ix:Operand}{t:TypeId}  {k:IntKind}  (j:Nat)(ho:o.op = .index t x ix)(ht:P.underlying t=some .string)(hx:ev x = .string (strOfNums xs))(hi:ev ix = .int k i)(hr:dz xs)(hj:i=(j:Int))(hlt:j<xs.length) : (execOp ev o).run P w = .ok (.value (.int .u8 (xs.getD j 0))) w:=by
  subst hj
  have hs:j<(strOfNums xs).size:=by rw[strOfNums_size];exact hlt
  have h:=run_index_string (P:=P) w t (strOfNums xs) k (j:Int) ht
  rw[dif_pos (by omega)] at h
  have hg:xs.getD j 0∈xs:=by
    rw[List.getD_eq_getElem?_getD,List.getElem?_eq_getElem hlt]
    exact List.getElem_mem hlt
  unfold execOp
  simp only[ho,hx,hi,Sem.run_bind,h,Result.andThen,Sem.run_pure]
  have e:((strOfNums xs)[((j:Nat) : Int).toNat]'(by simpa using hs))=UInt8.ofNat (xs.getD j 0).toNat:=by
    simp only[Int.toNat_natCast]
    exact jV hlt hs
  rw[e,qz (hr _ hg)]
theorem gS(xs:List Int)(a b:Nat)(hb:b≤xs.length) : (strOfNums xs).extract a b=strOfNums ((xs.take b).drop a):=by
  apply ByteArray.ext
  rw[ByteArray.data_extract]
  apply Array.toList_inj.1
  rw[Array.toList_extract]
  simp[strOfNums,List.extract,List.map_drop,List.map_take,List.drop_take]
theorem pu{x:Operand}{t:TypeId}  {k:IntKind}  (j:Nat)(ho:o.op = .slice t x (some y) none none)(ht:P.underlying t=some .string)(hx:ev x = .string (strOfNums xs))(hy:ev y = .int k i)(hj:i=(j:Int))(hlt:j≤xs.length) : (execOp ev o).run P w = .ok (.value (.string (strOfNums (xs.drop j)))) w:=by
  subst hj
  have hu:(underlying t).run P w = .ok .string w:=run_underlying ht w
  have h:=run_slice_string_l (P:=P) w t (strOfNums xs) ht k (j:Int) (by omega) (by rw[strOfNums_size];omega)
  rw[strOfNums_size,gS _ _ _ (Nat.le_refl _),List.take_length,Int.toNat_natCast] at h
  unfold execOp
  simp only[ho,Option.map_some,Option.map_none,hx,hy,Instr.sliceAt,Sem.run_bind,hu,h,Result.andThen,Sem.run_pure]
theorem wT{x:Operand}{t:TypeId}  {k:IntKind}  (j:Nat)(ho:o.op = .slice t x none (some y) none)(ht:P.underlying t=some .string)(hx:ev x = .string (strOfNums xs))(hy:ev y = .int k i)(hj:i=(j:Int))(hlt:j≤xs.length) : (execOp ev o).run P w = .ok (.value (.string (strOfNums (xs.take j)))) w:=by
  subst hj
  have hu:(underlying t).run P w = .ok .string w:=run_underlying ht w
  have h:=run_slice_string_h (P:=P) w t (strOfNums xs) ht k (j:Int) (by omega) (by rw[strOfNums_size];omega)
  rw[Int.toNat_natCast,gS _ _ _ hlt,List.drop_zero] at h
  unfold execOp
  simp only[ho,Option.map_some,Option.map_none,hx,hy,Instr.sliceAt,Sem.run_bind,hu,h,Result.andThen,Sem.run_pure]
theorem oy(xs ys:List Int) : strOfNums xs++strOfNums ys=strOfNums (xs++ys):=by
  apply ByteArray.ext
  simp[strOfNums,ByteArray.data_append]
theorem jp{x:Operand}{t t':TypeId}{a b:ByteArray}  (ho:o.op = .binOp .add t x y t')(hx:ev x = .string a)(hy:ev y = .string b)(ha:a=strOfNums xs)(hb:b=strOfNums ys)(hl:xs.length+ys.length≤1048576) : (execOp ev o).run P w = .ok (.value (.string (strOfNums (xs++ys)))) w:=by
  subst ha hb
  have hg:eqGuard .add t x y (.string (strOfNums xs)) (.string (strOfNums ys))=pure ():=rfl
  unfold execOp
  simp only[ho,hx,hy,hg,Sem.run_bind,Sem.run_pure,Result.andThen]
  have h:(binOp .add t (.string (strOfNums xs)) (.string (strOfNums ys))).run P w = .ok (.string (strOfNums (xs++ys))) w:=by
    show(Op.stringOp .add _ _).run P w=_
    unfold Op.stringOp
    rw[← oy]
    have:¬ ((((strOfNums xs).size+(strOfNums ys).size:Nat) : Int) > IntKind.i64.max):=by
      rw[strOfNums_size,strOfNums_size]
      show ¬ (((xs.length+ys.length:Nat) : Int) > 9223372036854775807)
      omega
    dsimp only
    rw[if_neg this]
    rfl
  rw[h]
theorem gD(h:dz xs)(k:dz ys) : dz (xs++ys):=fun x hx=>by
  rcases List.mem_append.1 hx with h1|h1
  · exact h x h1
  · exact k x h1
theorem ly(h:dz xs)(j:Nat) : dz (xs.drop j):=fun x hx=>h x (List.mem_of_mem_drop hx)
theorem oV(h:dz xs)(j:Nat) : dz (xs.take j):=fun x hx=>h x (List.mem_of_mem_take hx)
theorem Ae(hx:dz xs)(hy:dz ys) : ((strOfNums xs).toList==(strOfNums ys).toList)=decide (xs=ys):=by
  have e:∀ zs:List Int,(strOfNums zs).toList=zs.map fun n=>UInt8.ofNat n.toNat:=fun zs=>by
    rw[ByteArray.toList_eq]
    rfl
  rw[e,e]
  by_cases h:xs=ys
  · subst h;simp
  · rw[decide_eq_false h,beq_eq_false_iff_ne]
    exact fun k=>h (ln xs ys hx hy k)
def hH (base:Nat)(w:World)(v:Value)(xs:List Int) : Prop:=∃ g cap cur n,v = .slice (some ⟨g,0,none⟩) xs.length cap∧base≤g∧w.heap[g]? = some (.cells cur 5 (n,n+1))∧xs.length≤n∧xs.length≤cap∧cap≤maxLen∧cur.toList.take xs.length=xs.map (Value.int .u8)∧dz xs
theorem hH.rd(h:hH base w v xs) : aX true w v xs:=by
  obtain⟨g,cap,cur,n,rfl,hb,hh,h1,h2,h3,h4,h5⟩:=h
  refine⟨_,_,rfl,h2,h3,(fun hA=>by cases hA),fun hp=>⟨g,0,cur,_,_,rfl,hh,(fun _=>⟨rfl,Nat.zero_le _⟩),fun j x hj=>?_⟩⟩
  refine⟨[.int .u8 x],rfl,⟨rfl,h5 x (List.mem_of_getElem? hj)⟩,fun i u hi=>?_⟩
  cases i with
  | succ i=>simp at hi
  | zero =>
    have hi:Value.int .u8 x=u:=by simpa using hi
    subst hi
    have h6:(xs.map (Value.int .u8))[j]? = some (.int .u8 x):=by rw[List.getElem?_map,hj];rfl
    rw[← h4,List.getElem?_take] at h6
    split at h6
    · simpa using h6
    · cases h6
theorem hH.ge{g m c:Nat}   (h:hH base w (.slice (some ⟨g,0,none⟩) m c) xs) : base≤g:=by
  obtain⟨g',cap,cur,n,hv,hb,_⟩:=h
  injection hv with e1 _ _
  injection e1 with e1
  injection e1 with e1 _
  rw[e1]
  exact hb
theorem hH.shape(h:hH base w v xs) : ∃ g cp,v = .slice (some ⟨g,0,none⟩) xs.length cp:=by
  obtain⟨g,cap,cur,n,hv,_⟩:=h
  exact⟨g,cap,hv⟩
theorem qU{src dst:TypeId}  (hs:P.underlying src=some .string)(hd:P.underlying dst=some (.slice e))(he:P.underlying e=some (.int .u8))(hte:e=5)(hr:dz xs)(hl:xs.length≤1048576) :
    ∃ cp w',(convert src dst (.string (strOfNums xs))).run P w = .ok (.slice (some ⟨w.heap.size,0,none⟩) xs.length cp) w'∧hH w.heap.size w' (.slice (some ⟨w.heap.size,0,none⟩) xs.length cp) xs∧aH [] w w':=by
  subst hte
  have h:=Lib.run_convert_string_bytes (P:=P) w src dst _ (strOfNums xs) hs hd he
  rw[strOfNums_size] at h
  refine⟨_,_,h,⟨_,_,_,_,rfl,Nat.le_refl _,Lib.bytesWorld_at_new w _ (strOfNums xs),?_,?_,?_,?_,hr⟩,?_⟩
  · simp[Lib.bytesCells,strOfNums]
  · exact grownCap_ge ..
  · exact grownCap_le_maxLen _ _ _ _ (by unfold maxLen;omega)
  · simp only[Lib.bytesCells]
    rw[Array.toList_append,List.take_append_of_le_length (by simp[strOfNums])]
    rw[List.take_of_length_le (by simp[strOfNums])]
    simp only[strOfNums,Array.toList_map,List.map_map]
    apply List.map_congr_left
    intro x hx
    show Value.int .u8 _=_
    rw[qz (hr x hx)]
  · exact⟨rfl,rfl,rfl,by rw[Lib.bytesWorld_size];omega,fun k hk _=>Lib.bytesWorld_at_old w _ _ k hk⟩
section
variable {P:Program}{n:Nat}{D:List Deferred}{F:Fr}{w:World}{K:Fr→World→Prop}{Q:Exit→Act→World→Prop}{d:Option Tmp}{t:TypeId}{s:String}{af:Array Edge}{gu:Option (Nat × Bool)}
theorem qh{a:Act}{o:Oper}{N:Option Tmp}{K:Act→World→Prop}{w1:World}(v:Value)(hN:o.dst=N)(hr:(execOp a.eval o).run P w = .ok (.value v) w1)(h:K (a.put N v) w1) : OW P o a w K Q:=by
  refine OW.mk ?_
  subst hN
  unfold Oper.wp
  rw[hr]
  exact h
theorem EQ{src dst:TypeId}{x:Operand}{xs:List Int}(hs:P.underlying src=some .string)(hd:P.underlying dst=some (.slice 5))(he:P.underlying 5=some (.int .u8))(hr:dz xs)(hl:xs.length≤1048576)
    (h:∀ A cp w',hH w.heap.size w' (.slice A xs.length cp) xs→aH [] w w'→K (pt d (.slice A xs.length cp) F) w') (hx:fp F x=some (.string (strOfNums xs)):=by kernel_rfl) (hk:gw n d=true:=by kernel_rfl) : OG P ⟨d,.convert src dst x,t,s,af,gu⟩ n D F w K Q:=by
  obtain⟨cp,w',h1,h2,h3⟩:=qU (P:=P) (w:=w) hs hd he rfl hr hl
  refine⟨fun a ha K' hK=>qh _ rfl (w1:=w') ?_ (hK _ _ _ (h _ _ _ h2 h3) (ha.put hk))⟩
  have hx':=ha.ev hx
  unfold execOp
  simp only[hx',Sem.run_bind,h1,Result.andThen,Sem.run_pure]
theorem Ex{ty:TypeId}{x:Operand}{sv:ByteArray}(hs:P.underlying ty=some .string)(h:∀ g w',w.heap.size≤g→w'.heap[g]? = some (.stringIter sv 0)→aH [] w w'→K (pt d (.pointer (some ⟨g,0,none⟩)) F) w')
    (hx:fp F x=some (.string sv):=by kernel_rfl) (hk:gw n d=true:=by kernel_rfl) : OG P ⟨d,.range ty x,t,s,af,gu⟩ n D F w K Q:=by
  refine⟨fun a ha K' hK=>qh (.pointer (some ⟨w.heap.size,0,none⟩)) rfl (w1:=w.alloc (.stringIter sv 0)) ?_ (hK _ _ _ (h _ _ (Nat.le_refl _) (eX _ _) ((aH.refl _ _).alloc _)) (ha.put hk))⟩
  have hx':=ha.ev hx
  unfold execOp
  simp only[hx',Sem.run_bind,run_range_string w ty sv hs,Result.andThen,Sem.run_pure]
  rfl
theorem wb{xs:List Int}(hr:dz xs)(h0:0<xs.length) : ((((Utf8.decode (strOfNums xs) 0).1:Nat) : Int)=58↔xs.getD 0 0=58):=by
  have hs:0<(strOfNums xs).size:=by rw[strOfNums_size];exact h0
  have hm:xs.getD 0 0∈xs:=by
    rw[List.getD_eq_getElem?_getD,List.getElem?_eq_getElem h0]
    exact List.getElem_mem h0
  have hb:=hr _ hm
  have h1:((strOfNums xs).get! 0).toNat=(xs.getD 0 0).toNat:=by
    have e:(strOfNums xs).get! 0=(strOfNums xs)[0]:=by
      show(strOfNums xs).data[0]! = _
      rw[getElem!_pos (strOfNums xs).data 0 hs]
      rfl
    rw[e,jV h0 hs]
    simp only[UInt8.toNat_ofNat']
    omega
  unfold Utf8.decode
  simp only[Nat.zero_add,h1,Utf8.runeError]
  split
  · omega
  · split
    · split
      · rename_i h2 h3 h4;simp only;omega
      · simp only;omega
    · split
      · split
        · rename_i h2 h3 h4 h5;simp only[Bool.and_eq_true,decide_eq_true_eq] at h5;simp only;omega
        · simp only;omega
      · split
        · split
          · rename_i h2 h3 h4 h5 h6;simp only[Bool.and_eq_true,decide_eq_true_eq] at h6;simp only;omega
          · simp only;omega
        · simp only;omega
theorem Ff{x:Operand}{xs:List Int}{r:Nat}(hr:dz xs)(h0:0<xs.length)(B:w.heap[r]? = some (.stringIter (strOfNums xs) 0))(h:∀ c w',(c=58↔xs.getD 0 0=58)→aH [r] w w'→K (pt d (.tuple #[.bool true,.int .i64 0,.int .i32 c]) F) w')
    (hx:fp F x=some (.pointer (some ⟨r,0,none⟩)):=by kernel_rfl) (hk:gw n d=true:=by kernel_rfl) : OG P ⟨d,.next x true,t,s,af,gu⟩ n D F w K Q:=by
  have hlt:=au B
  have hrun:=Lib.run_next_any_at (P:=P) w r (strOfNums xs) 0 t B (by rw[strOfNums_size];exact h0)
  refine⟨fun a ha K' hK=>qh _ rfl (w1:=w.iterAt r (strOfNums xs) (0+(Utf8.decode (strOfNums xs) 0).2)) ?_ (hK _ _ _ (h (((Utf8.decode (strOfNums xs) 0).1:Nat) : Int) _ (wb hr h0) ?_) (ha.put hk))⟩
  · have hx':=ha.ev hx
    unfold execOp
    simp only[hx',Sem.run_bind,hrun,Result.andThen,Sem.run_pure]
    rfl
  · refine⟨rfl,rfl,rfl,?_,fun k hk hn=>?_⟩
    · simp[World.iterAt]
    · have:r≠k:=fun e=>hn (by simp[e])
      simp[World.iterAt,Array.getElem?_setIfInBounds,this]
end
open Go.RowKit
theorem As{w:World}{g:Nat}{c s:Int}(hg:w.heap[g]? = some (.cells #[vB s] 5 (0,0))) : Calls Tryz.prog 183 #[vB c,vP g 0] w (fun e w'=>e = .returned (.tuple #[])∧w'.heap[g]? = some (.cells #[vB ((s+c)%256)] 5 (0,0))∧aH [g] w w'):=by
 exact en 6 Tryz.func183 rfl<|go<|aE hg 0<|Pl 2<|L0<|cm hg 0 #[vB ((s+c)%256)] fun d a b=>nl<|rm (.tuple #[])<|⟨rfl,a,b⟩
theorem vn{m:Md}{A:Option Addr}{cp:Nat}{b:List Int}{w0 w:World}{g:Nat}(hu0:aH [] w0 w)(hg0:w0.heap.size≤g)(hsl:aX m w0 (.slice A b.length cp) b)(hg:w.heap[g]? = some (.cells #[vB (gl b 0)] 5 (0,0))) :
    Calls Tryz.prog 182 #[.slice A b.length cp,.func (.func 183) #[] #[vP g 0]] w (fun e w'=>e = .returned (.tuple #[])∧w'.heap[g]? = some (.cells #[vB (sE b)] 5 (0,0))∧aH [] w0 w'∧w.heap.size≤w'.heap.size):=by
 have hln:=aS.len hsl
 refine en 16 Tryz.func182 rfl<|aD 3<|bk<|?_
 refine je (fun x=>[(1,.func (.func 183) #[] #[vP g 0]),(6,.slice A b.length cp),(7,vI ((b.length:Nat) : Int)),(8,vI ((x:Nat) : Int))]) (fun(x:Nat) w'=>aH [] w0 w'∧w.heap.size≤w'.heap.size∧w'.heap[g]? = some (.cells #[vB (gl b x)] 5 (0,0))∧(x≤b.length)) (fun x=>b.length-x) 0 ⟨hu0,lr,hg,(by(try dsimp only);omega)⟩ ?_
 rintro k j ⟨a,f,l,n⟩
 refine ji [(1,.func (.func 183) #[] #[vP g 0]),(6,.slice A b.length cp),(7,vI ((b.length:Nat) : Int)),(8,vI ((k:Nat) : Int))] ?_
 have h:j.heap[g]? = some (.cells #[vB (gl b k)] 5 (0,0)):=l
 have y:k≤b.length:=n
 refine aD 1<|sq<|cb ((decide (((k:Nat) : Int)<((b.length:Nat) : Int)))) (fun d=>?_) (fun d=>?_)
 have o:=of_decide_eq_true d
 refine bo<|sq<|bk<|sg<|?_
 refine ft (aX.at_ (aX.old hsl a) k (by omega)) fun q r s t z=>L0<|l9 b.length k s (by omega)<|L0<|eH (p:=⟨q,r+k,none⟩) (v:=vB (b.getD k 0)) t<|ah 1<|go<|Pl 2<|L0<|i8 #[] #[vP g 0] (args:=#[vB (b.getD k 0),vP g 0])<|m2 (As (c:=(b.getD k 0)) h) fun B u i=>nl<|bn<|tn<|go<|bq (((k:Nat) : Int)+1)<|?_
 refine Pl 1<|nl<|?_
 exact gL (k+1) ⟨(ud a i hg0),(le f i.size),u,(by(try dsimp only);omega)⟩ (by omega)
 have o:=of_decide_eq_false d
 refine xt<|tx<|tx<|bx<|rm (.tuple #[])<|?_
 have hk:k=b.length:=by omega
 subst hk
 exact⟨rfl,h,a,f⟩
theorem uk{m:Md}{A:Option Addr}{cp:Nat}{b:List Int}{w:World}(hsl:aX m w (.slice A b.length cp) b) :
    Calls Tryz.prog 116 #[.slice A b.length cp] w (cc (vB (cE b)) w):=by
 refine en 9 Tryz.func116 rfl<|ak 1<|ng<|aK #[vB 0] fun h i a c d=>L0<|cm c 0 #[vB 0] fun j eP e=>aM 2<|?_
 exact ay<|m3 (vn (ud d e a) a hsl eP) fun k f g l=>ng<|aE f 0<|ah 2<|rt<|rr (vB ((0-(sE b))%256))<|⟨rfl,g⟩
theorem oU{m:Md}{v:Value}{b:List Int}{w:World}(h:aX m w v b) : Calls Tryz.prog 116 #[v] w (cc (.int .u8 (cE b)) w):=by
  obtain⟨A,cp,rfl,_,_⟩:=h.shape
  exact uk h
theorem tA{m:Md}{A:Option Addr}{cp:Nat}{b:List Int}{w:World}(hsl:aX m w (.slice A b.length cp) b) :
    Calls Tryz.prog 82 #[.slice A b.length cp] w (cc (.bool (ep b)) w):=by
 refine en 11 Tryz.func82 rfl<|ak 1<|aM 4<|bl 6 ((decide (0<(b.length:Int)))) (fun a=>?_) (fun a=>?_)
 have c:=of_decide_eq_true a
 refine Pl 1<|L1<|Oc (args:=#[.slice A b.length cp])<|m1 (oU hsl) fun e d=>ah 3<|rt<|rr (.bool ((cE b)==0))<|?_
 have hs:ep b=((cE b)==0):=by unfold ep;(try simp only[a,bj]);all_goals rfl
 rw[hs]
 exact⟨rfl,d⟩
 have c:=of_decide_eq_false a
 refine ah 5<|rt<|rr (.bool false)<|?_
 have hs:ep b=false:=by unfold ep;(try simp only[a,bj]);all_goals rfl
 rw[hs]
 exact⟨rfl,(aH.refl [] _)⟩
theorem xd{m:Md}{v:Value}{b:List Int}{w:World}(h:aX m w v b) : Calls Tryz.prog 82 #[v] w (cc (.bool (ep b)) w):=by
  obtain⟨A,cp,rfl,_,_⟩:=h.shape
  exact tA h
open Go.RowKit
theorem sw:∃ j,Tryz.prog.info? 251=some j∧j.size=2:=Option.map_eq_some_iff.1 (show(Tryz.prog.info? 251).map (·.size)=some 2 by kernel_rfl)
theorem qa(b:Nat)(w:World)(h0:w.cell? ⟨b,0,none⟩=some (.pointer none))(hsh:w.shape? b=some (251,2))(hfz:w.frozen? ⟨b,0,none⟩=false) :
    Calls Tryz.prog 270 #[.pointer (some ⟨b,0,none⟩)] w fun e w'=>e = .returned (.tuple #[])∧w'=w.setCell ⟨b,0,none⟩ (.pointer (some ⟨b,0,none⟩)):=by
  obtain⟨j,hj,hjs⟩:=sw
  go_enter Tryz.func270,Tryz.ntmps270
  go_wp2
  rw[Lib.run_to_unsafe w ⟨b,0,none⟩ Tryz.underlying249 Tryz.underlying255 hj (by rw[hjs];decide) hsh (Nat.zero_lt_succ 1)]
  simp only[Result.andThen]
  rw[Oper.upon_value]
  go_wp2
  rw[run_callFunc_extern Tryz.func271 (by kernel_rfl) (by kernel_rfl) (by kernel_rfl) (e:=Extern.AbiNoEscape.same) (by kernel_rfl)]
  rw[Lib.run_noEscape]
  simp only[Result.andThen]
  rw[Oper.upon_value]
  go_wp2
  rw[Lib.run_from_unsafe w ⟨b,0,none⟩ Tryz.underlying255 Tryz.underlying249 hj hsh (by kernel_rfl)]
  simp only[Result.andThen]
  rw[Oper.upon_value]
  go_wp2
  go_end0
  exact⟨rfl,rfl⟩
theorem rg(b:Nat)(w:World)(h0:w.cell? ⟨b,0,none⟩=some (.pointer (some ⟨b,0,none⟩))) :
    Calls Tryz.prog 270 #[.pointer (some ⟨b,0,none⟩)] w fun e w'=>e = .returned (.tuple #[])∧w'=w:=by
  obtain⟨j,hj,_⟩:=sw
  go_enter Tryz.func270,Tryz.ntmps270
  go_wp2
  rw[Lib.run_neq_ptr_same w _ Tryz.underlying249 hj]
  go_wp2
  go_end0
  exact⟨rfl,rfl⟩
theorem tv{w:World}{b:Nat}{p v:Value}(hp:p = .pointer none∨p = .pointer (some ⟨b,0,none⟩))(hb:w.heap[b]? = some (.cells #[p,v] 251 (0,0))) :
    Calls Tryz.prog 270 #[.pointer (some ⟨b,0,none⟩)] w fun e w'=>e = .returned (.tuple #[])∧w'.heap[b]? = some (.cells #[.pointer (some ⟨b,0,none⟩),v] 251 (0,0))∧aH [b] w w':=by
  have h0:w.cell? ⟨b,0,none⟩=some p:=(bF hb 0).trans rfl
  rcases hp with rfl|rfl
  · refine(qa b w h0 (by simp[World.shape?,hb]) (fJ hb 0)).mono ?_
    rintro e w' ⟨rfl,rfl⟩
    exact⟨rfl,(gV hb 0 _).trans rfl,(aH.refl _ _).setCell (Or.inl (by simp)) _⟩
  · refine(rg b w h0).mono ?_
    rintro e w' ⟨rfl,rfl⟩
    exact⟨rfl,hb,aH.refl _ _⟩
def ns:Array Value:=#[.int .u8 48,.int .u8 49,.int .u8 50,.int .u8 51,.int .u8 52,.int .u8 53,.int .u8 54,.int .u8 55,.int .u8 56,.int .u8 57,.int .u8 65,.int .u8 66,.int .u8 67,.int .u8 68,.int .u8 69,.int .u8 70]
theorem ux:∀ {j:Nat},j<16→ns[j]? = some (.int .u8 (dB (j:Int)))
  | 0,_ | 1,_ | 2,_ | 3,_ | 4,_ | 5,_ | 6,_ | 7,_ | 8,_ | 9,_ | 10,_ | 11,_ | 12,_ | 13,_ | 14,_ | 15,_=>rfl
  | n+16,h=>by omega
theorem s7{i:Int}(h:0≤i∧i<16) : ns[i.toNat]? = some (.int .u8 (dB i)):=by
  rw[ux (by omega),Int.toNat_of_nonneg h.1]
theorem zH{P:Program}{w:World}{ev:Operand→Value}{o:Oper}{x ix:Operand}{t e:TypeId}{k:IntKind}{i:Int}(j:Nat)(ho:o.op = .index t x ix)(ht:P.underlying t=some (.array 16 e))(hi:(P.info? e).map (·.size)=some 1)(hr:∀ w,(isAgg e).run P w = .ok false w)(hx:ev x = .agg ns)(hy:ev ix = .int k i)(hj:i=(j:Int))(hlt:j<16) : (execOp ev o).run P w = .ok (.value (.int .u8 (dB (j:Int)))) w:=by
  subst hj
  obtain⟨i0,hi0,hs⟩:=Option.map_eq_some_iff.1 hi
  have h:=ux hlt
  unfold execOp
  have h2:(0:Int)≤(j:Int)∧(j:Int)<16:=by omega
  simp[ho,hx,hy,Instr.index,asIntOf,run_underlying ht,Result.andThen,h2,sizeOf,typeInfo,hi0,hs,part,h,hr,hlt]
def Cb (B b:Nat)(L:List Int)(w:World) : Prop:=∃ p A cp,w.heap[b]? = some (.cells #[p,.slice A L.length cp] 251 (0,0))∧(p = .pointer none∨p = .pointer (some ⟨b,0,none⟩))∧eB B w (.slice A L.length cp) L
theorem Cb.new{B b:Nat}{w:World}(hb:w.heap[b]? = some (.cells #[.pointer none,.slice none 0 0] 251 (0,0))) : Cb B b [] w:=⟨_,_,_,hb,.inl rfl,b7.nil ..⟩
def BA:Go.Shelf.Ren:=⟨fun | 169=>269 | n=>n,fun | 70=>249 | 9=>9 | 0=>0 | 72=>251 | 37=>27 | 127=>240 | 3=>3 | 5=>5 | n=>n,fun | n=>n⟩
theorem DQ:Go.Proofs.Lays.n169 Tryz.prog BA:={
  mixed:=by kernel_rfl
  f169:=Tryz.func269.trans (congrArg some (by kernel_rfl))
  t0:=Tryz.underlying0
  a0:=Tryz.isAgg0
  z0:=Tryz.sizeOf0
  v0:=Tryz.zeroValue0
  t3:=Tryz.underlying3
  a3:=Tryz.isAgg3
  z3:=Tryz.sizeOf3
  v3:=Tryz.zeroValue3
  t9:=Tryz.underlying9
  a9:=Tryz.isAgg9
  z9:=Tryz.sizeOf9
  v9:=Tryz.zeroValue9
  t37:=Tryz.underlying27
  a37:=Tryz.isAgg27
  z37:=Tryz.sizeOf27
  v37:=Tryz.zeroValue27
  t70:=Tryz.underlying249
  a70:=Tryz.isAgg249
  z70:=Tryz.sizeOf249
  v70:=Tryz.zeroValue249
  t72:=Tryz.underlying251
  a72:=Tryz.isAgg251
  z72:=Tryz.sizeOf251
  v72:=Tryz.zeroValue251
  t127:=Tryz.underlying240
  a127:=Tryz.isAgg240
  z127:=Tryz.sizeOf240
  v127:=Tryz.zeroValue240 }
theorem Dc:Builder.Extra Tryz.prog BA:={
  sizeBuilder:=by kernel_rfl
  liesBuilder:=by kernel_rfl
  t5:=Tryz.underlying5
  a5:=Tryz.isAgg5
  z5:=Tryz.sizeOf5
  v5:=Tryz.zeroValue5
  infoByte:=by kernel_rfl
  cellsByte:=by kernel_rfl
  sizeByte:=by kernel_rfl
  neB5:=by decide }
theorem wM{L:List Int}(h:dz L) : Lib.byteCells (L.map fun n=>UInt8.ofNat n.toNat)=L.map (Value.int .u8):=by
  unfold Lib.byteCells
  rw[List.map_map]
  apply List.map_congr_left
  intro x hx
  show Value.int .u8 _=_
  rw[qz (h x hx)]
theorem tH{w0 w:World}{b:Nat}{L:List Int}(hu:aH [] w0 w)(hg:w0.heap.size≤b)(h:Cb w0.heap.size b L w)(hr:dz L) :
    Calls Tryz.prog 269 #[.pointer (some ⟨b,0,none⟩)] w fun e w'=>e = .returned (.string (strOfNums L))∧aH [] w0 w':=by
  obtain⟨p,A,cp,hb,hp,ho⟩:=h
  have h1:=fD (enc:=Value.int .u8) (fun _ _ _ h=>h.1) ho
  have h2:Lib.BuilderAt 251 5 w0.heap.size b p (Lib.byteCells (L.map fun n=>UInt8.ofNat n.toNat)) w:=by
    rw[wM hr]
    refine⟨hg,_,hb,by rw[List.length_map];exact h1,fun hq=>?_⟩
    rcases h1.2 with⟨hv,_⟩|⟨g',cap,cur,hv,_,hh,_⟩
    · rw[hv] at hq;cases hq
    · rw[hv] at hq
      have e:g'=b:=by simpa [Value.ownBlock] using hq
      subst e
      rw[hb] at hh
      injection hh with hh
      injection hh with _ h5 _
      exact absurd h5 (by decide)
  have h3:Lib.IsBuilder (BA.t 72) (BA.t 5) w0.heap.size b (Lib.byteCells (L.map fun n=>UInt8.ofNat n.toNat)) w:=by
    rcases hp with rfl|rfl
    · exact Or.inl h2
    · exact Or.inr h2
  refine(Any.Builder_String_any DQ Dc _ _ _ _ h3 hu.size).mono ?_
  rintro e w' ⟨rfl,hbel⟩
  exact⟨rfl,hu.os▸hbel.os,hu.tape▸hbel.tape,hu.output▸hbel.output,Nat.le_trans hu.size hbel.size,fun k hk hn=>(hbel.block k hk).trans (hu.block k hk hn)⟩
open Go.RowKit
theorem nQ{w:World}:Calls Tryz.prog 181 #[] w (cc (.agg ns) w):=by
 refine en 2 Tryz.func181 rfl<|sg<|aK #[vB 0,vB 0,vB 0,vB 0,vB 0,vB 0,vB 0,vB 0,vB 0,vB 0,vB 0,vB 0,vB 0,vB 0,vB 0,vB 0] fun e f a b c=>aM 1<|aG b #[vB 48,vB 49,vB 50,vB 51,vB 52,vB 53,vB 54,vB 55,vB 56,vB 57,vB 65,vB 66,vB 67,vB 68,vB 69,vB 70] fun g eP d=>sI<|CW eP<|?_
 exact⟨rfl,(ud c d a)⟩
theorem y1{c:Int}{n:Nat}(h:∀ j:Nat,j<n→dB (j:Int)≠c)(q:(dB ((n:Nat) : Int)==c)=false) : ∀ j:Nat,j<n+1→dB (j:Int)≠c:=fun j hj=>by
  by_cases e:j=n
  · subst e;simpa using q
  · exact h j (by omega)
theorem CU{c:Int}{n:Nat}(hn:n<16)(q:(dB ((n:Nat) : Int)==c)=true) : cj c=((n:Nat) : Int):=by
  have e:dB ((n:Nat) : Int)=c:=by simpa using q
  rw[← e]
  exact lf (by omega)
theorem yv{c:Int}{n:Nat}(hn:n=16)(h:∀ j:Nat,j<n→dB (j:Int)≠c) : cj c = -1:=by
  by_cases e:0≤cj c
  · have h1:=lu e
    exact absurd (by rw[Int.toNat_of_nonneg e];exact h1.1) (h (cj c).toNat (by omega))
  · have:=kz c
    omega
theorem p8{w:World}{c:Int}(hc:0≤c∧c<256) : Calls Tryz.prog 115 #[vB c] w (cc (vI (cj c)) w):=by
 refine en 15 Tryz.func115 rfl<|aD 1<|sq<|sg<|ay<|m1 (@nQ w) fun g h=>ah 1<|bk<|?_
 refine je (fun x=>[(0,vB c),(5,.agg ns),(6,vI ((x:Nat) : Int))]) (fun(x:Nat) w'=>aH [] g w'∧(x≤16)∧(∀ j:Nat,j<x→dB (j:Int)≠c)) (fun x=>16-x) 0 ⟨aH.refl _ _,(by(try dsimp only);omega),(fun j hj=>by omega)⟩ ?_
 rintro n q ⟨d,l,m⟩
 refine ji [(0,vB c),(5,.agg ns),(6,vI ((n:Nat) : Int))] ?_
 have r:n≤16:=l
 have e:∀ j:Nat,j<n→dB (j:Int)≠c:=m
 refine aD 1<|sq<|?_
 have f:=aJ h d
 refine cb ((decide (((n:Nat) : Int)<16))) (fun b=>?_) (fun b=>?_)
 have o:=of_decide_eq_true b
 refine bo<|sq<|bk<|ak 1<|L0<|gt (vB (dB ((n:Nat) : Int))) (zH (k:=.i64) (i:=((n:Nat) : Int)) n rfl Tryz.underlying204 (by kernel_rfl) Tryz.isAgg5 (by kernel_rfl) (by kernel_rfl) rfl (by omega))<|Pl 2<|aM 3<|nl<|?_
 refine tn<|cb (((dB ((n:Nat) : Int))==c)) (fun a=>?_) (fun a=>?_)
 have p:=ag a
 refine aD 2<|rt<|br<|tr<|tr<|br<|tr<|rr (vI ((n:Nat) : Int))<|?_
 have hs:cj c=((n:Nat) : Int):=CU (by omega) a
 rw[hs]
 exact⟨rfl,f⟩
 have p:=am a
 exact sk<|bn<|tn<|go<|bq (((n:Nat) : Int)+1)<|Pl 1<|nl<|gL (n+1) ⟨d,(by(try dsimp only);omega),(y1 e a)⟩ (by omega)
 have o:=of_decide_eq_false b
 refine xt<|tx<|tx<|bx<|tn<|aD 1<|rt<|rr (vI (-1))<|?_
 have hs:cj c = -1:=yv (n:=n) (by omega) e
 rw[hs]
 exact⟨rfl,f⟩
theorem p5{w0 w:World}{b gd:Nat}{L:List Int}{c:Int}(hu0:aH [] w0 w)(hg0:w0.heap.size≤b)(hg1:w0.heap.size≤gd)(h:Cb w0.heap.size b L w)(hd:w.heap[gd]? = some (.cells ns 204 (0,0)))(hne:gd≠b)(hc:0≤c∧c<256)(hl:L.length≤1048576) :
    Calls Tryz.prog 268 #[vP b 0,vB c] w (fun e w'=>e = .returned .nilIface∧Cb w0.heap.size b (L++[c]) w'∧w'.heap[gd]? = some (.cells ns 204 (0,0))∧aH [] w0 w'∧w.heap.size≤w'.heap.size):=by
 obtain⟨p,A,cp,hb,hp,ho⟩:=h
 refine en 17 Tryz.func268 rfl<|ak 1<|aM 1<|ay<|m2 (tv hp hb) fun u a d=>aM 4<|aE a 1<|Pl 1<|L0<|d9 (m:=1) (e:=5) #[vB c] fun v y r eP f=>?_
 have s:=cL r (xs:=[c]) (by as_aux_lemma=>kernel_rfl) (ap (by omega) aR) (by(try simp only[List.length_cons,List.length_nil]);omega) eP
 have i:=aJ d f
 refine L0<|bS b9 (xs:=L) (ys:=([c])) (vB 0) 1 (ax ho i (fun x hx=>(aa (fun e=>(dM hb ho (by decide)) (e▸hx)) aF)) (fun _ _ h=>h)) (s).rd (by(try simp only[bV,aB]);omega) (le (le hu0.size d.size) f.size) fun j k z l n=>Pl 2<|?_
 have o:=aH.blk (ut (aH.mono (S':=(ob A++[])) f aC) n (aq il aC)) (bC (dM a (ax ho d (fun x hx=>(aa (fun e=>(dM hb ho (by decide)) (e▸hx)) aF)) (fun _ _ h=>h)) (by decide)) aF) a
 refine L0<|cm o 1 #[vP b 0,.slice j ((L++[c]).length) k] fun B t q=>cN 1<|rt<|rr (.nilIface)<|?_
 have g:=ut (aH.mono (S':=(b :: (ob A++[]))) i (ac im aC)) (u1 (aH.mono (S':=(ob A++(b :: []))) n (aq il aC)) q im) (aq il (ac im aC))
 exact⟨rfl,⟨_,j,k,t,.inr rfl,(ax l q (fun x hx=>(aa (fun e=>(dM o l (by decide)) (e▸hx)) aF)) (fun _ _ h=>h))⟩,(aH.blk g (aa hne (bC (dM hd ho (by decide)) aF)) hd),(ut hu0 g (ac (nr hg0) (aq (aU ho lr) aC))),g.size⟩
open Go.RowKit
theorem jI{b:List Int}(h:dz b) : dz (dp b):=by
  induction b with
  | nil=>exact h
  | cons c b ih =>
    have hc:=h c (List.mem_cons_self ..)
    have h1:=ik (n:=c/16) (by omega)
    have h2:=ik (n:=c%16) (by omega)
    intro x hx
    rcases List.mem_cons.1 hx with rfl|hx
    · omega
    rcases List.mem_cons.1 hx with rfl|hx
    · omega
    · exact ih (fun y hy=>h y (List.mem_cons_of_mem _ hy)) x hx
theorem wL{m:Md}{A:Option Addr}{cp:Nat}{b:List Int}{w:World}(hsl:aX m w (.slice A b.length cp) b)(hl:b.length≤1024) :
    Calls Tryz.prog 267 #[.slice A b.length cp] w (cc (.string (strOfNums (dp b))) w):=by
 have hb:=aX.range hsl
 refine en 26 Tryz.func267 rfl<|ak 1<|ng<|aK #[.pointer none,nS] fun d y g l h=>ng<|ay<|m1 (@nQ y) fun X e=>?_
 refine aK #[vB 0,vB 0,vB 0,vB 0,vB 0,vB 0,vB 0,vB 0,vB 0,vB 0,vB 0,vB 0,vB 0,vB 0,vB 0,vB 0] fun a Y f z B=>aG (hz:=(by kernel_rfl)) (hv:=rfl) (h1:=(by kernel_rfl)) z (ns) fun C D E=>nt<|sq<|aD 3<|bk<|?_
 have o:=aJ e (ud B E f)
 have q:=nb (au l) e.size f
 refine je (fun x=>[(2,.string ⟨#[]⟩),(3,vP d 0),(4,vP a 0),(8,.slice A b.length cp),(9,vI ((b.length:Nat) : Int)),(10,vI ((x:Nat) : Int))]) (fun(x:Nat) w'=>aH [] w w'∧C.heap.size≤w'.heap.size∧Cb w.heap.size d (dp (b.take x)) w'∧w'.heap[a]? = some (.cells ns 204 (0,0))∧(x≤b.length)) (fun x=>b.length-x) 0 ⟨(aJ h o),lr,(by simpa [dp] using Cb.new (ub o l)),D,(by(try dsimp only);omega)⟩ ?_
 rintro k r ⟨i,F,G,H,I⟩
 refine ji [(2,.string ⟨#[]⟩),(3,vP d 0),(4,vP a 0),(8,.slice A b.length cp),(9,vI ((b.length:Nat) : Int)),(10,vI ((k:Nat) : Int))] ?_
 have s:Cb w.heap.size d (dp (b.take k)) r:=G
 have t:r.heap[a]? = some (.cells ns 204 (0,0)):=H
 have Z:k≤b.length:=I
 refine aD 1<|sq<|cb ((decide (((k:Nat) : Int)<((b.length:Nat) : Int)))) (fun j=>?_) (fun j=>?_)
 have J:=of_decide_eq_true j
 refine bo<|sq<|bk<|sg<|?_
 refine ft (aX.at_ (aX.old hsl i) k (by omega)) fun K L M N a0=>L0<|l9 b.length k M (by omega)<|L0<|eH (p:=⟨K,L+k,none⟩) (v:=vB (b.getD k 0)) N<|Pl 1<|aM 1<|L0<|Oe (vB (Int.fdiv (b.getD k 0) (2 ^ 4))) (vB ((b.getD k 0)/16)) (congrArg (Value.int .u8) (ms _ _ _ (by decide)))<|L0<|E9 (b:=a) (off:=0) 16 ((((b.getD k 0)/16)).toNat) ((b.getD k 0)/16) (by omega) (by omega)<|?_
 have a1:=ik (n:=((b.getD k 0)/16)) (by omega)
 refine L0<|eH (p:=⟨a,0+(((b.getD k 0)/16)).toNat,none⟩) (v:=vB (dB (((b.getD k 0)/16)))) (ae t (by rw[Nat.zero_add,s7 (by omega)]))<|ay<|m4 (p5 (c:=(dB ((b.getD k 0)/16))) i g (Nat.le_trans (le h.size e.size) f) s t (Ne.symm q) (by omega) (by rw[eb,List.length_take];omega)) fun a2 O u P Q=>nt<|go<|Pl 1<|L0<|Oe (vB (Int.tmod (b.getD k 0) 16)) (vB ((b.getD k 0)%16)) (congrArg (Value.int .u8) (Int.tmod_eq_emod_of_nonneg (by omega)))<|L0<|E9 (b:=a) (off:=0) 16 ((((b.getD k 0)%16)).toNat) ((b.getD k 0)%16) (by omega) (by omega)<|?_
 have a3:=ik (n:=((b.getD k 0)%16)) (by omega)
 exact L0<|eH (p:=⟨a,0+(((b.getD k 0)%16)).toNat,none⟩) (v:=vB (dB (((b.getD k 0)%16)))) (ae u (by rw[Nat.zero_add,s7 (by omega)]))<|ay<|m4 (p5 (c:=(dB ((b.getD k 0)%16))) P g (Nat.le_trans (le h.size e.size) f) O u (Ne.symm q) (by omega) (by rw[List.length_append,eb,List.length_take];simp only[List.length_cons,List.length_nil];omega)) fun a4 R S T U=>nl<|bn<|tn<|go<|bq (((k:Nat) : Int)+1)<|Pl 1<|nl<|gL (k+1) ⟨T,(le (le F Q) U),(by rw[pE _ _ (by omega)];exact R),S,(by(try dsimp only);omega)⟩ (by omega)
 have J:=of_decide_eq_false j
 refine xt<|tx<|tx<|bx<|tn<|sg<|?_
 have V:k=b.length:=by omega
 have hbl:=s
 rw[V,List.take_length] at hbl
 have hbr:dz (dp b):=jI hb
 refine ay<|m1 (tH i g hbl hbr) fun a5 W=>ah 1<|rt<|rr (.string (strOfNums (dp b)))<|?_
 exact⟨rfl,W⟩
theorem yg{m:Md}{v:Value}{b:List Int}{w:World}(h:aX m w v b)(hl:b.length≤1024) : Calls Tryz.prog 267 #[v] w (cc (.string (strOfNums (dp b))) w):=by
  obtain⟨A,cp,rfl,_,_⟩:=h.shape
  exact wL h hl
def hZ (xs:List Int)(w:World)(e:Ending)(w':World) : Prop:=match cg xs with
  | some l=>∃ v,e = .returned (.tuple #[v,.int .i64 0])∧eB w.heap.size w' v l∧aH [] w w'
  | none=>e = .returned (.tuple #[.slice none 0 0,.int .i64 11])∧aH [] w w'
theorem uE{xs l:List Int}{w w':World}{e:Ending}(h:cg xs=some l)(k:∃ v,e = .returned (.tuple #[v,.int .i64 0])∧eB w.heap.size w' v l∧aH [] w w') : hZ xs w e w':=by
  unfold hZ
  rw[h]
  exact k
theorem mw{xs:List Int}{w w':World}{e:Ending}(h:cg xs=none)(k:e = .returned (.tuple #[.slice none 0 0,.int .i64 11])∧aH [] w w') : hZ xs w e w':=by
  unfold hZ
  rw[h]
  exact k
theorem oS{xs:List Int}{w:World}(hr:dz xs)(hl:xs.length≤1048576) :
    Calls Tryz.prog 81 #[.string (strOfNums xs)] w (hZ xs w):=by
 refine en 42 Tryz.func81 rfl<|aD 2<|sq<|ak 1<|L0<|Oe (vI (((strOfNums xs).size:Nat) : Int)) (vI (xs.length:Int)) (by rw[strOfNums_size])<|L0<|Oe (vI (Int.tmod (xs.length:Int) 2)) (vI ((xs.length:Int)%2)) (congrArg (Value.int .i64) (Int.tmod_eq_emod_of_nonneg (by omega)))<|Pl 1<|nl<|tn<|cb ((((xs.length:Int)%2)!=0)) (fun f=>?_) (fun f=>?_)
 have A:=az f
 refine aD 2<|aV<|rr (.tuple #[nS,vI 11])<|?_
 have hs:cg xs=none:=ls (by omega)
 exact mw hs ⟨rfl,(aH.refl [] _)⟩
 have A:=aA f
 refine bo<|aD 1<|sq<|aD 1<|bk<|?_
 refine je (fun x=>[(0,.string (strOfNums xs)),(4,.slice x.2.2.1 x.2.1.length x.2.2.2),(5,vI ((2*x.1:Nat) : Int))]) (fun(x:Nat × List Int × Option Addr × Nat) w'=>aH [] w w'∧eB w.heap.size w' (.slice x.2.2.1 x.2.1.length x.2.2.2) x.2.1∧(2*x.1≤xs.length)∧(cg xs=(cg (xs.drop (2*x.1))).map fun l=>x.2.1++l)∧(x.2.1.length=x.1)) (fun x=>xs.length-2*x.1) (0,[],none,0) ⟨aH.refl _ _,(b7.nil w.heap.size _ _ wy _),(by(try dsimp only);omega),(by(try dsimp only);simp),(by(try dsimp only);rfl)⟩ ?_
 rintro⟨k,L,B,cq⟩ C ⟨g,D,E,F,G⟩
 refine ji [(0,.string (strOfNums xs)),(4,.slice B L.length cq),(5,vI ((2*k:Nat) : Int))] ?_
 have j:eB w.heap.size C (.slice B L.length cq) L:=D
 have U:2*k≤xs.length:=E
 have V:cg xs=(cg (xs.drop (2*k))).map fun l=>L++l:=F
 have W:L.length=k:=G
 have hL:cg xs=(cg (xs.drop (2*k))).map fun l=>L++l:=by assumption
 refine sq<|ak 2<|L0<|Oe (vI (((strOfNums xs).size:Nat) : Int)) (vI (xs.length:Int)) (by rw[strOfNums_size])<|ah 1<|cb ((decide (((2*k:Nat) : Int)<(xs.length:Int)))) (fun n=>?_) (fun n=>?_)
 have H:=of_decide_eq_true n
 refine bo<|sq<|bk<|sq<|Rg 11 (fun w'=>True) fun X p=>bp trivial fun a=>Rt 0 a<|Rt 1 a<|Rr 2 a (vB (xs.getD (2*k) 0)) (fun _ _=>kC (xs:=xs) (k:=.i64) (i:=((2*k:Nat) : Int)) (2*k) rfl Tryz.underlying9 (by kernel_rfl) (by kernel_rfl) hr rfl (by omega))<|Rt 4 a<|Rt 5 a<|Rr 6 a (vI (((2*k:Nat) : Int)+1)) (fun _ _=>bW (vI (IntKind.i64.wrap (((2*k:Nat) : Int)+1))) (by kernel_rfl) (congrArg (Value.int .i64) (IntWalk.i64_in _ (by omega))))<|Rr 7 a (vB (xs.getD ((((2*k:Nat) : Int)+1)).toNat 0)) (fun _ _=>kC (xs:=xs) (k:=.i64) (i:=(((2*k:Nat) : Int)+1)) ((((2*k:Nat) : Int)+1)).toNat rfl Tryz.underlying9 (by kernel_rfl) (by kernel_rfl) hr (by omega) (by omega))<|?_
 have Y:=kz (xs.getD (2*k) 0)
 refine R0 3 rfl<|Oc<|m1 (p8 (c:=(xs.getD (2*k) 0)) (w:=_) (fl (by omega) hr _)) fun Z r=>bp trivial fun a0=>?_
 have a1:=kz (xs.getD ((((2*k:Nat) : Int)+1)).toNat 0)
 refine R0 8 rfl<|Oc<|m1 (p8 (c:=(xs.getD ((((2*k:Nat) : Int)+1)).toNat 0)) (w:=_) (fl (by omega) hr _)) fun a2 s=>bp trivial fun t=>Rt 9 t<|Rt 10 t<|re<|tn<|sq<|ak 3<|cu 3 [29] 32 (((decide ((cj (xs.getD (2*k) 0))<0))||(decide ((cj (xs.getD ((((2*k:Nat) : Int)+1)).toNat 0))<0)))) (fun K u=>?_) ?_
 refine bl 29 ((decide ((cj (xs.getD (2*k) 0))<0))) (fun b=>?_) (fun b=>?_)
 have I:=of_decide_eq_true b
 exact Pl 3<|ce u true (by rw[b];rfl)
 have I:=of_decide_eq_false b
 exact Pl 3<|ce u (decide ((cj (xs.getD ((((2*k:Nat) : Int)+1)).toNat 0))<0)) (by rw[b];rfl)
 refine nt<|?_
 have v:=aJ p (aJ r s)
 have y:=aJ g v
 refine cb (((decide ((cj (xs.getD (2*k) 0))<0))||(decide ((cj (xs.getD ((((2*k:Nat) : Int)+1)).toNat 0))<0)))) (fun d=>?_) (fun d=>?_)
 refine aD 2<|aV<|br<|tr<|tr<|br<|tr<|rr (.tuple #[nS,vI 11])<|?_
 have hs:cg xs=none:=sG (k:=k) hL (by omega) (by have q:=d;simp only[Bool.or_eq_true,decide_eq_true_eq] at q;rw[show 2*k+1=(((2*k:Nat) : Int)+1).toNat from by omega];exact q)
 exact mw hs ⟨rfl,y⟩
 have J:=(bT d).1
 have M:=(bT d).2
 have a3:=of_decide_eq_false J
 have a4:=of_decide_eq_false M
 refine bo<|go<|Pl 2<|bq (16*(cj (xs.getD (2*k) 0)))<|Pl 1<|bq ((16*(cj (xs.getD (2*k) 0)))+(cj (xs.getD ((((2*k:Nat) : Int)+1)).toNat 0)))<|Pl 1<|L0<|d9 (m:=1) (e:=5) #[vB (((16*(cj (xs.getD (2*k) 0)))+(cj (xs.getD ((((2*k:Nat) : Int)+1)).toNat 0)))%256)] fun a5 a6 N O o=>?_
 have P:=cL N (xs:=[(((16*(cj (xs.getD (2*k) 0)))+(cj (xs.getD ((((2*k:Nat) : Int)+1)).toNat 0)))%256)]) (by as_aux_lemma=>kernel_rfl) (ap (by omega) aR) (by(try simp only[List.length_cons,List.length_nil]);omega) O
 refine L0<|bS b9 (xs:=L) (ys:=([(((16*(cj (xs.getD (2*k) 0)))+(cj (xs.getD ((((2*k:Nat) : Int)+1)).toNat 0)))%256)])) (vB 0) 1 (ax j (aJ v o) (fun x hx=>aF) (fun _ _ h=>h)) (P).rd (by(try simp only[bV,aB]);omega) (le (le (le (le g.size p.size) r.size) s.size) o.size) fun Q R a7 S T=>Pl 1<|nl<|bn<|tn<|go<|Pl 1<|bq (((2*k:Nat) : Int)+2)<|Pl 1<|nl<|?_
 have z:=nn (k:=k) hL (by omega) (by omega) (by rw[show 2*k+1=(((2*k:Nat) : Int)+1).toNat from by omega];omega)
 rw[show 2*k+1=(((2*k:Nat) : Int)+1).toNat from by omega] at z
 exact gL ((k+1),(L++[(((16*(cj (xs.getD (2*k) 0)))+(cj (xs.getD ((((2*k:Nat) : Int)+1)).toNat 0)))%256)]),Q,R) ⟨(ut y (ut (aH.mono (S':=(ob B++[])) o aC) T (aq il aC)) (aq (aU j lr) aC)),S,(by(try dsimp only);omega),z,(by(try dsimp only);simp only[bV];omega)⟩ (by omega)
 have H:=of_decide_eq_false n
 refine xt<|tx<|tx<|bx<|tn<|aD 3<|rt<|rr (.tuple #[.slice B L.length cq,vI 0])<|?_
 have hs:cg xs=some L:=pl hL (by omega)
 exact uE hs ⟨_,rfl,j,g⟩
open Go.RowKit
def gn (xs:List Int) : Bool:=decide (2≤((xs.length:Nat) : Int))&&decide (xs.drop (((xs.length:Nat) : Int)-2).toNat=[13,10])
def i1 (b:List Int) : Option (List Int):=if b.getD 0 0=58∧gn (b.drop 1)=true then some ((b.drop 1).take (b.length-3)) else none
theorem mN{xs:List Int}(h:gn xs=true) : 2≤xs.length:=by
  unfold gn at h
  simp only[Bool.and_eq_true,decide_eq_true_eq] at h
  omega
theorem lx{b s:List Int}(h:i1 b=some s) : b.getD 0 0=58∧gn (b.drop 1)=true∧s=(b.drop 1).take (b.length-3)∧3≤b.length:=by
  unfold i1 at h
  split at h
  · rename_i hc
    injection h with h
    have:=mN hc.2
    rw[List.length_drop] at this
    exact⟨hc.1,hc.2,h.symm,by omega⟩
  · cases h
theorem rR{b s:List Int}(h:i1 b=some s) : s.length=b.length-3:=by
  obtain⟨_,_,rfl,h3⟩:=lx h
  rw[List.length_take,List.length_drop]
  omega
def qC (xs:List Int)(w:World)(e:Ending)(w':World) : Prop:=match i1 xs with
  | some l=>e = .returned (.tuple #[.string (strOfNums l),.bool true])∧aH [] w w'
  | none=>∃ s,e = .returned (.tuple #[.string s,.bool false])∧aH [] w w'
theorem nJ{xs:List Int}{w:World}(hr:dz xs)(hl:xs.length≤1048576) : Calls Tryz.prog 226 #[.string (strOfNums xs),.string ⟨#[13,10]⟩] w (cc (.bool (gn xs)) w):=by
 refine en 21 Tryz.func226 rfl<|ak 1<|aM 1<|L0<|Oe (vI (((strOfNums xs).size:Nat) : Int)) (vI (xs.length:Int)) (by rw[strOfNums_size])<|Pl 4<|bl 10 ((decide (2≤(xs.length:Int)))) (fun c=>?_) (fun c=>?_)
 have d:=of_decide_eq_true c
 refine Pl 2<|L1<|Oe (vI (((strOfNums xs).size:Nat) : Int)) (vI (xs.length:Int)) (by rw[strOfNums_size])<|Pl 2<|L1<|Oi ((xs.length:Int)-2)<|?_
 have e:dz (xs.drop (((xs.length:Int)-2)).toNat):=ly hr (((xs.length:Int)-2)).toNat
 refine L1<|gt (.string (strOfNums (xs.drop (((xs.length:Int)-2)).toNat))) (pu (xs:=xs) (k:=.i64) (i:=((xs.length:Int)-2)) (((xs.length:Int)-2)).toNat rfl Tryz.underlying9 (by kernel_rfl) (by kernel_rfl) (by omega) (by omega))<|Pl 1<|L1<|gt (.bool (decide ((xs.drop (((xs.length:Int)-2)).toNat)=[13,10]))) (fY (a:=(strOfNums (xs.drop (((xs.length:Int)-2)).toNat))) (b:=⟨#[13,10]⟩) rfl (by kernel_rfl) (by kernel_rfl) (Ae (ys:=[13,10]) e (by decide)))<|ah 2<|rt<|rr (.bool (decide ((xs.drop (((xs.length:Int)-2)).toNat)=[13,10])))<|?_
 have hs:gn xs=(decide ((xs.drop (((xs.length:Int)-2)).toNat)=[13,10])):=by unfold gn;(try simp only[c,bj]);all_goals rfl
 rw[hs]
 exact⟨rfl,(aH.refl [] _)⟩
 have d:=of_decide_eq_false c
 refine ah 11<|rt<|rr (.bool false)<|?_
 have hs:gn xs=false:=by unfold gn;(try simp only[c,bj]);all_goals rfl
 rw[hs]
 exact⟨rfl,(aH.refl [] _)⟩
theorem wm{xs:List Int}{w:World}(hr:dz xs)(hl:xs.length≤1048576)(hq:gn xs=true) : Calls Tryz.prog 180 #[.string (strOfNums xs),.string ⟨#[13,10]⟩] w (cc (.tuple #[.string (strOfNums (xs.take ((xs.length:Int)-2).toNat)),.bool true]) w):=by
 have hq2:=mN hq
 refine en 18 Tryz.func180 rfl<|aD 2<|sq<|ak 2<|ay<|m1 (nJ (xs:=xs) (w:=_) hr (by omega)) fun c a=>ah 1<|?_
 have b:(!(gn xs))=false:=by simp only[hq,Bool.not_true,Bool.not_false]
 refine cf b<|bo<|ak 2<|L0<|Oe (vI (((strOfNums xs).size:Nat) : Int)) (vI (xs.length:Int)) (by rw[strOfNums_size])<|Pl 2<|bq ((xs.length:Int)-2)<|?_
 have d:dz (xs.take (((xs.length:Int)-2)).toNat):=oV hr (((xs.length:Int)-2)).toNat
 exact L0<|gt (.string (strOfNums (xs.take (((xs.length:Int)-2)).toNat))) (wT (xs:=xs) (k:=.i64) (i:=((xs.length:Int)-2)) (((xs.length:Int)-2)).toNat rfl Tryz.underlying9 (by kernel_rfl) (by kernel_rfl) (by omega) (by omega))<|ah 2<|rt<|rr (.tuple #[.string (strOfNums (xs.take (((xs.length:Int)-2)).toNat)),.bool true])<|⟨rfl,a⟩
theorem yM{xs:List Int}{w:World}(hr:dz xs)(hl:xs.length≤1048576)(hq:gn xs=true) : Calls Tryz.prog 114 #[.string (strOfNums xs),.string ⟨#[13,10]⟩] w (cc (.tuple #[.string (strOfNums (xs.take ((xs.length:Int)-2).toNat)),.bool true]) w):=by
 exact en 11 Tryz.func114 rfl<|ak 2<|aM 2<|ay<|m1 (wm (xs:=xs) (w:=_) hr hl hq) fun b a=>ah 4<|rt<|rr (.tuple #[.string (strOfNums (xs.take ((xs.length:Int)-2).toNat)),.bool true])<|⟨rfl,a⟩
theorem wU{xs:List Int}{w:World}(hr:dz xs)(hl:xs.length≤1048576)(hq:gn xs=false) : Calls Tryz.prog 180 #[.string (strOfNums xs),.string ⟨#[13,10]⟩] w (cc (.tuple #[.string (strOfNums xs),.bool false]) w):=by
 refine en 18 Tryz.func180 rfl<|aD 2<|sq<|ak 2<|ay<|m1 (nJ (xs:=xs) (w:=_) hr (by omega)) fun c a=>ah 1<|?_
 have b:(!(gn xs))=true:=by simp only[hq,Bool.not_true,Bool.not_false]
 exact ct b<|aD 3<|aV<|rr (.tuple #[.string (strOfNums xs),.bool false])<|⟨rfl,a⟩
theorem yo{xs:List Int}{w:World}(hr:dz xs)(hl:xs.length≤1048576)(hq:gn xs=false) : Calls Tryz.prog 114 #[.string (strOfNums xs),.string ⟨#[13,10]⟩] w (cc (.tuple #[.string (strOfNums xs),.bool false]) w):=by
 exact en 11 Tryz.func114 rfl<|ak 2<|aM 2<|ay<|m1 (wU (xs:=xs) (w:=_) hr hl hq) fun b a=>ah 4<|rt<|rr (.tuple #[.string (strOfNums xs),.bool false])<|⟨rfl,a⟩
theorem yq{b:List Int}(h:b.getD 0 0=58)(k:gn (b.drop 1)=true) : i1 b=some ((b.drop 1).take (b.length-3)):=if_pos ⟨h,k⟩
theorem Ba{b:List Int}(h:¬ b.getD 0 0=58) : i1 b=none:=if_neg fun k=>h k.1
theorem Bi{b:List Int}(k:gn (b.drop 1)=false) : i1 b=none:=if_neg fun h=>by rw[k] at h;cases h.2
theorem CR{b l:List Int}{w w':World}{e:Ending}(h:i1 b=some l)(k:e = .returned (.tuple #[.string (strOfNums l),.bool true])∧aH [] w w') : qC b w e w':=by
  unfold qC
  rw[h]
  exact k
theorem zw{b:List Int}{w w':World}{e:Ending}(h:i1 b=none)(k:∃ s,e = .returned (.tuple #[.string s,.bool false])∧aH [] w w') : qC b w e w':=by
  unfold qC
  rw[h]
  exact k
theorem mM{b:List Int}{w:World}(hr:dz b)(hl:b.length≤1048576)(h0:0<b.length) : Calls Tryz.prog 80 #[.string (strOfNums b)] w (qC b w):=by
 refine en 18 Tryz.func80 rfl<|aD 2<|sq<|ak 1<|L0<|Ex (sv:=strOfNums b) Tryz.underlying9 fun f m n o p=>nt<|bk<|je (fun x=>[(0,.string (strOfNums b)),(7,vP f 0)]) (fun(x:Unit) w'=>aH [] m w'∧(0≤0)) (fun x=>0) () ⟨aH.refl _ _,(by(try dsimp only);omega)⟩ ?_
 rintro z v ⟨g,q⟩
 refine ji [(0,.string (strOfNums b)),(7,vP f 0)] ?_
 have y:0≤0:=q
 refine sg<|?_
 refine L0<|Ff hr (by omega) (ub g o) fun r A h s=>ah 1<|sq<|c1<|bo<|bk<|aD 2<|sq<|aD 2<|?_
 have a:=ud p (uz g s) n
 refine cb ((r != 58)) (fun c=>?_) (fun c=>?_)
 have d:=az c
 exact aD 2<|aV<|br<|tr<|br<|tr<|rr (.tuple #[.string ⟨#[]⟩,.bool false])<|zw (Ba fun e=>d (h.2 e)) ⟨_,rfl,a⟩
 have d:=aA c
 refine bo<|xt<|Fb<|tx<|bx<|tn<|ak 1<|?_
 have j:dz (b.drop 1):=ly hr 1
 refine L0<|gt (.string (strOfNums (b.drop 1))) (pu (xs:=b) (k:=.i64) (i:=1) 1 rfl Tryz.underlying9 (by kernel_rfl) (by kernel_rfl) rfl (by omega))<|?_
 rcases iB (gn (b.drop 1)) with hq|hq
 refine ay<|m1 (yM (xs:=(b.drop 1)) (w:=_) j (by rw[List.length_drop];omega) hq) fun B t=>ah 4<|rt<|rr (.tuple #[.string (strOfNums ((b.drop 1).take (((b.drop 1).length:Int)-2).toNat)),.bool true])<|?_
 exact CR (l:=(b.drop 1).take (b.length-3)) (yq (h.1 d) hq) ⟨by rw[show b.length-3=(((b.drop 1).length:Int)-2).toNat from by rw[List.length_drop];omega],(aJ a t)⟩
 refine ay<|m1 (yo (xs:=(b.drop 1)) (w:=_) j (by rw[List.length_drop];omega) hq) fun C u=>ah 4<|rt<|rr (.tuple #[.string (strOfNums (b.drop 1)),.bool false])<|?_
 exact zw (Bi hq) ⟨_,rfl,(aJ a u)⟩
open Go.RowKit
theorem wx{b s:List Int}(hr:dz b)(h:i1 b=some s) : dz s:=by
  obtain⟨_,_,rfl,_⟩:=lx h
  exact oV (ly hr 1) _
theorem Ap{b l:List Int}{w:World}(h:i1 b=some l)(e:Ending)(w':World)(k:qC b w e w') : e = .returned (.tuple #[.string (strOfNums l),.bool true])∧aH [] w w':=by
  unfold qC at k
  rw[h] at k
  exact k
theorem AM{b:List Int}{w:World}(h:i1 b=none)(e:Ending)(w':World)(k:qC b w e w') : ∃ s,e = .returned (.tuple #[.string s,.bool false])∧aH [] w w':=by
  unfold qC at k
  rw[h] at k
  exact k
theorem sD{b l:List Int}{w:World}(h:cg b=some l)(e:Ending)(w':World)(k:hZ b w e w') : ∃ v,e = .returned (.tuple #[v,.int .i64 0])∧eB w.heap.size w' v l∧aH [] w w':=by
  unfold hZ at k
  rw[h] at k
  exact k
theorem qV{b:List Int}{w:World}(h:cg b=none)(e:Ending)(w':World)(k:hZ b w e w') : e = .returned (.tuple #[.slice none 0 0,.int .i64 11])∧aH [] w w':=by
  unfold hZ at k
  rw[h] at k
  exact k
def eM (x:List Int) : List Int:=(x.take (x.length-1)).drop 1
theorem kf(x:List Int) : eM x=(x.take (((x.length:Nat) : Int)-1).toNat).drop 1:=by
  unfold eM
  rw[show(((x.length:Nat) : Int)-1).toNat=x.length-1 from by omega]
def eD (dir:Int)(b:List Int) : cF × Int :=
  if dir != 0&&dir != 1 then (cF.zero,1)
  else if decide ((b.length:Int)<9) then (cF.zero,2)
  else if decide (513<(b.length:Int)) then (cF.zero,3)
  else match i1 b with
    | none=>(cF.zero,12)
    | some s=>match cg s with
      | none=>(cF.zero,11)
      | some x=>if !(ep x) then (cF.zero,10) else ch (x.getD 0 0) 0 (cw dir (eM x))
theorem tc{m:Md}{A:Option Addr}{cp:Nat}{b:List Int}{w:World}{dir:Int}(hsl0:aX m w (.slice A b.length cp) b)(hb:b.length≤1048576) :
    Calls Tryz.prog 56 #[vI dir,.slice A b.length cp] w (mO (eD dir b) w):=by
 have hln:(b.length:Int)≤1048576:=by omega
 have hr:dz b:=aX.range hsl0
 refine en 71 Tryz.func56 rfl<|sg<|aK #[vB 0,vW 0,vB 0,vB 0,vW 0,vW 0,vW 0,vW 0,vW 0,vW 0,vW 0,vW 0,vW 0,vW 0,nS,nS,nS,nS,vB 0,vB 0,vB 0,vB 0,vB 0,nS] fun bD X k d o=>ah 1<|sq<|bk<|ak 3<|cu 3 [14] 17 (((dir != 0)&&(dir != 1))) (fun K Y=>?_) ?_
 refine bl 14 ((dir != 0)) (fun F=>?_) (fun F=>?_)
 have al:=az F
 exact Pl 3<|ce Y (dir != 1) (by rw[F];rfl)
 have al:=aA F
 exact Pl 3<|ce Y false (by rw[F];rfl)
 refine ah 1<|cb (((dir != 0)&&(dir != 1))) (fun f=>?_) (fun f=>?_)
 have Z:=(bB f).1
 have a0:=(bB f).2
 have bE:=az Z
 have bF:=az a0
 refine ak 1<|aG d #[vB 0,vW 0,vB 0,vB 0,vW 0,vW 0,vW 0,vW 0,vW 0,vW 0,vW 0,vW 0,vW 0,vW 0,nS,nS,nS,nS,vB 0,vB 0,vB 0,vB 0,vB 0,nS] fun bG am an=>ah 1<|rt<|br<|tr<|bH am (vI 1)<|?_
 have hs:eD dir b=(cF.zero,1):=by
   unfold eD
   (try simp only[f,Z,a0,bj,ch,reduceIte])
   all_goals rfl
 refine dL hs ?_
 exact cJ (ud o an k)
 refine aD 4<|cb ((decide ((b.length:Int)<9))) (fun i=>?_) (fun i=>?_)
 have ao:=of_decide_eq_true i
 refine ak 1<|aG d #[vB 0,vW 0,vB 0,vB 0,vW 0,vW 0,vW 0,vW 0,vW 0,vW 0,vW 0,vW 0,vW 0,vW 0,nS,nS,nS,nS,vB 0,vB 0,vB 0,vB 0,vB 0,nS] fun bI ap aq=>ah 1<|rt<|br<|tr<|bH ap (vI 2)<|?_
 have hs:eD dir b=(cF.zero,2):=by
   unfold eD
   (try simp only[f,i,bj,ch,reduceIte])
   all_goals rfl
 refine dL hs ?_
 exact cJ (ud o aq k)
 have ao:=of_decide_eq_false i
 refine aD 4<|cb ((decide (513<(b.length:Int)))) (fun j=>?_) (fun j=>?_)
 have ar:=of_decide_eq_true j
 refine ak 1<|aG d #[vB 0,vW 0,vB 0,vB 0,vW 0,vW 0,vW 0,vW 0,vW 0,vW 0,vW 0,vW 0,vW 0,vW 0,nS,nS,nS,nS,vB 0,vB 0,vB 0,vB 0,vB 0,nS] fun bJ aw aB=>ah 1<|rt<|br<|tr<|bH aw (vI 3)<|?_
 have hs:eD dir b=(cF.zero,3):=by
   unfold eD
   (try simp only[f,i,j,bj,ch,reduceIte])
   all_goals rfl
 refine dL hs ?_
 exact cJ (ud o aB k)
 have ar:=of_decide_eq_false j
 refine sk<|bn<|tn<|ak 1<|?_
 have Q:=aX.old hsl0 o
 refine L0<|gt (.string (strOfNums b)) (cS (A:=A) (n:=b.length) (c:=cp) rfl (by kernel_rfl) Tryz.underlying27 Tryz.underlying5 Tryz.underlying9 Q)<|?_
 rcases hds:i1 b with _|sd
 have aC:=mM (w:=X) (aX.range Q) hb (by omega)
 have aE:=aC.mono (AM hds)
 refine ay (args:=#[.string (strOfNums b)])<|e1 aE fun bK bL a1=>ah 5<|sq<|aD 2<|c1<|ak 1<|?_
 refine aG (ub a1 d) #[vB 0,vW 0,vB 0,vB 0,vW 0,vW 0,vW 0,vW 0,vW 0,vW 0,vW 0,vW 0,vW 0,vW 0,nS,nS,nS,nS,vB 0,vB 0,vB 0,vB 0,vB 0,nS] fun bM aH aM=>ah 1<|aV<|bH aH (vI 12)<|?_
 have hs:eD dir b=(cF.zero,12):=by
   unfold eD
   (try simp only[f,i,j,bj,ch,hds,reduceIte])
   all_goals rfl
 refine dL hs ?_
 exact cJ (ud o (uz a1 aM) k)
 have hsl:=rR hds
 have hsd:dz sd:=wx hr hds
 have aO:=mM (w:=X) (aX.range Q) hb (by omega)
 have aP:=aO.mono (Ap hds)
 refine ay (args:=#[.string (strOfNums b)])<|m1 aP fun a2 l=>ah 5<|sq<|aD 2<|c0<|bo<|sq<|go<|Pl 1<|?_
 have a3:=aJ o l
 rcases hth:cg sd with _|x
 have aQ:=(oS (w:=a2) hsd (by omega)).mono (qV hth)
 refine ay<|m1 aQ fun bN a4=>ah 5<|sq<|aD 2<|c1<|ak 2<|?_
 refine aG (ub (aJ l a4) d) #[vB 0,vW 0,vB 0,vB 0,vW 0,vW 0,vW 0,vW 0,vW 0,vW 0,vW 0,vW 0,vW 0,vW 0,nS,nS,nS,nS,vB 0,vB 0,vB 0,vB 0,vB 0,nS] fun bO aR aS=>ah 1<|aV<|bH aR (vI 11)<|?_
 have hs:eD dir b=(cF.zero,11):=by
   unfold eD
   (try simp only[f,i,j,bj,ch,hds,hth,reduceIte])
   all_goals rfl
 refine dL hs ?_
 exact cJ (ud a3 (uz a4 aS) k)
 have hxl:=lE hth
 have aT:=(oS (w:=a2) hsd (by omega)).mono (sD hth)
 refine ay<|e9 aT fun R J bP S bQ bR a5=>ah 5<|sq<|aD 2<|c0<|bo<|sq<|ak 1<|ay (args:=#[.slice R x.length J])<|m1 (xd (S).rd) fun aU T=>ah 1<|?_
 have G:=aJ a5 T
 have a6:=aJ a3 G
 refine cb ((!(ep x))) (fun p=>?_) (fun p=>?_)
 have L:(ep x)=false:=by simpa using p
 refine ak 1<|?_
 refine aG (ub (aJ l G) d) #[vB 0,vW 0,vB 0,vB 0,vW 0,vW 0,vW 0,vW 0,vW 0,vW 0,vW 0,vW 0,vW 0,vW 0,nS,nS,nS,nS,vB 0,vB 0,vB 0,vB 0,vB 0,nS] fun bS aW aY=>ah 1<|aV<|bH aW (vI 10)<|?_
 have hs:eD dir b=(cF.zero,10):=by
   unfold eD
   (try simp only[f,i,j,p,L,bj,ch,hds,hth,reduceIte])
   all_goals rfl
 refine dL hs ?_
 exact cJ (ud a6 aY k)
 have L:(ep x)=true:=by simpa using p
 refine bo<|ak 4<|bq ((x.length:Int)-1)<|mT (gh (P:=Tryz.prog) 27 5 1 Tryz.underlying27 rfl rfl R x.length J (lo:=1) (up:=((x.length:Int)-1)) 1 ((((x.length:Int)-1)).toNat) (by omega) (by omega) (by omega) (by omega) (by omega)) fun aZ hrun79 b0=>L0<|gt (.slice aZ (((((x.length:Int)-1)).toNat)-1) (J-1)) (eY (kl:=.i64) (kh:=.i64) (lo:=1) (hi:=((x.length:Int)-1)) (A:=R) (n:=x.length) (c:=J) rfl Tryz.underlying27 (by kernel_rfl) (by kernel_rfl) (by kernel_rfl) (hrun79 _ _ _))<|?_
 obtain⟨a,H,U⟩ : ∃ M E,cw dir ((x.take ((((x.length:Int)-1)).toNat)).drop 1)=(M,E):=⟨_,_,rfl⟩
 have a7:=ax S T (fun x hx=>aF) (fun _ _ h=>h)
 have a8:=lc (dir:=dir) (w:=aU) (b0 _ _ _ _ _ (a7).rd) (by rw[List.length_drop,List.length_take];omega)
 rw[U] at a8
 refine ay<|e2 a8 fun b1 bT a9 V=>?_
 have b2:=a9
 obtain⟨b3,b4,b5,b7,b9,ba,bb,bc,bd,bf,bg,bU⟩:=b2
 obtain rfl:b1=(eC a b3 b4 b5 b7 b9).toArray:=by apply Array.toList_inj.1;simpa using ba
 obtain⟨q,r,rfl,_,_⟩:=bb.shape
 obtain⟨s,t,rfl,_,_⟩:=bc.shape
 obtain⟨u,v,rfl,_,_⟩:=bd.shape
 obtain⟨y,z,rfl,_,_⟩:=bf.shape
 obtain⟨B,C,rfl,_,_⟩:=bg.shape
 refine Pl 3<|aK mZ fun ab bV ac bh bi=>aG bh (mG a.code a.fail a.addr a.count a.value a.and_ a.or_ a.addr2 a.sub a.status a.events a.messages (.slice q a.words.length r) (.slice s a.bits.length t) (.slice u a.data.length v) (.slice y a.recs.length z) a.mei a.kind a.level a.more a.next (.slice B a.objects.length C)) fun bW bm bs=>ah 1<|sq<|aD 2<|?_
 have ad:=ud bi bs ac
 have N:=aJ V ad
 have ae:=aJ a6 N
 refine cb ((H != 0)) (fun I=>?_) (fun I=>?_)
 have bt:=az I
 refine ak 2<|?_
 refine aG (ub (aJ l (aJ G N)) d) #[vB 0,vW 0,vB 0,vB 0,vW 0,vW 0,vW 0,vW 0,vW 0,vW 0,vW 0,vW 0,vW 0,vW 0,nS,nS,nS,nS,vB 0,vB 0,vB 0,vB 0,vB 0,nS] fun bX bu bv=>ah 1<|aV<|bH bu (vI H)<|?_
 have hX2:cw dir (eM x)=(a,H):=(congrArg (cw dir) (kf x)).trans U
 have hs:eD dir b=(cF.zero,H):=by
   unfold eD
   (try simp only[f,i,j,p,L,I,bj,ch,hds,hth,hX2,reduceIte])
   all_goals rfl
 refine dL hs ?_
 exact cJ (ud ae bv k)
 have bt:=aA I
 refine bo<|sq<|?_
 have af:=ax a7 N (fun x hx=>aF) (fun _ _ h=>h)
 refine ft (aX.at_ (af).rd 0 (by omega)) fun bw bx ag bz bY=>Rg 8 (fun w'=>w'.cell? ⟨bw,bx+0,none⟩=some (vB (x.getD 0 0))∧w'.heap[ab]? = some (.cells (mG a.code a.fail a.addr a.count a.value a.and_ a.or_ a.addr2 a.sub a.status a.events a.messages (.slice q a.words.length r) (.slice s a.bits.length t) (.slice u a.data.length v) (.slice y a.recs.length z) a.mei a.kind a.level a.more a.next (.slice B a.objects.length C)) 45 (0,0))) fun bZ O=>?_
 have ai:=ub O bm
 refine bp ⟨(uc O bz),ai⟩ fun D=>Rt 0 D<|lL 1 D x.length 0 0 rfl ag (by omega)<|Rl 2 D (fun _ hs=>hs.1)<|Rt 3 D<|Rr 4 D (.agg (mG a.code a.fail a.addr a.count a.value a.and_ a.or_ a.addr2 a.sub a.status a.events a.messages (.slice q a.words.length r) (.slice s a.bits.length t) (.slice u a.data.length v) (.slice y a.recs.length z) a.mei a.kind a.level a.more a.next (.slice B a.objects.length C))) (fun w' hs=>gW (g:=ab) (off:=0) [vB a.code,vB a.fail,vW a.addr,vW a.count,vW a.value,vW a.and_,vW a.or_,vW a.addr2,vW a.sub,vW a.status,vW a.events,vW a.messages,.slice q a.words.length r,.slice s a.bits.length t,.slice u a.data.length v,.slice y a.recs.length z,vB a.mei,vB a.kind,vB a.level,vB a.more,vB a.next,.slice B a.objects.length C] rfl (by kernel_rfl) hs.2 (by kernel_rfl) (by kernel_rfl) rfl)<|Rt 5 D<|?_
 refine R0 6 rfl<|gk (ub (aJ l (aJ G (aJ N O))) d) #[vB (x.getD 0 0),vW 0,vB a.code,vB a.fail,vW a.addr,vW a.count,vW a.value,vW a.and_,vW a.or_,vW a.addr2,vW a.sub,vW a.status,vW a.events,vW a.messages,.slice q a.words.length r,.slice s a.bits.length t,.slice u a.data.length v,.slice y a.recs.length z,vB a.mei,vB a.kind,vB a.level,vB a.more,vB a.next,.slice B a.objects.length C] fun c2 bA aj=>?_
 have W:=uz O aj
 refine bp ⟨(cB ((ax af W (fun x hx=>(aa (fun e=>(aL (au d) l.size S) (e▸hx)) aF)) (fun _ _ h=>h))).rd ag 0 (by omega)),(be aj (Ne.symm (nb (au d) (le (le (le l.size a5.size) T.size) V.size) ac)) ai)⟩ fun bC=>Rt 7 bC<|re<|tn<|rt<|bH bA (vI 0)<|?_
 have hX2:cw dir (eM x)=(a,H):=(congrArg (cw dir) (kf x)).trans U
 have hs:eD dir b=(⟨(x.getD 0 0),0,a⟩,0):=by
   unfold eD
   (try simp only[f,i,j,p,L,I,bj,ch,hds,hth,hX2,reduceIte])
   all_goals rfl
 refine dL hs ?_
 exact⟨_,rfl,⟨#[vB a.code,vB a.fail,vW a.addr,vW a.count,vW a.value,vW a.and_,vW a.or_,vW a.addr2,vW a.sub,vW a.status,vW a.events,vW a.messages,.slice q a.words.length r,.slice s a.bits.length t,.slice u a.data.length v,.slice y a.recs.length z,vB a.mei,vB a.kind,vB a.level,vB a.more,vB a.next,.slice B a.objects.length C],(by as_aux_lemma=>kernel_rfl),(aI.upd a9 (uz ad W) (av (b6 (ub (aJ l (aJ G V)) d) (by decide)) aN)),b8 (x:=(x.getD 0 0)) (by omega),cT (x:=0) (by omega)⟩,(ud ae W k)⟩
theorem wF{m:Md}{v:Value}{b:List Int}{w:World}{dir:Int}(h:aX m w v b)(hb:b.length≤1048576) : Calls Tryz.prog 56 #[.int .i64 dir,v] w (mO (eD dir b) w):=by
  obtain⟨A,cp,rfl,_,_⟩:=h.shape
  exact tc h hb
open Go.RowKit
def mX (u:Int)(l:List Int) : List Int:=([58]++dp (([u]++l)++[cE ([u]++l)]))++[13,10]
def fQ (dir u t:Int)(M:aT) : Option (List Int) :=
  match db dir M with
  | none=>none
  | some l=>if t != 0 then none else some (mX u l)
def mt (res:Option (List Int))(w:World)(e:Ending)(w':World) : Prop :=
  match res with
  | some l=>∃ v,e = .returned (.tuple #[v,.int .i64 0])∧hH w.heap.size w' v l∧aH [] w w'
  | none=>e = .returned (.tuple #[.slice none 0 0,.int .i64 1])∧aH [] w w'
theorem tG{x y:Option (List Int)}(h:x=y){w:World}{e:Ending}{w':World}(k:mt y w e w') : mt x w e w':=by rw[h];exact k
theorem hH.weaken{base base':Nat}{w:World}{v:Value}{xs:List Int}(h:hH base w v xs)(k:base'≤base) : hH base' w v xs:=by
  obtain⟨g,cap,cur,n,h1,h2,h3⟩:=h
  exact⟨g,cap,cur,n,h1,Nat.le_trans k h2,h3⟩
theorem jK(b:List Int) : 0≤cE b∧cE b<256:=by unfold cE;omega
theorem pD{m:Md}{cs:Array Value}{M:aT}{w:World}{dir u t:Int}(h:aI m w cs.toList M)(hf:bi M)(hu:B8 u)(ht:eP t) : Calls Tryz.prog 266 #[vI dir,.agg (#[vB u,vW t]++cs)] w (mt (fQ dir u t M) w):=by
 have hM:=h
 obtain⟨hu1,hu2⟩:=hu
 obtain⟨ht1,ht2⟩:=ht
 refine fE h fun Aw kw Ab kb Ad kd Ar kr Ao ko e hw hbt hd hr ho _ _ _ _ _ _ _ _ _ _ q0 q1 q2 q3 q4 q5 q6 q7 q8 q9 W X Y Z a0 a1 a2=>?_
 subst e
 refine en 39 Tryz.func266 rfl<|sg<|L0<|da #[vB u,vW t,vB M.code,vB M.fail,vW M.addr,vW M.count,vW M.value,vW M.and_,vW M.or_,vW M.addr2,vW M.sub,vW M.status,vW M.events,vW M.messages,.slice Aw M.words.length kw,.slice Ab M.bits.length kb,.slice Ad M.data.length kd,.slice Ar M.recs.length kr,vB M.mei,vB M.kind,vB M.level,vB M.more,vB M.next,.slice Ao M.objects.length ko] fun a3 a4 a5 o c=>Pl 2<|aM 2<|L0<|nZ o 2 22<|?_
 rcases hwr:db dir M with _|lw
 have p:=gv (dir:=dir) (aI.old hM c) hf
 rw[hwr] at p
 refine ay<|m1 p fun a6 C=>ah 5<|sq<|aD 8<|c1<|ak 2<|nl<|tn<|aV<|rr (.tuple #[nS,vI 1])<|?_
 exact cC (y:=none) (by unfold fQ;(try simp only[hwr,bj,reduceIte])<;>rfl) ⟨rfl,(aJ c C)⟩
 have hlw:=it hwr
 have q:=gv (dir:=dir) (aI.old hM c) hf
 rw[hwr] at q
 refine ay<|e9 q fun a7 a8 a9 D aa ab k=>ah 5<|sq<|ak 5<|?_
 have r:=ub k o
 refine L1<|dX r 1<|ah 2<|?_
 have s:=aJ c k
 refine cb ((t != 0)) (fun d=>?_) (fun d=>?_)
 have E:=az d
 exact aD 2<|aV<|rr (.tuple #[nS,vI 1])<|cC (y:=none) (by unfold fQ;(try simp only[hwr,d,bj,reduceIte])<;>rfl) ⟨rfl,s⟩
 have E:=aA d
 refine bo<|ak 2<|aE r 0<|L0<|d9 (m:=1) (e:=5) #[vB u] fun F ac G H f=>?_
 have v:=cL G (xs:=[u]) (by as_aux_lemma=>kernel_rfl) (ap (by omega) aR) (by(try simp only[List.length_cons,List.length_nil]);omega) H
 refine Pl 1<|?_
 refine L0<|bS b9 (xs:=([u])) (ys:=lw) (vB 0) 1 v ((ax D f (fun x hx=>aF) (fun _ _ h=>h))).rd (by(try simp only[bV,aB]);omega) f.size fun g I ad l n=>Pl 1<|aM 2<|ay (args:=#[.slice g (([u]++lw).length) I])<|m1 (oU (l).rd) fun ae i=>?_
 have af:=jK ([u]++lw)
 refine L0<|d9 (m:=1) (e:=5) #[vB (cE ([u]++lw))] fun ag ai J K j=>?_
 have L:=cL J (xs:=[(cE ([u]++lw))]) (by as_aux_lemma=>kernel_rfl) (ap (by omega) aR) (by(try simp only[List.length_cons,List.length_nil]);omega) K
 refine L0<|bS b9 (xs:=([u]++lw)) (ys:=([(cE ([u]++lw))])) (vB 0) 1 (ax (ax l i (fun x hx=>aF) (fun _ _ h=>h)) j (fun x hx=>aF) (fun _ _ h=>h)) (L).rd (by(try simp only[bV,aB]);omega) (le (le (le f.size n.size) i.size) j.size) fun N O aj z A=>ay (args:=#[.slice N ((([u]++lw)++[(cE ([u]++lw))]).length) O])<|m1 (yg (z).rd (by simp only[bV];omega)) fun al B=>?_
 have P:dz (dp (([u]++lw)++[(cE ([u]++lw))])):=jI (aX.range (z).rd)
 have Q:dz ([58]++(dp (([u]++lw)++[(cE ([u]++lw))]))):=gD (by decide) P
 refine L0<|gt (.string (strOfNums ([58]++(dp (([u]++lw)++[(cE ([u]++lw))]))))) (jp (a:=⟨#[58]⟩) (b:=(strOfNums (dp (([u]++lw)++[(cE ([u]++lw))])))) (xs:=([58])) (ys:=(dp (([u]++lw)++[(cE ([u]++lw))]))) rfl (by kernel_rfl) (by kernel_rfl) rfl rfl (by simp only[eb,List.length_append,List.length_cons,List.length_nil];omega))<|?_
 have R:dz (([58]++(dp (([u]++lw)++[(cE ([u]++lw))])))++[13,10]):=gD Q (by decide)
 refine L0<|gt (.string (strOfNums (([58]++(dp (([u]++lw)++[(cE ([u]++lw))])))++[13,10]))) (jp (a:=(strOfNums ([58]++(dp (([u]++lw)++[(cE ([u]++lw))]))))) (b:=⟨#[13,10]⟩) (xs:=([58]++(dp (([u]++lw)++[(cE ([u]++lw))])))) (ys:=([13,10])) rfl (by kernel_rfl) (by kernel_rfl) rfl rfl (by simp only[eb,List.length_append,List.length_cons,List.length_nil];omega))<|L0<|EQ (xs:=(([58]++(dp (([u]++lw)++[(cE ([u]++lw))])))++[13,10])) Tryz.underlying9 Tryz.underlying27 Tryz.underlying5 R (by simp only[eb,List.length_append,List.length_cons,List.length_nil];omega) fun S T am U V=>ah 2<|rt<|rr (.tuple #[.slice S ((([58]++(dp (([u]++lw)++[(cE ([u]++lw))])))++[13,10]).length) T,vI 0])<|?_
 exact cC (y:=(some (([58]++(dp (([u]++lw)++[(cE ([u]++lw))])))++[13,10]))) (by unfold fQ;(try simp only[hwr,d,bj,reduceIte])<;>rfl) ⟨_,rfl,U.weaken (le (le (le (le (le (le (le c.size k.size) f.size) n.size) i.size) j.size) A.size) B.size),(aJ s (ut f (ut (aH.mono (S':=(ob (some ⟨F,0,none⟩)++(ob g++[]))) n (aq il aC)) (ut (aH.mono (S':=(ob g++[])) i aC) (ut (aH.mono (S':=(ob g++[])) j aC) (aJ A (aJ B V)) (aq il aC)) (aq il aC)) (aq il aC)) (aq (aU v lr) (aq (aU l lr) aC))))⟩
open Go.RowKit
theorem qK{m:Md}{v:Value}{b:List Int}{w:World}{dir:Int}{F:cF}{E:Int}(hX:eD dir b=(F,E))(h:aX m w v b)(hb:b.length≤1048576) : Calls Tryz.prog 56 #[.int .i64 dir,v] w (fun e w'=>∃ x,e = .returned (.tuple #[.agg (dH F.unit F.tid F.msg x),.int .i64 E])∧(aI true w' (f8 F.msg x).toList F.msg∧(0≤F.unit∧F.unit<256)∧(0≤F.tid∧F.tid<65536))∧aH [] w w'):=by
  refine(wF h hb).mono ?_
  rintro e w' ⟨cs,rfl,h1,h2⟩
  rw[hX] at h1 ⊢
  obtain⟨c,rfl,h3,h4,h5⟩:=h1
  obtain⟨x,rfl⟩:=mF h3
  exact⟨x,by rw[i2],⟨h3,h4,h5⟩,h2⟩
theorem rk{m:Md}{x:SL}{M:aT}{w:World}{dir u t:Int}(hX:fQ dir u t M=none)(h:aI m w (f8 M x).toList M)(hf:bi M)(hu:0≤u∧u<256)(ht:0≤t∧t<65536) : Calls Tryz.prog 266 #[.int .i64 dir,.agg (dH u t M x)] w (fun e w'=>e = .returned (.tuple #[.slice none 0 0,.int .i64 1])∧aH [] w w'):=by
  have:=pD (dir:=dir) h hf hu ht
  rw[hX] at this
  rw[i2]
  exact this
theorem sJ{m:Md}{x:SL}{M:aT}{w:World}{dir u t:Int}{l:List Int}(hX:fQ dir u t M=some l)(h:aI m w (f8 M x).toList M)(hf:bi M)(hu:0≤u∧u<256)(ht:0≤t∧t<65536) : Calls Tryz.prog 266 #[.int .i64 dir,.agg (dH u t M x)] w (fun e w'=>∃ v,e = .returned (.tuple #[v,.int .i64 0])∧hH w.heap.size w' v l∧aH [] w w'):=by
  have:=pD (dir:=dir) h hf hu ht
  rw[hX] at this
  rw[i2]
  exact this
open Go.RowKit
def wN (b:List Int) : ai:=⟨b,false,0⟩
def w9 (b:List Int) : ai:=(wN b).wordsC 1
def uL (b:List Int) : ai:=(w9 b).wordsC 1
def vf (b:List Int) : ai:=(uL b).wordsC 1
def vl (b:List Int) : ai:=(vf b).bytesC 1
def lv (b:List Int) : List Int:=(vl b).bytesR (((vl b).l.length:Nat) : Int)
def dq (dir:Int)(b:List Int) : cF × Int :=
  if dir != 0&&dir != 1 then (cF.zero,1)
  else if decide ((b.length:Int)<8) then (cF.zero,2)
  else if decide (260<(b.length:Int)) then (cF.zero,3)
  else if (w9 b).wordV != 0 then (cF.zero,13)
  else if (uL b).wordV != (b.length:Int)-6 then (cF.zero,5)
  else ch (vf b).byteV (wN b).wordV (cw dir (lv b))
theorem rj{m:Md}{A:Option Addr}{cp:Nat}{b:List Int}{w:World}{dir:Int}(hsl:aX m w (.slice A b.length cp) b)(hb:b.length≤1048576) :
    Calls Tryz.prog 107 #[vI dir,.slice A b.length cp] w (mO (dq dir b) w):=by
 have hln:(b.length:Int)≤1048576:=by omega
 refine en 75 Tryz.func107 rfl<|sg<|aK #[vB 0,vW 0,vB 0,vB 0,vW 0,vW 0,vW 0,vW 0,vW 0,vW 0,vW 0,vW 0,vW 0,vW 0,nS,nS,nS,nS,vB 0,vB 0,vB 0,vB 0,vB 0,nS] fun b7 b9 g e i=>ah 1<|sq<|bk<|ak 3<|cu 3 [17] 20 (((dir != 0)&&(dir != 1))) (fun K N=>?_) ?_
 refine bl 17 ((dir != 0)) (fun o=>?_) (fun o=>?_)
 have Z:=az o
 exact Pl 3<|ce N (dir != 1) (by rw[o];rfl)
 have Z:=aA o
 exact Pl 3<|ce N false (by rw[o];rfl)
 refine ah 1<|cb (((dir != 0)&&(dir != 1))) (fun c=>?_) (fun c=>?_)
 have O:=(bB c).1
 have P:=(bB c).2
 have ba:=az O
 have bb:=az P
 refine ak 1<|aG e #[vB 0,vW 0,vB 0,vB 0,vW 0,vW 0,vW 0,vW 0,vW 0,vW 0,vW 0,vW 0,vW 0,vW 0,nS,nS,nS,nS,vB 0,vB 0,vB 0,vB 0,vB 0,nS] fun bc a0 a1=>ah 1<|rt<|br<|tr<|bH a0 (vI 1)<|?_
 have hs:dq dir b=(cF.zero,1):=by
   unfold dq
   (try simp only[c,O,P,bj,ch,vl,vf,uL,w9,wN,reduceIte])
   all_goals rfl
 refine dL hs ?_
 exact cJ (ud i a1 g)
 refine aD 4<|cb ((decide ((b.length:Int)<8))) (fun d=>?_) (fun d=>?_)
 have a2:=of_decide_eq_true d
 refine ak 1<|aG e #[vB 0,vW 0,vB 0,vB 0,vW 0,vW 0,vW 0,vW 0,vW 0,vW 0,vW 0,vW 0,vW 0,vW 0,nS,nS,nS,nS,vB 0,vB 0,vB 0,vB 0,vB 0,nS] fun bd a3 a4=>ah 1<|rt<|br<|tr<|bH a3 (vI 2)<|?_
 have hs:dq dir b=(cF.zero,2):=by
   unfold dq
   (try simp only[c,d,bj,ch,vl,vf,uL,w9,wN,reduceIte])
   all_goals rfl
 refine dL hs ?_
 exact cJ (ud i a4 g)
 have a2:=of_decide_eq_false d
 refine aD 4<|cb ((decide (260<(b.length:Int)))) (fun f=>?_) (fun f=>?_)
 have a5:=of_decide_eq_true f
 refine ak 1<|aG e #[vB 0,vW 0,vB 0,vB 0,vW 0,vW 0,vW 0,vW 0,vW 0,vW 0,vW 0,vW 0,vW 0,vW 0,nS,nS,nS,nS,vB 0,vB 0,vB 0,vB 0,vB 0,nS] fun be a6 a7=>ah 1<|rt<|br<|tr<|bH a6 (vI 3)<|?_
 have hs:dq dir b=(cF.zero,3):=by
   unfold dq
   (try simp only[c,d,f,bj,ch,vl,vf,uL,w9,wN,reduceIte])
   all_goals rfl
 refine dL hs ?_
 exact cJ (ud i a7 g)
 have a5:=of_decide_eq_false f
 refine sk<|bn<|tn<|ak 1<|?_
 refine ay<|e3 (et (aX.old hsl i) (by omega)) fun u bf p a8 a9=>Pl 1<|aM 1<|aM 2<|L0<|i8 #[] #[] (args:=#[vP u 0])<|m3 (ck a8) fun bg aa ac bh=>Pl 2<|L0<|i8 #[] #[] (args:=#[vP u 0])<|m3 (ck aa) fun bi ad ae bm=>?_
 refine ab ad fun x46 s af=>?_
 refine Pl 2<|L0<|i8 #[] #[] (args:=#[vP u 0])<|m3 (ck af) fun bp ag aj bs=>ah 3<|sq<|bk<|aD 3<|?_
 have j:=ud a9 (u1 ac (u1 ae aj im) im) p
 have v:=aJ i j
 refine cb (((((ai.mk b false 0).wordsC 1).wordV)!=0)) (fun h=>?_) (fun h=>?_)
 have am:=az h
 refine ak 1<|?_
 refine aG (ub j e) #[vB 0,vW 0,vB 0,vB 0,vW 0,vW 0,vW 0,vW 0,vW 0,vW 0,vW 0,vW 0,vW 0,vW 0,nS,nS,nS,nS,vB 0,vB 0,vB 0,vB 0,vB 0,nS] fun bt an ao=>ah 1<|rt<|br<|tr<|bH an (vI 13)<|?_
 subst s
 have hs:dq dir b=(cF.zero,13):=by
   unfold dq
   (try simp only[c,d,f,h,bj,ch,vl,vf,uL,w9,wN,reduceIte])
   all_goals rfl
 refine dL hs ?_
 exact cJ (ud v ao g)
 have am:=aA h
 refine ak 1<|bq x46.wordV<|Pl 2<|bq ((b.length:Int)-6)<|ah 2<|cb ((x46.wordV != ((b.length:Int)-6))) (fun k=>?_) (fun k=>?_)
 have ap:=az k
 refine ak 1<|?_
 refine aG (ub j e) #[vB 0,vW 0,vB 0,vB 0,vW 0,vW 0,vW 0,vW 0,vW 0,vW 0,vW 0,vW 0,vW 0,vW 0,nS,nS,nS,nS,vB 0,vB 0,vB 0,vB 0,vB 0,nS] fun bu aq ar=>ah 1<|rt<|br<|tr<|bH aq (vI 5)<|?_
 subst s
 have hs:dq dir b=(cF.zero,5):=by
   unfold dq
   (try simp only[c,d,f,h,k,bj,ch,vl,vf,uL,w9,wN,reduceIte])
   all_goals rfl
 refine dL hs ?_
 exact cJ (ud v ar g)
 have ap:=aA k
 refine sk<|bn<|tn<|ak 1<|ay<|m3 (cl ag) fun bv t Q bw=>Pl 1<|aM 3<|ay<|mq (eQ t)<|?_
 have bx:=al.len t
 refine ay<|wH (cR (n:=((((x46.wordsC 1).bytesC 1).l.length:Nat) : Int)) t) fun bz bA au aw bC bD ax R=>?_
 have bE:=Nat.le_trans (ai.bytesR_le ((x46.wordsC 1).bytesC 1) ((((x46.wordsC 1).bytesC 1).l.length:Nat) : Int)) (al.len t)
 refine ab ax fun x80 S bF=>?_
 obtain⟨a,q,x⟩ : ∃ M E,cw dir (((x46.wordsC 1).bytesC 1).bytesR ((((x46.wordsC 1).bytesC 1).l.length:Nat) : Int))=(M,E):=⟨_,_,rfl⟩
 have T:=lc (dir:=dir) (w:=au) aw (by omega)
 rw[x] at T
 refine ay<|e2 T fun aB bG U V=>?_
 have aC:=U
 obtain⟨aE,aF,aH,aL,aO,aP,aQ,aR,aS,aT,aU,bI⟩:=aC
 obtain rfl:aB=(eC a aE aF aH aL aO).toArray:=by apply Array.toList_inj.1;simpa using aP
 obtain⟨y,z,rfl,_,_⟩:=aQ.shape
 obtain⟨B,C,rfl,_,_⟩:=aR.shape
 obtain⟨D,F,rfl,_,_⟩:=aS.shape
 obtain⟨G,H,rfl,_,_⟩:=aT.shape
 obtain⟨I,J,rfl,_,_⟩:=aU.shape
 refine Pl 3<|aK mZ fun bJ bK aW aY aZ=>aG aY (mG a.code a.fail a.addr a.count a.value a.and_ a.or_ a.addr2 a.sub a.status a.events a.messages (.slice y a.words.length z) (.slice B a.bits.length C) (.slice D a.data.length F) (.slice G a.recs.length H) a.mei a.kind a.level a.more a.next (.slice I a.objects.length J)) fun bL b0 b1=>ah 1<|sq<|aD 2<|?_
 have W:=ud aZ b1 aW
 have L:=u1 Q (aJ R (aJ V W)) im
 have X:=ud v L (le i.size p)
 refine cb ((q != 0)) (fun r=>?_) (fun r=>?_)
 have b2:=az r
 refine ak 2<|?_
 refine aG (ub (ud j L p) e) #[vB 0,vW 0,vB 0,vB 0,vW 0,vW 0,vW 0,vW 0,vW 0,vW 0,vW 0,vW 0,vW 0,vW 0,nS,nS,nS,nS,vB 0,vB 0,vB 0,vB 0,vB 0,nS] fun bM b3 b4=>ah 1<|aV<|bH b3 (vI q)<|?_
 subst S s
 have hX2:cw dir (lv b)=(a,q):=x
 have hs:dq dir b=(cF.zero,q):=by
   unfold dq
   (try simp only[c,d,f,h,k,r,bj,ch,vl,vf,uL,w9,wN,hX2,reduceIte])
   all_goals rfl
 refine dL hs ?_
 exact cJ (ud X b4 g)
 have b2:=aA r
 refine bo<|ak 3<|L0<|bO b0<|Pl 1<|?_
 refine aG (ub (ud j L p) e) #[vB ((x46.wordsC 1).byteV),vW ((ai.mk b false 0).wordV),vB a.code,vB a.fail,vW a.addr,vW a.count,vW a.value,vW a.and_,vW a.or_,vW a.addr2,vW a.sub,vW a.status,vW a.events,vW a.messages,.slice y a.words.length z,.slice B a.bits.length C,.slice D a.data.length F,.slice G a.recs.length H,vB a.mei,vB a.kind,vB a.level,vB a.more,vB a.next,.slice I a.objects.length J] fun bN b5 Y=>ah 1<|rt<|bH b5 (vI 0)<|?_
 subst S s
 have hX2:cw dir (lv b)=(a,q):=x
 have hs:dq dir b=(⟨((((ai.mk b false 0).wordsC 1).wordsC 1).wordsC 1).byteV,(ai.mk b false 0).wordV,a⟩,0):=by
   unfold dq
   (try simp only[c,d,f,h,k,r,bj,ch,vl,vf,uL,w9,wN,hX2,reduceIte])
   all_goals rfl
 refine dL hs ?_
 exact⟨_,rfl,⟨#[vB a.code,vB a.fail,vW a.addr,vW a.count,vW a.value,vW a.and_,vW a.or_,vW a.addr2,vW a.sub,vW a.status,vW a.events,vW a.messages,.slice y a.words.length z,.slice B a.bits.length C,.slice D a.data.length F,.slice G a.recs.length H,vB a.mei,vB a.kind,vB a.level,vB a.more,vB a.next,.slice I a.objects.length J],(by as_aux_lemma=>kernel_rfl),(aI.upd U (uz W Y) (av (b6 (ub (ud j (u1 Q (aJ R V) im) p) e) (by decide)) aN)),b8 (by omega),cT (by omega)⟩,(ud X Y g)⟩
theorem un{m:Md}{v:Value}{b:List Int}{w:World}{dir:Int}(h:aX m w v b)(hb:b.length≤1048576) : Calls Tryz.prog 107 #[.int .i64 dir,v] w (mO (dq dir b) w):=by
  obtain⟨A,cp,rfl,_,_⟩:=h.shape
  exact rj h hb
open Go.RowKit
def ey (dir u t:Int)(M:aT) : Option (List Int) :=
  match db dir M with
  | none=>none
  | some l=>some ((aP [t,0,((l.length:Int)+1)%65536]++[u])++l)
theorem mW{m:Md}{cs:Array Value}{M:aT}{w:World}{dir u t:Int}(h:aI m w cs.toList M)(hf:bi M)(hu:B8 u)(ht:eP t) : Calls Tryz.prog 275 #[vI dir,.agg (#[vB u,vW t]++cs)] w (e8 (ey dir u t M) w):=by
 have hM:=h
 obtain⟨hu1,hu2⟩:=hu
 obtain⟨ht1,ht2⟩:=ht
 refine fE h fun Aw kw Ab kb Ad kd Ar kr Ao ko e hw hbt hd hr ho _ _ _ _ _ _ _ _ _ _ q0 q1 q2 q3 q4 q5 q6 q7 q8 q9 J K L N O P Q=>?_
 subst e
 refine en 35 Tryz.func275 rfl<|sg<|L0<|da #[vB u,vW t,vB M.code,vB M.fail,vW M.addr,vW M.count,vW M.value,vW M.and_,vW M.or_,vW M.addr2,vW M.sub,vW M.status,vW M.events,vW M.messages,.slice Aw M.words.length kw,.slice Ab M.bits.length kb,.slice Ad M.data.length kd,.slice Ar M.recs.length kr,vB M.mei,vB M.kind,vB M.level,vB M.more,vB M.next,.slice Ao M.objects.length ko] fun R S T g a=>Pl 2<|aM 2<|L0<|nZ g 2 22<|?_
 rcases hwr:db dir M with _|lw
 have i:=gv (dir:=dir) (aI.old hM a) hf
 rw[hwr] at i
 refine ay<|m1 i fun U r=>ah 5<|sq<|aD 2<|c1<|ak 2<|nl<|tn<|aV<|rr (.tuple #[nS,vI 1])<|?_
 exact cC (y:=none) (by unfold ey;(try simp only[hwr])<;>rfl) ⟨rfl,(aJ a r)⟩
 have hlw:=it hwr
 have j:=gv (dir:=dir) (aI.old hM a) hf
 rw[hwr] at j
 refine ay<|e9 j fun V W X s Y Z d=>ah 5<|sq<|aD 2<|c0<|bo<|sq<|go<|Pl 2<|?_
 have k:=ub d g
 refine aE k 1<|Pl 2<|bq ((lw.length:Int)+1)<|Pl 1<|L0<|d9 (m:=3) (e:=37) #[vW t,vW 0,vW (((lw.length:Int)+1)%65536)] fun a0 a1 v z b=>?_
 have A:=eJ v (xs:=[t,0,(((lw.length:Int)+1)%65536)]) (by as_aux_lemma=>kernel_rfl) (ap (by omega) (ap (by omega) (ap (by omega) aR))) (by(try simp only[List.length_cons,List.length_nil]);omega) z
 refine ay<|e9 (cZ (xs:=[t,0,(((lw.length:Int)+1)%65536)]) (A).rd (by(try simp only[List.length_cons,List.length_nil]);omega)) fun B a2 a3 l a4 a5 f=>Pl 1<|aM 3<|?_
 have n:=aJ b f
 refine aE (ub n k) 0<|L0<|d9 (m:=1) (e:=5) #[vB u] fun a6 a7 C D c=>?_
 have E:=cL C (xs:=[u]) (by as_aux_lemma=>kernel_rfl) (ap (by omega) aR) (by(try simp only[List.length_cons,List.length_nil]);omega) D
 refine L0<|bS b9 (xs:=(aP ([t,0,(((lw.length:Int)+1)%65536)]))) (ys:=([u])) (vB 0) 1 (ax l c (fun x hx=>aF) (fun _ _ h=>h)) (E).rd (by(try simp only[bV,aB]);omega) (le f.size c.size) fun a8 a9 aa o p=>Pl 1<|?_
 have q:=ut n (ut (aH.mono (S':=(ob B++[])) c aC) p (aq il aC)) (aq (aU l b.size) aC)
 refine L0<|bS b9 (xs:=((aP ([t,0,(((lw.length:Int)+1)%65536)]))++[u])) (ys:=lw) (vB 0) 1 o ((ax s q (fun x hx=>aF) (fun _ _ h=>h))).rd (by(try simp only[bV,aB]);omega) (le (le f.size c.size) p.size) fun F G ab H I=>ah 2<|rt<|rr (.tuple #[.slice F ((((aP ([t,0,(((lw.length:Int)+1)%65536)]))++[u])++lw).length) G,vI 0])<|?_
 exact cC (y:=(some (((aP ([t,0,(((lw.length:Int)+1)%65536)]))++[u])++lw))) (by unfold ey;(try simp only[hwr])<;>rfl) ⟨_,rfl,(b7.weaken H (le (le a.size d.size) b.size)),(aJ a (aJ d (ut q I (aq (aU o b.size) aC))))⟩
open Go.RowKit
theorem qB{m:Md}{v:Value}{b:List Int}{w:World}{dir:Int}{F:cF}{E:Int}(hX:dq dir b=(F,E))(h:aX m w v b)(hb:b.length≤1048576) : Calls Tryz.prog 107 #[.int .i64 dir,v] w (fun e w'=>∃ x,e = .returned (.tuple #[.agg (dH F.unit F.tid F.msg x),.int .i64 E])∧(aI true w' (f8 F.msg x).toList F.msg∧(0≤F.unit∧F.unit<256)∧(0≤F.tid∧F.tid<65536))∧aH [] w w'):=by
  refine(un h hb).mono ?_
  rintro e w' ⟨cs,rfl,h1,h2⟩
  rw[hX] at h1 ⊢
  obtain⟨c,rfl,h3,h4,h5⟩:=h1
  obtain⟨x,rfl⟩:=mF h3
  exact⟨x,by rw[i2],⟨h3,h4,h5⟩,h2⟩
theorem pW{m:Md}{x:SL}{M:aT}{w:World}{dir u t:Int}(hX:ey dir u t M=none)(h:aI m w (f8 M x).toList M)(hf:bi M)(hu:0≤u∧u<256)(ht:0≤t∧t<65536) : Calls Tryz.prog 275 #[.int .i64 dir,.agg (dH u t M x)] w (fun e w'=>e = .returned (.tuple #[.slice none 0 0,.int .i64 1])∧aH [] w w'):=by
  have:=mW (dir:=dir) h hf hu ht
  rw[hX] at this
  rw[i2]
  exact this
theorem qn{m:Md}{x:SL}{M:aT}{w:World}{dir u t:Int}{l:List Int}(hX:ey dir u t M=some l)(h:aI m w (f8 M x).toList M)(hf:bi M)(hu:0≤u∧u<256)(ht:0≤t∧t<65536) : Calls Tryz.prog 275 #[.int .i64 dir,.agg (dH u t M x)] w (fun e w'=>∃ v,e = .returned (.tuple #[v,.int .i64 0])∧eB w.heap.size w' v l∧aH [] w w'):=by
  have:=mW (dir:=dir) h hf hu ht
  rw[hX] at this
  rw[i2]
  exact this
open Go.RowKit
def jh (k dir:Int)(b:List Int) : cF × Int:=bif k==0 then ec dir b else bif k==1 then eD dir b else bif k==2 then dq dir b else (cF.zero,1)
def gC (k dir u t:Int)(M:aT) : Option (List Int):=bif k==0 then fP dir u t M else bif k==1 then fQ dir u t M else bif k==2 then ey dir u t M else none
def l6 (k:Int) : Int:=bif k==0 then 256 else bif k==1 then 513 else bif k==2 then 260 else 0
theorem k4{C:Prop}(k:Int)(h0:k=0→C)(h1:k=1→C)(h2:k=2→C)(h3:(k==0)=false→(k==1)=false→(k==2)=false→C) : C:=by
  cases e0:k==0
  · cases e1:k==1
    · cases e2:k==2
      · exact h3 e0 e1 e2
      · exact h2 (by simpa using e2)
    · exact h1 (by simpa using e1)
  · exact h0 (by simpa using e0)
theorem yj{k dir:Int}{b:List Int}(h0:(k==0)=false)(h1:(k==1)=false)(h2:(k==2)=false) : jh k dir b=(cF.zero,1):=by unfold jh;rw[h0,h1,h2];rfl
theorem yb{k dir u t:Int}{M:aT}(h0:(k==0)=false)(h1:(k==1)=false)(h2:(k==2)=false) : gC k dir u t M=none:=by unfold gC;rw[h0,h1,h2];rfl
theorem yn{k:Int}(h0:(k==0)=false)(h1:(k==1)=false)(h2:(k==2)=false) : l6 k=0:=by unfold l6;rw[h0,h1,h2];rfl
def fd (base:Nat)(w:World)(v:Value)(xs:List Int) : Prop:=aX true w v xs∧∃ A n c,v = .slice A n c∧∀ x,x∈ob A→base≤x
theorem fd.wk{base base':Nat}{w:World}{v:Value}{xs:List Int}(h:fd base w v xs)(k:base'≤base) : fd base' w v xs:=by
  obtain⟨h1,A,n,c,h2,h3⟩:=h
  exact⟨h1,A,n,c,h2,fun x hx=>Nat.le_trans k (h3 x hx)⟩
def WR (res:Option (List Int))(base:Nat)(w:World)(v:Value)(n:Int) : Prop:=match res with
  | some l=>n=0∧fd base w v l
  | none=>n=1∧v = .slice none 0 0
theorem WR.wk{res:Option (List Int)}{base base':Nat}{w:World}{v:Value}{n:Int}(h:WR res base w v n)(k:base'≤base) : WR res base' w v n:=by
  cases res with
  | none=>exact h
  | some l=>exact⟨h.1,h.2.wk k⟩
def sU (res:Option (List Int))(w:World)(e:Ending)(w':World) : Prop:=∃ v n,e = .returned (.tuple #[v,.int .i64 n])∧WR res w.heap.size w' v n∧aH [] w w'
theorem fd.of{base:Nat}{w:World}{v:Value}{xs:List Int}(h:eB base w v xs) : fd base w v xs:=by
  obtain⟨A,c,rfl,_,_⟩:=h.rd.shape
  exact⟨h.rd,A,_,c,rfl,v7 h⟩
theorem fd.ofF{base:Nat}{w:World}{v:Value}{xs:List Int}(h:hH base w v xs) : fd base w v xs:=by
  obtain⟨b,c,rfl⟩:=h.shape
  exact⟨h.rd,_,_,c,rfl,fun x hx=>by simp[ob] at hx;subst hx;exact h.ge⟩
theorem qe{w:World}:Calls Tryz.prog 59 #[vI 0] w (cc (.iface 133 (.agg #[])) w):=by
 exact en 18 Tryz.func59 rfl<|aD 1<|sq<|aD 1<|bk<|sq<|go<|ah 2<|c1<|aD 3<|rt<|br<|tr<|rr (.iface 133 (.agg #[]))<|⟨rfl,(aH.refl [] _)⟩
theorem pH{w:World}:Calls Tryz.prog 59 #[vI 1] w (cc (.iface 134 (.agg #[])) w):=by
 exact en 18 Tryz.func59 rfl<|aD 1<|sq<|aD 1<|bk<|sq<|go<|ah 2<|c0<|aD 2<|c1<|ak 3<|nl<|tn<|rt<|br<|tr<|rr (.iface 134 (.agg #[]))<|⟨rfl,(aH.refl [] _)⟩
theorem qE{w:World}:Calls Tryz.prog 59 #[vI 2] w (cc (.iface 135 (.agg #[])) w):=by
 exact en 18 Tryz.func59 rfl<|aD 1<|sq<|aD 1<|bk<|sq<|go<|ah 2<|c0<|aD 2<|c0<|ak 2<|nl<|tn<|c1<|aD 3<|rt<|br<|tr<|rr (.iface 135 (.agg #[]))<|⟨rfl,(aH.refl [] _)⟩
theorem qf{w:World}{k:Int}(h0:(k==0)=false)(h1:(k==1)=false)(h2:(k==2)=false) : Calls Tryz.prog 59 #[vI k] w (cc (.iface 136 (.agg #[])) w):=by
 exact en 18 Tryz.func59 rfl<|aD 1<|sq<|aD 1<|bk<|sq<|go<|ah 2<|cf h0<|aD 2<|cf h1<|ak 2<|nl<|tn<|cf h2<|sk<|bn<|tn<|aD 3<|rt<|rr (.iface 136 (.agg #[]))<|⟨rfl,(aH.refl [] _)⟩
theorem BF{w:World}:Calls Tryz.prog 259 #[.agg #[]] w (cc (vI 256) w):=by
 exact en 3 Tryz.func259 rfl<|sg<|L0<|da #[] fun b c d e a=>Pl 1<|cN 1<|rt<|rr (vI 256)<|⟨rfl,a⟩
theorem wl{w:World}:Calls Tryz.prog 58 #[vI 0] w (cc (vI 256) w):=by
 refine en 6 Tryz.func58 rfl<|ak 1<|aM 1<|ay<|m1 (qe) fun c a=>L0<|xB (f:=259) (args:=#[.agg #[]]) 133 (.agg #[]) (.agg #[])<|m1 (@BF _) fun d b=>ah 1<|rt<|rr (vI 256)<|?_
 exact⟨rfl,(aJ a b)⟩
theorem Br{w:World}:Calls Tryz.prog 263 #[.agg #[]] w (cc (vI 513) w):=by
 exact en 3 Tryz.func263 rfl<|sg<|L0<|da #[] fun b c d e a=>Pl 1<|cN 1<|rt<|rr (vI 513)<|⟨rfl,a⟩
theorem wv{w:World}:Calls Tryz.prog 58 #[vI 1] w (cc (vI 513) w):=by
 refine en 6 Tryz.func58 rfl<|ak 1<|aM 1<|ay<|m1 (pH) fun c a=>L0<|xB (f:=263) (args:=#[.agg #[]]) 134 (.agg #[]) (.agg #[])<|m1 (@Br _) fun d b=>ah 1<|rt<|rr (vI 513)<|?_
 exact⟨rfl,(aJ a b)⟩
theorem Bj{w:World}:Calls Tryz.prog 272 #[.agg #[]] w (cc (vI 260) w):=by
 exact en 3 Tryz.func272 rfl<|sg<|L0<|da #[] fun b c d e a=>Pl 1<|cN 1<|rt<|rr (vI 260)<|⟨rfl,a⟩
theorem vE{w:World}:Calls Tryz.prog 58 #[vI 2] w (cc (vI 260) w):=by
 refine en 6 Tryz.func58 rfl<|ak 1<|aM 1<|ay<|m1 (qE) fun c a=>L0<|xB (f:=272) (args:=#[.agg #[]]) 135 (.agg #[]) (.agg #[])<|m1 (@Bj _) fun d b=>ah 1<|rt<|rr (vI 260)<|?_
 exact⟨rfl,(aJ a b)⟩
theorem BD{w:World}:Calls Tryz.prog 276 #[.agg #[]] w (cc (vI 0) w):=by
 exact en 3 Tryz.func276 rfl<|sg<|L0<|da #[] fun b c d e a=>Pl 1<|cN 1<|rt<|rr (vI 0)<|⟨rfl,a⟩
theorem w7{w:World}{k:Int}(h0:(k==0)=false)(h1:(k==1)=false)(h2:(k==2)=false) : Calls Tryz.prog 58 #[vI k] w (cc (vI 0) w):=by
 refine en 6 Tryz.func58 rfl<|ak 1<|aM 1<|ay<|m1 (qf h0 h1 h2) fun c a=>L0<|xB (f:=276) (args:=#[.agg #[]]) 136 (.agg #[]) (.agg #[])<|m1 (@BD _) fun d b=>ah 1<|rt<|rr (vI 0)<|?_
 exact⟨rfl,(aJ a b)⟩
theorem nK{w:World}{k:Int}:Calls Tryz.prog 58 #[.int .i64 k] w (cc (.int .i64 (l6 k)) w):=by
  refine k4 k (fun h=>?_) (fun h=>?_) (fun h=>?_) (fun h0 h1 h2=>?_)
  · subst h;exact wl
  · subst h;exact wv
  · subst h;exact vE
  · rw[yn h0 h1 h2];exact w7 h0 h1 h2
theorem AZ{m:Md}{A:Option Addr}{cp:Nat}{b:List Int}{w:World}{dir:Int}{F:cF}{E:Int}(hX:ec dir b=(F,E))(hsl:aX m w (.slice A b.length cp) b)(hb:b.length≤1048576) : Calls Tryz.prog 260 #[.agg #[],vI dir,.slice A b.length cp] w (fun e w'=>∃ x,e = .returned (.tuple #[.agg (dH F.unit F.tid F.msg x),vI E])∧(aI true w' (f8 F.msg x).toList F.msg∧(0≤F.unit∧F.unit<256)∧(0≤F.tid∧F.tid<65536))∧aH [] w w'):=by
 refine en 13 Tryz.func260 rfl<|sg<|L0<|da #[] fun q r s t a=>aK kX fun u v h i j=>Pl 1<|aM 2<|?_
 have c:=aJ a j
 refine ay<|e2 (rY hX (aX.old hsl c) hb) fun x20 y k d=>?_
 obtain⟨l,n,o⟩:=k
 refine Pl 2<|?_
 have f:=ub d i
 refine aG f (dH F.unit F.tid F.msg x20) fun z p g=>ah 1<|rt<|bH p (vI E)<|?_
 exact⟨x20,rfl,⟨(aI.upd l g (av (b6 f (by decide)) aN)),n,o⟩,(ud c (uz d g) (le a.size h))⟩
theorem tV{m:Md}{A:Option Addr}{cp:Nat}{b:List Int}{w:World}{dir:Int}{F:cF}{E:Int}(hX:ec dir b=(F,E))(hsl:aX m w (.slice A b.length cp) b)(hb:b.length≤1048576) : Calls Tryz.prog 50 #[vI 0,vI dir,.slice A b.length cp] w (fun e w'=>∃ x,e = .returned (.tuple #[.agg (dH F.unit F.tid F.msg x),vI E])∧(aI true w' (f8 F.msg x).toList F.msg∧(0≤F.unit∧F.unit<256)∧(0≤F.tid∧F.tid<65536))∧aH [] w w'):=by
 refine en 15 Tryz.func50 rfl<|sg<|aK kX fun r s i j k=>Pl 1<|aM 1<|ay<|m1 (qe) fun t a=>Pl 2<|?_
 have c:=aJ k a
 refine L0<|xB (f:=260) (args:=#[.agg #[],vI dir,.slice A b.length cp]) 133 (.agg #[]) (.agg #[])<|e2 (AZ hX (aX.old hsl c) hb) fun x17 u l d=>?_
 obtain⟨n,o,p⟩:=l
 refine Pl 2<|?_
 have g:=ub (aJ a d) j
 refine aG g (dH F.unit F.tid F.msg x17) fun v q h=>ah 1<|rt<|bH q (vI E)<|?_
 exact⟨x17,rfl,⟨(aI.upd n h (av (b6 g (by decide)) aN)),o,p⟩,(ud c (uz d h) i)⟩
theorem BC{m:Md}{A:Option Addr}{cp:Nat}{b:List Int}{w:World}{dir:Int}{F:cF}{E:Int}(hX:eD dir b=(F,E))(hsl:aX m w (.slice A b.length cp) b)(hb:b.length≤1048576) : Calls Tryz.prog 264 #[.agg #[],vI dir,.slice A b.length cp] w (fun e w'=>∃ x,e = .returned (.tuple #[.agg (dH F.unit F.tid F.msg x),vI E])∧(aI true w' (f8 F.msg x).toList F.msg∧(0≤F.unit∧F.unit<256)∧(0≤F.tid∧F.tid<65536))∧aH [] w w'):=by
 refine en 13 Tryz.func264 rfl<|sg<|L0<|da #[] fun q r s t a=>aK kX fun u v h i j=>Pl 1<|aM 2<|?_
 have c:=aJ a j
 refine ay<|e2 (qK hX (aX.old hsl c) hb) fun x20 y k d=>?_
 obtain⟨l,n,o⟩:=k
 refine Pl 2<|?_
 have f:=ub d i
 refine aG f (dH F.unit F.tid F.msg x20) fun z p g=>ah 1<|rt<|bH p (vI E)<|?_
 exact⟨x20,rfl,⟨(aI.upd l g (av (b6 f (by decide)) aN)),n,o⟩,(ud c (uz d g) (le a.size h))⟩
theorem tW{m:Md}{A:Option Addr}{cp:Nat}{b:List Int}{w:World}{dir:Int}{F:cF}{E:Int}(hX:eD dir b=(F,E))(hsl:aX m w (.slice A b.length cp) b)(hb:b.length≤1048576) : Calls Tryz.prog 50 #[vI 1,vI dir,.slice A b.length cp] w (fun e w'=>∃ x,e = .returned (.tuple #[.agg (dH F.unit F.tid F.msg x),vI E])∧(aI true w' (f8 F.msg x).toList F.msg∧(0≤F.unit∧F.unit<256)∧(0≤F.tid∧F.tid<65536))∧aH [] w w'):=by
 refine en 15 Tryz.func50 rfl<|sg<|aK kX fun r s i j k=>Pl 1<|aM 1<|ay<|m1 (pH) fun t a=>Pl 2<|?_
 have c:=aJ k a
 refine L0<|xB (f:=264) (args:=#[.agg #[],vI dir,.slice A b.length cp]) 134 (.agg #[]) (.agg #[])<|e2 (BC hX (aX.old hsl c) hb) fun x17 u l d=>?_
 obtain⟨n,o,p⟩:=l
 refine Pl 2<|?_
 have g:=ub (aJ a d) j
 refine aG g (dH F.unit F.tid F.msg x17) fun v q h=>ah 1<|rt<|bH q (vI E)<|?_
 exact⟨x17,rfl,⟨(aI.upd n h (av (b6 g (by decide)) aN)),o,p⟩,(ud c (uz d h) i)⟩
theorem BX{m:Md}{A:Option Addr}{cp:Nat}{b:List Int}{w:World}{dir:Int}{F:cF}{E:Int}(hX:dq dir b=(F,E))(hsl:aX m w (.slice A b.length cp) b)(hb:b.length≤1048576) : Calls Tryz.prog 273 #[.agg #[],vI dir,.slice A b.length cp] w (fun e w'=>∃ x,e = .returned (.tuple #[.agg (dH F.unit F.tid F.msg x),vI E])∧(aI true w' (f8 F.msg x).toList F.msg∧(0≤F.unit∧F.unit<256)∧(0≤F.tid∧F.tid<65536))∧aH [] w w'):=by
 refine en 13 Tryz.func273 rfl<|sg<|L0<|da #[] fun q r s t a=>aK kX fun u v h i j=>Pl 1<|aM 2<|?_
 have c:=aJ a j
 refine ay<|e2 (qB hX (aX.old hsl c) hb) fun x20 y k d=>?_
 obtain⟨l,n,o⟩:=k
 refine Pl 2<|?_
 have f:=ub d i
 refine aG f (dH F.unit F.tid F.msg x20) fun z p g=>ah 1<|rt<|bH p (vI E)<|?_
 exact⟨x20,rfl,⟨(aI.upd l g (av (b6 f (by decide)) aN)),n,o⟩,(ud c (uz d g) (le a.size h))⟩
theorem u7{m:Md}{A:Option Addr}{cp:Nat}{b:List Int}{w:World}{dir:Int}{F:cF}{E:Int}(hX:dq dir b=(F,E))(hsl:aX m w (.slice A b.length cp) b)(hb:b.length≤1048576) : Calls Tryz.prog 50 #[vI 2,vI dir,.slice A b.length cp] w (fun e w'=>∃ x,e = .returned (.tuple #[.agg (dH F.unit F.tid F.msg x),vI E])∧(aI true w' (f8 F.msg x).toList F.msg∧(0≤F.unit∧F.unit<256)∧(0≤F.tid∧F.tid<65536))∧aH [] w w'):=by
 refine en 15 Tryz.func50 rfl<|sg<|aK kX fun r s i j k=>Pl 1<|aM 1<|ay<|m1 (qE) fun t a=>Pl 2<|?_
 have c:=aJ k a
 refine L0<|xB (f:=273) (args:=#[.agg #[],vI dir,.slice A b.length cp]) 135 (.agg #[]) (.agg #[])<|e2 (BX hX (aX.old hsl c) hb) fun x17 u l d=>?_
 obtain⟨n,o,p⟩:=l
 refine Pl 2<|?_
 have g:=ub (aJ a d) j
 refine aG g (dH F.unit F.tid F.msg x17) fun v q h=>ah 1<|rt<|bH q (vI E)<|?_
 exact⟨x17,rfl,⟨(aI.upd n h (av (b6 g (by decide)) aN)),o,p⟩,(ud c (uz d h) i)⟩
theorem BT{m:Md}{A:Option Addr}{cp:Nat}{b:List Int}{w:World}{dir:Int}{F:cF}{E:Int}(hX:(cF.zero,(1:Int))=(F,E))(hsl:aX m w (.slice A b.length cp) b)(hb:b.length≤1048576) : Calls Tryz.prog 277 #[.agg #[],vI dir,.slice A b.length cp] w (fun e w'=>∃ x,e = .returned (.tuple #[.agg (dH F.unit F.tid F.msg x),vI E])∧(aI true w' (f8 F.msg x).toList F.msg∧(0≤F.unit∧F.unit<256)∧(0≤F.tid∧F.tid<65536))∧aH [] w w'):=by
 refine en 9 Tryz.func277 rfl<|sg<|L0<|da #[] fun i j k l a=>aK kX fun n o c d f=>Pl 1<|aM 1<|aG d kX fun p g h=>Pl 1<|nl<|tn<|rt<|bH g (vI 1)<|?_
 injection hX with e1 e2
 subst e1 e2
 exact⟨⟨none,0,none,0,none,0,none,0,none,0⟩,rfl,⟨aI.zero ..,(show(0:Int)≤0∧(0:Int)<256 from by decide),(show(0:Int)≤0∧(0:Int)<65536 from by decide)⟩,(aJ a (ud f h c))⟩
theorem tT{m:Md}{A:Option Addr}{cp:Nat}{b:List Int}{w:World}{dir:Int}{F:cF}{E:Int}{k:Int}(h0:(k==0)=false)(h1:(k==1)=false)(h2:(k==2)=false)(hX:(cF.zero,(1:Int))=(F,E))(hsl:aX m w (.slice A b.length cp) b)(hb:b.length≤1048576) : Calls Tryz.prog 50 #[vI k,vI dir,.slice A b.length cp] w (fun e w'=>∃ x,e = .returned (.tuple #[.agg (dH F.unit F.tid F.msg x),vI E])∧(aI true w' (f8 F.msg x).toList F.msg∧(0≤F.unit∧F.unit<256)∧(0≤F.tid∧F.tid<65536))∧aH [] w w'):=by
 refine en 15 Tryz.func50 rfl<|sg<|aK kX fun s t i j l=>Pl 1<|aM 1<|ay<|m1 (qf h0 h1 h2) fun u a=>Pl 2<|?_
 have c:=aJ l a
 refine L0<|xB (f:=277) (args:=#[.agg #[],vI dir,.slice A b.length cp]) 136 (.agg #[]) (.agg #[])<|e2 (BT hX (aX.old hsl c) hb) fun x17 v n d=>?_
 obtain⟨o,p,q⟩:=n
 refine Pl 2<|?_
 have g:=ub (aJ a d) j
 refine aG g (dH F.unit F.tid F.msg x17) fun y r h=>ah 1<|rt<|bH r (vI E)<|?_
 exact⟨x17,rfl,⟨(aI.upd o h (av (b6 g (by decide)) aN)),p,q⟩,(ud c (uz d h) i)⟩
theorem lG{k:Int}{m:Md}{v:Value}{b:List Int}{w:World}{dir:Int}{F:cF}{E:Int}(hX:jh k dir b=(F,E))(h:aX m w v b)(hb:b.length≤1048576) : Calls Tryz.prog 50 #[.int .i64 k,.int .i64 dir,v] w (fun e w'=>∃ x,e = .returned (.tuple #[.agg (dH F.unit F.tid F.msg x),.int .i64 E])∧(aI true w' (f8 F.msg x).toList F.msg∧(0≤F.unit∧F.unit<256)∧(0≤F.tid∧F.tid<65536))∧aH [] w w'):=by
  obtain⟨A,cp,rfl,_,_⟩:=h.shape
  refine k4 k (fun e=>?_) (fun e=>?_) (fun e=>?_) (fun h0 h1 h2=>?_)
  · subst e;exact tV hX h hb
  · subst e;exact tW hX h hb
  · subst e;exact u7 hX h hb
  · rw[yj h0 h1 h2] at hX;exact tT h0 h1 h2 hX h hb
theorem ua{m:Md}{x:SL}{M:aT}{w:World}{dir u t:Int}(h:aI m w (f8 M x).toList M)(hf:bi M)(hbu:0≤u∧u<256)(hbt:0≤t∧t<65536) : Calls Tryz.prog 262 #[.int .i64 dir,.agg (dH u t M x)] w (sU (fP dir u t M) w):=by
  cases hX:fP dir u t M with
  | none =>
    refine(sR hX h hf hbu hbt).mono ?_
    rintro e w' ⟨rfl,hu⟩
    exact⟨_,_,rfl,⟨rfl,rfl⟩,hu⟩
  | some l =>
    refine(so hX h hf hbu hbt).mono ?_
    rintro e w' ⟨v,rfl,ho,hu⟩
    exact⟨_,_,rfl,⟨rfl,fd.of ho⟩,hu⟩
theorem Bz{m:Md}{x:SL}{M:aT}{w:World}{dir u t:Int}(h:aI m w (f8 M x).toList M)(hf:bi M)(hbu:0≤u∧u<256)(hbt:0≤t∧t<65536) : Calls Tryz.prog 261 #[.agg #[],vI dir,.agg (dH u t M x)] w (sU (fP dir u t M) w):=by
 refine en 13 Tryz.func261 rfl<|sg<|L0<|da #[] fun j k l n b=>L0<|da (dH u t M x) fun o p q c d=>Pl 2<|aM 1<|L0<|bO c<|?_
 have a:=aJ b d
 refine ay<|zZ (ua (dir:=dir) (aI.old h a) hf hbu hbt) fun e f r g i=>ah 4<|rt<|rr (.tuple #[e,vI f])<|?_
 exact⟨_,_,rfl,g.wk a.size,(aJ a i)⟩
theorem tY{m:Md}{x:SL}{M:aT}{w:World}{dir u t:Int}(h:aI m w (f8 M x).toList M)(hf:bi M)(hbu:0≤u∧u<256)(hbt:0≤t∧t<65536) : Calls Tryz.prog 27 #[vI 0,vI dir,.agg (dH u t M x)] w (sU (fP dir u t M) w):=by
 refine en 15 Tryz.func27 rfl<|sg<|L0<|da (dH u t M x) fun d s v n o=>ah 2<|sq<|Rg 9 (fun w'=>w'.heap[d]? = some (.cells (dH u t M x) 47 (0,0))) fun y e=>?_
 have i:=ub e n
 refine bp i fun b=>Rt 0 b<|Rt 2 b<|Rr 3 b (.agg (dH u t M x)) (fun w' hs=>gW (g:=d) (off:=0) [vB u,vW t,vB M.code,vB M.fail,vW M.addr,vW M.count,vW M.value,vW M.and_,vW M.or_,vW M.addr2,vW M.sub,vW M.status,vW M.events,vW M.messages,.slice x.aw M.words.length x.kw,.slice x.ab M.bits.length x.kb,.slice x.ad M.data.length x.kd,.slice x.ar M.recs.length x.kr,vB M.mei,vB M.kind,vB M.level,vB M.more,vB M.next,.slice x.ao M.objects.length x.ko] rfl (by kernel_rfl) hs (by kernel_rfl) (by kernel_rfl) rfl)<|R0 1 rfl<|Oc<|m1 (qe) fun z j=>?_
 have k:=ub j i
 refine bp k fun A=>?_
 have c:=aJ o (aJ e j)
 refine R0 4 rfl<|xB (f:=261) (args:=#[.agg #[],vI dir,.agg (dH u t M x)]) 133 (.agg #[]) (.agg #[])<|zZ (Bz (dir:=dir) (aI.old h c) hf hbu hbt) fun p q B r l=>?_
 refine bp (ub l k) fun a=>Rt 5 a<|Rt 6 a<|Rt 7 a<|Rt 8 a<|re<|tn<|rt<|rr (.tuple #[p,vI q])<|?_
 exact⟨_,_,rfl,r.wk c.size,(aJ c l)⟩
theorem tk{m:Md}{x:SL}{M:aT}{w:World}{dir u t:Int}(h:aI m w (f8 M x).toList M)(hf:bi M)(hbu:0≤u∧u<256)(hbt:0≤t∧t<65536) : Calls Tryz.prog 266 #[.int .i64 dir,.agg (dH u t M x)] w (sU (fQ dir u t M) w):=by
  cases hX:fQ dir u t M with
  | none =>
    refine(rk hX h hf hbu hbt).mono ?_
    rintro e w' ⟨rfl,hu⟩
    exact⟨_,_,rfl,⟨rfl,rfl⟩,hu⟩
  | some l =>
    refine(sJ hX h hf hbu hbt).mono ?_
    rintro e w' ⟨v,rfl,ho,hu⟩
    exact⟨_,_,rfl,⟨rfl,fd.ofF ho⟩,hu⟩
theorem Bq{m:Md}{x:SL}{M:aT}{w:World}{dir u t:Int}(h:aI m w (f8 M x).toList M)(hf:bi M)(hbu:0≤u∧u<256)(hbt:0≤t∧t<65536) : Calls Tryz.prog 265 #[.agg #[],vI dir,.agg (dH u t M x)] w (sU (fQ dir u t M) w):=by
 refine en 13 Tryz.func265 rfl<|sg<|L0<|da #[] fun j k l n b=>L0<|da (dH u t M x) fun o p q c d=>Pl 2<|aM 1<|L0<|bO c<|?_
 have a:=aJ b d
 refine ay<|zZ (tk (dir:=dir) (aI.old h a) hf hbu hbt) fun e f r g i=>ah 4<|rt<|rr (.tuple #[e,vI f])<|?_
 exact⟨_,_,rfl,g.wk a.size,(aJ a i)⟩
theorem u5{m:Md}{x:SL}{M:aT}{w:World}{dir u t:Int}(h:aI m w (f8 M x).toList M)(hf:bi M)(hbu:0≤u∧u<256)(hbt:0≤t∧t<65536) : Calls Tryz.prog 27 #[vI 1,vI dir,.agg (dH u t M x)] w (sU (fQ dir u t M) w):=by
 refine en 15 Tryz.func27 rfl<|sg<|L0<|da (dH u t M x) fun d s v n o=>ah 2<|sq<|Rg 9 (fun w'=>w'.heap[d]? = some (.cells (dH u t M x) 47 (0,0))) fun y e=>?_
 have i:=ub e n
 refine bp i fun b=>Rt 0 b<|Rt 2 b<|Rr 3 b (.agg (dH u t M x)) (fun w' hs=>gW (g:=d) (off:=0) [vB u,vW t,vB M.code,vB M.fail,vW M.addr,vW M.count,vW M.value,vW M.and_,vW M.or_,vW M.addr2,vW M.sub,vW M.status,vW M.events,vW M.messages,.slice x.aw M.words.length x.kw,.slice x.ab M.bits.length x.kb,.slice x.ad M.data.length x.kd,.slice x.ar M.recs.length x.kr,vB M.mei,vB M.kind,vB M.level,vB M.more,vB M.next,.slice x.ao M.objects.length x.ko] rfl (by kernel_rfl) hs (by kernel_rfl) (by kernel_rfl) rfl)<|R0 1 rfl<|Oc<|m1 (pH) fun z j=>?_
 have k:=ub j i
 refine bp k fun A=>?_
 have c:=aJ o (aJ e j)
 refine R0 4 rfl<|xB (f:=265) (args:=#[.agg #[],vI dir,.agg (dH u t M x)]) 134 (.agg #[]) (.agg #[])<|zZ (Bq (dir:=dir) (aI.old h c) hf hbu hbt) fun p q B r l=>?_
 refine bp (ub l k) fun a=>Rt 5 a<|Rt 6 a<|Rt 7 a<|Rt 8 a<|re<|tn<|rt<|rr (.tuple #[p,vI q])<|?_
 exact⟨_,_,rfl,r.wk c.size,(aJ c l)⟩
theorem sC{m:Md}{x:SL}{M:aT}{w:World}{dir u t:Int}(h:aI m w (f8 M x).toList M)(hf:bi M)(hbu:0≤u∧u<256)(hbt:0≤t∧t<65536) : Calls Tryz.prog 275 #[.int .i64 dir,.agg (dH u t M x)] w (sU (ey dir u t M) w):=by
  cases hX:ey dir u t M with
  | none =>
    refine(pW hX h hf hbu hbt).mono ?_
    rintro e w' ⟨rfl,hu⟩
    exact⟨_,_,rfl,⟨rfl,rfl⟩,hu⟩
  | some l =>
    refine(qn hX h hf hbu hbt).mono ?_
    rintro e w' ⟨v,rfl,ho,hu⟩
    exact⟨_,_,rfl,⟨rfl,fd.of ho⟩,hu⟩
theorem Bh{m:Md}{x:SL}{M:aT}{w:World}{dir u t:Int}(h:aI m w (f8 M x).toList M)(hf:bi M)(hbu:0≤u∧u<256)(hbt:0≤t∧t<65536) : Calls Tryz.prog 274 #[.agg #[],vI dir,.agg (dH u t M x)] w (sU (ey dir u t M) w):=by
 refine en 13 Tryz.func274 rfl<|sg<|L0<|da #[] fun j k l n b=>L0<|da (dH u t M x) fun o p q c d=>Pl 2<|aM 1<|L0<|bO c<|?_
 have a:=aJ b d
 refine ay<|zZ (sC (dir:=dir) (aI.old h a) hf hbu hbt) fun e f r g i=>ah 4<|rt<|rr (.tuple #[e,vI f])<|?_
 exact⟨_,_,rfl,g.wk a.size,(aJ a i)⟩
theorem t6{m:Md}{x:SL}{M:aT}{w:World}{dir u t:Int}(h:aI m w (f8 M x).toList M)(hf:bi M)(hbu:0≤u∧u<256)(hbt:0≤t∧t<65536) : Calls Tryz.prog 27 #[vI 2,vI dir,.agg (dH u t M x)] w (sU (ey dir u t M) w):=by
 refine en 15 Tryz.func27 rfl<|sg<|L0<|da (dH u t M x) fun d s v n o=>ah 2<|sq<|Rg 9 (fun w'=>w'.heap[d]? = some (.cells (dH u t M x) 47 (0,0))) fun y e=>?_
 have i:=ub e n
 refine bp i fun b=>Rt 0 b<|Rt 2 b<|Rr 3 b (.agg (dH u t M x)) (fun w' hs=>gW (g:=d) (off:=0) [vB u,vW t,vB M.code,vB M.fail,vW M.addr,vW M.count,vW M.value,vW M.and_,vW M.or_,vW M.addr2,vW M.sub,vW M.status,vW M.events,vW M.messages,.slice x.aw M.words.length x.kw,.slice x.ab M.bits.length x.kb,.slice x.ad M.data.length x.kd,.slice x.ar M.recs.length x.kr,vB M.mei,vB M.kind,vB M.level,vB M.more,vB M.next,.slice x.ao M.objects.length x.ko] rfl (by kernel_rfl) hs (by kernel_rfl) (by kernel_rfl) rfl)<|R0 1 rfl<|Oc<|m1 (qE) fun z j=>?_
 have k:=ub j i
 refine bp k fun A=>?_
 have c:=aJ o (aJ e j)
 refine R0 4 rfl<|xB (f:=274) (args:=#[.agg #[],vI dir,.agg (dH u t M x)]) 135 (.agg #[]) (.agg #[])<|zZ (Bh (dir:=dir) (aI.old h c) hf hbu hbt) fun p q B r l=>?_
 refine bp (ub l k) fun a=>Rt 5 a<|Rt 6 a<|Rt 7 a<|Rt 8 a<|re<|tn<|rt<|rr (.tuple #[p,vI q])<|?_
 exact⟨_,_,rfl,r.wk c.size,(aJ c l)⟩
theorem Bd{m:Md}{x:SL}{M:aT}{w:World}{dir u t:Int}(h:aI m w (f8 M x).toList M)(hf:bi M)(hbu:0≤u∧u<256)(hbt:0≤t∧t<65536) : Calls Tryz.prog 278 #[.agg #[],vI dir,.agg (dH u t M x)] w (sU (none) w):=by
 refine en 8 Tryz.func278 rfl<|sg<|L0<|da #[] fun c d e f a=>L0<|da (dH u t M x) fun g i j k b=>Pl 2<|cN 2<|rt<|rr (.tuple #[nS,vI 1])<|?_
 exact⟨_,_,rfl,⟨rfl,rfl⟩,(aJ a b)⟩
theorem sZ{m:Md}{x:SL}{M:aT}{w:World}{dir u t:Int}(h:aI m w (f8 M x).toList M)(hf:bi M)(hbu:0≤u∧u<256)(hbt:0≤t∧t<65536){k:Int}(h0:(k==0)=false)(h1:(k==1)=false)(h2:(k==2)=false) : Calls Tryz.prog 27 #[vI k,vI dir,.agg (dH u t M x)] w (sU (none) w):=by
 refine en 15 Tryz.func27 rfl<|sg<|L0<|da (dH u t M x) fun d v y o p=>ah 2<|sq<|Rg 9 (fun w'=>w'.heap[d]? = some (.cells (dH u t M x) 47 (0,0))) fun z e=>?_
 have i:=ub e o
 refine bp i fun b=>Rt 0 b<|Rt 2 b<|Rr 3 b (.agg (dH u t M x)) (fun w' hs=>gW (g:=d) (off:=0) [vB u,vW t,vB M.code,vB M.fail,vW M.addr,vW M.count,vW M.value,vW M.and_,vW M.or_,vW M.addr2,vW M.sub,vW M.status,vW M.events,vW M.messages,.slice x.aw M.words.length x.kw,.slice x.ab M.bits.length x.kb,.slice x.ad M.data.length x.kd,.slice x.ar M.recs.length x.kr,vB M.mei,vB M.kind,vB M.level,vB M.more,vB M.next,.slice x.ao M.objects.length x.ko] rfl (by kernel_rfl) hs (by kernel_rfl) (by kernel_rfl) rfl)<|R0 1 rfl<|Oc<|m1 (qf h0 h1 h2) fun A j=>?_
 have l:=ub j i
 refine bp l fun B=>?_
 have c:=aJ p (aJ e j)
 refine R0 4 rfl<|xB (f:=278) (args:=#[.agg #[],vI dir,.agg (dH u t M x)]) 136 (.agg #[]) (.agg #[])<|zZ (Bd (dir:=dir) (aI.old h c) hf hbu hbt) fun q r C s n=>?_
 refine bp (ub n l) fun a=>Rt 5 a<|Rt 6 a<|Rt 7 a<|Rt 8 a<|re<|tn<|rt<|rr (.tuple #[q,vI r])<|?_
 exact⟨_,_,rfl,s.wk c.size,(aJ c n)⟩
theorem oW{k:Int}{m:Md}{x:SL}{M:aT}{w:World}{dir u t:Int}(h:aI m w (f8 M x).toList M)(hf:bi M)(hbu:0≤u∧u<256)(hbt:0≤t∧t<65536) : Calls Tryz.prog 27 #[.int .i64 k,.int .i64 dir,.agg (dH u t M x)] w (sU (gC k dir u t M) w):=by
  refine k4 k (fun e=>?_) (fun e=>?_) (fun e=>?_) (fun h0 h1 h2=>?_)
  · subst e;exact tY h hf hbu hbt
  · subst e;exact u5 h hf hbu hbt
  · subst e;exact t6 h hf hbu hbt
  · rw[yb h0 h1 h2];exact sZ h hf hbu hbt h0 h1 h2
theorem m0{k:Int}{m:Md}{x:SL}{M:aT}{w:World}{dir u t:Int}(h:aI m w (f8 M x).toList M)(hf:bi M)(hbu:0≤u∧u<256)(hbt:0≤t∧t<65536)(hX:gC k dir u t M=none) : Calls Tryz.prog 27 #[.int .i64 k,.int .i64 dir,.agg (dH u t M x)] w (fun e w'=>e = .returned (.tuple #[.slice none 0 0,.int .i64 1])∧aH [] w w'):=by
  refine(oW h hf hbu hbt).mono ?_
  rw[hX]
  rintro e w' ⟨v,n,rfl,⟨rfl,rfl⟩,hu⟩
  exact⟨rfl,hu⟩
theorem lH{k:Int}{m:Md}{x:SL}{M:aT}{w:World}{dir u t:Int}{l:List Int}(h:aI m w (f8 M x).toList M)(hf:bi M)(hbu:0≤u∧u<256)(hbt:0≤t∧t<65536)(hX:gC k dir u t M=some l) : Calls Tryz.prog 27 #[.int .i64 k,.int .i64 dir,.agg (dH u t M x)] w (fun e w'=>∃ v,e = .returned (.tuple #[v,.int .i64 0])∧fd w.heap.size w' v l∧aH [] w w'):=by
  refine(oW h hf hbu hbt).mono ?_
  rw[hX]
  rintro e w' ⟨v,n,rfl,⟨rfl,ho⟩,hu⟩
  exact⟨v,rfl,ho,hu⟩
end Go.Proofs.YtdkhbcefkfgbdaaGreat
namespace Go.Proofs.YtdkhbcefkfgbdaaGreat
def fa (C:ai) : Prop:=∀ x,x∈C.l→0≤x∧x<256
theorem fw{ok:Bool}  (hx:x≠0)(h:(C.need ok x).e=0) : C.e=0∧ok=true:=by
  unfold ai.need at h
  split at h
  · exact absurd h hx
  · rename_i hh
    refine⟨h,?_⟩
    cases ok
    · exact absurd ⟨h,rfl⟩ hh
    · rfl
theorem gY(h:(C.bytesC n).e=0) : C.e=0∧C.l=C.bytesR n++(C.bytesC n).l∧((C.bytesR n).length:Int)=n:=by
  unfold ai.bytesC at h ⊢
  unfold ai.bytesR
  split at h
  · exfalso
    unfold ai.need at h
    split at h
    · cases h
    · rename_i hh
      exact hh ⟨h,rfl⟩
  · rename_i hf
    rw[if_neg hf,if_neg hf]
    refine⟨h,(List.take_append_drop _ _).symm,?_⟩
    unfold ai.fails at hf
    simp only[Bool.or_eq_true,decide_eq_true_eq,not_or] at hf
    rw[List.length_take]
    omega
theorem nq:∀ (l:List Int),l.length%2=0→(∀ x,x∈l→0≤x∧x<256)→aP (dG l)=l
  | [],_,_=>rfl
  | [_],h,_=>by simp at h
  | a :: b :: r,h,hr=>by
    have ha:=hr a (by simp)
    have hb:=hr b (by simp)
    simp only[dG,aP]
    rw[nq r (by simp at h;omega) (fun x hx=>hr x (by simp[hx]))]
    congr 1
    · omega
    · congr 1
      omega
theorem kG(hr:fa C)(h:(C.wordsC n).e=0) : C.e=0∧C.l=aP (C.wordsR n)++(C.wordsC n).l∧((C.wordsR n).length:Int)=n:=by
  unfold ai.wordsC at h ⊢
  unfold ai.wordsR
  split at h
  · obtain⟨_,_,h3⟩:=gY h
    omega
  · rename_i hb
    rw[if_neg hb,if_neg hb]
    obtain⟨h1,h2,h3⟩:=gY h
    have h4:(C.bytesR (2*n)).length%2=0:=by omega
    have h5:∀ x,x∈C.bytesR (2*n)→0≤x∧x<256:=fun x hx=>hr x (by rw[h2];exact List.mem_append_left _ hx)
    unfold cD
    rw[if_pos h4]
    refine⟨h1,by rw[nq _ h4 h5];exact h2,?_⟩
    rw[fm]
    omega
def dy (C:ai)(l:List Int)(C':ai) : Prop:=fa C→fa C'∧(C'.e=0→C.e=0∧C.l=l++C'.l)
theorem dy.trans{B:ai}{m:List Int}(h:dy A l B)(k:dy B m C) : dy A (l++m) C:=fun hr=>by
  obtain⟨h1,h2⟩:=h hr
  obtain⟨k1,k2⟩:=k h1
  refine⟨k1,fun he=>?_⟩
  obtain⟨k3,k4⟩:=k2 he
  obtain⟨h3,h4⟩:=h2 k3
  exact⟨h3,by rw[h4,k4,List.append_assoc]⟩
theorem dy.refl(C:ai) : dy C [] C:=fun hr=>⟨hr,fun he=>⟨he,rfl⟩⟩
theorem dy.need{ok:Bool}  (h:dy A l C)(hx:x≠0:=by decide) : dy A l (C.need ok x):=fun hr=>by
  obtain⟨h1,h2⟩:=h hr
  refine⟨fun y hy=>h1 y (by rwa [jn] at hy),fun he=>?_⟩
  rw[jn]
  exact h2 (fw hx he).1
theorem dy.bytes(h:dy A l C)(n:Int) : dy A (l++C.bytesR n) (C.bytesC n):=h.trans fun hr=>⟨iY hr n,fun he=>⟨(gY he).1,(gY he).2.1⟩⟩
theorem dy.words(h:dy A l C)(n:Int) : dy A (l++aP (C.wordsR n)) (C.wordsC n):=h.trans fun hr=>⟨d7 hr n,fun he=>⟨(kG hr he).1,(kG hr he).2.1⟩⟩
theorem yK(h:(l.length:Int)=1) : l=[l.getD 0 0]:=by
  match l,h with
  | [a],_=>rfl
  | [],h=>simp at h
  | _ :: _ :: _,h=>simp at h;omega
theorem dy.byte(h:dy A l C) : dy A (l++[C.byteV]) (C.bytesC 1):=h.trans fun hr=>⟨iY hr 1,fun he=>by
  obtain⟨h1,h2,h3⟩:=gY he
  refine⟨h1,?_⟩
  have:=yK h3
  show C.l=[(C.bytesR 1).getD 0 0]++_
  rw[← this]
  exact h2⟩
theorem dy.word(h:dy A l C) : dy A (l++aP [C.wordV]) (C.wordsC 1):=h.trans fun hr=>⟨d7 hr 1,fun he=>by
  obtain⟨h1,h2,h3⟩:=kG hr he
  refine⟨h1,?_⟩
  have:=yK h3
  show C.l=aP [(C.wordsR 1).getD 0 0]++_
  rw[← this]
  exact h2⟩
theorem dy.fin(h:dy A l C)(hr:fa A)(he:C.endC.e=0) : C.e=0∧A.l=l:=by
  unfold ai.endC at he
  obtain⟨h1,h2⟩:=fw (by decide) he
  obtain⟨_,h3⟩:=(h hr).2 h1
  have:C.l=[]:=by
    simp only[beq_iff_eq] at h2
    exact List.eq_nil_of_length_eq_zero (by omega)
  exact⟨h1,by rw[h3,this,List.append_nil]⟩
theorem dg(hr:fa C) : 0≤C.byteV∧C.byteV<256:=by
  unfold ai.byteV
  rw[List.getD_eq_getElem?_getD]
  cases h:(C.bytesR 1)[0]? with
  | none=>simp
  | some x =>
    have hm:x∈C.bytesR 1:=List.mem_of_getElem? h
    have:x∈C.l:=by
      unfold ai.bytesR at hm
      split at hm
      · cases hm
      · exact List.mem_of_mem_take hm
    exact hr x this
theorem nU(C:ai)(most:Int) : dy C (aP [C.wordV,(C.wordsC 1).wordV]) (bY C most):=by
  have:=(((dy.refl C).word).word)
  exact(this.need).need
theorem AJ:∀ n:Nat,n<256→(((if ((n:Int)/2 ^ 0%2==1) then 1 else 0)+(if ((n:Int)/2 ^ 1%2==1) then 2 else 0)+(if ((n:Int)/2 ^ 2%2==1) then 4 else 0)+(if ((n:Int)/2 ^ 3%2==1) then 8 else 0)+(if ((n:Int)/2 ^ 4%2==1) then 16 else 0)+(if ((n:Int)/2 ^ 5%2==1) then 32 else 0)+(if ((n:Int)/2 ^ 6%2==1) then 64 else 0)+(if ((n:Int)/2 ^ 7%2==1) then 128 else 0) : Nat) : Int)=n:=by decide +kernel
theorem ou(hx:0≤x∧x<256)(f:Nat→Bool)(hf:∀ i,i<8→f i=(x/2 ^ i%2==1)) :
    (((if f 0 then 1 else 0)+(if f 1 then 2 else 0)+(if f 2 then 4 else 0)+(if f 3 then 8 else 0)+(if f 4 then 16 else 0)+(if f 5 then 32 else 0)+(if f 6 then 64 else 0)+(if f 7 then 128 else 0) : Nat) : Int)=x:=by
  rw[hf 0 (by decide),hf 1 (by decide),hf 2 (by decide),hf 3 (by decide),hf 4 (by decide),hf 5 (by decide),hf 6 (by decide),hf 7 (by decide)]
  obtain⟨n,rfl⟩:=Int.eq_ofNat_of_zero_le hx.1
  exact AJ n (by omega)
theorem lS{l:List Bool}(hr:∀ x,x∈b→0≤x∧x<256)(h:cK b n=some l) : bZ l=b:=by
  unfold cK at h
  split at h
  · rename_i hc
    split at h
    · rename_i hall
      injection h with h
      subst h
      have hlen:((List.range n.toNat).map (cQ b)).length=n.toNat:=by simp
      have hm:((List.range n.toNat).map (cQ b)).length=n:=by rw[hlen];omega
      unfold bZ
      rw[hm,← hc.2]
      apply List.ext_getElem
      · simp
      intro j h1 h2
      simp only[List.getElem_map,List.getElem_range]
      have hj:j<b.length:=h2
      have hget:∀ i,i<8*b.length→((List.range n.toNat).map (cQ b)).getD i false=cQ b i:=fun i hi=>by
        rw[List.getD_eq_getElem?_getD,List.getElem?_map]
        by_cases hin:i<n.toNat
        · rw[List.getElem?_range hin];rfl
        · rw[List.getElem?_eq_none (by simpa using hin)]
          rw[List.all_eq_true] at hall
          have:=hall i (by simpa using hi)
          simp only[Bool.or_eq_true,decide_eq_true_eq,Bool.not_eq_true'] at this
          rcases this with h3|h3
          · omega
          · simp[h3]
      have hx:∀ k,k<8→cQ b (8*j+k)=(b[j]/2 ^ k%2==1):=fun k hk=>by
        unfold cQ
        rw[show(8*j+k)/8=j from by omega,show(8*j+k)%8=k from by omega,List.getD_eq_getElem?_getD,List.getElem?_eq_getElem hj]
        rfl
      unfold cv
      rw[show(8*j:Nat)=8*j+0 from rfl]
      simp only[hget _ (show 8*j+0<8*b.length by omega),hget _ (show 8*j+0+1<8*b.length by omega),hget _ (show 8*j+0+2<8*b.length by omega),hget _ (show 8*j+0+3<8*b.length by omega),hget _ (show 8*j+0+4<8*b.length by omega),hget _ (show 8*j+0+5<8*b.length by omega),hget _ (show 8*j+0+6<8*b.length by omega),hget _ (show 8*j+0+7<8*b.length by omega)]
      exact ou (hr _ (List.getElem_mem hj)) (fun k=>cQ b (8*j+k)) hx
    · cases h
  · cases h
end Go.Proofs.YtdkhbcefkfgbdaaGreat
namespace Go.Proofs.YtdkhbcefkfgbdaaGreat
theorem bJ{α β:Type}{p:α × β}{a:α}{b:β}(h:some p=some (a,b)) : p.1=a∧p.2=b:=by
  injection h with h
  rw[h]
  exact⟨rfl,rfl⟩
theorem vj{most:Int}(hr:fa C)(he:(eL most c C).1.endC.e=0) : aP [C.wordV,(C.wordsC 1).wordV]=C.l:=((nU C most).fin hr he).2.symm
theorem ya(hr:fa C)(he:(eu c C).1.endC.e=0) : [(((eh C).bytesR C.byteV).length:Int)%256]++(eh C).bytesR C.byteV=C.l:=by
  have hbv:=dg hr
  have hE:dy C ([]++[C.byteV]++(eh C).bytesR C.byteV) ((eh C).bytesC C.byteV):=(((dy.refl C).byte).need).bytes _
  obtain⟨h1,h2⟩:=hE.fin hr he
  obtain⟨_,_,h3⟩:=gY h1
  rw[h2,h3,Int.emod_eq_of_lt hbv.1 hbv.2]
  rfl
theorem zy(hr:fa C)(he:(ed c C).1.endC.e=0) : aP [C.wordV,(C.wordsC 1).wordV]=C.l:=by
  have hE:dy C ([]++aP [C.wordV]++aP [(C.wordsC 1).wordV]) (fX C):=(((dy.refl C).word).word).need
  rw[(hE.fin hr he).2]
  rfl
theorem CO(hr:fa C)(he:(iP c C).1.endC.e=0) : (aP [C.wordV,(C.wordsC 1).wordV]++[((bZ ((qJ C).getD [])).length:Int)%256])++bZ ((qJ C).getD [])=C.l:=by
  have hE:dy C (aP [C.wordV,(C.wordsC 1).wordV]++[(bY C 1968).byteV]++(iE C).bytesR (oH C)) (sV C):=(((((nU C 1968).byte).need).bytes _).need)
  obtain⟨h1,h2⟩:=hE.fin hr he
  obtain⟨h3,h4⟩:=fw (by decide) h1
  obtain⟨_,_,h5⟩:=gY h3
  obtain⟨l,hl⟩:=Option.isSome_iff_exists.1 h4
  have hB:∀ x,x∈(iE C).bytesR (oH C)→0≤x∧x<256:=fun x hx=>hr x (by rw[h2];exact List.mem_append_right _ hx)
  have h6:bZ l=(iE C).bytesR (oH C):=lS hB hl
  have hk:0≤oH C∧oH C<256:=dg ((nU C 1968) hr).1
  rw[hl]
  show(aP [C.wordV,(C.wordsC 1).wordV]++[((bZ l).length:Int)%256])++bZ l=C.l
  rw[h6,h2,h5,Int.emod_eq_of_lt hk.1 hk.2]
  rfl
theorem y5(hd:dir=0∨dir=1)(hr:fa C)(h:aO dir c C=some (C',M))(he:C'.endC.e=0) : cM dir M=C.l:=by
  unfold aO at h
  split at h
  · rename_i hc
    simp only[Bool.or_eq_true,beq_iff_eq] at hc
    rcases hd with rfl|rfl
    · have h:some (eL 2000 c C)=some (C',M):=h
      obtain⟨rfl,rfl⟩:=bJ h
      rcases hc with rfl|rfl<;>exact vj hr he
    · have h:some (eu c C)=some (C',M):=h
      obtain⟨rfl,rfl⟩:=bJ h
      rcases hc with rfl|rfl<;>exact ya hr he
  split at h
  · rename_i hc
    obtain rfl:c=5:=by simpa using hc
    obtain⟨rfl,rfl⟩:=bJ h
    exact zy hr he
  split at h
  · rename_i hc
    obtain rfl:c=15:=by simpa using hc
    rcases hd with rfl|rfl
    · have h:some (iP 15 C)=some (C',M):=h
      obtain⟨rfl,rfl⟩:=bJ h
      exact CO hr he
    · have h:some (eL 1968 15 C)=some (C',M):=h
      obtain⟨rfl,rfl⟩:=bJ h
      exact vj hr he
  · cases h
theorem jJ(h:dy A l C)(a most:Int) : dy A (l++aP [C.wordV]) (bN C a most):=((h.word).need).need
theorem DH{hi:Int}(h:jt n hi=true) : n%2=0∧2≤n∧n≤hi:=by
  unfold jt at h
  simp only[Bool.and_eq_true,decide_eq_true_eq,beq_iff_eq] at h
  exact⟨h.1.1,h.1.2,h.2⟩
theorem rK(hr:fa C)(he:(cO c C).1.endC.e=0) : [(2*(((m7 C).wordsR (C.byteV/2)).length:Int))%256]++aP ((m7 C).wordsR (C.byteV/2))=C.l:=by
  have hbv:=dg hr
  have hE0:dy C ([]++[C.byteV]) (m7 C):=((dy.refl C).byte).need
  have hE:=hE0.words (C.byteV/2)
  obtain⟨h1,h2⟩:=hE.fin hr he
  obtain⟨h3,_,h5⟩:=kG (hE0 hr).1 h1
  obtain⟨h6,h7,h8⟩:=DH (fw (by decide) h3).2
  rw[h2,h5,show(2*(C.byteV/2))%256=C.byteV from by omega]
  rfl
theorem s8{most:Int}  (hr:fa C)(he:(cz most c C).1.endC.e=0) : aP [C.wordV,(C.wordsC 1).wordV]=C.l:=by
  rw[((jJ (dy.refl C).word C.wordV most).fin hr he).2]
  rfl
theorem AD(hr:fa C)(he:(ei c C).1.endC.e=0) : aP [C.wordV,(C.wordsC 1).wordV]=C.l:=by
  rw[(((dy.refl C).word).word.fin hr he).2]
  rfl
theorem m8(h:dy A l C)(n:Int) : dy A (l++[C.byteV]) (di C n):=(h.byte).need
theorem xX(hr:fa C)(he:(dr c C).1.endC.e=0) : (aP [C.wordV,(C.wordsC 1).wordV]++[(2*(((jj C).wordsR (C.wordsC 1).wordV).length:Int))%256])++aP ((jj C).wordsR (C.wordsC 1).wordV)=C.l:=by
  have hE0:dy C _ (bN (C.wordsC 1) C.wordV 123):=jJ (dy.refl C).word C.wordV 123
  have hE1:dy C _ (jj C):=m8 hE0 (C.wordsC 1).wordV
  have hbv:=dg (hE0 hr).1
  obtain⟨h1,h2⟩:=(hE1.words (C.wordsC 1).wordV).fin hr he
  obtain⟨h3,_,h5⟩:=kG (hE1 hr).1 h1
  have h6:=(fw (by decide) h3).2
  simp only[beq_iff_eq] at h6
  rw[h5,← h6,Int.emod_eq_of_lt hbv.1 hbv.2,h2]
  rfl
theorem yV(hr:fa C)(he:(dh c C).1.endC.e=0) : aP [C.wordV,(C.wordsC 1).wordV,((C.wordsC 1).wordsC 1).wordV]=C.l:=by
  rw[(((dy.refl C).word).word.word.fin hr he).2]
  rfl
theorem zr(hr:fa C)(he:(dv c C).1.endC.e=0) : (aP [C.wordV,(C.wordsC 1).wordV,(bN (C.wordsC 1) C.wordV 125).wordV,(((iU C).wordsR (gK C).wordV).length:Int)%65536]++[(2*(((iU C).wordsR (gK C).wordV).length:Int))%256])++aP ((iU C).wordsR (gK C).wordV)=C.l:=by
  have hE0:dy C _ (gK C):=(jJ (dy.refl C).word C.wordV 125).word
  have hE1:dy C _ (rS C):=jJ hE0 (bN (C.wordsC 1) C.wordV 125).wordV 121
  have hE2:dy C _ (iU C):=m8 hE1 (gK C).wordV
  have hbv:=dg (hE1 hr).1
  have hwv:0≤(gK C).wordV∧(gK C).wordV<65536:=bU (hE0 hr).1
  obtain⟨h1,h2⟩:=(hE2.words (gK C).wordV).fin hr he
  obtain⟨h3,_,h5⟩:=kG (hE2 hr).1 h1
  have h6:=(fw (by decide) h3).2
  simp only[beq_iff_eq] at h6
  rw[h5,Int.emod_eq_of_lt hwv.1 hwv.2,← h6,Int.emod_eq_of_lt hbv.1 hbv.2,h2]
  rfl
theorem yN(hr:fa C)(he:(dx c C).1.endC.e=0) : aP [C.wordV]=C.l:=by
  rw[((dy.refl C).word.fin hr he).2]
  rfl
theorem DI(hr:fa C)(he:(mp c C).1.endC.e=0) : aP [(2+2*(((AW C).wordsR (uQ C).wordV).length:Int))%65536,(((AW C).wordsR (uQ C).wordV).length:Int)%65536]++aP ((AW C).wordsR (uQ C).wordV)=C.l:=by
  have hE0:dy C _ (uQ C):=((dy.refl C).word).need
  have hE1:dy C _ (AW C):=(hE0.word).need
  have hwc:0≤C.wordV∧C.wordV<65536:=bU hr
  have hwv:0≤(uQ C).wordV∧(uQ C).wordV<65536:=bU (hE0 hr).1
  obtain⟨h1,h2⟩:=(hE1.words (uQ C).wordV).fin hr he
  obtain⟨h3,_,h5⟩:=kG (hE1 hr).1 h1
  have h6:=(fw (by decide) h3).2
  simp only[beq_iff_eq] at h6
  rw[h5,h6,Int.emod_eq_of_lt hwv.1 hwv.2,Int.emod_eq_of_lt hwc.1 hwc.2,h2]
  rfl
theorem B9(hd:dir=0∨dir=1)(hr:fa C)(h:aW dir c C=some (C',M))(he:C'.endC.e=0) : cy dir M=C.l:=by
  unfold aW at h
  split at h
  · rename_i hc
    simp only[Bool.or_eq_true,beq_iff_eq] at hc
    rcases hd with rfl|rfl
    · have h:some (cz 125 c C)=some (C',M):=h
      obtain⟨rfl,rfl⟩:=bJ h
      rcases hc with rfl|rfl<;>exact s8 hr he
    · have h:some (cO c C)=some (C',M):=h
      obtain⟨rfl,rfl⟩:=bJ h
      rcases hc with rfl|rfl<;>exact rK hr he
  split at h
  · rename_i hc
    obtain rfl:c=6:=by simpa using hc
    obtain⟨rfl,rfl⟩:=bJ h
    rcases hd with rfl|rfl<;>exact AD hr he
  split at h
  · rename_i hc
    obtain rfl:c=16:=by simpa using hc
    rcases hd with rfl|rfl
    · have h:some (dr 16 C)=some (C',M):=h
      obtain⟨rfl,rfl⟩:=bJ h
      exact xX hr he
    · have h:some (cz 123 16 C)=some (C',M):=h
      obtain⟨rfl,rfl⟩:=bJ h
      exact s8 hr he
  split at h
  · rename_i hc
    obtain rfl:c=22:=by simpa using hc
    obtain⟨rfl,rfl⟩:=bJ h
    rcases hd with rfl|rfl<;>exact yV hr he
  split at h
  · rename_i hc
    obtain rfl:c=23:=by simpa using hc
    rcases hd with rfl|rfl
    · have h:some (dv 23 C)=some (C',M):=h
      obtain⟨rfl,rfl⟩:=bJ h
      exact zr hr he
    · have h:some (cO 23 C)=some (C',M):=h
      obtain⟨rfl,rfl⟩:=bJ h
      exact rK hr he
  split at h
  · rename_i hc
    obtain rfl:c=24:=by simpa using hc
    rcases hd with rfl|rfl
    · have h:some (dx 24 C)=some (C',M):=h
      obtain⟨rfl,rfl⟩:=bJ h
      exact yN hr he
    · have h:some (mp 24 C)=some (C',M):=h
      obtain⟨rfl,rfl⟩:=bJ h
      exact DI hr he
  · cases h
end Go.Proofs.YtdkhbcefkfgbdaaGreat
namespace Go.Proofs.YtdkhbcefkfgbdaaGreat
theorem dy.conv{l':List Int}(h:dy A l C)(k:fa A→fa C→C.e=0→l=l') : dy A l' C:=fun hr=>by
  obtain⟨h1,h2⟩:=h hr
  refine⟨h1,fun he=>?_⟩
  rw[← k hr h1 he]
  exact h2 he
theorem AF(hr:fa C)(he:(eE dir c C).1.endC.e=0) : aP [(eE dir c C).2.sub]++aP (eE dir c C).2.words=C.l:=by
  have hE0:dy C ([]++aP [C.wordV]) (fu dir C):=((dy.refl C).word).need
  unfold eE at he ⊢
  split at he
  · rename_i hw
    rw[if_pos hw]
    exact(((hE0.words 1).need).fin hr he).2.symm
  · rename_i hw
    rw[if_neg hw]
    exact(((hE0.need).words _).fin hr he).2.symm
theorem qS(C:ai)(lo hi:Int) : dy C ([]++[C.byteV]) (fs C lo hi):=((dy.refl C).byte).need
theorem sA(h:dy A l C) : dy A (l++aP [C.wordV]) (dZ C):=(h.word).need
theorem CB(hc:c=7∨c=11∨c=12∨c=17)(hr:fa C)(he:(cI c C).1.endC.e=0) : ci 1 (cI c C).2=C.l:=by
  have hbv:=dg hr
  rcases hc with rfl|rfl|rfl|rfl
  · have he:(C.bytesC 1).endC.e=0:=he
    show[C.byteV%256]=C.l
    rw[Int.emod_eq_of_lt hbv.1 hbv.2,((dy.refl C).byte.fin hr he).2]
    rfl
  · have he:((dZ C).wordsC 1).endC.e=0:=he
    show aP [C.wordV,(dZ C).wordV]=C.l
    rw[((sA (dy.refl C)).word.fin hr he).2]
    rfl
  · have he:((gI C).bytesC (C.byteV-6)).endC.e=0:=he
    have hE:=(((sA (qS C 6 70)).word).word).bytes (C.byteV-6)
    obtain⟨h1,h2⟩:=hE.fin hr he
    obtain⟨_,_,h3⟩:=gY h1
    show([(6+(((gI C).bytesR (C.byteV-6)).length:Int))%256]++aP [(fs C 6 70).wordV,(dZ (fs C 6 70)).wordV,((dZ (fs C 6 70)).wordsC 1).wordV])++(gI C).bytesR (C.byteV-6)=C.l
    have h4:(((gI C).bytesR (C.byteV-6)).length:Int)=C.byteV-6:=h3
    rw[h4,show(6+(C.byteV-6))%256=C.byteV from by omega,h2]
    rfl
  · have he:((fs C 1 251).bytesC C.byteV).endC.e=0:=he
    have hE:=(qS C 1 251).bytes C.byteV
    obtain⟨h1,h2⟩:=hE.fin hr he
    obtain⟨_,_,h3⟩:=gY h1
    show[(((fs C 1 251).bytesR C.byteV).length:Int)%256]++(fs C 1 251).bytesR C.byteV=C.l
    rw[h3,Int.emod_eq_of_lt hbv.1 hbv.2,h2]
    rfl
theorem Dd(hc:c=7∨c=11∨c=12∨c=17)(hr:fa C)(he:C.endC.e=0) : ci 0 { aT.zero with code:=c }=C.l:=by
  have h:=((dy.refl C).fin hr he).2
  rcases hc with rfl|rfl|rfl|rfl<;>exact h.symm
theorem Bo(hd:dir=0∨dir=1)(hr:fa C)(h:bf dir c C=some (C',M))(he:C'.endC.e=0) : ci dir M=C.l:=by
  unfold bf at h
  split at h
  · rename_i hc
    obtain rfl:c=8:=by simpa using hc
    obtain⟨rfl,rfl⟩:=bJ h
    have hco:(eE dir 8 C).2.code=8:=by unfold eE;split<;>rfl
    unfold ci
    rw[hco,if_pos (by rfl)]
    exact AF hr he
  split at h
  · rename_i hc
    simp only[Bool.or_eq_true,beq_iff_eq] at hc
    have hc:c=7∨c=11∨c=12∨c=17:=by omega
    rcases hd with rfl|rfl
    · have h:some (C,({ aT.zero with code:=c }:aT))=some (C',M):=h
      obtain⟨rfl,rfl⟩:=bJ h
      exact Dd hc hr he
    · have h:some (cI c C)=some (C',M):=h
      obtain⟨rfl,rfl⟩:=bJ h
      exact CB hc hr he
  · cases h
theorem sH:∀ (n:Nat)(C:ai)(L:List Obj),∃ L',(eR n C L).2=L++L'∧L'.length=n∧dy C (eZ L') (eR n C L).1
  | 0,C,L=>⟨[],by simp[eR],rfl,dy.refl C⟩
  | n+1,C,L=>by
    obtain⟨L',h1,h2,h3⟩:=sH n (((C.bytesC 1).bytesC 1).bytesC (C.bytesC 1).byteV) (L++[⟨C.byteV,((C.bytesC 1).bytesC 1).bytesR (C.bytesC 1).byteV⟩])
    refine⟨⟨C.byteV,((C.bytesC 1).bytesC 1).bytesR (C.bytesC 1).byteV⟩ :: L',?_,by simp[h2],?_⟩
    · show(eR n _ _).2=_
      rw[h1]
      simp
    · have hE0:dy C _ ((C.bytesC 1).bytesC 1):=(dy.refl C).byte.byte
      have hE1:dy C (([C.byteV,((((C.bytesC 1).bytesC 1).bytesR (C.bytesC 1).byteV).length:Int)%256])++((C.bytesC 1).bytesC 1).bytesR (C.bytesC 1).byteV) (((C.bytesC 1).bytesC 1).bytesC (C.bytesC 1).byteV):=(hE0.bytes _).conv fun hr _ he=>by
        have hb:=dg ((dy.refl C).byte hr).1
        rw[(gY he).2.2,Int.emod_eq_of_lt hb.1 hb.2]
        rfl
      exact hE1.trans h3
theorem yx{c:Int}  (hr:fa C)(he:(dV (dI C).byteV (eK C)).1.endC.e=0) : [C.byteV,(dI C).byteV,(eK C).byteV,(md (eK C)).byteV,(ma (eK C)).byteV,((dV (dI C).byteV (eK C)).2.length:Int)%256]++eZ (dV (dI C).byteV (eK C)).2=C.l:=by
  have hE0:dy C _ (dI C):=(dy.refl C).byte.need
  have hE1:dy C _ (eK C):=hE0.byte.need
  have hE2:dy C _ (md (eK C)):=hE1.byte.need
  have hE3:dy C _ (ma (eK C)):=hE2.byte.need
  have hE4:dy C _ (o9 (eK C)):=hE3.byte.need
  have hE5:dy C _ (zF (dI C).byteV (eK C)):=hE4.byte.need
  obtain⟨L',h1,h2,h3⟩:=sH (o9 (eK C)).byteV.toNat (zF (dI C).byteV (eK C)) []
  have hb:=dg (hE4 hr).1
  have h4:(dV (dI C).byteV (eK C)).2=L':=by unfold dV;rw[h1];rfl
  obtain⟨_,h5⟩:=(hE5.trans h3).fin hr he
  rw[h4,h2,show(((o9 (eK C)).byteV.toNat:Nat) : Int)%256=(o9 (eK C)).byteV from by omega,h5]
  rfl
theorem yP(hd:dir=0∨dir=1)(hr:fa C)(h:bP dir c C=some (C',M))(he:C'.endC.e=0) : dD dir M=C.l:=by
  have hE0:dy C _ (dI C):=(dy.refl C).byte.need
  unfold bP at h
  split at h
  · cases h
  split at h
  · rename_i hm
    obtain⟨rfl,rfl⟩:=bJ h
    have hE1:=(hE0.need (ok:=decide (((dI C).l.length:Int)≤251)) (x:=5)).bytes ((g9 C).l.length:Int)
    obtain⟨_,h5⟩:=hE1.fin hr he
    unfold dD
    rw[if_pos (show(C.byteV==13)=true from hm),h5]
    rfl
  rename_i hm
  split at h
  · rename_i hc
    obtain rfl:dir=1:=by simpa using hc
    obtain⟨rfl,rfl⟩:=bJ h
    unfold dD
    rw[if_neg (show ¬ (C.byteV==13)=true from hm),if_neg (by decide)]
    exact yx (c:=c) hr he
  · rename_i hc
    obtain rfl:dir=0:=by
      rcases hd with rfl|rfl
      · rfl
      · exact absurd rfl hc
    obtain⟨rfl,rfl⟩:=bJ h
    have hE1:dy C _ (eK C):=hE0.byte.need
    obtain⟨_,h5⟩:=hE1.byte.fin hr he
    unfold dD
    rw[if_neg (show ¬ (C.byteV==13)=true from hm),if_pos (by rfl),h5]
    rfl
theorem qX(hl:∀ s C,0<C.l.length→(one s C).2.1.l.length<C.l.length)(hE:∀ s C,dy C (fZ dir code (one s C).2.2) (one s C).2.1) :
    ∀ (n:Nat) (s:Int) (C:ai) (L:List dt),C.l.length≤n→fa C→(aZ one n s C L).1.e=0→∃ L',(aZ one n s C L).2=L++L'∧C.l=cP dir code L'
  | 0,s,C,L,h,_,_=>⟨[],by simp[aZ],by simpa [cP] using h⟩
  | n+1,s,C,L,h,hr,he=>by
    unfold aZ at he ⊢
    split at he
    · rename_i hc
      rw[if_pos hc]
      simp only[Bool.and_eq_true,decide_eq_true_eq,beq_iff_eq] at hc
      have h1:=hl s C (by omega)
      obtain⟨h2,h3⟩:=hE s C hr
      split at he
      · rename_i hn
        rw[he] at hn
        cases hn
      · rename_i hn
        rw[if_neg hn]
        have h4:(one s C).2.1.e=0:=by simpa using hn
        obtain⟨L',h5,h6⟩:=qX hl hE n (one s C).1 (one s C).2.1 (L++[(one s C).2.2]) (by omega) h2 he
        refine⟨(one s C).2.2 :: L',by rw[h5];simp,?_⟩
        rw[(h3 h4).2,h6]
        rfl
    · rename_i hc
      rw[if_neg hc]
      have he:C.e=0:=he
      refine⟨[],by simp,?_⟩
      have:C.l=[]:=by
        apply List.eq_nil_of_length_eq_zero
        simp only[he,Bool.and_eq_true,decide_eq_true_eq,beq_self_eq_true,and_true] at hc
        omega
      rw[this]
      rfl
theorem Aj(C:ai) : dy C [6] (jf C):=((dy.refl C).byte.need).conv fun hr _ he=>by
  have h:=(fw (by decide) he).2
  simp only[beq_iff_eq] at h
  rw[h]
  rfl
theorem sn(C:ai) : dy C ([6]++aP [(aY C).file,(aY C).record,(aY C).count]) (dY C):=by
  have hE1:dy C _ (jP C):=(Aj C).word.need
  have hE2:dy C _ (o0 C):=hE1.word.need
  have hE3:dy C _ (dY C):=hE2.word.need
  exact hE3
theorem uZ(s:Int)(C:ai) : dy C (fZ 0 20 (dm s C).2.2) (dm s C).2.1:=by
  have h:dy C _ (ff s C):=(sn C).need
  exact h.conv fun _ _ _=>rfl
theorem uN(dir s:Int)(C:ai) : dy C (fZ dir 21 (du s C).2.2) (du s C).2.1:=by
  have h:dy C _ (oo C):=(sn C).need
  exact(h.words (o0 C).wordV).conv fun _ _ _=>rfl
theorem uC(s:Int)(C:ai) : dy C (fZ 1 20 (bX s C).2.2) (bX s C).2.1:=by
  have hE1:dy C _ (iv C):=(dy.refl C).byte.need
  have hE2:dy C _ (fj C):=hE1.byte.need
  refine(hE2.words (Int.tdiv (C.byteV-1) 2)).conv fun hr _ he=>?_
  obtain⟨h1,_,h2⟩:=kG (hE2 hr).1 he
  obtain⟨h3,h4⟩:=fw (by decide) h1
  obtain⟨h5,h6⟩:=fw (by decide) (gY h3).1
  have hb:=dg hr
  simp only[Bool.and_eq_true,decide_eq_true_eq,beq_iff_eq] at h4 h6
  have h7:(1+2*(((fj C).wordsR (Int.tdiv (C.byteV-1) 2)).length:Int))%256=C.byteV:=by
    rw[h2,Int.tdiv_eq_ediv_of_nonneg (by omega)]
    omega
  show _=[(1+2*(((fj C).wordsR (Int.tdiv (C.byteV-1) 2)).length:Int))%256,6]++aP ((fj C).wordsR (Int.tdiv (C.byteV-1) 2))
  rw[h7,h4]
  rfl
theorem jF(hl:∀ s C,0<C.l.length→(one s C).2.1.l.length<C.l.length)(hE:∀ s C,dy C (fZ dir code (one s C).2.2) (one s C).2.1){may:Int→Bool}   (hr:fa C)
    (he:(dw one may c C).1.endC.e=0) : [((cP dir code (oB one may C).2).length:Int)%256]++cP dir code (oB one may C).2=C.l:=by
  have hE0:dy C _ (l8 may C):=(dy.refl C).byte.need
  have hE1:=hE0.bytes C.byteV
  have hb:=dg hr
  unfold ai.endC at he
  obtain⟨h0,a⟩:=fw (by decide) he
  unfold dw at h0 a
  have hw:bD (oB one may C).1.e≠0∨(oB one may C).1.e=0:=by
    by_cases hz:(oB one may C).1.e=0
    · exact Or.inr hz
    · left
      unfold bD
      split
      · decide
      · exact hz
  have h1:((l8 may C).bytesC C.byteV).e=0∧(oB one may C).1.e=0:=by
    rcases hw with hw|hw
    · obtain⟨h2,h3⟩:=fw hw h0
      exact⟨h2,by simpa using h3⟩
    · rw[hw] at h0
      refine⟨?_,hw⟩
      unfold ai.need at h0
      rw[if_neg (by rintro⟨_,hx⟩;cases hx)] at h0
      exact h0
  obtain⟨h2,h3,h4⟩:=gY h1.1
  have h5:((l8 may C).bytesC C.byteV).l=[]:=by
    rw[jn] at a
    simp only[beq_iff_eq] at a
    exact List.eq_nil_of_length_eq_zero (by omega)
  have h6:C.l=[C.byteV]++(l8 may C).bytesR C.byteV:=by
    rw[((hE1 hr).2 h1.1).2,h5]
    simp
  have hB:fa (ww may C):=fun x hx=>hr x (by rw[h6];exact List.mem_append_right _ hx)
  obtain⟨L',h7,h8⟩:=qX hl hE (ww may C).l.length 0 (ww may C) [] (Nat.le_refl _) hB h1.2
  have h9:(oB one may C).2=L':=by unfold oB;rw[h7];rfl
  have b:cP dir code L'=(l8 may C).bytesR C.byteV:=h8.symm
  rw[h9,b,h4,Int.emod_eq_of_lt hb.1 hb.2,h6]
theorem lI(dir:Int)(M:aT) : dn dir M=[((cP dir M.code M.recs).length:Int)%256]++cP dir M.code M.recs:=by
  unfold dn
  simp
theorem zq(hd:dir=0∨dir=1)(hr:fa C)(h:bh dir c C=some (C',M))(he:C'.endC.e=0) : dn dir M=C.l:=by
  rw[lI]
  unfold bh at h
  split at h
  · rename_i hc
    obtain rfl:c=20:=by simpa using hc
    rcases hd with rfl|rfl
    · have h:some (dw dm j0 20 C)=some (C',M):=h
      obtain⟨rfl,rfl⟩:=bJ h
      exact jF mz uZ hr he
    · have h:some (dw bX iN 20 C)=some (C',M):=h
      obtain⟨rfl,rfl⟩:=bJ h
      exact jF jr uC hr he
  split at h
  · rename_i hc
    obtain rfl:c=21:=by simpa using hc
    obtain⟨rfl,rfl⟩:=bJ h
    exact jF mj (uN dir) hr he
  · cases h
theorem gH{form:Int→Int→ai→Option (ai × aT)}{lay:Int→aT→List Int}(hf:∀ {dir c:Int}{C C':ai}{M:aT},(dir=0∨dir=1)→fa C→form dir c C=some (C',M)→C'.endC.e=0→lay dir M=C.l)
       (hd:dir=0∨dir=1) (hr:∀ x,x∈b→0≤x∧x<256) (h:aj form dir c b=(M,0)) : lay dir M=b:=by
  unfold aj at h
  rw[if_pos hd] at h
  split at h
  · cases h
  · rename_i r hr'
    unfold bt at h
    split at h
    · rename_i he
      injection h with h
      obtain⟨C',M'⟩:=r
      have h:M'=M:=h
      subst h
      exact hf (C:=⟨b,false,0⟩) hd hr hr' he
    · rename_i he
      injection h with _ h
      exact absurd h he
theorem fF{parse:Int→Int→List Int→aT × Int}{lay:Int→aT→List Int}    (h1:lay dir M=l)(h2:parse dir M.code l=(M,0)) : bA parse lay dir M=some l:=by
  unfold bA
  rw[h1,if_pos h2]
theorem Aq(hd:dir=0∨dir=1)(hr:∀ x,x∈b→0≤x∧x<256)(h:ic k dir b=(M,0))(hc:M.code=b.getD 0 0) : hG k dir M=some (b.drop 1):=by
  have hr':∀ x,x∈b.drop 1→0≤x∧x<256:=fun x hx=>hr x (List.mem_of_mem_drop hx)
  unfold ic at h
  split at h
  · exact fF (gH y5 hd hr' h) (by rw[hc];exact h)
  · exact fF (gH B9 hd hr' h) (by rw[hc];exact h)
  · exact fF (gH Bo hd hr' h) (by rw[hc];exact h)
  · exact fF (gH zq hd hr' h) (by rw[hc];exact h)
  · exact fF (gH yP hd hr' h) (by rw[hc];exact h)
  · cases h
theorem rc(h:d8 x=true) : (x != 0)=true:=by
  unfold d8 at h
  simp only[decide_eq_true_eq,List.mem_cons,List.not_mem_nil,or_false] at h
  simp only[bne_iff_ne]
  omega
theorem wB(h:ef x=true) : 0<x∧x<128:=by
  unfold ef at h
  simp only[decide_eq_true_eq,List.mem_cons,List.not_mem_nil,or_false] at h
  omega
theorem kV(hd:dir=0∨dir=1)(hr:∀ x,x∈b→0≤x∧x<256)(h:cw dir b=(M,0)) : db dir M=some b:=by
  unfold cw at h
  split at h
  · cases h
  split at h
  · cases h
  split at h
  · cases h
  rename_i h1 h2 h3
  simp only[beq_iff_eq] at h2
  simp only[decide_eq_true_eq] at h3
  obtain⟨x,t,rfl⟩ : ∃ x t,b=x :: t:=by
    cases b with
    | nil=>exact absurd rfl h2
    | cons x t=>exact⟨x,t,rfl⟩
  have hx:=hr x (by simp)
  split at h
  · rename_i hq
    simp only[Bool.and_eq_true,decide_eq_true_eq,beq_iff_eq] at hq
    obtain⟨rfl,k1,k2,k3,k4⟩:=vc h
    have k5:=wB k2
    unfold db
    rw[if_pos (show((hY _ ((x :: t).getD 1 0)).fail != 0)=true from rc k3)]
    rw[if_neg (by rw[hq.2];decide)]
    unfold og
    have k6:gQ (hY (((x :: t).getD 0 0-128)%256) ((x :: t).getD 1 0)).code (hY (((x :: t).getD 0 0-128)%256) ((x :: t).getD 1 0)).fail=true:=by
      show gQ (((x :: t).getD 0 0-128)%256) ((x :: t).getD 1 0)=true
      unfold gQ
      rw[k2,k3]
      have:(((x :: t).getD 0 0-128)%256 != 0)=true:=by simp only[bne_iff_ne];omega
      rw[this]
      rfl
    rw[k6]
    have k7:decide (hY (((x :: t).getD 0 0-128)%256) ((x :: t).getD 1 0)=hY (hY (((x :: t).getD 0 0-128)%256) ((x :: t).getD 1 0)).code (hY (((x :: t).getD 0 0-128)%256) ((x :: t).getD 1 0)).fail)=true:=decide_eq_true rfl
    rw[k7]
    show some [(((x-128)%256)+128)%256,(x :: t).getD 1 0]=some (x :: t)
    match t,k4 with
    | [y],_ =>
      rw[show(((x-128)%256)+128)%256=x from by omega]
      rfl
  · obtain⟨_,k1⟩:=xv hd h
    obtain⟨k2,k3⟩:=k1 rfl
    have k4:=Aq hd hr h k2
    unfold db
    rw[if_neg (by rw[k3];decide),k2,k4]
    show(if decide (253≤(t.length:Int))=true then none else some ([x]++t))=some (x :: t)
    rw[if_neg (by simp only[decide_eq_true_eq];simp only[List.length_cons] at h3;omega)]
    rfl
end Go.Proofs.YtdkhbcefkfgbdaaGreat
namespace Go.Proofs.YtdkhbcefkfgbdaaGreat
theorem ny(C:ai)(n:Int) : (C.bytesR n).length≤C.l.length:=by
  unfold ai.bytesR
  split
  · simp
  · rw[List.length_take];omega
theorem xw(C:ai)(n:Int) : (C.wordsR n).length≤C.l.length:=by
  have h:=ny C (2*n)
  unfold ai.wordsR
  split
  · simp
  · unfold cD
    split
    · rw[fm];omega
    · simp
def Sh (C C':ai) : Prop:=C'.l.length≤C.l.length
theorem Sh.refl(C:ai) : Sh C C:=Nat.le_refl _
theorem Sh.bytes(h:Sh A C)  : Sh A (C.bytesC n):=Nat.le_trans (jZ C n) h
theorem Sh.words(h:Sh A C)  : Sh A (C.wordsC n):=Nat.le_trans (fG C n) h
theorem Sh.need(h:Sh A C){b:Bool}{e:Int}:Sh A (C.need b e):=by unfold Sh;rw[fo];exact h
theorem Sh.bR(h:Sh A C)(n:Int)  (hk:A.l.length≤k) : (C.bytesR n).length≤k:=Nat.le_trans (ny C n) (Nat.le_trans h hk)
theorem Sh.wR(h:Sh A C)(n:Int)  (hk:A.l.length≤k) : (C.wordsR n).length≤k:=Nat.le_trans (xw C n) (Nat.le_trans h hk)
theorem fB(h1:M.words.length≤252)(h2:M.bits.length≤2016)(h3:M.data.length≤252)(h4:M.recs=[])(h5:M.objects=[]) : bi M :=
  ⟨by omega,by omega,by omega,by rw[h4];decide,(by rw[h4];exact fun r h=>nomatch h),by rw[h5];decide,(by rw[h5];exact fun r h=>nomatch h)⟩
theorem eq(M:aT)(h1:M.words=[])(h2:M.bits=[])(h3:M.data=[])(h4:M.recs=[])(h5:M.objects=[]) : bi M:=fB (by rw[h1];decide) (by rw[h2];decide) (by rw[h3];decide) h4 h5
theorem AV(C:ai)(m:Int) : Sh C (bY C m):=((Sh.refl C).words.words.need).need
theorem n9(h:Sh A C)(a m:Int) : Sh A (bN C a m):=(h.words.need).need
theorem tZ{l:List Bool}(h:cK b n=some l) : l.length≤8*b.length:=by
  unfold cK at h
  split at h
  · rename_i hc
    split at h
    · injection h with h
      subst h
      have:=hc.2
      rw[List.length_map,List.length_range]
      unfold eo at this
      split at this<;>omega
    · cases h
  · cases h
theorem vO(hl:C.l.length≤252)(h:aO dir c C=some (C',M)) : bi M:=by
  unfold aO at h
  repeat' split at h
  all_goals first | (cases h;done) | obtain⟨rfl,rfl⟩:=bJ h
  · exact eq _ rfl rfl rfl rfl rfl
  · exact fB (Nat.zero_le _) (Nat.zero_le _) (((Sh.refl C).bytes.need).bR _ hl) rfl rfl
  · exact eq _ rfl rfl rfl rfl rfl
  · refine fB (Nat.zero_le _) ?_ (Nat.zero_le _) rfl rfl
    show((qJ C).getD []).length≤2016
    cases hu:qJ C with
    | none=>simp
    | some l =>
      have h1:=tZ hu
      have h2:((iE C).bytesR (oH C)).length≤252:=((AV C 1968).bytes.need).bR _ hl
      simp only[Option.getD_some]
      omega
  · exact eq _ rfl rfl rfl rfl rfl
theorem zp(hl:C.l.length≤252)(h:aW dir c C=some (C',M)) : bi M:=by
  unfold aW at h
  repeat' split at h
  all_goals first | (cases h;done) | obtain⟨rfl,rfl⟩:=bJ h
  · exact eq _ rfl rfl rfl rfl rfl
  · exact fB (((Sh.refl C).bytes.need).wR _ hl) (Nat.zero_le _) (Nat.zero_le _) rfl rfl
  · exact eq _ rfl rfl rfl rfl rfl
  · exact fB (((n9 (Sh.refl C).words _ _).bytes.need).wR _ hl) (Nat.zero_le _) (Nat.zero_le _) rfl rfl
  · exact eq _ rfl rfl rfl rfl rfl
  · exact eq _ rfl rfl rfl rfl rfl
  · exact fB (((n9 (n9 (Sh.refl C).words _ _).words _ _).bytes.need).wR _ hl) (Nat.zero_le _) (Nat.zero_le _) rfl rfl
  · exact fB (((Sh.refl C).bytes.need).wR _ hl) (Nat.zero_le _) (Nat.zero_le _) rfl rfl
  · exact eq _ rfl rfl rfl rfl rfl
  · exact fB ((((Sh.refl C).words.need).words.need).wR _ hl) (Nat.zero_le _) (Nat.zero_le _) rfl rfl
theorem yu(hl:C.l.length≤252)(h:bf dir c C=some (C',M)) : bi M:=by
  unfold bf at h
  repeat' split at h
  all_goals first | (cases h;done) | obtain⟨rfl,rfl⟩:=bJ h
  · unfold eE
    split
    · exact fB (((Sh.refl C).words.need).wR _ hl) (Nat.zero_le _) (Nat.zero_le _) rfl rfl
    · exact fB (((Sh.refl C).words.need.need).wR _ hl) (Nat.zero_le _) (Nat.zero_le _) rfl rfl
  · unfold cI
    have h1:Sh C (fs C 6 70):=(Sh.refl C).bytes.need
    have h2:Sh C (dZ (fs C 6 70)):=h1.words.need
    repeat' split
    · exact eq _ rfl rfl rfl rfl rfl
    · exact eq _ rfl rfl rfl rfl rfl
    · exact fB (Nat.zero_le _) (Nat.zero_le _) (h2.words.words.bR _ hl) rfl rfl
    · exact fB (Nat.zero_le _) (Nat.zero_le _) (Sh.bR (C:=fs C 1 251) ((Sh.refl C).bytes.need) _ hl) rfl rfl
    · exact eq _ rfl rfl rfl rfl rfl
  · exact eq _ rfl rfl rfl rfl rfl
theorem sP:∀ (L:List Obj),2*L.length≤(eZ L).length∧∀ o,o∈L→o.value.length≤(eZ L).length
  | []=>⟨by simp[eZ],fun o h=>nomatch h⟩
  | x :: L=>by
    obtain⟨h1,h2⟩:=sP L
    have h3:(eZ (x :: L)).length=2+x.value.length+(eZ L).length:=by simp[eZ];omega
    refine⟨by rw[h3,List.length_cons];omega,fun o ho=>?_⟩
    rcases List.mem_cons.1 ho with rfl|ho
    · omega
    · have:=h2 o ho
      omega
theorem AU(hd:dir=0∨dir=1)(hr:fa C)(hl:C.l.length≤252)(h:bP dir c C=some (C',M))(he:C'.endC.e=0) : bi M:=by
  have hb:=yP hd hr h he
  have hA:Sh C (dI C):=(Sh.refl C).bytes.need
  unfold bP at h
  repeat' split at h
  all_goals first | (cases h;done) | obtain⟨rfl,rfl⟩:=bJ h
  · exact fB (Nat.zero_le _) (Nat.zero_le _) (Sh.bR (C:=g9 C) hA.need _ hl) rfl rfl
  · rename_i hm hc
    obtain rfl:dir=1:=by simpa using hc
    unfold dD at hb
    rw[if_neg (show ¬ (C.byteV==13)=true from hm),if_neg (by decide)] at hb
    have h1:=congrArg List.length hb
    rw[List.length_append] at h1
    obtain⟨h2,h3⟩:=sP (dV (dI C).byteV (eK C)).2
    have h1:6+(eZ (dV (dI C).byteV (eK C)).2).length=C.l.length:=h1
    refine⟨Nat.zero_le _,Nat.zero_le _,Nat.zero_le _,Nat.zero_le _,(fun r h=>nomatch h),?_,?_⟩
    · show(dV (dI C).byteV (eK C)).2.length≤128
      omega
    · intro o ho
      have:=h3 o ho
      omega
  · exact eq _ rfl rfl rfl rfl rfl
theorem mV:∀ (L:List dt),(∀ r,r∈L→4≤(fZ dir code r).length)→4*L.length≤(cP dir code L).length∧∀ r,r∈L→r.words.length≤(cP dir code L).length
  | [],_=>⟨by simp[cP],fun o h=>nomatch h⟩
  | x :: L,h=>by
    obtain⟨h1,h2⟩:=mV L fun r hr=>h r (by simp[hr])
    have h3:(cP dir code (x :: L)).length=(fZ dir code x).length+(cP dir code L).length:=by simp[cP]
    have h4:=h x (by simp)
    have h5:x.words.length≤(fZ dir code x).length:=by
      have:=aB x.words
      unfold fZ
      rw[List.length_append]
      omega
    refine⟨by rw[h3,List.length_cons];omega,fun o ho=>?_⟩
    rcases List.mem_cons.1 ho with rfl|ho
    · omega
    · have:=h2 o ho
      omega
theorem rO{P:dt→Prop}  (hE:∀ s C,dy C (fZ dir code (one s C).2.2) (one s C).2.1)(hP:∀ s C,fa C→(one s C).2.1.e=0→P (one s C).2.2) :
    ∀ (n:Nat) (s:Int) (C:ai) (L:List dt),fa C→(aZ one n s C L).1.e=0→(∀ r,r∈L→P r)→∀ r,r∈(aZ one n s C L).2→P r
  | 0,s,C,L,_,_,h=>h
  | n+1,s,C,L,hr,he,h=>by
    unfold aZ at he ⊢
    split at he
    · rename_i hc
      rw[if_pos hc]
      split at he
      · rename_i hn
        rw[he] at hn
        cases hn
      · rename_i hn
        rw[if_neg hn]
        have h4:(one s C).2.1.e=0:=by simpa using hn
        exact rO hE hP n _ _ _ ((hE s C) hr).1 he fun r hr'=>by
          rcases List.mem_append.1 hr' with h5|h5
          · exact h r h5
          · rw[List.mem_singleton.1 h5]
            exact hP s C hr h4
    · rename_i hc
      rw[if_neg hc]
      exact h
theorem D0(s:Int)(C:ai)(hr:fa C)(he:(bX s C).2.1.e=0) : 4≤(fZ 1 20 (bX s C).2.2).length:=by
  have hE1:dy C _ (iv C):=(dy.refl C).byte.need
  have hE2:dy C _ (fj C):=hE1.byte.need
  obtain⟨h1,_,h2⟩:=kG (hE2 hr).1 (show((fj C).wordsC (Int.tdiv (C.byteV-1) 2)).e=0 from he)
  obtain⟨h3,_⟩:=fw (by decide) h1
  obtain⟨_,h6⟩:=fw (by decide) (gY h3).1
  simp only[Bool.and_eq_true,decide_eq_true_eq,beq_iff_eq] at h6
  rw[Int.tdiv_eq_ediv_of_nonneg (by omega)] at h2
  have h7:=aB ((fj C).wordsR (Int.tdiv (C.byteV-1) 2))
  show 4≤([_,6]++aP ((fj C).wordsR (Int.tdiv (C.byteV-1) 2))).length
  rw[List.length_append,h7,Int.tdiv_eq_ediv_of_nonneg (by omega)]
  simp only[List.length_cons,List.length_nil]
  omega
theorem zB(dir code:Int)(r:dt)(h:(code==20&&dir==1)=false) : 4≤(fZ dir code r).length:=by
  unfold fZ
  rw[h]
  simp[aP]
theorem jY(hl:∀ s C,0<C.l.length→(one s C).2.1.l.length<C.l.length)(hE:∀ s C,dy C (fZ dir code (one s C).2.2) (one s C).2.1)
    (hP:∀ s C,fa C→(one s C).2.1.e=0→4≤(fZ dir code (one s C).2.2).length) {may:Int→Bool}   (hr:fa C) (hl':C.l.length≤252)
    (he:(dw one may c C).1.endC.e=0) : bi (dw one may c C).2:=by
  have hb:=jF hl hE hr he
  have h1:=congrArg List.length hb
  rw[List.length_append] at h1
  have h1:1+(cP dir code (oB one may C).2).length=C.l.length:=h1
  have h2:(oB one may C).1.e=0:=by
    unfold ai.endC at he
    obtain⟨h0,_⟩:=fw (by decide) he
    unfold dw at h0
    by_cases hz:(oB one may C).1.e=0
    · exact hz
    · have hw:bD (oB one may C).1.e≠0:=by
        unfold bD
        split
        · decide
        · exact hz
      simpa using (fw hw h0).2
  have hB:fa (ww may C):=fun x hx=>hr x (by
    have h5:x∈(l8 may C).l:=by
      have:x∈(l8 may C).bytesR C.byteV:=hx
      unfold ai.bytesR at this
      split at this
      · cases this
      · exact List.mem_of_mem_take this
    have h6:x∈(C.bytesC 1).l:=by unfold l8 at h5;rwa [jn] at h5
    unfold ai.bytesC at h6
    split at h6
    · rw[jn] at h6
      cases h6
    · exact List.mem_of_mem_drop h6)
  have h3:=rO (P:=fun r=>4≤(fZ dir code r).length) hE hP (ww may C).l.length 0 (ww may C) [] hB h2 (fun r h=>nomatch h)
  obtain⟨h4,h5⟩:=mV (dir:=dir) (code:=code) (oB one may C).2 h3
  refine⟨Nat.zero_le _,Nat.zero_le _,Nat.zero_le _,?_,?_,Nat.zero_le _,(fun r h=>nomatch h)⟩
  · show(oB one may C).2.length≤64
    omega
  · intro r hr'
    have:=h5 r hr'
    omega
theorem wO(hd:dir=0∨dir=1)(hr:fa C)(hl:C.l.length≤252)(h:bh dir c C=some (C',M))(he:C'.endC.e=0) : bi M:=by
  unfold bh at h
  split at h
  · rename_i hc
    obtain rfl:c=20:=by simpa using hc
    rcases hd with rfl|rfl
    · have h:some (dw dm j0 20 C)=some (C',M):=h
      obtain⟨rfl,rfl⟩:=bJ h
      exact jY mz uZ (fun _ _ _ _=>zB _ _ _ rfl) hr hl he
    · have h:some (dw bX iN 20 C)=some (C',M):=h
      obtain⟨rfl,rfl⟩:=bJ h
      exact jY jr uC D0 hr hl he
  split at h
  · rename_i hc
    obtain rfl:c=21:=by simpa using hc
    obtain⟨rfl,rfl⟩:=bJ h
    exact jY mj (uN dir) (fun _ _ _ _=>zB _ _ _ rfl) hr hl he
  · cases h
theorem ez:bi aT.zero:=eq _ rfl rfl rfl rfl rfl
theorem gG{form:Int→Int→ai→Option (ai × aT)}(hf:∀ {dir c:Int}{C C':ai}{M:aT},(dir=0∨dir=1)→fa C→C.l.length≤252→form dir c C=some (C',M)→C'.endC.e=0→bi M)
        (hr:∀ x,x∈b→0≤x∧x<256) (hl:b.length≤252) (h:aj form dir c b=(M,E)) : bi M∧(E≠0→M=aT.zero):=by
  unfold aj at h
  split at h
  · rename_i hd
    split at h
    · injection h with h1 h2
      subst h1 h2
      exact⟨ez,fun _=>rfl⟩
    · rename_i r hr'
      unfold bt at h
      split at h
      · rename_i he
        injection h with h1 h2
        obtain⟨C',M'⟩:=r
        have h1:M'=M:=h1
        subst h1
        exact⟨hf (C:=⟨b,false,0⟩) hd hr hl hr' he,fun hE=>absurd h2.symm hE⟩
      · injection h with h1 h2
        subst h1
        exact⟨ez,fun _=>rfl⟩
  · injection h with h1 h2
    subst h1
    exact⟨ez,fun _=>rfl⟩
theorem yB(hr:∀ x,x∈b→0≤x∧x<256)(hl:b.length≤253)(h:ic k dir b=(M,E)) : bi M∧(E≠0→M=aT.zero):=by
  have hr':∀ x,x∈b.drop 1→0≤x∧x<256:=fun x hx=>hr x (List.mem_of_mem_drop hx)
  have hl':(b.drop 1).length≤252:=by rw[List.length_drop];omega
  unfold ic at h
  split at h
  · exact gG (fun _ _ hl h _=>vO hl h) hr' hl' h
  · exact gG (fun _ _ hl h _=>zp hl h) hr' hl' h
  · exact gG (fun _ _ hl h _=>yu hl h) hr' hl' h
  · exact gG wO hr' hl' h
  · exact gG AU hr' hl' h
  · injection h with h1 h2
    subst h1
    exact⟨ez,fun _=>rfl⟩
theorem xS(h:fg b=(M,E)) : bi M∧(E≠0→M=aT.zero):=by
  unfold fg at h
  repeat' split at h
  all_goals (injection h with h1 h2;subst h1)
  all_goals first | exact⟨ez,fun _=>rfl⟩ | exact⟨eq _ rfl rfl rfl rfl rfl,fun hE=>absurd h2.symm hE⟩
theorem nP(hr:∀ x,x∈b→0≤x∧x<256)(h:cw dir b=(M,E)) : bi M∧(E≠0→M=aT.zero):=by
  unfold cw at h
  split at h
  · injection h with h1 h2;subst h1;exact⟨ez,fun _=>rfl⟩
  split at h
  · injection h with h1 h2;subst h1;exact⟨ez,fun _=>rfl⟩
  split at h
  · injection h with h1 h2;subst h1;exact⟨ez,fun _=>rfl⟩
  rename_i h3
  simp only[decide_eq_true_eq] at h3
  split at h
  · exact xS h
  · exact yB hr (by omega) h
open Go.RowKit
theorem Eu{r:List Int}(ha:0≤a∧a<65536) : (ai.mk (aP [a]++r) false 0).wordV=a∧(ai.mk (aP [a]++r) false 0).wordsC 1=⟨r,false,0⟩:=by
  have hb:(ai.mk (aP [a]++r) false 0).wbad 1=false:=by
    unfold ai.wbad
    simp only[aP,List.length_append,List.length_cons,List.length_nil,Bool.or_eq_false_iff,decide_eq_false_iff_not]
    omega
  have hf:(ai.mk (aP [a]++r) false 0).fails (2*1)=false:=by
    unfold ai.fails
    simp[aP]
    omega
  constructor
  · unfold ai.wordV ai.wordsR ai.bytesR
    rw[hb,hf]
    show(cD [a/256,a%256]).getD 0 0=a
    unfold cD
    rw[if_pos (by simp)]
    show a/256*256+a%256=a
    omega
  · unfold ai.wordsC ai.bytesC
    rw[hb,hf]
    rfl
end Go.Proofs.YtdkhbcefkfgbdaaGreat
namespace Go.Proofs.YtdkhbcefkfgbdaaGreat
theorem gx(u:Int)(l:List Int) : (jd u l).length=3+l.length:=by simp[jd,co];omega
theorem jC(h:fP dir u t M=some b) : t=0∧∃ l,db dir M=some l∧b=jd u l∧l.length≤253:=by
  unfold fP at h
  split at h
  · cases h
  · rename_i l hl
    have hle:=it hl
    split at h
    · cases h
    · rename_i ht
      injection h with h
      exact⟨by simpa using ht,l,hl,h.symm,hle⟩
theorem AN(hc:0≤M.code∧M.code<256)(h:fP dir u t M=some b) : 4≤b.length∧b.length≤256:=by
  obtain⟨_,l,h1,rfl,h2⟩:=jC h
  have:=iy hc h1
  rw[gx]
  omega
theorem pz(u:Int)(l:List Int) : (jd u l).take ((jd u l).length-2)=[u]++l:=by
  rw[gx,show 3+l.length-2=([u]++l).length from by simp;omega]
  exact List.take_left' rfl
theorem wc(u:Int)(l:List Int) : (jd u l).drop ((jd u l).length-2)=co (cn 65535 ([u]++l)):=by
  rw[gx,show 3+l.length-2=([u]++l).length from by simp;omega]
  exact List.drop_left' rfl
theorem BG(u:Int)(l:List Int) : dO (jd u l)=true:=by
  unfold dO
  rw[pz,wc,gx]
  simp only[decide_true,Bool.and_true,decide_eq_true_eq]
  omega
theorem zo(u:Int)(l:List Int) : fM (jd u l)=l:=by
  unfold fM
  rw[pz]
  rfl
theorem CN(hd:dir=0∨dir=1)(h:0<l.length)(h2:l.length≤253) : ec dir (jd u l)=ch u 0 (cw dir l):=by
  unfold ec
  rw[BG,zo]
  rw[if_neg (show ¬ (dir != 0&&dir != 1)=true by rcases hd with rfl | rfl<;>decide),if_neg (by rw[gx];simp only[decide_eq_true_eq];omega),if_neg (by rw[gx];simp only[decide_eq_true_eq];omega),if_neg (by decide)]
  rfl
theorem Dh(hd:dir=0∨dir=1)(hc:0≤M.code∧M.code<256)(hf:0≤M.fail∧M.fail<256)(h:fP dir u t M=some b) : ec dir b=(⟨u,t,M⟩,0):=by
  obtain⟨rfl,l,h1,rfl,h2⟩:=jC h
  rw[CN hd (iy hc h1) h2,qj hd hc hf h1]
  rfl
theorem zc(hl:3≤b.length)(h:dO b=true) : ∃ u l,b=jd u l:=by
  unfold dO at h
  rw[Bool.and_eq_true,decide_eq_true_eq,decide_eq_true_eq] at h
  obtain⟨h1,h2⟩:=h
  cases hb:b.take (b.length-2) with
  | nil =>
    have:=congrArg List.length hb
    rw[List.length_take,List.length_nil] at this
    omega
  | cons u l =>
    refine⟨u,l,?_⟩
    conv=>lhs;rw[← List.take_append_drop (b.length-2) b,← h2,hb]
    rfl
theorem y8(hr:∀ x,x∈b→0≤x∧x<256)(h:ec dir b=(F,E)) : bi F.msg∧(E≠0→F=cF.zero):=by
  have hz:∀ k:Int,((cF.zero,k) : cF × Int)=(F,E)→bi F.msg∧(E≠0→F=cF.zero):=fun k h=>by
    injection h with h1 h2
    subst h1
    exact⟨ez,fun _=>rfl⟩
  unfold ec at h
  split at h
  · exact hz _ h
  split at h
  · exact hz _ h
  split at h
  · exact hz _ h
  split at h
  · exact hz _ h
  cases hp:cw dir (fM b) with
  | mk M E' =>
    rw[hp] at h
    obtain⟨k1,k2⟩:=nP (fun x hx=>hr x (List.mem_of_mem_take (List.mem_of_mem_drop hx))) hp
    have h:(if (E' != 0)=true then ((cF.zero,E') : cF × Int) else (⟨_,_,M⟩,0))=(F,E):=h
    split at h
    · exact hz _ h
    · injection h with h5 h6
      subst h5
      exact⟨k1,fun hE=>absurd h6.symm hE⟩
theorem yS(hd:dir=0∨dir=1)(hr:∀ x,x∈b→0≤x∧x<256)(h:ec dir b=(F,E))(hE:(E==0)=true)(hW:fP dir F.unit F.tid F.msg=r) : r=some b∧4≤b.length∧b.length≤256:=by
  obtain rfl:E=0:=by simpa using hE
  unfold ec at h
  split at h
  · cases h
  split at h
  · cases h
  split at h
  · cases h
  split at h
  · cases h
  rename_i h1 h2 h3 h4
  simp only[decide_eq_true_eq] at h2 h3
  have h4:dO b=true:=by simpa using h4
  obtain⟨u,l,rfl⟩:=zc (by omega) h4
  rw[zo] at h
  have h:ch u 0 (cw dir l)=(F,0):=h
  cases hp:cw dir l with
  | mk M E' =>
    rw[hp] at h
    have h:(if (E' != 0)=true then ((cF.zero,E') : cF × Int) else (⟨_,_,M⟩,0))=(F,0):=h
    split at h
    · rename_i h5
      injection h with _ h6
      subst h6
      cases h5
    · rename_i h5
      injection h with h6 _
      subst h6
      obtain rfl:E'=0:=by simpa using h5
      have h7:=kV hd (fun x hx=>hr x (by unfold jd;simp[hx])) hp
      rw[← hW]
      refine⟨?_,by omega,by omega⟩
      show fP dir u 0 M=_
      unfold fP
      rw[h7]
      simp
open Go.RowKit
def qv (u:Int)(l:List Int) : List Int:=([u]++l)++[cE ([u]++l)]
theorem kN(u:Int)(l:List Int) : (qv u l).length=l.length+2:=by simp[qv]
theorem tp(u:Int)(l:List Int) : mX u l=([58]++dp (qv u l))++[13,10]:=rfl
theorem rz(u:Int)(l:List Int) : (mX u l).length=2*l.length+7:=by
  rw[tp]
  simp only[List.length_append,List.length_cons,List.length_nil,eb,kN]
  omega
theorem wz(hu:0≤u∧u<256)(hl:dz l) : dz (qv u l):=by
  refine gD (gD ?_ hl) ?_
  · intro x hx;rw[List.mem_singleton] at hx;rw[hx];exact hu
  · intro x hx;rw[List.mem_singleton] at hx;rw[hx];exact jK _
theorem jO(h:fQ dir u t M=some b) : t=0∧∃ l,db dir M=some l∧b=mX u l∧l.length≤253:=by
  unfold fQ at h
  split at h
  · cases h
  · rename_i l hl
    have hle:=it hl
    split at h
    · cases h
    · rename_i ht
      injection h with h
      exact⟨by simpa using ht,l,hl,h.symm,hle⟩
theorem AH(hc:0≤M.code∧M.code<256)(h:fQ dir u t M=some b) : 9≤b.length∧b.length≤513:=by
  obtain⟨_,l,h1,rfl,h2⟩:=jO h
  have:=iy hc h1
  rw[rz]
  omega
theorem sT(s:List Int) : (([58]++s)++[13,10]).drop 1=s++[13,10]:=rfl
theorem AE(s:List Int) : gn (s++[13,10])=true:=by
  unfold gn
  have e:(((s++[13,10]).length:Nat) : Int)=(s.length:Int)+2:=by simp
  have e2:((s.length:Int)+2-2).toNat=s.length:=by omega
  rw[e,e2,List.drop_left' rfl]
  simp
  omega
theorem yR(s:List Int) : i1 (([58]++s)++[13,10])=some s:=by
  rw[yq rfl (by rw[sT];exact AE s),sT]
  have e:(([58]++s)++[13,10]).length-3=s.length:=by simp
  rw[e,List.take_left' rfl]
theorem y9(h:i1 b=some s) : b=([58]++s)++[13,10]:=by
  obtain⟨h1,h2,rfl,h3⟩:=lx h
  cases b with
  | nil=>simp at h3
  | cons a r =>
    have ha:a=58:=h1
    subst ha
    have h2:gn r=true:=h2
    have h4:=mN h2
    unfold gn at h2
    simp only[Bool.and_eq_true,decide_eq_true_eq] at h2
    have h5:=h2.2
    rw[show(((r.length:Nat) : Int)-2).toNat=r.length-2 from by omega] at h5
    show 58 :: r=58 :: (r.take ((58 :: r).length-3)++[13,10])
    rw[show(58 :: r).length-3=r.length-2 from by simp only[List.length_cons];omega,← h5,List.take_append_drop]
theorem sm(a b:List Int) : ∀ k,k≤a.length→gl (a++b) k=gl a k
  | 0,_=>rfl
  | k+1,h=>by
    unfold gl
    rw[sm a b k (by omega),List.getD_eq_getElem?_getD,List.getD_eq_getElem?_getD,List.getElem?_append_left (by omega)]
theorem wQ(a:List Int)(c:Int) : sE (a++[c])=(sE a+c)%256:=by
  unfold sE
  have e:(a++[c]).length=a.length+1:=by simp
  rw[e]
  show(gl (a++[c]) a.length+(a++[c]).getD a.length 0)%256=_
  rw[sm a [c] _ (Nat.le_refl _)]
  simp
theorem mK{a:List Int}  (hc:0≤c∧c<256) : ep (a++[c])=true↔c=cE a:=by
  have h:=sx a a.length
  unfold ep cE
  rw[wQ]
  have hs:sE a=gl a a.length:=rfl
  simp only[Bool.and_eq_true,decide_eq_true_eq,beq_iff_eq,List.length_append,List.length_cons,List.length_nil]
  constructor
  · intro k;omega
  · intro k;omega
theorem BO(u:Int)(l:List Int) : ep (qv u l)=true:=(mK (jK _)).2 rfl
theorem CC(u:Int)(l:List Int) : eM (qv u l)=l:=by
  unfold eM
  rw[kN,show l.length+2-1=([u]++l).length from by simp]
  unfold qv
  rw[List.take_left' rfl]
  rfl
theorem CF(hd:dir=0∨dir=1)(h:6≤s.length)(h2:s.length≤510) : eD dir (([58]++s)++[13,10])=match cg s with
      | none=>(cF.zero,11)
      | some x=>if !(ep x) then (cF.zero,10) else ch (x.getD 0 0) 0 (cw dir (eM x)):=by
  have hl:((([58]++s)++[13,10]).length:Int)=(s.length:Int)+3:=by simp;omega
  unfold eD
  rw[yR,hl]
  rw[if_neg (show ¬ (dir != 0&&dir != 1)=true by rcases hd with rfl | rfl<;>decide),if_neg (by simp only[decide_eq_true_eq];omega),if_neg (by simp only[decide_eq_true_eq];omega)]
  all_goals rfl
theorem CG(hd:dir=0∨dir=1)(hu:0≤u∧u<256)(hb:dz l)(h:0<l.length)(h2:l.length≤253) : eD dir (mX u l)=ch u 0 (cw dir l):=by
  rw[tp,CF hd (by rw[eb,kN];omega) (by rw[eb,kN];omega),oR _ (wz hu hb)]
  show(if !(ep (qv u l)) then _ else _)=_
  rw[BO,CC]
  rfl
theorem CP(hd:dir=0∨dir=1)(hu:0≤u∧u<256)(hc:0≤M.code∧M.code<256)(hf:0≤M.fail∧M.fail<256)(hb:∀ l,db dir M=some l→dz l)(h:fQ dir u t M=some b) : eD dir b=(⟨u,t,M⟩,0):=by
  obtain⟨rfl,l,h1,rfl,h2⟩:=jO h
  rw[CG hd hu (hb l h1) (iy hc h1) h2,qj hd hc hf h1]
  rfl
theorem AC{x:List Int}(h:2≤x.length)(hb:dz x)(k:ep x=true) : x=qv (x.getD 0 0) (eM x):=by
  have hne:x≠[]:=fun e=>by rw[e] at h;simp at h
  obtain⟨y,c,rfl⟩ : ∃ y c,x=y++[c]:=⟨x.dropLast,x.getLast hne,(List.dropLast_concat_getLast hne).symm⟩
  have hc:=hb c (by simp)
  have h1:=(mK hc).1 k
  cases y with
  | nil=>simp at h
  | cons u l =>
    have e:eM ((u :: l)++[c])=l:=by
      unfold eM
      rw[show((u :: l)++[c]).length-1=(u :: l).length from by simp,List.take_left' rfl]
      rfl
    rw[e]
    show(u :: l)++[c]=([u]++l)++[cE ([u]++l)]
    rw[h1]
    rfl
theorem zQ(h:eD dir b=(F,E)) : bi F.msg∧(E≠0→F=cF.zero):=by
  have hz:∀ k:Int,((cF.zero,k) : cF × Int)=(F,E)→bi F.msg∧(E≠0→F=cF.zero):=fun k h=>by
    injection h with h1 h2
    subst h1
    exact⟨ez,fun _=>rfl⟩
  unfold eD at h
  split at h
  · exact hz _ h
  split at h
  · exact hz _ h
  split at h
  · exact hz _ h
  split at h
  · exact hz _ h
  split at h
  · exact hz _ h
  rename_i s _ x hx
  split at h
  · exact hz _ h
  cases hp:cw dir (eM x) with
  | mk M E' =>
    rw[hp] at h
    obtain⟨k1,k2⟩:=nP (fun y hy=>(iJ hx).2 y (List.mem_of_mem_take (List.mem_of_mem_drop hy))) hp
    have h:(if (E' != 0)=true then ((cF.zero,E') : cF × Int) else (⟨_,_,M⟩,0))=(F,E):=h
    split at h
    · exact hz _ h
    · injection h with h5 h6
      subst h5
      exact⟨k1,fun hE=>absurd h6.symm hE⟩
theorem xP(hd:dir=0∨dir=1)(h:eD dir b=(F,E))(hE:(E==0)=true)(hW:fQ dir F.unit F.tid F.msg=r) : r=some b∧9≤b.length∧b.length≤513:=by
  obtain rfl:E=0:=by simpa using hE
  unfold eD at h
  split at h
  · cases h
  split at h
  · cases h
  rename_i h2
  split at h
  · cases h
  rename_i h3
  simp only[decide_eq_true_eq] at h2 h3
  cases hs:i1 b with
  | none=>rw[hs] at h;cases h
  | some s =>
  rw[hs] at h
  cases hx:cg s with
  | none=>dsimp only at h;rw[hx] at h;cases h
  | some x =>
  dsimp only at h
  rw[hx] at h
  dsimp only at h
  split at h
  · cases h
  rename_i h4
  have h4:ep x=true:=by simpa using h4
  have hl:=rR hs
  have hxl:=lE hx
  obtain⟨e1,e2⟩:=iJ hx
  have hsh:=AC (by omega) e2 h4
  cases hp:cw dir (eM x) with
  | mk M E' =>
    rw[hp] at h
    have h:(if (E' != 0)=true then ((cF.zero,E') : cF × Int) else (⟨_,_,M⟩,0))=(F,0):=h
    split at h
    · rename_i h5
      injection h with _ h6
      subst h6
      cases h5
    · rename_i h5
      injection h with h6 _
      subst h6
      obtain rfl:E'=0:=by simpa using h5
      have h7:db dir M=some (eM x):=kV hd (fun y hy=>e2 y (List.mem_of_mem_take (List.mem_of_mem_drop hy))) hp
      rw[← hW]
      refine⟨?_,by omega,by omega⟩
      show fQ dir (x.getD 0 0) 0 M=_
      unfold fQ
      rw[h7]
      show some (mX _ _)=_
      rw[tp,← hsh,← e1,← y9 hs]
open Go.RowKit
end Go.Proofs.YtdkhbcefkfgbdaaGreat
namespace Go.Proofs.YtdkhbcefkfgbdaaGreat
def mh (t z n u:Int)(l:List Int) : List Int:=(aP [t,z,n]++[u])++l
theorem mB(t z n u:Int)(l:List Int) : (mh t z n u l).length=7+l.length:=by simp[mh,aP];omega
theorem Fk(u:Int)(l:List Int) : (ai.mk ([u]++l) false 0).byteV=u∧(ai.mk ([u]++l) false 0).bytesC 1=⟨l,false,0⟩:=by
  have hf:(ai.mk ([u]++l) false 0).fails 1=false:=by
    unfold ai.fails
    simp only[List.length_append,List.length_cons,List.length_nil,Bool.or_eq_false_iff,decide_eq_false_iff_not]
    refine⟨⟨trivial,?_⟩,?_⟩<;>omega
  constructor
  · unfold ai.byteV ai.bytesR
    rw[hf]
    rfl
  · unfold ai.bytesC
    rw[hf]
    rfl
theorem vU(l:List Int) : (ai.mk l false 0).bytesR ((l.length:Nat) : Int)=l:=by
  have hf:(ai.mk l false 0).fails ((l.length:Nat) : Int)=false:=by
    unfold ai.fails
    simp only[Bool.or_eq_false_iff,decide_eq_false_iff_not]
    refine⟨⟨trivial,?_⟩,?_⟩<;>omega
  unfold ai.bytesR
  rw[hf]
  show l.take (l.length:Int).toNat=l
  rw[Int.toNat_natCast,List.take_length]
theorem sN{z:Int}  (ht:0≤t∧t<65536)(hz:0≤z∧z<65536)(hn:0≤n∧n<65536) :
    (wN (mh t z n u l)).wordV=t∧(w9 (mh t z n u l)).wordV=z∧(uL (mh t z n u l)).wordV=n∧(vf (mh t z n u l)).byteV=u∧lv (mh t z n u l)=l:=by
  have h1:=Eu (r:=aP [z]++(aP [n]++([u]++l))) ht
  have h2:=Eu (r:=aP [n]++([u]++l)) hz
  have h3:=Eu (r:=[u]++l) hn
  have h4:=Fk u l
  have e0:wN (mh t z n u l)=⟨aP [t]++(aP [z]++(aP [n]++([u]++l))),false,0⟩:=by simp[wN,mh,aP]
  have e1:w9 (mh t z n u l)=⟨aP [z]++(aP [n]++([u]++l)),false,0⟩:=by unfold w9;rw[e0];exact h1.2
  have e2:uL (mh t z n u l)=⟨aP [n]++([u]++l),false,0⟩:=by unfold uL;rw[e1];exact h2.2
  have e3:vf (mh t z n u l)=⟨[u]++l,false,0⟩:=by unfold vf;rw[e2];exact h3.2
  have e4:vl (mh t z n u l)=⟨l,false,0⟩:=by unfold vl;rw[e3];exact h4.2
  refine⟨by rw[e0];exact h1.1,by rw[e1];exact h2.1,by rw[e2];exact h3.1,by rw[e3];exact h4.1,?_⟩
  unfold lv
  rw[e4]
  exact vU l
theorem uH{z:Int}  (hd:dir=0∨dir=1)(ht:0≤t∧t<65536)(hz:0≤z∧z<65536)(hn:0≤n∧n<65536) :
    dq dir (mh t z n u l)=if decide ((7+l.length:Int)<8) then (cF.zero,2) else if decide (260<(7+l.length:Int)) then (cF.zero,3) else if z != 0 then (cF.zero,13) else if n != (l.length:Int)+1 then (cF.zero,5) else ch u t (cw dir l):=by
  obtain⟨h0,h1,h2,h3,h4⟩:=sN (u:=u) (l:=l) ht hz hn
  unfold dq
  rw[h0,h1,h2,h3,h4,mB]
  rw[if_neg (show ¬ (dir != 0&&dir != 1)=true by rcases hd with rfl | rfl<;>decide)]
  rw[show((7+l.length:Nat) : Int)=7+(l.length:Int) by omega,show(7+(l.length:Int))-6=(l.length:Int)+1 by omega]
theorem iI(h:ey dir u t M=some b) : ∃ l,db dir M=some l∧b=mh t 0 ((l.length:Int)+1) u l∧l.length≤253:=by
  unfold ey at h
  split at h
  · cases h
  · rename_i l hl
    have hle:=it hl
    injection h with h
    refine⟨l,hl,?_,hle⟩
    rw[← h,Int.emod_eq_of_lt (by omega) (by omega)]
    rfl
theorem yZ(hc:0≤M.code∧M.code<256)(h:ey dir u t M=some b) : 8≤b.length∧b.length≤260:=by
  obtain⟨l,h1,rfl,h2⟩:=iI h
  have:=iy hc h1
  rw[mB]
  omega
theorem Bc(hd:dir=0∨dir=1)(hc:0≤M.code∧M.code<256)(hf:0≤M.fail∧M.fail<256)(ht:0≤t∧t<65536)(h:ey dir u t M=some b) : dq dir b=(⟨u,t,M⟩,0):=by
  obtain⟨l,h1,rfl,h2⟩:=iI h
  have h3:=iy hc h1
  rw[uH hd ht (by decide) (by omega),qj hd hc hf h1]
  rw[if_neg (by simp only[decide_eq_true_eq];omega),if_neg (by simp only[decide_eq_true_eq];omega),if_neg (by decide),if_neg (by simp)]
  rfl
theorem DL{b d e f:Int}(ha:0≤a∧a<256)(hb:0≤b∧b<256)(hc:0≤c∧c<256)(hd:0≤d∧d<256)(he:0≤e∧e<256)(hf:0≤f∧f<256) : aP [a*256+b,c*256+d,e*256+f]=[a,b,c,d,e,f]:=by
  simp only[aP]
  congr 1
  · omega
  congr 1
  · omega
  congr 1
  · omega
  congr 1
  · omega
  congr 1
  · omega
  congr 1
  omega
theorem rF(hr:∀ x,x∈b→0≤x∧x<256)(hl:8≤b.length) : ∃ t z n u l,b=mh t z n u l∧(0≤t∧t<65536)∧(0≤z∧z<65536)∧(0≤n∧n<65536)∧∀ x,x∈l→0≤x∧x<256:=by
  match b,hr,hl with
  | a0 :: a1 :: a2 :: a3 :: a4 :: a5 :: u :: l,hr,_ =>
    have h0:=hr a0 (by simp)
    have h1:=hr a1 (by simp)
    have h2:=hr a2 (by simp)
    have h3:=hr a3 (by simp)
    have h4:=hr a4 (by simp)
    have h5:=hr a5 (by simp)
    refine⟨a0*256+a1,a2*256+a3,a4*256+a5,u,l,?_,by omega,by omega,by omega,fun x hx=>hr x (by simp[hx])⟩
    unfold mh
    rw[DL h0 h1 h2 h3 h4 h5]
    rfl
theorem vQ(hr:∀ x,x∈b→0≤x∧x<256)(h:dq dir b=(F,E)) : bi F.msg∧(E≠0→F=cF.zero):=by
  have hz:∀ k:Int,((cF.zero,k) : cF × Int)=(F,E)→bi F.msg∧(E≠0→F=cF.zero):=fun k h=>by
    injection h with h1 h2
    subst h1
    exact⟨ez,fun _=>rfl⟩
  unfold dq at h
  split at h
  · exact hz _ h
  split at h
  · exact hz _ h
  split at h
  · exact hz _ h
  split at h
  · exact hz _ h
  split at h
  · exact hz _ h
  rename_i _ h8 _ _ _
  simp only[decide_eq_true_eq] at h8
  obtain⟨t,z,n,u,l,rfl,ht,hz',hn,hl⟩:=rF hr (by omega)
  obtain⟨h0,h1,h2,h3,h4⟩:=sN (u:=u) (l:=l) ht hz' hn
  rw[h4] at h
  cases hp:cw dir l with
  | mk M E' =>
    rw[hp] at h
    obtain⟨k1,k2⟩:=nP hl hp
    have h:(if (E' != 0)=true then ((cF.zero,E') : cF × Int) else (⟨_,_,M⟩,0))=(F,E):=h
    split at h
    · exact hz _ h
    · injection h with h5 h6
      subst h5
      exact⟨k1,fun hE=>absurd h6.symm hE⟩
theorem wJ(hd:dir=0∨dir=1)(hr:∀ x,x∈b→0≤x∧x<256)(h:dq dir b=(F,E))(hE:(E==0)=true)(hW:ey dir F.unit F.tid F.msg=r) : r=some b∧8≤b.length∧b.length≤260:=by
  obtain rfl:E=0:=by simpa using hE
  by_cases h8:8≤b.length
  · obtain⟨t,z,n,u,l,rfl,ht,hz',hn,hl⟩:=rF hr h8
    rw[uH hd ht hz' hn] at h
    split at h
    · cases h
    split at h
    · cases h
    split at h
    · cases h
    split at h
    · cases h
    rename_i h1 h2 h3 h4
    simp only[decide_eq_true_eq] at h1 h2
    simp only[bne_iff_ne,ne_eq,Decidable.not_not] at h3 h4
    cases hp:cw dir l with
    | mk M E' =>
      rw[hp] at h
      have h:(if (E' != 0)=true then ((cF.zero,E') : cF × Int) else (⟨_,_,M⟩,0))=(F,0):=h
      split at h
      · rename_i h5
        injection h with _ h6
        subst h6
        cases h5
      · rename_i h5
        injection h with h6 _
        subst h6
        obtain rfl:E'=0:=by simpa using h5
        have h7:=kV hd hl hp
        rw[← hW]
        refine⟨?_,h8,by rw[mB];omega⟩
        show ey dir u t M=_
        unfold ey
        rw[h7]
        show some ((aP [t,0,((l.length:Int)+1)%65536]++[u])++l)=_
        rw[h3,h4,Int.emod_eq_of_lt (by omega) (by omega)]
        rfl
  · exfalso
    unfold dq at h
    split at h
    · cases h
    rw[if_pos (by simp only[decide_eq_true_eq];omega)] at h
    cases h
open Go.RowKit
theorem xn{k:Int}   (h:gC k dir u t M=some b) : (k=0∨k=1∨k=2)∧(k≠2→t=0)∧∃ l,db dir M=some l∧l.length≤253:=by
  revert h
  refine k4 k (fun e=>?_) (fun e=>?_) (fun e=>?_) (fun h0 h1 h2=>?_)
  · subst e;intro h;obtain⟨h1,l,h2,_,h3⟩:=jC h;exact⟨.inl rfl,fun _=>h1,l,h2,h3⟩
  · subst e;intro h;obtain⟨h1,l,h2,_,h3⟩:=jO h;exact⟨.inr (.inl rfl),fun _=>h1,l,h2,h3⟩
  · subst e;intro h;obtain⟨l,h2,_,h3⟩:=iI h;exact⟨.inr (.inr rfl),fun h=>absurd rfl h,l,h2,h3⟩
  · rw[yb h0 h1 h2];intro h;cases h
theorem uM{k:Int}   (hc:0≤M.code∧M.code<256)(h:gC k dir u t M=some b) : 4≤b.length∧(b.length:Int)≤l6 k∧b.length≤513:=by
  rcases(xn h).1 with rfl|rfl|rfl
  · have:=AN hc h;show 4≤b.length∧(b.length:Int)≤256∧_;omega
  · have:=AH hc h;show 4≤b.length∧(b.length:Int)≤513∧_;omega
  · have:=yZ hc h;show 4≤b.length∧(b.length:Int)≤260∧_;omega
theorem fU{k:Int}    (hr:∀ x,x∈b→0≤x∧x<256)(h:jh k dir b=(F,E)) : bi F.msg∧(E≠0→F=cF.zero):=by
  revert h
  refine k4 k (fun e=>?_) (fun e=>?_) (fun e=>?_) (fun h0 h1 h2=>?_)
  · subst e;exact y8 hr
  · subst e;exact zQ
  · subst e;exact vQ hr
  · rw[yj h0 h1 h2];intro h;injection h with e1 e2;subst e1 e2;exact⟨ez,fun _=>rfl⟩
def eU (a c dir:Int)(b:List Int) : Option (List Int) × Int :=
  bif l6 a==0 || l6 c==0 then (none,1) else bif (jh a dir b).2 != 0 then (none,(jh a dir b).2) else
    match gC c dir (jh a dir b).1.unit (bif c != 2 then 0 else (jh a dir b).1.tid) (jh a dir b).1.msg with
    | some l=>(some l,0)
    | none=>(none,1)
theorem rb{k:Int}(h:k=0∨k=1∨k=2) : (l6 k==0)=false:=by rcases h with rfl | rfl | rfl<;>rfl
open Go.RowKit
theorem fd.shape(h:fd base w v xs) : ∃ A cp,v = .slice A xs.length cp∧aX true w (.slice A xs.length cp) xs∧∀ x,x∈ob A→base≤x:=by
  obtain⟨h1,A,n,c,rfl,h2⟩:=h
  obtain⟨A',c',e,_,_⟩:=h1.shape
  injection e with e1 e2 e3
  subst e1 e2 e3
  exact⟨A,c,rfl,h1,h2⟩
def TR (res:Option (List Int))(base:Nat)(w:World)(v:Value) : Prop:=match res with
  | some l=>fd base w v l
  | none=>v = .slice none 0 0
def PT (res:Option (List Int) × Int)(w:World)(e:Ending)(w':World) : Prop:=∃ v,e = .returned (.tuple #[v,.int .i64 res.2])∧TR res.1 w.heap.size w' v∧aH [] w w'
theorem vG{A:Option Addr}{cp:Nat}    (hsl:aX m w (.slice A b.length cp) b)(hb:b.length≤1048576) : Calls Tryz.prog 30 #[vI a,vI c,vI dir,.slice A b.length cp] w (PT (eU a c dir b) w):=by
 refine en 40 Tryz.func30 rfl<|aD 2<|sq<|ak 1<|ay<|m1 (nK (k:=a)) fun a4 o=>Pl 2<|bl 15 (((l6 a)==0)) (fun d=>?_) (fun d=>?_)
 have H:=ag d
 exact ah 4<|c1<|aD 2<|aV<|rr (.tuple #[nS,vI 1])<|cC (y:=(none,1)) (by unfold eU;simp only[d,Bool.true_or,Bool.or_true,Bool.or_self,cond_true,cond_false]<;>rfl) ⟨_,rfl,rfl,o⟩
 have H:=am d
 refine Pl 1<|L1<|Oc<|m1 (nK (k:=c)) fun a5 z=>ah 2<|?_
 have p:=aJ o z
 refine cb (((l6 c)==0)) (fun g=>?_) (fun g=>?_)
 have I:=ag g
 exact aD 2<|aV<|rr (.tuple #[nS,vI 1])<|cC (y:=(none,1)) (by unfold eU;simp only[d,g,Bool.true_or,Bool.or_true,Bool.or_self,cond_true,cond_false]<;>rfl) ⟨_,rfl,rfl,p⟩
 have I:=am g
 refine bo<|ak 3<|?_
 refine pr (jh a dir b) fun e q f=>?_
 refine ay<|e2 (lG f (aX.old hsl p) (by omega)) fun x18 a6 J B=>?_
 obtain⟨C,a7,a8⟩:=J
 refine Pl 3<|aK kX fun a9 aa r K L=>aG K (dH e.unit e.tid e.msg x18) fun ab D M=>ah 1<|sq<|aD 2<|?_
 have s:=ud L M r
 have n:=aJ p (aJ B s)
 refine cb ((q != 0)) (fun h=>?_) (fun h=>?_)
 have N:=az h
 refine aD 3<|aV<|rr (.tuple #[nS,vI q])<|?_
 have hs:eU a c dir b=(none,q):=by
   unfold eU
   rw[f]
   simp only[d,g,h,Bool.true_or,Bool.or_true,Bool.or_self,cond_true,cond_false]
 rw[hs]
 exact⟨_,rfl,rfl,n⟩
 have N:=aA h
 refine bo<|sq<|aD 2<|cb ((c != 2)) (fun i=>?_) (fun i=>?_)
 have O:=az i
 refine go<|Pl 2<|L0<|cm D 1 (dH e.unit 0 e.msg x18) fun ac P E=>aM 2<|L0<|bO P<|?_
 have t:=aI.upd C (ud s E r) aN
 have u:=ud n E (le (le (le o.size z.size) B.size) r)
 refine wo (gC c dir e.unit 0 e.msg) (fun j=>?_) (fun F j=>?_)
 refine ay<|m1 (m0 t (fU (aX.range hsl) f).1 (by omega) (by omega) j) fun ad Q=>ah 4<|rt<|rr (.tuple #[nS,vI 1])<|?_
 have hs:eU a c dir b=(none,1):=by
   unfold eU
   rw[f]
   simp only[d,g,h,i,Bool.true_or,Bool.or_true,Bool.or_self,cond_true,cond_false]
   rw[j]
 rw[hs]
 exact⟨_,rfl,rfl,(aJ u Q)⟩
 have ae:=uM (t.rngs).1 j
 refine ay<|e2 (lH t (fU (aX.range hsl) f).1 (by omega) (by omega) j) fun af ai R S=>?_
 obtain⟨T,U,rfl,V,W⟩:=fd.shape R
 refine ah 4<|rt<|rr (.tuple #[.slice T F.length U,vI 0])<|?_
 have hs:eU a c dir b=(some F,0):=by
   unfold eU
   rw[f]
   simp only[d,g,h,i,Bool.true_or,Bool.or_true,Bool.or_self,cond_true,cond_false]
   rw[j]
 rw[hs]
 exact⟨_,rfl,(show fd _ _ _ _ from⟨V,_,_,_,rfl,fun x hx=>Nat.le_trans u.size (W x hx)⟩),(aJ u S)⟩
 have O:=aA i
 refine bo<|ak 2<|L0<|bO D<|?_
 have v:=aI.upd C s aN
 refine wo (gC c dir e.unit e.tid e.msg) (fun l=>?_) (fun G l=>?_)
 refine ay<|m1 (m0 v (fU (aX.range hsl) f).1 (by omega) (by omega) l) fun aj X=>ah 4<|rt<|rr (.tuple #[nS,vI 1])<|?_
 have hs:eU a c dir b=(none,1):=by
   unfold eU
   rw[f]
   simp only[d,g,h,i,Bool.true_or,Bool.or_true,Bool.or_self,cond_true,cond_false]
   rw[l]
 rw[hs]
 exact⟨_,rfl,rfl,(aJ n X)⟩
 have al:=uM (v.rngs).1 l
 refine ay<|e2 (lH v (fU (aX.range hsl) f).1 (by omega) (by omega) l) fun an ao Y Z=>?_
 obtain⟨a0,a1,rfl,a2,a3⟩:=fd.shape Y
 refine ah 4<|rt<|rr (.tuple #[.slice a0 G.length a1,vI 0])<|?_
 have hs:eU a c dir b=(some G,0):=by
   unfold eU
   rw[f]
   simp only[d,g,h,i,Bool.true_or,Bool.or_true,Bool.or_self,cond_true,cond_false]
   rw[l]
 rw[hs]
 exact⟨_,rfl,(show fd _ _ _ _ from⟨a2,_,_,_,rfl,fun x hx=>Nat.le_trans n.size (a3 x hx)⟩),(aJ n Z)⟩
theorem qQ(h:aX m w v b)(hb:b.length≤1048576) : Calls Tryz.prog 30 #[.int .i64 a,.int .i64 c,.int .i64 dir,v] w (PT (eU a c dir b) w):=by
  obtain⟨A,cp,rfl,_,_⟩:=h.shape
  exact vG h hb
theorem nX(h:aX m w v b)(hb:b.length≤1048576)(hX:eU a c dir b=(some l,E)) : Calls Tryz.prog 30 #[.int .i64 a,.int .i64 c,.int .i64 dir,v] w (fun e w'=>∃ v,e = .returned (.tuple #[v,.int .i64 E])∧fd w.heap.size w' v l∧aH [] w w'):=by
  have k:=qQ (a:=a) (c:=c) (dir:=dir) h hb
  rw[hX] at k
  exact k
theorem tS(h:aX m w v b)(hb:b.length≤1048576)(hX:eU a c dir b=(none,E)) : Calls Tryz.prog 30 #[.int .i64 a,.int .i64 c,.int .i64 dir,v] w (fun e w'=>e = .returned (.tuple #[.slice none 0 0,.int .i64 E])∧aH [] w w'):=by
  refine(qQ (a:=a) (c:=c) (dir:=dir) h hb).mono ?_
  rw[hX]
  rintro e w' ⟨v,rfl,rfl,hu⟩
  exact⟨rfl,hu⟩
open Go.RowKit
theorem Dy:eU 0 2 0 [1,7,65,226]=(some [0,0,0,0,0,2,1,7],0):=by decide +kernel
theorem DS:jh 2 0 [0,0,0,0,0,2,1,7]=(⟨1,0,vT⟩,0):=by decide +kernel
theorem BL:Calls Tryz.prog 25 #[] w (cc (.bool true) w):=by
 refine en 42 Tryz.func25 rfl<|sg<|Pl 1<|ng<|L0<|d9 (m:=4) (e:=5) #[.int .u8 1,.int .u8 7,.int .u8 65,.int .u8 226] fun B C h i j=>?_
 have l:=cL h (xs:=[1,7,65,226]) (by as_aux_lemma=>kernel_rfl) (ap (by omega) (ap (by omega) (ap (by omega) (ap (by omega) aR)))) (by(try simp only[List.length_cons,List.length_nil]);omega) i
 refine L0<|Oc<|e2 (nX (l).rd (by decide) Dy) fun D E o p=>?_
 obtain⟨q,r,rfl,d,F⟩:=fd.shape o
 refine Pl 5<|ng<|Pl 1<|L0<|Oc<|e2 (lG DS d (by decide)) fun x25 G s t=>?_
 obtain⟨H,I,J⟩:=s
 refine Pl 3<|L0<|Do kX fun K L u v x=>L0<|gk v #[.int .u8 1,.int .u16 0,.int .u8 7,.int .u8 0,.int .u16 0,.int .u16 0,.int .u16 0,.int .u16 0,.int .u16 0,.int .u16 0,.int .u16 0,.int .u16 0,.int .u16 0,.int .u16 0,.slice x25.aw vT.words.length x25.kw,.slice x25.ab vT.bits.length x25.kb,.slice x25.ad vT.data.length x25.kd,.slice x25.ar vT.recs.length x25.kr,.int .u8 0,.int .u8 0,.int .u8 0,.int .u8 0,.int .u8 0,.slice x25.ao vT.objects.length x25.ko] fun M f y=>Pl 1<|ng<|Pl 8<|?_
 have g:=aJ t (ud x y u)
 refine L1<|gt (.string (strOfNums ([0,0,0,0,0,2,1,7]))) (cS (A:=q) (n:=([0,0,0,0,0,2,1,7]).length) (c:=r) rfl (by kernel_rfl) Tryz.underlying27 Tryz.underlying5 Tryz.underlying9 (aX.upd' d g aN))<|L1<|gt (.bool true) (fY (a:=(strOfNums ([0,0,0,0,0,2,1,7]))) (b:=⟨#[0,0,0,0,0,2,1,7]⟩) rfl (by kernel_rfl) (by kernel_rfl) (AK rfl (by decide)))<|Pl 4<|L1<|dX f 0<|Pl 5<|L1<|dX f 2<|Pl 3<|L1<|Oc<|m1 (nK (k:=1)) fun N z=>Pl 3<|nt<|rt<|rr (.bool true)<|?_
 exact⟨rfl,(aJ j (aJ p (aJ g z)))⟩
open Go.RowKit
theorem to{A:Option Addr}{c:Nat}   (h1:aX m w (.slice A xs.length c) xs)(h2:aX m' w (.slice B ys.length d) ys) :
    Calls Tryz.prog 29 #[.slice A xs.length c,.slice B ys.length d] w (cc (.bool (decide (xs=ys))) w):=by
 exact en 10 Tryz.func29 rfl<|ak 1<|aM 1<|L0<|gt (.string (strOfNums xs)) (cS (A:=A) (n:=xs.length) (c:=c) rfl (by kernel_rfl) Tryz.underlying27 Tryz.underlying5 Tryz.underlying9 h1)<|Pl 1<|L0<|gt (.string (strOfNums ys)) (cS (A:=B) (n:=ys.length) (c:=d) rfl (by kernel_rfl) Tryz.underlying27 Tryz.underlying5 Tryz.underlying9 h2)<|L0<|gt (.bool (decide (xs=ys))) (fY (a:=(strOfNums xs)) (b:=(strOfNums ys)) rfl (by kernel_rfl) (by kernel_rfl) (jX h1 h2))<|Pl 1<|nl<|tn<|rt<|rr (.bool (decide (xs=ys)))<|⟨rfl,(aH.refl [] _)⟩
theorem jL{a b:Value}   (h1:aX m w a xs)(h2:aX m' w b ys) : Calls Tryz.prog 29 #[a,b] w (cc (.bool (decide (xs=ys))) w):=by
  obtain⟨A,c,rfl,_,_⟩:=h1.shape
  obtain⟨B,d,rfl,_,_⟩:=h2.shape
  exact to h1 h2
open Go.RowKit
theorem iW{α:Type}{xs ys:List α}  (h:xs.take k=ys.take k)(h1:k=xs.length)(h2:xs.length=ys.length) : xs=ys:=by
  rw[List.take_of_length_le (by omega),List.take_of_length_le (by omega)] at h
  exact h
theorem oc{A:Option Addr}{c:Nat}   (h1:eG m w (.slice A xs.length c) xs)(h2:eG m' w (.slice B ys.length d) ys) :
    Calls Tryz.prog 68 #[.slice A xs.length c,.slice B ys.length d] w (cc (.bool (decide (xs=ys))) w):=by
 have hz1:=aS.len h1
 have hz2:=aS.len h2
 refine en 26 Tryz.func68 rfl<|aD 1<|sq<|aD 5<|cb ((((xs.length:Nat) : Int)!=((ys.length:Nat) : Int))) (fun g=>?_) (fun g=>?_)
 have j:=az g
 refine aD 1<|aV<|rr (.bool false)<|?_
 have hs:decide (xs=ys)=false:=decide_eq_false (fun e=>by rw[e] at j;omega)
 rw[hs]
 exact⟨rfl,(aH.refl [] _)⟩
 have j:=aA g
 refine bo<|sq<|aD 1<|bk<|?_
 refine je (fun x=>[(0,.slice A xs.length c),(1,.slice B ys.length d),(5,vI ((x:Nat) : Int))]) (fun(x:Nat) w'=>aH [] w w'∧(xs.take x=ys.take x)∧(x≤xs.length)) (fun x=>xs.length-x) 0 ⟨aH.refl _ _,(by(try dsimp only);simp),(by(try dsimp only);omega)⟩ ?_
 rintro k E ⟨b,p,q⟩
 refine ji [(0,.slice A xs.length c),(1,.slice B ys.length d),(5,vI ((k:Nat) : Int))] ?_
 have l:xs.take k=ys.take k:=p
 have F:k≤xs.length:=q
 refine sq<|aD 4<|cb ((decide (((k:Nat) : Int)<((xs.length:Nat) : Int)))) (fun h=>?_) (fun h=>?_)
 have r:=of_decide_eq_true h
 refine bo<|sq<|bk<|sq<|?_
 refine ft (eG.at_ (eG.old h1 b) k (by omega)) fun s t u v G=>?_
 refine ft (eG.at_ (eG.old h2 b) k (by omega)) fun y z C D H=>Rg 9 (fun w'=>w'.cell? ⟨s,t+k,none⟩=some (vW (xs.getD k 0))∧w'.cell? ⟨y,z+k,none⟩=some (vW (ys.getD k 0))) fun I i=>bp ⟨(uc i v),(uc i D)⟩ fun a=>Rt 0 a<|Rt 1 a<|lL 2 a xs.length k ((k:Nat) : Int) rfl u (by omega)<|Rl 3 a (fun _ hs=>hs.1)<|Rt 4 a<|Rt 5 a<|lL 6 a ys.length k ((k:Nat) : Int) rfl C (by omega)<|Rl 7 a (fun _ hs=>hs.2)<|Rt 8 a<|re<|tn<|?_
 have n:=aJ b i
 refine cb (((xs.getD k 0)!=(ys.getD k 0))) (fun f=>?_) (fun f=>?_)
 have o:=az f
 refine aD 1<|rt<|br<|tr<|tr<|br<|tr<|rr (.bool false)<|?_
 have hs:decide (xs=ys)=false:=decide_eq_false (wq (d:=0) k (by simpa using f))
 rw[hs]
 exact⟨rfl,n⟩
 have o:=aA f
 exact sk<|bn<|tn<|go<|Pl 1<|bq (((k:Nat) : Int)+1)<|Pl 1<|nl<|gL (k+1) ⟨n,(oL (d:=0) (by omega) (by omega) l o),(by(try dsimp only);omega)⟩ (by omega)
 have r:=of_decide_eq_false h
 refine xt<|tx<|tx<|bx<|tn<|aD 1<|rt<|rr (.bool true)<|?_
 have hs:decide (xs=ys)=true:=decide_eq_true (iW l (by omega) (by omega))
 rw[hs]
 exact⟨rfl,b⟩
theorem ky{a b:Value}   (h1:eG m w a xs)(h2:eG m' w b ys) : Calls Tryz.prog 68 #[a,b] w (cc (.bool (decide (xs=ys))) w):=by
  obtain⟨A,c,rfl,_,_⟩:=h1.shape
  obtain⟨B,d,rfl,_,_⟩:=h2.shape
  exact oc h1 h2
theorem ot{A:Option Addr}{c:Nat}{xs ys:List Bool}  (h1:jb m w (.slice A xs.length c) xs)(h2:jb m' w (.slice B ys.length d) ys) :
    Calls Tryz.prog 69 #[.slice A xs.length c,.slice B ys.length d] w (cc (.bool (decide (xs=ys))) w):=by
 have hz1:=aS.len h1
 have hz2:=aS.len h2
 refine en 26 Tryz.func69 rfl<|aD 1<|sq<|aD 5<|cb ((((xs.length:Nat) : Int)!=((ys.length:Nat) : Int))) (fun f=>?_) (fun f=>?_)
 have j:=az f
 refine aD 1<|aV<|rr (.bool false)<|?_
 have hs:decide (xs=ys)=false:=decide_eq_false (fun e=>by rw[e] at j;omega)
 rw[hs]
 exact⟨rfl,(aH.refl [] _)⟩
 have j:=aA f
 refine bo<|sq<|aD 1<|bk<|?_
 refine je (fun x=>[(0,.slice A xs.length c),(1,.slice B ys.length d),(5,vI ((x:Nat) : Int))]) (fun(x:Nat) w'=>aH [] w w'∧(xs.take x=ys.take x)∧(x≤xs.length)) (fun x=>xs.length-x) 0 ⟨aH.refl _ _,(by(try dsimp only);simp),(by(try dsimp only);omega)⟩ ?_
 rintro k D ⟨b,o,p⟩
 refine ji [(0,.slice A xs.length c),(1,.slice B ys.length d),(5,vI ((k:Nat) : Int))] ?_
 have l:xs.take k=ys.take k:=o
 have E:k≤xs.length:=p
 refine sq<|aD 4<|cb ((decide (((k:Nat) : Int)<((xs.length:Nat) : Int)))) (fun g=>?_) (fun g=>?_)
 have q:=of_decide_eq_true g
 refine bo<|sq<|bk<|sq<|?_
 refine EN (jb.at_ (jb.old h1 b) k (by omega)) fun r s t u=>?_
 refine EN (jb.at_ (jb.old h2 b) k (by omega)) fun v y z C=>Rg 9 (fun w'=>w'.cell? ⟨r,s+k,none⟩=some (.bool (xs.getD k false))∧w'.cell? ⟨v,y+k,none⟩=some (.bool (ys.getD k false))) fun F h=>bp ⟨(uc h u),(uc h C)⟩ fun a=>Rt 0 a<|Rt 1 a<|lL 2 a xs.length k ((k:Nat) : Int) rfl t (by omega)<|Rl 3 a (fun _ hs=>hs.1)<|Rt 4 a<|Rt 5 a<|lL 6 a ys.length k ((k:Nat) : Int) rfl z (by omega)<|Rl 7 a (fun _ hs=>hs.2)<|Rt 8 a<|re<|tn<|?_
 have n:=aJ b h
 refine cb (((xs.getD k false)!=(ys.getD k false))) (fun i=>?_) (fun i=>?_)
 refine aD 1<|rt<|br<|tr<|tr<|br<|tr<|rr (.bool false)<|?_
 have hs:decide (xs=ys)=false:=decide_eq_false (wq (d:=false) k (by simpa using i))
 rw[hs]
 exact⟨rfl,n⟩
 exact sk<|bn<|tn<|go<|Pl 1<|bq (((k:Nat) : Int)+1)<|Pl 1<|nl<|gL (k+1) ⟨n,(oL (d:=false) (by omega) (by omega) l (by simpa using i)),(by(try dsimp only);omega)⟩ (by omega)
 have q:=of_decide_eq_false g
 refine xt<|tx<|tx<|bx<|tn<|aD 1<|rt<|rr (.bool true)<|?_
 have hs:decide (xs=ys)=true:=decide_eq_true (iW l (by omega) (by omega))
 rw[hs]
 exact⟨rfl,b⟩
theorem qy{a b:Value}{xs ys:List Bool}  (h1:jb m w a xs)(h2:jb m' w b ys) : Calls Tryz.prog 69 #[a,b] w (cc (.bool (decide (xs=ys))) w):=by
  obtain⟨A,c,rfl,_,_⟩:=h1.shape
  obtain⟨B,d,rfl,_,_⟩:=h2.shape
  exact ot h1 h2
end Go.Proofs.YtdkhbcefkfgbdaaGreat
