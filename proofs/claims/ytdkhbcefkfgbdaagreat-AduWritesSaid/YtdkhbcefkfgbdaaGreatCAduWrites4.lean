/- Contracts of functions, part CAduWrites4. -/
import Derived.Test.YtdkhbcefkfgbdaaGreatCAduWrites1
import Derived.Test.YtdkhbcefkfgbdaaGreatCAduWrites2
import Derived.Test.YtdkhbcefkfgbdaaGreatCAduWrites3
import Derived.Laws.BitsAllLaws
import Derived.Laws.StructEq
import Derived.Lib.ConvBytes
import Derived.Lib.OthersKept
import Derived.Shelf.Strings.Builder1
set_option linter.unusedVariables false
set_option linter.unusedSimpArgs false
set_option maxRecDepth 100000
set_option maxHeartbeats 4000000
namespace Go.Proofs.YtdkhbcefkfgbdaaGreat
open Go.RowKit
structure SL where
  aw:Option Addr
  kw:Nat
  ab:Option Addr
  kb:Nat
  ad:Option Addr
  kd:Nat
  ar:Option Addr
  kr:Nat
  ao:Option Addr
  ko:Nat
def fb (M:aU)(x:SL) : Array Value:=mG M.code M.fail M.addr M.count M.value M.and_ M.or_ M.addr2 M.sub M.status M.events M.messages (.slice x.aw M.words.length x.kw) (.slice x.ab M.bits.length x.kb) (.slice x.ad M.data.length x.kd) (.slice x.ar M.recs.length x.kr) M.mei M.kind M.level M.more M.next (.slice x.ao M.objects.length x.ko)
theorem n8{m:Md}{w:World}{cs:Array Value}{M:aU}(h:aJ m w cs.toList M) : ∃ x,cs=fb M x:=by
  obtain⟨vw,vb,vd,vr,vo,h0,hw,hb,hd,hr,ho,hR⟩:=h
  obtain⟨aw,kw,rfl,_,_⟩:=hw.shape
  obtain⟨ab,kb,rfl,_,_⟩:=hb.shape
  obtain⟨ad,kd,rfl,_,_⟩:=hd.shape
  obtain⟨ar,kr,rfl,_,_⟩:=hr.shape
  obtain⟨ao,ko,rfl,_,_⟩:=ho.shape
  refine⟨⟨aw,kw,ab,kb,ad,kd,ar,kr,ao,ko⟩,?_⟩
  apply Array.toList_inj.1
  rw[h0]
  rfl
theorem aJ.rngs{m:Md}{w:World}{cs:Array Value}{M:aU}(h:aJ m w cs.toList M) : (0≤M.code∧M.code<256)∧(0≤M.fail∧M.fail<256):=by
  obtain⟨vw,vb,vd,vr,vo,h0,hw,hb,hd,hr,ho,hR⟩:=h
  exact⟨hR.code,hR.fail⟩
open Go.RowKit
def kJ:aU:={ aU.zero with code:=7 }
open Go.RowKit
section
variable {P:Program}{n:Nat}{D:List Deferred}{F:Fr}{w:World}{K:Fr→World→Prop}{Q:Exit→Act→World→Prop}{d:Option Tmp}{t:TypeId}{s:String}{af:Array Edge}{gu:Option (Nat × Bool)}
theorem xP{a:Act}{K:Act→World→Prop}{o:Oper}{N:Option Tmp}{f:FuncId}{fn:Func}{x:Operand}{nm:String}{opds:Array Operand}{ts:Array TypeId}{T:TypeId}{v rv:Value}(args:Array Value)(hN:o.dst=N)(hop:o.op = .call { callee:=.invoke x nm,args:=opds,argTypes:=ts })
    (hx : a.eval x = .iface T v) (hm : (method (P.types.size + Made.depth) T v nm).run P w = .ok (f, rv) w) (hf : P.funcs[f]? = some fn) (hname : (fn.name == "runtime.NumGoroutine") = false) (hb : fn.body.isSome = true) (hargs : #[rv] ++ opds.map a.eval = args)
    (h:Calls P f args w fun e w'=>∃ v,e = .returned v∧K (a.put N v) w') : OW P o a w K Q:=by
  refine OW.mk ?_
  subst hN
  subst hargs
  have h1 : fn.name ≠ "runtime.NumGoroutine" := by simpa using hname
  obtain⟨cd,hcd⟩:=Option.isSome_iff_exists.1 hb
  have hcm:(callMethod (.iface T v) nm (opds.map a.eval)).run P w = .ok (.enter f (#[rv]++opds.map a.eval)) w:=by
    unfold callMethod
    simp only[program,Sem.run_bind]
    have hp:(pure P:Sem Program).run P w = .ok P w:=rfl
    simp[Sem.run,hm,callFunc,hf,h1,hcd,Result.andThen]
  have hinv:invoke (.fn (.method nm) #[]) (#[.iface T v]++opds.map a.eval)=callMethod (.iface T v) nm (opds.map a.eval):=by
    have e0:(#[Value.iface T v]++opds.map a.eval)[0]? = some (.iface T v):=by
      rw[Array.getElem?_append_left (by simp)]
      rfl
    have e1:(#[Value.iface T v]++opds.map a.eval).extract 1 (#[Value.iface T v]++opds.map a.eval).size=opds.map a.eval:=by
      apply Array.toList_inj.1
      simp only[Array.toList_extract,List.extract_eq_take_drop,Array.toList_append,Array.toList_map,Array.size_append,Array.size_map]
      simp[List.take_of_length_le]
    unfold invoke
    simp only[e0,e1]
  have hrun:(execOp a.eval o).run P w = .ok (.enter f (#[rv]++opds.map a.eval)) w:=by
    unfold execOp
    simp only[hop,resolve,hx,Sem.run_bind,Sem.run_pure,Result.andThen_ok,hinv,hcm]
  unfold Oper.wp
  rw[hrun,Oper.upon_enter]
  refine h.mono fun e w'' hh=>?_
  obtain⟨v,rfl,h2⟩:=hh
  exact h2
theorem yZ{f:FuncId}{x:Operand}{nm:String}{opds:Array Operand}{ts:Array TypeId}{args:Array Value}(T:TypeId)(v rv:Value)(h:Calls P f args w fun e w'=>∃ v,e = .returned v∧K (pt d v F) w')
    (hm:(method (P.types.size+Made.depth) T v nm).run P w = .ok (f,rv) w:=by kernel_rfl) (hx:fk F x=some (.iface T v):=by kernel_rfl) (ha:some rv :: opds.toList.map (fk F)=args.toList.map some:=by kernel_rfl) (hf:BZ P f=some (false,true):=by kernel_rfl) (hs:gH n d=true:=by kernel_rfl) : OG P ⟨d,.call { callee:=.invoke x nm,args:=opds,argTypes:=ts },t,s,af,gu⟩ n D F w K Q:=by
  obtain⟨fn,h1,h2,h3⟩:=ku hf
  refine⟨fun a hag K' hK=>xP args rfl rfl (hag.ev hx) hm h1 h2 h3 ?_ (h.mono fun e w' hh=>by
    obtain⟨v,rfl,hk⟩:=hh
    exact⟨v,rfl,hK _ _ _ hk (hag.put hs)⟩)⟩
  apply Array.toList_inj.1
  obtain⟨vs,has⟩ : ∃ vs:List Value,args.toList=rv :: vs∧opds.toList.map (fk F)=vs.map some:=by
    cases hl:args.toList with
    | nil=>rw[hl] at ha;cases ha
    | cons y ys =>
      rw[hl] at ha
      injection ha with e1 e2
      exact⟨ys,by rw[Option.some.inj e1],e2⟩
  rw[has.1,Array.toList_append,Array.toList_map,ma hag has.2]
  rfl
end
open Go.RowKit
structure dt where
  unit:Int
  tid:Int
  msg:aU
def dt.zero:dt:=⟨0,0,aU.zero⟩
def CX (m:Md)(w:World)(cs:Array Value)(F:dt) : Prop:=∃ c:Array Value,cs = #[.int .u8 F.unit,.int .u16 F.tid]++c∧aJ m w c.toList F.msg∧B8 F.unit∧eN F.tid
def qe (res:dt × Int)(w:World)(e:Ending)(w':World) : Prop:=∃ cs,e = .returned (.tuple #[.agg cs,.int .i64 res.2])∧CX true w' cs res.1∧aH [] w w'
theorem eM{x y:dt × Int}(h:x=y){w:World}{e:Ending}{w':World}(k:qe y w e w') : qe x w e w':=by rw[h];exact k
def rU:Array Value:=#[.int .u8 0,.int .u16 0,.int .u8 0,.int .u8 0,.int .u16 0,.int .u16 0,.int .u16 0,.int .u16 0,.int .u16 0,.int .u16 0,.int .u16 0,.int .u16 0,.int .u16 0,.int .u16 0,.slice none 0 0,.slice none 0 0,.slice none 0 0,.slice none 0 0,.int .u8 0,.int .u8 0,.int .u8 0,.int .u8 0,.int .u8 0,.slice none 0 0]
theorem dm{x:Int}{w W:World}(hu:aH [] w W) : qe (dt.zero,x) w (.returned (.tuple #[.agg rU,.int .i64 x])) W:=⟨_,rfl,⟨nV,(by kernel_rfl),aJ.zero ..,(show(0:Int)≤0∧(0:Int)<256 from by decide),(show(0:Int)≤0∧(0:Int)<65536 from by decide)⟩,hu⟩
def cw (u t:Int) : aU × Int→dt × Int
  | (M,E)=>if E != 0 then (dt.zero,E) else (⟨u,t,M⟩,0)
theorem i8{dir:Int}{M:aU}{l:List Int}(h:d7 dir M=some l) : l.length≤253:=by
  unfold d7 at h
  split at h
  · split at h
    · cases h
    · unfold nz at h
      split at h
      · cases h
      · split at h
        · cases h
        · injection h with h
          subst h
          simp only[List.length_cons,List.length_nil]
          omega
  · split at h
    · cases h
    · split at h
      · cases h
      · rename_i hl
        injection h with h
        subst h
        simp only[decide_eq_true_eq] at hl
        simp only[List.length_append,List.length_cons,List.length_nil]
        omega
open Go.RowKit
deriving instance DecidableEq for dt
def ed (u t:Int)(M:aU)(x:SL) : Array Value:=#[.int .u8 u,.int .u16 t,.int .u8 M.code,.int .u8 M.fail,.int .u16 M.addr,.int .u16 M.count,.int .u16 M.value,.int .u16 M.and_,.int .u16 M.or_,.int .u16 M.addr2,.int .u16 M.sub,.int .u16 M.status,.int .u16 M.events,.int .u16 M.messages,.slice x.aw M.words.length x.kw,.slice x.ab M.bits.length x.kb,.slice x.ad M.data.length x.kd,.slice x.ar M.recs.length x.kr,.int .u8 M.mei,.int .u8 M.kind,.int .u8 M.level,.int .u8 M.more,.int .u8 M.next,.slice x.ao M.objects.length x.ko]
theorem hZ(u t:Int)(M:aU)(x:SL) : ed u t M x = #[.int .u8 u,.int .u16 t]++fb M x:=by kernel_rfl
end Go.Proofs.YtdkhbcefkfgbdaaGreat
namespace Go.Proofs.YtdkhbcefkfgbdaaGreat
def ky (x:Nat) : Nat:=(x/2) ^^^ (x%2*40961)
def fT:Nat→Nat→Nat
  | 0,x=>x
  | k+1,x=>ky (fT k x)
def AF (i:Nat) : Nat:=fT 8 i
theorem zZ{x:Nat}(h:x<65536) : ky x<65536:=by
  unfold ky
  exact Nat.xor_lt_two_pow (n:=16) (by omega) (by omega)
theorem jy{x:Nat}(h:x<65536) : ∀ k,fT k x<65536
  | 0=>h
  | k+1=>zZ (jy h k)
theorem u4{i:Nat}(h:i<256) : AF i<65536:=jy (by omega) 8
def tJ (s c:Nat) : Nat:=(s/256) ^^^ AF ((s%256) ^^^ c)
theorem tZ{a b:Nat}(ha:a<256)(hb:b<256) : a ^^^ b<256:=Nat.xor_lt_two_pow (n:=8) ha hb
theorem mh{a b:Nat}(ha:a<65536)(hb:b<65536) : a ^^^ b<65536:=Nat.xor_lt_two_pow (n:=16) ha hb
theorem yG{s c:Nat}(hs:s<65536)(hc:c<256) : tJ s c<65536:=mh (by omega) (u4 (tZ (by omega) hc))
def xi (a b:Int) : Int:=((a.toNat ^^^ b.toNat:Nat) : Int)
theorem Eo{a b:Int}(ha:0≤a∧a<256)(hb:0≤b∧b<256) : 0≤xi a b∧xi a b<256:=by
  have:=tZ (a:=a.toNat) (b:=b.toNat) (by omega) (by omega)
  unfold xi
  omega
theorem CT{a b:Int}(ha:0≤a∧a<65536)(hb:0≤b∧b<65536) : 0≤xi a b∧xi a b<65536:=by
  have:=mh (a:=a.toNat) (b:=b.toNat) (by omega) (by omega)
  unfold xi
  omega
theorem zp(n:Nat) : xi (((n:Nat) : Int)/2) ((((n:Nat) : Int)%2)*40961%65536)=((ky n:Nat) : Int):=by
  unfold xi ky
  rw[show(((n:Nat) : Int)/2).toNat=n/2 from by omega,show((((n:Nat) : Int)%2)*40961%65536).toNat=n%2*40961 from by omega]
def lO (i:Int) : Int:=((AF i.toNat:Nat) : Int)
theorem qf{i:Int}(h:0≤i∧i<256) : 0≤lO i∧lO i<65536:=by
  have:=u4 (i:=i.toNat) (by omega)
  unfold lO
  omega
def th (s c:Int) : Int:=xi (s/256) (lO (xi (s%256) c))
theorem s0{s c:Int}(hs:0≤s∧s<65536)(hc:0≤c∧c<256) : th s c=((tJ s.toNat c.toNat:Nat) : Int):=by
  unfold th lO xi tJ
  rw[show(s/256).toNat=s.toNat/256 from by omega,show(s%256).toNat=s.toNat%256 from by omega]
  simp only[Int.toNat_natCast]
theorem qZ{s c:Int}(hs:0≤s∧s<65536)(hc:0≤c∧c<256) : 0≤th s c∧th s c<65536:=by
  have:=yG (s:=s.toNat) (c:=c.toNat) (by omega) (by omega)
  rw[s0 hs hc]
  omega
def ch (s:Int)(b:List Int) : Int:=b.foldl th s
theorem ip:∀ (b:List Int){s:Int},(0≤s∧s<65536)→(∀ x,x∈b→0≤x∧x<256)→0≤ch s b∧ch s b<65536
  | [],s,hs,_=>hs
  | c :: b,s,hs,hb=>ip b (qZ hs (hb c (List.mem_cons_self ..))) fun x hx=>hb x (List.mem_cons_of_mem _ hx)
theorem xD(s:Int)(a b:List Int) : ch s (a++b)=ch (ch s a) b:=by unfold ch;rw[List.foldl_append]
def cj (s:Int) : List Int:=[s%256,s/256%256]
theorem jL(s:Int) : (cj s).length=2:=rfl
def dF (b:List Int) : Bool:=decide (2≤b.length)&&decide (cj (ch 65535 (b.take (b.length-2)))=b.drop (b.length-2))
open Go.RowKit
def Dg (P:Program)(ty:TypeId) : Option (Nat × TypeId):=match P.underlying ty with | some (.array m e)=>some (m,e) | _=>none
theorem wM{P:Program}{ty e:TypeId}{m:Nat}(h:Dg P ty=some (m,e)) : P.underlying ty=some (.array m e):=by
  unfold Dg at h
  split at h
  · injection h with h
    injection h with h1 h2
    subst h1 h2
    assumption
  · cases h
theorem wj{P:Program}{w:World}{ev:Operand→Value}{o:Oper}{t e:TypeId}{x ix:Operand}{b off j m:Nat}{k:IntKind}{i:Int}(ho:o.op = .indexAddr t x ix)(ht:P.underlying t=some (.array m e))(hi:(P.info? e).map (·.size)=some 1)
    (hx:ev x = .pointer (some ⟨b,off,none⟩)) (hix:ev ix = .int k i) (hj:i=j) (hlt:j<m) : (execOp ev o).run P w = .ok (.value (.pointer (some ⟨b,off+j,none⟩))) w:=by
  subst hj
  obtain⟨i0,hi0,hs⟩:=Option.map_eq_some_iff.1 hi
  unfold execOp
  have h2:(0:Int)≤(j:Int)∧(j:Int)<(m:Int):=by omega
  simp[ho,hx,hix,Instr.indexAt,Instr.sureAddr,asIntOf,run_underlying ht,Result.andThen,h2,sizeOf,typeInfo,hi0,hs,jQ,hlt]
section
variable {P:Program}{n:Nat}{D:List Deferred}{F:Fr}{w:World}{K:Fr→World→Prop}{Q:Exit→Act→World→Prop}{d:Option Tmp}{t:TypeId}{s:String}{af:Array Edge}{gu:Option (Nat × Bool)}
theorem Dm{ty:TypeId}{x ix:Operand}{b off:Nat}(m j:Nat)(i:Int)(hj:i=j)(hlt:j<m)(h:K (pt d (.pointer (some ⟨b,off+j,none⟩)) F) w)
    (hx:fk F x=some (.pointer (some ⟨b,off,none⟩)):=by kernel_rfl) (hi:AP F ix=some i:=by kernel_rfl) (hs:((Dg P ty).bind fun p=>(P.info? p.2).map fun q=>(p.1,q.size),gH n d)=(some (m,1),true):=by kernel_rfl) : OG P ⟨d,.indexAddr ty x ix,t,s,af,gu⟩ n D F w K Q:=by
  simp only[Prod.mk.injEq] at hs
  obtain⟨hs,hd⟩:=hs
  obtain⟨k,hi⟩:=mK hi
  cases he:Dg P ty with
  | none=>rw[he] at hs;simp at hs
  | some p =>
    obtain⟨m',e⟩:=p
    rw[he] at hs
    obtain⟨q,hq,h3⟩:=Option.map_eq_some_iff.1 (show(P.info? e).map (fun q=>(m',q.size))=some (m,1) from hs)
    injection h3 with h4 h5
    subst h4
    exact⟨fun a ha K' hK=>iK _ rfl (wj rfl (wM he) (by rw[hq];simp[h5]) (ha.ev hx) (ha.ev hi) hj hlt) (hK _ _ _ h (ha.put hd))⟩
end
theorem CO{a b:Int}(ha:0≤a∧a<256)(hb:0≤b∧b<256) : bits .xor .u8 a b=xi a b:=u8_xor a b ha.1 ha.2 hb.1 hb.2
theorem pp{a b:Int}(ha:0≤a∧a<65536)(hb:0≤b∧b<65536) : bits .xor .u16 a b=xi a b:=u16_xor a b ha.1 ha.2 hb.1 hb.2
theorem xS{a:Int}(ha:0≤a∧a<65536) : bits .and .u16 a 1=a%2:=by
  rw[u16_and a 1 ha.1 ha.2 (by omega) (by omega)]
  show((a.toNat &&& 1:Nat) : Int)=_
  rw[Nat.and_one_is_mod]
  omega
def jc (k:Nat) : Array Value:=((List.range 256).map fun i=>if i<k then Value.int .u16 (lO i) else Value.int .u16 0).toArray
theorem dC(k:Nat) : (jc k).size=256:=by simp[jc]
theorem qt(k:Nat) : (jc k).all (·.oneCell')=true:=by
  unfold jc
  rw[List.all_toArray,List.all_eq_true]
  intro v hv
  rw[List.mem_map] at hv
  obtain⟨i,_,rfl⟩:=hv
  split<;>rfl
theorem yj{i k:Nat}(hk:k=8)(hi:i<256) : (jc i).setIfInBounds i (.int .u16 ((fT k i:Nat) : Int))=jc (i+1):=by
  subst hk
  unfold jc
  rw[List.setIfInBounds_toArray]
  congr 1
  apply List.ext_getElem?
  intro j
  rw[List.getElem?_set]
  by_cases hj:j<256
  · by_cases hij:i=j
    · subst hij
      simp[hi,lO,AF]
    · simp[hij,hj]
      congr 1
      simp only[eq_iff_iff]
      omega
  · rw[if_neg (by omega)]
    simp[hj]
theorem zq{i:Nat}(h:i<256) : (jc 256)[i]? = some (.int .u16 (lO i)):=by simp[jc,h]
def ew (s:Int)(b:List Int) : Nat→Int
  | 0=>s
  | k+1=>th (ew s b k) (b.getD k 0)
theorem oC(s:Int)(b:List Int) : ∀ k,k≤b.length→ew s b k=ch s (b.take k)
  | 0,_=>by simp[ew,ch]
  | k+1,h=>by
    rw[List.take_succ_eq_append_getElem (by omega),xD,← oC s b k (by omega)]
    show th _ (b.getD k 0)=_
    rw[List.getD_eq_getElem?_getD,List.getElem?_eq_getElem (by omega)]
    rfl
theorem qg{s:Int}{b:List Int}{k:Nat}(h:k=b.length) : ew s b k=ch s b:=by
  subst h
  rw[oC _ _ _ (Nat.le_refl _),List.take_length]
theorem kL{s:Int}{b:List Int}(hs:0≤s∧s<65536)(hb:∀ x,x∈b→0≤x∧x<256) : ∀ k,0≤ew s b k∧ew s b k<65536
  | 0=>hs
  | k+1=>qZ (kL hs hb k) (gw (by omega) hb k)
theorem wG{i:Int}(h:0≤i) : lO ((i.toNat:Nat) : Int)=lO i:=by rw[Int.toNat_of_nonneg h]
open Go.RowKit
theorem Bo{P:Program}(t e:TypeId)(sz:Nat){i:TypeInfo}(ht:P.underlying t=some (.slice e))(hi:P.info? e=some i)(hsz:i.size=sz)(A:Option Addr)(n c:Nat){k:Int}(h:Nat)(hk:k=(h:Int))(hh:h≤n)(hc:n≤c) :
    ∃ A':Option Addr,(∀ (kh:IntKind) (W:World),(Instr.slice t (.slice A n c) none (some (.int kh k)) none).run P W = .ok (.slice A' h c) W) ∧
      ∀ {α:Type} (m:Md) (e':TypeId) (R:World→α→List Value→Prop) (w:World) (xs:List α),aS m e' sz R w (.slice A n c) xs→aS m e' sz R w (.slice A' h c) (xs.take h):=by
  subst hk
  obtain⟨A',h1,h2⟩:=xO (P:=P) t e sz ht hi hsz A n c 0 h (Nat.zero_le _) hh hc
  refine⟨A',fun kh W=>?_,fun m e' R w xs hr=>by simpa using h2 m e' R w xs hr⟩
  have h3:=h1 .i64 kh W
  have hel:P.elem t=e:=by simp[Program.elem,ht]
  have hu:P.underlying t=some (.slice (P.elem t)):=by rw[hel];exact ht
  rw[run_slice_h W t A n c hu kh (h:Int) (Int.natCast_nonneg _) (by omega)]
  rw[run_slice_lh W t A n c hu .i64 kh (((0:Nat) : Int)) (h:Int) (Int.natCast_nonneg _) (by omega) (by omega)] at h3
  simpa using h3
theorem rq{o:Oper}{ev:Operand→Value}{P:Program}{w:World}{t:TypeId}{x y:Operand}{A:Option Addr}{n c:Nat}{kl:IntKind}{k:Int}{v:Value}{e:TypeId}(ho:o.op = .slice t x none (some y) none)(ht:P.underlying t=some (.slice e))(hx:ev x = .slice A n c)(hy:ev y = .int kl k)
    (hr:(Instr.slice t (.slice A n c) none (some (.int kl k)) none).run P w = .ok v w) : (execOp ev o).run P w = .ok (.value v) w:=by
  have hu:(underlying t).run P w = .ok (.slice e) w:=run_underlying ht w
  unfold execOp
  simp only[ho,Option.map_some,Option.map_none,hx,hy,Instr.sliceAt,Sem.run_bind,hu,hr,Result.andThen,Sem.run_pure]
theorem gW{P:Program}(t e:TypeId)(sz:Nat){i:TypeInfo}(ht:P.underlying t=some (.slice e))(hi:P.info? e=some i)(hsz:i.size=sz)(A:Option Addr)(n c:Nat){lo up:Int}(k h:Nat)(hlo:lo=(k:Int))(hup:up=(h:Int))(hk:k≤h)(hh:h≤n)(hc:n≤c) :
    ∃ A':Option Addr,(∀ (kl kh:IntKind) (W:World),(Instr.slice t (.slice A n c) (some (.int kl lo)) (some (.int kh up)) none).run P W = .ok (.slice A' (h-k) (c-k)) W) ∧
      ∀ {α:Type} (m:Md) (e':TypeId) (R:World→α→List Value→Prop) (w:World) (xs:List α),aS m e' sz R w (.slice A n c) xs→aS m e' sz R w (.slice A' (h-k) (c-k)) ((xs.take h).drop k):=by
  subst hlo hup
  exact xO t e sz ht hi hsz A n c k h hk hh hc
theorem fa{o:Oper}{ev:Operand→Value}{P:Program}{w:World}{t:TypeId}{x y z:Operand}{A:Option Addr}{n c:Nat}{kl kh:IntKind}{lo hi:Int}{v:Value}{e:TypeId}(ho:o.op = .slice t x (some y) (some z) none)(ht:P.underlying t=some (.slice e))(hx:ev x = .slice A n c)(hy:ev y = .int kl lo)(hz:ev z = .int kh hi)
    (hr:(Instr.slice t (.slice A n c) (some (.int kl lo)) (some (.int kh hi)) none).run P w = .ok v w) : (execOp ev o).run P w = .ok (.value v) w:=by
  have hu:(underlying t).run P w = .ok (.slice e) w:=run_underlying ht w
  unfold execOp
  simp only[ho,Option.map_some,Option.map_none,hx,hy,hz,Instr.sliceAt,Sem.run_bind,hu,hr,Result.andThen,Sem.run_pure]
theorem vx{P:Program}(t e:TypeId)(sz:Nat){i:TypeInfo}(ht:P.underlying t=some (.slice e))(hi:P.info? e=some i)(hsz:i.size=sz)(A:Option Addr)(n c:Nat){lo:Int}(k:Nat)(hlo:lo=(k:Int))(hk:k≤n) :
    ∃ A':Option Addr,(∀ (kl:IntKind) (W:World),(Instr.slice t (.slice A n c) (some (.int kl lo)) none none).run P W = .ok (.slice A' (n-k) (c-k)) W) ∧
      ∀ {α:Type} (m:Md) (e':TypeId) (R:World→α→List Value→Prop) (w:World) (xs:List α),aS m e' sz R w (.slice A n c) xs→aS m e' sz R w (.slice A' (n-k) (c-k)) (xs.drop k):=by
  subst hlo
  exact ea t e sz ht hi hsz A n c k hk
open Go.RowKit
theorem pF{w:World}:Calls Tryz.prog 258 #[] w (cl (.agg (jc 256)) w):=by
 refine en 23 Tryz.func258 rfl<|sg<|aK (jc 0) fun c F n o p=>ng<|aK (jc 0) fun a q r s t=>nt<|sq<|sg<|?_
 refine ai 1<|bk<|?_
 refine jf (fun x=>[(0,vP c 0),(1,vP a 0),(4,vI ((x:Nat) : Int))]) (fun(x:Nat) w'=>aH [a] q w'∧w'.heap[a]? = some (.cells (jc x) 247 (0,0))∧(x≤256)) (fun x=>256-x) 0 ⟨aH.refl _ _,s,(by(try dsimp only);omega)⟩ ?_
 rintro i g ⟨h,u,v⟩
 refine je [(0,vP c 0),(1,vP a 0),(4,vI ((i:Nat) : Int))] ?_
 have j:g.heap[a]? = some (.cells (jc i) 247 (0,0)):=u
 have G:i≤256:=v
 refine aE 1<|sq<|?_
 have l:=ud t h r
 refine cb ((decide (((i:Nat) : Int)<256))) (fun d=>?_) (fun d=>?_)
 have y:=of_decide_eq_true d
 refine bj<|sq<|bk<|al 2<|aM 1<|L0<|Oe (vW (IntKind.u16.wrap ((i:Nat) : Int))) (vW ((fT 0 i:Nat) : Int)) (congrArg (Value.int .u16) (ji (x:=((i:Nat) : Int)) (by omega)))<|Pl 1<|nl<|?_
 refine tn<|sq<|aE 1<|bk<|?_
 refine jf (fun x=>[(0,vP c 0),(1,vP a 0),(2,vI ((i:Nat) : Int)),(3,vW ((fT x i:Nat) : Int)),(4,vI ((i:Nat) : Int)),(5,.bool (decide (((i:Nat) : Int)<256))),(6,vI ((i:Nat) : Int)),(7,vI ((i:Nat) : Int)),(8,vW ((fT 0 i:Nat) : Int)),(9,vI ((x:Nat) : Int))]) (fun(x:Nat) w'=>aH [] g w'∧(x≤8)) (fun x=>8-x) 0 ⟨aH.refl _ _,(by(try dsimp only);omega)⟩ ?_
 rintro k H ⟨e,z⟩
 refine je [(0,vP c 0),(1,vP a 0),(2,vI ((i:Nat) : Int)),(3,vW ((fT k i:Nat) : Int)),(4,vI ((i:Nat) : Int)),(5,.bool (decide (((i:Nat) : Int)<256))),(6,vI ((i:Nat) : Int)),(7,vI ((i:Nat) : Int)),(8,vW ((fT 0 i:Nat) : Int)),(9,vI ((k:Nat) : Int))] ?_
 have I:k≤8:=z
 have J:=jy (x:=i) (by omega) k
 refine aE 1<|sq<|?_
 refine cb ((decide (((k:Nat) : Int)<8))) (fun f=>?_) (fun f=>?_)
 have A:=of_decide_eq_true f
 refine bj<|sq<|bk<|go<|Pl 1<|L0<|Oe (vW (Int.fdiv ((fT k i:Nat) : Int) (2 ^ 1))) (vW (((fT k i:Nat) : Int)/2)) (congrArg (Value.int .u16) (m0 _ _ _ (by decide)))<|Pl 1<|L0<|Oe (vW (bits .and .u16 ((fT k i:Nat) : Int) 1)) (vW (((fT k i:Nat) : Int)%2)) (congrArg (Value.int .u16) (xS (by omega)))<|Pl 1<|L0<|Oe (vW (bits .xor .u16 (((fT k i:Nat) : Int)/2) (((((fT k i:Nat) : Int)%2)*40961)%65536))) (vW ((fT (k+1) i:Nat) : Int)) (congrArg (Value.int .u16) ((pp (by omega) (by omega)).trans (zp _)))<|Pl 1<|nl<|bn<|?_
 exact tn<|go<|bq (((k:Nat) : Int)+1)<|Pl 1<|nl<|gI (k+1) ⟨e,(by(try dsimp only);omega)⟩ (by omega)
 have A:=of_decide_eq_false f
 refine xt<|tx<|tx<|bx<|tn<|go<|Pl 2<|L0<|Dm (b:=a) (off:=0) 256 i ((i:Nat) : Int) rfl (by omega)<|?_
 refine L0<|ci (hl:=(by rw[dC];simp;omega)) (ub e j) (0+i) ((jc i).setIfInBounds (0+i) (vW ((fT k i:Nat) : Int))) fun K B C=>?_
 have m:=B
 rw[Nat.zero_add,yj (by omega) (by omega)] at m
 refine nl<|bn<|tn<|go<|bq (((i:Nat) : Int)+1)<|Pl 1<|nl<|?_
 exact gI (i+1) ⟨(u1 h (uz e C) im),m,(by(try dsimp only);omega)⟩ (by omega)
 have y:=of_decide_eq_false d
 refine xt<|tx<|tx<|bx<|tn<|sg<|L0<|bN (hz:=(by rw[dC];kernel_rfl)) j<|?_
 refine aG (hz:=(by rw[dC];kernel_rfl)) (hv:=(Eq.trans (by first | rw[dC,dC] | rw[dC]) (Eq.symm (dC _)))) (h1:=(qt _)) (ub l o) ((jc i)) fun L D E=>qG<|DT 256 (dC _) D<|?_
 have hi:i=256:=by omega
 subst hi
 exact⟨rfl,(ud (aI p l) E n)⟩
theorem p7{m:Md}{A:Option Addr}{cp:Nat}{b:List Int}{w:World}{s:Int}(hsl:aZ m w (.slice A b.length cp) b)(hs:0≤s∧s<65536) :
    Calls Tryz.prog 257 #[vW s,.slice A b.length cp] w (cl (vW (ch s b)) w):=by
 have hln:=aS.len hsl
 have hb:=aZ.range hsl
 refine en 26 Tryz.func257 rfl<|al 1<|ng<|ay<|m1 (@pF w) fun D g=>aK (jc 0) fun c E h j l=>aG (hz:=(by rw[dC];kernel_rfl)) (hv:=(Eq.trans (by first | rw[dC,dC] | rw[dC]) (Eq.symm (dC _)))) (h1:=(qt _)) j ((jc 256)) fun n o q=>nt<|sq<|aE 3<|bk<|?_
 refine jf (fun x=>[(0,vW (ew s b x)),(4,vW 0),(5,vP c 0),(9,.slice A b.length cp),(10,vI (b.length:Int)),(11,vI (x:Int))]) (fun(x:Nat) w'=>aH [] n w'∧(x≤b.length)∧(0≤ew s b x∧ew s b x<65536)) (fun x=>b.length-x) 0 ⟨aH.refl _ _,(by(try dsimp only);omega),hs⟩ ?_
 rintro k F ⟨d,r,t⟩
 refine je [(0,vW (ew s b k)),(4,vW 0),(5,vP c 0),(9,.slice A b.length cp),(10,vI (b.length:Int)),(11,vI (k:Int))] ?_
 have G:k≤b.length:=r
 have H:0≤ew s b k∧ew s b k<65536:=t
 refine aE 1<|sq<|?_
 have f:=aI g (ud l (aI q d) h)
 refine cb ((decide ((k:Int)<(b.length:Int)))) (fun e=>?_) (fun e=>?_)
 have u:=of_decide_eq_true e
 refine bj<|sq<|bk<|sg<|?_
 refine ft (aZ.at_ (aZ.old hsl f) k (by omega)) fun y z B C I=>L0<|kY b.length k B (by omega)<|L0<|eu (p:=⟨y,z+k,none⟩) (v:=vB (b.getD k 0)) C<|ai 1<|go<|Pl 1<|L0<|Oe (vW (Int.fdiv (ew s b k) (2 ^ 8))) (vW ((ew s b k)/256)) (congrArg (Value.int .u16) (m0 _ _ _ (by decide)))<|Pl 3<|?_
 have J:=Eo (a:=((ew s b k)%256)) (b:=(b.getD k 0)) (by omega) (by omega)
 refine L0<|Oe (vB (bits .xor .u8 ((ew s b k)%256) (b.getD k 0))) (vB (xi ((ew s b k)%256) (b.getD k 0))) (congrArg (Value.int .u8) (CO (by omega) (by omega)))<|L0<|Dm (b:=c) (off:=0) 256 (((xi ((ew s b k)%256) (b.getD k 0))).toNat) (xi ((ew s b k)%256) (b.getD k 0)) (by omega) (by omega)<|?_
 have K:=qf (i:=(xi ((ew s b k)%256) (b.getD k 0))) (by omega)
 exact L0<|eu (p:=⟨c,0+((xi ((ew s b k)%256) (b.getD k 0))).toNat,none⟩) (v:=vW (lO ((xi ((ew s b k)%256) (b.getD k 0))))) (ae (ub d o) (by rw[Nat.zero_add,zq (by omega),wG (by omega)]))<|L0<|Oe (vW (bits .xor .u16 ((ew s b k)/256) (lO (xi ((ew s b k)%256) (b.getD k 0))))) (vW (ew s b (k+1))) (congrArg (Value.int .u16) (pp (by omega) (qf (by omega))))<|Pl 1<|nl<|bn<|tn<|go<|bq ((k:Int)+1)<|Pl 1<|nl<|gI (k+1) ⟨d,(by(try dsimp only);omega),(kL hs hb _)⟩ (by omega)
 have u:=of_decide_eq_false e
 refine xt<|tx<|tx<|bx<|tn<|aE 2<|rt<|rr (vW (ew s b k))<|?_
 have hk:ew s b k=ch s b:=qg (by omega)
 rw[hk]
 exact⟨rfl,f⟩
theorem qv{m:Md}{v:Value}{b:List Int}{w:World}(h:aZ m w v b) : Calls Tryz.prog 257 #[.int .u16 65535,v] w (cl (.int .u16 (ch 65535 b)) w):=by
  obtain⟨A,cp,rfl,_,_⟩:=h.shape
  exact p7 h (by decide)
theorem sT{m:Md}{A:Option Addr}{cp:Nat}{b:List Int}{w:World}(hsl:aZ m w (.slice A b.length cp) b) :
    Calls Tryz.prog 256 #[.slice A b.length cp] w (cl (vW (ch 65535 b)) w):=by
 exact en 5 Tryz.func256 rfl<|al 1<|aM 1<|ay<|m1 (qv hsl) fun c a=>ai 1<|rt<|rr (vW (ch 65535 b))<|⟨rfl,a⟩
theorem lf{m:Md}{v:Value}{b:List Int}{w:World}(h:aZ m w v b) : Calls Tryz.prog 256 #[v] w (cl (.int .u16 (ch 65535 b)) w):=by
  obtain⟨A,cp,rfl,_,_⟩:=h.shape
  exact sT h
theorem iy{w:World}{s:Int}(hs:0≤s∧s<65536) : Calls Tryz.prog 255 #[vW s] w (fun e w'=>∃ v,e = .returned v∧eG w.heap.size w' v (cj s)∧aH [] w w'):=by
 refine en 9 Tryz.func255 rfl<|al 1<|aM 3<|L0<|Oe (vW (Int.fdiv s (2 ^ 8))) (vW (s/256)) (congrArg (Value.int .u16) (m0 _ _ _ (by decide)))<|Pl 1<|L0<|cY (m:=2) (e:=5) #[vB (s%256),vB ((s/256)%256)] fun a g b c d=>?_
 have f:=cG b (xs:=[(s%256),((s/256)%256)]) (by as_aux_lemma=>kernel_rfl) (am (by omega) (am (by omega) aR)) (by(try simp only[List.length_cons,List.length_nil]);omega) c
 exact ai 1<|rt<|rr (.slice (some ⟨a,0,none⟩) 2 2)<|⟨_,rfl,f,d⟩
theorem m9{b:List Int}{n:Nat}(h:2≤b.length)(hn:n=b.length-2) : dF b=decide (cj (ch 65535 (b.take n))=b.drop n):=by
  subst hn
  unfold dF
  simp[h]
theorem zN{b:List Int}(h:b.length<2) : dF b=false:=by
  unfold dF
  simp
  omega
theorem tA{m:Md}{A:Option Addr}{cp:Nat}{b:List Int}{w:World}(hsl:aZ m w (.slice A b.length cp) b)(hb:b.length≤1048576)(hcp:b.length≤cp) :
    Calls Tryz.prog 254 #[.slice A b.length cp] w (cl (.bool (dF b)) w):=by
 have hc:=aS.len hsl
 refine en 22 Tryz.func254 rfl<|al 1<|aM 2<|bq ((b.length:Int)-2)<|ai 1<|sq<|?_
 refine Rg 16 (fun w'=>True) fun R f=>bo trivial fun d=>Rt 0 d<|Rt 1 d<|Rt 2 d<|uu 9 ((decide (0≤((b.length:Int)-2)))) (fun p=>?_) (fun p=>?_)
 have I:=of_decide_eq_true p
 refine Rt 3 d<|Rt 4 d<|ny (Bo (P:=Tryz.prog) 27 5 1 Tryz.underlying27 rfl rfl A b.length cp (k:=((b.length:Int)-2)) ((((b.length:Int)-2)).toNat) (by omega) (by omega) (by omega)) fun q hrun60 i=>Rr 5 d (.slice q ((((b.length:Int)-2)).toNat) cp) (fun _ _=>rq (kl:=.i64) (k:=((b.length:Int)-2)) (A:=A) (n:=b.length) (c:=cp) rfl Tryz.underlying27 (by kernel_rfl) (by kernel_rfl) (hrun60 _ _))<|Rt 9 d<|Rt 10 d<|ny (vx (P:=Tryz.prog) 27 5 1 Tryz.underlying27 rfl rfl A b.length cp (lo:=((b.length:Int)-2)) ((((b.length:Int)-2)).toNat) (by omega) (by omega)) fun g hrun63 e=>Rr 11 d (.slice g (b.length-((((b.length:Int)-2)).toNat)) (cp-((((b.length:Int)-2)).toNat))) (fun _ _=>et (kl:=.i64) (k:=((b.length:Int)-2)) (A:=A) (n:=b.length) (c:=cp) rfl Tryz.underlying27 (by kernel_rfl) (by kernel_rfl) (hrun63 _ _))<|R2 6 12 rfl rfl ?_ ?_
 have h:=aZ.old hsl f
 refine  Oc (args:=#[.slice q ((((b.length:Int)-2)).toNat) cp])<|m1 (lf (i _ _ _ _ _ h)) fun S j=>?_
 have T:=ip (b.take ((((b.length:Int)-2)).toNat)) (s:=65535) (by decide) (aZ.range (i _ _ _ _ _ h))
 refine bo trivial fun U=>?_
 refine R2 7 12 rfl rfl ?_ ?_
 refine  Oc<|dV (iy (s:=(ch 65535 (b.take ((((b.length:Int)-2)).toNat)))) (by omega)) fun x y V l W X z=>bo trivial fun Y=>?_
 refine R2 8 12 rfl rfl ?_ ?_
 refine  ik (.string (strOfNums (cj (ch 65535 (b.take ((((b.length:Int)-2)).toNat)))))) (cV (A:=x) (n:=(cj (ch 65535 (b.take ((((b.length:Int)-2)).toNat)))).length) (c:=y) rfl (by kernel_rfl) Tryz.underlying27 Tryz.underlying5 Tryz.underlying9 (l).rd)<|bo trivial fun Z=>?_
 have B:=aI j z
 have C:=aZ.old h B
 refine R0 12 rfl<|ik (.string (strOfNums (b.drop ((((b.length:Int)-2)).toNat)))) (cV (A:=g) (n:=(b.length-((((b.length:Int)-2)).toNat))) (c:=(cp-((((b.length:Int)-2)).toNat))) rfl (by kernel_rfl) Tryz.underlying27 Tryz.underlying5 Tryz.underlying9 (e _ _ _ _ _ C))<|bo trivial fun r=>Rr 13 r (.bool (decide ((cj (ch 65535 (b.take ((((b.length:Int)-2)).toNat))))=(b.drop ((((b.length:Int)-2)).toNat))))) (fun _ _=>gx (a:=(strOfNums (cj (ch 65535 (b.take ((((b.length:Int)-2)).toNat)))))) (b:=(strOfNums (b.drop ((((b.length:Int)-2)).toNat)))) rfl (by kernel_rfl) (by kernel_rfl) (jU (l).rd (e _ _ _ _ _ C)))<|Rt 14 r<|Rt 15 r<|re<|tn<|rt<|rr (.bool (decide ((cj (ch 65535 (b.take ((((b.length:Int)-2)).toNat))))=(b.drop ((((b.length:Int)-2)).toNat)))))<|?_
 have hs:dF b=(decide ((cj (ch 65535 (b.take ((((b.length:Int)-2)).toNat))))=(b.drop ((((b.length:Int)-2)).toNat)))):=(m9 (by omega) (by omega))
 rw[hs]
 exact⟨rfl,(aI f B)⟩
 have D:=aI j z
 have E:=aZ.old h D
 refine  ik (.string (strOfNums (b.drop ((((b.length:Int)-2)).toNat)))) (cV (A:=g) (n:=(b.length-((((b.length:Int)-2)).toNat))) (c:=(cp-((((b.length:Int)-2)).toNat))) rfl (by kernel_rfl) Tryz.underlying27 Tryz.underlying5 Tryz.underlying9 (e _ _ _ _ _ E))<|bo trivial fun a0=>R0 8 rfl<|ik (.string (strOfNums (cj (ch 65535 (b.take ((((b.length:Int)-2)).toNat)))))) (cV (A:=x) (n:=(cj (ch 65535 (b.take ((((b.length:Int)-2)).toNat)))).length) (c:=y) rfl (by kernel_rfl) Tryz.underlying27 Tryz.underlying5 Tryz.underlying9 (l).rd)<|bo trivial fun t=>Rr 13 t (.bool (decide ((cj (ch 65535 (b.take ((((b.length:Int)-2)).toNat))))=(b.drop ((((b.length:Int)-2)).toNat))))) (fun _ _=>gx (a:=(strOfNums (cj (ch 65535 (b.take ((((b.length:Int)-2)).toNat)))))) (b:=(strOfNums (b.drop ((((b.length:Int)-2)).toNat)))) rfl (by kernel_rfl) (by kernel_rfl) (jU (l).rd (e _ _ _ _ _ E)))<|Rt 14 t<|Rt 15 t<|re<|tn<|rt<|rr (.bool (decide ((cj (ch 65535 (b.take ((((b.length:Int)-2)).toNat))))=(b.drop ((((b.length:Int)-2)).toNat)))))<|?_
 have hs:dF b=(decide ((cj (ch 65535 (b.take ((((b.length:Int)-2)).toNat))))=(b.drop ((((b.length:Int)-2)).toNat)))):=(m9 (by omega) (by omega))
 rw[hs]
 exact⟨rfl,(aI f D)⟩
 have F:=aZ.old h j
 refine  ik (.string (strOfNums (b.drop ((((b.length:Int)-2)).toNat)))) (cV (A:=g) (n:=(b.length-((((b.length:Int)-2)).toNat))) (c:=(cp-((((b.length:Int)-2)).toNat))) rfl (by kernel_rfl) Tryz.underlying27 Tryz.underlying5 Tryz.underlying9 (e _ _ _ _ _ F))<|bo trivial fun a1=>R0 7 rfl<|Oc<|dV (iy (s:=(ch 65535 (b.take ((((b.length:Int)-2)).toNat)))) (by omega)) fun J K a2 G a3 a4 L=>bo trivial fun a5=>R0 8 rfl<|ik (.string (strOfNums (cj (ch 65535 (b.take ((((b.length:Int)-2)).toNat)))))) (cV (A:=J) (n:=(cj (ch 65535 (b.take ((((b.length:Int)-2)).toNat)))).length) (c:=K) rfl (by kernel_rfl) Tryz.underlying27 Tryz.underlying5 Tryz.underlying9 (G).rd)<|bo trivial fun u=>Rr 13 u (.bool (decide ((cj (ch 65535 (b.take ((((b.length:Int)-2)).toNat))))=(b.drop ((((b.length:Int)-2)).toNat))))) (fun _ _=>gx (a:=(strOfNums (cj (ch 65535 (b.take ((((b.length:Int)-2)).toNat)))))) (b:=(strOfNums (b.drop ((((b.length:Int)-2)).toNat)))) rfl (by kernel_rfl) (by kernel_rfl) (jU (G).rd (e _ _ _ _ _ F)))<|Rt 14 u<|Rt 15 u<|re<|tn<|rt<|rr (.bool (decide ((cj (ch 65535 (b.take ((((b.length:Int)-2)).toNat))))=(b.drop ((((b.length:Int)-2)).toNat)))))<|?_
 have hs:dF b=(decide ((cj (ch 65535 (b.take ((((b.length:Int)-2)).toNat))))=(b.drop ((((b.length:Int)-2)).toNat)))):=(m9 (by omega) (by omega))
 rw[hs]
 exact⟨rfl,(aI f (aI j L))⟩
 have o:=aZ.old hsl f
 refine  ik (.string (strOfNums (b.drop ((((b.length:Int)-2)).toNat)))) (cV (A:=g) (n:=(b.length-((((b.length:Int)-2)).toNat))) (c:=(cp-((((b.length:Int)-2)).toNat))) rfl (by kernel_rfl) Tryz.underlying27 Tryz.underlying5 Tryz.underlying9 (e _ _ _ _ _ o))<|bo trivial fun a6=>R0 6 rfl<|Oc (args:=#[.slice q ((((b.length:Int)-2)).toNat) cp])<|m1 (lf (i _ _ _ _ _ o)) fun a7 M=>?_
 have a8:=ip (b.take ((((b.length:Int)-2)).toNat)) (s:=65535) (by decide) (aZ.range (i _ _ _ _ _ o))
 refine bo trivial fun a9=>R0 7 rfl<|Oc<|dV (iy (s:=(ch 65535 (b.take ((((b.length:Int)-2)).toNat)))) (by omega)) fun N O aa H ab ac Q=>bo trivial fun ad=>R0 8 rfl<|ik (.string (strOfNums (cj (ch 65535 (b.take ((((b.length:Int)-2)).toNat)))))) (cV (A:=N) (n:=(cj (ch 65535 (b.take ((((b.length:Int)-2)).toNat)))).length) (c:=O) rfl (by kernel_rfl) Tryz.underlying27 Tryz.underlying5 Tryz.underlying9 (H).rd)<|bo trivial fun v=>Rr 13 v (.bool (decide ((cj (ch 65535 (b.take ((((b.length:Int)-2)).toNat))))=(b.drop ((((b.length:Int)-2)).toNat))))) (fun _ _=>gx (a:=(strOfNums (cj (ch 65535 (b.take ((((b.length:Int)-2)).toNat)))))) (b:=(strOfNums (b.drop ((((b.length:Int)-2)).toNat)))) rfl (by kernel_rfl) (by kernel_rfl) (jU (H).rd (e _ _ _ _ _ o)))<|Rt 14 v<|Rt 15 v<|re<|tn<|rt<|rr (.bool (decide ((cj (ch 65535 (b.take ((((b.length:Int)-2)).toNat))))=(b.drop ((((b.length:Int)-2)).toNat)))))<|?_
 have hs:dF b=(decide ((cj (ch 65535 (b.take ((((b.length:Int)-2)).toNat))))=(b.drop ((((b.length:Int)-2)).toNat)))):=(m9 (by omega) (by omega))
 rw[hs]
 exact⟨rfl,(aI f (aI M Q))⟩
 have I:=of_decide_eq_false p
 refine Ro 3 d<|Ro 4 d<|Ro 5 d<|Ro 6 d<|Ro 7 d<|Ro 8 d<|Ro 9 d<|Ro 10 d<|Ro 11 d<|Ro 12 d<|Ro 13 d<|Rt 14 d<|Rt 15 d<|re<|tn<|rt<|rr (.bool false)<|?_
 have hs:dF b=false:=(zN (by omega))
 rw[hs]
 exact⟨rfl,f⟩
theorem v4{m:Md}{v:Value}{b:List Int}{w:World}(h:aZ m w v b)(hb:b.length≤1048576) : Calls Tryz.prog 254 #[v] w (cl (.bool (dF b)) w):=by
  obtain⟨A,cp,rfl,hc,_⟩:=h.shape
  exact tA h hb hc
open Go.RowKit
def ga (b:List Int) : List Int:=(b.take (b.length-2)).drop 1
theorem iI(b:List Int) : ga b=(b.take (((b.length:Nat) : Int)-2).toNat).drop 1:=by
  unfold ga
  rw[show(((b.length:Nat) : Int)-2).toNat=b.length-2 from by omega]
def ei (dir:Int)(b:List Int) : dt × Int :=
  if dir != 0&&dir != 1 then (dt.zero,1)
  else if decide ((b.length:Int)<4) then (dt.zero,2)
  else if decide (256<(b.length:Int)) then (dt.zero,3)
  else if !(dF b) then (dt.zero,10)
  else cw (b.getD 0 0) 0 (cF dir (ga b))
theorem t6{m:Md}{A:Option Addr}{cp:Nat}{b:List Int}{w:World}{dir:Int}(hsl:aZ m w (.slice A b.length cp) b)(hb:b.length≤1048576)(hcp:b.length≤cp) :
    Calls Tryz.prog 253 #[vI dir,.slice A b.length cp] w (qe (ei dir b) w):=by
 have hln:(b.length:Int)≤1048576:=by omega
 refine en 51 Tryz.func253 rfl<|sg<|aK #[vB 0,vW 0,vB 0,vB 0,vW 0,vW 0,vW 0,vW 0,vW 0,vW 0,vW 0,vW 0,vW 0,vW 0,nS,nS,nS,nS,vB 0,vB 0,vB 0,vB 0,vB 0,nS] fun aY b0 j e B=>ai 1<|sq<|bk<|al 3<|cu 3 [11] 14 (((dir != 0)&&(dir != 1))) (fun K N=>?_) ?_
 refine bl 11 ((dir != 0)) (fun C=>?_) (fun C=>?_)
 have a5:=aB C
 exact Pl 3<|ce N (dir != 1) (by rw[C];rfl)
 have a5:=az C
 exact Pl 3<|ce N false (by rw[C];rfl)
 refine ai 1<|cb (((dir != 0)&&(dir != 1))) (fun d=>?_) (fun d=>?_)
 have O:=(bC d).1
 have Q:=(bC d).2
 have b1:=aB O
 have b2:=aB Q
 refine al 1<|aG e #[vB 0,vW 0,vB 0,vB 0,vW 0,vW 0,vW 0,vW 0,vW 0,vW 0,vW 0,vW 0,vW 0,vW 0,nS,nS,nS,nS,vB 0,vB 0,vB 0,vB 0,vB 0,nS] fun b3 a6 a7=>ai 1<|rt<|br<|tr<|bJ a6 (vI 1)<|?_
 have hs:ei dir b=(dt.zero,1):=by
   unfold ei
   (try simp only[d,O,Q,bi,cw,reduceIte])
   all_goals rfl
 refine eM hs ?_
 exact dm (ud B a7 j)
 refine aE 4<|cb ((decide ((b.length:Int)<4))) (fun f=>?_) (fun f=>?_)
 have a8:=of_decide_eq_true f
 refine al 1<|aG e #[vB 0,vW 0,vB 0,vB 0,vW 0,vW 0,vW 0,vW 0,vW 0,vW 0,vW 0,vW 0,vW 0,vW 0,nS,nS,nS,nS,vB 0,vB 0,vB 0,vB 0,vB 0,nS] fun b4 a9 aa=>ai 1<|rt<|br<|tr<|bJ a9 (vI 2)<|?_
 have hs:ei dir b=(dt.zero,2):=by
   unfold ei
   (try simp only[d,f,bi,cw,reduceIte])
   all_goals rfl
 refine eM hs ?_
 exact dm (ud B aa j)
 have a8:=of_decide_eq_false f
 refine aE 4<|cb ((decide (256<(b.length:Int)))) (fun h=>?_) (fun h=>?_)
 have ab:=of_decide_eq_true h
 refine al 1<|aG e #[vB 0,vW 0,vB 0,vB 0,vW 0,vW 0,vW 0,vW 0,vW 0,vW 0,vW 0,vW 0,vW 0,vW 0,nS,nS,nS,nS,vB 0,vB 0,vB 0,vB 0,vB 0,nS] fun b5 ac ad=>ai 1<|rt<|br<|tr<|bJ ac (vI 3)<|?_
 have hs:ei dir b=(dt.zero,3):=by
   unfold ei
   (try simp only[d,f,h,bi,cw,reduceIte])
   all_goals rfl
 refine eM hs ?_
 exact dm (ud B ad j)
 have ab:=of_decide_eq_false h
 refine al 1<|?_
 have R:=aZ.old hsl B
 refine ay (args:=#[.slice A b.length cp])<|m1 (v4 R (by omega)) fun ae i=>ai 2<|?_
 have S:=aI B i
 refine cb ((!(dF b))) (fun k=>?_) (fun k=>?_)
 have G:(dF b)=false:=by simpa using k
 refine al 1<|?_
 refine aG (ub i e) #[vB 0,vW 0,vB 0,vB 0,vW 0,vW 0,vW 0,vW 0,vW 0,vW 0,vW 0,vW 0,vW 0,vW 0,nS,nS,nS,nS,vB 0,vB 0,vB 0,vB 0,vB 0,nS] fun b6 af ag=>ai 1<|rt<|br<|tr<|bJ af (vI 10)<|?_
 have hs:ei dir b=(dt.zero,10):=by
   unfold ei
   (try simp only[d,f,h,k,G,bi,cw,reduceIte])
   all_goals rfl
 refine eM hs ?_
 exact dm (ud S ag j)
 have G:(dF b)=true:=by simpa using k
 refine sk<|bn<|tn<|al 4<|bq ((b.length:Int)-2)<|ny (gW (P:=Tryz.prog) 27 5 1 Tryz.underlying27 rfl rfl A b.length cp (lo:=1) (up:=((b.length:Int)-2)) 1 ((((b.length:Int)-2)).toNat) (by omega) (by omega) (by omega) (by omega) (by omega)) fun ah hrun43 aj=>L0<|ik (.slice ah (((((b.length:Int)-2)).toNat)-1) (cp-1)) (fa (kl:=.i64) (kh:=.i64) (lo:=1) (hi:=((b.length:Int)-2)) (A:=A) (n:=b.length) (c:=cp) rfl Tryz.underlying27 (by kernel_rfl) (by kernel_rfl) (by kernel_rfl) (hrun43 _ _ _))<|?_
 obtain⟨a,D,J⟩ : ∃ M E,cF dir ((b.take ((((b.length:Int)-2)).toNat)).drop 1)=(M,E):=⟨_,_,rfl⟩
 have T:=aZ.old R i
 have U:=oz (dir:=dir) (w:=ae) (aj _ _ _ _ _ T) (by rw[List.length_drop,List.length_take];omega)
 rw[J] at U
 refine ay<|e2 U fun ak b9 V L=>?_
 have am:=V
 obtain⟨an,ao,ap,ar,au,av,aw,aA,aC,aD,aF,ba⟩:=am
 obtain rfl:ak=(eJ a an ao ap ar au).toArray:=by apply Array.toList_inj.1;simpa using av
 obtain⟨l,o,rfl,_,_⟩:=aw.shape
 obtain⟨p,q,rfl,_,_⟩:=aA.shape
 obtain⟨r,s,rfl,_,_⟩:=aC.shape
 obtain⟨t,u,rfl,_,_⟩:=aD.shape
 obtain⟨v,y,rfl,_,_⟩:=aF.shape
 refine Pl 3<|aK mZ fun W bb X aH aL=>aG aH (mG a.code a.fail a.addr a.count a.value a.and_ a.or_ a.addr2 a.sub a.status a.events a.messages (.slice l a.words.length o) (.slice p a.bits.length q) (.slice r a.data.length s) (.slice t a.recs.length u) a.mei a.kind a.level a.more a.next (.slice v a.objects.length y)) fun bc aM aO=>ai 1<|sq<|aE 2<|?_
 have Y:=ud aL aO X
 have H:=aI L Y
 have Z:=aI S H
 refine cb ((D != 0)) (fun F=>?_) (fun F=>?_)
 have aP:=aB F
 refine al 2<|?_
 refine aG (ub (aI i H) e) #[vB 0,vW 0,vB 0,vB 0,vW 0,vW 0,vW 0,vW 0,vW 0,vW 0,vW 0,vW 0,vW 0,vW 0,nS,nS,nS,nS,vB 0,vB 0,vB 0,vB 0,vB 0,nS] fun bd aQ aR=>ai 1<|aX<|bJ aQ (vI D)<|?_
 have hX2:cF dir (ga b)=(a,D):=(congrArg (cF dir) (iI b)).trans J
 have hs:ei dir b=(dt.zero,D):=by
   unfold ei
   (try simp only[d,f,h,k,G,F,bi,cw,hX2,reduceIte])
   all_goals rfl
 refine eM hs ?_
 exact dm (ud Z aR j)
 have aP:=az F
 refine bj<|sq<|?_
 refine ft (aZ.at_ (aZ.old T H) 0 (by omega)) fun aS aT a0 aU bf=>Rg 8 (fun w'=>w'.cell? ⟨aS,aT+0,none⟩=some (vB (b.getD 0 0))∧w'.heap[W]? = some (.cells (mG a.code a.fail a.addr a.count a.value a.and_ a.or_ a.addr2 a.sub a.status a.events a.messages (.slice l a.words.length o) (.slice p a.bits.length q) (.slice r a.data.length s) (.slice t a.recs.length u) a.mei a.kind a.level a.more a.next (.slice v a.objects.length y)) 45 (0,0))) fun bg I=>?_
 have a1:=ub I aM
 refine bo ⟨(uc I aU),a1⟩ fun z=>Rt 0 z<|lS 1 z b.length 0 0 rfl a0 (by omega)<|Rl 2 z (fun _ hs=>hs.1)<|Rt 3 z<|Rr 4 z (.agg (mG a.code a.fail a.addr a.count a.value a.and_ a.or_ a.addr2 a.sub a.status a.events a.messages (.slice l a.words.length o) (.slice p a.bits.length q) (.slice r a.data.length s) (.slice t a.recs.length u) a.mei a.kind a.level a.more a.next (.slice v a.objects.length y))) (fun w' hs=>iw (g:=W) (off:=0) [vB a.code,vB a.fail,vW a.addr,vW a.count,vW a.value,vW a.and_,vW a.or_,vW a.addr2,vW a.sub,vW a.status,vW a.events,vW a.messages,.slice l a.words.length o,.slice p a.bits.length q,.slice r a.data.length s,.slice t a.recs.length u,vB a.mei,vB a.kind,vB a.level,vB a.more,vB a.next,.slice v a.objects.length y] rfl (by kernel_rfl) hs.2 (by kernel_rfl) (by kernel_rfl) rfl)<|Rt 5 z<|?_
 refine R0 6 rfl<|gJ (ub (aI i (aI H I)) e) #[vB (b.getD 0 0),vW 0,vB a.code,vB a.fail,vW a.addr,vW a.count,vW a.value,vW a.and_,vW a.or_,vW a.addr2,vW a.sub,vW a.status,vW a.events,vW a.messages,.slice l a.words.length o,.slice p a.bits.length q,.slice r a.data.length s,.slice t a.recs.length u,vB a.mei,vB a.kind,vB a.level,vB a.more,vB a.next,.slice v a.objects.length y] fun bh aV a2=>?_
 have a3:=uz I a2
 have a4:=ud Z a3 j
 refine bo ⟨(cB (aZ.old hsl a4) a0 0 (by omega)),(be a2 (Ne.symm (nb (aq e) (le i.size L.size) X)) a1)⟩ fun aW=>Rt 7 aW<|re<|tn<|rt<|bJ aV (vI 0)<|?_
 have hX2:cF dir (ga b)=(a,D):=(congrArg (cF dir) (iI b)).trans J
 have hs:ei dir b=(⟨(b.getD 0 0),0,a⟩,0):=by
   unfold ei
   (try simp only[d,f,h,k,G,F,bi,cw,hX2,reduceIte])
   all_goals rfl
 refine eM hs ?_
 exact⟨_,rfl,⟨#[vB a.code,vB a.fail,vW a.addr,vW a.count,vW a.value,vW a.and_,vW a.or_,vW a.addr2,vW a.sub,vW a.status,vW a.events,vW a.messages,.slice l a.words.length o,.slice p a.bits.length q,.slice r a.data.length s,.slice t a.recs.length u,vB a.mei,vB a.kind,vB a.level,vB a.more,vB a.next,.slice v a.objects.length y],(by as_aux_lemma=>kernel_rfl),(aJ.upd V (uz Y a3) (ax (b7 (ub (aI i L) e) (by decide)) aN)),b8 (x:=(b.getD 0 0)) (by omega),cP (x:=0) (by omega)⟩,a4⟩
theorem uP{m:Md}{v:Value}{b:List Int}{w:World}{dir:Int}(h:aZ m w v b)(hb:b.length≤1048576) : Calls Tryz.prog 253 #[.int .i64 dir,v] w (qe (ei dir b) w):=by
  obtain⟨A,cp,rfl,hc,_⟩:=h.shape
  exact t6 h hb hc
open Go.RowKit
theorem xC(a b c d:Int)(w:World) : (Op.equalIn 10000 39 (.agg #[.int .u8 a,.int .u16 b]) (.agg #[.int .u8 c,.int .u16 d])).run Tryz.prog w = .ok ((a==c)&&(b==d)) w:=by
  have hS:Tryz.prog.underlying 39=some (.struct (Tryz.prog.fieldsOf 39)):=by kernel_rfl
  have hp:Tryz.prog.stoodInHeld 39=false:=by kernel_rfl
  rw[show(10000:Nat)=9998+1+1 from rfl,run_equalIn_agg w (9998+1) 39 _ _ hS hp]
  simp only[Program.fieldsOf,Tryz.underlying39]
  have p0:∀ v:Int,(part 5 #[.int .u8 v,.int .u16 b] 0).run Tryz.prog w = .ok (.int .u8 v) w:=fun v=>by simp[part,isAgg,run_underlying Tryz.underlying5,Result.andThen]
  have p0':∀ v:Int,(part 5 #[.int .u8 v,.int .u16 d] 0).run Tryz.prog w = .ok (.int .u8 v) w:=fun v=>by simp[part,isAgg,run_underlying Tryz.underlying5,Result.andThen]
  have p1:∀ v u:Int,(part 37 #[.int .u8 u,.int .u16 v] 1).run Tryz.prog w = .ok (.int .u16 v) w:=fun v u=>by simp[part,isAgg,run_underlying Tryz.underlying37,Result.andThen]
  have e0:=run_equalIn_int (P:=Tryz.prog) w 9998 5 .u8 _ a c Tryz.underlying5
  have e1:=run_equalIn_int (P:=Tryz.prog) w 9998 37 .u16 _ b d Tryz.underlying37
  simp only[Op.eqFields,Sem.run_bind,p0,p0',p1,e0,e1,Result.andThen_ok,ne_eq,String.reduceEq,not_false_eq_true,if_true,Sem.run_ite]
  cases (a==c)<;>cases (b==d)<;>simp
theorem iE{ev:Operand→Value}{o:Oper}{x y:Operand}{t:TypeId}(a b c d:Int){v:Bool}{w:World}(ho:o.op = .binOp .neq 39 x y t)
    (hx:ev x = .agg #[.int .u8 a,.int .u16 b]) (hy:ev y = .agg #[.int .u8 c,.int .u16 d]) (hv:(!((a==c)&&(b==d)))=v) : (execOp ev o).run Tryz.prog w = .ok (.value (.bool v)) w:=by
  subst hv
  have hg:(eqGuard .neq 39 x y (.agg #[.int .u8 a,.int .u16 b]) (.agg #[.int .u8 c,.int .u16 d])).run Tryz.prog w = .ok () w:=run_eqGuard_agg w _ _ _ _ _ _ (by kernel_rfl)
  unfold execOp
  simp only[ho,hx,hy,Sem.run_bind,hg,Result.andThen_ok,run_neq_struct,xC,Sem.run_pure]
open Go.RowKit
def jd (u:Int)(l:List Int) : List Int:=([u]++l)++cj (ch 65535 ([u]++l))
def fN (dir u t:Int)(M:aU) : Option (List Int) :=
  match d7 dir M with
  | none=>none
  | some l=>if !((u==u)&&(t==0)) then none else some (jd u l)
theorem o7{m:Md}{cs:Array Value}{M:aU}{w:World}{dir u t:Int}(h:aJ m w cs.toList M)(hf:bB M)(hu:B8 u)(ht:eN t) : Calls Tryz.prog 262 #[vI dir,.agg (#[vB u,vW t]++cs)] w (dR (fN dir u t M) w):=by
 have hM:=h
 obtain⟨hu1,hu2⟩:=hu
 obtain⟨ht1,ht2⟩:=ht
 refine fo h fun Aw kw Ab kb Ad kd Ar kr Ao ko e hw hbt hd hr ho _ _ _ _ _ _ _ _ _ _ q0 q1 q2 q3 q4 q5 q6 q7 q8 q9 O P Q R S T U=>?_
 subst e
 refine en 38 Tryz.func262 rfl<|sg<|L0<|d6 #[vB u,vW t,vB M.code,vB M.fail,vW M.addr,vW M.count,vW M.value,vW M.and_,vW M.or_,vW M.addr2,vW M.sub,vW M.status,vW M.events,vW M.messages,.slice Aw M.words.length kw,.slice Ab M.bits.length kb,.slice Ad M.data.length kd,.slice Ar M.recs.length kr,vB M.mei,vB M.kind,vB M.level,vB M.more,vB M.next,.slice Ao M.objects.length ko] fun V W X k c=>Pl 2<|aM 2<|L0<|mg k 2 22<|?_
 rcases hwr:d7 dir M with _|lw
 have l:=gl (dir:=dir) (aJ.old hM c) hf
 rw[hwr] at l
 refine ay<|m1 l fun Y C=>ai 5<|sq<|aE 11<|c1<|al 2<|nl<|tn<|aX<|rr (.tuple #[nS,vI 1])<|?_
 exact cv (y:=none) (by unfold fN;(try simp only[hwr,bi,reduceIte])<;>rfl) ⟨rfl,(aI c C)⟩
 have hlw:=i8 hwr
 have n:=gl (dir:=dir) (aJ.old hM c) hf
 rw[hwr] at n
 refine ay<|dV n fun Z a0 a1 D a2 a3 o=>ai 5<|sq<|al 4<|?_
 have g:=ub o k
 refine L1<|mg g 0 2<|Pl 2<|L1<|dD g 0<|Pl 1<|L1<|ik (.bool (!((u==u)&&(t==0)))) (iE u t u 0 rfl (by kernel_rfl) (by kernel_rfl) rfl)<|ai 1<|?_
 have i:=aI c o
 refine cb ((!((u==u)&&(t==0)))) (fun a=>?_) (fun a=>?_)
 have b:((u==u)&&(t==0))=false:=by simpa using a
 exact aE 2<|aX<|rr (.tuple #[nS,vI 1])<|cv (y:=none) (by unfold fN;(try simp only[hwr,a,b,bi,reduceIte])<;>rfl) ⟨rfl,i⟩
 have b:((u==u)&&(t==0))=true:=by simpa using a
 have p:=(bC b).1
 have q:=(bC b).2
 have q33nap:=ag p
 have q33nbp:=ag q
 refine bj<|al 2<|aD g 0<|L0<|cY (m:=1) (e:=5) #[vB u] fun E a4 F G d=>?_
 have r:=cG F (xs:=[u]) (by as_aux_lemma=>kernel_rfl) (am (by omega) aR) (by(try simp only[List.length_cons,List.length_nil]);omega) G
 refine Pl 1<|?_
 refine L0<|bQ b9 (xs:=([u])) (ys:=lw) (vB 0) 1 r ((av D d (fun x hx=>aF) (fun _ _ h=>h))).rd (by(try simp only[bT,aC,jL]);omega) d.size fun j H a5 f v=>Pl 1<|aM 2<|ay (args:=#[.slice j (([u]++lw).length) H])<|m1 (lf (f).rd) fun a6 z=>?_
 have a7:=ip ([u]++lw) (s:=65535) (by decide) (aZ.range (f).rd)
 refine ay<|dV (iy (s:=(ch 65535 ([u]++lw))) (by omega)) fun a8 a9 aa I ab ac A=>?_
 have B:=aI z A
 refine L0<|bQ b9 (xs:=([u]++lw)) (ys:=(cj (ch 65535 ([u]++lw)))) (vB 0) 1 (av f B (fun x hx=>aF) (fun _ _ h=>h)) (I).rd (by(try simp only[bT,aC,jL]);omega) (le (le (le d.size v.size) z.size) A.size) fun J K ad L N=>ai 2<|rt<|rr (.tuple #[.slice J ((([u]++lw)++(cj (ch 65535 ([u]++lw)))).length) K,vI 0])<|?_
 exact cv (y:=(some (([u]++lw)++(cj (ch 65535 ([u]++lw)))))) (by unfold fN;(try simp only[hwr,a,b,p,q,bi,reduceIte])<;>rfl) ⟨_,rfl,(b6.weaken L i.size),(aI i (ut d (ut (aH.mono (S':=(ob (some ⟨E,0,none⟩)++(ob j++[]))) v (ap il aA)) (ut (aH.mono (S':=(ob j++[])) B aA) N (ap il aA)) (ap il aA)) (ap (aT r lr) (ap (aT f lr) aA))))⟩
open Go.RowKit
theorem rD{m:Md}{v:Value}{b:List Int}{w:World}{dir:Int}{F:dt}{E:Int}(hX:ei dir b=(F,E))(h:aZ m w v b)(hb:b.length≤1048576) : Calls Tryz.prog 253 #[.int .i64 dir,v] w (fun e w'=>∃ x,e = .returned (.tuple #[.agg (ed F.unit F.tid F.msg x),.int .i64 E])∧(aJ true w' (fb F.msg x).toList F.msg∧(0≤F.unit∧F.unit<256)∧(0≤F.tid∧F.tid<65536))∧aH [] w w'):=by
  refine(uP h hb).mono ?_
  rintro e w' ⟨cs,rfl,h1,h2⟩
  rw[hX] at h1 ⊢
  obtain⟨c,rfl,h3,h4,h5⟩:=h1
  obtain⟨x,rfl⟩:=n8 h3
  exact⟨x,by rw[hZ],⟨h3,h4,h5⟩,h2⟩
theorem qO{m:Md}{x:SL}{M:aU}{w:World}{dir u t:Int}(hX:fN dir u t M=none)(h:aJ m w (fb M x).toList M)(hf:bB M)(hu:0≤u∧u<256)(ht:0≤t∧t<65536) : Calls Tryz.prog 262 #[.int .i64 dir,.agg (ed u t M x)] w (fun e w'=>e = .returned (.tuple #[.slice none 0 0,.int .i64 1])∧aH [] w w'):=by
  have:=o7 (dir:=dir) h hf hu ht
  rw[hX] at this
  rw[hZ]
  exact this
theorem qE{m:Md}{x:SL}{M:aU}{w:World}{dir u t:Int}{l:List Int}(hX:fN dir u t M=some l)(h:aJ m w (fb M x).toList M)(hf:bB M)(hu:0≤u∧u<256)(ht:0≤t∧t<65536) : Calls Tryz.prog 262 #[.int .i64 dir,.agg (ed u t M x)] w (fun e w'=>∃ v,e = .returned (.tuple #[v,.int .i64 0])∧eG w.heap.size w' v l∧aH [] w w'):=by
  have:=o7 (dir:=dir) h hf hu ht
  rw[hX] at this
  rw[hZ]
  exact this
end Go.Proofs.YtdkhbcefkfgbdaaGreat
namespace Go.Proofs.YtdkhbcefkfgbdaaGreat
def gg (b:List Int) : Nat→Int
  | 0=>0
  | k+1=>(gg b k+b.getD k 0)%256
def rg (b:List Int) : Int:=gg b b.length
def cy (b:List Int) : Int:=(0-rg b)%256
def fK (b:List Int) : Bool:=decide (0<((b.length:Nat) : Int))&&(cy b==0)
theorem qY(b:List Int) : ∀ k,0≤gg b k∧gg b k<256
  | 0=>by unfold gg;omega
  | k+1=>by unfold gg;omega
def el (n:Int) : Int:=if n<10 then 48+n else 55+n
def cZ (c:Int) : Int:=if 48≤c∧c≤57 then c-48 else if 65≤c∧c≤70 then c-55 else -1
def dj:List Int→List Int
  | []=>[]
  | c :: b=>el (c/16) :: el (c%16) :: dj b
def cA:List Int→Option (List Int)
  | []=>some []
  | [_]=>none
  | a :: b :: r=>if cZ a<0∨cZ b<0 then none else (cA r).map fun l=>(16*cZ a+cZ b)%256 :: l
theorem ir{n:Int}(h:0≤n∧n<16) : 48≤el n∧el n≤70:=by unfold el;split<;>omega
theorem oH{n:Int}(h:0≤n∧n<16) : cZ (el n)=n:=by
  unfold el
  split<;>unfold cZ
  · rw[if_pos (by omega)];omega
  · rw[if_neg (by omega),if_pos (by omega)];omega
theorem oY{c:Int}(h:0≤cZ c) : el (cZ c)=c∧cZ c<16:=by
  unfold cZ at h ⊢
  split at h
  · rename_i h1
    rw[if_pos h1]
    unfold el
    rw[if_pos (by omega)]
    omega
  · rename_i h1
    split at h
    · rename_i h2
      rw[if_neg h1,if_pos h2]
      unfold el
      rw[if_neg (by omega)]
      omega
    · omega
theorem ua(c:Int) : cZ c<16∧-1≤cZ c:=by unfold cZ;split;omega;split<;>omega
theorem dT:∀ b:List Int,(dj b).length=2*b.length
  | []=>rfl
  | c :: b=>by simp only[dj,List.length_cons,dT b];omega
theorem qX:∀ a b:List Int,dj (a++b)=dj a++dj b
  | [],b=>rfl
  | c :: a,b=>by simp only[List.cons_append,dj,qX a b]
theorem oq:∀ b:List Int,(∀ x,x∈b→0≤x∧x<256)→cA (dj b)=some b
  | [],_=>rfl
  | c :: b,h=>by
    have hc:=h c (List.mem_cons_self ..)
    have h1:=oH (n:=c/16) (by omega)
    have h2:=oH (n:=c%16) (by omega)
    simp only[dj,cA]
    rw[h1,h2,if_neg (by omega),oq b fun x hx=>h x (List.mem_cons_of_mem _ hx),show(16*(c/16)+c%16)%256=c from by omega]
    rfl
theorem kf:∀ {s x:List Int},cA s=some x→s=dj x∧∀ y,y∈x→0≤y∧y<256
  | [],x,h=>by
    injection h with h
    subst h
    exact⟨rfl,fun y hy=>by cases hy⟩
  | [_],x,h=>by cases h
  | a :: b :: r,x,h=>by
    simp only[cA] at h
    split at h
    · cases h
    · rename_i hd
      cases hr:cA r with
      | none=>rw[hr] at h;cases h
      | some l =>
        rw[hr] at h
        injection h with h
        obtain⟨h1,h2⟩:=kf hr
        have ha:=oY (c:=a) (by omega)
        have hb:=oY (c:=b) (by omega)
        subst h
        refine⟨?_,fun y hy=>?_⟩
        · simp only[dj]
          rw[show(16*cZ a+cZ b)%256/16=cZ a from by omega,show(16*cZ a+cZ b)%256%16=cZ b from by omega,ha.1,hb.1,← h1]
        · rcases List.mem_cons.1 hy with rfl | hy
          · omega
          · exact h2 y hy
theorem to{xs:List Int}{k:Nat}(h:2*k+1<xs.length)(ha:¬ cZ (xs.getD (2*k) 0)<0)(hb:¬ cZ (xs.getD (2*k+1) 0)<0) : cA (xs.drop (2*k))=(cA (xs.drop (2*(k+1)))).map fun l=>[(16*cZ (xs.getD (2*k) 0)+cZ (xs.getD (2*k+1) 0))%256]++l:=by
  have e1:xs.getD (2*k) 0=xs[2*k]:=by rw[List.getD_eq_getElem?_getD,List.getElem?_eq_getElem (by omega)];rfl
  have e2:xs.getD (2*k+1) 0=xs[2*k+1]:=by rw[List.getD_eq_getElem?_getD,List.getElem?_eq_getElem h];rfl
  rw[List.drop_eq_getElem_cons (show 2*k<xs.length by omega),List.drop_eq_getElem_cons h,← e1,← e2]
  simp only[cA]
  rw[if_neg (by omega),show 2*k+1+1=2*(k+1) by omega]
  rfl
theorem wu{xs:List Int}{k:Nat}(h:2*k+1<xs.length)(hd:cZ (xs.getD (2*k) 0)<0∨cZ (xs.getD (2*k+1) 0)<0) : cA (xs.drop (2*k))=none:=by
  have e1:xs.getD (2*k) 0=xs[2*k]:=by rw[List.getD_eq_getElem?_getD,List.getElem?_eq_getElem (by omega)];rfl
  have e2:xs.getD (2*k+1) 0=xs[2*k+1]:=by rw[List.getD_eq_getElem?_getD,List.getElem?_eq_getElem h];rfl
  rw[List.drop_eq_getElem_cons (show 2*k<xs.length by omega),List.drop_eq_getElem_cons h,← e1,← e2]
  simp only[cA]
  rw[if_pos hd]
theorem oR:∀ {xs:List Int},xs.length%2≠0→cA xs=none
  | [],h=>by simp at h
  | [_],_=>rfl
  | a :: b :: r,h=>by
    simp only[cA]
    split
    · rfl
    · rw[oR (by simp only[List.length_cons] at h;omega)]
      rfl
theorem oF{s x:List Int}(h:cA s=some x) : s.length=2*x.length:=by
  obtain⟨h1,_⟩:=kf h
  rw[h1,dT]
theorem vi{xs L:List Int}{k:Nat}(h:cA xs=(cA (xs.drop (2*k))).map fun l=>L++l)(h1:¬ 2*k<xs.length) : cA xs=some L:=by
  rw[List.drop_eq_nil_of_le (by omega)] at h
  rw[h]
  simp[cA]
theorem tb{xs L:List Int}{k:Nat}(h:cA xs=(cA (xs.drop (2*k))).map fun l=>L++l)(h2:2*k+1<xs.length)(ha:¬ cZ (xs.getD (2*k) 0)<0)(hb:¬ cZ (xs.getD (2*k+1) 0)<0) : cA xs=(cA (xs.drop (2*(k+1)))).map fun l=>(L++[(16*cZ (xs.getD (2*k) 0)+cZ (xs.getD (2*k+1) 0))%256])++l:=by
  rw[h,to h2 ha hb]
  cases cA (xs.drop (2*(k+1))) with
  | none=>rfl
  | some l=>simp
theorem wH{xs L:List Int}{k:Nat}(h:cA xs=(cA (xs.drop (2*k))).map fun l=>L++l)(h2:2*k+1<xs.length)(hd:cZ (xs.getD (2*k) 0)<0∨cZ (xs.getD (2*k+1) 0)<0) : cA xs=none:=by
  rw[h,wu h2 hd]
  rfl
theorem oU(b:List Int)(k:Nat)(h:k<b.length) : dj (b.take (k+1))=(dj (b.take k)++[el (b.getD k 0/16)])++[el (b.getD k 0%16)]:=by
  rw[List.take_succ_eq_append_getElem h,qX,List.getD_eq_getElem?_getD,List.getElem?_eq_getElem h]
  simp[dj]
open Go.RowKit
abbrev fj (xs:List Int) : Prop:=∀ x,x∈xs→0≤x∧x<256
theorem pk{x:Int}(h:0≤x∧x<256) : ((UInt8.ofNat x.toNat).toNat:Int)=x:=by
  simp only[UInt8.toNat_ofNat']
  omega
theorem nE{xs:List Int}{j:Nat}(hj:j<xs.length)(hs:j<(strOfNums xs).size) : (strOfNums xs)[j]=UInt8.ofNat (xs.getD j 0).toNat:=by
  show(strOfNums xs).data[j]=_
  simp[strOfNums,List.getD_eq_getElem?_getD,List.getElem?_eq_getElem hj]
theorem qS{P:Program}{w:World}{ev:Operand→Value}{o:Oper}{x ix:Operand}{t:TypeId}{xs:List Int}{k:IntKind}{i:Int}(j:Nat)(ho:o.op = .index t x ix)(ht:P.underlying t=some .string)(hx:ev x = .string (strOfNums xs))(hi:ev ix = .int k i)(hr:fj xs)(hj:i=(j:Int))(hlt:j<xs.length) : (execOp ev o).run P w = .ok (.value (.int .u8 (xs.getD j 0))) w:=by
  subst hj
  have hs:j<(strOfNums xs).size:=by rw[strOfNums_size];exact hlt
  have h:=run_index_string (P:=P) w t (strOfNums xs) k (j:Int) ht
  rw[dif_pos (by omega)] at h
  have hg:xs.getD j 0∈xs:=by
    rw[List.getD_eq_getElem?_getD,List.getElem?_eq_getElem hlt]
    exact List.getElem_mem hlt
  unfold execOp
  simp only[ho,hx,hi,Sem.run_bind,h,Result.andThen,Sem.run_pure]
  have e:((strOfNums xs)[((j:Nat) : Int).toNat]'(by simpa using hs))=UInt8.ofNat (xs.getD j 0).toNat:=by
    simp only[Int.toNat_natCast]
    exact nE hlt hs
  rw[e,pk (hr _ hg)]
theorem nG(xs ys:List Int) : strOfNums xs++strOfNums ys=strOfNums (xs++ys):=by
  apply ByteArray.ext
  simp[strOfNums,ByteArray.data_append]
theorem jg{P:Program}{w:World}{ev:Operand→Value}{o:Oper}{x y:Operand}{t t':TypeId}{a b:ByteArray}{xs ys:List Int}(ho:o.op = .binOp .add t x y t')(hx:ev x = .string a)(hy:ev y = .string b)(ha:a=strOfNums xs)(hb:b=strOfNums ys)(hl:xs.length+ys.length≤1048576) : (execOp ev o).run P w = .ok (.value (.string (strOfNums (xs++ys)))) w:=by
  subst ha hb
  have hg:eqGuard .add t x y (.string (strOfNums xs)) (.string (strOfNums ys))=pure ():=rfl
  unfold execOp
  simp only[ho,hx,hy,hg,Sem.run_bind,Sem.run_pure,Result.andThen]
  have h:(binOp .add t (.string (strOfNums xs)) (.string (strOfNums ys))).run P w = .ok (.string (strOfNums (xs++ys))) w:=by
    show(Op.stringOp .add _ _).run P w=_
    unfold Op.stringOp
    rw[← nG]
    have:¬ ((((strOfNums xs).size+(strOfNums ys).size:Nat) : Int) > IntKind.i64.max):=by
      rw[strOfNums_size,strOfNums_size]
      show ¬ (((xs.length+ys.length:Nat) : Int) > 9223372036854775807)
      omega
    dsimp only
    rw[if_neg this]
    rfl
  rw[h]
theorem gF{xs ys:List Int}(h:fj xs)(k:fj ys) : fj (xs++ys):=fun x hx=>by
  rcases List.mem_append.1 hx with h1|h1
  · exact h x h1
  · exact k x h1
def hH (base:Nat)(w:World)(v:Value)(xs:List Int) : Prop:=∃ g cap cur n,v = .slice (some ⟨g,0,none⟩) xs.length cap∧base≤g∧w.heap[g]? = some (.cells cur 5 (n,n+1))∧xs.length≤n∧xs.length≤cap∧cap≤maxLen∧cur.toList.take xs.length=xs.map (Value.int .u8)∧fj xs
theorem hH.rd{base:Nat}{w:World}{v:Value}{xs:List Int}(h:hH base w v xs) : aZ true w v xs:=by
  obtain⟨g,cap,cur,n,rfl,hb,hh,h1,h2,h3,h4,h5⟩:=h
  refine⟨_,_,rfl,h2,h3,(fun hA=>by cases hA),fun hp=>⟨g,0,cur,_,_,rfl,hh,(fun _=>⟨rfl,Nat.zero_le _⟩),fun j x hj=>?_⟩⟩
  refine⟨[.int .u8 x],rfl,⟨rfl,h5 x (List.mem_of_getElem? hj)⟩,fun i u hi=>?_⟩
  cases i with
  | succ i=>simp at hi
  | zero =>
    have hi:Value.int .u8 x=u:=by simpa using hi
    subst hi
    have h6:(xs.map (Value.int .u8))[j]? = some (.int .u8 x):=by rw[List.getElem?_map,hj];rfl
    rw[← h4,List.getElem?_take] at h6
    split at h6
    · simpa using h6
    · cases h6
theorem hH.ge{base g m c:Nat}{w:World}{xs:List Int}(h:hH base w (.slice (some ⟨g,0,none⟩) m c) xs) : base≤g:=by
  obtain⟨g',cap,cur,n,hv,hb,_⟩:=h
  injection hv with e1 _ _
  injection e1 with e1
  injection e1 with e1 _
  rw[e1]
  exact hb
theorem hH.shape{base:Nat}{w:World}{v:Value}{xs:List Int}(h:hH base w v xs) : ∃ g cp,v = .slice (some ⟨g,0,none⟩) xs.length cp:=by
  obtain⟨g,cap,cur,n,hv,_⟩:=h
  exact⟨g,cap,hv⟩
theorem rb{P:Program}{w:World}{src dst e:TypeId}{xs:List Int}(hs:P.underlying src=some .string)(hd:P.underlying dst=some (.slice e))(he:P.underlying e=some (.int .u8))(hte:e=5)(hr:fj xs)(hl:xs.length≤1048576) :
    ∃ cp w',(convert src dst (.string (strOfNums xs))).run P w = .ok (.slice (some ⟨w.heap.size,0,none⟩) xs.length cp) w'∧hH w.heap.size w' (.slice (some ⟨w.heap.size,0,none⟩) xs.length cp) xs∧aH [] w w':=by
  subst hte
  have h:=Lib.run_convert_string_bytes (P:=P) w src dst _ (strOfNums xs) hs hd he
  rw[strOfNums_size] at h
  refine⟨_,_,h,⟨_,_,_,_,rfl,Nat.le_refl _,Lib.bytesWorld_at_new w _ (strOfNums xs),?_,?_,?_,?_,hr⟩,?_⟩
  · simp[Lib.bytesCells,strOfNums]
  · exact grownCap_ge ..
  · exact grownCap_le_maxLen _ _ _ _ (by unfold maxLen;omega)
  · simp only[Lib.bytesCells]
    rw[Array.toList_append,List.take_append_of_le_length (by simp[strOfNums])]
    rw[List.take_of_length_le (by simp[strOfNums])]
    simp only[strOfNums,Array.toList_map,List.map_map]
    apply List.map_congr_left
    intro x hx
    show Value.int .u8 _=_
    rw[pk (hr x hx)]
  · exact⟨rfl,rfl,rfl,by rw[Lib.bytesWorld_size];omega,fun k hk _=>Lib.bytesWorld_at_old w _ _ k hk⟩
section
variable {P:Program}{n:Nat}{D:List Deferred}{F:Fr}{w:World}{K:Fr→World→Prop}{Q:Exit→Act→World→Prop}{d:Option Tmp}{t:TypeId}{s:String}{af:Array Edge}{gu:Option (Nat × Bool)}
theorem zH{a:Act}{o:Oper}{N:Option Tmp}{K:Act→World→Prop}{w1:World}(v:Value)(hN:o.dst=N)(hr:(execOp a.eval o).run P w = .ok (.value v) w1)(h:K (a.put N v) w1) : OW P o a w K Q:=by
  refine OW.mk ?_
  subst hN
  unfold Oper.wp
  rw[hr]
  exact h
theorem Eg{src dst:TypeId}{x:Operand}{xs:List Int}(hs:P.underlying src=some .string)(hd:P.underlying dst=some (.slice 5))(he:P.underlying 5=some (.int .u8))(hr:fj xs)(hl:xs.length≤1048576)
    (h:∀ A cp w',hH w.heap.size w' (.slice A xs.length cp) xs→aH [] w w'→K (pt d (.slice A xs.length cp) F) w') (hx:fk F x=some (.string (strOfNums xs)):=by kernel_rfl) (hk:gH n d=true:=by kernel_rfl) : OG P ⟨d,.convert src dst x,t,s,af,gu⟩ n D F w K Q:=by
  obtain⟨cp,w',h1,h2,h3⟩:=rb (P:=P) (w:=w) hs hd he rfl hr hl
  refine⟨fun a ha K' hK=>zH _ rfl (w1:=w') ?_ (hK _ _ _ (h _ _ _ h2 h3) (ha.put hk))⟩
  have hx':=ha.ev hx
  unfold execOp
  simp only[hx',Sem.run_bind,h1,Result.andThen,Sem.run_pure]
end
open Go.RowKit
theorem zi{w:World}{g:Nat}{c s:Int}(hg:w.heap[g]? = some (.cells #[vB s] 5 (0,0))) : Calls Tryz.prog 183 #[vB c,vP g 0] w (fun e w'=>e = .returned (.tuple #[])∧w'.heap[g]? = some (.cells #[vB ((s+c)%256)] 5 (0,0))∧aH [g] w w'):=by
 exact en 6 Tryz.func183 rfl<|go<|aD hg 0<|Pl 2<|L0<|ci hg 0 #[vB ((s+c)%256)] fun d a b=>nl<|rm (.tuple #[])<|⟨rfl,a,b⟩
theorem uC{m:Md}{A:Option Addr}{cp:Nat}{b:List Int}{w0 w:World}{g:Nat}(hu0:aH [] w0 w)(hg0:w0.heap.size≤g)(hsl:aZ m w0 (.slice A b.length cp) b)(hg:w.heap[g]? = some (.cells #[vB (gg b 0)] 5 (0,0))) :
    Calls Tryz.prog 182 #[.slice A b.length cp,.func (.func 183) #[] #[vP g 0]] w (fun e w'=>e = .returned (.tuple #[])∧w'.heap[g]? = some (.cells #[vB (rg b)] 5 (0,0))∧aH [] w0 w'∧w.heap.size≤w'.heap.size):=by
 have hln:=aS.len hsl
 refine en 16 Tryz.func182 rfl<|aE 3<|bk<|?_
 refine jf (fun x=>[(1,.func (.func 183) #[] #[vP g 0]),(6,.slice A b.length cp),(7,vI ((b.length:Nat) : Int)),(8,vI ((x:Nat) : Int))]) (fun(x:Nat) w'=>aH [] w0 w'∧w.heap.size≤w'.heap.size∧w'.heap[g]? = some (.cells #[vB (gg b x)] 5 (0,0))∧(x≤b.length)) (fun x=>b.length-x) 0 ⟨hu0,lr,hg,(by(try dsimp only);omega)⟩ ?_
 rintro k j ⟨a,f,l,n⟩
 refine je [(1,.func (.func 183) #[] #[vP g 0]),(6,.slice A b.length cp),(7,vI ((b.length:Nat) : Int)),(8,vI ((k:Nat) : Int))] ?_
 have h:j.heap[g]? = some (.cells #[vB (gg b k)] 5 (0,0)):=l
 have y:k≤b.length:=n
 refine aE 1<|sq<|cb ((decide (((k:Nat) : Int)<((b.length:Nat) : Int)))) (fun d=>?_) (fun d=>?_)
 have o:=of_decide_eq_true d
 refine bj<|sq<|bk<|sg<|?_
 refine ft (aZ.at_ (aZ.old hsl a) k (by omega)) fun q r s t z=>L0<|kY b.length k s (by omega)<|L0<|eu (p:=⟨q,r+k,none⟩) (v:=vB (b.getD k 0)) t<|ai 1<|go<|Pl 2<|L0<|i3 #[] #[vP g 0] (args:=#[vB (b.getD k 0),vP g 0])<|m2 (zi (c:=(b.getD k 0)) h) fun B u i=>nl<|bn<|tn<|go<|bq (((k:Nat) : Int)+1)<|?_
 refine Pl 1<|nl<|?_
 exact gI (k+1) ⟨(ud a i hg0),(le f i.size),u,(by(try dsimp only);omega)⟩ (by omega)
 have o:=of_decide_eq_false d
 refine xt<|tx<|tx<|bx<|rm (.tuple #[])<|?_
 have hk:k=b.length:=by omega
 subst hk
 exact⟨rfl,h,a,f⟩
theorem sF{m:Md}{A:Option Addr}{cp:Nat}{b:List Int}{w:World}(hsl:aZ m w (.slice A b.length cp) b) :
    Calls Tryz.prog 116 #[.slice A b.length cp] w (cl (vB (cy b)) w):=by
 refine en 9 Tryz.func116 rfl<|al 1<|ng<|aK #[vB 0] fun h i a c d=>L0<|ci c 0 #[vB 0] fun j eN e=>aM 2<|?_
 exact ay<|m3 (uC (ud d e a) a hsl eN) fun k f g l=>ng<|aD f 0<|ai 2<|rt<|rr (vB ((0-(rg b))%256))<|⟨rfl,g⟩
theorem vN{m:Md}{v:Value}{b:List Int}{w:World}(h:aZ m w v b) : Calls Tryz.prog 116 #[v] w (cl (.int .u8 (cy b)) w):=by
  obtain⟨A,cp,rfl,_,_⟩:=h.shape
  exact sF h
open Go.RowKit
theorem ro:∃ j,Tryz.prog.info? 251=some j∧j.size=2:=Option.map_eq_some_iff.1 (show(Tryz.prog.info? 251).map (·.size)=some 2 by kernel_rfl)
theorem p5(b:Nat)(w:World)(h0:w.cell? ⟨b,0,none⟩=some (.pointer none))(hsh:w.shape? b=some (251,2))(hfz:w.frozen? ⟨b,0,none⟩=false) :
    Calls Tryz.prog 270 #[.pointer (some ⟨b,0,none⟩)] w fun e w'=>e = .returned (.tuple #[])∧w'=w.setCell ⟨b,0,none⟩ (.pointer (some ⟨b,0,none⟩)):=by
  obtain⟨j,hj,hjs⟩:=ro
  go_enter Tryz.func270,Tryz.ntmps270
  go_wp2
  rw[Lib.run_to_unsafe w ⟨b,0,none⟩ Tryz.underlying249 Tryz.underlying255 hj (by rw[hjs];decide) hsh (Nat.zero_lt_succ 1)]
  simp only[Result.andThen]
  rw[Oper.upon_value]
  go_wp2
  rw[run_callFunc_extern Tryz.func271 (by kernel_rfl) (by kernel_rfl) (by kernel_rfl) (e:=Extern.AbiNoEscape.same) (by kernel_rfl)]
  rw[Lib.run_noEscape]
  simp only[Result.andThen]
  rw[Oper.upon_value]
  go_wp2
  rw[Lib.run_from_unsafe w ⟨b,0,none⟩ Tryz.underlying255 Tryz.underlying249 hj hsh (by kernel_rfl)]
  simp only[Result.andThen]
  rw[Oper.upon_value]
  go_wp2
  go_end0
  exact⟨rfl,rfl⟩
theorem qU(b:Nat)(w:World)(h0:w.cell? ⟨b,0,none⟩=some (.pointer (some ⟨b,0,none⟩))) :
    Calls Tryz.prog 270 #[.pointer (some ⟨b,0,none⟩)] w fun e w'=>e = .returned (.tuple #[])∧w'=w:=by
  obtain⟨j,hj,_⟩:=ro
  go_enter Tryz.func270,Tryz.ntmps270
  go_wp2
  rw[Lib.run_neq_ptr_same w _ Tryz.underlying249 hj]
  go_wp2
  go_end0
  exact⟨rfl,rfl⟩
theorem tq{w:World}{b:Nat}{p v:Value}(hp:p = .pointer none∨p = .pointer (some ⟨b,0,none⟩))(hb:w.heap[b]? = some (.cells #[p,v] 251 (0,0))) :
    Calls Tryz.prog 270 #[.pointer (some ⟨b,0,none⟩)] w fun e w'=>e = .returned (.tuple #[])∧w'.heap[b]? = some (.cells #[.pointer (some ⟨b,0,none⟩),v] 251 (0,0))∧aH [b] w w':=by
  have h0:w.cell? ⟨b,0,none⟩=some p:=(bF hb 0).trans rfl
  rcases hp with rfl|rfl
  · refine(p5 b w h0 (by simp[World.shape?,hb]) (fC hb 0)).mono ?_
    rintro e w' ⟨rfl,rfl⟩
    exact⟨rfl,(gS hb 0 _).trans rfl,(aH.refl _ _).setCell (Or.inl (by simp)) _⟩
  · refine(qU b w h0).mono ?_
    rintro e w' ⟨rfl,rfl⟩
    exact⟨rfl,hb,aH.refl _ _⟩
def qq:Array Value:=#[.int .u8 48,.int .u8 49,.int .u8 50,.int .u8 51,.int .u8 52,.int .u8 53,.int .u8 54,.int .u8 55,.int .u8 56,.int .u8 57,.int .u8 65,.int .u8 66,.int .u8 67,.int .u8 68,.int .u8 69,.int .u8 70]
theorem Ba:∀ {j:Nat},j<16→qq[j]? = some (.int .u8 (el (j:Int)))
  | 0,_ | 1,_ | 2,_ | 3,_ | 4,_ | 5,_ | 6,_ | 7,_ | 8,_ | 9,_ | 10,_ | 11,_ | 12,_ | 13,_ | 14,_ | 15,_=>rfl
  | n+16,h=>by omega
theorem rT{i:Int}(h:0≤i∧i<16) : qq[i.toNat]? = some (.int .u8 (el i)):=by
  rw[Ba (by omega),Int.toNat_of_nonneg h.1]
def Bg (B b:Nat)(L:List Int)(w:World) : Prop:=∃ p A cp,w.heap[b]? = some (.cells #[p,.slice A L.length cp] 251 (0,0))∧(p = .pointer none∨p = .pointer (some ⟨b,0,none⟩))∧eG B w (.slice A L.length cp) L
theorem Bg.new{B b:Nat}{w:World}(hb:w.heap[b]? = some (.cells #[.pointer none,.slice none 0 0] 251 (0,0))) : Bg B b [] w:=⟨_,_,_,hb,.inl rfl,b6.nil ..⟩
def AE:Go.Shelf.Ren:=⟨fun | 169=>269 | n=>n,fun | 70=>249 | 9=>9 | 0=>0 | 72=>251 | 37=>27 | 127=>240 | 3=>3 | 5=>5 | n=>n,fun | n=>n⟩
theorem CQ:Go.Proofs.Lays.n169 Tryz.prog AE:={
  mixed:=by kernel_rfl
  f169:=Tryz.func269.trans (congrArg some (by kernel_rfl))
  t0:=Tryz.underlying0
  a0:=Tryz.isAgg0
  z0:=Tryz.sizeOf0
  v0:=Tryz.zeroValue0
  t3:=Tryz.underlying3
  a3:=Tryz.isAgg3
  z3:=Tryz.sizeOf3
  v3:=Tryz.zeroValue3
  t9:=Tryz.underlying9
  a9:=Tryz.isAgg9
  z9:=Tryz.sizeOf9
  v9:=Tryz.zeroValue9
  t37:=Tryz.underlying27
  a37:=Tryz.isAgg27
  z37:=Tryz.sizeOf27
  v37:=Tryz.zeroValue27
  t70:=Tryz.underlying249
  a70:=Tryz.isAgg249
  z70:=Tryz.sizeOf249
  v70:=Tryz.zeroValue249
  t72:=Tryz.underlying251
  a72:=Tryz.isAgg251
  z72:=Tryz.sizeOf251
  v72:=Tryz.zeroValue251
  t127:=Tryz.underlying240
  a127:=Tryz.isAgg240
  z127:=Tryz.sizeOf240
  v127:=Tryz.zeroValue240 }
theorem Co:Builder.Extra Tryz.prog AE:={
  sizeBuilder:=by kernel_rfl
  liesBuilder:=by kernel_rfl
  t5:=Tryz.underlying5
  a5:=Tryz.isAgg5
  z5:=Tryz.sizeOf5
  v5:=Tryz.zeroValue5
  infoByte:=by kernel_rfl
  cellsByte:=by kernel_rfl
  sizeByte:=by kernel_rfl
  neB5:=by decide }
theorem vU{L:List Int}(h:fj L) : Lib.byteCells (L.map fun n=>UInt8.ofNat n.toNat)=L.map (Value.int .u8):=by
  unfold Lib.byteCells
  rw[List.map_map]
  apply List.map_congr_left
  intro x hx
  show Value.int .u8 _=_
  rw[pk (h x hx)]
theorem so{w0 w:World}{b:Nat}{L:List Int}(hu:aH [] w0 w)(hg:w0.heap.size≤b)(h:Bg w0.heap.size b L w)(hr:fj L) :
    Calls Tryz.prog 269 #[.pointer (some ⟨b,0,none⟩)] w fun e w'=>e = .returned (.string (strOfNums L))∧aH [] w0 w':=by
  obtain⟨p,A,cp,hb,hp,ho⟩:=h
  have h1:=fw (enc:=Value.int .u8) (fun _ _ _ h=>h.1) ho
  have h2:Lib.BuilderAt 251 5 w0.heap.size b p (Lib.byteCells (L.map fun n=>UInt8.ofNat n.toNat)) w:=by
    rw[vU hr]
    refine⟨hg,_,hb,by rw[List.length_map];exact h1,fun hq=>?_⟩
    rcases h1.2 with⟨hv,_⟩|⟨g',cap,cur,hv,_,hh,_⟩
    · rw[hv] at hq;cases hq
    · rw[hv] at hq
      have e:g'=b:=by simpa [Value.ownBlock] using hq
      subst e
      rw[hb] at hh
      injection hh with hh
      injection hh with _ h5 _
      exact absurd h5 (by decide)
  have h3:Lib.IsBuilder (AE.t 72) (AE.t 5) w0.heap.size b (Lib.byteCells (L.map fun n=>UInt8.ofNat n.toNat)) w:=by
    rcases hp with rfl|rfl
    · exact Or.inl h2
    · exact Or.inr h2
  refine(Any.Builder_String_any CQ Co _ _ _ _ h3 hu.size).mono ?_
  rintro e w' ⟨rfl,hbel⟩
  exact⟨rfl,hu.os▸hbel.os,hu.tape▸hbel.tape,hu.output▸hbel.output,Nat.le_trans hu.size hbel.size,fun k hk hn=>(hbel.block k hk).trans (hu.block k hk hn)⟩
open Go.RowKit
theorem sn{w:World}:Calls Tryz.prog 181 #[] w (cl (.agg qq) w):=by
 refine en 2 Tryz.func181 rfl<|sg<|aK #[vB 0,vB 0,vB 0,vB 0,vB 0,vB 0,vB 0,vB 0,vB 0,vB 0,vB 0,vB 0,vB 0,vB 0,vB 0,vB 0] fun e f a b c=>aM 1<|aG b #[vB 48,vB 49,vB 50,vB 51,vB 52,vB 53,vB 54,vB 55,vB 56,vB 57,vB 65,vB 66,vB 67,vB 68,vB 69,vB 70] fun g eN d=>qG<|By eN<|?_
 exact⟨rfl,(ud c d a)⟩
theorem od{w0 w:World}{b gd:Nat}{L:List Int}{c:Int}(hu0:aH [] w0 w)(hg0:w0.heap.size≤b)(hg1:w0.heap.size≤gd)(h:Bg w0.heap.size b L w)(hd:w.heap[gd]? = some (.cells qq 204 (0,0)))(hne:gd≠b)(hc:0≤c∧c<256)(hl:L.length≤1048576) :
    Calls Tryz.prog 268 #[vP b 0,vB c] w (fun e w'=>e = .returned .nilIface∧Bg w0.heap.size b (L++[c]) w'∧w'.heap[gd]? = some (.cells qq 204 (0,0))∧aH [] w0 w'∧w.heap.size≤w'.heap.size):=by
 obtain⟨p,A,cp,hb,hp,ho⟩:=h
 refine en 17 Tryz.func268 rfl<|al 1<|aM 1<|ay<|m2 (tq hp hb) fun u a d=>aM 4<|aD a 1<|Pl 1<|L0<|cY (m:=1) (e:=5) #[vB c] fun v y r eN f=>?_
 have s:=cG r (xs:=[c]) (by as_aux_lemma=>kernel_rfl) (am (by omega) aR) (by(try simp only[List.length_cons,List.length_nil]);omega) eN
 have i:=aI d f
 refine L0<|bQ b9 (xs:=L) (ys:=([c])) (vB 0) 1 (av ho i (fun x hx=>(aa (fun e=>(dG hb ho (by decide)) (e▸hx)) aF)) (fun _ _ h=>h)) (s).rd (by(try simp only[bT,aC]);omega) (le (le hu0.size d.size) f.size) fun j k z l n=>Pl 2<|?_
 have o:=aH.blk (ut (aH.mono (S':=(ob A++[])) f aA) n (ap il aA)) (bA (dG a (av ho d (fun x hx=>(aa (fun e=>(dG hb ho (by decide)) (e▸hx)) aF)) (fun _ _ h=>h)) (by decide)) aF) a
 refine L0<|ci o 1 #[vP b 0,.slice j ((L++[c]).length) k] fun B t q=>cE 1<|rt<|rr (.nilIface)<|?_
 have g:=ut (aH.mono (S':=(b :: (ob A++[]))) i (ac im aA)) (u1 (aH.mono (S':=(ob A++(b :: []))) n (ap il aA)) q im) (ap il (ac im aA))
 exact⟨rfl,⟨_,j,k,t,.inr rfl,(av l q (fun x hx=>(aa (fun e=>(dG o l (by decide)) (e▸hx)) aF)) (fun _ _ h=>h))⟩,(aH.blk g (aa hne (bA (dG hd ho (by decide)) aF)) hd),(ut hu0 g (ac (nr hg0) (ap (aT ho lr) aA))),g.size⟩
open Go.RowKit
theorem jF{b:List Int}(h:fj b) : fj (dj b):=by
  induction b with
  | nil=>exact h
  | cons c b ih =>
    have hc:=h c (List.mem_cons_self ..)
    have h1:=ir (n:=c/16) (by omega)
    have h2:=ir (n:=c%16) (by omega)
    intro x hx
    rcases List.mem_cons.1 hx with rfl|hx
    · omega
    rcases List.mem_cons.1 hx with rfl|hx
    · omega
    · exact ih (fun y hy=>h y (List.mem_cons_of_mem _ hy)) x hx
theorem uL{m:Md}{A:Option Addr}{cp:Nat}{b:List Int}{w:World}(hsl:aZ m w (.slice A b.length cp) b)(hl:b.length≤1024) :
    Calls Tryz.prog 267 #[.slice A b.length cp] w (cl (.string (strOfNums (dj b))) w):=by
 have hb:=aZ.range hsl
 refine en 26 Tryz.func267 rfl<|al 1<|ng<|aK #[.pointer none,nS] fun d y g l h=>ng<|ay<|m1 (@sn y) fun X e=>?_
 refine aK #[vB 0,vB 0,vB 0,vB 0,vB 0,vB 0,vB 0,vB 0,vB 0,vB 0,vB 0,vB 0,vB 0,vB 0,vB 0,vB 0] fun a Y f z B=>aG (hz:=(by kernel_rfl)) (hv:=rfl) (h1:=(by kernel_rfl)) z (qq) fun C D E=>nt<|sq<|aE 3<|bk<|?_
 have o:=aI e (ud B E f)
 have q:=nb (aq l) e.size f
 refine jf (fun x=>[(2,.string ⟨#[]⟩),(3,vP d 0),(4,vP a 0),(8,.slice A b.length cp),(9,vI ((b.length:Nat) : Int)),(10,vI ((x:Nat) : Int))]) (fun(x:Nat) w'=>aH [] w w'∧C.heap.size≤w'.heap.size∧Bg w.heap.size d (dj (b.take x)) w'∧w'.heap[a]? = some (.cells qq 204 (0,0))∧(x≤b.length)) (fun x=>b.length-x) 0 ⟨(aI h o),lr,(by simpa [dj] using Bg.new (ub o l)),D,(by(try dsimp only);omega)⟩ ?_
 rintro k r ⟨i,F,G,H,I⟩
 refine je [(2,.string ⟨#[]⟩),(3,vP d 0),(4,vP a 0),(8,.slice A b.length cp),(9,vI ((b.length:Nat) : Int)),(10,vI ((k:Nat) : Int))] ?_
 have s:Bg w.heap.size d (dj (b.take k)) r:=G
 have t:r.heap[a]? = some (.cells qq 204 (0,0)):=H
 have Z:k≤b.length:=I
 refine aE 1<|sq<|cb ((decide (((k:Nat) : Int)<((b.length:Nat) : Int)))) (fun j=>?_) (fun j=>?_)
 have J:=of_decide_eq_true j
 refine bj<|sq<|bk<|sg<|?_
 refine ft (aZ.at_ (aZ.old hsl i) k (by omega)) fun K L M N a0=>L0<|kY b.length k M (by omega)<|L0<|eu (p:=⟨K,L+k,none⟩) (v:=vB (b.getD k 0)) N<|Pl 1<|aM 1<|L0<|Oe (vB (Int.fdiv (b.getD k 0) (2 ^ 4))) (vB ((b.getD k 0)/16)) (congrArg (Value.int .u8) (m0 _ _ _ (by decide)))<|L0<|Dm (b:=a) (off:=0) 16 ((((b.getD k 0)/16)).toNat) ((b.getD k 0)/16) (by omega) (by omega)<|?_
 have a1:=ir (n:=((b.getD k 0)/16)) (by omega)
 refine L0<|eu (p:=⟨a,0+(((b.getD k 0)/16)).toNat,none⟩) (v:=vB (el (((b.getD k 0)/16)))) (ae t (by rw[Nat.zero_add,rT (by omega)]))<|ay<|m4 (od (c:=(el ((b.getD k 0)/16))) i g (Nat.le_trans (le h.size e.size) f) s t (Ne.symm q) (by omega) (by rw[dT,List.length_take];omega)) fun a2 O u P Q=>nt<|go<|Pl 1<|L0<|Oe (vB (Int.tmod (b.getD k 0) 16)) (vB ((b.getD k 0)%16)) (congrArg (Value.int .u8) (Int.tmod_eq_emod_of_nonneg (by omega)))<|L0<|Dm (b:=a) (off:=0) 16 ((((b.getD k 0)%16)).toNat) ((b.getD k 0)%16) (by omega) (by omega)<|?_
 have a3:=ir (n:=((b.getD k 0)%16)) (by omega)
 exact L0<|eu (p:=⟨a,0+(((b.getD k 0)%16)).toNat,none⟩) (v:=vB (el (((b.getD k 0)%16)))) (ae u (by rw[Nat.zero_add,rT (by omega)]))<|ay<|m4 (od (c:=(el ((b.getD k 0)%16))) P g (Nat.le_trans (le h.size e.size) f) O u (Ne.symm q) (by omega) (by rw[List.length_append,dT,List.length_take];simp only[List.length_cons,List.length_nil];omega)) fun a4 R S T U=>nl<|bn<|tn<|go<|bq (((k:Nat) : Int)+1)<|Pl 1<|nl<|gI (k+1) ⟨T,(le (le F Q) U),(by rw[oU _ _ (by omega)];exact R),S,(by(try dsimp only);omega)⟩ (by omega)
 have J:=of_decide_eq_false j
 refine xt<|tx<|tx<|bx<|tn<|sg<|?_
 have V:k=b.length:=by omega
 have hbl:=s
 rw[V,List.take_length] at hbl
 have hbr:fj (dj b):=jF hb
 refine ay<|m1 (so i g hbl hbr) fun a5 W=>ai 1<|rt<|rr (.string (strOfNums (dj b)))<|?_
 exact⟨rfl,W⟩
theorem wO{m:Md}{v:Value}{b:List Int}{w:World}(h:aZ m w v b)(hl:b.length≤1024) : Calls Tryz.prog 267 #[v] w (cl (.string (strOfNums (dj b))) w):=by
  obtain⟨A,cp,rfl,_,_⟩:=h.shape
  exact uL h hl
def iz (xs:List Int)(w:World)(e:Ending)(w':World) : Prop:=match cA xs with
  | some l=>∃ v,e = .returned (.tuple #[v,.int .i64 0])∧eG w.heap.size w' v l∧aH [] w w'
  | none=>e = .returned (.tuple #[.slice none 0 0,.int .i64 11])∧aH [] w w'
theorem B7{xs l:List Int}{w w':World}{e:Ending}(h:cA xs=some l)(k:∃ v,e = .returned (.tuple #[v,.int .i64 0])∧eG w.heap.size w' v l∧aH [] w w') : iz xs w e w':=by
  unfold iz
  rw[h]
  exact k
theorem ur{xs:List Int}{w w':World}{e:Ending}(h:cA xs=none)(k:e = .returned (.tuple #[.slice none 0 0,.int .i64 11])∧aH [] w w') : iz xs w e w':=by
  unfold iz
  rw[h]
  exact k
open Go.RowKit
def ml (xs:List Int) : Bool:=decide (2≤((xs.length:Nat) : Int))&&decide (xs.drop (((xs.length:Nat) : Int)-2).toNat=[13,10])
def lN (b:List Int) : Option (List Int):=if b.getD 0 0=58∧ml (b.drop 1)=true then some ((b.drop 1).take (b.length-3)) else none
theorem rj{xs:List Int}(h:ml xs=true) : 2≤xs.length:=by
  unfold ml at h
  simp only[Bool.and_eq_true,decide_eq_true_eq] at h
  omega
theorem oG{b s:List Int}(h:lN b=some s) : b.getD 0 0=58∧ml (b.drop 1)=true∧s=(b.drop 1).take (b.length-3)∧3≤b.length:=by
  unfold lN at h
  split at h
  · rename_i hc
    injection h with h
    have:=rj hc.2
    rw[List.length_drop] at this
    exact⟨hc.1,hc.2,h.symm,by omega⟩
  · cases h
theorem yT{b s:List Int}(h:lN b=some s) : s.length=b.length-3:=by
  obtain⟨_,_,rfl,h3⟩:=oG h
  rw[List.length_take,List.length_drop]
  omega
theorem Bu{b:List Int}(h:b.getD 0 0=58)(k:ml (b.drop 1)=true) : lN b=some ((b.drop 1).take (b.length-3)):=if_pos ⟨h,k⟩
open Go.RowKit
theorem xG{b l:List Int}{w:World}(h:cA b=some l)(e:Ending)(w':World)(k:iz b w e w') : ∃ v,e = .returned (.tuple #[v,.int .i64 0])∧eG w.heap.size w' v l∧aH [] w w':=by
  unfold iz at k
  rw[h] at k
  exact k
theorem wS{b:List Int}{w:World}(h:cA b=none)(e:Ending)(w':World)(k:iz b w e w') : e = .returned (.tuple #[.slice none 0 0,.int .i64 11])∧aH [] w w':=by
  unfold iz at k
  rw[h] at k
  exact k
def fh (x:List Int) : List Int:=(x.take (x.length-1)).drop 1
theorem sx(x:List Int) : fh x=(x.take (((x.length:Nat) : Int)-1).toNat).drop 1:=by
  unfold fh
  rw[show(((x.length:Nat) : Int)-1).toNat=x.length-1 from by omega]
def kV (dir:Int)(b:List Int) : dt × Int :=
  if dir != 0&&dir != 1 then (dt.zero,1)
  else if decide ((b.length:Int)<9) then (dt.zero,2)
  else if decide (513<(b.length:Int)) then (dt.zero,3)
  else match lN b with
    | none=>(dt.zero,12)
    | some s=>match cA s with
      | none=>(dt.zero,11)
      | some x=>if !(fK x) then (dt.zero,10) else cw (x.getD 0 0) 0 (cF dir (fh x))
open Go.RowKit
def n9 (u:Int)(l:List Int) : List Int:=([58]++dj (([u]++l)++[cy ([u]++l)]))++[13,10]
def fI (dir u t:Int)(M:aU) : Option (List Int) :=
  match d7 dir M with
  | none=>none
  | some l=>if t != 0 then none else some (n9 u l)
def m6 (res:Option (List Int))(w:World)(e:Ending)(w':World) : Prop :=
  match res with
  | some l=>∃ v,e = .returned (.tuple #[v,.int .i64 0])∧hH w.heap.size w' v l∧aH [] w w'
  | none=>e = .returned (.tuple #[.slice none 0 0,.int .i64 1])∧aH [] w w'
theorem tD{x y:Option (List Int)}(h:x=y){w:World}{e:Ending}{w':World}(k:m6 y w e w') : m6 x w e w':=by rw[h];exact k
theorem hH.weaken{base base':Nat}{w:World}{v:Value}{xs:List Int}(h:hH base w v xs)(k:base'≤base) : hH base' w v xs:=by
  obtain⟨g,cap,cur,n,h1,h2,h3⟩:=h
  exact⟨g,cap,cur,n,h1,Nat.le_trans k h2,h3⟩
theorem js(b:List Int) : 0≤cy b∧cy b<256:=by unfold cy;omega
theorem oV{m:Md}{cs:Array Value}{M:aU}{w:World}{dir u t:Int}(h:aJ m w cs.toList M)(hf:bB M)(hu:B8 u)(ht:eN t) : Calls Tryz.prog 266 #[vI dir,.agg (#[vB u,vW t]++cs)] w (m6 (fI dir u t M) w):=by
 have hM:=h
 obtain⟨hu1,hu2⟩:=hu
 obtain⟨ht1,ht2⟩:=ht
 refine fo h fun Aw kw Ab kb Ad kd Ar kr Ao ko e hw hbt hd hr ho _ _ _ _ _ _ _ _ _ _ q0 q1 q2 q3 q4 q5 q6 q7 q8 q9 W X Y Z a0 a1 a2=>?_
 subst e
 refine en 39 Tryz.func266 rfl<|sg<|L0<|d6 #[vB u,vW t,vB M.code,vB M.fail,vW M.addr,vW M.count,vW M.value,vW M.and_,vW M.or_,vW M.addr2,vW M.sub,vW M.status,vW M.events,vW M.messages,.slice Aw M.words.length kw,.slice Ab M.bits.length kb,.slice Ad M.data.length kd,.slice Ar M.recs.length kr,vB M.mei,vB M.kind,vB M.level,vB M.more,vB M.next,.slice Ao M.objects.length ko] fun a3 a4 a5 o c=>Pl 2<|aM 2<|L0<|mg o 2 22<|?_
 rcases hwr:d7 dir M with _|lw
 have p:=gl (dir:=dir) (aJ.old hM c) hf
 rw[hwr] at p
 refine ay<|m1 p fun a6 C=>ai 5<|sq<|aE 8<|c1<|al 2<|nl<|tn<|aX<|rr (.tuple #[nS,vI 1])<|?_
 exact cv (y:=none) (by unfold fI;(try simp only[hwr,bi,reduceIte])<;>rfl) ⟨rfl,(aI c C)⟩
 have hlw:=i8 hwr
 have q:=gl (dir:=dir) (aJ.old hM c) hf
 rw[hwr] at q
 refine ay<|dV q fun a7 a8 a9 D aa ab k=>ai 5<|sq<|al 5<|?_
 have r:=ub k o
 refine L1<|dD r 1<|ai 2<|?_
 have s:=aI c k
 refine cb ((t != 0)) (fun d=>?_) (fun d=>?_)
 have E:=aB d
 exact aE 2<|aX<|rr (.tuple #[nS,vI 1])<|cv (y:=none) (by unfold fI;(try simp only[hwr,d,bi,reduceIte])<;>rfl) ⟨rfl,s⟩
 have E:=az d
 refine bj<|al 2<|aD r 0<|L0<|cY (m:=1) (e:=5) #[vB u] fun F ac G H f=>?_
 have v:=cG G (xs:=[u]) (by as_aux_lemma=>kernel_rfl) (am (by omega) aR) (by(try simp only[List.length_cons,List.length_nil]);omega) H
 refine Pl 1<|?_
 refine L0<|bQ b9 (xs:=([u])) (ys:=lw) (vB 0) 1 v ((av D f (fun x hx=>aF) (fun _ _ h=>h))).rd (by(try simp only[bT,aC]);omega) f.size fun g I ad l n=>Pl 1<|aM 2<|ay (args:=#[.slice g (([u]++lw).length) I])<|m1 (vN (l).rd) fun ae i=>?_
 have af:=js ([u]++lw)
 refine L0<|cY (m:=1) (e:=5) #[vB (cy ([u]++lw))] fun ag ah J K j=>?_
 have L:=cG J (xs:=[(cy ([u]++lw))]) (by as_aux_lemma=>kernel_rfl) (am (by omega) aR) (by(try simp only[List.length_cons,List.length_nil]);omega) K
 refine L0<|bQ b9 (xs:=([u]++lw)) (ys:=([(cy ([u]++lw))])) (vB 0) 1 (av (av l i (fun x hx=>aF) (fun _ _ h=>h)) j (fun x hx=>aF) (fun _ _ h=>h)) (L).rd (by(try simp only[bT,aC]);omega) (le (le (le f.size n.size) i.size) j.size) fun N O aj z A=>ay (args:=#[.slice N ((([u]++lw)++[(cy ([u]++lw))]).length) O])<|m1 (wO (z).rd (by simp only[bT];omega)) fun ak B=>?_
 have P:fj (dj (([u]++lw)++[(cy ([u]++lw))])):=jF (aZ.range (z).rd)
 have Q:fj ([58]++(dj (([u]++lw)++[(cy ([u]++lw))]))):=gF (by decide) P
 refine L0<|ik (.string (strOfNums ([58]++(dj (([u]++lw)++[(cy ([u]++lw))]))))) (jg (a:=⟨#[58]⟩) (b:=(strOfNums (dj (([u]++lw)++[(cy ([u]++lw))])))) (xs:=([58])) (ys:=(dj (([u]++lw)++[(cy ([u]++lw))]))) rfl (by kernel_rfl) (by kernel_rfl) rfl rfl (by simp only[dT,List.length_append,List.length_cons,List.length_nil];omega))<|?_
 have R:fj (([58]++(dj (([u]++lw)++[(cy ([u]++lw))])))++[13,10]):=gF Q (by decide)
 refine L0<|ik (.string (strOfNums (([58]++(dj (([u]++lw)++[(cy ([u]++lw))])))++[13,10]))) (jg (a:=(strOfNums ([58]++(dj (([u]++lw)++[(cy ([u]++lw))]))))) (b:=⟨#[13,10]⟩) (xs:=([58]++(dj (([u]++lw)++[(cy ([u]++lw))])))) (ys:=([13,10])) rfl (by kernel_rfl) (by kernel_rfl) rfl rfl (by simp only[dT,List.length_append,List.length_cons,List.length_nil];omega))<|L0<|Eg (xs:=(([58]++(dj (([u]++lw)++[(cy ([u]++lw))])))++[13,10])) Tryz.underlying9 Tryz.underlying27 Tryz.underlying5 R (by simp only[dT,List.length_append,List.length_cons,List.length_nil];omega) fun S T an U V=>ai 2<|rt<|rr (.tuple #[.slice S ((([58]++(dj (([u]++lw)++[(cy ([u]++lw))])))++[13,10]).length) T,vI 0])<|?_
 exact cv (y:=(some (([58]++(dj (([u]++lw)++[(cy ([u]++lw))])))++[13,10]))) (by unfold fI;(try simp only[hwr,d,bi,reduceIte])<;>rfl) ⟨_,rfl,U.weaken (le (le (le (le (le (le (le c.size k.size) f.size) n.size) i.size) j.size) A.size) B.size),(aI s (ut f (ut (aH.mono (S':=(ob (some ⟨F,0,none⟩)++(ob g++[]))) n (ap il aA)) (ut (aH.mono (S':=(ob g++[])) i aA) (ut (aH.mono (S':=(ob g++[])) j aA) (aI A (aI B V)) (ap il aA)) (ap il aA)) (ap il aA)) (ap (aT v lr) (ap (aT l lr) aA))))⟩
open Go.RowKit
theorem rX{m:Md}{x:SL}{M:aU}{w:World}{dir u t:Int}(hX:fI dir u t M=none)(h:aJ m w (fb M x).toList M)(hf:bB M)(hu:0≤u∧u<256)(ht:0≤t∧t<65536) : Calls Tryz.prog 266 #[.int .i64 dir,.agg (ed u t M x)] w (fun e w'=>e = .returned (.tuple #[.slice none 0 0,.int .i64 1])∧aH [] w w'):=by
  have:=oV (dir:=dir) h hf hu ht
  rw[hX] at this
  rw[hZ]
  exact this
theorem rh{m:Md}{x:SL}{M:aU}{w:World}{dir u t:Int}{l:List Int}(hX:fI dir u t M=some l)(h:aJ m w (fb M x).toList M)(hf:bB M)(hu:0≤u∧u<256)(ht:0≤t∧t<65536) : Calls Tryz.prog 266 #[.int .i64 dir,.agg (ed u t M x)] w (fun e w'=>∃ v,e = .returned (.tuple #[v,.int .i64 0])∧hH w.heap.size w' v l∧aH [] w w'):=by
  have:=oV (dir:=dir) h hf hu ht
  rw[hX] at this
  rw[hZ]
  exact this
open Go.RowKit
def uw (b:List Int) : ah:=⟨b,false,0⟩
def w7 (b:List Int) : ah:=(uw b).wordsC 1
def u5 (b:List Int) : ah:=(w7 b).wordsC 1
def u0 (b:List Int) : ah:=(u5 b).wordsC 1
def wi (b:List Int) : ah:=(u0 b).bytesC 1
def kS (b:List Int) : List Int:=(wi b).bytesR (((wi b).l.length:Nat) : Int)
def dA (dir:Int)(b:List Int) : dt × Int :=
  if dir != 0&&dir != 1 then (dt.zero,1)
  else if decide ((b.length:Int)<8) then (dt.zero,2)
  else if decide (260<(b.length:Int)) then (dt.zero,3)
  else if (w7 b).wordV != 0 then (dt.zero,13)
  else if (u5 b).wordV != (b.length:Int)-6 then (dt.zero,5)
  else cw (u0 b).byteV (uw b).wordV (cF dir (kS b))
theorem rG{m:Md}{A:Option Addr}{cp:Nat}{b:List Int}{w:World}{dir:Int}(hsl:aZ m w (.slice A b.length cp) b)(hb:b.length≤1048576) :
    Calls Tryz.prog 107 #[vI dir,.slice A b.length cp] w (qe (dA dir b) w):=by
 have hln:(b.length:Int)≤1048576:=by omega
 refine en 75 Tryz.func107 rfl<|sg<|aK #[vB 0,vW 0,vB 0,vB 0,vW 0,vW 0,vW 0,vW 0,vW 0,vW 0,vW 0,vW 0,vW 0,vW 0,nS,nS,nS,nS,vB 0,vB 0,vB 0,vB 0,vB 0,nS] fun b6 b9 g e i=>ai 1<|sq<|bk<|al 3<|cu 3 [17] 20 (((dir != 0)&&(dir != 1))) (fun K N=>?_) ?_
 refine bl 17 ((dir != 0)) (fun o=>?_) (fun o=>?_)
 have Z:=aB o
 exact Pl 3<|ce N (dir != 1) (by rw[o];rfl)
 have Z:=az o
 exact Pl 3<|ce N false (by rw[o];rfl)
 refine ai 1<|cb (((dir != 0)&&(dir != 1))) (fun c=>?_) (fun c=>?_)
 have O:=(bC c).1
 have P:=(bC c).2
 have ba:=aB O
 have bb:=aB P
 refine al 1<|aG e #[vB 0,vW 0,vB 0,vB 0,vW 0,vW 0,vW 0,vW 0,vW 0,vW 0,vW 0,vW 0,vW 0,vW 0,nS,nS,nS,nS,vB 0,vB 0,vB 0,vB 0,vB 0,nS] fun bc a0 a1=>ai 1<|rt<|br<|tr<|bJ a0 (vI 1)<|?_
 have hs:dA dir b=(dt.zero,1):=by
   unfold dA
   (try simp only[c,O,P,bi,cw,wi,u0,u5,w7,uw,reduceIte])
   all_goals rfl
 refine eM hs ?_
 exact dm (ud i a1 g)
 refine aE 4<|cb ((decide ((b.length:Int)<8))) (fun d=>?_) (fun d=>?_)
 have a2:=of_decide_eq_true d
 refine al 1<|aG e #[vB 0,vW 0,vB 0,vB 0,vW 0,vW 0,vW 0,vW 0,vW 0,vW 0,vW 0,vW 0,vW 0,vW 0,nS,nS,nS,nS,vB 0,vB 0,vB 0,vB 0,vB 0,nS] fun bd a3 a4=>ai 1<|rt<|br<|tr<|bJ a3 (vI 2)<|?_
 have hs:dA dir b=(dt.zero,2):=by
   unfold dA
   (try simp only[c,d,bi,cw,wi,u0,u5,w7,uw,reduceIte])
   all_goals rfl
 refine eM hs ?_
 exact dm (ud i a4 g)
 have a2:=of_decide_eq_false d
 refine aE 4<|cb ((decide (260<(b.length:Int)))) (fun f=>?_) (fun f=>?_)
 have a5:=of_decide_eq_true f
 refine al 1<|aG e #[vB 0,vW 0,vB 0,vB 0,vW 0,vW 0,vW 0,vW 0,vW 0,vW 0,vW 0,vW 0,vW 0,vW 0,nS,nS,nS,nS,vB 0,vB 0,vB 0,vB 0,vB 0,nS] fun be a6 a7=>ai 1<|rt<|br<|tr<|bJ a6 (vI 3)<|?_
 have hs:dA dir b=(dt.zero,3):=by
   unfold dA
   (try simp only[c,d,f,bi,cw,wi,u0,u5,w7,uw,reduceIte])
   all_goals rfl
 refine eM hs ?_
 exact dm (ud i a7 g)
 have a5:=of_decide_eq_false f
 refine sk<|bn<|tn<|al 1<|?_
 refine ay<|e3 (eq (aZ.old hsl i) (by omega)) fun u bf p a8 a9=>Pl 1<|aM 1<|aM 2<|L0<|i3 #[] #[] (args:=#[vP u 0])<|m3 (cg a8) fun bg aa ac bh=>Pl 2<|L0<|i3 #[] #[] (args:=#[vP u 0])<|m3 (cg aa) fun bm ad ae bo=>?_
 refine ab ad fun x46 s af=>?_
 refine Pl 2<|L0<|i3 #[] #[] (args:=#[vP u 0])<|m3 (cg af) fun bp ag aj bs=>ai 3<|sq<|bk<|aE 3<|?_
 have j:=ud a9 (u1 ac (u1 ae aj im) im) p
 have v:=aI i j
 refine cb (((((ah.mk b false 0).wordsC 1).wordV)!=0)) (fun h=>?_) (fun h=>?_)
 have am:=aB h
 refine al 1<|?_
 refine aG (ub j e) #[vB 0,vW 0,vB 0,vB 0,vW 0,vW 0,vW 0,vW 0,vW 0,vW 0,vW 0,vW 0,vW 0,vW 0,nS,nS,nS,nS,vB 0,vB 0,vB 0,vB 0,vB 0,nS] fun bt an ao=>ai 1<|rt<|br<|tr<|bJ an (vI 13)<|?_
 subst s
 have hs:dA dir b=(dt.zero,13):=by
   unfold dA
   (try simp only[c,d,f,h,bi,cw,wi,u0,u5,w7,uw,reduceIte])
   all_goals rfl
 refine eM hs ?_
 exact dm (ud v ao g)
 have am:=az h
 refine al 1<|bq x46.wordV<|Pl 2<|bq ((b.length:Int)-6)<|ai 2<|cb ((x46.wordV != ((b.length:Int)-6))) (fun k=>?_) (fun k=>?_)
 have ap:=aB k
 refine al 1<|?_
 refine aG (ub j e) #[vB 0,vW 0,vB 0,vB 0,vW 0,vW 0,vW 0,vW 0,vW 0,vW 0,vW 0,vW 0,vW 0,vW 0,nS,nS,nS,nS,vB 0,vB 0,vB 0,vB 0,vB 0,nS] fun bu aq ar=>ai 1<|rt<|br<|tr<|bJ aq (vI 5)<|?_
 subst s
 have hs:dA dir b=(dt.zero,5):=by
   unfold dA
   (try simp only[c,d,f,h,k,bi,cw,wi,u0,u5,w7,uw,reduceIte])
   all_goals rfl
 refine eM hs ?_
 exact dm (ud v ar g)
 have ap:=az k
 refine sk<|bn<|tn<|al 1<|ay<|m3 (cc ag) fun bv t Q bw=>Pl 1<|aM 3<|ay<|mq (eI t)<|?_
 have bx:=ak.len t
 refine ay<|vc (cL (n:=((((x46.wordsC 1).bytesC 1).l.length:Nat) : Int)) t) fun bz bA au av bB bD aw R=>?_
 have bE:=Nat.le_trans (ah.bytesR_le ((x46.wordsC 1).bytesC 1) ((((x46.wordsC 1).bytesC 1).l.length:Nat) : Int)) (ak.len t)
 refine ab aw fun x80 S bF=>?_
 obtain⟨a,q,x⟩ : ∃ M E,cF dir (((x46.wordsC 1).bytesC 1).bytesR ((((x46.wordsC 1).bytesC 1).l.length:Nat) : Int))=(M,E):=⟨_,_,rfl⟩
 have T:=oz (dir:=dir) (w:=au) av (by omega)
 rw[x] at T
 refine ay<|e2 T fun aA bG U V=>?_
 have aC:=U
 obtain⟨aD,aF,aH,aL,aO,aP,aQ,aR,aS,aT,aU,bH⟩:=aC
 obtain rfl:aA=(eJ a aD aF aH aL aO).toArray:=by apply Array.toList_inj.1;simpa using aP
 obtain⟨y,z,rfl,_,_⟩:=aQ.shape
 obtain⟨B,C,rfl,_,_⟩:=aR.shape
 obtain⟨D,F,rfl,_,_⟩:=aS.shape
 obtain⟨G,H,rfl,_,_⟩:=aT.shape
 obtain⟨I,J,rfl,_,_⟩:=aU.shape
 refine Pl 3<|aK mZ fun bI bK aV aW aY=>aG aW (mG a.code a.fail a.addr a.count a.value a.and_ a.or_ a.addr2 a.sub a.status a.events a.messages (.slice y a.words.length z) (.slice B a.bits.length C) (.slice D a.data.length F) (.slice G a.recs.length H) a.mei a.kind a.level a.more a.next (.slice I a.objects.length J)) fun bL b0 b1=>ai 1<|sq<|aE 2<|?_
 have W:=ud aY b1 aV
 have L:=u1 Q (aI R (aI V W)) im
 have X:=ud v L (le i.size p)
 refine cb ((q != 0)) (fun r=>?_) (fun r=>?_)
 have b2:=aB r
 refine al 2<|?_
 refine aG (ub (ud j L p) e) #[vB 0,vW 0,vB 0,vB 0,vW 0,vW 0,vW 0,vW 0,vW 0,vW 0,vW 0,vW 0,vW 0,vW 0,nS,nS,nS,nS,vB 0,vB 0,vB 0,vB 0,vB 0,nS] fun bM b3 b4=>ai 1<|aX<|bJ b3 (vI q)<|?_
 subst S s
 have hX2:cF dir (kS b)=(a,q):=x
 have hs:dA dir b=(dt.zero,q):=by
   unfold dA
   (try simp only[c,d,f,h,k,r,bi,cw,wi,u0,u5,w7,uw,hX2,reduceIte])
   all_goals rfl
 refine eM hs ?_
 exact dm (ud X b4 g)
 have b2:=az r
 refine bj<|al 3<|L0<|bN b0<|Pl 1<|?_
 refine aG (ub (ud j L p) e) #[vB ((x46.wordsC 1).byteV),vW ((ah.mk b false 0).wordV),vB a.code,vB a.fail,vW a.addr,vW a.count,vW a.value,vW a.and_,vW a.or_,vW a.addr2,vW a.sub,vW a.status,vW a.events,vW a.messages,.slice y a.words.length z,.slice B a.bits.length C,.slice D a.data.length F,.slice G a.recs.length H,vB a.mei,vB a.kind,vB a.level,vB a.more,vB a.next,.slice I a.objects.length J] fun bO b5 Y=>ai 1<|rt<|bJ b5 (vI 0)<|?_
 subst S s
 have hX2:cF dir (kS b)=(a,q):=x
 have hs:dA dir b=(⟨((((ah.mk b false 0).wordsC 1).wordsC 1).wordsC 1).byteV,(ah.mk b false 0).wordV,a⟩,0):=by
   unfold dA
   (try simp only[c,d,f,h,k,r,bi,cw,wi,u0,u5,w7,uw,hX2,reduceIte])
   all_goals rfl
 refine eM hs ?_
 exact⟨_,rfl,⟨#[vB a.code,vB a.fail,vW a.addr,vW a.count,vW a.value,vW a.and_,vW a.or_,vW a.addr2,vW a.sub,vW a.status,vW a.events,vW a.messages,.slice y a.words.length z,.slice B a.bits.length C,.slice D a.data.length F,.slice G a.recs.length H,vB a.mei,vB a.kind,vB a.level,vB a.more,vB a.next,.slice I a.objects.length J],(by as_aux_lemma=>kernel_rfl),(aJ.upd U (uz W Y) (ax (b7 (ub (ud j (u1 Q (aI R V) im) p) e) (by decide)) aN)),b8 (by omega),cP (by omega)⟩,(ud X Y g)⟩
theorem tg{m:Md}{v:Value}{b:List Int}{w:World}{dir:Int}(h:aZ m w v b)(hb:b.length≤1048576) : Calls Tryz.prog 107 #[.int .i64 dir,v] w (qe (dA dir b) w):=by
  obtain⟨A,cp,rfl,_,_⟩:=h.shape
  exact rG h hb
open Go.RowKit
def ej (dir u t:Int)(M:aU) : Option (List Int) :=
  match d7 dir M with
  | none=>none
  | some l=>some ((aO [t,0,((l.length:Int)+1)%65536]++[u])++l)
theorem ms{m:Md}{cs:Array Value}{M:aU}{w:World}{dir u t:Int}(h:aJ m w cs.toList M)(hf:bB M)(hu:B8 u)(ht:eN t) : Calls Tryz.prog 275 #[vI dir,.agg (#[vB u,vW t]++cs)] w (dR (ej dir u t M) w):=by
 have hM:=h
 obtain⟨hu1,hu2⟩:=hu
 obtain⟨ht1,ht2⟩:=ht
 refine fo h fun Aw kw Ab kb Ad kd Ar kr Ao ko e hw hbt hd hr ho _ _ _ _ _ _ _ _ _ _ q0 q1 q2 q3 q4 q5 q6 q7 q8 q9 J K L N O P Q=>?_
 subst e
 refine en 35 Tryz.func275 rfl<|sg<|L0<|d6 #[vB u,vW t,vB M.code,vB M.fail,vW M.addr,vW M.count,vW M.value,vW M.and_,vW M.or_,vW M.addr2,vW M.sub,vW M.status,vW M.events,vW M.messages,.slice Aw M.words.length kw,.slice Ab M.bits.length kb,.slice Ad M.data.length kd,.slice Ar M.recs.length kr,vB M.mei,vB M.kind,vB M.level,vB M.more,vB M.next,.slice Ao M.objects.length ko] fun R S T g a=>Pl 2<|aM 2<|L0<|mg g 2 22<|?_
 rcases hwr:d7 dir M with _|lw
 have i:=gl (dir:=dir) (aJ.old hM a) hf
 rw[hwr] at i
 refine ay<|m1 i fun U r=>ai 5<|sq<|aE 2<|c1<|al 2<|nl<|tn<|aX<|rr (.tuple #[nS,vI 1])<|?_
 exact cv (y:=none) (by unfold ej;(try simp only[hwr])<;>rfl) ⟨rfl,(aI a r)⟩
 have hlw:=i8 hwr
 have j:=gl (dir:=dir) (aJ.old hM a) hf
 rw[hwr] at j
 refine ay<|dV j fun V W X s Y Z d=>ai 5<|sq<|aE 2<|c0<|bj<|sq<|go<|Pl 2<|?_
 have k:=ub d g
 refine aD k 1<|Pl 2<|bq ((lw.length:Int)+1)<|Pl 1<|L0<|cY (m:=3) (e:=37) #[vW t,vW 0,vW (((lw.length:Int)+1)%65536)] fun a0 a1 v z b=>?_
 have A:=eB v (xs:=[t,0,(((lw.length:Int)+1)%65536)]) (by as_aux_lemma=>kernel_rfl) (am (by omega) (am (by omega) (am (by omega) aR))) (by(try simp only[List.length_cons,List.length_nil]);omega) z
 refine ay<|dV (cS (xs:=[t,0,(((lw.length:Int)+1)%65536)]) (A).rd (by(try simp only[List.length_cons,List.length_nil]);omega)) fun B a2 a3 l a4 a5 f=>Pl 1<|aM 3<|?_
 have n:=aI b f
 refine aD (ub n k) 0<|L0<|cY (m:=1) (e:=5) #[vB u] fun a6 a7 C D c=>?_
 have E:=cG C (xs:=[u]) (by as_aux_lemma=>kernel_rfl) (am (by omega) aR) (by(try simp only[List.length_cons,List.length_nil]);omega) D
 refine L0<|bQ b9 (xs:=(aO ([t,0,(((lw.length:Int)+1)%65536)]))) (ys:=([u])) (vB 0) 1 (av l c (fun x hx=>aF) (fun _ _ h=>h)) (E).rd (by(try simp only[bT,aC]);omega) (le f.size c.size) fun a8 a9 aa o p=>Pl 1<|?_
 have q:=ut n (ut (aH.mono (S':=(ob B++[])) c aA) p (ap il aA)) (ap (aT l b.size) aA)
 refine L0<|bQ b9 (xs:=((aO ([t,0,(((lw.length:Int)+1)%65536)]))++[u])) (ys:=lw) (vB 0) 1 o ((av s q (fun x hx=>aF) (fun _ _ h=>h))).rd (by(try simp only[bT,aC]);omega) (le (le f.size c.size) p.size) fun F G ab H I=>ai 2<|rt<|rr (.tuple #[.slice F ((((aO ([t,0,(((lw.length:Int)+1)%65536)]))++[u])++lw).length) G,vI 0])<|?_
 exact cv (y:=(some (((aO ([t,0,(((lw.length:Int)+1)%65536)]))++[u])++lw))) (by unfold ej;(try simp only[hwr])<;>rfl) ⟨_,rfl,(b6.weaken H (le (le a.size d.size) b.size)),(aI a (aI d (ut q I (ap (aT o b.size) aA))))⟩
open Go.RowKit
theorem pY{m:Md}{v:Value}{b:List Int}{w:World}{dir:Int}{F:dt}{E:Int}(hX:dA dir b=(F,E))(h:aZ m w v b)(hb:b.length≤1048576) : Calls Tryz.prog 107 #[.int .i64 dir,v] w (fun e w'=>∃ x,e = .returned (.tuple #[.agg (ed F.unit F.tid F.msg x),.int .i64 E])∧(aJ true w' (fb F.msg x).toList F.msg∧(0≤F.unit∧F.unit<256)∧(0≤F.tid∧F.tid<65536))∧aH [] w w'):=by
  refine(tg h hb).mono ?_
  rintro e w' ⟨cs,rfl,h1,h2⟩
  rw[hX] at h1 ⊢
  obtain⟨c,rfl,h3,h4,h5⟩:=h1
  obtain⟨x,rfl⟩:=n8 h3
  exact⟨x,by rw[hZ],⟨h3,h4,h5⟩,h2⟩
theorem oZ{m:Md}{x:SL}{M:aU}{w:World}{dir u t:Int}(hX:ej dir u t M=none)(h:aJ m w (fb M x).toList M)(hf:bB M)(hu:0≤u∧u<256)(ht:0≤t∧t<65536) : Calls Tryz.prog 275 #[.int .i64 dir,.agg (ed u t M x)] w (fun e w'=>e = .returned (.tuple #[.slice none 0 0,.int .i64 1])∧aH [] w w'):=by
  have:=ms (dir:=dir) h hf hu ht
  rw[hX] at this
  rw[hZ]
  exact this
theorem p6{m:Md}{x:SL}{M:aU}{w:World}{dir u t:Int}{l:List Int}(hX:ej dir u t M=some l)(h:aJ m w (fb M x).toList M)(hf:bB M)(hu:0≤u∧u<256)(ht:0≤t∧t<65536) : Calls Tryz.prog 275 #[.int .i64 dir,.agg (ed u t M x)] w (fun e w'=>∃ v,e = .returned (.tuple #[v,.int .i64 0])∧eG w.heap.size w' v l∧aH [] w w'):=by
  have:=ms (dir:=dir) h hf hu ht
  rw[hX] at this
  rw[hZ]
  exact this
open Go.RowKit
def iF (k dir u t:Int)(M:aU) : Option (List Int):=bif k==0 then fN dir u t M else bif k==1 then fI dir u t M else bif k==2 then ej dir u t M else none
def zh (k:Int) : Int:=bif k==0 then 256 else bif k==1 then 513 else bif k==2 then 260 else 0
theorem k4{C:Prop}(k:Int)(h0:k=0→C)(h1:k=1→C)(h2:k=2→C)(h3:(k==0)=false→(k==1)=false→(k==2)=false→C) : C:=by
  cases e0:k==0
  · cases e1:k==1
    · cases e2:k==2
      · exact h3 e0 e1 e2
      · exact h2 (by simpa using e2)
    · exact h1 (by simpa using e1)
  · exact h0 (by simpa using e0)
theorem yM{k dir u t:Int}{M:aU}(h0:(k==0)=false)(h1:(k==1)=false)(h2:(k==2)=false) : iF k dir u t M=none:=by unfold iF;rw[h0,h1,h2];rfl
theorem Cr{k:Int}(h0:(k==0)=false)(h1:(k==1)=false)(h2:(k==2)=false) : zh k=0:=by unfold zh;rw[h0,h1,h2];rfl
def fU (base:Nat)(w:World)(v:Value)(xs:List Int) : Prop:=aZ true w v xs∧∃ A n c,v = .slice A n c∧∀ x,x∈ob A→base≤x
theorem fU.wk{base base':Nat}{w:World}{v:Value}{xs:List Int}(h:fU base w v xs)(k:base'≤base) : fU base' w v xs:=by
  obtain⟨h1,A,n,c,h2,h3⟩:=h
  exact⟨h1,A,n,c,h2,fun x hx=>Nat.le_trans k (h3 x hx)⟩
def WR (res:Option (List Int))(base:Nat)(w:World)(v:Value)(n:Int) : Prop:=match res with
  | some l=>n=0∧fU base w v l
  | none=>n=1∧v = .slice none 0 0
theorem WR.wk{res:Option (List Int)}{base base':Nat}{w:World}{v:Value}{n:Int}(h:WR res base w v n)(k:base'≤base) : WR res base' w v n:=by
  cases res with
  | none=>exact h
  | some l=>exact⟨h.1,h.2.wk k⟩
def s8 (res:Option (List Int))(w:World)(e:Ending)(w':World) : Prop:=∃ v n,e = .returned (.tuple #[v,.int .i64 n])∧WR res w.heap.size w' v n∧aH [] w w'
theorem fU.of{base:Nat}{w:World}{v:Value}{xs:List Int}(h:eG base w v xs) : fU base w v xs:=by
  obtain⟨A,c,rfl,_,_⟩:=h.rd.shape
  exact⟨h.rd,A,_,c,rfl,tS h⟩
theorem fU.ofF{base:Nat}{w:World}{v:Value}{xs:List Int}(h:hH base w v xs) : fU base w v xs:=by
  obtain⟨b,c,rfl⟩:=h.shape
  exact⟨h.rd,_,_,c,rfl,fun x hx=>by simp[ob] at hx;subst hx;exact h.ge⟩
theorem pB{w:World}:Calls Tryz.prog 59 #[vI 0] w (cl (.iface 133 (.agg #[])) w):=by
 exact en 18 Tryz.func59 rfl<|aE 1<|sq<|aE 1<|bk<|sq<|go<|ai 2<|c1<|aE 3<|rt<|br<|tr<|rr (.iface 133 (.agg #[]))<|⟨rfl,(aH.refl [] _)⟩
theorem ug{w:World}:Calls Tryz.prog 59 #[vI 1] w (cl (.iface 134 (.agg #[])) w):=by
 exact en 18 Tryz.func59 rfl<|aE 1<|sq<|aE 1<|bk<|sq<|go<|ai 2<|c0<|aE 2<|c1<|al 3<|nl<|tn<|rt<|br<|tr<|rr (.iface 134 (.agg #[]))<|⟨rfl,(aH.refl [] _)⟩
theorem pK{w:World}:Calls Tryz.prog 59 #[vI 2] w (cl (.iface 135 (.agg #[])) w):=by
 exact en 18 Tryz.func59 rfl<|aE 1<|sq<|aE 1<|bk<|sq<|go<|ai 2<|c0<|aE 2<|c0<|al 2<|nl<|tn<|c1<|aE 3<|rt<|br<|tr<|rr (.iface 135 (.agg #[]))<|⟨rfl,(aH.refl [] _)⟩
theorem tK{w:World}{k:Int}(h0:(k==0)=false)(h1:(k==1)=false)(h2:(k==2)=false) : Calls Tryz.prog 59 #[vI k] w (cl (.iface 136 (.agg #[])) w):=by
 exact en 18 Tryz.func59 rfl<|aE 1<|sq<|aE 1<|bk<|sq<|go<|ai 2<|cf h0<|aE 2<|cf h1<|al 2<|nl<|tn<|cf h2<|sk<|bn<|tn<|aE 3<|rt<|rr (.iface 136 (.agg #[]))<|⟨rfl,(aH.refl [] _)⟩
theorem zd{w:World}:Calls Tryz.prog 259 #[.agg #[]] w (cl (vI 256) w):=by
 exact en 3 Tryz.func259 rfl<|sg<|L0<|d6 #[] fun b c d e a=>Pl 1<|cE 1<|rt<|rr (vI 256)<|⟨rfl,a⟩
theorem wa{w:World}:Calls Tryz.prog 58 #[vI 0] w (cl (vI 256) w):=by
 refine en 6 Tryz.func58 rfl<|al 1<|aM 1<|ay<|m1 (pB) fun c a=>L0<|yZ (f:=259) (args:=#[.agg #[]]) 133 (.agg #[]) (.agg #[])<|m1 (@zd _) fun d b=>ai 1<|rt<|rr (vI 256)<|?_
 exact⟨rfl,(aI a b)⟩
theorem zB{w:World}:Calls Tryz.prog 263 #[.agg #[]] w (cl (vI 513) w):=by
 exact en 3 Tryz.func263 rfl<|sg<|L0<|d6 #[] fun b c d e a=>Pl 1<|cE 1<|rt<|rr (vI 513)<|⟨rfl,a⟩
theorem vH{w:World}:Calls Tryz.prog 58 #[vI 1] w (cl (vI 513) w):=by
 refine en 6 Tryz.func58 rfl<|al 1<|aM 1<|ay<|m1 (ug) fun c a=>L0<|yZ (f:=263) (args:=#[.agg #[]]) 134 (.agg #[]) (.agg #[])<|m1 (@zB _) fun d b=>ai 1<|rt<|rr (vI 513)<|?_
 exact⟨rfl,(aI a b)⟩
theorem zX{w:World}:Calls Tryz.prog 272 #[.agg #[]] w (cl (vI 260) w):=by
 exact en 3 Tryz.func272 rfl<|sg<|L0<|d6 #[] fun b c d e a=>Pl 1<|cE 1<|rt<|rr (vI 260)<|⟨rfl,a⟩
theorem uF{w:World}:Calls Tryz.prog 58 #[vI 2] w (cl (vI 260) w):=by
 refine en 6 Tryz.func58 rfl<|al 1<|aM 1<|ay<|m1 (pK) fun c a=>L0<|yZ (f:=272) (args:=#[.agg #[]]) 135 (.agg #[]) (.agg #[])<|m1 (@zX _) fun d b=>ai 1<|rt<|rr (vI 260)<|?_
 exact⟨rfl,(aI a b)⟩
theorem zt{w:World}:Calls Tryz.prog 276 #[.agg #[]] w (cl (vI 0) w):=by
 exact en 3 Tryz.func276 rfl<|sg<|L0<|d6 #[] fun b c d e a=>Pl 1<|cE 1<|rt<|rr (vI 0)<|⟨rfl,a⟩
theorem vO{w:World}{k:Int}(h0:(k==0)=false)(h1:(k==1)=false)(h2:(k==2)=false) : Calls Tryz.prog 58 #[vI k] w (cl (vI 0) w):=by
 refine en 6 Tryz.func58 rfl<|al 1<|aM 1<|ay<|m1 (tK h0 h1 h2) fun c a=>L0<|yZ (f:=276) (args:=#[.agg #[]]) 136 (.agg #[]) (.agg #[])<|m1 (@zt _) fun d b=>ai 1<|rt<|rr (vI 0)<|?_
 exact⟨rfl,(aI a b)⟩
theorem n0{w:World}{k:Int}:Calls Tryz.prog 58 #[.int .i64 k] w (cl (.int .i64 (zh k)) w):=by
  refine k4 k (fun h=>?_) (fun h=>?_) (fun h=>?_) (fun h0 h1 h2=>?_)
  · subst h;exact wa
  · subst h;exact vH
  · subst h;exact uF
  · rw[Cr h0 h1 h2];exact vO h0 h1 h2
theorem AT{m:Md}{A:Option Addr}{cp:Nat}{b:List Int}{w:World}{dir:Int}{F:dt}{E:Int}(hX:ei dir b=(F,E))(hsl:aZ m w (.slice A b.length cp) b)(hb:b.length≤1048576) : Calls Tryz.prog 260 #[.agg #[],vI dir,.slice A b.length cp] w (fun e w'=>∃ x,e = .returned (.tuple #[.agg (ed F.unit F.tid F.msg x),vI E])∧(aJ true w' (fb F.msg x).toList F.msg∧(0≤F.unit∧F.unit<256)∧(0≤F.tid∧F.tid<65536))∧aH [] w w'):=by
 refine en 13 Tryz.func260 rfl<|sg<|L0<|d6 #[] fun q r s t a=>aK rU fun u v h i j=>Pl 1<|aM 2<|?_
 have c:=aI a j
 refine ay<|e2 (rD hX (aZ.old hsl c) hb) fun x20 y k d=>?_
 obtain⟨l,n,o⟩:=k
 refine Pl 2<|?_
 have f:=ub d i
 refine aG f (ed F.unit F.tid F.msg x20) fun z p g=>ai 1<|rt<|bJ p (vI E)<|?_
 exact⟨x20,rfl,⟨(aJ.upd l g (ax (b7 f (by decide)) aN)),n,o⟩,(ud c (uz d g) (le a.size h))⟩
theorem sc{m:Md}{A:Option Addr}{cp:Nat}{b:List Int}{w:World}{dir:Int}{F:dt}{E:Int}(hX:ei dir b=(F,E))(hsl:aZ m w (.slice A b.length cp) b)(hb:b.length≤1048576) : Calls Tryz.prog 50 #[vI 0,vI dir,.slice A b.length cp] w (fun e w'=>∃ x,e = .returned (.tuple #[.agg (ed F.unit F.tid F.msg x),vI E])∧(aJ true w' (fb F.msg x).toList F.msg∧(0≤F.unit∧F.unit<256)∧(0≤F.tid∧F.tid<65536))∧aH [] w w'):=by
 refine en 15 Tryz.func50 rfl<|sg<|aK rU fun r s i j k=>Pl 1<|aM 1<|ay<|m1 (pB) fun t a=>Pl 2<|?_
 have c:=aI k a
 refine L0<|yZ (f:=260) (args:=#[.agg #[],vI dir,.slice A b.length cp]) 133 (.agg #[]) (.agg #[])<|e2 (AT hX (aZ.old hsl c) hb) fun x17 u l d=>?_
 obtain⟨n,o,p⟩:=l
 refine Pl 2<|?_
 have g:=ub (aI a d) j
 refine aG g (ed F.unit F.tid F.msg x17) fun v q h=>ai 1<|rt<|bJ q (vI E)<|?_
 exact⟨x17,rfl,⟨(aJ.upd n h (ax (b7 g (by decide)) aN)),o,p⟩,(ud c (uz d h) i)⟩
theorem Am{m:Md}{A:Option Addr}{cp:Nat}{b:List Int}{w:World}{dir:Int}{F:dt}{E:Int}(hX:dA dir b=(F,E))(hsl:aZ m w (.slice A b.length cp) b)(hb:b.length≤1048576) : Calls Tryz.prog 273 #[.agg #[],vI dir,.slice A b.length cp] w (fun e w'=>∃ x,e = .returned (.tuple #[.agg (ed F.unit F.tid F.msg x),vI E])∧(aJ true w' (fb F.msg x).toList F.msg∧(0≤F.unit∧F.unit<256)∧(0≤F.tid∧F.tid<65536))∧aH [] w w'):=by
 refine en 13 Tryz.func273 rfl<|sg<|L0<|d6 #[] fun q r s t a=>aK rU fun u v h i j=>Pl 1<|aM 2<|?_
 have c:=aI a j
 refine ay<|e2 (pY hX (aZ.old hsl c) hb) fun x20 y k d=>?_
 obtain⟨l,n,o⟩:=k
 refine Pl 2<|?_
 have f:=ub d i
 refine aG f (ed F.unit F.tid F.msg x20) fun z p g=>ai 1<|rt<|bJ p (vI E)<|?_
 exact⟨x20,rfl,⟨(aJ.upd l g (ax (b7 f (by decide)) aN)),n,o⟩,(ud c (uz d g) (le a.size h))⟩
theorem sI{m:Md}{A:Option Addr}{cp:Nat}{b:List Int}{w:World}{dir:Int}{F:dt}{E:Int}(hX:dA dir b=(F,E))(hsl:aZ m w (.slice A b.length cp) b)(hb:b.length≤1048576) : Calls Tryz.prog 50 #[vI 2,vI dir,.slice A b.length cp] w (fun e w'=>∃ x,e = .returned (.tuple #[.agg (ed F.unit F.tid F.msg x),vI E])∧(aJ true w' (fb F.msg x).toList F.msg∧(0≤F.unit∧F.unit<256)∧(0≤F.tid∧F.tid<65536))∧aH [] w w'):=by
 refine en 15 Tryz.func50 rfl<|sg<|aK rU fun r s i j k=>Pl 1<|aM 1<|ay<|m1 (pK) fun t a=>Pl 2<|?_
 have c:=aI k a
 refine L0<|yZ (f:=273) (args:=#[.agg #[],vI dir,.slice A b.length cp]) 135 (.agg #[]) (.agg #[])<|e2 (Am hX (aZ.old hsl c) hb) fun x17 u l d=>?_
 obtain⟨n,o,p⟩:=l
 refine Pl 2<|?_
 have g:=ub (aI a d) j
 refine aG g (ed F.unit F.tid F.msg x17) fun v q h=>ai 1<|rt<|bJ q (vI E)<|?_
 exact⟨x17,rfl,⟨(aJ.upd n h (ax (b7 g (by decide)) aN)),o,p⟩,(ud c (uz d h) i)⟩
theorem ss{m:Md}{x:SL}{M:aU}{w:World}{dir u t:Int}(h:aJ m w (fb M x).toList M)(hf:bB M)(hbu:0≤u∧u<256)(hbt:0≤t∧t<65536) : Calls Tryz.prog 262 #[.int .i64 dir,.agg (ed u t M x)] w (s8 (fN dir u t M) w):=by
  cases hX:fN dir u t M with
  | none =>
    refine(qO hX h hf hbu hbt).mono ?_
    rintro e w' ⟨rfl,hu⟩
    exact⟨_,_,rfl,⟨rfl,rfl⟩,hu⟩
  | some l =>
    refine(qE hX h hf hbu hbt).mono ?_
    rintro e w' ⟨v,rfl,ho,hu⟩
    exact⟨_,_,rfl,⟨rfl,fU.of ho⟩,hu⟩
theorem zW{m:Md}{x:SL}{M:aU}{w:World}{dir u t:Int}(h:aJ m w (fb M x).toList M)(hf:bB M)(hbu:0≤u∧u<256)(hbt:0≤t∧t<65536) : Calls Tryz.prog 261 #[.agg #[],vI dir,.agg (ed u t M x)] w (s8 (fN dir u t M) w):=by
 refine en 13 Tryz.func261 rfl<|sg<|L0<|d6 #[] fun j k l n b=>L0<|d6 (ed u t M x) fun o p q c d=>Pl 2<|aM 1<|L0<|bN c<|?_
 have a:=aI b d
 refine ay<|xB (ss (dir:=dir) (aJ.old h a) hf hbu hbt) fun e f r g i=>ai 4<|rt<|rr (.tuple #[e,vI f])<|?_
 exact⟨_,_,rfl,g.wk a.size,(aI a i)⟩
theorem sO{m:Md}{x:SL}{M:aU}{w:World}{dir u t:Int}(h:aJ m w (fb M x).toList M)(hf:bB M)(hbu:0≤u∧u<256)(hbt:0≤t∧t<65536) : Calls Tryz.prog 27 #[vI 0,vI dir,.agg (ed u t M x)] w (s8 (fN dir u t M) w):=by
 refine en 15 Tryz.func27 rfl<|sg<|L0<|d6 (ed u t M x) fun d s v n o=>ai 2<|sq<|Rg 9 (fun w'=>w'.heap[d]? = some (.cells (ed u t M x) 47 (0,0))) fun y e=>?_
 have i:=ub e n
 refine bo i fun b=>Rt 0 b<|Rt 2 b<|Rr 3 b (.agg (ed u t M x)) (fun w' hs=>iw (g:=d) (off:=0) [vB u,vW t,vB M.code,vB M.fail,vW M.addr,vW M.count,vW M.value,vW M.and_,vW M.or_,vW M.addr2,vW M.sub,vW M.status,vW M.events,vW M.messages,.slice x.aw M.words.length x.kw,.slice x.ab M.bits.length x.kb,.slice x.ad M.data.length x.kd,.slice x.ar M.recs.length x.kr,vB M.mei,vB M.kind,vB M.level,vB M.more,vB M.next,.slice x.ao M.objects.length x.ko] rfl (by kernel_rfl) hs (by kernel_rfl) (by kernel_rfl) rfl)<|R0 1 rfl<|Oc<|m1 (pB) fun z j=>?_
 have k:=ub j i
 refine bo k fun A=>?_
 have c:=aI o (aI e j)
 refine R0 4 rfl<|yZ (f:=261) (args:=#[.agg #[],vI dir,.agg (ed u t M x)]) 133 (.agg #[]) (.agg #[])<|xB (zW (dir:=dir) (aJ.old h c) hf hbu hbt) fun p q B r l=>?_
 refine bo (ub l k) fun a=>Rt 5 a<|Rt 6 a<|Rt 7 a<|Rt 8 a<|re<|tn<|rt<|rr (.tuple #[p,vI q])<|?_
 exact⟨_,_,rfl,r.wk c.size,(aI c l)⟩
theorem se{m:Md}{x:SL}{M:aU}{w:World}{dir u t:Int}(h:aJ m w (fb M x).toList M)(hf:bB M)(hbu:0≤u∧u<256)(hbt:0≤t∧t<65536) : Calls Tryz.prog 266 #[.int .i64 dir,.agg (ed u t M x)] w (s8 (fI dir u t M) w):=by
  cases hX:fI dir u t M with
  | none =>
    refine(rX hX h hf hbu hbt).mono ?_
    rintro e w' ⟨rfl,hu⟩
    exact⟨_,_,rfl,⟨rfl,rfl⟩,hu⟩
  | some l =>
    refine(rh hX h hf hbu hbt).mono ?_
    rintro e w' ⟨v,rfl,ho,hu⟩
    exact⟨_,_,rfl,⟨rfl,fU.ofF ho⟩,hu⟩
theorem A0{m:Md}{x:SL}{M:aU}{w:World}{dir u t:Int}(h:aJ m w (fb M x).toList M)(hf:bB M)(hbu:0≤u∧u<256)(hbt:0≤t∧t<65536) : Calls Tryz.prog 265 #[.agg #[],vI dir,.agg (ed u t M x)] w (s8 (fI dir u t M) w):=by
 refine en 13 Tryz.func265 rfl<|sg<|L0<|d6 #[] fun j k l n b=>L0<|d6 (ed u t M x) fun o p q c d=>Pl 2<|aM 1<|L0<|bN c<|?_
 have a:=aI b d
 refine ay<|xB (se (dir:=dir) (aJ.old h a) hf hbu hbt) fun e f r g i=>ai 4<|rt<|rr (.tuple #[e,vI f])<|?_
 exact⟨_,_,rfl,g.wk a.size,(aI a i)⟩
theorem tu{m:Md}{x:SL}{M:aU}{w:World}{dir u t:Int}(h:aJ m w (fb M x).toList M)(hf:bB M)(hbu:0≤u∧u<256)(hbt:0≤t∧t<65536) : Calls Tryz.prog 27 #[vI 1,vI dir,.agg (ed u t M x)] w (s8 (fI dir u t M) w):=by
 refine en 15 Tryz.func27 rfl<|sg<|L0<|d6 (ed u t M x) fun d s v n o=>ai 2<|sq<|Rg 9 (fun w'=>w'.heap[d]? = some (.cells (ed u t M x) 47 (0,0))) fun y e=>?_
 have i:=ub e n
 refine bo i fun b=>Rt 0 b<|Rt 2 b<|Rr 3 b (.agg (ed u t M x)) (fun w' hs=>iw (g:=d) (off:=0) [vB u,vW t,vB M.code,vB M.fail,vW M.addr,vW M.count,vW M.value,vW M.and_,vW M.or_,vW M.addr2,vW M.sub,vW M.status,vW M.events,vW M.messages,.slice x.aw M.words.length x.kw,.slice x.ab M.bits.length x.kb,.slice x.ad M.data.length x.kd,.slice x.ar M.recs.length x.kr,vB M.mei,vB M.kind,vB M.level,vB M.more,vB M.next,.slice x.ao M.objects.length x.ko] rfl (by kernel_rfl) hs (by kernel_rfl) (by kernel_rfl) rfl)<|R0 1 rfl<|Oc<|m1 (ug) fun z j=>?_
 have k:=ub j i
 refine bo k fun A=>?_
 have c:=aI o (aI e j)
 refine R0 4 rfl<|yZ (f:=265) (args:=#[.agg #[],vI dir,.agg (ed u t M x)]) 134 (.agg #[]) (.agg #[])<|xB (A0 (dir:=dir) (aJ.old h c) hf hbu hbt) fun p q B r l=>?_
 refine bo (ub l k) fun a=>Rt 5 a<|Rt 6 a<|Rt 7 a<|Rt 8 a<|re<|tn<|rt<|rr (.tuple #[p,vI q])<|?_
 exact⟨_,_,rfl,r.wk c.size,(aI c l)⟩
theorem rQ{m:Md}{x:SL}{M:aU}{w:World}{dir u t:Int}(h:aJ m w (fb M x).toList M)(hf:bB M)(hbu:0≤u∧u<256)(hbt:0≤t∧t<65536) : Calls Tryz.prog 275 #[.int .i64 dir,.agg (ed u t M x)] w (s8 (ej dir u t M) w):=by
  cases hX:ej dir u t M with
  | none =>
    refine(oZ hX h hf hbu hbt).mono ?_
    rintro e w' ⟨rfl,hu⟩
    exact⟨_,_,rfl,⟨rfl,rfl⟩,hu⟩
  | some l =>
    refine(p6 hX h hf hbu hbt).mono ?_
    rintro e w' ⟨v,rfl,ho,hu⟩
    exact⟨_,_,rfl,⟨rfl,fU.of ho⟩,hu⟩
theorem A9{m:Md}{x:SL}{M:aU}{w:World}{dir u t:Int}(h:aJ m w (fb M x).toList M)(hf:bB M)(hbu:0≤u∧u<256)(hbt:0≤t∧t<65536) : Calls Tryz.prog 274 #[.agg #[],vI dir,.agg (ed u t M x)] w (s8 (ej dir u t M) w):=by
 refine en 13 Tryz.func274 rfl<|sg<|L0<|d6 #[] fun j k l n b=>L0<|d6 (ed u t M x) fun o p q c d=>Pl 2<|aM 1<|L0<|bN c<|?_
 have a:=aI b d
 refine ay<|xB (rQ (dir:=dir) (aJ.old h a) hf hbu hbt) fun e f r g i=>ai 4<|rt<|rr (.tuple #[e,vI f])<|?_
 exact⟨_,_,rfl,g.wk a.size,(aI a i)⟩
theorem mu{m:Md}{x:SL}{M:aU}{w:World}{dir u t:Int}(h:aJ m w (fb M x).toList M)(hf:bB M)(hbu:0≤u∧u<256)(hbt:0≤t∧t<65536) : Calls Tryz.prog 27 #[vI 2,vI dir,.agg (ed u t M x)] w (s8 (ej dir u t M) w):=by
 refine en 15 Tryz.func27 rfl<|sg<|L0<|d6 (ed u t M x) fun d s v n o=>ai 2<|sq<|Rg 9 (fun w'=>w'.heap[d]? = some (.cells (ed u t M x) 47 (0,0))) fun y e=>?_
 have i:=ub e n
 refine bo i fun b=>Rt 0 b<|Rt 2 b<|Rr 3 b (.agg (ed u t M x)) (fun w' hs=>iw (g:=d) (off:=0) [vB u,vW t,vB M.code,vB M.fail,vW M.addr,vW M.count,vW M.value,vW M.and_,vW M.or_,vW M.addr2,vW M.sub,vW M.status,vW M.events,vW M.messages,.slice x.aw M.words.length x.kw,.slice x.ab M.bits.length x.kb,.slice x.ad M.data.length x.kd,.slice x.ar M.recs.length x.kr,vB M.mei,vB M.kind,vB M.level,vB M.more,vB M.next,.slice x.ao M.objects.length x.ko] rfl (by kernel_rfl) hs (by kernel_rfl) (by kernel_rfl) rfl)<|R0 1 rfl<|Oc<|m1 (pK) fun z j=>?_
 have k:=ub j i
 refine bo k fun A=>?_
 have c:=aI o (aI e j)
 refine R0 4 rfl<|yZ (f:=274) (args:=#[.agg #[],vI dir,.agg (ed u t M x)]) 135 (.agg #[]) (.agg #[])<|xB (A9 (dir:=dir) (aJ.old h c) hf hbu hbt) fun p q B r l=>?_
 refine bo (ub l k) fun a=>Rt 5 a<|Rt 6 a<|Rt 7 a<|Rt 8 a<|re<|tn<|rt<|rr (.tuple #[p,vI q])<|?_
 exact⟨_,_,rfl,r.wk c.size,(aI c l)⟩
theorem Az{m:Md}{x:SL}{M:aU}{w:World}{dir u t:Int}(h:aJ m w (fb M x).toList M)(hf:bB M)(hbu:0≤u∧u<256)(hbt:0≤t∧t<65536) : Calls Tryz.prog 278 #[.agg #[],vI dir,.agg (ed u t M x)] w (s8 (none) w):=by
 refine en 8 Tryz.func278 rfl<|sg<|L0<|d6 #[] fun c d e f a=>L0<|d6 (ed u t M x) fun g i j k b=>Pl 2<|cE 2<|rt<|rr (.tuple #[nS,vI 1])<|?_
 exact⟨_,_,rfl,⟨rfl,rfl⟩,(aI a b)⟩
theorem si{m:Md}{x:SL}{M:aU}{w:World}{dir u t:Int}(h:aJ m w (fb M x).toList M)(hf:bB M)(hbu:0≤u∧u<256)(hbt:0≤t∧t<65536){k:Int}(h0:(k==0)=false)(h1:(k==1)=false)(h2:(k==2)=false) : Calls Tryz.prog 27 #[vI k,vI dir,.agg (ed u t M x)] w (s8 (none) w):=by
 refine en 15 Tryz.func27 rfl<|sg<|L0<|d6 (ed u t M x) fun d v y o p=>ai 2<|sq<|Rg 9 (fun w'=>w'.heap[d]? = some (.cells (ed u t M x) 47 (0,0))) fun z e=>?_
 have i:=ub e o
 refine bo i fun b=>Rt 0 b<|Rt 2 b<|Rr 3 b (.agg (ed u t M x)) (fun w' hs=>iw (g:=d) (off:=0) [vB u,vW t,vB M.code,vB M.fail,vW M.addr,vW M.count,vW M.value,vW M.and_,vW M.or_,vW M.addr2,vW M.sub,vW M.status,vW M.events,vW M.messages,.slice x.aw M.words.length x.kw,.slice x.ab M.bits.length x.kb,.slice x.ad M.data.length x.kd,.slice x.ar M.recs.length x.kr,vB M.mei,vB M.kind,vB M.level,vB M.more,vB M.next,.slice x.ao M.objects.length x.ko] rfl (by kernel_rfl) hs (by kernel_rfl) (by kernel_rfl) rfl)<|R0 1 rfl<|Oc<|m1 (tK h0 h1 h2) fun A j=>?_
 have l:=ub j i
 refine bo l fun B=>?_
 have c:=aI p (aI e j)
 refine R0 4 rfl<|yZ (f:=278) (args:=#[.agg #[],vI dir,.agg (ed u t M x)]) 136 (.agg #[]) (.agg #[])<|xB (Az (dir:=dir) (aJ.old h c) hf hbu hbt) fun q r C s n=>?_
 refine bo (ub n l) fun a=>Rt 5 a<|Rt 6 a<|Rt 7 a<|Rt 8 a<|re<|tn<|rt<|rr (.tuple #[q,vI r])<|?_
 exact⟨_,_,rfl,s.wk c.size,(aI c n)⟩
theorem ou{k:Int}{m:Md}{x:SL}{M:aU}{w:World}{dir u t:Int}(h:aJ m w (fb M x).toList M)(hf:bB M)(hbu:0≤u∧u<256)(hbt:0≤t∧t<65536) : Calls Tryz.prog 27 #[.int .i64 k,.int .i64 dir,.agg (ed u t M x)] w (s8 (iF k dir u t M) w):=by
  refine k4 k (fun e=>?_) (fun e=>?_) (fun e=>?_) (fun h0 h1 h2=>?_)
  · subst e;exact sO h hf hbu hbt
  · subst e;exact tu h hf hbu hbt
  · subst e;exact mu h hf hbu hbt
  · rw[yM h0 h1 h2];exact si h hf hbu hbt h0 h1 h2
theorem rR{k:Int}{m:Md}{x:SL}{M:aU}{w:World}{dir u t:Int}(h:aJ m w (fb M x).toList M)(hf:bB M)(hbu:0≤u∧u<256)(hbt:0≤t∧t<65536)(hX:iF k dir u t M=none) : Calls Tryz.prog 27 #[.int .i64 k,.int .i64 dir,.agg (ed u t M x)] w (fun e w'=>e = .returned (.tuple #[.slice none 0 0,.int .i64 1])∧aH [] w w'):=by
  refine(ou h hf hbu hbt).mono ?_
  rw[hX]
  rintro e w' ⟨v,n,rfl,⟨rfl,rfl⟩,hu⟩
  exact⟨rfl,hu⟩
theorem s6{k:Int}{m:Md}{x:SL}{M:aU}{w:World}{dir u t:Int}{l:List Int}(h:aJ m w (fb M x).toList M)(hf:bB M)(hbu:0≤u∧u<256)(hbt:0≤t∧t<65536)(hX:iF k dir u t M=some l) : Calls Tryz.prog 27 #[.int .i64 k,.int .i64 dir,.agg (ed u t M x)] w (fun e w'=>∃ v,e = .returned (.tuple #[v,.int .i64 0])∧fU w.heap.size w' v l∧aH [] w w'):=by
  refine(ou h hf hbu hbt).mono ?_
  rw[hX]
  rintro e w' ⟨v,n,rfl,⟨rfl,ho⟩,hu⟩
  exact⟨v,rfl,ho,hu⟩
open Go.RowKit
theorem D8:ei 0 [1,7,65,226]=(⟨1,0,kJ⟩,0):=by decide +kernel
theorem D4:ej 0 1 0 kJ=some [0,0,0,0,0,2,1,7]:=by decide +kernel
theorem CR:dA 0 [0,0,0,0,0,2,1,7]=(⟨1,0,kJ⟩,0):=by decide +kernel
theorem D0:bB kJ:=⟨by decide,by decide,by decide,by decide,(fun r h=>by cases h),by decide,(fun r h=>by cases h)⟩
theorem fU.shape{base:Nat}{w:World}{v:Value}{xs:List Int}(h:fU base w v xs) : ∃ A cp,v = .slice A xs.length cp∧aZ true w (.slice A xs.length cp) xs∧∀ x,x∈ob A→base≤x:=by
  obtain⟨h1,A,n,c,rfl,h2⟩:=h
  obtain⟨A',c',e,_,_⟩:=h1.shape
  injection e with e1 e2 e3
  subst e1 e2 e3
  exact⟨A,c,rfl,h1,h2⟩
theorem t4{m:Md}{A:Option Addr}{cp:Nat}{w:World}(hsl:aZ m w (.slice A 4 cp) [1,7,65,226]) : Calls Tryz.prog 30 #[vI 0,vI 2,vI 0,.slice A 4 cp] w (fun e w'=>∃ v,e = .returned (.tuple #[v,vI 0])∧fU w.heap.size w' v [0,0,0,0,0,2,1,7]∧aH [] w w'):=by
 refine en 40 Tryz.func30 rfl<|aE 2<|sq<|al 1<|ay<|m1 (n0 (k:=0)) fun E a=>Pl 3<|L1<|Oc<|m1 (n0 (k:=2)) fun F b=>Pl 2<|nl<|tn<|c0<|bj<|al 3<|?_
 have c:=aI a b
 refine ay<|e2 (sc D8 (aZ.old hsl c) (by decide)) fun x14 G j d=>?_
 obtain⟨l,H,I⟩:=j
 refine Pl 3<|aK rU fun J K n o f=>aG o #[vB 1,vW 0,vB 7,vB 0,vW 0,vW 0,vW 0,vW 0,vW 0,vW 0,vW 0,vW 0,vW 0,vW 0,.slice x14.aw kJ.words.length x14.kw,.slice x14.ab kJ.bits.length x14.kb,.slice x14.ad kJ.data.length x14.kd,.slice x14.ar kJ.recs.length x14.kr,vB 0,vB 0,vB 0,vB 0,vB 0,.slice x14.ao kJ.objects.length x14.ko] fun L p g=>ai 1<|sq<|aE 2<|c0<|sk<|tn<|sq<|aE 2<|c0<|bj<|al 2<|L0<|bN p<|?_
 have h:=ud f g n
 have i:=mu (dir:=0) (u:=1) (t:=0) (aJ.upd l h aN) D0 (by decide) (by decide)
 rw[D4] at i
 refine ay<|xB i fun M N O q r=>?_
 obtain⟨s,y⟩:=q
 subst s
 obtain⟨z,B,rfl,C,D⟩:=fU.shape y
 refine ai 4<|rt<|rr (.tuple #[.slice z (([0,0,0,0,0,2,1,7]).length) B,vI 0])<|?_
 exact⟨_,rfl,(show fU _ _ _ _ from⟨C,_,_,_,rfl,fun x hx=>Nat.le_trans (le (le (le (le a.size b.size) d.size) f.size) g.size) (D x hx)⟩),(aI c (aI d (aI h r)))⟩
theorem vJ{m:Md}{v:Value}{w:World}(h:aZ m w v [1,7,65,226]) : Calls Tryz.prog 30 #[.int .i64 0,.int .i64 2,.int .i64 0,v] w (fun e w'=>∃ v,e = .returned (.tuple #[v,.int .i64 0])∧fU w.heap.size w' v [0,0,0,0,0,2,1,7]∧aH [] w w'):=by
  obtain⟨A,cp,rfl,_,_⟩:=h.shape
  exact t4 h
theorem zY{w:World}:Calls Tryz.prog 25 #[] w (cl (.bool true) w):=by
 refine en 42 Tryz.func25 rfl<|al 1<|ng<|L0<|cY (m:=4) (e:=5) #[vB 1,vB 7,vB 65,vB 226] fun B C h i j=>?_
 have l:=cG h (xs:=[1,7,65,226]) (by as_aux_lemma=>kernel_rfl) (am (by omega) (am (by omega) (am (by omega) (am (by omega) aR)))) (by(try simp only[List.length_cons,List.length_nil]);omega) i
 refine ay<|e2 (vJ (l).rd) fun D E o p=>?_
 obtain⟨q,r,rfl,d,F⟩:=fU.shape o
 refine Pl 5<|aM 1<|ay<|e2 (sI CR d (by decide)) fun x25 G s t=>?_
 obtain⟨H,I,J⟩:=s
 refine Pl 3<|aK rU fun K L u v x=>aG v #[vB 1,vW 0,vB 7,vB 0,vW 0,vW 0,vW 0,vW 0,vW 0,vW 0,vW 0,vW 0,vW 0,vW 0,.slice x25.aw kJ.words.length x25.kw,.slice x25.ab kJ.bits.length x25.kb,.slice x25.ad kJ.data.length x25.kd,.slice x25.ar kJ.recs.length x25.kr,vB 0,vB 0,vB 0,vB 0,vB 0,.slice x25.ao kJ.objects.length x25.ko] fun M f y=>Pl 1<|aM 8<|?_
 have g:=aI t (ud x y u)
 refine L1<|ik (.string (strOfNums ([0,0,0,0,0,2,1,7]))) (cV (A:=q) (n:=([0,0,0,0,0,2,1,7]).length) (c:=r) rfl (by kernel_rfl) Tryz.underlying27 Tryz.underlying5 Tryz.underlying9 (aZ.upd' d g aN))<|L1<|ik (.bool true) (gx (a:=(strOfNums ([0,0,0,0,0,2,1,7]))) (b:=⟨#[0,0,0,0,0,2,1,7]⟩) rfl (by kernel_rfl) (by kernel_rfl) (A8 rfl (by decide)))<|Pl 4<|L1<|dD f 0<|Pl 5<|L1<|dD f 2<|Pl 3<|L1<|Oc<|m1 (n0 (k:=1)) fun N z=>ai 3<|rt<|rr (.bool true)<|?_
 exact⟨rfl,(aI j (aI p (aI g z)))⟩
end Go.Proofs.YtdkhbcefkfgbdaaGreat
namespace Go.Proofs.YtdkhbcefkfgbdaaGreat
def fm (C:ah) : Prop:=∀ x,x∈C.l→0≤x∧x<256
theorem gT{C:ah}{ok:Bool}{x:Int}(hx:x≠0)(h:(C.need ok x).e=0) : C.e=0∧ok=true:=by
  unfold ah.need at h
  split at h
  · exact absurd h hx
  · rename_i hh
    refine⟨h,?_⟩
    cases ok
    · exact absurd ⟨h,rfl⟩ hh
    · rfl
theorem i4{C:ah}{n:Int}(h:(C.bytesC n).e=0) : C.e=0∧C.l=C.bytesR n++(C.bytesC n).l∧((C.bytesR n).length:Int)=n:=by
  unfold ah.bytesC at h ⊢
  unfold ah.bytesR
  split at h
  · exfalso
    unfold ah.need at h
    split at h
    · cases h
    · rename_i hh
      exact hh ⟨h,rfl⟩
  · rename_i hf
    rw[if_neg hf,if_neg hf]
    refine⟨h,(List.take_append_drop _ _).symm,?_⟩
    unfold ah.fails at hf
    simp only[Bool.or_eq_true,decide_eq_true_eq,not_or] at hf
    rw[List.length_take]
    omega
theorem mv:∀ (l:List Int),l.length%2=0→(∀ x,x∈l→0≤x∧x<256)→aO (dB l)=l
  | [],_,_=>rfl
  | [_],h,_=>by simp at h
  | a :: b :: r,h,hr=>by
    have ha:=hr a (by simp)
    have hb:=hr b (by simp)
    simp only[dB,aO]
    rw[mv r (by simp at h;omega) (fun x hx=>hr x (by simp[hx]))]
    congr 1
    · omega
    · congr 1
      omega
theorem lv{C:ah}{n:Int}(hr:fm C)(h:(C.wordsC n).e=0) : C.e=0∧C.l=aO (C.wordsR n)++(C.wordsC n).l∧((C.wordsR n).length:Int)=n:=by
  unfold ah.wordsC at h ⊢
  unfold ah.wordsR
  split at h
  · obtain⟨_,_,h3⟩:=i4 h
    omega
  · rename_i hb
    rw[if_neg hb,if_neg hb]
    obtain⟨h1,h2,h3⟩:=i4 h
    have h4:(C.bytesR (2*n)).length%2=0:=by omega
    have h5:∀ x,x∈C.bytesR (2*n)→0≤x∧x<256:=fun x hx=>hr x (by rw[h2];exact List.mem_append_left _ hx)
    unfold cz
    rw[if_pos h4]
    refine⟨h1,by rw[mv _ h4 h5];exact h2,?_⟩
    rw[gf]
    omega
def dE (C:ah)(l:List Int)(C':ah) : Prop:=fm C→fm C'∧(C'.e=0→C.e=0∧C.l=l++C'.l)
theorem dE.trans{A B C:ah}{l m:List Int}(h:dE A l B)(k:dE B m C) : dE A (l++m) C:=fun hr=>by
  obtain⟨h1,h2⟩:=h hr
  obtain⟨k1,k2⟩:=k h1
  refine⟨k1,fun he=>?_⟩
  obtain⟨k3,k4⟩:=k2 he
  obtain⟨h3,h4⟩:=h2 k3
  exact⟨h3,by rw[h4,k4,List.append_assoc]⟩
theorem dE.refl(C:ah) : dE C [] C:=fun hr=>⟨hr,fun he=>⟨he,rfl⟩⟩
theorem dE.need{A C:ah}{l:List Int}{ok:Bool}{x:Int}(h:dE A l C)(hx:x≠0:=by decide) : dE A l (C.need ok x):=fun hr=>by
  obtain⟨h1,h2⟩:=h hr
  refine⟨fun y hy=>h1 y (by rwa [l6] at hy),fun he=>?_⟩
  rw[l6]
  exact h2 (gT hx he).1
theorem dE.bytes{A C:ah}{l:List Int}(h:dE A l C)(n:Int) : dE A (l++C.bytesR n) (C.bytesC n):=h.trans fun hr=>⟨iC hr n,fun he=>⟨(i4 he).1,(i4 he).2.1⟩⟩
theorem dE.words{A C:ah}{l:List Int}(h:dE A l C)(n:Int) : dE A (l++aO (C.wordsR n)) (C.wordsC n):=h.trans fun hr=>⟨cU hr n,fun he=>⟨(lv hr he).1,(lv hr he).2.1⟩⟩
theorem wV{l:List Int}(h:(l.length:Int)=1) : l=[l.getD 0 0]:=by
  match l,h with
  | [a],_=>rfl
  | [],h=>simp at h
  | _ :: _ :: _,h=>simp at h;omega
theorem dE.byte{A C:ah}{l:List Int}(h:dE A l C) : dE A (l++[C.byteV]) (C.bytesC 1):=h.trans fun hr=>⟨iC hr 1,fun he=>by
  obtain⟨h1,h2,h3⟩:=i4 he
  refine⟨h1,?_⟩
  have:=wV h3
  show C.l=[(C.bytesR 1).getD 0 0]++_
  rw[← this]
  exact h2⟩
theorem dE.word{A C:ah}{l:List Int}(h:dE A l C) : dE A (l++aO [C.wordV]) (C.wordsC 1):=h.trans fun hr=>⟨cU hr 1,fun he=>by
  obtain⟨h1,h2,h3⟩:=lv hr he
  refine⟨h1,?_⟩
  have:=wV h3
  show C.l=aO [(C.wordsR 1).getD 0 0]++_
  rw[← this]
  exact h2⟩
theorem dE.fin{A C:ah}{l:List Int}(h:dE A l C)(hr:fm A)(he:C.endC.e=0) : C.e=0∧A.l=l:=by
  unfold ah.endC at he
  obtain⟨h1,h2⟩:=gT (by decide) he
  obtain⟨_,h3⟩:=(h hr).2 h1
  have:C.l=[]:=by
    simp only[beq_iff_eq] at h2
    exact List.eq_nil_of_length_eq_zero (by omega)
  exact⟨h1,by rw[h3,this,List.append_nil]⟩
theorem db{C:ah}(hr:fm C) : 0≤C.byteV∧C.byteV<256:=by
  unfold ah.byteV
  rw[List.getD_eq_getElem?_getD]
  cases h:(C.bytesR 1)[0]? with
  | none=>simp
  | some x =>
    have hm:x∈C.bytesR 1:=List.mem_of_getElem? h
    have:x∈C.l:=by
      unfold ah.bytesR at hm
      split at hm
      · cases hm
      · exact List.mem_of_mem_take hm
    exact hr x this
theorem mI(C:ah)(most:Int) : dE C (aO [C.wordV,(C.wordsC 1).wordV]) (bV C most):=by
  have:=(((dE.refl C).word).word)
  exact(this.need).need
theorem zz:∀ n:Nat,n<256→(((if ((n:Int)/2 ^ 0%2==1) then 1 else 0)+(if ((n:Int)/2 ^ 1%2==1) then 2 else 0)+(if ((n:Int)/2 ^ 2%2==1) then 4 else 0)+(if ((n:Int)/2 ^ 3%2==1) then 8 else 0)+(if ((n:Int)/2 ^ 4%2==1) then 16 else 0)+(if ((n:Int)/2 ^ 5%2==1) then 32 else 0)+(if ((n:Int)/2 ^ 6%2==1) then 64 else 0)+(if ((n:Int)/2 ^ 7%2==1) then 128 else 0) : Nat) : Int)=n:=by decide +kernel
theorem nJ{x:Int}(hx:0≤x∧x<256)(f:Nat→Bool)(hf:∀ i,i<8→f i=(x/2 ^ i%2==1)) :
    (((if f 0 then 1 else 0)+(if f 1 then 2 else 0)+(if f 2 then 4 else 0)+(if f 3 then 8 else 0)+(if f 4 then 16 else 0)+(if f 5 then 32 else 0)+(if f 6 then 64 else 0)+(if f 7 then 128 else 0) : Nat) : Int)=x:=by
  rw[hf 0 (by decide),hf 1 (by decide),hf 2 (by decide),hf 3 (by decide),hf 4 (by decide),hf 5 (by decide),hf 6 (by decide),hf 7 (by decide)]
  obtain⟨n,rfl⟩:=Int.eq_ofNat_of_zero_le hx.1
  exact zz n (by omega)
theorem lH{b:List Int}{n:Int}{l:List Bool}(hr:∀ x,x∈b→0≤x∧x<256)(h:cQ b n=some l) : bS l=b:=by
  unfold cQ at h
  split at h
  · rename_i hc
    split at h
    · rename_i hall
      injection h with h
      subst h
      have hlen:((List.range n.toNat).map (cJ b)).length=n.toNat:=by simp
      have hm:((List.range n.toNat).map (cJ b)).length=n:=by rw[hlen];omega
      unfold bS
      rw[hm,← hc.2]
      apply List.ext_getElem
      · simp
      intro j h1 h2
      simp only[List.getElem_map,List.getElem_range]
      have hj:j<b.length:=h2
      have hget:∀ i,i<8*b.length→((List.range n.toNat).map (cJ b)).getD i false=cJ b i:=fun i hi=>by
        rw[List.getD_eq_getElem?_getD,List.getElem?_map]
        by_cases hin:i<n.toNat
        · rw[List.getElem?_range hin];rfl
        · rw[List.getElem?_eq_none (by simpa using hin)]
          rw[List.all_eq_true] at hall
          have:=hall i (by simpa using hi)
          simp only[Bool.or_eq_true,decide_eq_true_eq,Bool.not_eq_true'] at this
          rcases this with h3|h3
          · omega
          · simp[h3]
      have hx:∀ k,k<8→cJ b (8*j+k)=(b[j]/2 ^ k%2==1):=fun k hk=>by
        unfold cJ
        rw[show(8*j+k)/8=j from by omega,show(8*j+k)%8=k from by omega,List.getD_eq_getElem?_getD,List.getElem?_eq_getElem hj]
        rfl
      unfold ck
      rw[show(8*j:Nat)=8*j+0 from rfl]
      simp only[hget _ (show 8*j+0<8*b.length by omega),hget _ (show 8*j+0+1<8*b.length by omega),hget _ (show 8*j+0+2<8*b.length by omega),hget _ (show 8*j+0+3<8*b.length by omega),hget _ (show 8*j+0+4<8*b.length by omega),hget _ (show 8*j+0+5<8*b.length by omega),hget _ (show 8*j+0+6<8*b.length by omega),hget _ (show 8*j+0+7<8*b.length by omega)]
      exact nJ (hr _ (List.getElem_mem hj)) (fun k=>cJ b (8*j+k)) hx
    · cases h
  · cases h
end Go.Proofs.YtdkhbcefkfgbdaaGreat
namespace Go.Proofs.YtdkhbcefkfgbdaaGreat
theorem bW{α β:Type}{p:α × β}{a:α}{b:β}(h:some p=some (a,b)) : p.1=a∧p.2=b:=by
  injection h with h
  rw[h]
  exact⟨rfl,rfl⟩
theorem tR{C:ah}{most c:Int}(hr:fm C)(he:(eE most c C).1.endC.e=0) : aO [C.wordV,(C.wordsC 1).wordV]=C.l:=((mI C most).fin hr he).2.symm
theorem yU{C:ah}{c:Int}(hr:fm C)(he:(ep c C).1.endC.e=0) : [(((eb C).bytesR C.byteV).length:Int)%256]++(eb C).bytesR C.byteV=C.l:=by
  have hbv:=db hr
  have hE:dE C ([]++[C.byteV]++(eb C).bytesR C.byteV) ((eb C).bytesC C.byteV):=(((dE.refl C).byte).need).bytes _
  obtain⟨h1,h2⟩:=hE.fin hr he
  obtain⟨_,_,h3⟩:=i4 h1
  rw[h2,h3,Int.emod_eq_of_lt hbv.1 hbv.2]
  rfl
theorem yi{C:ah}{c:Int}(hr:fm C)(he:(dX c C).1.endC.e=0) : aO [C.wordV,(C.wordsC 1).wordV]=C.l:=by
  have hE:dE C ([]++aO [C.wordV]++aO [(C.wordsC 1).wordV]) (fR C):=(((dE.refl C).word).word).need
  rw[(hE.fin hr he).2]
  rfl
theorem Cz{C:ah}{c:Int}(hr:fm C)(he:(iR c C).1.endC.e=0) : (aO [C.wordV,(C.wordsC 1).wordV]++[((bS ((s9 C).getD [])).length:Int)%256])++bS ((s9 C).getD [])=C.l:=by
  have hE:dE C (aO [C.wordV,(C.wordsC 1).wordV]++[(bV C 1968).byteV]++(iX C).bytesR (oL C)) (sa C):=(((((mI C 1968).byte).need).bytes _).need)
  obtain⟨h1,h2⟩:=hE.fin hr he
  obtain⟨h3,h4⟩:=gT (by decide) h1
  obtain⟨_,_,h5⟩:=i4 h3
  obtain⟨l,hl⟩:=Option.isSome_iff_exists.1 h4
  have hB:∀ x,x∈(iX C).bytesR (oL C)→0≤x∧x<256:=fun x hx=>hr x (by rw[h2];exact List.mem_append_right _ hx)
  have h6:bS l=(iX C).bytesR (oL C):=lH hB hl
  have hk:0≤oL C∧oL C<256:=db ((mI C 1968) hr).1
  rw[hl]
  show(aO [C.wordV,(C.wordsC 1).wordV]++[((bS l).length:Int)%256])++bS l=C.l
  rw[h6,h2,h5,Int.emod_eq_of_lt hk.1 hk.2]
  rfl
theorem yN{dir c:Int}{C C':ah}{M:aU}(hd:dir=0∨dir=1)(hr:fm C)(h:aP dir c C=some (C',M))(he:C'.endC.e=0) : cD dir M=C.l:=by
  unfold aP at h
  split at h
  · rename_i hc
    simp only[Bool.or_eq_true,beq_iff_eq] at hc
    rcases hd with rfl|rfl
    · have h:some (eE 2000 c C)=some (C',M):=h
      obtain⟨rfl,rfl⟩:=bW h
      rcases hc with rfl|rfl<;>exact tR hr he
    · have h:some (ep c C)=some (C',M):=h
      obtain⟨rfl,rfl⟩:=bW h
      rcases hc with rfl|rfl<;>exact yU hr he
  split at h
  · rename_i hc
    obtain rfl:c=5:=by simpa using hc
    obtain⟨rfl,rfl⟩:=bW h
    exact yi hr he
  split at h
  · rename_i hc
    obtain rfl:c=15:=by simpa using hc
    rcases hd with rfl|rfl
    · have h:some (iR 15 C)=some (C',M):=h
      obtain⟨rfl,rfl⟩:=bW h
      exact Cz hr he
    · have h:some (eE 1968 15 C)=some (C',M):=h
      obtain⟨rfl,rfl⟩:=bW h
      exact tR hr he
  · cases h
theorem jH{A C:ah}{l:List Int}(h:dE A l C)(a most:Int) : dE A (l++aO [C.wordV]) (bP C a most):=((h.word).need).need
theorem CS{n hi:Int}(h:jn n hi=true) : n%2=0∧2≤n∧n≤hi:=by
  unfold jn at h
  simp only[Bool.and_eq_true,decide_eq_true_eq,beq_iff_eq] at h
  exact⟨h.1.1,h.1.2,h.2⟩
theorem rI{c:Int}{C:ah}(hr:fm C)(he:(cH c C).1.endC.e=0) : [(2*(((lI C).wordsR (C.byteV/2)).length:Int))%256]++aO ((lI C).wordsR (C.byteV/2))=C.l:=by
  have hbv:=db hr
  have hE0:dE C ([]++[C.byteV]) (lI C):=((dE.refl C).byte).need
  have hE:=hE0.words (C.byteV/2)
  obtain⟨h1,h2⟩:=hE.fin hr he
  obtain⟨h3,_,h5⟩:=lv (hE0 hr).1 h1
  obtain⟨h6,h7,h8⟩:=CS (gT (by decide) h3).2
  rw[h2,h5,show(2*(C.byteV/2))%256=C.byteV from by omega]
  rfl
theorem rB{most c:Int}{C:ah}(hr:fm C)(he:(co most c C).1.endC.e=0) : aO [C.wordV,(C.wordsC 1).wordV]=C.l:=by
  rw[((jH (dE.refl C).word C.wordV most).fin hr he).2]
  rfl
theorem zC{c:Int}{C:ah}(hr:fm C)(he:(ef c C).1.endC.e=0) : aO [C.wordV,(C.wordsC 1).wordV]=C.l:=by
  rw[(((dE.refl C).word).word.fin hr he).2]
  rfl
theorem lh{A C:ah}{l:List Int}(h:dE A l C)(n:Int) : dE A (l++[C.byteV]) (dc C n):=(h.byte).need
theorem yq{c:Int}{C:ah}(hr:fm C)(he:(dq c C).1.endC.e=0) : (aO [C.wordV,(C.wordsC 1).wordV]++[(2*(((jh C).wordsR (C.wordsC 1).wordV).length:Int))%256])++aO ((jh C).wordsR (C.wordsC 1).wordV)=C.l:=by
  have hE0:dE C _ (bP (C.wordsC 1) C.wordV 123):=jH (dE.refl C).word C.wordV 123
  have hE1:dE C _ (jh C):=lh hE0 (C.wordsC 1).wordV
  have hbv:=db (hE0 hr).1
  obtain⟨h1,h2⟩:=(hE1.words (C.wordsC 1).wordV).fin hr he
  obtain⟨h3,_,h5⟩:=lv (hE1 hr).1 h1
  have h6:=(gT (by decide) h3).2
  simp only[beq_iff_eq] at h6
  rw[h5,← h6,Int.emod_eq_of_lt hbv.1 hbv.2,h2]
  rfl
theorem yL{c:Int}{C:ah}(hr:fm C)(he:(da c C).1.endC.e=0) : aO [C.wordV,(C.wordsC 1).wordV,((C.wordsC 1).wordsC 1).wordV]=C.l:=by
  rw[(((dE.refl C).word).word.word.fin hr he).2]
  rfl
theorem xu{c:Int}{C:ah}(hr:fm C)(he:(dn c C).1.endC.e=0) : (aO [C.wordV,(C.wordsC 1).wordV,(bP (C.wordsC 1) C.wordV 125).wordV,(((iL C).wordsR (gA C).wordV).length:Int)%65536]++[(2*(((iL C).wordsR (gA C).wordV).length:Int))%256])++aO ((iL C).wordsR (gA C).wordV)=C.l:=by
  have hE0:dE C _ (gA C):=(jH (dE.refl C).word C.wordV 125).word
  have hE1:dE C _ (qI C):=jH hE0 (bP (C.wordsC 1) C.wordV 125).wordV 121
  have hE2:dE C _ (iL C):=lh hE1 (gA C).wordV
  have hbv:=db (hE1 hr).1
  have hwv:0≤(gA C).wordV∧(gA C).wordV<65536:=bR (hE0 hr).1
  obtain⟨h1,h2⟩:=(hE2.words (gA C).wordV).fin hr he
  obtain⟨h3,_,h5⟩:=lv (hE2 hr).1 h1
  have h6:=(gT (by decide) h3).2
  simp only[beq_iff_eq] at h6
  rw[h5,Int.emod_eq_of_lt hwv.1 hwv.2,← h6,Int.emod_eq_of_lt hbv.1 hbv.2,h2]
  rfl
theorem wQ{c:Int}{C:ah}(hr:fm C)(he:(dp c C).1.endC.e=0) : aO [C.wordV]=C.l:=by
  rw[((dE.refl C).word.fin hr he).2]
  rfl
theorem CM{c:Int}{C:ah}(hr:fm C)(he:(lZ c C).1.endC.e=0) : aO [(2+2*(((Ay C).wordsR (tI C).wordV).length:Int))%65536,(((Ay C).wordsR (tI C).wordV).length:Int)%65536]++aO ((Ay C).wordsR (tI C).wordV)=C.l:=by
  have hE0:dE C _ (tI C):=((dE.refl C).word).need
  have hE1:dE C _ (Ay C):=(hE0.word).need
  have hwc:0≤C.wordV∧C.wordV<65536:=bR hr
  have hwv:0≤(tI C).wordV∧(tI C).wordV<65536:=bR (hE0 hr).1
  obtain⟨h1,h2⟩:=(hE1.words (tI C).wordV).fin hr he
  obtain⟨h3,_,h5⟩:=lv (hE1 hr).1 h1
  have h6:=(gT (by decide) h3).2
  simp only[beq_iff_eq] at h6
  rw[h5,h6,Int.emod_eq_of_lt hwv.1 hwv.2,Int.emod_eq_of_lt hwc.1 hwc.2,h2]
  rfl
theorem AM{dir c:Int}{C C':ah}{M:aU}(hd:dir=0∨dir=1)(hr:fm C)(h:aW dir c C=some (C',M))(he:C'.endC.e=0) : cm dir M=C.l:=by
  unfold aW at h
  split at h
  · rename_i hc
    simp only[Bool.or_eq_true,beq_iff_eq] at hc
    rcases hd with rfl|rfl
    · have h:some (co 125 c C)=some (C',M):=h
      obtain⟨rfl,rfl⟩:=bW h
      rcases hc with rfl|rfl<;>exact rB hr he
    · have h:some (cH c C)=some (C',M):=h
      obtain⟨rfl,rfl⟩:=bW h
      rcases hc with rfl|rfl<;>exact rI hr he
  split at h
  · rename_i hc
    obtain rfl:c=6:=by simpa using hc
    obtain⟨rfl,rfl⟩:=bW h
    rcases hd with rfl|rfl<;>exact zC hr he
  split at h
  · rename_i hc
    obtain rfl:c=16:=by simpa using hc
    rcases hd with rfl|rfl
    · have h:some (dq 16 C)=some (C',M):=h
      obtain⟨rfl,rfl⟩:=bW h
      exact yq hr he
    · have h:some (co 123 16 C)=some (C',M):=h
      obtain⟨rfl,rfl⟩:=bW h
      exact rB hr he
  split at h
  · rename_i hc
    obtain rfl:c=22:=by simpa using hc
    obtain⟨rfl,rfl⟩:=bW h
    rcases hd with rfl|rfl<;>exact yL hr he
  split at h
  · rename_i hc
    obtain rfl:c=23:=by simpa using hc
    rcases hd with rfl|rfl
    · have h:some (dn 23 C)=some (C',M):=h
      obtain⟨rfl,rfl⟩:=bW h
      exact xu hr he
    · have h:some (cH 23 C)=some (C',M):=h
      obtain⟨rfl,rfl⟩:=bW h
      exact rI hr he
  split at h
  · rename_i hc
    obtain rfl:c=24:=by simpa using hc
    rcases hd with rfl|rfl
    · have h:some (dp 24 C)=some (C',M):=h
      obtain⟨rfl,rfl⟩:=bW h
      exact wQ hr he
    · have h:some (lZ 24 C)=some (C',M):=h
      obtain⟨rfl,rfl⟩:=bW h
      exact CM hr he
  · cases h
end Go.Proofs.YtdkhbcefkfgbdaaGreat
namespace Go.Proofs.YtdkhbcefkfgbdaaGreat
theorem dE.conv{A C:ah}{l l':List Int}(h:dE A l C)(k:fm A→fm C→C.e=0→l=l') : dE A l' C:=fun hr=>by
  obtain⟨h1,h2⟩:=h hr
  refine⟨h1,fun he=>?_⟩
  rw[← k hr h1 he]
  exact h2 he
theorem zv{dir c:Int}{C:ah}(hr:fm C)(he:(eD dir c C).1.endC.e=0) : aO [(eD dir c C).2.sub]++aO (eD dir c C).2.words=C.l:=by
  have hE0:dE C ([]++aO [C.wordV]) (fu dir C):=((dE.refl C).word).need
  unfold eD at he ⊢
  split at he
  · rename_i hw
    rw[if_pos hw]
    exact(((hE0.words 1).need).fin hr he).2.symm
  · rename_i hw
    rw[if_neg hw]
    exact(((hE0.need).words _).fin hr he).2.symm
theorem rP(C:ah)(lo hi:Int) : dE C ([]++[C.byteV]) (fX C lo hi):=((dE.refl C).byte).need
theorem rE{A C:ah}{l:List Int}(h:dE A l C) : dE A (l++aO [C.wordV]) (dW C):=(h.word).need
theorem Ct{c:Int}{C:ah}(hc:c=7∨c=11∨c=12∨c=17)(hr:fm C)(he:(cI c C).1.endC.e=0) : bZ 1 (cI c C).2=C.l:=by
  have hbv:=db hr
  rcases hc with rfl|rfl|rfl|rfl
  · have he:(C.bytesC 1).endC.e=0:=he
    show[C.byteV%256]=C.l
    rw[Int.emod_eq_of_lt hbv.1 hbv.2,((dE.refl C).byte.fin hr he).2]
    rfl
  · have he:((dW C).wordsC 1).endC.e=0:=he
    show aO [C.wordV,(dW C).wordV]=C.l
    rw[((rE (dE.refl C)).word.fin hr he).2]
    rfl
  · have he:((gD C).bytesC (C.byteV-6)).endC.e=0:=he
    have hE:=(((rE (rP C 6 70)).word).word).bytes (C.byteV-6)
    obtain⟨h1,h2⟩:=hE.fin hr he
    obtain⟨_,_,h3⟩:=i4 h1
    show([(6+(((gD C).bytesR (C.byteV-6)).length:Int))%256]++aO [(fX C 6 70).wordV,(dW (fX C 6 70)).wordV,((dW (fX C 6 70)).wordsC 1).wordV])++(gD C).bytesR (C.byteV-6)=C.l
    have h4:(((gD C).bytesR (C.byteV-6)).length:Int)=C.byteV-6:=h3
    rw[h4,show(6+(C.byteV-6))%256=C.byteV from by omega,h2]
    rfl
  · have he:((fX C 1 251).bytesC C.byteV).endC.e=0:=he
    have hE:=(rP C 1 251).bytes C.byteV
    obtain⟨h1,h2⟩:=hE.fin hr he
    obtain⟨_,_,h3⟩:=i4 h1
    show[(((fX C 1 251).bytesR C.byteV).length:Int)%256]++(fX C 1 251).bytesR C.byteV=C.l
    rw[h3,Int.emod_eq_of_lt hbv.1 hbv.2,h2]
    rfl
theorem Cg{c:Int}{C:ah}(hc:c=7∨c=11∨c=12∨c=17)(hr:fm C)(he:C.endC.e=0) : bZ 0 { aU.zero with code:=c }=C.l:=by
  have h:=((dE.refl C).fin hr he).2
  rcases hc with rfl|rfl|rfl|rfl<;>exact h.symm
theorem AX{dir c:Int}{C C':ah}{M:aU}(hd:dir=0∨dir=1)(hr:fm C)(h:bg dir c C=some (C',M))(he:C'.endC.e=0) : bZ dir M=C.l:=by
  unfold bg at h
  split at h
  · rename_i hc
    obtain rfl:c=8:=by simpa using hc
    obtain⟨rfl,rfl⟩:=bW h
    have hco:(eD dir 8 C).2.code=8:=by unfold eD;split<;>rfl
    unfold bZ
    rw[hco,if_pos (by rfl)]
    exact zv hr he
  split at h
  · rename_i hc
    simp only[Bool.or_eq_true,beq_iff_eq] at hc
    have hc:c=7∨c=11∨c=12∨c=17:=by omega
    rcases hd with rfl|rfl
    · have h:some (C,({ aU.zero with code:=c }:aU))=some (C',M):=h
      obtain⟨rfl,rfl⟩:=bW h
      exact Cg hc hr he
    · have h:some (cI c C)=some (C',M):=h
      obtain⟨rfl,rfl⟩:=bW h
      exact Ct hc hr he
  · cases h
theorem ql:∀ (n:Nat)(C:ah)(L:List Obj),∃ L',(eH n C L).2=L++L'∧L'.length=n∧dE C (fD L') (eH n C L).1
  | 0,C,L=>⟨[],by simp[eH],rfl,dE.refl C⟩
  | n+1,C,L=>by
    obtain⟨L',h1,h2,h3⟩:=ql n (((C.bytesC 1).bytesC 1).bytesC (C.bytesC 1).byteV) (L++[⟨C.byteV,((C.bytesC 1).bytesC 1).bytesR (C.bytesC 1).byteV⟩])
    refine⟨⟨C.byteV,((C.bytesC 1).bytesC 1).bytesR (C.bytesC 1).byteV⟩ :: L',?_,by simp[h2],?_⟩
    · show(eH n _ _).2=_
      rw[h1]
      simp
    · have hE0:dE C _ ((C.bytesC 1).bytesC 1):=(dE.refl C).byte.byte
      have hE1:dE C (([C.byteV,((((C.bytesC 1).bytesC 1).bytesR (C.bytesC 1).byteV).length:Int)%256])++((C.bytesC 1).bytesC 1).bytesR (C.bytesC 1).byteV) (((C.bytesC 1).bytesC 1).bytesC (C.bytesC 1).byteV):=(hE0.bytes _).conv fun hr _ he=>by
        have hb:=db ((dE.refl C).byte hr).1
        rw[(i4 he).2.2,Int.emod_eq_of_lt hb.1 hb.2]
        rfl
      exact hE1.trans h3
theorem yQ{c:Int}{C:ah}(hr:fm C)(he:(er (dS C).byteV (eP C)).1.endC.e=0) : [C.byteV,(dS C).byteV,(eP C).byteV,(lM (eP C)).byteV,(lQ (eP C)).byteV,((er (dS C).byteV (eP C)).2.length:Int)%256]++fD (er (dS C).byteV (eP C)).2=C.l:=by
  have hE0:dE C _ (dS C):=(dE.refl C).byte.need
  have hE1:dE C _ (eP C):=hE0.byte.need
  have hE2:dE C _ (lM (eP C)):=hE1.byte.need
  have hE3:dE C _ (lQ (eP C)):=hE2.byte.need
  have hE4:dE C _ (nM (eP C)):=hE3.byte.need
  have hE5:dE C _ (xH (dS C).byteV (eP C)):=hE4.byte.need
  obtain⟨L',h1,h2,h3⟩:=ql (nM (eP C)).byteV.toNat (xH (dS C).byteV (eP C)) []
  have hb:=db (hE4 hr).1
  have h4:(er (dS C).byteV (eP C)).2=L':=by unfold er;rw[h1];rfl
  obtain⟨_,h5⟩:=(hE5.trans h3).fin hr he
  rw[h4,h2,show(((nM (eP C)).byteV.toNat:Nat) : Int)%256=(nM (eP C)).byteV from by omega,h5]
  rfl
theorem BJ{dir c:Int}{C C':ah}{M:aU}(hd:dir=0∨dir=1)(hr:fm C)(h:bU dir c C=some (C',M))(he:C'.endC.e=0) : dI dir M=C.l:=by
  have hE0:dE C _ (dS C):=(dE.refl C).byte.need
  unfold bU at h
  split at h
  · cases h
  split at h
  · rename_i hm
    obtain⟨rfl,rfl⟩:=bW h
    have hE1:=(hE0.need (ok:=decide (((dS C).l.length:Int)≤251)) (x:=5)).bytes ((gc C).l.length:Int)
    obtain⟨_,h5⟩:=hE1.fin hr he
    unfold dI
    rw[if_pos (show(C.byteV==13)=true from hm),h5]
    rfl
  rename_i hm
  split at h
  · rename_i hc
    obtain rfl:dir=1:=by simpa using hc
    obtain⟨rfl,rfl⟩:=bW h
    unfold dI
    rw[if_neg (show ¬ (C.byteV==13)=true from hm),if_neg (by decide)]
    exact yQ (c:=c) hr he
  · rename_i hc
    obtain rfl:dir=0:=by
      rcases hd with rfl|rfl
      · rfl
      · exact absurd rfl hc
    obtain⟨rfl,rfl⟩:=bW h
    have hE1:dE C _ (eP C):=hE0.byte.need
    obtain⟨_,h5⟩:=hE1.byte.fin hr he
    unfold dI
    rw[if_neg (show ¬ (C.byteV==13)=true from hm),if_pos (by rfl),h5]
    rfl
theorem qh{one:Int→ah→Int × ah × dx}{dir code:Int}(hl:∀ s C,0<C.l.length→(one s C).2.1.l.length<C.l.length)(hE:∀ s C,dE C (kz dir code (one s C).2.2) (one s C).2.1) :
    ∀ (n:Nat) (s:Int) (C:ah) (L:List dx),C.l.length≤n→fm C→(aY one n s C L).1.e=0→∃ L',(aY one n s C L).2=L++L'∧C.l=dk dir code L'
  | 0,s,C,L,h,_,_=>⟨[],by simp[aY],by simpa [dk] using h⟩
  | n+1,s,C,L,h,hr,he=>by
    unfold aY at he ⊢
    split at he
    · rename_i hc
      rw[if_pos hc]
      simp only[Bool.and_eq_true,decide_eq_true_eq,beq_iff_eq] at hc
      have h1:=hl s C (by omega)
      obtain⟨h2,h3⟩:=hE s C hr
      split at he
      · rename_i hn
        rw[he] at hn
        cases hn
      · rename_i hn
        rw[if_neg hn]
        have h4:(one s C).2.1.e=0:=by simpa using hn
        obtain⟨L',h5,h6⟩:=qh hl hE n (one s C).1 (one s C).2.1 (L++[(one s C).2.2]) (by omega) h2 he
        refine⟨(one s C).2.2 :: L',by rw[h5];simp,?_⟩
        rw[(h3 h4).2,h6]
        rfl
    · rename_i hc
      rw[if_neg hc]
      have he:C.e=0:=he
      refine⟨[],by simp,?_⟩
      have:C.l=[]:=by
        apply List.eq_nil_of_length_eq_zero
        simp only[he,Bool.and_eq_true,decide_eq_true_eq,beq_self_eq_true,and_true] at hc
        omega
      rw[this]
      rfl
theorem zn(C:ah) : dE C [6] (j8 C):=((dE.refl C).byte.need).conv fun hr _ he=>by
  have h:=(gT (by decide) he).2
  simp only[beq_iff_eq] at h
  rw[h]
  rfl
theorem qA(C:ah) : dE C ([6]++aO [(aV C).file,(aV C).record,(aV C).count]) (dQ C):=by
  have hE1:dE C _ (jJ C):=(zn C).word.need
  have hE2:dE C _ (nw C):=hE1.word.need
  have hE3:dE C _ (dQ C):=hE2.word.need
  exact hE3
theorem zs(s:Int)(C:ah) : dE C (kz 0 20 (dl s C).2.2) (dl s C).2.1:=by
  have h:dE C _ (eZ s C):=(qA C).need
  exact h.conv fun _ _ _=>rfl
theorem AU(dir s:Int)(C:ah) : dE C (kz dir 21 (dr s C).2.2) (dr s C).2.1:=by
  have h:dE C _ (nB C):=(qA C).need
  exact(h.words (nw C).wordV).conv fun _ _ _=>rfl
theorem AN(s:Int)(C:ah) : dE C (kz 1 20 (bY s C).2.2) (bY s C).2.1:=by
  have hE1:dE C _ (j0 C):=(dE.refl C).byte.need
  have hE2:dE C _ (gv C):=hE1.byte.need
  refine(hE2.words (Int.tdiv (C.byteV-1) 2)).conv fun hr _ he=>?_
  obtain⟨h1,_,h2⟩:=lv (hE2 hr).1 he
  obtain⟨h3,h4⟩:=gT (by decide) h1
  obtain⟨h5,h6⟩:=gT (by decide) (i4 h3).1
  have hb:=db hr
  simp only[Bool.and_eq_true,decide_eq_true_eq,beq_iff_eq] at h4 h6
  have h7:(1+2*(((gv C).wordsR (Int.tdiv (C.byteV-1) 2)).length:Int))%256=C.byteV:=by
    rw[h2,Int.tdiv_eq_ediv_of_nonneg (by omega)]
    omega
  show _=[(1+2*(((gv C).wordsR (Int.tdiv (C.byteV-1) 2)).length:Int))%256,6]++aO ((gv C).wordsR (Int.tdiv (C.byteV-1) 2))
  rw[h7,h4]
  rfl
theorem l8{one:Int→ah→Int × ah × dx}{dir code:Int}(hl:∀ s C,0<C.l.length→(one s C).2.1.l.length<C.l.length)(hE:∀ s C,dE C (kz dir code (one s C).2.2) (one s C).2.1){may:Int→Bool}{c:Int}{C:ah}(hr:fm C)
    (he:(eh one may c C).1.endC.e=0) : [((dk dir code (sL one may C).2).length:Int)%256]++dk dir code (sL one may C).2=C.l:=by
  have hE0:dE C _ (lK may C):=(dE.refl C).byte.need
  have hE1:=hE0.bytes C.byteV
  have hb:=db hr
  unfold ah.endC at he
  obtain⟨h0,a⟩:=gT (by decide) he
  unfold eh at h0 a
  have hw:bE (sL one may C).1.e≠0∨(sL one may C).1.e=0:=by
    by_cases hz:(sL one may C).1.e=0
    · exact Or.inr hz
    · left
      unfold bE
      split
      · decide
      · exact hz
  have h1:((lK may C).bytesC C.byteV).e=0∧(sL one may C).1.e=0:=by
    rcases hw with hw|hw
    · obtain⟨h2,h3⟩:=gT hw h0
      exact⟨h2,by simpa using h3⟩
    · rw[hw] at h0
      refine⟨?_,hw⟩
      unfold ah.need at h0
      rw[if_neg (by rintro⟨_,hx⟩;cases hx)] at h0
      exact h0
  obtain⟨h2,h3,h4⟩:=i4 h1.1
  have h5:((lK may C).bytesC C.byteV).l=[]:=by
    rw[l6] at a
    simp only[beq_iff_eq] at a
    exact List.eq_nil_of_length_eq_zero (by omega)
  have h6:C.l=[C.byteV]++(lK may C).bytesR C.byteV:=by
    rw[((hE1 hr).2 h1.1).2,h5]
    simp
  have hB:fm (zb may C):=fun x hx=>hr x (by rw[h6];exact List.mem_append_right _ hx)
  obtain⟨L',h7,h8⟩:=qh hl hE (zb may C).l.length 0 (zb may C) [] (Nat.le_refl _) hB h1.2
  have h9:(sL one may C).2=L':=by unfold sL;rw[h7];rfl
  have b:dk dir code L'=(lK may C).bytesR C.byteV:=h8.symm
  rw[h9,b,h4,Int.emod_eq_of_lt hb.1 hb.2,h6]
theorem lz(dir:Int)(M:aU) : di dir M=[((dk dir M.code M.recs).length:Int)%256]++dk dir M.code M.recs:=by
  unfold di
  simp
theorem yz{dir c:Int}{C C':ah}{M:aU}(hd:dir=0∨dir=1)(hr:fm C)(h:bh dir c C=some (C',M))(he:C'.endC.e=0) : di dir M=C.l:=by
  rw[lz]
  unfold bh at h
  split at h
  · rename_i hc
    obtain rfl:c=20:=by simpa using hc
    rcases hd with rfl|rfl
    · have h:some (eh dl j9 20 C)=some (C',M):=h
      obtain⟨rfl,rfl⟩:=bW h
      exact l8 pg zs hr he
    · have h:some (eh bY j7 20 C)=some (C',M):=h
      obtain⟨rfl,rfl⟩:=bW h
      exact l8 kB AN hr he
  split at h
  · rename_i hc
    obtain rfl:c=21:=by simpa using hc
    obtain⟨rfl,rfl⟩:=bW h
    exact l8 pI (AU dir) hr he
  · cases h
theorem gr{form:Int→Int→ah→Option (ah × aU)}{lay:Int→aU→List Int}(hf:∀ {dir c:Int}{C C':ah}{M:aU},(dir=0∨dir=1)→fm C→form dir c C=some (C',M)→C'.endC.e=0→lay dir M=C.l)
    {dir c:Int} {b:List Int} {M:aU} (hd:dir=0∨dir=1) (hr:∀ x,x∈b→0≤x∧x<256) (h:aj form dir c b=(M,0)) : lay dir M=b:=by
  unfold aj at h
  rw[if_pos hd] at h
  split at h
  · cases h
  · rename_i r hr'
    unfold bp at h
    split at h
    · rename_i he
      injection h with h
      obtain⟨C',M'⟩:=r
      have h:M'=M:=h
      subst h
      exact hf (C:=⟨b,false,0⟩) hd hr hr' he
    · rename_i he
      injection h with _ h
      exact absurd h he
theorem fB{parse:Int→Int→List Int→aU × Int}{lay:Int→aU→List Int}{dir:Int}{M:aU}{l:List Int}(h1:lay dir M=l)(h2:parse dir M.code l=(M,0)) : bv parse lay dir M=some l:=by
  unfold bv
  rw[h1,if_pos h2]
theorem zS{k:Nat}{dir:Int}{b:List Int}{M:aU}(hd:dir=0∨dir=1)(hr:∀ x,x∈b→0≤x∧x<256)(h:jb k dir b=(M,0))(hc:M.code=b.getD 0 0) : i1 k dir M=some (b.drop 1):=by
  have hr':∀ x,x∈b.drop 1→0≤x∧x<256:=fun x hx=>hr x (List.mem_of_mem_drop hx)
  unfold jb at h
  split at h
  · exact fB (gr yN hd hr' h) (by rw[hc];exact h)
  · exact fB (gr AM hd hr' h) (by rw[hc];exact h)
  · exact fB (gr AX hd hr' h) (by rw[hc];exact h)
  · exact fB (gr yz hd hr' h) (by rw[hc];exact h)
  · exact fB (gr BJ hd hr' h) (by rw[hc];exact h)
  · cases h
theorem qz{x:Int}(h:cX x=true) : (x != 0)=true:=by
  unfold cX at h
  simp only[decide_eq_true_eq,List.mem_cons,List.not_mem_nil,or_false] at h
  simp only[bne_iff_ne]
  omega
theorem vM{x:Int}(h:dZ x=true) : 0<x∧x<128:=by
  unfold dZ at h
  simp only[decide_eq_true_eq,List.mem_cons,List.not_mem_nil,or_false] at h
  omega
theorem kp{dir:Int}{b:List Int}{M:aU}(hd:dir=0∨dir=1)(hr:∀ x,x∈b→0≤x∧x<256)(h:cF dir b=(M,0)) : d7 dir M=some b:=by
  unfold cF at h
  split at h
  · cases h
  split at h
  · cases h
  split at h
  · cases h
  rename_i h1 h2 h3
  simp only[beq_iff_eq] at h2
  simp only[decide_eq_true_eq] at h3
  obtain⟨x,t,rfl⟩ : ∃ x t,b=x :: t:=by
    cases b with
    | nil=>exact absurd rfl h2
    | cons x t=>exact⟨x,t,rfl⟩
  have hx:=hr x (by simp)
  split at h
  · rename_i hq
    simp only[Bool.and_eq_true,decide_eq_true_eq,beq_iff_eq] at hq
    obtain⟨rfl,k1,k2,k3,k4⟩:=uq h
    have k5:=vM k2
    unfold d7
    rw[if_pos (show((hG _ ((x :: t).getD 1 0)).fail != 0)=true from qz k3)]
    rw[if_neg (by rw[hq.2];decide)]
    unfold nz
    have k6:gR (hG (((x :: t).getD 0 0-128)%256) ((x :: t).getD 1 0)).code (hG (((x :: t).getD 0 0-128)%256) ((x :: t).getD 1 0)).fail=true:=by
      show gR (((x :: t).getD 0 0-128)%256) ((x :: t).getD 1 0)=true
      unfold gR
      rw[k2,k3]
      have:(((x :: t).getD 0 0-128)%256 != 0)=true:=by simp only[bne_iff_ne];omega
      rw[this]
      rfl
    rw[k6]
    have k7:decide (hG (((x :: t).getD 0 0-128)%256) ((x :: t).getD 1 0)=hG (hG (((x :: t).getD 0 0-128)%256) ((x :: t).getD 1 0)).code (hG (((x :: t).getD 0 0-128)%256) ((x :: t).getD 1 0)).fail)=true:=decide_eq_true rfl
    rw[k7]
    show some [(((x-128)%256)+128)%256,(x :: t).getD 1 0]=some (x :: t)
    match t,k4 with
    | [y],_ =>
      rw[show(((x-128)%256)+128)%256=x from by omega]
      rfl
  · obtain⟨_,k1⟩:=wd hd h
    obtain⟨k2,k3⟩:=k1 rfl
    have k4:=zS hd hr h k2
    unfold d7
    rw[if_neg (by rw[k3];decide),k2,k4]
    show(if decide (253≤(t.length:Int))=true then none else some ([x]++t))=some (x :: t)
    rw[if_neg (by simp only[decide_eq_true_eq];simp only[List.length_cons] at h3;omega)]
    rfl
end Go.Proofs.YtdkhbcefkfgbdaaGreat
namespace Go.Proofs.YtdkhbcefkfgbdaaGreat
def Sh (C C':ah) : Prop:=C'.l.length≤C.l.length
theorem Sh.refl(C:ah) : Sh C C:=Nat.le_refl _
theorem Sh.bytes{A C:ah}(h:Sh A C){n:Int}:Sh A (C.bytesC n):=Nat.le_trans (jR C n) h
theorem Sh.words{A C:ah}(h:Sh A C){n:Int}:Sh A (C.wordsC n):=Nat.le_trans (fv C n) h
theorem Sh.need{A C:ah}(h:Sh A C){b:Bool}{e:Int}:Sh A (C.need b e):=by unfold Sh;rw[ff];exact h
open Go.RowKit
theorem DK{a:Int}{r:List Int}(ha:0≤a∧a<65536) : (ah.mk (aO [a]++r) false 0).wordV=a∧(ah.mk (aO [a]++r) false 0).wordsC 1=⟨r,false,0⟩:=by
  have hb:(ah.mk (aO [a]++r) false 0).wbad 1=false:=by
    unfold ah.wbad
    simp only[aO,List.length_append,List.length_cons,List.length_nil,Bool.or_eq_false_iff,decide_eq_false_iff_not]
    omega
  have hf:(ah.mk (aO [a]++r) false 0).fails (2*1)=false:=by
    unfold ah.fails
    simp[aO]
    omega
  constructor
  · unfold ah.wordV ah.wordsR ah.bytesR
    rw[hb,hf]
    show(cz [a/256,a%256]).getD 0 0=a
    unfold cz
    rw[if_pos (by simp)]
    show a/256*256+a%256=a
    omega
  · unfold ah.wordsC ah.bytesC
    rw[hb,hf]
    rfl
end Go.Proofs.YtdkhbcefkfgbdaaGreat
namespace Go.Proofs.YtdkhbcefkfgbdaaGreat
theorem gG(u:Int)(l:List Int) : (jd u l).length=3+l.length:=by simp[jd,cj];omega
theorem jt{dir u t:Int}{M:aU}{b:List Int}(h:fN dir u t M=some b) : t=0∧∃ l,d7 dir M=some l∧b=jd u l∧l.length≤253:=by
  unfold fN at h
  split at h
  · cases h
  · rename_i l hl
    have hle:=i8 hl
    split at h
    · cases h
    · rename_i ht
      injection h with h
      exact⟨by simpa using ht,l,hl,h.symm,hle⟩
theorem AA{dir u t:Int}{M:aU}{b:List Int}(hc:0≤M.code∧M.code<256)(h:fN dir u t M=some b) : 4≤b.length∧b.length≤256:=by
  obtain⟨_,l,h1,rfl,h2⟩:=jt h
  have:=ii hc h1
  rw[gG]
  omega
theorem oS(u:Int)(l:List Int) : (jd u l).take ((jd u l).length-2)=[u]++l:=by
  rw[gG,show 3+l.length-2=([u]++l).length from by simp;omega]
  exact List.take_left' rfl
theorem vZ(u:Int)(l:List Int) : (jd u l).drop ((jd u l).length-2)=cj (ch 65535 ([u]++l)):=by
  rw[gG,show 3+l.length-2=([u]++l).length from by simp;omega]
  exact List.drop_left' rfl
theorem zw(u:Int)(l:List Int) : dF (jd u l)=true:=by
  unfold dF
  rw[oS,vZ,gG]
  simp only[decide_true,Bool.and_true,decide_eq_true_eq]
  omega
theorem yI(u:Int)(l:List Int) : ga (jd u l)=l:=by
  unfold ga
  rw[oS]
  rfl
theorem Cx{dir u:Int}{l:List Int}(hd:dir=0∨dir=1)(h:0<l.length)(h2:l.length≤253) : ei dir (jd u l)=cw u 0 (cF dir l):=by
  unfold ei
  rw[zw,yI]
  rw[if_neg (show ¬ (dir != 0&&dir != 1)=true by rcases hd with rfl | rfl<;>decide),if_neg (by rw[gG];simp only[decide_eq_true_eq];omega),if_neg (by rw[gG];simp only[decide_eq_true_eq];omega),if_neg (by decide)]
  rfl
theorem BL{dir u t:Int}{M:aU}{b:List Int}(hd:dir=0∨dir=1)(hc:0≤M.code∧M.code<256)(hf:0≤M.fail∧M.fail<256)(h:fN dir u t M=some b) : ei dir b=(⟨u,t,M⟩,0):=by
  obtain⟨rfl,l,h1,rfl,h2⟩:=jt h
  rw[Cx hd (ii hc h1) h2,pU hd hc hf h1]
  rfl
theorem yY{b:List Int}(hl:3≤b.length)(h:dF b=true) : ∃ u l,b=jd u l:=by
  unfold dF at h
  rw[Bool.and_eq_true,decide_eq_true_eq,decide_eq_true_eq] at h
  obtain⟨h1,h2⟩:=h
  cases hb:b.take (b.length-2) with
  | nil =>
    have:=congrArg List.length hb
    rw[List.length_take,List.length_nil] at this
    omega
  | cons u l =>
    refine⟨u,l,?_⟩
    conv=>lhs;rw[← List.take_append_drop (b.length-2) b,← h2,hb]
    rfl
theorem yH{dir:Int}{b:List Int}{F:dt}{E:Int}{r:Option (List Int)}(hd:dir=0∨dir=1)(hr:∀ x,x∈b→0≤x∧x<256)(h:ei dir b=(F,E))(hE:(E==0)=true)(hW:fN dir F.unit F.tid F.msg=r) : r=some b∧4≤b.length∧b.length≤256:=by
  obtain rfl:E=0:=by simpa using hE
  unfold ei at h
  split at h
  · cases h
  split at h
  · cases h
  split at h
  · cases h
  split at h
  · cases h
  rename_i h1 h2 h3 h4
  simp only[decide_eq_true_eq] at h2 h3
  have h4:dF b=true:=by simpa using h4
  obtain⟨u,l,rfl⟩:=yY (by omega) h4
  rw[yI] at h
  have h:cw u 0 (cF dir l)=(F,0):=h
  cases hp:cF dir l with
  | mk M E' =>
    rw[hp] at h
    have h:(if (E' != 0)=true then ((dt.zero,E') : dt × Int) else (⟨_,_,M⟩,0))=(F,0):=h
    split at h
    · rename_i h5
      injection h with _ h6
      subst h6
      cases h5
    · rename_i h5
      injection h with h6 _
      subst h6
      obtain rfl:E'=0:=by simpa using h5
      have h7:=kp hd (fun x hx=>hr x (by unfold jd;simp[hx])) hp
      rw[← hW]
      refine⟨?_,by omega,by omega⟩
      show fN dir u 0 M=_
      unfold fN
      rw[h7]
      simp
open Go.RowKit
def pN (u:Int)(l:List Int) : List Int:=([u]++l)++[cy ([u]++l)]
theorem kO(u:Int)(l:List Int) : (pN u l).length=l.length+2:=by simp[pN]
theorem sC(u:Int)(l:List Int) : n9 u l=([58]++dj (pN u l))++[13,10]:=rfl
theorem qx(u:Int)(l:List Int) : (n9 u l).length=2*l.length+7:=by
  rw[sC]
  simp only[List.length_append,List.length_cons,List.length_nil,dT,kO]
  omega
theorem ws{u:Int}{l:List Int}(hu:0≤u∧u<256)(hl:fj l) : fj (pN u l):=by
  refine gF (gF ?_ hl) ?_
  · intro x hx;rw[List.mem_singleton] at hx;rw[hx];exact hu
  · intro x hx;rw[List.mem_singleton] at hx;rw[hx];exact js _
theorem jv{dir u t:Int}{M:aU}{b:List Int}(h:fI dir u t M=some b) : t=0∧∃ l,d7 dir M=some l∧b=n9 u l∧l.length≤253:=by
  unfold fI at h
  split at h
  · cases h
  · rename_i l hl
    have hle:=i8 hl
    split at h
    · cases h
    · rename_i ht
      injection h with h
      exact⟨by simpa using ht,l,hl,h.symm,hle⟩
theorem Ac{dir u t:Int}{M:aU}{b:List Int}(hc:0≤M.code∧M.code<256)(h:fI dir u t M=some b) : 9≤b.length∧b.length≤513:=by
  obtain⟨_,l,h1,rfl,h2⟩:=jv h
  have:=ii hc h1
  rw[qx]
  omega
theorem rS(s:List Int) : (([58]++s)++[13,10]).drop 1=s++[13,10]:=rfl
theorem AB(s:List Int) : ml (s++[13,10])=true:=by
  unfold ml
  have e:(((s++[13,10]).length:Nat) : Int)=(s.length:Int)+2:=by simp
  have e2:((s.length:Int)+2-2).toNat=s.length:=by omega
  rw[e,e2,List.drop_left' rfl]
  simp
  omega
theorem yk(s:List Int) : lN (([58]++s)++[13,10])=some s:=by
  rw[Bu rfl (by rw[rS];exact AB s),rS]
  have e:(([58]++s)++[13,10]).length-3=s.length:=by simp
  rw[e,List.take_left' rfl]
theorem xE{b s:List Int}(h:lN b=some s) : b=([58]++s)++[13,10]:=by
  obtain⟨h1,h2,rfl,h3⟩:=oG h
  cases b with
  | nil=>simp at h3
  | cons a r =>
    have ha:a=58:=h1
    subst ha
    have h2:ml r=true:=h2
    have h4:=rj h2
    unfold ml at h2
    simp only[Bool.and_eq_true,decide_eq_true_eq] at h2
    have h5:=h2.2
    rw[show(((r.length:Nat) : Int)-2).toNat=r.length-2 from by omega] at h5
    show 58 :: r=58 :: (r.take ((58 :: r).length-3)++[13,10])
    rw[show(58 :: r).length-3=r.length-2 from by simp only[List.length_cons];omega,← h5,List.take_append_drop]
theorem rk(a b:List Int) : ∀ k,k≤a.length→gg (a++b) k=gg a k
  | 0,_=>rfl
  | k+1,h=>by
    unfold gg
    rw[rk a b k (by omega),List.getD_eq_getElem?_getD,List.getD_eq_getElem?_getD,List.getElem?_append_left (by omega)]
theorem vh(a:List Int)(c:Int) : rg (a++[c])=(rg a+c)%256:=by
  unfold rg
  have e:(a++[c]).length=a.length+1:=by simp
  rw[e]
  show(gg (a++[c]) a.length+(a++[c]).getD a.length 0)%256=_
  rw[rk a [c] _ (Nat.le_refl _)]
  simp
theorem nj{a:List Int}{c:Int}(hc:0≤c∧c<256) : fK (a++[c])=true↔c=cy a:=by
  have h:=qY a a.length
  unfold fK cy
  rw[vh]
  have hs:rg a=gg a a.length:=rfl
  simp only[Bool.and_eq_true,decide_eq_true_eq,beq_iff_eq,List.length_append,List.length_cons,List.length_nil]
  constructor
  · intro k;omega
  · intro k;omega
theorem AY(u:Int)(l:List Int) : fK (pN u l)=true:=(nj (js _)).2 rfl
theorem Ci(u:Int)(l:List Int) : fh (pN u l)=l:=by
  unfold fh
  rw[kO,show l.length+2-1=([u]++l).length from by simp]
  unfold pN
  rw[List.take_left' rfl]
  rfl
theorem Bs{dir:Int}{s:List Int}(hd:dir=0∨dir=1)(h:6≤s.length)(h2:s.length≤510) : kV dir (([58]++s)++[13,10])=match cA s with
      | none=>(dt.zero,11)
      | some x=>if !(fK x) then (dt.zero,10) else cw (x.getD 0 0) 0 (cF dir (fh x)):=by
  have hl:((([58]++s)++[13,10]).length:Int)=(s.length:Int)+3:=by simp;omega
  unfold kV
  rw[yk,hl]
  rw[if_neg (show ¬ (dir != 0&&dir != 1)=true by rcases hd with rfl | rfl<;>decide),if_neg (by simp only[decide_eq_true_eq];omega),if_neg (by simp only[decide_eq_true_eq];omega)]
  all_goals rfl
theorem Cm{dir u:Int}{l:List Int}(hd:dir=0∨dir=1)(hu:0≤u∧u<256)(hb:fj l)(h:0<l.length)(h2:l.length≤253) : kV dir (n9 u l)=cw u 0 (cF dir l):=by
  rw[sC,Bs hd (by rw[dT,kO];omega) (by rw[dT,kO];omega),oq _ (ws hu hb)]
  show(if !(fK (pN u l)) then _ else _)=_
  rw[AY,Ci]
  rfl
theorem CB{dir u t:Int}{M:aU}{b:List Int}(hd:dir=0∨dir=1)(hu:0≤u∧u<256)(hc:0≤M.code∧M.code<256)(hf:0≤M.fail∧M.fail<256)(hb:∀ l,d7 dir M=some l→fj l)(h:fI dir u t M=some b) : kV dir b=(⟨u,t,M⟩,0):=by
  obtain⟨rfl,l,h1,rfl,h2⟩:=jv h
  rw[Cm hd hu (hb l h1) (ii hc h1) h2,pU hd hc hf h1]
  rfl
theorem zl{x:List Int}(h:2≤x.length)(hb:fj x)(k:fK x=true) : x=pN (x.getD 0 0) (fh x):=by
  have hne:x≠[]:=fun e=>by rw[e] at h;simp at h
  obtain⟨y,c,rfl⟩ : ∃ y c,x=y++[c]:=⟨x.dropLast,x.getLast hne,(List.dropLast_concat_getLast hne).symm⟩
  have hc:=hb c (by simp)
  have h1:=(nj hc).1 k
  cases y with
  | nil=>simp at h
  | cons u l =>
    have e:fh ((u :: l)++[c])=l:=by
      unfold fh
      rw[show((u :: l)++[c]).length-1=(u :: l).length from by simp,List.take_left' rfl]
      rfl
    rw[e]
    show(u :: l)++[c]=([u]++l)++[cy ([u]++l)]
    rw[h1]
    rfl
theorem wB{dir:Int}{b:List Int}{F:dt}{E:Int}{r:Option (List Int)}(hd:dir=0∨dir=1)(h:kV dir b=(F,E))(hE:(E==0)=true)(hW:fI dir F.unit F.tid F.msg=r) : r=some b∧9≤b.length∧b.length≤513:=by
  obtain rfl:E=0:=by simpa using hE
  unfold kV at h
  split at h
  · cases h
  split at h
  · cases h
  rename_i h2
  split at h
  · cases h
  rename_i h3
  simp only[decide_eq_true_eq] at h2 h3
  cases hs:lN b with
  | none=>rw[hs] at h;cases h
  | some s =>
  rw[hs] at h
  cases hx:cA s with
  | none=>dsimp only at h;rw[hx] at h;cases h
  | some x =>
  dsimp only at h
  rw[hx] at h
  dsimp only at h
  split at h
  · cases h
  rename_i h4
  have h4:fK x=true:=by simpa using h4
  have hl:=yT hs
  have hxl:=oF hx
  obtain⟨e1,e2⟩:=kf hx
  have hsh:=zl (by omega) e2 h4
  cases hp:cF dir (fh x) with
  | mk M E' =>
    rw[hp] at h
    have h:(if (E' != 0)=true then ((dt.zero,E') : dt × Int) else (⟨_,_,M⟩,0))=(F,0):=h
    split at h
    · rename_i h5
      injection h with _ h6
      subst h6
      cases h5
    · rename_i h5
      injection h with h6 _
      subst h6
      obtain rfl:E'=0:=by simpa using h5
      have h7:d7 dir M=some (fh x):=kp hd (fun y hy=>e2 y (List.mem_of_mem_take (List.mem_of_mem_drop hy))) hp
      rw[← hW]
      refine⟨?_,by omega,by omega⟩
      show fI dir (x.getD 0 0) 0 M=_
      unfold fI
      rw[h7]
      show some (n9 _ _)=_
      rw[sC,← hsh,← e1,← xE hs]
open Go.RowKit
end Go.Proofs.YtdkhbcefkfgbdaaGreat
namespace Go.Proofs.YtdkhbcefkfgbdaaGreat
def lV (t z n u:Int)(l:List Int) : List Int:=(aO [t,z,n]++[u])++l
theorem lW(t z n u:Int)(l:List Int) : (lV t z n u l).length=7+l.length:=by simp[lV,aO];omega
theorem Ep(u:Int)(l:List Int) : (ah.mk ([u]++l) false 0).byteV=u∧(ah.mk ([u]++l) false 0).bytesC 1=⟨l,false,0⟩:=by
  have hf:(ah.mk ([u]++l) false 0).fails 1=false:=by
    unfold ah.fails
    simp only[List.length_append,List.length_cons,List.length_nil,Bool.or_eq_false_iff,decide_eq_false_iff_not]
    refine⟨⟨trivial,?_⟩,?_⟩<;>omega
  constructor
  · unfold ah.byteV ah.bytesR
    rw[hf]
    rfl
  · unfold ah.bytesC
    rw[hf]
    rfl
theorem vz(l:List Int) : (ah.mk l false 0).bytesR ((l.length:Nat) : Int)=l:=by
  have hf:(ah.mk l false 0).fails ((l.length:Nat) : Int)=false:=by
    unfold ah.fails
    simp only[Bool.or_eq_false_iff,decide_eq_false_iff_not]
    refine⟨⟨trivial,?_⟩,?_⟩<;>omega
  unfold ah.bytesR
  rw[hf]
  show l.take (l.length:Int).toNat=l
  rw[Int.toNat_natCast,List.take_length]
theorem wL{t z n u:Int}{l:List Int}(ht:0≤t∧t<65536)(hz:0≤z∧z<65536)(hn:0≤n∧n<65536) :
    (uw (lV t z n u l)).wordV=t∧(w7 (lV t z n u l)).wordV=z∧(u5 (lV t z n u l)).wordV=n∧(u0 (lV t z n u l)).byteV=u∧kS (lV t z n u l)=l:=by
  have h1:=DK (r:=aO [z]++(aO [n]++([u]++l))) ht
  have h2:=DK (r:=aO [n]++([u]++l)) hz
  have h3:=DK (r:=[u]++l) hn
  have h4:=Ep u l
  have e0:uw (lV t z n u l)=⟨aO [t]++(aO [z]++(aO [n]++([u]++l))),false,0⟩:=by simp[uw,lV,aO]
  have e1:w7 (lV t z n u l)=⟨aO [z]++(aO [n]++([u]++l)),false,0⟩:=by unfold w7;rw[e0];exact h1.2
  have e2:u5 (lV t z n u l)=⟨aO [n]++([u]++l),false,0⟩:=by unfold u5;rw[e1];exact h2.2
  have e3:u0 (lV t z n u l)=⟨[u]++l,false,0⟩:=by unfold u0;rw[e2];exact h3.2
  have e4:wi (lV t z n u l)=⟨l,false,0⟩:=by unfold wi;rw[e3];exact h4.2
  refine⟨by rw[e0];exact h1.1,by rw[e1];exact h2.1,by rw[e2];exact h3.1,by rw[e3];exact h4.1,?_⟩
  unfold kS
  rw[e4]
  exact vz l
theorem uh{dir t z n u:Int}{l:List Int}(hd:dir=0∨dir=1)(ht:0≤t∧t<65536)(hz:0≤z∧z<65536)(hn:0≤n∧n<65536) :
    dA dir (lV t z n u l)=if decide ((7+l.length:Int)<8) then (dt.zero,2) else if decide (260<(7+l.length:Int)) then (dt.zero,3) else if z != 0 then (dt.zero,13) else if n != (l.length:Int)+1 then (dt.zero,5) else cw u t (cF dir l):=by
  obtain⟨h0,h1,h2,h3,h4⟩:=wL (u:=u) (l:=l) ht hz hn
  unfold dA
  rw[h0,h1,h2,h3,h4,lW]
  rw[if_neg (show ¬ (dir != 0&&dir != 1)=true by rcases hd with rfl | rfl<;>decide)]
  rw[show((7+l.length:Nat) : Int)=7+(l.length:Int) by omega,show(7+(l.length:Int))-6=(l.length:Int)+1 by omega]
theorem iV{dir u t:Int}{M:aU}{b:List Int}(h:ej dir u t M=some b) : ∃ l,d7 dir M=some l∧b=lV t 0 ((l.length:Int)+1) u l∧l.length≤253:=by
  unfold ej at h
  split at h
  · cases h
  · rename_i l hl
    have hle:=i8 hl
    injection h with h
    refine⟨l,hl,?_,hle⟩
    rw[← h,Int.emod_eq_of_lt (by omega) (by omega)]
    rfl
theorem wE{dir u t:Int}{M:aU}{b:List Int}(hc:0≤M.code∧M.code<256)(h:ej dir u t M=some b) : 8≤b.length∧b.length≤260:=by
  obtain⟨l,h1,rfl,h2⟩:=iV h
  have:=ii hc h1
  rw[lW]
  omega
theorem ze{dir u t:Int}{M:aU}{b:List Int}(hd:dir=0∨dir=1)(hc:0≤M.code∧M.code<256)(hf:0≤M.fail∧M.fail<256)(ht:0≤t∧t<65536)(h:ej dir u t M=some b) : dA dir b=(⟨u,t,M⟩,0):=by
  obtain⟨l,h1,rfl,h2⟩:=iV h
  have h3:=ii hc h1
  rw[uh hd ht (by decide) (by omega),pU hd hc hf h1]
  rw[if_neg (by simp only[decide_eq_true_eq];omega),if_neg (by simp only[decide_eq_true_eq];omega),if_neg (by decide),if_neg (by simp)]
  rfl
theorem D6{a b c d e f:Int}(ha:0≤a∧a<256)(hb:0≤b∧b<256)(hc:0≤c∧c<256)(hd:0≤d∧d<256)(he:0≤e∧e<256)(hf:0≤f∧f<256) : aO [a*256+b,c*256+d,e*256+f]=[a,b,c,d,e,f]:=by
  simp only[aO]
  congr 1
  · omega
  congr 1
  · omega
  congr 1
  · omega
  congr 1
  · omega
  congr 1
  · omega
  congr 1
  omega
theorem xy{b:List Int}(hr:∀ x,x∈b→0≤x∧x<256)(hl:8≤b.length) : ∃ t z n u l,b=lV t z n u l∧(0≤t∧t<65536)∧(0≤z∧z<65536)∧(0≤n∧n<65536)∧∀ x,x∈l→0≤x∧x<256:=by
  match b,hr,hl with
  | a0 :: a1 :: a2 :: a3 :: a4 :: a5 :: u :: l,hr,_ =>
    have h0:=hr a0 (by simp)
    have h1:=hr a1 (by simp)
    have h2:=hr a2 (by simp)
    have h3:=hr a3 (by simp)
    have h4:=hr a4 (by simp)
    have h5:=hr a5 (by simp)
    refine⟨a0*256+a1,a2*256+a3,a4*256+a5,u,l,?_,by omega,by omega,by omega,fun x hx=>hr x (by simp[hx])⟩
    unfold lV
    rw[D6 h0 h1 h2 h3 h4 h5]
    rfl
theorem v8{dir:Int}{b:List Int}{F:dt}{E:Int}{r:Option (List Int)}(hd:dir=0∨dir=1)(hr:∀ x,x∈b→0≤x∧x<256)(h:dA dir b=(F,E))(hE:(E==0)=true)(hW:ej dir F.unit F.tid F.msg=r) : r=some b∧8≤b.length∧b.length≤260:=by
  obtain rfl:E=0:=by simpa using hE
  by_cases h8:8≤b.length
  · obtain⟨t,z,n,u,l,rfl,ht,hz',hn,hl⟩:=xy hr h8
    rw[uh hd ht hz' hn] at h
    split at h
    · cases h
    split at h
    · cases h
    split at h
    · cases h
    split at h
    · cases h
    rename_i h1 h2 h3 h4
    simp only[decide_eq_true_eq] at h1 h2
    simp only[bne_iff_ne,ne_eq,Decidable.not_not] at h3 h4
    cases hp:cF dir l with
    | mk M E' =>
      rw[hp] at h
      have h:(if (E' != 0)=true then ((dt.zero,E') : dt × Int) else (⟨_,_,M⟩,0))=(F,0):=h
      split at h
      · rename_i h5
        injection h with _ h6
        subst h6
        cases h5
      · rename_i h5
        injection h with h6 _
        subst h6
        obtain rfl:E'=0:=by simpa using h5
        have h7:=kp hd hl hp
        rw[← hW]
        refine⟨?_,h8,by rw[lW];omega⟩
        show ej dir u t M=_
        unfold ej
        rw[h7]
        show some ((aO [t,0,((l.length:Int)+1)%65536]++[u])++l)=_
        rw[h3,h4,Int.emod_eq_of_lt (by omega) (by omega)]
        rfl
  · exfalso
    unfold dA at h
    split at h
    · cases h
    rw[if_pos (by simp only[decide_eq_true_eq];omega)] at h
    cases h
open Go.RowKit
theorem uR{k dir u t:Int}{M:aU}{b:List Int}(h:iF k dir u t M=some b) : (k=0∨k=1∨k=2)∧(k≠2→t=0)∧∃ l,d7 dir M=some l∧l.length≤253:=by
  revert h
  refine k4 k (fun e=>?_) (fun e=>?_) (fun e=>?_) (fun h0 h1 h2=>?_)
  · subst e;intro h;obtain⟨h1,l,h2,_,h3⟩:=jt h;exact⟨.inl rfl,fun _=>h1,l,h2,h3⟩
  · subst e;intro h;obtain⟨h1,l,h2,_,h3⟩:=jv h;exact⟨.inr (.inl rfl),fun _=>h1,l,h2,h3⟩
  · subst e;intro h;obtain⟨l,h2,_,h3⟩:=iV h;exact⟨.inr (.inr rfl),fun h=>absurd rfl h,l,h2,h3⟩
  · rw[yM h0 h1 h2];intro h;cases h
theorem zf{k dir u t:Int}{M:aU}{b:List Int}(hc:0≤M.code∧M.code<256)(h:iF k dir u t M=some b) : 4≤b.length∧(b.length:Int)≤zh k∧b.length≤513:=by
  rcases(uR h).1 with rfl|rfl|rfl
  · have:=AA hc h;show 4≤b.length∧(b.length:Int)≤256∧_;omega
  · have:=Ac hc h;show 4≤b.length∧(b.length:Int)≤513∧_;omega
  · have:=wE hc h;show 4≤b.length∧(b.length:Int)≤260∧_;omega
open Go.RowKit
theorem sE{m m':Md}{A B:Option Addr}{c d:Nat}{xs ys:List Int}{w:World}(h1:aZ m w (.slice A xs.length c) xs)(h2:aZ m' w (.slice B ys.length d) ys) :
    Calls Tryz.prog 29 #[.slice A xs.length c,.slice B ys.length d] w (cl (.bool (decide (xs=ys))) w):=by
 exact en 10 Tryz.func29 rfl<|al 1<|aM 1<|L0<|ik (.string (strOfNums xs)) (cV (A:=A) (n:=xs.length) (c:=c) rfl (by kernel_rfl) Tryz.underlying27 Tryz.underlying5 Tryz.underlying9 h1)<|Pl 1<|L0<|ik (.string (strOfNums ys)) (cV (A:=B) (n:=ys.length) (c:=d) rfl (by kernel_rfl) Tryz.underlying27 Tryz.underlying5 Tryz.underlying9 h2)<|L0<|ik (.bool (decide (xs=ys))) (gx (a:=(strOfNums xs)) (b:=(strOfNums ys)) rfl (by kernel_rfl) (by kernel_rfl) (jU h1 h2))<|Pl 1<|nl<|tn<|rt<|rr (.bool (decide (xs=ys)))<|⟨rfl,(aH.refl [] _)⟩
theorem jD{m m':Md}{a b:Value}{xs ys:List Int}{w:World}(h1:aZ m w a xs)(h2:aZ m' w b ys) : Calls Tryz.prog 29 #[a,b] w (cl (.bool (decide (xs=ys))) w):=by
  obtain⟨A,c,rfl,_,_⟩:=h1.shape
  obtain⟨B,d,rfl,_,_⟩:=h2.shape
  exact sE h1 h2
open Go.RowKit
theorem iD{α:Type}{xs ys:List α}{k:Nat}(h:xs.take k=ys.take k)(h1:k=xs.length)(h2:xs.length=ys.length) : xs=ys:=by
  rw[List.take_of_length_le (by omega),List.take_of_length_le (by omega)] at h
  exact h
theorem nC{m m':Md}{A B:Option Addr}{c d:Nat}{xs ys:List Int}{w:World}(h1:ey m w (.slice A xs.length c) xs)(h2:ey m' w (.slice B ys.length d) ys) :
    Calls Tryz.prog 68 #[.slice A xs.length c,.slice B ys.length d] w (cl (.bool (decide (xs=ys))) w):=by
 have hz1:=aS.len h1
 have hz2:=aS.len h2
 refine en 26 Tryz.func68 rfl<|aE 1<|sq<|aE 5<|cb ((((xs.length:Nat) : Int)!=((ys.length:Nat) : Int))) (fun g=>?_) (fun g=>?_)
 have j:=aB g
 refine aE 1<|aX<|rr (.bool false)<|?_
 have hs:decide (xs=ys)=false:=decide_eq_false (fun e=>by rw[e] at j;omega)
 rw[hs]
 exact⟨rfl,(aH.refl [] _)⟩
 have j:=az g
 refine bj<|sq<|aE 1<|bk<|?_
 refine jf (fun x=>[(0,.slice A xs.length c),(1,.slice B ys.length d),(5,vI ((x:Nat) : Int))]) (fun(x:Nat) w'=>aH [] w w'∧(xs.take x=ys.take x)∧(x≤xs.length)) (fun x=>xs.length-x) 0 ⟨aH.refl _ _,(by(try dsimp only);simp),(by(try dsimp only);omega)⟩ ?_
 rintro k E ⟨b,p,q⟩
 refine je [(0,.slice A xs.length c),(1,.slice B ys.length d),(5,vI ((k:Nat) : Int))] ?_
 have l:xs.take k=ys.take k:=p
 have F:k≤xs.length:=q
 refine sq<|aE 4<|cb ((decide (((k:Nat) : Int)<((xs.length:Nat) : Int)))) (fun h=>?_) (fun h=>?_)
 have r:=of_decide_eq_true h
 refine bj<|sq<|bk<|sq<|?_
 refine ft (ey.at_ (ey.old h1 b) k (by omega)) fun s t u v G=>?_
 refine ft (ey.at_ (ey.old h2 b) k (by omega)) fun y z C D H=>Rg 9 (fun w'=>w'.cell? ⟨s,t+k,none⟩=some (vW (xs.getD k 0))∧w'.cell? ⟨y,z+k,none⟩=some (vW (ys.getD k 0))) fun I i=>bo ⟨(uc i v),(uc i D)⟩ fun a=>Rt 0 a<|Rt 1 a<|lS 2 a xs.length k ((k:Nat) : Int) rfl u (by omega)<|Rl 3 a (fun _ hs=>hs.1)<|Rt 4 a<|Rt 5 a<|lS 6 a ys.length k ((k:Nat) : Int) rfl C (by omega)<|Rl 7 a (fun _ hs=>hs.2)<|Rt 8 a<|re<|tn<|?_
 have n:=aI b i
 refine cb (((xs.getD k 0)!=(ys.getD k 0))) (fun f=>?_) (fun f=>?_)
 have o:=aB f
 refine aE 1<|rt<|br<|tr<|tr<|br<|tr<|rr (.bool false)<|?_
 have hs:decide (xs=ys)=false:=decide_eq_false (vF (d:=0) k (by simpa using f))
 rw[hs]
 exact⟨rfl,n⟩
 have o:=az f
 exact sk<|bn<|tn<|go<|Pl 1<|bq (((k:Nat) : Int)+1)<|Pl 1<|nl<|gI (k+1) ⟨n,(oW (d:=0) (by omega) (by omega) l o),(by(try dsimp only);omega)⟩ (by omega)
 have r:=of_decide_eq_false h
 refine xt<|tx<|tx<|bx<|tn<|aE 1<|rt<|rr (.bool true)<|?_
 have hs:decide (xs=ys)=true:=decide_eq_true (iD l (by omega) (by omega))
 rw[hs]
 exact⟨rfl,b⟩
theorem kQ{m m':Md}{a b:Value}{xs ys:List Int}{w:World}(h1:ey m w a xs)(h2:ey m' w b ys) : Calls Tryz.prog 68 #[a,b] w (cl (.bool (decide (xs=ys))) w):=by
  obtain⟨A,c,rfl,_,_⟩:=h1.shape
  obtain⟨B,d,rfl,_,_⟩:=h2.shape
  exact nC h1 h2
theorem nR{m m':Md}{A B:Option Addr}{c d:Nat}{xs ys:List Bool}{w:World}(h1:j6 m w (.slice A xs.length c) xs)(h2:j6 m' w (.slice B ys.length d) ys) :
    Calls Tryz.prog 69 #[.slice A xs.length c,.slice B ys.length d] w (cl (.bool (decide (xs=ys))) w):=by
 have hz1:=aS.len h1
 have hz2:=aS.len h2
 refine en 26 Tryz.func69 rfl<|aE 1<|sq<|aE 5<|cb ((((xs.length:Nat) : Int)!=((ys.length:Nat) : Int))) (fun f=>?_) (fun f=>?_)
 have j:=aB f
 refine aE 1<|aX<|rr (.bool false)<|?_
 have hs:decide (xs=ys)=false:=decide_eq_false (fun e=>by rw[e] at j;omega)
 rw[hs]
 exact⟨rfl,(aH.refl [] _)⟩
 have j:=az f
 refine bj<|sq<|aE 1<|bk<|?_
 refine jf (fun x=>[(0,.slice A xs.length c),(1,.slice B ys.length d),(5,vI ((x:Nat) : Int))]) (fun(x:Nat) w'=>aH [] w w'∧(xs.take x=ys.take x)∧(x≤xs.length)) (fun x=>xs.length-x) 0 ⟨aH.refl _ _,(by(try dsimp only);simp),(by(try dsimp only);omega)⟩ ?_
 rintro k D ⟨b,o,p⟩
 refine je [(0,.slice A xs.length c),(1,.slice B ys.length d),(5,vI ((k:Nat) : Int))] ?_
 have l:xs.take k=ys.take k:=o
 have E:k≤xs.length:=p
 refine sq<|aE 4<|cb ((decide (((k:Nat) : Int)<((xs.length:Nat) : Int)))) (fun g=>?_) (fun g=>?_)
 have q:=of_decide_eq_true g
 refine bj<|sq<|bk<|sq<|?_
 refine DH (j6.at_ (j6.old h1 b) k (by omega)) fun r s t u=>?_
 refine DH (j6.at_ (j6.old h2 b) k (by omega)) fun v y z C=>Rg 9 (fun w'=>w'.cell? ⟨r,s+k,none⟩=some (.bool (xs.getD k false))∧w'.cell? ⟨v,y+k,none⟩=some (.bool (ys.getD k false))) fun F h=>bo ⟨(uc h u),(uc h C)⟩ fun a=>Rt 0 a<|Rt 1 a<|lS 2 a xs.length k ((k:Nat) : Int) rfl t (by omega)<|Rl 3 a (fun _ hs=>hs.1)<|Rt 4 a<|Rt 5 a<|lS 6 a ys.length k ((k:Nat) : Int) rfl z (by omega)<|Rl 7 a (fun _ hs=>hs.2)<|Rt 8 a<|re<|tn<|?_
 have n:=aI b h
 refine cb (((xs.getD k false)!=(ys.getD k false))) (fun i=>?_) (fun i=>?_)
 refine aE 1<|rt<|br<|tr<|tr<|br<|tr<|rr (.bool false)<|?_
 have hs:decide (xs=ys)=false:=decide_eq_false (vF (d:=false) k (by simpa using i))
 rw[hs]
 exact⟨rfl,n⟩
 exact sk<|bn<|tn<|go<|Pl 1<|bq (((k:Nat) : Int)+1)<|Pl 1<|nl<|gI (k+1) ⟨n,(oW (d:=false) (by omega) (by omega) l (by simpa using i)),(by(try dsimp only);omega)⟩ (by omega)
 have q:=of_decide_eq_false g
 refine xt<|tx<|tx<|bx<|tn<|aE 1<|rt<|rr (.bool true)<|?_
 have hs:decide (xs=ys)=true:=decide_eq_true (iD l (by omega) (by omega))
 rw[hs]
 exact⟨rfl,b⟩
theorem pJ{m m':Md}{a b:Value}{xs ys:List Bool}{w:World}(h1:j6 m w a xs)(h2:j6 m' w b ys) : Calls Tryz.prog 69 #[a,b] w (cl (.bool (decide (xs=ys))) w):=by
  obtain⟨A,c,rfl,_,_⟩:=h1.shape
  obtain⟨B,d,rfl,_,_⟩:=h2.shape
  exact nR h1 h2
open Go.RowKit
theorem tM{α:Type}{xs ys:List α}{d:α}{k:Nat}(h:xs.take k=ys.take k)(hk:k<xs.length)(hl:xs.length=ys.length)(he:xs.getD k d=ys.getD k d) : xs.take (k+1)=ys.take (k+1):=by
  have hk2:k<ys.length:=by omega
  rw[List.take_succ_eq_append_getElem hk,List.take_succ_eq_append_getElem hk2,h]
  rw[List.getD_eq_getElem?_getD,List.getElem?_eq_getElem hk,List.getD_eq_getElem?_getD,List.getElem?_eq_getElem (by omega)] at he
  simp only[Option.getD_some] at he
  rw[he]
theorem Cf{a b:dx}(h:((((!(decide (a.words=b.words)))||(a.file != b.file))||(a.record != b.record))||(a.count != b.count))=false) : a=b:=by
  cases a
  cases b
  simp at h
  simp[h]
theorem Bx{a b:Obj}(h:((!(decide (a.value=b.value)))||(a.id != b.id))=false) : a=b:=by
  cases a
  cases b
  simp at h
  simp[h]
theorem Aa{a b:Obj}(h:(!(decide (a.value=b.value)))=false)(h2:(a.id != b.id)=false) : a=b:=Bx (by rw[h,h2];rfl)
theorem oQ{A B:aU}{f:aU→aU→Bool}(h:f A B=true)(hf:∀ M,f M M=false) : decide (A=B)=false:=decide_eq_false fun e=>by rw[e,hf] at h;cases h
theorem Aq{A B:aU}(h1:((((((((((((A.code != B.code)||(A.fail != B.fail))||(A.addr != B.addr))||(A.count != B.count))||(A.value != B.value))||(A.and_ != B.and_))||(A.or_ != B.or_))||(A.addr2 != B.addr2))||(A.sub != B.sub))||(A.status != B.status))||(A.events != B.events))||(A.messages != B.messages))=false)(h2:(((((A.mei != B.mei)||(A.kind != B.kind))||(A.level != B.level))||(A.more != B.more))||(A.next != B.next))=false)(h3:(((((!(decide (A.words=B.words)))||(!(decide (A.bits=B.bits))))||(!(decide (A.data=B.data))))||(((A.recs.length:Nat) : Int)!=((B.recs.length:Nat) : Int)))||(((A.objects.length:Nat) : Int)!=((B.objects.length:Nat) : Int)))=false)(hr:A.recs.length=B.recs.length→A.recs=B.recs)(ho:A.objects.length=B.objects.length→A.objects=B.objects) : A=B:=by
  cases A
  cases B
  simp only[Bool.or_eq_false_iff,bne_eq_false_iff_eq,Bool.not_eq_false',decide_eq_true_eq] at h1 h2 h3
  simp only at hr ho
  obtain⟨⟨⟨⟨⟨⟨⟨⟨⟨⟨⟨a1,a2⟩,a3⟩,a4⟩,a5⟩,a6⟩,a7⟩,a8⟩,a9⟩,a⟩,b⟩,c⟩:=h1
  obtain⟨⟨⟨⟨b1,b2⟩,b3⟩,b4⟩,b5⟩:=h2
  obtain⟨⟨⟨⟨d1,d2⟩,d3⟩,d4⟩,d5⟩:=h3
  have d4:=hr (by omega)
  have d5:=ho (by omega)
  subst a1 a2 a3 a4 a5 a6 a7 a8 a9 a b c b1 b2 b3 b4 b5 d1 d2 d3 d4 d5
  rfl
theorem de{m m':Md}{pc qc:Array Value}{A B:aU}{w:World}(ha:aJ m w pc.toList A)(hb:aJ m' w qc.toList B) :
    Calls Tryz.prog 40 #[.agg pc,.agg qc] w (cl (.bool (decide (A=B))) w):=by
 have pM:=ha
 obtain⟨pvw,pvb,pvd,pvr,pvo,ph0,phw,phb,phd,phr,pho,pR⟩:=ha
 obtain rfl:pc=(eJ A pvw pvb pvd pvr pvo).toArray:=by apply Array.toList_inj.1;simpa using ph0
 clear ph0
 obtain⟨pw,pkw,rfl,_,_⟩:=phw.shape
 obtain⟨pb,pkb,rfl,_,_⟩:=phb.shape
 obtain⟨pd,pkd,rfl,_,_⟩:=phd.shape
 obtain⟨pr,pkr,rfl,_,_⟩:=phr.shape
 obtain⟨po,pko,rfl,_,_⟩:=pho.shape
 have qM:=hb
 obtain⟨qvw,qvb,qvd,qvr,qvo,qh0,qhw,qhb,qhd,qhr,qho,qR⟩:=hb
 obtain rfl:qc=(eJ B qvw qvb qvd qvr qvo).toArray:=by apply Array.toList_inj.1;simpa using qh0
 clear qh0
 obtain⟨qw,qkw,rfl,_,_⟩:=qhw.shape
 obtain⟨qb,qkb,rfl,_,_⟩:=qhb.shape
 obtain⟨qd,qkd,rfl,_,_⟩:=qhd.shape
 obtain⟨qr,qkr,rfl,_,_⟩:=qhr.shape
 obtain⟨qo,qko,rfl,_,_⟩:=qho.shape
 have hz1:=aS.len phr
 have hz2:=aS.len pho
 refine en 254 Tryz.func40 rfl<|sg<|L0<|d6 (mG A.code A.fail A.addr A.count A.value A.and_ A.or_ A.addr2 A.sub A.status A.events A.messages (.slice pw A.words.length pkw) (.slice pb A.bits.length pkb) (.slice pd A.data.length pkd) (.slice pr A.recs.length pkr) A.mei A.kind A.level A.more A.next (.slice po A.objects.length pko)) fun i cT cU bU bV=>L0<|d6 (mG B.code B.fail B.addr B.count B.value B.and_ B.or_ B.addr2 B.sub B.status B.events B.messages (.slice qw B.words.length qkw) (.slice qb B.bits.length qkb) (.slice qd B.data.length qkd) (.slice qr B.recs.length qkr) B.mei B.kind B.level B.more B.next (.slice qo B.objects.length qko)) fun l cV cW b aC=>ai 1<|sq<|al 1<|?_
 have c:=ub aC bU
 refine aD c 0<|Pl 1<|aD b 0<|Pl 2<|cu 6 [19] 25 (((A.code != B.code)||(A.fail != B.fail))) (fun K aF=>?_) ?_
 refine bl 19 ((A.code != B.code)) (fun q=>?_) (fun q=>?_)
 have bW:=aB q
 exact Pl 6<|ce aF true (by rw[q];rfl)
 have bW:=az q
 exact Pl 1<|L1<|dD c 1<|Pl 1<|L1<|dD b 1<|Pl 2<|ce aF (A.fail != B.fail) (by rw[q];rfl)
 refine Pl 1<|cu 6 [26] 32 ((((A.code != B.code)||(A.fail != B.fail))||(A.addr != B.addr))) (fun K aL=>?_) ?_
 refine bl 26 (((A.code != B.code)||(A.fail != B.fail))) (fun V=>?_) (fun V=>?_)
 exact Pl 6<|ce aL true (by rw[V];rfl)
 exact Pl 1<|L1<|dD c 2<|Pl 1<|L1<|dD b 2<|Pl 2<|ce aL (A.addr != B.addr) (by rw[V];rfl)
 refine Pl 1<|cu 6 [33] 39 (((((A.code != B.code)||(A.fail != B.fail))||(A.addr != B.addr))||(A.count != B.count))) (fun K aN=>?_) ?_
 refine bl 33 ((((A.code != B.code)||(A.fail != B.fail))||(A.addr != B.addr))) (fun W=>?_) (fun W=>?_)
 exact Pl 6<|ce aN true (by rw[W];rfl)
 exact Pl 1<|L1<|dD c 3<|Pl 1<|L1<|dD b 3<|Pl 2<|ce aN (A.count != B.count) (by rw[W];rfl)
 refine Pl 1<|cu 6 [40] 46 ((((((A.code != B.code)||(A.fail != B.fail))||(A.addr != B.addr))||(A.count != B.count))||(A.value != B.value))) (fun K aO=>?_) ?_
 refine bl 40 (((((A.code != B.code)||(A.fail != B.fail))||(A.addr != B.addr))||(A.count != B.count))) (fun X=>?_) (fun X=>?_)
 exact Pl 6<|ce aO true (by rw[X];rfl)
 exact Pl 1<|L1<|dD c 4<|Pl 1<|L1<|dD b 4<|Pl 2<|ce aO (A.value != B.value) (by rw[X];rfl)
 refine Pl 1<|cu 6 [47] 53 (((((((A.code != B.code)||(A.fail != B.fail))||(A.addr != B.addr))||(A.count != B.count))||(A.value != B.value))||(A.and_ != B.and_))) (fun K aP=>?_) ?_
 refine bl 47 ((((((A.code != B.code)||(A.fail != B.fail))||(A.addr != B.addr))||(A.count != B.count))||(A.value != B.value))) (fun Y=>?_) (fun Y=>?_)
 exact Pl 6<|ce aP true (by rw[Y];rfl)
 exact Pl 1<|L1<|dD c 5<|Pl 1<|L1<|dD b 5<|Pl 2<|ce aP (A.and_ != B.and_) (by rw[Y];rfl)
 refine Pl 1<|cu 6 [54] 60 ((((((((A.code != B.code)||(A.fail != B.fail))||(A.addr != B.addr))||(A.count != B.count))||(A.value != B.value))||(A.and_ != B.and_))||(A.or_ != B.or_))) (fun K aQ=>?_) ?_
 refine bl 54 (((((((A.code != B.code)||(A.fail != B.fail))||(A.addr != B.addr))||(A.count != B.count))||(A.value != B.value))||(A.and_ != B.and_))) (fun Z=>?_) (fun Z=>?_)
 exact Pl 6<|ce aQ true (by rw[Z];rfl)
 exact Pl 1<|L1<|dD c 6<|Pl 1<|L1<|dD b 6<|Pl 2<|ce aQ (A.or_ != B.or_) (by rw[Z];rfl)
 refine Pl 1<|cu 6 [61] 67 (((((((((A.code != B.code)||(A.fail != B.fail))||(A.addr != B.addr))||(A.count != B.count))||(A.value != B.value))||(A.and_ != B.and_))||(A.or_ != B.or_))||(A.addr2 != B.addr2))) (fun K aR=>?_) ?_
 refine bl 61 ((((((((A.code != B.code)||(A.fail != B.fail))||(A.addr != B.addr))||(A.count != B.count))||(A.value != B.value))||(A.and_ != B.and_))||(A.or_ != B.or_))) (fun a0=>?_) (fun a0=>?_)
 exact Pl 6<|ce aR true (by rw[a0];rfl)
 exact Pl 1<|L1<|dD c 7<|Pl 1<|L1<|dD b 7<|Pl 2<|ce aR (A.addr2 != B.addr2) (by rw[a0];rfl)
 refine Pl 1<|cu 6 [68] 74 ((((((((((A.code != B.code)||(A.fail != B.fail))||(A.addr != B.addr))||(A.count != B.count))||(A.value != B.value))||(A.and_ != B.and_))||(A.or_ != B.or_))||(A.addr2 != B.addr2))||(A.sub != B.sub))) (fun K aT=>?_) ?_
 refine bl 68 (((((((((A.code != B.code)||(A.fail != B.fail))||(A.addr != B.addr))||(A.count != B.count))||(A.value != B.value))||(A.and_ != B.and_))||(A.or_ != B.or_))||(A.addr2 != B.addr2))) (fun a1=>?_) (fun a1=>?_)
 exact Pl 6<|ce aT true (by rw[a1];rfl)
 exact Pl 1<|L1<|dD c 8<|Pl 1<|L1<|dD b 8<|Pl 2<|ce aT (A.sub != B.sub) (by rw[a1];rfl)
 refine Pl 1<|cu 6 [75] 81 (((((((((((A.code != B.code)||(A.fail != B.fail))||(A.addr != B.addr))||(A.count != B.count))||(A.value != B.value))||(A.and_ != B.and_))||(A.or_ != B.or_))||(A.addr2 != B.addr2))||(A.sub != B.sub))||(A.status != B.status))) (fun K aV=>?_) ?_
 refine bl 75 ((((((((((A.code != B.code)||(A.fail != B.fail))||(A.addr != B.addr))||(A.count != B.count))||(A.value != B.value))||(A.and_ != B.and_))||(A.or_ != B.or_))||(A.addr2 != B.addr2))||(A.sub != B.sub))) (fun a2=>?_) (fun a2=>?_)
 exact Pl 6<|ce aV true (by rw[a2];rfl)
 exact Pl 1<|L1<|dD c 9<|Pl 1<|L1<|dD b 9<|Pl 2<|ce aV (A.status != B.status) (by rw[a2];rfl)
 refine Pl 1<|cu 6 [82] 88 ((((((((((((A.code != B.code)||(A.fail != B.fail))||(A.addr != B.addr))||(A.count != B.count))||(A.value != B.value))||(A.and_ != B.and_))||(A.or_ != B.or_))||(A.addr2 != B.addr2))||(A.sub != B.sub))||(A.status != B.status))||(A.events != B.events))) (fun K aW=>?_) ?_
 refine bl 82 (((((((((((A.code != B.code)||(A.fail != B.fail))||(A.addr != B.addr))||(A.count != B.count))||(A.value != B.value))||(A.and_ != B.and_))||(A.or_ != B.or_))||(A.addr2 != B.addr2))||(A.sub != B.sub))||(A.status != B.status))) (fun a3=>?_) (fun a3=>?_)
 exact Pl 6<|ce aW true (by rw[a3];rfl)
 exact Pl 1<|L1<|dD c 10<|Pl 1<|L1<|dD b 10<|Pl 2<|ce aW (A.events != B.events) (by rw[a3];rfl)
 refine Pl 1<|cu 6 [89] 95 (((((((((((((A.code != B.code)||(A.fail != B.fail))||(A.addr != B.addr))||(A.count != B.count))||(A.value != B.value))||(A.and_ != B.and_))||(A.or_ != B.or_))||(A.addr2 != B.addr2))||(A.sub != B.sub))||(A.status != B.status))||(A.events != B.events))||(A.messages != B.messages))) (fun K aY=>?_) ?_
 refine bl 89 ((((((((((((A.code != B.code)||(A.fail != B.fail))||(A.addr != B.addr))||(A.count != B.count))||(A.value != B.value))||(A.and_ != B.and_))||(A.or_ != B.or_))||(A.addr2 != B.addr2))||(A.sub != B.sub))||(A.status != B.status))||(A.events != B.events))) (fun a4=>?_) (fun a4=>?_)
 exact Pl 6<|ce aY true (by rw[a4];rfl)
 exact Pl 1<|L1<|dD c 11<|Pl 1<|L1<|dD b 11<|Pl 2<|ce aY (A.messages != B.messages) (by rw[a4];rfl)
 refine nt<|?_
 have r:=aI bV aC
 refine cb (((((((((((((A.code != B.code)||(A.fail != B.fail))||(A.addr != B.addr))||(A.count != B.count))||(A.value != B.value))||(A.and_ != B.and_))||(A.or_ != B.or_))||(A.addr2 != B.addr2))||(A.sub != B.sub))||(A.status != B.status))||(A.events != B.events))||(A.messages != B.messages))) (fun a5=>?_) (fun a5=>?_)
 refine aE 1<|aX<|rr (.bool false)<|?_
 have hs:decide (A=B)=false:=oQ (f:=fun x y=>((((((((((((x.code != y.code)||(x.fail != y.fail))||(x.addr != y.addr))||(x.count != y.count))||(x.value != y.value))||(x.and_ != y.and_))||(x.or_ != y.or_))||(x.addr2 != y.addr2))||(x.sub != y.sub))||(x.status != y.status))||(x.events != y.events))||(x.messages != y.messages))) a5 (fun M=>by simp)
 rw[hs]
 exact⟨rfl,r⟩
 refine bj<|sq<|al 1<|aD c 16<|Pl 1<|aD b 16<|Pl 2<|cu 6 [101] 107 (((A.mei != B.mei)||(A.kind != B.kind))) (fun K b0=>?_) ?_
 refine bl 101 ((A.mei != B.mei)) (fun s=>?_) (fun s=>?_)
 have bX:=aB s
 exact Pl 6<|ce b0 true (by rw[s];rfl)
 have bX:=az s
 exact Pl 1<|L1<|dD c 17<|Pl 1<|L1<|dD b 17<|Pl 2<|ce b0 (A.kind != B.kind) (by rw[s];rfl)
 refine Pl 1<|cu 6 [108] 114 ((((A.mei != B.mei)||(A.kind != B.kind))||(A.level != B.level))) (fun K b1=>?_) ?_
 refine bl 108 (((A.mei != B.mei)||(A.kind != B.kind))) (fun a6=>?_) (fun a6=>?_)
 exact Pl 6<|ce b1 true (by rw[a6];rfl)
 exact Pl 1<|L1<|dD c 18<|Pl 1<|L1<|dD b 18<|Pl 2<|ce b1 (A.level != B.level) (by rw[a6];rfl)
 refine Pl 1<|cu 6 [115] 121 (((((A.mei != B.mei)||(A.kind != B.kind))||(A.level != B.level))||(A.more != B.more))) (fun K b2=>?_) ?_
 refine bl 115 ((((A.mei != B.mei)||(A.kind != B.kind))||(A.level != B.level))) (fun a7=>?_) (fun a7=>?_)
 exact Pl 6<|ce b2 true (by rw[a7];rfl)
 exact Pl 1<|L1<|dD c 19<|Pl 1<|L1<|dD b 19<|Pl 2<|ce b2 (A.more != B.more) (by rw[a7];rfl)
 refine Pl 1<|cu 6 [122] 128 ((((((A.mei != B.mei)||(A.kind != B.kind))||(A.level != B.level))||(A.more != B.more))||(A.next != B.next))) (fun K b3=>?_) ?_
 refine bl 122 (((((A.mei != B.mei)||(A.kind != B.kind))||(A.level != B.level))||(A.more != B.more))) (fun a8=>?_) (fun a8=>?_)
 exact Pl 6<|ce b3 true (by rw[a8];rfl)
 exact Pl 1<|L1<|dD c 20<|Pl 1<|L1<|dD b 20<|Pl 2<|ce b3 (A.next != B.next) (by rw[a8];rfl)
 refine nt<|cb ((((((A.mei != B.mei)||(A.kind != B.kind))||(A.level != B.level))||(A.more != B.more))||(A.next != B.next))) (fun a9=>?_) (fun a9=>?_)
 refine aE 1<|aX<|rr (.bool false)<|?_
 have hs:decide (A=B)=false:=oQ (f:=fun x y=>(((((x.mei != y.mei)||(x.kind != y.kind))||(x.level != y.level))||(x.more != y.more))||(x.next != y.next))) a9 (fun M=>by simp)
 rw[hs]
 exact⟨rfl,r⟩
 refine bj<|al 1<|aD c 12<|Pl 1<|aD b 12<|?_
 refine ay<|m1 (kQ (ey.old phw r) (ey.old qhw r)) fun cX aa=>Pl 1<|aM 1<|?_
 have b4:=ub aa c
 refine aD b4 13<|Pl 1<|?_
 have b5:=ub aa b
 refine aD b5 13<|?_
 have ab:=aI r aa
 refine ay<|m1 (pJ (j6.old phb ab) (j6.old qhb ab)) fun cY ac=>Pl 1<|aM 1<|?_
 have N:=ub ac b4
 refine aD N 14<|Pl 1<|?_
 have t:=ub ac b5
 refine aD t 14<|?_
 have ad:=aI ab ac
 refine ay<|m1 (jD (aZ.old phd ad) (aZ.old qhd ad)) fun bY n=>ai 1<|sq<|al 3<|cu 3 [146] 149 (((!(decide (A.words=B.words)))||(!(decide (A.bits=B.bits))))) (fun K b6=>?_) ?_
 refine bl 146 ((!(decide (A.words=B.words)))) (fun u=>?_) (fun u=>?_)
 have af:(decide (A.words=B.words))=false:=by simpa using u
 have bZ:=of_decide_eq_false af
 exact Pl 3<|ce b6 true (by rw[u];rfl)
 have af:(decide (A.words=B.words))=true:=by simpa using u
 have bZ:=of_decide_eq_true af
 exact Pl 3<|ce b6 (!(decide (A.bits=B.bits))) (by rw[u];rfl)
 refine Pl 1<|cu 3 [150] 153 ((((!(decide (A.words=B.words)))||(!(decide (A.bits=B.bits))))||(!(decide (A.data=B.data))))) (fun K b7=>?_) ?_
 refine bl 150 (((!(decide (A.words=B.words)))||(!(decide (A.bits=B.bits))))) (fun v=>?_) (fun v=>?_)
 exact Pl 3<|ce b7 true (by rw[v];rfl)
 have c0:=(bK v).1
 have c2:=(bK v).2
 have c3:(decide (A.words=B.words))=true:=by simpa using c0
 have q74anp:=of_decide_eq_true c3
 have c4:(decide (A.bits=B.bits))=true:=by simpa using c2
 have q74bnp:=of_decide_eq_true c4
 exact Pl 3<|ce b7 (!(decide (A.data=B.data))) (by rw[v];rfl)
 refine Pl 1<|cu 8 [154] 162 (((((!(decide (A.words=B.words)))||(!(decide (A.bits=B.bits))))||(!(decide (A.data=B.data))))||(((A.recs.length:Nat) : Int)!=((B.recs.length:Nat) : Int)))) (fun K b8=>?_) ?_
 refine bl 154 ((((!(decide (A.words=B.words)))||(!(decide (A.bits=B.bits))))||(!(decide (A.data=B.data))))) (fun z=>?_) (fun z=>?_)
 exact Pl 8<|ce b8 true (by rw[z];rfl)
 have b9:=(bK z).1
 have c5:=(bK z).2
 have c6:=(bK b9).1
 have c7:=(bK b9).2
 have q76aan:(decide (A.words=B.words))=true:=by simpa using c6
 have q76aanp:=of_decide_eq_true q76aan
 have q76abn:(decide (A.bits=B.bits))=true:=by simpa using c7
 have q76abnp:=of_decide_eq_true q76abn
 have c8:(decide (A.data=B.data))=true:=by simpa using c5
 have q76bnp:=of_decide_eq_true c8
 refine Pl 1<|?_
 refine L1<|dD (ub n N) 15<|Pl 2<|?_
 exact L1<|dD (ub n t) 15<|Pl 3<|ce b8 (((A.recs.length:Nat) : Int)!=((B.recs.length:Nat) : Int)) (by rw[z];rfl)
 refine Pl 1<|cu 8 [163] 171 ((((((!(decide (A.words=B.words)))||(!(decide (A.bits=B.bits))))||(!(decide (A.data=B.data))))||(((A.recs.length:Nat) : Int)!=((B.recs.length:Nat) : Int)))||(((A.objects.length:Nat) : Int)!=((B.objects.length:Nat) : Int)))) (fun K ba=>?_) ?_
 refine bl 163 (((((!(decide (A.words=B.words)))||(!(decide (A.bits=B.bits))))||(!(decide (A.data=B.data))))||(((A.recs.length:Nat) : Int)!=((B.recs.length:Nat) : Int)))) (fun C=>?_) (fun C=>?_)
 exact Pl 8<|ce ba true (by rw[C];rfl)
 have bb:=(bK C).1
 have c9:=(bK C).2
 have bc:=(bK bb).1
 have ca:=(bK bb).2
 have q80aaa:=(bK bc).1
 have q80aab:=(bK bc).2
 have q80aaan:(decide (A.words=B.words))=true:=by simpa using q80aaa
 have q80aaanp:=of_decide_eq_true q80aaan
 have q80aabn:(decide (A.bits=B.bits))=true:=by simpa using q80aab
 have q80aabnp:=of_decide_eq_true q80aabn
 have q80abn:(decide (A.data=B.data))=true:=by simpa using ca
 have q80abnp:=of_decide_eq_true q80abn
 have cZ:=az c9
 refine Pl 1<|?_
 refine L1<|dD (ub n N) 21<|Pl 2<|?_
 exact L1<|dD (ub n t) 21<|Pl 3<|ce ba (((A.objects.length:Nat) : Int)!=((B.objects.length:Nat) : Int)) (by rw[C];rfl)
 refine nt<|?_
 have bd:=aI ad n
 refine cb ((((((!(decide (A.words=B.words)))||(!(decide (A.bits=B.bits))))||(!(decide (A.data=B.data))))||(((A.recs.length:Nat) : Int)!=((B.recs.length:Nat) : Int)))||(((A.objects.length:Nat) : Int)!=((B.objects.length:Nat) : Int)))) (fun D=>?_) (fun D=>?_)
 refine aE 1<|aX<|rr (.bool false)<|?_
 have hs:decide (A=B)=false:=oQ (f:=fun x y=>(((((!(decide (x.words=y.words)))||(!(decide (x.bits=y.bits))))||(!(decide (x.data=y.data))))||(((x.recs.length:Nat) : Int)!=((y.recs.length:Nat) : Int)))||(((x.objects.length:Nat) : Int)!=((y.objects.length:Nat) : Int)))) D (fun M=>by simp)
 rw[hs]
 exact⟨rfl,bd⟩
 have be:=(bK D).1
 have cc:=(bK D).2
 have bf:=(bK be).1
 have cd:=(bK be).2
 have q85aaa:=(bK bf).1
 have q85aab:=(bK bf).2
 have q85aaaa:=(bK q85aaa).1
 have q85aaab:=(bK q85aaa).2
 have q85aaaan:(decide (A.words=B.words))=true:=by simpa using q85aaaa
 have q85aaaanp:=of_decide_eq_true q85aaaan
 have q85aaabn:(decide (A.bits=B.bits))=true:=by simpa using q85aaab
 have q85aaabnp:=of_decide_eq_true q85aaabn
 have q85aabn:(decide (A.data=B.data))=true:=by simpa using q85aab
 have q85aabnp:=of_decide_eq_true q85aabn
 have q85abp:=az cd
 have d0:=az cc
 refine bj<|sq<|aE 1<|bk<|?_
 refine jf (fun x=>[(2,vP i 0),(3,vP l 0),(8,vI ((x:Nat) : Int))]) (fun(x:Nat) w'=>aH [] bY w'∧(A.recs.take x=B.recs.take x)∧(x≤A.recs.length)) (fun x=>A.recs.length-x) 0 ⟨aH.refl _ _,(by(try dsimp only);simp),(by(try dsimp only);omega)⟩ ?_
 rintro j cf ⟨O,cg,ch⟩
 refine je [(2,vP i 0),(3,vP l 0),(8,vI ((j:Nat) : Int))] ?_
 have bg:A.recs.take j=B.recs.take j:=cg
 have d1:j≤A.recs.length:=ch
 refine sq<|al 2<|?_
 have P:=aI n O
 have ag:=ub P N
 refine aD ag 15<|ai 2<|?_
 have Q:=aI bd O
 refine cb ((decide (((j:Nat) : Int)<((A.recs.length:Nat) : Int)))) (fun ah=>?_) (fun ah=>?_)
 have ci:=of_decide_eq_true ah
 refine bj<|sq<|bk<|al 1<|aD ag 15<|Pl 1<|lU (nc.elt phr j (by omega)) fun d2 d3 d4 d5 d7 bh bi cj ck cm d8 cn=>L0<|rf 4 A.recs.length j cj (by omega)<|?_
 refine L0<|CW [vW ((A.recs.getD j ⟨0,0,0,[]⟩).file),vW ((A.recs.getD j ⟨0,0,0,[]⟩).record),vW ((A.recs.getD j ⟨0,0,0,[]⟩).count),.slice bh ((A.recs.getD j ⟨0,0,0,[]⟩).words.length) bi] (ub Q ck) cn<|aK #[vW 0,vW 0,vW 0,nS] fun d9 da aj co ak=>aG co #[vW ((A.recs.getD j ⟨0,0,0,[]⟩).file),vW ((A.recs.getD j ⟨0,0,0,[]⟩).record),vW ((A.recs.getD j ⟨0,0,0,[]⟩).count),.slice bh ((A.recs.getD j ⟨0,0,0,[]⟩).words.length) bi] fun db cp am=>aM 1<|?_
 refine aD (ub (u1 (aI P ak) am (ni P.size aj)) t) 15<|Pl 1<|lU (nc.elt qhr j (by omega)) fun dc dd df dg dh bm bp cq cr cs di ct=>L0<|rf 4 B.recs.length j cq (by omega)<|?_
 have an:=u1 (aI Q ak) am (ni Q.size aj)
 refine L0<|CW [vW ((B.recs.getD j ⟨0,0,0,[]⟩).file),vW ((B.recs.getD j ⟨0,0,0,[]⟩).record),vW ((B.recs.getD j ⟨0,0,0,[]⟩).count),.slice bm ((B.recs.getD j ⟨0,0,0,[]⟩).words.length) bp] (ub an cr) ct<|aK #[vW 0,vW 0,vW 0,nS] fun dj dk ao cv ap=>aG cv #[vW ((B.recs.getD j ⟨0,0,0,[]⟩).file),vW ((B.recs.getD j ⟨0,0,0,[]⟩).record),vW ((B.recs.getD j ⟨0,0,0,[]⟩).count),.slice bm ((B.recs.getD j ⟨0,0,0,[]⟩).words.length) bp] fun dl R aq=>aM 1<|?_
 have S:=ub (u1 ap aq (nr ao)) cp
 refine aD S 3<|Pl 1<|aD R 3<|?_
 have ar:=u1 (aI an ap) aq (ni an.size ao)
 refine ay<|m1 (kQ (ey.old cm ar) (ey.old cs ar)) fun dm h=>Pl 1<|aM 3<|cu 6 [196] 202 (((!(decide ((A.recs.getD j ⟨0,0,0,[]⟩).words=(B.recs.getD j ⟨0,0,0,[]⟩).words)))||(((A.recs.getD j ⟨0,0,0,[]⟩).file)!=((B.recs.getD j ⟨0,0,0,[]⟩).file)))) (fun K bs=>?_) ?_
 refine bl 196 ((!(decide ((A.recs.getD j ⟨0,0,0,[]⟩).words=(B.recs.getD j ⟨0,0,0,[]⟩).words)))) (fun E=>?_) (fun E=>?_)
 have au:(decide ((A.recs.getD j ⟨0,0,0,[]⟩).words=(B.recs.getD j ⟨0,0,0,[]⟩).words))=false:=by simpa using E
 have cw:=of_decide_eq_false au
 exact Pl 6<|ce bs true (by rw[E];rfl)
 have au:(decide ((A.recs.getD j ⟨0,0,0,[]⟩).words=(B.recs.getD j ⟨0,0,0,[]⟩).words))=true:=by simpa using E
 have cw:=of_decide_eq_true au
 refine Pl 1<|?_
 refine L1<|dD (ub h S) 0<|Pl 1<|?_
 exact L1<|dD (ub h R) 0<|Pl 2<|ce bs (((A.recs.getD j ⟨0,0,0,[]⟩).file)!=((B.recs.getD j ⟨0,0,0,[]⟩).file)) (by rw[E];rfl)
 refine Pl 1<|cu 6 [203] 209 ((((!(decide ((A.recs.getD j ⟨0,0,0,[]⟩).words=(B.recs.getD j ⟨0,0,0,[]⟩).words)))||(((A.recs.getD j ⟨0,0,0,[]⟩).file)!=((B.recs.getD j ⟨0,0,0,[]⟩).file)))||(((A.recs.getD j ⟨0,0,0,[]⟩).record)!=((B.recs.getD j ⟨0,0,0,[]⟩).record)))) (fun K bt=>?_) ?_
 refine bl 203 (((!(decide ((A.recs.getD j ⟨0,0,0,[]⟩).words=(B.recs.getD j ⟨0,0,0,[]⟩).words)))||(((A.recs.getD j ⟨0,0,0,[]⟩).file)!=((B.recs.getD j ⟨0,0,0,[]⟩).file)))) (fun F=>?_) (fun F=>?_)
 exact Pl 6<|ce bt true (by rw[F];rfl)
 have cx:=(bK F).1
 have cy:=(bK F).2
 have cz:(decide ((A.recs.getD j ⟨0,0,0,[]⟩).words=(B.recs.getD j ⟨0,0,0,[]⟩).words))=true:=by simpa using cx
 have q156anp:=of_decide_eq_true cz
 have dn:=az cy
 refine Pl 1<|?_
 refine L1<|dD (ub h S) 1<|Pl 1<|?_
 exact L1<|dD (ub h R) 1<|Pl 2<|ce bt (((A.recs.getD j ⟨0,0,0,[]⟩).record)!=((B.recs.getD j ⟨0,0,0,[]⟩).record)) (by rw[F];rfl)
 refine Pl 1<|cu 6 [210] 216 (((((!(decide ((A.recs.getD j ⟨0,0,0,[]⟩).words=(B.recs.getD j ⟨0,0,0,[]⟩).words)))||(((A.recs.getD j ⟨0,0,0,[]⟩).file)!=((B.recs.getD j ⟨0,0,0,[]⟩).file)))||(((A.recs.getD j ⟨0,0,0,[]⟩).record)!=((B.recs.getD j ⟨0,0,0,[]⟩).record)))||(((A.recs.getD j ⟨0,0,0,[]⟩).count)!=((B.recs.getD j ⟨0,0,0,[]⟩).count)))) (fun K bu=>?_) ?_
 refine bl 210 ((((!(decide ((A.recs.getD j ⟨0,0,0,[]⟩).words=(B.recs.getD j ⟨0,0,0,[]⟩).words)))||(((A.recs.getD j ⟨0,0,0,[]⟩).file)!=((B.recs.getD j ⟨0,0,0,[]⟩).file)))||(((A.recs.getD j ⟨0,0,0,[]⟩).record)!=((B.recs.getD j ⟨0,0,0,[]⟩).record)))) (fun G=>?_) (fun G=>?_)
 exact Pl 6<|ce bu true (by rw[G];rfl)
 have bv:=(bK G).1
 have cA:=(bK G).2
 have cB:=(bK bv).1
 have cC:=(bK bv).2
 have q160aan:(decide ((A.recs.getD j ⟨0,0,0,[]⟩).words=(B.recs.getD j ⟨0,0,0,[]⟩).words))=true:=by simpa using cB
 have q160aanp:=of_decide_eq_true q160aan
 have q160abp:=az cC
 have dp:=az cA
 refine Pl 1<|?_
 refine L1<|dD (ub h S) 2<|Pl 1<|?_
 exact L1<|dD (ub h R) 2<|Pl 2<|ce bu (((A.recs.getD j ⟨0,0,0,[]⟩).count)!=((B.recs.getD j ⟨0,0,0,[]⟩).count)) (by rw[G];rfl)
 refine nt<|?_
 refine cb (((((!(decide ((A.recs.getD j ⟨0,0,0,[]⟩).words=(B.recs.getD j ⟨0,0,0,[]⟩).words)))||(((A.recs.getD j ⟨0,0,0,[]⟩).file)!=((B.recs.getD j ⟨0,0,0,[]⟩).file)))||(((A.recs.getD j ⟨0,0,0,[]⟩).record)!=((B.recs.getD j ⟨0,0,0,[]⟩).record)))||(((A.recs.getD j ⟨0,0,0,[]⟩).count)!=((B.recs.getD j ⟨0,0,0,[]⟩).count)))) (fun H=>?_) (fun H=>?_)
 refine aE 1<|rt<|br<|tr<|tr<|br<|tr<|rr (.bool false)<|?_
 have hs:decide (A=B)=false:=oQ (f:=fun x y=>((((!(decide ((x.recs.getD j ⟨0,0,0,[]⟩).words=(y.recs.getD j ⟨0,0,0,[]⟩).words)))||(((x.recs.getD j ⟨0,0,0,[]⟩).file)!=((y.recs.getD j ⟨0,0,0,[]⟩).file)))||(((x.recs.getD j ⟨0,0,0,[]⟩).record)!=((y.recs.getD j ⟨0,0,0,[]⟩).record)))||(((x.recs.getD j ⟨0,0,0,[]⟩).count)!=((y.recs.getD j ⟨0,0,0,[]⟩).count)))) H (fun M=>by simp)
 rw[hs]
 exact⟨rfl,(aI ar h)⟩
 have bw:=(bK H).1
 have cD:=(bK H).2
 have bz:=(bK bw).1
 have cE:=(bK bw).2
 have q165aaa:=(bK bz).1
 have q165aab:=(bK bz).2
 have q165aaan:(decide ((A.recs.getD j ⟨0,0,0,[]⟩).words=(B.recs.getD j ⟨0,0,0,[]⟩).words))=true:=by simpa using q165aaa
 have q165aaanp:=of_decide_eq_true q165aaan
 have q165aabp:=az q165aab
 have q165abp:=az cE
 have dq:=az cD
 refine sk<|bn<|tn<|go<|Pl 1<|bq (((j:Nat) : Int)+1)<|Pl 1<|nl<|?_
 have bA:=u1 (aI O ak) am (ni O.size aj)
 exact gI (j+1) ⟨(aI (u1 (aI bA ap) aq (ni bA.size ao)) h),(tM (d:=⟨0,0,0,[]⟩) bg (by omega) (by omega) (Cf H)),(by(try dsimp only);omega)⟩ (by omega)
 have ci:=of_decide_eq_false ah
 refine xt<|tx<|tx<|bx<|tn<|sq<|aE 1<|bk<|?_
 refine jf (fun x=>[(2,vP i 0),(3,vP l 0),(12,vI ((x:Nat) : Int))]) (fun(x:Nat) w'=>aH [] cf w'∧(A.objects.take x=B.objects.take x)∧(x≤A.objects.length)) (fun x=>A.objects.length-x) 0 ⟨aH.refl _ _,(by(try dsimp only);simp),(by(try dsimp only);omega)⟩ ?_
 rintro k dr ⟨T,cF,cG⟩
 refine je [(2,vP i 0),(3,vP l 0),(12,vI ((k:Nat) : Int))] ?_
 have bB:A.objects.take k=B.objects.take k:=cF
 have ds:k≤A.objects.length:=cG
 refine sq<|al 2<|?_
 have bC:=ub T ag
 refine aD bC 21<|ai 2<|?_
 have bD:=aI Q T
 refine cb ((decide (((k:Nat) : Int)<((A.objects.length:Nat) : Int)))) (fun av=>?_) (fun av=>?_)
 have cH:=of_decide_eq_true av
 refine bj<|sq<|bk<|sq<|lU (o0.elt pho k (by omega)) fun bE bF dt du dv cI cJ bG cK cL dw aw=>lU (o0.elt qho k (by omega)) fun bH bI dx dy dz cM cN bJ cO cP dA ax=>Rg 14 (fun w'=>w'.cell? ⟨i,21,none⟩=some (.slice po A.objects.length pko)∧w'.cell? ⟨bE,bF+k*2+1,none⟩=some (.slice cI ((A.objects.getD k ⟨0,[]⟩).value.length) cJ)∧w'.cell? ⟨l,21,none⟩=some (.slice qo B.objects.length qko)∧w'.cell? ⟨bH,bI+k*2+1,none⟩=some (.slice cM ((B.objects.getD k ⟨0,[]⟩).value.length) cN)) fun dB U=>?_
 have bL:=ub U bC
 have I:=aI bD U
 have bM:=ub I cK
 have bN:=ub (aI (aI P T) U) t
 have bO:=ub I cO
 refine bo ⟨(ae bL rfl),(gt bM aw 1 rfl (by decide)),(ae bN rfl),(gt bO ax 1 rfl (by decide))⟩ fun g=>Rt 0 g<|Rl 1 g (fun _ hs=>hs.1)<|Rt 2 g<|Ri 3 g 2 A.objects.length k ((k:Nat) : Int) rfl bG (by omega)<|Rt 4 g<|Rl 5 g (fun _ hs=>hs.2.1)<|Rt 6 g<|Rl 7 g (fun _ hs=>hs.2.2.1)<|Rt 8 g<|Ri 9 g 2 B.objects.length k ((k:Nat) : Int) rfl bJ (by omega)<|Rt 10 g<|Rl 11 g (fun _ hs=>hs.2.2.2)<|?_
 refine R0 12 rfl<|Oc<|m1 (jD (aZ.old cL I) (aZ.old cP I)) fun dC o=>?_
 have bP:=ub o bL
 have bQ:=ub o bM
 have bR:=ub o bN
 have bS:=ub o bO
 refine bo ⟨(ae bP rfl),(gt bQ aw 1 rfl (by decide)),(ae bR rfl),(gt bS ax 1 rfl (by decide))⟩ fun cQ=>Rt 13 cQ<|re<|tn<|sq<|Rg 17 (fun w'=>w'.cell? ⟨i,21,none⟩=some (.slice po A.objects.length pko)∧w'.cell? ⟨bE,bF+k*2+0,none⟩=some (vB ((A.objects.getD k ⟨0,[]⟩).id))∧w'.cell? ⟨l,21,none⟩=some (.slice qo B.objects.length qko)∧w'.cell? ⟨bH,bI+k*2+0,none⟩=some (vB ((B.objects.getD k ⟨0,[]⟩).id))) fun dE p=>?_
 refine bo ⟨(ae (ub p bP) rfl),(gt (ub p bQ) aw 0 rfl (by decide)),(ae (ub p bR) rfl),(gt (ub p bS) ax 0 rfl (by decide))⟩ fun a=>Rt 0 a<|Rt 1 a<|Rt 2 a<|?_
 have bT:=aI (aI I o) p
 refine uu 239 ((!(decide ((A.objects.getD k ⟨0,[]⟩).value=(B.objects.getD k ⟨0,[]⟩).value)))) (fun J=>?_) (fun J=>?_)
 have aA:(decide ((A.objects.getD k ⟨0,[]⟩).value=(B.objects.getD k ⟨0,[]⟩).value))=false:=by simpa using J
 have cR:=of_decide_eq_false aA
 refine Ro 3 a<|Ro 4 a<|Ro 5 a<|Ro 6 a<|Ro 7 a<|Ro 8 a<|Ro 9 a<|Ro 10 a<|Ro 11 a<|Ro 12 a<|Ro 13 a<|Ro 14 a<|Ro 15 a<|Rt 16 a<|?_
 refine re<|tn<|c1<|aE 1<|rt<|br<|tr<|tr<|br<|tr<|?_
 refine rr (.bool false)<|?_
 have hs:decide (A=B)=false:=oQ (f:=fun x y=>(!(decide ((x.objects.getD k ⟨0,[]⟩).value=(y.objects.getD k ⟨0,[]⟩).value)))) J (fun M=>by simp)
 rw[hs]
 exact⟨rfl,bT⟩
 have aA:(decide ((A.objects.getD k ⟨0,[]⟩).value=(B.objects.getD k ⟨0,[]⟩).value))=true:=by simpa using J
 have cR:=of_decide_eq_true aA
 refine Rt 3 a<|Rl 4 a (fun _ hs=>hs.1)<|Rt 5 a<|Ri 6 a 2 A.objects.length k ((k:Nat) : Int) rfl bG (by omega)<|Rt 7 a<|Rl 8 a (fun _ hs=>hs.2.1)<|Rt 9 a<|Rl 10 a (fun _ hs=>hs.2.2.1)<|Rt 11 a<|Ri 12 a 2 B.objects.length k ((k:Nat) : Int) rfl bJ (by omega)<|Rt 13 a<|Rl 14 a (fun _ hs=>hs.2.2.2)<|Rt 15 a<|Rt 16 a<|?_
 refine re<|tn<|cb ((((A.objects.getD k ⟨0,[]⟩).id)!=((B.objects.getD k ⟨0,[]⟩).id))) (fun L=>?_) (fun L=>?_)
 have cS:=aB L
 refine aE 1<|rt<|br<|tr<|tr<|br<|tr<|rr (.bool false)<|?_
 have hs:decide (A=B)=false:=oQ (f:=fun x y=>(((x.objects.getD k ⟨0,[]⟩).id)!=((y.objects.getD k ⟨0,[]⟩).id))) L (fun M=>by simp)
 rw[hs]
 exact⟨rfl,bT⟩
 have cS:=az L
 refine sk<|bn<|tn<|go<|Pl 1<|bq (((k:Nat) : Int)+1)<|Pl 1<|nl<|?_
 exact gI (k+1) ⟨(aI (aI (aI T U) o) p),(tM (d:=⟨0,[]⟩) bB (by omega) (by omega) (Aa J L)),(by(try dsimp only);omega)⟩ (by omega)
 have cH:=of_decide_eq_false av
 refine xt<|tx<|tx<|bx<|tn<|aE 1<|rt<|rr (.bool true)<|?_
 have hs:decide (A=B)=true:=decide_eq_true (Aq a5 a9 D (fun e=>iD bg (by omega) e) (fun e=>iD bB (by omega) e))
 rw[hs]
 exact⟨rfl,bD⟩
end Go.Proofs.YtdkhbcefkfgbdaaGreat
namespace Go.Proofs.YtdkhbcefkfgbdaaGreat
def N4 (C:ah) : Prop:=C.e≠4
theorem N4.need{C:ah}{b:Bool}{x:Int}(hx:x≠4)(h:N4 C) : N4 (C.need b x):=by
  unfold N4 ah.need at *
  split
  · exact hx
  · exact h
theorem N4.bytesC{C:ah}{n:Int}(h:N4 C) : N4 (C.bytesC n):=by
  unfold ah.bytesC
  split
  · exact N4.need (by decide) h
  · exact h
theorem N4.wordsC{C:ah}{n:Int}(h:N4 C) : N4 (C.wordsC n):=by
  unfold ah.wordsC
  split<;>exact N4.bytesC h
theorem N4.recs{one:Int→ah→Int × ah × dx}(ho:∀ s C,N4 C→N4 (one s C).2.1) : ∀ (n:Nat)(s:Int)(C:ah)(L:List dx),N4 C→N4 (aY one n s C L).1
  | 0,_,_,_,h=>h
  | n+1,s,C,L,h=>by
    unfold aY
    split
    · split
      · exact ho s C h
      · exact N4.recs ho n _ _ _ (ho s C h)
    · exact h
theorem N4.objs:∀ (n:Nat)(C:ah)(L:List Obj),N4 C→N4 (eH n C L).1
  | 0,_,_,h=>h
  | n+1,C,L,h=>N4.objs n _ _ (N4.bytesC (N4.bytesC (N4.bytesC h)))
theorem tw{x:Int}(h:x≠4) : bE x≠4:=by
  unfold bE
  split
  · decide
  · exact h
theorem yb{dir c:Int}{C:ah}{r:ah × aU}(hC:N4 C)(h:aP dir c C=some r) : N4 r.1:=by
  unfold aP at h
  repeat' split at h
  all_goals first | cases h | skip
  all_goals simp only[eE,ep,dX,iR,bV,jZ,fR,eb,sa,iX]
  all_goals repeat' first | with_reducible exact hC | with_reducible apply N4.bytesC | with_reducible apply N4.wordsC | (with_reducible refine N4.need (by decide) ?_)
theorem zD{dir c:Int}{C:ah}{r:ah × aU}(hC:N4 C)(h:aW dir c C=some r) : N4 r.1:=by
  unfold aW at h
  repeat' split at h
  all_goals first | cases h | skip
  all_goals simp only[co,cH,ef,dq,da,dn,dp,lZ,jh,iL,bP,lI,dc,gA,qI,Ay,tI]
  all_goals repeat' first | with_reducible exact hC | with_reducible apply N4.bytesC | with_reducible apply N4.wordsC | (with_reducible refine N4.need (by decide) ?_)
theorem zE{dir c:Int}{C:ah}{r:ah × aU}(hC:N4 C)(h:bg dir c C=some r) : N4 r.1:=by
  unfold bg eD cI at h
  repeat' split at h
  all_goals first | cases h | skip
  all_goals simp only[fu,kx,fX,gD,dW]
  all_goals repeat' first | with_reducible exact hC | with_reducible apply N4.bytesC | with_reducible apply N4.wordsC | (with_reducible refine N4.need (by decide) ?_)
theorem AC(s:Int)(C:ah)(h:N4 C) : N4 (dl s C).2.1:=by
  simp only[dl,eZ,dQ,j8,jJ,nw]
  repeat' first | with_reducible exact h | with_reducible apply N4.bytesC | with_reducible apply N4.wordsC | (with_reducible refine N4.need (by decide) ?_)
theorem xL(s:Int)(C:ah)(h:N4 C) : N4 (bY s C).2.1:=by
  simp only[bY,fs,j0,gv]
  repeat' first | with_reducible exact h | with_reducible apply N4.bytesC | with_reducible apply N4.wordsC | (with_reducible refine N4.need (by decide) ?_)
theorem As(s:Int)(C:ah)(h:N4 C) : N4 (dr s C).2.1:=by
  simp only[dr,jX,nB,dQ,j8,jJ,nw]
  repeat' first | with_reducible exact h | with_reducible apply N4.bytesC | with_reducible apply N4.wordsC | (with_reducible refine N4.need (by decide) ?_)
theorem ld{one:Int→ah→Int × ah × dx}(ho:∀ s C,N4 C→N4 (one s C).2.1)(may:Int→Bool)(c:Int){C:ah}(hC:N4 C) : N4 (eh one may c C).1:=by
  unfold eh lK
  refine N4.need (tw (N4.recs ho _ _ _ _ ?_)) (N4.bytesC (N4.need (by decide) (N4.bytesC hC)))
  show(0:Int)≠4
  decide
theorem xA{dir c:Int}{C:ah}{r:ah × aU}(hC:N4 C)(h:bh dir c C=some r) : N4 r.1:=by
  unfold bh at h
  repeat' split at h
  all_goals first | cases h | skip
  · exact ld AC _ _ hC
  · exact ld xL _ _ hC
  · exact ld As _ _ hC
theorem N4.endC{C:ah}(h:N4 C) : N4 C.endC:=by
  unfold ah.endC
  exact N4.need (by decide) h
theorem wW{form:Int→Int→ah→Option (ah × aU)}(hg:∀ {dir c:Int}{C:ah}{r:ah × aU},N4 C→form dir c C=some r→N4 r.1){dir c:Int}{b:List Int}(hd:dir=0∨dir=1){r:ah × aU}(hf:form dir c ⟨b,false,0⟩=some r) :
    (aj form dir c b).2≠4:=by
  unfold aj
  rw[if_pos hd,hf]
  have h0:N4 ⟨b,false,0⟩:=by show(0:Int)≠4;decide
  have g1:=hg h0 hf
  show(bp r.2 r.1).2≠4
  unfold bp
  split
  · exact(show ¬ (0:Int)=4 from by decide)
  · exact N4.endC g1
theorem ns{form:Int→Int→ah→Option (ah × aU)}{dir c:Int}{b:List Int}(hd:dir=0∨dir=1)(hf:form dir c ⟨b,false,0⟩=none) : aj form dir c b=(aU.zero,4):=by
  unfold aj
  rw[if_pos hd,hf]
def fY (dir:Int)(b:List Int) : aU × Int :=
  if (aj aP dir (b.getD 0 0) (b.drop 1)).2==4 then
    if (aj aW dir (b.getD 0 0) (b.drop 1)).2==4 then
      if (aj bg dir (b.getD 0 0) (b.drop 1)).2==4 then
        if (aj bh dir (b.getD 0 0) (b.drop 1)).2==4 then aj bU dir (b.getD 0 0) (b.drop 1)
        else aj bh dir (b.getD 0 0) (b.drop 1)
      else aj bg dir (b.getD 0 0) (b.drop 1)
    else aj aW dir (b.getD 0 0) (b.drop 1)
  else aj aP dir (b.getD 0 0) (b.drop 1)
theorem vj{dir:Int}{b:List Int}(hd:dir=0∨dir=1) : fY dir b=jb (jY (b.getD 0 0)) dir b:=by
  have no:∀ (form:Int→Int→ah→Option (ah × aU)),form dir (b.getD 0 0) ⟨b.drop 1,false,0⟩=none→((aj form dir (b.getD 0 0) (b.drop 1)).2==4)=true:=fun f h=>by rw[ns hd h];rfl
  have ye:∀ (form:Int→Int→ah→Option (ah × aU)),(∀ {dir c:Int} {C:ah} {r:ah × aU},N4 C→form dir c C=some r→N4 r.1)→(form dir (b.getD 0 0) ⟨b.drop 1,false,0⟩).isSome=true→¬ ((aj form dir (b.getD 0 0) (b.drop 1)).2==4)=true:=fun form hg h=>by
    obtain⟨r,hr⟩:=Option.isSome_iff_exists.1 h
    have k:=wW (form:=form) (c:=b.getD 0 0) (fun hC h=>hg hC h) hd hr
    rw[beq_iff_eq]
    exact k
  unfold fY
  rcases i7 (b.getD 0 0) with⟨hk,hf⟩|⟨hk,hf⟩|⟨hk,hf⟩|⟨hk,hf⟩|⟨hk,hf⟩|⟨hk,hf⟩<;>rw[hf]
  · rw[if_neg (ye aP (fun hC h=>yb hC h) (by rcases hd with rfl | rfl<;>rcases hk with h | h | h | h<;>rw[h]<;>rfl))]
    rfl
  · rw[if_pos (no aP (by rcases hk with h | h | h | h | h | h | h<;>rw[h]<;>rfl)),if_neg (ye aW (fun hC h=>zD hC h) (by rcases hd with rfl | rfl<;>rcases hk with h | h | h | h | h | h | h<;>rw[h]<;>rfl))]
    rfl
  · rw[if_pos (no aP (by rcases hk with h | h | h | h | h<;>rw[h]<;>rfl)),if_pos (no aW (by rcases hk with h | h | h | h | h<;>rw[h]<;>rfl)),if_neg (ye bg (fun hC h=>zE hC h) (by rcases hd with rfl | rfl<;>rcases hk with h | h | h | h | h<;>rw[h]<;>rfl))]
    rfl
  · rw[if_pos (no aP (by rcases hk with h | h<;>rw[h]<;>rfl)),if_pos (no aW (by rcases hk with h | h<;>rw[h]<;>rfl)),if_pos (no bg (by rcases hk with h | h<;>rw[h]<;>rfl)),if_neg (ye bh (fun hC h=>xA hC h) (by rcases hd with rfl | rfl<;>rcases hk with h | h<;>rw[h]<;>rfl))]
    rfl
  · rw[if_pos (no aP (by rw[hk]<;>rfl)),if_pos (no aW (by rw[hk]<;>rfl)),if_pos (no bg (by rw[hk]<;>rfl)),if_pos (no bh (by rw[hk]<;>rfl))]
    rfl
  · have no0:∀ (form:Int→Int→ah→Option (ah × aU)),(∀ C,form dir (b.getD 0 0) C=none)→((aj form dir (b.getD 0 0) (b.drop 1)).2==4)=true:=fun f h=>no f (h _)
    have ne:∀ k:Int,¬ b.getD 0 0=k→(b.getD 0 0==k)=false:=fun k h=>by simpa using h
    obtain⟨z1,z2,z5,a,z3,z4,z6,d,e,g,i,z7,z8,j,l,m,n,o,p⟩:=hk
    rw[if_pos (no0 aP fun C=>by unfold aP;simp only[ne _ z1,ne _ z2,ne _ z5,ne _ a,Bool.or_false,Bool.false_eq_true,if_false]),if_pos (no0 aW fun C=>by unfold aW;simp only[ne _ z3,ne _ z4,ne _ z6,ne _ d,ne _ e,ne _ g,ne _ i,Bool.or_false,Bool.false_eq_true,if_false]),if_pos (no0 bg fun C=>by unfold bg;simp only[ne _ z7,ne _ z8,ne _ j,ne _ l,ne _ m,Bool.or_false,Bool.false_eq_true,if_false]),if_pos (no0 bh fun C=>by unfold bh;simp only[ne _ n,ne _ o,Bool.or_false,Bool.false_eq_true,if_false])]
    exact ns hd (by unfold bU;rw[if_pos (show(b.getD 0 0 != 43)=true from by rw[bne_iff_ne];exact p)])
def iq (dir:Int)(b:List Int) : aU × Int :=
  if dir != 0&&dir != 1 then (aU.zero,1)
  else if (b.length:Int)==0 then (aU.zero,2)
  else if decide (253<(b.length:Int)) then (aU.zero,3)
  else if decide (128≤b.getD 0 0)&&dir==1 then fl b
  else fY dir b
theorem gi(dir:Int)(b:List Int) : iq dir b=cF dir b:=by
  unfold iq cF
  split
  · rfl
  · rename_i hh
    have hd:dir=0∨dir=1:=by simp only[Bool.and_eq_true,bne_iff_ne,ne_eq] at hh;omega
    rw[vj hd]
open Go.RowKit
theorem wh{xs:List Int}{k a b:Nat}(h:2*k+1<xs.length)(ha:a=2*k)(hb:b=2*k+1)(hr:∀ x,x∈xs→0≤x∧x<256) : dB (xs.drop (2*k))=[(((256*xs.getD a 0)%65536)+xs.getD b 0)%65536]++dB (xs.drop (2*(k+1))):=by
  subst ha hb
  rw[List.drop_eq_getElem_cons (show 2*k<xs.length by omega),List.drop_eq_getElem_cons h]
  have h1:=hr _ (List.getElem_mem (show 2*k<xs.length by omega))
  have h2:=hr _ (List.getElem_mem h)
  have e1:xs.getD (2*k) 0=xs[2*k]:=by rw[List.getD_eq_getElem?_getD,List.getElem?_eq_getElem (by omega)];rfl
  have e2:xs.getD (2*k+1) 0=xs[2*k+1]:=by rw[List.getD_eq_getElem?_getD,List.getElem?_eq_getElem h];rfl
  rw[e1,e2]
  show(xs[2*k]*256+xs[2*k+1]) :: dB (xs.drop (2*k+1+1))=_
  rw[show 2*k+1+1=2*(k+1) by omega,show((256*xs[2*k])%65536+xs[2*k+1])%65536=xs[2*k]*256+xs[2*k+1] by omega]
  rfl
theorem vv{xs L:List Int}{k:Nat}(h:L++dB (xs.drop (2*k))=dB xs)(h1:¬ 2*k+1<xs.length)(h2:xs.length%2=0) : L=cz xs:=by
  have hd:xs.drop (2*k)=[]:=List.drop_eq_nil_of_le (by omega)
  rw[hd] at h
  unfold cz
  rw[if_pos h2,← h]
  simp[dB]
theorem Cj{m:Md}{A:Option Addr}{cp:Nat}{xs:List Int}{w:World}(h:aZ m w (.slice A xs.length cp) xs)(hn:xs.length≤1048576) : Calls Tryz.prog 224 #[.slice A xs.length cp] w (yo xs w):=by
 have hr:=aZ.range h
 refine en 33 Tryz.func224 rfl<|al 1<|cE 1<|sq<|al 2<|L0<|Oe (vI (Int.tmod (xs.length:Int) 2)) (vI ((xs.length:Int)%2)) (congrArg (Value.int .i64) (Int.tmod_eq_emod_of_nonneg (by omega)))<|ai 1<|cb ((((xs.length:Int)%2)==1)) (fun f=>?_) (fun f=>?_)
 have v:=ag f
 refine aE 1<|aX<|rr nS<|?_
 have hs:cz xs=[]:=by unfold cz;rw[if_neg (by have:=ag f;omega)]
 exact⟨_,rfl,by rw[hs];exact b6.nil ..,(aH.refl [] _)⟩
 have v:=au f
 refine bj<|sq<|aE 1<|bk<|jf (fun x=>[(0,.slice A xs.length cp),(2,nS),(3,.slice x.2.2.1 x.2.1.length x.2.2.2),(4,vI ((2*x.1:Nat) : Int))]) (fun(x:Nat × List Int × Option Addr × Nat) w'=>aH [] w w'∧lR w.heap.size w' (.slice x.2.2.1 x.2.1.length x.2.2.2) x.2.1∧(2*x.1≤xs.length)∧(x.2.1++dB (xs.drop (2*x.1))=dB xs)∧(x.2.1.length=x.1)) (fun x=>xs.length-2*x.1) (0,[],none,0) ⟨aH.refl _ _,(b6.nil w.heap.size _ _ uU _),(by(try dsimp only);omega),rfl,rfl⟩ ?_
 rintro⟨k,L,B,cq⟩ y ⟨g,z,C,D,E⟩
 refine je [(0,.slice A xs.length cp),(2,nS),(3,.slice B L.length cq),(4,vI ((2*k:Nat) : Int))] ?_
 have i:lR w.heap.size y (.slice B L.length cq) L:=z
 have T:2*k≤xs.length:=C
 have U:L++dB (xs.drop (2*k))=dB xs:=D
 have V:L.length=k:=E
 have hL:L++dB (xs.drop (2*k))=dB xs:=by assumption
 refine sq<|al 1<|bq (((2*k:Nat) : Int)+1)<|ai 3<|cb ((decide ((((2*k:Nat) : Int)+1)<(xs.length:Int)))) (fun j=>?_) (fun j=>?_)
 have F:=of_decide_eq_true j
 refine bj<|sq<|bk<|?_
 have o:=aZ.old h g
 refine ft (aZ.at_ o (2*k) (by omega)) fun G H p q W=>ft (aZ.at_ o (((((2*k:Nat) : Int)+1)).toNat) (by omega)) fun I J r s X=>Rg 17 (fun w'=>w'.cell? ⟨G,H+2*k,none⟩=some (vB (xs.getD (2*k) 0))∧w'.cell? ⟨I,J+((((2*k:Nat) : Int)+1)).toNat,none⟩=some (vB (xs.getD (((((2*k:Nat) : Int)+1)).toNat) 0))) fun Y d=>bo ⟨(uc d q),(uc d s)⟩ fun c=>Rt 0 c<|Rt 1 c<|Rt 2 c<|lS 3 c xs.length (2*k) ((2*k:Nat) : Int) rfl p (by omega)<|Rl 4 c (fun _ hs=>hs.1)<|Rr 5 c (vW (xs.getD (2*k) 0)) (fun _ _=>bX (vW (IntKind.u16.wrap (xs.getD (2*k) 0))) (by kernel_rfl) (congrArg (Value.int .u16) (ji (by omega))))<|Rt 6 c<|Rt 7 c<|Rt 8 c<|Rr 9 c (vI (((2*k:Nat) : Int)+1)) (fun _ _=>bX (vI (IntKind.i64.wrap (((2*k:Nat) : Int)+1))) (by kernel_rfl) (congrArg (Value.int .i64) (IntWalk.i64_in _ (by omega))))<|lS 10 c xs.length (((((2*k:Nat) : Int)+1)).toNat) (((2*k:Nat) : Int)+1) (by omega) r (by omega)<|Rl 11 c (fun _ hs=>hs.2)<|Rr 12 c (vW (xs.getD (((((2*k:Nat) : Int)+1)).toNat) 0)) (fun _ _=>bX (vW (IntKind.u16.wrap (xs.getD (((((2*k:Nat) : Int)+1)).toNat) 0))) (by kernel_rfl) (congrArg (Value.int .u16) (ji (by omega))))<|Rt 13 c<|R0 14 rfl<|cY (m:=1) (e:=37) #[vW ((((256*(xs.getD (2*k) 0))%65536)+(xs.getD (((((2*k:Nat) : Int)+1)).toNat) 0))%65536)] fun Z a0 K M l=>?_
 have N:=eB K (xs:=[((((256*(xs.getD (2*k) 0))%65536)+(xs.getD (((((2*k:Nat) : Int)+1)).toNat) 0))%65536)]) (by as_aux_lemma=>kernel_rfl) (am (by omega) aR) (by(try simp only[List.length_cons,List.length_nil]);omega) M
 have n:=aI d l
 refine bo ⟨(uc n q),(uc n s)⟩ fun a1=>?_
 refine R0 15 rfl<|bQ pX (xs:=L) (ys:=([((((256*(xs.getD (2*k) 0))%65536)+(xs.getD (((((2*k:Nat) : Int)+1)).toNat) 0))%65536)])) (vW 0) 2 (av i n (fun x hx=>aF) (fun _ _ h=>h)) (N).rd (by(try simp only[bT,aC]);omega) (le (le g.size d.size) l.size) fun O P a2 Q R=>?_
 have t:=ut (aI (aI g d) l) R (ap (aT i lr) aA)
 have u:=aZ.old h t
 exact bo ⟨(cB u p (2*k) (by omega)),(cB u r (((((2*k:Nat) : Int)+1)).toNat) (by omega))⟩ fun S=>Rt 16 S<|re<|bn<|tn<|go<|Pl 1<|bq (((2*k:Nat) : Int)+2)<|Pl 1<|nl<|gI ((k+1),(L++[((((256*(xs.getD (2*k) 0))%65536)+(xs.getD (((((2*k:Nat) : Int)+1)).toNat) 0))%65536)]),O,P) ⟨t,Q,(by(try dsimp only);omega),(by(try dsimp only);rw[← hL,wh (k:=k) (a:=2*k) (b:=(((2*k:Nat) : Int)+1).toNat) (by omega) rfl (by omega) hr,List.append_assoc]),(by(try dsimp only);simp only[bT];omega)⟩ (by omega)
 have F:=of_decide_eq_false j
 refine xt<|tx<|tx<|bx<|tn<|aE 2<|rt<|rr (.slice B L.length cq)<|?_
 have hs:L=cz xs:=vv hL (by omega) (by omega)
 exact⟨_,rfl,by rw[← hs];exact i,g⟩
theorem Bk{m:Md}{v:Value}{xs:List Int}{w:World}(h:aZ m w v xs)(hn:xs.length≤1048576) : Calls Tryz.prog 224 #[v] w (yo xs w):=by
  obtain⟨A,cp,rfl,_,_⟩:=h.shape
  exact Cj h hn
theorem tQ{a n:Int}{w:World}(ha:0≤a∧a<65536)(hn : -1048576≤n∧n≤1048576) : Calls Tryz.prog 222 #[vW a,vI n] w (cl (.bool (dY a n)) w):=by
 refine en 16 Tryz.func222 rfl<|aE 1<|sq<|al 3<|cu 3 [7] 10 (((decide (n<1))||(decide (65536<n)))) (fun K d=>?_) ?_
 refine bl 7 ((decide (n<1))) (fun b=>?_) (fun b=>?_)
 have e:=of_decide_eq_true b
 exact Pl 3<|ce d true (by rw[b];rfl)
 have e:=of_decide_eq_false b
 exact Pl 3<|ce d (decide (65536<n)) (by rw[b];rfl)
 refine nt<|cb (((decide (n<1))||(decide (65536<n)))) (fun c=>?_) (fun c=>?_)
 refine aE 1<|aX<|rr (.bool false)<|?_
 have hq:=c
 have hs:dY a n=false:=by unfold dY;simp only[Bool.or_eq_true,decide_eq_true_eq] at hq;simp only[Bool.and_eq_false_iff,decide_eq_false_iff_not];omega
 rw[hs]
 exact⟨rfl,(aH.refl [] _)⟩
 have f:=(bK c).1
 have g:=(bK c).2
 have h:=of_decide_eq_false f
 have i:=of_decide_eq_false g
 refine bj<|al 1<|bq a<|Pl 1<|bq (a+n)<|ai 2<|rt<|rr (.bool (decide ((a+n)≤65536)))<|?_
 have hs:dY a n=(decide ((a+n)≤65536)):=by unfold dY;rw[Bool.eq_iff_iff];simp only[Bool.and_eq_true,decide_eq_true_eq];omega
 rw[hs]
 exact⟨rfl,(aH.refl [] _)⟩
open Go.RowKit
def Ea (A:Option Addr)(cp:Nat)(full:List Int)(k:Nat)(C:ah) : Array Value:=#[.slice A full.length cp,.int .i64 ((k:Nat) : Int),.bool C.sh,.int .i64 C.e]
structure RC (w0:World) (m:Md) (A:Option Addr) (cp:Nat) (full:List Int) (w:World) (g:Nat) (C:ah) : Prop where
  src:aZ m w0 (.slice A full.length cp) full
  u:aH [] w0 w
  new:w0.heap.size≤g
  cell:∃ k:Nat,w.heap[g]? = some (.cells (Ea A cp full k C) 194 (0,0))∧k≤full.length∧C.l=full.drop k
  len:full.length≤1048576
theorem RC.upd{w0:World}{m:Md}{A:Option Addr}{cp:Nat}{full:List Int}{w w':World}{g:Nat}{C:ah}{S:List Nat}(h:RC w0 m A cp full w g C)(hu:aH S w w')(hg:g∉S)(U:aH [] w0 w') : RC w0 m A cp full w' g C:=by
  obtain⟨h1,h2,h3,⟨k,h4,h5,h6⟩,h7⟩:=h
  exact⟨h1,U,h3,⟨k,hu.blk hg h4,h5,h6⟩,h7⟩
theorem RC.rd{w0:World}{m:Md}{A:Option Addr}{cp:Nat}{full:List Int}{w:World}{g:Nat}{C:ah}(h:RC w0 m A cp full w g C) : aZ m w (.slice A full.length cp) full:=aZ.old h.src h.u
theorem RC.rng{w0:World}{m:Md}{A:Option Addr}{cp:Nat}{full:List Int}{w:World}{g:Nat}{C:ah}(h:RC w0 m A cp full w g C) : ∀ x,x∈C.l→0≤x∧x<256:=fun x hx=>by
  obtain⟨k,_,_,h2⟩:=h.cell
  rw[h2] at hx
  exact aZ.range h.src x (List.mem_of_mem_drop hx)
theorem Au(C:ah){ok:Bool}{x:Int}(h:(ok || (C.e != 0))=true) : C.need ok x=C:=by
  unfold ah.need
  rw[if_neg]
  rintro⟨h1,rfl⟩
  rw[h1] at h
  cases h
theorem Ai(C:ah){ok:Bool}{x:Int}(h:(ok || (C.e != 0))=false) : C.need ok x = { C with e:=x }:=by
  simp only[Bool.or_eq_false_iff,bne_eq_false_iff_eq] at h
  unfold ah.need
  rw[if_pos ⟨h.2,h.1⟩]
def Bl (w0:World)(m:Md)(A:Option Addr)(cp:Nat)(full:List Int)(g:Nat)(C:ah)(w:World)(e:Ending)(w':World) : Prop:=e = .returned (.tuple #[])∧RC w0 m A cp full w' g C∧aH [g] w w'
theorem bf{w0:World}{m:Md}{A:Option Addr}{cp:Nat}{full:List Int}{w:World}{g:Nat}{C:ah}(ok:Bool)(x:Int)(hC:RC w0 m A cp full w g C) :
    Calls Tryz.prog 168 #[vP g 0,.bool ok,vI x] w (Bl w0 m A cp full g (C.need ok x) w):=by
 obtain⟨hsrc,hU,hnew,⟨k,hB,hk,hl⟩,hlen⟩:=hC
 refine en 18 Tryz.func168 rfl<|sq<|al 2<|cu 6 [7] 13 ((ok || (C.e != 0))) (fun K c=>?_) ?_
 refine bl 7 (ok) (fun b=>?_) (fun b=>?_)
 exact Pl 6<|ce c true (by rw[b];rfl)
 exact Pl 3<|L1<|dD hB 3<|Pl 2<|ce c (C.e != 0) (by rw[b];rfl)
 refine nt<|cb ((ok || (C.e != 0))) (fun a=>?_) (fun a=>?_)
 refine aX<|rr (.tuple #[])<|?_
 rw[Au C a]
 exact⟨rfl,⟨hsrc,hU.trans' (aH.mono (S':=[g]) (aH.refl [] _) aA) (fun x hx=>.inr (by simp at hx;subst hx;exact hnew)),hnew,⟨k,hB,hk,hl⟩,hlen⟩,(aH.mono (S':=[g]) (aH.refl [] _) aA)⟩
 have i:=(bK a).1
 have f:=(bK a).2
 have j:=az f
 refine bj<|go<|Pl 4<|L0<|ci hB 3 #[.slice A full.length cp,vI (k:Int),.bool C.sh,vI x] fun l h d=>nl<|rm (.tuple #[])<|?_
 rw[Ai C a]
 exact⟨rfl,⟨hsrc,hU.trans' d (fun x hx=>.inr (by simp at hx;subst hx;exact hnew)),hnew,⟨k,h,hk,hl⟩,hlen⟩,d⟩
theorem kj{C:ah}{full:List Int}{k:Nat}{n:Int}(hk:k≤full.length)(hl:C.l=full.drop k) : C.fails n=((C.sh || decide (n<0))||decide ((((full.length:Nat) : Int)-((k:Nat) : Int))<n)):=by
  unfold ah.fails
  rw[hl,List.length_drop,show((full.length-k:Nat) : Int)=((full.length:Nat) : Int)-((k:Nat) : Int) by omega]
def Ah (w0:World)(m:Md)(A:Option Addr)(cp:Nat)(full:List Int)(g:Nat)(C:ah)(n:Int)(w:World)(e:Ending)(w':World) : Prop:=∃ A2 n2 c2,e = .returned (.slice A2 n2 c2)∧(∀ m' w'',aZ m' w'' (.slice A full.length cp) full→aZ m' w'' (.slice A2 n2 c2) (C.bytesR n))∧RC w0 m A cp full w' g (C.bytesC n)∧aH [g] w w'
theorem zx{l full:List Int}{k a b:Nat}(hl:l=full.drop k)(h:b=k+a) : l.drop a=full.drop b:=by
  rw[hl,List.drop_drop,h]
theorem sD{C:ah}{full:List Int}{k:Nat}{n:Int}(hk:k≤full.length)(hl:C.l=full.drop k)(hf:C.fails n=false)(a b:Nat)(ha:(a:Int)=k)(hb:(b:Int)=(k:Int)+n) : (full.take b).drop a=C.bytesR n:=by
  obtain rfl:a=k:=by omega
  unfold ah.bytesR
  rw[hf,hl,List.drop_take]
  show _=(full.drop a).take n.toNat
  rw[show b-a=n.toNat by omega]
theorem td{w0:World}{m:Md}{A:Option Addr}{cp:Nat}{full:List Int}{w:World}{g:Nat}{C:ah}{n:Int}(hn : -1048576≤n∧n≤2097152)(hC:RC w0 m A cp full w g C) :
    Calls Tryz.prog 169 #[vP g 0,vI n] w (Ah w0 m A cp full g C n w):=by
 obtain⟨hsrc,hU,hnew,⟨k,hB,hk,hl⟩,hlen⟩:=hC
 have hcp:full.length≤cp:=by obtain⟨_,_,hv,h1,_⟩:=aS.shape hsrc;injection hv with _ _ h3;omega
 refine en 64 Tryz.func169 rfl<|aE 1<|sq<|sq<|Rg 22 (fun w'=>w'.cell? ⟨g,2,none⟩=some (.bool C.sh)∧w'.cell? ⟨g,0,none⟩=some (.slice A full.length cp)∧w'.cell? ⟨g,1,none⟩=some (vI (k:Int))) fun a4 i=>?_
 have d:=ub i hB
 refine bo ⟨(ae d rfl),(ae d rfl),(ae d rfl)⟩ fun a=>Rt 0 a<|Rt 1 a<|Rt 2 a<|Rl 3 a (fun _ hs=>hs.1)<|Rt 4 a<|uu 9 (C.sh) (fun j=>?_) (fun j=>?_)
 refine Ro 5 a<|Ro 6 a<|Rt 7 a<|Rt 8 a<|Ro 9 a<|Ro 10 a<|Ro 11 a<|Ro 12 a<|Ro 13 a<|Ro 14 a<|Ro 15 a<|Ro 16 a<|Ro 17 a<|Ro 18 a<|Ro 19 a<|Ro 20 a<|Rt 21 a<|re<|tn<|c1<|al 3<|L0<|ci d 2 #[.slice A full.length cp,vI (k:Int),.bool true,vI C.e] fun a5 q D=>aM 4<|aD q 0<|Pl 3<|L0<|ci q 1 #[.slice A full.length cp,vI (full.length:Int),.bool true,vI C.e] fun E F G=>aM 1<|?_
 have r:=u1 (u1 (aH.mono (S':=[g]) i aA) D im) G im
 have H:RC w0 m A cp full E g { C with l:=[],sh:=true }:=⟨hsrc,hU.trans' r (fun x hx=>.inr (by simp at hx;subst hx;exact hnew)),hnew,⟨full.length,F,Nat.le_refl _,List.drop_length.symm⟩,hlen⟩
 refine ay<|m2 (bf false 2 H) fun a6 I J=>cE 1<|aX<|rr nS<|?_
 have hf:C.fails n=true:=by rw[kj (n:=n) hk hl,j];rfl
 have e1:C.bytesR n=[]:=by unfold ah.bytesR;rw[hf];rfl
 have e2:C.bytesC n=ah.need { C with l:=[],sh:=true } false 2:=by unfold ah.bytesC;rw[hf];rfl
 exact⟨none,0,0,rfl,fun _ _ _=>by rw[e1];exact aS.nil ..,by rw[e2];exact I,(u1 r J im)⟩
 refine Rt 5 a<|Rt 6 a<|Rt 7 a<|Rt 8 a<|uu 13 ((decide (n<0))) (fun f=>?_) (fun f=>?_)
 have K:=of_decide_eq_true f
 refine Ro 9 a<|Ro 10 a<|Ro 11 a<|Ro 12 a<|Ro 13 a<|Ro 14 a<|Ro 15 a<|Ro 16 a<|Ro 17 a<|Ro 18 a<|Ro 19 a<|Ro 20 a<|Rt 21 a<|re<|tn<|c1<|al 3<|L0<|ci d 2 #[.slice A full.length cp,vI (k:Int),.bool true,vI C.e] fun a7 s L=>aM 4<|aD s 0<|Pl 3<|L0<|ci s 1 #[.slice A full.length cp,vI (full.length:Int),.bool true,vI C.e] fun M N O=>?_
 refine aM 1<|?_
 have t:=u1 (u1 (aH.mono (S':=[g]) i aA) L im) O im
 have Q:RC w0 m A cp full M g { C with l:=[],sh:=true }:=⟨hsrc,hU.trans' t (fun x hx=>.inr (by simp at hx;subst hx;exact hnew)),hnew,⟨full.length,N,Nat.le_refl _,List.drop_length.symm⟩,hlen⟩
 refine ay<|m2 (bf false 2 Q) fun a8 R S=>cE 1<|aX<|rr nS<|?_
 have hf:C.fails n=true:=by rw[kj (n:=n) hk hl,j,f];rfl
 have e1:C.bytesR n=[]:=by unfold ah.bytesR;rw[hf];rfl
 have e2:C.bytesC n=ah.need { C with l:=[],sh:=true } false 2:=by unfold ah.bytesC;rw[hf];rfl
 exact⟨none,0,0,rfl,fun _ _ _=>by rw[e1];exact aS.nil ..,by rw[e2];exact R,(u1 t S im)⟩
 have K:=of_decide_eq_false f
 refine Rt 9 a<|Rt 10 a<|Rt 11 a<|Rt 12 a<|Rl 13 a (fun _ hs=>hs.2.1)<|Rt 14 a<|Rt 15 a<|Rt 16 a<|Rt 17 a<|Rl 18 a (fun _ hs=>hs.2.2)<|Rr 19 a (vI ((full.length:Int)-(k:Int))) (fun _ _=>bX (vI (IntKind.i64.wrap ((full.length:Int)-(k:Int)))) (by kernel_rfl) (congrArg (Value.int .i64) (IntWalk.i64_in _ (by omega))))<|Rt 20 a<|Rt 21 a<|re<|tn<|cb ((decide (((full.length:Int)-(k:Int))<n))) (fun o=>?_) (fun o=>?_)
 have T:=of_decide_eq_true o
 refine al 3<|L0<|ci d 2 #[.slice A full.length cp,vI (k:Int),.bool true,vI C.e] fun a9 u U=>aM 4<|aD u 0<|Pl 3<|L0<|ci u 1 #[.slice A full.length cp,vI (full.length:Int),.bool true,vI C.e] fun V W X=>nt<|al 1<|?_
 have v:=u1 (u1 (aH.mono (S':=[g]) i aA) U im) X im
 have Y:RC w0 m A cp full V g { C with l:=[],sh:=true }:=⟨hsrc,hU.trans' v (fun x hx=>.inr (by simp at hx;subst hx;exact hnew)),hnew,⟨full.length,W,Nat.le_refl _,List.drop_length.symm⟩,hlen⟩
 refine ay<|m2 (bf false 2 Y) fun aa Z a0=>cE 1<|aX<|rr nS<|?_
 have hf:C.fails n=true:=by rw[kj (n:=n) hk hl,j,f,o];rfl
 have e1:C.bytesR n=[]:=by unfold ah.bytesR;rw[hf];rfl
 have e2:C.bytesC n=ah.need { C with l:=[],sh:=true } false 2:=by unfold ah.bytesC;rw[hf];rfl
 exact⟨none,0,0,rfl,fun _ _ _=>by rw[e1];exact aS.nil ..,by rw[e2];exact Z,(u1 v a0 im)⟩
 have T:=of_decide_eq_false o
 refine bj<|al 4<|aD d 1<|Pl 1<|bq ((k:Int)+n)<|Pl 2<|L0<|ci d 1 #[.slice A full.length cp,vI ((k:Int)+n),.bool C.sh,vI C.e] fun ab a1 a2=>nt<|sq<|Rg 16 (fun w'=>w'.cell? ⟨g,0,none⟩=some (.slice A full.length cp)∧w'.cell? ⟨g,1,none⟩=some (vI ((k:Int)+n))) fun ac y=>?_
 have p:=ub y a1
 refine bo ⟨(ae p rfl),(ae p rfl)⟩ fun b=>Rt 0 b<|Rt 1 b<|Rt 2 b<|Rl 3 b (fun _ hs=>hs.1)<|Rt 4 b<|Rt 5 b<|Rt 6 b<|Rl 7 b (fun _ hs=>hs.2)<|Rt 8 b<|Rr 9 b (vI (((k:Int)+n)-n)) (fun _ _=>bX (vI (IntKind.i64.wrap (((k:Int)+n)-n))) (by kernel_rfl) (congrArg (Value.int .i64) (IntWalk.i64_in _ (by omega))))<|Rt 10 b<|Rt 11 b<|Rt 12 b<|Rl 13 b (fun _ hs=>hs.2)<|ny (gW (P:=Tryz.prog) 27 5 1 Tryz.underlying27 rfl rfl A full.length cp (lo:=(((k:Int)+n)-n)) (up:=((k:Int)+n)) (((((k:Int)+n)-n)).toNat) ((((k:Int)+n)).toNat) (by omega) (by omega) (by omega) (by omega) (by omega)) fun z hrun69 a3=>Rr 14 b (.slice z (((((k:Int)+n)).toNat)-(((((k:Int)+n)-n)).toNat)) (cp-(((((k:Int)+n)-n)).toNat))) (fun _ _=>fa (kl:=.i64) (kh:=.i64) (lo:=(((k:Int)+n)-n)) (hi:=((k:Int)+n)) (A:=A) (n:=full.length) (c:=cp) rfl Tryz.underlying27 (by kernel_rfl) (by kernel_rfl) (by kernel_rfl) (hrun69 _ _ _))<|Rt 15 b<|re<|tn<|rt<|rr (.slice z (((((k:Int)+n)).toNat)-(((((k:Int)+n)-n)).toNat)) (cp-(((((k:Int)+n)-n)).toNat)))<|?_
 have hf:C.fails n=false:=by rw[kj (n:=n) hk hl,j,f,o];rfl
 have B:=aI (u1 (aH.mono (S':=[g]) i aA) a2 im) y
 have e2:C.bytesC n = { C with l:=C.l.drop n.toNat }:=by unfold ah.bytesC;rw[hf];rfl
 exact⟨_,_,_,rfl,fun m' w'' h=>by have:=a3 m' _ _ w'' full h;rw[sD hk hl hf _ _ (by omega) (by omega)] at this;exact this,by rw[e2];exact⟨hsrc,hU.trans' B (fun x hx=>.inr (by simp at hx;subst hx;exact hnew)),hnew,⟨((k:Int)+n).toNat,(by unfold Ea;rw[show(((((k:Int)+n).toNat:Nat) : Int))=(k:Int)+n by omega];exact p),by omega,zx hl (by omega)⟩,hlen⟩,B⟩
def AL (w0:World)(m:Md)(A:Option Addr)(cp:Nat)(full:List Int)(g:Nat)(C:ah)(n:Int)(w:World)(e:Ending)(w':World) : Prop:=∃ A2 c2,e = .returned (.slice A2 (C.bytesR n).length c2)∧(∀ m' w'',aZ m' w'' (.slice A full.length cp) full→aZ m' w'' (.slice A2 (C.bytesR n).length c2) (C.bytesR n))∧RC w0 m A cp full w' g (C.bytesC n)∧aH [g] w w'
theorem gB{w0:World}{m:Md}{A:Option Addr}{cp:Nat}{full:List Int}{w:World}{g:Nat}{C:ah}{n:Int}(hn : -1048576≤n∧n≤2097152)(hC:RC w0 m A cp full w g C) : Calls Tryz.prog 169 #[.pointer (some ⟨g,0,none⟩),.int .i64 n] w (AL w0 m A cp full g C n w):=by
  refine(td hn hC).mono ?_
  rintro e w' ⟨A2,n2,c2,rfl,h1,h2,h3⟩
  obtain⟨_,_,hv,_⟩:=aS.shape (h1 m w0 hC.src)
  injection hv with _ e2 _
  subst e2
  exact⟨A2,c2,rfl,h1,h2,h3⟩
theorem zJ{full:List Int}{k:Nat}{C:ah}(hk:k≤full.length)(hl:C.l=full.drop k) : ((full.length:Nat) : Int)-((k:Nat) : Int)=((C.l.length:Nat) : Int):=by
  rw[hl,List.length_drop]
  omega
theorem jM{w0:World}{m:Md}{A:Option Addr}{cp:Nat}{full:List Int}{w:World}{g:Nat}{C:ah}(hC:RC w0 m A cp full w g C) :
    Calls Tryz.prog 177 #[vP g 0] w (cl (vI (C.l.length:Int)) w):=by
 obtain⟨hsrc,hU,hnew,⟨k,hB,hk,hl⟩,hlen⟩:=hC
 have hcp:full.length≤1048576:=hlen
 refine en 13 Tryz.func177 rfl<|aE 1<|sq<|Rg 11 (fun w'=>w'.cell? ⟨g,0,none⟩=some (.slice A full.length cp)∧w'.cell? ⟨g,1,none⟩=some (vI (k:Int))) fun d b=>?_
 have c:=ub b hB
 refine bo ⟨(ae c rfl),(ae c rfl)⟩ fun a=>Rt 0 a<|Rt 1 a<|Rt 2 a<|Rl 3 a (fun _ hs=>hs.1)<|Rt 4 a<|Rt 5 a<|Rt 6 a<|Rt 7 a<|Rl 8 a (fun _ hs=>hs.2)<|Rr 9 a (vI ((full.length:Int)-(k:Int))) (fun _ _=>bX (vI (IntKind.i64.wrap ((full.length:Int)-(k:Int)))) (by kernel_rfl) (congrArg (Value.int .i64) (IntWalk.i64_in _ (by omega))))<|Rt 10 a<|re<|tn<|rt<|rr (vI ((full.length:Int)-(k:Int)))<|?_
 rw[zJ hk hl]
 exact⟨rfl,b⟩
theorem eV{w0:World}{m:Md}{A:Option Addr}{cp:Nat}{full:List Int}{w:World}{g:Nat}{C:ah}(hC:RC w0 m A cp full w g C) :
    Calls Tryz.prog 173 #[vP g 0] w (Bl w0 m A cp full g C.endC w):=by
 refine en 7 Tryz.func173 rfl<|go<|Pl 2<|ay<|m1 (jM hC) fun e a=>?_
 have b:=RC.upd hC a aF (aH.step (RC.u hC) a)
 refine Pl 1<|ay<|m2 (bf (((C.l.length:Int)==0)) 3 b) fun f c d=>nl<|rm (.tuple #[])<|?_
 exact⟨rfl,c,(u1 (aH.mono (S':=[g]) a aA) d im)⟩
theorem RC.clen{w0:World}{m:Md}{A:Option Addr}{cp:Nat}{full:List Int}{w:World}{g:Nat}{C:ah}(h:RC w0 m A cp full w g C) : C.l.length≤1048576:=by
  obtain⟨k,_,_,h2⟩:=h.cell
  have:=h.len
  rw[h2,List.length_drop]
  omega
theorem uI{C:ah}(h:((((C.bytesR 1).length:Nat) : Int)==0)=true) : C.byteV=0:=by
  have hz:C.bytesR 1=[]:=List.eq_nil_of_length_eq_zero (by have:=ag h;omega)
  unfold ah.byteV
  rw[hz]
  rfl
def sN (w0:World)(m:Md)(A:Option Addr)(cp:Nat)(full:List Int)(g:Nat)(q:IntKind)(M x:Int)(C:ah)(w:World)(e:Ending)(w':World) : Prop:=e = .returned (.int q x)∧RC w0 m A cp full w' g C∧aH [g] w w'∧0≤x∧x<M
theorem eF{w0:World}{m:Md}{A:Option Addr}{cp:Nat}{full:List Int}{w:World}{g:Nat}{C:ah}(hC:RC w0 m A cp full w g C) :
    Calls Tryz.prog 167 #[vP g 0] w (sN w0 m A cp full g .u8 256 C.byteV (C.bytesC 1) w):=by
 refine en 12 Tryz.func167 rfl<|al 1<|aM 1<|ay<|s7 (gB (n:=1) (by omega) hC) fun k l o d b c=>?_
 have q:=Nat.le_trans (ah.bytesR_le C 1) (RC.clen hC)
 refine ai 1<|sq<|aE 3<|cb ((((C.bytesR 1).length:Int)==0)) (fun a=>?_) (fun a=>?_)
 have e:=ag a
 exact aE 1<|aX<|rr (vB 0)<|⟨by rw[uI a],b,c,og (RC.rng hC)⟩
 have e:=au a
 exact bj<|al 1<|ft (aZ.at_ (d _ _ (RC.rd b)) 0 (by omega)) fun f h i j r=>L0<|kY ((C.bytesR 1).length) 0 i (by omega)<|L0<|eu (p:=⟨f,h+0,none⟩) (v:=vB ((C.bytesR 1).getD 0 0)) j<|ai 1<|rt<|rr (vB ((C.bytesR 1).getD 0 0))<|⟨rfl,b,c,og (RC.rng hC)⟩
theorem vg{C:ah}{full:List Int}{k:Nat}{n:Int}(hk:k≤full.length)(hl:C.l=full.drop k)(h:(decide (n<0)||decide (((full.length:Nat) : Int)<n))=true) : C.wordsR n=cz (C.bytesR (-1))∧C.wordsC n=C.bytesC (-1):=by
  have hb:C.wbad n=true:=by
    unfold ah.wbad
    simp only[Bool.or_eq_true,decide_eq_true_eq] at h ⊢
    rw[hl,List.length_drop]
    omega
  have hf:C.fails (-1)=true:=by
    unfold ah.fails
    simp
  constructor
  · unfold ah.wordsR ah.bytesR
    rw[hb,hf]
    rfl
  · unfold ah.wordsC
    rw[hb]
    rfl
theorem yy{C:ah}{full:List Int}{k:Nat}{n:Int}(hk:k≤full.length)(hl:C.l=full.drop k)(h:(decide (n<0)||decide (((full.length:Nat) : Int)<n))=false) : C.wordsR n=cz (C.bytesR (n+n))∧C.wordsC n=C.bytesC (n+n):=by
  simp only[Bool.or_eq_false_iff,decide_eq_false_iff_not] at h
  by_cases hw:((C.l.length:Int)<n)
  · have hb:C.wbad n=true:=by
      unfold ah.wbad
      simp only[Bool.or_eq_true,decide_eq_true_eq]
      omega
    have hf:C.fails (-1)=true:=by
      unfold ah.fails
      simp
    have hf2:C.fails (n+n)=true:=by
      unfold ah.fails
      simp only[Bool.or_eq_true,decide_eq_true_eq]
      omega
    constructor
    · unfold ah.wordsR ah.bytesR
      rw[hb,hf2]
      rfl
    · unfold ah.wordsC
      rw[hb]
      unfold ah.bytesC
      rw[hf2,hf]
      rfl
  · have hb:C.wbad n=false:=by
      unfold ah.wbad
      simp only[Bool.or_eq_false_iff,decide_eq_false_iff_not]
      omega
    constructor
    · unfold ah.wordsR
      rw[hb,show 2*n=n+n by omega]
      rfl
    · unfold ah.wordsC
      rw[hb,show 2*n=n+n by omega]
      rfl
def AQ (w0:World)(m:Md)(A:Option Addr)(cp:Nat)(full:List Int)(g:Nat)(C:ah)(n:Int)(w:World)(e:Ending)(w':World) : Prop:=∃ v,e = .returned v∧lR w.heap.size w' v (C.wordsR n)∧RC w0 m A cp full w' g (C.wordsC n)∧aH [g] w w'
theorem gY{w0:World}{m:Md}{A:Option Addr}{cp:Nat}{full:List Int}{w:World}{g:Nat}{C:ah}{n:Int}(hn : -1048576≤n∧n≤1048576)(hC:RC w0 m A cp full w g C) :
    Calls Tryz.prog 174 #[vP g 0,vI n] w (AQ w0 m A cp full g C n w):=by
 have hC0:=hC
 obtain⟨hsrc,hU,hnew,⟨k,hB,hk,hl⟩,hlen⟩:=hC0
 refine en 25 Tryz.func174 rfl<|aE 1<|sq<|al 3<|cu 8 [7] 15 (((decide (n<0))||(decide ((full.length:Int)<n)))) (fun K h=>?_) ?_
 refine bl 7 ((decide (n<0))) (fun a=>?_) (fun a=>?_)
 have l:=of_decide_eq_true a
 exact Pl 8<|ce h true (by rw[a];rfl)
 have l:=of_decide_eq_false a
 exact Pl 4<|L1<|dD hB 0<|Pl 3<|ce h (decide ((full.length:Int)<n)) (by rw[a];rfl)
 refine nt<|cb (((decide (n<0))||(decide ((full.length:Int)<n)))) (fun b=>?_) (fun b=>?_)
 refine al 1<|?_
 have o:=RC.upd hC (aH.refl [] _) aF (aH.step hC.u (aH.refl [] _))
 refine ay<|s7 (gB (n:=-1) (by omega) o) fun E F G p c i=>?_
 have H:=Nat.le_trans (ah.bytesR_le C (-1)) (RC.clen hC)
 refine ay<|dV (Bk (p _ _ (RC.rd c)) (by omega)) fun q r I s J L d=>ai 1<|aX<|rr (.slice q ((cz (C.bytesR (-1))).length) r)<|?_
 have hw:=vg hk hl b
 exact⟨_,rfl,by rw[hw.1];exact(b6.weaken s i.size),by rw[hw.2];exact(RC.upd c d aF (aH.step (RC.u c) d)),(aI i d)⟩
 have t:=(bK b).1
 have v:=(bK b).2
 have M:=of_decide_eq_false t
 have N:=of_decide_eq_false v
 refine bj<|al 3<|bq (n+n)<|?_
 have x:=RC.upd hC (aH.refl [] _) aF (aH.step hC.u (aH.refl [] _))
 refine ay<|s7 (gB (n:=(n+n)) (by omega) x) fun O P Q y e j=>?_
 have R:=Nat.le_trans (ah.bytesR_le C (n+n)) (RC.clen hC)
 refine ay<|dV (Bk (y _ _ (RC.rd e)) (by omega)) fun z B S D T U f=>ai 1<|rt<|rr (.slice z ((cz (C.bytesR (n+n))).length) B)<|?_
 have hw:=yy hk hl b
 exact⟨_,rfl,by rw[hw.1];exact(b6.weaken D j.size),by rw[hw.2];exact(RC.upd e f aF (aH.step (RC.u e) f)),(aI j f)⟩
theorem vL{C:ah}(h:((((C.wordsR 1).length:Nat) : Int)==0)=true) : C.wordV=0:=by
  have hz:C.wordsR 1=[]:=List.eq_nil_of_length_eq_zero (by have:=ag h;omega)
  unfold ah.wordV
  rw[hz]
  rfl
theorem d8{w0:World}{m:Md}{A:Option Addr}{cp:Nat}{full:List Int}{w:World}{g:Nat}{C:ah}(hC:RC w0 m A cp full w g C) :
    Calls Tryz.prog 170 #[vP g 0] w (sN w0 m A cp full g .u16 65536 C.wordV (C.wordsC 1) w):=by
 refine en 12 Tryz.func170 rfl<|al 1<|aM 1<|ay<|pu (gY (n:=1) (by omega) hC) fun k l o d q r b c=>ai 1<|sq<|aE 3<|cb ((((C.wordsR 1).length:Int)==0)) (fun a=>?_) (fun a=>?_)
 have e:=ag a
 exact aE 1<|aX<|rr (vW 0)<|⟨by rw[vL a],b,c,bR (RC.rng hC)⟩
 have e:=au a
 exact bj<|al 1<|ft (ey.at_ (d).rd 0 (by omega)) fun f h i j s=>L0<|kY ((C.wordsR 1).length) 0 i (by omega)<|L0<|eu (p:=⟨f,h+0,none⟩) (v:=vW ((C.wordsR 1).getD 0 0)) j<|ai 1<|rt<|rr (vW ((C.wordsR 1).getD 0 0))<|⟨rfl,b,c,bR (RC.rng hC)⟩
theorem gL{w0:World}{m:Md}{A:Option Addr}{cp:Nat}{full:List Int}{w:World}{g:Nat}{C:ah}{G:Prop}(h:RC w0 m A cp full w g C)(k:∀ x,C=x→RC w0 m A cp full w g x→G) : G:=k C rfl h
open Go.RowKit
theorem uD{x:Int}(hx:0≤x∧x<65536) : eU x=((decide (x≤4)||(decide (10≤x)&&decide (x≤18)))||x==20):=by
  unfold eU
  rw[Bool.eq_iff_iff]
  simp only[decide_eq_true_eq,List.mem_cons,List.not_mem_nil,or_false,Bool.or_eq_true,Bool.and_eq_true,beq_iff_eq]
  omega
theorem nD{x:Int}(hx:0≤x∧x<256) : cX x=((((decide (1≤x)&&decide (x≤6))||x==8)||x==10)||x==11):=by
  unfold cX
  rw[Bool.eq_iff_iff]
  simp only[decide_eq_true_eq,List.mem_cons,List.not_mem_nil,or_false,Bool.or_eq_true,Bool.and_eq_true,beq_iff_eq]
  omega
theorem CU{x:Int}{w:World}(hx:0≤x∧x<65536) : Calls Tryz.prog 176 #[vW x] w (cl (.bool (eU x)) w):=by
 refine en 17 Tryz.func176 rfl<|al 1<|aM 3<|cu 7 [5] 12 (((decide (x≤4))||((decide (10≤x))&&(decide (x≤18))))) (fun K d=>?_) ?_
 refine bl 5 ((decide (x≤4))) (fun a=>?_) (fun a=>?_)
 have g:=of_decide_eq_true a
 exact Pl 7<|ce d true (by rw[a];rfl)
 have g:=of_decide_eq_false a
 refine Pl 3<|cu 3 [8] 11 (((decide (10≤x))&&(decide (x≤18)))) (fun K e=>?_) ?_
 refine bl 8 ((decide (10≤x))) (fun b=>?_) (fun b=>?_)
 have h:=of_decide_eq_true b
 exact Pl 3<|ce e (decide (x≤18)) (by rw[b];rfl)
 have h:=of_decide_eq_false b
 exact Pl 3<|ce e false (by rw[b];rfl)
 exact Pl 1<|ce d ((decide (10≤x))&&(decide (x≤18))) (by rw[a];rfl)
 refine Pl 1<|cu 3 [13] 16 ((((decide (x≤4))||((decide (10≤x))&&(decide (x≤18))))||(x==20))) (fun K f=>?_) ?_
 refine bl 13 (((decide (x≤4))||((decide (10≤x))&&(decide (x≤18))))) (fun c=>?_) (fun c=>?_)
 exact Pl 3<|ce f true (by rw[c];rfl)
 exact Pl 3<|ce f (x==20) (by rw[c];rfl)
 refine ai 1<|rt<|rr (.bool (((decide (x≤4))||((decide (10≤x))&&(decide (x≤18))))||(x==20)))<|?_
 rw[uD hx]
 have hs:((decide (x≤4)||(decide (10≤x)&&decide (x≤18)))||x==20)=(((decide (x≤4))||((decide (10≤x))&&(decide (x≤18))))||(x==20)):=by(try simp only[Bool.true_or,Bool.false_or,Bool.true_and,Bool.false_and,Bool.or_true,Bool.or_false]);all_goals rfl
 rw[hs]
 exact⟨rfl,(aH.refl [] _)⟩
theorem wA{x:Int}{w:World}(hx:0≤x∧x<256) : Calls Tryz.prog 165 #[vB x] w (cl (.bool (cX x)) w):=by
 refine en 21 Tryz.func165 rfl<|al 1<|aM 3<|cu 3 [5] 8 (((decide (1≤x))&&(decide (x≤6)))) (fun K e=>?_) ?_
 refine bl 5 ((decide (1≤x))) (fun a=>?_) (fun a=>?_)
 have i:=of_decide_eq_true a
 exact Pl 3<|ce e (decide (x≤6)) (by rw[a];rfl)
 have i:=of_decide_eq_false a
 exact Pl 3<|ce e false (by rw[a];rfl)
 refine Pl 1<|cu 3 [9] 12 ((((decide (1≤x))&&(decide (x≤6)))||(x==8))) (fun K f=>?_) ?_
 refine bl 9 (((decide (1≤x))&&(decide (x≤6)))) (fun b=>?_) (fun b=>?_)
 exact Pl 3<|ce f true (by rw[b];rfl)
 exact Pl 3<|ce f (x==8) (by rw[b];rfl)
 refine Pl 1<|cu 3 [13] 16 (((((decide (1≤x))&&(decide (x≤6)))||(x==8))||(x==10))) (fun K g=>?_) ?_
 refine bl 13 ((((decide (1≤x))&&(decide (x≤6)))||(x==8))) (fun c=>?_) (fun c=>?_)
 exact Pl 3<|ce g true (by rw[c];rfl)
 exact Pl 3<|ce g (x==10) (by rw[c];rfl)
 refine Pl 1<|cu 3 [17] 20 ((((((decide (1≤x))&&(decide (x≤6)))||(x==8))||(x==10))||(x==11))) (fun K h=>?_) ?_
 refine bl 17 (((((decide (1≤x))&&(decide (x≤6)))||(x==8))||(x==10))) (fun d=>?_) (fun d=>?_)
 exact Pl 3<|ce h true (by rw[d];rfl)
 exact Pl 3<|ce h (x==11) (by rw[d];rfl)
 refine ai 1<|rt<|rr (.bool (((((decide (1≤x))&&(decide (x≤6)))||(x==8))||(x==10))||(x==11)))<|?_
 rw[nD hx]
 have hs:((((decide (1≤x)&&decide (x≤6))||x==8)||x==10)||x==11)=(((((decide (1≤x))&&(decide (x≤6)))||(x==8))||(x==10))||(x==11)):=by(try simp only[Bool.true_or,Bool.false_or,Bool.true_and,Bool.false_and,Bool.or_true,Bool.or_false]);all_goals rfl
 rw[hs]
 exact⟨rfl,(aH.refl [] _)⟩
theorem jw{dir sub v:Int}:gX dir sub v=if sub==1 then (v==0 || v==65280) else if sub==3 then v%256==0 else if dir==1&&(sub==2 || (decide (11≤sub)&&decide (sub≤18))) then true else v==0:=by
  unfold gX
  by_cases h1:sub=1
  · subst h1
    rfl
  by_cases h3:sub=3
  · subst h3
    rfl
  have e1:(sub==1)=false:=by simpa using h1
  have e3:(sub==3)=false:=by simpa using h3
  rw[e1,e3,Bool.and_comm]
  rfl
theorem Dc{dir sub v:Int}{w:World}(hv:0≤v∧v<65536) : Calls Tryz.prog 178 #[vI dir,vW sub,vW v] w (cl (.bool (gX dir sub v)) w):=by
 refine en 39 Tryz.func178 rfl<|aE 1<|sq<|bk<|aE 3<|cb ((sub==1)) (fun a=>?_) (fun a=>?_)
 have l:=ag a
 refine al 3<|cu 3 [12] 15 (((v==0)||(v==65280))) (fun K h=>?_) ?_
 refine bl 12 ((v==0)) (fun c=>?_) (fun c=>?_)
 have m:=ag c
 exact Pl 3<|ce h true (by rw[c];rfl)
 have m:=au c
 exact Pl 3<|ce h (v==65280) (by rw[c];rfl)
 refine ai 1<|rt<|br<|tr<|rr (.bool ((v==0)||(v==65280)))<|?_
 have hs:gX dir sub v=((v==0)||(v==65280)):=by
   rw[jw]
   (try simp only[a,bi,reduceIte])
   all_goals rfl
 rw[hs]
 exact⟨rfl,(aH.refl [] _)⟩
 have l:=au a
 refine aE 3<|cb ((sub==3)) (fun b=>?_) (fun b=>?_)
 have n:=ag b
 refine al 1<|L0<|Oe (vW (Int.tmod v 256)) (vW (v%256)) (congrArg (Value.int .u16) (Int.tmod_eq_emod_of_nonneg (by omega)))<|ai 2<|rt<|br<|tr<|rr (.bool ((v%256)==0))<|?_
 have hs:gX dir sub v=((v%256)==0):=by
   rw[jw]
   (try simp only[a,b,bi,reduceIte])
   all_goals rfl
 rw[hs]
 exact⟨rfl,(aH.refl [] _)⟩
 have n:=au b
 refine al 3<|cu 11 [25] 36 (((dir==1)&&((sub==2)||((decide (11≤sub))&&(decide (sub≤18)))))) (fun K i=>?_) ?_
 refine bl 25 ((dir==1)) (fun d=>?_) (fun d=>?_)
 have o:=ag d
 refine Pl 3<|cu 7 [28] 35 (((sub==2)||((decide (11≤sub))&&(decide (sub≤18))))) (fun K j=>?_) ?_
 refine bl 28 ((sub==2)) (fun e=>?_) (fun e=>?_)
 have p:=ag e
 exact Pl 7<|ce j true (by rw[e];rfl)
 have p:=au e
 refine Pl 3<|cu 3 [31] 34 (((decide (11≤sub))&&(decide (sub≤18)))) (fun K k=>?_) ?_
 refine bl 31 ((decide (11≤sub))) (fun f=>?_) (fun f=>?_)
 have q:=of_decide_eq_true f
 exact Pl 3<|ce k (decide (sub≤18)) (by rw[f];rfl)
 have q:=of_decide_eq_false f
 exact Pl 3<|ce k false (by rw[f];rfl)
 exact Pl 1<|ce j ((decide (11≤sub))&&(decide (sub≤18))) (by rw[e];rfl)
 exact Pl 1<|ce i ((sub==2)||((decide (11≤sub))&&(decide (sub≤18)))) (by rw[d];rfl)
 have o:=au d
 exact Pl 11<|ce i false (by rw[d];rfl)
 refine ai 1<|cb (((dir==1)&&((sub==2)||((decide (11≤sub))&&(decide (sub≤18)))))) (fun g=>?_) (fun g=>?_)
 have r:=(bC g).1
 have s:=(bC g).2
 refine aE 1<|rt<|br<|tr<|rr (.bool true)<|?_
 have hs:gX dir sub v=true:=by
   rw[jw]
   (try simp only[a,b,g,r,s,bi,reduceIte])
   all_goals rfl
 rw[hs]
 exact⟨rfl,(aH.refl [] _)⟩
 refine sk<|bn<|tn<|aE 3<|rt<|rr (.bool (v==0))<|?_
 have hs:gX dir sub v=(v==0):=by
   rw[jw]
   (try simp only[a,b,g,bi,reduceIte])
   all_goals rfl
 rw[hs]
 exact⟨rfl,(aH.refl [] _)⟩
end Go.Proofs.YtdkhbcefkfgbdaaGreat
