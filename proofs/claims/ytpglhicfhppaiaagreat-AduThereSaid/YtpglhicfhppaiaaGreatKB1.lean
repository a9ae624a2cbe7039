/- Contracts of functions, part KB1. -/
import Derived.Test.YtpglhicfhppaiaaGreatKA1
import Derived.Test.YtpglhicfhppaiaaGreatKA2
import Derived.Test.YtpglhicfhppaiaaGreatKA3
import Derived.Test.YtpglhicfhppaiaaGreatKA4
import Derived.Test.YtpglhicfhppaiaaGreatKA5
import Derived.Laws.BitsAllLaws
import Derived.Laws.StructEq
import Derived.Lib.ConvBytes
import Derived.Lib.OthersKept
import Derived.Shelf.Strings.Builder1
set_option linter.unusedVariables false
set_option linter.unusedSimpArgs false
namespace Go.Proofs.YtpglhicfhppaiaaGreat
open Go.RowKit
section
variable {P:Program} {n:Nat} {D:List Deferred} {F:Fr} {w:World} {K:Fr→World→Prop} {Q:Exit→Act→World→Prop} {d:Option Tmp} {t:TypeId} {s:String} {af:Array Edge} {gu:Option (Nat × Bool)}
theorem ow_calli {a:Act} {K:Act→World→Prop} {o:Oper} {N:Option Tmp} {f:FuncId} {fn:Func} {x:Operand} {nm:String} {opds:Array Operand} {ts:Array TypeId} {T:TypeId} {v rv:Value} (args:Array Value) (hN:o.dst=N) (hop:o.op = .call { callee:=.invoke x nm,args:=opds,argTypes:=ts })
    (hx : a.eval x = .iface T v) (hm : (method (P.types.size + Made.depth) T v nm).run P w = .ok (f, rv) w) (hf : P.funcs[f]? = some fn) (hname : (fn.name == "runtime.NumGoroutine") = false) (hb : fn.body.isSome = true) (hargs : #[rv] ++ opds.map a.eval = args)
    (h:Calls P f args w fun e w'=>∃ v,e = .returned v∧K (a.put N v) w') : OW P o a w K Q:=by
  refine OW.mk ?_
  subst hN
  subst hargs
  have h1 : fn.name ≠ "runtime.NumGoroutine" := by simpa using hname
  obtain ⟨cd,hcd⟩:=Option.isSome_iff_exists.1 hb
  have hcm:(callMethod (.iface T v) nm (opds.map a.eval)).run P w = .ok (.enter f (#[rv]++opds.map a.eval)) w:=by
    unfold callMethod
    simp only [program,Sem.run_bind]
    have hp:(pure P:Sem Program).run P w = .ok P w:=rfl
    simp [Sem.run,hm,callFunc,hf,h1,hcd,Result.andThen]
  have hinv:invoke (.fn (.method nm) #[]) (#[.iface T v]++opds.map a.eval)=callMethod (.iface T v) nm (opds.map a.eval):=by
    have e0:(#[Value.iface T v]++opds.map a.eval)[0]? = some (.iface T v):=by
      rw [Array.getElem?_append_left (by simp)]
      rfl
    have e1:(#[Value.iface T v]++opds.map a.eval).extract 1 (#[Value.iface T v]++opds.map a.eval).size=opds.map a.eval:=by
      apply Array.toList_inj.1
      simp only [Array.toList_extract,List.extract_eq_take_drop,Array.toList_append,Array.toList_map,Array.size_append,Array.size_map]
      simp [List.take_of_length_le]
    unfold invoke
    simp only [e0,e1]
  have hrun:(execOp a.eval o).run P w = .ok (.enter f (#[rv]++opds.map a.eval)) w:=by
    unfold execOp
    simp only [hop,resolve,hx,Sem.run_bind,Sem.run_pure,Result.andThen_ok,hinv,hcm]
  unfold Oper.wp
  rw [hrun,Oper.upon_enter]
  refine h.mono fun e w'' hh=>?_
  obtain ⟨v,rfl,h2⟩:=hh
  exact h2
theorem Oci {f:FuncId} {x:Operand} {nm:String} {opds:Array Operand} {ts:Array TypeId} {args:Array Value} (T:TypeId) (v rv:Value) (h:Calls P f args w fun e w'=>∃ v,e = .returned v∧K (pt d v F) w')
    (hm:(method (P.types.size + Made.depth) T v nm).run P w = .ok (f,rv) w:=by kernel_rfl) (hx:evo F x=some (.iface T v):=by kernel_rfl) (ha:some rv :: opds.toList.map (evo F)=args.toList.map some:=by kernel_rfl) (hf:fnO P f=some (false,true):=by kernel_rfl) (hs:dok n d=true:=by kernel_rfl) : OG P ⟨d,.call { callee:=.invoke x nm,args:=opds,argTypes:=ts },t,s,af,gu⟩ n D F w K Q:=by
  obtain ⟨fn,h1,h2,h3⟩:=fnO_some hf
  refine ⟨fun a hag K' hK=>ow_calli args rfl rfl (hag.ev hx) hm h1 h2 h3 ?_ (h.mono fun e w' hh=>by
    obtain ⟨v,rfl,hk⟩:=hh
    exact ⟨v,rfl,hK _ _ _ hk (hag.put hs)⟩)⟩
  apply Array.toList_inj.1
  obtain ⟨vs,has⟩ : ∃ vs:List Value,args.toList=rv :: vs∧opds.toList.map (evo F)=vs.map some:=by
    cases hl:args.toList with
    | nil=>rw [hl] at ha; cases ha
    | cons y ys =>
      rw [hl] at ha
      injection ha with e1 e2
      exact ⟨ys,by rw [Option.some.inj e1],e2⟩
  rw [has.1,Array.toList_append,Array.toList_map,ag_args hag has.2]
  rfl
end
open Go.RowKit
structure Frm where
  unit:Int
  tid:Int
  msg:Msg
def Frm.zero:Frm:=⟨0,0,Msg.zero⟩
def FrmRd (m:Bool) (w:World) (cs:Array Value) (F:Frm) : Prop:=∃ c:Array Value,cs = #[.int .u8 F.unit,.int .u16 F.tid]++c∧MsgRd m w c.toList F.msg∧B8 F.unit∧B16 F.tid
def PFrm (res:Frm × Int) (w:World) (e:Ending) (w':World) : Prop:=∃ cs,e = .returned (.tuple #[.agg cs,.int .i64 res.2])∧FrmRd true w' cs res.1∧Upd [] w w'
theorem pf_eq {x y:Frm × Int} (h:x=y) {w:World} {e:Ending} {w':World} (k:PFrm y w e w') : PFrm x w e w':=by rw [h]; exact k
def frmZ:Array Value:=#[.int .u8 0,.int .u16 0,.int .u8 0,.int .u8 0,.int .u16 0,.int .u16 0,.int .u16 0,.int .u16 0,.int .u16 0,.int .u16 0,.int .u16 0,.int .u16 0,.int .u16 0,.int .u16 0,.slice none 0 0,.slice none 0 0,.slice none 0 0,.slice none 0 0,.int .u8 0,.int .u8 0,.int .u8 0,.int .u8 0,.int .u8 0,.slice none 0 0]
theorem bad_frm {x:Int} {w W:World} (hu:Upd [] w W) : PFrm (Frm.zero,x) w (.returned (.tuple #[.agg frmZ,.int .i64 x])) W:=⟨_,rfl,⟨msgZ,(by kernel_rfl),MsgRd.zero ..,(show (0:Int)≤0∧(0:Int) < 256 from by decide),(show (0:Int)≤0∧(0:Int) < 65536 from by decide)⟩,hu⟩
def frmOf (u t:Int) : Msg × Int→Frm × Int
  | (M,E)=>if E != 0 then (Frm.zero,E) else (⟨u,t,M⟩,0)
theorem pduW_len {dir:Int} {M:Msg} {l:List Int} (h:pduW dir M=some l) : l.length≤253:=by
  unfold pduW at h
  split at h
  · split at h
    · cases h
    · unfold refW at h
      split at h
      · cases h
      · split at h
        · cases h
        · injection h with h
          subst h
          simp only [List.length_cons,List.length_nil]
          omega
  · split at h
    · cases h
    · split at h
      · cases h
      · rename_i hl
        injection h with h
        subst h
        simp only [decide_eq_true_eq] at hl
        simp only [List.length_append,List.length_cons,List.length_nil]
        omega
open Go.RowKit
deriving instance DecidableEq for Frm
def fcl (u t:Int) (M:Msg) (x:SL) : Array Value:=#[.int .u8 u,.int .u16 t,.int .u8 M.code,.int .u8 M.fail,.int .u16 M.addr,.int .u16 M.count,.int .u16 M.value,.int .u16 M.and_,.int .u16 M.or_,.int .u16 M.addr2,.int .u16 M.sub,.int .u16 M.status,.int .u16 M.events,.int .u16 M.messages,.slice x.aw M.words.length x.kw,.slice x.ab M.bits.length x.kb,.slice x.ad M.data.length x.kd,.slice x.ar M.recs.length x.kr,.int .u8 M.mei,.int .u8 M.kind,.int .u8 M.level,.int .u8 M.more,.int .u8 M.next,.slice x.ao M.objects.length x.ko]
theorem fcl_eq (u t:Int) (M:Msg) (x:SL) : fcl u t M x = #[.int .u8 u,.int .u16 t]++mcl M x:=by kernel_rfl
end Go.Proofs.YtpglhicfhppaiaaGreat
namespace Go.Proofs.YtpglhicfhppaiaaGreat
def crc1 (x:Nat) : Nat:=(x / 2) ^^^ (x % 2 * 40961)
def crcK:Nat→Nat→Nat
  | 0,x=>x
  | k + 1,x=>crc1 (crcK k x)
def tabN (i:Nat) : Nat:=crcK 8 i
theorem crc1_lt {x:Nat} (h:x < 65536) : crc1 x < 65536:=by
  unfold crc1
  exact Nat.xor_lt_two_pow (n:=16) (by omega) (by omega)
theorem crcK_lt {x:Nat} (h:x < 65536) : ∀ k,crcK k x < 65536
  | 0=>h
  | k + 1=>crc1_lt (crcK_lt h k)
theorem tabN_lt {i:Nat} (h:i < 256) : tabN i < 65536:=crcK_lt (by omega) 8
def stepN (s c:Nat) : Nat:=(s / 256) ^^^ tabN ((s % 256) ^^^ c)
theorem xor_lt8 {a b:Nat} (ha:a < 256) (hb:b < 256) : a ^^^ b < 256:=Nat.xor_lt_two_pow (n:=8) ha hb
theorem xor_lt16 {a b:Nat} (ha:a < 65536) (hb:b < 65536) : a ^^^ b < 65536:=Nat.xor_lt_two_pow (n:=16) ha hb
theorem stepN_lt {s c:Nat} (hs:s < 65536) (hc:c < 256) : stepN s c < 65536:=xor_lt16 (by omega) (tabN_lt (xor_lt8 (by omega) hc))
def xi (a b:Int) : Int:=((a.toNat ^^^ b.toNat:Nat) : Int)
theorem xi8 {a b:Int} (ha:0≤a∧a < 256) (hb:0≤b∧b < 256) : 0≤xi a b∧xi a b < 256:=by
  have:=xor_lt8 (a:=a.toNat) (b:=b.toNat) (by omega) (by omega)
  unfold xi
  omega
theorem crc1_xi (n:Nat) : xi (((n:Nat) : Int) / 2) ((((n:Nat) : Int) % 2) * 40961 % 65536)=((crc1 n:Nat) : Int):=by
  unfold xi crc1
  rw [show (((n:Nat) : Int) / 2).toNat=n / 2 from by omega,show ((((n:Nat) : Int) % 2) * 40961 % 65536).toNat=n % 2 * 40961 from by omega]
def tabI (i:Int) : Int:=((tabN i.toNat:Nat) : Int)
theorem tabI_rng {i:Int} (h:0≤i∧i < 256) : 0≤tabI i∧tabI i < 65536:=by
  have:=tabN_lt (i:=i.toNat) (by omega)
  unfold tabI
  omega
def crcS (s c:Int) : Int:=xi (s / 256) (tabI (xi (s % 256) c))
theorem crcS_nat {s c:Int} (hs:0≤s∧s < 65536) (hc:0≤c∧c < 256) : crcS s c=((stepN s.toNat c.toNat:Nat) : Int):=by
  unfold crcS tabI xi stepN
  rw [show (s / 256).toNat=s.toNat / 256 from by omega,show (s % 256).toNat=s.toNat % 256 from by omega]
  simp only [Int.toNat_natCast]
theorem crcS_rng {s c:Int} (hs:0≤s∧s < 65536) (hc:0≤c∧c < 256) : 0≤crcS s c∧crcS s c < 65536:=by
  have:=stepN_lt (s:=s.toNat) (c:=c.toNat) (by omega) (by omega)
  rw [crcS_nat hs hc]
  omega
def crcT (s:Int) (b:List Int) : Int:=b.foldl crcS s
theorem crcT_rng:∀ (b:List Int) {s:Int},(0≤s∧s < 65536)→(∀ x,x∈b→0≤x∧x < 256)→0≤crcT s b∧crcT s b < 65536
  | [],s,hs,_=>hs
  | c :: b,s,hs,hb=>crcT_rng b (crcS_rng hs (hb c (List.mem_cons_self ..))) fun x hx=>hb x (List.mem_cons_of_mem _ hx)
theorem crcT_app (s:Int) (a b:List Int) : crcT s (a++b)=crcT (crcT s a) b:=by unfold crcT; rw [List.foldl_append]
def crcTwo (s:Int) : List Int:=[s % 256,s / 256 % 256]
theorem crcTwo_length (s:Int) : (crcTwo s).length=2:=rfl
def crcIs (b:List Int) : Bool:=decide (2≤b.length) && decide (crcTwo (crcT 65535 (b.take (b.length - 2)))=b.drop (b.length - 2))
open Go.RowKit
def arE (P:Program) (ty:TypeId) : Option (Nat × TypeId):=match P.underlying ty with | some (.array m e)=>some (m,e) | _=>none
theorem arE_some {P:Program} {ty e:TypeId} {m:Nat} (h:arE P ty=some (m,e)) : P.underlying ty=some (.array m e):=by
  unfold arE at h
  split at h
  · injection h with h
    injection h with h1 h2
    subst h1 h2
    assumption
  · cases h
theorem run_ixarr {P:Program} {w:World} {ev:Operand→Value} {o:Oper} {t e:TypeId} {x ix:Operand} {b off j m:Nat} {k:IntKind} {i:Int} (ho:o.op = .indexAddr t x ix) (ht:P.underlying t=some (.array m e)) (hi:(P.info? e).map (·.size)=some 1)
    (hx:ev x = .pointer (some ⟨b,off,none⟩)) (hix:ev ix = .int k i) (hj:i=j) (hlt:j < m) : (execOp ev o).run P w = .ok (.value (.pointer (some ⟨b,off + j,none⟩))) w:=by
  subst hj
  obtain ⟨i0,hi0,hs⟩:=Option.map_eq_some_iff.1 hi
  unfold execOp
  have h2:(0:Int)≤(j:Int)∧(j:Int) < (m:Int):=by omega
  simp [ho,hx,hix,Instr.indexAt,Instr.sureAddr,asIntOf,run_underlying ht,Result.andThen,h2,sizeOf,typeInfo,hi0,hs,add_mk,hlt]
section
variable {P:Program} {n:Nat} {D:List Deferred} {F:Fr} {w:World} {K:Fr→World→Prop} {Q:Exit→Act→World→Prop} {d:Option Tmp} {t:TypeId} {s:String} {af:Array Edge} {gu:Option (Nat × Bool)}
theorem Oia {ty:TypeId} {x ix:Operand} {b off:Nat} (m j:Nat) (i:Int) (hj:i=j) (hlt:j < m) (h:K (pt d (.pointer (some ⟨b,off + j,none⟩)) F) w)
    (hx:evo F x=some (.pointer (some ⟨b,off,none⟩)):=by kernel_rfl) (hi:ixA F ix=some i:=by kernel_rfl) (hs:((arE P ty).bind fun p=>(P.info? p.2).map fun q=>(p.1,q.size),dok n d)=(some (m,1),true):=by kernel_rfl) : OG P ⟨d,.indexAddr ty x ix,t,s,af,gu⟩ n D F w K Q:=by
  simp only [Prod.mk.injEq] at hs
  obtain ⟨hs,hd⟩:=hs
  obtain ⟨k,hi⟩:=ixA_some hi
  cases he:arE P ty with
  | none=>rw [he] at hs; simp at hs
  | some p =>
    obtain ⟨m',e⟩:=p
    rw [he] at hs
    obtain ⟨q,hq,h3⟩:=Option.map_eq_some_iff.1 (show (P.info? e).map (fun q=>(m',q.size))=some (m,1) from hs)
    injection h3 with h4 h5
    subst h4
    exact ⟨fun a ha K' hK=>ow_val _ rfl (run_ixarr rfl (arE_some he) (by rw [hq]; simp [h5]) (ha.ev hx) (ha.ev hi) hj hlt) (hK _ _ _ h (ha.put hd))⟩
end
theorem xi_u8 {a b:Int} (ha:0≤a∧a < 256) (hb:0≤b∧b < 256) : bits .xor .u8 a b=xi a b:=u8_xor a b ha.1 ha.2 hb.1 hb.2
theorem xi_u16 {a b:Int} (ha:0≤a∧a < 65536) (hb:0≤b∧b < 65536) : bits .xor .u16 a b=xi a b:=u16_xor a b ha.1 ha.2 hb.1 hb.2
theorem and1_u16 {a:Int} (ha:0≤a∧a < 65536) : bits .and .u16 a 1=a % 2:=by
  rw [u16_and a 1 ha.1 ha.2 (by omega) (by omega)]
  show ((a.toNat &&& 1:Nat) : Int)=_
  rw [Nat.and_one_is_mod]
  omega
def tabA (k:Nat) : Array Value:=((List.range 256).map fun i=>if i < k then Value.int .u16 (tabI i) else Value.int .u16 0).toArray
theorem tabA_size (k:Nat) : (tabA k).size=256:=by simp [tabA]
theorem tabA_one (k:Nat) : (tabA k).all (·.oneCell')=true:=by
  unfold tabA
  rw [List.all_toArray,List.all_eq_true]
  intro v hv
  rw [List.mem_map] at hv
  obtain ⟨i,_,rfl⟩:=hv
  split <;> rfl
theorem tabA_set {i k:Nat} (hk:k=8) (hi:i < 256) : (tabA i).setIfInBounds i (.int .u16 ((crcK k i:Nat) : Int))=tabA (i + 1):=by
  subst hk
  unfold tabA
  rw [List.setIfInBounds_toArray]
  congr 1
  apply List.ext_getElem?
  intro j
  rw [List.getElem?_set]
  by_cases hj:j < 256
  · by_cases hij:i=j
    · subst hij
      simp [hi,tabI,tabN]
    · simp [hij,hj]
      congr 1
      simp only [eq_iff_iff]
      omega
  · rw [if_neg (by omega)]
    simp [hj]
theorem tabA_at {i:Nat} (h:i < 256) : (tabA 256)[i]? = some (.int .u16 (tabI i)):=by simp [tabA,h]
def crcP (s:Int) (b:List Int) : Nat→Int
  | 0=>s
  | k + 1=>crcS (crcP s b k) (b.getD k 0)
theorem crcP_take (s:Int) (b:List Int) : ∀ k,k≤b.length→crcP s b k=crcT s (b.take k)
  | 0,_=>by simp [crcP,crcT]
  | k + 1,h=>by
    rw [List.take_succ_eq_append_getElem (by omega),crcT_app,← crcP_take s b k (by omega)]
    show crcS _ (b.getD k 0)=_
    rw [List.getD_eq_getElem?_getD,List.getElem?_eq_getElem (by omega)]
    rfl
theorem crcP_all {s:Int} {b:List Int} {k:Nat} (h:k=b.length) : crcP s b k=crcT s b:=by
  subst h
  rw [crcP_take _ _ _ (Nat.le_refl _),List.take_length]
theorem crcP_rng {s:Int} {b:List Int} (hs:0≤s∧s < 65536) (hb:∀ x,x∈b→0≤x∧x < 256) : ∀ k,0≤crcP s b k∧crcP s b k < 65536
  | 0=>hs
  | k + 1=>crcS_rng (crcP_rng hs hb k) (getD_rng (by omega) hb k)
theorem tabI_nat {i:Int} (h:0≤i) : tabI ((i.toNat:Nat) : Int)=tabI i:=by rw [Int.toNat_of_nonneg h]
open Go.RowKit
set_option maxRecDepth 100000 in
set_option maxHeartbeats 4000000 in
theorem crctable_any {w:World}:Calls Tryz.prog 167 #[] w (PVal (.agg (tabA 256)) w):=by
 refine en 23 Tryz.func167 rfl<|sg<|L0<|Oal (tabA 0) fun g10 w11 hg12 B13 hu14=>ng<|L0<|Oal (tabA 0) fun g15 w16 hg17 B18 hu19=>nt<|sq<|sg<|?_
 refine Pl 1<|nt<|bk<|?_
 refine glp (fun x=>[(0,.pointer (some ⟨g10,0,none⟩)),(1,.pointer (some ⟨g15,0,none⟩)),(4,.int .i64 ((x:Nat) : Int))]) (fun (x:Nat) w'=>Upd [g15] w16 w'∧w'.heap[g15]? = some (.cells (tabA x) 218 (0,0))∧(x≤256)) (fun x=>256 - x) 0 ⟨Upd.refl _ _,B18,(by (try dsimp only); omega)⟩ ?_
 rintro i w20 ⟨hu21,f22,p23⟩
 refine wkc [(0,.pointer (some ⟨g10,0,none⟩)),(1,.pointer (some ⟨g15,0,none⟩)),(4,.int .i64 ((i:Nat) : Int))] ?_
 have f25:w20.heap[g15]? = some (.cells (tabA i) 218 (0,0)):=f22
 have p26:i≤256:=p23
 refine sg<|Pl 1<|nt<|sq<|?_
 have U27:=ut0 hu14 hu19
 have U28:=u1 U27 hu21 (ni hu14.size hg17)
 refine cb ((decide (((i:Nat) : Int) < 256))) (fun q29=>?_) (fun q29=>?_)
 have q29p:=of_decide_eq_true q29
 refine skn<|sq<|bk<|sg<|Pl 2<|ng<|Pl 1<|L0<|Oe (.int .u16 (IntKind.u16.wrap ((i:Nat) : Int))) (.int .u16 ((crcK 0 i:Nat) : Int)) (congrArg (Value.int .u16) (u16_in (x:=((i:Nat) : Int)) (by omega)))<|Pl 1<|nl<|?_
 refine tn<|sq<|sg<|Pl 1<|nt<|bk<|?_
 refine glp (fun x=>[(0,.pointer (some ⟨g10,0,none⟩)),(1,.pointer (some ⟨g15,0,none⟩)),(2,.int .i64 ((i:Nat) : Int)),(3,.int .u16 ((crcK x i:Nat) : Int)),(4,.int .i64 ((i:Nat) : Int)),(5,.bool (decide (((i:Nat) : Int) < 256))),(6,.int .i64 ((i:Nat) : Int)),(7,.int .i64 ((i:Nat) : Int)),(8,.int .u16 ((crcK 0 i:Nat) : Int)),(9,.int .i64 ((x:Nat) : Int))]) (fun (x:Nat) w'=>Upd [] w20 w'∧(x≤8)) (fun x=>8 - x) 0 ⟨Upd.refl _ _,(by (try dsimp only); omega)⟩ ?_
 rintro k w30 ⟨hu31,p32⟩
 refine wkc [(0,.pointer (some ⟨g10,0,none⟩)),(1,.pointer (some ⟨g15,0,none⟩)),(2,.int .i64 ((i:Nat) : Int)),(3,.int .u16 ((crcK k i:Nat) : Int)),(4,.int .i64 ((i:Nat) : Int)),(5,.bool (decide (((i:Nat) : Int) < 256))),(6,.int .i64 ((i:Nat) : Int)),(7,.int .i64 ((i:Nat) : Int)),(8,.int .u16 ((crcK 0 i:Nat) : Int)),(9,.int .i64 ((k:Nat) : Int))] ?_
 have p34:k≤8:=p32
 have hk35:=crcK_lt (x:=i) (by omega) k
 refine sg<|Pl 1<|nt<|sq<|?_
 have U36:=ut0 U28 hu31
 refine cb ((decide (((k:Nat) : Int) < 8))) (fun q37=>?_) (fun q37=>?_)
 have q37p:=of_decide_eq_true q37
 refine skn<|sq<|bk<|go<|Pl 1<|L0<|Oe (.int .u16 (Int.fdiv ((crcK k i:Nat) : Int) (2 ^ 1))) (.int .u16 (((crcK k i:Nat) : Int) / 2)) (congrArg (Value.int .u16) (shr_lit _ _ _ (by decide)))<|Pl 1<|L0<|Oe (.int .u16 (bits .and .u16 ((crcK k i:Nat) : Int) 1)) (.int .u16 (((crcK k i:Nat) : Int) % 2)) (congrArg (Value.int .u16) (and1_u16 (by omega)))<|Pl 1<|L0<|Oe (.int .u16 (bits .xor .u16 (((crcK k i:Nat) : Int) / 2) (((((crcK k i:Nat) : Int) % 2) * 40961) % 65536))) (.int .u16 ((crcK (k + 1) i:Nat) : Int)) (congrArg (Value.int .u16) ((xi_u16 (by omega) (by omega)).trans (crc1_xi _)))<|Pl 1<|nl<|bn<|?_
 exact tn<|go<|L0<|Oi (((k:Nat) : Int) + 1)<|Pl 1<|nl<|lpe (k + 1) ⟨hu31,(by (try dsimp only); omega)⟩ (by omega)
 have q37p:=of_decide_eq_false q37
 refine xt<|tx<|tx<|bx<|tn<|go<|Pl 2<|L0<|Oia (b:=g15) (off:=0) 256 i ((i:Nat) : Int) rfl (by omega)<|?_
 have r38:=ub hu31 f25
 refine L0<|Ost (hl:=(by rw [tabA_size]; simp; omega)) r38 (0 + i) ((tabA i).setIfInBounds (0 + i) (.int .u16 ((crcK k i:Nat) : Int))) fun w39 B40 hu41=>?_
 have B42:=B40
 rw [Nat.zero_add,tabA_set (by omega) (by omega)] at B42
 refine nl<|bn<|tn<|go<|L0<|Oi (((i:Nat) : Int) + 1)<|Pl 1<|nl<|?_
 have U43:=ut0 hu21 hu31
 have U44:=u1 U43 hu41 im
 exact lpe (i + 1) ⟨U44,B42,(by (try dsimp only); omega)⟩ (by omega)
 have q29p:=of_decide_eq_false q29
 refine xt<|tx<|tx<|bx<|tn<|sg<|L0<|Olw (hz:=(by rw [tabA_size]; kernel_rfl)) f25<|?_
 have U45:=u1 hu19 hu21 (nr hg17)
 have r46:=ub U45 B13
 refine L0<|Osw (hz:=(by rw [tabA_size]; kernel_rfl)) (hv:=(by rw [tabA_size,tabA_size])) (h1:=(tabA_one _)) r46 ((tabA i)) fun w47 B48 hu49=>nt<|rt<|rc1x 256 (tabA_size _) B48<|?_
 have hi:i=256:=by omega
 subst hi
 have U50:=u1 U28 hu49 (nr hg12)
 exact ⟨rfl,U50⟩
set_option maxRecDepth 100000 in
set_option maxHeartbeats 4000000 in
theorem crcthen_any0 {m:Bool} {A:Option Addr} {cp:Nat} {b:List Int} {w:World} {s:Int} (hsl:RdB m w (.slice A b.length cp) b) (hs:0≤s∧s < 65536) :
    Calls Tryz.prog 166 #[.int .u16 s,.slice A b.length cp] w (PVal (.int .u16 (crcT s b)) w):=by
 have hln:=RdG.len hsl
 have hb:=RdB.range hsl
 refine en 26 Tryz.func166 rfl<|sg<|Pl 1<|ng<|L0<|Oc<|m1 (@crctable_any w) fun w10 hu11=>L0<|Oal (tabA 0) fun g12 w13 hg14 B15 hu16=>L0<|Osw (hz:=(by rw [tabA_size]; kernel_rfl)) (hv:=(by rw [tabA_size,tabA_size])) (h1:=(tabA_one _)) B15 ((tabA 256)) fun w17 B18 hu19=>nt<|sq<|?_
 refine sg<|Pl 3<|nt<|bk<|?_
 refine glp (fun x=>[(0,.int .u16 (crcP s b x)),(4,.int .u16 0),(5,.pointer (some ⟨g12,0,none⟩)),(9,.slice A b.length cp),(10,.int .i64 ((b.length:Nat) : Int)),(11,.int .i64 ((x:Nat) : Int))]) (fun (x:Nat) w'=>Upd [] w17 w'∧(x≤b.length)∧(0≤crcP s b x∧crcP s b x < 65536)) (fun x=>b.length - x) 0 ⟨Upd.refl _ _,(by (try dsimp only); omega),hs⟩ ?_
 rintro k w20 ⟨hu21,p22,p23⟩
 refine wkc [(0,.int .u16 (crcP s b k)),(4,.int .u16 0),(5,.pointer (some ⟨g12,0,none⟩)),(9,.slice A b.length cp),(10,.int .i64 ((b.length:Nat) : Int)),(11,.int .i64 ((k:Nat) : Int))] ?_
 have p25:k≤b.length:=p22
 have p26:0≤crcP s b k∧crcP s b k < 65536:=p23
 refine sg<|Pl 1<|nt<|sq<|?_
 have U27:=ut0 hu11 hu16
 have U28:=u1 U27 hu19 (ni hu11.size hg14)
 have U29:=ut0 U28 hu21
 refine cb ((decide (((k:Nat) : Int) < ((b.length:Nat) : Int)))) (fun q30=>?_) (fun q30=>?_)
 have q30p:=of_decide_eq_true q30
 refine skn<|sq<|bk<|sg<|?_
 have r31:=RdB.old hsl U29
 refine x23 (RdB.at_ r31 k (by omega)) fun b32 o33 hA34 hl35 hr36=>L0<|Oix b.length k hA34 (by omega)<|L0<|Old (p:=⟨b32,o33 + k,none⟩) (v:=.int .u8 (b.getD k 0)) hl35<|Pl 1<|nt<|go<|Pl 1<|L0<|Oe (.int .u16 (Int.fdiv (crcP s b k) (2 ^ 8))) (.int .u16 ((crcP s b k) / 256)) (congrArg (Value.int .u16) (shr_lit _ _ _ (by decide)))<|Pl 3<|?_
 have hx37:=xi8 (a:=((crcP s b k) % 256)) (b:=(b.getD k 0)) (by omega) (by omega)
 refine L0<|Oe (.int .u8 (bits .xor .u8 ((crcP s b k) % 256) (b.getD k 0))) (.int .u8 (xi ((crcP s b k) % 256) (b.getD k 0))) (congrArg (Value.int .u8) (xi_u8 (by omega) (by omega)))<|L0<|Oia (b:=g12) (off:=0) 256 (((xi ((crcP s b k) % 256) (b.getD k 0))).toNat) (xi ((crcP s b k) % 256) (b.getD k 0)) (by omega) (by omega)<|?_
 have hl38:=tabI_rng (i:=(xi ((crcP s b k) % 256) (b.getD k 0))) (by omega)
 have r39:=ub hu21 B18
 exact L0<|Old (p:=⟨g12,0 + ((xi ((crcP s b k) % 256) (b.getD k 0))).toNat,none⟩) (v:=.int .u16 (tabI ((xi ((crcP s b k) % 256) (b.getD k 0))))) (blk_at r39 (by rw [Nat.zero_add,tabA_at (by omega),tabI_nat (by omega)]))<|L0<|Oe (.int .u16 (bits .xor .u16 ((crcP s b k) / 256) (tabI (xi ((crcP s b k) % 256) (b.getD k 0))))) (.int .u16 (crcP s b (k + 1))) (congrArg (Value.int .u16) (xi_u16 (by omega) (tabI_rng (by omega))))<|Pl 1<|nl<|bn<|tn<|go<|L0<|Oi (((k:Nat) : Int) + 1)<|Pl 1<|nl<|lpe (k + 1) ⟨hu21,(by (try dsimp only); omega),(crcP_rng hs hb _)⟩ (by omega)
 have q30p:=of_decide_eq_false q30
 refine xt<|tx<|tx<|bx<|tn<|sg<|Pl 2<|nt<|rt<|rr (.int .u16 (crcP s b k))<|?_
 have hk:crcP s b k=crcT s b:=crcP_all (by omega)
 rw [hk]
 exact ⟨rfl,U29⟩
theorem crcthen_any {m:Bool} {v:Value} {b:List Int} {w:World} (h:RdB m w v b) : Calls Tryz.prog 166 #[.int .u16 65535,v] w (PVal (.int .u16 (crcT 65535 b)) w):=by
  obtain ⟨A,cp,rfl,_,_⟩:=h.shape
  exact crcthen_any0 h (by decide)
set_option maxRecDepth 100000 in
set_option maxHeartbeats 4000000 in
theorem crcof_any0 {m:Bool} {A:Option Addr} {cp:Nat} {b:List Int} {w:World} (hsl:RdB m w (.slice A b.length cp) b) :
    Calls Tryz.prog 164 #[.slice A b.length cp] w (PVal (.int .u16 (crcT 65535 b)) w):=by
 refine en 5 Tryz.func164 rfl<|sg<|Pl 1<|ng<|Pl 1<|L0<|Oc<|m1 (crcthen_any hsl) fun w10 hu11=>Pl 1<|nt<|rt<|?_
 refine rr (.int .u16 (crcT 65535 b))<|?_
 exact ⟨rfl,hu11⟩
theorem crcof_any {m:Bool} {v:Value} {b:List Int} {w:World} (h:RdB m w v b) : Calls Tryz.prog 164 #[v] w (PVal (.int .u16 (crcT 65535 b)) w):=by
  obtain ⟨A,cp,rfl,_,_⟩:=h.shape
  exact crcof_any0 h
set_option maxRecDepth 100000 in
set_option maxHeartbeats 4000000 in
theorem crctwo_any {w:World} {s:Int} (hs:0≤s∧s < 65536) : Calls Tryz.prog 163 #[.int .u16 s] w (fun e w'=>∃ v,e = .returned v∧OwnB w.heap.size w' v (crcTwo s)∧Upd [] w w'):=by
 refine en 9 Tryz.func163 rfl<|sg<|Pl 1<|ng<|Pl 3<|L0<|Oe (.int .u16 (Int.fdiv s (2 ^ 8))) (.int .u16 (s / 256)) (congrArg (Value.int .u16) (shr_lit _ _ _ (by decide)))<|Pl 1<|L0<|Olt (m:=2) (e:=5) #[.int .u8 (s % 256),.int .u8 ((s / 256) % 256)] fun g10 w11 hg12 B13 hu14=>?_
 have ow15:=litB hg12 (xs:=[(s % 256),((s / 256) % 256)]) (by as_aux_lemma=>kernel_rfl) (rng_cons (by omega) (rng_cons (by omega) rng_nil)) (by (try simp only [List.length_cons,List.length_nil]); omega) B13
 refine Pl 1<|nt<|rt<|rr (.slice (some ⟨g10,0,none⟩) 2 2)<|?_
 exact ⟨_,rfl,ow15,hu14⟩
theorem crcis_t {b:List Int} {n:Nat} (h:2≤b.length) (hn:n=b.length - 2) : crcIs b=decide (crcTwo (crcT 65535 (b.take n))=b.drop n):=by
  subst hn
  unfold crcIs
  simp [h]
theorem crcis_f {b:List Int} (h:b.length < 2) : crcIs b=false:=by
  unfold crcIs
  simp
  omega
set_option maxRecDepth 100000 in
set_option maxHeartbeats 4000000 in
theorem crcis_any0 {m:Bool} {A:Option Addr} {cp:Nat} {b:List Int} {w:World} (hsl:RdB m w (.slice A b.length cp) b) (hb:b.length≤1048576) (hcp:b.length≤cp) :
    Calls Tryz.prog 161 #[.slice A b.length cp] w (PVal (.bool (crcIs b)) w):=by
 have hc:=RdG.len hsl
 refine en 22 Tryz.func161 rfl<|sg<|Pl 1<|ng<|Pl 2<|L0<|Oi (((b.length:Nat) : Int) - 2)<|Pl 1<|nt<|sq<|?_
 refine Rg 16 (fun w'=>True) fun w55 hu56=>hld trivial fun hS57=>Rt 0 hS57<|Rt 1 hS57<|Rt 2 hS57<|bla 9 ((decide (0≤(((b.length:Nat) : Int) - 2)))) (fun q58=>?_) (fun q58=>?_)
 have q58p:=of_decide_eq_true q58
 refine Rt 3 hS57<|Rt 4 hS57<|x12 (cut_h (P:=Tryz.prog) 27 5 1 Tryz.underlying27 rfl rfl A b.length cp (k:=(((b.length:Nat) : Int) - 2)) (((((b.length:Nat) : Int) - 2)).toNat) (by omega) (by omega) (by omega)) fun A59 hrun60 hrd61=>Rr 5 hS57 (.slice A59 (((((b.length:Nat) : Int) - 2)).toNat) cp) (fun _ _=>run_cuth (kl:=.i64) (k:=(((b.length:Nat) : Int) - 2)) (A:=A) (n:=b.length) (c:=cp) rfl Tryz.underlying27 (by kernel_rfl) (by kernel_rfl) (hrun60 _ _))<|Rt 9 hS57<|Rt 10 hS57<|x12 (cut_fromI (P:=Tryz.prog) 27 5 1 Tryz.underlying27 rfl rfl A b.length cp (lo:=(((b.length:Nat) : Int) - 2)) (((((b.length:Nat) : Int) - 2)).toNat) (by omega) (by omega)) fun A62 hrun63 hrd64=>Rr 11 hS57 (.slice A62 (b.length - (((((b.length:Nat) : Int) - 2)).toNat)) (cp - (((((b.length:Nat) : Int) - 2)).toNat))) (fun _ _=>run_cutf (kl:=.i64) (k:=(((b.length:Nat) : Int) - 2)) (A:=A) (n:=b.length) (c:=cp) rfl Tryz.underlying27 (by kernel_rfl) (by kernel_rfl) (hrun63 _ _))<|?_
 refine R2 6 12 rfl rfl ?_ ?_
 have r65:=RdB.old hsl hu56
 refine  Oc (args:=#[.slice A59 (((((b.length:Nat) : Int) - 2)).toNat) cp])<|m1 (crcof_any (hrd61 _ _ _ _ _ r65)) fun w66 hu67=>?_
 have hr68:=crcT_rng (b.take (((((b.length:Nat) : Int) - 2)).toNat)) (s:=65535) (by decide) (RdB.range (hrd61 _ _ _ _ _ r65))
 refine hld trivial fun hS69=>?_
 refine R2 7 12 rfl rfl ?_ ?_
 refine  Oc<|so2 (crctwo_any (s:=(crcT 65535 (b.take (((((b.length:Nat) : Int) - 2)).toNat)))) (by omega)) fun A74 cp75 w70 rd78 hl76 hm77 hu73=>hld trivial fun hS79=>?_
 refine R2 8 12 rfl rfl ?_ ?_
 refine  Or_ (.string (strOfNums (crcTwo (crcT 65535 (b.take (((((b.length:Nat) : Int) - 2)).toNat)))))) (run_convB (A:=A74) (n:=(crcTwo (crcT 65535 (b.take (((((b.length:Nat) : Int) - 2)).toNat)))).length) (c:=cp75) rfl (by kernel_rfl) Tryz.underlying27 Tryz.underlying5 Tryz.underlying9 (rd78).rd)<|hld trivial fun hS80=>?_
 have U81:=ut0 hu67 hu73
 have r82:=RdB.old r65 U81
 refine R0 12 rfl<|Or_ (.string (strOfNums (b.drop (((((b.length:Nat) : Int) - 2)).toNat)))) (run_convB (A:=A62) (n:=(b.length - (((((b.length:Nat) : Int) - 2)).toNat))) (c:=(cp - (((((b.length:Nat) : Int) - 2)).toNat))) rfl (by kernel_rfl) Tryz.underlying27 Tryz.underlying5 Tryz.underlying9 (hrd64 _ _ _ _ _ r82))<|hld trivial fun hS83=>Rr 13 hS83 (.bool (decide ((crcTwo (crcT 65535 (b.take (((((b.length:Nat) : Int) - 2)).toNat))))=(b.drop (((((b.length:Nat) : Int) - 2)).toNat))))) (fun _ _=>run_strq (a:=(strOfNums (crcTwo (crcT 65535 (b.take (((((b.length:Nat) : Int) - 2)).toNat)))))) (b:=(strOfNums (b.drop (((((b.length:Nat) : Int) - 2)).toNat)))) rfl (by kernel_rfl) (by kernel_rfl) (str_eq (rd78).rd (hrd64 _ _ _ _ _ r82)))<|Rt 14 hS83<|Rt 15 hS83<|re<|tn<|rt<|rr (.bool (decide ((crcTwo (crcT 65535 (b.take (((((b.length:Nat) : Int) - 2)).toNat))))=(b.drop (((((b.length:Nat) : Int) - 2)).toNat)))))<|?_
 have hs:crcIs b=(decide ((crcTwo (crcT 65535 (b.take (((((b.length:Nat) : Int) - 2)).toNat))))=(b.drop (((((b.length:Nat) : Int) - 2)).toNat)))):=(crcis_t (by omega) (by omega))
 rw [hs]
 have U84:=ut0 hu56 hu67
 have U85:=ut0 U84 hu73
 exact ⟨rfl,U85⟩
 have U86:=ut0 hu67 hu73
 have r87:=RdB.old r65 U86
 refine  Or_ (.string (strOfNums (b.drop (((((b.length:Nat) : Int) - 2)).toNat)))) (run_convB (A:=A62) (n:=(b.length - (((((b.length:Nat) : Int) - 2)).toNat))) (c:=(cp - (((((b.length:Nat) : Int) - 2)).toNat))) rfl (by kernel_rfl) Tryz.underlying27 Tryz.underlying5 Tryz.underlying9 (hrd64 _ _ _ _ _ r87))<|hld trivial fun hS88=>R0 8 rfl<|Or_ (.string (strOfNums (crcTwo (crcT 65535 (b.take (((((b.length:Nat) : Int) - 2)).toNat)))))) (run_convB (A:=A74) (n:=(crcTwo (crcT 65535 (b.take (((((b.length:Nat) : Int) - 2)).toNat)))).length) (c:=cp75) rfl (by kernel_rfl) Tryz.underlying27 Tryz.underlying5 Tryz.underlying9 (rd78).rd)<|hld trivial fun hS89=>Rr 13 hS89 (.bool (decide ((crcTwo (crcT 65535 (b.take (((((b.length:Nat) : Int) - 2)).toNat))))=(b.drop (((((b.length:Nat) : Int) - 2)).toNat))))) (fun _ _=>run_strq (a:=(strOfNums (crcTwo (crcT 65535 (b.take (((((b.length:Nat) : Int) - 2)).toNat)))))) (b:=(strOfNums (b.drop (((((b.length:Nat) : Int) - 2)).toNat)))) rfl (by kernel_rfl) (by kernel_rfl) (str_eq (rd78).rd (hrd64 _ _ _ _ _ r87)))<|Rt 14 hS89<|Rt 15 hS89<|re<|tn<|rt<|rr (.bool (decide ((crcTwo (crcT 65535 (b.take (((((b.length:Nat) : Int) - 2)).toNat))))=(b.drop (((((b.length:Nat) : Int) - 2)).toNat)))))<|?_
 have hs:crcIs b=(decide ((crcTwo (crcT 65535 (b.take (((((b.length:Nat) : Int) - 2)).toNat))))=(b.drop (((((b.length:Nat) : Int) - 2)).toNat)))):=(crcis_t (by omega) (by omega))
 rw [hs]
 have U90:=ut0 hu56 hu67
 have U91:=ut0 U90 hu73
 exact ⟨rfl,U91⟩
 have r92:=RdB.old r65 hu67
 refine  Or_ (.string (strOfNums (b.drop (((((b.length:Nat) : Int) - 2)).toNat)))) (run_convB (A:=A62) (n:=(b.length - (((((b.length:Nat) : Int) - 2)).toNat))) (c:=(cp - (((((b.length:Nat) : Int) - 2)).toNat))) rfl (by kernel_rfl) Tryz.underlying27 Tryz.underlying5 Tryz.underlying9 (hrd64 _ _ _ _ _ r92))<|hld trivial fun hS93=>R0 7 rfl<|Oc<|so2 (crctwo_any (s:=(crcT 65535 (b.take (((((b.length:Nat) : Int) - 2)).toNat)))) (by omega)) fun A98 cp99 w94 rd102 hl100 hm101 hu97=>hld trivial fun hS103=>R0 8 rfl<|Or_ (.string (strOfNums (crcTwo (crcT 65535 (b.take (((((b.length:Nat) : Int) - 2)).toNat)))))) (run_convB (A:=A98) (n:=(crcTwo (crcT 65535 (b.take (((((b.length:Nat) : Int) - 2)).toNat)))).length) (c:=cp99) rfl (by kernel_rfl) Tryz.underlying27 Tryz.underlying5 Tryz.underlying9 (rd102).rd)<|hld trivial fun hS104=>Rr 13 hS104 (.bool (decide ((crcTwo (crcT 65535 (b.take (((((b.length:Nat) : Int) - 2)).toNat))))=(b.drop (((((b.length:Nat) : Int) - 2)).toNat))))) (fun _ _=>run_strq (a:=(strOfNums (crcTwo (crcT 65535 (b.take (((((b.length:Nat) : Int) - 2)).toNat)))))) (b:=(strOfNums (b.drop (((((b.length:Nat) : Int) - 2)).toNat)))) rfl (by kernel_rfl) (by kernel_rfl) (str_eq (rd102).rd (hrd64 _ _ _ _ _ r92)))<|Rt 14 hS104<|Rt 15 hS104<|re<|tn<|rt<|rr (.bool (decide ((crcTwo (crcT 65535 (b.take (((((b.length:Nat) : Int) - 2)).toNat))))=(b.drop (((((b.length:Nat) : Int) - 2)).toNat)))))<|?_
 have hs:crcIs b=(decide ((crcTwo (crcT 65535 (b.take (((((b.length:Nat) : Int) - 2)).toNat))))=(b.drop (((((b.length:Nat) : Int) - 2)).toNat)))):=(crcis_t (by omega) (by omega))
 rw [hs]
 have U105:=ut0 hu56 hu67
 have U106:=ut0 U105 hu97
 exact ⟨rfl,U106⟩
 have r107:=RdB.old hsl hu56
 refine  Or_ (.string (strOfNums (b.drop (((((b.length:Nat) : Int) - 2)).toNat)))) (run_convB (A:=A62) (n:=(b.length - (((((b.length:Nat) : Int) - 2)).toNat))) (c:=(cp - (((((b.length:Nat) : Int) - 2)).toNat))) rfl (by kernel_rfl) Tryz.underlying27 Tryz.underlying5 Tryz.underlying9 (hrd64 _ _ _ _ _ r107))<|hld trivial fun hS108=>R0 6 rfl<|Oc (args:=#[.slice A59 (((((b.length:Nat) : Int) - 2)).toNat) cp])<|m1 (crcof_any (hrd61 _ _ _ _ _ r107)) fun w109 hu110=>?_
 have hr111:=crcT_rng (b.take (((((b.length:Nat) : Int) - 2)).toNat)) (s:=65535) (by decide) (RdB.range (hrd61 _ _ _ _ _ r107))
 refine hld trivial fun hS112=>R0 7 rfl<|Oc<|so2 (crctwo_any (s:=(crcT 65535 (b.take (((((b.length:Nat) : Int) - 2)).toNat)))) (by omega)) fun A117 cp118 w113 rd121 hl119 hm120 hu116=>hld trivial fun hS122=>R0 8 rfl<|Or_ (.string (strOfNums (crcTwo (crcT 65535 (b.take (((((b.length:Nat) : Int) - 2)).toNat)))))) (run_convB (A:=A117) (n:=(crcTwo (crcT 65535 (b.take (((((b.length:Nat) : Int) - 2)).toNat)))).length) (c:=cp118) rfl (by kernel_rfl) Tryz.underlying27 Tryz.underlying5 Tryz.underlying9 (rd121).rd)<|hld trivial fun hS123=>Rr 13 hS123 (.bool (decide ((crcTwo (crcT 65535 (b.take (((((b.length:Nat) : Int) - 2)).toNat))))=(b.drop (((((b.length:Nat) : Int) - 2)).toNat))))) (fun _ _=>run_strq (a:=(strOfNums (crcTwo (crcT 65535 (b.take (((((b.length:Nat) : Int) - 2)).toNat)))))) (b:=(strOfNums (b.drop (((((b.length:Nat) : Int) - 2)).toNat)))) rfl (by kernel_rfl) (by kernel_rfl) (str_eq (rd121).rd (hrd64 _ _ _ _ _ r107)))<|Rt 14 hS123<|Rt 15 hS123<|re<|tn<|rt<|rr (.bool (decide ((crcTwo (crcT 65535 (b.take (((((b.length:Nat) : Int) - 2)).toNat))))=(b.drop (((((b.length:Nat) : Int) - 2)).toNat)))))<|?_
 have hs:crcIs b=(decide ((crcTwo (crcT 65535 (b.take (((((b.length:Nat) : Int) - 2)).toNat))))=(b.drop (((((b.length:Nat) : Int) - 2)).toNat)))):=(crcis_t (by omega) (by omega))
 rw [hs]
 have U124:=ut0 hu56 hu110
 have U125:=ut0 U124 hu116
 exact ⟨rfl,U125⟩
 have q58p:=of_decide_eq_false q58
 refine Ro 3 hS57<|Ro 4 hS57<|Ro 5 hS57<|Ro 6 hS57<|Ro 7 hS57<|Ro 8 hS57<|Ro 9 hS57<|Ro 10 hS57<|Ro 11 hS57<|Ro 12 hS57<|Ro 13 hS57<|Rt 14 hS57<|Rt 15 hS57<|re<|?_
 refine tn<|rt<|rr (.bool false)<|?_
 have hs:crcIs b=false:=(crcis_f (by omega))
 rw [hs]
 exact ⟨rfl,hu56⟩
theorem crcis_any {m:Bool} {v:Value} {b:List Int} {w:World} (h:RdB m w v b) (hb:b.length≤1048576) : Calls Tryz.prog 161 #[v] w (PVal (.bool (crcIs b)) w):=by
  obtain ⟨A,cp,rfl,hc,_⟩:=h.shape
  exact crcis_any0 h hb hc
open Go.RowKit
def rtuBody (b:List Int) : List Int:=(b.take (b.length - 2)).drop 1
theorem rtuBody_eq (b:List Int) : rtuBody b=(b.take (((b.length:Nat) : Int) - 2).toNat).drop 1:=by
  unfold rtuBody
  rw [show (((b.length:Nat) : Int) - 2).toNat=b.length - 2 from by omega]
def rtuP (dir:Int) (b:List Int) : Frm × Int :=
  if dir != 0 && dir != 1 then (Frm.zero,1)
  else if decide ((b.length:Int) < 4) then (Frm.zero,2)
  else if decide (256 < (b.length:Int)) then (Frm.zero,3)
  else if !(crcIs b) then (Frm.zero,10)
  else frmOf (b.getD 0 0) 0 (pduP dir (rtuBody b))
set_option maxRecDepth 100000 in
set_option maxHeartbeats 4000000 in
theorem rtu_parse0 {m:Bool} {A:Option Addr} {cp:Nat} {b:List Int} {w:World} {dir:Int} (hsl:RdB m w (.slice A b.length cp) b) (hb:b.length≤1048576) (hcp:b.length≤cp) :
    Calls Tryz.prog 160 #[.int .i64 dir,.slice A b.length cp] w (PFrm (rtuP dir b) w):=by
 have hln:(b.length:Int)≤1048576:=by omega
 refine en 51 Tryz.func160 rfl<|sg<|L0<|Oal #[.int .u8 0,.int .u16 0,.int .u8 0,.int .u8 0,.int .u16 0,.int .u16 0,.int .u16 0,.int .u16 0,.int .u16 0,.int .u16 0,.int .u16 0,.int .u16 0,.int .u16 0,.int .u16 0,.slice none 0 0,.slice none 0 0,.slice none 0 0,.slice none 0 0,.int .u8 0,.int .u8 0,.int .u8 0,.int .u8 0,.int .u8 0,.slice none 0 0] fun g10 w11 hg12 B13 hu14=>Pl 1<|nt<|sq<|bk<|sg<|Pl 3<|cu 3 [11] 14 (((dir != 0) && (dir != 1))) (fun K K16=>?_) ?_
 refine bl 11 ((dir != 0)) (fun q15=>?_) (fun q15=>?_)
 have q15p:=ne_of_bnei q15
 exact Pl 3<|ce K16 (dir != 1) (by rw [q15]; rfl)
 have q15p:=eq_of_bnei q15
 exact Pl 3<|ce K16 false (by rw [q15]; rfl)
 refine Pl 1<|nt<|cb (((dir != 0) && (dir != 1))) (fun q17=>?_) (fun q17=>?_)
 have q17a:=(and_t q17).1
 have q17b:=(and_t q17).2
 have q17ap:=ne_of_bnei q17a
 have q17bp:=ne_of_bnei q17b
 refine sg<|Pl 1<|L0<|Osw B13 #[.int .u8 0,.int .u16 0,.int .u8 0,.int .u8 0,.int .u16 0,.int .u16 0,.int .u16 0,.int .u16 0,.int .u16 0,.int .u16 0,.int .u16 0,.int .u16 0,.int .u16 0,.int .u16 0,.slice none 0 0,.slice none 0 0,.slice none 0 0,.slice none 0 0,.int .u8 0,.int .u8 0,.int .u8 0,.int .u8 0,.int .u8 0,.slice none 0 0] fun w18 B19 hu20=>Pl 1<|nt<|rt<|br<|tr<|rct B19 (.int .i64 1)<|?_
 have hs:rtuP dir b=(Frm.zero,1):=by
   unfold rtuP
   (try simp only [q17,q17a,q17b,bs,if_true,if_false,decide_true,decide_false,frmOf,reduceIte])
   all_goals rfl
 refine pf_eq hs ?_
 have U21:=u1 hu14 hu20 (nr hg12)
 exact bad_frm U21
 refine sg<|Pl 4<|nt<|cb ((decide (((b.length:Nat) : Int) < 4))) (fun q22=>?_) (fun q22=>?_)
 have q22p:=of_decide_eq_true q22
 refine sg<|Pl 1<|L0<|Osw B13 #[.int .u8 0,.int .u16 0,.int .u8 0,.int .u8 0,.int .u16 0,.int .u16 0,.int .u16 0,.int .u16 0,.int .u16 0,.int .u16 0,.int .u16 0,.int .u16 0,.int .u16 0,.int .u16 0,.slice none 0 0,.slice none 0 0,.slice none 0 0,.slice none 0 0,.int .u8 0,.int .u8 0,.int .u8 0,.int .u8 0,.int .u8 0,.slice none 0 0] fun w23 B24 hu25=>Pl 1<|nt<|rt<|br<|tr<|rct B24 (.int .i64 2)<|?_
 have hs:rtuP dir b=(Frm.zero,2):=by
   unfold rtuP
   (try simp only [q17,q22,bs,if_true,if_false,decide_true,decide_false,frmOf,reduceIte])
   all_goals rfl
 refine pf_eq hs ?_
 have U26:=u1 hu14 hu25 (nr hg12)
 exact bad_frm U26
 have q22p:=of_decide_eq_false q22
 refine sg<|Pl 4<|nt<|cb ((decide (256 < ((b.length:Nat) : Int)))) (fun q27=>?_) (fun q27=>?_)
 have q27p:=of_decide_eq_true q27
 refine sg<|Pl 1<|L0<|Osw B13 #[.int .u8 0,.int .u16 0,.int .u8 0,.int .u8 0,.int .u16 0,.int .u16 0,.int .u16 0,.int .u16 0,.int .u16 0,.int .u16 0,.int .u16 0,.int .u16 0,.int .u16 0,.int .u16 0,.slice none 0 0,.slice none 0 0,.slice none 0 0,.slice none 0 0,.int .u8 0,.int .u8 0,.int .u8 0,.int .u8 0,.int .u8 0,.slice none 0 0] fun w28 B29 hu30=>Pl 1<|nt<|rt<|br<|tr<|rct B29 (.int .i64 3)<|?_
 have hs:rtuP dir b=(Frm.zero,3):=by
   unfold rtuP
   (try simp only [q17,q22,q27,bs,if_true,if_false,decide_true,decide_false,frmOf,reduceIte])
   all_goals rfl
 refine pf_eq hs ?_
 have U31:=u1 hu14 hu30 (nr hg12)
 exact bad_frm U31
 have q27p:=of_decide_eq_false q27
 refine sg<|Pl 1<|?_
 have r34:=RdB.old hsl hu14
 refine L0<|Oc (args:=#[.slice A b.length cp])<|m1 (crcis_any r34 (by omega)) fun w32 hu33=>Pl 2<|nt<|?_
 have U35:=ut0 hu14 hu33
 refine cb ((!(crcIs b))) (fun q36=>?_) (fun q36=>?_)
 have q36n:(crcIs b)=false:=by simpa using q36
 refine sg<|Pl 1<|?_
 have r37:=ub hu33 B13
 refine L0<|Osw r37 #[.int .u8 0,.int .u16 0,.int .u8 0,.int .u8 0,.int .u16 0,.int .u16 0,.int .u16 0,.int .u16 0,.int .u16 0,.int .u16 0,.int .u16 0,.int .u16 0,.int .u16 0,.int .u16 0,.slice none 0 0,.slice none 0 0,.slice none 0 0,.slice none 0 0,.int .u8 0,.int .u8 0,.int .u8 0,.int .u8 0,.int .u8 0,.slice none 0 0] fun w38 B39 hu40=>Pl 1<|nt<|rt<|br<|tr<|rct B39 (.int .i64 10)<|?_
 have hs:rtuP dir b=(Frm.zero,10):=by
   unfold rtuP
   (try simp only [q17,q22,q27,q36,q36n,bs,if_true,if_false,decide_true,decide_false,frmOf,reduceIte])
   all_goals rfl
 refine pf_eq hs ?_
 have U41:=u1 U35 hu40 (nr hg12)
 exact bad_frm U41
 have q36n:(crcIs b)=true:=by simpa using q36
 refine sk<|bn<|tn<|sg<|Pl 4<|L0<|Oi (((b.length:Nat) : Int) - 2)<|x12 (cut_lhI (P:=Tryz.prog) 27 5 1 Tryz.underlying27 rfl rfl A b.length cp (lo:=1) (up:=(((b.length:Nat) : Int) - 2)) 1 (((((b.length:Nat) : Int) - 2)).toNat) (by omega) (by omega) (by omega) (by omega) (by omega)) fun A42 hrun43 hrd44=>L0<|Or_ (.slice A42 ((((((b.length:Nat) : Int) - 2)).toNat) - 1) (cp - 1)) (run_cutlh (kl:=.i64) (kh:=.i64) (lo:=1) (hi:=(((b.length:Nat) : Int) - 2)) (A:=A) (n:=b.length) (c:=cp) rfl Tryz.underlying27 (by kernel_rfl) (by kernel_rfl) (by kernel_rfl) (hrun43 _ _ _))<|?_
 obtain ⟨M45,E46,hX47⟩ : ∃ M E,pduP dir ((b.take (((((b.length:Nat) : Int) - 2)).toNat)).drop 1)=(M,E):=⟨_,_,rfl⟩
 have r66:=RdB.old r34 hu33
 have hp48:=pdu_parse (dir:=dir) (w:=w32) (hrd44 _ _ _ _ _ r66) (by rw [List.length_drop,List.length_take]; omega)
 rw [hX47] at hp48
 refine L0<|Oc<|e2 hp48 fun cs50 w49 hM51 hu53=>?_
 have hM52:=hM51
 obtain ⟨v56,v57,v58,v59,v60,h54,h61,h62,h63,h64,h65,hR55⟩:=hM52
 obtain rfl:cs50=(msgCells M45 v56 v57 v58 v59 v60).toArray:=by apply Array.toList_inj.1; simpa using h54
 obtain ⟨A67,k68,rfl,_,_⟩:=h61.shape
 obtain ⟨A69,k70,rfl,_,_⟩:=h62.shape
 obtain ⟨A71,k72,rfl,_,_⟩:=h63.shape
 obtain ⟨A73,k74,rfl,_,_⟩:=h64.shape
 obtain ⟨A75,k76,rfl,_,_⟩:=h65.shape
 refine Pl 3<|L0<|Oal mZ fun g77 w78 hg79 B80 hu81=>L0<|Osw B80 (mG M45.code M45.fail M45.addr M45.count M45.value M45.and_ M45.or_ M45.addr2 M45.sub M45.status M45.events M45.messages (.slice A67 M45.words.length k68) (.slice A69 M45.bits.length k70) (.slice A71 M45.data.length k72) (.slice A73 M45.recs.length k74) M45.mei M45.kind M45.level M45.more M45.next (.slice A75 M45.objects.length k76)) fun w82 B83 hu84=>Pl 1<|nt<|sq<|sg<|Pl 2<|nt<|?_
 have U85:=ut0 U35 hu53
 have U86:=ut0 U85 hu81
 have U87:=u1 U86 hu84 (ni U85.size hg79)
 refine cb ((E46 != 0)) (fun q88=>?_) (fun q88=>?_)
 have q88p:=ne_of_bnei q88
 refine sg<|Pl 2<|?_
 have U89:=ut0 hu33 hu53
 have U90:=ut0 U89 hu81
 have U91:=u1 U90 hu84 (ni U89.size hg79)
 have r92:=ub U91 B13
 refine L0<|Osw r92 #[.int .u8 0,.int .u16 0,.int .u8 0,.int .u8 0,.int .u16 0,.int .u16 0,.int .u16 0,.int .u16 0,.int .u16 0,.int .u16 0,.int .u16 0,.int .u16 0,.int .u16 0,.int .u16 0,.slice none 0 0,.slice none 0 0,.slice none 0 0,.slice none 0 0,.int .u8 0,.int .u8 0,.int .u8 0,.int .u8 0,.int .u8 0,.slice none 0 0] fun w93 B94 hu95=>Pl 1<|nt<|rt<|tr<|rct B94 (.int .i64 E46)<|?_
 have hX2:pduP dir (rtuBody b)=(M45,E46):=(congrArg (pduP dir) (rtuBody_eq b)).trans hX47
 have hs:rtuP dir b=(Frm.zero,E46):=by
   unfold rtuP
   (try simp only [q17,q22,q27,q36,q36n,q88,bs,if_true,if_false,decide_true,decide_false,frmOf,hX2,reduceIte])
   all_goals rfl
 refine pf_eq hs ?_
 have U96:=u1 U87 hu95 (nr hg12)
 exact bad_frm U96
 have q88p:=eq_of_bnei q88
 refine skn<|sq<|?_
 have U112:=ut0 hu53 hu81
 have U113:=u1 U112 hu84 (ni hu53.size hg79)
 have r114:=RdB.old r66 U113
 refine x23 (RdB.at_ r114 0 (by omega)) fun b115 o116 hA117 hl118 hr119=>Rg 8 (fun w'=>w'.cell? ⟨b115,o116 + 0,none⟩=some (.int .u8 (b.getD 0 0))∧w'.heap[g77]? = some (.cells (mG M45.code M45.fail M45.addr M45.count M45.value M45.and_ M45.or_ M45.addr2 M45.sub M45.status M45.events M45.messages (.slice A67 M45.words.length k68) (.slice A69 M45.bits.length k70) (.slice A71 M45.data.length k72) (.slice A73 M45.recs.length k74) M45.mei M45.kind M45.level M45.more M45.next (.slice A75 M45.objects.length k76)) 31 (0,0))) fun w127 hu128=>?_
 have r130:=ub hu128 B83
 refine hld ⟨(uc hu128 hl118),r130⟩ fun hS129=>Rt 0 hS129<|Ri1 1 hS129 b.length 0 0 rfl hA117 (by omega)<|Rl 2 hS129 (fun _ hs=>hs.1)<|Rt 3 hS129<|Rr 4 hS129 (.agg (mG M45.code M45.fail M45.addr M45.count M45.value M45.and_ M45.or_ M45.addr2 M45.sub M45.status M45.events M45.messages (.slice A67 M45.words.length k68) (.slice A69 M45.bits.length k70) (.slice A71 M45.data.length k72) (.slice A73 M45.recs.length k74) M45.mei M45.kind M45.level M45.more M45.next (.slice A75 M45.objects.length k76))) (fun w' hs=>lda_o (g:=g77) (off:=0) [.int .u8 M45.code,.int .u8 M45.fail,.int .u16 M45.addr,.int .u16 M45.count,.int .u16 M45.value,.int .u16 M45.and_,.int .u16 M45.or_,.int .u16 M45.addr2,.int .u16 M45.sub,.int .u16 M45.status,.int .u16 M45.events,.int .u16 M45.messages,.slice A67 M45.words.length k68,.slice A69 M45.bits.length k70,.slice A71 M45.data.length k72,.slice A73 M45.recs.length k74,.int .u8 M45.mei,.int .u8 M45.kind,.int .u8 M45.level,.int .u8 M45.more,.int .u8 M45.next,.slice A75 M45.objects.length k76] rfl (by kernel_rfl) hs.2 (by kernel_rfl) (by kernel_rfl) rfl)<|Rt 5 hS129<|?_
 have U131:=ut0 hu33 hu53
 have U132:=ut0 U131 hu81
 have U133:=u1 U132 hu84 (ni U131.size hg79)
 have U134:=ut0 U133 hu128
 have r135:=ub U134 B13
 refine R0 6 rfl<|Osw r135 #[.int .u8 (b.getD 0 0),.int .u16 0,.int .u8 M45.code,.int .u8 M45.fail,.int .u16 M45.addr,.int .u16 M45.count,.int .u16 M45.value,.int .u16 M45.and_,.int .u16 M45.or_,.int .u16 M45.addr2,.int .u16 M45.sub,.int .u16 M45.status,.int .u16 M45.events,.int .u16 M45.messages,.slice A67 M45.words.length k68,.slice A69 M45.bits.length k70,.slice A71 M45.data.length k72,.slice A73 M45.recs.length k74,.int .u8 M45.mei,.int .u8 M45.kind,.int .u8 M45.level,.int .u8 M45.more,.int .u8 M45.next,.slice A75 M45.objects.length k76] fun w136 B137 hu138=>?_
 have U140:=u1 (Upd.mono (S':=[g10]) hu128 all0) hu138 im
 have U141:=ut0 U113 hu128
 have U142:=u1 (Upd.mono (S':=[g10]) U141 all0) hu138 im
 have U143:=u1 (Upd.mono (S':=[g10]) U134 all0) hu138 im
 have U144:=ut0 U87 hu128
 have U145:=u1 U144 hu138 (nr hg12)
 have r146:=RdB.old hsl U145
 have ne147:=nb (blk_lt B13) U131.size hg79
 have r148:=ub1 hu138 (Ne.symm ne147) r130
 refine hld ⟨(cB r146 hA117 0 (by omega)),r148⟩ fun hS139=>Rt 7 hS139<|re<|tn<|rt<|rct B137 (.int .i64 0)<|?_
 have hX2:pduP dir (rtuBody b)=(M45,E46):=(congrArg (pduP dir) (rtuBody_eq b)).trans hX47
 have hs:rtuP dir b=(⟨(b.getD 0 0),0,M45⟩,0):=by
   unfold rtuP
   (try simp only [q17,q22,q27,q36,q36n,q88,bs,if_true,if_false,decide_true,decide_false,frmOf,hX2,reduceIte])
   all_goals rfl
 refine pf_eq hs ?_
 have U149:=u1 hu81 hu84 (nr hg79)
 have U150:=ut0 U149 hu128
 have U151:=u1 (Upd.mono (S':=[g10]) U150 all0) hu138 im
 have r152:=ub U131 B13
 have r153:=MsgRd.upd hM51 U151 (safe_cons (safe1 r152 (by decide)) safe0)
 exact ⟨_,rfl,⟨#[.int .u8 M45.code,.int .u8 M45.fail,.int .u16 M45.addr,.int .u16 M45.count,.int .u16 M45.value,.int .u16 M45.and_,.int .u16 M45.or_,.int .u16 M45.addr2,.int .u16 M45.sub,.int .u16 M45.status,.int .u16 M45.events,.int .u16 M45.messages,.slice A67 M45.words.length k68,.slice A69 M45.bits.length k70,.slice A71 M45.data.length k72,.slice A73 M45.recs.length k74,.int .u8 M45.mei,.int .u8 M45.kind,.int .u8 M45.level,.int .u8 M45.more,.int .u8 M45.next,.slice A75 M45.objects.length k76],(by as_aux_lemma=>kernel_rfl),r153,b8 (x:=(b.getD 0 0)) (by omega),b16 (x:=0) (by omega)⟩,U145⟩
theorem rtu_parse {m:Bool} {v:Value} {b:List Int} {w:World} {dir:Int} (h:RdB m w v b) (hb:b.length≤1048576) : Calls Tryz.prog 160 #[.int .i64 dir,v] w (PFrm (rtuP dir b) w):=by
  obtain ⟨A,cp,rfl,hc,_⟩:=h.shape
  exact rtu_parse0 h hb hc
open Go.RowKit
theorem eqn_head (a b c d:Int) (w:World) : (Op.equalIn 10000 24 (.agg #[.int .u8 a,.int .u16 b]) (.agg #[.int .u8 c,.int .u16 d])).run Tryz.prog w = .ok ((a == c) && (b == d)) w:=by
  have hS:Tryz.prog.underlying 24=some (.struct (Tryz.prog.fieldsOf 24)):=by kernel_rfl
  have hp:Tryz.prog.stoodInHeld 24=false:=by kernel_rfl
  rw [show (10000:Nat)=9998 + 1 + 1 from rfl,run_equalIn_agg w (9998 + 1) 24 _ _ hS hp]
  simp only [Program.fieldsOf,Tryz.underlying24]
  have p0:∀ v:Int,(part 5 #[.int .u8 v,.int .u16 b] 0).run Tryz.prog w = .ok (.int .u8 v) w:=fun v=>by simp [part,isAgg,run_underlying Tryz.underlying5,Result.andThen]
  have p0':∀ v:Int,(part 5 #[.int .u8 v,.int .u16 d] 0).run Tryz.prog w = .ok (.int .u8 v) w:=fun v=>by simp [part,isAgg,run_underlying Tryz.underlying5,Result.andThen]
  have p1:∀ v u:Int,(part 22 #[.int .u8 u,.int .u16 v] 1).run Tryz.prog w = .ok (.int .u16 v) w:=fun v u=>by simp [part,isAgg,run_underlying Tryz.underlying22,Result.andThen]
  have e0:=run_equalIn_int (P:=Tryz.prog) w 9998 5 .u8 _ a c Tryz.underlying5
  have e1:=run_equalIn_int (P:=Tryz.prog) w 9998 22 .u16 _ b d Tryz.underlying22
  simp only [Op.eqFields,Sem.run_bind,p0,p0',p1,e0,e1,Result.andThen_ok,ne_eq,String.reduceEq,not_false_eq_true,if_true,Sem.run_ite]
  cases (a == c) <;> cases (b == d) <;> simp
theorem run_headeq {ev:Operand→Value} {o:Oper} {x y:Operand} {t:TypeId} (a b c d:Int) {v:Bool} {w:World} (ho:o.op = .binOp .eql 24 x y t)
    (hx:ev x = .agg #[.int .u8 a,.int .u16 b]) (hy:ev y = .agg #[.int .u8 c,.int .u16 d]) (hv:((a == c) && (b == d))=v) : (execOp ev o).run Tryz.prog w = .ok (.value (.bool v)) w:=by
  subst hv
  have hg:(eqGuard .eql 24 x y (.agg #[.int .u8 a,.int .u16 b]) (.agg #[.int .u8 c,.int .u16 d])).run Tryz.prog w = .ok () w:=run_eqGuard_agg w _ _ _ _ _ _ (by kernel_rfl)
  unfold execOp
  simp only [ho,hx,hy,Sem.run_bind,hg,Result.andThen_ok,run_eql_struct,eqn_head,Sem.run_pure]
theorem run_headne {ev:Operand→Value} {o:Oper} {x y:Operand} {t:TypeId} (a b c d:Int) {v:Bool} {w:World} (ho:o.op = .binOp .neq 24 x y t)
    (hx:ev x = .agg #[.int .u8 a,.int .u16 b]) (hy:ev y = .agg #[.int .u8 c,.int .u16 d]) (hv:(!((a == c) && (b == d)))=v) : (execOp ev o).run Tryz.prog w = .ok (.value (.bool v)) w:=by
  subst hv
  have hg:(eqGuard .neq 24 x y (.agg #[.int .u8 a,.int .u16 b]) (.agg #[.int .u8 c,.int .u16 d])).run Tryz.prog w = .ok () w:=run_eqGuard_agg w _ _ _ _ _ _ (by kernel_rfl)
  unfold execOp
  simp only [ho,hx,hy,Sem.run_bind,hg,Result.andThen_ok,run_neq_struct,eqn_head,Sem.run_pure]
open Go.RowKit
def rtuB (u:Int) (l:List Int) : List Int:=([u]++l)++crcTwo (crcT 65535 ([u]++l))
def rtuW (dir u t:Int) (M:Msg) : Option (List Int) :=
  match pduW dir M with
  | none=>none
  | some l=>if !((u == u) && (t == 0)) then none else some (rtuB u l)
set_option maxRecDepth 100000 in
set_option maxHeartbeats 4000000 in
theorem rtu_write {m:Bool} {cs:Array Value} {M:Msg} {w:World} {dir u t:Int} (h:MsgRd m w cs.toList M) (hf:MsgFew M) (hu:B8 u) (ht:B16 t) : Calls Tryz.prog 196 #[.int .i64 dir,.agg (#[.int .u8 u,.int .u16 t]++cs)] w (PWrite (rtuW dir u t M) w):=by
 have hM:=h
 obtain ⟨hu1,hu2⟩:=hu
 obtain ⟨ht1,ht2⟩:=ht
 obtain ⟨vw,vb,vd,vr,vo,h0,hw,hbt,hd,hr,ho,hR⟩:=h
 obtain rfl:cs=(msgCells M vw vb vd vr vo).toArray:=by apply Array.toList_inj.1; simpa using h0
 clear h0
 obtain ⟨Aw,kw,rfl,_,_⟩:=hw.shape
 obtain ⟨Ab,kb,rfl,_,_⟩:=hbt.shape
 obtain ⟨Ad,kd,rfl,_,_⟩:=hd.shape
 obtain ⟨Ar,kr,rfl,_,_⟩:=hr.shape
 obtain ⟨Ao,ko,rfl,_,_⟩:=ho.shape
 obtain ⟨q0,q1,q2,q3,q4,q5,q6,q7,q8,q9,q10,q11,q16,q17,q18,q19,q20⟩:=hR
 simp only [B8,B16] at q0 q1 q2 q3 q4 q5 q6 q7 q8 q9 q10 q11 q16 q17 q18 q19 q20
 refine en 38 Tryz.func196 rfl<|sg<|L0<|Obx #[.int .u8 u,.int .u16 t,.int .u8 M.code,.int .u8 M.fail,.int .u16 M.addr,.int .u16 M.count,.int .u16 M.value,.int .u16 M.and_,.int .u16 M.or_,.int .u16 M.addr2,.int .u16 M.sub,.int .u16 M.status,.int .u16 M.events,.int .u16 M.messages,.slice Aw M.words.length kw,.slice Ab M.bits.length kb,.slice Ad M.data.length kd,.slice Ar M.recs.length kr,.int .u8 M.mei,.int .u8 M.kind,.int .u8 M.level,.int .u8 M.more,.int .u8 M.next,.slice Ao M.objects.length ko] fun g10 w11 hg12 B13 hu14=>Pl 2<|ng<|Pl 2<|L0<|Ola B13 2 22<|?_
 rcases hwr:pduW dir M with _ | lw
 have r18:=MsgRd.old hM hu14
 have hw15:=pdu_write (dir:=dir) r18 hf
 rw [hwr] at hw15
 refine L0<|Oc<|m1 hw15 fun w16 hu17=>Pl 5<|nt<|sq<|sg<|Pl 11<|nt<|c1<|sg<|Pl 2<|nl<|?_
 refine tn<|rt<|tr<|rr (.tuple #[.slice none 0 0,.int .i64 1])<|?_
 have hs:rtuW dir u t M=none:=by
   unfold rtuW
   (try simp only [hwr,bs,if_true,if_false,decide_true,decide_false,reduceIte])
   all_goals rfl
 refine ns_eq hs ?_
 have U19:=ut0 hu14 hu17
 exact ⟨rfl,U19⟩
 have hlw:=pduW_len hwr
 have r23:=MsgRd.old hM hu14
 have hw20:=pdu_write (dir:=dir) r23 hf
 rw [hwr] at hw20
 refine L0<|Oc<|so2 hw20 fun A26 cp27 w21 rd30 hl28 hm29 hu22=>Pl 5<|nt<|sq<|sg<|Pl 4<|?_
 have r31:=ub hu22 B13
 refine L1<|Ola r31 0 2<|Pl 2<|L1<|Olb r31 0<|Pl 1<|L1<|Or_ (.bool (!((u == u) && (t == 0)))) (run_headne u t u 0 rfl (by kernel_rfl) (by kernel_rfl) rfl)<|Pl 1<|nt<|?_
 have U32:=ut0 hu14 hu22
 refine cb ((!((u == u) && (t == 0)))) (fun q33=>?_) (fun q33=>?_)
 have q33n:((u == u) && (t == 0))=false:=by simpa using q33
 refine sg<|Pl 2<|nt<|rt<|tr<|rr (.tuple #[.slice none 0 0,.int .i64 1])<|?_
 have hs:rtuW dir u t M=none:=by
   unfold rtuW
   (try simp only [hwr,q33,q33n,bs,if_true,if_false,decide_true,decide_false,reduceIte])
   all_goals rfl
 refine ns_eq hs ?_
 exact ⟨rfl,U32⟩
 have q33n:((u == u) && (t == 0))=true:=by simpa using q33
 have q33na:=(and_t q33n).1
 have q33nb:=(and_t q33n).2
 have q33nap:=eq_of_beqi q33na
 have q33nbp:=eq_of_beqi q33nb
 refine skn<|sg<|Pl 2<|L0<|Olb r31 0<|L0<|Olt (m:=1) (e:=5) #[.int .u8 u] fun g34 w35 hg36 B37 hu38=>?_
 have ow39:=litB hg36 (xs:=[u]) (by as_aux_lemma=>kernel_rfl) (rng_cons (by omega) rng_nil) (by (try simp only [List.length_cons,List.length_nil]); omega) B37
 refine Pl 1<|?_
 have r40:=own_stay rd30 hu38 (fun x hx=>not0) (fun _ _ h=>h)
 refine L0<|Oapp one_u8 (xs:=([u])) (ys:=lw) (.int .u8 0) 1 ow39 (r40).rd (by (try simp only [List.length_append,List.length_cons,List.length_nil,putW_length,crcTwo_length]); omega) hu38.size fun A41 cp42 w43 ho44 hu45=>Pl 1<|ng<|Pl 2<|L0<|Oc (args:=#[.slice A41 (([u]++lw).length) cp42])<|m1 (crcof_any (ho44).rd) fun w46 hu47=>?_
 have hr48:=crcT_rng ([u]++lw) (s:=65535) (by decide) (RdB.range (ho44).rd)
 refine L0<|Oc<|so2 (crctwo_any (s:=(crcT 65535 ([u]++lw))) (by omega)) fun A53 cp54 w49 rd57 hl55 hm56 hu52=>?_
 have U58:=ut0 hu47 hu52
 have r59:=own_stay ho44 U58 (fun x hx=>not0) (fun _ _ h=>h)
 refine L0<|Oapp one_u8 (xs:=([u]++lw)) (ys:=(crcTwo (crcT 65535 ([u]++lw)))) (.int .u8 0) 1 r59 (rd57).rd (by (try simp only [List.length_append,List.length_cons,List.length_nil,putW_length,crcTwo_length]); omega) (le (le (le hu38.size hu45.size) hu47.size) hu52.size) fun A60 cp61 w62 ho63 hu64=>Pl 2<|nt<|rt<|rr (.tuple #[.slice A60 ((([u]++lw)++(crcTwo (crcT 65535 ([u]++lw)))).length) cp61,.int .i64 0])<|?_
 have hs:rtuW dir u t M=(some (([u]++lw)++(crcTwo (crcT 65535 ([u]++lw))))):=by
   unfold rtuW
   (try simp only [hwr,q33,q33n,q33na,q33nb,bs,if_true,if_false,decide_true,decide_false,reduceIte])
   all_goals rfl
 refine ns_eq hs ?_
 have U65:=ut0 U32 hu38
 have U66:=ut U65 hu45 (all_app (ob_new ow39 U32.size) all0)
 have U67:=ut0 U66 hu47
 have U68:=ut0 U67 hu52
 have U69:=ut U68 hu64 (all_app (ob_new ho44 U32.size) all0)
 exact ⟨_,rfl,(OwnG.weaken ho63 U32.size),U69⟩
open Go.RowKit
theorem rtu_parse_x {m:Bool} {v:Value} {b:List Int} {w:World} {dir:Int} {F:Frm} {E:Int} (hX:rtuP dir b=(F,E)) (h:RdB m w v b) (hb:b.length≤1048576) : Calls Tryz.prog 160 #[.int .i64 dir,v] w (fun e w'=>∃ x,e = .returned (.tuple #[.agg (fcl F.unit F.tid F.msg x),.int .i64 E])∧(MsgRd true w' (mcl F.msg x).toList F.msg∧(0≤F.unit∧F.unit < 256)∧(0≤F.tid∧F.tid < 65536))∧Upd [] w w'):=by
  refine (rtu_parse h hb).mono ?_
  rintro e w' ⟨cs,rfl,h1,h2⟩
  rw [hX] at h1 ⊢
  obtain ⟨c,rfl,h3,h4,h5⟩:=h1
  obtain ⟨x,rfl⟩:=mcl_of h3
  exact ⟨x,by rw [fcl_eq],⟨h3,h4,h5⟩,h2⟩
theorem rtu_write_n {m:Bool} {x:SL} {M:Msg} {w:World} {dir u t:Int} (hX:rtuW dir u t M=none) (h:MsgRd m w (mcl M x).toList M) (hf:MsgFew M) (hu:0≤u∧u < 256) (ht:0≤t∧t < 65536) : Calls Tryz.prog 196 #[.int .i64 dir,.agg (fcl u t M x)] w (fun e w'=>e = .returned (.tuple #[.slice none 0 0,.int .i64 1])∧Upd [] w w'):=by
  have:=rtu_write (dir:=dir) h hf hu ht
  rw [hX] at this
  rw [fcl_eq]
  exact this
theorem rtu_write_s {m:Bool} {x:SL} {M:Msg} {w:World} {dir u t:Int} {l:List Int} (hX:rtuW dir u t M=some l) (h:MsgRd m w (mcl M x).toList M) (hf:MsgFew M) (hu:0≤u∧u < 256) (ht:0≤t∧t < 65536) : Calls Tryz.prog 196 #[.int .i64 dir,.agg (fcl u t M x)] w (fun e w'=>∃ v,e = .returned (.tuple #[v,.int .i64 0])∧OwnB w.heap.size w' v l∧Upd [] w w'):=by
  have:=rtu_write (dir:=dir) h hf hu ht
  rw [hX] at this
  rw [fcl_eq]
  exact this
end Go.Proofs.YtpglhicfhppaiaaGreat
namespace Go.Proofs.YtpglhicfhppaiaaGreat
def lrcP (b:List Int) : Nat→Int
  | 0=>0
  | k + 1=>(lrcP b k + b.getD k 0) % 256
def lrcS (b:List Int) : Int:=lrcP b b.length
def lrcOf (b:List Int) : Int:=(0 - lrcS b) % 256
def lrcIs (b:List Int) : Bool:=decide (0 < ((b.length:Nat) : Int)) && (lrcOf b == 0)
theorem lrcP_rng (b:List Int) : ∀ k,0≤lrcP b k∧lrcP b k < 256
  | 0=>by unfold lrcP; omega
  | k + 1=>by unfold lrcP; omega
def hexD (n:Int) : Int:=if n < 10 then 48 + n else 55 + n
def digV (c:Int) : Int:=if 48≤c∧c≤57 then c - 48 else if 65≤c∧c≤70 then c - 55 else -1
def putH:List Int→List Int
  | []=>[]
  | c :: b=>hexD (c / 16) :: hexD (c % 16) :: putH b
def takeH:List Int→Option (List Int)
  | []=>some []
  | [_]=>none
  | a :: b :: r=>if digV a < 0∨digV b < 0 then none else (takeH r).map fun l=>(16 * digV a + digV b) % 256 :: l
theorem hexD_rng {n:Int} (h:0≤n∧n < 16) : 48≤hexD n∧hexD n≤70:=by unfold hexD; split <;> omega
theorem digV_hexD {n:Int} (h:0≤n∧n < 16) : digV (hexD n)=n:=by
  unfold hexD
  split <;> unfold digV
  · rw [if_pos (by omega)]; omega
  · rw [if_neg (by omega),if_pos (by omega)]; omega
theorem hexD_digV {c:Int} (h:0≤digV c) : hexD (digV c)=c∧digV c < 16:=by
  unfold digV at h ⊢
  split at h
  · rename_i h1
    rw [if_pos h1]
    unfold hexD
    rw [if_pos (by omega)]
    omega
  · rename_i h1
    split at h
    · rename_i h2
      rw [if_neg h1,if_pos h2]
      unfold hexD
      rw [if_neg (by omega)]
      omega
    · omega
theorem digV_lt (c:Int) : digV c < 16∧-1≤digV c:=by unfold digV; split; omega; split <;> omega
theorem putH_len:∀ b:List Int,(putH b).length=2 * b.length
  | []=>rfl
  | c :: b=>by simp only [putH,List.length_cons,putH_len b]; omega
theorem putH_app:∀ a b:List Int,putH (a++b)=putH a++putH b
  | [],b=>rfl
  | c :: a,b=>by simp only [List.cons_append,putH,putH_app a b]
theorem takeH_put:∀ b:List Int,(∀ x,x∈b→0≤x∧x < 256)→takeH (putH b)=some b
  | [],_=>rfl
  | c :: b,h=>by
    have hc:=h c (List.mem_cons_self ..)
    have h1:=digV_hexD (n:=c / 16) (by omega)
    have h2:=digV_hexD (n:=c % 16) (by omega)
    simp only [putH,takeH]
    rw [h1,h2,if_neg (by omega),takeH_put b fun x hx=>h x (List.mem_cons_of_mem _ hx),show (16 * (c / 16) + c % 16) % 256=c from by omega]
    rfl
theorem takeH_some:∀ {s x:List Int},takeH s=some x→s=putH x∧∀ y,y∈x→0≤y∧y < 256
  | [],x,h=>by
    injection h with h
    subst h
    exact ⟨rfl,fun y hy=>by cases hy⟩
  | [_],x,h=>by cases h
  | a :: b :: r,x,h=>by
    simp only [takeH] at h
    split at h
    · cases h
    · rename_i hd
      cases hr:takeH r with
      | none=>rw [hr] at h; cases h
      | some l =>
        rw [hr] at h
        injection h with h
        obtain ⟨h1,h2⟩:=takeH_some hr
        have ha:=hexD_digV (c:=a) (by omega)
        have hb:=hexD_digV (c:=b) (by omega)
        subst h
        refine ⟨?_,fun y hy=>?_⟩
        · simp only [putH]
          rw [show (16 * digV a + digV b) % 256 / 16=digV a from by omega,show (16 * digV a + digV b) % 256 % 16=digV b from by omega,ha.1,hb.1,← h1]
        · rcases List.mem_cons.1 hy with rfl | hy
          · omega
          · exact h2 y hy
theorem takeH_step {xs:List Int} {k:Nat} (h:2 * k + 1 < xs.length) (ha:¬ digV (xs.getD (2 * k) 0) < 0) (hb:¬ digV (xs.getD (2 * k + 1) 0) < 0) : takeH (xs.drop (2 * k))=(takeH (xs.drop (2 * (k + 1)))).map fun l=>[(16 * digV (xs.getD (2 * k) 0) + digV (xs.getD (2 * k + 1) 0)) % 256]++l:=by
  have e1:xs.getD (2 * k) 0=xs[2 * k]:=by rw [List.getD_eq_getElem?_getD,List.getElem?_eq_getElem (by omega)]; rfl
  have e2:xs.getD (2 * k + 1) 0=xs[2 * k + 1]:=by rw [List.getD_eq_getElem?_getD,List.getElem?_eq_getElem h]; rfl
  rw [List.drop_eq_getElem_cons (show 2 * k < xs.length by omega),List.drop_eq_getElem_cons h,← e1,← e2]
  simp only [takeH]
  rw [if_neg (by omega),show 2 * k + 1 + 1=2 * (k + 1) by omega]
  rfl
theorem takeH_bad {xs:List Int} {k:Nat} (h:2 * k + 1 < xs.length) (hd:digV (xs.getD (2 * k) 0) < 0∨digV (xs.getD (2 * k + 1) 0) < 0) : takeH (xs.drop (2 * k))=none:=by
  have e1:xs.getD (2 * k) 0=xs[2 * k]:=by rw [List.getD_eq_getElem?_getD,List.getElem?_eq_getElem (by omega)]; rfl
  have e2:xs.getD (2 * k + 1) 0=xs[2 * k + 1]:=by rw [List.getD_eq_getElem?_getD,List.getElem?_eq_getElem h]; rfl
  rw [List.drop_eq_getElem_cons (show 2 * k < xs.length by omega),List.drop_eq_getElem_cons h,← e1,← e2]
  simp only [takeH]
  rw [if_pos hd]
theorem takeH_odd:∀ {xs:List Int},xs.length % 2 ≠ 0→takeH xs=none
  | [],h=>by simp at h
  | [_],_=>rfl
  | a :: b :: r,h=>by
    simp only [takeH]
    split
    · rfl
    · rw [takeH_odd (by simp only [List.length_cons] at h; omega)]
      rfl
theorem takeH_len {s x:List Int} (h:takeH s=some x) : s.length=2 * x.length:=by
  obtain ⟨h1,_⟩:=takeH_some h
  rw [h1,putH_len]
theorem takeH_end {xs L:List Int} {k:Nat} (h:takeH xs=(takeH (xs.drop (2 * k))).map fun l=>L++l) (h1:¬ 2 * k < xs.length) : takeH xs=some L:=by
  rw [List.drop_eq_nil_of_le (by omega)] at h
  rw [h]
  simp [takeH]
theorem takeH_next {xs L:List Int} {k:Nat} (h:takeH xs=(takeH (xs.drop (2 * k))).map fun l=>L++l) (h2:2 * k + 1 < xs.length) (ha:¬ digV (xs.getD (2 * k) 0) < 0) (hb:¬ digV (xs.getD (2 * k + 1) 0) < 0) : takeH xs=(takeH (xs.drop (2 * (k + 1)))).map fun l=>(L++[(16 * digV (xs.getD (2 * k) 0) + digV (xs.getD (2 * k + 1) 0)) % 256])++l:=by
  rw [h,takeH_step h2 ha hb]
  cases takeH (xs.drop (2 * (k + 1))) with
  | none=>rfl
  | some l=>simp
theorem takeH_no {xs L:List Int} {k:Nat} (h:takeH xs=(takeH (xs.drop (2 * k))).map fun l=>L++l) (h2:2 * k + 1 < xs.length) (hd:digV (xs.getD (2 * k) 0) < 0∨digV (xs.getD (2 * k + 1) 0) < 0) : takeH xs=none:=by
  rw [h,takeH_bad h2 hd]
  rfl
theorem putH_snoc (b:List Int) (k:Nat) (h:k < b.length) : putH (b.take (k + 1))=(putH (b.take k)++[hexD (b.getD k 0 / 16)])++[hexD (b.getD k 0 % 16)]:=by
  rw [List.take_succ_eq_append_getElem h,putH_app,List.getD_eq_getElem?_getD,List.getElem?_eq_getElem h]
  simp [putH]
open Go.RowKit
abbrev Byts (xs:List Int) : Prop:=∀ x,x∈xs→0≤x∧x < 256
theorem u8_back {x:Int} (h:0≤x∧x < 256) : ((UInt8.ofNat x.toNat).toNat:Int)=x:=by
  simp only [UInt8.toNat_ofNat']
  omega
theorem strOfNums_get {xs:List Int} {j:Nat} (hj:j < xs.length) (hs:j < (strOfNums xs).size) : (strOfNums xs)[j]=UInt8.ofNat (xs.getD j 0).toNat:=by
  show (strOfNums xs).data[j]=_
  simp [strOfNums,List.getD_eq_getElem?_getD,List.getElem?_eq_getElem hj]
theorem run_idxs {P:Program} {w:World} {ev:Operand→Value} {o:Oper} {x ix:Operand} {t:TypeId} {xs:List Int} {k:IntKind} {i:Int} (j:Nat) (ho:o.op = .index t x ix) (ht:P.underlying t=some .string) (hx:ev x = .string (strOfNums xs)) (hi:ev ix = .int k i) (hr:Byts xs) (hj:i=(j:Int)) (hlt:j < xs.length) : (execOp ev o).run P w = .ok (.value (.int .u8 (xs.getD j 0))) w:=by
  subst hj
  have hs:j < (strOfNums xs).size:=by rw [strOfNums_size]; exact hlt
  have h:=run_index_string (P:=P) w t (strOfNums xs) k (j:Int) ht
  rw [dif_pos (by omega)] at h
  have hg:xs.getD j 0∈xs:=by
    rw [List.getD_eq_getElem?_getD,List.getElem?_eq_getElem hlt]
    exact List.getElem_mem hlt
  unfold execOp
  simp only [ho,hx,hi,Sem.run_bind,h,Result.andThen,Sem.run_pure]
  have e:((strOfNums xs)[((j:Nat) : Int).toNat]'(by simpa using hs))=UInt8.ofNat (xs.getD j 0).toNat:=by
    simp only [Int.toNat_natCast]
    exact strOfNums_get hlt hs
  rw [e,u8_back (hr _ hg)]
theorem strOfNums_extract (xs:List Int) (a b:Nat) (hb:b≤xs.length) : (strOfNums xs).extract a b=strOfNums ((xs.take b).drop a):=by
  apply ByteArray.ext
  rw [ByteArray.data_extract]
  apply Array.toList_inj.1
  rw [Array.toList_extract]
  simp [strOfNums,List.extract,List.map_drop,List.map_take,List.drop_take]
theorem run_cutsF {P:Program} {w:World} {ev:Operand→Value} {o:Oper} {x y:Operand} {t:TypeId} {xs:List Int} {k:IntKind} {i:Int} (j:Nat) (ho:o.op = .slice t x (some y) none none) (ht:P.underlying t=some .string) (hx:ev x = .string (strOfNums xs)) (hy:ev y = .int k i) (hj:i=(j:Int)) (hlt:j≤xs.length) : (execOp ev o).run P w = .ok (.value (.string (strOfNums (xs.drop j)))) w:=by
  subst hj
  have hu:(underlying t).run P w = .ok .string w:=run_underlying ht w
  have h:=run_slice_string_l (P:=P) w t (strOfNums xs) ht k (j:Int) (by omega) (by rw [strOfNums_size]; omega)
  rw [strOfNums_size,strOfNums_extract _ _ _ (Nat.le_refl _),List.take_length,Int.toNat_natCast] at h
  unfold execOp
  simp only [ho,Option.map_some,Option.map_none,hx,hy,Instr.sliceAt,Sem.run_bind,hu,h,Result.andThen,Sem.run_pure]
theorem run_cutsT {P:Program} {w:World} {ev:Operand→Value} {o:Oper} {x y:Operand} {t:TypeId} {xs:List Int} {k:IntKind} {i:Int} (j:Nat) (ho:o.op = .slice t x none (some y) none) (ht:P.underlying t=some .string) (hx:ev x = .string (strOfNums xs)) (hy:ev y = .int k i) (hj:i=(j:Int)) (hlt:j≤xs.length) : (execOp ev o).run P w = .ok (.value (.string (strOfNums (xs.take j)))) w:=by
  subst hj
  have hu:(underlying t).run P w = .ok .string w:=run_underlying ht w
  have h:=run_slice_string_h (P:=P) w t (strOfNums xs) ht k (j:Int) (by omega) (by rw [strOfNums_size]; omega)
  rw [Int.toNat_natCast,strOfNums_extract _ _ _ hlt,List.drop_zero] at h
  unfold execOp
  simp only [ho,Option.map_some,Option.map_none,hx,hy,Instr.sliceAt,Sem.run_bind,hu,h,Result.andThen,Sem.run_pure]
theorem strOfNums_app (xs ys:List Int) : strOfNums xs++strOfNums ys=strOfNums (xs++ys):=by
  apply ByteArray.ext
  simp [strOfNums,ByteArray.data_append]
theorem run_adds {P:Program} {w:World} {ev:Operand→Value} {o:Oper} {x y:Operand} {t t':TypeId} {a b:ByteArray} {xs ys:List Int} (ho:o.op = .binOp .add t x y t') (hx:ev x = .string a) (hy:ev y = .string b) (ha:a=strOfNums xs) (hb:b=strOfNums ys) (hl:xs.length + ys.length≤1048576) : (execOp ev o).run P w = .ok (.value (.string (strOfNums (xs++ys)))) w:=by
  subst ha hb
  have hg:eqGuard .add t x y (.string (strOfNums xs)) (.string (strOfNums ys))=pure ():=rfl
  unfold execOp
  simp only [ho,hx,hy,hg,Sem.run_bind,Sem.run_pure,Result.andThen]
  have h:(binOp .add t (.string (strOfNums xs)) (.string (strOfNums ys))).run P w = .ok (.string (strOfNums (xs++ys))) w:=by
    show (Op.stringOp .add _ _).run P w=_
    unfold Op.stringOp
    rw [← strOfNums_app]
    have:¬ ((((strOfNums xs).size + (strOfNums ys).size:Nat) : Int) > IntKind.i64.max):=by
      rw [strOfNums_size,strOfNums_size]
      show ¬ (((xs.length + ys.length:Nat) : Int) > 9223372036854775807)
      omega
    dsimp only
    rw [if_neg this]
    rfl
  rw [h]
theorem byts_app {xs ys:List Int} (h:Byts xs) (k:Byts ys) : Byts (xs++ys):=fun x hx=>by
  rcases List.mem_append.1 hx with h1 | h1
  · exact h x h1
  · exact k x h1
theorem byts_drop {xs:List Int} (h:Byts xs) (j:Nat) : Byts (xs.drop j):=fun x hx=>h x (List.mem_of_mem_drop hx)
theorem byts_take {xs:List Int} (h:Byts xs) (j:Nat) : Byts (xs.take j):=fun x hx=>h x (List.mem_of_mem_take hx)
theorem str_eqx {xs ys:List Int} (hx:Byts xs) (hy:Byts ys) : ((strOfNums xs).toList == (strOfNums ys).toList)=decide (xs=ys):=by
  have e:∀ zs:List Int,(strOfNums zs).toList=zs.map fun n=>UInt8.ofNat n.toNat:=fun zs=>by
    rw [ByteArray.toList_eq]
    rfl
  rw [e,e]
  by_cases h:xs=ys
  · subst h; simp
  · rw [decide_eq_false h,beq_eq_false_iff_ne]
    exact fun k=>h (strOf_inj xs ys hx hy k)
def OwnF (base:Nat) (w:World) (v:Value) (xs:List Int) : Prop:=∃ g cap cur n,v = .slice (some ⟨g,0,none⟩) xs.length cap∧base≤g∧w.heap[g]? = some (.cells cur 5 (n,n + 1))∧xs.length≤n∧xs.length≤cap∧cap≤maxLen∧cur.toList.take xs.length=xs.map (Value.int .u8)∧Byts xs
theorem OwnF.rd {base:Nat} {w:World} {v:Value} {xs:List Int} (h:OwnF base w v xs) : RdB true w v xs:=by
  obtain ⟨g,cap,cur,n,rfl,hb,hh,h1,h2,h3,h4,h5⟩:=h
  refine ⟨_,_,rfl,h2,h3,(fun hA=>by cases hA),fun hp=>⟨g,0,cur,_,_,rfl,hh,fun _=>rfl,fun j x hj=>?_⟩⟩
  refine ⟨[.int .u8 x],rfl,⟨rfl,h5 x (List.mem_of_getElem? hj)⟩,fun i u hi=>?_⟩
  cases i with
  | succ i=>simp at hi
  | zero =>
    have hi:Value.int .u8 x=u:=by simpa using hi
    subst hi
    have h6:(xs.map (Value.int .u8))[j]? = some (.int .u8 x):=by rw [List.getElem?_map,hj]; rfl
    rw [← h4,List.getElem?_take] at h6
    split at h6
    · simpa using h6
    · cases h6
theorem OwnF.ge {base g m c:Nat} {w:World} {xs:List Int} (h:OwnF base w (.slice (some ⟨g,0,none⟩) m c) xs) : base≤g:=by
  obtain ⟨g',cap,cur,n,hv,hb,_⟩:=h
  injection hv with e1 _ _
  injection e1 with e1
  injection e1 with e1 _
  rw [e1]
  exact hb
theorem OwnF.shape {base:Nat} {w:World} {v:Value} {xs:List Int} (h:OwnF base w v xs) : ∃ g cp,v = .slice (some ⟨g,0,none⟩) xs.length cp:=by
  obtain ⟨g,cap,cur,n,hv,_⟩:=h
  exact ⟨g,cap,hv⟩
theorem run_strconv {P:Program} {w:World} {src dst e:TypeId} {xs:List Int} (hs:P.underlying src=some .string) (hd:P.underlying dst=some (.slice e)) (he:P.underlying e=some (.int .u8)) (hte:e=5) (hr:Byts xs) (hl:xs.length≤1048576) :
    ∃ cp w',(convert src dst (.string (strOfNums xs))).run P w = .ok (.slice (some ⟨w.heap.size,0,none⟩) xs.length cp) w'∧OwnF w.heap.size w' (.slice (some ⟨w.heap.size,0,none⟩) xs.length cp) xs∧Upd [] w w':=by
  subst hte
  have h:=Lib.run_convert_string_bytes (P:=P) w src dst _ (strOfNums xs) hs hd he
  rw [strOfNums_size] at h
  refine ⟨_,_,h,⟨_,_,_,_,rfl,Nat.le_refl _,Lib.bytesWorld_at_new w _ (strOfNums xs),?_,?_,?_,?_,hr⟩,?_⟩
  · simp [Lib.bytesCells,strOfNums]
  · exact grownCap_ge ..
  · exact grownCap_le_maxLen _ _ _ _ (by unfold maxLen; omega)
  · simp only [Lib.bytesCells]
    rw [Array.toList_append,List.take_append_of_le_length (by simp [strOfNums])]
    rw [List.take_of_length_le (by simp [strOfNums])]
    simp only [strOfNums,Array.toList_map,List.map_map]
    apply List.map_congr_left
    intro x hx
    show Value.int .u8 _=_
    rw [u8_back (hr x hx)]
  · exact ⟨rfl,rfl,rfl,by rw [Lib.bytesWorld_size]; omega,fun k hk _=>Lib.bytesWorld_at_old w _ _ k hk⟩
section
variable {P:Program} {n:Nat} {D:List Deferred} {F:Fr} {w:World} {K:Fr→World→Prop} {Q:Exit→Act→World→Prop} {d:Option Tmp} {t:TypeId} {s:String} {af:Array Edge} {gu:Option (Nat × Bool)}
theorem ow_valw {a:Act} {o:Oper} {N:Option Tmp} {K:Act→World→Prop} {w1:World} (v:Value) (hN:o.dst=N) (hr:(execOp a.eval o).run P w = .ok (.value v) w1) (h:K (a.put N v) w1) : OW P o a w K Q:=by
  refine OW.mk ?_
  subst hN
  unfold Oper.wp
  rw [hr]
  exact h
theorem Ocs {src dst:TypeId} {x:Operand} {xs:List Int} (hs:P.underlying src=some .string) (hd:P.underlying dst=some (.slice 5)) (he:P.underlying 5=some (.int .u8)) (hr:Byts xs) (hl:xs.length≤1048576)
    (h:∀ A cp w',OwnF w.heap.size w' (.slice A xs.length cp) xs→Upd [] w w'→K (pt d (.slice A xs.length cp) F) w') (hx:evo F x=some (.string (strOfNums xs)):=by kernel_rfl) (hk:dok n d=true:=by kernel_rfl) : OG P ⟨d,.convert src dst x,t,s,af,gu⟩ n D F w K Q:=by
  obtain ⟨cp,w',h1,h2,h3⟩:=run_strconv (P:=P) (w:=w) hs hd he rfl hr hl
  refine ⟨fun a ha K' hK=>ow_valw _ rfl (w1:=w') ?_ (hK _ _ _ (h _ _ _ h2 h3) (ha.put hk))⟩
  have hx':=ha.ev hx
  unfold execOp
  simp only [hx',Sem.run_bind,h1,Result.andThen,Sem.run_pure]
theorem Orng {ty:TypeId} {x:Operand} {sv:ByteArray} (hs:P.underlying ty=some .string) (h:∀ g w',w.heap.size≤g→w'.heap[g]? = some (.stringIter sv 0)→Upd [] w w'→K (pt d (.pointer (some ⟨g,0,none⟩)) F) w')
    (hx:evo F x=some (.string sv):=by kernel_rfl) (hk:dok n d=true:=by kernel_rfl) : OG P ⟨d,.range ty x,t,s,af,gu⟩ n D F w K Q:=by
  refine ⟨fun a ha K' hK=>ow_valw (.pointer (some ⟨w.heap.size,0,none⟩)) rfl (w1:=w.alloc (.stringIter sv 0)) ?_ (hK _ _ _ (h _ _ (Nat.le_refl _) (blk_new _ _) ((Upd.refl _ _).alloc _)) (ha.put hk))⟩
  have hx':=ha.ev hx
  unfold execOp
  simp only [hx',Sem.run_bind,run_range_string w ty sv hs,Result.andThen,Sem.run_pure]
  rfl
theorem decode_58 {xs:List Int} (hr:Byts xs) (h0:0 < xs.length) : ((((Utf8.decode (strOfNums xs) 0).1:Nat) : Int)=58 ↔ xs.getD 0 0=58):=by
  have hs:0 < (strOfNums xs).size:=by rw [strOfNums_size]; exact h0
  have hm:xs.getD 0 0∈xs:=by
    rw [List.getD_eq_getElem?_getD,List.getElem?_eq_getElem h0]
    exact List.getElem_mem h0
  have hb:=hr _ hm
  have h1:((strOfNums xs).get! 0).toNat=(xs.getD 0 0).toNat:=by
    have e:(strOfNums xs).get! 0=(strOfNums xs)[0]:=by
      show (strOfNums xs).data[0]! = _
      rw [getElem!_pos (strOfNums xs).data 0 hs]
      rfl
    rw [e,strOfNums_get h0 hs]
    simp only [UInt8.toNat_ofNat']
    omega
  unfold Utf8.decode
  simp only [Nat.zero_add,h1,Utf8.runeError]
  split
  · omega
  · split
    · split
      · rename_i h2 h3 h4; simp only; omega
      · simp only; omega
    · split
      · split
        · rename_i h2 h3 h4 h5; simp only [Bool.and_eq_true,decide_eq_true_eq] at h5; simp only; omega
        · simp only; omega
      · split
        · split
          · rename_i h2 h3 h4 h5 h6; simp only [Bool.and_eq_true,decide_eq_true_eq] at h6; simp only; omega
          · simp only; omega
        · simp only; omega
theorem Onx {x:Operand} {xs:List Int} {r:Nat} (hr:Byts xs) (h0:0 < xs.length) (B:w.heap[r]? = some (.stringIter (strOfNums xs) 0)) (h:∀ c w',(c=58 ↔ xs.getD 0 0=58)→Upd [r] w w'→K (pt d (.tuple #[.bool true,.int .i64 0,.int .i32 c]) F) w')
    (hx:evo F x=some (.pointer (some ⟨r,0,none⟩)):=by kernel_rfl) (hk:dok n d=true:=by kernel_rfl) : OG P ⟨d,.next x true,t,s,af,gu⟩ n D F w K Q:=by
  have hlt:=blk_lt B
  have hrun:=Lib.run_next_any_at (P:=P) w r (strOfNums xs) 0 t B (by rw [strOfNums_size]; exact h0)
  refine ⟨fun a ha K' hK=>ow_valw _ rfl (w1:=w.iterAt r (strOfNums xs) (0 + (Utf8.decode (strOfNums xs) 0).2)) ?_ (hK _ _ _ (h (((Utf8.decode (strOfNums xs) 0).1:Nat) : Int) _ (decode_58 hr h0) ?_) (ha.put hk))⟩
  · have hx':=ha.ev hx
    unfold execOp
    simp only [hx',Sem.run_bind,hrun,Result.andThen,Sem.run_pure]
    rfl
  · refine ⟨rfl,rfl,rfl,?_,fun k hk hn=>?_⟩
    · simp [World.iterAt]
    · have:r ≠ k:=fun e=>hn (by simp [e])
      simp [World.iterAt,Array.getElem?_setIfInBounds,this]
end
open Go.RowKit
set_option maxRecDepth 100000 in
set_option maxHeartbeats 4000000 in
theorem lrc_one {w:World} {g:Nat} {c s:Int} (hg:w.heap[g]? = some (.cells #[.int .u8 s] 5 (0,0))) : Calls Tryz.prog 182 #[.int .u8 c,.pointer (some ⟨g,0,none⟩)] w (fun e w'=>e = .returned (.tuple #[])∧w'.heap[g]? = some (.cells #[.int .u8 ((s + c) % 256)] 5 (0,0))∧Upd [g] w w'):=by
 refine en 6 Tryz.func182 rfl<|go<|L0<|Olb hg 0<|Pl 2<|L0<|Ost hg 0 #[.int .u8 ((s + c) % 256)] fun w10 B11 hu12=>nl<|rm (.tuple #[])<|?_
 exact ⟨rfl,B11,hu12⟩
set_option maxRecDepth 100000 in
set_option maxHeartbeats 4000000 in
theorem each_any0 {m:Bool} {A:Option Addr} {cp:Nat} {b:List Int} {w0 w:World} {g:Nat} (hu0:Upd [] w0 w) (hg0:w0.heap.size≤g) (hsl:RdB m w0 (.slice A b.length cp) b) (hg:w.heap[g]? = some (.cells #[.int .u8 (lrcP b 0)] 5 (0,0))) :
    Calls Tryz.prog 181 #[.slice A b.length cp,.func (.func 182) #[] #[.pointer (some ⟨g,0,none⟩)]] w (fun e w'=>e = .returned (.tuple #[])∧w'.heap[g]? = some (.cells #[.int .u8 (lrcS b)] 5 (0,0))∧Upd [] w0 w'∧w.heap.size≤w'.heap.size):=by
 have hln:=RdG.len hsl
 refine en 16 Tryz.func181 rfl<|sg<|Pl 3<|nt<|bk<|?_
 refine glp (fun x=>[(1,.func (.func 182) #[] #[.pointer (some ⟨g,0,none⟩)]),(6,.slice A b.length cp),(7,.int .i64 ((b.length:Nat) : Int)),(8,.int .i64 ((x:Nat) : Int))]) (fun (x:Nat) w'=>Upd [] w0 w'∧w.heap.size≤w'.heap.size∧w'.heap[g]? = some (.cells #[.int .u8 (lrcP b x)] 5 (0,0))∧(x≤b.length)) (fun x=>b.length - x) 0 ⟨hu0,lr,hg,(by (try dsimp only); omega)⟩ ?_
 rintro k w10 ⟨hu11,hz14,f12,p13⟩
 refine wkc [(1,.func (.func 182) #[] #[.pointer (some ⟨g,0,none⟩)]),(6,.slice A b.length cp),(7,.int .i64 ((b.length:Nat) : Int)),(8,.int .i64 ((k:Nat) : Int))] ?_
 have f15:w10.heap[g]? = some (.cells #[.int .u8 (lrcP b k)] 5 (0,0)):=f12
 have p16:k≤b.length:=p13
 refine sg<|Pl 1<|nt<|sq<|cb ((decide (((k:Nat) : Int) < ((b.length:Nat) : Int)))) (fun q17=>?_) (fun q17=>?_)
 have q17p:=of_decide_eq_true q17
 refine skn<|sq<|bk<|sg<|?_
 have U18:=ut0 (Upd.refl [] _) hu11
 have r19:=RdB.old hsl U18
 refine x23 (RdB.at_ r19 k (by omega)) fun b20 o21 hA22 hl23 hr24=>L0<|Oix b.length k hA22 (by omega)<|L0<|Old (p:=⟨b20,o21 + k,none⟩) (v:=.int .u8 (b.getD k 0)) hl23<|Pl 1<|nt<|go<|Pl 2<|L0<|Ocv #[] #[.pointer (some ⟨g,0,none⟩)] (args:=#[.int .u8 (b.getD k 0),.pointer (some ⟨g,0,none⟩)])<|m2 (lrc_one (c:=(b.getD k 0)) f15) fun w25 B26 hu27=>nl<|bn<|tn<|go<|L0<|Oi (((k:Nat) : Int) + 1)<|?_
 refine Pl 1<|nl<|?_
 have U28:=u1 U18 hu27 (nr hg0)
 exact lpe (k + 1) ⟨U28,(le hz14 hu27.size),B26,(by (try dsimp only); omega)⟩ (by omega)
 have q17p:=of_decide_eq_false q17
 refine xt<|tx<|tx<|bx<|rm (.tuple #[])<|?_
 have hk:k=b.length:=by omega
 subst hk
 have U29:=ut0 (Upd.refl [] _) hu11
 exact ⟨rfl,f15,U29,hz14⟩
set_option maxRecDepth 100000 in
set_option maxHeartbeats 4000000 in
theorem lrcof_any0 {m:Bool} {A:Option Addr} {cp:Nat} {b:List Int} {w:World} (hsl:RdB m w (.slice A b.length cp) b) :
    Calls Tryz.prog 178 #[.slice A b.length cp] w (PVal (.int .u8 (lrcOf b)) w):=by
 refine en 9 Tryz.func178 rfl<|sg<|Pl 1<|ng<|L0<|Oal #[.int .u8 0] fun g10 w11 hg12 B13 hu14=>L0<|Ost B13 0 #[.int .u8 0] fun w15 B16 hu17=>ng<|?_
 refine Pl 2<|?_
 have U18:=u1 hu14 hu17 (nr hg12)
 refine L0<|Oc<|m3 (each_any0 U18 hg12 hsl B16) fun w19 B20 hj21 hz22=>ng<|L0<|Olb B20 0<|Pl 2<|nt<|rt<|rr (.int .u8 ((0 - (lrcS b)) % 256))<|?_
 have U23:=ut0 (Upd.refl [] _) hj21
 exact ⟨rfl,U23⟩
theorem lrcof_any {m:Bool} {v:Value} {b:List Int} {w:World} (h:RdB m w v b) : Calls Tryz.prog 178 #[v] w (PVal (.int .u8 (lrcOf b)) w):=by
  obtain ⟨A,cp,rfl,_,_⟩:=h.shape
  exact lrcof_any0 h
set_option maxRecDepth 100000 in
set_option maxHeartbeats 4000000 in
theorem lrcis_any0 {m:Bool} {A:Option Addr} {cp:Nat} {b:List Int} {w:World} (hsl:RdB m w (.slice A b.length cp) b) :
    Calls Tryz.prog 175 #[.slice A b.length cp] w (PVal (.bool (lrcIs b)) w):=by
 refine en 11 Tryz.func175 rfl<|sg<|Pl 1<|ng<|Pl 4<|bl 6 ((decide (0 < ((b.length:Nat) : Int)))) (fun q10=>?_) (fun q10=>?_)
 have q10p:=of_decide_eq_true q10
 refine Pl 1<|L1<|Oc (args:=#[.slice A b.length cp])<|m1 (lrcof_any hsl) fun w11 hu12=>Pl 3<|nt<|rt<|rr (.bool ((lrcOf b) == 0))<|?_
 have hs:lrcIs b=((lrcOf b) == 0):=by unfold lrcIs; (try simp only [q10,bs,if_true,if_false,decide_true,decide_false]); all_goals rfl
 rw [hs]
 exact ⟨rfl,hu12⟩
 have q10p:=of_decide_eq_false q10
 refine Pl 5<|nt<|rt<|rr (.bool false)<|?_
 have hs:lrcIs b=false:=by unfold lrcIs; (try simp only [q10,bs,if_true,if_false,decide_true,decide_false]); all_goals rfl
 rw [hs]
 exact ⟨rfl,(Upd.refl [] _)⟩
theorem lrcis_any {m:Bool} {v:Value} {b:List Int} {w:World} (h:RdB m w v b) : Calls Tryz.prog 175 #[v] w (PVal (.bool (lrcIs b)) w):=by
  obtain ⟨A,cp,rfl,_,_⟩:=h.shape
  exact lrcis_any0 h
open Go.RowKit
theorem bld_info:∃ j,Tryz.prog.info? 236=some j∧j.size=2:=Option.map_eq_some_iff.1 (show (Tryz.prog.info? 236).map (·.size)=some 2 by kernel_rfl)
set_option maxHeartbeats 1000000 in
set_option maxRecDepth 100000 in
theorem copyck_fresh (b:Nat) (w:World) (h0:w.cell? ⟨b,0,none⟩=some (.pointer none)) (hsh:w.shape? b=some (236,2)) (hfz:w.frozen? ⟨b,0,none⟩=false) :
    Calls Tryz.prog 204 #[.pointer (some ⟨b,0,none⟩)] w fun e w'=>e = .returned (.tuple #[])∧w'=w.setCell ⟨b,0,none⟩ (.pointer (some ⟨b,0,none⟩)):=by
  obtain ⟨j,hj,hjs⟩:=bld_info
  go_enter Tryz.func204,Tryz.ntmps204
  go_wp2
  rw [Lib.run_to_unsafe w ⟨b,0,none⟩ Tryz.underlying234 Tryz.underlying240 hj (by rw [hjs]; decide) hsh (Nat.zero_lt_succ 1)]
  simp only [Result.andThen]
  rw [Oper.upon_value]
  go_wp2
  rw [run_callFunc_extern Tryz.func205 (by kernel_rfl) (by kernel_rfl) (by kernel_rfl) (e:=Extern.AbiNoEscape.same) (by kernel_rfl)]
  rw [Lib.run_noEscape]
  simp only [Result.andThen]
  rw [Oper.upon_value]
  go_wp2
  rw [Lib.run_from_unsafe w ⟨b,0,none⟩ Tryz.underlying240 Tryz.underlying234 hj hsh (by kernel_rfl)]
  simp only [Result.andThen]
  rw [Oper.upon_value]
  go_wp2
  go_end0
  exact ⟨rfl,rfl⟩
set_option maxHeartbeats 1000000 in
set_option maxRecDepth 100000 in
theorem copyck_used (b:Nat) (w:World) (h0:w.cell? ⟨b,0,none⟩=some (.pointer (some ⟨b,0,none⟩))) :
    Calls Tryz.prog 204 #[.pointer (some ⟨b,0,none⟩)] w fun e w'=>e = .returned (.tuple #[])∧w'=w:=by
  obtain ⟨j,hj,_⟩:=bld_info
  go_enter Tryz.func204,Tryz.ntmps204
  go_wp2
  rw [Lib.run_neq_ptr_same w _ Tryz.underlying234 hj]
  go_wp2
  go_end0
  exact ⟨rfl,rfl⟩
theorem copyck_any {w:World} {b:Nat} {p v:Value} (hp:p = .pointer none∨p = .pointer (some ⟨b,0,none⟩)) (hb:w.heap[b]? = some (.cells #[p,v] 236 (0,0))) :
    Calls Tryz.prog 204 #[.pointer (some ⟨b,0,none⟩)] w fun e w'=>e = .returned (.tuple #[])∧w'.heap[b]? = some (.cells #[.pointer (some ⟨b,0,none⟩),v] 236 (0,0))∧Upd [b] w w':=by
  have h0:w.cell? ⟨b,0,none⟩=some p:=(blk_cell hb 0).trans rfl
  rcases hp with rfl | rfl
  · refine (copyck_fresh b w h0 (by simp [World.shape?,hb]) (blk_frozen hb 0)).mono ?_
    rintro e w' ⟨rfl,rfl⟩
    exact ⟨rfl,(blk_set hb 0 _).trans rfl,(Upd.refl _ _).setCell (Or.inl (by simp)) _⟩
  · refine (copyck_used b w h0).mono ?_
    rintro e w' ⟨rfl,rfl⟩
    exact ⟨rfl,hb,Upd.refl _ _⟩
def hexA:Array Value:=#[.int .u8 48,.int .u8 49,.int .u8 50,.int .u8 51,.int .u8 52,.int .u8 53,.int .u8 54,.int .u8 55,.int .u8 56,.int .u8 57,.int .u8 65,.int .u8 66,.int .u8 67,.int .u8 68,.int .u8 69,.int .u8 70]
theorem hexA_at:∀ {j:Nat},j < 16→hexA[j]? = some (.int .u8 (hexD (j:Int)))
  | 0,_ | 1,_ | 2,_ | 3,_ | 4,_ | 5,_ | 6,_ | 7,_ | 8,_ | 9,_ | 10,_ | 11,_ | 12,_ | 13,_ | 14,_ | 15,_=>rfl
  | n + 16,h=>by omega
theorem hexA_nat {i:Int} (h:0≤i∧i < 16) : hexA[i.toNat]? = some (.int .u8 (hexD i)):=by
  rw [hexA_at (by omega),Int.toNat_of_nonneg h.1]
theorem run_idxh {P:Program} {w:World} {ev:Operand→Value} {o:Oper} {x ix:Operand} {t e:TypeId} {k:IntKind} {i:Int} (j:Nat) (ho:o.op = .index t x ix) (ht:P.underlying t=some (.array 16 e)) (hi:(P.info? e).map (·.size)=some 1) (hr:∀ w,(isAgg e).run P w = .ok false w) (hx:ev x = .agg hexA) (hy:ev ix = .int k i) (hj:i=(j:Int)) (hlt:j < 16) : (execOp ev o).run P w = .ok (.value (.int .u8 (hexD (j:Int)))) w:=by
  subst hj
  obtain ⟨i0,hi0,hs⟩:=Option.map_eq_some_iff.1 hi
  have h:=hexA_at hlt
  unfold execOp
  have h2:(0:Int)≤(j:Int)∧(j:Int) < 16:=by omega
  simp [ho,hx,hy,Instr.index,asIntOf,run_underlying ht,Result.andThen,h2,sizeOf,typeInfo,hi0,hs,part,h,hr,hlt]
def Bld (B b:Nat) (L:List Int) (w:World) : Prop:=∃ p A cp,w.heap[b]? = some (.cells #[p,.slice A L.length cp] 236 (0,0))∧(p = .pointer none∨p = .pointer (some ⟨b,0,none⟩))∧OwnB B w (.slice A L.length cp) L
theorem Bld.new {B b:Nat} {w:World} (hb:w.heap[b]? = some (.cells #[.pointer none,.slice none 0 0] 236 (0,0))) : Bld B b [] w:=⟨_,_,_,hb,.inl rfl,OwnG.nil ..⟩
def bren:Go.Shelf.Ren:=⟨fun | 169=>203 | n=>n,fun | 70=>234 | 9=>9 | 0=>0 | 72=>236 | 37=>27 | 127=>207 | 3=>3 | 5=>5 | n=>n,fun | n=>n⟩
theorem blays:Go.Proofs.Lays.n169 Tryz.prog bren:={
  mixed:=by kernel_rfl
  f169:=Tryz.func203.trans (congrArg some (by kernel_rfl))
  t0:=Tryz.underlying0
  a0:=Tryz.isAgg0
  z0:=Tryz.sizeOf0
  v0:=Tryz.zeroValue0
  t3:=Tryz.underlying3
  a3:=Tryz.isAgg3
  z3:=Tryz.sizeOf3
  v3:=Tryz.zeroValue3
  t9:=Tryz.underlying9
  a9:=Tryz.isAgg9
  z9:=Tryz.sizeOf9
  v9:=Tryz.zeroValue9
  t37:=Tryz.underlying27
  a37:=Tryz.isAgg27
  z37:=Tryz.sizeOf27
  v37:=Tryz.zeroValue27
  t70:=Tryz.underlying234
  a70:=Tryz.isAgg234
  z70:=Tryz.sizeOf234
  v70:=Tryz.zeroValue234
  t72:=Tryz.underlying236
  a72:=Tryz.isAgg236
  z72:=Tryz.sizeOf236
  v72:=Tryz.zeroValue236
  t127:=Tryz.underlying207
  a127:=Tryz.isAgg207
  z127:=Tryz.sizeOf207
  v127:=Tryz.zeroValue207 }
theorem bextra:Builder.Extra Tryz.prog bren:={
  sizeBuilder:=by kernel_rfl
  liesBuilder:=by kernel_rfl
  t5:=Tryz.underlying5
  a5:=Tryz.isAgg5
  z5:=Tryz.sizeOf5
  v5:=Tryz.zeroValue5
  infoByte:=by kernel_rfl
  cellsByte:=by kernel_rfl
  sizeByte:=by kernel_rfl
  neB5:=by decide }
theorem bytecells {L:List Int} (h:Byts L) : Lib.byteCells (L.map fun n=>UInt8.ofNat n.toNat)=L.map (Value.int .u8):=by
  unfold Lib.byteCells
  rw [List.map_map]
  apply List.map_congr_left
  intro x hx
  show Value.int .u8 _=_
  rw [u8_back (h x hx)]
theorem bld_string {w0 w:World} {b:Nat} {L:List Int} (hu:Upd [] w0 w) (hg:w0.heap.size≤b) (h:Bld w0.heap.size b L w) (hr:Byts L) :
    Calls Tryz.prog 203 #[.pointer (some ⟨b,0,none⟩)] w fun e w'=>e = .returned (.string (strOfNums L))∧Upd [] w0 w':=by
  obtain ⟨p,A,cp,hb,hp,ho⟩:=h
  have h1:=row_of_own (enc:=Value.int .u8) (fun _ _ _ h=>h.1) ho
  have h2:Lib.BuilderAt 236 5 w0.heap.size b p (Lib.byteCells (L.map fun n=>UInt8.ofNat n.toNat)) w:=by
    rw [bytecells hr]
    refine ⟨hg,_,hb,by rw [List.length_map]; exact h1,fun hq=>?_⟩
    rcases h1.2 with ⟨hv,_⟩ | ⟨g',cap,cur,hv,_,hh,_⟩
    · rw [hv] at hq; cases hq
    · rw [hv] at hq
      have e:g'=b:=by simpa [Value.ownBlock] using hq
      subst e
      rw [hb] at hh
      injection hh with hh
      injection hh with _ h5 _
      exact absurd h5 (by decide)
  have h3:Lib.IsBuilder (bren.t 72) (bren.t 5) w0.heap.size b (Lib.byteCells (L.map fun n=>UInt8.ofNat n.toNat)) w:=by
    rcases hp with rfl | rfl
    · exact Or.inl h2
    · exact Or.inr h2
  refine (Any.Builder_String_any blays bextra _ _ _ _ h3 hu.size).mono ?_
  rintro e w' ⟨rfl,hbel⟩
  exact ⟨rfl,hu.os ▸ hbel.os,hu.tape ▸ hbel.tape,hu.output ▸ hbel.output,Nat.le_trans hu.size hbel.size,fun k hk hn=>(hbel.block k hk).trans (hu.block k hk hn)⟩
open Go.RowKit
set_option maxRecDepth 100000 in
set_option maxHeartbeats 4000000 in
theorem digits_any {w:World}:Calls Tryz.prog 180 #[] w (PVal (.agg hexA) w):=by
 refine en 2 Tryz.func180 rfl<|sg<|L0<|Oal #[.int .u8 0,.int .u8 0,.int .u8 0,.int .u8 0,.int .u8 0,.int .u8 0,.int .u8 0,.int .u8 0,.int .u8 0,.int .u8 0,.int .u8 0,.int .u8 0,.int .u8 0,.int .u8 0,.int .u8 0,.int .u8 0] fun g10 w11 hg12 B13 hu14=>ng<|Pl 1<|L0<|Osw B13 #[.int .u8 48,.int .u8 49,.int .u8 50,.int .u8 51,.int .u8 52,.int .u8 53,.int .u8 54,.int .u8 55,.int .u8 56,.int .u8 57,.int .u8 65,.int .u8 66,.int .u8 67,.int .u8 68,.int .u8 69,.int .u8 70] fun w15 B16 hu17=>nt<|rt<|rc1 B16<|?_
 have U18:=u1 hu14 hu17 (nr hg12)
 exact ⟨rfl,U18⟩
theorem dig_next {c:Int} {n:Nat} (h:∀ j:Nat,j < n→hexD (j:Int) ≠ c) (q:(hexD ((n:Nat) : Int) == c)=false) : ∀ j:Nat,j < n + 1→hexD (j:Int) ≠ c:=fun j hj=>by
  by_cases e:j=n
  · subst e; simpa using q
  · exact h j (by omega)
theorem dig_at {c:Int} {n:Nat} (hn:n < 16) (q:(hexD ((n:Nat) : Int) == c)=true) : digV c=((n:Nat) : Int):=by
  have e:hexD ((n:Nat) : Int)=c:=by simpa using q
  rw [← e]
  exact digV_hexD (by omega)
theorem dig_none {c:Int} {n:Nat} (hn:n=16) (h:∀ j:Nat,j < n→hexD (j:Int) ≠ c) : digV c = -1:=by
  by_cases e:0≤digV c
  · have h1:=hexD_digV e
    exact absurd (by rw [Int.toNat_of_nonneg e]; exact h1.1) (h (digV c).toNat (by omega))
  · have:=digV_lt c
    omega
set_option maxRecDepth 100000 in
set_option maxHeartbeats 4000000 in
theorem digit_any {w:World} {c:Int} (hc:0≤c∧c < 256) : Calls Tryz.prog 177 #[.int .u8 c] w (PVal (.int .i64 (digV c)) w):=by
 refine en 15 Tryz.func177 rfl<|sg<|Pl 1<|nt<|sq<|sg<|L0<|Oc<|m1 (@digits_any w) fun w10 hu11=>Pl 1<|nt<|bk<|?_
 refine glp (fun x=>[(0,.int .u8 c),(5,.agg hexA),(6,.int .i64 ((x:Nat) : Int))]) (fun (x:Nat) w'=>Upd [] w10 w'∧(x≤16)∧(∀ j:Nat,j < x→hexD (j:Int) ≠ c)) (fun x=>16 - x) 0 ⟨Upd.refl _ _,(by (try dsimp only); omega),(fun j hj=>by omega)⟩ ?_
 rintro n w12 ⟨hu13,p14,p15⟩
 refine wkc [(0,.int .u8 c),(5,.agg hexA),(6,.int .i64 ((n:Nat) : Int))] ?_
 have p17:n≤16:=p14
 have p18:∀ j:Nat,j < n→hexD (j:Int) ≠ c:=p15
 refine sg<|Pl 1<|nt<|sq<|?_
 have U19:=ut0 hu11 hu13
 refine cb ((decide (((n:Nat) : Int) < 16))) (fun q20=>?_) (fun q20=>?_)
 have q20p:=of_decide_eq_true q20
 refine skn<|sq<|bk<|sg<|Pl 1<|L0<|Or_ (.int .u8 (hexD ((n:Nat) : Int))) (run_idxh (k:=.i64) (i:=((n:Nat) : Int)) n rfl Tryz.underlying226 (by kernel_rfl) Tryz.isAgg5 (by kernel_rfl) (by kernel_rfl) rfl (by omega))<|Pl 2<|ng<|Pl 3<|nl<|?_
 refine tn<|cb (((hexD ((n:Nat) : Int)) == c)) (fun q21=>?_) (fun q21=>?_)
 have q21p:=eq_of_beqi q21
 refine sg<|Pl 2<|nt<|rt<|br<|tr<|tr<|br<|tr<|rr (.int .i64 ((n:Nat) : Int))<|?_
 have hs:digV c=((n:Nat) : Int):=dig_at (by omega) q21
 rw [hs]
 exact ⟨rfl,U19⟩
 have q21p:=ne_of_beqi q21
 exact sk<|bn<|tn<|go<|L0<|Oi (((n:Nat) : Int) + 1)<|Pl 1<|nl<|lpe (n + 1) ⟨hu13,(by (try dsimp only); omega),(dig_next p18 q21)⟩ (by omega)
 have q20p:=of_decide_eq_false q20
 refine xt<|tx<|tx<|bx<|tn<|sg<|Pl 1<|nt<|rt<|rr (.int .i64 (-1))<|?_
 have hs:digV c = -1:=dig_none (n:=n) (by omega) p18
 rw [hs]
 exact ⟨rfl,U19⟩
set_option maxRecDepth 100000 in
set_option maxHeartbeats 4000000 in
theorem bld_write {w0 w:World} {b gd:Nat} {L:List Int} {c:Int} (hu0:Upd [] w0 w) (hg0:w0.heap.size≤b) (hg1:w0.heap.size≤gd) (h:Bld w0.heap.size b L w) (hd:w.heap[gd]? = some (.cells hexA 226 (0,0))) (hne:gd ≠ b) (hc:0≤c∧c < 256) (hl:L.length≤1048576) :
    Calls Tryz.prog 202 #[.pointer (some ⟨b,0,none⟩),.int .u8 c] w (fun e w'=>e = .returned .nilIface∧Bld w0.heap.size b (L++[c]) w'∧w'.heap[gd]? = some (.cells hexA 226 (0,0))∧Upd [] w0 w'∧w.heap.size≤w'.heap.size):=by
 obtain ⟨p,A,cp,hb,hp,ho⟩:=h
 refine en 17 Tryz.func202 rfl<|sg<|Pl 1<|ng<|Pl 1<|L0<|Oc<|m2 (copyck_any hp hb) fun w10 B11 hu12=>ng<|?_
 refine Pl 4<|L0<|Olb B11 1<|Pl 1<|L0<|Olt (m:=1) (e:=5) #[.int .u8 c] fun g13 w14 hg15 B16 hu17=>?_
 have ow18:=litB hg15 (xs:=[c]) (by as_aux_lemma=>kernel_rfl) (rng_cons (by omega) rng_nil) (by (try simp only [List.length_cons,List.length_nil]); omega) B16
 have U19:=ut0 hu12 hu17
 have r20:=own_stay ho U19 (fun x hx=>(not_cons (fun e=>(not_type hb ho (by decide)) (e ▸ hx)) not0)) (fun _ _ h=>h)
 refine L0<|Oapp one_u8 (xs:=L) (ys:=([c])) (.int .u8 0) 1 r20 (ow18).rd (by (try simp only [List.length_append,List.length_cons,List.length_nil,putW_length]); omega) (le (le hu0.size hu12.size) hu17.size) fun A21 cp22 w23 ho24 hu25=>Pl 2<|?_
 have U26:=ut (Upd.mono (S':=(ob A++[])) hu17 all0) hu25 (all_app (fun x hx=>Or.inl (by simp [hx])) all0)
 have r27:=own_stay ho hu12 (fun x hx=>(not_cons (fun e=>(not_type hb ho (by decide)) (e ▸ hx)) not0)) (fun _ _ h=>h)
 have r28:=Upd.blk U26 (not_app (not_type B11 r27 (by decide)) not0) B11
 refine L0<|Ost r28 1 #[.pointer (some ⟨b,0,none⟩),.slice A21 ((L++[c]).length) cp22] fun w29 B30 hu31=>ng<|Pl 1<|nt<|rt<|rr (.nilIface)<|?_
 have r32:=own_stay ho24 hu31 (fun x hx=>(not_cons (fun e=>(not_type r28 ho24 (by decide)) (e ▸ hx)) not0)) (fun _ _ h=>h)
 have U33:=ut (Upd.mono (S':=(b :: (ob A++[]))) U19 (ac im all0)) hu25 (all_app (fun x hx=>Or.inl (by simp [hx])) all0)
 have U34:=u1 U33 hu31 im
 have r35:=Upd.blk U34 (not_cons hne (not_app (not_type hd ho (by decide)) not0)) hd
 have U36:=u1 hu0 hu12 (nr hg0)
 have U37:=ut0 U36 hu17
 have U38:=ut U37 hu25 (all_app (ob_new ho lr) all0)
 have U39:=u1 U38 hu31 (nr hg0)
 exact ⟨rfl,⟨_,A21,cp22,B30,.inr rfl,r32⟩,r35,U39,U34.size⟩
open Go.RowKit
theorem putH_byts {b:List Int} (h:Byts b) : Byts (putH b):=by
  induction b with
  | nil=>exact h
  | cons c b ih =>
    have hc:=h c (List.mem_cons_self ..)
    have h1:=hexD_rng (n:=c / 16) (by omega)
    have h2:=hexD_rng (n:=c % 16) (by omega)
    intro x hx
    rcases List.mem_cons.1 hx with rfl | hx
    · omega
    rcases List.mem_cons.1 hx with rfl | hx
    · omega
    · exact ih (fun y hy=>h y (List.mem_cons_of_mem _ hy)) x hx
set_option maxRecDepth 100000 in
set_option maxHeartbeats 4000000 in
theorem hput_any0 {m:Bool} {A:Option Addr} {cp:Nat} {b:List Int} {w:World} (hsl:RdB m w (.slice A b.length cp) b) (hl:b.length≤1024) :
    Calls Tryz.prog 201 #[.slice A b.length cp] w (PVal (.string (strOfNums (putH b))) w):=by
 have hb:=RdB.range hsl
 refine en 26 Tryz.func201 rfl<|sg<|Pl 1<|ng<|L0<|Oal #[.pointer none,.slice none 0 0] fun g10 w11 hg12 B13 hu14=>ng<|L0<|Oc<|m1 (@digits_any w11) fun w15 hu16=>?_
 refine L0<|Oal #[.int .u8 0,.int .u8 0,.int .u8 0,.int .u8 0,.int .u8 0,.int .u8 0,.int .u8 0,.int .u8 0,.int .u8 0,.int .u8 0,.int .u8 0,.int .u8 0,.int .u8 0,.int .u8 0,.int .u8 0,.int .u8 0] fun g17 w18 hg19 B20 hu21=>L0<|Osw (hz:=(by kernel_rfl)) (hv:=rfl) (h1:=(by kernel_rfl)) B20 (hexA) fun w22 B23 hu24=>nt<|sq<|sg<|Pl 3<|nt<|bk<|?_
 have U25:=ut0 hu16 hu21
 have U26:=u1 U25 hu24 (ni hu16.size hg19)
 have r27:=ub U26 B13
 have ne28:=nb (blk_lt B13) hu16.size hg19
 have U29:=ut0 hu14 hu16
 have U30:=ut0 U29 hu21
 have U31:=u1 U30 hu24 (ni U29.size hg19)
 refine glp (fun x=>[(2,.string ⟨#[]⟩),(3,.pointer (some ⟨g10,0,none⟩)),(4,.pointer (some ⟨g17,0,none⟩)),(8,.slice A b.length cp),(9,.int .i64 ((b.length:Nat) : Int)),(10,.int .i64 ((x:Nat) : Int))]) (fun (x:Nat) w'=>Upd [] w w'∧w22.heap.size≤w'.heap.size∧Bld w.heap.size g10 (putH (b.take x)) w'∧w'.heap[g17]? = some (.cells hexA 226 (0,0))∧(x≤b.length)) (fun x=>b.length - x) 0 ⟨U31,lr,(by simpa [putH] using Bld.new r27),B23,(by (try dsimp only); omega)⟩ ?_
 rintro k w32 ⟨hu33,hz37,f34,f35,p36⟩
 refine wkc [(2,.string ⟨#[]⟩),(3,.pointer (some ⟨g10,0,none⟩)),(4,.pointer (some ⟨g17,0,none⟩)),(8,.slice A b.length cp),(9,.int .i64 ((b.length:Nat) : Int)),(10,.int .i64 ((k:Nat) : Int))] ?_
 have f38:Bld w.heap.size g10 (putH (b.take k)) w32:=f34
 have f39:w32.heap[g17]? = some (.cells hexA 226 (0,0)):=f35
 have p40:k≤b.length:=p36
 refine sg<|Pl 1<|nt<|sq<|?_
 have U41:=ut0 (Upd.refl [] _) hu33
 refine cb ((decide (((k:Nat) : Int) < ((b.length:Nat) : Int)))) (fun q42=>?_) (fun q42=>?_)
 have q42p:=of_decide_eq_true q42
 refine skn<|sq<|bk<|sg<|?_
 have r43:=RdB.old hsl U41
 refine x23 (RdB.at_ r43 k (by omega)) fun b44 o45 hA46 hl47 hr48=>L0<|Oix b.length k hA46 (by omega)<|L0<|Old (p:=⟨b44,o45 + k,none⟩) (v:=.int .u8 (b.getD k 0)) hl47<|Pl 1<|ng<|Pl 1<|L0<|Oe (.int .u8 (Int.fdiv (b.getD k 0) (2 ^ 4))) (.int .u8 ((b.getD k 0) / 16)) (congrArg (Value.int .u8) (shr_lit _ _ _ (by decide)))<|L0<|Oia (b:=g17) (off:=0) 16 ((((b.getD k 0) / 16)).toNat) ((b.getD k 0) / 16) (by omega) (by omega)<|?_
 have hl49:=hexD_rng (n:=((b.getD k 0) / 16)) (by omega)
 refine L0<|Old (p:=⟨g17,0 + (((b.getD k 0) / 16)).toNat,none⟩) (v:=.int .u8 (hexD (((b.getD k 0) / 16)))) (blk_at f39 (by rw [Nat.zero_add,hexA_nat (by omega)]))<|L0<|Oc<|m4 (bld_write (c:=(hexD ((b.getD k 0) / 16))) U41 hg12 (Nat.le_trans (le hu14.size hu16.size) hg19) f38 f39 (Ne.symm ne28) (by omega) (by rw [putH_len,List.length_take]; omega)) fun w50 hb51 B52 hj53 hz54=>nt<|go<|Pl 1<|L0<|Oe (.int .u8 (Int.tmod (b.getD k 0) 16)) (.int .u8 ((b.getD k 0) % 16)) (congrArg (Value.int .u8) (Int.tmod_eq_emod_of_nonneg (by omega)))<|L0<|Oia (b:=g17) (off:=0) 16 ((((b.getD k 0) % 16)).toNat) ((b.getD k 0) % 16) (by omega) (by omega)<|?_
 have hl55:=hexD_rng (n:=((b.getD k 0) % 16)) (by omega)
 refine L0<|Old (p:=⟨g17,0 + (((b.getD k 0) % 16)).toNat,none⟩) (v:=.int .u8 (hexD (((b.getD k 0) % 16)))) (blk_at B52 (by rw [Nat.zero_add,hexA_nat (by omega)]))<|?_
 have U56:=ut0 (Upd.refl [] _) hj53
 refine L0<|Oc<|m4 (bld_write (c:=(hexD ((b.getD k 0) % 16))) U56 hg12 (Nat.le_trans (le hu14.size hu16.size) hg19) hb51 B52 (Ne.symm ne28) (by omega) (by rw [List.length_append,putH_len,List.length_take]; simp only [List.length_cons,List.length_nil]; omega)) fun w57 hb58 B59 hj60 hz61=>nl<|bn<|tn<|go<|L0<|Oi (((k:Nat) : Int) + 1)<|Pl 1<|nl<|?_
 have U62:=ut0 (Upd.refl [] _) hj60
 exact lpe (k + 1) ⟨U62,(le (le hz37 hz54) hz61),(by rw [putH_snoc _ _ (by omega)]; exact hb58),B59,(by (try dsimp only); omega)⟩ (by omega)
 have q42p:=of_decide_eq_false q42
 refine xt<|tx<|tx<|bx<|tn<|sg<|?_
 have hk63:k=b.length:=by omega
 have hbl:=f38
 rw [hk63,List.take_length] at hbl
 have hbr:Byts (putH b):=putH_byts hb
 refine L0<|Oc<|m1 (bld_string U41 hg12 hbl hbr) fun w64 hj65=>Pl 1<|nt<|rt<|rr (.string (strOfNums (putH b)))<|?_
 have U66:=ut0 (Upd.refl [] _) hj65
 exact ⟨rfl,U66⟩
theorem hput_any {m:Bool} {v:Value} {b:List Int} {w:World} (h:RdB m w v b) (hl:b.length≤1024) : Calls Tryz.prog 201 #[v] w (PVal (.string (strOfNums (putH b))) w):=by
  obtain ⟨A,cp,rfl,_,_⟩:=h.shape
  exact hput_any0 h hl
def PTakeH (xs:List Int) (w:World) (e:Ending) (w':World) : Prop:=match takeH xs with
  | some l=>∃ v,e = .returned (.tuple #[v,.int .i64 0])∧OwnB w.heap.size w' v l∧Upd [] w w'
  | none=>e = .returned (.tuple #[.slice none 0 0,.int .i64 11])∧Upd [] w w'
theorem htake_s {xs l:List Int} {w w':World} {e:Ending} (h:takeH xs=some l) (k:∃ v,e = .returned (.tuple #[v,.int .i64 0])∧OwnB w.heap.size w' v l∧Upd [] w w') : PTakeH xs w e w':=by
  unfold PTakeH
  rw [h]
  exact k
theorem htake_n {xs:List Int} {w w':World} {e:Ending} (h:takeH xs=none) (k:e = .returned (.tuple #[.slice none 0 0,.int .i64 11])∧Upd [] w w') : PTakeH xs w e w':=by
  unfold PTakeH
  rw [h]
  exact k
set_option maxRecDepth 100000 in
set_option maxHeartbeats 4000000 in
theorem htake_any {xs:List Int} {w:World} (hr:Byts xs) (hl:xs.length≤1048576) :
    Calls Tryz.prog 174 #[.string (strOfNums xs)] w (PTakeH xs w):=by
 refine en 42 Tryz.func174 rfl<|sg<|Pl 2<|nt<|sq<|sg<|Pl 1<|L0<|Oe (.int .i64 (((strOfNums xs).size:Nat) : Int)) (.int .i64 ((xs.length:Nat) : Int)) (by rw [strOfNums_size])<|L0<|Oe (.int .i64 (Int.tmod ((xs.length:Nat) : Int) 2)) (.int .i64 (((xs.length:Nat) : Int) % 2)) (congrArg (Value.int .i64) (Int.tmod_eq_emod_of_nonneg (by omega)))<|Pl 1<|nl<|?_
 refine tn<|cb (((((xs.length:Nat) : Int) % 2) != 0)) (fun q10=>?_) (fun q10=>?_)
 have q10p:=ne_of_bnei q10
 refine sg<|Pl 2<|nt<|rt<|tr<|rr (.tuple #[.slice none 0 0,.int .i64 11])<|?_
 have hs:takeH xs=none:=takeH_odd (by omega)
 exact htake_n hs ⟨rfl,(Upd.refl [] _)⟩
 have q10p:=eq_of_bnei q10
 refine skn<|sg<|Pl 1<|nt<|sq<|sg<|Pl 1<|nt<|bk<|?_
 refine glp (fun x=>[(0,.string (strOfNums xs)),(4,.slice x.2.2.1 x.2.1.length x.2.2.2),(5,.int .i64 ((2 * x.1:Nat) : Int))]) (fun (x:Nat × List Int × Option Addr × Nat) w'=>Upd [] w w'∧OwnB w.heap.size w' (.slice x.2.2.1 x.2.1.length x.2.2.2) x.2.1∧(2 * x.1≤xs.length)∧(takeH xs=(takeH (xs.drop (2 * x.1))).map fun l=>x.2.1++l)∧(x.2.1.length=x.1)) (fun x=>xs.length - 2 * x.1) (0,[],none,0) ⟨Upd.refl _ _,(OwnG.nil w.heap.size _ _ u8R _),(by (try dsimp only); omega),(by (try dsimp only); simp),(by (try dsimp only); rfl)⟩ ?_
 rintro ⟨k,L,B,cq⟩ w11 ⟨hu12,f13,p14,p15,p16⟩
 refine wkc [(0,.string (strOfNums xs)),(4,.slice B L.length cq),(5,.int .i64 ((2 * k:Nat) : Int))] ?_
 have f18:OwnB w.heap.size w11 (.slice B L.length cq) L:=f13
 have p19:2 * k≤xs.length:=p14
 have p20:takeH xs=(takeH (xs.drop (2 * k))).map fun l=>L++l:=p15
 have p21:L.length=k:=p16
 have hL:takeH xs=(takeH (xs.drop (2 * k))).map fun l=>L++l:=by assumption
 refine sq<|sg<|Pl 2<|L0<|Oe (.int .i64 (((strOfNums xs).size:Nat) : Int)) (.int .i64 ((xs.length:Nat) : Int)) (by rw [strOfNums_size])<|Pl 1<|nt<|cb ((decide (((2 * k:Nat) : Int) < ((xs.length:Nat) : Int)))) (fun q22=>?_) (fun q22=>?_)
 have q22p:=of_decide_eq_true q22
 refine skn<|sq<|bk<|sq<|Rg 11 (fun w'=>True) fun w29 hu30=>hld trivial fun hS31=>Rt 0 hS31<|Rt 1 hS31<|Rr 2 hS31 (.int .u8 (xs.getD (2 * k) 0)) (fun _ _=>run_idxs (xs:=xs) (k:=.i64) (i:=((2 * k:Nat) : Int)) (2 * k) rfl Tryz.underlying9 (by kernel_rfl) (by kernel_rfl) hr rfl (by omega))<|Rt 4 hS31<|Rt 5 hS31<|Rr 6 hS31 (.int .i64 (((2 * k:Nat) : Int) + 1)) (fun _ _=>run_eqo (.int .i64 (IntKind.i64.wrap (((2 * k:Nat) : Int) + 1))) (by kernel_rfl) (congrArg (Value.int .i64) (IntWalk.i64_in _ (by omega))))<|Rr 7 hS31 (.int .u8 (xs.getD ((((2 * k:Nat) : Int) + 1)).toNat 0)) (fun _ _=>run_idxs (xs:=xs) (k:=.i64) (i:=(((2 * k:Nat) : Int) + 1)) ((((2 * k:Nat) : Int) + 1)).toNat rfl Tryz.underlying9 (by kernel_rfl) (by kernel_rfl) hr (by omega) (by omega))<|?_
 have hd32:=digV_lt (xs.getD (2 * k) 0)
 refine R0 3 rfl<|Oc<|m1 (digit_any (c:=(xs.getD (2 * k) 0)) (w:=_) (getD_rng (by omega) hr _)) fun w33 hu34=>hld trivial fun hS35=>?_
 have hd36:=digV_lt (xs.getD ((((2 * k:Nat) : Int) + 1)).toNat 0)
 refine R0 8 rfl<|Oc<|m1 (digit_any (c:=(xs.getD ((((2 * k:Nat) : Int) + 1)).toNat 0)) (w:=_) (getD_rng (by omega) hr _)) fun w37 hu38=>hld trivial fun hS39=>Rt 9 hS39<|Rt 10 hS39<|re<|tn<|sq<|sg<|Pl 3<|cu 3 [29] 32 (((decide ((digV (xs.getD (2 * k) 0)) < 0)) || (decide ((digV (xs.getD ((((2 * k:Nat) : Int) + 1)).toNat 0)) < 0)))) (fun K K41=>?_) ?_
 refine bl 29 ((decide ((digV (xs.getD (2 * k) 0)) < 0))) (fun q40=>?_) (fun q40=>?_)
 have q40p:=of_decide_eq_true q40
 exact Pl 3<|ce K41 true (by rw [q40]; rfl)
 have q40p:=of_decide_eq_false q40
 exact Pl 3<|ce K41 (decide ((digV (xs.getD ((((2 * k:Nat) : Int) + 1)).toNat 0)) < 0)) (by rw [q40]; rfl)
 refine nt<|?_
 have U42:=ut0 hu12 hu30
 have U43:=ut0 U42 hu34
 have U44:=ut0 U43 hu38
 refine cb (((decide ((digV (xs.getD (2 * k) 0)) < 0)) || (decide ((digV (xs.getD ((((2 * k:Nat) : Int) + 1)).toNat 0)) < 0)))) (fun q45=>?_) (fun q45=>?_)
 refine sg<|Pl 2<|nt<|rt<|tr<|br<|tr<|tr<|br<|tr<|rr (.tuple #[.slice none 0 0,.int .i64 11])<|?_
 have hs:takeH xs=none:=takeH_no (k:=k) hL (by omega) (by have q:=q45; simp only [Bool.or_eq_true,decide_eq_true_eq] at q; rw [show 2 * k + 1=(((2 * k:Nat) : Int) + 1).toNat from by omega]; exact q)
 exact htake_n hs ⟨rfl,U44⟩
 have q45a:=(or_f q45).1
 have q45b:=(or_f q45).2
 have q45ap:=of_decide_eq_false q45a
 have q45bp:=of_decide_eq_false q45b
 refine skn<|go<|Pl 2<|L0<|Oi (16 * (digV (xs.getD (2 * k) 0)))<|Pl 1<|L0<|Oi ((16 * (digV (xs.getD (2 * k) 0))) + (digV (xs.getD ((((2 * k:Nat) : Int) + 1)).toNat 0)))<|Pl 1<|L0<|Olt (m:=1) (e:=5) #[.int .u8 (((16 * (digV (xs.getD (2 * k) 0))) + (digV (xs.getD ((((2 * k:Nat) : Int) + 1)).toNat 0))) % 256)] fun g46 w47 hg48 B49 hu50=>?_
 have ow51:=litB hg48 (xs:=[(((16 * (digV (xs.getD (2 * k) 0))) + (digV (xs.getD ((((2 * k:Nat) : Int) + 1)).toNat 0))) % 256)]) (by as_aux_lemma=>kernel_rfl) (rng_cons (by omega) rng_nil) (by (try simp only [List.length_cons,List.length_nil]); omega) B49
 have U52:=ut0 hu30 hu34
 have U53:=ut0 U52 hu38
 have U54:=ut0 U53 hu50
 have r55:=own_stay f18 U54 (fun x hx=>not0) (fun _ _ h=>h)
 refine L0<|Oapp one_u8 (xs:=L) (ys:=([(((16 * (digV (xs.getD (2 * k) 0))) + (digV (xs.getD ((((2 * k:Nat) : Int) + 1)).toNat 0))) % 256)])) (.int .u8 0) 1 r55 (ow51).rd (by (try simp only [List.length_append,List.length_cons,List.length_nil,putW_length]); omega) (le (le (le (le hu12.size hu30.size) hu34.size) hu38.size) hu50.size) fun A56 cp57 w58 ho59 hu60=>Pl 1<|nl<|bn<|tn<|go<|Pl 1<|L0<|Oi (((2 * k:Nat) : Int) + 2)<|Pl 1<|nl<|?_
 have U61:=ut0 U44 hu50
 have U62:=ut U61 hu60 (all_app (ob_new f18 lr) all0)
 have hq63:=takeH_next (k:=k) hL (by omega) (by omega) (by rw [show 2 * k + 1=(((2 * k:Nat) : Int) + 1).toNat from by omega]; omega)
 rw [show 2 * k + 1=(((2 * k:Nat) : Int) + 1).toNat from by omega] at hq63
 exact lpe ((k + 1),(L++[(((16 * (digV (xs.getD (2 * k) 0))) + (digV (xs.getD ((((2 * k:Nat) : Int) + 1)).toNat 0))) % 256)]),A56,cp57) ⟨U62,ho59,(by (try dsimp only); omega),hq63,(by (try dsimp only); simp only [List.length_append,List.length_cons,List.length_nil]; omega)⟩ (by omega)
 have q22p:=of_decide_eq_false q22
 refine xt<|tx<|tx<|bx<|tn<|sg<|Pl 3<|nt<|rt<|rr (.tuple #[.slice B L.length cq,.int .i64 0])<|?_
 have hs:takeH xs=some L:=takeH_end hL (by omega)
 exact htake_s hs ⟨_,rfl,f18,hu12⟩
open Go.RowKit
def sufB (xs:List Int) : Bool:=decide (2≤((xs.length:Nat) : Int)) && decide (xs.drop (((xs.length:Nat) : Int) - 2).toNat=[13,10])
def digS (b:List Int) : Option (List Int):=if b.getD 0 0=58∧sufB (b.drop 1)=true then some ((b.drop 1).take (b.length - 3)) else none
theorem sufB_len {xs:List Int} (h:sufB xs=true) : 2≤xs.length:=by
  unfold sufB at h
  simp only [Bool.and_eq_true,decide_eq_true_eq] at h
  omega
theorem digS_some {b s:List Int} (h:digS b=some s) : b.getD 0 0=58∧sufB (b.drop 1)=true∧s=(b.drop 1).take (b.length - 3)∧3≤b.length:=by
  unfold digS at h
  split at h
  · rename_i hc
    injection h with h
    have:=sufB_len hc.2
    rw [List.length_drop] at this
    exact ⟨hc.1,hc.2,h.symm,by omega⟩
  · cases h
theorem digS_len {b s:List Int} (h:digS b=some s) : s.length=b.length - 3:=by
  obtain ⟨_,_,rfl,h3⟩:=digS_some h
  rw [List.length_take,List.length_drop]
  omega
def PDig (xs:List Int) (w:World) (e:Ending) (w':World) : Prop:=match digS xs with
  | some l=>e = .returned (.tuple #[.string (strOfNums l),.bool true])∧Upd [] w w'
  | none=>∃ s,e = .returned (.tuple #[.string s,.bool false])∧Upd [] w w'
set_option maxRecDepth 100000 in
set_option maxHeartbeats 4000000 in
theorem hassuf_any {xs:List Int} {w:World} (hr:Byts xs) (hl:xs.length≤1048576) : Calls Tryz.prog 183 #[.string (strOfNums xs),.string ⟨#[13,10]⟩] w (PVal (.bool (sufB xs)) w):=by
 refine en 21 Tryz.func183 rfl<|sg<|Pl 1<|ng<|Pl 1<|L0<|Oe (.int .i64 (((strOfNums xs).size:Nat) : Int)) (.int .i64 ((xs.length:Nat) : Int)) (by rw [strOfNums_size])<|Pl 4<|bl 10 ((decide (2≤((xs.length:Nat) : Int)))) (fun q10=>?_) (fun q10=>?_)
 have q10p:=of_decide_eq_true q10
 refine Pl 2<|L1<|Oe (.int .i64 (((strOfNums xs).size:Nat) : Int)) (.int .i64 ((xs.length:Nat) : Int)) (by rw [strOfNums_size])<|Pl 2<|L1<|Oi (((xs.length:Nat) : Int) - 2)<|?_
 have hz11:Byts (xs.drop ((((xs.length:Nat) : Int) - 2)).toNat):=byts_drop hr ((((xs.length:Nat) : Int) - 2)).toNat
 refine L1<|Or_ (.string (strOfNums (xs.drop ((((xs.length:Nat) : Int) - 2)).toNat))) (run_cutsF (xs:=xs) (k:=.i64) (i:=(((xs.length:Nat) : Int) - 2)) ((((xs.length:Nat) : Int) - 2)).toNat rfl Tryz.underlying9 (by kernel_rfl) (by kernel_rfl) (by omega) (by omega))<|Pl 1<|L1<|Or_ (.bool (decide ((xs.drop ((((xs.length:Nat) : Int) - 2)).toNat)=[13,10]))) (run_strq (a:=(strOfNums (xs.drop ((((xs.length:Nat) : Int) - 2)).toNat))) (b:=⟨#[13,10]⟩) rfl (by kernel_rfl) (by kernel_rfl) (str_eqx (ys:=[13,10]) hz11 (by decide)))<|Pl 2<|nt<|rt<|rr (.bool (decide ((xs.drop ((((xs.length:Nat) : Int) - 2)).toNat)=[13,10])))<|?_
 have hs:sufB xs=(decide ((xs.drop ((((xs.length:Nat) : Int) - 2)).toNat)=[13,10])):=by unfold sufB; (try simp only [q10,bs,if_true,if_false,decide_true,decide_false]); all_goals rfl
 rw [hs]
 exact ⟨rfl,(Upd.refl [] _)⟩
 have q10p:=of_decide_eq_false q10
 refine Pl 11<|nt<|rt<|rr (.bool false)<|?_
 have hs:sufB xs=false:=by unfold sufB; (try simp only [q10,bs,if_true,if_false,decide_true,decide_false]); all_goals rfl
 rw [hs]
 exact ⟨rfl,(Upd.refl [] _)⟩
set_option maxRecDepth 100000 in
set_option maxHeartbeats 4000000 in
theorem cutsuf_t0 {xs:List Int} {w:World} (hr:Byts xs) (hl:xs.length≤1048576) (hq:sufB xs=true) : Calls Tryz.prog 179 #[.string (strOfNums xs),.string ⟨#[13,10]⟩] w (PVal (.tuple #[.string (strOfNums (xs.take (((xs.length:Nat) : Int) - 2).toNat)),.bool true]) w):=by
 have hq2:=sufB_len hq
 refine en 18 Tryz.func179 rfl<|sg<|Pl 2<|nt<|sq<|sg<|Pl 2<|L0<|Oc<|m1 (hassuf_any (xs:=xs) (w:=_) hr (by omega)) fun w10 hu11=>Pl 1<|nt<|?_
 have k12:(!(sufB xs))=false:=by simp only [hq,Bool.not_true,Bool.not_false]
 refine cf k12<|skn<|sg<|Pl 2<|L0<|Oe (.int .i64 (((strOfNums xs).size:Nat) : Int)) (.int .i64 ((xs.length:Nat) : Int)) (by rw [strOfNums_size])<|Pl 2<|L0<|Oi (((xs.length:Nat) : Int) - 2)<|?_
 have hz13:Byts (xs.take ((((xs.length:Nat) : Int) - 2)).toNat):=byts_take hr ((((xs.length:Nat) : Int) - 2)).toNat
 refine L0<|Or_ (.string (strOfNums (xs.take ((((xs.length:Nat) : Int) - 2)).toNat))) (run_cutsT (xs:=xs) (k:=.i64) (i:=(((xs.length:Nat) : Int) - 2)) ((((xs.length:Nat) : Int) - 2)).toNat rfl Tryz.underlying9 (by kernel_rfl) (by kernel_rfl) (by omega) (by omega))<|Pl 2<|nt<|rt<|rr (.tuple #[.string (strOfNums (xs.take ((((xs.length:Nat) : Int) - 2)).toNat)),.bool true])<|?_
 exact ⟨rfl,hu11⟩
set_option maxRecDepth 100000 in
set_option maxHeartbeats 4000000 in
theorem cutsuf_t {xs:List Int} {w:World} (hr:Byts xs) (hl:xs.length≤1048576) (hq:sufB xs=true) : Calls Tryz.prog 176 #[.string (strOfNums xs),.string ⟨#[13,10]⟩] w (PVal (.tuple #[.string (strOfNums (xs.take (((xs.length:Nat) : Int) - 2).toNat)),.bool true]) w):=by
 refine en 11 Tryz.func176 rfl<|sg<|Pl 2<|ng<|Pl 2<|L0<|Oc<|m1 (cutsuf_t0 (xs:=xs) (w:=_) hr hl hq) fun w10 hu11=>Pl 4<|nt<|rt<|?_
 refine rr (.tuple #[.string (strOfNums (xs.take (((xs.length:Nat) : Int) - 2).toNat)),.bool true])<|?_
 exact ⟨rfl,hu11⟩
set_option maxRecDepth 100000 in
set_option maxHeartbeats 4000000 in
theorem cutsuf_f0 {xs:List Int} {w:World} (hr:Byts xs) (hl:xs.length≤1048576) (hq:sufB xs=false) : Calls Tryz.prog 179 #[.string (strOfNums xs),.string ⟨#[13,10]⟩] w (PVal (.tuple #[.string (strOfNums xs),.bool false]) w):=by
 refine en 18 Tryz.func179 rfl<|sg<|Pl 2<|nt<|sq<|sg<|Pl 2<|L0<|Oc<|m1 (hassuf_any (xs:=xs) (w:=_) hr (by omega)) fun w10 hu11=>Pl 1<|nt<|?_
 have k12:(!(sufB xs))=true:=by simp only [hq,Bool.not_true,Bool.not_false]
 refine ct k12<|sg<|Pl 3<|nt<|rt<|tr<|rr (.tuple #[.string (strOfNums xs),.bool false])<|?_
 exact ⟨rfl,hu11⟩
set_option maxRecDepth 100000 in
set_option maxHeartbeats 4000000 in
theorem cutsuf_f {xs:List Int} {w:World} (hr:Byts xs) (hl:xs.length≤1048576) (hq:sufB xs=false) : Calls Tryz.prog 176 #[.string (strOfNums xs),.string ⟨#[13,10]⟩] w (PVal (.tuple #[.string (strOfNums xs),.bool false]) w):=by
 refine en 11 Tryz.func176 rfl<|sg<|Pl 2<|ng<|Pl 2<|L0<|Oc<|m1 (cutsuf_f0 (xs:=xs) (w:=_) hr hl hq) fun w10 hu11=>Pl 4<|nt<|rt<|?_
 refine rr (.tuple #[.string (strOfNums xs),.bool false])<|?_
 exact ⟨rfl,hu11⟩
theorem digS_t {b:List Int} (h:b.getD 0 0=58) (k:sufB (b.drop 1)=true) : digS b=some ((b.drop 1).take (b.length - 3)):=if_pos ⟨h,k⟩
theorem digS_f1 {b:List Int} (h:¬ b.getD 0 0=58) : digS b=none:=if_neg fun k=>h k.1
theorem digS_f2 {b:List Int} (k:sufB (b.drop 1)=false) : digS b=none:=if_neg fun h=>by rw [k] at h; cases h.2
theorem pdig_s {b l:List Int} {w w':World} {e:Ending} (h:digS b=some l) (k:e = .returned (.tuple #[.string (strOfNums l),.bool true])∧Upd [] w w') : PDig b w e w':=by
  unfold PDig
  rw [h]
  exact k
theorem pdig_n {b:List Int} {w w':World} {e:Ending} (h:digS b=none) (k:∃ s,e = .returned (.tuple #[.string s,.bool false])∧Upd [] w w') : PDig b w e w':=by
  unfold PDig
  rw [h]
  exact k
set_option maxRecDepth 100000 in
set_option maxHeartbeats 4000000 in
theorem ascdig_any {b:List Int} {w:World} (hr:Byts b) (hl:b.length≤1048576) (h0:0 < b.length) : Calls Tryz.prog 173 #[.string (strOfNums b)] w (PDig b w):=by
 refine en 18 Tryz.func173 rfl<|sg<|Pl 2<|nt<|sq<|sg<|Pl 1<|L0<|Orng (sv:=strOfNums b) Tryz.underlying9 fun g10 w11 hg12 B13 hu14=>nt<|bk<|?_
 refine glp (fun x=>[(0,.string (strOfNums b)),(7,.pointer (some ⟨g10,0,none⟩))]) (fun (x:Unit) w'=>Upd [] w11 w'∧(0≤0)) (fun x=>0) () ⟨Upd.refl _ _,(by (try dsimp only); omega)⟩ ?_
 rintro z w15 ⟨hu16,p17⟩
 refine wkc [(0,.string (strOfNums b)),(7,.pointer (some ⟨g10,0,none⟩))] ?_
 have p19:0≤0:=p17
 refine sg<|?_
 have r24:=ub hu16 B13
 refine L0<|Onx hr (by omega) r24 fun c20 w21 hc22 hu23=>Pl 1<|nt<|sq<|c1<|skn<|bk<|sg<|Pl 2<|nt<|?_
 refine sq<|sg<|Pl 2<|nt<|?_
 have U25:=ut0 hu14 hu16
 have U26:=u1 U25 hu23 (nr hg12)
 refine cb ((c20 != 58)) (fun q27=>?_) (fun q27=>?_)
 have q27p:=ne_of_bnei q27
 refine sg<|Pl 2<|nt<|rt<|tr<|br<|tr<|br<|tr<|rr (.tuple #[.string ⟨#[]⟩,.bool false])<|?_
 exact pdig_n (digS_f1 fun e=>q27p (hc22.2 e)) ⟨_,rfl,U26⟩
 have q27p:=eq_of_bnei q27
 refine skn<|xt<|by_<|tx<|bx<|tn<|sg<|Pl 1<|?_
 have hz28:Byts (b.drop 1):=byts_drop hr 1
 refine L0<|Or_ (.string (strOfNums (b.drop 1))) (run_cutsF (xs:=b) (k:=.i64) (i:=1) 1 rfl Tryz.underlying9 (by kernel_rfl) (by kernel_rfl) rfl (by omega))<|?_
 rcases bool_dich (sufB (b.drop 1)) with hq | hq
 refine L0<|Oc<|m1 (cutsuf_t (xs:=(b.drop 1)) (w:=_) hz28 (by rw [List.length_drop]; omega) hq) fun w29 hu30=>Pl 4<|nt<|rt<|rr (.tuple #[.string (strOfNums ((b.drop 1).take ((((b.drop 1).length:Nat) : Int) - 2).toNat)),.bool true])<|?_
 have U31:=ut0 U26 hu30
 exact pdig_s (l:=(b.drop 1).take (b.length - 3)) (digS_t (hc22.1 q27p) hq) ⟨by rw [show b.length - 3=((((b.drop 1).length:Nat) : Int) - 2).toNat from by rw [List.length_drop]; omega],U31⟩
 refine L0<|Oc<|m1 (cutsuf_f (xs:=(b.drop 1)) (w:=_) hz28 (by rw [List.length_drop]; omega) hq) fun w32 hu33=>Pl 4<|nt<|rt<|rr (.tuple #[.string (strOfNums (b.drop 1)),.bool false])<|?_
 have U34:=ut0 U26 hu33
 exact pdig_n (digS_f2 hq) ⟨_,rfl,U34⟩
open Go.RowKit
theorem digS_byts {b s:List Int} (hr:Byts b) (h:digS b=some s) : Byts s:=by
  obtain ⟨_,_,rfl,_⟩:=digS_some h
  exact byts_take (byts_drop hr 1) _
theorem pdig_s2 {b l:List Int} {w:World} (h:digS b=some l) (e:Ending) (w':World) (k:PDig b w e w') : e = .returned (.tuple #[.string (strOfNums l),.bool true])∧Upd [] w w':=by
  unfold PDig at k
  rw [h] at k
  exact k
theorem pdig_n2 {b:List Int} {w:World} (h:digS b=none) (e:Ending) (w':World) (k:PDig b w e w') : ∃ s,e = .returned (.tuple #[.string s,.bool false])∧Upd [] w w':=by
  unfold PDig at k
  rw [h] at k
  exact k
theorem ptake_s2 {b l:List Int} {w:World} (h:takeH b=some l) (e:Ending) (w':World) (k:PTakeH b w e w') : ∃ v,e = .returned (.tuple #[v,.int .i64 0])∧OwnB w.heap.size w' v l∧Upd [] w w':=by
  unfold PTakeH at k
  rw [h] at k
  exact k
theorem ptake_n2 {b:List Int} {w:World} (h:takeH b=none) (e:Ending) (w':World) (k:PTakeH b w e w') : e = .returned (.tuple #[.slice none 0 0,.int .i64 11])∧Upd [] w w':=by
  unfold PTakeH at k
  rw [h] at k
  exact k
def ascBody (x:List Int) : List Int:=(x.take (x.length - 1)).drop 1
theorem ascBody_eq (x:List Int) : ascBody x=(x.take (((x.length:Nat) : Int) - 1).toNat).drop 1:=by
  unfold ascBody
  rw [show (((x.length:Nat) : Int) - 1).toNat=x.length - 1 from by omega]
def ascP (dir:Int) (b:List Int) : Frm × Int :=
  if dir != 0 && dir != 1 then (Frm.zero,1)
  else if decide ((b.length:Int) < 9) then (Frm.zero,2)
  else if decide (513 < (b.length:Int)) then (Frm.zero,3)
  else match digS b with
    | none=>(Frm.zero,12)
    | some s=>match takeH s with
      | none=>(Frm.zero,11)
      | some x=>if !(lrcIs x) then (Frm.zero,10) else frmOf (x.getD 0 0) 0 (pduP dir (ascBody x))
set_option maxRecDepth 100000 in
set_option maxHeartbeats 4000000 in
theorem asc_parse0 {m:Bool} {A:Option Addr} {cp:Nat} {b:List Int} {w:World} {dir:Int} (hsl0:RdB m w (.slice A b.length cp) b) (hb:b.length≤1048576) :
    Calls Tryz.prog 171 #[.int .i64 dir,.slice A b.length cp] w (PFrm (ascP dir b) w):=by
 have hln:(b.length:Int)≤1048576:=by omega
 have hr:Byts b:=RdB.range hsl0
 refine en 71 Tryz.func171 rfl<|sg<|L0<|Oal #[.int .u8 0,.int .u16 0,.int .u8 0,.int .u8 0,.int .u16 0,.int .u16 0,.int .u16 0,.int .u16 0,.int .u16 0,.int .u16 0,.int .u16 0,.int .u16 0,.int .u16 0,.int .u16 0,.slice none 0 0,.slice none 0 0,.slice none 0 0,.slice none 0 0,.int .u8 0,.int .u8 0,.int .u8 0,.int .u8 0,.int .u8 0,.slice none 0 0] fun g10 w11 hg12 B13 hu14=>Pl 1<|nt<|sq<|bk<|sg<|Pl 3<|cu 3 [14] 17 (((dir != 0) && (dir != 1))) (fun K K16=>?_) ?_
 refine bl 14 ((dir != 0)) (fun q15=>?_) (fun q15=>?_)
 have q15p:=ne_of_bnei q15
 exact Pl 3<|ce K16 (dir != 1) (by rw [q15]; rfl)
 have q15p:=eq_of_bnei q15
 exact Pl 3<|ce K16 false (by rw [q15]; rfl)
 refine Pl 1<|nt<|cb (((dir != 0) && (dir != 1))) (fun q17=>?_) (fun q17=>?_)
 have q17a:=(and_t q17).1
 have q17b:=(and_t q17).2
 have q17ap:=ne_of_bnei q17a
 have q17bp:=ne_of_bnei q17b
 refine sg<|Pl 1<|L0<|Osw B13 #[.int .u8 0,.int .u16 0,.int .u8 0,.int .u8 0,.int .u16 0,.int .u16 0,.int .u16 0,.int .u16 0,.int .u16 0,.int .u16 0,.int .u16 0,.int .u16 0,.int .u16 0,.int .u16 0,.slice none 0 0,.slice none 0 0,.slice none 0 0,.slice none 0 0,.int .u8 0,.int .u8 0,.int .u8 0,.int .u8 0,.int .u8 0,.slice none 0 0] fun w18 B19 hu20=>Pl 1<|nt<|rt<|br<|tr<|rct B19 (.int .i64 1)<|?_
 have hs:ascP dir b=(Frm.zero,1):=by
   unfold ascP
   (try simp only [q17,q17a,q17b,bs,if_true,if_false,decide_true,decide_false,frmOf,reduceIte])
   all_goals rfl
 refine pf_eq hs ?_
 have U21:=u1 hu14 hu20 (nr hg12)
 exact bad_frm U21
 refine sg<|Pl 4<|nt<|cb ((decide (((b.length:Nat) : Int) < 9))) (fun q22=>?_) (fun q22=>?_)
 have q22p:=of_decide_eq_true q22
 refine sg<|Pl 1<|L0<|Osw B13 #[.int .u8 0,.int .u16 0,.int .u8 0,.int .u8 0,.int .u16 0,.int .u16 0,.int .u16 0,.int .u16 0,.int .u16 0,.int .u16 0,.int .u16 0,.int .u16 0,.int .u16 0,.int .u16 0,.slice none 0 0,.slice none 0 0,.slice none 0 0,.slice none 0 0,.int .u8 0,.int .u8 0,.int .u8 0,.int .u8 0,.int .u8 0,.slice none 0 0] fun w23 B24 hu25=>Pl 1<|nt<|rt<|br<|tr<|rct B24 (.int .i64 2)<|?_
 have hs:ascP dir b=(Frm.zero,2):=by
   unfold ascP
   (try simp only [q17,q22,bs,if_true,if_false,decide_true,decide_false,frmOf,reduceIte])
   all_goals rfl
 refine pf_eq hs ?_
 have U26:=u1 hu14 hu25 (nr hg12)
 exact bad_frm U26
 have q22p:=of_decide_eq_false q22
 refine sg<|Pl 4<|nt<|cb ((decide (513 < ((b.length:Nat) : Int)))) (fun q27=>?_) (fun q27=>?_)
 have q27p:=of_decide_eq_true q27
 refine sg<|Pl 1<|L0<|Osw B13 #[.int .u8 0,.int .u16 0,.int .u8 0,.int .u8 0,.int .u16 0,.int .u16 0,.int .u16 0,.int .u16 0,.int .u16 0,.int .u16 0,.int .u16 0,.int .u16 0,.int .u16 0,.int .u16 0,.slice none 0 0,.slice none 0 0,.slice none 0 0,.slice none 0 0,.int .u8 0,.int .u8 0,.int .u8 0,.int .u8 0,.int .u8 0,.slice none 0 0] fun w28 B29 hu30=>Pl 1<|nt<|rt<|br<|tr<|rct B29 (.int .i64 3)<|?_
 have hs:ascP dir b=(Frm.zero,3):=by
   unfold ascP
   (try simp only [q17,q22,q27,bs,if_true,if_false,decide_true,decide_false,frmOf,reduceIte])
   all_goals rfl
 refine pf_eq hs ?_
 have U31:=u1 hu14 hu30 (nr hg12)
 exact bad_frm U31
 have q27p:=of_decide_eq_false q27
 refine sk<|bn<|tn<|sg<|Pl 1<|?_
 have r32:=RdB.old hsl0 hu14
 refine L0<|Or_ (.string (strOfNums b)) (run_convB (A:=A) (n:=b.length) (c:=cp) rfl (by kernel_rfl) Tryz.underlying27 Tryz.underlying5 Tryz.underlying9 r32)<|?_
 rcases hds:digS b with _ | sd
 have hd33:=ascdig_any (w:=w11) (RdB.range r32) hb (by omega)
 have hd33x:=hd33.mono (pdig_n2 hds)
 refine L0<|Oc (args:=#[.string (strOfNums b)])<|e1 hd33x fun s36 w34 hu35=>Pl 5<|nt<|sq<|sg<|Pl 2<|nt<|c1<|sg<|Pl 1<|?_
 have r37:=ub hu35 B13
 refine L0<|Osw r37 #[.int .u8 0,.int .u16 0,.int .u8 0,.int .u8 0,.int .u16 0,.int .u16 0,.int .u16 0,.int .u16 0,.int .u16 0,.int .u16 0,.int .u16 0,.int .u16 0,.int .u16 0,.int .u16 0,.slice none 0 0,.slice none 0 0,.slice none 0 0,.slice none 0 0,.int .u8 0,.int .u8 0,.int .u8 0,.int .u8 0,.int .u8 0,.slice none 0 0] fun w38 B39 hu40=>Pl 1<|nt<|rt<|tr<|rct B39 (.int .i64 12)<|?_
 have hs:ascP dir b=(Frm.zero,12):=by
   unfold ascP
   (try simp only [q17,q22,q27,bs,if_true,if_false,decide_true,decide_false,frmOf,hds,reduceIte])
   all_goals rfl
 refine pf_eq hs ?_
 have U41:=ut0 hu14 hu35
 have U42:=u1 U41 hu40 (nr hg12)
 exact bad_frm U42
 have hsl:=digS_len hds
 have hsd:Byts sd:=digS_byts hr hds
 have hd43:=ascdig_any (w:=w11) (RdB.range r32) hb (by omega)
 have hd43x:=hd43.mono (pdig_s2 hds)
 refine L0<|Oc (args:=#[.string (strOfNums b)])<|m1 hd43x fun w44 hu45=>Pl 5<|nt<|sq<|sg<|Pl 2<|nt<|c0<|skn<|sq<|?_
 refine go<|Pl 1<|?_
 have U46:=ut0 hu14 hu45
 rcases hth:takeH sd with _ | x
 have hd47:=(htake_any (w:=w44) hsd (by omega)).mono (ptake_n2 hth)
 refine L0<|Oc<|m1 hd47 fun w48 hu49=>Pl 5<|nt<|sq<|sg<|Pl 2<|nt<|c1<|sg<|Pl 2<|?_
 have U50:=ut0 hu45 hu49
 have r51:=ub U50 B13
 refine L0<|Osw r51 #[.int .u8 0,.int .u16 0,.int .u8 0,.int .u8 0,.int .u16 0,.int .u16 0,.int .u16 0,.int .u16 0,.int .u16 0,.int .u16 0,.int .u16 0,.int .u16 0,.int .u16 0,.int .u16 0,.slice none 0 0,.slice none 0 0,.slice none 0 0,.slice none 0 0,.int .u8 0,.int .u8 0,.int .u8 0,.int .u8 0,.int .u8 0,.slice none 0 0] fun w52 B53 hu54=>Pl 1<|nt<|rt<|tr<|rct B53 (.int .i64 11)<|?_
 have hs:ascP dir b=(Frm.zero,11):=by
   unfold ascP
   (try simp only [q17,q22,q27,bs,if_true,if_false,decide_true,decide_false,frmOf,hds,hth,reduceIte])
   all_goals rfl
 refine pf_eq hs ?_
 have U55:=ut0 U46 hu49
 have U56:=u1 U55 hu54 (nr hg12)
 exact bad_frm U56
 have hxl:=takeH_len hth
 have hd57:=(htake_any (w:=w44) hsd (by omega)).mono (ptake_s2 hth)
 refine L0<|Oc<|so2 hd57 fun A62 cp63 w58 rd66 hl64 hm65 hu59=>Pl 5<|nt<|sq<|sg<|Pl 2<|nt<|c0<|skn<|sq<|?_
 refine sg<|Pl 1<|L0<|Oc (args:=#[.slice A62 x.length cp63])<|m1 (lrcis_any (rd66).rd) fun w67 hu68=>Pl 1<|nt<|?_
 have U69:=ut0 U46 hu59
 have U70:=ut0 U69 hu68
 refine cb ((!(lrcIs x))) (fun q71=>?_) (fun q71=>?_)
 have q71n:(lrcIs x)=false:=by simpa using q71
 refine sg<|Pl 1<|?_
 have U72:=ut0 hu45 hu59
 have U73:=ut0 U72 hu68
 have r74:=ub U73 B13
 refine L0<|Osw r74 #[.int .u8 0,.int .u16 0,.int .u8 0,.int .u8 0,.int .u16 0,.int .u16 0,.int .u16 0,.int .u16 0,.int .u16 0,.int .u16 0,.int .u16 0,.int .u16 0,.int .u16 0,.int .u16 0,.slice none 0 0,.slice none 0 0,.slice none 0 0,.slice none 0 0,.int .u8 0,.int .u8 0,.int .u8 0,.int .u8 0,.int .u8 0,.slice none 0 0] fun w75 B76 hu77=>Pl 1<|nt<|rt<|tr<|rct B76 (.int .i64 10)<|?_
 have hs:ascP dir b=(Frm.zero,10):=by
   unfold ascP
   (try simp only [q17,q22,q27,q71,q71n,bs,if_true,if_false,decide_true,decide_false,frmOf,hds,hth,reduceIte])
   all_goals rfl
 refine pf_eq hs ?_
 have U78:=u1 U70 hu77 (nr hg12)
 exact bad_frm U78
 have q71n:(lrcIs x)=true:=by simpa using q71
 refine skn<|sg<|Pl 4<|L0<|Oi (((x.length:Nat) : Int) - 1)<|x12 (cut_lhI (P:=Tryz.prog) 27 5 1 Tryz.underlying27 rfl rfl A62 x.length cp63 (lo:=1) (up:=(((x.length:Nat) : Int) - 1)) 1 (((((x.length:Nat) : Int) - 1)).toNat) (by omega) (by omega) (by omega) (by omega) (by omega)) fun A79 hrun80 hrd81=>L0<|Or_ (.slice A79 ((((((x.length:Nat) : Int) - 1)).toNat) - 1) (cp63 - 1)) (run_cutlh (kl:=.i64) (kh:=.i64) (lo:=1) (hi:=(((x.length:Nat) : Int) - 1)) (A:=A62) (n:=x.length) (c:=cp63) rfl Tryz.underlying27 (by kernel_rfl) (by kernel_rfl) (by kernel_rfl) (hrun80 _ _ _))<|?_
 obtain ⟨M82,E83,hX84⟩ : ∃ M E,pduP dir ((x.take (((((x.length:Nat) : Int) - 1)).toNat)).drop 1)=(M,E):=⟨_,_,rfl⟩
 have r103:=own_stay rd66 hu68 (fun x hx=>not0) (fun _ _ h=>h)
 have hp85:=pdu_parse (dir:=dir) (w:=w67) (hrd81 _ _ _ _ _ (r103).rd) (by rw [List.length_drop,List.length_take]; omega)
 rw [hX84] at hp85
 refine L0<|Oc<|e2 hp85 fun cs87 w86 hM88 hu90=>?_
 have hM89:=hM88
 obtain ⟨v93,v94,v95,v96,v97,h91,h98,h99,h100,h101,h102,hR92⟩:=hM89
 obtain rfl:cs87=(msgCells M82 v93 v94 v95 v96 v97).toArray:=by apply Array.toList_inj.1; simpa using h91
 obtain ⟨A104,k105,rfl,_,_⟩:=h98.shape
 obtain ⟨A106,k107,rfl,_,_⟩:=h99.shape
 obtain ⟨A108,k109,rfl,_,_⟩:=h100.shape
 obtain ⟨A110,k111,rfl,_,_⟩:=h101.shape
 obtain ⟨A112,k113,rfl,_,_⟩:=h102.shape
 refine Pl 3<|L0<|Oal mZ fun g114 w115 hg116 B117 hu118=>L0<|Osw B117 (mG M82.code M82.fail M82.addr M82.count M82.value M82.and_ M82.or_ M82.addr2 M82.sub M82.status M82.events M82.messages (.slice A104 M82.words.length k105) (.slice A106 M82.bits.length k107) (.slice A108 M82.data.length k109) (.slice A110 M82.recs.length k111) M82.mei M82.kind M82.level M82.more M82.next (.slice A112 M82.objects.length k113)) fun w119 B120 hu121=>Pl 1<|nt<|sq<|sg<|Pl 2<|nt<|?_
 have U122:=ut0 U70 hu90
 have U123:=ut0 U122 hu118
 have U124:=u1 U123 hu121 (ni U122.size hg116)
 refine cb ((E83 != 0)) (fun q125=>?_) (fun q125=>?_)
 have q125p:=ne_of_bnei q125
 refine sg<|Pl 2<|?_
 have U126:=ut0 hu45 hu59
 have U127:=ut0 U126 hu68
 have U128:=ut0 U127 hu90
 have U129:=ut0 U128 hu118
 have U130:=u1 U129 hu121 (ni U128.size hg116)
 have r131:=ub U130 B13
 refine L0<|Osw r131 #[.int .u8 0,.int .u16 0,.int .u8 0,.int .u8 0,.int .u16 0,.int .u16 0,.int .u16 0,.int .u16 0,.int .u16 0,.int .u16 0,.int .u16 0,.int .u16 0,.int .u16 0,.int .u16 0,.slice none 0 0,.slice none 0 0,.slice none 0 0,.slice none 0 0,.int .u8 0,.int .u8 0,.int .u8 0,.int .u8 0,.int .u8 0,.slice none 0 0] fun w132 B133 hu134=>Pl 1<|nt<|rt<|tr<|rct B133 (.int .i64 E83)<|?_
 have hX2:pduP dir (ascBody x)=(M82,E83):=(congrArg (pduP dir) (ascBody_eq x)).trans hX84
 have hs:ascP dir b=(Frm.zero,E83):=by
   unfold ascP
   (try simp only [q17,q22,q27,q71,q71n,q125,bs,if_true,if_false,decide_true,decide_false,frmOf,hds,hth,hX2,reduceIte])
   all_goals rfl
 refine pf_eq hs ?_
 have U135:=u1 U124 hu134 (nr hg12)
 exact bad_frm U135
 have q125p:=eq_of_bnei q125
 refine skn<|sq<|?_
 have U153:=ut0 hu90 hu118
 have U154:=u1 U153 hu121 (ni hu90.size hg116)
 have r155:=own_stay r103 U154 (fun x hx=>not0) (fun _ _ h=>h)
 refine x23 (RdB.at_ (r155).rd 0 (by omega)) fun b156 o157 hA158 hl159 hr160=>Rg 8 (fun w'=>w'.cell? ⟨b156,o157 + 0,none⟩=some (.int .u8 (x.getD 0 0))∧w'.heap[g114]? = some (.cells (mG M82.code M82.fail M82.addr M82.count M82.value M82.and_ M82.or_ M82.addr2 M82.sub M82.status M82.events M82.messages (.slice A104 M82.words.length k105) (.slice A106 M82.bits.length k107) (.slice A108 M82.data.length k109) (.slice A110 M82.recs.length k111) M82.mei M82.kind M82.level M82.more M82.next (.slice A112 M82.objects.length k113)) 31 (0,0))) fun w170 hu171=>?_
 have r173:=ub hu171 B120
 refine hld ⟨(uc hu171 hl159),r173⟩ fun hS172=>Rt 0 hS172<|Ri1 1 hS172 x.length 0 0 rfl hA158 (by omega)<|Rl 2 hS172 (fun _ hs=>hs.1)<|Rt 3 hS172<|Rr 4 hS172 (.agg (mG M82.code M82.fail M82.addr M82.count M82.value M82.and_ M82.or_ M82.addr2 M82.sub M82.status M82.events M82.messages (.slice A104 M82.words.length k105) (.slice A106 M82.bits.length k107) (.slice A108 M82.data.length k109) (.slice A110 M82.recs.length k111) M82.mei M82.kind M82.level M82.more M82.next (.slice A112 M82.objects.length k113))) (fun w' hs=>lda_o (g:=g114) (off:=0) [.int .u8 M82.code,.int .u8 M82.fail,.int .u16 M82.addr,.int .u16 M82.count,.int .u16 M82.value,.int .u16 M82.and_,.int .u16 M82.or_,.int .u16 M82.addr2,.int .u16 M82.sub,.int .u16 M82.status,.int .u16 M82.events,.int .u16 M82.messages,.slice A104 M82.words.length k105,.slice A106 M82.bits.length k107,.slice A108 M82.data.length k109,.slice A110 M82.recs.length k111,.int .u8 M82.mei,.int .u8 M82.kind,.int .u8 M82.level,.int .u8 M82.more,.int .u8 M82.next,.slice A112 M82.objects.length k113] rfl (by kernel_rfl) hs.2 (by kernel_rfl) (by kernel_rfl) rfl)<|Rt 5 hS172<|?_
 have U174:=ut0 hu45 hu59
 have U175:=ut0 U174 hu68
 have U176:=ut0 U175 hu90
 have U177:=ut0 U176 hu118
 have U178:=u1 U177 hu121 (ni U176.size hg116)
 have U179:=ut0 U178 hu171
 have r180:=ub U179 B13
 refine R0 6 rfl<|Osw r180 #[.int .u8 (x.getD 0 0),.int .u16 0,.int .u8 M82.code,.int .u8 M82.fail,.int .u16 M82.addr,.int .u16 M82.count,.int .u16 M82.value,.int .u16 M82.and_,.int .u16 M82.or_,.int .u16 M82.addr2,.int .u16 M82.sub,.int .u16 M82.status,.int .u16 M82.events,.int .u16 M82.messages,.slice A104 M82.words.length k105,.slice A106 M82.bits.length k107,.slice A108 M82.data.length k109,.slice A110 M82.recs.length k111,.int .u8 M82.mei,.int .u8 M82.kind,.int .u8 M82.level,.int .u8 M82.more,.int .u8 M82.next,.slice A112 M82.objects.length k113] fun w181 B182 hu183=>?_
 have U185:=u1 (Upd.mono (S':=[g10]) hu171 all0) hu183 im
 have r186:=own_stay r155 U185 (fun x hx=>(not_cons (fun e=>(not_old (blk_lt B13) hu45.size rd66) (e ▸ hx)) not0)) (fun _ _ h=>h)
 have ne187:=nb (blk_lt B13) U176.size hg116
 have r188:=ub1 hu183 (Ne.symm ne187) r173
 refine hld ⟨(cB (r186).rd hA158 0 (by omega)),r188⟩ fun hS184=>Rt 7 hS184<|re<|tn<|rt<|rct B182 (.int .i64 0)<|?_
 have hX2:pduP dir (ascBody x)=(M82,E83):=(congrArg (pduP dir) (ascBody_eq x)).trans hX84
 have hs:ascP dir b=(⟨(x.getD 0 0),0,M82⟩,0):=by
   unfold ascP
   (try simp only [q17,q22,q27,q71,q71n,q125,bs,if_true,if_false,decide_true,decide_false,frmOf,hds,hth,hX2,reduceIte])
   all_goals rfl
 refine pf_eq hs ?_
 have U189:=u1 hu118 hu121 (nr hg116)
 have U190:=ut0 U189 hu171
 have U191:=u1 (Upd.mono (S':=[g10]) U190 all0) hu183 im
 have r192:=ub U176 B13
 have r193:=MsgRd.upd hM88 U191 (safe_cons (safe1 r192 (by decide)) safe0)
 have U194:=ut0 U124 hu171
 have U195:=u1 U194 hu183 (nr hg12)
 exact ⟨_,rfl,⟨#[.int .u8 M82.code,.int .u8 M82.fail,.int .u16 M82.addr,.int .u16 M82.count,.int .u16 M82.value,.int .u16 M82.and_,.int .u16 M82.or_,.int .u16 M82.addr2,.int .u16 M82.sub,.int .u16 M82.status,.int .u16 M82.events,.int .u16 M82.messages,.slice A104 M82.words.length k105,.slice A106 M82.bits.length k107,.slice A108 M82.data.length k109,.slice A110 M82.recs.length k111,.int .u8 M82.mei,.int .u8 M82.kind,.int .u8 M82.level,.int .u8 M82.more,.int .u8 M82.next,.slice A112 M82.objects.length k113],(by as_aux_lemma=>kernel_rfl),r193,b8 (x:=(x.getD 0 0)) (by omega),b16 (x:=0) (by omega)⟩,U195⟩
theorem asc_parse {m:Bool} {v:Value} {b:List Int} {w:World} {dir:Int} (h:RdB m w v b) (hb:b.length≤1048576) : Calls Tryz.prog 171 #[.int .i64 dir,v] w (PFrm (ascP dir b) w):=by
  obtain ⟨A,cp,rfl,_,_⟩:=h.shape
  exact asc_parse0 h hb
open Go.RowKit
def ascB (u:Int) (l:List Int) : List Int:=([58]++putH (([u]++l)++[lrcOf ([u]++l)]))++[13,10]
def ascW (dir u t:Int) (M:Msg) : Option (List Int) :=
  match pduW dir M with
  | none=>none
  | some l=>if t != 0 then none else some (ascB u l)
def PWriteF (res:Option (List Int)) (w:World) (e:Ending) (w':World) : Prop :=
  match res with
  | some l=>∃ v,e = .returned (.tuple #[v,.int .i64 0])∧OwnF w.heap.size w' v l∧Upd [] w w'
  | none=>e = .returned (.tuple #[.slice none 0 0,.int .i64 1])∧Upd [] w w'
theorem nsF_eq {x y:Option (List Int)} (h:x=y) {w:World} {e:Ending} {w':World} (k:PWriteF y w e w') : PWriteF x w e w':=by rw [h]; exact k
theorem OwnF.weaken {base base':Nat} {w:World} {v:Value} {xs:List Int} (h:OwnF base w v xs) (k:base'≤base) : OwnF base' w v xs:=by
  obtain ⟨g,cap,cur,n,h1,h2,h3⟩:=h
  exact ⟨g,cap,cur,n,h1,Nat.le_trans k h2,h3⟩
theorem lrcOf_rng (b:List Int) : 0≤lrcOf b∧lrcOf b < 256:=by unfold lrcOf; omega
set_option maxRecDepth 100000 in
set_option maxHeartbeats 4000000 in
theorem asc_write {m:Bool} {cs:Array Value} {M:Msg} {w:World} {dir u t:Int} (h:MsgRd m w cs.toList M) (hf:MsgFew M) (hu:B8 u) (ht:B16 t) : Calls Tryz.prog 200 #[.int .i64 dir,.agg (#[.int .u8 u,.int .u16 t]++cs)] w (PWriteF (ascW dir u t M) w):=by
 have hM:=h
 obtain ⟨hu1,hu2⟩:=hu
 obtain ⟨ht1,ht2⟩:=ht
 obtain ⟨vw,vb,vd,vr,vo,h0,hw,hbt,hd,hr,ho,hR⟩:=h
 obtain rfl:cs=(msgCells M vw vb vd vr vo).toArray:=by apply Array.toList_inj.1; simpa using h0
 clear h0
 obtain ⟨Aw,kw,rfl,_,_⟩:=hw.shape
 obtain ⟨Ab,kb,rfl,_,_⟩:=hbt.shape
 obtain ⟨Ad,kd,rfl,_,_⟩:=hd.shape
 obtain ⟨Ar,kr,rfl,_,_⟩:=hr.shape
 obtain ⟨Ao,ko,rfl,_,_⟩:=ho.shape
 obtain ⟨q0,q1,q2,q3,q4,q5,q6,q7,q8,q9,q10,q11,q16,q17,q18,q19,q20⟩:=hR
 simp only [B8,B16] at q0 q1 q2 q3 q4 q5 q6 q7 q8 q9 q10 q11 q16 q17 q18 q19 q20
 refine en 39 Tryz.func200 rfl<|sg<|L0<|Obx #[.int .u8 u,.int .u16 t,.int .u8 M.code,.int .u8 M.fail,.int .u16 M.addr,.int .u16 M.count,.int .u16 M.value,.int .u16 M.and_,.int .u16 M.or_,.int .u16 M.addr2,.int .u16 M.sub,.int .u16 M.status,.int .u16 M.events,.int .u16 M.messages,.slice Aw M.words.length kw,.slice Ab M.bits.length kb,.slice Ad M.data.length kd,.slice Ar M.recs.length kr,.int .u8 M.mei,.int .u8 M.kind,.int .u8 M.level,.int .u8 M.more,.int .u8 M.next,.slice Ao M.objects.length ko] fun g10 w11 hg12 B13 hu14=>Pl 2<|ng<|Pl 2<|L0<|Ola B13 2 22<|?_
 rcases hwr:pduW dir M with _ | lw
 have r18:=MsgRd.old hM hu14
 have hw15:=pdu_write (dir:=dir) r18 hf
 rw [hwr] at hw15
 refine L0<|Oc<|m1 hw15 fun w16 hu17=>Pl 5<|nt<|sq<|sg<|Pl 8<|nt<|c1<|sg<|Pl 2<|nl<|?_
 refine tn<|rt<|tr<|rr (.tuple #[.slice none 0 0,.int .i64 1])<|?_
 have hs:ascW dir u t M=none:=by
   unfold ascW
   (try simp only [hwr,bs,if_true,if_false,decide_true,decide_false,reduceIte])
   all_goals rfl
 refine nsF_eq hs ?_
 have U19:=ut0 hu14 hu17
 exact ⟨rfl,U19⟩
 have hlw:=pduW_len hwr
 have r23:=MsgRd.old hM hu14
 have hw20:=pdu_write (dir:=dir) r23 hf
 rw [hwr] at hw20
 refine L0<|Oc<|so2 hw20 fun A26 cp27 w21 rd30 hl28 hm29 hu22=>Pl 5<|nt<|sq<|sg<|Pl 5<|?_
 have r31:=ub hu22 B13
 refine L1<|Olb r31 1<|Pl 2<|nt<|?_
 have U32:=ut0 hu14 hu22
 refine cb ((t != 0)) (fun q33=>?_) (fun q33=>?_)
 have q33p:=ne_of_bnei q33
 refine sg<|Pl 2<|nt<|rt<|tr<|rr (.tuple #[.slice none 0 0,.int .i64 1])<|?_
 have hs:ascW dir u t M=none:=by
   unfold ascW
   (try simp only [hwr,q33,bs,if_true,if_false,decide_true,decide_false,reduceIte])
   all_goals rfl
 refine nsF_eq hs ?_
 exact ⟨rfl,U32⟩
 have q33p:=eq_of_bnei q33
 refine skn<|sg<|Pl 2<|L0<|Olb r31 0<|L0<|Olt (m:=1) (e:=5) #[.int .u8 u] fun g34 w35 hg36 B37 hu38=>?_
 have ow39:=litB hg36 (xs:=[u]) (by as_aux_lemma=>kernel_rfl) (rng_cons (by omega) rng_nil) (by (try simp only [List.length_cons,List.length_nil]); omega) B37
 refine Pl 1<|?_
 have r40:=own_stay rd30 hu38 (fun x hx=>not0) (fun _ _ h=>h)
 refine L0<|Oapp one_u8 (xs:=([u])) (ys:=lw) (.int .u8 0) 1 ow39 (r40).rd (by (try simp only [List.length_append,List.length_cons,List.length_nil,putW_length]); omega) hu38.size fun A41 cp42 w43 ho44 hu45=>Pl 1<|ng<|Pl 2<|L0<|Oc (args:=#[.slice A41 (([u]++lw).length) cp42])<|m1 (lrcof_any (ho44).rd) fun w46 hu47=>?_
 have r49:=own_stay ho44 hu47 (fun x hx=>not0) (fun _ _ h=>h)
 have hl48:=lrcOf_rng ([u]++lw)
 refine L0<|Olt (m:=1) (e:=5) #[.int .u8 (lrcOf ([u]++lw))] fun g50 w51 hg52 B53 hu54=>?_
 have ow55:=litB hg52 (xs:=[(lrcOf ([u]++lw))]) (by as_aux_lemma=>kernel_rfl) (rng_cons (by omega) rng_nil) (by (try simp only [List.length_cons,List.length_nil]); omega) B53
 have r56:=own_stay r49 hu54 (fun x hx=>not0) (fun _ _ h=>h)
 refine L0<|Oapp one_u8 (xs:=([u]++lw)) (ys:=([(lrcOf ([u]++lw))])) (.int .u8 0) 1 r56 (ow55).rd (by (try simp only [List.length_append,List.length_cons,List.length_nil,putW_length]); omega) (le (le (le hu38.size hu45.size) hu47.size) hu54.size) fun A57 cp58 w59 ho60 hu61=>L0<|Oc (args:=#[.slice A57 ((([u]++lw)++[(lrcOf ([u]++lw))]).length) cp58])<|m1 (hput_any (ho60).rd (by simp only [List.length_append,List.length_cons,List.length_nil]; omega)) fun w62 hu63=>?_
 have hp64:Byts (putH (([u]++lw)++[(lrcOf ([u]++lw))])):=putH_byts (RdB.range (ho60).rd)
 have hz65:Byts ([58]++(putH (([u]++lw)++[(lrcOf ([u]++lw))]))):=byts_app (by decide) hp64
 refine L0<|Or_ (.string (strOfNums ([58]++(putH (([u]++lw)++[(lrcOf ([u]++lw))]))))) (run_adds (a:=⟨#[58]⟩) (b:=(strOfNums (putH (([u]++lw)++[(lrcOf ([u]++lw))])))) (xs:=([58])) (ys:=(putH (([u]++lw)++[(lrcOf ([u]++lw))]))) rfl (by kernel_rfl) (by kernel_rfl) rfl rfl (by simp only [putH_len,List.length_append,List.length_cons,List.length_nil]; omega))<|?_
 have hz66:Byts (([58]++(putH (([u]++lw)++[(lrcOf ([u]++lw))])))++[13,10]):=byts_app hz65 (by decide)
 refine L0<|Or_ (.string (strOfNums (([58]++(putH (([u]++lw)++[(lrcOf ([u]++lw))])))++[13,10]))) (run_adds (a:=(strOfNums ([58]++(putH (([u]++lw)++[(lrcOf ([u]++lw))]))))) (b:=⟨#[13,10]⟩) (xs:=([58]++(putH (([u]++lw)++[(lrcOf ([u]++lw))])))) (ys:=([13,10])) rfl (by kernel_rfl) (by kernel_rfl) rfl rfl (by simp only [putH_len,List.length_append,List.length_cons,List.length_nil]; omega))<|L0<|Ocs (xs:=(([58]++(putH (([u]++lw)++[(lrcOf ([u]++lw))])))++[13,10])) Tryz.underlying9 Tryz.underlying27 Tryz.underlying5 hz66 (by simp only [putH_len,List.length_append,List.length_cons,List.length_nil]; omega) fun A67 cp68 w69 ho70 hu71=>Pl 2<|nt<|rt<|rr (.tuple #[.slice A67 ((([58]++(putH (([u]++lw)++[(lrcOf ([u]++lw))])))++[13,10]).length) cp68,.int .i64 0])<|?_
 have hs:ascW dir u t M=(some (([58]++(putH (([u]++lw)++[(lrcOf ([u]++lw))])))++[13,10])):=by
   unfold ascW
   (try simp only [hwr,q33,bs,if_true,if_false,decide_true,decide_false,reduceIte])
   all_goals rfl
 refine nsF_eq hs ?_
 have U72:=ut0 U32 hu38
 have U73:=ut U72 hu45 (all_app (ob_new ow39 U32.size) all0)
 have U74:=ut0 U73 hu47
 have U75:=ut0 U74 hu54
 have U76:=ut U75 hu61 (all_app (ob_new ho44 U32.size) all0)
 have U77:=ut0 U76 hu63
 have U78:=ut0 U77 hu71
 exact ⟨_,rfl,ho70.weaken (le (le (le (le (le (le (le hu14.size hu22.size) hu38.size) hu45.size) hu47.size) hu54.size) hu61.size) hu63.size),U78⟩
open Go.RowKit
theorem asc_parse_x {m:Bool} {v:Value} {b:List Int} {w:World} {dir:Int} {F:Frm} {E:Int} (hX:ascP dir b=(F,E)) (h:RdB m w v b) (hb:b.length≤1048576) : Calls Tryz.prog 171 #[.int .i64 dir,v] w (fun e w'=>∃ x,e = .returned (.tuple #[.agg (fcl F.unit F.tid F.msg x),.int .i64 E])∧(MsgRd true w' (mcl F.msg x).toList F.msg∧(0≤F.unit∧F.unit < 256)∧(0≤F.tid∧F.tid < 65536))∧Upd [] w w'):=by
  refine (asc_parse h hb).mono ?_
  rintro e w' ⟨cs,rfl,h1,h2⟩
  rw [hX] at h1 ⊢
  obtain ⟨c,rfl,h3,h4,h5⟩:=h1
  obtain ⟨x,rfl⟩:=mcl_of h3
  exact ⟨x,by rw [fcl_eq],⟨h3,h4,h5⟩,h2⟩
theorem asc_write_n {m:Bool} {x:SL} {M:Msg} {w:World} {dir u t:Int} (hX:ascW dir u t M=none) (h:MsgRd m w (mcl M x).toList M) (hf:MsgFew M) (hu:0≤u∧u < 256) (ht:0≤t∧t < 65536) : Calls Tryz.prog 200 #[.int .i64 dir,.agg (fcl u t M x)] w (fun e w'=>e = .returned (.tuple #[.slice none 0 0,.int .i64 1])∧Upd [] w w'):=by
  have:=asc_write (dir:=dir) h hf hu ht
  rw [hX] at this
  rw [fcl_eq]
  exact this
theorem asc_write_s {m:Bool} {x:SL} {M:Msg} {w:World} {dir u t:Int} {l:List Int} (hX:ascW dir u t M=some l) (h:MsgRd m w (mcl M x).toList M) (hf:MsgFew M) (hu:0≤u∧u < 256) (ht:0≤t∧t < 65536) : Calls Tryz.prog 200 #[.int .i64 dir,.agg (fcl u t M x)] w (fun e w'=>∃ v,e = .returned (.tuple #[v,.int .i64 0])∧OwnF w.heap.size w' v l∧Upd [] w w'):=by
  have:=asc_write (dir:=dir) h hf hu ht
  rw [hX] at this
  rw [fcl_eq]
  exact this
open Go.RowKit
def mb0 (b:List Int) : Cur:=⟨b,false,0⟩
def mb1 (b:List Int) : Cur:=(mb0 b).wordsC 1
def mb2 (b:List Int) : Cur:=(mb1 b).wordsC 1
def mb3 (b:List Int) : Cur:=(mb2 b).wordsC 1
def mb4 (b:List Int) : Cur:=(mb3 b).bytesC 1
def mbBody (b:List Int) : List Int:=(mb4 b).bytesR (((mb4 b).l.length:Nat) : Int)
def mbapP (dir:Int) (b:List Int) : Frm × Int :=
  if dir != 0 && dir != 1 then (Frm.zero,1)
  else if decide ((b.length:Int) < 8) then (Frm.zero,2)
  else if decide (260 < (b.length:Int)) then (Frm.zero,3)
  else if (mb1 b).wordV != 0 then (Frm.zero,13)
  else if (mb2 b).wordV != (b.length:Int) - 6 then (Frm.zero,5)
  else frmOf (mb3 b).byteV (mb0 b).wordV (pduP dir (mbBody b))
set_option maxRecDepth 100000 in
set_option maxHeartbeats 4000000 in
theorem mbap_parse0 {m:Bool} {A:Option Addr} {cp:Nat} {b:List Int} {w:World} {dir:Int} (hsl:RdB m w (.slice A b.length cp) b) (hb:b.length≤1048576) :
    Calls Tryz.prog 192 #[.int .i64 dir,.slice A b.length cp] w (PFrm (mbapP dir b) w):=by
 have hln:(b.length:Int)≤1048576:=by omega
 refine en 75 Tryz.func192 rfl<|sg<|L0<|Oal #[.int .u8 0,.int .u16 0,.int .u8 0,.int .u8 0,.int .u16 0,.int .u16 0,.int .u16 0,.int .u16 0,.int .u16 0,.int .u16 0,.int .u16 0,.int .u16 0,.int .u16 0,.int .u16 0,.slice none 0 0,.slice none 0 0,.slice none 0 0,.slice none 0 0,.int .u8 0,.int .u8 0,.int .u8 0,.int .u8 0,.int .u8 0,.slice none 0 0] fun g10 w11 hg12 B13 hu14=>Pl 1<|nt<|sq<|bk<|sg<|Pl 3<|cu 3 [17] 20 (((dir != 0) && (dir != 1))) (fun K K16=>?_) ?_
 refine bl 17 ((dir != 0)) (fun q15=>?_) (fun q15=>?_)
 have q15p:=ne_of_bnei q15
 exact Pl 3<|ce K16 (dir != 1) (by rw [q15]; rfl)
 have q15p:=eq_of_bnei q15
 exact Pl 3<|ce K16 false (by rw [q15]; rfl)
 refine Pl 1<|nt<|cb (((dir != 0) && (dir != 1))) (fun q17=>?_) (fun q17=>?_)
 have q17a:=(and_t q17).1
 have q17b:=(and_t q17).2
 have q17ap:=ne_of_bnei q17a
 have q17bp:=ne_of_bnei q17b
 refine sg<|Pl 1<|L0<|Osw B13 #[.int .u8 0,.int .u16 0,.int .u8 0,.int .u8 0,.int .u16 0,.int .u16 0,.int .u16 0,.int .u16 0,.int .u16 0,.int .u16 0,.int .u16 0,.int .u16 0,.int .u16 0,.int .u16 0,.slice none 0 0,.slice none 0 0,.slice none 0 0,.slice none 0 0,.int .u8 0,.int .u8 0,.int .u8 0,.int .u8 0,.int .u8 0,.slice none 0 0] fun w18 B19 hu20=>Pl 1<|nt<|rt<|br<|tr<|rct B19 (.int .i64 1)<|?_
 have hs:mbapP dir b=(Frm.zero,1):=by
   unfold mbapP
   (try simp only [q17,q17a,q17b,bs,if_true,if_false,decide_true,decide_false,frmOf,mb4,mb3,mb2,mb1,mb0,reduceIte])
   all_goals rfl
 refine pf_eq hs ?_
 have U21:=u1 hu14 hu20 (nr hg12)
 exact bad_frm U21
 refine sg<|Pl 4<|nt<|cb ((decide (((b.length:Nat) : Int) < 8))) (fun q22=>?_) (fun q22=>?_)
 have q22p:=of_decide_eq_true q22
 refine sg<|Pl 1<|L0<|Osw B13 #[.int .u8 0,.int .u16 0,.int .u8 0,.int .u8 0,.int .u16 0,.int .u16 0,.int .u16 0,.int .u16 0,.int .u16 0,.int .u16 0,.int .u16 0,.int .u16 0,.int .u16 0,.int .u16 0,.slice none 0 0,.slice none 0 0,.slice none 0 0,.slice none 0 0,.int .u8 0,.int .u8 0,.int .u8 0,.int .u8 0,.int .u8 0,.slice none 0 0] fun w23 B24 hu25=>Pl 1<|nt<|rt<|br<|tr<|rct B24 (.int .i64 2)<|?_
 have hs:mbapP dir b=(Frm.zero,2):=by
   unfold mbapP
   (try simp only [q17,q22,bs,if_true,if_false,decide_true,decide_false,frmOf,mb4,mb3,mb2,mb1,mb0,reduceIte])
   all_goals rfl
 refine pf_eq hs ?_
 have U26:=u1 hu14 hu25 (nr hg12)
 exact bad_frm U26
 have q22p:=of_decide_eq_false q22
 refine sg<|Pl 4<|nt<|cb ((decide (260 < ((b.length:Nat) : Int)))) (fun q27=>?_) (fun q27=>?_)
 have q27p:=of_decide_eq_true q27
 refine sg<|Pl 1<|L0<|Osw B13 #[.int .u8 0,.int .u16 0,.int .u8 0,.int .u8 0,.int .u16 0,.int .u16 0,.int .u16 0,.int .u16 0,.int .u16 0,.int .u16 0,.int .u16 0,.int .u16 0,.int .u16 0,.int .u16 0,.slice none 0 0,.slice none 0 0,.slice none 0 0,.slice none 0 0,.int .u8 0,.int .u8 0,.int .u8 0,.int .u8 0,.int .u8 0,.slice none 0 0] fun w28 B29 hu30=>Pl 1<|nt<|rt<|br<|tr<|rct B29 (.int .i64 3)<|?_
 have hs:mbapP dir b=(Frm.zero,3):=by
   unfold mbapP
   (try simp only [q17,q22,q27,bs,if_true,if_false,decide_true,decide_false,frmOf,mb4,mb3,mb2,mb1,mb0,reduceIte])
   all_goals rfl
 refine pf_eq hs ?_
 have U31:=u1 hu14 hu30 (nr hg12)
 exact bad_frm U31
 have q27p:=of_decide_eq_false q27
 refine sk<|bn<|tn<|sg<|Pl 1<|?_
 have r32:=RdB.old hsl hu14
 refine L0<|Oc<|e3 (new_any r32 (by omega)) fun g34 w33 hg35 hc36 hu37=>Pl 1<|ng<|Pl 1<|ng<|Pl 2<|L0<|Ocv #[] #[] (args:=#[.pointer (some ⟨g34,0,none⟩)])<|m3 (word_any hc36) fun w38 hc39 hu40 hr41=>Pl 2<|L0<|Ocv #[] #[] (args:=#[.pointer (some ⟨g34,0,none⟩)])<|m3 (word_any hc39) fun w42 hc43 hu44 hr45=>?_
 refine ab hc43 fun x46 ex47 hc48=>?_
 refine Pl 2<|L0<|Ocv #[] #[] (args:=#[.pointer (some ⟨g34,0,none⟩)])<|m3 (word_any hc48) fun w49 hc50 hu51 hr52=>Pl 3<|nt<|sq<|bk<|sg<|Pl 3<|nt<|?_
 have U53:=ut0 hu14 hu37
 have U54:=u1 U53 hu40 (ni hu14.size hg35)
 have U55:=u1 U54 hu44 (ni hu14.size hg35)
 have U56:=u1 U55 hu51 (ni hu14.size hg35)
 refine cb (((((Cur.mk b false 0).wordsC 1).wordV) != 0)) (fun q57=>?_) (fun q57=>?_)
 have q57p:=ne_of_bnei q57
 refine sg<|Pl 1<|?_
 have U58:=u1 hu37 hu40 (nr hg35)
 have U59:=u1 U58 hu44 (nr hg35)
 have U60:=u1 U59 hu51 (nr hg35)
 have r61:=ub U60 B13
 refine L0<|Osw r61 #[.int .u8 0,.int .u16 0,.int .u8 0,.int .u8 0,.int .u16 0,.int .u16 0,.int .u16 0,.int .u16 0,.int .u16 0,.int .u16 0,.int .u16 0,.int .u16 0,.int .u16 0,.int .u16 0,.slice none 0 0,.slice none 0 0,.slice none 0 0,.slice none 0 0,.int .u8 0,.int .u8 0,.int .u8 0,.int .u8 0,.int .u8 0,.slice none 0 0] fun w62 B63 hu64=>Pl 1<|nt<|rt<|br<|tr<|rct B63 (.int .i64 13)<|?_
 subst ex47
 have hs:mbapP dir b=(Frm.zero,13):=by
   unfold mbapP
   (try simp only [q17,q22,q27,q57,bs,if_true,if_false,decide_true,decide_false,frmOf,mb4,mb3,mb2,mb1,mb0,reduceIte])
   all_goals rfl
 refine pf_eq hs ?_
 have U65:=u1 U56 hu64 (nr hg12)
 exact bad_frm U65
 have q57p:=eq_of_bnei q57
 refine sg<|Pl 1<|L0<|Oi x46.wordV<|Pl 2<|L0<|Oi (((b.length:Nat) : Int) - 6)<|Pl 2<|nt<|cb ((x46.wordV != (((b.length:Nat) : Int) - 6))) (fun q66=>?_) (fun q66=>?_)
 have q66p:=ne_of_bnei q66
 refine sg<|Pl 1<|?_
 have U67:=u1 hu37 hu40 (nr hg35)
 have U68:=u1 U67 hu44 (nr hg35)
 have U69:=u1 U68 hu51 (nr hg35)
 have r70:=ub U69 B13
 refine L0<|Osw r70 #[.int .u8 0,.int .u16 0,.int .u8 0,.int .u8 0,.int .u16 0,.int .u16 0,.int .u16 0,.int .u16 0,.int .u16 0,.int .u16 0,.int .u16 0,.int .u16 0,.int .u16 0,.int .u16 0,.slice none 0 0,.slice none 0 0,.slice none 0 0,.slice none 0 0,.int .u8 0,.int .u8 0,.int .u8 0,.int .u8 0,.int .u8 0,.slice none 0 0] fun w71 B72 hu73=>Pl 1<|nt<|rt<|br<|tr<|rct B72 (.int .i64 5)<|?_
 subst ex47
 have hs:mbapP dir b=(Frm.zero,5):=by
   unfold mbapP
   (try simp only [q17,q22,q27,q57,q66,bs,if_true,if_false,decide_true,decide_false,frmOf,mb4,mb3,mb2,mb1,mb0,reduceIte])
   all_goals rfl
 refine pf_eq hs ?_
 have U74:=u1 U56 hu73 (nr hg12)
 exact bad_frm U74
 have q66p:=eq_of_bnei q66
 refine sk<|bn<|tn<|sg<|Pl 1<|L0<|Oc<|m3 (byte_any hc50) fun w75 hc76 hu77 hr78=>Pl 1<|ng<|Pl 3<|L0<|Oc<|mq (left_any hc76)<|?_
 have hl79:=CurAt.len hc76
 refine L0<|Oc<|sr3 (bytes_any (n:=((((x46.wordsC 1).bytesC 1).l.length:Nat) : Int)) hc76) fun A89 cp90 w80 rd93 hl91 hm92 hc83 hu84=>?_
 have hlb85:=Nat.le_trans (Cur.bytesR_le ((x46.wordsC 1).bytesC 1) ((((x46.wordsC 1).bytesC 1).l.length:Nat) : Int)) (CurAt.len hc76)
 refine ab hc83 fun x86 ex87 hc88=>?_
 obtain ⟨M94,E95,hX96⟩ : ∃ M E,pduP dir (((x46.wordsC 1).bytesC 1).bytesR ((((x46.wordsC 1).bytesC 1).l.length:Nat) : Int))=(M,E):=⟨_,_,rfl⟩
 have hp97:=pdu_parse (dir:=dir) (w:=w80) rd93 (by omega)
 rw [hX96] at hp97
 refine L0<|Oc<|e2 hp97 fun cs99 w98 hM100 hu102=>?_
 have hM101:=hM100
 obtain ⟨v105,v106,v107,v108,v109,h103,h110,h111,h112,h113,h114,hR104⟩:=hM101
 obtain rfl:cs99=(msgCells M94 v105 v106 v107 v108 v109).toArray:=by apply Array.toList_inj.1; simpa using h103
 obtain ⟨A115,k116,rfl,_,_⟩:=h110.shape
 obtain ⟨A117,k118,rfl,_,_⟩:=h111.shape
 obtain ⟨A119,k120,rfl,_,_⟩:=h112.shape
 obtain ⟨A121,k122,rfl,_,_⟩:=h113.shape
 obtain ⟨A123,k124,rfl,_,_⟩:=h114.shape
 refine Pl 3<|L0<|Oal mZ fun g125 w126 hg127 B128 hu129=>L0<|Osw B128 (mG M94.code M94.fail M94.addr M94.count M94.value M94.and_ M94.or_ M94.addr2 M94.sub M94.status M94.events M94.messages (.slice A115 M94.words.length k116) (.slice A117 M94.bits.length k118) (.slice A119 M94.data.length k120) (.slice A121 M94.recs.length k122) M94.mei M94.kind M94.level M94.more M94.next (.slice A123 M94.objects.length k124)) fun w130 B131 hu132=>Pl 1<|nt<|sq<|sg<|Pl 2<|nt<|?_
 have U133:=u1 U56 hu77 (ni hu14.size hg35)
 have U134:=u1 U133 hu84 (ni hu14.size hg35)
 have U135:=ut0 U134 hu102
 have U136:=ut0 U135 hu129
 have U137:=u1 U136 hu132 (ni U135.size hg127)
 refine cb ((E95 != 0)) (fun q138=>?_) (fun q138=>?_)
 have q138p:=ne_of_bnei q138
 refine sg<|Pl 2<|?_
 have U139:=u1 hu37 hu40 (nr hg35)
 have U140:=u1 U139 hu44 (nr hg35)
 have U141:=u1 U140 hu51 (nr hg35)
 have U142:=u1 U141 hu77 (nr hg35)
 have U143:=u1 U142 hu84 (nr hg35)
 have U144:=ut0 U143 hu102
 have U145:=ut0 U144 hu129
 have U146:=u1 U145 hu132 (ni U144.size hg127)
 have r147:=ub U146 B13
 refine L0<|Osw r147 #[.int .u8 0,.int .u16 0,.int .u8 0,.int .u8 0,.int .u16 0,.int .u16 0,.int .u16 0,.int .u16 0,.int .u16 0,.int .u16 0,.int .u16 0,.int .u16 0,.int .u16 0,.int .u16 0,.slice none 0 0,.slice none 0 0,.slice none 0 0,.slice none 0 0,.int .u8 0,.int .u8 0,.int .u8 0,.int .u8 0,.int .u8 0,.slice none 0 0] fun w148 B149 hu150=>Pl 1<|nt<|rt<|tr<|rct B149 (.int .i64 E95)<|?_
 subst ex87 ex47
 have hX2:pduP dir (mbBody b)=(M94,E95):=hX96
 have hs:mbapP dir b=(Frm.zero,E95):=by
   unfold mbapP
   (try simp only [q17,q22,q27,q57,q66,q138,bs,if_true,if_false,decide_true,decide_false,frmOf,mb4,mb3,mb2,mb1,mb0,hX2,reduceIte])
   all_goals rfl
 refine pf_eq hs ?_
 have U151:=u1 U137 hu150 (nr hg12)
 exact bad_frm U151
 have q138p:=eq_of_bnei q138
 refine skn<|sg<|Pl 3<|L0<|Olw B131<|Pl 1<|?_
 have U152:=u1 hu37 hu40 (nr hg35)
 have U153:=u1 U152 hu44 (nr hg35)
 have U154:=u1 U153 hu51 (nr hg35)
 have U155:=u1 U154 hu77 (nr hg35)
 have U156:=u1 U155 hu84 (nr hg35)
 have U157:=ut0 U156 hu102
 have U158:=ut0 U157 hu129
 have U159:=u1 U158 hu132 (ni U157.size hg127)
 have r160:=ub U159 B13
 refine L0<|Osw r160 #[.int .u8 ((x46.wordsC 1).byteV),.int .u16 ((Cur.mk b false 0).wordV),.int .u8 M94.code,.int .u8 M94.fail,.int .u16 M94.addr,.int .u16 M94.count,.int .u16 M94.value,.int .u16 M94.and_,.int .u16 M94.or_,.int .u16 M94.addr2,.int .u16 M94.sub,.int .u16 M94.status,.int .u16 M94.events,.int .u16 M94.messages,.slice A115 M94.words.length k116,.slice A117 M94.bits.length k118,.slice A119 M94.data.length k120,.slice A121 M94.recs.length k122,.int .u8 M94.mei,.int .u8 M94.kind,.int .u8 M94.level,.int .u8 M94.more,.int .u8 M94.next,.slice A123 M94.objects.length k124] fun w161 B162 hu163=>Pl 1<|nt<|rt<|rct B162 (.int .i64 0)<|?_
 subst ex87 ex47
 have hX2:pduP dir (mbBody b)=(M94,E95):=hX96
 have hs:mbapP dir b=(⟨((((Cur.mk b false 0).wordsC 1).wordsC 1).wordsC 1).byteV,(Cur.mk b false 0).wordV,M94⟩,0):=by
   unfold mbapP
   (try simp only [q17,q22,q27,q57,q66,q138,bs,if_true,if_false,decide_true,decide_false,frmOf,mb4,mb3,mb2,mb1,mb0,hX2,reduceIte])
   all_goals rfl
 refine pf_eq hs ?_
 have U164:=u1 hu129 hu132 (nr hg127)
 have U165:=u1 (Upd.mono (S':=[g10]) U164 all0) hu163 im
 have r166:=ub U157 B13
 have r167:=MsgRd.upd hM100 U165 (safe_cons (safe1 r166 (by decide)) safe0)
 have U168:=u1 U137 hu163 (nr hg12)
 exact ⟨_,rfl,⟨#[.int .u8 M94.code,.int .u8 M94.fail,.int .u16 M94.addr,.int .u16 M94.count,.int .u16 M94.value,.int .u16 M94.and_,.int .u16 M94.or_,.int .u16 M94.addr2,.int .u16 M94.sub,.int .u16 M94.status,.int .u16 M94.events,.int .u16 M94.messages,.slice A115 M94.words.length k116,.slice A117 M94.bits.length k118,.slice A119 M94.data.length k120,.slice A121 M94.recs.length k122,.int .u8 M94.mei,.int .u8 M94.kind,.int .u8 M94.level,.int .u8 M94.more,.int .u8 M94.next,.slice A123 M94.objects.length k124],(by as_aux_lemma=>kernel_rfl),r167,b8 (by omega),b16 (by omega)⟩,U168⟩
theorem mbap_parse {m:Bool} {v:Value} {b:List Int} {w:World} {dir:Int} (h:RdB m w v b) (hb:b.length≤1048576) : Calls Tryz.prog 192 #[.int .i64 dir,v] w (PFrm (mbapP dir b) w):=by
  obtain ⟨A,cp,rfl,_,_⟩:=h.shape
  exact mbap_parse0 h hb
open Go.RowKit
def mbapW (dir u t:Int) (M:Msg) : Option (List Int) :=
  match pduW dir M with
  | none=>none
  | some l=>some ((putW [t,0,((l.length:Int) + 1) % 65536]++[u])++l)
set_option maxRecDepth 100000 in
set_option maxHeartbeats 4000000 in
theorem mbap_write {m:Bool} {cs:Array Value} {M:Msg} {w:World} {dir u t:Int} (h:MsgRd m w cs.toList M) (hf:MsgFew M) (hu:B8 u) (ht:B16 t) : Calls Tryz.prog 209 #[.int .i64 dir,.agg (#[.int .u8 u,.int .u16 t]++cs)] w (PWrite (mbapW dir u t M) w):=by
 have hM:=h
 obtain ⟨hu1,hu2⟩:=hu
 obtain ⟨ht1,ht2⟩:=ht
 obtain ⟨vw,vb,vd,vr,vo,h0,hw,hbt,hd,hr,ho,hR⟩:=h
 obtain rfl:cs=(msgCells M vw vb vd vr vo).toArray:=by apply Array.toList_inj.1; simpa using h0
 clear h0
 obtain ⟨Aw,kw,rfl,_,_⟩:=hw.shape
 obtain ⟨Ab,kb,rfl,_,_⟩:=hbt.shape
 obtain ⟨Ad,kd,rfl,_,_⟩:=hd.shape
 obtain ⟨Ar,kr,rfl,_,_⟩:=hr.shape
 obtain ⟨Ao,ko,rfl,_,_⟩:=ho.shape
 obtain ⟨q0,q1,q2,q3,q4,q5,q6,q7,q8,q9,q10,q11,q16,q17,q18,q19,q20⟩:=hR
 simp only [B8,B16] at q0 q1 q2 q3 q4 q5 q6 q7 q8 q9 q10 q11 q16 q17 q18 q19 q20
 refine en 35 Tryz.func209 rfl<|sg<|L0<|Obx #[.int .u8 u,.int .u16 t,.int .u8 M.code,.int .u8 M.fail,.int .u16 M.addr,.int .u16 M.count,.int .u16 M.value,.int .u16 M.and_,.int .u16 M.or_,.int .u16 M.addr2,.int .u16 M.sub,.int .u16 M.status,.int .u16 M.events,.int .u16 M.messages,.slice Aw M.words.length kw,.slice Ab M.bits.length kb,.slice Ad M.data.length kd,.slice Ar M.recs.length kr,.int .u8 M.mei,.int .u8 M.kind,.int .u8 M.level,.int .u8 M.more,.int .u8 M.next,.slice Ao M.objects.length ko] fun g10 w11 hg12 B13 hu14=>Pl 2<|ng<|Pl 2<|L0<|Ola B13 2 22<|?_
 rcases hwr:pduW dir M with _ | lw
 have r18:=MsgRd.old hM hu14
 have hw15:=pdu_write (dir:=dir) r18 hf
 rw [hwr] at hw15
 refine L0<|Oc<|m1 hw15 fun w16 hu17=>Pl 5<|nt<|sq<|sg<|Pl 2<|nt<|c1<|sg<|Pl 2<|nl<|?_
 refine tn<|rt<|tr<|rr (.tuple #[.slice none 0 0,.int .i64 1])<|?_
 have hs:mbapW dir u t M=none:=by
   unfold mbapW
   (try simp only [hwr])
   all_goals rfl
 refine ns_eq hs ?_
 have U19:=ut0 hu14 hu17
 exact ⟨rfl,U19⟩
 have hlw:=pduW_len hwr
 have r23:=MsgRd.old hM hu14
 have hw20:=pdu_write (dir:=dir) r23 hf
 rw [hwr] at hw20
 refine L0<|Oc<|so2 hw20 fun A26 cp27 w21 rd30 hl28 hm29 hu22=>Pl 5<|nt<|sq<|sg<|Pl 2<|nt<|c0<|skn<|sq<|?_
 refine go<|Pl 2<|?_
 have r31:=ub hu22 B13
 refine L0<|Olb r31 1<|Pl 2<|L0<|Oi (((lw.length:Nat) : Int) + 1)<|Pl 1<|L0<|Olt (m:=3) (e:=22) #[.int .u16 t,.int .u16 0,.int .u16 ((((lw.length:Nat) : Int) + 1) % 65536)] fun g32 w33 hg34 B35 hu36=>?_
 have ow37:=litW hg34 (xs:=[t,0,((((lw.length:Nat) : Int) + 1) % 65536)]) (by as_aux_lemma=>kernel_rfl) (rng_cons (by omega) (rng_cons (by omega) (rng_cons (by omega) rng_nil))) (by (try simp only [List.length_cons,List.length_nil]); omega) B35
 refine L0<|Oc<|so2 (put_any (xs:=[t,0,((((lw.length:Nat) : Int) + 1) % 65536)]) (ow37).rd (by (try simp only [List.length_cons,List.length_nil]); omega)) fun A42 cp43 w38 rd46 hl44 hm45 hu41=>Pl 1<|ng<|Pl 3<|?_
 have U47:=ut0 hu36 hu41
 have r48:=ub U47 r31
 refine L0<|Olb r48 0<|L0<|Olt (m:=1) (e:=5) #[.int .u8 u] fun g49 w50 hg51 B52 hu53=>?_
 have ow54:=litB hg51 (xs:=[u]) (by as_aux_lemma=>kernel_rfl) (rng_cons (by omega) rng_nil) (by (try simp only [List.length_cons,List.length_nil]); omega) B52
 have r55:=own_stay rd46 hu53 (fun x hx=>not0) (fun _ _ h=>h)
 refine L0<|Oapp one_u8 (xs:=(putW ([t,0,((((lw.length:Nat) : Int) + 1) % 65536)]))) (ys:=([u])) (.int .u8 0) 1 r55 (ow54).rd (by (try simp only [List.length_append,List.length_cons,List.length_nil,putW_length]); omega) (le hu41.size hu53.size) fun A56 cp57 w58 ho59 hu60=>Pl 1<|?_
 have U61:=ut0 U47 hu53
 have U62:=ut U61 hu60 (all_app (ob_new rd46 hu36.size) all0)
 have r63:=own_stay rd30 U62 (fun x hx=>not0) (fun _ _ h=>h)
 refine L0<|Oapp one_u8 (xs:=((putW ([t,0,((((lw.length:Nat) : Int) + 1) % 65536)]))++[u])) (ys:=lw) (.int .u8 0) 1 ho59 (r63).rd (by (try simp only [List.length_append,List.length_cons,List.length_nil,putW_length]); omega) (le (le hu41.size hu53.size) hu60.size) fun A64 cp65 w66 ho67 hu68=>Pl 2<|nt<|rt<|rr (.tuple #[.slice A64 ((((putW ([t,0,((((lw.length:Nat) : Int) + 1) % 65536)]))++[u])++lw).length) cp65,.int .i64 0])<|?_
 have hs:mbapW dir u t M=(some (((putW ([t,0,((((lw.length:Nat) : Int) + 1) % 65536)]))++[u])++lw)):=by
   unfold mbapW
   (try simp only [hwr])
   all_goals rfl
 refine ns_eq hs ?_
 have U69:=ut0 hu14 hu22
 have U70:=ut0 U69 hu36
 have U71:=ut0 U70 hu41
 have U72:=ut0 U71 hu53
 have U73:=ut U72 hu60 (all_app (ob_new rd46 U70.size) all0)
 have U74:=ut U73 hu68 (all_app (ob_new ho59 U70.size) all0)
 exact ⟨_,rfl,(OwnG.weaken ho67 (le (le hu14.size hu22.size) hu36.size)),U74⟩
open Go.RowKit
theorem mbap_parse_x {m:Bool} {v:Value} {b:List Int} {w:World} {dir:Int} {F:Frm} {E:Int} (hX:mbapP dir b=(F,E)) (h:RdB m w v b) (hb:b.length≤1048576) : Calls Tryz.prog 192 #[.int .i64 dir,v] w (fun e w'=>∃ x,e = .returned (.tuple #[.agg (fcl F.unit F.tid F.msg x),.int .i64 E])∧(MsgRd true w' (mcl F.msg x).toList F.msg∧(0≤F.unit∧F.unit < 256)∧(0≤F.tid∧F.tid < 65536))∧Upd [] w w'):=by
  refine (mbap_parse h hb).mono ?_
  rintro e w' ⟨cs,rfl,h1,h2⟩
  rw [hX] at h1 ⊢
  obtain ⟨c,rfl,h3,h4,h5⟩:=h1
  obtain ⟨x,rfl⟩:=mcl_of h3
  exact ⟨x,by rw [fcl_eq],⟨h3,h4,h5⟩,h2⟩
theorem mbap_write_n {m:Bool} {x:SL} {M:Msg} {w:World} {dir u t:Int} (hX:mbapW dir u t M=none) (h:MsgRd m w (mcl M x).toList M) (hf:MsgFew M) (hu:0≤u∧u < 256) (ht:0≤t∧t < 65536) : Calls Tryz.prog 209 #[.int .i64 dir,.agg (fcl u t M x)] w (fun e w'=>e = .returned (.tuple #[.slice none 0 0,.int .i64 1])∧Upd [] w w'):=by
  have:=mbap_write (dir:=dir) h hf hu ht
  rw [hX] at this
  rw [fcl_eq]
  exact this
theorem mbap_write_s {m:Bool} {x:SL} {M:Msg} {w:World} {dir u t:Int} {l:List Int} (hX:mbapW dir u t M=some l) (h:MsgRd m w (mcl M x).toList M) (hf:MsgFew M) (hu:0≤u∧u < 256) (ht:0≤t∧t < 65536) : Calls Tryz.prog 209 #[.int .i64 dir,.agg (fcl u t M x)] w (fun e w'=>∃ v,e = .returned (.tuple #[v,.int .i64 0])∧OwnB w.heap.size w' v l∧Upd [] w w'):=by
  have:=mbap_write (dir:=dir) h hf hu ht
  rw [hX] at this
  rw [fcl_eq]
  exact this
open Go.RowKit
def aduP (k dir:Int) (b:List Int) : Frm × Int:=bif k == 0 then rtuP dir b else bif k == 1 then ascP dir b else bif k == 2 then mbapP dir b else (Frm.zero,1)
def aduW (k dir u t:Int) (M:Msg) : Option (List Int):=bif k == 0 then rtuW dir u t M else bif k == 1 then ascW dir u t M else bif k == 2 then mbapW dir u t M else none
def aduM (k:Int) : Int:=bif k == 0 then 256 else bif k == 1 then 513 else bif k == 2 then 260 else 0
theorem k4 {C:Prop} (k:Int) (h0:k=0→C) (h1:k=1→C) (h2:k=2→C) (h3:(k == 0)=false→(k == 1)=false→(k == 2)=false→C) : C:=by
  cases e0:k == 0
  · cases e1:k == 1
    · cases e2:k == 2
      · exact h3 e0 e1 e2
      · exact h2 (by simpa using e2)
    · exact h1 (by simpa using e1)
  · exact h0 (by simpa using e0)
theorem aduP_x {k dir:Int} {b:List Int} (h0:(k == 0)=false) (h1:(k == 1)=false) (h2:(k == 2)=false) : aduP k dir b=(Frm.zero,1):=by unfold aduP; rw [h0,h1,h2]; rfl
theorem aduW_x {k dir u t:Int} {M:Msg} (h0:(k == 0)=false) (h1:(k == 1)=false) (h2:(k == 2)=false) : aduW k dir u t M=none:=by unfold aduW; rw [h0,h1,h2]; rfl
theorem aduM_x {k:Int} (h0:(k == 0)=false) (h1:(k == 1)=false) (h2:(k == 2)=false) : aduM k=0:=by unfold aduM; rw [h0,h1,h2]; rfl
def NewB (base:Nat) (w:World) (v:Value) (xs:List Int) : Prop:=RdB true w v xs∧∃ A n c,v = .slice A n c∧∀ x,x∈ob A→base≤x
theorem NewB.wk {base base':Nat} {w:World} {v:Value} {xs:List Int} (h:NewB base w v xs) (k:base'≤base) : NewB base' w v xs:=by
  obtain ⟨h1,A,n,c,h2,h3⟩:=h
  exact ⟨h1,A,n,c,h2,fun x hx=>Nat.le_trans k (h3 x hx)⟩
def WR (res:Option (List Int)) (base:Nat) (w:World) (v:Value) (n:Int) : Prop:=match res with
  | some l=>n=0∧NewB base w v l
  | none=>n=1∧v = .slice none 0 0
theorem WR.wk {res:Option (List Int)} {base base':Nat} {w:World} {v:Value} {n:Int} (h:WR res base w v n) (k:base'≤base) : WR res base' w v n:=by
  cases res with
  | none=>exact h
  | some l=>exact ⟨h.1,h.2.wk k⟩
def PW2 (res:Option (List Int)) (w:World) (e:Ending) (w':World) : Prop:=∃ v n,e = .returned (.tuple #[v,.int .i64 n])∧WR res w.heap.size w' v n∧Upd [] w w'
theorem NewB.of {base:Nat} {w:World} {v:Value} {xs:List Int} (h:OwnB base w v xs) : NewB base w v xs:=by
  obtain ⟨A,c,rfl,_,_⟩:=h.rd.shape
  exact ⟨h.rd,A,_,c,rfl,ob_ge h⟩
theorem NewB.ofF {base:Nat} {w:World} {v:Value} {xs:List Int} (h:OwnF base w v xs) : NewB base w v xs:=by
  obtain ⟨b,c,rfl⟩:=h.shape
  exact ⟨h.rd,_,_,c,rfl,fun x hx=>by simp [ob] at hx; subst hx; exact h.ge⟩
set_option maxRecDepth 100000 in
set_option maxHeartbeats 4000000 in
theorem adu_of0 {w:World}:Calls Tryz.prog 41 #[.int .i64 0] w (PVal (.iface 122 (.agg #[])) w):=by
 refine en 18 Tryz.func41 rfl<|sg<|Pl 1<|nt<|sq<|sg<|Pl 1<|nt<|bk<|sq<|?_
 refine go<|Pl 2<|nt<|c1<|sg<|Pl 3<|nt<|rt<|br<|tr<|rr (.iface 122 (.agg #[]))<|?_
 exact ⟨rfl,(Upd.refl [] _)⟩
set_option maxRecDepth 100000 in
set_option maxHeartbeats 4000000 in
theorem adu_of1 {w:World}:Calls Tryz.prog 41 #[.int .i64 1] w (PVal (.iface 123 (.agg #[])) w):=by
 refine en 18 Tryz.func41 rfl<|sg<|Pl 1<|nt<|sq<|sg<|Pl 1<|nt<|bk<|sq<|?_
 refine go<|Pl 2<|nt<|c0<|sg<|Pl 2<|nt<|c1<|sg<|Pl 3<|nl<|?_
 refine tn<|rt<|br<|tr<|rr (.iface 123 (.agg #[]))<|?_
 exact ⟨rfl,(Upd.refl [] _)⟩
set_option maxRecDepth 100000 in
set_option maxHeartbeats 4000000 in
theorem adu_of2 {w:World}:Calls Tryz.prog 41 #[.int .i64 2] w (PVal (.iface 124 (.agg #[])) w):=by
 refine en 18 Tryz.func41 rfl<|sg<|Pl 1<|nt<|sq<|sg<|Pl 1<|nt<|bk<|sq<|?_
 refine go<|Pl 2<|nt<|c0<|sg<|Pl 2<|nt<|c0<|sg<|Pl 2<|nl<|?_
 refine tn<|c1<|sg<|Pl 3<|nt<|rt<|br<|tr<|rr (.iface 124 (.agg #[]))<|?_
 exact ⟨rfl,(Upd.refl [] _)⟩
set_option maxRecDepth 100000 in
set_option maxHeartbeats 4000000 in
theorem adu_ofx {w:World} {k:Int} (h0:(k == 0)=false) (h1:(k == 1)=false) (h2:(k == 2)=false) : Calls Tryz.prog 41 #[.int .i64 k] w (PVal (.iface 125 (.agg #[])) w):=by
 refine en 18 Tryz.func41 rfl<|sg<|Pl 1<|nt<|sq<|sg<|Pl 1<|nt<|bk<|sq<|?_
 refine go<|Pl 2<|nt<|cf h0<|sg<|Pl 2<|nt<|cf h1<|sg<|Pl 2<|nl<|?_
 refine tn<|cf h2<|sk<|bn<|tn<|sg<|Pl 3<|nt<|rt<|rr (.iface 125 (.agg #[]))<|?_
 exact ⟨rfl,(Upd.refl [] _)⟩
set_option maxRecDepth 100000 in
set_option maxHeartbeats 4000000 in
theorem adu_mm0 {w:World}:Calls Tryz.prog 193 #[.agg #[]] w (PVal (.int .i64 256) w):=by
 refine en 3 Tryz.func193 rfl<|sg<|L0<|Obx #[] fun g10 w11 hg12 B13 hu14=>Pl 1<|ng<|Pl 1<|nt<|rt<|rr (.int .i64 256)<|?_
 exact ⟨rfl,hu14⟩
set_option maxRecDepth 100000 in
set_option maxHeartbeats 4000000 in
theorem adu_most0 {w:World}:Calls Tryz.prog 20 #[.int .i64 0] w (PVal (.int .i64 256) w):=by
 refine en 6 Tryz.func20 rfl<|sg<|Pl 1<|ng<|Pl 1<|L0<|Oc<|m1 (adu_of0) fun w10 hu11=>L0<|Oci (args:=#[.agg #[]]) 122 (.agg #[]) (.agg #[])<|m1 (@adu_mm0 _) fun w12 hu13=>Pl 1<|nt<|?_
 refine rt<|rr (.int .i64 256)<|?_
 have U14:=ut0 hu11 hu13
 exact ⟨rfl,U14⟩
set_option maxRecDepth 100000 in
set_option maxHeartbeats 4000000 in
theorem adu_mm1 {w:World}:Calls Tryz.prog 197 #[.agg #[]] w (PVal (.int .i64 513) w):=by
 refine en 3 Tryz.func197 rfl<|sg<|L0<|Obx #[] fun g10 w11 hg12 B13 hu14=>Pl 1<|ng<|Pl 1<|nt<|rt<|rr (.int .i64 513)<|?_
 exact ⟨rfl,hu14⟩
set_option maxRecDepth 100000 in
set_option maxHeartbeats 4000000 in
theorem adu_most1 {w:World}:Calls Tryz.prog 20 #[.int .i64 1] w (PVal (.int .i64 513) w):=by
 refine en 6 Tryz.func20 rfl<|sg<|Pl 1<|ng<|Pl 1<|L0<|Oc<|m1 (adu_of1) fun w10 hu11=>L0<|Oci (args:=#[.agg #[]]) 123 (.agg #[]) (.agg #[])<|m1 (@adu_mm1 _) fun w12 hu13=>Pl 1<|nt<|?_
 refine rt<|rr (.int .i64 513)<|?_
 have U14:=ut0 hu11 hu13
 exact ⟨rfl,U14⟩
set_option maxRecDepth 100000 in
set_option maxHeartbeats 4000000 in
theorem adu_mm2 {w:World}:Calls Tryz.prog 206 #[.agg #[]] w (PVal (.int .i64 260) w):=by
 refine en 3 Tryz.func206 rfl<|sg<|L0<|Obx #[] fun g10 w11 hg12 B13 hu14=>Pl 1<|ng<|Pl 1<|nt<|rt<|rr (.int .i64 260)<|?_
 exact ⟨rfl,hu14⟩
set_option maxRecDepth 100000 in
set_option maxHeartbeats 4000000 in
theorem adu_most2 {w:World}:Calls Tryz.prog 20 #[.int .i64 2] w (PVal (.int .i64 260) w):=by
 refine en 6 Tryz.func20 rfl<|sg<|Pl 1<|ng<|Pl 1<|L0<|Oc<|m1 (adu_of2) fun w10 hu11=>L0<|Oci (args:=#[.agg #[]]) 124 (.agg #[]) (.agg #[])<|m1 (@adu_mm2 _) fun w12 hu13=>Pl 1<|nt<|?_
 refine rt<|rr (.int .i64 260)<|?_
 have U14:=ut0 hu11 hu13
 exact ⟨rfl,U14⟩
set_option maxRecDepth 100000 in
set_option maxHeartbeats 4000000 in
theorem adu_mmx {w:World}:Calls Tryz.prog 210 #[.agg #[]] w (PVal (.int .i64 0) w):=by
 refine en 3 Tryz.func210 rfl<|sg<|L0<|Obx #[] fun g10 w11 hg12 B13 hu14=>Pl 1<|ng<|Pl 1<|nt<|rt<|rr (.int .i64 0)<|?_
 exact ⟨rfl,hu14⟩
set_option maxRecDepth 100000 in
set_option maxHeartbeats 4000000 in
theorem adu_mostx {w:World} {k:Int} (h0:(k == 0)=false) (h1:(k == 1)=false) (h2:(k == 2)=false) : Calls Tryz.prog 20 #[.int .i64 k] w (PVal (.int .i64 0) w):=by
 refine en 6 Tryz.func20 rfl<|sg<|Pl 1<|ng<|Pl 1<|L0<|Oc<|m1 (adu_ofx h0 h1 h2) fun w10 hu11=>L0<|Oci (args:=#[.agg #[]]) 125 (.agg #[]) (.agg #[])<|m1 (@adu_mmx _) fun w12 hu13=>Pl 1<|nt<|?_
 refine rt<|rr (.int .i64 0)<|?_
 have U14:=ut0 hu11 hu13
 exact ⟨rfl,U14⟩
theorem adu_most {w:World} {k:Int}:Calls Tryz.prog 20 #[.int .i64 k] w (PVal (.int .i64 (aduM k)) w):=by
  refine k4 k (fun h=>?_) (fun h=>?_) (fun h=>?_) (fun h0 h1 h2=>?_)
  · subst h; exact adu_most0
  · subst h; exact adu_most1
  · subst h; exact adu_most2
  · rw [aduM_x h0 h1 h2]; exact adu_mostx h0 h1 h2
set_option maxRecDepth 100000 in
set_option maxHeartbeats 4000000 in
theorem adu_pm0 {m:Bool} {A:Option Addr} {cp:Nat} {b:List Int} {w:World} {dir:Int} {F:Frm} {E:Int} (hX:rtuP dir b=(F,E)) (hsl:RdB m w (.slice A b.length cp) b) (hb:b.length≤1048576) : Calls Tryz.prog 194 #[.agg #[],.int .i64 dir,.slice A b.length cp] w (fun e w'=>∃ x,e = .returned (.tuple #[.agg (fcl F.unit F.tid F.msg x),.int .i64 E])∧(MsgRd true w' (mcl F.msg x).toList F.msg∧(0≤F.unit∧F.unit < 256)∧(0≤F.tid∧F.tid < 65536))∧Upd [] w w'):=by
 refine en 13 Tryz.func194 rfl<|sg<|L0<|Obx #[] fun g10 w11 hg12 B13 hu14=>L0<|Oal frmZ fun g15 w16 hg17 B18 hu19=>Pl 1<|ng<|Pl 2<|?_
 have U26:=ut0 hu14 hu19
 have r27:=RdB.old hsl U26
 refine L0<|Oc<|e2 (rtu_parse_x hX r27 hb) fun x20 w21 hx28 hu25=>?_
 obtain ⟨hM22,hF23,hF24⟩:=hx28
 refine Pl 2<|?_
 have r29:=ub hu25 B18
 refine L0<|Osw r29 (fcl F.unit F.tid F.msg x20) fun w30 B31 hu32=>Pl 1<|nt<|rt<|rct B31 (.int .i64 E)<|?_
 have r33:=MsgRd.upd hM22 hu32 (safe_cons (safe1 r29 (by decide)) safe0)
 have U34:=ut0 U26 hu25
 have U35:=u1 U34 hu32 (ni hu14.size hg17)
 exact ⟨x20,rfl,⟨r33,hF23,hF24⟩,U35⟩
set_option maxRecDepth 100000 in
set_option maxHeartbeats 4000000 in
theorem adu_parse0 {m:Bool} {A:Option Addr} {cp:Nat} {b:List Int} {w:World} {dir:Int} {F:Frm} {E:Int} (hX:rtuP dir b=(F,E)) (hsl:RdB m w (.slice A b.length cp) b) (hb:b.length≤1048576) : Calls Tryz.prog 21 #[.int .i64 0,.int .i64 dir,.slice A b.length cp] w (fun e w'=>∃ x,e = .returned (.tuple #[.agg (fcl F.unit F.tid F.msg x),.int .i64 E])∧(MsgRd true w' (mcl F.msg x).toList F.msg∧(0≤F.unit∧F.unit < 256)∧(0≤F.tid∧F.tid < 65536))∧Upd [] w w'):=by
 refine en 15 Tryz.func21 rfl<|sg<|L0<|Oal frmZ fun g10 w11 hg12 B13 hu14=>Pl 1<|ng<|Pl 1<|L0<|Oc<|m1 (adu_of0) fun w15 hu16=>Pl 2<|?_
 have U23:=ut0 hu14 hu16
 have r24:=RdB.old hsl U23
 refine L0<|Oci (args:=#[.agg #[],.int .i64 dir,.slice A b.length cp]) 122 (.agg #[]) (.agg #[])<|e2 (adu_pm0 hX r24 hb) fun x17 w18 hx25 hu22=>?_
 obtain ⟨hM19,hF20,hF21⟩:=hx25
 refine Pl 2<|?_
 have U26:=ut0 hu16 hu22
 have r27:=ub U26 B13
 refine L0<|Osw r27 (fcl F.unit F.tid F.msg x17) fun w28 B29 hu30=>Pl 1<|nt<|rt<|rct B29 (.int .i64 E)<|?_
 have r31:=MsgRd.upd hM19 hu30 (safe_cons (safe1 r27 (by decide)) safe0)
 have U32:=ut0 U23 hu22
 have U33:=u1 U32 hu30 (nr hg12)
 exact ⟨x17,rfl,⟨r31,hF20,hF21⟩,U33⟩
set_option maxRecDepth 100000 in
set_option maxHeartbeats 4000000 in
theorem adu_pm1 {m:Bool} {A:Option Addr} {cp:Nat} {b:List Int} {w:World} {dir:Int} {F:Frm} {E:Int} (hX:ascP dir b=(F,E)) (hsl:RdB m w (.slice A b.length cp) b) (hb:b.length≤1048576) : Calls Tryz.prog 198 #[.agg #[],.int .i64 dir,.slice A b.length cp] w (fun e w'=>∃ x,e = .returned (.tuple #[.agg (fcl F.unit F.tid F.msg x),.int .i64 E])∧(MsgRd true w' (mcl F.msg x).toList F.msg∧(0≤F.unit∧F.unit < 256)∧(0≤F.tid∧F.tid < 65536))∧Upd [] w w'):=by
 refine en 13 Tryz.func198 rfl<|sg<|L0<|Obx #[] fun g10 w11 hg12 B13 hu14=>L0<|Oal frmZ fun g15 w16 hg17 B18 hu19=>Pl 1<|ng<|Pl 2<|?_
 have U26:=ut0 hu14 hu19
 have r27:=RdB.old hsl U26
 refine L0<|Oc<|e2 (asc_parse_x hX r27 hb) fun x20 w21 hx28 hu25=>?_
 obtain ⟨hM22,hF23,hF24⟩:=hx28
 refine Pl 2<|?_
 have r29:=ub hu25 B18
 refine L0<|Osw r29 (fcl F.unit F.tid F.msg x20) fun w30 B31 hu32=>Pl 1<|nt<|rt<|rct B31 (.int .i64 E)<|?_
 have r33:=MsgRd.upd hM22 hu32 (safe_cons (safe1 r29 (by decide)) safe0)
 have U34:=ut0 U26 hu25
 have U35:=u1 U34 hu32 (ni hu14.size hg17)
 exact ⟨x20,rfl,⟨r33,hF23,hF24⟩,U35⟩
set_option maxRecDepth 100000 in
set_option maxHeartbeats 4000000 in
theorem adu_parse1 {m:Bool} {A:Option Addr} {cp:Nat} {b:List Int} {w:World} {dir:Int} {F:Frm} {E:Int} (hX:ascP dir b=(F,E)) (hsl:RdB m w (.slice A b.length cp) b) (hb:b.length≤1048576) : Calls Tryz.prog 21 #[.int .i64 1,.int .i64 dir,.slice A b.length cp] w (fun e w'=>∃ x,e = .returned (.tuple #[.agg (fcl F.unit F.tid F.msg x),.int .i64 E])∧(MsgRd true w' (mcl F.msg x).toList F.msg∧(0≤F.unit∧F.unit < 256)∧(0≤F.tid∧F.tid < 65536))∧Upd [] w w'):=by
 refine en 15 Tryz.func21 rfl<|sg<|L0<|Oal frmZ fun g10 w11 hg12 B13 hu14=>Pl 1<|ng<|Pl 1<|L0<|Oc<|m1 (adu_of1) fun w15 hu16=>Pl 2<|?_
 have U23:=ut0 hu14 hu16
 have r24:=RdB.old hsl U23
 refine L0<|Oci (args:=#[.agg #[],.int .i64 dir,.slice A b.length cp]) 123 (.agg #[]) (.agg #[])<|e2 (adu_pm1 hX r24 hb) fun x17 w18 hx25 hu22=>?_
 obtain ⟨hM19,hF20,hF21⟩:=hx25
 refine Pl 2<|?_
 have U26:=ut0 hu16 hu22
 have r27:=ub U26 B13
 refine L0<|Osw r27 (fcl F.unit F.tid F.msg x17) fun w28 B29 hu30=>Pl 1<|nt<|rt<|rct B29 (.int .i64 E)<|?_
 have r31:=MsgRd.upd hM19 hu30 (safe_cons (safe1 r27 (by decide)) safe0)
 have U32:=ut0 U23 hu22
 have U33:=u1 U32 hu30 (nr hg12)
 exact ⟨x17,rfl,⟨r31,hF20,hF21⟩,U33⟩
set_option maxRecDepth 100000 in
set_option maxHeartbeats 4000000 in
theorem adu_pm2 {m:Bool} {A:Option Addr} {cp:Nat} {b:List Int} {w:World} {dir:Int} {F:Frm} {E:Int} (hX:mbapP dir b=(F,E)) (hsl:RdB m w (.slice A b.length cp) b) (hb:b.length≤1048576) : Calls Tryz.prog 207 #[.agg #[],.int .i64 dir,.slice A b.length cp] w (fun e w'=>∃ x,e = .returned (.tuple #[.agg (fcl F.unit F.tid F.msg x),.int .i64 E])∧(MsgRd true w' (mcl F.msg x).toList F.msg∧(0≤F.unit∧F.unit < 256)∧(0≤F.tid∧F.tid < 65536))∧Upd [] w w'):=by
 refine en 13 Tryz.func207 rfl<|sg<|L0<|Obx #[] fun g10 w11 hg12 B13 hu14=>L0<|Oal frmZ fun g15 w16 hg17 B18 hu19=>Pl 1<|ng<|Pl 2<|?_
 have U26:=ut0 hu14 hu19
 have r27:=RdB.old hsl U26
 refine L0<|Oc<|e2 (mbap_parse_x hX r27 hb) fun x20 w21 hx28 hu25=>?_
 obtain ⟨hM22,hF23,hF24⟩:=hx28
 refine Pl 2<|?_
 have r29:=ub hu25 B18
 refine L0<|Osw r29 (fcl F.unit F.tid F.msg x20) fun w30 B31 hu32=>Pl 1<|nt<|rt<|rct B31 (.int .i64 E)<|?_
 have r33:=MsgRd.upd hM22 hu32 (safe_cons (safe1 r29 (by decide)) safe0)
 have U34:=ut0 U26 hu25
 have U35:=u1 U34 hu32 (ni hu14.size hg17)
 exact ⟨x20,rfl,⟨r33,hF23,hF24⟩,U35⟩
set_option maxRecDepth 100000 in
set_option maxHeartbeats 4000000 in
theorem adu_parse2 {m:Bool} {A:Option Addr} {cp:Nat} {b:List Int} {w:World} {dir:Int} {F:Frm} {E:Int} (hX:mbapP dir b=(F,E)) (hsl:RdB m w (.slice A b.length cp) b) (hb:b.length≤1048576) : Calls Tryz.prog 21 #[.int .i64 2,.int .i64 dir,.slice A b.length cp] w (fun e w'=>∃ x,e = .returned (.tuple #[.agg (fcl F.unit F.tid F.msg x),.int .i64 E])∧(MsgRd true w' (mcl F.msg x).toList F.msg∧(0≤F.unit∧F.unit < 256)∧(0≤F.tid∧F.tid < 65536))∧Upd [] w w'):=by
 refine en 15 Tryz.func21 rfl<|sg<|L0<|Oal frmZ fun g10 w11 hg12 B13 hu14=>Pl 1<|ng<|Pl 1<|L0<|Oc<|m1 (adu_of2) fun w15 hu16=>Pl 2<|?_
 have U23:=ut0 hu14 hu16
 have r24:=RdB.old hsl U23
 refine L0<|Oci (args:=#[.agg #[],.int .i64 dir,.slice A b.length cp]) 124 (.agg #[]) (.agg #[])<|e2 (adu_pm2 hX r24 hb) fun x17 w18 hx25 hu22=>?_
 obtain ⟨hM19,hF20,hF21⟩:=hx25
 refine Pl 2<|?_
 have U26:=ut0 hu16 hu22
 have r27:=ub U26 B13
 refine L0<|Osw r27 (fcl F.unit F.tid F.msg x17) fun w28 B29 hu30=>Pl 1<|nt<|rt<|rct B29 (.int .i64 E)<|?_
 have r31:=MsgRd.upd hM19 hu30 (safe_cons (safe1 r27 (by decide)) safe0)
 have U32:=ut0 U23 hu22
 have U33:=u1 U32 hu30 (nr hg12)
 exact ⟨x17,rfl,⟨r31,hF20,hF21⟩,U33⟩
set_option maxRecDepth 100000 in
set_option maxHeartbeats 4000000 in
theorem adu_pmx {m:Bool} {A:Option Addr} {cp:Nat} {b:List Int} {w:World} {dir:Int} {F:Frm} {E:Int} (hX:(Frm.zero,(1:Int))=(F,E)) (hsl:RdB m w (.slice A b.length cp) b) (hb:b.length≤1048576) : Calls Tryz.prog 211 #[.agg #[],.int .i64 dir,.slice A b.length cp] w (fun e w'=>∃ x,e = .returned (.tuple #[.agg (fcl F.unit F.tid F.msg x),.int .i64 E])∧(MsgRd true w' (mcl F.msg x).toList F.msg∧(0≤F.unit∧F.unit < 256)∧(0≤F.tid∧F.tid < 65536))∧Upd [] w w'):=by
 refine en 9 Tryz.func211 rfl<|sg<|L0<|Obx #[] fun g10 w11 hg12 B13 hu14=>L0<|Oal frmZ fun g15 w16 hg17 B18 hu19=>Pl 1<|ng<|Pl 1<|L0<|Osw B18 frmZ fun w20 B21 hu22=>Pl 1<|nl<|?_
 refine tn<|rt<|rct B21 (.int .i64 1)<|?_
 injection hX with e1 e2
 subst e1 e2
 have U23:=ut0 hu14 hu19
 have U24:=u1 U23 hu22 (ni hu14.size hg17)
 exact ⟨⟨none,0,none,0,none,0,none,0,none,0⟩,rfl,⟨MsgRd.zero ..,(show (0:Int)≤0∧(0:Int) < 256 from by decide),(show (0:Int)≤0∧(0:Int) < 65536 from by decide)⟩,U24⟩
set_option maxRecDepth 100000 in
set_option maxHeartbeats 4000000 in
theorem adu_parsex {m:Bool} {A:Option Addr} {cp:Nat} {b:List Int} {w:World} {dir:Int} {F:Frm} {E:Int} {k:Int} (h0:(k == 0)=false) (h1:(k == 1)=false) (h2:(k == 2)=false) (hX:(Frm.zero,(1:Int))=(F,E)) (hsl:RdB m w (.slice A b.length cp) b) (hb:b.length≤1048576) : Calls Tryz.prog 21 #[.int .i64 k,.int .i64 dir,.slice A b.length cp] w (fun e w'=>∃ x,e = .returned (.tuple #[.agg (fcl F.unit F.tid F.msg x),.int .i64 E])∧(MsgRd true w' (mcl F.msg x).toList F.msg∧(0≤F.unit∧F.unit < 256)∧(0≤F.tid∧F.tid < 65536))∧Upd [] w w'):=by
 refine en 15 Tryz.func21 rfl<|sg<|L0<|Oal frmZ fun g10 w11 hg12 B13 hu14=>Pl 1<|ng<|Pl 1<|L0<|Oc<|m1 (adu_ofx h0 h1 h2) fun w15 hu16=>Pl 2<|?_
 have U23:=ut0 hu14 hu16
 have r24:=RdB.old hsl U23
 refine L0<|Oci (args:=#[.agg #[],.int .i64 dir,.slice A b.length cp]) 125 (.agg #[]) (.agg #[])<|e2 (adu_pmx hX r24 hb) fun x17 w18 hx25 hu22=>?_
 obtain ⟨hM19,hF20,hF21⟩:=hx25
 refine Pl 2<|?_
 have U26:=ut0 hu16 hu22
 have r27:=ub U26 B13
 refine L0<|Osw r27 (fcl F.unit F.tid F.msg x17) fun w28 B29 hu30=>Pl 1<|nt<|rt<|rct B29 (.int .i64 E)<|?_
 have r31:=MsgRd.upd hM19 hu30 (safe_cons (safe1 r27 (by decide)) safe0)
 have U32:=ut0 U23 hu22
 have U33:=u1 U32 hu30 (nr hg12)
 exact ⟨x17,rfl,⟨r31,hF20,hF21⟩,U33⟩
theorem adu_parse_x {k:Int} {m:Bool} {v:Value} {b:List Int} {w:World} {dir:Int} {F:Frm} {E:Int} (hX:aduP k dir b=(F,E)) (h:RdB m w v b) (hb:b.length≤1048576) : Calls Tryz.prog 21 #[.int .i64 k,.int .i64 dir,v] w (fun e w'=>∃ x,e = .returned (.tuple #[.agg (fcl F.unit F.tid F.msg x),.int .i64 E])∧(MsgRd true w' (mcl F.msg x).toList F.msg∧(0≤F.unit∧F.unit < 256)∧(0≤F.tid∧F.tid < 65536))∧Upd [] w w'):=by
  obtain ⟨A,cp,rfl,_,_⟩:=h.shape
  refine k4 k (fun e=>?_) (fun e=>?_) (fun e=>?_) (fun h0 h1 h2=>?_)
  · subst e; exact adu_parse0 hX h hb
  · subst e; exact adu_parse1 hX h hb
  · subst e; exact adu_parse2 hX h hb
  · rw [aduP_x h0 h1 h2] at hX; exact adu_parsex h0 h1 h2 hX h hb
theorem rtu_write2 {m:Bool} {x:SL} {M:Msg} {w:World} {dir u t:Int} (h:MsgRd m w (mcl M x).toList M) (hf:MsgFew M) (hbu:0≤u∧u < 256) (hbt:0≤t∧t < 65536) : Calls Tryz.prog 196 #[.int .i64 dir,.agg (fcl u t M x)] w (PW2 (rtuW dir u t M) w):=by
  cases hX:rtuW dir u t M with
  | none =>
    refine (rtu_write_n hX h hf hbu hbt).mono ?_
    rintro e w' ⟨rfl,hu⟩
    exact ⟨_,_,rfl,⟨rfl,rfl⟩,hu⟩
  | some l =>
    refine (rtu_write_s hX h hf hbu hbt).mono ?_
    rintro e w' ⟨v,rfl,ho,hu⟩
    exact ⟨_,_,rfl,⟨rfl,NewB.of ho⟩,hu⟩
set_option maxRecDepth 100000 in
set_option maxHeartbeats 4000000 in
theorem adu_wm0 {m:Bool} {x:SL} {M:Msg} {w:World} {dir u t:Int} (h:MsgRd m w (mcl M x).toList M) (hf:MsgFew M) (hbu:0≤u∧u < 256) (hbt:0≤t∧t < 65536) : Calls Tryz.prog 195 #[.agg #[],.int .i64 dir,.agg (fcl u t M x)] w (PW2 (rtuW dir u t M) w):=by
 refine en 13 Tryz.func195 rfl<|sg<|L0<|Obx #[] fun g10 w11 hg12 B13 hu14=>L0<|Obx (fcl u t M x) fun g15 w16 hg17 B18 hu19=>Pl 2<|ng<|Pl 1<|L0<|Olw B18<|?_
 have U20:=ut0 hu14 hu19
 have r21:=MsgRd.old h U20
 refine L0<|Oc<|ee2 (rtu_write2 (dir:=dir) r21 hf hbu hbt) fun v23 n24 w22 ho25 hu26=>Pl 4<|nt<|rt<|rr (.tuple #[v23,.int .i64 n24])<|?_
 have U27:=ut0 U20 hu26
 exact ⟨_,_,rfl,ho25.wk U20.size,U27⟩
set_option maxRecDepth 100000 in
set_option maxHeartbeats 4000000 in
theorem adu_write0 {m:Bool} {x:SL} {M:Msg} {w:World} {dir u t:Int} (h:MsgRd m w (mcl M x).toList M) (hf:MsgFew M) (hbu:0≤u∧u < 256) (hbt:0≤t∧t < 65536) : Calls Tryz.prog 18 #[.int .i64 0,.int .i64 dir,.agg (fcl u t M x)] w (PW2 (rtuW dir u t M) w):=by
 refine en 15 Tryz.func18 rfl<|sg<|L0<|Obx (fcl u t M x) fun g10 w11 hg12 B13 hu14=>Pl 2<|nt<|sq<|Rg 9 (fun w'=>w'.heap[g10]? = some (.cells (fcl u t M x) 33 (0,0))) fun w24 hu25=>?_
 have r27:=ub hu25 B13
 refine hld r27 fun hS26=>Rt 0 hS26<|Rt 2 hS26<|Rr 3 hS26 (.agg (fcl u t M x)) (fun w' hs=>lda_o (g:=g10) (off:=0) [.int .u8 u,.int .u16 t,.int .u8 M.code,.int .u8 M.fail,.int .u16 M.addr,.int .u16 M.count,.int .u16 M.value,.int .u16 M.and_,.int .u16 M.or_,.int .u16 M.addr2,.int .u16 M.sub,.int .u16 M.status,.int .u16 M.events,.int .u16 M.messages,.slice x.aw M.words.length x.kw,.slice x.ab M.bits.length x.kb,.slice x.ad M.data.length x.kd,.slice x.ar M.recs.length x.kr,.int .u8 M.mei,.int .u8 M.kind,.int .u8 M.level,.int .u8 M.more,.int .u8 M.next,.slice x.ao M.objects.length x.ko] rfl (by kernel_rfl) hs (by kernel_rfl) (by kernel_rfl) rfl)<|R0 1 rfl<|Oc<|m1 (adu_of0) fun w28 hu29=>?_
 have r31:=ub hu29 r27
 refine hld r31 fun hS30=>?_
 have U32:=ut0 hu14 hu25
 have U33:=ut0 U32 hu29
 have r34:=MsgRd.old h U33
 refine R0 4 rfl<|Oci (args:=#[.agg #[],.int .i64 dir,.agg (fcl u t M x)]) 122 (.agg #[]) (.agg #[])<|ee2 (adu_wm0 (dir:=dir) r34 hf hbu hbt) fun v36 n37 w35 ho38 hu39=>?_
 have r41:=ub hu39 r31
 refine hld r41 fun hS40=>Rt 5 hS40<|Rt 6 hS40<|Rt 7 hS40<|Rt 8 hS40<|re<|tn<|rt<|rr (.tuple #[v36,.int .i64 n37])<|?_
 have U42:=ut0 U33 hu39
 exact ⟨_,_,rfl,ho38.wk U33.size,U42⟩
theorem asc_write2 {m:Bool} {x:SL} {M:Msg} {w:World} {dir u t:Int} (h:MsgRd m w (mcl M x).toList M) (hf:MsgFew M) (hbu:0≤u∧u < 256) (hbt:0≤t∧t < 65536) : Calls Tryz.prog 200 #[.int .i64 dir,.agg (fcl u t M x)] w (PW2 (ascW dir u t M) w):=by
  cases hX:ascW dir u t M with
  | none =>
    refine (asc_write_n hX h hf hbu hbt).mono ?_
    rintro e w' ⟨rfl,hu⟩
    exact ⟨_,_,rfl,⟨rfl,rfl⟩,hu⟩
  | some l =>
    refine (asc_write_s hX h hf hbu hbt).mono ?_
    rintro e w' ⟨v,rfl,ho,hu⟩
    exact ⟨_,_,rfl,⟨rfl,NewB.ofF ho⟩,hu⟩
set_option maxRecDepth 100000 in
set_option maxHeartbeats 4000000 in
theorem adu_wm1 {m:Bool} {x:SL} {M:Msg} {w:World} {dir u t:Int} (h:MsgRd m w (mcl M x).toList M) (hf:MsgFew M) (hbu:0≤u∧u < 256) (hbt:0≤t∧t < 65536) : Calls Tryz.prog 199 #[.agg #[],.int .i64 dir,.agg (fcl u t M x)] w (PW2 (ascW dir u t M) w):=by
 refine en 13 Tryz.func199 rfl<|sg<|L0<|Obx #[] fun g10 w11 hg12 B13 hu14=>L0<|Obx (fcl u t M x) fun g15 w16 hg17 B18 hu19=>Pl 2<|ng<|Pl 1<|L0<|Olw B18<|?_
 have U20:=ut0 hu14 hu19
 have r21:=MsgRd.old h U20
 refine L0<|Oc<|ee2 (asc_write2 (dir:=dir) r21 hf hbu hbt) fun v23 n24 w22 ho25 hu26=>Pl 4<|nt<|rt<|rr (.tuple #[v23,.int .i64 n24])<|?_
 have U27:=ut0 U20 hu26
 exact ⟨_,_,rfl,ho25.wk U20.size,U27⟩
set_option maxRecDepth 100000 in
set_option maxHeartbeats 4000000 in
theorem adu_write1 {m:Bool} {x:SL} {M:Msg} {w:World} {dir u t:Int} (h:MsgRd m w (mcl M x).toList M) (hf:MsgFew M) (hbu:0≤u∧u < 256) (hbt:0≤t∧t < 65536) : Calls Tryz.prog 18 #[.int .i64 1,.int .i64 dir,.agg (fcl u t M x)] w (PW2 (ascW dir u t M) w):=by
 refine en 15 Tryz.func18 rfl<|sg<|L0<|Obx (fcl u t M x) fun g10 w11 hg12 B13 hu14=>Pl 2<|nt<|sq<|Rg 9 (fun w'=>w'.heap[g10]? = some (.cells (fcl u t M x) 33 (0,0))) fun w24 hu25=>?_
 have r27:=ub hu25 B13
 refine hld r27 fun hS26=>Rt 0 hS26<|Rt 2 hS26<|Rr 3 hS26 (.agg (fcl u t M x)) (fun w' hs=>lda_o (g:=g10) (off:=0) [.int .u8 u,.int .u16 t,.int .u8 M.code,.int .u8 M.fail,.int .u16 M.addr,.int .u16 M.count,.int .u16 M.value,.int .u16 M.and_,.int .u16 M.or_,.int .u16 M.addr2,.int .u16 M.sub,.int .u16 M.status,.int .u16 M.events,.int .u16 M.messages,.slice x.aw M.words.length x.kw,.slice x.ab M.bits.length x.kb,.slice x.ad M.data.length x.kd,.slice x.ar M.recs.length x.kr,.int .u8 M.mei,.int .u8 M.kind,.int .u8 M.level,.int .u8 M.more,.int .u8 M.next,.slice x.ao M.objects.length x.ko] rfl (by kernel_rfl) hs (by kernel_rfl) (by kernel_rfl) rfl)<|R0 1 rfl<|Oc<|m1 (adu_of1) fun w28 hu29=>?_
 have r31:=ub hu29 r27
 refine hld r31 fun hS30=>?_
 have U32:=ut0 hu14 hu25
 have U33:=ut0 U32 hu29
 have r34:=MsgRd.old h U33
 refine R0 4 rfl<|Oci (args:=#[.agg #[],.int .i64 dir,.agg (fcl u t M x)]) 123 (.agg #[]) (.agg #[])<|ee2 (adu_wm1 (dir:=dir) r34 hf hbu hbt) fun v36 n37 w35 ho38 hu39=>?_
 have r41:=ub hu39 r31
 refine hld r41 fun hS40=>Rt 5 hS40<|Rt 6 hS40<|Rt 7 hS40<|Rt 8 hS40<|re<|tn<|rt<|rr (.tuple #[v36,.int .i64 n37])<|?_
 have U42:=ut0 U33 hu39
 exact ⟨_,_,rfl,ho38.wk U33.size,U42⟩
theorem mbap_write2 {m:Bool} {x:SL} {M:Msg} {w:World} {dir u t:Int} (h:MsgRd m w (mcl M x).toList M) (hf:MsgFew M) (hbu:0≤u∧u < 256) (hbt:0≤t∧t < 65536) : Calls Tryz.prog 209 #[.int .i64 dir,.agg (fcl u t M x)] w (PW2 (mbapW dir u t M) w):=by
  cases hX:mbapW dir u t M with
  | none =>
    refine (mbap_write_n hX h hf hbu hbt).mono ?_
    rintro e w' ⟨rfl,hu⟩
    exact ⟨_,_,rfl,⟨rfl,rfl⟩,hu⟩
  | some l =>
    refine (mbap_write_s hX h hf hbu hbt).mono ?_
    rintro e w' ⟨v,rfl,ho,hu⟩
    exact ⟨_,_,rfl,⟨rfl,NewB.of ho⟩,hu⟩
set_option maxRecDepth 100000 in
set_option maxHeartbeats 4000000 in
theorem adu_wm2 {m:Bool} {x:SL} {M:Msg} {w:World} {dir u t:Int} (h:MsgRd m w (mcl M x).toList M) (hf:MsgFew M) (hbu:0≤u∧u < 256) (hbt:0≤t∧t < 65536) : Calls Tryz.prog 208 #[.agg #[],.int .i64 dir,.agg (fcl u t M x)] w (PW2 (mbapW dir u t M) w):=by
 refine en 13 Tryz.func208 rfl<|sg<|L0<|Obx #[] fun g10 w11 hg12 B13 hu14=>L0<|Obx (fcl u t M x) fun g15 w16 hg17 B18 hu19=>Pl 2<|ng<|Pl 1<|L0<|Olw B18<|?_
 have U20:=ut0 hu14 hu19
 have r21:=MsgRd.old h U20
 refine L0<|Oc<|ee2 (mbap_write2 (dir:=dir) r21 hf hbu hbt) fun v23 n24 w22 ho25 hu26=>Pl 4<|nt<|rt<|rr (.tuple #[v23,.int .i64 n24])<|?_
 have U27:=ut0 U20 hu26
 exact ⟨_,_,rfl,ho25.wk U20.size,U27⟩
set_option maxRecDepth 100000 in
set_option maxHeartbeats 4000000 in
theorem adu_write2 {m:Bool} {x:SL} {M:Msg} {w:World} {dir u t:Int} (h:MsgRd m w (mcl M x).toList M) (hf:MsgFew M) (hbu:0≤u∧u < 256) (hbt:0≤t∧t < 65536) : Calls Tryz.prog 18 #[.int .i64 2,.int .i64 dir,.agg (fcl u t M x)] w (PW2 (mbapW dir u t M) w):=by
 refine en 15 Tryz.func18 rfl<|sg<|L0<|Obx (fcl u t M x) fun g10 w11 hg12 B13 hu14=>Pl 2<|nt<|sq<|Rg 9 (fun w'=>w'.heap[g10]? = some (.cells (fcl u t M x) 33 (0,0))) fun w24 hu25=>?_
 have r27:=ub hu25 B13
 refine hld r27 fun hS26=>Rt 0 hS26<|Rt 2 hS26<|Rr 3 hS26 (.agg (fcl u t M x)) (fun w' hs=>lda_o (g:=g10) (off:=0) [.int .u8 u,.int .u16 t,.int .u8 M.code,.int .u8 M.fail,.int .u16 M.addr,.int .u16 M.count,.int .u16 M.value,.int .u16 M.and_,.int .u16 M.or_,.int .u16 M.addr2,.int .u16 M.sub,.int .u16 M.status,.int .u16 M.events,.int .u16 M.messages,.slice x.aw M.words.length x.kw,.slice x.ab M.bits.length x.kb,.slice x.ad M.data.length x.kd,.slice x.ar M.recs.length x.kr,.int .u8 M.mei,.int .u8 M.kind,.int .u8 M.level,.int .u8 M.more,.int .u8 M.next,.slice x.ao M.objects.length x.ko] rfl (by kernel_rfl) hs (by kernel_rfl) (by kernel_rfl) rfl)<|R0 1 rfl<|Oc<|m1 (adu_of2) fun w28 hu29=>?_
 have r31:=ub hu29 r27
 refine hld r31 fun hS30=>?_
 have U32:=ut0 hu14 hu25
 have U33:=ut0 U32 hu29
 have r34:=MsgRd.old h U33
 refine R0 4 rfl<|Oci (args:=#[.agg #[],.int .i64 dir,.agg (fcl u t M x)]) 124 (.agg #[]) (.agg #[])<|ee2 (adu_wm2 (dir:=dir) r34 hf hbu hbt) fun v36 n37 w35 ho38 hu39=>?_
 have r41:=ub hu39 r31
 refine hld r41 fun hS40=>Rt 5 hS40<|Rt 6 hS40<|Rt 7 hS40<|Rt 8 hS40<|re<|tn<|rt<|rr (.tuple #[v36,.int .i64 n37])<|?_
 have U42:=ut0 U33 hu39
 exact ⟨_,_,rfl,ho38.wk U33.size,U42⟩
set_option maxRecDepth 100000 in
set_option maxHeartbeats 4000000 in
theorem adu_wmx {m:Bool} {x:SL} {M:Msg} {w:World} {dir u t:Int} (h:MsgRd m w (mcl M x).toList M) (hf:MsgFew M) (hbu:0≤u∧u < 256) (hbt:0≤t∧t < 65536) : Calls Tryz.prog 212 #[.agg #[],.int .i64 dir,.agg (fcl u t M x)] w (PW2 (none) w):=by
 refine en 8 Tryz.func212 rfl<|sg<|L0<|Obx #[] fun g10 w11 hg12 B13 hu14=>L0<|Obx (fcl u t M x) fun g15 w16 hg17 B18 hu19=>Pl 2<|ng<|Pl 2<|nt<|rt<|?_
 refine rr (.tuple #[.slice none 0 0,.int .i64 1])<|?_
 have U20:=ut0 hu14 hu19
 exact ⟨_,_,rfl,⟨rfl,rfl⟩,U20⟩
set_option maxRecDepth 100000 in
set_option maxHeartbeats 4000000 in
theorem adu_writex {m:Bool} {x:SL} {M:Msg} {w:World} {dir u t:Int} (h:MsgRd m w (mcl M x).toList M) (hf:MsgFew M) (hbu:0≤u∧u < 256) (hbt:0≤t∧t < 65536) {k:Int} (h0:(k == 0)=false) (h1:(k == 1)=false) (h2:(k == 2)=false) : Calls Tryz.prog 18 #[.int .i64 k,.int .i64 dir,.agg (fcl u t M x)] w (PW2 (none) w):=by
 refine en 15 Tryz.func18 rfl<|sg<|L0<|Obx (fcl u t M x) fun g10 w11 hg12 B13 hu14=>Pl 2<|nt<|sq<|Rg 9 (fun w'=>w'.heap[g10]? = some (.cells (fcl u t M x) 33 (0,0))) fun w24 hu25=>?_
 have r27:=ub hu25 B13
 refine hld r27 fun hS26=>Rt 0 hS26<|Rt 2 hS26<|Rr 3 hS26 (.agg (fcl u t M x)) (fun w' hs=>lda_o (g:=g10) (off:=0) [.int .u8 u,.int .u16 t,.int .u8 M.code,.int .u8 M.fail,.int .u16 M.addr,.int .u16 M.count,.int .u16 M.value,.int .u16 M.and_,.int .u16 M.or_,.int .u16 M.addr2,.int .u16 M.sub,.int .u16 M.status,.int .u16 M.events,.int .u16 M.messages,.slice x.aw M.words.length x.kw,.slice x.ab M.bits.length x.kb,.slice x.ad M.data.length x.kd,.slice x.ar M.recs.length x.kr,.int .u8 M.mei,.int .u8 M.kind,.int .u8 M.level,.int .u8 M.more,.int .u8 M.next,.slice x.ao M.objects.length x.ko] rfl (by kernel_rfl) hs (by kernel_rfl) (by kernel_rfl) rfl)<|R0 1 rfl<|Oc<|m1 (adu_ofx h0 h1 h2) fun w28 hu29=>?_
 have r31:=ub hu29 r27
 refine hld r31 fun hS30=>?_
 have U32:=ut0 hu14 hu25
 have U33:=ut0 U32 hu29
 have r34:=MsgRd.old h U33
 refine R0 4 rfl<|Oci (args:=#[.agg #[],.int .i64 dir,.agg (fcl u t M x)]) 125 (.agg #[]) (.agg #[])<|ee2 (adu_wmx (dir:=dir) r34 hf hbu hbt) fun v36 n37 w35 ho38 hu39=>?_
 have r41:=ub hu39 r31
 refine hld r41 fun hS40=>Rt 5 hS40<|Rt 6 hS40<|Rt 7 hS40<|Rt 8 hS40<|re<|tn<|rt<|rr (.tuple #[v36,.int .i64 n37])<|?_
 have U42:=ut0 U33 hu39
 exact ⟨_,_,rfl,ho38.wk U33.size,U42⟩
theorem adu_write {k:Int} {m:Bool} {x:SL} {M:Msg} {w:World} {dir u t:Int} (h:MsgRd m w (mcl M x).toList M) (hf:MsgFew M) (hbu:0≤u∧u < 256) (hbt:0≤t∧t < 65536) : Calls Tryz.prog 18 #[.int .i64 k,.int .i64 dir,.agg (fcl u t M x)] w (PW2 (aduW k dir u t M) w):=by
  refine k4 k (fun e=>?_) (fun e=>?_) (fun e=>?_) (fun h0 h1 h2=>?_)
  · subst e; exact adu_write0 h hf hbu hbt
  · subst e; exact adu_write1 h hf hbu hbt
  · subst e; exact adu_write2 h hf hbu hbt
  · rw [aduW_x h0 h1 h2]; exact adu_writex h hf hbu hbt h0 h1 h2
theorem adu_write_n {k:Int} {m:Bool} {x:SL} {M:Msg} {w:World} {dir u t:Int} (h:MsgRd m w (mcl M x).toList M) (hf:MsgFew M) (hbu:0≤u∧u < 256) (hbt:0≤t∧t < 65536) (hX:aduW k dir u t M=none) : Calls Tryz.prog 18 #[.int .i64 k,.int .i64 dir,.agg (fcl u t M x)] w (fun e w'=>e = .returned (.tuple #[.slice none 0 0,.int .i64 1])∧Upd [] w w'):=by
  refine (adu_write h hf hbu hbt).mono ?_
  rw [hX]
  rintro e w' ⟨v,n,rfl,⟨rfl,rfl⟩,hu⟩
  exact ⟨rfl,hu⟩
theorem adu_write_s {k:Int} {m:Bool} {x:SL} {M:Msg} {w:World} {dir u t:Int} {l:List Int} (h:MsgRd m w (mcl M x).toList M) (hf:MsgFew M) (hbu:0≤u∧u < 256) (hbt:0≤t∧t < 65536) (hX:aduW k dir u t M=some l) : Calls Tryz.prog 18 #[.int .i64 k,.int .i64 dir,.agg (fcl u t M x)] w (fun e w'=>∃ v,e = .returned (.tuple #[v,.int .i64 0])∧NewB w.heap.size w' v l∧Upd [] w w'):=by
  refine (adu_write h hf hbu hbt).mono ?_
  rw [hX]
  rintro e w' ⟨v,n,rfl,⟨rfl,ho⟩,hu⟩
  exact ⟨v,rfl,ho,hu⟩
end Go.Proofs.YtpglhicfhppaiaaGreat
namespace Go.Proofs.YtpglhicfhppaiaaGreat
def Byt (C:Cur) : Prop:=∀ x,x∈C.l→0≤x∧x < 256
theorem nd_ok {C:Cur} {ok:Bool} {x:Int} (hx:x ≠ 0) (h:(C.need ok x).e=0) : C.e=0∧ok=true:=by
  unfold Cur.need at h
  split at h
  · exact absurd h hx
  · rename_i hh
    refine ⟨h,?_⟩
    cases ok
    · exact absurd ⟨h,rfl⟩ hh
    · rfl
theorem by_ok {C:Cur} {n:Int} (h:(C.bytesC n).e=0) : C.e=0∧C.l=C.bytesR n++(C.bytesC n).l∧((C.bytesR n).length:Int)=n:=by
  unfold Cur.bytesC at h ⊢
  unfold Cur.bytesR
  split at h
  · exfalso
    unfold Cur.need at h
    split at h
    · cases h
    · rename_i hh
      exact hh ⟨h,rfl⟩
  · rename_i hf
    rw [if_neg hf,if_neg hf]
    refine ⟨h,(List.take_append_drop _ _).symm,?_⟩
    unfold Cur.fails at hf
    simp only [Bool.or_eq_true,decide_eq_true_eq,not_or] at hf
    rw [List.length_take]
    omega
theorem putW_takeW:∀ (l:List Int),l.length % 2=0→(∀ x,x∈l→0≤x∧x < 256)→putW (takeW l)=l
  | [],_,_=>rfl
  | [_],h,_=>by simp at h
  | a :: b :: r,h,hr=>by
    have ha:=hr a (by simp)
    have hb:=hr b (by simp)
    simp only [takeW,putW]
    rw [putW_takeW r (by simp at h; omega) (fun x hx=>hr x (by simp [hx]))]
    congr 1
    · omega
    · congr 1
      omega
theorem wo_ok {C:Cur} {n:Int} (hr:Byt C) (h:(C.wordsC n).e=0) : C.e=0∧C.l=putW (C.wordsR n)++(C.wordsC n).l∧((C.wordsR n).length:Int)=n:=by
  unfold Cur.wordsC at h ⊢
  unfold Cur.wordsR
  split at h
  · obtain ⟨_,_,h3⟩:=by_ok h
    omega
  · rename_i hb
    rw [if_neg hb,if_neg hb]
    obtain ⟨h1,h2,h3⟩:=by_ok h
    have h4:(C.bytesR (2 * n)).length % 2=0:=by omega
    have h5:∀ x,x∈C.bytesR (2 * n)→0≤x∧x < 256:=fun x hx=>hr x (by rw [h2]; exact List.mem_append_left _ hx)
    unfold wordTake
    rw [if_pos h4]
    refine ⟨h1,by rw [putW_takeW _ h4 h5]; exact h2,?_⟩
    rw [takeW_length]
    omega
def Eat (C:Cur) (l:List Int) (C':Cur) : Prop:=Byt C→Byt C'∧(C'.e=0→C.e=0∧C.l=l++C'.l)
theorem Eat.trans {A B C:Cur} {l m:List Int} (h:Eat A l B) (k:Eat B m C) : Eat A (l++m) C:=fun hr=>by
  obtain ⟨h1,h2⟩:=h hr
  obtain ⟨k1,k2⟩:=k h1
  refine ⟨k1,fun he=>?_⟩
  obtain ⟨k3,k4⟩:=k2 he
  obtain ⟨h3,h4⟩:=h2 k3
  exact ⟨h3,by rw [h4,k4,List.append_assoc]⟩
theorem Eat.refl (C:Cur) : Eat C [] C:=fun hr=>⟨hr,fun he=>⟨he,rfl⟩⟩
theorem Eat.need {A C:Cur} {l:List Int} {ok:Bool} {x:Int} (h:Eat A l C) (hx:x ≠ 0:=by decide) : Eat A l (C.need ok x):=fun hr=>by
  obtain ⟨h1,h2⟩:=h hr
  refine ⟨fun y hy=>h1 y (by rwa [need_l] at hy),fun he=>?_⟩
  rw [need_l]
  exact h2 (nd_ok hx he).1
theorem Eat.bytes {A C:Cur} {l:List Int} (h:Eat A l C) (n:Int) : Eat A (l++C.bytesR n) (C.bytesC n):=h.trans fun hr=>⟨bytesC_rng hr n,fun he=>⟨(by_ok he).1,(by_ok he).2.1⟩⟩
theorem Eat.words {A C:Cur} {l:List Int} (h:Eat A l C) (n:Int) : Eat A (l++putW (C.wordsR n)) (C.wordsC n):=h.trans fun hr=>⟨wordsC_rng hr n,fun he=>⟨(wo_ok hr he).1,(wo_ok hr he).2.1⟩⟩
theorem one_of {l:List Int} (h:(l.length:Int)=1) : l=[l.getD 0 0]:=by
  match l,h with
  | [a],_=>rfl
  | [],h=>simp at h
  | _ :: _ :: _,h=>simp at h; omega
theorem Eat.byte {A C:Cur} {l:List Int} (h:Eat A l C) : Eat A (l++[C.byteV]) (C.bytesC 1):=h.trans fun hr=>⟨bytesC_rng hr 1,fun he=>by
  obtain ⟨h1,h2,h3⟩:=by_ok he
  refine ⟨h1,?_⟩
  have:=one_of h3
  show C.l=[(C.bytesR 1).getD 0 0]++_
  rw [← this]
  exact h2⟩
theorem Eat.word {A C:Cur} {l:List Int} (h:Eat A l C) : Eat A (l++putW [C.wordV]) (C.wordsC 1):=h.trans fun hr=>⟨wordsC_rng hr 1,fun he=>by
  obtain ⟨h1,h2,h3⟩:=wo_ok hr he
  refine ⟨h1,?_⟩
  have:=one_of h3
  show C.l=putW [(C.wordsR 1).getD 0 0]++_
  rw [← this]
  exact h2⟩
theorem Eat.fin {A C:Cur} {l:List Int} (h:Eat A l C) (hr:Byt A) (he:C.endC.e=0) : C.e=0∧A.l=l:=by
  unfold Cur.endC at he
  obtain ⟨h1,h2⟩:=nd_ok (by decide) he
  obtain ⟨_,h3⟩:=(h hr).2 h1
  have:C.l=[]:=by
    simp only [beq_iff_eq] at h2
    exact List.eq_nil_of_length_eq_zero (by omega)
  exact ⟨h1,by rw [h3,this,List.append_nil]⟩
theorem byteV_rng' {C:Cur} (hr:Byt C) : 0≤C.byteV∧C.byteV < 256:=by
  unfold Cur.byteV
  rw [List.getD_eq_getElem?_getD]
  cases h:(C.bytesR 1)[0]? with
  | none=>simp
  | some x =>
    have hm:x∈C.bytesR 1:=List.mem_of_getElem? h
    have:x∈C.l:=by
      unfold Cur.bytesR at hm
      split at hm
      · cases hm
      · exact List.mem_of_mem_take hm
    exact hr x this
end Go.Proofs.YtpglhicfhppaiaaGreat
namespace Go.Proofs.YtpglhicfhppaiaaGreat
theorem some_pair {α β:Type} {p:α × β} {a:α} {b:β} (h:some p=some (a,b)) : p.1=a∧p.2=b:=by
  injection h with h
  rw [h]
  exact ⟨rfl,rfl⟩
end Go.Proofs.YtpglhicfhppaiaaGreat
namespace Go.Proofs.YtpglhicfhppaiaaGreat
theorem Eat.conv {A C:Cur} {l l':List Int} (h:Eat A l C) (k:Byt A→Byt C→C.e=0→l=l') : Eat A l' C:=fun hr=>by
  obtain ⟨h1,h2⟩:=h hr
  refine ⟨h1,fun he=>?_⟩
  rw [← k hr h1 he]
  exact h2 he
theorem objs_eat:∀ (n:Nat) (C:Cur) (L:List Obj),∃ L',(objsR n C L).2=L++L'∧L'.length=n∧Eat C (objB L') (objsR n C L).1
  | 0,C,L=>⟨[],by simp [objsR],rfl,Eat.refl C⟩
  | n + 1,C,L=>by
    obtain ⟨L',h1,h2,h3⟩:=objs_eat n (((C.bytesC 1).bytesC 1).bytesC (C.bytesC 1).byteV) (L++[⟨C.byteV,((C.bytesC 1).bytesC 1).bytesR (C.bytesC 1).byteV⟩])
    refine ⟨⟨C.byteV,((C.bytesC 1).bytesC 1).bytesR (C.bytesC 1).byteV⟩ :: L',?_,by simp [h2],?_⟩
    · show (objsR n _ _).2=_
      rw [h1]
      simp
    · have hE0:Eat C _ ((C.bytesC 1).bytesC 1):=(Eat.refl C).byte.byte
      have hE1:Eat C (([C.byteV,((((C.bytesC 1).bytesC 1).bytesR (C.bytesC 1).byteV).length:Int) % 256])++((C.bytesC 1).bytesC 1).bytesR (C.bytesC 1).byteV) (((C.bytesC 1).bytesC 1).bytesC (C.bytesC 1).byteV):=(hE0.bytes _).conv fun hr _ he=>by
        have hb:=byteV_rng' ((Eat.refl C).byte hr).1
        rw [(by_ok he).2.2,Int.emod_eq_of_lt hb.1 hb.2]
        rfl
      exact hE1.trans h3
theorem mei_objs {c:Int} {C:Cur} (hr:Byt C) (he:(meiObjs (meiA C).byteV (meiD C)).1.endC.e=0) : [C.byteV,(meiA C).byteV,(meiD C).byteV,(mei1 (meiD C)).byteV,(mei2 (meiD C)).byteV,((meiObjs (meiA C).byteV (meiD C)).2.length:Int) % 256]++objB (meiObjs (meiA C).byteV (meiD C)).2=C.l:=by
  have hE0:Eat C _ (meiA C):=(Eat.refl C).byte.need
  have hE1:Eat C _ (meiD C):=hE0.byte.need
  have hE2:Eat C _ (mei1 (meiD C)):=hE1.byte.need
  have hE3:Eat C _ (mei2 (meiD C)):=hE2.byte.need
  have hE4:Eat C _ (mei3 (meiD C)):=hE3.byte.need
  have hE5:Eat C _ (mei4 (meiA C).byteV (meiD C)):=hE4.byte.need
  obtain ⟨L',h1,h2,h3⟩:=objs_eat (mei3 (meiD C)).byteV.toNat (mei4 (meiA C).byteV (meiD C)) []
  have hb:=byteV_rng' (hE4 hr).1
  have h4:(meiObjs (meiA C).byteV (meiD C)).2=L':=by unfold meiObjs; rw [h1]; rfl
  obtain ⟨_,h5⟩:=(hE5.trans h3).fin hr he
  rw [h4,h2,show (((mei3 (meiD C)).byteV.toNat:Nat) : Int) % 256=(mei3 (meiD C)).byteV from by omega,h5]
  rfl
theorem mei_lb {dir c:Int} {C C':Cur} {M:Msg} (hd:dir=0∨dir=1) (hr:Byt C) (h:meiForm dir c C=some (C',M)) (he:C'.endC.e=0) : meiLay dir M=C.l:=by
  have hE0:Eat C _ (meiA C):=(Eat.refl C).byte.need
  unfold meiForm at h
  split at h
  · cases h
  split at h
  · rename_i hm
    obtain ⟨rfl,rfl⟩:=some_pair h
    have hE1:=(hE0.need (ok:=decide (((meiA C).l.length:Int)≤251)) (x:=5)).bytes ((meiB C).l.length:Int)
    obtain ⟨_,h5⟩:=hE1.fin hr he
    unfold meiLay
    rw [if_pos (show (C.byteV == 13)=true from hm),h5]
    rfl
  rename_i hm
  split at h
  · rename_i hc
    obtain rfl:dir=1:=by simpa using hc
    obtain ⟨rfl,rfl⟩:=some_pair h
    unfold meiLay
    rw [if_neg (show ¬ (C.byteV == 13)=true from hm),if_neg (by decide)]
    exact mei_objs (c:=c) hr he
  · rename_i hc
    obtain rfl:dir=0:=by
      rcases hd with rfl | rfl
      · rfl
      · exact absurd rfl hc
    obtain ⟨rfl,rfl⟩:=some_pair h
    have hE1:Eat C _ (meiD C):=hE0.byte.need
    obtain ⟨_,h5⟩:=hE1.byte.fin hr he
    unfold meiLay
    rw [if_neg (show ¬ (C.byteV == 13)=true from hm),if_pos (by rfl),h5]
    rfl
theorem recs_eat {one:Int→Cur→Int × Cur × Rec} {dir code:Int} (hl:∀ s C,0 < C.l.length→(one s C).2.1.l.length < C.l.length) (hE:∀ s C,Eat C (recB dir code (one s C).2.2) (one s C).2.1) :
    ∀ (n:Nat) (s:Int) (C:Cur) (L:List Rec),C.l.length≤n→Byt C→(recsR one n s C L).1.e=0→∃ L',(recsR one n s C L).2=L++L'∧C.l=filesB dir code L'
  | 0,s,C,L,h,_,_=>⟨[],by simp [recsR],by simpa [filesB] using h⟩
  | n + 1,s,C,L,h,hr,he=>by
    unfold recsR at he ⊢
    split at he
    · rename_i hc
      rw [if_pos hc]
      simp only [Bool.and_eq_true,decide_eq_true_eq,beq_iff_eq] at hc
      have h1:=hl s C (by omega)
      obtain ⟨h2,h3⟩:=hE s C hr
      split at he
      · rename_i hn
        rw [he] at hn
        cases hn
      · rename_i hn
        rw [if_neg hn]
        have h4:(one s C).2.1.e=0:=by simpa using hn
        obtain ⟨L',h5,h6⟩:=recs_eat hl hE n (one s C).1 (one s C).2.1 (L++[(one s C).2.2]) (by omega) h2 he
        refine ⟨(one s C).2.2 :: L',by rw [h5]; simp,?_⟩
        rw [(h3 h4).2,h6]
        rfl
    · rename_i hc
      rw [if_neg hc]
      have he:C.e=0:=he
      refine ⟨[],by simp,?_⟩
      have:C.l=[]:=by
        apply List.eq_nil_of_length_eq_zero
        simp only [he,Bool.and_eq_true,decide_eq_true_eq,beq_self_eq_true,and_true] at hc
        omega
      rw [this]
      rfl
theorem eat_hd1 (C:Cur) : Eat C [6] (hd1 C):=((Eat.refl C).byte.need).conv fun hr _ he=>by
  have h:=(nd_ok (by decide) he).2
  simp only [beq_iff_eq] at h
  rw [h]
  rfl
theorem eat_head (C:Cur) : Eat C ([6]++putW [(headM C).file,(headM C).record,(headM C).count]) (headC C):=by
  have hE1:Eat C _ (hd2 C):=(eat_hd1 C).word.need
  have hE2:Eat C _ (hd3 C):=hE1.word.need
  have hE3:Eat C _ (headC C):=hE2.word.need
  exact hE3
theorem eat_ask (s:Int) (C:Cur) : Eat C (recB 0 20 (askO s C).2.2) (askO s C).2.1:=by
  have h:Eat C _ (askedC s C):=(eat_head C).need
  exact h.conv fun _ _ _=>rfl
theorem eat_wrt (dir s:Int) (C:Cur) : Eat C (recB dir 21 (wrtO s C).2.2) (wrtO s C).2.1:=by
  have h:Eat C _ (wrt1 C):=(eat_head C).need
  exact (h.words (hd3 C).wordV).conv fun _ _ _=>rfl
theorem eat_tld (s:Int) (C:Cur) : Eat C (recB 1 20 (toldO s C).2.2) (toldO s C).2.1:=by
  have hE1:Eat C _ (told1 C):=(Eat.refl C).byte.need
  have hE2:Eat C _ (told2 C):=hE1.byte.need
  refine (hE2.words (Int.tdiv (C.byteV - 1) 2)).conv fun hr _ he=>?_
  obtain ⟨h1,_,h2⟩:=wo_ok (hE2 hr).1 he
  obtain ⟨h3,h4⟩:=nd_ok (by decide) h1
  obtain ⟨h5,h6⟩:=nd_ok (by decide) (by_ok h3).1
  have hb:=byteV_rng' hr
  simp only [Bool.and_eq_true,decide_eq_true_eq,beq_iff_eq] at h4 h6
  have h7:(1 + 2 * (((told2 C).wordsR (Int.tdiv (C.byteV - 1) 2)).length:Int)) % 256=C.byteV:=by
    rw [h2,Int.tdiv_eq_ediv_of_nonneg (by omega)]
    omega
  show _=[(1 + 2 * (((told2 C).wordsR (Int.tdiv (C.byteV - 1) 2)).length:Int)) % 256,6]++putW ((told2 C).wordsR (Int.tdiv (C.byteV - 1) 2))
  rw [h7,h4]
  rfl
theorem filesR_lb {one:Int→Cur→Int × Cur × Rec} {dir code:Int} (hl:∀ s C,0 < C.l.length→(one s C).2.1.l.length < C.l.length) (hE:∀ s C,Eat C (recB dir code (one s C).2.2) (one s C).2.1) {may:Int→Bool} {c:Int} {C:Cur} (hr:Byt C)
    (he:(filesR one may c C).1.endC.e=0) : [((filesB dir code (flR one may C).2).length:Int) % 256]++filesB dir code (flR one may C).2=C.l:=by
  have hE0:Eat C _ (fl1 may C):=(Eat.refl C).byte.need
  have hE1:=hE0.bytes C.byteV
  have hb:=byteV_rng' hr
  unfold Cur.endC at he
  obtain ⟨h0,h00⟩:=nd_ok (by decide) he
  unfold filesR at h0 h00
  have hw:withinE (flR one may C).1.e ≠ 0∨(flR one may C).1.e=0:=by
    by_cases hz:(flR one may C).1.e=0
    · exact Or.inr hz
    · left
      unfold withinE
      split
      · decide
      · exact hz
  have h1:((fl1 may C).bytesC C.byteV).e=0∧(flR one may C).1.e=0:=by
    rcases hw with hw | hw
    · obtain ⟨h2,h3⟩:=nd_ok hw h0
      exact ⟨h2,by simpa using h3⟩
    · rw [hw] at h0
      refine ⟨?_,hw⟩
      unfold Cur.need at h0
      rw [if_neg (by rintro ⟨_,hx⟩; cases hx)] at h0
      exact h0
  obtain ⟨h2,h3,h4⟩:=by_ok h1.1
  have h5:((fl1 may C).bytesC C.byteV).l=[]:=by
    rw [need_l] at h00
    simp only [beq_iff_eq] at h00
    exact List.eq_nil_of_length_eq_zero (by omega)
  have h6:C.l=[C.byteV]++(fl1 may C).bytesR C.byteV:=by
    rw [((hE1 hr).2 h1.1).2,h5]
    simp
  have hB:Byt (flB may C):=fun x hx=>hr x (by rw [h6]; exact List.mem_append_right _ hx)
  obtain ⟨L',h7,h8⟩:=recs_eat hl hE (flB may C).l.length 0 (flB may C) [] (Nat.le_refl _) hB h1.2
  have h9:(flR one may C).2=L':=by unfold flR; rw [h7]; rfl
  have h10:filesB dir code L'=(fl1 may C).bytesR C.byteV:=h8.symm
  rw [h9,h10,h4,Int.emod_eq_of_lt hb.1 hb.2,h6]
end Go.Proofs.YtpglhicfhppaiaaGreat
namespace Go.Proofs.YtpglhicfhppaiaaGreat
theorem bytesR_le2 (C:Cur) (n:Int) : (C.bytesR n).length≤C.l.length:=by
  unfold Cur.bytesR
  split
  · simp
  · rw [List.length_take]; omega
theorem wordsR_le (C:Cur) (n:Int) : (C.wordsR n).length≤C.l.length:=by
  have h:=bytesR_le2 C (2 * n)
  unfold Cur.wordsR
  split
  · simp
  · unfold wordTake
    split
    · rw [takeW_length]; omega
    · simp
def Sh (C C':Cur) : Prop:=C'.l.length≤C.l.length
theorem Sh.refl (C:Cur) : Sh C C:=Nat.le_refl _
theorem Sh.bytes {A C:Cur} (h:Sh A C) {n:Int}:Sh A (C.bytesC n):=Nat.le_trans (bytesC_len C n) h
theorem Sh.words {A C:Cur} (h:Sh A C) {n:Int}:Sh A (C.wordsC n):=Nat.le_trans (wordsC_len C n) h
theorem Sh.need {A C:Cur} (h:Sh A C) {b:Bool} {e:Int}:Sh A (C.need b e):=by unfold Sh; rw [need_len]; exact h
theorem Sh.bR {A C:Cur} (h:Sh A C) (n:Int) {k:Nat} (hk:A.l.length≤k) : (C.bytesR n).length≤k:=Nat.le_trans (bytesR_le2 C n) (Nat.le_trans h hk)
theorem Sh.wR {A C:Cur} (h:Sh A C) (n:Int) {k:Nat} (hk:A.l.length≤k) : (C.wordsR n).length≤k:=Nat.le_trans (wordsR_le C n) (Nat.le_trans h hk)
theorem few_of {M:Msg} (h1:M.words.length≤252) (h2:M.bits.length≤2016) (h3:M.data.length≤252) (h4:M.recs=[]) (h5:M.objects=[]) : MsgFew M :=
  ⟨by omega,by omega,by omega,by rw [h4]; decide,(by rw [h4]; exact fun r h=>nomatch h),by rw [h5]; decide,(by rw [h5]; exact fun r h=>nomatch h)⟩
theorem few_nil (M:Msg) (h1:M.words=[]) (h2:M.bits=[]) (h3:M.data=[]) (h4:M.recs=[]) (h5:M.objects=[]) : MsgFew M:=few_of (by rw [h1]; decide) (by rw [h2]; decide) (by rw [h3]; decide) h4 h5
theorem sh_span (C:Cur) (m:Int) : Sh C (spanC C m):=((Sh.refl C).words.words.need).need
theorem sh_rspan {A C:Cur} (h:Sh A C) (a m:Int) : Sh A (rspanC C a m):=(h.words.need).need
theorem unpack_len {b:List Int} {n:Int} {l:List Bool} (h:unpackB b n=some l) : l.length≤8 * b.length:=by
  unfold unpackB at h
  split at h
  · rename_i hc
    split at h
    · injection h with h
      subst h
      have:=hc.2
      rw [List.length_map,List.length_range]
      unfold many at this
      split at this <;> omega
    · cases h
  · cases h
theorem coils_few {dir c:Int} {C C':Cur} {M:Msg} (hl:C.l.length≤252) (h:coilsForm dir c C=some (C',M)) : MsgFew M:=by
  unfold coilsForm at h
  repeat' split at h
  all_goals first | (cases h; done) | obtain ⟨rfl,rfl⟩:=some_pair h
  · exact few_nil _ rfl rfl rfl rfl rfl
  · exact few_of (Nat.zero_le _) (Nat.zero_le _) (((Sh.refl C).bytes.need).bR _ hl) rfl rfl
  · exact few_nil _ rfl rfl rfl rfl rfl
  · refine few_of (Nat.zero_le _) ?_ (Nat.zero_le _) rfl rfl
    show ((smU C).getD []).length≤2016
    cases hu:smU C with
    | none=>simp
    | some l =>
      have h1:=unpack_len hu
      have h2:((smC2 C).bytesR (smK C)).length≤252:=((sh_span C 1968).bytes.need).bR _ hl
      simp only [Option.getD_some]
      omega
  · exact few_nil _ rfl rfl rfl rfl rfl
theorem regs_few {dir c:Int} {C C':Cur} {M:Msg} (hl:C.l.length≤252) (h:regsForm dir c C=some (C',M)) : MsgFew M:=by
  unfold regsForm at h
  repeat' split at h
  all_goals first | (cases h; done) | obtain ⟨rfl,rfl⟩:=some_pair h
  · exact few_nil _ rfl rfl rfl rfl rfl
  · exact few_of (((Sh.refl C).bytes.need).wR _ hl) (Nat.zero_le _) (Nat.zero_le _) rfl rfl
  · exact few_nil _ rfl rfl rfl rfl rfl
  · exact few_of (((sh_rspan (Sh.refl C).words _ _).bytes.need).wR _ hl) (Nat.zero_le _) (Nat.zero_le _) rfl rfl
  · exact few_nil _ rfl rfl rfl rfl rfl
  · exact few_nil _ rfl rfl rfl rfl rfl
  · exact few_of (((sh_rspan (sh_rspan (Sh.refl C).words _ _).words _ _).bytes.need).wR _ hl) (Nat.zero_le _) (Nat.zero_le _) rfl rfl
  · exact few_of (((Sh.refl C).bytes.need).wR _ hl) (Nat.zero_le _) (Nat.zero_le _) rfl rfl
  · exact few_nil _ rfl rfl rfl rfl rfl
  · exact few_of ((((Sh.refl C).words.need).words.need).wR _ hl) (Nat.zero_le _) (Nat.zero_le _) rfl rfl
theorem diag_few {dir c:Int} {C C':Cur} {M:Msg} (hl:C.l.length≤252) (h:diagForm dir c C=some (C',M)) : MsgFew M:=by
  unfold diagForm at h
  repeat' split at h
  all_goals first | (cases h; done) | obtain ⟨rfl,rfl⟩:=some_pair h
  · unfold lineR
    split
    · exact few_of (((Sh.refl C).words.need).wR _ hl) (Nat.zero_le _) (Nat.zero_le _) rfl rfl
    · exact few_of (((Sh.refl C).words.need.need).wR _ hl) (Nat.zero_le _) (Nat.zero_le _) rfl rfl
  · unfold answerR
    have h1:Sh C (ansL C 6 70):=(Sh.refl C).bytes.need
    have h2:Sh C (busyC (ansL C 6 70)):=h1.words.need
    repeat' split
    · exact few_nil _ rfl rfl rfl rfl rfl
    · exact few_nil _ rfl rfl rfl rfl rfl
    · exact few_of (Nat.zero_le _) (Nat.zero_le _) (h2.words.words.bR _ hl) rfl rfl
    · exact few_of (Nat.zero_le _) (Nat.zero_le _) (Sh.bR (C:=ansL C 1 251) ((Sh.refl C).bytes.need) _ hl) rfl rfl
    · exact few_nil _ rfl rfl rfl rfl rfl
  · exact few_nil _ rfl rfl rfl rfl rfl
theorem objB_few:∀ (L:List Obj),2 * L.length≤(objB L).length∧∀ o,o∈L→o.value.length≤(objB L).length
  | []=>⟨by simp [objB],fun o h=>nomatch h⟩
  | x :: L=>by
    obtain ⟨h1,h2⟩:=objB_few L
    have h3:(objB (x :: L)).length=2 + x.value.length + (objB L).length:=by simp [objB]; omega
    refine ⟨by rw [h3,List.length_cons]; omega,fun o ho=>?_⟩
    rcases List.mem_cons.1 ho with rfl | ho
    · omega
    · have:=h2 o ho
      omega
theorem mei_few {dir c:Int} {C C':Cur} {M:Msg} (hd:dir=0∨dir=1) (hr:Byt C) (hl:C.l.length≤252) (h:meiForm dir c C=some (C',M)) (he:C'.endC.e=0) : MsgFew M:=by
  have hb:=mei_lb hd hr h he
  have hA:Sh C (meiA C):=(Sh.refl C).bytes.need
  unfold meiForm at h
  repeat' split at h
  all_goals first | (cases h; done) | obtain ⟨rfl,rfl⟩:=some_pair h
  · exact few_of (Nat.zero_le _) (Nat.zero_le _) (Sh.bR (C:=meiB C) hA.need _ hl) rfl rfl
  · rename_i hm hc
    obtain rfl:dir=1:=by simpa using hc
    unfold meiLay at hb
    rw [if_neg (show ¬ (C.byteV == 13)=true from hm),if_neg (by decide)] at hb
    have h1:=congrArg List.length hb
    rw [List.length_append] at h1
    obtain ⟨h2,h3⟩:=objB_few (meiObjs (meiA C).byteV (meiD C)).2
    have h1:6 + (objB (meiObjs (meiA C).byteV (meiD C)).2).length=C.l.length:=h1
    refine ⟨Nat.zero_le _,Nat.zero_le _,Nat.zero_le _,Nat.zero_le _,(fun r h=>nomatch h),?_,?_⟩
    · show (meiObjs (meiA C).byteV (meiD C)).2.length≤128
      omega
    · intro o ho
      have:=h3 o ho
      omega
  · exact few_nil _ rfl rfl rfl rfl rfl
theorem filesB_few {dir code:Int}:∀ (L:List Rec),(∀ r,r∈L→4≤(recB dir code r).length)→4 * L.length≤(filesB dir code L).length∧∀ r,r∈L→r.words.length≤(filesB dir code L).length
  | [],_=>⟨by simp [filesB],fun o h=>nomatch h⟩
  | x :: L,h=>by
    obtain ⟨h1,h2⟩:=filesB_few L fun r hr=>h r (by simp [hr])
    have h3:(filesB dir code (x :: L)).length=(recB dir code x).length + (filesB dir code L).length:=by simp [filesB]
    have h4:=h x (by simp)
    have h5:x.words.length≤(recB dir code x).length:=by
      have:=putW_length x.words
      unfold recB
      rw [List.length_append]
      omega
    refine ⟨by rw [h3,List.length_cons]; omega,fun o ho=>?_⟩
    rcases List.mem_cons.1 ho with rfl | ho
    · omega
    · have:=h2 o ho
      omega
theorem recs_all {one:Int→Cur→Int × Cur × Rec} {P:Rec→Prop} {dir code:Int} (hE:∀ s C,Eat C (recB dir code (one s C).2.2) (one s C).2.1) (hP:∀ s C,Byt C→(one s C).2.1.e=0→P (one s C).2.2) :
    ∀ (n:Nat) (s:Int) (C:Cur) (L:List Rec),Byt C→(recsR one n s C L).1.e=0→(∀ r,r∈L→P r)→∀ r,r∈(recsR one n s C L).2→P r
  | 0,s,C,L,_,_,h=>h
  | n + 1,s,C,L,hr,he,h=>by
    unfold recsR at he ⊢
    split at he
    · rename_i hc
      rw [if_pos hc]
      split at he
      · rename_i hn
        rw [he] at hn
        cases hn
      · rename_i hn
        rw [if_neg hn]
        have h4:(one s C).2.1.e=0:=by simpa using hn
        exact recs_all hE hP n _ _ _ ((hE s C) hr).1 he fun r hr'=>by
          rcases List.mem_append.1 hr' with h5 | h5
          · exact h r h5
          · rw [List.mem_singleton.1 h5]
            exact hP s C hr h4
    · rename_i hc
      rw [if_neg hc]
      exact h
theorem tld_ne (s:Int) (C:Cur) (hr:Byt C) (he:(toldO s C).2.1.e=0) : 4≤(recB 1 20 (toldO s C).2.2).length:=by
  have hE1:Eat C _ (told1 C):=(Eat.refl C).byte.need
  have hE2:Eat C _ (told2 C):=hE1.byte.need
  obtain ⟨h1,_,h2⟩:=wo_ok (hE2 hr).1 (show ((told2 C).wordsC (Int.tdiv (C.byteV - 1) 2)).e=0 from he)
  obtain ⟨h3,_⟩:=nd_ok (by decide) h1
  obtain ⟨_,h6⟩:=nd_ok (by decide) (by_ok h3).1
  simp only [Bool.and_eq_true,decide_eq_true_eq,beq_iff_eq] at h6
  rw [Int.tdiv_eq_ediv_of_nonneg (by omega)] at h2
  have h7:=putW_length ((told2 C).wordsR (Int.tdiv (C.byteV - 1) 2))
  show 4≤([_,6]++putW ((told2 C).wordsR (Int.tdiv (C.byteV - 1) 2))).length
  rw [List.length_append,h7,Int.tdiv_eq_ediv_of_nonneg (by omega)]
  simp only [List.length_cons,List.length_nil]
  omega
theorem ask_ne (dir code:Int) (r:Rec) (h:(code == 20 && dir == 1)=false) : 4≤(recB dir code r).length:=by
  unfold recB
  rw [h]
  simp [putW]
theorem filesR_few {one:Int→Cur→Int × Cur × Rec} {dir code:Int} (hl:∀ s C,0 < C.l.length→(one s C).2.1.l.length < C.l.length) (hE:∀ s C,Eat C (recB dir code (one s C).2.2) (one s C).2.1)
    (hP:∀ s C,Byt C→(one s C).2.1.e=0→4≤(recB dir code (one s C).2.2).length) {may:Int→Bool} {c:Int} {C:Cur} (hr:Byt C) (hl':C.l.length≤252)
    (he:(filesR one may c C).1.endC.e=0) : MsgFew (filesR one may c C).2:=by
  have hb:=filesR_lb hl hE hr he
  have h1:=congrArg List.length hb
  rw [List.length_append] at h1
  have h1:1 + (filesB dir code (flR one may C).2).length=C.l.length:=h1
  have h2:(flR one may C).1.e=0:=by
    unfold Cur.endC at he
    obtain ⟨h0,_⟩:=nd_ok (by decide) he
    unfold filesR at h0
    by_cases hz:(flR one may C).1.e=0
    · exact hz
    · have hw:withinE (flR one may C).1.e ≠ 0:=by
        unfold withinE
        split
        · decide
        · exact hz
      simpa using (nd_ok hw h0).2
  have hB:Byt (flB may C):=fun x hx=>hr x (by
    have h5:x∈(fl1 may C).l:=by
      have:x∈(fl1 may C).bytesR C.byteV:=hx
      unfold Cur.bytesR at this
      split at this
      · cases this
      · exact List.mem_of_mem_take this
    have h6:x∈(C.bytesC 1).l:=by unfold fl1 at h5; rwa [need_l] at h5
    unfold Cur.bytesC at h6
    split at h6
    · rw [need_l] at h6
      cases h6
    · exact List.mem_of_mem_drop h6)
  have h3:=recs_all (P:=fun r=>4≤(recB dir code r).length) hE hP (flB may C).l.length 0 (flB may C) [] hB h2 (fun r h=>nomatch h)
  obtain ⟨h4,h5⟩:=filesB_few (dir:=dir) (code:=code) (flR one may C).2 h3
  refine ⟨Nat.zero_le _,Nat.zero_le _,Nat.zero_le _,?_,?_,Nat.zero_le _,(fun r h=>nomatch h)⟩
  · show (flR one may C).2.length≤64
    omega
  · intro r hr'
    have:=h5 r hr'
    omega
theorem files_few {dir c:Int} {C C':Cur} {M:Msg} (hd:dir=0∨dir=1) (hr:Byt C) (hl:C.l.length≤252) (h:filesForm dir c C=some (C',M)) (he:C'.endC.e=0) : MsgFew M:=by
  unfold filesForm at h
  split at h
  · rename_i hc
    obtain rfl:c=20:=by simpa using hc
    rcases hd with rfl | rfl
    · have h:some (filesR askO mayA 20 C)=some (C',M):=h
      obtain ⟨rfl,rfl⟩:=some_pair h
      exact filesR_few askO_lt eat_ask (fun _ _ _ _=>ask_ne _ _ _ rfl) hr hl he
    · have h:some (filesR toldO mayT 20 C)=some (C',M):=h
      obtain ⟨rfl,rfl⟩:=some_pair h
      exact filesR_few toldO_lt eat_tld tld_ne hr hl he
  split at h
  · rename_i hc
    obtain rfl:c=21:=by simpa using hc
    obtain ⟨rfl,rfl⟩:=some_pair h
    exact filesR_few wrtO_lt (eat_wrt dir) (fun _ _ _ _=>ask_ne _ _ _ rfl) hr hl he
  · cases h
theorem few_zero:MsgFew Msg.zero:=few_nil _ rfl rfl rfl rfl rfl
theorem parse_few1 {form:Int→Int→Cur→Option (Cur × Msg)} (hf:∀ {dir c:Int} {C C':Cur} {M:Msg},(dir=0∨dir=1)→Byt C→C.l.length≤252→form dir c C=some (C',M)→C'.endC.e=0→MsgFew M)
    {dir c:Int} {b:List Int} {M:Msg} {E:Int} (hr:∀ x,x∈b→0≤x∧x < 256) (hl:b.length≤252) (h:parseOf form dir c b=(M,E)) : MsgFew M∧(E ≠ 0→M=Msg.zero):=by
  unfold parseOf at h
  split at h
  · rename_i hd
    split at h
    · injection h with h1 h2
      subst h1 h2
      exact ⟨few_zero,fun _=>rfl⟩
    · rename_i r hr'
      unfold finish at h
      split at h
      · rename_i he
        injection h with h1 h2
        obtain ⟨C',M'⟩:=r
        have h1:M'=M:=h1
        subst h1
        exact ⟨hf (C:=⟨b,false,0⟩) hd hr hl hr' he,fun hE=>absurd h2.symm hE⟩
      · injection h with h1 h2
        subst h1
        exact ⟨few_zero,fun _=>rfl⟩
  · injection h with h1 h2
    subst h1
    exact ⟨few_zero,fun _=>rfl⟩
theorem famP_few {k:Nat} {dir:Int} {b:List Int} {M:Msg} {E:Int} (hr:∀ x,x∈b→0≤x∧x < 256) (hl:b.length≤253) (h:famP k dir b=(M,E)) : MsgFew M∧(E ≠ 0→M=Msg.zero):=by
  have hr':∀ x,x∈b.drop 1→0≤x∧x < 256:=fun x hx=>hr x (List.mem_of_mem_drop hx)
  have hl':(b.drop 1).length≤252:=by rw [List.length_drop]; omega
  unfold famP at h
  split at h
  · exact parse_few1 (fun _ _ hl h _=>coils_few hl h) hr' hl' h
  · exact parse_few1 (fun _ _ hl h _=>regs_few hl h) hr' hl' h
  · exact parse_few1 (fun _ _ hl h _=>diag_few hl h) hr' hl' h
  · exact parse_few1 files_few hr' hl' h
  · exact parse_few1 mei_few hr' hl' h
  · injection h with h1 h2
    subst h1
    exact ⟨few_zero,fun _=>rfl⟩
theorem refP_few {b:List Int} {M:Msg} {E:Int} (h:refP b=(M,E)) : MsgFew M∧(E ≠ 0→M=Msg.zero):=by
  unfold refP at h
  repeat' split at h
  all_goals (injection h with h1 h2; subst h1)
  all_goals first | exact ⟨few_zero,fun _=>rfl⟩ | exact ⟨few_nil _ rfl rfl rfl rfl rfl,fun hE=>absurd h2.symm hE⟩
theorem pduP_few {dir:Int} {b:List Int} {M:Msg} {E:Int} (hr:∀ x,x∈b→0≤x∧x < 256) (h:pduP dir b=(M,E)) : MsgFew M∧(E ≠ 0→M=Msg.zero):=by
  unfold pduP at h
  split at h
  · injection h with h1 h2; subst h1; exact ⟨few_zero,fun _=>rfl⟩
  split at h
  · injection h with h1 h2; subst h1; exact ⟨few_zero,fun _=>rfl⟩
  split at h
  · injection h with h1 h2; subst h1; exact ⟨few_zero,fun _=>rfl⟩
  rename_i h3
  simp only [decide_eq_true_eq] at h3
  split at h
  · exact refP_few h
  · exact famP_few hr (by omega) h
open Go.RowKit
theorem wd1 {a:Int} {r:List Int} (ha:0≤a∧a < 65536) : (Cur.mk (putW [a]++r) false 0).wordV=a∧(Cur.mk (putW [a]++r) false 0).wordsC 1=⟨r,false,0⟩:=by
  have hb:(Cur.mk (putW [a]++r) false 0).wbad 1=false:=by
    unfold Cur.wbad
    simp only [putW,List.length_append,List.length_cons,List.length_nil,Bool.or_eq_false_iff,decide_eq_false_iff_not]
    omega
  have hf:(Cur.mk (putW [a]++r) false 0).fails (2 * 1)=false:=by
    unfold Cur.fails
    simp [putW]
    omega
  constructor
  · unfold Cur.wordV Cur.wordsR Cur.bytesR
    rw [hb,hf]
    show (wordTake [a / 256,a % 256]).getD 0 0=a
    unfold wordTake
    rw [if_pos (by simp)]
    show a / 256 * 256 + a % 256=a
    omega
  · unfold Cur.wordsC Cur.bytesC
    rw [hb,hf]
    rfl
end Go.Proofs.YtpglhicfhppaiaaGreat
namespace Go.Proofs.YtpglhicfhppaiaaGreat
theorem rtuB_len (u:Int) (l:List Int) : (rtuB u l).length=3 + l.length:=by simp [rtuB,crcTwo]; omega
theorem rtuW_some {dir u t:Int} {M:Msg} {b:List Int} (h:rtuW dir u t M=some b) : t=0∧∃ l,pduW dir M=some l∧b=rtuB u l∧l.length≤253:=by
  unfold rtuW at h
  split at h
  · cases h
  · rename_i l hl
    have hle:=pduW_len hl
    split at h
    · cases h
    · rename_i ht
      injection h with h
      exact ⟨by simpa using ht,l,hl,h.symm,hle⟩
theorem rtuW_le {dir u t:Int} {M:Msg} {b:List Int} (hc:0≤M.code∧M.code < 256) (h:rtuW dir u t M=some b) : 4≤b.length∧b.length≤256:=by
  obtain ⟨_,l,h1,rfl,h2⟩:=rtuW_some h
  have:=pduW_pos hc h1
  rw [rtuB_len]
  omega
theorem body_take (u:Int) (l:List Int) : (rtuB u l).take ((rtuB u l).length - 2)=[u]++l:=by
  rw [rtuB_len,show 3 + l.length - 2=([u]++l).length from by simp; omega]
  exact List.take_left' rfl
theorem body_drop (u:Int) (l:List Int) : (rtuB u l).drop ((rtuB u l).length - 2)=crcTwo (crcT 65535 ([u]++l)):=by
  rw [rtuB_len,show 3 + l.length - 2=([u]++l).length from by simp; omega]
  exact List.drop_left' rfl
theorem rtuB_is (u:Int) (l:List Int) : crcIs (rtuB u l)=true:=by
  unfold crcIs
  rw [body_take,body_drop,rtuB_len]
  simp only [decide_true,Bool.and_true,decide_eq_true_eq]
  omega
theorem body_B (u:Int) (l:List Int) : rtuBody (rtuB u l)=l:=by
  unfold rtuBody
  rw [body_take]
  rfl
theorem rtuP_B {dir u:Int} {l:List Int} (hd:dir=0∨dir=1) (h:0 < l.length) (h2:l.length≤253) : rtuP dir (rtuB u l)=frmOf u 0 (pduP dir l):=by
  unfold rtuP
  rw [rtuB_is,body_B]
  rw [if_neg (show ¬ (dir != 0 && dir != 1)=true by rcases hd with rfl | rfl <;> decide),if_neg (by rw [rtuB_len]; simp only [decide_eq_true_eq]; omega),if_neg (by rw [rtuB_len]; simp only [decide_eq_true_eq]; omega),if_neg (by decide)]
  rfl
theorem rtu_rt {dir u t:Int} {M:Msg} {b:List Int} (hd:dir=0∨dir=1) (hc:0≤M.code∧M.code < 256) (hf:0≤M.fail∧M.fail < 256) (h:rtuW dir u t M=some b) : rtuP dir b=(⟨u,t,M⟩,0):=by
  obtain ⟨rfl,l,h1,rfl,h2⟩:=rtuW_some h
  rw [rtuP_B hd (pduW_pos hc h1) h2,pdu_rt hd hc hf h1]
  rfl
theorem rtuP_few {dir:Int} {b:List Int} {F:Frm} {E:Int} (hr:∀ x,x∈b→0≤x∧x < 256) (h:rtuP dir b=(F,E)) : MsgFew F.msg∧(E ≠ 0→F=Frm.zero):=by
  have hz:∀ k:Int,((Frm.zero,k) : Frm × Int)=(F,E)→MsgFew F.msg∧(E ≠ 0→F=Frm.zero):=fun k h=>by
    injection h with h1 h2
    subst h1
    exact ⟨few_zero,fun _=>rfl⟩
  unfold rtuP at h
  split at h
  · exact hz _ h
  split at h
  · exact hz _ h
  split at h
  · exact hz _ h
  split at h
  · exact hz _ h
  cases hp:pduP dir (rtuBody b) with
  | mk M E' =>
    rw [hp] at h
    obtain ⟨k1,k2⟩:=pduP_few (fun x hx=>hr x (List.mem_of_mem_take (List.mem_of_mem_drop hx))) hp
    have h:(if (E' != 0)=true then ((Frm.zero,E') : Frm × Int) else (⟨_,_,M⟩,0))=(F,E):=h
    split at h
    · exact hz _ h
    · injection h with h5 h6
      subst h5
      exact ⟨k1,fun hE=>absurd h6.symm hE⟩
open Go.RowKit
theorem pduW_byts {m:Bool} {cs:Array Value} {M:Msg} {w:World} {dir:Int} (h:MsgRd m w cs.toList M) (hf:MsgFew M) (l:List Int) (hX:pduW dir M=some l) : Byts l:=by
  obtain ⟨e,w',_,hR,_⟩:=pdu_write (dir:=dir) h hf []
  rw [hX] at hR
  obtain ⟨v,_,ho,_⟩:=hR
  exact RdB.range ho.rd
def ascX (u:Int) (l:List Int) : List Int:=([u]++l)++[lrcOf ([u]++l)]
theorem ascX_len (u:Int) (l:List Int) : (ascX u l).length=l.length + 2:=by simp [ascX]
theorem ascB_X (u:Int) (l:List Int) : ascB u l=([58]++putH (ascX u l))++[13,10]:=rfl
theorem ascB_len (u:Int) (l:List Int) : (ascB u l).length=2 * l.length + 7:=by
  rw [ascB_X]
  simp only [List.length_append,List.length_cons,List.length_nil,putH_len,ascX_len]
  omega
theorem ascX_byts {u:Int} {l:List Int} (hu:0≤u∧u < 256) (hl:Byts l) : Byts (ascX u l):=by
  refine byts_app (byts_app ?_ hl) ?_
  · intro x hx; rw [List.mem_singleton] at hx; rw [hx]; exact hu
  · intro x hx; rw [List.mem_singleton] at hx; rw [hx]; exact lrcOf_rng _
theorem ascW_some {dir u t:Int} {M:Msg} {b:List Int} (h:ascW dir u t M=some b) : t=0∧∃ l,pduW dir M=some l∧b=ascB u l∧l.length≤253:=by
  unfold ascW at h
  split at h
  · cases h
  · rename_i l hl
    have hle:=pduW_len hl
    split at h
    · cases h
    · rename_i ht
      injection h with h
      exact ⟨by simpa using ht,l,hl,h.symm,hle⟩
theorem ascW_le {dir u t:Int} {M:Msg} {b:List Int} (hc:0≤M.code∧M.code < 256) (h:ascW dir u t M=some b) : 9≤b.length∧b.length≤513:=by
  obtain ⟨_,l,h1,rfl,h2⟩:=ascW_some h
  have:=pduW_pos hc h1
  rw [ascB_len]
  omega
theorem ascB_cut (s:List Int) : (([58]++s)++[13,10]).drop 1=s++[13,10]:=rfl
theorem suf_app (s:List Int) : sufB (s++[13,10])=true:=by
  unfold sufB
  have e:(((s++[13,10]).length:Nat) : Int)=(s.length:Int) + 2:=by simp
  have e2:((s.length:Int) + 2 - 2).toNat=s.length:=by omega
  rw [e,e2,List.drop_left' rfl]
  simp
  omega
theorem digS_app (s:List Int) : digS (([58]++s)++[13,10])=some s:=by
  rw [digS_t rfl (by rw [ascB_cut]; exact suf_app s),ascB_cut]
  have e:(([58]++s)++[13,10]).length - 3=s.length:=by simp
  rw [e,List.take_left' rfl]
theorem lrcP_app (a b:List Int) : ∀ k,k≤a.length→lrcP (a++b) k=lrcP a k
  | 0,_=>rfl
  | k + 1,h=>by
    unfold lrcP
    rw [lrcP_app a b k (by omega),List.getD_eq_getElem?_getD,List.getD_eq_getElem?_getD,List.getElem?_append_left (by omega)]
theorem lrcS_snoc (a:List Int) (c:Int) : lrcS (a++[c])=(lrcS a + c) % 256:=by
  unfold lrcS
  have e:(a++[c]).length=a.length + 1:=by simp
  rw [e]
  show (lrcP (a++[c]) a.length + (a++[c]).getD a.length 0) % 256=_
  rw [lrcP_app a [c] _ (Nat.le_refl _)]
  simp
theorem lrcIs_snoc {a:List Int} {c:Int} (hc:0≤c∧c < 256) : lrcIs (a++[c])=true ↔ c=lrcOf a:=by
  have h:=lrcP_rng a a.length
  unfold lrcIs lrcOf
  rw [lrcS_snoc]
  have hs:lrcS a=lrcP a a.length:=rfl
  simp only [Bool.and_eq_true,decide_eq_true_eq,beq_iff_eq,List.length_append,List.length_cons,List.length_nil]
  constructor
  · intro k; omega
  · intro k; omega
theorem lrcIs_X (u:Int) (l:List Int) : lrcIs (ascX u l)=true:=(lrcIs_snoc (lrcOf_rng _)).2 rfl
theorem body_X (u:Int) (l:List Int) : ascBody (ascX u l)=l:=by
  unfold ascBody
  rw [ascX_len,show l.length + 2 - 1=([u]++l).length from by simp]
  unfold ascX
  rw [List.take_left' rfl]
  rfl
theorem ascP_S {dir:Int} {s:List Int} (hd:dir=0∨dir=1) (h:6≤s.length) (h2:s.length≤510) : ascP dir (([58]++s)++[13,10])=match takeH s with
      | none=>(Frm.zero,11)
      | some x=>if !(lrcIs x) then (Frm.zero,10) else frmOf (x.getD 0 0) 0 (pduP dir (ascBody x)):=by
  have hl:((([58]++s)++[13,10]).length:Int)=(s.length:Int) + 3:=by simp; omega
  unfold ascP
  rw [digS_app,hl]
  rw [if_neg (show ¬ (dir != 0 && dir != 1)=true by rcases hd with rfl | rfl <;> decide),if_neg (by simp only [decide_eq_true_eq]; omega),if_neg (by simp only [decide_eq_true_eq]; omega)]
  all_goals rfl
theorem ascP_B {dir u:Int} {l:List Int} (hd:dir=0∨dir=1) (hu:0≤u∧u < 256) (hb:Byts l) (h:0 < l.length) (h2:l.length≤253) : ascP dir (ascB u l)=frmOf u 0 (pduP dir l):=by
  rw [ascB_X,ascP_S hd (by rw [putH_len,ascX_len]; omega) (by rw [putH_len,ascX_len]; omega),takeH_put _ (ascX_byts hu hb)]
  show (if !(lrcIs (ascX u l)) then _ else _)=_
  rw [lrcIs_X,body_X]
  rfl
theorem asc_rt {dir u t:Int} {M:Msg} {b:List Int} (hd:dir=0∨dir=1) (hu:0≤u∧u < 256) (hc:0≤M.code∧M.code < 256) (hf:0≤M.fail∧M.fail < 256) (hb:∀ l,pduW dir M=some l→Byts l) (h:ascW dir u t M=some b) : ascP dir b=(⟨u,t,M⟩,0):=by
  obtain ⟨rfl,l,h1,rfl,h2⟩:=ascW_some h
  rw [ascP_B hd hu (hb l h1) (pduW_pos hc h1) h2,pdu_rt hd hc hf h1]
  rfl
theorem ascP_few {dir:Int} {b:List Int} {F:Frm} {E:Int} (h:ascP dir b=(F,E)) : MsgFew F.msg∧(E ≠ 0→F=Frm.zero):=by
  have hz:∀ k:Int,((Frm.zero,k) : Frm × Int)=(F,E)→MsgFew F.msg∧(E ≠ 0→F=Frm.zero):=fun k h=>by
    injection h with h1 h2
    subst h1
    exact ⟨few_zero,fun _=>rfl⟩
  unfold ascP at h
  split at h
  · exact hz _ h
  split at h
  · exact hz _ h
  split at h
  · exact hz _ h
  split at h
  · exact hz _ h
  split at h
  · exact hz _ h
  rename_i s _ x hx
  split at h
  · exact hz _ h
  cases hp:pduP dir (ascBody x) with
  | mk M E' =>
    rw [hp] at h
    obtain ⟨k1,k2⟩:=pduP_few (fun y hy=>(takeH_some hx).2 y (List.mem_of_mem_take (List.mem_of_mem_drop hy))) hp
    have h:(if (E' != 0)=true then ((Frm.zero,E') : Frm × Int) else (⟨_,_,M⟩,0))=(F,E):=h
    split at h
    · exact hz _ h
    · injection h with h5 h6
      subst h5
      exact ⟨k1,fun hE=>absurd h6.symm hE⟩
theorem putH_get (x:List Int) : ∀ (i:Nat),i < x.length→(putH x).getD (2 * i) 0=hexD (x.getD i 0 / 16)∧(putH x).getD (2 * i + 1) 0=hexD (x.getD i 0 % 16):=by
  induction x with
  | nil=>intro i hi; simp at hi
  | cons c x ih =>
    intro i hi
    cases i with
    | zero=>exact ⟨rfl,rfl⟩
    | succ i =>
      have:=ih i (by simpa using hi)
      simpa [putH,Nat.mul_add] using this
open Go.RowKit
end Go.Proofs.YtpglhicfhppaiaaGreat
namespace Go.Proofs.YtpglhicfhppaiaaGreat
def mbB (t z n u:Int) (l:List Int) : List Int:=(putW [t,z,n]++[u])++l
theorem mbB_len (t z n u:Int) (l:List Int) : (mbB t z n u l).length=7 + l.length:=by simp [mbB,putW]; omega
theorem by1 (u:Int) (l:List Int) : (Cur.mk ([u]++l) false 0).byteV=u∧(Cur.mk ([u]++l) false 0).bytesC 1=⟨l,false,0⟩:=by
  have hf:(Cur.mk ([u]++l) false 0).fails 1=false:=by
    unfold Cur.fails
    simp only [List.length_append,List.length_cons,List.length_nil,Bool.or_eq_false_iff,decide_eq_false_iff_not]
    refine ⟨⟨trivial,?_⟩,?_⟩ <;> omega
  constructor
  · unfold Cur.byteV Cur.bytesR
    rw [hf]
    rfl
  · unfold Cur.bytesC
    rw [hf]
    rfl
theorem all_bytes (l:List Int) : (Cur.mk l false 0).bytesR ((l.length:Nat) : Int)=l:=by
  have hf:(Cur.mk l false 0).fails ((l.length:Nat) : Int)=false:=by
    unfold Cur.fails
    simp only [Bool.or_eq_false_iff,decide_eq_false_iff_not]
    refine ⟨⟨trivial,?_⟩,?_⟩ <;> omega
  unfold Cur.bytesR
  rw [hf]
  show l.take (l.length:Int).toNat=l
  rw [Int.toNat_natCast,List.take_length]
theorem mb_parts {t z n u:Int} {l:List Int} (ht:0≤t∧t < 65536) (hz:0≤z∧z < 65536) (hn:0≤n∧n < 65536) :
    (mb0 (mbB t z n u l)).wordV=t∧(mb1 (mbB t z n u l)).wordV=z∧(mb2 (mbB t z n u l)).wordV=n∧(mb3 (mbB t z n u l)).byteV=u∧mbBody (mbB t z n u l)=l:=by
  have h1:=wd1 (r:=putW [z]++(putW [n]++([u]++l))) ht
  have h2:=wd1 (r:=putW [n]++([u]++l)) hz
  have h3:=wd1 (r:=[u]++l) hn
  have h4:=by1 u l
  have e0:mb0 (mbB t z n u l)=⟨putW [t]++(putW [z]++(putW [n]++([u]++l))),false,0⟩:=by simp [mb0,mbB,putW]
  have e1:mb1 (mbB t z n u l)=⟨putW [z]++(putW [n]++([u]++l)),false,0⟩:=by unfold mb1; rw [e0]; exact h1.2
  have e2:mb2 (mbB t z n u l)=⟨putW [n]++([u]++l),false,0⟩:=by unfold mb2; rw [e1]; exact h2.2
  have e3:mb3 (mbB t z n u l)=⟨[u]++l,false,0⟩:=by unfold mb3; rw [e2]; exact h3.2
  have e4:mb4 (mbB t z n u l)=⟨l,false,0⟩:=by unfold mb4; rw [e3]; exact h4.2
  refine ⟨by rw [e0]; exact h1.1,by rw [e1]; exact h2.1,by rw [e2]; exact h3.1,by rw [e3]; exact h4.1,?_⟩
  unfold mbBody
  rw [e4]
  exact all_bytes l
theorem mbapP_B {dir t z n u:Int} {l:List Int} (hd:dir=0∨dir=1) (ht:0≤t∧t < 65536) (hz:0≤z∧z < 65536) (hn:0≤n∧n < 65536) :
    mbapP dir (mbB t z n u l)=if decide ((7 + l.length:Int) < 8) then (Frm.zero,2) else if decide (260 < (7 + l.length:Int)) then (Frm.zero,3) else if z != 0 then (Frm.zero,13) else if n != (l.length:Int) + 1 then (Frm.zero,5) else frmOf u t (pduP dir l):=by
  obtain ⟨h0,h1,h2,h3,h4⟩:=mb_parts (u:=u) (l:=l) ht hz hn
  unfold mbapP
  rw [h0,h1,h2,h3,h4,mbB_len]
  rw [if_neg (show ¬ (dir != 0 && dir != 1)=true by rcases hd with rfl | rfl <;> decide)]
  rw [show ((7 + l.length:Nat) : Int)=7 + (l.length:Int) by omega,show (7 + (l.length:Int)) - 6=(l.length:Int) + 1 by omega]
theorem mbapW_some {dir u t:Int} {M:Msg} {b:List Int} (h:mbapW dir u t M=some b) : ∃ l,pduW dir M=some l∧b=mbB t 0 ((l.length:Int) + 1) u l∧l.length≤253:=by
  unfold mbapW at h
  split at h
  · cases h
  · rename_i l hl
    have hle:=pduW_len hl
    injection h with h
    refine ⟨l,hl,?_,hle⟩
    rw [← h,Int.emod_eq_of_lt (by omega) (by omega)]
    rfl
theorem mbapW_le {dir u t:Int} {M:Msg} {b:List Int} (hc:0≤M.code∧M.code < 256) (h:mbapW dir u t M=some b) : 8≤b.length∧b.length≤260:=by
  obtain ⟨l,h1,rfl,h2⟩:=mbapW_some h
  have:=pduW_pos hc h1
  rw [mbB_len]
  omega
theorem mbap_rt {dir u t:Int} {M:Msg} {b:List Int} (hd:dir=0∨dir=1) (hc:0≤M.code∧M.code < 256) (hf:0≤M.fail∧M.fail < 256) (ht:0≤t∧t < 65536) (h:mbapW dir u t M=some b) : mbapP dir b=(⟨u,t,M⟩,0):=by
  obtain ⟨l,h1,rfl,h2⟩:=mbapW_some h
  have h3:=pduW_pos hc h1
  rw [mbapP_B hd ht (by decide) (by omega),pdu_rt hd hc hf h1]
  rw [if_neg (by simp only [decide_eq_true_eq]; omega),if_neg (by simp only [decide_eq_true_eq]; omega),if_neg (by decide),if_neg (by simp)]
  rfl
theorem putW3 {a b c d e f:Int} (ha:0≤a∧a < 256) (hb:0≤b∧b < 256) (hc:0≤c∧c < 256) (hd:0≤d∧d < 256) (he:0≤e∧e < 256) (hf:0≤f∧f < 256) : putW [a * 256 + b,c * 256 + d,e * 256 + f]=[a,b,c,d,e,f]:=by
  simp only [putW]
  congr 1
  · omega
  congr 1
  · omega
  congr 1
  · omega
  congr 1
  · omega
  congr 1
  · omega
  congr 1
  omega
theorem mb_shape {b:List Int} (hr:∀ x,x∈b→0≤x∧x < 256) (hl:8≤b.length) : ∃ t z n u l,b=mbB t z n u l∧(0≤t∧t < 65536)∧(0≤z∧z < 65536)∧(0≤n∧n < 65536)∧∀ x,x∈l→0≤x∧x < 256:=by
  match b,hr,hl with
  | a0 :: a1 :: a2 :: a3 :: a4 :: a5 :: u :: l,hr,_ =>
    have h0:=hr a0 (by simp)
    have h1:=hr a1 (by simp)
    have h2:=hr a2 (by simp)
    have h3:=hr a3 (by simp)
    have h4:=hr a4 (by simp)
    have h5:=hr a5 (by simp)
    refine ⟨a0 * 256 + a1,a2 * 256 + a3,a4 * 256 + a5,u,l,?_,by omega,by omega,by omega,fun x hx=>hr x (by simp [hx])⟩
    unfold mbB
    rw [putW3 h0 h1 h2 h3 h4 h5]
    rfl
theorem mbapP_few {dir:Int} {b:List Int} {F:Frm} {E:Int} (hr:∀ x,x∈b→0≤x∧x < 256) (h:mbapP dir b=(F,E)) : MsgFew F.msg∧(E ≠ 0→F=Frm.zero):=by
  have hz:∀ k:Int,((Frm.zero,k) : Frm × Int)=(F,E)→MsgFew F.msg∧(E ≠ 0→F=Frm.zero):=fun k h=>by
    injection h with h1 h2
    subst h1
    exact ⟨few_zero,fun _=>rfl⟩
  unfold mbapP at h
  split at h
  · exact hz _ h
  split at h
  · exact hz _ h
  split at h
  · exact hz _ h
  split at h
  · exact hz _ h
  split at h
  · exact hz _ h
  rename_i _ h8 _ _ _
  simp only [decide_eq_true_eq] at h8
  obtain ⟨t,z,n,u,l,rfl,ht,hz',hn,hl⟩:=mb_shape hr (by omega)
  obtain ⟨h0,h1,h2,h3,h4⟩:=mb_parts (u:=u) (l:=l) ht hz' hn
  rw [h4] at h
  cases hp:pduP dir l with
  | mk M E' =>
    rw [hp] at h
    obtain ⟨k1,k2⟩:=pduP_few hl hp
    have h:(if (E' != 0)=true then ((Frm.zero,E') : Frm × Int) else (⟨_,_,M⟩,0))=(F,E):=h
    split at h
    · exact hz _ h
    · injection h with h5 h6
      subst h5
      exact ⟨k1,fun hE=>absurd h6.symm hE⟩
open Go.RowKit
theorem aduW_some {k dir u t:Int} {M:Msg} {b:List Int} (h:aduW k dir u t M=some b) : (k=0∨k=1∨k=2)∧(k ≠ 2→t=0)∧∃ l,pduW dir M=some l∧l.length≤253:=by
  revert h
  refine k4 k (fun e=>?_) (fun e=>?_) (fun e=>?_) (fun h0 h1 h2=>?_)
  · subst e; intro h; obtain ⟨h1,l,h2,_,h3⟩:=rtuW_some h; exact ⟨.inl rfl,fun _=>h1,l,h2,h3⟩
  · subst e; intro h; obtain ⟨h1,l,h2,_,h3⟩:=ascW_some h; exact ⟨.inr (.inl rfl),fun _=>h1,l,h2,h3⟩
  · subst e; intro h; obtain ⟨l,h2,_,h3⟩:=mbapW_some h; exact ⟨.inr (.inr rfl),fun h=>absurd rfl h,l,h2,h3⟩
  · rw [aduW_x h0 h1 h2]; intro h; cases h
theorem aduW_of {k dir u t:Int} {M:Msg} {l:List Int} (hk:k=0∨k=1∨k=2) (ht:k ≠ 2→t=0) (h:pduW dir M=some l) : ∃ b,aduW k dir u t M=some b:=by
  rcases hk with rfl | rfl | rfl
  · obtain rfl:=ht (by decide); show ∃ b,rtuW dir u 0 M=some b; unfold rtuW; rw [h]; exact ⟨rtuB u l,by simp⟩
  · obtain rfl:=ht (by decide); show ∃ b,ascW dir u 0 M=some b; unfold ascW; rw [h]; exact ⟨ascB u l,by simp⟩
  · show ∃ b,mbapW dir u t M=some b; unfold mbapW; rw [h]; exact ⟨_,rfl⟩
theorem aduW_le {k dir u t:Int} {M:Msg} {b:List Int} (hc:0≤M.code∧M.code < 256) (h:aduW k dir u t M=some b) : 4≤b.length∧(b.length:Int)≤aduM k∧b.length≤513:=by
  rcases (aduW_some h).1 with rfl | rfl | rfl
  · have:=rtuW_le hc h; show 4≤b.length∧(b.length:Int)≤256∧_; omega
  · have:=ascW_le hc h; show 4≤b.length∧(b.length:Int)≤513∧_; omega
  · have:=mbapW_le hc h; show 4≤b.length∧(b.length:Int)≤260∧_; omega
theorem adu_rt {k dir u t:Int} {M:Msg} {b:List Int} (hd:dir=0∨dir=1) (hu:0≤u∧u < 256) (ht:0≤t∧t < 65536) (hc:0≤M.code∧M.code < 256) (hf:0≤M.fail∧M.fail < 256) (hb:∀ l,pduW dir M=some l→Byts l) (h:aduW k dir u t M=some b) : aduP k dir b=(⟨u,t,M⟩,0):=by
  rcases (aduW_some h).1 with rfl | rfl | rfl
  · exact rtu_rt hd hc hf h
  · exact asc_rt hd hu hc hf hb h
  · exact mbap_rt hd hc hf ht h
theorem aduP_few {k dir:Int} {b:List Int} {F:Frm} {E:Int} (hr:∀ x,x∈b→0≤x∧x < 256) (h:aduP k dir b=(F,E)) : MsgFew F.msg∧(E ≠ 0→F=Frm.zero):=by
  revert h
  refine k4 k (fun e=>?_) (fun e=>?_) (fun e=>?_) (fun h0 h1 h2=>?_)
  · subst e; exact rtuP_few hr
  · subst e; exact ascP_few
  · subst e; exact mbapP_few hr
  · rw [aduP_x h0 h1 h2]; intro h; injection h with e1 e2; subst e1 e2; exact ⟨few_zero,fun _=>rfl⟩
def aduT (a c dir:Int) (b:List Int) : Option (List Int) × Int :=
  bif aduM a == 0 || aduM c == 0 then (none,1) else bif (aduP a dir b).2 != 0 then (none,(aduP a dir b).2) else
    match aduW c dir (aduP a dir b).1.unit (bif c != 2 then 0 else (aduP a dir b).1.tid) (aduP a dir b).1.msg with
    | some l=>(some l,0)
    | none=>(none,1)
theorem aduM_pos {k:Int} (h:k=0∨k=1∨k=2) : (aduM k == 0)=false:=by rcases h with rfl | rfl | rfl <;> rfl
theorem aduT_of {a c dir u t:Int} {M:Msg} {b l:List Int} (ha:a=0∨a=1∨a=2) (hc:c=0∨c=1∨c=2) (h:aduP a dir b=(⟨u,t,M⟩,0)) (hW:aduW c dir u (bif c != 2 then 0 else t) M=some l) : aduT a c dir b=(some l,0):=by
  unfold aduT
  rw [aduM_pos ha,aduM_pos hc,h]
  simp only [Bool.or_self,cond_false]
  show (bif (0:Int) != 0 then _ else _)=_
  simp only [show ((0:Int) != 0)=false from rfl,cond_false]
  rw [hW]
theorem adu_there {a c dir u t:Int} {M:Msg} {b:List Int} (hc3:c=0∨c=1∨c=2) (hd:dir=0∨dir=1) (hu:0≤u∧u < 256) (ht:0≤t∧t < 65536) (hc:0≤M.code∧M.code < 256) (hf:0≤M.fail∧M.fail < 256) (hb:∀ l,pduW dir M=some l→Byts l) (h:aduW a dir u t M=some b) :
    ∃ b1,aduT a c dir b=(some b1,0)∧(4≤b1.length∧(b1.length:Int)≤aduM c∧b1.length≤513)∧∃ b2,aduT c a dir b1=(some b2,0)∧b2.length≤513∧aduP a dir b2=(⟨u,bif c != 2 then 0 else t,M⟩,0):=by
  obtain ⟨ha,ht2,l,hl,hle⟩:=aduW_some h
  have hp:=adu_rt hd hu ht hc hf hb h
  obtain ⟨b1,h1⟩:=aduW_of (u:=u) (t:=bif c != 2 then 0 else t) hc3 (fun hk=>by rw [show (c != 2)=true from by simpa using hk]; rfl) hl
  have ht':0≤(bif c != 2 then 0 else t)∧(bif c != 2 then 0 else t) < 65536:=by cases c != 2 <;> simp <;> omega
  have hp1:=adu_rt hd hu ht' hc hf hb h1
  refine ⟨b1,aduT_of ha hc3 hp h1,aduW_le hc h1,?_⟩
  obtain ⟨b2,h2⟩:=aduW_of (u:=u) (t:=bif a != 2 then 0 else bif c != 2 then 0 else t) ha (fun hk=>by rw [show (a != 2)=true from by simpa using hk]; rfl) hl
  have e:(bif a != 2 then 0 else bif c != 2 then 0 else t)=bif c != 2 then 0 else t:=by
    cases ha2:a != 2
    · rfl
    · obtain rfl:=ht2 (by simpa using ha2)
      cases c != 2 <;> rfl
  refine ⟨b2,aduT_of hc3 ha hp1 h2,(aduW_le hc h2).2.2,?_⟩
  rw [e] at h2
  exact adu_rt hd hu ht' hc hf hb h2
theorem three (x:Int) : x % 3=0∨x % 3=1∨x % 3=2:=by omega
open Go.RowKit
set_option maxRecDepth 100000 in
set_option maxHeartbeats 4000000 in
theorem pub7_any {x:Int} {w:World}:Calls Tryz.prog 23 #[.int .u8 x] w (PVal (.bool (pub7 x)) w):=by
 refine en 37 Tryz.func23 rfl<|sg<|Pl 1<|ng<|Pl 3<|cu 3 [5] 8 (((decide (1≤x)) && (decide (x≤8)))) (fun K K11=>?_) ?_
 refine bl 5 ((decide (1≤x))) (fun q10=>?_) (fun q10=>?_)
 have q10p:=of_decide_eq_true q10
 exact Pl 3<|ce K11 (decide (x≤8)) (by rw [q10]; rfl)
 have q10p:=of_decide_eq_false q10
 exact Pl 3<|ce K11 false (by rw [q10]; rfl)
 refine Pl 1<|cu 3 [9] 12 ((((decide (1≤x)) && (decide (x≤8))) || (x == 11))) (fun K K13=>?_) ?_
 refine bl 9 (((decide (1≤x)) && (decide (x≤8)))) (fun q12=>?_) (fun q12=>?_)
 have q12a:=(and_t q12).1
 have q12b:=(and_t q12).2
 have q12ap:=of_decide_eq_true q12a
 have q12bp:=of_decide_eq_true q12b
 exact Pl 3<|ce K13 true (by rw [q12]; rfl)
 exact Pl 3<|ce K13 (x == 11) (by rw [q12]; rfl)
 refine Pl 1<|cu 3 [13] 16 (((((decide (1≤x)) && (decide (x≤8))) || (x == 11)) || (x == 12))) (fun K K15=>?_) ?_
 refine bl 13 ((((decide (1≤x)) && (decide (x≤8))) || (x == 11))) (fun q14=>?_) (fun q14=>?_)
 exact Pl 3<|ce K15 true (by rw [q14]; rfl)
 have q14a:=(or_f q14).1
 have q14b:=(or_f q14).2
 have q14bp:=ne_of_beqi q14b
 exact Pl 3<|ce K15 (x == 12) (by rw [q14]; rfl)
 refine Pl 1<|cu 7 [17] 24 ((((((decide (1≤x)) && (decide (x≤8))) || (x == 11)) || (x == 12)) || ((decide (15≤x)) && (decide (x≤17))))) (fun K K17=>?_) ?_
 refine bl 17 (((((decide (1≤x)) && (decide (x≤8))) || (x == 11)) || (x == 12))) (fun q16=>?_) (fun q16=>?_)
 exact Pl 7<|ce K17 true (by rw [q16]; rfl)
 have q16a:=(or_f q16).1
 have q16b:=(or_f q16).2
 have q16aa:=(or_f q16a).1
 have q16ab:=(or_f q16a).2
 have q16abp:=ne_of_beqi q16ab
 have q16bp:=ne_of_beqi q16b
 refine Pl 3<|cu 3 [20] 23 (((decide (15≤x)) && (decide (x≤17)))) (fun K K19=>?_) ?_
 refine bl 20 ((decide (15≤x))) (fun q18=>?_) (fun q18=>?_)
 have q18p:=of_decide_eq_true q18
 exact Pl 3<|ce K19 (decide (x≤17)) (by rw [q18]; rfl)
 have q18p:=of_decide_eq_false q18
 exact Pl 3<|ce K19 false (by rw [q18]; rfl)
 exact Pl 1<|ce K17 ((decide (15≤x)) && (decide (x≤17))) (by rw [q16]; rfl)
 refine Pl 1<|cu 7 [25] 32 (((((((decide (1≤x)) && (decide (x≤8))) || (x == 11)) || (x == 12)) || ((decide (15≤x)) && (decide (x≤17)))) || ((decide (20≤x)) && (decide (x≤24))))) (fun K K21=>?_) ?_
 refine bl 25 ((((((decide (1≤x)) && (decide (x≤8))) || (x == 11)) || (x == 12)) || ((decide (15≤x)) && (decide (x≤17))))) (fun q20=>?_) (fun q20=>?_)
 exact Pl 7<|ce K21 true (by rw [q20]; rfl)
 have q20a:=(or_f q20).1
 have q20b:=(or_f q20).2
 have q20aa:=(or_f q20a).1
 have q20ab:=(or_f q20a).2
 have q20aaa:=(or_f q20aa).1
 have q20aab:=(or_f q20aa).2
 have q20aabp:=ne_of_beqi q20aab
 have q20abp:=ne_of_beqi q20ab
 refine Pl 3<|cu 3 [28] 31 (((decide (20≤x)) && (decide (x≤24)))) (fun K K23=>?_) ?_
 refine bl 28 ((decide (20≤x))) (fun q22=>?_) (fun q22=>?_)
 have q22p:=of_decide_eq_true q22
 exact Pl 3<|ce K23 (decide (x≤24)) (by rw [q22]; rfl)
 have q22p:=of_decide_eq_false q22
 exact Pl 3<|ce K23 false (by rw [q22]; rfl)
 exact Pl 1<|ce K21 ((decide (20≤x)) && (decide (x≤24))) (by rw [q20]; rfl)
 refine Pl 1<|cu 3 [33] 36 ((((((((decide (1≤x)) && (decide (x≤8))) || (x == 11)) || (x == 12)) || ((decide (15≤x)) && (decide (x≤17)))) || ((decide (20≤x)) && (decide (x≤24)))) || (x == 43))) (fun K K25=>?_) ?_
 refine bl 33 (((((((decide (1≤x)) && (decide (x≤8))) || (x == 11)) || (x == 12)) || ((decide (15≤x)) && (decide (x≤17)))) || ((decide (20≤x)) && (decide (x≤24))))) (fun q24=>?_) (fun q24=>?_)
 exact Pl 3<|ce K25 true (by rw [q24]; rfl)
 have q24a:=(or_f q24).1
 have q24b:=(or_f q24).2
 have q24aa:=(or_f q24a).1
 have q24ab:=(or_f q24a).2
 have q24aaa:=(or_f q24aa).1
 have q24aab:=(or_f q24aa).2
 have q24aaaa:=(or_f q24aaa).1
 have q24aaab:=(or_f q24aaa).2
 have q24aaabp:=ne_of_beqi q24aaab
 have q24aabp:=ne_of_beqi q24aab
 exact Pl 3<|ce K25 (x == 43) (by rw [q24]; rfl)
 refine Pl 1<|nt<|rt<|rr (.bool (((((((decide (1≤x)) && (decide (x≤8))) || (x == 11)) || (x == 12)) || ((decide (15≤x)) && (decide (x≤17)))) || ((decide (20≤x)) && (decide (x≤24)))) || (x == 43)))<|?_
 have hs:pub7 x=(((((((decide (1≤x)) && (decide (x≤8))) || (x == 11)) || (x == 12)) || ((decide (15≤x)) && (decide (x≤17)))) || ((decide (20≤x)) && (decide (x≤24)))) || (x == 43)):=by
   unfold pub7
   (try simp only [bs,if_true,if_false,decide_true,decide_false])
 rw [hs]
 exact ⟨rfl,(Upd.refl [] _)⟩
open Go.RowKit
theorem adu_all {k k' d u t u' t':Int} {M:Msg} {b:List Int} (h:aduW k d u t M=some b) (hk:k'=0∨k'=1∨k'=2) (ht:k' ≠ 2→t'=0) (h':aduW k' d u' t' M=none) : False:=by
  obtain ⟨_,_,l,hl,_⟩:=aduW_some h
  obtain ⟨b',e⟩:=aduW_of (u:=u') hk ht hl
  rw [e] at h'
  cases h'
theorem adu_lens {d u:Int} {M:Msg} {x y z:List Int} (hc:0≤M.code∧M.code < 256) (h0:aduW 0 d u 0 M=some x) (h1:aduW 1 d u 0 M=some y) (h2:aduW 2 d u 0 M=some z) : y.length + 3=2 * x.length + 4∧z.length=x.length + 4∧4≤x.length∧x.length≤256:=by
  obtain ⟨_,l0,k0,rfl,q0⟩:=rtuW_some h0
  obtain ⟨_,l1,k1,rfl,q1⟩:=ascW_some h1
  obtain ⟨l2,k2,rfl,q2⟩:=mbapW_some h2
  rw [k0] at k1 k2
  injection k1 with k1
  injection k2 with k2
  subst k1 k2
  have:=pduW_pos hc k0
  rw [rtuB_len,ascB_len,mbB_len]
  omega
theorem hexD_dig {n:Int} (h:0≤n∧n < 16) : (48≤hexD n∧hexD n≤57)∨(65≤hexD n∧hexD n≤70):=by unfold hexD; split <;> omega
theorem putH_dig {x:List Int} (hb:Byts x) {j:Nat} (h:j < 2 * x.length) : (48≤(putH x).getD j 0∧(putH x).getD j 0≤57)∨(65≤(putH x).getD j 0∧(putH x).getD j 0≤70):=by
  have hi:j / 2 < x.length:=by omega
  have hv:0≤x.getD (j / 2) 0∧x.getD (j / 2) 0 < 256:=by
    rw [List.getD_eq_getElem?_getD,List.getElem?_eq_getElem hi]
    exact hb _ (List.getElem_mem hi)
  obtain ⟨h1,h2⟩:=putH_get x (j / 2) hi
  rcases Nat.mod_two_eq_zero_or_one j with e | e
  · rw [show 2 * (j / 2)=j by omega] at h1
    rw [h1]
    exact hexD_dig (by omega)
  · rw [show 2 * (j / 2) + 1=j by omega] at h2
    rw [h2]
    exact hexD_dig (by omega)
theorem apart_get {s:List Int} {j:Nat} (h:j < s.length) : (([58]++s)++[13,10]).getD (j + 1) 0=s.getD j 0:=by
  simp only [List.getD_eq_getElem?_getD]
  rw [List.getElem?_append_left (by simp; omega),List.getElem?_append_right (by simp)]
  simp
theorem adu_apart {d u:Int} {M:Msg} {b:List Int} (hd:d=0∨d=1) (hu:0≤u∧u < 256) (hc:0≤M.code∧M.code < 256) (hb:∀ l,pduW d M=some l→Byts l) (h:aduW 1 d u 0 M=some b) :
    (∀ j,1≤j→j + 2 < b.length→(48≤b.getD j 0∧b.getD j 0≤57)∨(65≤b.getD j 0∧b.getD j 0≤70))∧b.getD 0 0=58∧b.getD (b.length - 1) 0=10∧∀ F E,aduP 2 d b=(F,E)→E=13∨E=3:=by
  obtain ⟨_,l,hl,rfl,hle⟩:=ascW_some h
  have hpos:=pduW_pos hc hl
  have hx:Byts (ascX u l):=ascX_byts hu (hb l hl)
  have hlen:=ascX_len u l
  rw [ascB_X]
  have hdig:∀ j,1≤j→j + 2 < (([58]++putH (ascX u l))++[13,10]).length→(48≤(([58]++putH (ascX u l))++[13,10]).getD j 0∧(([58]++putH (ascX u l))++[13,10]).getD j 0≤57)∨(65≤(([58]++putH (ascX u l))++[13,10]).getD j 0∧(([58]++putH (ascX u l))++[13,10]).getD j 0≤70):=by
    intro j h1 h2
    have hpl:=putH_len (ascX u l)
    simp only [List.length_append,List.length_cons,List.length_nil] at h2
    obtain ⟨i,rfl⟩ : ∃ i,j=i + 1:=⟨j - 1,by omega⟩
    rw [apart_get (by omega)]
    exact putH_dig hx (by omega)
  have hlB:=ascB_len u l
  rw [ascB_X] at hlB
  have hby:∀ x,x∈(([58]++putH (ascX u l))++[13,10])→0≤x∧x < 256:=by
    intro x hxm
    rcases List.mem_append.1 hxm with h1 | h1
    · rcases List.mem_append.1 h1 with h2 | h2
      · simp at h2; omega
      · obtain ⟨j,hj,e⟩:=List.getElem_of_mem h2
        have hpl:=putH_len (ascX u l)
        have:=putH_dig hx (j:=j) (by omega)
        rw [List.getD_eq_getElem?_getD,List.getElem?_eq_getElem hj,e] at this
        simp at this
        omega
    · simp at h1; omega
  refine ⟨hdig,rfl,?_,fun F E hP=>?_⟩
  · rw [hlB,List.getD_eq_getElem?_getD]
    have hpl:=putH_len (ascX u l)
    rw [List.getElem?_append_right (by simp; omega)]
    have:2 * l.length + 7 - 1 - ([58]++putH (ascX u l)).length=1:=by simp; omega
    rw [this]
    rfl
  · have hP:mbapP d (([58]++putH (ascX u l))++[13,10])=(F,E):=hP
    obtain ⟨t,z,n,v,m,e,ht,hz,hn,_⟩:=mb_shape hby (by omega)
    have hq:48≤z / 256:=by
      have h2:=hdig 2 (by omega) (by omega)
      rw [e] at h2
      have e2:(mbB t z n v m).getD 2 0=z / 256:=rfl
      rw [e2] at h2
      omega
    rw [e,mbapP_B hd ht hz hn] at hP
    have hm:=congrArg List.length e
    rw [hlB,mbB_len] at hm
    rw [if_neg (by rw [decide_eq_true_eq]; omega)] at hP
    split at hP
    · injection hP with _ e2; exact .inr e2.symm
    · rw [if_pos (by simp; omega)] at hP
      injection hP with _ e2; exact .inl e2.symm
def wayM (c f:Int) : Msg:={ Msg.zero with code:=c,fail:=f }
theorem adu_ways {k u c f:Int} (hk:k=0∨k=1∨k=2) (hu:0≤u∧u < 256) (hc:0≤c∧c < 256) (hf:1≤f∧f≤6) : aduW k 0 u 0 (wayM c f)=none∧(pub7 c=false→aduW k 1 u 0 (wayM c f)=none)∧(pub7 c=true→∃ b,aduW k 1 u 0 (wayM c f)=some b):=by
  have hfl:(wayM c f).fail=f:=rfl
  have h0:pduW 0 (wayM c f)=none:=by
    unfold pduW
    rw [hfl,if_pos (by simp; omega)]
    rfl
  have h1:pduW 1 (wayM c f)=if pub7 c then some [(c + 128) % 256,f] else none:=by
    unfold pduW
    rw [hfl,if_pos (by simp; omega)]
    show refW (wayM c f)=_
    unfold refW
    have hp:pairB (wayM c f).code (wayM c f).fail=pub7 c:=by
      show pairB c f=_
      unfold pairB
      rw [(code_tabI hc).1,show (f != 0)=true by simp; omega,show failureB f=true by rcases (show f=1∨f=2∨f=3∨f=4∨f=5∨f=6 by omega) with rfl | rfl | rfl | rfl | rfl | rfl <;> decide +kernel]
      simp
    rw [hp]
    cases pub7 c
    · rfl
    · rw [if_neg (by simp),if_neg (by simp; rfl),if_pos rfl]
      rfl
  refine ⟨?_,fun hp=>?_,fun hp=>?_⟩
  · rcases hk with rfl | rfl | rfl
    · show rtuW 0 u 0 _=none; unfold rtuW; rw [h0]
    · show ascW 0 u 0 _=none; unfold ascW; rw [h0]
    · show mbapW 0 u 0 _=none; unfold mbapW; rw [h0]
  · rw [hp] at h1
    have h1:pduW 1 (wayM c f)=none:=h1
    rcases hk with rfl | rfl | rfl
    · show rtuW 1 u 0 _=none; unfold rtuW; rw [h1]
    · show ascW 1 u 0 _=none; unfold ascW; rw [h1]
    · show mbapW 1 u 0 _=none; unfold mbapW; rw [h1]
  · rw [hp] at h1
    exact aduW_of hk (fun _=>rfl) h1
theorem adu_ways2 {k u c f dir:Int} {b:List Int} (hu:0≤u∧u < 256) (hc:0≤c∧c < 256) (hf:1≤f∧f≤6) (hp:pub7 c=true) (h:aduW k 1 u 0 (wayM c f)=some b) : ∀ F E,aduP k dir b=(F,E)→(dir=0→E=4)∧(E == 1)=(dir != 0 && dir != 1):=by
  intro F E hP
  have hc1:c < 128:=by
    have:=(code_tabI hc).2.2
    by_cases h:c < 128
    · exact h
    · rw [this (by omega)] at hp; cases hp
  have hb:∀ l,pduW 1 (wayM c f)=some l→l=[(c + 128) % 256,f]:=by
    intro l hl
    unfold pduW at hl
    rw [if_pos (show ((wayM c f).fail != 0)=true by show (f != 0)=true; simp; omega)] at hl
    have hl:refW (wayM c f)=some l:=hl
    unfold refW at hl
    split at hl
    · cases hl
    split at hl
    · cases hl
    · injection hl with hl; exact hl.symm
  have hby:∀ l,pduW 1 (wayM c f)=some l→Byts l:=by
    intro l hl
    rw [hb l hl]
    intro x hx
    rcases List.mem_cons.1 hx with e | hx
    · omega
    · rw [List.mem_singleton] at hx; omega
  by_cases h1:dir=1
  · subst h1
    have:=adu_rt (.inr rfl) hu (by decide) hc (show 0≤f∧f < 256 by omega) hby h
    rw [this] at hP
    injection hP with _ e
    subst e
    exact ⟨fun h=>(by cases h),rfl⟩
  by_cases h0:dir=0
  · subst h0
    obtain ⟨hk,_,l,hl,_⟩:=aduW_some h
    have hpd:pduP 0 [(c + 128) % 256,f]=(Msg.zero,4):=by
      have q:=(code_tabI (x:=(c + 128) % 256) (by omega))
      have q2:=q.2.1 (q.2.2 (by omega))
      unfold pduP
      rw [if_neg (by decide),if_neg (by simp),if_neg (by simp),if_neg (by simp)]
      show famP (cfam ((c + 128) % 256)) 0 _=_
      rw [q2]
      rfl
    have hE:E=4:=by
      rcases hk with rfl | rfl | rfl
      · obtain ⟨_,l,k0,rfl,q0⟩:=rtuW_some h
        have hP:rtuP 0 (rtuB u l)=(F,E):=hP
        rw [rtuP_B (.inl rfl) (by rw [hb l k0]; simp) q0,hb l k0,hpd] at hP
        injection hP with _ e; exact e.symm
      · obtain ⟨_,l,k0,rfl,q0⟩:=ascW_some h
        have hP:ascP 0 (ascB u l)=(F,E):=hP
        rw [ascP_B (.inl rfl) hu (hby l k0) (by rw [hb l k0]; simp) q0,hb l k0,hpd] at hP
        injection hP with _ e; exact e.symm
      · obtain ⟨l,k0,rfl,q0⟩:=mbapW_some h
        have hP:mbapP 0 (mbB 0 0 ((l.length:Int) + 1) u l)=(F,E):=hP
        rw [mbapP_B (.inl rfl) (by decide) (by decide) (by omega),hb l k0] at hP
        rw [show frmOf u 0 (pduP 0 [(c + 128) % 256,f])=(Frm.zero,4) by rw [hpd]; rfl] at hP
        simp at hP
        exact hP.2.symm
    subst hE
    exact ⟨fun _=>rfl,rfl⟩
  · have e0:(dir != 0 && dir != 1)=true:=by simp; exact ⟨h0,h1⟩
    have hE:E=1:=by
      obtain ⟨hk,_⟩:=aduW_some h
      rcases hk with rfl | rfl | rfl
      · have hP:rtuP dir b=(F,E):=hP
        unfold rtuP at hP; rw [if_pos e0] at hP; injection hP with _ e; exact e.symm
      · have hP:ascP dir b=(F,E):=hP
        unfold ascP at hP; rw [if_pos e0] at hP; injection hP with _ e; exact e.symm
      · have hP:mbapP dir b=(F,E):=hP
        unfold mbapP at hP; rw [if_pos e0] at hP; injection hP with _ e; exact e.symm
    subst hE
    exact ⟨fun h=>absurd h h0,by rw [e0]; rfl⟩
end Go.Proofs.YtpglhicfhppaiaaGreat
