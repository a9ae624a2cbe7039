/- Contracts of functions, part CGateCuts4. -/
import Derived.Test.YtdkhbcefkfgbdaaGreatCGateCuts1
import Derived.Test.YtdkhbcefkfgbdaaGreatCGateCuts2
import Derived.Test.YtdkhbcefkfgbdaaGreatCGateCuts3
import Derived.Laws.BitsAllLaws
import Derived.Laws.StructEq
import Derived.Scope
import Derived.Lib.ConvBytes
import Derived.Lib.OthersKept
import Derived.Shelf.Strings.Builder1
import Derived.Lib.SlBytesConst
set_option linter.unusedVariables false
set_option linter.unusedSimpArgs false
set_option maxRecDepth 100000
set_option maxHeartbeats 4000000
namespace Go.Proofs.YtdkhbcefkfgbdaaGreat
open Go.RowKit
variable {w:World}
theorem rG{p:Nat}{A:Option Addr}{cp:Nat}{L:List Ev}  (h:wE (.hi p) w (.slice A L.length cp) L)(hL:L.length≤200000) : Calls Tryz.prog 38 #[.slice A L.length cp] w (fun e w'=>∃ v,e = .returned v∧aJ w.heap.size 47 24 (nY (.hi p)) w' v (av L)∧ap [] w w'):=by
 have hz:=aP.len h
 refine en 22 Tryz.func38 rfl<|au 1<|dl 1<|sq<|ay 3<|bk<|?_
 refine js (fun x=>[(2,nS),(3,.slice x.2.2.1 x.2.1.length x.2.2.2),(6,.slice A L.length cp),(7,vI (L.length:Int)),(8,vI (x.1:Int))]) (fun(x:Nat × List bu × Option Addr × Nat) w'=>ap [] w w'∧aJ w.heap.size 47 24 (nY (.hi p)) w' (.slice x.2.2.1 x.2.1.length x.2.2.2) x.2.1∧(x.1≤L.length)∧(x.2.1.length≤x.1)∧(x.2.1=av (L.take x.1))) (fun x=>L.length-x.1) (0,[],none,0) ⟨ap.refl _ _,(aJ.nil w.heap.size _ _ (nY (.hi p)) _),(by(try dsimp only);omega),(by(try dsimp only);exact Nat.le_refl _),rfl⟩ ?_
 rintro⟨k,fs,B,cq⟩ u ⟨g,y,z,C,D⟩
 refine ip [(2,nS),(3,.slice B fs.length cq),(6,.slice A L.length cp),(7,vI (L.length:Int)),(8,vI (k:Int))] ?_
 have c:aJ w.heap.size 47 24 (nY (.hi p)) u (.slice B fs.length cq) fs:=y
 have V:k≤L.length:=z
 have W:fs.length≤k:=C
 have i:fs=av (L.take k):=D
 refine ay 1<|sq<|cb ((decide ((k:Int)<(L.length:Int)))) (fun j=>?_) (fun j=>?_)
 have E:=of_decide_eq_true j
 refine bU<|sq<|bk<|sg<|DD (wE.elt h k (by omega) (Ev.bad 0)) fun X Y Z a0 a1 a F G n H=>L0<|oO 25 L.length k F (by omega)<|?_
 refine L0<|BP [vI ((L.getD k (Ev.bad 0)).e),vB ((L.getD k (Ev.bad 0)).f.unit),vW ((L.getD k (Ev.bad 0)).f.tid),vB ((L.getD k (Ev.bad 0)).f.msg.code),vB ((L.getD k (Ev.bad 0)).f.msg.fail),vW ((L.getD k (Ev.bad 0)).f.msg.addr),vW ((L.getD k (Ev.bad 0)).f.msg.count),vW ((L.getD k (Ev.bad 0)).f.msg.value),vW ((L.getD k (Ev.bad 0)).f.msg.and_),vW ((L.getD k (Ev.bad 0)).f.msg.or_),vW ((L.getD k (Ev.bad 0)).f.msg.addr2),vW ((L.getD k (Ev.bad 0)).f.msg.sub),vW ((L.getD k (Ev.bad 0)).f.msg.status),vW ((L.getD k (Ev.bad 0)).f.msg.events),vW ((L.getD k (Ev.bad 0)).f.msg.messages),.slice a.aw ((L.getD k (Ev.bad 0)).f.msg.words.length) a.kw,.slice a.ab ((L.getD k (Ev.bad 0)).f.msg.bits.length) a.kb,.slice a.ad ((L.getD k (Ev.bad 0)).f.msg.data.length) a.kd,.slice a.ar ((L.getD k (Ev.bad 0)).f.msg.recs.length) a.kr,vB ((L.getD k (Ev.bad 0)).f.msg.mei),vB ((L.getD k (Ev.bad 0)).f.msg.kind),vB ((L.getD k (Ev.bad 0)).f.msg.level),vB ((L.getD k (Ev.bad 0)).f.msg.more),vB ((L.getD k (Ev.bad 0)).f.msg.next),.slice a.ao ((L.getD k (Ev.bad 0)).f.msg.objects.length) a.ko] (ub g G) H<|aL #[vI 0,vB 0,vW 0,vB 0,vB 0,vW 0,vW 0,vW 0,vW 0,vW 0,vW 0,vW 0,vW 0,vW 0,vW 0,nS,nS,nS,nS,vB 0,vB 0,vB 0,vB 0,vB 0,nS] fun a2 a3 I J K=>aI J (y3 ⟨(L.getD k (Ev.bad 0)).e,(L.getD k (Ev.bad 0)).f⟩ a) fun a4 o M=>aS 1<|ax o 0<|al 1<|?_
 have d:=ud K M I
 have q:=aH g d
 refine cb ((((L.getD k (Ev.bad 0)).e)==0)) (fun b=>?_) (fun b=>?_)
 have N:=aC b
 refine go<|Pl 2<|L0<|Cf o 1 24<|L0<|dv (m:=1) (e:=47) (ep ((L.getD k (Ev.bad 0)).f.unit) ((L.getD k (Ev.bad 0)).f.tid) ((L.getD k (Ev.bad 0)).f.msg) a) fun a5 a6 O P r=>?_
 have l:=aH q r
 have Q:=Df O P ⟨a,rfl,(aE.old (n.1) l),n.2⟩
 have s:=aH d r
 have t:=aj c s (fun x hx=>az) (nY.upd s aK)
 refine L0<|i3 (xs:=fs) (ys:=([(L.getD k (Ev.bad 0)).f])) (.agg AI) 24 160 t (Q).rd nY.ones (fun w' hv=>nY.upd hv (cR (du _ t (by decide)) aK)) (by(try simp only[cl,aq]);omega) l.size fun R S a7 T U a8=>Pl 1<|nl<|bn<|tn<|go<|bA ((k:Int)+1)<|Pl 1<|nl<|?_
 exact fM ((k+1),(fs++[(L.getD k (Ev.bad 0)).f]),R,S) ⟨(ut l U (ah (aT c lr) aB)),T,(by(try dsimp only);omega),(by(try dsimp only);(try simp only[cl]);omega),(by(try dsimp only);exact(tg (by omega) i).1 b)⟩ (by omega)
 have N:=aO b
 refine sk<|bn<|tn<|go<|bA ((k:Int)+1)<|Pl 1<|nl<|?_
 exact fM ((k+1),fs,B,cq) ⟨q,(aj c d (fun x hx=>az) (nY.upd d aK)),(by(try dsimp only);omega),(by(try dsimp only);(try simp only[cl]);omega),(by(try dsimp only);exact(tg (by omega) i).2 b)⟩ (by omega)
 have E:=of_decide_eq_false j
 refine xt<|tx<|tx<|bx<|tn<|ay 2<|rt<|rr (.slice B fs.length cq)<|?_
 have hs:fs=av L:=by rw[i,List.take_of_length_le (by omega)]
 exact⟨_,rfl,by rw[← hs];exact c,g⟩
theorem uB{p:Nat}{v:Value}{L:List Ev}  (h:wE (.hi p) w v L)(hL:L.length≤200000) : Calls Tryz.prog 38 #[v] w (fun e w'=>∃ v,e = .returned v∧aJ w.heap.size 47 24 (nY (.hi p)) w' v (av L)∧ap [] w w'):=by
      obtain⟨A,cp,rfl,_,_⟩:=h.shape
      exact rG h hL
end Go.Proofs.YtdkhbcefkfgbdaaGreat
namespace Go.Proofs.YtdkhbcefkfgbdaaGreat
def wM (x:Nat) : Nat:=(x/2) ^^^ (x%2*40961)
def i5:Nat→Nat→Nat
  | 0,x=>x
  | k+1,x=>wM (i5 k x)
def yH (i:Nat) : Nat:=i5 8 i
theorem zc{x:Nat}(h:x<65536) : wM x<65536:=by
  unfold wM
  exact Nat.xor_lt_two_pow (n:=16) (by omega) (by omega)
theorem o9{x:Nat}(h:x<65536) : ∀ k,i5 k x<65536
  | 0=>h
  | k+1=>zc (o9 h k)
theorem sM{i:Nat}(h:i<256) : yH i<65536:=o9 (by omega) 8
def vF (s c:Nat) : Nat:=(s/256) ^^^ yH ((s%256) ^^^ c)
variable {b:Nat}
theorem sW{a:Nat}(ha:a<256)(hb:b<256) : a ^^^ b<256:=Nat.xor_lt_two_pow (n:=8) ha hb
theorem xI{a:Nat}(ha:a<65536)(hb:b<65536) : a ^^^ b<65536:=Nat.xor_lt_two_pow (n:=16) ha hb
theorem xB{s c:Nat}(hs:s<65536)(hc:c<256) : vF s c<65536:=xI (by omega) (sM (sW (by omega) hc))
def xi (a b:Int) : Int:=((a.toNat ^^^ b.toNat:Nat) : Int)
theorem Ei{a b:Int}(ha:0≤a∧a<256)(hb:0≤b∧b<256) : 0≤xi a b∧xi a b<256:=by
  have:=sW (a:=a.toNat) (b:=b.toNat) (by omega) (by omega)
  unfold xi
  omega
theorem yw(n:Nat) : xi (((n:Nat) : Int)/2) ((((n:Nat) : Int)%2)*40961%65536)=((wM n:Nat) : Int):=by
  unfold xi wM
  rw[show(((n:Nat) : Int)/2).toNat=n/2 from by omega,show((((n:Nat) : Int)%2)*40961%65536).toNat=n%2*40961 from by omega]
def kB (i:Int) : Int:=((yH i.toNat:Nat) : Int)
theorem pn{i:Int}(h:0≤i∧i<256) : 0≤kB i∧kB i<65536:=by
  have:=sM (i:=i.toNat) (by omega)
  unfold kB
  omega
def s9 (s c:Int) : Int:=xi (s/256) (kB (xi (s%256) c))
theorem xM{s c:Int}(hs:0≤s∧s<65536)(hc:0≤c∧c<256) : s9 s c=((vF s.toNat c.toNat:Nat) : Int):=by
  unfold s9 kB xi vF
  rw[show(s/256).toNat=s.toNat/256 from by omega,show(s%256).toNat=s.toNat%256 from by omega]
  simp only[Int.toNat_natCast]
theorem pZ{s c:Int}(hs:0≤s∧s<65536)(hc:0≤c∧c<256) : 0≤s9 s c∧s9 s c<65536:=by
  have:=xB (s:=s.toNat) (c:=c.toNat) (by omega) (by omega)
  rw[xM hs hc]
  omega
def cI (s:Int)(b:List Int) : Int:=b.foldl s9 s
theorem j9:∀ (b:List Int){s:Int},(0≤s∧s<65536)→(∀ x,x∈b→0≤x∧x<256)→0≤cI s b∧cI s b<65536
  | [],s,hs,_=>hs
  | c :: b,s,hs,hb=>j9 b (pZ hs (hb c (List.mem_cons_self ..))) fun x hx=>hb x (List.mem_cons_of_mem _ hx)
theorem wh(s:Int)(a b:List Int) : cI s (a++b)=cI (cI s a) b:=by unfold cI;rw[List.foldl_append]
def bO (s:Int) : List Int:=[s%256,s/256%256]
theorem iC(s:Int) : (bO s).length=2:=rfl
def el (b:List Int) : Bool:=decide (2≤b.length)&&decide (bO (cI 65535 (b.take (b.length-2)))=b.drop (b.length-2))
open Go.RowKit
def Cy (P:Program)(ty:TypeId) : Option (Nat × TypeId):=match P.underlying ty with | some (.array m e)=>some (m,e) | _=>none
theorem vz{P:Program}{ty e:TypeId}{m:Nat}(h:Cy P ty=some (m,e)) : P.underlying ty=some (.array m e):=by
  unfold Cy at h
  split at h
  · injection h with h
    injection h with h1 h2
    subst h1 h2
    assumption
  · cases h
variable {w:World}
theorem tU{P:Program}  {ev:Operand→Value}{o:Oper}{t e:TypeId}{x ix:Operand}{off j m:Nat}{k:IntKind}{i:Int}(ho:o.op = .indexAddr t x ix)(ht:P.underlying t=some (.array m e))(hi:(P.info? e).map (·.size)=some 1)
    (hx:ev x = .pointer (some ⟨b,off,none⟩)) (hix:ev ix = .int k i) (hj:i=j) (hlt:j<m) : (execOp ev o).run P w = .ok (.value (.pointer (some ⟨b,off+j,none⟩))) w:=by
  subst hj
  obtain⟨i0,hi0,hs⟩:=Option.map_eq_some_iff.1 hi
  unfold execOp
  have h2:(0:Int)≤(j:Int)∧(j:Int)<(m:Int):=by omega
  simp[ho,hx,hix,Instr.indexAt,Instr.sureAddr,asIntOf,run_underlying ht,Result.andThen,h2,sizeOf,typeInfo,hi0,hs,iU,hlt]
section
variable {P:Program}{n:Nat}{D:List Deferred}{F:Fr}{w:World}{K:Fr→World→Prop}{Q:Exit→Act→World→Prop}{d:Option Tmp}{t:TypeId}{s:String}{af:Array Edge}{gu:Option (Nat × Bool)}
theorem Cq{ty:TypeId}{x ix:Operand}{b off:Nat}(m j:Nat)(i:Int)(hj:i=j)(hlt:j<m)(h:K (pt d (.pointer (some ⟨b,off+j,none⟩)) F) w)
    (hx:dM F x=some (.pointer (some ⟨b,off,none⟩)):=by kernel_rfl) (hi:zz F ix=some i:=by kernel_rfl) (hs:((Cy P ty).bind fun p=>(P.info? p.2).map fun q=>(p.1,q.size),ey n d)=(some (m,1),true):=by kernel_rfl) : OG P ⟨d,.indexAddr ty x ix,t,s,af,gu⟩ n D F w K Q:=by
  simp only[Prod.mk.injEq] at hs
  obtain⟨hs,hd⟩:=hs
  obtain⟨k,hi⟩:=lZ hi
  cases he:Cy P ty with
  | none=>rw[he] at hs;simp at hs
  | some p =>
    obtain⟨m',e⟩:=p
    rw[he] at hs
    obtain⟨q,hq,h3⟩:=Option.map_eq_some_iff.1 (show(P.info? e).map (fun q=>(m',q.size))=some (m,1) from hs)
    injection h3 with h4 h5
    subst h4
    exact⟨fun a ha K' hK=>f9 _ rfl (tU rfl (vz he) (by rw[hq];simp[h5]) (ha.ev hx) (ha.ev hi) hj hlt) (hK _ _ _ h (ha.put hd))⟩
end
theorem BI{a b:Int}(ha:0≤a∧a<256)(hb:0≤b∧b<256) : bits .xor .u8 a b=xi a b:=u8_xor a b ha.1 ha.2 hb.1 hb.2
theorem xa{a b:Int}(ha:0≤a∧a<65536)(hb:0≤b∧b<65536) : bits .xor .u16 a b=xi a b:=u16_xor a b ha.1 ha.2 hb.1 hb.2
theorem w9{a:Int}(ha:0≤a∧a<65536) : bits .and .u16 a 1=a%2:=by
  rw[u16_and a 1 ha.1 ha.2 (by omega) (by omega)]
  show((a.toNat &&& 1:Nat) : Int)=_
  rw[Nat.and_one_is_mod]
  omega
def gW (k:Nat) : Array Value:=((List.range 256).map fun i=>if i<k then Value.int .u16 (kB i) else Value.int .u16 0).toArray
theorem cK(k:Nat) : (gW k).size=256:=by simp[gW]
theorem pu(k:Nat) : (gW k).all (·.oneCell')=true:=by
  unfold gW
  rw[List.all_toArray,List.all_eq_true]
  intro v hv
  rw[List.mem_map] at hv
  obtain⟨i,_,rfl⟩:=hv
  split<;>rfl
theorem xU{i k:Nat}(hk:k=8)(hi:i<256) : (gW i).setIfInBounds i (.int .u16 ((i5 k i:Nat) : Int))=gW (i+1):=by
  subst hk
  unfold gW
  rw[List.setIfInBounds_toArray]
  congr 1
  apply List.ext_getElem?
  intro j
  rw[List.getElem?_set]
  by_cases hj:j<256
  · by_cases hij:i=j
    · subst hij
      simp[hi,kB,yH]
    · simp[hij,hj]
      congr 1
      simp only[eq_iff_iff]
      omega
  · rw[if_neg (by omega)]
    simp[hj]
theorem zT{i:Nat}(h:i<256) : (gW 256)[i]? = some (.int .u16 (kB i)):=by simp[gW,h]
def et (s:Int)(b:List Int) : Nat→Int
  | 0=>s
  | k+1=>s9 (et s b k) (b.getD k 0)
theorem ns(s:Int)(b:List Int) : ∀ k,k≤b.length→et s b k=cI s (b.take k)
  | 0,_=>by simp[et,cI]
  | k+1,h=>by
    rw[List.take_succ_eq_append_getElem (by omega),wh,← ns s b k (by omega)]
    show s9 _ (b.getD k 0)=_
    rw[List.getD_eq_getElem?_getD,List.getElem?_eq_getElem (by omega)]
    rfl
theorem wT{s:Int}{b:List Int}{k:Nat}(h:k=b.length) : et s b k=cI s b:=by
  subst h
  rw[ns _ _ _ (Nat.le_refl _),List.take_length]
theorem oy{s:Int}{b:List Int}(hs:0≤s∧s<65536)(hb:∀ x,x∈b→0≤x∧x<256) : ∀ k,0≤et s b k∧et s b k<65536
  | 0=>hs
  | k+1=>pZ (oy hs hb k) (fX (by omega) hb k)
theorem wG{i:Int}(h:0≤i) : kB ((i.toNat:Nat) : Int)=kB i:=by rw[Int.toNat_of_nonneg h]
open Go.RowKit
theorem oh{w:World}:Calls Tryz.prog 258 #[] w (bH (.agg (gW 256)) w):=by
 refine en 23 Tryz.func258 rfl<|sg<|aL (gW 0) fun c F n o p=>ng<|aL (gW 0) fun a q r s t=>nt<|sq<|sg<|?_
 refine al 1<|bk<|?_
 refine js (fun x=>[(0,vP c 0),(1,vP a 0),(4,vI ((x:Nat) : Int))]) (fun(x:Nat) w'=>ap [a] q w'∧w'.heap[a]? = some (.cells (gW x) 247 (0,0))∧(x≤256)) (fun x=>256-x) 0 ⟨ap.refl _ _,s,(by(try dsimp only);omega)⟩ ?_
 rintro i g ⟨h,u,v⟩
 refine ip [(0,vP c 0),(1,vP a 0),(4,vI ((i:Nat) : Int))] ?_
 have j:g.heap[a]? = some (.cells (gW i) 247 (0,0)):=u
 have G:i≤256:=v
 refine ay 1<|sq<|?_
 have l:=ud t h r
 refine cb ((decide (((i:Nat) : Int)<256))) (fun d=>?_) (fun d=>?_)
 have y:=of_decide_eq_true d
 refine bU<|sq<|bk<|au 2<|aS 1<|L0<|Oe (vW (IntKind.u16.wrap ((i:Nat) : Int))) (vW ((i5 0 i:Nat) : Int)) (congrArg (Value.int .u16) (rI (x:=((i:Nat) : Int)) (by omega)))<|Pl 1<|nl<|?_
 refine tn<|sq<|ay 1<|bk<|?_
 refine js (fun x=>[(0,vP c 0),(1,vP a 0),(2,vI ((i:Nat) : Int)),(3,vW ((i5 x i:Nat) : Int)),(4,vI ((i:Nat) : Int)),(5,.bool (decide (((i:Nat) : Int)<256))),(6,vI ((i:Nat) : Int)),(7,vI ((i:Nat) : Int)),(8,vW ((i5 0 i:Nat) : Int)),(9,vI ((x:Nat) : Int))]) (fun(x:Nat) w'=>ap [] g w'∧(x≤8)) (fun x=>8-x) 0 ⟨ap.refl _ _,(by(try dsimp only);omega)⟩ ?_
 rintro k H ⟨e,z⟩
 refine ip [(0,vP c 0),(1,vP a 0),(2,vI ((i:Nat) : Int)),(3,vW ((i5 k i:Nat) : Int)),(4,vI ((i:Nat) : Int)),(5,.bool (decide (((i:Nat) : Int)<256))),(6,vI ((i:Nat) : Int)),(7,vI ((i:Nat) : Int)),(8,vW ((i5 0 i:Nat) : Int)),(9,vI ((k:Nat) : Int))] ?_
 have I:k≤8:=z
 have J:=o9 (x:=i) (by omega) k
 refine ay 1<|sq<|?_
 refine cb ((decide (((k:Nat) : Int)<8))) (fun f=>?_) (fun f=>?_)
 have A:=of_decide_eq_true f
 refine bU<|sq<|bk<|go<|Pl 1<|L0<|Oe (vW (Int.fdiv ((i5 k i:Nat) : Int) (2 ^ 1))) (vW (((i5 k i:Nat) : Int)/2)) (congrArg (Value.int .u16) (kH _ _ _ (by decide)))<|Pl 1<|L0<|Oe (vW (bits .and .u16 ((i5 k i:Nat) : Int) 1)) (vW (((i5 k i:Nat) : Int)%2)) (congrArg (Value.int .u16) (w9 (by omega)))<|Pl 1<|L0<|Oe (vW (bits .xor .u16 (((i5 k i:Nat) : Int)/2) (((((i5 k i:Nat) : Int)%2)*40961)%65536))) (vW ((i5 (k+1) i:Nat) : Int)) (congrArg (Value.int .u16) ((xa (by omega) (by omega)).trans (yw _)))<|Pl 1<|nl<|bn<|?_
 exact tn<|go<|bA (((k:Nat) : Int)+1)<|Pl 1<|nl<|fM (k+1) ⟨e,(by(try dsimp only);omega)⟩ (by omega)
 have A:=of_decide_eq_false f
 refine xt<|tx<|tx<|bx<|tn<|go<|Pl 2<|L0<|Cq (b:=a) (off:=0) 256 i ((i:Nat) : Int) rfl (by omega)<|?_
 refine L0<|cv (hl:=(by rw[cK];simp;omega)) (ub e j) (0+i) ((gW i).setIfInBounds (0+i) (vW ((i5 k i:Nat) : Int))) fun K B C=>?_
 have m:=B
 rw[Nat.zero_add,xU (by omega) (by omega)] at m
 refine nl<|bn<|tn<|go<|bA (((i:Nat) : Int)+1)<|Pl 1<|nl<|?_
 exact fM (i+1) ⟨(u1 h (uz e C) im),m,(by(try dsimp only);omega)⟩ (by omega)
 have y:=of_decide_eq_false d
 refine xt<|tx<|tx<|bx<|tn<|sg<|L0<|cH (hz:=(by rw[cK];kernel_rfl)) j<|?_
 refine aI (hz:=(by rw[cK];kernel_rfl)) (hv:=(Eq.trans (by first | rw[cK,cK] | rw[cK]) (Eq.symm (cK _)))) (h1:=(pu _)) (ub l o) ((gW i)) fun L D E=>qQ<|CN 256 (cK _) D<|?_
 have hi:i=256:=by omega
 subst hi
 exact⟨rfl,(ud (aH p l) E n)⟩
theorem o3{m:Md}{A:Option Addr}{cp:Nat}{b:List Int}{w:World}{s:Int}(hsl:aR m w (.slice A b.length cp) b)(hs:0≤s∧s<65536) :
    Calls Tryz.prog 257 #[vW s,.slice A b.length cp] w (bH (vW (cI s b)) w):=by
 have hln:=aP.len hsl
 have hb:=aR.range hsl
 refine en 26 Tryz.func257 rfl<|au 1<|ng<|aF<|m1 (@oh w) fun D g=>aL (gW 0) fun c E h j l=>aI (hz:=(by rw[cK];kernel_rfl)) (hv:=(Eq.trans (by first | rw[cK,cK] | rw[cK]) (Eq.symm (cK _)))) (h1:=(pu _)) j ((gW 256)) fun n o q=>nt<|sq<|ay 3<|bk<|?_
 refine js (fun x=>[(0,vW (et s b x)),(4,vW 0),(5,vP c 0),(9,.slice A b.length cp),(10,vI (b.length:Int)),(11,vI ((x:Nat) : Int))]) (fun(x:Nat) w'=>ap [] n w'∧(x≤b.length)∧(0≤et s b x∧et s b x<65536)) (fun x=>b.length-x) 0 ⟨ap.refl _ _,(by(try dsimp only);omega),hs⟩ ?_
 rintro k F ⟨d,r,t⟩
 refine ip [(0,vW (et s b k)),(4,vW 0),(5,vP c 0),(9,.slice A b.length cp),(10,vI (b.length:Int)),(11,vI (k:Int))] ?_
 have G:k≤b.length:=r
 have H:0≤et s b k∧et s b k<65536:=t
 refine ay 1<|sq<|?_
 have f:=aH g (ud l (aH q d) h)
 refine cb ((decide ((k:Int)<(b.length:Int)))) (fun e=>?_) (fun e=>?_)
 have u:=of_decide_eq_true e
 refine bU<|sq<|bk<|sg<|?_
 refine jc (aR.at_ (aR.old hsl f) k (by omega)) fun y z B C I=>L0<|pf b.length k B (by omega)<|L0<|m8 (p:=⟨y,z+k,none⟩) (v:=vB (b.getD k 0)) C<|al 1<|go<|Pl 1<|L0<|Oe (vW (Int.fdiv (et s b k) (2 ^ 8))) (vW ((et s b k)/256)) (congrArg (Value.int .u16) (kH _ _ _ (by decide)))<|Pl 3<|?_
 have J:=Ei (a:=((et s b k)%256)) (b:=(b.getD k 0)) (by omega) (by omega)
 refine L0<|Oe (vB (bits .xor .u8 ((et s b k)%256) (b.getD k 0))) (vB (xi ((et s b k)%256) (b.getD k 0))) (congrArg (Value.int .u8) (BI (by omega) (by omega)))<|L0<|Cq (b:=c) (off:=0) 256 (((xi ((et s b k)%256) (b.getD k 0))).toNat) (xi ((et s b k)%256) (b.getD k 0)) (by omega) (by omega)<|?_
 have K:=pn (i:=(xi ((et s b k)%256) (b.getD k 0))) (by omega)
 exact L0<|m8 (p:=⟨c,0+((xi ((et s b k)%256) (b.getD k 0))).toNat,none⟩) (v:=vW (kB ((xi ((et s b k)%256) (b.getD k 0))))) (ae (ub d o) (by rw[Nat.zero_add,zT (by omega),wG (by omega)]))<|L0<|Oe (vW (bits .xor .u16 ((et s b k)/256) (kB (xi ((et s b k)%256) (b.getD k 0))))) (vW (et s b (k+1))) (congrArg (Value.int .u16) (xa (by omega) (pn (by omega))))<|Pl 1<|nl<|bn<|tn<|go<|bA ((k:Int)+1)<|Pl 1<|nl<|fM (k+1) ⟨d,(by(try dsimp only);omega),(oy hs hb _)⟩ (by omega)
 have u:=of_decide_eq_false e
 refine xt<|tx<|tx<|bx<|tn<|ay 2<|rt<|rr (vW (et s b k))<|?_
 have hk:et s b k=cI s b:=wT (by omega)
 rw[hk]
 exact⟨rfl,f⟩
theorem p8{m:Md}{v:Value}{b:List Int}{w:World}(h:aR m w v b) : Calls Tryz.prog 257 #[.int .u16 65535,v] w (bH (.int .u16 (cI 65535 b)) w):=by
  obtain⟨A,cp,rfl,_,_⟩:=h.shape
  exact o3 h (by decide)
theorem qB{m:Md}{A:Option Addr}{cp:Nat}{b:List Int}{w:World}(hsl:aR m w (.slice A b.length cp) b) :
    Calls Tryz.prog 256 #[.slice A b.length cp] w (bH (vW (cI 65535 b)) w):=by
 exact en 5 Tryz.func256 rfl<|au 1<|aS 1<|aF<|m1 (p8 hsl) fun c a=>al 1<|rt<|rr (vW (cI 65535 b))<|⟨rfl,a⟩
theorem jR{m:Md}{v:Value}{b:List Int}{w:World}(h:aR m w v b) : Calls Tryz.prog 256 #[v] w (bH (.int .u16 (cI 65535 b)) w):=by
  obtain⟨A,cp,rfl,_,_⟩:=h.shape
  exact qB h
theorem gB{w:World}{s:Int}(hs:0≤s∧s<65536) : Calls Tryz.prog 255 #[vW s] w (fun e w'=>∃ v,e = .returned v∧cn w.heap.size w' v (bO s)∧ap [] w w'):=by
 refine en 9 Tryz.func255 rfl<|au 1<|aS 3<|L0<|Oe (vW (Int.fdiv s (2 ^ 8))) (vW (s/256)) (congrArg (Value.int .u16) (kH _ _ _ (by decide)))<|Pl 1<|L0<|dv (m:=2) (e:=5) #[vB (s%256),vB ((s/256)%256)] fun a g b c d=>?_
 have f:=dF b (xs:=[(s%256),((s/256)%256)]) (by as_aux_lemma=>kernel_rfl) (am (by omega) (am (by omega) aY)) (by(try simp only[List.length_cons,List.length_nil]);omega) c
 exact al 1<|rt<|rr (.slice (some ⟨a,0,none⟩) 2 2)<|⟨_,rfl,f,d⟩
theorem kI{b:List Int}{n:Nat}(h:2≤b.length)(hn:n=b.length-2) : el b=decide (bO (cI 65535 (b.take n))=b.drop n):=by
  subst hn
  unfold el
  simp[h]
theorem yN{b:List Int}(h:b.length<2) : el b=false:=by
  unfold el
  simp
  omega
theorem s4{m:Md}{A:Option Addr}{cp:Nat}{b:List Int}{w:World}(hsl:aR m w (.slice A b.length cp) b)(hb:b.length≤1048576)(hcp:b.length≤cp) :
    Calls Tryz.prog 254 #[.slice A b.length cp] w (bH (.bool (el b)) w):=by
 have hc:=aP.len hsl
 refine en 22 Tryz.func254 rfl<|au 1<|aS 2<|bA ((b.length:Int)-2)<|al 1<|sq<|?_
 refine Rg 16 (fun w'=>True) fun R f=>b9 trivial fun d=>Rt 0 d<|Rt 1 d<|Rt 2 d<|y2 9 ((decide (0≤((b.length:Int)-2)))) (fun p=>?_) (fun p=>?_)
 have I:=of_decide_eq_true p
 refine Rt 3 d<|Rt 4 d<|qN (th (P:=Tryz.prog) 27 5 1 Tryz.underlying27 rfl rfl A b.length cp (k:=((b.length:Int)-2)) ((((b.length:Int)-2)).toNat) (by omega) (by omega) (by omega)) fun q hrun60 i=>Rr 5 d (.slice q ((((b.length:Int)-2)).toNat) cp) (fun _ _=>fU (kl:=.i64) (k:=((b.length:Int)-2)) (A:=A) (n:=b.length) (c:=cp) rfl Tryz.underlying27 (by kernel_rfl) (by kernel_rfl) (hrun60 _ _))<|Rt 9 d<|Rt 10 d<|qN (io (P:=Tryz.prog) 27 5 1 Tryz.underlying27 rfl rfl A b.length cp (lo:=((b.length:Int)-2)) ((((b.length:Int)-2)).toNat) (by omega) (by omega)) fun g hrun63 e=>Rr 11 d (.slice g (b.length-((((b.length:Int)-2)).toNat)) (cp-((((b.length:Int)-2)).toNat))) (fun _ _=>e7 (kl:=.i64) (k:=((b.length:Int)-2)) (A:=A) (n:=b.length) (c:=cp) rfl Tryz.underlying27 (by kernel_rfl) (by kernel_rfl) (hrun63 _ _))<|R2 6 12 rfl rfl ?_ ?_
 have h:=aR.old hsl f
 refine  Oc (args:=#[.slice q ((((b.length:Int)-2)).toNat) cp])<|m1 (jR (i _ _ _ _ _ h)) fun S j=>?_
 have T:=j9 (b.take ((((b.length:Int)-2)).toNat)) (s:=65535) (by decide) (aR.range (i _ _ _ _ _ h))
 refine b9 trivial fun U=>?_
 refine R2 7 12 rfl rfl ?_ ?_
 refine  Oc<|eU (gB (s:=(cI 65535 (b.take ((((b.length:Int)-2)).toNat)))) (by omega)) fun x y V l W X z=>b9 trivial fun Y=>?_
 refine R2 8 12 rfl rfl ?_ ?_
 refine  iq (.string (strOfNums (bO (cI 65535 (b.take ((((b.length:Int)-2)).toNat)))))) (ck (A:=x) (n:=(bO (cI 65535 (b.take ((((b.length:Int)-2)).toNat)))).length) (c:=y) rfl (by kernel_rfl) Tryz.underlying27 Tryz.underlying5 Tryz.underlying9 (l).rd)<|b9 trivial fun Z=>?_
 have B:=aH j z
 have C:=aR.old h B
 refine R0 12 rfl<|iq (.string (strOfNums (b.drop ((((b.length:Int)-2)).toNat)))) (ck (A:=g) (n:=(b.length-((((b.length:Int)-2)).toNat))) (c:=(cp-((((b.length:Int)-2)).toNat))) rfl (by kernel_rfl) Tryz.underlying27 Tryz.underlying5 Tryz.underlying9 (e _ _ _ _ _ C))<|b9 trivial fun r=>Rr 13 r (.bool (decide ((bO (cI 65535 (b.take ((((b.length:Int)-2)).toNat))))=(b.drop ((((b.length:Int)-2)).toNat))))) (fun _ _=>e8 (a:=(strOfNums (bO (cI 65535 (b.take ((((b.length:Int)-2)).toNat)))))) (b:=(strOfNums (b.drop ((((b.length:Int)-2)).toNat)))) rfl (by kernel_rfl) (by kernel_rfl) (iF (l).rd (e _ _ _ _ _ C)))<|Rt 14 r<|Rt 15 r<|re<|tn<|rt<|rr (.bool (decide ((bO (cI 65535 (b.take ((((b.length:Int)-2)).toNat))))=(b.drop ((((b.length:Int)-2)).toNat)))))<|?_
 have hs:el b=(decide ((bO (cI 65535 (b.take ((((b.length:Int)-2)).toNat))))=(b.drop ((((b.length:Int)-2)).toNat)))):=(kI (by omega) (by omega))
 rw[hs]
 exact⟨rfl,(aH f B)⟩
 have D:=aH j z
 have E:=aR.old h D
 refine  iq (.string (strOfNums (b.drop ((((b.length:Int)-2)).toNat)))) (ck (A:=g) (n:=(b.length-((((b.length:Int)-2)).toNat))) (c:=(cp-((((b.length:Int)-2)).toNat))) rfl (by kernel_rfl) Tryz.underlying27 Tryz.underlying5 Tryz.underlying9 (e _ _ _ _ _ E))<|b9 trivial fun a0=>R0 8 rfl<|iq (.string (strOfNums (bO (cI 65535 (b.take ((((b.length:Int)-2)).toNat)))))) (ck (A:=x) (n:=(bO (cI 65535 (b.take ((((b.length:Int)-2)).toNat)))).length) (c:=y) rfl (by kernel_rfl) Tryz.underlying27 Tryz.underlying5 Tryz.underlying9 (l).rd)<|b9 trivial fun t=>Rr 13 t (.bool (decide ((bO (cI 65535 (b.take ((((b.length:Int)-2)).toNat))))=(b.drop ((((b.length:Int)-2)).toNat))))) (fun _ _=>e8 (a:=(strOfNums (bO (cI 65535 (b.take ((((b.length:Int)-2)).toNat)))))) (b:=(strOfNums (b.drop ((((b.length:Int)-2)).toNat)))) rfl (by kernel_rfl) (by kernel_rfl) (iF (l).rd (e _ _ _ _ _ E)))<|Rt 14 t<|Rt 15 t<|re<|tn<|rt<|rr (.bool (decide ((bO (cI 65535 (b.take ((((b.length:Int)-2)).toNat))))=(b.drop ((((b.length:Int)-2)).toNat)))))<|?_
 have hs:el b=(decide ((bO (cI 65535 (b.take ((((b.length:Int)-2)).toNat))))=(b.drop ((((b.length:Int)-2)).toNat)))):=(kI (by omega) (by omega))
 rw[hs]
 exact⟨rfl,(aH f D)⟩
 have F:=aR.old h j
 refine  iq (.string (strOfNums (b.drop ((((b.length:Int)-2)).toNat)))) (ck (A:=g) (n:=(b.length-((((b.length:Int)-2)).toNat))) (c:=(cp-((((b.length:Int)-2)).toNat))) rfl (by kernel_rfl) Tryz.underlying27 Tryz.underlying5 Tryz.underlying9 (e _ _ _ _ _ F))<|b9 trivial fun a1=>R0 7 rfl<|Oc<|eU (gB (s:=(cI 65535 (b.take ((((b.length:Int)-2)).toNat)))) (by omega)) fun J K a2 G a3 a4 L=>b9 trivial fun a5=>R0 8 rfl<|iq (.string (strOfNums (bO (cI 65535 (b.take ((((b.length:Int)-2)).toNat)))))) (ck (A:=J) (n:=(bO (cI 65535 (b.take ((((b.length:Int)-2)).toNat)))).length) (c:=K) rfl (by kernel_rfl) Tryz.underlying27 Tryz.underlying5 Tryz.underlying9 (G).rd)<|b9 trivial fun u=>Rr 13 u (.bool (decide ((bO (cI 65535 (b.take ((((b.length:Int)-2)).toNat))))=(b.drop ((((b.length:Int)-2)).toNat))))) (fun _ _=>e8 (a:=(strOfNums (bO (cI 65535 (b.take ((((b.length:Int)-2)).toNat)))))) (b:=(strOfNums (b.drop ((((b.length:Int)-2)).toNat)))) rfl (by kernel_rfl) (by kernel_rfl) (iF (G).rd (e _ _ _ _ _ F)))<|Rt 14 u<|Rt 15 u<|re<|tn<|rt<|rr (.bool (decide ((bO (cI 65535 (b.take ((((b.length:Int)-2)).toNat))))=(b.drop ((((b.length:Int)-2)).toNat)))))<|?_
 have hs:el b=(decide ((bO (cI 65535 (b.take ((((b.length:Int)-2)).toNat))))=(b.drop ((((b.length:Int)-2)).toNat)))):=(kI (by omega) (by omega))
 rw[hs]
 exact⟨rfl,(aH f (aH j L))⟩
 have o:=aR.old hsl f
 refine  iq (.string (strOfNums (b.drop ((((b.length:Int)-2)).toNat)))) (ck (A:=g) (n:=(b.length-((((b.length:Int)-2)).toNat))) (c:=(cp-((((b.length:Int)-2)).toNat))) rfl (by kernel_rfl) Tryz.underlying27 Tryz.underlying5 Tryz.underlying9 (e _ _ _ _ _ o))<|b9 trivial fun a6=>R0 6 rfl<|Oc (args:=#[.slice q ((((b.length:Int)-2)).toNat) cp])<|m1 (jR (i _ _ _ _ _ o)) fun a7 M=>?_
 have a8:=j9 (b.take ((((b.length:Int)-2)).toNat)) (s:=65535) (by decide) (aR.range (i _ _ _ _ _ o))
 refine b9 trivial fun a9=>R0 7 rfl<|Oc<|eU (gB (s:=(cI 65535 (b.take ((((b.length:Int)-2)).toNat)))) (by omega)) fun N O aa H ab ac Q=>b9 trivial fun ad=>R0 8 rfl<|iq (.string (strOfNums (bO (cI 65535 (b.take ((((b.length:Int)-2)).toNat)))))) (ck (A:=N) (n:=(bO (cI 65535 (b.take ((((b.length:Int)-2)).toNat)))).length) (c:=O) rfl (by kernel_rfl) Tryz.underlying27 Tryz.underlying5 Tryz.underlying9 (H).rd)<|b9 trivial fun v=>Rr 13 v (.bool (decide ((bO (cI 65535 (b.take ((((b.length:Int)-2)).toNat))))=(b.drop ((((b.length:Int)-2)).toNat))))) (fun _ _=>e8 (a:=(strOfNums (bO (cI 65535 (b.take ((((b.length:Int)-2)).toNat)))))) (b:=(strOfNums (b.drop ((((b.length:Int)-2)).toNat)))) rfl (by kernel_rfl) (by kernel_rfl) (iF (H).rd (e _ _ _ _ _ o)))<|Rt 14 v<|Rt 15 v<|re<|tn<|rt<|rr (.bool (decide ((bO (cI 65535 (b.take ((((b.length:Int)-2)).toNat))))=(b.drop ((((b.length:Int)-2)).toNat)))))<|?_
 have hs:el b=(decide ((bO (cI 65535 (b.take ((((b.length:Int)-2)).toNat))))=(b.drop ((((b.length:Int)-2)).toNat)))):=(kI (by omega) (by omega))
 rw[hs]
 exact⟨rfl,(aH f (aH M Q))⟩
 have I:=of_decide_eq_false p
 refine Ro 3 d<|Ro 4 d<|Ro 5 d<|Ro 6 d<|Ro 7 d<|Ro 8 d<|Ro 9 d<|Ro 10 d<|Ro 11 d<|Ro 12 d<|Ro 13 d<|Rt 14 d<|Rt 15 d<|re<|tn<|rt<|rr (.bool false)<|?_
 have hs:el b=false:=(yN (by omega))
 rw[hs]
 exact⟨rfl,f⟩
theorem tT{m:Md}{v:Value}{b:List Int}{w:World}(h:aR m w v b)(hb:b.length≤1048576) : Calls Tryz.prog 254 #[v] w (bH (.bool (el b)) w):=by
  obtain⟨A,cp,rfl,hc,_⟩:=h.shape
  exact s4 h hb hc
open Go.RowKit
def fJ (b:List Int) : List Int:=(b.take (b.length-2)).drop 1
theorem lz(b:List Int) : fJ b=(b.take (((b.length:Nat) : Int)-2).toNat).drop 1:=by
  unfold fJ
  rw[show(((b.length:Nat) : Int)-2).toNat=b.length-2 from by omega]
def eQ (dir:Int)(b:List Int) : bu × Int :=
  if dir != 0&&dir != 1 then (bu.zero,1)
  else if decide ((b.length:Int)<4) then (bu.zero,2)
  else if decide (256<(b.length:Int)) then (bu.zero,3)
  else if !(el b) then (bu.zero,10)
  else dn (b.getD 0 0) 0 (dm dir (fJ b))
theorem rL{m:Md}{A:Option Addr}{cp:Nat}{b:List Int}{w:World}{dir:Int}(hsl:aR m w (.slice A b.length cp) b)(hb:b.length≤1048576)(hcp:b.length≤cp) :
    Calls Tryz.prog 253 #[vI dir,.slice A b.length cp] w (nF (eQ dir b) w):=by
 have hln:(b.length:Int)≤1048576:=by omega
 refine en 51 Tryz.func253 rfl<|sg<|aL #[vB 0,vW 0,vB 0,vB 0,vW 0,vW 0,vW 0,vW 0,vW 0,vW 0,vW 0,vW 0,vW 0,vW 0,nS,nS,nS,nS,vB 0,vB 0,vB 0,vB 0,vB 0,nS] fun aY aZ j e B=>al 1<|sq<|bk<|au 3<|gy 3 [11] 14 11 (dir != 0) (dir != 1) (fun K a3 a4=>?_) ?_
 have b0:=aN a4
 exact Pl 3<|ce a3 _ rfl
 refine al 1<|cb (((dir != 0)&&(dir != 1))) (fun d=>?_) (fun d=>?_)
 have N:=(bK d).1
 have O:=(bK d).2
 have b1:=aN N
 have b2:=aN O
 refine au 1<|aI e #[vB 0,vW 0,vB 0,vB 0,vW 0,vW 0,vW 0,vW 0,vW 0,vW 0,vW 0,vW 0,vW 0,vW 0,nS,nS,nS,nS,vB 0,vB 0,vB 0,vB 0,vB 0,nS] fun b3 a5 a6=>al 1<|rt<|br<|tr<|dZ a5 (vI 1)<|?_
 have hs:eQ dir b=(bu.zero,1):=by
   unfold eQ
   (try simp only[d,N,O,bt,dn,reduceIte])
   all_goals rfl
 refine dR hs ?_
 exact cV (ud B a6 j)
 refine ay 4<|cb ((decide ((b.length:Int)<4))) (fun f=>?_) (fun f=>?_)
 have a7:=of_decide_eq_true f
 refine au 1<|aI e #[vB 0,vW 0,vB 0,vB 0,vW 0,vW 0,vW 0,vW 0,vW 0,vW 0,vW 0,vW 0,vW 0,vW 0,nS,nS,nS,nS,vB 0,vB 0,vB 0,vB 0,vB 0,nS] fun b4 a8 a9=>al 1<|rt<|br<|tr<|dZ a8 (vI 2)<|?_
 have hs:eQ dir b=(bu.zero,2):=by
   unfold eQ
   (try simp only[d,f,bt,dn,reduceIte])
   all_goals rfl
 refine dR hs ?_
 exact cV (ud B a9 j)
 have a7:=of_decide_eq_false f
 refine ay 4<|cb ((decide (256<(b.length:Int)))) (fun h=>?_) (fun h=>?_)
 have aa:=of_decide_eq_true h
 refine au 1<|aI e #[vB 0,vW 0,vB 0,vB 0,vW 0,vW 0,vW 0,vW 0,vW 0,vW 0,vW 0,vW 0,vW 0,vW 0,nS,nS,nS,nS,vB 0,vB 0,vB 0,vB 0,vB 0,nS] fun b5 ab ac=>al 1<|rt<|br<|tr<|dZ ab (vI 3)<|?_
 have hs:eQ dir b=(bu.zero,3):=by
   unfold eQ
   (try simp only[d,f,h,bt,dn,reduceIte])
   all_goals rfl
 refine dR hs ?_
 exact cV (ud B ac j)
 have aa:=of_decide_eq_false h
 refine au 1<|?_
 have Q:=aR.old hsl B
 refine aF (args:=#[.slice A b.length cp])<|m1 (tT Q (by omega)) fun ad i=>al 2<|?_
 have I:=aH B i
 refine cb ((!(el b))) (fun k=>?_) (fun k=>?_)
 have F:(el b)=false:=by simpa using k
 refine au 1<|?_
 refine aI (ub i e) #[vB 0,vW 0,vB 0,vB 0,vW 0,vW 0,vW 0,vW 0,vW 0,vW 0,vW 0,vW 0,vW 0,vW 0,nS,nS,nS,nS,vB 0,vB 0,vB 0,vB 0,vB 0,nS] fun b6 ae af=>al 1<|rt<|br<|tr<|dZ ae (vI 10)<|?_
 have hs:eQ dir b=(bu.zero,10):=by
   unfold eQ
   (try simp only[d,f,h,k,F,bt,dn,reduceIte])
   all_goals rfl
 refine dR hs ?_
 exact cV (ud I af j)
 have F:(el b)=true:=by simpa using k
 refine sk<|bn<|tn<|au 4<|bA ((b.length:Int)-2)<|qN (sG (P:=Tryz.prog) 27 5 1 Tryz.underlying27 rfl rfl A b.length cp (lo:=1) (up:=((b.length:Int)-2)) 1 ((((b.length:Int)-2)).toNat) (by omega) (by omega) (by omega) (by omega) (by omega)) fun ag hrun43 ah=>L0<|iq (.slice ag (((((b.length:Int)-2)).toNat)-1) (cp-1)) (nh (kl:=.i64) (kh:=.i64) (lo:=1) (hi:=((b.length:Int)-2)) (A:=A) (n:=b.length) (c:=cp) rfl Tryz.underlying27 (by kernel_rfl) (by kernel_rfl) (by kernel_rfl) (hrun43 _ _ _))<|?_
 obtain⟨a,C,J⟩ : ∃ M E,dm dir ((b.take ((((b.length:Int)-2)).toNat)).drop 1)=(M,E):=⟨_,_,rfl⟩
 have R:=aR.old Q i
 have S:=jz (dir:=dir) (w:=ad) (ah _ _ _ _ _ R) (by rw[List.length_drop,List.length_take];omega)
 rw[J] at S
 refine aF<|e2 S fun aj ba T L=>?_
 have am:=T
 obtain⟨an,ao,ap,aq,ar,av,aw,ax,az,aA,aB,bb⟩:=am
 obtain rfl:aj=(ei a an ao ap aq ar).toArray:=by apply Array.toList_inj.1;simpa using av
 obtain⟨l,o,rfl,_,_⟩:=aw.shape
 obtain⟨p,q,rfl,_,_⟩:=ax.shape
 obtain⟨r,s,rfl,_,_⟩:=az.shape
 obtain⟨t,u,rfl,_,_⟩:=aA.shape
 obtain⟨v,y,rfl,_,_⟩:=aB.shape
 refine Pl 3<|aL mZ fun U bc V aC aD=>aI aC (mG a.code a.fail a.addr a.count a.value a.and_ a.or_ a.addr2 a.sub a.status a.events a.messages (.slice l a.words.length o) (.slice p a.bits.length q) (.slice r a.data.length s) (.slice t a.recs.length u) a.mei a.kind a.level a.more a.next (.slice v a.objects.length y)) fun bd aG aJ=>al 1<|sq<|ay 2<|?_
 have W:=ud aD aJ V
 have G:=aH L W
 have X:=aH I G
 refine cb ((C != 0)) (fun D=>?_) (fun D=>?_)
 have aM:=aN D
 refine au 2<|?_
 refine aI (ub (aH i G) e) #[vB 0,vW 0,vB 0,vB 0,vW 0,vW 0,vW 0,vW 0,vW 0,vW 0,vW 0,vW 0,vW 0,vW 0,nS,nS,nS,nS,vB 0,vB 0,vB 0,vB 0,vB 0,nS] fun be aO aP=>al 1<|bJ<|dZ aO (vI C)<|?_
 have hX2:dm dir (fJ b)=(a,C):=(congrArg (dm dir) (lz b)).trans J
 have hs:eQ dir b=(bu.zero,C):=by
   unfold eQ
   (try simp only[d,f,h,k,F,D,bt,dn,hX2,reduceIte])
   all_goals rfl
 refine dR hs ?_
 exact cV (ud X aP j)
 have aM:=aV D
 refine bU<|sq<|?_
 refine jc (aR.at_ (aR.old R G) 0 (by omega)) fun aQ aS Y aT bf=>Rg 8 (fun w'=>w'.cell? ⟨aQ,aS+0,none⟩=some (vB (b.getD 0 0))∧w'.heap[U]? = some (.cells (mG a.code a.fail a.addr a.count a.value a.and_ a.or_ a.addr2 a.sub a.status a.events a.messages (.slice l a.words.length o) (.slice p a.bits.length q) (.slice r a.data.length s) (.slice t a.recs.length u) a.mei a.kind a.level a.more a.next (.slice v a.objects.length y)) 45 (0,0))) fun bg H=>?_
 have Z:=ub H aG
 refine b9 ⟨(uc H aT),Z⟩ fun z=>Rt 0 z<|xz 1 z b.length 0 0 rfl Y (by omega)<|Rl 2 z (fun _ hs=>hs.1)<|Rt 3 z<|Rr 4 z (.agg (mG a.code a.fail a.addr a.count a.value a.and_ a.or_ a.addr2 a.sub a.status a.events a.messages (.slice l a.words.length o) (.slice p a.bits.length q) (.slice r a.data.length s) (.slice t a.recs.length u) a.mei a.kind a.level a.more a.next (.slice v a.objects.length y))) (fun w' hs=>gg (g:=U) (off:=0) [vB a.code,vB a.fail,vW a.addr,vW a.count,vW a.value,vW a.and_,vW a.or_,vW a.addr2,vW a.sub,vW a.status,vW a.events,vW a.messages,.slice l a.words.length o,.slice p a.bits.length q,.slice r a.data.length s,.slice t a.recs.length u,vB a.mei,vB a.kind,vB a.level,vB a.more,vB a.next,.slice v a.objects.length y] rfl (by kernel_rfl) hs.2 (by kernel_rfl) (by kernel_rfl) rfl)<|Rt 5 z<|?_
 refine R0 6 rfl<|qv (ub (aH i (aH G H)) e) #[vB (b.getD 0 0),vW 0,vB a.code,vB a.fail,vW a.addr,vW a.count,vW a.value,vW a.and_,vW a.or_,vW a.addr2,vW a.sub,vW a.status,vW a.events,vW a.messages,.slice l a.words.length o,.slice p a.bits.length q,.slice r a.data.length s,.slice t a.recs.length u,vB a.mei,vB a.kind,vB a.level,vB a.more,vB a.next,.slice v a.objects.length y] fun bh aU a0=>?_
 have a1:=uz H a0
 have a2:=ud X a1 j
 refine b9 ⟨(cB (aR.old hsl a2) Y 0 (by omega)),(b7 a0 (Ne.symm (nb (ai e) (le i.size L.size) V)) Z)⟩ fun aX=>Rt 7 aX<|re<|tn<|rt<|dZ aU (vI 0)<|?_
 have hX2:dm dir (fJ b)=(a,C):=(congrArg (dm dir) (lz b)).trans J
 have hs:eQ dir b=(⟨(b.getD 0 0),0,a⟩,0):=by
   unfold eQ
   (try simp only[d,f,h,k,F,D,bt,dn,hX2,reduceIte])
   all_goals rfl
 refine dR hs ?_
 exact⟨_,rfl,⟨#[vB a.code,vB a.fail,vW a.addr,vW a.count,vW a.value,vW a.and_,vW a.or_,vW a.addr2,vW a.sub,vW a.status,vW a.events,vW a.messages,.slice l a.words.length o,.slice p a.bits.length q,.slice r a.data.length s,.slice t a.recs.length u,vB a.mei,vB a.kind,vB a.level,vB a.more,vB a.next,.slice v a.objects.length y],(by as_aux_lemma=>kernel_rfl),(aE.lo (aE.upd T (uz W a1) (ak (aW (ub (aH i L) e) (by decide)) aK)) I.size),b8 (x:=(b.getD 0 0)) (by omega),co (x:=0) (by omega)⟩,a2⟩
theorem uY{m:Md}{v:Value}{b:List Int}{w:World}{dir:Int}(h:aR m w v b)(hb:b.length≤1048576) : Calls Tryz.prog 253 #[.int .i64 dir,v] w (nF (eQ dir b) w):=by
  obtain⟨A,cp,rfl,hc,_⟩:=h.shape
  exact rL h hb hc
open Go.RowKit
theorem xl(a b c d:Int)(w:World) : (Op.equalIn 10000 39 (.agg #[.int .u8 a,.int .u16 b]) (.agg #[.int .u8 c,.int .u16 d])).run Tryz.prog w = .ok ((a==c)&&(b==d)) w:=by
  have hS:Tryz.prog.underlying 39=some (.struct (Tryz.prog.fieldsOf 39)):=by kernel_rfl
  have hp:Tryz.prog.stoodInHeld 39=false:=by kernel_rfl
  rw[show(10000:Nat)=9998+1+1 from rfl,run_equalIn_agg w (9998+1) 39 _ _ hS hp]
  simp only[Program.fieldsOf,Tryz.underlying39]
  have p0:∀ v:Int,(part 5 #[.int .u8 v,.int .u16 b] 0).run Tryz.prog w = .ok (.int .u8 v) w:=fun v=>by simp[part,isAgg,run_underlying Tryz.underlying5,Result.andThen]
  have p0':∀ v:Int,(part 5 #[.int .u8 v,.int .u16 d] 0).run Tryz.prog w = .ok (.int .u8 v) w:=fun v=>by simp[part,isAgg,run_underlying Tryz.underlying5,Result.andThen]
  have p1:∀ v u:Int,(part 37 #[.int .u8 u,.int .u16 v] 1).run Tryz.prog w = .ok (.int .u16 v) w:=fun v u=>by simp[part,isAgg,run_underlying Tryz.underlying37,Result.andThen]
  have e0:=run_equalIn_int (P:=Tryz.prog) w 9998 5 .u8 _ a c Tryz.underlying5
  have e1:=run_equalIn_int (P:=Tryz.prog) w 9998 37 .u16 _ b d Tryz.underlying37
  simp only[Op.eqFields,Sem.run_bind,p0,p0',p1,e0,e1,Result.andThen_ok,ne_eq,String.reduceEq,not_false_eq_true,if_true,Sem.run_ite]
  cases (a==c)<;>cases (b==d)<;>simp
theorem rS{ev:Operand→Value}{o:Oper}{x y:Operand}{t:TypeId}(a b c d:Int){v:Bool}{w:World}(ho:o.op = .binOp .neq 39 x y t)
    (hx:ev x = .agg #[.int .u8 a,.int .u16 b]) (hy:ev y = .agg #[.int .u8 c,.int .u16 d]) (hv:(!((a==c)&&(b==d)))=v) : (execOp ev o).run Tryz.prog w = .ok (.value (.bool v)) w:=by
  subst hv
  have hg:(eqGuard .neq 39 x y (.agg #[.int .u8 a,.int .u16 b]) (.agg #[.int .u8 c,.int .u16 d])).run Tryz.prog w = .ok () w:=run_eqGuard_agg w _ _ _ _ _ _ (by kernel_rfl)
  unfold execOp
  simp only[ho,hx,hy,Sem.run_bind,hg,Result.andThen_ok,run_neq_struct,xl,Sem.run_pure]
open Go.RowKit
def mi (u:Int)(l:List Int) : List Int:=([u]++l)++bO (cI 65535 ([u]++l))
def gU (dir u t:Int)(M:b6) : Option (List Int) :=
  match dD dir M with
  | none=>none
  | some l=>if !((u==u)&&(t==0)) then none else some (mi u l)
theorem nf{m:Md}{cs:Array Value}{M:b6}{w:World}{dir u t:Int}(h:aE m w cs.toList M)(hf:bf M)(hu:B8 u)(ht:eo t) : Calls Tryz.prog 262 #[vI dir,.agg (#[vB u,vW t]++cs)] w (fx (gU dir u t M) w):=by
 have hM:=h
 obtain⟨hu1,hu2⟩:=hu
 obtain⟨ht1,ht2⟩:=ht
 refine iK h fun Aw kw Ab kb Ad kd Ar kr Ao ko e hw hbt hd hr ho _ _ _ _ _ _ _ _ _ _ q0 q1 q2 q3 q4 q5 q6 q7 q8 q9 O P Q R S T U=>?_
 subst e
 refine en 38 Tryz.func262 rfl<|sg<|L0<|cU #[vB u,vW t,vB M.code,vB M.fail,vW M.addr,vW M.count,vW M.value,vW M.and_,vW M.or_,vW M.addr2,vW M.sub,vW M.status,vW M.events,vW M.messages,.slice Aw M.words.length kw,.slice Ab M.bits.length kb,.slice Ad M.data.length kd,.slice Ar M.recs.length kr,vB M.mei,vB M.kind,vB M.level,vB M.more,vB M.next,.slice Ao M.objects.length ko] fun V W X k c=>Pl 2<|aS 2<|L0<|Cf k 2 22<|?_
 rcases hwr:dD dir M with _|lw
 have l:=eV (dir:=dir) (aE.old hM c) hf
 rw[hwr] at l
 refine aF<|m1 l fun Y C=>al 5<|sq<|ay 11<|c1<|au 2<|nl<|tn<|bJ<|rr (.tuple #[nS,vI 1])<|?_
 exact dA (y:=none) (by unfold gU;(try simp only[hwr,bt,reduceIte])<;>rfl) ⟨rfl,(aH c C)⟩
 have hlw:=gq hwr
 have n:=eV (dir:=dir) (aE.old hM c) hf
 rw[hwr] at n
 refine aF<|eU n fun Z a0 a1 D a2 a3 o=>al 5<|sq<|au 4<|?_
 have g:=ub o k
 refine L1<|Cf g 0 2<|Pl 2<|L1<|ii g 0<|Pl 1<|L1<|iq (.bool (!((u==u)&&(t==0)))) (rS u t u 0 rfl (by kernel_rfl) (by kernel_rfl) rfl)<|al 1<|?_
 have i:=aH c o
 refine cb ((!((u==u)&&(t==0)))) (fun a=>?_) (fun a=>?_)
 have b:((u==u)&&(t==0))=false:=by simpa using a
 exact ay 2<|bJ<|rr (.tuple #[nS,vI 1])<|dA (y:=none) (by unfold gU;(try simp only[hwr,a,b,bt,reduceIte])<;>rfl) ⟨rfl,i⟩
 have b:((u==u)&&(t==0))=true:=by simpa using a
 have p:=(bK b).1
 have q:=(bK b).2
 have q33nap:=aC p
 have q33nbp:=aC q
 refine bU<|au 2<|ax g 0<|L0<|dv (m:=1) (e:=5) #[vB u] fun E a4 F G d=>?_
 have r:=dF F (xs:=[u]) (by as_aux_lemma=>kernel_rfl) (am (by omega) aY) (by(try simp only[List.length_cons,List.length_nil]);omega) G
 refine Pl 1<|?_
 refine L0<|cZ bh (xs:=([u])) (ys:=lw) (vB 0) 1 r ((aj D d (fun x hx=>az) (fun _ _ h=>h))).rd (by(try simp only[cl,aq,iC]);omega) d.size fun j H a5 f v=>Pl 1<|aS 2<|aF (args:=#[.slice j (([u]++lw).length) H])<|m1 (jR (f).rd) fun a6 z=>?_
 have a7:=j9 ([u]++lw) (s:=65535) (by decide) (aR.range (f).rd)
 refine aF<|eU (gB (s:=(cI 65535 ([u]++lw))) (by omega)) fun a8 a9 aa I ab ac A=>?_
 have B:=aH z A
 refine L0<|cZ bh (xs:=([u]++lw)) (ys:=(bO (cI 65535 ([u]++lw)))) (vB 0) 1 (aj f B (fun x hx=>az) (fun _ _ h=>h)) (I).rd (by(try simp only[cl,aq,iC]);omega) (le (le (le d.size v.size) z.size) A.size) fun J K ad L N=>al 2<|rt<|rr (.tuple #[.slice J ((([u]++lw)++(bO (cI 65535 ([u]++lw)))).length) K,vI 0])<|?_
 exact dA (y:=(some (([u]++lw)++(bO (cI 65535 ([u]++lw)))))) (by unfold gU;(try simp only[hwr,a,b,p,q,bt,reduceIte])<;>rfl) ⟨_,rfl,(aJ.weaken L i.size),(aH i (ut d (ut (ap.mono (S':=(ob (some ⟨E,0,none⟩)++(ob j++[]))) v (ah il aB)) (ut (ap.mono (S':=(ob j++[])) B aB) N (ah il aB)) (ah il aB)) (ah (aT r lr) (ah (aT f lr) aB))))⟩
open Go.RowKit
theorem qf{m:Md}{v:Value}{b:List Int}{w:World}{dir:Int}{F:bu}{E:Int}(hX:eQ dir b=(F,E))(h:aR m w v b)(hb:b.length≤1048576) : Calls Tryz.prog 253 #[.int .i64 dir,v] w (fun e w'=>∃ x,e = .returned (.tuple #[.agg (ep F.unit F.tid F.msg x),.int .i64 E])∧(aE (.hi w.heap.size) w' (j6 F.msg x).toList F.msg∧(0≤F.unit∧F.unit<256)∧(0≤F.tid∧F.tid<65536))∧ap [] w w'):=by
  refine(uY h hb).mono ?_
  rintro e w' ⟨cs,rfl,h1,h2⟩
  rw[hX] at h1 ⊢
  obtain⟨c,rfl,h3,h4,h5⟩:=h1
  obtain⟨x,rfl⟩:=rP h3
  exact⟨x,by rw[fv],⟨h3,h4,h5⟩,h2⟩
theorem oU{m:Md}{x:SL}{M:b6}{w:World}{dir u t:Int}(hX:gU dir u t M=none)(h:aE m w (j6 M x).toList M)(hf:bf M)(hu:0≤u∧u<256)(ht:0≤t∧t<65536) : Calls Tryz.prog 262 #[.int .i64 dir,.agg (ep u t M x)] w (fun e w'=>e = .returned (.tuple #[.slice none 0 0,.int .i64 1])∧ap [] w w'):=by
  have:=nf (dir:=dir) h hf hu ht
  rw[hX] at this
  rw[fv]
  exact this
theorem pi{m:Md}{x:SL}{M:b6}{w:World}{dir u t:Int}{l:List Int}(hX:gU dir u t M=some l)(h:aE m w (j6 M x).toList M)(hf:bf M)(hu:0≤u∧u<256)(ht:0≤t∧t<65536) : Calls Tryz.prog 262 #[.int .i64 dir,.agg (ep u t M x)] w (fun e w'=>∃ v,e = .returned (.tuple #[v,.int .i64 0])∧cn w.heap.size w' v l∧ap [] w w'):=by
  have:=nf (dir:=dir) h hf hu ht
  rw[hX] at this
  rw[fv]
  exact this
open Go.RowKit
structure SS where
  dir:Int
  held:List Int
  off:Bool
def ef (w:World)(g:Nat)(S:SS) : Prop:=∃ A cp,w.heap[g]? = some (.cells #[.int .i64 S.dir,.slice A S.held.length cp,.bool S.off] 142 (0,0))∧aR true w (.slice A S.held.length cp) S.held∧S.held.length≤256∧S.held.length≤cp
def SS.feed (S:SS)(b:List Int) : SS × List Ev :=
  if S.off then (S,[]) else if decide (b.length≤256-S.held.length) then (⟨S.dir,S.held++b,false⟩,[]) else (⟨S.dir,[],true⟩,[Ev.bad 3])
def SS.tick (S:SS) : SS × List Ev:=(⟨S.dir,[],false⟩,if S.held.length=0 then [] else [⟨(eQ S.dir S.held).2,(eQ S.dir S.held).1⟩])
theorem ef.lt{w:World}{g:Nat}{S:SS}(h:ef w g S) : g<w.heap.size:=by
  obtain⟨A,cp,h1,_⟩:=h
  exact ai h1
theorem ef.upd{w w':World}{g:Nat}{S:SS}{X:List Nat}(h:ef w g S)(hu:ap X w w')(hg:g∉X)(hs:bM true [5] X w) : ef w' g S:=by
  obtain⟨A,cp,h1,h2,h3⟩:=h
  exact⟨A,cp,hu.blk hg h1,h2.upd' hu hs,h3⟩
theorem ef.old{w w':World}{g:Nat}{S:SS}(h:ef w g S)(hu:ap [] w w') : ef w' g S:=h.upd hu (by simp) (bM.nil _ _ _)
theorem ef.cells{w:World}{g:Nat}{S:SS}(h:ef w g S) : ∃ cs fr,w.heap[g]? = some (.cells cs 142 fr):=by
  obtain⟨A,cp,h1,_⟩:=h
  exact⟨_,_,h1⟩
theorem ef.le{w:World}{g:Nat}{S:SS}(h:ef w g S) : S.held.length≤256:=by
  obtain⟨A,cp,_,_,h1,_⟩:=h
  exact h1
theorem ef.safe{w:World}{g:Nat}{S:SS}(h:ef w g S)(D:List TypeId)(hD:D.contains 142=false) : bM true D [g] w:=by
  obtain⟨A,cp,h1,_⟩:=h
  exact aW h1 hD
theorem SS.feed_le{S S2:SS}{b:List Int}{L:List Ev}(h:S.feed b=(S2,L)) : L.length≤1:=by
  have k:=congrArg Prod.snd h
  rw[show L=(S.feed b).2 from k.symm]
  unfold SS.feed
  split
  · exact Nat.zero_le _
  split
  · exact Nat.zero_le _
  · exact Nat.le_refl _
theorem SS.tick_le{S S2:SS}{L:List Ev}(h:S.tick=(S2,L)) : L.length≤1:=by
  have k:=congrArg Prod.snd h
  rw[show L=S.tick.2 from k.symm]
  unfold SS.tick
  dsimp only
  split
  · exact Nat.zero_le _
  · exact Nat.le_refl _
open Go.RowKit
theorem dz{α β:Type}{base sz base2 sz2:Nat}{e e2:TypeId}{R:World→α→List Value→Prop}{R2:World→β→List Value→Prop}{w:World}{A A2:Option Addr}{n c n2 c2:Nat}{xs:List α}{ys:List β}(h:aJ base e sz R w (.slice A n c) xs)(h2:aJ base2 e2 sz2 R2 w (.slice A2 n2 c2) ys)(ht:(e==e2)=false) : ∀ x,x∈ob A→x∉ob A2:=fun x hx hx2=>by
  rcases dg h with rfl|⟨g,cells,rfl,_,h1⟩
  · simp[ob] at hx
  rcases dg h2 with rfl|⟨g2,cells2,rfl,_,h3⟩
  · simp[ob] at hx2
  simp[ob] at hx hx2
  subst hx
  subst hx2
  rw[h1] at h3
  injection h3 with h3
  injection h3 with _ h3 _
  subst h3
  simp at ht
theorem kQ{A A0:Option Addr}{w w0:World}{S:List Nat}(hat:∀ x,x∈ob A→x∈ob A0∨w.heap.size≤x)(h:∀ x,x∈ob A0→x∈S∨w0.heap.size≤x)(hs:w0.heap.size≤w.heap.size) : ∀ x,x∈ob A→x∈S∨w0.heap.size≤x:=fun x hx=>by
  rcases hat x hx with k|k
  · exact h x k
  · exact .inr (Nat.le_trans hs k)
theorem jF{A A1 A0:Option Addr}{w w0:World}(hat:∀ x,x∈ob A→x∈ob A1∨w.heap.size≤x)(h:∀ x,x∈ob A1→x∈ob A0∨w0.heap.size≤x)(hs:w0.heap.size≤w.heap.size) : ∀ x,x∈ob A→x∈ob A0∨w0.heap.size≤x:=kQ hat h hs
theorem ec{A0:Option Addr}{w:World}:∀ x,x∈ob none→x∈ob A0∨w.heap.size≤x:=fun x hx=>by simp[ob] at hx
theorem jr{A0:Option Addr}{w:World}:∀ x,x∈ob A0→x∈ob A0∨w.heap.size≤x:=fun x hx=>.inl hx
theorem kL{w:World}:∀ x cs,jH w x cs→∀ v,v∈cs→v.oneCell'=true:=fun x cs h v hv=>by
  rw[h.1] at hv
  simp at hv
  subst hv
  rfl
section
variable {n:Nat}{B:Option Addr}
def ma (n:Nat)(B:Option Addr)(X:List Nat) : Prop:=0<n→∀ x,x∈ob B→x∉X
theorem eD:ma n B []:=fun _ x _=>by simp
theorem dT{g:Nat}{X:List Nat}(h:0<n→∀ x,x∈ob B→x≠g)(k:ma n B X) : ma n B (g :: X):=fun hn x hx=>by
  rw[List.mem_cons]
  rintro(e|e)
  · exact h hn x hx e
  · exact k hn x hx e
theorem dq{A:Option Addr}{X:List Nat}(h:ma n B (ob A))(k:ma n B X) : ma n B (ob A++X):=fun hn x hx=>by
  rw[List.mem_append]
  rintro(e|e)
  · exact h hn x hx e
  · exact k hn x hx e
theorem fL{A A0:Option Addr}{w:World}(h:ma n B (ob A0))(hl:0<n→∀ x,x∈ob B→x<w.heap.size)(hat:∀ x,x∈ob A→x∈ob A0∨w.heap.size≤x) : ma n B (ob A):=fun hn x hx hx2=>by
  rcases hat x hx2 with k|k
  · exact h hn x hx k
  · have:=hl hn x hx;omega
theorem fG{α:Type}{base sz:Nat}{e:TypeId}{R:World→α→List Value→Prop}{w w':World}{A:Option Addr}{m c:Nat}{xs:List α}(hl:0<n→∀ x,x∈ob B→x<w.heap.size)(h:aJ base e sz R w' (.slice A m c) xs)(hs:w.heap.size≤base) : ma n B (ob A):=fun hn x hx hx2=>by
  have:=hl hn x hx
  have:=fD h x hx2
  omega
theorem aP.low{α:Type}{m:Md}{e:TypeId}{sz c:Nat}{R:World→α→List Value→Prop}{w:World}{xs:List α}(h:aP m e sz R w (.slice B n c) xs) : 0<n→∀ x,x∈ob B→x<w.heap.size:=fun hn x hx=>by
  obtain⟨A',c',hv,_,_,_,h3⟩:=h
  injection hv with e1 e2 e3
  subst e1 e2 e3
  obtain⟨b,off,cells,t,fr,rfl,hh,_⟩:=h3 hn
  simp[ob] at hx
  subst hx
  exact ai hh
theorem aR.far{m:Md}{c:Nat}{w w':World}{xs:List Int}{X:List Nat}(h:aR m w (.slice B n c) xs)(hu:ap X w w')(hd:ma n B X) : aR m w' (.slice B n c) xs:=by
  obtain⟨A',c',hv,h1,h2,h0,h3⟩:=h
  injection hv with e1 e2 e3
  subst e1 e2 e3
  refine⟨_,_,rfl,h1,h2,h0,fun hp=>?_⟩
  obtain⟨b,off,cells,t,fr,rfl,hh,h4,h5⟩:=h3 hp
  exact⟨b,off,cells,t,fr,rfl,hu.blk (hd hp b (by simp[ob])) hh,h4,h5⟩
end
open Go.RowKit
def vl (n:Nat)(X:List Nat)(w:World) : Prop:=∀ y,y∈X→n≤y∨∃ cells t fr,w.heap[y]? = some (.cells cells t fr)∧t∉gv
def ua (p n:Nat)(X:List Nat)(w:World) : Prop:=∀ y,y∈X→n≤y∨∃ cells t fr,w.heap[y]? = some (.cells cells t fr)∧(t∉gv∨y<p)
theorem vl.two{p n:Nat}{X:List Nat}{w:World}(h:vl n X w) : ua p n X w:=fun y hy=>(h y hy).imp_right fun⟨c,t,fr,k,q⟩=>⟨c,t,fr,k,.inl q⟩
theorem ua.le{p p' n:Nat}{X:List Nat}{w:World}(hp:p'≤p)(h:ua p' n X w) : ua p n X w:=fun y hy=>(h y hy).imp_right fun⟨c,t,fr,k,q⟩=>⟨c,t,fr,k,q.imp_right fun z=>Nat.lt_of_lt_of_le z hp⟩
def bi (p n:Nat)(w:World)(x:Ev)(cs:List Value) : Prop:=n≤w.heap.size∧∀ (w':World)(X:List Nat),ap X w w'→ua p n X w→kF (.hi p) w' x cs
theorem bi.mk{p:Nat}{w:World}{x:Ev}{cs:List Value}(h:kF (.hi p) w x cs) : bi p w.heap.size w x cs:=⟨Nat.le_refl _,fun w' X hu ha=>kF.upd hu (fun y hy=>by
  rcases ha y hy with k|⟨c,t,fr,k,k2⟩
  · exact .inl k
  · exact .inr ⟨rfl,c,t,fr,k,k2⟩) x cs h⟩
theorem bi.hi{p n:Nat}{w:World}{x:Ev}{cs:List Value}(h:bi p n w x cs) : kF (.hi p) w x cs:=h.2 w [] (ap.refl _ _) (fun y hy=>by cases hy)
theorem bi.ev{p n:Nat}{w:World}{x:Ev}{cs:List Value}(h:bi p n w x cs) : kF true w x cs:=h.hi.tt
theorem bi.mono{p n n':Nat}{w:World}{x:Ev}{cs:List Value}(hn:n≤n')(hs:n'≤w.heap.size)(h:bi p n w x cs) : bi p n' w x cs:=⟨hs,fun w' X hu ha=>h.2 w' X hu fun y hy=>by
  rcases ha y hy with k|k
  · exact .inl (Nat.le_trans hn k)
  · exact .inr k⟩
theorem bi.lo{p p' n:Nat}{w:World}{x:Ev}{cs:List Value}(hp:p'≤p)(h:bi p n w x cs) : bi p' n w x cs:=⟨h.1,fun w' X hu ha=>(h.2 w' X hu (ha.le hp)).lo hp⟩
theorem bi.upd2{p n:Nat}{w w':World}{X:List Nat}{x:Ev}{cs:List Value}(hu:ap X w w')(ha:ua p n X w)(h:bi p n w x cs) : bi p n w' x cs:=by
  refine⟨Nat.le_trans h.1 hu.size,fun w2 X2 hu2 ha2=>h.2 w2 (X++X2) ?_ ?_⟩
  · exact ap.trans' (ap.mono hu (fun y hy=>.inl (List.mem_append_left _ hy))) hu2 (fun y hy=>.inl (List.mem_append_right _ hy))
  · intro y hy
    rcases List.mem_append.1 hy with hy|hy
    · exact ha y hy
    · rcases ha2 y hy with k | ⟨cells,t,fr,k1,k2⟩
      · exact .inl k
      · by_cases hl:y<w.heap.size
        · by_cases hX:y∈X
          · exact ha y hX
          · exact .inr ⟨cells,t,fr,by rw[← hu.block y hl hX];exact k1,k2⟩
        · exact .inl (Nat.le_trans h.1 (by omega))
theorem bi.upd{p n:Nat}{w w':World}{X:List Nat}{x:Ev}{cs:List Value}(hu:ap X w w')(ha:vl n X w)(h:bi p n w x cs) : bi p n w' x cs:=h.upd2 hu ha.two
theorem bi.ones{p n:Nat}{w:World}:∀ (x:Ev)(cs:List Value),bi p n w x cs→∀ v,v∈cs→v.oneCell'=true:=fun x cs h=>kF.ones x cs h.hi
abbrev dk (n base:Nat) (w:World) (v:Value) (xs:List Ev) : Prop:=aJ base 87 25 (bi base n) w v xs
theorem aJ.map{α:Type}{base sz:Nat}{e:TypeId}{R R':World→α→List Value→Prop}{w:World}{v:Value}{xs:List α}(h:aJ base e sz R w v xs)(k:∀ x cs,R w x cs→R' w x cs) : aJ base e sz R' w v xs:=by
  obtain⟨cells,ho,hx⟩:=h
  refine⟨cells,ho,fun j x hj=>?_⟩
  obtain⟨cs,h1,h2,h3⟩:=hx j x hj
  exact⟨cs,h1,k _ _ h2,h3⟩
theorem wx.low{base:Nat}{w:World}{v:Value}{xs:List Ev}(h:wx base w v xs) : dk w.heap.size base w v xs:=aJ.map h fun _ _=>bi.mk
theorem qF{p base:Nat}{w:World}{v:Value}{xs:List Ev}(h:aJ base 87 25 (kF (.hi p)) w v xs) : aJ base 87 25 (bi p w.heap.size) w v xs:=aJ.map h fun _ _=>bi.mk
theorem dk.own{n base:Nat}{w:World}{v:Value}{xs:List Ev}(h:dk n base w v xs) : CH base w v xs:=aJ.map h fun _ _ q=>q.ev
theorem dk.up{n n' base:Nat}{w:World}{v:Value}{xs:List Ev}(hn:n≤n')(hs:n'≤w.heap.size)(h:dk n base w v xs) : dk n' base w v xs:=aJ.map h fun _ _ q=>q.mono hn hs
theorem dk.lo{n base base':Nat}{w:World}{v:Value}{xs:List Ev}(h:dk n base w v xs)(hb:base'≤base) : dk n base' w v xs:=aJ.weaken (aJ.map h fun _ _ q=>q.lo hb) hb
theorem bZ{n:Nat}{w:World}:vl n [] w:=fun y hy=>by cases hy
theorem f6{n g:Nat}{w:World}{cs:Array Value}{t:TypeId}{fr:Nat × Nat}{X:List Nat}(hb:w.heap[g]? = some (.cells cs t fr))(ht:gv.contains t=false)(k:vl n X w) : vl n (g :: X) w:=fun y hy=>by
  rcases List.mem_cons.1 hy with rfl|hy
  · exact .inr ⟨cs,t,fr,hb,by simpa using ht⟩
  · exact k y hy
theorem iz{n:Nat}{w:World}{A:Option Addr}{X:List Nat}(h:∀ x,x∈ob A→n≤x)(k:vl n X w) : vl n (ob A++X) w:=fun y hy=>by
  rcases List.mem_append.1 hy with hy|hy
  · exact .inl (h y hy)
  · exact k y hy
theorem kk{α:Type}{n base sz m c:Nat}{e:TypeId}{R:World→α→List Value→Prop}{w:World}{A:Option Addr}{xs:List α}{X:List Nat}(h:aJ base e sz R w (.slice A m c) xs)(ht:gv.contains e=false)(k:vl n X w) : vl n (ob A++X) w:=fun y hy=>by
  rcases List.mem_append.1 hy with hy|hy
  · rcases dg h with rfl | ⟨g,cells,rfl,_,h1⟩
    · simp[ob] at hy
    · simp[ob] at hy
      subst hy
      exact .inr ⟨_,_,_,h1,by simpa using ht⟩
  · exact k y hy
theorem cP{n:Nat}:∀ x,x∈ob none→n≤x:=fun x hx=>by simp[ob] at hx
theorem sZ{n:Nat}{A A0:Option Addr}{w:World}(hat:∀ x,x∈ob A→x∈ob A0∨w.heap.size≤x)(h:∀ x,x∈ob A0→n≤x)(hs:n≤w.heap.size) : ∀ x,x∈ob A→n≤x:=fun x hx=>by
  rcases hat x hx with k|k
  · exact h x k
  · exact Nat.le_trans hs k
section
variable {n base g cp:Nat}{w w':World}{A:Option Addr}{X:List Nat}
theorem xg{n':Nat}(hn:n≤n')(h:∀ x,x∈ob A→n'≤x) : ∀ x,x∈ob A→n≤x:=fun x hx=>Nat.le_trans hn (h x hx)
theorem xL{k:Nat}{B:Option Addr}(hl:0<k→∀ x,x∈ob B→x<w.heap.size)(hg:w.heap.size≤g) : 0<k→∀ x,x∈ob B→x≠g:=fun hk x hx e=>by
  have:=hl hk x hx
  omega
end
theorem vJ{α:Type}{b0 b1 sz:Nat}{e:TypeId}{R:World→α→List Value→Prop}{w:World}{v:Value}{xs:List α}(hb:b0≤b1)(h:aJ b1 e sz R w v xs) : aJ b0 e sz R w v xs:=by
  obtain⟨cells,⟨h1,h2⟩,h3⟩:=h
  refine⟨cells,⟨h1,?_⟩,h3⟩
  rcases h2 with h2|⟨g,cap,cur,k0,k1,k2⟩
  · exact .inl h2
  · exact .inr ⟨g,cap,cur,k0,Nat.le_trans hb k1,k2⟩
theorem zO{α:Type}{b1 sz m c:Nat}{e:TypeId}{R:World→α→List Value→Prop}{w w1:World}{A A0:Option Addr}{xs:List α}(h:aJ b1 e sz R w1 (.slice A m c) xs)(hb:w.heap.size≤b1) : ∀ x,x∈ob A→x∈ob A0∨w.heap.size≤x:=fun x hx=>.inr (Nat.le_trans hb (fD h x hx))
theorem zy{α:Type}{n b1 sz m c:Nat}{e:TypeId}{R:World→α→List Value→Prop}{w1:World}{A:Option Addr}{xs:List α}(h:aJ b1 e sz R w1 (.slice A m c) xs)(hb:n≤b1) : ∀ x,x∈ob A→n≤x:=fun x hx=>Nat.le_trans hb (fD h x hx)
open Go.RowKit
theorem Bb{base g:Nat}{w:World}{cur:Array Value}(hb:base≤g)(hg:w.heap[g]? = some (.cells cur 5 (0,0)))(hc:cur.size≤maxLen) : cn base w (.slice (some ⟨g,0,none⟩) 0 cur.size) [] :=
  ⟨[],⟨rfl,.inr ⟨g,cur.size,cur,rfl,hb,hg,Nat.zero_le _,hc,(Nat.mul_one _).symm,by simp⟩⟩,fun j x hj=>by simp at hj⟩
theorem nK{base:Nat}{w:World}{A:Option Addr}{n c:Nat}{xs:List Int}(h:cn base w (.slice A n c) xs) : cn base w (.slice A 0 c) []:=by
  obtain⟨cells,⟨_,h2⟩,_⟩:=h
  rcases h2 with⟨e,_⟩|⟨g,cap,cur,e,h3,h4,h5,h6,h7,_⟩
  · injection e with e1 e2 e3
    subst e1 e3
    exact aJ.nil ..
  · injection e with e1 e2 e3
    subst e1 e3
    exact⟨[],⟨rfl,.inr ⟨g,c,cur,rfl,h3,h4,Nat.zero_le _,h6,h7,by simp⟩⟩,fun j x hj=>by simp at hj⟩
theorem jL{P:Program}{m:Md}{w:World}(t ty e:TypeId)(ht:P.underlying t=some (.slice e))(hte:e=5)(hinfo:(P.info? e).map (fun i=>(i.zero,i.size,i.bytes))=some (some (.int .u8 0),1,1))
    {A:Option Addr} {xs ys:List Int} (HX:aR true w (.slice A xs.length xs.length) xs) {u:Value} (HY:aR m w u ys) (hl:xs.length+ys.length≤4194304) :
    ∃ A' cp w',(Builtin.append_ #[t,t] ty #[.slice A xs.length xs.length,u]).run P w = .ok (.slice A' (xs++ys).length cp) w'∧aR true w' (.slice A' (xs++ys).length cp) (xs++ys)∧ap [] w w'∧((A'=A∧w'=w)∨∃ c,cn w.heap.size w' (.slice A' 0 c) []):=by
  subst hte
  obtain⟨i0,hi,hz0,hz1,hz2⟩:=info_parts hinfo
  obtain⟨B,c,rfl,hc1,hc2⟩:=HY.shape
  by_cases hy:ys=[]
  · have hs:=Ba (P:=P) ht HY hy
    subst hy
    rw[← hz1] at hs
    rw[List.append_nil]
    exact⟨A,_,w,run_append_nothing w t t ty _ i0 ht hi A xs.length xs.length (Nat.le_refl _) _ hs,HX,ap.refl _ _,.inl ⟨rfl,rfl⟩⟩
  have hyl:0<ys.length:=by
    cases ys with
    | nil=>exact absurd rfl hy
    | cons a r=>simp
  cases B with
  | none =>
    obtain⟨B,c',hv,_,_,h0,h3⟩:=HY
    injection hv with e1 e2 e3
    subst e1 e3
    obtain⟨b,off,cells,t,fr,hh,_⟩:=h3 hyl
    cases hh
  | some ad =>
    obtain⟨_,hnews⟩:=ie bh.cell HY
    have hby:∀ x,x∈xs++ys→0≤x∧x<256:=fun x hx=>by
      rcases List.mem_append.1 hx with h|h
      · exact HX.rng x h
      · exact HY.rng x h
    have fin:∀ (cp:Nat) (w':World) (zs:Array Value),xs.length+ys.length≤cp→cp≤maxLen→zs.size=cp-(xs.length+ys.length)→w'.heap[w.heap.size]? = some (.cells (((xs++ys).map (Value.int .u8)).toArray++zs) 5 (0,0))→aR true w' (.slice (some ⟨w.heap.size,0,none⟩) (xs++ys).length cp) (xs++ys)∧∃ c,cn w.heap.size w' (.slice (some ⟨w.heap.size,0,none⟩) 0 c) []:=fun cp w' zs h1 h2 hz h3=>by
      refine⟨⟨_,cp,rfl,by rw[List.length_append];exact h1,h2,(fun hA=>by cases hA),fun hp=>⟨w.heap.size,0,_,_,_,rfl,h3,(fun _=>⟨rfl,Nat.zero_le _⟩),fun j x hj=>?_⟩⟩,_,Bb (Nat.le_refl _) h3 ?_⟩
      · refine⟨[.int .u8 x],rfl,⟨rfl,hby x (List.mem_of_getElem? hj)⟩,fun i u hi=>?_⟩
        cases i with
        | succ i=>simp at hi
        | zero =>
          have hi:Value.int .u8 x=u:=by simpa using hi
          subst hi
          have hlt:=(List.getElem?_eq_some_iff.1 hj).1
          rw[Array.getElem?_append_left (by simp;simpa using hlt)]
          simp only[Nat.zero_add,Nat.mul_one,Nat.add_zero]
          rw[List.getElem?_toArray,List.getElem?_map,hj]
          rfl
      · rw[Array.size_append,hz]
        simp
        omega
    have hzc:∀ k,(Builtin.zeroCells (Value.int .u8 0).cells k).size=k:=fun k=>by simp[Builtin.zeroCells,Value.cells]
    cases A with
    | none =>
      have hx0:xs=[]:=by
        obtain⟨B,c',hv,_,_,h0,h3⟩:=HX
        injection hv with e1 e2 e3
        subst e1
        have:=h0 rfl
        exact List.eq_nil_of_length_eq_zero (by omega)
      subst hx0
      have hr:=run_append_nil (P:=P) w t ty _ i0 (.int .u8 0) ht hi hz0 ad ys.length c (ys.map (Value.int .u8)) (by rw[hz1];simp) hnews hyl (by omega) (by rw[hz2];omega)
      have f:=fin (grownCap w ys.length 0 5) (w.drew.alloc (.cells ((ys.map (Value.int .u8)).toArray++Builtin.zeroCells (Value.int .u8 0).cells (grownCap w ys.length 0 5-ys.length)) 5)) (Builtin.zeroCells (Value.int .u8 0).cells (grownCap w ys.length 0 5-ys.length)) (by simpa using grownCap_ge w ys.length 0 _) (grownCap_le_maxLen _ _ _ _ (by unfold maxLen;omega)) (by rw[hzc];simp) (by simpa using dr w.drew _)
      exact⟨_,_,_,hr,f.1,((ap.refl _ _).drew).alloc _,.inr f.2⟩
    | some bd =>
      obtain⟨_,holds⟩:=ie bh.cell HX
      have hr:=run_append_grow (P:=P) w t ty _ i0 (.int .u8 0) ht hi hz0 bd xs.length xs.length (xs.map (Value.int .u8)) (by rw[hz1];simp) holds ad ys.length c (ys.map (Value.int .u8)) (by rw[hz1];simp) hnews (by omega) (by omega) (by
        rw[hz2]
        have:=nextslicecap_le (need:=xs.length+ys.length) (old:=xs.length) (by omega)
        omega)
      have f:=fin (grownCap w (xs.length+ys.length) xs.length 5) (w.drew.alloc (.cells ((xs.map (Value.int .u8)).toArray++(ys.map (Value.int .u8)).toArray++Builtin.zeroCells (Value.int .u8 0).cells (grownCap w (xs.length+ys.length) xs.length 5-(xs.length+ys.length))) 5)) (Builtin.zeroCells (Value.int .u8 0).cells (grownCap w (xs.length+ys.length) xs.length 5-(xs.length+ys.length))) (grownCap_ge w _ _ _) (grownCap_le_maxLen _ _ _ _ (by unfold maxLen;omega)) (by rw[hzc]) (by simpa using dr w.drew _)
      exact⟨some ⟨w.heap.size,0,none⟩,grownCap w (xs.length+ys.length) xs.length 5,_,by rw[hr,List.length_append],f.1,((ap.refl _ _).drew).alloc _,.inr f.2⟩
section
variable {P:Program}{n:Nat}{D:List Deferred}{F:Fr}{w:World}{K:Fr→World→Prop}{Q:Exit→Act→World→Prop}{d:Option Tmp}{t:TypeId}{s:String}{af:Array Edge}{gu:Option (Nat × Bool)}
theorem De{ty:TypeId}{x y:Operand}{m:Md}{A:Option Addr}{xs ys:List Int}{u:Value}(HX:aR true w (.slice A xs.length xs.length) xs)(HY:aR m w u ys)(hl:xs.length+ys.length≤4194304)
    (h:∀ A' cp w',aR true w' (.slice A' (xs++ys).length cp) (xs++ys)→((A'=A∧w'=w)∨∃ c,cn w.heap.size w' (.slice A' 0 c) [])→ap [] w w'→K (pt d (.slice A' (xs++ys).length cp) F) w') (hx:dM F x=some (.slice A xs.length xs.length):=by kernel_rfl) (hy:dM F y=some u:=by kernel_rfl)
    (hs:(ol P ty,(P.info? 5).map (fun i=>(i.zero,i.size,i.bytes)),ey n d)=(some 5,some (some (.int .u8 0),1,1),true):=by kernel_rfl) : OG P ⟨d,.call { callee:=.builtin .append,args:=#[x,y],argTypes:=#[ty,ty] },t,s,af,gu⟩ n D F w K Q:=by
  simp only[Prod.mk.injEq] at hs
  obtain⟨h1,h2,h3⟩:=hs
  obtain⟨A',cp,w',hr,hv,hu,ho⟩:=jL (P:=P) (w:=w) ty t _ (dS h1) rfl h2 HX HY hl
  refine⟨fun a ha K' hK=>OW.mk ?_⟩
  have hx':=ha.ev hx
  have hy':=ha.ev hy
  unfold Oper.wp execOp
  simp only[resolve,invoke,builtin,Sem.run_bind,Sem.run_pure,Result.andThen_ok,List.map_toArray,List.map_cons,List.map_nil,hx',hy',hr]
  exact hK _ _ _ (h A' cp w' hv ho hu) (ha.put h3)
end
open Go.RowKit
def cW (n base:Nat)(w:World)(g:Nat)(A:Option Addr)(c:Nat)(S:SS) : Prop:=(∃ cp,w.heap[g]? = some (.cells #[.int .i64 S.dir,.slice A S.held.length cp,.bool S.off] 142 (0,0))∧aR true w (.slice A S.held.length cp) S.held∧S.held.length≤256∧S.held.length≤cp)∧cn base w (.slice A 0 c) []∧n≤w.heap.size∧(∀ x,x∈ob A→n≤x)∧base≤w.heap.size
section
variable {n base g c:Nat}{w w':World}{A:Option Addr}{S:SS}{X:List Nat}
theorem cW.row(h:cW n base w g A c S) : cn base w (.slice A 0 c) []:=h.2.1
theorem cW.low(h:cW n base w g A c S) : ∀ x,x∈ob A→n≤x:=h.2.2.2.1
theorem cW.nle(h:cW n base w g A c S) : n≤w.heap.size:=h.2.2.1
theorem cW.le(h:cW n base w g A c S) : S.held.length≤256:=by
  obtain⟨⟨cp,_,_,h1,_⟩,_⟩:=h
  exact h1
theorem cW.lt(h:cW n base w g A c S) : g<w.heap.size:=by
  obtain⟨⟨cp,h1,_⟩,_⟩:=h
  exact ai h1
theorem cW.cells(h:cW n base w g A c S) : ∃ cs fr,w.heap[g]? = some (.cells cs 142 fr):=by
  obtain⟨⟨cp,h1,_⟩,_⟩:=h
  exact⟨_,_,h1⟩
theorem cW.upd(h:cW n base w g A c S)(hu:ap X w w')(hg:g∉X)(hr:∀ x,x∈ob A→x∉X) : cW n base w' g A c S:=by
  obtain⟨⟨cp,h1,h2,h3⟩,h4,h5,h6,h7⟩:=h
  exact⟨⟨cp,hu.blk hg h1,aR.far h2 hu (fun _=>hr),h3⟩,aj h4 hu hr (fun _ _ q=>q),Nat.le_trans h5 hu.size,h6,Nat.le_trans h7 hu.size⟩
end
theorem bi.bad{p n:Nat}{w:World}(hn:n≤w.heap.size){e:Int}{cs:List Value}(h:kF (.hi p) w (Ev.bad e) cs) : bi p n w (Ev.bad e) cs:=⟨hn,fun w' X hu ha=>by
  obtain⟨s,h1,h2,h3⟩:=h
  obtain⟨vw,vb,vd,vr,vo,k0,kw,kb,kd,kr,ko,kR⟩:=h2
  have nl:∀ {α:Type} {e:TypeId} {sz:Nat} {R:World→α→List Value→Prop} {v:Value},aP (.hi p) e sz R w v []→aP (.hi p) e sz R w' v []:=fun⟨A,c,hv,q1,q2,q3,q4⟩=>⟨A,c,hv,q1,q2,q3,fun hp=>absurd hp (Nat.lt_irrefl 0)⟩
  exact⟨s,h1,⟨vw,vb,vd,vr,vo,k0,nl kw,nl kb,nl kd,nl kr,nl ko,kR⟩,h3⟩⟩
theorem dk.nil{n base:Nat}{w:World}:dk n base w (.slice none 0 0) []:=aJ.nil ..
theorem dk.bad{n base:Nat}{w:World}{v:Value}{e:Int}(hn:n≤w.heap.size)(h:wx base w v [Ev.bad e]) : dk n base w v [Ev.bad e]:=by
  obtain⟨cells,ho,hx⟩:=h
  refine⟨cells,ho,fun j x hj=>?_⟩
  obtain⟨cs,h1,h2,h3⟩:=hx j x hj
  cases j with
  | succ j=>simp at hj
  | zero =>
    have hj:Ev.bad e=x:=by simpa using hj
    subst hj
    exact⟨cs,h1,bi.bad hn h2,h3⟩
def CC (n base:Nat)(S2:SS)(L:List Ev)(g:Nat)(A:Option Addr)(w:World)(e:Ending)(w':World) : Prop:=∃ v A2 c2 n2,e = .returned v∧dk n2 w.heap.size w' v L∧cW n2 base w' g A2 c2 S2∧(∀ x,x∈ob A2→x∈ob A∨w.heap.size≤x)∧n≤n2∧ap (g :: (ob A++[])) w w'
theorem lS{g:Nat}{A:Option Addr}{w w':World}(h:ap [g] w w') : ap (g :: (ob A++[])) w w':=ap.mono h fun x hx=>.inl (by rw[List.mem_singleton] at hx;rw[hx];exact List.mem_cons_self ..)
theorem zH{w:World}{d:Int}(hd:d=0∨d=1) : Calls Tryz.prog 67 #[vI d] w (fun e w'=>∃ g,e = .returned (vP g 0)∧w.heap.size≤g∧cW w.heap.size w.heap.size w' g none 0 ⟨d,[],false⟩∧ap [] w w'):=by
 have c:((d != 0)&&(d != 1))=false:=by rcases hd with rfl | rfl<;>rfl
 refine en 12 Tryz.func67 rfl<|ay 1<|sq<|au 3<|gy 3 [5] 8 5 (d != 0) (d != 1) (fun K f h=>?_) ?_
 have k:=aN h
 exact Pl 3<|ce f _ rfl
 exact nt<|cf c<|bU<|au 2<|L0<|cU #[vI d,nS,.bool false] fun b l i j a=>al 1<|rt<|rr (vP b 0)<|⟨b,rfl,i,⟨⟨0,j,aP.nil ..,Nat.zero_le _,Nat.zero_le _⟩,aJ.nil ..,a.size,cP,a.size⟩,a⟩
theorem uS{w:World}{n base g c:Nat}{A:Option Addr}{S:SS}(h:cW n base w g A c S){m:Md}{B:Option Addr}{cpb:Nat}{b:List Int}(hgA:g∉ob A)(hsl:aR m w (.slice B b.length cpb) b)(hbl:b.length≤1048576)(hcb:b.length≤cpb) :
    Calls Tryz.prog 250 #[vP g 0,.slice B b.length cpb] w (CC n base (S.feed b).1 (S.feed b).2 g A w):=by
 obtain⟨⟨cp,hb,hr,hl,hcp⟩,hrow,hn0,hlow,hbs⟩:=h
 have hcm:=aP.len hr
 have hbm:=aP.len hsl
 refine en 53 Tryz.func250 rfl<|ay 1<|sq<|au 3<|ax hb 2<|nt<|cb (S.off) (fun l=>?_) (fun l=>?_)
 refine ay 1<|bJ<|rr nS<|?_
 have hs:S.feed b=(S,[]):=by unfold SS.feed;rw[l];rfl
 rw[hs]
 exact⟨_,A,c,n,rfl,dk.nil,⟨⟨cp,hb,hr,hl,hcp⟩,aj hrow (ap.refl [] _) (fun x hx=>(by simp)) (fun _ _ q=>q),Nat.le_trans hn0 lr,hlow,Nat.le_trans hbs lr⟩,jr,Nat.le_refl _,lS (ap.mono (S':=[g]) (ap.refl [] _) aB)⟩
 refine bU<|au 5<|ax hb 1<|Pl 1<|bA (256-(S.held.length:Int))<|L0<|iq (vI (min (b.length:Int) (256-(S.held.length:Int)))) (zG (a:=(b.length:Int)) (b:=(256-(S.held.length:Int))) rfl (by kernel_rfl) (by kernel_rfl))<|al 1<|sq<|Rg 23 (fun w'=>w'.cell? ⟨g,1,none⟩=some (.slice A S.held.length cp)) fun R f=>?_
 have z:=ub f hb
 refine b9 (ae z rfl) fun d=>Rt 0 d<|Rt 1 d<|Rt 2 d<|Rt 3 d<|Rl 4 d (fun _ hs=>hs)<|Rt 5 d<|Rt 6 d<|Rt 7 d<|Rl 8 d (fun _ hs=>hs)<|Rt 9 d<|Rt 10 d<|Rt 11 d<|Rt 12 d<|Rl 13 d (fun _ hs=>hs)<|Rt 14 d<|?_
 have u:=aR.upd' hr f aK
 refine Rr 15 d (.slice A S.held.length S.held.length) (fun _ _=>we (k1:=.i64) (k2:=.i64) (i1:=(S.held.length:Int)) (i2:=(S.held.length:Int)) (A:=A) (n:=S.held.length) (c:=cp) rfl Tryz.underlying27 (by kernel_rfl) (by kernel_rfl) (by kernel_rfl) (by kernel_rfl) rfl rfl (aP.cap u) (aP.adr u))<|Rt 16 d<|Rt 17 d<|qN (th (P:=Tryz.prog) 27 5 1 Tryz.underlying27 rfl rfl B b.length cpb (k:=(min (b.length:Int) (256-(S.held.length:Int)))) (((min (b.length:Int) (256-(S.held.length:Int)))).toNat) (by omega) (by omega) (by omega)) fun G hrun30 H=>Rr 18 d (.slice G (((min (b.length:Int) (256-(S.held.length:Int)))).toNat) cpb) (fun _ _=>fU (kl:=.i64) (k:=(min (b.length:Int) (256-(S.held.length:Int)))) (A:=B) (n:=b.length) (c:=cpb) rfl Tryz.underlying27 (by kernel_rfl) (by kernel_rfl) (hrun30 _ _))<|?_
 refine R0 19 rfl<|De (xs:=S.held) (ys:=(b.take (((min (b.length:Int) (256-(S.held.length:Int)))).toNat))) (u).full (H _ _ _ _ _ (aR.upd' hsl f aK)) (by(try simp only[List.length_take]);omega) fun o C T I J j=>?_
 have v:=ub j z
 refine b9 (ae v rfl) fun D=>Rt 20 D<|Rt 21 D<|DY 22 rfl<|cv v 1 #[vI S.dir,.slice o ((S.held++(b.take (((min (b.length:Int) (256-(S.held.length:Int)))).toNat))).length) C,.bool S.off] fun E F i=>re<|tn<|sq<|ay 4<|?_
 have p:=uz f (uz j i)
 refine cb (((min (b.length:Int) (256-(S.held.length:Int)))==(b.length:Int))) (fun y=>?_) (fun y=>?_)
 have K:=aC y
 refine ay 1<|bJ<|rr nS<|?_
 have hle:b.length≤256-S.held.length:=by omega
 have hs:S.feed b=(⟨S.dir,S.held++b,false⟩,[]):=by unfold SS.feed;rw[l,decide_eq_true hle];rfl
 rw[hs]
 have hz:(b.take (((min (b.length:Int) (256-(S.held.length:Int)))).toNat))=b:=List.take_of_length_le (by omega)
 have hB:=F
 have hR:=(aR.upd' I i (ak (aW v (by decide)) aK))
 rw[hz] at hB hR
 have hsh:=hR.cap
 have hgr:g∉ob A:=fun e=>hgA e
 have fin:∀ c2,cn base E (.slice o 0 c2) []→(∀ x,x∈ob o→n≤x)→(∀ x,x∈ob o→x∈ob A∨w.heap.size≤x)→CC n base ⟨S.dir,S.held++b,false⟩ [] g A w (.returned nS) E:=fun c2 k1 k2 k3=>⟨_,o,c2,n,rfl,dk.nil,⟨⟨C,by rw[← l];exact hB,hR,by rw[List.length_append];omega,hsh⟩,k1,Nat.le_trans hn0 p.size,k2,Nat.le_trans hbs p.size⟩,k3,Nat.le_refl _,lS p⟩
 rcases J with⟨e1,e2⟩|⟨c2,k⟩
 · refine fin c ?_ ?_ ?_
   · rw[e1];exact aj hrow p (fun x hx=>(by rw[List.mem_singleton];intro e;exact hgA (e▸hx))) (fun _ _ q=>q)
   · rw[e1];exact hlow
   · rw[e1];exact jr
 · refine fin c2 ?_ ?_ ?_
   · exact aJ.weaken (aj k i (fun x hx=>(by rw[List.mem_singleton];intro e;have:=fD k x hx;have:=ai hb;have:=f.size;omega)) (fun _ _ q=>q)) (Nat.le_trans hbs f.size)
   · exact fun x hx=>Nat.le_trans (Nat.le_trans hn0 f.size) (fD k x hx)
   · exact fun x hx=>.inr (Nat.le_trans f.size (fD k x hx))
 have K:=aO y
 refine bU<|au 4<|L0<|cv F 1 #[vI S.dir,nS,.bool S.off] fun U L r=>Pl 2<|L0<|cv L 2 #[vI S.dir,nS,.bool true] fun V M s=>aS 1<|L0<|dv (m:=1) (e:=87) #[vI 3,vB 0,vW 0,vB 0,vB 0,vW 0,vW 0,vW 0,vW 0,vW 0,vW 0,vW 0,vW 0,vW 0,vW 0,nS,nS,nS,nS,vB 0,vB 0,vB 0,vB 0,vB 0,nS] fun N W O Q t=>?_
 refine al 1<|rt<|rr (.slice (some ⟨N,0,none⟩) 1 1)<|?_
 have hle:¬ b.length≤256-S.held.length:=by omega
 have hs:S.feed b=(⟨S.dir,[],true⟩,[Ev.bad 3]):=by unfold SS.feed;rw[l,decide_eq_false hle];rfl
 rw[hs]
 have hE:=nE (m:=.hi w.heap.size) (w0:=w) (x:=Ev.bad 3) (Nat.le_trans (le (le (le (le f.size j.size) i.size) r.size) s.size) O) Q ⟨⟨none,0,none,0,none,0,none,0,none,0⟩,by kernel_rfl,ny,by decide,by decide⟩
 exact⟨_,none,0,n,rfl,dk.bad (Nat.le_trans hn0 (le (le (le (le (le f.size j.size) i.size) r.size) s.size) t.size)) hE,⟨⟨0,(ub t M),aP.nil ..,(Nat.zero_le _),(Nat.zero_le _)⟩,aJ.nil ..,Nat.le_trans hn0 (le (le (le (le (le f.size j.size) i.size) r.size) s.size) t.size),cP,Nat.le_trans hbs (le (le (le (le (le f.size j.size) i.size) r.size) s.size) t.size)⟩,ec,Nat.le_refl _,lS (u1 p (u1 r (aH s t) im) im)⟩
theorem tj{w:World}{n base g c:Nat}{A:Option Addr}{S:SS}(h:cW n base w g A c S) : Calls Tryz.prog 252 #[vP g 0] w (CC n base S.tick.1 S.tick.2 g A w):=by
 obtain⟨⟨cp,hb,hr,hl,hcp⟩,hrow,hn0,hlow,hbs⟩:=h
 have hcm:=aP.len hr
 refine en 32 Tryz.func252 rfl<|au 1<|aS 3<|ax hb 1<|al 1<|sq<|go<|Pl 4<|L0<|cv hb 1 #[vI S.dir,nS,.bool S.off] fun L u d=>Pl 2<|L0<|cv u 2 #[vI S.dir,nS,.bool false] fun v l f=>nt<|sq<|ay 3<|?_
 have a:=u1 d f im
 refine cb (((S.held.length:Int)==0)) (fun o=>?_) (fun o=>?_)
 have y:=aC o
 refine ay 1<|bJ<|rr nS<|?_
 have hs:S.tick=(⟨S.dir,[],false⟩,[]):=by unfold SS.tick;rw[if_pos (by omega)]
 rw[hs]
 exact⟨_,none,0,v.heap.size,rfl,dk.nil,⟨⟨0,l,aP.nil ..,(Nat.zero_le _),(Nat.zero_le _)⟩,aJ.nil ..,Nat.le_refl _,cP,Nat.le_trans hbs a.size⟩,ec,Nat.le_trans hn0 a.size,lS a⟩
 have y:=aO o
 refine bU<|au 3<|ax l 0<|Pl 1<|?_
 refine pr (eQ S.dir S.held) fun b p r=>?_
 refine aF<|e2 (qf r (aR.upd' hr a (ak (aW hb (by decide)) aK)) (by omega)) fun Cr M z i=>?_
 obtain⟨B,C,D⟩:=z
 refine Pl 3<|aL #[vB 0,vW 0,vB 0,vB 0,vW 0,vW 0,vW 0,vW 0,vW 0,vW 0,vW 0,vW 0,vW 0,vW 0,nS,nS,nS,nS,vB 0,vB 0,vB 0,vB 0,vB 0,nS] fun N O E F j=>aI F (ep b.unit b.tid b.msg Cr) fun P G k=>Pl 1<|aS 1<|L0<|cH G<|Pl 1<|L0<|dv (m:=1) (e:=87) (y3 ⟨p,b⟩ Cr) fun H I J K q=>Pl 1<|nl<|tn<|rt<|rr (.slice (some ⟨H,0,none⟩) 1 1)<|?_
 have hs:S.tick=(⟨S.dir,[],false⟩,[⟨p,b⟩]):=by unfold SS.tick;rw[if_neg (by omega),r]
 rw[hs]
 have s:=ud j (aH k q) E
 have hE:=nE (m:=.hi w.heap.size) (w0:=w) (x:=⟨p,b⟩) (Nat.le_trans (le (le (le (le d.size f.size) i.size) j.size) k.size) J) K ⟨Cr,rfl,(aE.lo (aE.upd B s aK) a.size),C,D⟩
 have t:=aH i s
 exact⟨_,none,0,I.heap.size,rfl,wx.low hE,⟨⟨0,(ub t l),aP.nil ..,(Nat.zero_le _),(Nat.zero_le _)⟩,aJ.nil ..,Nat.le_refl _,cP,Nat.le_trans hbs (le (le (le (le (le d.size f.size) i.size) j.size) k.size) q.size)⟩,ec,Nat.le_trans hn0 (le (le (le (le (le d.size f.size) i.size) j.size) k.size) q.size),lS (aH a t)⟩
open Go.RowKit
def vq (b:List Int) : aA:=⟨b,false,0⟩
def vn (b:List Int) : aA:=(vq b).wordsC 1
def vv (b:List Int) : aA:=(vn b).wordsC 1
def vt (b:List Int) : aA:=(vv b).wordsC 1
def vG (b:List Int) : aA:=(vt b).bytesC 1
def m5 (b:List Int) : List Int:=(vG b).bytesR (((vG b).l.length:Nat) : Int)
def cy (dir:Int)(b:List Int) : bu × Int :=
  if dir != 0&&dir != 1 then (bu.zero,1)
  else if decide ((b.length:Int)<8) then (bu.zero,2)
  else if decide (260<(b.length:Int)) then (bu.zero,3)
  else if (vn b).wordV != 0 then (bu.zero,13)
  else if (vv b).wordV != (b.length:Int)-6 then (bu.zero,5)
  else dn (vt b).byteV (vq b).wordV (dm dir (m5 b))
theorem pN{m:Md}{A:Option Addr}{cp:Nat}{b:List Int}{w:World}{dir:Int}(hsl:aR m w (.slice A b.length cp) b)(hb:b.length≤1048576) :
    Calls Tryz.prog 107 #[vI dir,.slice A b.length cp] w (nF (cy dir b) w):=by
 have hln:(b.length:Int)≤1048576:=by omega
 refine en 75 Tryz.func107 rfl<|sg<|aL #[vB 0,vW 0,vB 0,vB 0,vW 0,vW 0,vW 0,vW 0,vW 0,vW 0,vW 0,vW 0,vW 0,vW 0,nS,nS,nS,nS,vB 0,vB 0,vB 0,vB 0,vB 0,nS] fun b5 b6 g e h=>al 1<|sq<|bk<|au 3<|gy 3 [17] 20 17 (dir != 0) (dir != 1) (fun K a1 a2=>?_) ?_
 have b7:=aN a2
 exact Pl 3<|ce a1 _ rfl
 refine al 1<|cb (((dir != 0)&&(dir != 1))) (fun c=>?_) (fun c=>?_)
 have O:=(bK c).1
 have P:=(bK c).2
 have b9:=aN O
 have ba:=aN P
 refine au 1<|aI e #[vB 0,vW 0,vB 0,vB 0,vW 0,vW 0,vW 0,vW 0,vW 0,vW 0,vW 0,vW 0,vW 0,vW 0,nS,nS,nS,nS,vB 0,vB 0,vB 0,vB 0,vB 0,nS] fun bb a3 a4=>al 1<|rt<|br<|tr<|dZ a3 (vI 1)<|?_
 have hs:cy dir b=(bu.zero,1):=by
   unfold cy
   (try simp only[c,O,P,bt,dn,vG,vt,vv,vn,vq,reduceIte])
   all_goals rfl
 refine dR hs ?_
 exact cV (ud h a4 g)
 refine ay 4<|cb ((decide ((b.length:Int)<8))) (fun d=>?_) (fun d=>?_)
 have a5:=of_decide_eq_true d
 refine au 1<|aI e #[vB 0,vW 0,vB 0,vB 0,vW 0,vW 0,vW 0,vW 0,vW 0,vW 0,vW 0,vW 0,vW 0,vW 0,nS,nS,nS,nS,vB 0,vB 0,vB 0,vB 0,vB 0,nS] fun bc a6 a7=>al 1<|rt<|br<|tr<|dZ a6 (vI 2)<|?_
 have hs:cy dir b=(bu.zero,2):=by
   unfold cy
   (try simp only[c,d,bt,dn,vG,vt,vv,vn,vq,reduceIte])
   all_goals rfl
 refine dR hs ?_
 exact cV (ud h a7 g)
 have a5:=of_decide_eq_false d
 refine ay 4<|cb ((decide (260<(b.length:Int)))) (fun f=>?_) (fun f=>?_)
 have a8:=of_decide_eq_true f
 refine au 1<|aI e #[vB 0,vW 0,vB 0,vB 0,vW 0,vW 0,vW 0,vW 0,vW 0,vW 0,vW 0,vW 0,vW 0,vW 0,nS,nS,nS,nS,vB 0,vB 0,vB 0,vB 0,vB 0,nS] fun bd a9 aa=>al 1<|rt<|br<|tr<|dZ a9 (vI 3)<|?_
 have hs:cy dir b=(bu.zero,3):=by
   unfold cy
   (try simp only[c,d,f,bt,dn,vG,vt,vv,vn,vq,reduceIte])
   all_goals rfl
 refine dR hs ?_
 exact cV (ud h aa g)
 have a8:=of_decide_eq_false f
 refine sk<|bn<|tn<|au 1<|?_
 refine aF<|e3 (dt (aR.old hsl h) (by omega)) fun t be o ac Q=>Pl 1<|aS 1<|aS 2<|L0<|fy #[] #[] (args:=#[vP t 0])<|m3 (bC ac) fun bf ad R bg=>Pl 2<|L0<|fy #[] #[] (args:=#[vP t 0])<|m3 (bC ad) fun bh ae S bi=>?_
 refine ab ae fun x46 r af=>?_
 refine Pl 2<|L0<|fy #[] #[] (args:=#[vP t 0])<|m3 (bC af) fun bj ah T bl=>al 3<|sq<|bk<|ay 3<|?_
 have j:=ud Q (u1 R (u1 S T im) im) o
 have u:=aH h j
 refine cb (((((aA.mk b false 0).wordsC 1).wordV)!=0)) (fun i=>?_) (fun i=>?_)
 have ai:=aN i
 refine au 1<|?_
 refine aI (ub j e) #[vB 0,vW 0,vB 0,vB 0,vW 0,vW 0,vW 0,vW 0,vW 0,vW 0,vW 0,vW 0,vW 0,vW 0,nS,nS,nS,nS,vB 0,vB 0,vB 0,vB 0,vB 0,nS] fun bm aj am=>al 1<|rt<|br<|tr<|dZ aj (vI 13)<|?_
 subst r
 have hs:cy dir b=(bu.zero,13):=by
   unfold cy
   (try simp only[c,d,f,i,bt,dn,vG,vt,vv,vn,vq,reduceIte])
   all_goals rfl
 refine dR hs ?_
 exact cV (ud u am g)
 have ai:=aV i
 refine au 1<|bA x46.wordV<|Pl 2<|bA ((b.length:Int)-6)<|al 2<|cb ((x46.wordV != ((b.length:Int)-6))) (fun k=>?_) (fun k=>?_)
 have an:=aN k
 refine au 1<|?_
 refine aI (ub j e) #[vB 0,vW 0,vB 0,vB 0,vW 0,vW 0,vW 0,vW 0,vW 0,vW 0,vW 0,vW 0,vW 0,vW 0,nS,nS,nS,nS,vB 0,vB 0,vB 0,vB 0,vB 0,nS] fun bo ao ap=>al 1<|rt<|br<|tr<|dZ ao (vI 5)<|?_
 subst r
 have hs:cy dir b=(bu.zero,5):=by
   unfold cy
   (try simp only[c,d,f,i,k,bt,dn,vG,vt,vv,vn,vq,reduceIte])
   all_goals rfl
 refine dR hs ?_
 exact cV (ud u ap g)
 have an:=aV k
 refine sk<|bn<|tn<|au 1<|aF<|m3 (bD ah) fun bp s v bq=>Pl 1<|aS 3<|aF<|mq (dK s)<|?_
 have bs:=ag.len s
 refine aF<|um (bP (n:=((((x46.wordsC 1).bytesC 1).l.length:Nat) : Int)) s) fun bv bw aq ar bx bz av x=>?_
 have bB:=Nat.le_trans (aA.bytesR_le ((x46.wordsC 1).bytesC 1) ((((x46.wordsC 1).bytesC 1).l.length:Nat) : Int)) (ag.len s)
 refine ab av fun x80 U bE=>?_
 obtain⟨a,p,y⟩ : ∃ M E,dm dir (((x46.wordsC 1).bytesC 1).bytesR ((((x46.wordsC 1).bytesC 1).l.length:Nat) : Int))=(M,E):=⟨_,_,rfl⟩
 have V:=jz (dir:=dir) (w:=aq) ar (by omega)
 rw[y] at V
 refine aF<|e2 V fun aw bF W X=>?_
 have ax:=W
 obtain⟨az,aB,aC,aD,aG,aJ,aM,aO,aP,aQ,aT,bG⟩:=ax
 obtain rfl:aw=(ei a az aB aC aD aG).toArray:=by apply Array.toList_inj.1;simpa using aJ
 obtain⟨z,B,rfl,_,_⟩:=aM.shape
 obtain⟨C,D,rfl,_,_⟩:=aO.shape
 obtain⟨F,G,rfl,_,_⟩:=aP.shape
 obtain⟨H,I,rfl,_,_⟩:=aQ.shape
 obtain⟨J,L,rfl,_,_⟩:=aT.shape
 refine Pl 3<|aL mZ fun bH bI aU aX aY=>aI aX (mG a.code a.fail a.addr a.count a.value a.and_ a.or_ a.addr2 a.sub a.status a.events a.messages (.slice z a.words.length B) (.slice C a.bits.length D) (.slice F a.data.length G) (.slice H a.recs.length I) a.mei a.kind a.level a.more a.next (.slice J a.objects.length L)) fun bL aZ b0=>al 1<|sq<|ay 2<|?_
 have Y:=ud aY b0 aU
 have N:=u1 v (aH x (aH X Y)) im
 have Z:=ud u N (le h.size o)
 refine cb ((p != 0)) (fun q=>?_) (fun q=>?_)
 have b1:=aN q
 refine au 2<|?_
 refine aI (ub (ud j N o) e) #[vB 0,vW 0,vB 0,vB 0,vW 0,vW 0,vW 0,vW 0,vW 0,vW 0,vW 0,vW 0,vW 0,vW 0,nS,nS,nS,nS,vB 0,vB 0,vB 0,vB 0,vB 0,nS] fun bM b2 b3=>al 1<|bJ<|dZ b2 (vI p)<|?_
 subst U r
 have hX2:dm dir (m5 b)=(a,p):=y
 have hs:cy dir b=(bu.zero,p):=by
   unfold cy
   (try simp only[c,d,f,i,k,q,bt,dn,vG,vt,vv,vn,vq,hX2,reduceIte])
   all_goals rfl
 refine dR hs ?_
 exact cV (ud Z b3 g)
 have b1:=aV q
 refine bU<|au 3<|L0<|cH aZ<|Pl 1<|?_
 refine aI (ub (ud j N o) e) #[vB ((x46.wordsC 1).byteV),vW ((aA.mk b false 0).wordV),vB a.code,vB a.fail,vW a.addr,vW a.count,vW a.value,vW a.and_,vW a.or_,vW a.addr2,vW a.sub,vW a.status,vW a.events,vW a.messages,.slice z a.words.length B,.slice C a.bits.length D,.slice F a.data.length G,.slice H a.recs.length I,vB a.mei,vB a.kind,vB a.level,vB a.more,vB a.next,.slice J a.objects.length L] fun bN b4 a0=>al 1<|rt<|dZ b4 (vI 0)<|?_
 subst U r
 have hX2:dm dir (m5 b)=(a,p):=y
 have hs:cy dir b=(⟨((((aA.mk b false 0).wordsC 1).wordsC 1).wordsC 1).byteV,(aA.mk b false 0).wordV,a⟩,0):=by
   unfold cy
   (try simp only[c,d,f,i,k,q,bt,dn,vG,vt,vv,vn,vq,hX2,reduceIte])
   all_goals rfl
 refine dR hs ?_
 exact⟨_,rfl,⟨#[vB a.code,vB a.fail,vW a.addr,vW a.count,vW a.value,vW a.and_,vW a.or_,vW a.addr2,vW a.sub,vW a.status,vW a.events,vW a.messages,.slice z a.words.length B,.slice C a.bits.length D,.slice F a.data.length G,.slice H a.recs.length I,vB a.mei,vB a.kind,vB a.level,vB a.more,vB a.next,.slice J a.objects.length L],(by as_aux_lemma=>kernel_rfl),(aE.lo (aE.upd W (uz Y a0) (ak (aW (ub (ud j (u1 v (aH x X) im) o) e) (by decide)) aK)) (le (le (le (le (le (le h.size Q.size) R.size) S.size) T.size) v.size) x.size)),b8 (by omega),co (by omega)⟩,(ud Z a0 g)⟩
theorem rX{m:Md}{v:Value}{b:List Int}{w:World}{dir:Int}(h:aR m w v b)(hb:b.length≤1048576) : Calls Tryz.prog 107 #[.int .i64 dir,v] w (nF (cy dir b) w):=by
  obtain⟨A,cp,rfl,_,_⟩:=h.shape
  exact pN h hb
open Go.RowKit
def eE (dir u t:Int)(M:b6) : Option (List Int) :=
  match dD dir M with
  | none=>none
  | some l=>some ((aQ [t,0,((l.length:Int)+1)%65536]++[u])++l)
theorem lK{m:Md}{cs:Array Value}{M:b6}{w:World}{dir u t:Int}(h:aE m w cs.toList M)(hf:bf M)(hu:B8 u)(ht:eo t) : Calls Tryz.prog 275 #[vI dir,.agg (#[vB u,vW t]++cs)] w (fx (eE dir u t M) w):=by
 have hM:=h
 obtain⟨hu1,hu2⟩:=hu
 obtain⟨ht1,ht2⟩:=ht
 refine iK h fun Aw kw Ab kb Ad kd Ar kr Ao ko e hw hbt hd hr ho _ _ _ _ _ _ _ _ _ _ q0 q1 q2 q3 q4 q5 q6 q7 q8 q9 J K L N O P Q=>?_
 subst e
 refine en 35 Tryz.func275 rfl<|sg<|L0<|cU #[vB u,vW t,vB M.code,vB M.fail,vW M.addr,vW M.count,vW M.value,vW M.and_,vW M.or_,vW M.addr2,vW M.sub,vW M.status,vW M.events,vW M.messages,.slice Aw M.words.length kw,.slice Ab M.bits.length kb,.slice Ad M.data.length kd,.slice Ar M.recs.length kr,vB M.mei,vB M.kind,vB M.level,vB M.more,vB M.next,.slice Ao M.objects.length ko] fun R S T g a=>Pl 2<|aS 2<|L0<|Cf g 2 22<|?_
 rcases hwr:dD dir M with _|lw
 have i:=eV (dir:=dir) (aE.old hM a) hf
 rw[hwr] at i
 refine aF<|m1 i fun U r=>al 5<|sq<|ay 2<|c1<|au 2<|nl<|tn<|bJ<|rr (.tuple #[nS,vI 1])<|?_
 exact dA (y:=none) (by unfold eE;(try simp only[hwr])<;>rfl) ⟨rfl,(aH a r)⟩
 have hlw:=gq hwr
 have j:=eV (dir:=dir) (aE.old hM a) hf
 rw[hwr] at j
 refine aF<|eU j fun V W X s Y Z d=>al 5<|sq<|ay 2<|c0<|bU<|sq<|go<|Pl 2<|?_
 have k:=ub d g
 refine ax k 1<|Pl 2<|bA ((lw.length:Int)+1)<|Pl 1<|L0<|dv (m:=3) (e:=37) #[vW t,vW 0,vW (((lw.length:Int)+1)%65536)] fun a0 a1 v z b=>?_
 have A:=gN v (xs:=[t,0,(((lw.length:Int)+1)%65536)]) (by as_aux_lemma=>kernel_rfl) (am (by omega) (am (by omega) (am (by omega) aY))) (by(try simp only[List.length_cons,List.length_nil]);omega) z
 refine aF<|eU (bW (xs:=[t,0,(((lw.length:Int)+1)%65536)]) (A).rd (by(try simp only[List.length_cons,List.length_nil]);omega)) fun B a2 a3 l a4 a5 f=>Pl 1<|aS 3<|?_
 have n:=aH b f
 refine ax (ub n k) 0<|L0<|dv (m:=1) (e:=5) #[vB u] fun a6 a7 C D c=>?_
 have E:=dF C (xs:=[u]) (by as_aux_lemma=>kernel_rfl) (am (by omega) aY) (by(try simp only[List.length_cons,List.length_nil]);omega) D
 refine L0<|cZ bh (xs:=(aQ ([t,0,(((lw.length:Int)+1)%65536)]))) (ys:=([u])) (vB 0) 1 (aj l c (fun x hx=>az) (fun _ _ h=>h)) (E).rd (by(try simp only[cl,aq]);omega) (le f.size c.size) fun a8 a9 aa o p=>Pl 1<|?_
 have q:=ut n (ut (ap.mono (S':=(ob B++[])) c aB) p (ah il aB)) (ah (aT l b.size) aB)
 refine L0<|cZ bh (xs:=((aQ ([t,0,(((lw.length:Int)+1)%65536)]))++[u])) (ys:=lw) (vB 0) 1 o ((aj s q (fun x hx=>az) (fun _ _ h=>h))).rd (by(try simp only[cl,aq]);omega) (le (le f.size c.size) p.size) fun F G ab H I=>al 2<|rt<|rr (.tuple #[.slice F ((((aQ ([t,0,(((lw.length:Int)+1)%65536)]))++[u])++lw).length) G,vI 0])<|?_
 exact dA (y:=(some (((aQ ([t,0,(((lw.length:Int)+1)%65536)]))++[u])++lw))) (by unfold eE;(try simp only[hwr])<;>rfl) ⟨_,rfl,(aJ.weaken H (le (le a.size d.size) b.size)),(aH a (aH d (ut q I (ah (aT o b.size) aB))))⟩
open Go.RowKit
theorem jb{m:Md}{v:Value}{b:List Int}{w:World}{dir:Int}{F:bu}{E:Int}(hX:cy dir b=(F,E))(h:aR m w v b)(hb:b.length≤1048576) : Calls Tryz.prog 107 #[.int .i64 dir,v] w (fun e w'=>∃ x,e = .returned (.tuple #[.agg (ep F.unit F.tid F.msg x),.int .i64 E])∧(aE (.hi w.heap.size) w' (j6 F.msg x).toList F.msg∧(0≤F.unit∧F.unit<256)∧(0≤F.tid∧F.tid<65536))∧ap [] w w'):=by
  refine(rX h hb).mono ?_
  rintro e w' ⟨cs,rfl,h1,h2⟩
  rw[hX] at h1 ⊢
  obtain⟨c,rfl,h3,h4,h5⟩:=h1
  obtain⟨x,rfl⟩:=rP h3
  exact⟨x,by rw[fv],⟨h3,h4,h5⟩,h2⟩
theorem nL{m:Md}{x:SL}{M:b6}{w:World}{dir u t:Int}(hX:eE dir u t M=none)(h:aE m w (j6 M x).toList M)(hf:bf M)(hu:0≤u∧u<256)(ht:0≤t∧t<65536) : Calls Tryz.prog 275 #[.int .i64 dir,.agg (ep u t M x)] w (fun e w'=>e = .returned (.tuple #[.slice none 0 0,.int .i64 1])∧ap [] w w'):=by
  have:=lK (dir:=dir) h hf hu ht
  rw[hX] at this
  rw[fv]
  exact this
theorem o6{m:Md}{x:SL}{M:b6}{w:World}{dir u t:Int}{l:List Int}(hX:eE dir u t M=some l)(h:aE m w (j6 M x).toList M)(hf:bf M)(hu:0≤u∧u<256)(ht:0≤t∧t<65536) : Calls Tryz.prog 275 #[.int .i64 dir,.agg (ep u t M x)] w (fun e w'=>∃ v,e = .returned (.tuple #[v,.int .i64 0])∧cn w.heap.size w' v l∧ap [] w w'):=by
  have:=lK (dir:=dir) h hf hu ht
  rw[hX] at this
  rw[fv]
  exact this
open Go.RowKit
structure SM where
  dir:Int
  held:List Int
  skip:Int
theorem zj{a b:Int}(ha:0≤a∧a<256)(hb:0≤b∧b<256) : bits .or .i64 (a*256) b=a*256+b:=by
  obtain⟨A,rfl⟩:=Int.eq_ofNat_of_zero_le ha.1
  obtain⟨B,rfl⟩:=Int.eq_ofNat_of_zero_le hb.1
  have e:((A:Int)*256)=((A*256:Nat) : Int):=by omega
  rw[e]
  show IntKind.i64.wrap ((BitVec.ofInt 64 ((A*256:Nat) : Int) ||| BitVec.ofInt 64 (B:Int)).toNat:Int)=_
  rw[BitVec.toNat_or,BitVec.ofInt_natCast,BitVec.ofInt_natCast,BitVec.toNat_ofNat,BitVec.toNat_ofNat,Nat.mod_eq_of_lt (by omega),Nat.mod_eq_of_lt (by omega)]
  have h:=Nat.shiftLeft_add_eq_or_of_lt (i:=8) (b:=B) (by omega) A
  rw[Nat.shiftLeft_eq] at h
  rw[← h,i64_in (by omega)]
  omega
def SM.size (S:SM) : Int:=S.held.getD 4 0*256+S.held.getD 5 0
def SM.nx (S:SM) : Nat:=if S.held.length<6 then 0 else if 254<S.size then 1 else if S.size<2 then 2 else if (S.held.length:Int)=6+S.size then 3 else 0
def SM.does (S:SM) : SM × List Ev:=match S.nx with
  | 1=>(⟨S.dir,[],S.size⟩,[Ev.bad 3])
  | 2=>(⟨S.dir,[],S.size⟩,[Ev.bad 5])
  | 3=>(⟨S.dir,[],S.skip⟩,[⟨(cy S.dir S.held).2,(cy S.dir S.held).1⟩])
  | _=>(S,[])
def SM.byte (S:SM)(c:Int) : SM × List Ev:=if 0<S.skip then (⟨S.dir,S.held,S.skip-1⟩,[]) else (SM.mk S.dir (S.held++[c]) S.skip).does
def SM.feed (S:SM)(b:List Int) : SM × List Ev:=b.foldl (fun p c=>((p.1.byte c).1,p.2++(p.1.byte c).2)) (S,[])
abbrev Ek (S:SM) (A:Option Addr) (cp:Nat) : Array Value:=#[.int .i64 S.dir,.slice A S.held.length cp,.int .i64 S.skip]
abbrev mQ (w:World) (g:Nat) (S:SM) (A:Option Addr) (cp:Nat) : Prop:=w.heap[g]? = some (.cells (Ek S A cp) 89 (0,0))
theorem SM.size_rng{S:SM}(h:∀ x,x∈S.held→0≤x∧x<256) : 0≤S.size∧S.size<65536:=by
  have hd:∀ j,0≤S.held.getD j 0∧S.held.getD j 0<256:=fun j=>by
    rw[List.getD_eq_getElem?_getD]
    cases hj:S.held[j]? with
    | none=>simp
    | some x=>exact h x (List.mem_of_getElem? hj)
  have h4:=hd 4
  have h5:=hd 5
  unfold SM.size
  omega
def BZ (S:SM)(L:List Ev)(g:Nat)(w:World)(e:Ending)(w':World) : Prop:=∃ v,e = .returned v∧wx w.heap.size w' v L∧mQ w' g S none 0∧ap [g] w w'
theorem rN{w:World}:Calls Tryz.prog 15 #[vI 0] w (fun e w'=>∃ g,e = .returned (vP g 0)∧w.heap.size≤g∧mQ w' g ⟨0,[],0⟩ none 0∧ap [] w w'):=by
 exact en 12 Tryz.func15 rfl<|ay 1<|sq<|ay 6<|c0<|sk<|tn<|au 2<|L0<|cU #[vI 0,nS,vI 0] fun a f b c d=>al 1<|rt<|rr (vP a 0)<|⟨a,rfl,b,c,d⟩
theorem rZ{w:World}:Calls Tryz.prog 15 #[vI 1] w (fun e w'=>∃ g,e = .returned (vP g 0)∧w.heap.size≤g∧mQ w' g ⟨1,[],0⟩ none 0∧ap [] w w'):=by
 exact en 12 Tryz.func15 rfl<|ay 1<|sq<|ay 6<|c0<|sk<|tn<|au 2<|L0<|cU #[vI 1,nS,vI 0] fun a f b c d=>al 1<|rt<|rr (vP a 0)<|⟨a,rfl,b,c,d⟩
theorem gz{w:World}{g:Nat}{S:SM}{A:Option Addr}{cp:Nat}(hb:mQ w g S A cp)(hr:aR true w (.slice A S.held.length cp) S.held)(h6:6≤S.held.length) : Calls Tryz.prog 74 #[vP g 0] w (bH (vI S.size) w):=by
 have hcm:=aP.len hr
 have hrg:=SM.size_rng (aR.range hr)
 have hru:=aR.range hr
 refine en 19 Tryz.func74 rfl<|ay 1<|sq<|jc (aR.at_ hr 4 (by omega)) fun c d e f l=>jc (aR.at_ hr 5 (by omega)) fun h i j k m=>Rg 17 (fun w'=>w'.cell? ⟨g,1,none⟩=some (.slice A S.held.length cp)∧w'.cell? ⟨c,d+4,none⟩=some (vB (S.held.getD 4 0))∧w'.cell? ⟨h,i+5,none⟩=some (vB (S.held.getD 5 0))) fun n b=>?_
 exact b9 ⟨(ae (ub b hb) rfl),(uc b f),(uc b k)⟩ fun a=>Rt 0 a<|Rt 1 a<|Rt 2 a<|Rl 3 a (fun _ hs=>hs.1)<|xz 4 a S.held.length 4 4 rfl e (by omega)<|Rl 5 a (fun _ hs=>hs.2.1)<|Rr 6 a (vI (S.held.getD 4 0)) (fun _ _=>cE (vI (IntKind.i64.wrap (S.held.getD 4 0))) (by kernel_rfl) (congrArg (Value.int .i64) (i64_in (by omega))))<|Rr 7 a (vI ((S.held.getD 4 0)*256)) (fun _ _=>cE (vI (IntKind.i64.wrap ((S.held.getD 4 0)*256))) (by kernel_rfl) (congrArg (Value.int .i64) (i64_in (by omega))))<|Rt 8 a<|Rt 9 a<|Rt 10 a<|Rl 11 a (fun _ hs=>hs.1)<|xz 12 a S.held.length 5 5 rfl j (by omega)<|Rl 13 a (fun _ hs=>hs.2.2)<|Rr 14 a (vI (S.held.getD 5 0)) (fun _ _=>cE (vI (IntKind.i64.wrap (S.held.getD 5 0))) (by kernel_rfl) (congrArg (Value.int .i64) (i64_in (by omega))))<|Rr 15 a (vI (((S.held.getD 4 0)*256)+(S.held.getD 5 0))) (fun _ _=>cE (vI (bits .or .i64 ((S.held.getD 4 0)*256) (S.held.getD 5 0))) (by kernel_rfl) (congrArg (Value.int .i64) (zj (by omega) (by omega))))<|Rt 16 a<|re<|tn<|rt<|rr (vI (((S.held.getD 4 0)*256)+(S.held.getD 5 0)))<|⟨rfl,b⟩
def SM.fn (S:SM)(g:Nat) : Value:=match S.nx with
  | 1=>.func (.func 75) #[.pointer (some ⟨g,0,none⟩)] #[]
  | 2=>.func (.func 76) #[.pointer (some ⟨g,0,none⟩)] #[]
  | 3=>.func (.func 77) #[.pointer (some ⟨g,0,none⟩)] #[]
  | _=>.nilFunc
theorem gG{w:World}{g:Nat}{S:SM}{A:Option Addr}{cp:Nat}(hb:mQ w g S A cp)(hr:aR true w (.slice A S.held.length cp) S.held) : Calls Tryz.prog 52 #[vP g 0] w (bH (S.fn g) w):=by
 have hcm:=aP.len hr
 have hrg:=SM.size_rng (aR.range hr)
 have hru:=aR.range hr
 refine en 34 Tryz.func52 rfl<|ay 1<|sq<|bk<|au 3<|ax hb 1<|Pl 3<|nl<|tn<|cb ((decide ((S.held.length:Int)<6))) (fun c=>?_) (fun c=>?_)
 have r:=of_decide_eq_true c
 refine ay 1<|rt<|br<|tr<|rr (.nilFunc)<|?_
 have hs:S.nx=0:=by unfold SM.nx;(repeat' split)<;>first | rfl | omega
 have hf:S.fn g = .nilFunc:=by unfold SM.fn;rw[hs];rfl
 exact⟨by rw[hf],(ap.refl [] _)⟩
 have r:=of_decide_eq_false c
 refine au 1<|aF<|m1 (gz (S:=S) hb hr (by omega)) fun v b=>al 2<|cb ((decide (254<S.size))) (fun d=>?_) (fun d=>?_)
 have s:=of_decide_eq_true d
 refine ay 3<|rt<|br<|tr<|rr (.func (.func 75) #[vP g 0] #[])<|?_
 have hs:S.nx=1:=by unfold SM.nx;(repeat' split)<;>first | rfl | omega
 have hf:S.fn g = .func (.func 75) #[vP g 0] #[]:=by unfold SM.fn;rw[hs];rfl
 exact⟨by rw[hf],b⟩
 have s:=of_decide_eq_false d
 refine au 1<|?_
 have j:=ub b hb
 have k:=aR.upd' hr b aK
 refine aF<|m1 (gz (S:=S) j k (by omega)) fun x l=>al 2<|?_
 have m:=aH b l
 refine cb ((decide (S.size<2))) (fun e=>?_) (fun e=>?_)
 have t:=of_decide_eq_true e
 refine ay 3<|rt<|br<|tr<|rr (.func (.func 76) #[vP g 0] #[])<|?_
 have hs:S.nx=2:=by unfold SM.nx;(repeat' split)<;>first | rfl | omega
 have hf:S.fn g = .func (.func 76) #[vP g 0] #[]:=by unfold SM.fn;rw[hs];rfl
 exact⟨by rw[hf],m⟩
 have t:=of_decide_eq_false e
 refine sq<|Rg 10 (fun w'=>w'.cell? ⟨g,1,none⟩=some (.slice A S.held.length cp)) fun y n=>?_
 have o:=aH l n
 have f:=ub o j
 refine b9 (ae f rfl) fun a=>Rt 0 a<|Rt 1 a<|Rt 2 a<|Rl 3 a (fun _ hs=>hs)<|Rt 4 a<|Rt 5 a<|?_
 refine R0 6 rfl<|Oc<|m1 (gz (S:=S) f (aR.upd' k o aK) (by omega)) fun z p=>?_
 refine b9 (ae (ub p f) rfl) fun h=>Rr 7 h (vI (6+S.size)) (fun _ _=>cE (vI (IntKind.i64.wrap (6+S.size))) (by kernel_rfl) (congrArg (Value.int .i64) (IntWalk.i64_in _ (by omega))))<|Rt 8 h<|Rt 9 h<|re<|tn<|?_
 have q:=aH m (aH n p)
 refine cb (((S.held.length:Int)==(6+S.size))) (fun i=>?_) (fun i=>?_)
 have u:=aC i
 refine ay 3<|rt<|br<|tr<|rr (.func (.func 77) #[vP g 0] #[])<|?_
 have hs:S.nx=3:=by unfold SM.nx;(repeat' split)<;>first | rfl | omega
 have hf:S.fn g = .func (.func 77) #[vP g 0] #[]:=by unfold SM.fn;rw[hs];rfl
 exact⟨by rw[hf],q⟩
 have u:=aO i
 refine sk<|bn<|tn<|ay 1<|rt<|rr (.nilFunc)<|?_
 have hs:S.nx=0:=by unfold SM.nx;(repeat' split)<;>first | rfl | omega
 have hf:S.fn g = .nilFunc:=by unfold SM.fn;rw[hs];rfl
 exact⟨by rw[hf],q⟩
theorem jo{w:World}{g:Nat}{S:SM}{A:Option Addr}{cp:Nat}(hb:mQ w g S A cp)(hr:aR true w (.slice A S.held.length cp) S.held)(h6:6≤S.held.length){e:Int}:Calls Tryz.prog 106 #[vP g 0,vI e] w (BZ ⟨S.dir,[],S.size⟩ [Ev.bad e] g w):=by
 have hcm:=aP.len hr
 have hrg:=SM.size_rng (aR.range hr)
 have hru:=aR.range hr
 refine en 16 Tryz.func106 rfl<|au 1<|aS 2<|aF<|m1 (gz (S:=S) hb hr (by omega)) fun l a=>Pl 2<|?_
 refine L0<|cv (ub a hb) 2 #[vI S.dir,.slice A S.held.length cp,vI S.size] fun n f b=>aS 3<|L0<|cv f 1 #[vI S.dir,nS,vI S.size] fun o h c=>aS 2<|L0<|dv (m:=1) (e:=87) #[vI e,vB 0,vW 0,vB 0,vB 0,vW 0,vW 0,vW 0,vW 0,vW 0,vW 0,vW 0,vW 0,vW 0,vW 0,nS,nS,nS,nS,vB 0,vB 0,vB 0,vB 0,vB 0,nS] fun i p j k d=>Pl 1<|nl<|tn<|rt<|rr (.slice (some ⟨i,0,none⟩) 1 1)<|?_
 have hE:=nE (m:=.hi w.heap.size) (w0:=w) (x:=Ev.bad e) (Nat.le_trans (le (le a.size b.size) c.size) j) k ⟨⟨none,0,none,0,none,0,none,0,none,0⟩,by kernel_rfl,ny,(show(0:Int)≤0∧(0:Int)<256 from by decide),(show(0:Int)≤0∧(0:Int)<65536 from by decide)⟩
 exact⟨_,rfl,hE,(ub d h),(uz a (u1 b (aH c d) im))⟩
theorem rB{w:World}{g:Nat}{S:SM}{A:Option Addr}{cp:Nat}(hb:mQ w g S A cp)(hr:aR true w (.slice A S.held.length cp) S.held)(h6:6≤S.held.length) : Calls Tryz.prog 75 #[vP g 0] w (BZ ⟨S.dir,[],S.size⟩ [Ev.bad 3] g w):=by
 have hcm:=aP.len hr
 have hrg:=SM.size_rng (aR.range hr)
 have hru:=aR.range hr
 exact en 5 Tryz.func75 rfl<|au 1<|aS 1<|aF<|sY (jo (S:=S) (e:=3) hb hr h6) fun a b h c i j d f=>al 1<|rt<|rr (.slice a 1 b)<|⟨_,rfl,c,d,f⟩
theorem qi{w:World}{g:Nat}{S:SM}{A:Option Addr}{cp:Nat}(hb:mQ w g S A cp)(hr:aR true w (.slice A S.held.length cp) S.held)(h6:6≤S.held.length) : Calls Tryz.prog 76 #[vP g 0] w (BZ ⟨S.dir,[],S.size⟩ [Ev.bad 5] g w):=by
 have hcm:=aP.len hr
 have hrg:=SM.size_rng (aR.range hr)
 have hru:=aR.range hr
 exact en 5 Tryz.func76 rfl<|au 1<|aS 1<|aF<|sY (jo (S:=S) (e:=5) hb hr h6) fun a b h c i j d f=>al 1<|rt<|rr (.slice a 1 b)<|⟨_,rfl,c,d,f⟩
theorem oX{w:World}{g:Nat}{S:SM}{A:Option Addr}{cp:Nat}(hb:mQ w g S A cp)(hr:aR true w (.slice A S.held.length cp) S.held)(hl:S.held.length≤1048576) : Calls Tryz.prog 77 #[vP g 0] w (BZ ⟨S.dir,[],S.skip⟩ [⟨(cy S.dir S.held).2,(cy S.dir S.held).1⟩] g w):=by
 have hcm:=aP.len hr
 have hrg:=SM.size_rng (aR.range hr)
 have hru:=aR.range hr
 refine en 24 Tryz.func77 rfl<|ay 1<|sq<|Rg 15 (fun w'=>w'.cell? ⟨g,0,none⟩=some (vI S.dir)∧w'.cell? ⟨g,1,none⟩=some (.slice A S.held.length cp)) fun ad a=>?_
 have f:=ub a hb
 refine b9 ⟨(ae f rfl),(ae f rfl)⟩ fun b=>Rt 0 b<|Rt 1 b<|Rt 2 b<|Rl 3 b (fun _ hs=>hs.1)<|Rt 4 b<|Rt 5 b<|Rt 6 b<|Rl 7 b (fun _ hs=>hs.2)<|R2 8 12 rfl rfl ?_ ?_
 refine pr (cy S.dir S.held) fun c D E=>?_
 refine  Oc<|e2 (jb E (aR.upd' hr a aK) (by omega)) fun x56 af Q h=>?_
 obtain⟨R,T,U⟩:=Q
 have i:=ub h f
 refine b9 ⟨(ae i rfl),(ae i rfl)⟩ fun l=>Rt 9 l<|Rt 10 l<|Rt 11 l<|R0 12 rfl<|zW #[vB 0,vW 0,vB 0,vB 0,vW 0,vW 0,vW 0,vW 0,vW 0,vW 0,vW 0,vW 0,vW 0,vW 0,nS,nS,nS,nS,vB 0,vB 0,vB 0,vB 0,vB 0,nS] fun ag ah F V n=>?_
 have o:=ub n i
 refine b9 ⟨(ae o rfl),(ae o rfl)⟩ fun aj=>R0 13 rfl<|qv V (ep c.unit c.tid c.msg x56) fun am W p=>?_
 have G:=nb (ai hb) (le a.size h.size) F
 have q:=b7 p G o
 refine b9 ⟨(ae q rfl),(ae q rfl)⟩ fun X=>Rt 14 X<|re<|tn<|au 3<|L0<|cv q 1 #[vI S.dir,nS,vI S.skip] fun an Y r=>aS 1<|?_
 refine L0<|cH (b7 r (Ne.symm G) W)<|Pl 1<|L0<|dv (m:=1) (e:=87) (y3 ⟨D,c⟩ x56) fun Z ao a0 a1 H=>al 1<|rt<|rr (.slice (some ⟨Z,0,none⟩) 1 1)<|?_
 have I:=ud n (us p (aH r H)) F
 have hE:=nE (m:=.hi w.heap.size) (w0:=w) (x:=⟨D,c⟩) (Nat.le_trans (le (le (le (le a.size h.size) n.size) p.size) r.size) a0) a1 ⟨x56,rfl,(aE.lo (aE.upd R I (ak (aW i (by decide)) aK)) a.size),T,U⟩
 exact⟨_,rfl,by rw[E];exact hE,(ub H Y),(uz a (uz h I))⟩
 refine  zW #[vB 0,vW 0,vB 0,vB 0,vW 0,vW 0,vW 0,vW 0,vW 0,vW 0,vW 0,vW 0,vW 0,vW 0,nS,nS,nS,nS,vB 0,vB 0,vB 0,vB 0,vB 0,nS] fun ap aq J a2 s=>?_
 have t:=ub s f
 refine b9 ⟨(ae t rfl),(ae t rfl)⟩ fun ar=>?_
 have u:=aH a s
 refine pr (cy S.dir S.held) fun d K L=>?_
 refine R0 8 rfl<|Oc<|e2 (jb L (aR.upd' hr u aK) (by omega)) fun v av a3 j=>?_
 obtain⟨a4,a5,a6⟩:=a3
 have k:=ub j t
 refine b9 ⟨(ae k rfl),(ae k rfl)⟩ fun y=>Rt 9 y<|Rt 10 y<|Rt 11 y<|?_
 have M:=ub j a2
 refine R0 13 rfl<|qv M (ep d.unit d.tid d.msg v) fun aw a7 z=>?_
 have N:=nb (ai hb) a.size J
 have B:=b7 z N k
 refine b9 ⟨(ae B rfl),(ae B rfl)⟩ fun a8=>Rt 14 a8<|re<|tn<|au 3<|L0<|cv B 1 #[vI S.dir,nS,vI S.skip] fun ax a9 C=>aS 1<|?_
 refine L0<|cH (b7 C (Ne.symm N) a7)<|Pl 1<|L0<|dv (m:=1) (e:=87) (y3 ⟨K,d⟩ v) fun aa az ab ac O=>al 1<|rt<|rr (.slice (some ⟨aa,0,none⟩) 1 1)<|?_
 have P:=us z (aH C O)
 have hE:=nE (m:=.hi w.heap.size) (w0:=w) (x:=⟨K,d⟩) (Nat.le_trans (le (le (le (le a.size s.size) j.size) z.size) C.size) ab) ac ⟨v,rfl,(aE.lo (aE.upd a4 P (ak (aW M (by decide)) (ak (aW k (by decide)) aK))) u.size),a5,a6⟩
 exact⟨_,rfl,by rw[L];exact hE,(ub O a9),(ud u (uz j P) (le a.size J))⟩
open Go.RowKit
theorem DU{C:Prop}(S:SM)(h0:S.nx=0→C)(h1:S.nx=1→C)(h2:S.nx=2→C)(h3:S.nx=3→C) : C:=by
  have h:S.nx=0∨S.nx=1∨S.nx=2∨S.nx=3:=by
    unfold SM.nx
    (repeat' split)<;>simp
  rcases h with h|h|h|h
  · exact h0 h
  · exact h1 h
  · exact h2 h
  · exact h3 h
theorem BF{S:SM}(h:S.nx≠0) : 6≤S.held.length:=by
  unfold SM.nx at h
  split at h
  · exact absurd rfl h
  · omega
theorem qh{w:World}{g:Nat}{S:SM}{A:Option Addr}{cp:Nat}(hb:mQ w g S A cp)(hr:aR true w (.slice A S.held.length cp) S.held)(h:S.nx=0) : Calls Tryz.prog 52 #[.pointer (some ⟨g,0,none⟩)] w (bH (.nilFunc) w):=by
  have k:=gG hb hr
  unfold SM.fn at k
  rw[h] at k
  exact k
theorem p7{w:World}{g:Nat}{S:SM}{A:Option Addr}{cp:Nat}(hb:mQ w g S A cp)(hr:aR true w (.slice A S.held.length cp) S.held)(h:S.nx=1) : Calls Tryz.prog 52 #[.pointer (some ⟨g,0,none⟩)] w (bH (.func (.func 75) #[.pointer (some ⟨g,0,none⟩)] #[]) w):=by
  have k:=gG hb hr
  unfold SM.fn at k
  rw[h] at k
  exact k
theorem qe{w:World}{g:Nat}{S:SM}{A:Option Addr}{cp:Nat}(hb:mQ w g S A cp)(hr:aR true w (.slice A S.held.length cp) S.held)(h:S.nx=2) : Calls Tryz.prog 52 #[.pointer (some ⟨g,0,none⟩)] w (bH (.func (.func 76) #[.pointer (some ⟨g,0,none⟩)] #[]) w):=by
  have k:=gG hb hr
  unfold SM.fn at k
  rw[h] at k
  exact k
theorem oK{w:World}{g:Nat}{S:SM}{A:Option Addr}{cp:Nat}(hb:mQ w g S A cp)(hr:aR true w (.slice A S.held.length cp) S.held)(h:S.nx=3) : Calls Tryz.prog 52 #[.pointer (some ⟨g,0,none⟩)] w (bH (.func (.func 77) #[.pointer (some ⟨g,0,none⟩)] #[]) w):=by
  have k:=gG hb hr
  unfold SM.fn at k
  rw[h] at k
  exact k
def SM.ok (S:SM) : Prop:=(0≤S.skip∧S.skip<65536)∧(∀ x,x∈S.held→0≤x∧x<256)∧(S.held.length<6∨2≤S.size∧S.size≤254∧(S.held.length:Int)<6+S.size)
theorem SM.ok_le{S:SM}(h:S.ok) : S.held.length≤259:=by
  obtain⟨_,_,h|h⟩:=h
  · omega
  · omega
theorem SM.size_app{S:SM}{c:Int}(h:6≤S.held.length) : (SM.mk S.dir (S.held++[c]) S.skip).size=S.size:=by
  unfold SM.size
  simp only[List.getD_eq_getElem?_getD]
  rw[List.getElem?_append_left (by omega),List.getElem?_append_left (by omega)]
theorem SM.byte_ok{S S2:SM}{c:Int}{L2:List Ev}(h:S.ok)(hc:0≤c∧c<256)(hx:S.byte c=(S2,L2)) : S2.ok∧L2.length≤1:=by
  obtain⟨h1,h2,h3⟩:=h
  unfold SM.byte at hx
  split at hx
  · injection hx with e1 e2
    subst e1 e2
    exact⟨⟨⟨by show 0≤S.skip-1;omega,by show S.skip-1<65536;omega⟩,h2,h3⟩,Nat.zero_le _⟩
  have hr:∀ x,x∈(SM.mk S.dir (S.held++[c]) S.skip).held→0≤x∧x<256:=fun x hx=>by
    rcases List.mem_append.1 hx with h|h
    · exact h2 x h
    · rw[List.mem_singleton] at h;rw[h];exact hc
  have hz:=SM.size_rng hr
  have hn:∀ d k,(0≤k∧k<65536)→(SM.mk d [] k).ok:=fun d k hk=>⟨hk,fun x hx=>(by cases hx),.inl (show 0<6 by omega)⟩
  unfold SM.does at hx
  have hnx:∀ i,(SM.mk S.dir (S.held++[c]) S.skip).nx=i→i=0∨i=1∨i=2∨i=3:=by
    intro i hi
    subst hi
    unfold SM.nx
    (repeat' split)<;>simp
  rcases hnx _ rfl with e|e|e|e<;>rw[e] at hx<;>injection hx with e1 e2<;>subst e1 e2
  · refine⟨⟨h1,hr,?_⟩,Nat.zero_le _⟩
    unfold SM.nx at e
    by_cases h6:(SM.mk S.dir (S.held++[c]) S.skip).held.length<6
    · exact .inl h6
    rw[if_neg h6] at e
    split at e
    · cases e
    split at e
    · cases e
    split at e
    · cases e
    rename_i k1 k2 k3
    refine .inr ⟨by omega,by omega,?_⟩
    have hl:(SM.mk S.dir (S.held++[c]) S.skip).held.length=S.held.length+1:=by simp
    rcases h3 with h3|⟨h4,h5,h7⟩
    · omega
    · by_cases h8:6≤S.held.length
      · rw[SM.size_app h8] at k1 k2 k3 ⊢
        omega
      · omega
  · exact⟨hn _ _ hz,Nat.le_refl _⟩
  · exact⟨hn _ _ hz,Nat.le_refl _⟩
  · exact⟨hn _ _ h1,Nat.le_refl _⟩
theorem kK{S0 T T2:SM}{L L2:List Ev}{b:List Int}{k:Nat}(hk:k<b.length)(h:(T,L)=S0.feed (b.take k))(hx:T.byte (b.getD k 0)=(T2,L2)) : (T2,L++L2)=S0.feed (b.take (k+1)):=by
  rw[List.take_succ_eq_append_getElem hk]
  unfold SM.feed at h ⊢
  rw[List.foldl_append,← h]
  rw[List.getD_eq_getElem?_getD,List.getElem?_eq_getElem hk] at hx
  simp only[Option.getD_some] at hx
  simp only[List.foldl_cons,List.foldl_nil,hx]
theorem oS{S0 T T2:SM}{L:List Ev}{b:List Int}{k:Nat}(hk:k<b.length)(h:(T,L)=S0.feed (b.take k))(hx:T.byte (b.getD k 0)=(T2,[])) : (T2,L)=S0.feed (b.take (k+1)):=by
  have:=kK hk h hx
  rwa [List.append_nil] at this
theorem uG{T:SM}{c:Int}(h:0<T.skip) : T.byte c=(⟨T.dir,T.held,T.skip-1⟩,[]):=by unfold SM.byte;rw[if_pos h]
theorem AK{T:SM}{c:Int}(h:¬ 0<T.skip)(e:(SM.mk T.dir (T.held++[c]) T.skip).nx=0) : T.byte c=(⟨T.dir,T.held++[c],T.skip⟩,[]):=by unfold SM.byte;rw[if_neg h];unfold SM.does;rw[e];rfl
theorem Bo{T:SM}{c:Int}(h:¬ 0<T.skip)(e:(SM.mk T.dir (T.held++[c]) T.skip).nx=1) : T.byte c=(⟨T.dir,[],(SM.mk T.dir (T.held++[c]) T.skip).size⟩,[Ev.bad 3]):=by unfold SM.byte;rw[if_neg h];unfold SM.does;rw[e];rfl
theorem Be{T:SM}{c:Int}(h:¬ 0<T.skip)(e:(SM.mk T.dir (T.held++[c]) T.skip).nx=2) : T.byte c=(⟨T.dir,[],(SM.mk T.dir (T.held++[c]) T.skip).size⟩,[Ev.bad 5]):=by unfold SM.byte;rw[if_neg h];unfold SM.does;rw[e];rfl
theorem Bp{T:SM}{c:Int}{F:bu}{E:Int}(h:¬ 0<T.skip)(e:(SM.mk T.dir (T.held++[c]) T.skip).nx=3)(hX:cy T.dir (T.held++[c])=(F,E)) : T.byte c=(⟨T.dir,[],T.skip⟩,[⟨E,F⟩]):=by
  unfold SM.byte
  rw[if_neg h]
  unfold SM.does
  rw[e]
  show(SM.mk T.dir [] T.skip,[Ev.mk (cy T.dir (T.held++[c])).2 (cy T.dir (T.held++[c])).1])=_
  rw[hX]
theorem ms{w:World}{g:Nat}{d k:Int}{h:List Int}{A:Option Addr}{cp:Nat}{F:bu}{E:Int}(hX:cy d h=(F,E))(hb:mQ w g ⟨d,h,k⟩ A cp)(hr:aR true w (.slice A h.length cp) h)(hl:h.length≤1048576) : Calls Tryz.prog 77 #[.pointer (some ⟨g,0,none⟩)] w (BZ ⟨d,[],k⟩ [⟨E,F⟩] g w):=by
  have q:=oX (S:=⟨d,h,k⟩) hb hr hl
  rw[hX] at q
  exact q
def Ef (base n0:Nat)(S2:SM)(L:List Ev)(g:Nat)(A:Option Addr)(w:World)(e:Ending)(w':World) : Prop:=∃ v A2 cp2 n2,e = .returned v∧dk n2 w.heap.size w' v L∧mQ w' g S2 A2 cp2∧cn base w' (.slice A2 S2.held.length cp2) S2.held∧(∀ x,x∈ob A2→x∈ob A∨w.heap.size≤x)∧(n0≤n2∧n2≤w'.heap.size)∧(∀ x,x∈ob A2→n2≤x)∧ap (g :: (ob A++[])) w w'
theorem lq{b:List Int}(h:∀ x,x∈b→0≤x∧x<256)(k:Nat) : 0≤b.getD k 0∧b.getD k 0<256:=by
  rw[List.getD_eq_getElem?_getD]
  cases hj:b[k]? with
  | none=>simp
  | some x=>exact h x (List.mem_of_getElem? hj)
theorem pV{w:World}{g base:Nat}{S:SM}{A:Option Addr}{cp:Nat}{m:Md}{B:Option Addr}{cpb:Nat}{b:List Int}(hb:mQ w g S A cp)(ho:cn base w (.slice A S.held.length cp) S.held)(hbs:base≤w.heap.size)(hok0:S.ok){n0:Nat}(hn0:n0≤w.heap.size)(hlo:∀ x,x∈ob A→n0≤x)(hsl:aR m w (.slice B b.length cpb) b)(hdg:0<b.length→∀ x,x∈ob B→x≠g)(hda:ma b.length B (ob A))(hbl:b.length≤1048576) :
    Calls Tryz.prog 16 #[vP g 0,.slice B b.length cpb] w (Ef base n0 (S.feed b).1 (S.feed b).2 g A w):=by
 have hdl:=aP.low hsl
 have hok0l:=SM.ok_le hok0
 have hrb:=aR.range hsl
 refine en 47 Tryz.func16 rfl<|au 1<|dl 1<|sq<|ay 3<|bk<|?_
 refine js (fun x=>[(0,vP g 0),(4,nS),(5,.slice x.2.2.2.2.2.1 x.2.2.1.length x.2.2.2.2.2.2.1),(9,.slice B b.length cpb),(10,vI (b.length:Int)),(11,vI (x.1:Int))]) (fun(x:Nat × SM × List Ev × Option Addr × Nat × Option Addr × Nat × Nat) w'=>ap (g :: (ob A++[])) w w'∧mQ w' g x.2.1 x.2.2.2.1 x.2.2.2.2.1∧cn base w' (.slice x.2.2.2.1 x.2.1.held.length x.2.2.2.2.1) x.2.1.held∧dk x.2.2.2.2.2.2.2 w.heap.size w' (.slice x.2.2.2.2.2.1 x.2.2.1.length x.2.2.2.2.2.2.1) x.2.2.1∧x.2.2.2.2.2.2.2≤w'.heap.size∧aR m w' (.slice B b.length cpb) b∧((x.2.1,x.2.2.1)=S.feed (b.take x.1))∧(x.2.1.ok)∧(x.2.1.held.length≤259)∧(x.1≤b.length)∧(x.2.2.1.length≤x.1)∧(∀ y,y∈ob x.2.2.2.1→y∈ob A∨w.heap.size≤y)∧(n0≤x.2.2.2.2.2.2.2)∧(∀ y,y∈ob x.2.2.2.1→x.2.2.2.2.2.2.2≤y)) (fun x=>b.length-x.1) (0,S,[],A,cp,none,0,n0) ⟨ap.refl _ _,hb,ho,(aJ.nil w.heap.size _ _ (bi w.heap.size n0) _),(Nat.le_trans hn0 lr),hsl,rfl,hok0,hok0l,(by(try dsimp only);exact Nat.zero_le _),(by(try dsimp only);exact Nat.zero_le _),jr,(by(try dsimp only);exact Nat.le_refl _),hlo⟩ ?_
 rintro⟨k,T,L,Ah,ch,Bq,cq,n⟩ E ⟨j,aV,aW,aZ,b0,b1,b2,b3,b4,b5,b6,b7,b8,b9⟩
 refine ip [(0,vP g 0),(4,nS),(5,.slice Bq L.length cq),(9,.slice B b.length cpb),(10,vI (b.length:Int)),(11,vI (k:Int))] ?_
 have f:mQ E g T Ah ch:=aV
 have r:cn base E (.slice Ah T.held.length ch) T.held:=aW
 have a:dk n w.heap.size E (.slice Bq L.length cq) L:=aZ
 have ba:n≤E.heap.size:=b0
 have hnl:=ba
 have z:aR m E (.slice B b.length cpb) b:=b1
 have bb:(T,L)=S.feed (b.take k):=b2
 have bc:T.ok:=b3
 have bN:T.held.length≤259:=b4
 have bO:k≤b.length:=b5
 have bP:L.length≤k:=b6
 have bd:∀ y,y∈ob Ah→y∈ob A∨w.heap.size≤y:=b7
 have be:n0≤n:=b8
 have bf:∀ y,y∈ob Ah→n≤y:=b9
 have hlow:=bf
 have hn0l:=be
 have hat0:=bd
 have hok:=bc
 have hpj:=bb
 have hle:=SM.ok_le hok
 have hsk:=hok.1
 refine ay 1<|sq<|cb ((decide ((k:Int)<(b.length:Int)))) (fun X=>?_) (fun X=>?_)
 have bg:=of_decide_eq_true X
 refine bU<|sq<|bk<|sg<|jc (aR.at_ z k (by omega)) fun bh bj bl bm bQ=>L0<|pf b.length k bl (by omega)<|L0<|m8 (p:=⟨bh,bj+k,none⟩) (v:=vB (b.getD k 0)) bm<|al 1<|sq<|sq<|go<|Pl 3<|ax f 2<|al 1<|cb ((decide (0<T.skip))) (fun Y=>?_) (fun Y=>?_)
 have C:=of_decide_eq_true Y
 refine au 3<|ax f 2<|bA (T.skip-1)<|Pl 2<|L0<|cv f 2 #[vI T.dir,.slice Ah T.held.length ch,vI (T.skip-1)] fun bR bo D=>nt<|xt<|tx<|bx<|tn<|go<|bA ((k:Int)+1)<|Pl 1<|nl<|?_
 have a2:=uG (T:=T) (c:=(b.getD k 0)) C
 have a3:=SM.byte_ok hok (lq hrb k) a2
 exact fM ((k+1),(SM.mk T.dir T.held (T.skip-1)),L,Ah,ch,Bq,cq,n) ⟨(u1 j D im),bo,(aj r D (fun x hx=>(aa (fun e=>(aX f r (by decide)) (e▸hx)) az)) (fun _ _ h=>h)),(aj a D (fun x hx=>(aa (fun e=>(aD (ai hb) lr a) (e▸hx)) az)) (fun x cs q=>bi.upd D (f6 f (by decide) bZ) q)),(Nat.le_trans hnl D.size),(aR.far z D (dT hdg eD)),(by(try dsimp only);exact oS (by omega) hpj a2),(by(try dsimp only);exact a3.1),(by(try dsimp only);have q:=SM.ok_le a3.1;exact q),(by(try dsimp only);omega),(by(try dsimp only);(try simp only[cl]);omega),(by(try dsimp only);exact hat0),(by(try dsimp only);exact hn0l),(by(try dsimp only);exact hlow)⟩ (by omega)
 have C:=of_decide_eq_false Y
 refine bU<|au 4<|ax f 1<|Pl 1<|L0<|dv (m:=1) (e:=5) #[vB (b.getD k 0)] fun bS bT bp bq l=>?_
 have br:=dF bp (xs:=[(b.getD k 0)]) (by as_aux_lemma=>kernel_rfl) (am (by omega) aY) (by(try simp only[List.length_cons,List.length_nil]);omega) bq
 refine L0<|i3 (R:=jH) (xs:=T.held) (ys:=([(b.getD k 0)])) (vB 0) 1 1 (aj r l (fun x hx=>az) (fun _ _ h=>h)) (br).rd kL (fun _ _ _ _ h=>h) (by(try simp only[cl,aq]);omega) (Nat.le_trans hbs (le j.size l.size)) fun a4 a5 bV s u a6=>Pl 2<|?_
 have a7:=ut (ap.mono (S':=(ob Ah++[])) l aB) u (ah il aB)
 have F:=ap.blk a7 (aM (aX f r (by decide)) az) f
 refine L0<|cv F 1 #[vI T.dir,.slice a4 ((T.held++[(b.getD k 0)]).length) a5,vI T.skip] fun bW t o=>aS 1<|?_
 have G:=u1 (ap.mono (S':=(ob Ah++(g :: []))) a7 (ah il aB)) o im
 have O:=ut j G (ah (kQ hat0 il lr) (ac im aB))
 refine DU (SM.mk T.dir (T.held++[(b.getD k 0)]) T.skip) (fun i=>?_) (fun i=>?_) (fun i=>?_) (fun i=>?_)
 have a8:=aj s o (fun x hx=>(aa (fun e=>(aX F s (by decide)) (e▸hx)) az)) (fun _ _ h=>h)
 refine aF<|m1 (qh (S:=(SM.mk T.dir (T.held++[(b.getD k 0)]) T.skip)) t (a8).rd i) fun bX P=>Pl 1<|dl 2<|c0<|sk<|bn<|tn<|go<|bA ((k:Int)+1)<|Pl 1<|nl<|?_
 have Q:=aH G P
 have a9:=AK (T:=T) (c:=(b.getD k 0)) C i
 have ab:=SM.byte_ok hok (lq hrb k) a9
 exact fM ((k+1),(SM.mk T.dir (T.held++[(b.getD k 0)]) T.skip),L,a4,a5,Bq,cq,n) ⟨(aH O P),(ub P t),(aj a8 P (fun x hx=>az) (fun _ _ h=>h)),(aj a Q (fun x hx=>(aM ((dz a r (by decide)) x hx) (aa (fun e=>(aD (ai hb) lr a) (e▸hx)) az))) (fun x cs q=>bi.upd Q (iz hlow (f6 f (by decide) bZ)) q)),(Nat.le_trans hnl Q.size),(aR.far z Q (dq (fL hda hdl hat0) (dT hdg eD))),(by(try dsimp only);exact oS (by omega) hpj a9),(by(try dsimp only);exact ab.1),(by(try dsimp only);have q:=SM.ok_le ab.1;exact q),(by(try dsimp only);omega),(by(try dsimp only);(try simp only[cl]);omega),(by(try dsimp only);exact(jF a6 hat0 (le j.size l.size))),(by(try dsimp only);exact hn0l),(by(try dsimp only);exact(sZ a6 hlow (Nat.le_trans hnl l.size)))⟩ (by omega)
 have ad:=aj s o (fun x hx=>(aa (fun e=>(aX F s (by decide)) (e▸hx)) az)) (fun _ _ h=>h)
 refine aF<|m1 (p7 (S:=(SM.mk T.dir (T.held++[(b.getD k 0)]) T.skip)) t (ad).rd i) fun bY H=>Pl 1<|dl 2<|c1<|go<|Pl 2<|?_
 refine L0<|fy #[vP g 0] #[] (args:=#[vP g 0])<|sY (rB (S:=(SM.mk T.dir (T.held++[(b.getD k 0)]) T.skip)) (ub H t) ((aj ad H (fun x hx=>az) (fun _ _ h=>h))).rd (BF (by rw[i];decide))) fun c2 c3 Z bs c4 c5 bt ae=>?_
 have af:=uz H ae
 have I:=u1 G af im
 have ag:=aj a I (fun x hx=>(aM ((dz a r (by decide)) x hx) (aa (fun e=>(aD (ai hb) lr a) (e▸hx)) az))) (fun x cs q=>bi.upd I (iz hlow (f6 f (by decide) bZ)) q)
 have bu:n≤Z.heap.size:=Nat.le_trans hnl I.size
 refine L0<|i3 (R:=bi w.heap.size Z.heap.size) (xs:=L) (ys:=([Ev.bad 3])) (.agg #[vI 0,vB 0,vW 0,vB 0,vB 0,vW 0,vW 0,vW 0,vW 0,vW 0,vW 0,vW 0,vW 0,vW 0,vW 0,nS,nS,nS,nS,vB 0,vB 0,vB 0,vB 0,vB 0,nS]) 25 168 (dk.up bu (Nat.le_refl _) ag) (qF (aJ.map bs fun _ _ q=>q.lo (le (le (le (le j.size l.size) u.size) o.size) H.size))).rd bi.ones (fun w' hv x cs q=>bi.upd hv (kk ag (by decide) bZ) q) (by(try simp only[cl,aq]);omega) (le (le (le (le (le j.size l.size) u.size) o.size) H.size) ae.size) fun bv bw c6 bz U c7=>Pl 1<|nl<|bn<|tn<|go<|bA ((k:Int)+1)<|Pl 1<|nl<|?_
 have ak:=Bo (T:=T) (c:=(b.getD k 0)) C i
 have an:=SM.byte_ok hok (lq hrb k) ak
 exact fM ((k+1),(SM.mk T.dir [] (SM.mk T.dir (T.held++[(b.getD k 0)]) T.skip).size),(L++[Ev.bad 3]),none,0,bv,bw,Z.heap.size) ⟨(ut O (ut (ap.mono (S':=(g :: (ob Bq++[]))) af (ac im aB)) U (ah il aB)) (ac im (ah (aT a lr) aB))),(ap.blk U (aM (aD (ai hb) lr a) az) bt),(aJ.nil base _ _ jH _),bz,U.size,(aR.far z (ut (ap.mono (S':=(ob Ah++(g :: (ob Bq++[])))) I (ah il (ac im aB))) U (ah il aB)) (dq (fL hda hdl hat0) (dT hdg (dq (fG hdl a (Nat.le_refl _)) eD)))),(by(try dsimp only);exact kK (by omega) hpj ak),(by(try dsimp only);exact an.1),(by(try dsimp only);have q:=SM.ok_le an.1;exact q),(by(try dsimp only);omega),(by(try dsimp only);(try simp only[cl]);omega),(by(try dsimp only);exact ec),(by(try dsimp only);exact Nat.le_trans hn0l (Nat.le_trans hnl I.size)),(by(try dsimp only);exact cP)⟩ (by omega)
 have ao:=aj s o (fun x hx=>(aa (fun e=>(aX F s (by decide)) (e▸hx)) az)) (fun _ _ h=>h)
 refine aF<|m1 (qe (S:=(SM.mk T.dir (T.held++[(b.getD k 0)]) T.skip)) t (ao).rd i) fun c8 J=>Pl 1<|dl 2<|c1<|go<|Pl 2<|?_
 refine L0<|fy #[vP g 0] #[] (args:=#[vP g 0])<|sY (qi (S:=(SM.mk T.dir (T.held++[(b.getD k 0)]) T.skip)) (ub J t) ((aj ao J (fun x hx=>az) (fun _ _ h=>h))).rd (BF (by rw[i];decide))) fun c9 ca a0 bB cc cd bC ar=>?_
 have av:=uz J ar
 have K:=u1 G av im
 have aw:=aj a K (fun x hx=>(aM ((dz a r (by decide)) x hx) (aa (fun e=>(aD (ai hb) lr a) (e▸hx)) az))) (fun x cs q=>bi.upd K (iz hlow (f6 f (by decide) bZ)) q)
 have bD:n≤a0.heap.size:=Nat.le_trans hnl K.size
 refine L0<|i3 (R:=bi w.heap.size a0.heap.size) (xs:=L) (ys:=([Ev.bad 5])) (.agg #[vI 0,vB 0,vW 0,vB 0,vB 0,vW 0,vW 0,vW 0,vW 0,vW 0,vW 0,vW 0,vW 0,vW 0,vW 0,nS,nS,nS,nS,vB 0,vB 0,vB 0,vB 0,vB 0,nS]) 25 168 (dk.up bD (Nat.le_refl _) aw) (qF (aJ.map bB fun _ _ q=>q.lo (le (le (le (le j.size l.size) u.size) o.size) J.size))).rd bi.ones (fun w' hv x cs q=>bi.upd hv (kk aw (by decide) bZ) q) (by(try simp only[cl,aq]);omega) (le (le (le (le (le j.size l.size) u.size) o.size) J.size) ar.size) fun bE bF ce bG V cf=>Pl 1<|nl<|bn<|tn<|go<|bA ((k:Int)+1)<|Pl 1<|nl<|?_
 have aA:=Be (T:=T) (c:=(b.getD k 0)) C i
 have aC:=SM.byte_ok hok (lq hrb k) aA
 exact fM ((k+1),(SM.mk T.dir [] (SM.mk T.dir (T.held++[(b.getD k 0)]) T.skip).size),(L++[Ev.bad 5]),none,0,bE,bF,a0.heap.size) ⟨(ut O (ut (ap.mono (S':=(g :: (ob Bq++[]))) av (ac im aB)) V (ah il aB)) (ac im (ah (aT a lr) aB))),(ap.blk V (aM (aD (ai hb) lr a) az) bC),(aJ.nil base _ _ jH _),bG,V.size,(aR.far z (ut (ap.mono (S':=(ob Ah++(g :: (ob Bq++[])))) K (ah il (ac im aB))) V (ah il aB)) (dq (fL hda hdl hat0) (dT hdg (dq (fG hdl a (Nat.le_refl _)) eD)))),(by(try dsimp only);exact kK (by omega) hpj aA),(by(try dsimp only);exact aC.1),(by(try dsimp only);have q:=SM.ok_le aC.1;exact q),(by(try dsimp only);omega),(by(try dsimp only);(try simp only[cl]);omega),(by(try dsimp only);exact ec),(by(try dsimp only);exact Nat.le_trans hn0l (Nat.le_trans hnl K.size)),(by(try dsimp only);exact cP)⟩ (by omega)
 have aE:=aj s o (fun x hx=>(aa (fun e=>(aX F s (by decide)) (e▸hx)) az)) (fun _ _ h=>h)
 refine aF<|m1 (oK (S:=(SM.mk T.dir (T.held++[(b.getD k 0)]) T.skip)) t (aE).rd i) fun cg M=>Pl 1<|dl 2<|c1<|go<|Pl 2<|pr (cy T.dir (T.held++[(b.getD k 0)])) fun aG aI aK=>?_
 refine L0<|fy #[vP g 0] #[] (args:=#[vP g 0])<|sY (ms (d:=T.dir) (h:=T.held++[(b.getD k 0)]) (k:=T.skip) aK (ub M t) ((aj aE M (fun x hx=>az) (fun _ _ h=>h))).rd (by simp only[cl];omega)) fun ci cj a1 bH ck cm bI aL=>?_
 have aN:=uz M aL
 have N:=u1 G aN im
 have aO:=aj a N (fun x hx=>(aM ((dz a r (by decide)) x hx) (aa (fun e=>(aD (ai hb) lr a) (e▸hx)) az))) (fun x cs q=>bi.upd N (iz hlow (f6 f (by decide) bZ)) q)
 have bJ:n≤a1.heap.size:=Nat.le_trans hnl N.size
 refine L0<|i3 (R:=bi w.heap.size a1.heap.size) (xs:=L) (ys:=([Ev.mk aI aG])) (.agg #[vI 0,vB 0,vW 0,vB 0,vB 0,vW 0,vW 0,vW 0,vW 0,vW 0,vW 0,vW 0,vW 0,vW 0,vW 0,nS,nS,nS,nS,vB 0,vB 0,vB 0,vB 0,vB 0,nS]) 25 168 (dk.up bJ (Nat.le_refl _) aO) (qF (aJ.map bH fun _ _ q=>q.lo (le (le (le (le j.size l.size) u.size) o.size) M.size))).rd bi.ones (fun w' hv x cs q=>bi.upd hv (kk aO (by decide) bZ) q) (by(try simp only[cl,aq]);omega) (le (le (le (le (le j.size l.size) u.size) o.size) M.size) aL.size) fun bK bL co bM W cr=>Pl 1<|nl<|bn<|tn<|go<|bA ((k:Int)+1)<|Pl 1<|nl<|?_
 have aQ:=Bp (T:=T) (c:=(b.getD k 0)) C i aK
 have aU:=SM.byte_ok hok (lq hrb k) aQ
 exact fM ((k+1),(SM.mk T.dir [] T.skip),(L++[Ev.mk aI aG]),none,0,bK,bL,a1.heap.size) ⟨(ut O (ut (ap.mono (S':=(g :: (ob Bq++[]))) aN (ac im aB)) W (ah il aB)) (ac im (ah (aT a lr) aB))),(ap.blk W (aM (aD (ai hb) lr a) az) bI),(aJ.nil base _ _ jH _),bM,W.size,(aR.far z (ut (ap.mono (S':=(ob Ah++(g :: (ob Bq++[])))) N (ah il (ac im aB))) W (ah il aB)) (dq (fL hda hdl hat0) (dT hdg (dq (fG hdl a (Nat.le_refl _)) eD)))),(by(try dsimp only);exact kK (by omega) hpj aQ),(by(try dsimp only);exact aU.1),(by(try dsimp only);have q:=SM.ok_le aU.1;exact q),(by(try dsimp only);omega),(by(try dsimp only);(try simp only[cl]);omega),(by(try dsimp only);exact ec),(by(try dsimp only);exact Nat.le_trans hn0l (Nat.le_trans hnl N.size)),(by(try dsimp only);exact cP)⟩ (by omega)
 have bg:=of_decide_eq_false X
 refine xt<|tx<|tx<|bx<|tn<|ay 2<|rt<|rr (.slice Bq L.length cq)<|?_
 have hs:S.feed b=(T,L):=by rw[hpj,List.take_of_length_le (by omega)]
 rw[hs]
 exact⟨_,Ah,ch,n,rfl,a,f,r,hat0,⟨hn0l,Nat.le_trans hnl lr⟩,hlow,j⟩
open Go.RowKit
def d8 (n base:Nat)(w:World)(g:Nat)(A:Option Addr)(cp:Nat)(S:SM) : Prop:=mQ w g S A cp∧cn base w (.slice A S.held.length cp) S.held∧S.ok∧n≤w.heap.size∧(∀ x,x∈ob A→n≤x)∧base≤w.heap.size
section
variable {n base g cp:Nat}{w w':World}{A:Option Addr}{S:SM}{X:List Nat}
theorem d8.row(h:d8 n base w g A cp S) : cn base w (.slice A S.held.length cp) S.held:=h.2.1
theorem d8.low(h:d8 n base w g A cp S) : ∀ x,x∈ob A→n≤x:=h.2.2.2.2.1
theorem d8.nle(h:d8 n base w g A cp S) : n≤w.heap.size:=h.2.2.2.1
theorem d8.le(h:d8 n base w g A cp S) : S.held.length≤259:=SM.ok_le h.2.2.1
theorem d8.lt(h:d8 n base w g A cp S) : g<w.heap.size:=ai h.1
theorem d8.cells(h:d8 n base w g A cp S) : ∃ cs fr,w.heap[g]? = some (.cells cs 89 fr):=⟨_,_,h.1⟩
theorem d8.upd(h:d8 n base w g A cp S)(hu:ap X w w')(hg:g∉X)(hr:∀ x,x∈ob A→x∉X) : d8 n base w' g A cp S :=
  ⟨hu.blk hg h.1,aj h.2.1 hu hr (fun _ _ q=>q),h.2.2.1,Nat.le_trans h.2.2.2.1 hu.size,h.2.2.2.2.1,Nat.le_trans h.2.2.2.2.2 hu.size⟩
end
theorem SM.feed_ok:∀ (b:List Int)(S:SM)(L:List Ev),S.ok→(∀ x,x∈b→0≤x∧x<256)→(b.foldl (fun(p:SM × List Ev) c=>((p.1.byte c).1,p.2++(p.1.byte c).2)) (S,L)).1.ok∧(b.foldl (fun(p:SM × List Ev) c=>((p.1.byte c).1,p.2++(p.1.byte c).2)) (S,L)).2.length≤L.length+b.length
  | [],S,L,h,_=>⟨h,Nat.le_refl _⟩
  | c :: t,S,L,h,hb=>by
    have k:=SM.byte_ok (S2:=(S.byte c).1) (L2:=(S.byte c).2) h (hb c (List.mem_cons_self ..)) rfl
    have q:=SM.feed_ok t (S.byte c).1 (L++(S.byte c).2) k.1 (fun x hx=>hb x (List.mem_cons_of_mem _ hx))
    refine⟨q.1,Nat.le_trans q.2 ?_⟩
    rw[List.length_append,List.length_cons]
    omega
theorem SM.feed_le{S S2:SM}{b:List Int}{L:List Ev}(h:S.ok)(hb:∀ x,x∈b→0≤x∧x<256)(hX:S.feed b=(S2,L)) : L.length≤b.length:=by
  have q:=(SM.feed_ok b S [] h hb).2
  have e:L=(S.feed b).2:=(congrArg Prod.snd hX).symm
  rw[e]
  rw[List.length_nil,Nat.zero_add] at q
  exact q
def Eg (n base:Nat)(S2:SM)(L:List Ev)(g:Nat)(A:Option Addr)(w:World)(e:Ending)(w':World) : Prop:=∃ v A2 cp2 n2,e = .returned v∧dk n2 w.heap.size w' v L∧d8 n2 base w' g A2 cp2 S2∧(∀ x,x∈ob A2→x∈ob A∨w.heap.size≤x)∧n≤n2∧ap (g :: (ob A++[])) w w'
theorem qG{w:World}{n base g cp cpb nb:Nat}{S S2:SM}{L:List Ev}{A B:Option Addr}{m:Md}{b:List Int}(hX:S.feed b=(S2,L))(h:d8 n base w g A cp S)(hsl:aR m w (.slice B nb cpb) b)(hdg:0<nb→∀ x,x∈ob B→x≠g)(hda:ma nb B (ob A))(hbl:b.length≤1048576) :
    Calls Tryz.prog 16 #[.pointer (some ⟨g,0,none⟩),.slice B nb cpb] w (Eg n base S2 L g A w):=by
  obtain⟨h1,h2,h3,h4,h5,h6⟩:=h
  obtain rfl:nb=b.length:=by
    obtain⟨_,_,e,_⟩:=hsl.shape
    injection e
  refine(pV h1 h2 h6 h3 h4 h5 hsl hdg hda hbl).mono ?_
  rintro e w' ⟨v,A2,cp2,n2,he,k1,k2,k3,k4,⟨k5,k6⟩,k7,k8⟩
  have hok:=(SM.feed_ok b S [] h3 (aR.range hsl)).1
  rw[hX] at k1 k2 k3
  have e2:S2=(S.feed b).1:=(congrArg Prod.fst hX).symm
  exact⟨v,A2,cp2,n2,he,k1,⟨k2,k3,by rw[e2];exact hok,k6,k7,Nat.le_trans h6 k8.size⟩,k4,k5,k8⟩
theorem sV(d:Int){w:World}(hq:Calls Tryz.prog 15 #[.int .i64 d] w (fun e w'=>∃ g,e = .returned (.pointer (some ⟨g,0,none⟩))∧w.heap.size≤g∧mQ w' g ⟨d,[],0⟩ none 0∧ap [] w w')) :
    Calls Tryz.prog 15 #[.int .i64 d] w (fun e w'=>∃ g,e = .returned (.pointer (some ⟨g,0,none⟩))∧w.heap.size≤g∧d8 w.heap.size w.heap.size w' g none 0 ⟨d,[],0⟩∧ap [] w w'):=by
  refine hq.mono ?_
  rintro e w' ⟨g,he,h1,h2,h3⟩
  exact⟨g,he,h1,⟨h2,aJ.nil ..,⟨⟨(show(0:Int)≤0 from by decide),(show(0:Int)<65536 from by decide)⟩,(fun x hx=>by cases hx),.inl (show 0<6 from by decide)⟩,h3.size,cP,h3.size⟩,h3⟩
open Go.RowKit
section
variable {P:Program}{Q:Exit→Act→World→Prop}{n:Nat}{D:List Deferred}{F:Fr}{w:World}{c:Code}{l:Nat}
theorem E8(h:GC P c (Exit.noGoto Q) n D F w) : GC P (.scope c) Q n D F w:=⟨fun a ha=>wp_scope_straight (h.out a ha)⟩
theorem DZ(h:GQ Q .normal n D F w) : GC P (.label l) Q n D F w:=⟨fun a ha=>wp_label (h.out a ha)⟩
theorem gr(h:GQ Q .ret n D F w) : GQ (Exit.noGoto Q) .ret n D F w:=⟨fun a ha=>h.out a ha⟩
end
open Go.RowKit
abbrev dw (xs:List Int) : Prop:=∀ x,x∈xs→0≤x∧x<256
theorem nT{x:Int}(h:0≤x∧x<256) : ((UInt8.ofNat x.toNat).toNat:Int)=x:=by
  simp only[UInt8.toNat_ofNat']
  omega
theorem iD{xs:List Int}{j:Nat}(hj:j<xs.length)(hs:j<(strOfNums xs).size) : (strOfNums xs)[j]=UInt8.ofNat (xs.getD j 0).toNat:=by
  show(strOfNums xs).data[j]=_
  simp[strOfNums,List.getD_eq_getElem?_getD,List.getElem?_eq_getElem hj]
theorem qp{P:Program}{w:World}{ev:Operand→Value}{o:Oper}{x ix:Operand}{t:TypeId}{xs:List Int}{k:IntKind}{i:Int}(j:Nat)(ho:o.op = .index t x ix)(ht:P.underlying t=some .string)(hx:ev x = .string (strOfNums xs))(hi:ev ix = .int k i)(hr:dw xs)(hj:i=(j:Int))(hlt:j<xs.length) : (execOp ev o).run P w = .ok (.value (.int .u8 (xs.getD j 0))) w:=by
  subst hj
  have hs:j<(strOfNums xs).size:=by rw[strOfNums_size];exact hlt
  have h:=run_index_string (P:=P) w t (strOfNums xs) k (j:Int) ht
  rw[dif_pos (by omega)] at h
  have hg:xs.getD j 0∈xs:=by
    rw[List.getD_eq_getElem?_getD,List.getElem?_eq_getElem hlt]
    exact List.getElem_mem hlt
  unfold execOp
  simp only[ho,hx,hi,Sem.run_bind,h,Result.andThen,Sem.run_pure]
  have e:((strOfNums xs)[((j:Nat) : Int).toNat]'(by simpa using hs))=UInt8.ofNat (xs.getD j 0).toNat:=by
    simp only[Int.toNat_natCast]
    exact iD hlt hs
  rw[e,nT (hr _ hg)]
theorem fB(xs:List Int)(a b:Nat)(hb:b≤xs.length) : (strOfNums xs).extract a b=strOfNums ((xs.take b).drop a):=by
  apply ByteArray.ext
  rw[ByteArray.data_extract]
  apply Array.toList_inj.1
  rw[Array.toList_extract]
  simp[strOfNums,List.extract,List.map_drop,List.map_take,List.drop_take]
theorem nc{P:Program}{w:World}{ev:Operand→Value}{o:Oper}{x y:Operand}{t:TypeId}{xs:List Int}{k:IntKind}{i:Int}(j:Nat)(ho:o.op = .slice t x (some y) none none)(ht:P.underlying t=some .string)(hx:ev x = .string (strOfNums xs))(hy:ev y = .int k i)(hj:i=(j:Int))(hlt:j≤xs.length) : (execOp ev o).run P w = .ok (.value (.string (strOfNums (xs.drop j)))) w:=by
  subst hj
  have hu:(underlying t).run P w = .ok .string w:=run_underlying ht w
  have h:=run_slice_string_l (P:=P) w t (strOfNums xs) ht k (j:Int) (by omega) (by rw[strOfNums_size];omega)
  rw[strOfNums_size,fB _ _ _ (Nat.le_refl _),List.take_length,Int.toNat_natCast] at h
  unfold execOp
  simp only[ho,Option.map_some,Option.map_none,hx,hy,Instr.sliceAt,Sem.run_bind,hu,h,Result.andThen,Sem.run_pure]
theorem tS{P:Program}{w:World}{ev:Operand→Value}{o:Oper}{x y:Operand}{t:TypeId}{xs:List Int}{k:IntKind}{i:Int}(j:Nat)(ho:o.op = .slice t x none (some y) none)(ht:P.underlying t=some .string)(hx:ev x = .string (strOfNums xs))(hy:ev y = .int k i)(hj:i=(j:Int))(hlt:j≤xs.length) : (execOp ev o).run P w = .ok (.value (.string (strOfNums (xs.take j)))) w:=by
  subst hj
  have hu:(underlying t).run P w = .ok .string w:=run_underlying ht w
  have h:=run_slice_string_h (P:=P) w t (strOfNums xs) ht k (j:Int) (by omega) (by rw[strOfNums_size];omega)
  rw[Int.toNat_natCast,fB _ _ _ hlt,List.drop_zero] at h
  unfold execOp
  simp only[ho,Option.map_some,Option.map_none,hx,hy,Instr.sliceAt,Sem.run_bind,hu,h,Result.andThen,Sem.run_pure]
theorem mt(xs ys:List Int) : strOfNums xs++strOfNums ys=strOfNums (xs++ys):=by
  apply ByteArray.ext
  simp[strOfNums,ByteArray.data_append]
theorem qn{P:Program}{w:World}{ev:Operand→Value}{o:Oper}{x y:Operand}{t t':TypeId}{a b:ByteArray}{xs ys:List Int}(ho:o.op = .binOp .add t x y t')(hx:ev x = .string a)(hy:ev y = .string b)(ha:a=strOfNums xs)(hb:b=strOfNums ys)(hl:xs.length+ys.length≤1048576) : (execOp ev o).run P w = .ok (.value (.string (strOfNums (xs++ys)))) w:=by
  subst ha hb
  have hg:eqGuard .add t x y (.string (strOfNums xs)) (.string (strOfNums ys))=pure ():=rfl
  unfold execOp
  simp only[ho,hx,hy,hg,Sem.run_bind,Sem.run_pure,Result.andThen]
  have h:(binOp .add t (.string (strOfNums xs)) (.string (strOfNums ys))).run P w = .ok (.string (strOfNums (xs++ys))) w:=by
    show(Op.stringOp .add _ _).run P w=_
    unfold Op.stringOp
    rw[← mt]
    have:¬ ((((strOfNums xs).size+(strOfNums ys).size:Nat) : Int) > IntKind.i64.max):=by
      rw[strOfNums_size,strOfNums_size]
      show ¬ (((xs.length+ys.length:Nat) : Int) > 9223372036854775807)
      omega
    dsimp only
    rw[if_neg this]
    rfl
  rw[h]
theorem pW{xs ys:List Int}(h:dw xs)(k:dw ys) : dw (xs++ys):=fun x hx=>by
  rcases List.mem_append.1 hx with h1|h1
  · exact h x h1
  · exact k x h1
theorem jG{xs:List Int}(h:dw xs)(j:Nat) : dw (xs.drop j):=fun x hx=>h x (List.mem_of_mem_drop hx)
theorem mT{xs:List Int}(h:dw xs)(j:Nat) : dw (xs.take j):=fun x hx=>h x (List.mem_of_mem_take hx)
theorem zU{xs ys:List Int}(hx:dw xs)(hy:dw ys) : ((strOfNums xs).toList==(strOfNums ys).toList)=decide (xs=ys):=by
  have e:∀ zs:List Int,(strOfNums zs).toList=zs.map fun n=>UInt8.ofNat n.toNat:=fun zs=>by
    rw[ByteArray.toList_eq]
    rfl
  rw[e,e]
  by_cases h:xs=ys
  · subst h;simp
  · rw[decide_eq_false h,beq_eq_false_iff_ne]
    exact fun k=>h (jC xs ys hx hy k)
def iY (base:Nat)(w:World)(v:Value)(xs:List Int) : Prop:=∃ g cap cur n,v = .slice (some ⟨g,0,none⟩) xs.length cap∧base≤g∧w.heap[g]? = some (.cells cur 5 (n,n+1))∧xs.length≤n∧xs.length≤cap∧cap≤maxLen∧cur.toList.take xs.length=xs.map (Value.int .u8)∧dw xs
theorem iY.rd{base:Nat}{w:World}{v:Value}{xs:List Int}(h:iY base w v xs) : aR true w v xs:=by
  obtain⟨g,cap,cur,n,rfl,hb,hh,h1,h2,h3,h4,h5⟩:=h
  refine⟨_,_,rfl,h2,h3,(fun hA=>by cases hA),fun hp=>⟨g,0,cur,_,_,rfl,hh,(fun _=>⟨rfl,Nat.zero_le _⟩),fun j x hj=>?_⟩⟩
  refine⟨[.int .u8 x],rfl,⟨rfl,h5 x (List.mem_of_getElem? hj)⟩,fun i u hi=>?_⟩
  cases i with
  | succ i=>simp at hi
  | zero =>
    have hi:Value.int .u8 x=u:=by simpa using hi
    subst hi
    have h6:(xs.map (Value.int .u8))[j]? = some (.int .u8 x):=by rw[List.getElem?_map,hj];rfl
    rw[← h4,List.getElem?_take] at h6
    split at h6
    · simpa using h6
    · cases h6
theorem iY.ge{base g m c:Nat}{w:World}{xs:List Int}(h:iY base w (.slice (some ⟨g,0,none⟩) m c) xs) : base≤g:=by
  obtain⟨g',cap,cur,n,hv,hb,_⟩:=h
  injection hv with e1 _ _
  injection e1 with e1
  injection e1 with e1 _
  rw[e1]
  exact hb
theorem iY.shape{base:Nat}{w:World}{v:Value}{xs:List Int}(h:iY base w v xs) : ∃ g cp,v = .slice (some ⟨g,0,none⟩) xs.length cp:=by
  obtain⟨g,cap,cur,n,hv,_⟩:=h
  exact⟨g,cap,hv⟩
theorem pG{P:Program}{w:World}{src dst e:TypeId}{xs:List Int}(hs:P.underlying src=some .string)(hd:P.underlying dst=some (.slice e))(he:P.underlying e=some (.int .u8))(hte:e=5)(hr:dw xs)(hl:xs.length≤1048576) :
    ∃ cp w',(convert src dst (.string (strOfNums xs))).run P w = .ok (.slice (some ⟨w.heap.size,0,none⟩) xs.length cp) w'∧iY w.heap.size w' (.slice (some ⟨w.heap.size,0,none⟩) xs.length cp) xs∧ap [] w w':=by
  subst hte
  have h:=Lib.run_convert_string_bytes (P:=P) w src dst _ (strOfNums xs) hs hd he
  rw[strOfNums_size] at h
  refine⟨_,_,h,⟨_,_,_,_,rfl,Nat.le_refl _,Lib.bytesWorld_at_new w _ (strOfNums xs),?_,?_,?_,?_,hr⟩,?_⟩
  · simp[Lib.bytesCells,strOfNums]
  · exact grownCap_ge ..
  · exact grownCap_le_maxLen _ _ _ _ (by unfold maxLen;omega)
  · simp only[Lib.bytesCells]
    rw[Array.toList_append,List.take_append_of_le_length (by simp[strOfNums])]
    rw[List.take_of_length_le (by simp[strOfNums])]
    simp only[strOfNums,Array.toList_map,List.map_map]
    apply List.map_congr_left
    intro x hx
    show Value.int .u8 _=_
    rw[nT (hr x hx)]
  · exact⟨rfl,rfl,rfl,by rw[Lib.bytesWorld_size];omega,fun k hk _=>Lib.bytesWorld_at_old w _ _ k hk⟩
section
variable {P:Program}{n:Nat}{D:List Deferred}{F:Fr}{w:World}{K:Fr→World→Prop}{Q:Exit→Act→World→Prop}{d:Option Tmp}{t:TypeId}{s:String}{af:Array Edge}{gu:Option (Nat × Bool)}
theorem nG{a:Act}{o:Oper}{N:Option Tmp}{K:Act→World→Prop}{w1:World}(v:Value)(hN:o.dst=N)(hr:(execOp a.eval o).run P w = .ok (.value v) w1)(h:K (a.put N v) w1) : OW P o a w K Q:=by
  refine OW.mk ?_
  subst hN
  unfold Oper.wp
  rw[hr]
  exact h
theorem DX{src dst:TypeId}{x:Operand}{xs:List Int}(hs:P.underlying src=some .string)(hd:P.underlying dst=some (.slice 5))(he:P.underlying 5=some (.int .u8))(hr:dw xs)(hl:xs.length≤1048576)
    (h:∀ A cp w',iY w.heap.size w' (.slice A xs.length cp) xs→ap [] w w'→K (pt d (.slice A xs.length cp) F) w') (hx:dM F x=some (.string (strOfNums xs)):=by kernel_rfl) (hk:ey n d=true:=by kernel_rfl) : OG P ⟨d,.convert src dst x,t,s,af,gu⟩ n D F w K Q:=by
  obtain⟨cp,w',h1,h2,h3⟩:=pG (P:=P) (w:=w) hs hd he rfl hr hl
  refine⟨fun a ha K' hK=>nG _ rfl (w1:=w') ?_ (hK _ _ _ (h _ _ _ h2 h3) (ha.put hk))⟩
  have hx':=ha.ev hx
  unfold execOp
  simp only[hx',Sem.run_bind,h1,Result.andThen,Sem.run_pure]
theorem Dl{ty:TypeId}{x:Operand}{sv:ByteArray}(hs:P.underlying ty=some .string)(h:∀ g w',w.heap.size≤g→w'.heap[g]? = some (.stringIter sv 0)→ap [] w w'→K (pt d (.pointer (some ⟨g,0,none⟩)) F) w')
    (hx:dM F x=some (.string sv):=by kernel_rfl) (hk:ey n d=true:=by kernel_rfl) : OG P ⟨d,.range ty x,t,s,af,gu⟩ n D F w K Q:=by
  refine⟨fun a ha K' hK=>nG (.pointer (some ⟨w.heap.size,0,none⟩)) rfl (w1:=w.alloc (.stringIter sv 0)) ?_ (hK _ _ _ (h _ _ (Nat.le_refl _) (dr _ _) ((ap.refl _ _).alloc _)) (ha.put hk))⟩
  have hx':=ha.ev hx
  unfold execOp
  simp only[hx',Sem.run_bind,run_range_string w ty sv hs,Result.andThen,Sem.run_pure]
  rfl
theorem tD{xs:List Int}(hr:dw xs)(h0:0<xs.length) : ((((Utf8.decode (strOfNums xs) 0).1:Nat) : Int)=58↔xs.getD 0 0=58):=by
  have hs:0<(strOfNums xs).size:=by rw[strOfNums_size];exact h0
  have hm:xs.getD 0 0∈xs:=by
    rw[List.getD_eq_getElem?_getD,List.getElem?_eq_getElem h0]
    exact List.getElem_mem h0
  have hb:=hr _ hm
  have h1:((strOfNums xs).get! 0).toNat=(xs.getD 0 0).toNat:=by
    have e:(strOfNums xs).get! 0=(strOfNums xs)[0]:=by
      show(strOfNums xs).data[0]! = _
      rw[getElem!_pos (strOfNums xs).data 0 hs]
      rfl
    rw[e,iD h0 hs]
    simp only[UInt8.toNat_ofNat']
    omega
  unfold Utf8.decode
  simp only[Nat.zero_add,h1,Utf8.runeError]
  split
  · omega
  · split
    · split
      · rename_i h2 h3 h4;simp only;omega
      · simp only;omega
    · split
      · split
        · rename_i h2 h3 h4 h5;simp only[Bool.and_eq_true,decide_eq_true_eq] at h5;simp only;omega
        · simp only;omega
      · split
        · split
          · rename_i h2 h3 h4 h5 h6;simp only[Bool.and_eq_true,decide_eq_true_eq] at h6;simp only;omega
          · simp only;omega
        · simp only;omega
theorem DT{x:Operand}{xs:List Int}{r:Nat}(hr:dw xs)(h0:0<xs.length)(B:w.heap[r]? = some (.stringIter (strOfNums xs) 0))(h:∀ c w',(c=58↔xs.getD 0 0=58)→ap [r] w w'→K (pt d (.tuple #[.bool true,.int .i64 0,.int .i32 c]) F) w')
    (hx:dM F x=some (.pointer (some ⟨r,0,none⟩)):=by kernel_rfl) (hk:ey n d=true:=by kernel_rfl) : OG P ⟨d,.next x true,t,s,af,gu⟩ n D F w K Q:=by
  have hlt:=ai B
  have hrun:=Lib.run_next_any_at (P:=P) w r (strOfNums xs) 0 t B (by rw[strOfNums_size];exact h0)
  refine⟨fun a ha K' hK=>nG _ rfl (w1:=w.iterAt r (strOfNums xs) (0+(Utf8.decode (strOfNums xs) 0).2)) ?_ (hK _ _ _ (h (((Utf8.decode (strOfNums xs) 0).1:Nat) : Int) _ (tD hr h0) ?_) (ha.put hk))⟩
  · have hx':=ha.ev hx
    unfold execOp
    simp only[hx',Sem.run_bind,hrun,Result.andThen,Sem.run_pure]
    rfl
  · refine⟨rfl,rfl,rfl,?_,fun k hk hn=>?_⟩
    · simp[World.iterAt]
    · have:r≠k:=fun e=>hn (by simp[e])
      simp[World.iterAt,Array.getElem?_setIfInBounds,this]
end
open Go.RowKit
def iy (xs ys:List Int) : Bool:=decide (((ys.length:Nat) : Int)≤((xs.length:Nat) : Int))&&decide (xs.drop (((xs.length:Nat) : Int)-((ys.length:Nat) : Int)).toNat=ys)
theorem yY{m m2:Md}{A B:Option Addr}{n n2 c c2:Nat}{xs ys:List Int}{w:World}(h1:aR m w (.slice A n c) xs)(h2:aR m2 w (.slice B n2 c2) ys) : Calls Tryz.prog 79 #[.slice A n c,.slice B n2 c2] w (bH (.bool (decide (xs=ys))) w):=by
 refine en 10 Tryz.func79 rfl<|sg<|Pl 1<|ng<|Pl 1<|L0<|iq (.string (strOfNums xs)) (ck (A:=A) (n:=n) (c:=c) rfl (by kernel_rfl) Tryz.underlying27 Tryz.underlying5 Tryz.underlying9 h1)<|Pl 1<|L0<|iq (.string (strOfNums ys)) (ck (A:=B) (n:=n2) (c:=c2) rfl (by kernel_rfl) Tryz.underlying27 Tryz.underlying5 Tryz.underlying9 h2)<|L0<|iq (.bool (decide (xs=ys))) (e8 (a:=(strOfNums xs)) (b:=(strOfNums ys)) rfl (by kernel_rfl) (by kernel_rfl) (iF h1 h2))<|Pl 1<|nl<|?_
 refine tn<|rt<|rr (.bool (decide (xs=ys)))<|?_
 exact⟨rfl,(ap.refl [] _)⟩
theorem xb{m m2:Md}{A B:Option Addr}{c c2:Nat}{xs ys:List Int}{w:World}(h1:aR m w (.slice A xs.length c) xs)(h2:aR m2 w (.slice B ys.length c2) ys) : Calls Tryz.prog 55 #[.slice A xs.length c,.slice B ys.length c2] w (bH (.bool (iy xs ys)) w):=by
 have hz1:=aP.len h1
 have hz2:=aP.len h2
 have hz3:=aP.cap h1
 refine en 21 Tryz.func55 rfl<|sg<|Pl 1<|ng<|Pl 6<|bl 10 ((decide (((ys.length:Nat) : Int)≤((xs.length:Nat) : Int)))) (fun a=>?_) (fun a=>?_)
 have b:=of_decide_eq_true a
 refine Pl 5<|L1<|Oi (((xs.length:Nat) : Int)-((ys.length:Nat) : Int))<|qN (io (P:=Tryz.prog) 27 5 1 Tryz.underlying27 rfl rfl A xs.length c (lo:=(((xs.length:Nat) : Int)-((ys.length:Nat) : Int))) (((((xs.length:Nat) : Int)-((ys.length:Nat) : Int))).toNat) (by omega) (by omega)) fun d hrun12 e=>L1<|iq (.slice d (xs.length-(((((xs.length:Nat) : Int)-((ys.length:Nat) : Int))).toNat)) (c-(((((xs.length:Nat) : Int)-((ys.length:Nat) : Int))).toNat))) (e7 (kl:=.i64) (k:=(((xs.length:Nat) : Int)-((ys.length:Nat) : Int))) (A:=A) (n:=xs.length) (c:=c) rfl Tryz.underlying27 (by kernel_rfl) (by kernel_rfl) (hrun12 _ _))<|Pl 1<|L1<|Oc<|m1 (yY (xs:=(xs.drop (((((xs.length:Nat) : Int)-((ys.length:Nat) : Int))).toNat))) (ys:=ys) (e _ _ _ _ _ h1) h2) fun g f=>Pl 2<|nt<|rt<|rr (.bool (decide ((xs.drop (((((xs.length:Nat) : Int)-((ys.length:Nat) : Int))).toNat))=ys)))<|?_
 have hs:(decide ((xs.drop (((((xs.length:Nat) : Int)-((ys.length:Nat) : Int))).toNat))=ys))=iy xs ys:=by unfold iy;simp only[a,bt,Bool.true_and,Bool.false_and,Bool.and_true,Bool.and_false]
 rw[hs]
 exact⟨rfl,f⟩
 have b:=of_decide_eq_false a
 refine Pl 11<|nt<|rt<|rr (.bool false)<|?_
 have hs:false=iy xs ys:=by unfold iy;simp only[a,bt,Bool.true_and,Bool.false_and,Bool.and_true,Bool.and_false]
 rw[hs]
 exact⟨rfl,(ap.refl [] _)⟩
theorem yK{m m2:Md}{u v:Value}{xs ys:List Int}{w:World}(h1:aR m w u xs)(h2:aR m2 w v ys) : Calls Tryz.prog 55 #[u,v] w (bH (.bool (iy xs ys)) w):=by
  obtain⟨A,c,rfl,_,_⟩:=h1.shape
  obtain⟨B,c2,rfl,_,_⟩:=h2.shape
  exact xb h1 h2
end Go.Proofs.YtdkhbcefkfgbdaaGreat
namespace Go.Proofs.YtdkhbcefkfgbdaaGreat
def ji (b:List Int) : Nat→Int
  | 0=>0
  | k+1=>(ji b k+b.getD k 0)%256
def rV (b:List Int) : Int:=ji b b.length
def cY (b:List Int) : Int:=(0-rV b)%256
def fK (b:List Int) : Bool:=decide (0<((b.length:Nat) : Int))&&(cY b==0)
theorem wj(b:List Int) : ∀ k,0≤ji b k∧ji b k<256
  | 0=>by unfold ji;omega
  | k+1=>by unfold ji;omega
def e6 (n:Int) : Int:=if n<10 then 48+n else 55+n
def cw (c:Int) : Int:=if 48≤c∧c≤57 then c-48 else if 65≤c∧c≤70 then c-55 else -1
def dN:List Int→List Int
  | []=>[]
  | c :: b=>e6 (c/16) :: e6 (c%16) :: dN b
def bY:List Int→Option (List Int)
  | []=>some []
  | [_]=>none
  | a :: b :: r=>if cw a<0∨cw b<0 then none else (bY r).map fun l=>(16*cw a+cw b)%256 :: l
theorem jg{n:Int}(h:0≤n∧n<16) : 48≤e6 n∧e6 n≤70:=by unfold e6;split<;>omega
theorem tR{n:Int}(h:0≤n∧n<16) : cw (e6 n)=n:=by
  unfold e6
  split<;>unfold cw
  · rw[if_pos (by omega)];omega
  · rw[if_neg (by omega),if_pos (by omega)];omega
theorem jO{c:Int}(h:0≤cw c) : e6 (cw c)=c∧cw c<16:=by
  unfold cw at h ⊢
  split at h
  · rename_i h1
    rw[if_pos h1]
    unfold e6
    rw[if_pos (by omega)]
    omega
  · rename_i h1
    split at h
    · rename_i h2
      rw[if_neg h1,if_pos h2]
      unfold e6
      rw[if_neg (by omega)]
      omega
    · omega
theorem nA(c:Int) : cw c<16∧-1≤cw c:=by unfold cw;split;omega;split<;>omega
theorem eF:∀ b:List Int,(dN b).length=2*b.length
  | []=>rfl
  | c :: b=>by simp only[dN,List.length_cons,eF b];omega
theorem qk:∀ a b:List Int,dN (a++b)=dN a++dN b
  | [],b=>rfl
  | c :: a,b=>by simp only[List.cons_append,dN,qk a b]
theorem gF:∀ {s x:List Int},bY s=some x→s=dN x∧∀ y,y∈x→0≤y∧y<256
  | [],x,h=>by
    injection h with h
    subst h
    exact⟨rfl,fun y hy=>by cases hy⟩
  | [_],x,h=>by cases h
  | a :: b :: r,x,h=>by
    simp only[bY] at h
    split at h
    · cases h
    · rename_i hd
      cases hr:bY r with
      | none=>rw[hr] at h;cases h
      | some l =>
        rw[hr] at h
        injection h with h
        obtain⟨h1,h2⟩:=gF hr
        have ha:=jO (c:=a) (by omega)
        have hb:=jO (c:=b) (by omega)
        subst h
        refine⟨?_,fun y hy=>?_⟩
        · simp only[dN]
          rw[show(16*cw a+cw b)%256/16=cw a from by omega,show(16*cw a+cw b)%256%16=cw b from by omega,ha.1,hb.1,← h1]
        · rcases List.mem_cons.1 hy with rfl | hy
          · omega
          · exact h2 y hy
theorem rq{xs:List Int}{k:Nat}(h:2*k+1<xs.length)(ha:¬ cw (xs.getD (2*k) 0)<0)(hb:¬ cw (xs.getD (2*k+1) 0)<0) : bY (xs.drop (2*k))=(bY (xs.drop (2*(k+1)))).map fun l=>[(16*cw (xs.getD (2*k) 0)+cw (xs.getD (2*k+1) 0))%256]++l:=by
  have e1:xs.getD (2*k) 0=xs[2*k]:=by rw[List.getD_eq_getElem?_getD,List.getElem?_eq_getElem (by omega)];rfl
  have e2:xs.getD (2*k+1) 0=xs[2*k+1]:=by rw[List.getD_eq_getElem?_getD,List.getElem?_eq_getElem h];rfl
  rw[List.drop_eq_getElem_cons (show 2*k<xs.length by omega),List.drop_eq_getElem_cons h,← e1,← e2]
  simp only[bY]
  rw[if_neg (by omega),show 2*k+1+1=2*(k+1) by omega]
  rfl
theorem uT{xs:List Int}{k:Nat}(h:2*k+1<xs.length)(hd:cw (xs.getD (2*k) 0)<0∨cw (xs.getD (2*k+1) 0)<0) : bY (xs.drop (2*k))=none:=by
  have e1:xs.getD (2*k) 0=xs[2*k]:=by rw[List.getD_eq_getElem?_getD,List.getElem?_eq_getElem (by omega)];rfl
  have e2:xs.getD (2*k+1) 0=xs[2*k+1]:=by rw[List.getD_eq_getElem?_getD,List.getElem?_eq_getElem h];rfl
  rw[List.drop_eq_getElem_cons (show 2*k<xs.length by omega),List.drop_eq_getElem_cons h,← e1,← e2]
  simp only[bY]
  rw[if_pos hd]
theorem mz:∀ {xs:List Int},xs.length%2≠0→bY xs=none
  | [],h=>by simp at h
  | [_],_=>rfl
  | a :: b :: r,h=>by
    simp only[bY]
    split
    · rfl
    · rw[mz (by simp only[List.length_cons] at h;omega)]
      rfl
theorem mu{s x:List Int}(h:bY s=some x) : s.length=2*x.length:=by
  obtain⟨h1,_⟩:=gF h
  rw[h1,eF]
theorem tN{xs L:List Int}{k:Nat}(h:bY xs=(bY (xs.drop (2*k))).map fun l=>L++l)(h1:¬ 2*k<xs.length) : bY xs=some L:=by
  rw[List.drop_eq_nil_of_le (by omega)] at h
  rw[h]
  simp[bY]
theorem rU{xs L:List Int}{k:Nat}(h:bY xs=(bY (xs.drop (2*k))).map fun l=>L++l)(h2:2*k+1<xs.length)(ha:¬ cw (xs.getD (2*k) 0)<0)(hb:¬ cw (xs.getD (2*k+1) 0)<0) : bY xs=(bY (xs.drop (2*(k+1)))).map fun l=>(L++[(16*cw (xs.getD (2*k) 0)+cw (xs.getD (2*k+1) 0))%256])++l:=by
  rw[h,rq h2 ha hb]
  cases bY (xs.drop (2*(k+1))) with
  | none=>rfl
  | some l=>simp
theorem xN{xs L:List Int}{k:Nat}(h:bY xs=(bY (xs.drop (2*k))).map fun l=>L++l)(h2:2*k+1<xs.length)(hd:cw (xs.getD (2*k) 0)<0∨cw (xs.getD (2*k+1) 0)<0) : bY xs=none:=by
  rw[h,uT h2 hd]
  rfl
theorem v6(b:List Int)(k:Nat)(h:k<b.length) : dN (b.take (k+1))=(dN (b.take k)++[e6 (b.getD k 0/16)])++[e6 (b.getD k 0%16)]:=by
  rw[List.take_succ_eq_append_getElem h,qk,List.getD_eq_getElem?_getD,List.getElem?_eq_getElem h]
  simp[dN]
open Go.RowKit
theorem yb{w:World}{g:Nat}{c s:Int}(hg:w.heap[g]? = some (.cells #[vB s] 5 (0,0))) : Calls Tryz.prog 183 #[vB c,vP g 0] w (fun e w'=>e = .returned (.tuple #[])∧w'.heap[g]? = some (.cells #[vB ((s+c)%256)] 5 (0,0))∧ap [g] w w'):=by
 exact en 6 Tryz.func183 rfl<|go<|ax hg 0<|Pl 2<|L0<|cv hg 0 #[vB ((s+c)%256)] fun d a b=>nl<|rm (.tuple #[])<|⟨rfl,a,b⟩
theorem tM{m:Md}{A:Option Addr}{cp:Nat}{b:List Int}{w0 w:World}{g:Nat}(hu0:ap [] w0 w)(hg0:w0.heap.size≤g)(hsl:aR m w0 (.slice A b.length cp) b)(hg:w.heap[g]? = some (.cells #[vB (ji b 0)] 5 (0,0))) :
    Calls Tryz.prog 182 #[.slice A b.length cp,.func (.func 183) #[] #[vP g 0]] w (fun e w'=>e = .returned (.tuple #[])∧w'.heap[g]? = some (.cells #[vB (rV b)] 5 (0,0))∧ap [] w0 w'∧w.heap.size≤w'.heap.size):=by
 have hln:=aP.len hsl
 refine en 16 Tryz.func182 rfl<|ay 3<|bk<|?_
 refine js (fun x=>[(1,.func (.func 183) #[] #[vP g 0]),(6,.slice A b.length cp),(7,vI ((b.length:Nat) : Int)),(8,vI ((x:Nat) : Int))]) (fun(x:Nat) w'=>ap [] w0 w'∧w.heap.size≤w'.heap.size∧w'.heap[g]? = some (.cells #[vB (ji b x)] 5 (0,0))∧(x≤b.length)) (fun x=>b.length-x) 0 ⟨hu0,lr,hg,(by(try dsimp only);omega)⟩ ?_
 rintro k j ⟨a,f,l,n⟩
 refine ip [(1,.func (.func 183) #[] #[vP g 0]),(6,.slice A b.length cp),(7,vI ((b.length:Nat) : Int)),(8,vI ((k:Nat) : Int))] ?_
 have h:j.heap[g]? = some (.cells #[vB (ji b k)] 5 (0,0)):=l
 have y:k≤b.length:=n
 refine ay 1<|sq<|cb ((decide (((k:Nat) : Int)<((b.length:Nat) : Int)))) (fun d=>?_) (fun d=>?_)
 have o:=of_decide_eq_true d
 refine bU<|sq<|bk<|sg<|?_
 refine jc (aR.at_ (aR.old hsl a) k (by omega)) fun q r s t z=>L0<|pf b.length k s (by omega)<|L0<|m8 (p:=⟨q,r+k,none⟩) (v:=vB (b.getD k 0)) t<|al 1<|go<|Pl 2<|L0<|fy #[] #[vP g 0] (args:=#[vB (b.getD k 0),vP g 0])<|m2 (yb (c:=(b.getD k 0)) h) fun B u i=>nl<|bn<|tn<|go<|bA (((k:Nat) : Int)+1)<|?_
 refine Pl 1<|nl<|?_
 exact fM (k+1) ⟨(ud a i hg0),(le f i.size),u,(by(try dsimp only);omega)⟩ (by omega)
 have o:=of_decide_eq_false d
 refine xt<|tx<|tx<|bx<|rm (.tuple #[])<|?_
 have hk:k=b.length:=by omega
 subst hk
 exact⟨rfl,h,a,f⟩
theorem rb{m:Md}{A:Option Addr}{cp:Nat}{b:List Int}{w:World}(hsl:aR m w (.slice A b.length cp) b) :
    Calls Tryz.prog 116 #[.slice A b.length cp] w (bH (vB (cY b)) w):=by
 refine en 9 Tryz.func116 rfl<|au 1<|ng<|aL #[vB 0] fun h i a c d=>L0<|cv c 0 #[vB 0] fun j eo e=>aS 2<|?_
 exact aF<|m3 (tM (ud d e a) a hsl eo) fun k f g l=>ng<|ax f 0<|al 2<|rt<|rr (vB ((0-(rV b))%256))<|⟨rfl,g⟩
theorem mR{m:Md}{v:Value}{b:List Int}{w:World}(h:aR m w v b) : Calls Tryz.prog 116 #[v] w (bH (.int .u8 (cY b)) w):=by
  obtain⟨A,cp,rfl,_,_⟩:=h.shape
  exact rb h
theorem rR{m:Md}{A:Option Addr}{cp:Nat}{b:List Int}{w:World}(hsl:aR m w (.slice A b.length cp) b) :
    Calls Tryz.prog 82 #[.slice A b.length cp] w (bH (.bool (fK b)) w):=by
 refine en 11 Tryz.func82 rfl<|au 1<|aS 4<|bl 6 ((decide (0<(b.length:Int)))) (fun a=>?_) (fun a=>?_)
 have c:=of_decide_eq_true a
 refine Pl 1<|L1<|Oc (args:=#[.slice A b.length cp])<|m1 (mR hsl) fun e d=>al 3<|rt<|rr (.bool ((cY b)==0))<|?_
 have hs:fK b=((cY b)==0):=by unfold fK;(try simp only[a,bt]);all_goals rfl
 rw[hs]
 exact⟨rfl,d⟩
 have c:=of_decide_eq_false a
 refine al 5<|rt<|rr (.bool false)<|?_
 have hs:fK b=false:=by unfold fK;(try simp only[a,bt]);all_goals rfl
 rw[hs]
 exact⟨rfl,(ap.refl [] _)⟩
theorem uL{m:Md}{v:Value}{b:List Int}{w:World}(h:aR m w v b) : Calls Tryz.prog 82 #[v] w (bH (.bool (fK b)) w):=by
  obtain⟨A,cp,rfl,_,_⟩:=h.shape
  exact rR h
open Go.RowKit
theorem oF:∃ j,Tryz.prog.info? 251=some j∧j.size=2:=Option.map_eq_some_iff.1 (show(Tryz.prog.info? 251).map (·.size)=some 2 by kernel_rfl)
theorem nB(b:Nat)(w:World)(h0:w.cell? ⟨b,0,none⟩=some (.pointer none))(hsh:w.shape? b=some (251,2))(hfz:w.frozen? ⟨b,0,none⟩=false) :
    Calls Tryz.prog 270 #[.pointer (some ⟨b,0,none⟩)] w fun e w'=>e = .returned (.tuple #[])∧w'=w.setCell ⟨b,0,none⟩ (.pointer (some ⟨b,0,none⟩)):=by
  obtain⟨j,hj,hjs⟩:=oF
  go_enter Tryz.func270,Tryz.ntmps270
  go_wp2
  rw[Lib.run_to_unsafe w ⟨b,0,none⟩ Tryz.underlying249 Tryz.underlying255 hj (by rw[hjs];decide) hsh (Nat.zero_lt_succ 1)]
  simp only[Result.andThen]
  rw[Oper.upon_value]
  go_wp2
  rw[run_callFunc_extern Tryz.func271 (by kernel_rfl) (by kernel_rfl) (by kernel_rfl) (e:=Extern.AbiNoEscape.same) (by kernel_rfl)]
  rw[Lib.run_noEscape]
  simp only[Result.andThen]
  rw[Oper.upon_value]
  go_wp2
  rw[Lib.run_from_unsafe w ⟨b,0,none⟩ Tryz.underlying255 Tryz.underlying249 hj hsh (by kernel_rfl)]
  simp only[Result.andThen]
  rw[Oper.upon_value]
  go_wp2
  go_end0
  exact⟨rfl,rfl⟩
theorem pF(b:Nat)(w:World)(h0:w.cell? ⟨b,0,none⟩=some (.pointer (some ⟨b,0,none⟩))) :
    Calls Tryz.prog 270 #[.pointer (some ⟨b,0,none⟩)] w fun e w'=>e = .returned (.tuple #[])∧w'=w:=by
  obtain⟨j,hj,_⟩:=oF
  go_enter Tryz.func270,Tryz.ntmps270
  go_wp2
  rw[Lib.run_neq_ptr_same w _ Tryz.underlying249 hj]
  go_wp2
  go_end0
  exact⟨rfl,rfl⟩
theorem rf{w:World}{b:Nat}{p v:Value}(hp:p = .pointer none∨p = .pointer (some ⟨b,0,none⟩))(hb:w.heap[b]? = some (.cells #[p,v] 251 (0,0))) :
    Calls Tryz.prog 270 #[.pointer (some ⟨b,0,none⟩)] w fun e w'=>e = .returned (.tuple #[])∧w'.heap[b]? = some (.cells #[.pointer (some ⟨b,0,none⟩),v] 251 (0,0))∧ap [b] w w':=by
  have h0:w.cell? ⟨b,0,none⟩=some p:=(be hb 0).trans rfl
  rcases hp with rfl|rfl
  · refine(nB b w h0 (by simp[World.shape?,hb]) (ew hb 0)).mono ?_
    rintro e w' ⟨rfl,rfl⟩
    exact⟨rfl,(fC hb 0 _).trans rfl,(ap.refl _ _).setCell (Or.inl (by simp)) _⟩
  · refine(pF b w h0).mono ?_
    rintro e w' ⟨rfl,rfl⟩
    exact⟨rfl,hb,ap.refl _ _⟩
def lU:Array Value:=#[.int .u8 48,.int .u8 49,.int .u8 50,.int .u8 51,.int .u8 52,.int .u8 53,.int .u8 54,.int .u8 55,.int .u8 56,.int .u8 57,.int .u8 65,.int .u8 66,.int .u8 67,.int .u8 68,.int .u8 69,.int .u8 70]
theorem sU:∀ {j:Nat},j<16→lU[j]? = some (.int .u8 (e6 (j:Int)))
  | 0,_ | 1,_ | 2,_ | 3,_ | 4,_ | 5,_ | 6,_ | 7,_ | 8,_ | 9,_ | 10,_ | 11,_ | 12,_ | 13,_ | 14,_ | 15,_=>rfl
  | n+16,h=>by omega
theorem ow{i:Int}(h:0≤i∧i<16) : lU[i.toNat]? = some (.int .u8 (e6 i)):=by
  rw[sU (by omega),Int.toNat_of_nonneg h.1]
theorem wa{P:Program}{w:World}{ev:Operand→Value}{o:Oper}{x ix:Operand}{t e:TypeId}{k:IntKind}{i:Int}(j:Nat)(ho:o.op = .index t x ix)(ht:P.underlying t=some (.array 16 e))(hi:(P.info? e).map (·.size)=some 1)(hr:∀ w,(isAgg e).run P w = .ok false w)(hx:ev x = .agg lU)(hy:ev ix = .int k i)(hj:i=(j:Int))(hlt:j<16) : (execOp ev o).run P w = .ok (.value (.int .u8 (e6 (j:Int)))) w:=by
  subst hj
  obtain⟨i0,hi0,hs⟩:=Option.map_eq_some_iff.1 hi
  have h:=sU hlt
  unfold execOp
  have h2:(0:Int)≤(j:Int)∧(j:Int)<16:=by omega
  simp[ho,hx,hy,Instr.index,asIntOf,run_underlying ht,Result.andThen,h2,sizeOf,typeInfo,hi0,hs,part,h,hr,hlt]
def zX (B b:Nat)(L:List Int)(w:World) : Prop:=∃ p A cp,w.heap[b]? = some (.cells #[p,.slice A L.length cp] 251 (0,0))∧(p = .pointer none∨p = .pointer (some ⟨b,0,none⟩))∧cn B w (.slice A L.length cp) L
theorem zX.new{B b:Nat}{w:World}(hb:w.heap[b]? = some (.cells #[.pointer none,.slice none 0 0] 251 (0,0))) : zX B b [] w:=⟨_,_,_,hb,.inl rfl,aJ.nil ..⟩
def yV:Go.Shelf.Ren:=⟨fun | 169=>269 | n=>n,fun | 70=>249 | 9=>9 | 0=>0 | 72=>251 | 37=>27 | 127=>240 | 3=>3 | 5=>5 | n=>n,fun | n=>n⟩
theorem BK:Go.Proofs.Lays.n169 Tryz.prog yV:={
  mixed:=by kernel_rfl
  f169:=Tryz.func269.trans (congrArg some (by kernel_rfl))
  t0:=Tryz.underlying0
  a0:=Tryz.isAgg0
  z0:=Tryz.sizeOf0
  v0:=Tryz.zeroValue0
  t3:=Tryz.underlying3
  a3:=Tryz.isAgg3
  z3:=Tryz.sizeOf3
  v3:=Tryz.zeroValue3
  t9:=Tryz.underlying9
  a9:=Tryz.isAgg9
  z9:=Tryz.sizeOf9
  v9:=Tryz.zeroValue9
  t37:=Tryz.underlying27
  a37:=Tryz.isAgg27
  z37:=Tryz.sizeOf27
  v37:=Tryz.zeroValue27
  t70:=Tryz.underlying249
  a70:=Tryz.isAgg249
  z70:=Tryz.sizeOf249
  v70:=Tryz.zeroValue249
  t72:=Tryz.underlying251
  a72:=Tryz.isAgg251
  z72:=Tryz.sizeOf251
  v72:=Tryz.zeroValue251
  t127:=Tryz.underlying240
  a127:=Tryz.isAgg240
  z127:=Tryz.sizeOf240
  v127:=Tryz.zeroValue240 }
theorem AJ:Builder.Extra Tryz.prog yV:={
  sizeBuilder:=by kernel_rfl
  liesBuilder:=by kernel_rfl
  t5:=Tryz.underlying5
  a5:=Tryz.isAgg5
  z5:=Tryz.sizeOf5
  v5:=Tryz.zeroValue5
  infoByte:=by kernel_rfl
  cellsByte:=by kernel_rfl
  sizeByte:=by kernel_rfl
  neB5:=by decide }
theorem tH{L:List Int}(h:dw L) : Lib.byteCells (L.map fun n=>UInt8.ofNat n.toNat)=L.map (Value.int .u8):=by
  unfold Lib.byteCells
  rw[List.map_map]
  apply List.map_congr_left
  intro x hx
  show Value.int .u8 _=_
  rw[nT (h x hx)]
theorem rA{w0 w:World}{b:Nat}{L:List Int}(hu:ap [] w0 w)(hg:w0.heap.size≤b)(h:zX w0.heap.size b L w)(hr:dw L) :
    Calls Tryz.prog 269 #[.pointer (some ⟨b,0,none⟩)] w fun e w'=>e = .returned (.string (strOfNums L))∧ap [] w0 w':=by
  obtain⟨p,A,cp,hb,hp,ho⟩:=h
  have h1:=dW (enc:=Value.int .u8) (fun _ _ _ h=>h.1) ho
  have h2:Lib.BuilderAt 251 5 w0.heap.size b p (Lib.byteCells (L.map fun n=>UInt8.ofNat n.toNat)) w:=by
    rw[tH hr]
    refine⟨hg,_,hb,by rw[List.length_map];exact h1,fun hq=>?_⟩
    rcases h1.2 with⟨hv,_⟩|⟨g',cap,cur,hv,_,hh,_⟩
    · rw[hv] at hq;cases hq
    · rw[hv] at hq
      have e:g'=b:=by simpa [Value.ownBlock] using hq
      subst e
      rw[hb] at hh
      injection hh with hh
      injection hh with _ h5 _
      exact absurd h5 (by decide)
  have h3:Lib.IsBuilder (yV.t 72) (yV.t 5) w0.heap.size b (Lib.byteCells (L.map fun n=>UInt8.ofNat n.toNat)) w:=by
    rcases hp with rfl|rfl
    · exact Or.inl h2
    · exact Or.inr h2
  refine(Any.Builder_String_any BK AJ _ _ _ _ h3 hu.size).mono ?_
  rintro e w' ⟨rfl,hbel⟩
  exact⟨rfl,hu.os▸hbel.os,hu.tape▸hbel.tape,hu.output▸hbel.output,Nat.le_trans hu.size hbel.size,fun k hk hn=>(hbel.block k hk).trans (hu.block k hk hn)⟩
open Go.RowKit
theorem lV{w:World}:Calls Tryz.prog 181 #[] w (bH (.agg lU) w):=by
 refine en 2 Tryz.func181 rfl<|sg<|aL #[vB 0,vB 0,vB 0,vB 0,vB 0,vB 0,vB 0,vB 0,vB 0,vB 0,vB 0,vB 0,vB 0,vB 0,vB 0,vB 0] fun e f a b c=>aS 1<|aI b #[vB 48,vB 49,vB 50,vB 51,vB 52,vB 53,vB 54,vB 55,vB 56,vB 57,vB 65,vB 66,vB 67,vB 68,vB 69,vB 70] fun g eo d=>qQ<|Bx eo<|?_
 exact⟨rfl,(ud c d a)⟩
theorem xc{c:Int}{n:Nat}(h:∀ j:Nat,j<n→e6 (j:Int)≠c)(q:(e6 ((n:Nat) : Int)==c)=false) : ∀ j:Nat,j<n+1→e6 (j:Int)≠c:=fun j hj=>by
  by_cases e:j=n
  · subst e;simpa using q
  · exact h j (by omega)
theorem Au{c:Int}{n:Nat}(hn:n<16)(q:(e6 ((n:Nat) : Int)==c)=true) : cw c=((n:Nat) : Int):=by
  have e:e6 ((n:Nat) : Int)=c:=by simpa using q
  rw[← e]
  exact tR (by omega)
theorem x8{c:Int}{n:Nat}(hn:n=16)(h:∀ j:Nat,j<n→e6 (j:Int)≠c) : cw c = -1:=by
  by_cases e:0≤cw c
  · have h1:=jO e
    exact absurd (by rw[Int.toNat_of_nonneg e];exact h1.1) (h (cw c).toNat (by omega))
  · have:=nA c
    omega
theorem mX{w:World}{c:Int}(hc:0≤c∧c<256) : Calls Tryz.prog 115 #[vB c] w (bH (vI (cw c)) w):=by
 refine en 15 Tryz.func115 rfl<|ay 1<|sq<|sg<|aF<|m1 (@lV w) fun g h=>al 1<|bk<|?_
 refine js (fun x=>[(0,vB c),(5,.agg lU),(6,vI ((x:Nat) : Int))]) (fun(x:Nat) w'=>ap [] g w'∧(x≤16)∧(∀ j:Nat,j<x→e6 (j:Int)≠c)) (fun x=>16-x) 0 ⟨ap.refl _ _,(by(try dsimp only);omega),(fun j hj=>by omega)⟩ ?_
 rintro n q ⟨d,l,m⟩
 refine ip [(0,vB c),(5,.agg lU),(6,vI ((n:Nat) : Int))] ?_
 have r:n≤16:=l
 have e:∀ j:Nat,j<n→e6 (j:Int)≠c:=m
 refine ay 1<|sq<|?_
 have f:=aH h d
 refine cb ((decide (((n:Nat) : Int)<16))) (fun b=>?_) (fun b=>?_)
 have o:=of_decide_eq_true b
 refine bU<|sq<|bk<|au 1<|L0<|iq (vB (e6 ((n:Nat) : Int))) (wa (k:=.i64) (i:=((n:Nat) : Int)) n rfl Tryz.underlying204 (by kernel_rfl) Tryz.isAgg5 (by kernel_rfl) (by kernel_rfl) rfl (by omega))<|Pl 2<|aS 3<|nl<|?_
 refine tn<|cb (((e6 ((n:Nat) : Int))==c)) (fun a=>?_) (fun a=>?_)
 have p:=aC a
 refine ay 2<|rt<|br<|tr<|tr<|br<|tr<|rr (vI ((n:Nat) : Int))<|?_
 have hs:cw c=((n:Nat) : Int):=Au (by omega) a
 rw[hs]
 exact⟨rfl,f⟩
 have p:=aO a
 exact sk<|bn<|tn<|go<|bA (((n:Nat) : Int)+1)<|Pl 1<|nl<|fM (n+1) ⟨d,(by(try dsimp only);omega),(xc e a)⟩ (by omega)
 have o:=of_decide_eq_false b
 refine xt<|tx<|tx<|bx<|tn<|ay 1<|rt<|rr (vI (-1))<|?_
 have hs:cw c = -1:=x8 (n:=n) (by omega) e
 rw[hs]
 exact⟨rfl,f⟩
theorem nd{w0 w:World}{b gd:Nat}{L:List Int}{c:Int}(hu0:ap [] w0 w)(hg0:w0.heap.size≤b)(hg1:w0.heap.size≤gd)(h:zX w0.heap.size b L w)(hd:w.heap[gd]? = some (.cells lU 204 (0,0)))(hne:gd≠b)(hc:0≤c∧c<256)(hl:L.length≤1048576) :
    Calls Tryz.prog 268 #[vP b 0,vB c] w (fun e w'=>e = .returned .nilIface∧zX w0.heap.size b (L++[c]) w'∧w'.heap[gd]? = some (.cells lU 204 (0,0))∧ap [] w0 w'∧w.heap.size≤w'.heap.size):=by
 obtain⟨p,A,cp,hb,hp,ho⟩:=h
 refine en 17 Tryz.func268 rfl<|au 1<|aS 1<|aF<|m2 (rf hp hb) fun u a d=>aS 4<|ax a 1<|Pl 1<|L0<|dv (m:=1) (e:=5) #[vB c] fun v y r eo f=>?_
 have s:=dF r (xs:=[c]) (by as_aux_lemma=>kernel_rfl) (am (by omega) aY) (by(try simp only[List.length_cons,List.length_nil]);omega) eo
 have i:=aH d f
 refine L0<|cZ bh (xs:=L) (ys:=([c])) (vB 0) 1 (aj ho i (fun x hx=>(aa (fun e=>(aX hb ho (by decide)) (e▸hx)) az)) (fun _ _ h=>h)) (s).rd (by(try simp only[cl,aq]);omega) (le (le hu0.size d.size) f.size) fun j k z l n=>Pl 2<|?_
 have o:=ap.blk (ut (ap.mono (S':=(ob A++[])) f aB) n (ah il aB)) (aM (aX a (aj ho d (fun x hx=>(aa (fun e=>(aX hb ho (by decide)) (e▸hx)) az)) (fun _ _ h=>h)) (by decide)) az) a
 refine L0<|cv o 1 #[vP b 0,.slice j ((L++[c]).length) k] fun B t q=>dl 1<|rt<|rr (.nilIface)<|?_
 have g:=ut (ap.mono (S':=(b :: (ob A++[]))) i (ac im aB)) (u1 (ap.mono (S':=(ob A++(b :: []))) n (ah il aB)) q im) (ah il (ac im aB))
 exact⟨rfl,⟨_,j,k,t,.inr rfl,(aj l q (fun x hx=>(aa (fun e=>(aX o l (by decide)) (e▸hx)) az)) (fun _ _ h=>h))⟩,(ap.blk g (aa hne (aM (aX hd ho (by decide)) az)) hd),(ut hu0 g (ac (nr hg0) (ah (aT ho lr) aB))),g.size⟩
open Go.RowKit
theorem mH{b:List Int}(h:dw b) : dw (dN b):=by
  induction b with
  | nil=>exact h
  | cons c b ih =>
    have hc:=h c (List.mem_cons_self ..)
    have h1:=jg (n:=c/16) (by omega)
    have h2:=jg (n:=c%16) (by omega)
    intro x hx
    rcases List.mem_cons.1 hx with rfl|hx
    · omega
    rcases List.mem_cons.1 hx with rfl|hx
    · omega
    · exact ih (fun y hy=>h y (List.mem_cons_of_mem _ hy)) x hx
theorem uf{m:Md}{A:Option Addr}{cp:Nat}{b:List Int}{w:World}(hsl:aR m w (.slice A b.length cp) b)(hl:b.length≤1024) :
    Calls Tryz.prog 267 #[.slice A b.length cp] w (bH (.string (strOfNums (dN b))) w):=by
 have hb:=aR.range hsl
 refine en 26 Tryz.func267 rfl<|au 1<|ng<|aL #[.pointer none,nS] fun d y g l h=>ng<|aF<|m1 (@lV y) fun X e=>?_
 refine aL #[vB 0,vB 0,vB 0,vB 0,vB 0,vB 0,vB 0,vB 0,vB 0,vB 0,vB 0,vB 0,vB 0,vB 0,vB 0,vB 0] fun a Y f z B=>aI (hz:=(by kernel_rfl)) (hv:=rfl) (h1:=(by kernel_rfl)) z (lU) fun C D E=>nt<|sq<|ay 3<|bk<|?_
 have o:=aH e (ud B E f)
 have q:=nb (ai l) e.size f
 refine js (fun x=>[(2,.string ⟨#[]⟩),(3,vP d 0),(4,vP a 0),(8,.slice A b.length cp),(9,vI ((b.length:Nat) : Int)),(10,vI ((x:Nat) : Int))]) (fun(x:Nat) w'=>ap [] w w'∧C.heap.size≤w'.heap.size∧zX w.heap.size d (dN (b.take x)) w'∧w'.heap[a]? = some (.cells lU 204 (0,0))∧(x≤b.length)) (fun x=>b.length-x) 0 ⟨(aH h o),lr,(by simpa [dN] using zX.new (ub o l)),D,(by(try dsimp only);omega)⟩ ?_
 rintro k r ⟨i,F,G,H,I⟩
 refine ip [(2,.string ⟨#[]⟩),(3,vP d 0),(4,vP a 0),(8,.slice A b.length cp),(9,vI ((b.length:Nat) : Int)),(10,vI ((k:Nat) : Int))] ?_
 have s:zX w.heap.size d (dN (b.take k)) r:=G
 have t:r.heap[a]? = some (.cells lU 204 (0,0)):=H
 have Z:k≤b.length:=I
 refine ay 1<|sq<|cb ((decide (((k:Nat) : Int)<((b.length:Nat) : Int)))) (fun j=>?_) (fun j=>?_)
 have J:=of_decide_eq_true j
 refine bU<|sq<|bk<|sg<|?_
 refine jc (aR.at_ (aR.old hsl i) k (by omega)) fun K L M N a0=>L0<|pf b.length k M (by omega)<|L0<|m8 (p:=⟨K,L+k,none⟩) (v:=vB (b.getD k 0)) N<|Pl 1<|aS 1<|L0<|Oe (vB (Int.fdiv (b.getD k 0) (2 ^ 4))) (vB ((b.getD k 0)/16)) (congrArg (Value.int .u8) (kH _ _ _ (by decide)))<|L0<|Cq (b:=a) (off:=0) 16 ((((b.getD k 0)/16)).toNat) ((b.getD k 0)/16) (by omega) (by omega)<|?_
 have a1:=jg (n:=((b.getD k 0)/16)) (by omega)
 refine L0<|m8 (p:=⟨a,0+(((b.getD k 0)/16)).toNat,none⟩) (v:=vB (e6 (((b.getD k 0)/16)))) (ae t (by rw[Nat.zero_add,ow (by omega)]))<|aF<|m4 (nd (c:=(e6 ((b.getD k 0)/16))) i g (Nat.le_trans (le h.size e.size) f) s t (Ne.symm q) (by omega) (by rw[eF,List.length_take];omega)) fun a2 O u P Q=>nt<|go<|Pl 1<|L0<|Oe (vB (Int.tmod (b.getD k 0) 16)) (vB ((b.getD k 0)%16)) (congrArg (Value.int .u8) (Int.tmod_eq_emod_of_nonneg (by omega)))<|L0<|Cq (b:=a) (off:=0) 16 ((((b.getD k 0)%16)).toNat) ((b.getD k 0)%16) (by omega) (by omega)<|?_
 have a3:=jg (n:=((b.getD k 0)%16)) (by omega)
 exact L0<|m8 (p:=⟨a,0+(((b.getD k 0)%16)).toNat,none⟩) (v:=vB (e6 (((b.getD k 0)%16)))) (ae u (by rw[Nat.zero_add,ow (by omega)]))<|aF<|m4 (nd (c:=(e6 ((b.getD k 0)%16))) P g (Nat.le_trans (le h.size e.size) f) O u (Ne.symm q) (by omega) (by rw[List.length_append,eF,List.length_take];simp only[List.length_cons,List.length_nil];omega)) fun a4 R S T U=>nl<|bn<|tn<|go<|bA (((k:Nat) : Int)+1)<|Pl 1<|nl<|fM (k+1) ⟨T,(le (le F Q) U),(by rw[v6 _ _ (by omega)];exact R),S,(by(try dsimp only);omega)⟩ (by omega)
 have J:=of_decide_eq_false j
 refine xt<|tx<|tx<|bx<|tn<|sg<|?_
 have V:k=b.length:=by omega
 have hbl:=s
 rw[V,List.take_length] at hbl
 have hbr:dw (dN b):=mH hb
 refine aF<|m1 (rA i g hbl hbr) fun a5 W=>al 1<|rt<|rr (.string (strOfNums (dN b)))<|?_
 exact⟨rfl,W⟩
theorem xO{m:Md}{v:Value}{b:List Int}{w:World}(h:aR m w v b)(hl:b.length≤1024) : Calls Tryz.prog 267 #[v] w (bH (.string (strOfNums (dN b))) w):=by
  obtain⟨A,cp,rfl,_,_⟩:=h.shape
  exact uf h hl
def gE (xs:List Int)(w:World)(e:Ending)(w':World) : Prop:=match bY xs with
  | some l=>∃ v,e = .returned (.tuple #[v,.int .i64 0])∧cn w.heap.size w' v l∧ap [] w w'
  | none=>e = .returned (.tuple #[.slice none 0 0,.int .i64 11])∧ap [] w w'
theorem yi{xs l:List Int}{w w':World}{e:Ending}(h:bY xs=some l)(k:∃ v,e = .returned (.tuple #[v,.int .i64 0])∧cn w.heap.size w' v l∧ap [] w w') : gE xs w e w':=by
  unfold gE
  rw[h]
  exact k
theorem sD{xs:List Int}{w w':World}{e:Ending}(h:bY xs=none)(k:e = .returned (.tuple #[.slice none 0 0,.int .i64 11])∧ap [] w w') : gE xs w e w':=by
  unfold gE
  rw[h]
  exact k
theorem nj{xs:List Int}{w:World}(hr:dw xs)(hl:xs.length≤1048576) :
    Calls Tryz.prog 81 #[.string (strOfNums xs)] w (gE xs w):=by
 refine en 42 Tryz.func81 rfl<|ay 2<|sq<|au 1<|L0<|Oe (vI (((strOfNums xs).size:Nat) : Int)) (vI (xs.length:Int)) (by rw[strOfNums_size])<|L0<|Oe (vI (Int.tmod (xs.length:Int) 2)) (vI ((xs.length:Int)%2)) (congrArg (Value.int .i64) (Int.tmod_eq_emod_of_nonneg (by omega)))<|Pl 1<|nl<|tn<|cb ((((xs.length:Int)%2)!=0)) (fun d=>?_) (fun d=>?_)
 have y:=aN d
 refine ay 2<|bJ<|rr (.tuple #[nS,vI 11])<|?_
 have hs:bY xs=none:=mz (by omega)
 exact sD hs ⟨rfl,(ap.refl [] _)⟩
 have y:=aV d
 refine bU<|ay 1<|sq<|ay 1<|bk<|?_
 refine js (fun x=>[(0,.string (strOfNums xs)),(4,.slice x.2.2.1 x.2.1.length x.2.2.2),(5,vI ((2*x.1:Nat) : Int))]) (fun(x:Nat × List Int × Option Addr × Nat) w'=>ap [] w w'∧cn w.heap.size w' (.slice x.2.2.1 x.2.1.length x.2.2.2) x.2.1∧(2*x.1≤xs.length)∧(bY xs=(bY (xs.drop (2*x.1))).map fun l=>x.2.1++l)∧(x.2.1.length=x.1)) (fun x=>xs.length-2*x.1) (0,[],none,0) ⟨ap.refl _ _,(aJ.nil w.heap.size _ _ jH _),(by(try dsimp only);omega),(by(try dsimp only);simp),(by(try dsimp only);rfl)⟩ ?_
 rintro⟨k,L,B,cq⟩ z ⟨f,A,C,D,E⟩
 refine ip [(0,.string (strOfNums xs)),(4,.slice B L.length cq),(5,vI ((2*k:Nat) : Int))] ?_
 have g:cn w.heap.size z (.slice B L.length cq) L:=A
 have T:2*k≤xs.length:=C
 have U:bY xs=(bY (xs.drop (2*k))).map fun l=>L++l:=D
 have V:L.length=k:=E
 have hL:bY xs=(bY (xs.drop (2*k))).map fun l=>L++l:=by assumption
 refine sq<|au 2<|L0<|Oe (vI (((strOfNums xs).size:Nat) : Int)) (vI (xs.length:Int)) (by rw[strOfNums_size])<|al 1<|cb ((decide (((2*k:Nat) : Int)<(xs.length:Int)))) (fun j=>?_) (fun j=>?_)
 have F:=of_decide_eq_true j
 refine bU<|sq<|bk<|sq<|Rg 11 (fun w'=>True) fun W o=>b9 trivial fun a=>Rt 0 a<|Rt 1 a<|Rr 2 a (vB (xs.getD (2*k) 0)) (fun _ _=>qp (xs:=xs) (k:=.i64) (i:=((2*k:Nat) : Int)) (2*k) rfl Tryz.underlying9 (by kernel_rfl) (by kernel_rfl) hr rfl (by omega))<|Rt 4 a<|Rt 5 a<|Rr 6 a (vI (((2*k:Nat) : Int)+1)) (fun _ _=>cE (vI (IntKind.i64.wrap (((2*k:Nat) : Int)+1))) (by kernel_rfl) (congrArg (Value.int .i64) (IntWalk.i64_in _ (by omega))))<|Rr 7 a (vB (xs.getD ((((2*k:Nat) : Int)+1)).toNat 0)) (fun _ _=>qp (xs:=xs) (k:=.i64) (i:=(((2*k:Nat) : Int)+1)) ((((2*k:Nat) : Int)+1)).toNat rfl Tryz.underlying9 (by kernel_rfl) (by kernel_rfl) hr (by omega) (by omega))<|?_
 have X:=nA (xs.getD (2*k) 0)
 refine R0 3 rfl<|Oc<|m1 (mX (c:=(xs.getD (2*k) 0)) (w:=_) (fX (by omega) hr _)) fun Y p=>b9 trivial fun Z=>?_
 have a0:=nA (xs.getD ((((2*k:Nat) : Int)+1)).toNat 0)
 refine R0 8 rfl<|Oc<|m1 (mX (c:=(xs.getD ((((2*k:Nat) : Int)+1)).toNat 0)) (w:=_) (fX (by omega) hr _)) fun a1 r=>b9 trivial fun s=>Rt 9 s<|Rt 10 s<|re<|tn<|sq<|au 3<|xG 3 [29] 32 29 (decide ((cw (xs.getD (2*k) 0))<0)) (decide ((cw (xs.getD ((((2*k:Nat) : Int)+1)).toNat 0))<0)) (fun K G H=>?_) ?_
 have a2:=of_decide_eq_false H
 exact Pl 3<|ce G _ rfl
 refine nt<|?_
 have t:=aH o (aH p r)
 have u:=aH f t
 refine cb (((decide ((cw (xs.getD (2*k) 0))<0))||(decide ((cw (xs.getD ((((2*k:Nat) : Int)+1)).toNat 0))<0)))) (fun b=>?_) (fun b=>?_)
 refine ay 2<|bJ<|br<|tr<|tr<|br<|tr<|rr (.tuple #[nS,vI 11])<|?_
 have hs:bY xs=none:=xN (k:=k) hL (by omega) (by have q:=b;simp only[Bool.or_eq_true,decide_eq_true_eq] at q;rw[show 2*k+1=(((2*k:Nat) : Int)+1).toNat from by omega];exact q)
 exact sD hs ⟨rfl,u⟩
 have I:=(uC b).1
 have J:=(uC b).2
 have a3:=of_decide_eq_false I
 have a4:=of_decide_eq_false J
 refine bU<|go<|Pl 2<|bA (16*(cw (xs.getD (2*k) 0)))<|Pl 1<|bA ((16*(cw (xs.getD (2*k) 0)))+(cw (xs.getD ((((2*k:Nat) : Int)+1)).toNat 0)))<|Pl 1<|L0<|dv (m:=1) (e:=5) #[vB (((16*(cw (xs.getD (2*k) 0)))+(cw (xs.getD ((((2*k:Nat) : Int)+1)).toNat 0)))%256)] fun a5 a6 M N n=>?_
 have O:=dF M (xs:=[(((16*(cw (xs.getD (2*k) 0)))+(cw (xs.getD ((((2*k:Nat) : Int)+1)).toNat 0)))%256)]) (by as_aux_lemma=>kernel_rfl) (am (by omega) aY) (by(try simp only[List.length_cons,List.length_nil]);omega) N
 refine L0<|cZ bh (xs:=L) (ys:=([(((16*(cw (xs.getD (2*k) 0)))+(cw (xs.getD ((((2*k:Nat) : Int)+1)).toNat 0)))%256)])) (vB 0) 1 (aj g (aH t n) (fun x hx=>az) (fun _ _ h=>h)) (O).rd (by(try simp only[cl,aq]);omega) (le (le (le (le f.size o.size) p.size) r.size) n.size) fun P Q a7 R S=>Pl 1<|nl<|bn<|tn<|go<|Pl 1<|bA (((2*k:Nat) : Int)+2)<|Pl 1<|nl<|?_
 have v:=rU (k:=k) hL (by omega) (by omega) (by rw[show 2*k+1=(((2*k:Nat) : Int)+1).toNat from by omega];omega)
 rw[show 2*k+1=(((2*k:Nat) : Int)+1).toNat from by omega] at v
 exact fM ((k+1),(L++[(((16*(cw (xs.getD (2*k) 0)))+(cw (xs.getD ((((2*k:Nat) : Int)+1)).toNat 0)))%256)]),P,Q) ⟨(ut u (ut (ap.mono (S':=(ob B++[])) n aB) S (ah il aB)) (ah (aT g lr) aB)),R,(by(try dsimp only);omega),v,(by(try dsimp only);simp only[cl];omega)⟩ (by omega)
 have F:=of_decide_eq_false j
 refine xt<|tx<|tx<|bx<|tn<|ay 3<|rt<|rr (.tuple #[.slice B L.length cq,vI 0])<|?_
 have hs:bY xs=some L:=tN hL (by omega)
 exact yi hs ⟨_,rfl,g,f⟩
open Go.RowKit
def gc (xs:List Int) : Bool:=decide (2≤((xs.length:Nat) : Int))&&decide (xs.drop (((xs.length:Nat) : Int)-2).toNat=[13,10])
def iw (b:List Int) : Option (List Int):=if b.getD 0 0=58∧gc (b.drop 1)=true then some ((b.drop 1).take (b.length-3)) else none
theorem lL{xs:List Int}(h:gc xs=true) : 2≤xs.length:=by
  unfold gc at h
  simp only[Bool.and_eq_true,decide_eq_true_eq] at h
  omega
theorem jD{b s:List Int}(h:iw b=some s) : b.getD 0 0=58∧gc (b.drop 1)=true∧s=(b.drop 1).take (b.length-3)∧3≤b.length:=by
  unfold iw at h
  split at h
  · rename_i hc
    injection h with h
    have:=lL hc.2
    rw[List.length_drop] at this
    exact⟨hc.1,hc.2,h.symm,by omega⟩
  · cases h
theorem oY{b s:List Int}(h:iw b=some s) : s.length=b.length-3:=by
  obtain⟨_,_,rfl,h3⟩:=jD h
  rw[List.length_take,List.length_drop]
  omega
def nW (xs:List Int)(w:World)(e:Ending)(w':World) : Prop:=match iw xs with
  | some l=>e = .returned (.tuple #[.string (strOfNums l),.bool true])∧ap [] w w'
  | none=>∃ s,e = .returned (.tuple #[.string s,.bool false])∧ap [] w w'
theorem lY{xs:List Int}{w:World}(hr:dw xs)(hl:xs.length≤1048576) : Calls Tryz.prog 226 #[.string (strOfNums xs),.string ⟨#[13,10]⟩] w (bH (.bool (gc xs)) w):=by
 refine en 21 Tryz.func226 rfl<|au 1<|aS 1<|L0<|Oe (vI (((strOfNums xs).size:Nat) : Int)) (vI (xs.length:Int)) (by rw[strOfNums_size])<|Pl 4<|bl 10 ((decide (2≤(xs.length:Int)))) (fun c=>?_) (fun c=>?_)
 have d:=of_decide_eq_true c
 refine Pl 2<|L1<|Oe (vI (((strOfNums xs).size:Nat) : Int)) (vI (xs.length:Int)) (by rw[strOfNums_size])<|Pl 2<|L1<|Oi ((xs.length:Int)-2)<|?_
 have e:dw (xs.drop (((xs.length:Int)-2)).toNat):=jG hr (((xs.length:Int)-2)).toNat
 refine L1<|iq (.string (strOfNums (xs.drop (((xs.length:Int)-2)).toNat))) (nc (xs:=xs) (k:=.i64) (i:=((xs.length:Int)-2)) (((xs.length:Int)-2)).toNat rfl Tryz.underlying9 (by kernel_rfl) (by kernel_rfl) (by omega) (by omega))<|Pl 1<|L1<|iq (.bool (decide ((xs.drop (((xs.length:Int)-2)).toNat)=[13,10]))) (e8 (a:=(strOfNums (xs.drop (((xs.length:Int)-2)).toNat))) (b:=⟨#[13,10]⟩) rfl (by kernel_rfl) (by kernel_rfl) (zU (ys:=[13,10]) e (by decide)))<|al 2<|rt<|rr (.bool (decide ((xs.drop (((xs.length:Int)-2)).toNat)=[13,10])))<|?_
 have hs:gc xs=(decide ((xs.drop (((xs.length:Int)-2)).toNat)=[13,10])):=by unfold gc;(try simp only[c,bt]);all_goals rfl
 rw[hs]
 exact⟨rfl,(ap.refl [] _)⟩
 have d:=of_decide_eq_false c
 refine al 11<|rt<|rr (.bool false)<|?_
 have hs:gc xs=false:=by unfold gc;(try simp only[c,bt]);all_goals rfl
 rw[hs]
 exact⟨rfl,(ap.refl [] _)⟩
theorem un{xs:List Int}{w:World}(hr:dw xs)(hl:xs.length≤1048576)(hq:gc xs=true) : Calls Tryz.prog 180 #[.string (strOfNums xs),.string ⟨#[13,10]⟩] w (bH (.tuple #[.string (strOfNums (xs.take ((xs.length:Int)-2).toNat)),.bool true]) w):=by
 have hq2:=lL hq
 refine en 18 Tryz.func180 rfl<|ay 2<|sq<|au 2<|aF<|m1 (lY (xs:=xs) (w:=_) hr (by omega)) fun c a=>al 1<|?_
 have b:(!(gc xs))=false:=by simp only[hq,Bool.not_true,Bool.not_false]
 refine cf b<|bU<|au 2<|L0<|Oe (vI (((strOfNums xs).size:Nat) : Int)) (vI (xs.length:Int)) (by rw[strOfNums_size])<|Pl 2<|bA ((xs.length:Int)-2)<|?_
 have d:dw (xs.take (((xs.length:Int)-2)).toNat):=mT hr (((xs.length:Int)-2)).toNat
 exact L0<|iq (.string (strOfNums (xs.take (((xs.length:Int)-2)).toNat))) (tS (xs:=xs) (k:=.i64) (i:=((xs.length:Int)-2)) (((xs.length:Int)-2)).toNat rfl Tryz.underlying9 (by kernel_rfl) (by kernel_rfl) (by omega) (by omega))<|al 2<|rt<|rr (.tuple #[.string (strOfNums (xs.take (((xs.length:Int)-2)).toNat)),.bool true])<|⟨rfl,a⟩
theorem xq{xs:List Int}{w:World}(hr:dw xs)(hl:xs.length≤1048576)(hq:gc xs=true) : Calls Tryz.prog 114 #[.string (strOfNums xs),.string ⟨#[13,10]⟩] w (bH (.tuple #[.string (strOfNums (xs.take ((xs.length:Int)-2).toNat)),.bool true]) w):=by
 exact en 11 Tryz.func114 rfl<|au 2<|aS 2<|aF<|m1 (un (xs:=xs) (w:=_) hr hl hq) fun b a=>al 4<|rt<|rr (.tuple #[.string (strOfNums (xs.take ((xs.length:Int)-2).toNat)),.bool true])<|⟨rfl,a⟩
theorem tI{xs:List Int}{w:World}(hr:dw xs)(hl:xs.length≤1048576)(hq:gc xs=false) : Calls Tryz.prog 180 #[.string (strOfNums xs),.string ⟨#[13,10]⟩] w (bH (.tuple #[.string (strOfNums xs),.bool false]) w):=by
 refine en 18 Tryz.func180 rfl<|ay 2<|sq<|au 2<|aF<|m1 (lY (xs:=xs) (w:=_) hr (by omega)) fun c a=>al 1<|?_
 have b:(!(gc xs))=true:=by simp only[hq,Bool.not_true,Bool.not_false]
 exact ct b<|ay 3<|bJ<|rr (.tuple #[.string (strOfNums xs),.bool false])<|⟨rfl,a⟩
theorem w7{xs:List Int}{w:World}(hr:dw xs)(hl:xs.length≤1048576)(hq:gc xs=false) : Calls Tryz.prog 114 #[.string (strOfNums xs),.string ⟨#[13,10]⟩] w (bH (.tuple #[.string (strOfNums xs),.bool false]) w):=by
 exact en 11 Tryz.func114 rfl<|au 2<|aS 2<|aF<|m1 (tI (xs:=xs) (w:=_) hr hl hq) fun b a=>al 4<|rt<|rr (.tuple #[.string (strOfNums xs),.bool false])<|⟨rfl,a⟩
theorem AC{b:List Int}(h:b.getD 0 0=58)(k:gc (b.drop 1)=true) : iw b=some ((b.drop 1).take (b.length-3)):=if_pos ⟨h,k⟩
theorem y8{b:List Int}(h:¬ b.getD 0 0=58) : iw b=none:=if_neg fun k=>h k.1
theorem zd{b:List Int}(k:gc (b.drop 1)=false) : iw b=none:=if_neg fun h=>by rw[k] at h;cases h.2
theorem AS{b l:List Int}{w w':World}{e:Ending}(h:iw b=some l)(k:e = .returned (.tuple #[.string (strOfNums l),.bool true])∧ap [] w w') : nW b w e w':=by
  unfold nW
  rw[h]
  exact k
theorem xP{b:List Int}{w w':World}{e:Ending}(h:iw b=none)(k:∃ s,e = .returned (.tuple #[.string s,.bool false])∧ap [] w w') : nW b w e w':=by
  unfold nW
  rw[h]
  exact k
theorem lX{b:List Int}{w:World}(hr:dw b)(hl:b.length≤1048576)(h0:0<b.length) : Calls Tryz.prog 80 #[.string (strOfNums b)] w (nW b w):=by
 refine en 18 Tryz.func80 rfl<|ay 2<|sq<|au 1<|L0<|Dl (sv:=strOfNums b) Tryz.underlying9 fun f m n o p=>nt<|bk<|?_
 refine js (fun x=>[(0,.string (strOfNums b)),(7,vP f 0)]) (fun(x:Unit) w'=>ap [] m w'∧(0≤0)) (fun x=>0) () ⟨ap.refl _ _,(by(try dsimp only);omega)⟩ ?_
 rintro z v ⟨g,q⟩
 refine ip [(0,.string (strOfNums b)),(7,vP f 0)] ?_
 have y:0≤0:=q
 refine sg<|?_
 refine L0<|DT hr (by omega) (ub g o) fun r A h s=>al 1<|sq<|c1<|bU<|bk<|ay 2<|sq<|ay 2<|?_
 have a:=ud p (uz g s) n
 refine cb ((r != 58)) (fun c=>?_) (fun c=>?_)
 have d:=aN c
 exact ay 2<|bJ<|br<|tr<|br<|tr<|rr (.tuple #[.string ⟨#[]⟩,.bool false])<|xP (y8 fun e=>d (h.2 e)) ⟨_,rfl,a⟩
 have d:=aV c
 refine bU<|xt<|CA<|tx<|bx<|tn<|au 1<|?_
 have j:dw (b.drop 1):=jG hr 1
 refine L0<|iq (.string (strOfNums (b.drop 1))) (nc (xs:=b) (k:=.i64) (i:=1) 1 rfl Tryz.underlying9 (by kernel_rfl) (by kernel_rfl) rfl (by omega))<|?_
 rcases gw (gc (b.drop 1)) with hq|hq
 refine aF<|m1 (xq (xs:=(b.drop 1)) (w:=_) j (by rw[List.length_drop];omega) hq) fun B t=>al 4<|rt<|rr (.tuple #[.string (strOfNums ((b.drop 1).take (((b.drop 1).length:Int)-2).toNat)),.bool true])<|?_
 exact AS (l:=(b.drop 1).take (b.length-3)) (AC (h.1 d) hq) ⟨by rw[show b.length-3=(((b.drop 1).length:Int)-2).toNat from by rw[List.length_drop];omega],(aH a t)⟩
 refine aF<|m1 (w7 (xs:=(b.drop 1)) (w:=_) j (by rw[List.length_drop];omega) hq) fun C u=>al 4<|rt<|rr (.tuple #[.string (strOfNums (b.drop 1)),.bool false])<|?_
 exact xP (zd hq) ⟨_,rfl,(aH a u)⟩
open Go.RowKit
theorem uk{b s:List Int}(hr:dw b)(h:iw b=some s) : dw s:=by
  obtain⟨_,_,rfl,_⟩:=jD h
  exact mT (jG hr 1) _
theorem zf{b l:List Int}{w:World}(h:iw b=some l)(e:Ending)(w':World)(k:nW b w e w') : e = .returned (.tuple #[.string (strOfNums l),.bool true])∧ap [] w w':=by
  unfold nW at k
  rw[h] at k
  exact k
theorem yo{b:List Int}{w:World}(h:iw b=none)(e:Ending)(w':World)(k:nW b w e w') : ∃ s,e = .returned (.tuple #[.string s,.bool false])∧ap [] w w':=by
  unfold nW at k
  rw[h] at k
  exact k
theorem x9{b l:List Int}{w:World}(h:bY b=some l)(e:Ending)(w':World)(k:gE b w e w') : ∃ v,e = .returned (.tuple #[v,.int .i64 0])∧cn w.heap.size w' v l∧ap [] w w':=by
  unfold gE at k
  rw[h] at k
  exact k
theorem xx{b:List Int}{w:World}(h:bY b=none)(e:Ending)(w':World)(k:gE b w e w') : e = .returned (.tuple #[.slice none 0 0,.int .i64 11])∧ap [] w w':=by
  unfold gE at k
  rw[h] at k
  exact k
def eh (x:List Int) : List Int:=(x.take (x.length-1)).drop 1
theorem lb(x:List Int) : eh x=(x.take (((x.length:Nat) : Int)-1).toNat).drop 1:=by
  unfold eh
  rw[show(((x.length:Nat) : Int)-1).toNat=x.length-1 from by omega]
def e9 (dir:Int)(b:List Int) : bu × Int :=
  if dir != 0&&dir != 1 then (bu.zero,1)
  else if decide ((b.length:Int)<9) then (bu.zero,2)
  else if decide (513<(b.length:Int)) then (bu.zero,3)
  else match iw b with
    | none=>(bu.zero,12)
    | some s=>match bY s with
      | none=>(bu.zero,11)
      | some x=>if !(fK x) then (bu.zero,10) else dn (x.getD 0 0) 0 (dm dir (eh x))
theorem s8{m:Md}{A:Option Addr}{cp:Nat}{b:List Int}{w:World}{dir:Int}(hsl0:aR m w (.slice A b.length cp) b)(hb:b.length≤1048576) :
    Calls Tryz.prog 56 #[vI dir,.slice A b.length cp] w (nF (e9 dir b) w):=by
 have hln:(b.length:Int)≤1048576:=by omega
 have hr:dw b:=aR.range hsl0
 refine en 71 Tryz.func56 rfl<|sg<|aL #[vB 0,vW 0,vB 0,vB 0,vW 0,vW 0,vW 0,vW 0,vW 0,vW 0,vW 0,vW 0,vW 0,vW 0,nS,nS,nS,nS,vB 0,vB 0,vB 0,vB 0,vB 0,nS] fun bx X k d o=>al 1<|sq<|bk<|au 3<|gy 3 [14] 17 14 (dir != 0) (dir != 1) (fun K ah am=>?_) ?_
 have bz:=aN am
 exact Pl 3<|ce ah _ rfl
 refine al 1<|cb (((dir != 0)&&(dir != 1))) (fun f=>?_) (fun f=>?_)
 have Y:=(bK f).1
 have Z:=(bK f).2
 have bB:=aN Y
 have bC:=aN Z
 refine au 1<|aI d #[vB 0,vW 0,vB 0,vB 0,vW 0,vW 0,vW 0,vW 0,vW 0,vW 0,vW 0,vW 0,vW 0,vW 0,nS,nS,nS,nS,vB 0,vB 0,vB 0,vB 0,vB 0,nS] fun bD an ao=>al 1<|rt<|br<|tr<|dZ an (vI 1)<|?_
 have hs:e9 dir b=(bu.zero,1):=by
   unfold e9
   (try simp only[f,Y,Z,bt,dn,reduceIte])
   all_goals rfl
 refine dR hs ?_
 exact cV (ud o ao k)
 refine ay 4<|cb ((decide ((b.length:Int)<9))) (fun i=>?_) (fun i=>?_)
 have ap:=of_decide_eq_true i
 refine au 1<|aI d #[vB 0,vW 0,vB 0,vB 0,vW 0,vW 0,vW 0,vW 0,vW 0,vW 0,vW 0,vW 0,vW 0,vW 0,nS,nS,nS,nS,vB 0,vB 0,vB 0,vB 0,vB 0,nS] fun bE aq ar=>al 1<|rt<|br<|tr<|dZ aq (vI 2)<|?_
 have hs:e9 dir b=(bu.zero,2):=by
   unfold e9
   (try simp only[f,i,bt,dn,reduceIte])
   all_goals rfl
 refine dR hs ?_
 exact cV (ud o ar k)
 have ap:=of_decide_eq_false i
 refine ay 4<|cb ((decide (513<(b.length:Int)))) (fun j=>?_) (fun j=>?_)
 have av:=of_decide_eq_true j
 refine au 1<|aI d #[vB 0,vW 0,vB 0,vB 0,vW 0,vW 0,vW 0,vW 0,vW 0,vW 0,vW 0,vW 0,vW 0,vW 0,nS,nS,nS,nS,vB 0,vB 0,vB 0,vB 0,vB 0,nS] fun bF aw ax=>al 1<|rt<|br<|tr<|dZ aw (vI 3)<|?_
 have hs:e9 dir b=(bu.zero,3):=by
   unfold e9
   (try simp only[f,i,j,bt,dn,reduceIte])
   all_goals rfl
 refine dR hs ?_
 exact cV (ud o ax k)
 have av:=of_decide_eq_false j
 refine sk<|bn<|tn<|au 1<|?_
 have O:=aR.old hsl0 o
 refine L0<|iq (.string (strOfNums b)) (ck (A:=A) (n:=b.length) (c:=cp) rfl (by kernel_rfl) Tryz.underlying27 Tryz.underlying5 Tryz.underlying9 O)<|?_
 rcases hds:iw b with _|sd
 have aA:=lX (w:=X) (aR.range O) hb (by omega)
 have aB:=aA.mono (yo hds)
 refine aF (args:=#[.string (strOfNums b)])<|e1 aB fun bG bH a0=>al 5<|sq<|ay 2<|c1<|au 1<|?_
 refine aI (ub a0 d) #[vB 0,vW 0,vB 0,vB 0,vW 0,vW 0,vW 0,vW 0,vW 0,vW 0,vW 0,vW 0,vW 0,vW 0,nS,nS,nS,nS,vB 0,vB 0,vB 0,vB 0,vB 0,nS] fun bI aC aG=>al 1<|bJ<|dZ aC (vI 12)<|?_
 have hs:e9 dir b=(bu.zero,12):=by
   unfold e9
   (try simp only[f,i,j,bt,dn,hds,reduceIte])
   all_goals rfl
 refine dR hs ?_
 exact cV (ud o (uz a0 aG) k)
 have hsl:=oY hds
 have hsd:dw sd:=uk hr hds
 have aJ:=lX (w:=X) (aR.range O) hb (by omega)
 have aM:=aJ.mono (zf hds)
 refine aF (args:=#[.string (strOfNums b)])<|m1 aM fun a1 l=>al 5<|sq<|ay 2<|c0<|bU<|sq<|go<|Pl 1<|?_
 have a2:=aH o l
 rcases hth:bY sd with _|x
 have aO:=(nj (w:=a1) hsd (by omega)).mono (xx hth)
 refine aF<|m1 aO fun bL a3=>al 5<|sq<|ay 2<|c1<|au 2<|?_
 refine aI (ub (aH l a3) d) #[vB 0,vW 0,vB 0,vB 0,vW 0,vW 0,vW 0,vW 0,vW 0,vW 0,vW 0,vW 0,vW 0,vW 0,nS,nS,nS,nS,vB 0,vB 0,vB 0,vB 0,vB 0,nS] fun bM aP aQ=>al 1<|bJ<|dZ aP (vI 11)<|?_
 have hs:e9 dir b=(bu.zero,11):=by
   unfold e9
   (try simp only[f,i,j,bt,dn,hds,hth,reduceIte])
   all_goals rfl
 refine dR hs ?_
 exact cV (ud a2 (uz a3 aQ) k)
 have hxl:=mu hth
 have aS:=(nj (w:=a1) hsd (by omega)).mono (x9 hth)
 refine aF<|eU aS fun Q I bN R bO bP a4=>al 5<|sq<|ay 2<|c0<|bU<|sq<|au 1<|aF (args:=#[.slice Q x.length I])<|m1 (uL (R).rd) fun aT S=>al 1<|?_
 have F:=aH a4 S
 have T:=aH a2 F
 refine cb ((!(fK x))) (fun p=>?_) (fun p=>?_)
 have J:(fK x)=false:=by simpa using p
 refine au 1<|?_
 refine aI (ub (aH l F) d) #[vB 0,vW 0,vB 0,vB 0,vW 0,vW 0,vW 0,vW 0,vW 0,vW 0,vW 0,vW 0,vW 0,vW 0,nS,nS,nS,nS,vB 0,vB 0,vB 0,vB 0,vB 0,nS] fun bQ aU aX=>al 1<|bJ<|dZ aU (vI 10)<|?_
 have hs:e9 dir b=(bu.zero,10):=by
   unfold e9
   (try simp only[f,i,j,p,J,bt,dn,hds,hth,reduceIte])
   all_goals rfl
 refine dR hs ?_
 exact cV (ud T aX k)
 have J:(fK x)=true:=by simpa using p
 refine bU<|au 4<|bA ((x.length:Int)-1)<|qN (sG (P:=Tryz.prog) 27 5 1 Tryz.underlying27 rfl rfl Q x.length I (lo:=1) (up:=((x.length:Int)-1)) 1 ((((x.length:Int)-1)).toNat) (by omega) (by omega) (by omega) (by omega) (by omega)) fun aY hrun79 aZ=>L0<|iq (.slice aY (((((x.length:Int)-1)).toNat)-1) (I-1)) (nh (kl:=.i64) (kh:=.i64) (lo:=1) (hi:=((x.length:Int)-1)) (A:=Q) (n:=x.length) (c:=I) rfl Tryz.underlying27 (by kernel_rfl) (by kernel_rfl) (by kernel_rfl) (hrun79 _ _ _))<|?_
 obtain⟨a,G,U⟩ : ∃ M E,dm dir ((x.take ((((x.length:Int)-1)).toNat)).drop 1)=(M,E):=⟨_,_,rfl⟩
 have a5:=aj R S (fun x hx=>az) (fun _ _ h=>h)
 have a6:=jz (dir:=dir) (w:=aT) (aZ _ _ _ _ _ (a5).rd) (by rw[List.length_drop,List.length_take];omega)
 rw[U] at a6
 refine aF<|e2 a6 fun b0 bR a7 V=>?_
 have b1:=a7
 obtain⟨b2,b3,b4,b5,b6,ba,bb,bc,bd,be,bf,bS⟩:=b1
 obtain rfl:b0=(ei a b2 b3 b4 b5 b6).toArray:=by apply Array.toList_inj.1;simpa using ba
 obtain⟨q,r,rfl,_,_⟩:=bb.shape
 obtain⟨s,t,rfl,_,_⟩:=bc.shape
 obtain⟨u,v,rfl,_,_⟩:=bd.shape
 obtain⟨y,z,rfl,_,_⟩:=be.shape
 obtain⟨B,C,rfl,_,_⟩:=bf.shape
 refine Pl 3<|aL mZ fun a8 bT a9 bg bh=>aI bg (mG a.code a.fail a.addr a.count a.value a.and_ a.or_ a.addr2 a.sub a.status a.events a.messages (.slice q a.words.length r) (.slice s a.bits.length t) (.slice u a.data.length v) (.slice y a.recs.length z) a.mei a.kind a.level a.more a.next (.slice B a.objects.length C)) fun bV bi bj=>al 1<|sq<|ay 2<|?_
 have ab:=ud bh bj a9
 have L:=aH V ab
 have ac:=aH T L
 refine cb ((G != 0)) (fun H=>?_) (fun H=>?_)
 have bl:=aN H
 refine au 2<|?_
 refine aI (ub (aH l (aH F L)) d) #[vB 0,vW 0,vB 0,vB 0,vW 0,vW 0,vW 0,vW 0,vW 0,vW 0,vW 0,vW 0,vW 0,vW 0,nS,nS,nS,nS,vB 0,vB 0,vB 0,vB 0,vB 0,nS] fun bW bm bo=>al 1<|bJ<|dZ bm (vI G)<|?_
 have hX2:dm dir (eh x)=(a,G):=(congrArg (dm dir) (lb x)).trans U
 have hs:e9 dir b=(bu.zero,G):=by
   unfold e9
   (try simp only[f,i,j,p,J,H,bt,dn,hds,hth,hX2,reduceIte])
   all_goals rfl
 refine dR hs ?_
 exact cV (ud ac bo k)
 have bl:=aV H
 refine bU<|sq<|?_
 have ad:=aj a5 L (fun x hx=>az) (fun _ _ h=>h)
 refine jc (aR.at_ (ad).rd 0 (by omega)) fun bp bq ae bs bX=>Rg 8 (fun w'=>w'.cell? ⟨bp,bq+0,none⟩=some (vB (x.getD 0 0))∧w'.heap[a8]? = some (.cells (mG a.code a.fail a.addr a.count a.value a.and_ a.or_ a.addr2 a.sub a.status a.events a.messages (.slice q a.words.length r) (.slice s a.bits.length t) (.slice u a.data.length v) (.slice y a.recs.length z) a.mei a.kind a.level a.more a.next (.slice B a.objects.length C)) 45 (0,0))) fun bZ N=>?_
 have af:=ub N bi
 refine b9 ⟨(uc N bs),af⟩ fun D=>Rt 0 D<|xz 1 D x.length 0 0 rfl ae (by omega)<|Rl 2 D (fun _ hs=>hs.1)<|Rt 3 D<|Rr 4 D (.agg (mG a.code a.fail a.addr a.count a.value a.and_ a.or_ a.addr2 a.sub a.status a.events a.messages (.slice q a.words.length r) (.slice s a.bits.length t) (.slice u a.data.length v) (.slice y a.recs.length z) a.mei a.kind a.level a.more a.next (.slice B a.objects.length C))) (fun w' hs=>gg (g:=a8) (off:=0) [vB a.code,vB a.fail,vW a.addr,vW a.count,vW a.value,vW a.and_,vW a.or_,vW a.addr2,vW a.sub,vW a.status,vW a.events,vW a.messages,.slice q a.words.length r,.slice s a.bits.length t,.slice u a.data.length v,.slice y a.recs.length z,vB a.mei,vB a.kind,vB a.level,vB a.more,vB a.next,.slice B a.objects.length C] rfl (by kernel_rfl) hs.2 (by kernel_rfl) (by kernel_rfl) rfl)<|Rt 5 D<|?_
 refine R0 6 rfl<|qv (ub (aH l (aH F (aH L N))) d) #[vB (x.getD 0 0),vW 0,vB a.code,vB a.fail,vW a.addr,vW a.count,vW a.value,vW a.and_,vW a.or_,vW a.addr2,vW a.sub,vW a.status,vW a.events,vW a.messages,.slice q a.words.length r,.slice s a.bits.length t,.slice u a.data.length v,.slice y a.recs.length z,vB a.mei,vB a.kind,vB a.level,vB a.more,vB a.next,.slice B a.objects.length C] fun c2 bv ag=>?_
 have W:=uz N ag
 refine b9 ⟨(cB ((aj ad W (fun x hx=>(aa (fun e=>(aD (ai d) l.size R) (e▸hx)) az)) (fun _ _ h=>h))).rd ae 0 (by omega)),(b7 ag (Ne.symm (nb (ai d) (le (le (le l.size a4.size) S.size) V.size) a9)) af)⟩ fun bw=>Rt 7 bw<|re<|tn<|rt<|dZ bv (vI 0)<|?_
 have hX2:dm dir (eh x)=(a,G):=(congrArg (dm dir) (lb x)).trans U
 have hs:e9 dir b=(⟨(x.getD 0 0),0,a⟩,0):=by
   unfold e9
   (try simp only[f,i,j,p,J,H,bt,dn,hds,hth,hX2,reduceIte])
   all_goals rfl
 refine dR hs ?_
 exact⟨_,rfl,⟨#[vB a.code,vB a.fail,vW a.addr,vW a.count,vW a.value,vW a.and_,vW a.or_,vW a.addr2,vW a.sub,vW a.status,vW a.events,vW a.messages,.slice q a.words.length r,.slice s a.bits.length t,.slice u a.data.length v,.slice y a.recs.length z,vB a.mei,vB a.kind,vB a.level,vB a.more,vB a.next,.slice B a.objects.length C],(by as_aux_lemma=>kernel_rfl),(aE.lo (aE.upd a7 (uz ab W) (ak (aW (ub (aH l (aH F V)) d) (by decide)) aK)) T.size),b8 (x:=(x.getD 0 0)) (by omega),co (x:=0) (by omega)⟩,(ud ac W k)⟩
theorem u5{m:Md}{v:Value}{b:List Int}{w:World}{dir:Int}(h:aR m w v b)(hb:b.length≤1048576) : Calls Tryz.prog 56 #[.int .i64 dir,v] w (nF (e9 dir b) w):=by
  obtain⟨A,cp,rfl,_,_⟩:=h.shape
  exact s8 h hb
open Go.RowKit
def tk (u:Int)(l:List Int) : List Int:=([58]++dN (([u]++l)++[cY ([u]++l)]))++[13,10]
def gV (dir u t:Int)(M:b6) : Option (List Int) :=
  match dD dir M with
  | none=>none
  | some l=>if t != 0 then none else some (tk u l)
def yd (res:Option (List Int))(w:World)(e:Ending)(w':World) : Prop :=
  match res with
  | some l=>∃ v,e = .returned (.tuple #[v,.int .i64 0])∧iY w.heap.size w' v l∧ap [] w w'
  | none=>e = .returned (.tuple #[.slice none 0 0,.int .i64 1])∧ap [] w w'
theorem iY.weaken{base base':Nat}{w:World}{v:Value}{xs:List Int}(h:iY base w v xs)(k:base'≤base) : iY base' w v xs:=by
  obtain⟨g,cap,cur,n,h1,h2,h3⟩:=h
  exact⟨g,cap,cur,n,h1,Nat.le_trans k h2,h3⟩
theorem uA(b:List Int) : 0≤cY b∧cY b<256:=by unfold cY;omega
theorem np{m:Md}{cs:Array Value}{M:b6}{w:World}{dir u t:Int}(h:aE m w cs.toList M)(hf:bf M)(hu:B8 u)(ht:eo t) : Calls Tryz.prog 266 #[vI dir,.agg (#[vB u,vW t]++cs)] w (yd (gV dir u t M) w):=by
 have hM:=h
 obtain⟨hu1,hu2⟩:=hu
 obtain⟨ht1,ht2⟩:=ht
 refine iK h fun Aw kw Ab kb Ad kd Ar kr Ao ko e hw hbt hd hr ho _ _ _ _ _ _ _ _ _ _ q0 q1 q2 q3 q4 q5 q6 q7 q8 q9 W X Y Z a0 a1 a2=>?_
 subst e
 refine en 39 Tryz.func266 rfl<|sg<|L0<|cU #[vB u,vW t,vB M.code,vB M.fail,vW M.addr,vW M.count,vW M.value,vW M.and_,vW M.or_,vW M.addr2,vW M.sub,vW M.status,vW M.events,vW M.messages,.slice Aw M.words.length kw,.slice Ab M.bits.length kb,.slice Ad M.data.length kd,.slice Ar M.recs.length kr,vB M.mei,vB M.kind,vB M.level,vB M.more,vB M.next,.slice Ao M.objects.length ko] fun a3 a4 a5 o c=>Pl 2<|aS 2<|L0<|Cf o 2 22<|?_
 rcases hwr:dD dir M with _|lw
 have p:=eV (dir:=dir) (aE.old hM c) hf
 rw[hwr] at p
 refine aF<|m1 p fun a6 C=>al 5<|sq<|ay 8<|c1<|au 2<|nl<|tn<|bJ<|rr (.tuple #[nS,vI 1])<|?_
 exact dA (y:=none) (by unfold gV;(try simp only[hwr,bt,reduceIte])<;>rfl) ⟨rfl,(aH c C)⟩
 have hlw:=gq hwr
 have q:=eV (dir:=dir) (aE.old hM c) hf
 rw[hwr] at q
 refine aF<|eU q fun a7 a8 a9 D aa ab k=>al 5<|sq<|au 5<|?_
 have r:=ub k o
 refine L1<|ii r 1<|al 2<|?_
 have s:=aH c k
 refine cb ((t != 0)) (fun d=>?_) (fun d=>?_)
 have E:=aN d
 exact ay 2<|bJ<|rr (.tuple #[nS,vI 1])<|dA (y:=none) (by unfold gV;(try simp only[hwr,d,bt,reduceIte])<;>rfl) ⟨rfl,s⟩
 have E:=aV d
 refine bU<|au 2<|ax r 0<|L0<|dv (m:=1) (e:=5) #[vB u] fun F ac G H f=>?_
 have v:=dF G (xs:=[u]) (by as_aux_lemma=>kernel_rfl) (am (by omega) aY) (by(try simp only[List.length_cons,List.length_nil]);omega) H
 refine Pl 1<|?_
 refine L0<|cZ bh (xs:=([u])) (ys:=lw) (vB 0) 1 v ((aj D f (fun x hx=>az) (fun _ _ h=>h))).rd (by(try simp only[cl,aq]);omega) f.size fun g I ad l n=>Pl 1<|aS 2<|aF (args:=#[.slice g (([u]++lw).length) I])<|m1 (mR (l).rd) fun ae i=>?_
 have af:=uA ([u]++lw)
 refine L0<|dv (m:=1) (e:=5) #[vB (cY ([u]++lw))] fun ag ai J K j=>?_
 have L:=dF J (xs:=[(cY ([u]++lw))]) (by as_aux_lemma=>kernel_rfl) (am (by omega) aY) (by(try simp only[List.length_cons,List.length_nil]);omega) K
 refine L0<|cZ bh (xs:=([u]++lw)) (ys:=([(cY ([u]++lw))])) (vB 0) 1 (aj (aj l i (fun x hx=>az) (fun _ _ h=>h)) j (fun x hx=>az) (fun _ _ h=>h)) (L).rd (by(try simp only[cl,aq]);omega) (le (le (le f.size n.size) i.size) j.size) fun N O ak z A=>aF (args:=#[.slice N ((([u]++lw)++[(cY ([u]++lw))]).length) O])<|m1 (xO (z).rd (by simp only[cl];omega)) fun an B=>?_
 have P:dw (dN (([u]++lw)++[(cY ([u]++lw))])):=mH (aR.range (z).rd)
 have Q:dw ([58]++(dN (([u]++lw)++[(cY ([u]++lw))]))):=pW (by decide) P
 refine L0<|iq (.string (strOfNums ([58]++(dN (([u]++lw)++[(cY ([u]++lw))]))))) (qn (a:=⟨#[58]⟩) (b:=(strOfNums (dN (([u]++lw)++[(cY ([u]++lw))])))) (xs:=([58])) (ys:=(dN (([u]++lw)++[(cY ([u]++lw))]))) rfl (by kernel_rfl) (by kernel_rfl) rfl rfl (by simp only[eF,List.length_append,List.length_cons,List.length_nil];omega))<|?_
 have R:dw (([58]++(dN (([u]++lw)++[(cY ([u]++lw))])))++[13,10]):=pW Q (by decide)
 refine L0<|iq (.string (strOfNums (([58]++(dN (([u]++lw)++[(cY ([u]++lw))])))++[13,10]))) (qn (a:=(strOfNums ([58]++(dN (([u]++lw)++[(cY ([u]++lw))]))))) (b:=⟨#[13,10]⟩) (xs:=([58]++(dN (([u]++lw)++[(cY ([u]++lw))])))) (ys:=([13,10])) rfl (by kernel_rfl) (by kernel_rfl) rfl rfl (by simp only[eF,List.length_append,List.length_cons,List.length_nil];omega))<|L0<|DX (xs:=(([58]++(dN (([u]++lw)++[(cY ([u]++lw))])))++[13,10])) Tryz.underlying9 Tryz.underlying27 Tryz.underlying5 R (by simp only[eF,List.length_append,List.length_cons,List.length_nil];omega) fun S T ao U V=>al 2<|rt<|rr (.tuple #[.slice S ((([58]++(dN (([u]++lw)++[(cY ([u]++lw))])))++[13,10]).length) T,vI 0])<|?_
 exact dA (y:=(some (([58]++(dN (([u]++lw)++[(cY ([u]++lw))])))++[13,10]))) (by unfold gV;(try simp only[hwr,d,bt,reduceIte])<;>rfl) ⟨_,rfl,U.weaken (le (le (le (le (le (le (le c.size k.size) f.size) n.size) i.size) j.size) A.size) B.size),(aH s (ut f (ut (ap.mono (S':=(ob (some ⟨F,0,none⟩)++(ob g++[]))) n (ah il aB)) (ut (ap.mono (S':=(ob g++[])) i aB) (ut (ap.mono (S':=(ob g++[])) j aB) (aH A (aH B V)) (ah il aB)) (ah il aB)) (ah il aB)) (ah (aT v lr) (ah (aT l lr) aB))))⟩
open Go.RowKit
theorem kz{m:Md}{v:Value}{b:List Int}{w:World}{dir:Int}{F:bu}{E:Int}(hX:e9 dir b=(F,E))(h:aR m w v b)(hb:b.length≤1048576) : Calls Tryz.prog 56 #[.int .i64 dir,v] w (fun e w'=>∃ x,e = .returned (.tuple #[.agg (ep F.unit F.tid F.msg x),.int .i64 E])∧(aE (.hi w.heap.size) w' (j6 F.msg x).toList F.msg∧(0≤F.unit∧F.unit<256)∧(0≤F.tid∧F.tid<65536))∧ap [] w w'):=by
  refine(u5 h hb).mono ?_
  rintro e w' ⟨cs,rfl,h1,h2⟩
  rw[hX] at h1 ⊢
  obtain⟨c,rfl,h3,h4,h5⟩:=h1
  obtain⟨x,rfl⟩:=rP h3
  exact⟨x,by rw[fv],⟨h3,h4,h5⟩,h2⟩
theorem ou{m:Md}{x:SL}{M:b6}{w:World}{dir u t:Int}(hX:gV dir u t M=none)(h:aE m w (j6 M x).toList M)(hf:bf M)(hu:0≤u∧u<256)(ht:0≤t∧t<65536) : Calls Tryz.prog 266 #[.int .i64 dir,.agg (ep u t M x)] w (fun e w'=>e = .returned (.tuple #[.slice none 0 0,.int .i64 1])∧ap [] w w'):=by
  have:=np (dir:=dir) h hf hu ht
  rw[hX] at this
  rw[fv]
  exact this
theorem pp{m:Md}{x:SL}{M:b6}{w:World}{dir u t:Int}{l:List Int}(hX:gV dir u t M=some l)(h:aE m w (j6 M x).toList M)(hf:bf M)(hu:0≤u∧u<256)(ht:0≤t∧t<65536) : Calls Tryz.prog 266 #[.int .i64 dir,.agg (ep u t M x)] w (fun e w'=>∃ v,e = .returned (.tuple #[v,.int .i64 0])∧iY w.heap.size w' v l∧ap [] w w'):=by
  have:=np (dir:=dir) h hf hu ht
  rw[hX] at this
  rw[fv]
  exact this
open Go.RowKit
theorem yn{P:Program}{w:World}{t e:TypeId}{g n c:Nat}{C:Array Value}(ht:P.underlying t=some (.slice e))(he:P.underlying e=some (.int .u8))(hb:w.heap[g]? = some (.cells C e (0,0))) :
    ∃ w2,(convert t t (.slice (some ⟨g,0,none⟩) n c)).run P w = .ok (.slice (some ⟨g,0,none⟩) n c) w2∧w2.heap[g]? = some (.cells C e (C.size,C.size+1))∧ap [g] w w2:=by
  have hsh:w.shape? g=some (e,C.size):=by
    unfold World.shape?
    rw[hb]
  refine⟨w.freeze ⟨g,C.size,none⟩ 1,?_,?_,?_⟩
  · simp[convert,run_underlying ht,run_underlying he,markStringish,hsh]
  · unfold World.freeze
    rw[if_neg (by decide)]
    simp[Array.getElem?_modify,hb]
  · unfold World.freeze
    rw[if_neg (by decide)]
    refine⟨rfl,rfl,rfl,by simp,fun k hk hn=>?_⟩
    have hne:¬ g=k:=fun q=>hn (by rw[q];exact List.mem_singleton.2 rfl)
    simp[Array.getElem?_modify,hne]
theorem yC{w:World}{g:Nat}{C:Array Value}{fr:Nat × Nat}{xs:List Int}(hb:w.heap[g]? = some (.cells C 5 fr))(hC:C=(xs.map (Value.int .u8)).toArray)(hr:∀ x,x∈xs→0≤x∧x<256)(hl:xs.length≤4194304) : aR true w (.slice (some ⟨g,0,none⟩) xs.length xs.length) xs:=by
  refine⟨_,xs.length,rfl,Nat.le_refl _,by unfold maxLen;omega,(fun h=>by cases h),fun _=>⟨g,0,C,_,fr,rfl,hb,(fun _=>⟨rfl,Nat.zero_le _⟩),fun j x hj=>?_⟩⟩
  refine⟨[.int .u8 x],rfl,⟨rfl,hr x (List.mem_of_getElem? hj)⟩,fun i u hi=>?_⟩
  cases i with
  | succ i=>simp at hi
  | zero =>
    have hi:Value.int .u8 x=u:=by simpa using hi
    subst hi
    subst hC
    simp only[Nat.zero_add,Nat.mul_one,Nat.add_zero]
    rw[List.getElem?_toArray,List.getElem?_map,hj]
    rfl
section
variable {P:Program}{n:Nat}{D:List Deferred}{F:Fr}{w:World}{K:Fr→World→Prop}{Q:Exit→Act→World→Prop}{d:Option Tmp}{t:TypeId}{s:String}{af:Array Edge}{gu:Option (Nat × Bool)}
theorem D2{ty e:TypeId}{x:Operand}{g m c:Nat}{C:Array Value}(hb:w.heap[g]? = some (.cells C e (0,0)))(h:∀ w',w'.heap[g]? = some (.cells C e (C.size,C.size+1))→ap [g] w w'→K (pt d (.slice (some ⟨g,0,none⟩) m c) F) w')
    (hx:dM F x=some (.slice (some ⟨g,0,none⟩) m c):=by kernel_rfl) (hs:(ol P ty,P.underlying e,ey n d)=(some e,some (.int .u8),true):=by kernel_rfl) : OG P ⟨d,.convert ty ty x,t,s,af,gu⟩ n D F w K Q:=by
  simp only[Prod.mk.injEq] at hs
  obtain⟨h1,h2,h3⟩:=hs
  obtain⟨w2,hr,hB,hu⟩:=yn (n:=m) (c:=c) (dS h1) h2 hb
  refine⟨fun a ha K' hK=>OW.mk ?_⟩
  have hx':=ha.ev hx
  unfold Oper.wp execOp
  simp only[hx',Sem.run_bind,Sem.run_pure,hr,Result.andThen_ok]
  exact hK _ _ _ (h w2 hB hu) (ha.put h3)
end
open Go.RowKit
structure SA where
  dir:Int
  held:List Int
abbrev Eb (S:SA) (A:Option Addr) (cp:Nat) : Array Value:=#[.int .i64 S.dir,.slice A S.held.length cp]
abbrev A7 (w:World) (g:Nat) (S:SA) (A:Option Addr) (cp:Nat) : Prop:=w.heap[g]? = some (.cells (Eb S A cp) 95 (0,0))
def SA.tail (d:Int)(h:List Int) : SA × List Ev:=if decide (513<((h.length:Nat) : Int))=true then (⟨d,[]⟩,[Ev.bad 3]) else if iy h [13,10]=true then (⟨d,[]⟩,[Ev.mk (e9 d h).2 (e9 d h).1]) else (⟨d,h⟩,[])
def SA.byte (S:SA)(c:Int) : SA × List Ev:=if ((c==58)&&(decide (0<((S.held.length:Nat) : Int))))=true then (⟨S.dir,[58]⟩,[Ev.bad 12]) else if ((c != 58)&&(((S.held.length:Nat) : Int)==0))=true then (S,[]) else SA.tail S.dir (S.held++[c])
def SA.feed (S:SA)(b:List Int) : SA × List Ev:=b.foldl (fun p c=>((p.1.byte c).1,p.2++(p.1.byte c).2)) (S,[])
def SA.ok (S:SA) : Prop:=(∀ x,x∈S.held→0≤x∧x<256)∧S.held.length≤513
theorem SA.ok_le{S:SA}(h:S.ok) : S.held.length≤513:=h.2
theorem SA.byte_ok{S S2:SA}{c:Int}{L2:List Ev}(h:S.ok)(hc:0≤c∧c<256)(hx:S.byte c=(S2,L2)) : S2.ok∧L2.length≤1:=by
  have h0:∀ d,(SA.mk d []).ok:=fun d=>⟨fun x hx=>(by cases hx),Nat.zero_le _⟩
  unfold SA.byte at hx
  split at hx
  · injection hx with e1 e2
    subst e1 e2
    exact⟨⟨fun x hx=>(by rw[List.mem_singleton] at hx;rw[hx];decide),(by show 1≤513;decide)⟩,Nat.le_refl _⟩
  split at hx
  · injection hx with e1 e2
    subst e1 e2
    exact⟨h,Nat.zero_le _⟩
  unfold SA.tail at hx
  split at hx
  · injection hx with e1 e2
    subst e1 e2
    exact⟨h0 _,Nat.le_refl _⟩
  rename_i hl
  split at hx
  · injection hx with e1 e2
    subst e1 e2
    exact⟨h0 _,Nat.le_refl _⟩
  · injection hx with e1 e2
    subst e1 e2
    refine⟨⟨fun x hx=>?_,?_⟩,Nat.zero_le _⟩
    · rcases List.mem_append.1 hx with k | k
      · exact h.1 x k
      · rw[List.mem_singleton] at k;rw[k];exact hc
    · simp only[decide_eq_true_eq] at hl
      show(S.held++[c]).length≤513
      omega
theorem j8{S0 T T2:SA}{L L2:List Ev}{b:List Int}{k:Nat}(hk:k<b.length)(h:(T,L)=S0.feed (b.take k))(hx:T.byte (b.getD k 0)=(T2,L2)) : (T2,L++L2)=S0.feed (b.take (k+1)):=by
  rw[List.take_succ_eq_append_getElem hk]
  unfold SA.feed at h ⊢
  rw[List.foldl_append,← h]
  rw[List.getD_eq_getElem?_getD,List.getElem?_eq_getElem hk] at hx
  simp only[Option.getD_some] at hx
  simp only[List.foldl_cons,List.foldl_nil,hx]
theorem oD{S0 T T2:SA}{L:List Ev}{b:List Int}{k:Nat}(hk:k<b.length)(h:(T,L)=S0.feed (b.take k))(hx:T.byte (b.getD k 0)=(T2,[])) : (T2,L)=S0.feed (b.take (k+1)):=by
  have:=j8 hk h hx
  rwa [List.append_nil] at this
theorem Cg{T:SA}{c:Int}(h:((c==58)&&(decide (0<((T.held.length:Nat) : Int))))=true) : T.byte c=(⟨T.dir,[58]⟩,[Ev.bad 12]):=by unfold SA.byte;rw[if_pos h]
theorem BO{T:SA}{c:Int}(h:((c==58)&&(decide (0<((T.held.length:Nat) : Int))))=false)(h2:((c != 58)&&(((T.held.length:Nat) : Int)==0))=true) : T.byte c=(T,[]):=by unfold SA.byte;rw[if_neg (by rw[h];decide),if_pos h2]
theorem BD{T:SA}{c:Int}(h:((c==58)&&(decide (0<((T.held.length:Nat) : Int))))=false)(h2:((c != 58)&&(((T.held.length:Nat) : Int)==0))=false)(h3:decide (513<(((T.held++[c]).length:Nat) : Int))=true) : T.byte c=(⟨T.dir,[]⟩,[Ev.bad 3]):=by unfold SA.byte;rw[if_neg (by rw[h];decide),if_neg (by rw[h2];decide)];unfold SA.tail;rw[if_pos h3]
theorem zZ{T:SA}{c:Int}{F:bu}{E:Int}(h:((c==58)&&(decide (0<((T.held.length:Nat) : Int))))=false)(h2:((c != 58)&&(((T.held.length:Nat) : Int)==0))=false)(h3:decide (513<(((T.held++[c]).length:Nat) : Int))=false)(h4:iy (T.held++[c]) [13,10]=true)(hX:e9 T.dir (T.held++[c])=(F,E)) : T.byte c=(⟨T.dir,[]⟩,[Ev.mk E F]):=by unfold SA.byte;rw[if_neg (by rw[h];decide),if_neg (by rw[h2];decide)];unfold SA.tail;rw[if_neg (by rw[h3];decide),if_pos h4,hX]
theorem Ch{T:SA}{c:Int}(h:((c==58)&&(decide (0<((T.held.length:Nat) : Int))))=false)(h2:((c != 58)&&(((T.held.length:Nat) : Int)==0))=false)(h3:decide (513<(((T.held++[c]).length:Nat) : Int))=false)(h4:iy (T.held++[c]) [13,10]=false) : T.byte c=(⟨T.dir,T.held++[c]⟩,[]):=by unfold SA.byte;rw[if_neg (by rw[h];decide),if_neg (by rw[h2];decide)];unfold SA.tail;rw[if_neg (by rw[h3];decide),if_neg (by rw[h4];decide)]
def DP (base n0:Nat)(S2:SA)(L:List Ev)(g:Nat)(A:Option Addr)(w:World)(e:Ending)(w':World) : Prop:=∃ v A2 cp2 n2,e = .returned v∧dk n2 w.heap.size w' v L∧A7 w' g S2 A2 cp2∧cn base w' (.slice A2 S2.held.length cp2) S2.held∧(∀ x,x∈ob A2→x∈ob A∨w.heap.size≤x)∧(n0≤n2∧n2≤w'.heap.size)∧(∀ x,x∈ob A2→n2≤x)∧ap (g :: (ob A++[])) w w'
theorem jJ{b:List Int}(h:∀ x,x∈b→0≤x∧x<256)(k:Nat) : 0≤b.getD k 0∧b.getD k 0<256:=by
  rw[List.getD_eq_getElem?_getD]
  cases hj:b[k]? with
  | none=>simp
  | some x=>exact h x (List.mem_of_getElem? hj)
theorem tX{w:World}:Calls Tryz.prog 21 #[vI 0] w (fun e w'=>∃ g,e = .returned (vP g 0)∧w.heap.size≤g∧A7 w' g ⟨0,[]⟩ none 0∧ap [] w w'):=by
 exact en 12 Tryz.func21 rfl<|ay 1<|sq<|ay 6<|c0<|sk<|tn<|au 2<|L0<|cU #[vI 0,nS] fun a f b c d=>al 1<|rt<|rr (vP a 0)<|⟨a,rfl,b,c,d⟩
theorem tp{w:World}:Calls Tryz.prog 21 #[vI 1] w (fun e w'=>∃ g,e = .returned (vP g 0)∧w.heap.size≤g∧A7 w' g ⟨1,[]⟩ none 0∧ap [] w w'):=by
 exact en 12 Tryz.func21 rfl<|ay 1<|sq<|ay 6<|c0<|sk<|tn<|au 2<|L0<|cU #[vI 1,nS] fun a f b c d=>al 1<|rt<|rr (vP a 0)<|⟨a,rfl,b,c,d⟩
theorem ra{w:World}{g base:Nat}{S:SA}{A:Option Addr}{cp:Nat}{m:Md}{B:Option Addr}{cpb:Nat}{b:List Int}(hb:A7 w g S A cp)(ho:cn base w (.slice A S.held.length cp) S.held)(hbs:base≤w.heap.size)(hok0:S.ok){n0:Nat}(hn0:n0≤w.heap.size)(hlo:∀ x,x∈ob A→n0≤x)(hsl:aR m w (.slice B b.length cpb) b)(hdg:0<b.length→∀ x,x∈ob B→x≠g)(hda:ma b.length B (ob A))(hbl:b.length≤1048576) :
    Calls Tryz.prog 22 #[vP g 0,.slice B b.length cpb] w (DP base n0 (S.feed b).1 (S.feed b).2 g A w):=by
 have hdl:=aP.low hsl
 have hok0l:=SA.ok_le hok0
 have hrb:=aR.range hsl
 refine en 98 Tryz.func22 rfl<|ay 1<|E8<|ay 1<|sq<|DZ<|tn<|sq<|ay 3<|bk<|?_
 refine js (fun x=>[(0,vP g 0),(4,nS),(5,.slice x.2.2.2.2.2.1 x.2.2.1.length x.2.2.2.2.2.2.1),(10,.slice B b.length cpb),(11,vI (b.length:Int)),(12,vI (x.1:Int))]) (fun(x:Nat × SA × List Ev × Option Addr × Nat × Option Addr × Nat × Nat) w'=>ap (g :: (ob A++[])) w w'∧A7 w' g x.2.1 x.2.2.2.1 x.2.2.2.2.1∧cn base w' (.slice x.2.2.2.1 x.2.1.held.length x.2.2.2.2.1) x.2.1.held∧dk x.2.2.2.2.2.2.2 w.heap.size w' (.slice x.2.2.2.2.2.1 x.2.2.1.length x.2.2.2.2.2.2.1) x.2.2.1∧x.2.2.2.2.2.2.2≤w'.heap.size∧aR m w' (.slice B b.length cpb) b∧((x.2.1,x.2.2.1)=S.feed (b.take x.1))∧(x.2.1.ok)∧(x.2.1.held.length≤513)∧(x.1≤b.length)∧(x.2.2.1.length≤x.1)∧(∀ y,y∈ob x.2.2.2.1→y∈ob A∨w.heap.size≤y)∧(n0≤x.2.2.2.2.2.2.2)∧(∀ y,y∈ob x.2.2.2.1→x.2.2.2.2.2.2.2≤y)) (fun x=>b.length-x.1) (0,S,[],A,cp,none,0,n0) ⟨ap.refl _ _,hb,ho,(aJ.nil w.heap.size _ _ (bi w.heap.size n0) _),(Nat.le_trans hn0 lr),hsl,rfl,hok0,hok0l,(by(try dsimp only);exact Nat.zero_le _),(by(try dsimp only);exact Nat.zero_le _),jr,(by(try dsimp only);exact Nat.le_refl _),hlo⟩ ?_
 rintro⟨k,T,L,Ah,ch,Bq,cq,n⟩ M ⟨d,c9,ca,cc,cd,cf,cg,ci,cj,ck,cm,co,cr,ct⟩
 refine ip [(0,vP g 0),(4,nS),(5,.slice Bq L.length cq),(10,.slice B b.length cpb),(11,vI (b.length:Int)),(12,vI (k:Int))] ?_
 have f:A7 M g T Ah ch:=c9
 have t:cn base M (.slice Ah T.held.length ch) T.held:=ca
 have a:dk n w.heap.size M (.slice Bq L.length cq) L:=cc
 have cu:n≤M.heap.size:=cd
 have hnl:=cu
 have D:aR m M (.slice B b.length cpb) b:=cf
 have cw:(T,L)=S.feed (b.take k):=cg
 have cx:T.ok:=ci
 have dP:T.held.length≤513:=cj
 have dQ:k≤b.length:=ck
 have dR:L.length≤k:=cm
 have cy:∀ y,y∈ob Ah→y∈ob A∨w.heap.size≤y:=co
 have cz:n0≤n:=cr
 have cA:∀ y,y∈ob Ah→n≤y:=ct
 have hlow:=cA
 have hn0l:=cz
 have hat0:=cy
 have hok:=cx
 have hpj:=cw
 have hle:=SA.ok_le hok
 refine ay 1<|sq<|cb ((decide ((k:Int)<(b.length:Int)))) (fun ab=>?_) (fun ab=>?_)
 have cB:=of_decide_eq_true ab
 refine bU<|sq<|bk<|sg<|jc (aR.at_ D k (by omega)) fun cC cD cE cF dS=>L0<|pf b.length k cE (by omega)<|L0<|m8 (p:=⟨cC,cD+k,none⟩) (v:=vB (b.getD k 0)) cF<|al 1<|sq<|bk<|au 3<|gy 7 [19] 26 19 ((b.getD k 0)==58) (decide (0<(T.held.length:Int))) (fun K cG cI=>?_) ?_
 have dU:=aC cI
 exact Pl 3<|L1<|ii f 1<|Pl 3<|ce cG _ rfl
 refine al 1<|cb ((((b.getD k 0)==58)&&(decide (0<(T.held.length:Int))))) (fun r=>?_) (fun r=>?_)
 have cJ:=(bK r).1
 have cK:=(bK r).2
 have dV:=aC cJ
 have dW:=of_decide_eq_true cK
 refine au 2<|L0<|dv (m:=1) (e:=87) #[vI 12,vB 0,vW 0,vB 0,vB 0,vW 0,vW 0,vW 0,vW 0,vW 0,vW 0,vW 0,vW 0,vW 0,vW 0,nS,nS,nS,nS,vB 0,vB 0,vB 0,vB 0,vB 0,nS] fun dX ad cL cM l=>?_
 have cN:=nE (m:=.hi w.heap.size) (w0:=M) (x:=(Ev.bad 12)) cL cM ⟨⟨none,0,none,0,none,0,none,0,none,0⟩,by kernel_rfl,ny,(show(0:Int)≤0∧(0:Int)<256 from by decide),(show(0:Int)≤0∧(0:Int)<65536 from by decide)⟩
 have bd:=aj a l (fun x hx=>az) (fun x cs q=>bi.upd l bZ q)
 have cO:n≤ad.heap.size:=Nat.le_trans hnl l.size
 refine L0<|i3 (R:=bi w.heap.size ad.heap.size) (xs:=L) (ys:=([Ev.bad 12])) (.agg #[vI 0,vB 0,vW 0,vB 0,vB 0,vW 0,vW 0,vW 0,vW 0,vW 0,vW 0,vW 0,vW 0,vW 0,vW 0,nS,nS,nS,nS,vB 0,vB 0,vB 0,vB 0,vB 0,nS]) 25 168 (dk.up cO (Nat.le_refl _) bd) (qF cN).rd bi.ones (fun w' hv x cs q=>bi.upd hv (kk bd (by decide) bZ) q) (by(try simp only[cl,aq]);omega) (le d.size l.size) fun cQ cR dY be E dZ=>Pl 1<|aS 1<|L0<|dv (m:=1) (e:=5) #[vB 58] fun bf e0 cS cT af=>?_
 have V:=dF cS (xs:=[58]) (by as_aux_lemma=>kernel_rfl) (am (by omega) aY) (by(try simp only[List.length_cons,List.length_nil]);omega) cT
 refine Pl 2<|?_
 have bg:=ut (ap.mono (S':=(ob Bq++[])) l aB) (aH E af) (ah il aB)
 refine L0<|cv (ap.blk bg (aM (aD (ai hb) lr a) az) f) 1 #[vI T.dir,.slice (some ⟨bf,0,none⟩) 1 1] fun e1 cU W=>nt<|xt<|CA<|tx<|bx<|tn<|go<|bA ((k:Int)+1)<|Pl 1<|nl<|?_
 have bh:=u1 (ap.mono (S':=(ob Bq++(g :: []))) bg (ah il aB)) W im
 have bj:=uz af W
 have bl:=Cg (T:=T) (c:=(b.getD k 0)) r
 have bm:=SA.byte_ok hok (jJ hrb k) bl
 exact fM ((k+1),(SA.mk T.dir [58]),(L++[Ev.bad 12]),some ⟨bf,0,none⟩,1,cQ,cR,ad.heap.size) ⟨(ut d bh (ah (aT a lr) (ac im aB))),cU,(vJ (Nat.le_trans hbs (le (le d.size l.size) E.size)) (aj V W (fun x hx=>(aa (fun e=>(aD (ai hb) (le (le d.size l.size) E.size) V) (e▸hx)) az)) (fun _ _ h=>h))),(aj be bj (fun x hx=>(aa (fun e=>(aD (ai hb) lr be) (e▸hx)) az)) (fun x cs q=>bi.upd bj (f6 (ap.blk (ut (ap.mono (S':=(ob Bq++[])) l aB) E (ah il aB)) (aM (aD (ai hb) lr a) az) f) (by decide) bZ) q)),(le (le E.size af.size) W.size),(aR.far D bh (dq (fG hdl a (Nat.le_refl _)) (dT hdg eD))),(by(try dsimp only);exact j8 (by omega) hpj bl),(by(try dsimp only);exact bm.1),(by(try dsimp only);have q:=SA.ok_le bm.1;exact q),(by(try dsimp only);omega),(by(try dsimp only);(try simp only[cl]);omega),(by(try dsimp only);exact(zO V (le (le d.size l.size) E.size))),(by(try dsimp only);exact Nat.le_trans hn0l (Nat.le_trans hnl l.size)),(by(try dsimp only);exact(zy V E.size))⟩ (by omega)
 refine au 3<|gy 7 [38] 45 38 ((b.getD k 0)!=58) ((T.held.length:Int)==0) (fun K cV cW=>?_) ?_
 have e3:=aN cW
 exact Pl 3<|L1<|ii f 1<|Pl 3<|ce cV _ rfl
 refine al 1<|cb ((((b.getD k 0)!=58)&&((T.held.length:Int)==0))) (fun u=>?_) (fun u=>?_)
 have cX:=(bK u).1
 have cY:=(bK u).2
 have e4:=aN cX
 have e5:=aC cY
 refine xt<|CA<|tx<|bx<|tn<|go<|bA ((k:Int)+1)<|Pl 1<|nl<|?_
 have bo:=BO (T:=T) (c:=(b.getD k 0)) r u
 have bp:=SA.byte_ok hok (jJ hrb k) bo
 exact fM ((k+1),T,L,Ah,ch,Bq,cq,n) ⟨d,f,t,a,(Nat.le_trans hnl lr),D,(by(try dsimp only);exact oD (by omega) hpj bo),(by(try dsimp only);exact bp.1),(by(try dsimp only);have q:=SA.ok_le bp.1;exact q),(by(try dsimp only);omega),(by(try dsimp only);(try simp only[cl]);omega),(by(try dsimp only);exact hat0),(by(try dsimp only);exact hn0l),(by(try dsimp only);exact hlow)⟩ (by omega)
 refine sk<|bn<|tn<|au 4<|ax f 1<|Pl 1<|L0<|dv (m:=1) (e:=5) #[vB (b.getD k 0)] fun e6 e7 cZ d0 i=>?_
 have d1:=dF cZ (xs:=[(b.getD k 0)]) (by as_aux_lemma=>kernel_rfl) (am (by omega) aY) (by(try simp only[List.length_cons,List.length_nil]);omega) d0
 refine L0<|i3 (R:=jH) (xs:=T.held) (ys:=([(b.getD k 0)])) (vB 0) 1 1 (aj t i (fun x hx=>az) (fun _ _ h=>h)) (d1).rd kL (fun _ _ _ _ h=>h) (by(try simp only[cl,aq]);omega) (Nat.le_trans hbs (le d.size i.size)) fun X Y e8 bq z br=>Pl 2<|?_
 have bs:=ut (ap.mono (S':=(ob Ah++[])) i aB) z (ah il aB)
 have bt:=ap.blk bs (aM (aX f t (by decide)) az) f
 refine L0<|cv bt 1 #[vI T.dir,.slice X ((T.held++[(b.getD k 0)]).length) Y] fun d2 O s=>nt<|sq<|bk<|au 3<|ax O 1<|al 3<|?_
 have N:=u1 (ap.mono (S':=(ob Ah++(g :: []))) bs (ah il aB)) s im
 have bu:=ut d N (ah (kQ hat0 il lr) (ac im aB))
 refine cb ((decide (513<((T.held++[(b.getD k 0)]).length:Int)))) (fun F=>?_) (fun F=>?_)
 have d3:=of_decide_eq_true F
 refine go<|Pl 2<|L0<|dv (m:=1) (e:=87) #[vI 3,vB 0,vW 0,vB 0,vB 0,vW 0,vW 0,vW 0,vW 0,vW 0,vW 0,vW 0,vW 0,vW 0,vW 0,nS,nS,nS,nS,vB 0,vB 0,vB 0,vB 0,vB 0,nS] fun ea ag d4 d5 an=>?_
 have d6:=nE (m:=.hi w.heap.size) (w0:=d2) (x:=(Ev.bad 3)) d4 d5 ⟨⟨none,0,none,0,none,0,none,0,none,0⟩,by kernel_rfl,ny,(show(0:Int)≤0∧(0:Int)<256 from by decide),(show(0:Int)≤0∧(0:Int)<65536 from by decide)⟩
 have Z:=aH N an
 have bv:=aj a Z (fun x hx=>(aM ((dz a t (by decide)) x hx) (aa (fun e=>(aD (ai hb) lr a) (e▸hx)) az))) (fun x cs q=>bi.upd Z (iz hlow (f6 f (by decide) bZ)) q)
 have d7:n≤ag.heap.size:=Nat.le_trans hnl Z.size
 refine L0<|i3 (R:=bi w.heap.size ag.heap.size) (xs:=L) (ys:=([Ev.bad 3])) (.agg #[vI 0,vB 0,vW 0,vB 0,vB 0,vW 0,vW 0,vW 0,vW 0,vW 0,vW 0,vW 0,vW 0,vW 0,vW 0,nS,nS,nS,nS,vB 0,vB 0,vB 0,vB 0,vB 0,nS]) 25 168 (dk.up d7 (Nat.le_refl _) bv) (qF d6).rd bi.ones (fun w' hv x cs q=>bi.upd hv (kk bv (by decide) bZ) q) (by(try simp only[cl,aq]);omega) (le (le (le (le d.size i.size) z.size) s.size) an.size) fun d8 d9 eb bw bz ed=>Pl 1<|nl<|bn<|tn<|go<|Pl 3<|?_
 have bB:=ut (ap.mono (S':=(ob Bq++[])) an aB) bz (ah il aB)
 have bC:=ap.blk bB (aM (aD (ai hb) lr a) az) O
 refine L0<|cv bC 1 #[vI T.dir,nS] fun ee da a0=>nl<|bn<|tn<|go<|bA ((k:Int)+1)<|Pl 1<|nl<|?_
 have bD:=u1 (ap.mono (S':=(ob Bq++(g :: []))) bB (ah il aB)) a0 im
 have bE:=BD (T:=T) (c:=(b.getD k 0)) r u F
 have bF:=SA.byte_ok hok (jJ hrb k) bE
 exact fM ((k+1),(SA.mk T.dir []),(L++[Ev.bad 3]),none,0,d8,d9,ag.heap.size) ⟨(ut bu bD (ah (aT a lr) (ac im aB))),da,(aJ.nil base _ _ jH _),(aj bw a0 (fun x hx=>(aa (fun e=>(aD (ai hb) lr bw) (e▸hx)) az)) (fun x cs q=>bi.upd a0 (f6 bC (by decide) bZ) q)),(le bz.size a0.size),(aR.far D (ut (ap.mono (S':=(ob Ah++(g :: (ob Bq++[])))) N (ah il (ac im aB))) bD (ah il (ac im aB))) (dq (fL hda hdl hat0) (dT hdg (dq (fG hdl a (Nat.le_refl _)) eD)))),(by(try dsimp only);exact j8 (by omega) hpj bE),(by(try dsimp only);exact bF.1),(by(try dsimp only);have q:=SA.ok_le bF.1;exact q),(by(try dsimp only);omega),(by(try dsimp only);(try simp only[cl]);omega),(by(try dsimp only);exact ec),(by(try dsimp only);exact Nat.le_trans hn0l (Nat.le_trans hnl Z.size)),(by(try dsimp only);exact cP)⟩ (by omega)
 have d3:=of_decide_eq_false F
 refine au 3<|ax O 1<|L0<|dv (m:=2) (e:=5) #[vB 13,vB 10] fun db ef bG bH G=>?_
 have eg:=dF bG (xs:=[13,10]) (by as_aux_lemma=>kernel_rfl) (am (by omega) (am (by omega) aY)) (by(try simp only[List.length_cons,List.length_nil]);omega) bH
 refine L0<|D2 (m:=2) (c:=2) bH fun eh dc H=>?_
 have dd:=yC dc (xs:=[13,10]) (by as_aux_lemma=>kernel_rfl) (am (by omega) (am (by omega) aY)) (by(try simp only[List.length_cons,List.length_nil]);omega)
 have bI:=ud G H bG
 have a1:=aj bq (aH s bI) (fun x hx=>(aa (fun e=>(aX bt bq (by decide)) (e▸hx)) az)) (fun _ _ h=>h)
 refine aF (args:=#[.slice X ((T.held++[(b.getD k 0)]).length) Y,.slice (some ⟨db,0,none⟩) 2 2])<|m1 (yK (xs:=(T.held++[(b.getD k 0)])) (ys:=[13,10]) (a1).rd dd) fun ei o=>al 1<|?_
 have a2:=aH bI o
 have ao:=aH bu a2
 refine cb ((iy (T.held++[(b.getD k 0)]) ([13,10]))) (fun a3=>?_) (fun a3=>?_)
 refine sq<|Rg 15 (fun w'=>w'.cell? ⟨g,0,none⟩=some (vI T.dir)∧w'.cell? ⟨g,1,none⟩=some (.slice X ((T.held++[(b.getD k 0)]).length) Y)) fun ej j=>?_
 have ar:=aH a2 j
 have a4:=ub ar O
 refine b9 ⟨(ae a4 rfl),(ae a4 rfl)⟩ fun C=>Rt 0 C<|Rt 1 C<|Rt 2 C<|Rl 3 C (fun _ hs=>hs.1)<|Rt 4 C<|Rt 5 C<|Rt 6 C<|Rl 7 C (fun _ hs=>hs.2)<|R2 8 12 rfl rfl ?_ ?_
 refine pr (e9 T.dir (T.held++[(b.getD k 0)])) fun I a5 bJ=>?_
 refine  Oc<|e2 (kz bJ ((aj a1 (aH o j) (fun x hx=>az) (fun _ _ h=>h))).rd (by simp only[cl,List.length_replicate];omega)) fun av ek de a6=>?_
 obtain⟨df,dg,dh⟩:=de
 have aw:=ub a6 a4
 refine b9 ⟨(ae aw rfl),(ae aw rfl)⟩ fun aA=>Rt 9 aA<|Rt 10 aA<|Rt 11 aA<|R0 12 rfl<|zW #[vB 0,vW 0,vB 0,vB 0,vW 0,vW 0,vW 0,vW 0,vW 0,vW 0,vW 0,vW 0,vW 0,vW 0,nS,nS,nS,nS,vB 0,vB 0,vB 0,vB 0,vB 0,nS] fun el em bL di aG=>?_
 have aI:=ub aG aw
 refine b9 ⟨(ae aI rfl),(ae aI rfl)⟩ fun eo=>R0 13 rfl<|qv di (ep I.unit I.tid I.msg av) fun dj dl aL=>?_
 have aO:=b7 aL (nb (ai hb) (le (le (le (le (le (le (le (le d.size i.size) z.size) s.size) G.size) H.size) o.size) j.size) a6.size) bL) aI
 refine b9 ⟨(ae aO rfl),(ae aO rfl)⟩ fun dm=>Rt 14 dm<|re<|tn<|go<|Pl 2<|L0<|cH dl<|Pl 1<|L0<|dv (m:=1) (e:=87) (y3 ⟨a5,I⟩ av) fun eq aQ dn dp aU=>?_
 have bM:=ud aG (aH aL aU) bL
 have dr:=nE (m:=.hi w.heap.size) (w0:=dj) (x:=(Ev.mk a5 I)) dn dp ⟨av,rfl,(aE.lo (aE.upd df bM aK) (le (le (le (le (le (le (le d.size i.size) z.size) s.size) G.size) H.size) o.size) j.size)),dg,dh⟩
 have bN:=aH a6 bM
 have P:=aH N (aH ar bN)
 have bO:=aj a P (fun x hx=>(aM ((dz a t (by decide)) x hx) (aa (fun e=>(aD (ai hb) lr a) (e▸hx)) az))) (fun x cs q=>bi.upd P (iz hlow (f6 f (by decide) bZ)) q)
 have ds:n≤aQ.heap.size:=Nat.le_trans hnl P.size
 refine L0<|i3 (R:=bi w.heap.size aQ.heap.size) (xs:=L) (ys:=([Ev.mk a5 I])) (.agg #[vI 0,vB 0,vW 0,vB 0,vB 0,vW 0,vW 0,vW 0,vW 0,vW 0,vW 0,vW 0,vW 0,vW 0,vW 0,nS,nS,nS,nS,vB 0,vB 0,vB 0,vB 0,vB 0,nS]) 25 168 (dk.up ds (Nat.le_refl _) bO) (qF dr).rd bi.ones (fun w' hv x cs q=>bi.upd hv (kk bO (by decide) bZ) q) (by(try simp only[cl,aq]);omega) (le (le (le (le (le (le (le (le (le (le (le d.size i.size) z.size) s.size) G.size) H.size) o.size) j.size) a6.size) aG.size) aL.size) aU.size) fun dt du er bP bQ es=>Pl 1<|nl<|bn<|tn<|go<|Pl 3<|?_
 have bR:=ap.blk (ut (ap.mono (S':=(ob Bq++[])) aU aB) bQ (ah il aB)) (aM (aD (ai hb) lr a) az) aO
 refine L0<|cv bR 1 #[vI T.dir,nS] fun et dw aV=>nl<|bn<|tn<|go<|bA ((k:Int)+1)<|Pl 1<|nl<|?_
 have aZ:=u1 (ap.mono (S':=(ob Bq++(g :: []))) bQ (ah il aB)) aV im
 have bS:=zZ (T:=T) (c:=(b.getD k 0)) r u F a3 bJ
 have bT:=SA.byte_ok hok (jJ hrb k) bS
 exact fM ((k+1),(SA.mk T.dir []),(L++[Ev.mk a5 I]),none,0,dt,du,aQ.heap.size) ⟨(ut ao (ut (ap.mono (S':=(ob Bq++(g :: []))) j aB) (ut (ap.mono (S':=(ob Bq++(g :: []))) bN aB) aZ (ah il (ac im aB))) (ah il (ac im aB))) (ah (aT a lr) (ac im aB))),dw,(aJ.nil base _ _ jH _),(aj bP aV (fun x hx=>(aa (fun e=>(aD (ai hb) lr bP) (e▸hx)) az)) (fun x cs q=>bi.upd aV (f6 bR (by decide) bZ) q)),aZ.size,(aR.far D (ut (ap.mono (S':=(ob Ah++(g :: (ob Bq++[])))) P (ah il (ac im aB))) aZ (ah il (ac im aB))) (dq (fL hda hdl hat0) (dT hdg (dq (fG hdl a (Nat.le_refl _)) eD)))),(by(try dsimp only);exact j8 (by omega) hpj bS),(by(try dsimp only);exact bT.1),(by(try dsimp only);have q:=SA.ok_le bT.1;exact q),(by(try dsimp only);omega),(by(try dsimp only);(try simp only[cl]);omega),(by(try dsimp only);exact ec),(by(try dsimp only);exact Nat.le_trans hn0l (Nat.le_trans hnl P.size)),(by(try dsimp only);exact cP)⟩ (by omega)
 refine  zW #[vB 0,vW 0,vB 0,vB 0,vW 0,vW 0,vW 0,vW 0,vW 0,vW 0,vW 0,vW 0,vW 0,vW 0,nS,nS,nS,nS,vB 0,vB 0,vB 0,vB 0,vB 0,nS] fun dx eu b0 dy Q=>?_
 have b1:=ub Q a4
 refine b9 ⟨(ae b1 rfl),(ae b1 rfl)⟩ fun ev=>?_
 have bV:=aH j Q
 refine pr (e9 T.dir (T.held++[(b.getD k 0)])) fun J a7 bW=>?_
 refine R0 8 rfl<|Oc<|e2 (kz bW ((aj a1 (aH o bV) (fun x hx=>az) (fun _ _ h=>h))).rd (by simp only[cl,List.length_replicate];omega)) fun b2 ew dA a8=>?_
 obtain⟨dB,dC,dD⟩:=dA
 have b3:=ub a8 b1
 refine b9 ⟨(ae b3 rfl),(ae b3 rfl)⟩ fun b4=>Rt 9 b4<|Rt 10 b4<|Rt 11 b4<|?_
 have bX:=ub a8 dy
 refine R0 13 rfl<|qv bX (ep J.unit J.tid J.msg b2) fun dE dG b5=>?_
 have b6:=b7 b5 (nb (ai hb) (le (le (le (le (le (le (le d.size i.size) z.size) s.size) G.size) H.size) o.size) j.size) b0) b3
 refine b9 ⟨(ae b6 rfl),(ae b6 rfl)⟩ fun dH=>Rt 14 dH<|re<|tn<|go<|Pl 2<|L0<|cH dG<|Pl 1<|L0<|dv (m:=1) (e:=87) (y3 ⟨a7,J⟩ b2) fun ex b8 dI dJ ba=>?_
 have bY:=aH b5 ba
 have dK:=nE (m:=.hi w.heap.size) (w0:=dE) (x:=(Ev.mk a7 J)) dI dJ ⟨b2,rfl,(aE.lo (aE.upd dB bY (ak (aW bX (by decide)) aK)) (le (le (le (le (le (le (le (le d.size i.size) z.size) s.size) G.size) H.size) o.size) j.size) Q.size)),dC,dD⟩
 have c0:=uz a8 bY
 have U:=aH N (aH ar (ud Q c0 b0))
 have c1:=aj a U (fun x hx=>(aM ((dz a t (by decide)) x hx) (aa (fun e=>(aD (ai hb) lr a) (e▸hx)) az))) (fun x cs q=>bi.upd U (iz hlow (f6 f (by decide) bZ)) q)
 have dL:n≤b8.heap.size:=Nat.le_trans hnl U.size
 refine L0<|i3 (R:=bi w.heap.size b8.heap.size) (xs:=L) (ys:=([Ev.mk a7 J])) (.agg #[vI 0,vB 0,vW 0,vB 0,vB 0,vW 0,vW 0,vW 0,vW 0,vW 0,vW 0,vW 0,vW 0,vW 0,vW 0,nS,nS,nS,nS,vB 0,vB 0,vB 0,vB 0,vB 0,nS]) 25 168 (dk.up dL (Nat.le_refl _) c1) (qF dK).rd bi.ones (fun w' hv x cs q=>bi.upd hv (kk c1 (by decide) bZ) q) (by(try simp only[cl,aq]);omega) (le (le (le (le (le (le (le (le (le (le (le d.size i.size) z.size) s.size) G.size) H.size) o.size) j.size) Q.size) a8.size) b5.size) ba.size) fun dM dN ey c2 c3 ez=>Pl 1<|nl<|bn<|tn<|go<|Pl 3<|?_
 have c4:=ap.blk (ut (ap.mono (S':=(ob Bq++[])) ba aB) c3 (ah il aB)) (aM (aD (ai hb) lr a) az) b6
 refine L0<|cv c4 1 #[vI T.dir,nS] fun eA dO bb=>nl<|bn<|tn<|go<|bA ((k:Int)+1)<|Pl 1<|nl<|?_
 have bc:=u1 (ap.mono (S':=(ob Bq++(g :: []))) c3 (ah il aB)) bb im
 have c5:=zZ (T:=T) (c:=(b.getD k 0)) r u F a3 bW
 have c6:=SA.byte_ok hok (jJ hrb k) c5
 exact fM ((k+1),(SA.mk T.dir []),(L++[Ev.mk a7 J]),none,0,dM,dN,b8.heap.size) ⟨(ut ao (ut (ap.mono (S':=(ob Bq++(g :: []))) bV aB) (ut (ap.mono (S':=(dx :: (ob Bq++(g :: [])))) c0 (ac im aB)) bc (ah il (ac im aB))) (ac (ni j.size b0) (ah il (ac im aB)))) (ah (aT a lr) (ac im aB))),dO,(aJ.nil base _ _ jH _),(aj c2 bb (fun x hx=>(aa (fun e=>(aD (ai hb) lr c2) (e▸hx)) az)) (fun x cs q=>bi.upd bb (f6 c4 (by decide) bZ) q)),bc.size,(aR.far D (ut (ap.mono (S':=(ob Ah++(g :: (ob Bq++[])))) U (ah il (ac im aB))) bc (ah il (ac im aB))) (dq (fL hda hdl hat0) (dT hdg (dq (fG hdl a (Nat.le_refl _)) eD)))),(by(try dsimp only);exact j8 (by omega) hpj c5),(by(try dsimp only);exact c6.1),(by(try dsimp only);have q:=SA.ok_le c6.1;exact q),(by(try dsimp only);omega),(by(try dsimp only);(try simp only[cl]);omega),(by(try dsimp only);exact ec),(by(try dsimp only);exact Nat.le_trans hn0l (Nat.le_trans hnl U.size)),(by(try dsimp only);exact cP)⟩ (by omega)
 refine xt<|CA<|tx<|bx<|tn<|go<|bA ((k:Int)+1)<|Pl 1<|nl<|?_
 have a9:=aH N a2
 have c7:=Ch (T:=T) (c:=(b.getD k 0)) r u F a3
 have c8:=SA.byte_ok hok (jJ hrb k) c7
 exact fM ((k+1),(SA.mk T.dir (T.held++[(b.getD k 0)])),L,X,Y,Bq,cq,n) ⟨ao,(ub a2 O),(aj a1 o (fun x hx=>az) (fun _ _ h=>h)),(aj a a9 (fun x hx=>(aM ((dz a t (by decide)) x hx) (aa (fun e=>(aD (ai hb) lr a) (e▸hx)) az))) (fun x cs q=>bi.upd a9 (iz hlow (f6 f (by decide) bZ)) q)),(Nat.le_trans hnl a9.size),(aR.far D a9 (dq (fL hda hdl hat0) (dT hdg eD))),(by(try dsimp only);exact oD (by omega) hpj c7),(by(try dsimp only);exact c8.1),(by(try dsimp only);have q:=SA.ok_le c8.1;exact q),(by(try dsimp only);omega),(by(try dsimp only);(try simp only[cl]);omega),(by(try dsimp only);exact(jF br hat0 (le d.size i.size))),(by(try dsimp only);exact hn0l),(by(try dsimp only);exact(sZ br hlow (Nat.le_trans hnl i.size)))⟩ (by omega)
 have cB:=of_decide_eq_false ab
 refine xt<|tx<|tx<|bx<|tn<|ay 2<|rt<|gr<|rr (.slice Bq L.length cq)<|?_
 have hs:S.feed b=(T,L):=by rw[hpj,List.take_of_length_le (by omega)]
 rw[hs]
 exact⟨_,Ah,ch,n,rfl,a,f,t,hat0,⟨hn0l,Nat.le_trans hnl lr⟩,hlow,d⟩
open Go.RowKit
def d9 (n base:Nat)(w:World)(g:Nat)(A:Option Addr)(cp:Nat)(S:SA) : Prop:=A7 w g S A cp∧cn base w (.slice A S.held.length cp) S.held∧S.ok∧n≤w.heap.size∧(∀ x,x∈ob A→n≤x)∧base≤w.heap.size
section
variable {n base g cp:Nat}{w w':World}{A:Option Addr}{S:SA}{X:List Nat}
theorem d9.row(h:d9 n base w g A cp S) : cn base w (.slice A S.held.length cp) S.held:=h.2.1
theorem d9.low(h:d9 n base w g A cp S) : ∀ x,x∈ob A→n≤x:=h.2.2.2.2.1
theorem d9.nle(h:d9 n base w g A cp S) : n≤w.heap.size:=h.2.2.2.1
theorem d9.le(h:d9 n base w g A cp S) : S.held.length≤513:=SA.ok_le h.2.2.1
theorem d9.lt(h:d9 n base w g A cp S) : g<w.heap.size:=ai h.1
theorem d9.cells(h:d9 n base w g A cp S) : ∃ cs fr,w.heap[g]? = some (.cells cs 95 fr):=⟨_,_,h.1⟩
theorem d9.upd(h:d9 n base w g A cp S)(hu:ap X w w')(hg:g∉X)(hr:∀ x,x∈ob A→x∉X) : d9 n base w' g A cp S :=
  ⟨hu.blk hg h.1,aj h.2.1 hu hr (fun _ _ q=>q),h.2.2.1,Nat.le_trans h.2.2.2.1 hu.size,h.2.2.2.2.1,Nat.le_trans h.2.2.2.2.2 hu.size⟩
end
theorem SA.feed_ok:∀ (b:List Int)(S:SA)(L:List Ev),S.ok→(∀ x,x∈b→0≤x∧x<256)→(b.foldl (fun(p:SA × List Ev) c=>((p.1.byte c).1,p.2++(p.1.byte c).2)) (S,L)).1.ok∧(b.foldl (fun(p:SA × List Ev) c=>((p.1.byte c).1,p.2++(p.1.byte c).2)) (S,L)).2.length≤L.length+b.length
  | [],S,L,h,_=>⟨h,Nat.le_refl _⟩
  | c :: t,S,L,h,hb=>by
    have k:=SA.byte_ok (S2:=(S.byte c).1) (L2:=(S.byte c).2) h (hb c (List.mem_cons_self ..)) rfl
    have q:=SA.feed_ok t (S.byte c).1 (L++(S.byte c).2) k.1 (fun x hx=>hb x (List.mem_cons_of_mem _ hx))
    refine⟨q.1,Nat.le_trans q.2 ?_⟩
    rw[List.length_append,List.length_cons]
    omega
theorem SA.feed_le{S S2:SA}{b:List Int}{L:List Ev}(h:S.ok)(hb:∀ x,x∈b→0≤x∧x<256)(hX:S.feed b=(S2,L)) : L.length≤b.length:=by
  have q:=(SA.feed_ok b S [] h hb).2
  have e:L=(S.feed b).2:=(congrArg Prod.snd hX).symm
  rw[e]
  rw[List.length_nil,Nat.zero_add] at q
  exact q
def DS (n base:Nat)(S2:SA)(L:List Ev)(g:Nat)(A:Option Addr)(w:World)(e:Ending)(w':World) : Prop:=∃ v A2 cp2 n2,e = .returned v∧dk n2 w.heap.size w' v L∧d9 n2 base w' g A2 cp2 S2∧(∀ x,x∈ob A2→x∈ob A∨w.heap.size≤x)∧n≤n2∧ap (g :: (ob A++[])) w w'
theorem so{w:World}{n base g cp cpb nb:Nat}{S S2:SA}{L:List Ev}{A B:Option Addr}{m:Md}{b:List Int}(hX:S.feed b=(S2,L))(h:d9 n base w g A cp S)(hsl:aR m w (.slice B nb cpb) b)(hdg:0<nb→∀ x,x∈ob B→x≠g)(hda:ma nb B (ob A))(hbl:b.length≤1048576) :
    Calls Tryz.prog 22 #[.pointer (some ⟨g,0,none⟩),.slice B nb cpb] w (DS n base S2 L g A w):=by
  obtain⟨h1,h2,h3,h4,h5,h6⟩:=h
  obtain rfl:nb=b.length:=by
    obtain⟨_,_,e,_⟩:=hsl.shape
    injection e
  refine(ra h1 h2 h6 h3 h4 h5 hsl hdg hda hbl).mono ?_
  rintro e w' ⟨v,A2,cp2,n2,he,k1,k2,k3,k4,⟨k5,k6⟩,k7,k8⟩
  have hok:=(SA.feed_ok b S [] h3 (aR.range hsl)).1
  rw[hX] at k1 k2 k3
  have e2:S2=(S.feed b).1:=(congrArg Prod.fst hX).symm
  exact⟨v,A2,cp2,n2,he,k1,⟨k2,k3,by rw[e2];exact hok,k6,k7,Nat.le_trans h6 k8.size⟩,k4,k5,k8⟩
theorem tf(d:Int){w:World}(hq:Calls Tryz.prog 21 #[.int .i64 d] w (fun e w'=>∃ g,e = .returned (.pointer (some ⟨g,0,none⟩))∧w.heap.size≤g∧A7 w' g ⟨d,[]⟩ none 0∧ap [] w w')) :
    Calls Tryz.prog 21 #[.int .i64 d] w (fun e w'=>∃ g,e = .returned (.pointer (some ⟨g,0,none⟩))∧w.heap.size≤g∧d9 w.heap.size w.heap.size w' g none 0 ⟨d,[]⟩∧ap [] w w'):=by
  refine hq.mono ?_
  rintro e w' ⟨g,he,h1,h2,h3⟩
  exact⟨g,he,h1,⟨h2,aJ.nil ..,⟨(fun x hx=>by cases hx),(show 0≤513 from by decide)⟩,h3.size,cP,h3.size⟩,h3⟩
open Go.RowKit
inductive XS where
  | r (S:SS)
  | a (S:SA)
  | m (S:SM)
def XS.zero (k d:Int) : XS:=bif k==0 then .r ⟨d,[],false⟩ else bif k==1 then .a ⟨d,[]⟩ else .m ⟨d,[],0⟩
def XS.feed:XS→List Int→XS × List Ev
  | .r S,b=>(.r (S.feed b).1,(S.feed b).2)
  | .a S,b=>(.a (S.feed b).1,(S.feed b).2)
  | .m S,b=>(.m (S.feed b).1,(S.feed b).2)
def XS.tick:XS→XS × List Ev
  | .r S=>(.r S.tick.1,S.tick.2)
  | .a S=>(.a S,[])
  | .m S=>(.m S,[])
def XS.take (S:XS)(b:List Int)(t:Bool) : XS × List Ev:=bif t then ((S.feed b).1.tick.1,(S.feed b).2++(S.feed b).1.tick.2) else S.feed b
def XS.held:XS→List Int
  | .r S=>S.held
  | .a S=>S.held
  | .m S=>S.held
def Eh:XS→TypeId
  | .r _=>107
  | .a _=>35
  | .m _=>25
def cG (n base:Nat)(w:World)(g:Nat)(A:Option Addr)(c:Nat) : XS→Prop
  | .r S=>cW n base w g A c S
  | .a S=>d9 n base w g A c S
  | .m S=>d8 n base w g A c S
abbrev DV (S:XS) (g:Nat) : Array Value:=#[.iface (Eh S) (.pointer (some ⟨g,0,none⟩))]
def aZ (n base:Nat)(w:World)(s g:Nat)(A:Option Addr)(c:Nat)(S:XS) : Prop:=w.heap[s]? = some (.cells (DV S g) 112 (0,0))∧cG n base w g A c S
section
variable {n base s g c:Nat}{w w':World}{A:Option Addr}{S:XS}{X:List Nat}
theorem cG.row(h:cG n base w g A c S) : cn base w (.slice A 0 c) []:=by
  cases S with
  | r S=>exact h.2.1
  | a S=>exact nK h.2.1
  | m S=>exact nK h.2.1
theorem cG.low(h:cG n base w g A c S) : ∀ x,x∈ob A→n≤x:=by
  cases S with
  | r S=>exact h.2.2.2.1
  | a S=>exact h.2.2.2.2.1
  | m S=>exact h.2.2.2.2.1
theorem cG.nle(h:cG n base w g A c S) : n≤w.heap.size:=by
  cases S with
  | r S=>exact h.2.2.1
  | a S=>exact h.2.2.2.1
  | m S=>exact h.2.2.2.1
theorem cG.ble(h:cG n base w g A c S) : base≤w.heap.size:=by
  cases S with
  | r S=>exact h.2.2.2.2
  | a S=>exact h.2.2.2.2.2
  | m S=>exact h.2.2.2.2.2
theorem cG.cells(h:cG n base w g A c S) : ∃ t cs fr,w.heap[g]? = some (.cells cs t fr)∧gv.contains t=false∧(t==112)=false∧(t==5)=false:=by
  cases S with
  | r S=>obtain⟨cs,fr,k⟩:=cW.cells h;exact⟨_,cs,fr,k,by decide,by decide,by decide⟩
  | a S=>exact⟨_,_,_,h.1,by decide,by decide,by decide⟩
  | m S=>exact⟨_,_,_,h.1,by decide,by decide,by decide⟩
theorem cG.lt(h:cG n base w g A c S) : g<w.heap.size:=by
  obtain⟨t,cs,fr,k,_⟩:=h.cells
  exact ai k
theorem cG.upd(h:cG n base w g A c S)(hu:ap X w w')(hg:g∉X)(hr:∀ x,x∈ob A→x∉X) : cG n base w' g A c S:=by
  cases S with
  | r S=>exact cW.upd h hu hg hr
  | a S=>exact d9.upd h hu hg hr
  | m S=>exact d8.upd h hu hg hr
theorem cG.gA(h:cG n base w g A c S) : g∉ob A:=by
  obtain⟨t,cs,fr,k,_,_,h2⟩:=h.cells
  exact aX k h.row h2
theorem aZ.row(h:aZ n base w s g A c S) : cn base w (.slice A 0 c) []:=h.2.row
theorem aZ.low(h:aZ n base w s g A c S) : ∀ x,x∈ob A→n≤x:=h.2.low
theorem aZ.nle(h:aZ n base w s g A c S) : n≤w.heap.size:=h.2.nle
theorem aZ.ble(h:aZ n base w s g A c S) : base≤w.heap.size:=h.2.ble
theorem aZ.lt(h:aZ n base w s g A c S) : s<w.heap.size:=ai h.1
theorem aZ.glt(h:aZ n base w s g A c S) : g<w.heap.size:=h.2.lt
theorem aZ.cells(h:aZ n base w s g A c S) : ∃ cs fr,w.heap[s]? = some (.cells cs 112 fr):=⟨_,_,h.1⟩
theorem aZ.sg(h:aZ n base w s g A c S) : s≠g:=fun e=>by
  obtain⟨t,cs,fr,k,_,h2,_⟩:=h.2.cells
  rw[← e,h.1] at k
  injection k with k
  injection k with _ k _
  rw[← k] at h2
  exact absurd h2 (by decide)
theorem aZ.gA(h:aZ n base w s g A c S) : g∉ob A:=h.2.gA
theorem aZ.upd(h:aZ n base w s g A c S)(hu:ap X w w')(hs:s∉X)(hg:g∉X)(hr:∀ x,x∈ob A→x∉X) : aZ n base w' s g A c S:=⟨hu.blk hs h.1,h.2.upd hu hg hr⟩
theorem aZ.old(h:aZ n base w s g A c S)(hu:ap [] w w') : aZ n base w' s g A c S:=h.upd hu (by simp) (by simp) (fun x _=>by simp)
theorem cG.ty(h:cG n base w g A c S) : ∃ t cs fr,w.heap[g]? = some (.cells cs t fr)∧(t=142∨t=95∨t=89):=by
  cases S with
  | r S=>obtain⟨cs,fr,k⟩:=cW.cells h;exact⟨_,cs,fr,k,.inl rfl⟩
  | a S=>exact⟨_,_,_,h.1,.inr (.inl rfl)⟩
  | m S=>exact⟨_,_,_,h.1,.inr (.inr rfl)⟩
theorem aZ.gx{α:Type}{b2 sz m c2:Nat}{e:TypeId}{R:World→α→List Value→Prop}{A2:Option Addr}{xs:List α}(h:aZ n base w s g A c S)(hO:aJ b2 e sz R w (.slice A2 m c2) xs)(he:(142==e)=false∧(95==e)=false∧(89==e)=false) : g∉ob A2:=by
  obtain⟨t,cs,fr,k,rfl|rfl|rfl⟩:=h.2.ty
  · exact aX k hO he.1
  · exact aX k hO he.2.1
  · exact aX k hO he.2.2
theorem aZ.apt(h:aZ n base w s g A c S){k:Nat}(hk:k≤n) : vl k (g :: (ob A++[])) w:=by
  obtain⟨t,cs,fr,q,h1,_⟩:=h.2.cells
  exact f6 q h1 (iz (xg hk h.low) bZ)
end
def Cz (n base:Nat)(S2:XS)(L:List Ev)(s g:Nat)(A:Option Addr)(w:World)(e:Ending)(w':World) : Prop:=∃ v A2 c2 n2,e = .returned v∧dk n2 w.heap.size w' v L∧aZ n2 base w' s g A2 c2 S2∧(∀ x,x∈ob A2→x∈ob A∨w.heap.size≤x)∧n≤n2∧ap (g :: (ob A++[])) w w'
def Cu (n base:Nat)(S2:XS)(L:List Ev)(g:Nat)(A:Option Addr)(w:World)(e:Ending)(w':World) : Prop:=∃ v A2 c2 n2,e = .returned v∧dk n2 w.heap.size w' v L∧cG n2 base w' g A2 c2 S2∧(∀ x,x∈ob A2→x∈ob A∨w.heap.size≤x)∧n≤n2∧ap (g :: (ob A++[])) w w'
section
variable {w:World}{n base g c cpb nb:Nat}{A B:Option Addr}{m:Md}{b:List Int}
theorem uK{S:SS}(h:cG n base w g A c (.r S))(hsl:aR m w (.slice B nb cpb) b)(hbl:b.length≤1048576) :
    Calls Tryz.prog 250 #[.pointer (some ⟨g,0,none⟩),.slice B nb cpb] w (Cu n base (.r (S.feed b).1) (S.feed b).2 g A w):=by
  obtain⟨_,_,e,hc,_⟩:=hsl.shape
  injection e with e1 e2 e3
  subst e1 e2 e3
  exact uS h h.gA hsl hbl hc
theorem ve{S:SS}(h:cG n base w g A c (.r S)) : Calls Tryz.prog 252 #[.pointer (some ⟨g,0,none⟩)] w (Cu n base (.r S.tick.1) S.tick.2 g A w):=tj h
theorem uN{S:SA}(h:cG n base w g A c (.a S))(hsl:aR m w (.slice B nb cpb) b)(hdg:0<nb→∀ x,x∈ob B→x≠g)(hda:ma nb B (ob A))(hbl:b.length≤1048576) :
    Calls Tryz.prog 22 #[.pointer (some ⟨g,0,none⟩),.slice B nb cpb] w (Cu n base (.a (S.feed b).1) (S.feed b).2 g A w):=so rfl h hsl hdg hda hbl
theorem tL{S:SM}(h:cG n base w g A c (.m S))(hsl:aR m w (.slice B nb cpb) b)(hdg:0<nb→∀ x,x∈ob B→x≠g)(hda:ma nb B (ob A))(hbl:b.length≤1048576) :
    Calls Tryz.prog 16 #[.pointer (some ⟨g,0,none⟩),.slice B nb cpb] w (Cu n base (.m (S.feed b).1) (S.feed b).2 g A w):=qG rfl h hsl hdg hda hbl
end
open Go.RowKit
section
variable {P:Program}{n:Nat}{D:List Deferred}{F:Fr}{w:World}{K:Fr→World→Prop}{Q:Exit→Act→World→Prop}{d:Option Tmp}{t:TypeId}{s:String}{af:Array Edge}{gu:Option (Nat × Bool)}
theorem vE{a:Act}{K:Act→World→Prop}{o:Oper}{N:Option Tmp}{f:FuncId}{fn:Func}{x:Operand}{nm:String}{opds:Array Operand}{ts:Array TypeId}{T:TypeId}{v rv:Value}(args:Array Value)(hN:o.dst=N)(hop:o.op = .call { callee:=.invoke x nm,args:=opds,argTypes:=ts })
    (hx : a.eval x = .iface T v) (hm : (method (P.types.size + Made.depth) T v nm).run P w = .ok (f, rv) w) (hf : P.funcs[f]? = some fn) (hname : (fn.name == "runtime.NumGoroutine") = false) (hb : fn.body.isSome = true) (hargs : #[rv] ++ opds.map a.eval = args)
    (h:Calls P f args w fun e w'=>∃ v,e = .returned v∧K (a.put N v) w') : OW P o a w K Q:=by
  refine OW.mk ?_
  subst hN
  subst hargs
  have h1 : fn.name ≠ "runtime.NumGoroutine" := by simpa using hname
  obtain⟨cd,hcd⟩:=Option.isSome_iff_exists.1 hb
  have hcm:(callMethod (.iface T v) nm (opds.map a.eval)).run P w = .ok (.enter f (#[rv]++opds.map a.eval)) w:=by
    unfold callMethod
    simp only[program,Sem.run_bind]
    have hp:(pure P:Sem Program).run P w = .ok P w:=rfl
    simp[Sem.run,hm,callFunc,hf,h1,hcd,Result.andThen]
  have hinv:invoke (.fn (.method nm) #[]) (#[.iface T v]++opds.map a.eval)=callMethod (.iface T v) nm (opds.map a.eval):=by
    have e0:(#[Value.iface T v]++opds.map a.eval)[0]? = some (.iface T v):=by
      rw[Array.getElem?_append_left (by simp)]
      rfl
    have e1:(#[Value.iface T v]++opds.map a.eval).extract 1 (#[Value.iface T v]++opds.map a.eval).size=opds.map a.eval:=by
      apply Array.toList_inj.1
      simp only[Array.toList_extract,List.extract_eq_take_drop,Array.toList_append,Array.toList_map,Array.size_append,Array.size_map]
      simp[List.take_of_length_le]
    unfold invoke
    simp only[e0,e1]
  have hrun:(execOp a.eval o).run P w = .ok (.enter f (#[rv]++opds.map a.eval)) w:=by
    unfold execOp
    simp only[hop,resolve,hx,Sem.run_bind,Sem.run_pure,Result.andThen_ok,hinv,hcm]
  unfold Oper.wp
  rw[hrun,Oper.upon_enter]
  refine h.mono fun e w'' hh=>?_
  obtain⟨v,rfl,h2⟩:=hh
  exact h2
theorem vx{f:FuncId}{x:Operand}{nm:String}{opds:Array Operand}{ts:Array TypeId}{args:Array Value}(T:TypeId)(v rv:Value)(h:Calls P f args w fun e w'=>∃ v,e = .returned v∧K (pt d v F) w')
    (hm:(method (P.types.size+Made.depth) T v nm).run P w = .ok (f,rv) w:=by kernel_rfl) (hx:dM F x=some (.iface T v):=by kernel_rfl) (ha:some rv :: opds.toList.map (dM F)=args.toList.map some:=by kernel_rfl) (hf:AX P f=some (false,true):=by kernel_rfl) (hs:ey n d=true:=by kernel_rfl) : OG P ⟨d,.call { callee:=.invoke x nm,args:=opds,argTypes:=ts },t,s,af,gu⟩ n D F w K Q:=by
  obtain⟨fn,h1,h2,h3⟩:=ja hf
  refine⟨fun a hag K' hK=>vE args rfl rfl (hag.ev hx) hm h1 h2 h3 ?_ (h.mono fun e w' hh=>by
    obtain⟨v,rfl,hk⟩:=hh
    exact⟨v,rfl,hK _ _ _ hk (hag.put hs)⟩)⟩
  apply Array.toList_inj.1
  obtain⟨vs,has⟩ : ∃ vs:List Value,args.toList=rv :: vs∧opds.toList.map (dM F)=vs.map some:=by
    cases hl:args.toList with
    | nil=>rw[hl] at ha;cases ha
    | cons y ys =>
      rw[hl] at ha
      injection ha with e1 e2
      exact⟨ys,by rw[Option.some.inj e1],e2⟩
  rw[has.1,Array.toList_append,Array.toList_map,kM hag has.2]
  rfl
theorem DE{x:Operand}{xt ty:TypeId}{ok:Bool}(T:TypeId)(v r:Value)(h:K (pt d r F) w)(hx:dM F x=some (.iface T v):=by kernel_rfl)(hr:(Instr.typeAssert (.iface T v) xt ty ok).run P w = .ok r w:=by kernel_rfl)(hs:ey n d=true:=by kernel_rfl) : OG P ⟨d,.typeAssert x xt ty ok,t,s,af,gu⟩ n D F w K Q:=by
  refine⟨fun a ha K' hK=>f9 r rfl ?_ (hK _ _ _ h (ha.put hs))⟩
  unfold execOp
  simp only[ha.ev hx,Sem.run_bind,hr,Result.andThen_ok,Sem.run_pure]
theorem kT:∀ {l:List String},l≠[]→∃ m,Instr.least l=some m
  | [],h=>absurd rfl h
  | s :: r,_=>⟨_,rfl⟩
theorem o4{want:Array (String × TypeId)}{got:Array Method}(h:(want.toList.filter fun p=>!got.any fun m=>m.name==p.1&&m.sig==p.2).isEmpty=false) : ∃ m,Instr.missingMethod want got=some m:=by
  unfold Instr.missingMethod
  simp only[List.partition_eq_filter_filter]
  have hne:((want.toList.filter fun p=>!got.any fun m=>m.name==p.1&&m.sig==p.2).map (·.1))≠[]:=by
    intro e
    rw[List.map_eq_nil_iff] at e
    rw[e] at h
    cases h
  generalize ((want.toList.filter fun p=>!got.any fun m=>m.name==p.1&&m.sig==p.2).map (·.1))=l at hne
  by_cases hx:l.filter (not ∘ (fun s:String=>s.contains '.'))=[]
  · have hy:l.filter (fun s:String=>s.contains '.')≠[]:=by
      intro hy
      obtain⟨s,hs⟩:=List.exists_mem_of_ne_nil l hne
      cases hc:s.contains '.'
      · have:s∈l.filter (not ∘ (fun s:String=>s.contains '.')):=List.mem_filter.2 ⟨hs,by simp only[Function.comp,hc,Bool.not_false]⟩
        rw[hx] at this
        cases this
      · have:s∈l.filter (fun s:String=>s.contains '.'):=List.mem_filter.2 ⟨hs,hc⟩
        rw[hy] at this
        cases this
    rw[hx]
    obtain ⟨m, hm⟩ := kT (l := (l.filter (fun s : String => s.contains '.')).map (fun id => (id.splitOn ".").getLastD id)) (by simpa using hy)
    exact⟨m,by rw[hm];rfl⟩
  · obtain⟨m,hm⟩:=kT hx
    exact⟨m,by rw[hm];rfl⟩
def Ck (P:Program)(ty T:TypeId) : Bool:=match P.underlying ty,P.info? T with
  | some (.interface want),some i=>!(want.toList.filter fun p=>!i.methods.any fun m=>m.name==p.1&&m.sig==p.2).isEmpty
  | _,_=>false
theorem Dy{x:Operand}{xt ty:TypeId}(T:TypeId)(v z:Value)(h:K (pt d (.tuple #[z,.bool false]) F) w)(hm:Ck P ty T=true:=by kernel_rfl)(hx:dM F x=some (.iface T v):=by kernel_rfl)(hz:(zeroValue ty).run P w = .ok z w:=by kernel_rfl)(hs:ey n d=true:=by kernel_rfl) : OG P ⟨d,.typeAssert x xt ty true,t,s,af,gu⟩ n D F w K Q:=by
  refine⟨fun a ha K' hK=>f9 _ rfl ?_ (hK _ _ _ h (ha.put hs))⟩
  unfold Ck at hm
  split at hm
  · rename_i want i hu hi
    obtain⟨m,hmm⟩:=o4 (by simpa using hm)
    have h1:(underlying ty).run P w = .ok (.interface want) w:=run_underlying hu w
    have h2:(typeInfo T).run P w = .ok i w:=by simp[typeInfo,hi]
    unfold execOp
    simp only[ha.ev hx,Instr.typeAssert,Sem.run_bind,h1,h2,Result.andThen_ok,hmm,hz,Sem.run_pure,if_true]
  · cases hm
end
end Go.Proofs.YtdkhbcefkfgbdaaGreat
