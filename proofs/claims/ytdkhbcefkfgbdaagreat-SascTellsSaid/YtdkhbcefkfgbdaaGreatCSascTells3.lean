/- Contracts of functions, part CSascTells3. -/
import Derived.Test.YtdkhbcefkfgbdaaGreatCSascTells1
import Derived.Test.YtdkhbcefkfgbdaaGreatCSascTells2
import Derived.OpenShut
import Derived.Below
import Derived.Deep.Upon
import Derived.Scope
import Derived.Lib.ConvBytes
import Derived.Lib.OthersKept
import Derived.Laws.BitsAllLaws
import Derived.Shelf.Strings.Builder1
import Derived.Lib.SlBytesConst
import Derived.Laws.StructEq
set_option linter.unusedVariables false
set_option linter.unusedSimpArgs false
set_option maxRecDepth 100000
set_option maxHeartbeats 4000000
namespace Go.Proofs.YtdkhbcefkfgbdaaGreat
open Go.RowKit
def fU (n:Int) : Bool:=(decide (7≤n)&&decide (n≤245))&&n%7==0
def fX (n:Int) : Bool:=decide (4≤n)&&decide (n≤245)
def fZ (n:Int) : Bool:=decide (9≤n)&&decide (n≤251)
def ll (may:Int→Bool)(C:ah) : ah:=(C.bytesC 1).need (may C.byteV) 5
def uW (may:Int→Bool)(C:ah) : ah:=⟨(ll may C).bytesR C.byteV,false,0⟩
def uf (one:Int→ah→Int × ah × cX)(may:Int→Bool)(C:ah) : ah × List cX:=aO one (uW may C).l.length 0 (uW may C) []
def bh (e:Int) : Int:=if e==2 then 5 else e
def dJ (one:Int→ah→Int × ah × cX)(may:Int→Bool)(c:Int)(C:ah) : ah × b7 :=
  (((ll may C).bytesC C.byteV).need ((uf one may C).1.e==0) (bh (uf one may C).1.e),{ b7.zero with code:=c,recs:=(uf one may C).2 })
def bg (dir c:Int)(C:ah) : Option (ah × b7) :=
  if c==20 then (if dir==0 then some (dJ cy fU c C) else some (dJ bH fX c C)) else if c==21 then some (dJ cC fZ c C) else none
theorem rD:((20:Int)==20)=true:=rfl
theorem r5:((21:Int)==20)=false:=rfl
theorem rQ:((21:Int)==21)=true:=rfl
variable {A:Option Addr}{b:List Int}{cp:Nat}{dir:Int}{m:Md}{w:World}
theorem mP(hd:dir=0∨dir=1)(hsl:aX m w (.slice A b.length cp) b)(hb:b.length≤1048576) :
    Calls Tryz.prog 102 #[vI 0,vB 20,.slice A b.length cp] w (dG (aj bg 0 20 b) w):=by
 have hln:(b.length:Int)≤1048576:=by omega
 have cI:((dir != 0)&&(dir != 1))=false:=by rcases hd with rfl | rfl<;>rfl
 refine vp 77 Tryz.func102 rfl<|sg<|aK mZ fun b5 cK b6 Q J=>ap 1<|sq<|az 6<|c0<|bz<|aq 2<|ax (args:=#[vI 0,vB 20])<|e3 sC fun E cL a7 B F=>Pl 3<|aK #[.nilFunc,.nilFunc] fun cM cT ce b8 t=>aD b8 #[.func (.func 215) #[] #[],.func (.func 213) #[] #[vP E 0]] fun cU cf r=>ap 1<|sq<|sq<|go<|ap 2<|c0<|bz<|aq 1<|?_
 have Z:=ud t r ce
 have a8:=aN F Z
 have ba:=aN J a8
 refine ax<|e3 (di (aX.old hsl ba) (by omega)) fun a9 cV K M q=>Pl 1<|aL 1<|ax<|m3 (bI M) fun cY cg k cZ=>be ((ah.mk b false 0).byteV)<|Pl 1<|aL 2<|?_
 have ad:=ud q k K
 have bb:=ub ad cf
 refine aH bb 0<|Pl 1<|L0<|i7 #[] #[] (args:=#[vI ((ah.mk b false 0).byteV)])<|m1 (nq (n:=(ah.mk b false 0).byteV) (by omega)) fun d0 g=>?_
 refine ax<|m2 (aY ((fU ((ah.mk b false 0).byteV))) 5 (ae.old cg g)) fun d1 ch h=>?_
 refine ab ch fun x49 bc bd=>?_
 refine aL 2<|ax<|qm (bX (n:=(ah.mk b false 0).byteV) bd) fun d2 d3 d4 ci d5 d6 cj i=>?_
 have d7:=Nat.le_trans (ah.bytesR_le x49 ((ah.mk b false 0).byteV)) (ae.len bd)
 refine ab cj fun x58 bi ck=>?_
 refine ax<|e3 (di ci (by omega)) fun S d9 af H o=>Pl 1<|aL 2<|aK mZ fun D da N O p=>aD O (mC 20) fun dc cl d=>nt<|sq<|aq 2<|?_
 have a0:=ud p d N
 have bl:=aN o a0
 have bm:=uz g (u1 h (aN i bl) im)
 refine aH (aV bm (nb (ag b8) r.size K) bb) 1<|ax<|uk (jd (gb:=S) (f:=.func 213) (x:=#[]) (y:=#[vP E 0])) fun cm cn dd ak am de bo br j=>nt<|bk<|ns (f:=220) #[vP cm 0,vP cn 0] fun a ha=>?_
 intro df dg T co v I bs an P G
 have bu:=nb (ae.lt H) lr N
 have a1:=nb (ae.lt H) (le (le p.size d.size) j.size) I
 have bw:=nb (ag B) (le (le (le (le (le (le (le t.size r.size) q.size) k.size) g.size) h.size) i.size) o.size) N
 have bx:=nb (ag B) (le (le (le (le (le (le (le (le (le (le t.size r.size) q.size) k.size) g.size) h.size) i.size) o.size) p.size) d.size) j.size) I
 have U:=nb (ag O) (le d.size j.size) I
 have a2:=aN j G
 have bA:=ae.old H (aN a0 a2)
 have bB:=ud ad (aN bm a2) K
 have bE:=ub (aN Z bB) B
 have ao:=ub a2 cl
 refine(uC (c:=20) bA bE ao P (ub G bo) (ub G br) (Ne.symm (nb (ag B) (le (le (le (le (le (le t.size r.size) q.size) k.size) g.size) h.size) i.size) af)) bu a1 bw bx U (Ne.symm (nb (ae.lt H) a0.size ak)) (Ne.symm (nb (ag B) (le (le (le (le (le (le (le (le (le t.size r.size) q.size) k.size) g.size) h.size) i.size) o.size) p.size) d.size) ak)) (Ne.symm (nb (ag O) d.size ak)) (nb (ag bo) lr I) (Ne.symm (nb (ae.lt H) a0.size am)) (Ne.symm (nb (ag B) (le (le (le (le (le (le (le (le (le t.size r.size) q.size) k.size) g.size) h.size) i.size) o.size) p.size) d.size) am)) (Ne.symm (nb (ag O) d.size am)) (nb (ag br) lr I) ?_).mono ?_
 intro W C s L Ar cr x Ax cx hJ hrd hx1 hx2 hx3 hL
 simp only[dB] at hx1 hx2 hx3
 have hm2:W.heap[D]? = some (.cells #[vB 20,vB 0,vW 0,vW 0,vW 0,vW 0,vW 0,vW 0,vW 0,vW 0,vW 0,vW 0,nS,nS,nS,.slice Ar L.length cr,vB 0,vB 0,vB 0,vB 0,vB 0,nS] 45 (0,0)):=hJ.hm
 refine jC hJ.hl ?_
 refine x9 ha 53<|vg<|kp<|vh #[vW 0,vW 0,vW 0,nS] fun dj dk bF cq bG=>kp<|j5 cq #[vW x.file,vW x.record,vW x.count,.slice Ax x.words.length cx] fun dl cs bH=>qs<|?_
 have bJ:=ud bG bH bF
 refine wO (ub bJ hJ.hl) (by trivial) fun dm ct ar=>ww<|vg<|vk<|?_
 have bK:=uz bJ ar
 have bL:=aV bK U hm2
 refine kp<|cS bL 15<|?_
 refine kp<|cJ (aV ar (Ne.symm (nb (ag P) hJ.u.size bF)) cs)<|kp<|eX (m:=1) (e:=98) #[vW x.file,vW x.record,vW x.count,.slice Ax x.words.length cx] fun dn dp dq cu au=>?_
 have V:=aN bK au
 have cv:=iU (R:=bt (.hi co.heap.size)) (x:=(cX.mk x.file x.record x.count x.words)) cu rfl ⟨_,rfl,(ez.updl hrd V hJ.hl rfl),c7 (x:=x.file) (by omega),c7 (x:=x.record) (by omega),c7 (x:=x.count) (by omega)⟩
 have aw:=al hJ.ho V (fun x hx=>(aa (fun e=>(aG (ag P) lr hJ.ho) (e▸hx)) av)) (bt.updl V hJ.hl rfl)
 refine kp<|fL (xs:=L) (ys:=([(cX.mk x.file x.record x.count x.words)])) (.agg #[vW 0,vW 0,vW 0,nS]) 4 32 aw cv (by simp) bt.ones (fun w' hv=>bt.upd16 hv (bf (bv _ aw (by decide)) aC)) (by(try simp only[d8,aQ]);omega) (le (le (le (le hJ.u.size bG.size) bH.size) ar.size) au.size) fun bM bN dr aF aM=>vk<|?_
 have bO:=ut (aE.mono (S':=(ob Ar++[])) au aA) aM (aB il aA)
 have aP:=aE.blk bO (b9 (aG (ag ao) lr hJ.ho) av) bL
 refine kp<|bD aP 15 (mG 20 0 0 0 0 0 0 0 0 0 0 0 nS nS nS (.slice bM ((L++[(cX.mk x.file x.record x.count x.words)]).length) bN) 0 0 0 0 0 nS) fun ds cw X=>qs<|bn<|?_
 have aR:=aE.blk (u1 (aE.mono (S':=(ob Ar++(D :: []))) bO (aB il aA)) X im) (b9 (aG (ag P) lr hJ.ho) (aa (Ne.symm U) av)) ct
 refine xb aR fun dt cz Y=>?_
 have aS:=ut (aE.mono (S':=(T :: (ob Ar++(D :: [])))) V (ac im aA)) (ut (aE.mono (S':=(ob Ar++(D :: (T :: [])))) aM (aB il aA)) (us X Y) (ac im (ac im aA))) (aB il (ac im (ac im aA)))
 exact⟨by trivial,aS.size,bM,bN,⟨(ut hJ.u aS (ac im (aB (bC hJ.ho lr) (ac im aA)))),(ae.updl (ae.upd (ae.upd (ae.updl hJ.hC V (aa a1 av) hJ.hl rfl) aM (b9 (aG (ae.lt bA) lr hJ.ho) av) (bf (bv _ aw (by decide)) aC)) X (aa bu av) (ai (aT aP (by decide)) aC)) Y (aa a1 av) aR rfl),(aE.blk aS (aa bx (b9 (aG (ag bE) lr hJ.ho) (aa bw av))) hJ.hS),(aV Y U cw),(al (al aF X (fun x hx=>(aa (fun e=>(aG (ag ao) lr aF) (e▸hx)) av)) (bt.upd16 X (ai (aT aP (by decide)) aC))) Y (fun x hx=>(aa (fun e=>(aG (ag P) lr aF) (e▸hx)) av)) (bt.updl Y aR rfl)),cz⟩⟩
 rintro _ cB ⟨rfl,du,bP,bQ,z⟩
 refine⟨_,_,rfl,z.hl,by simp[dh],by trivial,fun dv bR=>?_⟩
 refine ab z.hC fun aU bS cC=>?_
 have cD:cB.heap[D]? = some (.cells #[vB 20,vB 0,vW 0,vW 0,vW 0,vW 0,vW 0,vW 0,vW 0,vW 0,vW 0,vW 0,nS,nS,nS,.slice bP ((aO cy (ah.mk (x49.bytesR ((ah.mk b false 0).byteV)) false 0).l.length 0 (ah.mk (x49.bytesR ((ah.mk b false 0).byteV)) false 0) []).2.length) bQ,vB 0,vB 0,vB 0,vB 0,vB 0,nS] 45 (0,0)):=z.hm
 refine bn<|tn<|aq 2<|?_
 have a3:=ae.updl cC bR (aa a1 av) z.hl rfl
 refine ax<|mq (c4 a3)<|?_
 have dw:=ae.len a3
 refine Pl 2<|ax<|mq (c4 a3)<|?_
 have dx:=ae.len a3
 refine ax<|m1 (gN (e:=aU.e)) fun dy cE=>?_
 have a4:=aN bR cE
 have bU:=u1 z.u a4 im
 have bV:=ud ad (uz g (u1 h i im)) K
 have bW:=ae.upd ck (ut (aE.mono (S':=[E]) bl aA) (ut (aE.mono (S':=[S,E,D]) a2 aA) bU (ac im (ac im (ac im (ac (ni j.size I) aA))))) (ac (nr af) (ac im (ac (ni o.size N) aA)))) (aa (Ne.symm (nb (ag B) Z.size K)) av) (ai (aT (ub (aN Z bV) B) (by decide)) aC)
 refine ax<|m2 (aY ((aU.e==0)) (bh aU.e) bW) fun dz cF aZ=>?_
 refine ab cF fun bY bZ c1=>?_
 refine aL 1<|ax<|m2 (dI c1) fun dA c2 b0=>nt<|sq<|aq 1<|ax<|mq (c4 c2)<|?_
 have dC:=ae.len c2
 refine Pl 1<|db 2<|?_
 have c3:=u1 aZ b0 im
 have b1:=u1 (aE.mono (S':=[S,E,D,T,a9]) bU (ac im (ac im (ac im (ac im aA))))) c3 im
 have b2:=ut (aE.mono (S':=[E]) bB aA) b1 (ac (ni bV.size af) (ac im (ac (ni (le (le (le (le (le q.size k.size) g.size) h.size) i.size) o.size) N) (ac (ni (le (le (le (le (le (le (le (le q.size k.size) g.size) h.size) i.size) o.size) p.size) d.size) j.size) I) (ac (nr K) aA)))))
 have c5:=ud ba b2 (le J.size a7)
 have hs:aj bg 0 20 b=bp (b7.mk 20 0 0 0 0 0 0 0 0 0 0 0 [] [] [] (aO cy (ah.mk ((((ah.mk b false 0).bytesC 1).need (fU ((ah.mk b false 0).byteV)) 5).bytesR ((ah.mk b false 0).byteV)) false 0).l.length 0 (ah.mk ((((ah.mk b false 0).bytesC 1).need (fU ((ah.mk b false 0).byteV)) 5).bytesR ((ah.mk b false 0).byteV)) false 0) []).2 0 0 0 0 0 []) (((((ah.mk b false 0).bytesC 1).need (fU ((ah.mk b false 0).byteV)) 5).bytesC ((ah.mk b false 0).byteV)).need (((aO cy (ah.mk ((((ah.mk b false 0).bytesC 1).need (fU ((ah.mk b false 0).byteV)) 5).bytesR ((ah.mk b false 0).byteV)) false 0).l.length 0 (ah.mk ((((ah.mk b false 0).bytesC 1).need (fU ((ah.mk b false 0).byteV)) 5).bytesR ((ah.mk b false 0).byteV)) false 0) []).1).e==0) (bh ((aO cy (ah.mk ((((ah.mk b false 0).bytesC 1).need (fU ((ah.mk b false 0).byteV)) 5).bytesR ((ah.mk b false 0).byteV)) false 0).l.length 0 (ah.mk ((((ah.mk b false 0).bytesC 1).need (fU ((ah.mk b false 0).byteV)) 5).bytesR ((ah.mk b false 0).byteV)) false 0) []).1).e)):=by
   unfold aj bg dJ uf uW ll
   (try simp only[bq,cR,cN,cO,cQ,cP,reduceIte,rD,r5,rQ])
   all_goals rfl
 refine cb ((bY.endC.e != 0)) (fun b3=>?_) (fun b3=>?_)
 have b4:=ay b3
 refine aq 2<|?_
 refine aD (ub (ud a8 b2 a7) Q) mZ fun dD cG c6=>ap 1<|bj<|?_
 have c8:=nb (ag Q) (le (le (le (le (le (le (le (le (le (le (le F.size t.size) r.size) q.size) k.size) g.size) h.size) i.size) o.size) p.size) d.size) j.size) v
 refine vi (aE.blk (u1 (aE.mono (S':=[S,E,D,T,a9,b5]) b1 (ac im (ac im (ac im (ac im (ac im aA)))))) c6 im) (aa (Ne.symm (nb (ae.lt H) (le (le p.size d.size) j.size) v)) (aa (Ne.symm (nb (ag B) (le (le (le (le (le (le (le (le (le (le t.size r.size) q.size) k.size) g.size) h.size) i.size) o.size) p.size) d.size) j.size) v)) (aa (Ne.symm (nb (ag O) (le d.size j.size) v)) (aa bs (aa (Ne.symm (nb (ae.lt M) (le (le (le (le (le (le (le k.size g.size) h.size) i.size) o.size) p.size) d.size) j.size) v)) (aa (Ne.symm c8) av)))))) an) fun dE c9=>?_
 refine rx (aV c9 c8 cG) (vI bY.endC.e)<|?_
 subst bZ bS bi bc
 rw[hs]
 exact cA b4 (ut c5 (us c6 c9) (ac (nr b6) (ac (ni (le (le (le (le (le (le (le (le (le (le (le (le J.size F.size) t.size) r.size) q.size) k.size) g.size) h.size) i.size) o.size) p.size) d.size) j.size) v) aA)))
 have b4:=aJ b3
 refine bz<|sg<|?_
 refine L0<|cJ (aE.blk (us a4 c3) (aa U (aa (Ne.symm (nb (ae.lt M) (le (le (le (le k.size g.size) h.size) i.size) o.size) N)) av)) cD)<|?_
 have ca:=ub (ud a8 b2 a7) Q
 refine aD ca (mG 20 0 0 0 0 0 0 0 0 0 0 0 nS nS nS (.slice bP ((aO cy (ah.mk (x49.bytesR ((ah.mk b false 0).byteV)) false 0).l.length 0 (ah.mk (x49.bytesR ((ah.mk b false 0).byteV)) false 0) []).2.length) bQ) 0 0 0 0 0 nS) fun dF cH a5=>ap 1<|rt<|?_
 have cc:=nb (ag Q) (le (le (le (le (le (le (le (le (le (le (le F.size t.size) r.size) q.size) k.size) g.size) h.size) i.size) o.size) p.size) d.size) j.size) v
 have cd:=aE.blk (u1 (aE.mono (S':=[S,E,D,T,a9,b5]) b1 (ac im (ac im (ac im (ac im (ac im aA)))))) a5 im) (aa (Ne.symm (nb (ae.lt H) (le (le p.size d.size) j.size) v)) (aa (Ne.symm (nb (ag B) (le (le (le (le (le (le (le (le (le (le t.size r.size) q.size) k.size) g.size) h.size) i.size) o.size) p.size) d.size) j.size) v)) (aa (Ne.symm (nb (ag O) (le d.size j.size) v)) (aa bs (aa (Ne.symm (nb (ae.lt M) (le (le (le (le (le (le (le k.size g.size) h.size) i.size) o.size) p.size) d.size) j.size) v)) (aa (Ne.symm cc) av)))))) an
 refine vi cd fun dH a6=>?_
 refine rx (aV a6 cc cH) (vI 0)<|?_
 subst bZ bS bi bc
 rw[hs]
 exact cW b4 ⟨_,_,_,_,_,rfl,aI.nil ..,aI.nil ..,aI.nil ..,(aI.hi_le (aW.hi (al (al (al (al (al z.ho a4 (fun x hx=>(aa (fun e=>(aG (ag P) lr z.ho) (e▸hx)) av)) (bt.updl a4 z.hl rfl)) aZ (fun x hx=>(aa (fun e=>(aG (ae.lt M) (le (le (le (le (le (le (le (le k.size g.size) h.size) i.size) o.size) p.size) d.size) j.size) G.size) z.ho) (e▸hx)) av)) (bt.upd16 aZ (ai (ae.safe bW _ (by decide)) aC))) b0 (fun x hx=>(aa (fun e=>(aG (ae.lt M) (le (le (le (le (le (le (le (le k.size g.size) h.size) i.size) o.size) p.size) d.size) j.size) G.size) z.ho) (e▸hx)) av)) (bt.upd16 b0 (ai (ae.safe c1 _ (by decide)) aC))) a5 (fun x hx=>(aa (fun e=>(aG (ag Q) (le (le (le (le (le (le (le (le (le (le (le (le F.size t.size) r.size) q.size) k.size) g.size) h.size) i.size) o.size) p.size) d.size) j.size) G.size) z.ho) (e▸hx)) av)) (bt.upd16 a5 (ai (aT ca (by decide)) aC))) a6 (fun x hx=>(aa (fun e=>(aG (ag an) lr z.ho) (e▸hx)) av)) (bt.updl a6 cd rfl)) lr) (le (le (le (le (le (le (le (le (le (le (le (le (le J.size F.size) t.size) r.size) q.size) k.size) g.size) h.size) i.size) o.size) p.size) d.size) j.size) G.size) (bt.lo (le (le (le (le (le (le (le (le (le (le (le (le (le J.size F.size) t.size) r.size) q.size) k.size) g.size) h.size) i.size) o.size) p.size) d.size) j.size) G.size))),aI.nil ..,(bT (by omega))⟩ (ut c5 (us a5 a6) (ac (nr b6) (ac (ni (le (le (le (le (le (le (le (le (le (le (le (le J.size F.size) t.size) r.size) q.size) k.size) g.size) h.size) i.size) o.size) p.size) d.size) j.size) v) aA)))
theorem m9(hd:dir=0∨dir=1)(hsl:aX m w (.slice A b.length cp) b)(hb:b.length≤1048576) :
    Calls Tryz.prog 102 #[vI 1,vB 20,.slice A b.length cp] w (dG (aj bg 1 20 b) w):=by
 have hln:(b.length:Int)≤1048576:=by omega
 have cI:((dir != 0)&&(dir != 1))=false:=by rcases hd with rfl | rfl<;>rfl
 refine vp 77 Tryz.func102 rfl<|sg<|aK mZ fun b5 cK b6 Q I=>ap 1<|sq<|az 6<|c0<|bz<|aq 2<|ax (args:=#[vI 1,vB 20])<|e3 t8 fun J cL a7 B E=>Pl 3<|aK #[.nilFunc,.nilFunc] fun cM cT cf b8 t=>aD b8 #[.func (.func 216) #[] #[],.func (.func 217) #[] #[]] fun cU cg r=>ap 1<|sq<|sq<|go<|ap 2<|c0<|bz<|aq 1<|?_
 have Z:=ud t r cf
 have a8:=aN E Z
 have ba:=aN I a8
 refine ax<|e3 (di (aX.old hsl ba) (by omega)) fun a9 cV K M q=>Pl 1<|aL 1<|ax<|m3 (bI M) fun cY ch k cZ=>be ((ah.mk b false 0).byteV)<|Pl 1<|aL 2<|?_
 have ad:=ud q k K
 have bb:=ub ad cg
 refine aH bb 0<|Pl 1<|L0<|i7 #[] #[] (args:=#[vI ((ah.mk b false 0).byteV)])<|m1 (o5 (n:=(ah.mk b false 0).byteV) (by omega)) fun d0 g=>?_
 refine ax<|m2 (aY ((fX ((ah.mk b false 0).byteV))) 5 (ae.old ch g)) fun d1 ci h=>?_
 refine ab ci fun x49 bc bd=>?_
 refine aL 2<|ax<|qm (bX (n:=(ah.mk b false 0).byteV) bd) fun d2 d3 d4 cj d5 d6 ck i=>?_
 have d7:=Nat.le_trans (ah.bytesR_le x49 ((ah.mk b false 0).byteV)) (ae.len bd)
 refine ab ck fun x58 bi cl=>?_
 refine ax<|e3 (di cj (by omega)) fun S d9 af G o=>Pl 1<|aL 2<|aK mZ fun D da N O p=>aD O (mC 20) fun dc cm d=>nt<|sq<|aq 2<|?_
 have a0:=ud p d N
 have bl:=aN o a0
 have bm:=uz g (u1 h (aN i bl) im)
 refine aH (aV bm (nb (ag b8) r.size K) bb) 1<|ax<|uk (jd (gb:=S) (f:=.func 217) (x:=#[]) (y:=#[])) fun cn co dd ak am de bo br j=>nt<|bk<|ns (f:=220) #[vP cn 0,vP co 0] fun a ha=>?_
 intro df dg T cq v H bs an P F
 have bu:=nb (ae.lt G) lr N
 have a1:=nb (ae.lt G) (le (le p.size d.size) j.size) H
 have bw:=nb (ag B) (le (le (le (le (le (le (le t.size r.size) q.size) k.size) g.size) h.size) i.size) o.size) N
 have bx:=nb (ag B) (le (le (le (le (le (le (le (le (le (le t.size r.size) q.size) k.size) g.size) h.size) i.size) o.size) p.size) d.size) j.size) H
 have U:=nb (ag O) (le d.size j.size) H
 have a2:=aN j F
 have bA:=ae.old G (aN a0 a2)
 have bB:=ud ad (aN bm a2) K
 have bE:=ub (aN Z bB) B
 have ao:=ub a2 cm
 refine(uO (c:=20) bA bE ao P (ub F bo) (ub F br) (Ne.symm (nb (ag B) (le (le (le (le (le (le t.size r.size) q.size) k.size) g.size) h.size) i.size) af)) bu a1 bw bx U (Ne.symm (nb (ae.lt G) a0.size ak)) (Ne.symm (nb (ag B) (le (le (le (le (le (le (le (le (le t.size r.size) q.size) k.size) g.size) h.size) i.size) o.size) p.size) d.size) ak)) (Ne.symm (nb (ag O) d.size ak)) (nb (ag bo) lr H) (Ne.symm (nb (ae.lt G) a0.size am)) (Ne.symm (nb (ag B) (le (le (le (le (le (le (le (le (le t.size r.size) q.size) k.size) g.size) h.size) i.size) o.size) p.size) d.size) am)) (Ne.symm (nb (ag O) d.size am)) (nb (ag br) lr H) ?_).mono ?_
 intro W C s L Ar cr x Ax cx hJ hrd hx1 hx2 hx3 hL
 simp only[dB] at hx1 hx2 hx3
 have hm2:W.heap[D]? = some (.cells #[vB 20,vB 0,vW 0,vW 0,vW 0,vW 0,vW 0,vW 0,vW 0,vW 0,vW 0,vW 0,nS,nS,nS,.slice Ar L.length cr,vB 0,vB 0,vB 0,vB 0,vB 0,nS] 45 (0,0)):=hJ.hm
 refine jC hJ.hl ?_
 refine x9 ha 53<|vg<|kp<|vh #[vW 0,vW 0,vW 0,nS] fun dj dk bF cs bG=>kp<|j5 cs #[vW x.file,vW x.record,vW x.count,.slice Ax x.words.length cx] fun dl ct bJ=>qs<|?_
 have bK:=ud bG bJ bF
 refine wO (ub bK hJ.hl) (by trivial) fun dm cu ar=>ww<|vg<|vk<|?_
 have bL:=uz bK ar
 have bM:=aV bL U hm2
 refine kp<|cS bM 15<|?_
 refine kp<|cJ (aV ar (Ne.symm (nb (ag P) hJ.u.size bF)) ct)<|kp<|eX (m:=1) (e:=98) #[vW x.file,vW x.record,vW x.count,.slice Ax x.words.length cx] fun dn dp dq cv au=>?_
 have V:=aN bL au
 have cw:=iU (R:=bt (.hi cq.heap.size)) (x:=(cX.mk x.file x.record x.count x.words)) cv rfl ⟨_,rfl,(ez.updl hrd V hJ.hl rfl),c7 (x:=x.file) (by omega),c7 (x:=x.record) (by omega),c7 (x:=x.count) (by omega)⟩
 have aw:=al hJ.ho V (fun x hx=>(aa (fun e=>(aG (ag P) lr hJ.ho) (e▸hx)) av)) (bt.updl V hJ.hl rfl)
 refine kp<|fL (xs:=L) (ys:=([(cX.mk x.file x.record x.count x.words)])) (.agg #[vW 0,vW 0,vW 0,nS]) 4 32 aw cw (by simp) bt.ones (fun w' hv=>bt.upd16 hv (bf (bv _ aw (by decide)) aC)) (by(try simp only[d8,aQ]);omega) (le (le (le (le hJ.u.size bG.size) bJ.size) ar.size) au.size) fun bN bO dr aF aM=>vk<|?_
 have bP:=ut (aE.mono (S':=(ob Ar++[])) au aA) aM (aB il aA)
 have aP:=aE.blk bP (b9 (aG (ag ao) lr hJ.ho) av) bM
 refine kp<|bD aP 15 (mG 20 0 0 0 0 0 0 0 0 0 0 0 nS nS nS (.slice bN ((L++[(cX.mk x.file x.record x.count x.words)]).length) bO) 0 0 0 0 0 nS) fun ds cy X=>qs<|bn<|?_
 have aR:=aE.blk (u1 (aE.mono (S':=(ob Ar++(D :: []))) bP (aB il aA)) X im) (b9 (aG (ag P) lr hJ.ho) (aa (Ne.symm U) av)) cu
 refine xb aR fun dt cz Y=>?_
 have aS:=ut (aE.mono (S':=(T :: (ob Ar++(D :: [])))) V (ac im aA)) (ut (aE.mono (S':=(ob Ar++(D :: (T :: [])))) aM (aB il aA)) (us X Y) (ac im (ac im aA))) (aB il (ac im (ac im aA)))
 exact⟨by trivial,aS.size,bN,bO,⟨(ut hJ.u aS (ac im (aB (bC hJ.ho lr) (ac im aA)))),(ae.updl (ae.upd (ae.upd (ae.updl hJ.hC V (aa a1 av) hJ.hl rfl) aM (b9 (aG (ae.lt bA) lr hJ.ho) av) (bf (bv _ aw (by decide)) aC)) X (aa bu av) (ai (aT aP (by decide)) aC)) Y (aa a1 av) aR rfl),(aE.blk aS (aa bx (b9 (aG (ag bE) lr hJ.ho) (aa bw av))) hJ.hS),(aV Y U cy),(al (al aF X (fun x hx=>(aa (fun e=>(aG (ag ao) lr aF) (e▸hx)) av)) (bt.upd16 X (ai (aT aP (by decide)) aC))) Y (fun x hx=>(aa (fun e=>(aG (ag P) lr aF) (e▸hx)) av)) (bt.updl Y aR rfl)),cz⟩⟩
 rintro _ cB ⟨rfl,du,bQ,bR,z⟩
 refine⟨_,_,rfl,z.hl,by simp[dh],by trivial,fun dv bS=>?_⟩
 refine ab z.hC fun aU bU cC=>?_
 have cD:cB.heap[D]? = some (.cells #[vB 20,vB 0,vW 0,vW 0,vW 0,vW 0,vW 0,vW 0,vW 0,vW 0,vW 0,vW 0,nS,nS,nS,.slice bQ ((aO bH (ah.mk (x49.bytesR ((ah.mk b false 0).byteV)) false 0).l.length 0 (ah.mk (x49.bytesR ((ah.mk b false 0).byteV)) false 0) []).2.length) bR,vB 0,vB 0,vB 0,vB 0,vB 0,nS] 45 (0,0)):=z.hm
 refine bn<|tn<|aq 2<|?_
 have a3:=ae.updl cC bS (aa a1 av) z.hl rfl
 refine ax<|mq (c4 a3)<|?_
 have dw:=ae.len a3
 refine Pl 2<|ax<|mq (c4 a3)<|?_
 have dx:=ae.len a3
 refine ax<|m1 (gN (e:=aU.e)) fun dy cE=>?_
 have a4:=aN bS cE
 have bV:=u1 z.u a4 im
 have bW:=ud ad (uz g (u1 h i im)) K
 have bY:=ae.upd cl (ut (aE.mono (S':=[J]) bl aA) (ut (aE.mono (S':=[S,J,D]) a2 aA) bV (ac im (ac im (ac im (ac (ni j.size H) aA))))) (ac (nr af) (ac im (ac (ni o.size N) aA)))) (aa (Ne.symm (nb (ag B) Z.size K)) av) (ai (aT (ub (aN Z bW) B) (by decide)) aC)
 refine ax<|m2 (aY ((aU.e==0)) (bh aU.e) bY) fun dz cF aZ=>?_
 refine ab cF fun bZ c1 c2=>?_
 refine aL 1<|ax<|m2 (dI c2) fun dA c3 b0=>nt<|sq<|aq 1<|ax<|mq (c4 c3)<|?_
 have dC:=ae.len c3
 refine Pl 1<|db 2<|?_
 have c5:=u1 aZ b0 im
 have b1:=u1 (aE.mono (S':=[S,J,D,T,a9]) bV (ac im (ac im (ac im (ac im aA))))) c5 im
 have b2:=ut (aE.mono (S':=[J]) bB aA) b1 (ac (ni bW.size af) (ac im (ac (ni (le (le (le (le (le q.size k.size) g.size) h.size) i.size) o.size) N) (ac (ni (le (le (le (le (le (le (le (le q.size k.size) g.size) h.size) i.size) o.size) p.size) d.size) j.size) H) (ac (nr K) aA)))))
 have c6:=ud ba b2 (le I.size a7)
 have hs:aj bg 1 20 b=bp (b7.mk 20 0 0 0 0 0 0 0 0 0 0 0 [] [] [] (aO bH (ah.mk ((((ah.mk b false 0).bytesC 1).need (fX ((ah.mk b false 0).byteV)) 5).bytesR ((ah.mk b false 0).byteV)) false 0).l.length 0 (ah.mk ((((ah.mk b false 0).bytesC 1).need (fX ((ah.mk b false 0).byteV)) 5).bytesR ((ah.mk b false 0).byteV)) false 0) []).2 0 0 0 0 0 []) (((((ah.mk b false 0).bytesC 1).need (fX ((ah.mk b false 0).byteV)) 5).bytesC ((ah.mk b false 0).byteV)).need (((aO bH (ah.mk ((((ah.mk b false 0).bytesC 1).need (fX ((ah.mk b false 0).byteV)) 5).bytesR ((ah.mk b false 0).byteV)) false 0).l.length 0 (ah.mk ((((ah.mk b false 0).bytesC 1).need (fX ((ah.mk b false 0).byteV)) 5).bytesR ((ah.mk b false 0).byteV)) false 0) []).1).e==0) (bh ((aO bH (ah.mk ((((ah.mk b false 0).bytesC 1).need (fX ((ah.mk b false 0).byteV)) 5).bytesR ((ah.mk b false 0).byteV)) false 0).l.length 0 (ah.mk ((((ah.mk b false 0).bytesC 1).need (fX ((ah.mk b false 0).byteV)) 5).bytesR ((ah.mk b false 0).byteV)) false 0) []).1).e)):=by
   unfold aj bg dJ uf uW ll
   (try simp only[bq,cR,cN,cO,cQ,cP,reduceIte,rD,r5,rQ])
   all_goals rfl
 refine cb ((bZ.endC.e != 0)) (fun b3=>?_) (fun b3=>?_)
 have b4:=ay b3
 refine aq 2<|?_
 refine aD (ub (ud a8 b2 a7) Q) mZ fun dD cG c8=>ap 1<|bj<|?_
 have c9:=nb (ag Q) (le (le (le (le (le (le (le (le (le (le (le E.size t.size) r.size) q.size) k.size) g.size) h.size) i.size) o.size) p.size) d.size) j.size) v
 refine vi (aE.blk (u1 (aE.mono (S':=[S,J,D,T,a9,b5]) b1 (ac im (ac im (ac im (ac im (ac im aA)))))) c8 im) (aa (Ne.symm (nb (ae.lt G) (le (le p.size d.size) j.size) v)) (aa (Ne.symm (nb (ag B) (le (le (le (le (le (le (le (le (le (le t.size r.size) q.size) k.size) g.size) h.size) i.size) o.size) p.size) d.size) j.size) v)) (aa (Ne.symm (nb (ag O) (le d.size j.size) v)) (aa bs (aa (Ne.symm (nb (ae.lt M) (le (le (le (le (le (le (le k.size g.size) h.size) i.size) o.size) p.size) d.size) j.size) v)) (aa (Ne.symm c9) av)))))) an) fun dE ca=>?_
 refine rx (aV ca c9 cG) (vI bZ.endC.e)<|?_
 subst c1 bU bi bc
 rw[hs]
 exact cA b4 (ut c6 (us c8 ca) (ac (nr b6) (ac (ni (le (le (le (le (le (le (le (le (le (le (le (le I.size E.size) t.size) r.size) q.size) k.size) g.size) h.size) i.size) o.size) p.size) d.size) j.size) v) aA)))
 have b4:=aJ b3
 refine bz<|sg<|?_
 refine L0<|cJ (aE.blk (us a4 c5) (aa U (aa (Ne.symm (nb (ae.lt M) (le (le (le (le k.size g.size) h.size) i.size) o.size) N)) av)) cD)<|?_
 have cc:=ub (ud a8 b2 a7) Q
 refine aD cc (mG 20 0 0 0 0 0 0 0 0 0 0 0 nS nS nS (.slice bQ ((aO bH (ah.mk (x49.bytesR ((ah.mk b false 0).byteV)) false 0).l.length 0 (ah.mk (x49.bytesR ((ah.mk b false 0).byteV)) false 0) []).2.length) bR) 0 0 0 0 0 nS) fun dF cH a5=>ap 1<|rt<|?_
 have cd:=nb (ag Q) (le (le (le (le (le (le (le (le (le (le (le E.size t.size) r.size) q.size) k.size) g.size) h.size) i.size) o.size) p.size) d.size) j.size) v
 have ce:=aE.blk (u1 (aE.mono (S':=[S,J,D,T,a9,b5]) b1 (ac im (ac im (ac im (ac im (ac im aA)))))) a5 im) (aa (Ne.symm (nb (ae.lt G) (le (le p.size d.size) j.size) v)) (aa (Ne.symm (nb (ag B) (le (le (le (le (le (le (le (le (le (le t.size r.size) q.size) k.size) g.size) h.size) i.size) o.size) p.size) d.size) j.size) v)) (aa (Ne.symm (nb (ag O) (le d.size j.size) v)) (aa bs (aa (Ne.symm (nb (ae.lt M) (le (le (le (le (le (le (le k.size g.size) h.size) i.size) o.size) p.size) d.size) j.size) v)) (aa (Ne.symm cd) av)))))) an
 refine vi ce fun dH a6=>?_
 refine rx (aV a6 cd cH) (vI 0)<|?_
 subst c1 bU bi bc
 rw[hs]
 exact cW b4 ⟨_,_,_,_,_,rfl,aI.nil ..,aI.nil ..,aI.nil ..,(aI.hi_le (aW.hi (al (al (al (al (al z.ho a4 (fun x hx=>(aa (fun e=>(aG (ag P) lr z.ho) (e▸hx)) av)) (bt.updl a4 z.hl rfl)) aZ (fun x hx=>(aa (fun e=>(aG (ae.lt M) (le (le (le (le (le (le (le (le k.size g.size) h.size) i.size) o.size) p.size) d.size) j.size) F.size) z.ho) (e▸hx)) av)) (bt.upd16 aZ (ai (ae.safe bY _ (by decide)) aC))) b0 (fun x hx=>(aa (fun e=>(aG (ae.lt M) (le (le (le (le (le (le (le (le k.size g.size) h.size) i.size) o.size) p.size) d.size) j.size) F.size) z.ho) (e▸hx)) av)) (bt.upd16 b0 (ai (ae.safe c2 _ (by decide)) aC))) a5 (fun x hx=>(aa (fun e=>(aG (ag Q) (le (le (le (le (le (le (le (le (le (le (le (le E.size t.size) r.size) q.size) k.size) g.size) h.size) i.size) o.size) p.size) d.size) j.size) F.size) z.ho) (e▸hx)) av)) (bt.upd16 a5 (ai (aT cc (by decide)) aC))) a6 (fun x hx=>(aa (fun e=>(aG (ag an) lr z.ho) (e▸hx)) av)) (bt.updl a6 ce rfl)) lr) (le (le (le (le (le (le (le (le (le (le (le (le (le I.size E.size) t.size) r.size) q.size) k.size) g.size) h.size) i.size) o.size) p.size) d.size) j.size) F.size) (bt.lo (le (le (le (le (le (le (le (le (le (le (le (le (le I.size E.size) t.size) r.size) q.size) k.size) g.size) h.size) i.size) o.size) p.size) d.size) j.size) F.size))),aI.nil ..,(bT (by omega))⟩ (ut c6 (us a5 a6) (ac (nr b6) (ac (ni (le (le (le (le (le (le (le (le (le (le (le (le I.size E.size) t.size) r.size) q.size) k.size) g.size) h.size) i.size) o.size) p.size) d.size) j.size) v) aA)))
theorem l3(hd:dir=0∨dir=1)(hsl:aX m w (.slice A b.length cp) b)(hb:b.length≤1048576) :
    Calls Tryz.prog 102 #[vI dir,vB 21,.slice A b.length cp] w (dG (aj bg dir 21 b) w):=by
 have hln:(b.length:Int)≤1048576:=by omega
 have b6:((dir != 0)&&(dir != 1))=false:=by rcases hd with rfl | rfl<;>rfl
 refine vp 77 Tryz.func102 rfl<|sg<|aK mZ fun b8 cV ba S I=>ap 1<|sq<|aq 3<|cY 3 [18] 21 18 (dir != 0) (dir != 1) (fun K ci cj=>?_) ?_
 have cZ:=ay cj
 exact Pl 3<|ce ci _ rfl
 refine nt<|cf b6<|bz<|aq 2<|ax (args:=#[vI dir,vB 21])<|e3 sK fun J d0 a8 B E=>Pl 3<|aK #[.nilFunc,.nilFunc] fun d1 d2 ck bb t=>aD bb #[.func (.func 218) #[] #[],.func (.func 219) #[] #[]] fun d3 cl r=>Pl 1<|nl<|tn<|sq<|az 2<|c0<|bz<|aq 1<|?_
 have a0:=ud t r ck
 have a9:=aN E a0
 have bc:=aN I a9
 refine ax<|e3 (di (aX.old hsl bc) (by omega)) fun ad d4 M N q=>Pl 1<|aL 1<|ax<|m3 (bI N) fun d5 cm k d6=>be ((ah.mk b false 0).byteV)<|Pl 1<|aL 2<|?_
 have af:=ud q k M
 have bd:=ub af cl
 refine aH bd 0<|Pl 1<|L0<|i7 #[] #[] (args:=#[vI ((ah.mk b false 0).byteV)])<|m1 (nY (n:=(ah.mk b false 0).byteV) (by omega)) fun d7 g=>?_
 refine ax<|m2 (aY ((fZ ((ah.mk b false 0).byteV))) 5 (ae.old cm g)) fun d9 cn h=>?_
 refine ab cn fun x51 bi bl=>?_
 refine aL 2<|ax<|qm (bX (n:=(ah.mk b false 0).byteV) bl) fun da dc dd co de df cq i=>?_
 have dg:=Nat.le_trans (ah.bytesR_le x51 ((ah.mk b false 0).byteV)) (ae.len bl)
 refine ab cq fun x60 bm cs=>?_
 refine ax<|e3 (di co (by omega)) fun T dj ak G o=>Pl 1<|aL 2<|aK mZ fun D dk O P p=>aD P (mC 21) fun dl ct d=>nt<|sq<|aq 2<|?_
 have a1:=ud p d O
 have bo:=aN o a1
 have br:=uz g (u1 h (aN i bo) im)
 refine aH (aV br (nb (ag bb) r.size M) bd) 1<|ax<|uk (jd (gb:=T) (f:=.func 219) (x:=#[]) (y:=#[])) fun cu cv dm am an dn bs bu j=>nt<|bk<|ns (f:=220) #[vP cu 0,vP cv 0] fun a ha=>?_
 intro dp dq U cw v H bw ao Q F
 have bx:=nb (ae.lt G) lr O
 have a2:=nb (ae.lt G) (le (le p.size d.size) j.size) H
 have bA:=nb (ag B) (le (le (le (le (le (le (le t.size r.size) q.size) k.size) g.size) h.size) i.size) o.size) O
 have bB:=nb (ag B) (le (le (le (le (le (le (le (le (le (le t.size r.size) q.size) k.size) g.size) h.size) i.size) o.size) p.size) d.size) j.size) H
 have V:=nb (ag P) (le d.size j.size) H
 have a3:=aN j F
 have bE:=ae.old G (aN a1 a3)
 have bF:=ud af (aN br a3) M
 have bG:=ub (aN a0 bF) B
 have ar:=ub a3 ct
 refine(v4 (c:=21) bE bG ar Q (ub F bs) (ub F bu) (Ne.symm (nb (ag B) (le (le (le (le (le (le t.size r.size) q.size) k.size) g.size) h.size) i.size) ak)) bx a2 bA bB V (Ne.symm (nb (ae.lt G) a1.size am)) (Ne.symm (nb (ag B) (le (le (le (le (le (le (le (le (le t.size r.size) q.size) k.size) g.size) h.size) i.size) o.size) p.size) d.size) am)) (Ne.symm (nb (ag P) d.size am)) (nb (ag bs) lr H) (Ne.symm (nb (ae.lt G) a1.size an)) (Ne.symm (nb (ag B) (le (le (le (le (le (le (le (le (le t.size r.size) q.size) k.size) g.size) h.size) i.size) o.size) p.size) d.size) an)) (Ne.symm (nb (ag P) d.size an)) (nb (ag bu) lr H) ?_).mono ?_
 intro W C s L Ar cr x Ax cx hJ hrd hx1 hx2 hx3 hL
 simp only[dB] at hx1 hx2 hx3
 have hm2:W.heap[D]? = some (.cells #[vB 21,vB 0,vW 0,vW 0,vW 0,vW 0,vW 0,vW 0,vW 0,vW 0,vW 0,vW 0,nS,nS,nS,.slice Ar L.length cr,vB 0,vB 0,vB 0,vB 0,vB 0,nS] 45 (0,0)):=hJ.hm
 refine jC hJ.hl ?_
 refine x9 ha 53<|vg<|kp<|vh #[vW 0,vW 0,vW 0,nS] fun dr ds bH cy bJ=>kp<|j5 cy #[vW x.file,vW x.record,vW x.count,.slice Ax x.words.length cx] fun dt cz bK=>qs<|?_
 have bL:=ud bJ bK bH
 refine wO (ub bL hJ.hl) (by trivial) fun du cB au=>ww<|vg<|vk<|?_
 have bM:=uz bL au
 have bN:=aV bM V hm2
 refine kp<|cS bN 15<|?_
 refine kp<|cJ (aV au (Ne.symm (nb (ag Q) hJ.u.size bH)) cz)<|kp<|eX (m:=1) (e:=98) #[vW x.file,vW x.record,vW x.count,.slice Ax x.words.length cx] fun dv dw dx cD aw=>?_
 have X:=aN bM aw
 have cE:=iU (R:=bt (.hi cw.heap.size)) (x:=(cX.mk x.file x.record x.count x.words)) cD rfl ⟨_,rfl,(ez.updl hrd X hJ.hl rfl),c7 (x:=x.file) (by omega),c7 (x:=x.record) (by omega),c7 (x:=x.count) (by omega)⟩
 have aF:=al hJ.ho X (fun x hx=>(aa (fun e=>(aG (ag Q) lr hJ.ho) (e▸hx)) av)) (bt.updl X hJ.hl rfl)
 refine kp<|fL (xs:=L) (ys:=([(cX.mk x.file x.record x.count x.words)])) (.agg #[vW 0,vW 0,vW 0,nS]) 4 32 aF cE (by simp) bt.ones (fun w' hv=>bt.upd16 hv (bf (bv _ aF (by decide)) aC)) (by(try simp only[d8,aQ]);omega) (le (le (le (le hJ.u.size bJ.size) bK.size) au.size) aw.size) fun bO bP dy aM aP=>vk<|?_
 have bQ:=ut (aE.mono (S':=(ob Ar++[])) aw aA) aP (aB il aA)
 have aR:=aE.blk bQ (b9 (aG (ag ar) lr hJ.ho) av) bN
 refine kp<|bD aR 15 (mG 21 0 0 0 0 0 0 0 0 0 0 0 nS nS nS (.slice bO ((L++[(cX.mk x.file x.record x.count x.words)]).length) bP) 0 0 0 0 0 nS) fun dz cF Y=>qs<|bn<|?_
 have aS:=aE.blk (u1 (aE.mono (S':=(ob Ar++(D :: []))) bQ (aB il aA)) Y im) (b9 (aG (ag Q) lr hJ.ho) (aa (Ne.symm V) av)) cB
 refine xb aS fun dA cG Z=>?_
 have aU:=ut (aE.mono (S':=(U :: (ob Ar++(D :: [])))) X (ac im aA)) (ut (aE.mono (S':=(ob Ar++(D :: (U :: [])))) aP (aB il aA)) (us Y Z) (ac im (ac im aA))) (aB il (ac im (ac im aA)))
 exact⟨by trivial,aU.size,bO,bP,⟨(ut hJ.u aU (ac im (aB (bC hJ.ho lr) (ac im aA)))),(ae.updl (ae.upd (ae.upd (ae.updl hJ.hC X (aa a2 av) hJ.hl rfl) aP (b9 (aG (ae.lt bE) lr hJ.ho) av) (bf (bv _ aF (by decide)) aC)) Y (aa bx av) (ai (aT aR (by decide)) aC)) Z (aa a2 av) aS rfl),(aE.blk aU (aa bB (b9 (aG (ag bG) lr hJ.ho) (aa bA av))) hJ.hS),(aV Z V cF),(al (al aM Y (fun x hx=>(aa (fun e=>(aG (ag ar) lr aM) (e▸hx)) av)) (bt.upd16 Y (ai (aT aR (by decide)) aC))) Z (fun x hx=>(aa (fun e=>(aG (ag Q) lr aM) (e▸hx)) av)) (bt.updl Z aS rfl)),cG⟩⟩
 rintro _ cH ⟨rfl,dC,bR,bS,z⟩
 refine⟨_,_,rfl,z.hl,by simp[dh],by trivial,fun dD bU=>?_⟩
 refine ab z.hC fun aZ bV cI=>?_
 have cK:cH.heap[D]? = some (.cells #[vB 21,vB 0,vW 0,vW 0,vW 0,vW 0,vW 0,vW 0,vW 0,vW 0,vW 0,vW 0,nS,nS,nS,.slice bR ((aO cC (ah.mk (x51.bytesR ((ah.mk b false 0).byteV)) false 0).l.length 0 (ah.mk (x51.bytesR ((ah.mk b false 0).byteV)) false 0) []).2.length) bS,vB 0,vB 0,vB 0,vB 0,vB 0,nS] 45 (0,0)):=z.hm
 refine bn<|tn<|aq 2<|?_
 have a4:=ae.updl cI bU (aa a2 av) z.hl rfl
 refine ax<|mq (c4 a4)<|?_
 have dE:=ae.len a4
 refine Pl 2<|ax<|mq (c4 a4)<|?_
 have dF:=ae.len a4
 refine ax<|m1 (gN (e:=aZ.e)) fun dH cL=>?_
 have a5:=aN bU cL
 have bW:=u1 z.u a5 im
 have bY:=ud af (uz g (u1 h i im)) M
 have bZ:=ae.upd cs (ut (aE.mono (S':=[J]) bo aA) (ut (aE.mono (S':=[T,J,D]) a3 aA) bW (ac im (ac im (ac im (ac (ni j.size H) aA))))) (ac (nr ak) (ac im (ac (ni o.size O) aA)))) (aa (Ne.symm (nb (ag B) a0.size M)) av) (ai (aT (ub (aN a0 bY) B) (by decide)) aC)
 refine ax<|m2 (aY ((aZ.e==0)) (bh aZ.e) bZ) fun dK cM b0=>?_
 refine ab cM fun c1 c2 c3=>?_
 refine aL 1<|ax<|m2 (dI c3) fun dL c5 b1=>nt<|sq<|aq 1<|ax<|mq (c4 c5)<|?_
 have dM:=ae.len c5
 refine Pl 1<|db 2<|?_
 have c6:=u1 b0 b1 im
 have b2:=u1 (aE.mono (S':=[T,J,D,U,ad]) bW (ac im (ac im (ac im (ac im aA))))) c6 im
 have b3:=ut (aE.mono (S':=[J]) bF aA) b2 (ac (ni bY.size ak) (ac im (ac (ni (le (le (le (le (le q.size k.size) g.size) h.size) i.size) o.size) O) (ac (ni (le (le (le (le (le (le (le (le q.size k.size) g.size) h.size) i.size) o.size) p.size) d.size) j.size) H) (ac (nr M) aA)))))
 have c8:=ud bc b3 (le I.size a8)
 have hs:aj bg dir 21 b=bp (b7.mk 21 0 0 0 0 0 0 0 0 0 0 0 [] [] [] (aO cC (ah.mk ((((ah.mk b false 0).bytesC 1).need (fZ ((ah.mk b false 0).byteV)) 5).bytesR ((ah.mk b false 0).byteV)) false 0).l.length 0 (ah.mk ((((ah.mk b false 0).bytesC 1).need (fZ ((ah.mk b false 0).byteV)) 5).bytesR ((ah.mk b false 0).byteV)) false 0) []).2 0 0 0 0 0 []) (((((ah.mk b false 0).bytesC 1).need (fZ ((ah.mk b false 0).byteV)) 5).bytesC ((ah.mk b false 0).byteV)).need (((aO cC (ah.mk ((((ah.mk b false 0).bytesC 1).need (fZ ((ah.mk b false 0).byteV)) 5).bytesR ((ah.mk b false 0).byteV)) false 0).l.length 0 (ah.mk ((((ah.mk b false 0).bytesC 1).need (fZ ((ah.mk b false 0).byteV)) 5).bytesR ((ah.mk b false 0).byteV)) false 0) []).1).e==0) (bh ((aO cC (ah.mk ((((ah.mk b false 0).bytesC 1).need (fZ ((ah.mk b false 0).byteV)) 5).bytesR ((ah.mk b false 0).byteV)) false 0).l.length 0 (ah.mk ((((ah.mk b false 0).bytesC 1).need (fZ ((ah.mk b false 0).byteV)) 5).bytesR ((ah.mk b false 0).byteV)) false 0) []).1).e)):=by
   unfold aj bg dJ uf uW ll
   (try simp only[b6,bq,cR,cN,cO,cQ,cP,reduceIte,rD,r5,rQ,if_pos hd])
   all_goals rfl
 refine cb ((c1.endC.e != 0)) (fun b4=>?_) (fun b4=>?_)
 have b5:=ay b4
 refine aq 2<|?_
 refine aD (ub (ud a9 b3 a8) S) mZ fun dN cT c9=>ap 1<|bj<|?_
 have ca:=nb (ag S) (le (le (le (le (le (le (le (le (le (le (le E.size t.size) r.size) q.size) k.size) g.size) h.size) i.size) o.size) p.size) d.size) j.size) v
 refine vi (aE.blk (u1 (aE.mono (S':=[T,J,D,U,ad,b8]) b2 (ac im (ac im (ac im (ac im (ac im aA)))))) c9 im) (aa (Ne.symm (nb (ae.lt G) (le (le p.size d.size) j.size) v)) (aa (Ne.symm (nb (ag B) (le (le (le (le (le (le (le (le (le (le t.size r.size) q.size) k.size) g.size) h.size) i.size) o.size) p.size) d.size) j.size) v)) (aa (Ne.symm (nb (ag P) (le d.size j.size) v)) (aa bw (aa (Ne.symm (nb (ae.lt N) (le (le (le (le (le (le (le k.size g.size) h.size) i.size) o.size) p.size) d.size) j.size) v)) (aa (Ne.symm ca) av)))))) ao) fun dO cc=>?_
 refine rx (aV cc ca cT) (vI c1.endC.e)<|?_
 subst c2 bV bm bi
 rw[hs]
 exact cA b5 (ut c8 (us c9 cc) (ac (nr ba) (ac (ni (le (le (le (le (le (le (le (le (le (le (le (le I.size E.size) t.size) r.size) q.size) k.size) g.size) h.size) i.size) o.size) p.size) d.size) j.size) v) aA)))
 have b5:=aJ b4
 refine bz<|sg<|?_
 refine L0<|cJ (aE.blk (us a5 c6) (aa V (aa (Ne.symm (nb (ae.lt N) (le (le (le (le k.size g.size) h.size) i.size) o.size) O)) av)) cK)<|?_
 have cd:=ub (ud a9 b3 a8) S
 refine aD cd (mG 21 0 0 0 0 0 0 0 0 0 0 0 nS nS nS (.slice bR ((aO cC (ah.mk (x51.bytesR ((ah.mk b false 0).byteV)) false 0).l.length 0 (ah.mk (x51.bytesR ((ah.mk b false 0).byteV)) false 0) []).2.length) bS) 0 0 0 0 0 nS) fun dP cU a6=>ap 1<|rt<|?_
 have cg:=nb (ag S) (le (le (le (le (le (le (le (le (le (le (le E.size t.size) r.size) q.size) k.size) g.size) h.size) i.size) o.size) p.size) d.size) j.size) v
 have ch:=aE.blk (u1 (aE.mono (S':=[T,J,D,U,ad,b8]) b2 (ac im (ac im (ac im (ac im (ac im aA)))))) a6 im) (aa (Ne.symm (nb (ae.lt G) (le (le p.size d.size) j.size) v)) (aa (Ne.symm (nb (ag B) (le (le (le (le (le (le (le (le (le (le t.size r.size) q.size) k.size) g.size) h.size) i.size) o.size) p.size) d.size) j.size) v)) (aa (Ne.symm (nb (ag P) (le d.size j.size) v)) (aa bw (aa (Ne.symm (nb (ae.lt N) (le (le (le (le (le (le (le k.size g.size) h.size) i.size) o.size) p.size) d.size) j.size) v)) (aa (Ne.symm cg) av)))))) ao
 refine vi ch fun dQ a7=>?_
 refine rx (aV a7 cg cU) (vI 0)<|?_
 subst c2 bV bm bi
 rw[hs]
 exact cW b5 ⟨_,_,_,_,_,rfl,aI.nil ..,aI.nil ..,aI.nil ..,(aI.hi_le (aW.hi (al (al (al (al (al z.ho a5 (fun x hx=>(aa (fun e=>(aG (ag Q) lr z.ho) (e▸hx)) av)) (bt.updl a5 z.hl rfl)) b0 (fun x hx=>(aa (fun e=>(aG (ae.lt N) (le (le (le (le (le (le (le (le k.size g.size) h.size) i.size) o.size) p.size) d.size) j.size) F.size) z.ho) (e▸hx)) av)) (bt.upd16 b0 (ai (ae.safe bZ _ (by decide)) aC))) b1 (fun x hx=>(aa (fun e=>(aG (ae.lt N) (le (le (le (le (le (le (le (le k.size g.size) h.size) i.size) o.size) p.size) d.size) j.size) F.size) z.ho) (e▸hx)) av)) (bt.upd16 b1 (ai (ae.safe c3 _ (by decide)) aC))) a6 (fun x hx=>(aa (fun e=>(aG (ag S) (le (le (le (le (le (le (le (le (le (le (le (le E.size t.size) r.size) q.size) k.size) g.size) h.size) i.size) o.size) p.size) d.size) j.size) F.size) z.ho) (e▸hx)) av)) (bt.upd16 a6 (ai (aT cd (by decide)) aC))) a7 (fun x hx=>(aa (fun e=>(aG (ag ao) lr z.ho) (e▸hx)) av)) (bt.updl a7 ch rfl)) lr) (le (le (le (le (le (le (le (le (le (le (le (le (le I.size E.size) t.size) r.size) q.size) k.size) g.size) h.size) i.size) o.size) p.size) d.size) j.size) F.size) (bt.lo (le (le (le (le (le (le (le (le (le (le (le (le (le I.size E.size) t.size) r.size) q.size) k.size) g.size) h.size) i.size) o.size) p.size) d.size) j.size) F.size))),aI.nil ..,(bT (by omega))⟩ (ut c8 (us a6 a7) (ac (nr ba) (ac (ni (le (le (le (le (le (le (le (le (le (le (le (le I.size E.size) t.size) r.size) q.size) k.size) g.size) h.size) i.size) o.size) p.size) d.size) j.size) v) aA)))
theorem pS{c:Int}(n1:(c==20)=false)(n2:(c==21)=false) : Calls Tryz.prog 102 #[vI 0,vB c,.slice A b.length cp] w (dG (aj bg 0 c b) w):=by
 refine vp 77 Tryz.func102 rfl<|sg<|aK mZ fun n o d e f=>ap 1<|sq<|az 6<|c0<|bz<|aq 2<|ax (args:=#[vI 0,vB c])<|m1 (mh (dir:=0) (x:=c) n1 n2) fun p g=>Pl 3<|aK #[.nilFunc,.nilFunc] fun q r h i j=>aD i #[.nilFunc,.nilFunc] fun s t k=>ap 1<|sq<|sq<|go<|ap 2<|c1<|aq 1<|?_
 have a:=aN g (ud j k h)
 refine aD (ub a e) mZ fun u l m=>ap 1<|bj<|ry l (vI 4)<|?_
 exact cZ (by unfold aj bg;(try simp only[bq,cR,cN,cO,cQ,cP,reduceIte,n1,n2])<;>rfl) (bU (ud f (uz a m) d))
theorem p3{c:Int}(n1:(c==20)=false)(n2:(c==21)=false) : Calls Tryz.prog 102 #[vI 1,vB c,.slice A b.length cp] w (dG (aj bg 1 c b) w):=by
 refine vp 77 Tryz.func102 rfl<|sg<|aK mZ fun n o d e f=>ap 1<|sq<|az 6<|c0<|bz<|aq 2<|ax (args:=#[vI 1,vB c])<|m1 (mh (dir:=1) (x:=c) n1 n2) fun p g=>Pl 3<|aK #[.nilFunc,.nilFunc] fun q r h i j=>aD i #[.nilFunc,.nilFunc] fun s t k=>ap 1<|sq<|sq<|go<|ap 2<|c1<|aq 1<|?_
 have a:=aN g (ud j k h)
 refine aD (ub a e) mZ fun u l m=>ap 1<|bj<|ry l (vI 4)<|?_
 exact cZ (by unfold aj bg;(try simp only[bq,cR,cN,cO,cQ,cP,reduceIte,n1,n2])<;>rfl) (bU (ud f (uz a m) d))
theorem pI{c:Int}(hd:¬ (dir=0∨dir=1)) : Calls Tryz.prog 102 #[vI dir,vB c,.slice A b.length cp] w (dG (aj bg dir c b) w):=by
 have e0:(dir != 0)=true:=by simp;omega
 have e1:(dir != 1)=true:=by simp;omega
 refine vp 77 Tryz.func102 rfl<|sg<|aK mZ fun g h a d e=>ap 1<|sq<|aq 3<|sy 18 e0<|Pl 3<|nl<|tn<|ct e1<|aq 1<|aD d mZ fun i dB f=>ap 1<|bj<|ry dB (vI 1)<|?_
 exact cZ (by unfold aj bg;(try simp only[e0,e1,bq,cR,cN,cO,cQ,cP,reduceIte,hd])<;>rfl) (bU (ud e f a))
variable {v:Value}
theorem ma{c:Int}(hc:B8 c)(h:aX m w v b)(hb:b.length≤1048576) :
    Calls Tryz.prog 102 #[.int .i64 dir,.int .u8 c,v] w (dG (aj bg dir c b) w):=by
  obtain⟨A,cp,rfl,_,_⟩:=h.shape
  by_cases h0:dir=0
  · subst h0
    by_cases a:c=20
    · subst a;exact mP (Or.inl (rfl:(0:Int)=0)) h hb
    by_cases d:c=21
    · subst d;exact l3 (Or.inl rfl) h hb
    exact pS (by simpa using a) (by simpa using d)
  by_cases h1:dir=1
  · subst h1
    by_cases a:c=20
    · subst a;exact m9 (Or.inl (rfl:(0:Int)=0)) h hb
    by_cases d:c=21
    · subst d;exact l3 (Or.inr rfl) h hb
    exact p3 (by simpa using a) (by simpa using d)
  exact pI (by omega)
open Go.RowKit
open Go.RowKit
open Go.RowKit
open Go.RowKit
open Go.RowKit
open Go.RowKit
open Go.RowKit
open Go.RowKit
open Go.RowKit
def iN:Nat→Int→List Int→b7 × Int
  | 1,dir,b=>aj aP dir (b.getD 0 0) (b.drop 1)
  | 2,dir,b=>aj aZ dir (b.getD 0 0) (b.drop 1)
  | 3,dir,b=>aj bi dir (b.getD 0 0) (b.drop 1)
  | 4,dir,b=>aj bg dir (b.getD 0 0) (b.drop 1)
  | 5,dir,b=>aj bY dir (b.getD 0 0) (b.drop 1)
  | _,_,_=>(b7.zero,4)
def eh (dir:Int)(b:List Int) : b7 × Int :=
  if dir != 0&&dir != 1 then (b7.zero,1)
  else if (b.length:Int)==0 then (b7.zero,2)
  else if decide (253<(b.length:Int)) then (b7.zero,3)
  else if decide (128≤b.getD 0 0)&&dir==1 then g8 b
  else iN (jY (b.getD 0 0)) dir b
theorem oe(hsl:aX m w (.slice A b.length cp) b)(hb:b.length≤1048576) :
    Calls Tryz.prog 83 #[vI dir,.slice A b.length cp] w (dG (eh dir b) w):=by
 have hln:(b.length:Int)≤1048576:=by omega
 refine en 60 Tryz.func83 rfl<|sg<|aK mZ fun dl t h d a=>ap 1<|sq<|bk<|aq 3<|cY 3 [11] 14 11 (dir != 0) (dir != 1) (fun K ca cc=>?_) ?_
 have dm:=ay cc
 exact Pl 3<|ce ca _ rfl
 refine ap 1<|cb (((dir != 0)&&(dir != 1))) (fun e=>?_) (fun e=>?_)
 have V:=(aS e).1
 have W:=(aS e).2
 have dp:=ay V
 have dq:=ay W
 refine aq 1<|aD d mZ fun dr cd cf=>ap 1<|rt<|br<|tr<|c8 cd (vI 1)<|?_
 exact cZ (by unfold eh;(try simp only[e,V,W,bq,iN,reduceIte])<;>rfl) (bU (ud a cf h))
 refine az 4<|cb (((b.length:Int)==0)) (fun f=>?_) (fun f=>?_)
 have cg:=ak f
 refine aq 1<|aD d mZ fun ds ch ci=>ap 1<|rt<|br<|tr<|c8 ch (vI 2)<|?_
 exact cZ (by unfold eh;(try simp only[e,f,bq,iN,reduceIte])<;>rfl) (bU (ud a ci h))
 have cg:=au f
 refine az 4<|cb ((decide (253<(b.length:Int)))) (fun g=>?_) (fun g=>?_)
 have cj:=of_decide_eq_true g
 refine aq 1<|aD d mZ fun dt ck cl=>ap 1<|rt<|br<|tr<|c8 ck (vI 3)<|?_
 exact cZ (by unfold eh;(try simp only[e,f,g,bq,iN,reduceIte])<;>rfl) (bU (ud a cl h))
 have cj:=of_decide_eq_false g
 refine aq 1<|?_
 have s:=aX.old hsl a
 refine eF (aX.at_ s 0 (by omega)) fun X Y Z a0 du=>L0<|hM b.length 0 Z (by omega)<|L0<|dC (p:=⟨X,Y+0,none⟩) (v:=vB (b.getD 0 0)) a0<|Pl 2<|cY 3 [31] 34 31 (decide (128≤(b.getD 0 0))) (dir==1) (fun K cm cn=>?_) ?_
 have dv:=of_decide_eq_true cn
 exact Pl 3<|ce cm _ rfl
 refine ap 1<|cb (((decide (128≤(b.getD 0 0)))&&(dir==1))) (fun i=>?_) (fun i=>?_)
 have a1:=(aS i).1
 have a2:=(aS i).2
 have dw:=of_decide_eq_true a1
 have dx:=ak a2
 refine aq 1<|ax<|e2 (pB s (by omega)) fun co dy u a3=>Pl 2<|?_
 have a4:=ub a3 d
 refine aD (hz:=(by rw[u.size];exact b6)) (hv:=u.size) (h1:=u.one) a4 (co) fun dz cq a5=>ap 1<|rt<|br<|tr<|eu 22 u.size cq (vI (((g8 b)).2))<|?_
 exact cZ (by unfold eh;(try simp only[e,f,g,i,a1,a2,bq,iN,reduceIte])<;>rfl) ⟨_,rfl,(aU.lo (aU.upd u a5 (ai (aT a4 (by decide)) aC)) a.size),(ud a (uz a3 a5) h)⟩
 refine sk<|bn<|tn<|aq 1<|L0<|hM b.length 0 Z (by omega)<|L0<|dC (p:=⟨X,Y+0,none⟩) (v:=vB (b.getD 0 0)) a0<|?_
 rcases iE (b.getD 0 0) with⟨hk,hkf⟩|⟨hk,hkf⟩|⟨hk,hkf⟩|⟨hk,hkf⟩|⟨hk,hkf⟩|⟨hk,hkf⟩
 have a6:=ig (x:=(b.getD 0 0)) (w:=t)
 rw[hkf] at a6
 refine ax<|m1 a6 fun dA J=>Pl 3<|aK #[.nilFunc,.nilFunc] fun cr dB a7 cs a8=>aD cs #[.func (.func 96) #[] #[],.func (.func 97) #[] #[]] fun dD ct a9=>ap 1<|sq<|az 2<|c0<|bz<|sq<|?_
 have aa:=aN J (ud a8 a9 a7)
 have ab:=aX.old s aa
 refine eF (aX.at_ ab 0 (by omega)) fun cu cv ac ad dE=>Rg 13 (fun w'=>w'.cell? ⟨cr,0,none⟩=some (.func (.func 96) #[] #[])∧w'.cell? ⟨cu,cv+0,none⟩=some (vB (b.getD 0 0))) fun dF y=>?_
 have ae:=ub y ct
 refine bA ⟨(am ae rfl),(uc y ad)⟩ fun j=>Rt 0 j<|Rl 1 j (fun _ hs=>hs.1)<|Rt 2 j<|Rt 3 j<|nG 4 j b.length 0 0 rfl ac (by omega)<|Rl 5 j (fun _ hs=>hs.2)<|Rt 6 j<|jR (d9 (P:=Tryz.prog) 27 5 1 Tryz.underlying27 rfl rfl A b.length cp 1 (by omega)) fun af hrun108 cw=>Rr 7 j (.slice af (b.length-1) (cp-1)) (fun _ _=>dn (kl:=.i64) (k:=((1:Nat) : Int)) (A:=A) (n:=b.length) (c:=cp) rfl Tryz.underlying27 (by kernel_rfl) (by kernel_rfl) (hrun108 _ _))<|?_
 refine R0 8 rfl<|i7 #[] #[] (args:=#[vI dir,vB (b.getD 0 0),.slice af (b.length-1) (cp-1)])<|e2 (mr (dir:=dir) (c:=(b.getD 0 0)) (b8 (by omega)) (cw _ _ _ _ _ (aX.old ab y)) (by(try simp only[List.length_drop]);omega)) fun cx dH z ah=>?_
 have al:=ub ah ae
 have an:=aN y ah
 refine bA ⟨(am al rfl),(uc an ad)⟩ fun ao=>Rt 9 ao<|Rt 10 ao<|?_
 have ar:=aN aa an
 have av:=ub ar d
 refine R0 11 rfl<|j5 (hz:=(by rw[z.size];exact b6)) (hv:=z.size) (h1:=z.one) av (cx) fun dI cy L=>?_
 have aw:=ud a (uz ar L) h
 refine bA ⟨(am (aV L (Ne.symm (nb (ag d) J.size a7)) al) rfl),(cB (aX.old hsl aw) ac 0 (by omega))⟩ fun cz=>Rt 12 cz<|re<|tn<|rt<|eu 22 z.size cy (vI (((aj aP dir (b.getD 0 0) (b.drop 1))).2))<|?_
 exact cZ (by unfold eh;(try simp only[e,f,g,i,bq,hkf,iN,reduceIte])<;>rfl) ⟨_,rfl,(aU.lo (aU.upd z L (ai (aT av (by decide)) aC)) (le (le (le (le a.size J.size) a8.size) a9.size) y.size)),aw⟩
 have aA:=ig (x:=(b.getD 0 0)) (w:=t)
 rw[hkf] at aA
 refine ax<|m1 aA fun dJ M=>Pl 3<|aK #[.nilFunc,.nilFunc] fun cA dK aB cC aE=>aD cC #[.func (.func 98) #[] #[],.func (.func 99) #[] #[]] fun dL cD aF=>ap 1<|sq<|az 2<|c0<|bz<|sq<|?_
 have aG:=aN M (ud aE aF aB)
 have aH:=aX.old s aG
 refine eF (aX.at_ aH 0 (by omega)) fun cE cF aI aJ dM=>Rg 13 (fun w'=>w'.cell? ⟨cA,0,none⟩=some (.func (.func 98) #[] #[])∧w'.cell? ⟨cE,cF+0,none⟩=some (vB (b.getD 0 0))) fun dN B=>?_
 have aL:=ub B cD
 refine bA ⟨(am aL rfl),(uc B aJ)⟩ fun l=>Rt 0 l<|Rl 1 l (fun _ hs=>hs.1)<|Rt 2 l<|Rt 3 l<|nG 4 l b.length 0 0 rfl aI (by omega)<|Rl 5 l (fun _ hs=>hs.2)<|Rt 6 l<|jR (d9 (P:=Tryz.prog) 27 5 1 Tryz.underlying27 rfl rfl A b.length cp 1 (by omega)) fun aM hrun188 cG=>Rr 7 l (.slice aM (b.length-1) (cp-1)) (fun _ _=>dn (kl:=.i64) (k:=((1:Nat) : Int)) (A:=A) (n:=b.length) (c:=cp) rfl Tryz.underlying27 (by kernel_rfl) (by kernel_rfl) (hrun188 _ _))<|?_
 refine R0 8 rfl<|i7 #[] #[] (args:=#[vI dir,vB (b.getD 0 0),.slice aM (b.length-1) (cp-1)])<|e2 (nm (dir:=dir) (c:=(b.getD 0 0)) (b8 (by omega)) (cG _ _ _ _ _ (aX.old aH B)) (by(try simp only[List.length_drop]);omega)) fun cH dO C aO=>?_
 have aQ:=ub aO aL
 have aR:=aN B aO
 refine bA ⟨(am aQ rfl),(uc aR aJ)⟩ fun aW=>Rt 9 aW<|Rt 10 aW<|?_
 have aY:=aN aG aR
 have b0:=ub aY d
 refine R0 11 rfl<|j5 (hz:=(by rw[C.size];exact b6)) (hv:=C.size) (h1:=C.one) b0 (cH) fun dP cI N=>?_
 have b1:=ud a (uz aY N) h
 refine bA ⟨(am (aV N (Ne.symm (nb (ag d) M.size aB)) aQ) rfl),(cB (aX.old hsl b1) aI 0 (by omega))⟩ fun cJ=>Rt 12 cJ<|re<|tn<|rt<|eu 22 C.size cI (vI (((aj aZ dir (b.getD 0 0) (b.drop 1))).2))<|?_
 exact cZ (by unfold eh;(try simp only[e,f,g,i,bq,hkf,iN,reduceIte])<;>rfl) ⟨_,rfl,(aU.lo (aU.upd C N (ai (aT b0 (by decide)) aC)) (le (le (le (le a.size M.size) aE.size) aF.size) B.size)),b1⟩
 have b2:=ig (x:=(b.getD 0 0)) (w:=t)
 rw[hkf] at b2
 refine ax<|m1 b2 fun dQ O=>Pl 3<|aK #[.nilFunc,.nilFunc] fun cK dR b3 cL b4=>aD cL #[.func (.func 100) #[] #[],.func (.func 101) #[] #[]] fun dS cM b5=>ap 1<|sq<|az 2<|c0<|bz<|sq<|?_
 have b7:=aN O (ud b4 b5 b3)
 have b9:=aX.old s b7
 refine eF (aX.at_ b9 0 (by omega)) fun cN cO ba bb dT=>Rg 13 (fun w'=>w'.cell? ⟨cK,0,none⟩=some (.func (.func 100) #[] #[])∧w'.cell? ⟨cN,cO+0,none⟩=some (vB (b.getD 0 0))) fun dU D=>?_
 have bc:=ub D cM
 refine bA ⟨(am bc rfl),(uc D bb)⟩ fun o=>Rt 0 o<|Rl 1 o (fun _ hs=>hs.1)<|Rt 2 o<|Rt 3 o<|nG 4 o b.length 0 0 rfl ba (by omega)<|Rl 5 o (fun _ hs=>hs.2)<|Rt 6 o<|jR (d9 (P:=Tryz.prog) 27 5 1 Tryz.underlying27 rfl rfl A b.length cp 1 (by omega)) fun bd hrun268 cP=>Rr 7 o (.slice bd (b.length-1) (cp-1)) (fun _ _=>dn (kl:=.i64) (k:=((1:Nat) : Int)) (A:=A) (n:=b.length) (c:=cp) rfl Tryz.underlying27 (by kernel_rfl) (by kernel_rfl) (hrun268 _ _))<|?_
 refine R0 8 rfl<|i7 #[] #[] (args:=#[vI dir,vB (b.getD 0 0),.slice bd (b.length-1) (cp-1)])<|e2 (nB (dir:=dir) (c:=(b.getD 0 0)) (b8 (by omega)) (cP _ _ _ _ _ (aX.old b9 D)) (by(try simp only[List.length_drop]);omega)) fun cQ dV E be=>?_
 have bf:=ub be bc
 have bh:=aN D be
 refine bA ⟨(am bf rfl),(uc bh bb)⟩ fun bl=>Rt 9 bl<|Rt 10 bl<|?_
 have bm:=aN b7 bh
 have bo:=ub bm d
 refine R0 11 rfl<|j5 (hz:=(by rw[E.size];exact b6)) (hv:=E.size) (h1:=E.one) bo (cQ) fun dW cR Q=>?_
 have bp:=ud a (uz bm Q) h
 refine bA ⟨(am (aV Q (Ne.symm (nb (ag d) O.size b3)) bf) rfl),(cB (aX.old hsl bp) ba 0 (by omega))⟩ fun cS=>Rt 12 cS<|re<|tn<|rt<|eu 22 E.size cR (vI (((aj bi dir (b.getD 0 0) (b.drop 1))).2))<|?_
 exact cZ (by unfold eh;(try simp only[e,f,g,i,bq,hkf,iN,reduceIte])<;>rfl) ⟨_,rfl,(aU.lo (aU.upd E Q (ai (aT bo (by decide)) aC)) (le (le (le (le a.size O.size) b4.size) b5.size) D.size)),bp⟩
 have bs:=ig (x:=(b.getD 0 0)) (w:=t)
 rw[hkf] at bs
 refine ax<|m1 bs fun dX R=>Pl 3<|aK #[.nilFunc,.nilFunc] fun cT dY bt cU bu=>aD cU #[.func (.func 102) #[] #[],.func (.func 103) #[] #[]] fun dZ cV bv=>ap 1<|sq<|az 2<|c0<|bz<|sq<|?_
 have bw:=aN R (ud bu bv bt)
 have bx:=aX.old s bw
 refine eF (aX.at_ bx 0 (by omega)) fun cW cX bB bC e0=>Rg 13 (fun w'=>w'.cell? ⟨cT,0,none⟩=some (.func (.func 102) #[] #[])∧w'.cell? ⟨cW,cX+0,none⟩=some (vB (b.getD 0 0))) fun e1 F=>?_
 have bD:=ub F cV
 refine bA ⟨(am bD rfl),(uc F bC)⟩ fun q=>Rt 0 q<|Rl 1 q (fun _ hs=>hs.1)<|Rt 2 q<|Rt 3 q<|nG 4 q b.length 0 0 rfl bB (by omega)<|Rl 5 q (fun _ hs=>hs.2)<|Rt 6 q<|jR (d9 (P:=Tryz.prog) 27 5 1 Tryz.underlying27 rfl rfl A b.length cp 1 (by omega)) fun bE hrun348 d0=>Rr 7 q (.slice bE (b.length-1) (cp-1)) (fun _ _=>dn (kl:=.i64) (k:=((1:Nat) : Int)) (A:=A) (n:=b.length) (c:=cp) rfl Tryz.underlying27 (by kernel_rfl) (by kernel_rfl) (hrun348 _ _))<|?_
 refine R0 8 rfl<|i7 #[] #[] (args:=#[vI dir,vB (b.getD 0 0),.slice bE (b.length-1) (cp-1)])<|e2 (ma (dir:=dir) (c:=(b.getD 0 0)) (b8 (by omega)) (d0 _ _ _ _ _ (aX.old bx F)) (by(try simp only[List.length_drop]);omega)) fun d1 e3 G bF=>?_
 have bG:=ub bF bD
 have bH:=aN F bF
 refine bA ⟨(am bG rfl),(uc bH bC)⟩ fun bI=>Rt 9 bI<|Rt 10 bI<|?_
 have bJ:=aN bw bH
 have bK:=ub bJ d
 refine R0 11 rfl<|j5 (hz:=(by rw[G.size];exact b6)) (hv:=G.size) (h1:=G.one) bK (d1) fun e4 d2 S=>?_
 have bL:=ud a (uz bJ S) h
 refine bA ⟨(am (aV S (Ne.symm (nb (ag d) R.size bt)) bG) rfl),(cB (aX.old hsl bL) bB 0 (by omega))⟩ fun d3=>Rt 12 d3<|re<|tn<|rt<|eu 22 G.size d2 (vI (((aj bg dir (b.getD 0 0) (b.drop 1))).2))<|?_
 exact cZ (by unfold eh;(try simp only[e,f,g,i,bq,hkf,iN,reduceIte])<;>rfl) ⟨_,rfl,(aU.lo (aU.upd G S (ai (aT bK (by decide)) aC)) (le (le (le (le a.size R.size) bu.size) bv.size) F.size)),bL⟩
 have bM:=ig (x:=(b.getD 0 0)) (w:=t)
 rw[hkf] at bM
 refine ax<|m1 bM fun e5 T=>Pl 3<|aK #[.nilFunc,.nilFunc] fun d4 e6 bN d5 bO=>aD d5 #[.func (.func 104) #[] #[],.func (.func 105) #[] #[]] fun e7 d6 bP=>ap 1<|sq<|az 2<|c0<|bz<|sq<|?_
 have bQ:=aN T (ud bO bP bN)
 have bR:=aX.old s bQ
 refine eF (aX.at_ bR 0 (by omega)) fun d7 d8 bS bT e8=>Rg 13 (fun w'=>w'.cell? ⟨d4,0,none⟩=some (.func (.func 104) #[] #[])∧w'.cell? ⟨d7,d8+0,none⟩=some (vB (b.getD 0 0))) fun e9 H=>?_
 have bV:=ub H d6
 refine bA ⟨(am bV rfl),(uc H bT)⟩ fun r=>Rt 0 r<|Rl 1 r (fun _ hs=>hs.1)<|Rt 2 r<|Rt 3 r<|nG 4 r b.length 0 0 rfl bS (by omega)<|Rl 5 r (fun _ hs=>hs.2)<|Rt 6 r<|jR (d9 (P:=Tryz.prog) 27 5 1 Tryz.underlying27 rfl rfl A b.length cp 1 (by omega)) fun bW hrun428 da=>Rr 7 r (.slice bW (b.length-1) (cp-1)) (fun _ _=>dn (kl:=.i64) (k:=((1:Nat) : Int)) (A:=A) (n:=b.length) (c:=cp) rfl Tryz.underlying27 (by kernel_rfl) (by kernel_rfl) (hrun428 _ _))<|?_
 refine R0 8 rfl<|i7 #[] #[] (args:=#[vI dir,vB (b.getD 0 0),.slice bW (b.length-1) (cp-1)])<|e2 (q9 (dir:=dir) (c:=(b.getD 0 0)) (b8 (by omega)) (da _ _ _ _ _ (aX.old bR H)) (by(try simp only[List.length_drop]);omega)) fun db ea I bX=>?_
 have bZ:=ub bX bV
 have c2:=aN H bX
 refine bA ⟨(am bZ rfl),(uc c2 bT)⟩ fun c3=>Rt 9 c3<|Rt 10 c3<|?_
 have c4:=aN bQ c2
 have c5:=ub c4 d
 refine R0 11 rfl<|j5 (hz:=(by rw[I.size];exact b6)) (hv:=I.size) (h1:=I.one) c5 (db) fun eb dc U=>?_
 have c6:=ud a (uz c4 U) h
 refine bA ⟨(am (aV U (Ne.symm (nb (ag d) T.size bN)) bZ) rfl),(cB (aX.old hsl c6) bS 0 (by omega))⟩ fun dd=>Rt 12 dd<|re<|tn<|rt<|eu 22 I.size dc (vI (((aj bY dir (b.getD 0 0) (b.drop 1))).2))<|?_
 exact cZ (by unfold eh;(try simp only[e,f,g,i,bq,hkf,iN,reduceIte])<;>rfl) ⟨_,rfl,(aU.lo (aU.upd I U (ai (aT c5 (by decide)) aC)) (le (le (le (le a.size T.size) bO.size) bP.size) H.size)),c6⟩
 have c7:=ig (x:=(b.getD 0 0)) (w:=t)
 rw[hkf] at c7
 refine ax<|m1 c7 fun ec de=>Pl 3<|aK #[.nilFunc,.nilFunc] fun ed ee df dg dh=>aD dg #[.nilFunc,.nilFunc] fun ef eg di=>ap 1<|sq<|az 2<|c1<|aq 1<|?_
 have c9:=aN de (ud dh di df)
 refine aD (ub c9 d) mZ fun ei dj dk=>ap 1<|bj<|c8 dj (vI 4)<|?_
 exact cZ (by unfold eh;(try simp only[e,f,g,i,bq,hkf,iN,reduceIte])<;>rfl) (bU (ud a (uz c9 dk) h))
theorem pX(h:aX m w v b)(hb:b.length≤1048576) : Calls Tryz.prog 83 #[.int .i64 dir,v] w (dG (eh dir b) w):=by
  obtain⟨A,cp,rfl,_,_⟩:=h.shape
  exact oe h hb
end Go.Proofs.YtdkhbcefkfgbdaaGreat
namespace Go.Proofs.YtdkhbcefkfgbdaaGreat
def N1 (C:ah) : Prop:=C.e≠1
variable {C:ah}
theorem N1.need{b:Bool}{x:Int}(hx:x≠1)(h:N1 C) : N1 (C.need b x):=by
  unfold N1 ah.need at *
  split
  · exact hx
  · exact h
theorem N1.bytesC{n:Int}(h:N1 C) : N1 (C.bytesC n):=by
  unfold ah.bytesC
  split
  · exact N1.need (by decide) h
  · exact h
theorem N1.wordsC{n:Int}(h:N1 C) : N1 (C.wordsC n):=by
  unfold ah.wordsC
  split<;>exact N1.bytesC h
theorem N1.recs{one:Int→ah→Int × ah × cX}(ho:∀ s C,N1 C→N1 (one s C).2.1) : ∀ (n:Nat)(s:Int)(C:ah)(L:List cX),N1 C→N1 (aO one n s C L).1
  | 0,_,_,_,h=>h
  | n+1,s,C,L,h=>by
    unfold aO
    split
    · split
      · exact ho s C h
      · exact N1.recs ho n _ _ _ (ho s C h)
    · exact h
theorem N1.endC(h:N1 C) : N1 C.endC:=by
  unfold ah.endC
  exact N1.need (by decide) h
end Go.Proofs.YtdkhbcefkfgbdaaGreat
namespace Go.Proofs.YtdkhbcefkfgbdaaGreat
end Go.Proofs.YtdkhbcefkfgbdaaGreat
namespace Go.Proofs.YtdkhbcefkfgbdaaGreat
open Go.RowKit
variable {w w':World}
theorem qf(h:aE [] w w') : Below w.heap.size w w':=⟨h.os,h.tape,h.output,h.size,fun k hk=>h.block k hk (by simp)⟩
theorem qg{n:Int}(h:(Lit.int .u8 n).wf=true) : 0≤n∧n<256:=by
  have:=bounds_u8 h
  omega
open Go.RowKit
structure SL where
  aw:Option Addr
  kw:Nat
  ab:Option Addr
  kb:Nat
  ad:Option Addr
  kd:Nat
  ar:Option Addr
  kr:Nat
  ao:Option Addr
  ko:Nat
def mJ (M:b7)(x:SL) : Array Value:=mG M.code M.fail M.addr M.count M.value M.and_ M.or_ M.addr2 M.sub M.status M.events M.messages (.slice x.aw M.words.length x.kw) (.slice x.ab M.bits.length x.kb) (.slice x.ad M.data.length x.kd) (.slice x.ar M.recs.length x.kr) M.mei M.kind M.level M.more M.next (.slice x.ao M.objects.length x.ko)
variable {m:Md}
theorem nI{cs:Array Value}{M:b7}(h:aU m w cs.toList M) : ∃ x,cs=mJ M x:=by
  obtain⟨vw,vb,vd,vr,vo,h0,hw,hb,hd,hr,ho,hR⟩:=h
  obtain⟨aw,kw,rfl,_,_⟩:=hw.shape
  obtain⟨ab,kb,rfl,_,_⟩:=hb.shape
  obtain⟨ad,kd,rfl,_,_⟩:=hd.shape
  obtain⟨ar,kr,rfl,_,_⟩:=hr.shape
  obtain⟨ao,ko,rfl,_,_⟩:=ho.shape
  refine⟨⟨aw,kw,ab,kb,ad,kd,ar,kr,ao,ko⟩,?_⟩
  apply Array.toList_inj.1
  rw[h0]
  rfl
open Go.RowKit
def wb:b7:={ b7.zero with code:=7 }
open Go.RowKit
structure cE where
  unit:Int
  tid:Int
  msg:b7
def cE.zero:cE:=⟨0,0,b7.zero⟩
def tV (m:Md)(w:World)(cs:Array Value)(F:cE) : Prop:=∃ c:Array Value,cs = #[.int .u8 F.unit,.int .u16 F.tid]++c∧aU m w c.toList F.msg∧B8 F.unit∧dB F.tid
def s4 (res:cE × Int)(w:World)(e:Ending)(w':World) : Prop:=∃ cs,e = .returned (.tuple #[.agg cs,.int .i64 res.2])∧tV (.hi w.heap.size) w' cs res.1∧aE [] w w'
theorem iM{x y:cE × Int}(h:x=y)  {e:Ending}  (k:s4 y w e w') : s4 x w e w':=by rw[h];exact k
def w5:Array Value:=#[.int .u8 0,.int .u16 0,.int .u8 0,.int .u8 0,.int .u16 0,.int .u16 0,.int .u16 0,.int .u16 0,.int .u16 0,.int .u16 0,.int .u16 0,.int .u16 0,.int .u16 0,.int .u16 0,.slice none 0 0,.slice none 0 0,.slice none 0 0,.slice none 0 0,.int .u8 0,.int .u8 0,.int .u8 0,.int .u8 0,.int .u8 0,.slice none 0 0]
theorem fx{x:Int}{W:World}(hu:aE [] w W) : s4 (cE.zero,x) w (.returned (.tuple #[.agg w5,.int .i64 x])) W:=⟨_,rfl,⟨jt,(by kernel_rfl),aU.zero ..,(show(0:Int)≤0∧(0:Int)<256 from by decide),(show(0:Int)≤0∧(0:Int)<65536 from by decide)⟩,hu⟩
def dz (u t:Int) : b7 × Int→cE × Int
  | (M,E)=>if E != 0 then (cE.zero,E) else (⟨u,t,M⟩,0)
open Go.RowKit
deriving instance DecidableEq for cE
def qt (u t:Int)(M:b7)(x:SL) : Array Value:=#[.int .u8 u,.int .u16 t,.int .u8 M.code,.int .u8 M.fail,.int .u16 M.addr,.int .u16 M.count,.int .u16 M.value,.int .u16 M.and_,.int .u16 M.or_,.int .u16 M.addr2,.int .u16 M.sub,.int .u16 M.status,.int .u16 M.events,.int .u16 M.messages,.slice x.aw M.words.length x.kw,.slice x.ab M.bits.length x.kb,.slice x.ad M.data.length x.kd,.slice x.ar M.recs.length x.kr,.int .u8 M.mei,.int .u8 M.kind,.int .u8 M.level,.int .u8 M.more,.int .u8 M.next,.slice x.ao M.objects.length x.ko]
theorem o0(u t:Int)(M:b7)(x:SL) : qt u t M x = #[.int .u8 u,.int .u16 t]++mJ M x:=by kernel_rfl
open Go.RowKit
structure Ev where
  e:Int
  f:cE
def Ev.bad (e:Int) : Ev:=⟨e,cE.zero⟩
def nP (x:Ev)(s:SL) : Array Value:=#[.int .i64 x.e,.int .u8 x.f.unit,.int .u16 x.f.tid,.int .u8 x.f.msg.code,.int .u8 x.f.msg.fail,.int .u16 x.f.msg.addr,.int .u16 x.f.msg.count,.int .u16 x.f.msg.value,.int .u16 x.f.msg.and_,.int .u16 x.f.msg.or_,.int .u16 x.f.msg.addr2,.int .u16 x.f.msg.sub,.int .u16 x.f.msg.status,.int .u16 x.f.msg.events,.int .u16 x.f.msg.messages,.slice s.aw x.f.msg.words.length s.kw,.slice s.ab x.f.msg.bits.length s.kb,.slice s.ad x.f.msg.data.length s.kd,.slice s.ar x.f.msg.recs.length s.kr,.int .u8 x.f.msg.mei,.int .u8 x.f.msg.kind,.int .u8 x.f.msg.level,.int .u8 x.f.msg.more,.int .u8 x.f.msg.next,.slice s.ao x.f.msg.objects.length s.ko]
theorem uh(x:Ev)(s:SL) : nP x s = #[.int .i64 x.e]++qt x.f.unit x.f.tid x.f.msg s:=by kernel_rfl
def d6 (m:Md)(w:World)(x:Ev)(cs:List Value) : Prop:=∃ s,cs=(nP x s).toList∧aU m w (mJ x.f.msg s).toList x.f.msg∧(0≤x.f.unit∧x.f.unit<256)∧(0≤x.f.tid∧x.f.tid<65536)
def vV (m:Md)(w:World)(f:cE)(cs:List Value) : Prop:=∃ s,cs=(qt f.unit f.tid f.msg s).toList∧aU m w (mJ f.msg s).toList f.msg∧(0≤f.unit∧f.unit<256)∧(0≤f.tid∧f.tid<65536)
def xJ (m:Md)(w:World)(b:List Int)(cs:List Value) : Prop:=∃ v,cs=[v]∧aX m w v b
variable {n:Nat}{x:Ev}
theorem d6.lo{k:Nat}   {cs:List Value}(hn:n≤k)(h:d6 (.hi k) w x cs) : d6 (.hi n) w x cs:=by
  obtain⟨s,h1,h2,h3⟩:=h
  exact⟨s,h1,h2.lo hn,h3⟩
theorem d6.tt{k:Nat}   {cs:List Value}(h:d6 (.hi k) w x cs) : d6 true w x cs:=by
  obtain⟨s,h1,h2,h3⟩:=h
  exact⟨s,h1,h2.tt,h3⟩
abbrev nd (m:Md) (w:World) (v:Value) (xs:List Ev) : Prop:=aI m 87 25 (d6 m) w v xs
abbrev rf (base:Nat) (w:World) (v:Value) (xs:List Ev) : Prop:=aW base 87 25 (d6 true) w v xs
abbrev vx (base:Nat) (w:World) (v:Value) (xs:List Ev) : Prop:=aW base 87 25 (d6 (.hi base)) w v xs
variable {S:List Nat}
theorem d6.upd(hu:aE S w w')(hs:bS m er S w)(x:Ev)(cs:List Value)(h:d6 m w x cs) : d6 m w' x cs:=by
  obtain⟨s,h1,h2,h3⟩:=h
  exact⟨s,h1,h2.upd hu hs,h3⟩
variable {v:Value}{xs:List Ev}
theorem nd.upd'(h:nd m w v xs)(hu:aE S w w')(hs:bS m (87 :: er) S w) : nd m w' v xs:=aI.upd h hu (hs.sub fun t ht=>by rw[List.mem_singleton] at ht;rw[ht];exact List.mem_cons_self ..) (d6.upd hu (hs.sub fun t ht=>List.mem_cons_of_mem _ ht))
theorem nd.old(h:nd m w v xs)(hu:aE [] w w') : nd m w' v xs:=h.upd' hu (bS.nil _ _ _)
theorem qu(x:Ev)(s:SL) : (nP x s).toList.length=25:=by kernel_rfl
theorem eM:aU m w (mJ b7.zero ⟨none,0,none,0,none,0,none,0,none,0⟩).toList b7.zero:=aU.zero ..
theorem gn{w0:World}{g:Nat}{cs:Array Value}  (hg:w0.heap.size≤g)(hb:w.heap[g]? = some (.cells cs 87 (0,0)))(h:d6 m w x cs.toList) : aW w0.heap.size 87 25 (d6 m) w (.slice (some ⟨g,0,none⟩) 1 1) [x]:=by
  have hh:=h
  obtain⟨s,h1,h2⟩:=hh
  have hl:cs.toList.length=25:=by rw[h1];exact qu x s
  clear h1
  refine⟨cs.toList,⟨hl,.inr ⟨g,1,cs,rfl,hg,hb,Nat.le_refl _,by unfold maxLen;omega,by simpa using hl,by rw[List.take_of_length_le];exact Nat.le_of_eq hl⟩⟩,fun j y hj=>?_⟩
  cases j with
  | succ j=>simp at hj
  | zero =>
    have hj:x=y:=by simpa using hj
    subst hj
    exact⟨cs.toList,hl,h,fun i u hi=>by simpa using hi⟩
theorem vJ{α β γ δ ε ζ:Sort _}{C:Prop}{P1 P2 P3 P4:α→β→γ→δ→ε→ζ→Prop}(h:∃ a b c d e f,P1 a b c d e f∧P2 a b c d e f∧P3 a b c d e f∧P4 a b c d e f)(k:∀ a b c d e f,P1 a b c d e f→P2 a b c d e f→P3 a b c d e f→P4 a b c d e f→C) : C :=
  let ⟨a,b,c,d,e,f,h1,h2,h3,h4⟩:=h;k a b c d e f h1 h2 h3 h4
theorem ia{α β γ δ:Sort _}{C:Prop}{P1 P2 P3 P4 P5:α→β→γ→δ→Prop}(h:∃ a b c d,P1 a b c d∧P2 a b c d∧P3 a b c d∧P4 a b c d∧P5 a b c d)(k:∀ a b c d,P1 a b c d→P2 a b c d→P3 a b c d→P4 a b c d→P5 a b c d→C) : C :=
  let ⟨a,b,c,d,h1,h2,h3,h4,h5⟩:=h;k a b c d h1 h2 h3 h4 h5
theorem d6.ones(x:Ev)(cs:List Value)(h:d6 m w x cs) : ∀ v,v∈cs→v.oneCell'=true:=by
  obtain⟨s,h1,h2,_⟩:=h
  have h3:=h2.one
  intro v hv
  rw[h1,uh,o0,Array.toList_append,Array.toList_append,List.mem_append,List.mem_append] at hv
  clear h1
  rw[Array.all_eq_true'] at h3
  rcases hv with hv|hv|hv
  · simp at hv;subst hv;rfl
  · simp at hv;rcases hv with rfl | rfl<;>rfl
  · exact h3 v (by simpa using hv)
variable {A:Option Addr}{c:Nat}
theorem nd.elt(h:nd m w (.slice A n c) xs)(j:Nat)(hj:j<xs.length)(d:Ev) :
    ∃ b off cells t fr s,A=some ⟨b,off,none⟩∧w.heap[b]? = some (.cells cells t fr)∧(aU m w (mJ (xs.getD j d).f.msg s).toList (xs.getD j d).f.msg∧(0≤(xs.getD j d).f.unit∧(xs.getD j d).f.unit<256)∧(0≤(xs.getD j d).f.tid∧(xs.getD j d).f.tid<65536))∧(cells.toList.drop (off+j*25)).take 25=(nP (xs.getD j d) s).toList:=by
  obtain⟨b,off,cells,t,fr,cs,h1,h2,h3,⟨s,h4,h5⟩,h6⟩:=aI.elt h d j hj
  exact⟨b,off,cells,t,fr,s,h1,h2,h5,h6.trans h4⟩
abbrev vR (m:Md) (w:World) (v:Value) (xs:List cE) : Prop:=aI m 47 24 (vV m) w v xs
abbrev fP (m:Md) (w:World) (v:Value) (xs:List (List Int)) : Prop:=aI m 27 1 (xJ m) w v xs
theorem vV.upd(hu:aE S w w')(hs:bS m er S w)(x:cE)(cs:List Value)(h:vV m w x cs) : vV m w' x cs:=by
  obtain⟨s,h1,h2,h3⟩:=h
  exact⟨s,h1,h2.upd hu hs,h3⟩
theorem vR.old{xs:List cE}(h:vR m w v xs)(hu:aE [] w w') : vR m w' v xs:=aI.upd h hu (bS.nil _ _ _) (vV.upd hu (bS.nil _ _ _))
theorem vR.elt{xs:List cE}(h:vR m w (.slice A n c) xs)(j:Nat)(hj:j<xs.length)(d:cE) :
    ∃ b off cells t fr s,A=some ⟨b,off,none⟩∧w.heap[b]? = some (.cells cells t fr)∧(aU m w (mJ (xs.getD j d).msg s).toList (xs.getD j d).msg∧(0≤(xs.getD j d).unit∧(xs.getD j d).unit<256)∧(0≤(xs.getD j d).tid∧(xs.getD j d).tid<65536))∧(cells.toList.drop (off+j*24)).take 24=(qt (xs.getD j d).unit (xs.getD j d).tid (xs.getD j d).msg s).toList:=by
  obtain⟨b,off,cells,t,fr,cs,h1,h2,h3,⟨s,h4,h5⟩,h6⟩:=aI.elt h d j hj
  exact⟨b,off,cells,t,fr,s,h1,h2,h5,h6.trans h4⟩
theorem fP.old{xs:List (List Int)}(h:fP m w v xs)(hu:aE [] w w') : fP m w' v xs:=aI.upd h hu (bS.nil _ _ _) fun x cs ⟨v,h1,h2⟩=>⟨v,h1,h2.old hu⟩
theorem fP.elt{xs:List (List Int)}(h:fP m w (.slice A n c) xs)(j:Nat)(hj:j<xs.length) :
    ∃ b off A' c',A=some ⟨b,off,none⟩∧w.cell? ⟨b,off+j,none⟩=some (.slice A' (xs.getD j []).length c')∧aX m w (.slice A' (xs.getD j []).length c') (xs.getD j [])∧(xs.getD j []).length≤c'∧c'≤maxLen:=by
  obtain⟨b,off,cells,t,fr,cs,h1,h2,h3,⟨v,h4,h5⟩,h6⟩:=aI.elt h [] j hj
  obtain⟨A',c',rfl,h7,h8⟩:=h5.shape
  refine⟨b,off,A',c',h1,?_,h5,h7,h8⟩
  rw[bR h2]
  rw[h4] at h6
  have h9:=congrArg (fun z=>z[0]?) h6
  simpa using h9
open Go.RowKit
variable {P:Program}
theorem e9(t e:TypeId)(sz:Nat){i:TypeInfo}(ht:P.underlying t=some (.slice e))(hi:P.info? e=some i)(hsz:i.size=sz)(A:Option Addr)(n c:Nat){lo up:Int}(k h:Nat)(hlo:lo=(k:Int))(hup:up=(h:Int))(hk:k≤h)(hh:h≤n)(hc:n≤c) :
    ∃ A':Option Addr,(∀ (kl kh:IntKind) (W:World),(Instr.slice t (.slice A n c) (some (.int kl lo)) (some (.int kh up)) none).run P W = .ok (.slice A' (h-k) (c-k)) W) ∧
      ∀ {α:Type} (m:Md) (e':TypeId) (R:World→α→List Value→Prop) (w:World) (xs:List α),aI m e' sz R w (.slice A n c) xs→aI m e' sz R w (.slice A' (h-k) (c-k)) ((xs.take h).drop k):=by
  subst hlo hup
  exact va t e sz ht hi hsz A n c k h hk hh hc
theorem de{o:Oper}{ev:Operand→Value}   {t:TypeId}{x y z:Operand}   {kl kh:IntKind}{lo hi:Int}  {e:TypeId}(ho:o.op = .slice t x (some y) (some z) none)(ht:P.underlying t=some (.slice e))(hx:ev x = .slice A n c)(hy:ev y = .int kl lo)(hz:ev z = .int kh hi)
    (hr:(Instr.slice t (.slice A n c) (some (.int kl lo)) (some (.int kh hi)) none).run P w = .ok v w) : (execOp ev o).run P w = .ok (.value v) w:=by
  have hu:(underlying t).run P w = .ok (.slice e) w:=run_underlying ht w
  unfold execOp
  simp only[ho,Option.map_some,Option.map_none,hx,hy,hz,Instr.sliceAt,Sem.run_bind,hu,hr,Result.andThen,Sem.run_pure]
theorem q5(t e:TypeId)(sz:Nat){i:TypeInfo}(ht:P.underlying t=some (.slice e))(hi:P.info? e=some i)(hsz:i.size=sz)(A:Option Addr)(n c:Nat){lo:Int}(k:Nat)(hlo:lo=(k:Int))(hk:k≤n) :
    ∃ A':Option Addr,(∀ (kl:IntKind) (W:World),(Instr.slice t (.slice A n c) (some (.int kl lo)) none none).run P W = .ok (.slice A' (n-k) (c-k)) W) ∧
      ∀ {α:Type} (m:Md) (e':TypeId) (R:World→α→List Value→Prop) (w:World) (xs:List α),aI m e' sz R w (.slice A n c) xs→aI m e' sz R w (.slice A' (n-k) (c-k)) (xs.drop k):=by
  subst hlo
  exact d9 t e sz ht hi hsz A n c k hk
open Go.RowKit
theorem aI.cap{α:Type}  {e:TypeId}{sz:Nat}{R:World→α→List Value→Prop}    {xs:List α}(h:aI m e sz R w (.slice A n c) xs) : n≤c:=by
  obtain⟨A',c',hv,h1,_⟩:=h
  injection hv with _ e2 e3
  subst e2 e3
  exact h1
theorem aX.full{xs:List Int}(h:aX m w (.slice A n c) xs) : aX m w (.slice A n n) xs:=by
  obtain⟨A',c',hv,hc1,hc2,h0,h3⟩:=h
  injection hv with e1 e2 e3
  subst e1 e2 e3
  refine⟨A,xs.length,rfl,Nat.le_refl _,Nat.le_trans hc1 hc2,fun hA=>?_,h3⟩
  have:=h0 hA
  omega
section
variable {P:Program}{n:Nat}{D:List Deferred}{F:Fr}{w:World}{K:Fr→World→Prop}{Q:Exit→Act→World→Prop}{d:Option Tmp}{t:TypeId}{s:String}{af:Array Edge}{gu:Option (Nat × Bool)}
end
open Go.RowKit
theorem kz{P:Program}{sz:Nat}{A:Option Addr}{c:Nat}(w:World) : (Builtin.firstCells sz 0 (.slice A 0 c)).run P w = .ok #[] w:=by
  cases A with
  | none=>simp[Builtin.firstCells]
  | some a =>
    have:=run_loadCells_list (P:=P) w a [] (fun j v hj=>by simp at hj)
    simpa [Builtin.firstCells] using this
theorem dE{α:Type}{base sz:Nat}{e t:TypeId}{R:World→α→List Value→Prop}{w:World}{A:Option Addr}{n c g:Nat}{xs:List α}(hb:∃ cs fr,w.heap[g]? = some (.cells cs t fr))(h:aW base e sz R w (.slice A n c) xs)(ht:(t==e)=false) : g∉ob A:=by
  obtain⟨cs,fr,hb⟩:=hb
  exact ei hb h ht
theorem eH{β:Type}{base2 sz2:Nat}{e2:TypeId}{R2:World→β→List Value→Prop}{A A2 B:Option Addr}{w wY:World}{n c:Nat}{ys:List β}(hat:∀ g,g∈ob A2→g∈ob A∨w.heap.size≤g)(h1:∀ x,x∈ob A→x∉ob B)(hY:aW base2 e2 sz2 R2 wY (.slice B n c) ys)(hs:wY.heap.size≤w.heap.size) : ∀ x,x∈ob A2→x∉ob B:=fun x hx=>by
  rcases hat x hx with h|h
  · exact h1 x h
  · exact fun hb=>by have:=rJ hY x hb;omega
theorem fo{A B:Option Addr}(h:∀ x,x∈ob A→x∉ob B) : ∀ x,x∈ob B→x∉ob A:=fun x hx hy=>h x hy hx
section
variable {P:Program}{n:Nat}{D:List Deferred}{F:Fr}{w:World}{K:Fr→World→Prop}{Q:Exit→Act→World→Prop}{d:Option Tmp}{t:TypeId}{s:String}{af:Array Edge}{gu:Option (Nat × Bool)}
theorem wG{α:Type}{R:World→α→List Value→Prop}{x y:Operand}{e:TypeId}{base m c:Nat}{A:Option Addr}{xs ys:List α}{mm:Md}{e' ty:TypeId}{u:Value}(z:Value)(sz bytes:Nat)(HO:aW base e sz R w (.slice A m c) xs)(HY:aI mm e' sz R w u ys)
    (hone:∀ x cs,R w x cs→∀ v,v∈cs→v.oneCell'=true) (hRU:∀ w',aE (ob A++[]) w w'→∀ x cs,R w x cs→R w' x cs)
    (hl:xs.length+ys.length≤4611686018427387904) (hmul:(xs.length+ys.length)*bytes≤140737488355328) (hbase:base≤w.heap.size) (h:∀ A' c' w',aW base e sz R w' (.slice A' (xs++ys).length c') (xs++ys)→aE (ob A++[]) w w'→(∀ g,g∈ob A'→g∈ob A∨w.heap.size≤g)→K (pt d (.slice A' (xs++ys).length c') F) w')
    (hx:dO F x=some (.slice A m c):=by kernel_rfl) (hy':dO F y=some u:=by kernel_rfl) (he:na P ty=some e:=by kernel_rfl) (hs:(mw P ty,z.cells.size,(eL n d&&Nat.ble bytes 65536)&&Nat.blt 0 sz)=(some (some z,sz,bytes),sz,true):=by kernel_rfl) : OG P ⟨d,.call { callee:=.builtin .append,args:=#[x,y],argTypes:=#[ty,ty] },t,s,af,gu⟩ n D F w K Q:=by
  by_cases hne:ys=[]
  · subst hne
    simp only[Prod.mk.injEq] at hs
    have h3:=ew (ew hs.2.2).1
    obtain⟨A0,c0,e0,hc1,_⟩:=HO.rd.shape
    have e0:=e0.symm
    injection e0 with e1 e2 e3
    subst e2
    subst e1 e3
    obtain⟨B,cB,rfl,_,_⟩:=HY.shape
    have hinf:(P.info? e).map (fun i=>(i.zero,i.size,i.bytes))=some (some z,sz,bytes):=by have:=hs.1;unfold mw at this;rw[he] at this;exact this
    obtain⟨i0,hi,hz0,hz1,hz2⟩:=info_parts hinf
    have hsr:Src P i0.size ty (.slice B 0 cB) 0 [] w:=⟨.inl ⟨e,et he⟩,fun w'=>by simp[Builtin.lenOf],kz w,kz w.drew,by simp,fun u hu=>by cases hu⟩
    have hr:=run_append_nothing w ty ty t _ i0 (et he) hi A0 xs.length c0 hc1 _ hsr
    refine⟨fun a ha K' hK=>OW.mk ?_⟩
    have hx':=ha.ev hx
    have hy2:=ha.ev hy'
    simp only[List.length_nil] at hy2
    unfold Oper.wp execOp
    simp only[resolve,invoke,builtin,Sem.run_bind,Sem.run_pure,Result.andThen_ok,List.map_toArray,List.map_cons,List.map_nil,hx',hy2,hr]
    refine hK _ _ _ (h A0 c0 w (by rw[List.append_nil];exact HO) (aE.mono (S':=ob A0++[]) (aE.refl [] w) (fun x hx=>by cases hx)) (fun g hg=>.inl hg)) ?_
    rw[List.append_nil]
    exact ha.put h3.1
  · have hy:0<ys.length:=by
      cases ys with
      | nil=>exact absurd rfl hne
      | cons a r=>simp
    simp only[Prod.mk.injEq] at hs
    have h2:=ew hs.2.2
    have h3:=ew h2.1
    exact⟨fun a ha K' hK=>mD z sz bytes rfl rfl (et he) (by have:=hs.1;unfold mw at this;rw[he] at this;exact this) hs.2.1 (by simpa using h2.2) xs (ha.ev hx) HO u ys (ha.ev hy') HY hy hone hRU hl hmul hbase fun A' c' w' hO hu hat=>hK _ _ _ (h A' c' w' hO hu hat) (ha.put h3.1)⟩
theorem fe{α:Type}{R:World→α→List Value→Prop}{x y:Operand}{e:TypeId}{base m c:Nat}{A:Option Addr}{xs ys:List α}{mm:Md}{e' ty:TypeId}{u:Value}(z:Value)(sz bytes:Nat)(HO:aW base e sz R w (.slice A m c) xs)(HY:aI mm e' sz R w u ys)
    (hone:∀ x cs,R w x cs→∀ v,v∈cs→v.oneCell'=true) (hRU:∀ w',aE (ob A++[]) w w'→∀ x cs,R w x cs→R w' x cs)
    (hl:xs.length+ys.length≤4194304) (hbase:base≤w.heap.size) (h:∀ A' c' w',aW base e sz R w' (.slice A' (xs++ys).length c') (xs++ys)→aE (ob A++[]) w w'→(∀ g,g∈ob A'→g∈ob A∨w.heap.size≤g)→K (pt d (.slice A' (xs++ys).length c') F) w')
    (hx:dO F x=some (.slice A m c):=by kernel_rfl) (hy':dO F y=some u:=by kernel_rfl) (he:na P ty=some e:=by kernel_rfl) (hs:(mw P ty,z.cells.size,(eL n d&&Nat.ble bytes 65536)&&Nat.blt 0 sz)=(some (some z,sz,bytes),sz,true):=by kernel_rfl) : OG P ⟨d,.call { callee:=.builtin .append,args:=#[x,y],argTypes:=#[ty,ty] },t,s,af,gu⟩ n D F w K Q:=by
  have hb:bytes≤65536:=by
    simp only[Prod.mk.injEq] at hs
    simpa using (ew (ew hs.2.2).1).2
  exact wG z sz bytes HO HY hone hRU (by omega) (Nat.le_trans (Nat.mul_le_mul hl hb) (by decide)) hbase h hx hy' he hs
end
open Go.RowKit
theorem cv{α β:Type}{base sz base2 sz2:Nat}{e e2:TypeId}{R:World→α→List Value→Prop}{R2:World→β→List Value→Prop}{w:World}{A A2:Option Addr}{n c n2 c2:Nat}{xs:List α}{ys:List β}(h:aW base e sz R w (.slice A n c) xs)(h2:aW base2 e2 sz2 R2 w (.slice A2 n2 c2) ys)(ht:(e==e2)=false) : ∀ x,x∈ob A→x∉ob A2:=fun x hx hx2=>by
  rcases cV h with rfl|⟨g,cells,rfl,_,h1⟩
  · simp[ob] at hx
  rcases cV h2 with rfl|⟨g2,cells2,rfl,_,h3⟩
  · simp[ob] at hx2
  simp[ob] at hx hx2
  subst hx
  subst hx2
  rw[h1] at h3
  injection h3 with h3
  injection h3 with _ h3 _
  subst h3
  simp at ht
theorem lM{A A0:Option Addr}{w w0:World}{S:List Nat}(hat:∀ x,x∈ob A→x∈ob A0∨w.heap.size≤x)(h:∀ x,x∈ob A0→x∈S∨w0.heap.size≤x)(hs:w0.heap.size≤w.heap.size) : ∀ x,x∈ob A→x∈S∨w0.heap.size≤x:=fun x hx=>by
  rcases hat x hx with k|k
  · exact h x k
  · exact .inr (Nat.le_trans hs k)
theorem pW{A A1 A0:Option Addr}{w w0:World}(hat:∀ x,x∈ob A→x∈ob A1∨w.heap.size≤x)(h:∀ x,x∈ob A1→x∈ob A0∨w0.heap.size≤x)(hs:w0.heap.size≤w.heap.size) : ∀ x,x∈ob A→x∈ob A0∨w0.heap.size≤x:=lM hat h hs
theorem jo{A0:Option Addr}{w:World}:∀ x,x∈ob none→x∈ob A0∨w.heap.size≤x:=fun x hx=>by simp[ob] at hx
theorem s3{A0:Option Addr}{w:World}:∀ x,x∈ob A0→x∈ob A0∨w.heap.size≤x:=fun x hx=>.inl hx
theorem lI{w:World}:∀ x cs,lO w x cs→∀ v,v∈cs→v.oneCell'=true:=fun x cs h v hv=>by
  rw[h.1] at hv
  simp at hv
  subst hv
  rfl
section
variable {n:Nat}{B:Option Addr}
def oF (n:Nat)(B:Option Addr)(X:List Nat) : Prop:=0<n→∀ x,x∈ob B→x∉X
theorem gO:oF n B []:=fun _ x _=>by simp
theorem fY{g:Nat}{X:List Nat}(h:0<n→∀ x,x∈ob B→x≠g)(k:oF n B X) : oF n B (g :: X):=fun hn x hx=>by
  rw[List.mem_cons]
  rintro(e|e)
  · exact h hn x hx e
  · exact k hn x hx e
theorem f8{A:Option Addr}{X:List Nat}(h:oF n B (ob A))(k:oF n B X) : oF n B (ob A++X):=fun hn x hx=>by
  rw[List.mem_append]
  rintro(e|e)
  · exact h hn x hx e
  · exact k hn x hx e
theorem j6{A A0:Option Addr}{w:World}(h:oF n B (ob A0))(hl:0<n→∀ x,x∈ob B→x<w.heap.size)(hat:∀ x,x∈ob A→x∈ob A0∨w.heap.size≤x) : oF n B (ob A):=fun hn x hx hx2=>by
  rcases hat x hx2 with k|k
  · exact h hn x hx k
  · have:=hl hn x hx;omega
theorem gh{α:Type}{base sz:Nat}{e:TypeId}{R:World→α→List Value→Prop}{w w':World}{A:Option Addr}{m c:Nat}{xs:List α}(hl:0<n→∀ x,x∈ob B→x<w.heap.size)(h:aW base e sz R w' (.slice A m c) xs)(hs:w.heap.size≤base) : oF n B (ob A):=fun hn x hx hx2=>by
  have:=hl hn x hx
  have:=mO h x hx2
  omega
theorem aI.low{α:Type}{m:Md}{e:TypeId}{sz c:Nat}{R:World→α→List Value→Prop}{w:World}{xs:List α}(h:aI m e sz R w (.slice B n c) xs) : 0<n→∀ x,x∈ob B→x<w.heap.size:=fun hn x hx=>by
  obtain⟨A',c',hv,_,_,_,h3⟩:=h
  injection hv with e1 e2 e3
  subst e1 e2 e3
  obtain⟨b,off,cells,t,fr,rfl,hh,_⟩:=h3 hn
  simp[ob] at hx
  subst hx
  exact ag hh
theorem aX.far{m:Md}{c:Nat}{w w':World}{xs:List Int}{X:List Nat}(h:aX m w (.slice B n c) xs)(hu:aE X w w')(hd:oF n B X) : aX m w' (.slice B n c) xs:=by
  obtain⟨A',c',hv,h1,h2,h0,h3⟩:=h
  injection hv with e1 e2 e3
  subst e1 e2 e3
  refine⟨_,_,rfl,h1,h2,h0,fun hp=>?_⟩
  obtain⟨b,off,cells,t,fr,rfl,hh,h4,h5⟩:=h3 hp
  exact⟨b,off,cells,t,fr,rfl,hu.blk (hd hp b (by simp[ob])) hh,h4,h5⟩
end
open Go.RowKit
def qq (n:Nat)(X:List Nat)(w:World) : Prop:=∀ y,y∈X→n≤y∨∃ cells t fr,w.heap[y]? = some (.cells cells t fr)∧t∉er
def q8 (p n:Nat)(X:List Nat)(w:World) : Prop:=∀ y,y∈X→n≤y∨∃ cells t fr,w.heap[y]? = some (.cells cells t fr)∧(t∉er∨y<p)
theorem qq.two{p n:Nat}{X:List Nat}{w:World}(h:qq n X w) : q8 p n X w:=fun y hy=>(h y hy).imp_right fun⟨c,t,fr,k,q⟩=>⟨c,t,fr,k,.inl q⟩
theorem q8.le{p p' n:Nat}{X:List Nat}{w:World}(hp:p'≤p)(h:q8 p' n X w) : q8 p n X w:=fun y hy=>(h y hy).imp_right fun⟨c,t,fr,k,q⟩=>⟨c,t,fr,k,q.imp_right fun z=>Nat.lt_of_lt_of_le z hp⟩
def bM (p n:Nat)(w:World)(x:Ev)(cs:List Value) : Prop:=n≤w.heap.size∧∀ (w':World)(X:List Nat),aE X w w'→q8 p n X w→d6 (.hi p) w' x cs
theorem bM.mk{p:Nat}{w:World}{x:Ev}{cs:List Value}(h:d6 (.hi p) w x cs) : bM p w.heap.size w x cs:=⟨Nat.le_refl _,fun w' X hu ha=>d6.upd hu (fun y hy=>by
  rcases ha y hy with k|⟨c,t,fr,k,k2⟩
  · exact .inl k
  · exact .inr ⟨rfl,c,t,fr,k,k2⟩) x cs h⟩
theorem bM.hi{p n:Nat}{w:World}{x:Ev}{cs:List Value}(h:bM p n w x cs) : d6 (.hi p) w x cs:=h.2 w [] (aE.refl _ _) (fun y hy=>by cases hy)
theorem bM.ev{p n:Nat}{w:World}{x:Ev}{cs:List Value}(h:bM p n w x cs) : d6 true w x cs:=h.hi.tt
theorem bM.mono{p n n':Nat}{w:World}{x:Ev}{cs:List Value}(hn:n≤n')(hs:n'≤w.heap.size)(h:bM p n w x cs) : bM p n' w x cs:=⟨hs,fun w' X hu ha=>h.2 w' X hu fun y hy=>by
  rcases ha y hy with k|k
  · exact .inl (Nat.le_trans hn k)
  · exact .inr k⟩
theorem bM.lo{p p' n:Nat}{w:World}{x:Ev}{cs:List Value}(hp:p'≤p)(h:bM p n w x cs) : bM p' n w x cs:=⟨h.1,fun w' X hu ha=>(h.2 w' X hu (ha.le hp)).lo hp⟩
theorem bM.upd2{p n:Nat}{w w':World}{X:List Nat}{x:Ev}{cs:List Value}(hu:aE X w w')(ha:q8 p n X w)(h:bM p n w x cs) : bM p n w' x cs:=by
  refine⟨Nat.le_trans h.1 hu.size,fun w2 X2 hu2 ha2=>h.2 w2 (X++X2) ?_ ?_⟩
  · exact aE.trans' (aE.mono hu (fun y hy=>.inl (List.mem_append_left _ hy))) hu2 (fun y hy=>.inl (List.mem_append_right _ hy))
  · intro y hy
    rcases List.mem_append.1 hy with hy|hy
    · exact ha y hy
    · rcases ha2 y hy with k | ⟨cells,t,fr,k1,k2⟩
      · exact .inl k
      · by_cases hl:y<w.heap.size
        · by_cases hX:y∈X
          · exact ha y hX
          · exact .inr ⟨cells,t,fr,by rw[← hu.block y hl hX];exact k1,k2⟩
        · exact .inl (Nat.le_trans h.1 (by omega))
theorem bM.upd{p n:Nat}{w w':World}{X:List Nat}{x:Ev}{cs:List Value}(hu:aE X w w')(ha:qq n X w)(h:bM p n w x cs) : bM p n w' x cs:=h.upd2 hu ha.two
theorem bM.ones{p n:Nat}{w:World}:∀ (x:Ev)(cs:List Value),bM p n w x cs→∀ v,v∈cs→v.oneCell'=true:=fun x cs h=>d6.ones x cs h.hi
abbrev fj (n base:Nat) (w:World) (v:Value) (xs:List Ev) : Prop:=aW base 87 25 (bM base n) w v xs
theorem aW.map{α:Type}{base sz:Nat}{e:TypeId}{R R':World→α→List Value→Prop}{w:World}{v:Value}{xs:List α}(h:aW base e sz R w v xs)(k:∀ x cs,R w x cs→R' w x cs) : aW base e sz R' w v xs:=by
  obtain⟨cells,ho,hx⟩:=h
  refine⟨cells,ho,fun j x hj=>?_⟩
  obtain⟨cs,h1,h2,h3⟩:=hx j x hj
  exact⟨cs,h1,k _ _ h2,h3⟩
theorem vx.low{base:Nat}{w:World}{v:Value}{xs:List Ev}(h:vx base w v xs) : fj w.heap.size base w v xs:=aW.map h fun _ _=>bM.mk
theorem tF{p base:Nat}{w:World}{v:Value}{xs:List Ev}(h:aW base 87 25 (d6 (.hi p)) w v xs) : aW base 87 25 (bM p w.heap.size) w v xs:=aW.map h fun _ _=>bM.mk
theorem fj.own{n base:Nat}{w:World}{v:Value}{xs:List Ev}(h:fj n base w v xs) : rf base w v xs:=aW.map h fun _ _ q=>q.ev
theorem fj.up{n n' base:Nat}{w:World}{v:Value}{xs:List Ev}(hn:n≤n')(hs:n'≤w.heap.size)(h:fj n base w v xs) : fj n' base w v xs:=aW.map h fun _ _ q=>q.mono hn hs
theorem fj.lo{n base base':Nat}{w:World}{v:Value}{xs:List Ev}(h:fj n base w v xs)(hb:base'≤base) : fj n base' w v xs:=aW.weaken (aW.map h fun _ _ q=>q.lo hb) hb
theorem dl{n:Nat}{w:World}:qq n [] w:=fun y hy=>by cases hy
theorem i6{n g:Nat}{w:World}{cs:Array Value}{t:TypeId}{fr:Nat × Nat}{X:List Nat}(hb:w.heap[g]? = some (.cells cs t fr))(ht:er.contains t=false)(k:qq n X w) : qq n (g :: X) w:=fun y hy=>by
  rcases List.mem_cons.1 hy with rfl|hy
  · exact .inr ⟨cs,t,fr,hb,by simpa using ht⟩
  · exact k y hy
theorem ml{n:Nat}{w:World}{A:Option Addr}{X:List Nat}(h:∀ x,x∈ob A→n≤x)(k:qq n X w) : qq n (ob A++X) w:=fun y hy=>by
  rcases List.mem_append.1 hy with hy|hy
  · exact .inl (h y hy)
  · exact k y hy
theorem oY{α:Type}{n base sz m c:Nat}{e:TypeId}{R:World→α→List Value→Prop}{w:World}{A:Option Addr}{xs:List α}{X:List Nat}(h:aW base e sz R w (.slice A m c) xs)(ht:er.contains e=false)(k:qq n X w) : qq n (ob A++X) w:=fun y hy=>by
  rcases List.mem_append.1 hy with hy|hy
  · rcases cV h with rfl | ⟨g,cells,rfl,_,h1⟩
    · simp[ob] at hy
    · simp[ob] at hy
      subst hy
      exact .inr ⟨_,_,_,h1,by simpa using ht⟩
  · exact k y hy
theorem i3{n:Nat}:∀ x,x∈ob none→n≤x:=fun x hx=>by simp[ob] at hx
theorem t3{n:Nat}{A A0:Option Addr}{w:World}(hat:∀ x,x∈ob A→x∈ob A0∨w.heap.size≤x)(h:∀ x,x∈ob A0→n≤x)(hs:n≤w.heap.size) : ∀ x,x∈ob A→n≤x:=fun x hx=>by
  rcases hat x hx with k|k
  · exact h x k
  · exact Nat.le_trans hs k
section
variable {n base g cp:Nat}{w w':World}{A:Option Addr}{X:List Nat}
theorem mM:∀ x,x∈ob none→x∉X:=fun x hx=>by simp[ob] at hx
theorem wc{t:TypeId}(hb:∃ cs fr,w.heap[g]? = some (.cells cs t fr))(ht:er.contains t=false)(k:qq n X w) : qq n (g :: X) w:=by
  obtain⟨cs,fr,hb⟩:=hb
  exact i6 hb ht k
theorem nO{n':Nat}(hn:n≤n')(h:∀ x,x∈ob A→n'≤x) : ∀ x,x∈ob A→n≤x:=fun x hx=>Nat.le_trans hn (h x hx)
theorem mF{k:Nat}{B:Option Addr}(hl:0<k→∀ x,x∈ob B→x<w.heap.size)(hg:w.heap.size≤g) : 0<k→∀ x,x∈ob B→x≠g:=fun hk x hx e=>by
  have:=hl hk x hx
  omega
theorem ru{k:Nat}{B:Option Addr}:oF k B (ob none):=fun _ x _ hx=>by simp[ob] at hx
end
theorem ri{α:Type}{b0 b1 sz:Nat}{e:TypeId}{R:World→α→List Value→Prop}{w:World}{v:Value}{xs:List α}(hb:b0≤b1)(h:aW b1 e sz R w v xs) : aW b0 e sz R w v xs:=by
  obtain⟨cells,⟨h1,h2⟩,h3⟩:=h
  refine⟨cells,⟨h1,?_⟩,h3⟩
  rcases h2 with h2|⟨g,cap,cur,k0,k1,k2⟩
  · exact .inl h2
  · exact .inr ⟨g,cap,cur,k0,Nat.le_trans hb k1,k2⟩
theorem tN{α:Type}{b1 sz m c:Nat}{e:TypeId}{R:World→α→List Value→Prop}{w w1:World}{A A0:Option Addr}{xs:List α}(h:aW b1 e sz R w1 (.slice A m c) xs)(hb:w.heap.size≤b1) : ∀ x,x∈ob A→x∈ob A0∨w.heap.size≤x:=fun x hx=>.inr (Nat.le_trans hb (mO h x hx))
theorem sr{α:Type}{n b1 sz m c:Nat}{e:TypeId}{R:World→α→List Value→Prop}{w1:World}{A:Option Addr}{xs:List α}(h:aW b1 e sz R w1 (.slice A m c) xs)(hb:n≤b1) : ∀ x,x∈ob A→n≤x:=fun x hx=>Nat.le_trans hb (mO h x hx)
open Go.RowKit
section
variable {P:Program}{Q:Exit→Act→World→Prop}{n:Nat}{D:List Deferred}{F:Fr}{w:World}{c:Code}{l:Nat}
theorem xS(h:GC P c (Exit.noGoto Q) n D F w) : GC P (.scope c) Q n D F w:=⟨fun a ha=>wp_scope_straight (h.out a ha)⟩
theorem xG(h:GQ Q .normal n D F w) : GC P (.label l) Q n D F w:=⟨fun a ha=>wp_label (h.out a ha)⟩
theorem gr(h:GQ Q .ret n D F w) : GQ (Exit.noGoto Q) .ret n D F w:=⟨fun a ha=>h.out a ha⟩
end
open Go.RowKit
abbrev ep (xs:List Int) : Prop:=∀ x,x∈xs→0≤x∧x<256
theorem sE{x:Int}(h:0≤x∧x<256) : ((UInt8.ofNat x.toNat).toNat:Int)=x:=by
  simp only[UInt8.toNat_ofNat']
  omega
theorem gB{xs:List Int}{j:Nat}(hj:j<xs.length)(hs:j<(strOfNums xs).size) : (strOfNums xs)[j]=UInt8.ofNat (xs.getD j 0).toNat:=by
  show(strOfNums xs).data[j]=_
  simp[strOfNums,List.getD_eq_getElem?_getD,List.getElem?_eq_getElem hj]
theorem gU{P:Program}{w:World}{ev:Operand→Value}{o:Oper}{x ix:Operand}{t:TypeId}{xs:List Int}{k:IntKind}{i:Int}(j:Nat)(ho:o.op = .index t x ix)(ht:P.underlying t=some .string)(hx:ev x = .string (strOfNums xs))(hi:ev ix = .int k i)(hr:ep xs)(hj:i=(j:Int))(hlt:j<xs.length) : (execOp ev o).run P w = .ok (.value (.int .u8 (xs.getD j 0))) w:=by
  subst hj
  have hs:j<(strOfNums xs).size:=by rw[strOfNums_size];exact hlt
  have h:=run_index_string (P:=P) w t (strOfNums xs) k (j:Int) ht
  rw[dif_pos (by omega)] at h
  have hg:xs.getD j 0∈xs:=by
    rw[List.getD_eq_getElem?_getD,List.getElem?_eq_getElem hlt]
    exact List.getElem_mem hlt
  unfold execOp
  simp only[ho,hx,hi,Sem.run_bind,h,Result.andThen,Sem.run_pure]
  have e:((strOfNums xs)[((j:Nat) : Int).toNat]'(by simpa using hs))=UInt8.ofNat (xs.getD j 0).toNat:=by
    simp only[Int.toNat_natCast]
    exact gB hlt hs
  rw[e,sE (hr _ hg)]
theorem f3(xs:List Int)(a b:Nat)(hb:b≤xs.length) : (strOfNums xs).extract a b=strOfNums ((xs.take b).drop a):=by
  apply ByteArray.ext
  rw[ByteArray.data_extract]
  apply Array.toList_inj.1
  rw[Array.toList_extract]
  simp[strOfNums,List.extract,List.map_drop,List.map_take,List.drop_take]
theorem ky{P:Program}{w:World}{ev:Operand→Value}{o:Oper}{x y:Operand}{t:TypeId}{xs:List Int}{k:IntKind}{i:Int}(j:Nat)(ho:o.op = .slice t x (some y) none none)(ht:P.underlying t=some .string)(hx:ev x = .string (strOfNums xs))(hy:ev y = .int k i)(hj:i=(j:Int))(hlt:j≤xs.length) : (execOp ev o).run P w = .ok (.value (.string (strOfNums (xs.drop j)))) w:=by
  subst hj
  have hu:(underlying t).run P w = .ok .string w:=run_underlying ht w
  have h:=run_slice_string_l (P:=P) w t (strOfNums xs) ht k (j:Int) (by omega) (by rw[strOfNums_size];omega)
  rw[strOfNums_size,f3 _ _ _ (Nat.le_refl _),List.take_length,Int.toNat_natCast] at h
  unfold execOp
  simp only[ho,Option.map_some,Option.map_none,hx,hy,Instr.sliceAt,Sem.run_bind,hu,h,Result.andThen,Sem.run_pure]
theorem p9{P:Program}{w:World}{ev:Operand→Value}{o:Oper}{x y:Operand}{t:TypeId}{xs:List Int}{k:IntKind}{i:Int}(j:Nat)(ho:o.op = .slice t x none (some y) none)(ht:P.underlying t=some .string)(hx:ev x = .string (strOfNums xs))(hy:ev y = .int k i)(hj:i=(j:Int))(hlt:j≤xs.length) : (execOp ev o).run P w = .ok (.value (.string (strOfNums (xs.take j)))) w:=by
  subst hj
  have hu:(underlying t).run P w = .ok .string w:=run_underlying ht w
  have h:=run_slice_string_h (P:=P) w t (strOfNums xs) ht k (j:Int) (by omega) (by rw[strOfNums_size];omega)
  rw[Int.toNat_natCast,f3 _ _ _ hlt,List.drop_zero] at h
  unfold execOp
  simp only[ho,Option.map_some,Option.map_none,hx,hy,Instr.sliceAt,Sem.run_bind,hu,h,Result.andThen,Sem.run_pure]
theorem iu{xs:List Int}(h:ep xs)(j:Nat) : ep (xs.drop j):=fun x hx=>h x (List.mem_of_mem_drop hx)
theorem kM{xs:List Int}(h:ep xs)(j:Nat) : ep (xs.take j):=fun x hx=>h x (List.mem_of_mem_take hx)
theorem sU{xs ys:List Int}(hx:ep xs)(hy:ep ys) : ((strOfNums xs).toList==(strOfNums ys).toList)=decide (xs=ys):=by
  have e:∀ zs:List Int,(strOfNums zs).toList=zs.map fun n=>UInt8.ofNat n.toNat:=fun zs=>by
    rw[ByteArray.toList_eq]
    rfl
  rw[e,e]
  by_cases h:xs=ys
  · subst h;simp
  · rw[decide_eq_false h,beq_eq_false_iff_ne]
    exact fun k=>h (ib xs ys hx hy k)
def jZ (base:Nat)(w:World)(v:Value)(xs:List Int) : Prop:=∃ g cap cur n,v = .slice (some ⟨g,0,none⟩) xs.length cap∧base≤g∧w.heap[g]? = some (.cells cur 5 (n,n+1))∧xs.length≤n∧xs.length≤cap∧cap≤maxLen∧cur.toList.take xs.length=xs.map (Value.int .u8)∧ep xs
theorem jZ.rd{base:Nat}{w:World}{v:Value}{xs:List Int}(h:jZ base w v xs) : aX true w v xs:=by
  obtain⟨g,cap,cur,n,rfl,hb,hh,h1,h2,h3,h4,h5⟩:=h
  refine⟨_,_,rfl,h2,h3,(fun hA=>by cases hA),fun hp=>⟨g,0,cur,_,_,rfl,hh,(fun _=>⟨rfl,Nat.zero_le _⟩),fun j x hj=>?_⟩⟩
  refine⟨[.int .u8 x],rfl,⟨rfl,h5 x (List.mem_of_getElem? hj)⟩,fun i u hi=>?_⟩
  cases i with
  | succ i=>simp at hi
  | zero =>
    have hi:Value.int .u8 x=u:=by simpa using hi
    subst hi
    have h6:(xs.map (Value.int .u8))[j]? = some (.int .u8 x):=by rw[List.getElem?_map,hj];rfl
    rw[← h4,List.getElem?_take] at h6
    split at h6
    · simpa using h6
    · cases h6
theorem jZ.shape{base:Nat}{w:World}{v:Value}{xs:List Int}(h:jZ base w v xs) : ∃ g cp,v = .slice (some ⟨g,0,none⟩) xs.length cp:=by
  obtain⟨g,cap,cur,n,hv,_⟩:=h
  exact⟨g,cap,hv⟩
section
variable {P:Program}{n:Nat}{D:List Deferred}{F:Fr}{w:World}{K:Fr→World→Prop}{Q:Exit→Act→World→Prop}{d:Option Tmp}{t:TypeId}{s:String}{af:Array Edge}{gu:Option (Nat × Bool)}
theorem oV{a:Act}{o:Oper}{N:Option Tmp}{K:Act→World→Prop}{w1:World}(v:Value)(hN:o.dst=N)(hr:(execOp a.eval o).run P w = .ok (.value v) w1)(h:K (a.put N v) w1) : OW P o a w K Q:=by
  refine OW.mk ?_
  subst hN
  unfold Oper.wp
  rw[hr]
  exact h
theorem wQ{ty:TypeId}{x:Operand}{sv:ByteArray}(hs:P.underlying ty=some .string)(h:∀ g w',w.heap.size≤g→w'.heap[g]? = some (.stringIter sv 0)→aE [] w w'→K (pt d (.pointer (some ⟨g,0,none⟩)) F) w')
    (hx:dO F x=some (.string sv):=by kernel_rfl) (hk:eL n d=true:=by kernel_rfl) : OG P ⟨d,.range ty x,t,s,af,gu⟩ n D F w K Q:=by
  refine⟨fun a ha K' hK=>oV (.pointer (some ⟨w.heap.size,0,none⟩)) rfl (w1:=w.alloc (.stringIter sv 0)) ?_ (hK _ _ _ (h _ _ (Nat.le_refl _) (eb _ _) ((aE.refl _ _).alloc _)) (ha.put hk))⟩
  have hx':=ha.ev hx
  unfold execOp
  simp only[hx',Sem.run_bind,run_range_string w ty sv hs,Result.andThen,Sem.run_pure]
  rfl
theorem pA{xs:List Int}(hr:ep xs)(h0:0<xs.length) : ((((Utf8.decode (strOfNums xs) 0).1:Nat) : Int)=58↔xs.getD 0 0=58):=by
  have hs:0<(strOfNums xs).size:=by rw[strOfNums_size];exact h0
  have hm:xs.getD 0 0∈xs:=by
    rw[List.getD_eq_getElem?_getD,List.getElem?_eq_getElem h0]
    exact List.getElem_mem h0
  have hb:=hr _ hm
  have h1:((strOfNums xs).get! 0).toNat=(xs.getD 0 0).toNat:=by
    have e:(strOfNums xs).get! 0=(strOfNums xs)[0]:=by
      show(strOfNums xs).data[0]! = _
      rw[getElem!_pos (strOfNums xs).data 0 hs]
      rfl
    rw[e,gB h0 hs]
    simp only[UInt8.toNat_ofNat']
    omega
  unfold Utf8.decode
  simp only[Nat.zero_add,h1,Utf8.runeError]
  split
  · omega
  · split
    · split
      · rename_i h2 h3 h4;simp only;omega
      · simp only;omega
    · split
      · split
        · rename_i h2 h3 h4 h5;simp only[Bool.and_eq_true,decide_eq_true_eq] at h5;simp only;omega
        · simp only;omega
      · split
        · split
          · rename_i h2 h3 h4 h5 h6;simp only[Bool.and_eq_true,decide_eq_true_eq] at h6;simp only;omega
          · simp only;omega
        · simp only;omega
theorem xO{x:Operand}{xs:List Int}{r:Nat}(hr:ep xs)(h0:0<xs.length)(B:w.heap[r]? = some (.stringIter (strOfNums xs) 0))(h:∀ c w',(c=58↔xs.getD 0 0=58)→aE [r] w w'→K (pt d (.tuple #[.bool true,.int .i64 0,.int .i32 c]) F) w')
    (hx:dO F x=some (.pointer (some ⟨r,0,none⟩)):=by kernel_rfl) (hk:eL n d=true:=by kernel_rfl) : OG P ⟨d,.next x true,t,s,af,gu⟩ n D F w K Q:=by
  have hlt:=ag B
  have hrun:=Lib.run_next_any_at (P:=P) w r (strOfNums xs) 0 t B (by rw[strOfNums_size];exact h0)
  refine⟨fun a ha K' hK=>oV _ rfl (w1:=w.iterAt r (strOfNums xs) (0+(Utf8.decode (strOfNums xs) 0).2)) ?_ (hK _ _ _ (h (((Utf8.decode (strOfNums xs) 0).1:Nat) : Int) _ (pA hr h0) ?_) (ha.put hk))⟩
  · have hx':=ha.ev hx
    unfold execOp
    simp only[hx',Sem.run_bind,hrun,Result.andThen,Sem.run_pure]
    rfl
  · refine⟨rfl,rfl,rfl,?_,fun k hk hn=>?_⟩
    · simp[World.iterAt]
    · have:r≠k:=fun e=>hn (by simp[e])
      simp[World.iterAt,Array.getElem?_setIfInBounds,this]
end
open Go.RowKit
def fi (xs ys:List Int) : Bool:=decide (((ys.length:Nat) : Int)≤((xs.length:Nat) : Int))&&decide (xs.drop (((xs.length:Nat) : Int)-((ys.length:Nat) : Int)).toNat=ys)
theorem tp{m m2:Md}{A B:Option Addr}{n n2 c c2:Nat}{xs ys:List Int}{w:World}(h1:aX m w (.slice A n c) xs)(h2:aX m2 w (.slice B n2 c2) ys) : Calls Tryz.prog 79 #[.slice A n c,.slice B n2 c2] w (bW (.bool (decide (xs=ys))) w):=by
 refine en 10 Tryz.func79 rfl<|sg<|Pl 1<|ng<|Pl 1<|L0<|gy (.string (strOfNums xs)) (dD (A:=A) (n:=n) (c:=c) rfl (by kernel_rfl) Tryz.underlying27 Tryz.underlying5 Tryz.underlying9 h1)<|Pl 1<|L0<|gy (.string (strOfNums ys)) (dD (A:=B) (n:=n2) (c:=c2) rfl (by kernel_rfl) Tryz.underlying27 Tryz.underlying5 Tryz.underlying9 h2)<|L0<|gy (.bool (decide (xs=ys))) (jj (a:=(strOfNums xs)) (b:=(strOfNums ys)) rfl (by kernel_rfl) (by kernel_rfl) (ow h1 h2))<|Pl 1<|nl<|?_
 refine tn<|rt<|rr (.bool (decide (xs=ys)))<|?_
 exact⟨rfl,(aE.refl [] _)⟩
theorem rP{m m2:Md}{A B:Option Addr}{c c2:Nat}{xs ys:List Int}{w:World}(h1:aX m w (.slice A xs.length c) xs)(h2:aX m2 w (.slice B ys.length c2) ys) : Calls Tryz.prog 55 #[.slice A xs.length c,.slice B ys.length c2] w (bW (.bool (fi xs ys)) w):=by
 have hz1:=aI.len h1
 have hz2:=aI.len h2
 have hz3:=aI.cap h1
 refine en 21 Tryz.func55 rfl<|sg<|Pl 1<|ng<|Pl 6<|bl 10 ((decide (((ys.length:Nat) : Int)≤((xs.length:Nat) : Int)))) (fun a=>?_) (fun a=>?_)
 have b:=of_decide_eq_true a
 refine Pl 5<|L1<|Oi (((xs.length:Nat) : Int)-((ys.length:Nat) : Int))<|jR (q5 (P:=Tryz.prog) 27 5 1 Tryz.underlying27 rfl rfl A xs.length c (lo:=(((xs.length:Nat) : Int)-((ys.length:Nat) : Int))) (((((xs.length:Nat) : Int)-((ys.length:Nat) : Int))).toNat) (by omega) (by omega)) fun d hrun12 e=>L1<|gy (.slice d (xs.length-(((((xs.length:Nat) : Int)-((ys.length:Nat) : Int))).toNat)) (c-(((((xs.length:Nat) : Int)-((ys.length:Nat) : Int))).toNat))) (dn (kl:=.i64) (k:=(((xs.length:Nat) : Int)-((ys.length:Nat) : Int))) (A:=A) (n:=xs.length) (c:=c) rfl Tryz.underlying27 (by kernel_rfl) (by kernel_rfl) (hrun12 _ _))<|Pl 1<|L1<|Oc<|m1 (tp (xs:=(xs.drop (((((xs.length:Nat) : Int)-((ys.length:Nat) : Int))).toNat))) (ys:=ys) (e _ _ _ _ _ h1) h2) fun g f=>Pl 2<|nt<|rt<|rr (.bool (decide ((xs.drop (((((xs.length:Nat) : Int)-((ys.length:Nat) : Int))).toNat))=ys)))<|?_
 have hs:(decide ((xs.drop (((((xs.length:Nat) : Int)-((ys.length:Nat) : Int))).toNat))=ys))=fi xs ys:=by unfold fi;simp only[a,bq,Bool.true_and,Bool.false_and,Bool.and_true,Bool.and_false]
 rw[hs]
 exact⟨rfl,f⟩
 have b:=of_decide_eq_false a
 refine Pl 11<|nt<|rt<|rr (.bool false)<|?_
 have hs:false=fi xs ys:=by unfold fi;simp only[a,bq,Bool.true_and,Bool.false_and,Bool.and_true,Bool.and_false]
 rw[hs]
 exact⟨rfl,(aE.refl [] _)⟩
theorem td{m m2:Md}{u v:Value}{xs ys:List Int}{w:World}(h1:aX m w u xs)(h2:aX m2 w v ys) : Calls Tryz.prog 55 #[u,v] w (bW (.bool (fi xs ys)) w):=by
  obtain⟨A,c,rfl,_,_⟩:=h1.shape
  obtain⟨B,c2,rfl,_,_⟩:=h2.shape
  exact rP h1 h2
end Go.Proofs.YtdkhbcefkfgbdaaGreat
namespace Go.Proofs.YtdkhbcefkfgbdaaGreat
def fE (b:List Int) : Nat→Int
  | 0=>0
  | k+1=>(fE b k+b.getD k 0)%256
def tH (b:List Int) : Int:=fE b b.length
def gz (b:List Int) : Int:=(0-tH b)%256
def dL (b:List Int) : Bool:=decide (0<((b.length:Nat) : Int))&&(gz b==0)
theorem rH(b:List Int) : ∀ k,0≤fE b k∧fE b k<256
  | 0=>by unfold fE;omega
  | k+1=>by unfold fE;omega
def ft (n:Int) : Int:=if n<10 then 48+n else 55+n
def bJ (c:Int) : Int:=if 48≤c∧c≤57 then c-48 else if 65≤c∧c≤70 then c-55 else -1
def sl:List Int→List Int
  | []=>[]
  | c :: b=>ft (c/16) :: ft (c%16) :: sl b
def bG:List Int→Option (List Int)
  | []=>some []
  | [_]=>none
  | a :: b :: r=>if bJ a<0∨bJ b<0 then none else (bG r).map fun l=>(16*bJ a+bJ b)%256 :: l
theorem px{n:Int}(h:0≤n∧n<16) : bJ (ft n)=n:=by
  unfold ft
  split<;>unfold bJ
  · rw[if_pos (by omega)];omega
  · rw[if_neg (by omega),if_pos (by omega)];omega
theorem iq{c:Int}(h:0≤bJ c) : ft (bJ c)=c∧bJ c<16:=by
  unfold bJ at h ⊢
  split at h
  · rename_i h1
    rw[if_pos h1]
    unfold ft
    rw[if_pos (by omega)]
    omega
  · rename_i h1
    split at h
    · rename_i h2
      rw[if_neg h1,if_pos h2]
      unfold ft
      rw[if_neg (by omega)]
      omega
    · omega
theorem i1(c:Int) : bJ c<16∧-1≤bJ c:=by unfold bJ;split;omega;split<;>omega
theorem lW:∀ b:List Int,(sl b).length=2*b.length
  | []=>rfl
  | c :: b=>by simp only[sl,List.length_cons,lW b];omega
theorem jc:∀ {s x:List Int},bG s=some x→s=sl x∧∀ y,y∈x→0≤y∧y<256
  | [],x,h=>by
    injection h with h
    subst h
    exact⟨rfl,fun y hy=>by cases hy⟩
  | [_],x,h=>by cases h
  | a :: b :: r,x,h=>by
    simp only[bG] at h
    split at h
    · cases h
    · rename_i hd
      cases hr:bG r with
      | none=>rw[hr] at h;cases h
      | some l =>
        rw[hr] at h
        injection h with h
        obtain⟨h1,h2⟩:=jc hr
        have ha:=iq (c:=a) (by omega)
        have hb:=iq (c:=b) (by omega)
        subst h
        refine⟨?_,fun y hy=>?_⟩
        · simp only[sl]
          rw[show(16*bJ a+bJ b)%256/16=bJ a from by omega,show(16*bJ a+bJ b)%256%16=bJ b from by omega,ha.1,hb.1,← h1]
        · rcases List.mem_cons.1 hy with rfl | hy
          · omega
          · exact h2 y hy
theorem o8{xs:List Int}{k:Nat}(h:2*k+1<xs.length)(ha:¬ bJ (xs.getD (2*k) 0)<0)(hb:¬ bJ (xs.getD (2*k+1) 0)<0) : bG (xs.drop (2*k))=(bG (xs.drop (2*(k+1)))).map fun l=>[(16*bJ (xs.getD (2*k) 0)+bJ (xs.getD (2*k+1) 0))%256]++l:=by
  have e1:xs.getD (2*k) 0=xs[2*k]:=by rw[List.getD_eq_getElem?_getD,List.getElem?_eq_getElem (by omega)];rfl
  have e2:xs.getD (2*k+1) 0=xs[2*k+1]:=by rw[List.getD_eq_getElem?_getD,List.getElem?_eq_getElem h];rfl
  rw[List.drop_eq_getElem_cons (show 2*k<xs.length by omega),List.drop_eq_getElem_cons h,← e1,← e2]
  simp only[bG]
  rw[if_neg (by omega),show 2*k+1+1=2*(k+1) by omega]
  rfl
theorem q6{xs:List Int}{k:Nat}(h:2*k+1<xs.length)(hd:bJ (xs.getD (2*k) 0)<0∨bJ (xs.getD (2*k+1) 0)<0) : bG (xs.drop (2*k))=none:=by
  have e1:xs.getD (2*k) 0=xs[2*k]:=by rw[List.getD_eq_getElem?_getD,List.getElem?_eq_getElem (by omega)];rfl
  have e2:xs.getD (2*k+1) 0=xs[2*k+1]:=by rw[List.getD_eq_getElem?_getD,List.getElem?_eq_getElem h];rfl
  rw[List.drop_eq_getElem_cons (show 2*k<xs.length by omega),List.drop_eq_getElem_cons h,← e1,← e2]
  simp only[bG]
  rw[if_pos hd]
theorem iv:∀ {xs:List Int},xs.length%2≠0→bG xs=none
  | [],h=>by simp at h
  | [_],_=>rfl
  | a :: b :: r,h=>by
    simp only[bG]
    split
    · rfl
    · rw[iv (by simp only[List.length_cons] at h;omega)]
      rfl
theorem l2{s x:List Int}(h:bG s=some x) : s.length=2*x.length:=by
  obtain⟨h1,_⟩:=jc h
  rw[h1,lW]
theorem kE{xs L:List Int}{k:Nat}(h:bG xs=(bG (xs.drop (2*k))).map fun l=>L++l)(h1:¬ 2*k<xs.length) : bG xs=some L:=by
  rw[List.drop_eq_nil_of_le (by omega)] at h
  rw[h]
  simp[bG]
theorem jx{xs L:List Int}{k:Nat}(h:bG xs=(bG (xs.drop (2*k))).map fun l=>L++l)(h2:2*k+1<xs.length)(ha:¬ bJ (xs.getD (2*k) 0)<0)(hb:¬ bJ (xs.getD (2*k+1) 0)<0) : bG xs=(bG (xs.drop (2*(k+1)))).map fun l=>(L++[(16*bJ (xs.getD (2*k) 0)+bJ (xs.getD (2*k+1) 0))%256])++l:=by
  rw[h,o8 h2 ha hb]
  cases bG (xs.drop (2*(k+1))) with
  | none=>rfl
  | some l=>simp
theorem lP{xs L:List Int}{k:Nat}(h:bG xs=(bG (xs.drop (2*k))).map fun l=>L++l)(h2:2*k+1<xs.length)(hd:bJ (xs.getD (2*k) 0)<0∨bJ (xs.getD (2*k+1) 0)<0) : bG xs=none:=by
  rw[h,q6 h2 hd]
  rfl
end Go.Proofs.YtdkhbcefkfgbdaaGreat
namespace Go.Proofs.YtdkhbcefkfgbdaaGreat
open Go.RowKit
section
variable {P:Program}{n:Nat}{D:List Deferred}{F:Fr}{w:World}{K:Fr→World→Prop}{Q:Exit→Act→World→Prop}{d:Option Tmp}{t:TypeId}{s:String}{af:Array Edge}{gu:Option (Nat × Bool)}
end
open Go.RowKit
theorem tP{w:World}{g:Nat}{c s:Int}(hg:w.heap[g]? = some (.cells #[vB s] 5 (0,0))) : Calls Tryz.prog 183 #[vB c,vP g 0] w (fun e w'=>e = .returned (.tuple #[])∧w'.heap[g]? = some (.cells #[vB ((s+c)%256)] 5 (0,0))∧aE [g] w w'):=by
 exact en 6 Tryz.func183 rfl<|go<|aH hg 0<|Pl 2<|L0<|bD hg 0 #[vB ((s+c)%256)] fun d a b=>nl<|rm (.tuple #[])<|⟨rfl,a,b⟩
theorem pT{m:Md}{A:Option Addr}{cp:Nat}{b:List Int}{w0 w:World}{g:Nat}(hu0:aE [] w0 w)(hg0:w0.heap.size≤g)(hsl:aX m w0 (.slice A b.length cp) b)(hg:w.heap[g]? = some (.cells #[vB (fE b 0)] 5 (0,0))) :
    Calls Tryz.prog 182 #[.slice A b.length cp,.func (.func 183) #[] #[vP g 0]] w (fun e w'=>e = .returned (.tuple #[])∧w'.heap[g]? = some (.cells #[vB (tH b)] 5 (0,0))∧aE [] w0 w'∧w.heap.size≤w'.heap.size):=by
 have hln:=aI.len hsl
 refine en 16 Tryz.func182 rfl<|az 3<|bk<|?_
 refine gw (fun x=>[(1,.func (.func 183) #[] #[vP g 0]),(6,.slice A b.length cp),(7,vI ((b.length:Nat) : Int)),(8,vI ((x:Nat) : Int))]) (fun(x:Nat) w'=>aE [] w0 w'∧w.heap.size≤w'.heap.size∧w'.heap[g]? = some (.cells #[vB (fE b x)] 5 (0,0))∧(x≤b.length)) (fun x=>b.length-x) 0 ⟨hu0,lr,hg,(by(try dsimp only);omega)⟩ ?_
 rintro k j ⟨a,f,l,n⟩
 refine f5 [(1,.func (.func 183) #[] #[vP g 0]),(6,.slice A b.length cp),(7,vI ((b.length:Nat) : Int)),(8,vI ((k:Nat) : Int))] ?_
 have h:j.heap[g]? = some (.cells #[vB (fE b k)] 5 (0,0)):=l
 have y:k≤b.length:=n
 refine az 1<|sq<|cb ((decide (((k:Nat) : Int)<((b.length:Nat) : Int)))) (fun d=>?_) (fun d=>?_)
 have o:=of_decide_eq_true d
 refine bz<|sq<|bk<|sg<|?_
 refine eF (aX.at_ (aX.old hsl a) k (by omega)) fun q r s t z=>L0<|hM b.length k s (by omega)<|L0<|dC (p:=⟨q,r+k,none⟩) (v:=vB (b.getD k 0)) t<|ap 1<|go<|Pl 2<|L0<|i7 #[] #[vP g 0] (args:=#[vB (b.getD k 0),vP g 0])<|m2 (tP (c:=(b.getD k 0)) h) fun B u i=>nl<|bn<|tn<|go<|be (((k:Nat) : Int)+1)<|?_
 refine Pl 1<|nl<|?_
 exact ed (k+1) ⟨(ud a i hg0),(le f i.size),u,(by(try dsimp only);omega)⟩ (by omega)
 have o:=of_decide_eq_false d
 refine xt<|tx<|tx<|bx<|rm (.tuple #[])<|?_
 have hk:k=b.length:=by omega
 subst hk
 exact⟨rfl,h,a,f⟩
theorem oa{m:Md}{A:Option Addr}{cp:Nat}{b:List Int}{w:World}(hsl:aX m w (.slice A b.length cp) b) :
    Calls Tryz.prog 116 #[.slice A b.length cp] w (bW (vB (gz b)) w):=by
 refine en 9 Tryz.func116 rfl<|aq 1<|ng<|aK #[vB 0] fun h i a c d=>L0<|bD c 0 #[vB 0] fun j dB e=>aL 2<|?_
 exact ax<|m3 (pT (ud d e a) a hsl dB) fun k f g l=>ng<|aH f 0<|ap 2<|rt<|rr (vB ((0-(tH b))%256))<|⟨rfl,g⟩
theorem qi{m:Md}{v:Value}{b:List Int}{w:World}(h:aX m w v b) : Calls Tryz.prog 116 #[v] w (bW (.int .u8 (gz b)) w):=by
  obtain⟨A,cp,rfl,_,_⟩:=h.shape
  exact oa h
theorem nQ{m:Md}{A:Option Addr}{cp:Nat}{b:List Int}{w:World}(hsl:aX m w (.slice A b.length cp) b) :
    Calls Tryz.prog 82 #[.slice A b.length cp] w (bW (.bool (dL b)) w):=by
 refine en 11 Tryz.func82 rfl<|aq 1<|aL 4<|bl 6 ((decide (0<(b.length:Int)))) (fun a=>?_) (fun a=>?_)
 have c:=of_decide_eq_true a
 refine Pl 1<|L1<|Oc (args:=#[.slice A b.length cp])<|m1 (qi hsl) fun e d=>ap 3<|rt<|rr (.bool ((gz b)==0))<|?_
 have hs:dL b=((gz b)==0):=by unfold dL;(try simp only[a,bq]);all_goals rfl
 rw[hs]
 exact⟨rfl,d⟩
 have c:=of_decide_eq_false a
 refine ap 5<|rt<|rr (.bool false)<|?_
 have hs:dL b=false:=by unfold dL;(try simp only[a,bq]);all_goals rfl
 rw[hs]
 exact⟨rfl,(aE.refl [] _)⟩
theorem pF{m:Md}{v:Value}{b:List Int}{w:World}(h:aX m w v b) : Calls Tryz.prog 82 #[v] w (bW (.bool (dL b)) w):=by
  obtain⟨A,cp,rfl,_,_⟩:=h.shape
  exact nQ h
open Go.RowKit
def qx:Array Value:=#[.int .u8 48,.int .u8 49,.int .u8 50,.int .u8 51,.int .u8 52,.int .u8 53,.int .u8 54,.int .u8 55,.int .u8 56,.int .u8 57,.int .u8 65,.int .u8 66,.int .u8 67,.int .u8 68,.int .u8 69,.int .u8 70]
theorem sM:∀ {j:Nat},j<16→qx[j]? = some (.int .u8 (ft (j:Int)))
  | 0,_ | 1,_ | 2,_ | 3,_ | 4,_ | 5,_ | 6,_ | 7,_ | 8,_ | 9,_ | 10,_ | 11,_ | 12,_ | 13,_ | 14,_ | 15,_=>rfl
  | n+16,h=>by omega
theorem rY{P:Program}{w:World}{ev:Operand→Value}{o:Oper}{x ix:Operand}{t e:TypeId}{k:IntKind}{i:Int}(j:Nat)(ho:o.op = .index t x ix)(ht:P.underlying t=some (.array 16 e))(hi:(P.info? e).map (·.size)=some 1)(hr:∀ w,(isAgg e).run P w = .ok false w)(hx:ev x = .agg qx)(hy:ev ix = .int k i)(hj:i=(j:Int))(hlt:j<16) : (execOp ev o).run P w = .ok (.value (.int .u8 (ft (j:Int)))) w:=by
  subst hj
  obtain⟨i0,hi0,hs⟩:=Option.map_eq_some_iff.1 hi
  have h:=sM hlt
  unfold execOp
  have h2:(0:Int)≤(j:Int)∧(j:Int)<16:=by omega
  simp[ho,hx,hy,Instr.index,asIntOf,run_underlying ht,Result.andThen,h2,sizeOf,typeInfo,hi0,hs,part,h,hr,hlt]
def xz (B b:Nat)(L:List Int)(w:World) : Prop:=∃ p A cp,w.heap[b]? = some (.cells #[p,.slice A L.length cp] 251 (0,0))∧(p = .pointer none∨p = .pointer (some ⟨b,0,none⟩))∧ef B w (.slice A L.length cp) L
theorem xz.new{B b:Nat}{w:World}(hb:w.heap[b]? = some (.cells #[.pointer none,.slice none 0 0] 251 (0,0))) : xz B b [] w:=⟨_,_,_,hb,.inl rfl,aW.nil ..⟩
open Go.RowKit
theorem np{w:World}:Calls Tryz.prog 181 #[] w (bW (.agg qx) w):=by
 refine en 2 Tryz.func181 rfl<|sg<|aK #[vB 0,vB 0,vB 0,vB 0,vB 0,vB 0,vB 0,vB 0,vB 0,vB 0,vB 0,vB 0,vB 0,vB 0,vB 0,vB 0] fun e f a b c=>aL 1<|aD b #[vB 48,vB 49,vB 50,vB 51,vB 52,vB 53,vB 54,vB 55,vB 56,vB 57,vB 65,vB 66,vB 67,vB 68,vB 69,vB 70] fun g dB d=>nK<|v8 dB<|?_
 exact⟨rfl,(ud c d a)⟩
theorem r4{c:Int}{n:Nat}(h:∀ j:Nat,j<n→ft (j:Int)≠c)(q:(ft ((n:Nat) : Int)==c)=false) : ∀ j:Nat,j<n+1→ft (j:Int)≠c:=fun j hj=>by
  by_cases e:j=n
  · subst e;simpa using q
  · exact h j (by omega)
theorem uQ{c:Int}{n:Nat}(hn:n<16)(q:(ft ((n:Nat) : Int)==c)=true) : bJ c=((n:Nat) : Int):=by
  have e:ft ((n:Nat) : Int)=c:=by simpa using q
  rw[← e]
  exact px (by omega)
theorem rT{c:Int}{n:Nat}(hn:n=16)(h:∀ j:Nat,j<n→ft (j:Int)≠c) : bJ c = -1:=by
  by_cases e:0≤bJ c
  · have h1:=iq e
    exact absurd (by rw[Int.toNat_of_nonneg e];exact h1.1) (h (bJ c).toNat (by omega))
  · have:=i1 c
    omega
theorem kN{w:World}{c:Int}(hc:0≤c∧c<256) : Calls Tryz.prog 115 #[vB c] w (bW (vI (bJ c)) w):=by
 refine en 15 Tryz.func115 rfl<|az 1<|sq<|sg<|ax<|m1 (@np w) fun g h=>ap 1<|bk<|?_
 refine gw (fun x=>[(0,vB c),(5,.agg qx),(6,vI ((x:Nat) : Int))]) (fun(x:Nat) w'=>aE [] g w'∧(x≤16)∧(∀ j:Nat,j<x→ft (j:Int)≠c)) (fun x=>16-x) 0 ⟨aE.refl _ _,(by(try dsimp only);omega),(fun j hj=>by omega)⟩ ?_
 rintro n q ⟨d,l,m⟩
 refine f5 [(0,vB c),(5,.agg qx),(6,vI ((n:Nat) : Int))] ?_
 have r:n≤16:=l
 have e:∀ j:Nat,j<n→ft (j:Int)≠c:=m
 refine az 1<|sq<|?_
 have f:=aN h d
 refine cb ((decide (((n:Nat) : Int)<16))) (fun b=>?_) (fun b=>?_)
 have o:=of_decide_eq_true b
 refine bz<|sq<|bk<|aq 1<|L0<|gy (vB (ft ((n:Nat) : Int))) (rY (k:=.i64) (i:=((n:Nat) : Int)) n rfl Tryz.underlying204 (by kernel_rfl) Tryz.isAgg5 (by kernel_rfl) (by kernel_rfl) rfl (by omega))<|Pl 2<|aL 3<|nl<|?_
 refine tn<|cb (((ft ((n:Nat) : Int))==c)) (fun a=>?_) (fun a=>?_)
 have p:=ak a
 refine az 2<|rt<|br<|tr<|tr<|br<|tr<|rr (vI ((n:Nat) : Int))<|?_
 have hs:bJ c=((n:Nat) : Int):=uQ (by omega) a
 rw[hs]
 exact⟨rfl,f⟩
 have p:=au a
 exact sk<|bn<|tn<|go<|be (((n:Nat) : Int)+1)<|Pl 1<|nl<|ed (n+1) ⟨d,(by(try dsimp only);omega),(r4 e a)⟩ (by omega)
 have o:=of_decide_eq_false b
 refine xt<|tx<|tx<|bx<|tn<|az 1<|rt<|rr (vI (-1))<|?_
 have hs:bJ c = -1:=rT (n:=n) (by omega) e
 rw[hs]
 exact⟨rfl,f⟩
open Go.RowKit
def fb (xs:List Int)(w:World)(e:Ending)(w':World) : Prop:=match bG xs with
  | some l=>∃ v,e = .returned (.tuple #[v,.int .i64 0])∧ef w.heap.size w' v l∧aE [] w w'
  | none=>e = .returned (.tuple #[.slice none 0 0,.int .i64 11])∧aE [] w w'
theorem oP{xs l:List Int}{w w':World}{e:Ending}(h:bG xs=some l)(k:∃ v,e = .returned (.tuple #[v,.int .i64 0])∧ef w.heap.size w' v l∧aE [] w w') : fb xs w e w':=by
  unfold fb
  rw[h]
  exact k
theorem iX{xs:List Int}{w w':World}{e:Ending}(h:bG xs=none)(k:e = .returned (.tuple #[.slice none 0 0,.int .i64 11])∧aE [] w w') : fb xs w e w':=by
  unfold fb
  rw[h]
  exact k
theorem kG{xs:List Int}{w:World}(hr:ep xs)(hl:xs.length≤1048576) :
    Calls Tryz.prog 81 #[.string (strOfNums xs)] w (fb xs w):=by
 refine en 42 Tryz.func81 rfl<|az 2<|sq<|aq 1<|L0<|Oe (vI (((strOfNums xs).size:Nat) : Int)) (vI (xs.length:Int)) (by rw[strOfNums_size])<|L0<|Oe (vI (Int.tmod (xs.length:Int) 2)) (vI ((xs.length:Int)%2)) (congrArg (Value.int .i64) (Int.tmod_eq_emod_of_nonneg (by omega)))<|Pl 1<|nl<|tn<|cb ((((xs.length:Int)%2)!=0)) (fun d=>?_) (fun d=>?_)
 have y:=ay d
 refine az 2<|bj<|rr (.tuple #[nS,vI 11])<|?_
 have hs:bG xs=none:=iv (by omega)
 exact iX hs ⟨rfl,(aE.refl [] _)⟩
 have y:=aJ d
 refine bz<|az 1<|sq<|az 1<|bk<|?_
 refine gw (fun x=>[(0,.string (strOfNums xs)),(4,.slice x.2.2.1 x.2.1.length x.2.2.2),(5,vI ((2*x.1:Nat) : Int))]) (fun(x:Nat × List Int × Option Addr × Nat) w'=>aE [] w w'∧ef w.heap.size w' (.slice x.2.2.1 x.2.1.length x.2.2.2) x.2.1∧(2*x.1≤xs.length)∧(bG xs=(bG (xs.drop (2*x.1))).map fun l=>x.2.1++l)∧(x.2.1.length=x.1)) (fun x=>xs.length-2*x.1) (0,[],none,0) ⟨aE.refl _ _,(aW.nil w.heap.size _ _ lO _),(by(try dsimp only);omega),(by(try dsimp only);simp),(by(try dsimp only);rfl)⟩ ?_
 rintro⟨k,L,B,cq⟩ z ⟨f,A,C,D,E⟩
 refine f5 [(0,.string (strOfNums xs)),(4,.slice B L.length cq),(5,vI ((2*k:Nat) : Int))] ?_
 have g:ef w.heap.size z (.slice B L.length cq) L:=A
 have T:2*k≤xs.length:=C
 have U:bG xs=(bG (xs.drop (2*k))).map fun l=>L++l:=D
 have V:L.length=k:=E
 have hL:bG xs=(bG (xs.drop (2*k))).map fun l=>L++l:=by assumption
 refine sq<|aq 2<|L0<|Oe (vI (((strOfNums xs).size:Nat) : Int)) (vI (xs.length:Int)) (by rw[strOfNums_size])<|ap 1<|cb ((decide (((2*k:Nat) : Int)<(xs.length:Int)))) (fun j=>?_) (fun j=>?_)
 have F:=of_decide_eq_true j
 refine bz<|sq<|bk<|sq<|Rg 11 (fun w'=>True) fun W o=>bA trivial fun a=>Rt 0 a<|Rt 1 a<|Rr 2 a (vB (xs.getD (2*k) 0)) (fun _ _=>gU (xs:=xs) (k:=.i64) (i:=((2*k:Nat) : Int)) (2*k) rfl Tryz.underlying9 (by kernel_rfl) (by kernel_rfl) hr rfl (by omega))<|Rt 4 a<|Rt 5 a<|Rr 6 a (vI (((2*k:Nat) : Int)+1)) (fun _ _=>c9 (vI (IntKind.i64.wrap (((2*k:Nat) : Int)+1))) (by kernel_rfl) (congrArg (Value.int .i64) (IntWalk.i64_in _ (by omega))))<|Rr 7 a (vB (xs.getD ((((2*k:Nat) : Int)+1)).toNat 0)) (fun _ _=>gU (xs:=xs) (k:=.i64) (i:=(((2*k:Nat) : Int)+1)) ((((2*k:Nat) : Int)+1)).toNat rfl Tryz.underlying9 (by kernel_rfl) (by kernel_rfl) hr (by omega) (by omega))<|?_
 have X:=i1 (xs.getD (2*k) 0)
 refine R0 3 rfl<|Oc<|m1 (kN (c:=(xs.getD (2*k) 0)) (w:=_) (eq (by omega) hr _)) fun Y p=>bA trivial fun Z=>?_
 have a0:=i1 (xs.getD ((((2*k:Nat) : Int)+1)).toNat 0)
 refine R0 8 rfl<|Oc<|m1 (kN (c:=(xs.getD ((((2*k:Nat) : Int)+1)).toNat 0)) (w:=_) (eq (by omega) hr _)) fun a1 r=>bA trivial fun s=>Rt 9 s<|Rt 10 s<|re<|tn<|sq<|aq 3<|ea 3 [29] 32 29 (decide ((bJ (xs.getD (2*k) 0))<0)) (decide ((bJ (xs.getD ((((2*k:Nat) : Int)+1)).toNat 0))<0)) (fun K G H=>?_) ?_
 have a2:=of_decide_eq_false H
 exact Pl 3<|ce G _ rfl
 refine nt<|?_
 have t:=aN o (aN p r)
 have u:=aN f t
 refine cb (((decide ((bJ (xs.getD (2*k) 0))<0))||(decide ((bJ (xs.getD ((((2*k:Nat) : Int)+1)).toNat 0))<0)))) (fun b=>?_) (fun b=>?_)
 refine az 2<|bj<|br<|tr<|tr<|br<|tr<|rr (.tuple #[nS,vI 11])<|?_
 have hs:bG xs=none:=lP (k:=k) hL (by omega) (by have q:=b;simp only[Bool.or_eq_true,decide_eq_true_eq] at q;rw[show 2*k+1=(((2*k:Nat) : Int)+1).toNat from by omega];exact q)
 exact iX hs ⟨rfl,u⟩
 have I:=(ci b).1
 have J:=(ci b).2
 have a3:=of_decide_eq_false I
 have a4:=of_decide_eq_false J
 refine bz<|go<|Pl 2<|be (16*(bJ (xs.getD (2*k) 0)))<|Pl 1<|be ((16*(bJ (xs.getD (2*k) 0)))+(bJ (xs.getD ((((2*k:Nat) : Int)+1)).toNat 0)))<|Pl 1<|L0<|eX (m:=1) (e:=5) #[vB (((16*(bJ (xs.getD (2*k) 0)))+(bJ (xs.getD ((((2*k:Nat) : Int)+1)).toNat 0)))%256)] fun a5 a6 M N n=>?_
 have O:=jI M (xs:=[(((16*(bJ (xs.getD (2*k) 0)))+(bJ (xs.getD ((((2*k:Nat) : Int)+1)).toNat 0)))%256)]) (by as_aux_lemma=>kernel_rfl) (aF (by omega) cm) (by(try simp only[List.length_cons,List.length_nil]);omega) N
 refine L0<|rV lh (xs:=L) (ys:=([(((16*(bJ (xs.getD (2*k) 0)))+(bJ (xs.getD ((((2*k:Nat) : Int)+1)).toNat 0)))%256)])) (vB 0) 1 (al g (aN t n) (fun x hx=>av) (fun _ _ h=>h)) (O).rd (by(try simp only[d8,aQ]);omega) (le (le (le (le f.size o.size) p.size) r.size) n.size) fun P Q a7 R S=>Pl 1<|nl<|bn<|tn<|go<|Pl 1<|be (((2*k:Nat) : Int)+2)<|Pl 1<|nl<|?_
 have v:=jx (k:=k) hL (by omega) (by omega) (by rw[show 2*k+1=(((2*k:Nat) : Int)+1).toNat from by omega];omega)
 rw[show 2*k+1=(((2*k:Nat) : Int)+1).toNat from by omega] at v
 exact ed ((k+1),(L++[(((16*(bJ (xs.getD (2*k) 0)))+(bJ (xs.getD ((((2*k:Nat) : Int)+1)).toNat 0)))%256)]),P,Q) ⟨(ut u (ut (aE.mono (S':=(ob B++[])) n aA) S (aB il aA)) (aB (bC g lr) aA)),R,(by(try dsimp only);omega),v,(by(try dsimp only);simp only[d8];omega)⟩ (by omega)
 have F:=of_decide_eq_false j
 refine xt<|tx<|tx<|bx<|tn<|az 3<|rt<|rr (.tuple #[.slice B L.length cq,vI 0])<|?_
 have hs:bG xs=some L:=kE hL (by omega)
 exact oP hs ⟨_,rfl,g,f⟩
open Go.RowKit
def fh (xs:List Int) : Bool:=decide (2≤((xs.length:Nat) : Int))&&decide (xs.drop (((xs.length:Nat) : Int)-2).toNat=[13,10])
def fQ (b:List Int) : Option (List Int):=if b.getD 0 0=58∧fh (b.drop 1)=true then some ((b.drop 1).take (b.length-3)) else none
theorem my{xs:List Int}(h:fh xs=true) : 2≤xs.length:=by
  unfold fh at h
  simp only[Bool.and_eq_true,decide_eq_true_eq] at h
  omega
theorem kS{b s:List Int}(h:fQ b=some s) : b.getD 0 0=58∧fh (b.drop 1)=true∧s=(b.drop 1).take (b.length-3)∧3≤b.length:=by
  unfold fQ at h
  split at h
  · rename_i hc
    injection h with h
    have:=my hc.2
    rw[List.length_drop] at this
    exact⟨hc.1,hc.2,h.symm,by omega⟩
  · cases h
theorem rM{b s:List Int}(h:fQ b=some s) : s.length=b.length-3:=by
  obtain⟨_,_,rfl,h3⟩:=kS h
  rw[List.length_take,List.length_drop]
  omega
def lc (xs:List Int)(w:World)(e:Ending)(w':World) : Prop:=match fQ xs with
  | some l=>e = .returned (.tuple #[.string (strOfNums l),.bool true])∧aE [] w w'
  | none=>∃ s,e = .returned (.tuple #[.string s,.bool false])∧aE [] w w'
theorem jF{xs:List Int}{w:World}(hr:ep xs)(hl:xs.length≤1048576) : Calls Tryz.prog 226 #[.string (strOfNums xs),.string ⟨#[13,10]⟩] w (bW (.bool (fh xs)) w):=by
 refine en 21 Tryz.func226 rfl<|aq 1<|aL 1<|L0<|Oe (vI (((strOfNums xs).size:Nat) : Int)) (vI (xs.length:Int)) (by rw[strOfNums_size])<|Pl 4<|bl 10 ((decide (2≤(xs.length:Int)))) (fun c=>?_) (fun c=>?_)
 have d:=of_decide_eq_true c
 refine Pl 2<|L1<|Oe (vI (((strOfNums xs).size:Nat) : Int)) (vI (xs.length:Int)) (by rw[strOfNums_size])<|Pl 2<|L1<|Oi ((xs.length:Int)-2)<|?_
 have e:ep (xs.drop (((xs.length:Int)-2)).toNat):=iu hr (((xs.length:Int)-2)).toNat
 refine L1<|gy (.string (strOfNums (xs.drop (((xs.length:Int)-2)).toNat))) (ky (xs:=xs) (k:=.i64) (i:=((xs.length:Int)-2)) (((xs.length:Int)-2)).toNat rfl Tryz.underlying9 (by kernel_rfl) (by kernel_rfl) (by omega) (by omega))<|Pl 1<|L1<|gy (.bool (decide ((xs.drop (((xs.length:Int)-2)).toNat)=[13,10]))) (jj (a:=(strOfNums (xs.drop (((xs.length:Int)-2)).toNat))) (b:=⟨#[13,10]⟩) rfl (by kernel_rfl) (by kernel_rfl) (sU (ys:=[13,10]) e (by decide)))<|ap 2<|rt<|rr (.bool (decide ((xs.drop (((xs.length:Int)-2)).toNat)=[13,10])))<|?_
 have hs:fh xs=(decide ((xs.drop (((xs.length:Int)-2)).toNat)=[13,10])):=by unfold fh;(try simp only[c,bq]);all_goals rfl
 rw[hs]
 exact⟨rfl,(aE.refl [] _)⟩
 have d:=of_decide_eq_false c
 refine ap 11<|rt<|rr (.bool false)<|?_
 have hs:fh xs=false:=by unfold fh;(try simp only[c,bq]);all_goals rfl
 rw[hs]
 exact⟨rfl,(aE.refl [] _)⟩
theorem pG{xs:List Int}{w:World}(hr:ep xs)(hl:xs.length≤1048576)(hq:fh xs=true) : Calls Tryz.prog 180 #[.string (strOfNums xs),.string ⟨#[13,10]⟩] w (bW (.tuple #[.string (strOfNums (xs.take ((xs.length:Int)-2).toNat)),.bool true]) w):=by
 have hq2:=my hq
 refine en 18 Tryz.func180 rfl<|az 2<|sq<|aq 2<|ax<|m1 (jF (xs:=xs) (w:=_) hr (by omega)) fun c a=>ap 1<|?_
 have b:(!(fh xs))=false:=by simp only[hq,Bool.not_true,Bool.not_false]
 refine cf b<|bz<|aq 2<|L0<|Oe (vI (((strOfNums xs).size:Nat) : Int)) (vI (xs.length:Int)) (by rw[strOfNums_size])<|Pl 2<|be ((xs.length:Int)-2)<|?_
 have d:ep (xs.take (((xs.length:Int)-2)).toNat):=kM hr (((xs.length:Int)-2)).toNat
 exact L0<|gy (.string (strOfNums (xs.take (((xs.length:Int)-2)).toNat))) (p9 (xs:=xs) (k:=.i64) (i:=((xs.length:Int)-2)) (((xs.length:Int)-2)).toNat rfl Tryz.underlying9 (by kernel_rfl) (by kernel_rfl) (by omega) (by omega))<|ap 2<|rt<|rr (.tuple #[.string (strOfNums (xs.take (((xs.length:Int)-2)).toNat)),.bool true])<|⟨rfl,a⟩
theorem rB{xs:List Int}{w:World}(hr:ep xs)(hl:xs.length≤1048576)(hq:fh xs=true) : Calls Tryz.prog 114 #[.string (strOfNums xs),.string ⟨#[13,10]⟩] w (bW (.tuple #[.string (strOfNums (xs.take ((xs.length:Int)-2).toNat)),.bool true]) w):=by
 exact en 11 Tryz.func114 rfl<|aq 2<|aL 2<|ax<|m1 (pG (xs:=xs) (w:=_) hr hl hq) fun b a=>ap 4<|rt<|rr (.tuple #[.string (strOfNums (xs.take ((xs.length:Int)-2).toNat)),.bool true])<|⟨rfl,a⟩
theorem pE{xs:List Int}{w:World}(hr:ep xs)(hl:xs.length≤1048576)(hq:fh xs=false) : Calls Tryz.prog 180 #[.string (strOfNums xs),.string ⟨#[13,10]⟩] w (bW (.tuple #[.string (strOfNums xs),.bool false]) w):=by
 refine en 18 Tryz.func180 rfl<|az 2<|sq<|aq 2<|ax<|m1 (jF (xs:=xs) (w:=_) hr (by omega)) fun c a=>ap 1<|?_
 have b:(!(fh xs))=true:=by simp only[hq,Bool.not_true,Bool.not_false]
 exact ct b<|az 3<|bj<|rr (.tuple #[.string (strOfNums xs),.bool false])<|⟨rfl,a⟩
theorem sb{xs:List Int}{w:World}(hr:ep xs)(hl:xs.length≤1048576)(hq:fh xs=false) : Calls Tryz.prog 114 #[.string (strOfNums xs),.string ⟨#[13,10]⟩] w (bW (.tuple #[.string (strOfNums xs),.bool false]) w):=by
 exact en 11 Tryz.func114 rfl<|aq 2<|aL 2<|ax<|m1 (pE (xs:=xs) (w:=_) hr hl hq) fun b a=>ap 4<|rt<|rr (.tuple #[.string (strOfNums xs),.bool false])<|⟨rfl,a⟩
theorem uV{b:List Int}(h:b.getD 0 0=58)(k:fh (b.drop 1)=true) : fQ b=some ((b.drop 1).take (b.length-3)):=if_pos ⟨h,k⟩
theorem t0{b:List Int}(h:¬ b.getD 0 0=58) : fQ b=none:=if_neg fun k=>h k.1
theorem sI{b:List Int}(k:fh (b.drop 1)=false) : fQ b=none:=if_neg fun h=>by rw[k] at h;cases h.2
theorem uZ{b l:List Int}{w w':World}{e:Ending}(h:fQ b=some l)(k:e = .returned (.tuple #[.string (strOfNums l),.bool true])∧aE [] w w') : lc b w e w':=by
  unfold lc
  rw[h]
  exact k
theorem rA{b:List Int}{w w':World}{e:Ending}(h:fQ b=none)(k:∃ s,e = .returned (.tuple #[.string s,.bool false])∧aE [] w w') : lc b w e w':=by
  unfold lc
  rw[h]
  exact k
theorem jk{b:List Int}{w:World}(hr:ep b)(hl:b.length≤1048576)(h0:0<b.length) : Calls Tryz.prog 80 #[.string (strOfNums b)] w (lc b w):=by
 refine en 18 Tryz.func80 rfl<|az 2<|sq<|aq 1<|L0<|wQ (sv:=strOfNums b) Tryz.underlying9 fun f m n o p=>nt<|bk<|?_
 refine gw (fun x=>[(0,.string (strOfNums b)),(7,vP f 0)]) (fun(x:Unit) w'=>aE [] m w'∧(0≤0)) (fun x=>0) () ⟨aE.refl _ _,(by(try dsimp only);omega)⟩ ?_
 rintro z u ⟨g,q⟩
 refine f5 [(0,.string (strOfNums b)),(7,vP f 0)] ?_
 have v:0≤0:=q
 refine sg<|?_
 refine L0<|xO hr (by omega) (ub g o) fun vE y h r=>ap 1<|sq<|c1<|bz<|bk<|az 2<|sq<|az 2<|?_
 have a:=ud p (uz g r) n
 refine cb ((vE != 58)) (fun c=>?_) (fun c=>?_)
 have d:=ay c
 exact az 2<|bj<|br<|tr<|br<|tr<|rr (.tuple #[.string ⟨#[]⟩,.bool false])<|rA (t0 fun e=>d (h.2 e)) ⟨_,rfl,a⟩
 have d:=aJ c
 refine bz<|xt<|wg<|tx<|bx<|tn<|aq 1<|?_
 have j:ep (b.drop 1):=iu hr 1
 refine L0<|gy (.string (strOfNums (b.drop 1))) (ky (xs:=b) (k:=.i64) (i:=1) 1 rfl Tryz.underlying9 (by kernel_rfl) (by kernel_rfl) rfl (by omega))<|?_
 rcases fp (fh (b.drop 1)) with hq|hq
 refine ax<|m1 (rB (xs:=(b.drop 1)) (w:=_) j (by rw[List.length_drop];omega) hq) fun A s=>ap 4<|rt<|rr (.tuple #[.string (strOfNums ((b.drop 1).take (((b.drop 1).length:Int)-2).toNat)),.bool true])<|?_
 exact uZ (l:=(b.drop 1).take (b.length-3)) (uV (h.1 d) hq) ⟨by rw[show b.length-3=(((b.drop 1).length:Int)-2).toNat from by rw[List.length_drop];omega],(aN a s)⟩
 refine ax<|m1 (sb (xs:=(b.drop 1)) (w:=_) j (by rw[List.length_drop];omega) hq) fun B t=>ap 4<|rt<|rr (.tuple #[.string (strOfNums (b.drop 1)),.bool false])<|?_
 exact rA (sI hq) ⟨_,rfl,(aN a t)⟩
open Go.RowKit
theorem pH{b s:List Int}(hr:ep b)(h:fQ b=some s) : ep s:=by
  obtain⟨_,_,rfl,_⟩:=kS h
  exact kM (iu hr 1) _
theorem tq{b l:List Int}{w:World}(h:fQ b=some l)(e:Ending)(w':World)(k:lc b w e w') : e = .returned (.tuple #[.string (strOfNums l),.bool true])∧aE [] w w':=by
  unfold lc at k
  rw[h] at k
  exact k
theorem sN{b:List Int}{w:World}(h:fQ b=none)(e:Ending)(w':World)(k:lc b w e w') : ∃ s,e = .returned (.tuple #[.string s,.bool false])∧aE [] w w':=by
  unfold lc at k
  rw[h] at k
  exact k
theorem mn{b l:List Int}{w:World}(h:bG b=some l)(e:Ending)(w':World)(k:fb b w e w') : ∃ v,e = .returned (.tuple #[v,.int .i64 0])∧ef w.heap.size w' v l∧aE [] w w':=by
  unfold fb at k
  rw[h] at k
  exact k
theorem mE{b:List Int}{w:World}(h:bG b=none)(e:Ending)(w':World)(k:fb b w e w') : e = .returned (.tuple #[.slice none 0 0,.int .i64 11])∧aE [] w w':=by
  unfold fb at k
  rw[h] at k
  exact k
def gT (x:List Int) : List Int:=(x.take (x.length-1)).drop 1
theorem gK(x:List Int) : gT x=(x.take (((x.length:Nat) : Int)-1).toNat).drop 1:=by
  unfold gT
  rw[show(((x.length:Nat) : Int)-1).toNat=x.length-1 from by omega]
def dv (dir:Int)(b:List Int) : cE × Int :=
  if dir != 0&&dir != 1 then (cE.zero,1)
  else if decide ((b.length:Int)<9) then (cE.zero,2)
  else if decide (513<(b.length:Int)) then (cE.zero,3)
  else match fQ b with
    | none=>(cE.zero,12)
    | some s=>match bG s with
      | none=>(cE.zero,11)
      | some x=>if !(dL x) then (cE.zero,10) else dz (x.getD 0 0) 0 (eh dir (gT x))
theorem nC{m:Md}{A:Option Addr}{cp:Nat}{b:List Int}{w:World}{dir:Int}(hsl0:aX m w (.slice A b.length cp) b)(hb:b.length≤1048576) :
    Calls Tryz.prog 56 #[vI dir,.slice A b.length cp] w (s4 (dv dir b) w):=by
 have hln:(b.length:Int)≤1048576:=by omega
 have hr:ep b:=aX.range hsl0
 refine en 71 Tryz.func56 rfl<|sg<|aK #[vB 0,vW 0,vB 0,vB 0,vW 0,vW 0,vW 0,vW 0,vW 0,vW 0,vW 0,vW 0,vW 0,vW 0,nS,nS,nS,nS,vB 0,vB 0,vB 0,vB 0,vB 0,nS] fun bB X k d o=>ap 1<|sq<|bk<|aq 3<|cY 3 [14] 17 14 (dir != 0) (dir != 1) (fun K aj ak=>?_) ?_
 have bC:=ay ak
 exact Pl 3<|ce aj _ rfl
 refine ap 1<|cb (((dir != 0)&&(dir != 1))) (fun f=>?_) (fun f=>?_)
 have Y:=(aS f).1
 have Z:=(aS f).2
 have bD:=ay Y
 have bE:=ay Z
 refine aq 1<|aD d #[vB 0,vW 0,vB 0,vB 0,vW 0,vW 0,vW 0,vW 0,vW 0,vW 0,vW 0,vW 0,vW 0,vW 0,nS,nS,nS,nS,vB 0,vB 0,vB 0,vB 0,vB 0,nS] fun bF am an=>ap 1<|rt<|br<|tr<|c8 am (vI 1)<|?_
 have hs:dv dir b=(cE.zero,1):=by
   unfold dv
   (try simp only[f,Y,Z,bq,dz,reduceIte])
   all_goals rfl
 refine iM hs ?_
 exact fx (ud o an k)
 refine az 4<|cb ((decide ((b.length:Int)<9))) (fun i=>?_) (fun i=>?_)
 have ao:=of_decide_eq_true i
 refine aq 1<|aD d #[vB 0,vW 0,vB 0,vB 0,vW 0,vW 0,vW 0,vW 0,vW 0,vW 0,vW 0,vW 0,vW 0,vW 0,nS,nS,nS,nS,vB 0,vB 0,vB 0,vB 0,vB 0,nS] fun bH ar au=>ap 1<|rt<|br<|tr<|c8 ar (vI 2)<|?_
 have hs:dv dir b=(cE.zero,2):=by
   unfold dv
   (try simp only[f,i,bq,dz,reduceIte])
   all_goals rfl
 refine iM hs ?_
 exact fx (ud o au k)
 have ao:=of_decide_eq_false i
 refine az 4<|cb ((decide (513<(b.length:Int)))) (fun j=>?_) (fun j=>?_)
 have aw:=of_decide_eq_true j
 refine aq 1<|aD d #[vB 0,vW 0,vB 0,vB 0,vW 0,vW 0,vW 0,vW 0,vW 0,vW 0,vW 0,vW 0,vW 0,vW 0,nS,nS,nS,nS,vB 0,vB 0,vB 0,vB 0,vB 0,nS] fun bI aA aB=>ap 1<|rt<|br<|tr<|c8 aA (vI 3)<|?_
 have hs:dv dir b=(cE.zero,3):=by
   unfold dv
   (try simp only[f,i,j,bq,dz,reduceIte])
   all_goals rfl
 refine iM hs ?_
 exact fx (ud o aB k)
 have aw:=of_decide_eq_false j
 refine sk<|bn<|tn<|aq 1<|?_
 have O:=aX.old hsl0 o
 refine L0<|gy (.string (strOfNums b)) (dD (A:=A) (n:=b.length) (c:=cp) rfl (by kernel_rfl) Tryz.underlying27 Tryz.underlying5 Tryz.underlying9 O)<|?_
 rcases hds:fQ b with _|sd
 have aE:=jk (w:=X) (aX.range O) hb (by omega)
 have aF:=aE.mono (sN hds)
 refine ax (args:=#[.string (strOfNums b)])<|e1 aF fun bJ bK a0=>ap 5<|sq<|az 2<|c1<|aq 1<|?_
 refine aD (ub a0 d) #[vB 0,vW 0,vB 0,vB 0,vW 0,vW 0,vW 0,vW 0,vW 0,vW 0,vW 0,vW 0,vW 0,vW 0,nS,nS,nS,nS,vB 0,vB 0,vB 0,vB 0,vB 0,nS] fun bL aH aI=>ap 1<|bj<|c8 aH (vI 12)<|?_
 have hs:dv dir b=(cE.zero,12):=by
   unfold dv
   (try simp only[f,i,j,bq,dz,hds,reduceIte])
   all_goals rfl
 refine iM hs ?_
 exact fx (ud o (uz a0 aI) k)
 have hsl:=rM hds
 have hsd:ep sd:=pH hr hds
 have aL:=jk (w:=X) (aX.range O) hb (by omega)
 have aM:=aL.mono (tq hds)
 refine ax (args:=#[.string (strOfNums b)])<|m1 aM fun a1 l=>ap 5<|sq<|az 2<|c0<|bz<|sq<|go<|Pl 1<|?_
 have a2:=aN o l
 rcases hth:bG sd with _|x
 have aO:=(kG (w:=a1) hsd (by omega)).mono (mE hth)
 refine ax<|m1 aO fun bM a3=>ap 5<|sq<|az 2<|c1<|aq 2<|?_
 refine aD (ub (aN l a3) d) #[vB 0,vW 0,vB 0,vB 0,vW 0,vW 0,vW 0,vW 0,vW 0,vW 0,vW 0,vW 0,vW 0,vW 0,nS,nS,nS,nS,vB 0,vB 0,vB 0,vB 0,vB 0,nS] fun bN aP aQ=>ap 1<|bj<|c8 aP (vI 11)<|?_
 have hs:dv dir b=(cE.zero,11):=by
   unfold dv
   (try simp only[f,i,j,bq,dz,hds,hth,reduceIte])
   all_goals rfl
 refine iM hs ?_
 exact fx (ud a2 (uz a3 aQ) k)
 have hxl:=l2 hth
 have aR:=(kG (w:=a1) hsd (by omega)).mono (mn hth)
 refine ax<|tv aR fun Q I bO R bP bQ a4=>ap 5<|sq<|az 2<|c0<|bz<|sq<|aq 1<|ax (args:=#[.slice Q x.length I])<|m1 (pF (R).rd) fun aW S=>ap 1<|?_
 have F:=aN a4 S
 have T:=aN a2 F
 refine cb ((!(dL x))) (fun p=>?_) (fun p=>?_)
 have J:(dL x)=false:=by simpa using p
 refine aq 1<|?_
 refine aD (ub (aN l F) d) #[vB 0,vW 0,vB 0,vB 0,vW 0,vW 0,vW 0,vW 0,vW 0,vW 0,vW 0,vW 0,vW 0,vW 0,nS,nS,nS,nS,vB 0,vB 0,vB 0,vB 0,vB 0,nS] fun bR aY aZ=>ap 1<|bj<|c8 aY (vI 10)<|?_
 have hs:dv dir b=(cE.zero,10):=by
   unfold dv
   (try simp only[f,i,j,p,J,bq,dz,hds,hth,reduceIte])
   all_goals rfl
 refine iM hs ?_
 exact fx (ud T aZ k)
 have J:(dL x)=true:=by simpa using p
 refine bz<|aq 4<|be ((x.length:Int)-1)<|jR (e9 (P:=Tryz.prog) 27 5 1 Tryz.underlying27 rfl rfl Q x.length I (lo:=1) (up:=((x.length:Int)-1)) 1 ((((x.length:Int)-1)).toNat) (by omega) (by omega) (by omega) (by omega) (by omega)) fun b0 hrun79 b1=>L0<|gy (.slice b0 (((((x.length:Int)-1)).toNat)-1) (I-1)) (de (kl:=.i64) (kh:=.i64) (lo:=1) (hi:=((x.length:Int)-1)) (A:=Q) (n:=x.length) (c:=I) rfl Tryz.underlying27 (by kernel_rfl) (by kernel_rfl) (by kernel_rfl) (hrun79 _ _ _))<|?_
 obtain⟨a,G,U⟩ : ∃ M E,eh dir ((x.take ((((x.length:Int)-1)).toNat)).drop 1)=(M,E):=⟨_,_,rfl⟩
 have a5:=al R S (fun x hx=>av) (fun _ _ h=>h)
 have a6:=pX (dir:=dir) (w:=aW) (b1 _ _ _ _ _ (a5).rd) (by rw[List.length_drop,List.length_take];omega)
 rw[U] at a6
 refine ax<|e2 a6 fun b2 bS a7 V=>?_
 have b3:=a7
 obtain⟨b4,b5,b6,b7,b9,ba,bb,bc,bd,bf,bg,bT⟩:=b3
 obtain rfl:b2=(fl a b4 b5 b6 b7 b9).toArray:=by apply Array.toList_inj.1;simpa using ba
 obtain⟨q,r,rfl,_,_⟩:=bb.shape
 obtain⟨s,t,rfl,_,_⟩:=bc.shape
 obtain⟨u,v,rfl,_,_⟩:=bd.shape
 obtain⟨y,z,rfl,_,_⟩:=bf.shape
 obtain⟨B,C,rfl,_,_⟩:=bg.shape
 refine Pl 3<|aK mZ fun a8 bU a9 bh bi=>aD bh (mG a.code a.fail a.addr a.count a.value a.and_ a.or_ a.addr2 a.sub a.status a.events a.messages (.slice q a.words.length r) (.slice s a.bits.length t) (.slice u a.data.length v) (.slice y a.recs.length z) a.mei a.kind a.level a.more a.next (.slice B a.objects.length C)) fun bV bl bm=>ap 1<|sq<|az 2<|?_
 have ab:=ud bi bm a9
 have L:=aN V ab
 have ac:=aN T L
 refine cb ((G != 0)) (fun H=>?_) (fun H=>?_)
 have bo:=ay H
 refine aq 2<|?_
 refine aD (ub (aN l (aN F L)) d) #[vB 0,vW 0,vB 0,vB 0,vW 0,vW 0,vW 0,vW 0,vW 0,vW 0,vW 0,vW 0,vW 0,vW 0,nS,nS,nS,nS,vB 0,vB 0,vB 0,vB 0,vB 0,nS] fun bW bp bs=>ap 1<|bj<|c8 bp (vI G)<|?_
 have hX2:eh dir (gT x)=(a,G):=(congrArg (eh dir) (gK x)).trans U
 have hs:dv dir b=(cE.zero,G):=by
   unfold dv
   (try simp only[f,i,j,p,J,H,bq,dz,hds,hth,hX2,reduceIte])
   all_goals rfl
 refine iM hs ?_
 exact fx (ud ac bs k)
 have bo:=aJ H
 refine bz<|sq<|?_
 have ad:=al a5 L (fun x hx=>av) (fun _ _ h=>h)
 refine eF (aX.at_ (ad).rd 0 (by omega)) fun bt bu ae bv bX=>Rg 8 (fun w'=>w'.cell? ⟨bt,bu+0,none⟩=some (vB (x.getD 0 0))∧w'.heap[a8]? = some (.cells (mG a.code a.fail a.addr a.count a.value a.and_ a.or_ a.addr2 a.sub a.status a.events a.messages (.slice q a.words.length r) (.slice s a.bits.length t) (.slice u a.data.length v) (.slice y a.recs.length z) a.mei a.kind a.level a.more a.next (.slice B a.objects.length C)) 45 (0,0))) fun bY N=>?_
 have af:=ub N bl
 refine bA ⟨(uc N bv),af⟩ fun D=>Rt 0 D<|nG 1 D x.length 0 0 rfl ae (by omega)<|Rl 2 D (fun _ hs=>hs.1)<|Rt 3 D<|Rr 4 D (.agg (mG a.code a.fail a.addr a.count a.value a.and_ a.or_ a.addr2 a.sub a.status a.events a.messages (.slice q a.words.length r) (.slice s a.bits.length t) (.slice u a.data.length v) (.slice y a.recs.length z) a.mei a.kind a.level a.more a.next (.slice B a.objects.length C))) (fun w' hs=>oT (g:=a8) (off:=0) [vB a.code,vB a.fail,vW a.addr,vW a.count,vW a.value,vW a.and_,vW a.or_,vW a.addr2,vW a.sub,vW a.status,vW a.events,vW a.messages,.slice q a.words.length r,.slice s a.bits.length t,.slice u a.data.length v,.slice y a.recs.length z,vB a.mei,vB a.kind,vB a.level,vB a.more,vB a.next,.slice B a.objects.length C] rfl (by kernel_rfl) hs.2 (by kernel_rfl) (by kernel_rfl) rfl)<|Rt 5 D<|?_
 refine R0 6 rfl<|j5 (ub (aN l (aN F (aN L N))) d) #[vB (x.getD 0 0),vW 0,vB a.code,vB a.fail,vW a.addr,vW a.count,vW a.value,vW a.and_,vW a.or_,vW a.addr2,vW a.sub,vW a.status,vW a.events,vW a.messages,.slice q a.words.length r,.slice s a.bits.length t,.slice u a.data.length v,.slice y a.recs.length z,vB a.mei,vB a.kind,vB a.level,vB a.more,vB a.next,.slice B a.objects.length C] fun bZ bw ah=>?_
 have W:=uz N ah
 refine bA ⟨(cB ((al ad W (fun x hx=>(aa (fun e=>(aG (ag d) l.size R) (e▸hx)) av)) (fun _ _ h=>h))).rd ae 0 (by omega)),(aV ah (Ne.symm (nb (ag d) (le (le (le l.size a4.size) S.size) V.size) a9)) af)⟩ fun bx=>Rt 7 bx<|re<|tn<|rt<|c8 bw (vI 0)<|?_
 have hX2:eh dir (gT x)=(a,G):=(congrArg (eh dir) (gK x)).trans U
 have hs:dv dir b=(⟨(x.getD 0 0),0,a⟩,0):=by
   unfold dv
   (try simp only[f,i,j,p,J,H,bq,dz,hds,hth,hX2,reduceIte])
   all_goals rfl
 refine iM hs ?_
 exact⟨_,rfl,⟨#[vB a.code,vB a.fail,vW a.addr,vW a.count,vW a.value,vW a.and_,vW a.or_,vW a.addr2,vW a.sub,vW a.status,vW a.events,vW a.messages,.slice q a.words.length r,.slice s a.bits.length t,.slice u a.data.length v,.slice y a.recs.length z,vB a.mei,vB a.kind,vB a.level,vB a.more,vB a.next,.slice B a.objects.length C],(by as_aux_lemma=>kernel_rfl),(aU.lo (aU.upd a7 (uz ab W) (ai (aT (ub (aN l (aN F V)) d) (by decide)) aC)) T.size),b8 (x:=(x.getD 0 0)) (by omega),c7 (x:=0) (by omega)⟩,(ud ac W k)⟩
theorem pu{m:Md}{v:Value}{b:List Int}{w:World}{dir:Int}(h:aX m w v b)(hb:b.length≤1048576) : Calls Tryz.prog 56 #[.int .i64 dir,v] w (s4 (dv dir b) w):=by
  obtain⟨A,cp,rfl,_,_⟩:=h.shape
  exact nC h hb
open Go.RowKit
theorem jZ.weaken{base base':Nat}{w:World}{v:Value}{xs:List Int}(h:jZ base w v xs)(k:base'≤base) : jZ base' w v xs:=by
  obtain⟨g,cap,cur,n,h1,h2,h3⟩:=h
  exact⟨g,cap,cur,n,h1,Nat.le_trans k h2,h3⟩
open Go.RowKit
theorem iG{m:Md}{v:Value}{b:List Int}{w:World}{dir:Int}{F:cE}{E:Int}(hX:dv dir b=(F,E))(h:aX m w v b)(hb:b.length≤1048576) : Calls Tryz.prog 56 #[.int .i64 dir,v] w (fun e w'=>∃ x,e = .returned (.tuple #[.agg (qt F.unit F.tid F.msg x),.int .i64 E])∧(aU (.hi w.heap.size) w' (mJ F.msg x).toList F.msg∧(0≤F.unit∧F.unit<256)∧(0≤F.tid∧F.tid<65536))∧aE [] w w'):=by
  refine(pu h hb).mono ?_
  rintro e w' ⟨cs,rfl,h1,h2⟩
  rw[hX] at h1 ⊢
  obtain⟨c,rfl,h3,h4,h5⟩:=h1
  obtain⟨x,rfl⟩:=nI h3
  exact⟨x,by rw[o0],⟨h3,h4,h5⟩,h2⟩
open Go.RowKit
theorem tO{P:Program}{w:World}{t e:TypeId}{g n c:Nat}{C:Array Value}(ht:P.underlying t=some (.slice e))(he:P.underlying e=some (.int .u8))(hb:w.heap[g]? = some (.cells C e (0,0))) :
    ∃ w2,(convert t t (.slice (some ⟨g,0,none⟩) n c)).run P w = .ok (.slice (some ⟨g,0,none⟩) n c) w2∧w2.heap[g]? = some (.cells C e (C.size,C.size+1))∧aE [g] w w2:=by
  have hsh:w.shape? g=some (e,C.size):=by
    unfold World.shape?
    rw[hb]
  refine⟨w.freeze ⟨g,C.size,none⟩ 1,?_,?_,?_⟩
  · simp[convert,run_underlying ht,run_underlying he,markStringish,hsh]
  · unfold World.freeze
    rw[if_neg (by decide)]
    simp[Array.getElem?_modify,hb]
  · unfold World.freeze
    rw[if_neg (by decide)]
    refine⟨rfl,rfl,rfl,by simp,fun k hk hn=>?_⟩
    have hne:¬ g=k:=fun q=>hn (by rw[q];exact List.mem_singleton.2 rfl)
    simp[Array.getElem?_modify,hne]
theorem iZ{w:World}{g:Nat}{C:Array Value}{fr:Nat × Nat}{xs:List Int}(hb:w.heap[g]? = some (.cells C 5 fr))(hC:C=(xs.map (Value.int .u8)).toArray)(hr:∀ x,x∈xs→0≤x∧x<256)(hl:xs.length≤4194304) : aX true w (.slice (some ⟨g,0,none⟩) xs.length xs.length) xs:=by
  refine⟨_,xs.length,rfl,Nat.le_refl _,by unfold maxLen;omega,(fun h=>by cases h),fun _=>⟨g,0,C,_,fr,rfl,hb,(fun _=>⟨rfl,Nat.zero_le _⟩),fun j x hj=>?_⟩⟩
  refine⟨[.int .u8 x],rfl,⟨rfl,hr x (List.mem_of_getElem? hj)⟩,fun i u hi=>?_⟩
  cases i with
  | succ i=>simp at hi
  | zero =>
    have hi:Value.int .u8 x=u:=by simpa using hi
    subst hi
    subst hC
    simp only[Nat.zero_add,Nat.mul_one,Nat.add_zero]
    rw[List.getElem?_toArray,List.getElem?_map,hj]
    rfl
theorem l7{k g h:Nat}(hne:h≠g) : 0<k→∀ x,x∈ob (some ⟨h,0,none⟩)→x≠g:=fun _ x hx=>by
  simp[ob] at hx
  subst hx
  exact hne
theorem mb{k h:Nat}{A:Option Addr}(hn:h∉ob A) : oF k (some ⟨h,0,none⟩) (ob A):=fun _ x hx=>by
  simp[ob] at hx
  subst hx
  exact hn
section
variable {P:Program}{n:Nat}{D:List Deferred}{F:Fr}{w:World}{K:Fr→World→Prop}{Q:Exit→Act→World→Prop}{d:Option Tmp}{t:TypeId}{s:String}{af:Array Edge}{gu:Option (Nat × Bool)}
theorem to{ty e:TypeId}{x:Operand}{g m c:Nat}{C:Array Value}(hb:w.heap[g]? = some (.cells C e (0,0)))(h:∀ w',w'.heap[g]? = some (.cells C e (C.size,C.size+1))→aE [g] w w'→K (pt d (.slice (some ⟨g,0,none⟩) m c) F) w')
    (hx:dO F x=some (.slice (some ⟨g,0,none⟩) m c):=by kernel_rfl) (hs:(na P ty,P.underlying e,eL n d)=(some e,some (.int .u8),true):=by kernel_rfl) : OG P ⟨d,.convert ty ty x,t,s,af,gu⟩ n D F w K Q:=by
  simp only[Prod.mk.injEq] at hs
  obtain⟨h1,h2,h3⟩:=hs
  obtain⟨w2,hr,hB,hu⟩:=tO (n:=m) (c:=c) (et h1) h2 hb
  refine⟨fun a ha K' hK=>OW.mk ?_⟩
  have hx':=ha.ev hx
  unfold Oper.wp execOp
  simp only[hx',Sem.run_bind,Sem.run_pure,hr,Result.andThen_ok]
  exact hK _ _ _ (h w2 hB hu) (ha.put h3)
end
open Go.RowKit
structure SA where
  dir:Int
  held:List Int
abbrev xH (S:SA) (A:Option Addr) (cp:Nat) : Array Value:=#[.int .i64 S.dir,.slice A S.held.length cp]
abbrev tA (w:World) (g:Nat) (S:SA) (A:Option Addr) (cp:Nat) : Prop:=w.heap[g]? = some (.cells (xH S A cp) 95 (0,0))
def SA.tail (d:Int)(h:List Int) : SA × List Ev:=if decide (513<((h.length:Nat) : Int))=true then (⟨d,[]⟩,[Ev.bad 3]) else if fi h [13,10]=true then (⟨d,[]⟩,[Ev.mk (dv d h).2 (dv d h).1]) else (⟨d,h⟩,[])
def SA.byte (S:SA)(c:Int) : SA × List Ev:=if ((c==58)&&(decide (0<((S.held.length:Nat) : Int))))=true then (⟨S.dir,[58]⟩,[Ev.bad 12]) else if ((c != 58)&&(((S.held.length:Nat) : Int)==0))=true then (S,[]) else SA.tail S.dir (S.held++[c])
def SA.feed (S:SA)(b:List Int) : SA × List Ev:=b.foldl (fun p c=>((p.1.byte c).1,p.2++(p.1.byte c).2)) (S,[])
def SA.ok (S:SA) : Prop:=(∀ x,x∈S.held→0≤x∧x<256)∧S.held.length≤513
theorem SA.ok_le{S:SA}(h:S.ok) : S.held.length≤513:=h.2
theorem SA.byte_ok{S S2:SA}{c:Int}{L2:List Ev}(h:S.ok)(hc:0≤c∧c<256)(hx:S.byte c=(S2,L2)) : S2.ok∧L2.length≤1:=by
  have h0:∀ d,(SA.mk d []).ok:=fun d=>⟨fun x hx=>(by cases hx),Nat.zero_le _⟩
  unfold SA.byte at hx
  split at hx
  · injection hx with e1 e2
    subst e1 e2
    exact⟨⟨fun x hx=>(by rw[List.mem_singleton] at hx;rw[hx];decide),(by show 1≤513;decide)⟩,Nat.le_refl _⟩
  split at hx
  · injection hx with e1 e2
    subst e1 e2
    exact⟨h,Nat.zero_le _⟩
  unfold SA.tail at hx
  split at hx
  · injection hx with e1 e2
    subst e1 e2
    exact⟨h0 _,Nat.le_refl _⟩
  rename_i hl
  split at hx
  · injection hx with e1 e2
    subst e1 e2
    exact⟨h0 _,Nat.le_refl _⟩
  · injection hx with e1 e2
    subst e1 e2
    refine⟨⟨fun x hx=>?_,?_⟩,Nat.zero_le _⟩
    · rcases List.mem_append.1 hx with k | k
      · exact h.1 x k
      · rw[List.mem_singleton] at k;rw[k];exact hc
    · simp only[decide_eq_true_eq] at hl
      show(S.held++[c]).length≤513
      omega
theorem gY{S0 T T2:SA}{L L2:List Ev}{b:List Int}{k:Nat}(hk:k<b.length)(h:(T,L)=S0.feed (b.take k))(hx:T.byte (b.getD k 0)=(T2,L2)) : (T2,L++L2)=S0.feed (b.take (k+1)):=by
  rw[List.take_succ_eq_append_getElem hk]
  unfold SA.feed at h ⊢
  rw[List.foldl_append,← h]
  rw[List.getD_eq_getElem?_getD,List.getElem?_eq_getElem hk] at hx
  simp only[Option.getD_some] at hx
  simp only[List.foldl_cons,List.foldl_nil,hx]
theorem lV{S0 T T2:SA}{L:List Ev}{b:List Int}{k:Nat}(hk:k<b.length)(h:(T,L)=S0.feed (b.take k))(hx:T.byte (b.getD k 0)=(T2,[])) : (T2,L)=S0.feed (b.take (k+1)):=by
  have:=gY hk h hx
  rwa [List.append_nil] at this
theorem vT{T:SA}{c:Int}(h:((c==58)&&(decide (0<((T.held.length:Nat) : Int))))=true) : T.byte c=(⟨T.dir,[58]⟩,[Ev.bad 12]):=by unfold SA.byte;rw[if_pos h]
theorem wa{T:SA}{c:Int}(h:((c==58)&&(decide (0<((T.held.length:Nat) : Int))))=false)(h2:((c != 58)&&(((T.held.length:Nat) : Int)==0))=true) : T.byte c=(T,[]):=by unfold SA.byte;rw[if_neg (by rw[h];decide),if_pos h2]
theorem vQ{T:SA}{c:Int}(h:((c==58)&&(decide (0<((T.held.length:Nat) : Int))))=false)(h2:((c != 58)&&(((T.held.length:Nat) : Int)==0))=false)(h3:decide (513<(((T.held++[c]).length:Nat) : Int))=true) : T.byte c=(⟨T.dir,[]⟩,[Ev.bad 3]):=by unfold SA.byte;rw[if_neg (by rw[h];decide),if_neg (by rw[h2];decide)];unfold SA.tail;rw[if_pos h3]
theorem tT{T:SA}{c:Int}{F:cE}{E:Int}(h:((c==58)&&(decide (0<((T.held.length:Nat) : Int))))=false)(h2:((c != 58)&&(((T.held.length:Nat) : Int)==0))=false)(h3:decide (513<(((T.held++[c]).length:Nat) : Int))=false)(h4:fi (T.held++[c]) [13,10]=true)(hX:dv T.dir (T.held++[c])=(F,E)) : T.byte c=(⟨T.dir,[]⟩,[Ev.mk E F]):=by unfold SA.byte;rw[if_neg (by rw[h];decide),if_neg (by rw[h2];decide)];unfold SA.tail;rw[if_neg (by rw[h3];decide),if_pos h4,hX]
theorem w8{T:SA}{c:Int}(h:((c==58)&&(decide (0<((T.held.length:Nat) : Int))))=false)(h2:((c != 58)&&(((T.held.length:Nat) : Int)==0))=false)(h3:decide (513<(((T.held++[c]).length:Nat) : Int))=false)(h4:fi (T.held++[c]) [13,10]=false) : T.byte c=(⟨T.dir,T.held++[c]⟩,[]):=by unfold SA.byte;rw[if_neg (by rw[h];decide),if_neg (by rw[h2];decide)];unfold SA.tail;rw[if_neg (by rw[h3];decide),if_neg (by rw[h4];decide)]
def xF (base n0:Nat)(S2:SA)(L:List Ev)(g:Nat)(A:Option Addr)(w:World)(e:Ending)(w':World) : Prop:=∃ v A2 cp2 n2,e = .returned v∧fj n2 w.heap.size w' v L∧tA w' g S2 A2 cp2∧ef base w' (.slice A2 S2.held.length cp2) S2.held∧(∀ x,x∈ob A2→x∈ob A∨w.heap.size≤x)∧(n0≤n2∧n2≤w'.heap.size)∧(∀ x,x∈ob A2→n2≤x)∧aE (g :: (ob A++[])) w w'
theorem ic{b:List Int}(h:∀ x,x∈b→0≤x∧x<256)(k:Nat) : 0≤b.getD k 0∧b.getD k 0<256:=by
  rw[List.getD_eq_getElem?_getD]
  cases hj:b[k]? with
  | none=>simp
  | some x=>exact h x (List.mem_of_getElem? hj)
theorem kZ{w:World}:Calls Tryz.prog 21 #[vI 0] w (fun e w'=>∃ g,e = .returned (vP g 0)∧w.heap.size≤g∧tA w' g ⟨0,[]⟩ none 0∧aE [] w w'):=by
 exact en 12 Tryz.func21 rfl<|az 1<|sq<|az 6<|c0<|sk<|tn<|aq 2<|L0<|dF #[vI 0,nS] fun a f b c d=>ap 1<|rt<|rr (vP a 0)<|⟨a,rfl,b,c,d⟩
theorem qj{w:World}:Calls Tryz.prog 21 #[vI 1] w (fun e w'=>∃ g,e = .returned (vP g 0)∧w.heap.size≤g∧tA w' g ⟨1,[]⟩ none 0∧aE [] w w'):=by
 exact en 12 Tryz.func21 rfl<|az 1<|sq<|az 6<|c0<|sk<|tn<|aq 2<|L0<|dF #[vI 1,nS] fun a f b c d=>ap 1<|rt<|rr (vP a 0)<|⟨a,rfl,b,c,d⟩
theorem q2{w:World}{g:Nat}{S:SA}{A:Option Addr}{cp:Nat}(hb:tA w g S A cp)(hr:aX true w (.slice A S.held.length cp) S.held) : Calls Tryz.prog 24 #[vP g 0] w (bW (vI (S.held.length:Int)) w):=by
 have hcm:=aI.len hr
 exact en 8 Tryz.func24 rfl<|aq 1<|aL 3<|aH hb 1<|ap 2<|rt<|rr (vI (S.held.length:Int))<|⟨rfl,(aE.refl [] _)⟩
theorem nz{w:World}{g base:Nat}{S:SA}{A:Option Addr}{cp:Nat}{m:Md}{B:Option Addr}{cpb:Nat}{b:List Int}(hb:tA w g S A cp)(ho:ef base w (.slice A S.held.length cp) S.held)(hbs:base≤w.heap.size)(hok0:S.ok){n0:Nat}(hn0:n0≤w.heap.size)(hlo:∀ x,x∈ob A→n0≤x)(hsl:aX m w (.slice B b.length cpb) b)(hdg:0<b.length→∀ x,x∈ob B→x≠g)(hda:oF b.length B (ob A))(hbl:b.length≤1048576) :
    Calls Tryz.prog 22 #[vP g 0,.slice B b.length cpb] w (xF base n0 (S.feed b).1 (S.feed b).2 g A w):=by
 have hdl:=aI.low hsl
 have hok0l:=SA.ok_le hok0
 have hrb:=aX.range hsl
 refine en 98 Tryz.func22 rfl<|az 1<|xS<|az 1<|sq<|xG<|tn<|sq<|az 3<|bk<|?_
 refine gw (fun x=>[(0,vP g 0),(4,nS),(5,.slice x.2.2.2.2.2.1 x.2.2.1.length x.2.2.2.2.2.2.1),(10,.slice B b.length cpb),(11,vI (b.length:Int)),(12,vI (x.1:Int))]) (fun(x:Nat × SA × List Ev × Option Addr × Nat × Option Addr × Nat × Nat) w'=>aE (g :: (ob A++[])) w w'∧tA w' g x.2.1 x.2.2.2.1 x.2.2.2.2.1∧ef base w' (.slice x.2.2.2.1 x.2.1.held.length x.2.2.2.2.1) x.2.1.held∧fj x.2.2.2.2.2.2.2 w.heap.size w' (.slice x.2.2.2.2.2.1 x.2.2.1.length x.2.2.2.2.2.2.1) x.2.2.1∧x.2.2.2.2.2.2.2≤w'.heap.size∧aX m w' (.slice B b.length cpb) b∧((x.2.1,x.2.2.1)=S.feed (b.take x.1))∧(x.2.1.ok)∧(x.2.1.held.length≤513)∧(x.1≤b.length)∧(x.2.2.1.length≤x.1)∧(∀ y,y∈ob x.2.2.2.1→y∈ob A∨w.heap.size≤y)∧(n0≤x.2.2.2.2.2.2.2)∧(∀ y,y∈ob x.2.2.2.1→x.2.2.2.2.2.2.2≤y)) (fun x=>b.length-x.1) (0,S,[],A,cp,none,0,n0) ⟨aE.refl _ _,hb,ho,(aW.nil w.heap.size _ _ (bM w.heap.size n0) _),(Nat.le_trans hn0 lr),hsl,rfl,hok0,hok0l,(by(try dsimp only);exact Nat.zero_le _),(by(try dsimp only);exact Nat.zero_le _),s3,(by(try dsimp only);exact Nat.le_refl _),hlo⟩ ?_
 rintro⟨k,T,L,Ah,ch,Bq,cq,n⟩ M ⟨d,c7,c8,c9,ca,cc,cd,cf,cg,ci,cj,ck,cl,cn⟩
 refine f5 [(0,vP g 0),(4,nS),(5,.slice Bq L.length cq),(10,.slice B b.length cpb),(11,vI (b.length:Int)),(12,vI (k:Int))] ?_
 have f:tA M g T Ah ch:=c7
 have t:ef base M (.slice Ah T.held.length ch) T.held:=c8
 have a:fj n w.heap.size M (.slice Bq L.length cq) L:=c9
 have co:n≤M.heap.size:=ca
 have hnl:=co
 have D:aX m M (.slice B b.length cpb) b:=cc
 have cr:(T,L)=S.feed (b.take k):=cd
 have ct:T.ok:=cf
 have dM:T.held.length≤513:=cg
 have dN:k≤b.length:=ci
 have dO:L.length≤k:=cj
 have cu:∀ y,y∈ob Ah→y∈ob A∨w.heap.size≤y:=ck
 have cw:n0≤n:=cl
 have cx:∀ y,y∈ob Ah→n≤y:=cn
 have hlow:=cx
 have hn0l:=cw
 have hat0:=cu
 have hok:=ct
 have hpj:=cr
 have hle:=SA.ok_le hok
 refine az 1<|sq<|cb ((decide ((k:Int)<(b.length:Int)))) (fun ab=>?_) (fun ab=>?_)
 have cy:=of_decide_eq_true ab
 refine bz<|sq<|bk<|sg<|eF (aX.at_ D k (by omega)) fun cz cA cB cC dP=>L0<|hM b.length k cB (by omega)<|L0<|dC (p:=⟨cz,cA+k,none⟩) (v:=vB (b.getD k 0)) cC<|ap 1<|sq<|bk<|aq 3<|cY 7 [19] 26 19 ((b.getD k 0)==58) (decide (0<(T.held.length:Int))) (fun K cD cE=>?_) ?_
 have dQ:=ak cE
 exact Pl 3<|L1<|cS f 1<|Pl 3<|ce cD _ rfl
 refine ap 1<|cb ((((b.getD k 0)==58)&&(decide (0<(T.held.length:Int))))) (fun r=>?_) (fun r=>?_)
 have cF:=(aS r).1
 have cG:=(aS r).2
 have dR:=ak cF
 have dS:=of_decide_eq_true cG
 refine aq 2<|L0<|eX (m:=1) (e:=87) #[vI 12,vB 0,vW 0,vB 0,vB 0,vW 0,vW 0,vW 0,vW 0,vW 0,vW 0,vW 0,vW 0,vW 0,vW 0,nS,nS,nS,nS,vB 0,vB 0,vB 0,vB 0,vB 0,nS] fun dT ad cH cI l=>?_
 have cK:=gn (m:=.hi w.heap.size) (w0:=M) (x:=(Ev.bad 12)) cH cI ⟨⟨none,0,none,0,none,0,none,0,none,0⟩,by kernel_rfl,eM,(show(0:Int)≤0∧(0:Int)<256 from by decide),(show(0:Int)≤0∧(0:Int)<65536 from by decide)⟩
 have ba:=al a l (fun x hx=>av) (fun x cs q=>bM.upd l dl q)
 have cL:n≤ad.heap.size:=Nat.le_trans hnl l.size
 refine L0<|fe (R:=bM w.heap.size ad.heap.size) (xs:=L) (ys:=([Ev.bad 12])) (.agg #[vI 0,vB 0,vW 0,vB 0,vB 0,vW 0,vW 0,vW 0,vW 0,vW 0,vW 0,vW 0,vW 0,vW 0,vW 0,nS,nS,nS,nS,vB 0,vB 0,vB 0,vB 0,vB 0,nS]) 25 168 (fj.up cL (Nat.le_refl _) ba) (tF cK).rd bM.ones (fun w' hv x cs q=>bM.upd hv (oY ba (by decide) dl) q) (by(try simp only[d8,aQ]);omega) (le d.size l.size) fun cM cN dU bb E dV=>Pl 1<|aL 1<|L0<|eX (m:=1) (e:=5) #[vB 58] fun bc dW cO cP ae=>?_
 have V:=jI cO (xs:=[58]) (by as_aux_lemma=>kernel_rfl) (aF (by omega) cm) (by(try simp only[List.length_cons,List.length_nil]);omega) cP
 refine Pl 2<|?_
 have bd:=ut (aE.mono (S':=(ob Bq++[])) l aA) (aN E ae) (aB il aA)
 refine L0<|bD (aE.blk bd (b9 (aG (ag hb) lr a) av) f) 1 #[vI T.dir,.slice (some ⟨bc,0,none⟩) 1 1] fun dX cQ W=>nt<|xt<|wg<|tx<|bx<|tn<|go<|be ((k:Int)+1)<|Pl 1<|nl<|?_
 have bf:=u1 (aE.mono (S':=(ob Bq++(g :: []))) bd (aB il aA)) W im
 have bg:=uz ae W
 have bh:=vT (T:=T) (c:=(b.getD k 0)) r
 have bi:=SA.byte_ok hok (ic hrb k) bh
 exact ed ((k+1),(SA.mk T.dir [58]),(L++[Ev.bad 12]),some ⟨bc,0,none⟩,1,cM,cN,ad.heap.size) ⟨(ut d bf (aB (bC a lr) (ac im aA))),cQ,(ri (Nat.le_trans hbs (le (le d.size l.size) E.size)) (al V W (fun x hx=>(aa (fun e=>(aG (ag hb) (le (le d.size l.size) E.size) V) (e▸hx)) av)) (fun _ _ h=>h))),(al bb bg (fun x hx=>(aa (fun e=>(aG (ag hb) lr bb) (e▸hx)) av)) (fun x cs q=>bM.upd bg (i6 (aE.blk (ut (aE.mono (S':=(ob Bq++[])) l aA) E (aB il aA)) (b9 (aG (ag hb) lr a) av) f) (by decide) dl) q)),(le (le E.size ae.size) W.size),(aX.far D bf (f8 (gh hdl a (Nat.le_refl _)) (fY hdg gO))),(by(try dsimp only);exact gY (by omega) hpj bh),(by(try dsimp only);exact bi.1),(by(try dsimp only);have q:=SA.ok_le bi.1;exact q),(by(try dsimp only);omega),(by(try dsimp only);(try simp only[d8]);omega),(by(try dsimp only);exact(tN V (le (le d.size l.size) E.size))),(by(try dsimp only);exact Nat.le_trans hn0l (Nat.le_trans hnl l.size)),(by(try dsimp only);exact(sr V E.size))⟩ (by omega)
 refine aq 3<|cY 7 [38] 45 38 ((b.getD k 0)!=58) ((T.held.length:Int)==0) (fun K cR cT=>?_) ?_
 have dY:=ay cT
 exact Pl 3<|L1<|cS f 1<|Pl 3<|ce cR _ rfl
 refine ap 1<|cb ((((b.getD k 0)!=58)&&((T.held.length:Int)==0))) (fun u=>?_) (fun u=>?_)
 have cU:=(aS u).1
 have cV:=(aS u).2
 have dZ:=ay cU
 have e0:=ak cV
 refine xt<|wg<|tx<|bx<|tn<|go<|be ((k:Int)+1)<|Pl 1<|nl<|?_
 have bj:=wa (T:=T) (c:=(b.getD k 0)) r u
 have bl:=SA.byte_ok hok (ic hrb k) bj
 exact ed ((k+1),T,L,Ah,ch,Bq,cq,n) ⟨d,f,t,a,(Nat.le_trans hnl lr),D,(by(try dsimp only);exact lV (by omega) hpj bj),(by(try dsimp only);exact bl.1),(by(try dsimp only);have q:=SA.ok_le bl.1;exact q),(by(try dsimp only);omega),(by(try dsimp only);(try simp only[d8]);omega),(by(try dsimp only);exact hat0),(by(try dsimp only);exact hn0l),(by(try dsimp only);exact hlow)⟩ (by omega)
 refine sk<|bn<|tn<|aq 4<|aH f 1<|Pl 1<|L0<|eX (m:=1) (e:=5) #[vB (b.getD k 0)] fun e1 e3 cW cX i=>?_
 have cZ:=jI cW (xs:=[(b.getD k 0)]) (by as_aux_lemma=>kernel_rfl) (aF (by omega) cm) (by(try simp only[List.length_cons,List.length_nil]);omega) cX
 refine L0<|fe (R:=lO) (xs:=T.held) (ys:=([(b.getD k 0)])) (vB 0) 1 1 (al t i (fun x hx=>av) (fun _ _ h=>h)) (cZ).rd lI (fun _ _ _ _ h=>h) (by(try simp only[d8,aQ]);omega) (Nat.le_trans hbs (le d.size i.size)) fun X Y e4 bm z bo=>Pl 2<|?_
 have bp:=ut (aE.mono (S':=(ob Ah++[])) i aA) z (aB il aA)
 have bq:=aE.blk bp (b9 (ei f t (by decide)) av) f
 refine L0<|bD bq 1 #[vI T.dir,.slice X ((T.held++[(b.getD k 0)]).length) Y] fun d0 O s=>nt<|sq<|bk<|aq 3<|aH O 1<|ap 3<|?_
 have N:=u1 (aE.mono (S':=(ob Ah++(g :: []))) bp (aB il aA)) s im
 have br:=ut d N (aB (lM hat0 il lr) (ac im aA))
 refine cb ((decide (513<((T.held++[(b.getD k 0)]).length:Int)))) (fun F=>?_) (fun F=>?_)
 have d1:=of_decide_eq_true F
 refine go<|Pl 2<|L0<|eX (m:=1) (e:=87) #[vI 3,vB 0,vW 0,vB 0,vB 0,vW 0,vW 0,vW 0,vW 0,vW 0,vW 0,vW 0,vW 0,vW 0,vW 0,nS,nS,nS,nS,vB 0,vB 0,vB 0,vB 0,vB 0,nS] fun e5 af d2 d3 ah=>?_
 have d4:=gn (m:=.hi w.heap.size) (w0:=d0) (x:=(Ev.bad 3)) d2 d3 ⟨⟨none,0,none,0,none,0,none,0,none,0⟩,by kernel_rfl,eM,(show(0:Int)≤0∧(0:Int)<256 from by decide),(show(0:Int)≤0∧(0:Int)<65536 from by decide)⟩
 have Z:=aN N ah
 have bs:=al a Z (fun x hx=>(b9 ((cv a t (by decide)) x hx) (aa (fun e=>(aG (ag hb) lr a) (e▸hx)) av))) (fun x cs q=>bM.upd Z (ml hlow (i6 f (by decide) dl)) q)
 have d5:n≤af.heap.size:=Nat.le_trans hnl Z.size
 refine L0<|fe (R:=bM w.heap.size af.heap.size) (xs:=L) (ys:=([Ev.bad 3])) (.agg #[vI 0,vB 0,vW 0,vB 0,vB 0,vW 0,vW 0,vW 0,vW 0,vW 0,vW 0,vW 0,vW 0,vW 0,vW 0,nS,nS,nS,nS,vB 0,vB 0,vB 0,vB 0,vB 0,nS]) 25 168 (fj.up d5 (Nat.le_refl _) bs) (tF d4).rd bM.ones (fun w' hv x cs q=>bM.upd hv (oY bs (by decide) dl) q) (by(try simp only[d8,aQ]);omega) (le (le (le (le d.size i.size) z.size) s.size) ah.size) fun d6 d7 e6 bt bu e7=>Pl 1<|nl<|bn<|tn<|go<|Pl 3<|?_
 have bv:=ut (aE.mono (S':=(ob Bq++[])) ah aA) bu (aB il aA)
 have bw:=aE.blk bv (b9 (aG (ag hb) lr a) av) O
 refine L0<|bD bw 1 #[vI T.dir,nS] fun e8 d9 a0=>nl<|bn<|tn<|go<|be ((k:Int)+1)<|Pl 1<|nl<|?_
 have bB:=u1 (aE.mono (S':=(ob Bq++(g :: []))) bv (aB il aA)) a0 im
 have bE:=vQ (T:=T) (c:=(b.getD k 0)) r u F
 have bF:=SA.byte_ok hok (ic hrb k) bE
 exact ed ((k+1),(SA.mk T.dir []),(L++[Ev.bad 3]),none,0,d6,d7,af.heap.size) ⟨(ut br bB (aB (bC a lr) (ac im aA))),d9,(aW.nil base _ _ lO _),(al bt a0 (fun x hx=>(aa (fun e=>(aG (ag hb) lr bt) (e▸hx)) av)) (fun x cs q=>bM.upd a0 (i6 bw (by decide) dl) q)),(le bu.size a0.size),(aX.far D (ut (aE.mono (S':=(ob Ah++(g :: (ob Bq++[])))) N (aB il (ac im aA))) bB (aB il (ac im aA))) (f8 (j6 hda hdl hat0) (fY hdg (f8 (gh hdl a (Nat.le_refl _)) gO)))),(by(try dsimp only);exact gY (by omega) hpj bE),(by(try dsimp only);exact bF.1),(by(try dsimp only);have q:=SA.ok_le bF.1;exact q),(by(try dsimp only);omega),(by(try dsimp only);(try simp only[d8]);omega),(by(try dsimp only);exact jo),(by(try dsimp only);exact Nat.le_trans hn0l (Nat.le_trans hnl Z.size)),(by(try dsimp only);exact i3)⟩ (by omega)
 have d1:=of_decide_eq_false F
 refine aq 3<|aH O 1<|L0<|eX (m:=2) (e:=5) #[vB 13,vB 10] fun da e9 bG bH G=>?_
 have ea:=jI bG (xs:=[13,10]) (by as_aux_lemma=>kernel_rfl) (aF (by omega) (aF (by omega) cm)) (by(try simp only[List.length_cons,List.length_nil]);omega) bH
 refine L0<|to (m:=2) (c:=2) bH fun eb db H=>?_
 have dc:=iZ db (xs:=[13,10]) (by as_aux_lemma=>kernel_rfl) (aF (by omega) (aF (by omega) cm)) (by(try simp only[List.length_cons,List.length_nil]);omega)
 have bI:=ud G H bG
 have a1:=al bm (aN s bI) (fun x hx=>(aa (fun e=>(ei bq bm (by decide)) (e▸hx)) av)) (fun _ _ h=>h)
 refine ax (args:=#[.slice X ((T.held++[(b.getD k 0)]).length) Y,.slice (some ⟨da,0,none⟩) 2 2])<|m1 (td (xs:=(T.held++[(b.getD k 0)])) (ys:=[13,10]) (a1).rd dc) fun ec o=>ap 1<|?_
 have a2:=aN bI o
 have aj:=aN br a2
 refine cb ((fi (T.held++[(b.getD k 0)]) ([13,10]))) (fun a3=>?_) (fun a3=>?_)
 refine sq<|Rg 15 (fun w'=>w'.cell? ⟨g,0,none⟩=some (vI T.dir)∧w'.cell? ⟨g,1,none⟩=some (.slice X ((T.held++[(b.getD k 0)]).length) Y)) fun ee j=>?_
 have an:=aN a2 j
 have a4:=ub an O
 refine bA ⟨(am a4 rfl),(am a4 rfl)⟩ fun C=>Rt 0 C<|Rt 1 C<|Rt 2 C<|Rl 3 C (fun _ hs=>hs.1)<|Rt 4 C<|Rt 5 C<|Rt 6 C<|Rl 7 C (fun _ hs=>hs.2)<|R2 8 12 rfl rfl ?_ ?_
 refine pr (dv T.dir (T.held++[(b.getD k 0)])) fun I a5 bJ=>?_
 refine  Oc<|e2 (iG bJ ((al a1 (aN o j) (fun x hx=>av) (fun _ _ h=>h))).rd (by simp only[d8,List.length_replicate];omega)) fun ao eg dd a6=>?_
 obtain⟨de,df,dg⟩:=dd
 have ar:=ub a6 a4
 refine bA ⟨(am ar rfl),(am ar rfl)⟩ fun au=>Rt 9 au<|Rt 10 au<|Rt 11 au<|R0 12 rfl<|vh #[vB 0,vW 0,vB 0,vB 0,vW 0,vW 0,vW 0,vW 0,vW 0,vW 0,vW 0,vW 0,vW 0,vW 0,nS,nS,nS,nS,vB 0,vB 0,vB 0,vB 0,vB 0,nS] fun eh ej bK dh aw=>?_
 have aD:=ub aw ar
 refine bA ⟨(am aD rfl),(am aD rfl)⟩ fun ek=>R0 13 rfl<|j5 dh (qt I.unit I.tid I.msg ao) fun di dj aJ=>?_
 have aK:=aV aJ (nb (ag hb) (le (le (le (le (le (le (le (le d.size i.size) z.size) s.size) G.size) H.size) o.size) j.size) a6.size) bK) aD
 refine bA ⟨(am aK rfl),(am aK rfl)⟩ fun dk=>Rt 14 dk<|re<|tn<|go<|Pl 2<|L0<|cJ dj<|Pl 1<|L0<|eX (m:=1) (e:=87) (nP ⟨a5,I⟩ ao) fun el aM dm dn aO=>?_
 have bL:=ud aw (aN aJ aO) bK
 have dp:=gn (m:=.hi w.heap.size) (w0:=di) (x:=(Ev.mk a5 I)) dm dn ⟨ao,rfl,(aU.lo (aU.upd de bL aC) (le (le (le (le (le (le (le d.size i.size) z.size) s.size) G.size) H.size) o.size) j.size)),df,dg⟩
 have bN:=aN a6 bL
 have P:=aN N (aN an bN)
 have bO:=al a P (fun x hx=>(b9 ((cv a t (by decide)) x hx) (aa (fun e=>(aG (ag hb) lr a) (e▸hx)) av))) (fun x cs q=>bM.upd P (ml hlow (i6 f (by decide) dl)) q)
 have dq:n≤aM.heap.size:=Nat.le_trans hnl P.size
 refine L0<|fe (R:=bM w.heap.size aM.heap.size) (xs:=L) (ys:=([Ev.mk a5 I])) (.agg #[vI 0,vB 0,vW 0,vB 0,vB 0,vW 0,vW 0,vW 0,vW 0,vW 0,vW 0,vW 0,vW 0,vW 0,vW 0,nS,nS,nS,nS,vB 0,vB 0,vB 0,vB 0,vB 0,nS]) 25 168 (fj.up dq (Nat.le_refl _) bO) (tF dp).rd bM.ones (fun w' hv x cs q=>bM.upd hv (oY bO (by decide) dl) q) (by(try simp only[d8,aQ]);omega) (le (le (le (le (le (le (le (le (le (le (le d.size i.size) z.size) s.size) G.size) H.size) o.size) j.size) a6.size) aw.size) aJ.size) aO.size) fun dr ds em bP bQ eo=>Pl 1<|nl<|bn<|tn<|go<|Pl 3<|?_
 have bR:=aE.blk (ut (aE.mono (S':=(ob Bq++[])) aO aA) bQ (aB il aA)) (b9 (aG (ag hb) lr a) av) aK
 refine L0<|bD bR 1 #[vI T.dir,nS] fun ep dt aP=>nl<|bn<|tn<|go<|be ((k:Int)+1)<|Pl 1<|nl<|?_
 have aR:=u1 (aE.mono (S':=(ob Bq++(g :: []))) bQ (aB il aA)) aP im
 have bS:=tT (T:=T) (c:=(b.getD k 0)) r u F a3 bJ
 have bT:=SA.byte_ok hok (ic hrb k) bS
 exact ed ((k+1),(SA.mk T.dir []),(L++[Ev.mk a5 I]),none,0,dr,ds,aM.heap.size) ⟨(ut aj (ut (aE.mono (S':=(ob Bq++(g :: []))) j aA) (ut (aE.mono (S':=(ob Bq++(g :: []))) bN aA) aR (aB il (ac im aA))) (aB il (ac im aA))) (aB (bC a lr) (ac im aA))),dt,(aW.nil base _ _ lO _),(al bP aP (fun x hx=>(aa (fun e=>(aG (ag hb) lr bP) (e▸hx)) av)) (fun x cs q=>bM.upd aP (i6 bR (by decide) dl) q)),aR.size,(aX.far D (ut (aE.mono (S':=(ob Ah++(g :: (ob Bq++[])))) P (aB il (ac im aA))) aR (aB il (ac im aA))) (f8 (j6 hda hdl hat0) (fY hdg (f8 (gh hdl a (Nat.le_refl _)) gO)))),(by(try dsimp only);exact gY (by omega) hpj bS),(by(try dsimp only);exact bT.1),(by(try dsimp only);have q:=SA.ok_le bT.1;exact q),(by(try dsimp only);omega),(by(try dsimp only);(try simp only[d8]);omega),(by(try dsimp only);exact jo),(by(try dsimp only);exact Nat.le_trans hn0l (Nat.le_trans hnl P.size)),(by(try dsimp only);exact i3)⟩ (by omega)
 refine  vh #[vB 0,vW 0,vB 0,vB 0,vW 0,vW 0,vW 0,vW 0,vW 0,vW 0,vW 0,vW 0,vW 0,vW 0,nS,nS,nS,nS,vB 0,vB 0,vB 0,vB 0,vB 0,nS] fun du eq aY dw Q=>?_
 have aZ:=ub Q a4
 refine bA ⟨(am aZ rfl),(am aZ rfl)⟩ fun er=>?_
 have bU:=aN j Q
 refine pr (dv T.dir (T.held++[(b.getD k 0)])) fun J a7 bV=>?_
 refine R0 8 rfl<|Oc<|e2 (iG bV ((al a1 (aN o bU) (fun x hx=>av) (fun _ _ h=>h))).rd (by simp only[d8,List.length_replicate];omega)) fun b0 es dx a8=>?_
 obtain⟨dy,dz,dA⟩:=dx
 have b1:=ub a8 aZ
 refine bA ⟨(am b1 rfl),(am b1 rfl)⟩ fun b2=>Rt 9 b2<|Rt 10 b2<|Rt 11 b2<|?_
 have bW:=ub a8 dw
 refine R0 13 rfl<|j5 bW (qt J.unit J.tid J.msg b0) fun dB dD b3=>?_
 have b4:=aV b3 (nb (ag hb) (le (le (le (le (le (le (le d.size i.size) z.size) s.size) G.size) H.size) o.size) j.size) aY) b1
 refine bA ⟨(am b4 rfl),(am b4 rfl)⟩ fun dE=>Rt 14 dE<|re<|tn<|go<|Pl 2<|L0<|cJ dD<|Pl 1<|L0<|eX (m:=1) (e:=87) (nP ⟨a7,J⟩ b0) fun et b5 dF dG b6=>?_
 have bX:=aN b3 b6
 have dH:=gn (m:=.hi w.heap.size) (w0:=dB) (x:=(Ev.mk a7 J)) dF dG ⟨b0,rfl,(aU.lo (aU.upd dy bX (ai (aT bW (by decide)) aC)) (le (le (le (le (le (le (le (le d.size i.size) z.size) s.size) G.size) H.size) o.size) j.size) Q.size)),dz,dA⟩
 have bY:=uz a8 bX
 have U:=aN N (aN an (ud Q bY aY))
 have bZ:=al a U (fun x hx=>(b9 ((cv a t (by decide)) x hx) (aa (fun e=>(aG (ag hb) lr a) (e▸hx)) av))) (fun x cs q=>bM.upd U (ml hlow (i6 f (by decide) dl)) q)
 have dI:n≤b5.heap.size:=Nat.le_trans hnl U.size
 refine L0<|fe (R:=bM w.heap.size b5.heap.size) (xs:=L) (ys:=([Ev.mk a7 J])) (.agg #[vI 0,vB 0,vW 0,vB 0,vB 0,vW 0,vW 0,vW 0,vW 0,vW 0,vW 0,vW 0,vW 0,vW 0,vW 0,nS,nS,nS,nS,vB 0,vB 0,vB 0,vB 0,vB 0,nS]) 25 168 (fj.up dI (Nat.le_refl _) bZ) (tF dH).rd bM.ones (fun w' hv x cs q=>bM.upd hv (oY bZ (by decide) dl) q) (by(try simp only[d8,aQ]);omega) (le (le (le (le (le (le (le (le (le (le (le d.size i.size) z.size) s.size) G.size) H.size) o.size) j.size) Q.size) a8.size) b3.size) b6.size) fun dJ dK eu c0 c1 ev=>Pl 1<|nl<|bn<|tn<|go<|Pl 3<|?_
 have c2:=aE.blk (ut (aE.mono (S':=(ob Bq++[])) b6 aA) c1 (aB il aA)) (b9 (aG (ag hb) lr a) av) b4
 refine L0<|bD c2 1 #[vI T.dir,nS] fun ew dL b7=>nl<|bn<|tn<|go<|be ((k:Int)+1)<|Pl 1<|nl<|?_
 have b8:=u1 (aE.mono (S':=(ob Bq++(g :: []))) c1 (aB il aA)) b7 im
 have c3:=tT (T:=T) (c:=(b.getD k 0)) r u F a3 bV
 have c4:=SA.byte_ok hok (ic hrb k) c3
 exact ed ((k+1),(SA.mk T.dir []),(L++[Ev.mk a7 J]),none,0,dJ,dK,b5.heap.size) ⟨(ut aj (ut (aE.mono (S':=(ob Bq++(g :: []))) bU aA) (ut (aE.mono (S':=(du :: (ob Bq++(g :: [])))) bY (ac im aA)) b8 (aB il (ac im aA))) (ac (ni j.size aY) (aB il (ac im aA)))) (aB (bC a lr) (ac im aA))),dL,(aW.nil base _ _ lO _),(al c0 b7 (fun x hx=>(aa (fun e=>(aG (ag hb) lr c0) (e▸hx)) av)) (fun x cs q=>bM.upd b7 (i6 c2 (by decide) dl) q)),b8.size,(aX.far D (ut (aE.mono (S':=(ob Ah++(g :: (ob Bq++[])))) U (aB il (ac im aA))) b8 (aB il (ac im aA))) (f8 (j6 hda hdl hat0) (fY hdg (f8 (gh hdl a (Nat.le_refl _)) gO)))),(by(try dsimp only);exact gY (by omega) hpj c3),(by(try dsimp only);exact c4.1),(by(try dsimp only);have q:=SA.ok_le c4.1;exact q),(by(try dsimp only);omega),(by(try dsimp only);(try simp only[d8]);omega),(by(try dsimp only);exact jo),(by(try dsimp only);exact Nat.le_trans hn0l (Nat.le_trans hnl U.size)),(by(try dsimp only);exact i3)⟩ (by omega)
 refine xt<|wg<|tx<|bx<|tn<|go<|be ((k:Int)+1)<|Pl 1<|nl<|?_
 have a9:=aN N a2
 have c5:=w8 (T:=T) (c:=(b.getD k 0)) r u F a3
 have c6:=SA.byte_ok hok (ic hrb k) c5
 exact ed ((k+1),(SA.mk T.dir (T.held++[(b.getD k 0)])),L,X,Y,Bq,cq,n) ⟨aj,(ub a2 O),(al a1 o (fun x hx=>av) (fun _ _ h=>h)),(al a a9 (fun x hx=>(b9 ((cv a t (by decide)) x hx) (aa (fun e=>(aG (ag hb) lr a) (e▸hx)) av))) (fun x cs q=>bM.upd a9 (ml hlow (i6 f (by decide) dl)) q)),(Nat.le_trans hnl a9.size),(aX.far D a9 (f8 (j6 hda hdl hat0) (fY hdg gO))),(by(try dsimp only);exact lV (by omega) hpj c5),(by(try dsimp only);exact c6.1),(by(try dsimp only);have q:=SA.ok_le c6.1;exact q),(by(try dsimp only);omega),(by(try dsimp only);(try simp only[d8]);omega),(by(try dsimp only);exact(pW bo hat0 (le d.size i.size))),(by(try dsimp only);exact hn0l),(by(try dsimp only);exact(t3 bo hlow (Nat.le_trans hnl i.size)))⟩ (by omega)
 have cy:=of_decide_eq_false ab
 refine xt<|tx<|tx<|bx<|tn<|az 2<|rt<|gr<|rr (.slice Bq L.length cq)<|?_
 have hs:S.feed b=(T,L):=by rw[hpj,List.take_of_length_le (by omega)]
 rw[hs]
 exact⟨_,Ah,ch,n,rfl,a,f,t,hat0,⟨hn0l,Nat.le_trans hnl lr⟩,hlow,d⟩
open Go.RowKit
def bu (n base:Nat)(w:World)(g:Nat)(A:Option Addr)(cp:Nat)(S:SA) : Prop:=tA w g S A cp∧ef base w (.slice A S.held.length cp) S.held∧S.ok∧n≤w.heap.size∧(∀ x,x∈ob A→n≤x)∧base≤w.heap.size
section
variable {n base g cp:Nat}{w w':World}{A:Option Addr}{S:SA}{X:List Nat}
theorem bu.row(h:bu n base w g A cp S) : ef base w (.slice A S.held.length cp) S.held:=h.2.1
theorem bu.low(h:bu n base w g A cp S) : ∀ x,x∈ob A→n≤x:=h.2.2.2.2.1
theorem bu.nle(h:bu n base w g A cp S) : n≤w.heap.size:=h.2.2.2.1
theorem bu.le(h:bu n base w g A cp S) : S.held.length≤513:=SA.ok_le h.2.2.1
theorem bu.lt(h:bu n base w g A cp S) : g<w.heap.size:=ag h.1
theorem bu.cells(h:bu n base w g A cp S) : ∃ cs fr,w.heap[g]? = some (.cells cs 95 fr):=⟨_,_,h.1⟩
theorem bu.upd(h:bu n base w g A cp S)(hu:aE X w w')(hg:g∉X)(hr:∀ x,x∈ob A→x∉X) : bu n base w' g A cp S :=
  ⟨hu.blk hg h.1,al h.2.1 hu hr (fun _ _ q=>q),h.2.2.1,Nat.le_trans h.2.2.2.1 hu.size,h.2.2.2.2.1,Nat.le_trans h.2.2.2.2.2 hu.size⟩
end
theorem SA.feed_ok:∀ (b:List Int)(S:SA)(L:List Ev),S.ok→(∀ x,x∈b→0≤x∧x<256)→(b.foldl (fun(p:SA × List Ev) c=>((p.1.byte c).1,p.2++(p.1.byte c).2)) (S,L)).1.ok∧(b.foldl (fun(p:SA × List Ev) c=>((p.1.byte c).1,p.2++(p.1.byte c).2)) (S,L)).2.length≤L.length+b.length
  | [],S,L,h,_=>⟨h,Nat.le_refl _⟩
  | c :: t,S,L,h,hb=>by
    have k:=SA.byte_ok (S2:=(S.byte c).1) (L2:=(S.byte c).2) h (hb c (List.mem_cons_self ..)) rfl
    have q:=SA.feed_ok t (S.byte c).1 (L++(S.byte c).2) k.1 (fun x hx=>hb x (List.mem_cons_of_mem _ hx))
    refine⟨q.1,Nat.le_trans q.2 ?_⟩
    rw[List.length_append,List.length_cons]
    omega
theorem SA.feed_le{S S2:SA}{b:List Int}{L:List Ev}(h:S.ok)(hb:∀ x,x∈b→0≤x∧x<256)(hX:S.feed b=(S2,L)) : L.length≤b.length:=by
  have q:=(SA.feed_ok b S [] h hb).2
  have e:L=(S.feed b).2:=(congrArg Prod.snd hX).symm
  rw[e]
  rw[List.length_nil,Nat.zero_add] at q
  exact q
def xK (n base:Nat)(S2:SA)(L:List Ev)(g:Nat)(A:Option Addr)(w:World)(e:Ending)(w':World) : Prop:=∃ v A2 cp2 n2,e = .returned v∧fj n2 w.heap.size w' v L∧bu n2 base w' g A2 cp2 S2∧(∀ x,x∈ob A2→x∈ob A∨w.heap.size≤x)∧n≤n2∧aE (g :: (ob A++[])) w w'
theorem eK{w:World}{n base g cp cpb nb:Nat}{S S2:SA}{L:List Ev}{A B:Option Addr}{m:Md}{b:List Int}(hX:S.feed b=(S2,L))(h:bu n base w g A cp S)(hsl:aX m w (.slice B nb cpb) b)(hdg:0<nb→∀ x,x∈ob B→x≠g)(hda:oF nb B (ob A))(hbl:b.length≤1048576) :
    Calls Tryz.prog 22 #[.pointer (some ⟨g,0,none⟩),.slice B nb cpb] w (xK n base S2 L g A w):=by
  obtain⟨h1,h2,h3,h4,h5,h6⟩:=h
  obtain rfl:nb=b.length:=by
    obtain⟨_,_,e,_⟩:=hsl.shape
    injection e
  refine(nz h1 h2 h6 h3 h4 h5 hsl hdg hda hbl).mono ?_
  rintro e w' ⟨v,A2,cp2,n2,he,k1,k2,k3,k4,⟨k5,k6⟩,k7,k8⟩
  have hok:=(SA.feed_ok b S [] h3 (aX.range hsl)).1
  rw[hX] at k1 k2 k3
  have e2:S2=(S.feed b).1:=(congrArg Prod.fst hX).symm
  exact⟨v,A2,cp2,n2,he,k1,⟨k2,k3,by rw[e2];exact hok,k6,k7,Nat.le_trans h6 k8.size⟩,k4,k5,k8⟩
theorem lu(d:Int){w:World}(hq:Calls Tryz.prog 21 #[.int .i64 d] w (fun e w'=>∃ g,e = .returned (.pointer (some ⟨g,0,none⟩))∧w.heap.size≤g∧tA w' g ⟨d,[]⟩ none 0∧aE [] w w')) :
    Calls Tryz.prog 21 #[.int .i64 d] w (fun e w'=>∃ g,e = .returned (.pointer (some ⟨g,0,none⟩))∧w.heap.size≤g∧bu w.heap.size w.heap.size w' g none 0 ⟨d,[]⟩∧aE [] w w'):=by
  refine hq.mono ?_
  rintro e w' ⟨g,he,h1,h2,h3⟩
  exact⟨g,he,h1,⟨h2,aW.nil ..,⟨(fun x hx=>by cases hx),(show 0≤513 from by decide)⟩,h3.size,i3,h3.size⟩,h3⟩
theorem i8{w:World}{n base g cp:Nat}{S:SA}{A:Option Addr}(h:bu n base w g A cp S) : Calls Tryz.prog 24 #[.pointer (some ⟨g,0,none⟩)] w (bW (.int .i64 ((S.held.length:Nat) : Int)) w):=q2 h.1 h.2.1.rd
open Go.RowKit
theorem w6:SA.feed (SA.mk 0 []) [58,48,49]=((SA.mk 0 [58,48,49]),[]):=by kernel_rfl
theorem vv:SA.feed (SA.mk 0 [58,48,49]) [48,55,70,56,13,10]=((SA.mk 0 []),[⟨0,⟨1,0,wb⟩⟩]):=by kernel_rfl
theorem vL:SA.feed (SA.mk 0 []) [58,48,49,58,48,49,48,55,70,56,13,10]=((SA.mk 0 []),[Ev.bad 12,⟨0,⟨1,0,wb⟩⟩]):=by kernel_rfl
theorem lq{w:World}:Calls Tryz.prog 20 #[] w (bW (.bool true) w):=by
 refine en 73 Tryz.func20 rfl<|aq 1<|ng<|ax<|e3 (lu 0 kZ) fun a an L b M=>ap 1<|sq<|sq<|go<|ap 2<|c0<|bz<|aq 1<|L0<|eX (m:=3) (e:=5) #[vB 58,vB 48,vB 49] fun N ao o z g=>?_
 have ar:=jI o (xs:=[58,48,49]) (by as_aux_lemma=>kernel_rfl) (aF (by omega) (aF (by omega) (aF (by omega) cm))) (by(try simp only[List.length_cons,List.length_nil]);omega) z
 refine L0<|to (m:=3) (c:=3) z fun O P h=>?_
 have Q:=iZ P (xs:=[58,48,49]) (by as_aux_lemma=>kernel_rfl) (aF (by omega) (aF (by omega) (aF (by omega) cm))) (by(try simp only[List.length_cons,List.length_nil]);omega)
 have A:=ud g h o
 refine ax (args:=#[vP a 0,.slice (some ⟨N,0,none⟩) 3 3])<|(eK w6 (bu.upd b A av mM) Q (l7 (Ne.symm (nb (bu.lt b) lr o))) ru (by decide)).mono ?_
 rintro _ R ⟨au,r,aw,ay,rfl,S,i,aC,aD,T⟩
 refine⟨_,rfl,?_⟩
 have j:aE [a] O R:=T
 have U:=S
 obtain⟨aH,aJ,rfl,aK,aM⟩:=aI.shape U.rd
 refine Pl 1<|aL 1<|ax<|m1 (i8 i) fun aO d=>Pl 1<|aL 1<|L0<|eX (m:=6) (e:=5) #[vB 48,vB 55,vB 70,vB 56,vB 13,vB 10] fun V aP k B s=>?_
 have aQ:=jI k (xs:=[48,55,70,56,13,10]) (by as_aux_lemma=>kernel_rfl) (aF (by omega) (aF (by omega) (aF (by omega) (aF (by omega) (aF (by omega) (aF (by omega) cm)))))) (by(try simp only[List.length_cons,List.length_nil]);omega) B
 refine L0<|to (m:=6) (c:=6) B fun aR W t=>?_
 have X:=iZ W (xs:=[48,55,70,56,13,10]) (by as_aux_lemma=>kernel_rfl) (aF (by omega) (aF (by omega) (aF (by omega) (aF (by omega) (aF (by omega) (aF (by omega) cm)))))) (by(try simp only[List.length_cons,List.length_nil]);omega)
 have C:=aN d (ud s t k)
 refine ax (args:=#[vP a 0,.slice (some ⟨V,0,none⟩) 6 6])<|(eK vv (bu.upd i C av (fun x hx=>av)) X (l7 (Ne.symm (nb (bu.lt b) (le (le (le g.size h.size) j.size) d.size) k))) (mb (kF (bu.row i) d.size k)) (by decide)).mono ?_
 rintro _ aS ⟨aT,Y,aU,aV,rfl,Z,f,a0,aW,D⟩
 refine⟨_,rfl,?_⟩
 have l:=Z
 obtain⟨aX,aY,rfl,aZ,b0⟩:=aI.shape l.rd
 refine Pl 1<|aL 1<|L0<|eX (m:=12) (e:=5) #[vB 58,vB 48,vB 49,vB 58,vB 48,vB 49,vB 48,vB 55,vB 70,vB 56,vB 13,vB 10] fun a1 b1 n E a2=>?_
 have b2:=jI n (xs:=[58,48,49,58,48,49,48,55,70,56,13,10]) (by as_aux_lemma=>kernel_rfl) (aF (by omega) (aF (by omega) (aF (by omega) (aF (by omega) (aF (by omega) (aF (by omega) (aF (by omega) (aF (by omega) (aF (by omega) (aF (by omega) (aF (by omega) (aF (by omega) cm)))))))))))) (by(try simp only[List.length_cons,List.length_nil]);omega) E
 refine L0<|to (m:=12) (c:=12) E fun b3 a3 a4=>?_
 have a5:=iZ a3 (xs:=[58,48,49,58,48,49,48,55,70,56,13,10]) (by as_aux_lemma=>kernel_rfl) (aF (by omega) (aF (by omega) (aF (by omega) (aF (by omega) (aF (by omega) (aF (by omega) (aF (by omega) (aF (by omega) (aF (by omega) (aF (by omega) (aF (by omega) (aF (by omega) cm)))))))))))) (by(try simp only[List.length_cons,List.length_nil]);omega)
 have F:=ud a2 a4 n
 refine ax (args:=#[vP a 0,.slice (some ⟨a1,0,none⟩) 12 12])<|(eK vL (bu.upd f F av (fun x hx=>av)) a5 (l7 (Ne.symm (nb (bu.lt b) (le (le (le (le (le (le g.size h.size) j.size) d.size) s.size) t.size) D.size) n))) (mb (kF (bu.row f) lr n)) (by decide)).mono ?_
 rintro _ b4 ⟨b5,b6,b7,b8,rfl,a6,a7,ba,bb,a8⟩
 refine⟨_,rfl,?_⟩
 have u:=a6
 obtain⟨bc,bd,rfl,be,bf⟩:=aI.shape u.rd
 refine ap 1<|sq<|az 8<|c0<|bz<|aq 9<|?_
 have y:=ut (aE.mono (S':=(a :: (ob Y++[]))) F aA) a8 (ac im (aB il aA))
 refine vJ (nd.elt (fj.own (al l y (fun x hx=>(aa (fun e=>(aG (bu.lt b) (le (le (le (le (le g.size h.size) j.size) d.size) s.size) t.size) l) (e▸hx)) (b9 ((cv l (bu.row f) (by decide)) x hx) av))) (fun x cs q=>bM.upd y (wc (bu.cells f) (by decide) (ml (nO (Nat.le_refl _) (bu.low f)) dl)) q))).rd 0 (by decide) (Ev.bad 0)) fun G H bg bh bi bj I J bk K=>L1<|pl 25 1 0 I (by omega)<|Pl 1<|L1<|dC (p:=⟨G,H+0*25+0,none⟩) (v:=vI 0) (gt J K 0 (by kernel_rfl) (by decide))<|Pl 4<|L1<|pl 25 1 0 I (by omega)<|Pl 3<|L1<|dC (p:=⟨G,H+0*25+1+2+0,none⟩) (v:=vB 7) (gt J K 3 (by kernel_rfl) (by decide))<|Pl 4<|vJ (nd.elt (fj.own u).rd 0 (by decide) (Ev.bad 0)) fun a9 ab bl bm bn bo ad ae bp af=>L1<|pl 25 2 0 ad (by omega)<|Pl 1<|L1<|dC (p:=⟨a9,ab+0*25+0,none⟩) (v:=vI 12) (gt ae af 0 (by kernel_rfl) (by decide))<|Pl 4<|vJ (nd.elt (fj.own u).rd 1 (by decide) (Ev.bad 0)) fun ag ah bq br bs bt ai aj bv ak=>?_
 refine L1<|pl 25 2 1 ai (by omega)<|Pl 1<|L1<|dC (p:=⟨ag,ah+1*25+0,none⟩) (v:=vI 0) (gt aj ak 0 (by kernel_rfl) (by decide))<|Pl 4<|L1<|Oc<|m1 (i8 a7) fun bw am=>ap 3<|rt<|rr (.bool true)<|?_
 exact⟨rfl,(ut M (ut (aE.mono (S':=(a :: (ob r++[]))) A aA) (ut (aE.mono (S':=(a :: (ob r++[]))) j (ac im aA)) (ut (aE.mono (S':=(a :: (ob r++[]))) C aA) (ut D (aN y am) (ac im (aB (lM a0 il lr) aA))) (ac im (aB il aA))) (ac im (aB il aA))) (ac im (aB il aA))) (ac (nr L) (aB (bC (bu.row i) lr) aA)))⟩
open Go.RowKit
def dT:List (List Int)→Nat
  | []=>0
  | x :: t=>x.length+dT t
def eT (ls:List (List Int)) : Bool:=decide (ls.length≤60)&&decide (dT ls≤3000)
theorem m0(a b:List (List Int)) : dT (a++b)=dT a+dT b:=by
  induction a with
  | nil=>simp[dT]
  | cons x t ih=>simp only[List.cons_append,dT,ih];omega
theorem p5{ls:List (List Int)}{k:Nat}(hk:k<ls.length) : ls.take (k+1)=ls.take k++[ls.getD k []]:=by
  rw[List.take_succ_eq_append_getElem hk,List.getD_eq_getElem?_getD,List.getElem?_eq_getElem hk]
  rfl
theorem dV{ls:List (List Int)}{k:Nat}(hk:k<ls.length) : dT (ls.take (k+1))=dT (ls.take k)+(ls.getD k []).length:=by
  rw[p5 hk,m0]
  rfl
theorem oE{ls:List (List Int)}(hb:∀ x,x∈ls→x.length≤140737488355328) : ∀ k,k≤ls.length→dT (ls.take k)≤k*140737488355328
  | 0,_=>by simp[dT]
  | k+1,h=>by
    rw[dV (by omega)]
    have h1:=oE hb k (by omega)
    have h2:(ls.getD k []).length≤140737488355328:=by
      rw[List.getD_eq_getElem?_getD,List.getElem?_eq_getElem (by omega)]
      exact hb _ (List.getElem_mem _)
    rw[Nat.succ_mul]
    omega
theorem eG{ls:List (List Int)}{k:Nat}(hk:k<ls.length) : dT (ls.take k)+(ls.getD k []).length≤dT ls:=by
  rw[← dV hk]
  have:=m0 (ls.take (k+1)) (ls.drop (k+1))
  rw[List.take_append_drop] at this
  omega
theorem nL{ls:List (List Int)}{k:Nat}{n:Int}(hb:∀ x,x∈ls→x.length≤140737488355328)(h:k≤60→n=(dT (ls.take k) : Nat))(hk:k<ls.length) : k+1≤60→IntKind.i64.wrap (n+(((ls.getD k []).length:Nat) : Int))=(dT (ls.take (k+1)) : Nat):=by
  intro a
  have h1:=oE hb (k+1) hk
  have h2:=dV hk
  rw[h (by omega),i64_in]
  · rw[h2];omega
  · omega
theorem kP{ls:List (List Int)}{k:Nat}{n:Int}(h:k≤60→n=(dT (ls.take k) : Nat))(hk:k=ls.length) : (decide ((ls.length:Int)≤60)&&decide (n≤3000))=eT ls:=by
  subst hk
  rw[List.take_length] at h
  unfold eT
  by_cases a:ls.length≤60
  · rw[h a]
    congr 1
    · rw[decide_eq_decide];omega
    · rw[decide_eq_decide];omega
  · rw[decide_eq_false a,decide_eq_false (by omega)];rfl
theorem mi{ls:List (List Int)}(h:eT ls=true) : ls.length≤60∧dT ls≤3000:=by
  unfold eT at h
  simpa using h
theorem iy{m:Md}{A:Option Addr}{cp:Nat}{ls:List (List Int)}{w:World}(h:fP m w (.slice A ls.length cp) ls)(hbb:∀ x,x∈ls→x.length≤140737488355328) : Calls Tryz.prog 14 #[.slice A ls.length cp] w (bW (.bool (eT ls)) w):=by
 have hz:=aI.len h
 refine en 25 Tryz.func14 rfl<|sg<|Pl 1<|ng<|Pl 1<|nt<|sq<|sg<|?_
 refine Pl 1<|nt<|bk<|?_
 refine gw (fun x=>[(0,.slice A ls.length cp),(2,.bool false),(3,.int .i64 x.2),(4,.int .i64 ((x.1:Nat) : Int))]) (fun(x:Nat × Int) w'=>aE [] w w'∧(x.1≤ls.length)∧(x.1≤60→x.2=(dT (ls.take x.1) : Nat))) (fun x=>ls.length-x.1) (0,0) ⟨aE.refl _ _,(by(try dsimp only);omega),(by(try dsimp only);intro _;rfl)⟩ ?_
 rintro⟨k,n⟩ u ⟨c,f,g⟩
 refine f5 [(0,.slice A ls.length cp),(2,.bool false),(3,.int .i64 n),(4,.int .i64 ((k:Nat) : Int))] ?_
 have y:k≤ls.length:=f
 have d:k≤60→n=(dT (ls.take k) : Nat):=g
 refine sq<|sg<|Pl 4<|nt<|cb ((decide (((k:Nat) : Int)<((ls.length:Nat) : Int)))) (fun b=>?_) (fun b=>?_)
 have i:=of_decide_eq_true b
 refine bz<|sq<|bk<|go<|Pl 3<|ia (fP.elt h k (by omega)) fun j l o q r s z B C=>L0<|hM ls.length k r (by omega)<|L0<|dC (p:=⟨j,l+k,none⟩) (v:=.slice o ((ls.getD k []).length) q) (uc c s)<|Pl 3<|nl<|bn<|tn<|go<|?_
 exact Pl 1<|L0<|Oi (((k:Nat) : Int)+1)<|Pl 1<|nl<|ed ((k+1),(IntKind.i64.wrap (n+(((ls.getD k []).length:Nat) : Int)))) ⟨c,(by(try dsimp only);omega),(nL hbb d (by omega))⟩ (by omega)
 have i:=of_decide_eq_false b
 refine xt<|tx<|tx<|bx<|tn<|sg<|Pl 4<|cu 3 [21] 24 (((decide (((ls.length:Nat) : Int)≤60))&&(decide (n≤3000)))) (fun K e=>?_) ?_
 refine bl 21 ((decide (((ls.length:Nat) : Int)≤60))) (fun a=>?_) (fun a=>?_)
 have t:=of_decide_eq_true a
 exact Pl 3<|ce e (decide (n≤3000)) (by rw[a];rfl)
 have t:=of_decide_eq_false a
 exact Pl 3<|ce e false (by rw[a];rfl)
 refine Pl 1<|nt<|rt<|rr (.bool ((decide (((ls.length:Nat) : Int)≤60))&&(decide (n≤3000))))<|?_
 have hs:((decide (((ls.length:Nat) : Int)≤60))&&(decide (n≤3000)))=eT ls:=by first | exact kP d (by omega) | (rw[← kP d (by omega)];simp only[b,bq,Bool.true_and,Bool.false_and])
 rw[hs]
 exact⟨rfl,c⟩
open Go.RowKit
theorem r8(a b c d:Int)(w:World) : (Op.equalIn 10000 39 (.agg #[.int .u8 a,.int .u16 b]) (.agg #[.int .u8 c,.int .u16 d])).run Tryz.prog w = .ok ((a==c)&&(b==d)) w:=by
  have hS:Tryz.prog.underlying 39=some (.struct (Tryz.prog.fieldsOf 39)):=by kernel_rfl
  have hp:Tryz.prog.stoodInHeld 39=false:=by kernel_rfl
  rw[show(10000:Nat)=9998+1+1 from rfl,run_equalIn_agg w (9998+1) 39 _ _ hS hp]
  simp only[Program.fieldsOf,Tryz.underlying39]
  have p0:∀ v:Int,(part 5 #[.int .u8 v,.int .u16 b] 0).run Tryz.prog w = .ok (.int .u8 v) w:=fun v=>by simp[part,isAgg,run_underlying Tryz.underlying5,Result.andThen]
  have p0':∀ v:Int,(part 5 #[.int .u8 v,.int .u16 d] 0).run Tryz.prog w = .ok (.int .u8 v) w:=fun v=>by simp[part,isAgg,run_underlying Tryz.underlying5,Result.andThen]
  have p1:∀ v u:Int,(part 37 #[.int .u8 u,.int .u16 v] 1).run Tryz.prog w = .ok (.int .u16 v) w:=fun v u=>by simp[part,isAgg,run_underlying Tryz.underlying37,Result.andThen]
  have e0:=run_equalIn_int (P:=Tryz.prog) w 9998 5 .u8 _ a c Tryz.underlying5
  have e1:=run_equalIn_int (P:=Tryz.prog) w 9998 37 .u16 _ b d Tryz.underlying37
  simp only[Op.eqFields,Sem.run_bind,p0,p0',p1,e0,e1,Result.andThen_ok,ne_eq,String.reduceEq,not_false_eq_true,if_true,Sem.run_ite]
  cases (a==c)<;>cases (b==d)<;>simp
theorem oo{ev:Operand→Value}{o:Oper}{x y:Operand}{t:TypeId}(a b c d:Int){v:Bool}{w:World}(ho:o.op = .binOp .eql 39 x y t)
    (hx:ev x = .agg #[.int .u8 a,.int .u16 b]) (hy:ev y = .agg #[.int .u8 c,.int .u16 d]) (hv:((a==c)&&(b==d))=v) : (execOp ev o).run Tryz.prog w = .ok (.value (.bool v)) w:=by
  subst hv
  have hg:(eqGuard .eql 39 x y (.agg #[.int .u8 a,.int .u16 b]) (.agg #[.int .u8 c,.int .u16 d])).run Tryz.prog w = .ok () w:=run_eqGuard_agg w _ _ _ _ _ _ (by kernel_rfl)
  unfold execOp
  simp only[ho,hx,hy,Sem.run_bind,hg,Result.andThen_ok,run_eql_struct,r8,Sem.run_pure]
open Go.RowKit
theorem nW{m m':Md}{A B:Option Addr}{c d:Nat}{xs ys:List Int}{w:World}(h1:aX m w (.slice A xs.length c) xs)(h2:aX m' w (.slice B ys.length d) ys) :
    Calls Tryz.prog 29 #[.slice A xs.length c,.slice B ys.length d] w (bW (.bool (decide (xs=ys))) w):=by
 exact en 10 Tryz.func29 rfl<|aq 1<|aL 1<|L0<|gy (.string (strOfNums xs)) (dD (A:=A) (n:=xs.length) (c:=c) rfl (by kernel_rfl) Tryz.underlying27 Tryz.underlying5 Tryz.underlying9 h1)<|Pl 1<|L0<|gy (.string (strOfNums ys)) (dD (A:=B) (n:=ys.length) (c:=d) rfl (by kernel_rfl) Tryz.underlying27 Tryz.underlying5 Tryz.underlying9 h2)<|L0<|gy (.bool (decide (xs=ys))) (jj (a:=(strOfNums xs)) (b:=(strOfNums ys)) rfl (by kernel_rfl) (by kernel_rfl) (ow h1 h2))<|Pl 1<|nl<|tn<|rt<|rr (.bool (decide (xs=ys)))<|⟨rfl,(aE.refl [] _)⟩
theorem kK{m m':Md}{a b:Value}{xs ys:List Int}{w:World}(h1:aX m w a xs)(h2:aX m' w b ys) : Calls Tryz.prog 29 #[a,b] w (bW (.bool (decide (xs=ys))) w):=by
  obtain⟨A,c,rfl,_,_⟩:=h1.shape
  obtain⟨B,d,rfl,_,_⟩:=h2.shape
  exact nW h1 h2
open Go.RowKit
theorem fs{α:Type}{xs ys:List α}{k:Nat}(h:xs.take k=ys.take k)(h1:k=xs.length)(h2:xs.length=ys.length) : xs=ys:=by
  rw[List.take_of_length_le (by omega),List.take_of_length_le (by omega)] at h
  exact h
theorem ka{m m':Md}{A B:Option Addr}{c d:Nat}{xs ys:List Int}{w:World}(h1:ez m w (.slice A xs.length c) xs)(h2:ez m' w (.slice B ys.length d) ys) :
    Calls Tryz.prog 68 #[.slice A xs.length c,.slice B ys.length d] w (bW (.bool (decide (xs=ys))) w):=by
 have hz1:=aI.len h1
 have hz2:=aI.len h2
 refine en 26 Tryz.func68 rfl<|az 1<|sq<|az 5<|cb ((((xs.length:Nat) : Int)!=((ys.length:Nat) : Int))) (fun g=>?_) (fun g=>?_)
 have j:=ay g
 refine az 1<|bj<|rr (.bool false)<|?_
 have hs:decide (xs=ys)=false:=decide_eq_false (fun e=>by rw[e] at j;omega)
 rw[hs]
 exact⟨rfl,(aE.refl [] _)⟩
 have j:=aJ g
 refine bz<|sq<|az 1<|bk<|?_
 refine gw (fun x=>[(0,.slice A xs.length c),(1,.slice B ys.length d),(5,vI ((x:Nat) : Int))]) (fun(x:Nat) w'=>aE [] w w'∧(xs.take x=ys.take x)∧(x≤xs.length)) (fun x=>xs.length-x) 0 ⟨aE.refl _ _,(by(try dsimp only);simp),(by(try dsimp only);omega)⟩ ?_
 rintro k E ⟨b,p,q⟩
 refine f5 [(0,.slice A xs.length c),(1,.slice B ys.length d),(5,vI ((k:Nat) : Int))] ?_
 have l:xs.take k=ys.take k:=p
 have F:k≤xs.length:=q
 refine sq<|az 4<|cb ((decide (((k:Nat) : Int)<((xs.length:Nat) : Int)))) (fun h=>?_) (fun h=>?_)
 have r:=of_decide_eq_true h
 refine bz<|sq<|bk<|sq<|?_
 refine eF (ez.at_ (ez.old h1 b) k (by omega)) fun s t u v G=>?_
 refine eF (ez.at_ (ez.old h2 b) k (by omega)) fun y z C D H=>Rg 9 (fun w'=>w'.cell? ⟨s,t+k,none⟩=some (vW (xs.getD k 0))∧w'.cell? ⟨y,z+k,none⟩=some (vW (ys.getD k 0))) fun I i=>bA ⟨(uc i v),(uc i D)⟩ fun a=>Rt 0 a<|Rt 1 a<|nG 2 a xs.length k ((k:Nat) : Int) rfl u (by omega)<|Rl 3 a (fun _ hs=>hs.1)<|Rt 4 a<|Rt 5 a<|nG 6 a ys.length k ((k:Nat) : Int) rfl C (by omega)<|Rl 7 a (fun _ hs=>hs.2)<|Rt 8 a<|re<|tn<|?_
 have n:=aN b i
 refine cb (((xs.getD k 0)!=(ys.getD k 0))) (fun f=>?_) (fun f=>?_)
 have o:=ay f
 refine az 1<|rt<|br<|tr<|tr<|br<|tr<|rr (.bool false)<|?_
 have hs:decide (xs=ys)=false:=decide_eq_false (vF (d:=0) k (by simpa using f))
 rw[hs]
 exact⟨rfl,n⟩
 have o:=aJ f
 exact sk<|bn<|tn<|go<|Pl 1<|be (((k:Nat) : Int)+1)<|Pl 1<|nl<|ed (k+1) ⟨n,(qQ (d:=0) (by omega) (by omega) l o),(by(try dsimp only);omega)⟩ (by omega)
 have r:=of_decide_eq_false h
 refine xt<|tx<|tx<|bx<|tn<|az 1<|rt<|rr (.bool true)<|?_
 have hs:decide (xs=ys)=true:=decide_eq_true (fs l (by omega) (by omega))
 rw[hs]
 exact⟨rfl,b⟩
theorem hG{m m':Md}{a b:Value}{xs ys:List Int}{w:World}(h1:ez m w a xs)(h2:ez m' w b ys) : Calls Tryz.prog 68 #[a,b] w (bW (.bool (decide (xs=ys))) w):=by
  obtain⟨A,c,rfl,_,_⟩:=h1.shape
  obtain⟨B,d,rfl,_,_⟩:=h2.shape
  exact ka h1 h2
theorem kg{m m':Md}{A B:Option Addr}{c d:Nat}{xs ys:List Bool}{w:World}(h1:iK m w (.slice A xs.length c) xs)(h2:iK m' w (.slice B ys.length d) ys) :
    Calls Tryz.prog 69 #[.slice A xs.length c,.slice B ys.length d] w (bW (.bool (decide (xs=ys))) w):=by
 have hz1:=aI.len h1
 have hz2:=aI.len h2
 refine en 26 Tryz.func69 rfl<|az 1<|sq<|az 5<|cb ((((xs.length:Nat) : Int)!=((ys.length:Nat) : Int))) (fun f=>?_) (fun f=>?_)
 have j:=ay f
 refine az 1<|bj<|rr (.bool false)<|?_
 have hs:decide (xs=ys)=false:=decide_eq_false (fun e=>by rw[e] at j;omega)
 rw[hs]
 exact⟨rfl,(aE.refl [] _)⟩
 have j:=aJ f
 refine bz<|sq<|az 1<|bk<|?_
 refine gw (fun x=>[(0,.slice A xs.length c),(1,.slice B ys.length d),(5,vI ((x:Nat) : Int))]) (fun(x:Nat) w'=>aE [] w w'∧(xs.take x=ys.take x)∧(x≤xs.length)) (fun x=>xs.length-x) 0 ⟨aE.refl _ _,(by(try dsimp only);simp),(by(try dsimp only);omega)⟩ ?_
 rintro k D ⟨b,o,p⟩
 refine f5 [(0,.slice A xs.length c),(1,.slice B ys.length d),(5,vI ((k:Nat) : Int))] ?_
 have l:xs.take k=ys.take k:=o
 have E:k≤xs.length:=p
 refine sq<|az 4<|cb ((decide (((k:Nat) : Int)<((xs.length:Nat) : Int)))) (fun g=>?_) (fun g=>?_)
 have q:=of_decide_eq_true g
 refine bz<|sq<|bk<|sq<|?_
 refine wH (iK.at_ (iK.old h1 b) k (by omega)) fun r s t u=>?_
 refine wH (iK.at_ (iK.old h2 b) k (by omega)) fun v y z C=>Rg 9 (fun w'=>w'.cell? ⟨r,s+k,none⟩=some (.bool (xs.getD k false))∧w'.cell? ⟨v,y+k,none⟩=some (.bool (ys.getD k false))) fun F h=>bA ⟨(uc h u),(uc h C)⟩ fun a=>Rt 0 a<|Rt 1 a<|nG 2 a xs.length k ((k:Nat) : Int) rfl t (by omega)<|Rl 3 a (fun _ hs=>hs.1)<|Rt 4 a<|Rt 5 a<|nG 6 a ys.length k ((k:Nat) : Int) rfl z (by omega)<|Rl 7 a (fun _ hs=>hs.2)<|Rt 8 a<|re<|tn<|?_
 have n:=aN b h
 refine cb (((xs.getD k false)!=(ys.getD k false))) (fun i=>?_) (fun i=>?_)
 refine az 1<|rt<|br<|tr<|tr<|br<|tr<|rr (.bool false)<|?_
 have hs:decide (xs=ys)=false:=decide_eq_false (vF (d:=false) k (by simpa using i))
 rw[hs]
 exact⟨rfl,n⟩
 exact sk<|bn<|tn<|go<|Pl 1<|be (((k:Nat) : Int)+1)<|Pl 1<|nl<|ed (k+1) ⟨n,(qQ (d:=false) (by omega) (by omega) l (by simpa using i)),(by(try dsimp only);omega)⟩ (by omega)
 have q:=of_decide_eq_false g
 refine xt<|tx<|tx<|bx<|tn<|az 1<|rt<|rr (.bool true)<|?_
 have hs:decide (xs=ys)=true:=decide_eq_true (fs l (by omega) (by omega))
 rw[hs]
 exact⟨rfl,b⟩
theorem l5{m m':Md}{a b:Value}{xs ys:List Bool}{w:World}(h1:iK m w a xs)(h2:iK m' w b ys) : Calls Tryz.prog 69 #[a,b] w (bW (.bool (decide (xs=ys))) w):=by
  obtain⟨A,c,rfl,_,_⟩:=h1.shape
  obtain⟨B,d,rfl,_,_⟩:=h2.shape
  exact kg h1 h2
open Go.RowKit
theorem oR{α:Type}{xs ys:List α}{d:α}{k:Nat}(h:xs.take k=ys.take k)(hk:k<xs.length)(hl:xs.length=ys.length)(he:xs.getD k d=ys.getD k d) : xs.take (k+1)=ys.take (k+1):=by
  have hk2:k<ys.length:=by omega
  rw[List.take_succ_eq_append_getElem hk,List.take_succ_eq_append_getElem hk2,h]
  rw[List.getD_eq_getElem?_getD,List.getElem?_eq_getElem hk,List.getD_eq_getElem?_getD,List.getElem?_eq_getElem (by omega)] at he
  simp only[Option.getD_some] at he
  rw[he]
theorem uG{a b:cX}(h:((((!(decide (a.words=b.words)))||(a.file != b.file))||(a.record != b.record))||(a.count != b.count))=false) : a=b:=by
  cases a
  cases b
  simp at h
  simp[h]
theorem vf{a b:Obj}(h:((!(decide (a.value=b.value)))||(a.id != b.id))=false) : a=b:=by
  cases a
  cases b
  simp at h
  simp[h]
theorem sF{a b:Obj}(h:(!(decide (a.value=b.value)))=false)(h2:(a.id != b.id)=false) : a=b:=vf (by rw[h,h2];rfl)
theorem kx{A B:b7}{f:b7→b7→Bool}(h:f A B=true)(hf:∀ M,f M M=false) : decide (A=B)=false:=decide_eq_false fun e=>by rw[e,hf] at h;cases h
theorem tL{A B:b7}(h1:((((((((((((A.code != B.code)||(A.fail != B.fail))||(A.addr != B.addr))||(A.count != B.count))||(A.value != B.value))||(A.and_ != B.and_))||(A.or_ != B.or_))||(A.addr2 != B.addr2))||(A.sub != B.sub))||(A.status != B.status))||(A.events != B.events))||(A.messages != B.messages))=false)(h2:(((((A.mei != B.mei)||(A.kind != B.kind))||(A.level != B.level))||(A.more != B.more))||(A.next != B.next))=false)(h3:(((((!(decide (A.words=B.words)))||(!(decide (A.bits=B.bits))))||(!(decide (A.data=B.data))))||(((A.recs.length:Nat) : Int)!=((B.recs.length:Nat) : Int)))||(((A.objects.length:Nat) : Int)!=((B.objects.length:Nat) : Int)))=false)(hr:A.recs.length=B.recs.length→A.recs=B.recs)(ho:A.objects.length=B.objects.length→A.objects=B.objects) : A=B:=by
  cases A
  cases B
  simp only[Bool.or_eq_false_iff,bne_eq_false_iff_eq,Bool.not_eq_false',decide_eq_true_eq] at h1 h2 h3
  simp only at hr ho
  obtain⟨⟨⟨⟨⟨⟨⟨⟨⟨⟨⟨a1,a2⟩,a3⟩,a4⟩,a5⟩,a6⟩,a7⟩,a8⟩,a9⟩,a⟩,b⟩,c⟩:=h1
  obtain⟨⟨⟨⟨b1,b2⟩,b3⟩,b4⟩,b5⟩:=h2
  obtain⟨⟨⟨⟨d1,d2⟩,d3⟩,d4⟩,d5⟩:=h3
  have d4:=hr (by omega)
  have d5:=ho (by omega)
  subst a1 a2 a3 a4 a5 a6 a7 a8 a9 a b c b1 b2 b3 b4 b5 d1 d2 d3 d4 d5
  rfl
theorem pJ{m m':Md}{pc qc:Array Value}{A B:b7}{w:World}(ha:aU m w pc.toList A)(hb:aU m' w qc.toList B) :
    Calls Tryz.prog 40 #[.agg pc,.agg qc] w (bW (.bool (decide (A=B))) w):=by
 have pM:=ha
 obtain⟨pvw,pvb,pvd,pvr,pvo,ph0,phw,phb,phd,phr,pho,pR⟩:=ha
 obtain rfl:pc=(fl A pvw pvb pvd pvr pvo).toArray:=by apply Array.toList_inj.1;simpa using ph0
 clear ph0
 obtain⟨pw,pkw,rfl,_,_⟩:=phw.shape
 obtain⟨pb,pkb,rfl,_,_⟩:=phb.shape
 obtain⟨pd,pkd,rfl,_,_⟩:=phd.shape
 obtain⟨pr,pkr,rfl,_,_⟩:=phr.shape
 obtain⟨po,pko,rfl,_,_⟩:=pho.shape
 have qM:=hb
 obtain⟨qvw,qvb,qvd,qvr,qvo,qh0,qhw,qhb,qhd,qhr,qho,qR⟩:=hb
 obtain rfl:qc=(fl B qvw qvb qvd qvr qvo).toArray:=by apply Array.toList_inj.1;simpa using qh0
 clear qh0
 obtain⟨qw,qkw,rfl,_,_⟩:=qhw.shape
 obtain⟨qb,qkb,rfl,_,_⟩:=qhb.shape
 obtain⟨qd,qkd,rfl,_,_⟩:=qhd.shape
 obtain⟨qr,qkr,rfl,_,_⟩:=qhr.shape
 obtain⟨qo,qko,rfl,_,_⟩:=qho.shape
 have hz1:=aI.len phr
 have hz2:=aI.len pho
 refine en 254 Tryz.func40 rfl<|sg<|L0<|dF (mG A.code A.fail A.addr A.count A.value A.and_ A.or_ A.addr2 A.sub A.status A.events A.messages (.slice pw A.words.length pkw) (.slice pb A.bits.length pkb) (.slice pd A.data.length pkd) (.slice pr A.recs.length pkr) A.mei A.kind A.level A.more A.next (.slice po A.objects.length pko)) fun i cE cF ba bb=>L0<|dF (mG B.code B.fail B.addr B.count B.value B.and_ B.or_ B.addr2 B.sub B.status B.events B.messages (.slice qw B.words.length qkw) (.slice qb B.bits.length qkb) (.slice qd B.data.length qkd) (.slice qr B.recs.length qkr) B.mei B.kind B.level B.more B.next (.slice qo B.objects.length qko)) fun l cG cH b aa=>ap 1<|sq<|aq 1<|?_
 have c:=ub aa ba
 refine aH c 0<|Pl 1<|aH b 0<|Pl 2<|ea 6 [19] 25 19 (A.code != B.code) (A.fail != B.fail) (fun K bc bd=>?_) ?_
 have cI:=aJ bd
 exact Pl 1<|L1<|cS c 1<|Pl 1<|L1<|cS b 1<|Pl 2<|ce bc _ rfl
 refine Pl 1<|ea 6 [26] 32 26 ((A.code != B.code)||(A.fail != B.fail)) (A.addr != B.addr) (fun K bf cJ=>?_) ?_
 exact Pl 1<|L1<|cS c 2<|Pl 1<|L1<|cS b 2<|Pl 2<|ce bf _ rfl
 refine Pl 1<|ea 6 [33] 39 33 (((A.code != B.code)||(A.fail != B.fail))||(A.addr != B.addr)) (A.count != B.count) (fun K bg cK=>?_) ?_
 exact Pl 1<|L1<|cS c 3<|Pl 1<|L1<|cS b 3<|Pl 2<|ce bg _ rfl
 refine Pl 1<|ea 6 [40] 46 40 ((((A.code != B.code)||(A.fail != B.fail))||(A.addr != B.addr))||(A.count != B.count)) (A.value != B.value) (fun K bh cL=>?_) ?_
 exact Pl 1<|L1<|cS c 4<|Pl 1<|L1<|cS b 4<|Pl 2<|ce bh _ rfl
 refine Pl 1<|ea 6 [47] 53 47 (((((A.code != B.code)||(A.fail != B.fail))||(A.addr != B.addr))||(A.count != B.count))||(A.value != B.value)) (A.and_ != B.and_) (fun K bi cM=>?_) ?_
 exact Pl 1<|L1<|cS c 5<|Pl 1<|L1<|cS b 5<|Pl 2<|ce bi _ rfl
 refine Pl 1<|ea 6 [54] 60 54 ((((((A.code != B.code)||(A.fail != B.fail))||(A.addr != B.addr))||(A.count != B.count))||(A.value != B.value))||(A.and_ != B.and_)) (A.or_ != B.or_) (fun K bm cN=>?_) ?_
 exact Pl 1<|L1<|cS c 6<|Pl 1<|L1<|cS b 6<|Pl 2<|ce bm _ rfl
 refine Pl 1<|ea 6 [61] 67 61 (((((((A.code != B.code)||(A.fail != B.fail))||(A.addr != B.addr))||(A.count != B.count))||(A.value != B.value))||(A.and_ != B.and_))||(A.or_ != B.or_)) (A.addr2 != B.addr2) (fun K bo cO=>?_) ?_
 exact Pl 1<|L1<|cS c 7<|Pl 1<|L1<|cS b 7<|Pl 2<|ce bo _ rfl
 refine Pl 1<|ea 6 [68] 74 68 ((((((((A.code != B.code)||(A.fail != B.fail))||(A.addr != B.addr))||(A.count != B.count))||(A.value != B.value))||(A.and_ != B.and_))||(A.or_ != B.or_))||(A.addr2 != B.addr2)) (A.sub != B.sub) (fun K bp cP=>?_) ?_
 exact Pl 1<|L1<|cS c 8<|Pl 1<|L1<|cS b 8<|Pl 2<|ce bp _ rfl
 refine Pl 1<|ea 6 [75] 81 75 (((((((((A.code != B.code)||(A.fail != B.fail))||(A.addr != B.addr))||(A.count != B.count))||(A.value != B.value))||(A.and_ != B.and_))||(A.or_ != B.or_))||(A.addr2 != B.addr2))||(A.sub != B.sub)) (A.status != B.status) (fun K bq cQ=>?_) ?_
 exact Pl 1<|L1<|cS c 9<|Pl 1<|L1<|cS b 9<|Pl 2<|ce bq _ rfl
 refine Pl 1<|ea 6 [82] 88 82 ((((((((((A.code != B.code)||(A.fail != B.fail))||(A.addr != B.addr))||(A.count != B.count))||(A.value != B.value))||(A.and_ != B.and_))||(A.or_ != B.or_))||(A.addr2 != B.addr2))||(A.sub != B.sub))||(A.status != B.status)) (A.events != B.events) (fun K bs cR=>?_) ?_
 exact Pl 1<|L1<|cS c 10<|Pl 1<|L1<|cS b 10<|Pl 2<|ce bs _ rfl
 refine Pl 1<|ea 6 [89] 95 89 (((((((((((A.code != B.code)||(A.fail != B.fail))||(A.addr != B.addr))||(A.count != B.count))||(A.value != B.value))||(A.and_ != B.and_))||(A.or_ != B.or_))||(A.addr2 != B.addr2))||(A.sub != B.sub))||(A.status != B.status))||(A.events != B.events)) (A.messages != B.messages) (fun K bt cT=>?_) ?_
 exact Pl 1<|L1<|cS c 11<|Pl 1<|L1<|cS b 11<|Pl 2<|ce bt _ rfl
 refine nt<|?_
 have q:=aN bb aa
 refine cb (((((((((((((A.code != B.code)||(A.fail != B.fail))||(A.addr != B.addr))||(A.count != B.count))||(A.value != B.value))||(A.and_ != B.and_))||(A.or_ != B.or_))||(A.addr2 != B.addr2))||(A.sub != B.sub))||(A.status != B.status))||(A.events != B.events))||(A.messages != B.messages))) (fun O=>?_) (fun O=>?_)
 refine az 1<|bj<|rr (.bool false)<|?_
 have hs:decide (A=B)=false:=kx (f:=fun x y=>((((((((((((x.code != y.code)||(x.fail != y.fail))||(x.addr != y.addr))||(x.count != y.count))||(x.value != y.value))||(x.and_ != y.and_))||(x.or_ != y.or_))||(x.addr2 != y.addr2))||(x.sub != y.sub))||(x.status != y.status))||(x.events != y.events))||(x.messages != y.messages))) O (fun M=>by simp)
 rw[hs]
 exact⟨rfl,q⟩
 refine bz<|sq<|aq 1<|aH c 16<|Pl 1<|aH b 16<|Pl 2<|ea 6 [101] 107 101 (A.mei != B.mei) (A.kind != B.kind) (fun K bu bv=>?_) ?_
 have cU:=aJ bv
 exact Pl 1<|L1<|cS c 17<|Pl 1<|L1<|cS b 17<|Pl 2<|ce bu _ rfl
 refine Pl 1<|ea 6 [108] 114 108 ((A.mei != B.mei)||(A.kind != B.kind)) (A.level != B.level) (fun K bw cV=>?_) ?_
 exact Pl 1<|L1<|cS c 18<|Pl 1<|L1<|cS b 18<|Pl 2<|ce bw _ rfl
 refine Pl 1<|ea 6 [115] 121 115 (((A.mei != B.mei)||(A.kind != B.kind))||(A.level != B.level)) (A.more != B.more) (fun K bB cW=>?_) ?_
 exact Pl 1<|L1<|cS c 19<|Pl 1<|L1<|cS b 19<|Pl 2<|ce bB _ rfl
 refine Pl 1<|ea 6 [122] 128 122 ((((A.mei != B.mei)||(A.kind != B.kind))||(A.level != B.level))||(A.more != B.more)) (A.next != B.next) (fun K bC cX=>?_) ?_
 exact Pl 1<|L1<|cS c 20<|Pl 1<|L1<|cS b 20<|Pl 2<|ce bC _ rfl
 refine nt<|cb ((((((A.mei != B.mei)||(A.kind != B.kind))||(A.level != B.level))||(A.more != B.more))||(A.next != B.next))) (fun P=>?_) (fun P=>?_)
 refine az 1<|bj<|rr (.bool false)<|?_
 have hs:decide (A=B)=false:=kx (f:=fun x y=>(((((x.mei != y.mei)||(x.kind != y.kind))||(x.level != y.level))||(x.more != y.more))||(x.next != y.next))) P (fun M=>by simp)
 rw[hs]
 exact⟨rfl,q⟩
 refine bz<|aq 1<|aH c 12<|Pl 1<|aH b 12<|?_
 refine ax<|m1 (hG (ez.old phw q) (ez.old qhw q)) fun cY Q=>Pl 1<|aL 1<|?_
 have ab:=ub Q c
 refine aH ab 13<|Pl 1<|?_
 have ac:=ub Q b
 refine aH ac 13<|?_
 have R:=aN q Q
 refine ax<|m1 (l5 (iK.old phb R) (iK.old qhb R)) fun cZ S=>Pl 1<|aL 1<|?_
 have E:=ub S ab
 refine aH E 14<|Pl 1<|?_
 have r:=ub S ac
 refine aH r 14<|?_
 have T:=aN R S
 refine ax<|m1 (kK (aX.old phd T) (aX.old qhd T)) fun bD n=>ap 1<|sq<|aq 3<|cu 3 [146] 149 (((!(decide (A.words=B.words)))||(!(decide (A.bits=B.bits))))) (fun K ad=>?_) ?_
 refine bl 146 ((!(decide (A.words=B.words)))) (fun s=>?_) (fun s=>?_)
 have U:(decide (A.words=B.words))=false:=by simpa using s
 have bE:=of_decide_eq_false U
 exact Pl 3<|ce ad true (by rw[s];rfl)
 have U:(decide (A.words=B.words))=true:=by simpa using s
 have bE:=of_decide_eq_true U
 exact Pl 3<|ce ad (!(decide (A.bits=B.bits))) (by rw[s];rfl)
 refine Pl 1<|ea 3 [150] 153 150 ((!(decide (A.words=B.words)))||(!(decide (A.bits=B.bits)))) (!(decide (A.data=B.data))) (fun K bF ae=>?_) ?_
 have bG:=(ci ae).1
 have bH:=(ci ae).2
 have bI:(decide (A.words=B.words))=true:=by simpa using bG
 have q74anp:=of_decide_eq_true bI
 have bJ:(decide (A.bits=B.bits))=true:=by simpa using bH
 have q74bnp:=of_decide_eq_true bJ
 exact Pl 3<|ce bF _ rfl
 refine Pl 1<|ea 8 [154] 162 154 (((!(decide (A.words=B.words)))||(!(decide (A.bits=B.bits))))||(!(decide (A.data=B.data)))) (((A.recs.length:Nat) : Int)!=((B.recs.length:Nat) : Int)) (fun K bK af=>?_) ?_
 have ag:=(ci af).1
 have bL:=(ci af).2
 have bM:=(ci ag).1
 have bN:=(ci ag).2
 have q76aan:(decide (A.words=B.words))=true:=by simpa using bM
 have q76aanp:=of_decide_eq_true q76aan
 have q76abn:(decide (A.bits=B.bits))=true:=by simpa using bN
 have q76abnp:=of_decide_eq_true q76abn
 have bO:(decide (A.data=B.data))=true:=by simpa using bL
 have q76bnp:=of_decide_eq_true bO
 refine Pl 1<|?_
 refine L1<|cS (ub n E) 15<|Pl 2<|?_
 exact L1<|cS (ub n r) 15<|Pl 3<|ce bK _ rfl
 refine Pl 1<|ea 8 [163] 171 163 ((((!(decide (A.words=B.words)))||(!(decide (A.bits=B.bits))))||(!(decide (A.data=B.data))))||(((A.recs.length:Nat) : Int)!=((B.recs.length:Nat) : Int))) (((A.objects.length:Nat) : Int)!=((B.objects.length:Nat) : Int)) (fun K bP ah=>?_) ?_
 have ai:=(ci ah).1
 have bQ:=(ci ah).2
 have aj:=(ci ai).1
 have bR:=(ci ai).2
 have q80aaa:=(ci aj).1
 have q80aab:=(ci aj).2
 have q80aaan:(decide (A.words=B.words))=true:=by simpa using q80aaa
 have q80aaanp:=of_decide_eq_true q80aaan
 have q80aabn:(decide (A.bits=B.bits))=true:=by simpa using q80aab
 have q80aabnp:=of_decide_eq_true q80aabn
 have q80abn:(decide (A.data=B.data))=true:=by simpa using bR
 have q80abnp:=of_decide_eq_true q80abn
 have d0:=aJ bQ
 refine Pl 1<|?_
 refine L1<|cS (ub n E) 21<|Pl 2<|?_
 exact L1<|cS (ub n r) 21<|Pl 3<|ce bP _ rfl
 refine nt<|?_
 have ak:=aN T n
 refine cb ((((((!(decide (A.words=B.words)))||(!(decide (A.bits=B.bits))))||(!(decide (A.data=B.data))))||(((A.recs.length:Nat) : Int)!=((B.recs.length:Nat) : Int)))||(((A.objects.length:Nat) : Int)!=((B.objects.length:Nat) : Int)))) (fun t=>?_) (fun t=>?_)
 refine az 1<|bj<|rr (.bool false)<|?_
 have hs:decide (A=B)=false:=kx (f:=fun x y=>(((((!(decide (x.words=y.words)))||(!(decide (x.bits=y.bits))))||(!(decide (x.data=y.data))))||(((x.recs.length:Nat) : Int)!=((y.recs.length:Nat) : Int)))||(((x.objects.length:Nat) : Int)!=((y.objects.length:Nat) : Int)))) t (fun M=>by simp)
 rw[hs]
 exact⟨rfl,ak⟩
 have al:=(ci t).1
 have bS:=(ci t).2
 have an:=(ci al).1
 have bT:=(ci al).2
 have q85aaa:=(ci an).1
 have q85aab:=(ci an).2
 have q85aaaa:=(ci q85aaa).1
 have q85aaab:=(ci q85aaa).2
 have q85aaaan:(decide (A.words=B.words))=true:=by simpa using q85aaaa
 have q85aaaanp:=of_decide_eq_true q85aaaan
 have q85aaabn:(decide (A.bits=B.bits))=true:=by simpa using q85aaab
 have q85aaabnp:=of_decide_eq_true q85aaabn
 have q85aabn:(decide (A.data=B.data))=true:=by simpa using q85aab
 have q85aabnp:=of_decide_eq_true q85aabn
 have q85abp:=aJ bT
 have d1:=aJ bS
 refine bz<|sq<|az 1<|bk<|?_
 refine gw (fun x=>[(2,vP i 0),(3,vP l 0),(8,vI ((x:Nat) : Int))]) (fun(x:Nat) w'=>aE [] bD w'∧(A.recs.take x=B.recs.take x)∧(x≤A.recs.length)) (fun x=>A.recs.length-x) 0 ⟨aE.refl _ _,(by(try dsimp only);simp),(by(try dsimp only);omega)⟩ ?_
 rintro j bU ⟨F,bV,bX⟩
 refine f5 [(2,vP i 0),(3,vP l 0),(8,vI ((j:Nat) : Int))] ?_
 have ao:A.recs.take j=B.recs.take j:=bV
 have d2:j≤A.recs.length:=bX
 refine sq<|aq 2<|?_
 have G:=aN n F
 have V:=ub G E
 refine aH V 15<|ap 2<|?_
 have H:=aN ak F
 refine cb ((decide (((j:Nat) : Int)<((A.recs.length:Nat) : Int)))) (fun W=>?_) (fun W=>?_)
 have bY:=of_decide_eq_true W
 refine bz<|sq<|bk<|aq 1<|aH V 15<|Pl 1<|lK (oD.elt phr j (by omega)) fun d3 d4 d5 d6 d7 ar au bZ c0 c2 d8 c3=>L0<|pl 4 A.recs.length j bZ (by omega)<|?_
 refine L0<|xw [vW ((A.recs.getD j ⟨0,0,0,[]⟩).file),vW ((A.recs.getD j ⟨0,0,0,[]⟩).record),vW ((A.recs.getD j ⟨0,0,0,[]⟩).count),.slice ar ((A.recs.getD j ⟨0,0,0,[]⟩).words.length) au] (ub H c0) c3<|aK #[vW 0,vW 0,vW 0,nS] fun d9 da X c4 Y=>aD c4 #[vW ((A.recs.getD j ⟨0,0,0,[]⟩).file),vW ((A.recs.getD j ⟨0,0,0,[]⟩).record),vW ((A.recs.getD j ⟨0,0,0,[]⟩).count),.slice ar ((A.recs.getD j ⟨0,0,0,[]⟩).words.length) au] fun db c5 Z=>aL 1<|?_
 refine aH (ub (u1 (aN G Y) Z (ni G.size X)) r) 15<|Pl 1<|lK (oD.elt qhr j (by omega)) fun dc dd de df dg av aw c6 c7 c8 dh c9=>L0<|pl 4 B.recs.length j c6 (by omega)<|?_
 have a0:=u1 (aN H Y) Z (ni H.size X)
 refine L0<|xw [vW ((B.recs.getD j ⟨0,0,0,[]⟩).file),vW ((B.recs.getD j ⟨0,0,0,[]⟩).record),vW ((B.recs.getD j ⟨0,0,0,[]⟩).count),.slice av ((B.recs.getD j ⟨0,0,0,[]⟩).words.length) aw] (ub a0 c7) c9<|aK #[vW 0,vW 0,vW 0,nS] fun di dj a1 ca a2=>aD ca #[vW ((B.recs.getD j ⟨0,0,0,[]⟩).file),vW ((B.recs.getD j ⟨0,0,0,[]⟩).record),vW ((B.recs.getD j ⟨0,0,0,[]⟩).count),.slice av ((B.recs.getD j ⟨0,0,0,[]⟩).words.length) aw] fun dk I a3=>aL 1<|?_
 have J:=ub (u1 a2 a3 (nr a1)) c5
 refine aH J 3<|Pl 1<|aH I 3<|?_
 have a4:=u1 (aN a0 a2) a3 (ni a0.size a1)
 refine ax<|m1 (hG (ez.old c2 a4) (ez.old c8 a4)) fun dl h=>Pl 1<|aL 3<|cu 6 [196] 202 (((!(decide ((A.recs.getD j ⟨0,0,0,[]⟩).words=(B.recs.getD j ⟨0,0,0,[]⟩).words)))||(((A.recs.getD j ⟨0,0,0,[]⟩).file)!=((B.recs.getD j ⟨0,0,0,[]⟩).file)))) (fun K aA=>?_) ?_
 refine bl 196 ((!(decide ((A.recs.getD j ⟨0,0,0,[]⟩).words=(B.recs.getD j ⟨0,0,0,[]⟩).words)))) (fun u=>?_) (fun u=>?_)
 have a5:(decide ((A.recs.getD j ⟨0,0,0,[]⟩).words=(B.recs.getD j ⟨0,0,0,[]⟩).words))=false:=by simpa using u
 have cc:=of_decide_eq_false a5
 exact Pl 6<|ce aA true (by rw[u];rfl)
 have a5:(decide ((A.recs.getD j ⟨0,0,0,[]⟩).words=(B.recs.getD j ⟨0,0,0,[]⟩).words))=true:=by simpa using u
 have cc:=of_decide_eq_true a5
 refine Pl 1<|?_
 refine L1<|cS (ub h J) 0<|Pl 1<|?_
 exact L1<|cS (ub h I) 0<|Pl 2<|ce aA (((A.recs.getD j ⟨0,0,0,[]⟩).file)!=((B.recs.getD j ⟨0,0,0,[]⟩).file)) (by rw[u];rfl)
 refine Pl 1<|ea 6 [203] 209 203 ((!(decide ((A.recs.getD j ⟨0,0,0,[]⟩).words=(B.recs.getD j ⟨0,0,0,[]⟩).words)))||(((A.recs.getD j ⟨0,0,0,[]⟩).file)!=((B.recs.getD j ⟨0,0,0,[]⟩).file))) (((A.recs.getD j ⟨0,0,0,[]⟩).record)!=((B.recs.getD j ⟨0,0,0,[]⟩).record)) (fun K cd aB=>?_) ?_
 have cf:=(ci aB).1
 have cg:=(ci aB).2
 have ch:(decide ((A.recs.getD j ⟨0,0,0,[]⟩).words=(B.recs.getD j ⟨0,0,0,[]⟩).words))=true:=by simpa using cf
 have q156anp:=of_decide_eq_true ch
 have dm:=aJ cg
 refine Pl 1<|?_
 refine L1<|cS (ub h J) 1<|Pl 1<|?_
 exact L1<|cS (ub h I) 1<|Pl 2<|ce cd _ rfl
 refine Pl 1<|ea 6 [210] 216 210 (((!(decide ((A.recs.getD j ⟨0,0,0,[]⟩).words=(B.recs.getD j ⟨0,0,0,[]⟩).words)))||(((A.recs.getD j ⟨0,0,0,[]⟩).file)!=((B.recs.getD j ⟨0,0,0,[]⟩).file)))||(((A.recs.getD j ⟨0,0,0,[]⟩).record)!=((B.recs.getD j ⟨0,0,0,[]⟩).record))) (((A.recs.getD j ⟨0,0,0,[]⟩).count)!=((B.recs.getD j ⟨0,0,0,[]⟩).count)) (fun K cj aC=>?_) ?_
 have aF:=(ci aC).1
 have ck:=(ci aC).2
 have cl:=(ci aF).1
 have cm:=(ci aF).2
 have q160aan:(decide ((A.recs.getD j ⟨0,0,0,[]⟩).words=(B.recs.getD j ⟨0,0,0,[]⟩).words))=true:=by simpa using cl
 have q160aanp:=of_decide_eq_true q160aan
 have q160abp:=aJ cm
 have dn:=aJ ck
 refine Pl 1<|?_
 refine L1<|cS (ub h J) 2<|Pl 1<|?_
 exact L1<|cS (ub h I) 2<|Pl 2<|ce cj _ rfl
 refine nt<|?_
 refine cb (((((!(decide ((A.recs.getD j ⟨0,0,0,[]⟩).words=(B.recs.getD j ⟨0,0,0,[]⟩).words)))||(((A.recs.getD j ⟨0,0,0,[]⟩).file)!=((B.recs.getD j ⟨0,0,0,[]⟩).file)))||(((A.recs.getD j ⟨0,0,0,[]⟩).record)!=((B.recs.getD j ⟨0,0,0,[]⟩).record)))||(((A.recs.getD j ⟨0,0,0,[]⟩).count)!=((B.recs.getD j ⟨0,0,0,[]⟩).count)))) (fun v=>?_) (fun v=>?_)
 refine az 1<|rt<|br<|tr<|tr<|br<|tr<|rr (.bool false)<|?_
 have hs:decide (A=B)=false:=kx (f:=fun x y=>((((!(decide ((x.recs.getD j ⟨0,0,0,[]⟩).words=(y.recs.getD j ⟨0,0,0,[]⟩).words)))||(((x.recs.getD j ⟨0,0,0,[]⟩).file)!=((y.recs.getD j ⟨0,0,0,[]⟩).file)))||(((x.recs.getD j ⟨0,0,0,[]⟩).record)!=((y.recs.getD j ⟨0,0,0,[]⟩).record)))||(((x.recs.getD j ⟨0,0,0,[]⟩).count)!=((y.recs.getD j ⟨0,0,0,[]⟩).count)))) v (fun M=>by simp)
 rw[hs]
 exact⟨rfl,(aN a4 h)⟩
 have aG:=(ci v).1
 have cn:=(ci v).2
 have aM:=(ci aG).1
 have co:=(ci aG).2
 have q165aaa:=(ci aM).1
 have q165aab:=(ci aM).2
 have q165aaan:(decide ((A.recs.getD j ⟨0,0,0,[]⟩).words=(B.recs.getD j ⟨0,0,0,[]⟩).words))=true:=by simpa using q165aaa
 have q165aaanp:=of_decide_eq_true q165aaan
 have q165aabp:=aJ q165aab
 have q165abp:=aJ co
 have dp:=aJ cn
 refine sk<|bn<|tn<|go<|Pl 1<|be (((j:Nat) : Int)+1)<|Pl 1<|nl<|?_
 have aO:=u1 (aN F Y) Z (ni F.size X)
 exact ed (j+1) ⟨(aN (u1 (aN aO a2) a3 (ni aO.size a1)) h),(oR (d:=⟨0,0,0,[]⟩) ao (by omega) (by omega) (uG v)),(by(try dsimp only);omega)⟩ (by omega)
 have bY:=of_decide_eq_false W
 refine xt<|tx<|tx<|bx<|tn<|sq<|az 1<|bk<|?_
 refine gw (fun x=>[(2,vP i 0),(3,vP l 0),(12,vI ((x:Nat) : Int))]) (fun(x:Nat) w'=>aE [] bU w'∧(A.objects.take x=B.objects.take x)∧(x≤A.objects.length)) (fun x=>A.objects.length-x) 0 ⟨aE.refl _ _,(by(try dsimp only);simp),(by(try dsimp only);omega)⟩ ?_
 rintro k dq ⟨L,cp,cq⟩
 refine f5 [(2,vP i 0),(3,vP l 0),(12,vI ((k:Nat) : Int))] ?_
 have aP:A.objects.take k=B.objects.take k:=cp
 have dr:k≤A.objects.length:=cq
 refine sq<|aq 2<|?_
 have aQ:=ub L V
 refine aH aQ 21<|ap 2<|?_
 have aR:=aN H L
 refine cb ((decide (((k:Nat) : Int)<((A.objects.length:Nat) : Int)))) (fun a6=>?_) (fun a6=>?_)
 have cr:=of_decide_eq_true a6
 refine bz<|sq<|bk<|sq<|lK (qp.elt pho k (by omega)) fun aS aT ds dt du cs ct aV cv cw dv a7=>lK (qp.elt qho k (by omega)) fun aW aY dw dx dy cx cy aZ cz cA dz a8=>Rg 14 (fun w'=>w'.cell? ⟨i,21,none⟩=some (.slice po A.objects.length pko)∧w'.cell? ⟨aS,aT+k*2+1,none⟩=some (.slice cs ((A.objects.getD k ⟨0,[]⟩).value.length) ct)∧w'.cell? ⟨l,21,none⟩=some (.slice qo B.objects.length qko)∧w'.cell? ⟨aW,aY+k*2+1,none⟩=some (.slice cx ((B.objects.getD k ⟨0,[]⟩).value.length) cy)) fun dA N=>?_
 have b0:=ub N aQ
 have z:=aN aR N
 have b1:=ub z cv
 have b2:=ub (aN (aN G L) N) r
 have b3:=ub z cz
 refine bA ⟨(am b0 rfl),(gt b1 a7 1 rfl (by decide)),(am b2 rfl),(gt b3 a8 1 rfl (by decide))⟩ fun g=>Rt 0 g<|Rl 1 g (fun _ hs=>hs.1)<|Rt 2 g<|Ri 3 g 2 A.objects.length k ((k:Nat) : Int) rfl aV (by omega)<|Rt 4 g<|Rl 5 g (fun _ hs=>hs.2.1)<|Rt 6 g<|Rl 7 g (fun _ hs=>hs.2.2.1)<|Rt 8 g<|Ri 9 g 2 B.objects.length k ((k:Nat) : Int) rfl aZ (by omega)<|Rt 10 g<|Rl 11 g (fun _ hs=>hs.2.2.2)<|?_
 refine R0 12 rfl<|Oc<|m1 (kK (aX.old cw z) (aX.old cA z)) fun dB o=>?_
 have b4:=ub o b0
 have b5:=ub o b1
 have b6:=ub o b2
 have b8:=ub o b3
 refine bA ⟨(am b4 rfl),(gt b5 a7 1 rfl (by decide)),(am b6 rfl),(gt b8 a8 1 rfl (by decide))⟩ fun cB=>Rt 13 cB<|re<|tn<|sq<|Rg 17 (fun w'=>w'.cell? ⟨i,21,none⟩=some (.slice po A.objects.length pko)∧w'.cell? ⟨aS,aT+k*2+0,none⟩=some (vB ((A.objects.getD k ⟨0,[]⟩).id))∧w'.cell? ⟨l,21,none⟩=some (.slice qo B.objects.length qko)∧w'.cell? ⟨aW,aY+k*2+0,none⟩=some (vB ((B.objects.getD k ⟨0,[]⟩).id))) fun dC p=>?_
 refine bA ⟨(am (ub p b4) rfl),(gt (ub p b5) a7 0 rfl (by decide)),(am (ub p b6) rfl),(gt (ub p b8) a8 0 rfl (by decide))⟩ fun a=>Rt 0 a<|Rt 1 a<|Rt 2 a<|?_
 have b9:=aN (aN z o) p
 refine vq 239 ((!(decide ((A.objects.getD k ⟨0,[]⟩).value=(B.objects.getD k ⟨0,[]⟩).value)))) (fun C=>?_) (fun C=>?_)
 have a9:(decide ((A.objects.getD k ⟨0,[]⟩).value=(B.objects.getD k ⟨0,[]⟩).value))=false:=by simpa using C
 have cC:=of_decide_eq_false a9
 refine Ro 3 a<|Ro 4 a<|Ro 5 a<|Ro 6 a<|Ro 7 a<|Ro 8 a<|Ro 9 a<|Ro 10 a<|Ro 11 a<|Ro 12 a<|Ro 13 a<|Ro 14 a<|Ro 15 a<|Rt 16 a<|?_
 refine re<|tn<|c1<|az 1<|rt<|br<|tr<|tr<|br<|tr<|?_
 refine rr (.bool false)<|?_
 have hs:decide (A=B)=false:=kx (f:=fun x y=>(!(decide ((x.objects.getD k ⟨0,[]⟩).value=(y.objects.getD k ⟨0,[]⟩).value)))) C (fun M=>by simp)
 rw[hs]
 exact⟨rfl,b9⟩
 have a9:(decide ((A.objects.getD k ⟨0,[]⟩).value=(B.objects.getD k ⟨0,[]⟩).value))=true:=by simpa using C
 have cC:=of_decide_eq_true a9
 refine Rt 3 a<|Rl 4 a (fun _ hs=>hs.1)<|Rt 5 a<|Ri 6 a 2 A.objects.length k ((k:Nat) : Int) rfl aV (by omega)<|Rt 7 a<|Rl 8 a (fun _ hs=>hs.2.1)<|Rt 9 a<|Rl 10 a (fun _ hs=>hs.2.2.1)<|Rt 11 a<|Ri 12 a 2 B.objects.length k ((k:Nat) : Int) rfl aZ (by omega)<|Rt 13 a<|Rl 14 a (fun _ hs=>hs.2.2.2)<|Rt 15 a<|Rt 16 a<|?_
 refine re<|tn<|cb ((((A.objects.getD k ⟨0,[]⟩).id)!=((B.objects.getD k ⟨0,[]⟩).id))) (fun D=>?_) (fun D=>?_)
 have cD:=ay D
 refine az 1<|rt<|br<|tr<|tr<|br<|tr<|rr (.bool false)<|?_
 have hs:decide (A=B)=false:=kx (f:=fun x y=>(((x.objects.getD k ⟨0,[]⟩).id)!=((y.objects.getD k ⟨0,[]⟩).id))) D (fun M=>by simp)
 rw[hs]
 exact⟨rfl,b9⟩
 have cD:=aJ D
 refine sk<|bn<|tn<|go<|Pl 1<|be (((k:Nat) : Int)+1)<|Pl 1<|nl<|?_
 exact ed (k+1) ⟨(aN (aN (aN L N) o) p),(oR (d:=⟨0,[]⟩) aP (by omega) (by omega) (sF C D)),(by(try dsimp only);omega)⟩ (by omega)
 have cr:=of_decide_eq_false a6
 refine xt<|tx<|tx<|bx<|tn<|az 1<|rt<|rr (.bool true)<|?_
 have hs:decide (A=B)=true:=decide_eq_true (tL O P t (fun e=>fs ao (by omega) e) (fun e=>fs aP (by omega) e))
 rw[hs]
 exact⟨rfl,aR⟩
open Go.RowKit
deriving instance DecidableEq for Ev
theorem kD(A B:Ev) : (((A.e==B.e)&&((A.f.unit==B.f.unit)&&(A.f.tid==B.f.tid)))&&decide (A.f.msg=B.f.msg))=decide (A=B):=by
  rw[Bool.eq_iff_iff]
  simp only[Bool.and_eq_true,beq_iff_eq,decide_eq_true_eq]
  obtain⟨e,u,t,M⟩:=A
  obtain⟨e2,u2,t2,M2⟩:=B
  simp only[Ev.mk.injEq,cE.mk.injEq]
  constructor
  · rintro⟨⟨h1,h2,h3⟩,h4⟩;exact⟨h1,h2,h3,h4⟩
  · rintro⟨h1,h2,h3,h4⟩;exact⟨⟨h1,h2,h3⟩,h4⟩
theorem uU{xs ys:List Ev}{k:Nat}(hk:k<xs.length)(hl:xs.length=ys.length)(h:xs.take k=ys.take k)(he:xs.getD k (Ev.bad 0)=ys.getD k (Ev.bad 0)) : xs.take (k+1)=ys.take (k+1):=by
  exact qQ hl hk h he
theorem ul{xs ys:List Ev}{k:Nat}(h:xs.take k=ys.take k)(h1:k=xs.length)(h2:xs.length=ys.length) : decide (xs=ys)=true:=by
  rw[List.take_of_length_le (by omega),List.take_of_length_le (by omega)] at h
  exact decide_eq_true h
theorem w3{xs ys:List Ev}(k:Nat)(h:decide (xs.getD k (Ev.bad 0)=ys.getD k (Ev.bad 0))=false) : decide (xs=ys)=false:=by
  rw[decide_eq_false_iff_not] at h ⊢
  exact fun e=>h (by rw[e])
theorem nT{m m':Md}{A B:Ev}{sA sB:SL}{w:World}(hA:aU m w (mJ A.f.msg sA).toList A.f.msg)(hB:aU m' w (mJ B.f.msg sB).toList B.f.msg) : Calls Tryz.prog 54 #[.agg (nP A sA),.agg (nP B sB)] w (bW (.bool (decide (A=B))) w):=by
 refine en 28 Tryz.func54 rfl<|sg<|L0<|dF (nP ⟨A.e,A.f⟩ sA) fun s t u o p=>L0<|dF (nP ⟨B.e,B.f⟩ sB) fun v x y d i=>Pl 1<|ng<|Pl 1<|?_
 have g:=ub i o
 refine L0<|cS g 0<|Pl 1<|L0<|cS d 0<|Pl 2<|cu 8 [10] 18 (((A.e==B.e)&&((A.f.unit==B.f.unit)&&(A.f.tid==B.f.tid)))) (fun K j=>?_) ?_
 refine bl 10 ((A.e==B.e)) (fun a=>?_) (fun a=>?_)
 have q:=ak a
 exact Pl 2<|L1<|wm g 1 2<|Pl 2<|L1<|wm d 1 2<|L1<|gy (.bool ((A.f.unit==B.f.unit)&&(A.f.tid==B.f.tid))) (oo A.f.unit A.f.tid B.f.unit B.f.tid rfl (by kernel_rfl) (by kernel_rfl) rfl)<|Pl 1<|ce j ((A.f.unit==B.f.unit)&&(A.f.tid==B.f.tid)) (by rw[a];rfl)
 have q:=au a
 exact Pl 8<|ce j false (by rw[a];rfl)
 refine Pl 1<|?_
 have c:=aN p i
 refine bl 19 (((A.e==B.e)&&((A.f.unit==B.f.unit)&&(A.f.tid==B.f.tid)))) (fun b=>?_) (fun b=>?_)
 have k:=(aS b).1
 have h:=(aS b).2
 have z:=ak k
 have l:=(aS h).1
 have n:=(aS h).2
 have q24bap:=ak l
 have q24bbp:=ak n
 refine Pl 2<|L1<|wm g 3 22<|Pl 2<|L1<|wm d 3 22<|?_
 refine L1<|Oc<|m1 (pJ (aU.old hA c) (aU.old hB c)) fun C r=>Pl 2<|nt<|rt<|rr (.bool (decide (A.f.msg=B.f.msg)))<|?_
 have hs:(decide (A.f.msg=B.f.msg))=decide (A=B):=by rw[← kD];simp only[b,k,h,l,n,bq,Bool.true_and,Bool.false_and,Bool.and_true,Bool.and_false]
 rw[hs]
 exact⟨rfl,(aN c r)⟩
 refine Pl 9<|nt<|rt<|rr (.bool false)<|?_
 have hs:false=decide (A=B):=by rw[← kD];simp only[b,bq,Bool.true_and,Bool.false_and,Bool.and_true,Bool.and_false]
 rw[hs]
 exact⟨rfl,c⟩
theorem kJ{m m':Md}{A B:Option Addr}{c d:Nat}{xs ys:List Ev}{w:World}(h1:nd m w (.slice A xs.length c) xs)(h2:nd m' w (.slice B ys.length d) ys) : Calls Tryz.prog 18 #[.slice A xs.length c,.slice B ys.length d] w (bW (.bool (decide (xs=ys))) w):=by
 have hz1:=aI.len h1
 have hz2:=aI.len h2
 refine en 27 Tryz.func18 rfl<|sg<|Pl 1<|nt<|sq<|sg<|Pl 5<|nt<|cb ((((xs.length:Nat) : Int)!=((ys.length:Nat) : Int))) (fun l=>?_) (fun l=>?_)
 have q:=ay l
 refine sg<|Pl 1<|nt<|rt<|tr<|rr (.bool false)<|?_
 have hs:decide (xs=ys)=false:=decide_eq_false (fun e=>by rw[e] at q;omega)
 rw[hs]
 exact⟨rfl,(aE.refl [] _)⟩
 have q:=aJ l
 refine bz<|sq<|sg<|Pl 1<|nt<|bk<|?_
 refine gw (fun x=>[(0,.slice A xs.length c),(1,.slice B ys.length d),(5,.int .i64 ((x:Nat) : Int))]) (fun(x:Nat) w'=>aE [] w w'∧(xs.take x=ys.take x)∧(x≤xs.length)) (fun x=>xs.length-x) 0 ⟨aE.refl _ _,rfl,(by(try dsimp only);omega)⟩ ?_
 rintro k Y ⟨r,C,D⟩
 refine f5 [(0,.slice A xs.length c),(1,.slice B ys.length d),(5,.int .i64 ((k:Nat) : Int))] ?_
 have s:xs.take k=ys.take k:=C
 have Z:k≤xs.length:=D
 refine sq<|sg<|Pl 4<|nt<|cb ((decide (((k:Nat) : Int)<((xs.length:Nat) : Int)))) (fun n=>?_) (fun n=>?_)
 have E:=of_decide_eq_true n
 refine bz<|sq<|bk<|sq<|vJ (nd.elt h1 k (by omega) (Ev.bad 0)) fun t F G H I a J K L M=>vJ (nd.elt h2 k (by omega) (Ev.bad 0)) fun u N O P Q b R S T U=>Rg 10 (fun w'=>w'.heap[t]? = some (.cells G H I)∧w'.heap[u]? = some (.cells O P Q)) fun a0 V=>?_
 have i:=aN r V
 have v:=ub i K
 have y:=ub i S
 refine bA ⟨v,y⟩ fun h=>Rt 0 h<|Rt 1 h<|Ri 2 h 25 xs.length k ((k:Nat) : Int) rfl J (by omega)<|Rr 3 h (.agg (nP ⟨(xs.getD k (Ev.bad 0)).e,(xs.getD k (Ev.bad 0)).f⟩ a)) (fun w' hs=>oT (g:=t) (off:=F+k*25) [.int .i64 ((xs.getD k (Ev.bad 0)).e),.int .u8 ((xs.getD k (Ev.bad 0)).f.unit),.int .u16 ((xs.getD k (Ev.bad 0)).f.tid),.int .u8 ((xs.getD k (Ev.bad 0)).f.msg.code),.int .u8 ((xs.getD k (Ev.bad 0)).f.msg.fail),.int .u16 ((xs.getD k (Ev.bad 0)).f.msg.addr),.int .u16 ((xs.getD k (Ev.bad 0)).f.msg.count),.int .u16 ((xs.getD k (Ev.bad 0)).f.msg.value),.int .u16 ((xs.getD k (Ev.bad 0)).f.msg.and_),.int .u16 ((xs.getD k (Ev.bad 0)).f.msg.or_),.int .u16 ((xs.getD k (Ev.bad 0)).f.msg.addr2),.int .u16 ((xs.getD k (Ev.bad 0)).f.msg.sub),.int .u16 ((xs.getD k (Ev.bad 0)).f.msg.status),.int .u16 ((xs.getD k (Ev.bad 0)).f.msg.events),.int .u16 ((xs.getD k (Ev.bad 0)).f.msg.messages),.slice a.aw ((xs.getD k (Ev.bad 0)).f.msg.words.length) a.kw,.slice a.ab ((xs.getD k (Ev.bad 0)).f.msg.bits.length) a.kb,.slice a.ad ((xs.getD k (Ev.bad 0)).f.msg.data.length) a.kd,.slice a.ar ((xs.getD k (Ev.bad 0)).f.msg.recs.length) a.kr,.int .u8 ((xs.getD k (Ev.bad 0)).f.msg.mei),.int .u8 ((xs.getD k (Ev.bad 0)).f.msg.kind),.int .u8 ((xs.getD k (Ev.bad 0)).f.msg.level),.int .u8 ((xs.getD k (Ev.bad 0)).f.msg.more),.int .u8 ((xs.getD k (Ev.bad 0)).f.msg.next),.slice a.ao ((xs.getD k (Ev.bad 0)).f.msg.objects.length) a.ko] rfl (by kernel_rfl) hs.1 (by kernel_rfl) (by kernel_rfl) M)<|Rt 4 h<|Rt 5 h<|Ri 6 h 25 ys.length k ((k:Nat) : Int) rfl R (by omega)<|Rr 7 h (.agg (nP ⟨(ys.getD k (Ev.bad 0)).e,(ys.getD k (Ev.bad 0)).f⟩ b)) (fun w' hs=>oT (g:=u) (off:=N+k*25) [.int .i64 ((ys.getD k (Ev.bad 0)).e),.int .u8 ((ys.getD k (Ev.bad 0)).f.unit),.int .u16 ((ys.getD k (Ev.bad 0)).f.tid),.int .u8 ((ys.getD k (Ev.bad 0)).f.msg.code),.int .u8 ((ys.getD k (Ev.bad 0)).f.msg.fail),.int .u16 ((ys.getD k (Ev.bad 0)).f.msg.addr),.int .u16 ((ys.getD k (Ev.bad 0)).f.msg.count),.int .u16 ((ys.getD k (Ev.bad 0)).f.msg.value),.int .u16 ((ys.getD k (Ev.bad 0)).f.msg.and_),.int .u16 ((ys.getD k (Ev.bad 0)).f.msg.or_),.int .u16 ((ys.getD k (Ev.bad 0)).f.msg.addr2),.int .u16 ((ys.getD k (Ev.bad 0)).f.msg.sub),.int .u16 ((ys.getD k (Ev.bad 0)).f.msg.status),.int .u16 ((ys.getD k (Ev.bad 0)).f.msg.events),.int .u16 ((ys.getD k (Ev.bad 0)).f.msg.messages),.slice b.aw ((ys.getD k (Ev.bad 0)).f.msg.words.length) b.kw,.slice b.ab ((ys.getD k (Ev.bad 0)).f.msg.bits.length) b.kb,.slice b.ad ((ys.getD k (Ev.bad 0)).f.msg.data.length) b.kd,.slice b.ar ((ys.getD k (Ev.bad 0)).f.msg.recs.length) b.kr,.int .u8 ((ys.getD k (Ev.bad 0)).f.msg.mei),.int .u8 ((ys.getD k (Ev.bad 0)).f.msg.kind),.int .u8 ((ys.getD k (Ev.bad 0)).f.msg.level),.int .u8 ((ys.getD k (Ev.bad 0)).f.msg.more),.int .u8 ((ys.getD k (Ev.bad 0)).f.msg.next),.slice b.ao ((ys.getD k (Ev.bad 0)).f.msg.objects.length) b.ko] rfl (by kernel_rfl) hs.2 (by kernel_rfl) (by kernel_rfl) U)<|?_
 refine R0 8 rfl<|Oc<|m1 (nT (A:=(xs.getD k (Ev.bad 0))) (B:=(ys.getD k (Ev.bad 0))) (aU.old (L.1) i) (aU.old (T.1) i)) fun a1 o=>?_
 refine bA ⟨(ub o v),(ub o y)⟩ fun W=>Rt 9 W<|re<|tn<|?_
 have z:=aN i o
 refine cb ((!(decide ((xs.getD k (Ev.bad 0))=(ys.getD k (Ev.bad 0)))))) (fun p=>?_) (fun p=>?_)
 have j:(decide ((xs.getD k (Ev.bad 0))=(ys.getD k (Ev.bad 0))))=false:=by simpa using p
 have X:=of_decide_eq_false j
 refine sg<|Pl 1<|nt<|rt<|br<|tr<|tr<|br<|tr<|rr (.bool false)<|?_
 have hs:decide (xs=ys)=false:=w3 k j
 rw[hs]
 exact⟨rfl,z⟩
 have j:(decide ((xs.getD k (Ev.bad 0))=(ys.getD k (Ev.bad 0))))=true:=by simpa using p
 have X:=of_decide_eq_true j
 exact sk<|bn<|tn<|go<|Pl 1<|L0<|Oi (((k:Nat) : Int)+1)<|Pl 1<|nl<|ed (k+1) ⟨z,(uU (by omega) (by omega) s (of_decide_eq_true j)),(by(try dsimp only);omega)⟩ (by omega)
 have E:=of_decide_eq_false n
 refine xt<|tx<|tx<|bx<|tn<|sg<|Pl 1<|nt<|rt<|rr (.bool true)<|?_
 have hs:decide (xs=ys)=true:=ul s (by omega) (by omega)
 rw[hs]
 exact⟨rfl,r⟩
end Go.Proofs.YtdkhbcefkfgbdaaGreat
namespace Go.Proofs.YtdkhbcefkfgbdaaGreat
def i2 (C:ah) : Prop:=∀ x,x∈C.l→0≤x∧x<256
theorem rE{C:ah}{ok:Bool}{x:Int}(hx:x≠0)(h:(C.need ok x).e=0) : C.e=0∧ok=true:=by
  unfold ah.need at h
  split at h
  · exact absurd h hx
  · rename_i hh
    refine⟨h,?_⟩
    cases ok
    · exact absurd ⟨h,rfl⟩ hh
    · rfl
theorem kX{C:ah}{n:Int}(h:(C.bytesC n).e=0) : C.e=0∧C.l=C.bytesR n++(C.bytesC n).l∧((C.bytesR n).length:Int)=n:=by
  unfold ah.bytesC at h ⊢
  unfold ah.bytesR
  split at h
  · exfalso
    unfold ah.need at h
    split at h
    · cases h
    · rename_i hh
      exact hh ⟨h,rfl⟩
  · rename_i hf
    rw[if_neg hf,if_neg hf]
    refine⟨h,(List.take_append_drop _ _).symm,?_⟩
    unfold ah.fails at hf
    simp only[Bool.or_eq_true,decide_eq_true_eq,not_or] at hf
    rw[List.length_take]
    omega
theorem jL:∀ (l:List Int),l.length%2=0→(∀ x,x∈l→0≤x∧x<256)→nM (co l)=l
  | [],_,_=>rfl
  | [_],h,_=>by simp at h
  | a :: b :: r,h,hr=>by
    have ha:=hr a (by simp)
    have hb:=hr b (by simp)
    simp only[co,nM]
    rw[jL r (by simp at h;omega) (fun x hx=>hr x (by simp[hx]))]
    congr 1
    · omega
    · congr 1
      omega
theorem u7{C:ah}{n:Int}(hr:i2 C)(h:(C.wordsC n).e=0) : C.e=0∧C.l=nM (C.wordsR n)++(C.wordsC n).l∧((C.wordsR n).length:Int)=n:=by
  unfold ah.wordsC at h ⊢
  unfold ah.wordsR
  split at h
  · obtain⟨_,_,h3⟩:=kX h
    omega
  · rename_i hb
    rw[if_neg hb,if_neg hb]
    obtain⟨h1,h2,h3⟩:=kX h
    have h4:(C.bytesR (2*n)).length%2=0:=by omega
    have h5:∀ x,x∈C.bytesR (2*n)→0≤x∧x<256:=fun x hx=>hr x (by rw[h2];exact List.mem_append_left _ hx)
    unfold c5
    rw[if_pos h4]
    refine⟨h1,by rw[jL _ h4 h5];exact h2,?_⟩
    rw[eE]
    omega
def lN (C:ah)(l:List Int)(C':ah) : Prop:=i2 C→i2 C'∧(C'.e=0→C.e=0∧C.l=l++C'.l)
theorem lN.trans{A B C:ah}{l m:List Int}(h:lN A l B)(k:lN B m C) : lN A (l++m) C:=fun hr=>by
  obtain⟨h1,h2⟩:=h hr
  obtain⟨k1,k2⟩:=k h1
  refine⟨k1,fun he=>?_⟩
  obtain⟨k3,k4⟩:=k2 he
  obtain⟨h3,h4⟩:=h2 k3
  exact⟨h3,by rw[h4,k4,List.append_assoc]⟩
theorem lN.refl(C:ah) : lN C [] C:=fun hr=>⟨hr,fun he=>⟨he,rfl⟩⟩
theorem lN.need{A C:ah}{l:List Int}{ok:Bool}{x:Int}(h:lN A l C)(hx:x≠0:=by decide) : lN A l (C.need ok x):=fun hr=>by
  obtain⟨h1,h2⟩:=h hr
  refine⟨fun y hy=>h1 y (by rwa [jg] at hy),fun he=>?_⟩
  rw[jg]
  exact h2 (rE hx he).1
theorem lN.bytes{A C:ah}{l:List Int}(h:lN A l C)(n:Int) : lN A (l++C.bytesR n) (C.bytesC n):=h.trans fun hr=>⟨fD hr n,fun he=>⟨(kX he).1,(kX he).2.1⟩⟩
theorem lN.words{A C:ah}{l:List Int}(h:lN A l C)(n:Int) : lN A (l++nM (C.wordsR n)) (C.wordsC n):=h.trans fun hr=>⟨c6 hr n,fun he=>⟨(u7 hr he).1,(u7 hr he).2.1⟩⟩
theorem uw{l:List Int}(h:(l.length:Int)=1) : l=[l.getD 0 0]:=by
  match l,h with
  | [a],_=>rfl
  | [],h=>simp at h
  | _ :: _ :: _,h=>simp at h;omega
theorem lN.byte{A C:ah}{l:List Int}(h:lN A l C) : lN A (l++[C.byteV]) (C.bytesC 1):=h.trans fun hr=>⟨fD hr 1,fun he=>by
  obtain⟨h1,h2,h3⟩:=kX he
  refine⟨h1,?_⟩
  have:=uw h3
  show C.l=[(C.bytesR 1).getD 0 0]++_
  rw[← this]
  exact h2⟩
theorem gJ{C:ah}(hr:i2 C) : 0≤C.byteV∧C.byteV<256:=by
  unfold ah.byteV
  rw[List.getD_eq_getElem?_getD]
  cases h:(C.bytesR 1)[0]? with
  | none=>simp
  | some x =>
    have hm:x∈C.bytesR 1:=List.mem_of_getElem? h
    have:x∈C.l:=by
      unfold ah.bytesR at hm
      split at hm
      · cases hm
      · exact List.mem_of_mem_take hm
    exact hr x this
theorem sW:∀ n:Nat,n<256→(((if ((n:Int)/2 ^ 0%2==1) then 1 else 0)+(if ((n:Int)/2 ^ 1%2==1) then 2 else 0)+(if ((n:Int)/2 ^ 2%2==1) then 4 else 0)+(if ((n:Int)/2 ^ 3%2==1) then 8 else 0)+(if ((n:Int)/2 ^ 4%2==1) then 16 else 0)+(if ((n:Int)/2 ^ 5%2==1) then 32 else 0)+(if ((n:Int)/2 ^ 6%2==1) then 64 else 0)+(if ((n:Int)/2 ^ 7%2==1) then 128 else 0) : Nat) : Int)=n:=by decide +kernel
theorem jP{x:Int}(hx:0≤x∧x<256)(f:Nat→Bool)(hf:∀ i,i<8→f i=(x/2 ^ i%2==1)) :
    (((if f 0 then 1 else 0)+(if f 1 then 2 else 0)+(if f 2 then 4 else 0)+(if f 3 then 8 else 0)+(if f 4 then 16 else 0)+(if f 5 then 32 else 0)+(if f 6 then 64 else 0)+(if f 7 then 128 else 0) : Nat) : Int)=x:=by
  rw[hf 0 (by decide),hf 1 (by decide),hf 2 (by decide),hf 3 (by decide),hf 4 (by decide),hf 5 (by decide),hf 6 (by decide),hf 7 (by decide)]
  obtain⟨n,rfl⟩:=Int.eq_ofNat_of_zero_le hx.1
  exact sW n (by omega)
theorem ms{b:List Int}{n:Int}{l:List Bool}(hr:∀ x,x∈b→0≤x∧x<256)(h:bZ b n=some l) : dj l=b:=by
  unfold bZ at h
  split at h
  · rename_i hc
    split at h
    · rename_i hall
      injection h with h
      subst h
      have hlen:((List.range n.toNat).map (bP b)).length=n.toNat:=by simp
      have hm:((List.range n.toNat).map (bP b)).length=n:=by rw[hlen];omega
      unfold dj
      rw[hm,← hc.2]
      apply List.ext_getElem
      · simp
      intro j h1 h2
      simp only[List.getElem_map,List.getElem_range]
      have hj:j<b.length:=h2
      have hget:∀ i,i<8*b.length→((List.range n.toNat).map (bP b)).getD i false=bP b i:=fun i hi=>by
        rw[List.getD_eq_getElem?_getD,List.getElem?_map]
        by_cases hin:i<n.toNat
        · rw[List.getElem?_range hin];rfl
        · rw[List.getElem?_eq_none (by simpa using hin)]
          rw[List.all_eq_true] at hall
          have:=hall i (by simpa using hi)
          simp only[Bool.or_eq_true,decide_eq_true_eq,Bool.not_eq_true'] at this
          rcases this with h3|h3
          · omega
          · simp[h3]
      have hx:∀ k,k<8→bP b (8*j+k)=(b[j]/2 ^ k%2==1):=fun k hk=>by
        unfold bP
        rw[show(8*j+k)/8=j from by omega,show(8*j+k)%8=k from by omega,List.getD_eq_getElem?_getD,List.getElem?_eq_getElem hj]
        rfl
      unfold cj
      rw[show(8*j:Nat)=8*j+0 from rfl]
      simp only[hget _ (show 8*j+0<8*b.length by omega),hget _ (show 8*j+0+1<8*b.length by omega),hget _ (show 8*j+0+2<8*b.length by omega),hget _ (show 8*j+0+3<8*b.length by omega),hget _ (show 8*j+0+4<8*b.length by omega),hget _ (show 8*j+0+5<8*b.length by omega),hget _ (show 8*j+0+6<8*b.length by omega),hget _ (show 8*j+0+7<8*b.length by omega)]
      exact jP (hr _ (List.getElem_mem hj)) (fun k=>bP b (8*j+k)) hx
    · cases h
  · cases h
end Go.Proofs.YtdkhbcefkfgbdaaGreat
namespace Go.Proofs.YtdkhbcefkfgbdaaGreat
end Go.Proofs.YtdkhbcefkfgbdaaGreat
namespace Go.Proofs.YtdkhbcefkfgbdaaGreat
end Go.Proofs.YtdkhbcefkfgbdaaGreat
namespace Go.Proofs.YtdkhbcefkfgbdaaGreat
def Sh (C C':ah) : Prop:=C'.l.length≤C.l.length
theorem Sh.refl(C:ah) : Sh C C:=Nat.le_refl _
theorem Sh.bytes{A C:ah}(h:Sh A C){n:Int}:Sh A (C.bytesC n):=Nat.le_trans (gG C n) h
theorem Sh.words{A C:ah}(h:Sh A C){n:Int}:Sh A (C.wordsC n):=Nat.le_trans (dU C n) h
theorem Sh.need{A C:ah}(h:Sh A C){b:Bool}{e:Int}:Sh A (C.need b e):=by unfold Sh;rw[dH];exact h
open Go.RowKit
open Go.RowKit
open Go.RowKit
end Go.Proofs.YtdkhbcefkfgbdaaGreat
namespace Go.Proofs.YtdkhbcefkfgbdaaGreat
theorem rR{S S2 S3:SA}{a b:List Int}{L L2:List Ev}(h:S.feed a=(S2,L))(hX:S2.feed b=(S3,L2)) : S.feed (a++b)=(S3,L++L2):=by
  have gen:∀ (b:List Int) (T:SA) (K:List Ev),b.foldl (fun(p:SA × List Ev) c=>((p.1.byte c).1,p.2++(p.1.byte c).2)) (T,K)=((T.feed b).1,K++(T.feed b).2):=by
    intro b
    induction b with
    | nil=>intro T K;simp[SA.feed]
    | cons c t ih =>
      intro T K
      unfold SA.feed
      rw[List.foldl_cons,List.foldl_cons,ih,ih]
      simp
  unfold SA.feed at h ⊢
  rw[List.foldl_append,h,gen,hX]
theorem tz{S:SA}{c:Int}:S.feed [c]=S.byte c:=by
  unfold SA.feed
  simp
open Go.RowKit
section
variable {n n2 p:Nat}{w w':World}{A A2 B:Option Addr}{X:List Nat}{x:Ev}{cs:List Value}
def jf (A:Option Addr)(n:Nat)(X:List Nat)(w:World) : Prop:=∀ y,y∈X→n≤y∨y∈ob A∨∃ cells t fr,w.heap[y]? = some (.cells cells t fr)∧t∉er
def gI (A:Option Addr)(n:Nat)(w:World)(x:Ev)(cs:List Value) : Prop:=n≤w.heap.size∧∀ (w':World)(X:List Nat),aE X w w'→jf A n X w→d6 true w' x cs
theorem gI.ev(h:gI A n w x cs) : d6 true w x cs:=h.2 w [] (aE.refl _ _) (fun y hy=>by cases hy)
theorem gI.upd(hu:aE X w w')(ha:jf A n X w)(h:gI A n w x cs) : gI A n w' x cs:=by
  refine⟨Nat.le_trans h.1 hu.size,fun w2 X2 hu2 ha2=>h.2 w2 (X++X2) ?_ ?_⟩
  · exact aE.trans' (aE.mono hu (fun y hy=>.inl (List.mem_append_left _ hy))) hu2 (fun y hy=>.inl (List.mem_append_right _ hy))
  · intro y hy
    rcases List.mem_append.1 hy with hy|hy
    · exact ha y hy
    · rcases ha2 y hy with k | k | ⟨cells,t,fr,k1,k2⟩
      · exact .inl k
      · exact .inr (.inl k)
      · by_cases hl:y<w.heap.size
        · by_cases hX:y∈X
          · exact ha y hX
          · exact .inr (.inr ⟨cells,t,fr,by rw[← hu.block y hl hX];exact k1,k2⟩)
        · exact .inl (Nat.le_trans h.1 (by omega))
theorem gI.row(hA:∀ y,y∈ob A2→y∈ob A∨n≤y)(hn:n≤n2)(hs:n2≤w.heap.size)(h:gI A n w x cs) : gI A2 n2 w x cs:=⟨hs,fun w' X hu ha=>h.2 w' X hu fun y hy=>by
  rcases ha y hy with k|k|k
  · exact .inl (Nat.le_trans hn k)
  · exact(hA y k).elim (fun q=>.inr (.inl q)) .inl
  · exact .inr (.inr k)⟩
theorem gI.of(hA:∀ y,y∈ob A→y<p∧∃ cells t fr,w.heap[y]? = some (.cells cells t fr))(h:bM p n w x cs) : gI A n w x cs:=⟨h.1,fun w' X hu ha=>(h.2 w' X hu fun y hy=>by
  rcases ha y hy with k|k|⟨c,t,fr,k,q⟩
  · exact .inl k
  · obtain⟨h1,c,t,fr,h2⟩:=hA y k
    exact .inr ⟨c,t,fr,h2,.inr h1⟩
  · exact .inr ⟨c,t,fr,k,.inl q⟩).tt⟩
theorem gI.ones:∀ (x:Ev)(cs:List Value),gI A n w x cs→∀ v,v∈cs→v.oneCell'=true:=fun x cs h=>d6.ones x cs h.ev
abbrev n8 (A:Option Addr) (n base:Nat) (w:World) (v:Value) (xs:List Ev) : Prop:=aW base 87 25 (gI A n) w v xs
theorem n8.own{base:Nat}{v:Value}{xs:List Ev}(h:n8 A n base w v xs) : rf base w v xs:=aW.map h fun _ _ q=>q.ev
theorem ek:jf A n [] w:=fun y hy=>by cases hy
theorem qN(k:jf A n X w) : jf A n (ob A++X) w:=fun y hy=>(List.mem_append.1 hy).elim (fun q=>.inr (.inl q)) (k y)
theorem qD(h:∀ y,y∈ob B→n≤y)(k:jf A n X w) : jf A n (ob B++X) w:=fun y hy=>(List.mem_append.1 hy).elim (fun q=>.inl (h y q)) (k y)
theorem qv{g:Nat}{t:TypeId}(hb:∃ cs fr,w.heap[g]? = some (.cells cs t fr))(ht:er.contains t=false)(k:jf A n X w) : jf A n (g :: X) w:=by
  obtain⟨cs,fr,hb⟩:=hb
  intro y hy
  rcases List.mem_cons.1 hy with rfl|hy
  · exact .inr (.inr ⟨cs,t,fr,hb,by simpa using ht⟩)
  · exact k y hy
theorem rO{α:Type}{base sz m c:Nat}{e:TypeId}{R:World→α→List Value→Prop}{xs:List α}(h:aW base e sz R w (.slice B m c) xs)(ht:er.contains e=false)(k:jf A n X w) : jf A n (ob B++X) w:=fun y hy=>by
  rcases List.mem_append.1 hy with hy|hy
  · rcases cV h with rfl | ⟨g,cells,rfl,_,h1⟩
    · simp[ob] at hy
    · simp[ob] at hy
      subst hy
      exact .inr (.inr ⟨_,_,_,h1,by simpa using ht⟩)
  · exact k y hy
theorem oy{α:Type}{base sz m c m' c':Nat}{e:TypeId}{R:World→α→List Value→Prop}{xs xs':List α}(h:aW base e sz R w (.slice A m c) xs)(h':aW base e sz R w' (.slice A m' c') xs') : ∀ y,y∈ob A→y<w.heap.size∧∃ cells t fr,w'.heap[y]? = some (.cells cells t fr):=fun y hy=>by
  refine⟨rJ h y hy,?_⟩
  rcases cV h' with rfl|⟨g,cells,rfl,_,h1⟩
  · simp[ob] at hy
  · simp[ob] at hy
    subst hy
    exact⟨_,_,_,h1⟩
theorem rh{m:Nat}(hat:∀ y,y∈ob A2→y∈ob A∨m≤y)(hn:n≤m) : ∀ y,y∈ob A2→y∈ob A∨n≤y:=fun y hy=>(hat y hy).imp_right (Nat.le_trans hn)
end
end Go.Proofs.YtdkhbcefkfgbdaaGreat
namespace Go.Proofs.YtdkhbcefkfgbdaaGreat
def N4 (C:ah) : Prop:=C.e≠4
theorem N4.need{C:ah}{b:Bool}{x:Int}(hx:x≠4)(h:N4 C) : N4 (C.need b x):=by
  unfold N4 ah.need at *
  split
  · exact hx
  · exact h
theorem N4.bytesC{C:ah}{n:Int}(h:N4 C) : N4 (C.bytesC n):=by
  unfold ah.bytesC
  split
  · exact N4.need (by decide) h
  · exact h
theorem N4.wordsC{C:ah}{n:Int}(h:N4 C) : N4 (C.wordsC n):=by
  unfold ah.wordsC
  split<;>exact N4.bytesC h
theorem N4.recs{one:Int→ah→Int × ah × cX}(ho:∀ s C,N4 C→N4 (one s C).2.1) : ∀ (n:Nat)(s:Int)(C:ah)(L:List cX),N4 C→N4 (aO one n s C L).1
  | 0,_,_,_,h=>h
  | n+1,s,C,L,h=>by
    unfold aO
    split
    · split
      · exact ho s C h
      · exact N4.recs ho n _ _ _ (ho s C h)
    · exact h
theorem nV{x:Int}(h:x≠4) : bh x≠4:=by
  unfold bh
  split
  · decide
  · exact h
theorem sa{dir c:Int}{C:ah}{r:ah × b7}(hC:N4 C)(h:aP dir c C=some r) : N4 r.1:=by
  unfold aP at h
  repeat' split at h
  all_goals first | cases h | skip
  all_goals simp only[dm,dg,cL,fS,bV,ir,eO,dA,oH,gE]
  all_goals repeat' first | with_reducible exact hC | with_reducible apply N4.bytesC | with_reducible apply N4.wordsC | (with_reducible refine N4.need (by decide) ?_)
theorem sX{dir c:Int}{C:ah}{r:ah × b7}(hC:N4 C)(h:aZ dir c C=some r) : N4 r.1:=by
  unfold aZ at h
  repeat' split at h
  all_goals first | cases h | skip
  all_goals simp only[bO,c3,dc,cG,ck,cH,cI,jQ,ld,l8,bB,oS,cw,ku,qZ,wi,vj]
  all_goals repeat' first | with_reducible exact hC | with_reducible apply N4.bytesC | with_reducible apply N4.wordsC | (with_reducible refine N4.need (by decide) ?_)
theorem tR{dir c:Int}{C:ah}{r:ah × b7}(hC:N4 C)(h:bi dir c C=some r) : N4 r.1:=by
  unfold bi eR cD at h
  repeat' split at h
  all_goals first | cases h | skip
  all_goals simp only[eA,iJ,fW,gx,dp]
  all_goals repeat' first | with_reducible exact hC | with_reducible apply N4.bytesC | with_reducible apply N4.wordsC | (with_reducible refine N4.need (by decide) ?_)
theorem t6(s:Int)(C:ah)(h:N4 C) : N4 (cy s C).2.1:=by
  simp only[cy,dX,d7,iP,iT,lU]
  repeat' first | with_reducible exact h | with_reducible apply N4.bytesC | with_reducible apply N4.wordsC | (with_reducible refine N4.need (by decide) ?_)
theorem r7(s:Int)(C:ah)(h:N4 C) : N4 (bH s C).2.1:=by
  simp only[bH,eo,gv,gq]
  repeat' first | with_reducible exact h | with_reducible apply N4.bytesC | with_reducible apply N4.wordsC | (with_reducible refine N4.need (by decide) ?_)
theorem sH(s:Int)(C:ah)(h:N4 C) : N4 (cC s C).2.1:=by
  simp only[cC,i9,mf,d7,iP,iT,lU]
  repeat' first | with_reducible exact h | with_reducible apply N4.bytesC | with_reducible apply N4.wordsC | (with_reducible refine N4.need (by decide) ?_)
theorem ik{one:Int→ah→Int × ah × cX}(ho:∀ s C,N4 C→N4 (one s C).2.1)(may:Int→Bool)(c:Int){C:ah}(hC:N4 C) : N4 (dJ one may c C).1:=by
  unfold dJ ll
  refine N4.need (nV (N4.recs ho _ _ _ _ ?_)) (N4.bytesC (N4.need (by decide) (N4.bytesC hC)))
  show(0:Int)≠4
  decide
theorem qO{dir c:Int}{C:ah}{r:ah × b7}(hC:N4 C)(h:bg dir c C=some r) : N4 r.1:=by
  unfold bg at h
  repeat' split at h
  all_goals first | cases h | skip
  · exact ik t6 _ _ hC
  · exact ik r7 _ _ hC
  · exact ik sH _ _ hC
theorem N4.endC{C:ah}(h:N4 C) : N4 C.endC:=by
  unfold ah.endC
  exact N4.need (by decide) h
theorem s7{form:Int→Int→ah→Option (ah × b7)}(hg:∀ {dir c:Int}{C:ah}{r:ah × b7},N4 C→form dir c C=some r→N4 r.1){dir c:Int}{b:List Int}(hd:dir=0∨dir=1){r:ah × b7}(hf:form dir c ⟨b,false,0⟩=some r) :
    (aj form dir c b).2≠4:=by
  unfold aj
  rw[if_pos hd,hf]
  have h0:N4 ⟨b,false,0⟩:=by show(0:Int)≠4;decide
  have g1:=hg h0 hf
  show(bp r.2 r.1).2≠4
  unfold bp
  split
  · exact(show ¬ (0:Int)=4 from by decide)
  · exact N4.endC g1
theorem mK{form:Int→Int→ah→Option (ah × b7)}{dir c:Int}{b:List Int}(hd:dir=0∨dir=1)(hf:form dir c ⟨b,false,0⟩=none) : aj form dir c b=(b7.zero,4):=by
  unfold aj
  rw[if_pos hd,hf]
def ey (dir:Int)(b:List Int) : b7 × Int :=
  if (aj aP dir (b.getD 0 0) (b.drop 1)).2==4 then
    if (aj aZ dir (b.getD 0 0) (b.drop 1)).2==4 then
      if (aj bi dir (b.getD 0 0) (b.drop 1)).2==4 then
        if (aj bg dir (b.getD 0 0) (b.drop 1)).2==4 then aj bY dir (b.getD 0 0) (b.drop 1)
        else aj bg dir (b.getD 0 0) (b.drop 1)
      else aj bi dir (b.getD 0 0) (b.drop 1)
    else aj aZ dir (b.getD 0 0) (b.drop 1)
  else aj aP dir (b.getD 0 0) (b.drop 1)
theorem pv{dir:Int}{b:List Int}(hd:dir=0∨dir=1) : ey dir b=iN (jY (b.getD 0 0)) dir b:=by
  have no:∀ (form:Int→Int→ah→Option (ah × b7)),form dir (b.getD 0 0) ⟨b.drop 1,false,0⟩=none→((aj form dir (b.getD 0 0) (b.drop 1)).2==4)=true:=fun f h=>by rw[mK hd h];rfl
  have ye:∀ (form:Int→Int→ah→Option (ah × b7)),(∀ {dir c:Int} {C:ah} {r:ah × b7},N4 C→form dir c C=some r→N4 r.1)→(form dir (b.getD 0 0) ⟨b.drop 1,false,0⟩).isSome=true→¬ ((aj form dir (b.getD 0 0) (b.drop 1)).2==4)=true:=fun form hg h=>by
    obtain⟨r,hr⟩:=Option.isSome_iff_exists.1 h
    have k:=s7 (form:=form) (c:=b.getD 0 0) (fun hC h=>hg hC h) hd hr
    rw[beq_iff_eq]
    exact k
  unfold ey
  rcases iE (b.getD 0 0) with⟨hk,hf⟩|⟨hk,hf⟩|⟨hk,hf⟩|⟨hk,hf⟩|⟨hk,hf⟩|⟨hk,hf⟩<;>rw[hf]
  · rw[if_neg (ye aP (fun hC h=>sa hC h) (by rcases hd with rfl | rfl<;>rcases hk with h | h | h | h<;>rw[h]<;>rfl))]
    rfl
  · rw[if_pos (no aP (by rcases hk with h | h | h | h | h | h | h<;>rw[h]<;>rfl)),if_neg (ye aZ (fun hC h=>sX hC h) (by rcases hd with rfl | rfl<;>rcases hk with h | h | h | h | h | h | h<;>rw[h]<;>rfl))]
    rfl
  · rw[if_pos (no aP (by rcases hk with h | h | h | h | h<;>rw[h]<;>rfl)),if_pos (no aZ (by rcases hk with h | h | h | h | h<;>rw[h]<;>rfl)),if_neg (ye bi (fun hC h=>tR hC h) (by rcases hd with rfl | rfl<;>rcases hk with h | h | h | h | h<;>rw[h]<;>rfl))]
    rfl
  · rw[if_pos (no aP (by rcases hk with h | h<;>rw[h]<;>rfl)),if_pos (no aZ (by rcases hk with h | h<;>rw[h]<;>rfl)),if_pos (no bi (by rcases hk with h | h<;>rw[h]<;>rfl)),if_neg (ye bg (fun hC h=>qO hC h) (by rcases hd with rfl | rfl<;>rcases hk with h | h<;>rw[h]<;>rfl))]
    rfl
  · rw[if_pos (no aP (by rw[hk]<;>rfl)),if_pos (no aZ (by rw[hk]<;>rfl)),if_pos (no bi (by rw[hk]<;>rfl)),if_pos (no bg (by rw[hk]<;>rfl))]
    rfl
  · have no0:∀ (form:Int→Int→ah→Option (ah × b7)),(∀ C,form dir (b.getD 0 0) C=none)→((aj form dir (b.getD 0 0) (b.drop 1)).2==4)=true:=fun f h=>no f (h _)
    have ne:∀ k:Int,¬ b.getD 0 0=k→(b.getD 0 0==k)=false:=fun k h=>by simpa using h
    obtain⟨z1,z2,z5,a,z3,z4,z6,d,e,g,i,z7,z8,j,l,m,n,o,p⟩:=hk
    rw[if_pos (no0 aP fun C=>by unfold aP;simp only[ne _ z1,ne _ z2,ne _ z5,ne _ a,Bool.or_false,Bool.false_eq_true,if_false]),if_pos (no0 aZ fun C=>by unfold aZ;simp only[ne _ z3,ne _ z4,ne _ z6,ne _ d,ne _ e,ne _ g,ne _ i,Bool.or_false,Bool.false_eq_true,if_false]),if_pos (no0 bi fun C=>by unfold bi;simp only[ne _ z7,ne _ z8,ne _ j,ne _ l,ne _ m,Bool.or_false,Bool.false_eq_true,if_false]),if_pos (no0 bg fun C=>by unfold bg;simp only[ne _ n,ne _ o,Bool.or_false,Bool.false_eq_true,if_false])]
    exact mK hd (by unfold bY;rw[if_pos (show(b.getD 0 0 != 43)=true from by rw[bne_iff_ne];exact p)])
def fk (dir:Int)(b:List Int) : b7 × Int :=
  if dir != 0&&dir != 1 then (b7.zero,1)
  else if (b.length:Int)==0 then (b7.zero,2)
  else if decide (253<(b.length:Int)) then (b7.zero,3)
  else if decide (128≤b.getD 0 0)&&dir==1 then g8 b
  else ey dir b
theorem eB(dir:Int)(b:List Int) : fk dir b=eh dir b:=by
  unfold fk eh
  split
  · rfl
  · rename_i hh
    have hd:dir=0∨dir=1:=by simp only[Bool.and_eq_true,bne_iff_ne,ne_eq] at hh;omega
    rw[pv hd]
end Go.Proofs.YtdkhbcefkfgbdaaGreat
