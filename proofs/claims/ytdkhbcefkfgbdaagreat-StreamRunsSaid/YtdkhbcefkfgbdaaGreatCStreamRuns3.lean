/- Contracts of functions, part CStreamRuns3. -/
import Derived.Test.YtdkhbcefkfgbdaaGreatCStreamRuns1
import Derived.Test.YtdkhbcefkfgbdaaGreatCStreamRuns2
import Derived.OpenShut
import Derived.Below
import Derived.Deep.Upon
import Derived.Laws.BitsAllLaws
import Derived.Laws.StructEq
import Derived.Scope
import Derived.Lib.ConvBytes
import Derived.Lib.OthersKept
import Derived.Shelf.Strings.Builder1
set_option linter.unusedVariables false
set_option linter.unusedSimpArgs false
set_option maxRecDepth 100000
set_option maxHeartbeats 4000000
namespace Go.Proofs.YtdkhbcefkfgbdaaGreat
open Go.RowKit
def i8 (n:Int) : Bool:=(decide (7≤n)&&decide (n≤245))&&n%7==0
def i5 (n:Int) : Bool:=decide (4≤n)&&decide (n≤245)
def i3 (n:Int) : Bool:=decide (9≤n)&&decide (n≤251)
def ny (may:Int→Bool)(C:al) : al:=(C.bytesC 1).need (may C.byteV) 5
def zC (may:Int→Bool)(C:al) : al:=⟨(ny may C).bytesR C.byteV,false,0⟩
def zB (one:Int→al→Int × al × dx)(may:Int→Bool)(C:al) : al × List dx:=aT one (zC may C).l.length 0 (zC may C) []
def bt (e:Int) : Int:=if e==2 then 5 else e
def ex (one:Int→al→Int × al × dx)(may:Int→Bool)(c:Int)(C:al) : al × bg :=
  (((ny may C).bytesC C.byteV).need ((zB one may C).1.e==0) (bt (zB one may C).1.e),{ bg.zero with code:=c,recs:=(zB one may C).2 })
def bo (dir c:Int)(C:al) : Option (al × bg) :=
  if c==20 then (if dir==0 then some (ex cU i8 c C) else some (ex bR i5 c C)) else if c==21 then some (ex cP i3 c C) else none
theorem vT:((20:Int)==20)=true:=rfl
theorem uZ:((21:Int)==20)=false:=rfl
theorem uO:((21:Int)==21)=true:=rfl
variable {A:Option Addr}{b:List Int}{cp:Nat}{dir:Int}{m:Md}{w:World}
theorem oR(hd:dir=0∨dir=1)(hsl:aO m w (.slice A b.length cp) b)(hb:b.length≤1048576) :
    Calls Tryz.prog 102 #[vI 0,vB 20,.slice A b.length cp] w (eo (aq bo 0 20 b) w):=by
 have hln:(b.length:Int)≤1048576:=by omega
 have cI:((dir != 0)&&(dir != 1))=false:=by rcases hd with rfl | rfl<;>rfl
 refine AF 77 Tryz.func102 rfl<|sg<|aK mZ fun b5 cJ b7 Q J=>aj 1<|sq<|ax 6<|c0<|bp<|ak 2<|az (args:=#[vI 0,vB 20])<|e3 xR fun E cK a7 B F=>Pl 3<|aK #[.nilFunc,.nilFunc] fun cL cM cc b8 t=>aE b8 #[.func (.func 215) #[] #[],.func (.func 213) #[] #[vP E 0]] fun cN cd r=>aj 1<|sq<|sq<|go<|aj 2<|c0<|bp<|ak 1<|?_
 have Z:=ud t r cc
 have a8:=aM F Z
 have ba:=aM J a8
 refine az<|e3 (dA (aO.old hsl ba) (by omega)) fun a9 cP K M q=>Pl 1<|aL 1<|az<|m3 (bM M) fun cQ ce k cS=>b6 ((al.mk b false 0).byteV)<|Pl 1<|aL 2<|?_
 have ad:=ud q k K
 have bb:=ub ad cd
 refine aH bb 0<|Pl 1<|L0<|i4 #[] #[] (args:=#[vI ((al.mk b false 0).byteV)])<|m1 (rq (n:=(al.mk b false 0).byteV) (by omega)) fun cT g=>?_
 refine az<|m2 (bf ((i8 ((al.mk b false 0).byteV))) 5 (ae.old ce g)) fun cV cf h=>?_
 refine ab cf fun x49 bc bd=>?_
 refine aL 2<|az<|tT (c3 (n:=(al.mk b false 0).byteV) bd) fun cW cX cY cg cZ d0 ch i=>?_
 have d1:=Nat.le_trans (al.bytesR_le x49 ((al.mk b false 0).byteV)) (ae.len bd)
 refine ab ch fun x58 be cj=>?_
 refine az<|e3 (dA cg (by omega)) fun S d2 af H o=>Pl 1<|aL 2<|aK mZ fun D d3 N O p=>aE O (mC 20) fun d4 ck d=>nt<|sq<|ak 2<|?_
 have a0:=ud p d N
 have bl:=aM o a0
 have bm:=uz g (u1 h (aM i bl) im)
 refine aH (aY bm (nb (ag b8) r.size K) bb) 1<|az<|Aj (l9 (gb:=S) (f:=.func 213) (x:=#[]) (y:=#[vP E 0])) fun cm cn d5 am an d6 bq br j=>nt<|bk<|qP (f:=220) #[vP cm 0,vP cn 0] fun a ha=>?_
 intro d7 d8 T co v I bs ao P G
 have bu:=nb (ae.lt H) lr N
 have a1:=nb (ae.lt H) (le (le p.size d.size) j.size) I
 have bv:=nb (ag B) (le (le (le (le (le (le (le t.size r.size) q.size) k.size) g.size) h.size) i.size) o.size) N
 have bw:=nb (ag B) (le (le (le (le (le (le (le (le (le (le t.size r.size) q.size) k.size) g.size) h.size) i.size) o.size) p.size) d.size) j.size) I
 have U:=nb (ag O) (le d.size j.size) I
 have a2:=aM j G
 have bx:=ae.old H (aM a0 a2)
 have bz:=ud ad (aM bm a2) K
 have bB:=ub (aM Z bz) B
 have ap:=ub a2 ck
 refine(zw (c:=20) bx bB ap P (ub G bq) (ub G br) (Ne.symm (nb (ag B) (le (le (le (le (le (le t.size r.size) q.size) k.size) g.size) h.size) i.size) af)) bu a1 bv bw U (Ne.symm (nb (ae.lt H) a0.size am)) (Ne.symm (nb (ag B) (le (le (le (le (le (le (le (le (le t.size r.size) q.size) k.size) g.size) h.size) i.size) o.size) p.size) d.size) am)) (Ne.symm (nb (ag O) d.size am)) (nb (ag bq) lr I) (Ne.symm (nb (ae.lt H) a0.size an)) (Ne.symm (nb (ag B) (le (le (le (le (le (le (le (le (le t.size r.size) q.size) k.size) g.size) h.size) i.size) o.size) p.size) d.size) an)) (Ne.symm (nb (ag O) d.size an)) (nb (ag br) lr I) ?_).mono ?_
 intro W C s L Ar cr x Ax cx hJ hrd hx1 hx2 hx3 hL
 simp only[ej] at hx1 hx2 hx3
 have hm2:W.heap[D]? = some (.cells #[vB 20,vB 0,vW 0,vW 0,vW 0,vW 0,vW 0,vW 0,vW 0,vW 0,vW 0,vW 0,nS,nS,nS,.slice Ar L.length cr,vB 0,vB 0,vB 0,vB 0,vB 0,nS] 45 (0,0)):=hJ.hm
 refine l6 hJ.hl ?_
 refine Cl ha 53<|AI<|lU<|zl #[vW 0,vW 0,vW 0,nS] fun d9 da bD cq bF=>lU<|iX cq #[vW x.file,vW x.record,vW x.count,.slice Ax x.words.length cx] fun db cs bG=>ur<|?_
 have bH:=ud bF bG bD
 refine Cw (ub bH hJ.hl) (by trivial) fun dc ct ar=>Cg<|AI<|AJ<|?_
 have bJ:=uz bH ar
 have bK:=aY bJ U hm2
 refine lU<|dp bK 15<|?_
 refine lU<|cO (aY ar (Ne.symm (nb (ag P) hJ.u.size bD)) cs)<|lU<|ep (m:=1) (e:=98) #[vW x.file,vW x.record,vW x.count,.slice Ax x.words.length cx] fun dd de df cu au=>?_
 have V:=aM bJ au
 have cv:=ky (R:=bC (.hi co.heap.size)) (x:=(dx.mk x.file x.record x.count x.words)) cu rfl ⟨_,rfl,(fg.updl hrd V hJ.hl rfl),ci (x:=x.file) (by omega),ci (x:=x.record) (by omega),ci (x:=x.count) (by omega)⟩
 have aw:=ai hJ.ho V (fun x hx=>(aa (fun e=>(aG (ag P) lr hJ.ho) (e▸hx)) ay)) (bC.updl V hJ.hl rfl)
 refine lU<|gL (xs:=L) (ys:=([(dx.mk x.file x.record x.count x.words)])) (.agg #[vW 0,vW 0,vW 0,nS]) 4 32 aw cv (by simp) bC.ones (fun w' hv=>bC.upd16 hv (b9 (bi _ aw (by decide)) aC)) (by(try simp only[cD,aN]);omega) (le (le (le (le hJ.u.size bF.size) bG.size) ar.size) au.size) fun bL bN dg aF aP=>AJ<|?_
 have bO:=ut (aD.mono (S':=(ob Ar++[])) au aA) aP (aB il aA)
 have aR:=aD.blk bO (aZ (aG (ag ap) lr hJ.ho) ay) bK
 refine lU<|bI aR 15 (mG 20 0 0 0 0 0 0 0 0 0 0 0 nS nS nS (.slice bL ((L++[(dx.mk x.file x.record x.count x.words)]).length) bN) 0 0 0 0 0 nS) fun dh cw X=>ur<|bn<|?_
 have aS:=aD.blk (u1 (aD.mono (S':=(ob Ar++(D :: []))) bO (aB il aA)) X im) (aZ (aG (ag P) lr hJ.ho) (aa (Ne.symm U) ay)) ct
 refine BY aS fun di cz Y=>?_
 have aU:=ut (aD.mono (S':=(T :: (ob Ar++(D :: [])))) V (ac im aA)) (ut (aD.mono (S':=(ob Ar++(D :: (T :: [])))) aP (aB il aA)) (us X Y) (ac im (ac im aA))) (aB il (ac im (ac im aA)))
 exact⟨by trivial,aU.size,bL,bN,⟨(ut hJ.u aU (ac im (aB (bE hJ.ho lr) (ac im aA)))),(ae.updl (ae.upd (ae.upd (ae.updl hJ.hC V (aa a1 ay) hJ.hl rfl) aP (aZ (aG (ae.lt bx) lr hJ.ho) ay) (b9 (bi _ aw (by decide)) aC)) X (aa bu ay) (ah (aW aR (by decide)) aC)) Y (aa a1 ay) aS rfl),(aD.blk aU (aa bw (aZ (aG (ag bB) lr hJ.ho) (aa bv ay))) hJ.hS),(aY Y U cw),(ai (ai aF X (fun x hx=>(aa (fun e=>(aG (ag ap) lr aF) (e▸hx)) ay)) (bC.upd16 X (ah (aW aR (by decide)) aC))) Y (fun x hx=>(aa (fun e=>(aG (ag P) lr aF) (e▸hx)) ay)) (bC.updl Y aS rfl)),cz⟩⟩
 rintro _ cA ⟨rfl,dq,bP,bQ,z⟩
 refine⟨_,_,rfl,z.hl,by simp[dO],by trivial,fun dr bR=>?_⟩
 refine ab z.hC fun aV bS cB=>?_
 have cC:cA.heap[D]? = some (.cells #[vB 20,vB 0,vW 0,vW 0,vW 0,vW 0,vW 0,vW 0,vW 0,vW 0,vW 0,vW 0,nS,nS,nS,.slice bP ((aT cU (al.mk (x49.bytesR ((al.mk b false 0).byteV)) false 0).l.length 0 (al.mk (x49.bytesR ((al.mk b false 0).byteV)) false 0) []).2.length) bQ,vB 0,vB 0,vB 0,vB 0,vB 0,nS] 45 (0,0)):=z.hm
 refine bn<|tn<|ak 2<|?_
 have a3:=ae.updl cB bR (aa a1 ay) z.hl rfl
 refine az<|mq (cl a3)<|?_
 have ds:=ae.len a3
 refine Pl 2<|az<|mq (cl a3)<|?_
 have du:=ae.len a3
 refine az<|m1 (iJ (e:=aV.e)) fun dv cE=>?_
 have a4:=aM bR cE
 have bT:=u1 z.u a4 im
 have bU:=ud ad (uz g (u1 h i im)) K
 have bV:=ae.upd cj (ut (aD.mono (S':=[E]) bl aA) (ut (aD.mono (S':=[S,E,D]) a2 aA) bT (ac im (ac im (ac im (ac (ni j.size I) aA))))) (ac (nr af) (ac im (ac (ni o.size N) aA)))) (aa (Ne.symm (nb (ag B) Z.size K)) ay) (ah (aW (ub (aM Z bU) B) (by decide)) aC)
 refine az<|m2 (bf ((aV.e==0)) (bt aV.e) bV) fun dw cF aX=>?_
 refine ab cF fun bW bX bY=>?_
 refine aL 1<|az<|m2 (et bY) fun dy bZ b0=>nt<|sq<|ak 1<|az<|mq (cl bZ)<|?_
 have dz:=ae.len bZ
 refine Pl 1<|cy 2<|?_
 have c1:=u1 aX b0 im
 have b1:=u1 (aD.mono (S':=[S,E,D,T,a9]) bT (ac im (ac im (ac im (ac im aA))))) c1 im
 have b2:=ut (aD.mono (S':=[E]) bz aA) b1 (ac (ni bU.size af) (ac im (ac (ni (le (le (le (le (le q.size k.size) g.size) h.size) i.size) o.size) N) (ac (ni (le (le (le (le (le (le (le (le q.size k.size) g.size) h.size) i.size) o.size) p.size) d.size) j.size) I) (ac (nr K) aA)))))
 have c2:=ud ba b2 (le J.size a7)
 have hs:aq bo 0 20 b=bA (bg.mk 20 0 0 0 0 0 0 0 0 0 0 0 [] [] [] (aT cU (al.mk ((((al.mk b false 0).bytesC 1).need (i8 ((al.mk b false 0).byteV)) 5).bytesR ((al.mk b false 0).byteV)) false 0).l.length 0 (al.mk ((((al.mk b false 0).bytesC 1).need (i8 ((al.mk b false 0).byteV)) 5).bytesR ((al.mk b false 0).byteV)) false 0) []).2 0 0 0 0 0 []) (((((al.mk b false 0).bytesC 1).need (i8 ((al.mk b false 0).byteV)) 5).bytesC ((al.mk b false 0).byteV)).need (((aT cU (al.mk ((((al.mk b false 0).bytesC 1).need (i8 ((al.mk b false 0).byteV)) 5).bytesR ((al.mk b false 0).byteV)) false 0).l.length 0 (al.mk ((((al.mk b false 0).bytesC 1).need (i8 ((al.mk b false 0).byteV)) 5).bytesR ((al.mk b false 0).byteV)) false 0) []).1).e==0) (bt ((aT cU (al.mk ((((al.mk b false 0).bytesC 1).need (i8 ((al.mk b false 0).byteV)) 5).bytesR ((al.mk b false 0).byteV)) false 0).l.length 0 (al.mk ((((al.mk b false 0).bytesC 1).need (i8 ((al.mk b false 0).byteV)) 5).bytesR ((al.mk b false 0).byteV)) false 0) []).1).e)):=by
   unfold aq bo ex zB zC ny
   (try simp only[bj,dl,dm,dj,dn,dk,reduceIte,vT,uZ,uO])
   all_goals rfl
 refine cb ((bW.endC.e != 0)) (fun b3=>?_) (fun b3=>?_)
 have b4:=av b3
 refine ak 2<|?_
 refine aE (ub (ud a8 b2 a7) Q) mZ fun dB cG c4=>aj 1<|bh<|?_
 have c5:=nb (ag Q) (le (le (le (le (le (le (le (le (le (le (le F.size t.size) r.size) q.size) k.size) g.size) h.size) i.size) o.size) p.size) d.size) j.size) v
 refine AE (aD.blk (u1 (aD.mono (S':=[S,E,D,T,a9,b5]) b1 (ac im (ac im (ac im (ac im (ac im aA)))))) c4 im) (aa (Ne.symm (nb (ae.lt H) (le (le p.size d.size) j.size) v)) (aa (Ne.symm (nb (ag B) (le (le (le (le (le (le (le (le (le (le t.size r.size) q.size) k.size) g.size) h.size) i.size) o.size) p.size) d.size) j.size) v)) (aa (Ne.symm (nb (ag O) (le d.size j.size) v)) (aa bs (aa (Ne.symm (nb (ae.lt M) (le (le (le (le (le (le (le k.size g.size) h.size) i.size) o.size) p.size) d.size) j.size) v)) (aa (Ne.symm c5) ay)))))) ao) fun dC c6=>?_
 refine rx (aY c6 c5 cG) (vI bW.endC.e)<|?_
 subst bX bS be bc
 rw[hs]
 exact cR b4 (ut c2 (us c4 c6) (ac (nr b7) (ac (ni (le (le (le (le (le (le (le (le (le (le (le (le J.size F.size) t.size) r.size) q.size) k.size) g.size) h.size) i.size) o.size) p.size) d.size) j.size) v) aA)))
 have b4:=aJ b3
 refine bp<|sg<|?_
 refine L0<|cO (aD.blk (us a4 c1) (aa U (aa (Ne.symm (nb (ae.lt M) (le (le (le (le k.size g.size) h.size) i.size) o.size) N)) ay)) cC)<|?_
 have c7:=ub (ud a8 b2 a7) Q
 refine aE c7 (mG 20 0 0 0 0 0 0 0 0 0 0 0 nS nS nS (.slice bP ((aT cU (al.mk (x49.bytesR ((al.mk b false 0).byteV)) false 0).l.length 0 (al.mk (x49.bytesR ((al.mk b false 0).byteV)) false 0) []).2.length) bQ) 0 0 0 0 0 nS) fun dD cH a5=>aj 1<|rt<|?_
 have c9:=nb (ag Q) (le (le (le (le (le (le (le (le (le (le (le F.size t.size) r.size) q.size) k.size) g.size) h.size) i.size) o.size) p.size) d.size) j.size) v
 have ca:=aD.blk (u1 (aD.mono (S':=[S,E,D,T,a9,b5]) b1 (ac im (ac im (ac im (ac im (ac im aA)))))) a5 im) (aa (Ne.symm (nb (ae.lt H) (le (le p.size d.size) j.size) v)) (aa (Ne.symm (nb (ag B) (le (le (le (le (le (le (le (le (le (le t.size r.size) q.size) k.size) g.size) h.size) i.size) o.size) p.size) d.size) j.size) v)) (aa (Ne.symm (nb (ag O) (le d.size j.size) v)) (aa bs (aa (Ne.symm (nb (ae.lt M) (le (le (le (le (le (le (le k.size g.size) h.size) i.size) o.size) p.size) d.size) j.size) v)) (aa (Ne.symm c9) ay)))))) ao
 refine AE ca fun dE a6=>?_
 refine rx (aY a6 c9 cH) (vI 0)<|?_
 subst bX bS be bc
 rw[hs]
 exact dt b4 ⟨_,_,_,_,_,rfl,aI.nil ..,aI.nil ..,aI.nil ..,(aI.hi_le (aQ.hi (ai (ai (ai (ai (ai z.ho a4 (fun x hx=>(aa (fun e=>(aG (ag P) lr z.ho) (e▸hx)) ay)) (bC.updl a4 z.hl rfl)) aX (fun x hx=>(aa (fun e=>(aG (ae.lt M) (le (le (le (le (le (le (le (le k.size g.size) h.size) i.size) o.size) p.size) d.size) j.size) G.size) z.ho) (e▸hx)) ay)) (bC.upd16 aX (ah (ae.safe bV _ (by decide)) aC))) b0 (fun x hx=>(aa (fun e=>(aG (ae.lt M) (le (le (le (le (le (le (le (le k.size g.size) h.size) i.size) o.size) p.size) d.size) j.size) G.size) z.ho) (e▸hx)) ay)) (bC.upd16 b0 (ah (ae.safe bY _ (by decide)) aC))) a5 (fun x hx=>(aa (fun e=>(aG (ag Q) (le (le (le (le (le (le (le (le (le (le (le (le F.size t.size) r.size) q.size) k.size) g.size) h.size) i.size) o.size) p.size) d.size) j.size) G.size) z.ho) (e▸hx)) ay)) (bC.upd16 a5 (ah (aW c7 (by decide)) aC))) a6 (fun x hx=>(aa (fun e=>(aG (ag ao) lr z.ho) (e▸hx)) ay)) (bC.updl a6 ca rfl)) lr) (le (le (le (le (le (le (le (le (le (le (le (le (le J.size F.size) t.size) r.size) q.size) k.size) g.size) h.size) i.size) o.size) p.size) d.size) j.size) G.size) (bC.lo (le (le (le (le (le (le (le (le (le (le (le (le (le J.size F.size) t.size) r.size) q.size) k.size) g.size) h.size) i.size) o.size) p.size) d.size) j.size) G.size))),aI.nil ..,(c8 (by omega))⟩ (ut c2 (us a5 a6) (ac (nr b7) (ac (ni (le (le (le (le (le (le (le (le (le (le (le (le J.size F.size) t.size) r.size) q.size) k.size) g.size) h.size) i.size) o.size) p.size) d.size) j.size) v) aA)))
theorem oO(hd:dir=0∨dir=1)(hsl:aO m w (.slice A b.length cp) b)(hb:b.length≤1048576) :
    Calls Tryz.prog 102 #[vI 1,vB 20,.slice A b.length cp] w (eo (aq bo 1 20 b) w):=by
 have hln:(b.length:Int)≤1048576:=by omega
 have cJ:((dir != 0)&&(dir != 1))=false:=by rcases hd with rfl | rfl<;>rfl
 refine AF 77 Tryz.func102 rfl<|sg<|aK mZ fun b5 cK b7 Q I=>aj 1<|sq<|ax 6<|c0<|bp<|ak 2<|az (args:=#[vI 1,vB 20])<|e3 xc fun J cL a7 B E=>Pl 3<|aK #[.nilFunc,.nilFunc] fun cM cN cd b8 t=>aE b8 #[.func (.func 216) #[] #[],.func (.func 217) #[] #[]] fun cP ce r=>aj 1<|sq<|sq<|go<|aj 2<|c0<|bp<|ak 1<|?_
 have Z:=ud t r cd
 have a8:=aM E Z
 have ba:=aM I a8
 refine az<|e3 (dA (aO.old hsl ba) (by omega)) fun a9 cQ K M q=>Pl 1<|aL 1<|az<|m3 (bM M) fun cS cf k cT=>b6 ((al.mk b false 0).byteV)<|Pl 1<|aL 2<|?_
 have ad:=ud q k K
 have bb:=ub ad ce
 refine aH bb 0<|Pl 1<|L0<|i4 #[] #[] (args:=#[vI ((al.mk b false 0).byteV)])<|m1 (qV (n:=(al.mk b false 0).byteV) (by omega)) fun cU g=>?_
 refine az<|m2 (bf ((i5 ((al.mk b false 0).byteV))) 5 (ae.old cf g)) fun cV cg h=>?_
 refine ab cg fun x49 bc bd=>?_
 refine aL 2<|az<|tT (c3 (n:=(al.mk b false 0).byteV) bd) fun cW cX cY ch cZ d0 cj i=>?_
 have d1:=Nat.le_trans (al.bytesR_le x49 ((al.mk b false 0).byteV)) (ae.len bd)
 refine ab cj fun x58 be ck=>?_
 refine az<|e3 (dA ch (by omega)) fun S d2 af G o=>Pl 1<|aL 2<|aK mZ fun D d3 N O p=>aE O (mC 20) fun d4 cm d=>nt<|sq<|ak 2<|?_
 have a0:=ud p d N
 have bl:=aM o a0
 have bm:=uz g (u1 h (aM i bl) im)
 refine aH (aY bm (nb (ag b8) r.size K) bb) 1<|az<|Aj (l9 (gb:=S) (f:=.func 217) (x:=#[]) (y:=#[])) fun cn co d5 am an d6 bq br j=>nt<|bk<|qP (f:=220) #[vP cn 0,vP co 0] fun a ha=>?_
 intro d7 d8 T cq v H bs ao P F
 have bu:=nb (ae.lt G) lr N
 have a1:=nb (ae.lt G) (le (le p.size d.size) j.size) H
 have bv:=nb (ag B) (le (le (le (le (le (le (le t.size r.size) q.size) k.size) g.size) h.size) i.size) o.size) N
 have bw:=nb (ag B) (le (le (le (le (le (le (le (le (le (le t.size r.size) q.size) k.size) g.size) h.size) i.size) o.size) p.size) d.size) j.size) H
 have U:=nb (ag O) (le d.size j.size) H
 have a2:=aM j F
 have bx:=ae.old G (aM a0 a2)
 have bz:=ud ad (aM bm a2) K
 have bB:=ub (aM Z bz) B
 have ap:=ub a2 cm
 refine(zQ (c:=20) bx bB ap P (ub F bq) (ub F br) (Ne.symm (nb (ag B) (le (le (le (le (le (le t.size r.size) q.size) k.size) g.size) h.size) i.size) af)) bu a1 bv bw U (Ne.symm (nb (ae.lt G) a0.size am)) (Ne.symm (nb (ag B) (le (le (le (le (le (le (le (le (le t.size r.size) q.size) k.size) g.size) h.size) i.size) o.size) p.size) d.size) am)) (Ne.symm (nb (ag O) d.size am)) (nb (ag bq) lr H) (Ne.symm (nb (ae.lt G) a0.size an)) (Ne.symm (nb (ag B) (le (le (le (le (le (le (le (le (le t.size r.size) q.size) k.size) g.size) h.size) i.size) o.size) p.size) d.size) an)) (Ne.symm (nb (ag O) d.size an)) (nb (ag br) lr H) ?_).mono ?_
 intro W C s L Ar cr x Ax cx hJ hrd hx1 hx2 hx3 hL
 simp only[ej] at hx1 hx2 hx3
 have hm2:W.heap[D]? = some (.cells #[vB 20,vB 0,vW 0,vW 0,vW 0,vW 0,vW 0,vW 0,vW 0,vW 0,vW 0,vW 0,nS,nS,nS,.slice Ar L.length cr,vB 0,vB 0,vB 0,vB 0,vB 0,nS] 45 (0,0)):=hJ.hm
 refine l6 hJ.hl ?_
 refine Cl ha 53<|AI<|lU<|zl #[vW 0,vW 0,vW 0,nS] fun d9 da bD cs bF=>lU<|iX cs #[vW x.file,vW x.record,vW x.count,.slice Ax x.words.length cx] fun db ct bG=>ur<|?_
 have bH:=ud bF bG bD
 refine Cw (ub bH hJ.hl) (by trivial) fun dc cu ar=>Cg<|AI<|AJ<|?_
 have bJ:=uz bH ar
 have bK:=aY bJ U hm2
 refine lU<|dp bK 15<|?_
 refine lU<|cO (aY ar (Ne.symm (nb (ag P) hJ.u.size bD)) ct)<|lU<|ep (m:=1) (e:=98) #[vW x.file,vW x.record,vW x.count,.slice Ax x.words.length cx] fun dd de df cv au=>?_
 have V:=aM bJ au
 have cw:=ky (R:=bC (.hi cq.heap.size)) (x:=(dx.mk x.file x.record x.count x.words)) cv rfl ⟨_,rfl,(fg.updl hrd V hJ.hl rfl),ci (x:=x.file) (by omega),ci (x:=x.record) (by omega),ci (x:=x.count) (by omega)⟩
 have aw:=ai hJ.ho V (fun x hx=>(aa (fun e=>(aG (ag P) lr hJ.ho) (e▸hx)) ay)) (bC.updl V hJ.hl rfl)
 refine lU<|gL (xs:=L) (ys:=([(dx.mk x.file x.record x.count x.words)])) (.agg #[vW 0,vW 0,vW 0,nS]) 4 32 aw cw (by simp) bC.ones (fun w' hv=>bC.upd16 hv (b9 (bi _ aw (by decide)) aC)) (by(try simp only[cD,aN]);omega) (le (le (le (le hJ.u.size bF.size) bG.size) ar.size) au.size) fun bL bN dg aF aP=>AJ<|?_
 have bO:=ut (aD.mono (S':=(ob Ar++[])) au aA) aP (aB il aA)
 have aR:=aD.blk bO (aZ (aG (ag ap) lr hJ.ho) ay) bK
 refine lU<|bI aR 15 (mG 20 0 0 0 0 0 0 0 0 0 0 0 nS nS nS (.slice bL ((L++[(dx.mk x.file x.record x.count x.words)]).length) bN) 0 0 0 0 0 nS) fun dh cz X=>ur<|bn<|?_
 have aS:=aD.blk (u1 (aD.mono (S':=(ob Ar++(D :: []))) bO (aB il aA)) X im) (aZ (aG (ag P) lr hJ.ho) (aa (Ne.symm U) ay)) cu
 refine BY aS fun di cA Y=>?_
 have aU:=ut (aD.mono (S':=(T :: (ob Ar++(D :: [])))) V (ac im aA)) (ut (aD.mono (S':=(ob Ar++(D :: (T :: [])))) aP (aB il aA)) (us X Y) (ac im (ac im aA))) (aB il (ac im (ac im aA)))
 exact⟨by trivial,aU.size,bL,bN,⟨(ut hJ.u aU (ac im (aB (bE hJ.ho lr) (ac im aA)))),(ae.updl (ae.upd (ae.upd (ae.updl hJ.hC V (aa a1 ay) hJ.hl rfl) aP (aZ (aG (ae.lt bx) lr hJ.ho) ay) (b9 (bi _ aw (by decide)) aC)) X (aa bu ay) (ah (aW aR (by decide)) aC)) Y (aa a1 ay) aS rfl),(aD.blk aU (aa bw (aZ (aG (ag bB) lr hJ.ho) (aa bv ay))) hJ.hS),(aY Y U cz),(ai (ai aF X (fun x hx=>(aa (fun e=>(aG (ag ap) lr aF) (e▸hx)) ay)) (bC.upd16 X (ah (aW aR (by decide)) aC))) Y (fun x hx=>(aa (fun e=>(aG (ag P) lr aF) (e▸hx)) ay)) (bC.updl Y aS rfl)),cA⟩⟩
 rintro _ cB ⟨rfl,dq,bP,bQ,z⟩
 refine⟨_,_,rfl,z.hl,by simp[dO],by trivial,fun dr bS=>?_⟩
 refine ab z.hC fun aV bT cC=>?_
 have cE:cB.heap[D]? = some (.cells #[vB 20,vB 0,vW 0,vW 0,vW 0,vW 0,vW 0,vW 0,vW 0,vW 0,vW 0,vW 0,nS,nS,nS,.slice bP ((aT bR (al.mk (x49.bytesR ((al.mk b false 0).byteV)) false 0).l.length 0 (al.mk (x49.bytesR ((al.mk b false 0).byteV)) false 0) []).2.length) bQ,vB 0,vB 0,vB 0,vB 0,vB 0,nS] 45 (0,0)):=z.hm
 refine bn<|tn<|ak 2<|?_
 have a3:=ae.updl cC bS (aa a1 ay) z.hl rfl
 refine az<|mq (cl a3)<|?_
 have ds:=ae.len a3
 refine Pl 2<|az<|mq (cl a3)<|?_
 have du:=ae.len a3
 refine az<|m1 (iJ (e:=aV.e)) fun dv cF=>?_
 have a4:=aM bS cF
 have bU:=u1 z.u a4 im
 have bV:=ud ad (uz g (u1 h i im)) K
 have bW:=ae.upd ck (ut (aD.mono (S':=[J]) bl aA) (ut (aD.mono (S':=[S,J,D]) a2 aA) bU (ac im (ac im (ac im (ac (ni j.size H) aA))))) (ac (nr af) (ac im (ac (ni o.size N) aA)))) (aa (Ne.symm (nb (ag B) Z.size K)) ay) (ah (aW (ub (aM Z bV) B) (by decide)) aC)
 refine az<|m2 (bf ((aV.e==0)) (bt aV.e) bW) fun dw cG aX=>?_
 refine ab cG fun bX bY bZ=>?_
 refine aL 1<|az<|m2 (et bZ) fun dy c1 b0=>nt<|sq<|ak 1<|az<|mq (cl c1)<|?_
 have dz:=ae.len c1
 refine Pl 1<|cy 2<|?_
 have c2:=u1 aX b0 im
 have b1:=u1 (aD.mono (S':=[S,J,D,T,a9]) bU (ac im (ac im (ac im (ac im aA))))) c2 im
 have b2:=ut (aD.mono (S':=[J]) bz aA) b1 (ac (ni bV.size af) (ac im (ac (ni (le (le (le (le (le q.size k.size) g.size) h.size) i.size) o.size) N) (ac (ni (le (le (le (le (le (le (le (le q.size k.size) g.size) h.size) i.size) o.size) p.size) d.size) j.size) H) (ac (nr K) aA)))))
 have c4:=ud ba b2 (le I.size a7)
 have hs:aq bo 1 20 b=bA (bg.mk 20 0 0 0 0 0 0 0 0 0 0 0 [] [] [] (aT bR (al.mk ((((al.mk b false 0).bytesC 1).need (i5 ((al.mk b false 0).byteV)) 5).bytesR ((al.mk b false 0).byteV)) false 0).l.length 0 (al.mk ((((al.mk b false 0).bytesC 1).need (i5 ((al.mk b false 0).byteV)) 5).bytesR ((al.mk b false 0).byteV)) false 0) []).2 0 0 0 0 0 []) (((((al.mk b false 0).bytesC 1).need (i5 ((al.mk b false 0).byteV)) 5).bytesC ((al.mk b false 0).byteV)).need (((aT bR (al.mk ((((al.mk b false 0).bytesC 1).need (i5 ((al.mk b false 0).byteV)) 5).bytesR ((al.mk b false 0).byteV)) false 0).l.length 0 (al.mk ((((al.mk b false 0).bytesC 1).need (i5 ((al.mk b false 0).byteV)) 5).bytesR ((al.mk b false 0).byteV)) false 0) []).1).e==0) (bt ((aT bR (al.mk ((((al.mk b false 0).bytesC 1).need (i5 ((al.mk b false 0).byteV)) 5).bytesR ((al.mk b false 0).byteV)) false 0).l.length 0 (al.mk ((((al.mk b false 0).bytesC 1).need (i5 ((al.mk b false 0).byteV)) 5).bytesR ((al.mk b false 0).byteV)) false 0) []).1).e)):=by
   unfold aq bo ex zB zC ny
   (try simp only[bj,dl,dm,dj,dn,dk,reduceIte,vT,uZ,uO])
   all_goals rfl
 refine cb ((bX.endC.e != 0)) (fun b3=>?_) (fun b3=>?_)
 have b4:=av b3
 refine ak 2<|?_
 refine aE (ub (ud a8 b2 a7) Q) mZ fun dB cH c5=>aj 1<|bh<|?_
 have c6:=nb (ag Q) (le (le (le (le (le (le (le (le (le (le (le E.size t.size) r.size) q.size) k.size) g.size) h.size) i.size) o.size) p.size) d.size) j.size) v
 refine AE (aD.blk (u1 (aD.mono (S':=[S,J,D,T,a9,b5]) b1 (ac im (ac im (ac im (ac im (ac im aA)))))) c5 im) (aa (Ne.symm (nb (ae.lt G) (le (le p.size d.size) j.size) v)) (aa (Ne.symm (nb (ag B) (le (le (le (le (le (le (le (le (le (le t.size r.size) q.size) k.size) g.size) h.size) i.size) o.size) p.size) d.size) j.size) v)) (aa (Ne.symm (nb (ag O) (le d.size j.size) v)) (aa bs (aa (Ne.symm (nb (ae.lt M) (le (le (le (le (le (le (le k.size g.size) h.size) i.size) o.size) p.size) d.size) j.size) v)) (aa (Ne.symm c6) ay)))))) ao) fun dC c7=>?_
 refine rx (aY c7 c6 cH) (vI bX.endC.e)<|?_
 subst bY bT be bc
 rw[hs]
 exact cR b4 (ut c4 (us c5 c7) (ac (nr b7) (ac (ni (le (le (le (le (le (le (le (le (le (le (le (le I.size E.size) t.size) r.size) q.size) k.size) g.size) h.size) i.size) o.size) p.size) d.size) j.size) v) aA)))
 have b4:=aJ b3
 refine bp<|sg<|?_
 refine L0<|cO (aD.blk (us a4 c2) (aa U (aa (Ne.symm (nb (ae.lt M) (le (le (le (le k.size g.size) h.size) i.size) o.size) N)) ay)) cE)<|?_
 have c9:=ub (ud a8 b2 a7) Q
 refine aE c9 (mG 20 0 0 0 0 0 0 0 0 0 0 0 nS nS nS (.slice bP ((aT bR (al.mk (x49.bytesR ((al.mk b false 0).byteV)) false 0).l.length 0 (al.mk (x49.bytesR ((al.mk b false 0).byteV)) false 0) []).2.length) bQ) 0 0 0 0 0 nS) fun dD cI a5=>aj 1<|rt<|?_
 have ca:=nb (ag Q) (le (le (le (le (le (le (le (le (le (le (le E.size t.size) r.size) q.size) k.size) g.size) h.size) i.size) o.size) p.size) d.size) j.size) v
 have cc:=aD.blk (u1 (aD.mono (S':=[S,J,D,T,a9,b5]) b1 (ac im (ac im (ac im (ac im (ac im aA)))))) a5 im) (aa (Ne.symm (nb (ae.lt G) (le (le p.size d.size) j.size) v)) (aa (Ne.symm (nb (ag B) (le (le (le (le (le (le (le (le (le (le t.size r.size) q.size) k.size) g.size) h.size) i.size) o.size) p.size) d.size) j.size) v)) (aa (Ne.symm (nb (ag O) (le d.size j.size) v)) (aa bs (aa (Ne.symm (nb (ae.lt M) (le (le (le (le (le (le (le k.size g.size) h.size) i.size) o.size) p.size) d.size) j.size) v)) (aa (Ne.symm ca) ay)))))) ao
 refine AE cc fun dE a6=>?_
 refine rx (aY a6 ca cI) (vI 0)<|?_
 subst bY bT be bc
 rw[hs]
 exact dt b4 ⟨_,_,_,_,_,rfl,aI.nil ..,aI.nil ..,aI.nil ..,(aI.hi_le (aQ.hi (ai (ai (ai (ai (ai z.ho a4 (fun x hx=>(aa (fun e=>(aG (ag P) lr z.ho) (e▸hx)) ay)) (bC.updl a4 z.hl rfl)) aX (fun x hx=>(aa (fun e=>(aG (ae.lt M) (le (le (le (le (le (le (le (le k.size g.size) h.size) i.size) o.size) p.size) d.size) j.size) F.size) z.ho) (e▸hx)) ay)) (bC.upd16 aX (ah (ae.safe bW _ (by decide)) aC))) b0 (fun x hx=>(aa (fun e=>(aG (ae.lt M) (le (le (le (le (le (le (le (le k.size g.size) h.size) i.size) o.size) p.size) d.size) j.size) F.size) z.ho) (e▸hx)) ay)) (bC.upd16 b0 (ah (ae.safe bZ _ (by decide)) aC))) a5 (fun x hx=>(aa (fun e=>(aG (ag Q) (le (le (le (le (le (le (le (le (le (le (le (le E.size t.size) r.size) q.size) k.size) g.size) h.size) i.size) o.size) p.size) d.size) j.size) F.size) z.ho) (e▸hx)) ay)) (bC.upd16 a5 (ah (aW c9 (by decide)) aC))) a6 (fun x hx=>(aa (fun e=>(aG (ag ao) lr z.ho) (e▸hx)) ay)) (bC.updl a6 cc rfl)) lr) (le (le (le (le (le (le (le (le (le (le (le (le (le I.size E.size) t.size) r.size) q.size) k.size) g.size) h.size) i.size) o.size) p.size) d.size) j.size) F.size) (bC.lo (le (le (le (le (le (le (le (le (le (le (le (le (le I.size E.size) t.size) r.size) q.size) k.size) g.size) h.size) i.size) o.size) p.size) d.size) j.size) F.size))),aI.nil ..,(c8 (by omega))⟩ (ut c4 (us a5 a6) (ac (nr b7) (ac (ni (le (le (le (le (le (le (le (le (le (le (le (le I.size E.size) t.size) r.size) q.size) k.size) g.size) h.size) i.size) o.size) p.size) d.size) j.size) v) aA)))
theorem nc(hd:dir=0∨dir=1)(hsl:aO m w (.slice A b.length cp) b)(hb:b.length≤1048576) :
    Calls Tryz.prog 102 #[vI dir,vB 21,.slice A b.length cp] w (eo (aq bo dir 21 b) w):=by
 have hln:(b.length:Int)≤1048576:=by omega
 have b7:((dir != 0)&&(dir != 1))=false:=by rcases hd with rfl | rfl<;>rfl
 refine AF 77 Tryz.func102 rfl<|sg<|aK mZ fun b8 cQ ba S I=>aj 1<|sq<|ak 3<|cV 3 [18] 21 18 (dir != 0) (dir != 1) (fun K cg ch=>?_) ?_
 have cS:=av ch
 exact Pl 3<|ce cg _ rfl
 refine nt<|cf b7<|bp<|ak 2<|az (args:=#[vI dir,vB 21])<|e3 xx fun J cT a8 B E=>Pl 3<|aK #[.nilFunc,.nilFunc] fun cU cW cj bb t=>aE bb #[.func (.func 218) #[] #[],.func (.func 219) #[] #[]] fun cX ck r=>Pl 1<|nl<|tn<|sq<|ax 2<|c0<|bp<|ak 1<|?_
 have a0:=ud t r cj
 have a9:=aM E a0
 have bc:=aM I a9
 refine az<|e3 (dA (aO.old hsl bc) (by omega)) fun ad cY M N q=>Pl 1<|aL 1<|az<|m3 (bM N) fun cZ cm k d0=>b6 ((al.mk b false 0).byteV)<|Pl 1<|aL 2<|?_
 have af:=ud q k M
 have bd:=ub af ck
 refine aH bd 0<|Pl 1<|L0<|i4 #[] #[] (args:=#[vI ((al.mk b false 0).byteV)])<|m1 (qu (n:=(al.mk b false 0).byteV) (by omega)) fun d1 g=>?_
 refine az<|m2 (bf ((i3 ((al.mk b false 0).byteV))) 5 (ae.old cm g)) fun d2 cn h=>?_
 refine ab cn fun x51 be bl=>?_
 refine aL 2<|az<|tT (c3 (n:=(al.mk b false 0).byteV) bl) fun d3 d4 d5 co d6 d7 cq i=>?_
 have d8:=Nat.le_trans (al.bytesR_le x51 ((al.mk b false 0).byteV)) (ae.len bl)
 refine ab cq fun x60 bm cs=>?_
 refine az<|e3 (dA co (by omega)) fun T d9 am G o=>Pl 1<|aL 2<|aK mZ fun D da O P p=>aE P (mC 21) fun db ct d=>nt<|sq<|ak 2<|?_
 have a1:=ud p d O
 have bq:=aM o a1
 have br:=uz g (u1 h (aM i bq) im)
 refine aH (aY br (nb (ag bb) r.size M) bd) 1<|az<|Aj (l9 (gb:=T) (f:=.func 219) (x:=#[]) (y:=#[])) fun cu cv dc an ao dd bs bu j=>nt<|bk<|qP (f:=220) #[vP cu 0,vP cv 0] fun a ha=>?_
 intro de df U cw v H bv ap Q F
 have bw:=nb (ae.lt G) lr O
 have a2:=nb (ae.lt G) (le (le p.size d.size) j.size) H
 have bx:=nb (ag B) (le (le (le (le (le (le (le t.size r.size) q.size) k.size) g.size) h.size) i.size) o.size) O
 have bz:=nb (ag B) (le (le (le (le (le (le (le (le (le (le t.size r.size) q.size) k.size) g.size) h.size) i.size) o.size) p.size) d.size) j.size) H
 have V:=nb (ag P) (le d.size j.size) H
 have a3:=aM j F
 have bB:=ae.old G (aM a1 a3)
 have bD:=ud af (aM br a3) M
 have bF:=ub (aM a0 bD) B
 have ar:=ub a3 ct
 refine(Ap (c:=21) bB bF ar Q (ub F bs) (ub F bu) (Ne.symm (nb (ag B) (le (le (le (le (le (le t.size r.size) q.size) k.size) g.size) h.size) i.size) am)) bw a2 bx bz V (Ne.symm (nb (ae.lt G) a1.size an)) (Ne.symm (nb (ag B) (le (le (le (le (le (le (le (le (le t.size r.size) q.size) k.size) g.size) h.size) i.size) o.size) p.size) d.size) an)) (Ne.symm (nb (ag P) d.size an)) (nb (ag bs) lr H) (Ne.symm (nb (ae.lt G) a1.size ao)) (Ne.symm (nb (ag B) (le (le (le (le (le (le (le (le (le t.size r.size) q.size) k.size) g.size) h.size) i.size) o.size) p.size) d.size) ao)) (Ne.symm (nb (ag P) d.size ao)) (nb (ag bu) lr H) ?_).mono ?_
 intro W C s L Ar cr x Ax cx hJ hrd hx1 hx2 hx3 hL
 simp only[ej] at hx1 hx2 hx3
 have hm2:W.heap[D]? = some (.cells #[vB 21,vB 0,vW 0,vW 0,vW 0,vW 0,vW 0,vW 0,vW 0,vW 0,vW 0,vW 0,nS,nS,nS,.slice Ar L.length cr,vB 0,vB 0,vB 0,vB 0,vB 0,nS] 45 (0,0)):=hJ.hm
 refine l6 hJ.hl ?_
 refine Cl ha 53<|AI<|lU<|zl #[vW 0,vW 0,vW 0,nS] fun dg dh bG cz bH=>lU<|iX cz #[vW x.file,vW x.record,vW x.count,.slice Ax x.words.length cx] fun di cA bJ=>ur<|?_
 have bK:=ud bH bJ bG
 refine Cw (ub bK hJ.hl) (by trivial) fun dq cB au=>Cg<|AI<|AJ<|?_
 have bL:=uz bK au
 have bN:=aY bL V hm2
 refine lU<|dp bN 15<|?_
 refine lU<|cO (aY au (Ne.symm (nb (ag Q) hJ.u.size bG)) cA)<|lU<|ep (m:=1) (e:=98) #[vW x.file,vW x.record,vW x.count,.slice Ax x.words.length cx] fun dr ds du cC aw=>?_
 have X:=aM bL aw
 have cE:=ky (R:=bC (.hi cw.heap.size)) (x:=(dx.mk x.file x.record x.count x.words)) cC rfl ⟨_,rfl,(fg.updl hrd X hJ.hl rfl),ci (x:=x.file) (by omega),ci (x:=x.record) (by omega),ci (x:=x.count) (by omega)⟩
 have aF:=ai hJ.ho X (fun x hx=>(aa (fun e=>(aG (ag Q) lr hJ.ho) (e▸hx)) ay)) (bC.updl X hJ.hl rfl)
 refine lU<|gL (xs:=L) (ys:=([(dx.mk x.file x.record x.count x.words)])) (.agg #[vW 0,vW 0,vW 0,nS]) 4 32 aF cE (by simp) bC.ones (fun w' hv=>bC.upd16 hv (b9 (bi _ aF (by decide)) aC)) (by(try simp only[cD,aN]);omega) (le (le (le (le hJ.u.size bH.size) bJ.size) au.size) aw.size) fun bO bP dv aP aR=>AJ<|?_
 have bQ:=ut (aD.mono (S':=(ob Ar++[])) aw aA) aR (aB il aA)
 have aS:=aD.blk bQ (aZ (aG (ag ar) lr hJ.ho) ay) bN
 refine lU<|bI aS 15 (mG 21 0 0 0 0 0 0 0 0 0 0 0 nS nS nS (.slice bO ((L++[(dx.mk x.file x.record x.count x.words)]).length) bP) 0 0 0 0 0 nS) fun dw cF Y=>ur<|bn<|?_
 have aU:=aD.blk (u1 (aD.mono (S':=(ob Ar++(D :: []))) bQ (aB il aA)) Y im) (aZ (aG (ag Q) lr hJ.ho) (aa (Ne.symm V) ay)) cB
 refine BY aU fun dy cG Z=>?_
 have aV:=ut (aD.mono (S':=(U :: (ob Ar++(D :: [])))) X (ac im aA)) (ut (aD.mono (S':=(ob Ar++(D :: (U :: [])))) aR (aB il aA)) (us Y Z) (ac im (ac im aA))) (aB il (ac im (ac im aA)))
 exact⟨by trivial,aV.size,bO,bP,⟨(ut hJ.u aV (ac im (aB (bE hJ.ho lr) (ac im aA)))),(ae.updl (ae.upd (ae.upd (ae.updl hJ.hC X (aa a2 ay) hJ.hl rfl) aR (aZ (aG (ae.lt bB) lr hJ.ho) ay) (b9 (bi _ aF (by decide)) aC)) Y (aa bw ay) (ah (aW aS (by decide)) aC)) Z (aa a2 ay) aU rfl),(aD.blk aV (aa bz (aZ (aG (ag bF) lr hJ.ho) (aa bx ay))) hJ.hS),(aY Z V cF),(ai (ai aP Y (fun x hx=>(aa (fun e=>(aG (ag ar) lr aP) (e▸hx)) ay)) (bC.upd16 Y (ah (aW aS (by decide)) aC))) Z (fun x hx=>(aa (fun e=>(aG (ag Q) lr aP) (e▸hx)) ay)) (bC.updl Z aU rfl)),cG⟩⟩
 rintro _ cH ⟨rfl,dz,bR,bS,z⟩
 refine⟨_,_,rfl,z.hl,by simp[dO],by trivial,fun dB bT=>?_⟩
 refine ab z.hC fun aX bU cI=>?_
 have cJ:cH.heap[D]? = some (.cells #[vB 21,vB 0,vW 0,vW 0,vW 0,vW 0,vW 0,vW 0,vW 0,vW 0,vW 0,vW 0,nS,nS,nS,.slice bR ((aT cP (al.mk (x51.bytesR ((al.mk b false 0).byteV)) false 0).l.length 0 (al.mk (x51.bytesR ((al.mk b false 0).byteV)) false 0) []).2.length) bS,vB 0,vB 0,vB 0,vB 0,vB 0,nS] 45 (0,0)):=z.hm
 refine bn<|tn<|ak 2<|?_
 have a4:=ae.updl cI bT (aa a2 ay) z.hl rfl
 refine az<|mq (cl a4)<|?_
 have dC:=ae.len a4
 refine Pl 2<|az<|mq (cl a4)<|?_
 have dD:=ae.len a4
 refine az<|m1 (iJ (e:=aX.e)) fun dE cK=>?_
 have a5:=aM bT cK
 have bV:=u1 z.u a5 im
 have bW:=ud af (uz g (u1 h i im)) M
 have bX:=ae.upd cs (ut (aD.mono (S':=[J]) bq aA) (ut (aD.mono (S':=[T,J,D]) a3 aA) bV (ac im (ac im (ac im (ac (ni j.size H) aA))))) (ac (nr am) (ac im (ac (ni o.size O) aA)))) (aa (Ne.symm (nb (ag B) a0.size M)) ay) (ah (aW (ub (aM a0 bW) B) (by decide)) aC)
 refine az<|m2 (bf ((aX.e==0)) (bt aX.e) bX) fun dF cL b0=>?_
 refine ab cL fun bY bZ c1=>?_
 refine aL 1<|az<|m2 (et c1) fun dG c2 b1=>nt<|sq<|ak 1<|az<|mq (cl c2)<|?_
 have dH:=ae.len c2
 refine Pl 1<|cy 2<|?_
 have c4:=u1 b0 b1 im
 have b2:=u1 (aD.mono (S':=[T,J,D,U,ad]) bV (ac im (ac im (ac im (ac im aA))))) c4 im
 have b3:=ut (aD.mono (S':=[J]) bD aA) b2 (ac (ni bW.size am) (ac im (ac (ni (le (le (le (le (le q.size k.size) g.size) h.size) i.size) o.size) O) (ac (ni (le (le (le (le (le (le (le (le q.size k.size) g.size) h.size) i.size) o.size) p.size) d.size) j.size) H) (ac (nr M) aA)))))
 have c5:=ud bc b3 (le I.size a8)
 have hs:aq bo dir 21 b=bA (bg.mk 21 0 0 0 0 0 0 0 0 0 0 0 [] [] [] (aT cP (al.mk ((((al.mk b false 0).bytesC 1).need (i3 ((al.mk b false 0).byteV)) 5).bytesR ((al.mk b false 0).byteV)) false 0).l.length 0 (al.mk ((((al.mk b false 0).bytesC 1).need (i3 ((al.mk b false 0).byteV)) 5).bytesR ((al.mk b false 0).byteV)) false 0) []).2 0 0 0 0 0 []) (((((al.mk b false 0).bytesC 1).need (i3 ((al.mk b false 0).byteV)) 5).bytesC ((al.mk b false 0).byteV)).need (((aT cP (al.mk ((((al.mk b false 0).bytesC 1).need (i3 ((al.mk b false 0).byteV)) 5).bytesR ((al.mk b false 0).byteV)) false 0).l.length 0 (al.mk ((((al.mk b false 0).bytesC 1).need (i3 ((al.mk b false 0).byteV)) 5).bytesR ((al.mk b false 0).byteV)) false 0) []).1).e==0) (bt ((aT cP (al.mk ((((al.mk b false 0).bytesC 1).need (i3 ((al.mk b false 0).byteV)) 5).bytesR ((al.mk b false 0).byteV)) false 0).l.length 0 (al.mk ((((al.mk b false 0).bytesC 1).need (i3 ((al.mk b false 0).byteV)) 5).bytesR ((al.mk b false 0).byteV)) false 0) []).1).e)):=by
   unfold aq bo ex zB zC ny
   (try simp only[b7,bj,dl,dm,dj,dn,dk,reduceIte,vT,uZ,uO,if_pos hd])
   all_goals rfl
 refine cb ((bY.endC.e != 0)) (fun b4=>?_) (fun b4=>?_)
 have b5:=av b4
 refine ak 2<|?_
 refine aE (ub (ud a9 b3 a8) S) mZ fun dI cM c6=>aj 1<|bh<|?_
 have c7:=nb (ag S) (le (le (le (le (le (le (le (le (le (le (le E.size t.size) r.size) q.size) k.size) g.size) h.size) i.size) o.size) p.size) d.size) j.size) v
 refine AE (aD.blk (u1 (aD.mono (S':=[T,J,D,U,ad,b8]) b2 (ac im (ac im (ac im (ac im (ac im aA)))))) c6 im) (aa (Ne.symm (nb (ae.lt G) (le (le p.size d.size) j.size) v)) (aa (Ne.symm (nb (ag B) (le (le (le (le (le (le (le (le (le (le t.size r.size) q.size) k.size) g.size) h.size) i.size) o.size) p.size) d.size) j.size) v)) (aa (Ne.symm (nb (ag P) (le d.size j.size) v)) (aa bv (aa (Ne.symm (nb (ae.lt N) (le (le (le (le (le (le (le k.size g.size) h.size) i.size) o.size) p.size) d.size) j.size) v)) (aa (Ne.symm c7) ay)))))) ap) fun dJ c9=>?_
 refine rx (aY c9 c7 cM) (vI bY.endC.e)<|?_
 subst bZ bU bm be
 rw[hs]
 exact cR b5 (ut c5 (us c6 c9) (ac (nr ba) (ac (ni (le (le (le (le (le (le (le (le (le (le (le (le I.size E.size) t.size) r.size) q.size) k.size) g.size) h.size) i.size) o.size) p.size) d.size) j.size) v) aA)))
 have b5:=aJ b4
 refine bp<|sg<|?_
 refine L0<|cO (aD.blk (us a5 c4) (aa V (aa (Ne.symm (nb (ae.lt N) (le (le (le (le k.size g.size) h.size) i.size) o.size) O)) ay)) cJ)<|?_
 have ca:=ub (ud a9 b3 a8) S
 refine aE ca (mG 21 0 0 0 0 0 0 0 0 0 0 0 nS nS nS (.slice bR ((aT cP (al.mk (x51.bytesR ((al.mk b false 0).byteV)) false 0).l.length 0 (al.mk (x51.bytesR ((al.mk b false 0).byteV)) false 0) []).2.length) bS) 0 0 0 0 0 nS) fun dK cN a6=>aj 1<|rt<|?_
 have cc:=nb (ag S) (le (le (le (le (le (le (le (le (le (le (le E.size t.size) r.size) q.size) k.size) g.size) h.size) i.size) o.size) p.size) d.size) j.size) v
 have cd:=aD.blk (u1 (aD.mono (S':=[T,J,D,U,ad,b8]) b2 (ac im (ac im (ac im (ac im (ac im aA)))))) a6 im) (aa (Ne.symm (nb (ae.lt G) (le (le p.size d.size) j.size) v)) (aa (Ne.symm (nb (ag B) (le (le (le (le (le (le (le (le (le (le t.size r.size) q.size) k.size) g.size) h.size) i.size) o.size) p.size) d.size) j.size) v)) (aa (Ne.symm (nb (ag P) (le d.size j.size) v)) (aa bv (aa (Ne.symm (nb (ae.lt N) (le (le (le (le (le (le (le k.size g.size) h.size) i.size) o.size) p.size) d.size) j.size) v)) (aa (Ne.symm cc) ay)))))) ap
 refine AE cd fun dL a7=>?_
 refine rx (aY a7 cc cN) (vI 0)<|?_
 subst bZ bU bm be
 rw[hs]
 exact dt b5 ⟨_,_,_,_,_,rfl,aI.nil ..,aI.nil ..,aI.nil ..,(aI.hi_le (aQ.hi (ai (ai (ai (ai (ai z.ho a5 (fun x hx=>(aa (fun e=>(aG (ag Q) lr z.ho) (e▸hx)) ay)) (bC.updl a5 z.hl rfl)) b0 (fun x hx=>(aa (fun e=>(aG (ae.lt N) (le (le (le (le (le (le (le (le k.size g.size) h.size) i.size) o.size) p.size) d.size) j.size) F.size) z.ho) (e▸hx)) ay)) (bC.upd16 b0 (ah (ae.safe bX _ (by decide)) aC))) b1 (fun x hx=>(aa (fun e=>(aG (ae.lt N) (le (le (le (le (le (le (le (le k.size g.size) h.size) i.size) o.size) p.size) d.size) j.size) F.size) z.ho) (e▸hx)) ay)) (bC.upd16 b1 (ah (ae.safe c1 _ (by decide)) aC))) a6 (fun x hx=>(aa (fun e=>(aG (ag S) (le (le (le (le (le (le (le (le (le (le (le (le E.size t.size) r.size) q.size) k.size) g.size) h.size) i.size) o.size) p.size) d.size) j.size) F.size) z.ho) (e▸hx)) ay)) (bC.upd16 a6 (ah (aW ca (by decide)) aC))) a7 (fun x hx=>(aa (fun e=>(aG (ag ap) lr z.ho) (e▸hx)) ay)) (bC.updl a7 cd rfl)) lr) (le (le (le (le (le (le (le (le (le (le (le (le (le I.size E.size) t.size) r.size) q.size) k.size) g.size) h.size) i.size) o.size) p.size) d.size) j.size) F.size) (bC.lo (le (le (le (le (le (le (le (le (le (le (le (le (le I.size E.size) t.size) r.size) q.size) k.size) g.size) h.size) i.size) o.size) p.size) d.size) j.size) F.size))),aI.nil ..,(c8 (by omega))⟩ (ut c5 (us a6 a7) (ac (nr ba) (ac (ni (le (le (le (le (le (le (le (le (le (le (le (le I.size E.size) t.size) r.size) q.size) k.size) g.size) h.size) i.size) o.size) p.size) d.size) j.size) v) aA)))
theorem tH{c:Int}(n1:(c==20)=false)(n2:(c==21)=false) : Calls Tryz.prog 102 #[vI 0,vB c,.slice A b.length cp] w (eo (aq bo 0 c b) w):=by
 refine AF 77 Tryz.func102 rfl<|sg<|aK mZ fun n o d e f=>aj 1<|sq<|ax 6<|c0<|bp<|ak 2<|az (args:=#[vI 0,vB c])<|m1 (oB (dir:=0) (x:=c) n1 n2) fun p g=>Pl 3<|aK #[.nilFunc,.nilFunc] fun q r h i j=>aE i #[.nilFunc,.nilFunc] fun s t k=>aj 1<|sq<|sq<|go<|aj 2<|c1<|ak 1<|?_
 have a:=aM g (ud j k h)
 refine aE (ub a e) mZ fun u l m=>aj 1<|bh<|ry l (vI 4)<|?_
 exact dq (by unfold aq bo;(try simp only[bj,dl,dm,dj,dn,dk,reduceIte,n1,n2])<;>rfl) (c7 (ud f (uz a m) d))
theorem tD{c:Int}(n1:(c==20)=false)(n2:(c==21)=false) : Calls Tryz.prog 102 #[vI 1,vB c,.slice A b.length cp] w (eo (aq bo 1 c b) w):=by
 refine AF 77 Tryz.func102 rfl<|sg<|aK mZ fun n o d e f=>aj 1<|sq<|ax 6<|c0<|bp<|ak 2<|az (args:=#[vI 1,vB c])<|m1 (oB (dir:=1) (x:=c) n1 n2) fun p g=>Pl 3<|aK #[.nilFunc,.nilFunc] fun q r h i j=>aE i #[.nilFunc,.nilFunc] fun s t k=>aj 1<|sq<|sq<|go<|aj 2<|c1<|ak 1<|?_
 have a:=aM g (ud j k h)
 refine aE (ub a e) mZ fun u l m=>aj 1<|bh<|ry l (vI 4)<|?_
 exact dq (by unfold aq bo;(try simp only[bj,dl,dm,dj,dn,dk,reduceIte,n1,n2])<;>rfl) (c7 (ud f (uz a m) d))
theorem tI{c:Int}(hd:¬ (dir=0∨dir=1)) : Calls Tryz.prog 102 #[vI dir,vB c,.slice A b.length cp] w (eo (aq bo dir c b) w):=by
 have e0:(dir != 0)=true:=by simp;omega
 have e1:(dir != 1)=true:=by simp;omega
 refine AF 77 Tryz.func102 rfl<|sg<|aK mZ fun g h a d e=>aj 1<|sq<|ak 3<|sy 18 e0<|Pl 3<|nl<|tn<|ct e1<|ak 1<|aE d mZ fun i ej f=>aj 1<|bh<|ry ej (vI 1)<|?_
 exact dq (by unfold aq bo;(try simp only[e0,e1,bj,dl,dm,dj,dn,dk,reduceIte,hd])<;>rfl) (c7 (ud e f a))
variable {v:Value}
theorem oF{c:Int}(hc:B8 c)(h:aO m w v b)(hb:b.length≤1048576) :
    Calls Tryz.prog 102 #[.int .i64 dir,.int .u8 c,v] w (eo (aq bo dir c b) w):=by
  obtain⟨A,cp,rfl,_,_⟩:=h.shape
  by_cases h0:dir=0
  · subst h0
    by_cases a:c=20
    · subst a;exact oR (Or.inl (rfl:(0:Int)=0)) h hb
    by_cases d:c=21
    · subst d;exact nc (Or.inl rfl) h hb
    exact tH (by simpa using a) (by simpa using d)
  by_cases h1:dir=1
  · subst h1
    by_cases a:c=20
    · subst a;exact oO (Or.inl (rfl:(0:Int)=0)) h hb
    by_cases d:c=21
    · subst d;exact nc (Or.inr rfl) h hb
    exact tD (by simpa using a) (by simpa using d)
  exact tI (by omega)
open Go.RowKit
open Go.RowKit
open Go.RowKit
open Go.RowKit
open Go.RowKit
open Go.RowKit
open Go.RowKit
open Go.RowKit
open Go.RowKit
def kq:Nat→Int→List Int→bg × Int
  | 1,dir,b=>aq aU dir (b.getD 0 0) (b.drop 1)
  | 2,dir,b=>aq b7 dir (b.getD 0 0) (b.drop 1)
  | 3,dir,b=>aq bv dir (b.getD 0 0) (b.drop 1)
  | 4,dir,b=>aq bo dir (b.getD 0 0) (b.drop 1)
  | 5,dir,b=>aq ca dir (b.getD 0 0) (b.drop 1)
  | _,_,_=>(bg.zero,4)
def di (dir:Int)(b:List Int) : bg × Int :=
  if dir != 0&&dir != 1 then (bg.zero,1)
  else if (b.length:Int)==0 then (bg.zero,2)
  else if decide (253<(b.length:Int)) then (bg.zero,3)
  else if decide (128≤b.getD 0 0)&&dir==1 then gW b
  else kq (lM (b.getD 0 0)) dir b
theorem qE(hsl:aO m w (.slice A b.length cp) b)(hb:b.length≤1048576) :
    Calls Tryz.prog 83 #[vI dir,.slice A b.length cp] w (eo (di dir b) w):=by
 have hln:(b.length:Int)≤1048576:=by omega
 refine en 60 Tryz.func83 rfl<|sg<|aK mZ fun dl t h d a=>aj 1<|sq<|bk<|ak 3<|cV 3 [11] 14 11 (dir != 0) (dir != 1) (fun K c9 cc=>?_) ?_
 have dm:=av cc
 exact Pl 3<|ce c9 _ rfl
 refine aj 1<|cb (((dir != 0)&&(dir != 1))) (fun e=>?_) (fun e=>?_)
 have V:=(aR e).1
 have W:=(aR e).2
 have dn:=av V
 have dp:=av W
 refine ak 1<|aE d mZ fun dr cd cf=>aj 1<|rt<|br<|tr<|bV cd (vI 1)<|?_
 exact dq (by unfold di;(try simp only[e,V,W,bj,kq,reduceIte])<;>rfl) (c7 (ud a cf h))
 refine ax 4<|cb (((b.length:Int)==0)) (fun f=>?_) (fun f=>?_)
 have cg:=am f
 refine ak 1<|aE d mZ fun ds ch ci=>aj 1<|rt<|br<|tr<|bV ch (vI 2)<|?_
 exact dq (by unfold di;(try simp only[e,f,bj,kq,reduceIte])<;>rfl) (c7 (ud a ci h))
 have cg:=au f
 refine ax 4<|cb ((decide (253<(b.length:Int)))) (fun g=>?_) (fun g=>?_)
 have cj:=of_decide_eq_true g
 refine ak 1<|aE d mZ fun dt ck cl=>aj 1<|rt<|br<|tr<|bV ck (vI 3)<|?_
 exact dq (by unfold di;(try simp only[e,f,g,bj,kq,reduceIte])<;>rfl) (c7 (ud a cl h))
 have cj:=of_decide_eq_false g
 refine ak 1<|?_
 have s:=aO.old hsl a
 refine ea (aO.at_ s 0 (by omega)) fun X Y Z a0 du=>L0<|iV b.length 0 Z (by omega)<|L0<|dX (p:=⟨X,Y+0,none⟩) (v:=vB (b.getD 0 0)) a0<|Pl 2<|cV 3 [31] 34 31 (decide (128≤(b.getD 0 0))) (dir==1) (fun K cm cn=>?_) ?_
 have dv:=of_decide_eq_true cn
 exact Pl 3<|ce cm _ rfl
 refine aj 1<|cb (((decide (128≤(b.getD 0 0)))&&(dir==1))) (fun i=>?_) (fun i=>?_)
 have a1:=(aR i).1
 have a2:=(aR i).2
 have dx:=of_decide_eq_true a1
 have dy:=am a2
 refine ak 1<|az<|e2 (sJ s (by omega)) fun co dz u a3=>Pl 2<|?_
 have a4:=ub a3 d
 refine aE (hz:=(by rw[u.size];exact be)) (hv:=u.size) (h1:=u.one) a4 (co) fun dA cq a5=>aj 1<|rt<|br<|tr<|eW 22 u.size cq (vI (((gW b)).2))<|?_
 exact dq (by unfold di;(try simp only[e,f,g,i,a1,a2,bj,kq,reduceIte])<;>rfl) ⟨_,rfl,(aS.lo (aS.upd u a5 (ah (aW a4 (by decide)) aC)) a.size),(ud a (uz a3 a5) h)⟩
 refine sk<|bn<|tn<|ak 1<|L0<|iV b.length 0 Z (by omega)<|L0<|dX (p:=⟨X,Y+0,none⟩) (v:=vB (b.getD 0 0)) a0<|?_
 rcases jX (b.getD 0 0) with⟨hk,hkf⟩|⟨hk,hkf⟩|⟨hk,hkf⟩|⟨hk,hkf⟩|⟨hk,hkf⟩|⟨hk,hkf⟩
 have a6:=jY (x:=(b.getD 0 0)) (w:=t)
 rw[hkf] at a6
 refine az<|m1 a6 fun dB J=>Pl 3<|aK #[.nilFunc,.nilFunc] fun cr dC a7 cs a8=>aE cs #[.func (.func 96) #[] #[],.func (.func 97) #[] #[]] fun dD ct a9=>aj 1<|sq<|ax 2<|c0<|bp<|sq<|?_
 have aa:=aM J (ud a8 a9 a7)
 have ab:=aO.old s aa
 refine ea (aO.at_ ab 0 (by omega)) fun cu cv ac ad dE=>Rg 13 (fun w'=>w'.cell? ⟨cr,0,none⟩=some (.func (.func 96) #[] #[])∧w'.cell? ⟨cu,cv+0,none⟩=some (vB (b.getD 0 0))) fun dF y=>?_
 have ae:=ub y ct
 refine bB ⟨(ap ae rfl),(uc y ad)⟩ fun j=>Rt 0 j<|Rl 1 j (fun _ hs=>hs.1)<|Rt 2 j<|Rt 3 j<|kj 4 j b.length 0 0 rfl ac (by omega)<|Rl 5 j (fun _ hs=>hs.2)<|Rt 6 j<|iy (dw (P:=Tryz.prog) 27 5 1 Tryz.underlying27 rfl rfl A b.length cp 1 (by omega)) fun af hrun108 cw=>Rr 7 j (.slice af (b.length-1) (cp-1)) (fun _ _=>cH (kl:=.i64) (k:=((1:Nat) : Int)) (A:=A) (n:=b.length) (c:=cp) rfl Tryz.underlying27 (by kernel_rfl) (by kernel_rfl) (hrun108 _ _))<|?_
 refine R0 8 rfl<|i4 #[] #[] (args:=#[vI dir,vB (b.getD 0 0),.slice af (b.length-1) (cp-1)])<|e2 (pg (dir:=dir) (c:=(b.getD 0 0)) (b8 (by omega)) (cw _ _ _ _ _ (aO.old ab y)) (by(try simp only[List.length_drop]);omega)) fun cx dG z ai=>?_
 have al:=ub ai ae
 have an:=aM y ai
 refine bB ⟨(ap al rfl),(uc an ad)⟩ fun ao=>Rt 9 ao<|Rt 10 ao<|?_
 have ar:=aM aa an
 have aw:=ub ar d
 refine R0 11 rfl<|iX (hz:=(by rw[z.size];exact be)) (hv:=z.size) (h1:=z.one) aw (cx) fun dH cy L=>?_
 have ay:=ud a (uz ar L) h
 refine bB ⟨(ap (aY L (Ne.symm (nb (ag d) J.size a7)) al) rfl),(cB (aO.old hsl ay) ac 0 (by omega))⟩ fun cz=>Rt 12 cz<|re<|tn<|rt<|eW 22 z.size cy (vI (((aq aU dir (b.getD 0 0) (b.drop 1))).2))<|?_
 exact dq (by unfold di;(try simp only[e,f,g,i,bj,hkf,kq,reduceIte])<;>rfl) ⟨_,rfl,(aS.lo (aS.upd z L (ah (aW aw (by decide)) aC)) (le (le (le (le a.size J.size) a8.size) a9.size) y.size)),ay⟩
 have aA:=jY (x:=(b.getD 0 0)) (w:=t)
 rw[hkf] at aA
 refine az<|m1 aA fun dI M=>Pl 3<|aK #[.nilFunc,.nilFunc] fun cA dJ aB cC aD=>aE cC #[.func (.func 98) #[] #[],.func (.func 99) #[] #[]] fun dK cD aF=>aj 1<|sq<|ax 2<|c0<|bp<|sq<|?_
 have aG:=aM M (ud aD aF aB)
 have aH:=aO.old s aG
 refine ea (aO.at_ aH 0 (by omega)) fun cE cF aI aJ dL=>Rg 13 (fun w'=>w'.cell? ⟨cA,0,none⟩=some (.func (.func 98) #[] #[])∧w'.cell? ⟨cE,cF+0,none⟩=some (vB (b.getD 0 0))) fun dM B=>?_
 have aL:=ub B cD
 refine bB ⟨(ap aL rfl),(uc B aJ)⟩ fun l=>Rt 0 l<|Rl 1 l (fun _ hs=>hs.1)<|Rt 2 l<|Rt 3 l<|kj 4 l b.length 0 0 rfl aI (by omega)<|Rl 5 l (fun _ hs=>hs.2)<|Rt 6 l<|iy (dw (P:=Tryz.prog) 27 5 1 Tryz.underlying27 rfl rfl A b.length cp 1 (by omega)) fun aN hrun188 cG=>Rr 7 l (.slice aN (b.length-1) (cp-1)) (fun _ _=>cH (kl:=.i64) (k:=((1:Nat) : Int)) (A:=A) (n:=b.length) (c:=cp) rfl Tryz.underlying27 (by kernel_rfl) (by kernel_rfl) (hrun188 _ _))<|?_
 refine R0 8 rfl<|i4 #[] #[] (args:=#[vI dir,vB (b.getD 0 0),.slice aN (b.length-1) (cp-1)])<|e2 (ql (dir:=dir) (c:=(b.getD 0 0)) (b8 (by omega)) (cG _ _ _ _ _ (aO.old aH B)) (by(try simp only[List.length_drop]);omega)) fun cI dN C aP=>?_
 have aQ:=ub aP aL
 have aT:=aM B aP
 refine bB ⟨(ap aQ rfl),(uc aT aJ)⟩ fun aV=>Rt 9 aV<|Rt 10 aV<|?_
 have aX:=aM aG aT
 have aZ:=ub aX d
 refine R0 11 rfl<|iX (hz:=(by rw[C.size];exact be)) (hv:=C.size) (h1:=C.one) aZ (cI) fun dO cJ N=>?_
 have b0:=ud a (uz aX N) h
 refine bB ⟨(ap (aY N (Ne.symm (nb (ag d) M.size aB)) aQ) rfl),(cB (aO.old hsl b0) aI 0 (by omega))⟩ fun cK=>Rt 12 cK<|re<|tn<|rt<|eW 22 C.size cJ (vI (((aq b7 dir (b.getD 0 0) (b.drop 1))).2))<|?_
 exact dq (by unfold di;(try simp only[e,f,g,i,bj,hkf,kq,reduceIte])<;>rfl) ⟨_,rfl,(aS.lo (aS.upd C N (ah (aW aZ (by decide)) aC)) (le (le (le (le a.size M.size) aD.size) aF.size) B.size)),b0⟩
 have b1:=jY (x:=(b.getD 0 0)) (w:=t)
 rw[hkf] at b1
 refine az<|m1 b1 fun dP O=>Pl 3<|aK #[.nilFunc,.nilFunc] fun cL dQ b2 cM b3=>aE cM #[.func (.func 100) #[] #[],.func (.func 101) #[] #[]] fun dR cN b4=>aj 1<|sq<|ax 2<|c0<|bp<|sq<|?_
 have b5:=aM O (ud b3 b4 b2)
 have b6:=aO.old s b5
 refine ea (aO.at_ b6 0 (by omega)) fun cO cP b9 ba dS=>Rg 13 (fun w'=>w'.cell? ⟨cL,0,none⟩=some (.func (.func 100) #[] #[])∧w'.cell? ⟨cO,cP+0,none⟩=some (vB (b.getD 0 0))) fun dT D=>?_
 have bb:=ub D cN
 refine bB ⟨(ap bb rfl),(uc D ba)⟩ fun o=>Rt 0 o<|Rl 1 o (fun _ hs=>hs.1)<|Rt 2 o<|Rt 3 o<|kj 4 o b.length 0 0 rfl b9 (by omega)<|Rl 5 o (fun _ hs=>hs.2)<|Rt 6 o<|iy (dw (P:=Tryz.prog) 27 5 1 Tryz.underlying27 rfl rfl A b.length cp 1 (by omega)) fun bc hrun268 cQ=>Rr 7 o (.slice bc (b.length-1) (cp-1)) (fun _ _=>cH (kl:=.i64) (k:=((1:Nat) : Int)) (A:=A) (n:=b.length) (c:=cp) rfl Tryz.underlying27 (by kernel_rfl) (by kernel_rfl) (hrun268 _ _))<|?_
 refine R0 8 rfl<|i4 #[] #[] (args:=#[vI dir,vB (b.getD 0 0),.slice bc (b.length-1) (cp-1)])<|e2 (qn (dir:=dir) (c:=(b.getD 0 0)) (b8 (by omega)) (cQ _ _ _ _ _ (aO.old b6 D)) (by(try simp only[List.length_drop]);omega)) fun cR dU E bd=>?_
 have bf:=ub bd bb
 have bg:=aM D bd
 refine bB ⟨(ap bf rfl),(uc bg ba)⟩ fun bi=>Rt 9 bi<|Rt 10 bi<|?_
 have bl:=aM b5 bg
 have bm:=ub bl d
 refine R0 11 rfl<|iX (hz:=(by rw[E.size];exact be)) (hv:=E.size) (h1:=E.one) bm (cR) fun dV cS Q=>?_
 have bq:=ud a (uz bl Q) h
 refine bB ⟨(ap (aY Q (Ne.symm (nb (ag d) O.size b2)) bf) rfl),(cB (aO.old hsl bq) b9 0 (by omega))⟩ fun cT=>Rt 12 cT<|re<|tn<|rt<|eW 22 E.size cS (vI (((aq bv dir (b.getD 0 0) (b.drop 1))).2))<|?_
 exact dq (by unfold di;(try simp only[e,f,g,i,bj,hkf,kq,reduceIte])<;>rfl) ⟨_,rfl,(aS.lo (aS.upd E Q (ah (aW bm (by decide)) aC)) (le (le (le (le a.size O.size) b3.size) b4.size) D.size)),bq⟩
 have bs:=jY (x:=(b.getD 0 0)) (w:=t)
 rw[hkf] at bs
 refine az<|m1 bs fun dW R=>Pl 3<|aK #[.nilFunc,.nilFunc] fun cU dY bt cW bu=>aE cW #[.func (.func 102) #[] #[],.func (.func 103) #[] #[]] fun dZ cX bw=>aj 1<|sq<|ax 2<|c0<|bp<|sq<|?_
 have bx:=aM R (ud bu bw bt)
 have bz:=aO.old s bx
 refine ea (aO.at_ bz 0 (by omega)) fun cY cZ bA bC e0=>Rg 13 (fun w'=>w'.cell? ⟨cU,0,none⟩=some (.func (.func 102) #[] #[])∧w'.cell? ⟨cY,cZ+0,none⟩=some (vB (b.getD 0 0))) fun e1 F=>?_
 have bD:=ub F cX
 refine bB ⟨(ap bD rfl),(uc F bC)⟩ fun q=>Rt 0 q<|Rl 1 q (fun _ hs=>hs.1)<|Rt 2 q<|Rt 3 q<|kj 4 q b.length 0 0 rfl bA (by omega)<|Rl 5 q (fun _ hs=>hs.2)<|Rt 6 q<|iy (dw (P:=Tryz.prog) 27 5 1 Tryz.underlying27 rfl rfl A b.length cp 1 (by omega)) fun bE hrun348 d0=>Rr 7 q (.slice bE (b.length-1) (cp-1)) (fun _ _=>cH (kl:=.i64) (k:=((1:Nat) : Int)) (A:=A) (n:=b.length) (c:=cp) rfl Tryz.underlying27 (by kernel_rfl) (by kernel_rfl) (hrun348 _ _))<|?_
 refine R0 8 rfl<|i4 #[] #[] (args:=#[vI dir,vB (b.getD 0 0),.slice bE (b.length-1) (cp-1)])<|e2 (oF (dir:=dir) (c:=(b.getD 0 0)) (b8 (by omega)) (d0 _ _ _ _ _ (aO.old bz F)) (by(try simp only[List.length_drop]);omega)) fun d1 e3 G bF=>?_
 have bG:=ub bF bD
 have bH:=aM F bF
 refine bB ⟨(ap bG rfl),(uc bH bC)⟩ fun bI=>Rt 9 bI<|Rt 10 bI<|?_
 have bJ:=aM bx bH
 have bK:=ub bJ d
 refine R0 11 rfl<|iX (hz:=(by rw[G.size];exact be)) (hv:=G.size) (h1:=G.one) bK (d1) fun e4 d2 S=>?_
 have bL:=ud a (uz bJ S) h
 refine bB ⟨(ap (aY S (Ne.symm (nb (ag d) R.size bt)) bG) rfl),(cB (aO.old hsl bL) bA 0 (by omega))⟩ fun d3=>Rt 12 d3<|re<|tn<|rt<|eW 22 G.size d2 (vI (((aq bo dir (b.getD 0 0) (b.drop 1))).2))<|?_
 exact dq (by unfold di;(try simp only[e,f,g,i,bj,hkf,kq,reduceIte])<;>rfl) ⟨_,rfl,(aS.lo (aS.upd G S (ah (aW bK (by decide)) aC)) (le (le (le (le a.size R.size) bu.size) bw.size) F.size)),bL⟩
 have bM:=jY (x:=(b.getD 0 0)) (w:=t)
 rw[hkf] at bM
 refine az<|m1 bM fun e5 T=>Pl 3<|aK #[.nilFunc,.nilFunc] fun d4 e6 bN d5 bO=>aE d5 #[.func (.func 104) #[] #[],.func (.func 105) #[] #[]] fun e7 d6 bP=>aj 1<|sq<|ax 2<|c0<|bp<|sq<|?_
 have bQ:=aM T (ud bO bP bN)
 have bR:=aO.old s bQ
 refine ea (aO.at_ bR 0 (by omega)) fun d7 d8 bS bT e8=>Rg 13 (fun w'=>w'.cell? ⟨d4,0,none⟩=some (.func (.func 104) #[] #[])∧w'.cell? ⟨d7,d8+0,none⟩=some (vB (b.getD 0 0))) fun e9 H=>?_
 have bU:=ub H d6
 refine bB ⟨(ap bU rfl),(uc H bT)⟩ fun r=>Rt 0 r<|Rl 1 r (fun _ hs=>hs.1)<|Rt 2 r<|Rt 3 r<|kj 4 r b.length 0 0 rfl bS (by omega)<|Rl 5 r (fun _ hs=>hs.2)<|Rt 6 r<|iy (dw (P:=Tryz.prog) 27 5 1 Tryz.underlying27 rfl rfl A b.length cp 1 (by omega)) fun bW hrun428 d9=>Rr 7 r (.slice bW (b.length-1) (cp-1)) (fun _ _=>cH (kl:=.i64) (k:=((1:Nat) : Int)) (A:=A) (n:=b.length) (c:=cp) rfl Tryz.underlying27 (by kernel_rfl) (by kernel_rfl) (hrun428 _ _))<|?_
 refine R0 8 rfl<|i4 #[] #[] (args:=#[vI dir,vB (b.getD 0 0),.slice bW (b.length-1) (cp-1)])<|e2 (t7 (dir:=dir) (c:=(b.getD 0 0)) (b8 (by omega)) (d9 _ _ _ _ _ (aO.old bR H)) (by(try simp only[List.length_drop]);omega)) fun da eb I bX=>?_
 have bY:=ub bX bU
 have bZ:=aM H bX
 refine bB ⟨(ap bY rfl),(uc bZ bT)⟩ fun c2=>Rt 9 c2<|Rt 10 c2<|?_
 have c3:=aM bQ bZ
 have c4:=ub c3 d
 refine R0 11 rfl<|iX (hz:=(by rw[I.size];exact be)) (hv:=I.size) (h1:=I.one) c4 (da) fun ec db U=>?_
 have c5:=ud a (uz c3 U) h
 refine bB ⟨(ap (aY U (Ne.symm (nb (ag d) T.size bN)) bY) rfl),(cB (aO.old hsl c5) bS 0 (by omega))⟩ fun dc=>Rt 12 dc<|re<|tn<|rt<|eW 22 I.size db (vI (((aq ca dir (b.getD 0 0) (b.drop 1))).2))<|?_
 exact dq (by unfold di;(try simp only[e,f,g,i,bj,hkf,kq,reduceIte])<;>rfl) ⟨_,rfl,(aS.lo (aS.upd I U (ah (aW c4 (by decide)) aC)) (le (le (le (le a.size T.size) bO.size) bP.size) H.size)),c5⟩
 have c6:=jY (x:=(b.getD 0 0)) (w:=t)
 rw[hkf] at c6
 refine az<|m1 c6 fun ed dd=>Pl 3<|aK #[.nilFunc,.nilFunc] fun ee ef de df dg=>aE df #[.nilFunc,.nilFunc] fun eg eh dh=>aj 1<|sq<|ax 2<|c1<|ak 1<|?_
 have c8:=aM dd (ud dg dh de)
 refine aE (ub c8 d) mZ fun ei dj dk=>aj 1<|bh<|bV dj (vI 4)<|?_
 exact dq (by unfold di;(try simp only[e,f,g,i,bj,hkf,kq,reduceIte])<;>rfl) (c7 (ud a (uz c8 dk) h))
theorem jy(h:aO m w v b)(hb:b.length≤1048576) : Calls Tryz.prog 83 #[.int .i64 dir,v] w (eo (di dir b) w):=by
  obtain⟨A,cp,rfl,_,_⟩:=h.shape
  exact qE h hb
end Go.Proofs.YtdkhbcefkfgbdaaGreat
namespace Go.Proofs.YtdkhbcefkfgbdaaGreat
def N1 (C:al) : Prop:=C.e≠1
variable {C:al}
theorem N1.need{b:Bool}{x:Int}(hx:x≠1)(h:N1 C) : N1 (C.need b x):=by
  unfold N1 al.need at *
  split
  · exact hx
  · exact h
theorem N1.bytesC{n:Int}(h:N1 C) : N1 (C.bytesC n):=by
  unfold al.bytesC
  split
  · exact N1.need (by decide) h
  · exact h
theorem N1.wordsC{n:Int}(h:N1 C) : N1 (C.wordsC n):=by
  unfold al.wordsC
  split<;>exact N1.bytesC h
theorem N1.recs{one:Int→al→Int × al × dx}(ho:∀ s C,N1 C→N1 (one s C).2.1) : ∀ (n:Nat)(s:Int)(C:al)(L:List dx),N1 C→N1 (aT one n s C L).1
  | 0,_,_,_,h=>h
  | n+1,s,C,L,h=>by
    unfold aT
    split
    · split
      · exact ho s C h
      · exact N1.recs ho n _ _ _ (ho s C h)
    · exact h
theorem N1.endC(h:N1 C) : N1 C.endC:=by
  unfold al.endC
  exact N1.need (by decide) h
end Go.Proofs.YtdkhbcefkfgbdaaGreat
namespace Go.Proofs.YtdkhbcefkfgbdaaGreat
end Go.Proofs.YtdkhbcefkfgbdaaGreat
namespace Go.Proofs.YtdkhbcefkfgbdaaGreat
open Go.RowKit
variable {w w':World}
theorem sN(h:aD [] w w') : Below w.heap.size w w':=⟨h.os,h.tape,h.output,h.size,fun k hk=>h.block k hk (by simp)⟩
theorem t9{n:Int}(h:(Lit.int .u8 n).wf=true) : 0≤n∧n<256:=by
  have:=bounds_u8 h
  omega
open Go.RowKit
structure SL where
  aw:Option Addr
  kw:Nat
  ab:Option Addr
  kb:Nat
  ad:Option Addr
  kd:Nat
  ar:Option Addr
  kr:Nat
  ao:Option Addr
  ko:Nat
def iU (M:bg)(x:SL) : Array Value:=mG M.code M.fail M.addr M.count M.value M.and_ M.or_ M.addr2 M.sub M.status M.events M.messages (.slice x.aw M.words.length x.kw) (.slice x.ab M.bits.length x.kb) (.slice x.ad M.data.length x.kd) (.slice x.ar M.recs.length x.kr) M.mei M.kind M.level M.more M.next (.slice x.ao M.objects.length x.ko)
variable {cs:Array Value}{m:Md}
theorem lm{M:bg}(h:aS m w cs.toList M) : ∃ x,cs=iU M x:=by
  obtain⟨vw,vb,vd,vr,vo,h0,hw,hb,hd,hr,ho,hR⟩:=h
  obtain⟨aw,kw,rfl,_,_⟩:=hw.shape
  obtain⟨ab,kb,rfl,_,_⟩:=hb.shape
  obtain⟨ad,kd,rfl,_,_⟩:=hd.shape
  obtain⟨ar,kr,rfl,_,_⟩:=hr.shape
  obtain⟨ao,ko,rfl,_,_⟩:=ho.shape
  refine⟨⟨aw,kw,ab,kb,ad,kd,ar,kr,ao,ko⟩,?_⟩
  apply Array.toList_inj.1
  rw[h0]
  rfl
open Go.RowKit
def to:bg:={ bg.zero with code:=7 }
open Go.RowKit
structure bq where
  unit:Int
  tid:Int
  msg:bg
def bq.zero:bq:=⟨0,0,bg.zero⟩
def zk (m:Md)(w:World)(cs:Array Value)(F:bq) : Prop:=∃ c:Array Value,cs = #[.int .u8 F.unit,.int .u16 F.tid]++c∧aS m w c.toList F.msg∧B8 F.unit∧ej F.tid
def np (res:bq × Int)(w:World)(e:Ending)(w':World) : Prop:=∃ cs,e = .returned (.tuple #[.agg cs,.int .i64 res.2])∧zk (.hi w.heap.size) w' cs res.1∧aD [] w w'
theorem ec{x y:bq × Int}(h:x=y)  {e:Ending}  (k:np y w e w') : np x w e w':=by rw[h];exact k
def uD:Array Value:=#[.int .u8 0,.int .u16 0,.int .u8 0,.int .u8 0,.int .u16 0,.int .u16 0,.int .u16 0,.int .u16 0,.int .u16 0,.int .u16 0,.int .u16 0,.int .u16 0,.int .u16 0,.int .u16 0,.slice none 0 0,.slice none 0 0,.slice none 0 0,.slice none 0 0,.int .u8 0,.int .u8 0,.int .u8 0,.int .u8 0,.int .u8 0,.slice none 0 0]
theorem cX{x:Int}{W:World}(hu:aD [] w W) : np (bq.zero,x) w (.returned (.tuple #[.agg uD,.int .i64 x])) W:=⟨_,rfl,⟨kQ,(by kernel_rfl),aS.zero ..,(show(0:Int)≤0∧(0:Int)<256 from by decide),(show(0:Int)≤0∧(0:Int)<65536 from by decide)⟩,hu⟩
def bQ (u t:Int) : bg × Int→bq × Int
  | (M,E)=>if E != 0 then (bq.zero,E) else (⟨u,t,M⟩,0)
open Go.RowKit
deriving instance DecidableEq for bq
def k9 (u t:Int)(M:bg)(x:SL) : Array Value:=#[.int .u8 u,.int .u16 t,.int .u8 M.code,.int .u8 M.fail,.int .u16 M.addr,.int .u16 M.count,.int .u16 M.value,.int .u16 M.and_,.int .u16 M.or_,.int .u16 M.addr2,.int .u16 M.sub,.int .u16 M.status,.int .u16 M.events,.int .u16 M.messages,.slice x.aw M.words.length x.kw,.slice x.ab M.bits.length x.kb,.slice x.ad M.data.length x.kd,.slice x.ar M.recs.length x.kr,.int .u8 M.mei,.int .u8 M.kind,.int .u8 M.level,.int .u8 M.more,.int .u8 M.next,.slice x.ao M.objects.length x.ko]
theorem jJ(u t:Int)(M:bg)(x:SL) : k9 u t M x = #[.int .u8 u,.int .u16 t]++iU M x:=by kernel_rfl
open Go.RowKit
structure Ev where
  e:Int
  f:bq
def Ev.bad (e:Int) : Ev:=⟨e,bq.zero⟩
def lV (x:Ev)(s:SL) : Array Value:=#[.int .i64 x.e,.int .u8 x.f.unit,.int .u16 x.f.tid,.int .u8 x.f.msg.code,.int .u8 x.f.msg.fail,.int .u16 x.f.msg.addr,.int .u16 x.f.msg.count,.int .u16 x.f.msg.value,.int .u16 x.f.msg.and_,.int .u16 x.f.msg.or_,.int .u16 x.f.msg.addr2,.int .u16 x.f.msg.sub,.int .u16 x.f.msg.status,.int .u16 x.f.msg.events,.int .u16 x.f.msg.messages,.slice s.aw x.f.msg.words.length s.kw,.slice s.ab x.f.msg.bits.length s.kb,.slice s.ad x.f.msg.data.length s.kd,.slice s.ar x.f.msg.recs.length s.kr,.int .u8 x.f.msg.mei,.int .u8 x.f.msg.kind,.int .u8 x.f.msg.level,.int .u8 x.f.msg.more,.int .u8 x.f.msg.next,.slice s.ao x.f.msg.objects.length s.ko]
theorem zv(x:Ev)(s:SL) : lV x s = #[.int .i64 x.e]++k9 x.f.unit x.f.tid x.f.msg s:=by kernel_rfl
def cI (m:Md)(w:World)(x:Ev)(cs:List Value) : Prop:=∃ s,cs=(lV x s).toList∧aS m w (iU x.f.msg s).toList x.f.msg∧(0≤x.f.unit∧x.f.unit<256)∧(0≤x.f.tid∧x.f.tid<65536)
def kn (m:Md)(w:World)(f:bq)(cs:List Value) : Prop:=∃ s,cs=(k9 f.unit f.tid f.msg s).toList∧aS m w (iU f.msg s).toList f.msg∧(0≤f.unit∧f.unit<256)∧(0≤f.tid∧f.tid<65536)
def Da (m:Md)(w:World)(b:List Int)(cs:List Value) : Prop:=∃ v,cs=[v]∧aO m w v b
variable {k n:Nat}
theorem cI.lo{x:Ev}{cs:List Value}(hn:n≤k)(h:cI (.hi k) w x cs) : cI (.hi n) w x cs:=by
  obtain⟨s,h1,h2,h3⟩:=h
  exact⟨s,h1,h2.lo hn,h3⟩
theorem cI.tt{x:Ev}{cs:List Value}(h:cI (.hi k) w x cs) : cI true w x cs:=by
  obtain⟨s,h1,h2,h3⟩:=h
  exact⟨s,h1,h2.tt,h3⟩
abbrev nq (m:Md) (w:World) (v:Value) (xs:List Ev) : Prop:=aI m 87 25 (cI m) w v xs
abbrev lT (base:Nat) (w:World) (v:Value) (xs:List Ev) : Prop:=aQ base 87 25 (cI true) w v xs
abbrev v5 (base:Nat) (w:World) (v:Value) (xs:List Ev) : Prop:=aQ base 87 25 (cI (.hi base)) w v xs
variable {S:List Nat}
theorem cI.upd(hu:aD S w w')(hs:bZ m ff S w)(x:Ev)(cs:List Value)(h:cI m w x cs) : cI m w' x cs:=by
  obtain⟨s,h1,h2,h3⟩:=h
  exact⟨s,h1,h2.upd hu hs,h3⟩
variable {v:Value}{xs:List Ev}
theorem nq.upd'(h:nq m w v xs)(hu:aD S w w')(hs:bZ m (87 :: ff) S w) : nq m w' v xs:=aI.upd h hu (hs.sub fun t ht=>by rw[List.mem_singleton] at ht;rw[ht];exact List.mem_cons_self ..) (cI.upd hu (hs.sub fun t ht=>List.mem_cons_of_mem _ ht))
theorem nq.old(h:nq m w v xs)(hu:aD [] w w') : nq m w' v xs:=h.upd' hu (bZ.nil _ _ _)
theorem vC(x:Ev)(s:SL) : (lV x s).toList.length=25:=by kernel_rfl
theorem dY:aS m w (iU bg.zero ⟨none,0,none,0,none,0,none,0,none,0⟩).toList bg.zero:=aS.zero ..
theorem f5{w0:World}{g:Nat}  {x:Ev}(hg:w0.heap.size≤g)(hb:w.heap[g]? = some (.cells cs 87 (0,0)))(h:cI m w x cs.toList) : aQ w0.heap.size 87 25 (cI m) w (.slice (some ⟨g,0,none⟩) 1 1) [x]:=by
  have hh:=h
  obtain⟨s,h1,h2⟩:=hh
  have hl:cs.toList.length=25:=by rw[h1];exact vC x s
  clear h1
  refine⟨cs.toList,⟨hl,.inr ⟨g,1,cs,rfl,hg,hb,Nat.le_refl _,by unfold maxLen;omega,by simpa using hl,by rw[List.take_of_length_le];exact Nat.le_of_eq hl⟩⟩,fun j y hj=>?_⟩
  cases j with
  | succ j=>simp at hj
  | zero =>
    have hj:x=y:=by simpa using hj
    subst hj
    exact⟨cs.toList,hl,h,fun i u hi=>by simpa using hi⟩
theorem Ak{α β γ δ ε ζ:Sort _}{C:Prop}{P1 P2 P3 P4:α→β→γ→δ→ε→ζ→Prop}(h:∃ a b c d e f,P1 a b c d e f∧P2 a b c d e f∧P3 a b c d e f∧P4 a b c d e f)(k:∀ a b c d e f,P1 a b c d e f→P2 a b c d e f→P3 a b c d e f→P4 a b c d e f→C) : C :=
  let ⟨a,b,c,d,e,f,h1,h2,h3,h4⟩:=h;k a b c d e f h1 h2 h3 h4
theorem ka{α β γ δ:Sort _}{C:Prop}{P1 P2 P3 P4 P5:α→β→γ→δ→Prop}(h:∃ a b c d,P1 a b c d∧P2 a b c d∧P3 a b c d∧P4 a b c d∧P5 a b c d)(k:∀ a b c d,P1 a b c d→P2 a b c d→P3 a b c d→P4 a b c d→P5 a b c d→C) : C :=
  let ⟨a,b,c,d,h1,h2,h3,h4,h5⟩:=h;k a b c d h1 h2 h3 h4 h5
theorem lu{o m:Nat}{sub sub2:List Value}(hs:(cs.toList.drop o).take n=sub)(hv:(sub.drop k).take m=sub2)(hk:k+m≤n) : (cs.toList.drop (o+k)).take m=sub2:=by
  rw[← hv,← hs,List.drop_take,List.take_take,List.drop_drop,Nat.min_eq_left (by omega)]
theorem cI.ones(x:Ev)(cs:List Value)(h:cI m w x cs) : ∀ v,v∈cs→v.oneCell'=true:=by
  obtain⟨s,h1,h2,_⟩:=h
  have h3:=h2.one
  intro v hv
  rw[h1,zv,jJ,Array.toList_append,Array.toList_append,List.mem_append,List.mem_append] at hv
  clear h1
  rw[Array.all_eq_true'] at h3
  rcases hv with hv|hv|hv
  · simp at hv;subst hv;rfl
  · simp at hv;rcases hv with rfl | rfl<;>rfl
  · exact h3 v (by simpa using hv)
variable {A:Option Addr}{c:Nat}
theorem nq.elt(h:nq m w (.slice A n c) xs)(j:Nat)(hj:j<xs.length)(d:Ev) :
    ∃ b off cells t fr s,A=some ⟨b,off,none⟩∧w.heap[b]? = some (.cells cells t fr)∧(aS m w (iU (xs.getD j d).f.msg s).toList (xs.getD j d).f.msg∧(0≤(xs.getD j d).f.unit∧(xs.getD j d).f.unit<256)∧(0≤(xs.getD j d).f.tid∧(xs.getD j d).f.tid<65536))∧(cells.toList.drop (off+j*25)).take 25=(lV (xs.getD j d) s).toList:=by
  obtain⟨b,off,cells,t,fr,cs,h1,h2,h3,⟨s,h4,h5⟩,h6⟩:=aI.elt h d j hj
  exact⟨b,off,cells,t,fr,s,h1,h2,h5,h6.trans h4⟩
abbrev zI (m:Md) (w:World) (v:Value) (xs:List bq) : Prop:=aI m 47 24 (kn m) w v xs
abbrev p9 (m:Md) (w:World) (v:Value) (xs:List (List Int)) : Prop:=aI m 27 1 (Da m) w v xs
theorem kn.upd(hu:aD S w w')(hs:bZ m ff S w)(x:bq)(cs:List Value)(h:kn m w x cs) : kn m w' x cs:=by
  obtain⟨s,h1,h2,h3⟩:=h
  exact⟨s,h1,h2.upd hu hs,h3⟩
theorem zI.old{xs:List bq}(h:zI m w v xs)(hu:aD [] w w') : zI m w' v xs:=aI.upd h hu (bZ.nil _ _ _) (kn.upd hu (bZ.nil _ _ _))
theorem zI.elt{xs:List bq}(h:zI m w (.slice A n c) xs)(j:Nat)(hj:j<xs.length)(d:bq) :
    ∃ b off cells t fr s,A=some ⟨b,off,none⟩∧w.heap[b]? = some (.cells cells t fr)∧(aS m w (iU (xs.getD j d).msg s).toList (xs.getD j d).msg∧(0≤(xs.getD j d).unit∧(xs.getD j d).unit<256)∧(0≤(xs.getD j d).tid∧(xs.getD j d).tid<65536))∧(cells.toList.drop (off+j*24)).take 24=(k9 (xs.getD j d).unit (xs.getD j d).tid (xs.getD j d).msg s).toList:=by
  obtain⟨b,off,cells,t,fr,cs,h1,h2,h3,⟨s,h4,h5⟩,h6⟩:=aI.elt h d j hj
  exact⟨b,off,cells,t,fr,s,h1,h2,h5,h6.trans h4⟩
theorem p9.old{xs:List (List Int)}(h:p9 m w v xs)(hu:aD [] w w') : p9 m w' v xs:=aI.upd h hu (bZ.nil _ _ _) fun x cs ⟨v,h1,h2⟩=>⟨v,h1,h2.old hu⟩
theorem p9.elt{xs:List (List Int)}(h:p9 m w (.slice A n c) xs)(j:Nat)(hj:j<xs.length) :
    ∃ b off A' c',A=some ⟨b,off,none⟩∧w.cell? ⟨b,off+j,none⟩=some (.slice A' (xs.getD j []).length c')∧aO m w (.slice A' (xs.getD j []).length c') (xs.getD j [])∧(xs.getD j []).length≤c'∧c'≤maxLen:=by
  obtain⟨b,off,cells,t,fr,cs,h1,h2,h3,⟨v,h4,h5⟩,h6⟩:=aI.elt h [] j hj
  obtain⟨A',c',rfl,h7,h8⟩:=h5.shape
  refine⟨b,off,A',c',h1,?_,h5,h7,h8⟩
  rw[c4 h2]
  rw[h4] at h6
  have h9:=congrArg (fun z=>z[0]?) h6
  simpa using h9
open Go.RowKit
variable {P:Program}{i:TypeInfo}
theorem rU(t e:TypeId)(sz:Nat)  (ht:P.underlying t=some (.slice e))(hi:P.info? e=some i)(hsz:i.size=sz)(A:Option Addr)(n c:Nat){k:Int}(h:Nat)(hk:k=(h:Int))(hh:h≤n)(hc:n≤c) :
    ∃ A':Option Addr,(∀ (kh:IntKind) (W:World),(Instr.slice t (.slice A n c) none (some (.int kh k)) none).run P W = .ok (.slice A' h c) W) ∧
      ∀ {α:Type} (m:Md) (e':TypeId) (R:World→α→List Value→Prop) (w:World) (xs:List α),aI m e' sz R w (.slice A n c) xs→aI m e' sz R w (.slice A' h c) (xs.take h):=by
  subst hk
  obtain⟨A',h1,h2⟩:=wl (P:=P) t e sz ht hi hsz A n c 0 h (Nat.zero_le _) hh hc
  refine⟨A',fun kh W=>?_,fun m e' R w xs hr=>by simpa using h2 m e' R w xs hr⟩
  have h3:=h1 .i64 kh W
  have hel:P.elem t=e:=by simp[Program.elem,ht]
  have hu:P.underlying t=some (.slice (P.elem t)):=by rw[hel];exact ht
  rw[run_slice_h W t A n c hu kh (h:Int) (Int.natCast_nonneg _) (by omega)]
  rw[run_slice_lh W t A n c hu .i64 kh (((0:Nat) : Int)) (h:Int) (Int.natCast_nonneg _) (by omega) (by omega)] at h3
  simpa using h3
variable {e t:TypeId}{o:Oper}{x y:Operand}
theorem jd{ev:Operand→Value}       {kl:IntKind}{k:Int}   (ho:o.op = .slice t x none (some y) none)(ht:P.underlying t=some (.slice e))(hx:ev x = .slice A n c)(hy:ev y = .int kl k)
    (hr:(Instr.slice t (.slice A n c) none (some (.int kl k)) none).run P w = .ok v w) : (execOp ev o).run P w = .ok (.value v) w:=by
  have hu:(underlying t).run P w = .ok (.slice e) w:=run_underlying ht w
  unfold execOp
  simp only[ho,Option.map_some,Option.map_none,hx,hy,Instr.sliceAt,Sem.run_bind,hu,hr,Result.andThen,Sem.run_pure]
theorem eh(t e:TypeId)(sz:Nat)  (ht:P.underlying t=some (.slice e))(hi:P.info? e=some i)(hsz:i.size=sz)(A:Option Addr)(n c:Nat){lo up:Int}(k h:Nat)(hlo:lo=(k:Int))(hup:up=(h:Int))(hk:k≤h)(hh:h≤n)(hc:n≤c) :
    ∃ A':Option Addr,(∀ (kl kh:IntKind) (W:World),(Instr.slice t (.slice A n c) (some (.int kl lo)) (some (.int kh up)) none).run P W = .ok (.slice A' (h-k) (c-k)) W) ∧
      ∀ {α:Type} (m:Md) (e':TypeId) (R:World→α→List Value→Prop) (w:World) (xs:List α),aI m e' sz R w (.slice A n c) xs→aI m e' sz R w (.slice A' (h-k) (c-k)) ((xs.take h).drop k):=by
  subst hlo hup
  exact wl t e sz ht hi hsz A n c k h hk hh hc
theorem d9{ev:Operand→Value}    {z:Operand}   {kl kh:IntKind}{lo hi:Int}   (ho:o.op = .slice t x (some y) (some z) none)(ht:P.underlying t=some (.slice e))(hx:ev x = .slice A n c)(hy:ev y = .int kl lo)(hz:ev z = .int kh hi)
    (hr:(Instr.slice t (.slice A n c) (some (.int kl lo)) (some (.int kh hi)) none).run P w = .ok v w) : (execOp ev o).run P w = .ok (.value v) w:=by
  have hu:(underlying t).run P w = .ok (.slice e) w:=run_underlying ht w
  unfold execOp
  simp only[ho,Option.map_some,Option.map_none,hx,hy,hz,Instr.sliceAt,Sem.run_bind,hu,hr,Result.andThen,Sem.run_pure]
theorem fY(t e:TypeId)(sz:Nat)  (ht:P.underlying t=some (.slice e))(hi:P.info? e=some i)(hsz:i.size=sz)(A:Option Addr)(n c:Nat){lo:Int}(k:Nat)(hlo:lo=(k:Int))(hk:k≤n) :
    ∃ A':Option Addr,(∀ (kl:IntKind) (W:World),(Instr.slice t (.slice A n c) (some (.int kl lo)) none none).run P W = .ok (.slice A' (n-k) (c-k)) W) ∧
      ∀ {α:Type} (m:Md) (e':TypeId) (R:World→α→List Value→Prop) (w:World) (xs:List α),aI m e' sz R w (.slice A n c) xs→aI m e' sz R w (.slice A' (n-k) (c-k)) (xs.drop k):=by
  subst hlo
  exact dw t e sz ht hi hsz A n c k hk
open Go.RowKit
variable {a:Int}
theorem nF{ev:Operand→Value}   {ts:Array TypeId}{k:IntKind}{b:Int}(ho:o.op = .call { callee:=.builtin .min,args:=#[x,y],argTypes:=ts })(hx:ev x = .int k a)(hy:ev y = .int k b) : (execOp ev o).run P w = .ok (.value (.int k (min a b))) w:=by
  have h:(Builtin.min_ ts o.type #[.int k a,.int k b]).run P w = .ok (.int k (min a b)) w:=by
    simp[Builtin.min_,Builtin.min2]
    split<;>simp[Int.min_def]<;>omega
  unfold execOp
  simp only[ho,resolve,invoke,builtin,Sem.run_bind,Sem.run_pure,Result.andThen_ok,List.map_toArray,List.map_cons,List.map_nil,hx,hy,h]
theorem aI.adr{α:Type}   {sz:Nat}{R:World→α→List Value→Prop}    {xs:List α}(h:aI m e sz R w (.slice A n c) xs) : 0<n→∃ b off,A=some ⟨b,off,none⟩:=fun hn=>by
  obtain⟨A',c',hv,hc1,hc2,h0,h3⟩:=h
  injection hv with e1 e2 e3
  subst e1 e2 e3
  obtain⟨b,off,cells,t,fr,hA,_⟩:=h3 hn
  exact⟨b,off,hA⟩
theorem aI.cap{α:Type}   {sz:Nat}{R:World→α→List Value→Prop}    {xs:List α}(h:aI m e sz R w (.slice A n c) xs) : n≤c:=by
  obtain⟨A',c',hv,h1,_⟩:=h
  injection hv with _ e2 e3
  subst e2 e3
  exact h1
theorem wV{ev:Operand→Value}  {z:Operand}    {k1 k2:IntKind}{i1 i2:Int}(ho:o.op = .slice t x none (some y) (some z))(ht:P.underlying t=some (.slice e))(hi:(P.info? e).map (·.size)=some 1)
    (hx:ev x = .slice A n c) (hy:ev y = .int k1 i1) (hz:ev z = .int k2 i2) (h1:i1=(n:Int)) (h2:i2=(n:Int)) (hc1:n≤c) (hA:0<n→∃ b off,A=some ⟨b,off,none⟩) : (execOp ev o).run P w = .ok (.value (.slice A n n)) w:=by
  subst h1 h2
  obtain⟨i0,hi0,hs⟩:=Option.map_eq_some_iff.1 hi
  have hel:P.elem t=e:=by simp[Program.elem,ht]
  have hu:P.underlying t=some (.slice (P.elem t)):=by rw[hel];exact ht
  have hr:=run_slice_hm (P:=P) w t A n c hu k1 k2 ((n:Nat) : Int) ((n:Nat) : Int) (by omega) (Int.le_refl _) (by omega)
  have hA:(if n=0 then A else A.map (·.add 0))=A:=by
    split
    · rfl
    · rename_i hne
      obtain⟨b,off,rfl⟩:=hA (by omega)
      rfl
  have hr2:(Instr.slice t (.slice A n c) none (some (.int k1 ((n:Nat) : Int))) (some (.int k2 ((n:Nat) : Int)))).run P w = .ok (.slice A n n) w:=by
    rw[hr,hel]
    simp[sizeOf,typeInfo,hi0,hs,sliced,Result.andThen]
    simpa using hA
  have hu2:(underlying t).run P w = .ok (.slice e) w:=run_underlying ht w
  unfold execOp
  simp only[ho,Option.map_some,Option.map_none,hx,hy,hz,Instr.sliceAt,Sem.run_bind,hu2,hr2,Result.andThen,Sem.run_pure]
theorem aO.full{xs:List Int}(h:aO m w (.slice A n c) xs) : aO m w (.slice A n n) xs:=by
  obtain⟨A',c',hv,hc1,hc2,h0,h3⟩:=h
  injection hv with e1 e2 e3
  subst e1 e2 e3
  refine⟨A,xs.length,rfl,Nat.le_refl _,Nat.le_trans hc1 hc2,fun hA=>?_,h3⟩
  have:=h0 hA
  omega
theorem od(w:World) : (Builtin.firstCells 1 0 (.slice A 0 c)).run P w = .ok #[] w:=by
  cases A with
  | none=>simp[Builtin.firstCells]
  | some a =>
    have:=run_loadCells_list (P:=P) w a [] (fun j v hj=>by simp at hj)
    simpa [Builtin.firstCells] using this
theorem zu{ys:List Int}(ht:P.underlying t=some (.slice e))(h:aO m w (.slice A n c) ys)(h0:ys=[]) : Src P 1 t (.slice A n c) 0 [] w:=by
  subst h0
  obtain⟨A',c',hv,hc1,hc2,h0,h3⟩:=h
  injection hv with e1 e2 e3
  subst e1 e2 e3
  exact⟨.inl ⟨e,ht⟩,fun w'=>by simp[Builtin.lenOf],od w,od w.drew,rfl,fun u hu=>by cases hu⟩
section
variable {P:Program}{n:Nat}{D:List Deferred}{F:Fr}{w:World}{K:Fr→World→Prop}{Q:Exit→Act→World→Prop}{d:Option Tmp}{t:TypeId}{s:String}{af:Array Edge}{gu:Option (Nat × Bool)}
end
end Go.Proofs.YtdkhbcefkfgbdaaGreat
namespace Go.Proofs.YtdkhbcefkfgbdaaGreat
def ja (x:Nat) : Nat:=(x/2) ^^^ (x%2*40961)
def fd:Nat→Nat→Nat
  | 0,x=>x
  | k+1,x=>ja (fd k x)
def xr (i:Nat) : Nat:=fd 8 i
theorem yv{x:Nat}(h:x<65536) : ja x<65536:=by
  unfold ja
  exact Nat.xor_lt_two_pow (n:=16) (by omega) (by omega)
theorem iq{x:Nat}(h:x<65536) : ∀ k,fd k x<65536
  | 0=>h
  | k+1=>yv (iq h k)
theorem rF{i:Nat}(h:i<256) : xr i<65536:=iq (by omega) 8
def rW (s c:Nat) : Nat:=(s/256) ^^^ xr ((s%256) ^^^ c)
theorem sb{a b:Nat}(ha:a<256)(hb:b<256) : a ^^^ b<256:=Nat.xor_lt_two_pow (n:=8) ha hb
theorem lH{a b:Nat}(ha:a<65536)(hb:b<65536) : a ^^^ b<65536:=Nat.xor_lt_two_pow (n:=16) ha hb
variable {c:Nat}
theorem wN{s:Nat}(hs:s<65536)(hc:c<256) : rW s c<65536:=lH (by omega) (rF (sb (by omega) hc))
def xi (a b:Int) : Int:=((a.toNat ^^^ b.toNat:Nat) : Int)
variable {a:Int}
theorem D4{b:Int}(ha:0≤a∧a<256)(hb:0≤b∧b<256) : 0≤xi a b∧xi a b<256:=by
  have:=sb (a:=a.toNat) (b:=b.toNat) (by omega) (by omega)
  unfold xi
  omega
theorem B7{b:Int}(ha:0≤a∧a<65536)(hb:0≤b∧b<65536) : 0≤xi a b∧xi a b<65536:=by
  have:=lH (a:=a.toNat) (b:=b.toNat) (by omega) (by omega)
  unfold xi
  omega
theorem y4(n:Nat) : xi (((n:Nat) : Int)/2) ((((n:Nat) : Int)%2)*40961%65536)=((ja n:Nat) : Int):=by
  unfold xi ja
  rw[show(((n:Nat) : Int)/2).toNat=n/2 from by omega,show((((n:Nat) : Int)%2)*40961%65536).toNat=n%2*40961 from by omega]
def kz (i:Int) : Int:=((xr i.toNat:Nat) : Int)
theorem oP{i:Int}(h:0≤i∧i<256) : 0≤kz i∧kz i<65536:=by
  have:=rF (i:=i.toNat) (by omega)
  unfold kz
  omega
def qS (s c:Int) : Int:=xi (s/256) (kz (xi (s%256) c))
theorem oK{s c:Int}(hs:0≤s∧s<65536)(hc:0≤c∧c<256) : qS s c=((rW s.toNat c.toNat:Nat) : Int):=by
  unfold qS kz xi rW
  rw[show(s/256).toNat=s.toNat/256 from by omega,show(s%256).toNat=s.toNat%256 from by omega]
  simp only[Int.toNat_natCast]
theorem ow{s c:Int}(hs:0≤s∧s<65536)(hc:0≤c∧c<256) : 0≤qS s c∧qS s c<65536:=by
  have:=wN (s:=s.toNat) (c:=c.toNat) (by omega) (by omega)
  rw[oK hs hc]
  omega
def co (s:Int)(b:List Int) : Int:=b.foldl qS s
theorem j8:∀ (b:List Int){s:Int},(0≤s∧s<65536)→(∀ x,x∈b→0≤x∧x<256)→0≤co s b∧co s b<65536
  | [],s,hs,_=>hs
  | c :: b,s,hs,hb=>j8 b (ow hs (hb c (List.mem_cons_self ..))) fun x hx=>hb x (List.mem_cons_of_mem _ hx)
theorem vl(s:Int)(a b:List Int) : co s (a++b)=co (co s a) b:=by unfold co;rw[List.foldl_append]
def cn (s:Int) : List Int:=[s%256,s/256%256]
def dy (b:List Int) : Bool:=decide (2≤b.length)&&decide (cn (co 65535 (b.take (b.length-2)))=b.drop (b.length-2))
open Go.RowKit
def BO (P:Program)(ty:TypeId) : Option (Nat × TypeId):=match P.underlying ty with | some (.array m e)=>some (m,e) | _=>none
variable {P:Program}{e:TypeId}
theorem wn{ty:TypeId}{m:Nat}(h:BO P ty=some (m,e)) : P.underlying ty=some (.array m e):=by
  unfold BO at h
  split at h
  · injection h with h
    injection h with h1 h2
    subst h1 h2
    assumption
  · cases h
variable {o:Oper}{t:TypeId}{w:World}{x:Operand}
theorem sX{ev:Operand→Value}   {ix:Operand}{b off j m:Nat}{k:IntKind}{i:Int}(ho:o.op = .indexAddr t x ix)(ht:P.underlying t=some (.array m e))(hi:(P.info? e).map (·.size)=some 1)
    (hx:ev x = .pointer (some ⟨b,off,none⟩)) (hix:ev ix = .int k i) (hj:i=j) (hlt:j<m) : (execOp ev o).run P w = .ok (.value (.pointer (some ⟨b,off+j,none⟩))) w:=by
  subst hj
  obtain⟨i0,hi0,hs⟩:=Option.map_eq_some_iff.1 hi
  unfold execOp
  have h2:(0:Int)≤(j:Int)∧(j:Int)<(m:Int):=by omega
  simp[ho,hx,hix,Instr.indexAt,Instr.sureAddr,asIntOf,run_underlying ht,Result.andThen,h2,sizeOf,typeInfo,hi0,hs,iL,hlt]
section
variable {P:Program}{n:Nat}{D:List Deferred}{F:Fr}{w:World}{K:Fr→World→Prop}{Q:Exit→Act→World→Prop}{d:Option Tmp}{t:TypeId}{s:String}{af:Array Edge}{gu:Option (Nat × Bool)}
theorem CG{ty:TypeId}{x ix:Operand}{b off:Nat}(m j:Nat)(i:Int)(hj:i=j)(hlt:j<m)(h:K (pt d (.pointer (some ⟨b,off+j,none⟩)) F) w)
    (hx:ee F x=some (.pointer (some ⟨b,off,none⟩)):=by kernel_rfl) (hi:xf F ix=some i:=by kernel_rfl) (hs:((BO P ty).bind fun p=>(P.info? p.2).map fun q=>(p.1,q.size),f8 n d)=(some (m,1),true):=by kernel_rfl) : OG P ⟨d,.indexAddr ty x ix,t,s,af,gu⟩ n D F w K Q:=by
  simp only[Prod.mk.injEq] at hs
  obtain⟨hs,hd⟩:=hs
  obtain⟨k,hi⟩:=lf hi
  cases he:BO P ty with
  | none=>rw[he] at hs;simp at hs
  | some p =>
    obtain⟨m',e⟩:=p
    rw[he] at hs
    obtain⟨q,hq,h3⟩:=Option.map_eq_some_iff.1 (show(P.info? e).map (fun q=>(m',q.size))=some (m,1) from hs)
    injection h3 with h4 h5
    subst h4
    exact⟨fun a ha K' hK=>ft _ rfl (sX rfl (wn he) (by rw[hq];simp[h5]) (ha.ev hx) (ha.ev hi) hj hlt) (hK _ _ _ h (ha.put hd))⟩
end
theorem Bg{a b:Int}(ha:0≤a∧a<256)(hb:0≤b∧b<256) : bits .xor .u8 a b=xi a b:=u8_xor a b ha.1 ha.2 hb.1 hb.2
theorem nX{a b:Int}(ha:0≤a∧a<65536)(hb:0≤b∧b<65536) : bits .xor .u16 a b=xi a b:=u16_xor a b ha.1 ha.2 hb.1 hb.2
theorem wj{a:Int}(ha:0≤a∧a<65536) : bits .and .u16 a 1=a%2:=by
  rw[u16_and a 1 ha.1 ha.2 (by omega) (by omega)]
  show((a.toNat &&& 1:Nat) : Int)=_
  rw[Nat.and_one_is_mod]
  omega
def gQ (k:Nat) : Array Value:=((List.range 256).map fun i=>if i<k then Value.int .u16 (kz i) else Value.int .u16 0).toArray
theorem cN(k:Nat) : (gQ k).size=256:=by simp[gQ]
theorem oG(k:Nat) : (gQ k).all (·.oneCell')=true:=by
  unfold gQ
  rw[List.all_toArray,List.all_eq_true]
  intro v hv
  rw[List.mem_map] at hv
  obtain⟨i,_,rfl⟩:=hv
  split<;>rfl
theorem wP{i k:Nat}(hk:k=8)(hi:i<256) : (gQ i).setIfInBounds i (.int .u16 ((fd k i:Nat) : Int))=gQ (i+1):=by
  subst hk
  unfold gQ
  rw[List.setIfInBounds_toArray]
  congr 1
  apply List.ext_getElem?
  intro j
  rw[List.getElem?_set]
  by_cases hj:j<256
  · by_cases hij:i=j
    · subst hij
      simp[hi,kz,xr]
    · simp[hij,hj]
      congr 1
      simp only[eq_iff_iff]
      omega
  · rw[if_neg (by omega)]
    simp[hj]
theorem yG{i:Nat}(h:i<256) : (gQ 256)[i]? = some (.int .u16 (kz i)):=by simp[gQ,h]
def dG (s:Int)(b:List Int) : Nat→Int
  | 0=>s
  | k+1=>qS (dG s b k) (b.getD k 0)
theorem mJ(s:Int)(b:List Int) : ∀ k,k≤b.length→dG s b k=co s (b.take k)
  | 0,_=>by simp[dG,co]
  | k+1,h=>by
    rw[List.take_succ_eq_append_getElem (by omega),vl,← mJ s b k (by omega)]
    show qS _ (b.getD k 0)=_
    rw[List.getD_eq_getElem?_getD,List.getElem?_eq_getElem (by omega)]
    rfl
theorem oc{s:Int}{b:List Int}{k:Nat}(h:k=b.length) : dG s b k=co s b:=by
  subst h
  rw[mJ _ _ _ (Nat.le_refl _),List.take_length]
theorem js{s:Int}{b:List Int}(hs:0≤s∧s<65536)(hb:∀ x,x∈b→0≤x∧x<256) : ∀ k,0≤dG s b k∧dG s b k<65536
  | 0=>hs
  | k+1=>ow (js hs hb k) (eC (by omega) hb k)
theorem vH{i:Int}(h:0≤i) : kz ((i.toNat:Nat) : Int)=kz i:=by rw[Int.toNat_of_nonneg h]
open Go.RowKit
theorem nD{w:World}:Calls Tryz.prog 258 #[] w (bD (.agg (gQ 256)) w):=by
 refine en 23 Tryz.func258 rfl<|sg<|aK (gQ 0) fun c F n o p=>ng<|aK (gQ 0) fun a q r s t=>nt<|sq<|sg<|?_
 refine aj 1<|bk<|?_
 refine fE (fun x=>[(0,vP c 0),(1,vP a 0),(4,vI ((x:Nat) : Int))]) (fun(x:Nat) w'=>aD [a] q w'∧w'.heap[a]? = some (.cells (gQ x) 247 (0,0))∧(x≤256)) (fun x=>256-x) 0 ⟨aD.refl _ _,s,(by(try dsimp only);omega)⟩ ?_
 rintro i g ⟨h,u,v⟩
 refine eH [(0,vP c 0),(1,vP a 0),(4,vI ((i:Nat) : Int))] ?_
 have j:g.heap[a]? = some (.cells (gQ i) 247 (0,0)):=u
 have G:i≤256:=v
 refine ax 1<|sq<|?_
 have l:=ud t h r
 refine cb ((decide (((i:Nat) : Int)<256))) (fun d=>?_) (fun d=>?_)
 have y:=of_decide_eq_true d
 refine bp<|sq<|bk<|ak 2<|aL 1<|L0<|Oe (vW (IntKind.u16.wrap ((i:Nat) : Int))) (vW ((fd 0 i:Nat) : Int)) (congrArg (Value.int .u16) (i6 (x:=((i:Nat) : Int)) (by omega)))<|Pl 1<|nl<|?_
 refine tn<|sq<|ax 1<|bk<|?_
 refine fE (fun x=>[(0,vP c 0),(1,vP a 0),(2,vI ((i:Nat) : Int)),(3,vW ((fd x i:Nat) : Int)),(4,vI ((i:Nat) : Int)),(5,.bool (decide (((i:Nat) : Int)<256))),(6,vI ((i:Nat) : Int)),(7,vI ((i:Nat) : Int)),(8,vW ((fd 0 i:Nat) : Int)),(9,vI ((x:Nat) : Int))]) (fun(x:Nat) w'=>aD [] g w'∧(x≤8)) (fun x=>8-x) 0 ⟨aD.refl _ _,(by(try dsimp only);omega)⟩ ?_
 rintro k H ⟨e,z⟩
 refine eH [(0,vP c 0),(1,vP a 0),(2,vI ((i:Nat) : Int)),(3,vW ((fd k i:Nat) : Int)),(4,vI ((i:Nat) : Int)),(5,.bool (decide (((i:Nat) : Int)<256))),(6,vI ((i:Nat) : Int)),(7,vI ((i:Nat) : Int)),(8,vW ((fd 0 i:Nat) : Int)),(9,vI ((k:Nat) : Int))] ?_
 have I:k≤8:=z
 have J:=iq (x:=i) (by omega) k
 refine ax 1<|sq<|?_
 refine cb ((decide (((k:Nat) : Int)<8))) (fun f=>?_) (fun f=>?_)
 have A:=of_decide_eq_true f
 refine bp<|sq<|bk<|go<|Pl 1<|L0<|Oe (vW (Int.fdiv ((fd k i:Nat) : Int) (2 ^ 1))) (vW (((fd k i:Nat) : Int)/2)) (congrArg (Value.int .u16) (nY _ _ _ (by decide)))<|Pl 1<|L0<|Oe (vW (bits .and .u16 ((fd k i:Nat) : Int) 1)) (vW (((fd k i:Nat) : Int)%2)) (congrArg (Value.int .u16) (wj (by omega)))<|Pl 1<|L0<|Oe (vW (bits .xor .u16 (((fd k i:Nat) : Int)/2) (((((fd k i:Nat) : Int)%2)*40961)%65536))) (vW ((fd (k+1) i:Nat) : Int)) (congrArg (Value.int .u16) ((nX (by omega) (by omega)).trans (y4 _)))<|Pl 1<|nl<|bn<|?_
 exact tn<|go<|b6 (((k:Nat) : Int)+1)<|Pl 1<|nl<|dH (k+1) ⟨e,(by(try dsimp only);omega)⟩ (by omega)
 have A:=of_decide_eq_false f
 refine xt<|tx<|tx<|bx<|tn<|go<|Pl 2<|L0<|CG (b:=a) (off:=0) 256 i ((i:Nat) : Int) rfl (by omega)<|?_
 refine L0<|bI (hl:=(by rw[cN];simp;omega)) (ub e j) (0+i) ((gQ i).setIfInBounds (0+i) (vW ((fd k i:Nat) : Int))) fun K B C=>?_
 have m:=B
 rw[Nat.zero_add,wP (by omega) (by omega)] at m
 refine nl<|bn<|tn<|go<|b6 (((i:Nat) : Int)+1)<|Pl 1<|nl<|?_
 exact dH (i+1) ⟨(u1 h (uz e C) im),m,(by(try dsimp only);omega)⟩ (by omega)
 have y:=of_decide_eq_false d
 refine xt<|tx<|tx<|bx<|tn<|sg<|L0<|cO (hz:=(by rw[cN];kernel_rfl)) j<|?_
 refine aE (hz:=(by rw[cN];kernel_rfl)) (hv:=(Eq.trans (by first | rw[cN,cN] | rw[cN]) (Eq.symm (cN _)))) (h1:=(oG _)) (ub l o) ((gQ i)) fun L D E=>p6<|C6 256 (cN _) D<|?_
 have hi:i=256:=by omega
 subst hi
 exact⟨rfl,(ud (aM p l) E n)⟩
theorem nG{m:Md}{A:Option Addr}{cp:Nat}{b:List Int}{w:World}{s:Int}(hsl:aO m w (.slice A b.length cp) b)(hs:0≤s∧s<65536) :
    Calls Tryz.prog 257 #[vW s,.slice A b.length cp] w (bD (vW (co s b)) w):=by
 have hln:=aI.len hsl
 have hb:=aO.range hsl
 refine en 26 Tryz.func257 rfl<|ak 1<|ng<|az<|m1 (@nD w) fun D g=>aK (gQ 0) fun c E h j l=>aE (hz:=(by rw[cN];kernel_rfl)) (hv:=(Eq.trans (by first | rw[cN,cN] | rw[cN]) (Eq.symm (cN _)))) (h1:=(oG _)) j ((gQ 256)) fun n o q=>nt<|sq<|ax 3<|bk<|?_
 refine fE (fun x=>[(0,vW (dG s b x)),(4,vW 0),(5,vP c 0),(9,.slice A b.length cp),(10,vI (b.length:Int)),(11,vI ((x:Nat) : Int))]) (fun(x:Nat) w'=>aD [] n w'∧(x≤b.length)∧(0≤dG s b x∧dG s b x<65536)) (fun x=>b.length-x) 0 ⟨aD.refl _ _,(by(try dsimp only);omega),hs⟩ ?_
 rintro k F ⟨d,r,t⟩
 refine eH [(0,vW (dG s b k)),(4,vW 0),(5,vP c 0),(9,.slice A b.length cp),(10,vI (b.length:Int)),(11,vI (k:Int))] ?_
 have G:k≤b.length:=r
 have H:0≤dG s b k∧dG s b k<65536:=t
 refine ax 1<|sq<|?_
 have f:=aM g (ud l (aM q d) h)
 refine cb ((decide ((k:Int)<(b.length:Int)))) (fun e=>?_) (fun e=>?_)
 have u:=of_decide_eq_true e
 refine bp<|sq<|bk<|sg<|?_
 refine ea (aO.at_ (aO.old hsl f) k (by omega)) fun y z B C I=>L0<|iV b.length k B (by omega)<|L0<|dX (p:=⟨y,z+k,none⟩) (v:=vB (b.getD k 0)) C<|aj 1<|go<|Pl 1<|L0<|Oe (vW (Int.fdiv (dG s b k) (2 ^ 8))) (vW ((dG s b k)/256)) (congrArg (Value.int .u16) (nY _ _ _ (by decide)))<|Pl 3<|?_
 have J:=D4 (a:=((dG s b k)%256)) (b:=(b.getD k 0)) (by omega) (by omega)
 refine L0<|Oe (vB (bits .xor .u8 ((dG s b k)%256) (b.getD k 0))) (vB (xi ((dG s b k)%256) (b.getD k 0))) (congrArg (Value.int .u8) (Bg (by omega) (by omega)))<|L0<|CG (b:=c) (off:=0) 256 (((xi ((dG s b k)%256) (b.getD k 0))).toNat) (xi ((dG s b k)%256) (b.getD k 0)) (by omega) (by omega)<|?_
 have K:=oP (i:=(xi ((dG s b k)%256) (b.getD k 0))) (by omega)
 exact L0<|dX (p:=⟨c,0+((xi ((dG s b k)%256) (b.getD k 0))).toNat,none⟩) (v:=vW (kz ((xi ((dG s b k)%256) (b.getD k 0))))) (ap (ub d o) (by rw[Nat.zero_add,yG (by omega),vH (by omega)]))<|L0<|Oe (vW (bits .xor .u16 ((dG s b k)/256) (kz (xi ((dG s b k)%256) (b.getD k 0))))) (vW (dG s b (k+1))) (congrArg (Value.int .u16) (nX (by omega) (oP (by omega))))<|Pl 1<|nl<|bn<|tn<|go<|b6 ((k:Int)+1)<|Pl 1<|nl<|dH (k+1) ⟨d,(by(try dsimp only);omega),(js hs hb _)⟩ (by omega)
 have u:=of_decide_eq_false e
 refine xt<|tx<|tx<|bx<|tn<|ax 2<|rt<|rr (vW (dG s b k))<|?_
 have hk:dG s b k=co s b:=oc (by omega)
 rw[hk]
 exact⟨rfl,f⟩
theorem pp{m:Md}{v:Value}{b:List Int}{w:World}(h:aO m w v b) : Calls Tryz.prog 257 #[.int .u16 65535,v] w (bD (.int .u16 (co 65535 b)) w):=by
  obtain⟨A,cp,rfl,_,_⟩:=h.shape
  exact nG h (by decide)
theorem qL{m:Md}{A:Option Addr}{cp:Nat}{b:List Int}{w:World}(hsl:aO m w (.slice A b.length cp) b) :
    Calls Tryz.prog 256 #[.slice A b.length cp] w (bD (vW (co 65535 b)) w):=by
 exact en 5 Tryz.func256 rfl<|ak 1<|aL 1<|az<|m1 (pp hsl) fun c a=>aj 1<|rt<|rr (vW (co 65535 b))<|⟨rfl,a⟩
theorem ml{m:Md}{v:Value}{b:List Int}{w:World}(h:aO m w v b) : Calls Tryz.prog 256 #[v] w (bD (.int .u16 (co 65535 b)) w):=by
  obtain⟨A,cp,rfl,_,_⟩:=h.shape
  exact qL h
theorem iO{w:World}{s:Int}(hs:0≤s∧s<65536) : Calls Tryz.prog 255 #[vW s] w (fun e w'=>∃ v,e = .returned v∧du w.heap.size w' v (cn s)∧aD [] w w'):=by
 refine en 9 Tryz.func255 rfl<|ak 1<|aL 3<|L0<|Oe (vW (Int.fdiv s (2 ^ 8))) (vW (s/256)) (congrArg (Value.int .u16) (nY _ _ _ (by decide)))<|Pl 1<|L0<|ep (m:=2) (e:=5) #[vB (s%256),vB ((s/256)%256)] fun a g b c d=>?_
 have f:=kv b (xs:=[(s%256),((s/256)%256)]) (by as_aux_lemma=>kernel_rfl) (aV (by omega) (aV (by omega) dc)) (by(try simp only[List.length_cons,List.length_nil]);omega) c
 exact aj 1<|rt<|rr (.slice (some ⟨a,0,none⟩) 2 2)<|⟨_,rfl,f,d⟩
theorem kG{b:List Int}{n:Nat}(h:2≤b.length)(hn:n=b.length-2) : dy b=decide (cn (co 65535 (b.take n))=b.drop n):=by
  subst hn
  unfold dy
  simp[h]
theorem xO{b:List Int}(h:b.length<2) : dy b=false:=by
  unfold dy
  simp
  omega
theorem qf{m:Md}{A:Option Addr}{cp:Nat}{b:List Int}{w:World}(hsl:aO m w (.slice A b.length cp) b)(hb:b.length≤1048576)(hcp:b.length≤cp) :
    Calls Tryz.prog 254 #[.slice A b.length cp] w (bD (.bool (dy b)) w):=by
 have hc:=aI.len hsl
 refine en 22 Tryz.func254 rfl<|ak 1<|aL 2<|b6 ((b.length:Int)-2)<|aj 1<|sq<|?_
 refine Rg 16 (fun w'=>True) fun R f=>bB trivial fun d=>Rt 0 d<|Rt 1 d<|Rt 2 d<|ze 9 ((decide (0≤((b.length:Int)-2)))) (fun p=>?_) (fun p=>?_)
 have I:=of_decide_eq_true p
 refine Rt 3 d<|Rt 4 d<|iy (rU (P:=Tryz.prog) 27 5 1 Tryz.underlying27 rfl rfl A b.length cp (k:=((b.length:Int)-2)) ((((b.length:Int)-2)).toNat) (by omega) (by omega) (by omega)) fun q hrun60 i=>Rr 5 d (.slice q ((((b.length:Int)-2)).toNat) cp) (fun _ _=>jd (kl:=.i64) (k:=((b.length:Int)-2)) (A:=A) (n:=b.length) (c:=cp) rfl Tryz.underlying27 (by kernel_rfl) (by kernel_rfl) (hrun60 _ _))<|Rt 9 d<|Rt 10 d<|iy (fY (P:=Tryz.prog) 27 5 1 Tryz.underlying27 rfl rfl A b.length cp (lo:=((b.length:Int)-2)) ((((b.length:Int)-2)).toNat) (by omega) (by omega)) fun g hrun63 e=>Rr 11 d (.slice g (b.length-((((b.length:Int)-2)).toNat)) (cp-((((b.length:Int)-2)).toNat))) (fun _ _=>cH (kl:=.i64) (k:=((b.length:Int)-2)) (A:=A) (n:=b.length) (c:=cp) rfl Tryz.underlying27 (by kernel_rfl) (by kernel_rfl) (hrun63 _ _))<|R2 6 12 rfl rfl ?_ ?_
 have h:=aO.old hsl f
 refine  Oc (args:=#[.slice q ((((b.length:Int)-2)).toNat) cp])<|m1 (ml (i _ _ _ _ _ h)) fun S j=>?_
 have T:=j8 (b.take ((((b.length:Int)-2)).toNat)) (s:=65535) (by decide) (aO.range (i _ _ _ _ _ h))
 refine bB trivial fun U=>?_
 refine R2 7 12 rfl rfl ?_ ?_
 refine  Oc<|nk (iO (s:=(co 65535 (b.take ((((b.length:Int)-2)).toNat)))) (by omega)) fun x y V l W X z=>bB trivial fun Y=>?_
 refine R2 8 12 rfl rfl ?_ ?_
 refine  f9 (.string (strOfNums (cn (co 65535 (b.take ((((b.length:Int)-2)).toNat)))))) (cm (A:=x) (n:=(cn (co 65535 (b.take ((((b.length:Int)-2)).toNat)))).length) (c:=y) rfl (by kernel_rfl) Tryz.underlying27 Tryz.underlying5 Tryz.underlying9 (l).rd)<|bB trivial fun Z=>?_
 have B:=aM j z
 have C:=aO.old h B
 refine R0 12 rfl<|f9 (.string (strOfNums (b.drop ((((b.length:Int)-2)).toNat)))) (cm (A:=g) (n:=(b.length-((((b.length:Int)-2)).toNat))) (c:=(cp-((((b.length:Int)-2)).toNat))) rfl (by kernel_rfl) Tryz.underlying27 Tryz.underlying5 Tryz.underlying9 (e _ _ _ _ _ C))<|bB trivial fun r=>Rr 13 r (.bool (decide ((cn (co 65535 (b.take ((((b.length:Int)-2)).toNat))))=(b.drop ((((b.length:Int)-2)).toNat))))) (fun _ _=>fz (a:=(strOfNums (cn (co 65535 (b.take ((((b.length:Int)-2)).toNat)))))) (b:=(strOfNums (b.drop ((((b.length:Int)-2)).toNat)))) rfl (by kernel_rfl) (by kernel_rfl) (iR (l).rd (e _ _ _ _ _ C)))<|Rt 14 r<|Rt 15 r<|re<|tn<|rt<|rr (.bool (decide ((cn (co 65535 (b.take ((((b.length:Int)-2)).toNat))))=(b.drop ((((b.length:Int)-2)).toNat)))))<|?_
 have hs:dy b=(decide ((cn (co 65535 (b.take ((((b.length:Int)-2)).toNat))))=(b.drop ((((b.length:Int)-2)).toNat)))):=(kG (by omega) (by omega))
 rw[hs]
 exact⟨rfl,(aM f B)⟩
 have D:=aM j z
 have E:=aO.old h D
 refine  f9 (.string (strOfNums (b.drop ((((b.length:Int)-2)).toNat)))) (cm (A:=g) (n:=(b.length-((((b.length:Int)-2)).toNat))) (c:=(cp-((((b.length:Int)-2)).toNat))) rfl (by kernel_rfl) Tryz.underlying27 Tryz.underlying5 Tryz.underlying9 (e _ _ _ _ _ E))<|bB trivial fun a0=>R0 8 rfl<|f9 (.string (strOfNums (cn (co 65535 (b.take ((((b.length:Int)-2)).toNat)))))) (cm (A:=x) (n:=(cn (co 65535 (b.take ((((b.length:Int)-2)).toNat)))).length) (c:=y) rfl (by kernel_rfl) Tryz.underlying27 Tryz.underlying5 Tryz.underlying9 (l).rd)<|bB trivial fun t=>Rr 13 t (.bool (decide ((cn (co 65535 (b.take ((((b.length:Int)-2)).toNat))))=(b.drop ((((b.length:Int)-2)).toNat))))) (fun _ _=>fz (a:=(strOfNums (cn (co 65535 (b.take ((((b.length:Int)-2)).toNat)))))) (b:=(strOfNums (b.drop ((((b.length:Int)-2)).toNat)))) rfl (by kernel_rfl) (by kernel_rfl) (iR (l).rd (e _ _ _ _ _ E)))<|Rt 14 t<|Rt 15 t<|re<|tn<|rt<|rr (.bool (decide ((cn (co 65535 (b.take ((((b.length:Int)-2)).toNat))))=(b.drop ((((b.length:Int)-2)).toNat)))))<|?_
 have hs:dy b=(decide ((cn (co 65535 (b.take ((((b.length:Int)-2)).toNat))))=(b.drop ((((b.length:Int)-2)).toNat)))):=(kG (by omega) (by omega))
 rw[hs]
 exact⟨rfl,(aM f D)⟩
 have F:=aO.old h j
 refine  f9 (.string (strOfNums (b.drop ((((b.length:Int)-2)).toNat)))) (cm (A:=g) (n:=(b.length-((((b.length:Int)-2)).toNat))) (c:=(cp-((((b.length:Int)-2)).toNat))) rfl (by kernel_rfl) Tryz.underlying27 Tryz.underlying5 Tryz.underlying9 (e _ _ _ _ _ F))<|bB trivial fun a1=>R0 7 rfl<|Oc<|nk (iO (s:=(co 65535 (b.take ((((b.length:Int)-2)).toNat)))) (by omega)) fun J K a2 G a3 a4 L=>bB trivial fun a5=>R0 8 rfl<|f9 (.string (strOfNums (cn (co 65535 (b.take ((((b.length:Int)-2)).toNat)))))) (cm (A:=J) (n:=(cn (co 65535 (b.take ((((b.length:Int)-2)).toNat)))).length) (c:=K) rfl (by kernel_rfl) Tryz.underlying27 Tryz.underlying5 Tryz.underlying9 (G).rd)<|bB trivial fun u=>Rr 13 u (.bool (decide ((cn (co 65535 (b.take ((((b.length:Int)-2)).toNat))))=(b.drop ((((b.length:Int)-2)).toNat))))) (fun _ _=>fz (a:=(strOfNums (cn (co 65535 (b.take ((((b.length:Int)-2)).toNat)))))) (b:=(strOfNums (b.drop ((((b.length:Int)-2)).toNat)))) rfl (by kernel_rfl) (by kernel_rfl) (iR (G).rd (e _ _ _ _ _ F)))<|Rt 14 u<|Rt 15 u<|re<|tn<|rt<|rr (.bool (decide ((cn (co 65535 (b.take ((((b.length:Int)-2)).toNat))))=(b.drop ((((b.length:Int)-2)).toNat)))))<|?_
 have hs:dy b=(decide ((cn (co 65535 (b.take ((((b.length:Int)-2)).toNat))))=(b.drop ((((b.length:Int)-2)).toNat)))):=(kG (by omega) (by omega))
 rw[hs]
 exact⟨rfl,(aM f (aM j L))⟩
 have o:=aO.old hsl f
 refine  f9 (.string (strOfNums (b.drop ((((b.length:Int)-2)).toNat)))) (cm (A:=g) (n:=(b.length-((((b.length:Int)-2)).toNat))) (c:=(cp-((((b.length:Int)-2)).toNat))) rfl (by kernel_rfl) Tryz.underlying27 Tryz.underlying5 Tryz.underlying9 (e _ _ _ _ _ o))<|bB trivial fun a6=>R0 6 rfl<|Oc (args:=#[.slice q ((((b.length:Int)-2)).toNat) cp])<|m1 (ml (i _ _ _ _ _ o)) fun a7 M=>?_
 have a8:=j8 (b.take ((((b.length:Int)-2)).toNat)) (s:=65535) (by decide) (aO.range (i _ _ _ _ _ o))
 refine bB trivial fun a9=>R0 7 rfl<|Oc<|nk (iO (s:=(co 65535 (b.take ((((b.length:Int)-2)).toNat)))) (by omega)) fun N O aa H ab ac Q=>bB trivial fun ad=>R0 8 rfl<|f9 (.string (strOfNums (cn (co 65535 (b.take ((((b.length:Int)-2)).toNat)))))) (cm (A:=N) (n:=(cn (co 65535 (b.take ((((b.length:Int)-2)).toNat)))).length) (c:=O) rfl (by kernel_rfl) Tryz.underlying27 Tryz.underlying5 Tryz.underlying9 (H).rd)<|bB trivial fun v=>Rr 13 v (.bool (decide ((cn (co 65535 (b.take ((((b.length:Int)-2)).toNat))))=(b.drop ((((b.length:Int)-2)).toNat))))) (fun _ _=>fz (a:=(strOfNums (cn (co 65535 (b.take ((((b.length:Int)-2)).toNat)))))) (b:=(strOfNums (b.drop ((((b.length:Int)-2)).toNat)))) rfl (by kernel_rfl) (by kernel_rfl) (iR (H).rd (e _ _ _ _ _ o)))<|Rt 14 v<|Rt 15 v<|re<|tn<|rt<|rr (.bool (decide ((cn (co 65535 (b.take ((((b.length:Int)-2)).toNat))))=(b.drop ((((b.length:Int)-2)).toNat)))))<|?_
 have hs:dy b=(decide ((cn (co 65535 (b.take ((((b.length:Int)-2)).toNat))))=(b.drop ((((b.length:Int)-2)).toNat)))):=(kG (by omega) (by omega))
 rw[hs]
 exact⟨rfl,(aM f (aM M Q))⟩
 have I:=of_decide_eq_false p
 refine Ro 3 d<|Ro 4 d<|Ro 5 d<|Ro 6 d<|Ro 7 d<|Ro 8 d<|Ro 9 d<|Ro 10 d<|Ro 11 d<|Ro 12 d<|Ro 13 d<|Rt 14 d<|Rt 15 d<|re<|tn<|rt<|rr (.bool false)<|?_
 have hs:dy b=false:=(xO (by omega))
 rw[hs]
 exact⟨rfl,f⟩
theorem ul{m:Md}{v:Value}{b:List Int}{w:World}(h:aO m w v b)(hb:b.length≤1048576) : Calls Tryz.prog 254 #[v] w (bD (.bool (dy b)) w):=by
  obtain⟨A,cp,rfl,hc,_⟩:=h.shape
  exact qf h hb hc
open Go.RowKit
def gf (b:List Int) : List Int:=(b.take (b.length-2)).drop 1
theorem gk(b:List Int) : gf b=(b.take (((b.length:Nat) : Int)-2).toNat).drop 1:=by
  unfold gf
  rw[show(((b.length:Nat) : Int)-2).toNat=b.length-2 from by omega]
def dM (dir:Int)(b:List Int) : bq × Int :=
  if dir != 0&&dir != 1 then (bq.zero,1)
  else if decide ((b.length:Int)<4) then (bq.zero,2)
  else if decide (256<(b.length:Int)) then (bq.zero,3)
  else if !(dy b) then (bq.zero,10)
  else bQ (b.getD 0 0) 0 (di dir (gf b))
theorem qa{m:Md}{A:Option Addr}{cp:Nat}{b:List Int}{w:World}{dir:Int}(hsl:aO m w (.slice A b.length cp) b)(hb:b.length≤1048576)(hcp:b.length≤cp) :
    Calls Tryz.prog 253 #[vI dir,.slice A b.length cp] w (np (dM dir b) w):=by
 have hln:(b.length:Int)≤1048576:=by omega
 refine en 51 Tryz.func253 rfl<|sg<|aK #[vB 0,vW 0,vB 0,vB 0,vW 0,vW 0,vW 0,vW 0,vW 0,vW 0,vW 0,vW 0,vW 0,vW 0,nS,nS,nS,nS,vB 0,vB 0,vB 0,vB 0,vB 0,nS] fun b0 b1 j e B=>aj 1<|sq<|bk<|ak 3<|cV 3 [11] 14 11 (dir != 0) (dir != 1) (fun K a3 a4=>?_) ?_
 have b2:=av a4
 exact Pl 3<|ce a3 _ rfl
 refine aj 1<|cb (((dir != 0)&&(dir != 1))) (fun d=>?_) (fun d=>?_)
 have N:=(aR d).1
 have O:=(aR d).2
 have b3:=av N
 have b4:=av O
 refine ak 1<|aE e #[vB 0,vW 0,vB 0,vB 0,vW 0,vW 0,vW 0,vW 0,vW 0,vW 0,vW 0,vW 0,vW 0,vW 0,nS,nS,nS,nS,vB 0,vB 0,vB 0,vB 0,vB 0,nS] fun b5 a5 a6=>aj 1<|rt<|br<|tr<|bV a5 (vI 1)<|?_
 have hs:dM dir b=(bq.zero,1):=by
   unfold dM
   (try simp only[d,N,O,bj,bQ,reduceIte])
   all_goals rfl
 refine ec hs ?_
 exact cX (ud B a6 j)
 refine ax 4<|cb ((decide ((b.length:Int)<4))) (fun f=>?_) (fun f=>?_)
 have a7:=of_decide_eq_true f
 refine ak 1<|aE e #[vB 0,vW 0,vB 0,vB 0,vW 0,vW 0,vW 0,vW 0,vW 0,vW 0,vW 0,vW 0,vW 0,vW 0,nS,nS,nS,nS,vB 0,vB 0,vB 0,vB 0,vB 0,nS] fun b7 a8 a9=>aj 1<|rt<|br<|tr<|bV a8 (vI 2)<|?_
 have hs:dM dir b=(bq.zero,2):=by
   unfold dM
   (try simp only[d,f,bj,bQ,reduceIte])
   all_goals rfl
 refine ec hs ?_
 exact cX (ud B a9 j)
 have a7:=of_decide_eq_false f
 refine ax 4<|cb ((decide (256<(b.length:Int)))) (fun h=>?_) (fun h=>?_)
 have aa:=of_decide_eq_true h
 refine ak 1<|aE e #[vB 0,vW 0,vB 0,vB 0,vW 0,vW 0,vW 0,vW 0,vW 0,vW 0,vW 0,vW 0,vW 0,vW 0,nS,nS,nS,nS,vB 0,vB 0,vB 0,vB 0,vB 0,nS] fun b9 ab ac=>aj 1<|rt<|br<|tr<|bV ab (vI 3)<|?_
 have hs:dM dir b=(bq.zero,3):=by
   unfold dM
   (try simp only[d,f,h,bj,bQ,reduceIte])
   all_goals rfl
 refine ec hs ?_
 exact cX (ud B ac j)
 have aa:=of_decide_eq_false h
 refine ak 1<|?_
 have Q:=aO.old hsl B
 refine az (args:=#[.slice A b.length cp])<|m1 (ul Q (by omega)) fun ad i=>aj 2<|?_
 have I:=aM B i
 refine cb ((!(dy b))) (fun k=>?_) (fun k=>?_)
 have F:(dy b)=false:=by simpa using k
 refine ak 1<|?_
 refine aE (ub i e) #[vB 0,vW 0,vB 0,vB 0,vW 0,vW 0,vW 0,vW 0,vW 0,vW 0,vW 0,vW 0,vW 0,vW 0,nS,nS,nS,nS,vB 0,vB 0,vB 0,vB 0,vB 0,nS] fun ba ae af=>aj 1<|rt<|br<|tr<|bV ae (vI 10)<|?_
 have hs:dM dir b=(bq.zero,10):=by
   unfold dM
   (try simp only[d,f,h,k,F,bj,bQ,reduceIte])
   all_goals rfl
 refine ec hs ?_
 exact cX (ud I af j)
 have F:(dy b)=true:=by simpa using k
 refine sk<|bn<|tn<|ak 4<|b6 ((b.length:Int)-2)<|iy (eh (P:=Tryz.prog) 27 5 1 Tryz.underlying27 rfl rfl A b.length cp (lo:=1) (up:=((b.length:Int)-2)) 1 ((((b.length:Int)-2)).toNat) (by omega) (by omega) (by omega) (by omega) (by omega)) fun ai hrun43 al=>L0<|f9 (.slice ai (((((b.length:Int)-2)).toNat)-1) (cp-1)) (d9 (kl:=.i64) (kh:=.i64) (lo:=1) (hi:=((b.length:Int)-2)) (A:=A) (n:=b.length) (c:=cp) rfl Tryz.underlying27 (by kernel_rfl) (by kernel_rfl) (by kernel_rfl) (hrun43 _ _ _))<|?_
 obtain⟨a,C,J⟩ : ∃ M E,di dir ((b.take ((((b.length:Int)-2)).toNat)).drop 1)=(M,E):=⟨_,_,rfl⟩
 have R:=aO.old Q i
 have S:=jy (dir:=dir) (w:=ad) (al _ _ _ _ _ R) (by rw[List.length_drop,List.length_take];omega)
 rw[J] at S
 refine az<|e2 S fun am bb T L=>?_
 have an:=T
 obtain⟨ao,ap,aq,ar,au,aw,ay,aA,aB,aD,aF,bc⟩:=an
 obtain rfl:am=(f3 a ao ap aq ar au).toArray:=by apply Array.toList_inj.1;simpa using aw
 obtain⟨l,o,rfl,_,_⟩:=ay.shape
 obtain⟨p,q,rfl,_,_⟩:=aA.shape
 obtain⟨r,s,rfl,_,_⟩:=aB.shape
 obtain⟨t,u,rfl,_,_⟩:=aD.shape
 obtain⟨v,y,rfl,_,_⟩:=aF.shape
 refine Pl 3<|aK mZ fun U bd V aG aH=>aE aG (mG a.code a.fail a.addr a.count a.value a.and_ a.or_ a.addr2 a.sub a.status a.events a.messages (.slice l a.words.length o) (.slice p a.bits.length q) (.slice r a.data.length s) (.slice t a.recs.length u) a.mei a.kind a.level a.more a.next (.slice v a.objects.length y)) fun be aI aL=>aj 1<|sq<|ax 2<|?_
 have W:=ud aH aL V
 have G:=aM L W
 have X:=aM I G
 refine cb ((C != 0)) (fun D=>?_) (fun D=>?_)
 have aN:=av D
 refine ak 2<|?_
 refine aE (ub (aM i G) e) #[vB 0,vW 0,vB 0,vB 0,vW 0,vW 0,vW 0,vW 0,vW 0,vW 0,vW 0,vW 0,vW 0,vW 0,nS,nS,nS,nS,vB 0,vB 0,vB 0,vB 0,vB 0,nS] fun bf aP aQ=>aj 1<|bh<|bV aP (vI C)<|?_
 have hX2:di dir (gf b)=(a,C):=(congrArg (di dir) (gk b)).trans J
 have hs:dM dir b=(bq.zero,C):=by
   unfold dM
   (try simp only[d,f,h,k,F,D,bj,bQ,hX2,reduceIte])
   all_goals rfl
 refine ec hs ?_
 exact cX (ud X aQ j)
 have aN:=aJ D
 refine bp<|sq<|?_
 refine ea (aO.at_ (aO.old R G) 0 (by omega)) fun aT aU Y aV bg=>Rg 8 (fun w'=>w'.cell? ⟨aT,aU+0,none⟩=some (vB (b.getD 0 0))∧w'.heap[U]? = some (.cells (mG a.code a.fail a.addr a.count a.value a.and_ a.or_ a.addr2 a.sub a.status a.events a.messages (.slice l a.words.length o) (.slice p a.bits.length q) (.slice r a.data.length s) (.slice t a.recs.length u) a.mei a.kind a.level a.more a.next (.slice v a.objects.length y)) 45 (0,0))) fun bi H=>?_
 have Z:=ub H aI
 refine bB ⟨(uc H aV),Z⟩ fun z=>Rt 0 z<|kj 1 z b.length 0 0 rfl Y (by omega)<|Rl 2 z (fun _ hs=>hs.1)<|Rt 3 z<|Rr 4 z (.agg (mG a.code a.fail a.addr a.count a.value a.and_ a.or_ a.addr2 a.sub a.status a.events a.messages (.slice l a.words.length o) (.slice p a.bits.length q) (.slice r a.data.length s) (.slice t a.recs.length u) a.mei a.kind a.level a.more a.next (.slice v a.objects.length y))) (fun w' hs=>hG (g:=U) (off:=0) [vB a.code,vB a.fail,vW a.addr,vW a.count,vW a.value,vW a.and_,vW a.or_,vW a.addr2,vW a.sub,vW a.status,vW a.events,vW a.messages,.slice l a.words.length o,.slice p a.bits.length q,.slice r a.data.length s,.slice t a.recs.length u,vB a.mei,vB a.kind,vB a.level,vB a.more,vB a.next,.slice v a.objects.length y] rfl (by kernel_rfl) hs.2 (by kernel_rfl) (by kernel_rfl) rfl)<|Rt 5 z<|?_
 refine R0 6 rfl<|iX (ub (aM i (aM G H)) e) #[vB (b.getD 0 0),vW 0,vB a.code,vB a.fail,vW a.addr,vW a.count,vW a.value,vW a.and_,vW a.or_,vW a.addr2,vW a.sub,vW a.status,vW a.events,vW a.messages,.slice l a.words.length o,.slice p a.bits.length q,.slice r a.data.length s,.slice t a.recs.length u,vB a.mei,vB a.kind,vB a.level,vB a.more,vB a.next,.slice v a.objects.length y] fun bl aX a0=>?_
 have a1:=uz H a0
 have a2:=ud X a1 j
 refine bB ⟨(cB (aO.old hsl a2) Y 0 (by omega)),(aY a0 (Ne.symm (nb (ag e) (le i.size L.size) V)) Z)⟩ fun aZ=>Rt 7 aZ<|re<|tn<|rt<|bV aX (vI 0)<|?_
 have hX2:di dir (gf b)=(a,C):=(congrArg (di dir) (gk b)).trans J
 have hs:dM dir b=(⟨(b.getD 0 0),0,a⟩,0):=by
   unfold dM
   (try simp only[d,f,h,k,F,D,bj,bQ,hX2,reduceIte])
   all_goals rfl
 refine ec hs ?_
 exact⟨_,rfl,⟨#[vB a.code,vB a.fail,vW a.addr,vW a.count,vW a.value,vW a.and_,vW a.or_,vW a.addr2,vW a.sub,vW a.status,vW a.events,vW a.messages,.slice l a.words.length o,.slice p a.bits.length q,.slice r a.data.length s,.slice t a.recs.length u,vB a.mei,vB a.kind,vB a.level,vB a.more,vB a.next,.slice v a.objects.length y],(by as_aux_lemma=>kernel_rfl),(aS.lo (aS.upd T (uz W a1) (ah (aW (ub (aM i L) e) (by decide)) aC)) I.size),b8 (x:=(b.getD 0 0)) (by omega),ci (x:=0) (by omega)⟩,a2⟩
theorem tA{m:Md}{v:Value}{b:List Int}{w:World}{dir:Int}(h:aO m w v b)(hb:b.length≤1048576) : Calls Tryz.prog 253 #[.int .i64 dir,v] w (np (dM dir b) w):=by
  obtain⟨A,cp,rfl,hc,_⟩:=h.shape
  exact qa h hb hc
open Go.RowKit
theorem pu(a b c d:Int)(w:World) : (Op.equalIn 10000 39 (.agg #[.int .u8 a,.int .u16 b]) (.agg #[.int .u8 c,.int .u16 d])).run Tryz.prog w = .ok ((a==c)&&(b==d)) w:=by
  have hS:Tryz.prog.underlying 39=some (.struct (Tryz.prog.fieldsOf 39)):=by kernel_rfl
  have hp:Tryz.prog.stoodInHeld 39=false:=by kernel_rfl
  rw[show(10000:Nat)=9998+1+1 from rfl,run_equalIn_agg w (9998+1) 39 _ _ hS hp]
  simp only[Program.fieldsOf,Tryz.underlying39]
  have p0:∀ v:Int,(part 5 #[.int .u8 v,.int .u16 b] 0).run Tryz.prog w = .ok (.int .u8 v) w:=fun v=>by simp[part,isAgg,run_underlying Tryz.underlying5,Result.andThen]
  have p0':∀ v:Int,(part 5 #[.int .u8 v,.int .u16 d] 0).run Tryz.prog w = .ok (.int .u8 v) w:=fun v=>by simp[part,isAgg,run_underlying Tryz.underlying5,Result.andThen]
  have p1:∀ v u:Int,(part 37 #[.int .u8 u,.int .u16 v] 1).run Tryz.prog w = .ok (.int .u16 v) w:=fun v u=>by simp[part,isAgg,run_underlying Tryz.underlying37,Result.andThen]
  have e0:=run_equalIn_int (P:=Tryz.prog) w 9998 5 .u8 _ a c Tryz.underlying5
  have e1:=run_equalIn_int (P:=Tryz.prog) w 9998 37 .u16 _ b d Tryz.underlying37
  simp only[Op.eqFields,Sem.run_bind,p0,p0',p1,e0,e1,Result.andThen_ok,ne_eq,String.reduceEq,not_false_eq_true,if_true,Sem.run_ite]
  cases (a==c)<;>cases (b==d)<;>simp
theorem pY{ev:Operand→Value}{o:Oper}{x y:Operand}{t:TypeId}(a b c d:Int){v:Bool}{w:World}(ho:o.op = .binOp .eql 39 x y t)
    (hx:ev x = .agg #[.int .u8 a,.int .u16 b]) (hy:ev y = .agg #[.int .u8 c,.int .u16 d]) (hv:((a==c)&&(b==d))=v) : (execOp ev o).run Tryz.prog w = .ok (.value (.bool v)) w:=by
  subst hv
  have hg:(eqGuard .eql 39 x y (.agg #[.int .u8 a,.int .u16 b]) (.agg #[.int .u8 c,.int .u16 d])).run Tryz.prog w = .ok () w:=run_eqGuard_agg w _ _ _ _ _ _ (by kernel_rfl)
  unfold execOp
  simp only[ho,hx,hy,Sem.run_bind,hg,Result.andThen_ok,run_eql_struct,pu,Sem.run_pure]
theorem pN{ev:Operand→Value}{o:Oper}{x y:Operand}{t:TypeId}(a b c d:Int){v:Bool}{w:World}(ho:o.op = .binOp .neq 39 x y t)
    (hx:ev x = .agg #[.int .u8 a,.int .u16 b]) (hy:ev y = .agg #[.int .u8 c,.int .u16 d]) (hv:(!((a==c)&&(b==d)))=v) : (execOp ev o).run Tryz.prog w = .ok (.value (.bool v)) w:=by
  subst hv
  have hg:(eqGuard .neq 39 x y (.agg #[.int .u8 a,.int .u16 b]) (.agg #[.int .u8 c,.int .u16 d])).run Tryz.prog w = .ok () w:=run_eqGuard_agg w _ _ _ _ _ _ (by kernel_rfl)
  unfold execOp
  simp only[ho,hx,hy,Sem.run_bind,hg,Result.andThen_ok,run_neq_struct,pu,Sem.run_pure]
open Go.RowKit
open Go.RowKit
theorem p5{m:Md}{v:Value}{b:List Int}{w:World}{dir:Int}{F:bq}{E:Int}(hX:dM dir b=(F,E))(h:aO m w v b)(hb:b.length≤1048576) : Calls Tryz.prog 253 #[.int .i64 dir,v] w (fun e w'=>∃ x,e = .returned (.tuple #[.agg (k9 F.unit F.tid F.msg x),.int .i64 E])∧(aS (.hi w.heap.size) w' (iU F.msg x).toList F.msg∧(0≤F.unit∧F.unit<256)∧(0≤F.tid∧F.tid<65536))∧aD [] w w'):=by
  refine(tA h hb).mono ?_
  rintro e w' ⟨cs,rfl,h1,h2⟩
  rw[hX] at h1 ⊢
  obtain⟨c,rfl,h3,h4,h5⟩:=h1
  obtain⟨x,rfl⟩:=lm h3
  exact⟨x,by rw[jJ],⟨h3,h4,h5⟩,h2⟩
open Go.RowKit
structure SS where
  dir:Int
  held:List Int
  off:Bool
def eB (w:World)(g:Nat)(S:SS) : Prop:=∃ A cp,w.heap[g]? = some (.cells #[.int .i64 S.dir,.slice A S.held.length cp,.bool S.off] 142 (0,0))∧aO true w (.slice A S.held.length cp) S.held∧S.held.length≤256∧S.held.length≤cp
def SS.feed (S:SS)(b:List Int) : SS × List Ev :=
  if S.off then (S,[]) else if decide (b.length≤256-S.held.length) then (⟨S.dir,S.held++b,false⟩,[]) else (⟨S.dir,[],true⟩,[Ev.bad 3])
def SS.tick (S:SS) : SS × List Ev:=(⟨S.dir,[],false⟩,if S.held.length=0 then [] else [⟨(dM S.dir S.held).2,(dM S.dir S.held).1⟩])
theorem eB.lt{w:World}{g:Nat}{S:SS}(h:eB w g S) : g<w.heap.size:=by
  obtain⟨A,cp,h1,_⟩:=h
  exact ag h1
theorem eB.upd{w w':World}{g:Nat}{S:SS}{X:List Nat}(h:eB w g S)(hu:aD X w w')(hg:g∉X)(hs:bZ true [5] X w) : eB w' g S:=by
  obtain⟨A,cp,h1,h2,h3⟩:=h
  exact⟨A,cp,hu.blk hg h1,h2.upd' hu hs,h3⟩
theorem eB.old{w w':World}{g:Nat}{S:SS}(h:eB w g S)(hu:aD [] w w') : eB w' g S:=h.upd hu (by simp) (bZ.nil _ _ _)
theorem eB.cells{w:World}{g:Nat}{S:SS}(h:eB w g S) : ∃ cs fr,w.heap[g]? = some (.cells cs 142 fr):=by
  obtain⟨A,cp,h1,_⟩:=h
  exact⟨_,_,h1⟩
theorem eB.le{w:World}{g:Nat}{S:SS}(h:eB w g S) : S.held.length≤256:=by
  obtain⟨A,cp,_,_,h1,_⟩:=h
  exact h1
theorem eB.safe{w:World}{g:Nat}{S:SS}(h:eB w g S)(D:List TypeId)(hD:D.contains 142=false) : bZ true D [g] w:=by
  obtain⟨A,cp,h1,_⟩:=h
  exact aW h1 hD
theorem SS.feed_le{S S2:SS}{b:List Int}{L:List Ev}(h:S.feed b=(S2,L)) : L.length≤1:=by
  have k:=congrArg Prod.snd h
  rw[show L=(S.feed b).2 from k.symm]
  unfold SS.feed
  split
  · exact Nat.zero_le _
  split
  · exact Nat.zero_le _
  · exact Nat.le_refl _
theorem SS.tick_le{S S2:SS}{L:List Ev}(h:S.tick=(S2,L)) : L.length≤1:=by
  have k:=congrArg Prod.snd h
  rw[show L=S.tick.2 from k.symm]
  unfold SS.tick
  dsimp only
  split
  · exact Nat.zero_le _
  · exact Nat.le_refl _
open Go.RowKit
theorem mt{P:Program}{sz:Nat}{A:Option Addr}{c:Nat}(w:World) : (Builtin.firstCells sz 0 (.slice A 0 c)).run P w = .ok #[] w:=by
  cases A with
  | none=>simp[Builtin.firstCells]
  | some a =>
    have:=run_loadCells_list (P:=P) w a [] (fun j v hj=>by simp at hj)
    simpa [Builtin.firstCells] using this
theorem tL{α:Type}{base sz:Nat}{e t:TypeId}{R:World→α→List Value→Prop}{w:World}{A:Option Addr}{n c g:Nat}{xs:List α}(hb:∃ cs fr,w.heap[g]? = some (.cells cs t fr))(h:aQ base e sz R w (.slice A n c) xs)(ht:(t==e)=false) : g∉ob A:=by
  obtain⟨cs,fr,hb⟩:=hb
  exact bU hb h ht
section
variable {P:Program}{n:Nat}{D:List Deferred}{F:Fr}{w:World}{K:Fr→World→Prop}{Q:Exit→Act→World→Prop}{d:Option Tmp}{t:TypeId}{s:String}{af:Array Edge}{gu:Option (Nat × Bool)}
theorem Bx{α:Type}{R:World→α→List Value→Prop}{x y:Operand}{e:TypeId}{base m c:Nat}{A:Option Addr}{xs ys:List α}{mm:Md}{e' ty:TypeId}{u:Value}(z:Value)(sz bytes:Nat)(HO:aQ base e sz R w (.slice A m c) xs)(HY:aI mm e' sz R w u ys)
    (hone:∀ x cs,R w x cs→∀ v,v∈cs→v.oneCell'=true) (hRU:∀ w',aD (ob A++[]) w w'→∀ x cs,R w x cs→R w' x cs)
    (hl:xs.length+ys.length≤4611686018427387904) (hmul:(xs.length+ys.length)*bytes≤140737488355328) (hbase:base≤w.heap.size) (h:∀ A' c' w',aQ base e sz R w' (.slice A' (xs++ys).length c') (xs++ys)→aD (ob A++[]) w w'→(∀ g,g∈ob A'→g∈ob A∨w.heap.size≤g)→K (pt d (.slice A' (xs++ys).length c') F) w')
    (hx:ee F x=some (.slice A m c):=by kernel_rfl) (hy':ee F y=some u:=by kernel_rfl) (he:pm P ty=some e:=by kernel_rfl) (hs:(ox P ty,z.cells.size,(f8 n d&&Nat.ble bytes 65536)&&Nat.blt 0 sz)=(some (some z,sz,bytes),sz,true):=by kernel_rfl) : OG P ⟨d,.call { callee:=.builtin .append,args:=#[x,y],argTypes:=#[ty,ty] },t,s,af,gu⟩ n D F w K Q:=by
  by_cases hne:ys=[]
  · subst hne
    simp only[Prod.mk.injEq] at hs
    have h3:=fc (fc hs.2.2).1
    obtain⟨A0,c0,e0,hc1,_⟩:=HO.rd.shape
    have e0:=e0.symm
    injection e0 with e1 e2 e3
    subst e2
    subst e1 e3
    obtain⟨B,cB,rfl,_,_⟩:=HY.shape
    have hinf:(P.info? e).map (fun i=>(i.zero,i.size,i.bytes))=some (some z,sz,bytes):=by have:=hs.1;unfold ox at this;rw[he] at this;exact this
    obtain⟨i0,hi,hz0,hz1,hz2⟩:=info_parts hinf
    have hsr:Src P i0.size ty (.slice B 0 cB) 0 [] w:=⟨.inl ⟨e,eD he⟩,fun w'=>by simp[Builtin.lenOf],mt w,mt w.drew,by simp,fun u hu=>by cases hu⟩
    have hr:=run_append_nothing w ty ty t _ i0 (eD he) hi A0 xs.length c0 hc1 _ hsr
    refine⟨fun a ha K' hK=>OW.mk ?_⟩
    have hx':=ha.ev hx
    have hy2:=ha.ev hy'
    simp only[List.length_nil] at hy2
    unfold Oper.wp execOp
    simp only[resolve,invoke,builtin,Sem.run_bind,Sem.run_pure,Result.andThen_ok,List.map_toArray,List.map_cons,List.map_nil,hx',hy2,hr]
    refine hK _ _ _ (h A0 c0 w (by rw[List.append_nil];exact HO) (aD.mono (S':=ob A0++[]) (aD.refl [] w) (fun x hx=>by cases hx)) (fun g hg=>.inl hg)) ?_
    rw[List.append_nil]
    exact ha.put h3.1
  · have hy:0<ys.length:=by
      cases ys with
      | nil=>exact absurd rfl hne
      | cons a r=>simp
    simp only[Prod.mk.injEq] at hs
    have h2:=fc hs.2.2
    have h3:=fc h2.1
    exact⟨fun a ha K' hK=>pq z sz bytes rfl rfl (eD he) (by have:=hs.1;unfold ox at this;rw[he] at this;exact this) hs.2.1 (by simpa using h2.2) xs (ha.ev hx) HO u ys (ha.ev hy') HY hy hone hRU hl hmul hbase fun A' c' w' hO hu hat=>hK _ _ _ (h A' c' w' hO hu hat) (ha.put h3.1)⟩
theorem eb{α:Type}{R:World→α→List Value→Prop}{x y:Operand}{e:TypeId}{base m c:Nat}{A:Option Addr}{xs ys:List α}{mm:Md}{e' ty:TypeId}{u:Value}(z:Value)(sz bytes:Nat)(HO:aQ base e sz R w (.slice A m c) xs)(HY:aI mm e' sz R w u ys)
    (hone:∀ x cs,R w x cs→∀ v,v∈cs→v.oneCell'=true) (hRU:∀ w',aD (ob A++[]) w w'→∀ x cs,R w x cs→R w' x cs)
    (hl:xs.length+ys.length≤4194304) (hbase:base≤w.heap.size) (h:∀ A' c' w',aQ base e sz R w' (.slice A' (xs++ys).length c') (xs++ys)→aD (ob A++[]) w w'→(∀ g,g∈ob A'→g∈ob A∨w.heap.size≤g)→K (pt d (.slice A' (xs++ys).length c') F) w')
    (hx:ee F x=some (.slice A m c):=by kernel_rfl) (hy':ee F y=some u:=by kernel_rfl) (he:pm P ty=some e:=by kernel_rfl) (hs:(ox P ty,z.cells.size,(f8 n d&&Nat.ble bytes 65536)&&Nat.blt 0 sz)=(some (some z,sz,bytes),sz,true):=by kernel_rfl) : OG P ⟨d,.call { callee:=.builtin .append,args:=#[x,y],argTypes:=#[ty,ty] },t,s,af,gu⟩ n D F w K Q:=by
  have hb:bytes≤65536:=by
    simp only[Prod.mk.injEq] at hs
    simpa using (fc (fc hs.2.2).1).2
  exact Bx z sz bytes HO HY hone hRU (by omega) (Nat.le_trans (Nat.mul_le_mul hl hb) (by decide)) hbase h hx hy' he hs
end
open Go.RowKit
theorem cz{α β:Type}{base sz base2 sz2:Nat}{e e2:TypeId}{R:World→α→List Value→Prop}{R2:World→β→List Value→Prop}{w:World}{A A2:Option Addr}{n c n2 c2:Nat}{xs:List α}{ys:List β}(h:aQ base e sz R w (.slice A n c) xs)(h2:aQ base2 e2 sz2 R2 w (.slice A2 n2 c2) ys)(ht:(e==e2)=false) : ∀ x,x∈ob A→x∉ob A2:=fun x hx hx2=>by
  rcases dF h with rfl|⟨g,cells,rfl,_,h1⟩
  · simp[ob] at hx
  rcases dF h2 with rfl|⟨g2,cells2,rfl,_,h3⟩
  · simp[ob] at hx2
  simp[ob] at hx hx2
  subst hx
  subst hx2
  rw[h1] at h3
  injection h3 with h3
  injection h3 with _ h3 _
  subst h3
  simp at ht
theorem kD{A A0:Option Addr}{w w0:World}{S:List Nat}(hat:∀ x,x∈ob A→x∈ob A0∨w.heap.size≤x)(h:∀ x,x∈ob A0→x∈S∨w0.heap.size≤x)(hs:w0.heap.size≤w.heap.size) : ∀ x,x∈ob A→x∈S∨w0.heap.size≤x:=fun x hx=>by
  rcases hat x hx with k|k
  · exact h x k
  · exact .inr (Nat.le_trans hs k)
theorem jT{A A1 A0:Option Addr}{w w0:World}(hat:∀ x,x∈ob A→x∈ob A1∨w.heap.size≤x)(h:∀ x,x∈ob A1→x∈ob A0∨w0.heap.size≤x)(hs:w0.heap.size≤w.heap.size) : ∀ x,x∈ob A→x∈ob A0∨w0.heap.size≤x:=kD hat h hs
theorem eq{A0:Option Addr}{w:World}:∀ x,x∈ob none→x∈ob A0∨w.heap.size≤x:=fun x hx=>by simp[ob] at hx
theorem iY{A0:Option Addr}{w:World}:∀ x,x∈ob A0→x∈ob A0∨w.heap.size≤x:=fun x hx=>.inl hx
theorem nO{w:World}:∀ x cs,ma w x cs→∀ v,v∈cs→v.oneCell'=true:=fun x cs h v hv=>by
  rw[h.1] at hv
  simp at hv
  subst hv
  rfl
section
variable {n:Nat}{B:Option Addr}
def ms (n:Nat)(B:Option Addr)(X:List Nat) : Prop:=0<n→∀ x,x∈ob B→x∉X
theorem eR:ms n B []:=fun _ x _=>by simp
theorem ef{g:Nat}{X:List Nat}(h:0<n→∀ x,x∈ob B→x≠g)(k:ms n B X) : ms n B (g :: X):=fun hn x hx=>by
  rw[List.mem_cons]
  rintro(e|e)
  · exact h hn x hx e
  · exact k hn x hx e
theorem dC{A:Option Addr}{X:List Nat}(h:ms n B (ob A))(k:ms n B X) : ms n B (ob A++X):=fun hn x hx=>by
  rw[List.mem_append]
  rintro(e|e)
  · exact h hn x hx e
  · exact k hn x hx e
theorem fI{A A0:Option Addr}{w:World}(h:ms n B (ob A0))(hl:0<n→∀ x,x∈ob B→x<w.heap.size)(hat:∀ x,x∈ob A→x∈ob A0∨w.heap.size≤x) : ms n B (ob A):=fun hn x hx hx2=>by
  rcases hat x hx2 with k|k
  · exact h hn x hx k
  · have:=hl hn x hx;omega
theorem fG{α:Type}{base sz:Nat}{e:TypeId}{R:World→α→List Value→Prop}{w w':World}{A:Option Addr}{m c:Nat}{xs:List α}(hl:0<n→∀ x,x∈ob B→x<w.heap.size)(h:aQ base e sz R w' (.slice A m c) xs)(hs:w.heap.size≤base) : ms n B (ob A):=fun hn x hx hx2=>by
  have:=hl hn x hx
  have:=gS h x hx2
  omega
theorem aI.low{α:Type}{m:Md}{e:TypeId}{sz c:Nat}{R:World→α→List Value→Prop}{w:World}{xs:List α}(h:aI m e sz R w (.slice B n c) xs) : 0<n→∀ x,x∈ob B→x<w.heap.size:=fun hn x hx=>by
  obtain⟨A',c',hv,_,_,_,h3⟩:=h
  injection hv with e1 e2 e3
  subst e1 e2 e3
  obtain⟨b,off,cells,t,fr,rfl,hh,_⟩:=h3 hn
  simp[ob] at hx
  subst hx
  exact ag hh
theorem aO.far{m:Md}{c:Nat}{w w':World}{xs:List Int}{X:List Nat}(h:aO m w (.slice B n c) xs)(hu:aD X w w')(hd:ms n B X) : aO m w' (.slice B n c) xs:=by
  obtain⟨A',c',hv,h1,h2,h0,h3⟩:=h
  injection hv with e1 e2 e3
  subst e1 e2 e3
  refine⟨_,_,rfl,h1,h2,h0,fun hp=>?_⟩
  obtain⟨b,off,cells,t,fr,rfl,hh,h4,h5⟩:=h3 hp
  exact⟨b,off,cells,t,fr,rfl,hu.blk (hd hp b (by simp[ob])) hh,h4,h5⟩
end
open Go.RowKit
def s6 (n:Nat)(X:List Nat)(w:World) : Prop:=∀ y,y∈X→n≤y∨∃ cells t fr,w.heap[y]? = some (.cells cells t fr)∧t∉ff
def sH (p n:Nat)(X:List Nat)(w:World) : Prop:=∀ y,y∈X→n≤y∨∃ cells t fr,w.heap[y]? = some (.cells cells t fr)∧(t∉ff∨y<p)
theorem s6.two{p n:Nat}{X:List Nat}{w:World}(h:s6 n X w) : sH p n X w:=fun y hy=>(h y hy).imp_right fun⟨c,t,fr,k,q⟩=>⟨c,t,fr,k,.inl q⟩
theorem sH.le{p p' n:Nat}{X:List Nat}{w:World}(hp:p'≤p)(h:sH p' n X w) : sH p n X w:=fun y hy=>(h y hy).imp_right fun⟨c,t,fr,k,q⟩=>⟨c,t,fr,k,q.imp_right fun z=>Nat.lt_of_lt_of_le z hp⟩
def bz (p n:Nat)(w:World)(x:Ev)(cs:List Value) : Prop:=n≤w.heap.size∧∀ (w':World)(X:List Nat),aD X w w'→sH p n X w→cI (.hi p) w' x cs
theorem bz.mk{p:Nat}{w:World}{x:Ev}{cs:List Value}(h:cI (.hi p) w x cs) : bz p w.heap.size w x cs:=⟨Nat.le_refl _,fun w' X hu ha=>cI.upd hu (fun y hy=>by
  rcases ha y hy with k|⟨c,t,fr,k,k2⟩
  · exact .inl k
  · exact .inr ⟨rfl,c,t,fr,k,k2⟩) x cs h⟩
theorem bz.hi{p n:Nat}{w:World}{x:Ev}{cs:List Value}(h:bz p n w x cs) : cI (.hi p) w x cs:=h.2 w [] (aD.refl _ _) (fun y hy=>by cases hy)
theorem bz.ev{p n:Nat}{w:World}{x:Ev}{cs:List Value}(h:bz p n w x cs) : cI true w x cs:=h.hi.tt
theorem bz.mono{p n n':Nat}{w:World}{x:Ev}{cs:List Value}(hn:n≤n')(hs:n'≤w.heap.size)(h:bz p n w x cs) : bz p n' w x cs:=⟨hs,fun w' X hu ha=>h.2 w' X hu fun y hy=>by
  rcases ha y hy with k|k
  · exact .inl (Nat.le_trans hn k)
  · exact .inr k⟩
theorem bz.lo{p p' n:Nat}{w:World}{x:Ev}{cs:List Value}(hp:p'≤p)(h:bz p n w x cs) : bz p' n w x cs:=⟨h.1,fun w' X hu ha=>(h.2 w' X hu (ha.le hp)).lo hp⟩
theorem bz.upd2{p n:Nat}{w w':World}{X:List Nat}{x:Ev}{cs:List Value}(hu:aD X w w')(ha:sH p n X w)(h:bz p n w x cs) : bz p n w' x cs:=by
  refine⟨Nat.le_trans h.1 hu.size,fun w2 X2 hu2 ha2=>h.2 w2 (X++X2) ?_ ?_⟩
  · exact aD.trans' (aD.mono hu (fun y hy=>.inl (List.mem_append_left _ hy))) hu2 (fun y hy=>.inl (List.mem_append_right _ hy))
  · intro y hy
    rcases List.mem_append.1 hy with hy|hy
    · exact ha y hy
    · rcases ha2 y hy with k | ⟨cells,t,fr,k1,k2⟩
      · exact .inl k
      · by_cases hl:y<w.heap.size
        · by_cases hX:y∈X
          · exact ha y hX
          · exact .inr ⟨cells,t,fr,by rw[← hu.block y hl hX];exact k1,k2⟩
        · exact .inl (Nat.le_trans h.1 (by omega))
theorem bz.upd{p n:Nat}{w w':World}{X:List Nat}{x:Ev}{cs:List Value}(hu:aD X w w')(ha:s6 n X w)(h:bz p n w x cs) : bz p n w' x cs:=h.upd2 hu ha.two
theorem bz.ones{p n:Nat}{w:World}:∀ (x:Ev)(cs:List Value),bz p n w x cs→∀ v,v∈cs→v.oneCell'=true:=fun x cs h=>cI.ones x cs h.hi
abbrev cZ (n base:Nat) (w:World) (v:Value) (xs:List Ev) : Prop:=aQ base 87 25 (bz base n) w v xs
theorem aQ.map{α:Type}{base sz:Nat}{e:TypeId}{R R':World→α→List Value→Prop}{w:World}{v:Value}{xs:List α}(h:aQ base e sz R w v xs)(k:∀ x cs,R w x cs→R' w x cs) : aQ base e sz R' w v xs:=by
  obtain⟨cells,ho,hx⟩:=h
  refine⟨cells,ho,fun j x hj=>?_⟩
  obtain⟨cs,h1,h2,h3⟩:=hx j x hj
  exact⟨cs,h1,k _ _ h2,h3⟩
theorem v5.low{base:Nat}{w:World}{v:Value}{xs:List Ev}(h:v5 base w v xs) : cZ w.heap.size base w v xs:=aQ.map h fun _ _=>bz.mk
theorem pV{p base:Nat}{w:World}{v:Value}{xs:List Ev}(h:aQ base 87 25 (cI (.hi p)) w v xs) : aQ base 87 25 (bz p w.heap.size) w v xs:=aQ.map h fun _ _=>bz.mk
theorem cZ.own{n base:Nat}{w:World}{v:Value}{xs:List Ev}(h:cZ n base w v xs) : lT base w v xs:=aQ.map h fun _ _ q=>q.ev
theorem cZ.up{n n' base:Nat}{w:World}{v:Value}{xs:List Ev}(hn:n≤n')(hs:n'≤w.heap.size)(h:cZ n base w v xs) : cZ n' base w v xs:=aQ.map h fun _ _ q=>q.mono hn hs
theorem cZ.lo{n base base':Nat}{w:World}{v:Value}{xs:List Ev}(h:cZ n base w v xs)(hb:base'≤base) : cZ n base' w v xs:=aQ.weaken (aQ.map h fun _ _ q=>q.lo hb) hb
theorem bW{n:Nat}{w:World}:s6 n [] w:=fun y hy=>by cases hy
theorem fe{n g:Nat}{w:World}{cs:Array Value}{t:TypeId}{fr:Nat × Nat}{X:List Nat}(hb:w.heap[g]? = some (.cells cs t fr))(ht:ff.contains t=false)(k:s6 n X w) : s6 n (g :: X) w:=fun y hy=>by
  rcases List.mem_cons.1 hy with rfl|hy
  · exact .inr ⟨cs,t,fr,hb,by simpa using ht⟩
  · exact k y hy
theorem gX{n:Nat}{w:World}{A:Option Addr}{X:List Nat}(h:∀ x,x∈ob A→n≤x)(k:s6 n X w) : s6 n (ob A++X) w:=fun y hy=>by
  rcases List.mem_append.1 hy with hy|hy
  · exact .inl (h y hy)
  · exact k y hy
theorem iW{α:Type}{n base sz m c:Nat}{e:TypeId}{R:World→α→List Value→Prop}{w:World}{A:Option Addr}{xs:List α}{X:List Nat}(h:aQ base e sz R w (.slice A m c) xs)(ht:ff.contains e=false)(k:s6 n X w) : s6 n (ob A++X) w:=fun y hy=>by
  rcases List.mem_append.1 hy with hy|hy
  · rcases dF h with rfl | ⟨g,cells,rfl,_,h1⟩
    · simp[ob] at hy
    · simp[ob] at hy
      subst hy
      exact .inr ⟨_,_,_,h1,by simpa using ht⟩
  · exact k y hy
theorem cS{n:Nat}:∀ x,x∈ob none→n≤x:=fun x hx=>by simp[ob] at hx
theorem rI{n:Nat}{A A0:Option Addr}{w:World}(hat:∀ x,x∈ob A→x∈ob A0∨w.heap.size≤x)(h:∀ x,x∈ob A0→n≤x)(hs:n≤w.heap.size) : ∀ x,x∈ob A→n≤x:=fun x hx=>by
  rcases hat x hx with k|k
  · exact h x k
  · exact Nat.le_trans hs k
section
variable {n base g cp:Nat}{w w':World}{A:Option Addr}{X:List Nat}
theorem rp{n':Nat}(hn:n≤n')(h:∀ x,x∈ob A→n'≤x) : ∀ x,x∈ob A→n≤x:=fun x hx=>Nat.le_trans hn (h x hx)
theorem vZ{k:Nat}{B:Option Addr}(hl:0<k→∀ x,x∈ob B→x<w.heap.size)(hg:w.heap.size≤g) : 0<k→∀ x,x∈ob B→x≠g:=fun hk x hx e=>by
  have:=hl hk x hx
  omega
end
theorem we{α:Type}{b0 b1 sz:Nat}{e:TypeId}{R:World→α→List Value→Prop}{w:World}{v:Value}{xs:List α}(hb:b0≤b1)(h:aQ b1 e sz R w v xs) : aQ b0 e sz R w v xs:=by
  obtain⟨cells,⟨h1,h2⟩,h3⟩:=h
  refine⟨cells,⟨h1,?_⟩,h3⟩
  rcases h2 with h2|⟨g,cap,cur,k0,k1,k2⟩
  · exact .inl h2
  · exact .inr ⟨g,cap,cur,k0,Nat.le_trans hb k1,k2⟩
theorem yL{α:Type}{b1 sz m c:Nat}{e:TypeId}{R:World→α→List Value→Prop}{w w1:World}{A A0:Option Addr}{xs:List α}(h:aQ b1 e sz R w1 (.slice A m c) xs)(hb:w.heap.size≤b1) : ∀ x,x∈ob A→x∈ob A0∨w.heap.size≤x:=fun x hx=>.inr (Nat.le_trans hb (gS h x hx))
theorem yj{α:Type}{n b1 sz m c:Nat}{e:TypeId}{R:World→α→List Value→Prop}{w1:World}{A:Option Addr}{xs:List α}(h:aQ b1 e sz R w1 (.slice A m c) xs)(hb:n≤b1) : ∀ x,x∈ob A→n≤x:=fun x hx=>Nat.le_trans hb (gS h x hx)
open Go.RowKit
theorem zT{base g:Nat}{w:World}{cur:Array Value}(hb:base≤g)(hg:w.heap[g]? = some (.cells cur 5 (0,0)))(hc:cur.size≤maxLen) : du base w (.slice (some ⟨g,0,none⟩) 0 cur.size) [] :=
  ⟨[],⟨rfl,.inr ⟨g,cur.size,cur,rfl,hb,hg,Nat.zero_le _,hc,(Nat.mul_one _).symm,by simp⟩⟩,fun j x hj=>by simp at hj⟩
theorem sf{base:Nat}{w:World}{A:Option Addr}{n c:Nat}{xs:List Int}(h:du base w (.slice A n c) xs) : du base w (.slice A 0 c) []:=by
  obtain⟨cells,⟨_,h2⟩,_⟩:=h
  rcases h2 with⟨e,_⟩|⟨g,cap,cur,e,h3,h4,h5,h6,h7,_⟩
  · injection e with e1 e2 e3
    subst e1 e3
    exact aQ.nil ..
  · injection e with e1 e2 e3
    subst e1 e3
    exact⟨[],⟨rfl,.inr ⟨g,c,cur,rfl,h3,h4,Nat.zero_le _,h6,h7,by simp⟩⟩,fun j x hj=>by simp at hj⟩
theorem jS{P:Program}{m:Md}{w:World}(t ty e:TypeId)(ht:P.underlying t=some (.slice e))(hte:e=5)(hinfo:(P.info? e).map (fun i=>(i.zero,i.size,i.bytes))=some (some (.int .u8 0),1,1))
    {A:Option Addr} {xs ys:List Int} (HX:aO true w (.slice A xs.length xs.length) xs) {u:Value} (HY:aO m w u ys) (hl:xs.length+ys.length≤4194304) :
    ∃ A' cp w',(Builtin.append_ #[t,t] ty #[.slice A xs.length xs.length,u]).run P w = .ok (.slice A' (xs++ys).length cp) w'∧aO true w' (.slice A' (xs++ys).length cp) (xs++ys)∧aD [] w w'∧((A'=A∧w'=w)∨∃ c,du w.heap.size w' (.slice A' 0 c) []):=by
  subst hte
  obtain⟨i0,hi,hz0,hz1,hz2⟩:=info_parts hinfo
  obtain⟨B,c,rfl,hc1,hc2⟩:=HY.shape
  by_cases hy:ys=[]
  · have hs:=zu (P:=P) ht HY hy
    subst hy
    rw[← hz1] at hs
    rw[List.append_nil]
    exact⟨A,_,w,run_append_nothing w t t ty _ i0 ht hi A xs.length xs.length (Nat.le_refl _) _ hs,HX,aD.refl _ _,.inl ⟨rfl,rfl⟩⟩
  have hyl:0<ys.length:=by
    cases ys with
    | nil=>exact absurd rfl hy
    | cons a r=>simp
  cases B with
  | none =>
    obtain⟨B,c',hv,_,_,h0,h3⟩:=HY
    injection hv with e1 e2 e3
    subst e1 e3
    obtain⟨b,off,cells,t,fr,hh,_⟩:=h3 hyl
    cases hh
  | some ad =>
    obtain⟨_,hnews⟩:=io jL.cell HY
    have hby:∀ x,x∈xs++ys→0≤x∧x<256:=fun x hx=>by
      rcases List.mem_append.1 hx with h|h
      · exact HX.rng x h
      · exact HY.rng x h
    have fin:∀ (cp:Nat) (w':World) (zs:Array Value),xs.length+ys.length≤cp→cp≤maxLen→zs.size=cp-(xs.length+ys.length)→w'.heap[w.heap.size]? = some (.cells (((xs++ys).map (Value.int .u8)).toArray++zs) 5 (0,0))→aO true w' (.slice (some ⟨w.heap.size,0,none⟩) (xs++ys).length cp) (xs++ys)∧∃ c,du w.heap.size w' (.slice (some ⟨w.heap.size,0,none⟩) 0 c) []:=fun cp w' zs h1 h2 hz h3=>by
      refine⟨⟨_,cp,rfl,by rw[List.length_append];exact h1,h2,(fun hA=>by cases hA),fun hp=>⟨w.heap.size,0,_,_,_,rfl,h3,(fun _=>⟨rfl,Nat.zero_le _⟩),fun j x hj=>?_⟩⟩,_,zT (Nat.le_refl _) h3 ?_⟩
      · refine⟨[.int .u8 x],rfl,⟨rfl,hby x (List.mem_of_getElem? hj)⟩,fun i u hi=>?_⟩
        cases i with
        | succ i=>simp at hi
        | zero =>
          have hi:Value.int .u8 x=u:=by simpa using hi
          subst hi
          have hlt:=(List.getElem?_eq_some_iff.1 hj).1
          rw[Array.getElem?_append_left (by simp;simpa using hlt)]
          simp only[Nat.zero_add,Nat.mul_one,Nat.add_zero]
          rw[List.getElem?_toArray,List.getElem?_map,hj]
          rfl
      · rw[Array.size_append,hz]
        simp
        omega
    have hzc:∀ k,(Builtin.zeroCells (Value.int .u8 0).cells k).size=k:=fun k=>by simp[Builtin.zeroCells,Value.cells]
    cases A with
    | none =>
      have hx0:xs=[]:=by
        obtain⟨B,c',hv,_,_,h0,h3⟩:=HX
        injection hv with e1 e2 e3
        subst e1
        have:=h0 rfl
        exact List.eq_nil_of_length_eq_zero (by omega)
      subst hx0
      have hr:=run_append_nil (P:=P) w t ty _ i0 (.int .u8 0) ht hi hz0 ad ys.length c (ys.map (Value.int .u8)) (by rw[hz1];simp) hnews hyl (by omega) (by rw[hz2];omega)
      have f:=fin (grownCap w ys.length 0 5) (w.drew.alloc (.cells ((ys.map (Value.int .u8)).toArray++Builtin.zeroCells (Value.int .u8 0).cells (grownCap w ys.length 0 5-ys.length)) 5)) (Builtin.zeroCells (Value.int .u8 0).cells (grownCap w ys.length 0 5-ys.length)) (by simpa using grownCap_ge w ys.length 0 _) (grownCap_le_maxLen _ _ _ _ (by unfold maxLen;omega)) (by rw[hzc];simp) (by simpa using eg w.drew _)
      exact⟨_,_,_,hr,f.1,((aD.refl _ _).drew).alloc _,.inr f.2⟩
    | some bd =>
      obtain⟨_,holds⟩:=io jL.cell HX
      have hr:=run_append_grow (P:=P) w t ty _ i0 (.int .u8 0) ht hi hz0 bd xs.length xs.length (xs.map (Value.int .u8)) (by rw[hz1];simp) holds ad ys.length c (ys.map (Value.int .u8)) (by rw[hz1];simp) hnews (by omega) (by omega) (by
        rw[hz2]
        have:=nextslicecap_le (need:=xs.length+ys.length) (old:=xs.length) (by omega)
        omega)
      have f:=fin (grownCap w (xs.length+ys.length) xs.length 5) (w.drew.alloc (.cells ((xs.map (Value.int .u8)).toArray++(ys.map (Value.int .u8)).toArray++Builtin.zeroCells (Value.int .u8 0).cells (grownCap w (xs.length+ys.length) xs.length 5-(xs.length+ys.length))) 5)) (Builtin.zeroCells (Value.int .u8 0).cells (grownCap w (xs.length+ys.length) xs.length 5-(xs.length+ys.length))) (grownCap_ge w _ _ _) (grownCap_le_maxLen _ _ _ _ (by unfold maxLen;omega)) (by rw[hzc]) (by simpa using eg w.drew _)
      exact⟨some ⟨w.heap.size,0,none⟩,grownCap w (xs.length+ys.length) xs.length 5,_,by rw[hr,List.length_append],f.1,((aD.refl _ _).drew).alloc _,.inr f.2⟩
section
variable {P:Program}{n:Nat}{D:List Deferred}{F:Fr}{w:World}{K:Fr→World→Prop}{Q:Exit→Act→World→Prop}{d:Option Tmp}{t:TypeId}{s:String}{af:Array Edge}{gu:Option (Nat × Bool)}
theorem Cf{ty:TypeId}{x y:Operand}{m:Md}{A:Option Addr}{xs ys:List Int}{u:Value}(HX:aO true w (.slice A xs.length xs.length) xs)(HY:aO m w u ys)(hl:xs.length+ys.length≤4194304)
    (h:∀ A' cp w',aO true w' (.slice A' (xs++ys).length cp) (xs++ys)→((A'=A∧w'=w)∨∃ c,du w.heap.size w' (.slice A' 0 c) [])→aD [] w w'→K (pt d (.slice A' (xs++ys).length cp) F) w') (hx:ee F x=some (.slice A xs.length xs.length):=by kernel_rfl) (hy:ee F y=some u:=by kernel_rfl)
    (hs:(pm P ty,(P.info? 5).map (fun i=>(i.zero,i.size,i.bytes)),f8 n d)=(some 5,some (some (.int .u8 0),1,1),true):=by kernel_rfl) : OG P ⟨d,.call { callee:=.builtin .append,args:=#[x,y],argTypes:=#[ty,ty] },t,s,af,gu⟩ n D F w K Q:=by
  simp only[Prod.mk.injEq] at hs
  obtain⟨h1,h2,h3⟩:=hs
  obtain⟨A',cp,w',hr,hv,hu,ho⟩:=jS (P:=P) (w:=w) ty t _ (eD h1) rfl h2 HX HY hl
  refine⟨fun a ha K' hK=>OW.mk ?_⟩
  have hx':=ha.ev hx
  have hy':=ha.ev hy
  unfold Oper.wp execOp
  simp only[resolve,invoke,builtin,Sem.run_bind,Sem.run_pure,Result.andThen_ok,List.map_toArray,List.map_cons,List.map_nil,hx',hy',hr]
  exact hK _ _ _ (h A' cp w' hv ho hu) (ha.put h3)
end
open Go.RowKit
def cQ (n base:Nat)(w:World)(g:Nat)(A:Option Addr)(c:Nat)(S:SS) : Prop:=(∃ cp,w.heap[g]? = some (.cells #[.int .i64 S.dir,.slice A S.held.length cp,.bool S.off] 142 (0,0))∧aO true w (.slice A S.held.length cp) S.held∧S.held.length≤256∧S.held.length≤cp)∧du base w (.slice A 0 c) []∧n≤w.heap.size∧(∀ x,x∈ob A→n≤x)∧base≤w.heap.size
section
variable {n base g c:Nat}{w w':World}{A:Option Addr}{S:SS}{X:List Nat}
theorem cQ.row(h:cQ n base w g A c S) : du base w (.slice A 0 c) []:=h.2.1
theorem cQ.low(h:cQ n base w g A c S) : ∀ x,x∈ob A→n≤x:=h.2.2.2.1
theorem cQ.nle(h:cQ n base w g A c S) : n≤w.heap.size:=h.2.2.1
theorem cQ.le(h:cQ n base w g A c S) : S.held.length≤256:=by
  obtain⟨⟨cp,_,_,h1,_⟩,_⟩:=h
  exact h1
theorem cQ.lt(h:cQ n base w g A c S) : g<w.heap.size:=by
  obtain⟨⟨cp,h1,_⟩,_⟩:=h
  exact ag h1
theorem cQ.cells(h:cQ n base w g A c S) : ∃ cs fr,w.heap[g]? = some (.cells cs 142 fr):=by
  obtain⟨⟨cp,h1,_⟩,_⟩:=h
  exact⟨_,_,h1⟩
theorem cQ.upd(h:cQ n base w g A c S)(hu:aD X w w')(hg:g∉X)(hr:∀ x,x∈ob A→x∉X) : cQ n base w' g A c S:=by
  obtain⟨⟨cp,h1,h2,h3⟩,h4,h5,h6,h7⟩:=h
  exact⟨⟨cp,hu.blk hg h1,aO.far h2 hu (fun _=>hr),h3⟩,ai h4 hu hr (fun _ _ q=>q),Nat.le_trans h5 hu.size,h6,Nat.le_trans h7 hu.size⟩
end
theorem bz.bad{p n:Nat}{w:World}(hn:n≤w.heap.size){e:Int}{cs:List Value}(h:cI (.hi p) w (Ev.bad e) cs) : bz p n w (Ev.bad e) cs:=⟨hn,fun w' X hu ha=>by
  obtain⟨s,h1,h2,h3⟩:=h
  obtain⟨vw,vb,vd,vr,vo,k0,kw,kb,kd,kr,ko,kR⟩:=h2
  have nl:∀ {α:Type} {e:TypeId} {sz:Nat} {R:World→α→List Value→Prop} {v:Value},aI (.hi p) e sz R w v []→aI (.hi p) e sz R w' v []:=fun⟨A,c,hv,q1,q2,q3,q4⟩=>⟨A,c,hv,q1,q2,q3,fun hp=>absurd hp (Nat.lt_irrefl 0)⟩
  exact⟨s,h1,⟨vw,vb,vd,vr,vo,k0,nl kw,nl kb,nl kd,nl kr,nl ko,kR⟩,h3⟩⟩
theorem cZ.nil{n base:Nat}{w:World}:cZ n base w (.slice none 0 0) []:=aQ.nil ..
theorem cZ.bad{n base:Nat}{w:World}{v:Value}{e:Int}(hn:n≤w.heap.size)(h:v5 base w v [Ev.bad e]) : cZ n base w v [Ev.bad e]:=by
  obtain⟨cells,ho,hx⟩:=h
  refine⟨cells,ho,fun j x hj=>?_⟩
  obtain⟨cs,h1,h2,h3⟩:=hx j x hj
  cases j with
  | succ j=>simp at hj
  | zero =>
    have hj:Ev.bad e=x:=by simpa using hj
    subst hj
    exact⟨cs,h1,bz.bad hn h2,h3⟩
def Cq (n base:Nat)(S2:SS)(L:List Ev)(g:Nat)(A:Option Addr)(w:World)(e:Ending)(w':World) : Prop:=∃ v A2 c2 n2,e = .returned v∧cZ n2 w.heap.size w' v L∧cQ n2 base w' g A2 c2 S2∧(∀ x,x∈ob A2→x∈ob A∨w.heap.size≤x)∧n≤n2∧aD (g :: (ob A++[])) w w'
theorem kO{g:Nat}{A:Option Addr}{w w':World}(h:aD [g] w w') : aD (g :: (ob A++[])) w w':=aD.mono h fun x hx=>.inl (by rw[List.mem_singleton] at hx;rw[hx];exact List.mem_cons_self ..)
theorem xK{w:World}{d:Int}(hd:d=0∨d=1) : Calls Tryz.prog 67 #[vI d] w (fun e w'=>∃ g,e = .returned (vP g 0)∧w.heap.size≤g∧cQ w.heap.size w.heap.size w' g none 0 ⟨d,[],false⟩∧aD [] w w'):=by
 have c:((d != 0)&&(d != 1))=false:=by rcases hd with rfl | rfl<;>rfl
 refine en 12 Tryz.func67 rfl<|ax 1<|sq<|ak 3<|cV 3 [5] 8 5 (d != 0) (d != 1) (fun K f h=>?_) ?_
 have k:=av h
 exact Pl 3<|ce f _ rfl
 exact nt<|cf c<|bp<|ak 2<|L0<|dK #[vI d,nS,.bool false] fun b l i j a=>aj 1<|rt<|rr (vP b 0)<|⟨b,rfl,i,⟨⟨0,j,aI.nil ..,Nat.zero_le _,Nat.zero_le _⟩,aQ.nil ..,a.size,cS,a.size⟩,a⟩
theorem vu{w:World}{n base g c:Nat}{A:Option Addr}{S:SS}(h:cQ n base w g A c S) : Calls Tryz.prog 251 #[vP g 0] w (bD (vI (S.held.length:Int)) w):=by
 obtain⟨⟨cp,hb,hr,hl,hcp⟩,hrow,hn0,hlow,hbs⟩:=h
 have hcm:=aI.len hr
 exact en 8 Tryz.func251 rfl<|ak 1<|aL 3<|aH hb 1<|aj 2<|rt<|rr (vI (S.held.length:Int))<|⟨rfl,(aD.refl [] _)⟩
theorem tK{w:World}{n base g c:Nat}{A:Option Addr}{S:SS}(h:cQ n base w g A c S){m:Md}{B:Option Addr}{cpb:Nat}{b:List Int}(hgA:g∉ob A)(hsl:aO m w (.slice B b.length cpb) b)(hbl:b.length≤1048576)(hcb:b.length≤cpb) :
    Calls Tryz.prog 250 #[vP g 0,.slice B b.length cpb] w (Cq n base (S.feed b).1 (S.feed b).2 g A w):=by
 obtain⟨⟨cp,hb,hr,hl,hcp⟩,hrow,hn0,hlow,hbs⟩:=h
 have hcm:=aI.len hr
 have hbm:=aI.len hsl
 refine en 53 Tryz.func250 rfl<|ax 1<|sq<|ak 3<|aH hb 2<|nt<|cb (S.off) (fun l=>?_) (fun l=>?_)
 refine ax 1<|bh<|rr nS<|?_
 have hs:S.feed b=(S,[]):=by unfold SS.feed;rw[l];rfl
 rw[hs]
 exact⟨_,A,c,n,rfl,cZ.nil,⟨⟨cp,hb,hr,hl,hcp⟩,ai hrow (aD.refl [] _) (fun x hx=>(by simp)) (fun _ _ q=>q),Nat.le_trans hn0 lr,hlow,Nat.le_trans hbs lr⟩,iY,Nat.le_refl _,kO (aD.mono (S':=[g]) (aD.refl [] _) aA)⟩
 refine bp<|ak 5<|aH hb 1<|Pl 1<|b6 (256-(S.held.length:Int))<|L0<|f9 (vI (min (b.length:Int) (256-(S.held.length:Int)))) (nF (a:=(b.length:Int)) (b:=(256-(S.held.length:Int))) rfl (by kernel_rfl) (by kernel_rfl))<|aj 1<|sq<|Rg 23 (fun w'=>w'.cell? ⟨g,1,none⟩=some (.slice A S.held.length cp)) fun R f=>?_
 have z:=ub f hb
 refine bB (ap z rfl) fun d=>Rt 0 d<|Rt 1 d<|Rt 2 d<|Rt 3 d<|Rl 4 d (fun _ hs=>hs)<|Rt 5 d<|Rt 6 d<|Rt 7 d<|Rl 8 d (fun _ hs=>hs)<|Rt 9 d<|Rt 10 d<|Rt 11 d<|Rt 12 d<|Rl 13 d (fun _ hs=>hs)<|Rt 14 d<|?_
 have u:=aO.upd' hr f aC
 refine Rr 15 d (.slice A S.held.length S.held.length) (fun _ _=>wV (k1:=.i64) (k2:=.i64) (i1:=(S.held.length:Int)) (i2:=(S.held.length:Int)) (A:=A) (n:=S.held.length) (c:=cp) rfl Tryz.underlying27 (by kernel_rfl) (by kernel_rfl) (by kernel_rfl) (by kernel_rfl) rfl rfl (aI.cap u) (aI.adr u))<|Rt 16 d<|Rt 17 d<|iy (rU (P:=Tryz.prog) 27 5 1 Tryz.underlying27 rfl rfl B b.length cpb (k:=(min (b.length:Int) (256-(S.held.length:Int)))) (((min (b.length:Int) (256-(S.held.length:Int)))).toNat) (by omega) (by omega) (by omega)) fun G hrun30 H=>Rr 18 d (.slice G (((min (b.length:Int) (256-(S.held.length:Int)))).toNat) cpb) (fun _ _=>jd (kl:=.i64) (k:=(min (b.length:Int) (256-(S.held.length:Int)))) (A:=B) (n:=b.length) (c:=cpb) rfl Tryz.underlying27 (by kernel_rfl) (by kernel_rfl) (hrun30 _ _))<|?_
 refine R0 19 rfl<|Cf (xs:=S.held) (ys:=(b.take (((min (b.length:Int) (256-(S.held.length:Int)))).toNat))) (u).full (H _ _ _ _ _ (aO.upd' hsl f aC)) (by(try simp only[List.length_take]);omega) fun o C T I J j=>?_
 have v:=ub j z
 refine bB (ap v rfl) fun D=>Rt 20 D<|Rt 21 D<|Dg 22 rfl<|bI v 1 #[vI S.dir,.slice o ((S.held++(b.take (((min (b.length:Int) (256-(S.held.length:Int)))).toNat))).length) C,.bool S.off] fun E F i=>re<|tn<|sq<|ax 4<|?_
 have p:=uz f (uz j i)
 refine cb (((min (b.length:Int) (256-(S.held.length:Int)))==(b.length:Int))) (fun y=>?_) (fun y=>?_)
 have K:=am y
 refine ax 1<|bh<|rr nS<|?_
 have hle:b.length≤256-S.held.length:=by omega
 have hs:S.feed b=(⟨S.dir,S.held++b,false⟩,[]):=by unfold SS.feed;rw[l,decide_eq_true hle];rfl
 rw[hs]
 have hz:(b.take (((min (b.length:Int) (256-(S.held.length:Int)))).toNat))=b:=List.take_of_length_le (by omega)
 have hB:=F
 have hR:=(aO.upd' I i (ah (aW v (by decide)) aC))
 rw[hz] at hB hR
 have hsh:=hR.cap
 have hgr:g∉ob A:=fun e=>hgA e
 have fin:∀ c2,du base E (.slice o 0 c2) []→(∀ x,x∈ob o→n≤x)→(∀ x,x∈ob o→x∈ob A∨w.heap.size≤x)→Cq n base ⟨S.dir,S.held++b,false⟩ [] g A w (.returned nS) E:=fun c2 k1 k2 k3=>⟨_,o,c2,n,rfl,cZ.nil,⟨⟨C,by rw[← l];exact hB,hR,by rw[List.length_append];omega,hsh⟩,k1,Nat.le_trans hn0 p.size,k2,Nat.le_trans hbs p.size⟩,k3,Nat.le_refl _,kO p⟩
 rcases J with⟨e1,e2⟩|⟨c2,k⟩
 · refine fin c ?_ ?_ ?_
   · rw[e1];exact ai hrow p (fun x hx=>(by rw[List.mem_singleton];intro e;exact hgA (e▸hx))) (fun _ _ q=>q)
   · rw[e1];exact hlow
   · rw[e1];exact iY
 · refine fin c2 ?_ ?_ ?_
   · exact aQ.weaken (ai k i (fun x hx=>(by rw[List.mem_singleton];intro e;have:=gS k x hx;have:=ag hb;have:=f.size;omega)) (fun _ _ q=>q)) (Nat.le_trans hbs f.size)
   · exact fun x hx=>Nat.le_trans (Nat.le_trans hn0 f.size) (gS k x hx)
   · exact fun x hx=>.inr (Nat.le_trans f.size (gS k x hx))
 have K:=au y
 refine bp<|ak 4<|L0<|bI F 1 #[vI S.dir,nS,.bool S.off] fun U L r=>Pl 2<|L0<|bI L 2 #[vI S.dir,nS,.bool true] fun V M s=>aL 1<|L0<|ep (m:=1) (e:=87) #[vI 3,vB 0,vW 0,vB 0,vB 0,vW 0,vW 0,vW 0,vW 0,vW 0,vW 0,vW 0,vW 0,vW 0,vW 0,nS,nS,nS,nS,vB 0,vB 0,vB 0,vB 0,vB 0,nS] fun N W O Q t=>?_
 refine aj 1<|rt<|rr (.slice (some ⟨N,0,none⟩) 1 1)<|?_
 have hle:¬ b.length≤256-S.held.length:=by omega
 have hs:S.feed b=(⟨S.dir,[],true⟩,[Ev.bad 3]):=by unfold SS.feed;rw[l,decide_eq_false hle];rfl
 rw[hs]
 have hE:=f5 (m:=.hi w.heap.size) (w0:=w) (x:=Ev.bad 3) (Nat.le_trans (le (le (le (le f.size j.size) i.size) r.size) s.size) O) Q ⟨⟨none,0,none,0,none,0,none,0,none,0⟩,by kernel_rfl,dY,by decide,by decide⟩
 exact⟨_,none,0,n,rfl,cZ.bad (Nat.le_trans hn0 (le (le (le (le (le f.size j.size) i.size) r.size) s.size) t.size)) hE,⟨⟨0,(ub t M),aI.nil ..,(Nat.zero_le _),(Nat.zero_le _)⟩,aQ.nil ..,Nat.le_trans hn0 (le (le (le (le (le f.size j.size) i.size) r.size) s.size) t.size),cS,Nat.le_trans hbs (le (le (le (le (le f.size j.size) i.size) r.size) s.size) t.size)⟩,eq,Nat.le_refl _,kO (u1 p (u1 r (aM s t) im) im)⟩
theorem ta{w:World}{n base g c:Nat}{A:Option Addr}{S:SS}(h:cQ n base w g A c S) : Calls Tryz.prog 252 #[vP g 0] w (Cq n base S.tick.1 S.tick.2 g A w):=by
 obtain⟨⟨cp,hb,hr,hl,hcp⟩,hrow,hn0,hlow,hbs⟩:=h
 have hcm:=aI.len hr
 refine en 32 Tryz.func252 rfl<|ak 1<|aL 3<|aH hb 1<|aj 1<|sq<|go<|Pl 4<|L0<|bI hb 1 #[vI S.dir,nS,.bool S.off] fun L u d=>Pl 2<|L0<|bI u 2 #[vI S.dir,nS,.bool false] fun v l f=>nt<|sq<|ax 3<|?_
 have a:=u1 d f im
 refine cb (((S.held.length:Int)==0)) (fun o=>?_) (fun o=>?_)
 have y:=am o
 refine ax 1<|bh<|rr nS<|?_
 have hs:S.tick=(⟨S.dir,[],false⟩,[]):=by unfold SS.tick;rw[if_pos (by omega)]
 rw[hs]
 exact⟨_,none,0,v.heap.size,rfl,cZ.nil,⟨⟨0,l,aI.nil ..,(Nat.zero_le _),(Nat.zero_le _)⟩,aQ.nil ..,Nat.le_refl _,cS,Nat.le_trans hbs a.size⟩,eq,Nat.le_trans hn0 a.size,kO a⟩
 have y:=au o
 refine bp<|ak 3<|aH l 0<|Pl 1<|?_
 refine pr (dM S.dir S.held) fun b p r=>?_
 refine az<|e2 (p5 r (aO.upd' hr a (ah (aW hb (by decide)) aC)) (by omega)) fun wc M z i=>?_
 obtain⟨B,C,D⟩:=z
 refine Pl 3<|aK #[vB 0,vW 0,vB 0,vB 0,vW 0,vW 0,vW 0,vW 0,vW 0,vW 0,vW 0,vW 0,vW 0,vW 0,nS,nS,nS,nS,vB 0,vB 0,vB 0,vB 0,vB 0,nS] fun N O E F j=>aE F (k9 b.unit b.tid b.msg wc) fun P G k=>Pl 1<|aL 1<|L0<|cO G<|Pl 1<|L0<|ep (m:=1) (e:=87) (lV ⟨p,b⟩ wc) fun H I J K q=>Pl 1<|nl<|tn<|rt<|rr (.slice (some ⟨H,0,none⟩) 1 1)<|?_
 have hs:S.tick=(⟨S.dir,[],false⟩,[⟨p,b⟩]):=by unfold SS.tick;rw[if_neg (by omega),r]
 rw[hs]
 have s:=ud j (aM k q) E
 have hE:=f5 (m:=.hi w.heap.size) (w0:=w) (x:=⟨p,b⟩) (Nat.le_trans (le (le (le (le d.size f.size) i.size) j.size) k.size) J) K ⟨wc,rfl,(aS.lo (aS.upd B s aC) a.size),C,D⟩
 have t:=aM i s
 exact⟨_,none,0,I.heap.size,rfl,v5.low hE,⟨⟨0,(ub t l),aI.nil ..,(Nat.zero_le _),(Nat.zero_le _)⟩,aQ.nil ..,Nat.le_refl _,cS,Nat.le_trans hbs (le (le (le (le (le d.size f.size) i.size) j.size) k.size) q.size)⟩,eq,Nat.le_trans hn0 (le (le (le (le (le d.size f.size) i.size) j.size) k.size) q.size),kO (aM a t)⟩
open Go.RowKit
def x9 (b:List Int) : al:=⟨b,false,0⟩
def xa (b:List Int) : al:=(x9 b).wordsC 1
def v4 (b:List Int) : al:=(xa b).wordsC 1
def wb (b:List Int) : al:=(v4 b).wordsC 1
def w4 (b:List Int) : al:=(wb b).bytesC 1
def nP (b:List Int) : List Int:=(w4 b).bytesR (((w4 b).l.length:Nat) : Int)
def cg (dir:Int)(b:List Int) : bq × Int :=
  if dir != 0&&dir != 1 then (bq.zero,1)
  else if decide ((b.length:Int)<8) then (bq.zero,2)
  else if decide (260<(b.length:Int)) then (bq.zero,3)
  else if (xa b).wordV != 0 then (bq.zero,13)
  else if (v4 b).wordV != (b.length:Int)-6 then (bq.zero,5)
  else bQ (wb b).byteV (x9 b).wordV (di dir (nP b))
theorem oa{m:Md}{A:Option Addr}{cp:Nat}{b:List Int}{w:World}{dir:Int}(hsl:aO m w (.slice A b.length cp) b)(hb:b.length≤1048576) :
    Calls Tryz.prog 107 #[vI dir,.slice A b.length cp] w (np (cg dir b) w):=by
 have hln:(b.length:Int)≤1048576:=by omega
 refine en 75 Tryz.func107 rfl<|sg<|aK #[vB 0,vW 0,vB 0,vB 0,vW 0,vW 0,vW 0,vW 0,vW 0,vW 0,vW 0,vW 0,vW 0,vW 0,nS,nS,nS,nS,vB 0,vB 0,vB 0,vB 0,vB 0,nS] fun b7 b9 g e h=>aj 1<|sq<|bk<|ak 3<|cV 3 [17] 20 17 (dir != 0) (dir != 1) (fun K a1 a2=>?_) ?_
 have ba:=av a2
 exact Pl 3<|ce a1 _ rfl
 refine aj 1<|cb (((dir != 0)&&(dir != 1))) (fun c=>?_) (fun c=>?_)
 have O:=(aR c).1
 have P:=(aR c).2
 have bb:=av O
 have bc:=av P
 refine ak 1<|aE e #[vB 0,vW 0,vB 0,vB 0,vW 0,vW 0,vW 0,vW 0,vW 0,vW 0,vW 0,vW 0,vW 0,vW 0,nS,nS,nS,nS,vB 0,vB 0,vB 0,vB 0,vB 0,nS] fun bd a3 a4=>aj 1<|rt<|br<|tr<|bV a3 (vI 1)<|?_
 have hs:cg dir b=(bq.zero,1):=by
   unfold cg
   (try simp only[c,O,P,bj,bQ,w4,wb,v4,xa,x9,reduceIte])
   all_goals rfl
 refine ec hs ?_
 exact cX (ud h a4 g)
 refine ax 4<|cb ((decide ((b.length:Int)<8))) (fun d=>?_) (fun d=>?_)
 have a5:=of_decide_eq_true d
 refine ak 1<|aE e #[vB 0,vW 0,vB 0,vB 0,vW 0,vW 0,vW 0,vW 0,vW 0,vW 0,vW 0,vW 0,vW 0,vW 0,nS,nS,nS,nS,vB 0,vB 0,vB 0,vB 0,vB 0,nS] fun be a6 a7=>aj 1<|rt<|br<|tr<|bV a6 (vI 2)<|?_
 have hs:cg dir b=(bq.zero,2):=by
   unfold cg
   (try simp only[c,d,bj,bQ,w4,wb,v4,xa,x9,reduceIte])
   all_goals rfl
 refine ec hs ?_
 exact cX (ud h a7 g)
 have a5:=of_decide_eq_false d
 refine ax 4<|cb ((decide (260<(b.length:Int)))) (fun f=>?_) (fun f=>?_)
 have a8:=of_decide_eq_true f
 refine ak 1<|aE e #[vB 0,vW 0,vB 0,vB 0,vW 0,vW 0,vW 0,vW 0,vW 0,vW 0,vW 0,vW 0,vW 0,vW 0,nS,nS,nS,nS,vB 0,vB 0,vB 0,vB 0,vB 0,nS] fun bf a9 aa=>aj 1<|rt<|br<|tr<|bV a9 (vI 3)<|?_
 have hs:cg dir b=(bq.zero,3):=by
   unfold cg
   (try simp only[c,d,f,bj,bQ,w4,wb,v4,xa,x9,reduceIte])
   all_goals rfl
 refine ec hs ?_
 exact cX (ud h aa g)
 have a8:=of_decide_eq_false f
 refine sk<|bn<|tn<|ak 1<|?_
 refine az<|e3 (dA (aO.old hsl h) (by omega)) fun t bg o ac Q=>Pl 1<|aL 1<|aL 2<|L0<|i4 #[] #[] (args:=#[vP t 0])<|m3 (bL ac) fun bi ad R bl=>Pl 2<|L0<|i4 #[] #[] (args:=#[vP t 0])<|m3 (bL ad) fun bm af S bo=>?_
 refine ab af fun x46 r ag=>?_
 refine Pl 2<|L0<|i4 #[] #[] (args:=#[vP t 0])<|m3 (bL ag) fun bs ai T bt=>aj 3<|sq<|bk<|ax 3<|?_
 have j:=ud Q (u1 R (u1 S T im) im) o
 have u:=aM h j
 refine cb (((((al.mk b false 0).wordsC 1).wordV)!=0)) (fun i=>?_) (fun i=>?_)
 have am:=av i
 refine ak 1<|?_
 refine aE (ub j e) #[vB 0,vW 0,vB 0,vB 0,vW 0,vW 0,vW 0,vW 0,vW 0,vW 0,vW 0,vW 0,vW 0,vW 0,nS,nS,nS,nS,vB 0,vB 0,vB 0,vB 0,vB 0,nS] fun bu an ao=>aj 1<|rt<|br<|tr<|bV an (vI 13)<|?_
 subst r
 have hs:cg dir b=(bq.zero,13):=by
   unfold cg
   (try simp only[c,d,f,i,bj,bQ,w4,wb,v4,xa,x9,reduceIte])
   all_goals rfl
 refine ec hs ?_
 exact cX (ud u ao g)
 have am:=aJ i
 refine ak 1<|b6 x46.wordV<|Pl 2<|b6 ((b.length:Int)-6)<|aj 2<|cb ((x46.wordV != ((b.length:Int)-6))) (fun k=>?_) (fun k=>?_)
 have ap:=av k
 refine ak 1<|?_
 refine aE (ub j e) #[vB 0,vW 0,vB 0,vB 0,vW 0,vW 0,vW 0,vW 0,vW 0,vW 0,vW 0,vW 0,vW 0,vW 0,nS,nS,nS,nS,vB 0,vB 0,vB 0,vB 0,vB 0,nS] fun bv aq ar=>aj 1<|rt<|br<|tr<|bV aq (vI 5)<|?_
 subst r
 have hs:cg dir b=(bq.zero,5):=by
   unfold cg
   (try simp only[c,d,f,i,k,bj,bQ,w4,wb,v4,xa,x9,reduceIte])
   all_goals rfl
 refine ec hs ?_
 exact cX (ud u ar g)
 have ap:=aJ k
 refine sk<|bn<|tn<|ak 1<|az<|m3 (bM ai) fun bw s v bx=>Pl 1<|aL 3<|az<|mq (dR s)<|?_
 have bz:=ae.len s
 refine az<|tT (c3 (n:=((((x46.wordsC 1).bytesC 1).l.length:Nat) : Int)) s) fun bA bB au aw bC bD ay x=>?_
 have bE:=Nat.le_trans (al.bytesR_le ((x46.wordsC 1).bytesC 1) ((((x46.wordsC 1).bytesC 1).l.length:Nat) : Int)) (ae.len s)
 refine ab ay fun x80 U bF=>?_
 obtain⟨a,p,y⟩ : ∃ M E,di dir (((x46.wordsC 1).bytesC 1).bytesR ((((x46.wordsC 1).bytesC 1).l.length:Nat) : Int))=(M,E):=⟨_,_,rfl⟩
 have V:=jy (dir:=dir) (w:=au) aw (by omega)
 rw[y] at V
 refine az<|e2 V fun aA bG W X=>?_
 have aB:=W
 obtain⟨aD,aF,aG,aH,aI,aN,aP,aQ,aT,aU,aV,bH⟩:=aB
 obtain rfl:aA=(f3 a aD aF aG aH aI).toArray:=by apply Array.toList_inj.1;simpa using aN
 obtain⟨z,B,rfl,_,_⟩:=aP.shape
 obtain⟨C,D,rfl,_,_⟩:=aQ.shape
 obtain⟨F,G,rfl,_,_⟩:=aT.shape
 obtain⟨H,I,rfl,_,_⟩:=aU.shape
 obtain⟨J,L,rfl,_,_⟩:=aV.shape
 refine Pl 3<|aK mZ fun bI bJ aX aY aZ=>aE aY (mG a.code a.fail a.addr a.count a.value a.and_ a.or_ a.addr2 a.sub a.status a.events a.messages (.slice z a.words.length B) (.slice C a.bits.length D) (.slice F a.data.length G) (.slice H a.recs.length I) a.mei a.kind a.level a.more a.next (.slice J a.objects.length L)) fun bK b0 b1=>aj 1<|sq<|ax 2<|?_
 have Y:=ud aZ b1 aX
 have N:=u1 v (aM x (aM X Y)) im
 have Z:=ud u N (le h.size o)
 refine cb ((p != 0)) (fun q=>?_) (fun q=>?_)
 have b2:=av q
 refine ak 2<|?_
 refine aE (ub (ud j N o) e) #[vB 0,vW 0,vB 0,vB 0,vW 0,vW 0,vW 0,vW 0,vW 0,vW 0,vW 0,vW 0,vW 0,vW 0,nS,nS,nS,nS,vB 0,vB 0,vB 0,vB 0,vB 0,nS] fun bN b3 b4=>aj 1<|bh<|bV b3 (vI p)<|?_
 subst U r
 have hX2:di dir (nP b)=(a,p):=y
 have hs:cg dir b=(bq.zero,p):=by
   unfold cg
   (try simp only[c,d,f,i,k,q,bj,bQ,w4,wb,v4,xa,x9,hX2,reduceIte])
   all_goals rfl
 refine ec hs ?_
 exact cX (ud Z b4 g)
 have b2:=aJ q
 refine bp<|ak 3<|L0<|cO b0<|Pl 1<|?_
 refine aE (ub (ud j N o) e) #[vB ((x46.wordsC 1).byteV),vW ((al.mk b false 0).wordV),vB a.code,vB a.fail,vW a.addr,vW a.count,vW a.value,vW a.and_,vW a.or_,vW a.addr2,vW a.sub,vW a.status,vW a.events,vW a.messages,.slice z a.words.length B,.slice C a.bits.length D,.slice F a.data.length G,.slice H a.recs.length I,vB a.mei,vB a.kind,vB a.level,vB a.more,vB a.next,.slice J a.objects.length L] fun bO b5 a0=>aj 1<|rt<|bV b5 (vI 0)<|?_
 subst U r
 have hX2:di dir (nP b)=(a,p):=y
 have hs:cg dir b=(⟨((((al.mk b false 0).wordsC 1).wordsC 1).wordsC 1).byteV,(al.mk b false 0).wordV,a⟩,0):=by
   unfold cg
   (try simp only[c,d,f,i,k,q,bj,bQ,w4,wb,v4,xa,x9,hX2,reduceIte])
   all_goals rfl
 refine ec hs ?_
 exact⟨_,rfl,⟨#[vB a.code,vB a.fail,vW a.addr,vW a.count,vW a.value,vW a.and_,vW a.or_,vW a.addr2,vW a.sub,vW a.status,vW a.events,vW a.messages,.slice z a.words.length B,.slice C a.bits.length D,.slice F a.data.length G,.slice H a.recs.length I,vB a.mei,vB a.kind,vB a.level,vB a.more,vB a.next,.slice J a.objects.length L],(by as_aux_lemma=>kernel_rfl),(aS.lo (aS.upd W (uz Y a0) (ah (aW (ub (ud j (u1 v (aM x X) im) o) e) (by decide)) aC)) (le (le (le (le (le (le h.size Q.size) R.size) S.size) T.size) v.size) x.size)),b8 (by omega),ci (by omega)⟩,(ud Z a0 g)⟩
theorem rh{m:Md}{v:Value}{b:List Int}{w:World}{dir:Int}(h:aO m w v b)(hb:b.length≤1048576) : Calls Tryz.prog 107 #[.int .i64 dir,v] w (np (cg dir b) w):=by
  obtain⟨A,cp,rfl,_,_⟩:=h.shape
  exact oa h hb
open Go.RowKit
open Go.RowKit
theorem j5{m:Md}{v:Value}{b:List Int}{w:World}{dir:Int}{F:bq}{E:Int}(hX:cg dir b=(F,E))(h:aO m w v b)(hb:b.length≤1048576) : Calls Tryz.prog 107 #[.int .i64 dir,v] w (fun e w'=>∃ x,e = .returned (.tuple #[.agg (k9 F.unit F.tid F.msg x),.int .i64 E])∧(aS (.hi w.heap.size) w' (iU F.msg x).toList F.msg∧(0≤F.unit∧F.unit<256)∧(0≤F.tid∧F.tid<65536))∧aD [] w w'):=by
  refine(rh h hb).mono ?_
  rintro e w' ⟨cs,rfl,h1,h2⟩
  rw[hX] at h1 ⊢
  obtain⟨c,rfl,h3,h4,h5⟩:=h1
  obtain⟨x,rfl⟩:=lm h3
  exact⟨x,by rw[jJ],⟨h3,h4,h5⟩,h2⟩
open Go.RowKit
structure SM where
  dir:Int
  held:List Int
  skip:Int
theorem yw{a b:Int}(ha:0≤a∧a<256)(hb:0≤b∧b<256) : bits .or .i64 (a*256) b=a*256+b:=by
  obtain⟨A,rfl⟩:=Int.eq_ofNat_of_zero_le ha.1
  obtain⟨B,rfl⟩:=Int.eq_ofNat_of_zero_le hb.1
  have e:((A:Int)*256)=((A*256:Nat) : Int):=by omega
  rw[e]
  show IntKind.i64.wrap ((BitVec.ofInt 64 ((A*256:Nat) : Int) ||| BitVec.ofInt 64 (B:Int)).toNat:Int)=_
  rw[BitVec.toNat_or,BitVec.ofInt_natCast,BitVec.ofInt_natCast,BitVec.toNat_ofNat,BitVec.toNat_ofNat,Nat.mod_eq_of_lt (by omega),Nat.mod_eq_of_lt (by omega)]
  have h:=Nat.shiftLeft_add_eq_or_of_lt (i:=8) (b:=B) (by omega) A
  rw[Nat.shiftLeft_eq] at h
  rw[← h,i64_in (by omega)]
  omega
def SM.size (S:SM) : Int:=S.held.getD 4 0*256+S.held.getD 5 0
def SM.nx (S:SM) : Nat:=if S.held.length<6 then 0 else if 254<S.size then 1 else if S.size<2 then 2 else if (S.held.length:Int)=6+S.size then 3 else 0
def SM.does (S:SM) : SM × List Ev:=match S.nx with
  | 1=>(⟨S.dir,[],S.size⟩,[Ev.bad 3])
  | 2=>(⟨S.dir,[],S.size⟩,[Ev.bad 5])
  | 3=>(⟨S.dir,[],S.skip⟩,[⟨(cg S.dir S.held).2,(cg S.dir S.held).1⟩])
  | _=>(S,[])
def SM.byte (S:SM)(c:Int) : SM × List Ev:=if 0<S.skip then (⟨S.dir,S.held,S.skip-1⟩,[]) else (SM.mk S.dir (S.held++[c]) S.skip).does
def SM.feed (S:SM)(b:List Int) : SM × List Ev:=b.foldl (fun p c=>((p.1.byte c).1,p.2++(p.1.byte c).2)) (S,[])
abbrev D5 (S:SM) (A:Option Addr) (cp:Nat) : Array Value:=#[.int .i64 S.dir,.slice A S.held.length cp,.int .i64 S.skip]
abbrev lX (w:World) (g:Nat) (S:SM) (A:Option Addr) (cp:Nat) : Prop:=w.heap[g]? = some (.cells (D5 S A cp) 89 (0,0))
theorem SM.size_rng{S:SM}(h:∀ x,x∈S.held→0≤x∧x<256) : 0≤S.size∧S.size<65536:=by
  have hd:∀ j,0≤S.held.getD j 0∧S.held.getD j 0<256:=fun j=>by
    rw[List.getD_eq_getElem?_getD]
    cases hj:S.held[j]? with
    | none=>simp
    | some x=>exact h x (List.mem_of_getElem? hj)
  have h4:=hd 4
  have h5:=hd 5
  unfold SM.size
  omega
def AY (S:SM)(L:List Ev)(g:Nat)(w:World)(e:Ending)(w':World) : Prop:=∃ v,e = .returned v∧v5 w.heap.size w' v L∧lX w' g S none 0∧aD [g] w w'
theorem qj{w:World}:Calls Tryz.prog 15 #[vI 0] w (fun e w'=>∃ g,e = .returned (vP g 0)∧w.heap.size≤g∧lX w' g ⟨0,[],0⟩ none 0∧aD [] w w'):=by
 exact en 12 Tryz.func15 rfl<|ax 1<|sq<|ax 6<|c0<|sk<|tn<|ak 2<|L0<|dK #[vI 0,nS,vI 0] fun a f b c d=>aj 1<|rt<|rr (vP a 0)<|⟨a,rfl,b,c,d⟩
theorem qk{w:World}:Calls Tryz.prog 15 #[vI 1] w (fun e w'=>∃ g,e = .returned (vP g 0)∧w.heap.size≤g∧lX w' g ⟨1,[],0⟩ none 0∧aD [] w w'):=by
 exact en 12 Tryz.func15 rfl<|ax 1<|sq<|ax 6<|c0<|sk<|tn<|ak 2<|L0<|dK #[vI 1,nS,vI 0] fun a f b c d=>aj 1<|rt<|rr (vP a 0)<|⟨a,rfl,b,c,d⟩
theorem qZ{w:World}{g:Nat}{S:SM}{A:Option Addr}{cp:Nat}(hb:lX w g S A cp)(hr:aO true w (.slice A S.held.length cp) S.held) : Calls Tryz.prog 19 #[vP g 0] w (bD (vI (S.held.length:Int)) w):=by
 have hcm:=aI.len hr
 have hrg:=SM.size_rng (aO.range hr)
 have hru:=aO.range hr
 exact en 8 Tryz.func19 rfl<|ak 1<|aL 3<|aH hb 1<|aj 2<|rt<|rr (vI (S.held.length:Int))<|⟨rfl,(aD.refl [] _)⟩
theorem gy{w:World}{g:Nat}{S:SM}{A:Option Addr}{cp:Nat}(hb:lX w g S A cp)(hr:aO true w (.slice A S.held.length cp) S.held)(h6:6≤S.held.length) : Calls Tryz.prog 74 #[vP g 0] w (bD (vI S.size) w):=by
 have hcm:=aI.len hr
 have hrg:=SM.size_rng (aO.range hr)
 have hru:=aO.range hr
 refine en 19 Tryz.func74 rfl<|ax 1<|sq<|ea (aO.at_ hr 4 (by omega)) fun c d e f l=>ea (aO.at_ hr 5 (by omega)) fun h i j k m=>Rg 17 (fun w'=>w'.cell? ⟨g,1,none⟩=some (.slice A S.held.length cp)∧w'.cell? ⟨c,d+4,none⟩=some (vB (S.held.getD 4 0))∧w'.cell? ⟨h,i+5,none⟩=some (vB (S.held.getD 5 0))) fun n b=>?_
 exact bB ⟨(ap (ub b hb) rfl),(uc b f),(uc b k)⟩ fun a=>Rt 0 a<|Rt 1 a<|Rt 2 a<|Rl 3 a (fun _ hs=>hs.1)<|kj 4 a S.held.length 4 4 rfl e (by omega)<|Rl 5 a (fun _ hs=>hs.2.1)<|Rr 6 a (vI (S.held.getD 4 0)) (fun _ _=>bF (vI (IntKind.i64.wrap (S.held.getD 4 0))) (by kernel_rfl) (congrArg (Value.int .i64) (i64_in (by omega))))<|Rr 7 a (vI ((S.held.getD 4 0)*256)) (fun _ _=>bF (vI (IntKind.i64.wrap ((S.held.getD 4 0)*256))) (by kernel_rfl) (congrArg (Value.int .i64) (i64_in (by omega))))<|Rt 8 a<|Rt 9 a<|Rt 10 a<|Rl 11 a (fun _ hs=>hs.1)<|kj 12 a S.held.length 5 5 rfl j (by omega)<|Rl 13 a (fun _ hs=>hs.2.2)<|Rr 14 a (vI (S.held.getD 5 0)) (fun _ _=>bF (vI (IntKind.i64.wrap (S.held.getD 5 0))) (by kernel_rfl) (congrArg (Value.int .i64) (i64_in (by omega))))<|Rr 15 a (vI (((S.held.getD 4 0)*256)+(S.held.getD 5 0))) (fun _ _=>bF (vI (bits .or .i64 ((S.held.getD 4 0)*256) (S.held.getD 5 0))) (by kernel_rfl) (congrArg (Value.int .i64) (yw (by omega) (by omega))))<|Rt 16 a<|re<|tn<|rt<|rr (vI (((S.held.getD 4 0)*256)+(S.held.getD 5 0)))<|⟨rfl,b⟩
def SM.fn (S:SM)(g:Nat) : Value:=match S.nx with
  | 1=>.func (.func 75) #[.pointer (some ⟨g,0,none⟩)] #[]
  | 2=>.func (.func 76) #[.pointer (some ⟨g,0,none⟩)] #[]
  | 3=>.func (.func 77) #[.pointer (some ⟨g,0,none⟩)] #[]
  | _=>.nilFunc
theorem ge{w:World}{g:Nat}{S:SM}{A:Option Addr}{cp:Nat}(hb:lX w g S A cp)(hr:aO true w (.slice A S.held.length cp) S.held) : Calls Tryz.prog 52 #[vP g 0] w (bD (S.fn g) w):=by
 have hcm:=aI.len hr
 have hrg:=SM.size_rng (aO.range hr)
 have hru:=aO.range hr
 refine en 34 Tryz.func52 rfl<|ax 1<|sq<|bk<|ak 3<|aH hb 1<|Pl 3<|nl<|tn<|cb ((decide ((S.held.length:Int)<6))) (fun c=>?_) (fun c=>?_)
 have r:=of_decide_eq_true c
 refine ax 1<|rt<|br<|tr<|rr (.nilFunc)<|?_
 have hs:S.nx=0:=by unfold SM.nx;(repeat' split)<;>first | rfl | omega
 have hf:S.fn g = .nilFunc:=by unfold SM.fn;rw[hs];rfl
 exact⟨by rw[hf],(aD.refl [] _)⟩
 have r:=of_decide_eq_false c
 refine ak 1<|az<|m1 (gy (S:=S) hb hr (by omega)) fun v b=>aj 2<|cb ((decide (254<S.size))) (fun d=>?_) (fun d=>?_)
 have s:=of_decide_eq_true d
 refine ax 3<|rt<|br<|tr<|rr (.func (.func 75) #[vP g 0] #[])<|?_
 have hs:S.nx=1:=by unfold SM.nx;(repeat' split)<;>first | rfl | omega
 have hf:S.fn g = .func (.func 75) #[vP g 0] #[]:=by unfold SM.fn;rw[hs];rfl
 exact⟨by rw[hf],b⟩
 have s:=of_decide_eq_false d
 refine ak 1<|?_
 have j:=ub b hb
 have k:=aO.upd' hr b aC
 refine az<|m1 (gy (S:=S) j k (by omega)) fun x l=>aj 2<|?_
 have m:=aM b l
 refine cb ((decide (S.size<2))) (fun e=>?_) (fun e=>?_)
 have t:=of_decide_eq_true e
 refine ax 3<|rt<|br<|tr<|rr (.func (.func 76) #[vP g 0] #[])<|?_
 have hs:S.nx=2:=by unfold SM.nx;(repeat' split)<;>first | rfl | omega
 have hf:S.fn g = .func (.func 76) #[vP g 0] #[]:=by unfold SM.fn;rw[hs];rfl
 exact⟨by rw[hf],m⟩
 have t:=of_decide_eq_false e
 refine sq<|Rg 10 (fun w'=>w'.cell? ⟨g,1,none⟩=some (.slice A S.held.length cp)) fun y n=>?_
 have o:=aM l n
 have f:=ub o j
 refine bB (ap f rfl) fun a=>Rt 0 a<|Rt 1 a<|Rt 2 a<|Rl 3 a (fun _ hs=>hs)<|Rt 4 a<|Rt 5 a<|?_
 refine R0 6 rfl<|Oc<|m1 (gy (S:=S) f (aO.upd' k o aC) (by omega)) fun z p=>?_
 refine bB (ap (ub p f) rfl) fun h=>Rr 7 h (vI (6+S.size)) (fun _ _=>bF (vI (IntKind.i64.wrap (6+S.size))) (by kernel_rfl) (congrArg (Value.int .i64) (IntWalk.i64_in _ (by omega))))<|Rt 8 h<|Rt 9 h<|re<|tn<|?_
 have q:=aM m (aM n p)
 refine cb (((S.held.length:Int)==(6+S.size))) (fun i=>?_) (fun i=>?_)
 have u:=am i
 refine ax 3<|rt<|br<|tr<|rr (.func (.func 77) #[vP g 0] #[])<|?_
 have hs:S.nx=3:=by unfold SM.nx;(repeat' split)<;>first | rfl | omega
 have hf:S.fn g = .func (.func 77) #[vP g 0] #[]:=by unfold SM.fn;rw[hs];rfl
 exact⟨by rw[hf],q⟩
 have u:=au i
 refine sk<|bn<|tn<|ax 1<|rt<|rr (.nilFunc)<|?_
 have hs:S.nx=0:=by unfold SM.nx;(repeat' split)<;>first | rfl | omega
 have hf:S.fn g = .nilFunc:=by unfold SM.fn;rw[hs];rfl
 exact⟨by rw[hf],q⟩
theorem jt{w:World}{g:Nat}{S:SM}{A:Option Addr}{cp:Nat}(hb:lX w g S A cp)(hr:aO true w (.slice A S.held.length cp) S.held)(h6:6≤S.held.length){e:Int}:Calls Tryz.prog 106 #[vP g 0,vI e] w (AY ⟨S.dir,[],S.size⟩ [Ev.bad e] g w):=by
 have hcm:=aI.len hr
 have hrg:=SM.size_rng (aO.range hr)
 have hru:=aO.range hr
 refine en 16 Tryz.func106 rfl<|ak 1<|aL 2<|az<|m1 (gy (S:=S) hb hr (by omega)) fun l a=>Pl 2<|?_
 refine L0<|bI (ub a hb) 2 #[vI S.dir,.slice A S.held.length cp,vI S.size] fun n f b=>aL 3<|L0<|bI f 1 #[vI S.dir,nS,vI S.size] fun o h c=>aL 2<|L0<|ep (m:=1) (e:=87) #[vI e,vB 0,vW 0,vB 0,vB 0,vW 0,vW 0,vW 0,vW 0,vW 0,vW 0,vW 0,vW 0,vW 0,vW 0,nS,nS,nS,nS,vB 0,vB 0,vB 0,vB 0,vB 0,nS] fun i p j k d=>Pl 1<|nl<|tn<|rt<|rr (.slice (some ⟨i,0,none⟩) 1 1)<|?_
 have hE:=f5 (m:=.hi w.heap.size) (w0:=w) (x:=Ev.bad e) (Nat.le_trans (le (le a.size b.size) c.size) j) k ⟨⟨none,0,none,0,none,0,none,0,none,0⟩,by kernel_rfl,dY,(show(0:Int)≤0∧(0:Int)<256 from by decide),(show(0:Int)≤0∧(0:Int)<65536 from by decide)⟩
 exact⟨_,rfl,hE,(ub d h),(uz a (u1 b (aM c d) im))⟩
theorem qG{w:World}{g:Nat}{S:SM}{A:Option Addr}{cp:Nat}(hb:lX w g S A cp)(hr:aO true w (.slice A S.held.length cp) S.held)(h6:6≤S.held.length) : Calls Tryz.prog 75 #[vP g 0] w (AY ⟨S.dir,[],S.size⟩ [Ev.bad 3] g w):=by
 have hcm:=aI.len hr
 have hrg:=SM.size_rng (aO.range hr)
 have hru:=aO.range hr
 exact en 5 Tryz.func75 rfl<|ak 1<|aL 1<|az<|kF (jt (S:=S) (e:=3) hb hr h6) fun a b h c i j d f=>aj 1<|rt<|rr (.slice a 1 b)<|⟨_,rfl,c,d,f⟩
theorem oI{w:World}{g:Nat}{S:SM}{A:Option Addr}{cp:Nat}(hb:lX w g S A cp)(hr:aO true w (.slice A S.held.length cp) S.held)(h6:6≤S.held.length) : Calls Tryz.prog 76 #[vP g 0] w (AY ⟨S.dir,[],S.size⟩ [Ev.bad 5] g w):=by
 have hcm:=aI.len hr
 have hrg:=SM.size_rng (aO.range hr)
 have hru:=aO.range hr
 exact en 5 Tryz.func76 rfl<|ak 1<|aL 1<|az<|kF (jt (S:=S) (e:=5) hb hr h6) fun a b h c i j d f=>aj 1<|rt<|rr (.slice a 1 b)<|⟨_,rfl,c,d,f⟩
theorem pI{w:World}{g:Nat}{S:SM}{A:Option Addr}{cp:Nat}(hb:lX w g S A cp)(hr:aO true w (.slice A S.held.length cp) S.held)(hl:S.held.length≤1048576) : Calls Tryz.prog 77 #[vP g 0] w (AY ⟨S.dir,[],S.skip⟩ [⟨(cg S.dir S.held).2,(cg S.dir S.held).1⟩] g w):=by
 have hcm:=aI.len hr
 have hrg:=SM.size_rng (aO.range hr)
 have hru:=aO.range hr
 refine en 24 Tryz.func77 rfl<|ax 1<|sq<|Rg 15 (fun w'=>w'.cell? ⟨g,0,none⟩=some (vI S.dir)∧w'.cell? ⟨g,1,none⟩=some (.slice A S.held.length cp)) fun ad a=>?_
 have f:=ub a hb
 refine bB ⟨(ap f rfl),(ap f rfl)⟩ fun b=>Rt 0 b<|Rt 1 b<|Rt 2 b<|Rl 3 b (fun _ hs=>hs.1)<|Rt 4 b<|Rt 5 b<|Rt 6 b<|Rl 7 b (fun _ hs=>hs.2)<|R2 8 12 rfl rfl ?_ ?_
 refine pr (cg S.dir S.held) fun c D E=>?_
 refine  Oc<|e2 (j5 E (aO.upd' hr a aC) (by omega)) fun x56 ae Q h=>?_
 obtain⟨R,T,U⟩:=Q
 have i:=ub h f
 refine bB ⟨(ap i rfl),(ap i rfl)⟩ fun l=>Rt 9 l<|Rt 10 l<|Rt 11 l<|R0 12 rfl<|zl #[vB 0,vW 0,vB 0,vB 0,vW 0,vW 0,vW 0,vW 0,vW 0,vW 0,vW 0,vW 0,vW 0,vW 0,nS,nS,nS,nS,vB 0,vB 0,vB 0,vB 0,vB 0,nS] fun af ai F V n=>?_
 have o:=ub n i
 refine bB ⟨(ap o rfl),(ap o rfl)⟩ fun al=>R0 13 rfl<|iX V (k9 c.unit c.tid c.msg x56) fun am W p=>?_
 have G:=nb (ag hb) (le a.size h.size) F
 have q:=aY p G o
 refine bB ⟨(ap q rfl),(ap q rfl)⟩ fun X=>Rt 14 X<|re<|tn<|ak 3<|L0<|bI q 1 #[vI S.dir,nS,vI S.skip] fun an Y r=>aL 1<|?_
 refine L0<|cO (aY r (Ne.symm G) W)<|Pl 1<|L0<|ep (m:=1) (e:=87) (lV ⟨D,c⟩ x56) fun Z ao a0 a1 H=>aj 1<|rt<|rr (.slice (some ⟨Z,0,none⟩) 1 1)<|?_
 have I:=ud n (us p (aM r H)) F
 have hE:=f5 (m:=.hi w.heap.size) (w0:=w) (x:=⟨D,c⟩) (Nat.le_trans (le (le (le (le a.size h.size) n.size) p.size) r.size) a0) a1 ⟨x56,rfl,(aS.lo (aS.upd R I (ah (aW i (by decide)) aC)) a.size),T,U⟩
 exact⟨_,rfl,by rw[E];exact hE,(ub H Y),(uz a (uz h I))⟩
 refine  zl #[vB 0,vW 0,vB 0,vB 0,vW 0,vW 0,vW 0,vW 0,vW 0,vW 0,vW 0,vW 0,vW 0,vW 0,nS,nS,nS,nS,vB 0,vB 0,vB 0,vB 0,vB 0,nS] fun aq ar J a2 s=>?_
 have t:=ub s f
 refine bB ⟨(ap t rfl),(ap t rfl)⟩ fun au=>?_
 have u:=aM a s
 refine pr (cg S.dir S.held) fun d K L=>?_
 refine R0 8 rfl<|Oc<|e2 (j5 L (aO.upd' hr u aC) (by omega)) fun v av a3 j=>?_
 obtain⟨a4,a5,a6⟩:=a3
 have k:=ub j t
 refine bB ⟨(ap k rfl),(ap k rfl)⟩ fun y=>Rt 9 y<|Rt 10 y<|Rt 11 y<|?_
 have M:=ub j a2
 refine R0 13 rfl<|iX M (k9 d.unit d.tid d.msg v) fun aw a7 z=>?_
 have N:=nb (ag hb) a.size J
 have B:=aY z N k
 refine bB ⟨(ap B rfl),(ap B rfl)⟩ fun a8=>Rt 14 a8<|re<|tn<|ak 3<|L0<|bI B 1 #[vI S.dir,nS,vI S.skip] fun ay a9 C=>aL 1<|?_
 refine L0<|cO (aY C (Ne.symm N) a7)<|Pl 1<|L0<|ep (m:=1) (e:=87) (lV ⟨K,d⟩ v) fun aa az ab ac O=>aj 1<|rt<|rr (.slice (some ⟨aa,0,none⟩) 1 1)<|?_
 have P:=us z (aM C O)
 have hE:=f5 (m:=.hi w.heap.size) (w0:=w) (x:=⟨K,d⟩) (Nat.le_trans (le (le (le (le a.size s.size) j.size) z.size) C.size) ab) ac ⟨v,rfl,(aS.lo (aS.upd a4 P (ah (aW M (by decide)) (ah (aW k (by decide)) aC))) u.size),a5,a6⟩
 exact⟨_,rfl,by rw[L];exact hE,(ub O a9),(ud u (uz j P) (le a.size J))⟩
open Go.RowKit
theorem Dd{C:Prop}(S:SM)(h0:S.nx=0→C)(h1:S.nx=1→C)(h2:S.nx=2→C)(h3:S.nx=3→C) : C:=by
  have h:S.nx=0∨S.nx=1∨S.nx=2∨S.nx=3:=by
    unfold SM.nx
    (repeat' split)<;>simp
  rcases h with h|h|h|h
  · exact h0 h
  · exact h1 h
  · exact h2 h
  · exact h3 h
theorem AS{S:SM}(h:S.nx≠0) : 6≤S.held.length:=by
  unfold SM.nx at h
  split at h
  · exact absurd rfl h
  · omega
theorem p4{w:World}{g:Nat}{S:SM}{A:Option Addr}{cp:Nat}(hb:lX w g S A cp)(hr:aO true w (.slice A S.held.length cp) S.held)(h:S.nx=0) : Calls Tryz.prog 52 #[.pointer (some ⟨g,0,none⟩)] w (bD (.nilFunc) w):=by
  have k:=ge hb hr
  unfold SM.fn at k
  rw[h] at k
  exact k
theorem pD{w:World}{g:Nat}{S:SM}{A:Option Addr}{cp:Nat}(hb:lX w g S A cp)(hr:aO true w (.slice A S.held.length cp) S.held)(h:S.nx=1) : Calls Tryz.prog 52 #[.pointer (some ⟨g,0,none⟩)] w (bD (.func (.func 75) #[.pointer (some ⟨g,0,none⟩)] #[]) w):=by
  have k:=ge hb hr
  unfold SM.fn at k
  rw[h] at k
  exact k
theorem oW{w:World}{g:Nat}{S:SM}{A:Option Addr}{cp:Nat}(hb:lX w g S A cp)(hr:aO true w (.slice A S.held.length cp) S.held)(h:S.nx=2) : Calls Tryz.prog 52 #[.pointer (some ⟨g,0,none⟩)] w (bD (.func (.func 76) #[.pointer (some ⟨g,0,none⟩)] #[]) w):=by
  have k:=ge hb hr
  unfold SM.fn at k
  rw[h] at k
  exact k
theorem oq{w:World}{g:Nat}{S:SM}{A:Option Addr}{cp:Nat}(hb:lX w g S A cp)(hr:aO true w (.slice A S.held.length cp) S.held)(h:S.nx=3) : Calls Tryz.prog 52 #[.pointer (some ⟨g,0,none⟩)] w (bD (.func (.func 77) #[.pointer (some ⟨g,0,none⟩)] #[]) w):=by
  have k:=ge hb hr
  unfold SM.fn at k
  rw[h] at k
  exact k
def SM.ok (S:SM) : Prop:=(0≤S.skip∧S.skip<65536)∧(∀ x,x∈S.held→0≤x∧x<256)∧(S.held.length<6∨2≤S.size∧S.size≤254∧(S.held.length:Int)<6+S.size)
theorem SM.ok_le{S:SM}(h:S.ok) : S.held.length≤259:=by
  obtain⟨_,_,h|h⟩:=h
  · omega
  · omega
theorem SM.size_app{S:SM}{c:Int}(h:6≤S.held.length) : (SM.mk S.dir (S.held++[c]) S.skip).size=S.size:=by
  unfold SM.size
  simp only[List.getD_eq_getElem?_getD]
  rw[List.getElem?_append_left (by omega),List.getElem?_append_left (by omega)]
theorem SM.byte_ok{S S2:SM}{c:Int}{L2:List Ev}(h:S.ok)(hc:0≤c∧c<256)(hx:S.byte c=(S2,L2)) : S2.ok∧L2.length≤1:=by
  obtain⟨h1,h2,h3⟩:=h
  unfold SM.byte at hx
  split at hx
  · injection hx with e1 e2
    subst e1 e2
    exact⟨⟨⟨by show 0≤S.skip-1;omega,by show S.skip-1<65536;omega⟩,h2,h3⟩,Nat.zero_le _⟩
  have hr:∀ x,x∈(SM.mk S.dir (S.held++[c]) S.skip).held→0≤x∧x<256:=fun x hx=>by
    rcases List.mem_append.1 hx with h|h
    · exact h2 x h
    · rw[List.mem_singleton] at h;rw[h];exact hc
  have hz:=SM.size_rng hr
  have hn:∀ d k,(0≤k∧k<65536)→(SM.mk d [] k).ok:=fun d k hk=>⟨hk,fun x hx=>(by cases hx),.inl (show 0<6 by omega)⟩
  unfold SM.does at hx
  have hnx:∀ i,(SM.mk S.dir (S.held++[c]) S.skip).nx=i→i=0∨i=1∨i=2∨i=3:=by
    intro i hi
    subst hi
    unfold SM.nx
    (repeat' split)<;>simp
  rcases hnx _ rfl with e|e|e|e<;>rw[e] at hx<;>injection hx with e1 e2<;>subst e1 e2
  · refine⟨⟨h1,hr,?_⟩,Nat.zero_le _⟩
    unfold SM.nx at e
    by_cases h6:(SM.mk S.dir (S.held++[c]) S.skip).held.length<6
    · exact .inl h6
    rw[if_neg h6] at e
    split at e
    · cases e
    split at e
    · cases e
    split at e
    · cases e
    rename_i k1 k2 k3
    refine .inr ⟨by omega,by omega,?_⟩
    have hl:(SM.mk S.dir (S.held++[c]) S.skip).held.length=S.held.length+1:=by simp
    rcases h3 with h3|⟨h4,h5,h7⟩
    · omega
    · by_cases h8:6≤S.held.length
      · rw[SM.size_app h8] at k1 k2 k3 ⊢
        omega
      · omega
  · exact⟨hn _ _ hz,Nat.le_refl _⟩
  · exact⟨hn _ _ hz,Nat.le_refl _⟩
  · exact⟨hn _ _ h1,Nat.le_refl _⟩
theorem ia{S0 T T2:SM}{L L2:List Ev}{b:List Int}{k:Nat}(hk:k<b.length)(h:(T,L)=S0.feed (b.take k))(hx:T.byte (b.getD k 0)=(T2,L2)) : (T2,L++L2)=S0.feed (b.take (k+1)):=by
  rw[List.take_succ_eq_append_getElem hk]
  unfold SM.feed at h ⊢
  rw[List.foldl_append,← h]
  rw[List.getD_eq_getElem?_getD,List.getElem?_eq_getElem hk] at hx
  simp only[Option.getD_some] at hx
  simp only[List.foldl_cons,List.foldl_nil,hx]
theorem jh{S0 T T2:SM}{L:List Ev}{b:List Int}{k:Nat}(hk:k<b.length)(h:(T,L)=S0.feed (b.take k))(hx:T.byte (b.getD k 0)=(T2,[])) : (T2,L)=S0.feed (b.take (k+1)):=by
  have:=ia hk h hx
  rwa [List.append_nil] at this
theorem mM{T:SM}{c:Int}(h:0<T.skip) : T.byte c=(⟨T.dir,T.held,T.skip-1⟩,[]):=by unfold SM.byte;rw[if_pos h]
theorem q6{T:SM}{c:Int}(h:¬ 0<T.skip)(e:(SM.mk T.dir (T.held++[c]) T.skip).nx=0) : T.byte c=(⟨T.dir,T.held++[c],T.skip⟩,[]):=by unfold SM.byte;rw[if_neg h];unfold SM.does;rw[e];rfl
theorem uM{T:SM}{c:Int}(h:¬ 0<T.skip)(e:(SM.mk T.dir (T.held++[c]) T.skip).nx=1) : T.byte c=(⟨T.dir,[],(SM.mk T.dir (T.held++[c]) T.skip).size⟩,[Ev.bad 3]):=by unfold SM.byte;rw[if_neg h];unfold SM.does;rw[e];rfl
theorem uW{T:SM}{c:Int}(h:¬ 0<T.skip)(e:(SM.mk T.dir (T.held++[c]) T.skip).nx=2) : T.byte c=(⟨T.dir,[],(SM.mk T.dir (T.held++[c]) T.skip).size⟩,[Ev.bad 5]):=by unfold SM.byte;rw[if_neg h];unfold SM.does;rw[e];rfl
theorem vM{T:SM}{c:Int}{F:bq}{E:Int}(h:¬ 0<T.skip)(e:(SM.mk T.dir (T.held++[c]) T.skip).nx=3)(hX:cg T.dir (T.held++[c])=(F,E)) : T.byte c=(⟨T.dir,[],T.skip⟩,[⟨E,F⟩]):=by
  unfold SM.byte
  rw[if_neg h]
  unfold SM.does
  rw[e]
  show(SM.mk T.dir [] T.skip,[Ev.mk (cg T.dir (T.held++[c])).2 (cg T.dir (T.held++[c])).1])=_
  rw[hX]
theorem lP{w:World}{g:Nat}{d k:Int}{h:List Int}{A:Option Addr}{cp:Nat}{F:bq}{E:Int}(hX:cg d h=(F,E))(hb:lX w g ⟨d,h,k⟩ A cp)(hr:aO true w (.slice A h.length cp) h)(hl:h.length≤1048576) : Calls Tryz.prog 77 #[.pointer (some ⟨g,0,none⟩)] w (AY ⟨d,[],k⟩ [⟨E,F⟩] g w):=by
  have q:=pI (S:=⟨d,h,k⟩) hb hr hl
  rw[hX] at q
  exact q
def CX (base n0:Nat)(S2:SM)(L:List Ev)(g:Nat)(A:Option Addr)(w:World)(e:Ending)(w':World) : Prop:=∃ v A2 cp2 n2,e = .returned v∧cZ n2 w.heap.size w' v L∧lX w' g S2 A2 cp2∧du base w' (.slice A2 S2.held.length cp2) S2.held∧(∀ x,x∈ob A2→x∈ob A∨w.heap.size≤x)∧(n0≤n2∧n2≤w'.heap.size)∧(∀ x,x∈ob A2→n2≤x)∧aD (g :: (ob A++[])) w w'
theorem lz{b:List Int}(h:∀ x,x∈b→0≤x∧x<256)(k:Nat) : 0≤b.getD k 0∧b.getD k 0<256:=by
  rw[List.getD_eq_getElem?_getD]
  cases hj:b[k]? with
  | none=>simp
  | some x=>exact h x (List.mem_of_getElem? hj)
theorem oJ{w:World}{g base:Nat}{S:SM}{A:Option Addr}{cp:Nat}{m:Md}{B:Option Addr}{cpb:Nat}{b:List Int}(hb:lX w g S A cp)(ho:du base w (.slice A S.held.length cp) S.held)(hbs:base≤w.heap.size)(hok0:S.ok){n0:Nat}(hn0:n0≤w.heap.size)(hlo:∀ x,x∈ob A→n0≤x)(hsl:aO m w (.slice B b.length cpb) b)(hdg:0<b.length→∀ x,x∈ob B→x≠g)(hda:ms b.length B (ob A))(hbl:b.length≤1048576) :
    Calls Tryz.prog 16 #[vP g 0,.slice B b.length cpb] w (CX base n0 (S.feed b).1 (S.feed b).2 g A w):=by
 have hdl:=aI.low hsl
 have hok0l:=SM.ok_le hok0
 have hrb:=aO.range hsl
 refine en 47 Tryz.func16 rfl<|ak 1<|cy 1<|sq<|ax 3<|bk<|?_
 refine fE (fun x=>[(0,vP g 0),(4,nS),(5,.slice x.2.2.2.2.2.1 x.2.2.1.length x.2.2.2.2.2.2.1),(9,.slice B b.length cpb),(10,vI (b.length:Int)),(11,vI (x.1:Int))]) (fun(x:Nat × SM × List Ev × Option Addr × Nat × Option Addr × Nat × Nat) w'=>aD (g :: (ob A++[])) w w'∧lX w' g x.2.1 x.2.2.2.1 x.2.2.2.2.1∧du base w' (.slice x.2.2.2.1 x.2.1.held.length x.2.2.2.2.1) x.2.1.held∧cZ x.2.2.2.2.2.2.2 w.heap.size w' (.slice x.2.2.2.2.2.1 x.2.2.1.length x.2.2.2.2.2.2.1) x.2.2.1∧x.2.2.2.2.2.2.2≤w'.heap.size∧aO m w' (.slice B b.length cpb) b∧((x.2.1,x.2.2.1)=S.feed (b.take x.1))∧(x.2.1.ok)∧(x.2.1.held.length≤259)∧(x.1≤b.length)∧(x.2.2.1.length≤x.1)∧(∀ y,y∈ob x.2.2.2.1→y∈ob A∨w.heap.size≤y)∧(n0≤x.2.2.2.2.2.2.2)∧(∀ y,y∈ob x.2.2.2.1→x.2.2.2.2.2.2.2≤y)) (fun x=>b.length-x.1) (0,S,[],A,cp,none,0,n0) ⟨aD.refl _ _,hb,ho,(aQ.nil w.heap.size _ _ (bz w.heap.size n0) _),(Nat.le_trans hn0 lr),hsl,rfl,hok0,hok0l,(by(try dsimp only);exact Nat.zero_le _),(by(try dsimp only);exact Nat.zero_le _),iY,(by(try dsimp only);exact Nat.le_refl _),hlo⟩ ?_
 rintro⟨k,T,L,Ah,ch,Bq,cq,n⟩ E ⟨j,aS,aT,aU,aW,aX,aY,b0,b1,b2,b3,b4,b5,b7⟩
 refine eH [(0,vP g 0),(4,nS),(5,.slice Bq L.length cq),(9,.slice B b.length cpb),(10,vI (b.length:Int)),(11,vI (k:Int))] ?_
 have f:lX E g T Ah ch:=aS
 have r:du base E (.slice Ah T.held.length ch) T.held:=aT
 have a:cZ n w.heap.size E (.slice Bq L.length cq) L:=aU
 have b8:n≤E.heap.size:=aW
 have hnl:=b8
 have z:aO m E (.slice B b.length cpb) b:=aX
 have b9:(T,L)=S.feed (b.take k):=aY
 have ba:T.ok:=b0
 have bN:T.held.length≤259:=b1
 have bO:k≤b.length:=b2
 have bP:L.length≤k:=b3
 have bb:∀ y,y∈ob Ah→y∈ob A∨w.heap.size≤y:=b4
 have bc:n0≤n:=b5
 have bd:∀ y,y∈ob Ah→n≤y:=b7
 have hlow:=bd
 have hn0l:=bc
 have hat0:=bb
 have hok:=ba
 have hpj:=b9
 have hle:=SM.ok_le hok
 have hsk:=hok.1
 refine ax 1<|sq<|cb ((decide ((k:Int)<(b.length:Int)))) (fun X=>?_) (fun X=>?_)
 have be:=of_decide_eq_true X
 refine bp<|sq<|bk<|sg<|ea (aO.at_ z k (by omega)) fun bf bg bh bi bQ=>L0<|iV b.length k bh (by omega)<|L0<|dX (p:=⟨bf,bg+k,none⟩) (v:=vB (b.getD k 0)) bi<|aj 1<|sq<|sq<|go<|Pl 3<|aH f 2<|aj 1<|cb ((decide (0<T.skip))) (fun Y=>?_) (fun Y=>?_)
 have C:=of_decide_eq_true Y
 refine ak 3<|aH f 2<|b6 (T.skip-1)<|Pl 2<|L0<|bI f 2 #[vI T.dir,.slice Ah T.held.length ch,vI (T.skip-1)] fun bR bj D=>nt<|xt<|tx<|bx<|tn<|go<|b6 ((k:Int)+1)<|Pl 1<|nl<|?_
 have a2:=mM (T:=T) (c:=(b.getD k 0)) C
 have a3:=SM.byte_ok hok (lz hrb k) a2
 exact dH ((k+1),(SM.mk T.dir T.held (T.skip-1)),L,Ah,ch,Bq,cq,n) ⟨(u1 j D im),bj,(ai r D (fun x hx=>(aa (fun e=>(bU f r (by decide)) (e▸hx)) ay)) (fun _ _ h=>h)),(ai a D (fun x hx=>(aa (fun e=>(aG (ag hb) lr a) (e▸hx)) ay)) (fun x cs q=>bz.upd D (fe f (by decide) bW) q)),(Nat.le_trans hnl D.size),(aO.far z D (ef hdg eR)),(by(try dsimp only);exact jh (by omega) hpj a2),(by(try dsimp only);exact a3.1),(by(try dsimp only);have q:=SM.ok_le a3.1;exact q),(by(try dsimp only);omega),(by(try dsimp only);(try simp only[cD]);omega),(by(try dsimp only);exact hat0),(by(try dsimp only);exact hn0l),(by(try dsimp only);exact hlow)⟩ (by omega)
 have C:=of_decide_eq_false Y
 refine bp<|ak 4<|aH f 1<|Pl 1<|L0<|ep (m:=1) (e:=5) #[vB (b.getD k 0)] fun bS bT bl bm l=>?_
 have bo:=kv bl (xs:=[(b.getD k 0)]) (by as_aux_lemma=>kernel_rfl) (aV (by omega) dc) (by(try simp only[List.length_cons,List.length_nil]);omega) bm
 refine L0<|eb (R:=ma) (xs:=T.held) (ys:=([(b.getD k 0)])) (vB 0) 1 1 (ai r l (fun x hx=>ay) (fun _ _ h=>h)) (bo).rd nO (fun _ _ _ _ h=>h) (by(try simp only[cD,aN]);omega) (Nat.le_trans hbs (le j.size l.size)) fun a4 a5 bV s u a6=>Pl 2<|?_
 have a7:=ut (aD.mono (S':=(ob Ah++[])) l aA) u (aB il aA)
 have F:=aD.blk a7 (aZ (bU f r (by decide)) ay) f
 refine L0<|bI F 1 #[vI T.dir,.slice a4 ((T.held++[(b.getD k 0)]).length) a5,vI T.skip] fun bX t o=>aL 1<|?_
 have G:=u1 (aD.mono (S':=(ob Ah++(g :: []))) a7 (aB il aA)) o im
 have O:=ut j G (aB (kD hat0 il lr) (ac im aA))
 refine Dd (SM.mk T.dir (T.held++[(b.getD k 0)]) T.skip) (fun i=>?_) (fun i=>?_) (fun i=>?_) (fun i=>?_)
 have a8:=ai s o (fun x hx=>(aa (fun e=>(bU F s (by decide)) (e▸hx)) ay)) (fun _ _ h=>h)
 refine az<|m1 (p4 (S:=(SM.mk T.dir (T.held++[(b.getD k 0)]) T.skip)) t (a8).rd i) fun bY P=>Pl 1<|cy 2<|c0<|sk<|bn<|tn<|go<|b6 ((k:Int)+1)<|Pl 1<|nl<|?_
 have Q:=aM G P
 have a9:=q6 (T:=T) (c:=(b.getD k 0)) C i
 have ab:=SM.byte_ok hok (lz hrb k) a9
 exact dH ((k+1),(SM.mk T.dir (T.held++[(b.getD k 0)]) T.skip),L,a4,a5,Bq,cq,n) ⟨(aM O P),(ub P t),(ai a8 P (fun x hx=>ay) (fun _ _ h=>h)),(ai a Q (fun x hx=>(aZ ((cz a r (by decide)) x hx) (aa (fun e=>(aG (ag hb) lr a) (e▸hx)) ay))) (fun x cs q=>bz.upd Q (gX hlow (fe f (by decide) bW)) q)),(Nat.le_trans hnl Q.size),(aO.far z Q (dC (fI hda hdl hat0) (ef hdg eR))),(by(try dsimp only);exact jh (by omega) hpj a9),(by(try dsimp only);exact ab.1),(by(try dsimp only);have q:=SM.ok_le ab.1;exact q),(by(try dsimp only);omega),(by(try dsimp only);(try simp only[cD]);omega),(by(try dsimp only);exact(jT a6 hat0 (le j.size l.size))),(by(try dsimp only);exact hn0l),(by(try dsimp only);exact(rI a6 hlow (Nat.le_trans hnl l.size)))⟩ (by omega)
 have ad:=ai s o (fun x hx=>(aa (fun e=>(bU F s (by decide)) (e▸hx)) ay)) (fun _ _ h=>h)
 refine az<|m1 (pD (S:=(SM.mk T.dir (T.held++[(b.getD k 0)]) T.skip)) t (ad).rd i) fun bZ H=>Pl 1<|cy 2<|c1<|go<|Pl 2<|?_
 refine L0<|i4 #[vP g 0] #[] (args:=#[vP g 0])<|kF (qG (S:=(SM.mk T.dir (T.held++[(b.getD k 0)]) T.skip)) (ub H t) ((ai ad H (fun x hx=>ay) (fun _ _ h=>h))).rd (AS (by rw[i];decide))) fun c2 c3 Z bq c4 c5 br ae=>?_
 have af:=uz H ae
 have I:=u1 G af im
 have ah:=ai a I (fun x hx=>(aZ ((cz a r (by decide)) x hx) (aa (fun e=>(aG (ag hb) lr a) (e▸hx)) ay))) (fun x cs q=>bz.upd I (gX hlow (fe f (by decide) bW)) q)
 have bs:n≤Z.heap.size:=Nat.le_trans hnl I.size
 refine L0<|eb (R:=bz w.heap.size Z.heap.size) (xs:=L) (ys:=([Ev.bad 3])) (.agg #[vI 0,vB 0,vW 0,vB 0,vB 0,vW 0,vW 0,vW 0,vW 0,vW 0,vW 0,vW 0,vW 0,vW 0,vW 0,nS,nS,nS,nS,vB 0,vB 0,vB 0,vB 0,vB 0,nS]) 25 168 (cZ.up bs (Nat.le_refl _) ah) (pV (aQ.map bq fun _ _ q=>q.lo (le (le (le (le j.size l.size) u.size) o.size) H.size))).rd bz.ones (fun w' hv x cs q=>bz.upd hv (iW ah (by decide) bW) q) (by(try simp only[cD,aN]);omega) (le (le (le (le (le j.size l.size) u.size) o.size) H.size) ae.size) fun bt bu c6 bv U c7=>Pl 1<|nl<|bn<|tn<|go<|b6 ((k:Int)+1)<|Pl 1<|nl<|?_
 have al:=uM (T:=T) (c:=(b.getD k 0)) C i
 have am:=SM.byte_ok hok (lz hrb k) al
 exact dH ((k+1),(SM.mk T.dir [] (SM.mk T.dir (T.held++[(b.getD k 0)]) T.skip).size),(L++[Ev.bad 3]),none,0,bt,bu,Z.heap.size) ⟨(ut O (ut (aD.mono (S':=(g :: (ob Bq++[]))) af (ac im aA)) U (aB il aA)) (ac im (aB (bE a lr) aA))),(aD.blk U (aZ (aG (ag hb) lr a) ay) br),(aQ.nil base _ _ ma _),bv,U.size,(aO.far z (ut (aD.mono (S':=(ob Ah++(g :: (ob Bq++[])))) I (aB il (ac im aA))) U (aB il aA)) (dC (fI hda hdl hat0) (ef hdg (dC (fG hdl a (Nat.le_refl _)) eR)))),(by(try dsimp only);exact ia (by omega) hpj al),(by(try dsimp only);exact am.1),(by(try dsimp only);have q:=SM.ok_le am.1;exact q),(by(try dsimp only);omega),(by(try dsimp only);(try simp only[cD]);omega),(by(try dsimp only);exact eq),(by(try dsimp only);exact Nat.le_trans hn0l (Nat.le_trans hnl I.size)),(by(try dsimp only);exact cS)⟩ (by omega)
 have an:=ai s o (fun x hx=>(aa (fun e=>(bU F s (by decide)) (e▸hx)) ay)) (fun _ _ h=>h)
 refine az<|m1 (oW (S:=(SM.mk T.dir (T.held++[(b.getD k 0)]) T.skip)) t (an).rd i) fun c8 J=>Pl 1<|cy 2<|c1<|go<|Pl 2<|?_
 refine L0<|i4 #[vP g 0] #[] (args:=#[vP g 0])<|kF (oI (S:=(SM.mk T.dir (T.held++[(b.getD k 0)]) T.skip)) (ub J t) ((ai an J (fun x hx=>ay) (fun _ _ h=>h))).rd (AS (by rw[i];decide))) fun c9 ca a0 bw cc cd bA ao=>?_
 have ap:=uz J ao
 have K:=u1 G ap im
 have aq:=ai a K (fun x hx=>(aZ ((cz a r (by decide)) x hx) (aa (fun e=>(aG (ag hb) lr a) (e▸hx)) ay))) (fun x cs q=>bz.upd K (gX hlow (fe f (by decide) bW)) q)
 have bB:n≤a0.heap.size:=Nat.le_trans hnl K.size
 refine L0<|eb (R:=bz w.heap.size a0.heap.size) (xs:=L) (ys:=([Ev.bad 5])) (.agg #[vI 0,vB 0,vW 0,vB 0,vB 0,vW 0,vW 0,vW 0,vW 0,vW 0,vW 0,vW 0,vW 0,vW 0,vW 0,nS,nS,nS,nS,vB 0,vB 0,vB 0,vB 0,vB 0,nS]) 25 168 (cZ.up bB (Nat.le_refl _) aq) (pV (aQ.map bw fun _ _ q=>q.lo (le (le (le (le j.size l.size) u.size) o.size) J.size))).rd bz.ones (fun w' hv x cs q=>bz.upd hv (iW aq (by decide) bW) q) (by(try simp only[cD,aN]);omega) (le (le (le (le (le j.size l.size) u.size) o.size) J.size) ao.size) fun bC bD ce bF V cf=>Pl 1<|nl<|bn<|tn<|go<|b6 ((k:Int)+1)<|Pl 1<|nl<|?_
 have ar:=uW (T:=T) (c:=(b.getD k 0)) C i
 have au:=SM.byte_ok hok (lz hrb k) ar
 exact dH ((k+1),(SM.mk T.dir [] (SM.mk T.dir (T.held++[(b.getD k 0)]) T.skip).size),(L++[Ev.bad 5]),none,0,bC,bD,a0.heap.size) ⟨(ut O (ut (aD.mono (S':=(g :: (ob Bq++[]))) ap (ac im aA)) V (aB il aA)) (ac im (aB (bE a lr) aA))),(aD.blk V (aZ (aG (ag hb) lr a) ay) bA),(aQ.nil base _ _ ma _),bF,V.size,(aO.far z (ut (aD.mono (S':=(ob Ah++(g :: (ob Bq++[])))) K (aB il (ac im aA))) V (aB il aA)) (dC (fI hda hdl hat0) (ef hdg (dC (fG hdl a (Nat.le_refl _)) eR)))),(by(try dsimp only);exact ia (by omega) hpj ar),(by(try dsimp only);exact au.1),(by(try dsimp only);have q:=SM.ok_le au.1;exact q),(by(try dsimp only);omega),(by(try dsimp only);(try simp only[cD]);omega),(by(try dsimp only);exact eq),(by(try dsimp only);exact Nat.le_trans hn0l (Nat.le_trans hnl K.size)),(by(try dsimp only);exact cS)⟩ (by omega)
 have av:=ai s o (fun x hx=>(aa (fun e=>(bU F s (by decide)) (e▸hx)) ay)) (fun _ _ h=>h)
 refine az<|m1 (oq (S:=(SM.mk T.dir (T.held++[(b.getD k 0)]) T.skip)) t (av).rd i) fun ci M=>Pl 1<|cy 2<|c1<|go<|Pl 2<|pr (cg T.dir (T.held++[(b.getD k 0)])) fun aw aC aE=>?_
 refine L0<|i4 #[vP g 0] #[] (args:=#[vP g 0])<|kF (lP (d:=T.dir) (h:=T.held++[(b.getD k 0)]) (k:=T.skip) aE (ub M t) ((ai av M (fun x hx=>ay) (fun _ _ h=>h))).rd (by simp only[cD];omega)) fun cj ck a1 bG cl cm bH aF=>?_
 have aJ:=uz M aF
 have N:=u1 G aJ im
 have aK:=ai a N (fun x hx=>(aZ ((cz a r (by decide)) x hx) (aa (fun e=>(aG (ag hb) lr a) (e▸hx)) ay))) (fun x cs q=>bz.upd N (gX hlow (fe f (by decide) bW)) q)
 have bJ:n≤a1.heap.size:=Nat.le_trans hnl N.size
 refine L0<|eb (R:=bz w.heap.size a1.heap.size) (xs:=L) (ys:=([Ev.mk aC aw])) (.agg #[vI 0,vB 0,vW 0,vB 0,vB 0,vW 0,vW 0,vW 0,vW 0,vW 0,vW 0,vW 0,vW 0,vW 0,vW 0,nS,nS,nS,nS,vB 0,vB 0,vB 0,vB 0,vB 0,nS]) 25 168 (cZ.up bJ (Nat.le_refl _) aK) (pV (aQ.map bG fun _ _ q=>q.lo (le (le (le (le j.size l.size) u.size) o.size) M.size))).rd bz.ones (fun w' hv x cs q=>bz.upd hv (iW aK (by decide) bW) q) (by(try simp only[cD,aN]);omega) (le (le (le (le (le j.size l.size) u.size) o.size) M.size) aF.size) fun bK bL cn bM W co=>Pl 1<|nl<|bn<|tn<|go<|b6 ((k:Int)+1)<|Pl 1<|nl<|?_
 have aP:=vM (T:=T) (c:=(b.getD k 0)) C i aE
 have aR:=SM.byte_ok hok (lz hrb k) aP
 exact dH ((k+1),(SM.mk T.dir [] T.skip),(L++[Ev.mk aC aw]),none,0,bK,bL,a1.heap.size) ⟨(ut O (ut (aD.mono (S':=(g :: (ob Bq++[]))) aJ (ac im aA)) W (aB il aA)) (ac im (aB (bE a lr) aA))),(aD.blk W (aZ (aG (ag hb) lr a) ay) bH),(aQ.nil base _ _ ma _),bM,W.size,(aO.far z (ut (aD.mono (S':=(ob Ah++(g :: (ob Bq++[])))) N (aB il (ac im aA))) W (aB il aA)) (dC (fI hda hdl hat0) (ef hdg (dC (fG hdl a (Nat.le_refl _)) eR)))),(by(try dsimp only);exact ia (by omega) hpj aP),(by(try dsimp only);exact aR.1),(by(try dsimp only);have q:=SM.ok_le aR.1;exact q),(by(try dsimp only);omega),(by(try dsimp only);(try simp only[cD]);omega),(by(try dsimp only);exact eq),(by(try dsimp only);exact Nat.le_trans hn0l (Nat.le_trans hnl N.size)),(by(try dsimp only);exact cS)⟩ (by omega)
 have be:=of_decide_eq_false X
 refine xt<|tx<|tx<|bx<|tn<|ax 2<|rt<|rr (.slice Bq L.length cq)<|?_
 have hs:S.feed b=(T,L):=by rw[hpj,List.take_of_length_le (by omega)]
 rw[hs]
 exact⟨_,Ah,ch,n,rfl,a,f,r,hat0,⟨hn0l,Nat.le_trans hnl lr⟩,hlow,j⟩
open Go.RowKit
def db (n base:Nat)(w:World)(g:Nat)(A:Option Addr)(cp:Nat)(S:SM) : Prop:=lX w g S A cp∧du base w (.slice A S.held.length cp) S.held∧S.ok∧n≤w.heap.size∧(∀ x,x∈ob A→n≤x)∧base≤w.heap.size
section
variable {n base g cp:Nat}{w w':World}{A:Option Addr}{S:SM}{X:List Nat}
theorem db.row(h:db n base w g A cp S) : du base w (.slice A S.held.length cp) S.held:=h.2.1
theorem db.low(h:db n base w g A cp S) : ∀ x,x∈ob A→n≤x:=h.2.2.2.2.1
theorem db.nle(h:db n base w g A cp S) : n≤w.heap.size:=h.2.2.2.1
theorem db.le(h:db n base w g A cp S) : S.held.length≤259:=SM.ok_le h.2.2.1
theorem db.lt(h:db n base w g A cp S) : g<w.heap.size:=ag h.1
theorem db.cells(h:db n base w g A cp S) : ∃ cs fr,w.heap[g]? = some (.cells cs 89 fr):=⟨_,_,h.1⟩
theorem db.upd(h:db n base w g A cp S)(hu:aD X w w')(hg:g∉X)(hr:∀ x,x∈ob A→x∉X) : db n base w' g A cp S :=
  ⟨hu.blk hg h.1,ai h.2.1 hu hr (fun _ _ q=>q),h.2.2.1,Nat.le_trans h.2.2.2.1 hu.size,h.2.2.2.2.1,Nat.le_trans h.2.2.2.2.2 hu.size⟩
end
theorem SM.feed_ok:∀ (b:List Int)(S:SM)(L:List Ev),S.ok→(∀ x,x∈b→0≤x∧x<256)→(b.foldl (fun(p:SM × List Ev) c=>((p.1.byte c).1,p.2++(p.1.byte c).2)) (S,L)).1.ok∧(b.foldl (fun(p:SM × List Ev) c=>((p.1.byte c).1,p.2++(p.1.byte c).2)) (S,L)).2.length≤L.length+b.length
  | [],S,L,h,_=>⟨h,Nat.le_refl _⟩
  | c :: t,S,L,h,hb=>by
    have k:=SM.byte_ok (S2:=(S.byte c).1) (L2:=(S.byte c).2) h (hb c (List.mem_cons_self ..)) rfl
    have q:=SM.feed_ok t (S.byte c).1 (L++(S.byte c).2) k.1 (fun x hx=>hb x (List.mem_cons_of_mem _ hx))
    refine⟨q.1,Nat.le_trans q.2 ?_⟩
    rw[List.length_append,List.length_cons]
    omega
theorem SM.feed_le{S S2:SM}{b:List Int}{L:List Ev}(h:S.ok)(hb:∀ x,x∈b→0≤x∧x<256)(hX:S.feed b=(S2,L)) : L.length≤b.length:=by
  have q:=(SM.feed_ok b S [] h hb).2
  have e:L=(S.feed b).2:=(congrArg Prod.snd hX).symm
  rw[e]
  rw[List.length_nil,Nat.zero_add] at q
  exact q
def D3 (n base:Nat)(S2:SM)(L:List Ev)(g:Nat)(A:Option Addr)(w:World)(e:Ending)(w':World) : Prop:=∃ v A2 cp2 n2,e = .returned v∧cZ n2 w.heap.size w' v L∧db n2 base w' g A2 cp2 S2∧(∀ x,x∈ob A2→x∈ob A∨w.heap.size≤x)∧n≤n2∧aD (g :: (ob A++[])) w w'
theorem rf{w:World}{n base g cp cpb nb:Nat}{S S2:SM}{L:List Ev}{A B:Option Addr}{m:Md}{b:List Int}(hX:S.feed b=(S2,L))(h:db n base w g A cp S)(hsl:aO m w (.slice B nb cpb) b)(hdg:0<nb→∀ x,x∈ob B→x≠g)(hda:ms nb B (ob A))(hbl:b.length≤1048576) :
    Calls Tryz.prog 16 #[.pointer (some ⟨g,0,none⟩),.slice B nb cpb] w (D3 n base S2 L g A w):=by
  obtain⟨h1,h2,h3,h4,h5,h6⟩:=h
  obtain rfl:nb=b.length:=by
    obtain⟨_,_,e,_⟩:=hsl.shape
    injection e
  refine(oJ h1 h2 h6 h3 h4 h5 hsl hdg hda hbl).mono ?_
  rintro e w' ⟨v,A2,cp2,n2,he,k1,k2,k3,k4,⟨k5,k6⟩,k7,k8⟩
  have hok:=(SM.feed_ok b S [] h3 (aO.range hsl)).1
  rw[hX] at k1 k2 k3
  have e2:S2=(S.feed b).1:=(congrArg Prod.fst hX).symm
  exact⟨v,A2,cp2,n2,he,k1,⟨k2,k3,by rw[e2];exact hok,k6,k7,Nat.le_trans h6 k8.size⟩,k4,k5,k8⟩
theorem rR(d:Int){w:World}(hq:Calls Tryz.prog 15 #[.int .i64 d] w (fun e w'=>∃ g,e = .returned (.pointer (some ⟨g,0,none⟩))∧w.heap.size≤g∧lX w' g ⟨d,[],0⟩ none 0∧aD [] w w')) :
    Calls Tryz.prog 15 #[.int .i64 d] w (fun e w'=>∃ g,e = .returned (.pointer (some ⟨g,0,none⟩))∧w.heap.size≤g∧db w.heap.size w.heap.size w' g none 0 ⟨d,[],0⟩∧aD [] w w'):=by
  refine hq.mono ?_
  rintro e w' ⟨g,he,h1,h2,h3⟩
  exact⟨g,he,h1,⟨h2,aQ.nil ..,⟨⟨(show(0:Int)≤0 from by decide),(show(0:Int)<65536 from by decide)⟩,(fun x hx=>by cases hx),.inl (show 0<6 from by decide)⟩,h3.size,cS,h3.size⟩,h3⟩
theorem w7{w:World}{n base g cp:Nat}{S:SM}{A:Option Addr}(h:db n base w g A cp S) : Calls Tryz.prog 19 #[.pointer (some ⟨g,0,none⟩)] w (bD (.int .i64 ((S.held.length:Nat) : Int)) w):=qZ h.1 h.2.1.rd
open Go.RowKit
section
variable {P:Program}{Q:Exit→Act→World→Prop}{n:Nat}{D:List Deferred}{F:Fr}{w:World}{c:Code}{l:Nat}
theorem Dh(h:GC P c (Exit.noGoto Q) n D F w) : GC P (.scope c) Q n D F w:=⟨fun a ha=>wp_scope_straight (h.out a ha)⟩
theorem Dm(h:GQ Q .normal n D F w) : GC P (.label l) Q n D F w:=⟨fun a ha=>wp_label (h.out a ha)⟩
theorem gr(h:GQ Q .ret n D F w) : GQ (Exit.noGoto Q) .ret n D F w:=⟨fun a ha=>h.out a ha⟩
end
open Go.RowKit
abbrev eZ (xs:List Int) : Prop:=∀ x,x∈xs→0≤x∧x<256
theorem ym{x:Int}(h:0≤x∧x<256) : ((UInt8.ofNat x.toNat).toNat:Int)=x:=by
  simp only[UInt8.toNat_ofNat']
  omega
theorem iE{xs:List Int}{j:Nat}(hj:j<xs.length)(hs:j<(strOfNums xs).size) : (strOfNums xs)[j]=UInt8.ofNat (xs.getD j 0).toNat:=by
  show(strOfNums xs).data[j]=_
  simp[strOfNums,List.getD_eq_getElem?_getD,List.getElem?_eq_getElem hj]
theorem j0{P:Program}{w:World}{ev:Operand→Value}{o:Oper}{x ix:Operand}{t:TypeId}{xs:List Int}{k:IntKind}{i:Int}(j:Nat)(ho:o.op = .index t x ix)(ht:P.underlying t=some .string)(hx:ev x = .string (strOfNums xs))(hi:ev ix = .int k i)(hr:eZ xs)(hj:i=(j:Int))(hlt:j<xs.length) : (execOp ev o).run P w = .ok (.value (.int .u8 (xs.getD j 0))) w:=by
  subst hj
  have hs:j<(strOfNums xs).size:=by rw[strOfNums_size];exact hlt
  have h:=run_index_string (P:=P) w t (strOfNums xs) k (j:Int) ht
  rw[dif_pos (by omega)] at h
  have hg:xs.getD j 0∈xs:=by
    rw[List.getD_eq_getElem?_getD,List.getElem?_eq_getElem hlt]
    exact List.getElem_mem hlt
  unfold execOp
  simp only[ho,hx,hi,Sem.run_bind,h,Result.andThen,Sem.run_pure]
  have e:((strOfNums xs)[((j:Nat) : Int).toNat]'(by simpa using hs))=UInt8.ofNat (xs.getD j 0).toNat:=by
    simp only[Int.toNat_natCast]
    exact iE hlt hs
  rw[e,ym (hr _ hg)]
theorem fM(xs:List Int)(a b:Nat)(hb:b≤xs.length) : (strOfNums xs).extract a b=strOfNums ((xs.take b).drop a):=by
  apply ByteArray.ext
  rw[ByteArray.data_extract]
  apply Array.toList_inj.1
  rw[Array.toList_extract]
  simp[strOfNums,List.extract,List.map_drop,List.map_take,List.drop_take]
theorem n7{P:Program}{w:World}{ev:Operand→Value}{o:Oper}{x y:Operand}{t:TypeId}{xs:List Int}{k:IntKind}{i:Int}(j:Nat)(ho:o.op = .slice t x (some y) none none)(ht:P.underlying t=some .string)(hx:ev x = .string (strOfNums xs))(hy:ev y = .int k i)(hj:i=(j:Int))(hlt:j≤xs.length) : (execOp ev o).run P w = .ok (.value (.string (strOfNums (xs.drop j)))) w:=by
  subst hj
  have hu:(underlying t).run P w = .ok .string w:=run_underlying ht w
  have h:=run_slice_string_l (P:=P) w t (strOfNums xs) ht k (j:Int) (by omega) (by rw[strOfNums_size];omega)
  rw[strOfNums_size,fM _ _ _ (Nat.le_refl _),List.take_length,Int.toNat_natCast] at h
  unfold execOp
  simp only[ho,Option.map_some,Option.map_none,hx,hy,Instr.sliceAt,Sem.run_bind,hu,h,Result.andThen,Sem.run_pure]
theorem tZ{P:Program}{w:World}{ev:Operand→Value}{o:Oper}{x y:Operand}{t:TypeId}{xs:List Int}{k:IntKind}{i:Int}(j:Nat)(ho:o.op = .slice t x none (some y) none)(ht:P.underlying t=some .string)(hx:ev x = .string (strOfNums xs))(hy:ev y = .int k i)(hj:i=(j:Int))(hlt:j≤xs.length) : (execOp ev o).run P w = .ok (.value (.string (strOfNums (xs.take j)))) w:=by
  subst hj
  have hu:(underlying t).run P w = .ok .string w:=run_underlying ht w
  have h:=run_slice_string_h (P:=P) w t (strOfNums xs) ht k (j:Int) (by omega) (by rw[strOfNums_size];omega)
  rw[Int.toNat_natCast,fM _ _ _ hlt,List.drop_zero] at h
  unfold execOp
  simp only[ho,Option.map_some,Option.map_none,hx,hy,Instr.sliceAt,Sem.run_bind,hu,h,Result.andThen,Sem.run_pure]
theorem jx{xs:List Int}(h:eZ xs)(j:Nat) : eZ (xs.drop j):=fun x hx=>h x (List.mem_of_mem_drop hx)
theorem mw{xs:List Int}(h:eZ xs)(j:Nat) : eZ (xs.take j):=fun x hx=>h x (List.mem_of_mem_take hx)
theorem yQ{xs ys:List Int}(hx:eZ xs)(hy:eZ ys) : ((strOfNums xs).toList==(strOfNums ys).toList)=decide (xs=ys):=by
  have e:∀ zs:List Int,(strOfNums zs).toList=zs.map fun n=>UInt8.ofNat n.toNat:=fun zs=>by
    rw[ByteArray.toList_eq]
    rfl
  rw[e,e]
  by_cases h:xs=ys
  · subst h;simp
  · rw[decide_eq_false h,beq_eq_false_iff_ne]
    exact fun k=>h (jC xs ys hx hy k)
def m7 (base:Nat)(w:World)(v:Value)(xs:List Int) : Prop:=∃ g cap cur n,v = .slice (some ⟨g,0,none⟩) xs.length cap∧base≤g∧w.heap[g]? = some (.cells cur 5 (n,n+1))∧xs.length≤n∧xs.length≤cap∧cap≤maxLen∧cur.toList.take xs.length=xs.map (Value.int .u8)∧eZ xs
theorem m7.rd{base:Nat}{w:World}{v:Value}{xs:List Int}(h:m7 base w v xs) : aO true w v xs:=by
  obtain⟨g,cap,cur,n,rfl,hb,hh,h1,h2,h3,h4,h5⟩:=h
  refine⟨_,_,rfl,h2,h3,(fun hA=>by cases hA),fun hp=>⟨g,0,cur,_,_,rfl,hh,(fun _=>⟨rfl,Nat.zero_le _⟩),fun j x hj=>?_⟩⟩
  refine⟨[.int .u8 x],rfl,⟨rfl,h5 x (List.mem_of_getElem? hj)⟩,fun i u hi=>?_⟩
  cases i with
  | succ i=>simp at hi
  | zero =>
    have hi:Value.int .u8 x=u:=by simpa using hi
    subst hi
    have h6:(xs.map (Value.int .u8))[j]? = some (.int .u8 x):=by rw[List.getElem?_map,hj];rfl
    rw[← h4,List.getElem?_take] at h6
    split at h6
    · simpa using h6
    · cases h6
theorem m7.shape{base:Nat}{w:World}{v:Value}{xs:List Int}(h:m7 base w v xs) : ∃ g cp,v = .slice (some ⟨g,0,none⟩) xs.length cp:=by
  obtain⟨g,cap,cur,n,hv,_⟩:=h
  exact⟨g,cap,hv⟩
section
variable {P:Program}{n:Nat}{D:List Deferred}{F:Fr}{w:World}{K:Fr→World→Prop}{Q:Exit→Act→World→Prop}{d:Option Tmp}{t:TypeId}{s:String}{af:Array Edge}{gu:Option (Nat × Bool)}
theorem rL{a:Act}{o:Oper}{N:Option Tmp}{K:Act→World→Prop}{w1:World}(v:Value)(hN:o.dst=N)(hr:(execOp a.eval o).run P w = .ok (.value v) w1)(h:K (a.put N v) w1) : OW P o a w K Q:=by
  refine OW.mk ?_
  subst hN
  unfold Oper.wp
  rw[hr]
  exact h
theorem Ch{ty:TypeId}{x:Operand}{sv:ByteArray}(hs:P.underlying ty=some .string)(h:∀ g w',w.heap.size≤g→w'.heap[g]? = some (.stringIter sv 0)→aD [] w w'→K (pt d (.pointer (some ⟨g,0,none⟩)) F) w')
    (hx:ee F x=some (.string sv):=by kernel_rfl) (hk:f8 n d=true:=by kernel_rfl) : OG P ⟨d,.range ty x,t,s,af,gu⟩ n D F w K Q:=by
  refine⟨fun a ha K' hK=>rL (.pointer (some ⟨w.heap.size,0,none⟩)) rfl (w1:=w.alloc (.stringIter sv 0)) ?_ (hK _ _ _ (h _ _ (Nat.le_refl _) (eg _ _) ((aD.refl _ _).alloc _)) (ha.put hk))⟩
  have hx':=ha.ev hx
  unfold execOp
  simp only[hx',Sem.run_bind,run_range_string w ty sv hs,Result.andThen,Sem.run_pure]
  rfl
theorem u4{xs:List Int}(hr:eZ xs)(h0:0<xs.length) : ((((Utf8.decode (strOfNums xs) 0).1:Nat) : Int)=58↔xs.getD 0 0=58):=by
  have hs:0<(strOfNums xs).size:=by rw[strOfNums_size];exact h0
  have hm:xs.getD 0 0∈xs:=by
    rw[List.getD_eq_getElem?_getD,List.getElem?_eq_getElem h0]
    exact List.getElem_mem h0
  have hb:=hr _ hm
  have h1:((strOfNums xs).get! 0).toNat=(xs.getD 0 0).toNat:=by
    have e:(strOfNums xs).get! 0=(strOfNums xs)[0]:=by
      show(strOfNums xs).data[0]! = _
      rw[getElem!_pos (strOfNums xs).data 0 hs]
      rfl
    rw[e,iE h0 hs]
    simp only[UInt8.toNat_ofNat']
    omega
  unfold Utf8.decode
  simp only[Nat.zero_add,h1,Utf8.runeError]
  split
  · omega
  · split
    · split
      · rename_i h2 h3 h4;simp only;omega
      · simp only;omega
    · split
      · split
        · rename_i h2 h3 h4 h5;simp only[Bool.and_eq_true,decide_eq_true_eq] at h5;simp only;omega
        · simp only;omega
      · split
        · split
          · rename_i h2 h3 h4 h5 h6;simp only[Bool.and_eq_true,decide_eq_true_eq] at h6;simp only;omega
          · simp only;omega
        · simp only;omega
theorem Dj{x:Operand}{xs:List Int}{r:Nat}(hr:eZ xs)(h0:0<xs.length)(B:w.heap[r]? = some (.stringIter (strOfNums xs) 0))(h:∀ c w',(c=58↔xs.getD 0 0=58)→aD [r] w w'→K (pt d (.tuple #[.bool true,.int .i64 0,.int .i32 c]) F) w')
    (hx:ee F x=some (.pointer (some ⟨r,0,none⟩)):=by kernel_rfl) (hk:f8 n d=true:=by kernel_rfl) : OG P ⟨d,.next x true,t,s,af,gu⟩ n D F w K Q:=by
  have hlt:=ag B
  have hrun:=Lib.run_next_any_at (P:=P) w r (strOfNums xs) 0 t B (by rw[strOfNums_size];exact h0)
  refine⟨fun a ha K' hK=>rL _ rfl (w1:=w.iterAt r (strOfNums xs) (0+(Utf8.decode (strOfNums xs) 0).2)) ?_ (hK _ _ _ (h (((Utf8.decode (strOfNums xs) 0).1:Nat) : Int) _ (u4 hr h0) ?_) (ha.put hk))⟩
  · have hx':=ha.ev hx
    unfold execOp
    simp only[hx',Sem.run_bind,hrun,Result.andThen,Sem.run_pure]
    rfl
  · refine⟨rfl,rfl,rfl,?_,fun k hk hn=>?_⟩
    · simp[World.iterAt]
    · have:r≠k:=fun e=>hn (by simp[e])
      simp[World.iterAt,Array.getElem?_setIfInBounds,this]
end
open Go.RowKit
def g9 (xs ys:List Int) : Bool:=decide (((ys.length:Nat) : Int)≤((xs.length:Nat) : Int))&&decide (xs.drop (((xs.length:Nat) : Int)-((ys.length:Nat) : Int)).toNat=ys)
theorem xT{m m2:Md}{A B:Option Addr}{n n2 c c2:Nat}{xs ys:List Int}{w:World}(h1:aO m w (.slice A n c) xs)(h2:aO m2 w (.slice B n2 c2) ys) : Calls Tryz.prog 79 #[.slice A n c,.slice B n2 c2] w (bD (.bool (decide (xs=ys))) w):=by
 refine en 10 Tryz.func79 rfl<|sg<|Pl 1<|ng<|Pl 1<|L0<|f9 (.string (strOfNums xs)) (cm (A:=A) (n:=n) (c:=c) rfl (by kernel_rfl) Tryz.underlying27 Tryz.underlying5 Tryz.underlying9 h1)<|Pl 1<|L0<|f9 (.string (strOfNums ys)) (cm (A:=B) (n:=n2) (c:=c2) rfl (by kernel_rfl) Tryz.underlying27 Tryz.underlying5 Tryz.underlying9 h2)<|L0<|f9 (.bool (decide (xs=ys))) (fz (a:=(strOfNums xs)) (b:=(strOfNums ys)) rfl (by kernel_rfl) (by kernel_rfl) (iR h1 h2))<|Pl 1<|nl<|?_
 refine tn<|rt<|rr (.bool (decide (xs=ys)))<|?_
 exact⟨rfl,(aD.refl [] _)⟩
theorem uA{m m2:Md}{A B:Option Addr}{c c2:Nat}{xs ys:List Int}{w:World}(h1:aO m w (.slice A xs.length c) xs)(h2:aO m2 w (.slice B ys.length c2) ys) : Calls Tryz.prog 55 #[.slice A xs.length c,.slice B ys.length c2] w (bD (.bool (g9 xs ys)) w):=by
 have hz1:=aI.len h1
 have hz2:=aI.len h2
 have hz3:=aI.cap h1
 refine en 21 Tryz.func55 rfl<|sg<|Pl 1<|ng<|Pl 6<|bl 10 ((decide (((ys.length:Nat) : Int)≤((xs.length:Nat) : Int)))) (fun a=>?_) (fun a=>?_)
 have b:=of_decide_eq_true a
 refine Pl 5<|L1<|Oi (((xs.length:Nat) : Int)-((ys.length:Nat) : Int))<|iy (fY (P:=Tryz.prog) 27 5 1 Tryz.underlying27 rfl rfl A xs.length c (lo:=(((xs.length:Nat) : Int)-((ys.length:Nat) : Int))) (((((xs.length:Nat) : Int)-((ys.length:Nat) : Int))).toNat) (by omega) (by omega)) fun d hrun12 e=>L1<|f9 (.slice d (xs.length-(((((xs.length:Nat) : Int)-((ys.length:Nat) : Int))).toNat)) (c-(((((xs.length:Nat) : Int)-((ys.length:Nat) : Int))).toNat))) (cH (kl:=.i64) (k:=(((xs.length:Nat) : Int)-((ys.length:Nat) : Int))) (A:=A) (n:=xs.length) (c:=c) rfl Tryz.underlying27 (by kernel_rfl) (by kernel_rfl) (hrun12 _ _))<|Pl 1<|L1<|Oc<|m1 (xT (xs:=(xs.drop (((((xs.length:Nat) : Int)-((ys.length:Nat) : Int))).toNat))) (ys:=ys) (e _ _ _ _ _ h1) h2) fun g f=>Pl 2<|nt<|rt<|rr (.bool (decide ((xs.drop (((((xs.length:Nat) : Int)-((ys.length:Nat) : Int))).toNat))=ys)))<|?_
 have hs:(decide ((xs.drop (((((xs.length:Nat) : Int)-((ys.length:Nat) : Int))).toNat))=ys))=g9 xs ys:=by unfold g9;simp only[a,bj,Bool.true_and,Bool.false_and,Bool.and_true,Bool.and_false]
 rw[hs]
 exact⟨rfl,f⟩
 have b:=of_decide_eq_false a
 refine Pl 11<|nt<|rt<|rr (.bool false)<|?_
 have hs:false=g9 xs ys:=by unfold g9;simp only[a,bj,Bool.true_and,Bool.false_and,Bool.and_true,Bool.and_false]
 rw[hs]
 exact⟨rfl,(aD.refl [] _)⟩
theorem y2{m m2:Md}{u v:Value}{xs ys:List Int}{w:World}(h1:aO m w u xs)(h2:aO m2 w v ys) : Calls Tryz.prog 55 #[u,v] w (bD (.bool (g9 xs ys)) w):=by
  obtain⟨A,c,rfl,_,_⟩:=h1.shape
  obtain⟨B,c2,rfl,_,_⟩:=h2.shape
  exact uA h1 h2
end Go.Proofs.YtdkhbcefkfgbdaaGreat
namespace Go.Proofs.YtdkhbcefkfgbdaaGreat
def gw (b:List Int) : Nat→Int
  | 0=>0
  | k+1=>(gw b k+b.getD k 0)%256
def yN (b:List Int) : Int:=gw b b.length
def iv (b:List Int) : Int:=(0-yN b)%256
def ew (b:List Int) : Bool:=decide (0<((b.length:Nat) : Int))&&(iv b==0)
theorem wx(b:List Int) : ∀ k,0≤gw b k∧gw b k<256
  | 0=>by unfold gw;omega
  | k+1=>by unfold gw;omega
def gF (n:Int) : Int:=if n<10 then 48+n else 55+n
def bP (c:Int) : Int:=if 48≤c∧c≤57 then c-48 else if 65≤c∧c≤70 then c-55 else -1
def ux:List Int→List Int
  | []=>[]
  | c :: b=>gF (c/16) :: gF (c%16) :: ux b
def bO:List Int→Option (List Int)
  | []=>some []
  | [_]=>none
  | a :: b :: r=>if bP a<0∨bP b<0 then none else (bO r).map fun l=>(16*bP a+bP b)%256 :: l
theorem t0{n:Int}(h:0≤n∧n<16) : bP (gF n)=n:=by
  unfold gF
  split<;>unfold bP
  · rw[if_pos (by omega)];omega
  · rw[if_neg (by omega),if_pos (by omega)];omega
theorem jz{c:Int}(h:0≤bP c) : gF (bP c)=c∧bP c<16:=by
  unfold bP at h ⊢
  split at h
  · rename_i h1
    rw[if_pos h1]
    unfold gF
    rw[if_pos (by omega)]
    omega
  · rename_i h1
    split at h
    · rename_i h2
      rw[if_neg h1,if_pos h2]
      unfold gF
      rw[if_neg (by omega)]
      omega
    · omega
theorem j6(c:Int) : bP c<16∧-1≤bP c:=by unfold bP;split;omega;split<;>omega
theorem pn:∀ b:List Int,(ux b).length=2*b.length
  | []=>rfl
  | c :: b=>by simp only[ux,List.length_cons,pn b];omega
theorem lB:∀ {s x:List Int},bO s=some x→s=ux x∧∀ y,y∈x→0≤y∧y<256
  | [],x,h=>by
    injection h with h
    subst h
    exact⟨rfl,fun y hy=>by cases hy⟩
  | [_],x,h=>by cases h
  | a :: b :: r,x,h=>by
    simp only[bO] at h
    split at h
    · cases h
    · rename_i hd
      cases hr:bO r with
      | none=>rw[hr] at h;cases h
      | some l =>
        rw[hr] at h
        injection h with h
        obtain⟨h1,h2⟩:=lB hr
        have ha:=jz (c:=a) (by omega)
        have hb:=jz (c:=b) (by omega)
        subst h
        refine⟨?_,fun y hy=>?_⟩
        · simp only[ux]
          rw[show(16*bP a+bP b)%256/16=bP a from by omega,show(16*bP a+bP b)%256%16=bP b from by omega,ha.1,hb.1,← h1]
        · rcases List.mem_cons.1 hy with rfl | hy
          · omega
          · exact h2 y hy
theorem rA{xs:List Int}{k:Nat}(h:2*k+1<xs.length)(ha:¬ bP (xs.getD (2*k) 0)<0)(hb:¬ bP (xs.getD (2*k+1) 0)<0) : bO (xs.drop (2*k))=(bO (xs.drop (2*(k+1)))).map fun l=>[(16*bP (xs.getD (2*k) 0)+bP (xs.getD (2*k+1) 0))%256]++l:=by
  have e1:xs.getD (2*k) 0=xs[2*k]:=by rw[List.getD_eq_getElem?_getD,List.getElem?_eq_getElem (by omega)];rfl
  have e2:xs.getD (2*k+1) 0=xs[2*k+1]:=by rw[List.getD_eq_getElem?_getD,List.getElem?_eq_getElem h];rfl
  rw[List.drop_eq_getElem_cons (show 2*k<xs.length by omega),List.drop_eq_getElem_cons h,← e1,← e2]
  simp only[bO]
  rw[if_neg (by omega),show 2*k+1+1=2*(k+1) by omega]
  rfl
theorem tP{xs:List Int}{k:Nat}(h:2*k+1<xs.length)(hd:bP (xs.getD (2*k) 0)<0∨bP (xs.getD (2*k+1) 0)<0) : bO (xs.drop (2*k))=none:=by
  have e1:xs.getD (2*k) 0=xs[2*k]:=by rw[List.getD_eq_getElem?_getD,List.getElem?_eq_getElem (by omega)];rfl
  have e2:xs.getD (2*k+1) 0=xs[2*k+1]:=by rw[List.getD_eq_getElem?_getD,List.getElem?_eq_getElem h];rfl
  rw[List.drop_eq_getElem_cons (show 2*k<xs.length by omega),List.drop_eq_getElem_cons h,← e1,← e2]
  simp only[bO]
  rw[if_pos hd]
theorem jV:∀ {xs:List Int},xs.length%2≠0→bO xs=none
  | [],h=>by simp at h
  | [_],_=>rfl
  | a :: b :: r,h=>by
    simp only[bO]
    split
    · rfl
    · rw[jV (by simp only[List.length_cons] at h;omega)]
      rfl
theorem mS{s x:List Int}(h:bO s=some x) : s.length=2*x.length:=by
  obtain⟨h1,_⟩:=lB h
  rw[h1,pn]
theorem mW{xs L:List Int}{k:Nat}(h:bO xs=(bO (xs.drop (2*k))).map fun l=>L++l)(h1:¬ 2*k<xs.length) : bO xs=some L:=by
  rw[List.drop_eq_nil_of_le (by omega)] at h
  rw[h]
  simp[bO]
theorem kS{xs L:List Int}{k:Nat}(h:bO xs=(bO (xs.drop (2*k))).map fun l=>L++l)(h2:2*k+1<xs.length)(ha:¬ bP (xs.getD (2*k) 0)<0)(hb:¬ bP (xs.getD (2*k+1) 0)<0) : bO xs=(bO (xs.drop (2*(k+1)))).map fun l=>(L++[(16*bP (xs.getD (2*k) 0)+bP (xs.getD (2*k+1) 0))%256])++l:=by
  rw[h,rA h2 ha hb]
  cases bO (xs.drop (2*(k+1))) with
  | none=>rfl
  | some l=>simp
theorem pz{xs L:List Int}{k:Nat}(h:bO xs=(bO (xs.drop (2*k))).map fun l=>L++l)(h2:2*k+1<xs.length)(hd:bP (xs.getD (2*k) 0)<0∨bP (xs.getD (2*k+1) 0)<0) : bO xs=none:=by
  rw[h,tP h2 hd]
  rfl
open Go.RowKit
theorem xB{w:World}{g:Nat}{c s:Int}(hg:w.heap[g]? = some (.cells #[vB s] 5 (0,0))) : Calls Tryz.prog 183 #[vB c,vP g 0] w (fun e w'=>e = .returned (.tuple #[])∧w'.heap[g]? = some (.cells #[vB ((s+c)%256)] 5 (0,0))∧aD [g] w w'):=by
 exact en 6 Tryz.func183 rfl<|go<|aH hg 0<|Pl 2<|L0<|bI hg 0 #[vB ((s+c)%256)] fun d a b=>nl<|rm (.tuple #[])<|⟨rfl,a,b⟩
theorem tX{m:Md}{A:Option Addr}{cp:Nat}{b:List Int}{w0 w:World}{g:Nat}(hu0:aD [] w0 w)(hg0:w0.heap.size≤g)(hsl:aO m w0 (.slice A b.length cp) b)(hg:w.heap[g]? = some (.cells #[vB (gw b 0)] 5 (0,0))) :
    Calls Tryz.prog 182 #[.slice A b.length cp,.func (.func 183) #[] #[vP g 0]] w (fun e w'=>e = .returned (.tuple #[])∧w'.heap[g]? = some (.cells #[vB (yN b)] 5 (0,0))∧aD [] w0 w'∧w.heap.size≤w'.heap.size):=by
 have hln:=aI.len hsl
 refine en 16 Tryz.func182 rfl<|ax 3<|bk<|?_
 refine fE (fun x=>[(1,.func (.func 183) #[] #[vP g 0]),(6,.slice A b.length cp),(7,vI ((b.length:Nat) : Int)),(8,vI ((x:Nat) : Int))]) (fun(x:Nat) w'=>aD [] w0 w'∧w.heap.size≤w'.heap.size∧w'.heap[g]? = some (.cells #[vB (gw b x)] 5 (0,0))∧(x≤b.length)) (fun x=>b.length-x) 0 ⟨hu0,lr,hg,(by(try dsimp only);omega)⟩ ?_
 rintro k j ⟨a,f,l,n⟩
 refine eH [(1,.func (.func 183) #[] #[vP g 0]),(6,.slice A b.length cp),(7,vI ((b.length:Nat) : Int)),(8,vI ((k:Nat) : Int))] ?_
 have h:j.heap[g]? = some (.cells #[vB (gw b k)] 5 (0,0)):=l
 have y:k≤b.length:=n
 refine ax 1<|sq<|cb ((decide (((k:Nat) : Int)<((b.length:Nat) : Int)))) (fun d=>?_) (fun d=>?_)
 have o:=of_decide_eq_true d
 refine bp<|sq<|bk<|sg<|?_
 refine ea (aO.at_ (aO.old hsl a) k (by omega)) fun q r s t z=>L0<|iV b.length k s (by omega)<|L0<|dX (p:=⟨q,r+k,none⟩) (v:=vB (b.getD k 0)) t<|aj 1<|go<|Pl 2<|L0<|i4 #[] #[vP g 0] (args:=#[vB (b.getD k 0),vP g 0])<|m2 (xB (c:=(b.getD k 0)) h) fun B u i=>nl<|bn<|tn<|go<|b6 (((k:Nat) : Int)+1)<|?_
 refine Pl 1<|nl<|?_
 exact dH (k+1) ⟨(ud a i hg0),(le f i.size),u,(by(try dsimp only);omega)⟩ (by omega)
 have o:=of_decide_eq_false d
 refine xt<|tx<|tx<|bx<|rm (.tuple #[])<|?_
 have hk:k=b.length:=by omega
 subst hk
 exact⟨rfl,h,a,f⟩
theorem pP{m:Md}{A:Option Addr}{cp:Nat}{b:List Int}{w:World}(hsl:aO m w (.slice A b.length cp) b) :
    Calls Tryz.prog 116 #[.slice A b.length cp] w (bD (vB (iv b)) w):=by
 refine en 9 Tryz.func116 rfl<|ak 1<|ng<|aK #[vB 0] fun h i a c d=>L0<|bI c 0 #[vB 0] fun j ej e=>aL 2<|?_
 exact az<|m3 (tX (ud d e a) a hsl ej) fun k f g l=>ng<|aH f 0<|aj 2<|rt<|rr (vB ((0-(yN b))%256))<|⟨rfl,g⟩
theorem sQ{m:Md}{v:Value}{b:List Int}{w:World}(h:aO m w v b) : Calls Tryz.prog 116 #[v] w (bD (.int .u8 (iv b)) w):=by
  obtain⟨A,cp,rfl,_,_⟩:=h.shape
  exact pP h
theorem qm{m:Md}{A:Option Addr}{cp:Nat}{b:List Int}{w:World}(hsl:aO m w (.slice A b.length cp) b) :
    Calls Tryz.prog 82 #[.slice A b.length cp] w (bD (.bool (ew b)) w):=by
 refine en 11 Tryz.func82 rfl<|ak 1<|aL 4<|bl 6 ((decide (0<(b.length:Int)))) (fun a=>?_) (fun a=>?_)
 have c:=of_decide_eq_true a
 refine Pl 1<|L1<|Oc (args:=#[.slice A b.length cp])<|m1 (sQ hsl) fun e d=>aj 3<|rt<|rr (.bool ((iv b)==0))<|?_
 have hs:ew b=((iv b)==0):=by unfold ew;(try simp only[a,bj]);all_goals rfl
 rw[hs]
 exact⟨rfl,d⟩
 have c:=of_decide_eq_false a
 refine aj 5<|rt<|rr (.bool false)<|?_
 have hs:ew b=false:=by unfold ew;(try simp only[a,bj]);all_goals rfl
 rw[hs]
 exact⟨rfl,(aD.refl [] _)⟩
theorem sx{m:Md}{v:Value}{b:List Int}{w:World}(h:aO m w v b) : Calls Tryz.prog 82 #[v] w (bD (.bool (ew b)) w):=by
  obtain⟨A,cp,rfl,_,_⟩:=h.shape
  exact qm h
open Go.RowKit
def wY:Array Value:=#[.int .u8 48,.int .u8 49,.int .u8 50,.int .u8 51,.int .u8 52,.int .u8 53,.int .u8 54,.int .u8 55,.int .u8 56,.int .u8 57,.int .u8 65,.int .u8 66,.int .u8 67,.int .u8 68,.int .u8 69,.int .u8 70]
theorem xA:∀ {j:Nat},j<16→wY[j]? = some (.int .u8 (gF (j:Int)))
  | 0,_ | 1,_ | 2,_ | 3,_ | 4,_ | 5,_ | 6,_ | 7,_ | 8,_ | 9,_ | 10,_ | 11,_ | 12,_ | 13,_ | 14,_ | 15,_=>rfl
  | n+16,h=>by omega
theorem vG{P:Program}{w:World}{ev:Operand→Value}{o:Oper}{x ix:Operand}{t e:TypeId}{k:IntKind}{i:Int}(j:Nat)(ho:o.op = .index t x ix)(ht:P.underlying t=some (.array 16 e))(hi:(P.info? e).map (·.size)=some 1)(hr:∀ w,(isAgg e).run P w = .ok false w)(hx:ev x = .agg wY)(hy:ev ix = .int k i)(hj:i=(j:Int))(hlt:j<16) : (execOp ev o).run P w = .ok (.value (.int .u8 (gF (j:Int)))) w:=by
  subst hj
  obtain⟨i0,hi0,hs⟩:=Option.map_eq_some_iff.1 hi
  have h:=xA hlt
  unfold execOp
  have h2:(0:Int)≤(j:Int)∧(j:Int)<16:=by omega
  simp[ho,hx,hy,Instr.index,asIntOf,run_underlying ht,Result.andThen,h2,sizeOf,typeInfo,hi0,hs,part,h,hr,hlt]
def CO (B b:Nat)(L:List Int)(w:World) : Prop:=∃ p A cp,w.heap[b]? = some (.cells #[p,.slice A L.length cp] 251 (0,0))∧(p = .pointer none∨p = .pointer (some ⟨b,0,none⟩))∧du B w (.slice A L.length cp) L
theorem CO.new{B b:Nat}{w:World}(hb:w.heap[b]? = some (.cells #[.pointer none,.slice none 0 0] 251 (0,0))) : CO B b [] w:=⟨_,_,_,hb,.inl rfl,aQ.nil ..⟩
open Go.RowKit
theorem qq{w:World}:Calls Tryz.prog 181 #[] w (bD (.agg wY) w):=by
 refine en 2 Tryz.func181 rfl<|sg<|aK #[vB 0,vB 0,vB 0,vB 0,vB 0,vB 0,vB 0,vB 0,vB 0,vB 0,vB 0,vB 0,vB 0,vB 0,vB 0,vB 0] fun e f a b c=>aL 1<|aE b #[vB 48,vB 49,vB 50,vB 51,vB 52,vB 53,vB 54,vB 55,vB 56,vB 57,vB 65,vB 66,vB 67,vB 68,vB 69,vB 70] fun g ej d=>p6<|zO ej<|?_
 exact⟨rfl,(ud c d a)⟩
theorem wT{c:Int}{n:Nat}(h:∀ j:Nat,j<n→gF (j:Int)≠c)(q:(gF ((n:Nat) : Int)==c)=false) : ∀ j:Nat,j<n+1→gF (j:Int)≠c:=fun j hj=>by
  by_cases e:j=n
  · subst e;simpa using q
  · exact h j (by omega)
theorem Al{c:Int}{n:Nat}(hn:n<16)(q:(gF ((n:Nat) : Int)==c)=true) : bP c=((n:Nat) : Int):=by
  have e:gF ((n:Nat) : Int)=c:=by simpa using q
  rw[← e]
  exact t0 (by omega)
theorem vn{c:Int}{n:Nat}(hn:n=16)(h:∀ j:Nat,j<n→gF (j:Int)≠c) : bP c = -1:=by
  by_cases e:0≤bP c
  · have h1:=jz e
    exact absurd (by rw[Int.toNat_of_nonneg e];exact h1.1) (h (bP c).toNat (by omega))
  · have:=j6 c
    omega
theorem mU{w:World}{c:Int}(hc:0≤c∧c<256) : Calls Tryz.prog 115 #[vB c] w (bD (vI (bP c)) w):=by
 refine en 15 Tryz.func115 rfl<|ax 1<|sq<|sg<|az<|m1 (@qq w) fun g h=>aj 1<|bk<|?_
 refine fE (fun x=>[(0,vB c),(5,.agg wY),(6,vI ((x:Nat) : Int))]) (fun(x:Nat) w'=>aD [] g w'∧(x≤16)∧(∀ j:Nat,j<x→gF (j:Int)≠c)) (fun x=>16-x) 0 ⟨aD.refl _ _,(by(try dsimp only);omega),(fun j hj=>by omega)⟩ ?_
 rintro n q ⟨d,l,m⟩
 refine eH [(0,vB c),(5,.agg wY),(6,vI ((n:Nat) : Int))] ?_
 have r:n≤16:=l
 have e:∀ j:Nat,j<n→gF (j:Int)≠c:=m
 refine ax 1<|sq<|?_
 have f:=aM h d
 refine cb ((decide (((n:Nat) : Int)<16))) (fun b=>?_) (fun b=>?_)
 have o:=of_decide_eq_true b
 refine bp<|sq<|bk<|ak 1<|L0<|f9 (vB (gF ((n:Nat) : Int))) (vG (k:=.i64) (i:=((n:Nat) : Int)) n rfl Tryz.underlying204 (by kernel_rfl) Tryz.isAgg5 (by kernel_rfl) (by kernel_rfl) rfl (by omega))<|Pl 2<|aL 3<|nl<|?_
 refine tn<|cb (((gF ((n:Nat) : Int))==c)) (fun a=>?_) (fun a=>?_)
 have p:=am a
 refine ax 2<|rt<|br<|tr<|tr<|br<|tr<|rr (vI ((n:Nat) : Int))<|?_
 have hs:bP c=((n:Nat) : Int):=Al (by omega) a
 rw[hs]
 exact⟨rfl,f⟩
 have p:=au a
 exact sk<|bn<|tn<|go<|b6 (((n:Nat) : Int)+1)<|Pl 1<|nl<|dH (n+1) ⟨d,(by(try dsimp only);omega),(wT e a)⟩ (by omega)
 have o:=of_decide_eq_false b
 refine xt<|tx<|tx<|bx<|tn<|ax 1<|rt<|rr (vI (-1))<|?_
 have hs:bP c = -1:=vn (n:=n) (by omega) e
 rw[hs]
 exact⟨rfl,f⟩
open Go.RowKit
def fQ (xs:List Int)(w:World)(e:Ending)(w':World) : Prop:=match bO xs with
  | some l=>∃ v,e = .returned (.tuple #[v,.int .i64 0])∧du w.heap.size w' v l∧aD [] w w'
  | none=>e = .returned (.tuple #[.slice none 0 0,.int .i64 11])∧aD [] w w'
theorem s5{xs l:List Int}{w w':World}{e:Ending}(h:bO xs=some l)(k:∃ v,e = .returned (.tuple #[v,.int .i64 0])∧du w.heap.size w' v l∧aD [] w w') : fQ xs w e w':=by
  unfold fQ
  rw[h]
  exact k
theorem kL{xs:List Int}{w w':World}{e:Ending}(h:bO xs=none)(k:e = .returned (.tuple #[.slice none 0 0,.int .i64 11])∧aD [] w w') : fQ xs w e w':=by
  unfold fQ
  rw[h]
  exact k
theorem n8{xs:List Int}{w:World}(hr:eZ xs)(hl:xs.length≤1048576) :
    Calls Tryz.prog 81 #[.string (strOfNums xs)] w (fQ xs w):=by
 refine en 42 Tryz.func81 rfl<|ax 2<|sq<|ak 1<|L0<|Oe (vI (((strOfNums xs).size:Nat) : Int)) (vI (xs.length:Int)) (by rw[strOfNums_size])<|L0<|Oe (vI (Int.tmod (xs.length:Int) 2)) (vI ((xs.length:Int)%2)) (congrArg (Value.int .i64) (Int.tmod_eq_emod_of_nonneg (by omega)))<|Pl 1<|nl<|tn<|cb ((((xs.length:Int)%2)!=0)) (fun d=>?_) (fun d=>?_)
 have y:=av d
 refine ax 2<|bh<|rr (.tuple #[nS,vI 11])<|?_
 have hs:bO xs=none:=jV (by omega)
 exact kL hs ⟨rfl,(aD.refl [] _)⟩
 have y:=aJ d
 refine bp<|ax 1<|sq<|ax 1<|bk<|?_
 refine fE (fun x=>[(0,.string (strOfNums xs)),(4,.slice x.2.2.1 x.2.1.length x.2.2.2),(5,vI ((2*x.1:Nat) : Int))]) (fun(x:Nat × List Int × Option Addr × Nat) w'=>aD [] w w'∧du w.heap.size w' (.slice x.2.2.1 x.2.1.length x.2.2.2) x.2.1∧(2*x.1≤xs.length)∧(bO xs=(bO (xs.drop (2*x.1))).map fun l=>x.2.1++l)∧(x.2.1.length=x.1)) (fun x=>xs.length-2*x.1) (0,[],none,0) ⟨aD.refl _ _,(aQ.nil w.heap.size _ _ ma _),(by(try dsimp only);omega),(by(try dsimp only);simp),(by(try dsimp only);rfl)⟩ ?_
 rintro⟨k,L,B,cq⟩ z ⟨f,A,C,D,E⟩
 refine eH [(0,.string (strOfNums xs)),(4,.slice B L.length cq),(5,vI ((2*k:Nat) : Int))] ?_
 have g:du w.heap.size z (.slice B L.length cq) L:=A
 have T:2*k≤xs.length:=C
 have U:bO xs=(bO (xs.drop (2*k))).map fun l=>L++l:=D
 have V:L.length=k:=E
 have hL:bO xs=(bO (xs.drop (2*k))).map fun l=>L++l:=by assumption
 refine sq<|ak 2<|L0<|Oe (vI (((strOfNums xs).size:Nat) : Int)) (vI (xs.length:Int)) (by rw[strOfNums_size])<|aj 1<|cb ((decide (((2*k:Nat) : Int)<(xs.length:Int)))) (fun j=>?_) (fun j=>?_)
 have F:=of_decide_eq_true j
 refine bp<|sq<|bk<|sq<|Rg 11 (fun w'=>True) fun W o=>bB trivial fun a=>Rt 0 a<|Rt 1 a<|Rr 2 a (vB (xs.getD (2*k) 0)) (fun _ _=>j0 (xs:=xs) (k:=.i64) (i:=((2*k:Nat) : Int)) (2*k) rfl Tryz.underlying9 (by kernel_rfl) (by kernel_rfl) hr rfl (by omega))<|Rt 4 a<|Rt 5 a<|Rr 6 a (vI (((2*k:Nat) : Int)+1)) (fun _ _=>bF (vI (IntKind.i64.wrap (((2*k:Nat) : Int)+1))) (by kernel_rfl) (congrArg (Value.int .i64) (IntWalk.i64_in _ (by omega))))<|Rr 7 a (vB (xs.getD ((((2*k:Nat) : Int)+1)).toNat 0)) (fun _ _=>j0 (xs:=xs) (k:=.i64) (i:=(((2*k:Nat) : Int)+1)) ((((2*k:Nat) : Int)+1)).toNat rfl Tryz.underlying9 (by kernel_rfl) (by kernel_rfl) hr (by omega) (by omega))<|?_
 have X:=j6 (xs.getD (2*k) 0)
 refine R0 3 rfl<|Oc<|m1 (mU (c:=(xs.getD (2*k) 0)) (w:=_) (eC (by omega) hr _)) fun Y p=>bB trivial fun Z=>?_
 have a0:=j6 (xs.getD ((((2*k:Nat) : Int)+1)).toNat 0)
 refine R0 8 rfl<|Oc<|m1 (mU (c:=(xs.getD ((((2*k:Nat) : Int)+1)).toNat 0)) (w:=_) (eC (by omega) hr _)) fun a1 r=>bB trivial fun s=>Rt 9 s<|Rt 10 s<|re<|tn<|sq<|ak 3<|eE 3 [29] 32 29 (decide ((bP (xs.getD (2*k) 0))<0)) (decide ((bP (xs.getD ((((2*k:Nat) : Int)+1)).toNat 0))<0)) (fun K G H=>?_) ?_
 have a2:=of_decide_eq_false H
 exact Pl 3<|ce G _ rfl
 refine nt<|?_
 have t:=aM o (aM p r)
 have u:=aM f t
 refine cb (((decide ((bP (xs.getD (2*k) 0))<0))||(decide ((bP (xs.getD ((((2*k:Nat) : Int)+1)).toNat 0))<0)))) (fun b=>?_) (fun b=>?_)
 refine ax 2<|bh<|br<|tr<|tr<|br<|tr<|rr (.tuple #[nS,vI 11])<|?_
 have hs:bO xs=none:=pz (k:=k) hL (by omega) (by have q:=b;simp only[Bool.or_eq_true,decide_eq_true_eq] at q;rw[show 2*k+1=(((2*k:Nat) : Int)+1).toNat from by omega];exact q)
 exact kL hs ⟨rfl,u⟩
 have I:=(cv b).1
 have J:=(cv b).2
 have a3:=of_decide_eq_false I
 have a4:=of_decide_eq_false J
 refine bp<|go<|Pl 2<|b6 (16*(bP (xs.getD (2*k) 0)))<|Pl 1<|b6 ((16*(bP (xs.getD (2*k) 0)))+(bP (xs.getD ((((2*k:Nat) : Int)+1)).toNat 0)))<|Pl 1<|L0<|ep (m:=1) (e:=5) #[vB (((16*(bP (xs.getD (2*k) 0)))+(bP (xs.getD ((((2*k:Nat) : Int)+1)).toNat 0)))%256)] fun a5 a6 M N n=>?_
 have O:=kv M (xs:=[(((16*(bP (xs.getD (2*k) 0)))+(bP (xs.getD ((((2*k:Nat) : Int)+1)).toNat 0)))%256)]) (by as_aux_lemma=>kernel_rfl) (aV (by omega) dc) (by(try simp only[List.length_cons,List.length_nil]);omega) N
 refine L0<|vh jL (xs:=L) (ys:=([(((16*(bP (xs.getD (2*k) 0)))+(bP (xs.getD ((((2*k:Nat) : Int)+1)).toNat 0)))%256)])) (vB 0) 1 (ai g (aM t n) (fun x hx=>ay) (fun _ _ h=>h)) (O).rd (by(try simp only[cD,aN]);omega) (le (le (le (le f.size o.size) p.size) r.size) n.size) fun P Q a7 R S=>Pl 1<|nl<|bn<|tn<|go<|Pl 1<|b6 (((2*k:Nat) : Int)+2)<|Pl 1<|nl<|?_
 have v:=kS (k:=k) hL (by omega) (by omega) (by rw[show 2*k+1=(((2*k:Nat) : Int)+1).toNat from by omega];omega)
 rw[show 2*k+1=(((2*k:Nat) : Int)+1).toNat from by omega] at v
 exact dH ((k+1),(L++[(((16*(bP (xs.getD (2*k) 0)))+(bP (xs.getD ((((2*k:Nat) : Int)+1)).toNat 0)))%256)]),P,Q) ⟨(ut u (ut (aD.mono (S':=(ob B++[])) n aA) S (aB il aA)) (aB (bE g lr) aA)),R,(by(try dsimp only);omega),v,(by(try dsimp only);simp only[cD];omega)⟩ (by omega)
 have F:=of_decide_eq_false j
 refine xt<|tx<|tx<|bx<|tn<|ax 3<|rt<|rr (.tuple #[.slice B L.length cq,vI 0])<|?_
 have hs:bO xs=some L:=mW hL (by omega)
 exact s5 hs ⟨_,rfl,g,f⟩
open Go.RowKit
def fZ (xs:List Int) : Bool:=decide (2≤((xs.length:Nat) : Int))&&decide (xs.drop (((xs.length:Nat) : Int)-2).toNat=[13,10])
def gO (b:List Int) : Option (List Int):=if b.getD 0 0=58∧fZ (b.drop 1)=true then some ((b.drop 1).take (b.length-3)) else none
theorem oy{xs:List Int}(h:fZ xs=true) : 2≤xs.length:=by
  unfold fZ at h
  simp only[Bool.and_eq_true,decide_eq_true_eq] at h
  omega
theorem mO{b s:List Int}(h:gO b=some s) : b.getD 0 0=58∧fZ (b.drop 1)=true∧s=(b.drop 1).take (b.length-3)∧3≤b.length:=by
  unfold gO at h
  split at h
  · rename_i hc
    injection h with h
    have:=oy hc.2
    rw[List.length_drop] at this
    exact⟨hc.1,hc.2,h.symm,by omega⟩
  · cases h
theorem wE{b s:List Int}(h:gO b=some s) : s.length=b.length-3:=by
  obtain⟨_,_,rfl,h3⟩:=mO h
  rw[List.length_take,List.length_drop]
  omega
def nz (xs:List Int)(w:World)(e:Ending)(w':World) : Prop:=match gO xs with
  | some l=>e = .returned (.tuple #[.string (strOfNums l),.bool true])∧aD [] w w'
  | none=>∃ s,e = .returned (.tuple #[.string s,.bool false])∧aD [] w w'
theorem la{xs:List Int}{w:World}(hr:eZ xs)(hl:xs.length≤1048576) : Calls Tryz.prog 226 #[.string (strOfNums xs),.string ⟨#[13,10]⟩] w (bD (.bool (fZ xs)) w):=by
 refine en 21 Tryz.func226 rfl<|ak 1<|aL 1<|L0<|Oe (vI (((strOfNums xs).size:Nat) : Int)) (vI (xs.length:Int)) (by rw[strOfNums_size])<|Pl 4<|bl 10 ((decide (2≤(xs.length:Int)))) (fun c=>?_) (fun c=>?_)
 have d:=of_decide_eq_true c
 refine Pl 2<|L1<|Oe (vI (((strOfNums xs).size:Nat) : Int)) (vI (xs.length:Int)) (by rw[strOfNums_size])<|Pl 2<|L1<|Oi ((xs.length:Int)-2)<|?_
 have e:eZ (xs.drop (((xs.length:Int)-2)).toNat):=jx hr (((xs.length:Int)-2)).toNat
 refine L1<|f9 (.string (strOfNums (xs.drop (((xs.length:Int)-2)).toNat))) (n7 (xs:=xs) (k:=.i64) (i:=((xs.length:Int)-2)) (((xs.length:Int)-2)).toNat rfl Tryz.underlying9 (by kernel_rfl) (by kernel_rfl) (by omega) (by omega))<|Pl 1<|L1<|f9 (.bool (decide ((xs.drop (((xs.length:Int)-2)).toNat)=[13,10]))) (fz (a:=(strOfNums (xs.drop (((xs.length:Int)-2)).toNat))) (b:=⟨#[13,10]⟩) rfl (by kernel_rfl) (by kernel_rfl) (yQ (ys:=[13,10]) e (by decide)))<|aj 2<|rt<|rr (.bool (decide ((xs.drop (((xs.length:Int)-2)).toNat)=[13,10])))<|?_
 have hs:fZ xs=(decide ((xs.drop (((xs.length:Int)-2)).toNat)=[13,10])):=by unfold fZ;(try simp only[c,bj]);all_goals rfl
 rw[hs]
 exact⟨rfl,(aD.refl [] _)⟩
 have d:=of_decide_eq_false c
 refine aj 11<|rt<|rr (.bool false)<|?_
 have hs:fZ xs=false:=by unfold fZ;(try simp only[c,bj]);all_goals rfl
 rw[hs]
 exact⟨rfl,(aD.refl [] _)⟩
theorem uo{xs:List Int}{w:World}(hr:eZ xs)(hl:xs.length≤1048576)(hq:fZ xs=true) : Calls Tryz.prog 180 #[.string (strOfNums xs),.string ⟨#[13,10]⟩] w (bD (.tuple #[.string (strOfNums (xs.take ((xs.length:Int)-2).toNat)),.bool true]) w):=by
 have hq2:=oy hq
 refine en 18 Tryz.func180 rfl<|ax 2<|sq<|ak 2<|az<|m1 (la (xs:=xs) (w:=_) hr (by omega)) fun c a=>aj 1<|?_
 have b:(!(fZ xs))=false:=by simp only[hq,Bool.not_true,Bool.not_false]
 refine cf b<|bp<|ak 2<|L0<|Oe (vI (((strOfNums xs).size:Nat) : Int)) (vI (xs.length:Int)) (by rw[strOfNums_size])<|Pl 2<|b6 ((xs.length:Int)-2)<|?_
 have d:eZ (xs.take (((xs.length:Int)-2)).toNat):=mw hr (((xs.length:Int)-2)).toNat
 exact L0<|f9 (.string (strOfNums (xs.take (((xs.length:Int)-2)).toNat))) (tZ (xs:=xs) (k:=.i64) (i:=((xs.length:Int)-2)) (((xs.length:Int)-2)).toNat rfl Tryz.underlying9 (by kernel_rfl) (by kernel_rfl) (by omega) (by omega))<|aj 2<|rt<|rr (.tuple #[.string (strOfNums (xs.take (((xs.length:Int)-2)).toNat)),.bool true])<|⟨rfl,a⟩
theorem wd{xs:List Int}{w:World}(hr:eZ xs)(hl:xs.length≤1048576)(hq:fZ xs=true) : Calls Tryz.prog 114 #[.string (strOfNums xs),.string ⟨#[13,10]⟩] w (bD (.tuple #[.string (strOfNums (xs.take ((xs.length:Int)-2).toNat)),.bool true]) w):=by
 exact en 11 Tryz.func114 rfl<|ak 2<|aL 2<|az<|m1 (uo (xs:=xs) (w:=_) hr hl hq) fun b a=>aj 4<|rt<|rr (.tuple #[.string (strOfNums (xs.take ((xs.length:Int)-2).toNat)),.bool true])<|⟨rfl,a⟩
theorem tV{xs:List Int}{w:World}(hr:eZ xs)(hl:xs.length≤1048576)(hq:fZ xs=false) : Calls Tryz.prog 180 #[.string (strOfNums xs),.string ⟨#[13,10]⟩] w (bD (.tuple #[.string (strOfNums xs),.bool false]) w):=by
 refine en 18 Tryz.func180 rfl<|ax 2<|sq<|ak 2<|az<|m1 (la (xs:=xs) (w:=_) hr (by omega)) fun c a=>aj 1<|?_
 have b:(!(fZ xs))=true:=by simp only[hq,Bool.not_true,Bool.not_false]
 exact ct b<|ax 3<|bh<|rr (.tuple #[.string (strOfNums xs),.bool false])<|⟨rfl,a⟩
theorem wZ{xs:List Int}{w:World}(hr:eZ xs)(hl:xs.length≤1048576)(hq:fZ xs=false) : Calls Tryz.prog 114 #[.string (strOfNums xs),.string ⟨#[13,10]⟩] w (bD (.tuple #[.string (strOfNums xs),.bool false]) w):=by
 exact en 11 Tryz.func114 rfl<|ak 2<|aL 2<|az<|m1 (tV (xs:=xs) (w:=_) hr hl hq) fun b a=>aj 4<|rt<|rr (.tuple #[.string (strOfNums xs),.bool false])<|⟨rfl,a⟩
theorem Ac{b:List Int}(h:b.getD 0 0=58)(k:fZ (b.drop 1)=true) : gO b=some ((b.drop 1).take (b.length-3)):=if_pos ⟨h,k⟩
theorem xH{b:List Int}(h:¬ b.getD 0 0=58) : gO b=none:=if_neg fun k=>h k.1
theorem xe{b:List Int}(k:fZ (b.drop 1)=false) : gO b=none:=if_neg fun h=>by rw[k] at h;cases h.2
theorem A8{b l:List Int}{w w':World}{e:Ending}(h:gO b=some l)(k:e = .returned (.tuple #[.string (strOfNums l),.bool true])∧aD [] w w') : nz b w e w':=by
  unfold nz
  rw[h]
  exact k
theorem uF{b:List Int}{w w':World}{e:Ending}(h:gO b=none)(k:∃ s,e = .returned (.tuple #[.string s,.bool false])∧aD [] w w') : nz b w e w':=by
  unfold nz
  rw[h]
  exact k
theorem kP{b:List Int}{w:World}(hr:eZ b)(hl:b.length≤1048576)(h0:0<b.length) : Calls Tryz.prog 80 #[.string (strOfNums b)] w (nz b w):=by
 refine en 18 Tryz.func80 rfl<|ax 2<|sq<|ak 1<|L0<|Ch (sv:=strOfNums b) Tryz.underlying9 fun f m n o p=>nt<|bk<|?_
 refine fE (fun x=>[(0,.string (strOfNums b)),(7,vP f 0)]) (fun(x:Unit) w'=>aD [] m w'∧(0≤0)) (fun x=>0) () ⟨aD.refl _ _,(by(try dsimp only);omega)⟩ ?_
 rintro z u ⟨g,q⟩
 refine eH [(0,.string (strOfNums b)),(7,vP f 0)] ?_
 have v:0≤0:=q
 refine sg<|?_
 refine L0<|Dj hr (by omega) (ub g o) fun Ba y h r=>aj 1<|sq<|c1<|bp<|bk<|ax 2<|sq<|ax 2<|?_
 have a:=ud p (uz g r) n
 refine cb ((Ba != 58)) (fun c=>?_) (fun c=>?_)
 have d:=av c
 exact ax 2<|bh<|br<|tr<|br<|tr<|rr (.tuple #[.string ⟨#[]⟩,.bool false])<|uF (xH fun e=>d (h.2 e)) ⟨_,rfl,a⟩
 have d:=aJ c
 refine bp<|xt<|BR<|tx<|bx<|tn<|ak 1<|?_
 have j:eZ (b.drop 1):=jx hr 1
 refine L0<|f9 (.string (strOfNums (b.drop 1))) (n7 (xs:=b) (k:=.i64) (i:=1) 1 rfl Tryz.underlying9 (by kernel_rfl) (by kernel_rfl) rfl (by omega))<|?_
 rcases g8 (fZ (b.drop 1)) with hq|hq
 refine az<|m1 (wd (xs:=(b.drop 1)) (w:=_) j (by rw[List.length_drop];omega) hq) fun A s=>aj 4<|rt<|rr (.tuple #[.string (strOfNums ((b.drop 1).take (((b.drop 1).length:Int)-2).toNat)),.bool true])<|?_
 exact A8 (l:=(b.drop 1).take (b.length-3)) (Ac (h.1 d) hq) ⟨by rw[show b.length-3=(((b.drop 1).length:Int)-2).toNat from by rw[List.length_drop];omega],(aM a s)⟩
 refine az<|m1 (wZ (xs:=(b.drop 1)) (w:=_) j (by rw[List.length_drop];omega) hq) fun B t=>aj 4<|rt<|rr (.tuple #[.string (strOfNums (b.drop 1)),.bool false])<|?_
 exact uF (xe hq) ⟨_,rfl,(aM a t)⟩
open Go.RowKit
theorem tS{b s:List Int}(hr:eZ b)(h:gO b=some s) : eZ s:=by
  obtain⟨_,_,rfl,_⟩:=mO h
  exact mw (jx hr 1) _
theorem yY{b l:List Int}{w:World}(h:gO b=some l)(e:Ending)(w':World)(k:nz b w e w') : e = .returned (.tuple #[.string (strOfNums l),.bool true])∧aD [] w w':=by
  unfold nz at k
  rw[h] at k
  exact k
theorem yH{b:List Int}{w:World}(h:gO b=none)(e:Ending)(w':World)(k:nz b w e w') : ∃ s,e = .returned (.tuple #[.string s,.bool false])∧aD [] w w':=by
  unfold nz at k
  rw[h] at k
  exact k
theorem oE{b l:List Int}{w:World}(h:bO b=some l)(e:Ending)(w':World)(k:fQ b w e w') : ∃ v,e = .returned (.tuple #[v,.int .i64 0])∧du w.heap.size w' v l∧aD [] w w':=by
  unfold fQ at k
  rw[h] at k
  exact k
theorem oT{b:List Int}{w:World}(h:bO b=none)(e:Ending)(w':World)(k:fQ b w e w') : e = .returned (.tuple #[.slice none 0 0,.int .i64 11])∧aD [] w w':=by
  unfold fQ at k
  rw[h] at k
  exact k
def j9 (x:List Int) : List Int:=(x.take (x.length-1)).drop 1
theorem iN(x:List Int) : j9 x=(x.take (((x.length:Nat) : Int)-1).toNat).drop 1:=by
  unfold j9
  rw[show(((x.length:Nat) : Int)-1).toNat=x.length-1 from by omega]
def dZ (dir:Int)(b:List Int) : bq × Int :=
  if dir != 0&&dir != 1 then (bq.zero,1)
  else if decide ((b.length:Int)<9) then (bq.zero,2)
  else if decide (513<(b.length:Int)) then (bq.zero,3)
  else match gO b with
    | none=>(bq.zero,12)
    | some s=>match bO s with
      | none=>(bq.zero,11)
      | some x=>if !(ew x) then (bq.zero,10) else bQ (x.getD 0 0) 0 (di dir (j9 x))
theorem qC{m:Md}{A:Option Addr}{cp:Nat}{b:List Int}{w:World}{dir:Int}(hsl0:aO m w (.slice A b.length cp) b)(hb:b.length≤1048576) :
    Calls Tryz.prog 56 #[vI dir,.slice A b.length cp] w (np (dZ dir b) w):=by
 have hln:(b.length:Int)≤1048576:=by omega
 have hr:eZ b:=aO.range hsl0
 refine en 71 Tryz.func56 rfl<|sg<|aK #[vB 0,vW 0,vB 0,vB 0,vW 0,vW 0,vW 0,vW 0,vW 0,vW 0,vW 0,vW 0,vW 0,vW 0,nS,nS,nS,nS,vB 0,vB 0,vB 0,vB 0,vB 0,nS] fun bC X k d o=>aj 1<|sq<|bk<|ak 3<|cV 3 [14] 17 14 (dir != 0) (dir != 1) (fun K am an=>?_) ?_
 have bD:=av an
 exact Pl 3<|ce am _ rfl
 refine aj 1<|cb (((dir != 0)&&(dir != 1))) (fun f=>?_) (fun f=>?_)
 have Y:=(aR f).1
 have Z:=(aR f).2
 have bE:=av Y
 have bF:=av Z
 refine ak 1<|aE d #[vB 0,vW 0,vB 0,vB 0,vW 0,vW 0,vW 0,vW 0,vW 0,vW 0,vW 0,vW 0,vW 0,vW 0,nS,nS,nS,nS,vB 0,vB 0,vB 0,vB 0,vB 0,nS] fun bG ao ap=>aj 1<|rt<|br<|tr<|bV ao (vI 1)<|?_
 have hs:dZ dir b=(bq.zero,1):=by
   unfold dZ
   (try simp only[f,Y,Z,bj,bQ,reduceIte])
   all_goals rfl
 refine ec hs ?_
 exact cX (ud o ap k)
 refine ax 4<|cb ((decide ((b.length:Int)<9))) (fun i=>?_) (fun i=>?_)
 have aq:=of_decide_eq_true i
 refine ak 1<|aE d #[vB 0,vW 0,vB 0,vB 0,vW 0,vW 0,vW 0,vW 0,vW 0,vW 0,vW 0,vW 0,vW 0,vW 0,nS,nS,nS,nS,vB 0,vB 0,vB 0,vB 0,vB 0,nS] fun bH ar au=>aj 1<|rt<|br<|tr<|bV ar (vI 2)<|?_
 have hs:dZ dir b=(bq.zero,2):=by
   unfold dZ
   (try simp only[f,i,bj,bQ,reduceIte])
   all_goals rfl
 refine ec hs ?_
 exact cX (ud o au k)
 have aq:=of_decide_eq_false i
 refine ax 4<|cb ((decide (513<(b.length:Int)))) (fun j=>?_) (fun j=>?_)
 have aw:=of_decide_eq_true j
 refine ak 1<|aE d #[vB 0,vW 0,vB 0,vB 0,vW 0,vW 0,vW 0,vW 0,vW 0,vW 0,vW 0,vW 0,vW 0,vW 0,nS,nS,nS,nS,vB 0,vB 0,vB 0,vB 0,vB 0,nS] fun bI aA aB=>aj 1<|rt<|br<|tr<|bV aA (vI 3)<|?_
 have hs:dZ dir b=(bq.zero,3):=by
   unfold dZ
   (try simp only[f,i,j,bj,bQ,reduceIte])
   all_goals rfl
 refine ec hs ?_
 exact cX (ud o aB k)
 have aw:=of_decide_eq_false j
 refine sk<|bn<|tn<|ak 1<|?_
 have O:=aO.old hsl0 o
 refine L0<|f9 (.string (strOfNums b)) (cm (A:=A) (n:=b.length) (c:=cp) rfl (by kernel_rfl) Tryz.underlying27 Tryz.underlying5 Tryz.underlying9 O)<|?_
 rcases hds:gO b with _|sd
 have aD:=kP (w:=X) (aO.range O) hb (by omega)
 have aF:=aD.mono (yH hds)
 refine az (args:=#[.string (strOfNums b)])<|e1 aF fun bJ bK a0=>aj 5<|sq<|ax 2<|c1<|ak 1<|?_
 refine aE (ub a0 d) #[vB 0,vW 0,vB 0,vB 0,vW 0,vW 0,vW 0,vW 0,vW 0,vW 0,vW 0,vW 0,vW 0,vW 0,nS,nS,nS,nS,vB 0,vB 0,vB 0,vB 0,vB 0,nS] fun bL aH aI=>aj 1<|bh<|bV aH (vI 12)<|?_
 have hs:dZ dir b=(bq.zero,12):=by
   unfold dZ
   (try simp only[f,i,j,bj,bQ,hds,reduceIte])
   all_goals rfl
 refine ec hs ?_
 exact cX (ud o (uz a0 aI) k)
 have hsl:=wE hds
 have hsd:eZ sd:=tS hr hds
 have aL:=kP (w:=X) (aO.range O) hb (by omega)
 have aN:=aL.mono (yY hds)
 refine az (args:=#[.string (strOfNums b)])<|m1 aN fun a1 l=>aj 5<|sq<|ax 2<|c0<|bp<|sq<|go<|Pl 1<|?_
 have a2:=aM o l
 rcases hth:bO sd with _|x
 have aP:=(n8 (w:=a1) hsd (by omega)).mono (oT hth)
 refine az<|m1 aP fun bM a3=>aj 5<|sq<|ax 2<|c1<|ak 2<|?_
 refine aE (ub (aM l a3) d) #[vB 0,vW 0,vB 0,vB 0,vW 0,vW 0,vW 0,vW 0,vW 0,vW 0,vW 0,vW 0,vW 0,vW 0,nS,nS,nS,nS,vB 0,vB 0,vB 0,vB 0,vB 0,nS] fun bN aQ aT=>aj 1<|bh<|bV aQ (vI 11)<|?_
 have hs:dZ dir b=(bq.zero,11):=by
   unfold dZ
   (try simp only[f,i,j,bj,bQ,hds,hth,reduceIte])
   all_goals rfl
 refine ec hs ?_
 exact cX (ud a2 (uz a3 aT) k)
 have hxl:=mS hth
 have aU:=(n8 (w:=a1) hsd (by omega)).mono (oE hth)
 refine az<|nk aU fun Q I bP R bR bS a4=>aj 5<|sq<|ax 2<|c0<|bp<|sq<|ak 1<|az (args:=#[.slice Q x.length I])<|m1 (sx (R).rd) fun aV S=>aj 1<|?_
 have F:=aM a4 S
 have T:=aM a2 F
 refine cb ((!(ew x))) (fun p=>?_) (fun p=>?_)
 have J:(ew x)=false:=by simpa using p
 refine ak 1<|?_
 refine aE (ub (aM l F) d) #[vB 0,vW 0,vB 0,vB 0,vW 0,vW 0,vW 0,vW 0,vW 0,vW 0,vW 0,vW 0,vW 0,vW 0,nS,nS,nS,nS,vB 0,vB 0,vB 0,vB 0,vB 0,nS] fun bT aX aZ=>aj 1<|bh<|bV aX (vI 10)<|?_
 have hs:dZ dir b=(bq.zero,10):=by
   unfold dZ
   (try simp only[f,i,j,p,J,bj,bQ,hds,hth,reduceIte])
   all_goals rfl
 refine ec hs ?_
 exact cX (ud T aZ k)
 have J:(ew x)=true:=by simpa using p
 refine bp<|ak 4<|b6 ((x.length:Int)-1)<|iy (eh (P:=Tryz.prog) 27 5 1 Tryz.underlying27 rfl rfl Q x.length I (lo:=1) (up:=((x.length:Int)-1)) 1 ((((x.length:Int)-1)).toNat) (by omega) (by omega) (by omega) (by omega) (by omega)) fun b0 hrun79 b1=>L0<|f9 (.slice b0 (((((x.length:Int)-1)).toNat)-1) (I-1)) (d9 (kl:=.i64) (kh:=.i64) (lo:=1) (hi:=((x.length:Int)-1)) (A:=Q) (n:=x.length) (c:=I) rfl Tryz.underlying27 (by kernel_rfl) (by kernel_rfl) (by kernel_rfl) (hrun79 _ _ _))<|?_
 obtain⟨a,G,U⟩ : ∃ M E,di dir ((x.take ((((x.length:Int)-1)).toNat)).drop 1)=(M,E):=⟨_,_,rfl⟩
 have a5:=ai R S (fun x hx=>ay) (fun _ _ h=>h)
 have a6:=jy (dir:=dir) (w:=aV) (b1 _ _ _ _ _ (a5).rd) (by rw[List.length_drop,List.length_take];omega)
 rw[U] at a6
 refine az<|e2 a6 fun b2 bU a7 V=>?_
 have b3:=a7
 obtain⟨b4,b5,b7,b9,ba,bb,bc,bd,be,bf,bg,bW⟩:=b3
 obtain rfl:b2=(f3 a b4 b5 b7 b9 ba).toArray:=by apply Array.toList_inj.1;simpa using bb
 obtain⟨q,r,rfl,_,_⟩:=bc.shape
 obtain⟨s,t,rfl,_,_⟩:=bd.shape
 obtain⟨u,v,rfl,_,_⟩:=be.shape
 obtain⟨y,z,rfl,_,_⟩:=bf.shape
 obtain⟨B,C,rfl,_,_⟩:=bg.shape
 refine Pl 3<|aK mZ fun a8 bX a9 bi bl=>aE bi (mG a.code a.fail a.addr a.count a.value a.and_ a.or_ a.addr2 a.sub a.status a.events a.messages (.slice q a.words.length r) (.slice s a.bits.length t) (.slice u a.data.length v) (.slice y a.recs.length z) a.mei a.kind a.level a.more a.next (.slice B a.objects.length C)) fun bY bm bo=>aj 1<|sq<|ax 2<|?_
 have ab:=ud bl bo a9
 have L:=aM V ab
 have ac:=aM T L
 refine cb ((G != 0)) (fun H=>?_) (fun H=>?_)
 have bs:=av H
 refine ak 2<|?_
 refine aE (ub (aM l (aM F L)) d) #[vB 0,vW 0,vB 0,vB 0,vW 0,vW 0,vW 0,vW 0,vW 0,vW 0,vW 0,vW 0,vW 0,vW 0,nS,nS,nS,nS,vB 0,vB 0,vB 0,vB 0,vB 0,nS] fun bZ bt bu=>aj 1<|bh<|bV bt (vI G)<|?_
 have hX2:di dir (j9 x)=(a,G):=(congrArg (di dir) (iN x)).trans U
 have hs:dZ dir b=(bq.zero,G):=by
   unfold dZ
   (try simp only[f,i,j,p,J,H,bj,bQ,hds,hth,hX2,reduceIte])
   all_goals rfl
 refine ec hs ?_
 exact cX (ud ac bu k)
 have bs:=aJ H
 refine bp<|sq<|?_
 have ad:=ai a5 L (fun x hx=>ay) (fun _ _ h=>h)
 refine ea (aO.at_ (ad).rd 0 (by omega)) fun bv bw ae bx c2=>Rg 8 (fun w'=>w'.cell? ⟨bv,bw+0,none⟩=some (vB (x.getD 0 0))∧w'.heap[a8]? = some (.cells (mG a.code a.fail a.addr a.count a.value a.and_ a.or_ a.addr2 a.sub a.status a.events a.messages (.slice q a.words.length r) (.slice s a.bits.length t) (.slice u a.data.length v) (.slice y a.recs.length z) a.mei a.kind a.level a.more a.next (.slice B a.objects.length C)) 45 (0,0))) fun c3 N=>?_
 have af:=ub N bm
 refine bB ⟨(uc N bx),af⟩ fun D=>Rt 0 D<|kj 1 D x.length 0 0 rfl ae (by omega)<|Rl 2 D (fun _ hs=>hs.1)<|Rt 3 D<|Rr 4 D (.agg (mG a.code a.fail a.addr a.count a.value a.and_ a.or_ a.addr2 a.sub a.status a.events a.messages (.slice q a.words.length r) (.slice s a.bits.length t) (.slice u a.data.length v) (.slice y a.recs.length z) a.mei a.kind a.level a.more a.next (.slice B a.objects.length C))) (fun w' hs=>hG (g:=a8) (off:=0) [vB a.code,vB a.fail,vW a.addr,vW a.count,vW a.value,vW a.and_,vW a.or_,vW a.addr2,vW a.sub,vW a.status,vW a.events,vW a.messages,.slice q a.words.length r,.slice s a.bits.length t,.slice u a.data.length v,.slice y a.recs.length z,vB a.mei,vB a.kind,vB a.level,vB a.more,vB a.next,.slice B a.objects.length C] rfl (by kernel_rfl) hs.2 (by kernel_rfl) (by kernel_rfl) rfl)<|Rt 5 D<|?_
 refine R0 6 rfl<|iX (ub (aM l (aM F (aM L N))) d) #[vB (x.getD 0 0),vW 0,vB a.code,vB a.fail,vW a.addr,vW a.count,vW a.value,vW a.and_,vW a.or_,vW a.addr2,vW a.sub,vW a.status,vW a.events,vW a.messages,.slice q a.words.length r,.slice s a.bits.length t,.slice u a.data.length v,.slice y a.recs.length z,vB a.mei,vB a.kind,vB a.level,vB a.more,vB a.next,.slice B a.objects.length C] fun c4 bz al=>?_
 have W:=uz N al
 refine bB ⟨(cB ((ai ad W (fun x hx=>(aa (fun e=>(aG (ag d) l.size R) (e▸hx)) ay)) (fun _ _ h=>h))).rd ae 0 (by omega)),(aY al (Ne.symm (nb (ag d) (le (le (le l.size a4.size) S.size) V.size) a9)) af)⟩ fun bA=>Rt 7 bA<|re<|tn<|rt<|bV bz (vI 0)<|?_
 have hX2:di dir (j9 x)=(a,G):=(congrArg (di dir) (iN x)).trans U
 have hs:dZ dir b=(⟨(x.getD 0 0),0,a⟩,0):=by
   unfold dZ
   (try simp only[f,i,j,p,J,H,bj,bQ,hds,hth,hX2,reduceIte])
   all_goals rfl
 refine ec hs ?_
 exact⟨_,rfl,⟨#[vB a.code,vB a.fail,vW a.addr,vW a.count,vW a.value,vW a.and_,vW a.or_,vW a.addr2,vW a.sub,vW a.status,vW a.events,vW a.messages,.slice q a.words.length r,.slice s a.bits.length t,.slice u a.data.length v,.slice y a.recs.length z,vB a.mei,vB a.kind,vB a.level,vB a.more,vB a.next,.slice B a.objects.length C],(by as_aux_lemma=>kernel_rfl),(aS.lo (aS.upd a7 (uz ab W) (ah (aW (ub (aM l (aM F V)) d) (by decide)) aC)) T.size),b8 (x:=(x.getD 0 0)) (by omega),ci (x:=0) (by omega)⟩,(ud ac W k)⟩
theorem sS{m:Md}{v:Value}{b:List Int}{w:World}{dir:Int}(h:aO m w v b)(hb:b.length≤1048576) : Calls Tryz.prog 56 #[.int .i64 dir,v] w (np (dZ dir b) w):=by
  obtain⟨A,cp,rfl,_,_⟩:=h.shape
  exact qC h hb
open Go.RowKit
theorem m7.weaken{base base':Nat}{w:World}{v:Value}{xs:List Int}(h:m7 base w v xs)(k:base'≤base) : m7 base' w v xs:=by
  obtain⟨g,cap,cur,n,h1,h2,h3⟩:=h
  exact⟨g,cap,cur,n,h1,Nat.le_trans k h2,h3⟩
open Go.RowKit
theorem kc{m:Md}{v:Value}{b:List Int}{w:World}{dir:Int}{F:bq}{E:Int}(hX:dZ dir b=(F,E))(h:aO m w v b)(hb:b.length≤1048576) : Calls Tryz.prog 56 #[.int .i64 dir,v] w (fun e w'=>∃ x,e = .returned (.tuple #[.agg (k9 F.unit F.tid F.msg x),.int .i64 E])∧(aS (.hi w.heap.size) w' (iU F.msg x).toList F.msg∧(0≤F.unit∧F.unit<256)∧(0≤F.tid∧F.tid<65536))∧aD [] w w'):=by
  refine(sS h hb).mono ?_
  rintro e w' ⟨cs,rfl,h1,h2⟩
  rw[hX] at h1 ⊢
  obtain⟨c,rfl,h3,h4,h5⟩:=h1
  obtain⟨x,rfl⟩:=lm h3
  exact⟨x,by rw[jJ],⟨h3,h4,h5⟩,h2⟩
end Go.Proofs.YtdkhbcefkfgbdaaGreat
