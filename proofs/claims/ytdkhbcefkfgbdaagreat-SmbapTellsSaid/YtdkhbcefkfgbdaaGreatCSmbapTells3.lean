/- Contracts of functions, part CSmbapTells3. -/
import Derived.Test.YtdkhbcefkfgbdaaGreatCSmbapTells1
import Derived.Test.YtdkhbcefkfgbdaaGreatCSmbapTells2
import Derived.OpenShut
import Derived.Below
import Derived.Deep.Upon
import Derived.Laws.StructEq
set_option linter.unusedVariables false
set_option linter.unusedSimpArgs false
set_option maxRecDepth 100000
set_option maxHeartbeats 4000000
namespace Go.Proofs.YtdkhbcefkfgbdaaGreat
open Go.RowKit
def fE (n:Int) : Bool:=(decide (7≤n)&&decide (n≤245))&&n%7==0
def fD (n:Int) : Bool:=decide (4≤n)&&decide (n≤245)
def fB (n:Int) : Bool:=decide (9≤n)&&decide (n≤251)
def kD (may:Int→Bool)(C:ag) : ag:=(C.bytesC 1).need (may C.byteV) 5
def tu (may:Int→Bool)(C:ag) : ag:=⟨(kD may C).bytesR C.byteV,false,0⟩
def tF (one:Int→ag→Int × ag × cX)(may:Int→Bool)(C:ag) : ag × List cX:=aM one (tu may C).l.length 0 (tu may C) []
def bg (e:Int) : Int:=if e==2 then 5 else e
def dD (one:Int→ag→Int × ag × cX)(may:Int→Bool)(c:Int)(C:ag) : ag × b6 :=
  (((kD may C).bytesC C.byteV).need ((tF one may C).1.e==0) (bg (tF one may C).1.e),{ b6.zero with code:=c,recs:=(tF one may C).2 })
def b9 (dir c:Int)(C:ag) : Option (ag × b6) :=
  if c==20 then (if dir==0 then some (dD cw fE c C) else some (dD bH fD c C)) else if c==21 then some (dD cy fB c C) else none
theorem qO:((20:Int)==20)=true:=rfl
theorem pF:((21:Int)==20)=false:=rfl
theorem rb:((21:Int)==21)=true:=rfl
variable {A:Option Addr}{b:List Int}{cp:Nat}{dir:Int}{m:Md}{w:World}
theorem lu(hd:dir=0∨dir=1)(hsl:aV m w (.slice A b.length cp) b)(hb:b.length≤1048576) :
    Calls Tryz.prog 102 #[vI 0,vB 20,.slice A b.length cp] w (dy (aj b9 0 20 b) w):=by
 have hln:(b.length:Int)≤1048576:=by omega
 have cI:((dir != 0)&&(dir != 1))=false:=by rcases hd with rfl | rfl<;>rfl
 refine tM 77 Tryz.func102 rfl<|sg<|aJ mZ fun b4 cK b5 Q J=>am 1<|sq<|az 6<|c0<|bu<|al 2<|aq (args:=#[vI 0,vB 20])<|e3 rY fun E cL a7 B F=>Pl 3<|aJ #[.nilFunc,.nilFunc] fun cS cT ce b8 t=>aB b8 #[.func (.func 215) #[] #[],.func (.func 213) #[] #[vP E 0]] fun cU cf r=>am 1<|sq<|sq<|go<|am 2<|c0<|bu<|al 1<|?_
 have Z:=ud t r ce
 have a8:=aQ F Z
 have ba:=aQ J a8
 refine aq<|e3 (d8 (aV.old hsl ba) (by omega)) fun a9 cV K M q=>Pl 1<|aK 1<|aq<|m3 (bD M) fun cZ cg k d0=>bt ((ag.mk b false 0).byteV)<|Pl 1<|aK 2<|?_
 have ad:=ud q k K
 have bb:=ub ad cf
 refine aF bb 0<|Pl 1<|L0<|fV #[] #[] (args:=#[vI ((ag.mk b false 0).byteV)])<|m1 (mJ (n:=(ag.mk b false 0).byteV) (by omega)) fun d1 g=>?_
 refine aq<|m2 (aZ ((fE ((ag.mk b false 0).byteV))) 5 (ae.old cg g)) fun d2 ch h=>?_
 refine ab ch fun x49 bc bd=>?_
 refine aK 2<|aq<|oZ (bN (n:=(ag.mk b false 0).byteV) bd) fun d3 d4 d5 ci d6 d7 cj i=>?_
 have d9:=Nat.le_trans (ag.bytesR_le x49 ((ag.mk b false 0).byteV)) (ae.len bd)
 refine ab cj fun x58 bf ck=>?_
 refine aq<|e3 (d8 ci (by omega)) fun S da af H o=>Pl 1<|aK 2<|aJ mZ fun D db N O p=>aB O (mC 20) fun dc cl d=>nt<|sq<|al 2<|?_
 have a0:=ud p d N
 have bh:=aQ o a0
 have bi:=uz g (u1 h (aQ i bh) im)
 refine aF (aS bi (nb (ai b8) r.size K) bb) 1<|aq<|tf (iV (gb:=S) (f:=.func 213) (x:=#[]) (y:=#[vP E 0])) fun cm cn dd ak an de bl bm j=>nt<|bk<|mK (f:=220) #[vP cm 0,vP cn 0] fun a ha=>?_
 intro df dg T co v I br ao P G
 have bs:=nb (ae.lt H) lr N
 have a1:=nb (ae.lt H) (le (le p.size d.size) j.size) I
 have bv:=nb (ai B) (le (le (le (le (le (le (le t.size r.size) q.size) k.size) g.size) h.size) i.size) o.size) N
 have bw:=nb (ai B) (le (le (le (le (le (le (le (le (le (le t.size r.size) q.size) k.size) g.size) h.size) i.size) o.size) p.size) d.size) j.size) I
 have U:=nb (ai O) (le d.size j.size) I
 have a2:=aQ j G
 have bx:=ae.old H (aQ a0 a2)
 have bz:=ud ad (aQ bi a2) K
 have bA:=ub (aQ Z bz) B
 have ap:=ub a2 cl
 refine(tG (c:=20) bx bA ap P (ub G bl) (ub G bm) (Ne.symm (nb (ai B) (le (le (le (le (le (le t.size r.size) q.size) k.size) g.size) h.size) i.size) af)) bs a1 bv bw U (Ne.symm (nb (ae.lt H) a0.size ak)) (Ne.symm (nb (ai B) (le (le (le (le (le (le (le (le (le t.size r.size) q.size) k.size) g.size) h.size) i.size) o.size) p.size) d.size) ak)) (Ne.symm (nb (ai O) d.size ak)) (nb (ai bl) lr I) (Ne.symm (nb (ae.lt H) a0.size an)) (Ne.symm (nb (ai B) (le (le (le (le (le (le (le (le (le t.size r.size) q.size) k.size) g.size) h.size) i.size) o.size) p.size) d.size) an)) (Ne.symm (nb (ai O) d.size an)) (nb (ai bm) lr I) ?_).mono ?_
 intro W C s L Ar cr x Ax cx hJ hrd hx1 hx2 hx3 hL
 simp only[dC] at hx1 hx2 hx3
 have hm2:W.heap[D]? = some (.cells #[vB 20,vB 0,vW 0,vW 0,vW 0,vW 0,vW 0,vW 0,vW 0,vW 0,vW 0,vW 0,nS,nS,nS,.slice Ar L.length cr,vB 0,vB 0,vB 0,vB 0,vB 0,nS] 45 (0,0)):=hJ.hm
 refine iU hJ.hl ?_
 refine vk ha 53<|tN<|jN<|tS #[vW 0,vW 0,vW 0,nS] fun dh dj bB cq bC=>jN<|iW cq #[vW x.file,vW x.record,vW x.count,.slice Ax x.words.length cx] fun dk cs bF=>pu<|?_
 have bG:=ud bC bF bB
 refine vp (ub bG hJ.hl) (by trivial) fun dl ct ar=>vF<|tN<|tP<|?_
 have bH:=uz bG ar
 have bI:=aS bH U hm2
 refine jN<|cY bI 15<|?_
 refine jN<|cM (aS ar (Ne.symm (nb (ai P) hJ.u.size bB)) cs)<|jN<|gv (m:=1) (e:=98) #[vW x.file,vW x.record,vW x.count,.slice Ax x.words.length cx] fun dm dn dp cu au=>?_
 have V:=aQ bH au
 have cv:=ip (R:=bo (.hi co.heap.size)) (x:=(cX.mk x.file x.record x.count x.words)) cu rfl ⟨_,rfl,(ej.updl hrd V hJ.hl rfl),c6 (x:=x.file) (by omega),c6 (x:=x.record) (by omega),c6 (x:=x.count) (by omega)⟩
 have aw:=av hJ.ho V (fun x hx=>(aa (fun e=>(aD (ai P) lr hJ.ho) (e▸hx)) ax)) (bo.updl V hJ.hl rfl)
 refine jN<|fl (xs:=L) (ys:=([(cX.mk x.file x.record x.count x.words)])) (.agg #[vW 0,vW 0,vW 0,nS]) 4 32 aw cv (by simp) bo.ones (fun w' hv=>bo.upd16 hv (bK (bW _ aw (by decide)) aE)) (by(try simp only[ef,be]);omega) (le (le (le (le hJ.u.size bC.size) bF.size) ar.size) au.size) fun bJ bL dq aL aN=>tP<|?_
 have bM:=ut (aC.mono (S':=(ob Ar++[])) au aA) aN (aH il aA)
 have aO:=aC.blk bM (b7 (aD (ai ap) lr hJ.ho) ax) bI
 refine jN<|bE aO 15 (mG 20 0 0 0 0 0 0 0 0 0 0 0 nS nS nS (.slice bJ ((L++[(cX.mk x.file x.record x.count x.words)]).length) bL) 0 0 0 0 0 nS) fun dr cy X=>pu<|bn<|?_
 have aP:=aC.blk (u1 (aC.mono (S':=(ob Ar++(D :: []))) bM (aH il aA)) X im) (b7 (aD (ai P) lr hJ.ho) (aa (Ne.symm U) ax)) ct
 refine vC aP fun ds cA Y=>?_
 have aU:=ut (aC.mono (S':=(T :: (ob Ar++(D :: [])))) V (ac im aA)) (ut (aC.mono (S':=(ob Ar++(D :: (T :: [])))) aN (aH il aA)) (us X Y) (ac im (ac im aA))) (aH il (ac im (ac im aA)))
 exact⟨by trivial,aU.size,bJ,bL,⟨(ut hJ.u aU (ac im (aH (c7 hJ.ho lr) (ac im aA)))),(ae.updl (ae.upd (ae.upd (ae.updl hJ.hC V (aa a1 ax) hJ.hl rfl) aN (b7 (aD (ae.lt bx) lr hJ.ho) ax) (bK (bW _ aw (by decide)) aE)) X (aa bs ax) (ah (aR aO (by decide)) aE)) Y (aa a1 ax) aP rfl),(aC.blk aU (aa bw (b7 (aD (ai bA) lr hJ.ho) (aa bv ax))) hJ.hS),(aS Y U cy),(av (av aL X (fun x hx=>(aa (fun e=>(aD (ai ap) lr aL) (e▸hx)) ax)) (bo.upd16 X (ah (aR aO (by decide)) aE))) Y (fun x hx=>(aa (fun e=>(aD (ai P) lr aL) (e▸hx)) ax)) (bo.updl Y aP rfl)),cA⟩⟩
 rintro _ cB ⟨rfl,dt,bO,bP,z⟩
 refine⟨_,_,rfl,z.hl,by simp[di],by trivial,fun du bQ=>?_⟩
 refine ab z.hC fun aW bS cC=>?_
 have cD:cB.heap[D]? = some (.cells #[vB 20,vB 0,vW 0,vW 0,vW 0,vW 0,vW 0,vW 0,vW 0,vW 0,vW 0,vW 0,nS,nS,nS,.slice bO ((aM cw (ag.mk (x49.bytesR ((ag.mk b false 0).byteV)) false 0).l.length 0 (ag.mk (x49.bytesR ((ag.mk b false 0).byteV)) false 0) []).2.length) bP,vB 0,vB 0,vB 0,vB 0,vB 0,nS] 45 (0,0)):=z.hm
 refine bn<|tn<|al 2<|?_
 have a3:=ae.updl cC bQ (aa a1 ax) z.hl rfl
 refine aq<|mq (c4 a3)<|?_
 have dv:=ae.len a3
 refine Pl 2<|aq<|mq (c4 a3)<|?_
 have dw:=ae.len a3
 refine aq<|m1 (gk (e:=aW.e)) fun dx cE=>?_
 have a4:=aQ bQ cE
 have bT:=u1 z.u a4 im
 have bU:=ud ad (uz g (u1 h i im)) K
 have bV:=ae.upd ck (ut (aC.mono (S':=[E]) bh aA) (ut (aC.mono (S':=[S,E,D]) a2 aA) bT (ac im (ac im (ac im (ac (ni j.size I) aA))))) (ac (nr af) (ac im (ac (ni o.size N) aA)))) (aa (Ne.symm (nb (ai B) Z.size K)) ax) (ah (aR (ub (aQ Z bU) B) (by decide)) aE)
 refine aq<|m2 (aZ ((aW.e==0)) (bg aW.e) bV) fun dz cF aX=>?_
 refine ab cF fun bX bY bZ=>?_
 refine aK 1<|aq<|m2 (dA bZ) fun dB c1 aY=>nt<|sq<|al 1<|aq<|mq (c4 c1)<|?_
 have dE:=ae.len c1
 refine Pl 1<|cJ 2<|?_
 have c2:=u1 aX aY im
 have b0:=u1 (aC.mono (S':=[S,E,D,T,a9]) bT (ac im (ac im (ac im (ac im aA))))) c2 im
 have b1:=ut (aC.mono (S':=[E]) bz aA) b0 (ac (ni bU.size af) (ac im (ac (ni (le (le (le (le (le q.size k.size) g.size) h.size) i.size) o.size) N) (ac (ni (le (le (le (le (le (le (le (le q.size k.size) g.size) h.size) i.size) o.size) p.size) d.size) j.size) I) (ac (nr K) aA)))))
 have c3:=ud ba b1 (le J.size a7)
 have hs:aj b9 0 20 b=bj (b6.mk 20 0 0 0 0 0 0 0 0 0 0 0 [] [] [] (aM cw (ag.mk ((((ag.mk b false 0).bytesC 1).need (fE ((ag.mk b false 0).byteV)) 5).bytesR ((ag.mk b false 0).byteV)) false 0).l.length 0 (ag.mk ((((ag.mk b false 0).bytesC 1).need (fE ((ag.mk b false 0).byteV)) 5).bytesR ((ag.mk b false 0).byteV)) false 0) []).2 0 0 0 0 0 []) (((((ag.mk b false 0).bytesC 1).need (fE ((ag.mk b false 0).byteV)) 5).bytesC ((ag.mk b false 0).byteV)).need (((aM cw (ag.mk ((((ag.mk b false 0).bytesC 1).need (fE ((ag.mk b false 0).byteV)) 5).bytesR ((ag.mk b false 0).byteV)) false 0).l.length 0 (ag.mk ((((ag.mk b false 0).bytesC 1).need (fE ((ag.mk b false 0).byteV)) 5).bytesR ((ag.mk b false 0).byteV)) false 0) []).1).e==0) (bg ((aM cw (ag.mk ((((ag.mk b false 0).bytesC 1).need (fE ((ag.mk b false 0).byteV)) 5).bytesR ((ag.mk b false 0).byteV)) false 0).l.length 0 (ag.mk ((((ag.mk b false 0).bytesC 1).need (fE ((ag.mk b false 0).byteV)) 5).bytesR ((ag.mk b false 0).byteV)) false 0) []).1).e)):=by
   unfold aj b9 dD tF tu kD
   (try simp only[bp,cQ,cN,cR,cP,cO,reduceIte,qO,pF,rb])
   all_goals rfl
 refine cb ((bX.endC.e != 0)) (fun b2=>?_) (fun b2=>?_)
 have b3:=ay b2
 refine al 2<|?_
 refine aB (ub (ud a8 b1 a7) Q) mZ fun dF cG c5=>am 1<|bq<|?_
 have c8:=nb (ai Q) (le (le (le (le (le (le (le (le (le (le (le F.size t.size) r.size) q.size) k.size) g.size) h.size) i.size) o.size) p.size) d.size) j.size) v
 refine tQ (aC.blk (u1 (aC.mono (S':=[S,E,D,T,a9,b4]) b0 (ac im (ac im (ac im (ac im (ac im aA)))))) c5 im) (aa (Ne.symm (nb (ae.lt H) (le (le p.size d.size) j.size) v)) (aa (Ne.symm (nb (ai B) (le (le (le (le (le (le (le (le (le (le t.size r.size) q.size) k.size) g.size) h.size) i.size) o.size) p.size) d.size) j.size) v)) (aa (Ne.symm (nb (ai O) (le d.size j.size) v)) (aa br (aa (Ne.symm (nb (ae.lt M) (le (le (le (le (le (le (le k.size g.size) h.size) i.size) o.size) p.size) d.size) j.size) v)) (aa (Ne.symm c8) ax)))))) ao) fun dG c9=>?_
 refine rx (aS c9 c8 cG) (vI bX.endC.e)<|?_
 subst bY bS bf bc
 rw[hs]
 exact cz b3 (ut c3 (us c5 c9) (ac (nr b5) (ac (ni (le (le (le (le (le (le (le (le (le (le (le (le J.size F.size) t.size) r.size) q.size) k.size) g.size) h.size) i.size) o.size) p.size) d.size) j.size) v) aA)))
 have b3:=aI b2
 refine bu<|sg<|?_
 refine L0<|cM (aC.blk (us a4 c2) (aa U (aa (Ne.symm (nb (ae.lt M) (le (le (le (le k.size g.size) h.size) i.size) o.size) N)) ax)) cD)<|?_
 have ca:=ub (ud a8 b1 a7) Q
 refine aB ca (mG 20 0 0 0 0 0 0 0 0 0 0 0 nS nS nS (.slice bO ((aM cw (ag.mk (x49.bytesR ((ag.mk b false 0).byteV)) false 0).l.length 0 (ag.mk (x49.bytesR ((ag.mk b false 0).byteV)) false 0) []).2.length) bP) 0 0 0 0 0 nS) fun dH cH a5=>am 1<|rt<|?_
 have cc:=nb (ai Q) (le (le (le (le (le (le (le (le (le (le (le F.size t.size) r.size) q.size) k.size) g.size) h.size) i.size) o.size) p.size) d.size) j.size) v
 have cd:=aC.blk (u1 (aC.mono (S':=[S,E,D,T,a9,b4]) b0 (ac im (ac im (ac im (ac im (ac im aA)))))) a5 im) (aa (Ne.symm (nb (ae.lt H) (le (le p.size d.size) j.size) v)) (aa (Ne.symm (nb (ai B) (le (le (le (le (le (le (le (le (le (le t.size r.size) q.size) k.size) g.size) h.size) i.size) o.size) p.size) d.size) j.size) v)) (aa (Ne.symm (nb (ai O) (le d.size j.size) v)) (aa br (aa (Ne.symm (nb (ae.lt M) (le (le (le (le (le (le (le k.size g.size) h.size) i.size) o.size) p.size) d.size) j.size) v)) (aa (Ne.symm cc) ax)))))) ao
 refine tQ cd fun dI a6=>?_
 refine rx (aS a6 cc cH) (vI 0)<|?_
 subst bY bS bf bc
 rw[hs]
 exact cW b3 ⟨_,_,_,_,_,rfl,aG.nil ..,aG.nil ..,aG.nil ..,(aG.hi_le (aT.hi (av (av (av (av (av z.ho a4 (fun x hx=>(aa (fun e=>(aD (ai P) lr z.ho) (e▸hx)) ax)) (bo.updl a4 z.hl rfl)) aX (fun x hx=>(aa (fun e=>(aD (ae.lt M) (le (le (le (le (le (le (le (le k.size g.size) h.size) i.size) o.size) p.size) d.size) j.size) G.size) z.ho) (e▸hx)) ax)) (bo.upd16 aX (ah (ae.safe bV _ (by decide)) aE))) aY (fun x hx=>(aa (fun e=>(aD (ae.lt M) (le (le (le (le (le (le (le (le k.size g.size) h.size) i.size) o.size) p.size) d.size) j.size) G.size) z.ho) (e▸hx)) ax)) (bo.upd16 aY (ah (ae.safe bZ _ (by decide)) aE))) a5 (fun x hx=>(aa (fun e=>(aD (ai Q) (le (le (le (le (le (le (le (le (le (le (le (le F.size t.size) r.size) q.size) k.size) g.size) h.size) i.size) o.size) p.size) d.size) j.size) G.size) z.ho) (e▸hx)) ax)) (bo.upd16 a5 (ah (aR ca (by decide)) aE))) a6 (fun x hx=>(aa (fun e=>(aD (ai ao) lr z.ho) (e▸hx)) ax)) (bo.updl a6 cd rfl)) lr) (le (le (le (le (le (le (le (le (le (le (le (le (le J.size F.size) t.size) r.size) q.size) k.size) g.size) h.size) i.size) o.size) p.size) d.size) j.size) G.size) (bo.lo (le (le (le (le (le (le (le (le (le (le (le (le (le J.size F.size) t.size) r.size) q.size) k.size) g.size) h.size) i.size) o.size) p.size) d.size) j.size) G.size))),aG.nil ..,(bR (by omega))⟩ (ut c3 (us a5 a6) (ac (nr b5) (ac (ni (le (le (le (le (le (le (le (le (le (le (le (le J.size F.size) t.size) r.size) q.size) k.size) g.size) h.size) i.size) o.size) p.size) d.size) j.size) v) aA)))
theorem lQ(hd:dir=0∨dir=1)(hsl:aV m w (.slice A b.length cp) b)(hb:b.length≤1048576) :
    Calls Tryz.prog 102 #[vI 1,vB 20,.slice A b.length cp] w (dy (aj b9 1 20 b) w):=by
 have hln:(b.length:Int)≤1048576:=by omega
 have cI:((dir != 0)&&(dir != 1))=false:=by rcases hd with rfl | rfl<;>rfl
 refine tM 77 Tryz.func102 rfl<|sg<|aJ mZ fun b4 cK b5 Q I=>am 1<|sq<|az 6<|c0<|bu<|al 2<|aq (args:=#[vI 1,vB 20])<|e3 rW fun J cL a7 B E=>Pl 3<|aJ #[.nilFunc,.nilFunc] fun cS cT cf b8 t=>aB b8 #[.func (.func 216) #[] #[],.func (.func 217) #[] #[]] fun cU cg r=>am 1<|sq<|sq<|go<|am 2<|c0<|bu<|al 1<|?_
 have Z:=ud t r cf
 have a8:=aQ E Z
 have ba:=aQ I a8
 refine aq<|e3 (d8 (aV.old hsl ba) (by omega)) fun a9 cV K M q=>Pl 1<|aK 1<|aq<|m3 (bD M) fun cZ ch k d0=>bt ((ag.mk b false 0).byteV)<|Pl 1<|aK 2<|?_
 have ad:=ud q k K
 have bb:=ub ad cg
 refine aF bb 0<|Pl 1<|L0<|fV #[] #[] (args:=#[vI ((ag.mk b false 0).byteV)])<|m1 (nq (n:=(ag.mk b false 0).byteV) (by omega)) fun d1 g=>?_
 refine aq<|m2 (aZ ((fD ((ag.mk b false 0).byteV))) 5 (ae.old ch g)) fun d2 ci h=>?_
 refine ab ci fun x49 bc bd=>?_
 refine aK 2<|aq<|oZ (bN (n:=(ag.mk b false 0).byteV) bd) fun d3 d4 d5 cj d6 d7 ck i=>?_
 have d9:=Nat.le_trans (ag.bytesR_le x49 ((ag.mk b false 0).byteV)) (ae.len bd)
 refine ab ck fun x58 bf cl=>?_
 refine aq<|e3 (d8 cj (by omega)) fun S da af G o=>Pl 1<|aK 2<|aJ mZ fun D db N O p=>aB O (mC 20) fun dc cm d=>nt<|sq<|al 2<|?_
 have a0:=ud p d N
 have bh:=aQ o a0
 have bi:=uz g (u1 h (aQ i bh) im)
 refine aF (aS bi (nb (ai b8) r.size K) bb) 1<|aq<|tf (iV (gb:=S) (f:=.func 217) (x:=#[]) (y:=#[])) fun cn co dd ak an de bl bm j=>nt<|bk<|mK (f:=220) #[vP cn 0,vP co 0] fun a ha=>?_
 intro df dg T cq v H br ao P F
 have bs:=nb (ae.lt G) lr N
 have a1:=nb (ae.lt G) (le (le p.size d.size) j.size) H
 have bv:=nb (ai B) (le (le (le (le (le (le (le t.size r.size) q.size) k.size) g.size) h.size) i.size) o.size) N
 have bw:=nb (ai B) (le (le (le (le (le (le (le (le (le (le t.size r.size) q.size) k.size) g.size) h.size) i.size) o.size) p.size) d.size) j.size) H
 have U:=nb (ai O) (le d.size j.size) H
 have a2:=aQ j F
 have bx:=ae.old G (aQ a0 a2)
 have bz:=ud ad (aQ bi a2) K
 have bA:=ub (aQ Z bz) B
 have ap:=ub a2 cm
 refine(sT (c:=20) bx bA ap P (ub F bl) (ub F bm) (Ne.symm (nb (ai B) (le (le (le (le (le (le t.size r.size) q.size) k.size) g.size) h.size) i.size) af)) bs a1 bv bw U (Ne.symm (nb (ae.lt G) a0.size ak)) (Ne.symm (nb (ai B) (le (le (le (le (le (le (le (le (le t.size r.size) q.size) k.size) g.size) h.size) i.size) o.size) p.size) d.size) ak)) (Ne.symm (nb (ai O) d.size ak)) (nb (ai bl) lr H) (Ne.symm (nb (ae.lt G) a0.size an)) (Ne.symm (nb (ai B) (le (le (le (le (le (le (le (le (le t.size r.size) q.size) k.size) g.size) h.size) i.size) o.size) p.size) d.size) an)) (Ne.symm (nb (ai O) d.size an)) (nb (ai bm) lr H) ?_).mono ?_
 intro W C s L Ar cr x Ax cx hJ hrd hx1 hx2 hx3 hL
 simp only[dC] at hx1 hx2 hx3
 have hm2:W.heap[D]? = some (.cells #[vB 20,vB 0,vW 0,vW 0,vW 0,vW 0,vW 0,vW 0,vW 0,vW 0,vW 0,vW 0,nS,nS,nS,.slice Ar L.length cr,vB 0,vB 0,vB 0,vB 0,vB 0,nS] 45 (0,0)):=hJ.hm
 refine iU hJ.hl ?_
 refine vk ha 53<|tN<|jN<|tS #[vW 0,vW 0,vW 0,nS] fun dh dj bB cs bC=>jN<|iW cs #[vW x.file,vW x.record,vW x.count,.slice Ax x.words.length cx] fun dk ct bF=>pu<|?_
 have bG:=ud bC bF bB
 refine vp (ub bG hJ.hl) (by trivial) fun dl cu ar=>vF<|tN<|tP<|?_
 have bI:=uz bG ar
 have bJ:=aS bI U hm2
 refine jN<|cY bJ 15<|?_
 refine jN<|cM (aS ar (Ne.symm (nb (ai P) hJ.u.size bB)) ct)<|jN<|gv (m:=1) (e:=98) #[vW x.file,vW x.record,vW x.count,.slice Ax x.words.length cx] fun dm dn dp cv au=>?_
 have V:=aQ bI au
 have cw:=ip (R:=bo (.hi cq.heap.size)) (x:=(cX.mk x.file x.record x.count x.words)) cv rfl ⟨_,rfl,(ej.updl hrd V hJ.hl rfl),c6 (x:=x.file) (by omega),c6 (x:=x.record) (by omega),c6 (x:=x.count) (by omega)⟩
 have aw:=av hJ.ho V (fun x hx=>(aa (fun e=>(aD (ai P) lr hJ.ho) (e▸hx)) ax)) (bo.updl V hJ.hl rfl)
 refine jN<|fl (xs:=L) (ys:=([(cX.mk x.file x.record x.count x.words)])) (.agg #[vW 0,vW 0,vW 0,nS]) 4 32 aw cw (by simp) bo.ones (fun w' hv=>bo.upd16 hv (bK (bW _ aw (by decide)) aE)) (by(try simp only[ef,be]);omega) (le (le (le (le hJ.u.size bC.size) bF.size) ar.size) au.size) fun bL bM dq aL aN=>tP<|?_
 have bO:=ut (aC.mono (S':=(ob Ar++[])) au aA) aN (aH il aA)
 have aO:=aC.blk bO (b7 (aD (ai ap) lr hJ.ho) ax) bJ
 refine jN<|bE aO 15 (mG 20 0 0 0 0 0 0 0 0 0 0 0 nS nS nS (.slice bL ((L++[(cX.mk x.file x.record x.count x.words)]).length) bM) 0 0 0 0 0 nS) fun dr cy X=>pu<|bn<|?_
 have aP:=aC.blk (u1 (aC.mono (S':=(ob Ar++(D :: []))) bO (aH il aA)) X im) (b7 (aD (ai P) lr hJ.ho) (aa (Ne.symm U) ax)) cu
 refine vC aP fun ds cA Y=>?_
 have aU:=ut (aC.mono (S':=(T :: (ob Ar++(D :: [])))) V (ac im aA)) (ut (aC.mono (S':=(ob Ar++(D :: (T :: [])))) aN (aH il aA)) (us X Y) (ac im (ac im aA))) (aH il (ac im (ac im aA)))
 exact⟨by trivial,aU.size,bL,bM,⟨(ut hJ.u aU (ac im (aH (c7 hJ.ho lr) (ac im aA)))),(ae.updl (ae.upd (ae.upd (ae.updl hJ.hC V (aa a1 ax) hJ.hl rfl) aN (b7 (aD (ae.lt bx) lr hJ.ho) ax) (bK (bW _ aw (by decide)) aE)) X (aa bs ax) (ah (aR aO (by decide)) aE)) Y (aa a1 ax) aP rfl),(aC.blk aU (aa bw (b7 (aD (ai bA) lr hJ.ho) (aa bv ax))) hJ.hS),(aS Y U cy),(av (av aL X (fun x hx=>(aa (fun e=>(aD (ai ap) lr aL) (e▸hx)) ax)) (bo.upd16 X (ah (aR aO (by decide)) aE))) Y (fun x hx=>(aa (fun e=>(aD (ai P) lr aL) (e▸hx)) ax)) (bo.updl Y aP rfl)),cA⟩⟩
 rintro _ cB ⟨rfl,dt,bP,bQ,z⟩
 refine⟨_,_,rfl,z.hl,by simp[di],by trivial,fun du bS=>?_⟩
 refine ab z.hC fun aW bT cC=>?_
 have cD:cB.heap[D]? = some (.cells #[vB 20,vB 0,vW 0,vW 0,vW 0,vW 0,vW 0,vW 0,vW 0,vW 0,vW 0,vW 0,nS,nS,nS,.slice bP ((aM bH (ag.mk (x49.bytesR ((ag.mk b false 0).byteV)) false 0).l.length 0 (ag.mk (x49.bytesR ((ag.mk b false 0).byteV)) false 0) []).2.length) bQ,vB 0,vB 0,vB 0,vB 0,vB 0,nS] 45 (0,0)):=z.hm
 refine bn<|tn<|al 2<|?_
 have a3:=ae.updl cC bS (aa a1 ax) z.hl rfl
 refine aq<|mq (c4 a3)<|?_
 have dv:=ae.len a3
 refine Pl 2<|aq<|mq (c4 a3)<|?_
 have dw:=ae.len a3
 refine aq<|m1 (gk (e:=aW.e)) fun dx cE=>?_
 have a4:=aQ bS cE
 have bU:=u1 z.u a4 im
 have bV:=ud ad (uz g (u1 h i im)) K
 have bX:=ae.upd cl (ut (aC.mono (S':=[J]) bh aA) (ut (aC.mono (S':=[S,J,D]) a2 aA) bU (ac im (ac im (ac im (ac (ni j.size H) aA))))) (ac (nr af) (ac im (ac (ni o.size N) aA)))) (aa (Ne.symm (nb (ai B) Z.size K)) ax) (ah (aR (ub (aQ Z bV) B) (by decide)) aE)
 refine aq<|m2 (aZ ((aW.e==0)) (bg aW.e) bX) fun dz cF aX=>?_
 refine ab cF fun bY bZ c1=>?_
 refine aK 1<|aq<|m2 (dA c1) fun dB c2 aY=>nt<|sq<|al 1<|aq<|mq (c4 c2)<|?_
 have dE:=ae.len c2
 refine Pl 1<|cJ 2<|?_
 have c3:=u1 aX aY im
 have b0:=u1 (aC.mono (S':=[S,J,D,T,a9]) bU (ac im (ac im (ac im (ac im aA))))) c3 im
 have b1:=ut (aC.mono (S':=[J]) bz aA) b0 (ac (ni bV.size af) (ac im (ac (ni (le (le (le (le (le q.size k.size) g.size) h.size) i.size) o.size) N) (ac (ni (le (le (le (le (le (le (le (le q.size k.size) g.size) h.size) i.size) o.size) p.size) d.size) j.size) H) (ac (nr K) aA)))))
 have c5:=ud ba b1 (le I.size a7)
 have hs:aj b9 1 20 b=bj (b6.mk 20 0 0 0 0 0 0 0 0 0 0 0 [] [] [] (aM bH (ag.mk ((((ag.mk b false 0).bytesC 1).need (fD ((ag.mk b false 0).byteV)) 5).bytesR ((ag.mk b false 0).byteV)) false 0).l.length 0 (ag.mk ((((ag.mk b false 0).bytesC 1).need (fD ((ag.mk b false 0).byteV)) 5).bytesR ((ag.mk b false 0).byteV)) false 0) []).2 0 0 0 0 0 []) (((((ag.mk b false 0).bytesC 1).need (fD ((ag.mk b false 0).byteV)) 5).bytesC ((ag.mk b false 0).byteV)).need (((aM bH (ag.mk ((((ag.mk b false 0).bytesC 1).need (fD ((ag.mk b false 0).byteV)) 5).bytesR ((ag.mk b false 0).byteV)) false 0).l.length 0 (ag.mk ((((ag.mk b false 0).bytesC 1).need (fD ((ag.mk b false 0).byteV)) 5).bytesR ((ag.mk b false 0).byteV)) false 0) []).1).e==0) (bg ((aM bH (ag.mk ((((ag.mk b false 0).bytesC 1).need (fD ((ag.mk b false 0).byteV)) 5).bytesR ((ag.mk b false 0).byteV)) false 0).l.length 0 (ag.mk ((((ag.mk b false 0).bytesC 1).need (fD ((ag.mk b false 0).byteV)) 5).bytesR ((ag.mk b false 0).byteV)) false 0) []).1).e)):=by
   unfold aj b9 dD tF tu kD
   (try simp only[bp,cQ,cN,cR,cP,cO,reduceIte,qO,pF,rb])
   all_goals rfl
 refine cb ((bY.endC.e != 0)) (fun b2=>?_) (fun b2=>?_)
 have b3:=ay b2
 refine al 2<|?_
 refine aB (ub (ud a8 b1 a7) Q) mZ fun dF cG c8=>am 1<|bq<|?_
 have c9:=nb (ai Q) (le (le (le (le (le (le (le (le (le (le (le E.size t.size) r.size) q.size) k.size) g.size) h.size) i.size) o.size) p.size) d.size) j.size) v
 refine tQ (aC.blk (u1 (aC.mono (S':=[S,J,D,T,a9,b4]) b0 (ac im (ac im (ac im (ac im (ac im aA)))))) c8 im) (aa (Ne.symm (nb (ae.lt G) (le (le p.size d.size) j.size) v)) (aa (Ne.symm (nb (ai B) (le (le (le (le (le (le (le (le (le (le t.size r.size) q.size) k.size) g.size) h.size) i.size) o.size) p.size) d.size) j.size) v)) (aa (Ne.symm (nb (ai O) (le d.size j.size) v)) (aa br (aa (Ne.symm (nb (ae.lt M) (le (le (le (le (le (le (le k.size g.size) h.size) i.size) o.size) p.size) d.size) j.size) v)) (aa (Ne.symm c9) ax)))))) ao) fun dG ca=>?_
 refine rx (aS ca c9 cG) (vI bY.endC.e)<|?_
 subst bZ bT bf bc
 rw[hs]
 exact cz b3 (ut c5 (us c8 ca) (ac (nr b5) (ac (ni (le (le (le (le (le (le (le (le (le (le (le (le I.size E.size) t.size) r.size) q.size) k.size) g.size) h.size) i.size) o.size) p.size) d.size) j.size) v) aA)))
 have b3:=aI b2
 refine bu<|sg<|?_
 refine L0<|cM (aC.blk (us a4 c3) (aa U (aa (Ne.symm (nb (ae.lt M) (le (le (le (le k.size g.size) h.size) i.size) o.size) N)) ax)) cD)<|?_
 have cc:=ub (ud a8 b1 a7) Q
 refine aB cc (mG 20 0 0 0 0 0 0 0 0 0 0 0 nS nS nS (.slice bP ((aM bH (ag.mk (x49.bytesR ((ag.mk b false 0).byteV)) false 0).l.length 0 (ag.mk (x49.bytesR ((ag.mk b false 0).byteV)) false 0) []).2.length) bQ) 0 0 0 0 0 nS) fun dH cH a5=>am 1<|rt<|?_
 have cd:=nb (ai Q) (le (le (le (le (le (le (le (le (le (le (le E.size t.size) r.size) q.size) k.size) g.size) h.size) i.size) o.size) p.size) d.size) j.size) v
 have ce:=aC.blk (u1 (aC.mono (S':=[S,J,D,T,a9,b4]) b0 (ac im (ac im (ac im (ac im (ac im aA)))))) a5 im) (aa (Ne.symm (nb (ae.lt G) (le (le p.size d.size) j.size) v)) (aa (Ne.symm (nb (ai B) (le (le (le (le (le (le (le (le (le (le t.size r.size) q.size) k.size) g.size) h.size) i.size) o.size) p.size) d.size) j.size) v)) (aa (Ne.symm (nb (ai O) (le d.size j.size) v)) (aa br (aa (Ne.symm (nb (ae.lt M) (le (le (le (le (le (le (le k.size g.size) h.size) i.size) o.size) p.size) d.size) j.size) v)) (aa (Ne.symm cd) ax)))))) ao
 refine tQ ce fun dI a6=>?_
 refine rx (aS a6 cd cH) (vI 0)<|?_
 subst bZ bT bf bc
 rw[hs]
 exact cW b3 ⟨_,_,_,_,_,rfl,aG.nil ..,aG.nil ..,aG.nil ..,(aG.hi_le (aT.hi (av (av (av (av (av z.ho a4 (fun x hx=>(aa (fun e=>(aD (ai P) lr z.ho) (e▸hx)) ax)) (bo.updl a4 z.hl rfl)) aX (fun x hx=>(aa (fun e=>(aD (ae.lt M) (le (le (le (le (le (le (le (le k.size g.size) h.size) i.size) o.size) p.size) d.size) j.size) F.size) z.ho) (e▸hx)) ax)) (bo.upd16 aX (ah (ae.safe bX _ (by decide)) aE))) aY (fun x hx=>(aa (fun e=>(aD (ae.lt M) (le (le (le (le (le (le (le (le k.size g.size) h.size) i.size) o.size) p.size) d.size) j.size) F.size) z.ho) (e▸hx)) ax)) (bo.upd16 aY (ah (ae.safe c1 _ (by decide)) aE))) a5 (fun x hx=>(aa (fun e=>(aD (ai Q) (le (le (le (le (le (le (le (le (le (le (le (le E.size t.size) r.size) q.size) k.size) g.size) h.size) i.size) o.size) p.size) d.size) j.size) F.size) z.ho) (e▸hx)) ax)) (bo.upd16 a5 (ah (aR cc (by decide)) aE))) a6 (fun x hx=>(aa (fun e=>(aD (ai ao) lr z.ho) (e▸hx)) ax)) (bo.updl a6 ce rfl)) lr) (le (le (le (le (le (le (le (le (le (le (le (le (le I.size E.size) t.size) r.size) q.size) k.size) g.size) h.size) i.size) o.size) p.size) d.size) j.size) F.size) (bo.lo (le (le (le (le (le (le (le (le (le (le (le (le (le I.size E.size) t.size) r.size) q.size) k.size) g.size) h.size) i.size) o.size) p.size) d.size) j.size) F.size))),aG.nil ..,(bR (by omega))⟩ (ut c5 (us a5 a6) (ac (nr b5) (ac (ni (le (le (le (le (le (le (le (le (le (le (le (le I.size E.size) t.size) r.size) q.size) k.size) g.size) h.size) i.size) o.size) p.size) d.size) j.size) v) aA)))
theorem jS(hd:dir=0∨dir=1)(hsl:aV m w (.slice A b.length cp) b)(hb:b.length≤1048576) :
    Calls Tryz.prog 102 #[vI dir,vB 21,.slice A b.length cp] w (dy (aj b9 dir 21 b) w):=by
 have hln:(b.length:Int)≤1048576:=by omega
 have b5:((dir != 0)&&(dir != 1))=false:=by rcases hd with rfl | rfl<;>rfl
 refine tM 77 Tryz.func102 rfl<|sg<|aJ mZ fun b8 cV ba S I=>am 1<|sq<|al 3<|dc 3 [18] 21 18 (dir != 0) (dir != 1) (fun K ci cj=>?_) ?_
 have cZ:=ay cj
 exact Pl 3<|ce ci _ rfl
 refine nt<|cf b5<|bu<|al 2<|aq (args:=#[vI dir,vB 21])<|e3 rA fun J d0 a8 B E=>Pl 3<|aJ #[.nilFunc,.nilFunc] fun d1 d2 ck bb t=>aB bb #[.func (.func 218) #[] #[],.func (.func 219) #[] #[]] fun d3 cl r=>Pl 1<|nl<|tn<|sq<|az 2<|c0<|bu<|al 1<|?_
 have a0:=ud t r ck
 have a9:=aQ E a0
 have bc:=aQ I a9
 refine aq<|e3 (d8 (aV.old hsl bc) (by omega)) fun ad d4 M N q=>Pl 1<|aK 1<|aq<|m3 (bD N) fun d5 cm k d6=>bt ((ag.mk b false 0).byteV)<|Pl 1<|aK 2<|?_
 have af:=ud q k M
 have bd:=ub af cl
 refine aF bd 0<|Pl 1<|L0<|fV #[] #[] (args:=#[vI ((ag.mk b false 0).byteV)])<|m1 (nn (n:=(ag.mk b false 0).byteV) (by omega)) fun d7 g=>?_
 refine aq<|m2 (aZ ((fB ((ag.mk b false 0).byteV))) 5 (ae.old cm g)) fun d9 cn h=>?_
 refine ab cn fun x51 bf bh=>?_
 refine aK 2<|aq<|oZ (bN (n:=(ag.mk b false 0).byteV) bh) fun da db dd co de df cq i=>?_
 have dg:=Nat.le_trans (ag.bytesR_le x51 ((ag.mk b false 0).byteV)) (ae.len bh)
 refine ab cq fun x60 bi cs=>?_
 refine aq<|e3 (d8 co (by omega)) fun T dh ak G o=>Pl 1<|aK 2<|aJ mZ fun D dj O P p=>aB P (mC 21) fun dk ct d=>nt<|sq<|al 2<|?_
 have a1:=ud p d O
 have bl:=aQ o a1
 have bm:=uz g (u1 h (aQ i bl) im)
 refine aF (aS bm (nb (ai bb) r.size M) bd) 1<|aq<|tf (iV (gb:=T) (f:=.func 219) (x:=#[]) (y:=#[])) fun cu cv dl an ao dm br bs j=>nt<|bk<|mK (f:=220) #[vP cu 0,vP cv 0] fun a ha=>?_
 intro dn dp U cw v H bv ap Q F
 have bw:=nb (ae.lt G) lr O
 have a2:=nb (ae.lt G) (le (le p.size d.size) j.size) H
 have bx:=nb (ai B) (le (le (le (le (le (le (le t.size r.size) q.size) k.size) g.size) h.size) i.size) o.size) O
 have bz:=nb (ai B) (le (le (le (le (le (le (le (le (le (le t.size r.size) q.size) k.size) g.size) h.size) i.size) o.size) p.size) d.size) j.size) H
 have V:=nb (ai P) (le d.size j.size) H
 have a3:=aQ j F
 have bA:=ae.old G (aQ a1 a3)
 have bB:=ud af (aQ bm a3) M
 have bC:=ub (aQ a0 bB) B
 have ar:=ub a3 ct
 refine(tk (c:=21) bA bC ar Q (ub F br) (ub F bs) (Ne.symm (nb (ai B) (le (le (le (le (le (le t.size r.size) q.size) k.size) g.size) h.size) i.size) ak)) bw a2 bx bz V (Ne.symm (nb (ae.lt G) a1.size an)) (Ne.symm (nb (ai B) (le (le (le (le (le (le (le (le (le t.size r.size) q.size) k.size) g.size) h.size) i.size) o.size) p.size) d.size) an)) (Ne.symm (nb (ai P) d.size an)) (nb (ai br) lr H) (Ne.symm (nb (ae.lt G) a1.size ao)) (Ne.symm (nb (ai B) (le (le (le (le (le (le (le (le (le t.size r.size) q.size) k.size) g.size) h.size) i.size) o.size) p.size) d.size) ao)) (Ne.symm (nb (ai P) d.size ao)) (nb (ai bs) lr H) ?_).mono ?_
 intro W C s L Ar cr x Ax cx hJ hrd hx1 hx2 hx3 hL
 simp only[dC] at hx1 hx2 hx3
 have hm2:W.heap[D]? = some (.cells #[vB 21,vB 0,vW 0,vW 0,vW 0,vW 0,vW 0,vW 0,vW 0,vW 0,vW 0,vW 0,nS,nS,nS,.slice Ar L.length cr,vB 0,vB 0,vB 0,vB 0,vB 0,nS] 45 (0,0)):=hJ.hm
 refine iU hJ.hl ?_
 refine vk ha 53<|tN<|jN<|tS #[vW 0,vW 0,vW 0,nS] fun dq dr bF cA bG=>jN<|iW cA #[vW x.file,vW x.record,vW x.count,.slice Ax x.words.length cx] fun ds cB bH=>pu<|?_
 have bI:=ud bG bH bF
 refine vp (ub bI hJ.hl) (by trivial) fun dt cC au=>vF<|tN<|tP<|?_
 have bJ:=uz bI au
 have bL:=aS bJ V hm2
 refine jN<|cY bL 15<|?_
 refine jN<|cM (aS au (Ne.symm (nb (ai Q) hJ.u.size bF)) cB)<|jN<|gv (m:=1) (e:=98) #[vW x.file,vW x.record,vW x.count,.slice Ax x.words.length cx] fun du dv dw cD aw=>?_
 have X:=aQ bJ aw
 have cE:=ip (R:=bo (.hi cw.heap.size)) (x:=(cX.mk x.file x.record x.count x.words)) cD rfl ⟨_,rfl,(ej.updl hrd X hJ.hl rfl),c6 (x:=x.file) (by omega),c6 (x:=x.record) (by omega),c6 (x:=x.count) (by omega)⟩
 have aL:=av hJ.ho X (fun x hx=>(aa (fun e=>(aD (ai Q) lr hJ.ho) (e▸hx)) ax)) (bo.updl X hJ.hl rfl)
 refine jN<|fl (xs:=L) (ys:=([(cX.mk x.file x.record x.count x.words)])) (.agg #[vW 0,vW 0,vW 0,nS]) 4 32 aL cE (by simp) bo.ones (fun w' hv=>bo.upd16 hv (bK (bW _ aL (by decide)) aE)) (by(try simp only[ef,be]);omega) (le (le (le (le hJ.u.size bG.size) bH.size) au.size) aw.size) fun bM bO dx aN aO=>tP<|?_
 have bP:=ut (aC.mono (S':=(ob Ar++[])) aw aA) aO (aH il aA)
 have aP:=aC.blk bP (b7 (aD (ai ar) lr hJ.ho) ax) bL
 refine jN<|bE aP 15 (mG 21 0 0 0 0 0 0 0 0 0 0 0 nS nS nS (.slice bM ((L++[(cX.mk x.file x.record x.count x.words)]).length) bO) 0 0 0 0 0 nS) fun dz cF Y=>pu<|bn<|?_
 have aU:=aC.blk (u1 (aC.mono (S':=(ob Ar++(D :: []))) bP (aH il aA)) Y im) (b7 (aD (ai Q) lr hJ.ho) (aa (Ne.symm V) ax)) cC
 refine vC aU fun dB cG Z=>?_
 have aW:=ut (aC.mono (S':=(U :: (ob Ar++(D :: [])))) X (ac im aA)) (ut (aC.mono (S':=(ob Ar++(D :: (U :: [])))) aO (aH il aA)) (us Y Z) (ac im (ac im aA))) (aH il (ac im (ac im aA)))
 exact⟨by trivial,aW.size,bM,bO,⟨(ut hJ.u aW (ac im (aH (c7 hJ.ho lr) (ac im aA)))),(ae.updl (ae.upd (ae.upd (ae.updl hJ.hC X (aa a2 ax) hJ.hl rfl) aO (b7 (aD (ae.lt bA) lr hJ.ho) ax) (bK (bW _ aL (by decide)) aE)) Y (aa bw ax) (ah (aR aP (by decide)) aE)) Z (aa a2 ax) aU rfl),(aC.blk aW (aa bz (b7 (aD (ai bC) lr hJ.ho) (aa bx ax))) hJ.hS),(aS Z V cF),(av (av aN Y (fun x hx=>(aa (fun e=>(aD (ai ar) lr aN) (e▸hx)) ax)) (bo.upd16 Y (ah (aR aP (by decide)) aE))) Z (fun x hx=>(aa (fun e=>(aD (ai Q) lr aN) (e▸hx)) ax)) (bo.updl Z aU rfl)),cG⟩⟩
 rintro _ cH ⟨rfl,dE,bQ,bS,z⟩
 refine⟨_,_,rfl,z.hl,by simp[di],by trivial,fun dF bT=>?_⟩
 refine ab z.hC fun aX bU cI=>?_
 have cK:cH.heap[D]? = some (.cells #[vB 21,vB 0,vW 0,vW 0,vW 0,vW 0,vW 0,vW 0,vW 0,vW 0,vW 0,vW 0,nS,nS,nS,.slice bQ ((aM cy (ag.mk (x51.bytesR ((ag.mk b false 0).byteV)) false 0).l.length 0 (ag.mk (x51.bytesR ((ag.mk b false 0).byteV)) false 0) []).2.length) bS,vB 0,vB 0,vB 0,vB 0,vB 0,nS] 45 (0,0)):=z.hm
 refine bn<|tn<|al 2<|?_
 have a4:=ae.updl cI bT (aa a2 ax) z.hl rfl
 refine aq<|mq (c4 a4)<|?_
 have dG:=ae.len a4
 refine Pl 2<|aq<|mq (c4 a4)<|?_
 have dH:=ae.len a4
 refine aq<|m1 (gk (e:=aX.e)) fun dI cL=>?_
 have a5:=aQ bT cL
 have bV:=u1 z.u a5 im
 have bX:=ud af (uz g (u1 h i im)) M
 have bY:=ae.upd cs (ut (aC.mono (S':=[J]) bl aA) (ut (aC.mono (S':=[T,J,D]) a3 aA) bV (ac im (ac im (ac im (ac (ni j.size H) aA))))) (ac (nr ak) (ac im (ac (ni o.size O) aA)))) (aa (Ne.symm (nb (ai B) a0.size M)) ax) (ah (aR (ub (aQ a0 bX) B) (by decide)) aE)
 refine aq<|m2 (aZ ((aX.e==0)) (bg aX.e) bY) fun dJ cS aY=>?_
 refine ab cS fun bZ c1 c2=>?_
 refine aK 1<|aq<|m2 (dA c2) fun dK c3 b0=>nt<|sq<|al 1<|aq<|mq (c4 c3)<|?_
 have dL:=ae.len c3
 refine Pl 1<|cJ 2<|?_
 have c5:=u1 aY b0 im
 have b1:=u1 (aC.mono (S':=[T,J,D,U,ad]) bV (ac im (ac im (ac im (ac im aA))))) c5 im
 have b2:=ut (aC.mono (S':=[J]) bB aA) b1 (ac (ni bX.size ak) (ac im (ac (ni (le (le (le (le (le q.size k.size) g.size) h.size) i.size) o.size) O) (ac (ni (le (le (le (le (le (le (le (le q.size k.size) g.size) h.size) i.size) o.size) p.size) d.size) j.size) H) (ac (nr M) aA)))))
 have c8:=ud bc b2 (le I.size a8)
 have hs:aj b9 dir 21 b=bj (b6.mk 21 0 0 0 0 0 0 0 0 0 0 0 [] [] [] (aM cy (ag.mk ((((ag.mk b false 0).bytesC 1).need (fB ((ag.mk b false 0).byteV)) 5).bytesR ((ag.mk b false 0).byteV)) false 0).l.length 0 (ag.mk ((((ag.mk b false 0).bytesC 1).need (fB ((ag.mk b false 0).byteV)) 5).bytesR ((ag.mk b false 0).byteV)) false 0) []).2 0 0 0 0 0 []) (((((ag.mk b false 0).bytesC 1).need (fB ((ag.mk b false 0).byteV)) 5).bytesC ((ag.mk b false 0).byteV)).need (((aM cy (ag.mk ((((ag.mk b false 0).bytesC 1).need (fB ((ag.mk b false 0).byteV)) 5).bytesR ((ag.mk b false 0).byteV)) false 0).l.length 0 (ag.mk ((((ag.mk b false 0).bytesC 1).need (fB ((ag.mk b false 0).byteV)) 5).bytesR ((ag.mk b false 0).byteV)) false 0) []).1).e==0) (bg ((aM cy (ag.mk ((((ag.mk b false 0).bytesC 1).need (fB ((ag.mk b false 0).byteV)) 5).bytesR ((ag.mk b false 0).byteV)) false 0).l.length 0 (ag.mk ((((ag.mk b false 0).bytesC 1).need (fB ((ag.mk b false 0).byteV)) 5).bytesR ((ag.mk b false 0).byteV)) false 0) []).1).e)):=by
   unfold aj b9 dD tF tu kD
   (try simp only[b5,bp,cQ,cN,cR,cP,cO,reduceIte,qO,pF,rb,if_pos hd])
   all_goals rfl
 refine cb ((bZ.endC.e != 0)) (fun b3=>?_) (fun b3=>?_)
 have b4:=ay b3
 refine al 2<|?_
 refine aB (ub (ud a9 b2 a8) S) mZ fun dM cT c9=>am 1<|bq<|?_
 have ca:=nb (ai S) (le (le (le (le (le (le (le (le (le (le (le E.size t.size) r.size) q.size) k.size) g.size) h.size) i.size) o.size) p.size) d.size) j.size) v
 refine tQ (aC.blk (u1 (aC.mono (S':=[T,J,D,U,ad,b8]) b1 (ac im (ac im (ac im (ac im (ac im aA)))))) c9 im) (aa (Ne.symm (nb (ae.lt G) (le (le p.size d.size) j.size) v)) (aa (Ne.symm (nb (ai B) (le (le (le (le (le (le (le (le (le (le t.size r.size) q.size) k.size) g.size) h.size) i.size) o.size) p.size) d.size) j.size) v)) (aa (Ne.symm (nb (ai P) (le d.size j.size) v)) (aa bv (aa (Ne.symm (nb (ae.lt N) (le (le (le (le (le (le (le k.size g.size) h.size) i.size) o.size) p.size) d.size) j.size) v)) (aa (Ne.symm ca) ax)))))) ap) fun dN cc=>?_
 refine rx (aS cc ca cT) (vI bZ.endC.e)<|?_
 subst c1 bU bi bf
 rw[hs]
 exact cz b4 (ut c8 (us c9 cc) (ac (nr ba) (ac (ni (le (le (le (le (le (le (le (le (le (le (le (le I.size E.size) t.size) r.size) q.size) k.size) g.size) h.size) i.size) o.size) p.size) d.size) j.size) v) aA)))
 have b4:=aI b3
 refine bu<|sg<|?_
 refine L0<|cM (aC.blk (us a5 c5) (aa V (aa (Ne.symm (nb (ae.lt N) (le (le (le (le k.size g.size) h.size) i.size) o.size) O)) ax)) cK)<|?_
 have cd:=ub (ud a9 b2 a8) S
 refine aB cd (mG 21 0 0 0 0 0 0 0 0 0 0 0 nS nS nS (.slice bQ ((aM cy (ag.mk (x51.bytesR ((ag.mk b false 0).byteV)) false 0).l.length 0 (ag.mk (x51.bytesR ((ag.mk b false 0).byteV)) false 0) []).2.length) bS) 0 0 0 0 0 nS) fun dO cU a6=>am 1<|rt<|?_
 have cg:=nb (ai S) (le (le (le (le (le (le (le (le (le (le (le E.size t.size) r.size) q.size) k.size) g.size) h.size) i.size) o.size) p.size) d.size) j.size) v
 have ch:=aC.blk (u1 (aC.mono (S':=[T,J,D,U,ad,b8]) b1 (ac im (ac im (ac im (ac im (ac im aA)))))) a6 im) (aa (Ne.symm (nb (ae.lt G) (le (le p.size d.size) j.size) v)) (aa (Ne.symm (nb (ai B) (le (le (le (le (le (le (le (le (le (le t.size r.size) q.size) k.size) g.size) h.size) i.size) o.size) p.size) d.size) j.size) v)) (aa (Ne.symm (nb (ai P) (le d.size j.size) v)) (aa bv (aa (Ne.symm (nb (ae.lt N) (le (le (le (le (le (le (le k.size g.size) h.size) i.size) o.size) p.size) d.size) j.size) v)) (aa (Ne.symm cg) ax)))))) ap
 refine tQ ch fun dP a7=>?_
 refine rx (aS a7 cg cU) (vI 0)<|?_
 subst c1 bU bi bf
 rw[hs]
 exact cW b4 ⟨_,_,_,_,_,rfl,aG.nil ..,aG.nil ..,aG.nil ..,(aG.hi_le (aT.hi (av (av (av (av (av z.ho a5 (fun x hx=>(aa (fun e=>(aD (ai Q) lr z.ho) (e▸hx)) ax)) (bo.updl a5 z.hl rfl)) aY (fun x hx=>(aa (fun e=>(aD (ae.lt N) (le (le (le (le (le (le (le (le k.size g.size) h.size) i.size) o.size) p.size) d.size) j.size) F.size) z.ho) (e▸hx)) ax)) (bo.upd16 aY (ah (ae.safe bY _ (by decide)) aE))) b0 (fun x hx=>(aa (fun e=>(aD (ae.lt N) (le (le (le (le (le (le (le (le k.size g.size) h.size) i.size) o.size) p.size) d.size) j.size) F.size) z.ho) (e▸hx)) ax)) (bo.upd16 b0 (ah (ae.safe c2 _ (by decide)) aE))) a6 (fun x hx=>(aa (fun e=>(aD (ai S) (le (le (le (le (le (le (le (le (le (le (le (le E.size t.size) r.size) q.size) k.size) g.size) h.size) i.size) o.size) p.size) d.size) j.size) F.size) z.ho) (e▸hx)) ax)) (bo.upd16 a6 (ah (aR cd (by decide)) aE))) a7 (fun x hx=>(aa (fun e=>(aD (ai ap) lr z.ho) (e▸hx)) ax)) (bo.updl a7 ch rfl)) lr) (le (le (le (le (le (le (le (le (le (le (le (le (le I.size E.size) t.size) r.size) q.size) k.size) g.size) h.size) i.size) o.size) p.size) d.size) j.size) F.size) (bo.lo (le (le (le (le (le (le (le (le (le (le (le (le (le I.size E.size) t.size) r.size) q.size) k.size) g.size) h.size) i.size) o.size) p.size) d.size) j.size) F.size))),aG.nil ..,(bR (by omega))⟩ (ut c8 (us a6 a7) (ac (nr ba) (ac (ni (le (le (le (le (le (le (le (le (le (le (le (le I.size E.size) t.size) r.size) q.size) k.size) g.size) h.size) i.size) o.size) p.size) d.size) j.size) v) aA)))
theorem oA{c:Int}(n1:(c==20)=false)(n2:(c==21)=false) : Calls Tryz.prog 102 #[vI 0,vB c,.slice A b.length cp] w (dy (aj b9 0 c b) w):=by
 refine tM 77 Tryz.func102 rfl<|sg<|aJ mZ fun n o d e f=>am 1<|sq<|az 6<|c0<|bu<|al 2<|aq (args:=#[vI 0,vB c])<|m1 (lR (dir:=0) (x:=c) n1 n2) fun p g=>Pl 3<|aJ #[.nilFunc,.nilFunc] fun q r h i j=>aB i #[.nilFunc,.nilFunc] fun s t k=>am 1<|sq<|sq<|go<|am 2<|c1<|al 1<|?_
 have a:=aQ g (ud j k h)
 refine aB (ub a e) mZ fun u l m=>am 1<|bq<|ry l (vI 4)<|?_
 exact cZ (by unfold aj b9;(try simp only[bp,cQ,cN,cR,cP,cO,reduceIte,n1,n2])<;>rfl) (bT (ud f (uz a m) d))
theorem oH{c:Int}(n1:(c==20)=false)(n2:(c==21)=false) : Calls Tryz.prog 102 #[vI 1,vB c,.slice A b.length cp] w (dy (aj b9 1 c b) w):=by
 refine tM 77 Tryz.func102 rfl<|sg<|aJ mZ fun n o d e f=>am 1<|sq<|az 6<|c0<|bu<|al 2<|aq (args:=#[vI 1,vB c])<|m1 (lR (dir:=1) (x:=c) n1 n2) fun p g=>Pl 3<|aJ #[.nilFunc,.nilFunc] fun q r h i j=>aB i #[.nilFunc,.nilFunc] fun s t k=>am 1<|sq<|sq<|go<|am 2<|c1<|al 1<|?_
 have a:=aQ g (ud j k h)
 refine aB (ub a e) mZ fun u l m=>am 1<|bq<|ry l (vI 4)<|?_
 exact cZ (by unfold aj b9;(try simp only[bp,cQ,cN,cR,cP,cO,reduceIte,n1,n2])<;>rfl) (bT (ud f (uz a m) d))
theorem p4{c:Int}(hd:¬ (dir=0∨dir=1)) : Calls Tryz.prog 102 #[vI dir,vB c,.slice A b.length cp] w (dy (aj b9 dir c b) w):=by
 have e0:(dir != 0)=true:=by simp;omega
 have e1:(dir != 1)=true:=by simp;omega
 refine tM 77 Tryz.func102 rfl<|sg<|aJ mZ fun g h a d e=>am 1<|sq<|al 3<|sy 18 e0<|Pl 3<|nl<|tn<|ct e1<|al 1<|aB d mZ fun i dC f=>am 1<|bq<|ry dC (vI 1)<|?_
 exact cZ (by unfold aj b9;(try simp only[e0,e1,bp,cQ,cN,cR,cP,cO,reduceIte,hd])<;>rfl) (bT (ud e f a))
variable {v:Value}
theorem m0{c:Int}(hc:B8 c)(h:aV m w v b)(hb:b.length≤1048576) :
    Calls Tryz.prog 102 #[.int .i64 dir,.int .u8 c,v] w (dy (aj b9 dir c b) w):=by
  obtain⟨A,cp,rfl,_,_⟩:=h.shape
  by_cases h0:dir=0
  · subst h0
    by_cases a:c=20
    · subst a;exact lu (Or.inl (rfl:(0:Int)=0)) h hb
    by_cases d:c=21
    · subst d;exact jS (Or.inl rfl) h hb
    exact oA (by simpa using a) (by simpa using d)
  by_cases h1:dir=1
  · subst h1
    by_cases a:c=20
    · subst a;exact lQ (Or.inl (rfl:(0:Int)=0)) h hb
    by_cases d:c=21
    · subst d;exact jS (Or.inr rfl) h hb
    exact oH (by simpa using a) (by simpa using d)
  exact p4 (by omega)
open Go.RowKit
open Go.RowKit
open Go.RowKit
open Go.RowKit
open Go.RowKit
open Go.RowKit
open Go.RowKit
open Go.RowKit
open Go.RowKit
def it:Nat→Int→List Int→b6 × Int
  | 1,dir,b=>aj aN dir (b.getD 0 0) (b.drop 1)
  | 2,dir,b=>aj aY dir (b.getD 0 0) (b.drop 1)
  | 3,dir,b=>aj bh dir (b.getD 0 0) (b.drop 1)
  | 4,dir,b=>aj b9 dir (b.getD 0 0) (b.drop 1)
  | 5,dir,b=>aj bY dir (b.getD 0 0) (b.drop 1)
  | _,_,_=>(b6.zero,4)
def ep (dir:Int)(b:List Int) : b6 × Int :=
  if dir != 0&&dir != 1 then (b6.zero,1)
  else if (b.length:Int)==0 then (b6.zero,2)
  else if decide (253<(b.length:Int)) then (b6.zero,3)
  else if decide (128≤b.getD 0 0)&&dir==1 then fw b
  else it (ju (b.getD 0 0)) dir b
theorem nH(hsl:aV m w (.slice A b.length cp) b)(hb:b.length≤1048576) :
    Calls Tryz.prog 83 #[vI dir,.slice A b.length cp] w (dy (ep dir b) w):=by
 have hln:(b.length:Int)≤1048576:=by omega
 refine en 60 Tryz.func83 rfl<|sg<|aJ mZ fun dm t h d a=>am 1<|sq<|bk<|al 3<|dc 3 [11] 14 11 (dir != 0) (dir != 1) (fun K ca cc=>?_) ?_
 have dn:=ay cc
 exact Pl 3<|ce ca _ rfl
 refine am 1<|cb (((dir != 0)&&(dir != 1))) (fun e=>?_) (fun e=>?_)
 have V:=(aW e).1
 have W:=(aW e).2
 have dp:=ay V
 have dq:=ay W
 refine al 1<|aB d mZ fun dr cd cf=>am 1<|rt<|br<|tr<|c9 cd (vI 1)<|?_
 exact cZ (by unfold ep;(try simp only[e,V,W,bp,it,reduceIte])<;>rfl) (bT (ud a cf h))
 refine az 4<|cb (((b.length:Int)==0)) (fun f=>?_) (fun f=>?_)
 have cg:=ap f
 refine al 1<|aB d mZ fun ds ch ci=>am 1<|rt<|br<|tr<|c9 ch (vI 2)<|?_
 exact cZ (by unfold ep;(try simp only[e,f,bp,it,reduceIte])<;>rfl) (bT (ud a ci h))
 have cg:=au f
 refine az 4<|cb ((decide (253<(b.length:Int)))) (fun g=>?_) (fun g=>?_)
 have cj:=of_decide_eq_true g
 refine al 1<|aB d mZ fun dt ck cl=>am 1<|rt<|br<|tr<|c9 ck (vI 3)<|?_
 exact cZ (by unfold ep;(try simp only[e,f,g,bp,it,reduceIte])<;>rfl) (bT (ud a cl h))
 have cj:=of_decide_eq_false g
 refine al 1<|?_
 have s:=aV.old hsl a
 refine eH (aV.at_ s 0 (by omega)) fun X Y Z a0 du=>L0<|ia b.length 0 Z (by omega)<|L0<|er (p:=⟨X,Y+0,none⟩) (v:=vB (b.getD 0 0)) a0<|Pl 2<|dc 3 [31] 34 31 (decide (128≤(b.getD 0 0))) (dir==1) (fun K cm cn=>?_) ?_
 have dv:=of_decide_eq_true cn
 exact Pl 3<|ce cm _ rfl
 refine am 1<|cb (((decide (128≤(b.getD 0 0)))&&(dir==1))) (fun i=>?_) (fun i=>?_)
 have a1:=(aW i).1
 have a2:=(aW i).2
 have dw:=of_decide_eq_true a1
 have dx:=ap a2
 refine al 1<|aq<|e2 (oT s (by omega)) fun co dz u a3=>Pl 2<|?_
 have a4:=ub a3 d
 refine aB (hz:=(by rw[u.size];exact aX)) (hv:=u.size) (h1:=u.one) a4 (co) fun dA cq a5=>am 1<|rt<|br<|tr<|dW 22 u.size cq (vI (((fw b)).2))<|?_
 exact cZ (by unfold ep;(try simp only[e,f,g,i,a1,a2,bp,it,reduceIte])<;>rfl) ⟨_,rfl,(aU.lo (aU.upd u a5 (ah (aR a4 (by decide)) aE)) a.size),(ud a (uz a3 a5) h)⟩
 refine sk<|bn<|tn<|al 1<|L0<|ia b.length 0 Z (by omega)<|L0<|er (p:=⟨X,Y+0,none⟩) (v:=vB (b.getD 0 0)) a0<|?_
 rcases gX (b.getD 0 0) with⟨hk,hkf⟩|⟨hk,hkf⟩|⟨hk,hkf⟩|⟨hk,hkf⟩|⟨hk,hkf⟩|⟨hk,hkf⟩
 have a6:=gV (x:=(b.getD 0 0)) (w:=t)
 rw[hkf] at a6
 refine aq<|m1 a6 fun dB J=>Pl 3<|aJ #[.nilFunc,.nilFunc] fun cr dC a7 cs a8=>aB cs #[.func (.func 96) #[] #[],.func (.func 97) #[] #[]] fun dD ct a9=>am 1<|sq<|az 2<|c0<|bu<|sq<|?_
 have aa:=aQ J (ud a8 a9 a7)
 have ab:=aV.old s aa
 refine eH (aV.at_ ab 0 (by omega)) fun cu cv ac ad dE=>Rg 13 (fun w'=>w'.cell? ⟨cr,0,none⟩=some (.func (.func 96) #[] #[])∧w'.cell? ⟨cu,cv+0,none⟩=some (vB (b.getD 0 0))) fun dF y=>?_
 have ae:=ub y ct
 refine bz ⟨(ak ae rfl),(uc y ad)⟩ fun j=>Rt 0 j<|Rl 1 j (fun _ hs=>hs.1)<|Rt 2 j<|Rt 3 j<|jm 4 j b.length 0 0 rfl ac (by omega)<|Rl 5 j (fun _ hs=>hs.2)<|Rt 6 j<|l2 (cT (P:=Tryz.prog) 27 5 1 Tryz.underlying27 rfl rfl A b.length cp 1 (by omega)) fun af hrun108 cw=>Rr 7 j (.slice af (b.length-1) (cp-1)) (fun _ _=>cH (kl:=.i64) (k:=((1:Nat) : Int)) (A:=A) (n:=b.length) (c:=cp) rfl Tryz.underlying27 (by kernel_rfl) (by kernel_rfl) (hrun108 _ _))<|?_
 refine R0 8 rfl<|fV #[] #[] (args:=#[vI dir,vB (b.getD 0 0),.slice af (b.length-1) (cp-1)])<|e2 (m8 (dir:=dir) (c:=(b.getD 0 0)) (b8 (by omega)) (cw _ _ _ _ _ (aV.old ab y)) (by(try simp only[List.length_drop]);omega)) fun cx dG z ag=>?_
 have an:=ub ag ae
 have ao:=aQ y ag
 refine bz ⟨(ak an rfl),(uc ao ad)⟩ fun ar=>Rt 9 ar<|Rt 10 ar<|?_
 have av:=aQ aa ao
 have aw:=ub av d
 refine R0 11 rfl<|iW (hz:=(by rw[z.size];exact aX)) (hv:=z.size) (h1:=z.one) aw (cx) fun dH cy L=>?_
 have ax:=ud a (uz av L) h
 refine bz ⟨(ak (aS L (Ne.symm (nb (ai d) J.size a7)) an) rfl),(cB (aV.old hsl ax) ac 0 (by omega))⟩ fun cz=>Rt 12 cz<|re<|tn<|rt<|dW 22 z.size cy (vI (((aj aN dir (b.getD 0 0) (b.drop 1))).2))<|?_
 exact cZ (by unfold ep;(try simp only[e,f,g,i,bp,hkf,it,reduceIte])<;>rfl) ⟨_,rfl,(aU.lo (aU.upd z L (ah (aR aw (by decide)) aE)) (le (le (le (le a.size J.size) a8.size) a9.size) y.size)),ax⟩
 have aA:=gV (x:=(b.getD 0 0)) (w:=t)
 rw[hkf] at aA
 refine aq<|m1 aA fun dI M=>Pl 3<|aJ #[.nilFunc,.nilFunc] fun cA dJ aC cC aD=>aB cC #[.func (.func 98) #[] #[],.func (.func 99) #[] #[]] fun dK cD aF=>am 1<|sq<|az 2<|c0<|bu<|sq<|?_
 have aG:=aQ M (ud aD aF aC)
 have aH:=aV.old s aG
 refine eH (aV.at_ aH 0 (by omega)) fun cE cF aI aK dL=>Rg 13 (fun w'=>w'.cell? ⟨cA,0,none⟩=some (.func (.func 98) #[] #[])∧w'.cell? ⟨cE,cF+0,none⟩=some (vB (b.getD 0 0))) fun dM B=>?_
 have aL:=ub B cD
 refine bz ⟨(ak aL rfl),(uc B aK)⟩ fun l=>Rt 0 l<|Rl 1 l (fun _ hs=>hs.1)<|Rt 2 l<|Rt 3 l<|jm 4 l b.length 0 0 rfl aI (by omega)<|Rl 5 l (fun _ hs=>hs.2)<|Rt 6 l<|l2 (cT (P:=Tryz.prog) 27 5 1 Tryz.underlying27 rfl rfl A b.length cp 1 (by omega)) fun aM hrun188 cG=>Rr 7 l (.slice aM (b.length-1) (cp-1)) (fun _ _=>cH (kl:=.i64) (k:=((1:Nat) : Int)) (A:=A) (n:=b.length) (c:=cp) rfl Tryz.underlying27 (by kernel_rfl) (by kernel_rfl) (hrun188 _ _))<|?_
 refine R0 8 rfl<|fV #[] #[] (args:=#[vI dir,vB (b.getD 0 0),.slice aM (b.length-1) (cp-1)])<|e2 (nz (dir:=dir) (c:=(b.getD 0 0)) (b8 (by omega)) (cG _ _ _ _ _ (aV.old aH B)) (by(try simp only[List.length_drop]);omega)) fun cI dN C aO=>?_
 have aP:=ub aO aL
 have aT:=aQ B aO
 refine bz ⟨(ak aP rfl),(uc aT aK)⟩ fun aZ=>Rt 9 aZ<|Rt 10 aZ<|?_
 have b0:=aQ aG aT
 have b1:=ub b0 d
 refine R0 11 rfl<|iW (hz:=(by rw[C.size];exact aX)) (hv:=C.size) (h1:=C.one) b1 (cI) fun dO cJ N=>?_
 have b2:=ud a (uz b0 N) h
 refine bz ⟨(ak (aS N (Ne.symm (nb (ai d) M.size aC)) aP) rfl),(cB (aV.old hsl b2) aI 0 (by omega))⟩ fun cK=>Rt 12 cK<|re<|tn<|rt<|dW 22 C.size cJ (vI (((aj aY dir (b.getD 0 0) (b.drop 1))).2))<|?_
 exact cZ (by unfold ep;(try simp only[e,f,g,i,bp,hkf,it,reduceIte])<;>rfl) ⟨_,rfl,(aU.lo (aU.upd C N (ah (aR b1 (by decide)) aE)) (le (le (le (le a.size M.size) aD.size) aF.size) B.size)),b2⟩
 have b3:=gV (x:=(b.getD 0 0)) (w:=t)
 rw[hkf] at b3
 refine aq<|m1 b3 fun dP O=>Pl 3<|aJ #[.nilFunc,.nilFunc] fun cL dQ b4 cM b5=>aB cM #[.func (.func 100) #[] #[],.func (.func 101) #[] #[]] fun dR cN b6=>am 1<|sq<|az 2<|c0<|bu<|sq<|?_
 have b7:=aQ O (ud b5 b6 b4)
 have ba:=aV.old s b7
 refine eH (aV.at_ ba 0 (by omega)) fun cO cP bb bc dS=>Rg 13 (fun w'=>w'.cell? ⟨cL,0,none⟩=some (.func (.func 100) #[] #[])∧w'.cell? ⟨cO,cP+0,none⟩=some (vB (b.getD 0 0))) fun dT D=>?_
 have bd:=ub D cN
 refine bz ⟨(ak bd rfl),(uc D bc)⟩ fun o=>Rt 0 o<|Rl 1 o (fun _ hs=>hs.1)<|Rt 2 o<|Rt 3 o<|jm 4 o b.length 0 0 rfl bb (by omega)<|Rl 5 o (fun _ hs=>hs.2)<|Rt 6 o<|l2 (cT (P:=Tryz.prog) 27 5 1 Tryz.underlying27 rfl rfl A b.length cp 1 (by omega)) fun be hrun268 cQ=>Rr 7 o (.slice be (b.length-1) (cp-1)) (fun _ _=>cH (kl:=.i64) (k:=((1:Nat) : Int)) (A:=A) (n:=b.length) (c:=cp) rfl Tryz.underlying27 (by kernel_rfl) (by kernel_rfl) (hrun268 _ _))<|?_
 refine R0 8 rfl<|fV #[] #[] (args:=#[vI dir,vB (b.getD 0 0),.slice be (b.length-1) (cp-1)])<|e2 (mS (dir:=dir) (c:=(b.getD 0 0)) (b8 (by omega)) (cQ _ _ _ _ _ (aV.old ba D)) (by(try simp only[List.length_drop]);omega)) fun cR dU E bf=>?_
 have bg:=ub bf bd
 have bi:=aQ D bf
 refine bz ⟨(ak bg rfl),(uc bi bc)⟩ fun bj=>Rt 9 bj<|Rt 10 bj<|?_
 have bl:=aQ b7 bi
 have bm:=ub bl d
 refine R0 11 rfl<|iW (hz:=(by rw[E.size];exact aX)) (hv:=E.size) (h1:=E.one) bm (cR) fun dV cS Q=>?_
 have bo:=ud a (uz bl Q) h
 refine bz ⟨(ak (aS Q (Ne.symm (nb (ai d) O.size b4)) bg) rfl),(cB (aV.old hsl bo) bb 0 (by omega))⟩ fun cU=>Rt 12 cU<|re<|tn<|rt<|dW 22 E.size cS (vI (((aj bh dir (b.getD 0 0) (b.drop 1))).2))<|?_
 exact cZ (by unfold ep;(try simp only[e,f,g,i,bp,hkf,it,reduceIte])<;>rfl) ⟨_,rfl,(aU.lo (aU.upd E Q (ah (aR bm (by decide)) aE)) (le (le (le (le a.size O.size) b5.size) b6.size) D.size)),bo⟩
 have bs:=gV (x:=(b.getD 0 0)) (w:=t)
 rw[hkf] at bs
 refine aq<|m1 bs fun dX R=>Pl 3<|aJ #[.nilFunc,.nilFunc] fun cV dY bt cW bv=>aB cW #[.func (.func 102) #[] #[],.func (.func 103) #[] #[]] fun dZ cX bw=>am 1<|sq<|az 2<|c0<|bu<|sq<|?_
 have bx:=aQ R (ud bv bw bt)
 have bA:=aV.old s bx
 refine eH (aV.at_ bA 0 (by omega)) fun cY d0 bB bC e0=>Rg 13 (fun w'=>w'.cell? ⟨cV,0,none⟩=some (.func (.func 102) #[] #[])∧w'.cell? ⟨cY,d0+0,none⟩=some (vB (b.getD 0 0))) fun e1 F=>?_
 have bD:=ub F cX
 refine bz ⟨(ak bD rfl),(uc F bC)⟩ fun q=>Rt 0 q<|Rl 1 q (fun _ hs=>hs.1)<|Rt 2 q<|Rt 3 q<|jm 4 q b.length 0 0 rfl bB (by omega)<|Rl 5 q (fun _ hs=>hs.2)<|Rt 6 q<|l2 (cT (P:=Tryz.prog) 27 5 1 Tryz.underlying27 rfl rfl A b.length cp 1 (by omega)) fun bE hrun348 d1=>Rr 7 q (.slice bE (b.length-1) (cp-1)) (fun _ _=>cH (kl:=.i64) (k:=((1:Nat) : Int)) (A:=A) (n:=b.length) (c:=cp) rfl Tryz.underlying27 (by kernel_rfl) (by kernel_rfl) (hrun348 _ _))<|?_
 refine R0 8 rfl<|fV #[] #[] (args:=#[vI dir,vB (b.getD 0 0),.slice bE (b.length-1) (cp-1)])<|e2 (m0 (dir:=dir) (c:=(b.getD 0 0)) (b8 (by omega)) (d1 _ _ _ _ _ (aV.old bA F)) (by(try simp only[List.length_drop]);omega)) fun d2 e3 G bF=>?_
 have bG:=ub bF bD
 have bH:=aQ F bF
 refine bz ⟨(ak bG rfl),(uc bH bC)⟩ fun bI=>Rt 9 bI<|Rt 10 bI<|?_
 have bJ:=aQ bx bH
 have bK:=ub bJ d
 refine R0 11 rfl<|iW (hz:=(by rw[G.size];exact aX)) (hv:=G.size) (h1:=G.one) bK (d2) fun e4 d3 S=>?_
 have bL:=ud a (uz bJ S) h
 refine bz ⟨(ak (aS S (Ne.symm (nb (ai d) R.size bt)) bG) rfl),(cB (aV.old hsl bL) bB 0 (by omega))⟩ fun d4=>Rt 12 d4<|re<|tn<|rt<|dW 22 G.size d3 (vI (((aj b9 dir (b.getD 0 0) (b.drop 1))).2))<|?_
 exact cZ (by unfold ep;(try simp only[e,f,g,i,bp,hkf,it,reduceIte])<;>rfl) ⟨_,rfl,(aU.lo (aU.upd G S (ah (aR bK (by decide)) aE)) (le (le (le (le a.size R.size) bv.size) bw.size) F.size)),bL⟩
 have bM:=gV (x:=(b.getD 0 0)) (w:=t)
 rw[hkf] at bM
 refine aq<|m1 bM fun e5 T=>Pl 3<|aJ #[.nilFunc,.nilFunc] fun d5 e6 bN d6 bO=>aB d6 #[.func (.func 104) #[] #[],.func (.func 105) #[] #[]] fun e7 d7 bP=>am 1<|sq<|az 2<|c0<|bu<|sq<|?_
 have bQ:=aQ T (ud bO bP bN)
 have bR:=aV.old s bQ
 refine eH (aV.at_ bR 0 (by omega)) fun d8 d9 bS bU e8=>Rg 13 (fun w'=>w'.cell? ⟨d5,0,none⟩=some (.func (.func 104) #[] #[])∧w'.cell? ⟨d8,d9+0,none⟩=some (vB (b.getD 0 0))) fun e9 H=>?_
 have bV:=ub H d7
 refine bz ⟨(ak bV rfl),(uc H bU)⟩ fun r=>Rt 0 r<|Rl 1 r (fun _ hs=>hs.1)<|Rt 2 r<|Rt 3 r<|jm 4 r b.length 0 0 rfl bS (by omega)<|Rl 5 r (fun _ hs=>hs.2)<|Rt 6 r<|l2 (cT (P:=Tryz.prog) 27 5 1 Tryz.underlying27 rfl rfl A b.length cp 1 (by omega)) fun bW hrun428 da=>Rr 7 r (.slice bW (b.length-1) (cp-1)) (fun _ _=>cH (kl:=.i64) (k:=((1:Nat) : Int)) (A:=A) (n:=b.length) (c:=cp) rfl Tryz.underlying27 (by kernel_rfl) (by kernel_rfl) (hrun428 _ _))<|?_
 refine R0 8 rfl<|fV #[] #[] (args:=#[vI dir,vB (b.getD 0 0),.slice bW (b.length-1) (cp-1)])<|e2 (oq (dir:=dir) (c:=(b.getD 0 0)) (b8 (by omega)) (da _ _ _ _ _ (aV.old bR H)) (by(try simp only[List.length_drop]);omega)) fun db ea I bX=>?_
 have bZ:=ub bX bV
 have c2:=aQ H bX
 refine bz ⟨(ak bZ rfl),(uc c2 bU)⟩ fun c3=>Rt 9 c3<|Rt 10 c3<|?_
 have c4:=aQ bQ c2
 have c5:=ub c4 d
 refine R0 11 rfl<|iW (hz:=(by rw[I.size];exact aX)) (hv:=I.size) (h1:=I.one) c5 (db) fun eb dd U=>?_
 have c6:=ud a (uz c4 U) h
 refine bz ⟨(ak (aS U (Ne.symm (nb (ai d) T.size bN)) bZ) rfl),(cB (aV.old hsl c6) bS 0 (by omega))⟩ fun de=>Rt 12 de<|re<|tn<|rt<|dW 22 I.size dd (vI (((aj bY dir (b.getD 0 0) (b.drop 1))).2))<|?_
 exact cZ (by unfold ep;(try simp only[e,f,g,i,bp,hkf,it,reduceIte])<;>rfl) ⟨_,rfl,(aU.lo (aU.upd I U (ah (aR c5 (by decide)) aE)) (le (le (le (le a.size T.size) bO.size) bP.size) H.size)),c6⟩
 have c7:=gV (x:=(b.getD 0 0)) (w:=t)
 rw[hkf] at c7
 refine aq<|m1 c7 fun ec df=>Pl 3<|aJ #[.nilFunc,.nilFunc] fun ed ee dg dh di=>aB dh #[.nilFunc,.nilFunc] fun ef eg dj=>am 1<|sq<|az 2<|c1<|al 1<|?_
 have c8:=aQ df (ud di dj dg)
 refine aB (ub c8 d) mZ fun eh dk dl=>am 1<|bq<|c9 dk (vI 4)<|?_
 exact cZ (by unfold ep;(try simp only[e,f,g,i,bp,hkf,it,reduceIte])<;>rfl) (bT (ud a (uz c8 dl) h))
theorem ow(h:aV m w v b)(hb:b.length≤1048576) : Calls Tryz.prog 83 #[.int .i64 dir,v] w (dy (ep dir b) w):=by
  obtain⟨A,cp,rfl,_,_⟩:=h.shape
  exact nH h hb
end Go.Proofs.YtdkhbcefkfgbdaaGreat
namespace Go.Proofs.YtdkhbcefkfgbdaaGreat
def N1 (C:ag) : Prop:=C.e≠1
variable {C:ag}
theorem N1.need{b:Bool}{x:Int}(hx:x≠1)(h:N1 C) : N1 (C.need b x):=by
  unfold N1 ag.need at *
  split
  · exact hx
  · exact h
theorem N1.bytesC{n:Int}(h:N1 C) : N1 (C.bytesC n):=by
  unfold ag.bytesC
  split
  · exact N1.need (by decide) h
  · exact h
theorem N1.wordsC{n:Int}(h:N1 C) : N1 (C.wordsC n):=by
  unfold ag.wordsC
  split<;>exact N1.bytesC h
theorem N1.recs{one:Int→ag→Int × ag × cX}(ho:∀ s C,N1 C→N1 (one s C).2.1) : ∀ (n:Nat)(s:Int)(C:ag)(L:List cX),N1 C→N1 (aM one n s C L).1
  | 0,_,_,_,h=>h
  | n+1,s,C,L,h=>by
    unfold aM
    split
    · split
      · exact ho s C h
      · exact N1.recs ho n _ _ _ (ho s C h)
    · exact h
theorem N1.endC(h:N1 C) : N1 C.endC:=by
  unfold ag.endC
  exact N1.need (by decide) h
end Go.Proofs.YtdkhbcefkfgbdaaGreat
namespace Go.Proofs.YtdkhbcefkfgbdaaGreat
end Go.Proofs.YtdkhbcefkfgbdaaGreat
namespace Go.Proofs.YtdkhbcefkfgbdaaGreat
open Go.RowKit
variable {w w':World}
theorem pe(h:aC [] w w') : Below w.heap.size w w':=⟨h.os,h.tape,h.output,h.size,fun k hk=>h.block k hk (by simp)⟩
theorem oR{n:Int}(h:(Lit.int .u8 n).wf=true) : 0≤n∧n<256:=by
  have:=bounds_u8 h
  omega
open Go.RowKit
structure SL where
  aw:Option Addr
  kw:Nat
  ab:Option Addr
  kb:Nat
  ad:Option Addr
  kd:Nat
  ar:Option Addr
  kr:Nat
  ao:Option Addr
  ko:Nat
def ml (M:b6)(x:SL) : Array Value:=mG M.code M.fail M.addr M.count M.value M.and_ M.or_ M.addr2 M.sub M.status M.events M.messages (.slice x.aw M.words.length x.kw) (.slice x.ab M.bits.length x.kb) (.slice x.ad M.data.length x.kd) (.slice x.ar M.recs.length x.kr) M.mei M.kind M.level M.more M.next (.slice x.ao M.objects.length x.ko)
variable {m:Md}
theorem qZ{cs:Array Value}{M:b6}(h:aU m w cs.toList M) : ∃ x,cs=ml M x:=by
  obtain⟨vw,vb,vd,vr,vo,h0,hw,hb,hd,hr,ho,hR⟩:=h
  obtain⟨aw,kw,rfl,_,_⟩:=hw.shape
  obtain⟨ab,kb,rfl,_,_⟩:=hb.shape
  obtain⟨ad,kd,rfl,_,_⟩:=hd.shape
  obtain⟨ar,kr,rfl,_,_⟩:=hr.shape
  obtain⟨ao,ko,rfl,_,_⟩:=ho.shape
  refine⟨⟨aw,kw,ab,kb,ad,kd,ar,kr,ao,ko⟩,?_⟩
  apply Array.toList_inj.1
  rw[h0]
  rfl
open Go.RowKit
def vE:b6:={ b6.zero with code:=7 }
open Go.RowKit
structure dx where
  unit:Int
  tid:Int
  msg:b6
def dx.zero:dx:=⟨0,0,b6.zero⟩
def u7 (m:Md)(w:World)(cs:Array Value)(F:dx) : Prop:=∃ c:Array Value,cs = #[.int .u8 F.unit,.int .u16 F.tid]++c∧aU m w c.toList F.msg∧B8 F.unit∧dC F.tid
def pU (res:dx × Int)(w:World)(e:Ending)(w':World) : Prop:=∃ cs,e = .returned (.tuple #[.agg cs,.int .i64 res.2])∧u7 (.hi w.heap.size) w' cs res.1∧aC [] w w'
theorem iN{x y:dx × Int}(h:x=y)  {e:Ending}  (k:pU y w e w') : pU x w e w':=by rw[h];exact k
def uH:Array Value:=#[.int .u8 0,.int .u16 0,.int .u8 0,.int .u8 0,.int .u16 0,.int .u16 0,.int .u16 0,.int .u16 0,.int .u16 0,.int .u16 0,.int .u16 0,.int .u16 0,.int .u16 0,.int .u16 0,.slice none 0 0,.slice none 0 0,.slice none 0 0,.slice none 0 0,.int .u8 0,.int .u8 0,.int .u8 0,.int .u8 0,.int .u8 0,.slice none 0 0]
theorem fK{x:Int}{W:World}(hu:aC [] w W) : pU (dx.zero,x) w (.returned (.tuple #[.agg uH,.int .i64 x])) W:=⟨_,rfl,⟨jw,(by kernel_rfl),aU.zero ..,(show(0:Int)≤0∧(0:Int)<256 from by decide),(show(0:Int)≤0∧(0:Int)<65536 from by decide)⟩,hu⟩
def dI (u t:Int) : b6 × Int→dx × Int
  | (M,E)=>if E != 0 then (dx.zero,E) else (⟨u,t,M⟩,0)
open Go.RowKit
deriving instance DecidableEq for dx
def qv (u t:Int)(M:b6)(x:SL) : Array Value:=#[.int .u8 u,.int .u16 t,.int .u8 M.code,.int .u8 M.fail,.int .u16 M.addr,.int .u16 M.count,.int .u16 M.value,.int .u16 M.and_,.int .u16 M.or_,.int .u16 M.addr2,.int .u16 M.sub,.int .u16 M.status,.int .u16 M.events,.int .u16 M.messages,.slice x.aw M.words.length x.kw,.slice x.ab M.bits.length x.kb,.slice x.ad M.data.length x.kd,.slice x.ar M.recs.length x.kr,.int .u8 M.mei,.int .u8 M.kind,.int .u8 M.level,.int .u8 M.more,.int .u8 M.next,.slice x.ao M.objects.length x.ko]
theorem q3(u t:Int)(M:b6)(x:SL) : qv u t M x = #[.int .u8 u,.int .u16 t]++ml M x:=by kernel_rfl
open Go.RowKit
structure Ev where
  e:Int
  f:dx
def Ev.bad (e:Int) : Ev:=⟨e,dx.zero⟩
def ot (x:Ev)(s:SL) : Array Value:=#[.int .i64 x.e,.int .u8 x.f.unit,.int .u16 x.f.tid,.int .u8 x.f.msg.code,.int .u8 x.f.msg.fail,.int .u16 x.f.msg.addr,.int .u16 x.f.msg.count,.int .u16 x.f.msg.value,.int .u16 x.f.msg.and_,.int .u16 x.f.msg.or_,.int .u16 x.f.msg.addr2,.int .u16 x.f.msg.sub,.int .u16 x.f.msg.status,.int .u16 x.f.msg.events,.int .u16 x.f.msg.messages,.slice s.aw x.f.msg.words.length s.kw,.slice s.ab x.f.msg.bits.length s.kb,.slice s.ad x.f.msg.data.length s.kd,.slice s.ar x.f.msg.recs.length s.kr,.int .u8 x.f.msg.mei,.int .u8 x.f.msg.kind,.int .u8 x.f.msg.level,.int .u8 x.f.msg.more,.int .u8 x.f.msg.next,.slice s.ao x.f.msg.objects.length s.ko]
theorem ta(x:Ev)(s:SL) : ot x s = #[.int .i64 x.e]++qv x.f.unit x.f.tid x.f.msg s:=by kernel_rfl
def f9 (m:Md)(w:World)(x:Ev)(cs:List Value) : Prop:=∃ s,cs=(ot x s).toList∧aU m w (ml x.f.msg s).toList x.f.msg∧(0≤x.f.unit∧x.f.unit<256)∧(0≤x.f.tid∧x.f.tid<65536)
def uv (m:Md)(w:World)(f:dx)(cs:List Value) : Prop:=∃ s,cs=(qv f.unit f.tid f.msg s).toList∧aU m w (ml f.msg s).toList f.msg∧(0≤f.unit∧f.unit<256)∧(0≤f.tid∧f.tid<65536)
def wg (m:Md)(w:World)(b:List Int)(cs:List Value) : Prop:=∃ v,cs=[v]∧aV m w v b
variable {n:Nat}{x:Ev}
theorem f9.lo{k:Nat}   {cs:List Value}(hn:n≤k)(h:f9 (.hi k) w x cs) : f9 (.hi n) w x cs:=by
  obtain⟨s,h1,h2,h3⟩:=h
  exact⟨s,h1,h2.lo hn,h3⟩
theorem f9.tt{k:Nat}   {cs:List Value}(h:f9 (.hi k) w x cs) : f9 true w x cs:=by
  obtain⟨s,h1,h2,h3⟩:=h
  exact⟨s,h1,h2.tt,h3⟩
abbrev o6 (m:Md) (w:World) (v:Value) (xs:List Ev) : Prop:=aG m 87 25 (f9 m) w v xs
abbrev qV (base:Nat) (w:World) (v:Value) (xs:List Ev) : Prop:=aT base 87 25 (f9 true) w v xs
abbrev tK (base:Nat) (w:World) (v:Value) (xs:List Ev) : Prop:=aT base 87 25 (f9 (.hi base)) w v xs
variable {S:List Nat}
theorem f9.upd(hu:aC S w w')(hs:bS m dZ S w)(x:Ev)(cs:List Value)(h:f9 m w x cs) : f9 m w' x cs:=by
  obtain⟨s,h1,h2,h3⟩:=h
  exact⟨s,h1,h2.upd hu hs,h3⟩
variable {v:Value}{xs:List Ev}
theorem o6.upd'(h:o6 m w v xs)(hu:aC S w w')(hs:bS m (87 :: dZ) S w) : o6 m w' v xs:=aG.upd h hu (hs.sub fun t ht=>by rw[List.mem_singleton] at ht;rw[ht];exact List.mem_cons_self ..) (f9.upd hu (hs.sub fun t ht=>List.mem_cons_of_mem _ ht))
theorem o6.old(h:o6 m w v xs)(hu:aC [] w w') : o6 m w' v xs:=h.upd' hu (bS.nil _ _ _)
theorem ri(x:Ev)(s:SL) : (ot x s).toList.length=25:=by kernel_rfl
theorem nu:aU m w (ml b6.zero ⟨none,0,none,0,none,0,none,0,none,0⟩).toList b6.zero:=aU.zero ..
theorem od{w0:World}{g:Nat}{cs:Array Value}  (hg:w0.heap.size≤g)(hb:w.heap[g]? = some (.cells cs 87 (0,0)))(h:f9 m w x cs.toList) : aT w0.heap.size 87 25 (f9 m) w (.slice (some ⟨g,0,none⟩) 1 1) [x]:=by
  have hh:=h
  obtain⟨s,h1,h2⟩:=hh
  have hl:cs.toList.length=25:=by rw[h1];exact ri x s
  clear h1
  refine⟨cs.toList,⟨hl,.inr ⟨g,1,cs,rfl,hg,hb,Nat.le_refl _,by unfold maxLen;omega,by simpa using hl,by rw[List.take_of_length_le];exact Nat.le_of_eq hl⟩⟩,fun j y hj=>?_⟩
  cases j with
  | succ j=>simp at hj
  | zero =>
    have hj:x=y:=by simpa using hj
    subst hj
    exact⟨cs.toList,hl,h,fun i u hi=>by simpa using hi⟩
theorem uJ{α β γ δ ε ζ:Sort _}{C:Prop}{P1 P2 P3 P4:α→β→γ→δ→ε→ζ→Prop}(h:∃ a b c d e f,P1 a b c d e f∧P2 a b c d e f∧P3 a b c d e f∧P4 a b c d e f)(k:∀ a b c d e f,P1 a b c d e f→P2 a b c d e f→P3 a b c d e f→P4 a b c d e f→C) : C :=
  let ⟨a,b,c,d,e,f,h1,h2,h3,h4⟩:=h;k a b c d e f h1 h2 h3 h4
theorem gR{α β γ δ:Sort _}{C:Prop}{P1 P2 P3 P4 P5:α→β→γ→δ→Prop}(h:∃ a b c d,P1 a b c d∧P2 a b c d∧P3 a b c d∧P4 a b c d∧P5 a b c d)(k:∀ a b c d,P1 a b c d→P2 a b c d→P3 a b c d→P4 a b c d→P5 a b c d→C) : C :=
  let ⟨a,b,c,d,h1,h2,h3,h4,h5⟩:=h;k a b c d h1 h2 h3 h4 h5
theorem f9.ones(x:Ev)(cs:List Value)(h:f9 m w x cs) : ∀ v,v∈cs→v.oneCell'=true:=by
  obtain⟨s,h1,h2,_⟩:=h
  have h3:=h2.one
  intro v hv
  rw[h1,ta,q3,Array.toList_append,Array.toList_append,List.mem_append,List.mem_append] at hv
  clear h1
  rw[Array.all_eq_true'] at h3
  rcases hv with hv|hv|hv
  · simp at hv;subst hv;rfl
  · simp at hv;rcases hv with rfl | rfl<;>rfl
  · exact h3 v (by simpa using hv)
variable {A:Option Addr}{c:Nat}
theorem o6.elt(h:o6 m w (.slice A n c) xs)(j:Nat)(hj:j<xs.length)(d:Ev) :
    ∃ b off cells t fr s,A=some ⟨b,off,none⟩∧w.heap[b]? = some (.cells cells t fr)∧(aU m w (ml (xs.getD j d).f.msg s).toList (xs.getD j d).f.msg∧(0≤(xs.getD j d).f.unit∧(xs.getD j d).f.unit<256)∧(0≤(xs.getD j d).f.tid∧(xs.getD j d).f.tid<65536))∧(cells.toList.drop (off+j*25)).take 25=(ot (xs.getD j d) s).toList:=by
  obtain⟨b,off,cells,t,fr,cs,h1,h2,h3,⟨s,h4,h5⟩,h6⟩:=aG.elt h d j hj
  exact⟨b,off,cells,t,fr,s,h1,h2,h5,h6.trans h4⟩
abbrev u9 (m:Md) (w:World) (v:Value) (xs:List dx) : Prop:=aG m 47 24 (uv m) w v xs
abbrev fp (m:Md) (w:World) (v:Value) (xs:List (List Int)) : Prop:=aG m 27 1 (wg m) w v xs
theorem uv.upd(hu:aC S w w')(hs:bS m dZ S w)(x:dx)(cs:List Value)(h:uv m w x cs) : uv m w' x cs:=by
  obtain⟨s,h1,h2,h3⟩:=h
  exact⟨s,h1,h2.upd hu hs,h3⟩
theorem u9.old{xs:List dx}(h:u9 m w v xs)(hu:aC [] w w') : u9 m w' v xs:=aG.upd h hu (bS.nil _ _ _) (uv.upd hu (bS.nil _ _ _))
theorem u9.elt{xs:List dx}(h:u9 m w (.slice A n c) xs)(j:Nat)(hj:j<xs.length)(d:dx) :
    ∃ b off cells t fr s,A=some ⟨b,off,none⟩∧w.heap[b]? = some (.cells cells t fr)∧(aU m w (ml (xs.getD j d).msg s).toList (xs.getD j d).msg∧(0≤(xs.getD j d).unit∧(xs.getD j d).unit<256)∧(0≤(xs.getD j d).tid∧(xs.getD j d).tid<65536))∧(cells.toList.drop (off+j*24)).take 24=(qv (xs.getD j d).unit (xs.getD j d).tid (xs.getD j d).msg s).toList:=by
  obtain⟨b,off,cells,t,fr,cs,h1,h2,h3,⟨s,h4,h5⟩,h6⟩:=aG.elt h d j hj
  exact⟨b,off,cells,t,fr,s,h1,h2,h5,h6.trans h4⟩
theorem fp.old{xs:List (List Int)}(h:fp m w v xs)(hu:aC [] w w') : fp m w' v xs:=aG.upd h hu (bS.nil _ _ _) fun x cs ⟨v,h1,h2⟩=>⟨v,h1,h2.old hu⟩
theorem fp.elt{xs:List (List Int)}(h:fp m w (.slice A n c) xs)(j:Nat)(hj:j<xs.length) :
    ∃ b off A' c',A=some ⟨b,off,none⟩∧w.cell? ⟨b,off+j,none⟩=some (.slice A' (xs.getD j []).length c')∧aV m w (.slice A' (xs.getD j []).length c') (xs.getD j [])∧(xs.getD j []).length≤c'∧c'≤maxLen:=by
  obtain⟨b,off,cells,t,fr,cs,h1,h2,h3,⟨v,h4,h5⟩,h6⟩:=aG.elt h [] j hj
  obtain⟨A',c',rfl,h7,h8⟩:=h5.shape
  refine⟨b,off,A',c',h1,?_,h5,h7,h8⟩
  rw[bP h2]
  rw[h4] at h6
  have h9:=congrArg (fun z=>z[0]?) h6
  simpa using h9
open Go.RowKit
variable {P:Program}{i:TypeInfo}
theorem u0(t e:TypeId)(sz:Nat)  (ht:P.underlying t=some (.slice e))(hi:P.info? e=some i)(hsz:i.size=sz)(A:Option Addr)(n c:Nat){k:Int}(h:Nat)(hk:k=(h:Int))(hh:h≤n)(hc:n≤c) :
    ∃ A':Option Addr,(∀ (kh:IntKind) (W:World),(Instr.slice t (.slice A n c) none (some (.int kh k)) none).run P W = .ok (.slice A' h c) W) ∧
      ∀ {α:Type} (m:Md) (e':TypeId) (R:World→α→List Value→Prop) (w:World) (xs:List α),aG m e' sz R w (.slice A n c) xs→aG m e' sz R w (.slice A' h c) (xs.take h):=by
  subst hk
  obtain⟨A',h1,h2⟩:=rh (P:=P) t e sz ht hi hsz A n c 0 h (Nat.zero_le _) hh hc
  refine⟨A',fun kh W=>?_,fun m e' R w xs hr=>by simpa using h2 m e' R w xs hr⟩
  have h3:=h1 .i64 kh W
  have hel:P.elem t=e:=by simp[Program.elem,ht]
  have hu:P.underlying t=some (.slice (P.elem t)):=by rw[hel];exact ht
  rw[run_slice_h W t A n c hu kh (h:Int) (Int.natCast_nonneg _) (by omega)]
  rw[run_slice_lh W t A n c hu .i64 kh (((0:Nat) : Int)) (h:Int) (Int.natCast_nonneg _) (by omega) (by omega)] at h3
  simpa using h3
variable {e:TypeId}{o:Oper}{y:Operand}
theorem qy{ev:Operand→Value}   {t:TypeId}{x:Operand}   {kl:IntKind}{k:Int}   (ho:o.op = .slice t x none (some y) none)(ht:P.underlying t=some (.slice e))(hx:ev x = .slice A n c)(hy:ev y = .int kl k)
    (hr:(Instr.slice t (.slice A n c) none (some (.int kl k)) none).run P w = .ok v w) : (execOp ev o).run P w = .ok (.value v) w:=by
  have hu:(underlying t).run P w = .ok (.slice e) w:=run_underlying ht w
  unfold execOp
  simp only[ho,Option.map_some,Option.map_none,hx,hy,Instr.sliceAt,Sem.run_bind,hu,hr,Result.andThen,Sem.run_pure]
theorem iC(t e:TypeId)(sz:Nat)  (ht:P.underlying t=some (.slice e))(hi:P.info? e=some i)(hsz:i.size=sz)(A:Option Addr)(n c:Nat){lo up:Int}(k h:Nat)(hlo:lo=(k:Int))(hup:up=(h:Int))(hk:k≤h)(hh:h≤n)(hc:n≤c) :
    ∃ A':Option Addr,(∀ (kl kh:IntKind) (W:World),(Instr.slice t (.slice A n c) (some (.int kl lo)) (some (.int kh up)) none).run P W = .ok (.slice A' (h-k) (c-k)) W) ∧
      ∀ {α:Type} (m:Md) (e':TypeId) (R:World→α→List Value→Prop) (w:World) (xs:List α),aG m e' sz R w (.slice A n c) xs→aG m e' sz R w (.slice A' (h-k) (c-k)) ((xs.take h).drop k):=by
  subst hlo hup
  exact rh t e sz ht hi hsz A n c k h hk hh hc
theorem fL{ev:Operand→Value}   {t:TypeId}{x z:Operand}   {kl kh:IntKind}{lo hi:Int}   (ho:o.op = .slice t x (some y) (some z) none)(ht:P.underlying t=some (.slice e))(hx:ev x = .slice A n c)(hy:ev y = .int kl lo)(hz:ev z = .int kh hi)
    (hr:(Instr.slice t (.slice A n c) (some (.int kl lo)) (some (.int kh hi)) none).run P w = .ok v w) : (execOp ev o).run P w = .ok (.value v) w:=by
  have hu:(underlying t).run P w = .ok (.slice e) w:=run_underlying ht w
  unfold execOp
  simp only[ho,Option.map_some,Option.map_none,hx,hy,hz,Instr.sliceAt,Sem.run_bind,hu,hr,Result.andThen,Sem.run_pure]
theorem i1(t e:TypeId)(sz:Nat)  (ht:P.underlying t=some (.slice e))(hi:P.info? e=some i)(hsz:i.size=sz)(A:Option Addr)(n c:Nat){lo:Int}(k:Nat)(hlo:lo=(k:Int))(hk:k≤n) :
    ∃ A':Option Addr,(∀ (kl:IntKind) (W:World),(Instr.slice t (.slice A n c) (some (.int kl lo)) none none).run P W = .ok (.slice A' (n-k) (c-k)) W) ∧
      ∀ {α:Type} (m:Md) (e':TypeId) (R:World→α→List Value→Prop) (w:World) (xs:List α),aG m e' sz R w (.slice A n c) xs→aG m e' sz R w (.slice A' (n-k) (c-k)) (xs.drop k):=by
  subst hlo
  exact cT t e sz ht hi hsz A n c k hk
open Go.RowKit
theorem nQ{ev:Operand→Value}  {x:Operand}{ts:Array TypeId}{k:IntKind}{a b:Int}(ho:o.op = .call { callee:=.builtin .min,args:=#[x,y],argTypes:=ts })(hx:ev x = .int k a)(hy:ev y = .int k b) : (execOp ev o).run P w = .ok (.value (.int k (min a b))) w:=by
  have h:(Builtin.min_ ts o.type #[.int k a,.int k b]).run P w = .ok (.int k (min a b)) w:=by
    simp[Builtin.min_,Builtin.min2]
    split<;>simp[Int.min_def]<;>omega
  unfold execOp
  simp only[ho,resolve,invoke,builtin,Sem.run_bind,Sem.run_pure,Result.andThen_ok,List.map_toArray,List.map_cons,List.map_nil,hx,hy,h]
theorem aG.cap{α:Type}   {sz:Nat}{R:World→α→List Value→Prop}    {xs:List α}(h:aG m e sz R w (.slice A n c) xs) : n≤c:=by
  obtain⟨A',c',hv,h1,_⟩:=h
  injection hv with _ e2 e3
  subst e2 e3
  exact h1
theorem aV.full{xs:List Int}(h:aV m w (.slice A n c) xs) : aV m w (.slice A n n) xs:=by
  obtain⟨A',c',hv,hc1,hc2,h0,h3⟩:=h
  injection hv with e1 e2 e3
  subst e1 e2 e3
  refine⟨A,xs.length,rfl,Nat.le_refl _,Nat.le_trans hc1 hc2,fun hA=>?_,h3⟩
  have:=h0 hA
  omega
section
variable {P:Program}{n:Nat}{D:List Deferred}{F:Fr}{w:World}{K:Fr→World→Prop}{Q:Exit→Act→World→Prop}{d:Option Tmp}{t:TypeId}{s:String}{af:Array Edge}{gu:Option (Nat × Bool)}
end
open Go.RowKit
theorem kg{P:Program}{sz:Nat}{A:Option Addr}{c:Nat}(w:World) : (Builtin.firstCells sz 0 (.slice A 0 c)).run P w = .ok #[] w:=by
  cases A with
  | none=>simp[Builtin.firstCells]
  | some a =>
    have:=run_loadCells_list (P:=P) w a [] (fun j v hj=>by simp at hj)
    simpa [Builtin.firstCells] using this
theorem dv{α:Type}{base sz:Nat}{e t:TypeId}{R:World→α→List Value→Prop}{w:World}{A:Option Addr}{n c g:Nat}{xs:List α}(hb:∃ cs fr,w.heap[g]? = some (.cells cs t fr))(h:aT base e sz R w (.slice A n c) xs)(ht:(t==e)=false) : g∉ob A:=by
  obtain⟨cs,fr,hb⟩:=hb
  exact db hb h ht
theorem eu{β:Type}{base2 sz2:Nat}{e2:TypeId}{R2:World→β→List Value→Prop}{A A2 B:Option Addr}{w wY:World}{n c:Nat}{ys:List β}(hat:∀ g,g∈ob A2→g∈ob A∨w.heap.size≤g)(h1:∀ x,x∈ob A→x∉ob B)(hY:aT base2 e2 sz2 R2 wY (.slice B n c) ys)(hs:wY.heap.size≤w.heap.size) : ∀ x,x∈ob A2→x∉ob B:=fun x hx=>by
  rcases hat x hx with h|h
  · exact h1 x h
  · exact fun hb=>by have:=qu hY x hb;omega
theorem eT{A B:Option Addr}(h:∀ x,x∈ob A→x∉ob B) : ∀ x,x∈ob B→x∉ob A:=fun x hx hy=>h x hy hx
section
variable {P:Program}{n:Nat}{D:List Deferred}{F:Fr}{w:World}{K:Fr→World→Prop}{Q:Exit→Act→World→Prop}{d:Option Tmp}{t:TypeId}{s:String}{af:Array Edge}{gu:Option (Nat × Bool)}
theorem vi{α:Type}{R:World→α→List Value→Prop}{x y:Operand}{e:TypeId}{base m c:Nat}{A:Option Addr}{xs ys:List α}{mm:Md}{e' ty:TypeId}{u:Value}(z:Value)(sz bytes:Nat)(HO:aT base e sz R w (.slice A m c) xs)(HY:aG mm e' sz R w u ys)
    (hone:∀ x cs,R w x cs→∀ v,v∈cs→v.oneCell'=true) (hRU:∀ w',aC (ob A++[]) w w'→∀ x cs,R w x cs→R w' x cs)
    (hl:xs.length+ys.length≤4611686018427387904) (hmul:(xs.length+ys.length)*bytes≤140737488355328) (hbase:base≤w.heap.size) (h:∀ A' c' w',aT base e sz R w' (.slice A' (xs++ys).length c') (xs++ys)→aC (ob A++[]) w w'→(∀ g,g∈ob A'→g∈ob A∨w.heap.size≤g)→K (pt d (.slice A' (xs++ys).length c') F) w')
    (hx:dJ F x=some (.slice A m c):=by kernel_rfl) (hy':dJ F y=some u:=by kernel_rfl) (he:mt P ty=some e:=by kernel_rfl) (hs:(lA P ty,z.cells.size,(eG n d&&Nat.ble bytes 65536)&&Nat.blt 0 sz)=(some (some z,sz,bytes),sz,true):=by kernel_rfl) : OG P ⟨d,.call { callee:=.builtin .append,args:=#[x,y],argTypes:=#[ty,ty] },t,s,af,gu⟩ n D F w K Q:=by
  by_cases hne:ys=[]
  · subst hne
    simp only[Prod.mk.injEq] at hs
    have h3:=eh (eh hs.2.2).1
    obtain⟨A0,c0,e0,hc1,_⟩:=HO.rd.shape
    have e0:=e0.symm
    injection e0 with e1 e2 e3
    subst e2
    subst e1 e3
    obtain⟨B,cB,rfl,_,_⟩:=HY.shape
    have hinf:(P.info? e).map (fun i=>(i.zero,i.size,i.bytes))=some (some z,sz,bytes):=by have:=hs.1;unfold lA at this;rw[he] at this;exact this
    obtain⟨i0,hi,hz0,hz1,hz2⟩:=info_parts hinf
    have hsr:Src P i0.size ty (.slice B 0 cB) 0 [] w:=⟨.inl ⟨e,ea he⟩,fun w'=>by simp[Builtin.lenOf],kg w,kg w.drew,by simp,fun u hu=>by cases hu⟩
    have hr:=run_append_nothing w ty ty t _ i0 (ea he) hi A0 xs.length c0 hc1 _ hsr
    refine⟨fun a ha K' hK=>OW.mk ?_⟩
    have hx':=ha.ev hx
    have hy2:=ha.ev hy'
    simp only[List.length_nil] at hy2
    unfold Oper.wp execOp
    simp only[resolve,invoke,builtin,Sem.run_bind,Sem.run_pure,Result.andThen_ok,List.map_toArray,List.map_cons,List.map_nil,hx',hy2,hr]
    refine hK _ _ _ (h A0 c0 w (by rw[List.append_nil];exact HO) (aC.mono (S':=ob A0++[]) (aC.refl [] w) (fun x hx=>by cases hx)) (fun g hg=>.inl hg)) ?_
    rw[List.append_nil]
    exact ha.put h3.1
  · have hy:0<ys.length:=by
      cases ys with
      | nil=>exact absurd rfl hne
      | cons a r=>simp
    simp only[Prod.mk.injEq] at hs
    have h2:=eh hs.2.2
    have h3:=eh h2.1
    exact⟨fun a ha K' hK=>lq z sz bytes rfl rfl (ea he) (by have:=hs.1;unfold lA at this;rw[he] at this;exact this) hs.2.1 (by simpa using h2.2) xs (ha.ev hx) HO u ys (ha.ev hy') HY hy hone hRU hl hmul hbase fun A' c' w' hO hu hat=>hK _ _ _ (h A' c' w' hO hu hat) (ha.put h3.1)⟩
theorem iL{α:Type}{R:World→α→List Value→Prop}{x y:Operand}{e:TypeId}{base m c:Nat}{A:Option Addr}{xs ys:List α}{mm:Md}{e' ty:TypeId}{u:Value}(z:Value)(sz bytes:Nat)(HO:aT base e sz R w (.slice A m c) xs)(HY:aG mm e' sz R w u ys)
    (hone:∀ x cs,R w x cs→∀ v,v∈cs→v.oneCell'=true) (hRU:∀ w',aC (ob A++[]) w w'→∀ x cs,R w x cs→R w' x cs)
    (hl:xs.length+ys.length≤4194304) (hbase:base≤w.heap.size) (h:∀ A' c' w',aT base e sz R w' (.slice A' (xs++ys).length c') (xs++ys)→aC (ob A++[]) w w'→(∀ g,g∈ob A'→g∈ob A∨w.heap.size≤g)→K (pt d (.slice A' (xs++ys).length c') F) w')
    (hx:dJ F x=some (.slice A m c):=by kernel_rfl) (hy':dJ F y=some u:=by kernel_rfl) (he:mt P ty=some e:=by kernel_rfl) (hs:(lA P ty,z.cells.size,(eG n d&&Nat.ble bytes 65536)&&Nat.blt 0 sz)=(some (some z,sz,bytes),sz,true):=by kernel_rfl) : OG P ⟨d,.call { callee:=.builtin .append,args:=#[x,y],argTypes:=#[ty,ty] },t,s,af,gu⟩ n D F w K Q:=by
  have hb:bytes≤65536:=by
    simp only[Prod.mk.injEq] at hs
    simpa using (eh (eh hs.2.2).1).2
  exact vi z sz bytes HO HY hone hRU (by omega) (Nat.le_trans (Nat.mul_le_mul hl hb) (by decide)) hbase h hx hy' he hs
end
open Go.RowKit
def rp (b:List Int) : ag:=⟨b,false,0⟩
def rq (b:List Int) : ag:=(rp b).wordsC 1
def pJ (b:List Int) : ag:=(rq b).wordsC 1
def qs (b:List Int) : ag:=(pJ b).wordsC 1
def qp (b:List Int) : ag:=(qs b).bytesC 1
def l3 (b:List Int) : List Int:=(qp b).bytesR (((qp b).l.length:Nat) : Int)
def bZ (dir:Int)(b:List Int) : dx × Int :=
  if dir != 0&&dir != 1 then (dx.zero,1)
  else if decide ((b.length:Int)<8) then (dx.zero,2)
  else if decide (260<(b.length:Int)) then (dx.zero,3)
  else if (rq b).wordV != 0 then (dx.zero,13)
  else if (pJ b).wordV != (b.length:Int)-6 then (dx.zero,5)
  else dI (qs b).byteV (rp b).wordV (ep dir (l3 b))
theorem lc{m:Md}{A:Option Addr}{cp:Nat}{b:List Int}{w:World}{dir:Int}(hsl:aV m w (.slice A b.length cp) b)(hb:b.length≤1048576) :
    Calls Tryz.prog 107 #[vI dir,.slice A b.length cp] w (pU (bZ dir b) w):=by
 have hln:(b.length:Int)≤1048576:=by omega
 refine en 75 Tryz.func107 rfl<|sg<|aJ #[vB 0,vW 0,vB 0,vB 0,vW 0,vW 0,vW 0,vW 0,vW 0,vW 0,vW 0,vW 0,vW 0,vW 0,nS,nS,nS,nS,vB 0,vB 0,vB 0,vB 0,vB 0,nS] fun b6 b7 g e h=>am 1<|sq<|bk<|al 3<|dc 3 [17] 20 17 (dir != 0) (dir != 1) (fun K a1 a2=>?_) ?_
 have b9:=ay a2
 exact Pl 3<|ce a1 _ rfl
 refine am 1<|cb (((dir != 0)&&(dir != 1))) (fun c=>?_) (fun c=>?_)
 have O:=(aW c).1
 have P:=(aW c).2
 have ba:=ay O
 have bb:=ay P
 refine al 1<|aB e #[vB 0,vW 0,vB 0,vB 0,vW 0,vW 0,vW 0,vW 0,vW 0,vW 0,vW 0,vW 0,vW 0,vW 0,nS,nS,nS,nS,vB 0,vB 0,vB 0,vB 0,vB 0,nS] fun bc a3 a4=>am 1<|rt<|br<|tr<|c9 a3 (vI 1)<|?_
 have hs:bZ dir b=(dx.zero,1):=by
   unfold bZ
   (try simp only[c,O,P,bp,dI,qp,qs,pJ,rq,rp,reduceIte])
   all_goals rfl
 refine iN hs ?_
 exact fK (ud h a4 g)
 refine az 4<|cb ((decide ((b.length:Int)<8))) (fun d=>?_) (fun d=>?_)
 have a5:=of_decide_eq_true d
 refine al 1<|aB e #[vB 0,vW 0,vB 0,vB 0,vW 0,vW 0,vW 0,vW 0,vW 0,vW 0,vW 0,vW 0,vW 0,vW 0,nS,nS,nS,nS,vB 0,vB 0,vB 0,vB 0,vB 0,nS] fun bd a6 a7=>am 1<|rt<|br<|tr<|c9 a6 (vI 2)<|?_
 have hs:bZ dir b=(dx.zero,2):=by
   unfold bZ
   (try simp only[c,d,bp,dI,qp,qs,pJ,rq,rp,reduceIte])
   all_goals rfl
 refine iN hs ?_
 exact fK (ud h a7 g)
 have a5:=of_decide_eq_false d
 refine az 4<|cb ((decide (260<(b.length:Int)))) (fun f=>?_) (fun f=>?_)
 have a8:=of_decide_eq_true f
 refine al 1<|aB e #[vB 0,vW 0,vB 0,vB 0,vW 0,vW 0,vW 0,vW 0,vW 0,vW 0,vW 0,vW 0,vW 0,vW 0,nS,nS,nS,nS,vB 0,vB 0,vB 0,vB 0,vB 0,nS] fun be a9 aa=>am 1<|rt<|br<|tr<|c9 a9 (vI 3)<|?_
 have hs:bZ dir b=(dx.zero,3):=by
   unfold bZ
   (try simp only[c,d,f,bp,dI,qp,qs,pJ,rq,rp,reduceIte])
   all_goals rfl
 refine iN hs ?_
 exact fK (ud h aa g)
 have a8:=of_decide_eq_false f
 refine sk<|bn<|tn<|al 1<|?_
 refine aq<|e3 (d8 (aV.old hsl h) (by omega)) fun t bf o ac Q=>Pl 1<|aK 1<|aK 2<|L0<|fV #[] #[] (args:=#[vP t 0])<|m3 (bF ac) fun bg ad R bh=>Pl 2<|L0<|fV #[] #[] (args:=#[vP t 0])<|m3 (bF ad) fun bi af S bj=>?_
 refine ab af fun x46 r ai=>?_
 refine Pl 2<|L0<|fV #[] #[] (args:=#[vP t 0])<|m3 (bF ai) fun bl aj T bm=>am 3<|sq<|bk<|az 3<|?_
 have j:=ud Q (u1 R (u1 S T im) im) o
 have u:=aQ h j
 refine cb (((((ag.mk b false 0).wordsC 1).wordV)!=0)) (fun i=>?_) (fun i=>?_)
 have ak:=ay i
 refine al 1<|?_
 refine aB (ub j e) #[vB 0,vW 0,vB 0,vB 0,vW 0,vW 0,vW 0,vW 0,vW 0,vW 0,vW 0,vW 0,vW 0,vW 0,nS,nS,nS,nS,vB 0,vB 0,vB 0,vB 0,vB 0,nS] fun bo an ao=>am 1<|rt<|br<|tr<|c9 an (vI 13)<|?_
 subst r
 have hs:bZ dir b=(dx.zero,13):=by
   unfold bZ
   (try simp only[c,d,f,i,bp,dI,qp,qs,pJ,rq,rp,reduceIte])
   all_goals rfl
 refine iN hs ?_
 exact fK (ud u ao g)
 have ak:=aI i
 refine al 1<|bt x46.wordV<|Pl 2<|bt ((b.length:Int)-6)<|am 2<|cb ((x46.wordV != ((b.length:Int)-6))) (fun k=>?_) (fun k=>?_)
 have ap:=ay k
 refine al 1<|?_
 refine aB (ub j e) #[vB 0,vW 0,vB 0,vB 0,vW 0,vW 0,vW 0,vW 0,vW 0,vW 0,vW 0,vW 0,vW 0,vW 0,nS,nS,nS,nS,vB 0,vB 0,vB 0,vB 0,vB 0,nS] fun bs ar au=>am 1<|rt<|br<|tr<|c9 ar (vI 5)<|?_
 subst r
 have hs:bZ dir b=(dx.zero,5):=by
   unfold bZ
   (try simp only[c,d,f,i,k,bp,dI,qp,qs,pJ,rq,rp,reduceIte])
   all_goals rfl
 refine iN hs ?_
 exact fK (ud u au g)
 have ap:=aI k
 refine sk<|bn<|tn<|al 1<|aq<|m3 (bD aj) fun bv s v bw=>Pl 1<|aK 3<|aq<|mq (dm s)<|?_
 have bx:=ae.len s
 refine aq<|oZ (bN (n:=((((x46.wordsC 1).bytesC 1).l.length:Nat) : Int)) s) fun bz bA av aw bB bC ax x=>?_
 have bE:=Nat.le_trans (ag.bytesR_le ((x46.wordsC 1).bytesC 1) ((((x46.wordsC 1).bytesC 1).l.length:Nat) : Int)) (ae.len s)
 refine ab ax fun x80 U bG=>?_
 obtain⟨a,p,y⟩ : ∃ M E,ep dir (((x46.wordsC 1).bytesC 1).bytesR ((((x46.wordsC 1).bytesC 1).l.length:Nat) : Int))=(M,E):=⟨_,_,rfl⟩
 have V:=ow (dir:=dir) (w:=av) aw (by omega)
 rw[y] at V
 refine aq<|e2 V fun aA bH W X=>?_
 have aC:=W
 obtain⟨aD,aF,aG,aH,aL,aM,aN,aO,aP,aS,aT,bI⟩:=aC
 obtain rfl:aA=(eW a aD aF aG aH aL).toArray:=by apply Array.toList_inj.1;simpa using aM
 obtain⟨z,B,rfl,_,_⟩:=aN.shape
 obtain⟨C,D,rfl,_,_⟩:=aO.shape
 obtain⟨F,G,rfl,_,_⟩:=aP.shape
 obtain⟨H,I,rfl,_,_⟩:=aS.shape
 obtain⟨J,L,rfl,_,_⟩:=aT.shape
 refine Pl 3<|aJ mZ fun bJ bK aX aY aZ=>aB aY (mG a.code a.fail a.addr a.count a.value a.and_ a.or_ a.addr2 a.sub a.status a.events a.messages (.slice z a.words.length B) (.slice C a.bits.length D) (.slice F a.data.length G) (.slice H a.recs.length I) a.mei a.kind a.level a.more a.next (.slice J a.objects.length L)) fun bL b0 b1=>am 1<|sq<|az 2<|?_
 have Y:=ud aZ b1 aX
 have N:=u1 v (aQ x (aQ X Y)) im
 have Z:=ud u N (le h.size o)
 refine cb ((p != 0)) (fun q=>?_) (fun q=>?_)
 have b2:=ay q
 refine al 2<|?_
 refine aB (ub (ud j N o) e) #[vB 0,vW 0,vB 0,vB 0,vW 0,vW 0,vW 0,vW 0,vW 0,vW 0,vW 0,vW 0,vW 0,vW 0,nS,nS,nS,nS,vB 0,vB 0,vB 0,vB 0,vB 0,nS] fun bM b3 b4=>am 1<|bq<|c9 b3 (vI p)<|?_
 subst U r
 have hX2:ep dir (l3 b)=(a,p):=y
 have hs:bZ dir b=(dx.zero,p):=by
   unfold bZ
   (try simp only[c,d,f,i,k,q,bp,dI,qp,qs,pJ,rq,rp,hX2,reduceIte])
   all_goals rfl
 refine iN hs ?_
 exact fK (ud Z b4 g)
 have b2:=aI q
 refine bu<|al 3<|L0<|cM b0<|Pl 1<|?_
 refine aB (ub (ud j N o) e) #[vB ((x46.wordsC 1).byteV),vW ((ag.mk b false 0).wordV),vB a.code,vB a.fail,vW a.addr,vW a.count,vW a.value,vW a.and_,vW a.or_,vW a.addr2,vW a.sub,vW a.status,vW a.events,vW a.messages,.slice z a.words.length B,.slice C a.bits.length D,.slice F a.data.length G,.slice H a.recs.length I,vB a.mei,vB a.kind,vB a.level,vB a.more,vB a.next,.slice J a.objects.length L] fun bO b5 a0=>am 1<|rt<|c9 b5 (vI 0)<|?_
 subst U r
 have hX2:ep dir (l3 b)=(a,p):=y
 have hs:bZ dir b=(⟨((((ag.mk b false 0).wordsC 1).wordsC 1).wordsC 1).byteV,(ag.mk b false 0).wordV,a⟩,0):=by
   unfold bZ
   (try simp only[c,d,f,i,k,q,bp,dI,qp,qs,pJ,rq,rp,hX2,reduceIte])
   all_goals rfl
 refine iN hs ?_
 exact⟨_,rfl,⟨#[vB a.code,vB a.fail,vW a.addr,vW a.count,vW a.value,vW a.and_,vW a.or_,vW a.addr2,vW a.sub,vW a.status,vW a.events,vW a.messages,.slice z a.words.length B,.slice C a.bits.length D,.slice F a.data.length G,.slice H a.recs.length I,vB a.mei,vB a.kind,vB a.level,vB a.more,vB a.next,.slice J a.objects.length L],(by as_aux_lemma=>kernel_rfl),(aU.lo (aU.upd W (uz Y a0) (ah (aR (ub (ud j (u1 v (aQ x X) im) o) e) (by decide)) aE)) (le (le (le (le (le (le h.size Q.size) R.size) S.size) T.size) v.size) x.size)),b8 (by omega),c6 (by omega)⟩,(ud Z a0 g)⟩
theorem mQ{m:Md}{v:Value}{b:List Int}{w:World}{dir:Int}(h:aV m w v b)(hb:b.length≤1048576) : Calls Tryz.prog 107 #[.int .i64 dir,v] w (pU (bZ dir b) w):=by
  obtain⟨A,cp,rfl,_,_⟩:=h.shape
  exact lc h hb
open Go.RowKit
open Go.RowKit
theorem gM{m:Md}{v:Value}{b:List Int}{w:World}{dir:Int}{F:dx}{E:Int}(hX:bZ dir b=(F,E))(h:aV m w v b)(hb:b.length≤1048576) : Calls Tryz.prog 107 #[.int .i64 dir,v] w (fun e w'=>∃ x,e = .returned (.tuple #[.agg (qv F.unit F.tid F.msg x),.int .i64 E])∧(aU (.hi w.heap.size) w' (ml F.msg x).toList F.msg∧(0≤F.unit∧F.unit<256)∧(0≤F.tid∧F.tid<65536))∧aC [] w w'):=by
  refine(mQ h hb).mono ?_
  rintro e w' ⟨cs,rfl,h1,h2⟩
  rw[hX] at h1 ⊢
  obtain⟨c,rfl,h3,h4,h5⟩:=h1
  obtain⟨x,rfl⟩:=qZ h3
  exact⟨x,by rw[q3],⟨h3,h4,h5⟩,h2⟩
open Go.RowKit
structure SM where
  dir:Int
  held:List Int
  skip:Int
theorem sn{a b:Int}(ha:0≤a∧a<256)(hb:0≤b∧b<256) : bits .or .i64 (a*256) b=a*256+b:=by
  obtain⟨A,rfl⟩:=Int.eq_ofNat_of_zero_le ha.1
  obtain⟨B,rfl⟩:=Int.eq_ofNat_of_zero_le hb.1
  have e:((A:Int)*256)=((A*256:Nat) : Int):=by omega
  rw[e]
  show IntKind.i64.wrap ((BitVec.ofInt 64 ((A*256:Nat) : Int) ||| BitVec.ofInt 64 (B:Int)).toNat:Int)=_
  rw[BitVec.toNat_or,BitVec.ofInt_natCast,BitVec.ofInt_natCast,BitVec.toNat_ofNat,BitVec.toNat_ofNat,Nat.mod_eq_of_lt (by omega),Nat.mod_eq_of_lt (by omega)]
  have h:=Nat.shiftLeft_add_eq_or_of_lt (i:=8) (b:=B) (by omega) A
  rw[Nat.shiftLeft_eq] at h
  rw[← h,i64_in (by omega)]
  omega
def SM.size (S:SM) : Int:=S.held.getD 4 0*256+S.held.getD 5 0
def SM.nx (S:SM) : Nat:=if S.held.length<6 then 0 else if 254<S.size then 1 else if S.size<2 then 2 else if (S.held.length:Int)=6+S.size then 3 else 0
def SM.does (S:SM) : SM × List Ev:=match S.nx with
  | 1=>(⟨S.dir,[],S.size⟩,[Ev.bad 3])
  | 2=>(⟨S.dir,[],S.size⟩,[Ev.bad 5])
  | 3=>(⟨S.dir,[],S.skip⟩,[⟨(bZ S.dir S.held).2,(bZ S.dir S.held).1⟩])
  | _=>(S,[])
def SM.byte (S:SM)(c:Int) : SM × List Ev:=if 0<S.skip then (⟨S.dir,S.held,S.skip-1⟩,[]) else (SM.mk S.dir (S.held++[c]) S.skip).does
def SM.feed (S:SM)(b:List Int) : SM × List Ev:=b.foldl (fun p c=>((p.1.byte c).1,p.2++(p.1.byte c).2)) (S,[])
abbrev w5 (S:SM) (A:Option Addr) (cp:Nat) : Array Value:=#[.int .i64 S.dir,.slice A S.held.length cp,.int .i64 S.skip]
abbrev jD (w:World) (g:Nat) (S:SM) (A:Option Addr) (cp:Nat) : Prop:=w.heap[g]? = some (.cells (w5 S A cp) 89 (0,0))
theorem SM.size_rng{S:SM}(h:∀ x,x∈S.held→0≤x∧x<256) : 0≤S.size∧S.size<65536:=by
  have hd:∀ j,0≤S.held.getD j 0∧S.held.getD j 0<256:=fun j=>by
    rw[List.getD_eq_getElem?_getD]
    cases hj:S.held[j]? with
    | none=>simp
    | some x=>exact h x (List.mem_of_getElem? hj)
  have h4:=hd 4
  have h5:=hd 5
  unfold SM.size
  omega
def uh (S:SM)(L:List Ev)(g:Nat)(w:World)(e:Ending)(w':World) : Prop:=∃ v,e = .returned v∧tK w.heap.size w' v L∧jD w' g S none 0∧aC [g] w w'
theorem jk{w:World}:Calls Tryz.prog 15 #[vI 0] w (fun e w'=>∃ g,e = .returned (vP g 0)∧w.heap.size≤g∧jD w' g ⟨0,[],0⟩ none 0∧aC [] w w'):=by
 exact en 12 Tryz.func15 rfl<|az 1<|sq<|az 6<|c0<|sk<|tn<|al 2<|L0<|dw #[vI 0,nS,vI 0] fun a f b c d=>am 1<|rt<|rr (vP a 0)<|⟨a,rfl,b,c,d⟩
theorem mW{w:World}:Calls Tryz.prog 15 #[vI 1] w (fun e w'=>∃ g,e = .returned (vP g 0)∧w.heap.size≤g∧jD w' g ⟨1,[],0⟩ none 0∧aC [] w w'):=by
 exact en 12 Tryz.func15 rfl<|az 1<|sq<|az 6<|c0<|sk<|tn<|al 2<|L0<|dw #[vI 1,nS,vI 0] fun a f b c d=>am 1<|rt<|rr (vP a 0)<|⟨a,rfl,b,c,d⟩
theorem n7{w:World}{g:Nat}{S:SM}{A:Option Addr}{cp:Nat}(hb:jD w g S A cp)(hr:aV true w (.slice A S.held.length cp) S.held) : Calls Tryz.prog 19 #[vP g 0] w (cg (vI (S.held.length:Int)) w):=by
 have hcm:=aG.len hr
 have hrg:=SM.size_rng (aV.range hr)
 have hru:=aV.range hr
 exact en 8 Tryz.func19 rfl<|al 1<|aK 3<|aF hb 1<|am 2<|rt<|rr (vI (S.held.length:Int))<|⟨rfl,(aC.refl [] _)⟩
theorem f8{w:World}{g:Nat}{S:SM}{A:Option Addr}{cp:Nat}(hb:jD w g S A cp)(hr:aV true w (.slice A S.held.length cp) S.held)(h6:6≤S.held.length) : Calls Tryz.prog 74 #[vP g 0] w (cg (vI S.size) w):=by
 have hcm:=aG.len hr
 have hrg:=SM.size_rng (aV.range hr)
 have hru:=aV.range hr
 refine en 19 Tryz.func74 rfl<|az 1<|sq<|eH (aV.at_ hr 4 (by omega)) fun c d e f l=>eH (aV.at_ hr 5 (by omega)) fun h i j k m=>Rg 17 (fun w'=>w'.cell? ⟨g,1,none⟩=some (.slice A S.held.length cp)∧w'.cell? ⟨c,d+4,none⟩=some (vB (S.held.getD 4 0))∧w'.cell? ⟨h,i+5,none⟩=some (vB (S.held.getD 5 0))) fun n b=>?_
 exact bz ⟨(ak (ub b hb) rfl),(uc b f),(uc b k)⟩ fun a=>Rt 0 a<|Rt 1 a<|Rt 2 a<|Rl 3 a (fun _ hs=>hs.1)<|jm 4 a S.held.length 4 4 rfl e (by omega)<|Rl 5 a (fun _ hs=>hs.2.1)<|Rr 6 a (vI (S.held.getD 4 0)) (fun _ _=>bv (vI (IntKind.i64.wrap (S.held.getD 4 0))) (by kernel_rfl) (congrArg (Value.int .i64) (i64_in (by omega))))<|Rr 7 a (vI ((S.held.getD 4 0)*256)) (fun _ _=>bv (vI (IntKind.i64.wrap ((S.held.getD 4 0)*256))) (by kernel_rfl) (congrArg (Value.int .i64) (i64_in (by omega))))<|Rt 8 a<|Rt 9 a<|Rt 10 a<|Rl 11 a (fun _ hs=>hs.1)<|jm 12 a S.held.length 5 5 rfl j (by omega)<|Rl 13 a (fun _ hs=>hs.2.2)<|Rr 14 a (vI (S.held.getD 5 0)) (fun _ _=>bv (vI (IntKind.i64.wrap (S.held.getD 5 0))) (by kernel_rfl) (congrArg (Value.int .i64) (i64_in (by omega))))<|Rr 15 a (vI (((S.held.getD 4 0)*256)+(S.held.getD 5 0))) (fun _ _=>bv (vI (bits .or .i64 ((S.held.getD 4 0)*256) (S.held.getD 5 0))) (by kernel_rfl) (congrArg (Value.int .i64) (sn (by omega) (by omega))))<|Rt 16 a<|re<|tn<|rt<|rr (vI (((S.held.getD 4 0)*256)+(S.held.getD 5 0)))<|⟨rfl,b⟩
def SM.fn (S:SM)(g:Nat) : Value:=match S.nx with
  | 1=>.func (.func 75) #[.pointer (some ⟨g,0,none⟩)] #[]
  | 2=>.func (.func 76) #[.pointer (some ⟨g,0,none⟩)] #[]
  | 3=>.func (.func 77) #[.pointer (some ⟨g,0,none⟩)] #[]
  | _=>.nilFunc
theorem fb{w:World}{g:Nat}{S:SM}{A:Option Addr}{cp:Nat}(hb:jD w g S A cp)(hr:aV true w (.slice A S.held.length cp) S.held) : Calls Tryz.prog 52 #[vP g 0] w (cg (S.fn g) w):=by
 have hcm:=aG.len hr
 have hrg:=SM.size_rng (aV.range hr)
 have hru:=aV.range hr
 refine en 34 Tryz.func52 rfl<|az 1<|sq<|bk<|al 3<|aF hb 1<|Pl 3<|nl<|tn<|cb ((decide ((S.held.length:Int)<6))) (fun c=>?_) (fun c=>?_)
 have r:=of_decide_eq_true c
 refine az 1<|rt<|br<|tr<|rr (.nilFunc)<|?_
 have hs:S.nx=0:=by unfold SM.nx;(repeat' split)<;>first | rfl | omega
 have hf:S.fn g = .nilFunc:=by unfold SM.fn;rw[hs];rfl
 exact⟨by rw[hf],(aC.refl [] _)⟩
 have r:=of_decide_eq_false c
 refine al 1<|aq<|m1 (f8 (S:=S) hb hr (by omega)) fun v b=>am 2<|cb ((decide (254<S.size))) (fun d=>?_) (fun d=>?_)
 have s:=of_decide_eq_true d
 refine az 3<|rt<|br<|tr<|rr (.func (.func 75) #[vP g 0] #[])<|?_
 have hs:S.nx=1:=by unfold SM.nx;(repeat' split)<;>first | rfl | omega
 have hf:S.fn g = .func (.func 75) #[vP g 0] #[]:=by unfold SM.fn;rw[hs];rfl
 exact⟨by rw[hf],b⟩
 have s:=of_decide_eq_false d
 refine al 1<|?_
 have j:=ub b hb
 have k:=aV.upd' hr b aE
 refine aq<|m1 (f8 (S:=S) j k (by omega)) fun x l=>am 2<|?_
 have m:=aQ b l
 refine cb ((decide (S.size<2))) (fun e=>?_) (fun e=>?_)
 have t:=of_decide_eq_true e
 refine az 3<|rt<|br<|tr<|rr (.func (.func 76) #[vP g 0] #[])<|?_
 have hs:S.nx=2:=by unfold SM.nx;(repeat' split)<;>first | rfl | omega
 have hf:S.fn g = .func (.func 76) #[vP g 0] #[]:=by unfold SM.fn;rw[hs];rfl
 exact⟨by rw[hf],m⟩
 have t:=of_decide_eq_false e
 refine sq<|Rg 10 (fun w'=>w'.cell? ⟨g,1,none⟩=some (.slice A S.held.length cp)) fun y n=>?_
 have o:=aQ l n
 have f:=ub o j
 refine bz (ak f rfl) fun a=>Rt 0 a<|Rt 1 a<|Rt 2 a<|Rl 3 a (fun _ hs=>hs)<|Rt 4 a<|Rt 5 a<|?_
 refine R0 6 rfl<|Oc<|m1 (f8 (S:=S) f (aV.upd' k o aE) (by omega)) fun z p=>?_
 refine bz (ak (ub p f) rfl) fun h=>Rr 7 h (vI (6+S.size)) (fun _ _=>bv (vI (IntKind.i64.wrap (6+S.size))) (by kernel_rfl) (congrArg (Value.int .i64) (IntWalk.i64_in _ (by omega))))<|Rt 8 h<|Rt 9 h<|re<|tn<|?_
 have q:=aQ m (aQ n p)
 refine cb (((S.held.length:Int)==(6+S.size))) (fun i=>?_) (fun i=>?_)
 have u:=ap i
 refine az 3<|rt<|br<|tr<|rr (.func (.func 77) #[vP g 0] #[])<|?_
 have hs:S.nx=3:=by unfold SM.nx;(repeat' split)<;>first | rfl | omega
 have hf:S.fn g = .func (.func 77) #[vP g 0] #[]:=by unfold SM.fn;rw[hs];rfl
 exact⟨by rw[hf],q⟩
 have u:=au i
 refine sk<|bn<|tn<|az 1<|rt<|rr (.nilFunc)<|?_
 have hs:S.nx=0:=by unfold SM.nx;(repeat' split)<;>first | rfl | omega
 have hf:S.fn g = .nilFunc:=by unfold SM.fn;rw[hs];rfl
 exact⟨by rw[hf],q⟩
theorem gF{w:World}{g:Nat}{S:SM}{A:Option Addr}{cp:Nat}(hb:jD w g S A cp)(hr:aV true w (.slice A S.held.length cp) S.held)(h6:6≤S.held.length){e:Int}:Calls Tryz.prog 106 #[vP g 0,vI e] w (uh ⟨S.dir,[],S.size⟩ [Ev.bad e] g w):=by
 have hcm:=aG.len hr
 have hrg:=SM.size_rng (aV.range hr)
 have hru:=aV.range hr
 refine en 16 Tryz.func106 rfl<|al 1<|aK 2<|aq<|m1 (f8 (S:=S) hb hr (by omega)) fun l a=>Pl 2<|?_
 refine L0<|bE (ub a hb) 2 #[vI S.dir,.slice A S.held.length cp,vI S.size] fun n f b=>aK 3<|L0<|bE f 1 #[vI S.dir,nS,vI S.size] fun o h c=>aK 2<|L0<|gv (m:=1) (e:=87) #[vI e,vB 0,vW 0,vB 0,vB 0,vW 0,vW 0,vW 0,vW 0,vW 0,vW 0,vW 0,vW 0,vW 0,vW 0,nS,nS,nS,nS,vB 0,vB 0,vB 0,vB 0,vB 0,nS] fun i p j k d=>Pl 1<|nl<|tn<|rt<|rr (.slice (some ⟨i,0,none⟩) 1 1)<|?_
 have hE:=od (m:=.hi w.heap.size) (w0:=w) (x:=Ev.bad e) (Nat.le_trans (le (le a.size b.size) c.size) j) k ⟨⟨none,0,none,0,none,0,none,0,none,0⟩,by kernel_rfl,nu,(show(0:Int)≤0∧(0:Int)<256 from by decide),(show(0:Int)≤0∧(0:Int)<65536 from by decide)⟩
 exact⟨_,rfl,hE,(ub d h),(uz a (u1 b (aQ c d) im))⟩
theorem nm{w:World}{g:Nat}{S:SM}{A:Option Addr}{cp:Nat}(hb:jD w g S A cp)(hr:aV true w (.slice A S.held.length cp) S.held)(h6:6≤S.held.length) : Calls Tryz.prog 75 #[vP g 0] w (uh ⟨S.dir,[],S.size⟩ [Ev.bad 3] g w):=by
 have hcm:=aG.len hr
 have hrg:=SM.size_rng (aV.range hr)
 have hru:=aV.range hr
 exact en 5 Tryz.func75 rfl<|al 1<|aK 1<|aq<|iG (gF (S:=S) (e:=3) hb hr h6) fun a b h c i j d f=>am 1<|rt<|rr (.slice a 1 b)<|⟨_,rfl,c,d,f⟩
theorem lB{w:World}{g:Nat}{S:SM}{A:Option Addr}{cp:Nat}(hb:jD w g S A cp)(hr:aV true w (.slice A S.held.length cp) S.held)(h6:6≤S.held.length) : Calls Tryz.prog 76 #[vP g 0] w (uh ⟨S.dir,[],S.size⟩ [Ev.bad 5] g w):=by
 have hcm:=aG.len hr
 have hrg:=SM.size_rng (aV.range hr)
 have hru:=aV.range hr
 exact en 5 Tryz.func76 rfl<|al 1<|aK 1<|aq<|iG (gF (S:=S) (e:=5) hb hr h6) fun a b h c i j d f=>am 1<|rt<|rr (.slice a 1 b)<|⟨_,rfl,c,d,f⟩
theorem lT{w:World}{g:Nat}{S:SM}{A:Option Addr}{cp:Nat}(hb:jD w g S A cp)(hr:aV true w (.slice A S.held.length cp) S.held)(hl:S.held.length≤1048576) : Calls Tryz.prog 77 #[vP g 0] w (uh ⟨S.dir,[],S.skip⟩ [⟨(bZ S.dir S.held).2,(bZ S.dir S.held).1⟩] g w):=by
 have hcm:=aG.len hr
 have hrg:=SM.size_rng (aV.range hr)
 have hru:=aV.range hr
 refine en 24 Tryz.func77 rfl<|az 1<|sq<|Rg 15 (fun w'=>w'.cell? ⟨g,0,none⟩=some (vI S.dir)∧w'.cell? ⟨g,1,none⟩=some (.slice A S.held.length cp)) fun ad a=>?_
 have f:=ub a hb
 refine bz ⟨(ak f rfl),(ak f rfl)⟩ fun b=>Rt 0 b<|Rt 1 b<|Rt 2 b<|Rl 3 b (fun _ hs=>hs.1)<|Rt 4 b<|Rt 5 b<|Rt 6 b<|Rl 7 b (fun _ hs=>hs.2)<|R2 8 12 rfl rfl ?_ ?_
 refine pr (bZ S.dir S.held) fun c D E=>?_
 refine  Oc<|e2 (gM E (aV.upd' hr a aE) (by omega)) fun x56 ae Q h=>?_
 obtain⟨R,T,U⟩:=Q
 have i:=ub h f
 refine bz ⟨(ak i rfl),(ak i rfl)⟩ fun l=>Rt 9 l<|Rt 10 l<|Rt 11 l<|R0 12 rfl<|tS #[vB 0,vW 0,vB 0,vB 0,vW 0,vW 0,vW 0,vW 0,vW 0,vW 0,vW 0,vW 0,vW 0,vW 0,nS,nS,nS,nS,vB 0,vB 0,vB 0,vB 0,vB 0,nS] fun af ag F V n=>?_
 have o:=ub n i
 refine bz ⟨(ak o rfl),(ak o rfl)⟩ fun aj=>R0 13 rfl<|iW V (qv c.unit c.tid c.msg x56) fun an W p=>?_
 have G:=nb (ai hb) (le a.size h.size) F
 have q:=aS p G o
 refine bz ⟨(ak q rfl),(ak q rfl)⟩ fun X=>Rt 14 X<|re<|tn<|al 3<|L0<|bE q 1 #[vI S.dir,nS,vI S.skip] fun ao Y r=>aK 1<|?_
 refine L0<|cM (aS r (Ne.symm G) W)<|Pl 1<|L0<|gv (m:=1) (e:=87) (ot ⟨D,c⟩ x56) fun Z ap a0 a1 H=>am 1<|rt<|rr (.slice (some ⟨Z,0,none⟩) 1 1)<|?_
 have I:=ud n (us p (aQ r H)) F
 have hE:=od (m:=.hi w.heap.size) (w0:=w) (x:=⟨D,c⟩) (Nat.le_trans (le (le (le (le a.size h.size) n.size) p.size) r.size) a0) a1 ⟨x56,rfl,(aU.lo (aU.upd R I (ah (aR i (by decide)) aE)) a.size),T,U⟩
 exact⟨_,rfl,by rw[E];exact hE,(ub H Y),(uz a (uz h I))⟩
 refine  tS #[vB 0,vW 0,vB 0,vB 0,vW 0,vW 0,vW 0,vW 0,vW 0,vW 0,vW 0,vW 0,vW 0,vW 0,nS,nS,nS,nS,vB 0,vB 0,vB 0,vB 0,vB 0,nS] fun aq ar J a2 s=>?_
 have t:=ub s f
 refine bz ⟨(ak t rfl),(ak t rfl)⟩ fun au=>?_
 have u:=aQ a s
 refine pr (bZ S.dir S.held) fun d K L=>?_
 refine R0 8 rfl<|Oc<|e2 (gM L (aV.upd' hr u aE) (by omega)) fun v av a3 j=>?_
 obtain⟨a4,a5,a6⟩:=a3
 have k:=ub j t
 refine bz ⟨(ak k rfl),(ak k rfl)⟩ fun y=>Rt 9 y<|Rt 10 y<|Rt 11 y<|?_
 have M:=ub j a2
 refine R0 13 rfl<|iW M (qv d.unit d.tid d.msg v) fun aw a7 z=>?_
 have N:=nb (ai hb) a.size J
 have B:=aS z N k
 refine bz ⟨(ak B rfl),(ak B rfl)⟩ fun a8=>Rt 14 a8<|re<|tn<|al 3<|L0<|bE B 1 #[vI S.dir,nS,vI S.skip] fun ax a9 C=>aK 1<|?_
 refine L0<|cM (aS C (Ne.symm N) a7)<|Pl 1<|L0<|gv (m:=1) (e:=87) (ot ⟨K,d⟩ v) fun aa ay ab ac O=>am 1<|rt<|rr (.slice (some ⟨aa,0,none⟩) 1 1)<|?_
 have P:=us z (aQ C O)
 have hE:=od (m:=.hi w.heap.size) (w0:=w) (x:=⟨K,d⟩) (Nat.le_trans (le (le (le (le a.size s.size) j.size) z.size) C.size) ab) ac ⟨v,rfl,(aU.lo (aU.upd a4 P (ah (aR M (by decide)) (ah (aR k (by decide)) aE))) u.size),a5,a6⟩
 exact⟨_,rfl,by rw[L];exact hE,(ub O a9),(ud u (uz j P) (le a.size J))⟩
open Go.RowKit
theorem ci{α β:Type}{base sz base2 sz2:Nat}{e e2:TypeId}{R:World→α→List Value→Prop}{R2:World→β→List Value→Prop}{w:World}{A A2:Option Addr}{n c n2 c2:Nat}{xs:List α}{ys:List β}(h:aT base e sz R w (.slice A n c) xs)(h2:aT base2 e2 sz2 R2 w (.slice A2 n2 c2) ys)(ht:(e==e2)=false) : ∀ x,x∈ob A→x∉ob A2:=fun x hx hx2=>by
  rcases cU h with rfl|⟨g,cells,rfl,_,h1⟩
  · simp[ob] at hx
  rcases cU h2 with rfl|⟨g2,cells2,rfl,_,h3⟩
  · simp[ob] at hx2
  simp[ob] at hx hx2
  subst hx
  subst hx2
  rw[h1] at h3
  injection h3 with h3
  injection h3 with _ h3 _
  subst h3
  simp at ht
theorem iB{A A0:Option Addr}{w w0:World}{S:List Nat}(hat:∀ x,x∈ob A→x∈ob A0∨w.heap.size≤x)(h:∀ x,x∈ob A0→x∈S∨w0.heap.size≤x)(hs:w0.heap.size≤w.heap.size) : ∀ x,x∈ob A→x∈S∨w0.heap.size≤x:=fun x hx=>by
  rcases hat x hx with k|k
  · exact h x k
  · exact .inr (Nat.le_trans hs k)
theorem og{A A1 A0:Option Addr}{w w0:World}(hat:∀ x,x∈ob A→x∈ob A1∨w.heap.size≤x)(h:∀ x,x∈ob A1→x∈ob A0∨w0.heap.size≤x)(hs:w0.heap.size≤w.heap.size) : ∀ x,x∈ob A→x∈ob A0∨w0.heap.size≤x:=iB hat h hs
theorem ji{A0:Option Addr}{w:World}:∀ x,x∈ob none→x∈ob A0∨w.heap.size≤x:=fun x hx=>by simp[ob] at hx
theorem r2{A0:Option Addr}{w:World}:∀ x,x∈ob A0→x∈ob A0∨w.heap.size≤x:=fun x hx=>.inl hx
theorem kY{w:World}:∀ x cs,mv w x cs→∀ v,v∈cs→v.oneCell'=true:=fun x cs h v hv=>by
  rw[h.1] at hv
  simp at hv
  subst hv
  rfl
section
variable {n:Nat}{B:Option Addr}
def nI (n:Nat)(B:Option Addr)(X:List Nat) : Prop:=0<n→∀ x,x∈ob B→x∉X
theorem gz:nI n B []:=fun _ x _=>by simp
theorem fy{g:Nat}{X:List Nat}(h:0<n→∀ x,x∈ob B→x≠g)(k:nI n B X) : nI n B (g :: X):=fun hn x hx=>by
  rw[List.mem_cons]
  rintro(e|e)
  · exact h hn x hx e
  · exact k hn x hx e
theorem eZ{A:Option Addr}{X:List Nat}(h:nI n B (ob A))(k:nI n B X) : nI n B (ob A++X):=fun hn x hx=>by
  rw[List.mem_append]
  rintro(e|e)
  · exact h hn x hx e
  · exact k hn x hx e
theorem iH{A A0:Option Addr}{w:World}(h:nI n B (ob A0))(hl:0<n→∀ x,x∈ob B→x<w.heap.size)(hat:∀ x,x∈ob A→x∈ob A0∨w.heap.size≤x) : nI n B (ob A):=fun hn x hx hx2=>by
  rcases hat x hx2 with k|k
  · exact h hn x hx k
  · have:=hl hn x hx;omega
theorem gB{α:Type}{base sz:Nat}{e:TypeId}{R:World→α→List Value→Prop}{w w':World}{A:Option Addr}{m c:Nat}{xs:List α}(hl:0<n→∀ x,x∈ob B→x<w.heap.size)(h:aT base e sz R w' (.slice A m c) xs)(hs:w.heap.size≤base) : nI n B (ob A):=fun hn x hx hx2=>by
  have:=hl hn x hx
  have:=nO h x hx2
  omega
theorem aG.low{α:Type}{m:Md}{e:TypeId}{sz c:Nat}{R:World→α→List Value→Prop}{w:World}{xs:List α}(h:aG m e sz R w (.slice B n c) xs) : 0<n→∀ x,x∈ob B→x<w.heap.size:=fun hn x hx=>by
  obtain⟨A',c',hv,_,_,_,h3⟩:=h
  injection hv with e1 e2 e3
  subst e1 e2 e3
  obtain⟨b,off,cells,t,fr,rfl,hh,_⟩:=h3 hn
  simp[ob] at hx
  subst hx
  exact ai hh
theorem aV.far{m:Md}{c:Nat}{w w':World}{xs:List Int}{X:List Nat}(h:aV m w (.slice B n c) xs)(hu:aC X w w')(hd:nI n B X) : aV m w' (.slice B n c) xs:=by
  obtain⟨A',c',hv,h1,h2,h0,h3⟩:=h
  injection hv with e1 e2 e3
  subst e1 e2 e3
  refine⟨_,_,rfl,h1,h2,h0,fun hp=>?_⟩
  obtain⟨b,off,cells,t,fr,rfl,hh,h4,h5⟩:=h3 hp
  exact⟨b,off,cells,t,fr,rfl,hu.blk (hd hp b (by simp[ob])) hh,h4,h5⟩
end
open Go.RowKit
def pn (n:Nat)(X:List Nat)(w:World) : Prop:=∀ y,y∈X→n≤y∨∃ cells t fr,w.heap[y]? = some (.cells cells t fr)∧t∉dZ
def p8 (p n:Nat)(X:List Nat)(w:World) : Prop:=∀ y,y∈X→n≤y∨∃ cells t fr,w.heap[y]? = some (.cells cells t fr)∧(t∉dZ∨y<p)
theorem pn.two{p n:Nat}{X:List Nat}{w:World}(h:pn n X w) : p8 p n X w:=fun y hy=>(h y hy).imp_right fun⟨c,t,fr,k,q⟩=>⟨c,t,fr,k,.inl q⟩
theorem p8.le{p p' n:Nat}{X:List Nat}{w:World}(hp:p'≤p)(h:p8 p' n X w) : p8 p n X w:=fun y hy=>(h y hy).imp_right fun⟨c,t,fr,k,q⟩=>⟨c,t,fr,k,q.imp_right fun z=>Nat.lt_of_lt_of_le z hp⟩
def bV (p n:Nat)(w:World)(x:Ev)(cs:List Value) : Prop:=n≤w.heap.size∧∀ (w':World)(X:List Nat),aC X w w'→p8 p n X w→f9 (.hi p) w' x cs
theorem bV.mk{p:Nat}{w:World}{x:Ev}{cs:List Value}(h:f9 (.hi p) w x cs) : bV p w.heap.size w x cs:=⟨Nat.le_refl _,fun w' X hu ha=>f9.upd hu (fun y hy=>by
  rcases ha y hy with k|⟨c,t,fr,k,k2⟩
  · exact .inl k
  · exact .inr ⟨rfl,c,t,fr,k,k2⟩) x cs h⟩
theorem bV.hi{p n:Nat}{w:World}{x:Ev}{cs:List Value}(h:bV p n w x cs) : f9 (.hi p) w x cs:=h.2 w [] (aC.refl _ _) (fun y hy=>by cases hy)
theorem bV.ev{p n:Nat}{w:World}{x:Ev}{cs:List Value}(h:bV p n w x cs) : f9 true w x cs:=h.hi.tt
theorem bV.mono{p n n':Nat}{w:World}{x:Ev}{cs:List Value}(hn:n≤n')(hs:n'≤w.heap.size)(h:bV p n w x cs) : bV p n' w x cs:=⟨hs,fun w' X hu ha=>h.2 w' X hu fun y hy=>by
  rcases ha y hy with k|k
  · exact .inl (Nat.le_trans hn k)
  · exact .inr k⟩
theorem bV.lo{p p' n:Nat}{w:World}{x:Ev}{cs:List Value}(hp:p'≤p)(h:bV p n w x cs) : bV p' n w x cs:=⟨h.1,fun w' X hu ha=>(h.2 w' X hu (ha.le hp)).lo hp⟩
theorem bV.upd2{p n:Nat}{w w':World}{X:List Nat}{x:Ev}{cs:List Value}(hu:aC X w w')(ha:p8 p n X w)(h:bV p n w x cs) : bV p n w' x cs:=by
  refine⟨Nat.le_trans h.1 hu.size,fun w2 X2 hu2 ha2=>h.2 w2 (X++X2) ?_ ?_⟩
  · exact aC.trans' (aC.mono hu (fun y hy=>.inl (List.mem_append_left _ hy))) hu2 (fun y hy=>.inl (List.mem_append_right _ hy))
  · intro y hy
    rcases List.mem_append.1 hy with hy|hy
    · exact ha y hy
    · rcases ha2 y hy with k | ⟨cells,t,fr,k1,k2⟩
      · exact .inl k
      · by_cases hl:y<w.heap.size
        · by_cases hX:y∈X
          · exact ha y hX
          · exact .inr ⟨cells,t,fr,by rw[← hu.block y hl hX];exact k1,k2⟩
        · exact .inl (Nat.le_trans h.1 (by omega))
theorem bV.upd{p n:Nat}{w w':World}{X:List Nat}{x:Ev}{cs:List Value}(hu:aC X w w')(ha:pn n X w)(h:bV p n w x cs) : bV p n w' x cs:=h.upd2 hu ha.two
theorem bV.ones{p n:Nat}{w:World}:∀ (x:Ev)(cs:List Value),bV p n w x cs→∀ v,v∈cs→v.oneCell'=true:=fun x cs h=>f9.ones x cs h.hi
abbrev ft (n base:Nat) (w:World) (v:Value) (xs:List Ev) : Prop:=aT base 87 25 (bV base n) w v xs
theorem aT.map{α:Type}{base sz:Nat}{e:TypeId}{R R':World→α→List Value→Prop}{w:World}{v:Value}{xs:List α}(h:aT base e sz R w v xs)(k:∀ x cs,R w x cs→R' w x cs) : aT base e sz R' w v xs:=by
  obtain⟨cells,ho,hx⟩:=h
  refine⟨cells,ho,fun j x hj=>?_⟩
  obtain⟨cs,h1,h2,h3⟩:=hx j x hj
  exact⟨cs,h1,k _ _ h2,h3⟩
theorem tK.low{base:Nat}{w:World}{v:Value}{xs:List Ev}(h:tK base w v xs) : ft w.heap.size base w v xs:=aT.map h fun _ _=>bV.mk
theorem tH{p base:Nat}{w:World}{v:Value}{xs:List Ev}(h:aT base 87 25 (f9 (.hi p)) w v xs) : aT base 87 25 (bV p w.heap.size) w v xs:=aT.map h fun _ _=>bV.mk
theorem ft.own{n base:Nat}{w:World}{v:Value}{xs:List Ev}(h:ft n base w v xs) : qV base w v xs:=aT.map h fun _ _ q=>q.ev
theorem ft.up{n n' base:Nat}{w:World}{v:Value}{xs:List Ev}(hn:n≤n')(hs:n'≤w.heap.size)(h:ft n base w v xs) : ft n' base w v xs:=aT.map h fun _ _ q=>q.mono hn hs
theorem ft.lo{n base base':Nat}{w:World}{v:Value}{xs:List Ev}(h:ft n base w v xs)(hb:base'≤base) : ft n base' w v xs:=aT.weaken (aT.map h fun _ _ q=>q.lo hb) hb
theorem dU{n:Nat}{w:World}:pn n [] w:=fun y hy=>by cases hy
theorem kz{n g:Nat}{w:World}{cs:Array Value}{t:TypeId}{fr:Nat × Nat}{X:List Nat}(hb:w.heap[g]? = some (.cells cs t fr))(ht:dZ.contains t=false)(k:pn n X w) : pn n (g :: X) w:=fun y hy=>by
  rcases List.mem_cons.1 hy with rfl|hy
  · exact .inr ⟨cs,t,fr,hb,by simpa using ht⟩
  · exact k y hy
theorem km{n:Nat}{w:World}{A:Option Addr}{X:List Nat}(h:∀ x,x∈ob A→n≤x)(k:pn n X w) : pn n (ob A++X) w:=fun y hy=>by
  rcases List.mem_append.1 hy with hy|hy
  · exact .inl (h y hy)
  · exact k y hy
theorem pz{α:Type}{n base sz m c:Nat}{e:TypeId}{R:World→α→List Value→Prop}{w:World}{A:Option Addr}{xs:List α}{X:List Nat}(h:aT base e sz R w (.slice A m c) xs)(ht:dZ.contains e=false)(k:pn n X w) : pn n (ob A++X) w:=fun y hy=>by
  rcases List.mem_append.1 hy with hy|hy
  · rcases cU h with rfl | ⟨g,cells,rfl,_,h1⟩
    · simp[ob] at hy
    · simp[ob] at hy
      subst hy
      exact .inr ⟨_,_,_,h1,by simpa using ht⟩
  · exact k y hy
theorem gG{n:Nat}:∀ x,x∈ob none→n≤x:=fun x hx=>by simp[ob] at hx
theorem sd{n:Nat}{A A0:Option Addr}{w:World}(hat:∀ x,x∈ob A→x∈ob A0∨w.heap.size≤x)(h:∀ x,x∈ob A0→n≤x)(hs:n≤w.heap.size) : ∀ x,x∈ob A→n≤x:=fun x hx=>by
  rcases hat x hx with k|k
  · exact h x k
  · exact Nat.le_trans hs k
section
variable {n base g cp:Nat}{w w':World}{A:Option Addr}{X:List Nat}
theorem lh:∀ x,x∈ob none→x∉X:=fun x hx=>by simp[ob] at hx
theorem sK{t:TypeId}(hb:∃ cs fr,w.heap[g]? = some (.cells cs t fr))(ht:dZ.contains t=false)(k:pn n X w) : pn n (g :: X) w:=by
  obtain⟨cs,fr,hb⟩:=hb
  exact kz hb ht k
theorem kT{n':Nat}(hn:n≤n')(h:∀ x,x∈ob A→n'≤x) : ∀ x,x∈ob A→n≤x:=fun x hx=>Nat.le_trans hn (h x hx)
theorem ly{k:Nat}{B:Option Addr}(hl:0<k→∀ x,x∈ob B→x<w.heap.size)(hg:w.heap.size≤g) : 0<k→∀ x,x∈ob B→x≠g:=fun hk x hx e=>by
  have:=hl hk x hx
  omega
theorem l5{k:Nat}{B:Option Addr}(h:g∉ob B) : 0<k→∀ x,x∈ob B→x≠g:=fun _ x hx e=>h (e▸hx)
theorem pH{k:Nat}{B:Option Addr}:nI k B (ob none):=fun _ x _ hx=>by simp[ob] at hx
theorem j9{k:Nat}{B:Option Addr}(h:∀ x,x∈ob B→x∉ob A) : nI k B (ob A):=fun _ x hx=>h x hx
end
open Go.RowKit
theorem w6{C:Prop}(S:SM)(h0:S.nx=0→C)(h1:S.nx=1→C)(h2:S.nx=2→C)(h3:S.nx=3→C) : C:=by
  have h:S.nx=0∨S.nx=1∨S.nx=2∨S.nx=3:=by
    unfold SM.nx
    (repeat' split)<;>simp
  rcases h with h|h|h|h
  · exact h0 h
  · exact h1 h
  · exact h2 h
  · exact h3 h
theorem uf{S:SM}(h:S.nx≠0) : 6≤S.held.length:=by
  unfold SM.nx at h
  split at h
  · exact absurd rfl h
  · omega
theorem lP{w:World}{g:Nat}{S:SM}{A:Option Addr}{cp:Nat}(hb:jD w g S A cp)(hr:aV true w (.slice A S.held.length cp) S.held)(h:S.nx=0) : Calls Tryz.prog 52 #[.pointer (some ⟨g,0,none⟩)] w (cg (.nilFunc) w):=by
  have k:=fb hb hr
  unfold SM.fn at k
  rw[h] at k
  exact k
theorem lm{w:World}{g:Nat}{S:SM}{A:Option Addr}{cp:Nat}(hb:jD w g S A cp)(hr:aV true w (.slice A S.held.length cp) S.held)(h:S.nx=1) : Calls Tryz.prog 52 #[.pointer (some ⟨g,0,none⟩)] w (cg (.func (.func 75) #[.pointer (some ⟨g,0,none⟩)] #[]) w):=by
  have k:=fb hb hr
  unfold SM.fn at k
  rw[h] at k
  exact k
theorem mn{w:World}{g:Nat}{S:SM}{A:Option Addr}{cp:Nat}(hb:jD w g S A cp)(hr:aV true w (.slice A S.held.length cp) S.held)(h:S.nx=2) : Calls Tryz.prog 52 #[.pointer (some ⟨g,0,none⟩)] w (cg (.func (.func 76) #[.pointer (some ⟨g,0,none⟩)] #[]) w):=by
  have k:=fb hb hr
  unfold SM.fn at k
  rw[h] at k
  exact k
theorem ma{w:World}{g:Nat}{S:SM}{A:Option Addr}{cp:Nat}(hb:jD w g S A cp)(hr:aV true w (.slice A S.held.length cp) S.held)(h:S.nx=3) : Calls Tryz.prog 52 #[.pointer (some ⟨g,0,none⟩)] w (cg (.func (.func 77) #[.pointer (some ⟨g,0,none⟩)] #[]) w):=by
  have k:=fb hb hr
  unfold SM.fn at k
  rw[h] at k
  exact k
def SM.ok (S:SM) : Prop:=(0≤S.skip∧S.skip<65536)∧(∀ x,x∈S.held→0≤x∧x<256)∧(S.held.length<6∨2≤S.size∧S.size≤254∧(S.held.length:Int)<6+S.size)
theorem SM.ok_le{S:SM}(h:S.ok) : S.held.length≤259:=by
  obtain⟨_,_,h|h⟩:=h
  · omega
  · omega
theorem SM.size_app{S:SM}{c:Int}(h:6≤S.held.length) : (SM.mk S.dir (S.held++[c]) S.skip).size=S.size:=by
  unfold SM.size
  simp only[List.getD_eq_getElem?_getD]
  rw[List.getElem?_append_left (by omega),List.getElem?_append_left (by omega)]
theorem SM.byte_ok{S S2:SM}{c:Int}{L2:List Ev}(h:S.ok)(hc:0≤c∧c<256)(hx:S.byte c=(S2,L2)) : S2.ok∧L2.length≤1:=by
  obtain⟨h1,h2,h3⟩:=h
  unfold SM.byte at hx
  split at hx
  · injection hx with e1 e2
    subst e1 e2
    exact⟨⟨⟨by show 0≤S.skip-1;omega,by show S.skip-1<65536;omega⟩,h2,h3⟩,Nat.zero_le _⟩
  have hr:∀ x,x∈(SM.mk S.dir (S.held++[c]) S.skip).held→0≤x∧x<256:=fun x hx=>by
    rcases List.mem_append.1 hx with h|h
    · exact h2 x h
    · rw[List.mem_singleton] at h;rw[h];exact hc
  have hz:=SM.size_rng hr
  have hn:∀ d k,(0≤k∧k<65536)→(SM.mk d [] k).ok:=fun d k hk=>⟨hk,fun x hx=>(by cases hx),.inl (show 0<6 by omega)⟩
  unfold SM.does at hx
  have hnx:∀ i,(SM.mk S.dir (S.held++[c]) S.skip).nx=i→i=0∨i=1∨i=2∨i=3:=by
    intro i hi
    subst hi
    unfold SM.nx
    (repeat' split)<;>simp
  rcases hnx _ rfl with e|e|e|e<;>rw[e] at hx<;>injection hx with e1 e2<;>subst e1 e2
  · refine⟨⟨h1,hr,?_⟩,Nat.zero_le _⟩
    unfold SM.nx at e
    by_cases h6:(SM.mk S.dir (S.held++[c]) S.skip).held.length<6
    · exact .inl h6
    rw[if_neg h6] at e
    split at e
    · cases e
    split at e
    · cases e
    split at e
    · cases e
    rename_i k1 k2 k3
    refine .inr ⟨by omega,by omega,?_⟩
    have hl:(SM.mk S.dir (S.held++[c]) S.skip).held.length=S.held.length+1:=by simp
    rcases h3 with h3|⟨h4,h5,h7⟩
    · omega
    · by_cases h8:6≤S.held.length
      · rw[SM.size_app h8] at k1 k2 k3 ⊢
        omega
      · omega
  · exact⟨hn _ _ hz,Nat.le_refl _⟩
  · exact⟨hn _ _ hz,Nat.le_refl _⟩
  · exact⟨hn _ _ h1,Nat.le_refl _⟩
theorem fR{S0 T T2:SM}{L L2:List Ev}{b:List Int}{k:Nat}(hk:k<b.length)(h:(T,L)=S0.feed (b.take k))(hx:T.byte (b.getD k 0)=(T2,L2)) : (T2,L++L2)=S0.feed (b.take (k+1)):=by
  rw[List.take_succ_eq_append_getElem hk]
  unfold SM.feed at h ⊢
  rw[List.foldl_append,← h]
  rw[List.getD_eq_getElem?_getD,List.getElem?_eq_getElem hk] at hx
  simp only[Option.getD_some] at hx
  simp only[List.foldl_cons,List.foldl_nil,hx]
theorem gx{S0 T T2:SM}{L:List Ev}{b:List Int}{k:Nat}(hk:k<b.length)(h:(T,L)=S0.feed (b.take k))(hx:T.byte (b.getD k 0)=(T2,[])) : (T2,L)=S0.feed (b.take (k+1)):=by
  have:=fR hk h hx
  rwa [List.append_nil] at this
theorem jY{T:SM}{c:Int}(h:0<T.skip) : T.byte c=(⟨T.dir,T.held,T.skip-1⟩,[]):=by unfold SM.byte;rw[if_pos h]
theorem mR{T:SM}{c:Int}(h:¬ 0<T.skip)(e:(SM.mk T.dir (T.held++[c]) T.skip).nx=0) : T.byte c=(⟨T.dir,T.held++[c],T.skip⟩,[]):=by unfold SM.byte;rw[if_neg h];unfold SM.does;rw[e];rfl
theorem pL{T:SM}{c:Int}(h:¬ 0<T.skip)(e:(SM.mk T.dir (T.held++[c]) T.skip).nx=1) : T.byte c=(⟨T.dir,[],(SM.mk T.dir (T.held++[c]) T.skip).size⟩,[Ev.bad 3]):=by unfold SM.byte;rw[if_neg h];unfold SM.does;rw[e];rfl
theorem px{T:SM}{c:Int}(h:¬ 0<T.skip)(e:(SM.mk T.dir (T.held++[c]) T.skip).nx=2) : T.byte c=(⟨T.dir,[],(SM.mk T.dir (T.held++[c]) T.skip).size⟩,[Ev.bad 5]):=by unfold SM.byte;rw[if_neg h];unfold SM.does;rw[e];rfl
theorem r5{T:SM}{c:Int}{F:dx}{E:Int}(h:¬ 0<T.skip)(e:(SM.mk T.dir (T.held++[c]) T.skip).nx=3)(hX:bZ T.dir (T.held++[c])=(F,E)) : T.byte c=(⟨T.dir,[],T.skip⟩,[⟨E,F⟩]):=by
  unfold SM.byte
  rw[if_neg h]
  unfold SM.does
  rw[e]
  show(SM.mk T.dir [] T.skip,[Ev.mk (bZ T.dir (T.held++[c])).2 (bZ T.dir (T.held++[c])).1])=_
  rw[hX]
theorem jJ{w:World}{g:Nat}{d k:Int}{h:List Int}{A:Option Addr}{cp:Nat}{F:dx}{E:Int}(hX:bZ d h=(F,E))(hb:jD w g ⟨d,h,k⟩ A cp)(hr:aV true w (.slice A h.length cp) h)(hl:h.length≤1048576) : Calls Tryz.prog 77 #[.pointer (some ⟨g,0,none⟩)] w (uh ⟨d,[],k⟩ [⟨E,F⟩] g w):=by
  have q:=lT (S:=⟨d,h,k⟩) hb hr hl
  rw[hX] at q
  exact q
def wa (base n0:Nat)(S2:SM)(L:List Ev)(g:Nat)(A:Option Addr)(w:World)(e:Ending)(w':World) : Prop:=∃ v A2 cp2 n2,e = .returned v∧ft n2 w.heap.size w' v L∧jD w' g S2 A2 cp2∧fq base w' (.slice A2 S2.held.length cp2) S2.held∧(∀ x,x∈ob A2→x∈ob A∨w.heap.size≤x)∧(n0≤n2∧n2≤w'.heap.size)∧(∀ x,x∈ob A2→n2≤x)∧aC (g :: (ob A++[])) w w'
theorem jj{b:List Int}(h:∀ x,x∈b→0≤x∧x<256)(k:Nat) : 0≤b.getD k 0∧b.getD k 0<256:=by
  rw[List.getD_eq_getElem?_getD]
  cases hj:b[k]? with
  | none=>simp
  | some x=>exact h x (List.mem_of_getElem? hj)
theorem lL{w:World}{g base:Nat}{S:SM}{A:Option Addr}{cp:Nat}{m:Md}{B:Option Addr}{cpb:Nat}{b:List Int}(hb:jD w g S A cp)(ho:fq base w (.slice A S.held.length cp) S.held)(hbs:base≤w.heap.size)(hok0:S.ok){n0:Nat}(hn0:n0≤w.heap.size)(hlo:∀ x,x∈ob A→n0≤x)(hsl:aV m w (.slice B b.length cpb) b)(hdg:0<b.length→∀ x,x∈ob B→x≠g)(hda:nI b.length B (ob A))(hbl:b.length≤1048576) :
    Calls Tryz.prog 16 #[vP g 0,.slice B b.length cpb] w (wa base n0 (S.feed b).1 (S.feed b).2 g A w):=by
 have hdl:=aG.low hsl
 have hok0l:=SM.ok_le hok0
 have hrb:=aV.range hsl
 refine en 47 Tryz.func16 rfl<|al 1<|cJ 1<|sq<|az 3<|bk<|?_
 refine iq (fun x=>[(0,vP g 0),(4,nS),(5,.slice x.2.2.2.2.2.1 x.2.2.1.length x.2.2.2.2.2.2.1),(9,.slice B b.length cpb),(10,vI (b.length:Int)),(11,vI (x.1:Int))]) (fun(x:Nat × SM × List Ev × Option Addr × Nat × Option Addr × Nat × Nat) w'=>aC (g :: (ob A++[])) w w'∧jD w' g x.2.1 x.2.2.2.1 x.2.2.2.2.1∧fq base w' (.slice x.2.2.2.1 x.2.1.held.length x.2.2.2.2.1) x.2.1.held∧ft x.2.2.2.2.2.2.2 w.heap.size w' (.slice x.2.2.2.2.2.1 x.2.2.1.length x.2.2.2.2.2.2.1) x.2.2.1∧x.2.2.2.2.2.2.2≤w'.heap.size∧aV m w' (.slice B b.length cpb) b∧((x.2.1,x.2.2.1)=S.feed (b.take x.1))∧(x.2.1.ok)∧(x.2.1.held.length≤259)∧(x.1≤b.length)∧(x.2.2.1.length≤x.1)∧(∀ y,y∈ob x.2.2.2.1→y∈ob A∨w.heap.size≤y)∧(n0≤x.2.2.2.2.2.2.2)∧(∀ y,y∈ob x.2.2.2.1→x.2.2.2.2.2.2.2≤y)) (fun x=>b.length-x.1) (0,S,[],A,cp,none,0,n0) ⟨aC.refl _ _,hb,ho,(aT.nil w.heap.size _ _ (bV w.heap.size n0) _),(Nat.le_trans hn0 lr),hsl,rfl,hok0,hok0l,(by(try dsimp only);exact Nat.zero_le _),(by(try dsimp only);exact Nat.zero_le _),r2,(by(try dsimp only);exact Nat.le_refl _),hlo⟩ ?_
 rintro⟨k,T,L,Ah,ch,Bq,cq,n⟩ E ⟨j,aP,aR,aS,aU,aW,aX,aY,aZ,b0,b1,b2,b3,b4⟩
 refine fs [(0,vP g 0),(4,nS),(5,.slice Bq L.length cq),(9,.slice B b.length cpb),(10,vI (b.length:Int)),(11,vI (k:Int))] ?_
 have f:jD E g T Ah ch:=aP
 have r:fq base E (.slice Ah T.held.length ch) T.held:=aR
 have a:ft n w.heap.size E (.slice Bq L.length cq) L:=aS
 have b5:n≤E.heap.size:=aU
 have hnl:=b5
 have z:aV m E (.slice B b.length cpb) b:=aW
 have b6:(T,L)=S.feed (b.take k):=aX
 have b8:T.ok:=aY
 have bL:T.held.length≤259:=aZ
 have bM:k≤b.length:=b0
 have bN:L.length≤k:=b1
 have b9:∀ y,y∈ob Ah→y∈ob A∨w.heap.size≤y:=b2
 have ba:n0≤n:=b3
 have bb:∀ y,y∈ob Ah→n≤y:=b4
 have hlow:=bb
 have hn0l:=ba
 have hat0:=b9
 have hok:=b8
 have hpj:=b6
 have hle:=SM.ok_le hok
 have hsk:=hok.1
 refine az 1<|sq<|cb ((decide ((k:Int)<(b.length:Int)))) (fun X=>?_) (fun X=>?_)
 have bc:=of_decide_eq_true X
 refine bu<|sq<|bk<|sg<|eH (aV.at_ z k (by omega)) fun bd bf bg bh bO=>L0<|ia b.length k bg (by omega)<|L0<|er (p:=⟨bd,bf+k,none⟩) (v:=vB (b.getD k 0)) bh<|am 1<|sq<|sq<|go<|Pl 3<|aF f 2<|am 1<|cb ((decide (0<T.skip))) (fun Y=>?_) (fun Y=>?_)
 have C:=of_decide_eq_true Y
 refine al 3<|aF f 2<|bt (T.skip-1)<|Pl 2<|L0<|bE f 2 #[vI T.dir,.slice Ah T.held.length ch,vI (T.skip-1)] fun bP bi D=>nt<|xt<|tx<|bx<|tn<|go<|bt ((k:Int)+1)<|Pl 1<|nl<|?_
 have a2:=jY (T:=T) (c:=(b.getD k 0)) C
 have a3:=SM.byte_ok hok (jj hrb k) a2
 exact fv ((k+1),(SM.mk T.dir T.held (T.skip-1)),L,Ah,ch,Bq,cq,n) ⟨(u1 j D im),bi,(av r D (fun x hx=>(aa (fun e=>(db f r (by decide)) (e▸hx)) ax)) (fun _ _ h=>h)),(av a D (fun x hx=>(aa (fun e=>(aD (ai hb) lr a) (e▸hx)) ax)) (fun x cs q=>bV.upd D (kz f (by decide) dU) q)),(Nat.le_trans hnl D.size),(aV.far z D (fy hdg gz)),(by(try dsimp only);exact gx (by omega) hpj a2),(by(try dsimp only);exact a3.1),(by(try dsimp only);have q:=SM.ok_le a3.1;exact q),(by(try dsimp only);omega),(by(try dsimp only);(try simp only[ef]);omega),(by(try dsimp only);exact hat0),(by(try dsimp only);exact hn0l),(by(try dsimp only);exact hlow)⟩ (by omega)
 have C:=of_decide_eq_false Y
 refine bu<|al 4<|aF f 1<|Pl 1<|L0<|gv (m:=1) (e:=5) #[vB (b.getD k 0)] fun bQ bR bj bl l=>?_
 have bm:=mh bj (xs:=[(b.getD k 0)]) (by as_aux_lemma=>kernel_rfl) (aO (by omega) dB) (by(try simp only[List.length_cons,List.length_nil]);omega) bl
 refine L0<|iL (R:=mv) (xs:=T.held) (ys:=([(b.getD k 0)])) (vB 0) 1 1 (av r l (fun x hx=>ax) (fun _ _ h=>h)) (bm).rd kY (fun _ _ _ _ h=>h) (by(try simp only[ef,be]);omega) (Nat.le_trans hbs (le j.size l.size)) fun a4 a5 bS s u a6=>Pl 2<|?_
 have a7:=ut (aC.mono (S':=(ob Ah++[])) l aA) u (aH il aA)
 have F:=aC.blk a7 (b7 (db f r (by decide)) ax) f
 refine L0<|bE F 1 #[vI T.dir,.slice a4 ((T.held++[(b.getD k 0)]).length) a5,vI T.skip] fun bT t o=>aK 1<|?_
 have G:=u1 (aC.mono (S':=(ob Ah++(g :: []))) a7 (aH il aA)) o im
 have O:=ut j G (aH (iB hat0 il lr) (ac im aA))
 refine w6 (SM.mk T.dir (T.held++[(b.getD k 0)]) T.skip) (fun i=>?_) (fun i=>?_) (fun i=>?_) (fun i=>?_)
 have a8:=av s o (fun x hx=>(aa (fun e=>(db F s (by decide)) (e▸hx)) ax)) (fun _ _ h=>h)
 refine aq<|m1 (lP (S:=(SM.mk T.dir (T.held++[(b.getD k 0)]) T.skip)) t (a8).rd i) fun bU P=>Pl 1<|cJ 2<|c0<|sk<|bn<|tn<|go<|bt ((k:Int)+1)<|Pl 1<|nl<|?_
 have Q:=aQ G P
 have a9:=mR (T:=T) (c:=(b.getD k 0)) C i
 have ab:=SM.byte_ok hok (jj hrb k) a9
 exact fv ((k+1),(SM.mk T.dir (T.held++[(b.getD k 0)]) T.skip),L,a4,a5,Bq,cq,n) ⟨(aQ O P),(ub P t),(av a8 P (fun x hx=>ax) (fun _ _ h=>h)),(av a Q (fun x hx=>(b7 ((ci a r (by decide)) x hx) (aa (fun e=>(aD (ai hb) lr a) (e▸hx)) ax))) (fun x cs q=>bV.upd Q (km hlow (kz f (by decide) dU)) q)),(Nat.le_trans hnl Q.size),(aV.far z Q (eZ (iH hda hdl hat0) (fy hdg gz))),(by(try dsimp only);exact gx (by omega) hpj a9),(by(try dsimp only);exact ab.1),(by(try dsimp only);have q:=SM.ok_le ab.1;exact q),(by(try dsimp only);omega),(by(try dsimp only);(try simp only[ef]);omega),(by(try dsimp only);exact(og a6 hat0 (le j.size l.size))),(by(try dsimp only);exact hn0l),(by(try dsimp only);exact(sd a6 hlow (Nat.le_trans hnl l.size)))⟩ (by omega)
 have ad:=av s o (fun x hx=>(aa (fun e=>(db F s (by decide)) (e▸hx)) ax)) (fun _ _ h=>h)
 refine aq<|m1 (lm (S:=(SM.mk T.dir (T.held++[(b.getD k 0)]) T.skip)) t (ad).rd i) fun bW H=>Pl 1<|cJ 2<|c1<|go<|Pl 2<|?_
 refine L0<|fV #[vP g 0] #[] (args:=#[vP g 0])<|iG (nm (S:=(SM.mk T.dir (T.held++[(b.getD k 0)]) T.skip)) (ub H t) ((av ad H (fun x hx=>ax) (fun _ _ h=>h))).rd (uf (by rw[i];decide))) fun bX bY Z bo c2 c3 bp ae=>?_
 have af:=uz H ae
 have I:=u1 G af im
 have ag:=av a I (fun x hx=>(b7 ((ci a r (by decide)) x hx) (aa (fun e=>(aD (ai hb) lr a) (e▸hx)) ax))) (fun x cs q=>bV.upd I (km hlow (kz f (by decide) dU)) q)
 have bq:n≤Z.heap.size:=Nat.le_trans hnl I.size
 refine L0<|iL (R:=bV w.heap.size Z.heap.size) (xs:=L) (ys:=([Ev.bad 3])) (.agg #[vI 0,vB 0,vW 0,vB 0,vB 0,vW 0,vW 0,vW 0,vW 0,vW 0,vW 0,vW 0,vW 0,vW 0,vW 0,nS,nS,nS,nS,vB 0,vB 0,vB 0,vB 0,vB 0,nS]) 25 168 (ft.up bq (Nat.le_refl _) ag) (tH (aT.map bo fun _ _ q=>q.lo (le (le (le (le j.size l.size) u.size) o.size) H.size))).rd bV.ones (fun w' hv x cs q=>bV.upd hv (pz ag (by decide) dU) q) (by(try simp only[ef,be]);omega) (le (le (le (le (le j.size l.size) u.size) o.size) H.size) ae.size) fun br bs c4 bv U c5=>Pl 1<|nl<|bn<|tn<|go<|bt ((k:Int)+1)<|Pl 1<|nl<|?_
 have ah:=pL (T:=T) (c:=(b.getD k 0)) C i
 have aj:=SM.byte_ok hok (jj hrb k) ah
 exact fv ((k+1),(SM.mk T.dir [] (SM.mk T.dir (T.held++[(b.getD k 0)]) T.skip).size),(L++[Ev.bad 3]),none,0,br,bs,Z.heap.size) ⟨(ut O (ut (aC.mono (S':=(g :: (ob Bq++[]))) af (ac im aA)) U (aH il aA)) (ac im (aH (c7 a lr) aA))),(aC.blk U (b7 (aD (ai hb) lr a) ax) bp),(aT.nil base _ _ mv _),bv,U.size,(aV.far z (ut (aC.mono (S':=(ob Ah++(g :: (ob Bq++[])))) I (aH il (ac im aA))) U (aH il aA)) (eZ (iH hda hdl hat0) (fy hdg (eZ (gB hdl a (Nat.le_refl _)) gz)))),(by(try dsimp only);exact fR (by omega) hpj ah),(by(try dsimp only);exact aj.1),(by(try dsimp only);have q:=SM.ok_le aj.1;exact q),(by(try dsimp only);omega),(by(try dsimp only);(try simp only[ef]);omega),(by(try dsimp only);exact ji),(by(try dsimp only);exact Nat.le_trans hn0l (Nat.le_trans hnl I.size)),(by(try dsimp only);exact gG)⟩ (by omega)
 have ak:=av s o (fun x hx=>(aa (fun e=>(db F s (by decide)) (e▸hx)) ax)) (fun _ _ h=>h)
 refine aq<|m1 (mn (S:=(SM.mk T.dir (T.held++[(b.getD k 0)]) T.skip)) t (ak).rd i) fun c6 J=>Pl 1<|cJ 2<|c1<|go<|Pl 2<|?_
 refine L0<|fV #[vP g 0] #[] (args:=#[vP g 0])<|iG (lB (S:=(SM.mk T.dir (T.held++[(b.getD k 0)]) T.skip)) (ub J t) ((av ak J (fun x hx=>ax) (fun _ _ h=>h))).rd (uf (by rw[i];decide))) fun c8 c9 a0 bw ca cc bz an=>?_
 have ao:=uz J an
 have K:=u1 G ao im
 have ap:=av a K (fun x hx=>(b7 ((ci a r (by decide)) x hx) (aa (fun e=>(aD (ai hb) lr a) (e▸hx)) ax))) (fun x cs q=>bV.upd K (km hlow (kz f (by decide) dU)) q)
 have bA:n≤a0.heap.size:=Nat.le_trans hnl K.size
 refine L0<|iL (R:=bV w.heap.size a0.heap.size) (xs:=L) (ys:=([Ev.bad 5])) (.agg #[vI 0,vB 0,vW 0,vB 0,vB 0,vW 0,vW 0,vW 0,vW 0,vW 0,vW 0,vW 0,vW 0,vW 0,vW 0,nS,nS,nS,nS,vB 0,vB 0,vB 0,vB 0,vB 0,nS]) 25 168 (ft.up bA (Nat.le_refl _) ap) (tH (aT.map bw fun _ _ q=>q.lo (le (le (le (le j.size l.size) u.size) o.size) J.size))).rd bV.ones (fun w' hv x cs q=>bV.upd hv (pz ap (by decide) dU) q) (by(try simp only[ef,be]);omega) (le (le (le (le (le j.size l.size) u.size) o.size) J.size) an.size) fun bB bC cd bD V ce=>Pl 1<|nl<|bn<|tn<|go<|bt ((k:Int)+1)<|Pl 1<|nl<|?_
 have ar:=px (T:=T) (c:=(b.getD k 0)) C i
 have au:=SM.byte_ok hok (jj hrb k) ar
 exact fv ((k+1),(SM.mk T.dir [] (SM.mk T.dir (T.held++[(b.getD k 0)]) T.skip).size),(L++[Ev.bad 5]),none,0,bB,bC,a0.heap.size) ⟨(ut O (ut (aC.mono (S':=(g :: (ob Bq++[]))) ao (ac im aA)) V (aH il aA)) (ac im (aH (c7 a lr) aA))),(aC.blk V (b7 (aD (ai hb) lr a) ax) bz),(aT.nil base _ _ mv _),bD,V.size,(aV.far z (ut (aC.mono (S':=(ob Ah++(g :: (ob Bq++[])))) K (aH il (ac im aA))) V (aH il aA)) (eZ (iH hda hdl hat0) (fy hdg (eZ (gB hdl a (Nat.le_refl _)) gz)))),(by(try dsimp only);exact fR (by omega) hpj ar),(by(try dsimp only);exact au.1),(by(try dsimp only);have q:=SM.ok_le au.1;exact q),(by(try dsimp only);omega),(by(try dsimp only);(try simp only[ef]);omega),(by(try dsimp only);exact ji),(by(try dsimp only);exact Nat.le_trans hn0l (Nat.le_trans hnl K.size)),(by(try dsimp only);exact gG)⟩ (by omega)
 have aw:=av s o (fun x hx=>(aa (fun e=>(db F s (by decide)) (e▸hx)) ax)) (fun _ _ h=>h)
 refine aq<|m1 (ma (S:=(SM.mk T.dir (T.held++[(b.getD k 0)]) T.skip)) t (aw).rd i) fun cf M=>Pl 1<|cJ 2<|c1<|go<|Pl 2<|pr (bZ T.dir (T.held++[(b.getD k 0)])) fun ay aB aE=>?_
 refine L0<|fV #[vP g 0] #[] (args:=#[vP g 0])<|iG (jJ (d:=T.dir) (h:=T.held++[(b.getD k 0)]) (k:=T.skip) aE (ub M t) ((av aw M (fun x hx=>ax) (fun _ _ h=>h))).rd (by simp only[ef];omega)) fun cg cj a1 bF ck cl bG aI=>?_
 have aJ:=uz M aI
 have N:=u1 G aJ im
 have aL:=av a N (fun x hx=>(b7 ((ci a r (by decide)) x hx) (aa (fun e=>(aD (ai hb) lr a) (e▸hx)) ax))) (fun x cs q=>bV.upd N (km hlow (kz f (by decide) dU)) q)
 have bH:n≤a1.heap.size:=Nat.le_trans hnl N.size
 refine L0<|iL (R:=bV w.heap.size a1.heap.size) (xs:=L) (ys:=([Ev.mk aB ay])) (.agg #[vI 0,vB 0,vW 0,vB 0,vB 0,vW 0,vW 0,vW 0,vW 0,vW 0,vW 0,vW 0,vW 0,vW 0,vW 0,nS,nS,nS,nS,vB 0,vB 0,vB 0,vB 0,vB 0,nS]) 25 168 (ft.up bH (Nat.le_refl _) aL) (tH (aT.map bF fun _ _ q=>q.lo (le (le (le (le j.size l.size) u.size) o.size) M.size))).rd bV.ones (fun w' hv x cs q=>bV.upd hv (pz aL (by decide) dU) q) (by(try simp only[ef,be]);omega) (le (le (le (le (le j.size l.size) u.size) o.size) M.size) aI.size) fun bI bJ cm bK W cn=>Pl 1<|nl<|bn<|tn<|go<|bt ((k:Int)+1)<|Pl 1<|nl<|?_
 have aM:=r5 (T:=T) (c:=(b.getD k 0)) C i aE
 have aN:=SM.byte_ok hok (jj hrb k) aM
 exact fv ((k+1),(SM.mk T.dir [] T.skip),(L++[Ev.mk aB ay]),none,0,bI,bJ,a1.heap.size) ⟨(ut O (ut (aC.mono (S':=(g :: (ob Bq++[]))) aJ (ac im aA)) W (aH il aA)) (ac im (aH (c7 a lr) aA))),(aC.blk W (b7 (aD (ai hb) lr a) ax) bG),(aT.nil base _ _ mv _),bK,W.size,(aV.far z (ut (aC.mono (S':=(ob Ah++(g :: (ob Bq++[])))) N (aH il (ac im aA))) W (aH il aA)) (eZ (iH hda hdl hat0) (fy hdg (eZ (gB hdl a (Nat.le_refl _)) gz)))),(by(try dsimp only);exact fR (by omega) hpj aM),(by(try dsimp only);exact aN.1),(by(try dsimp only);have q:=SM.ok_le aN.1;exact q),(by(try dsimp only);omega),(by(try dsimp only);(try simp only[ef]);omega),(by(try dsimp only);exact ji),(by(try dsimp only);exact Nat.le_trans hn0l (Nat.le_trans hnl N.size)),(by(try dsimp only);exact gG)⟩ (by omega)
 have bc:=of_decide_eq_false X
 refine xt<|tx<|tx<|bx<|tn<|az 2<|rt<|rr (.slice Bq L.length cq)<|?_
 have hs:S.feed b=(T,L):=by rw[hpj,List.take_of_length_le (by omega)]
 rw[hs]
 exact⟨_,Ah,ch,n,rfl,a,f,r,hat0,⟨hn0l,Nat.le_trans hnl lr⟩,hlow,j⟩
open Go.RowKit
def bf (n base:Nat)(w:World)(g:Nat)(A:Option Addr)(cp:Nat)(S:SM) : Prop:=jD w g S A cp∧fq base w (.slice A S.held.length cp) S.held∧S.ok∧n≤w.heap.size∧(∀ x,x∈ob A→n≤x)∧base≤w.heap.size
section
variable {n base g cp:Nat}{w w':World}{A:Option Addr}{S:SM}{X:List Nat}
theorem bf.row(h:bf n base w g A cp S) : fq base w (.slice A S.held.length cp) S.held:=h.2.1
theorem bf.low(h:bf n base w g A cp S) : ∀ x,x∈ob A→n≤x:=h.2.2.2.2.1
theorem bf.nle(h:bf n base w g A cp S) : n≤w.heap.size:=h.2.2.2.1
theorem bf.le(h:bf n base w g A cp S) : S.held.length≤259:=SM.ok_le h.2.2.1
theorem bf.lt(h:bf n base w g A cp S) : g<w.heap.size:=ai h.1
theorem bf.cells(h:bf n base w g A cp S) : ∃ cs fr,w.heap[g]? = some (.cells cs 89 fr):=⟨_,_,h.1⟩
theorem bf.upd(h:bf n base w g A cp S)(hu:aC X w w')(hg:g∉X)(hr:∀ x,x∈ob A→x∉X) : bf n base w' g A cp S :=
  ⟨hu.blk hg h.1,av h.2.1 hu hr (fun _ _ q=>q),h.2.2.1,Nat.le_trans h.2.2.2.1 hu.size,h.2.2.2.2.1,Nat.le_trans h.2.2.2.2.2 hu.size⟩
end
theorem SM.feed_ok:∀ (b:List Int)(S:SM)(L:List Ev),S.ok→(∀ x,x∈b→0≤x∧x<256)→(b.foldl (fun(p:SM × List Ev) c=>((p.1.byte c).1,p.2++(p.1.byte c).2)) (S,L)).1.ok∧(b.foldl (fun(p:SM × List Ev) c=>((p.1.byte c).1,p.2++(p.1.byte c).2)) (S,L)).2.length≤L.length+b.length
  | [],S,L,h,_=>⟨h,Nat.le_refl _⟩
  | c :: t,S,L,h,hb=>by
    have k:=SM.byte_ok (S2:=(S.byte c).1) (L2:=(S.byte c).2) h (hb c (List.mem_cons_self ..)) rfl
    have q:=SM.feed_ok t (S.byte c).1 (L++(S.byte c).2) k.1 (fun x hx=>hb x (List.mem_cons_of_mem _ hx))
    refine⟨q.1,Nat.le_trans q.2 ?_⟩
    rw[List.length_append,List.length_cons]
    omega
theorem SM.feed_le{S S2:SM}{b:List Int}{L:List Ev}(h:S.ok)(hb:∀ x,x∈b→0≤x∧x<256)(hX:S.feed b=(S2,L)) : L.length≤b.length:=by
  have q:=(SM.feed_ok b S [] h hb).2
  have e:L=(S.feed b).2:=(congrArg Prod.snd hX).symm
  rw[e]
  rw[List.length_nil,Nat.zero_add] at q
  exact q
def we (n base:Nat)(S2:SM)(L:List Ev)(g:Nat)(A:Option Addr)(w:World)(e:Ending)(w':World) : Prop:=∃ v A2 cp2 n2,e = .returned v∧ft n2 w.heap.size w' v L∧bf n2 base w' g A2 cp2 S2∧(∀ x,x∈ob A2→x∈ob A∨w.heap.size≤x)∧n≤n2∧aC (g :: (ob A++[])) w w'
theorem dS{w:World}{n base g cp cpb nb:Nat}{S S2:SM}{L:List Ev}{A B:Option Addr}{m:Md}{b:List Int}(hX:S.feed b=(S2,L))(h:bf n base w g A cp S)(hsl:aV m w (.slice B nb cpb) b)(hdg:0<nb→∀ x,x∈ob B→x≠g)(hda:nI nb B (ob A))(hbl:b.length≤1048576) :
    Calls Tryz.prog 16 #[.pointer (some ⟨g,0,none⟩),.slice B nb cpb] w (we n base S2 L g A w):=by
  obtain⟨h1,h2,h3,h4,h5,h6⟩:=h
  obtain rfl:nb=b.length:=by
    obtain⟨_,_,e,_⟩:=hsl.shape
    injection e
  refine(lL h1 h2 h6 h3 h4 h5 hsl hdg hda hbl).mono ?_
  rintro e w' ⟨v,A2,cp2,n2,he,k1,k2,k3,k4,⟨k5,k6⟩,k7,k8⟩
  have hok:=(SM.feed_ok b S [] h3 (aV.range hsl)).1
  rw[hX] at k1 k2 k3
  have e2:S2=(S.feed b).1:=(congrArg Prod.fst hX).symm
  exact⟨v,A2,cp2,n2,he,k1,⟨k2,k3,by rw[e2];exact hok,k6,k7,Nat.le_trans h6 k8.size⟩,k4,k5,k8⟩
theorem kF(d:Int){w:World}(hq:Calls Tryz.prog 15 #[.int .i64 d] w (fun e w'=>∃ g,e = .returned (.pointer (some ⟨g,0,none⟩))∧w.heap.size≤g∧jD w' g ⟨d,[],0⟩ none 0∧aC [] w w')) :
    Calls Tryz.prog 15 #[.int .i64 d] w (fun e w'=>∃ g,e = .returned (.pointer (some ⟨g,0,none⟩))∧w.heap.size≤g∧bf w.heap.size w.heap.size w' g none 0 ⟨d,[],0⟩∧aC [] w w'):=by
  refine hq.mono ?_
  rintro e w' ⟨g,he,h1,h2,h3⟩
  exact⟨g,he,h1,⟨h2,aT.nil ..,⟨⟨(show(0:Int)≤0 from by decide),(show(0:Int)<65536 from by decide)⟩,(fun x hx=>by cases hx),.inl (show 0<6 from by decide)⟩,h3.size,gG,h3.size⟩,h3⟩
theorem gO{w:World}{n base g cp:Nat}{S:SM}{A:Option Addr}(h:bf n base w g A cp S) : Calls Tryz.prog 19 #[.pointer (some ⟨g,0,none⟩)] w (cg (.int .i64 ((S.held.length:Nat) : Int)) w):=n7 h.1 h.2.1.rd
open Go.RowKit
section
variable {P:Program}{n:Nat}{D:List Deferred}{F:Fr}{w:World}{K:Fr→World→Prop}{Q:Exit→Act→World→Prop}{d:Option Tmp}{t:TypeId}{s:String}{af:Array Edge}{gu:Option (Nat × Bool)}
theorem v6{ty:TypeId}{x y:Operand}(m:Nat)(hm:m≤4194304)(h:∀ g w',fq w.heap.size w' (.slice (some ⟨g,0,none⟩) (List.replicate m (0:Int)).length (List.replicate m (0:Int)).length) (List.replicate m 0)→aC [] w w'→K (pt d (.slice (some ⟨g,0,none⟩) m m) F) w')
    (hx:dJ F x=some (.int .i64 (m:Int)):=by kernel_rfl) (hy:dJ F y=some (.int .i64 (m:Int)):=by kernel_rfl) (hs:(mt P ty,(P.info? 5).map (fun i=>(i.zero,i.size,i.bytes)),eG n d)=(some 5,some (some (.int .u8 0),1,1),true):=by kernel_rfl) : OG P ⟨d,.makeSlice ty x y,t,s,af,gu⟩ n D F w K Q:=by
  simp only[Prod.mk.injEq] at hs
  obtain⟨h1,h2,h3⟩:=hs
  have hr:=lx (P:=P) (Value.int .u8) (0:Int) ty _ 1 (ea h1) h2 rfl m hm (by decide) w
  refine⟨fun a ha K' hK=>OW.mk ?_⟩
  have hx':=ha.ev hx
  have hy':=ha.ev hy
  unfold Oper.wp execOp
  simp only[hx',hy',Sem.run_bind,Sem.run_pure,hr,Result.andThen_ok]
  refine hK _ _ _ (h w.heap.size _ ?_ ((aC.refl _ _).alloc _)) (ha.put h3)
  exact mh (Nat.le_refl _) rfl (fun x hx=>by rw[List.eq_of_mem_replicate hx];decide) (by rw[List.length_replicate];exact hm) (dV _ _)
end
open Go.RowKit
theorem um:SM.feed (SM.mk 0 [] 0) [0,9,0,0,0,2]=((SM.mk 0 [0,9,0,0,0,2] 0),[]):=by kernel_rfl
theorem uo:SM.feed (SM.mk 0 [0,9,0,0,0,2] 0) [1,7]=((SM.mk 0 [] 0),[⟨0,⟨1,9,vE⟩⟩]):=by kernel_rfl
theorem uy:SM.feed (SM.mk 0 [] 0) [0,9,0,0,1,0]=((SM.mk 0 [] 256),[Ev.bad 3]):=by kernel_rfl
theorem ur:SM.feed (SM.mk 0 [] 256) (List.replicate 256 0)=((SM.mk 0 [] 0),[]):=by kernel_rfl
theorem l6{w:World}:Calls Tryz.prog 13 #[] w (cg (.bool true) w):=by
 refine en 79 Tryz.func13 rfl<|al 1<|ng<|aq<|e3 (kF 0 jk) fun a ai J b K=>am 1<|sq<|sq<|go<|am 2<|c0<|bu<|al 1<|L0<|gv (m:=6) (e:=5) #[vB 0,vB 9,vB 0,vB 0,vB 0,vB 2] fun L M N O c=>?_
 have F:=mh N (xs:=[0,9,0,0,0,2]) (by as_aux_lemma=>kernel_rfl) (aO (by omega) (aO (by omega) (aO (by omega) (aO (by omega) (aO (by omega) (aO (by omega) dB)))))) (by(try simp only[List.length_cons,List.length_nil]);omega) O
 refine aq (args:=#[vP a 0,.slice (some ⟨L,0,none⟩) 6 6])<|(dS um (bf.upd b c ax lh) (F).rd (l5 (aD (bf.lt b) lr F)) pH (by decide)).mono ?_
 rintro _ P ⟨aj,r,ak,an,rfl,Q,j,ao,ap,R⟩
 refine⟨_,rfl,?_⟩
 have f:aC [a] M P:=R
 have S:=Q
 obtain⟨ar,au,rfl,aw,ay⟩:=aG.shape S.rd
 refine Pl 1<|aK 1<|aq<|m1 (gO j) fun aB d=>Pl 1<|aK 1<|L0<|gv (m:=2) (e:=5) #[vB 1,vB 7] fun T aE U V g=>?_
 have s:=mh U (xs:=[1,7]) (by as_aux_lemma=>kernel_rfl) (aO (by omega) (aO (by omega) dB)) (by(try simp only[List.length_cons,List.length_nil]);omega) V
 have G:=aQ d g
 refine aq (args:=#[vP a 0,.slice (some ⟨T,0,none⟩) 2 2])<|(dS uo (bf.upd j G ax (fun x hx=>ax)) (s).rd (l5 (aD (bf.lt b) (le (le c.size f.size) d.size) s)) (j9 (gt s (bf.row j) d.size)) (by decide)).mono ?_
 rintro _ aF ⟨aI,W,aJ,aL,rfl,X,h,Y,aM,k⟩
 refine⟨_,rfl,?_⟩
 have l:=X
 obtain⟨aN,aP,rfl,aR,aS⟩:=aG.shape l.rd
 refine Pl 1<|aK 1<|L0<|gv (m:=6) (e:=5) #[vB 0,vB 9,vB 0,vB 0,vB 1,vB 0] fun Z aT a0 a1 n=>?_
 have t:=mh a0 (xs:=[0,9,0,0,1,0]) (by as_aux_lemma=>kernel_rfl) (aO (by omega) (aO (by omega) (aO (by omega) (aO (by omega) (aO (by omega) (aO (by omega) dB)))))) (by(try simp only[List.length_cons,List.length_nil]);omega) a1
 refine aq (args:=#[vP a 0,.slice (some ⟨Z,0,none⟩) 6 6])<|(dS uy (bf.upd h n ax (fun x hx=>ax)) (t).rd (l5 (aD (bf.lt b) (le (le (le (le c.size f.size) d.size) g.size) k.size) t)) (j9 (gt t (bf.row h) lr)) (by decide)).mono ?_
 rintro _ aU ⟨aV,a2,aW,aX,rfl,a3,i,a4,aY,H⟩
 refine⟨_,rfl,?_⟩
 have o:=a3
 obtain⟨aZ,b0,rfl,b1,b2⟩:=aG.shape o.rd
 refine Pl 1<|aK 1<|L0<|v6 256 (by decide) fun a5 b3 u I=>?_
 refine aq (args:=#[vP a 0,.slice (some ⟨a5,0,none⟩) 256 256])<|(dS ur (bf.upd i I ax (fun x hx=>ax)) (u).rd (l5 (aD (bf.lt b) (le (le (le (le (le (le c.size f.size) d.size) g.size) k.size) n.size) H.size) u)) (j9 (gt u (bf.row i) lr)) (by rw[List.length_replicate];decide)).mono ?_
 rintro _ b4 ⟨b5,b6,b8,b9,rfl,a6,a7,ba,bb,a8⟩
 refine⟨_,rfl,?_⟩
 have a9:=a6
 obtain⟨bc,bd,rfl,be,bg⟩:=aG.shape a9.rd
 refine am 1<|sq<|az 8<|c0<|bu<|al 12<|?_
 have y:=ut (aC.mono (S':=(a :: (ob a2++[]))) I aA) a8 (ac im (aH il aA))
 have z:=ut (aC.mono (S':=(a :: (ob W++[]))) n aA) (ut H y (ac im (aH (iB a4 il lr) aA))) (ac im (aH il aA))
 refine uJ (o6.elt (ft.own (av l z (fun x hx=>(aa (fun e=>(aD (bf.lt b) (le (le (le c.size f.size) d.size) g.size) l) (e▸hx)) (b7 ((ci l (bf.row h) (by decide)) x hx) ax))) (fun x cs q=>bV.upd z (sK (bf.cells h) (by decide) (km (kT (Nat.le_refl _) (bf.low h)) dU)) q))).rd 0 (by decide) (Ev.bad 0)) fun A B bh bi bj bk C D bl E=>L1<|oQ 25 1 0 C (by omega)<|Pl 1<|L1<|er (p:=⟨A,B+0*25+0,none⟩) (v:=vI 0) (ga D E 0 (by kernel_rfl) (by decide))<|Pl 4<|L1<|oQ 25 1 0 C (by omega)<|Pl 3<|L1<|er (p:=⟨A,B+0*25+1+0+1,none⟩) (v:=vW 9) (ga D E 2 (by kernel_rfl) (by decide))<|Pl 4<|L1<|oQ 25 1 0 C (by omega)<|Pl 3<|L1<|er (p:=⟨A,B+0*25+1+2+0,none⟩) (v:=vB 7) (ga D E 3 (by kernel_rfl) (by decide))<|Pl 4<|?_
 refine uJ (o6.elt (ft.own (av o y (fun x hx=>(aa (fun e=>(aD (bf.lt b) (le (le (le (le (le c.size f.size) d.size) g.size) k.size) n.size) o) (e▸hx)) (b7 ((ci o (bf.row i) (by decide)) x hx) ax))) (fun x cs q=>bV.upd y (sK (bf.cells i) (by decide) (km (kT (Nat.le_refl _) (bf.low i)) dU)) q))).rd 0 (by decide) (Ev.bad 0)) fun ab ad bm bn bo bp ae af bq ag=>L1<|oQ 25 1 0 ae (by omega)<|Pl 1<|L1<|er (p:=⟨ab,ad+0*25+0,none⟩) (v:=vI 3) (ga af ag 0 (by kernel_rfl) (by decide))<|Pl 4<|L1<|Oc<|m1 (gO a7) fun br ah=>am 3<|rt<|rr (.bool true)<|?_
 exact⟨rfl,(ut K (ut (aC.mono (S':=(a :: (ob r++[]))) c aA) (ut (aC.mono (S':=(a :: (ob r++[]))) f (ac im aA)) (ut (aC.mono (S':=(a :: (ob r++[]))) G aA) (ut k (aQ z ah) (ac im (aH (iB Y il lr) aA))) (ac im (aH il aA))) (ac im (aH il aA))) (ac im (aH il aA))) (ac (nr J) (aH (c7 (bf.row j) lr) aA)))⟩
open Go.RowKit
def dP:List (List Int)→Nat
  | []=>0
  | x :: t=>x.length+dP t
def ez (ls:List (List Int)) : Bool:=decide (ls.length≤60)&&decide (dP ls≤3000)
theorem lF(a b:List (List Int)) : dP (a++b)=dP a+dP b:=by
  induction a with
  | nil=>simp[dP]
  | cons x t ih=>simp only[List.cons_append,dP,ih];omega
theorem oP{ls:List (List Int)}{k:Nat}(hk:k<ls.length) : ls.take (k+1)=ls.take k++[ls.getD k []]:=by
  rw[List.take_succ_eq_append_getElem hk,List.getD_eq_getElem?_getD,List.getElem?_eq_getElem hk]
  rfl
theorem dT{ls:List (List Int)}{k:Nat}(hk:k<ls.length) : dP (ls.take (k+1))=dP (ls.take k)+(ls.getD k []).length:=by
  rw[oP hk,lF]
  rfl
theorem o9{ls:List (List Int)}(hb:∀ x,x∈ls→x.length≤140737488355328) : ∀ k,k≤ls.length→dP (ls.take k)≤k*140737488355328
  | 0,_=>by simp[dP]
  | k+1,h=>by
    rw[dT (by omega)]
    have h1:=o9 hb k (by omega)
    have h2:(ls.getD k []).length≤140737488355328:=by
      rw[List.getD_eq_getElem?_getD,List.getElem?_eq_getElem (by omega)]
      exact hb _ (List.getElem_mem _)
    rw[Nat.succ_mul]
    omega
theorem ew{ls:List (List Int)}{k:Nat}(hk:k<ls.length) : dP (ls.take k)+(ls.getD k []).length≤dP ls:=by
  rw[← dT hk]
  have:=lF (ls.take (k+1)) (ls.drop (k+1))
  rw[List.take_append_drop] at this
  omega
theorem mw{ls:List (List Int)}{k:Nat}{n:Int}(hb:∀ x,x∈ls→x.length≤140737488355328)(h:k≤60→n=(dP (ls.take k) : Nat))(hk:k<ls.length) : k+1≤60→IntKind.i64.wrap (n+(((ls.getD k []).length:Nat) : Int))=(dP (ls.take (k+1)) : Nat):=by
  intro a
  have h1:=o9 hb (k+1) hk
  have h2:=dT hk
  rw[h (by omega),i64_in]
  · rw[h2];omega
  · omega
theorem kq{ls:List (List Int)}{k:Nat}{n:Int}(h:k≤60→n=(dP (ls.take k) : Nat))(hk:k=ls.length) : (decide ((ls.length:Int)≤60)&&decide (n≤3000))=ez ls:=by
  subst hk
  rw[List.take_length] at h
  unfold ez
  by_cases a:ls.length≤60
  · rw[h a]
    congr 1
    · rw[decide_eq_decide];omega
    · rw[decide_eq_decide];omega
  · rw[decide_eq_false a,decide_eq_false (by omega)];rfl
theorem lg{ls:List (List Int)}(h:ez ls=true) : ls.length≤60∧dP ls≤3000:=by
  unfold ez at h
  simpa using h
theorem i6{m:Md}{A:Option Addr}{cp:Nat}{ls:List (List Int)}{w:World}(h:fp m w (.slice A ls.length cp) ls)(hbb:∀ x,x∈ls→x.length≤140737488355328) : Calls Tryz.prog 14 #[.slice A ls.length cp] w (cg (.bool (ez ls)) w):=by
 have hz:=aG.len h
 refine en 25 Tryz.func14 rfl<|sg<|Pl 1<|ng<|Pl 1<|nt<|sq<|sg<|?_
 refine Pl 1<|nt<|bk<|?_
 refine iq (fun x=>[(0,.slice A ls.length cp),(2,.bool false),(3,.int .i64 x.2),(4,.int .i64 ((x.1:Nat) : Int))]) (fun(x:Nat × Int) w'=>aC [] w w'∧(x.1≤ls.length)∧(x.1≤60→x.2=(dP (ls.take x.1) : Nat))) (fun x=>ls.length-x.1) (0,0) ⟨aC.refl _ _,(by(try dsimp only);omega),(by(try dsimp only);intro _;rfl)⟩ ?_
 rintro⟨k,n⟩ u ⟨c,f,g⟩
 refine fs [(0,.slice A ls.length cp),(2,.bool false),(3,.int .i64 n),(4,.int .i64 ((k:Nat) : Int))] ?_
 have y:k≤ls.length:=f
 have d:k≤60→n=(dP (ls.take k) : Nat):=g
 refine sq<|sg<|Pl 4<|nt<|cb ((decide (((k:Nat) : Int)<((ls.length:Nat) : Int)))) (fun b=>?_) (fun b=>?_)
 have i:=of_decide_eq_true b
 refine bu<|sq<|bk<|go<|Pl 3<|gR (fp.elt h k (by omega)) fun j l o q r s z B C=>L0<|ia ls.length k r (by omega)<|L0<|er (p:=⟨j,l+k,none⟩) (v:=.slice o ((ls.getD k []).length) q) (uc c s)<|Pl 3<|nl<|bn<|tn<|go<|?_
 exact Pl 1<|L0<|Oi (((k:Nat) : Int)+1)<|Pl 1<|nl<|fv ((k+1),(IntKind.i64.wrap (n+(((ls.getD k []).length:Nat) : Int)))) ⟨c,(by(try dsimp only);omega),(mw hbb d (by omega))⟩ (by omega)
 have i:=of_decide_eq_false b
 refine xt<|tx<|tx<|bx<|tn<|sg<|Pl 4<|cu 3 [21] 24 (((decide (((ls.length:Nat) : Int)≤60))&&(decide (n≤3000)))) (fun K e=>?_) ?_
 refine bl 21 ((decide (((ls.length:Nat) : Int)≤60))) (fun a=>?_) (fun a=>?_)
 have t:=of_decide_eq_true a
 exact Pl 3<|ce e (decide (n≤3000)) (by rw[a];rfl)
 have t:=of_decide_eq_false a
 exact Pl 3<|ce e false (by rw[a];rfl)
 refine Pl 1<|nt<|rt<|rr (.bool ((decide (((ls.length:Nat) : Int)≤60))&&(decide (n≤3000))))<|?_
 have hs:((decide (((ls.length:Nat) : Int)≤60))&&(decide (n≤3000)))=ez ls:=by first | exact kq d (by omega) | (rw[← kq d (by omega)];simp only[b,bp,Bool.true_and,Bool.false_and])
 rw[hs]
 exact⟨rfl,c⟩
open Go.RowKit
theorem ql(a b c d:Int)(w:World) : (Op.equalIn 10000 39 (.agg #[.int .u8 a,.int .u16 b]) (.agg #[.int .u8 c,.int .u16 d])).run Tryz.prog w = .ok ((a==c)&&(b==d)) w:=by
  have hS:Tryz.prog.underlying 39=some (.struct (Tryz.prog.fieldsOf 39)):=by kernel_rfl
  have hp:Tryz.prog.stoodInHeld 39=false:=by kernel_rfl
  rw[show(10000:Nat)=9998+1+1 from rfl,run_equalIn_agg w (9998+1) 39 _ _ hS hp]
  simp only[Program.fieldsOf,Tryz.underlying39]
  have p0:∀ v:Int,(part 5 #[.int .u8 v,.int .u16 b] 0).run Tryz.prog w = .ok (.int .u8 v) w:=fun v=>by simp[part,isAgg,run_underlying Tryz.underlying5,Result.andThen]
  have p0':∀ v:Int,(part 5 #[.int .u8 v,.int .u16 d] 0).run Tryz.prog w = .ok (.int .u8 v) w:=fun v=>by simp[part,isAgg,run_underlying Tryz.underlying5,Result.andThen]
  have p1:∀ v u:Int,(part 37 #[.int .u8 u,.int .u16 v] 1).run Tryz.prog w = .ok (.int .u16 v) w:=fun v u=>by simp[part,isAgg,run_underlying Tryz.underlying37,Result.andThen]
  have e0:=run_equalIn_int (P:=Tryz.prog) w 9998 5 .u8 _ a c Tryz.underlying5
  have e1:=run_equalIn_int (P:=Tryz.prog) w 9998 37 .u16 _ b d Tryz.underlying37
  simp only[Op.eqFields,Sem.run_bind,p0,p0',p1,e0,e1,Result.andThen_ok,ne_eq,String.reduceEq,not_false_eq_true,if_true,Sem.run_ite]
  cases (a==c)<;>cases (b==d)<;>simp
theorem nh{ev:Operand→Value}{o:Oper}{x y:Operand}{t:TypeId}(a b c d:Int){v:Bool}{w:World}(ho:o.op = .binOp .eql 39 x y t)
    (hx:ev x = .agg #[.int .u8 a,.int .u16 b]) (hy:ev y = .agg #[.int .u8 c,.int .u16 d]) (hv:((a==c)&&(b==d))=v) : (execOp ev o).run Tryz.prog w = .ok (.value (.bool v)) w:=by
  subst hv
  have hg:(eqGuard .eql 39 x y (.agg #[.int .u8 a,.int .u16 b]) (.agg #[.int .u8 c,.int .u16 d])).run Tryz.prog w = .ok () w:=run_eqGuard_agg w _ _ _ _ _ _ (by kernel_rfl)
  unfold execOp
  simp only[ho,hx,hy,Sem.run_bind,hg,Result.andThen_ok,run_eql_struct,ql,Sem.run_pure]
open Go.RowKit
theorem mV{m m':Md}{A B:Option Addr}{c d:Nat}{xs ys:List Int}{w:World}(h1:aV m w (.slice A xs.length c) xs)(h2:aV m' w (.slice B ys.length d) ys) :
    Calls Tryz.prog 29 #[.slice A xs.length c,.slice B ys.length d] w (cg (.bool (decide (xs=ys))) w):=by
 exact en 10 Tryz.func29 rfl<|al 1<|aK 1<|L0<|jU (.string (strOfNums xs)) (fT (A:=A) (n:=xs.length) (c:=c) rfl (by kernel_rfl) Tryz.underlying27 Tryz.underlying5 Tryz.underlying9 h1)<|Pl 1<|L0<|jU (.string (strOfNums ys)) (fT (A:=B) (n:=ys.length) (c:=d) rfl (by kernel_rfl) Tryz.underlying27 Tryz.underlying5 Tryz.underlying9 h2)<|L0<|jU (.bool (decide (xs=ys))) (pv (a:=(strOfNums xs)) (b:=(strOfNums ys)) rfl (by kernel_rfl) (by kernel_rfl) (qg h1 h2))<|Pl 1<|nl<|tn<|rt<|rr (.bool (decide (xs=ys)))<|⟨rfl,(aC.refl [] _)⟩
theorem kn{m m':Md}{a b:Value}{xs ys:List Int}{w:World}(h1:aV m w a xs)(h2:aV m' w b ys) : Calls Tryz.prog 29 #[a,b] w (cg (.bool (decide (xs=ys))) w):=by
  obtain⟨A,c,rfl,_,_⟩:=h1.shape
  obtain⟨B,d,rfl,_,_⟩:=h2.shape
  exact mV h1 h2
open Go.RowKit
theorem f4{α:Type}{xs ys:List α}{k:Nat}(h:xs.take k=ys.take k)(h1:k=xs.length)(h2:xs.length=ys.length) : xs=ys:=by
  rw[List.take_of_length_le (by omega),List.take_of_length_le (by omega)] at h
  exact h
theorem jO{m m':Md}{A B:Option Addr}{c d:Nat}{xs ys:List Int}{w:World}(h1:ej m w (.slice A xs.length c) xs)(h2:ej m' w (.slice B ys.length d) ys) :
    Calls Tryz.prog 68 #[.slice A xs.length c,.slice B ys.length d] w (cg (.bool (decide (xs=ys))) w):=by
 have hz1:=aG.len h1
 have hz2:=aG.len h2
 refine en 26 Tryz.func68 rfl<|az 1<|sq<|az 5<|cb ((((xs.length:Nat) : Int)!=((ys.length:Nat) : Int))) (fun g=>?_) (fun g=>?_)
 have j:=ay g
 refine az 1<|bq<|rr (.bool false)<|?_
 have hs:decide (xs=ys)=false:=decide_eq_false (fun e=>by rw[e] at j;omega)
 rw[hs]
 exact⟨rfl,(aC.refl [] _)⟩
 have j:=aI g
 refine bu<|sq<|az 1<|bk<|?_
 refine iq (fun x=>[(0,.slice A xs.length c),(1,.slice B ys.length d),(5,vI ((x:Nat) : Int))]) (fun(x:Nat) w'=>aC [] w w'∧(xs.take x=ys.take x)∧(x≤xs.length)) (fun x=>xs.length-x) 0 ⟨aC.refl _ _,(by(try dsimp only);simp),(by(try dsimp only);omega)⟩ ?_
 rintro k E ⟨b,p,q⟩
 refine fs [(0,.slice A xs.length c),(1,.slice B ys.length d),(5,vI ((k:Nat) : Int))] ?_
 have l:xs.take k=ys.take k:=p
 have F:k≤xs.length:=q
 refine sq<|az 4<|cb ((decide (((k:Nat) : Int)<((xs.length:Nat) : Int)))) (fun h=>?_) (fun h=>?_)
 have r:=of_decide_eq_true h
 refine bu<|sq<|bk<|sq<|?_
 refine eH (ej.at_ (ej.old h1 b) k (by omega)) fun s t u v G=>?_
 refine eH (ej.at_ (ej.old h2 b) k (by omega)) fun y z C D H=>Rg 9 (fun w'=>w'.cell? ⟨s,t+k,none⟩=some (vW (xs.getD k 0))∧w'.cell? ⟨y,z+k,none⟩=some (vW (ys.getD k 0))) fun I i=>bz ⟨(uc i v),(uc i D)⟩ fun a=>Rt 0 a<|Rt 1 a<|jm 2 a xs.length k ((k:Nat) : Int) rfl u (by omega)<|Rl 3 a (fun _ hs=>hs.1)<|Rt 4 a<|Rt 5 a<|jm 6 a ys.length k ((k:Nat) : Int) rfl C (by omega)<|Rl 7 a (fun _ hs=>hs.2)<|Rt 8 a<|re<|tn<|?_
 have n:=aQ b i
 refine cb (((xs.getD k 0)!=(ys.getD k 0))) (fun f=>?_) (fun f=>?_)
 have o:=ay f
 refine az 1<|rt<|br<|tr<|tr<|br<|tr<|rr (.bool false)<|?_
 have hs:decide (xs=ys)=false:=decide_eq_false (un (d:=0) k (by simpa using f))
 rw[hs]
 exact⟨rfl,n⟩
 have o:=aI f
 exact sk<|bn<|tn<|go<|Pl 1<|bt (((k:Nat) : Int)+1)<|Pl 1<|nl<|fv (k+1) ⟨n,(r7 (d:=0) (by omega) (by omega) l o),(by(try dsimp only);omega)⟩ (by omega)
 have r:=of_decide_eq_false h
 refine xt<|tx<|tx<|bx<|tn<|az 1<|rt<|rr (.bool true)<|?_
 have hs:decide (xs=ys)=true:=decide_eq_true (f4 l (by omega) (by omega))
 rw[hs]
 exact⟨rfl,b⟩
theorem gE{m m':Md}{a b:Value}{xs ys:List Int}{w:World}(h1:ej m w a xs)(h2:ej m' w b ys) : Calls Tryz.prog 68 #[a,b] w (cg (.bool (decide (xs=ys))) w):=by
  obtain⟨A,c,rfl,_,_⟩:=h1.shape
  obtain⟨B,d,rfl,_,_⟩:=h2.shape
  exact jO h1 h2
theorem jE{m m':Md}{A B:Option Addr}{c d:Nat}{xs ys:List Bool}{w:World}(h1:ig m w (.slice A xs.length c) xs)(h2:ig m' w (.slice B ys.length d) ys) :
    Calls Tryz.prog 69 #[.slice A xs.length c,.slice B ys.length d] w (cg (.bool (decide (xs=ys))) w):=by
 have hz1:=aG.len h1
 have hz2:=aG.len h2
 refine en 26 Tryz.func69 rfl<|az 1<|sq<|az 5<|cb ((((xs.length:Nat) : Int)!=((ys.length:Nat) : Int))) (fun f=>?_) (fun f=>?_)
 have j:=ay f
 refine az 1<|bq<|rr (.bool false)<|?_
 have hs:decide (xs=ys)=false:=decide_eq_false (fun e=>by rw[e] at j;omega)
 rw[hs]
 exact⟨rfl,(aC.refl [] _)⟩
 have j:=aI f
 refine bu<|sq<|az 1<|bk<|?_
 refine iq (fun x=>[(0,.slice A xs.length c),(1,.slice B ys.length d),(5,vI ((x:Nat) : Int))]) (fun(x:Nat) w'=>aC [] w w'∧(xs.take x=ys.take x)∧(x≤xs.length)) (fun x=>xs.length-x) 0 ⟨aC.refl _ _,(by(try dsimp only);simp),(by(try dsimp only);omega)⟩ ?_
 rintro k D ⟨b,o,p⟩
 refine fs [(0,.slice A xs.length c),(1,.slice B ys.length d),(5,vI ((k:Nat) : Int))] ?_
 have l:xs.take k=ys.take k:=o
 have E:k≤xs.length:=p
 refine sq<|az 4<|cb ((decide (((k:Nat) : Int)<((xs.length:Nat) : Int)))) (fun g=>?_) (fun g=>?_)
 have q:=of_decide_eq_true g
 refine bu<|sq<|bk<|sq<|?_
 refine v7 (ig.at_ (ig.old h1 b) k (by omega)) fun r s t u=>?_
 refine v7 (ig.at_ (ig.old h2 b) k (by omega)) fun v y z C=>Rg 9 (fun w'=>w'.cell? ⟨r,s+k,none⟩=some (.bool (xs.getD k false))∧w'.cell? ⟨v,y+k,none⟩=some (.bool (ys.getD k false))) fun F h=>bz ⟨(uc h u),(uc h C)⟩ fun a=>Rt 0 a<|Rt 1 a<|jm 2 a xs.length k ((k:Nat) : Int) rfl t (by omega)<|Rl 3 a (fun _ hs=>hs.1)<|Rt 4 a<|Rt 5 a<|jm 6 a ys.length k ((k:Nat) : Int) rfl z (by omega)<|Rl 7 a (fun _ hs=>hs.2)<|Rt 8 a<|re<|tn<|?_
 have n:=aQ b h
 refine cb (((xs.getD k false)!=(ys.getD k false))) (fun i=>?_) (fun i=>?_)
 refine az 1<|rt<|br<|tr<|tr<|br<|tr<|rr (.bool false)<|?_
 have hs:decide (xs=ys)=false:=decide_eq_false (un (d:=false) k (by simpa using i))
 rw[hs]
 exact⟨rfl,n⟩
 exact sk<|bn<|tn<|go<|Pl 1<|bt (((k:Nat) : Int)+1)<|Pl 1<|nl<|fv (k+1) ⟨n,(r7 (d:=false) (by omega) (by omega) l (by simpa using i)),(by(try dsimp only);omega)⟩ (by omega)
 have q:=of_decide_eq_false g
 refine xt<|tx<|tx<|bx<|tn<|az 1<|rt<|rr (.bool true)<|?_
 have hs:decide (xs=ys)=true:=decide_eq_true (f4 l (by omega) (by omega))
 rw[hs]
 exact⟨rfl,b⟩
theorem kQ{m m':Md}{a b:Value}{xs ys:List Bool}{w:World}(h1:ig m w a xs)(h2:ig m' w b ys) : Calls Tryz.prog 69 #[a,b] w (cg (.bool (decide (xs=ys))) w):=by
  obtain⟨A,c,rfl,_,_⟩:=h1.shape
  obtain⟨B,d,rfl,_,_⟩:=h2.shape
  exact jE h1 h2
open Go.RowKit
theorem o7{α:Type}{xs ys:List α}{d:α}{k:Nat}(h:xs.take k=ys.take k)(hk:k<xs.length)(hl:xs.length=ys.length)(he:xs.getD k d=ys.getD k d) : xs.take (k+1)=ys.take (k+1):=by
  have hk2:k<ys.length:=by omega
  rw[List.take_succ_eq_append_getElem hk,List.take_succ_eq_append_getElem hk2,h]
  rw[List.getD_eq_getElem?_getD,List.getElem?_eq_getElem hk,List.getD_eq_getElem?_getD,List.getElem?_eq_getElem (by omega)] at he
  simp only[Option.getD_some] at he
  rw[he]
theorem tv{a b:cX}(h:((((!(decide (a.words=b.words)))||(a.file != b.file))||(a.record != b.record))||(a.count != b.count))=false) : a=b:=by
  cases a
  cases b
  simp at h
  simp[h]
theorem tB{a b:Obj}(h:((!(decide (a.value=b.value)))||(a.id != b.id))=false) : a=b:=by
  cases a
  cases b
  simp at h
  simp[h]
theorem sf{a b:Obj}(h:(!(decide (a.value=b.value)))=false)(h2:(a.id != b.id)=false) : a=b:=tB (by rw[h,h2];rfl)
theorem kc{A B:b6}{f:b6→b6→Bool}(h:f A B=true)(hf:∀ M,f M M=false) : decide (A=B)=false:=decide_eq_false fun e=>by rw[e,hf] at h;cases h
theorem sc{A B:b6}(h1:((((((((((((A.code != B.code)||(A.fail != B.fail))||(A.addr != B.addr))||(A.count != B.count))||(A.value != B.value))||(A.and_ != B.and_))||(A.or_ != B.or_))||(A.addr2 != B.addr2))||(A.sub != B.sub))||(A.status != B.status))||(A.events != B.events))||(A.messages != B.messages))=false)(h2:(((((A.mei != B.mei)||(A.kind != B.kind))||(A.level != B.level))||(A.more != B.more))||(A.next != B.next))=false)(h3:(((((!(decide (A.words=B.words)))||(!(decide (A.bits=B.bits))))||(!(decide (A.data=B.data))))||(((A.recs.length:Nat) : Int)!=((B.recs.length:Nat) : Int)))||(((A.objects.length:Nat) : Int)!=((B.objects.length:Nat) : Int)))=false)(hr:A.recs.length=B.recs.length→A.recs=B.recs)(ho:A.objects.length=B.objects.length→A.objects=B.objects) : A=B:=by
  cases A
  cases B
  simp only[Bool.or_eq_false_iff,bne_eq_false_iff_eq,Bool.not_eq_false',decide_eq_true_eq] at h1 h2 h3
  simp only at hr ho
  obtain⟨⟨⟨⟨⟨⟨⟨⟨⟨⟨⟨a1,a2⟩,a3⟩,a4⟩,a5⟩,a6⟩,a7⟩,a8⟩,a9⟩,a⟩,b⟩,c⟩:=h1
  obtain⟨⟨⟨⟨b1,b2⟩,b3⟩,b4⟩,b5⟩:=h2
  obtain⟨⟨⟨⟨d1,d2⟩,d3⟩,d4⟩,d5⟩:=h3
  have d4:=hr (by omega)
  have d5:=ho (by omega)
  subst a1 a2 a3 a4 a5 a6 a7 a8 a9 a b c b1 b2 b3 b4 b5 d1 d2 d3 d4 d5
  rfl
theorem p3{m m':Md}{pc qc:Array Value}{A B:b6}{w:World}(ha:aU m w pc.toList A)(hb:aU m' w qc.toList B) :
    Calls Tryz.prog 40 #[.agg pc,.agg qc] w (cg (.bool (decide (A=B))) w):=by
 have pM:=ha
 obtain⟨pvw,pvb,pvd,pvr,pvo,ph0,phw,phb,phd,phr,pho,pR⟩:=ha
 obtain rfl:pc=(eW A pvw pvb pvd pvr pvo).toArray:=by apply Array.toList_inj.1;simpa using ph0
 clear ph0
 obtain⟨pw,pkw,rfl,_,_⟩:=phw.shape
 obtain⟨pb,pkb,rfl,_,_⟩:=phb.shape
 obtain⟨pd,pkd,rfl,_,_⟩:=phd.shape
 obtain⟨pr,pkr,rfl,_,_⟩:=phr.shape
 obtain⟨po,pko,rfl,_,_⟩:=pho.shape
 have qM:=hb
 obtain⟨qvw,qvb,qvd,qvr,qvo,qh0,qhw,qhb,qhd,qhr,qho,qR⟩:=hb
 obtain rfl:qc=(eW B qvw qvb qvd qvr qvo).toArray:=by apply Array.toList_inj.1;simpa using qh0
 clear qh0
 obtain⟨qw,qkw,rfl,_,_⟩:=qhw.shape
 obtain⟨qb,qkb,rfl,_,_⟩:=qhb.shape
 obtain⟨qd,qkd,rfl,_,_⟩:=qhd.shape
 obtain⟨qr,qkr,rfl,_,_⟩:=qhr.shape
 obtain⟨qo,qko,rfl,_,_⟩:=qho.shape
 have hz1:=aG.len phr
 have hz2:=aG.len pho
 refine en 254 Tryz.func40 rfl<|sg<|L0<|dw (mG A.code A.fail A.addr A.count A.value A.and_ A.or_ A.addr2 A.sub A.status A.events A.messages (.slice pw A.words.length pkw) (.slice pb A.bits.length pkb) (.slice pd A.data.length pkd) (.slice pr A.recs.length pkr) A.mei A.kind A.level A.more A.next (.slice po A.objects.length pko)) fun i cE cF ba bb=>L0<|dw (mG B.code B.fail B.addr B.count B.value B.and_ B.or_ B.addr2 B.sub B.status B.events B.messages (.slice qw B.words.length qkw) (.slice qb B.bits.length qkb) (.slice qd B.data.length qkd) (.slice qr B.recs.length qkr) B.mei B.kind B.level B.more B.next (.slice qo B.objects.length qko)) fun l cG cH b aa=>am 1<|sq<|al 1<|?_
 have c:=ub aa ba
 refine aF c 0<|Pl 1<|aF b 0<|Pl 2<|dX 6 [19] 25 19 (A.code != B.code) (A.fail != B.fail) (fun K bc bd=>?_) ?_
 have cI:=aI bd
 exact Pl 1<|L1<|cY c 1<|Pl 1<|L1<|cY b 1<|Pl 2<|ce bc _ rfl
 refine Pl 1<|dX 6 [26] 32 26 ((A.code != B.code)||(A.fail != B.fail)) (A.addr != B.addr) (fun K be cJ=>?_) ?_
 exact Pl 1<|L1<|cY c 2<|Pl 1<|L1<|cY b 2<|Pl 2<|ce be _ rfl
 refine Pl 1<|dX 6 [33] 39 33 (((A.code != B.code)||(A.fail != B.fail))||(A.addr != B.addr)) (A.count != B.count) (fun K bf cK=>?_) ?_
 exact Pl 1<|L1<|cY c 3<|Pl 1<|L1<|cY b 3<|Pl 2<|ce bf _ rfl
 refine Pl 1<|dX 6 [40] 46 40 ((((A.code != B.code)||(A.fail != B.fail))||(A.addr != B.addr))||(A.count != B.count)) (A.value != B.value) (fun K bg cL=>?_) ?_
 exact Pl 1<|L1<|cY c 4<|Pl 1<|L1<|cY b 4<|Pl 2<|ce bg _ rfl
 refine Pl 1<|dX 6 [47] 53 47 (((((A.code != B.code)||(A.fail != B.fail))||(A.addr != B.addr))||(A.count != B.count))||(A.value != B.value)) (A.and_ != B.and_) (fun K bh cM=>?_) ?_
 exact Pl 1<|L1<|cY c 5<|Pl 1<|L1<|cY b 5<|Pl 2<|ce bh _ rfl
 refine Pl 1<|dX 6 [54] 60 54 ((((((A.code != B.code)||(A.fail != B.fail))||(A.addr != B.addr))||(A.count != B.count))||(A.value != B.value))||(A.and_ != B.and_)) (A.or_ != B.or_) (fun K bi cN=>?_) ?_
 exact Pl 1<|L1<|cY c 6<|Pl 1<|L1<|cY b 6<|Pl 2<|ce bi _ rfl
 refine Pl 1<|dX 6 [61] 67 61 (((((((A.code != B.code)||(A.fail != B.fail))||(A.addr != B.addr))||(A.count != B.count))||(A.value != B.value))||(A.and_ != B.and_))||(A.or_ != B.or_)) (A.addr2 != B.addr2) (fun K bj cO=>?_) ?_
 exact Pl 1<|L1<|cY c 7<|Pl 1<|L1<|cY b 7<|Pl 2<|ce bj _ rfl
 refine Pl 1<|dX 6 [68] 74 68 ((((((((A.code != B.code)||(A.fail != B.fail))||(A.addr != B.addr))||(A.count != B.count))||(A.value != B.value))||(A.and_ != B.and_))||(A.or_ != B.or_))||(A.addr2 != B.addr2)) (A.sub != B.sub) (fun K bm cP=>?_) ?_
 exact Pl 1<|L1<|cY c 8<|Pl 1<|L1<|cY b 8<|Pl 2<|ce bm _ rfl
 refine Pl 1<|dX 6 [75] 81 75 (((((((((A.code != B.code)||(A.fail != B.fail))||(A.addr != B.addr))||(A.count != B.count))||(A.value != B.value))||(A.and_ != B.and_))||(A.or_ != B.or_))||(A.addr2 != B.addr2))||(A.sub != B.sub)) (A.status != B.status) (fun K bo cQ=>?_) ?_
 exact Pl 1<|L1<|cY c 9<|Pl 1<|L1<|cY b 9<|Pl 2<|ce bo _ rfl
 refine Pl 1<|dX 6 [82] 88 82 ((((((((((A.code != B.code)||(A.fail != B.fail))||(A.addr != B.addr))||(A.count != B.count))||(A.value != B.value))||(A.and_ != B.and_))||(A.or_ != B.or_))||(A.addr2 != B.addr2))||(A.sub != B.sub))||(A.status != B.status)) (A.events != B.events) (fun K bp cR=>?_) ?_
 exact Pl 1<|L1<|cY c 10<|Pl 1<|L1<|cY b 10<|Pl 2<|ce bp _ rfl
 refine Pl 1<|dX 6 [89] 95 89 (((((((((((A.code != B.code)||(A.fail != B.fail))||(A.addr != B.addr))||(A.count != B.count))||(A.value != B.value))||(A.and_ != B.and_))||(A.or_ != B.or_))||(A.addr2 != B.addr2))||(A.sub != B.sub))||(A.status != B.status))||(A.events != B.events)) (A.messages != B.messages) (fun K bs cS=>?_) ?_
 exact Pl 1<|L1<|cY c 11<|Pl 1<|L1<|cY b 11<|Pl 2<|ce bs _ rfl
 refine nt<|?_
 have q:=aQ bb aa
 refine cb (((((((((((((A.code != B.code)||(A.fail != B.fail))||(A.addr != B.addr))||(A.count != B.count))||(A.value != B.value))||(A.and_ != B.and_))||(A.or_ != B.or_))||(A.addr2 != B.addr2))||(A.sub != B.sub))||(A.status != B.status))||(A.events != B.events))||(A.messages != B.messages))) (fun O=>?_) (fun O=>?_)
 refine az 1<|bq<|rr (.bool false)<|?_
 have hs:decide (A=B)=false:=kc (f:=fun x y=>((((((((((((x.code != y.code)||(x.fail != y.fail))||(x.addr != y.addr))||(x.count != y.count))||(x.value != y.value))||(x.and_ != y.and_))||(x.or_ != y.or_))||(x.addr2 != y.addr2))||(x.sub != y.sub))||(x.status != y.status))||(x.events != y.events))||(x.messages != y.messages))) O (fun M=>by simp)
 rw[hs]
 exact⟨rfl,q⟩
 refine bu<|sq<|al 1<|aF c 16<|Pl 1<|aF b 16<|Pl 2<|dX 6 [101] 107 101 (A.mei != B.mei) (A.kind != B.kind) (fun K bv bw=>?_) ?_
 have cT:=aI bw
 exact Pl 1<|L1<|cY c 17<|Pl 1<|L1<|cY b 17<|Pl 2<|ce bv _ rfl
 refine Pl 1<|dX 6 [108] 114 108 ((A.mei != B.mei)||(A.kind != B.kind)) (A.level != B.level) (fun K bA cU=>?_) ?_
 exact Pl 1<|L1<|cY c 18<|Pl 1<|L1<|cY b 18<|Pl 2<|ce bA _ rfl
 refine Pl 1<|dX 6 [115] 121 115 (((A.mei != B.mei)||(A.kind != B.kind))||(A.level != B.level)) (A.more != B.more) (fun K bB cV=>?_) ?_
 exact Pl 1<|L1<|cY c 19<|Pl 1<|L1<|cY b 19<|Pl 2<|ce bB _ rfl
 refine Pl 1<|dX 6 [122] 128 122 ((((A.mei != B.mei)||(A.kind != B.kind))||(A.level != B.level))||(A.more != B.more)) (A.next != B.next) (fun K bC cW=>?_) ?_
 exact Pl 1<|L1<|cY c 20<|Pl 1<|L1<|cY b 20<|Pl 2<|ce bC _ rfl
 refine nt<|cb ((((((A.mei != B.mei)||(A.kind != B.kind))||(A.level != B.level))||(A.more != B.more))||(A.next != B.next))) (fun P=>?_) (fun P=>?_)
 refine az 1<|bq<|rr (.bool false)<|?_
 have hs:decide (A=B)=false:=kc (f:=fun x y=>(((((x.mei != y.mei)||(x.kind != y.kind))||(x.level != y.level))||(x.more != y.more))||(x.next != y.next))) P (fun M=>by simp)
 rw[hs]
 exact⟨rfl,q⟩
 refine bu<|al 1<|aF c 12<|Pl 1<|aF b 12<|?_
 refine aq<|m1 (gE (ej.old phw q) (ej.old qhw q)) fun cX Q=>Pl 1<|aK 1<|?_
 have ab:=ub Q c
 refine aF ab 13<|Pl 1<|?_
 have ac:=ub Q b
 refine aF ac 13<|?_
 have R:=aQ q Q
 refine aq<|m1 (kQ (ig.old phb R) (ig.old qhb R)) fun cZ S=>Pl 1<|aK 1<|?_
 have E:=ub S ab
 refine aF E 14<|Pl 1<|?_
 have r:=ub S ac
 refine aF r 14<|?_
 have T:=aQ R S
 refine aq<|m1 (kn (aV.old phd T) (aV.old qhd T)) fun bD n=>am 1<|sq<|al 3<|cu 3 [146] 149 (((!(decide (A.words=B.words)))||(!(decide (A.bits=B.bits))))) (fun K ad=>?_) ?_
 refine bl 146 ((!(decide (A.words=B.words)))) (fun s=>?_) (fun s=>?_)
 have U:(decide (A.words=B.words))=false:=by simpa using s
 have bE:=of_decide_eq_false U
 exact Pl 3<|ce ad true (by rw[s];rfl)
 have U:(decide (A.words=B.words))=true:=by simpa using s
 have bE:=of_decide_eq_true U
 exact Pl 3<|ce ad (!(decide (A.bits=B.bits))) (by rw[s];rfl)
 refine Pl 1<|dX 3 [150] 153 150 ((!(decide (A.words=B.words)))||(!(decide (A.bits=B.bits)))) (!(decide (A.data=B.data))) (fun K bF ae=>?_) ?_
 have bG:=(cl ae).1
 have bH:=(cl ae).2
 have bI:(decide (A.words=B.words))=true:=by simpa using bG
 have q74anp:=of_decide_eq_true bI
 have bJ:(decide (A.bits=B.bits))=true:=by simpa using bH
 have q74bnp:=of_decide_eq_true bJ
 exact Pl 3<|ce bF _ rfl
 refine Pl 1<|dX 8 [154] 162 154 (((!(decide (A.words=B.words)))||(!(decide (A.bits=B.bits))))||(!(decide (A.data=B.data)))) (((A.recs.length:Nat) : Int)!=((B.recs.length:Nat) : Int)) (fun K bK af=>?_) ?_
 have ag:=(cl af).1
 have bL:=(cl af).2
 have bM:=(cl ag).1
 have bN:=(cl ag).2
 have q76aan:(decide (A.words=B.words))=true:=by simpa using bM
 have q76aanp:=of_decide_eq_true q76aan
 have q76abn:(decide (A.bits=B.bits))=true:=by simpa using bN
 have q76abnp:=of_decide_eq_true q76abn
 have bO:(decide (A.data=B.data))=true:=by simpa using bL
 have q76bnp:=of_decide_eq_true bO
 refine Pl 1<|?_
 refine L1<|cY (ub n E) 15<|Pl 2<|?_
 exact L1<|cY (ub n r) 15<|Pl 3<|ce bK _ rfl
 refine Pl 1<|dX 8 [163] 171 163 ((((!(decide (A.words=B.words)))||(!(decide (A.bits=B.bits))))||(!(decide (A.data=B.data))))||(((A.recs.length:Nat) : Int)!=((B.recs.length:Nat) : Int))) (((A.objects.length:Nat) : Int)!=((B.objects.length:Nat) : Int)) (fun K bP ah=>?_) ?_
 have ai:=(cl ah).1
 have bQ:=(cl ah).2
 have aj:=(cl ai).1
 have bR:=(cl ai).2
 have q80aaa:=(cl aj).1
 have q80aab:=(cl aj).2
 have q80aaan:(decide (A.words=B.words))=true:=by simpa using q80aaa
 have q80aaanp:=of_decide_eq_true q80aaan
 have q80aabn:(decide (A.bits=B.bits))=true:=by simpa using q80aab
 have q80aabnp:=of_decide_eq_true q80aabn
 have q80abn:(decide (A.data=B.data))=true:=by simpa using bR
 have q80abnp:=of_decide_eq_true q80abn
 have d0:=aI bQ
 refine Pl 1<|?_
 refine L1<|cY (ub n E) 21<|Pl 2<|?_
 exact L1<|cY (ub n r) 21<|Pl 3<|ce bP _ rfl
 refine nt<|?_
 have an:=aQ T n
 refine cb ((((((!(decide (A.words=B.words)))||(!(decide (A.bits=B.bits))))||(!(decide (A.data=B.data))))||(((A.recs.length:Nat) : Int)!=((B.recs.length:Nat) : Int)))||(((A.objects.length:Nat) : Int)!=((B.objects.length:Nat) : Int)))) (fun t=>?_) (fun t=>?_)
 refine az 1<|bq<|rr (.bool false)<|?_
 have hs:decide (A=B)=false:=kc (f:=fun x y=>(((((!(decide (x.words=y.words)))||(!(decide (x.bits=y.bits))))||(!(decide (x.data=y.data))))||(((x.recs.length:Nat) : Int)!=((y.recs.length:Nat) : Int)))||(((x.objects.length:Nat) : Int)!=((y.objects.length:Nat) : Int)))) t (fun M=>by simp)
 rw[hs]
 exact⟨rfl,an⟩
 have ao:=(cl t).1
 have bS:=(cl t).2
 have ap:=(cl ao).1
 have bT:=(cl ao).2
 have q85aaa:=(cl ap).1
 have q85aab:=(cl ap).2
 have q85aaaa:=(cl q85aaa).1
 have q85aaab:=(cl q85aaa).2
 have q85aaaan:(decide (A.words=B.words))=true:=by simpa using q85aaaa
 have q85aaaanp:=of_decide_eq_true q85aaaan
 have q85aaabn:(decide (A.bits=B.bits))=true:=by simpa using q85aaab
 have q85aaabnp:=of_decide_eq_true q85aaabn
 have q85aabn:(decide (A.data=B.data))=true:=by simpa using q85aab
 have q85aabnp:=of_decide_eq_true q85aabn
 have q85abp:=aI bT
 have d1:=aI bS
 refine bu<|sq<|az 1<|bk<|?_
 refine iq (fun x=>[(2,vP i 0),(3,vP l 0),(8,vI ((x:Nat) : Int))]) (fun(x:Nat) w'=>aC [] bD w'∧(A.recs.take x=B.recs.take x)∧(x≤A.recs.length)) (fun x=>A.recs.length-x) 0 ⟨aC.refl _ _,(by(try dsimp only);simp),(by(try dsimp only);omega)⟩ ?_
 rintro j bU ⟨F,bV,bW⟩
 refine fs [(2,vP i 0),(3,vP l 0),(8,vI ((j:Nat) : Int))] ?_
 have ar:A.recs.take j=B.recs.take j:=bV
 have d2:j≤A.recs.length:=bW
 refine sq<|al 2<|?_
 have G:=aQ n F
 have V:=ub G E
 refine aF V 15<|am 2<|?_
 have H:=aQ an F
 refine cb ((decide (((j:Nat) : Int)<((A.recs.length:Nat) : Int)))) (fun W=>?_) (fun W=>?_)
 have bX:=of_decide_eq_true W
 refine bu<|sq<|bk<|al 1<|aF V 15<|Pl 1<|l1 (o2.elt phr j (by omega)) fun d3 d4 d5 d6 d7 au av bY bZ c0 d8 c2=>L0<|oQ 4 A.recs.length j bY (by omega)<|?_
 refine L0<|vL [vW ((A.recs.getD j ⟨0,0,0,[]⟩).file),vW ((A.recs.getD j ⟨0,0,0,[]⟩).record),vW ((A.recs.getD j ⟨0,0,0,[]⟩).count),.slice au ((A.recs.getD j ⟨0,0,0,[]⟩).words.length) av] (ub H bZ) c2<|aJ #[vW 0,vW 0,vW 0,nS] fun d9 da X c3 Y=>aB c3 #[vW ((A.recs.getD j ⟨0,0,0,[]⟩).file),vW ((A.recs.getD j ⟨0,0,0,[]⟩).record),vW ((A.recs.getD j ⟨0,0,0,[]⟩).count),.slice au ((A.recs.getD j ⟨0,0,0,[]⟩).words.length) av] fun db c4 Z=>aK 1<|?_
 refine aF (ub (u1 (aQ G Y) Z (ni G.size X)) r) 15<|Pl 1<|l1 (o2.elt qhr j (by omega)) fun dc dd de df dg aw ax c5 c6 c7 dh c8=>L0<|oQ 4 B.recs.length j c5 (by omega)<|?_
 have a0:=u1 (aQ H Y) Z (ni H.size X)
 refine L0<|vL [vW ((B.recs.getD j ⟨0,0,0,[]⟩).file),vW ((B.recs.getD j ⟨0,0,0,[]⟩).record),vW ((B.recs.getD j ⟨0,0,0,[]⟩).count),.slice aw ((B.recs.getD j ⟨0,0,0,[]⟩).words.length) ax] (ub a0 c6) c8<|aJ #[vW 0,vW 0,vW 0,nS] fun di dj a1 c9 a2=>aB c9 #[vW ((B.recs.getD j ⟨0,0,0,[]⟩).file),vW ((B.recs.getD j ⟨0,0,0,[]⟩).record),vW ((B.recs.getD j ⟨0,0,0,[]⟩).count),.slice aw ((B.recs.getD j ⟨0,0,0,[]⟩).words.length) ax] fun dk I a3=>aK 1<|?_
 have J:=ub (u1 a2 a3 (nr a1)) c4
 refine aF J 3<|Pl 1<|aF I 3<|?_
 have a4:=u1 (aQ a0 a2) a3 (ni a0.size a1)
 refine aq<|m1 (gE (ej.old c0 a4) (ej.old c7 a4)) fun dl h=>Pl 1<|aK 3<|cu 6 [196] 202 (((!(decide ((A.recs.getD j ⟨0,0,0,[]⟩).words=(B.recs.getD j ⟨0,0,0,[]⟩).words)))||(((A.recs.getD j ⟨0,0,0,[]⟩).file)!=((B.recs.getD j ⟨0,0,0,[]⟩).file)))) (fun K aA=>?_) ?_
 refine bl 196 ((!(decide ((A.recs.getD j ⟨0,0,0,[]⟩).words=(B.recs.getD j ⟨0,0,0,[]⟩).words)))) (fun u=>?_) (fun u=>?_)
 have a5:(decide ((A.recs.getD j ⟨0,0,0,[]⟩).words=(B.recs.getD j ⟨0,0,0,[]⟩).words))=false:=by simpa using u
 have ca:=of_decide_eq_false a5
 exact Pl 6<|ce aA true (by rw[u];rfl)
 have a5:(decide ((A.recs.getD j ⟨0,0,0,[]⟩).words=(B.recs.getD j ⟨0,0,0,[]⟩).words))=true:=by simpa using u
 have ca:=of_decide_eq_true a5
 refine Pl 1<|?_
 refine L1<|cY (ub h J) 0<|Pl 1<|?_
 exact L1<|cY (ub h I) 0<|Pl 2<|ce aA (((A.recs.getD j ⟨0,0,0,[]⟩).file)!=((B.recs.getD j ⟨0,0,0,[]⟩).file)) (by rw[u];rfl)
 refine Pl 1<|dX 6 [203] 209 203 ((!(decide ((A.recs.getD j ⟨0,0,0,[]⟩).words=(B.recs.getD j ⟨0,0,0,[]⟩).words)))||(((A.recs.getD j ⟨0,0,0,[]⟩).file)!=((B.recs.getD j ⟨0,0,0,[]⟩).file))) (((A.recs.getD j ⟨0,0,0,[]⟩).record)!=((B.recs.getD j ⟨0,0,0,[]⟩).record)) (fun K cc aD=>?_) ?_
 have cd:=(cl aD).1
 have cf:=(cl aD).2
 have ch:(decide ((A.recs.getD j ⟨0,0,0,[]⟩).words=(B.recs.getD j ⟨0,0,0,[]⟩).words))=true:=by simpa using cd
 have q156anp:=of_decide_eq_true ch
 have dm:=aI cf
 refine Pl 1<|?_
 refine L1<|cY (ub h J) 1<|Pl 1<|?_
 exact L1<|cY (ub h I) 1<|Pl 2<|ce cc _ rfl
 refine Pl 1<|dX 6 [210] 216 210 (((!(decide ((A.recs.getD j ⟨0,0,0,[]⟩).words=(B.recs.getD j ⟨0,0,0,[]⟩).words)))||(((A.recs.getD j ⟨0,0,0,[]⟩).file)!=((B.recs.getD j ⟨0,0,0,[]⟩).file)))||(((A.recs.getD j ⟨0,0,0,[]⟩).record)!=((B.recs.getD j ⟨0,0,0,[]⟩).record))) (((A.recs.getD j ⟨0,0,0,[]⟩).count)!=((B.recs.getD j ⟨0,0,0,[]⟩).count)) (fun K ci aE=>?_) ?_
 have aH:=(cl aE).1
 have cj:=(cl aE).2
 have ck:=(cl aH).1
 have cm:=(cl aH).2
 have q160aan:(decide ((A.recs.getD j ⟨0,0,0,[]⟩).words=(B.recs.getD j ⟨0,0,0,[]⟩).words))=true:=by simpa using ck
 have q160aanp:=of_decide_eq_true q160aan
 have q160abp:=aI cm
 have dn:=aI cj
 refine Pl 1<|?_
 refine L1<|cY (ub h J) 2<|Pl 1<|?_
 exact L1<|cY (ub h I) 2<|Pl 2<|ce ci _ rfl
 refine nt<|?_
 refine cb (((((!(decide ((A.recs.getD j ⟨0,0,0,[]⟩).words=(B.recs.getD j ⟨0,0,0,[]⟩).words)))||(((A.recs.getD j ⟨0,0,0,[]⟩).file)!=((B.recs.getD j ⟨0,0,0,[]⟩).file)))||(((A.recs.getD j ⟨0,0,0,[]⟩).record)!=((B.recs.getD j ⟨0,0,0,[]⟩).record)))||(((A.recs.getD j ⟨0,0,0,[]⟩).count)!=((B.recs.getD j ⟨0,0,0,[]⟩).count)))) (fun v=>?_) (fun v=>?_)
 refine az 1<|rt<|br<|tr<|tr<|br<|tr<|rr (.bool false)<|?_
 have hs:decide (A=B)=false:=kc (f:=fun x y=>((((!(decide ((x.recs.getD j ⟨0,0,0,[]⟩).words=(y.recs.getD j ⟨0,0,0,[]⟩).words)))||(((x.recs.getD j ⟨0,0,0,[]⟩).file)!=((y.recs.getD j ⟨0,0,0,[]⟩).file)))||(((x.recs.getD j ⟨0,0,0,[]⟩).record)!=((y.recs.getD j ⟨0,0,0,[]⟩).record)))||(((x.recs.getD j ⟨0,0,0,[]⟩).count)!=((y.recs.getD j ⟨0,0,0,[]⟩).count)))) v (fun M=>by simp)
 rw[hs]
 exact⟨rfl,(aQ a4 h)⟩
 have aL:=(cl v).1
 have cn:=(cl v).2
 have aM:=(cl aL).1
 have co:=(cl aL).2
 have q165aaa:=(cl aM).1
 have q165aab:=(cl aM).2
 have q165aaan:(decide ((A.recs.getD j ⟨0,0,0,[]⟩).words=(B.recs.getD j ⟨0,0,0,[]⟩).words))=true:=by simpa using q165aaa
 have q165aaanp:=of_decide_eq_true q165aaan
 have q165aabp:=aI q165aab
 have q165abp:=aI co
 have dp:=aI cn
 refine sk<|bn<|tn<|go<|Pl 1<|bt (((j:Nat) : Int)+1)<|Pl 1<|nl<|?_
 have aN:=u1 (aQ F Y) Z (ni F.size X)
 exact fv (j+1) ⟨(aQ (u1 (aQ aN a2) a3 (ni aN.size a1)) h),(o7 (d:=⟨0,0,0,[]⟩) ar (by omega) (by omega) (tv v)),(by(try dsimp only);omega)⟩ (by omega)
 have bX:=of_decide_eq_false W
 refine xt<|tx<|tx<|bx<|tn<|sq<|az 1<|bk<|?_
 refine iq (fun x=>[(2,vP i 0),(3,vP l 0),(12,vI ((x:Nat) : Int))]) (fun(x:Nat) w'=>aC [] bU w'∧(A.objects.take x=B.objects.take x)∧(x≤A.objects.length)) (fun x=>A.objects.length-x) 0 ⟨aC.refl _ _,(by(try dsimp only);simp),(by(try dsimp only);omega)⟩ ?_
 rintro k dq ⟨L,cp,cq⟩
 refine fs [(2,vP i 0),(3,vP l 0),(12,vI ((k:Nat) : Int))] ?_
 have aO:A.objects.take k=B.objects.take k:=cp
 have dr:k≤A.objects.length:=cq
 refine sq<|al 2<|?_
 have aP:=ub L V
 refine aF aP 21<|am 2<|?_
 have aR:=aQ H L
 refine cb ((decide (((k:Nat) : Int)<((A.objects.length:Nat) : Int)))) (fun a6=>?_) (fun a6=>?_)
 have cr:=of_decide_eq_true a6
 refine bu<|sq<|bk<|sq<|l1 (pp.elt pho k (by omega)) fun aS aT ds dt du cs ct aW cv cw dv a7=>l1 (pp.elt qho k (by omega)) fun aX aY dx dy dz cx cy aZ cz cA dA a8=>Rg 14 (fun w'=>w'.cell? ⟨i,21,none⟩=some (.slice po A.objects.length pko)∧w'.cell? ⟨aS,aT+k*2+1,none⟩=some (.slice cs ((A.objects.getD k ⟨0,[]⟩).value.length) ct)∧w'.cell? ⟨l,21,none⟩=some (.slice qo B.objects.length qko)∧w'.cell? ⟨aX,aY+k*2+1,none⟩=some (.slice cx ((B.objects.getD k ⟨0,[]⟩).value.length) cy)) fun dB N=>?_
 have b0:=ub N aP
 have z:=aQ aR N
 have b1:=ub z cv
 have b2:=ub (aQ (aQ G L) N) r
 have b3:=ub z cz
 refine bz ⟨(ak b0 rfl),(ga b1 a7 1 rfl (by decide)),(ak b2 rfl),(ga b3 a8 1 rfl (by decide))⟩ fun g=>Rt 0 g<|Rl 1 g (fun _ hs=>hs.1)<|Rt 2 g<|Ri 3 g 2 A.objects.length k ((k:Nat) : Int) rfl aW (by omega)<|Rt 4 g<|Rl 5 g (fun _ hs=>hs.2.1)<|Rt 6 g<|Rl 7 g (fun _ hs=>hs.2.2.1)<|Rt 8 g<|Ri 9 g 2 B.objects.length k ((k:Nat) : Int) rfl aZ (by omega)<|Rt 10 g<|Rl 11 g (fun _ hs=>hs.2.2.2)<|?_
 refine R0 12 rfl<|Oc<|m1 (kn (aV.old cw z) (aV.old cA z)) fun dC o=>?_
 have b4:=ub o b0
 have b5:=ub o b1
 have b7:=ub o b2
 have b8:=ub o b3
 refine bz ⟨(ak b4 rfl),(ga b5 a7 1 rfl (by decide)),(ak b7 rfl),(ga b8 a8 1 rfl (by decide))⟩ fun cB=>Rt 13 cB<|re<|tn<|sq<|Rg 17 (fun w'=>w'.cell? ⟨i,21,none⟩=some (.slice po A.objects.length pko)∧w'.cell? ⟨aS,aT+k*2+0,none⟩=some (vB ((A.objects.getD k ⟨0,[]⟩).id))∧w'.cell? ⟨l,21,none⟩=some (.slice qo B.objects.length qko)∧w'.cell? ⟨aX,aY+k*2+0,none⟩=some (vB ((B.objects.getD k ⟨0,[]⟩).id))) fun dD p=>?_
 refine bz ⟨(ak (ub p b4) rfl),(ga (ub p b5) a7 0 rfl (by decide)),(ak (ub p b7) rfl),(ga (ub p b8) a8 0 rfl (by decide))⟩ fun a=>Rt 0 a<|Rt 1 a<|Rt 2 a<|?_
 have b9:=aQ (aQ z o) p
 refine tT 239 ((!(decide ((A.objects.getD k ⟨0,[]⟩).value=(B.objects.getD k ⟨0,[]⟩).value)))) (fun C=>?_) (fun C=>?_)
 have a9:(decide ((A.objects.getD k ⟨0,[]⟩).value=(B.objects.getD k ⟨0,[]⟩).value))=false:=by simpa using C
 have cC:=of_decide_eq_false a9
 refine Ro 3 a<|Ro 4 a<|Ro 5 a<|Ro 6 a<|Ro 7 a<|Ro 8 a<|Ro 9 a<|Ro 10 a<|Ro 11 a<|Ro 12 a<|Ro 13 a<|Ro 14 a<|Ro 15 a<|Rt 16 a<|?_
 refine re<|tn<|c1<|az 1<|rt<|br<|tr<|tr<|br<|tr<|?_
 refine rr (.bool false)<|?_
 have hs:decide (A=B)=false:=kc (f:=fun x y=>(!(decide ((x.objects.getD k ⟨0,[]⟩).value=(y.objects.getD k ⟨0,[]⟩).value)))) C (fun M=>by simp)
 rw[hs]
 exact⟨rfl,b9⟩
 have a9:(decide ((A.objects.getD k ⟨0,[]⟩).value=(B.objects.getD k ⟨0,[]⟩).value))=true:=by simpa using C
 have cC:=of_decide_eq_true a9
 refine Rt 3 a<|Rl 4 a (fun _ hs=>hs.1)<|Rt 5 a<|Ri 6 a 2 A.objects.length k ((k:Nat) : Int) rfl aW (by omega)<|Rt 7 a<|Rl 8 a (fun _ hs=>hs.2.1)<|Rt 9 a<|Rl 10 a (fun _ hs=>hs.2.2.1)<|Rt 11 a<|Ri 12 a 2 B.objects.length k ((k:Nat) : Int) rfl aZ (by omega)<|Rt 13 a<|Rl 14 a (fun _ hs=>hs.2.2.2)<|Rt 15 a<|Rt 16 a<|?_
 refine re<|tn<|cb ((((A.objects.getD k ⟨0,[]⟩).id)!=((B.objects.getD k ⟨0,[]⟩).id))) (fun D=>?_) (fun D=>?_)
 have cD:=ay D
 refine az 1<|rt<|br<|tr<|tr<|br<|tr<|rr (.bool false)<|?_
 have hs:decide (A=B)=false:=kc (f:=fun x y=>(((x.objects.getD k ⟨0,[]⟩).id)!=((y.objects.getD k ⟨0,[]⟩).id))) D (fun M=>by simp)
 rw[hs]
 exact⟨rfl,b9⟩
 have cD:=aI D
 refine sk<|bn<|tn<|go<|Pl 1<|bt (((k:Nat) : Int)+1)<|Pl 1<|nl<|?_
 exact fv (k+1) ⟨(aQ (aQ (aQ L N) o) p),(o7 (d:=⟨0,[]⟩) aO (by omega) (by omega) (sf C D)),(by(try dsimp only);omega)⟩ (by omega)
 have cr:=of_decide_eq_false a6
 refine xt<|tx<|tx<|bx<|tn<|az 1<|rt<|rr (.bool true)<|?_
 have hs:decide (A=B)=true:=decide_eq_true (sc O P t (fun e=>f4 ar (by omega) e) (fun e=>f4 aO (by omega) e))
 rw[hs]
 exact⟨rfl,aR⟩
open Go.RowKit
deriving instance DecidableEq for Ev
theorem jZ(A B:Ev) : (((A.e==B.e)&&((A.f.unit==B.f.unit)&&(A.f.tid==B.f.tid)))&&decide (A.f.msg=B.f.msg))=decide (A=B):=by
  rw[Bool.eq_iff_iff]
  simp only[Bool.and_eq_true,beq_iff_eq,decide_eq_true_eq]
  obtain⟨e,u,t,M⟩:=A
  obtain⟨e2,u2,t2,M2⟩:=B
  simp only[Ev.mk.injEq,dx.mk.injEq]
  constructor
  · rintro⟨⟨h1,h2,h3⟩,h4⟩;exact⟨h1,h2,h3,h4⟩
  · rintro⟨h1,h2,h3,h4⟩;exact⟨⟨h1,h2,h3⟩,h4⟩
theorem sZ{xs ys:List Ev}{k:Nat}(hk:k<xs.length)(hl:xs.length=ys.length)(h:xs.take k=ys.take k)(he:xs.getD k (Ev.bad 0)=ys.getD k (Ev.bad 0)) : xs.take (k+1)=ys.take (k+1):=by
  exact r7 hl hk h he
theorem tE{xs ys:List Ev}{k:Nat}(h:xs.take k=ys.take k)(h1:k=xs.length)(h2:xs.length=ys.length) : decide (xs=ys)=true:=by
  rw[List.take_of_length_le (by omega),List.take_of_length_le (by omega)] at h
  exact decide_eq_true h
theorem tY{xs ys:List Ev}(k:Nat)(h:decide (xs.getD k (Ev.bad 0)=ys.getD k (Ev.bad 0))=false) : decide (xs=ys)=false:=by
  rw[decide_eq_false_iff_not] at h ⊢
  exact fun e=>h (by rw[e])
theorem my{m m':Md}{A B:Ev}{sA sB:SL}{w:World}(hA:aU m w (ml A.f.msg sA).toList A.f.msg)(hB:aU m' w (ml B.f.msg sB).toList B.f.msg) : Calls Tryz.prog 54 #[.agg (ot A sA),.agg (ot B sB)] w (cg (.bool (decide (A=B))) w):=by
 refine en 28 Tryz.func54 rfl<|sg<|L0<|dw (ot ⟨A.e,A.f⟩ sA) fun s t u o p=>L0<|dw (ot ⟨B.e,B.f⟩ sB) fun v x y d i=>Pl 1<|ng<|Pl 1<|?_
 have g:=ub i o
 refine L0<|cY g 0<|Pl 1<|L0<|cY d 0<|Pl 2<|cu 8 [10] 18 (((A.e==B.e)&&((A.f.unit==B.f.unit)&&(A.f.tid==B.f.tid)))) (fun K j=>?_) ?_
 refine bl 10 ((A.e==B.e)) (fun a=>?_) (fun a=>?_)
 have q:=ap a
 exact Pl 2<|L1<|uL g 1 2<|Pl 2<|L1<|uL d 1 2<|L1<|jU (.bool ((A.f.unit==B.f.unit)&&(A.f.tid==B.f.tid))) (nh A.f.unit A.f.tid B.f.unit B.f.tid rfl (by kernel_rfl) (by kernel_rfl) rfl)<|Pl 1<|ce j ((A.f.unit==B.f.unit)&&(A.f.tid==B.f.tid)) (by rw[a];rfl)
 have q:=au a
 exact Pl 8<|ce j false (by rw[a];rfl)
 refine Pl 1<|?_
 have c:=aQ p i
 refine bl 19 (((A.e==B.e)&&((A.f.unit==B.f.unit)&&(A.f.tid==B.f.tid)))) (fun b=>?_) (fun b=>?_)
 have k:=(aW b).1
 have h:=(aW b).2
 have z:=ap k
 have l:=(aW h).1
 have n:=(aW h).2
 have q24bap:=ap l
 have q24bbp:=ap n
 refine Pl 2<|L1<|uL g 3 22<|Pl 2<|L1<|uL d 3 22<|?_
 refine L1<|Oc<|m1 (p3 (aU.old hA c) (aU.old hB c)) fun C r=>Pl 2<|nt<|rt<|rr (.bool (decide (A.f.msg=B.f.msg)))<|?_
 have hs:(decide (A.f.msg=B.f.msg))=decide (A=B):=by rw[← jZ];simp only[b,k,h,l,n,bp,Bool.true_and,Bool.false_and,Bool.and_true,Bool.and_false]
 rw[hs]
 exact⟨rfl,(aQ c r)⟩
 refine Pl 9<|nt<|rt<|rr (.bool false)<|?_
 have hs:false=decide (A=B):=by rw[← jZ];simp only[b,bp,Bool.true_and,Bool.false_and,Bool.and_true,Bool.and_false]
 rw[hs]
 exact⟨rfl,c⟩
theorem ky{m m':Md}{A B:Option Addr}{c d:Nat}{xs ys:List Ev}{w:World}(h1:o6 m w (.slice A xs.length c) xs)(h2:o6 m' w (.slice B ys.length d) ys) : Calls Tryz.prog 18 #[.slice A xs.length c,.slice B ys.length d] w (cg (.bool (decide (xs=ys))) w):=by
 have hz1:=aG.len h1
 have hz2:=aG.len h2
 refine en 27 Tryz.func18 rfl<|sg<|Pl 1<|nt<|sq<|sg<|Pl 5<|nt<|cb ((((xs.length:Nat) : Int)!=((ys.length:Nat) : Int))) (fun l=>?_) (fun l=>?_)
 have q:=ay l
 refine sg<|Pl 1<|nt<|rt<|tr<|rr (.bool false)<|?_
 have hs:decide (xs=ys)=false:=decide_eq_false (fun e=>by rw[e] at q;omega)
 rw[hs]
 exact⟨rfl,(aC.refl [] _)⟩
 have q:=aI l
 refine bu<|sq<|sg<|Pl 1<|nt<|bk<|?_
 refine iq (fun x=>[(0,.slice A xs.length c),(1,.slice B ys.length d),(5,.int .i64 ((x:Nat) : Int))]) (fun(x:Nat) w'=>aC [] w w'∧(xs.take x=ys.take x)∧(x≤xs.length)) (fun x=>xs.length-x) 0 ⟨aC.refl _ _,rfl,(by(try dsimp only);omega)⟩ ?_
 rintro k Y ⟨r,C,D⟩
 refine fs [(0,.slice A xs.length c),(1,.slice B ys.length d),(5,.int .i64 ((k:Nat) : Int))] ?_
 have s:xs.take k=ys.take k:=C
 have Z:k≤xs.length:=D
 refine sq<|sg<|Pl 4<|nt<|cb ((decide (((k:Nat) : Int)<((xs.length:Nat) : Int)))) (fun n=>?_) (fun n=>?_)
 have E:=of_decide_eq_true n
 refine bu<|sq<|bk<|sq<|uJ (o6.elt h1 k (by omega) (Ev.bad 0)) fun t F G H I a J K L M=>uJ (o6.elt h2 k (by omega) (Ev.bad 0)) fun u N O P Q b R S T U=>Rg 10 (fun w'=>w'.heap[t]? = some (.cells G H I)∧w'.heap[u]? = some (.cells O P Q)) fun a0 V=>?_
 have i:=aQ r V
 have v:=ub i K
 have y:=ub i S
 refine bz ⟨v,y⟩ fun h=>Rt 0 h<|Rt 1 h<|Ri 2 h 25 xs.length k ((k:Nat) : Int) rfl J (by omega)<|Rr 3 h (.agg (ot ⟨(xs.getD k (Ev.bad 0)).e,(xs.getD k (Ev.bad 0)).f⟩ a)) (fun w' hs=>qX (g:=t) (off:=F+k*25) [.int .i64 ((xs.getD k (Ev.bad 0)).e),.int .u8 ((xs.getD k (Ev.bad 0)).f.unit),.int .u16 ((xs.getD k (Ev.bad 0)).f.tid),.int .u8 ((xs.getD k (Ev.bad 0)).f.msg.code),.int .u8 ((xs.getD k (Ev.bad 0)).f.msg.fail),.int .u16 ((xs.getD k (Ev.bad 0)).f.msg.addr),.int .u16 ((xs.getD k (Ev.bad 0)).f.msg.count),.int .u16 ((xs.getD k (Ev.bad 0)).f.msg.value),.int .u16 ((xs.getD k (Ev.bad 0)).f.msg.and_),.int .u16 ((xs.getD k (Ev.bad 0)).f.msg.or_),.int .u16 ((xs.getD k (Ev.bad 0)).f.msg.addr2),.int .u16 ((xs.getD k (Ev.bad 0)).f.msg.sub),.int .u16 ((xs.getD k (Ev.bad 0)).f.msg.status),.int .u16 ((xs.getD k (Ev.bad 0)).f.msg.events),.int .u16 ((xs.getD k (Ev.bad 0)).f.msg.messages),.slice a.aw ((xs.getD k (Ev.bad 0)).f.msg.words.length) a.kw,.slice a.ab ((xs.getD k (Ev.bad 0)).f.msg.bits.length) a.kb,.slice a.ad ((xs.getD k (Ev.bad 0)).f.msg.data.length) a.kd,.slice a.ar ((xs.getD k (Ev.bad 0)).f.msg.recs.length) a.kr,.int .u8 ((xs.getD k (Ev.bad 0)).f.msg.mei),.int .u8 ((xs.getD k (Ev.bad 0)).f.msg.kind),.int .u8 ((xs.getD k (Ev.bad 0)).f.msg.level),.int .u8 ((xs.getD k (Ev.bad 0)).f.msg.more),.int .u8 ((xs.getD k (Ev.bad 0)).f.msg.next),.slice a.ao ((xs.getD k (Ev.bad 0)).f.msg.objects.length) a.ko] rfl (by kernel_rfl) hs.1 (by kernel_rfl) (by kernel_rfl) M)<|Rt 4 h<|Rt 5 h<|Ri 6 h 25 ys.length k ((k:Nat) : Int) rfl R (by omega)<|Rr 7 h (.agg (ot ⟨(ys.getD k (Ev.bad 0)).e,(ys.getD k (Ev.bad 0)).f⟩ b)) (fun w' hs=>qX (g:=u) (off:=N+k*25) [.int .i64 ((ys.getD k (Ev.bad 0)).e),.int .u8 ((ys.getD k (Ev.bad 0)).f.unit),.int .u16 ((ys.getD k (Ev.bad 0)).f.tid),.int .u8 ((ys.getD k (Ev.bad 0)).f.msg.code),.int .u8 ((ys.getD k (Ev.bad 0)).f.msg.fail),.int .u16 ((ys.getD k (Ev.bad 0)).f.msg.addr),.int .u16 ((ys.getD k (Ev.bad 0)).f.msg.count),.int .u16 ((ys.getD k (Ev.bad 0)).f.msg.value),.int .u16 ((ys.getD k (Ev.bad 0)).f.msg.and_),.int .u16 ((ys.getD k (Ev.bad 0)).f.msg.or_),.int .u16 ((ys.getD k (Ev.bad 0)).f.msg.addr2),.int .u16 ((ys.getD k (Ev.bad 0)).f.msg.sub),.int .u16 ((ys.getD k (Ev.bad 0)).f.msg.status),.int .u16 ((ys.getD k (Ev.bad 0)).f.msg.events),.int .u16 ((ys.getD k (Ev.bad 0)).f.msg.messages),.slice b.aw ((ys.getD k (Ev.bad 0)).f.msg.words.length) b.kw,.slice b.ab ((ys.getD k (Ev.bad 0)).f.msg.bits.length) b.kb,.slice b.ad ((ys.getD k (Ev.bad 0)).f.msg.data.length) b.kd,.slice b.ar ((ys.getD k (Ev.bad 0)).f.msg.recs.length) b.kr,.int .u8 ((ys.getD k (Ev.bad 0)).f.msg.mei),.int .u8 ((ys.getD k (Ev.bad 0)).f.msg.kind),.int .u8 ((ys.getD k (Ev.bad 0)).f.msg.level),.int .u8 ((ys.getD k (Ev.bad 0)).f.msg.more),.int .u8 ((ys.getD k (Ev.bad 0)).f.msg.next),.slice b.ao ((ys.getD k (Ev.bad 0)).f.msg.objects.length) b.ko] rfl (by kernel_rfl) hs.2 (by kernel_rfl) (by kernel_rfl) U)<|?_
 refine R0 8 rfl<|Oc<|m1 (my (A:=(xs.getD k (Ev.bad 0))) (B:=(ys.getD k (Ev.bad 0))) (aU.old (L.1) i) (aU.old (T.1) i)) fun a1 o=>?_
 refine bz ⟨(ub o v),(ub o y)⟩ fun W=>Rt 9 W<|re<|tn<|?_
 have z:=aQ i o
 refine cb ((!(decide ((xs.getD k (Ev.bad 0))=(ys.getD k (Ev.bad 0)))))) (fun p=>?_) (fun p=>?_)
 have j:(decide ((xs.getD k (Ev.bad 0))=(ys.getD k (Ev.bad 0))))=false:=by simpa using p
 have X:=of_decide_eq_false j
 refine sg<|Pl 1<|nt<|rt<|br<|tr<|tr<|br<|tr<|rr (.bool false)<|?_
 have hs:decide (xs=ys)=false:=tY k j
 rw[hs]
 exact⟨rfl,z⟩
 have j:(decide ((xs.getD k (Ev.bad 0))=(ys.getD k (Ev.bad 0))))=true:=by simpa using p
 have X:=of_decide_eq_true j
 exact sk<|bn<|tn<|go<|Pl 1<|L0<|Oi (((k:Nat) : Int)+1)<|Pl 1<|nl<|fv (k+1) ⟨z,(sZ (by omega) (by omega) s (of_decide_eq_true j)),(by(try dsimp only);omega)⟩ (by omega)
 have E:=of_decide_eq_false n
 refine xt<|tx<|tx<|bx<|tn<|sg<|Pl 1<|nt<|rt<|rr (.bool true)<|?_
 have hs:decide (xs=ys)=true:=tE s (by omega) (by omega)
 rw[hs]
 exact⟨rfl,r⟩
end Go.Proofs.YtdkhbcefkfgbdaaGreat
namespace Go.Proofs.YtdkhbcefkfgbdaaGreat
def gP (C:ag) : Prop:=∀ x,x∈C.l→0≤x∧x<256
theorem qf{C:ag}{ok:Bool}{x:Int}(hx:x≠0)(h:(C.need ok x).e=0) : C.e=0∧ok=true:=by
  unfold ag.need at h
  split at h
  · exact absurd h hx
  · rename_i hh
    refine⟨h,?_⟩
    cases ok
    · exact absurd ⟨h,rfl⟩ hh
    · rfl
theorem kv{C:ag}{n:Int}(h:(C.bytesC n).e=0) : C.e=0∧C.l=C.bytesR n++(C.bytesC n).l∧((C.bytesR n).length:Int)=n:=by
  unfold ag.bytesC at h ⊢
  unfold ag.bytesR
  split at h
  · exfalso
    unfold ag.need at h
    split at h
    · cases h
    · rename_i hh
      exact hh ⟨h,rfl⟩
  · rename_i hf
    rw[if_neg hf,if_neg hf]
    refine⟨h,(List.take_append_drop _ _).symm,?_⟩
    unfold ag.fails at hf
    simp only[Bool.or_eq_true,decide_eq_true_eq,not_or] at hf
    rw[List.length_take]
    omega
theorem iM:∀ (l:List Int),l.length%2=0→(∀ x,x∈l→0≤x∧x<256)→ns (co l)=l
  | [],_,_=>rfl
  | [_],h,_=>by simp at h
  | a :: b :: r,h,hr=>by
    have ha:=hr a (by simp)
    have hb:=hr b (by simp)
    simp only[co,ns]
    rw[iM r (by simp at h;omega) (fun x hx=>hr x (by simp[hx]))]
    congr 1
    · omega
    · congr 1
      omega
theorem sC{C:ag}{n:Int}(hr:gP C)(h:(C.wordsC n).e=0) : C.e=0∧C.l=ns (C.wordsR n)++(C.wordsC n).l∧((C.wordsR n).length:Int)=n:=by
  unfold ag.wordsC at h ⊢
  unfold ag.wordsR
  split at h
  · obtain⟨_,_,h3⟩:=kv h
    omega
  · rename_i hb
    rw[if_neg hb,if_neg hb]
    obtain⟨h1,h2,h3⟩:=kv h
    have h4:(C.bytesR (2*n)).length%2=0:=by omega
    have h5:∀ x,x∈C.bytesR (2*n)→0≤x∧x<256:=fun x hx=>hr x (by rw[h2];exact List.mem_append_left _ hx)
    unfold bO
    rw[if_pos h4]
    refine⟨h1,by rw[iM _ h4 h5];exact h2,?_⟩
    rw[eq]
    omega
def la (C:ag)(l:List Int)(C':ag) : Prop:=gP C→gP C'∧(C'.e=0→C.e=0∧C.l=l++C'.l)
theorem la.trans{A B C:ag}{l m:List Int}(h:la A l B)(k:la B m C) : la A (l++m) C:=fun hr=>by
  obtain⟨h1,h2⟩:=h hr
  obtain⟨k1,k2⟩:=k h1
  refine⟨k1,fun he=>?_⟩
  obtain⟨k3,k4⟩:=k2 he
  obtain⟨h3,h4⟩:=h2 k3
  exact⟨h3,by rw[h4,k4,List.append_assoc]⟩
theorem la.refl(C:ag) : la C [] C:=fun hr=>⟨hr,fun he=>⟨he,rfl⟩⟩
theorem la.need{A C:ag}{l:List Int}{ok:Bool}{x:Int}(h:la A l C)(hx:x≠0:=by decide) : la A l (C.need ok x):=fun hr=>by
  obtain⟨h1,h2⟩:=h hr
  refine⟨fun y hy=>h1 y (by rwa [iY] at hy),fun he=>?_⟩
  rw[iY]
  exact h2 (qf hx he).1
theorem la.bytes{A C:ag}{l:List Int}(h:la A l C)(n:Int) : la A (l++C.bytesR n) (C.bytesC n):=h.trans fun hr=>⟨fh hr n,fun he=>⟨(kv he).1,(kv he).2.1⟩⟩
theorem la.words{A C:ag}{l:List Int}(h:la A l C)(n:Int) : la A (l++ns (C.wordsR n)) (C.wordsC n):=h.trans fun hr=>⟨c3 hr n,fun he=>⟨(sC hr he).1,(sC hr he).2.1⟩⟩
theorem t7{l:List Int}(h:(l.length:Int)=1) : l=[l.getD 0 0]:=by
  match l,h with
  | [a],_=>rfl
  | [],h=>simp at h
  | _ :: _ :: _,h=>simp at h;omega
theorem la.byte{A C:ag}{l:List Int}(h:la A l C) : la A (l++[C.byteV]) (C.bytesC 1):=h.trans fun hr=>⟨fh hr 1,fun he=>by
  obtain⟨h1,h2,h3⟩:=kv he
  refine⟨h1,?_⟩
  have:=t7 h3
  show C.l=[(C.bytesR 1).getD 0 0]++_
  rw[← this]
  exact h2⟩
theorem gj{C:ag}(hr:gP C) : 0≤C.byteV∧C.byteV<256:=by
  unfold ag.byteV
  rw[List.getD_eq_getElem?_getD]
  cases h:(C.bytesR 1)[0]? with
  | none=>simp
  | some x =>
    have hm:x∈C.bytesR 1:=List.mem_of_getElem? h
    have:x∈C.l:=by
      unfold ag.bytesR at hm
      split at hm
      · cases hm
      · exact List.mem_of_mem_take hm
    exact hr x this
theorem sa:∀ n:Nat,n<256→(((if ((n:Int)/2 ^ 0%2==1) then 1 else 0)+(if ((n:Int)/2 ^ 1%2==1) then 2 else 0)+(if ((n:Int)/2 ^ 2%2==1) then 4 else 0)+(if ((n:Int)/2 ^ 3%2==1) then 8 else 0)+(if ((n:Int)/2 ^ 4%2==1) then 16 else 0)+(if ((n:Int)/2 ^ 5%2==1) then 32 else 0)+(if ((n:Int)/2 ^ 6%2==1) then 64 else 0)+(if ((n:Int)/2 ^ 7%2==1) then 128 else 0) : Nat) : Int)=n:=by decide +kernel
theorem jG{x:Int}(hx:0≤x∧x<256)(f:Nat→Bool)(hf:∀ i,i<8→f i=(x/2 ^ i%2==1)) :
    (((if f 0 then 1 else 0)+(if f 1 then 2 else 0)+(if f 2 then 4 else 0)+(if f 3 then 8 else 0)+(if f 4 then 16 else 0)+(if f 5 then 32 else 0)+(if f 6 then 64 else 0)+(if f 7 then 128 else 0) : Nat) : Int)=x:=by
  rw[hf 0 (by decide),hf 1 (by decide),hf 2 (by decide),hf 3 (by decide),hf 4 (by decide),hf 5 (by decide),hf 6 (by decide),hf 7 (by decide)]
  obtain⟨n,rfl⟩:=Int.eq_ofNat_of_zero_le hx.1
  exact sa n (by omega)
theorem mb{b:List Int}{n:Int}{l:List Bool}(hr:∀ x,x∈b→0≤x∧x<256)(h:bX b n=some l) : dh l=b:=by
  unfold bX at h
  split at h
  · rename_i hc
    split at h
    · rename_i hall
      injection h with h
      subst h
      have hlen:((List.range n.toNat).map (bM b)).length=n.toNat:=by simp
      have hm:((List.range n.toNat).map (bM b)).length=n:=by rw[hlen];omega
      unfold dh
      rw[hm,← hc.2]
      apply List.ext_getElem
      · simp
      intro j h1 h2
      simp only[List.getElem_map,List.getElem_range]
      have hj:j<b.length:=h2
      have hget:∀ i,i<8*b.length→((List.range n.toNat).map (bM b)).getD i false=bM b i:=fun i hi=>by
        rw[List.getD_eq_getElem?_getD,List.getElem?_map]
        by_cases hin:i<n.toNat
        · rw[List.getElem?_range hin];rfl
        · rw[List.getElem?_eq_none (by simpa using hin)]
          rw[List.all_eq_true] at hall
          have:=hall i (by simpa using hi)
          simp only[Bool.or_eq_true,decide_eq_true_eq,Bool.not_eq_true'] at this
          rcases this with h3|h3
          · omega
          · simp[h3]
      have hx:∀ k,k<8→bM b (8*j+k)=(b[j]/2 ^ k%2==1):=fun k hk=>by
        unfold bM
        rw[show(8*j+k)/8=j from by omega,show(8*j+k)%8=k from by omega,List.getD_eq_getElem?_getD,List.getElem?_eq_getElem hj]
        rfl
      unfold cj
      rw[show(8*j:Nat)=8*j+0 from rfl]
      simp only[hget _ (show 8*j+0<8*b.length by omega),hget _ (show 8*j+0+1<8*b.length by omega),hget _ (show 8*j+0+2<8*b.length by omega),hget _ (show 8*j+0+3<8*b.length by omega),hget _ (show 8*j+0+4<8*b.length by omega),hget _ (show 8*j+0+5<8*b.length by omega),hget _ (show 8*j+0+6<8*b.length by omega),hget _ (show 8*j+0+7<8*b.length by omega)]
      exact jG (hr _ (List.getElem_mem hj)) (fun k=>bM b (8*j+k)) hx
    · cases h
  · cases h
end Go.Proofs.YtdkhbcefkfgbdaaGreat
namespace Go.Proofs.YtdkhbcefkfgbdaaGreat
end Go.Proofs.YtdkhbcefkfgbdaaGreat
namespace Go.Proofs.YtdkhbcefkfgbdaaGreat
end Go.Proofs.YtdkhbcefkfgbdaaGreat
namespace Go.Proofs.YtdkhbcefkfgbdaaGreat
def Sh (C C':ag) : Prop:=C'.l.length≤C.l.length
theorem Sh.refl(C:ag) : Sh C C:=Nat.le_refl _
theorem Sh.bytes{A C:ag}(h:Sh A C){n:Int}:Sh A (C.bytesC n):=Nat.le_trans (gn C n) h
theorem Sh.words{A C:ag}(h:Sh A C){n:Int}:Sh A (C.wordsC n):=Nat.le_trans (dN C n) h
theorem Sh.need{A C:ag}(h:Sh A C){b:Bool}{e:Int}:Sh A (C.need b e):=by unfold Sh;rw[dE];exact h
open Go.RowKit
end Go.Proofs.YtdkhbcefkfgbdaaGreat
namespace Go.Proofs.YtdkhbcefkfgbdaaGreat
end Go.Proofs.YtdkhbcefkfgbdaaGreat
namespace Go.Proofs.YtdkhbcefkfgbdaaGreat
theorem fx{b:List Int}{k:Nat}(hk:k<b.length) : b.take k++[b.getD k 0]=b.take (k+1):=by
  rw[List.take_succ_eq_append_getElem hk,List.getD_eq_getElem?_getD,List.getElem?_eq_getElem hk]
  rfl
theorem gi{b:List Int}{i k:Nat}(h:i<k) : (b.take k).getD i 0=b.getD i 0:=by
  rw[List.getD_eq_getElem?_getD,List.getD_eq_getElem?_getD,List.getElem?_take,if_pos h]
theorem gD{d s:Int}{b:List Int}{k:Nat}(h:6≤k) : (SM.mk d (b.take k) s).size=b.getD 4 0*256+b.getD 5 0:=by
  unfold SM.size
  rw[gi (by omega),gi (by omega)]
theorem pS{d:Int}{b:List Int}{k:Nat}(hl:(b.length:Int)=6+(b.getD 4 0*256+b.getD 5 0))(h1:2≤b.getD 4 0*256+b.getD 5 0)(h2:b.getD 4 0*256+b.getD 5 0≤254)(hk:k+1<b.length) :
    (SM.mk d (b.take k) 0).byte (b.getD k 0)=(SM.mk d (b.take (k+1)) 0,[]):=by
  have e:=mR (T:=SM.mk d (b.take k) 0) (c:=b.getD k 0) (show ¬ (0:Int)<0 by omega)
  simp only[fx (show k<b.length by omega)] at e
  refine e ?_
  have hlen:(b.take (k+1)).length=k+1:=by rw[List.length_take];omega
  unfold SM.nx
  by_cases h6:k+1<6
  · rw[if_pos (by show(b.take (k+1)).length<6;omega)]
  · rw[if_neg (by show ¬ (b.take (k+1)).length<6;omega),gD (by omega),if_neg (by omega),if_neg (by omega),if_neg (by show ¬ ((b.take (k+1)).length:Int)=_;omega)]
theorem o8{d:Int}{b:List Int}(hl:(b.length:Int)=6+(b.getD 4 0*256+b.getD 5 0))(h1:2≤b.getD 4 0*256+b.getD 5 0)(h2:b.getD 4 0*256+b.getD 5 0≤254) :
    ∀ k,k<b.length→(SM.mk d (b.take k) 0,[])=(SM.mk d [] 0).feed (b.take k)
  | 0,_=>rfl
  | k+1,hk=>by
    have ih:=o8 (d:=d) hl h1 h2 k (by omega)
    exact gx (by omega) ih (pS hl h1 h2 hk)
theorem pl{d:Int}{b:List Int}{F:dx}{E:Int}(hl:(b.length:Int)=6+(b.getD 4 0*256+b.getD 5 0))(h1:2≤b.getD 4 0*256+b.getD 5 0)(h2:b.getD 4 0*256+b.getD 5 0≤254)(hP:bZ d b=(F,E)) :
    (SM.mk d [] 0).feed b=(SM.mk d [] 0,[⟨E,F⟩]):=by
  obtain⟨k,hk⟩ : ∃ k,b.length=k+1:=⟨b.length-1,by omega⟩
  have ih:=o8 (d:=d) hl h1 h2 k (by omega)
  have ht:b.take (k+1)=b:=List.take_of_length_le (by omega)
  have hx:(SM.mk d (b.take k) 0).byte (b.getD k 0)=(SM.mk d [] 0,[⟨E,F⟩]):=by
    have e:=r5 (T:=SM.mk d (b.take k) 0) (c:=b.getD k 0) (F:=F) (E:=E) (show ¬ (0:Int)<0 by omega)
    simp only[fx (show k<b.length by omega)] at e
    refine e ?_ (by rw[ht];exact hP)
    unfold SM.nx
    rw[if_neg (by show ¬ (b.take (k+1)).length<6;rw[ht];omega),gD (by omega),if_neg (by omega),if_neg (by omega),if_pos (by show((b.take (k+1)).length:Int)=_;rw[ht];omega)]
  have q:=fR (by omega) ih hx
  rw[ht] at q
  exact q.symm
theorem fC{S S2 S3:SM}{a b:List Int}{L L2:List Ev}(h:S.feed a=(S2,L))(hX:S2.feed b=(S3,L2)) : S.feed (a++b)=(S3,L++L2):=by
  have gen:∀ (b:List Int) (T:SM) (K:List Ev),b.foldl (fun(p:SM × List Ev) c=>((p.1.byte c).1,p.2++(p.1.byte c).2)) (T,K)=((T.feed b).1,K++(T.feed b).2):=by
    intro b
    induction b with
    | nil=>intro T K;simp[SM.feed]
    | cons c t ih =>
      intro T K
      unfold SM.feed
      rw[List.foldl_cons,List.foldl_cons,ih,ih]
      simp
  unfold SM.feed at h ⊢
  rw[List.foldl_append,h,gen,hX]
theorem q5{S:SM}{c:Int}:S.feed [c]=S.byte c:=by
  unfold SM.feed
  simp
open Go.RowKit
section
variable {n n2 p:Nat}{w w':World}{A A2 B:Option Addr}{X:List Nat}{x:Ev}{cs:List Value}
def j8 (A:Option Addr)(n:Nat)(X:List Nat)(w:World) : Prop:=∀ y,y∈X→n≤y∨y∈ob A∨∃ cells t fr,w.heap[y]? = some (.cells cells t fr)∧t∉dZ
def gq (A:Option Addr)(n:Nat)(w:World)(x:Ev)(cs:List Value) : Prop:=n≤w.heap.size∧∀ (w':World)(X:List Nat),aC X w w'→j8 A n X w→f9 true w' x cs
theorem gq.ev(h:gq A n w x cs) : f9 true w x cs:=h.2 w [] (aC.refl _ _) (fun y hy=>by cases hy)
theorem gq.upd(hu:aC X w w')(ha:j8 A n X w)(h:gq A n w x cs) : gq A n w' x cs:=by
  refine⟨Nat.le_trans h.1 hu.size,fun w2 X2 hu2 ha2=>h.2 w2 (X++X2) ?_ ?_⟩
  · exact aC.trans' (aC.mono hu (fun y hy=>.inl (List.mem_append_left _ hy))) hu2 (fun y hy=>.inl (List.mem_append_right _ hy))
  · intro y hy
    rcases List.mem_append.1 hy with hy|hy
    · exact ha y hy
    · rcases ha2 y hy with k | k | ⟨cells,t,fr,k1,k2⟩
      · exact .inl k
      · exact .inr (.inl k)
      · by_cases hl:y<w.heap.size
        · by_cases hX:y∈X
          · exact ha y hX
          · exact .inr (.inr ⟨cells,t,fr,by rw[← hu.block y hl hX];exact k1,k2⟩)
        · exact .inl (Nat.le_trans h.1 (by omega))
theorem gq.row(hA:∀ y,y∈ob A2→y∈ob A∨n≤y)(hn:n≤n2)(hs:n2≤w.heap.size)(h:gq A n w x cs) : gq A2 n2 w x cs:=⟨hs,fun w' X hu ha=>h.2 w' X hu fun y hy=>by
  rcases ha y hy with k|k|k
  · exact .inl (Nat.le_trans hn k)
  · exact(hA y k).elim (fun q=>.inr (.inl q)) .inl
  · exact .inr (.inr k)⟩
theorem gq.of(hA:∀ y,y∈ob A→y<p∧∃ cells t fr,w.heap[y]? = some (.cells cells t fr))(h:bV p n w x cs) : gq A n w x cs:=⟨h.1,fun w' X hu ha=>(h.2 w' X hu fun y hy=>by
  rcases ha y hy with k|k|⟨c,t,fr,k,q⟩
  · exact .inl k
  · obtain⟨h1,c,t,fr,h2⟩:=hA y k
    exact .inr ⟨c,t,fr,h2,.inr h1⟩
  · exact .inr ⟨c,t,fr,k,.inl q⟩).tt⟩
theorem gq.ones:∀ (x:Ev)(cs:List Value),gq A n w x cs→∀ v,v∈cs→v.oneCell'=true:=fun x cs h=>f9.ones x cs h.ev
abbrev mp (A:Option Addr) (n base:Nat) (w:World) (v:Value) (xs:List Ev) : Prop:=aT base 87 25 (gq A n) w v xs
theorem mp.own{base:Nat}{v:Value}{xs:List Ev}(h:mp A n base w v xs) : qV base w v xs:=aT.map h fun _ _ q=>q.ev
theorem ec:j8 A n [] w:=fun y hy=>by cases hy
theorem rf(k:j8 A n X w) : j8 A n (ob A++X) w:=fun y hy=>(List.mem_append.1 hy).elim (fun q=>.inr (.inl q)) (k y)
theorem qk(h:∀ y,y∈ob B→n≤y)(k:j8 A n X w) : j8 A n (ob B++X) w:=fun y hy=>(List.mem_append.1 hy).elim (fun q=>.inl (h y q)) (k y)
theorem pZ{g:Nat}{t:TypeId}(hb:∃ cs fr,w.heap[g]? = some (.cells cs t fr))(ht:dZ.contains t=false)(k:j8 A n X w) : j8 A n (g :: X) w:=by
  obtain⟨cs,fr,hb⟩:=hb
  intro y hy
  rcases List.mem_cons.1 hy with rfl|hy
  · exact .inr (.inr ⟨cs,t,fr,hb,by simpa using ht⟩)
  · exact k y hy
theorem qa{α:Type}{base sz m c:Nat}{e:TypeId}{R:World→α→List Value→Prop}{xs:List α}(h:aT base e sz R w (.slice B m c) xs)(ht:dZ.contains e=false)(k:j8 A n X w) : j8 A n (ob B++X) w:=fun y hy=>by
  rcases List.mem_append.1 hy with hy|hy
  · rcases cU h with rfl | ⟨g,cells,rfl,_,h1⟩
    · simp[ob] at hy
    · simp[ob] at hy
      subst hy
      exact .inr (.inr ⟨_,_,_,h1,by simpa using ht⟩)
  · exact k y hy
theorem nT{α:Type}{base sz m c m' c':Nat}{e:TypeId}{R:World→α→List Value→Prop}{xs xs':List α}(h:aT base e sz R w (.slice A m c) xs)(h':aT base e sz R w' (.slice A m' c') xs') : ∀ y,y∈ob A→y<w.heap.size∧∃ cells t fr,w'.heap[y]? = some (.cells cells t fr):=fun y hy=>by
  refine⟨qu h y hy,?_⟩
  rcases cU h' with rfl|⟨g,cells,rfl,_,h1⟩
  · simp[ob] at hy
  · simp[ob] at hy
    subst hy
    exact⟨_,_,_,h1⟩
theorem qz{m:Nat}(hat:∀ y,y∈ob A2→y∈ob A∨m≤y)(hn:n≤m) : ∀ y,y∈ob A2→y∈ob A∨n≤y:=fun y hy=>(hat y hy).imp_right (Nat.le_trans hn)
end
end Go.Proofs.YtdkhbcefkfgbdaaGreat
namespace Go.Proofs.YtdkhbcefkfgbdaaGreat
def N4 (C:ag) : Prop:=C.e≠4
theorem N4.need{C:ag}{b:Bool}{x:Int}(hx:x≠4)(h:N4 C) : N4 (C.need b x):=by
  unfold N4 ag.need at *
  split
  · exact hx
  · exact h
theorem N4.bytesC{C:ag}{n:Int}(h:N4 C) : N4 (C.bytesC n):=by
  unfold ag.bytesC
  split
  · exact N4.need (by decide) h
  · exact h
theorem N4.wordsC{C:ag}{n:Int}(h:N4 C) : N4 (C.wordsC n):=by
  unfold ag.wordsC
  split<;>exact N4.bytesC h
theorem N4.recs{one:Int→ag→Int × ag × cX}(ho:∀ s C,N4 C→N4 (one s C).2.1) : ∀ (n:Nat)(s:Int)(C:ag)(L:List cX),N4 C→N4 (aM one n s C L).1
  | 0,_,_,_,h=>h
  | n+1,s,C,L,h=>by
    unfold aM
    split
    · split
      · exact ho s C h
      · exact N4.recs ho n _ _ _ (ho s C h)
    · exact h
theorem nA{x:Int}(h:x≠4) : bg x≠4:=by
  unfold bg
  split
  · decide
  · exact h
theorem qi{dir c:Int}{C:ag}{r:ag × b6}(hC:N4 C)(h:aN dir c C=some r) : N4 r.1:=by
  unfold aN at h
  repeat' split at h
  all_goals first | cases h | skip
  all_goals simp only[dl,de,cI,fo,bU,i7,ey,du,o1,gg]
  all_goals repeat' first | with_reducible exact hC | with_reducible apply N4.bytesC | with_reducible apply N4.wordsC | (with_reducible refine N4.need (by decide) ?_)
theorem rK{dir c:Int}{C:ag}{r:ag × b6}(hC:N4 C)(h:aY dir c C=some r) : N4 r.1:=by
  unfold aY at h
  repeat' split at h
  all_goals first | cases h | skip
  all_goals simp only[bL,c5,d9,cF,ck,cE,cG,jC,kH,l0,bB,nN,cv,ki,pD,uN,tL]
  all_goals repeat' first | with_reducible exact hC | with_reducible apply N4.bytesC | with_reducible apply N4.wordsC | (with_reducible refine N4.need (by decide) ?_)
theorem rH{dir c:Int}{C:ag}{r:ag × b6}(hC:N4 C)(h:bh dir c C=some r) : N4 r.1:=by
  unfold bh eA cC at h
  repeat' split at h
  all_goals first | cases h | skip
  all_goals simp only[ek,ii,fz,gc,dj]
  all_goals repeat' first | with_reducible exact hC | with_reducible apply N4.bytesC | with_reducible apply N4.wordsC | (with_reducible refine N4.need (by decide) ?_)
theorem s3(s:Int)(C:ag)(h:N4 C) : N4 (cw s C).2.1:=by
  simp only[cw,dL,d7,ir,iu,lW]
  repeat' first | with_reducible exact h | with_reducible apply N4.bytesC | with_reducible apply N4.wordsC | (with_reducible refine N4.need (by decide) ?_)
theorem rj(s:Int)(C:ag)(h:N4 C) : N4 (bH s C).2.1:=by
  simp only[bH,eb,g9,g7]
  repeat' first | with_reducible exact h | with_reducible apply N4.bytesC | with_reducible apply N4.wordsC | (with_reducible refine N4.need (by decide) ?_)
theorem s0(s:Int)(C:ag)(h:N4 C) : N4 (cy s C).2.1:=by
  simp only[cy,gN,lw,d7,ir,iu,lW]
  repeat' first | with_reducible exact h | with_reducible apply N4.bytesC | with_reducible apply N4.wordsC | (with_reducible refine N4.need (by decide) ?_)
theorem i4{one:Int→ag→Int × ag × cX}(ho:∀ s C,N4 C→N4 (one s C).2.1)(may:Int→Bool)(c:Int){C:ag}(hC:N4 C) : N4 (dD one may c C).1:=by
  unfold dD kD
  refine N4.need (nA (N4.recs ho _ _ _ _ ?_)) (N4.bytesC (N4.need (by decide) (N4.bytesC hC)))
  show(0:Int)≠4
  decide
theorem q8{dir c:Int}{C:ag}{r:ag × b6}(hC:N4 C)(h:b9 dir c C=some r) : N4 r.1:=by
  unfold b9 at h
  repeat' split at h
  all_goals first | cases h | skip
  · exact i4 s3 _ _ hC
  · exact i4 rj _ _ hC
  · exact i4 s0 _ _ hC
theorem N4.endC{C:ag}(h:N4 C) : N4 C.endC:=by
  unfold ag.endC
  exact N4.need (by decide) h
theorem qq{form:Int→Int→ag→Option (ag × b6)}(hg:∀ {dir c:Int}{C:ag}{r:ag × b6},N4 C→form dir c C=some r→N4 r.1){dir c:Int}{b:List Int}(hd:dir=0∨dir=1){r:ag × b6}(hf:form dir c ⟨b,false,0⟩=some r) :
    (aj form dir c b).2≠4:=by
  unfold aj
  rw[if_pos hd,hf]
  have h0:N4 ⟨b,false,0⟩:=by show(0:Int)≠4;decide
  have g1:=hg h0 hf
  show(bj r.2 r.1).2≠4
  unfold bj
  split
  · exact(show ¬ (0:Int)=4 from by decide)
  · exact N4.endC g1
theorem lK{form:Int→Int→ag→Option (ag × b6)}{dir c:Int}{b:List Int}(hd:dir=0∨dir=1)(hf:form dir c ⟨b,false,0⟩=none) : aj form dir c b=(b6.zero,4):=by
  unfold aj
  rw[if_pos hd,hf]
def eg (dir:Int)(b:List Int) : b6 × Int :=
  if (aj aN dir (b.getD 0 0) (b.drop 1)).2==4 then
    if (aj aY dir (b.getD 0 0) (b.drop 1)).2==4 then
      if (aj bh dir (b.getD 0 0) (b.drop 1)).2==4 then
        if (aj b9 dir (b.getD 0 0) (b.drop 1)).2==4 then aj bY dir (b.getD 0 0) (b.drop 1)
        else aj b9 dir (b.getD 0 0) (b.drop 1)
      else aj bh dir (b.getD 0 0) (b.drop 1)
    else aj aY dir (b.getD 0 0) (b.drop 1)
  else aj aN dir (b.getD 0 0) (b.drop 1)
theorem ph{dir:Int}{b:List Int}(hd:dir=0∨dir=1) : eg dir b=it (ju (b.getD 0 0)) dir b:=by
  have no:∀ (form:Int→Int→ag→Option (ag × b6)),form dir (b.getD 0 0) ⟨b.drop 1,false,0⟩=none→((aj form dir (b.getD 0 0) (b.drop 1)).2==4)=true:=fun f h=>by rw[lK hd h];rfl
  have ye:∀ (form:Int→Int→ag→Option (ag × b6)),(∀ {dir c:Int} {C:ag} {r:ag × b6},N4 C→form dir c C=some r→N4 r.1)→(form dir (b.getD 0 0) ⟨b.drop 1,false,0⟩).isSome=true→¬ ((aj form dir (b.getD 0 0) (b.drop 1)).2==4)=true:=fun form hg h=>by
    obtain⟨r,hr⟩:=Option.isSome_iff_exists.1 h
    have k:=qq (form:=form) (c:=b.getD 0 0) (fun hC h=>hg hC h) hd hr
    rw[beq_iff_eq]
    exact k
  unfold eg
  rcases gX (b.getD 0 0) with⟨hk,hf⟩|⟨hk,hf⟩|⟨hk,hf⟩|⟨hk,hf⟩|⟨hk,hf⟩|⟨hk,hf⟩<;>rw[hf]
  · rw[if_neg (ye aN (fun hC h=>qi hC h) (by rcases hd with rfl | rfl<;>rcases hk with h | h | h | h<;>rw[h]<;>rfl))]
    rfl
  · rw[if_pos (no aN (by rcases hk with h | h | h | h | h | h | h<;>rw[h]<;>rfl)),if_neg (ye aY (fun hC h=>rK hC h) (by rcases hd with rfl | rfl<;>rcases hk with h | h | h | h | h | h | h<;>rw[h]<;>rfl))]
    rfl
  · rw[if_pos (no aN (by rcases hk with h | h | h | h | h<;>rw[h]<;>rfl)),if_pos (no aY (by rcases hk with h | h | h | h | h<;>rw[h]<;>rfl)),if_neg (ye bh (fun hC h=>rH hC h) (by rcases hd with rfl | rfl<;>rcases hk with h | h | h | h | h<;>rw[h]<;>rfl))]
    rfl
  · rw[if_pos (no aN (by rcases hk with h | h<;>rw[h]<;>rfl)),if_pos (no aY (by rcases hk with h | h<;>rw[h]<;>rfl)),if_pos (no bh (by rcases hk with h | h<;>rw[h]<;>rfl)),if_neg (ye b9 (fun hC h=>q8 hC h) (by rcases hd with rfl | rfl<;>rcases hk with h | h<;>rw[h]<;>rfl))]
    rfl
  · rw[if_pos (no aN (by rw[hk]<;>rfl)),if_pos (no aY (by rw[hk]<;>rfl)),if_pos (no bh (by rw[hk]<;>rfl)),if_pos (no b9 (by rw[hk]<;>rfl))]
    rfl
  · have no0:∀ (form:Int→Int→ag→Option (ag × b6)),(∀ C,form dir (b.getD 0 0) C=none)→((aj form dir (b.getD 0 0) (b.drop 1)).2==4)=true:=fun f h=>no f (h _)
    have ne:∀ k:Int,¬ b.getD 0 0=k→(b.getD 0 0==k)=false:=fun k h=>by simpa using h
    obtain⟨z1,z2,z5,a,z3,z4,z6,d,e,g,i,z7,z8,j,l,m,n,o,p⟩:=hk
    rw[if_pos (no0 aN fun C=>by unfold aN;simp only[ne _ z1,ne _ z2,ne _ z5,ne _ a,Bool.or_false,Bool.false_eq_true,if_false]),if_pos (no0 aY fun C=>by unfold aY;simp only[ne _ z3,ne _ z4,ne _ z6,ne _ d,ne _ e,ne _ g,ne _ i,Bool.or_false,Bool.false_eq_true,if_false]),if_pos (no0 bh fun C=>by unfold bh;simp only[ne _ z7,ne _ z8,ne _ j,ne _ l,ne _ m,Bool.or_false,Bool.false_eq_true,if_false]),if_pos (no0 b9 fun C=>by unfold b9;simp only[ne _ n,ne _ o,Bool.or_false,Bool.false_eq_true,if_false])]
    exact lK hd (by unfold bY;rw[if_pos (show(b.getD 0 0 != 43)=true from by rw[bne_iff_ne];exact p)])
def eU (dir:Int)(b:List Int) : b6 × Int :=
  if dir != 0&&dir != 1 then (b6.zero,1)
  else if (b.length:Int)==0 then (b6.zero,2)
  else if decide (253<(b.length:Int)) then (b6.zero,3)
  else if decide (128≤b.getD 0 0)&&dir==1 then fw b
  else eg dir b
theorem el(dir:Int)(b:List Int) : eU dir b=ep dir b:=by
  unfold eU ep
  split
  · rfl
  · rename_i hh
    have hd:dir=0∨dir=1:=by simp only[Bool.and_eq_true,bne_iff_ne,ne_eq] at hh;omega
    rw[ph hd]
open Go.RowKit
theorem oU{xs:List Int}{k a b:Nat}(h:2*k+1<xs.length)(ha:a=2*k)(hb:b=2*k+1)(hr:∀ x,x∈xs→0≤x∧x<256) : co (xs.drop (2*k))=[(((256*xs.getD a 0)%65536)+xs.getD b 0)%65536]++co (xs.drop (2*(k+1))):=by
  subst ha hb
  rw[List.drop_eq_getElem_cons (show 2*k<xs.length by omega),List.drop_eq_getElem_cons h]
  have h1:=hr _ (List.getElem_mem (show 2*k<xs.length by omega))
  have h2:=hr _ (List.getElem_mem h)
  have e1:xs.getD (2*k) 0=xs[2*k]:=by rw[List.getD_eq_getElem?_getD,List.getElem?_eq_getElem (by omega)];rfl
  have e2:xs.getD (2*k+1) 0=xs[2*k+1]:=by rw[List.getD_eq_getElem?_getD,List.getElem?_eq_getElem h];rfl
  rw[e1,e2]
  show(xs[2*k]*256+xs[2*k+1]) :: co (xs.drop (2*k+1+1))=_
  rw[show 2*k+1+1=2*(k+1) by omega,show((256*xs[2*k])%65536+xs[2*k+1])%65536=xs[2*k]*256+xs[2*k+1] by omega]
  rfl
theorem oI{xs L:List Int}{k:Nat}(h:L++co (xs.drop (2*k))=co xs)(h1:¬ 2*k+1<xs.length)(h2:xs.length%2=0) : L=bO xs:=by
  have hd:xs.drop (2*k)=[]:=List.drop_eq_nil_of_le (by omega)
  rw[hd] at h
  unfold bO
  rw[if_pos h2,← h]
  simp[co]
theorem tp{m:Md}{A:Option Addr}{cp:Nat}{xs:List Int}{w:World}(h:aV m w (.slice A xs.length cp) xs)(hn:xs.length≤1048576) : Calls Tryz.prog 224 #[.slice A xs.length cp] w (ra xs w):=by
 have hr:=aV.range h
 refine en 33 Tryz.func224 rfl<|al 1<|cJ 1<|sq<|al 2<|L0<|Oe (vI (Int.tmod (xs.length:Int) 2)) (vI ((xs.length:Int)%2)) (congrArg (Value.int .i64) (Int.tmod_eq_emod_of_nonneg (by omega)))<|am 1<|cb ((((xs.length:Int)%2)==1)) (fun f=>?_) (fun f=>?_)
 have v:=ap f
 refine az 1<|bq<|rr nS<|?_
 have hs:bO xs=[]:=by unfold bO;rw[if_neg (by have:=ap f;omega)]
 exact⟨_,rfl,by rw[hs];exact aT.nil ..,(aC.refl [] _)⟩
 have v:=au f
 refine bu<|sq<|az 1<|bk<|iq (fun x=>[(0,.slice A xs.length cp),(2,nS),(3,.slice x.2.2.1 x.2.1.length x.2.2.2),(4,vI ((2*x.1:Nat) : Int))]) (fun(x:Nat × List Int × Option Addr × Nat) w'=>aC [] w w'∧io w.heap.size w' (.slice x.2.2.1 x.2.1.length x.2.2.2) x.2.1∧(2*x.1≤xs.length)∧(x.2.1++co (xs.drop (2*x.1))=co xs)∧(x.2.1.length=x.1)) (fun x=>xs.length-2*x.1) (0,[],none,0) ⟨aC.refl _ _,(aT.nil w.heap.size _ _ pP _),(by(try dsimp only);omega),rfl,rfl⟩ ?_
 rintro⟨k,L,B,cq⟩ y ⟨g,z,C,D,E⟩
 refine fs [(0,.slice A xs.length cp),(2,nS),(3,.slice B L.length cq),(4,vI ((2*k:Nat) : Int))] ?_
 have i:io w.heap.size y (.slice B L.length cq) L:=z
 have T:2*k≤xs.length:=C
 have U:L++co (xs.drop (2*k))=co xs:=D
 have V:L.length=k:=E
 have hL:L++co (xs.drop (2*k))=co xs:=by assumption
 refine sq<|al 1<|bt (((2*k:Nat) : Int)+1)<|am 3<|cb ((decide ((((2*k:Nat) : Int)+1)<(xs.length:Int)))) (fun j=>?_) (fun j=>?_)
 have F:=of_decide_eq_true j
 refine bu<|sq<|bk<|?_
 have o:=aV.old h g
 refine eH (aV.at_ o (2*k) (by omega)) fun G H p q W=>eH (aV.at_ o (((((2*k:Nat) : Int)+1)).toNat) (by omega)) fun I J r s X=>Rg 17 (fun w'=>w'.cell? ⟨G,H+2*k,none⟩=some (vB (xs.getD (2*k) 0))∧w'.cell? ⟨I,J+((((2*k:Nat) : Int)+1)).toNat,none⟩=some (vB (xs.getD (((((2*k:Nat) : Int)+1)).toNat) 0))) fun Y d=>bz ⟨(uc d q),(uc d s)⟩ fun c=>Rt 0 c<|Rt 1 c<|Rt 2 c<|jm 3 c xs.length (2*k) ((2*k:Nat) : Int) rfl p (by omega)<|Rl 4 c (fun _ hs=>hs.1)<|Rr 5 c (vW (xs.getD (2*k) 0)) (fun _ _=>bv (vW (IntKind.u16.wrap (xs.getD (2*k) 0))) (by kernel_rfl) (congrArg (Value.int .u16) (i8 (by omega))))<|Rt 6 c<|Rt 7 c<|Rt 8 c<|Rr 9 c (vI (((2*k:Nat) : Int)+1)) (fun _ _=>bv (vI (IntKind.i64.wrap (((2*k:Nat) : Int)+1))) (by kernel_rfl) (congrArg (Value.int .i64) (IntWalk.i64_in _ (by omega))))<|jm 10 c xs.length (((((2*k:Nat) : Int)+1)).toNat) (((2*k:Nat) : Int)+1) (by omega) r (by omega)<|Rl 11 c (fun _ hs=>hs.2)<|Rr 12 c (vW (xs.getD (((((2*k:Nat) : Int)+1)).toNat) 0)) (fun _ _=>bv (vW (IntKind.u16.wrap (xs.getD (((((2*k:Nat) : Int)+1)).toNat) 0))) (by kernel_rfl) (congrArg (Value.int .u16) (i8 (by omega))))<|Rt 13 c<|R0 14 rfl<|gv (m:=1) (e:=37) #[vW ((((256*(xs.getD (2*k) 0))%65536)+(xs.getD (((((2*k:Nat) : Int)+1)).toNat) 0))%65536)] fun Z a0 K M l=>?_
 have N:=rJ K (xs:=[((((256*(xs.getD (2*k) 0))%65536)+(xs.getD (((((2*k:Nat) : Int)+1)).toNat) 0))%65536)]) (by as_aux_lemma=>kernel_rfl) (aO (by omega) dB) (by(try simp only[List.length_cons,List.length_nil]);omega) M
 have n:=aQ d l
 refine bz ⟨(uc n q),(uc n s)⟩ fun a1=>?_
 refine R0 15 rfl<|sX nK (xs:=L) (ys:=([((((256*(xs.getD (2*k) 0))%65536)+(xs.getD (((((2*k:Nat) : Int)+1)).toNat) 0))%65536)])) (vW 0) 2 (av i n (fun x hx=>ax) (fun _ _ h=>h)) (N).rd (by(try simp only[ef,be]);omega) (le (le g.size d.size) l.size) fun O P a2 Q R=>?_
 have t:=ut (aQ (aQ g d) l) R (aH (c7 i lr) aA)
 have u:=aV.old h t
 exact bz ⟨(cB u p (2*k) (by omega)),(cB u r (((((2*k:Nat) : Int)+1)).toNat) (by omega))⟩ fun S=>Rt 16 S<|re<|bn<|tn<|go<|Pl 1<|bt (((2*k:Nat) : Int)+2)<|Pl 1<|nl<|fv ((k+1),(L++[((((256*(xs.getD (2*k) 0))%65536)+(xs.getD (((((2*k:Nat) : Int)+1)).toNat) 0))%65536)]),O,P) ⟨t,Q,(by(try dsimp only);omega),(by(try dsimp only);rw[← hL,oU (k:=k) (a:=2*k) (b:=(((2*k:Nat) : Int)+1).toNat) (by omega) rfl (by omega) hr,List.append_assoc]),(by(try dsimp only);simp only[ef];omega)⟩ (by omega)
 have F:=of_decide_eq_false j
 refine xt<|tx<|tx<|bx<|tn<|az 2<|rt<|rr (.slice B L.length cq)<|?_
 have hs:L=bO xs:=oI hL (by omega) (by omega)
 exact⟨_,rfl,by rw[← hs];exact i,g⟩
theorem sw{m:Md}{v:Value}{xs:List Int}{w:World}(h:aV m w v xs)(hn:xs.length≤1048576) : Calls Tryz.prog 224 #[v] w (ra xs w):=by
  obtain⟨A,cp,rfl,_,_⟩:=h.shape
  exact tp h hn
theorem nX{a n:Int}{w:World}(ha:0≤a∧a<65536)(hn : -1048576≤n∧n≤1048576) : Calls Tryz.prog 222 #[vW a,vI n] w (cg (.bool (cK a n)) w):=by
 refine en 16 Tryz.func222 rfl<|az 1<|sq<|al 3<|dX 3 [7] 10 7 (decide (n<1)) (decide (65536<n)) (fun K c d=>?_) ?_
 have g:=of_decide_eq_false d
 exact Pl 3<|ce c _ rfl
 refine nt<|cb (((decide (n<1))||(decide (65536<n)))) (fun b=>?_) (fun b=>?_)
 refine az 1<|bq<|rr (.bool false)<|?_
 have hq:=b
 have hs:cK a n=false:=by unfold cK;simp only[Bool.or_eq_true,decide_eq_true_eq] at hq;simp only[Bool.and_eq_false_iff,decide_eq_false_iff_not];omega
 rw[hs]
 exact⟨rfl,(aC.refl [] _)⟩
 have e:=(cl b).1
 have f:=(cl b).2
 have h:=of_decide_eq_false e
 have i:=of_decide_eq_false f
 refine bu<|al 1<|bt a<|Pl 1<|bt (a+n)<|am 2<|rt<|rr (.bool (decide ((a+n)≤65536)))<|?_
 have hs:cK a n=(decide ((a+n)≤65536)):=by unfold cK;rw[Bool.eq_iff_iff];simp only[Bool.and_eq_true,decide_eq_true_eq];omega
 rw[hs]
 exact⟨rfl,(aC.refl [] _)⟩
open Go.RowKit
def vN (A:Option Addr)(cp:Nat)(full:List Int)(k:Nat)(C:ag) : Array Value:=#[.slice A full.length cp,.int .i64 ((k:Nat) : Int),.bool C.sh,.int .i64 C.e]
structure RC (w0:World) (m:Md) (A:Option Addr) (cp:Nat) (full:List Int) (w:World) (g:Nat) (C:ag) : Prop where
  src:aV m w0 (.slice A full.length cp) full
  u:aC [] w0 w
  new:w0.heap.size≤g
  cell:∃ k:Nat,w.heap[g]? = some (.cells (vN A cp full k C) 194 (0,0))∧k≤full.length∧C.l=full.drop k
  len:full.length≤1048576
theorem RC.upd{w0:World}{m:Md}{A:Option Addr}{cp:Nat}{full:List Int}{w w':World}{g:Nat}{C:ag}{S:List Nat}(h:RC w0 m A cp full w g C)(hu:aC S w w')(hg:g∉S)(U:aC [] w0 w') : RC w0 m A cp full w' g C:=by
  obtain⟨h1,h2,h3,⟨k,h4,h5,h6⟩,h7⟩:=h
  exact⟨h1,U,h3,⟨k,hu.blk hg h4,h5,h6⟩,h7⟩
theorem RC.rd{w0:World}{m:Md}{A:Option Addr}{cp:Nat}{full:List Int}{w:World}{g:Nat}{C:ag}(h:RC w0 m A cp full w g C) : aV m w (.slice A full.length cp) full:=aV.old h.src h.u
theorem RC.rng{w0:World}{m:Md}{A:Option Addr}{cp:Nat}{full:List Int}{w:World}{g:Nat}{C:ag}(h:RC w0 m A cp full w g C) : ∀ x,x∈C.l→0≤x∧x<256:=fun x hx=>by
  obtain⟨k,_,_,h2⟩:=h.cell
  rw[h2] at hx
  exact aV.range h.src x (List.mem_of_mem_drop hx)
theorem rF(C:ag){ok:Bool}{x:Int}(h:(ok || (C.e != 0))=true) : C.need ok x=C:=by
  unfold ag.need
  rw[if_neg]
  rintro⟨h1,rfl⟩
  rw[h1] at h
  cases h
theorem rZ(C:ag){ok:Bool}{x:Int}(h:(ok || (C.e != 0))=false) : C.need ok x = { C with e:=x }:=by
  simp only[Bool.or_eq_false_iff,bne_eq_false_iff_eq] at h
  unfold ag.need
  rw[if_pos ⟨h.2,h.1⟩]
def sH (w0:World)(m:Md)(A:Option Addr)(cp:Nat)(full:List Int)(g:Nat)(C:ag)(w:World)(e:Ending)(w':World) : Prop:=e = .returned (.tuple #[])∧RC w0 m A cp full w' g C∧aC [g] w w'
theorem aP{w0:World}{m:Md}{A:Option Addr}{cp:Nat}{full:List Int}{w:World}{g:Nat}{C:ag}(ok:Bool)(x:Int)(hC:RC w0 m A cp full w g C) :
    Calls Tryz.prog 168 #[vP g 0,.bool ok,vI x] w (sH w0 m A cp full g (C.need ok x) w):=by
 obtain⟨hsrc,hU,hnew,⟨k,hB,hk,hl⟩,hlen⟩:=hC
 refine en 18 Tryz.func168 rfl<|sq<|al 2<|dX 6 [7] 13 7 ok (C.e != 0) (fun K c h=>?_) ?_
 exact Pl 3<|L1<|cY hB 3<|Pl 2<|ce c _ rfl
 refine nt<|cb ((ok || (C.e != 0))) (fun a=>?_) (fun a=>?_)
 refine bq<|rr (.tuple #[])<|?_
 rw[rF C a]
 exact⟨rfl,⟨hsrc,hU.trans' (aC.mono (S':=[g]) (aC.refl [] _) aA) (fun x hx=>.inr (by simp at hx;subst hx;exact hnew)),hnew,⟨k,hB,hk,hl⟩,hlen⟩,(aC.mono (S':=[g]) (aC.refl [] _) aA)⟩
 have i:=(cl a).1
 have d:=(cl a).2
 have j:=aI d
 refine bu<|go<|Pl 4<|L0<|bE hB 3 #[.slice A full.length cp,vI (k:Int),.bool C.sh,vI x] fun l f b=>nl<|rm (.tuple #[])<|?_
 rw[rZ C a]
 exact⟨rfl,⟨hsrc,hU.trans' b (fun x hx=>.inr (by simp at hx;subst hx;exact hnew)),hnew,⟨k,f,hk,hl⟩,hlen⟩,b⟩
theorem gw{C:ag}{full:List Int}{k:Nat}{n:Int}(hk:k≤full.length)(hl:C.l=full.drop k) : C.fails n=((C.sh || decide (n<0))||decide ((((full.length:Nat) : Int)-((k:Nat) : Int))<n)):=by
  unfold ag.fails
  rw[hl,List.length_drop,show((full.length-k:Nat) : Int)=((full.length:Nat) : Int)-((k:Nat) : Int) by omega]
def rN (w0:World)(m:Md)(A:Option Addr)(cp:Nat)(full:List Int)(g:Nat)(C:ag)(n:Int)(w:World)(e:Ending)(w':World) : Prop:=∃ A2 n2 c2,e = .returned (.slice A2 n2 c2)∧(∀ m' w'',aV m' w'' (.slice A full.length cp) full→aV m' w'' (.slice A2 n2 c2) (C.bytesR n))∧RC w0 m A cp full w' g (C.bytesC n)∧aC [g] w w'
theorem s7{l full:List Int}{k a b:Nat}(hl:l=full.drop k)(h:b=k+a) : l.drop a=full.drop b:=by
  rw[hl,List.drop_drop,h]
theorem mU{C:ag}{full:List Int}{k:Nat}{n:Int}(hk:k≤full.length)(hl:C.l=full.drop k)(hf:C.fails n=false)(a b:Nat)(ha:(a:Int)=k)(hb:(b:Int)=(k:Int)+n) : (full.take b).drop a=C.bytesR n:=by
  obtain rfl:a=k:=by omega
  unfold ag.bytesR
  rw[hf,hl,List.drop_take]
  show _=(full.drop a).take n.toNat
  rw[show b-a=n.toNat by omega]
theorem nG{w0:World}{m:Md}{A:Option Addr}{cp:Nat}{full:List Int}{w:World}{g:Nat}{C:ag}{n:Int}(hn : -1048576≤n∧n≤2097152)(hC:RC w0 m A cp full w g C) :
    Calls Tryz.prog 169 #[vP g 0,vI n] w (rN w0 m A cp full g C n w):=by
 obtain⟨hsrc,hU,hnew,⟨k,hB,hk,hl⟩,hlen⟩:=hC
 have hcp:full.length≤cp:=by obtain⟨_,_,hv,h1,_⟩:=aG.shape hsrc;injection hv with _ _ h3;omega
 refine en 64 Tryz.func169 rfl<|az 1<|sq<|sq<|Rg 22 (fun w'=>w'.cell? ⟨g,2,none⟩=some (.bool C.sh)∧w'.cell? ⟨g,0,none⟩=some (.slice A full.length cp)∧w'.cell? ⟨g,1,none⟩=some (vI (k:Int))) fun a4 i=>?_
 have d:=ub i hB
 refine bz ⟨(ak d rfl),(ak d rfl),(ak d rfl)⟩ fun a=>Rt 0 a<|Rt 1 a<|Rt 2 a<|Rl 3 a (fun _ hs=>hs.1)<|Rt 4 a<|tT 9 (C.sh) (fun j=>?_) (fun j=>?_)
 refine Ro 5 a<|Ro 6 a<|Rt 7 a<|Rt 8 a<|Ro 9 a<|Ro 10 a<|Ro 11 a<|Ro 12 a<|Ro 13 a<|Ro 14 a<|Ro 15 a<|Ro 16 a<|Ro 17 a<|Ro 18 a<|Ro 19 a<|Ro 20 a<|Rt 21 a<|re<|tn<|c1<|al 3<|L0<|bE d 2 #[.slice A full.length cp,vI (k:Int),.bool true,vI C.e] fun a5 q D=>aK 4<|aF q 0<|Pl 3<|L0<|bE q 1 #[.slice A full.length cp,vI (full.length:Int),.bool true,vI C.e] fun E F G=>aK 1<|?_
 have r:=u1 (u1 (aC.mono (S':=[g]) i aA) D im) G im
 have H:RC w0 m A cp full E g { C with l:=[],sh:=true }:=⟨hsrc,hU.trans' r (fun x hx=>.inr (by simp at hx;subst hx;exact hnew)),hnew,⟨full.length,F,Nat.le_refl _,List.drop_length.symm⟩,hlen⟩
 refine aq<|m2 (aP false 2 H) fun a6 I J=>cJ 1<|bq<|rr nS<|?_
 have hf:C.fails n=true:=by rw[gw (n:=n) hk hl,j];rfl
 have e1:C.bytesR n=[]:=by unfold ag.bytesR;rw[hf];rfl
 have e2:C.bytesC n=ag.need { C with l:=[],sh:=true } false 2:=by unfold ag.bytesC;rw[hf];rfl
 exact⟨none,0,0,rfl,fun _ _ _=>by rw[e1];exact aG.nil ..,by rw[e2];exact I,(u1 r J im)⟩
 refine Rt 5 a<|Rt 6 a<|Rt 7 a<|Rt 8 a<|tT 13 ((decide (n<0))) (fun f=>?_) (fun f=>?_)
 have K:=of_decide_eq_true f
 refine Ro 9 a<|Ro 10 a<|Ro 11 a<|Ro 12 a<|Ro 13 a<|Ro 14 a<|Ro 15 a<|Ro 16 a<|Ro 17 a<|Ro 18 a<|Ro 19 a<|Ro 20 a<|Rt 21 a<|re<|tn<|c1<|al 3<|L0<|bE d 2 #[.slice A full.length cp,vI (k:Int),.bool true,vI C.e] fun a7 s L=>aK 4<|aF s 0<|Pl 3<|L0<|bE s 1 #[.slice A full.length cp,vI (full.length:Int),.bool true,vI C.e] fun M N O=>?_
 refine aK 1<|?_
 have t:=u1 (u1 (aC.mono (S':=[g]) i aA) L im) O im
 have Q:RC w0 m A cp full M g { C with l:=[],sh:=true }:=⟨hsrc,hU.trans' t (fun x hx=>.inr (by simp at hx;subst hx;exact hnew)),hnew,⟨full.length,N,Nat.le_refl _,List.drop_length.symm⟩,hlen⟩
 refine aq<|m2 (aP false 2 Q) fun a8 R S=>cJ 1<|bq<|rr nS<|?_
 have hf:C.fails n=true:=by rw[gw (n:=n) hk hl,j,f];rfl
 have e1:C.bytesR n=[]:=by unfold ag.bytesR;rw[hf];rfl
 have e2:C.bytesC n=ag.need { C with l:=[],sh:=true } false 2:=by unfold ag.bytesC;rw[hf];rfl
 exact⟨none,0,0,rfl,fun _ _ _=>by rw[e1];exact aG.nil ..,by rw[e2];exact R,(u1 t S im)⟩
 have K:=of_decide_eq_false f
 refine Rt 9 a<|Rt 10 a<|Rt 11 a<|Rt 12 a<|Rl 13 a (fun _ hs=>hs.2.1)<|Rt 14 a<|Rt 15 a<|Rt 16 a<|Rt 17 a<|Rl 18 a (fun _ hs=>hs.2.2)<|Rr 19 a (vI ((full.length:Int)-(k:Int))) (fun _ _=>bv (vI (IntKind.i64.wrap ((full.length:Int)-(k:Int)))) (by kernel_rfl) (congrArg (Value.int .i64) (IntWalk.i64_in _ (by omega))))<|Rt 20 a<|Rt 21 a<|re<|tn<|cb ((decide (((full.length:Int)-(k:Int))<n))) (fun o=>?_) (fun o=>?_)
 have T:=of_decide_eq_true o
 refine al 3<|L0<|bE d 2 #[.slice A full.length cp,vI (k:Int),.bool true,vI C.e] fun a9 u U=>aK 4<|aF u 0<|Pl 3<|L0<|bE u 1 #[.slice A full.length cp,vI (full.length:Int),.bool true,vI C.e] fun V W X=>nt<|al 1<|?_
 have v:=u1 (u1 (aC.mono (S':=[g]) i aA) U im) X im
 have Y:RC w0 m A cp full V g { C with l:=[],sh:=true }:=⟨hsrc,hU.trans' v (fun x hx=>.inr (by simp at hx;subst hx;exact hnew)),hnew,⟨full.length,W,Nat.le_refl _,List.drop_length.symm⟩,hlen⟩
 refine aq<|m2 (aP false 2 Y) fun aa Z a0=>cJ 1<|bq<|rr nS<|?_
 have hf:C.fails n=true:=by rw[gw (n:=n) hk hl,j,f,o];rfl
 have e1:C.bytesR n=[]:=by unfold ag.bytesR;rw[hf];rfl
 have e2:C.bytesC n=ag.need { C with l:=[],sh:=true } false 2:=by unfold ag.bytesC;rw[hf];rfl
 exact⟨none,0,0,rfl,fun _ _ _=>by rw[e1];exact aG.nil ..,by rw[e2];exact Z,(u1 v a0 im)⟩
 have T:=of_decide_eq_false o
 refine bu<|al 4<|aF d 1<|Pl 1<|bt ((k:Int)+n)<|Pl 2<|L0<|bE d 1 #[.slice A full.length cp,vI ((k:Int)+n),.bool C.sh,vI C.e] fun ab a1 a2=>nt<|sq<|Rg 16 (fun w'=>w'.cell? ⟨g,0,none⟩=some (.slice A full.length cp)∧w'.cell? ⟨g,1,none⟩=some (vI ((k:Int)+n))) fun ac y=>?_
 have p:=ub y a1
 refine bz ⟨(ak p rfl),(ak p rfl)⟩ fun b=>Rt 0 b<|Rt 1 b<|Rt 2 b<|Rl 3 b (fun _ hs=>hs.1)<|Rt 4 b<|Rt 5 b<|Rt 6 b<|Rl 7 b (fun _ hs=>hs.2)<|Rt 8 b<|Rr 9 b (vI (((k:Int)+n)-n)) (fun _ _=>bv (vI (IntKind.i64.wrap (((k:Int)+n)-n))) (by kernel_rfl) (congrArg (Value.int .i64) (IntWalk.i64_in _ (by omega))))<|Rt 10 b<|Rt 11 b<|Rt 12 b<|Rl 13 b (fun _ hs=>hs.2)<|l2 (iC (P:=Tryz.prog) 27 5 1 Tryz.underlying27 rfl rfl A full.length cp (lo:=(((k:Int)+n)-n)) (up:=((k:Int)+n)) (((((k:Int)+n)-n)).toNat) ((((k:Int)+n)).toNat) (by omega) (by omega) (by omega) (by omega) (by omega)) fun z hrun69 a3=>Rr 14 b (.slice z (((((k:Int)+n)).toNat)-(((((k:Int)+n)-n)).toNat)) (cp-(((((k:Int)+n)-n)).toNat))) (fun _ _=>fL (kl:=.i64) (kh:=.i64) (lo:=(((k:Int)+n)-n)) (hi:=((k:Int)+n)) (A:=A) (n:=full.length) (c:=cp) rfl Tryz.underlying27 (by kernel_rfl) (by kernel_rfl) (by kernel_rfl) (hrun69 _ _ _))<|Rt 15 b<|re<|tn<|rt<|rr (.slice z (((((k:Int)+n)).toNat)-(((((k:Int)+n)-n)).toNat)) (cp-(((((k:Int)+n)-n)).toNat)))<|?_
 have hf:C.fails n=false:=by rw[gw (n:=n) hk hl,j,f,o];rfl
 have B:=aQ (u1 (aC.mono (S':=[g]) i aA) a2 im) y
 have e2:C.bytesC n = { C with l:=C.l.drop n.toNat }:=by unfold ag.bytesC;rw[hf];rfl
 exact⟨_,_,_,rfl,fun m' w'' h=>by have:=a3 m' _ _ w'' full h;rw[mU hk hl hf _ _ (by omega) (by omega)] at this;exact this,by rw[e2];exact⟨hsrc,hU.trans' B (fun x hx=>.inr (by simp at hx;subst hx;exact hnew)),hnew,⟨((k:Int)+n).toNat,(by unfold vN;rw[show(((((k:Int)+n).toNat:Nat) : Int))=(k:Int)+n by omega];exact p),by omega,s7 hl (by omega)⟩,hlen⟩,B⟩
def rU (w0:World)(m:Md)(A:Option Addr)(cp:Nat)(full:List Int)(g:Nat)(C:ag)(n:Int)(w:World)(e:Ending)(w':World) : Prop:=∃ A2 c2,e = .returned (.slice A2 (C.bytesR n).length c2)∧(∀ m' w'',aV m' w'' (.slice A full.length cp) full→aV m' w'' (.slice A2 (C.bytesR n).length c2) (C.bytesR n))∧RC w0 m A cp full w' g (C.bytesC n)∧aC [g] w w'
theorem eC{w0:World}{m:Md}{A:Option Addr}{cp:Nat}{full:List Int}{w:World}{g:Nat}{C:ag}{n:Int}(hn : -1048576≤n∧n≤2097152)(hC:RC w0 m A cp full w g C) : Calls Tryz.prog 169 #[.pointer (some ⟨g,0,none⟩),.int .i64 n] w (rU w0 m A cp full g C n w):=by
  refine(nG hn hC).mono ?_
  rintro e w' ⟨A2,n2,c2,rfl,h1,h2,h3⟩
  obtain⟨_,_,hv,_⟩:=aG.shape (h1 m w0 hC.src)
  injection hv with _ e2 _
  subst e2
  exact⟨A2,c2,rfl,h1,h2,h3⟩
theorem rE{full:List Int}{k:Nat}{C:ag}(hk:k≤full.length)(hl:C.l=full.drop k) : ((full.length:Nat) : Int)-((k:Nat) : Int)=((C.l.length:Nat) : Int):=by
  rw[hl,List.length_drop]
  omega
theorem g8{w0:World}{m:Md}{A:Option Addr}{cp:Nat}{full:List Int}{w:World}{g:Nat}{C:ag}(hC:RC w0 m A cp full w g C) :
    Calls Tryz.prog 177 #[vP g 0] w (cg (vI (C.l.length:Int)) w):=by
 obtain⟨hsrc,hU,hnew,⟨k,hB,hk,hl⟩,hlen⟩:=hC
 have hcp:full.length≤1048576:=hlen
 refine en 13 Tryz.func177 rfl<|az 1<|sq<|Rg 11 (fun w'=>w'.cell? ⟨g,0,none⟩=some (.slice A full.length cp)∧w'.cell? ⟨g,1,none⟩=some (vI (k:Int))) fun d b=>?_
 have c:=ub b hB
 refine bz ⟨(ak c rfl),(ak c rfl)⟩ fun a=>Rt 0 a<|Rt 1 a<|Rt 2 a<|Rl 3 a (fun _ hs=>hs.1)<|Rt 4 a<|Rt 5 a<|Rt 6 a<|Rt 7 a<|Rl 8 a (fun _ hs=>hs.2)<|Rr 9 a (vI ((full.length:Int)-(k:Int))) (fun _ _=>bv (vI (IntKind.i64.wrap ((full.length:Int)-(k:Int)))) (by kernel_rfl) (congrArg (Value.int .i64) (IntWalk.i64_in _ (by omega))))<|Rt 10 a<|re<|tn<|rt<|rr (vI ((full.length:Int)-(k:Int)))<|?_
 rw[rE hk hl]
 exact⟨rfl,b⟩
theorem jM{w0:World}{m:Md}{A:Option Addr}{cp:Nat}{full:List Int}{w:World}{g:Nat}{C:ag}(hC:RC w0 m A cp full w g C) :
    Calls Tryz.prog 173 #[vP g 0] w (sH w0 m A cp full g C.endC w):=by
 refine en 7 Tryz.func173 rfl<|go<|Pl 2<|aq<|m1 (g8 hC) fun e a=>?_
 have b:=RC.upd hC a ax (aC.step (RC.u hC) a)
 refine Pl 1<|aq<|m2 (aP (((C.l.length:Int)==0)) 3 b) fun f c d=>nl<|rm (.tuple #[])<|?_
 exact⟨rfl,c,(u1 (aC.mono (S':=[g]) a aA) d im)⟩
theorem RC.clen{w0:World}{m:Md}{A:Option Addr}{cp:Nat}{full:List Int}{w:World}{g:Nat}{C:ag}(h:RC w0 m A cp full w g C) : C.l.length≤1048576:=by
  obtain⟨k,_,_,h2⟩:=h.cell
  have:=h.len
  rw[h2,List.length_drop]
  omega
theorem oX{C:ag}(h:((((C.bytesR 1).length:Nat) : Int)==0)=true) : C.byteV=0:=by
  have hz:C.bytesR 1=[]:=List.eq_nil_of_length_eq_zero (by have:=ap h;omega)
  unfold ag.byteV
  rw[hz]
  rfl
def mT (w0:World)(m:Md)(A:Option Addr)(cp:Nat)(full:List Int)(g:Nat)(q:IntKind)(M x:Int)(C:ag)(w:World)(e:Ending)(w':World) : Prop:=e = .returned (.int q x)∧RC w0 m A cp full w' g C∧aC [g] w w'∧0≤x∧x<M
theorem dg{w0:World}{m:Md}{A:Option Addr}{cp:Nat}{full:List Int}{w:World}{g:Nat}{C:ag}(hC:RC w0 m A cp full w g C) :
    Calls Tryz.prog 167 #[vP g 0] w (mT w0 m A cp full g .u8 256 C.byteV (C.bytesC 1) w):=by
 refine en 12 Tryz.func167 rfl<|al 1<|aK 1<|aq<|mu (eC (n:=1) (by omega) hC) fun k l o d b c=>?_
 have q:=Nat.le_trans (ag.bytesR_le C 1) (RC.clen hC)
 refine am 1<|sq<|az 3<|cb ((((C.bytesR 1).length:Int)==0)) (fun a=>?_) (fun a=>?_)
 have e:=ap a
 exact az 1<|bq<|rr (vB 0)<|⟨by rw[oX a],b,c,jW (RC.rng hC)⟩
 have e:=au a
 exact bu<|al 1<|eH (aV.at_ (d _ _ (RC.rd b)) 0 (by omega)) fun f h i j r=>L0<|ia ((C.bytesR 1).length) 0 i (by omega)<|L0<|er (p:=⟨f,h+0,none⟩) (v:=vB ((C.bytesR 1).getD 0 0)) j<|am 1<|rt<|rr (vB ((C.bytesR 1).getD 0 0))<|⟨rfl,b,c,jW (RC.rng hC)⟩
theorem oY{C:ag}{full:List Int}{k:Nat}{n:Int}(hk:k≤full.length)(hl:C.l=full.drop k)(h:(decide (n<0)||decide (((full.length:Nat) : Int)<n))=true) : C.wordsR n=bO (C.bytesR (-1))∧C.wordsC n=C.bytesC (-1):=by
  have hb:C.wbad n=true:=by
    unfold ag.wbad
    simp only[Bool.or_eq_true,decide_eq_true_eq] at h ⊢
    rw[hl,List.length_drop]
    omega
  have hf:C.fails (-1)=true:=by
    unfold ag.fails
    simp
  constructor
  · unfold ag.wordsR ag.bytesR
    rw[hb,hf]
    rfl
  · unfold ag.wordsC
    rw[hb]
    rfl
theorem r6{C:ag}{full:List Int}{k:Nat}{n:Int}(hk:k≤full.length)(hl:C.l=full.drop k)(h:(decide (n<0)||decide (((full.length:Nat) : Int)<n))=false) : C.wordsR n=bO (C.bytesR (n+n))∧C.wordsC n=C.bytesC (n+n):=by
  simp only[Bool.or_eq_false_iff,decide_eq_false_iff_not] at h
  by_cases hw:((C.l.length:Int)<n)
  · have hb:C.wbad n=true:=by
      unfold ag.wbad
      simp only[Bool.or_eq_true,decide_eq_true_eq]
      omega
    have hf:C.fails (-1)=true:=by
      unfold ag.fails
      simp
    have hf2:C.fails (n+n)=true:=by
      unfold ag.fails
      simp only[Bool.or_eq_true,decide_eq_true_eq]
      omega
    constructor
    · unfold ag.wordsR ag.bytesR
      rw[hb,hf2]
      rfl
    · unfold ag.wordsC
      rw[hb]
      unfold ag.bytesC
      rw[hf2,hf]
      rfl
  · have hb:C.wbad n=false:=by
      unfold ag.wbad
      simp only[Bool.or_eq_false_iff,decide_eq_false_iff_not]
      omega
    constructor
    · unfold ag.wordsR
      rw[hb,show 2*n=n+n by omega]
      rfl
    · unfold ag.wordsC
      rw[hb,show 2*n=n+n by omega]
      rfl
def rP (w0:World)(m:Md)(A:Option Addr)(cp:Nat)(full:List Int)(g:Nat)(C:ag)(n:Int)(w:World)(e:Ending)(w':World) : Prop:=∃ v,e = .returned v∧io w.heap.size w' v (C.wordsR n)∧RC w0 m A cp full w' g (C.wordsC n)∧aC [g] w w'
theorem eR{w0:World}{m:Md}{A:Option Addr}{cp:Nat}{full:List Int}{w:World}{g:Nat}{C:ag}{n:Int}(hn : -1048576≤n∧n≤1048576)(hC:RC w0 m A cp full w g C) :
    Calls Tryz.prog 174 #[vP g 0,vI n] w (rP w0 m A cp full g C n w):=by
 have hC0:=hC
 obtain⟨hsrc,hU,hnew,⟨k,hB,hk,hl⟩,hlen⟩:=hC0
 refine en 25 Tryz.func174 rfl<|az 1<|sq<|al 3<|dX 8 [7] 15 7 (decide (n<0)) (decide ((full.length:Int)<n)) (fun K i j=>?_) ?_
 have D:=of_decide_eq_false j
 exact Pl 4<|L1<|cY hB 0<|Pl 3<|ce i _ rfl
 refine nt<|cb (((decide (n<0))||(decide ((full.length:Int)<n)))) (fun a=>?_) (fun a=>?_)
 refine al 1<|?_
 have l:=RC.upd hC (aC.refl [] _) ax (aC.step hC.u (aC.refl [] _))
 refine aq<|mu (eC (n:=-1) (by omega) l) fun E F G o b f=>?_
 have H:=Nat.le_trans (ag.bytesR_le C (-1)) (RC.clen hC)
 refine aq<|tA (sw (o _ _ (RC.rd b)) (by omega)) fun p q I r J L c=>am 1<|bq<|rr (.slice p ((bO (C.bytesR (-1))).length) q)<|?_
 have hw:=oY hk hl a
 exact⟨_,rfl,by rw[hw.1];exact(aT.weaken r f.size),by rw[hw.2];exact(RC.upd b c ax (aC.step (RC.u b) c)),(aQ f c)⟩
 have s:=(cl a).1
 have t:=(cl a).2
 have M:=of_decide_eq_false s
 have N:=of_decide_eq_false t
 refine bu<|al 3<|bt (n+n)<|?_
 have v:=RC.upd hC (aC.refl [] _) ax (aC.step hC.u (aC.refl [] _))
 refine aq<|mu (eC (n:=(n+n)) (by omega) v) fun O P Q x d h=>?_
 have R:=Nat.le_trans (ag.bytesR_le C (n+n)) (RC.clen hC)
 refine aq<|tA (sw (x _ _ (RC.rd d)) (by omega)) fun y z S B T U e=>am 1<|rt<|rr (.slice y ((bO (C.bytesR (n+n))).length) z)<|?_
 have hw:=r6 hk hl a
 exact⟨_,rfl,by rw[hw.1];exact(aT.weaken B h.size),by rw[hw.2];exact(RC.upd d e ax (aC.step (RC.u d) e)),(aQ h e)⟩
theorem oB{C:ag}(h:((((C.wordsR 1).length:Nat) : Int)==0)=true) : C.wordV=0:=by
  have hz:C.wordsR 1=[]:=List.eq_nil_of_length_eq_zero (by have:=ap h;omega)
  unfold ag.wordV
  rw[hz]
  rfl
theorem c8{w0:World}{m:Md}{A:Option Addr}{cp:Nat}{full:List Int}{w:World}{g:Nat}{C:ag}(hC:RC w0 m A cp full w g C) :
    Calls Tryz.prog 170 #[vP g 0] w (mT w0 m A cp full g .u16 65536 C.wordV (C.wordsC 1) w):=by
 refine en 12 Tryz.func170 rfl<|al 1<|aK 1<|aq<|iG (eR (n:=1) (by omega) hC) fun k l o d q r b c=>am 1<|sq<|az 3<|cb ((((C.wordsR 1).length:Int)==0)) (fun a=>?_) (fun a=>?_)
 have e:=ap a
 exact az 1<|bq<|rr (vW 0)<|⟨by rw[oB a],b,c,bG (RC.rng hC)⟩
 have e:=au a
 exact bu<|al 1<|eH (ej.at_ (d).rd 0 (by omega)) fun f h i j s=>L0<|ia ((C.wordsR 1).length) 0 i (by omega)<|L0<|er (p:=⟨f,h+0,none⟩) (v:=vW ((C.wordsR 1).getD 0 0)) j<|am 1<|rt<|rr (vW ((C.wordsR 1).getD 0 0))<|⟨rfl,b,c,bG (RC.rng hC)⟩
theorem eI{w0:World}{m:Md}{A:Option Addr}{cp:Nat}{full:List Int}{w:World}{g:Nat}{C:ag}{G:Prop}(h:RC w0 m A cp full w g C)(k:∀ x,C=x→RC w0 m A cp full w g x→G) : G:=k C rfl h
open Go.RowKit
theorem pj{x:Int}(hx:0≤x∧x<65536) : dt x=((decide (x≤4)||(decide (10≤x)&&decide (x≤18)))||x==20):=by
  unfold dt
  rw[Bool.eq_iff_iff]
  simp only[decide_eq_true_eq,List.mem_cons,List.not_mem_nil,or_false,Bool.or_eq_true,Bool.and_eq_true,beq_iff_eq]
  omega
theorem jH{x:Int}(hx:0≤x∧x<256) : da x=((((decide (1≤x)&&decide (x≤6))||x==8)||x==10)||x==11):=by
  unfold da
  rw[Bool.eq_iff_iff]
  simp only[decide_eq_true_eq,List.mem_cons,List.not_mem_nil,or_false,Bool.or_eq_true,Bool.and_eq_true,beq_iff_eq]
  omega
theorem tX{x:Int}{w:World}(hx:0≤x∧x<65536) : Calls Tryz.prog 176 #[vW x] w (cg (.bool (dt x)) w):=by
 refine en 17 Tryz.func176 rfl<|al 1<|aK 3<|cu 7 [5] 12 (((decide (x≤4))||((decide (10≤x))&&(decide (x≤18))))) (fun K b=>?_) ?_
 refine bl 5 ((decide (x≤4))) (fun a=>?_) (fun a=>?_)
 have c:=of_decide_eq_true a
 exact Pl 7<|ce b true (by rw[a];rfl)
 have c:=of_decide_eq_false a
 refine Pl 3<|dc 3 [8] 11 8 (decide (10≤x)) (decide (x≤18)) (fun K d e=>?_) ?_
 have g:=of_decide_eq_true e
 exact Pl 3<|ce d _ rfl
 exact Pl 1<|ce b ((decide (10≤x))&&(decide (x≤18))) (by rw[a];rfl)
 refine Pl 1<|dX 3 [13] 16 13 ((decide (x≤4))||((decide (10≤x))&&(decide (x≤18)))) (x==20) (fun K f h=>?_) ?_
 exact Pl 3<|ce f _ rfl
 refine am 1<|rt<|rr (.bool (((decide (x≤4))||((decide (10≤x))&&(decide (x≤18))))||(x==20)))<|?_
 rw[pj hx]
 have hs:((decide (x≤4)||(decide (10≤x)&&decide (x≤18)))||x==20)=(((decide (x≤4))||((decide (10≤x))&&(decide (x≤18))))||(x==20)):=by(try simp only[Bool.true_or,Bool.false_or,Bool.true_and,Bool.false_and,Bool.or_true,Bool.or_false]);all_goals rfl
 rw[hs]
 exact⟨rfl,(aC.refl [] _)⟩
theorem qL{x:Int}{w:World}(hx:0≤x∧x<256) : Calls Tryz.prog 165 #[vB x] w (cg (.bool (da x)) w):=by
 refine en 21 Tryz.func165 rfl<|al 1<|aK 3<|dc 3 [5] 8 5 (decide (1≤x)) (decide (x≤6)) (fun K a b=>?_) ?_
 have f:=of_decide_eq_true b
 exact Pl 3<|ce a _ rfl
 refine Pl 1<|dX 3 [9] 12 9 ((decide (1≤x))&&(decide (x≤6))) (x==8) (fun K c g=>?_) ?_
 exact Pl 3<|ce c _ rfl
 refine Pl 1<|dX 3 [13] 16 13 (((decide (1≤x))&&(decide (x≤6)))||(x==8)) (x==10) (fun K d h=>?_) ?_
 exact Pl 3<|ce d _ rfl
 refine Pl 1<|dX 3 [17] 20 17 ((((decide (1≤x))&&(decide (x≤6)))||(x==8))||(x==10)) (x==11) (fun K e i=>?_) ?_
 exact Pl 3<|ce e _ rfl
 refine am 1<|rt<|rr (.bool (((((decide (1≤x))&&(decide (x≤6)))||(x==8))||(x==10))||(x==11)))<|?_
 rw[jH hx]
 have hs:((((decide (1≤x)&&decide (x≤6))||x==8)||x==10)||x==11)=(((((decide (1≤x))&&(decide (x≤6)))||(x==8))||(x==10))||(x==11)):=by(try simp only[Bool.true_or,Bool.false_or,Bool.true_and,Bool.false_and,Bool.or_true,Bool.or_false]);all_goals rfl
 rw[hs]
 exact⟨rfl,(aC.refl [] _)⟩
theorem fO{dir sub v:Int}:eQ dir sub v=if sub==1 then (v==0 || v==65280) else if sub==3 then v%256==0 else if dir==1&&(sub==2 || (decide (11≤sub)&&decide (sub≤18))) then true else v==0:=by
  unfold eQ
  by_cases h1:sub=1
  · subst h1
    rfl
  by_cases h3:sub=3
  · subst h3
    rfl
  have e1:(sub==1)=false:=by simpa using h1
  have e3:(sub==3)=false:=by simpa using h3
  rw[e1,e3,Bool.and_comm]
  rfl
theorem uI{dir sub v:Int}{w:World}(hv:0≤v∧v<65536) : Calls Tryz.prog 178 #[vI dir,vW sub,vW v] w (cg (.bool (eQ dir sub v)) w):=by
 refine en 39 Tryz.func178 rfl<|az 1<|sq<|bk<|az 3<|cb ((sub==1)) (fun a=>?_) (fun a=>?_)
 have h:=ap a
 refine al 3<|dX 3 [12] 15 12 (v==0) (v==65280) (fun K i j=>?_) ?_
 have r:=au j
 exact Pl 3<|ce i _ rfl
 refine am 1<|rt<|br<|tr<|rr (.bool ((v==0)||(v==65280)))<|?_
 have hs:eQ dir sub v=((v==0)||(v==65280)):=by
   rw[fO]
   (try simp only[a,bp,reduceIte])
   all_goals rfl
 rw[hs]
 exact⟨rfl,(aC.refl [] _)⟩
 have h:=au a
 refine az 3<|cb ((sub==3)) (fun b=>?_) (fun b=>?_)
 have k:=ap b
 refine al 1<|L0<|Oe (vW (Int.tmod v 256)) (vW (v%256)) (congrArg (Value.int .u16) (Int.tmod_eq_emod_of_nonneg (by omega)))<|am 2<|rt<|br<|tr<|rr (.bool ((v%256)==0))<|?_
 have hs:eQ dir sub v=((v%256)==0):=by
   rw[fO]
   (try simp only[a,b,bp,reduceIte])
   all_goals rfl
 rw[hs]
 exact⟨rfl,(aC.refl [] _)⟩
 have k:=au b
 refine al 3<|cu 11 [25] 36 (((dir==1)&&((sub==2)||((decide (11≤sub))&&(decide (sub≤18)))))) (fun K f=>?_) ?_
 refine bl 25 ((dir==1)) (fun c=>?_) (fun c=>?_)
 have l:=ap c
 refine Pl 3<|cu 7 [28] 35 (((sub==2)||((decide (11≤sub))&&(decide (sub≤18))))) (fun K g=>?_) ?_
 refine bl 28 ((sub==2)) (fun d=>?_) (fun d=>?_)
 have m:=ap d
 exact Pl 7<|ce g true (by rw[d];rfl)
 have m:=au d
 refine Pl 3<|dc 3 [31] 34 31 (decide (11≤sub)) (decide (sub≤18)) (fun K n o=>?_) ?_
 have s:=of_decide_eq_true o
 exact Pl 3<|ce n _ rfl
 exact Pl 1<|ce g ((decide (11≤sub))&&(decide (sub≤18))) (by rw[d];rfl)
 exact Pl 1<|ce f ((sub==2)||((decide (11≤sub))&&(decide (sub≤18)))) (by rw[c];rfl)
 have l:=au c
 exact Pl 11<|ce f false (by rw[c];rfl)
 refine am 1<|cb (((dir==1)&&((sub==2)||((decide (11≤sub))&&(decide (sub≤18)))))) (fun e=>?_) (fun e=>?_)
 have p:=(aW e).1
 have q:=(aW e).2
 refine az 1<|rt<|br<|tr<|rr (.bool true)<|?_
 have hs:eQ dir sub v=true:=by
   rw[fO]
   (try simp only[a,b,e,p,q,bp,reduceIte])
   all_goals rfl
 rw[hs]
 exact⟨rfl,(aC.refl [] _)⟩
 refine sk<|bn<|tn<|az 3<|rt<|rr (.bool (v==0))<|?_
 have hs:eQ dir sub v=(v==0):=by
   rw[fO]
   (try simp only[a,b,e,bp,reduceIte])
   all_goals rfl
 rw[hs]
 exact⟨rfl,(aC.refl [] _)⟩
end Go.Proofs.YtdkhbcefkfgbdaaGreat
