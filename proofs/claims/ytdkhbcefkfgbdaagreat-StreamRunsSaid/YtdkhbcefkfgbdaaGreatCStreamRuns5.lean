/- Contracts of functions, part CStreamRuns5. -/
import Derived.Test.YtdkhbcefkfgbdaaGreatCStreamRuns1
import Derived.Test.YtdkhbcefkfgbdaaGreatCStreamRuns2
import Derived.Test.YtdkhbcefkfgbdaaGreatCStreamRuns3
import Derived.Test.YtdkhbcefkfgbdaaGreatCStreamRuns4
set_option linter.unusedVariables false
set_option linter.unusedSimpArgs false
set_option maxRecDepth 100000
set_option maxHeartbeats 4000000
namespace Go.Proofs.YtdkhbcefkfgbdaaGreat
open Go.RowKit
def eO (dir:Int)(C:al) : al:=(C.wordsC 1).need (ed C.wordV&&((C.wordV != 4)||(dir==0))) 8
variable {C:al}
theorem kA:eO 0 C=(C.wordsC 1).need (ed C.wordV) 8:=by
  unfold eO
  rw[show((0:Int)==0)=true from rfl,Bool.or_true,Bool.and_true]
theorem kC:eO 1 C=(C.wordsC 1).need (ed C.wordV&&(C.wordV != 4)) 8:=by
  unfold eO
  rw[show((1:Int)==0)=false from rfl,Bool.or_false]
def e8 (dir c:Int)(C:al) : al × bg :=
  if C.wordV==0 then ((kg (eO dir C)).wordsC (((eO dir C).l.length:Int)/2),{ bg.zero with code:=c,sub:=C.wordV,words:=(kg (eO dir C)).wordsR (((eO dir C).l.length:Int)/2) })
  else (((eO dir C).wordsC 1).need (fO dir C.wordV (eO dir C).wordV) 6,{ bg.zero with code:=c,sub:=C.wordV,words:=[(eO dir C).wordV] })
def dv (c:Int)(C:al) : al × bg :=
  if c==7 then (C.bytesC 1,{ bg.zero with code:=c,value:=C.byteV })
  else if c==11 then ((dQ C).wordsC 1,{ bg.zero with code:=c,status:=C.wordV,events:=(dQ C).wordV })
  else if c==12 then ((iC C).bytesC (C.byteV-6),{ bg.zero with code:=c,status:=(gU C 6 70).wordV,events:=(dQ (gU C 6 70)).wordV,messages:=((dQ (gU C 6 70)).wordsC 1).wordV,data:=(iC C).bytesR (C.byteV-6) })
  else ((gU C 1 251).bytesC C.byteV,{ bg.zero with code:=c,data:=(gU C 1 251).bytesR C.byteV })
def bS (dir c:Int)(C:al) : Option (al × bg) :=
  if ((((c != 7)&&(c != 8))&&(c != 11))&&(c != 12))&&(c != 17) then none
  else if c==8 then some (e8 dir c C)
  else if dir==0 then some (C,{ bg.zero with code:=c })
  else some (dv c C)
variable {A:Option Addr}{b:List Int}{c:Int}{cp:Nat}{m:Md}{w:World}
theorem lW(hcode:B8 c)(hsl:aO m w (.slice A b.length cp) b)(hb:b.length≤1048576) :
    Calls Tryz.prog 111 #[vI 0,vB c,.slice A b.length cp] w (cT (.slice A b.length cp) b (aq bS 0 c b) w):=by
 obtain⟨hcode1,hcode2⟩:=hcode
 have hln:(b.length:Int)≤1048576:=by omega
 refine en 197 Tryz.func111 rfl<|sg<|aK mZ fun ab cA L t d=>aj 1<|sq<|ax 6<|c0<|bp<|sq<|ak 3<|cV 3 [24] 27 24 (c != 7) (c != 8) (fun K bt bv=>?_) ?_
 have cB:=av bv
 exact Pl 3<|ce bt _ rfl
 refine Pl 1<|cV 3 [28] 31 28 ((c != 7)&&(c != 8)) (c != 11) (fun K bw ad=>?_) ?_
 have bz:=(aR ad).1
 have bC:=(aR ad).2
 have cC:=av bz
 have cD:=av bC
 exact Pl 3<|ce bw _ rfl
 refine Pl 1<|cV 3 [32] 35 32 (((c != 7)&&(c != 8))&&(c != 11)) (c != 12) (fun K bD ae=>?_) ?_
 have af:=(aR ae).1
 have bE:=(aR ae).2
 have bF:=(aR af).1
 have bH:=(aR af).2
 have q19aap:=av bF
 have q19abp:=av bH
 have cE:=av bE
 exact Pl 3<|ce bD _ rfl
 refine Pl 1<|cV 3 [36] 39 36 ((((c != 7)&&(c != 8))&&(c != 11))&&(c != 12)) (c != 17) (fun K bJ an=>?_) ?_
 have ao:=(aR an).1
 have bK:=(aR an).2
 have ap:=(aR ao).1
 have bL:=(aR ao).2
 have q21aaa:=(aR ap).1
 have q21aab:=(aR ap).2
 have q21aaap:=av q21aaa
 have q21aabp:=av q21aab
 have q21abp:=av bL
 have cF:=av bK
 exact Pl 3<|ce bJ _ rfl
 refine nt<|cb ((((((c != 7)&&(c != 8))&&(c != 11))&&(c != 12))&&(c != 17))) (fun o=>?_) (fun o=>?_)
 have N:=(aR o).1
 have ar:=(aR o).2
 have O:=(aR N).1
 have aw:=(aR N).2
 have q23aaa:=(aR O).1
 have q23aab:=(aR O).2
 have q23aaaa:=(aR q23aaa).1
 have q23aaab:=(aR q23aaa).2
 have q23aaaap:=av q23aaaa
 have q23aaabp:=av q23aaab
 have q23aabp:=av q23aab
 have q23abp:=av aw
 have cG:=av ar
 refine ak 1<|aE t mZ fun cH bM bN=>aj 1<|bh<|bV bM (vI 4)<|?_
 exact dq (by unfold aq bS e8 dv;(try simp only[o,N,O,q23aaa,q23aaaa,q23aaab,q23aab,aw,ar,bj,dl,dm,dj,dn,dk,reduceIte,kA,kC])<;>rfl) (bu (ud d bN L))
 refine bp<|ak 2<|L0<|dK #[.slice A b.length cp,vI 0,.bool false,vI 0] fun i cI f P j=>Pl 1<|aL 2<|aK mZ fun q cJ g Q bO=>aE Q (mC c) fun aB aF R=>?_
 refine nt<|?_
 have aN:=ud bO R g
 have E:=aM j aN
 have S:=aM d E
 have aP:RC w _ A cp b aB i (al.mk b false 0):=⟨hsl,S,(Nat.le_trans d.size f),⟨0,(ub aN P),Nat.zero_le _,rfl⟩,by omega⟩
 refine x8 (fun x=>[(6,vP ab 0),(7,vI 0),(8,vP i 0),(9,vP q 0)]) (fun(x:al × Array Value × bg) w'=>aD [i,q] aB w'∧RC w m A cp b w' i x.1∧w'.heap[q]? = some (.cells x.2.1 45 (0,0))∧bG (.slice A b.length cp) b w' x.2.1.toList x.2.2∧(aq bS 0 c b=bA x.2.2 x.1)) ?_ ?_
 rintro⟨C,cs,M⟩ T ⟨aQ,bP,bQ,bR,bT⟩
 refine eH [(6,vP ab 0),(7,vI 0),(8,vP i 0),(9,vP q 0)] ?_
 have aS:RC w m A cp b T i C:=bP
 have bU:T.heap[q]? = some (.cells cs 45 (0,0)):=bQ
 have F:bG (.slice A b.length cp) b T cs.toList M:=bR
 have U:=bG.size F
 have aT:aq bS 0 c b=bA M C:=bT
 refine ak 1<|az<|m2 (lZ aS) fun cK V W=>nt<|sq<|ak 3<|L0<|dX (p:=⟨i,3,none⟩) (v:=vI C.endC.e) (RC.fld V)<|aj 1<|?_
 have X:=u1 aQ W im
 have aU:=ut S X (ac (ni d.size f) (ac (ni (le d.size j.size) g) aA))
 refine cb ((C.endC.e != 0)) (fun Y=>?_) (fun Y=>?_)
 have Z:=av Y
 refine sq<|Rg 7 (fun w'=>w'.cell? ⟨i,3,none⟩=some (vI C.endC.e)) fun cM G=>?_
 have aZ:=RC.upd V G ay (aD.step (RC.u V) G)
 refine bB (RC.fld aZ) fun y=>Rt 0 y<|Rt 1 y<|Rt 2 y<|Rt 3 y<|Rl 4 y (fun _ hs=>hs)<|?_
 refine R0 5 rfl<|iX (ub (ut E (aM X G) (ac (nr f) (ac (ni j.size g) aA))) t) mZ fun cN bW b0=>?_
 have b1:=ud aU (uz G b0) L
 refine bB (RC.fld (RC.upd aZ b0 (aa (Ne.symm (nb (ag t) lr f)) ay) b1)) fun bX=>Rt 6 bX<|re<|tn<|bh<|bV bW (vI C.endC.e)<|?_
 rw[aT]
 exact cL Z b1
 have Z:=aJ Y
 refine bp<|sg<|?_
 refine L0<|cO (hz:=(by rw[U];exact be)) (aY W (Ne.symm (nb (ag P) lr g)) bU)<|?_
 refine aE (hz:=(by rw[U];exact be)) (hv:=(bG.size F)) (h1:=(bG.one F hsl)) (ub (ut E X (ac (nr f) (ac (ni j.size g) aA))) t) (cs) fun cP bY b2=>aj 1<|rt<|eW 22 U bY (vI 0)<|?_
 rw[aT]
 exact dg Z (bG.upd F (us W b2) (ah (RC.safe aS _ (by decide)) (ah (aW (ub (ut E aQ (ac (nr f) (ac (ni j.size g) aA))) t) (by decide)) aC))) (ud aU b2 L)
 refine bk<|ax 3<|cb ((c==8)) (fun r=>?_) (fun r=>?_)
 have bZ:=am r
 refine ak 1<|az<|m3 (cw aP) fun cQ c2 H cR=>Pl 1<|?_
 have k:=nb (ag P) lr g
 refine L0<|bI (aY H (Ne.symm k) aF) 8 (mG c 0 0 0 0 0 0 0 ((al.mk b false 0).wordV) 0 0 0 nS nS nS nS 0 0 0 0 0 nS) fun c3 a0 a1=>aL 1<|aH a0 8<|az<|m1 (BG (x:=(al.mk b false 0).wordV) (w:=c3) (by omega)) fun cS z=>Pl 1<|aL 3<|cu 8 [72] 80 ((ed ((al.mk b false 0).wordV))) (fun K b3=>?_) ?_
 refine bl 72 ((ed ((al.mk b false 0).wordV))) (fun a2=>?_) (fun a2=>?_)
 refine Pl 1<|?_
 refine L1<|dp (ub z a0) 8<|Pl 2<|cu 3 [76] 79 (true) (fun K b4=>?_) ?_
 refine bl 76 ((((al.mk b false 0).wordV)!=4)) (fun a3=>?_) (fun a3=>?_)
 have c4:=av a3
 exact Pl 3<|ce b4 true rfl
 have c4:=aJ a3
 exact Pl 3<|ce b4 true rfl
 exact Pl 1<|ce b3 true a2
 exact Pl 8<|ce b3 false a2
 have b5:=aM a1 z
 have a4:=us H b5
 have b6:=ut S a4 (ac (ni d.size f) (ac (ni (le d.size j.size) g) aA))
 refine az<|m2 (aX ((ed ((al.mk b false 0).wordV))) 8 (RC.upd c2 b5 (aa k ay) b6)) fun cU c5 s=>?_
 refine fB c5 fun a b7 B=>?_
 refine nt<|sq<|ak 1<|?_
 have a5:=aY (uz z s) (Ne.symm k) a0
 refine aH a5 8<|aj 1<|?_
 have b8:=ud b6 s (le d.size f)
 refine cb ((((al.mk b false 0).wordV)==0)) (fun D=>?_) (fun D=>?_)
 have c6:=am D
 refine ak 1<|az<|m1 (iw B) fun cW I=>?_
 have cX:=RC.clen B
 refine Pl 1<|aL 2<|L0<|Oe (vI (Int.tmod (a.l.length:Int) 2)) (vI ((a.l.length:Int)%2)) (congrArg (Value.int .i64) (Int.tmod_eq_emod_of_nonneg (by omega)))<|Pl 2<|cV 3 [91] 94 91 (((a.l.length:Int)%2)==0) (decide (2≤(a.l.length:Int))) (fun K c7 c9=>?_) ?_
 have cY:=am c9
 exact Pl 3<|ce c7 _ rfl
 refine Pl 1<|cV 3 [95] 98 95 ((((a.l.length:Int)%2)==0)&&(decide (2≤(a.l.length:Int)))) (decide ((a.l.length:Int)≤250)) (fun K ca b9=>?_) ?_
 have cc:=(aR b9).1
 have cd:=(aR b9).2
 have cZ:=am cc
 have d0:=of_decide_eq_true cd
 exact Pl 3<|ce ca _ rfl
 refine az<|m2 (aX ((((((a.l.length:Int)%2)==0)&&(decide (2≤(a.l.length:Int))))&&(decide ((a.l.length:Int)≤250)))) 5 (RC.upd B I ay (aD.step (RC.u B) I))) fun d1 cf ba=>?_
 refine fB cf fun a6 cg ch=>?_
 refine aL 2<|L0<|Oe (vI (IntKind.i64.wrap (Int.tdiv (a.l.length:Int) 2))) (vI ((a.l.length:Int)/2)) (congrArg (Value.int .i64) (fJ (by omega) (by omega)))<|az<|kF (fR (n:=((a.l.length:Int)/2)) (by omega) ch) fun ci cj d2 bb d3 d4 ck cl=>Pl 1<|?_
 have bc:=uz I (u1 ba cl im)
 refine L0<|bI (aY bc (Ne.symm k) a5) 12 (mG c 0 0 0 0 0 0 0 ((al.mk b false 0).wordV) 0 0 0 (.slice ci ((a6.wordsR ((a.l.length:Int)/2)).length) cj) nS nS nS 0 0 0 0 0 nS) fun d5 cm a7=>nt<|xt<|tx<|bx<|?_
 have bd:=us bc a7
 exact jn ((a6.wordsC ((a.l.length:Int)/2)),_,(bg.mk c 0 0 0 0 0 0 0 ((al.mk b false 0).wordV) 0 0 0 (a6.wordsR ((a.l.length:Int)/2)) [] [] [] 0 0 0 0 0 [])) ⟨(ut a4 (ui s bd) (ac im (ac im aA))),(RC.upd ck a7 (aa k ay) (ut b8 bd (ac (ni d.size f) (ac (ni (le d.size j.size) g) aA)))),cm,⟨_,_,_,_,_,rfl,((ai bb a7 (fun x hx=>(aa (fun e=>(aG (ag Q) (le (le (le (le (le (le R.size H.size) a1.size) z.size) s.size) I.size) ba.size) bb) (e▸hx)) ay)) (fun _ _ h=>h))).rd,aI.nil ..,(fun _ _ _=>aI.nil ..),aI.nil ..,aI.nil ..,(c8 (by omega))⟩,by subst cg b7;unfold aq bS e8 dv;(try simp only[o,r,D,bj,dl,dm,dj,dn,dk,reduceIte,kA,kC])<;>rfl⟩
 have c6:=au D
 refine bp<|ak 1<|az<|m3 (cw B) fun cn bf a8 d6=>Pl 1<|aL 3<|?_
 have bi:=aY a8 (Ne.symm k) a5
 refine aH bi 8<|Pl 1<|az<|m1 (Bu (dir:=0) (sub:=(al.mk b false 0).wordV) (v:=a.wordV) (w:=cn) (by omega)) fun d7 J=>?_
 refine az<|m2 (aX ((fO 0 ((al.mk b false 0).wordV) a.wordV)) 6 (RC.upd bf J ay (aD.step (RC.u bf) J))) fun d8 co bm=>?_
 refine fB co fun cq cr ct=>?_
 refine nt<|go<|Pl 1<|L0<|ep (m:=1) (e:=37) #[vW a.wordV] fun cv d9 cx cy bo=>?_
 have bq:=xM cx (xs:=[a.wordV]) (by as_aux_lemma=>kernel_rfl) (aV (by omega) dc) (by(try simp only[List.length_cons,List.length_nil]);omega) cy
 refine Pl 1<|?_
 have br:=uz J (aM bm bo)
 refine L0<|bI (aY br (Ne.symm k) bi) 12 (mG c 0 0 0 0 0 0 0 ((al.mk b false 0).wordV) 0 0 0 (.slice (some ⟨cv,0,none⟩) 1 1) nS nS nS 0 0 0 0 0 nS) fun da cz a9=>nl<|bn<|?_
 have bs:=ui a8 (us br a9)
 exact jn (cq,_,(bg.mk c 0 0 0 0 0 0 0 ((al.mk b false 0).wordV) 0 0 0 [a.wordV] [] [] [] 0 0 0 0 0 [])) ⟨(ut a4 (ui s bs) (ac im (ac im aA))),(RC.upd ct (uz bo a9) (aa k ay) (ut b8 bs (ac (ni d.size f) (ac (ni (le d.size j.size) g) aA)))),cz,⟨_,_,_,_,_,rfl,((ai bq a9 (fun x hx=>(aa (fun e=>(aG (ag Q) (le (le (le (le (le (le (le R.size H.size) a1.size) z.size) s.size) a8.size) J.size) bm.size) bq) (e▸hx)) ay)) (fun _ _ h=>h))).rd,aI.nil ..,(fun _ _ _=>aI.nil ..),aI.nil ..,aI.nil ..,(c8 (by omega))⟩,by subst cr b7;unfold aq bS e8 dv;(try simp only[o,r,D,bj,dl,dm,dj,dn,dk,reduceIte,kA,kC])<;>rfl⟩
 have bZ:=au r
 exact ax 3<|c1<|sk<|bn<|jn ((al.mk b false 0),_,(bg.mk c 0 0 0 0 0 0 0 0 0 0 0 [] [] [] [] 0 0 0 0 0 [])) ⟨(aD.mono (S':=[i,q]) (aD.refl [] _) aA),aP,aF,⟨_,_,_,_,_,rfl,aI.nil ..,aI.nil ..,(fun _ _ _=>aI.nil ..),aI.nil ..,aI.nil ..,(c8 (by omega))⟩,by unfold aq bS e8 dv;(try simp only[o,r,bj,dl,dm,dj,dn,dk,reduceIte,kA,kC])<;>rfl⟩
theorem mf(hcode:B8 c)(hsl:aO m w (.slice A b.length cp) b)(hb:b.length≤1048576) :
    Calls Tryz.prog 111 #[vI 1,vB c,.slice A b.length cp] w (cT (.slice A b.length cp) b (aq bS 1 c b) w):=by
 obtain⟨hcode1,hcode2⟩:=hcode
 have hln:(b.length:Int)≤1048576:=by omega
 refine en 197 Tryz.func111 rfl<|sg<|aK mZ fun aQ ey Z F a=>aj 1<|sq<|ax 6<|c0<|bp<|sq<|ak 3<|cV 3 [24] 27 24 (c != 7) (c != 8) (fun K co cq=>?_) ?_
 have ez:=av cq
 exact Pl 3<|ce co _ rfl
 refine Pl 1<|cV 3 [28] 31 28 ((c != 7)&&(c != 8)) (c != 11) (fun K cr aS=>?_) ?_
 have ct:=(aR aS).1
 have cv:=(aR aS).2
 have eA:=av ct
 have eB:=av cv
 exact Pl 3<|ce cr _ rfl
 refine Pl 1<|cV 3 [32] 35 32 (((c != 7)&&(c != 8))&&(c != 11)) (c != 12) (fun K cx aT=>?_) ?_
 have aU:=(aR aT).1
 have cy:=(aR aT).2
 have cz:=(aR aU).1
 have cA:=(aR aU).2
 have q19aap:=av cz
 have q19abp:=av cA
 have eC:=av cy
 exact Pl 3<|ce cx _ rfl
 refine Pl 1<|cV 3 [36] 39 36 ((((c != 7)&&(c != 8))&&(c != 11))&&(c != 12)) (c != 17) (fun K cB aZ=>?_) ?_
 have b0:=(aR aZ).1
 have cC:=(aR aZ).2
 have b1:=(aR b0).1
 have cD:=(aR b0).2
 have q21aaa:=(aR b1).1
 have q21aab:=(aR b1).2
 have q21aaap:=av q21aaa
 have q21aabp:=av q21aab
 have q21abp:=av cD
 have eD:=av cC
 exact Pl 3<|ce cB _ rfl
 refine nt<|cb ((((((c != 7)&&(c != 8))&&(c != 11))&&(c != 12))&&(c != 17))) (fun j=>?_) (fun j=>?_)
 have a0:=(aR j).1
 have b2:=(aR j).2
 have a1:=(aR a0).1
 have b3:=(aR a0).2
 have q23aaa:=(aR a1).1
 have q23aab:=(aR a1).2
 have q23aaaa:=(aR q23aaa).1
 have q23aaab:=(aR q23aaa).2
 have q23aaaap:=av q23aaaa
 have q23aaabp:=av q23aaab
 have q23aabp:=av q23aab
 have q23abp:=av b3
 have eF:=av b2
 refine ak 1<|aE F mZ fun eG cE cF=>aj 1<|bh<|bV cE (vI 4)<|?_
 exact dq (by unfold aq bS e8 dv;(try simp only[j,a0,a1,q23aaa,q23aaaa,q23aaab,q23aab,b3,b2,bj,dl,dm,dj,dn,dk,reduceIte,kA,kC])<;>rfl) (bu (ud a cF Z))
 refine bp<|ak 2<|L0<|dK #[.slice A b.length cp,vI 0,.bool false,vI 0] fun r eI g y i=>Pl 1<|aL 2<|aK mZ fun G eJ d a2 cG=>aE a2 (mC c) fun b4 H a3=>?_
 refine nt<|?_
 have b5:=ud cG a3 d
 have R:=aM i b5
 have z:=aM a R
 have I:RC w _ A cp b b4 r (al.mk b false 0):=⟨hsl,z,(Nat.le_trans a.size g),⟨0,(ub b5 y),Nat.zero_le _,rfl⟩,by omega⟩
 refine x8 (fun x=>[(6,vP aQ 0),(7,vI 0),(8,vP r 0),(9,vP G 0)]) (fun(x:al × Array Value × bg) w'=>aD [r,G] b4 w'∧RC w m A cp b w' r x.1∧w'.heap[G]? = some (.cells x.2.1 45 (0,0))∧bG (.slice A b.length cp) b w' x.2.1.toList x.2.2∧(aq bS 1 c b=bA x.2.2 x.1)) ?_ ?_
 rintro⟨C,cs,M⟩ a4 ⟨b7,cH,cI,cJ,cK⟩
 refine eH [(6,vP aQ 0),(7,vI 0),(8,vP r 0),(9,vP G 0)] ?_
 have b8:RC w m A cp b a4 r C:=cH
 have cM:a4.heap[G]? = some (.cells cs 45 (0,0)):=cI
 have S:bG (.slice A b.length cp) b a4 cs.toList M:=cJ
 have a5:=bG.size S
 have b9:aq bS 1 c b=bA M C:=cK
 refine ak 1<|az<|m2 (lZ b8) fun eK a6 a7=>nt<|sq<|ak 3<|L0<|dX (p:=⟨r,3,none⟩) (v:=vI C.endC.e) (RC.fld a6)<|aj 1<|?_
 have a8:=u1 b7 a7 im
 have ba:=ut z a8 (ac (ni a.size g) (ac (ni (le a.size i.size) d) aA))
 refine cb ((C.endC.e != 0)) (fun a9=>?_) (fun a9=>?_)
 have ab:=av a9
 refine sq<|Rg 7 (fun w'=>w'.cell? ⟨r,3,none⟩=some (vI C.endC.e)) fun eL T=>?_
 have bb:=RC.upd a6 T ay (aD.step (RC.u a6) T)
 refine bB (RC.fld bb) fun J=>Rt 0 J<|Rt 1 J<|Rt 2 J<|Rt 3 J<|Rl 4 J (fun _ hs=>hs)<|?_
 refine R0 5 rfl<|iX (ub (ut R (aM a8 T) (ac (nr g) (ac (ni i.size d) aA))) F) mZ fun eM cN bc=>?_
 have bd:=ud ba (uz T bc) Z
 refine bB (RC.fld (RC.upd bb bc (aa (Ne.symm (nb (ag F) lr g)) ay) bd)) fun cP=>Rt 6 cP<|re<|tn<|bh<|bV cN (vI C.endC.e)<|?_
 rw[b9]
 exact cL ab bd
 have ab:=aJ a9
 refine bp<|sg<|?_
 refine L0<|cO (hz:=(by rw[a5];exact be)) (aY a7 (Ne.symm (nb (ag y) lr d)) cM)<|?_
 refine aE (hz:=(by rw[a5];exact be)) (hv:=(bG.size S)) (h1:=(bG.one S hsl)) (ub (ut R a8 (ac (nr g) (ac (ni i.size d) aA))) F) (cs) fun eN cQ bf=>aj 1<|rt<|eW 22 a5 cQ (vI 0)<|?_
 rw[b9]
 exact dg ab (bG.upd S (us a7 bf) (ah (RC.safe b8 _ (by decide)) (ah (aW (ub (ut R b7 (ac (nr g) (ac (ni i.size d) aA))) F) (by decide)) aC))) (ud ba bf Z)
 refine bk<|ax 3<|cb ((c==8)) (fun o=>?_) (fun o=>?_)
 have cR:=am o
 refine ak 1<|az<|m3 (cw I) fun eO cS U eP=>Pl 1<|?_
 have s:=nb (ag y) lr d
 refine L0<|bI (aY U (Ne.symm s) H) 8 (mG c 0 0 0 0 0 0 0 ((al.mk b false 0).wordV) 0 0 0 nS nS nS nS 0 0 0 0 0 nS) fun cU ad ae=>aL 1<|aH ad 8<|az<|m1 (BG (x:=(al.mk b false 0).wordV) (w:=cU) (by omega)) fun eQ L=>Pl 1<|aL 3<|cu 8 [72] 80 (((ed ((al.mk b false 0).wordV))&&(((al.mk b false 0).wordV)!=4))) (fun K bi=>?_) ?_
 refine bl 72 ((ed ((al.mk b false 0).wordV))) (fun af=>?_) (fun af=>?_)
 refine Pl 1<|?_
 refine L1<|dp (ub L ad) 8<|Pl 2<|cu 3 [76] 79 ((((al.mk b false 0).wordV)!=4)) (fun K bm=>?_) ?_
 refine bl 76 ((((al.mk b false 0).wordV)!=4)) (fun N=>?_) (fun N=>?_)
 have cW:=av N
 exact Pl 3<|ce bm true N
 have cW:=aJ N
 exact Pl 3<|ce bm false N
 exact Pl 1<|ce bi (((al.mk b false 0).wordV)!=4) (by rw[af];rfl)
 exact Pl 8<|ce bi false (by rw[af];rfl)
 have bo:=aM ae L
 have an:=us U bo
 have bq:=ut z an (ac (ni a.size g) (ac (ni (le a.size i.size) d) aA))
 refine az<|m2 (aX (((ed ((al.mk b false 0).wordV))&&(((al.mk b false 0).wordV)!=4))) 8 (RC.upd cS bo (aa s ay) bq)) fun eR cX D=>?_
 refine fB cX fun f br O=>?_
 refine nt<|sq<|ak 1<|?_
 have ao:=aY (uz L D) (Ne.symm s) ad
 refine aH ao 8<|aj 1<|?_
 have bs:=ud bq D (le a.size g)
 refine cb ((((al.mk b false 0).wordV)==0)) (fun P=>?_) (fun P=>?_)
 have cY:=am P
 refine ak 1<|az<|m1 (iw O) fun eS V=>?_
 have eT:=RC.clen O
 refine Pl 1<|aL 2<|L0<|Oe (vI (Int.tmod (f.l.length:Int) 2)) (vI ((f.l.length:Int)%2)) (congrArg (Value.int .i64) (Int.tmod_eq_emod_of_nonneg (by omega)))<|Pl 2<|cV 3 [91] 94 91 (((f.l.length:Int)%2)==0) (decide (2≤(f.l.length:Int))) (fun K cZ d0=>?_) ?_
 have eU:=am d0
 exact Pl 3<|ce cZ _ rfl
 refine Pl 1<|cV 3 [95] 98 95 ((((f.l.length:Int)%2)==0)&&(decide (2≤(f.l.length:Int)))) (decide ((f.l.length:Int)≤250)) (fun K d1 bt=>?_) ?_
 have d2:=(aR bt).1
 have d3:=(aR bt).2
 have eV:=am d2
 have eX:=of_decide_eq_true d3
 exact Pl 3<|ce d1 _ rfl
 refine az<|m2 (aX ((((((f.l.length:Int)%2)==0)&&(decide (2≤(f.l.length:Int))))&&(decide ((f.l.length:Int)≤250)))) 5 (RC.upd O V ay (aD.step (RC.u O) V))) fun eY d4 bv=>?_
 refine fB d4 fun ap d5 d6=>?_
 refine aL 2<|L0<|Oe (vI (IntKind.i64.wrap (Int.tdiv (f.l.length:Int) 2))) (vI ((f.l.length:Int)/2)) (congrArg (Value.int .i64) (fJ (by omega) (by omega)))<|az<|kF (fR (n:=((f.l.length:Int)/2)) (by omega) d6) fun d7 d8 eZ bw f0 f1 d9 da=>Pl 1<|?_
 have bz:=uz V (u1 bv da im)
 refine L0<|bI (aY bz (Ne.symm s) ao) 12 (mG c 0 0 0 0 0 0 0 ((al.mk b false 0).wordV) 0 0 0 (.slice d7 ((ap.wordsR ((f.l.length:Int)/2)).length) d8) nS nS nS 0 0 0 0 0 nS) fun f2 db ar=>nt<|xt<|tx<|bx<|?_
 have bC:=us bz ar
 exact jn ((ap.wordsC ((f.l.length:Int)/2)),_,(bg.mk c 0 0 0 0 0 0 0 ((al.mk b false 0).wordV) 0 0 0 (ap.wordsR ((f.l.length:Int)/2)) [] [] [] 0 0 0 0 0 [])) ⟨(ut an (ui D bC) (ac im (ac im aA))),(RC.upd d9 ar (aa s ay) (ut bs bC (ac (ni a.size g) (ac (ni (le a.size i.size) d) aA)))),db,⟨_,_,_,_,_,rfl,((ai bw ar (fun x hx=>(aa (fun e=>(aG (ag a2) (le (le (le (le (le (le a3.size U.size) ae.size) L.size) D.size) V.size) bv.size) bw) (e▸hx)) ay)) (fun _ _ h=>h))).rd,aI.nil ..,(fun _ _ _=>aI.nil ..),aI.nil ..,aI.nil ..,(c8 (by omega))⟩,by subst d5 br;unfold aq bS e8 dv;(try simp only[j,o,P,bj,dl,dm,dj,dn,dk,reduceIte,kA,kC])<;>rfl⟩
 have cY:=au P
 refine bp<|ak 1<|az<|m3 (cw O) fun dd bD aw f3=>Pl 1<|aL 3<|?_
 have bE:=aY aw (Ne.symm s) ao
 refine aH bE 8<|Pl 1<|az<|m1 (Bu (dir:=1) (sub:=(al.mk b false 0).wordV) (v:=f.wordV) (w:=dd) (by omega)) fun f4 W=>?_
 refine az<|m2 (aX ((fO 1 ((al.mk b false 0).wordV) f.wordV)) 6 (RC.upd bD W ay (aD.step (RC.u bD) W))) fun f5 de bF=>?_
 refine fB de fun df dh di=>?_
 refine nt<|go<|Pl 1<|L0<|ep (m:=1) (e:=37) #[vW f.wordV] fun dr f6 ds dt bH=>?_
 have bJ:=xM ds (xs:=[f.wordV]) (by as_aux_lemma=>kernel_rfl) (aV (by omega) dc) (by(try simp only[List.length_cons,List.length_nil]);omega) dt
 refine Pl 1<|?_
 have bK:=uz W (aM bF bH)
 refine L0<|bI (aY bK (Ne.symm s) bE) 12 (mG c 0 0 0 0 0 0 0 ((al.mk b false 0).wordV) 0 0 0 (.slice (some ⟨dr,0,none⟩) 1 1) nS nS nS 0 0 0 0 0 nS) fun f7 du aB=>nl<|bn<|?_
 have bL:=ui aw (us bK aB)
 exact jn (df,_,(bg.mk c 0 0 0 0 0 0 0 ((al.mk b false 0).wordV) 0 0 0 [f.wordV] [] [] [] 0 0 0 0 0 [])) ⟨(ut an (ui D bL) (ac im (ac im aA))),(RC.upd di (uz bH aB) (aa s ay) (ut bs bL (ac (ni a.size g) (ac (ni (le a.size i.size) d) aA)))),du,⟨_,_,_,_,_,rfl,((ai bJ aB (fun x hx=>(aa (fun e=>(aG (ag a2) (le (le (le (le (le (le (le a3.size U.size) ae.size) L.size) D.size) aw.size) W.size) bF.size) bJ) (e▸hx)) ay)) (fun _ _ h=>h))).rd,aI.nil ..,(fun _ _ _=>aI.nil ..),aI.nil ..,aI.nil ..,(c8 (by omega))⟩,by subst dh br;unfold aq bS e8 dv;(try simp only[j,o,P,bj,dl,dm,dj,dn,dk,reduceIte,kA,kC])<;>rfl⟩
 have cR:=au o
 refine ax 3<|c0<|ax 3<|cb ((c==7)) (fun B=>?_) (fun B=>?_)
 have dw:=am B
 refine go<|Pl 1<|az<|m3 (dP I) fun f8 dx bM f9=>L0<|zZ ((al.mk b false 0).byteV)<|Pl 1<|?_
 have bN:=nb (ag y) lr d
 refine L0<|bI (aY bM (Ne.symm bN) H) 4 (mG c 0 0 0 ((al.mk b false 0).byteV) 0 0 0 0 0 0 0 nS nS nS nS 0 0 0 0 0 nS) fun fa dy bO=>nl<|bn<|?_
 have bP:=us bM bO
 exact jn (((al.mk b false 0).bytesC 1),_,(bg.mk c 0 0 0 ((al.mk b false 0).byteV) 0 0 0 0 0 0 0 [] [] [] [] 0 0 0 0 0 [])) ⟨bP,(RC.upd dx bO (aa bN ay) (ut z bP (ac (ni a.size g) (ac (ni (le a.size i.size) d) aA)))),dy,⟨_,_,_,_,_,rfl,aI.nil ..,aI.nil ..,(fun _ _ _=>aI.nil ..),aI.nil ..,aI.nil ..,(c8 (by omega))⟩,by unfold aq bS e8 dv;(try simp only[j,o,B,bj,dl,dm,dj,dn,dk,reduceIte,kA,kC])<;>rfl⟩
 have dw:=au B
 refine ax 3<|cb ((c==11)) (fun E=>?_) (fun E=>?_)
 have dz:=am E
 refine ak 1<|az<|m3 (cw I) fun fb dA bQ fc=>Pl 1<|?_
 have X:=nb (ag y) lr d
 refine L0<|bI (aY bQ (Ne.symm X) H) 9 (mG c 0 0 0 0 0 0 0 0 ((al.mk b false 0).wordV) 0 0 nS nS nS nS 0 0 0 0 0 nS) fun fd aF bR=>aL 2<|aH aF 9<|Pl 2<|eE 4 [137] 141 137 (((al.mk b false 0).wordV)==0) (((al.mk b false 0).wordV)==65535) (fun K dB dC=>?_) ?_
 have fe:=au dC
 exact Pl 1<|L1<|dp aF 9<|Pl 2<|ce dB _ rfl
 have bT:=us bQ bR
 have bU:=ut z bT (ac (ni a.size g) (ac (ni (le a.size i.size) d) aA))
 refine az<|m2 (aX (((((al.mk b false 0).wordV)==0)||(((al.mk b false 0).wordV)==65535))) 6 (RC.upd dA bR (aa X ay) bU)) fun ff dD dE=>?_
 refine fB dD fun aN dF dG=>?_
 refine nt<|go<|Pl 1<|az<|m3 (cw dG) fun fg dH dI fh=>Pl 1<|?_
 have bW:=u1 dE dI im
 refine L0<|bI (aY bW (Ne.symm X) aF) 10 (mG c 0 0 0 0 0 0 0 0 ((al.mk b false 0).wordV) aN.wordV 0 nS nS nS nS 0 0 0 0 0 nS) fun fi dJ bX=>nl<|bn<|?_
 have bY:=us bW bX
 exact jn ((aN.wordsC 1),_,(bg.mk c 0 0 0 0 0 0 0 0 ((al.mk b false 0).wordV) aN.wordV 0 [] [] [] [] 0 0 0 0 0 [])) ⟨(ut bT bY (ac im (ac im aA))),(RC.upd dH bX (aa X ay) (ut bU bY (ac (ni a.size g) (ac (ni (le a.size i.size) d) aA)))),dJ,⟨_,_,_,_,_,rfl,aI.nil ..,aI.nil ..,(fun _ _ _=>aI.nil ..),aI.nil ..,aI.nil ..,(c8 (by omega))⟩,by subst dF;unfold aq bS e8 dv;(try simp only[j,o,B,E,bj,dl,dm,dj,dn,dk,reduceIte,kA,kC])<;>rfl⟩
 have dz:=au E
 refine ax 3<|cb ((c==12)) (fun Q=>?_) (fun Q=>?_)
 have dL:=am Q
 refine ak 1<|az<|m3 (dP I) fun fj dM dN fk=>b6 ((al.mk b false 0).byteV)<|Pl 1<|aL 4<|cV 3 [155] 158 155 (decide (6≤((al.mk b false 0).byteV))) (decide (((al.mk b false 0).byteV)≤70)) (fun K dO dQ=>?_) ?_
 have fl:=of_decide_eq_true dQ
 exact Pl 3<|ce dO _ rfl
 refine az<|m2 (aX (((decide (6≤((al.mk b false 0).byteV)))&&(decide (((al.mk b false 0).byteV)≤70)))) 5 dM) fun fm dR dS=>?_
 refine fB dR fun q dT dU=>?_
 refine aL 1<|az<|m3 (cw dU) fun fn dV dW fo=>Pl 1<|?_
 have bZ:=u1 dN (u1 dS dW im) im
 have t:=nb (ag y) lr d
 refine L0<|bI (aY bZ (Ne.symm t) H) 9 (mG c 0 0 0 0 0 0 0 0 q.wordV 0 0 nS nS nS nS 0 0 0 0 0 nS) fun fp aP c1=>aL 2<|aH aP 9<|Pl 2<|eE 4 [167] 171 167 (q.wordV==0) (q.wordV==65535) (fun K dY dZ=>?_) ?_
 have fq:=au dZ
 exact Pl 1<|L1<|dp aP 9<|Pl 2<|ce dY _ rfl
 have c2:=us bZ c1
 have c3:=ut z c2 (ac (ni a.size g) (ac (ni (le a.size i.size) d) aA))
 refine az<|m2 (aX (((q.wordV==0)||(q.wordV==65535))) 6 (RC.upd dV c1 (aa t ay) c3)) fun fr e0 e1=>?_
 refine fB e0 fun k e2 e3=>?_
 refine aL 1<|az<|m3 (cw e3) fun fs e4 e5 ft=>Pl 1<|?_
 have c4:=u1 e1 e5 im
 refine L0<|bI (aY c4 (Ne.symm t) aP) 10 (mG c 0 0 0 0 0 0 0 0 q.wordV k.wordV 0 nS nS nS nS 0 0 0 0 0 nS) fun fu e6 c5=>aL 1<|?_
 have c6:=us c4 c5
 have c7:=ut c3 c6 (ac (ni a.size g) (ac (ni (le a.size i.size) d) aA))
 refine az<|m3 (cw (RC.upd e4 c5 (aa t ay) c7)) fun fv e7 c9 fx=>Pl 1<|?_
 refine L0<|bI (aY c9 (Ne.symm t) e6) 11 (mG c 0 0 0 0 0 0 0 0 q.wordV k.wordV ((k.wordsC 1).wordV) nS nS nS nS 0 0 0 0 0 nS) fun fy e9 ca=>nt<|go<|Pl 2<|b6 (((al.mk b false 0).byteV)-6)<|?_
 have cc:=us c9 ca
 have cd:=ut c7 cc (ac (ni a.size g) (ac (ni (le a.size i.size) d) aA))
 have cf:=RC.upd e7 ca (aa t ay) cd
 refine az<|pK (fw (n:=(((al.mk b false 0).byteV)-6)) (by omega) cf) fun ea eb fz ec ee cg=>?_
 have fA:=Nat.le_trans (al.bytesR_le ((k.wordsC 1).wordsC 1) (((al.mk b false 0).byteV)-6)) (RC.clen cf)
 refine fB ee fun ef eg eh=>?_
 refine Pl 1<|?_
 refine L0<|bI (aY cg (Ne.symm t) e9) 14 (mG c 0 0 0 0 0 0 0 0 q.wordV k.wordV ((k.wordsC 1).wordV) nS nS (.slice ea ((((k.wordsC 1).wordsC 1).bytesR (((al.mk b false 0).byteV)-6)).length) eb) nS 0 0 0 0 0 nS) fun fC ei ch=>nl<|bn<|?_
 have ci:=us cg ch
 exact jn (ef,_,(bg.mk c 0 0 0 0 0 0 0 0 q.wordV k.wordV ((k.wordsC 1).wordV) [] [] (((k.wordsC 1).wordsC 1).bytesR (((al.mk b false 0).byteV)-6)) [] 0 0 0 0 0 [])) ⟨(ut c2 (ut c6 (ut cc ci (ac im (ac im aA))) (ac im (ac im aA))) (ac im (ac im aA))),(RC.upd eh ch (aa t ay) (ut cd ci (ac (ni a.size g) (ac (ni (le a.size i.size) d) aA)))),ei,⟨_,_,_,_,_,rfl,aI.nil ..,aI.nil ..,ec,aI.nil ..,aI.nil ..,(c8 (by omega))⟩,by subst eg e2 dT;unfold aq bS e8 dv;(try simp only[j,o,B,E,Q,bj,dl,dm,dj,dn,dk,reduceIte,kA,kC])<;>rfl⟩
 have dL:=au Q
 refine ak 1<|az<|m3 (dP I) fun fD ej ek fE=>b6 ((al.mk b false 0).byteV)<|Pl 1<|aL 4<|cV 3 [52] 55 52 (decide (1≤((al.mk b false 0).byteV))) (decide (((al.mk b false 0).byteV)≤251)) (fun K el em=>?_) ?_
 have fF:=of_decide_eq_true em
 exact Pl 3<|ce el _ rfl
 refine az<|m2 (aX (((decide (1≤((al.mk b false 0).byteV)))&&(decide (((al.mk b false 0).byteV)≤251)))) 5 ej) fun fG eo eq=>?_
 refine fB eo fun Y er cj=>?_
 refine nt<|go<|Pl 2<|az<|pK (fw (n:=(al.mk b false 0).byteV) (by omega) cj) fun es et fH eu ev ew=>?_
 have fI:=Nat.le_trans (al.bytesR_le Y ((al.mk b false 0).byteV)) (RC.clen cj)
 refine Pl 1<|?_
 have ck:=u1 ek (u1 eq ew im) im
 have cl:=nb (ag y) lr d
 refine L0<|bI (aY ck (Ne.symm cl) H) 14 (mG c 0 0 0 0 0 0 0 0 0 0 0 nS nS (.slice es ((Y.bytesR ((al.mk b false 0).byteV)).length) et) nS 0 0 0 0 0 nS) fun fK ex cm=>nl<|bn<|?_
 have cn:=us ck cm
 exact jn ((Y.bytesC ((al.mk b false 0).byteV)),_,(bg.mk c 0 0 0 0 0 0 0 0 0 0 0 [] [] (Y.bytesR ((al.mk b false 0).byteV)) [] 0 0 0 0 0 [])) ⟨cn,(RC.upd ev cm (aa cl ay) (ut z cn (ac (ni a.size g) (ac (ni (le a.size i.size) d) aA)))),ex,⟨_,_,_,_,_,rfl,aI.nil ..,aI.nil ..,eu,aI.nil ..,aI.nil ..,(c8 (by omega))⟩,by subst er;unfold aq bS e8 dv;(try simp only[j,o,B,E,Q,bj,dl,dm,dj,dn,dk,reduceIte,kA,kC])<;>rfl⟩
variable {dir:Int}
theorem lO(hcode:B8 c)(hsl:aO m w (.slice A b.length cp) b)(hb:b.length≤1048576)(hd:¬ (dir=0∨dir=1)) :
    Calls Tryz.prog 111 #[vI dir,vB c,.slice A b.length cp] w (cT (.slice A b.length cp) b (aq bS dir c b) w):=by
 obtain⟨hcode1,hcode2⟩:=hcode
 have hln:(b.length:Int)≤1048576:=by omega
 have e0:(dir != 0)=true:=by simp;omega
 have e1:(dir != 1)=true:=by simp;omega
 refine en 197 Tryz.func111 rfl<|sg<|aK mZ fun g h a d e=>aj 1<|sq<|ak 3<|sy 17 e0<|Pl 3<|nl<|tn<|ct e1<|ak 1<|aE d mZ fun i ej f=>aj 1<|bh<|bV ej (vI 1)<|?_
 exact dq (by unfold aq bS e8 dv;(try simp only[e0,e1,bj,dl,dm,dj,dn,dk,reduceIte,hd,kA,kC])<;>rfl) (bu (ud e f a))
open Go.RowKit
variable {ok:Bool}{x:Int}
theorem dW(h:C.e≠0) : C.need ok x=C:=by
  unfold al.need
  rw[if_neg fun k=>h k.1]
variable {n:Int}
theorem eV(h:C.fails n=true) : (C.bytesC n).e≠0:=by
  unfold al.bytesC
  rw[if_pos h]
  unfold al.need
  split
  · exact(show(2:Int)≠0 from by decide)
  · rename_i k
    intro e
    exact k ⟨e,rfl⟩
theorem nI(h:(C.wordsR 1).length≠1) : (C.wordsC 1).e≠0:=by
  unfold al.wordsR at h
  unfold al.wordsC
  split
  · exact eV (by unfold al.fails;simp)
  · rename_i hb
    rw[if_neg hb] at h
    by_cases hf:C.fails (2*1)=true
    · exact eV hf
    · exfalso
      apply h
      unfold al.bytesR
      rw[if_neg hf]
      unfold al.fails at hf
      simp only[Bool.or_eq_true,decide_eq_true_eq,not_or] at hf
      rcases e:C.l with _|⟨a,_|⟨b,t⟩⟩
      · rw[e] at hf;simp at hf
      · rw[e] at hf;simp at hf
      · show(c6 [a,b]).length=1
        unfold c6
        rw[if_pos (by simp)]
        simp[cK]
theorem q9(h:(C.wordsR 1).length=1) : [C.wordV]=C.wordsR 1:=by
  unfold al.wordV
  rcases e:C.wordsR 1 with _|⟨a,_|⟨b,t⟩⟩
  · rw[e] at h;simp at h
  · rfl
  · rw[e] at h;simp at h
variable {M:bg}
theorem uf{M':bg}  (h:C.e≠0) : bA M C=bA M' C:=by
  unfold bA
  have e:C.endC.e≠0:=by unfold al.endC;rw[dW h];exact h
  rw[if_neg e,if_neg e]
theorem sW(dir:Int)(C:al) : eO dir C=fh dir C:=by
  unfold eO fh
  rw[Bool.or_comm]
theorem td(dir c:Int)(C:al) : bA (e8 dir c C).2 (e8 dir c C).1=bA (fx dir c C).2 (fx dir c C).1:=by
  unfold e8 fx
  rw[sW]
  by_cases h0:C.wordV=0
  · rw[h0,if_pos (show((0:Int)==0)=true from rfl),if_neg (show ¬ ((0:Int)!=0)=true from by decide)]
  · rw[if_neg (by simpa using h0),if_pos (by simpa using h0)]
    by_cases h1:((fh dir C).wordsR 1).length=1
    · rw[q9 h1,show((((fh dir C).wordsR 1).length:Int)==1)=true from by rw[h1];rfl,Bool.true_and]
      rfl
    · have k:=nI h1
      dsimp only
      rw[dW k,dW k]
      exact uf k
theorem md{f f':Int→Int→al→Option (al × bg)}   (h:∀ C,(dir=0∨dir=1)→(f dir c C=none∧f' dir c C=none)∨∃ r r',f dir c C=some r∧f' dir c C=some r'∧bA r.2 r.1=bA r'.2 r'.1) : aq f dir c b=aq f' dir c b:=by
  unfold aq
  split
  · rename_i hd
    rcases h ⟨b,false,0⟩ hd with⟨h1,h2⟩|⟨r,r',h1,h2,h3⟩
    · rw[h1,h2]
    · rw[h1,h2];exact h3
  · rfl
theorem ns(dir c:Int)(b:List Int) : aq bS dir c b=aq bv dir c b:=by
  refine md fun C hd=>?_
  unfold bS bv
  by_cases h8:c=8
  · subst h8
    exact .inr ⟨_,_,rfl,rfl,td dir 8 C⟩
  · by_cases h:c=7∨c=11∨c=12∨c=17
    · refine .inr ?_
      rw[if_neg (show ¬ (((((c != 7)&&(c != 8))&&(c != 11))&&(c != 12))&&(c != 17))=true from by rcases h with rfl | rfl | rfl | rfl<;>decide),if_neg (show ¬ (c==8)=true from by simpa using h8),if_neg (show ¬ (c==8)=true from by simpa using h8),if_pos (show(c==7 || c==11 || c==12 || c==17)=true from by rcases h with rfl | rfl | rfl | rfl<;>decide)]
      rcases hd with rfl|rfl
      · exact⟨_,_,rfl,rfl,rfl⟩
      · refine⟨_,_,rfl,rfl,?_⟩
        rcases h with rfl|rfl|rfl|rfl<;>rfl
    · refine .inl ?_
      rw[if_pos (show(((((c != 7)&&(c != 8))&&(c != 11))&&(c != 12))&&(c != 17))=true from by simp;omega),if_neg (show ¬ (c==8)=true from by simpa using h8),if_neg (show ¬ (c==7 || c==11 || c==12 || c==17)=true from by simp;omega)]
      exact⟨rfl,rfl⟩
end Go.Proofs.YtdkhbcefkfgbdaaGreat
namespace Go.Proofs.YtdkhbcefkfgbdaaGreat
def iA (C:al) : Prop:=∀ x,x∈C.l→0≤x∧x<256
variable {C:al}{ok:Bool}{x:Int}
theorem rB(hx:x≠0)(h:(C.need ok x).e=0) : C.e=0∧ok=true:=by
  unfold al.need at h
  split at h
  · exact absurd h hx
  · rename_i hh
    refine⟨h,?_⟩
    cases ok
    · exact absurd ⟨h,rfl⟩ hh
    · rfl
variable {n:Int}
theorem mP(h:(C.bytesC n).e=0) : C.e=0∧C.l=C.bytesR n++(C.bytesC n).l∧((C.bytesR n).length:Int)=n:=by
  unfold al.bytesC at h ⊢
  unfold al.bytesR
  split at h
  · exfalso
    unfold al.need at h
    split at h
    · cases h
    · rename_i hh
      exact hh ⟨h,rfl⟩
  · rename_i hf
    rw[if_neg hf,if_neg hf]
    refine⟨h,(List.take_append_drop _ _).symm,?_⟩
    unfold al.fails at hf
    simp only[Bool.or_eq_true,decide_eq_true_eq,not_or] at hf
    rw[List.length_take]
    omega
theorem l8:∀ (l:List Int),l.length%2=0→(∀ x,x∈l→0≤x∧x<256)→r8 (cK l)=l
  | [],_,_=>rfl
  | [_],h,_=>by simp at h
  | a :: b :: r,h,hr=>by
    have ha:=hr a (by simp)
    have hb:=hr b (by simp)
    simp only[cK,r8]
    rw[l8 r (by simp at h;omega) (fun x hx=>hr x (by simp[hx]))]
    congr 1
    · omega
    · congr 1
      omega
theorem zn(hr:iA C)(h:(C.wordsC n).e=0) : C.e=0∧C.l=r8 (C.wordsR n)++(C.wordsC n).l∧((C.wordsR n).length:Int)=n:=by
  unfold al.wordsC at h ⊢
  unfold al.wordsR
  split at h
  · obtain⟨_,_,h3⟩:=mP h
    omega
  · rename_i hb
    rw[if_neg hb,if_neg hb]
    obtain⟨h1,h2,h3⟩:=mP h
    have h4:(C.bytesR (2*n)).length%2=0:=by omega
    have h5:∀ x,x∈C.bytesR (2*n)→0≤x∧x<256:=fun x hx=>hr x (by rw[h2];exact List.mem_append_left _ hx)
    unfold c6
    rw[if_pos h4]
    refine⟨h1,by rw[l8 _ h4 h5];exact h2,?_⟩
    rw[fj]
    omega
def ll (C:al)(l:List Int)(C':al) : Prop:=iA C→iA C'∧(C'.e=0→C.e=0∧C.l=l++C'.l)
variable {l:List Int}
theorem ll.trans{A B:al}{m:List Int}(h:ll A l B)(k:ll B m C) : ll A (l++m) C:=fun hr=>by
  obtain⟨h1,h2⟩:=h hr
  obtain⟨k1,k2⟩:=k h1
  refine⟨k1,fun he=>?_⟩
  obtain⟨k3,k4⟩:=k2 he
  obtain⟨h3,h4⟩:=h2 k3
  exact⟨h3,by rw[h4,k4,List.append_assoc]⟩
theorem ll.refl(C:al) : ll C [] C:=fun hr=>⟨hr,fun he=>⟨he,rfl⟩⟩
theorem ll.need{A:al}    (h:ll A l C)(hx:x≠0:=by decide) : ll A l (C.need ok x):=fun hr=>by
  obtain⟨h1,h2⟩:=h hr
  refine⟨fun y hy=>h1 y (by rwa [kN] at hy),fun he=>?_⟩
  rw[kN]
  exact h2 (rB hx he).1
theorem ll.bytes{A:al}  (h:ll A l C)(n:Int) : ll A (l++C.bytesR n) (C.bytesC n):=h.trans fun hr=>⟨gj hr n,fun he=>⟨(mP he).1,(mP he).2.1⟩⟩
theorem ll.words{A:al}  (h:ll A l C)(n:Int) : ll A (l++r8 (C.wordsR n)) (C.wordsC n):=h.trans fun hr=>⟨ck hr n,fun he=>⟨(zn hr he).1,(zn hr he).2.1⟩⟩
theorem zD(h:(l.length:Int)=1) : l=[l.getD 0 0]:=by
  match l,h with
  | [a],_=>rfl
  | [],h=>simp at h
  | _ :: _ :: _,h=>simp at h;omega
theorem ll.byte{A:al}  (h:ll A l C) : ll A (l++[C.byteV]) (C.bytesC 1):=h.trans fun hr=>⟨gj hr 1,fun he=>by
  obtain⟨h1,h2,h3⟩:=mP he
  refine⟨h1,?_⟩
  have:=zD h3
  show C.l=[(C.bytesR 1).getD 0 0]++_
  rw[← this]
  exact h2⟩
theorem ll.fin{A:al}  (h:ll A l C)(hr:iA A)(he:C.endC.e=0) : C.e=0∧A.l=l:=by
  unfold al.endC at he
  obtain⟨h1,h2⟩:=rB (by decide) he
  obtain⟨_,h3⟩:=(h hr).2 h1
  have:C.l=[]:=by
    simp only[beq_iff_eq] at h2
    exact List.eq_nil_of_length_eq_zero (by omega)
  exact⟨h1,by rw[h3,this,List.append_nil]⟩
theorem iK(hr:iA C) : 0≤C.byteV∧C.byteV<256:=by
  unfold al.byteV
  rw[List.getD_eq_getElem?_getD]
  cases h:(C.bytesR 1)[0]? with
  | none=>simp
  | some x =>
    have hm:x∈C.bytesR 1:=List.mem_of_getElem? h
    have:x∈C.l:=by
      unfold al.bytesR at hm
      split at hm
      · cases hm
      · exact List.mem_of_mem_take hm
    exact hr x this
theorem yu:∀ n:Nat,n<256→(((if ((n:Int)/2 ^ 0%2==1) then 1 else 0)+(if ((n:Int)/2 ^ 1%2==1) then 2 else 0)+(if ((n:Int)/2 ^ 2%2==1) then 4 else 0)+(if ((n:Int)/2 ^ 3%2==1) then 8 else 0)+(if ((n:Int)/2 ^ 4%2==1) then 16 else 0)+(if ((n:Int)/2 ^ 5%2==1) then 32 else 0)+(if ((n:Int)/2 ^ 6%2==1) then 64 else 0)+(if ((n:Int)/2 ^ 7%2==1) then 128 else 0) : Nat) : Int)=n:=by decide +kernel
theorem mc(hx:0≤x∧x<256)(f:Nat→Bool)(hf:∀ i,i<8→f i=(x/2 ^ i%2==1)) :
    (((if f 0 then 1 else 0)+(if f 1 then 2 else 0)+(if f 2 then 4 else 0)+(if f 3 then 8 else 0)+(if f 4 then 16 else 0)+(if f 5 then 32 else 0)+(if f 6 then 64 else 0)+(if f 7 then 128 else 0) : Nat) : Int)=x:=by
  rw[hf 0 (by decide),hf 1 (by decide),hf 2 (by decide),hf 3 (by decide),hf 4 (by decide),hf 5 (by decide),hf 6 (by decide),hf 7 (by decide)]
  obtain⟨n,rfl⟩:=Int.eq_ofNat_of_zero_le hx.1
  exact yu n (by omega)
variable {b:List Int}
theorem pf{l:List Bool}(hr:∀ x,x∈b→0≤x∧x<256)(h:cc b n=some l) : dN l=b:=by
  unfold cc at h
  split at h
  · rename_i hc
    split at h
    · rename_i hall
      injection h with h
      subst h
      have hlen:((List.range n.toNat).map (bY b)).length=n.toNat:=by simp
      have hm:((List.range n.toNat).map (bY b)).length=n:=by rw[hlen];omega
      unfold dN
      rw[hm,← hc.2]
      apply List.ext_getElem
      · simp
      intro j h1 h2
      simp only[List.getElem_map,List.getElem_range]
      have hj:j<b.length:=h2
      have hget:∀ i,i<8*b.length→((List.range n.toNat).map (bY b)).getD i false=bY b i:=fun i hi=>by
        rw[List.getD_eq_getElem?_getD,List.getElem?_map]
        by_cases hin:i<n.toNat
        · rw[List.getElem?_range hin];rfl
        · rw[List.getElem?_eq_none (by simpa using hin)]
          rw[List.all_eq_true] at hall
          have:=hall i (by simpa using hi)
          simp only[Bool.or_eq_true,decide_eq_true_eq,Bool.not_eq_true'] at this
          rcases this with h3|h3
          · omega
          · simp[h3]
      have hx:∀ k,k<8→bY b (8*j+k)=(b[j]/2 ^ k%2==1):=fun k hk=>by
        unfold bY
        rw[show(8*j+k)/8=j from by omega,show(8*j+k)%8=k from by omega,List.getD_eq_getElem?_getD,List.getElem?_eq_getElem hj]
        rfl
      unfold cE
      rw[show(8*j:Nat)=8*j+0 from rfl]
      simp only[hget _ (show 8*j+0<8*b.length by omega),hget _ (show 8*j+0+1<8*b.length by omega),hget _ (show 8*j+0+2<8*b.length by omega),hget _ (show 8*j+0+3<8*b.length by omega),hget _ (show 8*j+0+4<8*b.length by omega),hget _ (show 8*j+0+5<8*b.length by omega),hget _ (show 8*j+0+6<8*b.length by omega),hget _ (show 8*j+0+7<8*b.length by omega)]
      exact mc (hr _ (List.getElem_mem hj)) (fun k=>bY b (8*j+k)) hx
    · cases h
  · cases h
end Go.Proofs.YtdkhbcefkfgbdaaGreat
namespace Go.Proofs.YtdkhbcefkfgbdaaGreat
end Go.Proofs.YtdkhbcefkfgbdaaGreat
namespace Go.Proofs.YtdkhbcefkfgbdaaGreat
variable {C:al}{l:List Int}
theorem ll.conv{A:al}{l':List Int}(h:ll A l C)(k:iA A→iA C→C.e=0→l=l') : ll A l' C:=fun hr=>by
  obtain⟨h1,h2⟩:=h hr
  refine⟨h1,fun he=>?_⟩
  rw[← k hr h1 he]
  exact h2 he
end Go.Proofs.YtdkhbcefkfgbdaaGreat
namespace Go.Proofs.YtdkhbcefkfgbdaaGreat
def Sh (C C':al) : Prop:=C'.l.length≤C.l.length
theorem Sh.refl(C:al) : Sh C C:=Nat.le_refl _
variable {C:al}{n:Int}
theorem Sh.bytes{A:al}(h:Sh A C)  : Sh A (C.bytesC n):=Nat.le_trans (iT C n) h
theorem Sh.words{A:al}(h:Sh A C)  : Sh A (C.wordsC n):=Nat.le_trans (eK C n) h
theorem Sh.need{A:al}(h:Sh A C){b:Bool}{e:Int}:Sh A (C.need b e):=by unfold Sh;rw[ey];exact h
open Go.RowKit
theorem nT:eF n=if n<1 then 0 else n/8+(if 0<n%8 then 1 else 0):=by
  unfold eF
  split
  · rfl
  · split<;>omega
theorem lq(l:List Bool)(j:Nat) : cE (l.take (8*j)) j=0:=by
  have h:=tG l (8*j)
  rw[show 8*j/8=j from by omega,show 8*j%8=0 from by omega] at h
  omega
variable {j t:Nat}
theorem jP{l:List Bool}  (ht:t<8) : cE (l.take (8*j+t+1)) j=cE (l.take (8*j+t)) j+if l.getD (8*j+t) false=true then 2 ^ t else 0:=by
  rw[pj,show(8*j+t)/8=j from by omega,show(8*j+t)%8=t from by omega]
  simp
theorem tu{l:List Bool}  (h:t=8∨l.length≤8*j+t) : cE (l.take (8*j+t)) j=cE l j:=by
  rcases h with rfl|h
  · unfold cE
    simp only[ii]
    simp
  · rw[List.take_of_length_le h]
theorem vA{l:List Bool}  (h1:l.length≤8*j)(h2:8*j<l.length+8) : (List.range j).map (fun i=>(cE l i:Int))=dN l:=by
  unfold dN
  rw[show(eF l.length).toNat=j from by unfold eF;split<;>omega]
theorem tY(l:List Bool) : ((dN l).length:Int)=eF l.length:=by
  unfold dN
  rw[List.length_map,List.length_range]
  unfold eF
  split<;>omega
theorem CD:∀ x0 x1 x2 x3 x4 x5 x6 x7:Bool,∀ t:Fin 8,(((((if x0=true then 1 else 0)+(if x1=true then 2 else 0)+(if x2=true then 4 else 0)+(if x3=true then 8 else 0)+(if x4=true then 16 else 0)+(if x5=true then 32 else 0)+(if x6=true then 64 else 0)+(if x7=true then 128 else 0) : Nat) : Int)/2 ^ t.val%2==1)=[x0,x1,x2,x3,x4,x5,x6,x7].getD t.val false):=by decide +kernel
theorem Aq{l:List Bool}  (ht:t<8) : ((cE l j:Int)/2 ^ t%2==1)=l.getD (8*j+t) false:=by
  have h:=CD (l.getD (8*j) false) (l.getD (8*j+1) false) (l.getD (8*j+2) false) (l.getD (8*j+3) false) (l.getD (8*j+4) false) (l.getD (8*j+5) false) (l.getD (8*j+6) false) (l.getD (8*j+7) false) ⟨t,ht⟩
  refine h.trans ?_
  rcases t with _|_|_|_|_|_|_|_|t
  case succ.succ.succ.succ.succ.succ.succ.succ=>omega
  all_goals rfl
theorem pl(l:List Bool) : cc (dN l) (l.length:Int)=some ((List.range l.length).map (bY (dN l))):=by
  have hl:=tY l
  unfold cc
  rw[if_pos ⟨by omega,hl⟩,if_pos,show((l.length:Int)).toNat=l.length from by omega]
  rw[List.all_eq_true]
  intro i hi
  have hi:i<8*(dN l).length:=by simpa using hi
  simp only[Bool.or_eq_true,decide_eq_true_eq,Bool.not_eq_true']
  by_cases h:(i:Int)<l.length
  · exact .inl h
  · refine .inr ?_
    have hj:i/8<(dN l).length:=by omega
    unfold bY
    have e:(dN l).getD (i/8) 0=(cE l (i/8) : Int):=by
      have hj2:i/8<(eF (l.length:Int)).toNat:=by omega
      unfold dN
      rw[List.getD_eq_getElem?_getD,List.getElem?_map,List.getElem?_range hj2]
      rfl
    rw[e,Aq (Nat.mod_lt _ (by decide)),show 8*(i/8)+i%8=i from by omega,List.getD_eq_getElem?_getD,List.getElem?_eq_none (by omega)]
    rfl
variable {b:List Int}
theorem p7(hr:∀ x,x∈b→0≤x∧x<256)(h0:0≤n) : cc b n=if dN ((List.range n.toNat).map (bY b))=b then some ((List.range n.toNat).map (bY b)) else none:=by
  by_cases h:dN ((List.range n.toNat).map (bY b))=b
  · rw[if_pos h]
    have k:=pl ((List.range n.toNat).map (bY b))
    rw[h,List.length_map,List.length_range,show((n.toNat:Nat) : Int)=n from by omega] at k
    exact k
  · rw[if_neg h]
    cases e:cc b n with
    | none=>rfl
    | some l =>
      exfalso
      have k:=pf hr e
      unfold cc at e
      split at e
      · split at e
        · injection e with e;rw[e] at h;exact h k
        · cases e
      · cases e
open Go.RowKit
variable {w:World}
theorem Bv(hn : -1048576≤n∧n≤1048576) : Calls Tryz.prog 171 #[vI n] w (bD (vI (eF n)) w):=by
 refine en 14 Tryz.func171 rfl<|ax 1<|sq<|ax 2<|cb ((decide (n<1))) (fun a=>?_) (fun a=>?_)
 have c:=of_decide_eq_true a
 refine ax 1<|bh<|rr (vI 0)<|?_
 have hs:eF n=0:=by rw[nT];split<;>(try split)<;>omega
 rw[hs]
 exact⟨rfl,(aD.refl [] _)⟩
 have c:=of_decide_eq_false a
 refine bp<|ak 1<|L0<|Oe (vI (IntKind.i64.wrap (Int.tdiv n 8))) (vI (n/8)) (congrArg (Value.int .i64) (fJ (by omega) (by omega)))<|aj 1<|sq<|ak 1<|L0<|Oe (vI (Int.tmod n 8)) (vI (n%8)) (congrArg (Value.int .i64) (Int.tmod_eq_emod_of_nonneg (by omega)))<|aj 1<|cb ((decide (0<(n%8)))) (fun b=>?_) (fun b=>?_)
 have d:=of_decide_eq_true b
 refine go<|Pl 1<|b6 ((n/8)+1)<|Pl 1<|cy 2<|rt<|rr (vI ((n/8)+1))<|?_
 have hs:eF n=((n/8)+1):=by rw[nT];split<;>(try split)<;>omega
 rw[hs]
 exact⟨rfl,(aD.refl [] _)⟩
 have d:=of_decide_eq_false b
 refine bp<|ax 2<|rt<|rr (vI (n/8))<|?_
 have hs:eF n=(n/8):=by rw[nT];split<;>(try split)<;>omega
 rw[hs]
 exact⟨rfl,(aD.refl [] _)⟩
theorem sc(l:List Bool)(j t:Nat)(ht:t≤8) : cE (l.take (8*j+t)) j<2 ^ t:=by
  induction t with
  | zero=>rw[Nat.add_zero,lq];decide
  | succ t ih =>
    have h:=ih (by omega)
    rw[← Nat.add_assoc,jP (by omega),Nat.pow_succ]
    split<;>omega
theorem uw(ht:t≤8) : 2 ^ t≤256:=by
  rcases t with _|_|_|_|_|_|_|_|_|t
  case succ.succ.succ.succ.succ.succ.succ.succ.succ=>omega
  all_goals decide
theorem tq{l:List Bool}  (h1:¬ 8*j<l.length)(h2:8*j<l.length+8) : (List.range j).map (fun i=>(cE l i:Int))=dN l:=vA (by omega) h2
variable {c:Int}
theorem w9{l:List Bool}   (hc:c=(cE (l.take (8*j+t)) j:Int))(ht:t≤8)(h:t=8∨l.length≤8*j+t) : c%256=(cE l j:Int):=by
  have h1:=sc l j t ht
  have h2:=uw ht
  rw[tu h] at hc h1
  omega
variable {A:Option Addr}{cp:Nat}{m:Md}
theorem zU{l:List Bool}  (h:jZ m w (.slice A l.length cp) l)(hn:l.length≤1048576) : Calls Tryz.prog 223 #[.slice A l.length cp] w (zg l w):=by
 refine en 42 Tryz.func223 rfl<|ak 1<|cy 1<|sq<|ax 1<|bk<|fE (fun x=>[(0,.slice A l.length cp),(2,nS),(3,.slice x.2.2.1 x.2.1.length x.2.2.2),(4,vI ((8*x.1:Nat) : Int))]) (fun(x:Nat × List Int × Option Addr × Nat) w'=>aD [] w w'∧du w.heap.size w' (.slice x.2.2.1 x.2.1.length x.2.2.2) x.2.1∧(8*x.1<l.length+8)∧(x.2.1=(List.range x.1).map (fun i=>(cE l i:Int)))) (fun x=>l.length+8-8*x.1) (0,[],none,0) ⟨aD.refl _ _,(aQ.nil w.heap.size _ _ ma _),(by(try dsimp only);omega),rfl⟩ ?_
 rintro⟨j,L,B,cq⟩ q ⟨d,s,y,z⟩
 refine eH [(0,.slice A l.length cp),(2,nS),(3,.slice B L.length cq),(4,vI ((8*j:Nat) : Int))] ?_
 have f:du w.heap.size q (.slice B L.length cq) L:=s
 have Y:8*j<l.length+8:=y
 have g:L=(List.range j).map (fun i=>(cE l i:Int)):=z
 have hLn:L.length=j:=by rw[g,List.length_map,List.length_range]
 refine sq<|ax 4<|cb ((decide (((8*j:Nat) : Int)<(l.length:Int)))) (fun k=>?_) (fun k=>?_)
 have C:=of_decide_eq_true k
 refine bp<|sq<|bk<|ak 1<|cy 1<|sq<|ax 2<|bk<|fE (fun x=>[(0,.slice A l.length cp),(2,nS),(3,.slice B L.length cq),(4,vI ((8*j:Nat) : Int)),(5,vI x.2.1),(6,vI x.2.2),(7,vI ((8*j+x.1:Nat) : Int)),(8,vI ((8*j:Nat) : Int)),(9,.slice A l.length cp),(10,vI (l.length:Int)),(11,.bool (decide (((8*j:Nat) : Int)<(l.length:Int)))),(14,vI ((8*j:Nat) : Int))]) (fun(x:Nat × Int × Int) w'=>aD [] q w'∧(x.1≤8)∧(x.2.1=(cE (l.take (8*j+x.1)) j:Int))∧(x.2.2=((2 ^ x.1:Nat) : Int))) (fun x=>8-x.1) (0,0,1) ⟨aD.refl _ _,(by(try dsimp only);omega),(by(try dsimp only);rw[Nat.add_zero,lq];rfl),rfl⟩ ?_
 rintro⟨t,c,u⟩ Z ⟨a,D,E,F⟩
 refine eH [(0,.slice A l.length cp),(2,nS),(3,.slice B L.length cq),(4,vI ((8*j:Nat) : Int)),(5,vI c),(6,vI u),(7,vI ((8*j+t:Nat) : Int)),(8,vI ((8*j:Nat) : Int)),(9,.slice A l.length cp),(10,vI (l.length:Int)),(11,.bool (decide (((8*j:Nat) : Int)<(l.length:Int)))),(14,vI ((8*j:Nat) : Int))] ?_
 have a0:t≤8:=D
 have G:c=(cE (l.take (8*j+t)) j:Int):=E
 have a1:u=((2 ^ t:Nat) : Int):=F
 have hpl:=sc l j t (by omega)
 have hpp:=uw (t:=t) (by omega)
 refine sq<|ak 5<|cV 5 [19] 24 19 (decide (((8*j+t:Nat) : Int)<(l.length:Int))) (decide (((8*j+t:Nat) : Int)<(((8*j:Nat) : Int)+8))) (fun K H I=>?_) ?_
 have a2:=of_decide_eq_true I
 exact Pl 2<|L1<|Oi (((8*j:Nat) : Int)+8)<|Pl 2<|ce H _ rfl
 refine nt<|?_
 have r:=aM d a
 refine cb (((decide (((8*j+t:Nat) : Int)<(l.length:Int)))&&(decide (((8*j+t:Nat) : Int)<(((8*j:Nat) : Int)+8))))) (fun b=>?_) (fun b=>?_)
 have J:=(aR b).1
 have M:=(aR b).2
 have a3:=of_decide_eq_true J
 have a4:=of_decide_eq_true M
 refine bp<|sq<|bk<|sq<|ak 2<|?_
 refine wc (jZ.at_ (jZ.old h r) (8*j+t) (by omega)) fun N O P Q=>L0<|iV l.length (8*j+t) P (by omega)<|L0<|dX (p:=⟨N,O+(8*j+t),none⟩) (v:=.bool (l.getD (8*j+t) false)) Q<|nt<|cb ((l.getD (8*j+t) false)) (fun n=>?_) (fun n=>?_)
 exact go<|Pl 2<|b6 (c+u)<|aj 1<|go<|Pl 1<|b6 (2*u)<|Pl 1<|nl<|bn<|tn<|go<|Pl 1<|b6 (((8*j+t:Nat) : Int)+1)<|Pl 1<|nl<|dH ((t+1),(c+u),(2*u)) ⟨a,(by(try dsimp only);omega),(by(try dsimp only);rw[← Nat.add_assoc,jP (by omega),if_pos n];omega),(by(try dsimp only);rw[Nat.pow_succ];omega)⟩ (by omega)
 exact bp<|go<|Pl 1<|b6 (2*u)<|Pl 1<|nl<|bn<|tn<|go<|Pl 1<|b6 (((8*j+t:Nat) : Int)+1)<|Pl 1<|nl<|dH ((t+1),c,(2*u)) ⟨a,(by(try dsimp only);omega),(by(try dsimp only);rw[← Nat.add_assoc,jP (by omega),if_neg (by rw[n];decide)];omega),(by(try dsimp only);rw[Nat.pow_succ];omega)⟩ (by omega)
 refine xt<|tx<|tx<|bx<|tn<|go<|Pl 3<|L0<|ep (m:=1) (e:=5) #[vB (c%256)] fun a5 a6 R S o=>?_
 have T:=kv R (xs:=[(c%256)]) (by as_aux_lemma=>kernel_rfl) (aV (by omega) dc) (by(try simp only[List.length_cons,List.length_nil]);omega) S
 refine L0<|vh jL (xs:=L) (ys:=([(c%256)])) (vB 0) 1 (ai f (aM a o) (fun x hx=>ay) (fun _ _ h=>h)) (T).rd (by(try simp only[cD,aN]);omega) (le (le d.size a.size) o.size) fun U V a7 W X=>Pl 1<|nl<|bn<|tn<|go<|Pl 1<|b6 (((8*j:Nat) : Int)+8)<|Pl 1<|nl<|?_
 exact dH ((j+1),(L++[(c%256)]),U,V) ⟨(ut r (ut (aD.mono (S':=(ob B++[])) o aA) X (aB il aA)) (aB (bE f lr) aA)),W,(by(try dsimp only);omega),(by(try dsimp only);rw[g,List.range_succ,List.map_append];show _++[_]=_++[_];rw[w9 G (by omega) (by have hq:=b;simp only[Bool.and_eq_false_iff,decide_eq_false_iff_not] at hq;omega)])⟩ (by omega)
 have C:=of_decide_eq_false k
 refine xt<|tx<|tx<|bx<|tn<|ax 2<|rt<|rr (.slice B L.length cq)<|?_
 have hs:L=dN l:=by rw[g];exact tq (by omega) (by omega)
 exact⟨_,rfl,by rw[← hs];exact f,d⟩
variable {v:Value}
theorem By{l:List Bool}  (h:jZ m w v l)(hn:l.length≤1048576) : Calls Tryz.prog 223 #[v] w (zg l w):=by
  obtain⟨A,c,rfl,_,_⟩:=h.shape
  exact zU h hn
theorem wy{P:Program}  {ev:Operand→Value}{o:Oper}{x y:Operand}{t t':TypeId}{a b:ByteArray}{v:Bool}(ho:o.op = .binOp .neq t x y t')(hx:ev x = .string a)(hy:ev y = .string b)(hv:(a.toList==b.toList)=v) : (execOp ev o).run P w = .ok (.value (.bool !v)) w:=by
  have hg:eqGuard .neq t x y (.string a) (.string b)=pure ():=rfl
  unfold execOp
  simp only[ho,hx,hy,hg,binOp_string_neq,Sem.run_bind,Sem.run_pure,Result.andThen,hv]
variable {g:Nat}{w0:World}
theorem Cz{cs:Array Value}{xs:List Bool}(hg:w0.heap.size≤g)(hcs:cs=(xs.map Value.bool).toArray)(hl:xs.length≤4194304)(hb:w.heap[g]? = some (.cells cs 4 (0,0))) :
    xv w0.heap.size w (.slice (some ⟨g,0,none⟩) xs.length xs.length) xs:=zV (enc:=Value.bool) hg hcs (fun x h=>rfl) hl hb
variable {k:Nat}{x:Int}
theorem sD(h:c=x/2 ^ k) : c/2=x/2 ^ (k+1):=by
  rw[h,Int.ediv_ediv_of_nonneg (Int.le_of_lt (Int.pow_pos (by decide))),Int.pow_succ]
theorem w5(hx:0≤x∧x<256)  (h:c=x/2 ^ k) : 0≤c∧c<256:=by
  have h1:(1:Int)≤2 ^ k:=Int.pow_pos (by decide)
  subst h
  exact⟨Int.ediv_nonneg hx.1 (by omega),Int.lt_of_le_of_lt (Int.ediv_le_self _ hx.1) hx.2⟩
variable {i:Nat}{l:List Int}
theorem tf(h:i<l.length) : l.getD i 0∈l:=by
  rw[List.getD_eq_getElem?_getD,List.getElem?_eq_getElem h]
  exact List.getElem_mem h
theorem vE(h:aO m w (.slice A b.length cp) b)(hl:b.length≤1048576)(hn : -1048576≤n∧n≤1048576) : Calls Tryz.prog 172 #[.slice A b.length cp,vI n] w (fD b n w):=by
 have hb:=aO.range h
 refine en 51 Tryz.func172 rfl<|ax 2<|sq<|ak 3<|eE 6 [12] 18 12 (decide (n<0)) (decide ((8*(b.length:Int))<n)) (fun K P Q=>?_) ?_
 have ad:=of_decide_eq_false Q
 exact Pl 3<|L1<|Oi (8*(b.length:Int))<|Pl 2<|ce P _ rfl
 refine nt<|cb (((decide (n<0))||(decide ((8*(b.length:Int))<n)))) (fun f=>?_) (fun f=>?_)
 refine ax 2<|bh<|rr (.tuple #[nS,.bool false])<|?_
 have hq:=f
 have hs:cc b n=none:=by unfold cc;rw[if_neg];rintro⟨h1,h2⟩;simp only[Bool.or_eq_true,decide_eq_true_eq] at hq;rw[nT] at h2;split at h2<;>(try split at h2)<;>omega
 exact f6 hs (aD.refl [] _)
 have R:=(cv f).1
 have S:=(cv f).2
 have ae:=of_decide_eq_false R
 have af:=of_decide_eq_false S
 refine bp<|ax 1<|sq<|ax 1<|bk<|fE (fun x=>[(0,.slice A b.length cp),(1,vI n),(4,nS),(5,.bool false),(6,.slice x.2.2.1 x.2.1.length x.2.2.2),(7,vI (x.1:Int))]) (fun(x:Nat × List Bool × Option Addr × Nat) w'=>aD [] w w'∧xv w.heap.size w' (.slice x.2.2.1 x.2.1.length x.2.2.2) x.2.1∧((x.1:Int)≤n)∧(x.2.1=(List.range x.1).map (bY b))) (fun x=>n.toNat-x.1) (0,[],none,0) ⟨aD.refl _ _,(aQ.nil w.heap.size _ _ mE _),(by(try dsimp only);omega),rfl⟩ ?_
 rintro⟨i,L,B,cq⟩ G ⟨g,T,U,V⟩
 refine eH [(0,.slice A b.length cp),(1,vI n),(4,nS),(5,.bool false),(6,.slice B L.length cq),(7,vI (i:Int))] ?_
 have q:xv w.heap.size G (.slice B L.length cq) L:=T
 have ag:(i:Int)≤n:=U
 have j:L=(List.range i).map (bY b):=V
 have hLn:L.length=i:=by rw[j,List.length_map,List.length_range]
 have hi8:((i:Int)/8).toNat=i/8:=by omega
 refine sq<|ax 3<|cb ((decide ((i:Int)<n))) (fun r=>?_) (fun r=>?_)
 have W:=of_decide_eq_true r
 refine bp<|sq<|bk<|ak 2<|L0<|Oe (vI (IntKind.i64.wrap (Int.tdiv (i:Int) 8))) (vI ((i:Int)/8)) (congrArg (Value.int .i64) (fJ (by omega) (by omega)))<|?_
 refine ea (aO.at_ (aO.old h g) ((((i:Int)/8)).toNat) (by omega)) fun s t X Y ah=>L0<|iZ b.length ((((i:Int)/8)).toNat) ((i:Int)/8) (by omega) X (by omega)<|L0<|dX (p:=⟨s,t+((((i:Int)/8)).toNat),none⟩) (v:=vB (b.getD ((((i:Int)/8)).toNat) 0)) Y<|b6 (b.getD ((((i:Int)/8)).toNat) 0)<|aj 1<|sq<|ax 1<|bk<|fE (fun x=>[(0,.slice A b.length cp),(1,vI n),(4,nS),(5,.bool false),(6,.slice B L.length cq),(7,vI (i:Int)),(8,vI x.2),(9,vI (x.1:Int)),(19,vI (i:Int)),(20,vI n),(21,.bool (decide ((i:Int)<n))),(24,.slice A b.length cp),(25,vI (i:Int)),(26,vI ((i:Int)/8)),(27,.pointer (some (⟨s,t+((((i:Int)/8)).toNat),none⟩))),(28,vB (b.getD ((((i:Int)/8)).toNat) 0)),(29,vI (b.getD ((((i:Int)/8)).toNat) 0))]) (fun(x:Nat × Int) w'=>aD [] G w'∧(x.1≤i%8)∧(x.2=b.getD (i/8) 0/2 ^ x.1)) (fun x=>8-x.1) (0,(b.getD ((((i:Int)/8)).toNat) 0)) ⟨aD.refl _ _,(by(try dsimp only);omega),(by(try dsimp only);rw[hi8,Int.pow_zero,Int.ediv_one])⟩ ?_
 rintro⟨k,c⟩ al ⟨o,Z,a0⟩
 refine eH [(0,.slice A b.length cp),(1,vI n),(4,nS),(5,.bool false),(6,.slice B L.length cq),(7,vI (i:Int)),(8,vI c),(9,vI (k:Int)),(19,vI (i:Int)),(20,vI n),(21,.bool (decide ((i:Int)<n))),(24,.slice A b.length cp),(25,vI (i:Int)),(26,vI ((i:Int)/8)),(27,.pointer (some (⟨s,t+((((i:Int)/8)).toNat),none⟩))),(28,vB (b.getD ((((i:Int)/8)).toNat) 0)),(29,vI (b.getD ((((i:Int)/8)).toNat) 0))] ?_
 have am:k≤i%8:=Z
 have u:c=b.getD (i/8) 0/2 ^ k:=a0
 have hcr:=w5 (hb _ (tf (l:=b) (i:=i/8) (by omega))) u
 refine sq<|ak 2<|L0<|Oe (vI (Int.tmod (i:Int) 8)) (vI ((i:Int)%8)) (congrArg (Value.int .i64) (Int.tmod_eq_emod_of_nonneg (by omega)))<|aj 1<|?_
 refine cb ((decide ((k:Int)<((i:Int)%8)))) (fun y=>?_) (fun y=>?_)
 have a1:=of_decide_eq_true y
 exact bp<|sq<|bk<|go<|Pl 1<|L0<|Oe (vI (IntKind.i64.wrap (Int.tdiv c 2))) (vI (c/2)) (congrArg (Value.int .i64) (fJ (by omega) (by omega)))<|Pl 1<|nl<|bn<|tn<|go<|Pl 1<|b6 ((k:Int)+1)<|Pl 1<|nl<|dH ((k+1),(c/2)) ⟨o,(by(try dsimp only);omega),sD u⟩ (by omega)
 have a1:=of_decide_eq_false y
 refine xt<|tx<|tx<|bx<|tn<|go<|Pl 2<|L0<|Oe (vI (Int.tmod c 2)) (vI (c%2)) (congrArg (Value.int .i64) (Int.tmod_eq_emod_of_nonneg (by omega)))<|Pl 1<|L0<|ep (m:=1) (e:=4) #[.bool ((c%2)==1)] fun an ao a2 a3 z=>?_
 have a4:=Cz a2 (xs:=[((c%2)==1)]) (by as_aux_lemma=>kernel_rfl)  (by(try simp only[List.length_cons,List.length_nil]);omega) a3
 refine L0<|vh wI (xs:=L) (ys:=([((c%2)==1)])) (.bool false) 1 (ai q (aM o z) (fun x hx=>ay) (fun _ _ h=>h)) (a4).rd (by(try simp only[cD,aN]);omega) (le (le g.size o.size) z.size) fun a5 a6 ap a7 a8=>Pl 1<|nl<|bn<|tn<|go<|Pl 1<|b6 ((i:Int)+1)<|Pl 1<|nl<|?_
 exact dH ((i+1),(L++[((c%2)==1)]),a5,a6) ⟨(ut (aM g o) (ut (aD.mono (S':=(ob B++[])) z aA) a8 (aB il aA)) (aB (bE q lr) aA)),a7,(by(try dsimp only);omega),(by(try dsimp only);rw[j,List.range_succ,List.map_append];show _++[_]=_++[bY b i];unfold bY;rw[u,show k=i%8 from by omega])⟩ (by omega)
 have W:=of_decide_eq_false r
 refine xt<|tx<|tx<|bx<|tn<|sq<|sq<|Rg 6 (fun w'=>aO false w' (.slice A b.length cp) b) fun aq H=>?_
 have I:=aM g H
 have C:=aO.old h I
 refine bB (aI.any C (fun _ _ h=>h)) fun D=>Rt 0 D<|Rt 3 D<|Rr 4 D (.string (strOfNums b)) (fun _ hs=>cm (A:=A) (n:=b.length) (c:=cp) rfl (by kernel_rfl) Tryz.underlying27 Tryz.underlying5 Tryz.underlying9 hs)<|?_
 have J:=ai q H (fun x hx=>ay) (fun _ _ h=>h)
 refine R0 1 rfl<|Oc<|nk (By (J).rd (by omega)) fun a9 aa ar M au av E=>?_
 have N:=aO.old C E
 refine bB (aI.any N (fun _ _ h=>h)) fun aw=>R0 2 rfl<|f9 (.string (strOfNums (dN L))) (cm (A:=a9) (n:=(dN L).length) (c:=aa) rfl (by kernel_rfl) Tryz.underlying27 Tryz.underlying5 Tryz.underlying9 (M).rd)<|bB (aI.any N (fun _ _ h=>h)) fun ab=>Rr 5 ab (.bool (!(decide ((dN L)=b)))) (fun _ _=>wy (a:=(strOfNums (dN L))) (b:=(strOfNums b)) rfl (by kernel_rfl) (by kernel_rfl) (iR (M).rd C))<|re<|tn<|?_
 have O:=aM I E
 refine cb ((!(decide ((dN L)=b)))) (fun d=>?_) (fun d=>?_)
 have F:(decide ((dN L)=b))=false:=by simpa using d
 have ac:=of_decide_eq_false F
 refine ax 2<|bh<|rr (.tuple #[nS,.bool false])<|?_
 have hL:L=(List.range n.toNat).map (bY b):=by rw[j,show i=n.toNat from by omega]
 have hu:=p7 (n:=n) hb (by omega)
 rw[if_neg (by rw[← hL];simpa using d)] at hu
 exact f6 hu O
 have F:(decide ((dN L)=b))=true:=by simpa using d
 have ac:=of_decide_eq_true F
 refine bp<|ax 3<|rt<|rr (.tuple #[.slice B L.length cq,.bool true])<|?_
 have hL:L=(List.range n.toNat).map (bY b):=by rw[j,show i=n.toNat from by omega]
 have hu:=p7 (n:=n) hb (by omega)
 rw[if_pos (by rw[← hL];simpa using d),← hL] at hu
 exact⟨_,by rw[hu];rfl,by rw[hu];exact(ai J E (fun x hx=>ay) (fun _ _ h=>h)),O⟩
theorem xy(h:aO m w v b)(hl:b.length≤1048576)(hn : -1048576≤n∧n≤1048576) : Calls Tryz.prog 172 #[v,.int .i64 n] w (fD b n w):=by
  obtain⟨A,c,rfl,_,_⟩:=h.shape
  exact vE h hl hn
open Go.RowKit
def yC (w0:World)(m:Md)(A:Option Addr)(cp:Nat)(full:List Int)(g gm:Nat)(C':al)(cs:Array Value)(w:World)(e:Ending)(w':World) : Prop:=e = .returned (.tuple #[])∧RC w0 m A cp full w' g C'∧w'.heap[gm]? = some (.cells cs 45 (0,0))∧aD [g,gm] w w'
variable {full:List Int}
theorem nR{gm:Nat}   {most:Int}(hcode:B8 c)(hC:RC w0 m A cp full w g C)(hm:w.heap[gm]? = some (.cells (mC c) 45 (0,0)))(hgm:w0.heap.size≤gm)(hne:g≠gm) :
    Calls Tryz.prog 166 #[vP g 0,vP gm 0,vI most] w (yC w0 m A cp full g gm (c9 C most) (mG c 0 C.wordV (C.wordsC 1).wordV 0 0 0 0 0 0 0 0 nS nS nS nS 0 0 0 0 0 nS) w):=by
 obtain⟨hcode1,hcode2⟩:=hcode
 have hrng:=bN (RC.rng hC)
 refine en 39 Tryz.func166 rfl<|ak 2<|az<|m3 (cw hC) fun F r d G=>Pl 2<|?_
 refine L0<|bI (aY d (Ne.symm hne) hm) 2 (mG c 0 C.wordV 0 0 0 0 0 0 0 0 0 nS nS nS nS 0 0 0 0 0 nS) fun H ej e=>aL 2<|?_
 have f:=us d e
 refine az<|m3 (cw (RC.upd r e (aa hne ay) (hC.u.trans' f (fun x hx=>.inr (by simp at hx;rcases hx with rfl | rfl;exact hC.new;exact hgm))))) fun I s h J=>Pl 2<|?_
 refine L0<|bI (aY h (Ne.symm hne) ej) 3 (mG c 0 C.wordV ((C.wordsC 1).wordV) 0 0 0 0 0 0 0 0 nS nS nS nS 0 0 0 0 0 nS) fun L i j=>aL 3<|aH i 3<|b6 ((C.wordsC 1).wordV)<|Pl 1<|aL 4<|cV 4 [25] 29 25 (decide (0<((C.wordsC 1).wordV))) (decide (((C.wordsC 1).wordV)≤most)) (fun K t v=>?_) ?_
 have M:=of_decide_eq_true v
 exact Pl 4<|ce t _ rfl
 have k:=ut f (us h j) (ac im (ac im aA))
 refine az<|m2 (aX (((decide (0<((C.wordsC 1).wordV)))&&(decide (((C.wordsC 1).wordV)≤most)))) 5 (RC.upd s j (aa hne ay) (hC.u.trans' k (fun x hx=>.inr (by simp at hx;rcases hx with rfl | rfl;exact hC.new;exact hgm))))) fun y z l=>?_
 refine fB z fun x36 B o=>?_
 refine nt<|go<|Pl 4<|?_
 have p:=aY l (Ne.symm hne) i
 refine aH p 2<|Pl 1<|az<|m1 (rS (a:=C.wordV) (n:=(C.wordsC 1).wordV) (w:=y) (by omega) (by omega)) fun N b=>?_
 refine az<|m2 (aX ((dh C.wordV ((C.wordsC 1).wordV))) 7 (RC.upd o b ay (aD.step (RC.u o) b))) fun O D E=>nl<|rm (.tuple #[])<|?_
 subst B
 have hs:c9 C most=((((C.wordsC 1).wordsC 1).need ((decide (0<((C.wordsC 1).wordV)))&&(decide (((C.wordsC 1).wordV)≤most))) 5).need (dh C.wordV ((C.wordsC 1).wordV)) 7):=by
   unfold c9 jK
   (try simp only[bj,eQ,reduceIte])
   all_goals rfl
 rw[hs]
 have q:=uz b E
 exact⟨rfl,D,(aY q (Ne.symm hne) p),(u1 k (u1 l q im) im)⟩
theorem kW(hcode:B8 c)(hsl:aO m w (.slice A b.length cp) b)(hb:b.length≤1048576) :
    Calls Tryz.prog 109 #[vI 0,vB c,.slice A b.length cp] w (cT (.slice A b.length cp) b (aq aU 0 c b) w):=by
 obtain⟨hcode1,hcode2⟩:=hcode
 have hln:(b.length:Int)≤1048576:=by omega
 refine en 113 Tryz.func109 rfl<|sg<|aK mZ fun a6 cl S t d=>aj 1<|sq<|ax 6<|c0<|bp<|ak 2<|L0<|dK #[.slice A b.length cp,vI 0,.bool false,vI 0] fun k cm i l f=>Pl 1<|aL 2<|aK mZ fun q cn a a7 a8=>aE a7 (mC c) fun a9 L T=>?_
 refine nt<|?_
 have ab:=ud a8 T a
 have y:=aM f ab
 have z:=aM d y
 have g:RC w _ A cp b a9 k (al.mk b false 0):=⟨hsl,z,(Nat.le_trans d.size i),⟨0,(ub ab l),Nat.zero_le _,rfl⟩,by omega⟩
 refine x8 (fun x=>[(6,vP a6 0),(8,vP k 0),(9,vP q 0)]) (fun(x:al × Array Value × bg) w'=>aD [k,q] a9 w'∧RC w m A cp b w' k x.1∧w'.heap[q]? = some (.cells x.2.1 45 (0,0))∧bG (.slice A b.length cp) b w' x.2.1.toList x.2.2∧(aq aU 0 c b=bA x.2.2 x.1)) ?_ ?_
 rintro⟨C,cs,M⟩ U ⟨ad,bd,bf,bi,bl⟩
 refine eH [(6,vP a6 0),(8,vP k 0),(9,vP q 0)] ?_
 have ae:RC w m A cp b U k C:=bd
 have bm:U.heap[q]? = some (.cells cs 45 (0,0)):=bf
 have N:bG (.slice A b.length cp) b U cs.toList M:=bi
 have V:=bG.size N
 have af:aq aU 0 c b=bA M C:=bl
 refine ak 1<|az<|m2 (lZ ae) fun co W X=>nt<|sq<|ak 3<|L0<|dX (p:=⟨k,3,none⟩) (v:=vI C.endC.e) (RC.fld W)<|aj 1<|?_
 have Y:=u1 ad X im
 have an:=ut z Y (ac (ni d.size i) (ac (ni (le d.size f.size) a) aA))
 refine cb ((C.endC.e != 0)) (fun Z=>?_) (fun Z=>?_)
 have a0:=av Z
 refine sq<|Rg 7 (fun w'=>w'.cell? ⟨k,3,none⟩=some (vI C.endC.e)) fun cq O=>?_
 have ao:=RC.upd W O ay (aD.step (RC.u W) O)
 refine bB (RC.fld ao) fun B=>Rt 0 B<|Rt 1 B<|Rt 2 B<|Rt 3 B<|Rl 4 B (fun _ hs=>hs)<|?_
 refine R0 5 rfl<|iX (ub (ut y (aM Y O) (ac (nr i) (ac (ni f.size a) aA))) t) mZ fun cr bo ar=>?_
 have aw:=ud an (uz O ar) S
 refine bB (RC.fld (RC.upd ao ar (aa (Ne.symm (nb (ag t) lr i)) ay) aw)) fun bq=>Rt 6 bq<|re<|tn<|bh<|bV bo (vI C.endC.e)<|?_
 rw[af]
 exact cL a0 aw
 have a0:=aJ Z
 refine bp<|sg<|?_
 refine L0<|cO (hz:=(by rw[V];exact be)) (aY X (Ne.symm (nb (ag l) lr a)) bm)<|?_
 refine aE (hz:=(by rw[V];exact be)) (hv:=(bG.size N)) (h1:=(bG.one N hsl)) (ub (ut y Y (ac (nr i) (ac (ni f.size a) aA))) t) (cs) fun cu bs aB=>aj 1<|rt<|eW 22 V bs (vI 0)<|?_
 rw[af]
 exact dg a0 (bG.upd N (us X aB) (ah (RC.safe ae _ (by decide)) (ah (aW (ub (ut y ad (ac (nr i) (ac (ni f.size a) aA))) t) (by decide)) aC))) (ud an aB S)
 refine ax 1<|bk<|sq<|ax 2<|cb ((c==1)) (fun j=>?_) (fun j=>?_)
 have bt:=am j
 refine bp<|ct j<|sq<|ax 2<|c1<|ak 1<|?_
 refine az<|m3 (nR (most:=2000) (b8 (by omega)) g L (Nat.le_trans (le d.size f.size) a) (nb (ag l) lr a)) fun cv bv bw bz=>?_
 have cx:=bN (RC.rng g)
 have cy:=bN (c:=(al.mk b false 0).wordsC 1) (ck (RC.rng g) 1)
 exact nt<|xt<|tx<|bx<|jn ((c9 (al.mk b false 0) 2000),_,(bg.mk c 0 ((al.mk b false 0).wordV) (((al.mk b false 0).wordsC 1).wordV) 0 0 0 0 0 0 0 0 [] [] [] [] 0 0 0 0 0 [])) ⟨bz,bv,bw,⟨_,_,_,_,_,rfl,aI.nil ..,aI.nil ..,(fun _ _ _=>aI.nil ..),aI.nil ..,aI.nil ..,(c8 (by omega))⟩,by unfold aq aU dT dL de gR rZ iM s3 qK r5 ei fv;(try simp only[j,bj,dl,dm,dj,dn,dk,reduceIte,eQ])<;>rfl⟩
 have bt:=au j
 refine go<|aj 2<|cb ((c==2)) (fun o=>?_) (fun o=>?_)
 have bC:=am o
 refine sq<|ax 2<|c1<|ak 1<|?_
 refine az<|m3 (nR (most:=2000) (b8 (by omega)) g L (Nat.le_trans (le d.size f.size) a) (nb (ag l) lr a)) fun cz bD bE bH=>?_
 have cA:=bN (RC.rng g)
 have cB:=bN (c:=(al.mk b false 0).wordsC 1) (ck (RC.rng g) 1)
 exact nt<|xt<|tx<|bx<|jn ((c9 (al.mk b false 0) 2000),_,(bg.mk c 0 ((al.mk b false 0).wordV) (((al.mk b false 0).wordsC 1).wordV) 0 0 0 0 0 0 0 0 [] [] [] [] 0 0 0 0 0 [])) ⟨bH,bD,bE,⟨_,_,_,_,_,rfl,aI.nil ..,aI.nil ..,(fun _ _ _=>aI.nil ..),aI.nil ..,aI.nil ..,(c8 (by omega))⟩,by unfold aq aU dT dL de gR rZ iM s3 qK r5 ei fv;(try simp only[j,o,bj,dl,dm,dj,dn,dk,reduceIte,eQ])<;>rfl⟩
 have bC:=au o
 refine ax 2<|cb ((c==5)) (fun r=>?_) (fun r=>?_)
 have bJ:=am r
 refine ak 1<|az<|m3 (cw g) fun cC bK aF cD=>Pl 1<|?_
 have D:=nb (ag l) lr a
 refine L0<|bI (aY aF (Ne.symm D) L) 2 (mG c 0 ((al.mk b false 0).wordV) 0 0 0 0 0 0 0 0 0 nS nS nS nS 0 0 0 0 0 nS) fun cE bL aN=>aL 1<|?_
 have aP:=us aF aN
 have aQ:=ut z aP (ac (ni d.size i) (ac (ni (le d.size f.size) a) aA))
 refine az<|m3 (cw (RC.upd bK aN (aa D ay) aQ)) fun cF bM aR cG=>Pl 1<|?_
 refine L0<|bI (aY aR (Ne.symm D) bL) 4 (mG c 0 ((al.mk b false 0).wordV) 0 (((al.mk b false 0).wordsC 1).wordV) 0 0 0 0 0 0 0 nS nS nS nS 0 0 0 0 0 nS) fun cH a1 aS=>nt<|go<|Pl 2<|aH a1 4<|Pl 2<|eE 4 [62] 66 62 ((((al.mk b false 0).wordsC 1).wordV)==0) ((((al.mk b false 0).wordsC 1).wordV)==65280) (fun K bO bP=>?_) ?_
 have cI:=au bP
 exact Pl 1<|L1<|dp a1 4<|Pl 2<|ce bO _ rfl
 have aT:=us aR aS
 refine az<|m2 (aX ((((((al.mk b false 0).wordsC 1).wordV)==0)||((((al.mk b false 0).wordsC 1).wordV)==65280))) 6 (RC.upd bM aS (aa D ay) (ut aQ aT (ac (ni d.size i) (ac (ni (le d.size f.size) a) aA))))) fun cJ bQ aV=>?_
 refine fB bQ fun bR bS bT=>?_
 refine nl<|bn<|?_
 exact jn (bR,_,(bg.mk c 0 ((al.mk b false 0).wordV) 0 (((al.mk b false 0).wordsC 1).wordV) 0 0 0 0 0 0 0 [] [] [] [] 0 0 0 0 0 [])) ⟨(ut aP (u1 aT aV im) (ac im (ac im aA))),bT,(aY aV (Ne.symm D) a1),⟨_,_,_,_,_,rfl,aI.nil ..,aI.nil ..,(fun _ _ _=>aI.nil ..),aI.nil ..,aI.nil ..,(c8 (by omega))⟩,by subst bS;unfold aq aU dT dL de gR rZ iM s3 qK r5 ei fv;(try simp only[j,o,r,bj,dl,dm,dj,dn,dk,reduceIte,eQ])<;>rfl⟩
 have bJ:=au r
 refine ax 2<|cb ((c==15)) (fun E=>?_) (fun E=>?_)
 have bU:=am E
 refine ak 1<|?_
 have s:=nb (ag l) lr a
 refine az<|m3 (nR (most:=1968) (b8 (by omega)) g L (Nat.le_trans (le d.size f.size) a) s) fun cK bW bX a2=>?_
 have cM:=bN (RC.rng g)
 have cN:=bN (c:=(al.mk b false 0).wordsC 1) (ck (RC.rng g) 1)
 refine nt<|sq<|ax 2<|c0<|bp<|ak 1<|az<|m3 (dP bW) fun bY aZ P cP=>?_
 refine b6 ((c9 (al.mk b false 0) 1968).byteV)<|Pl 1<|aL 3<|?_
 have b0:=aY P (Ne.symm s) bX
 refine aH b0 3<|b6 (((al.mk b false 0).wordsC 1).wordV)<|az<|m1 (Bv (n:=((al.mk b false 0).wordsC 1).wordV) (w:=bY) (by omega)) fun cQ F=>Pl 1<|?_
 refine az<|m2 (aX ((((c9 (al.mk b false 0) 1968).byteV)==(eF (((al.mk b false 0).wordsC 1).wordV)))) 5 (RC.upd aZ F ay (aD.step (RC.u aZ) F))) fun cR bZ a3=>?_
 refine fB bZ fun G c2 b1=>?_
 refine nt<|sq<|Rg 12 (fun w'=>w'.cell? ⟨q,3,none⟩=some (vW (((al.mk b false 0).wordsC 1).wordV))) fun cS H=>?_
 have b2:=uz F (aM a3 H)
 have b3:=aY b2 (Ne.symm s) b0
 refine bB (ap b3 rfl) fun I=>Rt 0 I<|Rt 1 I<|Rt 3 I<|Rl 4 I (fun _ hs=>hs)<|Rr 5 I (vI (((al.mk b false 0).wordsC 1).wordV)) (fun _ _=>bF (vI (IntKind.i64.wrap (((al.mk b false 0).wordsC 1).wordV))) (by kernel_rfl) (congrArg (Value.int .i64) (i64_in (by omega))))<|?_
 have b4:=RC.upd b1 H ay (aD.step (RC.u b1) H)
 refine R0 2 rfl<|Oc<|pK (fw (n:=(c9 (al.mk b false 0) 1968).byteV) (by omega) b4) fun c3 c4 cU c5 a4 Q=>?_
 have cV:=Nat.le_trans (al.bytesR_le G ((c9 (al.mk b false 0) 1968).byteV)) (RC.clen b4)
 have b5:=aY Q (Ne.symm s) b3
 refine bB (ap b5 rfl) fun cW=>R0 6 rfl<|Oc (args:=#[.slice c3 ((G.bytesR ((c9 (al.mk b false 0) 1968).byteV)).length) c4,vI (((al.mk b false 0).wordsC 1).wordV)])<|nk (xy (n:=((al.mk b false 0).wordsC 1).wordV) (c5 _ _ (RC.rd a4)) (by omega) (by omega)) fun c6 c7 cX a5 cY cZ R=>?_
 have b7:=ub R b5
 refine bB (ap b7 rfl) fun J=>Rt 7 J<|Rt 8 J<|Rt 9 J<|Rt 10 J<|Rt 11 J<|re<|tn<|ak 2<|?_
 refine az<|m2 (aX ((cc (G.bytesR ((c9 (al.mk b false 0) 1968).byteV)) (((al.mk b false 0).wordsC 1).wordV)).isSome) 6 (RC.upd a4 R ay (aD.step (RC.u a4) R))) fun d0 ca b9=>?_
 refine fB ca fun cd cf cg=>?_
 refine nt<|go<|Pl 2<|?_
 refine L0<|bI (aY b9 (Ne.symm s) b7) 13 (mG c 0 ((al.mk b false 0).wordV) (((al.mk b false 0).wordsC 1).wordV) 0 0 0 0 0 0 0 0 nS (.slice c6 (((cc (G.bytesR ((c9 (al.mk b false 0) 1968).byteV)) (((al.mk b false 0).wordsC 1).wordV)).getD []).length) c7) nS nS 0 0 0 0 0 nS) fun d1 ch ba=>nl<|bn<|?_
 have bb:=us b9 ba
 have bc:=ut a2 (ui P (ui b2 (ui Q (uz R bb)))) (ac im (ac im aA))
 exact jn (cd,_,(bg.mk c 0 ((al.mk b false 0).wordV) (((al.mk b false 0).wordsC 1).wordV) 0 0 0 0 0 0 0 0 [] ((cc (G.bytesR ((c9 (al.mk b false 0) 1968).byteV)) (((al.mk b false 0).wordsC 1).wordV)).getD []) [] [] 0 0 0 0 0 [])) ⟨bc,(RC.upd cg ba (aa s ay) (ut z bc (ac (ni d.size i) (ac (ni (le d.size f.size) a) aA)))),ch,⟨_,_,_,_,_,rfl,aI.nil ..,((ai a5 bb (fun x hx=>(aa (fun e=>(aG (ag l) (le (le (le (le (le (le (le a8.size T.size) a2.size) P.size) F.size) a3.size) H.size) Q.size) a5) (e▸hx)) (aa (fun e=>(aG (ag a7) (le (le (le (le (le (le T.size a2.size) P.size) F.size) a3.size) H.size) Q.size) a5) (e▸hx)) ay))) (fun _ _ h=>h))).rd,(fun _ _ _=>aI.nil ..),aI.nil ..,aI.nil ..,(c8 (by omega))⟩,by subst cf c2;unfold aq aU dT dL de gR rZ iM s3 qK r5 ei fv;(try simp only[j,o,r,E,bj,dl,dm,dj,dn,dk,reduceIte,eQ])<;>rfl⟩
 have bU:=au E
 refine ak 1<|?_
 refine aE (ub y t) mZ fun d2 ci cj=>aj 1<|rt<|br<|tr<|bV ci (vI 4)<|?_
 exact dq (by unfold aq aU dT dL de gR rZ iM s3 qK r5 ei fv;(try simp only[j,o,r,E,bj,dl,dm,dj,dn,dk,reduceIte,eQ])<;>rfl) (bu (ud z cj S))
theorem kV(hcode:B8 c)(hsl:aO m w (.slice A b.length cp) b)(hb:b.length≤1048576) :
    Calls Tryz.prog 109 #[vI 1,vB c,.slice A b.length cp] w (cT (.slice A b.length cp) b (aq aU 1 c b) w):=by
 obtain⟨hcode1,hcode2⟩:=hcode
 have hln:(b.length:Int)≤1048576:=by omega
 refine en 113 Tryz.func109 rfl<|sg<|aK mZ fun S c4 H r d=>aj 1<|sq<|ax 6<|c0<|bp<|ak 2<|L0<|dK #[.slice A b.length cp,vI 0,.bool false,vI 0] fun i c5 f k g=>Pl 1<|aL 2<|aK mZ fun s c6 a aF aG=>aE aF (mC c) fun T D aN=>?_
 refine nt<|?_
 have U:=ud aG aN a
 have t:=aM g U
 have l:=aM d t
 have o:RC w _ A cp b T i (al.mk b false 0):=⟨hsl,l,(Nat.le_trans d.size f),⟨0,(ub U k),Nat.zero_le _,rfl⟩,by omega⟩
 refine x8 (fun x=>[(6,vP S 0),(8,vP i 0),(9,vP s 0)]) (fun(x:al × Array Value × bg) w'=>aD [i,s] T w'∧RC w m A cp b w' i x.1∧w'.heap[s]? = some (.cells x.2.1 45 (0,0))∧bG (.slice A b.length cp) b w' x.2.1.toList x.2.2∧(aq aU 1 c b=bA x.2.2 x.1)) ?_ ?_
 rintro⟨C,cs,M⟩ I ⟨V,aP,aQ,aR,aS⟩
 refine eH [(6,vP S 0),(8,vP i 0),(9,vP s 0)] ?_
 have W:RC w m A cp b I i C:=aP
 have aT:I.heap[s]? = some (.cells cs 45 (0,0)):=aQ
 have E:bG (.slice A b.length cp) b I cs.toList M:=aR
 have J:=bG.size E
 have X:aq aU 1 c b=bA M C:=aS
 refine ak 1<|az<|m2 (lZ W) fun c7 L N=>nt<|sq<|ak 3<|L0<|dX (p:=⟨i,3,none⟩) (v:=vI C.endC.e) (RC.fld L)<|aj 1<|?_
 have O:=u1 V N im
 have Y:=ut l O (ac (ni d.size f) (ac (ni (le d.size g.size) a) aA))
 refine cb ((C.endC.e != 0)) (fun P=>?_) (fun P=>?_)
 have Q:=av P
 refine sq<|Rg 7 (fun w'=>w'.cell? ⟨i,3,none⟩=some (vI C.endC.e)) fun ca F=>?_
 have Z:=RC.upd L F ay (aD.step (RC.u L) F)
 refine bB (RC.fld Z) fun y=>Rt 0 y<|Rt 1 y<|Rt 2 y<|Rt 3 y<|Rl 4 y (fun _ hs=>hs)<|?_
 refine R0 5 rfl<|iX (ub (ut t (aM O F) (ac (nr f) (ac (ni g.size a) aA))) r) mZ fun cc aV a0=>?_
 have a1:=ud Y (uz F a0) H
 refine bB (RC.fld (RC.upd Z a0 (aa (Ne.symm (nb (ag r) lr f)) ay) a1)) fun aZ=>Rt 6 aZ<|re<|tn<|bh<|bV aV (vI C.endC.e)<|?_
 rw[X]
 exact cL Q a1
 have Q:=aJ P
 refine bp<|sg<|?_
 refine L0<|cO (hz:=(by rw[J];exact be)) (aY N (Ne.symm (nb (ag k) lr a)) aT)<|?_
 refine aE (hz:=(by rw[J];exact be)) (hv:=(bG.size E)) (h1:=(bG.one E hsl)) (ub (ut t O (ac (nr f) (ac (ni g.size a) aA))) r) (cs) fun cd b0 a2=>aj 1<|rt<|eW 22 J b0 (vI 0)<|?_
 rw[X]
 exact dg Q (bG.upd E (us N a2) (ah (RC.safe W _ (by decide)) (ah (aW (ub (ut t V (ac (nr f) (ac (ni g.size a) aA))) r) (by decide)) aC))) (ud Y a2 H)
 refine ax 1<|bk<|sq<|ax 2<|cb ((c==1)) (fun h=>?_) (fun h=>?_)
 have b1:=am h
 refine bp<|ct h<|sq<|ax 2<|c0<|bp<|ak 1<|az<|m3 (dP o) fun cf b2 b3 cg=>b6 ((al.mk b false 0).byteV)<|Pl 1<|aL 4<|cV 3 [41] 44 41 (decide (0<((al.mk b false 0).byteV))) (decide (((al.mk b false 0).byteV)≤250)) (fun K b4 b5=>?_) ?_
 have ch:=of_decide_eq_true b5
 exact Pl 3<|ce b4 _ rfl
 refine az<|m2 (aX (((decide (0<((al.mk b false 0).byteV)))&&(decide (((al.mk b false 0).byteV)≤250)))) 5 b2) fun ci b7 b9=>?_
 refine fB b7 fun x92 ba a3=>?_
 refine nt<|go<|Pl 2<|az<|pK (fw (n:=(al.mk b false 0).byteV) (by omega) a3) fun bb bc cj bd bf bi=>?_
 have cl:=Nat.le_trans (al.bytesR_le x92 ((al.mk b false 0).byteV)) (RC.clen a3)
 refine Pl 1<|?_
 have a4:=u1 b3 (u1 b9 bi im) im
 have a5:=nb (ag k) lr a
 refine L0<|bI (aY a4 (Ne.symm a5) D) 14 (mG c 0 0 0 0 0 0 0 0 0 0 0 nS nS (.slice bb ((x92.bytesR ((al.mk b false 0).byteV)).length) bc) nS 0 0 0 0 0 nS) fun cm bl a6=>nl<|bn<|?_
 have a7:=us a4 a6
 exact jn ((x92.bytesC ((al.mk b false 0).byteV)),_,(bg.mk c 0 0 0 0 0 0 0 0 0 0 0 [] [] (x92.bytesR ((al.mk b false 0).byteV)) [] 0 0 0 0 0 [])) ⟨a7,(RC.upd bf a6 (aa a5 ay) (ut l a7 (ac (ni d.size f) (ac (ni (le d.size g.size) a) aA)))),bl,⟨_,_,_,_,_,rfl,aI.nil ..,aI.nil ..,bd,aI.nil ..,aI.nil ..,(c8 (by omega))⟩,by subst ba;unfold aq aU dT dL de gR rZ iM s3 qK r5 ei fv;(try simp only[h,bj,dl,dm,dj,dn,dk,reduceIte,eQ])<;>rfl⟩
 have b1:=au h
 refine go<|aj 2<|cb ((c==2)) (fun j=>?_) (fun j=>?_)
 have bm:=am j
 refine sq<|ax 2<|c0<|bp<|ak 1<|az<|m3 (dP o) fun cn bo bq co=>b6 ((al.mk b false 0).byteV)<|Pl 1<|aL 4<|cV 3 [41] 44 41 (decide (0<((al.mk b false 0).byteV))) (decide (((al.mk b false 0).byteV)≤250)) (fun K bs bt=>?_) ?_
 have cq:=of_decide_eq_true bt
 exact Pl 3<|ce bs _ rfl
 refine az<|m2 (aX (((decide (0<((al.mk b false 0).byteV)))&&(decide (((al.mk b false 0).byteV)≤250)))) 5 bo) fun cr bv bw=>?_
 refine fB bv fun G bz a8=>?_
 refine nt<|go<|Pl 2<|az<|pK (fw (n:=(al.mk b false 0).byteV) (by omega) a8) fun bC bD cu bE bF bH=>?_
 have cv:=Nat.le_trans (al.bytesR_le G ((al.mk b false 0).byteV)) (RC.clen a8)
 refine Pl 1<|?_
 have a9:=u1 bq (u1 bw bH im) im
 have ab:=nb (ag k) lr a
 refine L0<|bI (aY a9 (Ne.symm ab) D) 14 (mG c 0 0 0 0 0 0 0 0 0 0 0 nS nS (.slice bC ((G.bytesR ((al.mk b false 0).byteV)).length) bD) nS 0 0 0 0 0 nS) fun cx bJ ad=>nl<|bn<|?_
 have ae:=us a9 ad
 exact jn ((G.bytesC ((al.mk b false 0).byteV)),_,(bg.mk c 0 0 0 0 0 0 0 0 0 0 0 [] [] (G.bytesR ((al.mk b false 0).byteV)) [] 0 0 0 0 0 [])) ⟨ae,(RC.upd bF ad (aa ab ay) (ut l ae (ac (ni d.size f) (ac (ni (le d.size g.size) a) aA)))),bJ,⟨_,_,_,_,_,rfl,aI.nil ..,aI.nil ..,bE,aI.nil ..,aI.nil ..,(c8 (by omega))⟩,by subst bz;unfold aq aU dT dL de gR rZ iM s3 qK r5 ei fv;(try simp only[h,j,bj,dl,dm,dj,dn,dk,reduceIte,eQ])<;>rfl⟩
 have bm:=au j
 refine ax 2<|cb ((c==5)) (fun q=>?_) (fun q=>?_)
 have bK:=am q
 refine ak 1<|az<|m3 (cw o) fun cy bL af cz=>Pl 1<|?_
 have z:=nb (ag k) lr a
 refine L0<|bI (aY af (Ne.symm z) D) 2 (mG c 0 ((al.mk b false 0).wordV) 0 0 0 0 0 0 0 0 0 nS nS nS nS 0 0 0 0 0 nS) fun cA bM ai=>aL 1<|?_
 have an:=us af ai
 have ao:=ut l an (ac (ni d.size f) (ac (ni (le d.size g.size) a) aA))
 refine az<|m3 (cw (RC.upd bL ai (aa z ay) ao)) fun cB bO ap cC=>Pl 1<|?_
 refine L0<|bI (aY ap (Ne.symm z) bM) 4 (mG c 0 ((al.mk b false 0).wordV) 0 (((al.mk b false 0).wordsC 1).wordV) 0 0 0 0 0 0 0 nS nS nS nS 0 0 0 0 0 nS) fun cD R ar=>nt<|go<|Pl 2<|aH R 4<|Pl 2<|eE 4 [62] 66 62 ((((al.mk b false 0).wordsC 1).wordV)==0) ((((al.mk b false 0).wordsC 1).wordV)==65280) (fun K bP bQ=>?_) ?_
 have cE:=au bQ
 exact Pl 1<|L1<|dp R 4<|Pl 2<|ce bP _ rfl
 have aw:=us ap ar
 refine az<|m2 (aX ((((((al.mk b false 0).wordsC 1).wordV)==0)||((((al.mk b false 0).wordsC 1).wordV)==65280))) 6 (RC.upd bO ar (aa z ay) (ut ao aw (ac (ni d.size f) (ac (ni (le d.size g.size) a) aA))))) fun cF bR aB=>?_
 refine fB bR fun bS bT bU=>?_
 refine nl<|bn<|?_
 exact jn (bS,_,(bg.mk c 0 ((al.mk b false 0).wordV) 0 (((al.mk b false 0).wordsC 1).wordV) 0 0 0 0 0 0 0 [] [] [] [] 0 0 0 0 0 [])) ⟨(ut an (u1 aw aB im) (ac im (ac im aA))),bU,(aY aB (Ne.symm z) R),⟨_,_,_,_,_,rfl,aI.nil ..,aI.nil ..,(fun _ _ _=>aI.nil ..),aI.nil ..,aI.nil ..,(c8 (by omega))⟩,by subst bT;unfold aq aU dT dL de gR rZ iM s3 qK r5 ei fv;(try simp only[h,j,q,bj,dl,dm,dj,dn,dk,reduceIte,eQ])<;>rfl⟩
 have bK:=au q
 refine ax 2<|cb ((c==15)) (fun B=>?_) (fun B=>?_)
 have bW:=am B
 refine ak 1<|?_
 refine az<|m3 (nR (most:=1968) (b8 (by omega)) o D (Nat.le_trans (le d.size g.size) a) (nb (ag k) lr a)) fun cG bX bY bZ=>?_
 have cH:=bN (RC.rng o)
 have cI:=bN (c:=(al.mk b false 0).wordsC 1) (ck (RC.rng o) 1)
 exact nt<|sq<|ax 2<|c1<|xt<|tx<|bx<|jn ((c9 (al.mk b false 0) 1968),_,(bg.mk c 0 ((al.mk b false 0).wordV) (((al.mk b false 0).wordsC 1).wordV) 0 0 0 0 0 0 0 0 [] [] [] [] 0 0 0 0 0 [])) ⟨bZ,bX,bY,⟨_,_,_,_,_,rfl,aI.nil ..,aI.nil ..,(fun _ _ _=>aI.nil ..),aI.nil ..,aI.nil ..,(c8 (by omega))⟩,by unfold aq aU dT dL de gR rZ iM s3 qK r5 ei fv;(try simp only[h,j,q,B,bj,dl,dm,dj,dn,dk,reduceIte,eQ])<;>rfl⟩
 have bW:=au B
 refine ak 1<|?_
 refine aE (ub t r) mZ fun cJ c2 c3=>aj 1<|rt<|br<|tr<|bV c2 (vI 4)<|?_
 exact dq (by unfold aq aU dT dL de gR rZ iM s3 qK r5 ei fv;(try simp only[h,j,q,B,bj,dl,dm,dj,dn,dk,reduceIte,eQ])<;>rfl) (bu (ud l c3 H))
variable {dir:Int}
theorem lg(hcode:B8 c)(hsl:aO m w (.slice A b.length cp) b)(hb:b.length≤1048576)(hd:¬ (dir=0∨dir=1)) :
    Calls Tryz.prog 109 #[vI dir,vB c,.slice A b.length cp] w (cT (.slice A b.length cp) b (aq aU dir c b) w):=by
 obtain⟨hcode1,hcode2⟩:=hcode
 have hln:(b.length:Int)≤1048576:=by omega
 have e0:(dir != 0)=true:=by simp;omega
 have e1:(dir != 1)=true:=by simp;omega
 refine en 113 Tryz.func109 rfl<|sg<|aK mZ fun g h a d e=>aj 1<|sq<|ak 3<|sy 16 e0<|Pl 3<|nl<|tn<|ct e1<|ak 1<|aE d mZ fun i ej f=>aj 1<|bh<|bV ej (vI 1)<|?_
 exact dq (by unfold aq aU dT dL de gR rZ iM s3 qK r5 ei fv;(try simp only[e0,e1,bj,dl,dm,dj,dn,dk,reduceIte,hd,eQ])<;>rfl) (bu (ud e f a))
open Go.RowKit
theorem gV(h:iA C){b:Bool}  : iA (C.need b x):=fun y hy=>h y (by rwa [kN] at hy)
theorem it(h:iA C)  : iA (C.bytesC n):=gj h n
theorem mR(h:iA C)  : iA (C.wordsC n):=ck h n
theorem xw(C:al)(x:Int) : (C.bytesC 1).need (!(C.bytesC 1).sh) x=C.bytesC 1:=by
  by_cases hf:C.fails 1=true
  · exact dW (eV hf)
  · have h:(C.bytesC 1).sh=false:=by
      unfold al.bytesC
      rw[if_neg hf]
      unfold al.fails at hf
      simp only[Bool.or_eq_true,decide_eq_true_eq,not_or] at hf
      show C.sh=false
      simpa using hf.1.1
    rw[h]
    unfold al.need
    rw[if_neg (by rintro⟨_,h⟩;cases h)]
theorem wJ{v:Int}(h:0≤v) : decide (0<v)=(v != 0):=by
  rw[Bool.eq_iff_iff]
  simp only[decide_eq_true_eq,bne_iff_ne,ne_eq]
  omega
def BL (C:al) : al:=((C.bytesC 1).need (!(C.bytesC 1).sh) 5).need (C.byteV==6) 9
def BT (C:al) : al:=((BL C).wordsC 1).need (decide (0<(BL C).wordV)) 6
def BQ (C:al) : al:=((BT C).wordsC 1).need (decide ((BT C).wordV≤9999)) 7
def vX (C:al) : al:=((BQ C).wordsC 1).need (decide (0<(BQ C).wordV)) 5
theorem vc(C:al) : BL C=kp C:=by unfold BL kp;rw[xw]
theorem se(h:iA C) : iA (kp C):=gV (it h)
theorem uT(h:iA C) : BT C=ku C:=by unfold BT ku;rw[vc,wJ (bN (se h)).1]
theorem y9(h:iA C) : iA (ku C):=gV (mR (se h))
theorem w6(h:iA C) : BQ C=pA C:=by unfold BQ pA;rw[uT h]
theorem xF(h:iA C) : iA (pA C):=gV (mR (y9 h))
theorem tc(h:iA C) : vX C=dz C:=by unfold vX dz;rw[w6 h,wJ (bN (xF h)).1]
theorem zL(h:C.e≠0) : C.endC=C:=by unfold al.endC;exact dW h
theorem wQ(h:b.length≠0) : (al.mk b false 0).byteV=b.getD 0 0∧(al.mk b false 0).bytesC 1=⟨b.drop 1,false,0⟩:=by
  have hf:¬ (al.mk b false 0).fails 1=true:=by
    unfold al.fails
    simp only[Bool.or_eq_true,decide_eq_true_eq,not_or]
    exact⟨⟨by decide,by decide⟩,by omega⟩
  constructor
  · unfold al.byteV al.bytesR
    rw[if_neg hf]
    rcases b with _|⟨x,t⟩
    · exact absurd rfl h
    · rfl
  · unfold al.bytesC
    rw[if_neg hf]
    rfl
def cA (b:List Int)(n:Int) : List Int:=(b.take (n+1).toNat).drop 1
def dr (one:Int→al→Int × al × dx)(c:Int)(b:List Int) : bg × Int :=
  if (aT one (cA b (b.getD 0 0)).length 0 ⟨cA b (b.getD 0 0),false,0⟩ []).1.e != 0 then (bg.zero,bt (aT one (cA b (b.getD 0 0)).length 0 ⟨cA b (b.getD 0 0),false,0⟩ []).1.e)
  else if decide (b.getD 0 0+1<(b.length:Int)) then (bg.zero,3)
  else ({ bg.zero with code:=c,recs:=(aT one (cA b (b.getD 0 0)).length 0 ⟨cA b (b.getD 0 0),false,0⟩ []).2 },0)
def cC (one:Int→al→Int × al × dx)(may:Int→Bool)(c:Int)(b:List Int) : bg × Int :=
  if (b.length:Int)==0 then (bg.zero,2)
  else if !(may (b.getD 0 0)) then (bg.zero,5)
  else if decide ((b.length:Int)<b.getD 0 0+1) then (bg.zero,2)
  else dr one c b
variable {M:bg}
theorem kK(h:C.e≠0) : bA M C=(bg.zero,C.e):=by
  unfold bA
  rw[zL h,if_neg h]
variable {one:Int→al→Int × al × dx}
theorem jF{may:Int→Bool}   (hr:∀ x,x∈b→0≤x∧x<256) : bA (ex one may c ⟨b,false,0⟩).2 (ex one may c ⟨b,false,0⟩).1=cC one may c b:=by
  unfold cC
  by_cases h0:b.length=0
  · rw[if_pos (by rw[beq_iff_eq];omega)]
    obtain rfl:=List.eq_nil_of_length_eq_zero h0
    have e1:(ny may ⟨[],false,0⟩).e=2:=by
      unfold ny
      rw[dW (eV (by decide))]
      rfl
    have e2:((ny may ⟨[],false,0⟩).bytesC (al.mk [] false 0).byteV).e=2:=by
      have hs:(ny may ⟨[],false,0⟩).sh=true:=by
        unfold ny
        rw[dW (eV (by decide))]
        rfl
      unfold al.bytesC
      rw[if_pos (by unfold al.fails;rw[hs];rfl),dW (by show(ny may ⟨[],false,0⟩).e≠0;rw[e1];decide)]
      exact e1
    unfold ex
    dsimp only
    rw[dW (by rw[e2];decide),kK (by rw[e2];decide),e2]
  rw[if_neg (by rw[beq_iff_eq];omega)]
  obtain⟨e1,e2⟩:=wQ h0
  have hn:0≤b.getD 0 0∧b.getD 0 0<256:=by
    rcases b with _|⟨x,t⟩
    · exact absurd rfl h0
    · exact hr x (by simp)
  by_cases hm:may (b.getD 0 0)=true
  · rw[if_neg (by rw[hm];decide)]
    have e3:ny may ⟨b,false,0⟩=⟨b.drop 1,false,0⟩:=by
      unfold ny
      rw[e1,e2,hm]
      rfl
    by_cases hs:(b.length:Int)<b.getD 0 0+1
    · rw[if_pos (by simpa using hs)]
      have hf:(al.mk (b.drop 1) false 0).fails (b.getD 0 0)=true:=by
        unfold al.fails
        simp only[Bool.or_eq_true,decide_eq_true_eq,List.length_drop]
        exact .inr (by omega)
      have e4:(ny may ⟨b,false,0⟩).bytesC (al.mk b false 0).byteV=⟨[],true,2⟩:=by
        rw[e1,e3]
        unfold al.bytesC
        rw[if_pos hf]
        rfl
      unfold ex
      dsimp only
      rw[e4,dW (by decide),kK (by decide)]
    · rw[if_neg (by simpa using hs)]
      have hf:¬ (al.mk (b.drop 1) false 0).fails (b.getD 0 0)=true:=by
        unfold al.fails
        simp only[Bool.or_eq_true,decide_eq_true_eq,List.length_drop,not_or]
        exact⟨⟨by decide,by omega⟩,by omega⟩
      have e4:(ny may ⟨b,false,0⟩).bytesC (al.mk b false 0).byteV=⟨(b.drop 1).drop (b.getD 0 0).toNat,false,0⟩:=by
        rw[e1,e3]
        unfold al.bytesC
        rw[if_neg hf]
      have e5:zC may ⟨b,false,0⟩=⟨cA b (b.getD 0 0),false,0⟩:=by
        unfold zC cA
        rw[e1,e3]
        unfold al.bytesR
        rw[if_neg hf,show(b.getD 0 0+1).toNat=1+(b.getD 0 0).toNat from by omega,List.drop_take]
        rw[show 1+(b.getD 0 0).toNat-1=(b.getD 0 0).toNat from by omega]
      unfold ex dr zB
      dsimp only
      rw[e4,e5]
      by_cases hz:(aT one (cA b (b.getD 0 0)).length 0 ⟨cA b (b.getD 0 0),false,0⟩ []).1.e=0
      · rw[hz,if_neg (by decide)]
        have e6:(al.mk ((b.drop 1).drop (b.getD 0 0).toNat) false 0).need ((0:Int)==0) (bt 0)=⟨(b.drop 1).drop (b.getD 0 0).toNat,false,0⟩:=rfl
        rw[e6]
        by_cases hl:b.getD 0 0+1<(b.length:Int)
        · rw[if_pos (by simpa using hl)]
          have e7:(al.mk ((b.drop 1).drop (b.getD 0 0).toNat) false 0).endC=⟨(b.drop 1).drop (b.getD 0 0).toNat,false,3⟩:=by
            unfold al.endC al.need
            rw[if_pos ⟨rfl,by rw[beq_eq_false_iff_ne];simp only[List.length_drop];omega⟩]
          unfold bA
          rw[e7,if_neg (show ¬ (3:Int)=0 from by decide)]
        · rw[if_neg (by simpa using hl)]
          have e7:(al.mk ((b.drop 1).drop (b.getD 0 0).toNat) false 0).endC=⟨(b.drop 1).drop (b.getD 0 0).toNat,false,0⟩:=by
            unfold al.endC al.need
            rw[if_neg (by rintro⟨_,h⟩;rw[beq_eq_false_iff_ne] at h;simp only[List.length_drop] at h;omega)]
          unfold bA
          rw[e7,if_pos rfl]
      · rw[if_pos (by simpa using hz)]
        have hw:bt (aT one (cA b (b.getD 0 0)).length 0 ⟨cA b (b.getD 0 0),false,0⟩ []).1.e≠0:=by
          unfold bt
          split
          · decide
          · exact hz
        have e6:(al.mk ((b.drop 1).drop (b.getD 0 0).toNat) false 0).need ((aT one (cA b (b.getD 0 0)).length 0 ⟨cA b (b.getD 0 0),false,0⟩ []).1.e==0) (bt (aT one (cA b (b.getD 0 0)).length 0 ⟨cA b (b.getD 0 0),false,0⟩ []).1.e)=⟨(b.drop 1).drop (b.getD 0 0).toNat,false,bt (aT one (cA b (b.getD 0 0)).length 0 ⟨cA b (b.getD 0 0),false,0⟩ []).1.e⟩:=by
          unfold al.need
          rw[if_pos ⟨rfl,by simpa using hz⟩]
        rw[e6,kK hw]
  · have hm:may (b.getD 0 0)=false:=by simpa using hm
    rw[if_pos (by rw[hm];rfl)]
    have e3:ny may ⟨b,false,0⟩=⟨b.drop 1,false,5⟩:=by
      unfold ny
      rw[e1,e2,hm]
      rfl
    have e4:((ny may ⟨b,false,0⟩).bytesC (al.mk b false 0).byteV).e=5:=by
      rw[e3]
      unfold al.bytesC
      split
      · rfl
      · rfl
    unfold ex
    dsimp only
    rw[dW (by rw[e4];decide),kK (by rw[e4];decide),e4]
theorem ru(hr:∀ x,x∈b→0≤x∧x<256) : aq bo 0 20 b=cC cU i8 20 b:=jF hr
theorem ra(hr:∀ x,x∈b→0≤x∧x<256) : aq bo 1 20 b=cC bR i5 20 b:=jF hr
theorem vg(hd:dir=0∨dir=1)(hr:∀ x,x∈b→0≤x∧x<256) : aq bo dir 21 b=cC cP i3 21 b:=by
  unfold aq
  rw[if_pos hd]
  exact jF hr
theorem yy:∀ n:Nat,n<256→(decide (1≤(n:Int)%128)&&decide ((n:Int)%128≤3))=bT (n:Int):=by decide +kernel
theorem B9(h:0≤x∧x<256) : (decide (1≤x%128)&&decide (x%128≤3))=bT x:=by
  obtain⟨n,rfl⟩:=Int.eq_ofNat_of_zero_le h.1
  exact yy n (by omega)
theorem zt:(decide (0<x)&&decide (x<5))=(decide (1≤x)&&decide (x≤4)):=by
  rw[Bool.eq_iff_iff]
  simp only[Bool.and_eq_true,decide_eq_true_eq]
  omega
def eY (C:al) : al:=((e9 C).bytesC 1).need (decide (0<(e9 C).byteV)&&decide ((e9 C).byteV<5)) 6
theorem wB(C:al) : eY C=iu C:=by unfold eY iu;rw[zt]
def fL (C:al) : al:=(C.bytesC 1).need (decide (1≤C.byteV%128)&&decide (C.byteV%128≤3)) 6
def gI (C:al) : al:=((fL C).bytesC 1).need ((fL C).byteV==0 || (fL C).byteV==255) 6
def gH (C:al) : al:=((gI C).bytesC 1).need ((gI C).byteV==0 || (fL C).byteV==255) 6
def jw (kd:Int)(C:al) : al:=((gH C).bytesC 1).need ((gH C).byteV==1 || kd != 4) 5
def dS (kd:Int)(C:al) : al × List Obj:=f4 (gH C).byteV.toNat (jw kd C) []
theorem kY(h:iA C) : fL C=o3 C:=by unfold fL o3;rw[B9 (iK h)]
theorem oh(h:iA C) : gI C=nV C:=by unfold gI nV;rw[kY h]
theorem uR(h:iA C) : gH C=uK C:=by
  unfold gH uK
  rw[oh h,kY h]
  by_cases e:((nV C).bytesC 1).e=0
  · have h1:=(mP e).1
    unfold nV at h1
    have h2:=(rB (by decide) h1).2
    congr 1
    rw[Bool.eq_iff_iff]
    simp only[Bool.or_eq_true,beq_iff_eq,bne_iff_ne,ne_eq] at h2 ⊢
    omega
  · rw[dW e,dW e]
theorem ph{kd:Int}  (h:iA C) : dS kd C=fk kd C:=by
  unfold dS fk jw Bt
  rw[uR h,Bool.or_comm]
def cG (dir c:Int)(C:al) : Option (al × bg) :=
  if c != 43 then none
  else if C.byteV==13 then some ((fA C).bytesC ((e9 C).l.length:Int),{ bg.zero with code:=43,mei:=C.byteV,data:=(fA C).bytesR ((e9 C).l.length:Int) })
  else if dir==0 then some ((eY C).bytesC 1,{ bg.zero with code:=43,mei:=C.byteV,kind:=(e9 C).byteV,next:=(eY C).byteV })
  else some ((dS (e9 C).byteV (eY C)).1,{ bg.zero with code:=43,mei:=C.byteV,kind:=(e9 C).byteV,level:=(eY C).byteV,more:=(fL (eY C)).byteV,next:=(gI (eY C)).byteV,objects:=(dS (e9 C).byteV (eY C)).2 })
theorem oH(hr:∀ x,x∈b→0≤x∧x<256) : aq cG dir c b=aq ca dir c b:=by
  unfold aq
  split
  · rename_i hd
    unfold cG ca
    by_cases hc:c=43
    · subst hc
      have hD:iA (eY ⟨b,false,0⟩):=gV (it (gV (it (C:=⟨b,false,0⟩) hr)))
      have hl:(fA ⟨b,false,0⟩).l.length=(e9 ⟨b,false,0⟩).l.length:=by unfold fA;rw[kN]
      rw[if_neg (show ¬ (((43:Int)!=43)=true) from by decide),if_neg (show ¬ (((43:Int)!=43)=true) from by decide),kY hD,oh hD,ph hD,wB,hl]
      rcases hd with rfl|rfl
      · rw[if_pos (show((0:Int)==0)=true from rfl),if_neg (show ¬ ((0:Int)==1)=true from by decide)]
      · rw[if_neg (show ¬ ((1:Int)==0)=true from by decide),if_pos (show((1:Int)==1)=true from rfl)]
    · rw[if_pos (by simpa using hc),if_pos (by simpa using hc)]
  · rfl
open Go.RowKit
theorem RC.nrow{α:Type}{base sz n c:Nat}{e:TypeId}{R:World→α→List Value→Prop}{B:Option Addr}{xs:List α}         (h:RC w0 m A cp full w g C)(ho:aQ base e sz R w (.slice B n c) xs)(ht:(194==e)=false) : g∉ob B:=by
  obtain⟨k,h1,_⟩:=h.cell
  exact bU h1 ho ht
theorem RC.fld2(h:RC w0 m A cp full w g C) : w.cell? ⟨g,2,none⟩=some (.bool C.sh):=by
  obtain⟨k,h1,_⟩:=h.cell
  rw[c4 h1]
  rfl
def zp (w0:World)(m:Md)(A:Option Addr)(cp:Nat)(full:List Int)(g:Nat)(C':al)(r:dx)(w:World)(e:Ending)(w':World) : Prop:=e = .returned (.agg #[.int .u16 r.file,.int .u16 r.record,.int .u16 r.count,.slice none 0 0])∧ej r.file∧ej r.record∧ej r.count∧RC w0 m A cp full w' g C'∧aD [g] w w'
theorem mK(h : -1≤x∧x≤255) : 0≤Int.tdiv x 2∧Int.tdiv x 2≤127:=by
  by_cases h0:x = -1
  · subst h0;decide
  · rw[Int.tdiv_eq_ediv_of_nonneg (by omega)]
    omega
variable {R:al × List dx}{s:Int}
theorem ik{n:Nat}   {L:List dx}  (h3:(C.e=0∧C.l.length≤n∧aT one n s C L=R)∨(C.e≠0∧R.1=C))(hc:0<C.l.length)(he:C.e=0)(hlt:(one s C).2.1.l.length<C.l.length) :
    ((one s C).2.1.e=0∧(one s C).2.1.l.length≤n-1∧aT one (n-1) (one s C).1 (one s C).2.1 (L++[(one s C).2.2])=R)∨((one s C).2.1.e≠0∧R.1=(one s C).2.1):=by
  rcases h3 with⟨_,hn,hR⟩|⟨h,_⟩
  · obtain⟨k,rfl⟩ : ∃ k,n=k+1:=⟨n-1,by omega⟩
    unfold aT at hR
    rw[if_pos (by rw[he];simpa using hc)] at hR
    by_cases hz:(one s C).2.1.e=0
    · rw[if_neg (by rw[hz];decide)] at hR
      exact .inl ⟨hz,by omega,hR⟩
    · rw[if_pos (by simpa using hz)] at hR
      exact .inr ⟨hz,by rw[← hR]⟩
  · exact absurd he h
theorem fo{n:Nat}   {L:List dx}  (h3:(C.e=0∧C.l.length≤n∧aT one n s C L=R)∨(C.e≠0∧R.1=C))(hq:(decide (0<((C.l.length:Nat) : Int))&&C.e==0)=false) : R.1.e=C.e∧(C.e=0→R.2=L):=by
  rcases h3 with⟨he,hn,hR⟩|⟨h,h2⟩
  · rw[gn one n s C L hq] at hR
    rw[← hR]
    exact⟨rfl,fun _=>rfl⟩
  · rw[h2]
    exact⟨rfl,fun h3=>absurd h3 h⟩
def fF (R:al × List dx)(w:World)(e:Ending)(w':World) : Prop:=∃ A2 n2 c2,e = .returned (.tuple #[.slice A2 n2 c2,.int .i64 (bt R.1.e)])∧(bt R.1.e=0→aQ w.heap.size 98 4 (bC true) w' (.slice A2 n2 c2) R.2)∧aD [] w w'
theorem kU{f:FuncId}{args:Array Value}   (h:Calls Tryz.prog f args w (fF R w))(h0:bt R.1.e=0) : Calls Tryz.prog f args w (fun e w'=>∃ v,e = .returned (.tuple #[v,.int .i64 0])∧aQ w.heap.size 98 4 (bC true) w' v R.2∧aD [] w w'):=by
  refine h.mono ?_
  rintro e w' ⟨A2,n2,c2,rfl,h1,h2⟩
  exact⟨_,by rw[h0],h1 h0,h2⟩
theorem jW{f:FuncId}{args:Array Value}   (h:Calls Tryz.prog f args w (fF R w)) : Calls Tryz.prog f args w (fun e w'=>∃ A2 n2 c2,e = .returned (.tuple #[.slice A2 n2 c2,.int .i64 (bt R.1.e)])∧aD [] w w'):=by
  refine h.mono ?_
  rintro e w' ⟨A2,n2,c2,rfl,h1,h2⟩
  exact⟨A2,n2,c2,rfl,h2⟩
theorem zd(hC:RC w0 m A cp full w g C) : Calls Tryz.prog 225 #[vP g 0] w (zp w0 m A cp full g (dz C) (aP C) w):=by
 have hr:iA C:=RC.rng hC
 refine en 42 Tryz.func225 rfl<|sg<|aK #[vW 0,vW 0,vW 0,nS] fun N O b i a=>aL 1<|?_
 refine az<|m3 (dP (RC.upd hC a ay (aD.step (RC.u hC) a))) fun P c j Q=>Pl 1<|aL 4<|L0<|dX (p:=⟨g,2,none⟩) (v:=.bool ((C.bytesC 1).sh)) (RC.fld2 c)<|Pl 1<|az<|m2 (aX ((!((C.bytesC 1).sh))) 5 c) fun R k l=>aL 3<|az<|m2 (aX ((C.byteV==6)) 9 k) fun S n o=>?_
 refine fB n fun x26 q r=>?_
 refine aL 1<|az<|m3 (cw r) fun T s t U=>Pl 1<|aL 3<|az<|m2 (aX ((decide (0<x26.wordV))) 6 s) fun V y z=>nl<|tn<|ak 1<|az<|m3 (cw y) fun W B D X=>Pl 1<|aL 3<|az<|m2 (aX ((decide ((((x26.wordsC 1).need (decide (0<x26.wordV)) 6).wordV)≤9999))) 7 B) fun Y E F=>?_
 refine fB E fun x43 G H=>?_
 refine aL 1<|az<|m3 (cw H) fun Z I J a0=>Pl 1<|aL 3<|az<|m2 (aX ((decide (0<x43.wordV))) 5 I) fun a1 K L=>nl<|tn<|ak 4<|?_
 have d:=u1 j (u1 l (u1 o (u1 t (u1 z (u1 D (u1 F (u1 J L im) im) im) im) im) im) im) im
 have e:=nb (RC.lt hC) lr b
 refine aE (aY d (Ne.symm e) i) #[vW x26.wordV,vW (((x26.wordsC 1).need (decide (0<x26.wordV)) 6).wordV),vW x43.wordV,nS] fun a2 M f=>p6<|zO M<|?_
 subst G q
 have e1:dz C=(((((((((C.bytesC 1).need (!((C.bytesC 1).sh)) 5).need (C.byteV==6) 9).wordsC 1).need (decide (0<(((C.bytesC 1).need (!((C.bytesC 1).sh)) 5).need (C.byteV==6) 9).wordV)) 6).wordsC 1).need (decide (((((((C.bytesC 1).need (!((C.bytesC 1).sh)) 5).need (C.byteV==6) 9).wordsC 1).need (decide (0<(((C.bytesC 1).need (!((C.bytesC 1).sh)) 5).need (C.byteV==6) 9).wordV)) 6).wordV)≤9999)) 7).wordsC 1).need (decide (0<(((((((C.bytesC 1).need (!((C.bytesC 1).sh)) 5).need (C.byteV==6) 9).wordsC 1).need (decide (0<(((C.bytesC 1).need (!((C.bytesC 1).sh)) 5).need (C.byteV==6) 9).wordV)) 6).wordsC 1).need (decide (((((((C.bytesC 1).need (!((C.bytesC 1).sh)) 5).need (C.byteV==6) 9).wordsC 1).need (decide (0<(((C.bytesC 1).need (!((C.bytesC 1).sh)) 5).need (C.byteV==6) 9).wordV)) 6).wordV)≤9999)) 7).wordV)) 5):=by rw[← tc hr];rfl
 have e2:(aP C).file=(((C.bytesC 1).need (!((C.bytesC 1).sh)) 5).need (C.byteV==6) 9).wordV:=by show(kp C).wordV=_;rw[← vc];rfl
 have e3:(aP C).record=(((((C.bytesC 1).need (!((C.bytesC 1).sh)) 5).need (C.byteV==6) 9).wordsC 1).need (decide (0<(((C.bytesC 1).need (!((C.bytesC 1).sh)) 5).need (C.byteV==6) 9).wordV)) 6).wordV:=by show(ku C).wordV=_;rw[← uT hr];rfl
 have e4:(aP C).count=(((((((C.bytesC 1).need (!((C.bytesC 1).sh)) 5).need (C.byteV==6) 9).wordsC 1).need (decide (0<(((C.bytesC 1).need (!((C.bytesC 1).sh)) 5).need (C.byteV==6) 9).wordV)) 6).wordsC 1).need (decide (((((((C.bytesC 1).need (!((C.bytesC 1).sh)) 5).need (C.byteV==6) 9).wordsC 1).need (decide (0<(((C.bytesC 1).need (!((C.bytesC 1).sh)) 5).need (C.byteV==6) 9).wordV)) 6).wordV)≤9999)) 7).wordV:=by show(pA C).wordV=_;rw[← w6 hr];rfl
 have h:=ue a (us d f) b
 unfold zp
 rw[e1,e2,e3,e4]
 exact⟨rfl,ci (by omega),ci (by omega),ci (by omega),(RC.upd K f (aa e ay) (hC.u.trans' h (fun x hx=>.inr (by simp at hx;subst hx;exact hC.new)))),h⟩
theorem uV(hsl:aO m w (.slice A b.length cp) b)(hb:b.length≤1048576) :
    Calls Tryz.prog 179 #[vI 0,vB 20,.slice A b.length cp] w (fF (aT cU b.length 0 ⟨b,false,0⟩ []) w):=by
 have hln:(b.length:Int)≤1048576:=by omega
 refine en 108 Tryz.func179 rfl<|ak 2<|aL 2<|L0<|dK #[.slice A b.length cp,vI 0,.bool false,vI 0] fun d T D a6 E=>aj 1<|sq<|go<|Pl 1<|cy 1<|sq<|bk<|?_
 have U:RC w _ A cp b T d (al.mk b false 0):=⟨hsl,E,D,⟨0,a6,Nat.zero_le _,rfl⟩,by omega⟩
 refine fE (fun x=>[(0,vI 0),(1,vB 20),(6,nS),(7,vI 0),(8,vP d 0),(9,.slice x.2.2.2.1 x.2.2.1.length x.2.2.2.2.1),(10,vI x.2.2.2.2.2)]) (fun(x:Nat × al × List dx × Option Addr × Nat × Int) w'=>aD [] w w'∧T.heap.size≤w'.heap.size∧RC w m A cp b w' d x.2.1∧aQ w.heap.size 98 4 (bC true) w' (.slice x.2.2.2.1 x.2.2.1.length x.2.2.2.2.1) x.2.2.1∧(0≤x.2.2.2.2.2)∧(x.2.1.e=0→x.2.2.2.2.2≤245)∧(x.2.2.1.length+x.2.1.l.length≤b.length)∧((x.2.1.e=0∧x.2.1.l.length≤x.1∧aT cU x.1 x.2.2.2.2.2 x.2.1 x.2.2.1=aT cU b.length 0 ⟨b,false,0⟩ [])∨(x.2.1.e≠0∧(aT cU b.length 0 ⟨b,false,0⟩ []).1=x.2.1))) (fun x=>x.2.1.l.length) (b.length,(al.mk b false 0),[],none,0,0) ⟨E,lr,U,(aQ.nil w.heap.size _ _ (bC true) _),(by(try dsimp only);omega),(fun _=>(show(0:Int)≤245 from by decide)),(by(try dsimp only);simp),.inl ⟨rfl,Nat.le_refl _,rfl⟩⟩ ?_
 rintro⟨n,C,L,B,cq,s⟩ V ⟨a7,F,a8,a9,ab,ad,ae,af⟩
 refine eH [(0,vI 0),(1,vB 20),(6,nS),(7,vI 0),(8,vP d 0),(9,.slice B L.length cq),(10,vI s)] ?_
 have a:RC w m A cp b V d C:=a8
 have hlC:=RC.clen a
 have hrC:iA C:=RC.rng a
 have i:aQ w.heap.size 98 4 (bC true) V (.slice B L.length cq) L:=a9
 have b1:0≤s:=ab
 have b2:C.e=0→s≤245:=ad
 have b3:L.length+C.l.length≤b.length:=ae
 have G:(C.e=0∧C.l.length≤n∧aT cU n s C L=aT cU b.length 0 ⟨b,false,0⟩ [])∨(C.e≠0∧(aT cU b.length 0 ⟨b,false,0⟩ []).1=C):=af
 refine sq<|ak 1<|az<|m1 (iw a) fun b4 c=>?_
 have b5:=RC.clen a
 refine Pl 2<|cV 6 [20] 26 20 (decide (0<(C.l.length:Int))) (C.e==0) (fun K ag an=>?_) ?_
 have b7:=of_decide_eq_true an
 refine Pl 3<|?_
 exact L1<|dX (p:=⟨d,3,none⟩) (v:=vI C.e) (RC.fld (RC.upd a c ay (aD.step (RC.u a) c)))<|Pl 2<|ce ag _ rfl
 refine nt<|?_
 have H:=aM a7 c
 refine cb (((decide (0<(C.l.length:Int)))&&(C.e==0))) (fun f=>?_) (fun f=>?_)
 have I:=(aR f).1
 have J:=(aR f).2
 have b8:=of_decide_eq_true I
 have ba:=am J
 refine bp<|bk<|ak 1<|aK #[vW 0,vW 0,vW 0,nS] fun bb bc j ao M=>aE ao #[vW 0,vW 0,vW 0,nS] fun bd ap N=>nt<|sq<|ak 6<|nl<|tn<|c0<|ak 1<|?_
 have W:=ud M N j
 have q:=aM c W
 refine az<|m5 (zd (RC.upd a q ay (aD.step (RC.u a) q))) fun be aq ar av aw r=>?_
 obtain⟨bf,bg⟩:=aq
 obtain⟨bl,bm⟩:=ar
 obtain⟨bo,bq⟩:=av
 have O:=nb (RC.lt U) (le F c.size) j
 refine aE (aY r (Ne.symm O) ap) #[vW ((aP C).file),vW ((aP C).record),vW ((aP C).count),nS] fun br X t=>cy 2<|c0<|ak 1<|b6 (s+2)<|Pl 1<|aH X 2<|b6 ((aP C).count)<|b6 (2*((aP C).count))<|b6 ((s+2)+(2*((aP C).count)))<|aj 1<|go<|Pl 3<|?_
 have P:=us r t
 have Y:=ud H (ue W P j) D
 refine az<|m2 (aX ((decide (((s+2)+(2*((aP C).count)))≤245))) 5 (RC.upd aw t (aa O ay) Y)) fun bs aF k=>?_
 refine fB aF fun x68 aG Z=>?_
 refine nt<|go<|Pl 1<|?_
 refine L0<|cO (aY k (Ne.symm O) X)<|L0<|ep (m:=1) (e:=98) #[vW ((aP C).file),vW ((aP C).record),vW ((aP C).count),nS] fun bu bv bw aJ y=>?_
 have aS:=ky (R:=bC true) (x:=(dx.mk ((aP C).file) ((aP C).record) ((aP C).count) ([]))) aJ rfl ⟨_,rfl,(aI.nil true _ _ _ _),ci (x:=(aP C).file) (by omega),ci (x:=(aP C).record) (by omega),ci (x:=(aP C).count) (by omega)⟩
 have a0:=aM k y
 have a1:=ue q (u1 P a0 im) (le c.size j)
 have a2:=ai i a1 (fun x hx=>(aa (fun e=>(RC.nrow a i (by decide)) (e▸hx)) ay)) (bC.upd16 a1 (ah (RC.safe a _ (by decide)) aC))
 refine L0<|gL (xs:=L) (ys:=([(dx.mk ((aP C).file) ((aP C).record) ((aP C).count) ([]))])) (.agg #[vW 0,vW 0,vW 0,nS]) 4 32 a2 aS (by simp) bC.ones (fun w' hv=>bC.upd16 hv (b9 (bi _ a2 (by decide)) aC)) (by(try simp only[cD,aN]);omega) (le (le (le (le (le (le (le (le E.size F) c.size) M.size) N.size) r.size) t.size) k.size) y.size) fun aU aV bz aW Q=>Pl 1<|nl<|bn<|?_
 subst aG
 have hC2:(cU s C).2.1=((dz C).need (decide (((s+2)+(2*((aP C).count)))≤245)) 5):=by show eM s C=_;(try simp only[eM,eu,← Int.add_assoc,f,I,J,bj]);all_goals rfl
 have hM2:[(cU s C).2.2]=[(dx.mk ((aP C).file) ((aP C).record) ((aP C).count) ([]))]:=by show[aP C]=_;(try simp only[eM,eu,← Int.add_assoc,f,I,J,bj]);all_goals rfl
 have hS2:(cU s C).1=((s+2)+(2*((aP C).count))):=by(try (show eu s C=_));(try simp only[eu,← Int.add_assoc]);all_goals rfl
 have hlt:=rO s C (by omega)
 have h9:=ik (one:=cU) G (by omega) (by omega) hlt
 rw[hC2,hM2,hS2] at h9
 rw[hC2] at hlt
 have a3:=ut Y (ut (aD.mono (S':=(d :: (ob B++[]))) a0 (ac im aA)) Q (aB il aA)) (ac (nr D) (aB (bE i lr) aA))
 have a4:=ue q (u1 P k im) (le c.size j)
 exact dH ((n-1),((dz C).need (decide (((s+2)+(2*((aP C).count)))≤245)) 5),(L++[(dx.mk ((aP C).file) ((aP C).record) ((aP C).count) ([]))]),aU,aV,((s+2)+(2*((aP C).count)))) ⟨a3,(le (le (le (le (le (le (le (le F c.size) M.size) N.size) r.size) t.size) k.size) y.size) Q.size),(RC.upd Z (ut (aD.mono (S':=(ob B++[])) y aA) Q (aB il aA)) (aZ (RC.nrow Z (ai i a4 (fun x hx=>(aa (fun e=>(RC.nrow a i (by decide)) (e▸hx)) ay)) (bC.upd16 a4 (ah (RC.safe a _ (by decide)) aC))) (by decide)) ay) a3),aW,(by(try dsimp only);omega),(by(try dsimp only);intro he;have hk:=(rB (by decide) he).2;simp only[decide_eq_true_eq] at hk;omega),(by(try dsimp only);simp only[cD];omega),h9⟩ (by omega)
 refine xt<|tx<|tx<|bx<|tn<|sq<|ak 3<|?_
 have S:=RC.upd a c ay (aD.step (RC.u a) c)
 refine L0<|dX (p:=⟨d,3,none⟩) (v:=vI C.e) (RC.fld S)<|aj 1<|cb ((C.e==2)) (fun o=>?_) (fun o=>?_)
 have b0:=am o
 refine ax 2<|bh<|rr (.tuple #[nS,vI 5])<|?_
 obtain⟨kp,ku⟩:=fo G f
 have hw:bt (aT cU b.length 0 ⟨b,false,0⟩ []).1.e=5:=by unfold bt;rw[kp,if_pos o]
 refine⟨none,0,0,by rw[hw],fun h=>absurd (hw.symm.trans h) (by decide),H⟩
 have b0:=au o
 refine bp<|sq<|Rg 7 (fun w'=>w'.cell? ⟨d,3,none⟩=some (vI C.e)) fun bA z=>?_
 refine bB (RC.fld (RC.upd S z ay (aD.step (RC.u S) z))) fun g=>Rt 0 g<|Rt 1 g<|Rt 2 g<|Rt 3 g<|Rl 4 g (fun _ hs=>hs)<|Rt 5 g<|Rt 6 g<|re<|tn<|rt<|rr (.tuple #[.slice B L.length cq,vI C.e])<|?_
 obtain⟨kp,ku⟩:=fo G f
 have hw:bt (aT cU b.length 0 ⟨b,false,0⟩ []).1.e=C.e:=by unfold bt;rw[kp,if_neg (by rw[o];decide)]
 have a5:=aM c z
 refine⟨_,_,_,by rw[hw],fun h=>by rw[ku (hw.symm.trans h)];exact(ai i a5 (fun x hx=>ay) (bC.upd16 a5 aC)),(aM H z)⟩
theorem wL(hsl:aO m w (.slice A b.length cp) b)(hb:b.length≤1048576) :
    Calls Tryz.prog 179 #[vI 1,vB 20,.slice A b.length cp] w (fF (aT bR b.length 0 ⟨b,false,0⟩ []) w):=by
 have hln:(b.length:Int)≤1048576:=by omega
 refine en 108 Tryz.func179 rfl<|ak 2<|aL 2<|L0<|dK #[.slice A b.length cp,vI 0,.bool false,vI 0] fun f ae I be J=>aj 1<|sq<|go<|Pl 1<|cy 1<|sq<|bk<|?_
 have X:RC w _ A cp b ae f (al.mk b false 0):=⟨hsl,J,I,⟨0,be,Nat.zero_le _,rfl⟩,by omega⟩
 refine fE (fun x=>[(0,vI 1),(1,vB 20),(6,nS),(7,vI 0),(8,vP f 0),(9,.slice x.2.2.2.1 x.2.2.1.length x.2.2.2.2.1),(10,vI x.2.2.2.2.2)]) (fun(x:Nat × al × List dx × Option Addr × Nat × Int) w'=>aD [] w w'∧ae.heap.size≤w'.heap.size∧RC w m A cp b w' f x.2.1∧aQ w.heap.size 98 4 (bC true) w' (.slice x.2.2.2.1 x.2.2.1.length x.2.2.2.2.1) x.2.2.1∧(0≤x.2.2.2.2.2)∧(x.2.1.e=0→x.2.2.2.2.2≤245)∧(x.2.2.1.length+x.2.1.l.length≤b.length)∧((x.2.1.e=0∧x.2.1.l.length≤x.1∧aT bR x.1 x.2.2.2.2.2 x.2.1 x.2.2.1=aT bR b.length 0 ⟨b,false,0⟩ [])∨(x.2.1.e≠0∧(aT bR b.length 0 ⟨b,false,0⟩ []).1=x.2.1))) (fun x=>x.2.1.l.length) (b.length,(al.mk b false 0),[],none,0,0) ⟨J,lr,X,(aQ.nil w.heap.size _ _ (bC true) _),(by(try dsimp only);omega),(fun _=>(show(0:Int)≤245 from by decide)),(by(try dsimp only);simp),.inl ⟨rfl,Nat.le_refl _,rfl⟩⟩ ?_
 rintro⟨n,C,L,B,cq,s⟩ af ⟨bf,r,bg,bm,bo,bq,br,bs⟩
 refine eH [(0,vI 1),(1,vB 20),(6,nS),(7,vI 0),(8,vP f 0),(9,.slice B L.length cq),(10,vI s)] ?_
 have a:RC w m A cp b af f C:=bg
 have hlC:=RC.clen a
 have hrC:iA C:=RC.rng a
 have d:aQ w.heap.size 98 4 (bC true) af (.slice B L.length cq) L:=bm
 have c5:0≤s:=bo
 have c6:C.e=0→s≤245:=bq
 have c7:L.length+C.l.length≤b.length:=br
 have M:(C.e=0∧C.l.length≤n∧aT bR n s C L=aT bR b.length 0 ⟨b,false,0⟩ [])∨(C.e≠0∧(aT bR b.length 0 ⟨b,false,0⟩ []).1=C):=bs
 refine sq<|ak 1<|az<|m1 (iw a) fun c8 c=>?_
 have c9:=RC.clen a
 refine Pl 2<|cV 6 [20] 26 20 (decide (0<(C.l.length:Int))) (C.e==0) (fun K bu bv=>?_) ?_
 have ca:=of_decide_eq_true bv
 refine Pl 3<|?_
 exact L1<|dX (p:=⟨f,3,none⟩) (v:=vI C.e) (RC.fld (RC.upd a c ay (aD.step (RC.u a) c)))<|Pl 2<|ce bu _ rfl
 refine nt<|?_
 have z:=aM bf c
 refine cb (((decide (0<(C.l.length:Int)))&&(C.e==0))) (fun g=>?_) (fun g=>?_)
 have D:=(aR g).1
 have E:=(aR g).2
 have cc:=of_decide_eq_true D
 have cd:=am E
 refine bp<|bk<|ak 1<|aK #[vW 0,vW 0,vW 0,nS] fun N cf j Y F=>aE Y #[vW 0,vW 0,vW 0,nS] fun cg an k=>nt<|sq<|ak 6<|nl<|tn<|c1<|ak 1<|?_
 have ao:=ud F k j
 have t:=aM c ao
 refine az<|m3 (dP (RC.upd a t ay (aD.step (RC.u a) t))) fun ch G i cj=>b6 C.byteV<|Pl 1<|aL 2<|L0<|Oe (vI (Int.tmod C.byteV 2)) (vI (C.byteV%2)) (congrArg (Value.int .i64) (Int.tmod_eq_emod_of_nonneg (by omega)))<|Pl 2<|cV 3 [41] 44 41 ((C.byteV%2)==1) (decide (3≤C.byteV)) (fun K bw bz=>?_) ?_
 have ck:=am bz
 exact Pl 3<|ce bw _ rfl
 refine Pl 1<|?_
 have ap:=ud z (uz ao i) I
 refine bl 45 ((((C.byteV%2)==1)&&(decide (3≤C.byteV)))) (fun o=>?_) (fun o=>?_)
 have Z:=(aR o).1
 have a0:=(aR o).2
 have cl:=am Z
 have cm:=of_decide_eq_true a0
 refine Pl 2<|L1<|Oc<|m1 (iw G) fun cn y=>?_
 have co:=RC.clen G
 refine Pl 2<|?_
 refine az<|m2 (aX ((decide (C.byteV≤(((C.bytesC 1).l.length:Nat) : Int)))) 5 (RC.upd G y ay (aD.step (RC.u G) y))) fun cr bA O=>?_
 refine fB bA fun x66 bD bF=>?_
 refine aL 1<|az<|m3 (dP bF) fun cs bG P ct=>Pl 1<|aL 3<|az<|m2 (aX ((x66.byteV==6)) 9 bG) fun cu bH Q=>nl<|tn<|go<|Pl 2<|b6 (C.byteV-1)<|?_
 have cv:=mK (x:=(C.byteV-1)) (by omega)
 refine L0<|Oe (vI (IntKind.i64.wrap (Int.tdiv (C.byteV-1) 2))) (vI (Int.tdiv (C.byteV-1) 2)) (congrArg (Value.int .i64) (lD (by omega) (by omega)))<|az<|kF (fR (n:=(Int.tdiv (C.byteV-1) 2)) (by omega) bH) fun aq ar cw av cx cz bJ a1=>?_
 refine fB bJ fun x82 bK aw=>?_
 refine Pl 1<|?_
 have aF:=uz y (u1 O (u1 P (u1 Q a1 im) im) im)
 have a2:=u1 i aF im
 have aH:=nb (RC.lt X) (le r c.size) j
 refine L0<|bI (aY a2 (Ne.symm aH) an) 3 #[vW 0,vW 0,vW 0,.slice aq ((((x66.bytesC 1).need (x66.byteV==6) 9).wordsR (Int.tdiv (C.byteV-1) 2)).length) ar] fun cA bL a3=>nt<|go<|Pl 1<|L0<|cO bL<|L0<|ep (m:=1) (e:=98) #[vW 0,vW 0,vW 0,.slice aq ((((x66.bytesC 1).need (x66.byteV==6) 9).wordsR (Int.tdiv (C.byteV-1) 2)).length) ar] fun cB cC cE bM a4=>?_
 have a5:=aM a3 a4
 have bN:=ky (R:=bC true) (x:=(dx.mk 0 0 0 (((x66.bytesC 1).need (x66.byteV==6) 9).wordsR (Int.tdiv (C.byteV-1) 2)))) bM rfl ⟨_,rfl,((ai av a5 (fun x hx=>(aa (fun e=>(aG (ag Y) (le (le (le (le (le k.size i.size) y.size) O.size) P.size) Q.size) av) (e▸hx)) ay)) (fun _ _ h=>h))).rd,ci (x:=0) (by omega),ci (x:=0) (by omega),ci (x:=0) (by omega)⟩
 have aI:=ue t (us a2 a5) (le c.size j)
 have aJ:=ai d aI (fun x hx=>(aa (fun e=>(RC.nrow a d (by decide)) (e▸hx)) ay)) (bC.upd16 aI (ah (RC.safe a _ (by decide)) aC))
 refine L0<|gL (xs:=L) (ys:=([(dx.mk 0 0 0 (((x66.bytesC 1).need (x66.byteV==6) 9).wordsR (Int.tdiv (C.byteV-1) 2)))])) (.agg #[vW 0,vW 0,vW 0,nS]) 4 32 aJ bN (by simp) bC.ones (fun w' hv=>bC.upd16 hv (b9 (bi _ aJ (by decide)) aC)) (by(try simp only[cD,aN]);omega) (le (le (le (le (le (le (le (le (le (le (le (le J.size r) c.size) F.size) k.size) i.size) y.size) O.size) P.size) Q.size) a1.size) a3.size) a4.size) fun bO bP cF bQ aP=>Pl 1<|nl<|bn<|?_
 subst bK bD
 have hC2:(bR s C).2.1=(((((C.bytesC 1).need (decide (C.byteV≤(((C.bytesC 1).l.length:Nat) : Int))) 5).bytesC 1).need (((C.bytesC 1).need (decide (C.byteV≤(((C.bytesC 1).l.length:Nat) : Int))) 5).byteV==6) 9).wordsC (Int.tdiv (C.byteV-1) 2)):=by show eT C=_;(try simp only[eT,eI,iB,iD,g,D,E,o,Z,a0,bj]);all_goals rfl
 have hM2:[(bR s C).2.2]=[(dx.mk 0 0 0 (((((C.bytesC 1).need (decide (C.byteV≤(((C.bytesC 1).l.length:Nat) : Int))) 5).bytesC 1).need (((C.bytesC 1).need (decide (C.byteV≤(((C.bytesC 1).l.length:Nat) : Int))) 5).byteV==6) 9).wordsR (Int.tdiv (C.byteV-1) 2)))]:=by show[eI C]=_;(try simp only[eT,eI,iB,iD,g,D,E,o,Z,a0,bj]);all_goals rfl
 have hS2:(bR s C).1=s:=by(try (show s=_));(try simp only[eu,← Int.add_assoc]);all_goals rfl
 have hlt:=lc s C (by omega)
 have h9:=ik (one:=bR) M (by omega) (by omega) hlt
 rw[hC2,hM2,hS2] at h9
 rw[hC2] at hlt
 have aS:=ut (aD.mono (S':=(N :: (ob B++[]))) a5 (ac im aA)) aP (aB il aA)
 have aU:=ut ap (ut (aD.mono (S':=(f :: (N :: (ob B++[])))) aF (ac im aA)) aS (ac im (aB il aA))) (ac (nr I) (ac (ni z.size j) (aB (bE d lr) aA)))
 have aV:=uz t a2
 exact dH ((n-1),(((((C.bytesC 1).need (decide (C.byteV≤(((C.bytesC 1).l.length:Nat) : Int))) 5).bytesC 1).need (((C.bytesC 1).need (decide (C.byteV≤(((C.bytesC 1).l.length:Nat) : Int))) 5).byteV==6) 9).wordsC (Int.tdiv (C.byteV-1) 2)),(L++[(dx.mk 0 0 0 (((((C.bytesC 1).need (decide (C.byteV≤(((C.bytesC 1).l.length:Nat) : Int))) 5).bytesC 1).need (((C.bytesC 1).need (decide (C.byteV≤(((C.bytesC 1).l.length:Nat) : Int))) 5).byteV==6) 9).wordsR (Int.tdiv (C.byteV-1) 2)))]),bO,bP,s) ⟨aU,(le (le (le (le (le (le (le (le (le (le (le (le r c.size) F.size) k.size) i.size) y.size) O.size) P.size) Q.size) a1.size) a3.size) a4.size) aP.size),(RC.upd aw aS (aa aH (aZ (RC.nrow aw (ai d aV (fun x hx=>(aa (fun e=>(RC.nrow a d (by decide)) (e▸hx)) ay)) (bC.upd16 aV (ah (RC.safe a _ (by decide)) aC))) (by decide)) ay)) aU),bQ,(by(try dsimp only);omega),(by(try dsimp only);intro he;omega),(by(try dsimp only);simp only[cD];omega),h9⟩ (by omega)
 refine Pl 5<|az<|m2 (aX (false) 5 G) fun cG bS S=>aL 1<|az<|m3 (dP bS) fun cH bT T cI=>Pl 1<|aL 3<|az<|m2 (aX (((((C.bytesC 1).need false 5).byteV)==6)) 9 bT) fun cJ bU U=>?_
 refine fB bU fun V bV bW=>?_
 refine nt<|go<|Pl 2<|b6 (C.byteV-1)<|?_
 have cK:=mK (x:=(C.byteV-1)) (by omega)
 refine L0<|Oe (vI (IntKind.i64.wrap (Int.tdiv (C.byteV-1) 2))) (vI (Int.tdiv (C.byteV-1) 2)) (congrArg (Value.int .i64) (lD (by omega) (by omega)))<|az<|kF (fR (n:=(Int.tdiv (C.byteV-1) 2)) (by omega) bW) fun aW b0 cL b1 cM cN b2 a6=>Pl 1<|?_
 have b3:=u1 S (u1 T (u1 U a6 im) im) im
 have a7:=u1 i b3 im
 have b4:=nb (RC.lt X) (le r c.size) j
 refine L0<|bI (aY a7 (Ne.symm b4) an) 3 #[vW 0,vW 0,vW 0,.slice aW ((V.wordsR (Int.tdiv (C.byteV-1) 2)).length) b0] fun cP bX a8=>nt<|go<|Pl 1<|L0<|cO bX<|L0<|ep (m:=1) (e:=98) #[vW 0,vW 0,vW 0,.slice aW ((V.wordsR (Int.tdiv (C.byteV-1) 2)).length) b0] fun cQ cR cS bY a9=>?_
 have ab:=aM a8 a9
 have bZ:=ky (R:=bC true) (x:=(dx.mk 0 0 0 (V.wordsR (Int.tdiv (C.byteV-1) 2)))) bY rfl ⟨_,rfl,((ai b1 ab (fun x hx=>(aa (fun e=>(aG (ag Y) (le (le (le (le k.size i.size) S.size) T.size) U.size) b1) (e▸hx)) ay)) (fun _ _ h=>h))).rd,ci (x:=0) (by omega),ci (x:=0) (by omega),ci (x:=0) (by omega)⟩
 have b5:=ue t (us a7 ab) (le c.size j)
 have b7:=ai d b5 (fun x hx=>(aa (fun e=>(RC.nrow a d (by decide)) (e▸hx)) ay)) (bC.upd16 b5 (ah (RC.safe a _ (by decide)) aC))
 refine L0<|gL (xs:=L) (ys:=([(dx.mk 0 0 0 (V.wordsR (Int.tdiv (C.byteV-1) 2)))])) (.agg #[vW 0,vW 0,vW 0,nS]) 4 32 b7 bZ (by simp) bC.ones (fun w' hv=>bC.upd16 hv (b9 (bi _ b7 (by decide)) aC)) (by(try simp only[cD,aN]);omega) (le (le (le (le (le (le (le (le (le (le (le J.size r) c.size) F.size) k.size) i.size) S.size) T.size) U.size) a6.size) a8.size) a9.size) fun c0 c2 cT c3 b8=>Pl 1<|nl<|bn<|?_
 subst bV
 have hC2:(bR s C).2.1=(((((C.bytesC 1).need false 5).bytesC 1).need ((((C.bytesC 1).need false 5).byteV)==6) 9).wordsC (Int.tdiv (C.byteV-1) 2)):=by show eT C=_;(try simp only[eT,eI,iB,iD,g,D,E,o,bj]);all_goals rfl
 have hM2:[(bR s C).2.2]=[(dx.mk 0 0 0 (((((C.bytesC 1).need false 5).bytesC 1).need ((((C.bytesC 1).need false 5).byteV)==6) 9).wordsR (Int.tdiv (C.byteV-1) 2)))]:=by show[eI C]=_;(try simp only[eT,eI,iB,iD,g,D,E,o,bj]);all_goals rfl
 have hS2:(bR s C).1=s:=by(try (show s=_));(try simp only[eu,← Int.add_assoc]);all_goals rfl
 have hlt:=lc s C (by omega)
 have h9:=ik (one:=bR) M (by omega) (by omega) hlt
 rw[hC2,hM2,hS2] at h9
 rw[hC2] at hlt
 have ba:=ut (aD.mono (S':=(N :: (ob B++[]))) ab (ac im aA)) b8 (aB il aA)
 have bb:=ut ap (ut (aD.mono (S':=(f :: (N :: (ob B++[])))) b3 (ac im aA)) ba (ac im (aB il aA))) (ac (nr I) (ac (ni z.size j) (aB (bE d lr) aA)))
 have bc:=uz t a7
 exact dH ((n-1),(((((C.bytesC 1).need false 5).bytesC 1).need ((((C.bytesC 1).need false 5).byteV)==6) 9).wordsC (Int.tdiv (C.byteV-1) 2)),(L++[(dx.mk 0 0 0 (((((C.bytesC 1).need false 5).bytesC 1).need ((((C.bytesC 1).need false 5).byteV)==6) 9).wordsR (Int.tdiv (C.byteV-1) 2)))]),c0,c2,s) ⟨bb,(le (le (le (le (le (le (le (le (le (le (le r c.size) F.size) k.size) i.size) S.size) T.size) U.size) a6.size) a8.size) a9.size) b8.size),(RC.upd b2 ba (aa b4 (aZ (RC.nrow b2 (ai d bc (fun x hx=>(aa (fun e=>(RC.nrow a d (by decide)) (e▸hx)) ay)) (bC.upd16 bc (ah (RC.safe a _ (by decide)) aC))) (by decide)) ay)) bb),c3,(by(try dsimp only);omega),(by(try dsimp only);intro he;omega),(by(try dsimp only);simp only[cD];omega),h9⟩ (by omega)
 refine xt<|tx<|tx<|bx<|tn<|sq<|ak 3<|?_
 have ad:=RC.upd a c ay (aD.step (RC.u a) c)
 refine L0<|dX (p:=⟨f,3,none⟩) (v:=vI C.e) (RC.fld ad)<|aj 1<|cb ((C.e==2)) (fun H=>?_) (fun H=>?_)
 have c4:=am H
 refine ax 2<|bh<|rr (.tuple #[nS,vI 5])<|?_
 obtain⟨kp,ku⟩:=fo M g
 have hw:bt (aT bR b.length 0 ⟨b,false,0⟩ []).1.e=5:=by unfold bt;rw[kp,if_pos H]
 refine⟨none,0,0,by rw[hw],fun h=>absurd (hw.symm.trans h) (by decide),z⟩
 have c4:=au H
 refine bp<|sq<|Rg 7 (fun w'=>w'.cell? ⟨f,3,none⟩=some (vI C.e)) fun cU W=>?_
 refine bB (RC.fld (RC.upd ad W ay (aD.step (RC.u ad) W))) fun q=>Rt 0 q<|Rt 1 q<|Rt 2 q<|Rt 3 q<|Rl 4 q (fun _ hs=>hs)<|Rt 5 q<|Rt 6 q<|re<|tn<|rt<|rr (.tuple #[.slice B L.length cq,vI C.e])<|?_
 obtain⟨kp,ku⟩:=fo M g
 have hw:bt (aT bR b.length 0 ⟨b,false,0⟩ []).1.e=C.e:=by unfold bt;rw[kp,if_neg (by rw[H];decide)]
 have bd:=aM c W
 refine⟨_,_,_,by rw[hw],fun h=>by rw[ku (hw.symm.trans h)];exact(ai d bd (fun x hx=>ay) (bC.upd16 bd aC)),(aM z W)⟩
theorem vf(hsl:aO m w (.slice A b.length cp) b)(hb:b.length≤1048576) :
    Calls Tryz.prog 179 #[vI dir,vB 21,.slice A b.length cp] w (fF (aT cP b.length 0 ⟨b,false,0⟩ []) w):=by
 have hln:(b.length:Int)≤1048576:=by omega
 refine en 108 Tryz.func179 rfl<|ak 2<|aL 2<|L0<|dK #[.slice A b.length cp,vI 0,.bool false,vI 0] fun d a2 M aI N=>aj 1<|sq<|go<|Pl 1<|cy 1<|sq<|bk<|?_
 have a3:RC w _ A cp b a2 d (al.mk b false 0):=⟨hsl,N,M,⟨0,aI,Nat.zero_le _,rfl⟩,by omega⟩
 refine fE (fun x=>[(0,vI dir),(1,vB 21),(6,nS),(7,vI 0),(8,vP d 0),(9,.slice x.2.2.2.1 x.2.2.1.length x.2.2.2.2.1),(10,vI x.2.2.2.2.2)]) (fun(x:Nat × al × List dx × Option Addr × Nat × Int) w'=>aD [] w w'∧a2.heap.size≤w'.heap.size∧RC w m A cp b w' d x.2.1∧aQ w.heap.size 98 4 (bC true) w' (.slice x.2.2.2.1 x.2.2.1.length x.2.2.2.2.1) x.2.2.1∧(0≤x.2.2.2.2.2)∧(x.2.1.e=0→x.2.2.2.2.2≤245)∧(x.2.2.1.length+x.2.1.l.length≤b.length)∧((x.2.1.e=0∧x.2.1.l.length≤x.1∧aT cP x.1 x.2.2.2.2.2 x.2.1 x.2.2.1=aT cP b.length 0 ⟨b,false,0⟩ [])∨(x.2.1.e≠0∧(aT cP b.length 0 ⟨b,false,0⟩ []).1=x.2.1))) (fun x=>x.2.1.l.length) (b.length,(al.mk b false 0),[],none,0,0) ⟨N,lr,a3,(aQ.nil w.heap.size _ _ (bC true) _),(by(try dsimp only);omega),(fun _=>(show(0:Int)≤245 from by decide)),(by(try dsimp only);simp),.inl ⟨rfl,Nat.le_refl _,rfl⟩⟩ ?_
 rintro⟨n,C,L,B,cq,s⟩ a4 ⟨aJ,O,aS,aU,aV,aW,b0,b1⟩
 refine eH [(0,vI dir),(1,vB 21),(6,nS),(7,vI 0),(8,vP d 0),(9,.slice B L.length cq),(10,vI s)] ?_
 have a:RC w m A cp b a4 d C:=aS
 have hlC:=RC.clen a
 have hrC:iA C:=RC.rng a
 have j:aQ w.heap.size 98 4 (bC true) a4 (.slice B L.length cq) L:=aU
 have bu:0≤s:=aV
 have bv:C.e=0→s≤245:=aW
 have bw:L.length+C.l.length≤b.length:=b0
 have P:(C.e=0∧C.l.length≤n∧aT cP n s C L=aT cP b.length 0 ⟨b,false,0⟩ [])∨(C.e≠0∧(aT cP b.length 0 ⟨b,false,0⟩ []).1=C):=b1
 refine sq<|ak 1<|az<|m1 (iw a) fun bz c=>?_
 have bA:=RC.clen a
 refine Pl 2<|cV 6 [20] 26 20 (decide (0<(C.l.length:Int))) (C.e==0) (fun K b2 b3=>?_) ?_
 have bD:=of_decide_eq_true b3
 refine Pl 3<|?_
 exact L1<|dX (p:=⟨d,3,none⟩) (v:=vI C.e) (RC.fld (RC.upd a c ay (aD.step (RC.u a) c)))<|Pl 2<|ce b2 _ rfl
 refine nt<|?_
 have E:=aM aJ c
 refine cb (((decide (0<(C.l.length:Int)))&&(C.e==0))) (fun g=>?_) (fun g=>?_)
 have Q:=(aR g).1
 have S:=(aR g).2
 have bG:=of_decide_eq_true Q
 have bH:=am S
 refine bp<|bk<|ak 1<|aK #[vW 0,vW 0,vW 0,nS] fun T bJ k a5 U=>aE a5 #[vW 0,vW 0,vW 0,nS] fun bK b4 F=>nt<|sq<|ak 6<|nl<|tn<|c0<|ak 1<|?_
 have a6:=ud U F k
 have G:=aM c a6
 refine az<|m5 (zd (RC.upd a G ay (aD.step (RC.u a) G))) fun bL b5 b7 b8 ba r=>?_
 obtain⟨bM,bN⟩:=b5
 obtain⟨bO,bP⟩:=b7
 obtain⟨bQ,bR⟩:=b8
 have t:=nb (RC.lt a3) (le O c.size) k
 refine aE (aY r (Ne.symm t) b4) #[vW ((aP C).file),vW ((aP C).record),vW ((aP C).count),nS] fun bS bb H=>cy 2<|c1<|sq<|Rg 9 (fun w'=>w'.cell? ⟨T,2,none⟩=some (vW ((aP C).count))) fun bT y=>?_
 have a7:=ub y bb
 refine bB (ap a7 rfl) fun o=>Rt 0 o<|Rt 1 o<|Rl 2 o (fun _ hs=>hs)<|Rr 3 o (vI ((aP C).count)) (fun _ _=>bF (vI (IntKind.i64.wrap ((aP C).count))) (by kernel_rfl) (congrArg (Value.int .i64) (i64_in (by omega))))<|Rr 4 o (vI (2*((aP C).count))) (fun _ _=>bF (vI (IntKind.i64.wrap (2*((aP C).count)))) (by kernel_rfl) (congrArg (Value.int .i64) (IntWalk.i64_in _ (by omega))))<|Rt 5 o<|?_
 have a8:=aM H y
 have V:=us r a8
 have a9:=ud E (ue a6 V k) M
 have I:=RC.upd ba a8 (aa t ay) a9
 refine R0 6 rfl<|Oc<|m1 (iw I) fun bU f=>?_
 have bV:=RC.clen I
 have ab:=ub f a7
 refine bB (ap ab rfl) fun bc=>Rt 7 bc<|?_
 refine R0 8 rfl<|Oc<|m2 (aX ((decide ((2*((aP C).count))≤(((dz C).l.length:Nat) : Int)))) 5 (RC.upd I f ay (aD.step (RC.u I) f))) fun bW bd q=>?_
 refine fB bd fun x93 be bf=>?_
 have W:=aY q (Ne.symm t) ab
 refine bB (ap W rfl) fun bX=>re<|tn<|go<|Pl 2<|aH W 2<|b6 ((aP C).count)<|az<|kF (fR (n:=(aP C).count) (by omega) bf) fun ad ae bY af bZ c2 an z=>Pl 1<|?_
 refine L0<|bI (aY z (Ne.symm t) W) 3 #[vW ((aP C).file),vW ((aP C).record),vW ((aP C).count),.slice ad ((x93.wordsR ((aP C).count)).length) ae] fun c3 bg X=>nt<|go<|Pl 1<|L0<|cO bg<|L0<|ep (m:=1) (e:=98) #[vW ((aP C).file),vW ((aP C).record),vW ((aP C).count),.slice ad ((x93.wordsR ((aP C).count)).length) ae] fun c4 c5 c6 bl Y=>?_
 have Z:=aM X Y
 have bm:=ky (R:=bC true) (x:=(dx.mk ((aP C).file) ((aP C).record) ((aP C).count) (x93.wordsR ((aP C).count)))) bl rfl ⟨_,rfl,((ai af Z (fun x hx=>(aa (fun e=>(aG (ag a5) (le (le (le (le (le F.size r.size) H.size) y.size) f.size) q.size) af) (e▸hx)) ay)) (fun _ _ h=>h))).rd,ci (x:=(aP C).file) (by omega),ci (x:=(aP C).record) (by omega),ci (x:=(aP C).count) (by omega)⟩
 have ao:=uz f (ui q (us z Z))
 have aq:=ue G (ut V ao (ac im (ac im aA))) (le c.size k)
 have ar:=ai j aq (fun x hx=>(aa (fun e=>(RC.nrow a j (by decide)) (e▸hx)) ay)) (bC.upd16 aq (ah (RC.safe a _ (by decide)) aC))
 refine L0<|gL (xs:=L) (ys:=([(dx.mk ((aP C).file) ((aP C).record) ((aP C).count) (x93.wordsR ((aP C).count)))])) (.agg #[vW 0,vW 0,vW 0,nS]) 4 32 ar bm (by simp) bC.ones (fun w' hv=>bC.upd16 hv (b9 (bi _ ar (by decide)) aC)) (by(try simp only[cD,aN]);omega) (le (le (le (le (le (le (le (le (le (le (le (le N.size O) c.size) U.size) F.size) r.size) H.size) y.size) f.size) q.size) z.size) X.size) Y.size) fun bo bq c7 br a0=>Pl 1<|nl<|bn<|?_
 subst be
 have hC2:(cP s C).2.1=(((dz C).need (decide ((2*((aP C).count))≤(((dz C).l.length:Nat) : Int))) 5).wordsC ((aP C).count)):=by show ju C=_;(try simp only[ju,iQ,ot,g,Q,S,bj]);all_goals rfl
 have hM2:[(cP s C).2.2]=[(dx.mk ((aP C).file) ((aP C).record) ((aP C).count) (((dz C).need (decide ((2*((aP C).count))≤(((dz C).l.length:Nat) : Int))) 5).wordsR ((aP C).count)))]:=by show[iQ C]=_;(try simp only[ju,iQ,ot,g,Q,S,bj]);all_goals rfl
 have hS2:(cP s C).1=s:=by(try (show s=_));(try simp only[eu,← Int.add_assoc]);all_goals rfl
 have hlt:=s1 s C (by omega)
 have h9:=ik (one:=cP) P (by omega) (by omega) hlt
 rw[hC2,hM2,hS2] at h9
 rw[hC2] at hlt
 have av:=ut a9 (ut (aD.mono (S':=(d :: (T :: (ob B++[])))) ao (ac im (ac im aA))) a0 (aB il aA)) (ac (nr M) (ac (ni E.size k) (aB (bE j lr) aA)))
 have aw:=ue G (u1 V (uz f (u1 q z im)) im) (le c.size k)
 exact dH ((n-1),(((dz C).need (decide ((2*((aP C).count))≤(((dz C).l.length:Nat) : Int))) 5).wordsC ((aP C).count)),(L++[(dx.mk ((aP C).file) ((aP C).record) ((aP C).count) (((dz C).need (decide ((2*((aP C).count))≤(((dz C).l.length:Nat) : Int))) 5).wordsR ((aP C).count)))]),bo,bq,s) ⟨av,(le (le (le (le (le (le (le (le (le (le (le (le O c.size) U.size) F.size) r.size) H.size) y.size) f.size) q.size) z.size) X.size) Y.size) a0.size),(RC.upd an (ut (aD.mono (S':=(T :: (ob B++[]))) Z (ac im aA)) a0 (aB il aA)) (aa t (aZ (RC.nrow an (ai j aw (fun x hx=>(aa (fun e=>(RC.nrow a j (by decide)) (e▸hx)) ay)) (bC.upd16 aw (ah (RC.safe a _ (by decide)) aC))) (by decide)) ay)) av),br,(by(try dsimp only);omega),(by(try dsimp only);intro he;omega),(by(try dsimp only);simp only[cD];omega),h9⟩ (by omega)
 refine xt<|tx<|tx<|bx<|tn<|sq<|ak 3<|?_
 have a1:=RC.upd a c ay (aD.step (RC.u a) c)
 refine L0<|dX (p:=⟨d,3,none⟩) (v:=vI C.e) (RC.fld a1)<|aj 1<|cb ((C.e==2)) (fun D=>?_) (fun D=>?_)
 have bs:=am D
 refine ax 2<|bh<|rr (.tuple #[nS,vI 5])<|?_
 obtain⟨kp,ku⟩:=fo P g
 have hw:bt (aT cP b.length 0 ⟨b,false,0⟩ []).1.e=5:=by unfold bt;rw[kp,if_pos D]
 refine⟨none,0,0,by rw[hw],fun h=>absurd (hw.symm.trans h) (by decide),E⟩
 have bs:=au D
 refine bp<|sq<|Rg 7 (fun w'=>w'.cell? ⟨d,3,none⟩=some (vI C.e)) fun c8 J=>?_
 refine bB (RC.fld (RC.upd a1 J ay (aD.step (RC.u a1) J))) fun i=>Rt 0 i<|Rt 1 i<|Rt 2 i<|Rt 3 i<|Rl 4 i (fun _ hs=>hs)<|Rt 5 i<|Rt 6 i<|re<|tn<|rt<|rr (.tuple #[.slice B L.length cq,vI C.e])<|?_
 obtain⟨kp,ku⟩:=fo P g
 have hw:bt (aT cP b.length 0 ⟨b,false,0⟩ []).1.e=C.e:=by unfold bt;rw[kp,if_neg (by rw[D];decide)]
 have aF:=aM c J
 refine⟨_,_,_,by rw[hw],fun h=>by rw[ku (hw.symm.trans h)];exact(ai j aF (fun x hx=>ay) (bC.upd16 aF aC)),(aM E J)⟩
theorem mL(h:aO m w v b)(hb:b.length≤1048576) :
    Calls Tryz.prog 179 #[.int .i64 0,.int .u8 20,v] w (fF (aT cU b.length 0 ⟨b,false,0⟩ []) w):=by
  obtain⟨A,cp,rfl,_,_⟩:=h.shape
  exact uV h hb
theorem mY(h:aO m w v b)(hb:b.length≤1048576) :
    Calls Tryz.prog 179 #[.int .i64 1,.int .u8 20,v] w (fF (aT bR b.length 0 ⟨b,false,0⟩ []) w):=by
  obtain⟨A,cp,rfl,_,_⟩:=h.shape
  exact wL h hb
theorem mI(h:aO m w v b)(hb:b.length≤1048576) :
    Calls Tryz.prog 179 #[.int .i64 dir,.int .u8 21,v] w (fF (aT cP b.length 0 ⟨b,false,0⟩ []) w):=by
  obtain⟨A,cp,rfl,_,_⟩:=h.shape
  exact vf h hb
open Go.RowKit
theorem fS(h:bt x=0) : x=0:=by
  unfold bt at h
  split at h
  · cases h
  · exact h
theorem jM(h:¬ bt x=0) : (x != 0)=true:=by
  rw[bne_iff_ne]
  rintro rfl
  exact h rfl
theorem gP:((0:Int)!=0)=false:=rfl
theorem vJ(hsl:aO m w (.slice A b.length cp) b)(hb:b.length≤1048576) :
    Calls Tryz.prog 112 #[vI 0,vB 20,.slice A b.length cp] w (cT (.slice A b.length cp) b (cC cU i8 20 b) w):=by
 have hln:(b.length:Int)≤1048576:=by omega
 have hcp:b.length≤cp:=by obtain⟨_,_,hv,h1,_⟩:=aI.shape hsl;injection hv with _ _ h3;omega
 have hrb:=aO.range hsl
 refine en 101 Tryz.func112 rfl<|sg<|aK mZ fun a8 a9 i g j=>aj 1<|sq<|ax 6<|c0<|bp<|sq<|ax 6<|c0<|bp<|sq<|ax 3<|cb (((b.length:Int)==0)) (fun a=>?_) (fun a=>?_)
 have F:=am a
 refine ak 1<|aE g mZ fun ab G H=>aj 1<|bh<|bV G (vI 2)<|?_
 exact dq (y:=(bg.zero,2)) (by unfold cC dr cA i8;(try simp only[a,bj,gP,reduceIte])<;>rfl) (bu (ud j H i))
 have F:=au a
 refine bp<|ak 1<|?_
 have q:=aO.old hsl j
 refine ea (aO.at_ q 0 (by omega)) fun I J L M ac=>L0<|iV b.length 0 L (by omega)<|L0<|dX (p:=⟨I,J+0,none⟩) (v:=vB (b.getD 0 0)) M<|b6 (b.getD 0 0)<|Pl 1<|aL 3<|cV 3 [36] 39 36 (decide (9≤(b.getD 0 0))) (decide ((b.getD 0 0)≤251)) (fun K N O=>?_) ?_
 have ad:=of_decide_eq_true O
 exact Pl 3<|ce N _ rfl
 refine aj 1<|sq<|ax 6<|c1<|go<|Pl 3<|cV 3 [48] 51 48 (decide (7≤(b.getD 0 0))) (decide ((b.getD 0 0)≤245)) (fun K Q R=>?_) ?_
 have ae:=of_decide_eq_true R
 exact Pl 3<|ce Q _ rfl
 refine Pl 1<|cV 4 [52] 56 52 ((decide (7≤(b.getD 0 0)))&&(decide ((b.getD 0 0)≤245))) (((b.getD 0 0)%7)==0) (fun K S z=>?_) ?_
 have T:=(aR z).1
 have U:=(aR z).2
 have af:=of_decide_eq_true T
 have al:=of_decide_eq_true U
 exact Pl 1<|L1<|Oe (vI (Int.tmod (b.getD 0 0) 7)) (vI ((b.getD 0 0)%7)) (congrArg (Value.int .i64) (Int.tmod_eq_emod_of_nonneg (by omega)))<|Pl 2<|ce S _ rfl
 refine aj 1<|sq<|ax 6<|c0<|bp<|sq<|sq<|go<|aj 2<|cb ((!(((decide (7≤(b.getD 0 0)))&&(decide ((b.getD 0 0)≤245)))&&(((b.getD 0 0)%7)==0)))) (fun d=>?_) (fun d=>?_)
 have f:(((decide (7≤(b.getD 0 0)))&&(decide ((b.getD 0 0)≤245)))&&(((b.getD 0 0)%7)==0))=false:=by simpa only[Bool.not_eq_true',Bool.not_eq_false'] using d
 refine ak 1<|aE g mZ fun an V W=>aj 1<|bh<|bV V (vI 5)<|?_
 exact dq (y:=(bg.zero,5)) (by unfold cC dr cA i8;(try simp only[a,d,f,bj,gP,reduceIte])<;>rfl) (bu (ud j W i))
 have f:(((decide (7≤(b.getD 0 0)))&&(decide ((b.getD 0 0)≤245)))&&(((b.getD 0 0)%7)==0))=true:=by simpa only[Bool.not_eq_true',Bool.not_eq_false'] using d
 have k:=(aR f).1
 have l:=(aR f).2
 have q32naa:=(aR k).1
 have q32nab:=(aR k).2
 have q32naap:=of_decide_eq_true q32naa
 have q32nabp:=of_decide_eq_true q32nab
 have q32nbp:=am l
 refine bp<|sq<|ak 3<|b6 ((b.getD 0 0)+1)<|aj 1<|cb ((decide ((b.length:Int)<((b.getD 0 0)+1)))) (fun h=>?_) (fun h=>?_)
 have X:=of_decide_eq_true h
 refine ak 1<|aE g mZ fun ao Y Z=>aj 1<|bh<|bV Y (vI 2)<|?_
 exact dq (y:=(bg.zero,2)) (by unfold cC dr cA i8;(try simp only[a,d,f,k,q32naa,q32nab,l,h,bj,gP,reduceIte])<;>rfl) (bu (ud j Z i))
 have X:=of_decide_eq_false h
 refine bp<|ak 4<|b6 ((b.getD 0 0)+1)<|iy (eh (P:=Tryz.prog) 27 5 1 Tryz.underlying27 rfl rfl A b.length cp (lo:=1) (up:=((b.getD 0 0)+1)) 1 ((((b.getD 0 0)+1)).toNat) (by omega) (by omega) (by omega) (by omega) (by omega)) fun r hrun43 B=>L0<|f9 (.slice r (((((b.getD 0 0)+1)).toNat)-1) (cp-1)) (d9 (kl:=.i64) (kh:=.i64) (lo:=1) (hi:=((b.getD 0 0)+1)) (A:=A) (n:=b.length) (c:=cp) rfl Tryz.underlying27 (by kernel_rfl) (by kernel_rfl) (by kernel_rfl) (hrun43 _ _ _))<|?_
 by_cases hE:bt (aT cU (((b.take ((((b.getD 0 0)+1)).toNat)).drop 1)).length 0 ⟨((b.take ((((b.getD 0 0)+1)).toNat)).drop 1),false,0⟩ []).1.e=0
 refine az (args:=#[vI 0,vB 20,.slice r (((((b.getD 0 0)+1)).toNat)-1) (cp-1)])<|e2 (kU (mL (B _ _ _ _ _ q) (by rw[List.length_drop,List.length_take];omega)) hE) fun ap aq s t=>?_
 obtain⟨a0,a1,rfl,ar,av⟩:=aI.shape s.rd
 refine aj 5<|sq<|ax 2<|c0<|bp<|sq<|sq<|go<|Pl 3<|b6 ((b.getD 0 0)+1)<|aj 1<|?_
 have C:=aM j t
 refine cb ((decide (((b.getD 0 0)+1)<(b.length:Int)))) (fun o=>?_) (fun o=>?_)
 have a2:=of_decide_eq_true o
 refine ak 1<|?_
 refine aE (ub t g) mZ fun aw a3 a4=>aj 1<|bh<|bV a3 (vI 3)<|?_
 have hE0:(aT cU (((b.take ((((b.getD 0 0)+1)).toNat)).drop 1)).length 0 ⟨((b.take ((((b.getD 0 0)+1)).toNat)).drop 1),false,0⟩ []).1.e=0:=fS hE
 exact dq (y:=(bg.zero,3)) (by unfold cC dr cA i8;(try simp only[a,d,f,k,q32naa,q32nab,l,h,o,bj,hE0,gP,reduceIte])<;>rfl) (bu (ud C a4 i))
 have a2:=of_decide_eq_false o
 refine bp<|ak 3<|?_
 have D:=ub t g
 refine aE D (mG 20 0 0 0 0 0 0 0 0 0 0 0 nS nS nS (.slice a0 ((aT cU (((b.take ((((b.getD 0 0)+1)).toNat)).drop 1)).length 0 ⟨((b.take ((((b.getD 0 0)+1)).toNat)).drop 1),false,0⟩ []).2.length) a1) 0 0 0 0 0 nS) fun aA a5 u=>aj 1<|rt<|bV a5 (vI 0)<|?_
 have hE0:(aT cU (((b.take ((((b.getD 0 0)+1)).toNat)).drop 1)).length 0 ⟨((b.take ((((b.getD 0 0)+1)).toNat)).drop 1),false,0⟩ []).1.e=0:=fS hE
 exact dq (y:=((bg.mk 20 0 0 0 0 0 0 0 0 0 0 0 [] [] [] (aT cU (((b.take ((((b.getD 0 0)+1)).toNat)).drop 1)).length 0 ⟨((b.take ((((b.getD 0 0)+1)).toNat)).drop 1),false,0⟩ []).2 0 0 0 0 0 []),0)) (by unfold cC dr cA i8;(try simp only[a,d,f,k,q32naa,q32nab,l,h,o,bj,hE0,gP,reduceIte])<;>rfl) ⟨_,rfl,⟨_,_,_,_,_,rfl,aI.nil ..,aI.nil ..,(fun _ _ _=>aI.nil ..),((ai s u (fun x hx=>(aa (fun e=>(aG (ag g) lr s) (e▸hx)) ay)) (bC.upd16 u (ah (aW D (by decide)) aC)))).rd,aI.nil ..,(c8 (by omega))⟩,(ud C u i)⟩
 refine az (args:=#[vI 0,vB 20,.slice r (((((b.getD 0 0)+1)).toNat)-1) (cp-1)])<|(jW (mL (B _ _ _ _ _ q) (by rw[List.length_drop,List.length_take];omega))).mono ?_
 rintro _ aB ⟨aD,aF,aH,rfl,E⟩
 refine⟨_,rfl,?_⟩
 have hE1:(bt (aT cU (((b.take ((((b.getD 0 0)+1)).toNat)).drop 1)).length 0 ⟨((b.take ((((b.getD 0 0)+1)).toNat)).drop 1),false,0⟩ []).1.e != 0)=true:=by simpa using hE
 refine aj 5<|sq<|ax 2<|ct hE1<|ak 2<|?_
 refine aE (ub E g) mZ fun aJ a6 a7=>aj 1<|bh<|bV a6 (vI (bt (aT cU (((b.take ((((b.getD 0 0)+1)).toNat)).drop 1)).length 0 ⟨((b.take ((((b.getD 0 0)+1)).toNat)).drop 1),false,0⟩ []).1.e))<|?_
 have hE3:((aT cU (((b.take ((((b.getD 0 0)+1)).toNat)).drop 1)).length 0 ⟨((b.take ((((b.getD 0 0)+1)).toNat)).drop 1),false,0⟩ []).1.e != 0)=true:=jM hE
 exact dq (y:=(bg.zero,bt (aT cU (((b.take ((((b.getD 0 0)+1)).toNat)).drop 1)).length 0 ⟨((b.take ((((b.getD 0 0)+1)).toNat)).drop 1),false,0⟩ []).1.e)) (by unfold cC dr cA i8;(try simp only[a,d,f,k,q32naa,q32nab,l,h,hE1,bj,hE3,gP,reduceIte])<;>rfl) (bu (ud j (uz E a7) i))
theorem wC(hsl:aO m w (.slice A b.length cp) b)(hb:b.length≤1048576) :
    Calls Tryz.prog 112 #[vI 1,vB 20,.slice A b.length cp] w (cT (.slice A b.length cp) b (cC bR i5 20 b) w):=by
 have hln:(b.length:Int)≤1048576:=by omega
 have hcp:b.length≤cp:=by obtain⟨_,_,hv,h1,_⟩:=aI.shape hsl;injection hv with _ _ h3;omega
 have hrb:=aO.range hsl
 refine en 101 Tryz.func112 rfl<|sg<|aK mZ fun a4 a5 i g j=>aj 1<|sq<|ax 6<|c0<|bp<|sq<|ax 6<|c0<|bp<|sq<|ax 3<|cb (((b.length:Int)==0)) (fun a=>?_) (fun a=>?_)
 have E:=am a
 refine ak 1<|aE g mZ fun a6 F G=>aj 1<|bh<|bV F (vI 2)<|?_
 exact dq (y:=(bg.zero,2)) (by unfold cC dr cA i5;(try simp only[a,bj,gP,reduceIte])<;>rfl) (bu (ud j G i))
 have E:=au a
 refine bp<|ak 1<|?_
 have q:=aO.old hsl j
 refine ea (aO.at_ q 0 (by omega)) fun H I J L a7=>L0<|iV b.length 0 J (by omega)<|L0<|dX (p:=⟨H,I+0,none⟩) (v:=vB (b.getD 0 0)) L<|b6 (b.getD 0 0)<|Pl 1<|aL 3<|cV 3 [36] 39 36 (decide (9≤(b.getD 0 0))) (decide ((b.getD 0 0)≤251)) (fun K M N=>?_) ?_
 have a8:=of_decide_eq_true N
 exact Pl 3<|ce M _ rfl
 refine aj 1<|sq<|ax 6<|c0<|bp<|sq<|sq<|go<|aj 6<|c1<|go<|Pl 3<|cV 3 [65] 68 65 (decide (4≤(b.getD 0 0))) (decide ((b.getD 0 0)≤245)) (fun K O Q=>?_) ?_
 have a9:=of_decide_eq_true Q
 exact Pl 3<|ce O _ rfl
 refine aj 1<|sq<|ax 2<|cb ((!((decide (4≤(b.getD 0 0)))&&(decide ((b.getD 0 0)≤245))))) (fun d=>?_) (fun d=>?_)
 have f:((decide (4≤(b.getD 0 0)))&&(decide ((b.getD 0 0)≤245)))=false:=by simpa only[Bool.not_eq_true',Bool.not_eq_false'] using d
 refine ak 1<|aE g mZ fun ab R S=>aj 1<|bh<|bV R (vI 5)<|?_
 exact dq (y:=(bg.zero,5)) (by unfold cC dr cA i5;(try simp only[a,d,f,bj,gP,reduceIte])<;>rfl) (bu (ud j S i))
 have f:((decide (4≤(b.getD 0 0)))&&(decide ((b.getD 0 0)≤245)))=true:=by simpa only[Bool.not_eq_true',Bool.not_eq_false'] using d
 have k:=(aR f).1
 have l:=(aR f).2
 have q30nap:=of_decide_eq_true k
 have q30nbp:=of_decide_eq_true l
 refine bp<|sq<|ak 3<|b6 ((b.getD 0 0)+1)<|aj 1<|cb ((decide ((b.length:Int)<((b.getD 0 0)+1)))) (fun h=>?_) (fun h=>?_)
 have T:=of_decide_eq_true h
 refine ak 1<|aE g mZ fun ac U V=>aj 1<|bh<|bV U (vI 2)<|?_
 exact dq (y:=(bg.zero,2)) (by unfold cC dr cA i5;(try simp only[a,d,f,k,l,h,bj,gP,reduceIte])<;>rfl) (bu (ud j V i))
 have T:=of_decide_eq_false h
 refine bp<|ak 4<|b6 ((b.getD 0 0)+1)<|iy (eh (P:=Tryz.prog) 27 5 1 Tryz.underlying27 rfl rfl A b.length cp (lo:=1) (up:=((b.getD 0 0)+1)) 1 ((((b.getD 0 0)+1)).toNat) (by omega) (by omega) (by omega) (by omega) (by omega)) fun r hrun41 z=>L0<|f9 (.slice r (((((b.getD 0 0)+1)).toNat)-1) (cp-1)) (d9 (kl:=.i64) (kh:=.i64) (lo:=1) (hi:=((b.getD 0 0)+1)) (A:=A) (n:=b.length) (c:=cp) rfl Tryz.underlying27 (by kernel_rfl) (by kernel_rfl) (by kernel_rfl) (hrun41 _ _ _))<|?_
 by_cases hE:bt (aT bR (((b.take ((((b.getD 0 0)+1)).toNat)).drop 1)).length 0 ⟨((b.take ((((b.getD 0 0)+1)).toNat)).drop 1),false,0⟩ []).1.e=0
 refine az (args:=#[vI 1,vB 20,.slice r (((((b.getD 0 0)+1)).toNat)-1) (cp-1)])<|e2 (kU (mY (z _ _ _ _ _ q) (by rw[List.length_drop,List.length_take];omega)) hE) fun ad ae s t=>?_
 obtain⟨W,X,rfl,af,al⟩:=aI.shape s.rd
 refine aj 5<|sq<|ax 2<|c0<|bp<|sq<|sq<|go<|Pl 3<|b6 ((b.getD 0 0)+1)<|aj 1<|?_
 have B:=aM j t
 refine cb ((decide (((b.getD 0 0)+1)<(b.length:Int)))) (fun o=>?_) (fun o=>?_)
 have Y:=of_decide_eq_true o
 refine ak 1<|?_
 refine aE (ub t g) mZ fun an Z a0=>aj 1<|bh<|bV Z (vI 3)<|?_
 have hE0:(aT bR (((b.take ((((b.getD 0 0)+1)).toNat)).drop 1)).length 0 ⟨((b.take ((((b.getD 0 0)+1)).toNat)).drop 1),false,0⟩ []).1.e=0:=fS hE
 exact dq (y:=(bg.zero,3)) (by unfold cC dr cA i5;(try simp only[a,d,f,k,l,h,o,bj,hE0,gP,reduceIte])<;>rfl) (bu (ud B a0 i))
 have Y:=of_decide_eq_false o
 refine bp<|ak 3<|?_
 have C:=ub t g
 refine aE C (mG 20 0 0 0 0 0 0 0 0 0 0 0 nS nS nS (.slice W ((aT bR (((b.take ((((b.getD 0 0)+1)).toNat)).drop 1)).length 0 ⟨((b.take ((((b.getD 0 0)+1)).toNat)).drop 1),false,0⟩ []).2.length) X) 0 0 0 0 0 nS) fun ao a1 u=>aj 1<|rt<|bV a1 (vI 0)<|?_
 have hE0:(aT bR (((b.take ((((b.getD 0 0)+1)).toNat)).drop 1)).length 0 ⟨((b.take ((((b.getD 0 0)+1)).toNat)).drop 1),false,0⟩ []).1.e=0:=fS hE
 exact dq (y:=((bg.mk 20 0 0 0 0 0 0 0 0 0 0 0 [] [] [] (aT bR (((b.take ((((b.getD 0 0)+1)).toNat)).drop 1)).length 0 ⟨((b.take ((((b.getD 0 0)+1)).toNat)).drop 1),false,0⟩ []).2 0 0 0 0 0 []),0)) (by unfold cC dr cA i5;(try simp only[a,d,f,k,l,h,o,bj,hE0,gP,reduceIte])<;>rfl) ⟨_,rfl,⟨_,_,_,_,_,rfl,aI.nil ..,aI.nil ..,(fun _ _ _=>aI.nil ..),((ai s u (fun x hx=>(aa (fun e=>(aG (ag g) lr s) (e▸hx)) ay)) (bC.upd16 u (ah (aW C (by decide)) aC)))).rd,aI.nil ..,(c8 (by omega))⟩,(ud B u i)⟩
 refine az (args:=#[vI 1,vB 20,.slice r (((((b.getD 0 0)+1)).toNat)-1) (cp-1)])<|(jW (mY (z _ _ _ _ _ q) (by rw[List.length_drop,List.length_take];omega))).mono ?_
 rintro _ ap ⟨aq,ar,av,rfl,D⟩
 refine⟨_,rfl,?_⟩
 have hE1:(bt (aT bR (((b.take ((((b.getD 0 0)+1)).toNat)).drop 1)).length 0 ⟨((b.take ((((b.getD 0 0)+1)).toNat)).drop 1),false,0⟩ []).1.e != 0)=true:=by simpa using hE
 refine aj 5<|sq<|ax 2<|ct hE1<|ak 2<|?_
 refine aE (ub D g) mZ fun aw a2 a3=>aj 1<|bh<|bV a2 (vI (bt (aT bR (((b.take ((((b.getD 0 0)+1)).toNat)).drop 1)).length 0 ⟨((b.take ((((b.getD 0 0)+1)).toNat)).drop 1),false,0⟩ []).1.e))<|?_
 have hE3:((aT bR (((b.take ((((b.getD 0 0)+1)).toNat)).drop 1)).length 0 ⟨((b.take ((((b.getD 0 0)+1)).toNat)).drop 1),false,0⟩ []).1.e != 0)=true:=jM hE
 exact dq (y:=(bg.zero,bt (aT bR (((b.take ((((b.getD 0 0)+1)).toNat)).drop 1)).length 0 ⟨((b.take ((((b.getD 0 0)+1)).toNat)).drop 1),false,0⟩ []).1.e)) (by unfold cC dr cA i5;(try simp only[a,d,f,k,l,h,hE1,bj,hE3,gP,reduceIte])<;>rfl) (bu (ud j (uz D a3) i))
theorem vj(hd:dir=0∨dir=1)(hsl:aO m w (.slice A b.length cp) b)(hb:b.length≤1048576) :
    Calls Tryz.prog 112 #[vI dir,vB 21,.slice A b.length cp] w (cT (.slice A b.length cp) b (cC cP i3 21 b) w):=by
 have hln:(b.length:Int)≤1048576:=by omega
 have hcp:b.length≤cp:=by obtain⟨_,_,hv,h1,_⟩:=aI.shape hsl;injection hv with _ _ h3;omega
 have hrb:=aO.range hsl
 have g:((dir != 0)&&(dir != 1))=false:=by rcases hd with rfl | rfl<;>rfl
 refine en 101 Tryz.func112 rfl<|sg<|aK mZ fun a5 a6 j h k=>aj 1<|sq<|ak 3<|cV 3 [14] 17 14 (dir != 0) (dir != 1) (fun K F G=>?_) ?_
 have a7:=av G
 exact Pl 3<|ce F _ rfl
 refine nt<|cf g<|bp<|sq<|ax 6<|c0<|bp<|sq<|ax 3<|cb (((b.length:Int)==0)) (fun a=>?_) (fun a=>?_)
 have H:=am a
 refine ak 1<|aE h mZ fun a8 I J=>aj 1<|bh<|bV I (vI 2)<|?_
 exact dq (y:=(bg.zero,2)) (by unfold cC dr cA i3;(try simp only[g,a,bj,gP,reduceIte])<;>rfl) (bu (ud k J j))
 have H:=au a
 refine bp<|ak 1<|?_
 have r:=aO.old hsl k
 refine ea (aO.at_ r 0 (by omega)) fun L M N O a9=>L0<|iV b.length 0 N (by omega)<|L0<|dX (p:=⟨L,M+0,none⟩) (v:=vB (b.getD 0 0)) O<|b6 (b.getD 0 0)<|Pl 1<|aL 3<|cV 3 [36] 39 36 (decide (9≤(b.getD 0 0))) (decide ((b.getD 0 0)≤251)) (fun K Q R=>?_) ?_
 have ab:=of_decide_eq_true R
 exact Pl 3<|ce Q _ rfl
 refine aj 1<|sq<|ax 6<|c0<|bp<|sq<|sq<|go<|aj 6<|c0<|bp<|sq<|ax 2<|cb ((!((decide (9≤(b.getD 0 0)))&&(decide ((b.getD 0 0)≤251))))) (fun d=>?_) (fun d=>?_)
 have f:((decide (9≤(b.getD 0 0)))&&(decide ((b.getD 0 0)≤251)))=false:=by simpa only[Bool.not_eq_true',Bool.not_eq_false'] using d
 refine ak 1<|aE h mZ fun ac S T=>aj 1<|bh<|bV S (vI 5)<|?_
 exact dq (y:=(bg.zero,5)) (by unfold cC dr cA i3;(try simp only[g,a,d,f,bj,gP,reduceIte])<;>rfl) (bu (ud k T j))
 have f:((decide (9≤(b.getD 0 0)))&&(decide ((b.getD 0 0)≤251)))=true:=by simpa only[Bool.not_eq_true',Bool.not_eq_false'] using d
 have l:=(aR f).1
 have o:=(aR f).2
 have q30nap:=of_decide_eq_true l
 have q30nbp:=of_decide_eq_true o
 refine bp<|sq<|ak 3<|b6 ((b.getD 0 0)+1)<|aj 1<|cb ((decide ((b.length:Int)<((b.getD 0 0)+1)))) (fun i=>?_) (fun i=>?_)
 have U:=of_decide_eq_true i
 refine ak 1<|aE h mZ fun ad V W=>aj 1<|bh<|bV V (vI 2)<|?_
 exact dq (y:=(bg.zero,2)) (by unfold cC dr cA i3;(try simp only[g,a,d,f,l,o,i,bj,gP,reduceIte])<;>rfl) (bu (ud k W j))
 have U:=of_decide_eq_false i
 refine bp<|ak 4<|b6 ((b.getD 0 0)+1)<|iy (eh (P:=Tryz.prog) 27 5 1 Tryz.underlying27 rfl rfl A b.length cp (lo:=1) (up:=((b.getD 0 0)+1)) 1 ((((b.getD 0 0)+1)).toNat) (by omega) (by omega) (by omega) (by omega) (by omega)) fun s hrun41 B=>L0<|f9 (.slice s (((((b.getD 0 0)+1)).toNat)-1) (cp-1)) (d9 (kl:=.i64) (kh:=.i64) (lo:=1) (hi:=((b.getD 0 0)+1)) (A:=A) (n:=b.length) (c:=cp) rfl Tryz.underlying27 (by kernel_rfl) (by kernel_rfl) (by kernel_rfl) (hrun41 _ _ _))<|?_
 by_cases hE:bt (aT cP (((b.take ((((b.getD 0 0)+1)).toNat)).drop 1)).length 0 ⟨((b.take ((((b.getD 0 0)+1)).toNat)).drop 1),false,0⟩ []).1.e=0
 refine az (args:=#[vI dir,vB 21,.slice s (((((b.getD 0 0)+1)).toNat)-1) (cp-1)])<|e2 (kU (mI (B _ _ _ _ _ r) (by rw[List.length_drop,List.length_take];omega)) hE) fun ae af t u=>?_
 obtain⟨X,Y,rfl,al,an⟩:=aI.shape t.rd
 refine aj 5<|sq<|ax 2<|c0<|bp<|sq<|sq<|go<|Pl 3<|b6 ((b.getD 0 0)+1)<|aj 1<|?_
 have C:=aM k u
 refine cb ((decide (((b.getD 0 0)+1)<(b.length:Int)))) (fun q=>?_) (fun q=>?_)
 have Z:=of_decide_eq_true q
 refine ak 1<|?_
 refine aE (ub u h) mZ fun ao a0 a1=>aj 1<|bh<|bV a0 (vI 3)<|?_
 have hE0:(aT cP (((b.take ((((b.getD 0 0)+1)).toNat)).drop 1)).length 0 ⟨((b.take ((((b.getD 0 0)+1)).toNat)).drop 1),false,0⟩ []).1.e=0:=fS hE
 exact dq (y:=(bg.zero,3)) (by unfold cC dr cA i3;(try simp only[g,a,d,f,l,o,i,q,bj,hE0,gP,reduceIte])<;>rfl) (bu (ud C a1 j))
 have Z:=of_decide_eq_false q
 refine bp<|ak 3<|?_
 have D:=ub u h
 refine aE D (mG 21 0 0 0 0 0 0 0 0 0 0 0 nS nS nS (.slice X ((aT cP (((b.take ((((b.getD 0 0)+1)).toNat)).drop 1)).length 0 ⟨((b.take ((((b.getD 0 0)+1)).toNat)).drop 1),false,0⟩ []).2.length) Y) 0 0 0 0 0 nS) fun ap a2 z=>aj 1<|rt<|bV a2 (vI 0)<|?_
 have hE0:(aT cP (((b.take ((((b.getD 0 0)+1)).toNat)).drop 1)).length 0 ⟨((b.take ((((b.getD 0 0)+1)).toNat)).drop 1),false,0⟩ []).1.e=0:=fS hE
 exact dq (y:=((bg.mk 21 0 0 0 0 0 0 0 0 0 0 0 [] [] [] (aT cP (((b.take ((((b.getD 0 0)+1)).toNat)).drop 1)).length 0 ⟨((b.take ((((b.getD 0 0)+1)).toNat)).drop 1),false,0⟩ []).2 0 0 0 0 0 []),0)) (by unfold cC dr cA i3;(try simp only[g,a,d,f,l,o,i,q,bj,hE0,gP,reduceIte])<;>rfl) ⟨_,rfl,⟨_,_,_,_,_,rfl,aI.nil ..,aI.nil ..,(fun _ _ _=>aI.nil ..),((ai t z (fun x hx=>(aa (fun e=>(aG (ag h) lr t) (e▸hx)) ay)) (bC.upd16 z (ah (aW D (by decide)) aC)))).rd,aI.nil ..,(c8 (by omega))⟩,(ud C z j)⟩
 refine az (args:=#[vI dir,vB 21,.slice s (((((b.getD 0 0)+1)).toNat)-1) (cp-1)])<|(jW (mI (B _ _ _ _ _ r) (by rw[List.length_drop,List.length_take];omega))).mono ?_
 rintro _ aq ⟨ar,aw,aA,rfl,E⟩
 refine⟨_,rfl,?_⟩
 have hE1:(bt (aT cP (((b.take ((((b.getD 0 0)+1)).toNat)).drop 1)).length 0 ⟨((b.take ((((b.getD 0 0)+1)).toNat)).drop 1),false,0⟩ []).1.e != 0)=true:=by simpa using hE
 refine aj 5<|sq<|ax 2<|ct hE1<|ak 2<|?_
 refine aE (ub E h) mZ fun aB a3 a4=>aj 1<|bh<|bV a3 (vI (bt (aT cP (((b.take ((((b.getD 0 0)+1)).toNat)).drop 1)).length 0 ⟨((b.take ((((b.getD 0 0)+1)).toNat)).drop 1),false,0⟩ []).1.e))<|?_
 have hE3:((aT cP (((b.take ((((b.getD 0 0)+1)).toNat)).drop 1)).length 0 ⟨((b.take ((((b.getD 0 0)+1)).toNat)).drop 1),false,0⟩ []).1.e != 0)=true:=jM hE
 exact dq (y:=(bg.zero,bt (aT cP (((b.take ((((b.getD 0 0)+1)).toNat)).drop 1)).length 0 ⟨((b.take ((((b.getD 0 0)+1)).toNat)).drop 1),false,0⟩ []).1.e)) (by unfold cC dr cA i3;(try simp only[g,a,d,f,l,o,i,hE1,bj,hE3,gP,reduceIte])<;>rfl) (bu (ud k (uz E a4) j))
theorem u9(hd:dir=0∨dir=1)(hc:¬ c=20∧¬ c=21) :
    Calls Tryz.prog 112 #[vI dir,vB c,.slice A b.length cp] w (cT (.slice A b.length cp) b (bg.zero,4) w):=by
 have a:((dir != 0)&&(dir != 1))=false:=by rcases hd with rfl | rfl<;>rfl
 have e2:((c != 20)&&(c != 21))=true:=by simp[hc.1,hc.2]
 refine en 101 Tryz.func112 rfl<|sg<|aK mZ fun m n d e f=>aj 1<|sq<|ak 3<|cV 3 [14] 17 14 (dir != 0) (dir != 1) (fun K g h=>?_) ?_
 have o:=av h
 exact Pl 3<|ce g _ rfl
 refine nt<|cf a<|bp<|sq<|ak 3<|cV 3 [21] 24 21 (c != 20) (c != 21) (fun K i j=>?_) ?_
 have p:=av j
 exact Pl 3<|ce i _ rfl
 refine nt<|ct e2<|ak 1<|aE e mZ fun q k l=>aj 1<|bh<|bV k (vI 4)<|?_
 exact bu (ud f l d)
theorem wD(hd:¬ (dir=0∨dir=1)) :
    Calls Tryz.prog 112 #[vI dir,vB c,.slice A b.length cp] w (cT (.slice A b.length cp) b (bg.zero,1) w):=by
 have a:((dir != 0)&&(dir != 1))=true:=by simp;omega
 refine en 101 Tryz.func112 rfl<|sg<|aK mZ fun k l d e f=>aj 1<|sq<|ak 3<|cV 3 [14] 17 14 (dir != 0) (dir != 1) (fun K g h=>?_) ?_
 have m:=av h
 exact Pl 3<|ce g _ rfl
 refine nt<|ct a<|ak 1<|aE e mZ fun n i j=>aj 1<|bh<|bV i (vI 1)<|?_
 exact bu (ud f j d)
theorem ro(hd:dir=0∨dir=1)(hc:¬ c=20∧¬ c=21) : aq bo dir c b=(bg.zero,4):=by
  unfold aq bo
  rw[if_pos hd,if_neg (by simpa using hc.1),if_neg (by simpa using hc.2)]
theorem tM{form:Int→Int→al→Option (al × bg)}   (hd:¬ (dir=0∨dir=1)) : aq form dir c b=(bg.zero,1):=by
  unfold aq
  rw[if_neg hd]
theorem nK(hc:B8 c)(h:aO m w v b)(hb:b.length≤1048576) :
    Calls Tryz.prog 112 #[.int .i64 dir,.int .u8 c,v] w (cT v b (aq bo dir c b) w):=by
  have hr:=aO.range h
  obtain⟨A,cp,rfl,_,_⟩:=h.shape
  by_cases hd:dir=0∨dir=1
  · by_cases a:c=20
    · subst a
      rcases hd with rfl|rfl
      · rw[ru hr];exact vJ h hb
      · rw[ra hr];exact wC h hb
    · by_cases d:c=21
      · subst d
        rw[vg hd hr];exact vj hd h hb
      · rw[ro hd ⟨a,d⟩];exact u9 hd ⟨a,d⟩
  · rw[tM hd];exact wD hd
open Go.RowKit
theorem wU{L:List Obj}{R:al × List Obj}(h:f4 (k-i) C L=R)(hk:k-i=0) : R=(C,L):=by
  rw[hk] at h
  exact h.symm
theorem lL(hcode:B8 c)(hsl:aO m w (.slice A b.length cp) b)(hb:b.length≤1048576) :
    Calls Tryz.prog 113 #[vI 0,vB c,.slice A b.length cp] w (cT (.slice A b.length cp) b (aq cG 0 c b) w):=by
 obtain⟨hcode1,hcode2⟩:=hcode
 have hln:(b.length:Int)≤1048576:=by omega
 refine en 176 Tryz.func113 rfl<|sg<|aK mZ fun bx bz q j a=>aj 1<|sq<|ax 6<|c0<|bp<|sq<|ax 2<|cb ((c != 43)) (fun k=>?_) (fun k=>?_)
 have aC:=av k
 refine ak 1<|aE j mZ fun bC aF aG=>aj 1<|bh<|bV aF (vI 4)<|?_
 exact dq (by unfold aq cG dS jw gH gI fL eY fA e9;(try simp only[k,bj,dl,dm,dj,dn,dk,reduceIte])<;>rfl) (bu (ud a aG q))
 have aC:=aJ k
 refine bp<|ak 2<|L0<|dK #[.slice A b.length cp,vI 0,.bool false,vI 0] fun r bD d U h=>Pl 1<|aL 1<|aK mZ fun bE bF g aN aP=>aE aN (mC 43) fun aQ aR aS=>?_
 refine aL 1<|?_
 have V:=ud aP aS g
 have s:=aM h V
 have W:=aM a s
 have aT:RC w _ A cp b aQ r (al.mk b false 0):=⟨hsl,W,(Nat.le_trans a.size d),⟨0,(ub V U),Nat.zero_le _,rfl⟩,by omega⟩
 refine az<|m3 (dP aT) fun bG aU X bH=>Pl 1<|?_
 have f:=nb (ag U) lr g
 refine L0<|bI (aY X (Ne.symm f) aR) 16 (mG 43 0 0 0 0 0 0 0 0 0 0 0 nS nS nS nS ((al.mk b false 0).byteV) 0 0 0 0 nS) fun bJ G Y=>aL 2<|aH G 16<|Pl 2<|eE 4 [38] 42 38 (((al.mk b false 0).byteV)==13) (((al.mk b false 0).byteV)==14) (fun K aV aW=>?_) ?_
 have bK:=au aW
 exact Pl 1<|L1<|dp G 16<|Pl 2<|ce aV _ rfl
 have t:=us X Y
 have Z:=ut W t (ac (ni a.size d) (ac (ni (le a.size h.size) g) aA))
 refine az<|m2 (aX (((((al.mk b false 0).byteV)==13)||(((al.mk b false 0).byteV)==14))) 8 (RC.upd aU Y (aa f ay) Z)) fun bL aZ o=>?_
 refine fB aZ fun x55 a0 x=>?_
 refine nt<|sq<|bk<|ak 1<|?_
 have H:=aY o (Ne.symm f) G
 refine aH H 16<|aj 2<|?_
 have a1:=ud Z o (le a.size d)
 refine cb ((((al.mk b false 0).byteV)==13)) (fun y=>?_) (fun y=>?_)
 have b0:=am y
 refine ak 1<|az<|m1 (iw x) fun bM I=>?_
 have bN:=RC.clen x
 refine Pl 1<|aL 3<|?_
 refine az<|m2 (aX ((decide ((x55.l.length:Int)≤251))) 5 (RC.upd x I ay (aD.step (RC.u x) I))) fun bO a2 b1=>nt<|go<|Pl 2<|az<|pK (fw (n:=(x55.l.length:Int)) (by omega) a2) fun a3 a4 bP b2 b3 b4=>?_
 have bQ:=Nat.le_trans (al.bytesR_le (x55.need (decide ((x55.l.length:Int)≤251)) 5) (x55.l.length:Int)) (RC.clen a2)
 refine fB b3 fun l0 b5 b6=>?_
 refine Pl 1<|?_
 have a5:=uz I (u1 b1 b4 im)
 refine L0<|bI (aY a5 (Ne.symm f) H) 14 (mG 43 0 0 0 0 0 0 0 0 0 0 0 nS nS (.slice a3 (((x55.need (decide ((x55.l.length:Int)≤251)) 5).bytesR (x55.l.length:Int)).length) a4) nS ((al.mk b false 0).byteV) 0 0 0 0 nS) fun bR b7 a6=>nl<|bn<|tn<|ak 1<|?_
 have J:=us a5 a6
 have a7:=ut a1 J (ac (ni a.size d) (ac (ni (le a.size h.size) g) aA))
 refine az<|m2 (lZ (RC.upd b6 a6 (aa f ay) a7)) fun bS L C=>nt<|sq<|ak 3<|L0<|dX (p:=⟨r,3,none⟩) (v:=vI l0.endC.e) (RC.fld L)<|aj 1<|?_
 have a8:=ud a7 C (le a.size d)
 have hs:aq cG 0 c b=bA (bg.mk 43 0 0 0 0 0 0 0 0 0 0 0 [] [] ((x55.need (decide ((x55.l.length:Int)≤251)) 5).bytesR (x55.l.length:Int)) [] ((al.mk b false 0).byteV) 0 0 0 0 []) l0:=by
   subst b5 a0
   unfold aq cG dS jw gH gI fL eY fA e9
   (try simp only[k,y,bj,dl,dm,dj,dn,dk,reduceIte])
   all_goals rfl
 refine cb ((l0.endC.e != 0)) (fun M=>?_) (fun M=>?_)
 have N:=av M
 refine sq<|Rg 7 (fun w'=>w'.cell? ⟨r,3,none⟩=some (vI l0.endC.e)) fun bT D=>?_
 have a9:=RC.upd L D ay (aD.step (RC.u L) D)
 refine bB (RC.fld a9) fun z=>Rt 0 z<|Rt 1 z<|Rt 2 z<|Rt 3 z<|Rl 4 z (fun _ hs=>hs)<|?_
 refine R0 5 rfl<|iX (ub (ut s (ut t (ui o (u1 J (aM C D) im)) (ac im (ac im aA))) (ac (nr d) (ac (ni h.size g) aA))) j) mZ fun bU b8 ab=>?_
 have ad:=ud a8 (uz D ab) q
 refine bB (RC.fld (RC.upd a9 ab (aa (Ne.symm (nb (ag j) lr d)) ay) ad)) fun b9=>Rt 6 b9<|re<|tn<|bh<|bV b8 (vI l0.endC.e)<|?_
 rw[hs]
 exact cL N ad
 have N:=aJ M
 refine bp<|sg<|?_
 refine L0<|cO (aY C (Ne.symm f) b7)<|?_
 refine aE (ub (ut s (ut t (ui o (u1 J C im)) (ac im (ac im aA))) (ac (nr d) (ac (ni h.size g) aA))) j) (mG 43 0 0 0 0 0 0 0 0 0 0 0 nS nS (.slice a3 (((x55.need (decide ((x55.l.length:Int)≤251)) 5).bytesR (x55.l.length:Int)).length) a4) nS ((al.mk b false 0).byteV) 0 0 0 0 nS) fun bW ba bb=>aj 1<|rt<|bV ba (vI 0)<|?_
 rw[hs]
 exact dg N ⟨_,_,_,_,_,rfl,aI.nil ..,aI.nil ..,b2,aI.nil ..,aI.nil ..,(c8 (by omega))⟩ (ud a8 bb q)
 have b0:=au y
 refine ax 3<|c1<|ak 1<|az<|m3 (dP x) fun bX bc ae bY=>Pl 1<|?_
 refine L0<|bI (aY ae (Ne.symm f) H) 17 (mG 43 0 0 0 0 0 0 0 0 0 0 0 nS nS nS nS ((al.mk b false 0).byteV) x55.byteV 0 0 0 nS) fun bZ O af=>aL 2<|aH O 17<|Pl 2<|cV 4 [154] 158 154 (decide (0<x55.byteV)) (decide (x55.byteV<5)) (fun K bd be=>?_) ?_
 have c2:=of_decide_eq_true be
 exact Pl 1<|L1<|dp O 17<|Pl 2<|ce bd _ rfl
 have P:=us ae af
 have ah:=ut a1 P (ac (ni a.size d) (ac (ni (le a.size h.size) g) aA))
 refine az<|m2 (aX (((decide (0<x55.byteV))&&(decide (x55.byteV<5)))) 6 (RC.upd bc af (aa f ay) ah)) fun c3 bf bi=>?_
 refine fB bf fun i bl bm=>?_
 refine nt<|go<|Pl 1<|az<|m3 (dP bm) fun c4 bo bq c5=>Pl 1<|?_
 have ai:=u1 bi bq im
 refine L0<|bI (aY ai (Ne.symm f) O) 20 (mG 43 0 0 0 0 0 0 0 0 0 0 0 nS nS nS nS ((al.mk b false 0).byteV) x55.byteV 0 0 i.byteV nS) fun c6 br an=>nl<|bn<|tn<|ak 1<|?_
 have Q:=us ai an
 have ao:=ut ah Q (ac (ni a.size d) (ac (ni (le a.size h.size) g) aA))
 refine az<|m2 (lZ (RC.upd bo an (aa f ay) ao)) fun c7 R E=>nt<|sq<|ak 3<|L0<|dX (p:=⟨r,3,none⟩) (v:=vI (((i.bytesC 1).endC).e)) (RC.fld R)<|aj 1<|?_
 have ap:=ud ao E (le a.size d)
 have hs:aq cG 0 c b=bA (bg.mk 43 0 0 0 0 0 0 0 0 0 0 0 [] [] [] [] ((al.mk b false 0).byteV) x55.byteV 0 0 i.byteV []) (i.bytesC 1):=by
   subst bl a0
   unfold aq cG dS jw gH gI fL eY fA e9
   (try simp only[k,y,bj,dl,dm,dj,dn,dk,reduceIte])
   all_goals rfl
 refine cb (((((i.bytesC 1).endC).e)!=0)) (fun S=>?_) (fun S=>?_)
 have T:=av S
 refine sq<|Rg 7 (fun w'=>w'.cell? ⟨r,3,none⟩=some (vI (((i.bytesC 1).endC).e))) fun c9 F=>?_
 have ar:=RC.upd R F ay (aD.step (RC.u R) F)
 refine bB (RC.fld ar) fun B=>Rt 0 B<|Rt 1 B<|Rt 2 B<|Rt 3 B<|Rl 4 B (fun _ hs=>hs)<|?_
 refine R0 5 rfl<|iX (ub (ut s (ut t (ui o (ut P (u1 Q (aM E F) im) (ac im (ac im aA)))) (ac im (ac im aA))) (ac (nr d) (ac (ni h.size g) aA))) j) mZ fun ca bs aw=>?_
 have aB:=ud ap (uz F aw) q
 refine bB (RC.fld (RC.upd ar aw (aa (Ne.symm (nb (ag j) lr d)) ay) aB)) fun bt=>Rt 6 bt<|re<|tn<|bh<|bV bs (vI (((i.bytesC 1).endC).e))<|?_
 rw[hs]
 exact cL T aB
 have T:=aJ S
 refine bp<|sg<|?_
 refine L0<|cO (aY E (Ne.symm f) br)<|?_
 refine aE (ub (ut s (ut t (ui o (ut P (u1 Q E im) (ac im (ac im aA)))) (ac im (ac im aA))) (ac (nr d) (ac (ni h.size g) aA))) j) (mG 43 0 0 0 0 0 0 0 0 0 0 0 nS nS nS nS ((al.mk b false 0).byteV) x55.byteV 0 0 i.byteV nS) fun cc bv bw=>aj 1<|rt<|bV bv (vI 0)<|?_
 rw[hs]
 exact dg T ⟨_,_,_,_,_,rfl,aI.nil ..,aI.nil ..,(fun _ _ _=>aI.nil ..),aI.nil ..,aI.nil ..,(c8 (by omega))⟩ (ud ap bw q)
theorem lK(hcode:B8 c)(hsl:aO m w (.slice A b.length cp) b)(hb:b.length≤1048576) :
    Calls Tryz.prog 113 #[vI 1,vB c,.slice A b.length cp] w (cT (.slice A b.length cp) b (aq cG 1 c b) w):=by
 obtain⟨hcode1,hcode2⟩:=hcode
 have hln:(b.length:Int)≤1048576:=by omega
 refine en 176 Tryz.func113 rfl<|sg<|aK mZ fun S dM H s a=>aj 1<|sq<|ax 6<|c0<|bp<|sq<|ax 2<|cb ((c != 43)) (fun D=>?_) (fun D=>?_)
 have ci:=av D
 refine ak 1<|aE s mZ fun dN cj ck=>aj 1<|bh<|bV cj (vI 4)<|?_
 exact dq (by unfold aq cG dS jw gH gI fL eY fA e9;(try simp only[D,bj,dl,dm,dj,dn,dk,reduceIte])<;>rfl) (bu (ud a ck H))
 have ci:=aJ D
 refine bp<|ak 2<|L0<|dK #[.slice A b.length cp,vI 0,.bool false,vI 0] fun r dO d b0 k=>Pl 1<|aL 1<|aK mZ fun E dQ o cl b1=>aE cl (mC 43) fun cm cn b2=>?_
 refine aL 1<|?_
 have b3:=ud b1 b2 o
 have T:=aM k b3
 have b4:=aM a T
 have co:RC w _ A cp b cm r (al.mk b false 0):=⟨hsl,b4,(Nat.le_trans a.size d),⟨0,(ub b3 b0),Nat.zero_le _,rfl⟩,by omega⟩
 refine az<|m3 (dP co) fun dR cr a1 dT=>Pl 1<|?_
 have f:=nb (ag b0) lr o
 refine L0<|bI (aY a1 (Ne.symm f) cn) 16 (mG 43 0 0 0 0 0 0 0 0 0 0 0 nS nS nS nS ((al.mk b false 0).byteV) 0 0 0 0 nS) fun dU a2 a3=>aL 2<|aH a2 16<|Pl 2<|eE 4 [38] 42 38 (((al.mk b false 0).byteV)==13) (((al.mk b false 0).byteV)==14) (fun K cs ct=>?_) ?_
 have dV:=au ct
 exact Pl 1<|L1<|dp a2 16<|Pl 2<|ce cs _ rfl
 have U:=us a1 a3
 have b5:=ut b4 U (ac (ni a.size d) (ac (ni (le a.size k.size) o) aA))
 refine az<|m2 (aX (((((al.mk b false 0).byteV)==13)||(((al.mk b false 0).byteV)==14))) 8 (RC.upd cr a3 (aa f ay) b5)) fun dW cu F=>?_
 refine fB cu fun x55 b7 I=>?_
 refine nt<|sq<|bk<|ak 1<|?_
 have a4:=aY F (Ne.symm f) a2
 refine aH a4 16<|aj 2<|?_
 have b9:=ud b5 F (le a.size d)
 refine cb ((((al.mk b false 0).byteV)==13)) (fun J=>?_) (fun J=>?_)
 have cv:=am J
 refine ak 1<|az<|m1 (iw I) fun dY a5=>?_
 have dZ:=RC.clen I
 refine Pl 1<|aL 3<|?_
 refine az<|m2 (aX ((decide ((x55.l.length:Int)≤251))) 5 (RC.upd I a5 ay (aD.step (RC.u I) a5))) fun e0 ba cw=>nt<|go<|Pl 2<|az<|pK (fw (n:=(x55.l.length:Int)) (by omega) ba) fun bb bc e1 cx cz cA=>?_
 have e2:=Nat.le_trans (al.bytesR_le (x55.need (decide ((x55.l.length:Int)≤251)) 5) (x55.l.length:Int)) (RC.clen ba)
 refine fB cz fun l0 cB cC=>?_
 refine Pl 1<|?_
 have bd:=uz a5 (u1 cw cA im)
 refine L0<|bI (aY bd (Ne.symm f) a4) 14 (mG 43 0 0 0 0 0 0 0 0 0 0 0 nS nS (.slice bb (((x55.need (decide ((x55.l.length:Int)≤251)) 5).bytesR (x55.l.length:Int)).length) bc) nS ((al.mk b false 0).byteV) 0 0 0 0 nS) fun e3 cE be=>nl<|bn<|tn<|ak 1<|?_
 have a6:=us bd be
 have bf:=ut b9 a6 (ac (ni a.size d) (ac (ni (le a.size k.size) o) aA))
 refine az<|m2 (lZ (RC.upd cC be (aa f ay) bf)) fun e4 a7 V=>nt<|sq<|ak 3<|L0<|dX (p:=⟨r,3,none⟩) (v:=vI l0.endC.e) (RC.fld a7)<|aj 1<|?_
 have bi:=ud bf V (le a.size d)
 have hs:aq cG 1 c b=bA (bg.mk 43 0 0 0 0 0 0 0 0 0 0 0 [] [] ((x55.need (decide ((x55.l.length:Int)≤251)) 5).bytesR (x55.l.length:Int)) [] ((al.mk b false 0).byteV) 0 0 0 0 []) l0:=by
   subst cB b7
   unfold aq cG dS jw gH gI fL eY fA e9
   (try simp only[D,J,bj,dl,dm,dj,dn,dk,reduceIte])
   all_goals rfl
 refine cb ((l0.endC.e != 0)) (fun a8=>?_) (fun a8=>?_)
 have a9:=av a8
 refine sq<|Rg 7 (fun w'=>w'.cell? ⟨r,3,none⟩=some (vI l0.endC.e)) fun e5 W=>?_
 have bl:=RC.upd a7 W ay (aD.step (RC.u a7) W)
 refine bB (RC.fld bl) fun M=>Rt 0 M<|Rt 1 M<|Rt 2 M<|Rt 3 M<|Rl 4 M (fun _ hs=>hs)<|?_
 refine R0 5 rfl<|iX (ub (ut T (ut U (ui F (u1 a6 (aM V W) im)) (ac im (ac im aA))) (ac (nr d) (ac (ni k.size o) aA))) s) mZ fun e6 cF bm=>?_
 have bo:=ud bi (uz W bm) H
 refine bB (RC.fld (RC.upd bl bm (aa (Ne.symm (nb (ag s) lr d)) ay) bo)) fun cH=>Rt 6 cH<|re<|tn<|bh<|bV cF (vI l0.endC.e)<|?_
 rw[hs]
 exact cL a9 bo
 have a9:=aJ a8
 refine bp<|sg<|?_
 refine L0<|cO (aY V (Ne.symm f) cE)<|?_
 refine aE (ub (ut T (ut U (ui F (u1 a6 V im)) (ac im (ac im aA))) (ac (nr d) (ac (ni k.size o) aA))) s) (mG 43 0 0 0 0 0 0 0 0 0 0 0 nS nS (.slice bb (((x55.need (decide ((x55.l.length:Int)≤251)) 5).bytesR (x55.l.length:Int)).length) bc) nS ((al.mk b false 0).byteV) 0 0 0 0 nS) fun e7 cI cJ=>aj 1<|rt<|bV cI (vI 0)<|?_
 rw[hs]
 exact dg a9 ⟨_,_,_,_,_,rfl,aI.nil ..,aI.nil ..,cx,aI.nil ..,aI.nil ..,(c8 (by omega))⟩ (ud bi cJ H)
 have cv:=au J
 refine ax 3<|c0<|ak 1<|az<|m3 (dP I) fun e8 cK ab ea=>Pl 1<|?_
 refine L0<|bI (aY ab (Ne.symm f) a4) 17 (mG 43 0 0 0 0 0 0 0 0 0 0 0 nS nS nS nS ((al.mk b false 0).byteV) x55.byteV 0 0 0 nS) fun eb ad ae=>aL 2<|aH ad 17<|Pl 2<|cV 4 [51] 55 51 (decide (0<x55.byteV)) (decide (x55.byteV<5)) (fun K cM cN=>?_) ?_
 have ec:=of_decide_eq_true cN
 exact Pl 1<|L1<|dp ad 17<|Pl 2<|ce cM _ rfl
 have bq:=us ab ae
 have br:=ut b9 bq (ac (ni a.size d) (ac (ni (le a.size k.size) o) aA))
 refine az<|m2 (aX (((decide (0<x55.byteV))&&(decide (x55.byteV<5)))) 6 (RC.upd cK ae (aa f ay) br)) fun ed cP bs=>?_
 refine fB cP fun j cQ cR=>?_
 refine aL 1<|az<|m3 (dP cR) fun ee cS bt ef=>Pl 1<|?_
 have bv:=u1 bs bt im
 refine L0<|bI (aY bv (Ne.symm f) ad) 18 (mG 43 0 0 0 0 0 0 0 0 0 0 0 nS nS nS nS ((al.mk b false 0).byteV) x55.byteV j.byteV 0 0 nS) fun eg bw af=>aL 1<|aH bw 18<|L0<|Oe (vB (Int.tmod j.byteV 128)) (vB (j.byteV%128)) (congrArg (Value.int .u8) (Int.tmod_eq_emod_of_nonneg (by omega)))<|Pl 1<|aL 4<|cV 3 [66] 69 66 (decide (1≤(j.byteV%128))) (decide ((j.byteV%128)≤3)) (fun K cU cW=>?_) ?_
 have eh:=of_decide_eq_true cW
 exact Pl 3<|ce cU _ rfl
 have bz:=us bv af
 have bC:=ut br bz (ac (ni a.size d) (ac (ni (le a.size k.size) o) aA))
 refine az<|m2 (aX (((decide (1≤(j.byteV%128)))&&(decide ((j.byteV%128)≤3)))) 6 (RC.upd cS af (aa f ay) bC)) fun ei cX bD=>?_
 refine fB cX fun q cY cZ=>?_
 refine aL 1<|az<|m3 (dP cZ) fun ej d0 bF ek=>Pl 1<|?_
 have bG:=u1 bD bF im
 refine L0<|bI (aY bG (Ne.symm f) bw) 19 (mG 43 0 0 0 0 0 0 0 0 0 0 0 nS nS nS nS ((al.mk b false 0).byteV) x55.byteV j.byteV q.byteV 0 nS) fun el ah an=>aL 2<|aH ah 19<|Pl 2<|eE 4 [78] 82 78 (q.byteV==0) (q.byteV==255) (fun K d1 d2=>?_) ?_
 have em:=au d2
 exact Pl 1<|L1<|dp ah 19<|Pl 2<|ce d1 _ rfl
 have bH:=us bG an
 have bJ:=ut bC bH (ac (ni a.size d) (ac (ni (le a.size k.size) o) aA))
 refine az<|m2 (aX (((q.byteV==0)||(q.byteV==255))) 6 (RC.upd d0 an (aa f ay) bJ)) fun eo d3 bK=>?_
 refine fB d3 fun y d4 d5=>?_
 refine aL 1<|az<|m3 (dP d5) fun eq d6 bL er=>Pl 1<|?_
 have bM:=u1 bK bL im
 refine L0<|bI (aY bM (Ne.symm f) ah) 20 (mG 43 0 0 0 0 0 0 0 0 0 0 0 nS nS nS nS ((al.mk b false 0).byteV) x55.byteV j.byteV q.byteV y.byteV nS) fun es X ao=>aL 2<|aH X 20<|Pl 2<|eE 4 [91] 95 91 (y.byteV==0) (q.byteV==255) (fun K d7 d8=>?_) ?_
 have et:=au d8
 exact Pl 1<|L1<|dp X 19<|Pl 2<|ce d7 _ rfl
 have bN:=us bM ao
 have bO:=ut bJ bN (ac (ni a.size d) (ac (ni (le a.size k.size) o) aA))
 refine az<|m2 (aX (((y.byteV==0)||(q.byteV==255))) 6 (RC.upd d6 ao (aa f ay) bO)) fun eu d9 ap=>?_
 refine fB d9 fun g da db=>?_
 refine aL 1<|az<|m3 (dP db) fun ev dc ar ew=>b6 g.byteV<|Pl 1<|aL 4<|eE 4 [103] 107 103 (g.byteV==1) (x55.byteV != 4) (fun K dd de=>?_) ?_
 have ex:=au de
 refine Pl 1<|?_
 exact L1<|dp (aY (u1 ap ar im) (Ne.symm f) X) 17<|Pl 2<|ce dd _ rfl
 refine az<|m2 (aX (((g.byteV==1)||(x55.byteV != 4))) 5 dc) fun df dh bP=>?_
 refine fB dh fun N di dr=>?_
 refine cy 1<|bk<|?_
 have hKr:0≤g.byteV∧g.byteV<256:=by omega
 have aw:=u1 ap (u1 ar bP im) im
 refine fE (fun x=>[(6,vP S 0),(7,vI 0),(8,vP r 0),(9,vP E 0),(12,vI g.byteV),(13,vI (x.1:Int))]) (fun(x:Nat × al × List Obj × Option Addr × Nat) w'=>aD [] w w'∧df.heap.size≤w'.heap.size∧w'.heap[S]? = some (.cells mZ 45 (0,0))∧RC w m A cp b w' r x.2.1∧w'.heap[E]? = some (.cells (mG 43 0 0 0 0 0 0 0 0 0 0 0 nS nS nS nS ((al.mk b false 0).byteV) x55.byteV j.byteV q.byteV y.byteV (.slice x.2.2.2.1 x.2.2.1.length x.2.2.2.2)) 45 (0,0))∧aQ w.heap.size 100 2 (pC (.slice A b.length cp) b) w' (.slice x.2.2.2.1 x.2.2.1.length x.2.2.2.2) x.2.2.1∧(x.1≤g.byteV.toNat)∧(x.2.2.1.length=x.1)∧(f4 (g.byteV.toNat-x.1) x.2.1 x.2.2.1=f4 g.byteV.toNat N [])) (fun x=>g.byteV.toNat-x.1) (0,N,[],none,0) ⟨(ud bO aw (le a.size d)),lr,(ub (ut T (ut U (ui F (ut bq (ut bz (ut bH (u1 bN aw im) (ac im (ac im aA))) (ac im (ac im aA))) (ac im (ac im aA)))) (ac im (ac im aA))) (ac (nr d) (ac (ni k.size o) aA))) s),dr,(aY aw (Ne.symm f) X),(aQ.nil w.heap.size _ _ (pC (.slice A b.length cp) b) _),(by(try dsimp only);omega),rfl,rfl⟩ ?_
 rintro⟨i,C,L,B,cq⟩ Y ⟨bQ,bR,ds,dt,du,dv,dw,dx,dy⟩
 refine eH [(6,vP S 0),(7,vI 0),(8,vP r 0),(9,vP E 0),(12,vI g.byteV),(13,vI (i:Int))] ?_
 have O:Y.heap[S]? = some (.cells mZ 45 (0,0)):=ds
 have z:RC w m A cp b Y r C:=dt
 have hlC:=RC.clen z
 have hrC:iA C:=RC.rng z
 have hbv:=iK hrC
 have hbv2:=iK (it hrC (n:=1))
 have bS:Y.heap[E]? = some (.cells (mG 43 0 0 0 0 0 0 0 0 0 0 0 nS nS nS nS ((al.mk b false 0).byteV) x55.byteV j.byteV q.byteV y.byteV (.slice B L.length cq)) 45 (0,0)):=du
 have t:aQ w.heap.size 100 2 (pC (.slice A b.length cp) b) Y (.slice B L.length cq) L:=dv
 have ey:i≤g.byteV.toNat:=dw
 have ez:L.length=i:=dx
 have bT:f4 (g.byteV.toNat-i) C L=f4 g.byteV.toNat N []:=dy
 refine sq<|ax 3<|cb ((decide ((i:Int)<g.byteV))) (fun Z=>?_) (fun Z=>?_)
 have dz:=of_decide_eq_true Z
 refine bp<|sq<|bk<|ak 1<|az<|m3 (dP z) fun eA dA aC eB=>Pl 1<|aL 1<|az<|m3 (dP dA) fun eC bW aF eD=>?_
 refine b6 ((C.bytesC 1).byteV)<|Pl 1<|aL 2<|az<|pK (fw (n:=(C.bytesC 1).byteV) (by omega) bW) fun dB dC eF dD bX aG=>?_
 have eG:=Nat.le_trans (al.bytesR_le ((C.bytesC 1).bytesC 1) ((C.bytesC 1).byteV)) (RC.clen bW)
 refine aj 1<|go<|Pl 1<|?_
 have aP:=u1 aC (u1 aF aG im) im
 have aR:=aY aP (Ne.symm f) bS
 refine aH aR 21<|Pl 3<|L0<|ep (m:=1) (e:=100) #[vB C.byteV,.slice dB ((((C.bytesC 1).bytesC 1).bytesR ((C.bytesC 1).byteV)).length) dC] fun eI eJ eK dE G=>?_
 have bY:=RC.upd bX G ay (aD.step (RC.u bX) G)
 have dF:=ky (R:=pC (.slice A b.length cp) b) (x:=(Obj.mk C.byteV (((C.bytesC 1).bytesC 1).bytesR ((C.bytesC 1).byteV)))) dE rfl ⟨_,_,_,rfl,dD,b8 (x:=C.byteV) (by omega)⟩
 have bZ:=aM aP G
 have c1:=ai t bZ (fun x hx=>(aa (fun e=>(RC.nrow z t (by decide)) (e▸hx)) ay)) (fun _ _ h=>h)
 refine L0<|gL (xs:=L) (ys:=([(Obj.mk C.byteV (((C.bytesC 1).bytesC 1).bytesR ((C.bytesC 1).byteV)))])) (.agg #[vB 0,nS]) 2 32 c1 dF (by simp) pC.ones (fun _ _ _ _ h=>h) (by(try simp only[cD,aN]);omega) (le (le (le (le (le (le (le (le (le (le (le (le (le (le (le (le (le (le (le (le (le (le (le (le (le a.size k.size) b1.size) b2.size) a1.size) a3.size) F.size) ab.size) ae.size) bs.size) bt.size) af.size) bD.size) bF.size) an.size) bK.size) bL.size) ao.size) ap.size) ar.size) bP.size) bR) aC.size) aF.size) aG.size) G.size) fun c2 c3 eL c4 aS=>Pl 1<|?_
 have c5:=aD.blk (ut (aD.mono (S':=(ob B++[])) G aA) aS (aB il aA)) (aZ (bU aR (ai t aP (fun x hx=>(aa (fun e=>(RC.nrow z t (by decide)) (e▸hx)) ay)) (fun _ _ h=>h)) (by decide)) ay) aR
 refine L0<|bI c5 21 (mG 43 0 0 0 0 0 0 0 0 0 0 0 nS nS nS nS ((al.mk b false 0).byteV) x55.byteV j.byteV q.byteV y.byteV (.slice c2 ((L++[(Obj.mk C.byteV (((C.bytesC 1).bytesC 1).bytesR ((C.bytesC 1).byteV)))]).length) c3)) fun eM dG aT=>nl<|bn<|tn<|go<|Pl 1<|b6 ((i:Int)+1)<|Pl 1<|nl<|?_
 have c6:=u1 (aD.mono (S':=(ob B++(E :: []))) aS (aB il aA)) aT im
 have c7:=ut (aD.mono (S':=(r :: (ob B++(E :: [])))) bZ (ac im aA)) c6 (aB il (ac im aA))
 have c9:=ut bQ c7 (ac (ni a.size d) (aB (bE t lr) (ac (ni (le a.size k.size) o) aA)))
 exact dH ((i+1),(((C.bytesC 1).bytesC 1).bytesC ((C.bytesC 1).byteV)),(L++[(Obj.mk C.byteV (((C.bytesC 1).bytesC 1).bytesR ((C.bytesC 1).byteV)))]),c2,c3) ⟨c9,(le (le (le (le (le (le bR aC.size) aF.size) aG.size) G.size) aS.size) aT.size),(aD.blk c7 (aa (nb (ag s) lr d) (aZ (bU O t (by decide)) (aa (nb (ag s) k.size o) ay))) O),(RC.upd bY c6 (aZ (RC.nrow bY c1 (by decide)) (aa f ay)) c9),dG,(ai c4 aT (fun x hx=>(aa (fun e=>(bU c5 c4 (by decide)) (e▸hx)) ay)) (fun _ _ h=>h)),(by(try dsimp only);omega),(by(try dsimp only);simp only[cD];omega),(by(try dsimp only);rw[← bT,show g.byteV.toNat-i=(g.byteV.toNat-(i+1))+1 from by omega];rfl)⟩ (by omega)
 have dz:=of_decide_eq_false Z
 refine xt<|tx<|tx<|bx<|bn<|tn<|ak 1<|?_
 have hR:=wU bT (by omega)
 refine az<|m2 (lZ z) fun eN aU P=>nt<|sq<|ak 3<|L0<|dX (p:=⟨r,3,none⟩) (v:=vI C.endC.e) (RC.fld aU)<|aj 1<|?_
 have ca:=ud bQ P (le a.size d)
 have hs:aq cG 1 c b=bA (bg.mk 43 0 0 0 0 0 0 0 0 0 0 0 [] [] [] [] ((al.mk b false 0).byteV) x55.byteV j.byteV q.byteV y.byteV (f4 g.byteV.toNat N []).2) (f4 g.byteV.toNat N []).1:=by
   subst di da d4 cY cQ b7
   unfold aq cG dS jw gH gI fL eY fA e9
   (try simp only[D,J,Z,bj,dl,dm,dj,dn,dk,reduceIte])
   all_goals rfl
 refine cb ((C.endC.e != 0)) (fun aV=>?_) (fun aV=>?_)
 have aW:=av aV
 refine sq<|Rg 7 (fun w'=>w'.cell? ⟨r,3,none⟩=some (vI C.endC.e)) fun eO a0=>?_
 have cc:=RC.upd aU a0 ay (aD.step (RC.u aU) a0)
 refine bB (RC.fld cc) fun Q=>Rt 0 Q<|Rt 1 Q<|Rt 2 Q<|Rt 3 Q<|Rl 4 Q (fun _ hs=>hs)<|?_
 have cd:=nb (ag s) lr d
 refine R0 5 rfl<|iX (aY (aM P a0) cd O) mZ fun eP dI cf=>?_
 have cg:=ud ca (uz a0 cf) H
 refine bB (RC.fld (RC.upd cc cf (aa (Ne.symm cd) ay) cg)) fun dJ=>Rt 6 dJ<|re<|tn<|bh<|bV dI (vI C.endC.e)<|?_
 rw[hR] at hs
 rw[hs]
 exact cL aW cg
 have aW:=aJ aV
 refine bp<|sg<|?_
 refine L0<|cO (aY P (Ne.symm f) bS)<|?_
 refine aE (aY P (nb (ag s) lr d) O) (mG 43 0 0 0 0 0 0 0 0 0 0 0 nS nS nS nS ((al.mk b false 0).byteV) x55.byteV j.byteV q.byteV y.byteV (.slice B L.length cq)) fun eQ dL ch=>aj 1<|rt<|bV dL (vI 0)<|?_
 rw[hR] at hs
 rw[hs]
 exact dg aW ⟨_,_,_,_,_,rfl,aI.nil ..,aI.nil ..,(fun _ _ _=>aI.nil ..),aI.nil ..,((ai t (us P ch) (fun x hx=>(aa (fun e=>(RC.nrow z t (by decide)) (e▸hx)) (aa (fun e=>(bU O t (by decide)) (e▸hx)) ay))) (fun _ _ h=>h))).rd,(c8 (by omega))⟩ (ud ca ch H)
theorem m0(hcode:B8 c)(hsl:aO m w (.slice A b.length cp) b)(hb:b.length≤1048576)(hd:¬ (dir=0∨dir=1)) :
    Calls Tryz.prog 113 #[vI dir,vB c,.slice A b.length cp] w (cT (.slice A b.length cp) b (aq cG dir c b) w):=by
 obtain⟨hcode1,hcode2⟩:=hcode
 have hln:(b.length:Int)≤1048576:=by omega
 have e0:(dir != 0)=true:=by simp;omega
 have e1:(dir != 1)=true:=by simp;omega
 refine en 176 Tryz.func113 rfl<|sg<|aK mZ fun g h a d e=>aj 1<|sq<|ak 3<|sy 19 e0<|Pl 3<|nl<|tn<|ct e1<|ak 1<|aE d mZ fun i ej f=>aj 1<|bh<|bV ej (vI 1)<|?_
 exact dq (by unfold aq cG dS jw gH gI fL eY fA e9;(try simp only[e0,e1,bj,dl,dm,dj,dn,dk,reduceIte,hd])<;>rfl) (bu (ud e f a))
theorem pZ(hc:B8 c)(h:aO m w v b)(hb:b.length≤1048576) :
    Calls Tryz.prog 113 #[.int .i64 dir,.int .u8 c,v] w (cT v b (aq ca dir c b) w):=by
  rw[← oH (aO.range h)]
  obtain⟨A,cp,rfl,_,_⟩:=h.shape
  by_cases h0:dir=0
  · subst h0;exact lL hc h hb
  by_cases h1:dir=1
  · subst h1;exact lK hc h hb
  exact m0 hc h hb (by omega)
open Go.RowKit
theorem ws:Calls Tryz.prog 164 #[vB x] w (bD (.bool (py x)) w):=by
 refine en 37 Tryz.func164 rfl<|ak 1<|aL 3<|cV 3 [5] 8 5 (decide (1≤x)) (decide (x≤8)) (fun K e f=>?_) ?_
 have n:=of_decide_eq_true f
 exact Pl 3<|ce e _ rfl
 refine Pl 1<|eE 3 [9] 12 9 ((decide (1≤x))&&(decide (x≤8))) (x==11) (fun K g o=>?_) ?_
 exact Pl 3<|ce g _ rfl
 refine Pl 1<|eE 3 [13] 16 13 (((decide (1≤x))&&(decide (x≤8)))||(x==11)) (x==12) (fun K h p=>?_) ?_
 exact Pl 3<|ce h _ rfl
 refine Pl 1<|cu 7 [17] 24 ((((((decide (1≤x))&&(decide (x≤8)))||(x==11))||(x==12))||((decide (15≤x))&&(decide (x≤17))))) (fun K c=>?_) ?_
 refine bl 17 (((((decide (1≤x))&&(decide (x≤8)))||(x==11))||(x==12))) (fun a=>?_) (fun a=>?_)
 exact Pl 7<|ce c true (by rw[a];rfl)
 refine Pl 3<|cV 3 [20] 23 20 (decide (15≤x)) (decide (x≤17)) (fun K i j=>?_) ?_
 have q:=of_decide_eq_true j
 exact Pl 3<|ce i _ rfl
 exact Pl 1<|ce c ((decide (15≤x))&&(decide (x≤17))) (by rw[a];rfl)
 refine Pl 1<|cu 7 [25] 32 (((((((decide (1≤x))&&(decide (x≤8)))||(x==11))||(x==12))||((decide (15≤x))&&(decide (x≤17))))||((decide (20≤x))&&(decide (x≤24))))) (fun K d=>?_) ?_
 refine bl 25 ((((((decide (1≤x))&&(decide (x≤8)))||(x==11))||(x==12))||((decide (15≤x))&&(decide (x≤17))))) (fun b=>?_) (fun b=>?_)
 exact Pl 7<|ce d true (by rw[b];rfl)
 refine Pl 3<|cV 3 [28] 31 28 (decide (20≤x)) (decide (x≤24)) (fun K k l=>?_) ?_
 have r:=of_decide_eq_true l
 exact Pl 3<|ce k _ rfl
 exact Pl 1<|ce d ((decide (20≤x))&&(decide (x≤24))) (by rw[b];rfl)
 refine Pl 1<|eE 3 [33] 36 33 ((((((decide (1≤x))&&(decide (x≤8)))||(x==11))||(x==12))||((decide (15≤x))&&(decide (x≤17))))||((decide (20≤x))&&(decide (x≤24)))) (x==43) (fun K m s=>?_) ?_
 exact Pl 3<|ce m _ rfl
 exact aj 1<|rt<|rr (.bool (((((((decide (1≤x))&&(decide (x≤8)))||(x==11))||(x==12))||((decide (15≤x))&&(decide (x≤17))))||((decide (20≤x))&&(decide (x≤24))))||(x==43)))<|dq (by unfold py;(try simp only[bj])<;>rfl) ⟨rfl,(aD.refl [] _)⟩
open Go.RowKit
def iF (b:List Int) : bg × Int :=
  if decide ((b.length:Int)<1) then (bg.zero,2)
  else if decide (b.getD 0 0-128<0) then (bg.zero,4)
  else if !(py ((b.getD 0 0-128)%256)) then (bg.zero,4)
  else if decide ((b.length:Int)<2) then (bg.zero,2)
  else if !(dE (b.getD 1 0)) then (bg.zero,6)
  else if decide (2<(b.length:Int)) then (bg.zero,3)
  else (AV ((b.getD 0 0-128)%256) (b.getD 1 0),0)
theorem AA:py x=gc x:=by
  unfold py gc
  rw[Bool.eq_iff_iff]
  simp only[decide_eq_true_eq,List.mem_cons,List.not_mem_nil,or_false,Bool.or_eq_true,Bool.and_eq_true,beq_iff_eq]
  omega
theorem wK(b:List Int) : iF b=gW b:=by
  unfold iF gW
  rw[AA,show decide ((b.length:Int)<1)=((b.length:Int)==0) from by rw[Bool.eq_iff_iff];simp only[decide_eq_true_eq,beq_iff_eq];omega,show decide (b.getD 0 0-128<0)=decide (b.getD 0 0<128) from by rw[Bool.eq_iff_iff];simp only[decide_eq_true_eq];omega]
  by_cases h:b.length=0
  · rw[show((b.length:Int)==0)=true from by rw[beq_iff_eq];omega];rfl
  · rw[show decide ((b.length:Int)<2)=((b.length:Int)==1) from by rw[Bool.eq_iff_iff];simp only[decide_eq_true_eq,beq_iff_eq];omega]
theorem pB(hsl:aO m w (.slice A b.length cp) b)(hb:b.length≤1048576) :
    Calls Tryz.prog 108 #[.slice A b.length cp] w (cT (.slice A b.length cp) b (iF b) w):=by
 have hln:(b.length:Int)≤1048576:=by omega
 refine en 46 Tryz.func108 rfl<|sg<|aK mZ fun a3 a4 e f n=>aj 1<|sq<|ax 3<|cb ((decide ((b.length:Int)<1))) (fun a=>?_) (fun a=>?_)
 have u:=of_decide_eq_true a
 refine ak 1<|aE f mZ fun a5 z B=>aj 1<|bh<|bV z (vI 2)<|?_
 exact dq (y:=(bg.zero,2)) (by unfold iF;(try simp only[a,bj,Bool.not_eq_true,reduceIte])<;>rfl) (bu (ud n B e))
 have u:=of_decide_eq_false a
 refine bp<|ak 1<|?_
 have s:=aO.old hsl n
 refine ea (aO.at_ s 0 (by omega)) fun C D E F a6=>L0<|iV b.length 0 E (by omega)<|L0<|dX (p:=⟨C,D+0,none⟩) (v:=vB (b.getD 0 0)) F<|b6 (b.getD 0 0)<|b6 ((b.getD 0 0)-128)<|aj 1<|sq<|ax 2<|cb ((decide (((b.getD 0 0)-128)<0))) (fun c=>?_) (fun c=>?_)
 have G:=of_decide_eq_true c
 refine ak 1<|aE f mZ fun a7 H I=>aj 1<|bh<|bV H (vI 4)<|?_
 exact dq (y:=(bg.zero,4)) (by unfold iF;(try simp only[a,c,bj,Bool.not_eq_true,reduceIte])<;>rfl) (bu (ud n I e))
 have G:=of_decide_eq_false c
 refine bp<|ak 2<|az<|m1 (ws (x:=(((b.getD 0 0)-128)%256))) fun a8 g=>aj 1<|sq<|ak 2<|nl<|tn<|?_
 have q:=aM n g
 refine cb ((!(py (((b.getD 0 0)-128)%256)))) (fun d=>?_) (fun d=>?_)
 have i:(py (((b.getD 0 0)-128)%256))=false:=by simpa using d
 refine ak 1<|?_
 refine aE (ub g f) mZ fun a9 J K=>aj 1<|bh<|bV J (vI 4)<|?_
 exact dq (y:=(bg.zero,4)) (by unfold iF;(try simp only[a,c,d,i,bj,Bool.not_eq_true,reduceIte])<;>rfl) (bu (ud q K e))
 have i:(py (((b.getD 0 0)-128)%256))=true:=by simpa using d
 refine bp<|sq<|ax 3<|cb ((decide ((b.length:Int)<2))) (fun h=>?_) (fun h=>?_)
 have L:=of_decide_eq_true h
 refine ak 1<|?_
 refine aE (ub g f) mZ fun aa M N=>aj 1<|bh<|bV M (vI 2)<|?_
 exact dq (y:=(bg.zero,2)) (by unfold iF;(try simp only[a,c,d,i,h,bj,Bool.not_eq_true,reduceIte])<;>rfl) (bu (ud q N e))
 have L:=of_decide_eq_false h
 refine bp<|ak 1<|?_
 have t:=aO.old s g
 refine ea (aO.at_ t 1 (by omega)) fun O P Q R ab=>L0<|iV b.length 1 Q (by omega)<|L0<|dX (p:=⟨O,P+1,none⟩) (v:=vB (b.getD 1 0)) R<|az<|m1 (wS (x:=(b.getD 1 0)) (by omega)) fun ac k=>aj 1<|sq<|ax 2<|?_
 have r:=aM q k
 refine cb ((!(dE (b.getD 1 0)))) (fun j=>?_) (fun j=>?_)
 have o:(dE (b.getD 1 0))=false:=by simpa using j
 refine ak 1<|?_
 refine aE (ub (aM g k) f) mZ fun ad S T=>aj 1<|bh<|bV S (vI 6)<|?_
 exact dq (y:=(bg.zero,6)) (by unfold iF;(try simp only[a,c,d,i,h,j,o,bj,Bool.not_eq_true,reduceIte])<;>rfl) (bu (ud r T e))
 have o:(dE (b.getD 1 0))=true:=by simpa using j
 refine bp<|sq<|ax 3<|cb ((decide (2<(b.length:Int)))) (fun l=>?_) (fun l=>?_)
 have U:=of_decide_eq_true l
 refine ak 1<|?_
 refine aE (ub (aM g k) f) mZ fun ae V W=>aj 1<|bh<|bV V (vI 3)<|?_
 exact dq (y:=(bg.zero,3)) (by unfold iF;(try simp only[a,c,d,i,h,j,o,l,bj,Bool.not_eq_true,reduceIte])<;>rfl) (bu (ud r W e))
 have U:=of_decide_eq_false l
 refine bp<|ak 3<|?_
 refine ea (aO.at_ (aO.old t k) 1 (by omega)) fun X Y Z a0 af=>L0<|iV b.length 1 Z (by omega)<|L0<|dX (p:=⟨X,Y+1,none⟩) (v:=vB (b.getD 1 0)) a0<|Pl 1<|?_
 refine aE (ub (aM g k) f) (mG (((b.getD 0 0)-128)%256) (b.getD 1 0) 0 0 0 0 0 0 0 0 0 0 nS nS nS nS 0 0 0 0 0 nS) fun ag a1 a2=>aj 1<|rt<|bV a1 (vI 0)<|?_
 exact dq (y:=((bg.mk (((b.getD 0 0)-128)%256) (b.getD 1 0) 0 0 0 0 0 0 0 0 0 0 [] [] [] [] 0 0 0 0 0 []),0)) (by unfold iF;(try simp only[a,c,d,i,h,j,o,l,bj,Bool.not_eq_true,reduceIte])<;>rfl) ⟨_,rfl,⟨_,_,_,_,_,rfl,aI.nil ..,aI.nil ..,(fun _ _ _=>aI.nil ..),aI.nil ..,aI.nil ..,(c8 (by omega))⟩,(ud r a2 e)⟩
theorem qB(h:aO m w v b)(hb:b.length≤1048576) : Calls Tryz.prog 108 #[v] w (cT v b (gW b) w):=by
  obtain⟨A,cp,rfl,_,_⟩:=h.shape
  rw[← wK]
  exact pB h hb
open Go.RowKit
variable {v0:Value}
theorem gv{x y:bg × Int}(h:x=y)  {e:Ending}{w':World}   (k:cT v0 b y w e w') : cT v0 b x w e w':=by rw[h];exact k
theorem o0(hc:B8 c)(h:aO m w v b)(hb:b.length≤1048576) :
    Calls Tryz.prog 109 #[.int .i64 dir,.int .u8 c,v] w (cT v b (aq aU dir c b) w):=by
  obtain⟨A,cp,rfl,_,_⟩:=h.shape
  by_cases h0:dir=0
  · subst h0;exact kW hc h hb
  by_cases h1:dir=1
  · subst h1;exact kV hc h hb
  exact lg hc h hb (by omega)
theorem px(hc:B8 c)(h:aO m w v b)(hb:b.length≤1048576) :
    Calls Tryz.prog 110 #[.int .i64 dir,.int .u8 c,v] w (cT v b (aq b7 dir c b) w):=by
  obtain⟨A,cp,rfl,_,_⟩:=h.shape
  by_cases h0:dir=0
  · subst h0;exact lJ hc h hb
  by_cases h1:dir=1
  · subst h1;exact lS hc h hb
  exact mg hc h hb (by omega)
theorem oY(hc:B8 c)(h:aO m w v b)(hb:b.length≤1048576) :
    Calls Tryz.prog 111 #[.int .i64 dir,.int .u8 c,v] w (cT v b (aq bv dir c b) w):=by
  obtain⟨A,cp,rfl,_,_⟩:=h.shape
  rw[← ns]
  by_cases h0:dir=0
  · subst h0;exact lW hc h hb
  by_cases h1:dir=1
  · subst h1;exact mf hc h hb
  exact lO hc h hb (by omega)
theorem pH(hsl:aO m w (.slice A b.length cp) b)(hb:b.length≤1048576) :
    Calls Tryz.prog 78 #[vI dir,.slice A b.length cp] w (cT (.slice A b.length cp) b (di dir b) w):=by
 have hln:(b.length:Int)≤1048576:=by omega
 refine en 87 Tryz.func78 rfl<|sg<|aK mZ fun bJ bK u d i=>aj 1<|sq<|ak 3<|cV 3 [11] 14 11 (dir != 0) (dir != 1) (fun K aI aJ=>?_) ?_
 have bL:=av aJ
 exact Pl 3<|ce aI _ rfl
 refine nt<|cb (((dir != 0)&&(dir != 1))) (fun f=>?_) (fun f=>?_)
 have aL:=(aR f).1
 have aN:=(aR f).2
 refine ak 1<|aE d mZ fun bM aP aQ=>aj 1<|bh<|bV aP (vI 1)<|?_
 have hs:fW dir b=(bg.zero,1):=by
   unfold fW
   (try simp only[f,aL,aN,bj,fa,reduceIte])
   all_goals rfl
 rw[← fi]
 refine gv hs ?_
 exact bu (ud i aQ u)
 refine bp<|sq<|ax 3<|cb (((b.length:Int)==0)) (fun g=>?_) (fun g=>?_)
 have aS:=am g
 refine ak 1<|aE d mZ fun bN aT aV=>aj 1<|bh<|bV aT (vI 2)<|?_
 have hs:fW dir b=(bg.zero,2):=by
   unfold fW
   (try simp only[f,g,bj,fa,reduceIte])
   all_goals rfl
 rw[← fi]
 refine gv hs ?_
 exact bu (ud i aV u)
 have aS:=au g
 refine bp<|sq<|ax 3<|cb ((decide (253<(b.length:Int)))) (fun j=>?_) (fun j=>?_)
 have aX:=of_decide_eq_true j
 refine ak 1<|aE d mZ fun bO aY aZ=>aj 1<|bh<|bV aY (vI 3)<|?_
 have hs:fW dir b=(bg.zero,3):=by
   unfold fW
   (try simp only[f,g,j,bj,fa,reduceIte])
   all_goals rfl
 rw[← fi]
 refine gv hs ?_
 exact bu (ud i aZ u)
 have aX:=of_decide_eq_false j
 refine bp<|ak 1<|?_
 have D:=aO.old hsl i
 refine ea (aO.at_ D 0 (by omega)) fun b0 b1 b2 b3 bP=>L0<|iV b.length 0 b2 (by omega)<|L0<|dX (p:=⟨b0,b1+0,none⟩) (v:=vB (b.getD 0 0)) b3<|aj 1<|sq<|ak 3<|cV 3 [29] 32 29 (decide (128≤(b.getD 0 0))) (dir==1) (fun K b4 b5=>?_) ?_
 have bQ:=of_decide_eq_true b5
 exact Pl 3<|ce b4 _ rfl
 refine nt<|cb (((decide (128≤(b.getD 0 0)))&&(dir==1))) (fun x=>?_) (fun x=>?_)
 have b6:=(aR x).1
 have b9:=(aR x).2
 refine ak 1<|az<|e2 (qB D (by omega)) fun ba bR E L=>?_
 refine Pl 2<|?_
 have S:=ub L d
 refine aE (hz:=(by rw[E.size];exact be)) (hv:=E.size) (h1:=(bG.one E (aO.old D L))) S (ba) fun bS bb T=>aj 1<|bh<|eW 22 E.size bb (vI (((gW b)).2))<|?_
 have hs:fW dir b=(gW b):=by
   unfold fW
   (try simp only[f,g,j,x,b6,b9,bj,fa,reduceIte])
   all_goals rfl
 rw[← fi]
 refine gv hs ?_
 exact⟨_,rfl,(bG.upd E T (ah (aW S (by decide)) aC)),(ud i (uz L T) u)⟩
 refine bp<|ak 3<|iy (dw (P:=Tryz.prog) 27 5 1 Tryz.underlying27 rfl rfl A b.length cp 1 (by omega)) fun bc hrun54 U=>L0<|f9 (.slice bc (b.length-1) (cp-1)) (cH (kl:=.i64) (k:=((1:Nat) : Int)) (A:=A) (n:=b.length) (c:=cp) rfl Tryz.underlying27 (by kernel_rfl) (by kernel_rfl) (hrun54 _ _))<|az<|e2 (o0 (dir:=dir) (c:=(b.getD 0 0)) (b8 (by omega)) (U _ _ _ _ _ D) (by(try simp only[List.length_drop]);omega)) fun V bT bd e=>?_
 have G:=aO.old D e
 have l:=bG.sub bd (fun m' w' q=>(U _ _ _ _ _ q))
 refine Pl 3<|aK mZ fun bU bW a bf bi=>aE (hz:=(by rw[l.size];exact be)) (hv:=l.size) (h1:=(bG.one l hsl)) bf (V) fun bX W bk=>aj 1<|sq<|ax 2<|?_
 have H:=ud bi bk a
 have o:=aM e H
 have X:=aM i o
 refine cb (((((aq aU dir (b.getD 0 0) (b.drop 1))).2)==4)) (fun h=>?_) (fun h=>?_)
 have bl:=am h
 refine go<|Pl 3<|iy (dw (P:=Tryz.prog) 27 5 1 Tryz.underlying27 rfl rfl A b.length cp 1 (by omega)) fun bm hrun75 Y=>L0<|f9 (.slice bm (b.length-1) (cp-1)) (cH (kl:=.i64) (k:=((1:Nat) : Int)) (A:=A) (n:=b.length) (c:=cp) rfl Tryz.underlying27 (by kernel_rfl) (by kernel_rfl) (hrun75 _ _))<|?_
 refine az<|e2 (px (dir:=dir) (c:=(b.getD 0 0)) (b8 (by omega)) (Y _ _ _ _ _ (aO.old G H)) (by(try simp only[List.length_drop]);omega)) fun Z bY bn M=>?_
 have r:=bG.sub bn (fun m' w' q=>(Y _ _ _ _ _ q))
 refine Pl 3<|?_
 have a0:=ub M W
 refine aE (hz:=(by rw[r.size];exact be)) (hv:=(Eq.trans r.size (Eq.symm l.size))) (h1:=(bG.one r hsl)) a0 (Z) fun bZ a1 a2=>aj 1<|sq<|ax 2<|?_
 have C:=uz M a2
 have a3:=ud X C (le (le i.size e.size) a)
 refine cb (((((aq b7 dir (b.getD 0 0) (b.drop 1))).2)==4)) (fun y=>?_) (fun y=>?_)
 have bq:=am y
 refine go<|Pl 3<|iy (dw (P:=Tryz.prog) 27 5 1 Tryz.underlying27 rfl rfl A b.length cp 1 (by omega)) fun br hrun92 a4=>L0<|f9 (.slice br (b.length-1) (cp-1)) (cH (kl:=.i64) (k:=((1:Nat) : Int)) (A:=A) (n:=b.length) (c:=cp) rfl Tryz.underlying27 (by kernel_rfl) (by kernel_rfl) (hrun92 _ _))<|?_
 have a5:=ud H C a
 refine az<|e2 (oY (dir:=dir) (c:=(b.getD 0 0)) (b8 (by omega)) (a4 _ _ _ _ _ (aO.old G a5)) (by(try simp only[List.length_drop]);omega)) fun a6 c0 bs N=>?_
 have s:=bG.sub bs (fun m' w' q=>(a4 _ _ _ _ _ q))
 refine Pl 3<|?_
 have a7:=ub N a1
 refine aE (hz:=(by rw[s.size];exact be)) (hv:=(Eq.trans s.size (Eq.symm r.size))) (h1:=(bG.one s hsl)) a7 (a6) fun c1 a8 a9=>aj 1<|sq<|ax 2<|?_
 have I:=uz N a9
 have aa:=ud a3 I (le (le i.size e.size) a)
 refine cb (((((aq bv dir (b.getD 0 0) (b.drop 1))).2)==4)) (fun B=>?_) (fun B=>?_)
 have bt:=am B
 refine go<|Pl 3<|iy (dw (P:=Tryz.prog) 27 5 1 Tryz.underlying27 rfl rfl A b.length cp 1 (by omega)) fun bw hrun110 ab=>L0<|f9 (.slice bw (b.length-1) (cp-1)) (cH (kl:=.i64) (k:=((1:Nat) : Int)) (A:=A) (n:=b.length) (c:=cp) rfl Tryz.underlying27 (by kernel_rfl) (by kernel_rfl) (hrun110 _ _))<|?_
 have O:=u1 C I im
 have ad:=ud a5 I a
 refine az<|e2 (nK (dir:=dir) (c:=(b.getD 0 0)) (b8 (by omega)) (ab _ _ _ _ _ (aO.old G ad)) (by(try simp only[List.length_drop]);omega)) fun ae c2 bx Q=>?_
 have t:=bG.sub bx (fun m' w' q=>(ab _ _ _ _ _ q))
 refine Pl 3<|?_
 have af:=ub Q a8
 refine aE (hz:=(by rw[t.size];exact be)) (hv:=(Eq.trans t.size (Eq.symm s.size))) (h1:=(bG.one t hsl)) af (ae) fun c3 ag ai=>aj 1<|sq<|ax 2<|?_
 have J:=uz Q ai
 have al:=ud aa J (le (le i.size e.size) a)
 refine cb (((((aq bo dir (b.getD 0 0) (b.drop 1))).2)==4)) (fun F=>?_) (fun F=>?_)
 have bz:=am F
 refine go<|Pl 3<|iy (dw (P:=Tryz.prog) 27 5 1 Tryz.underlying27 rfl rfl A b.length cp 1 (by omega)) fun bA hrun130 an=>L0<|f9 (.slice bA (b.length-1) (cp-1)) (cH (kl:=.i64) (k:=((1:Nat) : Int)) (A:=A) (n:=b.length) (c:=cp) rfl Tryz.underlying27 (by kernel_rfl) (by kernel_rfl) (hrun130 _ _))<|?_
 have ao:=u1 O J im
 refine az<|e2 (pZ (dir:=dir) (c:=(b.getD 0 0)) (b8 (by omega)) (an _ _ _ _ _ (aO.old G (ud ad J a))) (by(try simp only[List.length_drop]);omega)) fun ap c4 bB R=>?_
 have z:=bG.sub bB (fun m' w' q=>(an _ _ _ _ _ q))
 refine Pl 3<|?_
 have ar:=ub R ag
 refine aE (hz:=(by rw[z.size];exact be)) (hv:=(Eq.trans z.size (Eq.symm t.size))) (h1:=(bG.one z hsl)) ar (ap) fun c5 bC aw=>Pl 1<|ng<|L0<|cO (hz:=(by rw[z.size];exact be)) bC<|Pl 1<|?_
 have ay:=uz R aw
 refine aE (hz:=(by rw[z.size];exact be)) (hv:=z.size) (h1:=(bG.one z hsl)) (ub (ud o (u1 ao ay im) (le e.size a)) d) (ap) fun c6 bD aB=>aj 1<|rt<|eW 22 z.size bD (vI (((aq ca dir (b.getD 0 0) (b.drop 1))).2))<|?_
 have hs:fW dir b=(aq ca dir (b.getD 0 0) (b.drop 1)):=by
   unfold fW
   (try simp only[f,g,j,x,h,y,B,F,bj,fa,reduceIte])
   all_goals rfl
 rw[← fi]
 refine gv hs ?_
 exact⟨_,rfl,(bG.upd z (us aw aB) (ah (aW ar (by decide)) (ah (aW (ub (ud o (aM ao R) (le e.size a)) d) (by decide)) aC))),(ut al (us ay aB) (ac (ni (le i.size e.size) a) (ac (nr u) aA)))⟩
 have bz:=au F
 refine bp<|sg<|L0<|cO (hz:=(by rw[t.size];exact be)) ag<|Pl 1<|?_
 refine aE (hz:=(by rw[t.size];exact be)) (hv:=t.size) (h1:=(bG.one t hsl)) (ub (ud o (u1 O J im) (le e.size a)) d) (ae) fun c7 bE aD=>aj 1<|rt<|eW 22 t.size bE (vI (((aq bo dir (b.getD 0 0) (b.drop 1))).2))<|?_
 have hs:fW dir b=(aq bo dir (b.getD 0 0) (b.drop 1)):=by
   unfold fW
   (try simp only[f,g,j,x,h,y,B,F,bj,fa,reduceIte])
   all_goals rfl
 rw[← fi]
 refine gv hs ?_
 exact⟨_,rfl,(bG.upd t (us ai aD) (ah (aW af (by decide)) (ah (aW (ub (ud o (aM O Q) (le e.size a)) d) (by decide)) aC))),(ud al aD u)⟩
 have bt:=au B
 refine bp<|sq<|ax 2<|cf B<|bp<|sg<|L0<|cO (hz:=(by rw[s.size];exact be)) a8<|Pl 1<|?_
 refine aE (hz:=(by rw[s.size];exact be)) (hv:=s.size) (h1:=(bG.one s hsl)) (ub (ud o (u1 C I im) (le e.size a)) d) (a6) fun c8 bF aF=>aj 1<|rt<|eW 22 s.size bF (vI (((aq bv dir (b.getD 0 0) (b.drop 1))).2))<|?_
 have hs:fW dir b=(aq bv dir (b.getD 0 0) (b.drop 1)):=by
   unfold fW
   (try simp only[f,g,j,x,h,y,B,bj,fa,reduceIte])
   all_goals rfl
 rw[← fi]
 refine gv hs ?_
 exact⟨_,rfl,(bG.upd s (us a9 aF) (ah (aW a7 (by decide)) (ah (aW (ub (ud o (aM C N) (le e.size a)) d) (by decide)) aC))),(ud aa aF u)⟩
 have bq:=au y
 refine bp<|sq<|ax 2<|cf y<|bp<|sq<|ax 2<|cf y<|bp<|sg<|L0<|cO (hz:=(by rw[r.size];exact be)) a1<|Pl 1<|?_
 refine aE (hz:=(by rw[r.size];exact be)) (hv:=r.size) (h1:=(bG.one r hsl)) (ub (ud o C (le e.size a)) d) (Z) fun c9 bH aG=>aj 1<|rt<|eW 22 r.size bH (vI (((aq b7 dir (b.getD 0 0) (b.drop 1))).2))<|?_
 have hs:fW dir b=(aq b7 dir (b.getD 0 0) (b.drop 1)):=by
   unfold fW
   (try simp only[f,g,j,x,h,y,bj,fa,reduceIte])
   all_goals rfl
 rw[← fi]
 refine gv hs ?_
 exact⟨_,rfl,(bG.upd r (us a2 aG) (ah (aW a0 (by decide)) (ah (aW (ub (aM o M) d) (by decide)) aC))),(ud a3 aG u)⟩
 have bl:=au h
 refine bp<|sq<|ax 2<|cf h<|bp<|sq<|ax 2<|cf h<|bp<|sq<|ax 2<|cf h<|sk<|tn<|sg<|L0<|cO (hz:=(by rw[l.size];exact be)) W<|Pl 1<|?_
 refine aE (hz:=(by rw[l.size];exact be)) (hv:=l.size) (h1:=(bG.one l hsl)) (ub o d) (V) fun cc bI aH=>aj 1<|rt<|eW 22 l.size bI (vI (((aq aU dir (b.getD 0 0) (b.drop 1))).2))<|?_
 have hs:fW dir b=(aq aU dir (b.getD 0 0) (b.drop 1)):=by
   unfold fW
   (try simp only[f,g,j,x,h,bj,fa,reduceIte])
   all_goals rfl
 rw[← fi]
 refine gv hs ?_
 exact⟨_,rfl,(bG.upd l (uz H aH) (ah (aW (ub e d) (by decide)) aC)),(ud X aH u)⟩
theorem qA(h:aO m w v b)(hb:b.length≤1048576) : Calls Tryz.prog 78 #[.int .i64 dir,v] w (cT v b (di dir b) w):=by
  obtain⟨A,cp,rfl,_,_⟩:=h.shape
  exact pH h hb
open Go.RowKit
def lC (v0:Value)(b:List Int)(res:bq × Int)(w:World)(e:Ending)(w':World) : Prop:=∃ x,e = .returned (.tuple #[.agg (k9 res.1.unit res.1.tid res.1.msg x),.int .i64 res.2])∧(bG v0 b w' (iU res.1.msg x).toList res.1.msg∧(0≤res.1.unit∧res.1.unit<256)∧(0≤res.1.tid∧res.1.tid<65536))∧aD [] w w'
theorem eA{x y:bq × Int}(h:x=y)  {e:Ending}{w':World}   (k:lC v0 b y w e w') : lC v0 b x w e w':=by rw[h];exact k
def CY:SL:=⟨none,0,none,0,none,0,none,0,none,0⟩
theorem dJ{W:World}(hu:aD [] w W) : lC v0 b (bq.zero,x) w (.returned (.tuple #[.agg uD,.int .i64 x])) W:=⟨CY,(by kernel_rfl),⟨bG.zero v0 b W,(show(0:Int)≤0∧(0:Int)<256 from by decide),(show(0:Int)≤0∧(0:Int)<65536 from by decide)⟩,hu⟩
variable {E:Int}
theorem gC(hX:di dir b=(M,E))(h:aO m w v b)(hb:b.length≤1048576) : Calls Tryz.prog 78 #[.int .i64 dir,v] w (fun e w'=>∃ x,e = .returned (.tuple #[.agg (iU M x),.int .i64 E])∧bG v b w' (iU M x).toList M∧aD [] w w'):=by
  refine(qA h hb).mono ?_
  rintro e w' ⟨cs,rfl,h1,h2⟩
  rw[hX] at h1 ⊢
  obtain⟨x,rfl⟩:=lm (h1.rd (aO.old h h2))
  exact⟨x,rfl,h1,h2⟩
end Go.Proofs.YtdkhbcefkfgbdaaGreat
namespace Go.Proofs.YtdkhbcefkfgbdaaGreat
theorem sa(a b k:Nat) : (a ^^^ b)/2 ^ k=(a/2 ^ k) ^^^ (b/2 ^ k):=by
  rw[← Nat.shiftRight_eq_div_pow,Nat.shiftRight_xor_distrib,Nat.shiftRight_eq_div_pow,Nat.shiftRight_eq_div_pow]
theorem uy(x z:Nat) : ja (x ^^^ 2*z)=ja x ^^^ z:=by
  unfold ja
  have h1:(x ^^^ 2*z)/2=(x/2) ^^^ z:=by
    have:=sa x (2*z) 1
    rw[show(2:Nat) ^ 1=2 from rfl] at this
    rw[this,show 2*z/2=z from by omega]
  have h2:(x ^^^ 2*z)%2=x%2:=by
    have:=Nat.xor_mod_two_pow (a:=x) (b:=2*z) (n:=1)
    rw[show(2:Nat) ^ 1=2 from rfl] at this
    rw[this,show 2*z%2=0 from by omega,Nat.xor_zero]
  rw[h1,h2,Nat.xor_assoc,Nat.xor_comm z,← Nat.xor_assoc]
theorem p8(x:Nat) : ∀ (k h:Nat),fd k (x ^^^ 2 ^ k*h)=fd k x ^^^ h
  | 0,h=>by show x ^^^ 2 ^ 0*h=x ^^^ h;rw[Nat.pow_zero,Nat.one_mul]
  | k+1,h=>by
    show ja (fd k (x ^^^ 2 ^ (k+1)*h))=ja (fd k x) ^^^ h
    rw[Nat.pow_succ,Nat.mul_assoc,p8 x k (2*h),uy]
theorem wg(s:Nat) : (s%256) ^^^ (2 ^ 8*(s/256))=s:=by
  have h1:=Nat.xor_mod_two_pow (a:=s%256) (b:=2 ^ 8*(s/256)) (n:=8)
  have h2:=sa (s%256) (2 ^ 8*(s/256)) 8
  rw[show(2:Nat) ^ 8=256 from rfl] at *
  rw[show 256*(s/256)%256=0 from by omega,Nat.xor_zero] at h1
  rw[show s%256/256=0 from by omega,Nat.zero_xor] at h2
  omega
theorem rg(s c:Nat) : fd 8 (s ^^^ c)=rW s c:=by
  have h:=p8 ((s%256) ^^^ c) 8 (s/256)
  rw[Nat.xor_assoc,Nat.xor_comm c,← Nat.xor_assoc,wg] at h
  rw[h,Nat.xor_comm]
  rfl
theorem pv{n:Nat}(hn:n<65536) : (if n%2=1 then (n/2) ^^^ 40961 else n/2)=ja n:=by
  unfold ja
  split
  · rename_i h;rw[h]
  · rename_i h;rw[show n%2=0 from by omega,Nat.zero_mul,Nat.xor_zero]
open Go.RowKit
variable {c:Int}
theorem vQ{n:Nat}(h:c=(n:Int))(hn:n<65536)(q:(c%2==1)=true) : xi (c/2) 40961=((ja n:Nat) : Int):=by
  have q2:c%2=1:=by simpa using q
  rw[← pv hn,if_pos (by omega)]
  unfold xi
  rw[show(c/2).toNat=n/2 from by omega]
  rfl
theorem vO{n:Nat}(h:c=(n:Int))(hn:n<65536)(q:(c%2==1)=false) : c/2=((ja n:Nat) : Int):=by
  have q2:¬ c%2=1:=by simpa using q
  rw[← pv hn,if_neg (by omega)]
  omega
variable {b:List Int}{i:Nat}{s:Int}
theorem sP(hs:0≤dG s b i∧dG s b i<65536)(hb:0≤b.getD i 0∧b.getD i 0<256)  (h:c=((fd 8 ((dG s b i).toNat ^^^ (b.getD i 0).toNat) : Nat) : Int)) : c=dG s b (i+1):=by
  rw[h,rg,← oK hs hb]
  rfl
theorem yz{a:Int}(ha:0≤a∧a<65536)(hc:0≤c∧c<256) : a.toNat ^^^ c.toNat<65536:=lH (by omega) (by omega)
variable {l:List Int}
theorem sG(h:i<l.length) : l.getD i 0∈l:=by
  rw[List.getD_eq_getElem?_getD,List.getElem?_eq_getElem h]
  exact List.getElem_mem h
variable {A:Option Addr}{cp:Nat}{m:Md}{w:World}
theorem Av(hsl:aO m w (.slice A b.length cp) b)(hs:0≤s∧s<65536) :
    Calls Tryz.prog 189 #[vW s,.slice A b.length cp] w (bD (vW (co s b)) w):=by
 have hln:=aI.len hsl
 have hb:=aO.range hsl
 refine en 34 Tryz.func189 rfl<|ax 1<|sq<|ax 1<|bk<|fE (fun x=>[(0,vW x.2),(1,.slice A b.length cp),(4,vW 0),(5,vI (x.1:Int))]) (fun(x:Nat × Int) w'=>aD [] w w'∧(x.1≤b.length)∧(x.2=dG s b x.1)∧(0≤x.2∧x.2<65536)) (fun x=>b.length-x.1) (0,s) ⟨aD.refl _ _,(by(try dsimp only);omega),rfl,hs⟩ ?_
 rintro⟨i,c⟩ r ⟨f,t,u,y⟩
 refine eH [(0,vW c),(1,.slice A b.length cp),(4,vW 0),(5,vI (i:Int))] ?_
 have H:i≤b.length:=t
 have q:c=dG s b i:=u
 have I:0≤c∧c<65536:=y
 have hcr:0≤dG s b i∧dG s b i<65536:=js hs hb _
 refine sq<|ax 4<|cb ((decide ((i:Int)<(b.length:Int)))) (fun g=>?_) (fun g=>?_)
 have z:=of_decide_eq_true g
 refine bp<|sq<|bk<|ak 3<|?_
 refine ea (aO.at_ (aO.old hsl f) i (by omega)) fun h j B C J=>L0<|iV b.length i B (by omega)<|L0<|dX (p:=⟨h,j+i,none⟩) (v:=vB (b.getD i 0)) C<|L0<|zZ (b.getD i 0)<|?_
 have K:=B7 (a:=c) (b:=(b.getD i 0)) (by omega) (by omega)
 refine L0<|Oe (vW (bits .xor .u16 c (b.getD i 0))) (vW (xi c (b.getD i 0))) (congrArg (Value.int .u16) (nX (by omega) (by omega)))<|Pl 1<|cy 1<|bk<|?_
 have hbr:0≤b.getD i 0∧b.getD i 0<256:=hb _ (sG (by omega))
 have hxl:=yz hcr hbr
 refine fE (fun x=>[(0,vW x.2),(1,.slice A b.length cp),(4,vW 0),(5,vI (i:Int)),(6,vI (x.1:Int)),(8,vI (i:Int)),(9,.slice A b.length cp),(10,vI (b.length:Int)),(11,.bool (decide ((i:Int)<(b.length:Int)))),(14,vW c),(15,.slice A b.length cp),(16,vI (i:Int)),(17,.pointer (some (⟨h,j+i,none⟩))),(18,vB (b.getD i 0)),(19,vW (b.getD i 0)),(20,vW (xi c (b.getD i 0)))]) (fun(x:Nat × Int) w'=>aD [] r w'∧(x.1≤8)∧(x.2=((fd x.1 ((dG s b i).toNat ^^^ (b.getD i 0).toNat) : Nat) : Int))) (fun x=>8-x.1) (0,(xi c (b.getD i 0))) ⟨aD.refl _ _,(by(try dsimp only);omega),(by(try dsimp only);rw[q];rfl)⟩ ?_
 rintro⟨k,d⟩ L ⟨l,D,E⟩
 refine eH [(0,vW d),(1,.slice A b.length cp),(4,vW 0),(5,vI (i:Int)),(6,vI (k:Int)),(8,vI (i:Int)),(9,.slice A b.length cp),(10,vI (b.length:Int)),(11,.bool (decide ((i:Int)<(b.length:Int)))),(14,vW c),(15,.slice A b.length cp),(16,vI (i:Int)),(17,.pointer (some (⟨h,j+i,none⟩))),(18,vB (b.getD i 0)),(19,vW (b.getD i 0)),(20,vW (xi c (b.getD i 0)))] ?_
 have M:k≤8:=D
 have n:d=((fd k ((dG s b i).toNat ^^^ (b.getD i 0).toNat) : Nat) : Int):=E
 have hkl:=iq hxl k
 refine sq<|ax 2<|?_
 refine cb ((decide ((k:Int)<8))) (fun o=>?_) (fun o=>?_)
 have F:=of_decide_eq_true o
 refine bp<|sq<|bk<|ak 1<|L0<|Oe (vW (Int.tmod d 2)) (vW (d%2)) (congrArg (Value.int .u16) (Int.tmod_eq_emod_of_nonneg (by omega)))<|Pl 2<|aL 1<|L0<|Oe (vW (IntKind.u16.wrap (Int.tdiv d 2))) (vW (d/2)) (congrArg (Value.int .u16) (s7 (by omega) (by omega)))<|Pl 1<|cy 1<|cb (((d%2)==1)) (fun e=>?_) (fun e=>?_)
 have G:=am e
 refine go<|Pl 1<|?_
 have N:=B7 (a:=(d/2)) (b:=40961) (by omega) (by omega)
 exact L0<|Oe (vW (bits .xor .u16 (d/2) 40961)) (vW (xi (d/2) 40961)) (congrArg (Value.int .u16) (nX (by omega) (by omega)))<|Pl 1<|nl<|bn<|tn<|go<|Pl 1<|b6 ((k:Int)+1)<|Pl 1<|nl<|dH ((k+1),(xi (d/2) 40961)) ⟨l,(by(try dsimp only);omega),(vQ n (iq hxl k) e)⟩ (by omega)
 have G:=au e
 exact sk<|bn<|tn<|go<|Pl 1<|b6 ((k:Int)+1)<|Pl 1<|nl<|dH ((k+1),(d/2)) ⟨l,(by(try dsimp only);omega),(vO n (iq hxl k) e)⟩ (by omega)
 have F:=of_decide_eq_false o
 refine xt<|tx<|tx<|bx<|bn<|tn<|go<|Pl 1<|b6 ((i:Int)+1)<|Pl 1<|nl<|?_
 have hc8:d=dG s b (i+1):=sP hcr hbr (by rw[n,show k=8 from by omega])
 exact dH ((i+1),d) ⟨(aM f l),(by(try dsimp only);omega),hc8,(by(try dsimp only);rw[hc8];exact js hs hb _)⟩ (by omega)
 have z:=of_decide_eq_false g
 refine xt<|tx<|tx<|bx<|tn<|ax 2<|rt<|rr (vW c)<|?_
 have hk:c=co s b:=by rw[q];exact oc (by omega)
 rw[← hk]
 exact⟨rfl,f⟩
variable {v:Value}
theorem BF(h:aO m w v b) : Calls Tryz.prog 189 #[.int .u16 65535,v] w (bD (.int .u16 (co 65535 b)) w):=by
  obtain⟨A,cp,rfl,_,_⟩:=h.shape
  exact Av h (by decide)
theorem rD(h:2≤b.length)(hb:∀ x,x∈b→0≤x∧x<256) : dy b=((b.getD (((b.length:Nat) : Int)-2).toNat 0==(co 65535 (b.take (((b.length:Nat) : Int)-2).toNat)%256)%256)&&(b.getD (((b.length:Nat) : Int)-1).toNat 0==(co 65535 (b.take (((b.length:Nat) : Int)-2).toNat)/256)%256)):=by
  unfold dy cn
  rw[decide_eq_true h,Bool.true_and,show(((b.length:Nat) : Int)-2).toNat=b.length-2 from by omega,show(((b.length:Nat) : Int)-1).toNat=b.length-2+1 from by omega]
  have e:b.drop (b.length-2)=[b.getD (b.length-2) 0,b.getD (b.length-2+1) 0]:=by
    apply List.ext_getElem
    · simp;omega
    · intro i h1 h2
      simp only[List.length_cons,List.length_nil] at h2
      rw[List.getElem_drop]
      rcases i with _|_|i
      · simp[List.getD_eq_getElem?_getD,List.getElem?_eq_getElem (show b.length-2<b.length by omega)]
      · simp[List.getD_eq_getElem?_getD,List.getElem?_eq_getElem (show b.length-2+1<b.length by omega)]
      · omega
  rw[e,Bool.eq_iff_iff]
  simp only[decide_eq_true_eq,List.cons.injEq,and_true,Bool.and_eq_true,beq_iff_eq]
  constructor
  · rintro⟨h1,h2⟩
    exact⟨by rw[← h1];omega,by rw[← h2]⟩
  · rintro⟨h1,h2⟩
    exact⟨by rw[h1];omega,by rw[h2]⟩
theorem Ck(hsl:aO m w (.slice A b.length cp) b)(hl:b.length≤1048576)(hcp:b.length≤cp) :
    Calls Tryz.prog 127 #[.slice A b.length cp] w (bD (.bool (dy b)) w):=by
 have hln:=aI.len hsl
 have hb:=aO.range hsl
 refine en 34 Tryz.func127 rfl<|ak 1<|cy 3<|sq<|ax 2<|cb ((decide ((b.length:Int)<2))) (fun a=>?_) (fun a=>?_)
 have i:=of_decide_eq_true a
 refine ax 1<|bh<|rr (.bool false)<|?_
 have hs:dy b=false:=by unfold dy;rw[decide_eq_false (by omega)];rfl
 rw[hs]
 exact⟨rfl,(aD.refl [] _)⟩
 have i:=of_decide_eq_false a
 refine bp<|ak 2<|b6 ((b.length:Int)-2)<|iy (rU (P:=Tryz.prog) 27 5 1 Tryz.underlying27 rfl rfl A b.length cp (k:=((b.length:Int)-2)) ((((b.length:Int)-2)).toNat) (by omega) (by omega) (by omega)) fun f hrun12 g=>L0<|f9 (.slice f ((((b.length:Int)-2)).toNat) cp) (jd (kl:=.i64) (k:=((b.length:Int)-2)) (A:=A) (n:=b.length) (c:=cp) rfl Tryz.underlying27 (by kernel_rfl) (by kernel_rfl) (hrun12 _ _))<|az (args:=#[vW 65535,.slice f ((((b.length:Int)-2)).toNat) cp])<|m1 (BF (g _ _ _ _ _ hsl)) fun z e=>?_
 have B:=j8 (b.take ((((b.length:Int)-2)).toNat)) (s:=65535) (by decide) (aO.range (g _ _ _ _ _ hsl))
 refine Pl 1<|aL 2<|b6 ((b.length:Int)-2)<|?_
 have h:=aO.old hsl e
 refine ea (aO.at_ h ((((b.length:Int)-2)).toNat) (by omega)) fun j l o q C=>L0<|iZ b.length ((((b.length:Int)-2)).toNat) ((b.length:Int)-2) (by omega) o (by omega)<|L0<|dX (p:=⟨j,l+((((b.length:Int)-2)).toNat),none⟩) (v:=vB (b.getD ((((b.length:Int)-2)).toNat) 0)) q<|Pl 1<|L0<|Oe (vW (Int.tmod (co 65535 (b.take ((((b.length:Int)-2)).toNat))) 256)) (vW ((co 65535 (b.take ((((b.length:Int)-2)).toNat)))%256)) (congrArg (Value.int .u16) (Int.tmod_eq_emod_of_nonneg (by omega)))<|Pl 3<|bl 23 (((b.getD ((((b.length:Int)-2)).toNat) 0)==(((co 65535 (b.take ((((b.length:Int)-2)).toNat)))%256)%256))) (fun d=>?_) (fun d=>?_)
 have r:=am d
 refine Pl 2<|L1<|Oi ((b.length:Int)-1)<|ea (aO.at_ h ((((b.length:Int)-1)).toNat) (by omega)) fun t u x y D=>L1<|iZ b.length ((((b.length:Int)-1)).toNat) ((b.length:Int)-1) (by omega) x (by omega)<|L1<|dX (p:=⟨t,u+((((b.length:Int)-1)).toNat),none⟩) (v:=vB (b.getD ((((b.length:Int)-1)).toNat) 0)) y<|Pl 1<|L1<|Oe (vW (IntKind.u16.wrap (Int.tdiv (co 65535 (b.take ((((b.length:Int)-2)).toNat))) 256))) (vW ((co 65535 (b.take ((((b.length:Int)-2)).toNat)))/256)) (congrArg (Value.int .u16) (s7 (by omega) (by omega)))<|aj 4<|rt<|rr (.bool ((b.getD ((((b.length:Int)-1)).toNat) 0)==(((co 65535 (b.take ((((b.length:Int)-2)).toNat)))/256)%256)))<|?_
 have hs:dy b=((b.getD ((((b.length:Int)-1)).toNat) 0)==(((co 65535 (b.take ((((b.length:Int)-2)).toNat)))/256)%256)):=by rw[rD (by omega) hb];(try simp only[a,d,bj]);all_goals rfl
 rw[hs]
 exact⟨rfl,e⟩
 have r:=au d
 refine aj 11<|rt<|rr (.bool false)<|?_
 have hs:dy b=false:=by rw[rD (by omega) hb];(try simp only[a,d,bj]);all_goals rfl
 rw[hs]
 exact⟨rfl,e⟩
theorem D2(h:aO m w v b)(hb:b.length≤1048576) : Calls Tryz.prog 127 #[v] w (bD (.bool (dy b)) w):=by
  obtain⟨A,cp,rfl,hc,_⟩:=h.shape
  exact Ck h hb hc
open Go.RowKit
variable {dir:Int}
theorem oL(hsl:aO m w (.slice A b.length cp) b)(hb:b.length≤1048576)(hcp:b.length≤cp) :
    Calls Tryz.prog 88 #[vI dir,.slice A b.length cp] w (lC (.slice A b.length cp) b (dM dir b) w):=by
 have hln:(b.length:Int)≤1048576:=by omega
 have hrb:=aO.range hsl
 refine en 49 Tryz.func88 rfl<|sg<|aK #[vB 0,vW 0,vB 0,vB 0,vW 0,vW 0,vW 0,vW 0,vW 0,vW 0,vW 0,vW 0,vW 0,vW 0,nS,nS,nS,nS,vB 0,vB 0,vB 0,vB 0,vB 0,nS] fun ap aq j e o=>Pl 1<|cy 3<|sq<|sq<|go<|Pl 3<|cV 3 [14] 17 14 (dir != 0) (dir != 1) (fun K R S=>?_) ?_
 have au:=av S
 exact Pl 3<|ce R _ rfl
 refine nt<|cb (((dir != 0)&&(dir != 1))) (fun d=>?_) (fun d=>?_)
 have z:=(aR d).1
 have B:=(aR d).2
 have ay:=av z
 have aA:=av B
 refine ak 1<|aE e #[vB 0,vW 0,vB 0,vB 0,vW 0,vW 0,vW 0,vW 0,vW 0,vW 0,vW 0,vW 0,vW 0,vW 0,nS,nS,nS,nS,vB 0,vB 0,vB 0,vB 0,vB 0,nS] fun aB T U=>aj 1<|bh<|bV T (vI 1)<|?_
 have hs:dM dir b=(bq.zero,1):=by
   unfold dM
   (try simp only[d,z,B,bj,bQ,reduceIte])
   all_goals rfl
 refine eA hs ?_
 exact dJ (ud o U j)
 refine bp<|sq<|ax 2<|cb ((decide ((b.length:Int)<4))) (fun f=>?_) (fun f=>?_)
 have V:=of_decide_eq_true f
 refine ak 1<|aE e #[vB 0,vW 0,vB 0,vB 0,vW 0,vW 0,vW 0,vW 0,vW 0,vW 0,vW 0,vW 0,vW 0,vW 0,nS,nS,nS,nS,vB 0,vB 0,vB 0,vB 0,vB 0,nS] fun aD W X=>aj 1<|bh<|bV W (vI 2)<|?_
 have hs:dM dir b=(bq.zero,2):=by
   unfold dM
   (try simp only[d,f,bj,bQ,reduceIte])
   all_goals rfl
 refine eA hs ?_
 exact dJ (ud o X j)
 have V:=of_decide_eq_false f
 refine bp<|sq<|ax 2<|cb ((decide (256<(b.length:Int)))) (fun h=>?_) (fun h=>?_)
 have Y:=of_decide_eq_true h
 refine ak 1<|aE e #[vB 0,vW 0,vB 0,vB 0,vW 0,vW 0,vW 0,vW 0,vW 0,vW 0,vW 0,vW 0,vW 0,vW 0,nS,nS,nS,nS,vB 0,vB 0,vB 0,vB 0,vB 0,nS] fun aF Z a0=>aj 1<|bh<|bV Z (vI 3)<|?_
 have hs:dM dir b=(bq.zero,3):=by
   unfold dM
   (try simp only[d,f,h,bj,bQ,reduceIte])
   all_goals rfl
 refine eA hs ?_
 exact dJ (ud o a0 j)
 have Y:=of_decide_eq_false h
 refine bp<|ak 1<|?_
 have C:=aO.old hsl o
 refine az (args:=#[.slice A b.length cp])<|m1 (D2 C (by omega)) fun aG i=>aj 1<|sq<|ax 2<|?_
 have D:=aM o i
 refine cb ((!(dy b))) (fun k=>?_) (fun k=>?_)
 have s:(dy b)=false:=by simpa using k
 refine ak 1<|?_
 refine aE (ub i e) #[vB 0,vW 0,vB 0,vB 0,vW 0,vW 0,vW 0,vW 0,vW 0,vW 0,vW 0,vW 0,vW 0,vW 0,nS,nS,nS,nS,vB 0,vB 0,vB 0,vB 0,vB 0,nS] fun aH a1 a2=>aj 1<|bh<|bV a1 (vI 10)<|?_
 have hs:dM dir b=(bq.zero,10):=by
   unfold dM
   (try simp only[d,f,h,k,s,bj,bQ,reduceIte])
   all_goals rfl
 refine eA hs ?_
 exact dJ (ud D a2 j)
 have s:(dy b)=true:=by simpa using k
 refine bp<|ak 3<|b6 ((b.length:Int)-2)<|iy (eh (P:=Tryz.prog) 27 5 1 Tryz.underlying27 rfl rfl A b.length cp (lo:=1) (up:=((b.length:Int)-2)) 1 ((((b.length:Int)-2)).toNat) (by omega) (by omega) (by omega) (by omega) (by omega)) fun a3 hrun43 E=>L0<|f9 (.slice a3 (((((b.length:Int)-2)).toNat)-1) (cp-1)) (d9 (kl:=.i64) (kh:=.i64) (lo:=1) (hi:=((b.length:Int)-2)) (A:=A) (n:=b.length) (c:=cp) rfl Tryz.underlying27 (by kernel_rfl) (by kernel_rfl) (by kernel_rfl) (hrun43 _ _ _))<|?_
 have F:=aO.old C i
 refine pr (di dir ((b.take ((((b.length:Int)-2)).toNat)).drop 1)) fun a p v=>?_
 refine az<|e2 (gC v (E _ _ _ _ _ F) (by rw[List.length_drop,List.length_take];omega)) fun x49 aI a4 y=>?_
 have a5:=bG.sub a4 (fun m' w' q=>(E _ _ _ _ _ q))
 refine Pl 3<|aK mZ fun G aL H a6 a7=>aE a6 (iU a x49) fun aN a8 a9=>aj 1<|sq<|ax 2<|?_
 have I:=ud a7 a9 H
 have t:=aM y I
 have J:=aM D t
 refine cb ((p != 0)) (fun r=>?_) (fun r=>?_)
 have aa:=av r
 refine ak 2<|?_
 refine aE (ub (aM i t) e) #[vB 0,vW 0,vB 0,vB 0,vW 0,vW 0,vW 0,vW 0,vW 0,vW 0,vW 0,vW 0,vW 0,vW 0,nS,nS,nS,nS,vB 0,vB 0,vB 0,vB 0,vB 0,nS] fun aP ac ae=>aj 1<|bh<|bV ac (vI p)<|?_
 have hX2:di dir (gf b)=(a,p):=(congrArg (di dir) (gk b)).trans v
 have hs:dM dir b=(bq.zero,p):=by
   unfold dM
   (try simp only[d,f,h,k,s,r,bj,bQ,hX2,reduceIte])
   all_goals rfl
 refine eA hs ?_
 exact dJ (ud J ae j)
 have aa:=aJ r
 refine bp<|sq<|?_
 refine ea (aO.at_ (aO.old F t) 0 (by omega)) fun af ai L al aQ=>Rg 8 (fun w'=>w'.cell? ⟨af,ai+0,none⟩=some (vB (b.getD 0 0))∧w'.heap[G]? = some (.cells (iU a x49) 45 (0,0))) fun aS u=>?_
 have M:=ub u a8
 refine bB ⟨(uc u al),M⟩ fun l=>Rt 0 l<|kj 1 l b.length 0 0 rfl L (by omega)<|Rl 2 l (fun _ hs=>hs.1)<|Rt 3 l<|Rr 4 l (.agg (iU a x49)) (fun w' hs=>hG (g:=G) (off:=0) [vB a.code,vB a.fail,vW a.addr,vW a.count,vW a.value,vW a.and_,vW a.or_,vW a.addr2,vW a.sub,vW a.status,vW a.events,vW a.messages,.slice x49.aw a.words.length x49.kw,.slice x49.ab a.bits.length x49.kb,.slice x49.ad a.data.length x49.kd,.slice x49.ar a.recs.length x49.kr,vB a.mei,vB a.kind,vB a.level,vB a.more,vB a.next,.slice x49.ao a.objects.length x49.ko] rfl (by kernel_rfl) hs.2 (by kernel_rfl) (by kernel_rfl) rfl)<|Rt 5 l<|?_
 refine R0 6 rfl<|iX (ub (aM i (aM t u)) e) (k9 (b.getD 0 0) 0 a x49) fun aT am N=>?_
 have O:=uz u N
 have Q:=ud J O j
 refine bB ⟨(cB (aO.old hsl Q) L 0 (by omega)),(aY N (Ne.symm (nb (ag e) (le i.size y.size) H)) M)⟩ fun an=>Rt 7 an<|re<|tn<|rt<|bV am (vI 0)<|?_
 have hX2:di dir (gf b)=(a,p):=(congrArg (di dir) (gk b)).trans v
 have hs:dM dir b=(⟨(b.getD 0 0),0,a⟩,0):=by
   unfold dM
   (try simp only[d,f,h,k,s,r,bj,bQ,hX2,reduceIte])
   all_goals rfl
 refine eA hs ?_
 exact⟨x49,rfl,⟨(bG.upd a5 (uz I O) (ah (aW (ub (aM i y) e) (by decide)) aC)),b8 (x:=(b.getD 0 0)) (by omega),ci (x:=0) (by omega)⟩,Q⟩
theorem q5(h:aO m w v b)(hb:b.length≤1048576) : Calls Tryz.prog 88 #[.int .i64 dir,v] w (lC v b (dM dir b) w):=by
  obtain⟨A,cp,rfl,hc,_⟩:=h.shape
  exact oL h hb hc
variable {E:Int}{F:bq}
theorem nv(hX:dM dir b=(F,E))(h:aO m w v b)(hb:b.length≤1048576) : Calls Tryz.prog 88 #[.int .i64 dir,v] w (fun e w'=>∃ x,e = .returned (.tuple #[.agg (k9 F.unit F.tid F.msg x),.int .i64 E])∧(bG v b w' (iU F.msg x).toList F.msg∧(0≤F.unit∧F.unit<256)∧(0≤F.tid∧F.tid<65536))∧aD [] w w'):=by
  refine(q5 h hb).mono ?_
  rintro e w' ⟨x,rfl,h1,h2⟩
  rw[hX] at h1 ⊢
  exact⟨x,rfl,h1,h2⟩
open Go.RowKit
def dI (dir:Int)(b:List Int)(ended:Bool) : List Ev:=if decide (256<(b.length:Int)) then [Ev.bad 3] else if ((b.length:Int)==0) || !ended then [] else [⟨(dM dir b).2,(dM dir b).1⟩]
def CQ (L:List Ev)(w:World)(e:Ending)(w':World) : Prop:=∃ v,e = .returned v∧lT w.heap.size w' v L∧aD [] w w'
theorem yx{ended:Bool}(hsl:aO true w (.slice A b.length cp) b)(hb:b.length≤1048576) :
    Calls Tryz.prog 66 #[vI dir,.slice A b.length cp,.bool ended] w (CQ (dI dir b ended) w):=by
 have hln:(b.length:Int)≤1048576:=by omega
 refine en 31 Tryz.func66 rfl<|ax 1<|sq<|ax 3<|cb ((decide (256<(b.length:Int)))) (fun a=>?_) (fun a=>?_)
 have o:=of_decide_eq_true a
 refine ak 1<|L0<|ep (m:=1) (e:=87) #[vI 3,vB 0,vW 0,vB 0,vB 0,vW 0,vW 0,vW 0,vW 0,vW 0,vW 0,vW 0,vW 0,vW 0,vW 0,nS,nS,nS,nS,vB 0,vB 0,vB 0,vB 0,vB 0,nS] fun p M q r s=>aj 1<|bh<|rr (.slice (some ⟨p,0,none⟩) 1 1)<|?_
 have hE:=f5 (m:=true) (w0:=w) (x:=Ev.bad 3) q r ⟨⟨none,0,none,0,none,0,none,0,none,0⟩,by kernel_rfl,dY,by decide,by decide⟩
 exact dq (by unfold dI;(try simp only[a,bj,reduceIte])<;>rfl) ⟨_,rfl,hE,s⟩
 have o:=of_decide_eq_false a
 refine bp<|sq<|ak 4<|eE 3 [17] 20 17 ((b.length:Int)==0) (!ended) (fun K t u=>?_) ?_
 have N:=au u
 exact Pl 3<|ce t _ rfl
 refine nt<|cb ((((b.length:Int)==0)||(!ended))) (fun c=>?_) (fun c=>?_)
 exact ax 1<|bh<|rr nS<|dq (by unfold dI;(try simp only[a,c,bj,reduceIte])<;>rfl) ⟨_,rfl,aQ.nil ..,(aD.refl [] _)⟩
 have g:=(cv c).1
 have h:=(cv c).2
 have O:=au g
 have v:ended=true:=by simpa using h
 refine bp<|ak 2<|pr (dM dir b) fun d i j=>?_
 refine az<|e2 (nv j hsl (by omega)) fun wc P y f=>?_
 obtain⟨z,B,C⟩:=y
 have D:=bG.rdt z (aO.upd' hsl f aC)
 refine Pl 3<|aK #[vB 0,vW 0,vB 0,vB 0,vW 0,vW 0,vW 0,vW 0,vW 0,vW 0,vW 0,vW 0,vW 0,vW 0,nS,nS,nS,nS,vB 0,vB 0,vB 0,vB 0,vB 0,nS] fun Q R E F k=>aE F (k9 d.unit d.tid d.msg wc) fun S G l=>Pl 1<|aL 1<|L0<|cO G<|Pl 1<|L0<|ep (m:=1) (e:=87) (lV ⟨i,d⟩ wc) fun H T I J L=>Pl 1<|nl<|tn<|rt<|rr (.slice (some ⟨H,0,none⟩) 1 1)<|?_
 have n:=ud k (aM l L) E
 have hE:=f5 (m:=true) (w0:=w) (x:=⟨i,d⟩) (Nat.le_trans (le (le f.size k.size) l.size) I) J ⟨wc,rfl,(aS.upd D n aC),B,C⟩
 exact dq (by unfold dI;(try simp only[a,c,g,h,v,bj,j,reduceIte])<;>rfl) ⟨_,rfl,hE,(aM f n)⟩
theorem v9{ended:Bool}(h:aO true w v b)(hb:b.length≤1048576) : Calls Tryz.prog 66 #[.int .i64 dir,v,.bool ended] w (CQ (dI dir b ended) w):=by
  obtain⟨A,cp,rfl,_,_⟩:=h.shape
  exact yx h hb
open Go.RowKit
open Go.RowKit
open Go.RowKit
end Go.Proofs.YtdkhbcefkfgbdaaGreat
namespace Go.Proofs.YtdkhbcefkfgbdaaGreat
variable {L L2:List Ev}{b:List Int}
theorem wa{S S2 S3:SA}{a:List Int}  (h:S.feed a=(S2,L))(hX:S2.feed b=(S3,L2)) : S.feed (a++b)=(S3,L++L2):=by
  have gen:∀ (b:List Int) (T:SA) (K:List Ev),b.foldl (fun(p:SA × List Ev) c=>((p.1.byte c).1,p.2++(p.1.byte c).2)) (T,K)=((T.feed b).1,K++(T.feed b).2):=by
    intro b
    induction b with
    | nil=>intro T K;simp[SA.feed]
    | cons c t ih =>
      intro T K
      unfold SA.feed
      rw[List.foldl_cons,List.foldl_cons,ih,ih]
      simp
  unfold SA.feed at h ⊢
  rw[List.foldl_append,h,gen,hX]
variable {c:Int}
theorem xm{S:SA}  : S.feed [c]=S.byte c:=by
  unfold SA.feed
  simp
end Go.Proofs.YtdkhbcefkfgbdaaGreat
namespace Go.Proofs.YtdkhbcefkfgbdaaGreat
def zE (b:List Int)(i e:Nat) : Bool:=((b.getD (((e:Nat) : Int)-1).toNat 0==10)&&(b.getD (((e:Nat) : Int)-2).toNat 0==13))&&decide (2<((e:Nat) : Int)-((i:Nat) : Int))
def run (b:List Int)(i e:Nat) : List Int:=(b.take e).drop i
variable {b:List Int}{e i:Nat}
theorem gg(he:e≤b.length) : (run b i e).length=e-i:=by unfold run;rw[List.length_drop,List.length_take];omega
variable {j:Nat}
theorem yK(hj:i+j<e) : (run b i e).getD j 0=b.getD (i+j) 0:=by
  unfold run
  rw[List.getD_eq_getElem?_getD,List.getD_eq_getElem?_getD,List.getElem?_drop,List.getElem?_take,if_pos hj]
theorem mz(hi:i≤e)(he:e<b.length) : run b i e++[b.getD e 0]=run b i (e+1):=by
  unfold run
  rw[List.take_succ_eq_append_getElem he,List.drop_append,List.length_take,show i-min e b.length=0 from by omega,List.getD_eq_getElem?_getD,List.getElem?_eq_getElem he]
  rfl
theorem qi(hi:i+1≤e)(he:e≤b.length)(a:b.getD i 0=58) : g9 (run b i e) [13,10]=zE b i e:=by
  have hl:=gg (b:=b) (i:=i) he
  unfold g9 zE
  by_cases h1:e=i+1
  · rw[decide_eq_false (by rw[hl];simp;omega),Bool.false_and,show(((e:Nat) : Int)-1).toNat=i from by omega,a]
    rfl
  rw[decide_eq_true (show(([13,10] : List Int).length:Int)≤((run b i e).length:Int) by rw[hl];simp;omega),Bool.true_and]
  have hd:(run b i e).drop ((((run b i e).length:Nat) : Int)-((([13,10] : List Int).length:Nat) : Int)).toNat=[b.getD (e-2) 0,b.getD (e-1) 0]:=by
    rw[show((((run b i e).length:Nat) : Int)-((([13,10] : List Int).length:Nat) : Int)).toNat=e-i-2 from by rw[hl];simp;omega]
    apply List.ext_getElem
    · simp[hl];omega
    · intro j h2 h3
      simp only[List.length_cons,List.length_nil] at h3
      rw[List.getElem_drop]
      have g:=yK (b:=b) (i:=i) (e:=e) (j:=e-i-2+j) (by omega)
      rw[List.getD_eq_getElem?_getD,List.getElem?_eq_getElem (by rw[hl];omega)] at g
      simp only[Option.getD_some] at g
      rw[g]
      rcases j with _|_|j
      · rw[show i+(e-i-2+0)=e-2 from by omega];rfl
      · rw[show i+(e-i-2+(0+1))=e-1 from by omega];rfl
      · omega
  rw[hd,show(((e:Nat) : Int)-1).toNat=e-1 from by omega,show(((e:Nat) : Int)-2).toNat=e-2 from by omega]
  by_cases h2:e=i+2
  · rw[show e-2=i from by omega,a,decide_eq_false (show ¬ 2<((e:Nat) : Int)-((i:Nat) : Int) by omega),Bool.and_false,decide_eq_false]
    intro h
    injection h with h3 _
    cases h3
  · rw[decide_eq_true (show 2<((e:Nat) : Int)-((i:Nat) : Int) by omega),Bool.and_true,Bool.eq_iff_iff]
    simp only[decide_eq_true_eq,List.cons.injEq,and_true,Bool.and_eq_true,beq_iff_eq]
    exact And.comm
variable {L L2:List Ev}{k:Nat}
theorem jj{S0 T T2:SA}    (hk:k<b.length)(h:S0.feed (b.take k)=(T,L))(hx:T.byte (b.getD k 0)=(T2,L2)) : S0.feed (b.take (k+1))=(T2,L++L2):=by
  rw[List.take_succ_eq_append_getElem hk]
  rw[List.getD_eq_getElem?_getD,List.getElem?_eq_getElem hk] at hx
  exact wa h (xm.trans hx)
def kB (d:Int)(b:List Int)(i:Nat)(L:List Ev) : Prop:=(SA.mk d []).feed (b.take i)=(SA.mk d [],L)∨(i<b.length∧b.getD i 0=58∧∃ h L0,0<h.length∧(SA.mk d []).feed (b.take i)=(SA.mk d h,L0)∧L=L0++[Ev.mk 12 bq.zero])
def jq (d:Int)(b:List Int)(i e:Nat)(L:List Ev) : Prop:=(SA.mk d []).feed (b.take e)=((SA.tail d (run b i e)).1,L++(SA.tail d (run b i e)).2)
variable {d:Int}
theorem sM(h:kB d b i L)(hi:i<b.length)(hc:b.getD i 0≠58) : kB d b (i+1) L:=by
  rcases h with h|⟨_,h,_⟩
  · refine .inl ?_
    have hx:(SA.mk d []).byte (b.getD i 0)=(SA.mk d [],[]):=by
      unfold SA.byte
      rw[if_neg (by simp),if_pos (by simpa using hc)]
    have:=jj hi h hx
    rwa [List.append_nil] at this
  · exact absurd h hc
theorem xz(h:kB d b i L)(hi:i<b.length)(hc:b.getD i 0=58) : jq d b i (i+1) L:=by
  have hr:run b i (i+1)=[58]:=by rw[← mz (Nat.le_refl _) hi,hc];unfold run;rw[List.drop_of_length_le (by rw[List.length_take];omega)];rfl
  have ht:SA.tail d [58]=(SA.mk d [58],[]):=by
    unfold SA.tail g9
    rw[if_neg (by decide),if_neg (by decide)]
  unfold jq
  rw[hr,ht]
  rcases h with h|⟨_,_,g,L0,hg,h,rfl⟩
  · have hx:(SA.mk d []).byte (b.getD i 0)=(SA.mk d [58],[]):=by
      rw[hc]
      unfold SA.byte
      rw[if_neg (by simp),if_neg (by simp)]
      exact ht
    exact jj hi h hx
  · have hx:(SA.mk d g).byte (b.getD i 0)=(SA.mk d [58],[Ev.bad 12]):=by
      rw[hc]
      unfold SA.byte
      rw[if_pos (by simpa using hg)]
    rw[jj hi h hx,List.append_nil]
    rfl
theorem mV(h:jq d b i e L)(hi:i+1≤e)(he:e<b.length)(a:b.getD i 0=58)(hc:b.getD e 0≠58)(hn:e-i<514)(hz:zE b i e=false) : jq d b i (e+1) L:=by
  have hl:=gg (b:=b) (i:=i) (show e≤b.length by omega)
  have ht:SA.tail d (run b i e)=(SA.mk d (run b i e),[]):=by
    unfold SA.tail
    rw[if_neg (by rw[hl];simp only[decide_eq_true_eq];omega),if_neg (by rw[qi hi (by omega) a,hz];decide)]
  unfold jq at h
  rw[ht,List.append_nil] at h
  refine jj he h ?_
  unfold SA.byte
  rw[if_neg (by rw[Bool.and_eq_true,beq_iff_eq];exact fun h=>hc h.1),if_neg (by show ¬ ((b.getD e 0 != 58)&&(((run b i e).length:Int)==0))=true;rw[hl];simp only[Bool.and_eq_true,beq_iff_eq,not_and];omega)]
  show SA.tail d (run b i e++[b.getD e 0])=_
  rw[mz (by omega) he]
theorem jR(h:jq d b i e L)(he:e≤b.length)(hn:513<e-i) : kB d b e (L++[Ev.mk 3 bq.zero]):=by
  have ht:SA.tail d (run b i e)=(SA.mk d [],[Ev.bad 3]):=by
    unfold SA.tail
    rw[if_pos (by rw[gg he];simp only[decide_eq_true_eq];omega)]
  unfold jq at h
  rw[ht] at h
  exact .inl h
variable {E:Int}{F:bq}
theorem nA(h:jq d b i e L)(hi:i+1≤e)(he:e≤b.length)(a:b.getD i 0=58)(hn:¬ 513<e-i)(hz:zE b i e=true)   (hF:dZ d (run b i e)=(F,E)) : kB d b e (L++[Ev.mk E F]):=by
  have ht:SA.tail d (run b i e)=(SA.mk d [],[Ev.mk E F]):=by
    unfold SA.tail
    rw[if_neg (by rw[gg he];simp only[decide_eq_true_eq];omega),if_pos (by rw[qi hi he a,hz]),hF]
  unfold jq at h
  rw[ht] at h
  exact .inl h
theorem eN(h:jq d b i e L)(hi:i+1≤e)(he:e≤b.length)(a:b.getD i 0=58)(hn:¬ 513<e-i)(hz:zE b i e=false) : (SA.mk d []).feed (b.take e)=(SA.mk d (run b i e),L):=by
  have ht:SA.tail d (run b i e)=(SA.mk d (run b i e),[]):=by
    unfold SA.tail
    rw[if_neg (by rw[gg he];simp only[decide_eq_true_eq];omega),if_neg (by rw[qi hi he a,hz];decide)]
  unfold jq at h
  rw[ht,List.append_nil] at h
  exact h
theorem lG(h:jq d b i e L)(hi:i+1≤e)(he:e<b.length)(a:b.getD i 0=58)(hn:¬ 513<e-i)(hz:zE b i e=false)(hc:b.getD e 0=58) : kB d b e (L++[Ev.mk 12 bq.zero]) :=
  .inr ⟨he,hc,run b i e,L,by rw[gg (by omega)];omega,eN h hi (by omega) a hn hz,rfl⟩
def hM (d:Int)(b:List Int) : List Ev × Nat:=(((SA.mk d []).feed b).2,((SA.mk d []).feed b).1.held.length)
theorem v6(h:kB d b i L)(hi:i=b.length) : hM d b=(L,0):=by
  subst hi
  rcases h with h|⟨h,_⟩
  · rw[List.take_length] at h
    unfold hM
    rw[h]
    rfl
  · exact absurd h (Nat.lt_irrefl _)
theorem fm(h:(SA.mk d []).feed (b.take e)=(SA.mk d (run b i e),L))(he:e=b.length) : hM d b=(L,e-i):=by
  have hl:=gg (b:=b) (i:=i) (show e≤b.length by omega)
  rw[List.take_of_length_le (by omega)] at h
  unfold hM
  rw[h]
  show(L,(run b i e).length)=_
  rw[hl]
end Go.Proofs.YtdkhbcefkfgbdaaGreat
namespace Go.Proofs.YtdkhbcefkfgbdaaGreat
end Go.Proofs.YtdkhbcefkfgbdaaGreat
namespace Go.Proofs.YtdkhbcefkfgbdaaGreat
variable {b:List Int}{k:Nat}
theorem gY(hk:k<b.length) : b.take k++[b.getD k 0]=b.take (k+1):=by
  rw[List.take_succ_eq_append_getElem hk,List.getD_eq_getElem?_getD,List.getElem?_eq_getElem hk]
  rfl
variable {i:Nat}
theorem iH(h:i<k) : (b.take k).getD i 0=b.getD i 0:=by
  rw[List.getD_eq_getElem?_getD,List.getD_eq_getElem?_getD,List.getElem?_take,if_pos h]
variable {d s:Int}
theorem jl(h:6≤k) : (SM.mk d (b.take k) s).size=b.getD 4 0*256+b.getD 5 0:=by
  unfold SM.size
  rw[iH (by omega),iH (by omega)]
theorem va(hl:(b.length:Int)=6+(b.getD 4 0*256+b.getD 5 0))(h1:2≤b.getD 4 0*256+b.getD 5 0)(h2:b.getD 4 0*256+b.getD 5 0≤254)(hk:k+1<b.length) :
    (SM.mk d (b.take k) 0).byte (b.getD k 0)=(SM.mk d (b.take (k+1)) 0,[]):=by
  have e:=q6 (T:=SM.mk d (b.take k) 0) (c:=b.getD k 0) (show ¬ (0:Int)<0 by omega)
  simp only[gY (show k<b.length by omega)] at e
  refine e ?_
  have hlen:(b.take (k+1)).length=k+1:=by rw[List.length_take];omega
  unfold SM.nx
  by_cases h6:k+1<6
  · rw[if_pos (by show(b.take (k+1)).length<6;omega)]
  · rw[if_neg (by show ¬ (b.take (k+1)).length<6;omega),jl (by omega),if_neg (by omega),if_neg (by omega),if_neg (by show ¬ ((b.take (k+1)).length:Int)=_;omega)]
theorem rJ{d:Int}{b:List Int}(hl:(b.length:Int)=6+(b.getD 4 0*256+b.getD 5 0))(h1:2≤b.getD 4 0*256+b.getD 5 0)(h2:b.getD 4 0*256+b.getD 5 0≤254) :
    ∀ k,k<b.length→(SM.mk d (b.take k) 0,[])=(SM.mk d [] 0).feed (b.take k)
  | 0,_=>rfl
  | k+1,hk=>by
    have ih:=rJ (d:=d) hl h1 h2 k (by omega)
    exact jh (by omega) ih (va hl h1 h2 hk)
variable {E:Int}{F:bq}
theorem tE(hl:(b.length:Int)=6+(b.getD 4 0*256+b.getD 5 0))(h1:2≤b.getD 4 0*256+b.getD 5 0)(h2:b.getD 4 0*256+b.getD 5 0≤254)(hP:cg d b=(F,E)) :
    (SM.mk d [] 0).feed b=(SM.mk d [] 0,[⟨E,F⟩]):=by
  obtain⟨k,hk⟩ : ∃ k,b.length=k+1:=⟨b.length-1,by omega⟩
  have ih:=rJ (d:=d) hl h1 h2 k (by omega)
  have ht:b.take (k+1)=b:=List.take_of_length_le (by omega)
  have hx:(SM.mk d (b.take k) 0).byte (b.getD k 0)=(SM.mk d [] 0,[⟨E,F⟩]):=by
    have e:=vM (T:=SM.mk d (b.take k) 0) (c:=b.getD k 0) (F:=F) (E:=E) (show ¬ (0:Int)<0 by omega)
    simp only[gY (show k<b.length by omega)] at e
    refine e ?_ (by rw[ht];exact hP)
    unfold SM.nx
    rw[if_neg (by show ¬ (b.take (k+1)).length<6;rw[ht];omega),jl (by omega),if_neg (by omega),if_neg (by omega),if_pos (by show((b.take (k+1)).length:Int)=_;rw[ht];omega)]
  have q:=ia (by omega) ih hx
  rw[ht] at q
  exact q.symm
variable {L L2:List Ev}
theorem hH{S S2 S3:SM}{a:List Int}  (h:S.feed a=(S2,L))(hX:S2.feed b=(S3,L2)) : S.feed (a++b)=(S3,L++L2):=by
  have gen:∀ (b:List Int) (T:SM) (K:List Ev),b.foldl (fun(p:SM × List Ev) c=>((p.1.byte c).1,p.2++(p.1.byte c).2)) (T,K)=((T.feed b).1,K++(T.feed b).2):=by
    intro b
    induction b with
    | nil=>intro T K;simp[SM.feed]
    | cons c t ih =>
      intro T K
      unfold SM.feed
      rw[List.foldl_cons,List.foldl_cons,ih,ih]
      simp
  unfold SM.feed at h ⊢
  rw[List.foldl_append,h,gen,hX]
variable {c:Int}
theorem wh{S:SM}  : S.feed [c]=S.byte c:=by
  unfold SM.feed
  simp
end Go.Proofs.YtdkhbcefkfgbdaaGreat
namespace Go.Proofs.YtdkhbcefkfgbdaaGreat
def bK (b:List Int) : Int:=(6+256*b.getD 4 0)+b.getD 5 0
def dV (d:Int) : Nat→List Int→List Ev × Nat
  | 0,b=>([],b.length)
  | k+1,b =>
    if b.length<6 then ([],b.length)
    else if bK b<8∨260<bK b then (⟨if bK b<8 then 5 else 3,bq.zero⟩ :: (dV d k (b.drop (min (bK b) (b.length:Int)).toNat)).1,(dV d k (b.drop (min (bK b) (b.length:Int)).toNat)).2)
    else if (b.length:Int)<bK b then ([],b.length)
    else (⟨(cg d (b.take (bK b).toNat)).2,(cg d (b.take (bK b).toNat)).1⟩ :: (dV d k (b.drop (bK b).toNat)).1,(dV d k (b.drop (bK b).toNat)).2)
variable {b:List Int}{d:Int}{k:Nat}
theorem jE(h:b.length<6) : dV d k b=([],b.length):=by
  cases k with
  | zero=>rfl
  | succ k=>unfold dV;rw[if_pos h]
theorem ww(h6:6≤b.length)(hr:∀ x,x∈b→0≤x∧x<256) : 6≤bK b∧bK b<65542:=by
  have g:∀ j,j<b.length→0≤b.getD j 0∧b.getD j 0<256:=fun j hj=>by
    rw[List.getD_eq_getElem?_getD,List.getElem?_eq_getElem hj]
    exact hr _ (List.getElem_mem hj)
  have h4:=g 4 (by omega)
  have h5:=g 5 (by omega)
  unfold bK
  omega
theorem kM{d:Int}{b:List Int}:∀ k,k≤b.length→(k<6∨(8≤bK b∧bK b≤260∧(k:Int)<bK b))→(SM.mk d (b.take k) 0,[])=(SM.mk d [] 0).feed (b.take k)
  | 0,_,_=>rfl
  | k+1,hk,h=>by
    have ih:=kM (d:=d) (b:=b) k (by omega) (by omega)
    refine jh (by omega) ih ?_
    have e:=q6 (T:=SM.mk d (b.take k) 0) (c:=b.getD k 0) (show ¬ (0:Int)<0 by omega)
    simp only[gY (show k<b.length by omega)] at e
    refine e ?_
    have hlen:(b.take (k+1)).length=k+1:=by rw[List.length_take];omega
    unfold SM.nx
    by_cases h6:k+1<6
    · rw[if_pos (by show(b.take (k+1)).length<6;omega)]
    · unfold bK at h
      rw[if_neg (by show ¬ (b.take (k+1)).length<6;omega),jl (by omega),if_neg (by omega),if_neg (by omega),if_neg (by show ¬ ((b.take (k+1)).length:Int)=_;omega)]
theorem At(h6:6≤b.length)(h:bK b<8∨260<bK b) : (SM.mk d [] 0).feed (b.take 6)=(SM.mk d [] (bK b-6),[⟨if bK b<8 then 5 else 3,bq.zero⟩]):=by
  have ih:=kM (d:=d) (b:=b) 5 (by omega) (.inl (by decide))
  have hlen:(b.take (5+1)).length=6:=by rw[List.length_take];omega
  have hs:(SM.mk d (b.take (5+1)) 0).size=bK b-6:=by rw[jl (by decide)];unfold bK;omega
  have hx:(SM.mk d (b.take 5) 0).byte (b.getD 5 0)=(SM.mk d [] (bK b-6),[⟨if bK b<8 then 5 else 3,bq.zero⟩]):=by
    by_cases hlo:bK b<8
    · have e:=uW (T:=SM.mk d (b.take 5) 0) (c:=b.getD 5 0) (show ¬ (0:Int)<0 by omega)
      simp only[gY (show 5<b.length by omega)] at e
      rw[if_pos hlo,e ?_,hs]
      · rfl
      · unfold SM.nx
        rw[if_neg (by show ¬ (b.take (5+1)).length<6;omega),hs,if_neg (by omega),if_pos (by omega)]
    · have e:=uM (T:=SM.mk d (b.take 5) 0) (c:=b.getD 5 0) (show ¬ (0:Int)<0 by omega)
      simp only[gY (show 5<b.length by omega)] at e
      rw[if_neg hlo,e ?_,hs]
      · rfl
      · unfold SM.nx
        rw[if_neg (by show ¬ (b.take (5+1)).length<6;omega),hs,if_pos (by omega)]
  have q:=ia (by omega) ih hx
  rw[List.nil_append] at q
  exact q.symm
theorem nj{d:Int}:∀ (l:List Int)(k:Int),(l.length:Int)≤k→(SM.mk d [] k).feed l=(SM.mk d [] (k-l.length),[])
  | [],k,_=>by simp[SM.feed]
  | c :: t,k,h=>by
    have hk:(0:Int)<k:=by simp at h;omega
    have e:(SM.mk d [] k).feed [c]=(SM.mk d [] (k-1),[]):=by
      rw[wh,mM (by exact hk)]
    have q:=hH e (nj t (k-1) (by simp at h;omega))
    have e2:k-1-(t.length:Int)=k-((c :: t).length:Int):=by simp;omega
    rw[e2] at q
    simpa using q
theorem jH{d:Int}:∀ (k:Nat)(b:List Int),b.length≤k→(∀ x,x∈b→0≤x∧x<256)→∃ S,(SM.mk d [] 0).feed b=(S,(dV d k b).1)∧S.held.length=(dV d k b).2
  | 0,b,hk,_=>by
    obtain rfl:=List.eq_nil_of_length_eq_zero (by omega:b.length=0)
    exact⟨_,rfl,rfl⟩
  | k+1,b,hk,hr=>by
    by_cases h6:b.length<6
    · have h:=kM (d:=d) (b:=b) b.length (Nat.le_refl _) (.inl h6)
      rw[List.take_length] at h
      rw[jE h6]
      exact⟨_,h.symm,rfl⟩
    · unfold dV
      rw[if_neg h6]
      obtain⟨hs1,hs2⟩:=ww (by omega) hr
      by_cases hb:bK b<8∨260<bK b
      · rw[if_pos hb]
        have hbad:=At (d:=d) (by omega) hb
        by_cases hl:bK b≤(b.length:Int)
        · have hm:(min (bK b) (b.length:Int)).toNat=(bK b).toNat:=by omega
          rw[hm]
          obtain⟨S,h1,h2⟩:=jH k (b.drop (bK b).toNat) (by rw[List.length_drop];omega) (fun x hx=>hr x (List.mem_of_mem_drop hx))
          have hsk:=nj (d:=d) ((b.take (bK b).toNat).drop 6) (bK b-6) (by rw[List.length_drop,List.length_take];omega)
          rw[show bK b-6-(((b.take (bK b).toNat).drop 6).length:Int)=0 from by rw[List.length_drop,List.length_take];omega] at hsk
          have q:=hH (hH hbad hsk) h1
          have e:b.take 6++(b.take (bK b).toNat).drop 6++b.drop (bK b).toNat=b:=by
            rw[show b.take 6=(b.take (bK b).toNat).take 6 from by rw[List.take_take];congr 1;omega,List.take_append_drop,List.take_append_drop]
          rw[e] at q
          exact⟨S,by simpa using q,h2⟩
        · have hm:(min (bK b) (b.length:Int)).toNat=b.length:=by omega
          rw[hm,List.drop_length,jE (by simp)]
          have hsk:=nj (d:=d) (b.drop 6) (bK b-6) (by rw[List.length_drop];omega)
          have q:=hH hbad hsk
          rw[List.take_append_drop] at q
          exact⟨_,q,rfl⟩
      · rw[if_neg hb]
        by_cases hw:(b.length:Int)<bK b
        · rw[if_pos hw]
          have h:=kM (d:=d) (b:=b) b.length (Nat.le_refl _) (.inr (by omega))
          rw[List.take_length] at h
          exact⟨_,h.symm,rfl⟩
        · rw[if_neg hw]
          obtain⟨S,h1,h2⟩:=jH k (b.drop (bK b).toNat) (by rw[List.length_drop];omega) (fun x hx=>hr x (List.mem_of_mem_drop hx))
          have g:∀ j,j<6→(b.take (bK b).toNat).getD j 0=b.getD j 0:=fun j hj=>iH (by omega)
          have hs:bK b=6+(b.getD 4 0*256+b.getD 5 0):=by unfold bK;omega
          have hwh:=tE (d:=d) (b:=b.take (bK b).toNat) (F:=(cg d (b.take (bK b).toNat)).1) (E:=(cg d (b.take (bK b).toNat)).2) (by rw[g 4 (by decide),g 5 (by decide),List.length_take];omega) (by rw[g 4 (by decide),g 5 (by decide)];omega) (by rw[g 4 (by decide),g 5 (by decide)];omega) rfl
          have q:=hH hwh h1
          rw[List.take_append_drop] at q
          exact⟨S,q,h2⟩
end Go.Proofs.YtdkhbcefkfgbdaaGreat
