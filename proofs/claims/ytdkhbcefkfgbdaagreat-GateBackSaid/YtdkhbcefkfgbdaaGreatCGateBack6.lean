/- Contracts of functions, part CGateBack6. -/
import Derived.Test.YtdkhbcefkfgbdaaGreatCGateBack1
import Derived.Test.YtdkhbcefkfgbdaaGreatCGateBack2
import Derived.Test.YtdkhbcefkfgbdaaGreatCGateBack3
import Derived.Test.YtdkhbcefkfgbdaaGreatCGateBack4
import Derived.Test.YtdkhbcefkfgbdaaGreatCGateBack5
import Derived.Deep.Slices
import Derived.ChangeArms
import Derived.WideShapes
set_option linter.unusedVariables false
set_option linter.unusedSimpArgs false
set_option maxRecDepth 100000
set_option maxHeartbeats 4000000
namespace Go.Proofs.YtdkhbcefkfgbdaaGreat
open Go.RowKit
variable {d:Int}
theorem dJ{k:Int}:(XS.zero k d).take [] true=(XS.zero k d,[]):=by
  unfold XS.zero
  cases k==0 with
  | true=>rfl
  | false =>
    cases k==1 with
    | true=>rfl
    | false=>rfl
variable {K:List Ev}{a c:Int}
theorem kj:nF a c d K []=[]:=rfl
theorem fj{u t:Int}{M:b7}  {l:List Int}(h:gf c d u (dR a c (gn a c 0 (au K).length) t) M=some l) : nF a c d K [Ev.mk 0 ⟨u,t,M⟩]=[l]:=by
  show[zh a c d (gn a c 0 (au K).length) [⟨u,t,M⟩] 0]=[l]
  rw[xZ (k:=0) (F:=[⟨u,t,M⟩]) h]
theorem fi{f:aM}(h:bo K=0) : bo (K++[Ev.mk 0 f])=0:=by
  rw[m8,h]
  rfl
theorem jS(h:bo K=0) : bo (K++[])=0:=by rw[List.append_nil];exact h
theorem oY{u t t':Int}{M:b7}{b:List Int}(n:Int)(hc:c=0∨c=1∨c=2)(h:gf a d u t M=some b) : ∃ l,gf c d u (dR a c n t') M=some l:=by
  obtain⟨_,_,p,hp,_⟩:=jj h
  exact tC hc kX hp
theorem qH{w:World}{frm:Bool}{to_:Int}{ans:Bool}(hto:0≤to_∧to_<256){mF:Md}{F:Option Addr}{cpF:Nat}{fs:List aM}(hF:um mF w (.slice F fs.length cpF) fs) :
    Calls Tryz.prog 9 #[.bool frm,vB to_,.bool ans,.slice F fs.length cpF] w (bS (.bool true) w):=by
 have hzF:=aT.len hF
 refine en 110 Tryz.func9 rfl<|aA 1<|ng<|aG<|m1 (@AV _) fun X b=>al 1<|sq<|sq<|go<|al 3<|cb ((decide (30<(fs.length:Int)))) (fun e9=>?_) (fun e9=>?_)
 have hT:=of_decide_eq_true e9
 exact aB 2<|bQ<|rr (.bool true)<|⟨rfl,b⟩
 have hT:=of_decide_eq_false e9
 refine bM<|aB 1<|sq<|aB 1<|cb (ans) (fun hU=>?_) (fun hU=>?_)
 refine go<|Pl 1<|dK 1<|sq<|aA 1<|nl<|tn<|cb (frm) (fun hV=>?_) (fun hV=>?_)
 refine go<|Pl 1<|aU 1<|L0<|Oe (vB (Int.tmod to_ 3)) (vB (to_%3)) (congrArg (Value.int .u8) (Int.tmod_eq_emod_of_nonneg (by omega)))<|bD (to_%3)<|Pl 1<|aU 3<|aG (args:=#[vI 1,vI (to_%3),vI 1])<|(eM (a:=1) (c:=(to_%3)) (d:=1) (show 1=0∨1=1∨1=2 by decide) (dt _) (show 1=0∨1=1 by decide)).mono ?_
 rintro _ ea ⟨a2,da,bJ,fa,fb,bK,rfl,fc,ll,fd,fe,lm,ln,t,f,cw⟩
 refine⟨_,rfl,?_⟩
 refine Pl 1<|aU 3<|aG (args:=#[vI (to_%3),vI 1,vI 1])<|(eM (a:=(to_%3)) (c:=1) (d:=1) (dt _) (show 1=0∨1=1∨1=2 by decide) (show 1=0∨1=1 by decide)).mono ?_
 rintro _ hW ⟨bL,db,dc,ff,fg,dd,rfl,aQ,c5,aR,aS,c6,c7,eb,c8,aV⟩
 refine⟨_,rfl,?_⟩
 refine al 1<|sq<|aB 6<|c0<|bM<|sq<|sq<|go<|al 1<|bk<|?_
 refine jZ (fun x=>[(3,.slice F fs.length cpF),(9,.bool true),(10,vI 1),(11,vI 1),(13,vP a2 0),(14,vP bL 0),(15,vI (x.1:Int))]) (fun(x:Nat × List Ev × Option Addr × Nat × Nat × List Ev × Option Addr × Nat × Nat) w'=>ay [] w w'∧hW.heap.size≤w'.heap.size∧aj x.2.2.2.2.1 X.heap.size w' da bJ x.2.2.1 x.2.2.2.1 (XS.zero 1 1)∧gN w' a2 da fa fb bK 1 (to_%3) 1 x.2.1∧aj x.2.2.2.2.2.2.2.2 ea.heap.size w' db dc x.2.2.2.2.2.2.1 x.2.2.2.2.2.2.2.1 (XS.zero (to_%3) 1)∧gN w' bL db ff fg dd (to_%3) 1 1 x.2.2.2.2.2.1∧(∀ y,y∈ob x.2.2.1→y∉ob x.2.2.2.2.2.2.1)∧(x.1≤fs.length)∧(x.2.1.length≤x.1)∧(x.2.2.2.2.2.1.length≤x.1)∧(bo x.2.1=0)∧(bo x.2.2.2.2.2.1=0)) (fun x=>fs.length-x.1) (0,[],none,0,X.heap.size,[],none,0,ea.heap.size) ⟨(aK b (aK cw aV)),lr,(aj.old t aV),(ap.mk (ub aV (ap.cell f)) (ub aV (ap.cT f)) (ub aV (ap.cF f)) (ub aV (ap.cN f)) (be (by decide) _)),eb,(ap.mk (ap.cell c8) (ap.cT c8) (ap.cF c8) (ap.cN c8) (be (by decide) _)),(fun x hx=>absurd hx (iN x)),(by(try dsimp only);omega),(by(try dsimp only);exact Nat.zero_le _),(by(try dsimp only);exact Nat.zero_le _),rfl,rfl⟩ ?_
 rintro⟨k,Es1,Ah1,ch1,n1,Es2,Ah2,ch2,n2⟩ de ⟨df,aY,hX,hY,hZ,i0,i1,i2,i3,i4,i5,i6⟩
 refine iW [(3,.slice F fs.length cpF),(9,.bool true),(10,vI 1),(11,vI 1),(13,vP a2 0),(14,vP bL 0),(15,vI (k:Int))] ?_
 have P:aj n1 X.heap.size de da bJ Ah1 ch1 (XS.zero 1 1):=hX
 have Y:gN de a2 da fa fb bK 1 (to_%3) 1 Es1:=hY
 have n:aj n2 ea.heap.size de db dc Ah2 ch2 (XS.zero (to_%3) 1):=hZ
 have G:gN de bL db ff fg dd (to_%3) 1 1 Es2:=i0
 have dg:(∀ y,y∈ob Ah1→y∉ob Ah2):=i1
 have lo:k≤fs.length:=i2
 have lp:Es1.length≤k:=i3
 have lq:Es2.length≤k:=i4
 have ec:bo Es1=0:=i5
 have ed:bo Es2=0:=i6
 refine sq<|aB 4<|cb ((decide ((k:Int)<(fs.length:Int)))) (fun ee=>?_) (fun ee=>?_)
 have i7:=of_decide_eq_true ee
 refine bM<|sq<|bk<|aA 2<|CV (um.elt hF k (by omega) aM.zero) fun ls lu lv lw lx u fh i8 H fk=>?_
 have ly:=H.2
 refine L0<|jC 24 fs.length k fh (by omega)<|Pl 1<|?_
 have fl:=ub df i8
 refine L0<|wb [vB ((fs.getD k aM.zero).msg.code),vB ((fs.getD k aM.zero).msg.fail),vW ((fs.getD k aM.zero).msg.addr),vW ((fs.getD k aM.zero).msg.count),vW ((fs.getD k aM.zero).msg.value),vW ((fs.getD k aM.zero).msg.and_),vW ((fs.getD k aM.zero).msg.or_),vW ((fs.getD k aM.zero).msg.addr2),vW ((fs.getD k aM.zero).msg.sub),vW ((fs.getD k aM.zero).msg.status),vW ((fs.getD k aM.zero).msg.events),vW ((fs.getD k aM.zero).msg.messages),.slice u.aw ((fs.getD k aM.zero).msg.words.length) u.kw,.slice u.ab ((fs.getD k aM.zero).msg.bits.length) u.kb,.slice u.ad ((fs.getD k aM.zero).msg.data.length) u.kd,.slice u.ar ((fs.getD k aM.zero).msg.recs.length) u.kr,vB ((fs.getD k aM.zero).msg.mei),vB ((fs.getD k aM.zero).msg.kind),vB ((fs.getD k aM.zero).msg.level),vB ((fs.getD k aM.zero).msg.more),vB ((fs.getD k aM.zero).msg.next),.slice u.ao ((fs.getD k aM.zero).msg.objects.length) u.ko] fl (oX (k:=2) (m:=22) fk (by kernel_rfl) (by decide))<|?_
 have fn:=aH.old (H.1) df
 refine aG<|m1 (lT fn) fun lz T=>al 1<|sq<|aB 2<|?_
 have fo:=aK df T
 refine cb ((!(eS (fs.getD k aM.zero).msg))) (fun ef=>?_) (fun ef=>?_)
 have bj:(eS (fs.getD k aM.zero).msg)=false:=by simpa using ef
 exact aB 2<|bQ<|br<|tr<|tr<|br<|tr<|rr (.bool true)<|⟨rfl,fo⟩
 have bj:(eS (fs.getD k aM.zero).msg)=true:=by simpa using ef
 refine bM<|aA 2<|L0<|jC 24 fs.length k fh (by omega)<|?_
 refine L0<|wb [vB ((fs.getD k aM.zero).unit),vW ((fs.getD k aM.zero).tid),vB ((fs.getD k aM.zero).msg.code),vB ((fs.getD k aM.zero).msg.fail),vW ((fs.getD k aM.zero).msg.addr),vW ((fs.getD k aM.zero).msg.count),vW ((fs.getD k aM.zero).msg.value),vW ((fs.getD k aM.zero).msg.and_),vW ((fs.getD k aM.zero).msg.or_),vW ((fs.getD k aM.zero).msg.addr2),vW ((fs.getD k aM.zero).msg.sub),vW ((fs.getD k aM.zero).msg.status),vW ((fs.getD k aM.zero).msg.events),vW ((fs.getD k aM.zero).msg.messages),.slice u.aw ((fs.getD k aM.zero).msg.words.length) u.kw,.slice u.ab ((fs.getD k aM.zero).msg.bits.length) u.kb,.slice u.ad ((fs.getD k aM.zero).msg.data.length) u.kd,.slice u.ar ((fs.getD k aM.zero).msg.recs.length) u.kr,vB ((fs.getD k aM.zero).msg.mei),vB ((fs.getD k aM.zero).msg.kind),vB ((fs.getD k aM.zero).msg.level),vB ((fs.getD k aM.zero).msg.more),vB ((fs.getD k aM.zero).msg.next),.slice u.ao ((fs.getD k aM.zero).msg.objects.length) u.ko] (ub T fl) fk<|aO rU fun lA lB i9 ia a3=>aN ia (eo ((fs.getD k aM.zero).unit) ((fs.getD k aM.zero).tid) ((fs.getD k aM.zero).msg) u) fun lC ib a4=>aU 2<|L0<|cA ib 1 (eo ((fs.getD k aM.zero).unit) 0 ((fs.getD k aM.zero).msg) u) fun lD ic a5=>aU 2<|L0<|cM ic<|?_
 have fp:=ud a3 (u1 a4 a5 im) i9
 have c9:=aK T fp
 have eg:=aH.old fn c9
 have fq:=aK fo fp
 refine wo (gf 1 1 ((fs.getD k aM.zero).unit) 0 ((fs.getD k aM.zero).msg)) (fun bl=>?_) (fun a6 bl=>?_)
 refine aG<|m1 (gH eg (bA bj) (by omega) (by omega) bl) fun lE ei=>Pl 5<|aU 3<|?_
 have bN:=aK c9 ei
 have ej:=aj.old P bN
 have lF:=aj.take_le ej (fun x hx=>by cases hx) (dJ (k:=1) (d:=1))
 have lG:=dW (k:=1) (show 1=0∨1=1 by decide) ej (bO (show 1=0∨1=1∨1=2 by decide)) (fun x hx=>by cases hx) (dJ (k:=1) (d:=1))
 have lH:([] : List Int).length=0:=rfl
 refine aG (args:=#[vP a2 0,.agg #[nS,.bool true]])<|(cU (a:=1) (c:=(to_%3)) (K:=Es1) (dJ (k:=1) (d:=1)) (dt _) (show 1=0∨1=1 by decide) (bO (show 1=0∨1=1∨1=2 by decide)) (ap.mk (ub bN (ap.cell Y)) (ub bN (ap.cT Y)) (ub bN (ap.cF Y)) (ub bN (ap.cN Y)) (be (by decide) _)) ej (aT.nil true _ _ _ _) (fun hn=>absurd hn (Nat.lt_irrefl 0)) (fun hn=>absurd hn (Nat.lt_irrefl 0)) (by omega) (by omega)).mono ?_
 rintro _ lI ⟨lJ,ie,ig,ii,rfl,fr,ij,dh,ik,lK,ek⟩
 refine⟨_,rfl,?_⟩
 rw[kj] at fr
 have io:=fr
 obtain⟨lM,lN,rfl,lO,lP⟩:=aT.shape io.rd
 have ip:=cV dg (dA (ak (aj.row n) bN (fun x hx=>av) (fun _ _ h=>h))) ik
 refine al 1<|sq<|aB 2<|c1<|sq<|aA 3<|nl<|tn<|c0<|bM<|xt<|tx<|bx<|tn<|go<|Pl 1<|bD ((k:Int)+1)<|Pl 1<|nl<|?_
 have cx:=ut (ay.mono (S':=(a2 :: (bK :: (bJ :: (ob Ah1++[]))))) bN aC) ek (ac im (ac im (ac im (ai il aC))))
 exact fD ((k+1),(Es1++[]),ie,ig,ii,Es2,Ah2,ch2,n2) ⟨(ut fq (ut (ay.mono (S':=(a2 :: (bK :: (bJ :: (ob Ah1++[]))))) ei aC) ek (ac im (ac im (ac im (ai il aC))))) (ac (ni b.size fc) (ac (ni b.size fe) (ac (ni b.size fd) (ai (aX (aj.row P) b.size) aC))))),(le (le (le (le (le (le aY T.size) a3.size) a4.size) a5.size) ei.size) ek.size),ij,(ap.mk (ap.cell dh) (ap.cT dh) (ap.cF dh) (ap.cN dh) (be (by decide) _)),(aj.upd n cx (aa (Ne.symm (nb (ag (ap.cell f)) lr c5)) (aa (Ne.symm (nb (ag (ap.cN f)) lr c5)) (aa (Ne.symm (nb (aj.glt t) lr c5)) (aq (eh (aj.cells n) (aj.row P) (by decide)) av)))) (aa (Ne.symm (nb (ag (ap.cell f)) lr aR)) (aa (Ne.symm (nb (ag (ap.cN f)) lr aR)) (aa (Ne.symm (nb (aj.glt t) lr aR)) (aq (aj.gx n (aj.row P) (by decide)) av)))) (fun x hx=>(aa (fun e=>(az (ag (ap.cell f)) lr (aj.row n)) (e▸hx)) (aa (fun e=>(az (ag (ap.cN f)) lr (aj.row n)) (e▸hx)) (aa (fun e=>(az (aj.glt t) lr (aj.row n)) (e▸hx)) (aq ((cJ dg) x hx) av)))))),(ap.mk (ay.blk cx (aa (Ne.symm (nb (ag (ap.cell f)) lr aQ)) (aa (Ne.symm (nb (ag (ap.cN f)) lr aQ)) (aa (Ne.symm (nb (aj.glt t) lr aQ)) (aq (aJ (ap.cell G) (aj.row P) (by decide)) av)))) (ap.cell G)) (ay.blk cx (aa (Ne.symm (nb (ag (ap.cell f)) lr c6)) (aa (Ne.symm (nb (ag (ap.cN f)) lr c6)) (aa (Ne.symm (nb (aj.glt t) lr c6)) (aq (aJ (ap.cT G) (aj.row P) (by decide)) av)))) (ap.cT G)) (ay.blk cx (aa (Ne.symm (nb (ag (ap.cell f)) lr c7)) (aa (Ne.symm (nb (ag (ap.cN f)) lr c7)) (aa (Ne.symm (nb (aj.glt t) lr c7)) (aq (aJ (ap.cF G) (aj.row P) (by decide)) av)))) (ap.cF G)) (ay.blk cx (aa (Ne.symm (nb (ag (ap.cell f)) lr aS)) (aa (Ne.symm (nb (ag (ap.cN f)) lr aS)) (aa (Ne.symm (nb (aj.glt t) lr aS)) (aq (aJ (ap.cN G) (aj.row P) (by decide)) av)))) (ap.cN G)) (be (by decide) _)),ip,(by(try dsimp only);omega),(by(try dsimp only);(try simp only[co]);omega),(by(try dsimp only);(try simp only[co]);omega),(by(try dsimp only);exact jS ec),ed⟩ (by omega)
 have lQ:=lL (eg.rngs).1 bl
 obtain⟨ca,cy⟩:=oY (a:=1) (c:=(to_%3)) (t':=0) (gn 1 (to_%3) 0 (au Es1).length) (dt _) bl
 have el:=j0 (a:=1) (c:=(to_%3)) (was:=0) (be (a:=1) (c:=(to_%3)) (next:=0) (by decide) (au Es1).length) (by decide)
 have lR:=j7 cy
 refine aG<|e2 (fm eg (bA bj) (by omega) (by omega) bl) fun lS lU ir di=>?_
 obtain⟨ft,fu,rfl,dj,aZ⟩:=iq.shape ir
 refine Pl 5<|aU 3<|?_
 have bw:=aK c9 di
 have em:=aj.old P bw
 have lV:=aj.take_le em (aW.range dj) (show XS.take (XS.zero 1 1) a6 true=((XS.zero 1 1),[Ev.mk 0 ⟨(fs.getD k aM.zero).unit,0,(fs.getD k aM.zero).msg⟩]) from bu (k:=1) (show 1=0∨1=1 by decide) H.2.1 (by decide) (H.1).rngs (fun l hz=>bH H.1 (bA bj) l hz) bl)
 have lX:=dW (k:=1) (show 1=0∨1=1 by decide) em (bO (show 1=0∨1=1∨1=2 by decide)) (aW.range dj) (show XS.take (XS.zero 1 1) a6 true=((XS.zero 1 1),[Ev.mk 0 ⟨(fs.getD k aM.zero).unit,0,(fs.getD k aM.zero).msg⟩]) from bu (k:=1) (show 1=0∨1=1 by decide) H.2.1 (by decide) (H.1).rngs (fun l hz=>bH H.1 (bA bj) l hz) bl)
 refine aG (args:=#[vP a2 0,.agg #[.slice ft a6.length fu,.bool true]])<|(cU (a:=1) (c:=(to_%3)) (K:=Es1) (show XS.take (XS.zero 1 1) a6 true=((XS.zero 1 1),[Ev.mk 0 ⟨(fs.getD k aM.zero).unit,0,(fs.getD k aM.zero).msg⟩]) from bu (k:=1) (show 1=0∨1=1 by decide) H.2.1 (by decide) (H.1).rngs (fun l hz=>bH H.1 (bA bj) l hz) bl) (dt _) (show 1=0∨1=1 by decide) (bO (show 1=0∨1=1∨1=2 by decide)) (ap.mk (ub bw (ap.cell Y)) (ub bw (ap.cT Y)) (ub bw (ap.cF Y)) (ub bw (ap.cN Y)) (be (by decide) _)) em dj (fun _=>dq aZ (Nat.lt_of_lt_of_le (aj.glt t) (le (le (le (le (le aV.size aY) T.size) a3.size) a4.size) a5.size))) (jN aZ (aj.row P) c9.size) (by omega) (by omega)).mono ?_
 rintro _ lY ⟨lZ,it,iu,iv,rfl,fv,cz,dk,iw,m0,ep⟩
 refine⟨_,rfl,?_⟩
 rw[(fj cy)] at fv
 have fw:=fv
 obtain⟨m2,m3,rfl,m4,m5⟩:=aT.shape fw.rd
 have fx:=cV dg (dA (ak (aj.row n) bw (fun x hx=>av) (fun _ _ h=>h))) iw
 refine al 1<|sq<|aB 2<|c0<|bM<|sq<|sq<|go<|al 3<|c0<|bM<|aA 2<|j5 (iD.elt (iS.rdh fw) 0 (by exact Nat.zero_lt_one)) fun ix iy fy fz iz iA cB m6 m7=>L0<|lW 1 0 iz (by omega)<|L0<|jO (p:=⟨ix,iy+0,none⟩) (v:=.slice fy (([ca].getD 0 []).length) fz) iA<|Pl 1<|?_
 have cC:=ut (ay.mono (S':=(a2 :: (bK :: (bJ :: (ob Ah1++[]))))) bw aC) ep (ac im (ac im (ac im (ai il aC))))
 have fA:=nb (aj.glt t) lr aR
 have fB:=nb (ag (ap.cN f)) lr aR
 have fC:=nb (ag (ap.cell f)) lr aR
 have dl:=aj.upd n cC (aa (Ne.symm (nb (ag (ap.cell f)) lr c5)) (aa (Ne.symm (nb (ag (ap.cN f)) lr c5)) (aa (Ne.symm (nb (aj.glt t) lr c5)) (aq (eh (aj.cells n) (aj.row P) (by decide)) av)))) (aa (Ne.symm fC) (aa (Ne.symm fB) (aa (Ne.symm fA) (aq (aj.gx n (aj.row P) (by decide)) av)))) (fun x hx=>(aa (fun e=>(az (ag (ap.cell f)) lr (aj.row n)) (e▸hx)) (aa (fun e=>(az (ag (ap.cN f)) lr (aj.row n)) (e▸hx)) (aa (fun e=>(az (aj.glt t) lr (aj.row n)) (e▸hx)) (aq ((cJ dg) x hx) av)))))
 have fE:=nb (aj.glt t) lr aQ
 have fF:=nb (ag (ap.cN f)) lr aQ
 have fG:=nb (ag (ap.cell f)) lr aQ
 have fH:=ay.blk cC (aa (Ne.symm fG) (aa (Ne.symm fF) (aa (Ne.symm fE) (aq (aJ (ap.cell G) (aj.row P) (by decide)) av)))) (ap.cell G)
 have fI:=nb (aj.glt t) lr aS
 have fJ:=nb (ag (ap.cN f)) lr aS
 have fK:=nb (ag (ap.cell f)) lr aS
 have fL:=ay.blk cC (aa (Ne.symm fK) (aa (Ne.symm fJ) (aa (Ne.symm fI) (aq (aJ (ap.cN G) (aj.row P) (by decide)) av)))) (ap.cN G)
 have m8:=aj.take_le dl (aW.range cB) (show XS.take (XS.zero (to_%3) 1) ([ca].getD 0 []) true=((XS.zero (to_%3) 1),[Ev.mk 0 ⟨(fs.getD k aM.zero).unit,(dR 1 (to_%3) (gn 1 (to_%3) 0 (au Es1).length) 0),(fs.getD k aM.zero).msg⟩]) from bu (k:=(to_%3)) (show 1=0∨1=1 by decide) H.2.1 el (H.1).rngs (fun l hz=>bH H.1 (bA bj) l hz) cy)
 have m9:=dW (k:=(to_%3)) (show 1=0∨1=1 by decide) dl (bO (dt _)) (aW.range cB) (show XS.take (XS.zero (to_%3) 1) ([ca].getD 0 []) true=((XS.zero (to_%3) 1),[Ev.mk 0 ⟨(fs.getD k aM.zero).unit,(dR 1 (to_%3) (gn 1 (to_%3) 0 (au Es1).length) 0),(fs.getD k aM.zero).msg⟩]) from bu (k:=(to_%3)) (show 1=0∨1=1 by decide) H.2.1 el (H.1).rngs (fun l hz=>bH H.1 (bA bj) l hz) cy)
 refine aG (args:=#[vP bL 0,.agg #[.slice fy (([ca].getD 0 []).length) fz,.bool true]])<|(cU (a:=(to_%3)) (c:=1) (K:=Es2) (show XS.take (XS.zero (to_%3) 1) ([ca].getD 0 []) true=((XS.zero (to_%3) 1),[Ev.mk 0 ⟨(fs.getD k aM.zero).unit,(dR 1 (to_%3) (gn 1 (to_%3) 0 (au Es1).length) 0),(fs.getD k aM.zero).msg⟩]) from bu (k:=(to_%3)) (show 1=0∨1=1 by decide) H.2.1 el (H.1).rngs (fun l hz=>bH H.1 (bA bj) l hz) cy) (show 1=0∨1=1∨1=2 by decide) (show 1=0∨1=1 by decide) (bO (dt _)) (ap.mk fH (ay.blk cC (aa (Ne.symm (nb (ag (ap.cell f)) lr c6)) (aa (Ne.symm (nb (ag (ap.cN f)) lr c6)) (aa (Ne.symm (nb (aj.glt t) lr c6)) (aq (aJ (ap.cT G) (aj.row P) (by decide)) av)))) (ap.cT G)) (ay.blk cC (aa (Ne.symm (nb (ag (ap.cell f)) lr c7)) (aa (Ne.symm (nb (ag (ap.cN f)) lr c7)) (aa (Ne.symm (nb (aj.glt t) lr c7)) (aq (aJ (ap.cF G) (aj.row P) (by decide)) av)))) (ap.cF G)) fL (be (by decide) _)) dl cB (u6 cB (aj.glt eb) (le (le (le (le (le aY T.size) a3.size) a4.size) a5.size) di.size)) (oI cB (aj.row n) bw.size) (by show ca.length≤100000;omega) (by omega)).mono ?_
 rintro _ ma ⟨mb,iB,iC,iE,rfl,fM,iF,dm,iG,mc,eq⟩
 refine⟨_,rfl,?_⟩
 rw[(fj (by rw[kX (by decide)];exact bl))] at fM
 have fN:=fM
 obtain⟨md,me,rfl,mf,mg⟩:=aT.shape fN.rd
 have iH:=cV (cJ fx) (dA (aj.row cz)) iG
 refine al 1<|sq<|aB 3<|c0<|bM<|aA 1<|j5 (iD.elt (iS.rdh fN) 0 (by exact Nat.zero_lt_one)) fun iI iJ fO fP iK iL iM mh mi=>L0<|lW 1 0 iK (by omega)<|L0<|jO (p:=⟨iI,iJ+0,none⟩) (v:=.slice fO (([a6].getD 0 []).length) fP) iL<|Pl 1<|?_
 have fQ:=ut (ay.mono (S':=(a2 :: (bK :: (bJ :: (ob Ah1++(bL :: (dd :: (dc :: (ob Ah2++[]))))))))) ep (ac im (ac im (ac im (ai il aC))))) eq (ac im (ac im (ac im (ai il aC))))
 refine aG (args:=#[.slice fO (([a6].getD 0 []).length) fP,.slice ft a6.length fu])<|m1 (jh (xs:=([a6].getD 0 [])) (ys:=a6) iM (aT.stay dj fQ (fun x hx=>(aa (dq aZ (Nat.lt_of_lt_of_le (ag (ap.cell f)) (le (le (le (le (le aV.size aY) T.size) a3.size) a4.size) a5.size)) x hx) (aa (dq aZ (Nat.lt_of_lt_of_le (ag (ap.cN f)) (le (le (le (le (le aV.size aY) T.size) a3.size) a4.size) a5.size)) x hx) (aa (dq aZ (Nat.lt_of_lt_of_le (aj.glt t) (le (le (le (le (le aV.size aY) T.size) a3.size) a4.size) a5.size)) x hx) (aq (iQ aZ (fun y hy=>Nat.lt_of_lt_of_le (dA (aj.row P) y hy) c9.size) x hx) (aa (dq aZ (Nat.lt_of_lt_of_le (ag (ap.cell c8)) (le (le (le (le aY T.size) a3.size) a4.size) a5.size)) x hx) (aa (dq aZ (Nat.lt_of_lt_of_le (ag (ap.cN c8)) (le (le (le (le aY T.size) a3.size) a4.size) a5.size)) x hx) (aa (dq aZ (Nat.lt_of_lt_of_le (aj.glt eb) (le (le (le (le aY T.size) a3.size) a4.size) a5.size)) x hx) (aq (iQ aZ (fun y hy=>Nat.lt_of_lt_of_le (dA (aj.row n) y hy) c9.size) x hx) av))))))))) (fun _ _ q=>q))) fun mj bz=>al 1<|cf (show(!(decide (([a6].getD 0 [])=a6)))=false by simp)<|sk<|bn<|tn<|go<|Pl 1<|bD ((k:Int)+1)<|Pl 1<|nl<|?_
 have cD:=aK eq bz
 exact fD ((k+1),(Es1++[Ev.mk 0 ⟨(fs.getD k aM.zero).unit,0,(fs.getD k aM.zero).msg⟩]),it,iu,iv,(Es2++[Ev.mk 0 ⟨(fs.getD k aM.zero).unit,(dR 1 (to_%3) (gn 1 (to_%3) 0 (au Es1).length) 0),(fs.getD k aM.zero).msg⟩]),iB,iC,iE) ⟨(ut fq (ut (ay.mono (S':=(a2 :: (bK :: (bJ :: (ob Ah1++(bL :: (dd :: (dc :: (ob Ah2++[]))))))))) di aC) (aK fQ bz) (ac im (ac im (ac im (ai il (ac im (ac im (ac im (ai il aC))))))))) (ac (ni b.size fc) (ac (ni b.size fe) (ac (ni b.size fd) (ai (aX (aj.row P) b.size) (ac (ni (le b.size cw.size) aQ) (ac (ni (le b.size cw.size) aS) (ac (ni (le b.size cw.size) aR) (ai (aX (aj.row n) (le b.size cw.size)) aC))))))))),(le (le (le (le (le (le (le (le aY T.size) a3.size) a4.size) a5.size) di.size) ep.size) eq.size) bz.size),(aj.upd cz cD (aa (nb (aj.lt t) lr aQ) (aa (nb (aj.lt t) lr aS) (aa (nb (aj.lt t) lr aR) (aq (az (aj.lt t) lr (aj.row n)) av)))) (aa fE (aa fI (aa fA (aq (az (aj.glt t) lr (aj.row n)) av)))) (fun x hx=>(aa (fun e=>(aJ fH (aj.row cz) (by decide)) (e▸hx)) (aa (fun e=>(aJ fL (aj.row cz) (by decide)) (e▸hx)) (aa (fun e=>(aj.gx dl (aj.row cz) (by decide)) (e▸hx)) (aq (fx x hx) av)))))),(ap.mk (ay.blk cD (aa fG (aa fK (aa fC (aq (az (ag (ap.cell f)) lr (aj.row n)) av)))) (ap.cell dk)) (ay.blk cD (aa (nb (ag (ap.cT f)) lr aQ) (aa (nb (ag (ap.cT f)) lr aS) (aa (nb (ag (ap.cT f)) lr aR) (aq (az (ag (ap.cT f)) lr (aj.row n)) av)))) (ap.cT dk)) (ay.blk cD (aa (nb (ag (ap.cF f)) lr aQ) (aa (nb (ag (ap.cF f)) lr aS) (aa (nb (ag (ap.cF f)) lr aR) (aq (az (ag (ap.cF f)) lr (aj.row n)) av)))) (ap.cF dk)) (ay.blk cD (aa fF (aa fJ (aa fB (aq (az (ag (ap.cN f)) lr (aj.row n)) av)))) (ap.cN dk)) (be (by decide) _)),(aj.old iF bz),(ap.mk (ub bz (ap.cell dm)) (ub bz (ap.cT dm)) (ub bz (ap.cF dm)) (ub bz (ap.cN dm)) (be (by decide) _)),(cJ iH),(by(try dsimp only);omega),(by(try dsimp only);(try simp only[co]);omega),(by(try dsimp only);(try simp only[co]);omega),(by(try dsimp only);exact fi ec),(by(try dsimp only);exact fi ed)⟩ (by omega)
 have i7:=of_decide_eq_false ee
 refine xt<|tx<|tx<|bx<|tn<|aA 3<|L1<|Oc<|m1 (eB (ap.mk (ap.cell Y) (ap.cT Y) (ap.cF Y) (ap.cN Y) (be (by decide) _))) fun ml cE=>Pl 1<|?_
 refine L1<|Oc<|m1 (eB (ap.mk (ub cE (ap.cell G)) (ub cE (ap.cT G)) (ub cE (ap.cF G)) (ub cE (ap.cN G)) (be (by decide) _))) fun mm iO=>L1<|Oi ((bo Es1)+(bo Es2))<|al 3<|rt<|rr (.bool (((bo Es1)+(bo Es2))==0))<|?_
 have hs:(((bo Es1)+(bo Es2))==0)=true:=by simp[ec,ed]
 rw[hs]
 exact⟨rfl,(aK df (aK cE iO))⟩
 refine bM<|aA 1<|L0<|Oe (vB (Int.tmod to_ 3)) (vB (to_%3)) (congrArg (Value.int .u8) (Int.tmod_eq_emod_of_nonneg (by omega)))<|bD (to_%3)<|Pl 1<|aU 3<|aG (args:=#[vI 0,vI (to_%3),vI 1])<|(eM (a:=0) (c:=(to_%3)) (d:=1) (show 0=0∨0=1∨0=2 by decide) (dt _) (show 1=0∨1=1 by decide)).mono ?_
 rintro _ er ⟨a7,dn,bP,fR,fS,bR,rfl,fT,mn,fU,fV,mo,mp,z,g,cG⟩
 refine⟨_,rfl,?_⟩
 refine Pl 1<|aU 3<|aG (args:=#[vI (to_%3),vI 0,vI 1])<|(eM (a:=(to_%3)) (c:=0) (d:=1) (dt _) (show 0=0∨0=1∨0=2 by decide) (show 1=0∨1=1 by decide)).mono ?_
 rintro _ iP ⟨bT,dp,dr,fW,fX,ds,rfl,b0,cc,b1,b2,cd,ce,es,cg,b3⟩
 refine⟨_,rfl,?_⟩
 refine al 1<|sq<|aB 6<|c0<|bM<|sq<|sq<|go<|al 1<|bk<|?_
 refine jZ (fun x=>[(3,.slice F fs.length cpF),(9,.bool true),(10,vI 1),(11,vI 0),(13,vP a7 0),(14,vP bT 0),(15,vI (x.1:Int))]) (fun(x:Nat × List Ev × Option Addr × Nat × Nat × List Ev × Option Addr × Nat × Nat) w'=>ay [] w w'∧iP.heap.size≤w'.heap.size∧aj x.2.2.2.2.1 X.heap.size w' dn bP x.2.2.1 x.2.2.2.1 (XS.zero 0 1)∧gN w' a7 dn fR fS bR 0 (to_%3) 1 x.2.1∧aj x.2.2.2.2.2.2.2.2 er.heap.size w' dp dr x.2.2.2.2.2.2.1 x.2.2.2.2.2.2.2.1 (XS.zero (to_%3) 1)∧gN w' bT dp fW fX ds (to_%3) 0 1 x.2.2.2.2.2.1∧(∀ y,y∈ob x.2.2.1→y∉ob x.2.2.2.2.2.2.1)∧(x.1≤fs.length)∧(x.2.1.length≤x.1)∧(x.2.2.2.2.2.1.length≤x.1)∧(bo x.2.1=0)∧(bo x.2.2.2.2.2.1=0)) (fun x=>fs.length-x.1) (0,[],none,0,X.heap.size,[],none,0,er.heap.size) ⟨(aK b (aK cG b3)),lr,(aj.old z b3),(ap.mk (ub b3 (ap.cell g)) (ub b3 (ap.cT g)) (ub b3 (ap.cF g)) (ub b3 (ap.cN g)) (be (by decide) _)),es,(ap.mk (ap.cell cg) (ap.cT cg) (ap.cF cg) (ap.cN cg) (be (by decide) _)),(fun x hx=>absurd hx (iN x)),(by(try dsimp only);omega),(by(try dsimp only);exact Nat.zero_le _),(by(try dsimp only);exact Nat.zero_le _),rfl,rfl⟩ ?_
 rintro⟨k,Es1,Ah1,ch1,n1,Es2,Ah2,ch2,n2⟩ du ⟨dv,b4,iR,iT,iU,iV,iX,iY,iZ,j1,j2,j3⟩
 refine iW [(3,.slice F fs.length cpF),(9,.bool true),(10,vI 1),(11,vI 0),(13,vP a7 0),(14,vP bT 0),(15,vI (k:Int))] ?_
 have Q:aj n1 X.heap.size du dn bP Ah1 ch1 (XS.zero 0 1):=iR
 have Z:gN du a7 dn fR fS bR 0 (to_%3) 1 Es1:=iT
 have o:aj n2 er.heap.size du dp dr Ah2 ch2 (XS.zero (to_%3) 1):=iU
 have I:gN du bT dp fW fX ds (to_%3) 0 1 Es2:=iV
 have dw:(∀ y,y∈ob Ah1→y∉ob Ah2):=iX
 have mq:k≤fs.length:=iY
 have mr:Es1.length≤k:=iZ
 have ms:Es2.length≤k:=j1
 have et:bo Es1=0:=j2
 have eu:bo Es2=0:=j3
 refine sq<|aB 4<|cb ((decide ((k:Int)<(fs.length:Int)))) (fun ev=>?_) (fun ev=>?_)
 have j4:=of_decide_eq_true ev
 refine bM<|sq<|bk<|aA 2<|CV (um.elt hF k (by omega) aM.zero) fun mt mu mv mw mx A fY j6 J fZ=>?_
 have my:=J.2
 refine L0<|jC 24 fs.length k fY (by omega)<|Pl 1<|?_
 have g0:=ub dv j6
 refine L0<|wb [vB ((fs.getD k aM.zero).msg.code),vB ((fs.getD k aM.zero).msg.fail),vW ((fs.getD k aM.zero).msg.addr),vW ((fs.getD k aM.zero).msg.count),vW ((fs.getD k aM.zero).msg.value),vW ((fs.getD k aM.zero).msg.and_),vW ((fs.getD k aM.zero).msg.or_),vW ((fs.getD k aM.zero).msg.addr2),vW ((fs.getD k aM.zero).msg.sub),vW ((fs.getD k aM.zero).msg.status),vW ((fs.getD k aM.zero).msg.events),vW ((fs.getD k aM.zero).msg.messages),.slice A.aw ((fs.getD k aM.zero).msg.words.length) A.kw,.slice A.ab ((fs.getD k aM.zero).msg.bits.length) A.kb,.slice A.ad ((fs.getD k aM.zero).msg.data.length) A.kd,.slice A.ar ((fs.getD k aM.zero).msg.recs.length) A.kr,vB ((fs.getD k aM.zero).msg.mei),vB ((fs.getD k aM.zero).msg.kind),vB ((fs.getD k aM.zero).msg.level),vB ((fs.getD k aM.zero).msg.more),vB ((fs.getD k aM.zero).msg.next),.slice A.ao ((fs.getD k aM.zero).msg.objects.length) A.ko] g0 (oX (k:=2) (m:=22) fZ (by kernel_rfl) (by decide))<|?_
 have g1:=aH.old (J.1) dv
 refine aG<|m1 (lT g1) fun mz U=>al 1<|sq<|aB 2<|?_
 have g2:=aK dv U
 refine cb ((!(eS (fs.getD k aM.zero).msg))) (fun ew=>?_) (fun ew=>?_)
 have bm:(eS (fs.getD k aM.zero).msg)=false:=by simpa using ew
 exact aB 2<|bQ<|br<|tr<|tr<|br<|tr<|rr (.bool true)<|⟨rfl,g2⟩
 have bm:(eS (fs.getD k aM.zero).msg)=true:=by simpa using ew
 refine bM<|aA 2<|L0<|jC 24 fs.length k fY (by omega)<|?_
 refine L0<|wb [vB ((fs.getD k aM.zero).unit),vW ((fs.getD k aM.zero).tid),vB ((fs.getD k aM.zero).msg.code),vB ((fs.getD k aM.zero).msg.fail),vW ((fs.getD k aM.zero).msg.addr),vW ((fs.getD k aM.zero).msg.count),vW ((fs.getD k aM.zero).msg.value),vW ((fs.getD k aM.zero).msg.and_),vW ((fs.getD k aM.zero).msg.or_),vW ((fs.getD k aM.zero).msg.addr2),vW ((fs.getD k aM.zero).msg.sub),vW ((fs.getD k aM.zero).msg.status),vW ((fs.getD k aM.zero).msg.events),vW ((fs.getD k aM.zero).msg.messages),.slice A.aw ((fs.getD k aM.zero).msg.words.length) A.kw,.slice A.ab ((fs.getD k aM.zero).msg.bits.length) A.kb,.slice A.ad ((fs.getD k aM.zero).msg.data.length) A.kd,.slice A.ar ((fs.getD k aM.zero).msg.recs.length) A.kr,vB ((fs.getD k aM.zero).msg.mei),vB ((fs.getD k aM.zero).msg.kind),vB ((fs.getD k aM.zero).msg.level),vB ((fs.getD k aM.zero).msg.more),vB ((fs.getD k aM.zero).msg.next),.slice A.ao ((fs.getD k aM.zero).msg.objects.length) A.ko] (ub U g0) fZ<|aO rU fun mA mB j8 j9 a8=>aN j9 (eo ((fs.getD k aM.zero).unit) ((fs.getD k aM.zero).tid) ((fs.getD k aM.zero).msg) A) fun mC ja a9=>aU 2<|L0<|cA ja 1 (eo ((fs.getD k aM.zero).unit) 0 ((fs.getD k aM.zero).msg) A) fun mD jb ae=>aU 2<|L0<|cM jb<|?_
 have g3:=ud a8 (u1 a9 ae im) j8
 have ch:=aK U g3
 have ex:=aH.old g1 ch
 have g4:=aK g2 g3
 refine wo (gf 0 1 ((fs.getD k aM.zero).unit) 0 ((fs.getD k aM.zero).msg)) (fun bp=>?_) (fun af bp=>?_)
 refine aG<|m1 (gH ex (bA bm) (by omega) (by omega) bp) fun mE ey=>Pl 5<|aU 3<|?_
 have bU:=aK ch ey
 have ez:=aj.old Q bU
 have mG:=aj.take_le ez (fun x hx=>by cases hx) (dJ (k:=0) (d:=1))
 have mH:=dW (k:=0) (show 1=0∨1=1 by decide) ez (bO (show 0=0∨0=1∨0=2 by decide)) (fun x hx=>by cases hx) (dJ (k:=0) (d:=1))
 have mI:([] : List Int).length=0:=rfl
 refine aG (args:=#[vP a7 0,.agg #[nS,.bool true]])<|(cU (a:=0) (c:=(to_%3)) (K:=Es1) (dJ (k:=0) (d:=1)) (dt _) (show 1=0∨1=1 by decide) (bO (show 0=0∨0=1∨0=2 by decide)) (ap.mk (ub bU (ap.cell Z)) (ub bU (ap.cT Z)) (ub bU (ap.cF Z)) (ub bU (ap.cN Z)) (be (by decide) _)) ez (aT.nil true _ _ _ _) (fun hn=>absurd hn (Nat.lt_irrefl 0)) (fun hn=>absurd hn (Nat.lt_irrefl 0)) (by omega) (by omega)).mono ?_
 rintro _ mJ ⟨mK,jc,jd,je,rfl,g5,jf,dx,jg,mL,eA⟩
 refine⟨_,rfl,?_⟩
 rw[kj] at g5
 have ji:=g5
 obtain⟨mM,mN,rfl,mO,mP⟩:=aT.shape ji.rd
 have jj:=cV dw (dA (ak (aj.row o) bU (fun x hx=>av) (fun _ _ h=>h))) jg
 refine al 1<|sq<|aB 2<|c1<|sq<|aA 3<|nl<|tn<|c0<|bM<|xt<|tx<|bx<|tn<|go<|Pl 1<|bD ((k:Int)+1)<|Pl 1<|nl<|?_
 have cH:=ut (ay.mono (S':=(a7 :: (bR :: (bP :: (ob Ah1++[]))))) bU aC) eA (ac im (ac im (ac im (ai il aC))))
 exact fD ((k+1),(Es1++[]),jc,jd,je,Es2,Ah2,ch2,n2) ⟨(ut g4 (ut (ay.mono (S':=(a7 :: (bR :: (bP :: (ob Ah1++[]))))) ey aC) eA (ac im (ac im (ac im (ai il aC))))) (ac (ni b.size fT) (ac (ni b.size fV) (ac (ni b.size fU) (ai (aX (aj.row Q) b.size) aC))))),(le (le (le (le (le (le b4 U.size) a8.size) a9.size) ae.size) ey.size) eA.size),jf,(ap.mk (ap.cell dx) (ap.cT dx) (ap.cF dx) (ap.cN dx) (be (by decide) _)),(aj.upd o cH (aa (Ne.symm (nb (ag (ap.cell g)) lr cc)) (aa (Ne.symm (nb (ag (ap.cN g)) lr cc)) (aa (Ne.symm (nb (aj.glt z) lr cc)) (aq (eh (aj.cells o) (aj.row Q) (by decide)) av)))) (aa (Ne.symm (nb (ag (ap.cell g)) lr b1)) (aa (Ne.symm (nb (ag (ap.cN g)) lr b1)) (aa (Ne.symm (nb (aj.glt z) lr b1)) (aq (aj.gx o (aj.row Q) (by decide)) av)))) (fun x hx=>(aa (fun e=>(az (ag (ap.cell g)) lr (aj.row o)) (e▸hx)) (aa (fun e=>(az (ag (ap.cN g)) lr (aj.row o)) (e▸hx)) (aa (fun e=>(az (aj.glt z) lr (aj.row o)) (e▸hx)) (aq ((cJ dw) x hx) av)))))),(ap.mk (ay.blk cH (aa (Ne.symm (nb (ag (ap.cell g)) lr b0)) (aa (Ne.symm (nb (ag (ap.cN g)) lr b0)) (aa (Ne.symm (nb (aj.glt z) lr b0)) (aq (aJ (ap.cell I) (aj.row Q) (by decide)) av)))) (ap.cell I)) (ay.blk cH (aa (Ne.symm (nb (ag (ap.cell g)) lr cd)) (aa (Ne.symm (nb (ag (ap.cN g)) lr cd)) (aa (Ne.symm (nb (aj.glt z) lr cd)) (aq (aJ (ap.cT I) (aj.row Q) (by decide)) av)))) (ap.cT I)) (ay.blk cH (aa (Ne.symm (nb (ag (ap.cell g)) lr ce)) (aa (Ne.symm (nb (ag (ap.cN g)) lr ce)) (aa (Ne.symm (nb (aj.glt z) lr ce)) (aq (aJ (ap.cF I) (aj.row Q) (by decide)) av)))) (ap.cF I)) (ay.blk cH (aa (Ne.symm (nb (ag (ap.cell g)) lr b2)) (aa (Ne.symm (nb (ag (ap.cN g)) lr b2)) (aa (Ne.symm (nb (aj.glt z) lr b2)) (aq (aJ (ap.cN I) (aj.row Q) (by decide)) av)))) (ap.cN I)) (be (by decide) _)),jj,(by(try dsimp only);omega),(by(try dsimp only);(try simp only[co]);omega),(by(try dsimp only);(try simp only[co]);omega),(by(try dsimp only);exact jS et),eu⟩ (by omega)
 have mQ:=lL (ex.rngs).1 bp
 obtain⟨ci,cI⟩:=oY (a:=0) (c:=(to_%3)) (t':=0) (gn 0 (to_%3) 0 (au Es1).length) (dt _) bp
 have eC:=j0 (a:=0) (c:=(to_%3)) (was:=0) (be (a:=0) (c:=(to_%3)) (next:=0) (by decide) (au Es1).length) (by decide)
 have mR:=j7 cI
 refine aG<|e2 (fm ex (bA bm) (by omega) (by omega) bp) fun mS mT jk dy=>?_
 obtain⟨g6,g7,rfl,dz,b5⟩:=iq.shape jk
 refine Pl 5<|aU 3<|?_
 have bB:=aK ch dy
 have eD:=aj.old Q bB
 have mU:=aj.take_le eD (aW.range dz) (show XS.take (XS.zero 0 1) af true=((XS.zero 0 1),[Ev.mk 0 ⟨(fs.getD k aM.zero).unit,0,(fs.getD k aM.zero).msg⟩]) from bu (k:=0) (show 1=0∨1=1 by decide) J.2.1 (by decide) (J.1).rngs (fun l hz=>bH J.1 (bA bm) l hz) bp)
 have mV:=dW (k:=0) (show 1=0∨1=1 by decide) eD (bO (show 0=0∨0=1∨0=2 by decide)) (aW.range dz) (show XS.take (XS.zero 0 1) af true=((XS.zero 0 1),[Ev.mk 0 ⟨(fs.getD k aM.zero).unit,0,(fs.getD k aM.zero).msg⟩]) from bu (k:=0) (show 1=0∨1=1 by decide) J.2.1 (by decide) (J.1).rngs (fun l hz=>bH J.1 (bA bm) l hz) bp)
 refine aG (args:=#[vP a7 0,.agg #[.slice g6 af.length g7,.bool true]])<|(cU (a:=0) (c:=(to_%3)) (K:=Es1) (show XS.take (XS.zero 0 1) af true=((XS.zero 0 1),[Ev.mk 0 ⟨(fs.getD k aM.zero).unit,0,(fs.getD k aM.zero).msg⟩]) from bu (k:=0) (show 1=0∨1=1 by decide) J.2.1 (by decide) (J.1).rngs (fun l hz=>bH J.1 (bA bm) l hz) bp) (dt _) (show 1=0∨1=1 by decide) (bO (show 0=0∨0=1∨0=2 by decide)) (ap.mk (ub bB (ap.cell Z)) (ub bB (ap.cT Z)) (ub bB (ap.cF Z)) (ub bB (ap.cN Z)) (be (by decide) _)) eD dz (fun _=>dq b5 (Nat.lt_of_lt_of_le (aj.glt z) (le (le (le (le (le b3.size b4) U.size) a8.size) a9.size) ae.size))) (jN b5 (aj.row Q) ch.size) (by omega) (by omega)).mono ?_
 rintro _ mW ⟨mX,jl,jm,jn,rfl,g8,cK,dB,jo,mY,eE⟩
 refine⟨_,rfl,?_⟩
 rw[(fj cI)] at g8
 have g9:=g8
 obtain⟨mZ,n0,rfl,n3,n4⟩:=aT.shape g9.rd
 have ga:=cV dw (dA (ak (aj.row o) bB (fun x hx=>av) (fun _ _ h=>h))) jo
 refine al 1<|sq<|aB 2<|c0<|bM<|sq<|sq<|go<|al 3<|c0<|bM<|aA 2<|j5 (iD.elt (iS.rdh g9) 0 (by exact Nat.zero_lt_one)) fun jp jq gb gc jr js cL n5 n6=>L0<|lW 1 0 jr (by omega)<|L0<|jO (p:=⟨jp,jq+0,none⟩) (v:=.slice gb (([ci].getD 0 []).length) gc) js<|Pl 1<|?_
 have cO:=ut (ay.mono (S':=(a7 :: (bR :: (bP :: (ob Ah1++[]))))) bB aC) eE (ac im (ac im (ac im (ai il aC))))
 have gd:=nb (aj.glt z) lr b1
 have ge:=nb (ag (ap.cN g)) lr b1
 have gg:=nb (ag (ap.cell g)) lr b1
 have dC:=aj.upd o cO (aa (Ne.symm (nb (ag (ap.cell g)) lr cc)) (aa (Ne.symm (nb (ag (ap.cN g)) lr cc)) (aa (Ne.symm (nb (aj.glt z) lr cc)) (aq (eh (aj.cells o) (aj.row Q) (by decide)) av)))) (aa (Ne.symm gg) (aa (Ne.symm ge) (aa (Ne.symm gd) (aq (aj.gx o (aj.row Q) (by decide)) av)))) (fun x hx=>(aa (fun e=>(az (ag (ap.cell g)) lr (aj.row o)) (e▸hx)) (aa (fun e=>(az (ag (ap.cN g)) lr (aj.row o)) (e▸hx)) (aa (fun e=>(az (aj.glt z) lr (aj.row o)) (e▸hx)) (aq ((cJ dw) x hx) av)))))
 have gh:=nb (aj.glt z) lr b0
 have gi:=nb (ag (ap.cN g)) lr b0
 have gj:=nb (ag (ap.cell g)) lr b0
 have gk:=ay.blk cO (aa (Ne.symm gj) (aa (Ne.symm gi) (aa (Ne.symm gh) (aq (aJ (ap.cell I) (aj.row Q) (by decide)) av)))) (ap.cell I)
 have gl:=nb (aj.glt z) lr b2
 have gm:=nb (ag (ap.cN g)) lr b2
 have gp:=nb (ag (ap.cell g)) lr b2
 have gq:=ay.blk cO (aa (Ne.symm gp) (aa (Ne.symm gm) (aa (Ne.symm gl) (aq (aJ (ap.cN I) (aj.row Q) (by decide)) av)))) (ap.cN I)
 have n7:=aj.take_le dC (aW.range cL) (show XS.take (XS.zero (to_%3) 1) ([ci].getD 0 []) true=((XS.zero (to_%3) 1),[Ev.mk 0 ⟨(fs.getD k aM.zero).unit,(dR 0 (to_%3) (gn 0 (to_%3) 0 (au Es1).length) 0),(fs.getD k aM.zero).msg⟩]) from bu (k:=(to_%3)) (show 1=0∨1=1 by decide) J.2.1 eC (J.1).rngs (fun l hz=>bH J.1 (bA bm) l hz) cI)
 have n8:=dW (k:=(to_%3)) (show 1=0∨1=1 by decide) dC (bO (dt _)) (aW.range cL) (show XS.take (XS.zero (to_%3) 1) ([ci].getD 0 []) true=((XS.zero (to_%3) 1),[Ev.mk 0 ⟨(fs.getD k aM.zero).unit,(dR 0 (to_%3) (gn 0 (to_%3) 0 (au Es1).length) 0),(fs.getD k aM.zero).msg⟩]) from bu (k:=(to_%3)) (show 1=0∨1=1 by decide) J.2.1 eC (J.1).rngs (fun l hz=>bH J.1 (bA bm) l hz) cI)
 refine aG (args:=#[vP bT 0,.agg #[.slice gb (([ci].getD 0 []).length) gc,.bool true]])<|(cU (a:=(to_%3)) (c:=0) (K:=Es2) (show XS.take (XS.zero (to_%3) 1) ([ci].getD 0 []) true=((XS.zero (to_%3) 1),[Ev.mk 0 ⟨(fs.getD k aM.zero).unit,(dR 0 (to_%3) (gn 0 (to_%3) 0 (au Es1).length) 0),(fs.getD k aM.zero).msg⟩]) from bu (k:=(to_%3)) (show 1=0∨1=1 by decide) J.2.1 eC (J.1).rngs (fun l hz=>bH J.1 (bA bm) l hz) cI) (show 0=0∨0=1∨0=2 by decide) (show 1=0∨1=1 by decide) (bO (dt _)) (ap.mk gk (ay.blk cO (aa (Ne.symm (nb (ag (ap.cell g)) lr cd)) (aa (Ne.symm (nb (ag (ap.cN g)) lr cd)) (aa (Ne.symm (nb (aj.glt z) lr cd)) (aq (aJ (ap.cT I) (aj.row Q) (by decide)) av)))) (ap.cT I)) (ay.blk cO (aa (Ne.symm (nb (ag (ap.cell g)) lr ce)) (aa (Ne.symm (nb (ag (ap.cN g)) lr ce)) (aa (Ne.symm (nb (aj.glt z) lr ce)) (aq (aJ (ap.cF I) (aj.row Q) (by decide)) av)))) (ap.cF I)) gq (be (by decide) _)) dC cL (u6 cL (aj.glt es) (le (le (le (le (le b4 U.size) a8.size) a9.size) ae.size) dy.size)) (oI cL (aj.row o) bB.size) (by show ci.length≤100000;omega) (by omega)).mono ?_
 rintro _ n9 ⟨na,jt,ju,jv,rfl,gr,jw,dD,jx,nc,eF⟩
 refine⟨_,rfl,?_⟩
 rw[(fj (by rw[kX (by decide)];exact bp))] at gr
 have gs:=gr
 obtain⟨nd,ne,rfl,nf,nh⟩:=aT.shape gs.rd
 have jy:=cV (cJ ga) (dA (aj.row cK)) jx
 refine al 1<|sq<|aB 3<|c0<|bM<|aA 1<|j5 (iD.elt (iS.rdh gs) 0 (by exact Nat.zero_lt_one)) fun jz jA gt gu jB jD jE nj nk=>L0<|lW 1 0 jB (by omega)<|L0<|jO (p:=⟨jz,jA+0,none⟩) (v:=.slice gt (([af].getD 0 []).length) gu) jD<|Pl 1<|?_
 have gv:=ut (ay.mono (S':=(a7 :: (bR :: (bP :: (ob Ah1++(bT :: (ds :: (dr :: (ob Ah2++[]))))))))) eE (ac im (ac im (ac im (ai il aC))))) eF (ac im (ac im (ac im (ai il aC))))
 refine aG (args:=#[.slice gt (([af].getD 0 []).length) gu,.slice g6 af.length g7])<|m1 (jh (xs:=([af].getD 0 [])) (ys:=af) jE (aT.stay dz gv (fun x hx=>(aa (dq b5 (Nat.lt_of_lt_of_le (ag (ap.cell g)) (le (le (le (le (le b3.size b4) U.size) a8.size) a9.size) ae.size)) x hx) (aa (dq b5 (Nat.lt_of_lt_of_le (ag (ap.cN g)) (le (le (le (le (le b3.size b4) U.size) a8.size) a9.size) ae.size)) x hx) (aa (dq b5 (Nat.lt_of_lt_of_le (aj.glt z) (le (le (le (le (le b3.size b4) U.size) a8.size) a9.size) ae.size)) x hx) (aq (iQ b5 (fun y hy=>Nat.lt_of_lt_of_le (dA (aj.row Q) y hy) ch.size) x hx) (aa (dq b5 (Nat.lt_of_lt_of_le (ag (ap.cell cg)) (le (le (le (le b4 U.size) a8.size) a9.size) ae.size)) x hx) (aa (dq b5 (Nat.lt_of_lt_of_le (ag (ap.cN cg)) (le (le (le (le b4 U.size) a8.size) a9.size) ae.size)) x hx) (aa (dq b5 (Nat.lt_of_lt_of_le (aj.glt es) (le (le (le (le b4 U.size) a8.size) a9.size) ae.size)) x hx) (aq (iQ b5 (fun y hy=>Nat.lt_of_lt_of_le (dA (aj.row o) y hy) ch.size) x hx) av))))))))) (fun _ _ q=>q))) fun nm bC=>al 1<|cf (show(!(decide (([af].getD 0 [])=af)))=false by simp)<|sk<|bn<|tn<|go<|Pl 1<|bD ((k:Int)+1)<|Pl 1<|nl<|?_
 have cP:=aK eF bC
 exact fD ((k+1),(Es1++[Ev.mk 0 ⟨(fs.getD k aM.zero).unit,0,(fs.getD k aM.zero).msg⟩]),jl,jm,jn,(Es2++[Ev.mk 0 ⟨(fs.getD k aM.zero).unit,(dR 0 (to_%3) (gn 0 (to_%3) 0 (au Es1).length) 0),(fs.getD k aM.zero).msg⟩]),jt,ju,jv) ⟨(ut g4 (ut (ay.mono (S':=(a7 :: (bR :: (bP :: (ob Ah1++(bT :: (ds :: (dr :: (ob Ah2++[]))))))))) dy aC) (aK gv bC) (ac im (ac im (ac im (ai il (ac im (ac im (ac im (ai il aC))))))))) (ac (ni b.size fT) (ac (ni b.size fV) (ac (ni b.size fU) (ai (aX (aj.row Q) b.size) (ac (ni (le b.size cG.size) b0) (ac (ni (le b.size cG.size) b2) (ac (ni (le b.size cG.size) b1) (ai (aX (aj.row o) (le b.size cG.size)) aC))))))))),(le (le (le (le (le (le (le (le b4 U.size) a8.size) a9.size) ae.size) dy.size) eE.size) eF.size) bC.size),(aj.upd cK cP (aa (nb (aj.lt z) lr b0) (aa (nb (aj.lt z) lr b2) (aa (nb (aj.lt z) lr b1) (aq (az (aj.lt z) lr (aj.row o)) av)))) (aa gh (aa gl (aa gd (aq (az (aj.glt z) lr (aj.row o)) av)))) (fun x hx=>(aa (fun e=>(aJ gk (aj.row cK) (by decide)) (e▸hx)) (aa (fun e=>(aJ gq (aj.row cK) (by decide)) (e▸hx)) (aa (fun e=>(aj.gx dC (aj.row cK) (by decide)) (e▸hx)) (aq (ga x hx) av)))))),(ap.mk (ay.blk cP (aa gj (aa gp (aa gg (aq (az (ag (ap.cell g)) lr (aj.row o)) av)))) (ap.cell dB)) (ay.blk cP (aa (nb (ag (ap.cT g)) lr b0) (aa (nb (ag (ap.cT g)) lr b2) (aa (nb (ag (ap.cT g)) lr b1) (aq (az (ag (ap.cT g)) lr (aj.row o)) av)))) (ap.cT dB)) (ay.blk cP (aa (nb (ag (ap.cF g)) lr b0) (aa (nb (ag (ap.cF g)) lr b2) (aa (nb (ag (ap.cF g)) lr b1) (aq (az (ag (ap.cF g)) lr (aj.row o)) av)))) (ap.cF dB)) (ay.blk cP (aa gi (aa gm (aa ge (aq (az (ag (ap.cN g)) lr (aj.row o)) av)))) (ap.cN dB)) (be (by decide) _)),(aj.old jw bC),(ap.mk (ub bC (ap.cell dD)) (ub bC (ap.cT dD)) (ub bC (ap.cF dD)) (ub bC (ap.cN dD)) (be (by decide) _)),(cJ jy),(by(try dsimp only);omega),(by(try dsimp only);(try simp only[co]);omega),(by(try dsimp only);(try simp only[co]);omega),(by(try dsimp only);exact fi et),(by(try dsimp only);exact fi eu)⟩ (by omega)
 have j4:=of_decide_eq_false ev
 refine xt<|tx<|tx<|bx<|tn<|aA 3<|L1<|Oc<|m1 (eB (ap.mk (ap.cell Z) (ap.cT Z) (ap.cF Z) (ap.cN Z) (be (by decide) _))) fun nn cQ=>Pl 1<|?_
 refine L1<|Oc<|m1 (eB (ap.mk (ub cQ (ap.cell I)) (ub cQ (ap.cT I)) (ub cQ (ap.cF I)) (ub cQ (ap.cN I)) (be (by decide) _))) fun no jF=>L1<|Oi ((bo Es1)+(bo Es2))<|al 3<|rt<|rr (.bool (((bo Es1)+(bo Es2))==0))<|?_
 have hs:(((bo Es1)+(bo Es2))==0)=true:=by simp[et,eu]
 rw[hs]
 exact⟨rfl,(aK dv (aK cQ jF))⟩
 refine bM<|aB 1<|sq<|aB 1<|cb (frm) (fun jG=>?_) (fun jG=>?_)
 refine go<|Pl 1<|aU 1<|L0<|Oe (vB (Int.tmod to_ 3)) (vB (to_%3)) (congrArg (Value.int .u8) (Int.tmod_eq_emod_of_nonneg (by omega)))<|bD (to_%3)<|Pl 1<|aU 3<|aG (args:=#[vI 1,vI (to_%3),vI 0])<|(eM (a:=1) (c:=(to_%3)) (d:=0) (show 1=0∨1=1∨1=2 by decide) (dt _) (show 0=0∨0=1 by decide)).mono ?_
 rintro _ eG ⟨ah,dE,bV,gw,gy,bW,rfl,gz,np,gA,gB,nq,nr,B,i,cR⟩
 refine⟨_,rfl,?_⟩
 refine Pl 1<|aU 3<|aG (args:=#[vI (to_%3),vI 1,vI 0])<|(eM (a:=(to_%3)) (c:=1) (d:=0) (dt _) (show 1=0∨1=1∨1=2 by decide) (show 0=0∨0=1 by decide)).mono ?_
 rintro _ jH ⟨bX,dF,dG,gC,gD,dH,rfl,b6,cj,b7,b8,ck,cl,eH,cm,b9⟩
 refine⟨_,rfl,?_⟩
 refine al 1<|sq<|aB 6<|c0<|bM<|sq<|sq<|go<|al 1<|bk<|?_
 refine jZ (fun x=>[(3,.slice F fs.length cpF),(9,.bool true),(10,vI 0),(11,vI 1),(13,vP ah 0),(14,vP bX 0),(15,vI (x.1:Int))]) (fun(x:Nat × List Ev × Option Addr × Nat × Nat × List Ev × Option Addr × Nat × Nat) w'=>ay [] w w'∧jH.heap.size≤w'.heap.size∧aj x.2.2.2.2.1 X.heap.size w' dE bV x.2.2.1 x.2.2.2.1 (XS.zero 1 0)∧gN w' ah dE gw gy bW 1 (to_%3) 0 x.2.1∧aj x.2.2.2.2.2.2.2.2 eG.heap.size w' dF dG x.2.2.2.2.2.2.1 x.2.2.2.2.2.2.2.1 (XS.zero (to_%3) 0)∧gN w' bX dF gC gD dH (to_%3) 1 0 x.2.2.2.2.2.1∧(∀ y,y∈ob x.2.2.1→y∉ob x.2.2.2.2.2.2.1)∧(x.1≤fs.length)∧(x.2.1.length≤x.1)∧(x.2.2.2.2.2.1.length≤x.1)∧(bo x.2.1=0)∧(bo x.2.2.2.2.2.1=0)) (fun x=>fs.length-x.1) (0,[],none,0,X.heap.size,[],none,0,eG.heap.size) ⟨(aK b (aK cR b9)),lr,(aj.old B b9),(ap.mk (ub b9 (ap.cell i)) (ub b9 (ap.cT i)) (ub b9 (ap.cF i)) (ub b9 (ap.cN i)) (be (by decide) _)),eH,(ap.mk (ap.cell cm) (ap.cT cm) (ap.cF cm) (ap.cN cm) (be (by decide) _)),(fun x hx=>absurd hx (iN x)),(by(try dsimp only);omega),(by(try dsimp only);exact Nat.zero_le _),(by(try dsimp only);exact Nat.zero_le _),rfl,rfl⟩ ?_
 rintro⟨k,Es1,Ah1,ch1,n1,Es2,Ah2,ch2,n2⟩ dI ⟨dL,ba,jI,jJ,jK,jL,jM,jP,jQ,jR,jT,jU⟩
 refine iW [(3,.slice F fs.length cpF),(9,.bool true),(10,vI 0),(11,vI 1),(13,vP ah 0),(14,vP bX 0),(15,vI (k:Int))] ?_
 have R:aj n1 X.heap.size dI dE bV Ah1 ch1 (XS.zero 1 0):=jI
 have a0:gN dI ah dE gw gy bW 1 (to_%3) 0 Es1:=jJ
 have r:aj n2 eG.heap.size dI dF dG Ah2 ch2 (XS.zero (to_%3) 0):=jK
 have L:gN dI bX dF gC gD dH (to_%3) 1 0 Es2:=jL
 have dM:(∀ y,y∈ob Ah1→y∉ob Ah2):=jM
 have ns:k≤fs.length:=jP
 have nt:Es1.length≤k:=jQ
 have nu:Es2.length≤k:=jR
 have eI:bo Es1=0:=jT
 have eJ:bo Es2=0:=jU
 refine sq<|aB 4<|cb ((decide ((k:Int)<(fs.length:Int)))) (fun eK=>?_) (fun eK=>?_)
 have jV:=of_decide_eq_true eK
 refine bM<|sq<|bk<|aA 2<|CV (um.elt hF k (by omega) aM.zero) fun nv nw nx ny nz C gE jW M gF=>?_
 have nA:=M.2
 refine L0<|jC 24 fs.length k gE (by omega)<|Pl 1<|?_
 have gG:=ub dL jW
 refine L0<|wb [vB ((fs.getD k aM.zero).msg.code),vB ((fs.getD k aM.zero).msg.fail),vW ((fs.getD k aM.zero).msg.addr),vW ((fs.getD k aM.zero).msg.count),vW ((fs.getD k aM.zero).msg.value),vW ((fs.getD k aM.zero).msg.and_),vW ((fs.getD k aM.zero).msg.or_),vW ((fs.getD k aM.zero).msg.addr2),vW ((fs.getD k aM.zero).msg.sub),vW ((fs.getD k aM.zero).msg.status),vW ((fs.getD k aM.zero).msg.events),vW ((fs.getD k aM.zero).msg.messages),.slice C.aw ((fs.getD k aM.zero).msg.words.length) C.kw,.slice C.ab ((fs.getD k aM.zero).msg.bits.length) C.kb,.slice C.ad ((fs.getD k aM.zero).msg.data.length) C.kd,.slice C.ar ((fs.getD k aM.zero).msg.recs.length) C.kr,vB ((fs.getD k aM.zero).msg.mei),vB ((fs.getD k aM.zero).msg.kind),vB ((fs.getD k aM.zero).msg.level),vB ((fs.getD k aM.zero).msg.more),vB ((fs.getD k aM.zero).msg.next),.slice C.ao ((fs.getD k aM.zero).msg.objects.length) C.ko] gG (oX (k:=2) (m:=22) gF (by kernel_rfl) (by decide))<|?_
 have gI:=aH.old (M.1) dL
 refine aG<|m1 (lT gI) fun nB V=>al 1<|sq<|aB 2<|?_
 have gJ:=aK dL V
 refine cb ((!(eS (fs.getD k aM.zero).msg))) (fun eL=>?_) (fun eL=>?_)
 have bq:(eS (fs.getD k aM.zero).msg)=false:=by simpa using eL
 exact aB 2<|bQ<|br<|tr<|tr<|br<|tr<|rr (.bool true)<|⟨rfl,gJ⟩
 have bq:(eS (fs.getD k aM.zero).msg)=true:=by simpa using eL
 refine bM<|aA 2<|L0<|jC 24 fs.length k gE (by omega)<|?_
 refine L0<|wb [vB ((fs.getD k aM.zero).unit),vW ((fs.getD k aM.zero).tid),vB ((fs.getD k aM.zero).msg.code),vB ((fs.getD k aM.zero).msg.fail),vW ((fs.getD k aM.zero).msg.addr),vW ((fs.getD k aM.zero).msg.count),vW ((fs.getD k aM.zero).msg.value),vW ((fs.getD k aM.zero).msg.and_),vW ((fs.getD k aM.zero).msg.or_),vW ((fs.getD k aM.zero).msg.addr2),vW ((fs.getD k aM.zero).msg.sub),vW ((fs.getD k aM.zero).msg.status),vW ((fs.getD k aM.zero).msg.events),vW ((fs.getD k aM.zero).msg.messages),.slice C.aw ((fs.getD k aM.zero).msg.words.length) C.kw,.slice C.ab ((fs.getD k aM.zero).msg.bits.length) C.kb,.slice C.ad ((fs.getD k aM.zero).msg.data.length) C.kd,.slice C.ar ((fs.getD k aM.zero).msg.recs.length) C.kr,vB ((fs.getD k aM.zero).msg.mei),vB ((fs.getD k aM.zero).msg.kind),vB ((fs.getD k aM.zero).msg.level),vB ((fs.getD k aM.zero).msg.more),vB ((fs.getD k aM.zero).msg.next),.slice C.ao ((fs.getD k aM.zero).msg.objects.length) C.ko] (ub V gG) gF<|aO rU fun nC nD jX jY am=>aN jY (eo ((fs.getD k aM.zero).unit) ((fs.getD k aM.zero).tid) ((fs.getD k aM.zero).msg) C) fun nE k0 an=>aU 2<|L0<|cA k0 1 (eo ((fs.getD k aM.zero).unit) 0 ((fs.getD k aM.zero).msg) C) fun nF k1 ax=>aU 2<|L0<|cM k1<|?_
 have gK:=ud am (u1 an ax im) jX
 have cn:=aK V gK
 have eN:=aH.old gI cn
 have gL:=aK gJ gK
 refine wo (gf 1 0 ((fs.getD k aM.zero).unit) 0 ((fs.getD k aM.zero).msg)) (fun bs=>?_) (fun aD bs=>?_)
 refine aG<|m1 (gH eN (bA bq) (by omega) (by omega) bs) fun nG eO=>Pl 5<|aU 3<|?_
 have bY:=aK cn eO
 have eP:=aj.old R bY
 have nH:=aj.take_le eP (fun x hx=>by cases hx) (dJ (k:=1) (d:=0))
 have nI:=dW (k:=1) (show 0=0∨0=1 by decide) eP (bO (show 1=0∨1=1∨1=2 by decide)) (fun x hx=>by cases hx) (dJ (k:=1) (d:=0))
 have nJ:([] : List Int).length=0:=rfl
 refine aG (args:=#[vP ah 0,.agg #[nS,.bool true]])<|(cU (a:=1) (c:=(to_%3)) (K:=Es1) (dJ (k:=1) (d:=0)) (dt _) (show 0=0∨0=1 by decide) (bO (show 1=0∨1=1∨1=2 by decide)) (ap.mk (ub bY (ap.cell a0)) (ub bY (ap.cT a0)) (ub bY (ap.cF a0)) (ub bY (ap.cN a0)) (be (by decide) _)) eP (aT.nil true _ _ _ _) (fun hn=>absurd hn (Nat.lt_irrefl 0)) (fun hn=>absurd hn (Nat.lt_irrefl 0)) (by omega) (by omega)).mono ?_
 rintro _ nK ⟨nL,k2,k3,k4,rfl,gM,k5,dN,k6,nM,eQ⟩
 refine⟨_,rfl,?_⟩
 rw[kj] at gM
 have k7:=gM
 obtain⟨nN,nO,rfl,nP,nQ⟩:=aT.shape k7.rd
 have k8:=cV dM (dA (ak (aj.row r) bY (fun x hx=>av) (fun _ _ h=>h))) k6
 refine al 1<|sq<|aB 2<|c1<|sq<|aA 3<|nl<|tn<|c0<|bM<|xt<|tx<|bx<|tn<|go<|Pl 1<|bD ((k:Int)+1)<|Pl 1<|nl<|?_
 have cS:=ut (ay.mono (S':=(ah :: (bW :: (bV :: (ob Ah1++[]))))) bY aC) eQ (ac im (ac im (ac im (ai il aC))))
 exact fD ((k+1),(Es1++[]),k2,k3,k4,Es2,Ah2,ch2,n2) ⟨(ut gL (ut (ay.mono (S':=(ah :: (bW :: (bV :: (ob Ah1++[]))))) eO aC) eQ (ac im (ac im (ac im (ai il aC))))) (ac (ni b.size gz) (ac (ni b.size gB) (ac (ni b.size gA) (ai (aX (aj.row R) b.size) aC))))),(le (le (le (le (le (le ba V.size) am.size) an.size) ax.size) eO.size) eQ.size),k5,(ap.mk (ap.cell dN) (ap.cT dN) (ap.cF dN) (ap.cN dN) (be (by decide) _)),(aj.upd r cS (aa (Ne.symm (nb (ag (ap.cell i)) lr cj)) (aa (Ne.symm (nb (ag (ap.cN i)) lr cj)) (aa (Ne.symm (nb (aj.glt B) lr cj)) (aq (eh (aj.cells r) (aj.row R) (by decide)) av)))) (aa (Ne.symm (nb (ag (ap.cell i)) lr b7)) (aa (Ne.symm (nb (ag (ap.cN i)) lr b7)) (aa (Ne.symm (nb (aj.glt B) lr b7)) (aq (aj.gx r (aj.row R) (by decide)) av)))) (fun x hx=>(aa (fun e=>(az (ag (ap.cell i)) lr (aj.row r)) (e▸hx)) (aa (fun e=>(az (ag (ap.cN i)) lr (aj.row r)) (e▸hx)) (aa (fun e=>(az (aj.glt B) lr (aj.row r)) (e▸hx)) (aq ((cJ dM) x hx) av)))))),(ap.mk (ay.blk cS (aa (Ne.symm (nb (ag (ap.cell i)) lr b6)) (aa (Ne.symm (nb (ag (ap.cN i)) lr b6)) (aa (Ne.symm (nb (aj.glt B) lr b6)) (aq (aJ (ap.cell L) (aj.row R) (by decide)) av)))) (ap.cell L)) (ay.blk cS (aa (Ne.symm (nb (ag (ap.cell i)) lr ck)) (aa (Ne.symm (nb (ag (ap.cN i)) lr ck)) (aa (Ne.symm (nb (aj.glt B) lr ck)) (aq (aJ (ap.cT L) (aj.row R) (by decide)) av)))) (ap.cT L)) (ay.blk cS (aa (Ne.symm (nb (ag (ap.cell i)) lr cl)) (aa (Ne.symm (nb (ag (ap.cN i)) lr cl)) (aa (Ne.symm (nb (aj.glt B) lr cl)) (aq (aJ (ap.cF L) (aj.row R) (by decide)) av)))) (ap.cF L)) (ay.blk cS (aa (Ne.symm (nb (ag (ap.cell i)) lr b8)) (aa (Ne.symm (nb (ag (ap.cN i)) lr b8)) (aa (Ne.symm (nb (aj.glt B) lr b8)) (aq (aJ (ap.cN L) (aj.row R) (by decide)) av)))) (ap.cN L)) (be (by decide) _)),k8,(by(try dsimp only);omega),(by(try dsimp only);(try simp only[co]);omega),(by(try dsimp only);(try simp only[co]);omega),(by(try dsimp only);exact jS eI),eJ⟩ (by omega)
 have nR:=lL (eN.rngs).1 bs
 obtain⟨cp,cW⟩:=oY (a:=1) (c:=(to_%3)) (t':=0) (gn 1 (to_%3) 0 (au Es1).length) (dt _) bs
 have eR:=j0 (a:=1) (c:=(to_%3)) (was:=0) (be (a:=1) (c:=(to_%3)) (next:=0) (by decide) (au Es1).length) (by decide)
 have nT:=j7 cW
 refine aG<|e2 (fm eN (bA bq) (by omega) (by omega) bs) fun nU nV k9 dO=>?_
 obtain⟨gO,gP,rfl,dP,bb⟩:=iq.shape k9
 refine Pl 5<|aU 3<|?_
 have bE:=aK cn dO
 have eT:=aj.old R bE
 have nW:=aj.take_le eT (aW.range dP) (show XS.take (XS.zero 1 0) aD true=((XS.zero 1 0),[Ev.mk 0 ⟨(fs.getD k aM.zero).unit,0,(fs.getD k aM.zero).msg⟩]) from bu (k:=1) (show 0=0∨0=1 by decide) M.2.1 (by decide) (M.1).rngs (fun l hz=>bH M.1 (bA bq) l hz) bs)
 have nX:=dW (k:=1) (show 0=0∨0=1 by decide) eT (bO (show 1=0∨1=1∨1=2 by decide)) (aW.range dP) (show XS.take (XS.zero 1 0) aD true=((XS.zero 1 0),[Ev.mk 0 ⟨(fs.getD k aM.zero).unit,0,(fs.getD k aM.zero).msg⟩]) from bu (k:=1) (show 0=0∨0=1 by decide) M.2.1 (by decide) (M.1).rngs (fun l hz=>bH M.1 (bA bq) l hz) bs)
 refine aG (args:=#[vP ah 0,.agg #[.slice gO aD.length gP,.bool true]])<|(cU (a:=1) (c:=(to_%3)) (K:=Es1) (show XS.take (XS.zero 1 0) aD true=((XS.zero 1 0),[Ev.mk 0 ⟨(fs.getD k aM.zero).unit,0,(fs.getD k aM.zero).msg⟩]) from bu (k:=1) (show 0=0∨0=1 by decide) M.2.1 (by decide) (M.1).rngs (fun l hz=>bH M.1 (bA bq) l hz) bs) (dt _) (show 0=0∨0=1 by decide) (bO (show 1=0∨1=1∨1=2 by decide)) (ap.mk (ub bE (ap.cell a0)) (ub bE (ap.cT a0)) (ub bE (ap.cF a0)) (ub bE (ap.cN a0)) (be (by decide) _)) eT dP (fun _=>dq bb (Nat.lt_of_lt_of_le (aj.glt B) (le (le (le (le (le b9.size ba) V.size) am.size) an.size) ax.size))) (jN bb (aj.row R) cn.size) (by omega) (by omega)).mono ?_
 rintro _ nY ⟨nZ,ka,kc,ke,rfl,gQ,cX,dQ,kf,o0,eU⟩
 refine⟨_,rfl,?_⟩
 rw[(fj cW)] at gQ
 have gR:=gQ
 obtain⟨o1,o2,rfl,o3,o4⟩:=aT.shape gR.rd
 have gS:=cV dM (dA (ak (aj.row r) bE (fun x hx=>av) (fun _ _ h=>h))) kf
 refine al 1<|sq<|aB 2<|c0<|bM<|sq<|sq<|go<|al 3<|c0<|bM<|aA 2<|j5 (iD.elt (iS.rdh gR) 0 (by exact Nat.zero_lt_one)) fun kg kh gT gU ki kk cY o5 o6=>L0<|lW 1 0 ki (by omega)<|L0<|jO (p:=⟨kg,kh+0,none⟩) (v:=.slice gT (([cp].getD 0 []).length) gU) kk<|Pl 1<|?_
 have cZ:=ut (ay.mono (S':=(ah :: (bW :: (bV :: (ob Ah1++[]))))) bE aC) eU (ac im (ac im (ac im (ai il aC))))
 have gV:=nb (aj.glt B) lr b7
 have gW:=nb (ag (ap.cN i)) lr b7
 have gX:=nb (ag (ap.cell i)) lr b7
 have dS:=aj.upd r cZ (aa (Ne.symm (nb (ag (ap.cell i)) lr cj)) (aa (Ne.symm (nb (ag (ap.cN i)) lr cj)) (aa (Ne.symm (nb (aj.glt B) lr cj)) (aq (eh (aj.cells r) (aj.row R) (by decide)) av)))) (aa (Ne.symm gX) (aa (Ne.symm gW) (aa (Ne.symm gV) (aq (aj.gx r (aj.row R) (by decide)) av)))) (fun x hx=>(aa (fun e=>(az (ag (ap.cell i)) lr (aj.row r)) (e▸hx)) (aa (fun e=>(az (ag (ap.cN i)) lr (aj.row r)) (e▸hx)) (aa (fun e=>(az (aj.glt B) lr (aj.row r)) (e▸hx)) (aq ((cJ dM) x hx) av)))))
 have gY:=nb (aj.glt B) lr b6
 have gZ:=nb (ag (ap.cN i)) lr b6
 have h0:=nb (ag (ap.cell i)) lr b6
 have h1:=ay.blk cZ (aa (Ne.symm h0) (aa (Ne.symm gZ) (aa (Ne.symm gY) (aq (aJ (ap.cell L) (aj.row R) (by decide)) av)))) (ap.cell L)
 have h2:=nb (aj.glt B) lr b8
 have h3:=nb (ag (ap.cN i)) lr b8
 have h4:=nb (ag (ap.cell i)) lr b8
 have h5:=ay.blk cZ (aa (Ne.symm h4) (aa (Ne.symm h3) (aa (Ne.symm h2) (aq (aJ (ap.cN L) (aj.row R) (by decide)) av)))) (ap.cN L)
 have o7:=aj.take_le dS (aW.range cY) (show XS.take (XS.zero (to_%3) 0) ([cp].getD 0 []) true=((XS.zero (to_%3) 0),[Ev.mk 0 ⟨(fs.getD k aM.zero).unit,(dR 1 (to_%3) (gn 1 (to_%3) 0 (au Es1).length) 0),(fs.getD k aM.zero).msg⟩]) from bu (k:=(to_%3)) (show 0=0∨0=1 by decide) M.2.1 eR (M.1).rngs (fun l hz=>bH M.1 (bA bq) l hz) cW)
 have o8:=dW (k:=(to_%3)) (show 0=0∨0=1 by decide) dS (bO (dt _)) (aW.range cY) (show XS.take (XS.zero (to_%3) 0) ([cp].getD 0 []) true=((XS.zero (to_%3) 0),[Ev.mk 0 ⟨(fs.getD k aM.zero).unit,(dR 1 (to_%3) (gn 1 (to_%3) 0 (au Es1).length) 0),(fs.getD k aM.zero).msg⟩]) from bu (k:=(to_%3)) (show 0=0∨0=1 by decide) M.2.1 eR (M.1).rngs (fun l hz=>bH M.1 (bA bq) l hz) cW)
 refine aG (args:=#[vP bX 0,.agg #[.slice gT (([cp].getD 0 []).length) gU,.bool true]])<|(cU (a:=(to_%3)) (c:=1) (K:=Es2) (show XS.take (XS.zero (to_%3) 0) ([cp].getD 0 []) true=((XS.zero (to_%3) 0),[Ev.mk 0 ⟨(fs.getD k aM.zero).unit,(dR 1 (to_%3) (gn 1 (to_%3) 0 (au Es1).length) 0),(fs.getD k aM.zero).msg⟩]) from bu (k:=(to_%3)) (show 0=0∨0=1 by decide) M.2.1 eR (M.1).rngs (fun l hz=>bH M.1 (bA bq) l hz) cW) (show 1=0∨1=1∨1=2 by decide) (show 0=0∨0=1 by decide) (bO (dt _)) (ap.mk h1 (ay.blk cZ (aa (Ne.symm (nb (ag (ap.cell i)) lr ck)) (aa (Ne.symm (nb (ag (ap.cN i)) lr ck)) (aa (Ne.symm (nb (aj.glt B) lr ck)) (aq (aJ (ap.cT L) (aj.row R) (by decide)) av)))) (ap.cT L)) (ay.blk cZ (aa (Ne.symm (nb (ag (ap.cell i)) lr cl)) (aa (Ne.symm (nb (ag (ap.cN i)) lr cl)) (aa (Ne.symm (nb (aj.glt B) lr cl)) (aq (aJ (ap.cF L) (aj.row R) (by decide)) av)))) (ap.cF L)) h5 (be (by decide) _)) dS cY (u6 cY (aj.glt eH) (le (le (le (le (le ba V.size) am.size) an.size) ax.size) dO.size)) (oI cY (aj.row r) bE.size) (by show cp.length≤100000;omega) (by omega)).mono ?_
 rintro _ o9 ⟨oa,kl,km,kn,rfl,h6,kp,dT,kq,oc,eV⟩
 refine⟨_,rfl,?_⟩
 rw[(fj (by rw[kX (by decide)];exact bs))] at h6
 have h7:=h6
 obtain⟨od,oe,rfl,of,og⟩:=aT.shape h7.rd
 have ks:=cV (cJ gS) (dA (aj.row cX)) kq
 refine al 1<|sq<|aB 3<|c0<|bM<|aA 1<|j5 (iD.elt (iS.rdh h7) 0 (by exact Nat.zero_lt_one)) fun kt ku h8 h9 kv kx ky oh oi=>L0<|lW 1 0 kv (by omega)<|L0<|jO (p:=⟨kt,ku+0,none⟩) (v:=.slice h8 (([aD].getD 0 []).length) h9) kx<|Pl 1<|?_
 have ha:=ut (ay.mono (S':=(ah :: (bW :: (bV :: (ob Ah1++(bX :: (dH :: (dG :: (ob Ah2++[]))))))))) eU (ac im (ac im (ac im (ai il aC))))) eV (ac im (ac im (ac im (ai il aC))))
 refine aG (args:=#[.slice h8 (([aD].getD 0 []).length) h9,.slice gO aD.length gP])<|m1 (jh (xs:=([aD].getD 0 [])) (ys:=aD) ky (aT.stay dP ha (fun x hx=>(aa (dq bb (Nat.lt_of_lt_of_le (ag (ap.cell i)) (le (le (le (le (le b9.size ba) V.size) am.size) an.size) ax.size)) x hx) (aa (dq bb (Nat.lt_of_lt_of_le (ag (ap.cN i)) (le (le (le (le (le b9.size ba) V.size) am.size) an.size) ax.size)) x hx) (aa (dq bb (Nat.lt_of_lt_of_le (aj.glt B) (le (le (le (le (le b9.size ba) V.size) am.size) an.size) ax.size)) x hx) (aq (iQ bb (fun y hy=>Nat.lt_of_lt_of_le (dA (aj.row R) y hy) cn.size) x hx) (aa (dq bb (Nat.lt_of_lt_of_le (ag (ap.cell cm)) (le (le (le (le ba V.size) am.size) an.size) ax.size)) x hx) (aa (dq bb (Nat.lt_of_lt_of_le (ag (ap.cN cm)) (le (le (le (le ba V.size) am.size) an.size) ax.size)) x hx) (aa (dq bb (Nat.lt_of_lt_of_le (aj.glt eH) (le (le (le (le ba V.size) am.size) an.size) ax.size)) x hx) (aq (iQ bb (fun y hy=>Nat.lt_of_lt_of_le (dA (aj.row r) y hy) cn.size) x hx) av))))))))) (fun _ _ q=>q))) fun oj bF=>al 1<|cf (show(!(decide (([aD].getD 0 [])=aD)))=false by simp)<|sk<|bn<|tn<|go<|Pl 1<|bD ((k:Int)+1)<|Pl 1<|nl<|?_
 have d0:=aK eV bF
 exact fD ((k+1),(Es1++[Ev.mk 0 ⟨(fs.getD k aM.zero).unit,0,(fs.getD k aM.zero).msg⟩]),ka,kc,ke,(Es2++[Ev.mk 0 ⟨(fs.getD k aM.zero).unit,(dR 1 (to_%3) (gn 1 (to_%3) 0 (au Es1).length) 0),(fs.getD k aM.zero).msg⟩]),kl,km,kn) ⟨(ut gL (ut (ay.mono (S':=(ah :: (bW :: (bV :: (ob Ah1++(bX :: (dH :: (dG :: (ob Ah2++[]))))))))) dO aC) (aK ha bF) (ac im (ac im (ac im (ai il (ac im (ac im (ac im (ai il aC))))))))) (ac (ni b.size gz) (ac (ni b.size gB) (ac (ni b.size gA) (ai (aX (aj.row R) b.size) (ac (ni (le b.size cR.size) b6) (ac (ni (le b.size cR.size) b8) (ac (ni (le b.size cR.size) b7) (ai (aX (aj.row r) (le b.size cR.size)) aC))))))))),(le (le (le (le (le (le (le (le ba V.size) am.size) an.size) ax.size) dO.size) eU.size) eV.size) bF.size),(aj.upd cX d0 (aa (nb (aj.lt B) lr b6) (aa (nb (aj.lt B) lr b8) (aa (nb (aj.lt B) lr b7) (aq (az (aj.lt B) lr (aj.row r)) av)))) (aa gY (aa h2 (aa gV (aq (az (aj.glt B) lr (aj.row r)) av)))) (fun x hx=>(aa (fun e=>(aJ h1 (aj.row cX) (by decide)) (e▸hx)) (aa (fun e=>(aJ h5 (aj.row cX) (by decide)) (e▸hx)) (aa (fun e=>(aj.gx dS (aj.row cX) (by decide)) (e▸hx)) (aq (gS x hx) av)))))),(ap.mk (ay.blk d0 (aa h0 (aa h4 (aa gX (aq (az (ag (ap.cell i)) lr (aj.row r)) av)))) (ap.cell dQ)) (ay.blk d0 (aa (nb (ag (ap.cT i)) lr b6) (aa (nb (ag (ap.cT i)) lr b8) (aa (nb (ag (ap.cT i)) lr b7) (aq (az (ag (ap.cT i)) lr (aj.row r)) av)))) (ap.cT dQ)) (ay.blk d0 (aa (nb (ag (ap.cF i)) lr b6) (aa (nb (ag (ap.cF i)) lr b8) (aa (nb (ag (ap.cF i)) lr b7) (aq (az (ag (ap.cF i)) lr (aj.row r)) av)))) (ap.cF dQ)) (ay.blk d0 (aa gZ (aa h3 (aa gW (aq (az (ag (ap.cN i)) lr (aj.row r)) av)))) (ap.cN dQ)) (be (by decide) _)),(aj.old kp bF),(ap.mk (ub bF (ap.cell dT)) (ub bF (ap.cT dT)) (ub bF (ap.cF dT)) (ub bF (ap.cN dT)) (be (by decide) _)),(cJ ks),(by(try dsimp only);omega),(by(try dsimp only);(try simp only[co]);omega),(by(try dsimp only);(try simp only[co]);omega),(by(try dsimp only);exact fi eI),(by(try dsimp only);exact fi eJ)⟩ (by omega)
 have jV:=of_decide_eq_false eK
 refine xt<|tx<|tx<|bx<|tn<|aA 3<|L1<|Oc<|m1 (eB (ap.mk (ap.cell a0) (ap.cT a0) (ap.cF a0) (ap.cN a0) (be (by decide) _))) fun ol d1=>Pl 1<|?_
 refine L1<|Oc<|m1 (eB (ap.mk (ub d1 (ap.cell L)) (ub d1 (ap.cT L)) (ub d1 (ap.cF L)) (ub d1 (ap.cN L)) (be (by decide) _))) fun om kz=>L1<|Oi ((bo Es1)+(bo Es2))<|al 3<|rt<|rr (.bool (((bo Es1)+(bo Es2))==0))<|?_
 have hs:(((bo Es1)+(bo Es2))==0)=true:=by simp[eI,eJ]
 rw[hs]
 exact⟨rfl,(aK dL (aK d1 kz))⟩
 refine bM<|aA 1<|L0<|Oe (vB (Int.tmod to_ 3)) (vB (to_%3)) (congrArg (Value.int .u8) (Int.tmod_eq_emod_of_nonneg (by omega)))<|bD (to_%3)<|Pl 1<|aU 3<|aG (args:=#[vI 0,vI (to_%3),vI 0])<|(eM (a:=0) (c:=(to_%3)) (d:=0) (show 0=0∨0=1∨0=2 by decide) (dt _) (show 0=0∨0=1 by decide)).mono ?_
 rintro _ eW ⟨aE,dU,bZ,hb,hc,c2,rfl,hd,oo,he,hf,op,oq,D,j,d2⟩
 refine⟨_,rfl,?_⟩
 refine Pl 1<|aU 3<|aG (args:=#[vI (to_%3),vI 0,vI 0])<|(eM (a:=(to_%3)) (c:=0) (d:=0) (dt _) (show 0=0∨0=1∨0=2 by decide) (show 0=0∨0=1 by decide)).mono ?_
 rintro _ kA ⟨c3,dV,dX,hg,hh,dY,rfl,bc,cq,bd,bf,cr,cs,eX,ct,bg⟩
 refine⟨_,rfl,?_⟩
 refine al 1<|sq<|aB 6<|c0<|bM<|sq<|sq<|go<|al 1<|bk<|?_
 refine jZ (fun x=>[(3,.slice F fs.length cpF),(9,.bool true),(10,vI 0),(11,vI 0),(13,vP aE 0),(14,vP c3 0),(15,vI (x.1:Int))]) (fun(x:Nat × List Ev × Option Addr × Nat × Nat × List Ev × Option Addr × Nat × Nat) w'=>ay [] w w'∧kA.heap.size≤w'.heap.size∧aj x.2.2.2.2.1 X.heap.size w' dU bZ x.2.2.1 x.2.2.2.1 (XS.zero 0 0)∧gN w' aE dU hb hc c2 0 (to_%3) 0 x.2.1∧aj x.2.2.2.2.2.2.2.2 eW.heap.size w' dV dX x.2.2.2.2.2.2.1 x.2.2.2.2.2.2.2.1 (XS.zero (to_%3) 0)∧gN w' c3 dV hg hh dY (to_%3) 0 0 x.2.2.2.2.2.1∧(∀ y,y∈ob x.2.2.1→y∉ob x.2.2.2.2.2.2.1)∧(x.1≤fs.length)∧(x.2.1.length≤x.1)∧(x.2.2.2.2.2.1.length≤x.1)∧(bo x.2.1=0)∧(bo x.2.2.2.2.2.1=0)) (fun x=>fs.length-x.1) (0,[],none,0,X.heap.size,[],none,0,eW.heap.size) ⟨(aK b (aK d2 bg)),lr,(aj.old D bg),(ap.mk (ub bg (ap.cell j)) (ub bg (ap.cT j)) (ub bg (ap.cF j)) (ub bg (ap.cN j)) (be (by decide) _)),eX,(ap.mk (ap.cell ct) (ap.cT ct) (ap.cF ct) (ap.cN ct) (be (by decide) _)),(fun x hx=>absurd hx (iN x)),(by(try dsimp only);omega),(by(try dsimp only);exact Nat.zero_le _),(by(try dsimp only);exact Nat.zero_le _),rfl,rfl⟩ ?_
 rintro⟨k,Es1,Ah1,ch1,n1,Es2,Ah2,ch2,n2⟩ dZ ⟨e0,bh,kB,kC,kD,kE,kF,kG,kH,kI,kJ,kK⟩
 refine iW [(3,.slice F fs.length cpF),(9,.bool true),(10,vI 0),(11,vI 0),(13,vP aE 0),(14,vP c3 0),(15,vI (k:Int))] ?_
 have S:aj n1 X.heap.size dZ dU bZ Ah1 ch1 (XS.zero 0 0):=kB
 have a1:gN dZ aE dU hb hc c2 0 (to_%3) 0 Es1:=kC
 have s:aj n2 eW.heap.size dZ dV dX Ah2 ch2 (XS.zero (to_%3) 0):=kD
 have N:gN dZ c3 dV hg hh dY (to_%3) 0 0 Es2:=kE
 have e1:(∀ y,y∈ob Ah1→y∉ob Ah2):=kF
 have os:k≤fs.length:=kG
 have ot:Es1.length≤k:=kH
 have ou:Es2.length≤k:=kI
 have eY:bo Es1=0:=kJ
 have eZ:bo Es2=0:=kK
 refine sq<|aB 4<|cb ((decide ((k:Int)<(fs.length:Int)))) (fun f0=>?_) (fun f0=>?_)
 have kL:=of_decide_eq_true f0
 refine bM<|sq<|bk<|aA 2<|CV (um.elt hF k (by omega) aM.zero) fun ov ow ox oy oz E hi kM O hj=>?_
 have oA:=O.2
 refine L0<|jC 24 fs.length k hi (by omega)<|Pl 1<|?_
 have hk:=ub e0 kM
 refine L0<|wb [vB ((fs.getD k aM.zero).msg.code),vB ((fs.getD k aM.zero).msg.fail),vW ((fs.getD k aM.zero).msg.addr),vW ((fs.getD k aM.zero).msg.count),vW ((fs.getD k aM.zero).msg.value),vW ((fs.getD k aM.zero).msg.and_),vW ((fs.getD k aM.zero).msg.or_),vW ((fs.getD k aM.zero).msg.addr2),vW ((fs.getD k aM.zero).msg.sub),vW ((fs.getD k aM.zero).msg.status),vW ((fs.getD k aM.zero).msg.events),vW ((fs.getD k aM.zero).msg.messages),.slice E.aw ((fs.getD k aM.zero).msg.words.length) E.kw,.slice E.ab ((fs.getD k aM.zero).msg.bits.length) E.kb,.slice E.ad ((fs.getD k aM.zero).msg.data.length) E.kd,.slice E.ar ((fs.getD k aM.zero).msg.recs.length) E.kr,vB ((fs.getD k aM.zero).msg.mei),vB ((fs.getD k aM.zero).msg.kind),vB ((fs.getD k aM.zero).msg.level),vB ((fs.getD k aM.zero).msg.more),vB ((fs.getD k aM.zero).msg.next),.slice E.ao ((fs.getD k aM.zero).msg.objects.length) E.ko] hk (oX (k:=2) (m:=22) hj (by kernel_rfl) (by decide))<|?_
 have hl:=aH.old (O.1) e0
 refine aG<|m1 (lT hl) fun oB W=>al 1<|sq<|aB 2<|?_
 have hm:=aK e0 W
 refine cb ((!(eS (fs.getD k aM.zero).msg))) (fun f1=>?_) (fun f1=>?_)
 have bt:(eS (fs.getD k aM.zero).msg)=false:=by simpa using f1
 exact aB 2<|bQ<|br<|tr<|tr<|br<|tr<|rr (.bool true)<|⟨rfl,hm⟩
 have bt:(eS (fs.getD k aM.zero).msg)=true:=by simpa using f1
 refine bM<|aA 2<|L0<|jC 24 fs.length k hi (by omega)<|?_
 refine L0<|wb [vB ((fs.getD k aM.zero).unit),vW ((fs.getD k aM.zero).tid),vB ((fs.getD k aM.zero).msg.code),vB ((fs.getD k aM.zero).msg.fail),vW ((fs.getD k aM.zero).msg.addr),vW ((fs.getD k aM.zero).msg.count),vW ((fs.getD k aM.zero).msg.value),vW ((fs.getD k aM.zero).msg.and_),vW ((fs.getD k aM.zero).msg.or_),vW ((fs.getD k aM.zero).msg.addr2),vW ((fs.getD k aM.zero).msg.sub),vW ((fs.getD k aM.zero).msg.status),vW ((fs.getD k aM.zero).msg.events),vW ((fs.getD k aM.zero).msg.messages),.slice E.aw ((fs.getD k aM.zero).msg.words.length) E.kw,.slice E.ab ((fs.getD k aM.zero).msg.bits.length) E.kb,.slice E.ad ((fs.getD k aM.zero).msg.data.length) E.kd,.slice E.ar ((fs.getD k aM.zero).msg.recs.length) E.kr,vB ((fs.getD k aM.zero).msg.mei),vB ((fs.getD k aM.zero).msg.kind),vB ((fs.getD k aM.zero).msg.level),vB ((fs.getD k aM.zero).msg.more),vB ((fs.getD k aM.zero).msg.next),.slice E.ao ((fs.getD k aM.zero).msg.objects.length) E.ko] (ub W hk) hj<|aO rU fun oC oD kN kO aF=>aN kO (eo ((fs.getD k aM.zero).unit) ((fs.getD k aM.zero).tid) ((fs.getD k aM.zero).msg) E) fun oE kP aI=>aU 2<|L0<|cA kP 1 (eo ((fs.getD k aM.zero).unit) 0 ((fs.getD k aM.zero).msg) E) fun oF kQ aL=>aU 2<|L0<|cM kQ<|?_
 have ho:=ud aF (u1 aI aL im) kN
 have cu:=aK W ho
 have f2:=aH.old hl cu
 have hp:=aK hm ho
 refine wo (gf 0 0 ((fs.getD k aM.zero).unit) 0 ((fs.getD k aM.zero).msg)) (fun bv=>?_) (fun aP bv=>?_)
 refine aG<|m1 (gH f2 (bA bt) (by omega) (by omega) bv) fun oG f3=>Pl 5<|aU 3<|?_
 have c4:=aK cu f3
 have f4:=aj.old S c4
 have oH:=aj.take_le f4 (fun x hx=>by cases hx) (dJ (k:=0) (d:=0))
 have oJ:=dW (k:=0) (show 0=0∨0=1 by decide) f4 (bO (show 0=0∨0=1∨0=2 by decide)) (fun x hx=>by cases hx) (dJ (k:=0) (d:=0))
 have oK:([] : List Int).length=0:=rfl
 refine aG (args:=#[vP aE 0,.agg #[nS,.bool true]])<|(cU (a:=0) (c:=(to_%3)) (K:=Es1) (dJ (k:=0) (d:=0)) (dt _) (show 0=0∨0=1 by decide) (bO (show 0=0∨0=1∨0=2 by decide)) (ap.mk (ub c4 (ap.cell a1)) (ub c4 (ap.cT a1)) (ub c4 (ap.cF a1)) (ub c4 (ap.cN a1)) (be (by decide) _)) f4 (aT.nil true _ _ _ _) (fun hn=>absurd hn (Nat.lt_irrefl 0)) (fun hn=>absurd hn (Nat.lt_irrefl 0)) (by omega) (by omega)).mono ?_
 rintro _ oL ⟨oM,kR,kS,kT,rfl,hq,kU,e3,kV,oN,f5⟩
 refine⟨_,rfl,?_⟩
 rw[kj] at hq
 have kW:=hq
 obtain⟨oO,oP,rfl,oQ,oR⟩:=aT.shape kW.rd
 have kY:=cV e1 (dA (ak (aj.row s) c4 (fun x hx=>av) (fun _ _ h=>h))) kV
 refine al 1<|sq<|aB 2<|c1<|sq<|aA 3<|nl<|tn<|c0<|bM<|xt<|tx<|bx<|tn<|go<|Pl 1<|bD ((k:Int)+1)<|Pl 1<|nl<|?_
 have d3:=ut (ay.mono (S':=(aE :: (c2 :: (bZ :: (ob Ah1++[]))))) c4 aC) f5 (ac im (ac im (ac im (ai il aC))))
 exact fD ((k+1),(Es1++[]),kR,kS,kT,Es2,Ah2,ch2,n2) ⟨(ut hp (ut (ay.mono (S':=(aE :: (c2 :: (bZ :: (ob Ah1++[]))))) f3 aC) f5 (ac im (ac im (ac im (ai il aC))))) (ac (ni b.size hd) (ac (ni b.size hf) (ac (ni b.size he) (ai (aX (aj.row S) b.size) aC))))),(le (le (le (le (le (le bh W.size) aF.size) aI.size) aL.size) f3.size) f5.size),kU,(ap.mk (ap.cell e3) (ap.cT e3) (ap.cF e3) (ap.cN e3) (be (by decide) _)),(aj.upd s d3 (aa (Ne.symm (nb (ag (ap.cell j)) lr cq)) (aa (Ne.symm (nb (ag (ap.cN j)) lr cq)) (aa (Ne.symm (nb (aj.glt D) lr cq)) (aq (eh (aj.cells s) (aj.row S) (by decide)) av)))) (aa (Ne.symm (nb (ag (ap.cell j)) lr bd)) (aa (Ne.symm (nb (ag (ap.cN j)) lr bd)) (aa (Ne.symm (nb (aj.glt D) lr bd)) (aq (aj.gx s (aj.row S) (by decide)) av)))) (fun x hx=>(aa (fun e=>(az (ag (ap.cell j)) lr (aj.row s)) (e▸hx)) (aa (fun e=>(az (ag (ap.cN j)) lr (aj.row s)) (e▸hx)) (aa (fun e=>(az (aj.glt D) lr (aj.row s)) (e▸hx)) (aq ((cJ e1) x hx) av)))))),(ap.mk (ay.blk d3 (aa (Ne.symm (nb (ag (ap.cell j)) lr bc)) (aa (Ne.symm (nb (ag (ap.cN j)) lr bc)) (aa (Ne.symm (nb (aj.glt D) lr bc)) (aq (aJ (ap.cell N) (aj.row S) (by decide)) av)))) (ap.cell N)) (ay.blk d3 (aa (Ne.symm (nb (ag (ap.cell j)) lr cr)) (aa (Ne.symm (nb (ag (ap.cN j)) lr cr)) (aa (Ne.symm (nb (aj.glt D) lr cr)) (aq (aJ (ap.cT N) (aj.row S) (by decide)) av)))) (ap.cT N)) (ay.blk d3 (aa (Ne.symm (nb (ag (ap.cell j)) lr cs)) (aa (Ne.symm (nb (ag (ap.cN j)) lr cs)) (aa (Ne.symm (nb (aj.glt D) lr cs)) (aq (aJ (ap.cF N) (aj.row S) (by decide)) av)))) (ap.cF N)) (ay.blk d3 (aa (Ne.symm (nb (ag (ap.cell j)) lr bf)) (aa (Ne.symm (nb (ag (ap.cN j)) lr bf)) (aa (Ne.symm (nb (aj.glt D) lr bf)) (aq (aJ (ap.cN N) (aj.row S) (by decide)) av)))) (ap.cN N)) (be (by decide) _)),kY,(by(try dsimp only);omega),(by(try dsimp only);(try simp only[co]);omega),(by(try dsimp only);(try simp only[co]);omega),(by(try dsimp only);exact jS eY),eZ⟩ (by omega)
 have oS:=lL (f2.rngs).1 bv
 obtain⟨cv,d4⟩:=oY (a:=0) (c:=(to_%3)) (t':=0) (gn 0 (to_%3) 0 (au Es1).length) (dt _) bv
 have f6:=j0 (a:=0) (c:=(to_%3)) (was:=0) (be (a:=0) (c:=(to_%3)) (next:=0) (by decide) (au Es1).length) (by decide)
 have oT:=j7 d4
 refine aG<|e2 (fm f2 (bA bt) (by omega) (by omega) bv) fun oU oV kZ e4=>?_
 obtain⟨hr,ht,rfl,e5,bi⟩:=iq.shape kZ
 refine Pl 5<|aU 3<|?_
 have bG:=aK cu e4
 have f7:=aj.old S bG
 have oW:=aj.take_le f7 (aW.range e5) (show XS.take (XS.zero 0 0) aP true=((XS.zero 0 0),[Ev.mk 0 ⟨(fs.getD k aM.zero).unit,0,(fs.getD k aM.zero).msg⟩]) from bu (k:=0) (show 0=0∨0=1 by decide) O.2.1 (by decide) (O.1).rngs (fun l hz=>bH O.1 (bA bt) l hz) bv)
 have oZ:=dW (k:=0) (show 0=0∨0=1 by decide) f7 (bO (show 0=0∨0=1∨0=2 by decide)) (aW.range e5) (show XS.take (XS.zero 0 0) aP true=((XS.zero 0 0),[Ev.mk 0 ⟨(fs.getD k aM.zero).unit,0,(fs.getD k aM.zero).msg⟩]) from bu (k:=0) (show 0=0∨0=1 by decide) O.2.1 (by decide) (O.1).rngs (fun l hz=>bH O.1 (bA bt) l hz) bv)
 refine aG (args:=#[vP aE 0,.agg #[.slice hr aP.length ht,.bool true]])<|(cU (a:=0) (c:=(to_%3)) (K:=Es1) (show XS.take (XS.zero 0 0) aP true=((XS.zero 0 0),[Ev.mk 0 ⟨(fs.getD k aM.zero).unit,0,(fs.getD k aM.zero).msg⟩]) from bu (k:=0) (show 0=0∨0=1 by decide) O.2.1 (by decide) (O.1).rngs (fun l hz=>bH O.1 (bA bt) l hz) bv) (dt _) (show 0=0∨0=1 by decide) (bO (show 0=0∨0=1∨0=2 by decide)) (ap.mk (ub bG (ap.cell a1)) (ub bG (ap.cT a1)) (ub bG (ap.cF a1)) (ub bG (ap.cN a1)) (be (by decide) _)) f7 e5 (fun _=>dq bi (Nat.lt_of_lt_of_le (aj.glt D) (le (le (le (le (le bg.size bh) W.size) aF.size) aI.size) aL.size))) (jN bi (aj.row S) cu.size) (by omega) (by omega)).mono ?_
 rintro _ p0 ⟨p1,l0,l1,l2,rfl,hu,d5,e6,l3,p2,f8⟩
 refine⟨_,rfl,?_⟩
 rw[(fj d4)] at hu
 have hv:=hu
 obtain⟨p3,p4,rfl,p5,p6⟩:=aT.shape hv.rd
 have hw:=cV e1 (dA (ak (aj.row s) bG (fun x hx=>av) (fun _ _ h=>h))) l3
 refine al 1<|sq<|aB 2<|c0<|bM<|sq<|sq<|go<|al 3<|c0<|bM<|aA 2<|j5 (iD.elt (iS.rdh hv) 0 (by exact Nat.zero_lt_one)) fun l4 l5 hA hB l6 l7 d6 p7 p8=>L0<|lW 1 0 l6 (by omega)<|L0<|jO (p:=⟨l4,l5+0,none⟩) (v:=.slice hA (([cv].getD 0 []).length) hB) l7<|Pl 1<|?_
 have d7:=ut (ay.mono (S':=(aE :: (c2 :: (bZ :: (ob Ah1++[]))))) bG aC) f8 (ac im (ac im (ac im (ai il aC))))
 have hC:=nb (aj.glt D) lr bd
 have hD:=nb (ag (ap.cN j)) lr bd
 have hE:=nb (ag (ap.cell j)) lr bd
 have e7:=aj.upd s d7 (aa (Ne.symm (nb (ag (ap.cell j)) lr cq)) (aa (Ne.symm (nb (ag (ap.cN j)) lr cq)) (aa (Ne.symm (nb (aj.glt D) lr cq)) (aq (eh (aj.cells s) (aj.row S) (by decide)) av)))) (aa (Ne.symm hE) (aa (Ne.symm hD) (aa (Ne.symm hC) (aq (aj.gx s (aj.row S) (by decide)) av)))) (fun x hx=>(aa (fun e=>(az (ag (ap.cell j)) lr (aj.row s)) (e▸hx)) (aa (fun e=>(az (ag (ap.cN j)) lr (aj.row s)) (e▸hx)) (aa (fun e=>(az (aj.glt D) lr (aj.row s)) (e▸hx)) (aq ((cJ e1) x hx) av)))))
 have hG:=nb (aj.glt D) lr bc
 have hH:=nb (ag (ap.cN j)) lr bc
 have hI:=nb (ag (ap.cell j)) lr bc
 have hJ:=ay.blk d7 (aa (Ne.symm hI) (aa (Ne.symm hH) (aa (Ne.symm hG) (aq (aJ (ap.cell N) (aj.row S) (by decide)) av)))) (ap.cell N)
 have hK:=nb (aj.glt D) lr bf
 have hL:=nb (ag (ap.cN j)) lr bf
 have hM:=nb (ag (ap.cell j)) lr bf
 have hN:=ay.blk d7 (aa (Ne.symm hM) (aa (Ne.symm hL) (aa (Ne.symm hK) (aq (aJ (ap.cN N) (aj.row S) (by decide)) av)))) (ap.cN N)
 have p9:=aj.take_le e7 (aW.range d6) (show XS.take (XS.zero (to_%3) 0) ([cv].getD 0 []) true=((XS.zero (to_%3) 0),[Ev.mk 0 ⟨(fs.getD k aM.zero).unit,(dR 0 (to_%3) (gn 0 (to_%3) 0 (au Es1).length) 0),(fs.getD k aM.zero).msg⟩]) from bu (k:=(to_%3)) (show 0=0∨0=1 by decide) O.2.1 f6 (O.1).rngs (fun l hz=>bH O.1 (bA bt) l hz) d4)
 have pa:=dW (k:=(to_%3)) (show 0=0∨0=1 by decide) e7 (bO (dt _)) (aW.range d6) (show XS.take (XS.zero (to_%3) 0) ([cv].getD 0 []) true=((XS.zero (to_%3) 0),[Ev.mk 0 ⟨(fs.getD k aM.zero).unit,(dR 0 (to_%3) (gn 0 (to_%3) 0 (au Es1).length) 0),(fs.getD k aM.zero).msg⟩]) from bu (k:=(to_%3)) (show 0=0∨0=1 by decide) O.2.1 f6 (O.1).rngs (fun l hz=>bH O.1 (bA bt) l hz) d4)
 refine aG (args:=#[vP c3 0,.agg #[.slice hA (([cv].getD 0 []).length) hB,.bool true]])<|(cU (a:=(to_%3)) (c:=0) (K:=Es2) (show XS.take (XS.zero (to_%3) 0) ([cv].getD 0 []) true=((XS.zero (to_%3) 0),[Ev.mk 0 ⟨(fs.getD k aM.zero).unit,(dR 0 (to_%3) (gn 0 (to_%3) 0 (au Es1).length) 0),(fs.getD k aM.zero).msg⟩]) from bu (k:=(to_%3)) (show 0=0∨0=1 by decide) O.2.1 f6 (O.1).rngs (fun l hz=>bH O.1 (bA bt) l hz) d4) (show 0=0∨0=1∨0=2 by decide) (show 0=0∨0=1 by decide) (bO (dt _)) (ap.mk hJ (ay.blk d7 (aa (Ne.symm (nb (ag (ap.cell j)) lr cr)) (aa (Ne.symm (nb (ag (ap.cN j)) lr cr)) (aa (Ne.symm (nb (aj.glt D) lr cr)) (aq (aJ (ap.cT N) (aj.row S) (by decide)) av)))) (ap.cT N)) (ay.blk d7 (aa (Ne.symm (nb (ag (ap.cell j)) lr cs)) (aa (Ne.symm (nb (ag (ap.cN j)) lr cs)) (aa (Ne.symm (nb (aj.glt D) lr cs)) (aq (aJ (ap.cF N) (aj.row S) (by decide)) av)))) (ap.cF N)) hN (be (by decide) _)) e7 d6 (u6 d6 (aj.glt eX) (le (le (le (le (le bh W.size) aF.size) aI.size) aL.size) e4.size)) (oI d6 (aj.row s) bG.size) (by show cv.length≤100000;omega) (by omega)).mono ?_
 rintro _ pb ⟨pc,l8,l9,la,rfl,hO,lb,e8,lc,pd,f9⟩
 refine⟨_,rfl,?_⟩
 rw[(fj (by rw[kX (by decide)];exact bv))] at hO
 have hP:=hO
 obtain⟨pe,pf,rfl,pg,ph⟩:=aT.shape hP.rd
 have ld:=cV (cJ hw) (dA (aj.row d5)) lc
 refine al 1<|sq<|aB 3<|c0<|bM<|aA 1<|j5 (iD.elt (iS.rdh hP) 0 (by exact Nat.zero_lt_one)) fun lf lg hQ hR lh li lj pi pj=>L0<|lW 1 0 lh (by omega)<|L0<|jO (p:=⟨lf,lg+0,none⟩) (v:=.slice hQ (([aP].getD 0 []).length) hR) li<|Pl 1<|?_
 have hS:=ut (ay.mono (S':=(aE :: (c2 :: (bZ :: (ob Ah1++(c3 :: (dY :: (dX :: (ob Ah2++[]))))))))) f8 (ac im (ac im (ac im (ai il aC))))) f9 (ac im (ac im (ac im (ai il aC))))
 refine aG (args:=#[.slice hQ (([aP].getD 0 []).length) hR,.slice hr aP.length ht])<|m1 (jh (xs:=([aP].getD 0 [])) (ys:=aP) lj (aT.stay e5 hS (fun x hx=>(aa (dq bi (Nat.lt_of_lt_of_le (ag (ap.cell j)) (le (le (le (le (le bg.size bh) W.size) aF.size) aI.size) aL.size)) x hx) (aa (dq bi (Nat.lt_of_lt_of_le (ag (ap.cN j)) (le (le (le (le (le bg.size bh) W.size) aF.size) aI.size) aL.size)) x hx) (aa (dq bi (Nat.lt_of_lt_of_le (aj.glt D) (le (le (le (le (le bg.size bh) W.size) aF.size) aI.size) aL.size)) x hx) (aq (iQ bi (fun y hy=>Nat.lt_of_lt_of_le (dA (aj.row S) y hy) cu.size) x hx) (aa (dq bi (Nat.lt_of_lt_of_le (ag (ap.cell ct)) (le (le (le (le bh W.size) aF.size) aI.size) aL.size)) x hx) (aa (dq bi (Nat.lt_of_lt_of_le (ag (ap.cN ct)) (le (le (le (le bh W.size) aF.size) aI.size) aL.size)) x hx) (aa (dq bi (Nat.lt_of_lt_of_le (aj.glt eX) (le (le (le (le bh W.size) aF.size) aI.size) aL.size)) x hx) (aq (iQ bi (fun y hy=>Nat.lt_of_lt_of_le (dA (aj.row s) y hy) cu.size) x hx) av))))))))) (fun _ _ q=>q))) fun pk bI=>al 1<|cf (show(!(decide (([aP].getD 0 [])=aP)))=false by simp)<|sk<|bn<|tn<|go<|Pl 1<|bD ((k:Int)+1)<|Pl 1<|nl<|?_
 have d8:=aK f9 bI
 exact fD ((k+1),(Es1++[Ev.mk 0 ⟨(fs.getD k aM.zero).unit,0,(fs.getD k aM.zero).msg⟩]),l0,l1,l2,(Es2++[Ev.mk 0 ⟨(fs.getD k aM.zero).unit,(dR 0 (to_%3) (gn 0 (to_%3) 0 (au Es1).length) 0),(fs.getD k aM.zero).msg⟩]),l8,l9,la) ⟨(ut hp (ut (ay.mono (S':=(aE :: (c2 :: (bZ :: (ob Ah1++(c3 :: (dY :: (dX :: (ob Ah2++[]))))))))) e4 aC) (aK hS bI) (ac im (ac im (ac im (ai il (ac im (ac im (ac im (ai il aC))))))))) (ac (ni b.size hd) (ac (ni b.size hf) (ac (ni b.size he) (ai (aX (aj.row S) b.size) (ac (ni (le b.size d2.size) bc) (ac (ni (le b.size d2.size) bf) (ac (ni (le b.size d2.size) bd) (ai (aX (aj.row s) (le b.size d2.size)) aC))))))))),(le (le (le (le (le (le (le (le bh W.size) aF.size) aI.size) aL.size) e4.size) f8.size) f9.size) bI.size),(aj.upd d5 d8 (aa (nb (aj.lt D) lr bc) (aa (nb (aj.lt D) lr bf) (aa (nb (aj.lt D) lr bd) (aq (az (aj.lt D) lr (aj.row s)) av)))) (aa hG (aa hK (aa hC (aq (az (aj.glt D) lr (aj.row s)) av)))) (fun x hx=>(aa (fun e=>(aJ hJ (aj.row d5) (by decide)) (e▸hx)) (aa (fun e=>(aJ hN (aj.row d5) (by decide)) (e▸hx)) (aa (fun e=>(aj.gx e7 (aj.row d5) (by decide)) (e▸hx)) (aq (hw x hx) av)))))),(ap.mk (ay.blk d8 (aa hI (aa hM (aa hE (aq (az (ag (ap.cell j)) lr (aj.row s)) av)))) (ap.cell e6)) (ay.blk d8 (aa (nb (ag (ap.cT j)) lr bc) (aa (nb (ag (ap.cT j)) lr bf) (aa (nb (ag (ap.cT j)) lr bd) (aq (az (ag (ap.cT j)) lr (aj.row s)) av)))) (ap.cT e6)) (ay.blk d8 (aa (nb (ag (ap.cF j)) lr bc) (aa (nb (ag (ap.cF j)) lr bf) (aa (nb (ag (ap.cF j)) lr bd) (aq (az (ag (ap.cF j)) lr (aj.row s)) av)))) (ap.cF e6)) (ay.blk d8 (aa hH (aa hL (aa hD (aq (az (ag (ap.cN j)) lr (aj.row s)) av)))) (ap.cN e6)) (be (by decide) _)),(aj.old lb bI),(ap.mk (ub bI (ap.cell e8)) (ub bI (ap.cT e8)) (ub bI (ap.cF e8)) (ub bI (ap.cN e8)) (be (by decide) _)),(cJ ld),(by(try dsimp only);omega),(by(try dsimp only);(try simp only[co]);omega),(by(try dsimp only);(try simp only[co]);omega),(by(try dsimp only);exact fi eY),(by(try dsimp only);exact fi eZ)⟩ (by omega)
 have kL:=of_decide_eq_false f0
 refine xt<|tx<|tx<|bx<|tn<|aA 3<|L1<|Oc<|m1 (eB (ap.mk (ap.cell a1) (ap.cT a1) (ap.cF a1) (ap.cN a1) (be (by decide) _))) fun pl d9=>Pl 1<|?_
 refine L1<|Oc<|m1 (eB (ap.mk (ub d9 (ap.cell N)) (ub d9 (ap.cT N)) (ub d9 (ap.cF N)) (ub d9 (ap.cN N)) (be (by decide) _))) fun pm lk=>L1<|Oi ((bo Es1)+(bo Es2))<|al 3<|rt<|rr (.bool (((bo Es1)+(bo Es2))==0))<|?_
 have hs:(((bo Es1)+(bo Es2))==0)=true:=by simp[eY,eZ]
 rw[hs]
 exact⟨rfl,(aK e0 (aK d9 lk))⟩
theorem p9{w:World}{frm:Bool}{to_:Int}{ans:Bool}(hto:0≤to_∧to_<256){mF:Md}{vF:Value}{fs:List aM}(hF:um mF w vF fs) : Calls Tryz.prog 9 #[.bool frm,.int .u8 to_,.bool ans,vF] w (bS (.bool true) w):=by
  obtain⟨A0,cp0,rfl,_,_⟩:=hF.shape
  exact qH (frm:=frm) (to_:=to_) (ans:=ans) (hto:=hto)  hF
open Go.RowKit
section
variable {H:Type}{enc:TypeId × Value→H}{P:Program}{w:World}{base:Nat}{spare:Nat→Bool}{held:Bool}
theorem qx(b off:Nat)(sp:Option Nat)(n:Nat)(h:sp=none) : (⟨b,off,sp⟩ : Addr).add n=⟨b,off+n,none⟩:=jI b off n sp h
theorem uO{b off:Nat}{sp:Option Nat}{v:Value}(h:w.cell? ⟨b,off,sp⟩=some v) : sp=none:=by
  cases sp with
  | none=>rfl
  | some s =>
    unfold World.cell? at h
    simp at h
    split at h<;>cases h
theorem xz{α:Type}{Pd:DataW H→Prop}{R:World→α→List Value→Prop}{t e:TypeId}{sz fuel:Nat}{cs:List Value}{x:DataW H × List MemPlace}(ht:P.underlying t=some (.slice e))(hsz:P.cellsOf e=sz)(hp:0<sz)
    (hel:∀ n cs' y,cs'.length=sz→DataW.trod enc P w base spare held n e cs'=some y→Pd y.1→∃ x,R w x cs') (hP:∀ elems spare,x.1 = .slice elems spare→∀ d,d∈elems→Pd d) (h:DataW.trod enc P w base spare held fuel t cs=some x) : ∃ v xs,cs=[v]∧aT false e sz R w v xs:=by
  rcases Go.Deep.open_slice ht h with⟨rfl,_⟩|⟨a,len,cap,m,n,D,Pl,rfl,_,hl,hm,hmm,hxe,hx⟩
  · exact⟨_,[],rfl,aT.nil ..⟩
  have hlm:len≤m:=by rw[hmm];split<;>omega
  have key:∀ i:Fin len,∃ y:α × List Value,w.cells? base (a.add (i*sz)) sz=some y.2∧y.2.length=sz∧R w y.1 y.2:=fun i=>by
    obtain⟨cs',h1,h2⟩:=hx i (by omega)
    rw[hsz] at h1
    obtain⟨_,hlen,_⟩:=World.cells?_some h1
    obtain⟨y,hy⟩:=hel n cs' _ hlen h2 (hP _ _ (by rw[hxe]) _ (List.mem_map.2 ⟨i.1,List.mem_range.2 i.2,rfl⟩))
    exact⟨(y,cs'),h1,hlen,hy⟩
  obtain⟨f,hf⟩:=Classical.axiomOfChoice key
  refine⟨_,List.ofFn fun i=>(f i).1,rfl,some a,cap,by simp,by simpa using hl,hm,(fun h=>by cases h),fun hpos=>?_⟩
  have hpos':0<len:=by simpa using hpos
  obtain⟨b,off,sp⟩:=a
  have hsp:sp=none:=by
    obtain⟨h1,h2,_⟩:=hf ⟨0,hpos'⟩
    obtain⟨_,_,h3⟩:=World.cells?_some h1
    have h4:=h3 0 hp
    rw[List.getElem?_eq_getElem (by omega)] at h4
    cases sp with
    | none=>rfl
    | some s =>
      simp[Addr.add] at h4
      exact uO h4
  subst hsp
  have hc:∀ i:Fin len,∀ k u,(f i).2[k]? = some u→w.cell? ⟨b,off+i*sz+k,none⟩=some u:=fun i k u hu=>by
    obtain⟨h1,h2,_⟩:=hf i
    obtain⟨_,_,h3⟩:=World.cells?_some h1
    have hk:k<sz:=by have:=(List.getElem?_eq_some_iff.1 hu).1;omega
    have h4:=h3 k hk
    rw[qx _ _ _ _ rfl,qx _ _ _ _ rfl] at h4
    rw[h4,hu]
  have h0:∃ u,w.cell? ⟨b,off+0*sz+0,none⟩=some u:=by
    obtain⟨_,h2,_⟩:=hf ⟨0,hpos'⟩
    exact⟨_,hc ⟨0,hpos'⟩ 0 _ (List.getElem?_eq_getElem (by omega))⟩
  obtain⟨u,hu⟩:=h0
  unfold World.cell? at hu
  split at hu
  · rename_i cells t' fr hb
    refine⟨b,off,cells,t',fr,rfl,hb,fun h=>(by cases h),fun j y hj=>?_⟩
    have hjl:j<len:=by have:=(List.getElem?_eq_some_iff.1 hj).1;simpa using this
    have hy:(f ⟨j,hjl⟩).1=y:=by
      rw[List.getElem?_ofFn] at hj
      simpa [hjl] using hj
    obtain⟨_,h2,h3⟩:=hf ⟨j,hjl⟩
    refine⟨(f ⟨j,hjl⟩).2,h2,by rw[← hy];exact h3,fun i u hi=>?_⟩
    have:=hc ⟨j,hjl⟩ i u hi
    rw[bh hb] at this
    exact this
  · cases hu
theorem j8{α:Type}{R:World→α→List Value→Prop}{t e:TypeId}{sz fuel:Nat}{cs:List Value}{x:DataW H × List MemPlace}(ht:P.underlying t=some (.slice e))(hsz:P.cellsOf e=sz)(hp:0<sz)
    (hel:∀ n cs' y,cs'.length=sz→DataW.trod enc P w base spare held n e cs'=some y→∃ x,R w x cs') (h:DataW.trod enc P w base spare held fuel t cs=some x) : ∃ v xs,cs=[v]∧aT false e sz R w v xs :=
  xz (Pd:=fun _=>True) ht hsz hp (fun n cs' y h1 h2 _=>hel n cs' y h1 h2) (fun _ _ _ _ _=>trivial) h
end
section
variable {H:Type}{enc:TypeId × Value→H}{w:World}{base:Nat}{spare:Nat→Bool}{held:Bool}{n:Nat}{y:DataW H × List MemPlace}
theorem sH{n:Int}(h:(Lit.int .u16 n).wf=true) : 0≤n∧n<65536:=by
  have:=bounds_u16 h
  omega
theorem jo{cs:List Value}(h:DataW.trod enc Tryz.prog w base spare held n 5 cs=some y) : ∃ x,lf w x cs:=by
  obtain⟨k,rfl,_,hw⟩:=DataW.trod_int Tryz.underlying5 h
  exact⟨k,rfl,wi hw⟩
theorem ey{cs:List Value}(h:DataW.trod enc Tryz.prog w base spare held n 37 cs=some y) : ∃ x,yf w x cs:=by
  obtain⟨k,rfl,_,hw⟩:=DataW.trod_int Tryz.underlying37 h
  exact⟨k,rfl,sH hw⟩
theorem zz{cs:List Value}(h:DataW.trod enc Tryz.prog w base spare held n 4 cs=some y) : ∃ x,tL w x cs:=by
  obtain⟨k,rfl,_⟩:=DataW.trod_bool Tryz.underlying4 h
  exact⟨k,rfl⟩
theorem By{cs:List Value}(h:DataW.trod enc Tryz.prog w base spare held n 27 cs=some y) : ∃ v xs,cs=[v]∧aW false w v xs:=j8 Tryz.underlying27 (by kernel_rfl) (by decide) (fun _ _ _ _ h=>jo h) h
theorem yg{cs:List Value}(h:DataW.trod enc Tryz.prog w base spare held n 40 cs=some y) : ∃ v xs,cs=[v]∧fv false w v xs:=j8 Tryz.underlying40 (by kernel_rfl) (by decide) (fun _ _ _ _ h=>ey h) h
theorem zM{cs:List Value}(h:DataW.trod enc Tryz.prog w base spare held n 41 cs=some y) : ∃ v xs,cs=[v]∧nB false w v xs:=j8 Tryz.underlying41 (by kernel_rfl) (by decide) (fun _ _ _ _ h=>zz h) h
end
open Go.RowKit
theorem eD{cs:List Value}{o:Nat}{v:Value}(h:(cs.drop o).take 1=[v]) : cs.drop o=v :: cs.drop (o+1):=by
  cases hd:cs.drop o with
  | nil=>rw[hd] at h;cases h
  | cons a l =>
    rw[hd] at h
    have h1:a=v:=by simpa using h
    rw[h1,← List.drop_drop,hd]
    rfl
theorem kH{cs:List Value}{n:Nat}(h:cs.length=n) : cs.drop n=[]:=by rw[← h];simp
section
variable {H:Type}{enc:TypeId × Value→H}{w:World}{base:Nat}{spare:Nat→Bool}{held:Bool}{n:Nat}{y:DataW H × List MemPlace}
theorem Cv{cs:List Value}(h:DataW.trod enc Tryz.prog w base spare held n 98 cs=some y) : ∃ x,bL false w x cs:=by
  obtain⟨xs,m,rfl,_,hlen,hxs,hf⟩:=DataW.trod_struct Tryz.underlying98 h
  rw[show Tryz.prog.cellsOf 98=4 from by kernel_rfl] at hlen
  replace hxs:xs.length=4:=hxs.trans (by kernel_rfl)
  obtain⟨y0,g0⟩ : ∃ y,xs[0]? = some y:=⟨_,List.getElem?_eq_getElem (show 0<xs.length by omega)⟩
  have f0:DataW.trod enc Tryz.prog w base spare held m 37 ((cs.drop 0).take (Tryz.prog.cellsOf 37))=xs[0]?:=hf 0 _ rfl
  rw[g0] at f0
  rw[show Tryz.prog.cellsOf 37=1 from by kernel_rfl] at f0
  obtain⟨x0,e0,r0⟩:=ey f0
  obtain⟨y1,g1⟩ : ∃ y,xs[1]? = some y:=⟨_,List.getElem?_eq_getElem (show 1<xs.length by omega)⟩
  have f1:DataW.trod enc Tryz.prog w base spare held m 37 ((cs.drop 1).take (Tryz.prog.cellsOf 37))=xs[1]?:=hf 1 _ rfl
  rw[g1] at f1
  rw[show Tryz.prog.cellsOf 37=1 from by kernel_rfl] at f1
  obtain⟨x1,e1,r1⟩:=ey f1
  obtain⟨y2,g2⟩ : ∃ y,xs[2]? = some y:=⟨_,List.getElem?_eq_getElem (show 2<xs.length by omega)⟩
  have f2:DataW.trod enc Tryz.prog w base spare held m 37 ((cs.drop 2).take (Tryz.prog.cellsOf 37))=xs[2]?:=hf 2 _ rfl
  rw[g2] at f2
  rw[show Tryz.prog.cellsOf 37=1 from by kernel_rfl] at f2
  obtain⟨x2,e2,r2⟩:=ey f2
  obtain⟨y3,g3⟩ : ∃ y,xs[3]? = some y:=⟨_,List.getElem?_eq_getElem (show 3<xs.length by omega)⟩
  have f3:DataW.trod enc Tryz.prog w base spare held m 40 ((cs.drop 3).take (Tryz.prog.cellsOf 40))=xs[3]?:=hf 3 _ rfl
  rw[g3] at f3
  rw[show Tryz.prog.cellsOf 40=1 from by kernel_rfl] at f3
  obtain⟨v3,l3,e3,r3⟩:=yg f3
  have hcs:cs=[.int .u16 x0,.int .u16 x1,.int .u16 x2,v3]:=by
    show cs.drop 0=_
    rw[eD e0,eD e1,eD e2,eD e3,kH hlen]
  subst hcs
  exact⟨⟨x0,x1,x2,l3⟩,_,rfl,r3,r0,r1,r2⟩
theorem CM{cs:List Value}(h:DataW.trod enc Tryz.prog w base spare held n 42 cs=some y) : ∃ v xs,cs=[v]∧pD false w v xs:=j8 Tryz.underlying42 (by kernel_rfl) (by decide) (fun _ _ _ _ h=>Cv h) h
theorem BT{cs:List Value}(h:DataW.trod enc Tryz.prog w base spare held n 100 cs=some y) : ∃ x,cH false w x cs:=by
  obtain⟨xs,m,rfl,_,hlen,hxs,hf⟩:=DataW.trod_struct Tryz.underlying100 h
  rw[show Tryz.prog.cellsOf 100=2 from by kernel_rfl] at hlen
  replace hxs:xs.length=2:=hxs.trans (by kernel_rfl)
  obtain⟨y0,g0⟩ : ∃ y,xs[0]? = some y:=⟨_,List.getElem?_eq_getElem (show 0<xs.length by omega)⟩
  have f0:DataW.trod enc Tryz.prog w base spare held m 5 ((cs.drop 0).take (Tryz.prog.cellsOf 5))=xs[0]?:=hf 0 _ rfl
  rw[g0] at f0
  rw[show Tryz.prog.cellsOf 5=1 from by kernel_rfl] at f0
  obtain⟨x0,e0,r0⟩:=jo f0
  obtain⟨y1,g1⟩ : ∃ y,xs[1]? = some y:=⟨_,List.getElem?_eq_getElem (show 1<xs.length by omega)⟩
  have f1:DataW.trod enc Tryz.prog w base spare held m 27 ((cs.drop 1).take (Tryz.prog.cellsOf 27))=xs[1]?:=hf 1 _ rfl
  rw[g1] at f1
  rw[show Tryz.prog.cellsOf 27=1 from by kernel_rfl] at f1
  obtain⟨v1,l1,e1,r1⟩:=By f1
  have hcs:cs=[.int .u8 x0,v1]:=by
    show cs.drop 0=_
    rw[eD e0,eD e1,kH hlen]
  subst hcs
  exact⟨⟨x0,l1⟩,_,rfl,r1,r0⟩
theorem BJ{cs:List Value}(h:DataW.trod enc Tryz.prog w base spare held n 43 cs=some y) : ∃ v xs,cs=[v]∧pC false w v xs:=j8 Tryz.underlying43 (by kernel_rfl) (by decide) (fun _ _ _ _ h=>BT h) h
theorem xM{cs:List Value}(h:DataW.trod enc Tryz.prog w base spare held n 45 cs=some y) : ∃ M,aH false w cs M:=by
  obtain⟨xs,m,rfl,_,hlen,hxs,hf⟩:=DataW.trod_struct Tryz.underlying45 h
  rw[show Tryz.prog.cellsOf 45=22 from by kernel_rfl] at hlen
  replace hxs:xs.length=22:=hxs.trans (by kernel_rfl)
  obtain⟨y0,g0⟩ : ∃ y,xs[0]? = some y:=⟨_,List.getElem?_eq_getElem (show 0<xs.length by omega)⟩
  have f0:DataW.trod enc Tryz.prog w base spare held m 5 ((cs.drop 0).take (Tryz.prog.cellsOf 5))=xs[0]?:=hf 0 _ rfl
  rw[g0] at f0
  rw[show Tryz.prog.cellsOf 5=1 from by kernel_rfl] at f0
  obtain⟨x0,e0,r0⟩:=jo f0
  obtain⟨y1,g1⟩ : ∃ y,xs[1]? = some y:=⟨_,List.getElem?_eq_getElem (show 1<xs.length by omega)⟩
  have f1:DataW.trod enc Tryz.prog w base spare held m 5 ((cs.drop 1).take (Tryz.prog.cellsOf 5))=xs[1]?:=hf 1 _ rfl
  rw[g1] at f1
  rw[show Tryz.prog.cellsOf 5=1 from by kernel_rfl] at f1
  obtain⟨x1,e1,r1⟩:=jo f1
  obtain⟨y2,g2⟩ : ∃ y,xs[2]? = some y:=⟨_,List.getElem?_eq_getElem (show 2<xs.length by omega)⟩
  have f2:DataW.trod enc Tryz.prog w base spare held m 37 ((cs.drop 2).take (Tryz.prog.cellsOf 37))=xs[2]?:=hf 2 _ rfl
  rw[g2] at f2
  rw[show Tryz.prog.cellsOf 37=1 from by kernel_rfl] at f2
  obtain⟨x2,e2,r2⟩:=ey f2
  obtain⟨y3,g3⟩ : ∃ y,xs[3]? = some y:=⟨_,List.getElem?_eq_getElem (show 3<xs.length by omega)⟩
  have f3:DataW.trod enc Tryz.prog w base spare held m 37 ((cs.drop 3).take (Tryz.prog.cellsOf 37))=xs[3]?:=hf 3 _ rfl
  rw[g3] at f3
  rw[show Tryz.prog.cellsOf 37=1 from by kernel_rfl] at f3
  obtain⟨x3,e3,r3⟩:=ey f3
  obtain⟨y4,g4⟩ : ∃ y,xs[4]? = some y:=⟨_,List.getElem?_eq_getElem (show 4<xs.length by omega)⟩
  have f4:DataW.trod enc Tryz.prog w base spare held m 37 ((cs.drop 4).take (Tryz.prog.cellsOf 37))=xs[4]?:=hf 4 _ rfl
  rw[g4] at f4
  rw[show Tryz.prog.cellsOf 37=1 from by kernel_rfl] at f4
  obtain⟨x4,e4,r4⟩:=ey f4
  obtain⟨y5,g5⟩ : ∃ y,xs[5]? = some y:=⟨_,List.getElem?_eq_getElem (show 5<xs.length by omega)⟩
  have f5:DataW.trod enc Tryz.prog w base spare held m 37 ((cs.drop 5).take (Tryz.prog.cellsOf 37))=xs[5]?:=hf 5 _ rfl
  rw[g5] at f5
  rw[show Tryz.prog.cellsOf 37=1 from by kernel_rfl] at f5
  obtain⟨x5,e5,r5⟩:=ey f5
  obtain⟨y6,g6⟩ : ∃ y,xs[6]? = some y:=⟨_,List.getElem?_eq_getElem (show 6<xs.length by omega)⟩
  have f6:DataW.trod enc Tryz.prog w base spare held m 37 ((cs.drop 6).take (Tryz.prog.cellsOf 37))=xs[6]?:=hf 6 _ rfl
  rw[g6] at f6
  rw[show Tryz.prog.cellsOf 37=1 from by kernel_rfl] at f6
  obtain⟨x6,e6,r6⟩:=ey f6
  obtain⟨y7,g7⟩ : ∃ y,xs[7]? = some y:=⟨_,List.getElem?_eq_getElem (show 7<xs.length by omega)⟩
  have f7:DataW.trod enc Tryz.prog w base spare held m 37 ((cs.drop 7).take (Tryz.prog.cellsOf 37))=xs[7]?:=hf 7 _ rfl
  rw[g7] at f7
  rw[show Tryz.prog.cellsOf 37=1 from by kernel_rfl] at f7
  obtain⟨x7,e7,r7⟩:=ey f7
  obtain⟨y8,g8⟩ : ∃ y,xs[8]? = some y:=⟨_,List.getElem?_eq_getElem (show 8<xs.length by omega)⟩
  have f8:DataW.trod enc Tryz.prog w base spare held m 37 ((cs.drop 8).take (Tryz.prog.cellsOf 37))=xs[8]?:=hf 8 _ rfl
  rw[g8] at f8
  rw[show Tryz.prog.cellsOf 37=1 from by kernel_rfl] at f8
  obtain⟨x8,e8,r8⟩:=ey f8
  obtain⟨y9,g9⟩ : ∃ y,xs[9]? = some y:=⟨_,List.getElem?_eq_getElem (show 9<xs.length by omega)⟩
  have f9:DataW.trod enc Tryz.prog w base spare held m 37 ((cs.drop 9).take (Tryz.prog.cellsOf 37))=xs[9]?:=hf 9 _ rfl
  rw[g9] at f9
  rw[show Tryz.prog.cellsOf 37=1 from by kernel_rfl] at f9
  obtain⟨x9,e9,r9⟩:=ey f9
  obtain⟨ac,u⟩ : ∃ y,xs[10]? = some y:=⟨_,List.getElem?_eq_getElem (show 10<xs.length by omega)⟩
  have a:DataW.trod enc Tryz.prog w base spare held m 37 ((cs.drop 10).take (Tryz.prog.cellsOf 37))=xs[10]?:=hf 10 _ rfl
  rw[u] at a
  rw[show Tryz.prog.cellsOf 37=1 from by kernel_rfl] at a
  obtain⟨x10,v,x⟩:=ey a
  obtain⟨ad,z⟩ : ∃ y,xs[11]? = some y:=⟨_,List.getElem?_eq_getElem (show 11<xs.length by omega)⟩
  have b:DataW.trod enc Tryz.prog w base spare held m 37 ((cs.drop 11).take (Tryz.prog.cellsOf 37))=xs[11]?:=hf 11 _ rfl
  rw[z] at b
  rw[show Tryz.prog.cellsOf 37=1 from by kernel_rfl] at b
  obtain⟨x11,A,B⟩:=ey b
  obtain⟨ae,C⟩ : ∃ y,xs[12]? = some y:=⟨_,List.getElem?_eq_getElem (show 12<xs.length by omega)⟩
  have c:DataW.trod enc Tryz.prog w base spare held m 40 ((cs.drop 12).take (Tryz.prog.cellsOf 40))=xs[12]?:=hf 12 _ rfl
  rw[C] at c
  rw[show Tryz.prog.cellsOf 40=1 from by kernel_rfl] at c
  obtain⟨p,D,E,F⟩:=yg c
  obtain⟨af,G⟩ : ∃ y,xs[13]? = some y:=⟨_,List.getElem?_eq_getElem (show 13<xs.length by omega)⟩
  have d:DataW.trod enc Tryz.prog w base spare held m 41 ((cs.drop 13).take (Tryz.prog.cellsOf 41))=xs[13]?:=hf 13 _ rfl
  rw[G] at d
  rw[show Tryz.prog.cellsOf 41=1 from by kernel_rfl] at d
  obtain⟨q,H,I,J⟩:=zM d
  obtain⟨ag,K⟩ : ∃ y,xs[14]? = some y:=⟨_,List.getElem?_eq_getElem (show 14<xs.length by omega)⟩
  have e:DataW.trod enc Tryz.prog w base spare held m 27 ((cs.drop 14).take (Tryz.prog.cellsOf 27))=xs[14]?:=hf 14 _ rfl
  rw[K] at e
  rw[show Tryz.prog.cellsOf 27=1 from by kernel_rfl] at e
  obtain⟨r,L,N,O⟩:=By e
  obtain⟨ah,P⟩ : ∃ y,xs[15]? = some y:=⟨_,List.getElem?_eq_getElem (show 15<xs.length by omega)⟩
  have f:DataW.trod enc Tryz.prog w base spare held m 42 ((cs.drop 15).take (Tryz.prog.cellsOf 42))=xs[15]?:=hf 15 _ rfl
  rw[P] at f
  rw[show Tryz.prog.cellsOf 42=1 from by kernel_rfl] at f
  obtain⟨s,Q,R,S⟩:=CM f
  obtain⟨ai,T⟩ : ∃ y,xs[16]? = some y:=⟨_,List.getElem?_eq_getElem (show 16<xs.length by omega)⟩
  have g:DataW.trod enc Tryz.prog w base spare held m 5 ((cs.drop 16).take (Tryz.prog.cellsOf 5))=xs[16]?:=hf 16 _ rfl
  rw[T] at g
  rw[show Tryz.prog.cellsOf 5=1 from by kernel_rfl] at g
  obtain⟨x16,U,V⟩:=jo g
  obtain⟨aj,W⟩ : ∃ y,xs[17]? = some y:=⟨_,List.getElem?_eq_getElem (show 17<xs.length by omega)⟩
  have i:DataW.trod enc Tryz.prog w base spare held m 5 ((cs.drop 17).take (Tryz.prog.cellsOf 5))=xs[17]?:=hf 17 _ rfl
  rw[W] at i
  rw[show Tryz.prog.cellsOf 5=1 from by kernel_rfl] at i
  obtain⟨x17,X,Y⟩:=jo i
  obtain⟨ak,Z⟩ : ∃ y,xs[18]? = some y:=⟨_,List.getElem?_eq_getElem (show 18<xs.length by omega)⟩
  have j:DataW.trod enc Tryz.prog w base spare held m 5 ((cs.drop 18).take (Tryz.prog.cellsOf 5))=xs[18]?:=hf 18 _ rfl
  rw[Z] at j
  rw[show Tryz.prog.cellsOf 5=1 from by kernel_rfl] at j
  obtain⟨x18,a0,a1⟩:=jo j
  obtain⟨al,a2⟩ : ∃ y,xs[19]? = some y:=⟨_,List.getElem?_eq_getElem (show 19<xs.length by omega)⟩
  have k:DataW.trod enc Tryz.prog w base spare held m 5 ((cs.drop 19).take (Tryz.prog.cellsOf 5))=xs[19]?:=hf 19 _ rfl
  rw[a2] at k
  rw[show Tryz.prog.cellsOf 5=1 from by kernel_rfl] at k
  obtain⟨x19,a3,a4⟩:=jo k
  obtain⟨am,a5⟩ : ∃ y,xs[20]? = some y:=⟨_,List.getElem?_eq_getElem (show 20<xs.length by omega)⟩
  have l:DataW.trod enc Tryz.prog w base spare held m 5 ((cs.drop 20).take (Tryz.prog.cellsOf 5))=xs[20]?:=hf 20 _ rfl
  rw[a5] at l
  rw[show Tryz.prog.cellsOf 5=1 from by kernel_rfl] at l
  obtain⟨x20,a6,a7⟩:=jo l
  obtain⟨an,a8⟩ : ∃ y,xs[21]? = some y:=⟨_,List.getElem?_eq_getElem (show 21<xs.length by omega)⟩
  have o:DataW.trod enc Tryz.prog w base spare held m 43 ((cs.drop 21).take (Tryz.prog.cellsOf 43))=xs[21]?:=hf 21 _ rfl
  rw[a8] at o
  rw[show Tryz.prog.cellsOf 43=1 from by kernel_rfl] at o
  obtain⟨t,a9,aa,ab⟩:=BJ o
  have hcs:cs=[.int .u8 x0,.int .u8 x1,.int .u16 x2,.int .u16 x3,.int .u16 x4,.int .u16 x5,.int .u16 x6,.int .u16 x7,.int .u16 x8,.int .u16 x9,.int .u16 x10,.int .u16 x11,p,q,r,s,.int .u8 x16,.int .u8 x17,.int .u8 x18,.int .u8 x19,.int .u8 x20,t]:=by
    show cs.drop 0=_
    rw[eD e0,eD e1,eD e2,eD e3,eD e4,eD e5,eD e6,eD e7,eD e8,eD e9,eD v,eD A,eD E,eD I,eD N,eD R,eD U,eD X,eD a0,eD a3,eD a6,eD aa,kH hlen]
  subst hcs
  exact⟨⟨x0,x1,x2,x3,x4,x5,x6,x7,x8,x9,x10,x11,D,H,L,Q,x16,x17,x18,x19,x20,a9⟩,p,q,r,s,t,rfl,F,J,O,S,ab,⟨r0,r1,r2,r3,r4,r5,r6,r7,r8,r9,x,B,V,Y,a1,a4,a7⟩⟩
end
open Go.RowKit
section
variable {H:Type}{enc:TypeId × Value→H}{w:World}{base:Nat}{spare:Nat→Bool}{held:Bool}{n:Nat}{y:DataW H × List MemPlace}
theorem vO{cs:List Value}(h:DataW.trod enc Tryz.prog w base spare held n 39 cs=some y) : ∃ u t,cs=[.int .u8 u,.int .u16 t]∧(0≤u∧u<256)∧(0≤t∧t<65536):=by
  obtain⟨xs,m,rfl,_,hlen,hxs,hf⟩:=DataW.trod_struct Tryz.underlying39 h
  rw[show Tryz.prog.cellsOf 39=2 from by kernel_rfl] at hlen
  replace hxs:xs.length=2:=hxs.trans (by kernel_rfl)
  obtain⟨y0,g0⟩ : ∃ y,xs[0]? = some y:=⟨_,List.getElem?_eq_getElem (show 0<xs.length by omega)⟩
  have f0:DataW.trod enc Tryz.prog w base spare held m 5 ((cs.drop 0).take (Tryz.prog.cellsOf 5))=xs[0]?:=hf 0 _ rfl
  rw[g0] at f0
  rw[show Tryz.prog.cellsOf 5=1 from by kernel_rfl] at f0
  obtain⟨x0,e0,r0⟩:=jo f0
  obtain⟨y1,g1⟩ : ∃ y,xs[1]? = some y:=⟨_,List.getElem?_eq_getElem (show 1<xs.length by omega)⟩
  have f1:DataW.trod enc Tryz.prog w base spare held m 37 ((cs.drop 1).take (Tryz.prog.cellsOf 37))=xs[1]?:=hf 1 _ rfl
  rw[g1] at f1
  rw[show Tryz.prog.cellsOf 37=1 from by kernel_rfl] at f1
  obtain⟨x1,e1,r1⟩:=ey f1
  have hcs:cs=[.int .u8 x0,.int .u16 x1]:=by
    show cs.drop 0=_
    rw[eD e0,eD e1,kH hlen]
  exact⟨x0,x1,hcs,r0,r1⟩
theorem yF{cs:List Value}(h:DataW.trod enc Tryz.prog w base spare held n 47 cs=some y) : ∃ u t M c,cs=[.int .u8 u,.int .u16 t]++c∧aH false w c M∧(0≤u∧u<256)∧(0≤t∧t<65536):=by
  obtain⟨xs,m,rfl,_,hlen,hxs,hf⟩:=DataW.trod_struct Tryz.underlying47 h
  rw[show Tryz.prog.cellsOf 47=24 from by kernel_rfl] at hlen
  replace hxs:xs.length=2:=hxs.trans (by kernel_rfl)
  obtain⟨y0,g0⟩ : ∃ y,xs[0]? = some y:=⟨_,List.getElem?_eq_getElem (show 0<xs.length by omega)⟩
  have f0:DataW.trod enc Tryz.prog w base spare held m 39 ((cs.drop 0).take (Tryz.prog.cellsOf 39))=xs[0]?:=hf 0 _ rfl
  rw[g0] at f0
  rw[show Tryz.prog.cellsOf 39=2 from by kernel_rfl] at f0
  obtain⟨u,t,e0,hu,ht⟩:=vO f0
  obtain⟨y1,g1⟩ : ∃ y,xs[1]? = some y:=⟨_,List.getElem?_eq_getElem (show 1<xs.length by omega)⟩
  have f1:DataW.trod enc Tryz.prog w base spare held m 45 ((cs.drop 2).take (Tryz.prog.cellsOf 45))=xs[1]?:=hf 1 _ rfl
  rw[g1] at f1
  rw[show Tryz.prog.cellsOf 45=22 from by kernel_rfl] at f1
  obtain⟨M,hM⟩:=xM f1
  refine⟨u,t,M,(cs.drop 2).take 22,?_,hM,hu,ht⟩
  rw[← e0,List.take_of_length_le (show(cs.drop 2).length≤22 by rw[List.length_drop];omega)]
  exact(List.take_append_drop 2 cs).symm
end
end Go.Proofs.YtdkhbcefkfgbdaaGreat
namespace Go.Proofs.YtdkhbcefkfgbdaaGreat
open Go.WideShapes
section
variable {H:Type}{enc:TypeId × Value→H}{w:World}{base:Nat}{spare:Nat→Bool}{held:Bool}{n:Nat}{y:DataW H × List MemPlace}
theorem Dx{cs:List Value}(h:DataW.trod enc Tryz.prog w base spare held n 47 cs=some y) : ∃ f,nA false w f cs:=by
  obtain⟨u,t,M,c,e0,hM,hu,ht⟩:=yF h
  obtain⟨x,hx⟩:=p5 (cs:=c.toArray) (by simpa using hM)
  have hc:c=(jq M x).toList:=by rw[← hx]
  refine⟨⟨u,t,M⟩,x,?_,?_,hu,ht⟩
  · rw[e0,fo,hc]
    simp
  · rw[← hc]
    exact hM
theorem zR{cs:List Value}(h:DataW.trod enc Tryz.prog w base spare held n 64 cs=some y) : ∃ v xs,cs=[v]∧um false w v xs :=
  j8 (R:=nA false) Tryz.underlying64 (by kernel_rfl) (by decide) (fun _ _ _ _ h=>Dx h) h
end
end Go.Proofs.YtdkhbcefkfgbdaaGreat
