/- Contracts of functions, part CPduWrites6. -/
import Derived.Test.YtogbnemojakcpaaGreatCPduWrites1
import Derived.Test.YtogbnemojakcpaaGreatCPduWrites2
import Derived.Test.YtogbnemojakcpaaGreatCPduWrites3
import Derived.Test.YtogbnemojakcpaaGreatCPduWrites4
import Derived.Test.YtogbnemojakcpaaGreatCPduWrites5
set_option linter.unusedVariables false
set_option linter.unusedSimpArgs false
set_option maxRecDepth 100000
set_option maxHeartbeats 4000000
namespace Go.Proofs.YtogbnemojakcpaaGreat
open Go.RowKit
def eT (dir:Int)(C:ai) : ai:=(C.wordsC 1).need (eo C.wordV&&((C.wordV != 4)||(dir==0))) 8
theorem fX{C:ai}:eT 0 C=(C.wordsC 1).need (eo C.wordV) 8:=by
  unfold eT
  rw[show((0:Int)==0)=true from rfl,Bool.or_true,Bool.and_true]
theorem fW{C:ai}:eT 1 C=(C.wordsC 1).need (eo C.wordV&&(C.wordV != 4)) 8:=by
  unfold eT
  rw[show((1:Int)==0)=false from rfl,Bool.or_false]
def dl (dir c:Int)(C:ai) : ai × aQ :=
  if C.wordV==0 then ((iX (eT dir C)).wordsC (((eT dir C).l.length:Int)/2),{ aQ.zero with code:=c,sub:=C.wordV,words:=(iX (eT dir C)).wordsR (((eT dir C).l.length:Int)/2) })
  else (((eT dir C).wordsC 1).need (fg dir C.wordV (eT dir C).wordV) 6,{ aQ.zero with code:=c,sub:=C.wordV,words:=[(eT dir C).wordV] })
def cG (c:Int)(C:ai) : ai × aQ :=
  if c==7 then (C.bytesC 1,{ aQ.zero with code:=c,value:=C.byteV })
  else if c==11 then ((dv C).wordsC 1,{ aQ.zero with code:=c,status:=C.wordV,events:=(dv C).wordV })
  else if c==12 then ((fI C).bytesC (C.byteV-6),{ aQ.zero with code:=c,status:=(fh C 6 70).wordV,events:=(dv (fh C 6 70)).wordV,messages:=((dv (fh C 6 70)).wordsC 1).wordV,data:=(fI C).bytesR (C.byteV-6) })
  else ((fh C 1 251).bytesC C.byteV,{ aQ.zero with code:=c,data:=(fh C 1 251).bytesR C.byteV })
def b9 (dir c:Int)(C:ai) : Option (ai × aQ) :=
  if ((((c != 7)&&(c != 8))&&(c != 11))&&(c != 12))&&(c != 17) then none
  else if c==8 then some (dl dir c C)
  else if dir==0 then some (C,{ aQ.zero with code:=c })
  else some (cG c C)
theorem lx{m:Md}{A:Option Addr}{cp:Nat}{b:List Int}{w:World}{c:Int}(hcode:B8 c)(hsl:bo m w (.slice A b.length cp) b)(hb:b.length≤1048576) :
    Calls Tryz.prog 95 #[.int .i64 0,.int .u8 c,.slice A b.length cp] w (cK (.slice A b.length cp) b (ag b9 0 c b) w):=by
 obtain⟨hcode1,hcode2⟩:=hcode
 have hln:(b.length:Int)≤1048576:=by omega
 refine en 197 Tryz.func95 rfl<|sg<|L0<|bQ mZ fun cQ cR I g i=>Pl 1<|nt<|sq<|sg<|Pl 6<|nt<|c0<|?_
 refine bp<|sq<|sg<|Pl 3<|cu 3 [24] 27 (((c != 7)&&(c != 8))) (fun K aT=>?_) ?_
 refine bl 24 ((c != 7)) (fun P=>?_) (fun P=>?_)
 have bV:=az P
 exact Pl 3<|ce aT (c != 8) (by rw[P];rfl)
 have bV:=aj P
 exact Pl 3<|ce aT false (by rw[P];rfl)
 refine Pl 1<|cu 3 [28] 31 ((((c != 7)&&(c != 8))&&(c != 11))) (fun K aU=>?_) ?_
 refine bl 28 (((c != 7)&&(c != 8))) (fun Q=>?_) (fun Q=>?_)
 have bW:=(b6 Q).1
 have bY:=(b6 Q).2
 have cS:=az bW
 have cT:=az bY
 exact Pl 3<|ce aU (c != 11) (by rw[Q];rfl)
 exact Pl 3<|ce aU false (by rw[Q];rfl)
 refine Pl 1<|cu 3 [32] 35 (((((c != 7)&&(c != 8))&&(c != 11))&&(c != 12))) (fun K aV=>?_) ?_
 refine bl 32 ((((c != 7)&&(c != 8))&&(c != 11))) (fun R=>?_) (fun R=>?_)
 have aW:=(b6 R).1
 have bZ:=(b6 R).2
 have c2:=(b6 aW).1
 have c3:=(b6 aW).2
 have q19aap:=az c2
 have q19abp:=az c3
 have cU:=az bZ
 exact Pl 3<|ce aV (c != 12) (by rw[R];rfl)
 exact Pl 3<|ce aV false (by rw[R];rfl)
 refine Pl 1<|cu 3 [36] 39 ((((((c != 7)&&(c != 8))&&(c != 11))&&(c != 12))&&(c != 17))) (fun K aX=>?_) ?_
 refine bl 36 (((((c != 7)&&(c != 8))&&(c != 11))&&(c != 12))) (fun S=>?_) (fun S=>?_)
 have aY:=(b6 S).1
 have c4:=(b6 S).2
 have b0:=(b6 aY).1
 have c5:=(b6 aY).2
 have q21aaa:=(b6 b0).1
 have q21aab:=(b6 b0).2
 have q21aaap:=az q21aaa
 have q21aabp:=az q21aab
 have q21abp:=az c5
 have cV:=az c4
 exact Pl 3<|ce aX (c != 17) (by rw[S];rfl)
 exact Pl 3<|ce aX false (by rw[S];rfl)
 refine nt<|cb ((((((c != 7)&&(c != 8))&&(c != 11))&&(c != 12))&&(c != 17))) (fun r=>?_) (fun r=>?_)
 have am:=(b6 r).1
 have b1:=(b6 r).2
 have an:=(b6 am).1
 have b2:=(b6 am).2
 have q23aaa:=(b6 an).1
 have q23aab:=(b6 an).2
 have q23aaaa:=(b6 q23aaa).1
 have q23aaab:=(b6 q23aaa).2
 have q23aaaap:=az q23aaaa
 have q23aaabp:=az q23aaab
 have q23aabp:=az q23aab
 have q23abp:=az b2
 have cW:=az b1
 refine sg<|Pl 1<|L0<|be g mZ fun cX c6 c7=>Pl 1<|nt<|rt<|tr<|bX c6 (.int .i64 4)<|?_
 have hs:ag b9 0 c b=(aQ.zero,4):=by
   unfold ag b9 dl cG
   (try simp only[r,am,an,q23aaa,q23aaaa,q23aaab,q23aab,b2,b1,bs,if_true,if_false,decide_true,decide_false,eq_self,true_or,or_true,or_false,false_or,if_true,if_false,co,cm,cn,cv,reduceIte,fX,fW])
   all_goals rfl
 rw[hs]
 exact bA (ud i c7 I)
 refine bp<|sg<|Pl 2<|L0<|dC #[.slice A b.length cp,.int .i64 0,.bool false,.int .i64 0] fun D cY a E q=>Pl 1<|ng<|Pl 2<|L0<|bQ mZ fun cZ d0 s T y=>L0<|be T (mC c) fun b3 b4 k=>?_
 refine nt<|sq<|bk<|sg<|Pl 3<|nt<|?_
 have ao:=ud y k s
 have J:=aG q ao
 have a6:=aG i J
 refine cb ((c==8)) (fun z=>?_) (fun z=>?_)
 have c8:=ae z
 refine sg<|Pl 1<|?_
 have c9:RC w _ A cp b b3 D (ai.mk b false 0):=⟨hsl,a6,(Nat.le_trans i.size a),⟨0,(ub ao E),Nat.zero_le _,rfl⟩,by omega⟩
 refine L0<|Oc<|m3 (d6 c9) fun d1 ca j d2=>Pl 1<|?_
 have t:=nb (au E) lr s
 refine L0<|cg (aZ j (Ne.symm t) b4) 8 (mG c 0 0 0 0 0 0 0 ((ai.mk b false 0).wordV) 0 0 0 nS nS nS nS 0 0 0 0 0 nS) fun cc ap o=>ng<|Pl 1<|L0<|aP ap 8<|L0<|Oc<|m1 (ww (x:=(ai.mk b false 0).wordV) (w:=cc) (by omega)) fun d3 f=>Pl 1<|ng<|Pl 3<|cu 8 [72] 80 ((eo ((ai.mk b false 0).wordV))) (fun K b5=>?_) ?_
 refine bl 72 ((eo ((ai.mk b false 0).wordV))) (fun ar=>?_) (fun ar=>?_)
 refine Pl 1<|?_
 refine L1<|aP (ub f ap) 8<|Pl 2<|cu 3 [76] 79 (true) (fun K ba=>?_) ?_
 refine bl 76 ((((ai.mk b false 0).wordV)!=4)) (fun aw=>?_) (fun aw=>?_)
 have cd:=az aw
 exact Pl 3<|ce ba true rfl
 have cd:=aj aw
 exact Pl 3<|ce ba true rfl
 exact Pl 1<|ce b5 true ar
 exact Pl 8<|ce b5 false ar
 have bb:=aG o f
 have U:=us j bb
 have bc:=ut a6 U (ac (ni i.size a) (ac (ni (le i.size q.size) s) av))
 refine L0<|Oc<|m2 (b7 ((eo ((ai.mk b false 0).wordV))) 8 (RC.upd ca bb (aa t aA) bc)) fun d4 cf d=>?_
 refine fL cf fun x70 a7 V=>?_
 refine nt<|sq<|sg<|Pl 1<|?_
 have ax:=aZ (uz f d) (Ne.symm t) ap
 refine L0<|aP ax 8<|Pl 1<|nt<|?_
 have bd:=ud bc d (le i.size a)
 refine cb ((((ai.mk b false 0).wordV)==0)) (fun L=>?_) (fun L=>?_)
 have ch:=ae L
 refine sg<|Pl 1<|L0<|Oc<|m1 (io V) fun d5 B=>?_
 have d7:=RC.clen V
 refine Pl 1<|ng<|Pl 2<|L0<|Oe (.int .i64 (Int.tmod ((x70.l.length:Nat) : Int) 2)) (.int .i64 (((x70.l.length:Nat) : Int)%2)) (congrArg (Value.int .i64) (Int.tmod_eq_emod_of_nonneg (by omega)))<|Pl 2<|cu 3 [91] 94 ((((((x70.l.length:Nat) : Int)%2)==0)&&(decide (2≤((x70.l.length:Nat) : Int))))) (fun K bf=>?_) ?_
 refine bl 91 (((((x70.l.length:Nat) : Int)%2)==0)) (fun W=>?_) (fun W=>?_)
 have ci:=ae W
 exact Pl 3<|ce bf (decide (2≤((x70.l.length:Nat) : Int))) (by rw[W];rfl)
 have ci:=ak W
 exact Pl 3<|ce bf false (by rw[W];rfl)
 refine Pl 1<|cu 3 [95] 98 (((((((x70.l.length:Nat) : Int)%2)==0)&&(decide (2≤((x70.l.length:Nat) : Int))))&&(decide (((x70.l.length:Nat) : Int)≤250)))) (fun K bg=>?_) ?_
 refine bl 95 ((((((x70.l.length:Nat) : Int)%2)==0)&&(decide (2≤((x70.l.length:Nat) : Int))))) (fun X=>?_) (fun X=>?_)
 have cj:=(b6 X).1
 have ck:=(b6 X).2
 have d8:=ae cj
 have d9:=of_decide_eq_true ck
 exact Pl 3<|ce bg (decide (((x70.l.length:Nat) : Int)≤250)) (by rw[X];rfl)
 exact Pl 3<|ce bg false (by rw[X];rfl)
 refine L0<|Oc<|m2 (b7 (((((((x70.l.length:Nat) : Int)%2)==0)&&(decide (2≤((x70.l.length:Nat) : Int))))&&(decide (((x70.l.length:Nat) : Int)≤250)))) 5 (RC.upd V B aA (aE.step (RC.u V) B))) fun da cl M=>?_
 refine fL cl fun x88 bj cq=>?_
 refine ng<|Pl 2<|L0<|Oe (.int .i64 (IntKind.i64.wrap (Int.tdiv ((x70.l.length:Nat) : Int) 2))) (.int .i64 (((x70.l.length:Nat) : Int)/2)) (congrArg (Value.int .i64) (fS (by omega) (by omega)))<|L0<|Oc<|my (fV (n:=(((x70.l.length:Nat) : Int)/2)) (by omega) cq) fun bm bq db F dc dd cr cs=>Pl 1<|?_
 have br:=uz B (u1 M cs im)
 refine L0<|cg (aZ br (Ne.symm t) ax) 12 (mG c 0 0 0 0 0 0 0 ((ai.mk b false 0).wordV) 0 0 0 (.slice bm ((x88.wordsR (((x70.l.length:Nat) : Int)/2)).length) bq) nS nS nS 0 0 0 0 0 nS) fun de ct a8=>nt<|xt<|tx<|bx<|tn<|sg<|Pl 1<|?_
 have ay:=us br a8
 have bu:=ut bd ay (ac (ni i.size a) (ac (ni (le i.size q.size) s) av))
 refine L0<|Oc<|m2 (ex (RC.upd cr a8 (aa t aA) bu)) fun df aC Y=>nt<|sq<|sg<|Pl 3<|L0<|eC (p:=⟨D,3,none⟩) (v:=.int .i64 (((x88.wordsC (((x70.l.length:Nat) : Int)/2)).endC).e)) (RC.fld aC)<|Pl 1<|nt<|?_
 have bv:=ud bu Y (le i.size a)
 refine cb (((((x88.wordsC (((x70.l.length:Nat) : Int)/2)).endC).e)!=0)) (fun Z=>?_) (fun Z=>?_)
 have aF:=az Z
 refine sq<|Rg 7 (fun w'=>w'.cell? ⟨D,3,none⟩=some (.int .i64 (((x88.wordsC (((x70.l.length:Nat) : Int)/2)).endC).e))) fun dg a9=>?_
 have bw:=RC.upd aC a9 aA (aE.step (RC.u aC) a9)
 refine bi (RC.fld bw) fun a0=>Rt 0 a0<|Rt 1 a0<|Rt 2 a0<|Rt 3 a0<|Rl 4 a0 (fun _ hs=>hs)<|?_
 have bz:=aG Y a9
 refine R0 5 rfl<|be (ub (ut J (ut U (ui d (u1 ay bz im)) (ac im (ac im av))) (ac (nr a) (ac (ni q.size s) av))) g) mZ fun di cw aH=>?_
 have bB:=ud bv (uz a9 aH) I
 refine bi (RC.fld (RC.upd bw aH (aa (Ne.symm (nb (au g) lr a)) aA) bB)) fun cx=>Rt 6 cx<|re<|tn<|rt<|tr<|bX cw (.int .i64 (((x88.wordsC (((x70.l.length:Nat) : Int)/2)).endC).e))<|?_
 have dj:=aq F (us a8 (us bz aH)) (fun x hx=>(aa (fun e=>(aB (au T) (le (le (le (le (le (le k.size j.size) o.size) f.size) d.size) B.size) M.size) F) (e▸hx)) (aa (fun e=>(aB (au E) (le (le (le (le (le (le (le y.size k.size) j.size) o.size) f.size) d.size) B.size) M.size) F) (e▸hx)) (aa (fun e=>(aB (au g) (le (le (le (le (le (le (le (le q.size y.size) k.size) j.size) o.size) f.size) d.size) B.size) M.size) F) (e▸hx)) aA)))) (fun _ _ h=>h)
 have hs:ag b9 0 c b=aL (aQ.mk c 0 0 0 0 0 0 0 ((ai.mk b false 0).wordV) 0 0 0 (x88.wordsR (((x70.l.length:Nat) : Int)/2)) [] [] [] 0 0 0 0 0 []) (x88.wordsC (((x70.l.length:Nat) : Int)/2)):=by
   subst bj a7
   unfold ag b9 dl cG
   (try simp only[r,z,L,Z,bs,if_true,if_false,decide_true,decide_false,eq_self,true_or,or_true,or_false,false_or,if_true,if_false,co,cm,cn,cv,reduceIte,fX,fW])
   all_goals rfl
 rw[hs]
 exact bh aF bB
 have aF:=aj Z
 refine bp<|sg<|?_
 refine L0<|bP (aZ Y (Ne.symm t) ct)<|?_
 refine L0<|be (ub (ut J (ut U (ui d (u1 ay Y im)) (ac im (ac im av))) (ac (nr a) (ac (ni q.size s) av))) g) (mG c 0 0 0 0 0 0 0 ((ai.mk b false 0).wordV) 0 0 0 (.slice bm ((x88.wordsR (((x70.l.length:Nat) : Int)/2)).length) bq) nS nS nS 0 0 0 0 0 nS) fun dk cy bC=>Pl 1<|nt<|rt<|bX cy (.int .i64 0)<|?_
 have hs:ag b9 0 c b=aL (aQ.mk c 0 0 0 0 0 0 0 ((ai.mk b false 0).wordV) 0 0 0 (x88.wordsR (((x70.l.length:Nat) : Int)/2)) [] [] [] 0 0 0 0 0 []) (x88.wordsC (((x70.l.length:Nat) : Int)/2)):=by
   subst bj a7
   unfold ag b9 dl cG
   (try simp only[r,z,L,Z,bs,if_true,if_false,decide_true,decide_false,eq_self,true_or,or_true,or_false,false_or,if_true,if_false,co,cm,cn,cv,reduceIte,fX,fW])
   all_goals rfl
 rw[hs]
 exact bt aF ⟨_,_,_,_,_,rfl,((aq F (us a8 (us Y bC)) (fun x hx=>(aa (fun e=>(aB (au T) (le (le (le (le (le (le k.size j.size) o.size) f.size) d.size) B.size) M.size) F) (e▸hx)) (aa (fun e=>(aB (au E) (le (le (le (le (le (le (le y.size k.size) j.size) o.size) f.size) d.size) B.size) M.size) F) (e▸hx)) (aa (fun e=>(aB (au g) (le (le (le (le (le (le (le (le q.size y.size) k.size) j.size) o.size) f.size) d.size) B.size) M.size) F) (e▸hx)) aA)))) (fun _ _ h=>h))).rd,aS.nil ..,(fun _ _ _=>aS.nil ..),aS.nil ..,aS.nil ..,⟨(b8 (x:=c) (by omega)),(b8 (x:=0) (by omega)),(aD (x:=0) (by omega)),(aD (x:=0) (by omega)),(aD (x:=0) (by omega)),(aD (x:=0) (by omega)),(aD (x:=0) (by omega)),(aD (x:=0) (by omega)),(aD (x:=(ai.mk b false 0).wordV) (by omega)),(aD (x:=0) (by omega)),(aD (x:=0) (by omega)),(aD (x:=0) (by omega)),(b8 (x:=0) (by omega)),(b8 (x:=0) (by omega)),(b8 (x:=0) (by omega)),(b8 (x:=0) (by omega)),(b8 (x:=0) (by omega))⟩⟩ (ud bv bC I)
 have ch:=ak L
 refine bp<|sg<|Pl 1<|L0<|Oc<|m3 (d6 V) fun cz bD G dm=>Pl 1<|ng<|Pl 3<|?_
 have bE:=aZ G (Ne.symm t) ax
 refine L0<|aP bE 8<|Pl 1<|L0<|Oc<|m1 (wg (dir:=0) (sub:=(ai.mk b false 0).wordV) (v:=x70.wordV) (w:=cz) (by omega)) fun dn C=>?_
 refine L0<|Oc<|m2 (b7 ((fg 0 ((ai.mk b false 0).wordV) x70.wordV)) 6 (RC.upd bD C aA (aE.step (RC.u bD) C))) fun dp cA N=>?_
 refine fL cA fun O bF cB=>?_
 refine nt<|go<|Pl 1<|L0<|cO (m:=1) (e:=24) #[.int .u16 x70.wordV] fun bG dq cC cD bH=>?_
 have H:=dh cC (xs:=[x70.wordV]) (by as_aux_lemma=>kernel_rfl) (al (by omega) aJ) (by(try simp only[List.length_cons,List.length_nil]);omega) cD
 refine Pl 1<|?_
 have bI:=uz C (aG N bH)
 refine L0<|cg (aZ bI (Ne.symm t) bE) 12 (mG c 0 0 0 0 0 0 0 ((ai.mk b false 0).wordV) 0 0 0 (.slice (some ⟨bG,0,none⟩) 1 1) nS nS nS 0 0 0 0 0 nS) fun dr cE ab=>nl<|bn<|tn<|sg<|Pl 1<|?_
 have aI:=ui G (us bI ab)
 have bJ:=ut bd aI (ac (ni i.size a) (ac (ni (le i.size q.size) s) av))
 refine L0<|Oc<|m2 (ex (RC.upd cB (uz bH ab) (aa t aA) bJ)) fun ds aK a1=>nt<|sq<|sg<|Pl 3<|L0<|eC (p:=⟨D,3,none⟩) (v:=.int .i64 O.endC.e) (RC.fld aK)<|Pl 1<|nt<|?_
 have bK:=ud bJ a1 (le i.size a)
 refine cb ((O.endC.e != 0)) (fun a2=>?_) (fun a2=>?_)
 have aM:=az a2
 refine sq<|Rg 7 (fun w'=>w'.cell? ⟨D,3,none⟩=some (.int .i64 O.endC.e)) fun dt ad=>?_
 have bL:=RC.upd aK ad aA (aE.step (RC.u aK) ad)
 refine bi (RC.fld bL) fun a3=>Rt 0 a3<|Rt 1 a3<|Rt 2 a3<|Rt 3 a3<|Rl 4 a3 (fun _ hs=>hs)<|?_
 have bM:=aG a1 ad
 refine R0 5 rfl<|be (ub (ut J (ut U (ui d (u1 aI bM im)) (ac im (ac im av))) (ac (nr a) (ac (ni q.size s) av))) g) mZ fun du cF aN=>?_
 have bN:=ud bK (uz ad aN) I
 refine bi (RC.fld (RC.upd bL aN (aa (Ne.symm (nb (au g) lr a)) aA) bN)) fun cH=>Rt 6 cH<|re<|tn<|rt<|tr<|bX cF (.int .i64 O.endC.e)<|?_
 have dv:=aq H (us ab (us bM aN)) (fun x hx=>(aa (fun e=>(aB (au T) (le (le (le (le (le (le (le k.size j.size) o.size) f.size) d.size) G.size) C.size) N.size) H) (e▸hx)) (aa (fun e=>(aB (au E) (le (le (le (le (le (le (le (le y.size k.size) j.size) o.size) f.size) d.size) G.size) C.size) N.size) H) (e▸hx)) (aa (fun e=>(aB (au g) (le (le (le (le (le (le (le (le (le q.size y.size) k.size) j.size) o.size) f.size) d.size) G.size) C.size) N.size) H) (e▸hx)) aA)))) (fun _ _ h=>h)
 have hs:ag b9 0 c b=aL (aQ.mk c 0 0 0 0 0 0 0 ((ai.mk b false 0).wordV) 0 0 0 [x70.wordV] [] [] [] 0 0 0 0 0 []) O:=by
   subst bF a7
   unfold ag b9 dl cG
   (try simp only[r,z,L,a2,bs,if_true,if_false,decide_true,decide_false,eq_self,true_or,or_true,or_false,false_or,if_true,if_false,co,cm,cn,cv,reduceIte,fX,fW])
   all_goals rfl
 rw[hs]
 exact bh aM bN
 have aM:=aj a2
 refine bp<|sg<|?_
 refine L0<|bP (aZ a1 (Ne.symm t) cE)<|?_
 refine L0<|be (ub (ut J (ut U (ui d (u1 aI a1 im)) (ac im (ac im av))) (ac (nr a) (ac (ni q.size s) av))) g) (mG c 0 0 0 0 0 0 0 ((ai.mk b false 0).wordV) 0 0 0 (.slice (some ⟨bG,0,none⟩) 1 1) nS nS nS 0 0 0 0 0 nS) fun dw cI bO=>Pl 1<|nt<|rt<|bX cI (.int .i64 0)<|?_
 have hs:ag b9 0 c b=aL (aQ.mk c 0 0 0 0 0 0 0 ((ai.mk b false 0).wordV) 0 0 0 [x70.wordV] [] [] [] 0 0 0 0 0 []) O:=by
   subst bF a7
   unfold ag b9 dl cG
   (try simp only[r,z,L,a2,bs,if_true,if_false,decide_true,decide_false,eq_self,true_or,or_true,or_false,false_or,if_true,if_false,co,cm,cn,cv,reduceIte,fX,fW])
   all_goals rfl
 rw[hs]
 exact bt aM ⟨_,_,_,_,_,rfl,((aq H (us ab (us a1 bO)) (fun x hx=>(aa (fun e=>(aB (au T) (le (le (le (le (le (le (le k.size j.size) o.size) f.size) d.size) G.size) C.size) N.size) H) (e▸hx)) (aa (fun e=>(aB (au E) (le (le (le (le (le (le (le (le y.size k.size) j.size) o.size) f.size) d.size) G.size) C.size) N.size) H) (e▸hx)) (aa (fun e=>(aB (au g) (le (le (le (le (le (le (le (le (le q.size y.size) k.size) j.size) o.size) f.size) d.size) G.size) C.size) N.size) H) (e▸hx)) aA)))) (fun _ _ h=>h))).rd,aS.nil ..,(fun _ _ _=>aS.nil ..),aS.nil ..,aS.nil ..,⟨(b8 (x:=c) (by omega)),(b8 (x:=0) (by omega)),(aD (x:=0) (by omega)),(aD (x:=0) (by omega)),(aD (x:=0) (by omega)),(aD (x:=0) (by omega)),(aD (x:=0) (by omega)),(aD (x:=0) (by omega)),(aD (x:=(ai.mk b false 0).wordV) (by omega)),(aD (x:=0) (by omega)),(aD (x:=0) (by omega)),(aD (x:=0) (by omega)),(b8 (x:=0) (by omega)),(b8 (x:=0) (by omega)),(b8 (x:=0) (by omega)),(b8 (x:=0) (by omega)),(b8 (x:=0) (by omega))⟩⟩ (ud bK bO I)
 have c8:=ak z
 refine sg<|Pl 3<|nt<|c1<|sk<|bn<|tn<|sg<|Pl 1<|?_
 have cJ:RC w _ A cp b b3 D (ai.mk b false 0):=⟨hsl,a6,(Nat.le_trans i.size a),⟨0,(ub ao E),Nat.zero_le _,rfl⟩,by omega⟩
 refine L0<|Oc<|m2 (ex cJ) fun dx aO af=>nt<|sq<|sg<|Pl 3<|L0<|eC (p:=⟨D,3,none⟩) (v:=.int .i64 (((ai.mk b false 0).endC).e)) (RC.fld aO)<|Pl 1<|nt<|?_
 have bR:=ud a6 af (le i.size a)
 refine cb (((((ai.mk b false 0).endC).e)!=0)) (fun a4=>?_) (fun a4=>?_)
 have aR:=az a4
 refine sq<|Rg 7 (fun w'=>w'.cell? ⟨D,3,none⟩=some (.int .i64 (((ai.mk b false 0).endC).e))) fun dy ah=>?_
 have bS:=RC.upd aO ah aA (aE.step (RC.u aO) ah)
 refine bi (RC.fld bS) fun a5=>Rt 0 a5<|Rt 1 a5<|Rt 2 a5<|Rt 3 a5<|Rl 4 a5 (fun _ hs=>hs)<|?_
 refine R0 5 rfl<|be (ub (ud J (aG af ah) a) g) mZ fun dz cL bT=>?_
 have bU:=ud bR (uz ah bT) I
 refine bi (RC.fld (RC.upd bS bT (aa (Ne.symm (nb (au g) lr a)) aA) bU)) fun cM=>Rt 6 cM<|re<|tn<|rt<|tr<|bX cL (.int .i64 (((ai.mk b false 0).endC).e))<|?_
 have hs:ag b9 0 c b=aL (aQ.mk c 0 0 0 0 0 0 0 0 0 0 0 [] [] [] [] 0 0 0 0 0 []) (ai.mk b false 0):=by
   unfold ag b9 dl cG
   (try simp only[r,z,a4,bs,if_true,if_false,decide_true,decide_false,eq_self,true_or,or_true,or_false,false_or,if_true,if_false,co,cm,cn,cv,reduceIte,fX,fW])
   all_goals rfl
 rw[hs]
 exact bh aR bU
 have aR:=aj a4
 refine bp<|sg<|?_
 refine L0<|bP (aZ af (Ne.symm (nb (au E) lr s)) b4)<|?_
 refine L0<|be (ub (ud J af a) g) (mC c) fun dA cN cP=>Pl 1<|nt<|rt<|bX cN (.int .i64 0)<|?_
 have hs:ag b9 0 c b=aL (aQ.mk c 0 0 0 0 0 0 0 0 0 0 0 [] [] [] [] 0 0 0 0 0 []) (ai.mk b false 0):=by
   unfold ag b9 dl cG
   (try simp only[r,z,a4,bs,if_true,if_false,decide_true,decide_false,eq_self,true_or,or_true,or_false,false_or,if_true,if_false,co,cm,cn,cv,reduceIte,fX,fW])
   all_goals rfl
 rw[hs]
 exact bt aR ⟨_,_,_,_,_,rfl,aS.nil ..,aS.nil ..,(fun _ _ _=>aS.nil ..),aS.nil ..,aS.nil ..,⟨(b8 (x:=c) (by omega)),(b8 (x:=0) (by omega)),(aD (x:=0) (by omega)),(aD (x:=0) (by omega)),(aD (x:=0) (by omega)),(aD (x:=0) (by omega)),(aD (x:=0) (by omega)),(aD (x:=0) (by omega)),(aD (x:=0) (by omega)),(aD (x:=0) (by omega)),(aD (x:=0) (by omega)),(aD (x:=0) (by omega)),(b8 (x:=0) (by omega)),(b8 (x:=0) (by omega)),(b8 (x:=0) (by omega)),(b8 (x:=0) (by omega)),(b8 (x:=0) (by omega))⟩⟩ (ud bR cP I)
theorem lb{m:Md}{A:Option Addr}{cp:Nat}{b:List Int}{w:World}{c:Int}(hcode:B8 c)(hsl:bo m w (.slice A b.length cp) b)(hb:b.length≤1048576) :
    Calls Tryz.prog 95 #[.int .i64 1,.int .u8 c,.slice A b.length cp] w (cK (.slice A b.length cp) b (ag b9 1 c b) w):=by
 obtain⟨hcode1,hcode2⟩:=hcode
 have hln:(b.length:Int)≤1048576:=by omega
 refine en 197 Tryz.func95 rfl<|sg<|L0<|bQ mZ fun ft fu B i d=>Pl 1<|nt<|sq<|sg<|Pl 6<|nt<|c0<|?_
 refine bp<|sq<|sg<|Pl 3<|cu 3 [24] 27 (((c != 7)&&(c != 8))) (fun K bY=>?_) ?_
 refine bl 24 ((c != 7)) (fun a0=>?_) (fun a0=>?_)
 have dL:=az a0
 exact Pl 3<|ce bY (c != 8) (by rw[a0];rfl)
 have dL:=aj a0
 exact Pl 3<|ce bY false (by rw[a0];rfl)
 refine Pl 1<|cu 3 [28] 31 ((((c != 7)&&(c != 8))&&(c != 11))) (fun K bZ=>?_) ?_
 refine bl 28 (((c != 7)&&(c != 8))) (fun a1=>?_) (fun a1=>?_)
 have dM:=(b6 a1).1
 have dN:=(b6 a1).2
 have fv:=az dM
 have fw:=az dN
 exact Pl 3<|ce bZ (c != 11) (by rw[a1];rfl)
 exact Pl 3<|ce bZ false (by rw[a1];rfl)
 refine Pl 1<|cu 3 [32] 35 (((((c != 7)&&(c != 8))&&(c != 11))&&(c != 12))) (fun K c1=>?_) ?_
 refine bl 32 ((((c != 7)&&(c != 8))&&(c != 11))) (fun a2=>?_) (fun a2=>?_)
 have c2:=(b6 a2).1
 have dO:=(b6 a2).2
 have dP:=(b6 c2).1
 have dQ:=(b6 c2).2
 have q19aap:=az dP
 have q19abp:=az dQ
 have fx:=az dO
 exact Pl 3<|ce c1 (c != 12) (by rw[a2];rfl)
 exact Pl 3<|ce c1 false (by rw[a2];rfl)
 refine Pl 1<|cu 3 [36] 39 ((((((c != 7)&&(c != 8))&&(c != 11))&&(c != 12))&&(c != 17))) (fun K c3=>?_) ?_
 refine bl 36 (((((c != 7)&&(c != 8))&&(c != 11))&&(c != 12))) (fun a3=>?_) (fun a3=>?_)
 have c4:=(b6 a3).1
 have dR:=(b6 a3).2
 have c5:=(b6 c4).1
 have dS:=(b6 c4).2
 have q21aaa:=(b6 c5).1
 have q21aab:=(b6 c5).2
 have q21aaap:=az q21aaa
 have q21aabp:=az q21aab
 have q21abp:=az dS
 have fy:=az dR
 exact Pl 3<|ce c3 (c != 17) (by rw[a3];rfl)
 exact Pl 3<|ce c3 false (by rw[a3];rfl)
 refine nt<|cb ((((((c != 7)&&(c != 8))&&(c != 11))&&(c != 12))&&(c != 17))) (fun q=>?_) (fun q=>?_)
 have bb:=(b6 q).1
 have c6:=(b6 q).2
 have bc:=(b6 bb).1
 have c7:=(b6 bb).2
 have q23aaa:=(b6 bc).1
 have q23aab:=(b6 bc).2
 have q23aaaa:=(b6 q23aaa).1
 have q23aaab:=(b6 q23aaa).2
 have q23aaaap:=az q23aaaa
 have q23aaabp:=az q23aaab
 have q23aabp:=az q23aab
 have q23abp:=az c7
 have fz:=az c6
 refine sg<|Pl 1<|L0<|be i mZ fun fA dT dU=>Pl 1<|nt<|rt<|tr<|bX dT (.int .i64 4)<|?_
 have hs:ag b9 1 c b=(aQ.zero,4):=by
   unfold ag b9 dl cG
   (try simp only[q,bb,bc,q23aaa,q23aaaa,q23aaab,q23aab,c7,c6,bs,if_true,if_false,decide_true,decide_false,eq_self,true_or,or_true,or_false,false_or,if_true,if_false,co,cm,cn,cv,reduceIte,fX,fW])
   all_goals rfl
 rw[hs]
 exact bA (ud d dU B)
 refine bp<|sg<|Pl 2<|L0<|dC #[.slice A b.length cp,.int .i64 0,.bool false,.int .i64 0] fun o fB a t g=>Pl 1<|ng<|Pl 2<|L0<|bQ mZ fun fC fD f a4 L=>L0<|be a4 (mC c) fun a5 a6 C=>?_
 refine nt<|sq<|bk<|sg<|Pl 3<|nt<|?_
 have X:=ud L C f
 have D:=aG g X
 have I:=aG d D
 refine cb ((c==8)) (fun r=>?_) (fun r=>?_)
 have dV:=ae r
 refine sg<|Pl 1<|?_
 have dW:RC w _ A cp b a5 o (ai.mk b false 0):=⟨hsl,I,(Nat.le_trans d.size a),⟨0,(ub X t),Nat.zero_le _,rfl⟩,by omega⟩
 refine L0<|Oc<|m3 (d6 dW) fun fE dX y fF=>Pl 1<|?_
 have J:=nb (au t) lr f
 refine L0<|cg (aZ y (Ne.symm J) a6) 8 (mG c 0 0 0 0 0 0 0 ((ai.mk b false 0).wordV) 0 0 0 nS nS nS nS 0 0 0 0 0 nS) fun dY bd E=>ng<|Pl 1<|L0<|aP bd 8<|L0<|Oc<|m1 (ww (x:=(ai.mk b false 0).wordV) (w:=dY) (by omega)) fun fG s=>Pl 1<|ng<|Pl 3<|cu 8 [72] 80 (((eo ((ai.mk b false 0).wordV))&&(((ai.mk b false 0).wordV)!=4))) (fun K c8=>?_) ?_
 refine bl 72 ((eo ((ai.mk b false 0).wordV))) (fun bf=>?_) (fun bf=>?_)
 refine Pl 1<|?_
 refine L1<|aP (ub s bd) 8<|Pl 2<|cu 3 [76] 79 ((((ai.mk b false 0).wordV)!=4)) (fun K c9=>?_) ?_
 refine bl 76 ((((ai.mk b false 0).wordV)!=4)) (fun a7=>?_) (fun a7=>?_)
 have dZ:=az a7
 exact Pl 3<|ce c9 true a7
 have dZ:=aj a7
 exact Pl 3<|ce c9 false a7
 exact Pl 1<|ce c8 (((ai.mk b false 0).wordV)!=4) (by rw[bf];rfl)
 exact Pl 8<|ce c8 false (by rw[bf];rfl)
 have ca:=aG E s
 have a8:=us y ca
 have cc:=ut I a8 (ac (ni d.size a) (ac (ni (le d.size g.size) f) av))
 refine L0<|Oc<|m2 (b7 (((eo ((ai.mk b false 0).wordV))&&(((ai.mk b false 0).wordV)!=4))) 8 (RC.upd dX ca (aa J aA) cc)) fun fH e0 j=>?_
 refine fL e0 fun x70 aT a9=>?_
 refine nt<|sq<|sg<|Pl 1<|?_
 have bg:=aZ (uz s j) (Ne.symm J) bd
 refine L0<|aP bg 8<|Pl 1<|nt<|?_
 have cd:=ud cc j (le d.size a)
 refine cb ((((ai.mk b false 0).wordV)==0)) (fun T=>?_) (fun T=>?_)
 have e1:=ae T
 refine sg<|Pl 1<|L0<|Oc<|m1 (io a9) fun fI M=>?_
 have fJ:=RC.clen a9
 refine Pl 1<|ng<|Pl 2<|L0<|Oe (.int .i64 (Int.tmod ((x70.l.length:Nat) : Int) 2)) (.int .i64 (((x70.l.length:Nat) : Int)%2)) (congrArg (Value.int .i64) (Int.tmod_eq_emod_of_nonneg (by omega)))<|Pl 2<|cu 3 [91] 94 ((((((x70.l.length:Nat) : Int)%2)==0)&&(decide (2≤((x70.l.length:Nat) : Int))))) (fun K cf=>?_) ?_
 refine bl 91 (((((x70.l.length:Nat) : Int)%2)==0)) (fun ab=>?_) (fun ab=>?_)
 have e2:=ae ab
 exact Pl 3<|ce cf (decide (2≤((x70.l.length:Nat) : Int))) (by rw[ab];rfl)
 have e2:=ak ab
 exact Pl 3<|ce cf false (by rw[ab];rfl)
 refine Pl 1<|cu 3 [95] 98 (((((((x70.l.length:Nat) : Int)%2)==0)&&(decide (2≤((x70.l.length:Nat) : Int))))&&(decide (((x70.l.length:Nat) : Int)≤250)))) (fun K ch=>?_) ?_
 refine bl 95 ((((((x70.l.length:Nat) : Int)%2)==0)&&(decide (2≤((x70.l.length:Nat) : Int))))) (fun ad=>?_) (fun ad=>?_)
 have e3:=(b6 ad).1
 have e4:=(b6 ad).2
 have fM:=ae e3
 have fN:=of_decide_eq_true e4
 exact Pl 3<|ce ch (decide (((x70.l.length:Nat) : Int)≤250)) (by rw[ad];rfl)
 exact Pl 3<|ce ch false (by rw[ad];rfl)
 refine L0<|Oc<|m2 (b7 (((((((x70.l.length:Nat) : Int)%2)==0)&&(decide (2≤((x70.l.length:Nat) : Int))))&&(decide (((x70.l.length:Nat) : Int)≤250)))) 5 (RC.upd a9 M aA (aE.step (RC.u a9) M))) fun fO e5 U=>?_
 refine fL e5 fun x88 ci e6=>?_
 refine ng<|Pl 2<|L0<|Oe (.int .i64 (IntKind.i64.wrap (Int.tdiv ((x70.l.length:Nat) : Int) 2))) (.int .i64 (((x70.l.length:Nat) : Int)/2)) (congrArg (Value.int .i64) (fS (by omega) (by omega)))<|L0<|Oc<|my (fV (n:=(((x70.l.length:Nat) : Int)/2)) (by omega) e6) fun cj ck fP Q fQ fR e7 e8=>Pl 1<|?_
 have cl:=uz M (u1 U e8 im)
 refine L0<|cg (aZ cl (Ne.symm J) bg) 12 (mG c 0 0 0 0 0 0 0 ((ai.mk b false 0).wordV) 0 0 0 (.slice cj ((x88.wordsR (((x70.l.length:Nat) : Int)/2)).length) ck) nS nS nS 0 0 0 0 0 nS) fun fT e9 aU=>nt<|xt<|tx<|bx<|tn<|sg<|Pl 1<|?_
 have bj:=us cl aU
 have cq:=ut cd bj (ac (ni d.size a) (ac (ni (le d.size g.size) f) av))
 refine L0<|Oc<|m2 (ex (RC.upd e7 aU (aa J aA) cq)) fun fU bm af=>nt<|sq<|sg<|Pl 3<|L0<|eC (p:=⟨o,3,none⟩) (v:=.int .i64 (((x88.wordsC (((x70.l.length:Nat) : Int)/2)).endC).e)) (RC.fld bm)<|Pl 1<|nt<|?_
 have cr:=ud cq af (le d.size a)
 refine cb (((((x88.wordsC (((x70.l.length:Nat) : Int)/2)).endC).e)!=0)) (fun ah=>?_) (fun ah=>?_)
 have bq:=az ah
 refine sq<|Rg 7 (fun w'=>w'.cell? ⟨o,3,none⟩=some (.int .i64 (((x88.wordsC (((x70.l.length:Nat) : Int)/2)).endC).e))) fun fY aV=>?_
 have cs:=RC.upd bm aV aA (aE.step (RC.u bm) aV)
 refine bi (RC.fld cs) fun am=>Rt 0 am<|Rt 1 am<|Rt 2 am<|Rt 3 am<|Rl 4 am (fun _ hs=>hs)<|?_
 have ct:=aG af aV
 refine R0 5 rfl<|be (ub (ut D (ut a8 (ui j (u1 bj ct im)) (ac im (ac im av))) (ac (nr a) (ac (ni g.size f) av))) i) mZ fun fZ ea br=>?_
 have cw:=ud cr (uz aV br) B
 refine bi (RC.fld (RC.upd cs br (aa (Ne.symm (nb (au i) lr a)) aA) cw)) fun ec=>Rt 6 ec<|re<|tn<|rt<|tr<|bX ea (.int .i64 (((x88.wordsC (((x70.l.length:Nat) : Int)/2)).endC).e))<|?_
 have g0:=aq Q (us aU (us ct br)) (fun x hx=>(aa (fun e=>(aB (au a4) (le (le (le (le (le (le C.size y.size) E.size) s.size) j.size) M.size) U.size) Q) (e▸hx)) (aa (fun e=>(aB (au t) (le (le (le (le (le (le (le L.size C.size) y.size) E.size) s.size) j.size) M.size) U.size) Q) (e▸hx)) (aa (fun e=>(aB (au i) (le (le (le (le (le (le (le (le g.size L.size) C.size) y.size) E.size) s.size) j.size) M.size) U.size) Q) (e▸hx)) aA)))) (fun _ _ h=>h)
 have hs:ag b9 1 c b=aL (aQ.mk c 0 0 0 0 0 0 0 ((ai.mk b false 0).wordV) 0 0 0 (x88.wordsR (((x70.l.length:Nat) : Int)/2)) [] [] [] 0 0 0 0 0 []) (x88.wordsC (((x70.l.length:Nat) : Int)/2)):=by
   subst ci aT
   unfold ag b9 dl cG
   (try simp only[q,r,T,ah,bs,if_true,if_false,decide_true,decide_false,eq_self,true_or,or_true,or_false,false_or,if_true,if_false,co,cm,cn,cv,reduceIte,fX,fW])
   all_goals rfl
 rw[hs]
 exact bh bq cw
 have bq:=aj ah
 refine bp<|sg<|?_
 refine L0<|bP (aZ af (Ne.symm J) e9)<|?_
 refine L0<|be (ub (ut D (ut a8 (ui j (u1 bj af im)) (ac im (ac im av))) (ac (nr a) (ac (ni g.size f) av))) i) (mG c 0 0 0 0 0 0 0 ((ai.mk b false 0).wordV) 0 0 0 (.slice cj ((x88.wordsR (((x70.l.length:Nat) : Int)/2)).length) ck) nS nS nS 0 0 0 0 0 nS) fun g1 ed cx=>Pl 1<|nt<|rt<|bX ed (.int .i64 0)<|?_
 have hs:ag b9 1 c b=aL (aQ.mk c 0 0 0 0 0 0 0 ((ai.mk b false 0).wordV) 0 0 0 (x88.wordsR (((x70.l.length:Nat) : Int)/2)) [] [] [] 0 0 0 0 0 []) (x88.wordsC (((x70.l.length:Nat) : Int)/2)):=by
   subst ci aT
   unfold ag b9 dl cG
   (try simp only[q,r,T,ah,bs,if_true,if_false,decide_true,decide_false,eq_self,true_or,or_true,or_false,false_or,if_true,if_false,co,cm,cn,cv,reduceIte,fX,fW])
   all_goals rfl
 rw[hs]
 exact bt bq ⟨_,_,_,_,_,rfl,((aq Q (us aU (us af cx)) (fun x hx=>(aa (fun e=>(aB (au a4) (le (le (le (le (le (le C.size y.size) E.size) s.size) j.size) M.size) U.size) Q) (e▸hx)) (aa (fun e=>(aB (au t) (le (le (le (le (le (le (le L.size C.size) y.size) E.size) s.size) j.size) M.size) U.size) Q) (e▸hx)) (aa (fun e=>(aB (au i) (le (le (le (le (le (le (le (le g.size L.size) C.size) y.size) E.size) s.size) j.size) M.size) U.size) Q) (e▸hx)) aA)))) (fun _ _ h=>h))).rd,aS.nil ..,(fun _ _ _=>aS.nil ..),aS.nil ..,aS.nil ..,⟨(b8 (x:=c) (by omega)),(b8 (x:=0) (by omega)),(aD (x:=0) (by omega)),(aD (x:=0) (by omega)),(aD (x:=0) (by omega)),(aD (x:=0) (by omega)),(aD (x:=0) (by omega)),(aD (x:=0) (by omega)),(aD (x:=(ai.mk b false 0).wordV) (by omega)),(aD (x:=0) (by omega)),(aD (x:=0) (by omega)),(aD (x:=0) (by omega)),(b8 (x:=0) (by omega)),(b8 (x:=0) (by omega)),(b8 (x:=0) (by omega)),(b8 (x:=0) (by omega)),(b8 (x:=0) (by omega))⟩⟩ (ud cr cx B)
 have e1:=ak T
 refine bp<|sg<|Pl 1<|L0<|Oc<|m3 (d6 a9) fun ee cy R g2=>Pl 1<|ng<|Pl 3<|?_
 have cz:=aZ R (Ne.symm J) bg
 refine L0<|aP cz 8<|Pl 1<|L0<|Oc<|m1 (wg (dir:=1) (sub:=(ai.mk b false 0).wordV) (v:=x70.wordV) (w:=ee) (by omega)) fun g3 N=>?_
 refine L0<|Oc<|m2 (b7 ((fg 1 ((ai.mk b false 0).wordV) x70.wordV)) 6 (RC.upd cy N aA (aE.step (RC.u cy) N))) fun g4 ef V=>?_
 refine fL ef fun Y cA eg=>?_
 refine nt<|go<|Pl 1<|L0<|cO (m:=1) (e:=24) #[.int .u16 x70.wordV] fun cB g5 eh ei cC=>?_
 have S:=dh eh (xs:=[x70.wordV]) (by as_aux_lemma=>kernel_rfl) (al (by omega) aJ) (by(try simp only[List.length_cons,List.length_nil]);omega) ei
 refine Pl 1<|?_
 have cD:=uz N (aG V cC)
 refine L0<|cg (aZ cD (Ne.symm J) cz) 12 (mG c 0 0 0 0 0 0 0 ((ai.mk b false 0).wordV) 0 0 0 (.slice (some ⟨cB,0,none⟩) 1 1) nS nS nS 0 0 0 0 0 nS) fun g6 ej aW=>nl<|bn<|tn<|sg<|Pl 1<|?_
 have bu:=ui R (us cD aW)
 have cE:=ut cd bu (ac (ni d.size a) (ac (ni (le d.size g.size) f) av))
 refine L0<|Oc<|m2 (ex (RC.upd eg (uz cC aW) (aa J aA) cE)) fun g7 bv an=>nt<|sq<|sg<|Pl 3<|L0<|eC (p:=⟨o,3,none⟩) (v:=.int .i64 Y.endC.e) (RC.fld bv)<|Pl 1<|nt<|?_
 have cF:=ud cE an (le d.size a)
 refine cb ((Y.endC.e != 0)) (fun ao=>?_) (fun ao=>?_)
 have bw:=az ao
 refine sq<|Rg 7 (fun w'=>w'.cell? ⟨o,3,none⟩=some (.int .i64 Y.endC.e)) fun g8 aX=>?_
 have cH:=RC.upd bv aX aA (aE.step (RC.u bv) aX)
 refine bi (RC.fld cH) fun ap=>Rt 0 ap<|Rt 1 ap<|Rt 2 ap<|Rt 3 ap<|Rl 4 ap (fun _ hs=>hs)<|?_
 have cI:=aG an aX
 refine R0 5 rfl<|be (ub (ut D (ut a8 (ui j (u1 bu cI im)) (ac im (ac im av))) (ac (nr a) (ac (ni g.size f) av))) i) mZ fun g9 ek bz=>?_
 have cJ:=ud cF (uz aX bz) B
 refine bi (RC.fld (RC.upd cH bz (aa (Ne.symm (nb (au i) lr a)) aA) cJ)) fun el=>Rt 6 el<|re<|tn<|rt<|tr<|bX ek (.int .i64 Y.endC.e)<|?_
 have ga:=aq S (us aW (us cI bz)) (fun x hx=>(aa (fun e=>(aB (au a4) (le (le (le (le (le (le (le C.size y.size) E.size) s.size) j.size) R.size) N.size) V.size) S) (e▸hx)) (aa (fun e=>(aB (au t) (le (le (le (le (le (le (le (le L.size C.size) y.size) E.size) s.size) j.size) R.size) N.size) V.size) S) (e▸hx)) (aa (fun e=>(aB (au i) (le (le (le (le (le (le (le (le (le g.size L.size) C.size) y.size) E.size) s.size) j.size) R.size) N.size) V.size) S) (e▸hx)) aA)))) (fun _ _ h=>h)
 have hs:ag b9 1 c b=aL (aQ.mk c 0 0 0 0 0 0 0 ((ai.mk b false 0).wordV) 0 0 0 [x70.wordV] [] [] [] 0 0 0 0 0 []) Y:=by
   subst cA aT
   unfold ag b9 dl cG
   (try simp only[q,r,T,ao,bs,if_true,if_false,decide_true,decide_false,eq_self,true_or,or_true,or_false,false_or,if_true,if_false,co,cm,cn,cv,reduceIte,fX,fW])
   all_goals rfl
 rw[hs]
 exact bh bw cJ
 have bw:=aj ao
 refine bp<|sg<|?_
 refine L0<|bP (aZ an (Ne.symm J) ej)<|?_
 refine L0<|be (ub (ut D (ut a8 (ui j (u1 bu an im)) (ac im (ac im av))) (ac (nr a) (ac (ni g.size f) av))) i) (mG c 0 0 0 0 0 0 0 ((ai.mk b false 0).wordV) 0 0 0 (.slice (some ⟨cB,0,none⟩) 1 1) nS nS nS 0 0 0 0 0 nS) fun gb em cL=>Pl 1<|nt<|rt<|bX em (.int .i64 0)<|?_
 have hs:ag b9 1 c b=aL (aQ.mk c 0 0 0 0 0 0 0 ((ai.mk b false 0).wordV) 0 0 0 [x70.wordV] [] [] [] 0 0 0 0 0 []) Y:=by
   subst cA aT
   unfold ag b9 dl cG
   (try simp only[q,r,T,ao,bs,if_true,if_false,decide_true,decide_false,eq_self,true_or,or_true,or_false,false_or,if_true,if_false,co,cm,cn,cv,reduceIte,fX,fW])
   all_goals rfl
 rw[hs]
 exact bt bw ⟨_,_,_,_,_,rfl,((aq S (us aW (us an cL)) (fun x hx=>(aa (fun e=>(aB (au a4) (le (le (le (le (le (le (le C.size y.size) E.size) s.size) j.size) R.size) N.size) V.size) S) (e▸hx)) (aa (fun e=>(aB (au t) (le (le (le (le (le (le (le (le L.size C.size) y.size) E.size) s.size) j.size) R.size) N.size) V.size) S) (e▸hx)) (aa (fun e=>(aB (au i) (le (le (le (le (le (le (le (le (le g.size L.size) C.size) y.size) E.size) s.size) j.size) R.size) N.size) V.size) S) (e▸hx)) aA)))) (fun _ _ h=>h))).rd,aS.nil ..,(fun _ _ _=>aS.nil ..),aS.nil ..,aS.nil ..,⟨(b8 (x:=c) (by omega)),(b8 (x:=0) (by omega)),(aD (x:=0) (by omega)),(aD (x:=0) (by omega)),(aD (x:=0) (by omega)),(aD (x:=0) (by omega)),(aD (x:=0) (by omega)),(aD (x:=0) (by omega)),(aD (x:=(ai.mk b false 0).wordV) (by omega)),(aD (x:=0) (by omega)),(aD (x:=0) (by omega)),(aD (x:=0) (by omega)),(b8 (x:=0) (by omega)),(b8 (x:=0) (by omega)),(b8 (x:=0) (by omega)),(b8 (x:=0) (by omega)),(b8 (x:=0) (by omega))⟩⟩ (ud cF cL B)
 have dV:=ak r
 refine sg<|Pl 3<|nt<|c0<|sg<|Pl 3<|nt<|cb ((c==7)) (fun F=>?_) (fun F=>?_)
 have ep:=ae F
 refine go<|Pl 1<|?_
 have eq:RC w _ A cp b a5 o (ai.mk b false 0):=⟨hsl,I,(Nat.le_trans d.size a),⟨0,(ub X t),Nat.zero_le _,rfl⟩,by omega⟩
 refine L0<|Oc<|m3 (eb eq) fun gc er cM gd=>L0<|vV ((ai.mk b false 0).byteV)<|Pl 1<|?_
 have bB:=nb (au t) lr f
 refine L0<|cg (aZ cM (Ne.symm bB) a6) 4 (mG c 0 0 0 ((ai.mk b false 0).byteV) 0 0 0 0 0 0 0 nS nS nS nS 0 0 0 0 0 nS) fun ge es cN=>nl<|bn<|tn<|sg<|Pl 1<|?_
 have bC:=us cM cN
 have cP:=ut I bC (ac (ni d.size a) (ac (ni (le d.size g.size) f) av))
 refine L0<|Oc<|m2 (ex (RC.upd er cN (aa bB aA) cP)) fun gf bD aY=>nt<|sq<|sg<|Pl 3<|L0<|eC (p:=⟨o,3,none⟩) (v:=.int .i64 ((((ai.mk b false 0).bytesC 1).endC).e)) (RC.fld bD)<|Pl 1<|nt<|?_
 have cQ:=ud cP aY (le d.size a)
 refine cb ((((((ai.mk b false 0).bytesC 1).endC).e)!=0)) (fun ar=>?_) (fun ar=>?_)
 have bE:=az ar
 refine sq<|Rg 7 (fun w'=>w'.cell? ⟨o,3,none⟩=some (.int .i64 ((((ai.mk b false 0).bytesC 1).endC).e))) fun gg b0=>?_
 have cR:=RC.upd bD b0 aA (aE.step (RC.u bD) b0)
 refine bi (RC.fld cR) fun aw=>Rt 0 aw<|Rt 1 aw<|Rt 2 aw<|Rt 3 aw<|Rl 4 aw (fun _ hs=>hs)<|?_
 refine R0 5 rfl<|be (ub (ut D (u1 bC (aG aY b0) im) (ac (nr a) (ac (ni g.size f) av))) i) mZ fun gh et cS=>?_
 have cT:=ud cQ (uz b0 cS) B
 refine bi (RC.fld (RC.upd cR cS (aa (Ne.symm (nb (au i) lr a)) aA) cT)) fun eu=>Rt 6 eu<|re<|tn<|rt<|tr<|bX et (.int .i64 ((((ai.mk b false 0).bytesC 1).endC).e))<|?_
 have hs:ag b9 1 c b=aL (aQ.mk c 0 0 0 ((ai.mk b false 0).byteV) 0 0 0 0 0 0 0 [] [] [] [] 0 0 0 0 0 []) ((ai.mk b false 0).bytesC 1):=by
   unfold ag b9 dl cG
   (try simp only[q,r,F,ar,bs,if_true,if_false,decide_true,decide_false,eq_self,true_or,or_true,or_false,false_or,if_true,if_false,co,cm,cn,cv,reduceIte,fX,fW])
   all_goals rfl
 rw[hs]
 exact bh bE cT
 have bE:=aj ar
 refine bp<|sg<|?_
 refine L0<|bP (aZ aY (Ne.symm bB) es)<|?_
 refine L0<|be (ub (ut D (u1 bC aY im) (ac (nr a) (ac (ni g.size f) av))) i) (mG c 0 0 0 ((ai.mk b false 0).byteV) 0 0 0 0 0 0 0 nS nS nS nS 0 0 0 0 0 nS) fun gi ev ew=>Pl 1<|nt<|rt<|bX ev (.int .i64 0)<|?_
 have hs:ag b9 1 c b=aL (aQ.mk c 0 0 0 ((ai.mk b false 0).byteV) 0 0 0 0 0 0 0 [] [] [] [] 0 0 0 0 0 []) ((ai.mk b false 0).bytesC 1):=by
   unfold ag b9 dl cG
   (try simp only[q,r,F,ar,bs,if_true,if_false,decide_true,decide_false,eq_self,true_or,or_true,or_false,false_or,if_true,if_false,co,cm,cn,cv,reduceIte,fX,fW])
   all_goals rfl
 rw[hs]
 exact bt bE ⟨_,_,_,_,_,rfl,aS.nil ..,aS.nil ..,(fun _ _ _=>aS.nil ..),aS.nil ..,aS.nil ..,⟨(b8 (x:=c) (by omega)),(b8 (x:=0) (by omega)),(aD (x:=0) (by omega)),(aD (x:=0) (by omega)),(aD (x:=(ai.mk b false 0).byteV) (by omega)),(aD (x:=0) (by omega)),(aD (x:=0) (by omega)),(aD (x:=0) (by omega)),(aD (x:=0) (by omega)),(aD (x:=0) (by omega)),(aD (x:=0) (by omega)),(aD (x:=0) (by omega)),(b8 (x:=0) (by omega)),(b8 (x:=0) (by omega)),(b8 (x:=0) (by omega)),(b8 (x:=0) (by omega)),(b8 (x:=0) (by omega))⟩⟩ (ud cQ ew B)
 have ep:=ak F
 refine sg<|Pl 3<|nt<|cb ((c==11)) (fun O=>?_) (fun O=>?_)
 have ey:=ae O
 refine sg<|Pl 1<|?_
 have ez:RC w _ A cp b a5 o (ai.mk b false 0):=⟨hsl,I,(Nat.le_trans d.size a),⟨0,(ub X t),Nat.zero_le _,rfl⟩,by omega⟩
 refine L0<|Oc<|m3 (d6 ez) fun gj eA cU gk=>Pl 1<|?_
 have ax:=nb (au t) lr f
 refine L0<|cg (aZ cU (Ne.symm ax) a6) 9 (mG c 0 0 0 0 0 0 0 0 ((ai.mk b false 0).wordV) 0 0 nS nS nS nS 0 0 0 0 0 nS) fun gl bF cV=>ng<|Pl 2<|L0<|aP bF 9<|Pl 2<|cu 4 [137] 141 (((((ai.mk b false 0).wordV)==0)||(((ai.mk b false 0).wordV)==65535))) (fun K cW=>?_) ?_
 refine bl 137 ((((ai.mk b false 0).wordV)==0)) (fun ay=>?_) (fun ay=>?_)
 have eB:=ae ay
 exact Pl 4<|ce cW true (by rw[ay];rfl)
 have eB:=ak ay
 exact Pl 1<|L1<|aP bF 9<|Pl 2<|ce cW (((ai.mk b false 0).wordV)==65535) (by rw[ay];rfl)
 have bG:=us cU cV
 have cX:=ut I bG (ac (ni d.size a) (ac (ni (le d.size g.size) f) av))
 refine L0<|Oc<|m2 (b7 (((((ai.mk b false 0).wordV)==0)||(((ai.mk b false 0).wordV)==65535))) 6 (RC.upd eA cV (aa ax aA) cX)) fun gm eD eE=>?_
 refine fL eD fun G cY eF=>?_
 refine nt<|go<|Pl 1<|L0<|Oc<|m3 (d6 eF) fun gn eG eH gp=>Pl 1<|?_
 have cZ:=u1 eE eH im
 refine L0<|cg (aZ cZ (Ne.symm ax) bF) 10 (mG c 0 0 0 0 0 0 0 0 ((ai.mk b false 0).wordV) G.wordV 0 nS nS nS nS 0 0 0 0 0 nS) fun gq eI d0=>nl<|bn<|tn<|sg<|Pl 1<|?_
 have bH:=us cZ d0
 have d1:=ut cX bH (ac (ni d.size a) (ac (ni (le d.size g.size) f) av))
 refine L0<|Oc<|m2 (ex (RC.upd eG d0 (aa ax aA) d1)) fun gr bI b1=>nt<|sq<|sg<|Pl 3<|L0<|eC (p:=⟨o,3,none⟩) (v:=.int .i64 (((G.wordsC 1).endC).e)) (RC.fld bI)<|Pl 1<|nt<|?_
 have d2:=ud d1 b1 (le d.size a)
 refine cb (((((G.wordsC 1).endC).e)!=0)) (fun aC=>?_) (fun aC=>?_)
 have bJ:=az aC
 refine sq<|Rg 7 (fun w'=>w'.cell? ⟨o,3,none⟩=some (.int .i64 (((G.wordsC 1).endC).e))) fun gs b2=>?_
 have d3:=RC.upd bI b2 aA (aE.step (RC.u bI) b2)
 refine bi (RC.fld d3) fun aF=>Rt 0 aF<|Rt 1 aF<|Rt 2 aF<|Rt 3 aF<|Rl 4 aF (fun _ hs=>hs)<|?_
 refine R0 5 rfl<|be (ub (ut D (ut bG (u1 bH (aG b1 b2) im) (ac im (ac im av))) (ac (nr a) (ac (ni g.size f) av))) i) mZ fun gt eJ d4=>?_
 have d5:=ud d2 (uz b2 d4) B
 refine bi (RC.fld (RC.upd d3 d4 (aa (Ne.symm (nb (au i) lr a)) aA) d5)) fun eK=>Rt 6 eK<|re<|tn<|rt<|tr<|bX eJ (.int .i64 (((G.wordsC 1).endC).e))<|?_
 have hs:ag b9 1 c b=aL (aQ.mk c 0 0 0 0 0 0 0 0 ((ai.mk b false 0).wordV) G.wordV 0 [] [] [] [] 0 0 0 0 0 []) (G.wordsC 1):=by
   subst cY
   unfold ag b9 dl cG
   (try simp only[q,r,F,O,aC,bs,if_true,if_false,decide_true,decide_false,eq_self,true_or,or_true,or_false,false_or,if_true,if_false,co,cm,cn,cv,reduceIte,fX,fW])
   all_goals rfl
 rw[hs]
 exact bh bJ d5
 have bJ:=aj aC
 refine bp<|sg<|?_
 refine L0<|bP (aZ b1 (Ne.symm ax) eI)<|?_
 refine L0<|be (ub (ut D (ut bG (u1 bH b1 im) (ac im (ac im av))) (ac (nr a) (ac (ni g.size f) av))) i) (mG c 0 0 0 0 0 0 0 0 ((ai.mk b false 0).wordV) G.wordV 0 nS nS nS nS 0 0 0 0 0 nS) fun gu eL eM=>Pl 1<|nt<|rt<|bX eL (.int .i64 0)<|?_
 have hs:ag b9 1 c b=aL (aQ.mk c 0 0 0 0 0 0 0 0 ((ai.mk b false 0).wordV) G.wordV 0 [] [] [] [] 0 0 0 0 0 []) (G.wordsC 1):=by
   subst cY
   unfold ag b9 dl cG
   (try simp only[q,r,F,O,aC,bs,if_true,if_false,decide_true,decide_false,eq_self,true_or,or_true,or_false,false_or,if_true,if_false,co,cm,cn,cv,reduceIte,fX,fW])
   all_goals rfl
 rw[hs]
 exact bt bJ ⟨_,_,_,_,_,rfl,aS.nil ..,aS.nil ..,(fun _ _ _=>aS.nil ..),aS.nil ..,aS.nil ..,⟨(b8 (x:=c) (by omega)),(b8 (x:=0) (by omega)),(aD (x:=0) (by omega)),(aD (x:=0) (by omega)),(aD (x:=0) (by omega)),(aD (x:=0) (by omega)),(aD (x:=0) (by omega)),(aD (x:=0) (by omega)),(aD (x:=0) (by omega)),(aD (x:=(ai.mk b false 0).wordV) (by omega)),(aD (x:=G.wordV) (by omega)),(aD (x:=0) (by omega)),(b8 (x:=0) (by omega)),(b8 (x:=0) (by omega)),(b8 (x:=0) (by omega)),(b8 (x:=0) (by omega)),(b8 (x:=0) (by omega))⟩⟩ (ud d2 eM B)
 have ey:=ak O
 refine sg<|Pl 3<|nt<|cb ((c==12)) (fun W=>?_) (fun W=>?_)
 have eN:=ae W
 refine sg<|Pl 1<|?_
 have eO:RC w _ A cp b a5 o (ai.mk b false 0):=⟨hsl,I,(Nat.le_trans d.size a),⟨0,(ub X t),Nat.zero_le _,rfl⟩,by omega⟩
 refine L0<|Oc<|m3 (eb eO) fun gv eP eQ gw=>L0<|Oi ((ai.mk b false 0).byteV)<|Pl 1<|ng<|Pl 4<|cu 3 [155] 158 (((decide (6≤((ai.mk b false 0).byteV)))&&(decide (((ai.mk b false 0).byteV)≤70)))) (fun K d7=>?_) ?_
 refine bl 155 ((decide (6≤((ai.mk b false 0).byteV)))) (fun aH=>?_) (fun aH=>?_)
 have eR:=of_decide_eq_true aH
 exact Pl 3<|ce d7 (decide (((ai.mk b false 0).byteV)≤70)) (by rw[aH];rfl)
 have eR:=of_decide_eq_false aH
 exact Pl 3<|ce d7 false (by rw[aH];rfl)
 refine L0<|Oc<|m2 (b7 (((decide (6≤((ai.mk b false 0).byteV)))&&(decide (((ai.mk b false 0).byteV)≤70)))) 5 eP) fun gx eS eT=>?_
 refine fL eS fun z d8 eU=>?_
 refine ng<|Pl 1<|L0<|Oc<|m3 (d6 eU) fun gy eV eW gz=>Pl 1<|?_
 have d9:=u1 eQ (u1 eT eW im) im
 have P:=nb (au t) lr f
 refine L0<|cg (aZ d9 (Ne.symm P) a6) 9 (mG c 0 0 0 0 0 0 0 0 z.wordV 0 0 nS nS nS nS 0 0 0 0 0 nS) fun gA bK da=>ng<|Pl 2<|L0<|aP bK 9<|Pl 2<|cu 4 [167] 171 (((z.wordV==0)||(z.wordV==65535))) (fun K db=>?_) ?_
 refine bl 167 ((z.wordV==0)) (fun aI=>?_) (fun aI=>?_)
 have eX:=ae aI
 exact Pl 4<|ce db true (by rw[aI];rfl)
 have eX:=ak aI
 exact Pl 1<|L1<|aP bK 9<|Pl 2<|ce db (z.wordV==65535) (by rw[aI];rfl)
 have bL:=us d9 da
 have dc:=ut I bL (ac (ni d.size a) (ac (ni (le d.size g.size) f) av))
 refine L0<|Oc<|m2 (b7 (((z.wordV==0)||(z.wordV==65535))) 6 (RC.upd eV da (aa P aA) dc)) fun gB eY eZ=>?_
 refine fL eY fun k dd f0=>?_
 refine ng<|Pl 1<|L0<|Oc<|m3 (d6 f0) fun gC f1 f2 gD=>Pl 1<|?_
 have de:=u1 eZ f2 im
 refine L0<|cg (aZ de (Ne.symm P) bK) 10 (mG c 0 0 0 0 0 0 0 0 z.wordV k.wordV 0 nS nS nS nS 0 0 0 0 0 nS) fun gE f3 df=>ng<|Pl 1<|?_
 have bM:=us de df
 have dg:=ut dc bM (ac (ni d.size a) (ac (ni (le d.size g.size) f) av))
 refine L0<|Oc<|m3 (d6 (RC.upd f1 df (aa P aA) dg)) fun gF f4 di gG=>Pl 1<|?_
 refine L0<|cg (aZ di (Ne.symm P) f3) 11 (mG c 0 0 0 0 0 0 0 0 z.wordV k.wordV ((k.wordsC 1).wordV) nS nS nS nS 0 0 0 0 0 nS) fun gH f5 dj=>nt<|go<|Pl 2<|L0<|Oi (((ai.mk b false 0).byteV)-6)<|?_
 have bN:=us di dj
 have dk:=ut dg bN (ac (ni d.size a) (ac (ni (le d.size g.size) f) av))
 have dm:=RC.upd f4 dj (aa P aA) dk
 refine L0<|Oc<|oa (fK (n:=(((ai.mk b false 0).byteV)-6)) (by omega) dm) fun dn dp gI f6 f7 dq=>?_
 have gJ:=Nat.le_trans (ai.bytesR_le ((k.wordsC 1).wordsC 1) (((ai.mk b false 0).byteV)-6)) (RC.clen dm)
 refine fL f7 fun Z dr f8=>?_
 refine Pl 1<|?_
 refine L0<|cg (aZ dq (Ne.symm P) f5) 14 (mG c 0 0 0 0 0 0 0 0 z.wordV k.wordV ((k.wordsC 1).wordV) nS nS (.slice dn ((((k.wordsC 1).wordsC 1).bytesR (((ai.mk b false 0).byteV)-6)).length) dp) nS 0 0 0 0 0 nS) fun gK f9 ds=>nl<|bn<|tn<|sg<|Pl 1<|?_
 have bO:=us dq ds
 have dt:=ut dk bO (ac (ni d.size a) (ac (ni (le d.size g.size) f) av))
 refine L0<|Oc<|m2 (ex (RC.upd f8 ds (aa P aA) dt)) fun gL bR b3=>nt<|sq<|sg<|Pl 3<|L0<|eC (p:=⟨o,3,none⟩) (v:=.int .i64 Z.endC.e) (RC.fld bR)<|Pl 1<|nt<|?_
 have du:=ud dt b3 (le d.size a)
 refine cb ((Z.endC.e != 0)) (fun aK=>?_) (fun aK=>?_)
 have bS:=az aK
 refine sq<|Rg 7 (fun w'=>w'.cell? ⟨o,3,none⟩=some (.int .i64 Z.endC.e)) fun gM b4=>?_
 have dv:=RC.upd bR b4 aA (aE.step (RC.u bR) b4)
 refine bi (RC.fld dv) fun aM=>Rt 0 aM<|Rt 1 aM<|Rt 2 aM<|Rt 3 aM<|Rl 4 aM (fun _ hs=>hs)<|?_
 refine R0 5 rfl<|be (ub (ut D (ut bL (ut bM (ut bN (u1 bO (aG b3 b4) im) (ac im (ac im av))) (ac im (ac im av))) (ac im (ac im av))) (ac (nr a) (ac (ni g.size f) av))) i) mZ fun gN fa dw=>?_
 have dx:=ud du (uz b4 dw) B
 refine bi (RC.fld (RC.upd dv dw (aa (Ne.symm (nb (au i) lr a)) aA) dx)) fun fb=>Rt 6 fb<|re<|tn<|rt<|tr<|bX fa (.int .i64 Z.endC.e)<|?_
 have hs:ag b9 1 c b=aL (aQ.mk c 0 0 0 0 0 0 0 0 z.wordV k.wordV ((k.wordsC 1).wordV) [] [] (((k.wordsC 1).wordsC 1).bytesR (((ai.mk b false 0).byteV)-6)) [] 0 0 0 0 0 []) Z:=by
   subst dr dd d8
   unfold ag b9 dl cG
   (try simp only[q,r,F,O,W,aK,bs,if_true,if_false,decide_true,decide_false,eq_self,true_or,or_true,or_false,false_or,if_true,if_false,co,cm,cn,cv,reduceIte,fX,fW])
   all_goals rfl
 rw[hs]
 exact bh bS dx
 have bS:=aj aK
 refine bp<|sg<|?_
 refine L0<|bP (aZ b3 (Ne.symm P) f9)<|?_
 refine L0<|be (ub (ut D (ut bL (ut bM (ut bN (u1 bO b3 im) (ac im (ac im av))) (ac im (ac im av))) (ac im (ac im av))) (ac (nr a) (ac (ni g.size f) av))) i) (mG c 0 0 0 0 0 0 0 0 z.wordV k.wordV ((k.wordsC 1).wordV) nS nS (.slice dn ((((k.wordsC 1).wordsC 1).bytesR (((ai.mk b false 0).byteV)-6)).length) dp) nS 0 0 0 0 0 nS) fun gO fc fd=>Pl 1<|nt<|rt<|bX fc (.int .i64 0)<|?_
 have hs:ag b9 1 c b=aL (aQ.mk c 0 0 0 0 0 0 0 0 z.wordV k.wordV ((k.wordsC 1).wordV) [] [] (((k.wordsC 1).wordsC 1).bytesR (((ai.mk b false 0).byteV)-6)) [] 0 0 0 0 0 []) Z:=by
   subst dr dd d8
   unfold ag b9 dl cG
   (try simp only[q,r,F,O,W,aK,bs,if_true,if_false,decide_true,decide_false,eq_self,true_or,or_true,or_false,false_or,if_true,if_false,co,cm,cn,cv,reduceIte,fX,fW])
   all_goals rfl
 rw[hs]
 exact bt bS ⟨_,_,_,_,_,rfl,aS.nil ..,aS.nil ..,f6,aS.nil ..,aS.nil ..,⟨(b8 (x:=c) (by omega)),(b8 (x:=0) (by omega)),(aD (x:=0) (by omega)),(aD (x:=0) (by omega)),(aD (x:=0) (by omega)),(aD (x:=0) (by omega)),(aD (x:=0) (by omega)),(aD (x:=0) (by omega)),(aD (x:=0) (by omega)),(aD (x:=z.wordV) (by omega)),(aD (x:=k.wordV) (by omega)),(aD (x:=(k.wordsC 1).wordV) (by omega)),(b8 (x:=0) (by omega)),(b8 (x:=0) (by omega)),(b8 (x:=0) (by omega)),(b8 (x:=0) (by omega)),(b8 (x:=0) (by omega))⟩⟩ (ud du fd B)
 have eN:=ak W
 refine sg<|Pl 1<|?_
 have fe:RC w _ A cp b a5 o (ai.mk b false 0):=⟨hsl,I,(Nat.le_trans d.size a),⟨0,(ub X t),Nat.zero_le _,rfl⟩,by omega⟩
 refine L0<|Oc<|m3 (eb fe) fun gP ff fh gQ=>L0<|Oi ((ai.mk b false 0).byteV)<|Pl 1<|ng<|Pl 4<|cu 3 [52] 55 (((decide (1≤((ai.mk b false 0).byteV)))&&(decide (((ai.mk b false 0).byteV)≤251)))) (fun K dy=>?_) ?_
 refine bl 52 ((decide (1≤((ai.mk b false 0).byteV)))) (fun aN=>?_) (fun aN=>?_)
 have fi:=of_decide_eq_true aN
 exact Pl 3<|ce dy (decide (((ai.mk b false 0).byteV)≤251)) (by rw[aN];rfl)
 have fi:=of_decide_eq_false aN
 exact Pl 3<|ce dy false (by rw[aN];rfl)
 refine L0<|Oc<|m2 (b7 (((decide (1≤((ai.mk b false 0).byteV)))&&(decide (((ai.mk b false 0).byteV)≤251)))) 5 ff) fun gR fj fk=>?_
 refine fL fj fun H dz dA=>?_
 refine nt<|go<|Pl 2<|L0<|Oc<|oa (fK (n:=(ai.mk b false 0).byteV) (by omega) dA) fun dB dD gS fl fm fn=>?_
 have gT:=Nat.le_trans (ai.bytesR_le H ((ai.mk b false 0).byteV)) (RC.clen dA)
 refine Pl 1<|?_
 have dE:=u1 fh (u1 fk fn im) im
 have bT:=nb (au t) lr f
 refine L0<|cg (aZ dE (Ne.symm bT) a6) 14 (mG c 0 0 0 0 0 0 0 0 0 0 0 nS nS (.slice dB ((H.bytesR ((ai.mk b false 0).byteV)).length) dD) nS 0 0 0 0 0 nS) fun gU fo dF=>nl<|bn<|tn<|sg<|Pl 1<|?_
 have bU:=us dE dF
 have dG:=ut I bU (ac (ni d.size a) (ac (ni (le d.size g.size) f) av))
 refine L0<|Oc<|m2 (ex (RC.upd fm dF (aa bT aA) dG)) fun gV bV b5=>nt<|sq<|sg<|Pl 3<|L0<|eC (p:=⟨o,3,none⟩) (v:=.int .i64 (((H.bytesC ((ai.mk b false 0).byteV)).endC).e)) (RC.fld bV)<|Pl 1<|nt<|?_
 have dH:=ud dG b5 (le d.size a)
 refine cb (((((H.bytesC ((ai.mk b false 0).byteV)).endC).e)!=0)) (fun aO=>?_) (fun aO=>?_)
 have bW:=az aO
 refine sq<|Rg 7 (fun w'=>w'.cell? ⟨o,3,none⟩=some (.int .i64 (((H.bytesC ((ai.mk b false 0).byteV)).endC).e))) fun gW ba=>?_
 have dI:=RC.upd bV ba aA (aE.step (RC.u bV) ba)
 refine bi (RC.fld dI) fun aR=>Rt 0 aR<|Rt 1 aR<|Rt 2 aR<|Rt 3 aR<|Rl 4 aR (fun _ hs=>hs)<|?_
 refine R0 5 rfl<|be (ub (ut D (u1 bU (aG b5 ba) im) (ac (nr a) (ac (ni g.size f) av))) i) mZ fun gX fp dJ=>?_
 have dK:=ud dH (uz ba dJ) B
 refine bi (RC.fld (RC.upd dI dJ (aa (Ne.symm (nb (au i) lr a)) aA) dK)) fun fq=>Rt 6 fq<|re<|tn<|rt<|tr<|bX fp (.int .i64 (((H.bytesC ((ai.mk b false 0).byteV)).endC).e))<|?_
 have hs:ag b9 1 c b=aL (aQ.mk c 0 0 0 0 0 0 0 0 0 0 0 [] [] (H.bytesR ((ai.mk b false 0).byteV)) [] 0 0 0 0 0 []) (H.bytesC ((ai.mk b false 0).byteV)):=by
   subst dz
   unfold ag b9 dl cG
   (try simp only[q,r,F,O,W,aO,bs,if_true,if_false,decide_true,decide_false,eq_self,true_or,or_true,or_false,false_or,if_true,if_false,co,cm,cn,cv,reduceIte,fX,fW])
   all_goals rfl
 rw[hs]
 exact bh bW dK
 have bW:=aj aO
 refine bp<|sg<|?_
 refine L0<|bP (aZ b5 (Ne.symm bT) fo)<|?_
 refine L0<|be (ub (ut D (u1 bU b5 im) (ac (nr a) (ac (ni g.size f) av))) i) (mG c 0 0 0 0 0 0 0 0 0 0 0 nS nS (.slice dB ((H.bytesR ((ai.mk b false 0).byteV)).length) dD) nS 0 0 0 0 0 nS) fun gY fr fs=>Pl 1<|nt<|rt<|bX fr (.int .i64 0)<|?_
 have hs:ag b9 1 c b=aL (aQ.mk c 0 0 0 0 0 0 0 0 0 0 0 [] [] (H.bytesR ((ai.mk b false 0).byteV)) [] 0 0 0 0 0 []) (H.bytesC ((ai.mk b false 0).byteV)):=by
   subst dz
   unfold ag b9 dl cG
   (try simp only[q,r,F,O,W,aO,bs,if_true,if_false,decide_true,decide_false,eq_self,true_or,or_true,or_false,false_or,if_true,if_false,co,cm,cn,cv,reduceIte,fX,fW])
   all_goals rfl
 rw[hs]
 exact bt bW ⟨_,_,_,_,_,rfl,aS.nil ..,aS.nil ..,fl,aS.nil ..,aS.nil ..,⟨(b8 (x:=c) (by omega)),(b8 (x:=0) (by omega)),(aD (x:=0) (by omega)),(aD (x:=0) (by omega)),(aD (x:=0) (by omega)),(aD (x:=0) (by omega)),(aD (x:=0) (by omega)),(aD (x:=0) (by omega)),(aD (x:=0) (by omega)),(aD (x:=0) (by omega)),(aD (x:=0) (by omega)),(aD (x:=0) (by omega)),(b8 (x:=0) (by omega)),(b8 (x:=0) (by omega)),(b8 (x:=0) (by omega)),(b8 (x:=0) (by omega)),(b8 (x:=0) (by omega))⟩⟩ (ud dH fs B)
theorem lh{m:Md}{A:Option Addr}{cp:Nat}{b:List Int}{w:World}{dir c:Int}(hcode:B8 c)(hsl:bo m w (.slice A b.length cp) b)(hb:b.length≤1048576)(hd:¬ (dir=0∨dir=1)) :
    Calls Tryz.prog 95 #[.int .i64 dir,.int .u8 c,.slice A b.length cp] w (cK (.slice A b.length cp) b (ag b9 dir c b) w):=by
 obtain⟨hcode1,hcode2⟩:=hcode
 have hln:(b.length:Int)≤1048576:=by omega
 have e0:(dir != 0)=true:=by simp;omega
 have e1:(dir != 1)=true:=by simp;omega
 refine en 197 Tryz.func95 rfl<|sg<|L0<|bQ mZ fun g h a d e=>Pl 1<|nt<|sq<|sg<|Pl 3<|sy 17 e0<|Pl 3<|nl<|?_
 refine tn<|ct e1<|sg<|Pl 1<|L0<|be d mZ fun i dF f=>Pl 1<|nt<|rt<|tr<|bX dF (.int .i64 1)<|?_
 have hs:ag b9 dir c b=(aQ.zero,1):=by
   unfold ag b9 dl cG
   (try simp only[e0,e1,bs,if_true,if_false,decide_true,decide_false,eq_self,true_or,or_true,or_false,false_or,if_true,if_false,co,cm,cn,cv,reduceIte,hd,fX,fW])
   all_goals rfl
 rw[hs]
 exact bA (ud e f a)
open Go.RowKit
theorem ei{C:ai}{ok:Bool}{x:Int}(h:C.e≠0) : C.need ok x=C:=by
  unfold ai.need
  rw[if_neg fun k=>h k.1]
theorem fc{C:ai}{n:Int}(h:C.fails n=true) : (C.bytesC n).e≠0:=by
  unfold ai.bytesC
  rw[if_pos h]
  unfold ai.need
  split
  · exact(show(2:Int)≠0 from by decide)
  · rename_i k
    intro e
    exact k ⟨e,rfl⟩
theorem mE{C:ai}(h:(C.wordsR 1).length≠1) : (C.wordsC 1).e≠0:=by
  unfold ai.wordsR at h
  unfold ai.wordsC
  split
  · exact fc (by unfold ai.fails;simp)
  · rename_i hb
    rw[if_neg hb] at h
    by_cases hf:C.fails (2*1)=true
    · exact fc hf
    · exfalso
      apply h
      unfold ai.bytesR
      rw[if_neg hf]
      unfold ai.fails at hf
      simp only[Bool.or_eq_true,decide_eq_true_eq,not_or] at hf
      rcases e:C.l with _|⟨a,_|⟨b,t⟩⟩
      · rw[e] at hf;simp at hf
      · rw[e] at hf;simp at hf
      · show(cY [a,b]).length=1
        unfold cY
        rw[if_pos (by simp)]
        simp[du]
theorem oC{C:ai}(h:(C.wordsR 1).length=1) : [C.wordV]=C.wordsR 1:=by
  unfold ai.wordV
  rcases e:C.wordsR 1 with _|⟨a,_|⟨b,t⟩⟩
  · rw[e] at h;simp at h
  · rfl
  · rw[e] at h;simp at h
theorem qz{M M':aQ}{C:ai}(h:C.e≠0) : aL M C=aL M' C:=by
  unfold aL
  have e:C.endC.e≠0:=by unfold ai.endC;rw[ei h];exact h
  rw[if_neg e,if_neg e]
theorem qu(dir:Int)(C:ai) : eT dir C=eK dir C:=by
  unfold eT eK
  rw[Bool.or_comm]
theorem pU(dir c:Int)(C:ai) : aL (dl dir c C).2 (dl dir c C).1=aL (dK dir c C).2 (dK dir c C).1:=by
  unfold dl dK
  rw[qu]
  by_cases h0:C.wordV=0
  · rw[h0,if_pos (show((0:Int)==0)=true from rfl),if_neg (show ¬ ((0:Int)!=0)=true from by decide)]
  · rw[if_neg (by simpa using h0),if_pos (by simpa using h0)]
    by_cases h1:((eK dir C).wordsR 1).length=1
    · rw[oC h1,show((((eK dir C).wordsR 1).length:Int)==1)=true from by rw[h1];rfl,Bool.true_and]
      rfl
    · have k:=mE h1
      dsimp only
      rw[ei k,ei k]
      exact qz k
theorem lA{f f':Int→Int→ai→Option (ai × aQ)}{dir c:Int}{b:List Int}(h:∀ C,(dir=0∨dir=1)→(f dir c C=none∧f' dir c C=none)∨∃ r r',f dir c C=some r∧f' dir c C=some r'∧aL r.2 r.1=aL r'.2 r'.1) : ag f dir c b=ag f' dir c b:=by
  unfold ag
  split
  · rename_i hd
    rcases h ⟨b,false,0⟩ hd with⟨h1,h2⟩|⟨r,r',h1,h2,h3⟩
    · rw[h1,h2]
    · rw[h1,h2];exact h3
  · rfl
theorem mN(dir c:Int)(b:List Int) : ag b9 dir c b=ag aR dir c b:=by
  refine lA fun C hd=>?_
  unfold b9 aR
  by_cases h8:c=8
  · subst h8
    exact .inr ⟨_,_,rfl,rfl,pU dir 8 C⟩
  · by_cases h:c=7∨c=11∨c=12∨c=17
    · refine .inr ?_
      rw[if_neg (show ¬ (((((c != 7)&&(c != 8))&&(c != 11))&&(c != 12))&&(c != 17))=true from by rcases h with rfl | rfl | rfl | rfl<;>decide),if_neg (show ¬ (c==8)=true from by simpa using h8),if_neg (show ¬ (c==8)=true from by simpa using h8),if_pos (show(c==7 || c==11 || c==12 || c==17)=true from by rcases h with rfl | rfl | rfl | rfl<;>decide)]
      rcases hd with rfl|rfl
      · exact⟨_,_,rfl,rfl,rfl⟩
      · refine⟨_,_,rfl,rfl,?_⟩
        rcases h with rfl|rfl|rfl|rfl<;>rfl
    · refine .inl ?_
      rw[if_pos (show(((((c != 7)&&(c != 8))&&(c != 11))&&(c != 12))&&(c != 17))=true from by simp;omega),if_neg (show ¬ (c==8)=true from by simpa using h8),if_neg (show ¬ (c==7 || c==11 || c==12 || c==17)=true from by simp;omega)]
      exact⟨rfl,rfl⟩
open Go.RowKit
def tU (w0:World)(m:Md)(A:Option Addr)(cp:Nat)(full:List Int)(g gm:Nat)(C':ai)(cs:Array Value)(w:World)(e:Ending)(w':World) : Prop:=e = .returned (.tuple #[])∧RC w0 m A cp full w' g C'∧w'.heap[gm]? = some (.cells cs 30 (0,0))∧aE [g,gm] w w'
theorem mu{w0:World}{m:Md}{A:Option Addr}{cp:Nat}{full:List Int}{w:World}{g gm:Nat}{c:Int}{C:ai}{most:Int}(hcode:B8 c)(hC:RC w0 m A cp full w g C)(hm:w.heap[gm]? = some (.cells (mC c) 30 (0,0)))(hgm:w0.heap.size≤gm)(hne:g≠gm) :
    Calls Tryz.prog 150 #[.pointer (some ⟨g,0,none⟩),.pointer (some ⟨gm,0,none⟩),.int .i64 most] w (tU w0 m A cp full g gm (bD C most) (mG c 0 C.wordV (C.wordsC 1).wordV 0 0 0 0 0 0 0 0 nS nS nS nS 0 0 0 0 0 nS) w):=by
 obtain⟨hcode1,hcode2⟩:=hcode
 have hrng:=bR (RC.rng hC)
 refine en 39 Tryz.func150 rfl<|sg<|Pl 2<|L0<|Oc<|m3 (d6 hC) fun G t e H=>Pl 2<|?_
 refine L0<|cg (aZ e (Ne.symm hne) hm) 2 (mG c 0 C.wordV 0 0 0 0 0 0 0 0 0 nS nS nS nS 0 0 0 0 0 nS) fun I dF f=>ng<|Pl 2<|?_
 have h:=us e f
 refine L0<|Oc<|m3 (d6 (RC.upd t f (aa hne aA) (hC.u.trans' h (fun x hx=>.inr (by simp at hx;rcases hx with rfl | rfl;exact hC.new;exact hgm))))) fun J v i L=>Pl 2<|?_
 refine L0<|cg (aZ i (Ne.symm hne) dF) 3 (mG c 0 C.wordV ((C.wordsC 1).wordV) 0 0 0 0 0 0 0 0 nS nS nS nS 0 0 0 0 0 nS) fun M j k=>ng<|Pl 3<|L0<|aP j 3<|L0<|Oi ((C.wordsC 1).wordV)<|Pl 1<|ng<|Pl 4<|cu 4 [25] 29 (((decide (0<((C.wordsC 1).wordV)))&&(decide (((C.wordsC 1).wordV)≤most)))) (fun K l=>?_) ?_
 refine bl 25 ((decide (0<((C.wordsC 1).wordV)))) (fun b=>?_) (fun b=>?_)
 have y:=of_decide_eq_true b
 exact Pl 4<|ce l (decide (((C.wordsC 1).wordV)≤most)) (by rw[b];rfl)
 have y:=of_decide_eq_false b
 exact Pl 4<|ce l false (by rw[b];rfl)
 have o:=ut h (us i k) (ac im (ac im av))
 refine L0<|Oc<|m2 (b7 (((decide (0<((C.wordsC 1).wordV)))&&(decide (((C.wordsC 1).wordV)≤most)))) 5 (RC.upd v k (aa hne aA) (hC.u.trans' o (fun x hx=>.inr (by simp at hx;rcases hx with rfl | rfl;exact hC.new;exact hgm))))) fun z B p=>?_
 refine fL B fun x36 D q=>?_
 refine nt<|go<|Pl 4<|?_
 have r:=aZ p (Ne.symm hne) j
 refine L0<|aP r 2<|Pl 1<|L0<|Oc<|m1 (pg (a:=C.wordV) (n:=(C.wordsC 1).wordV) (w:=z) (by omega) (by omega)) fun N d=>?_
 refine L0<|Oc<|m2 (b7 ((dE C.wordV ((C.wordsC 1).wordV))) 7 (RC.upd q d aA (aE.step (RC.u q) d))) fun O E F=>nl<|rm (.tuple #[])<|?_
 subst D
 have hs:bD C most=((((C.wordsC 1).wordsC 1).need ((decide (0<((C.wordsC 1).wordV)))&&(decide (((C.wordsC 1).wordV)≤most))) 5).need (dE C.wordV ((C.wordsC 1).wordV)) 7):=by
   unfold bD iA
   (try simp only[bs,if_true,if_false,decide_true,decide_false,dJ,reduceIte])
   all_goals rfl
 rw[hs]
 have s:=uz d F
 exact⟨rfl,E,(aZ s (Ne.symm hne) r),(u1 o (u1 p s im) im)⟩
theorem kx{m:Md}{A:Option Addr}{cp:Nat}{b:List Int}{w:World}{c:Int}(hcode:B8 c)(hsl:bo m w (.slice A b.length cp) b)(hb:b.length≤1048576) :
    Calls Tryz.prog 93 #[.int .i64 0,.int .u8 c,.slice A b.length cp] w (cK (.slice A b.length cp) b (ag aC 0 c b) w):=by
 obtain⟨hcode1,hcode2⟩:=hcode
 have hln:(b.length:Int)≤1048576:=by omega
 refine en 113 Tryz.func93 rfl<|sg<|L0<|bQ mZ fun aU d3 r i f=>Pl 1<|nt<|sq<|sg<|Pl 6<|nt<|c0<|?_
 refine bp<|sg<|Pl 2<|L0<|dC #[.slice A b.length cp,.int .i64 0,.bool false,.int .i64 0] fun j d4 a l g=>Pl 1<|ng<|Pl 2<|L0<|bQ mZ fun ab d5 d ad N=>L0<|be ad (mC c) fun a2 a3 E=>?_
 refine nt<|sq<|sg<|Pl 1<|nt<|bk<|sq<|sg<|Pl 2<|nl<|?_
 refine tn<|?_
 have O:=ud N E d
 have o:=aG g O
 have s:=aG f o
 refine cb ((c==1)) (fun k=>?_) (fun k=>?_)
 have bZ:=ae k
 refine bp<|ct k<|sq<|sg<|Pl 2<|nt<|c1<|sg<|Pl 1<|?_
 have af:RC w _ A cp b a2 j (ai.mk b false 0):=⟨hsl,s,(Nat.le_trans f.size a),⟨0,(ub O l),Nat.zero_le _,rfl⟩,by omega⟩
 have aV:=nb (au l) lr d
 refine L0<|Oc<|m3 (mu (most:=2000) (b8 (by omega)) af a3 (Nat.le_trans (le f.size g.size) d) aV) fun d7 c2 c3 c4=>?_
 have d8:=bR (RC.rng af)
 have d9:=bR (c:=(ai.mk b false 0).wordsC 1) (cR (RC.rng af) 1)
 refine nt<|xt<|tx<|bx<|tn<|sg<|Pl 1<|L0<|Oc<|m2 (ex c2) fun da al aW=>nt<|sq<|sq<|?_
 refine go<|Pl 3<|L0<|eC (p:=⟨j,3,none⟩) (v:=.int .i64 (((bD (ai.mk b false 0) 2000).endC).e)) (RC.fld al)<|Pl 1<|nt<|?_
 have am:=u1 c4 aW im
 have aX:=ut s am (ac (ni f.size a) (ac (ni (le f.size g.size) d) av))
 refine cb (((((bD (ai.mk b false 0) 2000).endC).e)!=0)) (fun P=>?_) (fun P=>?_)
 have an:=az P
 refine sq<|Rg 7 (fun w'=>w'.cell? ⟨j,3,none⟩=some (.int .i64 (((bD (ai.mk b false 0) 2000).endC).e))) fun db a4=>?_
 have aY:=RC.upd al a4 aA (aE.step (RC.u al) a4)
 refine bi (RC.fld aY) fun Q=>Rt 0 Q<|Rt 1 Q<|Rt 2 Q<|Rt 3 Q<|Rl 4 Q (fun _ hs=>hs)<|?_
 refine R0 5 rfl<|be (ub (ut o (aG am a4) (ac (nr a) (ac (ni g.size d) av))) i) mZ fun dc c5 b0=>?_
 have b1:=ud aX (uz a4 b0) r
 refine bi (RC.fld (RC.upd aY b0 (aa (Ne.symm (nb (au i) lr a)) aA) b1)) fun c6=>Rt 6 c6<|re<|tn<|rt<|tr<|bX c5 (.int .i64 (((bD (ai.mk b false 0) 2000).endC).e))<|?_
 have hs:ag aC 0 c b=aL (aQ.mk c 0 ((ai.mk b false 0).wordV) (((ai.mk b false 0).wordsC 1).wordV) 0 0 0 0 0 0 0 0 [] [] [] [] 0 0 0 0 0 []) (bD (ai.mk b false 0) 2000):=by
   unfold ag aC cD cl ci eq jR eP jP iZ jX cZ dV
   (try simp only[k,P,bs,if_true,if_false,decide_true,decide_false,eq_self,true_or,or_true,or_false,false_or,if_true,if_false,co,cm,cn,cv,reduceIte,dJ])
   all_goals rfl
 rw[hs]
 exact bh an b1
 have an:=aj P
 refine bp<|sg<|?_
 refine L0<|bP (aZ aW (Ne.symm aV) c3)<|?_
 refine L0<|be (ub (ut o am (ac (nr a) (ac (ni g.size d) av))) i) (mG c 0 ((ai.mk b false 0).wordV) (((ai.mk b false 0).wordsC 1).wordV) 0 0 0 0 0 0 0 0 nS nS nS nS 0 0 0 0 0 nS) fun dd c7 c8=>Pl 1<|nt<|rt<|bX c7 (.int .i64 0)<|?_
 have hs:ag aC 0 c b=aL (aQ.mk c 0 ((ai.mk b false 0).wordV) (((ai.mk b false 0).wordsC 1).wordV) 0 0 0 0 0 0 0 0 [] [] [] [] 0 0 0 0 0 []) (bD (ai.mk b false 0) 2000):=by
   unfold ag aC cD cl ci eq jR eP jP iZ jX cZ dV
   (try simp only[k,P,bs,if_true,if_false,decide_true,decide_false,eq_self,true_or,or_true,or_false,false_or,if_true,if_false,co,cm,cn,cv,reduceIte,dJ])
   all_goals rfl
 rw[hs]
 exact bt an ⟨_,_,_,_,_,rfl,aS.nil ..,aS.nil ..,(fun _ _ _=>aS.nil ..),aS.nil ..,aS.nil ..,⟨(b8 (x:=c) (by omega)),(b8 (x:=0) (by omega)),(aD (x:=(ai.mk b false 0).wordV) (by omega)),(aD (x:=((ai.mk b false 0).wordsC 1).wordV) (by omega)),(aD (x:=0) (by omega)),(aD (x:=0) (by omega)),(aD (x:=0) (by omega)),(aD (x:=0) (by omega)),(aD (x:=0) (by omega)),(aD (x:=0) (by omega)),(aD (x:=0) (by omega)),(aD (x:=0) (by omega)),(b8 (x:=0) (by omega)),(b8 (x:=0) (by omega)),(b8 (x:=0) (by omega)),(b8 (x:=0) (by omega)),(b8 (x:=0) (by omega))⟩⟩ (ud aX c8 r)
 have bZ:=ak k
 refine go<|Pl 2<|nt<|cb ((c==2)) (fun q=>?_) (fun q=>?_)
 have c9:=ae q
 refine sq<|sg<|Pl 2<|nt<|c1<|sg<|Pl 1<|?_
 have ao:RC w _ A cp b a2 j (ai.mk b false 0):=⟨hsl,s,(Nat.le_trans f.size a),⟨0,(ub O l),Nat.zero_le _,rfl⟩,by omega⟩
 have b2:=nb (au l) lr d
 refine L0<|Oc<|m3 (mu (most:=2000) (b8 (by omega)) ao a3 (Nat.le_trans (le f.size g.size) d) b2) fun de ca cc cd=>?_
 have df:=bR (RC.rng ao)
 have dg:=bR (c:=(ai.mk b false 0).wordsC 1) (cR (RC.rng ao) 1)
 refine nt<|xt<|tx<|bx<|tn<|sg<|Pl 1<|L0<|Oc<|m2 (ex ca) fun dh ap b3=>nt<|sq<|sq<|?_
 refine go<|Pl 3<|L0<|eC (p:=⟨j,3,none⟩) (v:=.int .i64 (((bD (ai.mk b false 0) 2000).endC).e)) (RC.fld ap)<|Pl 1<|nt<|?_
 have ar:=u1 cd b3 im
 have b4:=ut s ar (ac (ni f.size a) (ac (ni (le f.size g.size) d) av))
 refine cb (((((bD (ai.mk b false 0) 2000).endC).e)!=0)) (fun R=>?_) (fun R=>?_)
 have aw:=az R
 refine sq<|Rg 7 (fun w'=>w'.cell? ⟨j,3,none⟩=some (.int .i64 (((bD (ai.mk b false 0) 2000).endC).e))) fun di a5=>?_
 have b5:=RC.upd ap a5 aA (aE.step (RC.u ap) a5)
 refine bi (RC.fld b5) fun S=>Rt 0 S<|Rt 1 S<|Rt 2 S<|Rt 3 S<|Rl 4 S (fun _ hs=>hs)<|?_
 refine R0 5 rfl<|be (ub (ut o (aG ar a5) (ac (nr a) (ac (ni g.size d) av))) i) mZ fun dj cf b6=>?_
 have b9:=ud b4 (uz a5 b6) r
 refine bi (RC.fld (RC.upd b5 b6 (aa (Ne.symm (nb (au i) lr a)) aA) b9)) fun ch=>Rt 6 ch<|re<|tn<|rt<|tr<|bX cf (.int .i64 (((bD (ai.mk b false 0) 2000).endC).e))<|?_
 have hs:ag aC 0 c b=aL (aQ.mk c 0 ((ai.mk b false 0).wordV) (((ai.mk b false 0).wordsC 1).wordV) 0 0 0 0 0 0 0 0 [] [] [] [] 0 0 0 0 0 []) (bD (ai.mk b false 0) 2000):=by
   unfold ag aC cD cl ci eq jR eP jP iZ jX cZ dV
   (try simp only[k,q,R,bs,if_true,if_false,decide_true,decide_false,eq_self,true_or,or_true,or_false,false_or,if_true,if_false,co,cm,cn,cv,reduceIte,dJ])
   all_goals rfl
 rw[hs]
 exact bh aw b9
 have aw:=aj R
 refine bp<|sg<|?_
 refine L0<|bP (aZ b3 (Ne.symm b2) cc)<|?_
 refine L0<|be (ub (ut o ar (ac (nr a) (ac (ni g.size d) av))) i) (mG c 0 ((ai.mk b false 0).wordV) (((ai.mk b false 0).wordsC 1).wordV) 0 0 0 0 0 0 0 0 nS nS nS nS 0 0 0 0 0 nS) fun dl cj ck=>Pl 1<|nt<|rt<|bX cj (.int .i64 0)<|?_
 have hs:ag aC 0 c b=aL (aQ.mk c 0 ((ai.mk b false 0).wordV) (((ai.mk b false 0).wordsC 1).wordV) 0 0 0 0 0 0 0 0 [] [] [] [] 0 0 0 0 0 []) (bD (ai.mk b false 0) 2000):=by
   unfold ag aC cD cl ci eq jR eP jP iZ jX cZ dV
   (try simp only[k,q,R,bs,if_true,if_false,decide_true,decide_false,eq_self,true_or,or_true,or_false,false_or,if_true,if_false,co,cm,cn,cv,reduceIte,dJ])
   all_goals rfl
 rw[hs]
 exact bt aw ⟨_,_,_,_,_,rfl,aS.nil ..,aS.nil ..,(fun _ _ _=>aS.nil ..),aS.nil ..,aS.nil ..,⟨(b8 (x:=c) (by omega)),(b8 (x:=0) (by omega)),(aD (x:=(ai.mk b false 0).wordV) (by omega)),(aD (x:=((ai.mk b false 0).wordsC 1).wordV) (by omega)),(aD (x:=0) (by omega)),(aD (x:=0) (by omega)),(aD (x:=0) (by omega)),(aD (x:=0) (by omega)),(aD (x:=0) (by omega)),(aD (x:=0) (by omega)),(aD (x:=0) (by omega)),(aD (x:=0) (by omega)),(b8 (x:=0) (by omega)),(b8 (x:=0) (by omega)),(b8 (x:=0) (by omega)),(b8 (x:=0) (by omega)),(b8 (x:=0) (by omega))⟩⟩ (ud b4 ck r)
 have c9:=ak q
 refine sg<|Pl 2<|nt<|cb ((c==5)) (fun z=>?_) (fun z=>?_)
 have cq:=ae z
 refine sg<|Pl 1<|?_
 have cr:RC w _ A cp b a2 j (ai.mk b false 0):=⟨hsl,s,(Nat.le_trans f.size a),⟨0,(ub O l),Nat.zero_le _,rfl⟩,by omega⟩
 refine L0<|Oc<|m3 (d6 cr) fun dm cs ba dn=>Pl 1<|?_
 have T:=nb (au l) lr d
 refine L0<|cg (aZ ba (Ne.symm T) a3) 2 (mG c 0 ((ai.mk b false 0).wordV) 0 0 0 0 0 0 0 0 0 nS nS nS nS 0 0 0 0 0 nS) fun dp cx bb=>ng<|Pl 1<|?_
 have ax:=us ba bb
 have bc:=ut s ax (ac (ni f.size a) (ac (ni (le f.size g.size) d) av))
 refine L0<|Oc<|m3 (d6 (RC.upd cs bb (aa T aA) bc)) fun dq cy bd dr=>Pl 1<|?_
 refine L0<|cg (aZ bd (Ne.symm T) cx) 4 (mG c 0 ((ai.mk b false 0).wordV) 0 (((ai.mk b false 0).wordsC 1).wordV) 0 0 0 0 0 0 0 nS nS nS nS 0 0 0 0 0 nS) fun ds ay bf=>nt<|go<|Pl 2<|L0<|aP ay 4<|Pl 2<|cu 4 [62] 66 ((((((ai.mk b false 0).wordsC 1).wordV)==0)||((((ai.mk b false 0).wordsC 1).wordV)==65280))) (fun K bg=>?_) ?_
 refine bl 62 (((((ai.mk b false 0).wordsC 1).wordV)==0)) (fun U=>?_) (fun U=>?_)
 have cz:=ae U
 exact Pl 4<|ce bg true (by rw[U];rfl)
 have cz:=ak U
 exact Pl 1<|L1<|aP ay 4<|Pl 2<|ce bg ((((ai.mk b false 0).wordsC 1).wordV)==65280) (by rw[U];rfl)
 have aF:=us bd bf
 have bj:=ut bc aF (ac (ni f.size a) (ac (ni (le f.size g.size) d) av))
 refine L0<|Oc<|m2 (b7 ((((((ai.mk b false 0).wordsC 1).wordV)==0)||((((ai.mk b false 0).wordsC 1).wordV)==65280))) 6 (RC.upd cy bf (aa T aA) bj)) fun dt cA cB=>?_
 refine fL cA fun J bm cC=>?_
 refine nl<|bn<|tn<|sg<|Pl 1<|L0<|Oc<|m2 (ex cC) fun du aH cE=>nt<|sq<|sg<|Pl 3<|L0<|eC (p:=⟨j,3,none⟩) (v:=.int .i64 J.endC.e) (RC.fld aH)<|?_
 refine Pl 1<|nt<|?_
 have a6:=u1 cB cE im
 have bq:=ud bj a6 (le f.size a)
 refine cb ((J.endC.e != 0)) (fun V=>?_) (fun V=>?_)
 have aI:=az V
 refine sq<|Rg 7 (fun w'=>w'.cell? ⟨j,3,none⟩=some (.int .i64 J.endC.e)) fun dv a7=>?_
 have bu:=RC.upd aH a7 aA (aE.step (RC.u aH) a7)
 refine bi (RC.fld bu) fun W=>Rt 0 W<|Rt 1 W<|Rt 2 W<|Rt 3 W<|Rl 4 W (fun _ hs=>hs)<|?_
 refine R0 5 rfl<|be (ub (ut o (ut ax (u1 aF (aG a6 a7) im) (ac im (ac im av))) (ac (nr a) (ac (ni g.size d) av))) i) mZ fun dw cF bv=>?_
 have bw:=ud bq (uz a7 bv) r
 refine bi (RC.fld (RC.upd bu bv (aa (Ne.symm (nb (au i) lr a)) aA) bw)) fun cG=>Rt 6 cG<|re<|tn<|rt<|tr<|bX cF (.int .i64 J.endC.e)<|?_
 have hs:ag aC 0 c b=aL (aQ.mk c 0 ((ai.mk b false 0).wordV) 0 (((ai.mk b false 0).wordsC 1).wordV) 0 0 0 0 0 0 0 [] [] [] [] 0 0 0 0 0 []) J:=by
   subst bm
   unfold ag aC cD cl ci eq jR eP jP iZ jX cZ dV
   (try simp only[k,q,z,V,bs,if_true,if_false,decide_true,decide_false,eq_self,true_or,or_true,or_false,false_or,if_true,if_false,co,cm,cn,cv,reduceIte,dJ])
   all_goals rfl
 rw[hs]
 exact bh aI bw
 have aI:=aj V
 refine bp<|sg<|?_
 refine L0<|bP (aZ a6 (Ne.symm T) ay)<|?_
 refine L0<|be (ub (ut o (ut ax (u1 aF a6 im) (ac im (ac im av))) (ac (nr a) (ac (ni g.size d) av))) i) (mG c 0 ((ai.mk b false 0).wordV) 0 (((ai.mk b false 0).wordsC 1).wordV) 0 0 0 0 0 0 0 nS nS nS nS 0 0 0 0 0 nS) fun dx cH cI=>Pl 1<|nt<|rt<|bX cH (.int .i64 0)<|?_
 have hs:ag aC 0 c b=aL (aQ.mk c 0 ((ai.mk b false 0).wordV) 0 (((ai.mk b false 0).wordsC 1).wordV) 0 0 0 0 0 0 0 [] [] [] [] 0 0 0 0 0 []) J:=by
   subst bm
   unfold ag aC cD cl ci eq jR eP jP iZ jX cZ dV
   (try simp only[k,q,z,V,bs,if_true,if_false,decide_true,decide_false,eq_self,true_or,or_true,or_false,false_or,if_true,if_false,co,cm,cn,cv,reduceIte,dJ])
   all_goals rfl
 rw[hs]
 exact bt aI ⟨_,_,_,_,_,rfl,aS.nil ..,aS.nil ..,(fun _ _ _=>aS.nil ..),aS.nil ..,aS.nil ..,⟨(b8 (x:=c) (by omega)),(b8 (x:=0) (by omega)),(aD (x:=(ai.mk b false 0).wordV) (by omega)),(aD (x:=0) (by omega)),(aD (x:=((ai.mk b false 0).wordsC 1).wordV) (by omega)),(aD (x:=0) (by omega)),(aD (x:=0) (by omega)),(aD (x:=0) (by omega)),(aD (x:=0) (by omega)),(aD (x:=0) (by omega)),(aD (x:=0) (by omega)),(aD (x:=0) (by omega)),(b8 (x:=0) (by omega)),(b8 (x:=0) (by omega)),(b8 (x:=0) (by omega)),(b8 (x:=0) (by omega)),(b8 (x:=0) (by omega))⟩⟩ (ud bq cI r)
 have cq:=ak z
 refine sg<|Pl 2<|nt<|cb ((c==15)) (fun L=>?_) (fun L=>?_)
 have cJ:=ae L
 refine sg<|Pl 1<|?_
 have aJ:RC w _ A cp b a2 j (ai.mk b false 0):=⟨hsl,s,(Nat.le_trans f.size a),⟨0,(ub O l),Nat.zero_le _,rfl⟩,by omega⟩
 have F:=nb (au l) lr d
 refine L0<|Oc<|m3 (mu (most:=1968) (b8 (by omega)) aJ a3 (Nat.le_trans (le f.size g.size) d) F) fun dy cL cM G=>?_
 have dz:=bR (RC.rng aJ)
 have dA:=bR (c:=(ai.mk b false 0).wordsC 1) (cR (RC.rng aJ) 1)
 refine nt<|sq<|sg<|Pl 2<|nt<|c0<|bp<|sg<|Pl 1<|L0<|Oc<|m3 (eb cL) fun cN bz B dB=>?_
 refine L0<|Oi ((bD (ai.mk b false 0) 1968).byteV)<|Pl 1<|ng<|Pl 3<|?_
 have bB:=aZ B (Ne.symm F) cM
 refine L0<|aP bB 3<|L0<|Oi (((ai.mk b false 0).wordsC 1).wordV)<|L0<|Oc<|m1 (wd (n:=((ai.mk b false 0).wordsC 1).wordV) (w:=cN) (by omega)) fun dD t=>Pl 1<|?_
 refine L0<|Oc<|m2 (b7 ((((bD (ai.mk b false 0) 1968).byteV)==(dL (((ai.mk b false 0).wordsC 1).wordV)))) 5 (RC.upd bz t aA (aE.step (RC.u bz) t))) fun dE cO H=>?_
 refine fL cO fun I bC bE=>?_
 refine nt<|sq<|Rg 12 (fun w'=>w'.cell? ⟨ab,3,none⟩=some (.int .u16 (((ai.mk b false 0).wordsC 1).wordV))) fun dF y=>?_
 have bF:=uz t (aG H y)
 have bG:=aZ bF (Ne.symm F) bB
 refine bi (ah bG rfl) fun X=>Rt 0 X<|Rt 1 X<|Rt 3 X<|Rl 4 X (fun _ hs=>hs)<|Rr 5 X (.int .i64 (((ai.mk b false 0).wordsC 1).wordV)) (fun _ _=>cP (.int .i64 (IntKind.i64.wrap (((ai.mk b false 0).wordsC 1).wordV))) (by kernel_rfl) (congrArg (Value.int .i64) (i64_in (by omega))))<|?_
 have bH:=RC.upd bE y aA (aE.step (RC.u bE) y)
 refine R0 2 rfl<|Oc<|oa (fK (n:=(bD (ai.mk b false 0) 1968).byteV) (by omega) bH) fun cQ cS dG cT aK C=>?_
 have dH:=Nat.le_trans (ai.bytesR_le I ((bD (ai.mk b false 0) 1968).byteV)) (RC.clen bH)
 have bI:=aZ C (Ne.symm F) bG
 refine bi (ah bI rfl) fun dI=>R0 6 rfl<|Oc (args:=#[.slice cQ ((I.bytesR ((bD (ai.mk b false 0) 1968).byteV)).length) cS,.int .i64 (((ai.mk b false 0).wordsC 1).wordV)])<|dk (uf (n:=((ai.mk b false 0).wordsC 1).wordV) (cT _ _ (RC.rd aK)) (by omega) (by omega)) fun bJ bK dK D dM dN a8=>?_
 have bL:=ub a8 bI
 refine bi (ah bL rfl) fun Y=>Rt 7 Y<|Rt 8 Y<|Rt 9 Y<|Rt 10 Y<|Rt 11 Y<|re<|tn<|sg<|Pl 2<|?_
 refine L0<|Oc<|m2 (b7 ((cw (I.bytesR ((bD (ai.mk b false 0) 1968).byteV)) (((ai.mk b false 0).wordsC 1).wordV)).isSome) 6 (RC.upd aK a8 aA (aE.step (RC.u aK) a8))) fun dO cU bM=>?_
 refine fL cU fun M bN cV=>?_
 refine nt<|go<|Pl 2<|?_
 refine L0<|cg (aZ bM (Ne.symm F) bL) 13 (mG c 0 ((ai.mk b false 0).wordV) (((ai.mk b false 0).wordsC 1).wordV) 0 0 0 0 0 0 0 0 nS (.slice bJ (((cw (I.bytesR ((bD (ai.mk b false 0) 1968).byteV)) (((ai.mk b false 0).wordsC 1).wordV)).getD []).length) bK) nS nS 0 0 0 0 0 nS) fun dP cW bO=>nl<|bn<|tn<|sg<|Pl 1<|?_
 have aM:=us bM bO
 have aN:=ut G (ui B (ui bF (ui C (uz a8 aM)))) (ac im (ac im av))
 have bS:=ut s aN (ac (ni f.size a) (ac (ni (le f.size g.size) d) av))
 refine L0<|Oc<|m2 (ex (RC.upd cV bO (aa F aA) bS)) fun dQ aO Z=>nt<|sq<|sg<|Pl 3<|L0<|eC (p:=⟨j,3,none⟩) (v:=.int .i64 M.endC.e) (RC.fld aO)<|Pl 1<|nt<|?_
 have bT:=ud bS Z (le f.size a)
 refine cb ((M.endC.e != 0)) (fun a0=>?_) (fun a0=>?_)
 have aR:=az a0
 refine sq<|Rg 7 (fun w'=>w'.cell? ⟨j,3,none⟩=some (.int .i64 M.endC.e)) fun dR a9=>?_
 have bU:=RC.upd aO a9 aA (aE.step (RC.u aO) a9)
 refine bi (RC.fld bU) fun a1=>Rt 0 a1<|Rt 1 a1<|Rt 2 a1<|Rt 3 a1<|Rl 4 a1 (fun _ hs=>hs)<|?_
 have bV:=aG Z a9
 refine R0 5 rfl<|be (ub (ut o (u1 aN bV im) (ac (nr a) (ac (ni g.size d) av))) i) mZ fun dS cX aT=>?_
 have bW:=ud bT (uz a9 aT) r
 refine bi (RC.fld (RC.upd bU aT (aa (Ne.symm (nb (au i) lr a)) aA) bW)) fun cY=>Rt 6 cY<|re<|tn<|rt<|tr<|bX cX (.int .i64 M.endC.e)<|?_
 have dT:=aq D (ut (aE.mono (S':=[j,ab,aU]) aM (ac im (ac im av))) (us bV aT) (ac im (ac im av))) (fun x hx=>(aa (fun e=>(aB (au l) (le (le (le (le (le (le (le N.size E.size) G.size) B.size) t.size) H.size) y.size) C.size) D) (e▸hx)) (aa (fun e=>(aB (au ad) (le (le (le (le (le (le E.size G.size) B.size) t.size) H.size) y.size) C.size) D) (e▸hx)) (aa (fun e=>(aB (au i) (le (le (le (le (le (le (le (le g.size N.size) E.size) G.size) B.size) t.size) H.size) y.size) C.size) D) (e▸hx)) aA)))) (fun _ _ h=>h)
 have hs:ag aC 0 c b=aL (aQ.mk c 0 ((ai.mk b false 0).wordV) (((ai.mk b false 0).wordsC 1).wordV) 0 0 0 0 0 0 0 0 [] ((cw (I.bytesR ((bD (ai.mk b false 0) 1968).byteV)) (((ai.mk b false 0).wordsC 1).wordV)).getD []) [] [] 0 0 0 0 0 []) M:=by
   subst bN bC
   unfold ag aC cD cl ci eq jR eP jP iZ jX cZ dV
   (try simp only[k,q,z,L,a0,bs,if_true,if_false,decide_true,decide_false,eq_self,true_or,or_true,or_false,false_or,if_true,if_false,co,cm,cn,cv,reduceIte,dJ])
   all_goals rfl
 rw[hs]
 exact bh aR bW
 have aR:=aj a0
 refine bp<|sg<|?_
 refine L0<|bP (aZ Z (Ne.symm F) cW)<|?_
 refine L0<|be (ub (ut o (u1 aN Z im) (ac (nr a) (ac (ni g.size d) av))) i) (mG c 0 ((ai.mk b false 0).wordV) (((ai.mk b false 0).wordsC 1).wordV) 0 0 0 0 0 0 0 0 nS (.slice bJ (((cw (I.bytesR ((bD (ai.mk b false 0) 1968).byteV)) (((ai.mk b false 0).wordsC 1).wordV)).getD []).length) bK) nS nS 0 0 0 0 0 nS) fun dU d0 bY=>Pl 1<|nt<|rt<|bX d0 (.int .i64 0)<|?_
 have hs:ag aC 0 c b=aL (aQ.mk c 0 ((ai.mk b false 0).wordV) (((ai.mk b false 0).wordsC 1).wordV) 0 0 0 0 0 0 0 0 [] ((cw (I.bytesR ((bD (ai.mk b false 0) 1968).byteV)) (((ai.mk b false 0).wordsC 1).wordV)).getD []) [] [] 0 0 0 0 0 []) M:=by
   subst bN bC
   unfold ag aC cD cl ci eq jR eP jP iZ jX cZ dV
   (try simp only[k,q,z,L,a0,bs,if_true,if_false,decide_true,decide_false,eq_self,true_or,or_true,or_false,false_or,if_true,if_false,co,cm,cn,cv,reduceIte,dJ])
   all_goals rfl
 rw[hs]
 exact bt aR ⟨_,_,_,_,_,rfl,aS.nil ..,((aq D (ut (aE.mono (S':=[j,ab,aU]) aM (ac im (ac im av))) (us Z bY) (ac im (ac im av))) (fun x hx=>(aa (fun e=>(aB (au l) (le (le (le (le (le (le (le N.size E.size) G.size) B.size) t.size) H.size) y.size) C.size) D) (e▸hx)) (aa (fun e=>(aB (au ad) (le (le (le (le (le (le E.size G.size) B.size) t.size) H.size) y.size) C.size) D) (e▸hx)) (aa (fun e=>(aB (au i) (le (le (le (le (le (le (le (le g.size N.size) E.size) G.size) B.size) t.size) H.size) y.size) C.size) D) (e▸hx)) aA)))) (fun _ _ h=>h))).rd,(fun _ _ _=>aS.nil ..),aS.nil ..,aS.nil ..,⟨(b8 (x:=c) (by omega)),(b8 (x:=0) (by omega)),(aD (x:=(ai.mk b false 0).wordV) (by omega)),(aD (x:=((ai.mk b false 0).wordsC 1).wordV) (by omega)),(aD (x:=0) (by omega)),(aD (x:=0) (by omega)),(aD (x:=0) (by omega)),(aD (x:=0) (by omega)),(aD (x:=0) (by omega)),(aD (x:=0) (by omega)),(aD (x:=0) (by omega)),(aD (x:=0) (by omega)),(b8 (x:=0) (by omega)),(b8 (x:=0) (by omega)),(b8 (x:=0) (by omega)),(b8 (x:=0) (by omega)),(b8 (x:=0) (by omega))⟩⟩ (ud bT bY r)
 have cJ:=ak L
 refine sg<|Pl 1<|?_
 refine L0<|be (ub o i) mZ fun dW d1 d2=>Pl 1<|nt<|rt<|br<|tr<|bX d1 (.int .i64 4)<|?_
 have hs:ag aC 0 c b=(aQ.zero,4):=by
   unfold ag aC cD cl ci eq jR eP jP iZ jX cZ dV
   (try simp only[k,q,z,L,bs,if_true,if_false,decide_true,decide_false,eq_self,true_or,or_true,or_false,false_or,if_true,if_false,co,cm,cn,cv,reduceIte,dJ])
   all_goals rfl
 rw[hs]
 exact bA (ud s d2 r)
theorem kv{m:Md}{A:Option Addr}{cp:Nat}{b:List Int}{w:World}{c:Int}(hcode:B8 c)(hsl:bo m w (.slice A b.length cp) b)(hb:b.length≤1048576) :
    Calls Tryz.prog 93 #[.int .i64 1,.int .u8 c,.slice A b.length cp] w (cK (.slice A b.length cp) b (ag aC 1 c b) w):=by
 obtain⟨hcode1,hcode2⟩:=hcode
 have hln:(b.length:Int)≤1048576:=by omega
 refine en 113 Tryz.func93 rfl<|sg<|L0<|bQ mZ fun cN cO q h d=>Pl 1<|nt<|sq<|sg<|Pl 6<|nt<|c0<|?_
 refine bp<|sg<|Pl 2<|L0<|dC #[.slice A b.length cp,.int .i64 0,.bool false,.int .i64 0] fun j cP a s g=>Pl 1<|ng<|Pl 2<|L0<|bQ mZ fun cQ cS f bu bv=>L0<|be bu (mC c) fun P Q bw=>?_
 refine nt<|sq<|sg<|Pl 1<|nt<|bk<|sq<|sg<|Pl 2<|nl<|?_
 refine tn<|?_
 have B:=ud bv bw f
 have l:=aG g B
 have r:=aG d l
 refine cb ((c==1)) (fun i=>?_) (fun i=>?_)
 have bz:=ae i
 refine bp<|ct i<|sq<|sg<|Pl 2<|nt<|c0<|bp<|sg<|?_
 refine Pl 1<|?_
 have bB:RC w _ A cp b P j (ai.mk b false 0):=⟨hsl,r,(Nat.le_trans d.size a),⟨0,(ub B s),Nat.zero_le _,rfl⟩,by omega⟩
 refine L0<|Oc<|m3 (eb bB) fun cT bC bE cU=>L0<|Oi ((ai.mk b false 0).byteV)<|Pl 1<|ng<|Pl 4<|cu 3 [41] 44 (((decide (0<((ai.mk b false 0).byteV)))&&(decide (((ai.mk b false 0).byteV)≤250)))) (fun K am=>?_) ?_
 refine bl 41 ((decide (0<((ai.mk b false 0).byteV)))) (fun C=>?_) (fun C=>?_)
 have bF:=of_decide_eq_true C
 exact Pl 3<|ce am (decide (((ai.mk b false 0).byteV)≤250)) (by rw[C];rfl)
 have bF:=of_decide_eq_false C
 exact Pl 3<|ce am false (by rw[C];rfl)
 refine L0<|Oc<|m2 (b7 (((decide (0<((ai.mk b false 0).byteV)))&&(decide (((ai.mk b false 0).byteV)≤250)))) 5 bC) fun cV bG bH=>?_
 refine fL bG fun x43 an ao=>?_
 refine nt<|go<|Pl 2<|L0<|Oc<|oa (fK (n:=(ai.mk b false 0).byteV) (by omega) ao) fun ap aq cW bI bJ bK=>?_
 have cX:=Nat.le_trans (ai.bytesR_le x43 ((ai.mk b false 0).byteV)) (RC.clen ao)
 refine Pl 1<|?_
 have ar:=u1 bE (u1 bH bK im) im
 have Y:=nb (au s) lr f
 refine L0<|cg (aZ ar (Ne.symm Y) Q) 14 (mG c 0 0 0 0 0 0 0 0 0 0 0 nS nS (.slice ap ((x43.bytesR ((ai.mk b false 0).byteV)).length) aq) nS 0 0 0 0 0 nS) fun cY bL aw=>nl<|bn<|tn<|sg<|Pl 1<|?_
 have Z:=us ar aw
 have ax:=ut r Z (ac (ni d.size a) (ac (ni (le d.size g.size) f) av))
 refine L0<|Oc<|m2 (ex (RC.upd bJ aw (aa Y aA) ax)) fun d0 a0 R=>nt<|sq<|sg<|Pl 3<|L0<|eC (p:=⟨j,3,none⟩) (v:=.int .i64 (((x43.bytesC ((ai.mk b false 0).byteV)).endC).e)) (RC.fld a0)<|Pl 1<|nt<|?_
 have ay:=ud ax R (le d.size a)
 refine cb (((((x43.bytesC ((ai.mk b false 0).byteV)).endC).e)!=0)) (fun D=>?_) (fun D=>?_)
 have a1:=az D
 refine sq<|Rg 7 (fun w'=>w'.cell? ⟨j,3,none⟩=some (.int .i64 (((x43.bytesC ((ai.mk b false 0).byteV)).endC).e))) fun d1 S=>?_
 have aB:=RC.upd a0 S aA (aE.step (RC.u a0) S)
 refine bi (RC.fld aB) fun E=>Rt 0 E<|Rt 1 E<|Rt 2 E<|Rt 3 E<|Rl 4 E (fun _ hs=>hs)<|?_
 refine R0 5 rfl<|be (ub (ut l (u1 Z (aG R S) im) (ac (nr a) (ac (ni g.size f) av))) h) mZ fun d2 bM aF=>?_
 have aH:=ud ay (uz S aF) q
 refine bi (RC.fld (RC.upd aB aF (aa (Ne.symm (nb (au h) lr a)) aA) aH)) fun bN=>Rt 6 bN<|re<|tn<|rt<|tr<|bX bM (.int .i64 (((x43.bytesC ((ai.mk b false 0).byteV)).endC).e))<|?_
 have hs:ag aC 1 c b=aL (aQ.mk c 0 0 0 0 0 0 0 0 0 0 0 [] [] (x43.bytesR ((ai.mk b false 0).byteV)) [] 0 0 0 0 0 []) (x43.bytesC ((ai.mk b false 0).byteV)):=by
   subst an
   unfold ag aC cD cl ci eq jR eP jP iZ jX cZ dV
   (try simp only[i,D,bs,if_true,if_false,decide_true,decide_false,eq_self,true_or,or_true,or_false,false_or,if_true,if_false,co,cm,cn,cv,reduceIte,dJ])
   all_goals rfl
 rw[hs]
 exact bh a1 aH
 have a1:=aj D
 refine bp<|sg<|?_
 refine L0<|bP (aZ R (Ne.symm Y) bL)<|?_
 refine L0<|be (ub (ut l (u1 Z R im) (ac (nr a) (ac (ni g.size f) av))) h) (mG c 0 0 0 0 0 0 0 0 0 0 0 nS nS (.slice ap ((x43.bytesR ((ai.mk b false 0).byteV)).length) aq) nS 0 0 0 0 0 nS) fun d3 bO bS=>Pl 1<|nt<|rt<|bX bO (.int .i64 0)<|?_
 have hs:ag aC 1 c b=aL (aQ.mk c 0 0 0 0 0 0 0 0 0 0 0 [] [] (x43.bytesR ((ai.mk b false 0).byteV)) [] 0 0 0 0 0 []) (x43.bytesC ((ai.mk b false 0).byteV)):=by
   subst an
   unfold ag aC cD cl ci eq jR eP jP iZ jX cZ dV
   (try simp only[i,D,bs,if_true,if_false,decide_true,decide_false,eq_self,true_or,or_true,or_false,false_or,if_true,if_false,co,cm,cn,cv,reduceIte,dJ])
   all_goals rfl
 rw[hs]
 exact bt a1 ⟨_,_,_,_,_,rfl,aS.nil ..,aS.nil ..,bI,aS.nil ..,aS.nil ..,⟨(b8 (x:=c) (by omega)),(b8 (x:=0) (by omega)),(aD (x:=0) (by omega)),(aD (x:=0) (by omega)),(aD (x:=0) (by omega)),(aD (x:=0) (by omega)),(aD (x:=0) (by omega)),(aD (x:=0) (by omega)),(aD (x:=0) (by omega)),(aD (x:=0) (by omega)),(aD (x:=0) (by omega)),(aD (x:=0) (by omega)),(b8 (x:=0) (by omega)),(b8 (x:=0) (by omega)),(b8 (x:=0) (by omega)),(b8 (x:=0) (by omega)),(b8 (x:=0) (by omega))⟩⟩ (ud ay bS q)
 have bz:=ak i
 refine go<|Pl 2<|nt<|cb ((c==2)) (fun o=>?_) (fun o=>?_)
 have bT:=ae o
 refine sq<|sg<|Pl 2<|nt<|c0<|bp<|sg<|Pl 1<|?_
 have bU:RC w _ A cp b P j (ai.mk b false 0):=⟨hsl,r,(Nat.le_trans d.size a),⟨0,(ub B s),Nat.zero_le _,rfl⟩,by omega⟩
 refine L0<|Oc<|m3 (eb bU) fun d4 bV bW d5=>L0<|Oi ((ai.mk b false 0).byteV)<|Pl 1<|ng<|Pl 4<|cu 3 [41] 44 (((decide (0<((ai.mk b false 0).byteV)))&&(decide (((ai.mk b false 0).byteV)≤250)))) (fun K aI=>?_) ?_
 refine bl 41 ((decide (0<((ai.mk b false 0).byteV)))) (fun F=>?_) (fun F=>?_)
 have bY:=of_decide_eq_true F
 exact Pl 3<|ce aI (decide (((ai.mk b false 0).byteV)≤250)) (by rw[F];rfl)
 have bY:=of_decide_eq_false F
 exact Pl 3<|ce aI false (by rw[F];rfl)
 refine L0<|Oc<|m2 (b7 (((decide (0<((ai.mk b false 0).byteV)))&&(decide (((ai.mk b false 0).byteV)≤250)))) 5 bV) fun d7 bZ c2=>?_
 refine fL bZ fun k aJ aK=>?_
 refine nt<|go<|Pl 2<|L0<|Oc<|oa (fK (n:=(ai.mk b false 0).byteV) (by omega) aK) fun aM aN d8 c3 c4 c5=>?_
 have d9:=Nat.le_trans (ai.bytesR_le k ((ai.mk b false 0).byteV)) (RC.clen aK)
 refine Pl 1<|?_
 have aO:=u1 bW (u1 c2 c5 im) im
 have a2:=nb (au s) lr f
 refine L0<|cg (aZ aO (Ne.symm a2) Q) 14 (mG c 0 0 0 0 0 0 0 0 0 0 0 nS nS (.slice aM ((k.bytesR ((ai.mk b false 0).byteV)).length) aN) nS 0 0 0 0 0 nS) fun da c6 aR=>nl<|bn<|tn<|sg<|Pl 1<|?_
 have a3:=us aO aR
 have aT:=ut r a3 (ac (ni d.size a) (ac (ni (le d.size g.size) f) av))
 refine L0<|Oc<|m2 (ex (RC.upd c4 aR (aa a2 aA) aT)) fun db a4 T=>nt<|sq<|sg<|Pl 3<|L0<|eC (p:=⟨j,3,none⟩) (v:=.int .i64 (((k.bytesC ((ai.mk b false 0).byteV)).endC).e)) (RC.fld a4)<|Pl 1<|nt<|?_
 have aU:=ud aT T (le d.size a)
 refine cb (((((k.bytesC ((ai.mk b false 0).byteV)).endC).e)!=0)) (fun G=>?_) (fun G=>?_)
 have a5:=az G
 refine sq<|Rg 7 (fun w'=>w'.cell? ⟨j,3,none⟩=some (.int .i64 (((k.bytesC ((ai.mk b false 0).byteV)).endC).e))) fun dc U=>?_
 have aV:=RC.upd a4 U aA (aE.step (RC.u a4) U)
 refine bi (RC.fld aV) fun H=>Rt 0 H<|Rt 1 H<|Rt 2 H<|Rt 3 H<|Rl 4 H (fun _ hs=>hs)<|?_
 refine R0 5 rfl<|be (ub (ut l (u1 a3 (aG T U) im) (ac (nr a) (ac (ni g.size f) av))) h) mZ fun dd c7 aW=>?_
 have aX:=ud aU (uz U aW) q
 refine bi (RC.fld (RC.upd aV aW (aa (Ne.symm (nb (au h) lr a)) aA) aX)) fun c8=>Rt 6 c8<|re<|tn<|rt<|tr<|bX c7 (.int .i64 (((k.bytesC ((ai.mk b false 0).byteV)).endC).e))<|?_
 have hs:ag aC 1 c b=aL (aQ.mk c 0 0 0 0 0 0 0 0 0 0 0 [] [] (k.bytesR ((ai.mk b false 0).byteV)) [] 0 0 0 0 0 []) (k.bytesC ((ai.mk b false 0).byteV)):=by
   subst aJ
   unfold ag aC cD cl ci eq jR eP jP iZ jX cZ dV
   (try simp only[i,o,G,bs,if_true,if_false,decide_true,decide_false,eq_self,true_or,or_true,or_false,false_or,if_true,if_false,co,cm,cn,cv,reduceIte,dJ])
   all_goals rfl
 rw[hs]
 exact bh a5 aX
 have a5:=aj G
 refine bp<|sg<|?_
 refine L0<|bP (aZ T (Ne.symm a2) c6)<|?_
 refine L0<|be (ub (ut l (u1 a3 T im) (ac (nr a) (ac (ni g.size f) av))) h) (mG c 0 0 0 0 0 0 0 0 0 0 0 nS nS (.slice aM ((k.bytesR ((ai.mk b false 0).byteV)).length) aN) nS 0 0 0 0 0 nS) fun de c9 ca=>Pl 1<|nt<|rt<|bX c9 (.int .i64 0)<|?_
 have hs:ag aC 1 c b=aL (aQ.mk c 0 0 0 0 0 0 0 0 0 0 0 [] [] (k.bytesR ((ai.mk b false 0).byteV)) [] 0 0 0 0 0 []) (k.bytesC ((ai.mk b false 0).byteV)):=by
   subst aJ
   unfold ag aC cD cl ci eq jR eP jP iZ jX cZ dV
   (try simp only[i,o,G,bs,if_true,if_false,decide_true,decide_false,eq_self,true_or,or_true,or_false,false_or,if_true,if_false,co,cm,cn,cv,reduceIte,dJ])
   all_goals rfl
 rw[hs]
 exact bt a5 ⟨_,_,_,_,_,rfl,aS.nil ..,aS.nil ..,c3,aS.nil ..,aS.nil ..,⟨(b8 (x:=c) (by omega)),(b8 (x:=0) (by omega)),(aD (x:=0) (by omega)),(aD (x:=0) (by omega)),(aD (x:=0) (by omega)),(aD (x:=0) (by omega)),(aD (x:=0) (by omega)),(aD (x:=0) (by omega)),(aD (x:=0) (by omega)),(aD (x:=0) (by omega)),(aD (x:=0) (by omega)),(aD (x:=0) (by omega)),(b8 (x:=0) (by omega)),(b8 (x:=0) (by omega)),(b8 (x:=0) (by omega)),(b8 (x:=0) (by omega)),(b8 (x:=0) (by omega))⟩⟩ (ud aU ca q)
 have bT:=ak o
 refine sg<|Pl 2<|nt<|cb ((c==5)) (fun t=>?_) (fun t=>?_)
 have cc:=ae t
 refine sg<|Pl 1<|?_
 have cd:RC w _ A cp b P j (ai.mk b false 0):=⟨hsl,r,(Nat.le_trans d.size a),⟨0,(ub B s),Nat.zero_le _,rfl⟩,by omega⟩
 refine L0<|Oc<|m3 (d6 cd) fun df cf aY dg=>Pl 1<|?_
 have I:=nb (au s) lr f
 refine L0<|cg (aZ aY (Ne.symm I) Q) 2 (mG c 0 ((ai.mk b false 0).wordV) 0 0 0 0 0 0 0 0 0 nS nS nS nS 0 0 0 0 0 nS) fun dh ch b0=>ng<|Pl 1<|?_
 have a6:=us aY b0
 have b1:=ut r a6 (ac (ni d.size a) (ac (ni (le d.size g.size) f) av))
 refine L0<|Oc<|m3 (d6 (RC.upd cf b0 (aa I aA) b1)) fun di cj b2 dj=>Pl 1<|?_
 refine L0<|cg (aZ b2 (Ne.symm I) ch) 4 (mG c 0 ((ai.mk b false 0).wordV) 0 (((ai.mk b false 0).wordsC 1).wordV) 0 0 0 0 0 0 0 nS nS nS nS 0 0 0 0 0 nS) fun dk a7 b3=>nt<|go<|Pl 2<|L0<|aP a7 4<|Pl 2<|cu 4 [62] 66 ((((((ai.mk b false 0).wordsC 1).wordV)==0)||((((ai.mk b false 0).wordsC 1).wordV)==65280))) (fun K b4=>?_) ?_
 refine bl 62 (((((ai.mk b false 0).wordsC 1).wordV)==0)) (fun J=>?_) (fun J=>?_)
 have ck:=ae J
 exact Pl 4<|ce b4 true (by rw[J];rfl)
 have ck:=ak J
 exact Pl 1<|L1<|aP a7 4<|Pl 2<|ce b4 ((((ai.mk b false 0).wordsC 1).wordV)==65280) (by rw[J];rfl)
 have a8:=us b2 b3
 have b5:=ut b1 a8 (ac (ni d.size a) (ac (ni (le d.size g.size) f) av))
 refine L0<|Oc<|m2 (b7 ((((((ai.mk b false 0).wordsC 1).wordV)==0)||((((ai.mk b false 0).wordsC 1).wordV)==65280))) 6 (RC.upd cj b3 (aa I aA) b5)) fun dl cq cr=>?_
 refine fL cq fun y b6 cs=>?_
 refine nl<|bn<|tn<|sg<|Pl 1<|L0<|Oc<|m2 (ex cs) fun dm a9 cw=>nt<|sq<|sg<|Pl 3<|L0<|eC (p:=⟨j,3,none⟩) (v:=.int .i64 y.endC.e) (RC.fld a9)<|?_
 refine Pl 1<|nt<|?_
 have V:=u1 cr cw im
 have b9:=ud b5 V (le d.size a)
 refine cb ((y.endC.e != 0)) (fun L=>?_) (fun L=>?_)
 have ab:=az L
 refine sq<|Rg 7 (fun w'=>w'.cell? ⟨j,3,none⟩=some (.int .i64 y.endC.e)) fun dn W=>?_
 have ba:=RC.upd a9 W aA (aE.step (RC.u a9) W)
 refine bi (RC.fld ba) fun M=>Rt 0 M<|Rt 1 M<|Rt 2 M<|Rt 3 M<|Rl 4 M (fun _ hs=>hs)<|?_
 refine R0 5 rfl<|be (ub (ut l (ut a6 (u1 a8 (aG V W) im) (ac im (ac im av))) (ac (nr a) (ac (ni g.size f) av))) h) mZ fun dp cx bb=>?_
 have bc:=ud b9 (uz W bb) q
 refine bi (RC.fld (RC.upd ba bb (aa (Ne.symm (nb (au h) lr a)) aA) bc)) fun cy=>Rt 6 cy<|re<|tn<|rt<|tr<|bX cx (.int .i64 y.endC.e)<|?_
 have hs:ag aC 1 c b=aL (aQ.mk c 0 ((ai.mk b false 0).wordV) 0 (((ai.mk b false 0).wordsC 1).wordV) 0 0 0 0 0 0 0 [] [] [] [] 0 0 0 0 0 []) y:=by
   subst b6
   unfold ag aC cD cl ci eq jR eP jP iZ jX cZ dV
   (try simp only[i,o,t,L,bs,if_true,if_false,decide_true,decide_false,eq_self,true_or,or_true,or_false,false_or,if_true,if_false,co,cm,cn,cv,reduceIte,dJ])
   all_goals rfl
 rw[hs]
 exact bh ab bc
 have ab:=aj L
 refine bp<|sg<|?_
 refine L0<|bP (aZ V (Ne.symm I) a7)<|?_
 refine L0<|be (ub (ut l (ut a6 (u1 a8 V im) (ac im (ac im av))) (ac (nr a) (ac (ni g.size f) av))) h) (mG c 0 ((ai.mk b false 0).wordV) 0 (((ai.mk b false 0).wordsC 1).wordV) 0 0 0 0 0 0 0 nS nS nS nS 0 0 0 0 0 nS) fun dq cz cA=>Pl 1<|nt<|rt<|bX cz (.int .i64 0)<|?_
 have hs:ag aC 1 c b=aL (aQ.mk c 0 ((ai.mk b false 0).wordV) 0 (((ai.mk b false 0).wordsC 1).wordV) 0 0 0 0 0 0 0 [] [] [] [] 0 0 0 0 0 []) y:=by
   subst b6
   unfold ag aC cD cl ci eq jR eP jP iZ jX cZ dV
   (try simp only[i,o,t,L,bs,if_true,if_false,decide_true,decide_false,eq_self,true_or,or_true,or_false,false_or,if_true,if_false,co,cm,cn,cv,reduceIte,dJ])
   all_goals rfl
 rw[hs]
 exact bt ab ⟨_,_,_,_,_,rfl,aS.nil ..,aS.nil ..,(fun _ _ _=>aS.nil ..),aS.nil ..,aS.nil ..,⟨(b8 (x:=c) (by omega)),(b8 (x:=0) (by omega)),(aD (x:=(ai.mk b false 0).wordV) (by omega)),(aD (x:=0) (by omega)),(aD (x:=((ai.mk b false 0).wordsC 1).wordV) (by omega)),(aD (x:=0) (by omega)),(aD (x:=0) (by omega)),(aD (x:=0) (by omega)),(aD (x:=0) (by omega)),(aD (x:=0) (by omega)),(aD (x:=0) (by omega)),(aD (x:=0) (by omega)),(b8 (x:=0) (by omega)),(b8 (x:=0) (by omega)),(b8 (x:=0) (by omega)),(b8 (x:=0) (by omega)),(b8 (x:=0) (by omega))⟩⟩ (ud b9 cA q)
 have cc:=ak t
 refine sg<|Pl 2<|nt<|cb ((c==15)) (fun z=>?_) (fun z=>?_)
 have cB:=ae z
 refine sg<|Pl 1<|?_
 have ad:RC w _ A cp b P j (ai.mk b false 0):=⟨hsl,r,(Nat.le_trans d.size a),⟨0,(ub B s),Nat.zero_le _,rfl⟩,by omega⟩
 have bd:=nb (au s) lr f
 refine L0<|Oc<|m3 (mu (most:=1968) (b8 (by omega)) ad Q (Nat.le_trans (le d.size g.size) f) bd) fun dr cC cE cF=>?_
 have ds:=bR (RC.rng ad)
 have dt:=bR (c:=(ai.mk b false 0).wordsC 1) (cR (RC.rng ad) 1)
 refine nt<|sq<|sg<|Pl 2<|nt<|c1<|xt<|tx<|bx<|tn<|sq<|?_
 refine go<|Pl 1<|L0<|Oc<|m2 (ex cC) fun du af bf=>nt<|sq<|sg<|Pl 3<|L0<|eC (p:=⟨j,3,none⟩) (v:=.int .i64 (((bD (ai.mk b false 0) 1968).endC).e)) (RC.fld af)<|Pl 1<|nt<|?_
 have ah:=u1 cF bf im
 have bg:=ut r ah (ac (ni d.size a) (ac (ni (le d.size g.size) f) av))
 refine cb (((((bD (ai.mk b false 0) 1968).endC).e)!=0)) (fun N=>?_) (fun N=>?_)
 have al:=az N
 refine sq<|Rg 7 (fun w'=>w'.cell? ⟨j,3,none⟩=some (.int .i64 (((bD (ai.mk b false 0) 1968).endC).e))) fun dv X=>?_
 have bj:=RC.upd af X aA (aE.step (RC.u af) X)
 refine bi (RC.fld bj) fun O=>Rt 0 O<|Rt 1 O<|Rt 2 O<|Rt 3 O<|Rl 4 O (fun _ hs=>hs)<|?_
 refine R0 5 rfl<|be (ub (ut l (aG ah X) (ac (nr a) (ac (ni g.size f) av))) h) mZ fun dw cG bm=>?_
 have bq:=ud bg (uz X bm) q
 refine bi (RC.fld (RC.upd bj bm (aa (Ne.symm (nb (au h) lr a)) aA) bq)) fun cH=>Rt 6 cH<|re<|tn<|rt<|tr<|bX cG (.int .i64 (((bD (ai.mk b false 0) 1968).endC).e))<|?_
 have hs:ag aC 1 c b=aL (aQ.mk c 0 ((ai.mk b false 0).wordV) (((ai.mk b false 0).wordsC 1).wordV) 0 0 0 0 0 0 0 0 [] [] [] [] 0 0 0 0 0 []) (bD (ai.mk b false 0) 1968):=by
   unfold ag aC cD cl ci eq jR eP jP iZ jX cZ dV
   (try simp only[i,o,t,z,N,bs,if_true,if_false,decide_true,decide_false,eq_self,true_or,or_true,or_false,false_or,if_true,if_false,co,cm,cn,cv,reduceIte,dJ])
   all_goals rfl
 rw[hs]
 exact bh al bq
 have al:=aj N
 refine bp<|sg<|?_
 refine L0<|bP (aZ bf (Ne.symm bd) cE)<|?_
 refine L0<|be (ub (ut l ah (ac (nr a) (ac (ni g.size f) av))) h) (mG c 0 ((ai.mk b false 0).wordV) (((ai.mk b false 0).wordsC 1).wordV) 0 0 0 0 0 0 0 0 nS nS nS nS 0 0 0 0 0 nS) fun dx cI cJ=>Pl 1<|nt<|rt<|bX cI (.int .i64 0)<|?_
 have hs:ag aC 1 c b=aL (aQ.mk c 0 ((ai.mk b false 0).wordV) (((ai.mk b false 0).wordsC 1).wordV) 0 0 0 0 0 0 0 0 [] [] [] [] 0 0 0 0 0 []) (bD (ai.mk b false 0) 1968):=by
   unfold ag aC cD cl ci eq jR eP jP iZ jX cZ dV
   (try simp only[i,o,t,z,N,bs,if_true,if_false,decide_true,decide_false,eq_self,true_or,or_true,or_false,false_or,if_true,if_false,co,cm,cn,cv,reduceIte,dJ])
   all_goals rfl
 rw[hs]
 exact bt al ⟨_,_,_,_,_,rfl,aS.nil ..,aS.nil ..,(fun _ _ _=>aS.nil ..),aS.nil ..,aS.nil ..,⟨(b8 (x:=c) (by omega)),(b8 (x:=0) (by omega)),(aD (x:=(ai.mk b false 0).wordV) (by omega)),(aD (x:=((ai.mk b false 0).wordsC 1).wordV) (by omega)),(aD (x:=0) (by omega)),(aD (x:=0) (by omega)),(aD (x:=0) (by omega)),(aD (x:=0) (by omega)),(aD (x:=0) (by omega)),(aD (x:=0) (by omega)),(aD (x:=0) (by omega)),(aD (x:=0) (by omega)),(b8 (x:=0) (by omega)),(b8 (x:=0) (by omega)),(b8 (x:=0) (by omega)),(b8 (x:=0) (by omega)),(b8 (x:=0) (by omega))⟩⟩ (ud bg cJ q)
 have cB:=ak z
 refine sg<|Pl 1<|?_
 refine L0<|be (ub l h) mZ fun dy cL cM=>Pl 1<|nt<|rt<|br<|tr<|bX cL (.int .i64 4)<|?_
 have hs:ag aC 1 c b=(aQ.zero,4):=by
   unfold ag aC cD cl ci eq jR eP jP iZ jX cZ dV
   (try simp only[i,o,t,z,bs,if_true,if_false,decide_true,decide_false,eq_self,true_or,or_true,or_false,false_or,if_true,if_false,co,cm,cn,cv,reduceIte,dJ])
   all_goals rfl
 rw[hs]
 exact bA (ud r cM q)
theorem kn{m:Md}{A:Option Addr}{cp:Nat}{b:List Int}{w:World}{dir c:Int}(hcode:B8 c)(hsl:bo m w (.slice A b.length cp) b)(hb:b.length≤1048576)(hd:¬ (dir=0∨dir=1)) :
    Calls Tryz.prog 93 #[.int .i64 dir,.int .u8 c,.slice A b.length cp] w (cK (.slice A b.length cp) b (ag aC dir c b) w):=by
 obtain⟨hcode1,hcode2⟩:=hcode
 have hln:(b.length:Int)≤1048576:=by omega
 have e0:(dir != 0)=true:=by simp;omega
 have e1:(dir != 1)=true:=by simp;omega
 refine en 113 Tryz.func93 rfl<|sg<|L0<|bQ mZ fun g h a d e=>Pl 1<|nt<|sq<|sg<|Pl 3<|sy 16 e0<|Pl 3<|nl<|?_
 refine tn<|ct e1<|sg<|Pl 1<|L0<|be d mZ fun i dF f=>Pl 1<|nt<|rt<|tr<|bX dF (.int .i64 1)<|?_
 have hs:ag aC dir c b=(aQ.zero,1):=by
   unfold ag aC cD cl ci eq jR eP jP iZ jX cZ dV
   (try simp only[e0,e1,bs,if_true,if_false,decide_true,decide_false,eq_self,true_or,or_true,or_false,false_or,if_true,if_false,co,cm,cn,cv,reduceIte,hd,dJ])
   all_goals rfl
 rw[hs]
 exact bA (ud e f a)
open Go.RowKit
theorem gY{C:ai}(h:eJ C){b:Bool}{x:Int}:eJ (C.need b x):=fun y hy=>h y (by rwa [j8] at hy)
theorem i5{C:ai}(h:eJ C){n:Int}:eJ (C.bytesC n):=gG h n
theorem lI{C:ai}(h:eJ C){n:Int}:eJ (C.wordsC n):=cR h n
theorem ur(C:ai)(x:Int) : (C.bytesC 1).need (!(C.bytesC 1).sh) x=C.bytesC 1:=by
  by_cases hf:C.fails 1=true
  · exact ei (fc hf)
  · have h:(C.bytesC 1).sh=false:=by
      unfold ai.bytesC
      rw[if_neg hf]
      unfold ai.fails at hf
      simp only[Bool.or_eq_true,decide_eq_true_eq,not_or] at hf
      show C.sh=false
      simpa using hf.1.1
    rw[h]
    unfold ai.need
    rw[if_neg (by rintro⟨_,h⟩;cases h)]
theorem sn{v:Int}(h:0≤v) : decide (0<v)=(v != 0):=by
  rw[Bool.eq_iff_iff]
  simp only[decide_eq_true_eq,bne_iff_ne,ne_eq]
  omega
def wK (C:ai) : ai:=((C.bytesC 1).need (!(C.bytesC 1).sh) 5).need (C.byteV==6) 9
def wI (C:ai) : ai:=((wK C).wordsC 1).need (decide (0<(wK C).wordV)) 6
def wL (C:ai) : ai:=((wI C).wordsC 1).need (decide ((wI C).wordV≤9999)) 7
def rM (C:ai) : ai:=((wL C).wordsC 1).need (decide (0<(wL C).wordV)) 5
theorem si(C:ai) : wK C=ew C:=by unfold wK ew;rw[ur]
theorem pf{C:ai}(h:eJ C) : eJ (ew C):=gY (i5 h)
theorem s3{C:ai}(h:eJ C) : wI C=ij C:=by unfold wI ij;rw[si,sn (bR (pf h)).1]
theorem to{C:ai}(h:eJ C) : eJ (ij C):=gY (lI (pf h))
theorem rK{C:ai}(h:eJ C) : wL C=l7 C:=by unfold wL l7;rw[s3 h]
theorem th{C:ai}(h:eJ C) : eJ (l7 C):=gY (lI (to h))
theorem qH{C:ai}(h:eJ C) : rM C=dD C:=by unfold rM dD;rw[rK h,sn (bR (th h)).1]
theorem vG{C:ai}(h:C.e≠0) : C.endC=C:=by unfold ai.endC;exact ei h
theorem vR{b:List Int}(h:b.length≠0) : (ai.mk b false 0).byteV=b.getD 0 0∧(ai.mk b false 0).bytesC 1=⟨b.drop 1,false,0⟩:=by
  have hf:¬ (ai.mk b false 0).fails 1=true:=by
    unfold ai.fails
    simp only[Bool.or_eq_true,decide_eq_true_eq,not_or]
    exact⟨⟨by decide,by decide⟩,by omega⟩
  constructor
  · unfold ai.byteV ai.bytesR
    rw[if_neg hf]
    rcases b with _|⟨x,t⟩
    · exact absurd rfl h
    · rfl
  · unfold ai.bytesC
    rw[if_neg hf]
    rfl
def de (b:List Int)(n:Int) : List Int:=(b.take (n+1).toNat).drop 1
def dQ (one:Int→ai→Int × ai × dt)(c:Int)(b:List Int) : aQ × Int :=
  if (aU one (de b (b.getD 0 0)).length 0 ⟨de b (b.getD 0 0),false,0⟩ []).1.e != 0 then (aQ.zero,bq (aU one (de b (b.getD 0 0)).length 0 ⟨de b (b.getD 0 0),false,0⟩ []).1.e)
  else if decide (b.getD 0 0+1<(b.length:Int)) then (aQ.zero,3)
  else ({ aQ.zero with code:=c,recs:=(aU one (de b (b.getD 0 0)).length 0 ⟨de b (b.getD 0 0),false,0⟩ []).2 },0)
def bS (one:Int→ai→Int × ai × dt)(may:Int→Bool)(c:Int)(b:List Int) : aQ × Int :=
  if (b.length:Int)==0 then (aQ.zero,2)
  else if !(may (b.getD 0 0)) then (aQ.zero,5)
  else if decide ((b.length:Int)<b.getD 0 0+1) then (aQ.zero,2)
  else dQ one c b
theorem jQ{M:aQ}{C:ai}(h:C.e≠0) : aL M C=(aQ.zero,C.e):=by
  unfold aL
  rw[vG h,if_neg h]
theorem jm{one:Int→ai→Int × ai × dt}{may:Int→Bool}{c:Int}{b:List Int}(hr:∀ x,x∈b→0≤x∧x<256) : aL (dy one may c ⟨b,false,0⟩).2 (dy one may c ⟨b,false,0⟩).1=bS one may c b:=by
  unfold bS
  by_cases h0:b.length=0
  · rw[if_pos (by rw[beq_iff_eq];omega)]
    obtain rfl:=List.eq_nil_of_length_eq_zero h0
    have e1:(j0 may ⟨[],false,0⟩).e=2:=by
      unfold j0
      rw[ei (fc (by decide))]
      rfl
    have e2:((j0 may ⟨[],false,0⟩).bytesC (ai.mk [] false 0).byteV).e=2:=by
      have hs:(j0 may ⟨[],false,0⟩).sh=true:=by
        unfold j0
        rw[ei (fc (by decide))]
        rfl
      unfold ai.bytesC
      rw[if_pos (by unfold ai.fails;rw[hs];rfl),ei (by show(j0 may ⟨[],false,0⟩).e≠0;rw[e1];decide)]
      exact e1
    unfold dy
    dsimp only
    rw[ei (by rw[e2];decide),jQ (by rw[e2];decide),e2]
  rw[if_neg (by rw[beq_iff_eq];omega)]
  obtain⟨e1,e2⟩:=vR h0
  have hn:0≤b.getD 0 0∧b.getD 0 0<256:=by
    rcases b with _|⟨x,t⟩
    · exact absurd rfl h0
    · exact hr x (by simp)
  by_cases hm:may (b.getD 0 0)=true
  · rw[if_neg (by rw[hm];decide)]
    have e3:j0 may ⟨b,false,0⟩=⟨b.drop 1,false,0⟩:=by
      unfold j0
      rw[e1,e2,hm]
      rfl
    by_cases hs:(b.length:Int)<b.getD 0 0+1
    · rw[if_pos (by simpa using hs)]
      have hf:(ai.mk (b.drop 1) false 0).fails (b.getD 0 0)=true:=by
        unfold ai.fails
        simp only[Bool.or_eq_true,decide_eq_true_eq,List.length_drop]
        exact .inr (by omega)
      have e4:(j0 may ⟨b,false,0⟩).bytesC (ai.mk b false 0).byteV=⟨[],true,2⟩:=by
        rw[e1,e3]
        unfold ai.bytesC
        rw[if_pos hf]
        rfl
      unfold dy
      dsimp only
      rw[e4,ei (by decide),jQ (by decide)]
    · rw[if_neg (by simpa using hs)]
      have hf:¬ (ai.mk (b.drop 1) false 0).fails (b.getD 0 0)=true:=by
        unfold ai.fails
        simp only[Bool.or_eq_true,decide_eq_true_eq,List.length_drop,not_or]
        exact⟨⟨by decide,by omega⟩,by omega⟩
      have e4:(j0 may ⟨b,false,0⟩).bytesC (ai.mk b false 0).byteV=⟨(b.drop 1).drop (b.getD 0 0).toNat,false,0⟩:=by
        rw[e1,e3]
        unfold ai.bytesC
        rw[if_neg hf]
      have e5:qB may ⟨b,false,0⟩=⟨de b (b.getD 0 0),false,0⟩:=by
        unfold qB de
        rw[e1,e3]
        unfold ai.bytesR
        rw[if_neg hf,show(b.getD 0 0+1).toNat=1+(b.getD 0 0).toNat from by omega,List.drop_take]
        rw[show 1+(b.getD 0 0).toNat-1=(b.getD 0 0).toNat from by omega]
      unfold dy dQ mU
      dsimp only
      rw[e4,e5]
      by_cases hz:(aU one (de b (b.getD 0 0)).length 0 ⟨de b (b.getD 0 0),false,0⟩ []).1.e=0
      · rw[hz,if_neg (by decide)]
        have e6:(ai.mk ((b.drop 1).drop (b.getD 0 0).toNat) false 0).need ((0:Int)==0) (bq 0)=⟨(b.drop 1).drop (b.getD 0 0).toNat,false,0⟩:=rfl
        rw[e6]
        by_cases hl:b.getD 0 0+1<(b.length:Int)
        · rw[if_pos (by simpa using hl)]
          have e7:(ai.mk ((b.drop 1).drop (b.getD 0 0).toNat) false 0).endC=⟨(b.drop 1).drop (b.getD 0 0).toNat,false,3⟩:=by
            unfold ai.endC ai.need
            rw[if_pos ⟨rfl,by rw[beq_eq_false_iff_ne];simp only[List.length_drop];omega⟩]
          unfold aL
          rw[e7,if_neg (show ¬ (3:Int)=0 from by decide)]
        · rw[if_neg (by simpa using hl)]
          have e7:(ai.mk ((b.drop 1).drop (b.getD 0 0).toNat) false 0).endC=⟨(b.drop 1).drop (b.getD 0 0).toNat,false,0⟩:=by
            unfold ai.endC ai.need
            rw[if_neg (by rintro⟨_,h⟩;rw[beq_eq_false_iff_ne] at h;simp only[List.length_drop] at h;omega)]
          unfold aL
          rw[e7,if_pos rfl]
      · rw[if_pos (by simpa using hz)]
        have hw:bq (aU one (de b (b.getD 0 0)).length 0 ⟨de b (b.getD 0 0),false,0⟩ []).1.e≠0:=by
          unfold bq
          split
          · decide
          · exact hz
        have e6:(ai.mk ((b.drop 1).drop (b.getD 0 0).toNat) false 0).need ((aU one (de b (b.getD 0 0)).length 0 ⟨de b (b.getD 0 0),false,0⟩ []).1.e==0) (bq (aU one (de b (b.getD 0 0)).length 0 ⟨de b (b.getD 0 0),false,0⟩ []).1.e)=⟨(b.drop 1).drop (b.getD 0 0).toNat,false,bq (aU one (de b (b.getD 0 0)).length 0 ⟨de b (b.getD 0 0),false,0⟩ []).1.e⟩:=by
          unfold ai.need
          rw[if_pos ⟨rfl,by simpa using hz⟩]
        rw[e6,jQ hw]
  · have hm:may (b.getD 0 0)=false:=by simpa using hm
    rw[if_pos (by rw[hm];rfl)]
    have e3:j0 may ⟨b,false,0⟩=⟨b.drop 1,false,5⟩:=by
      unfold j0
      rw[e1,e2,hm]
      rfl
    have e4:((j0 may ⟨b,false,0⟩).bytesC (ai.mk b false 0).byteV).e=5:=by
      rw[e3]
      unfold ai.bytesC
      split
      · rfl
      · rfl
    unfold dy
    dsimp only
    rw[ei (by rw[e4];decide),jQ (by rw[e4];decide),e4]
theorem ot{b:List Int}(hr:∀ x,x∈b→0≤x∧x<256) : ag aW 0 20 b=bS cU ez 20 b:=jm hr
theorem oy{b:List Int}(hr:∀ x,x∈b→0≤x∧x<256) : ag aW 1 20 b=bS bH eB 20 b:=jm hr
theorem sN{dir:Int}{b:List Int}(hd:dir=0∨dir=1)(hr:∀ x,x∈b→0≤x∧x<256) : ag aW dir 21 b=bS cV eD 21 b:=by
  unfold ag
  rw[if_pos hd]
  exact jm hr
theorem tP:∀ n:Nat,n<256→(decide (1≤(n:Int)%128)&&decide ((n:Int)%128≤3))=cj (n:Int):=by decide +kernel
theorem wz{x:Int}(h:0≤x∧x<256) : (decide (1≤x%128)&&decide (x%128≤3))=cj x:=by
  obtain⟨n,rfl⟩:=Int.eq_ofNat_of_zero_le h.1
  exact tP n (by omega)
theorem uX{x:Int}:(decide (0<x)&&decide (x<5))=(decide (1≤x)&&decide (x≤4)):=by
  rw[Bool.eq_iff_iff]
  simp only[Bool.and_eq_true,decide_eq_true_eq]
  omega
def ep (C:ai) : ai:=((dj C).bytesC 1).need (decide (0<(dj C).byteV)&&decide ((dj C).byteV<5)) 6
theorem sQ(C:ai) : ep C=dX C:=by unfold ep dX;rw[uX]
def eN (C:ai) : ai:=(C.bytesC 1).need (decide (1≤C.byteV%128)&&decide (C.byteV%128≤3)) 6
def fm (C:ai) : ai:=((eN C).bytesC 1).need ((eN C).byteV==0 || (eN C).byteV==255) 6
def fl (C:ai) : ai:=((fm C).bytesC 1).need ((fm C).byteV==0 || (eN C).byteV==255) 6
def gr (kd:Int)(C:ai) : ai:=((fl C).bytesC 1).need ((fl C).byteV==1 || kd != 4) 5
def dz (kd:Int)(C:ai) : ai × List Obj:=dW (fl C).byteV.toNat (gr kd C) []
theorem kN{C:ai}(h:eJ C) : eN C=ja C:=by unfold eN ja;rw[wz (db h)]
theorem nm{C:ai}(h:eJ C) : fm C=jn C:=by unfold fm jn;rw[kN h]
theorem rZ{C:ai}(h:eJ C) : fl C=lu C:=by
  unfold fl lu
  rw[nm h,kN h]
  by_cases e:((jn C).bytesC 1).e=0
  · have h1:=(gk e).1
    unfold jn at h1
    have h2:=(fN (by decide) h1).2
    congr 1
    rw[Bool.eq_iff_iff]
    simp only[Bool.or_eq_true,beq_iff_eq,bne_iff_ne,ne_eq] at h2 ⊢
    omega
  · rw[ei e,ei e]
theorem nX{kd:Int}{C:ai}(h:eJ C) : dz kd C=dH kd C:=by
  unfold dz dH gr ss
  rw[rZ h,Bool.or_comm]
def bY (dir c:Int)(C:ai) : Option (ai × aQ) :=
  if c != 43 then none
  else if C.byteV==13 then some ((eu C).bytesC ((dj C).l.length:Int),{ aQ.zero with code:=43,mei:=C.byteV,data:=(eu C).bytesR ((dj C).l.length:Int) })
  else if dir==0 then some ((ep C).bytesC 1,{ aQ.zero with code:=43,mei:=C.byteV,kind:=(dj C).byteV,next:=(ep C).byteV })
  else some ((dz (dj C).byteV (ep C)).1,{ aQ.zero with code:=43,mei:=C.byteV,kind:=(dj C).byteV,level:=(ep C).byteV,more:=(eN (ep C)).byteV,next:=(fm (ep C)).byteV,objects:=(dz (dj C).byteV (ep C)).2 })
theorem n7{dir c:Int}{b:List Int}(hr:∀ x,x∈b→0≤x∧x<256) : ag bY dir c b=ag bz dir c b:=by
  unfold ag
  split
  · rename_i hd
    unfold bY bz
    by_cases hc:c=43
    · subst hc
      have hD:eJ (ep ⟨b,false,0⟩):=gY (i5 (gY (i5 (C:=⟨b,false,0⟩) hr)))
      have hl:(eu ⟨b,false,0⟩).l.length=(dj ⟨b,false,0⟩).l.length:=by unfold eu;rw[j8]
      rw[if_neg (show ¬ (((43:Int)!=43)=true) from by decide),if_neg (show ¬ (((43:Int)!=43)=true) from by decide),kN hD,nm hD,nX hD,sQ,hl]
      rcases hd with rfl|rfl
      · rw[if_pos (show((0:Int)==0)=true from rfl),if_neg (show ¬ ((0:Int)==1)=true from by decide)]
      · rw[if_neg (show ¬ ((1:Int)==0)=true from by decide),if_pos (show((1:Int)==1)=true from rfl)]
    · rw[if_pos (by simpa using hc),if_pos (by simpa using hc)]
  · rfl
open Go.RowKit
theorem RC.safe{w0:World}{m:Md}{A:Option Addr}{cp:Nat}{full:List Int}{w:World}{g:Nat}{C:ai}(h:RC w0 m A cp full w g C)(D:List TypeId)(hD:159∉D) : dm true D [g] w:=by
  obtain⟨k,h1,_⟩:=h.cell
  exact dm.one h1 hD
theorem RC.nrow{α:Type}{base sz n c:Nat}{e:TypeId}{R:World→α→List Value→Prop}{B:Option Addr}{xs:List α}{w0:World}{m:Md}{A:Option Addr}{cp:Nat}{full:List Int}{w:World}{g:Nat}{C:ai}(h:RC w0 m A cp full w g C)(ho:aV base e sz R w (.slice B n c) xs)(ht:(159==e)=false) : g∉ob B:=by
  obtain⟨k,h1,_⟩:=h.cell
  exact dI h1 ho ht
theorem RC.fld2{w0:World}{m:Md}{A:Option Addr}{cp:Nat}{full:List Int}{w:World}{g:Nat}{C:ai}(h:RC w0 m A cp full w g C) : w.cell? ⟨g,2,none⟩=some (.bool C.sh):=by
  obtain⟨k,h1,_⟩:=h.cell
  rw[bB h1]
  rfl
def uI (w0:World)(m:Md)(A:Option Addr)(cp:Nat)(full:List Int)(g:Nat)(C':ai)(r:dt)(w:World)(e:Ending)(w':World) : Prop:=e = .returned (.agg #[.int .u16 r.file,.int .u16 r.record,.int .u16 r.count,.slice none 0 0])∧dF r.file∧dF r.record∧dF r.count∧RC w0 m A cp full w' g C'∧aE [g] w w'
theorem mg{x:Int}(h : -1≤x∧x≤255) : 0≤Int.tdiv x 2∧Int.tdiv x 2≤127:=by
  by_cases h0:x = -1
  · subst h0;decide
  · rw[Int.tdiv_eq_ediv_of_nonneg (by omega)]
    omega
theorem ia{one:Int→ai→Int × ai × dt}{n:Nat}{s:Int}{C:ai}{L:List dt}{R:ai × List dt}(h3:(C.e=0∧C.l.length≤n∧aU one n s C L=R)∨(C.e≠0∧R.1=C))(hc:0<C.l.length)(he:C.e=0)(hlt:(one s C).2.1.l.length<C.l.length) :
    ((one s C).2.1.e=0∧(one s C).2.1.l.length≤n-1∧aU one (n-1) (one s C).1 (one s C).2.1 (L++[(one s C).2.2])=R)∨((one s C).2.1.e≠0∧R.1=(one s C).2.1):=by
  rcases h3 with⟨_,hn,hR⟩|⟨h,_⟩
  · obtain⟨k,rfl⟩ : ∃ k,n=k+1:=⟨n-1,by omega⟩
    unfold aU at hR
    rw[if_pos (by rw[he];simpa using hc)] at hR
    by_cases hz:(one s C).2.1.e=0
    · rw[if_neg (by rw[hz];decide)] at hR
      exact .inl ⟨hz,by omega,hR⟩
    · rw[if_pos (by simpa using hz)] at hR
      exact .inr ⟨hz,by rw[← hR]⟩
  · exact absurd he h
theorem ft{one:Int→ai→Int × ai × dt}{n:Nat}{s:Int}{C:ai}{L:List dt}{R:ai × List dt}(h3:(C.e=0∧C.l.length≤n∧aU one n s C L=R)∨(C.e≠0∧R.1=C))(hq:(decide (0<((C.l.length:Nat) : Int))&&C.e==0)=false) : R.1.e=C.e∧(C.e=0→R.2=L):=by
  rcases h3 with⟨he,hn,hR⟩|⟨h,h2⟩
  · rw[gD one n s C L hq] at hR
    rw[← hR]
    exact⟨rfl,fun _=>rfl⟩
  · rw[h2]
    exact⟨rfl,fun h3=>absurd h3 h⟩
def fQ (R:ai × List dt)(w:World)(e:Ending)(w':World) : Prop:=∃ A2 n2 c2,e = .returned (.tuple #[.slice A2 n2 c2,.int .i64 (bq R.1.e)])∧(bq R.1.e=0→aV w.heap.size 109 4 (bv true) w' (.slice A2 n2 c2) R.2)∧aE [] w w'
theorem kD{f:FuncId}{args:Array Value}{R:ai × List dt}{w:World}(h:Calls Tryz.prog f args w (fQ R w))(h0:bq R.1.e=0) : Calls Tryz.prog f args w (fun e w'=>∃ v,e = .returned (.tuple #[v,.int .i64 0])∧aV w.heap.size 109 4 (bv true) w' v R.2∧aE [] w w'):=by
  refine h.mono ?_
  rintro e w' ⟨A2,n2,c2,rfl,h1,h2⟩
  exact⟨_,by rw[h0],h1 h0,h2⟩
theorem jl{f:FuncId}{args:Array Value}{R:ai × List dt}{w:World}(h:Calls Tryz.prog f args w (fQ R w)) : Calls Tryz.prog f args w (fun e w'=>∃ A2 n2 c2,e = .returned (.tuple #[.slice A2 n2 c2,.int .i64 (bq R.1.e)])∧aE [] w w'):=by
  refine h.mono ?_
  rintro e w' ⟨A2,n2,c2,rfl,h1,h2⟩
  exact⟨A2,n2,c2,rfl,h2⟩
theorem uH{w0:World}{m:Md}{A:Option Addr}{cp:Nat}{full:List Int}{w:World}{g:Nat}{C:ai}(hC:RC w0 m A cp full w g C) : Calls Tryz.prog 218 #[.pointer (some ⟨g,0,none⟩)] w (uI w0 m A cp full g (dD C) (aT C) w):=by
 have hr:eJ C:=RC.rng hC
 refine en 42 Tryz.func218 rfl<|sg<|L0<|bQ #[.int .u16 0,.int .u16 0,.int .u16 0,.slice none 0 0] fun N O b i a=>ng<|Pl 1<|?_
 refine L0<|Oc<|m3 (eb (RC.upd hC a aA (aE.step (RC.u hC) a))) fun P c j Q=>Pl 1<|ng<|Pl 4<|L0<|eC (p:=⟨g,2,none⟩) (v:=.bool ((C.bytesC 1).sh)) (RC.fld2 c)<|Pl 1<|L0<|Oc<|m2 (b7 ((!((C.bytesC 1).sh))) 5 c) fun R k l=>ng<|?_
 refine Pl 3<|L0<|Oc<|m2 (b7 ((C.byteV==6)) 9 k) fun S n o=>?_
 refine fL n fun x26 q r=>?_
 refine ng<|Pl 1<|L0<|Oc<|m3 (d6 r) fun T s t U=>Pl 1<|ng<|Pl 3<|L0<|Oc<|m2 (b7 ((decide (0<x26.wordV))) 6 s) fun V y z=>nl<|?_
 refine tn<|sg<|Pl 1<|L0<|Oc<|m3 (d6 y) fun W B D X=>Pl 1<|ng<|Pl 3<|L0<|Oc<|m2 (b7 ((decide ((((x26.wordsC 1).need (decide (0<x26.wordV)) 6).wordV)≤9999))) 7 B) fun Y E F=>?_
 refine fL E fun x43 G H=>?_
 refine ng<|Pl 1<|L0<|Oc<|m3 (d6 H) fun Z I J a0=>Pl 1<|ng<|Pl 3<|L0<|Oc<|m2 (b7 ((decide (0<x43.wordV))) 5 I) fun a1 K L=>nl<|?_
 refine tn<|sg<|Pl 4<|?_
 have d:=u1 j (u1 l (u1 o (u1 t (u1 z (u1 D (u1 F (u1 J L im) im) im) im) im) im) im) im
 have e:=nb (RC.lt hC) lr b
 refine L0<|be (aZ d (Ne.symm e) i) #[.int .u16 x26.wordV,.int .u16 (((x26.wordsC 1).need (decide (0<x26.wordV)) 6).wordV),.int .u16 x43.wordV,.slice none 0 0] fun a2 M f=>nt<|rt<|vY M<|?_
 subst G q
 have e1:dD C=(((((((((C.bytesC 1).need (!((C.bytesC 1).sh)) 5).need (C.byteV==6) 9).wordsC 1).need (decide (0<(((C.bytesC 1).need (!((C.bytesC 1).sh)) 5).need (C.byteV==6) 9).wordV)) 6).wordsC 1).need (decide (((((((C.bytesC 1).need (!((C.bytesC 1).sh)) 5).need (C.byteV==6) 9).wordsC 1).need (decide (0<(((C.bytesC 1).need (!((C.bytesC 1).sh)) 5).need (C.byteV==6) 9).wordV)) 6).wordV)≤9999)) 7).wordsC 1).need (decide (0<(((((((C.bytesC 1).need (!((C.bytesC 1).sh)) 5).need (C.byteV==6) 9).wordsC 1).need (decide (0<(((C.bytesC 1).need (!((C.bytesC 1).sh)) 5).need (C.byteV==6) 9).wordV)) 6).wordsC 1).need (decide (((((((C.bytesC 1).need (!((C.bytesC 1).sh)) 5).need (C.byteV==6) 9).wordsC 1).need (decide (0<(((C.bytesC 1).need (!((C.bytesC 1).sh)) 5).need (C.byteV==6) 9).wordV)) 6).wordV)≤9999)) 7).wordV)) 5):=by rw[← qH hr];rfl
 have e2:(aT C).file=(((C.bytesC 1).need (!((C.bytesC 1).sh)) 5).need (C.byteV==6) 9).wordV:=by show(ew C).wordV=_;rw[← si];rfl
 have e3:(aT C).record=(((((C.bytesC 1).need (!((C.bytesC 1).sh)) 5).need (C.byteV==6) 9).wordsC 1).need (decide (0<(((C.bytesC 1).need (!((C.bytesC 1).sh)) 5).need (C.byteV==6) 9).wordV)) 6).wordV:=by show(ij C).wordV=_;rw[← s3 hr];rfl
 have e4:(aT C).count=(((((((C.bytesC 1).need (!((C.bytesC 1).sh)) 5).need (C.byteV==6) 9).wordsC 1).need (decide (0<(((C.bytesC 1).need (!((C.bytesC 1).sh)) 5).need (C.byteV==6) 9).wordV)) 6).wordsC 1).need (decide (((((((C.bytesC 1).need (!((C.bytesC 1).sh)) 5).need (C.byteV==6) 9).wordsC 1).need (decide (0<(((C.bytesC 1).need (!((C.bytesC 1).sh)) 5).need (C.byteV==6) 9).wordV)) 6).wordV)≤9999)) 7).wordV:=by show(l7 C).wordV=_;rw[← rK hr];rfl
 have h:=ue a (us d f) b
 unfold uI
 rw[e1,e2,e3,e4]
 exact⟨rfl,aD (by omega),aD (by omega),aD (by omega),(RC.upd K f (aa e aA) (hC.u.trans' h (fun x hx=>.inr (by simp at hx;subst hx;exact hC.new)))),h⟩
theorem t6{m:Md}{A:Option Addr}{cp:Nat}{b:List Int}{w:World}(hsl:bo m w (.slice A b.length cp) b)(hb:b.length≤1048576) :
    Calls Tryz.prog 163 #[.int .i64 0,.int .u8 20,.slice A b.length cp] w (fQ (aU cU b.length 0 ⟨b,false,0⟩ []) w):=by
 have hln:(b.length:Int)≤1048576:=by omega
 refine en 108 Tryz.func163 rfl<|sg<|Pl 2<|ng<|Pl 2<|L0<|dC #[.slice A b.length cp,.int .i64 0,.bool false,.int .i64 0] fun d U E a8 F=>Pl 1<|nt<|sq<|?_
 refine go<|Pl 1<|ng<|Pl 1<|nt<|sq<|bk<|?_
 have V:RC w _ A cp b U d (ai.mk b false 0):=⟨hsl,F,E,⟨0,a8,Nat.zero_le _,rfl⟩,by omega⟩
 refine jf (fun x=>[(0,.int .i64 0),(1,.int .u8 20),(6,.slice none 0 0),(7,.int .i64 0),(8,.pointer (some ⟨d,0,none⟩)),(9,.slice x.2.2.2.1 x.2.2.1.length x.2.2.2.2.1),(10,.int .i64 x.2.2.2.2.2)]) (fun(x:Nat × ai × List dt × Option Addr × Nat × Int) w'=>aE [] w w'∧U.heap.size≤w'.heap.size∧RC w m A cp b w' d x.2.1∧aV w.heap.size 109 4 (bv true) w' (.slice x.2.2.2.1 x.2.2.1.length x.2.2.2.2.1) x.2.2.1∧(0≤x.2.2.2.2.2)∧(x.2.1.e=0→x.2.2.2.2.2≤245)∧(x.2.2.1.length+x.2.1.l.length≤b.length)∧((x.2.1.e=0∧x.2.1.l.length≤x.1∧aU cU x.1 x.2.2.2.2.2 x.2.1 x.2.2.1=aU cU b.length 0 ⟨b,false,0⟩ [])∨(x.2.1.e≠0∧(aU cU b.length 0 ⟨b,false,0⟩ []).1=x.2.1))) (fun x=>x.2.1.l.length) (b.length,(ai.mk b false 0),[],none,0,0) ⟨F,lr,V,(aV.nil w.heap.size _ _ (bv true) _),(by(try dsimp only);omega),(fun _=>(show(0:Int)≤245 from by decide)),(by(try dsimp only);simp),.inl ⟨rfl,Nat.le_refl _,rfl⟩⟩ ?_
 rintro⟨n,C,L,B,cq,s⟩ W ⟨a9,G,ab,ad,af,ag,ah,aj⟩
 refine jj [(0,.int .i64 0),(1,.int .u8 20),(6,.slice none 0 0),(7,.int .i64 0),(8,.pointer (some ⟨d,0,none⟩)),(9,.slice B L.length cq),(10,.int .i64 s)] ?_
 have a:RC w m A cp b W d C:=ab
 have hlC:=RC.clen a
 have hrC:eJ C:=RC.rng a
 have i:aV w.heap.size 109 4 (bv true) W (.slice B L.length cq) L:=ad
 have aN:0≤s:=af
 have aO:C.e=0→s≤245:=ag
 have aQ:L.length+C.l.length≤b.length:=ah
 have H:(C.e=0∧C.l.length≤n∧aU cU n s C L=aU cU b.length 0 ⟨b,false,0⟩ [])∨(C.e≠0∧(aU cU b.length 0 ⟨b,false,0⟩ []).1=C):=aj
 refine sq<|sg<|Pl 1<|L0<|Oc<|m1 (io a) fun aR c=>?_
 have aW:=RC.clen a
 refine Pl 2<|cu 6 [20] 26 (((decide (0<((C.l.length:Nat) : Int)))&&(C.e==0))) (fun K X=>?_) ?_
 refine bl 20 ((decide (0<((C.l.length:Nat) : Int)))) (fun j=>?_) (fun j=>?_)
 have al:=of_decide_eq_true j
 refine Pl 3<|?_
 exact L1<|eC (p:=⟨d,3,none⟩) (v:=.int .i64 C.e) (RC.fld (RC.upd a c aA (aE.step (RC.u a) c)))<|Pl 2<|ce X (C.e==0) (by rw[j];rfl)
 have al:=of_decide_eq_false j
 exact Pl 6<|ce X false (by rw[j];rfl)
 refine nt<|?_
 have I:=aG a9 c
 refine cb (((decide (0<((C.l.length:Nat) : Int)))&&(C.e==0))) (fun f=>?_) (fun f=>?_)
 have J:=(b6 f).1
 have M:=(b6 f).2
 have aX:=of_decide_eq_true J
 have aY:=ae M
 refine bp<|bk<|sg<|Pl 1<|L0<|bQ #[.int .u16 0,.int .u16 0,.int .u16 0,.slice none 0 0] fun b0 b1 k an N=>L0<|be an #[.int .u16 0,.int .u16 0,.int .u16 0,.slice none 0 0] fun b2 ao O=>nt<|sq<|sg<|Pl 6<|nl<|?_
 refine tn<|c0<|sg<|Pl 1<|?_
 have Y:=ud N O k
 have r:=aG c Y
 refine L0<|Oc<|m5 (uH (RC.upd a r aA (aE.step (RC.u a) r))) fun b3 ap ar au aw t=>?_
 obtain⟨b4,b5⟩:=ap
 obtain⟨b8,b9⟩:=ar
 obtain⟨ba,bb⟩:=au
 have P:=nb (RC.lt V) (le G c.size) k
 refine L0<|be (aZ t (Ne.symm P) ao) #[.int .u16 ((aT C).file),.int .u16 ((aT C).record),.int .u16 ((aT C).count),.slice none 0 0] fun bc Z y=>ng<|Pl 2<|nt<|c0<|sg<|Pl 1<|L0<|Oi (s+2)<|Pl 1<|L0<|aP Z 2<|?_
 refine L0<|Oi ((aT C).count)<|L0<|Oi (2*((aT C).count))<|L0<|Oi ((s+2)+(2*((aT C).count)))<|Pl 1<|nt<|go<|Pl 3<|?_
 have Q:=us t y
 have a0:=ud I (ue Y Q k) E
 refine L0<|Oc<|m2 (b7 ((decide (((s+2)+(2*((aT C).count)))≤245))) 5 (RC.upd aw y (aa P aA) a0)) fun bd az o=>?_
 refine fL az fun x68 aB a1=>?_
 refine nt<|go<|Pl 1<|?_
 refine L0<|bP (aZ o (Ne.symm P) Z)<|L0<|cO (m:=1) (e:=109) #[.int .u16 ((aT C).file),.int .u16 ((aT C).record),.int .u16 ((aT C).count),.slice none 0 0] fun bg bh bj aC z=>?_
 have aF:=jO (R:=bv true) (x:=(dt.mk ((aT C).file) ((aT C).record) ((aT C).count) ([]))) aC rfl ⟨_,rfl,(aS.nil true _ _ _ _),aD (x:=(aT C).file) (by omega),aD (x:=(aT C).record) (by omega),aD (x:=(aT C).count) (by omega)⟩
 have a2:=aG o z
 have a3:=ue r (u1 Q a2 im) (le c.size k)
 have a4:=aq i a3 (fun x hx=>(aa (fun e=>(RC.nrow a i (by decide)) (e▸hx)) aA)) (bv.upd16 a3 (ax (RC.safe a _ (by decide)) aK))
 refine L0<|gO (xs:=L) (ys:=([(dt.mk ((aT C).file) ((aT C).record) ((aT C).count) ([]))])) (.agg #[.int .u16 0,.int .u16 0,.int .u16 0,.slice none 0 0]) 4 32 a4 aF (by simp) bv.ones (fun w' hv=>bv.upd16 hv (d7 (dB _ a4 (by decide)) aK)) (by(try simp only[List.length_append,List.length_cons,List.length_nil,ay]);omega) (le (le (le (le (le (le (le (le F.size G) c.size) N.size) O.size) t.size) y.size) o.size) z.size) fun aH aI bm aJ S=>Pl 1<|nl<|bn<|?_
 subst aB
 have hC2:(cU s C).2.1=((dD C).need (decide (((s+2)+(2*((aT C).count)))≤245)) 5):=by show eA s C=_;(try simp only[eA,eE,← Int.add_assoc,f,J,M,bs,if_true,if_false,decide_true,decide_false]);all_goals rfl
 have hM2:[(cU s C).2.2]=[(dt.mk ((aT C).file) ((aT C).record) ((aT C).count) ([]))]:=by show[aT C]=_;(try simp only[eA,eE,← Int.add_assoc,f,J,M,bs,if_true,if_false,decide_true,decide_false]);all_goals rfl
 have hS2:(cU s C).1=((s+2)+(2*((aT C).count))):=by(try (show eE s C=_));(try simp only[eE,← Int.add_assoc]);all_goals rfl
 have hlt:=mw s C (by omega)
 have h9:=ia (one:=cU) H (by omega) (by omega) hlt
 rw[hC2,hM2,hS2] at h9
 rw[hC2] at hlt
 have a5:=ut a0 (ut (aE.mono (S':=(d :: (ob B++[]))) a2 (ac im av)) S (am il av)) (ac (nr E) (am (aM i lr) av))
 have a6:=ue r (u1 Q o im) (le c.size k)
 exact gM ((n-1),((dD C).need (decide (((s+2)+(2*((aT C).count)))≤245)) 5),(L++[(dt.mk ((aT C).file) ((aT C).record) ((aT C).count) ([]))]),aH,aI,((s+2)+(2*((aT C).count)))) ⟨a5,(le (le (le (le (le (le (le (le G c.size) N.size) O.size) t.size) y.size) o.size) z.size) S.size),(RC.upd a1 (ut (aE.mono (S':=(ob B++[])) z av) S (am il av)) (bf (RC.nrow a1 (aq i a6 (fun x hx=>(aa (fun e=>(RC.nrow a i (by decide)) (e▸hx)) aA)) (bv.upd16 a6 (ax (RC.safe a _ (by decide)) aK))) (by decide)) aA) a5),aJ,(by(try dsimp only);omega),(by(try dsimp only);intro he;have hk:=(fN (by decide) he).2;simp only[decide_eq_true_eq] at hk;omega),(by(try dsimp only);simp only[List.length_append,List.length_cons,List.length_nil];omega),h9⟩ (by omega)
 refine xt<|tx<|tx<|bx<|tn<|sq<|sg<|Pl 3<|?_
 have T:=RC.upd a c aA (aE.step (RC.u a) c)
 refine L0<|eC (p:=⟨d,3,none⟩) (v:=.int .i64 C.e) (RC.fld T)<|Pl 1<|nt<|cb ((C.e==2)) (fun q=>?_) (fun q=>?_)
 have aL:=ae q
 refine sg<|Pl 2<|nt<|rt<|tr<|rr (.tuple #[.slice none 0 0,.int .i64 5])<|?_
 obtain⟨ew,ij⟩:=ft H f
 have hw:bq (aU cU b.length 0 ⟨b,false,0⟩ []).1.e=5:=by unfold bq;rw[ew,if_pos q]
 refine⟨none,0,0,by rw[hw],fun h=>absurd (hw.symm.trans h) (by decide),I⟩
 have aL:=ak q
 refine bp<|sq<|Rg 7 (fun w'=>w'.cell? ⟨d,3,none⟩=some (.int .i64 C.e)) fun br D=>?_
 refine bi (RC.fld (RC.upd T D aA (aE.step (RC.u T) D))) fun g=>Rt 0 g<|Rt 1 g<|Rt 2 g<|Rt 3 g<|Rl 4 g (fun _ hs=>hs)<|Rt 5 g<|Rt 6 g<|re<|tn<|rt<|rr (.tuple #[.slice B L.length cq,.int .i64 C.e])<|?_
 obtain⟨ew,ij⟩:=ft H f
 have hw:bq (aU cU b.length 0 ⟨b,false,0⟩ []).1.e=C.e:=by unfold bq;rw[ew,if_neg (by rw[q];decide)]
 have a7:=aG c D
 refine⟨_,_,_,by rw[hw],fun h=>by rw[ij (hw.symm.trans h)];exact(aq i a7 (fun x hx=>aA) (bv.upd16 a7 aK)),(aG I D)⟩
theorem rU{m:Md}{A:Option Addr}{cp:Nat}{b:List Int}{w:World}(hsl:bo m w (.slice A b.length cp) b)(hb:b.length≤1048576) :
    Calls Tryz.prog 163 #[.int .i64 1,.int .u8 20,.slice A b.length cp] w (fQ (aU bH b.length 0 ⟨b,false,0⟩ []) w):=by
 have hln:(b.length:Int)≤1048576:=by omega
 refine en 108 Tryz.func163 rfl<|sg<|Pl 2<|ng<|Pl 2<|L0<|dC #[.slice A b.length cp,.int .i64 0,.bool false,.int .i64 0] fun f ah M b9 N=>Pl 1<|nt<|sq<|?_
 refine go<|Pl 1<|ng<|Pl 1<|nt<|sq<|bk<|?_
 have Z:RC w _ A cp b ah f (ai.mk b false 0):=⟨hsl,N,M,⟨0,b9,Nat.zero_le _,rfl⟩,by omega⟩
 refine jf (fun x=>[(0,.int .i64 1),(1,.int .u8 20),(6,.slice none 0 0),(7,.int .i64 0),(8,.pointer (some ⟨f,0,none⟩)),(9,.slice x.2.2.2.1 x.2.2.1.length x.2.2.2.2.1),(10,.int .i64 x.2.2.2.2.2)]) (fun(x:Nat × ai × List dt × Option Addr × Nat × Int) w'=>aE [] w w'∧ah.heap.size≤w'.heap.size∧RC w m A cp b w' f x.2.1∧aV w.heap.size 109 4 (bv true) w' (.slice x.2.2.2.1 x.2.2.1.length x.2.2.2.2.1) x.2.2.1∧(0≤x.2.2.2.2.2)∧(x.2.1.e=0→x.2.2.2.2.2≤245)∧(x.2.2.1.length+x.2.1.l.length≤b.length)∧((x.2.1.e=0∧x.2.1.l.length≤x.1∧aU bH x.1 x.2.2.2.2.2 x.2.1 x.2.2.1=aU bH b.length 0 ⟨b,false,0⟩ [])∨(x.2.1.e≠0∧(aU bH b.length 0 ⟨b,false,0⟩ []).1=x.2.1))) (fun x=>x.2.1.l.length) (b.length,(ai.mk b false 0),[],none,0,0) ⟨N,lr,Z,(aV.nil w.heap.size _ _ (bv true) _),(by(try dsimp only);omega),(fun _=>(show(0:Int)≤245 from by decide)),(by(try dsimp only);simp),.inl ⟨rfl,Nat.le_refl _,rfl⟩⟩ ?_
 rintro⟨n,C,L,B,cq,s⟩ aj ⟨ba,r,bb,bc,bd,bg,bh,bj⟩
 refine jj [(0,.int .i64 1),(1,.int .u8 20),(6,.slice none 0 0),(7,.int .i64 0),(8,.pointer (some ⟨f,0,none⟩)),(9,.slice B L.length cq),(10,.int .i64 s)] ?_
 have a:RC w m A cp b aj f C:=bb
 have hlC:=RC.clen a
 have hrC:eJ C:=RC.rng a
 have d:aV w.heap.size 109 4 (bv true) aj (.slice B L.length cq) L:=bc
 have bY:0≤s:=bd
 have bZ:C.e=0→s≤245:=bg
 have c0:L.length+C.l.length≤b.length:=bh
 have O:(C.e=0∧C.l.length≤n∧aU bH n s C L=aU bH b.length 0 ⟨b,false,0⟩ [])∨(C.e≠0∧(aU bH b.length 0 ⟨b,false,0⟩ []).1=C):=bj
 refine sq<|sg<|Pl 1<|L0<|Oc<|m1 (io a) fun c2 c=>?_
 have c3:=RC.clen a
 refine Pl 2<|cu 6 [20] 26 (((decide (0<((C.l.length:Nat) : Int)))&&(C.e==0))) (fun K al=>?_) ?_
 refine bl 20 ((decide (0<((C.l.length:Nat) : Int)))) (fun z=>?_) (fun z=>?_)
 have bm:=of_decide_eq_true z
 refine Pl 3<|?_
 exact L1<|eC (p:=⟨f,3,none⟩) (v:=.int .i64 C.e) (RC.fld (RC.upd a c aA (aE.step (RC.u a) c)))<|Pl 2<|ce al (C.e==0) (by rw[z];rfl)
 have bm:=of_decide_eq_false z
 exact Pl 6<|ce al false (by rw[z];rfl)
 refine nt<|?_
 have D:=aG ba c
 refine cb (((decide (0<((C.l.length:Nat) : Int)))&&(C.e==0))) (fun g=>?_) (fun g=>?_)
 have E:=(b6 g).1
 have F:=(b6 g).2
 have c4:=of_decide_eq_true E
 have c5:=ae F
 refine bp<|bk<|sg<|Pl 1<|L0<|bQ #[.int .u16 0,.int .u16 0,.int .u16 0,.slice none 0 0] fun P c6 j a0 G=>L0<|be a0 #[.int .u16 0,.int .u16 0,.int .u16 0,.slice none 0 0] fun c7 an k=>nt<|sq<|sg<|Pl 6<|nl<|?_
 refine tn<|c1<|sg<|Pl 1<|?_
 have ao:=ud G k j
 have t:=aG c ao
 refine L0<|Oc<|m3 (eb (RC.upd a t aA (aE.step (RC.u a) t))) fun c8 H i c9=>L0<|Oi C.byteV<|Pl 1<|ng<|Pl 2<|L0<|Oe (.int .i64 (Int.tmod C.byteV 2)) (.int .i64 (C.byteV%2)) (congrArg (Value.int .i64) (Int.tmod_eq_emod_of_nonneg (by omega)))<|Pl 2<|cu 3 [41] 44 ((((C.byteV%2)==1)&&(decide (3≤C.byteV)))) (fun K ap=>?_) ?_
 refine bl 41 (((C.byteV%2)==1)) (fun I=>?_) (fun I=>?_)
 have br:=ae I
 exact Pl 3<|ce ap (decide (3≤C.byteV)) (by rw[I];rfl)
 have br:=ak I
 exact Pl 3<|ce ap false (by rw[I];rfl)
 refine Pl 1<|?_
 have ar:=ud D (uz ao i) M
 refine bl 45 ((((C.byteV%2)==1)&&(decide (3≤C.byteV)))) (fun o=>?_) (fun o=>?_)
 have a1:=(b6 o).1
 have a2:=(b6 o).2
 have ca:=ae a1
 have cc:=of_decide_eq_true a2
 refine Pl 2<|L1<|Oc<|m1 (io H) fun cd y=>?_
 have cf:=RC.clen H
 refine Pl 2<|?_
 refine L0<|Oc<|m2 (b7 ((decide (C.byteV≤(((C.bytesC 1).l.length:Nat) : Int)))) 5 (RC.upd H y aA (aE.step (RC.u H) y))) fun ch bt Q=>?_
 refine fL bt fun x66 bu bw=>?_
 refine ng<|Pl 1<|L0<|Oc<|m3 (eb bw) fun ci bz S cj=>Pl 1<|ng<|Pl 3<|L0<|Oc<|m2 (b7 ((x66.byteV==6)) 9 bz) fun ck bA T=>nl<|?_
 refine tn<|go<|Pl 2<|L0<|Oi (C.byteV-1)<|?_
 have cl:=mg (x:=(C.byteV-1)) (by omega)
 refine L0<|Oe (.int .i64 (IntKind.i64.wrap (Int.tdiv (C.byteV-1) 2))) (.int .i64 (Int.tdiv (C.byteV-1) 2)) (congrArg (Value.int .i64) (kj (by omega) (by omega)))<|L0<|Oc<|my (fV (n:=(Int.tdiv (C.byteV-1) 2)) (by omega) bA) fun aw az cm aC cn co bB a3=>?_
 refine fL bB fun x82 bC aF=>?_
 refine Pl 1<|?_
 have aH:=uz y (u1 Q (u1 S (u1 T a3 im) im) im)
 have a4:=u1 i aH im
 have aI:=nb (RC.lt Z) (le r c.size) j
 refine L0<|cg (aZ a4 (Ne.symm aI) an) 3 #[.int .u16 0,.int .u16 0,.int .u16 0,.slice aw ((((x66.bytesC 1).need (x66.byteV==6) 9).wordsR (Int.tdiv (C.byteV-1) 2)).length) az] fun cr bD a5=>nt<|go<|Pl 1<|L0<|bP bD<|L0<|cO (m:=1) (e:=109) #[.int .u16 0,.int .u16 0,.int .u16 0,.slice aw ((((x66.bytesC 1).need (x66.byteV==6) 9).wordsR (Int.tdiv (C.byteV-1) 2)).length) az] fun cs ct cv bE a6=>?_
 have a7:=aG a5 a6
 have bF:=jO (R:=bv true) (x:=(dt.mk 0 0 0 (((x66.bytesC 1).need (x66.byteV==6) 9).wordsR (Int.tdiv (C.byteV-1) 2)))) bE rfl ⟨_,rfl,((aq aC a7 (fun x hx=>(aa (fun e=>(aB (au a0) (le (le (le (le (le k.size i.size) y.size) Q.size) S.size) T.size) aC) (e▸hx)) aA)) (fun _ _ h=>h))).rd,aD (x:=0) (by omega),aD (x:=0) (by omega),aD (x:=0) (by omega)⟩
 have aJ:=ue t (us a4 a7) (le c.size j)
 have aL:=aq d aJ (fun x hx=>(aa (fun e=>(RC.nrow a d (by decide)) (e▸hx)) aA)) (bv.upd16 aJ (ax (RC.safe a _ (by decide)) aK))
 refine L0<|gO (xs:=L) (ys:=([(dt.mk 0 0 0 (((x66.bytesC 1).need (x66.byteV==6) 9).wordsR (Int.tdiv (C.byteV-1) 2)))])) (.agg #[.int .u16 0,.int .u16 0,.int .u16 0,.slice none 0 0]) 4 32 aL bF (by simp) bv.ones (fun w' hv=>bv.upd16 hv (d7 (dB _ aL (by decide)) aK)) (by(try simp only[List.length_append,List.length_cons,List.length_nil,ay]);omega) (le (le (le (le (le (le (le (le (le (le (le (le N.size r) c.size) G.size) k.size) i.size) y.size) Q.size) S.size) T.size) a3.size) a5.size) a6.size) fun bG bI cw bJ aN=>Pl 1<|nl<|bn<|?_
 subst bC bu
 have hC2:(bH s C).2.1=(((((C.bytesC 1).need (decide (C.byteV≤(((C.bytesC 1).l.length:Nat) : Int))) 5).bytesC 1).need (((C.bytesC 1).need (decide (C.byteV≤(((C.bytesC 1).l.length:Nat) : Int))) 5).byteV==6) 9).wordsC (Int.tdiv (C.byteV-1) 2)):=by show eL C=_;(try simp only[eL,eM,fE,gP,g,E,F,o,a1,a2,bs,if_true,if_false,decide_true,decide_false]);all_goals rfl
 have hM2:[(bH s C).2.2]=[(dt.mk 0 0 0 (((((C.bytesC 1).need (decide (C.byteV≤(((C.bytesC 1).l.length:Nat) : Int))) 5).bytesC 1).need (((C.bytesC 1).need (decide (C.byteV≤(((C.bytesC 1).l.length:Nat) : Int))) 5).byteV==6) 9).wordsR (Int.tdiv (C.byteV-1) 2)))]:=by show[eM C]=_;(try simp only[eL,eM,fE,gP,g,E,F,o,a1,a2,bs,if_true,if_false,decide_true,decide_false]);all_goals rfl
 have hS2:(bH s C).1=s:=by(try (show s=_));(try simp only[eE,← Int.add_assoc]);all_goals rfl
 have hlt:=iO s C (by omega)
 have h9:=ia (one:=bH) O (by omega) (by omega) hlt
 rw[hC2,hM2,hS2] at h9
 rw[hC2] at hlt
 have aO:=ut (aE.mono (S':=(P :: (ob B++[]))) a7 (ac im av)) aN (am il av)
 have aP:=ut ar (ut (aE.mono (S':=(f :: (P :: (ob B++[])))) aH (ac im av)) aO (ac im (am il av))) (ac (nr M) (ac (ni D.size j) (am (aM d lr) av)))
 have aQ:=uz t a4
 exact gM ((n-1),(((((C.bytesC 1).need (decide (C.byteV≤(((C.bytesC 1).l.length:Nat) : Int))) 5).bytesC 1).need (((C.bytesC 1).need (decide (C.byteV≤(((C.bytesC 1).l.length:Nat) : Int))) 5).byteV==6) 9).wordsC (Int.tdiv (C.byteV-1) 2)),(L++[(dt.mk 0 0 0 (((((C.bytesC 1).need (decide (C.byteV≤(((C.bytesC 1).l.length:Nat) : Int))) 5).bytesC 1).need (((C.bytesC 1).need (decide (C.byteV≤(((C.bytesC 1).l.length:Nat) : Int))) 5).byteV==6) 9).wordsR (Int.tdiv (C.byteV-1) 2)))]),bG,bI,s) ⟨aP,(le (le (le (le (le (le (le (le (le (le (le (le r c.size) G.size) k.size) i.size) y.size) Q.size) S.size) T.size) a3.size) a5.size) a6.size) aN.size),(RC.upd aF aO (aa aI (bf (RC.nrow aF (aq d aQ (fun x hx=>(aa (fun e=>(RC.nrow a d (by decide)) (e▸hx)) aA)) (bv.upd16 aQ (ax (RC.safe a _ (by decide)) aK))) (by decide)) aA)) aP),bJ,(by(try dsimp only);omega),(by(try dsimp only);intro he;omega),(by(try dsimp only);simp only[List.length_append,List.length_cons,List.length_nil];omega),h9⟩ (by omega)
 refine Pl 5<|L0<|Oc<|m2 (b7 (false) 5 H) fun cx bK U=>ng<|Pl 1<|L0<|Oc<|m3 (eb bK) fun cy bL V cz=>Pl 1<|ng<|Pl 3<|L0<|Oc<|m2 (b7 (((((C.bytesC 1).need false 5).byteV)==6)) 9 bL) fun cA bM W=>?_
 refine fL bM fun X bN bO=>?_
 refine nt<|go<|Pl 2<|L0<|Oi (C.byteV-1)<|?_
 have cB:=mg (x:=(C.byteV-1)) (by omega)
 refine L0<|Oe (.int .i64 (IntKind.i64.wrap (Int.tdiv (C.byteV-1) 2))) (.int .i64 (Int.tdiv (C.byteV-1) 2)) (congrArg (Value.int .i64) (kj (by omega) (by omega)))<|L0<|Oc<|my (fV (n:=(Int.tdiv (C.byteV-1) 2)) (by omega) bO) fun aR aS cC aT cD cE aW a8=>Pl 1<|?_
 have aX:=u1 U (u1 V (u1 W a8 im) im) im
 have a9:=u1 i aX im
 have aY:=nb (RC.lt Z) (le r c.size) j
 refine L0<|cg (aZ a9 (Ne.symm aY) an) 3 #[.int .u16 0,.int .u16 0,.int .u16 0,.slice aR ((X.wordsR (Int.tdiv (C.byteV-1) 2)).length) aS] fun cF bR ab=>nt<|go<|Pl 1<|L0<|bP bR<|L0<|cO (m:=1) (e:=109) #[.int .u16 0,.int .u16 0,.int .u16 0,.slice aR ((X.wordsR (Int.tdiv (C.byteV-1) 2)).length) aS] fun cG cH cI bS ad=>?_
 have af:=aG ab ad
 have bT:=jO (R:=bv true) (x:=(dt.mk 0 0 0 (X.wordsR (Int.tdiv (C.byteV-1) 2)))) bS rfl ⟨_,rfl,((aq aT af (fun x hx=>(aa (fun e=>(aB (au a0) (le (le (le (le k.size i.size) U.size) V.size) W.size) aT) (e▸hx)) aA)) (fun _ _ h=>h))).rd,aD (x:=0) (by omega),aD (x:=0) (by omega),aD (x:=0) (by omega)⟩
 have b0:=ue t (us a9 af) (le c.size j)
 have b1:=aq d b0 (fun x hx=>(aa (fun e=>(RC.nrow a d (by decide)) (e▸hx)) aA)) (bv.upd16 b0 (ax (RC.safe a _ (by decide)) aK))
 refine L0<|gO (xs:=L) (ys:=([(dt.mk 0 0 0 (X.wordsR (Int.tdiv (C.byteV-1) 2)))])) (.agg #[.int .u16 0,.int .u16 0,.int .u16 0,.slice none 0 0]) 4 32 b1 bT (by simp) bv.ones (fun w' hv=>bv.upd16 hv (d7 (dB _ b1 (by decide)) aK)) (by(try simp only[List.length_append,List.length_cons,List.length_nil,ay]);omega) (le (le (le (le (le (le (le (le (le (le (le N.size r) c.size) G.size) k.size) i.size) U.size) V.size) W.size) a8.size) ab.size) ad.size) fun bU bV cJ bW b2=>Pl 1<|nl<|bn<|?_
 subst bN
 have hC2:(bH s C).2.1=(((((C.bytesC 1).need false 5).bytesC 1).need ((((C.bytesC 1).need false 5).byteV)==6) 9).wordsC (Int.tdiv (C.byteV-1) 2)):=by show eL C=_;(try simp only[eL,eM,fE,gP,g,E,F,o,bs,if_true,if_false,decide_true,decide_false]);all_goals rfl
 have hM2:[(bH s C).2.2]=[(dt.mk 0 0 0 (((((C.bytesC 1).need false 5).bytesC 1).need ((((C.bytesC 1).need false 5).byteV)==6) 9).wordsR (Int.tdiv (C.byteV-1) 2)))]:=by show[eM C]=_;(try simp only[eL,eM,fE,gP,g,E,F,o,bs,if_true,if_false,decide_true,decide_false]);all_goals rfl
 have hS2:(bH s C).1=s:=by(try (show s=_));(try simp only[eE,← Int.add_assoc]);all_goals rfl
 have hlt:=iO s C (by omega)
 have h9:=ia (one:=bH) O (by omega) (by omega) hlt
 rw[hC2,hM2,hS2] at h9
 rw[hC2] at hlt
 have b3:=ut (aE.mono (S':=(P :: (ob B++[]))) af (ac im av)) b2 (am il av)
 have b4:=ut ar (ut (aE.mono (S':=(f :: (P :: (ob B++[])))) aX (ac im av)) b3 (ac im (am il av))) (ac (nr M) (ac (ni D.size j) (am (aM d lr) av)))
 have b5:=uz t a9
 exact gM ((n-1),(((((C.bytesC 1).need false 5).bytesC 1).need ((((C.bytesC 1).need false 5).byteV)==6) 9).wordsC (Int.tdiv (C.byteV-1) 2)),(L++[(dt.mk 0 0 0 (((((C.bytesC 1).need false 5).bytesC 1).need ((((C.bytesC 1).need false 5).byteV)==6) 9).wordsR (Int.tdiv (C.byteV-1) 2)))]),bU,bV,s) ⟨b4,(le (le (le (le (le (le (le (le (le (le (le r c.size) G.size) k.size) i.size) U.size) V.size) W.size) a8.size) ab.size) ad.size) b2.size),(RC.upd aW b3 (aa aY (bf (RC.nrow aW (aq d b5 (fun x hx=>(aa (fun e=>(RC.nrow a d (by decide)) (e▸hx)) aA)) (bv.upd16 b5 (ax (RC.safe a _ (by decide)) aK))) (by decide)) aA)) b4),bW,(by(try dsimp only);omega),(by(try dsimp only);intro he;omega),(by(try dsimp only);simp only[List.length_append,List.length_cons,List.length_nil];omega),h9⟩ (by omega)
 refine xt<|tx<|tx<|bx<|tn<|sq<|sg<|Pl 3<|?_
 have ag:=RC.upd a c aA (aE.step (RC.u a) c)
 refine L0<|eC (p:=⟨f,3,none⟩) (v:=.int .i64 C.e) (RC.fld ag)<|Pl 1<|nt<|cb ((C.e==2)) (fun J=>?_) (fun J=>?_)
 have bX:=ae J
 refine sg<|Pl 2<|nt<|rt<|tr<|rr (.tuple #[.slice none 0 0,.int .i64 5])<|?_
 obtain⟨ew,ij⟩:=ft O g
 have hw:bq (aU bH b.length 0 ⟨b,false,0⟩ []).1.e=5:=by unfold bq;rw[ew,if_pos J]
 refine⟨none,0,0,by rw[hw],fun h=>absurd (hw.symm.trans h) (by decide),D⟩
 have bX:=ak J
 refine bp<|sq<|Rg 7 (fun w'=>w'.cell? ⟨f,3,none⟩=some (.int .i64 C.e)) fun cK Y=>?_
 refine bi (RC.fld (RC.upd ag Y aA (aE.step (RC.u ag) Y))) fun q=>Rt 0 q<|Rt 1 q<|Rt 2 q<|Rt 3 q<|Rl 4 q (fun _ hs=>hs)<|Rt 5 q<|Rt 6 q<|re<|tn<|rt<|rr (.tuple #[.slice B L.length cq,.int .i64 C.e])<|?_
 obtain⟨ew,ij⟩:=ft O g
 have hw:bq (aU bH b.length 0 ⟨b,false,0⟩ []).1.e=C.e:=by unfold bq;rw[ew,if_neg (by rw[J];decide)]
 have b8:=aG c Y
 refine⟨_,_,_,by rw[hw],fun h=>by rw[ij (hw.symm.trans h)];exact(aq d b8 (fun x hx=>aA) (bv.upd16 b8 aK)),(aG D Y)⟩
theorem s6{m:Md}{A:Option Addr}{cp:Nat}{b:List Int}{w:World}{dir:Int}(hsl:bo m w (.slice A b.length cp) b)(hb:b.length≤1048576) :
    Calls Tryz.prog 163 #[.int .i64 dir,.int .u8 21,.slice A b.length cp] w (fQ (aU cV b.length 0 ⟨b,false,0⟩ []) w):=by
 have hln:(b.length:Int)≤1048576:=by omega
 refine en 108 Tryz.func163 rfl<|sg<|Pl 2<|ng<|Pl 2<|L0<|dC #[.slice A b.length cp,.int .i64 0,.bool false,.int .i64 0] fun d a3 N aF O=>Pl 1<|nt<|sq<|?_
 refine go<|Pl 1<|ng<|Pl 1<|nt<|sq<|bk<|?_
 have a4:RC w _ A cp b a3 d (ai.mk b false 0):=⟨hsl,O,N,⟨0,aF,Nat.zero_le _,rfl⟩,by omega⟩
 refine jf (fun x=>[(0,.int .i64 dir),(1,.int .u8 21),(6,.slice none 0 0),(7,.int .i64 0),(8,.pointer (some ⟨d,0,none⟩)),(9,.slice x.2.2.2.1 x.2.2.1.length x.2.2.2.2.1),(10,.int .i64 x.2.2.2.2.2)]) (fun(x:Nat × ai × List dt × Option Addr × Nat × Int) w'=>aE [] w w'∧a3.heap.size≤w'.heap.size∧RC w m A cp b w' d x.2.1∧aV w.heap.size 109 4 (bv true) w' (.slice x.2.2.2.1 x.2.2.1.length x.2.2.2.2.1) x.2.2.1∧(0≤x.2.2.2.2.2)∧(x.2.1.e=0→x.2.2.2.2.2≤245)∧(x.2.2.1.length+x.2.1.l.length≤b.length)∧((x.2.1.e=0∧x.2.1.l.length≤x.1∧aU cV x.1 x.2.2.2.2.2 x.2.1 x.2.2.1=aU cV b.length 0 ⟨b,false,0⟩ [])∨(x.2.1.e≠0∧(aU cV b.length 0 ⟨b,false,0⟩ []).1=x.2.1))) (fun x=>x.2.1.l.length) (b.length,(ai.mk b false 0),[],none,0,0) ⟨O,lr,a4,(aV.nil w.heap.size _ _ (bv true) _),(by(try dsimp only);omega),(fun _=>(show(0:Int)≤245 from by decide)),(by(try dsimp only);simp),.inl ⟨rfl,Nat.le_refl _,rfl⟩⟩ ?_
 rintro⟨n,C,L,B,cq,s⟩ a5 ⟨aH,P,aI,aJ,aL,aN,aO,aQ⟩
 refine jj [(0,.int .i64 dir),(1,.int .u8 21),(6,.slice none 0 0),(7,.int .i64 0),(8,.pointer (some ⟨d,0,none⟩)),(9,.slice B L.length cq),(10,.int .i64 s)] ?_
 have a:RC w m A cp b a5 d C:=aI
 have hlC:=RC.clen a
 have hrC:eJ C:=RC.rng a
 have j:aV w.heap.size 109 4 (bv true) a5 (.slice B L.length cq) L:=aJ
 have bh:0≤s:=aL
 have bj:C.e=0→s≤245:=aN
 have bm:L.length+C.l.length≤b.length:=aO
 have Q:(C.e=0∧C.l.length≤n∧aU cV n s C L=aU cV b.length 0 ⟨b,false,0⟩ [])∨(C.e≠0∧(aU cV b.length 0 ⟨b,false,0⟩ []).1=C):=aQ
 refine sq<|sg<|Pl 1<|L0<|Oc<|m1 (io a) fun br c=>?_
 have bt:=RC.clen a
 refine Pl 2<|cu 6 [20] 26 (((decide (0<((C.l.length:Nat) : Int)))&&(C.e==0))) (fun K a6=>?_) ?_
 refine bl 20 ((decide (0<((C.l.length:Nat) : Int)))) (fun r=>?_) (fun r=>?_)
 have aR:=of_decide_eq_true r
 refine Pl 3<|?_
 exact L1<|eC (p:=⟨d,3,none⟩) (v:=.int .i64 C.e) (RC.fld (RC.upd a c aA (aE.step (RC.u a) c)))<|Pl 2<|ce a6 (C.e==0) (by rw[r];rfl)
 have aR:=of_decide_eq_false r
 exact Pl 6<|ce a6 false (by rw[r];rfl)
 refine nt<|?_
 have F:=aG aH c
 refine cb (((decide (0<((C.l.length:Nat) : Int)))&&(C.e==0))) (fun g=>?_) (fun g=>?_)
 have S:=(b6 g).1
 have T:=(b6 g).2
 have bu:=of_decide_eq_true S
 have bw:=ae T
 refine bp<|bk<|sg<|Pl 1<|L0<|bQ #[.int .u16 0,.int .u16 0,.int .u16 0,.slice none 0 0] fun U bz k a7 V=>L0<|be a7 #[.int .u16 0,.int .u16 0,.int .u16 0,.slice none 0 0] fun bA aS G=>nt<|sq<|sg<|Pl 6<|nl<|?_
 refine tn<|c0<|sg<|Pl 1<|?_
 have a8:=ud V G k
 have H:=aG c a8
 refine L0<|Oc<|m5 (uH (RC.upd a H aA (aE.step (RC.u a) H))) fun bB aW aX aY b0 t=>?_
 obtain⟨bC,bD⟩:=aW
 obtain⟨bE,bF⟩:=aX
 obtain⟨bG,bH⟩:=aY
 have y:=nb (RC.lt a4) (le P c.size) k
 refine L0<|be (aZ t (Ne.symm y) aS) #[.int .u16 ((aT C).file),.int .u16 ((aT C).record),.int .u16 ((aT C).count),.slice none 0 0] fun bI b1 I=>ng<|Pl 2<|nt<|c1<|sq<|Rg 9 (fun w'=>w'.cell? ⟨U,2,none⟩=some (.int .u16 ((aT C).count))) fun bJ z=>?_
 have a9:=ub z b1
 refine bi (ah a9 rfl) fun o=>Rt 0 o<|Rt 1 o<|Rl 2 o (fun _ hs=>hs)<|Rr 3 o (.int .i64 ((aT C).count)) (fun _ _=>cP (.int .i64 (IntKind.i64.wrap ((aT C).count))) (by kernel_rfl) (congrArg (Value.int .i64) (i64_in (by omega))))<|Rr 4 o (.int .i64 (2*((aT C).count))) (fun _ _=>cP (.int .i64 (IntKind.i64.wrap (2*((aT C).count)))) (by kernel_rfl) (congrArg (Value.int .i64) (IntWalk.i64_in _ (by omega))))<|Rt 5 o<|?_
 have ab:=aG I z
 have W:=us t ab
 have ad:=ud F (ue a8 W k) N
 have J:=RC.upd b0 ab (aa y aA) ad
 refine R0 6 rfl<|Oc<|m1 (io J) fun bK f=>?_
 have bL:=RC.clen J
 have af:=ub f a9
 refine bi (ah af rfl) fun b2=>Rt 7 b2<|?_
 refine R0 8 rfl<|Oc<|m2 (b7 ((decide ((2*((aT C).count))≤(((dD C).l.length:Nat) : Int)))) 5 (RC.upd J f aA (aE.step (RC.u J) f))) fun bM b3 q=>?_
 refine fL b3 fun x93 b4 b5=>?_
 have X:=aZ q (Ne.symm y) af
 refine bi (ah X rfl) fun bN=>re<|tn<|go<|Pl 2<|L0<|aP X 2<|L0<|Oi ((aT C).count)<|L0<|Oc<|my (fV (n:=(aT C).count) (by omega) b5) fun ag aj bO al bR bS an D=>Pl 1<|?_
 refine L0<|cg (aZ D (Ne.symm y) X) 3 #[.int .u16 ((aT C).file),.int .u16 ((aT C).record),.int .u16 ((aT C).count),.slice ag ((x93.wordsR ((aT C).count)).length) aj] fun bT b8 Y=>nt<|go<|Pl 1<|L0<|bP b8<|L0<|cO (m:=1) (e:=109) #[.int .u16 ((aT C).file),.int .u16 ((aT C).record),.int .u16 ((aT C).count),.slice ag ((x93.wordsR ((aT C).count)).length) aj] fun bU bV bW b9 Z=>?_
 have a0:=aG Y Z
 have ba:=jO (R:=bv true) (x:=(dt.mk ((aT C).file) ((aT C).record) ((aT C).count) (x93.wordsR ((aT C).count)))) b9 rfl ⟨_,rfl,((aq al a0 (fun x hx=>(aa (fun e=>(aB (au a7) (le (le (le (le (le G.size t.size) I.size) z.size) f.size) q.size) al) (e▸hx)) aA)) (fun _ _ h=>h))).rd,aD (x:=(aT C).file) (by omega),aD (x:=(aT C).record) (by omega),aD (x:=(aT C).count) (by omega)⟩
 have ao:=uz f (ui q (us D a0))
 have ap:=ue H (ut W ao (ac im (ac im av))) (le c.size k)
 have ar:=aq j ap (fun x hx=>(aa (fun e=>(RC.nrow a j (by decide)) (e▸hx)) aA)) (bv.upd16 ap (ax (RC.safe a _ (by decide)) aK))
 refine L0<|gO (xs:=L) (ys:=([(dt.mk ((aT C).file) ((aT C).record) ((aT C).count) (x93.wordsR ((aT C).count)))])) (.agg #[.int .u16 0,.int .u16 0,.int .u16 0,.slice none 0 0]) 4 32 ar ba (by simp) bv.ones (fun w' hv=>bv.upd16 hv (d7 (dB _ ar (by decide)) aK)) (by(try simp only[List.length_append,List.length_cons,List.length_nil,ay]);omega) (le (le (le (le (le (le (le (le (le (le (le (le O.size P) c.size) V.size) G.size) t.size) I.size) z.size) f.size) q.size) D.size) Y.size) Z.size) fun bb bc bX bd a1=>Pl 1<|nl<|bn<|?_
 subst b4
 have hC2:(cV s C).2.1=(((dD C).need (decide ((2*((aT C).count))≤(((dD C).l.length:Nat) : Int))) 5).wordsC ((aT C).count)):=by show iq C=_;(try simp only[iq,iv,l9,g,S,T,bs,if_true,if_false,decide_true,decide_false]);all_goals rfl
 have hM2:[(cV s C).2.2]=[(dt.mk ((aT C).file) ((aT C).record) ((aT C).count) (((dD C).need (decide ((2*((aT C).count))≤(((dD C).l.length:Nat) : Int))) 5).wordsR ((aT C).count)))]:=by show[iv C]=_;(try simp only[iq,iv,l9,g,S,T,bs,if_true,if_false,decide_true,decide_false]);all_goals rfl
 have hS2:(cV s C).1=s:=by(try (show s=_));(try simp only[eE,← Int.add_assoc]);all_goals rfl
 have hlt:=mn s C (by omega)
 have h9:=ia (one:=cV) Q (by omega) (by omega) hlt
 rw[hC2,hM2,hS2] at h9
 rw[hC2] at hlt
 have aw:=ut ad (ut (aE.mono (S':=(d :: (U :: (ob B++[])))) ao (ac im (ac im av))) a1 (am il av)) (ac (nr N) (ac (ni F.size k) (am (aM j lr) av)))
 have az:=ue H (u1 W (uz f (u1 q D im)) im) (le c.size k)
 exact gM ((n-1),(((dD C).need (decide ((2*((aT C).count))≤(((dD C).l.length:Nat) : Int))) 5).wordsC ((aT C).count)),(L++[(dt.mk ((aT C).file) ((aT C).record) ((aT C).count) (((dD C).need (decide ((2*((aT C).count))≤(((dD C).l.length:Nat) : Int))) 5).wordsR ((aT C).count)))]),bb,bc,s) ⟨aw,(le (le (le (le (le (le (le (le (le (le (le (le P c.size) V.size) G.size) t.size) I.size) z.size) f.size) q.size) D.size) Y.size) Z.size) a1.size),(RC.upd an (ut (aE.mono (S':=(U :: (ob B++[]))) a0 (ac im av)) a1 (am il av)) (aa y (bf (RC.nrow an (aq j az (fun x hx=>(aa (fun e=>(RC.nrow a j (by decide)) (e▸hx)) aA)) (bv.upd16 az (ax (RC.safe a _ (by decide)) aK))) (by decide)) aA)) aw),bd,(by(try dsimp only);omega),(by(try dsimp only);intro he;omega),(by(try dsimp only);simp only[List.length_append,List.length_cons,List.length_nil];omega),h9⟩ (by omega)
 refine xt<|tx<|tx<|bx<|tn<|sq<|sg<|Pl 3<|?_
 have a2:=RC.upd a c aA (aE.step (RC.u a) c)
 refine L0<|eC (p:=⟨d,3,none⟩) (v:=.int .i64 C.e) (RC.fld a2)<|Pl 1<|nt<|cb ((C.e==2)) (fun E=>?_) (fun E=>?_)
 have bg:=ae E
 refine sg<|Pl 2<|nt<|rt<|tr<|rr (.tuple #[.slice none 0 0,.int .i64 5])<|?_
 obtain⟨ew,ij⟩:=ft Q g
 have hw:bq (aU cV b.length 0 ⟨b,false,0⟩ []).1.e=5:=by unfold bq;rw[ew,if_pos E]
 refine⟨none,0,0,by rw[hw],fun h=>absurd (hw.symm.trans h) (by decide),F⟩
 have bg:=ak E
 refine bp<|sq<|Rg 7 (fun w'=>w'.cell? ⟨d,3,none⟩=some (.int .i64 C.e)) fun bY M=>?_
 refine bi (RC.fld (RC.upd a2 M aA (aE.step (RC.u a2) M))) fun i=>Rt 0 i<|Rt 1 i<|Rt 2 i<|Rt 3 i<|Rl 4 i (fun _ hs=>hs)<|Rt 5 i<|Rt 6 i<|re<|tn<|rt<|rr (.tuple #[.slice B L.length cq,.int .i64 C.e])<|?_
 obtain⟨ew,ij⟩:=ft Q g
 have hw:bq (aU cV b.length 0 ⟨b,false,0⟩ []).1.e=C.e:=by unfold bq;rw[ew,if_neg (by rw[E];decide)]
 have aC:=aG c M
 refine⟨_,_,_,by rw[hw],fun h=>by rw[ij (hw.symm.trans h)];exact(aq j aC (fun x hx=>aA) (bv.upd16 aC aK)),(aG F M)⟩
theorem mh{m:Md}{v:Value}{b:List Int}{w:World}(h:bo m w v b)(hb:b.length≤1048576) :
    Calls Tryz.prog 163 #[.int .i64 0,.int .u8 20,v] w (fQ (aU cU b.length 0 ⟨b,false,0⟩ []) w):=by
  obtain⟨A,cp,rfl,_,_⟩:=h.shape
  exact t6 h hb
theorem lE{m:Md}{v:Value}{b:List Int}{w:World}(h:bo m w v b)(hb:b.length≤1048576) :
    Calls Tryz.prog 163 #[.int .i64 1,.int .u8 20,v] w (fQ (aU bH b.length 0 ⟨b,false,0⟩ []) w):=by
  obtain⟨A,cp,rfl,_,_⟩:=h.shape
  exact rU h hb
theorem lP{m:Md}{v:Value}{b:List Int}{w:World}{dir:Int}(h:bo m w v b)(hb:b.length≤1048576) :
    Calls Tryz.prog 163 #[.int .i64 dir,.int .u8 21,v] w (fQ (aU cV b.length 0 ⟨b,false,0⟩ []) w):=by
  obtain⟨A,cp,rfl,_,_⟩:=h.shape
  exact s6 h hb
open Go.RowKit
theorem gc{x:Int}(h:bq x=0) : x=0:=by
  unfold bq at h
  split at h
  · cases h
  · exact h
theorem jg{x:Int}(h:¬ bq x=0) : (x != 0)=true:=by
  rw[bne_iff_ne]
  rintro rfl
  exact h rfl
theorem gT:((0:Int)!=0)=false:=rfl
theorem rR{m:Md}{A:Option Addr}{cp:Nat}{b:List Int}{w:World}(hsl:bo m w (.slice A b.length cp) b)(hb:b.length≤1048576) :
    Calls Tryz.prog 96 #[.int .i64 0,.int .u8 20,.slice A b.length cp] w (cK (.slice A b.length cp) b (bS cU ez 20 b) w):=by
 have hln:(b.length:Int)≤1048576:=by omega
 have hcp:b.length≤cp:=by obtain⟨_,_,hv,h1,_⟩:=aS.shape hsl;injection hv with _ _ h3;omega
 have hrb:=bo.range hsl
 refine en 101 Tryz.func96 rfl<|sg<|L0<|bQ mZ fun a9 ab i g j=>Pl 1<|nt<|sq<|sg<|Pl 6<|nt<|c0<|?_
 refine bp<|sq<|sg<|Pl 6<|nt<|c0<|bp<|sq<|sg<|?_
 refine Pl 3<|nt<|cb ((((b.length:Nat) : Int)==0)) (fun a=>?_) (fun a=>?_)
 have J:=ae a
 refine sg<|Pl 1<|L0<|be g mZ fun ac L M=>Pl 1<|nt<|rt<|tr<|bX L (.int .i64 2)<|?_
 have hs:bS cU ez 20 b=(aQ.zero,2):=by
   unfold bS dQ de ez
   (try simp only[a,bs,if_true,if_false,decide_true,decide_false,gT,reduceIte])
   all_goals rfl
 rw[hs]
 exact bA (ud j M i)
 have J:=ak a
 refine bp<|sg<|Pl 1<|?_
 have t:=bo.old hsl j
 refine gV (bo.at_ t 0 (by omega)) fun N O Q R ad=>L0<|mc b.length 0 Q (by omega)<|L0<|eC (p:=⟨N,O+0,none⟩) (v:=.int .u8 (b.getD 0 0)) R<|L0<|Oi (b.getD 0 0)<|Pl 1<|ng<|Pl 3<|cu 3 [36] 39 (((decide (9≤(b.getD 0 0)))&&(decide ((b.getD 0 0)≤251)))) (fun K C=>?_) ?_
 refine bl 36 ((decide (9≤(b.getD 0 0)))) (fun l=>?_) (fun l=>?_)
 have S:=of_decide_eq_true l
 exact Pl 3<|ce C (decide ((b.getD 0 0)≤251)) (by rw[l];rfl)
 have S:=of_decide_eq_false l
 exact Pl 3<|ce C false (by rw[l];rfl)
 refine Pl 1<|nt<|sq<|sg<|Pl 6<|nt<|c1<|go<|Pl 3<|cu 3 [48] 51 (((decide (7≤(b.getD 0 0)))&&(decide ((b.getD 0 0)≤245)))) (fun K D=>?_) ?_
 refine bl 48 ((decide (7≤(b.getD 0 0)))) (fun o=>?_) (fun o=>?_)
 have T:=of_decide_eq_true o
 exact Pl 3<|ce D (decide ((b.getD 0 0)≤245)) (by rw[o];rfl)
 have T:=of_decide_eq_false o
 exact Pl 3<|ce D false (by rw[o];rfl)
 refine Pl 1<|cu 4 [52] 56 ((((decide (7≤(b.getD 0 0)))&&(decide ((b.getD 0 0)≤245)))&&(((b.getD 0 0)%7)==0))) (fun K E=>?_) ?_
 refine bl 52 (((decide (7≤(b.getD 0 0)))&&(decide ((b.getD 0 0)≤245)))) (fun q=>?_) (fun q=>?_)
 have U:=(b6 q).1
 have V:=(b6 q).2
 have af:=of_decide_eq_true U
 have ag:=of_decide_eq_true V
 exact Pl 1<|L1<|Oe (.int .i64 (Int.tmod (b.getD 0 0) 7)) (.int .i64 ((b.getD 0 0)%7)) (congrArg (Value.int .i64) (Int.tmod_eq_emod_of_nonneg (by omega)))<|Pl 2<|ce E (((b.getD 0 0)%7)==0) (by rw[q];rfl)
 exact Pl 4<|ce E false (by rw[q];rfl)
 refine Pl 1<|nt<|sq<|sg<|Pl 6<|nt<|c0<|bp<|sq<|sq<|?_
 refine go<|Pl 2<|nt<|cb ((!(((decide (7≤(b.getD 0 0)))&&(decide ((b.getD 0 0)≤245)))&&(((b.getD 0 0)%7)==0)))) (fun d=>?_) (fun d=>?_)
 have f:(((decide (7≤(b.getD 0 0)))&&(decide ((b.getD 0 0)≤245)))&&(((b.getD 0 0)%7)==0))=false:=by simpa only[Bool.not_eq_true',Bool.not_eq_false'] using d
 refine sg<|Pl 1<|L0<|be g mZ fun ah W X=>Pl 1<|nt<|rt<|tr<|bX W (.int .i64 5)<|?_
 have hs:bS cU ez 20 b=(aQ.zero,5):=by
   unfold bS dQ de ez
   (try simp only[a,d,f,bs,if_true,if_false,decide_true,decide_false,gT,reduceIte])
   all_goals rfl
 rw[hs]
 exact bA (ud j X i)
 have f:(((decide (7≤(b.getD 0 0)))&&(decide ((b.getD 0 0)≤245)))&&(((b.getD 0 0)%7)==0))=true:=by simpa only[Bool.not_eq_true',Bool.not_eq_false'] using d
 have k:=(b6 f).1
 have r:=(b6 f).2
 have q32naa:=(b6 k).1
 have q32nab:=(b6 k).2
 have q32naap:=of_decide_eq_true q32naa
 have q32nabp:=of_decide_eq_true q32nab
 have q32nbp:=ae r
 refine bp<|sq<|sg<|Pl 3<|L0<|Oi ((b.getD 0 0)+1)<|Pl 1<|nt<|cb ((decide (((b.length:Nat) : Int)<((b.getD 0 0)+1)))) (fun h=>?_) (fun h=>?_)
 have Y:=of_decide_eq_true h
 refine sg<|Pl 1<|L0<|be g mZ fun ai Z a0=>Pl 1<|nt<|rt<|tr<|bX Z (.int .i64 2)<|?_
 have hs:bS cU ez 20 b=(aQ.zero,2):=by
   unfold bS dQ de ez
   (try simp only[a,d,f,k,q32naa,q32nab,r,h,bs,if_true,if_false,decide_true,decide_false,gT,reduceIte])
   all_goals rfl
 rw[hs]
 exact bA (ud j a0 i)
 have Y:=of_decide_eq_false h
 refine bp<|sg<|Pl 4<|L0<|Oi ((b.getD 0 0)+1)<|pn (jV (P:=Tryz.prog) 22 5 1 Tryz.underlying22 rfl rfl A b.length cp (lo:=1) (up:=((b.getD 0 0)+1)) 1 ((((b.getD 0 0)+1)).toNat) (by omega) (by omega) (by omega) (by omega) (by omega)) fun u hrun43 F=>L0<|oo (.slice u (((((b.getD 0 0)+1)).toNat)-1) (cp-1)) (i3 (kl:=.i64) (kh:=.i64) (lo:=1) (hi:=((b.getD 0 0)+1)) (A:=A) (n:=b.length) (c:=cp) rfl Tryz.underlying22 (by kernel_rfl) (by kernel_rfl) (by kernel_rfl) (hrun43 _ _ _))<|?_
 by_cases hE:bq (aU cU (((b.take ((((b.getD 0 0)+1)).toNat)).drop 1)).length 0 ⟨((b.take ((((b.getD 0 0)+1)).toNat)).drop 1),false,0⟩ []).1.e=0
 refine L0<|Oc (args:=#[.int .i64 0,.int .u8 20,.slice u (((((b.getD 0 0)+1)).toNat)-1) (cp-1)])<|e2 (kD (mh (F _ _ _ _ _ t) (by rw[List.length_drop,List.length_take];omega)) hE) fun aj al y z=>?_
 obtain⟨a1,a2,rfl,am,an⟩:=aS.shape y.rd
 refine Pl 5<|nt<|sq<|sg<|Pl 2<|nt<|c0<|bp<|sq<|sq<|?_
 refine go<|Pl 3<|L0<|Oi ((b.getD 0 0)+1)<|Pl 1<|nt<|?_
 have G:=aG j z
 refine cb ((decide (((b.getD 0 0)+1)<((b.length:Nat) : Int)))) (fun s=>?_) (fun s=>?_)
 have a3:=of_decide_eq_true s
 refine sg<|Pl 1<|?_
 refine L0<|be (ub z g) mZ fun ao a4 a5=>Pl 1<|nt<|rt<|tr<|bX a4 (.int .i64 3)<|?_
 have hE0:(aU cU (((b.take ((((b.getD 0 0)+1)).toNat)).drop 1)).length 0 ⟨((b.take ((((b.getD 0 0)+1)).toNat)).drop 1),false,0⟩ []).1.e=0:=gc hE
 have hs:bS cU ez 20 b=(aQ.zero,3):=by
   unfold bS dQ de ez
   (try simp only[a,d,f,k,q32naa,q32nab,r,h,s,bs,if_true,if_false,decide_true,decide_false,hE0,gT,reduceIte])
   all_goals rfl
 rw[hs]
 exact bA (ud G a5 i)
 have a3:=of_decide_eq_false s
 refine bp<|sg<|Pl 3<|?_
 have H:=ub z g
 refine L0<|be H (mG 20 0 0 0 0 0 0 0 0 0 0 0 nS nS nS (.slice a1 ((aU cU (((b.take ((((b.getD 0 0)+1)).toNat)).drop 1)).length 0 ⟨((b.take ((((b.getD 0 0)+1)).toNat)).drop 1),false,0⟩ []).2.length) a2) 0 0 0 0 0 nS) fun ap a6 B=>Pl 1<|nt<|rt<|bX a6 (.int .i64 0)<|?_
 have hE0:(aU cU (((b.take ((((b.getD 0 0)+1)).toNat)).drop 1)).length 0 ⟨((b.take ((((b.getD 0 0)+1)).toNat)).drop 1),false,0⟩ []).1.e=0:=gc hE
 have hs:bS cU ez 20 b=((aQ.mk 20 0 0 0 0 0 0 0 0 0 0 0 [] [] [] (aU cU (((b.take ((((b.getD 0 0)+1)).toNat)).drop 1)).length 0 ⟨((b.take ((((b.getD 0 0)+1)).toNat)).drop 1),false,0⟩ []).2 0 0 0 0 0 []),0):=by
   unfold bS dQ de ez
   (try simp only[a,d,f,k,q32naa,q32nab,r,h,s,bs,if_true,if_false,decide_true,decide_false,hE0,gT,reduceIte])
   all_goals rfl
 rw[hs]
 exact⟨_,rfl,⟨_,_,_,_,_,rfl,aS.nil ..,aS.nil ..,(fun _ _ _=>aS.nil ..),((aq y B (fun x hx=>(aa (fun e=>(aB (au g) lr y) (e▸hx)) aA)) (bv.upd16 B (ax (aY H (by decide)) aK)))).rd,aS.nil ..,⟨(b8 (x:=20) (by omega)),(b8 (x:=0) (by omega)),(aD (x:=0) (by omega)),(aD (x:=0) (by omega)),(aD (x:=0) (by omega)),(aD (x:=0) (by omega)),(aD (x:=0) (by omega)),(aD (x:=0) (by omega)),(aD (x:=0) (by omega)),(aD (x:=0) (by omega)),(aD (x:=0) (by omega)),(aD (x:=0) (by omega)),(b8 (x:=0) (by omega)),(b8 (x:=0) (by omega)),(b8 (x:=0) (by omega)),(b8 (x:=0) (by omega)),(b8 (x:=0) (by omega))⟩⟩,(ud G B i)⟩
 refine L0<|Oc (args:=#[.int .i64 0,.int .u8 20,.slice u (((((b.getD 0 0)+1)).toNat)-1) (cp-1)])<|?_
 refine(jl (mh (F _ _ _ _ _ t) (by rw[List.length_drop,List.length_take];omega))).mono ?_
 rintro _ ar ⟨av,aw,ay,rfl,I⟩
 refine⟨_,rfl,?_⟩
 have hE1:(bq (aU cU (((b.take ((((b.getD 0 0)+1)).toNat)).drop 1)).length 0 ⟨((b.take ((((b.getD 0 0)+1)).toNat)).drop 1),false,0⟩ []).1.e != 0)=true:=by simpa using hE
 refine Pl 5<|nt<|sq<|sg<|Pl 2<|nt<|ct hE1<|sg<|Pl 2<|?_
 refine L0<|be (ub I g) mZ fun az a7 a8=>Pl 1<|nt<|rt<|tr<|bX a7 (.int .i64 (bq (aU cU (((b.take ((((b.getD 0 0)+1)).toNat)).drop 1)).length 0 ⟨((b.take ((((b.getD 0 0)+1)).toNat)).drop 1),false,0⟩ []).1.e))<|?_
 have hE3:((aU cU (((b.take ((((b.getD 0 0)+1)).toNat)).drop 1)).length 0 ⟨((b.take ((((b.getD 0 0)+1)).toNat)).drop 1),false,0⟩ []).1.e != 0)=true:=jg hE
 have hs:bS cU ez 20 b=(aQ.zero,bq (aU cU (((b.take ((((b.getD 0 0)+1)).toNat)).drop 1)).length 0 ⟨((b.take ((((b.getD 0 0)+1)).toNat)).drop 1),false,0⟩ []).1.e):=by
   unfold bS dQ de ez
   (try simp only[a,d,f,k,q32naa,q32nab,r,h,hE1,bs,if_true,if_false,decide_true,decide_false,hE3,gT,reduceIte])
   all_goals rfl
 rw[hs]
 exact bA (ud j (uz I a8) i)
theorem rW{m:Md}{A:Option Addr}{cp:Nat}{b:List Int}{w:World}(hsl:bo m w (.slice A b.length cp) b)(hb:b.length≤1048576) :
    Calls Tryz.prog 96 #[.int .i64 1,.int .u8 20,.slice A b.length cp] w (cK (.slice A b.length cp) b (bS bH eB 20 b) w):=by
 have hln:(b.length:Int)≤1048576:=by omega
 have hcp:b.length≤cp:=by obtain⟨_,_,hv,h1,_⟩:=aS.shape hsl;injection hv with _ _ h3;omega
 have hrb:=bo.range hsl
 refine en 101 Tryz.func96 rfl<|sg<|L0<|bQ mZ fun a5 a6 i g j=>Pl 1<|nt<|sq<|sg<|Pl 6<|nt<|c0<|?_
 refine bp<|sq<|sg<|Pl 6<|nt<|c0<|bp<|sq<|sg<|?_
 refine Pl 3<|nt<|cb ((((b.length:Nat) : Int)==0)) (fun a=>?_) (fun a=>?_)
 have H:=ae a
 refine sg<|Pl 1<|L0<|be g mZ fun a7 I J=>Pl 1<|nt<|rt<|tr<|bX I (.int .i64 2)<|?_
 have hs:bS bH eB 20 b=(aQ.zero,2):=by
   unfold bS dQ de eB
   (try simp only[a,bs,if_true,if_false,decide_true,decide_false,gT,reduceIte])
   all_goals rfl
 rw[hs]
 exact bA (ud j J i)
 have H:=ak a
 refine bp<|sg<|Pl 1<|?_
 have s:=bo.old hsl j
 refine gV (bo.at_ s 0 (by omega)) fun L M N O a8=>L0<|mc b.length 0 N (by omega)<|L0<|eC (p:=⟨L,M+0,none⟩) (v:=.int .u8 (b.getD 0 0)) O<|L0<|Oi (b.getD 0 0)<|Pl 1<|ng<|Pl 3<|cu 3 [36] 39 (((decide (9≤(b.getD 0 0)))&&(decide ((b.getD 0 0)≤251)))) (fun K B=>?_) ?_
 refine bl 36 ((decide (9≤(b.getD 0 0)))) (fun k=>?_) (fun k=>?_)
 have Q:=of_decide_eq_true k
 exact Pl 3<|ce B (decide ((b.getD 0 0)≤251)) (by rw[k];rfl)
 have Q:=of_decide_eq_false k
 exact Pl 3<|ce B false (by rw[k];rfl)
 refine Pl 1<|nt<|sq<|sg<|Pl 6<|nt<|c0<|bp<|sq<|sq<|?_
 refine go<|Pl 6<|nt<|c1<|go<|Pl 3<|cu 3 [65] 68 (((decide (4≤(b.getD 0 0)))&&(decide ((b.getD 0 0)≤245)))) (fun K C=>?_) ?_
 refine bl 65 ((decide (4≤(b.getD 0 0)))) (fun l=>?_) (fun l=>?_)
 have R:=of_decide_eq_true l
 exact Pl 3<|ce C (decide ((b.getD 0 0)≤245)) (by rw[l];rfl)
 have R:=of_decide_eq_false l
 exact Pl 3<|ce C false (by rw[l];rfl)
 refine Pl 1<|nt<|sq<|sg<|Pl 2<|nt<|cb ((!((decide (4≤(b.getD 0 0)))&&(decide ((b.getD 0 0)≤245))))) (fun d=>?_) (fun d=>?_)
 have f:((decide (4≤(b.getD 0 0)))&&(decide ((b.getD 0 0)≤245)))=false:=by simpa only[Bool.not_eq_true',Bool.not_eq_false'] using d
 refine sg<|Pl 1<|L0<|be g mZ fun a9 S T=>Pl 1<|nt<|rt<|tr<|bX S (.int .i64 5)<|?_
 have hs:bS bH eB 20 b=(aQ.zero,5):=by
   unfold bS dQ de eB
   (try simp only[a,d,f,bs,if_true,if_false,decide_true,decide_false,gT,reduceIte])
   all_goals rfl
 rw[hs]
 exact bA (ud j T i)
 have f:((decide (4≤(b.getD 0 0)))&&(decide ((b.getD 0 0)≤245)))=true:=by simpa only[Bool.not_eq_true',Bool.not_eq_false'] using d
 have o:=(b6 f).1
 have q:=(b6 f).2
 have q30nap:=of_decide_eq_true o
 have q30nbp:=of_decide_eq_true q
 refine bp<|sq<|sg<|Pl 3<|L0<|Oi ((b.getD 0 0)+1)<|Pl 1<|nt<|cb ((decide (((b.length:Nat) : Int)<((b.getD 0 0)+1)))) (fun h=>?_) (fun h=>?_)
 have U:=of_decide_eq_true h
 refine sg<|Pl 1<|L0<|be g mZ fun ab V W=>Pl 1<|nt<|rt<|tr<|bX V (.int .i64 2)<|?_
 have hs:bS bH eB 20 b=(aQ.zero,2):=by
   unfold bS dQ de eB
   (try simp only[a,d,f,o,q,h,bs,if_true,if_false,decide_true,decide_false,gT,reduceIte])
   all_goals rfl
 rw[hs]
 exact bA (ud j W i)
 have U:=of_decide_eq_false h
 refine bp<|sg<|Pl 4<|L0<|Oi ((b.getD 0 0)+1)<|pn (jV (P:=Tryz.prog) 22 5 1 Tryz.underlying22 rfl rfl A b.length cp (lo:=1) (up:=((b.getD 0 0)+1)) 1 ((((b.getD 0 0)+1)).toNat) (by omega) (by omega) (by omega) (by omega) (by omega)) fun t hrun41 D=>L0<|oo (.slice t (((((b.getD 0 0)+1)).toNat)-1) (cp-1)) (i3 (kl:=.i64) (kh:=.i64) (lo:=1) (hi:=((b.getD 0 0)+1)) (A:=A) (n:=b.length) (c:=cp) rfl Tryz.underlying22 (by kernel_rfl) (by kernel_rfl) (by kernel_rfl) (hrun41 _ _ _))<|?_
 by_cases hE:bq (aU bH (((b.take ((((b.getD 0 0)+1)).toNat)).drop 1)).length 0 ⟨((b.take ((((b.getD 0 0)+1)).toNat)).drop 1),false,0⟩ []).1.e=0
 refine L0<|Oc (args:=#[.int .i64 1,.int .u8 20,.slice t (((((b.getD 0 0)+1)).toNat)-1) (cp-1)])<|e2 (kD (lE (D _ _ _ _ _ s) (by rw[List.length_drop,List.length_take];omega)) hE) fun ac ad u y=>?_
 obtain⟨X,Y,rfl,af,ag⟩:=aS.shape u.rd
 refine Pl 5<|nt<|sq<|sg<|Pl 2<|nt<|c0<|bp<|sq<|sq<|?_
 refine go<|Pl 3<|L0<|Oi ((b.getD 0 0)+1)<|Pl 1<|nt<|?_
 have E:=aG j y
 refine cb ((decide (((b.getD 0 0)+1)<((b.length:Nat) : Int)))) (fun r=>?_) (fun r=>?_)
 have Z:=of_decide_eq_true r
 refine sg<|Pl 1<|?_
 refine L0<|be (ub y g) mZ fun ah a0 a1=>Pl 1<|nt<|rt<|tr<|bX a0 (.int .i64 3)<|?_
 have hE0:(aU bH (((b.take ((((b.getD 0 0)+1)).toNat)).drop 1)).length 0 ⟨((b.take ((((b.getD 0 0)+1)).toNat)).drop 1),false,0⟩ []).1.e=0:=gc hE
 have hs:bS bH eB 20 b=(aQ.zero,3):=by
   unfold bS dQ de eB
   (try simp only[a,d,f,o,q,h,r,bs,if_true,if_false,decide_true,decide_false,hE0,gT,reduceIte])
   all_goals rfl
 rw[hs]
 exact bA (ud E a1 i)
 have Z:=of_decide_eq_false r
 refine bp<|sg<|Pl 3<|?_
 have F:=ub y g
 refine L0<|be F (mG 20 0 0 0 0 0 0 0 0 0 0 0 nS nS nS (.slice X ((aU bH (((b.take ((((b.getD 0 0)+1)).toNat)).drop 1)).length 0 ⟨((b.take ((((b.getD 0 0)+1)).toNat)).drop 1),false,0⟩ []).2.length) Y) 0 0 0 0 0 nS) fun ai a2 z=>Pl 1<|nt<|rt<|bX a2 (.int .i64 0)<|?_
 have hE0:(aU bH (((b.take ((((b.getD 0 0)+1)).toNat)).drop 1)).length 0 ⟨((b.take ((((b.getD 0 0)+1)).toNat)).drop 1),false,0⟩ []).1.e=0:=gc hE
 have hs:bS bH eB 20 b=((aQ.mk 20 0 0 0 0 0 0 0 0 0 0 0 [] [] [] (aU bH (((b.take ((((b.getD 0 0)+1)).toNat)).drop 1)).length 0 ⟨((b.take ((((b.getD 0 0)+1)).toNat)).drop 1),false,0⟩ []).2 0 0 0 0 0 []),0):=by
   unfold bS dQ de eB
   (try simp only[a,d,f,o,q,h,r,bs,if_true,if_false,decide_true,decide_false,hE0,gT,reduceIte])
   all_goals rfl
 rw[hs]
 exact⟨_,rfl,⟨_,_,_,_,_,rfl,aS.nil ..,aS.nil ..,(fun _ _ _=>aS.nil ..),((aq u z (fun x hx=>(aa (fun e=>(aB (au g) lr u) (e▸hx)) aA)) (bv.upd16 z (ax (aY F (by decide)) aK)))).rd,aS.nil ..,⟨(b8 (x:=20) (by omega)),(b8 (x:=0) (by omega)),(aD (x:=0) (by omega)),(aD (x:=0) (by omega)),(aD (x:=0) (by omega)),(aD (x:=0) (by omega)),(aD (x:=0) (by omega)),(aD (x:=0) (by omega)),(aD (x:=0) (by omega)),(aD (x:=0) (by omega)),(aD (x:=0) (by omega)),(aD (x:=0) (by omega)),(b8 (x:=0) (by omega)),(b8 (x:=0) (by omega)),(b8 (x:=0) (by omega)),(b8 (x:=0) (by omega)),(b8 (x:=0) (by omega))⟩⟩,(ud E z i)⟩
 refine L0<|Oc (args:=#[.int .i64 1,.int .u8 20,.slice t (((((b.getD 0 0)+1)).toNat)-1) (cp-1)])<|?_
 refine(jl (lE (D _ _ _ _ _ s) (by rw[List.length_drop,List.length_take];omega))).mono ?_
 rintro _ aj ⟨al,am,an,rfl,G⟩
 refine⟨_,rfl,?_⟩
 have hE1:(bq (aU bH (((b.take ((((b.getD 0 0)+1)).toNat)).drop 1)).length 0 ⟨((b.take ((((b.getD 0 0)+1)).toNat)).drop 1),false,0⟩ []).1.e != 0)=true:=by simpa using hE
 refine Pl 5<|nt<|sq<|sg<|Pl 2<|nt<|ct hE1<|sg<|Pl 2<|?_
 refine L0<|be (ub G g) mZ fun ao a3 a4=>Pl 1<|nt<|rt<|tr<|bX a3 (.int .i64 (bq (aU bH (((b.take ((((b.getD 0 0)+1)).toNat)).drop 1)).length 0 ⟨((b.take ((((b.getD 0 0)+1)).toNat)).drop 1),false,0⟩ []).1.e))<|?_
 have hE3:((aU bH (((b.take ((((b.getD 0 0)+1)).toNat)).drop 1)).length 0 ⟨((b.take ((((b.getD 0 0)+1)).toNat)).drop 1),false,0⟩ []).1.e != 0)=true:=jg hE
 have hs:bS bH eB 20 b=(aQ.zero,bq (aU bH (((b.take ((((b.getD 0 0)+1)).toNat)).drop 1)).length 0 ⟨((b.take ((((b.getD 0 0)+1)).toNat)).drop 1),false,0⟩ []).1.e):=by
   unfold bS dQ de eB
   (try simp only[a,d,f,o,q,h,hE1,bs,if_true,if_false,decide_true,decide_false,hE3,gT,reduceIte])
   all_goals rfl
 rw[hs]
 exact bA (ud j (uz G a4) i)
theorem rk{m:Md}{A:Option Addr}{cp:Nat}{b:List Int}{w:World}{dir:Int}(hd:dir=0∨dir=1)(hsl:bo m w (.slice A b.length cp) b)(hb:b.length≤1048576) :
    Calls Tryz.prog 96 #[.int .i64 dir,.int .u8 21,.slice A b.length cp] w (cK (.slice A b.length cp) b (bS cV eD 21 b) w):=by
 have hln:(b.length:Int)≤1048576:=by omega
 have hcp:b.length≤cp:=by obtain⟨_,_,hv,h1,_⟩:=aS.shape hsl;injection hv with _ _ h3;omega
 have hrb:=bo.range hsl
 have g:((dir != 0)&&(dir != 1))=false:=by rcases hd with rfl | rfl<;>rfl
 refine en 101 Tryz.func96 rfl<|sg<|L0<|bQ mZ fun a6 a7 j h k=>Pl 1<|nt<|sq<|sg<|Pl 3<|cu 3 [14] 17 (((dir != 0)&&(dir != 1))) (fun K C=>?_) ?_
 refine bl 14 ((dir != 0)) (fun l=>?_) (fun l=>?_)
 have I:=az l
 exact Pl 3<|ce C (dir != 1) (by rw[l];rfl)
 have I:=aj l
 exact Pl 3<|ce C false (by rw[l];rfl)
 refine nt<|cf g<|bp<|sq<|sg<|Pl 6<|nt<|c0<|bp<|?_
 refine sq<|sg<|Pl 3<|nt<|cb ((((b.length:Nat) : Int)==0)) (fun a=>?_) (fun a=>?_)
 have J:=ae a
 refine sg<|Pl 1<|L0<|be h mZ fun a8 L M=>Pl 1<|nt<|rt<|tr<|bX L (.int .i64 2)<|?_
 have hs:bS cV eD 21 b=(aQ.zero,2):=by
   unfold bS dQ de eD
   (try simp only[g,a,bs,if_true,if_false,decide_true,decide_false,gT,reduceIte])
   all_goals rfl
 rw[hs]
 exact bA (ud k M j)
 have J:=ak a
 refine bp<|sg<|Pl 1<|?_
 have t:=bo.old hsl k
 refine gV (bo.at_ t 0 (by omega)) fun N O Q R a9=>L0<|mc b.length 0 Q (by omega)<|L0<|eC (p:=⟨N,O+0,none⟩) (v:=.int .u8 (b.getD 0 0)) R<|L0<|Oi (b.getD 0 0)<|Pl 1<|ng<|Pl 3<|cu 3 [36] 39 (((decide (9≤(b.getD 0 0)))&&(decide ((b.getD 0 0)≤251)))) (fun K D=>?_) ?_
 refine bl 36 ((decide (9≤(b.getD 0 0)))) (fun o=>?_) (fun o=>?_)
 have S:=of_decide_eq_true o
 exact Pl 3<|ce D (decide ((b.getD 0 0)≤251)) (by rw[o];rfl)
 have S:=of_decide_eq_false o
 exact Pl 3<|ce D false (by rw[o];rfl)
 refine Pl 1<|nt<|sq<|sg<|Pl 6<|nt<|c0<|bp<|sq<|sq<|?_
 refine go<|Pl 6<|nt<|c0<|bp<|sq<|sg<|Pl 2<|nt<|cb ((!((decide (9≤(b.getD 0 0)))&&(decide ((b.getD 0 0)≤251))))) (fun d=>?_) (fun d=>?_)
 have f:((decide (9≤(b.getD 0 0)))&&(decide ((b.getD 0 0)≤251)))=false:=by simpa only[Bool.not_eq_true',Bool.not_eq_false'] using d
 refine sg<|Pl 1<|L0<|be h mZ fun ab T U=>Pl 1<|nt<|rt<|tr<|bX T (.int .i64 5)<|?_
 have hs:bS cV eD 21 b=(aQ.zero,5):=by
   unfold bS dQ de eD
   (try simp only[g,a,d,f,bs,if_true,if_false,decide_true,decide_false,gT,reduceIte])
   all_goals rfl
 rw[hs]
 exact bA (ud k U j)
 have f:((decide (9≤(b.getD 0 0)))&&(decide ((b.getD 0 0)≤251)))=true:=by simpa only[Bool.not_eq_true',Bool.not_eq_false'] using d
 have q:=(b6 f).1
 have r:=(b6 f).2
 have q30nap:=of_decide_eq_true q
 have q30nbp:=of_decide_eq_true r
 refine bp<|sq<|sg<|Pl 3<|L0<|Oi ((b.getD 0 0)+1)<|Pl 1<|nt<|cb ((decide (((b.length:Nat) : Int)<((b.getD 0 0)+1)))) (fun i=>?_) (fun i=>?_)
 have V:=of_decide_eq_true i
 refine sg<|Pl 1<|L0<|be h mZ fun ac W X=>Pl 1<|nt<|rt<|tr<|bX W (.int .i64 2)<|?_
 have hs:bS cV eD 21 b=(aQ.zero,2):=by
   unfold bS dQ de eD
   (try simp only[g,a,d,f,q,r,i,bs,if_true,if_false,decide_true,decide_false,gT,reduceIte])
   all_goals rfl
 rw[hs]
 exact bA (ud k X j)
 have V:=of_decide_eq_false i
 refine bp<|sg<|Pl 4<|L0<|Oi ((b.getD 0 0)+1)<|pn (jV (P:=Tryz.prog) 22 5 1 Tryz.underlying22 rfl rfl A b.length cp (lo:=1) (up:=((b.getD 0 0)+1)) 1 ((((b.getD 0 0)+1)).toNat) (by omega) (by omega) (by omega) (by omega) (by omega)) fun u hrun41 E=>L0<|oo (.slice u (((((b.getD 0 0)+1)).toNat)-1) (cp-1)) (i3 (kl:=.i64) (kh:=.i64) (lo:=1) (hi:=((b.getD 0 0)+1)) (A:=A) (n:=b.length) (c:=cp) rfl Tryz.underlying22 (by kernel_rfl) (by kernel_rfl) (by kernel_rfl) (hrun41 _ _ _))<|?_
 by_cases hE:bq (aU cV (((b.take ((((b.getD 0 0)+1)).toNat)).drop 1)).length 0 ⟨((b.take ((((b.getD 0 0)+1)).toNat)).drop 1),false,0⟩ []).1.e=0
 refine L0<|Oc (args:=#[.int .i64 dir,.int .u8 21,.slice u (((((b.getD 0 0)+1)).toNat)-1) (cp-1)])<|e2 (kD (lP (E _ _ _ _ _ t) (by rw[List.length_drop,List.length_take];omega)) hE) fun ad af y z=>?_
 obtain⟨Y,Z,rfl,ag,ah⟩:=aS.shape y.rd
 refine Pl 5<|nt<|sq<|sg<|Pl 2<|nt<|c0<|bp<|sq<|sq<|?_
 refine go<|Pl 3<|L0<|Oi ((b.getD 0 0)+1)<|Pl 1<|nt<|?_
 have F:=aG k z
 refine cb ((decide (((b.getD 0 0)+1)<((b.length:Nat) : Int)))) (fun s=>?_) (fun s=>?_)
 have a0:=of_decide_eq_true s
 refine sg<|Pl 1<|?_
 refine L0<|be (ub z h) mZ fun ai a1 a2=>Pl 1<|nt<|rt<|tr<|bX a1 (.int .i64 3)<|?_
 have hE0:(aU cV (((b.take ((((b.getD 0 0)+1)).toNat)).drop 1)).length 0 ⟨((b.take ((((b.getD 0 0)+1)).toNat)).drop 1),false,0⟩ []).1.e=0:=gc hE
 have hs:bS cV eD 21 b=(aQ.zero,3):=by
   unfold bS dQ de eD
   (try simp only[g,a,d,f,q,r,i,s,bs,if_true,if_false,decide_true,decide_false,hE0,gT,reduceIte])
   all_goals rfl
 rw[hs]
 exact bA (ud F a2 j)
 have a0:=of_decide_eq_false s
 refine bp<|sg<|Pl 3<|?_
 have G:=ub z h
 refine L0<|be G (mG 21 0 0 0 0 0 0 0 0 0 0 0 nS nS nS (.slice Y ((aU cV (((b.take ((((b.getD 0 0)+1)).toNat)).drop 1)).length 0 ⟨((b.take ((((b.getD 0 0)+1)).toNat)).drop 1),false,0⟩ []).2.length) Z) 0 0 0 0 0 nS) fun al a3 B=>Pl 1<|nt<|rt<|bX a3 (.int .i64 0)<|?_
 have hE0:(aU cV (((b.take ((((b.getD 0 0)+1)).toNat)).drop 1)).length 0 ⟨((b.take ((((b.getD 0 0)+1)).toNat)).drop 1),false,0⟩ []).1.e=0:=gc hE
 have hs:bS cV eD 21 b=((aQ.mk 21 0 0 0 0 0 0 0 0 0 0 0 [] [] [] (aU cV (((b.take ((((b.getD 0 0)+1)).toNat)).drop 1)).length 0 ⟨((b.take ((((b.getD 0 0)+1)).toNat)).drop 1),false,0⟩ []).2 0 0 0 0 0 []),0):=by
   unfold bS dQ de eD
   (try simp only[g,a,d,f,q,r,i,s,bs,if_true,if_false,decide_true,decide_false,hE0,gT,reduceIte])
   all_goals rfl
 rw[hs]
 exact⟨_,rfl,⟨_,_,_,_,_,rfl,aS.nil ..,aS.nil ..,(fun _ _ _=>aS.nil ..),((aq y B (fun x hx=>(aa (fun e=>(aB (au h) lr y) (e▸hx)) aA)) (bv.upd16 B (ax (aY G (by decide)) aK)))).rd,aS.nil ..,⟨(b8 (x:=21) (by omega)),(b8 (x:=0) (by omega)),(aD (x:=0) (by omega)),(aD (x:=0) (by omega)),(aD (x:=0) (by omega)),(aD (x:=0) (by omega)),(aD (x:=0) (by omega)),(aD (x:=0) (by omega)),(aD (x:=0) (by omega)),(aD (x:=0) (by omega)),(aD (x:=0) (by omega)),(aD (x:=0) (by omega)),(b8 (x:=0) (by omega)),(b8 (x:=0) (by omega)),(b8 (x:=0) (by omega)),(b8 (x:=0) (by omega)),(b8 (x:=0) (by omega))⟩⟩,(ud F B j)⟩
 refine L0<|Oc (args:=#[.int .i64 dir,.int .u8 21,.slice u (((((b.getD 0 0)+1)).toNat)-1) (cp-1)])<|?_
 refine(jl (lP (E _ _ _ _ _ t) (by rw[List.length_drop,List.length_take];omega))).mono ?_
 rintro _ am ⟨an,ao,ap,rfl,H⟩
 refine⟨_,rfl,?_⟩
 have hE1:(bq (aU cV (((b.take ((((b.getD 0 0)+1)).toNat)).drop 1)).length 0 ⟨((b.take ((((b.getD 0 0)+1)).toNat)).drop 1),false,0⟩ []).1.e != 0)=true:=by simpa using hE
 refine Pl 5<|nt<|sq<|sg<|Pl 2<|nt<|ct hE1<|sg<|Pl 2<|?_
 refine L0<|be (ub H h) mZ fun ar a4 a5=>Pl 1<|nt<|rt<|tr<|bX a4 (.int .i64 (bq (aU cV (((b.take ((((b.getD 0 0)+1)).toNat)).drop 1)).length 0 ⟨((b.take ((((b.getD 0 0)+1)).toNat)).drop 1),false,0⟩ []).1.e))<|?_
 have hE3:((aU cV (((b.take ((((b.getD 0 0)+1)).toNat)).drop 1)).length 0 ⟨((b.take ((((b.getD 0 0)+1)).toNat)).drop 1),false,0⟩ []).1.e != 0)=true:=jg hE
 have hs:bS cV eD 21 b=(aQ.zero,bq (aU cV (((b.take ((((b.getD 0 0)+1)).toNat)).drop 1)).length 0 ⟨((b.take ((((b.getD 0 0)+1)).toNat)).drop 1),false,0⟩ []).1.e):=by
   unfold bS dQ de eD
   (try simp only[g,a,d,f,q,r,i,hE1,bs,if_true,if_false,decide_true,decide_false,hE3,gT,reduceIte])
   all_goals rfl
 rw[hs]
 exact bA (ud k (uz H a5) j)
theorem qE{A:Option Addr}{cp:Nat}{b:List Int}{w:World}{dir c:Int}(hd:dir=0∨dir=1)(hc:¬ c=20∧¬ c=21) :
    Calls Tryz.prog 96 #[.int .i64 dir,.int .u8 c,.slice A b.length cp] w (cK (.slice A b.length cp) b (aQ.zero,4) w):=by
 have g:((dir != 0)&&(dir != 1))=false:=by rcases hd with rfl | rfl<;>rfl
 have e2:((c != 20)&&(c != 21))=true:=by simp[hc.1,hc.2]
 refine en 101 Tryz.func96 rfl<|sg<|L0<|bQ mZ fun o p h i j=>Pl 1<|nt<|sq<|sg<|Pl 3<|cu 3 [14] 17 (((dir != 0)&&(dir != 1))) (fun K e=>?_) ?_
 refine bl 14 ((dir != 0)) (fun a=>?_) (fun a=>?_)
 have k:=az a
 exact Pl 3<|ce e (dir != 1) (by rw[a];rfl)
 have k:=aj a
 exact Pl 3<|ce e false (by rw[a];rfl)
 refine nt<|cf g<|bp<|sq<|sg<|Pl 3<|cu 3 [21] 24 (((c != 20)&&(c != 21))) (fun K f=>?_) ?_
 refine bl 21 ((c != 20)) (fun d=>?_) (fun d=>?_)
 have l:=az d
 exact Pl 3<|ce f (c != 21) (by rw[d];rfl)
 have l:=aj d
 exact Pl 3<|ce f false (by rw[d];rfl)
 refine nt<|ct e2<|sg<|Pl 1<|L0<|be i mZ fun q m n=>Pl 1<|nt<|rt<|tr<|bX m (.int .i64 4)<|?_
 exact bA (ud j n h)
theorem t0{A:Option Addr}{cp:Nat}{b:List Int}{w:World}{dir c:Int}(hd:¬ (dir=0∨dir=1)) :
    Calls Tryz.prog 96 #[.int .i64 dir,.int .u8 c,.slice A b.length cp] w (cK (.slice A b.length cp) b (aQ.zero,1) w):=by
 have e:((dir != 0)&&(dir != 1))=true:=by simp;omega
 refine en 101 Tryz.func96 rfl<|sg<|L0<|bQ mZ fun l m f g h=>Pl 1<|nt<|sq<|sg<|Pl 3<|cu 3 [14] 17 (((dir != 0)&&(dir != 1))) (fun K d=>?_) ?_
 refine bl 14 ((dir != 0)) (fun a=>?_) (fun a=>?_)
 have i:=az a
 exact Pl 3<|ce d (dir != 1) (by rw[a];rfl)
 have i:=aj a
 exact Pl 3<|ce d false (by rw[a];rfl)
 refine nt<|ct e<|sg<|Pl 1<|L0<|be g mZ fun n j k=>Pl 1<|nt<|rt<|tr<|bX j (.int .i64 1)<|?_
 exact bA (ud h k f)
theorem p2{dir c:Int}{b:List Int}(hd:dir=0∨dir=1)(hc:¬ c=20∧¬ c=21) : ag aW dir c b=(aQ.zero,4):=by
  unfold ag aW
  rw[if_pos hd,if_neg (by simpa using hc.1),if_neg (by simpa using hc.2)]
theorem qX{form:Int→Int→ai→Option (ai × aQ)}{dir c:Int}{b:List Int}(hd:¬ (dir=0∨dir=1)) : ag form dir c b=(aQ.zero,1):=by
  unfold ag
  rw[if_neg hd]
theorem iM{m:Md}{v:Value}{b:List Int}{w:World}{dir c:Int}(hc:B8 c)(h:bo m w v b)(hb:b.length≤1048576) :
    Calls Tryz.prog 96 #[.int .i64 dir,.int .u8 c,v] w (cK v b (ag aW dir c b) w):=by
  have hr:=bo.range h
  obtain⟨A,cp,rfl,_,_⟩:=h.shape
  by_cases hd:dir=0∨dir=1
  · by_cases a:c=20
    · subst a
      rcases hd with rfl|rfl
      · rw[ot hr];exact rR h hb
      · rw[oy hr];exact rW h hb
    · by_cases d:c=21
      · subst d
        rw[sN hd hr];exact rk hd h hb
      · rw[p2 hd ⟨a,d⟩];exact qE hd ⟨a,d⟩
  · rw[qX hd];exact t0 hd
open Go.RowKit
theorem sR{k i:Nat}{C:ai}{L:List Obj}{R:ai × List Obj}(h:dW (k-i) C L=R)(hk:k-i=0) : R=(C,L):=by
  rw[hk] at h
  exact h.symm
theorem l8{m:Md}{A:Option Addr}{cp:Nat}{b:List Int}{w:World}{c:Int}(hcode:B8 c)(hsl:bo m w (.slice A b.length cp) b)(hb:b.length≤1048576) :
    Calls Tryz.prog 97 #[.int .i64 0,.int .u8 c,.slice A b.length cp] w (cK (.slice A b.length cp) b (ag bY 0 c b) w):=by
 obtain⟨hcode1,hcode2⟩:=hcode
 have hln:(b.length:Int)≤1048576:=by omega
 refine en 176 Tryz.func97 rfl<|sg<|L0<|bQ mZ fun bB bC r k a=>Pl 1<|nt<|sq<|sg<|Pl 6<|nt<|c0<|?_
 refine bp<|sq<|sg<|Pl 2<|nt<|cb ((c != 43)) (fun j=>?_) (fun j=>?_)
 have aJ:=az j
 refine sg<|Pl 1<|L0<|be k mZ fun bD aK aM=>Pl 1<|nt<|rt<|tr<|bX aK (.int .i64 4)<|?_
 have hs:ag bY 0 c b=(aQ.zero,4):=by
   unfold ag bY dz gr fl fm eN ep eu dj
   (try simp only[j,bs,if_true,if_false,decide_true,decide_false,eq_self,true_or,or_true,or_false,false_or,if_true,if_false,co,cm,cn,cv,reduceIte])
   all_goals rfl
 rw[hs]
 exact bA (ud a aM r)
 have aJ:=aj j
 refine bp<|sg<|Pl 2<|L0<|dC #[.slice A b.length cp,.int .i64 0,.bool false,.int .i64 0] fun s bE d Y i=>Pl 1<|ng<|Pl 1<|L0<|bQ mZ fun bF bG h aN aO=>L0<|be aN (mC 43) fun aR aT aU=>?_
 refine ng<|Pl 1<|?_
 have Z:=ud aO aU h
 have t:=aG i Z
 have a0:=aG a t
 have aV:RC w _ A cp b aR s (ai.mk b false 0):=⟨hsl,a0,(Nat.le_trans a.size d),⟨0,(ub Z Y),Nat.zero_le _,rfl⟩,by omega⟩
 refine L0<|Oc<|m3 (eb aV) fun bH aW a1 bI=>Pl 1<|?_
 have f:=nb (au Y) lr h
 refine L0<|cg (aZ a1 (Ne.symm f) aT) 16 (mG 43 0 0 0 0 0 0 0 0 0 0 0 nS nS nS nS ((ai.mk b false 0).byteV) 0 0 0 0 nS) fun bJ N a2=>ng<|Pl 2<|L0<|aP N 16<|Pl 2<|cu 4 [38] 42 (((((ai.mk b false 0).byteV)==13)||(((ai.mk b false 0).byteV)==14))) (fun K a3=>?_) ?_
 refine bl 38 ((((ai.mk b false 0).byteV)==13)) (fun y=>?_) (fun y=>?_)
 have aX:=ae y
 exact Pl 4<|ce a3 true (by rw[y];rfl)
 have aX:=ak y
 exact Pl 1<|L1<|aP N 16<|Pl 2<|ce a3 (((ai.mk b false 0).byteV)==14) (by rw[y];rfl)
 have z:=us a1 a2
 have a4:=ut a0 z (ac (ni a.size d) (ac (ni (le a.size i.size) h) av))
 refine L0<|Oc<|m2 (b7 (((((ai.mk b false 0).byteV)==13)||(((ai.mk b false 0).byteV)==14))) 8 (RC.upd aW a2 (aa f aA) a4)) fun bK aY q=>?_
 refine fL aY fun x55 H B=>?_
 refine nt<|sq<|bk<|sg<|Pl 1<|?_
 have O:=aZ q (Ne.symm f) N
 refine L0<|aP O 16<|Pl 2<|nt<|?_
 have a5:=ud a4 q (le a.size d)
 refine cb ((((ai.mk b false 0).byteV)==13)) (fun o=>?_) (fun o=>?_)
 have b0:=ae o
 refine sg<|Pl 1<|L0<|Oc<|m1 (io B) fun bL P=>?_
 have bM:=RC.clen B
 refine Pl 1<|ng<|Pl 3<|?_
 refine L0<|Oc<|m2 (b7 ((decide (((x55.l.length:Nat) : Int)≤251))) 5 (RC.upd B P aA (aE.step (RC.u B) P))) fun bN a6 b1=>nt<|go<|Pl 2<|L0<|Oc<|oa (fK (n:=((x55.l.length:Nat) : Int)) (by omega) a6) fun a7 a8 bO b2 b3 b4=>?_
 have bR:=Nat.le_trans (ai.bytesR_le (x55.need (decide (((x55.l.length:Nat) : Int)≤251)) 5) ((x55.l.length:Nat) : Int)) (RC.clen a6)
 refine fL b3 fun iY a9 b5=>?_
 refine Pl 1<|?_
 have ab:=uz P (u1 b1 b4 im)
 refine L0<|cg (aZ ab (Ne.symm f) O) 14 (mG 43 0 0 0 0 0 0 0 0 0 0 0 nS nS (.slice a7 (((x55.need (decide (((x55.l.length:Nat) : Int)≤251)) 5).bytesR ((x55.l.length:Nat) : Int)).length) a8) nS ((ai.mk b false 0).byteV) 0 0 0 0 nS) fun bS b6 ad=>nl<|bn<|tn<|sg<|Pl 1<|?_
 have Q:=us ab ad
 have af:=ut a5 Q (ac (ni a.size d) (ac (ni (le a.size i.size) h) av))
 refine L0<|Oc<|m2 (ex (RC.upd b5 ad (aa f aA) af)) fun bT R I=>nt<|sq<|sg<|Pl 3<|L0<|eC (p:=⟨s,3,none⟩) (v:=.int .i64 iY.endC.e) (RC.fld R)<|Pl 1<|nt<|?_
 have ah:=ud af I (le a.size d)
 refine cb ((iY.endC.e != 0)) (fun C=>?_) (fun C=>?_)
 have S:=az C
 refine sq<|Rg 7 (fun w'=>w'.cell? ⟨s,3,none⟩=some (.int .i64 iY.endC.e)) fun bU J=>?_
 have al:=RC.upd R J aA (aE.step (RC.u R) J)
 refine bi (RC.fld al) fun D=>Rt 0 D<|Rt 1 D<|Rt 2 D<|Rt 3 D<|Rl 4 D (fun _ hs=>hs)<|?_
 refine R0 5 rfl<|be (ub (ut t (ut z (ui q (u1 Q (aG I J) im)) (ac im (ac im av))) (ac (nr d) (ac (ni i.size h) av))) k) mZ fun bV b9 am=>?_
 have an:=ud ah (uz J am) r
 refine bi (RC.fld (RC.upd al am (aa (Ne.symm (nb (au k) lr d)) aA) an)) fun ba=>Rt 6 ba<|re<|tn<|rt<|tr<|bX b9 (.int .i64 iY.endC.e)<|?_
 have hs:ag bY 0 c b=aL (aQ.mk 43 0 0 0 0 0 0 0 0 0 0 0 [] [] ((x55.need (decide (((x55.l.length:Nat) : Int)≤251)) 5).bytesR ((x55.l.length:Nat) : Int)) [] ((ai.mk b false 0).byteV) 0 0 0 0 []) iY:=by
   subst a9 H
   unfold ag bY dz gr fl fm eN ep eu dj
   (try simp only[j,o,C,bs,if_true,if_false,decide_true,decide_false,eq_self,true_or,or_true,or_false,false_or,if_true,if_false,co,cm,cn,cv,reduceIte])
   all_goals rfl
 rw[hs]
 exact bh S an
 have S:=aj C
 refine bp<|sg<|?_
 refine L0<|bP (aZ I (Ne.symm f) b6)<|?_
 refine L0<|be (ub (ut t (ut z (ui q (u1 Q I im)) (ac im (ac im av))) (ac (nr d) (ac (ni i.size h) av))) k) (mG 43 0 0 0 0 0 0 0 0 0 0 0 nS nS (.slice a7 (((x55.need (decide (((x55.l.length:Nat) : Int)≤251)) 5).bytesR ((x55.l.length:Nat) : Int)).length) a8) nS ((ai.mk b false 0).byteV) 0 0 0 0 nS) fun bW bb bc=>Pl 1<|nt<|rt<|bX bb (.int .i64 0)<|?_
 have hs:ag bY 0 c b=aL (aQ.mk 43 0 0 0 0 0 0 0 0 0 0 0 [] [] ((x55.need (decide (((x55.l.length:Nat) : Int)≤251)) 5).bytesR ((x55.l.length:Nat) : Int)) [] ((ai.mk b false 0).byteV) 0 0 0 0 []) iY:=by
   subst a9 H
   unfold ag bY dz gr fl fm eN ep eu dj
   (try simp only[j,o,C,bs,if_true,if_false,decide_true,decide_false,eq_self,true_or,or_true,or_false,false_or,if_true,if_false,co,cm,cn,cv,reduceIte])
   all_goals rfl
 rw[hs]
 exact bt S ⟨_,_,_,_,_,rfl,aS.nil ..,aS.nil ..,b2,aS.nil ..,aS.nil ..,⟨(b8 (x:=43) (by omega)),(b8 (x:=0) (by omega)),(aD (x:=0) (by omega)),(aD (x:=0) (by omega)),(aD (x:=0) (by omega)),(aD (x:=0) (by omega)),(aD (x:=0) (by omega)),(aD (x:=0) (by omega)),(aD (x:=0) (by omega)),(aD (x:=0) (by omega)),(aD (x:=0) (by omega)),(aD (x:=0) (by omega)),(b8 (x:=(ai.mk b false 0).byteV) (by omega)),(b8 (x:=0) (by omega)),(b8 (x:=0) (by omega)),(b8 (x:=0) (by omega)),(b8 (x:=0) (by omega))⟩⟩ (ud ah bc r)
 have b0:=ak o
 refine sg<|Pl 3<|nt<|c1<|sg<|Pl 1<|L0<|Oc<|m3 (eb B) fun bZ bd ao c2=>Pl 1<|?_
 refine L0<|cg (aZ ao (Ne.symm f) O) 17 (mG 43 0 0 0 0 0 0 0 0 0 0 0 nS nS nS nS ((ai.mk b false 0).byteV) x55.byteV 0 0 0 nS) fun c3 T ap=>ng<|Pl 2<|L0<|aP T 17<|Pl 2<|cu 4 [154] 158 (((decide (0<x55.byteV))&&(decide (x55.byteV<5)))) (fun K aq=>?_) ?_
 refine bl 154 ((decide (0<x55.byteV))) (fun E=>?_) (fun E=>?_)
 have bf:=of_decide_eq_true E
 exact Pl 1<|L1<|aP T 17<|Pl 2<|ce aq (decide (x55.byteV<5)) (by rw[E];rfl)
 have bf:=of_decide_eq_false E
 exact Pl 4<|ce aq false (by rw[E];rfl)
 have U:=us ao ap
 have ar:=ut a5 U (ac (ni a.size d) (ac (ni (le a.size i.size) h) av))
 refine L0<|Oc<|m2 (b7 (((decide (0<x55.byteV))&&(decide (x55.byteV<5)))) 6 (RC.upd bd ap (aa f aA) ar)) fun c4 bg bj=>?_
 refine fL bg fun g aw bm=>?_
 refine nt<|go<|Pl 1<|L0<|Oc<|m3 (eb bm) fun c5 bq br c6=>Pl 1<|?_
 have ax:=u1 bj br im
 refine L0<|cg (aZ ax (Ne.symm f) T) 20 (mG 43 0 0 0 0 0 0 0 0 0 0 0 nS nS nS nS ((ai.mk b false 0).byteV) x55.byteV 0 0 g.byteV nS) fun c7 bu ay=>nl<|bn<|tn<|sg<|Pl 1<|?_
 have V:=us ax ay
 have aB:=ut ar V (ac (ni a.size d) (ac (ni (le a.size i.size) h) av))
 refine L0<|Oc<|m2 (ex (RC.upd bq ay (aa f aA) aB)) fun c8 W L=>nt<|sq<|sg<|Pl 3<|L0<|eC (p:=⟨s,3,none⟩) (v:=.int .i64 (((g.bytesC 1).endC).e)) (RC.fld W)<|Pl 1<|nt<|?_
 have aC:=ud aB L (le a.size d)
 refine cb (((((g.bytesC 1).endC).e)!=0)) (fun F=>?_) (fun F=>?_)
 have X:=az F
 refine sq<|Rg 7 (fun w'=>w'.cell? ⟨s,3,none⟩=some (.int .i64 (((g.bytesC 1).endC).e))) fun c9 M=>?_
 have aF:=RC.upd W M aA (aE.step (RC.u W) M)
 refine bi (RC.fld aF) fun G=>Rt 0 G<|Rt 1 G<|Rt 2 G<|Rt 3 G<|Rl 4 G (fun _ hs=>hs)<|?_
 refine R0 5 rfl<|be (ub (ut t (ut z (ui q (ut U (u1 V (aG L M) im) (ac im (ac im av)))) (ac im (ac im av))) (ac (nr d) (ac (ni i.size h) av))) k) mZ fun ca bv aH=>?_
 have aI:=ud aC (uz M aH) r
 refine bi (RC.fld (RC.upd aF aH (aa (Ne.symm (nb (au k) lr d)) aA) aI)) fun bw=>Rt 6 bw<|re<|tn<|rt<|tr<|bX bv (.int .i64 (((g.bytesC 1).endC).e))<|?_
 have hs:ag bY 0 c b=aL (aQ.mk 43 0 0 0 0 0 0 0 0 0 0 0 [] [] [] [] ((ai.mk b false 0).byteV) x55.byteV 0 0 g.byteV []) (g.bytesC 1):=by
   subst aw H
   unfold ag bY dz gr fl fm eN ep eu dj
   (try simp only[j,o,F,bs,if_true,if_false,decide_true,decide_false,eq_self,true_or,or_true,or_false,false_or,if_true,if_false,co,cm,cn,cv,reduceIte])
   all_goals rfl
 rw[hs]
 exact bh X aI
 have X:=aj F
 refine bp<|sg<|?_
 refine L0<|bP (aZ L (Ne.symm f) bu)<|?_
 refine L0<|be (ub (ut t (ut z (ui q (ut U (u1 V L im) (ac im (ac im av)))) (ac im (ac im av))) (ac (nr d) (ac (ni i.size h) av))) k) (mG 43 0 0 0 0 0 0 0 0 0 0 0 nS nS nS nS ((ai.mk b false 0).byteV) x55.byteV 0 0 g.byteV nS) fun cc bx bz=>Pl 1<|nt<|rt<|bX bx (.int .i64 0)<|?_
 have hs:ag bY 0 c b=aL (aQ.mk 43 0 0 0 0 0 0 0 0 0 0 0 [] [] [] [] ((ai.mk b false 0).byteV) x55.byteV 0 0 g.byteV []) (g.bytesC 1):=by
   subst aw H
   unfold ag bY dz gr fl fm eN ep eu dj
   (try simp only[j,o,F,bs,if_true,if_false,decide_true,decide_false,eq_self,true_or,or_true,or_false,false_or,if_true,if_false,co,cm,cn,cv,reduceIte])
   all_goals rfl
 rw[hs]
 exact bt X ⟨_,_,_,_,_,rfl,aS.nil ..,aS.nil ..,(fun _ _ _=>aS.nil ..),aS.nil ..,aS.nil ..,⟨(b8 (x:=43) (by omega)),(b8 (x:=0) (by omega)),(aD (x:=0) (by omega)),(aD (x:=0) (by omega)),(aD (x:=0) (by omega)),(aD (x:=0) (by omega)),(aD (x:=0) (by omega)),(aD (x:=0) (by omega)),(aD (x:=0) (by omega)),(aD (x:=0) (by omega)),(aD (x:=0) (by omega)),(aD (x:=0) (by omega)),(b8 (x:=(ai.mk b false 0).byteV) (by omega)),(b8 (x:=x55.byteV) (by omega)),(b8 (x:=0) (by omega)),(b8 (x:=0) (by omega)),(b8 (x:=g.byteV) (by omega))⟩⟩ (ud aC bz r)
theorem lm{m:Md}{A:Option Addr}{cp:Nat}{b:List Int}{w:World}{c:Int}(hcode:B8 c)(hsl:bo m w (.slice A b.length cp) b)(hb:b.length≤1048576) :
    Calls Tryz.prog 97 #[.int .i64 1,.int .u8 c,.slice A b.length cp] w (cK (.slice A b.length cp) b (ag bY 1 c b) w):=by
 obtain⟨hcode1,hcode2⟩:=hcode
 have hln:(b.length:Int)≤1048576:=by omega
 refine en 176 Tryz.func97 rfl<|sg<|L0<|bQ mZ fun a1 dL M y a=>Pl 1<|nt<|sq<|sg<|Pl 6<|nt<|c0<|?_
 refine bp<|sq<|sg<|Pl 2<|nt<|cb ((c != 43)) (fun z=>?_) (fun z=>?_)
 have cF:=az z
 refine sg<|Pl 1<|L0<|be y mZ fun dM cG cH=>Pl 1<|nt<|rt<|tr<|bX cG (.int .i64 4)<|?_
 have hs:ag bY 1 c b=(aQ.zero,4):=by
   unfold ag bY dz gr fl fm eN ep eu dj
   (try simp only[z,bs,if_true,if_false,decide_true,decide_false,eq_self,true_or,or_true,or_false,false_or,if_true,if_false,co,cm,cn,cv,reduceIte])
   all_goals rfl
 rw[hs]
 exact bA (ud a cH M)
 have cF:=aj z
 refine bp<|sg<|Pl 2<|L0<|dC #[.slice A b.length cp,.int .i64 0,.bool false,.int .i64 0] fun t dN f b2 o=>Pl 1<|ng<|Pl 1<|L0<|bQ mZ fun G dO q cI b3=>L0<|be cI (mC 43) fun cJ cL b4=>?_
 refine ng<|Pl 1<|?_
 have b5:=ud b3 b4 q
 have a2:=aG o b5
 have b6:=aG a a2
 have cM:RC w _ A cp b cJ t (ai.mk b false 0):=⟨hsl,b6,(Nat.le_trans a.size f),⟨0,(ub b5 b2),Nat.zero_le _,rfl⟩,by omega⟩
 refine L0<|Oc<|m3 (eb cM) fun dP cN ab dQ=>Pl 1<|?_
 have g:=nb (au b2) lr q
 refine L0<|cg (aZ ab (Ne.symm g) cL) 16 (mG 43 0 0 0 0 0 0 0 0 0 0 0 nS nS nS nS ((ai.mk b false 0).byteV) 0 0 0 0 nS) fun dR ad af=>ng<|Pl 2<|L0<|aP ad 16<|Pl 2<|cu 4 [38] 42 (((((ai.mk b false 0).byteV)==13)||(((ai.mk b false 0).byteV)==14))) (fun K b9=>?_) ?_
 refine bl 38 ((((ai.mk b false 0).byteV)==13)) (fun N=>?_) (fun N=>?_)
 have cP:=ae N
 exact Pl 4<|ce b9 true (by rw[N];rfl)
 have cP:=ak N
 exact Pl 1<|L1<|aP ad 16<|Pl 2<|ce b9 (((ai.mk b false 0).byteV)==14) (by rw[N];rfl)
 have a3:=us ab af
 have ba:=ut b6 a3 (ac (ni a.size f) (ac (ni (le a.size o.size) q) av))
 refine L0<|Oc<|m2 (b7 (((((ai.mk b false 0).byteV)==13)||(((ai.mk b false 0).byteV)==14))) 8 (RC.upd cN af (aa g aA) ba)) fun dS cQ H=>?_
 refine fL cQ fun x55 a4 O=>?_
 refine nt<|sq<|bk<|sg<|Pl 1<|?_
 have ah:=aZ H (Ne.symm g) ad
 refine L0<|aP ah 16<|Pl 2<|nt<|?_
 have bb:=ud ba H (le a.size f)
 refine cb ((((ai.mk b false 0).byteV)==13)) (fun E=>?_) (fun E=>?_)
 have cR:=ae E
 refine sg<|Pl 1<|L0<|Oc<|m1 (io O) fun dT al=>?_
 have dU:=RC.clen O
 refine Pl 1<|ng<|Pl 3<|?_
 refine L0<|Oc<|m2 (b7 ((decide (((x55.l.length:Nat) : Int)≤251))) 5 (RC.upd O al aA (aE.step (RC.u O) al))) fun dV bc cS=>nt<|go<|Pl 2<|L0<|Oc<|oa (fK (n:=((x55.l.length:Nat) : Int)) (by omega) bc) fun bd bg dX cT cU cV=>?_
 have dY:=Nat.le_trans (ai.bytesR_le (x55.need (decide (((x55.l.length:Nat) : Int)≤251)) 5) ((x55.l.length:Nat) : Int)) (RC.clen bc)
 refine fL cU fun iY bj cW=>?_
 refine Pl 1<|?_
 have bm:=uz al (u1 cS cV im)
 refine L0<|cg (aZ bm (Ne.symm g) ah) 14 (mG 43 0 0 0 0 0 0 0 0 0 0 0 nS nS (.slice bd (((x55.need (decide (((x55.l.length:Nat) : Int)≤251)) 5).bytesR ((x55.l.length:Nat) : Int)).length) bg) nS ((ai.mk b false 0).byteV) 0 0 0 0 nS) fun dZ cX bq=>nl<|bn<|tn<|sg<|Pl 1<|?_
 have an:=us bm bq
 have br:=ut bb an (ac (ni a.size f) (ac (ni (le a.size o.size) q) av))
 refine L0<|Oc<|m2 (ex (RC.upd cW bq (aa g aA) br)) fun e0 ao a5=>nt<|sq<|sg<|Pl 3<|L0<|eC (p:=⟨t,3,none⟩) (v:=.int .i64 iY.endC.e) (RC.fld ao)<|Pl 1<|nt<|?_
 have bu:=ud br a5 (le a.size f)
 refine cb ((iY.endC.e != 0)) (fun P=>?_) (fun P=>?_)
 have ap:=az P
 refine sq<|Rg 7 (fun w'=>w'.cell? ⟨t,3,none⟩=some (.int .i64 iY.endC.e)) fun e1 a6=>?_
 have bv:=RC.upd ao a6 aA (aE.step (RC.u ao) a6)
 refine bi (RC.fld bv) fun Q=>Rt 0 Q<|Rt 1 Q<|Rt 2 Q<|Rt 3 Q<|Rl 4 Q (fun _ hs=>hs)<|?_
 refine R0 5 rfl<|be (ub (ut a2 (ut a3 (ui H (u1 an (aG a5 a6) im)) (ac im (ac im av))) (ac (nr f) (ac (ni o.size q) av))) y) mZ fun e2 cY bw=>?_
 have bz:=ud bu (uz a6 bw) M
 refine bi (RC.fld (RC.upd bv bw (aa (Ne.symm (nb (au y) lr f)) aA) bz)) fun cZ=>Rt 6 cZ<|re<|tn<|rt<|tr<|bX cY (.int .i64 iY.endC.e)<|?_
 have hs:ag bY 1 c b=aL (aQ.mk 43 0 0 0 0 0 0 0 0 0 0 0 [] [] ((x55.need (decide (((x55.l.length:Nat) : Int)≤251)) 5).bytesR ((x55.l.length:Nat) : Int)) [] ((ai.mk b false 0).byteV) 0 0 0 0 []) iY:=by
   subst bj a4
   unfold ag bY dz gr fl fm eN ep eu dj
   (try simp only[z,E,P,bs,if_true,if_false,decide_true,decide_false,eq_self,true_or,or_true,or_false,false_or,if_true,if_false,co,cm,cn,cv,reduceIte])
   all_goals rfl
 rw[hs]
 exact bh ap bz
 have ap:=aj P
 refine bp<|sg<|?_
 refine L0<|bP (aZ a5 (Ne.symm g) cX)<|?_
 refine L0<|be (ub (ut a2 (ut a3 (ui H (u1 an a5 im)) (ac im (ac im av))) (ac (nr f) (ac (ni o.size q) av))) y) (mG 43 0 0 0 0 0 0 0 0 0 0 0 nS nS (.slice bd (((x55.need (decide (((x55.l.length:Nat) : Int)≤251)) 5).bytesR ((x55.l.length:Nat) : Int)).length) bg) nS ((ai.mk b false 0).byteV) 0 0 0 0 nS) fun e3 d0 d1=>Pl 1<|nt<|rt<|bX d0 (.int .i64 0)<|?_
 have hs:ag bY 1 c b=aL (aQ.mk 43 0 0 0 0 0 0 0 0 0 0 0 [] [] ((x55.need (decide (((x55.l.length:Nat) : Int)≤251)) 5).bytesR ((x55.l.length:Nat) : Int)) [] ((ai.mk b false 0).byteV) 0 0 0 0 []) iY:=by
   subst bj a4
   unfold ag bY dz gr fl fm eN ep eu dj
   (try simp only[z,E,P,bs,if_true,if_false,decide_true,decide_false,eq_self,true_or,or_true,or_false,false_or,if_true,if_false,co,cm,cn,cv,reduceIte])
   all_goals rfl
 rw[hs]
 exact bt ap ⟨_,_,_,_,_,rfl,aS.nil ..,aS.nil ..,cT,aS.nil ..,aS.nil ..,⟨(b8 (x:=43) (by omega)),(b8 (x:=0) (by omega)),(aD (x:=0) (by omega)),(aD (x:=0) (by omega)),(aD (x:=0) (by omega)),(aD (x:=0) (by omega)),(aD (x:=0) (by omega)),(aD (x:=0) (by omega)),(aD (x:=0) (by omega)),(aD (x:=0) (by omega)),(aD (x:=0) (by omega)),(aD (x:=0) (by omega)),(b8 (x:=(ai.mk b false 0).byteV) (by omega)),(b8 (x:=0) (by omega)),(b8 (x:=0) (by omega)),(b8 (x:=0) (by omega)),(b8 (x:=0) (by omega))⟩⟩ (ud bu d1 M)
 have cR:=ak E
 refine sg<|Pl 3<|nt<|c0<|sg<|Pl 1<|L0<|Oc<|m3 (eb O) fun e4 d2 ar e5=>Pl 1<|?_
 refine L0<|cg (aZ ar (Ne.symm g) ah) 17 (mG 43 0 0 0 0 0 0 0 0 0 0 0 nS nS nS nS ((ai.mk b false 0).byteV) x55.byteV 0 0 0 nS) fun e6 aw ax=>ng<|Pl 2<|L0<|aP aw 17<|Pl 2<|cu 4 [51] 55 (((decide (0<x55.byteV))&&(decide (x55.byteV<5)))) (fun K bB=>?_) ?_
 refine bl 51 ((decide (0<x55.byteV))) (fun S=>?_) (fun S=>?_)
 have d3:=of_decide_eq_true S
 exact Pl 1<|L1<|aP aw 17<|Pl 2<|ce bB (decide (x55.byteV<5)) (by rw[S];rfl)
 have d3:=of_decide_eq_false S
 exact Pl 4<|ce bB false (by rw[S];rfl)
 have bC:=us ar ax
 have bD:=ut bb bC (ac (ni a.size f) (ac (ni (le a.size o.size) q) av))
 refine L0<|Oc<|m2 (b7 (((decide (0<x55.byteV))&&(decide (x55.byteV<5)))) 6 (RC.upd d2 ax (aa g aA) bD)) fun e7 d4 bE=>?_
 refine fL d4 fun j bF d5=>?_
 refine ng<|Pl 1<|L0<|Oc<|m3 (eb d5) fun e8 d6 bG e9=>Pl 1<|?_
 have bH:=u1 bE bG im
 refine L0<|cg (aZ bH (Ne.symm g) aw) 18 (mG 43 0 0 0 0 0 0 0 0 0 0 0 nS nS nS nS ((ai.mk b false 0).byteV) x55.byteV j.byteV 0 0 nS) fun ea bI aB=>ng<|Pl 1<|L0<|aP bI 18<|L0<|Oe (.int .u8 (Int.tmod j.byteV 128)) (.int .u8 (j.byteV%128)) (congrArg (Value.int .u8) (Int.tmod_eq_emod_of_nonneg (by omega)))<|Pl 1<|ng<|Pl 4<|cu 3 [66] 69 (((decide (1≤(j.byteV%128)))&&(decide ((j.byteV%128)≤3)))) (fun K bJ=>?_) ?_
 refine bl 66 ((decide (1≤(j.byteV%128)))) (fun T=>?_) (fun T=>?_)
 have d7:=of_decide_eq_true T
 exact Pl 3<|ce bJ (decide ((j.byteV%128)≤3)) (by rw[T];rfl)
 have d7:=of_decide_eq_false T
 exact Pl 3<|ce bJ false (by rw[T];rfl)
 have bK:=us bH aB
 have bL:=ut bD bK (ac (ni a.size f) (ac (ni (le a.size o.size) q) av))
 refine L0<|Oc<|m2 (b7 (((decide (1≤(j.byteV%128)))&&(decide ((j.byteV%128)≤3)))) 6 (RC.upd d6 aB (aa g aA) bL)) fun ec d8 bM=>?_
 refine fL d8 fun k bN d9=>?_
 refine ng<|Pl 1<|L0<|Oc<|m3 (eb d9) fun ed da bO ee=>Pl 1<|?_
 have bR:=u1 bM bO im
 refine L0<|cg (aZ bR (Ne.symm g) bI) 19 (mG 43 0 0 0 0 0 0 0 0 0 0 0 nS nS nS nS ((ai.mk b false 0).byteV) x55.byteV j.byteV k.byteV 0 nS) fun ef aC aF=>ng<|Pl 2<|L0<|aP aC 19<|Pl 2<|cu 4 [78] 82 (((k.byteV==0)||(k.byteV==255))) (fun K bS=>?_) ?_
 refine bl 78 ((k.byteV==0)) (fun U=>?_) (fun U=>?_)
 have dc:=ae U
 exact Pl 4<|ce bS true (by rw[U];rfl)
 have dc:=ak U
 exact Pl 1<|L1<|aP aC 19<|Pl 2<|ce bS (k.byteV==255) (by rw[U];rfl)
 have bT:=us bR aF
 have bU:=ut bL bT (ac (ni a.size f) (ac (ni (le a.size o.size) q) av))
 refine L0<|Oc<|m2 (b7 (((k.byteV==0)||(k.byteV==255))) 6 (RC.upd da aF (aa g aA) bU)) fun eg dd bV=>?_
 refine fL dd fun s bW de=>?_
 refine ng<|Pl 1<|L0<|Oc<|m3 (eb de) fun eh df bZ ei=>Pl 1<|?_
 have c1:=u1 bV bZ im
 refine L0<|cg (aZ c1 (Ne.symm g) aC) 20 (mG 43 0 0 0 0 0 0 0 0 0 0 0 nS nS nS nS ((ai.mk b false 0).byteV) x55.byteV j.byteV k.byteV s.byteV nS) fun ej a7 aH=>ng<|Pl 2<|L0<|aP a7 20<|Pl 2<|cu 4 [91] 95 (((s.byteV==0)||(k.byteV==255))) (fun K c2=>?_) ?_
 refine bl 91 ((s.byteV==0)) (fun V=>?_) (fun V=>?_)
 have dg:=ae V
 exact Pl 4<|ce c2 true (by rw[V];rfl)
 have dg:=ak V
 exact Pl 1<|L1<|aP a7 19<|Pl 2<|ce c2 (k.byteV==255) (by rw[V];rfl)
 have c3:=us c1 aH
 have c4:=ut bU c3 (ac (ni a.size f) (ac (ni (le a.size o.size) q) av))
 refine L0<|Oc<|m2 (b7 (((s.byteV==0)||(k.byteV==255))) 6 (RC.upd df aH (aa g aA) c4)) fun ek dh aI=>?_
 refine fL dh fun d c5 di=>?_
 refine ng<|Pl 1<|L0<|Oc<|m3 (eb di) fun el dk aJ em=>L0<|Oi d.byteV<|Pl 1<|ng<|Pl 4<|cu 4 [103] 107 (((d.byteV==1)||(x55.byteV != 4))) (fun K c6=>?_) ?_
 refine bl 103 ((d.byteV==1)) (fun W=>?_) (fun W=>?_)
 have dl:=ae W
 exact Pl 4<|ce c6 true (by rw[W];rfl)
 have dl:=ak W
 refine Pl 1<|?_
 exact L1<|aP (aZ (u1 aI aJ im) (Ne.symm g) a7) 17<|Pl 2<|ce c6 (x55.byteV != 4) (by rw[W];rfl)
 refine L0<|Oc<|m2 (b7 (((d.byteV==1)||(x55.byteV != 4))) 5 dk) fun dm dn c7=>?_
 refine fL dn fun F c8 dp=>?_
 refine ng<|Pl 1<|nt<|bk<|?_
 have hKr:0≤d.byteV∧d.byteV<256:=by omega
 have aK:=u1 aI (u1 aJ c7 im) im
 refine jf (fun x=>[(6,.pointer (some ⟨a1,0,none⟩)),(7,.int .i64 0),(8,.pointer (some ⟨t,0,none⟩)),(9,.pointer (some ⟨G,0,none⟩)),(12,.int .i64 d.byteV),(13,.int .i64 ((x.1:Nat) : Int))]) (fun(x:Nat × ai × List Obj × Option Addr × Nat) w'=>aE [] w w'∧dm.heap.size≤w'.heap.size∧w'.heap[a1]? = some (.cells mZ 30 (0,0))∧RC w m A cp b w' t x.2.1∧w'.heap[G]? = some (.cells (mG 43 0 0 0 0 0 0 0 0 0 0 0 nS nS nS nS ((ai.mk b false 0).byteV) x55.byteV j.byteV k.byteV s.byteV (.slice x.2.2.2.1 x.2.2.1.length x.2.2.2.2)) 30 (0,0))∧aV w.heap.size 111 2 (ns (.slice A b.length cp) b) w' (.slice x.2.2.2.1 x.2.2.1.length x.2.2.2.2) x.2.2.1∧(x.1≤d.byteV.toNat)∧(x.2.2.1.length=x.1)∧(dW (d.byteV.toNat-x.1) x.2.1 x.2.2.1=dW d.byteV.toNat F [])) (fun x=>d.byteV.toNat-x.1) (0,F,[],none,0) ⟨(ud c4 aK (le a.size f)),lr,(ub (ut a2 (ut a3 (ui H (ut bC (ut bK (ut bT (u1 c3 aK im) (ac im (ac im av))) (ac im (ac im av))) (ac im (ac im av)))) (ac im (ac im av))) (ac (nr f) (ac (ni o.size q) av))) y),dp,(aZ aK (Ne.symm g) a7),(aV.nil w.heap.size _ _ (ns (.slice A b.length cp) b) _),(by(try dsimp only);omega),rfl,rfl⟩ ?_
 rintro⟨i,C,L,B,cq⟩ a8 ⟨c9,ca,dq,dr,ds,dt,du,dv,dw⟩
 refine jj [(6,.pointer (some ⟨a1,0,none⟩)),(7,.int .i64 0),(8,.pointer (some ⟨t,0,none⟩)),(9,.pointer (some ⟨G,0,none⟩)),(12,.int .i64 d.byteV),(13,.int .i64 ((i:Nat) : Int))] ?_
 have I:a8.heap[a1]? = some (.cells mZ 30 (0,0)):=dq
 have D:RC w m A cp b a8 t C:=dr
 have hlC:=RC.clen D
 have hrC:eJ C:=RC.rng D
 have hbv:=db hrC
 have hbv2:=db (i5 hrC (n:=1))
 have cc:a8.heap[G]? = some (.cells (mG 43 0 0 0 0 0 0 0 0 0 0 0 nS nS nS nS ((ai.mk b false 0).byteV) x55.byteV j.byteV k.byteV s.byteV (.slice B L.length cq)) 30 (0,0)):=ds
 have r:aV w.heap.size 111 2 (ns (.slice A b.length cp) b) a8 (.slice B L.length cq) L:=dt
 have eo:i≤d.byteV.toNat:=du
 have eq:L.length=i:=dv
 have cd:dW (d.byteV.toNat-i) C L=dW d.byteV.toNat F []:=dw
 refine sq<|sg<|Pl 3<|nt<|cb ((decide (((i:Nat) : Int)<d.byteV))) (fun X=>?_) (fun X=>?_)
 have dx:=of_decide_eq_true X
 refine bp<|sq<|bk<|sg<|Pl 1<|L0<|Oc<|m3 (eb D) fun er dy aN es=>Pl 1<|ng<|Pl 1<|L0<|Oc<|m3 (eb dy) fun et cf aO ev=>?_
 refine L0<|Oi ((C.bytesC 1).byteV)<|Pl 1<|ng<|Pl 2<|L0<|Oc<|oa (fK (n:=(C.bytesC 1).byteV) (by omega) cf) fun dA dB ew dD ch aR=>?_
 have ey:=Nat.le_trans (ai.bytesR_le ((C.bytesC 1).bytesC 1) ((C.bytesC 1).byteV)) (RC.clen cf)
 refine Pl 1<|nt<|go<|Pl 1<|?_
 have aT:=u1 aN (u1 aO aR im) im
 have aU:=aZ aT (Ne.symm g) cc
 refine L0<|aP aU 21<|Pl 3<|L0<|cO (m:=1) (e:=111) #[.int .u8 C.byteV,.slice dA ((((C.bytesC 1).bytesC 1).bytesR ((C.bytesC 1).byteV)).length) dB] fun ez eA eB dE J=>?_
 have ci:=RC.upd ch J aA (aE.step (RC.u ch) J)
 have dF:=jO (R:=ns (.slice A b.length cp) b) (x:=(Obj.mk C.byteV (((C.bytesC 1).bytesC 1).bytesR ((C.bytesC 1).byteV)))) dE rfl ⟨_,_,_,rfl,dD,b8 (x:=C.byteV) (by omega)⟩
 have cj:=aG aT J
 have ck:=aq r cj (fun x hx=>(aa (fun e=>(RC.nrow D r (by decide)) (e▸hx)) aA)) (fun _ _ h=>h)
 refine L0<|gO (xs:=L) (ys:=([(Obj.mk C.byteV (((C.bytesC 1).bytesC 1).bytesR ((C.bytesC 1).byteV)))])) (.agg #[.int .u8 0,.slice none 0 0]) 2 32 ck dF (by simp) ns.ones (fun _ _ _ _ h=>h) (by(try simp only[List.length_append,List.length_cons,List.length_nil,ay]);omega) (le (le (le (le (le (le (le (le (le (le (le (le (le (le (le (le (le (le (le (le (le (le (le (le (le a.size o.size) b3.size) b4.size) ab.size) af.size) H.size) ar.size) ax.size) bE.size) bG.size) aB.size) bM.size) bO.size) aF.size) bV.size) bZ.size) aH.size) aI.size) aJ.size) c7.size) ca) aN.size) aO.size) aR.size) J.size) fun cl cr eD cs aW=>Pl 1<|?_
 have ct:=aE.blk (ut (aE.mono (S':=(ob B++[])) J av) aW (am il av)) (bf (dI aU (aq r aT (fun x hx=>(aa (fun e=>(RC.nrow D r (by decide)) (e▸hx)) aA)) (fun _ _ h=>h)) (by decide)) aA) aU
 refine L0<|cg ct 21 (mG 43 0 0 0 0 0 0 0 0 0 0 0 nS nS nS nS ((ai.mk b false 0).byteV) x55.byteV j.byteV k.byteV s.byteV (.slice cl ((L++[(Obj.mk C.byteV (((C.bytesC 1).bytesC 1).bytesR ((C.bytesC 1).byteV)))]).length) cr)) fun eE dG aX=>nl<|bn<|tn<|go<|Pl 1<|L0<|Oi (((i:Nat) : Int)+1)<|Pl 1<|nl<|?_
 have cw:=u1 (aE.mono (S':=(ob B++(G :: []))) aW (am il av)) aX im
 have cx:=ut (aE.mono (S':=(t :: (ob B++(G :: [])))) cj (ac im av)) cw (am il (ac im av))
 have cy:=ut c9 cx (ac (ni a.size f) (am (aM r lr) (ac (ni (le a.size o.size) q) av)))
 exact gM ((i+1),(((C.bytesC 1).bytesC 1).bytesC ((C.bytesC 1).byteV)),(L++[(Obj.mk C.byteV (((C.bytesC 1).bytesC 1).bytesR ((C.bytesC 1).byteV)))]),cl,cr) ⟨cy,(le (le (le (le (le (le ca aN.size) aO.size) aR.size) J.size) aW.size) aX.size),(aE.blk cx (aa (nb (au y) lr f) (bf (dI I r (by decide)) (aa (nb (au y) o.size q) aA))) I),(RC.upd ci cw (bf (RC.nrow ci ck (by decide)) (aa g aA)) cy),dG,(aq cs aX (fun x hx=>(aa (fun e=>(dI ct cs (by decide)) (e▸hx)) aA)) (fun _ _ h=>h)),(by(try dsimp only);omega),(by(try dsimp only);simp only[List.length_append,List.length_cons,List.length_nil];omega),(by(try dsimp only);rw[← cd,show d.byteV.toNat-i=(d.byteV.toNat-(i+1))+1 from by omega];rfl)⟩ (by omega)
 have dx:=of_decide_eq_false X
 refine xt<|tx<|tx<|bx<|bn<|tn<|sg<|Pl 1<|?_
 have hR:=sR cd (by omega)
 refine L0<|Oc<|m2 (ex D) fun eF aY Y=>nt<|sq<|sg<|Pl 3<|L0<|eC (p:=⟨t,3,none⟩) (v:=.int .i64 C.endC.e) (RC.fld aY)<|Pl 1<|nt<|?_
 have cz:=ud c9 Y (le a.size f)
 refine cb ((C.endC.e != 0)) (fun Z=>?_) (fun Z=>?_)
 have b0:=az Z
 refine sq<|Rg 7 (fun w'=>w'.cell? ⟨t,3,none⟩=some (.int .i64 C.endC.e)) fun eG a9=>?_
 have cA:=RC.upd aY a9 aA (aE.step (RC.u aY) a9)
 refine bi (RC.fld cA) fun a0=>Rt 0 a0<|Rt 1 a0<|Rt 2 a0<|Rt 3 a0<|Rl 4 a0 (fun _ hs=>hs)<|?_
 have cB:=aG Y a9
 have cC:=nb (au y) lr f
 refine R0 5 rfl<|be (aZ cB cC I) mZ fun eH dH b1=>?_
 have cD:=ud cz (uz a9 b1) M
 refine bi (RC.fld (RC.upd cA b1 (aa (Ne.symm cC) aA) cD)) fun dJ=>Rt 6 dJ<|re<|tn<|rt<|tr<|bX dH (.int .i64 C.endC.e)<|?_
 have eI:=aq r (us cB b1) (fun x hx=>(aa (fun e=>(RC.nrow D r (by decide)) (e▸hx)) (aa (fun e=>(dI I r (by decide)) (e▸hx)) aA))) (fun _ _ h=>h)
 have hs:ag bY 1 c b=aL (aQ.mk 43 0 0 0 0 0 0 0 0 0 0 0 [] [] [] [] ((ai.mk b false 0).byteV) x55.byteV j.byteV k.byteV s.byteV (dW d.byteV.toNat F []).2) (dW d.byteV.toNat F []).1:=by
   subst c8 c5 bW bN bF a4
   unfold ag bY dz gr fl fm eN ep eu dj
   (try simp only[z,E,X,Z,bs,if_true,if_false,decide_true,decide_false,eq_self,true_or,or_true,or_false,false_or,if_true,if_false,co,cm,cn,cv,reduceIte])
   all_goals rfl
 rw[hR] at hs
 rw[hs]
 exact bh b0 cD
 have b0:=aj Z
 refine bp<|sg<|?_
 refine L0<|bP (aZ Y (Ne.symm g) cc)<|?_
 refine L0<|be (aZ Y (nb (au y) lr f) I) (mG 43 0 0 0 0 0 0 0 0 0 0 0 nS nS nS nS ((ai.mk b false 0).byteV) x55.byteV j.byteV k.byteV s.byteV (.slice B L.length cq)) fun eK dK cE=>Pl 1<|nt<|rt<|bX dK (.int .i64 0)<|?_
 have hs:ag bY 1 c b=aL (aQ.mk 43 0 0 0 0 0 0 0 0 0 0 0 [] [] [] [] ((ai.mk b false 0).byteV) x55.byteV j.byteV k.byteV s.byteV (dW d.byteV.toNat F []).2) (dW d.byteV.toNat F []).1:=by
   subst c8 c5 bW bN bF a4
   unfold ag bY dz gr fl fm eN ep eu dj
   (try simp only[z,E,X,Z,bs,if_true,if_false,decide_true,decide_false,eq_self,true_or,or_true,or_false,false_or,if_true,if_false,co,cm,cn,cv,reduceIte])
   all_goals rfl
 rw[hR] at hs
 rw[hs]
 exact bt b0 ⟨_,_,_,_,_,rfl,aS.nil ..,aS.nil ..,(fun _ _ _=>aS.nil ..),aS.nil ..,((aq r (us Y cE) (fun x hx=>(aa (fun e=>(RC.nrow D r (by decide)) (e▸hx)) (aa (fun e=>(dI I r (by decide)) (e▸hx)) aA))) (fun _ _ h=>h))).rd,⟨(b8 (x:=43) (by omega)),(b8 (x:=0) (by omega)),(aD (x:=0) (by omega)),(aD (x:=0) (by omega)),(aD (x:=0) (by omega)),(aD (x:=0) (by omega)),(aD (x:=0) (by omega)),(aD (x:=0) (by omega)),(aD (x:=0) (by omega)),(aD (x:=0) (by omega)),(aD (x:=0) (by omega)),(aD (x:=0) (by omega)),(b8 (x:=(ai.mk b false 0).byteV) (by omega)),(b8 (x:=x55.byteV) (by omega)),(b8 (x:=j.byteV) (by omega)),(b8 (x:=k.byteV) (by omega)),(b8 (x:=s.byteV) (by omega))⟩⟩ (ud cz cE M)
theorem lc{m:Md}{A:Option Addr}{cp:Nat}{b:List Int}{w:World}{dir c:Int}(hcode:B8 c)(hsl:bo m w (.slice A b.length cp) b)(hb:b.length≤1048576)(hd:¬ (dir=0∨dir=1)) :
    Calls Tryz.prog 97 #[.int .i64 dir,.int .u8 c,.slice A b.length cp] w (cK (.slice A b.length cp) b (ag bY dir c b) w):=by
 obtain⟨hcode1,hcode2⟩:=hcode
 have hln:(b.length:Int)≤1048576:=by omega
 have e0:(dir != 0)=true:=by simp;omega
 have e1:(dir != 1)=true:=by simp;omega
 refine en 176 Tryz.func97 rfl<|sg<|L0<|bQ mZ fun g h a d e=>Pl 1<|nt<|sq<|sg<|Pl 3<|sy 19 e0<|Pl 3<|nl<|?_
 refine tn<|ct e1<|sg<|Pl 1<|L0<|be d mZ fun i dF f=>Pl 1<|nt<|rt<|tr<|bX dF (.int .i64 1)<|?_
 have hs:ag bY dir c b=(aQ.zero,1):=by
   unfold ag bY dz gr fl fm eN ep eu dj
   (try simp only[e0,e1,bs,if_true,if_false,decide_true,decide_false,eq_self,true_or,or_true,or_false,false_or,if_true,if_false,co,cm,cn,cv,reduceIte,hd])
   all_goals rfl
 rw[hs]
 exact bA (ud e f a)
theorem jZ{m:Md}{v:Value}{b:List Int}{w:World}{dir c:Int}(hc:B8 c)(h:bo m w v b)(hb:b.length≤1048576) :
    Calls Tryz.prog 97 #[.int .i64 dir,.int .u8 c,v] w (cK v b (ag bz dir c b) w):=by
  rw[← n7 (bo.range h)]
  obtain⟨A,cp,rfl,_,_⟩:=h.shape
  by_cases h0:dir=0
  · subst h0;exact l8 hc h hb
  by_cases h1:dir=1
  · subst h1;exact lm hc h hb
  exact lc hc h hb (by omega)
open Go.RowKit
theorem sU{x:Int}{w:World}:Calls Tryz.prog 148 #[.int .u8 x] w (dM (.bool (ir x)) w):=by
 refine en 37 Tryz.func148 rfl<|sg<|Pl 1<|ng<|Pl 3<|cu 3 [5] 8 (((decide (1≤x))&&(decide (x≤8)))) (fun K i=>?_) ?_
 refine bl 5 ((decide (1≤x))) (fun a=>?_) (fun a=>?_)
 have v:=of_decide_eq_true a
 exact Pl 3<|ce i (decide (x≤8)) (by rw[a];rfl)
 have v:=of_decide_eq_false a
 exact Pl 3<|ce i false (by rw[a];rfl)
 refine Pl 1<|cu 3 [9] 12 ((((decide (1≤x))&&(decide (x≤8)))||(x==11))) (fun K j=>?_) ?_
 refine bl 9 (((decide (1≤x))&&(decide (x≤8)))) (fun b=>?_) (fun b=>?_)
 have y:=(b6 b).1
 have z:=(b6 b).2
 have G:=of_decide_eq_true y
 have H:=of_decide_eq_true z
 exact Pl 3<|ce j true (by rw[b];rfl)
 exact Pl 3<|ce j (x==11) (by rw[b];rfl)
 refine Pl 1<|cu 3 [13] 16 (((((decide (1≤x))&&(decide (x≤8)))||(x==11))||(x==12))) (fun K k=>?_) ?_
 refine bl 13 ((((decide (1≤x))&&(decide (x≤8)))||(x==11))) (fun c=>?_) (fun c=>?_)
 exact Pl 3<|ce k true (by rw[c];rfl)
 have I:=(aI c).1
 have A:=(aI c).2
 have J:=ak A
 exact Pl 3<|ce k (x==12) (by rw[c];rfl)
 refine Pl 1<|cu 7 [17] 24 ((((((decide (1≤x))&&(decide (x≤8)))||(x==11))||(x==12))||((decide (15≤x))&&(decide (x≤17))))) (fun K l=>?_) ?_
 refine bl 17 (((((decide (1≤x))&&(decide (x≤8)))||(x==11))||(x==12))) (fun d=>?_) (fun d=>?_)
 exact Pl 7<|ce l true (by rw[d];rfl)
 have m:=(aI d).1
 have B:=(aI d).2
 have L:=(aI m).1
 have C:=(aI m).2
 have q16abp:=ak C
 have M:=ak B
 refine Pl 3<|cu 3 [20] 23 (((decide (15≤x))&&(decide (x≤17)))) (fun K n=>?_) ?_
 refine bl 20 ((decide (15≤x))) (fun e=>?_) (fun e=>?_)
 have D:=of_decide_eq_true e
 exact Pl 3<|ce n (decide (x≤17)) (by rw[e];rfl)
 have D:=of_decide_eq_false e
 exact Pl 3<|ce n false (by rw[e];rfl)
 exact Pl 1<|ce l ((decide (15≤x))&&(decide (x≤17))) (by rw[d];rfl)
 refine Pl 1<|cu 7 [25] 32 (((((((decide (1≤x))&&(decide (x≤8)))||(x==11))||(x==12))||((decide (15≤x))&&(decide (x≤17))))||((decide (20≤x))&&(decide (x≤24))))) (fun K o=>?_) ?_
 refine bl 25 ((((((decide (1≤x))&&(decide (x≤8)))||(x==11))||(x==12))||((decide (15≤x))&&(decide (x≤17))))) (fun f=>?_) (fun f=>?_)
 exact Pl 7<|ce o true (by rw[f];rfl)
 have p:=(aI f).1
 have N:=(aI f).2
 have q:=(aI p).1
 have E:=(aI p).2
 have q20aaa:=(aI q).1
 have q20aab:=(aI q).2
 have q20aabp:=ak q20aab
 have q20abp:=ak E
 refine Pl 3<|cu 3 [28] 31 (((decide (20≤x))&&(decide (x≤24)))) (fun K r=>?_) ?_
 refine bl 28 ((decide (20≤x))) (fun g=>?_) (fun g=>?_)
 have F:=of_decide_eq_true g
 exact Pl 3<|ce r (decide (x≤24)) (by rw[g];rfl)
 have F:=of_decide_eq_false g
 exact Pl 3<|ce r false (by rw[g];rfl)
 exact Pl 1<|ce o ((decide (20≤x))&&(decide (x≤24))) (by rw[f];rfl)
 refine Pl 1<|cu 3 [33] 36 ((((((((decide (1≤x))&&(decide (x≤8)))||(x==11))||(x==12))||((decide (15≤x))&&(decide (x≤17))))||((decide (20≤x))&&(decide (x≤24))))||(x==43))) (fun K s=>?_) ?_
 refine bl 33 (((((((decide (1≤x))&&(decide (x≤8)))||(x==11))||(x==12))||((decide (15≤x))&&(decide (x≤17))))||((decide (20≤x))&&(decide (x≤24))))) (fun h=>?_) (fun h=>?_)
 exact Pl 3<|ce s true (by rw[h];rfl)
 have t:=(aI h).1
 have O:=(aI h).2
 have u:=(aI t).1
 have P:=(aI t).2
 have q24aaa:=(aI u).1
 have q24aab:=(aI u).2
 have q24aaaa:=(aI q24aaa).1
 have q24aaab:=(aI q24aaa).2
 have q24aaabp:=ak q24aaab
 have q24aabp:=ak q24aab
 exact Pl 3<|ce s (x==43) (by rw[h];rfl)
 refine Pl 1<|nt<|rt<|rr (.bool (((((((decide (1≤x))&&(decide (x≤8)))||(x==11))||(x==12))||((decide (15≤x))&&(decide (x≤17))))||((decide (20≤x))&&(decide (x≤24))))||(x==43)))<|?_
 have hs:ir x=(((((((decide (1≤x))&&(decide (x≤8)))||(x==11))||(x==12))||((decide (15≤x))&&(decide (x≤17))))||((decide (20≤x))&&(decide (x≤24))))||(x==43)):=by
   unfold ir
   (try simp only[bs,if_true,if_false,decide_true,decide_false])
 rw[hs]
 exact⟨rfl,(aE.refl [] _)⟩
open Go.RowKit
def fb (b:List Int) : aQ × Int :=
  if decide ((b.length:Int)<1) then (aQ.zero,2)
  else if decide (b.getD 0 0-128<0) then (aQ.zero,4)
  else if !(ir ((b.getD 0 0-128)%256)) then (aQ.zero,4)
  else if decide ((b.length:Int)<2) then (aQ.zero,2)
  else if !(cT (b.getD 1 0)) then (aQ.zero,6)
  else if decide (2<(b.length:Int)) then (aQ.zero,3)
  else (fU ((b.getD 0 0-128)%256) (b.getD 1 0),0)
theorem vI{x:Int}:ir x=dO x:=by
  unfold ir dO
  rw[Bool.eq_iff_iff]
  simp only[decide_eq_true_eq,List.mem_cons,List.not_mem_nil,or_false,Bool.or_eq_true,Bool.and_eq_true,beq_iff_eq]
  omega
theorem sr(b:List Int) : fb b=ee b:=by
  unfold fb ee
  rw[vI,show decide ((b.length:Int)<1)=((b.length:Int)==0) from by rw[Bool.eq_iff_iff];simp only[decide_eq_true_eq,beq_iff_eq];omega,show decide (b.getD 0 0-128<0)=decide (b.getD 0 0<128) from by rw[Bool.eq_iff_iff];simp only[decide_eq_true_eq];omega]
  by_cases h:b.length=0
  · rw[show((b.length:Int)==0)=true from by rw[beq_iff_eq];omega];rfl
  · rw[show decide ((b.length:Int)<2)=((b.length:Int)==1) from by rw[Bool.eq_iff_iff];simp only[decide_eq_true_eq,beq_iff_eq];omega]
theorem nf{m:Md}{A:Option Addr}{cp:Nat}{b:List Int}{w:World}(hsl:bo m w (.slice A b.length cp) b)(hb:b.length≤1048576) :
    Calls Tryz.prog 92 #[.slice A b.length cp] w (cK (.slice A b.length cp) b (fb b) w):=by
 have hln:(b.length:Int)≤1048576:=by omega
 refine en 46 Tryz.func92 rfl<|sg<|L0<|bQ mZ fun a2 a3 e f n=>Pl 1<|nt<|sq<|sg<|Pl 3<|nt<|cb ((decide (((b.length:Nat) : Int)<1))) (fun a=>?_) (fun a=>?_)
 have u:=of_decide_eq_true a
 refine sg<|Pl 1<|L0<|be f mZ fun a4 y z=>Pl 1<|nt<|rt<|tr<|bX y (.int .i64 2)<|?_
 have hs:fb b=(aQ.zero,2):=by
   unfold fb
   (try simp only[a,bs,if_true,if_false,decide_true,decide_false,Bool.not_eq_true,reduceIte])
   all_goals rfl
 rw[hs]
 exact bA (ud n z e)
 have u:=of_decide_eq_false a
 refine bp<|sg<|Pl 1<|?_
 have s:=bo.old hsl n
 refine gV (bo.at_ s 0 (by omega)) fun B C D E a5=>L0<|mc b.length 0 D (by omega)<|L0<|eC (p:=⟨B,C+0,none⟩) (v:=.int .u8 (b.getD 0 0)) E<|L0<|Oi (b.getD 0 0)<|L0<|Oi ((b.getD 0 0)-128)<|Pl 1<|nt<|sq<|sg<|Pl 2<|nt<|?_
 refine cb ((decide (((b.getD 0 0)-128)<0))) (fun c=>?_) (fun c=>?_)
 have F:=of_decide_eq_true c
 refine sg<|Pl 1<|L0<|be f mZ fun a6 G H=>Pl 1<|nt<|rt<|tr<|bX G (.int .i64 4)<|?_
 have hs:fb b=(aQ.zero,4):=by
   unfold fb
   (try simp only[a,c,bs,if_true,if_false,decide_true,decide_false,Bool.not_eq_true,reduceIte])
   all_goals rfl
 rw[hs]
 exact bA (ud n H e)
 have F:=of_decide_eq_false c
 refine bp<|sg<|Pl 2<|L0<|Oc<|m1 (sU (x:=(((b.getD 0 0)-128)%256))) fun a7 g=>Pl 1<|nt<|sq<|sg<|Pl 2<|nl<|?_
 refine tn<|?_
 have q:=aG n g
 refine cb ((!(ir (((b.getD 0 0)-128)%256)))) (fun d=>?_) (fun d=>?_)
 have i:(ir (((b.getD 0 0)-128)%256))=false:=by simpa using d
 refine sg<|Pl 1<|?_
 refine L0<|be (ub g f) mZ fun a8 I J=>Pl 1<|nt<|rt<|tr<|bX I (.int .i64 4)<|?_
 have hs:fb b=(aQ.zero,4):=by
   unfold fb
   (try simp only[a,c,d,i,bs,if_true,if_false,decide_true,decide_false,Bool.not_eq_true,reduceIte])
   all_goals rfl
 rw[hs]
 exact bA (ud q J e)
 have i:(ir (((b.getD 0 0)-128)%256))=true:=by simpa using d
 refine bp<|sq<|sg<|Pl 3<|nt<|cb ((decide (((b.length:Nat) : Int)<2))) (fun h=>?_) (fun h=>?_)
 have K:=of_decide_eq_true h
 refine sg<|Pl 1<|?_
 refine L0<|be (ub g f) mZ fun a9 L M=>Pl 1<|nt<|rt<|tr<|bX L (.int .i64 2)<|?_
 have hs:fb b=(aQ.zero,2):=by
   unfold fb
   (try simp only[a,c,d,i,h,bs,if_true,if_false,decide_true,decide_false,Bool.not_eq_true,reduceIte])
   all_goals rfl
 rw[hs]
 exact bA (ud q M e)
 have K:=of_decide_eq_false h
 refine bp<|sg<|Pl 1<|?_
 have t:=bo.old s g
 refine gV (bo.at_ t 1 (by omega)) fun N O P Q aa=>L0<|mc b.length 1 P (by omega)<|L0<|eC (p:=⟨N,O+1,none⟩) (v:=.int .u8 (b.getD 1 0)) Q<|L0<|Oc<|m1 (sS (x:=(b.getD 1 0)) (by omega)) fun ab k=>Pl 1<|nt<|sq<|sg<|Pl 2<|nt<|?_
 have r:=aG q k
 refine cb ((!(cT (b.getD 1 0)))) (fun j=>?_) (fun j=>?_)
 have o:(cT (b.getD 1 0))=false:=by simpa using j
 refine sg<|Pl 1<|?_
 refine L0<|be (ub (aG g k) f) mZ fun ac R S=>Pl 1<|nt<|rt<|tr<|bX R (.int .i64 6)<|?_
 have hs:fb b=(aQ.zero,6):=by
   unfold fb
   (try simp only[a,c,d,i,h,j,o,bs,if_true,if_false,decide_true,decide_false,Bool.not_eq_true,reduceIte])
   all_goals rfl
 rw[hs]
 exact bA (ud r S e)
 have o:(cT (b.getD 1 0))=true:=by simpa using j
 refine bp<|sq<|sg<|Pl 3<|nt<|cb ((decide (2<((b.length:Nat) : Int)))) (fun l=>?_) (fun l=>?_)
 have T:=of_decide_eq_true l
 refine sg<|Pl 1<|?_
 refine L0<|be (ub (aG g k) f) mZ fun ad U V=>Pl 1<|nt<|rt<|tr<|bX U (.int .i64 3)<|?_
 have hs:fb b=(aQ.zero,3):=by
   unfold fb
   (try simp only[a,c,d,i,h,j,o,l,bs,if_true,if_false,decide_true,decide_false,Bool.not_eq_true,reduceIte])
   all_goals rfl
 rw[hs]
 exact bA (ud r V e)
 have T:=of_decide_eq_false l
 refine bp<|sg<|Pl 3<|?_
 refine gV (bo.at_ (bo.old t k) 1 (by omega)) fun W X Y Z ae=>L0<|mc b.length 1 Y (by omega)<|L0<|eC (p:=⟨W,X+1,none⟩) (v:=.int .u8 (b.getD 1 0)) Z<|Pl 1<|?_
 refine L0<|be (ub (aG g k) f) (mG (((b.getD 0 0)-128)%256) (b.getD 1 0) 0 0 0 0 0 0 0 0 0 0 nS nS nS nS 0 0 0 0 0 nS) fun af a0 a1=>Pl 1<|nt<|rt<|bX a0 (.int .i64 0)<|?_
 have hs:fb b=((aQ.mk (((b.getD 0 0)-128)%256) (b.getD 1 0) 0 0 0 0 0 0 0 0 0 0 [] [] [] [] 0 0 0 0 0 []),0):=by
   unfold fb
   (try simp only[a,c,d,i,h,j,o,l,bs,if_true,if_false,decide_true,decide_false,Bool.not_eq_true,reduceIte])
   all_goals rfl
 rw[hs]
 exact⟨_,rfl,⟨_,_,_,_,_,rfl,aS.nil ..,aS.nil ..,(fun _ _ _=>aS.nil ..),aS.nil ..,aS.nil ..,⟨(b8 (x:=(((b.getD 0 0)-128)%256)) (by omega)),(b8 (x:=(b.getD 1 0)) (by omega)),(aD (x:=0) (by omega)),(aD (x:=0) (by omega)),(aD (x:=0) (by omega)),(aD (x:=0) (by omega)),(aD (x:=0) (by omega)),(aD (x:=0) (by omega)),(aD (x:=0) (by omega)),(aD (x:=0) (by omega)),(aD (x:=0) (by omega)),(aD (x:=0) (by omega)),(b8 (x:=0) (by omega)),(b8 (x:=0) (by omega)),(b8 (x:=0) (by omega)),(b8 (x:=0) (by omega)),(b8 (x:=0) (by omega))⟩⟩,(ud r a1 e)⟩
theorem ka{m:Md}{v:Value}{b:List Int}{w:World}(h:bo m w v b)(hb:b.length≤1048576) : Calls Tryz.prog 92 #[v] w (cK v b (ee b) w):=by
  obtain⟨A,cp,rfl,_,_⟩:=h.shape
  rw[← sr]
  exact nf h hb
open Go.RowKit
theorem gE{x y:aQ × Int}(h:x=y){w:World}{e:Ending}{w':World}{v0:Value}{b:List Int}(k:cK v0 b y w e w') : cK v0 b x w e w':=by rw[h];exact k
theorem iP{m:Md}{v:Value}{b:List Int}{w:World}{dir c:Int}(hc:B8 c)(h:bo m w v b)(hb:b.length≤1048576) :
    Calls Tryz.prog 93 #[.int .i64 dir,.int .u8 c,v] w (cK v b (ag aC dir c b) w):=by
  obtain⟨A,cp,rfl,_,_⟩:=h.shape
  by_cases h0:dir=0
  · subst h0;exact kx hc h hb
  by_cases h1:dir=1
  · subst h1;exact kv hc h hb
  exact kn hc h hb (by omega)
theorem js{m:Md}{v:Value}{b:List Int}{w:World}{dir c:Int}(hc:B8 c)(h:bo m w v b)(hb:b.length≤1048576) :
    Calls Tryz.prog 94 #[.int .i64 dir,.int .u8 c,v] w (cK v b (ag aH dir c b) w):=by
  obtain⟨A,cp,rfl,_,_⟩:=h.shape
  by_cases h0:dir=0
  · subst h0;exact ln hc h hb
  by_cases h1:dir=1
  · subst h1;exact lq hc h hb
  exact la hc h hb (by omega)
theorem jJ{m:Md}{v:Value}{b:List Int}{w:World}{dir c:Int}(hc:B8 c)(h:bo m w v b)(hb:b.length≤1048576) :
    Calls Tryz.prog 95 #[.int .i64 dir,.int .u8 c,v] w (cK v b (ag aR dir c b) w):=by
  obtain⟨A,cp,rfl,_,_⟩:=h.shape
  rw[← mN]
  by_cases h0:dir=0
  · subst h0;exact lx hc h hb
  by_cases h1:dir=1
  · subst h1;exact lb hc h hb
  exact lh hc h hb (by omega)
theorem nY{m:Md}{A:Option Addr}{cp:Nat}{b:List Int}{w:World}{dir:Int}(hsl:bo m w (.slice A b.length cp) b)(hb:b.length≤1048576) :
    Calls Tryz.prog 25 #[.int .i64 dir,.slice A b.length cp] w (cK (.slice A b.length cp) b (dn dir b) w):=by
 have hln:(b.length:Int)≤1048576:=by omega
 refine en 87 Tryz.func25 rfl<|sg<|L0<|bQ mZ fun bL bM u d i=>Pl 1<|nt<|sq<|sg<|Pl 3<|cu 3 [11] 14 (((dir != 0)&&(dir != 1))) (fun K W=>?_) ?_
 refine bl 11 ((dir != 0)) (fun F=>?_) (fun F=>?_)
 have aX:=az F
 exact Pl 3<|ce W (dir != 1) (by rw[F];rfl)
 have aX:=aj F
 exact Pl 3<|ce W false (by rw[F];rfl)
 refine nt<|cb (((dir != 0)&&(dir != 1))) (fun f=>?_) (fun f=>?_)
 have X:=(b6 f).1
 have Y:=(b6 f).2
 have bN:=az X
 have bO:=az Y
 refine sg<|Pl 1<|L0<|be d mZ fun bR aZ b0=>Pl 1<|nt<|rt<|tr<|bX aZ (.int .i64 1)<|?_
 have hs:gn dir b=(aQ.zero,1):=by
   unfold gn
   (try simp only[f,X,Y,bs,if_true,if_false,decide_true,decide_false,fj,reduceIte])
   all_goals rfl
 rw[← fp]
 refine gE hs ?_
 exact bA (ud i b0 u)
 refine bp<|sq<|sg<|Pl 3<|nt<|cb ((((b.length:Nat) : Int)==0)) (fun g=>?_) (fun g=>?_)
 have b1:=ae g
 refine sg<|Pl 1<|L0<|be d mZ fun bS b2 b3=>Pl 1<|nt<|rt<|tr<|bX b2 (.int .i64 2)<|?_
 have hs:gn dir b=(aQ.zero,2):=by
   unfold gn
   (try simp only[f,g,bs,if_true,if_false,decide_true,decide_false,fj,reduceIte])
   all_goals rfl
 rw[← fp]
 refine gE hs ?_
 exact bA (ud i b3 u)
 have b1:=ak g
 refine bp<|sq<|sg<|Pl 3<|nt<|cb ((decide (253<((b.length:Nat) : Int)))) (fun j=>?_) (fun j=>?_)
 have b4:=of_decide_eq_true j
 refine sg<|Pl 1<|L0<|be d mZ fun bT b5 b7=>Pl 1<|nt<|rt<|tr<|bX b5 (.int .i64 3)<|?_
 have hs:gn dir b=(aQ.zero,3):=by
   unfold gn
   (try simp only[f,g,j,bs,if_true,if_false,decide_true,decide_false,fj,reduceIte])
   all_goals rfl
 rw[← fp]
 refine gE hs ?_
 exact bA (ud i b7 u)
 have b4:=of_decide_eq_false j
 refine bp<|sg<|Pl 1<|?_
 have G:=bo.old hsl i
 refine gV (bo.at_ G 0 (by omega)) fun b9 ba bb bc bU=>L0<|mc b.length 0 bb (by omega)<|L0<|eC (p:=⟨b9,ba+0,none⟩) (v:=.int .u8 (b.getD 0 0)) bc<|Pl 1<|nt<|sq<|sg<|Pl 3<|cu 3 [29] 32 (((decide (128≤(b.getD 0 0)))&&(dir==1))) (fun K Z=>?_) ?_
 refine bl 29 ((decide (128≤(b.getD 0 0)))) (fun H=>?_) (fun H=>?_)
 have bd:=of_decide_eq_true H
 exact Pl 3<|ce Z (dir==1) (by rw[H];rfl)
 have bd:=of_decide_eq_false H
 exact Pl 3<|ce Z false (by rw[H];rfl)
 refine nt<|cb (((decide (128≤(b.getD 0 0)))&&(dir==1))) (fun x=>?_) (fun x=>?_)
 have a0:=(b6 x).1
 have a1:=(b6 x).2
 have bV:=of_decide_eq_true a0
 have bW:=ae a1
 refine sg<|Pl 1<|L0<|Oc<|e2 (ka G (by omega)) fun bf bY I S=>?_
 refine Pl 2<|?_
 have a2:=ub S d
 refine L0<|be (hz:=(by rw[I.size];exact aN)) (hv:=I.size) (h1:=(dg.one I (bo.old G S))) a2 (bf) fun bZ bg a3=>Pl 1<|nt<|rt<|tr<|eF 22 I.size bg (.int .i64 (((ee b)).2))<|?_
 have hs:gn dir b=(ee b):=by
   unfold gn
   (try simp only[f,g,j,x,a0,a1,bs,if_true,if_false,decide_true,decide_false,fj,reduceIte])
   all_goals rfl
 rw[← fp]
 refine gE hs ?_
 exact⟨_,rfl,(dg.upd I a3 (ax (aY a2 (by decide)) aK)),(ud i (uz S a3) u)⟩
 refine bp<|sg<|Pl 3<|pn (ef (P:=Tryz.prog) 22 5 1 Tryz.underlying22 rfl rfl A b.length cp 1 (by omega)) fun bh hrun54 a4=>L0<|oo (.slice bh (b.length-1) (cp-1)) (er (kl:=.i64) (k:=((1:Nat) : Int)) (A:=A) (n:=b.length) (c:=cp) rfl Tryz.underlying22 (by kernel_rfl) (by kernel_rfl) (hrun54 _ _))<|L0<|Oc<|e2 (iP (dir:=dir) (c:=(b.getD 0 0)) (b8 (by omega)) (a4 _ _ _ _ _ G) (by(try simp only[List.length_drop]);omega)) fun a5 c0 bi e=>?_
 have L:=bo.old G e
 have l:=dg.sub bi (fun m' w' q=>(a4 _ _ _ _ _ q))
 refine Pl 3<|L0<|bQ mZ fun c1 c2 a bj bk=>L0<|be (hz:=(by rw[l.size];exact aN)) (hv:=l.size) (h1:=(dg.one l hsl)) bj (a5) fun c3 a6 bm=>Pl 1<|nt<|sq<|sg<|Pl 2<|nt<|?_
 have M:=ud bk bm a
 have o:=aG e M
 have a7:=aG i o
 refine cb (((((ag aC dir (b.getD 0 0) (b.drop 1))).2)==4)) (fun h=>?_) (fun h=>?_)
 have bn:=ae h
 refine go<|Pl 3<|pn (ef (P:=Tryz.prog) 22 5 1 Tryz.underlying22 rfl rfl A b.length cp 1 (by omega)) fun bq hrun75 a8=>L0<|oo (.slice bq (b.length-1) (cp-1)) (er (kl:=.i64) (k:=((1:Nat) : Int)) (A:=A) (n:=b.length) (c:=cp) rfl Tryz.underlying22 (by kernel_rfl) (by kernel_rfl) (hrun75 _ _))<|?_
 have a9:=bo.old L M
 refine L0<|Oc<|e2 (js (dir:=dir) (c:=(b.getD 0 0)) (b8 (by omega)) (a8 _ _ _ _ _ a9) (by(try simp only[List.length_drop]);omega)) fun aa c4 br N=>?_
 have c5:=bo.old a9 N
 have r:=dg.sub br (fun m' w' q=>(a8 _ _ _ _ _ q))
 refine Pl 3<|?_
 have ab:=ub N a6
 refine L0<|be (hz:=(by rw[r.size];exact aN)) (hv:=(Eq.trans r.size (Eq.symm l.size))) (h1:=(dg.one r hsl)) ab (aa) fun c6 ad T=>Pl 1<|nt<|sq<|sg<|Pl 2<|nt<|?_
 have D:=uz N T
 have af:=ud a7 D (le (le i.size e.size) a)
 refine cb (((((ag aH dir (b.getD 0 0) (b.drop 1))).2)==4)) (fun y=>?_) (fun y=>?_)
 have bt:=ae y
 refine go<|Pl 3<|pn (ef (P:=Tryz.prog) 22 5 1 Tryz.underlying22 rfl rfl A b.length cp 1 (by omega)) fun bu hrun92 ah=>L0<|oo (.slice bu (b.length-1) (cp-1)) (er (kl:=.i64) (k:=((1:Nat) : Int)) (A:=A) (n:=b.length) (c:=cp) rfl Tryz.underlying22 (by kernel_rfl) (by kernel_rfl) (hrun92 _ _))<|?_
 have ai:=ud M D a
 have al:=bo.old L ai
 refine L0<|Oc<|e2 (jJ (dir:=dir) (c:=(b.getD 0 0)) (b8 (by omega)) (ah _ _ _ _ _ al) (by(try simp only[List.length_drop]);omega)) fun am c7 bv O=>?_
 have c8:=bo.old al O
 have s:=dg.sub bv (fun m' w' q=>(ah _ _ _ _ _ q))
 refine Pl 3<|?_
 have an:=ub O ad
 refine L0<|be (hz:=(by rw[s.size];exact aN)) (hv:=(Eq.trans s.size (Eq.symm r.size))) (h1:=(dg.one s hsl)) an (am) fun c9 ao U=>Pl 1<|nt<|sq<|sg<|Pl 2<|nt<|?_
 have E:=uz O U
 have ap:=ud af E (le (le i.size e.size) a)
 refine cb (((((ag aR dir (b.getD 0 0) (b.drop 1))).2)==4)) (fun B=>?_) (fun B=>?_)
 have bw:=ae B
 refine go<|Pl 3<|pn (ef (P:=Tryz.prog) 22 5 1 Tryz.underlying22 rfl rfl A b.length cp 1 (by omega)) fun bx hrun110 aq=>L0<|oo (.slice bx (b.length-1) (cp-1)) (er (kl:=.i64) (k:=((1:Nat) : Int)) (A:=A) (n:=b.length) (c:=cp) rfl Tryz.underlying22 (by kernel_rfl) (by kernel_rfl) (hrun110 _ _))<|?_
 have V:=u1 D E im
 have ar:=ud ai E a
 have au:=bo.old L ar
 refine L0<|Oc<|e2 (iM (dir:=dir) (c:=(b.getD 0 0)) (b8 (by omega)) (aq _ _ _ _ _ au) (by(try simp only[List.length_drop]);omega)) fun aw ca bB Q=>?_
 have cc:=bo.old au Q
 have t:=dg.sub bB (fun m' w' q=>(aq _ _ _ _ _ q))
 refine Pl 3<|?_
 have ay:=ub Q ao
 refine L0<|be (hz:=(by rw[t.size];exact aN)) (hv:=(Eq.trans t.size (Eq.symm s.size))) (h1:=(dg.one t hsl)) ay (aw) fun cd aA aB=>Pl 1<|nt<|sq<|sg<|Pl 2<|nt<|?_
 have C:=uz Q aB
 have aD:=ud ap C (le (le i.size e.size) a)
 refine cb (((((ag aW dir (b.getD 0 0) (b.drop 1))).2)==4)) (fun J=>?_) (fun J=>?_)
 have bC:=ae J
 refine go<|Pl 3<|pn (ef (P:=Tryz.prog) 22 5 1 Tryz.underlying22 rfl rfl A b.length cp 1 (by omega)) fun bD hrun130 aE=>L0<|oo (.slice bD (b.length-1) (cp-1)) (er (kl:=.i64) (k:=((1:Nat) : Int)) (A:=A) (n:=b.length) (c:=cp) rfl Tryz.underlying22 (by kernel_rfl) (by kernel_rfl) (hrun130 _ _))<|?_
 have cg:=u1 U C im
 have ch:=u1 E C im
 have ci:=u1 (u1 T E im) C im
 have aF:=u1 V C im
 have aI:=bo.old L (ud ar C a)
 refine L0<|Oc<|e2 (jZ (dir:=dir) (c:=(b.getD 0 0)) (b8 (by omega)) (aE _ _ _ _ _ aI) (by(try simp only[List.length_drop]);omega)) fun aJ cj bE R=>?_
 have ck:=bo.old aI R
 have z:=dg.sub bE (fun m' w' q=>(aE _ _ _ _ _ q))
 refine Pl 3<|?_
 have aL:=ub R aA
 refine L0<|be (hz:=(by rw[z.size];exact aN)) (hv:=(Eq.trans z.size (Eq.symm t.size))) (h1:=(dg.one z hsl)) aL (aJ) fun cl bF aM=>Pl 1<|ng<|L0<|bP (hz:=(by rw[z.size];exact aN)) bF<|Pl 1<|?_
 have aO:=uz R aM
 refine L0<|be (hz:=(by rw[z.size];exact aN)) (hv:=z.size) (h1:=(dg.one z hsl)) (ub (ud o (u1 aF aO im) (le e.size a)) d) (aJ) fun cm bG aP=>Pl 1<|nt<|rt<|eF 22 z.size bG (.int .i64 (((ag bz dir (b.getD 0 0) (b.drop 1))).2))<|?_
 have hs:gn dir b=(ag bz dir (b.getD 0 0) (b.drop 1)):=by
   unfold gn
   (try simp only[f,g,j,x,h,y,B,J,bs,if_true,if_false,decide_true,decide_false,fj,reduceIte])
   all_goals rfl
 rw[← fp]
 refine gE hs ?_
 exact⟨_,rfl,(dg.upd z (us aM aP) (ax (aY aL (by decide)) (ax (aY (ub (ud o (aG aF R) (le e.size a)) d) (by decide)) aK))),(ut aD (us aO aP) (ac (ni (le i.size e.size) a) (ac (nr u) av)))⟩
 have bC:=ak J
 refine bp<|sg<|L0<|bP (hz:=(by rw[t.size];exact aN)) aA<|Pl 1<|?_
 refine L0<|be (hz:=(by rw[t.size];exact aN)) (hv:=t.size) (h1:=(dg.one t hsl)) (ub (ud o (u1 V C im) (le e.size a)) d) (aw) fun cn bH aS=>Pl 1<|nt<|rt<|eF 22 t.size bH (.int .i64 (((ag aW dir (b.getD 0 0) (b.drop 1))).2))<|?_
 have hs:gn dir b=(ag aW dir (b.getD 0 0) (b.drop 1)):=by
   unfold gn
   (try simp only[f,g,j,x,h,y,B,J,bs,if_true,if_false,decide_true,decide_false,fj,reduceIte])
   all_goals rfl
 rw[← fp]
 refine gE hs ?_
 exact⟨_,rfl,(dg.upd t (us aB aS) (ax (aY ay (by decide)) (ax (aY (ub (ud o (aG V Q) (le e.size a)) d) (by decide)) aK))),(ud aD aS u)⟩
 have bw:=ak B
 refine bp<|sq<|sg<|Pl 2<|nt<|cf B<|bp<|sg<|L0<|bP (hz:=(by rw[s.size];exact aN)) ao<|?_
 refine Pl 1<|?_
 refine L0<|be (hz:=(by rw[s.size];exact aN)) (hv:=s.size) (h1:=(dg.one s hsl)) (ub (ud o (u1 D E im) (le e.size a)) d) (am) fun co bI aT=>Pl 1<|nt<|rt<|eF 22 s.size bI (.int .i64 (((ag aR dir (b.getD 0 0) (b.drop 1))).2))<|?_
 have hs:gn dir b=(ag aR dir (b.getD 0 0) (b.drop 1)):=by
   unfold gn
   (try simp only[f,g,j,x,h,y,B,bs,if_true,if_false,decide_true,decide_false,fj,reduceIte])
   all_goals rfl
 rw[← fp]
 refine gE hs ?_
 exact⟨_,rfl,(dg.upd s (us U aT) (ax (aY an (by decide)) (ax (aY (ub (ud o (aG D O) (le e.size a)) d) (by decide)) aK))),(ud ap aT u)⟩
 have bt:=ak y
 refine bp<|sq<|sg<|Pl 2<|nt<|cf y<|bp<|sq<|sg<|?_
 refine Pl 2<|nt<|cf y<|bp<|sg<|L0<|bP (hz:=(by rw[r.size];exact aN)) ad<|Pl 1<|?_
 refine L0<|be (hz:=(by rw[r.size];exact aN)) (hv:=r.size) (h1:=(dg.one r hsl)) (ub (ud o D (le e.size a)) d) (aa) fun cq bJ aU=>Pl 1<|nt<|rt<|eF 22 r.size bJ (.int .i64 (((ag aH dir (b.getD 0 0) (b.drop 1))).2))<|?_
 have hs:gn dir b=(ag aH dir (b.getD 0 0) (b.drop 1)):=by
   unfold gn
   (try simp only[f,g,j,x,h,y,bs,if_true,if_false,decide_true,decide_false,fj,reduceIte])
   all_goals rfl
 rw[← fp]
 refine gE hs ?_
 exact⟨_,rfl,(dg.upd r (us T aU) (ax (aY ab (by decide)) (ax (aY (ub (aG o N) d) (by decide)) aK))),(ud af aU u)⟩
 have bn:=ak h
 refine bp<|sq<|sg<|Pl 2<|nt<|cf h<|bp<|sq<|sg<|?_
 refine Pl 2<|nt<|cf h<|bp<|sq<|sg<|Pl 2<|nt<|cf h<|sk<|?_
 refine tn<|sg<|L0<|bP (hz:=(by rw[l.size];exact aN)) a6<|Pl 1<|?_
 refine L0<|be (hz:=(by rw[l.size];exact aN)) (hv:=l.size) (h1:=(dg.one l hsl)) (ub o d) (a5) fun cr bK aV=>Pl 1<|nt<|rt<|eF 22 l.size bK (.int .i64 (((ag aC dir (b.getD 0 0) (b.drop 1))).2))<|?_
 have hs:gn dir b=(ag aC dir (b.getD 0 0) (b.drop 1)):=by
   unfold gn
   (try simp only[f,g,j,x,h,bs,if_true,if_false,decide_true,decide_false,fj,reduceIte])
   all_goals rfl
 rw[← fp]
 refine gE hs ?_
 exact⟨_,rfl,(dg.upd l (uz M aV) (ax (aY (ub e d) (by decide)) aK)),(ud a7 aV u)⟩
theorem eR{m:Md}{v:Value}{b:List Int}{w:World}{dir:Int}(h:bo m w v b)(hb:b.length≤1048576) : Calls Tryz.prog 25 #[.int .i64 dir,v] w (cK v b (dn dir b) w):=by
  obtain⟨A,cp,rfl,_,_⟩:=h.shape
  exact nY h hb
open Go.RowKit
theorem og{m m':Md}{A B:Option Addr}{c d:Nat}{xs ys:List Int}{w:World}(h1:bo m w (.slice A xs.length c) xs)(h2:bo m' w (.slice B ys.length d) ys) :
    Calls Tryz.prog 30 #[.slice A xs.length c,.slice B ys.length d] w (dM (.bool (decide (xs=ys))) w):=by
 refine en 10 Tryz.func30 rfl<|sg<|Pl 1<|ng<|Pl 1<|L0<|oo (.string (strOfNums xs)) (eW (A:=A) (n:=xs.length) (c:=c) rfl (by kernel_rfl) Tryz.underlying22 Tryz.underlying5 Tryz.underlying9 h1)<|Pl 1<|L0<|oo (.string (strOfNums ys)) (eW (A:=B) (n:=ys.length) (c:=d) rfl (by kernel_rfl) Tryz.underlying22 Tryz.underlying5 Tryz.underlying9 h2)<|L0<|oo (.bool (decide (xs=ys))) (kY (a:=(strOfNums xs)) (b:=(strOfNums ys)) rfl (by kernel_rfl) (by kernel_rfl) (oD h1 h2))<|Pl 1<|nl<|?_
 refine tn<|rt<|rr (.bool (decide (xs=ys)))<|?_
 exact⟨rfl,(aE.refl [] _)⟩
theorem i7{m m':Md}{a b:Value}{xs ys:List Int}{w:World}(h1:bo m w a xs)(h2:bo m' w b ys) : Calls Tryz.prog 30 #[a,b] w (dM (.bool (decide (xs=ys))) w):=by
  obtain⟨A,c,rfl,_,_⟩:=h1.shape
  obtain⟨B,d,rfl,_,_⟩:=h2.shape
  exact og h1 h2
open Go.RowKit
theorem gK{α:Type}{xs ys:List α}{k:Nat}(h:xs.take k=ys.take k)(h1:k=xs.length)(h2:xs.length=ys.length) : xs=ys:=by
  rw[List.take_of_length_le (by omega),List.take_of_length_le (by omega)] at h
  exact h
theorem lv{m m':Md}{A B:Option Addr}{c d:Nat}{xs ys:List Int}{w:World}(h1:dN m w (.slice A xs.length c) xs)(h2:dN m' w (.slice B ys.length d) ys) :
    Calls Tryz.prog 98 #[.slice A xs.length c,.slice B ys.length d] w (dM (.bool (decide (xs=ys))) w):=by
 have hz1:=aS.len h1
 have hz2:=aS.len h2
 refine en 26 Tryz.func98 rfl<|sg<|Pl 1<|nt<|sq<|sg<|Pl 5<|nt<|cb ((((xs.length:Nat) : Int)!=((ys.length:Nat) : Int))) (fun g=>?_) (fun g=>?_)
 have j:=az g
 refine sg<|Pl 1<|nt<|rt<|tr<|rr (.bool false)<|?_
 have hs:decide (xs=ys)=false:=decide_eq_false (fun e=>by rw[e] at j;omega)
 rw[hs]
 exact⟨rfl,(aE.refl [] _)⟩
 have j:=aj g
 refine bp<|sq<|sg<|Pl 1<|nt<|bk<|?_
 refine jf (fun x=>[(0,.slice A xs.length c),(1,.slice B ys.length d),(5,.int .i64 ((x:Nat) : Int))]) (fun(x:Nat) w'=>aE [] w w'∧(xs.take x=ys.take x)∧(x≤xs.length)) (fun x=>xs.length-x) 0 ⟨aE.refl _ _,(by(try dsimp only);simp),(by(try dsimp only);omega)⟩ ?_
 rintro k E ⟨b,p,q⟩
 refine jj [(0,.slice A xs.length c),(1,.slice B ys.length d),(5,.int .i64 ((k:Nat) : Int))] ?_
 have l:xs.take k=ys.take k:=p
 have F:k≤xs.length:=q
 refine sq<|sg<|Pl 4<|nt<|cb ((decide (((k:Nat) : Int)<((xs.length:Nat) : Int)))) (fun h=>?_) (fun h=>?_)
 have r:=of_decide_eq_true h
 refine bp<|sq<|bk<|sq<|?_
 refine gV (dN.at_ (dN.old h1 b) k (by omega)) fun s t u v G=>?_
 refine gV (dN.at_ (dN.old h2 b) k (by omega)) fun y z C D H=>Rg 9 (fun w'=>w'.cell? ⟨s,t+k,none⟩=some (.int .u16 (xs.getD k 0))∧w'.cell? ⟨y,z+k,none⟩=some (.int .u16 (ys.getD k 0))) fun I i=>bi ⟨(uc i v),(uc i D)⟩ fun a=>Rt 0 a<|Rt 1 a<|oL 2 a xs.length k ((k:Nat) : Int) rfl u (by omega)<|Rl 3 a (fun _ hs=>hs.1)<|Rt 4 a<|Rt 5 a<|oL 6 a ys.length k ((k:Nat) : Int) rfl C (by omega)<|Rl 7 a (fun _ hs=>hs.2)<|Rt 8 a<|re<|tn<|?_
 have n:=aG b i
 refine cb (((xs.getD k 0)!=(ys.getD k 0))) (fun f=>?_) (fun f=>?_)
 have o:=az f
 refine sg<|Pl 1<|nt<|rt<|br<|tr<|tr<|br<|tr<|rr (.bool false)<|?_
 have hs:decide (xs=ys)=false:=decide_eq_false (qY (d:=0) k (by simpa using f))
 rw[hs]
 exact⟨rfl,n⟩
 have o:=aj f
 exact sk<|bn<|tn<|go<|Pl 1<|L0<|Oi (((k:Nat) : Int)+1)<|Pl 1<|nl<|gM (k+1) ⟨n,(lZ (d:=0) (by omega) (by omega) l o),(by(try dsimp only);omega)⟩ (by omega)
 have r:=of_decide_eq_false h
 refine xt<|tx<|tx<|bx<|tn<|sg<|Pl 1<|nt<|rt<|rr (.bool true)<|?_
 have hs:decide (xs=ys)=true:=decide_eq_true (gK l (by omega) (by omega))
 rw[hs]
 exact⟨rfl,b⟩
theorem iC{m m':Md}{a b:Value}{xs ys:List Int}{w:World}(h1:dN m w a xs)(h2:dN m' w b ys) : Calls Tryz.prog 98 #[a,b] w (dM (.bool (decide (xs=ys))) w):=by
  obtain⟨A,c,rfl,_,_⟩:=h1.shape
  obtain⟨B,d,rfl,_,_⟩:=h2.shape
  exact lv h1 h2
theorem lB{m m':Md}{A B:Option Addr}{c d:Nat}{xs ys:List Bool}{w:World}(h1:gQ m w (.slice A xs.length c) xs)(h2:gQ m' w (.slice B ys.length d) ys) :
    Calls Tryz.prog 99 #[.slice A xs.length c,.slice B ys.length d] w (dM (.bool (decide (xs=ys))) w):=by
 have hz1:=aS.len h1
 have hz2:=aS.len h2
 refine en 26 Tryz.func99 rfl<|sg<|Pl 1<|nt<|sq<|sg<|Pl 5<|nt<|cb ((((xs.length:Nat) : Int)!=((ys.length:Nat) : Int))) (fun f=>?_) (fun f=>?_)
 have j:=az f
 refine sg<|Pl 1<|nt<|rt<|tr<|rr (.bool false)<|?_
 have hs:decide (xs=ys)=false:=decide_eq_false (fun e=>by rw[e] at j;omega)
 rw[hs]
 exact⟨rfl,(aE.refl [] _)⟩
 have j:=aj f
 refine bp<|sq<|sg<|Pl 1<|nt<|bk<|?_
 refine jf (fun x=>[(0,.slice A xs.length c),(1,.slice B ys.length d),(5,.int .i64 ((x:Nat) : Int))]) (fun(x:Nat) w'=>aE [] w w'∧(xs.take x=ys.take x)∧(x≤xs.length)) (fun x=>xs.length-x) 0 ⟨aE.refl _ _,(by(try dsimp only);simp),(by(try dsimp only);omega)⟩ ?_
 rintro k D ⟨b,o,p⟩
 refine jj [(0,.slice A xs.length c),(1,.slice B ys.length d),(5,.int .i64 ((k:Nat) : Int))] ?_
 have l:xs.take k=ys.take k:=o
 have E:k≤xs.length:=p
 refine sq<|sg<|Pl 4<|nt<|cb ((decide (((k:Nat) : Int)<((xs.length:Nat) : Int)))) (fun g=>?_) (fun g=>?_)
 have q:=of_decide_eq_true g
 refine bp<|sq<|bk<|sq<|?_
 refine xh (gQ.at_ (gQ.old h1 b) k (by omega)) fun r s t u=>?_
 refine xh (gQ.at_ (gQ.old h2 b) k (by omega)) fun v y z C=>Rg 9 (fun w'=>w'.cell? ⟨r,s+k,none⟩=some (.bool (xs.getD k false))∧w'.cell? ⟨v,y+k,none⟩=some (.bool (ys.getD k false))) fun F h=>bi ⟨(uc h u),(uc h C)⟩ fun a=>Rt 0 a<|Rt 1 a<|oL 2 a xs.length k ((k:Nat) : Int) rfl t (by omega)<|Rl 3 a (fun _ hs=>hs.1)<|Rt 4 a<|Rt 5 a<|oL 6 a ys.length k ((k:Nat) : Int) rfl z (by omega)<|Rl 7 a (fun _ hs=>hs.2)<|Rt 8 a<|re<|tn<|?_
 have n:=aG b h
 refine cb (((xs.getD k false)!=(ys.getD k false))) (fun i=>?_) (fun i=>?_)
 refine sg<|Pl 1<|nt<|rt<|br<|tr<|tr<|br<|tr<|rr (.bool false)<|?_
 have hs:decide (xs=ys)=false:=decide_eq_false (qY (d:=false) k (by simpa using i))
 rw[hs]
 exact⟨rfl,n⟩
 exact sk<|bn<|tn<|go<|Pl 1<|L0<|Oi (((k:Nat) : Int)+1)<|Pl 1<|nl<|gM (k+1) ⟨n,(lZ (d:=false) (by omega) (by omega) l (by simpa using i)),(by(try dsimp only);omega)⟩ (by omega)
 have q:=of_decide_eq_false g
 refine xt<|tx<|tx<|bx<|tn<|sg<|Pl 1<|nt<|rt<|rr (.bool true)<|?_
 have hs:decide (xs=ys)=true:=decide_eq_true (gK l (by omega) (by omega))
 rw[hs]
 exact⟨rfl,b⟩
theorem mH{m m':Md}{a b:Value}{xs ys:List Bool}{w:World}(h1:gQ m w a xs)(h2:gQ m' w b ys) : Calls Tryz.prog 99 #[a,b] w (dM (.bool (decide (xs=ys))) w):=by
  obtain⟨A,c,rfl,_,_⟩:=h1.shape
  obtain⟨B,d,rfl,_,_⟩:=h2.shape
  exact lB h1 h2
end Go.Proofs.YtogbnemojakcpaaGreat
