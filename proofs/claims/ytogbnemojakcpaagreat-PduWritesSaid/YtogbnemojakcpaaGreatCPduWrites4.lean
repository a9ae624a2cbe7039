/- Contracts of functions, part CPduWrites4. -/
import Derived.Test.YtogbnemojakcpaaGreatCPduWrites1
import Derived.Test.YtogbnemojakcpaaGreatCPduWrites2
import Derived.Test.YtogbnemojakcpaaGreatCPduWrites3
import Derived.OpenShut
import Derived.Below
set_option linter.unusedVariables false
set_option linter.unusedSimpArgs false
set_option maxRecDepth 100000
set_option maxHeartbeats 4000000
namespace Go.Proofs.YtogbnemojakcpaaGreat
open Go.RowKit
def bM (dir:Int)(M:aQ) : List Int :=
  if M.code==8 then aF [M.sub]++aF M.words
  else if dir==0 then []
  else if M.code==7 then [M.value%256]
  else if M.code==11 then aF [M.status,M.events]
  else if M.code==12 then (([(6+(M.data.length:Int))%256]++aF [M.status,M.events,M.messages])++M.data)
  else [(M.data.length:Int)%256]++M.data
theorem p5{m:Md}{cs:Array Value}{M:aQ}{w:World}{dir:Int}(h:aO m w cs.toList M)(hf:bU M)(hd0:(dir==0)=true) : Calls Tryz.prog 208 #[.int .i64 dir,.agg cs] w (fy (bM dir M) w):=by
 obtain⟨vw,vb,vd,vr,vo,h0,hw,hbt,hd,hr,ho,hR⟩:=h
 obtain rfl:cs=(bu M vw vb vd vr vo).toArray:=by apply Array.toList_inj.1;simpa using h0
 clear h0
 obtain⟨Aw,kw,rfl,_,_⟩:=hw.shape
 obtain⟨Ab,kb,rfl,_,_⟩:=hbt.shape
 obtain⟨Ad,kd,rfl,_,_⟩:=hd.shape
 obtain⟨Ar,kr,rfl,_,_⟩:=hr.shape
 obtain⟨Ao,ko,rfl,_,_⟩:=ho.shape
 obtain⟨q0,q1,q2,q3,q4,q5,q6,q7,q8,q9,u,v,y,z,A,B,C⟩:=hR
 simp only[B8,dF] at q0 q1 q2 q3 q4 q5 q6 q7 q8 q9 u v y z A B C
 have hf1:=hf.words
 have hf2:=hf.bits
 have hf3:=hf.data
 have hf4:=hf.recs
 have hf5:=hf.objects
 refine en 70 Tryz.func208 rfl<|sg<|L0<|dC (mG M.code M.fail M.addr M.count M.value M.and_ M.or_ M.addr2 M.sub M.status M.events M.messages (.slice Aw M.words.length kw) (.slice Ab M.bits.length kb) (.slice Ad M.data.length kd) (.slice Ar M.recs.length kr) M.mei M.kind M.level M.more M.next (.slice Ao M.objects.length ko)) fun q O P i d=>Pl 1<|nt<|sq<|bk<|sg<|Pl 1<|L0<|aP i 0<|Pl 2<|nl<|?_
 refine tn<|cb ((M.code==8)) (fun a=>?_) (fun a=>?_)
 have D:=ae a
 refine sq<|Rg 9 (fun w'=>w'.cell? ⟨q,8,none⟩=some (.int .u16 M.sub)∧w'.cell? ⟨q,12,none⟩=some (.slice Aw M.words.length kw)) fun Q b=>?_
 have j:=ub b i
 refine bi ⟨(ah j rfl),(ah j rfl)⟩ fun f=>Rt 0 f<|Rl 1 f (fun _ hs=>hs.1)<|Rt 4 f<|Rl 5 f (fun _ hs=>hs.2)<|R0 2 rfl<|cO (m:=1) (e:=24) #[.int .u16 M.sub] fun R S E F c=>?_
 have G:=dh E (xs:=[M.sub]) (by as_aux_lemma=>kernel_rfl) (al (by omega) aJ) (by(try simp only[List.length_cons,List.length_nil]);omega) F
 have k:=ub c j
 refine bi ⟨(ah k rfl),(ah k rfl)⟩ fun T=>R0 3 rfl<|Oc<|dk (bE (xs:=[M.sub]) (G).rd (by(try simp only[List.length_cons,List.length_nil]);omega)) fun H U V l W X n=>?_
 have o:=ub n k
 refine bi ⟨(ah o rfl),(ah o rfl)⟩ fun Y=>?_
 have r:=aG d (aG b (aG c n))
 refine R0 6 rfl<|Oc<|dk (bE (xs:=M.words) (dN.old hw r) (by(try simp only[List.length_cons,List.length_nil]);omega)) fun Z a0 a1 I a2 a3 g=>?_
 have p:=ub g o
 refine bi ⟨(ah p rfl),(ah p rfl)⟩ fun a4=>?_
 refine R0 7 rfl<|bG aX (xs:=(aF ([M.sub]))) (ys:=(aF M.words)) (.int .u8 0) 1 (aq l g (fun x hx=>aA) (fun _ _ h=>h)) (I).rd (by(try simp only[List.length_append,List.length_cons,List.length_nil,ay]);omega) (le n.size g.size) fun J K a5 L s=>?_
 have t:=aE.blk s (bf (aB (au i) (le b.size c.size) l) aA) p
 refine bi ⟨(ah t rfl),(ah t rfl)⟩ fun N=>Rt 8 N<|re<|tn<|rt<|br<|tr<|rr (.slice J (((aF ([M.sub]))++(aF M.words)).length) K)<|?_
 have hs:bM dir M=((aF ([M.sub]))++(aF M.words)):=by
   unfold bM
   (try simp only[hd0,a,bs,if_true,if_false,decide_true,decide_false,reduceIte])
   all_goals rfl
 rw[hs]
 exact⟨_,rfl,(aV.weaken L (le (le d.size b.size) c.size)),(ut r (ut (aE.mono (S':=(ob H++[])) g av) s (am il av)) (am (aM l (le (le d.size b.size) c.size)) av))⟩
 have D:=ak a
 refine sg<|Pl 3<|nt<|ct hd0<|sg<|Pl 1<|nt<|rt<|br<|tr<|?_
 refine rr (.slice none 0 0)<|?_
 have hs:bM dir M=[]:=by
   unfold bM
   (try simp only[hd0,a,bs,if_true,if_false,decide_true,decide_false,reduceIte])
   all_goals rfl
 rw[hs]
 exact⟨_,rfl,(aV.nil ..),d⟩
theorem oe{m:Md}{cs:Array Value}{M:aQ}{w:World}{dir:Int}(h:aO m w cs.toList M)(hf:bU M)(hd0:(dir==0)=false) : Calls Tryz.prog 208 #[.int .i64 dir,.agg cs] w (fy (bM dir M) w):=by
 obtain⟨vw,vb,vd,vr,vo,h0,hw,hbt,hd,hr,ho,hR⟩:=h
 obtain rfl:cs=(bu M vw vb vd vr vo).toArray:=by apply Array.toList_inj.1;simpa using h0
 clear h0
 obtain⟨Aw,kw,rfl,_,_⟩:=hw.shape
 obtain⟨Ab,kb,rfl,_,_⟩:=hbt.shape
 obtain⟨Ad,kd,rfl,_,_⟩:=hd.shape
 obtain⟨Ar,kr,rfl,_,_⟩:=hr.shape
 obtain⟨Ao,ko,rfl,_,_⟩:=ho.shape
 obtain⟨q0,q1,q2,q3,q4,q5,q6,q7,q8,q9,aj,an,ao,ap,ar,aw,ax⟩:=hR
 simp only[B8,dF] at q0 q1 q2 q3 q4 q5 q6 q7 q8 q9 aj an ao ap ar aw ax
 have hf1:=hf.words
 have hf2:=hf.bits
 have hf3:=hf.data
 have hf4:=hf.recs
 have hf5:=hf.objects
 refine en 70 Tryz.func208 rfl<|sg<|L0<|dC (mG M.code M.fail M.addr M.count M.value M.and_ M.or_ M.addr2 M.sub M.status M.events M.messages (.slice Aw M.words.length kw) (.slice Ab M.bits.length kb) (.slice Ad M.data.length kd) (.slice Ar M.recs.length kr) M.mei M.kind M.level M.more M.next (.slice Ao M.objects.length ko)) fun l bY bZ b a=>Pl 1<|nt<|sq<|bk<|sg<|Pl 1<|L0<|aP b 0<|Pl 2<|nl<|?_
 refine tn<|cb ((M.code==8)) (fun f=>?_) (fun f=>?_)
 have az:=ae f
 refine sq<|Rg 9 (fun w'=>w'.cell? ⟨l,8,none⟩=some (.int .u16 M.sub)∧w'.cell? ⟨l,12,none⟩=some (.slice Aw M.words.length kw)) fun c0 p=>?_
 have J:=ub p b
 refine bi ⟨(ah J rfl),(ah J rfl)⟩ fun E=>Rt 0 E<|Rl 1 E (fun _ hs=>hs.1)<|Rt 4 E<|Rl 5 E (fun _ hs=>hs.2)<|R0 2 rfl<|cO (m:=1) (e:=24) #[.int .u16 M.sub] fun c1 c2 aC aD q=>?_
 have aH:=dh aC (xs:=[M.sub]) (by as_aux_lemma=>kernel_rfl) (al (by omega) aJ) (by(try simp only[List.length_cons,List.length_nil]);omega) aD
 have K:=ub q J
 refine bi ⟨(ah K rfl),(ah K rfl)⟩ fun c3=>R0 3 rfl<|Oc<|dk (bE (xs:=[M.sub]) (aH).rd (by(try simp only[List.length_cons,List.length_nil]);omega)) fun aI c4 c5 L c6 c7 N=>?_
 have O:=ub N K
 refine bi ⟨(ah O rfl),(ah O rfl)⟩ fun c8=>?_
 have X:=aG a (aG p (aG q N))
 refine R0 6 rfl<|Oc<|dk (bE (xs:=M.words) (dN.old hw X) (by(try simp only[List.length_cons,List.length_nil]);omega)) fun c9 ca cc aK cd ce F=>?_
 have P:=ub F O
 refine bi ⟨(ah P rfl),(ah P rfl)⟩ fun cg=>?_
 refine R0 7 rfl<|bG aX (xs:=(aF ([M.sub]))) (ys:=(aF M.words)) (.int .u8 0) 1 (aq L F (fun x hx=>aA) (fun _ _ h=>h)) (aK).rd (by(try simp only[List.length_append,List.length_cons,List.length_nil,ay]);omega) (le N.size F.size) fun aL aN ch aR Y=>?_
 have Z:=aE.blk Y (bf (aB (au b) (le p.size q.size) L) aA) P
 refine bi ⟨(ah Z rfl),(ah Z rfl)⟩ fun aS=>Rt 8 aS<|re<|tn<|rt<|br<|tr<|rr (.slice aL (((aF ([M.sub]))++(aF M.words)).length) aN)<|?_
 have hs:bM dir M=((aF ([M.sub]))++(aF M.words)):=by
   unfold bM
   (try simp only[hd0,f,bs,if_true,if_false,decide_true,decide_false,reduceIte])
   all_goals rfl
 rw[hs]
 exact⟨_,rfl,(aV.weaken aR (le (le a.size p.size) q.size)),(ut X (ut (aE.mono (S':=(ob aI++[])) F av) Y (am il av)) (am (aM L (le (le a.size p.size) q.size)) av))⟩
 have az:=ak f
 refine sg<|Pl 3<|nt<|cf hd0<|sg<|Pl 1<|L0<|aP b 0<|Pl 2<|nt<|cb ((M.code==7)) (fun g=>?_) (fun g=>?_)
 have aT:=ae g
 refine sg<|Pl 1<|L0<|aP b 4<|Pl 1<|L0<|cO (m:=1) (e:=5) #[.int .u8 (M.value%256)] fun aU ci aW aY aZ=>?_
 have b0:=cN aW (xs:=[(M.value%256)]) (by as_aux_lemma=>kernel_rfl) (al (by omega) aJ) (by(try simp only[List.length_cons,List.length_nil]);omega) aY
 refine Pl 1<|nt<|rt<|br<|tr<|rr (.slice (some ⟨aU,0,none⟩) 1 1)<|?_
 have hs:bM dir M=[(M.value%256)]:=by
   unfold bM
   (try simp only[hd0,f,g,bs,if_true,if_false,decide_true,decide_false,reduceIte])
   all_goals rfl
 rw[hs]
 exact⟨_,rfl,(aV.weaken b0 a.size),(aG a aZ)⟩
 have aT:=ak g
 refine sg<|Pl 1<|L0<|aP b 0<|Pl 2<|nt<|cb ((M.code==11)) (fun j=>?_) (fun j=>?_)
 have b1:=ae j
 refine sg<|Pl 1<|L0<|aP b 9<|Pl 1<|L0<|aP b 10<|L0<|cO (m:=2) (e:=24) #[.int .u16 M.status,.int .u16 M.events] fun cj ck b2 b3 a0=>?_
 have b4:=dh b2 (xs:=[M.status,M.events]) (by as_aux_lemma=>kernel_rfl) (al (by omega) (al (by omega) aJ)) (by(try simp only[List.length_cons,List.length_nil]);omega) b3
 refine L0<|Oc<|dk (bE (xs:=[M.status,M.events]) (b4).rd (by(try simp only[List.length_cons,List.length_nil]);omega)) fun b5 b6 cl b7 cm cn b8=>Pl 1<|nt<|rt<|br<|tr<|rr (.slice b5 ((aF ([M.status,M.events])).length) b6)<|?_
 have hs:bM dir M=(aF ([M.status,M.events])):=by
   unfold bM
   (try simp only[hd0,f,g,j,bs,if_true,if_false,decide_true,decide_false,reduceIte])
   all_goals rfl
 rw[hs]
 exact⟨_,rfl,(aV.weaken b7 (le a.size a0.size)),(aG a (aG a0 b8))⟩
 have b1:=ak j
 refine sg<|Pl 1<|L0<|aP b 0<|Pl 2<|nt<|cb ((M.code==12)) (fun k=>?_) (fun k=>?_)
 have b9:=ae k
 refine sq<|Rg 16 (fun w'=>w'.cell? ⟨l,14,none⟩=some (.slice Ad M.data.length kd)∧w'.cell? ⟨l,9,none⟩=some (.int .u16 M.status)∧w'.cell? ⟨l,10,none⟩=some (.int .u16 M.events)∧w'.cell? ⟨l,11,none⟩=some (.int .u16 M.messages)) fun co c=>?_
 have n:=ub c b
 refine bi ⟨(ah n rfl),(ah n rfl),(ah n rfl),(ah n rfl)⟩ fun d=>Rt 0 d<|Rl 1 d (fun _ hs=>hs.1)<|Rt 2 d<|Rr 3 d (.int .i64 (6+((M.data.length:Nat) : Int))) (fun _ _=>cP (.int .i64 (IntKind.i64.wrap (6+((M.data.length:Nat) : Int)))) (by kernel_rfl) (congrArg (Value.int .i64) (IntWalk.i64_in _ (by omega))))<|Rt 4 d<|Rt 6 d<|Rl 7 d (fun _ hs=>hs.2.1)<|Rt 8 d<|Rl 9 d (fun _ hs=>hs.2.2.1)<|Rt 10 d<|Rl 11 d (fun _ hs=>hs.2.2.2)<|?_
 refine R2 5 12 rfl rfl ?_ ?_
 refine  cO (m:=1) (e:=5) #[.int .u8 ((6+((M.data.length:Nat) : Int))%256)] fun ba cp bb bc Q=>?_
 have R:=cN bb (xs:=[((6+((M.data.length:Nat) : Int))%256)]) (by as_aux_lemma=>kernel_rfl) (al (by omega) aJ) (by(try simp only[List.length_cons,List.length_nil]);omega) bc
 have r:=ub Q n
 refine bi ⟨(ah r rfl),(ah r rfl),(ah r rfl),(ah r rfl)⟩ fun cq=>R0 12 rfl<|cO (m:=3) (e:=24) #[.int .u16 M.status,.int .u16 M.events,.int .u16 M.messages] fun cr ct bd be S=>?_
 have bg:=dh bd (xs:=[M.status,M.events,M.messages]) (by as_aux_lemma=>kernel_rfl) (al (by omega) (al (by omega) (al (by omega) aJ))) (by(try simp only[List.length_cons,List.length_nil]);omega) be
 have s:=ub S r
 refine bi ⟨(ah s rfl),(ah s rfl),(ah s rfl),(ah s rfl)⟩ fun cu=>R0 13 rfl<|Oc<|dk (bE (xs:=[M.status,M.events,M.messages]) (bg).rd (by(try simp only[List.length_cons,List.length_nil]);omega)) fun cv cw cx bh cy cz T=>?_
 have t:=ub T s
 refine bi ⟨(ah t rfl),(ah t rfl),(ah t rfl),(ah t rfl)⟩ fun cA=>?_
 have a1:=aG S T
 refine R0 14 rfl<|bG aX (xs:=([((6+((M.data.length:Nat) : Int))%256)])) (ys:=(aF ([M.status,M.events,M.messages]))) (.int .u8 0) 1 (aq R a1 (fun x hx=>aA) (fun _ _ h=>h)) (bh).rd (by(try simp only[List.length_append,List.length_cons,List.length_nil,ay]);omega) (le (le Q.size S.size) T.size) fun cB cC cD a2 a3=>?_
 have u:=aE.blk a3 (bf (aB (au b) c.size R) aA) t
 refine bi ⟨(ah u rfl),(ah u rfl),(ah u rfl),(ah u rfl)⟩ fun bj=>Rt 15 bj<|re<|tn<|sg<|Pl 2<|L0<|aP u 14<|?_
 have a4:=ut Q (ut (aE.mono (S':=(ob (some ⟨ba,0,none⟩)++[])) a1 av) a3 (am il av)) (am (aM R lr) av)
 have a5:=aG a (aG c a4)
 refine L0<|bG aX (xs:=([((6+((M.data.length:Nat) : Int))%256)]++(aF ([M.status,M.events,M.messages])))) (ys:=M.data) (.int .u8 0) 1 a2 (bo.old hd a5) (by(try simp only[List.length_append,List.length_cons,List.length_nil,ay]);omega) a4.size fun bl bm cE bp bq=>Pl 1<|nt<|rt<|br<|tr<|rr (.slice bl ((([((6+((M.data.length:Nat) : Int))%256)]++(aF ([M.status,M.events,M.messages])))++M.data).length) bm)<|?_
 have hs:bM dir M=(([((6+((M.data.length:Nat) : Int))%256)]++(aF ([M.status,M.events,M.messages])))++M.data):=by
   unfold bM
   (try simp only[hd0,f,g,j,k,bs,if_true,if_false,decide_true,decide_false,reduceIte])
   all_goals rfl
 rw[hs]
 exact⟨_,rfl,(aV.weaken bp (le a.size c.size)),(ut a5 bq (am (aM a2 (le a.size c.size)) av))⟩
 refine  cO (m:=3) (e:=24) #[.int .u16 M.status,.int .u16 M.events,.int .u16 M.messages] fun cF cG bt bv i=>?_
 have a6:=dh bt (xs:=[M.status,M.events,M.messages]) (by as_aux_lemma=>kernel_rfl) (al (by omega) (al (by omega) (al (by omega) aJ))) (by(try simp only[List.length_cons,List.length_nil]);omega) bv
 have o:=ub i n
 refine bi ⟨(ah o rfl),(ah o rfl),(ah o rfl),(ah o rfl)⟩ fun cH=>?_
 refine R2 5 13 rfl rfl ?_ ?_
 refine  cO (m:=1) (e:=5) #[.int .u8 ((6+((M.data.length:Nat) : Int))%256)] fun bw cI bx bz G=>?_
 have U:=cN bx (xs:=[((6+((M.data.length:Nat) : Int))%256)]) (by as_aux_lemma=>kernel_rfl) (al (by omega) aJ) (by(try simp only[List.length_cons,List.length_nil]);omega) bz
 have v:=ub G o
 refine bi ⟨(ah v rfl),(ah v rfl),(ah v rfl),(ah v rfl)⟩ fun cJ=>?_
 refine R0 13 rfl<|Oc<|dk (bE (xs:=[M.status,M.events,M.messages]) ((aq a6 G (fun x hx=>aA) (fun _ _ h=>h))).rd (by(try simp only[List.length_cons,List.length_nil]);omega)) fun cK cL cM bA cQ cR H=>?_
 have y:=ub H v
 refine bi ⟨(ah y rfl),(ah y rfl),(ah y rfl),(ah y rfl)⟩ fun cS=>?_
 refine R0 14 rfl<|bG aX (xs:=([((6+((M.data.length:Nat) : Int))%256)])) (ys:=(aF ([M.status,M.events,M.messages]))) (.int .u8 0) 1 (aq U H (fun x hx=>aA) (fun _ _ h=>h)) (bA).rd (by(try simp only[List.length_append,List.length_cons,List.length_nil,ay]);omega) (le G.size H.size) fun cT cU cV a7 a8=>?_
 have z:=aE.blk a8 (bf (aB (au b) (le c.size i.size) U) aA) y
 refine bi ⟨(ah z rfl),(ah z rfl),(ah z rfl),(ah z rfl)⟩ fun bB=>Rt 15 bB<|re<|tn<|sg<|Pl 2<|L0<|aP z 14<|?_
 have a9:=ut G (ut (aE.mono (S':=(ob (some ⟨bw,0,none⟩)++[])) H av) a8 (am il av)) (am (aM U lr) av)
 have aa:=aG a (aG c (aG i a9))
 refine L0<|bG aX (xs:=([((6+((M.data.length:Nat) : Int))%256)]++(aF ([M.status,M.events,M.messages])))) (ys:=M.data) (.int .u8 0) 1 a7 (bo.old hd aa) (by(try simp only[List.length_append,List.length_cons,List.length_nil,ay]);omega) a9.size fun bC bD cW bF bH=>Pl 1<|nt<|rt<|br<|tr<|rr (.slice bC ((([((6+((M.data.length:Nat) : Int))%256)]++(aF ([M.status,M.events,M.messages])))++M.data).length) bD)<|?_
 have hs:bM dir M=(([((6+((M.data.length:Nat) : Int))%256)]++(aF ([M.status,M.events,M.messages])))++M.data):=by
   unfold bM
   (try simp only[hd0,f,g,j,k,bs,if_true,if_false,decide_true,decide_false,reduceIte])
   all_goals rfl
 rw[hs]
 exact⟨_,rfl,(aV.weaken bF (le (le a.size c.size) i.size)),(ut aa bH (am (aM a7 (le (le a.size c.size) i.size)) av))⟩
 refine  Oc<|dk (bE (xs:=[M.status,M.events,M.messages]) (a6).rd (by(try simp only[List.length_cons,List.length_nil]);omega)) fun cX cY cZ bI d0 d1 A=>?_
 have B:=ub A o
 refine bi ⟨(ah B rfl),(ah B rfl),(ah B rfl),(ah B rfl)⟩ fun d2=>R0 5 rfl<|cO (m:=1) (e:=5) #[.int .u8 ((6+((M.data.length:Nat) : Int))%256)] fun d3 d4 bJ bK I=>?_
 have V:=cN bJ (xs:=[((6+((M.data.length:Nat) : Int))%256)]) (by as_aux_lemma=>kernel_rfl) (al (by omega) aJ) (by(try simp only[List.length_cons,List.length_nil]);omega) bK
 have C:=ub I B
 refine bi ⟨(ah C rfl),(ah C rfl),(ah C rfl),(ah C rfl)⟩ fun d5=>?_
 refine R0 14 rfl<|bG aX (xs:=([((6+((M.data.length:Nat) : Int))%256)])) (ys:=(aF ([M.status,M.events,M.messages]))) (.int .u8 0) 1 V ((aq bI I (fun x hx=>aA) (fun _ _ h=>h))).rd (by(try simp only[List.length_append,List.length_cons,List.length_nil,ay]);omega) I.size fun d6 d7 d8 ab ac=>?_
 have D:=aE.blk ac (bf (aB (au b) (le (le c.size i.size) A.size) V) aA) C
 refine bi ⟨(ah D rfl),(ah D rfl),(ah D rfl),(ah D rfl)⟩ fun bL=>Rt 15 bL<|re<|tn<|sg<|Pl 2<|L0<|aP D 14<|?_
 have ad:=ut I ac (am (aM V lr) av)
 have af:=aG a (aG c (aG i (aG A ad)))
 refine L0<|bG aX (xs:=([((6+((M.data.length:Nat) : Int))%256)]++(aF ([M.status,M.events,M.messages])))) (ys:=M.data) (.int .u8 0) 1 ab (bo.old hd af) (by(try simp only[List.length_append,List.length_cons,List.length_nil,ay]);omega) ad.size fun bN bO d9 bP bQ=>Pl 1<|nt<|rt<|br<|tr<|rr (.slice bN ((([((6+((M.data.length:Nat) : Int))%256)]++(aF ([M.status,M.events,M.messages])))++M.data).length) bO)<|?_
 have hs:bM dir M=(([((6+((M.data.length:Nat) : Int))%256)]++(aF ([M.status,M.events,M.messages])))++M.data):=by
   unfold bM
   (try simp only[hd0,f,g,j,k,bs,if_true,if_false,decide_true,decide_false,reduceIte])
   all_goals rfl
 rw[hs]
 exact⟨_,rfl,(aV.weaken bP (le (le (le a.size c.size) i.size) A.size)),(ut af bQ (am (aM ab (le (le (le a.size c.size) i.size) A.size)) av))⟩
 have b9:=ak k
 refine sk<|bn<|tn<|sg<|Pl 1<|L0<|aP b 14<|Pl 2<|L0<|cO (m:=1) (e:=5) #[.int .u8 (((M.data.length:Nat) : Int)%256)] fun da db bR bS W=>?_
 have ag:=cN bR (xs:=[(((M.data.length:Nat) : Int)%256)]) (by as_aux_lemma=>kernel_rfl) (al (by omega) aJ) (by(try simp only[List.length_cons,List.length_nil]);omega) bS
 refine Pl 1<|?_
 refine L0<|aP (ub W b) 14<|?_
 have ai:=aG a W
 refine L0<|bG aX (xs:=([(((M.data.length:Nat) : Int)%256)])) (ys:=M.data) (.int .u8 0) 1 ag (bo.old hd ai) (by(try simp only[List.length_append,List.length_cons,List.length_nil,ay]);omega) W.size fun bT bV dc bW bX=>Pl 1<|nt<|rt<|rr (.slice bT (([(((M.data.length:Nat) : Int)%256)]++M.data).length) bV)<|?_
 have hs:bM dir M=([(((M.data.length:Nat) : Int)%256)]++M.data):=by
   unfold bM
   (try simp only[hd0,f,g,j,k,bs,if_true,if_false,decide_true,decide_false,reduceIte])
   all_goals rfl
 rw[hs]
 exact⟨_,rfl,(aV.weaken bW a.size),(ut ai bX (am (aM ag a.size) av))⟩
theorem sK{m:Md}{cs:Array Value}{M:aQ}{w:World}{dir:Int}(h:aO m w cs.toList M)(hf:bU M) : Calls Tryz.prog 208 #[.int .i64 dir,.agg cs] w (fy (bM dir M) w):=by
  rcases dT (dir==0) with h0|h0
  · exact p5 h hf h0
  · exact oe h hf h0
open Go.RowKit
theorem di{α:Type}(d:α)(xs:List α)(k:Nat)(h:k<xs.length) : xs.getD k d∈xs:=by
  simp[List.getD_eq_getElem?_getD,List.getElem?_eq_getElem h]
def eX:List Obj→List Int
  | []=>[]
  | o :: r=>([o.id,(o.value.length:Int)%256]++o.value)++eX r
theorem lC(xs:List Obj)(k:Nat)(h:k<xs.length) : eX (xs.drop k)=([(xs.getD k ⟨0,[]⟩).id,((xs.getD k ⟨0,[]⟩).value.length:Int)%256]++(xs.getD k ⟨0,[]⟩).value)++eX (xs.drop (k+1)):=by
  rw[List.drop_eq_getElem_cons h]
  simp[eX,List.getD_eq_getElem?_getD,List.getElem?_eq_getElem h]
def da (dir:Int)(M:aQ) : List Int :=
  if M.mei==13 then [M.mei]++M.data
  else if dir==0 then [M.mei,M.kind,M.next]
  else [M.mei,M.kind,M.level,M.more,M.next,(M.objects.length:Int)%256]++eX M.objects
theorem qG{m:Md}{cs:Array Value}{M:aQ}{w:World}{dir:Int}(h:aO m w cs.toList M)(hf:bU M)(hd0:(dir==0)=true) : Calls Tryz.prog 214 #[.int .i64 dir,.agg cs] w (fy (da dir M) w):=by
 obtain⟨vw,vb,vd,vr,vo,h0,hw,hbt,hd,hr,ho,hR⟩:=h
 obtain rfl:cs=(bu M vw vb vd vr vo).toArray:=by apply Array.toList_inj.1;simpa using h0
 clear h0
 obtain⟨Aw,kw,rfl,_,_⟩:=hw.shape
 obtain⟨Ab,kb,rfl,_,_⟩:=hbt.shape
 obtain⟨Ad,kd,rfl,_,_⟩:=hd.shape
 obtain⟨Ar,kr,rfl,_,_⟩:=hr.shape
 obtain⟨Ao,ko,rfl,_,_⟩:=ho.shape
 obtain⟨q0,q1,q2,q3,q4,q5,q6,q7,q8,q9,i,j,k,l,n,o,p⟩:=hR
 simp only[B8,dF] at q0 q1 q2 q3 q4 q5 q6 q7 q8 q9 i j k l n o p
 have hf1:=hf.words
 have hf2:=hf.bits
 have hf3:=hf.data
 have hf4:=hf.recs
 have hf5:=hf.objects
 refine en 64 Tryz.func214 rfl<|sg<|L0<|dC (mG M.code M.fail M.addr M.count M.value M.and_ M.or_ M.addr2 M.sub M.status M.events M.messages (.slice Aw M.words.length kw) (.slice Ab M.bits.length kb) (.slice Ad M.data.length kd) (.slice Ar M.recs.length kr) M.mei M.kind M.level M.more M.next (.slice Ao M.objects.length ko)) fun D E F a b=>Pl 1<|nt<|sq<|bk<|sg<|Pl 1<|L0<|aP a 16<|Pl 2<|nl<|?_
 refine tn<|cb ((M.mei==13)) (fun c=>?_) (fun c=>?_)
 have q:=ae c
 refine sg<|Pl 1<|L0<|aP a 16<|L0<|cO (m:=1) (e:=5) #[.int .u8 M.mei] fun G H r s d=>?_
 have f:=cN r (xs:=[M.mei]) (by as_aux_lemma=>kernel_rfl) (al (by omega) aJ) (by(try simp only[List.length_cons,List.length_nil]);omega) s
 refine Pl 1<|?_
 refine L0<|aP (ub d a) 14<|?_
 have g:=aG b d
 refine L0<|bG aX (xs:=([M.mei])) (ys:=M.data) (.int .u8 0) 1 f (bo.old hd g) (by(try simp only[List.length_append,List.length_cons,List.length_nil,ay]);omega) d.size fun t u I v x=>Pl 1<|nt<|rt<|br<|tr<|rr (.slice t (([M.mei]++M.data).length) u)<|?_
 have hs:da dir M=([M.mei]++M.data):=by
   unfold da
   (try simp only[hd0,c,bs,if_true,if_false,decide_true,decide_false,reduceIte])
   all_goals rfl
 rw[hs]
 exact⟨_,rfl,(aV.weaken v b.size),(ut g x (am (aM f b.size) av))⟩
 have q:=ak c
 refine sg<|Pl 3<|nt<|ct hd0<|sg<|Pl 1<|L0<|aP a 16<|Pl 1<|L0<|aP a 17<|Pl 1<|L0<|aP a 20<|?_
 refine L0<|cO (m:=3) (e:=5) #[.int .u8 M.mei,.int .u8 M.kind,.int .u8 M.next] fun y J z A B=>?_
 have C:=cN z (xs:=[M.mei,M.kind,M.next]) (by as_aux_lemma=>kernel_rfl) (al (by omega) (al (by omega) (al (by omega) aJ))) (by(try simp only[List.length_cons,List.length_nil]);omega) A
 refine Pl 1<|nt<|rt<|br<|tr<|rr (.slice (some ⟨y,0,none⟩) 3 3)<|?_
 have hs:da dir M=[M.mei,M.kind,M.next]:=by
   unfold da
   (try simp only[hd0,c,bs,if_true,if_false,decide_true,decide_false,reduceIte])
   all_goals rfl
 rw[hs]
 exact⟨_,rfl,(aV.weaken C b.size),(aG b B)⟩
theorem qa{m:Md}{cs:Array Value}{M:aQ}{w:World}{dir:Int}(h:aO m w cs.toList M)(hf:bU M)(hd0:(dir==0)=false) : Calls Tryz.prog 214 #[.int .i64 dir,.agg cs] w (fy (da dir M) w):=by
 obtain⟨vw,vb,vd,vr,vo,h0,hw,hbt,hd,hr,ho,hR⟩:=h
 obtain rfl:cs=(bu M vw vb vd vr vo).toArray:=by apply Array.toList_inj.1;simpa using h0
 clear h0
 obtain⟨Aw,kw,rfl,_,_⟩:=hw.shape
 obtain⟨Ab,kb,rfl,_,_⟩:=hbt.shape
 obtain⟨Ad,kd,rfl,_,_⟩:=hd.shape
 obtain⟨Ar,kr,rfl,_,_⟩:=hr.shape
 obtain⟨Ao,ko,rfl,_,_⟩:=ho.shape
 obtain⟨q0,q1,q2,q3,q4,q5,q6,q7,q8,q9,O,P,Q,R,S,T,U⟩:=hR
 simp only[B8,dF] at q0 q1 q2 q3 q4 q5 q6 q7 q8 q9 O P Q R S T U
 have hf1:=hf.words
 have hf2:=hf.bits
 have hf3:=hf.data
 have hf4:=hf.recs
 have hf5:=hf.objects
 refine en 64 Tryz.func214 rfl<|sg<|L0<|dC (mG M.code M.fail M.addr M.count M.value M.and_ M.or_ M.addr2 M.sub M.status M.events M.messages (.slice Aw M.words.length kw) (.slice Ab M.bits.length kb) (.slice Ad M.data.length kd) (.slice Ar M.recs.length kr) M.mei M.kind M.level M.more M.next (.slice Ao M.objects.length ko)) fun aD r aF a c=>Pl 1<|nt<|sq<|bk<|sg<|Pl 1<|L0<|aP a 16<|Pl 2<|nl<|?_
 refine tn<|cb ((M.mei==13)) (fun d=>?_) (fun d=>?_)
 have V:=ae d
 refine sg<|Pl 1<|L0<|aP a 16<|L0<|cO (m:=1) (e:=5) #[.int .u8 M.mei] fun aH aI W X s=>?_
 have E:=cN W (xs:=[M.mei]) (by as_aux_lemma=>kernel_rfl) (al (by omega) aJ) (by(try simp only[List.length_cons,List.length_nil]);omega) X
 refine Pl 1<|?_
 refine L0<|aP (ub s a) 14<|?_
 have F:=aG c s
 refine L0<|bG aX (xs:=([M.mei])) (ys:=M.data) (.int .u8 0) 1 E (bo.old hd F) (by(try simp only[List.length_append,List.length_cons,List.length_nil,ay]);omega) s.size fun Y Z aK a0 a1=>Pl 1<|nt<|rt<|br<|tr<|rr (.slice Y (([M.mei]++M.data).length) Z)<|?_
 have hs:da dir M=([M.mei]++M.data):=by
   unfold da
   (try simp only[hd0,d,bs,if_true,if_false,decide_true,decide_false,reduceIte])
   all_goals rfl
 rw[hs]
 exact⟨_,rfl,(aV.weaken a0 c.size),(ut F a1 (am (aM E c.size) av))⟩
 have V:=ak d
 refine sg<|Pl 3<|nt<|cf hd0<|sk<|bn<|tn<|sg<|Pl 1<|L0<|aP a 16<|Pl 1<|L0<|aP a 17<|?_
 refine Pl 1<|L0<|aP a 18<|Pl 1<|L0<|aP a 19<|Pl 1<|L0<|aP a 20<|Pl 1<|L0<|aP a 21<|Pl 2<|L0<|cO (m:=6) (e:=5) #[.int .u8 M.mei,.int .u8 M.kind,.int .u8 M.level,.int .u8 M.more,.int .u8 M.next,.int .u8 (((M.objects.length:Nat) : Int)%256)] fun a2 a3 a4 a5 j=>?_
 have a6:=cN a4 (xs:=[M.mei,M.kind,M.level,M.more,M.next,(((M.objects.length:Nat) : Int)%256)]) (by as_aux_lemma=>kernel_rfl) (al (by omega) (al (by omega) (al (by omega) (al (by omega) (al (by omega) (al (by omega) aJ)))))) (by(try simp only[List.length_cons,List.length_nil]);omega) a5
 refine Pl 1<|nt<|sq<|sg<|Pl 1<|?_
 refine L0<|aP (ub j a) 21<|Pl 2<|nt<|bk<|?_
 refine jf (fun x=>[(4,.slice none 0 0),(5,.slice x.2.2.1 x.2.1.length x.2.2.2),(44,.slice Ao M.objects.length ko),(45,.int .i64 ((M.objects.length:Nat) : Int)),(46,.int .i64 ((x.1:Nat) : Int))]) (fun(x:Nat × List Int × Option Addr × Nat) w'=>aE [] r w'∧a3.heap.size≤w'.heap.size∧eY r.heap.size w' (.slice x.2.2.1 x.2.1.length x.2.2.2) x.2.1∧(x.1≤M.objects.length)∧(x.2.1++eX (M.objects.drop x.1)=([M.mei,M.kind,M.level,M.more,M.next,(((M.objects.length:Nat) : Int)%256)])++eX M.objects)∧(x.2.1.length≤16+x.1*1026)∧(6≤x.2.1.length)) (fun x=>M.objects.length-x.1) (0,[M.mei,M.kind,M.level,M.more,M.next,(((M.objects.length:Nat) : Int)%256)],some ⟨a2,0,none⟩,6) ⟨j,lr,a6,(by(try dsimp only);omega),rfl,(by(try dsimp only);(try simp only[List.length_cons,List.length_nil]);omega),(by(try dsimp only);(try simp only[List.length_cons,List.length_nil]);omega)⟩ ?_
 rintro⟨k,L,A,cp⟩ a7 ⟨G,t,a8,a9,aa,ab,ac⟩
 refine jj [(4,.slice none 0 0),(5,.slice A L.length cp),(44,.slice Ao M.objects.length ko),(45,.int .i64 ((M.objects.length:Nat) : Int)),(46,.int .i64 ((k:Nat) : Int))] ?_
 have f:eY r.heap.size a7 (.slice A L.length cp) L:=a8
 have aL:k≤M.objects.length:=a9
 have aN:L++eX (M.objects.drop k)=([M.mei,M.kind,M.level,M.more,M.next,(((M.objects.length:Nat) : Int)%256)])++eX M.objects:=aa
 have aR:L.length≤16+k*1026:=ab
 have aS:6≤L.length:=ac
 have hL:L++eX (M.objects.drop k)=([M.mei,M.kind,M.level,M.more,M.next,(((M.objects.length:Nat) : Int)%256)])++eX M.objects:=by assumption
 have hv0:=fun(h:k<M.objects.length)=>hf.objv _ (di ⟨0,[]⟩ M.objects k h)
 refine sg<|Pl 1<|nt<|sq<|?_
 have u:=aG c G
 refine cb ((decide (((k:Nat) : Int)<((M.objects.length:Nat) : Int)))) (fun l=>?_) (fun l=>?_)
 have ad:=of_decide_eq_true l
 refine bp<|sq<|bk<|sg<|iY (m9.elt ho k (by omega)) fun aT aU aW aY aZ v y af ag ai b0 aj=>L0<|mA 2 M.objects.length k af (by omega)<|?_
 refine L0<|w7 [.int .u8 ((M.objects.getD k ⟨0,[]⟩).id),.slice v ((M.objects.getD k ⟨0,[]⟩).value.length) y] (ub u ag) aj<|L0<|bQ #[.int .u8 0,.slice none 0 0] fun H b1 I an n=>L0<|be an #[.int .u8 ((M.objects.getD k ⟨0,[]⟩).id),.slice v ((M.objects.getD k ⟨0,[]⟩).value.length) y] fun b2 ao o=>nt<|Rg 13 (fun w'=>w'.cell? ⟨H,0,none⟩=some (.int .u8 ((M.objects.getD k ⟨0,[]⟩).id))∧w'.cell? ⟨H,1,none⟩=some (.slice v ((M.objects.getD k ⟨0,[]⟩).value.length) y)) fun b3 g=>?_
 have z:=ub g ao
 refine bi ⟨(ah z rfl),(ah z rfl)⟩ fun b=>Rt 0 b<|Rt 1 b<|Rl 2 b (fun _ hs=>hs.1)<|Rt 3 b<|Rl 4 b (fun _ hs=>hs.2)<|Rt 5 b<|Rt 6 b<|Rt 9 b<|Rl 10 b (fun _ hs=>hs.2)<|R0 7 rfl<|cO (m:=2) (e:=5) #[.int .u8 ((M.objects.getD k ⟨0,[]⟩).id),.int .u8 ((((M.objects.getD k ⟨0,[]⟩).value.length:Nat) : Int)%256)] fun b4 b5 ap ar i=>?_
 have au:=cN ap (xs:=[(M.objects.getD k ⟨0,[]⟩).id,((((M.objects.getD k ⟨0,[]⟩).value.length:Nat) : Int)%256)]) (by as_aux_lemma=>kernel_rfl) (al (by omega) (al (by omega) aJ)) (by(try simp only[List.length_cons,List.length_nil]);omega) ar
 have B:=ub i z
 refine bi ⟨(ah B rfl),(ah B rfl)⟩ fun b6=>?_
 have J:=ud n (aG o (aG g i)) I
 refine R0 8 rfl<|bG aX (xs:=L) (ys:=([(M.objects.getD k ⟨0,[]⟩).id,((((M.objects.getD k ⟨0,[]⟩).value.length:Nat) : Int)%256)])) (.int .u8 0) 1 (aq f J (fun x hx=>aA) (fun _ _ h=>h)) (au).rd (by(try simp only[List.length_append,List.length_cons,List.length_nil,ay]);omega) (le (le (le (le (le j.size t) n.size) o.size) g.size) i.size) fun aw b7 b8 C p=>?_
 have q:=aE.blk p (bf (dR f lr I) aA) B
 refine bi ⟨(ah q rfl),(ah q rfl)⟩ fun b9=>?_
 have K:=ut (aE.mono (S':=(ob A++[])) J av) p (am il av)
 refine R0 11 rfl<|bG aX (xs:=(L++[(M.objects.getD k ⟨0,[]⟩).id,((((M.objects.getD k ⟨0,[]⟩).value.length:Nat) : Int)%256)])) (ys:=((M.objects.getD k ⟨0,[]⟩).value)) (.int .u8 0) 1 C (bo.old ai (ut u K (am (aM f c.size) av))) (by(try simp only[List.length_append,List.length_cons,List.length_nil,ay]);omega) (le (le (le (le (le (le j.size t) n.size) o.size) g.size) i.size) p.size) fun ax az ba aB D=>?_
 have N:=aE.blk D (bf (dI q C (by decide)) aA) q
 refine bi ⟨(ah N rfl),(ah N rfl)⟩ fun aC=>Rt 12 aC<|re<|bn<|tn<|go<|L0<|Oi (((k:Nat) : Int)+1)<|Pl 1<|nl<|?_
 exact gM ((k+1),((L++[(M.objects.getD k ⟨0,[]⟩).id,((((M.objects.getD k ⟨0,[]⟩).value.length:Nat) : Int)%256)])++(M.objects.getD k ⟨0,[]⟩).value),ax,az) ⟨(ut G (ut (aE.mono (S':=(ob A++(ob aw++[]))) K (am il av)) D (am il av)) (am (aM f lr) (am (aM C lr) av))),(le (le (le (le (le (le t n.size) o.size) g.size) i.size) p.size) D.size),aB,(by(try dsimp only);omega),(by(try dsimp only);rw[← hL,lC  M.objects k (by omega)];simp only[List.append_assoc]),(by(try dsimp only);have hv:=hf.objv _ (di ⟨0,[]⟩ M.objects k (by omega));(try simp only[List.length_append,List.length_cons,List.length_nil,ay]);omega),(by(try dsimp only);(try simp only[List.length_append,List.length_cons,List.length_nil]);omega)⟩ (by omega)
 have ad:=of_decide_eq_false l
 refine xt<|tx<|tx<|bx<|tn<|sg<|Pl 2<|nt<|rt<|rr (.slice A L.length cp)<|?_
 have hk:k=M.objects.length:=by omega
 rw[hk,List.drop_length] at hL
 have hL2:L=([M.mei,M.kind,M.level,M.more,M.next,(((M.objects.length:Nat) : Int)%256)])++eX M.objects:=by rw[← hL];simp[eX]
 have hs:da dir M=L:=by
   rw[hL2]
   unfold da
   (try simp only[hd0,d,l,bs,if_true,if_false,decide_true,decide_false,reduceIte])
   all_goals rfl
 rw[hs]
 exact⟨_,rfl,(aV.weaken f c.size),u⟩
theorem tw{m:Md}{cs:Array Value}{M:aQ}{w:World}{dir:Int}(h:aO m w cs.toList M)(hf:bU M) : Calls Tryz.prog 214 #[.int .i64 dir,.agg cs] w (fy (da dir M) w):=by
  rcases dT (dir==0) with h0|h0
  · exact qG h hf h0
  · exact qa h hf h0
open Go.RowKit
def gS (dir code:Int)(r:dt) : List Int:=(if code==20&&dir==1 then [(1+2*(r.words.length:Int))%256,6] else [6]++aF [r.file,r.record,r.count])++aF r.words
def cF (dir code:Int) : List dt→List Int
  | []=>[]
  | r :: rs=>gS dir code r++cF dir code rs
theorem dU(dir code:Int)(xs:List dt)(k:Nat)(h:k<xs.length) : cF dir code (xs.drop k)=gS dir code (xs.getD k ⟨0,0,0,[]⟩)++cF dir code (xs.drop (k+1)):=by
  rw[List.drop_eq_getElem_cons h]
  simp[cF,List.getD_eq_getElem?_getD,List.getElem?_eq_getElem h]
def cI (dir:Int)(M:aQ) : List Int:=([0]++cF dir M.code M.recs).set 0 (((([0]++cF dir M.code M.recs).length:Int)-1)%256)
theorem o0{m:Md}{cs:Array Value}{M:aQ}{w:World}{dir:Int}(h:aO m w cs.toList M)(hf:bU M)(hd0:(dir==0)=true) : Calls Tryz.prog 212 #[.int .i64 dir,.agg cs] w (fy (cI dir M) w):=by
 obtain⟨vw,vb,vd,vr,vo,h0,hw,hbt,hd,hr,ho,hR⟩:=h
 obtain rfl:cs=(bu M vw vb vd vr vo).toArray:=by apply Array.toList_inj.1;simpa using h0
 clear h0
 obtain⟨Aw,kw,rfl,_,_⟩:=hw.shape
 obtain⟨Ab,kb,rfl,_,_⟩:=hbt.shape
 obtain⟨Ad,kd,rfl,_,_⟩:=hd.shape
 obtain⟨Ar,kr,rfl,_,_⟩:=hr.shape
 obtain⟨Ao,ko,rfl,_,_⟩:=ho.shape
 obtain⟨q0,q1,q2,q3,q4,q5,q6,q7,q8,q9,bh,bj,bm,bq,br,bt,bv⟩:=hR
 simp only[B8,dF] at q0 q1 q2 q3 q4 q5 q6 q7 q8 q9 bh bj bm bq br bt bv
 have hf1:=hf.words
 have hf2:=hf.bits
 have hf3:=hf.data
 have hf4:=hf.recs
 have hf5:=hf.objects
 refine en 58 Tryz.func212 rfl<|sg<|L0<|dC (mG M.code M.fail M.addr M.count M.value M.and_ M.or_ M.addr2 M.sub M.status M.events M.messages (.slice Aw M.words.length kw) (.slice Ab M.bits.length kb) (.slice Ad M.data.length kd) (.slice Ar M.recs.length kr) M.mei M.kind M.level M.more M.next (.slice Ao M.objects.length ko)) fun ar ac cB au l=>Pl 1<|ng<|L0<|cO (m:=1) (e:=5) #[.int .u8 0] fun bw bz bA bB g=>?_
 have bC:=cN bA (xs:=[0]) (by as_aux_lemma=>kernel_rfl) (al (by omega) aJ) (by(try simp only[List.length_cons,List.length_nil]);omega) bB
 refine Pl 1<|nt<|sq<|sg<|Pl 1<|?_
 refine L0<|aP (ub g au) 15<|Pl 2<|nt<|bk<|?_
 refine jf (fun x=>[(0,.int .i64 dir),(3,.pointer (some ⟨ar,0,none⟩)),(4,.slice none 0 0),(5,.slice x.2.2.1 x.2.1.length x.2.2.2),(10,.slice Ar M.recs.length kr),(11,.int .i64 ((M.recs.length:Nat) : Int)),(12,.int .i64 ((x.1:Nat) : Int))]) (fun(x:Nat × List Int × Option Addr × Nat) w'=>aE [] ac w'∧bz.heap.size≤w'.heap.size∧eY ac.heap.size w' (.slice x.2.2.1 x.2.1.length x.2.2.2) x.2.1∧(x.1≤M.recs.length)∧(x.2.1++cF dir M.code (M.recs.drop x.1)=([0])++cF dir M.code M.recs)∧(x.2.1.length≤16+x.1*2060)∧(1≤x.2.1.length)) (fun x=>M.recs.length-x.1) (0,[0],some ⟨bw,0,none⟩,1) ⟨g,lr,bC,(by(try dsimp only);omega),rfl,(by(try dsimp only);(try simp only[List.length_cons,List.length_nil]);omega),(by(try dsimp only);(try simp only[List.length_cons,List.length_nil]);omega)⟩ ?_
 rintro⟨k,L,A,cp⟩ bD ⟨aw,f,bF,bH,bI,bJ,bK⟩
 refine jj [(0,.int .i64 dir),(3,.pointer (some ⟨ar,0,none⟩)),(4,.slice none 0 0),(5,.slice A L.length cp),(10,.slice Ar M.recs.length kr),(11,.int .i64 ((M.recs.length:Nat) : Int)),(12,.int .i64 ((k:Nat) : Int))] ?_
 have a:eY ac.heap.size bD (.slice A L.length cp) L:=bF
 have cC:k≤M.recs.length:=bH
 have cD:L++cF dir M.code (M.recs.drop k)=([0])++cF dir M.code M.recs:=bI
 have cE:L.length≤16+k*2060:=bJ
 have cG:1≤L.length:=bK
 have hL:L++cF dir M.code (M.recs.drop k)=([0])++cF dir M.code M.recs:=by assumption
 have hv0:=fun(h:k<M.recs.length)=>hf.recw _ (di ⟨0,0,0,[]⟩ M.recs k h)
 refine sg<|Pl 1<|nt<|sq<|?_
 have ad:=aG l aw
 refine cb ((decide (((k:Nat) : Int)<((M.recs.length:Nat) : Int)))) (fun n=>?_) (fun n=>?_)
 have bL:=of_decide_eq_true n
 refine bp<|sq<|bk<|sg<|iY (kf.elt hr k (by omega)) fun cH cJ cK cL cM ax az bM bN Q cP bO=>L0<|mA 4 M.recs.length k bM (by omega)<|?_
 refine L0<|w7 [.int .u16 ((M.recs.getD k ⟨0,0,0,[]⟩).file),.int .u16 ((M.recs.getD k ⟨0,0,0,[]⟩).record),.int .u16 ((M.recs.getD k ⟨0,0,0,[]⟩).count),.slice ax ((M.recs.getD k ⟨0,0,0,[]⟩).words.length) az] (ub ad bN) bO<|L0<|bQ #[.int .u16 0,.int .u16 0,.int .u16 0,.slice none 0 0] fun af cQ B bP b=>L0<|be bP #[.int .u16 ((M.recs.getD k ⟨0,0,0,[]⟩).file),.int .u16 ((M.recs.getD k ⟨0,0,0,[]⟩).record),.int .u16 ((M.recs.getD k ⟨0,0,0,[]⟩).count),.slice ax ((M.recs.getD k ⟨0,0,0,[]⟩).words.length) az] fun cR ag c=>nt<|sq<|bk<|sg<|Pl 1<|?_
 have s:=ud b c B
 have C:=aG aw s
 refine L0<|aP (ub C au) 0<|Pl 2<|cu 3 [32] 35 (((M.code==20)&&(dir==1))) (fun K aB=>?_) ?_
 refine bl 32 ((M.code==20)) (fun D=>?_) (fun D=>?_)
 have bR:=ae D
 exact Pl 3<|ce aB (dir==1) (by rw[D];rfl)
 have bR:=ak D
 exact Pl 3<|ce aB false (by rw[D];rfl)
 refine Pl 1<|nt<|?_
 have R:=aG ad s
 refine cb (((M.code==20)&&(dir==1))) (fun o=>?_) (fun o=>?_)
 have aC:=(b6 o).1
 have aD:=(b6 o).2
 have cS:=ae aC
 have cT:=ae aD
 refine go<|Pl 2<|L0<|aP ag 3<|Pl 1<|L0<|Oi (2*(((M.recs.getD k ⟨0,0,0,[]⟩).words.length:Nat) : Int))<|L0<|Oi (1+(2*(((M.recs.getD k ⟨0,0,0,[]⟩).words.length:Nat) : Int)))<|Pl 1<|L0<|cO (m:=2) (e:=5) #[.int .u8 ((1+(2*(((M.recs.getD k ⟨0,0,0,[]⟩).words.length:Nat) : Int)))%256),.int .u8 6] fun cU cV bS bT E=>?_
 have bV:=cN bS (xs:=[((1+(2*(((M.recs.getD k ⟨0,0,0,[]⟩).words.length:Nat) : Int)))%256),6]) (by as_aux_lemma=>kernel_rfl) (al (by omega) (al (by omega) aJ)) (by(try simp only[List.length_cons,List.length_nil]);omega) bT
 refine L0<|bG aX (xs:=L) (ys:=([((1+(2*(((M.recs.getD k ⟨0,0,0,[]⟩).words.length:Nat) : Int)))%256),6])) (.int .u8 0) 1 (aq a (aG s E) (fun x hx=>aA) (fun _ _ h=>h)) (bV).rd (by(try simp only[List.length_append,List.length_cons,List.length_nil,ay]);omega) (le (le (le (le g.size f) b.size) c.size) E.size) fun aH cW cX aI ai=>Pl 1<|nl<|bn<|tn<|go<|Pl 2<|?_
 have aj:=ut (aE.mono (S':=(ob A++[])) E av) ai (am il av)
 refine L0<|aP (aE.blk aj (bf (dR a lr B) aA) ag) 3<|?_
 refine L0<|Oc<|dk (bE (xs:=(M.recs.getD k ⟨0,0,0,[]⟩).words) (dN.old Q (ut R aj (am (aM a l.size) av))) (by(try simp only[List.length_cons,List.length_nil]);omega)) fun cY cZ d0 bW d1 d2 S=>?_
 refine L0<|bG aX (xs:=(L++[((1+(2*(((M.recs.getD k ⟨0,0,0,[]⟩).words.length:Nat) : Int)))%256),6])) (ys:=(aF ((M.recs.getD k ⟨0,0,0,[]⟩).words))) (.int .u8 0) 1 (aq aI S (fun x hx=>aA) (fun _ _ h=>h)) (bW).rd (by(try simp only[List.length_append,List.length_cons,List.length_nil,ay]);omega) (le (le (le (le (le (le g.size f) b.size) c.size) E.size) ai.size) S.size) fun bX bY d3 bZ aK=>Pl 1<|nl<|bn<|tn<|go<|L0<|Oi (((k:Nat) : Int)+1)<|Pl 1<|nl<|?_
 exact gM ((k+1),((L++[((1+(2*(((M.recs.getD k ⟨0,0,0,[]⟩).words.length:Nat) : Int)))%256),6])++(aF ((M.recs.getD k ⟨0,0,0,[]⟩).words))),bX,bY) ⟨(ut C (ut (aE.mono (S':=(ob A++(ob aH++[]))) aj (am il av)) (ut (aE.mono (S':=(ob aH++[])) S av) aK (am il av)) (am il av)) (am (aM a lr) (am (aM aI lr) av))),(le (le (le (le (le (le f b.size) c.size) E.size) ai.size) S.size) aK.size),bZ,(by(try dsimp only);omega),(by(try dsimp only);rw[← hL,dU dir M.code M.recs k (by omega)];simp only[gS,hd0,n,o,aC,aD,bs,if_true,if_false,decide_true,decide_false,List.append_assoc]),(by(try dsimp only);have hv:=hf.recw _ (di ⟨0,0,0,[]⟩ M.recs k (by omega));(try simp only[List.length_append,List.length_cons,List.length_nil,ay]);omega),(by(try dsimp only);(try simp only[List.length_append,List.length_cons,List.length_nil]);omega)⟩ (by omega)
 refine Rg 13 (fun w'=>w'.cell? ⟨af,0,none⟩=some (.int .u16 ((M.recs.getD k ⟨0,0,0,[]⟩).file))∧w'.cell? ⟨af,1,none⟩=some (.int .u16 ((M.recs.getD k ⟨0,0,0,[]⟩).record))∧w'.cell? ⟨af,2,none⟩=some (.int .u16 ((M.recs.getD k ⟨0,0,0,[]⟩).count))) fun d4 d=>?_
 have F:=ub d ag
 refine bi ⟨(ah F rfl),(ah F rfl),(ah F rfl)⟩ fun p=>Rt 0 p<|Rt 3 p<|Rl 4 p (fun _ hs=>hs.1)<|Rt 5 p<|Rl 6 p (fun _ hs=>hs.2.1)<|Rt 7 p<|Rl 8 p (fun _ hs=>hs.2.2)<|?_
 refine R2 1 9 rfl rfl ?_ ?_
 refine  cO (m:=1) (e:=5) #[.int .u8 6] fun d5 d6 c0 c1 i=>?_
 have aL:=cN c0 (xs:=[6]) (by as_aux_lemma=>kernel_rfl) (al (by omega) aJ) (by(try simp only[List.length_cons,List.length_nil]);omega) c1
 have G:=ub i F
 refine bi ⟨(ah G rfl),(ah G rfl),(ah G rfl)⟩ fun d7=>?_
 refine R2 2 9 rfl rfl ?_ ?_
 have aN:=aG d i
 refine  bG aX (xs:=L) (ys:=([6])) (.int .u8 0) 1 (aq a (aG s aN) (fun x hx=>aA) (fun _ _ h=>h)) (aL).rd (by(try simp only[List.length_append,List.length_cons,List.length_nil,ay]);omega) (le (le (le (le (le g.size f) b.size) c.size) d.size) i.size) fun T d8 d9 an H=>?_
 have U:=aE.blk H (bf (dR a lr B) aA) G
 refine bi ⟨(ah U rfl),(ah U rfl),(ah U rfl)⟩ fun da=>R0 9 rfl<|cO (m:=3) (e:=24) #[.int .u16 ((M.recs.getD k ⟨0,0,0,[]⟩).file),.int .u16 ((M.recs.getD k ⟨0,0,0,[]⟩).record),.int .u16 ((M.recs.getD k ⟨0,0,0,[]⟩).count)] fun db dc c2 c3 I=>?_
 have c4:=dh c2 (xs:=[(M.recs.getD k ⟨0,0,0,[]⟩).file,(M.recs.getD k ⟨0,0,0,[]⟩).record,(M.recs.getD k ⟨0,0,0,[]⟩).count]) (by as_aux_lemma=>kernel_rfl) (al (by omega) (al (by omega) (al (by omega) aJ))) (by(try simp only[List.length_cons,List.length_nil]);omega) c3
 have V:=ub I U
 refine bi ⟨(ah V rfl),(ah V rfl),(ah V rfl)⟩ fun dd=>R0 10 rfl<|Oc<|dk (bE (xs:=[(M.recs.getD k ⟨0,0,0,[]⟩).file,(M.recs.getD k ⟨0,0,0,[]⟩).record,(M.recs.getD k ⟨0,0,0,[]⟩).count]) (c4).rd (by(try simp only[List.length_cons,List.length_nil]);omega)) fun de df dg c5 dj dl J=>?_
 have N:=ub J V
 refine bi ⟨(ah N rfl),(ah N rfl),(ah N rfl)⟩ fun dm=>?_
 have aR:=aG I J
 have aS:=aq an aR (fun x hx=>aA) (fun _ _ h=>h)
 refine R0 11 rfl<|bG aX (xs:=(L++[6])) (ys:=(aF ([(M.recs.getD k ⟨0,0,0,[]⟩).file,(M.recs.getD k ⟨0,0,0,[]⟩).record,(M.recs.getD k ⟨0,0,0,[]⟩).count]))) (.int .u8 0) 1 aS (c5).rd (by(try simp only[List.length_append,List.length_cons,List.length_nil,ay]);omega) (le (le (le (le (le (le (le (le g.size f) b.size) c.size) d.size) i.size) H.size) I.size) J.size) fun aT dn dp aU W=>?_
 have X:=aE.blk W (bf (dI N aS (by decide)) aA) N
 refine bi ⟨(ah X rfl),(ah X rfl),(ah X rfl)⟩ fun c6=>Rt 12 c6<|re<|bn<|tn<|go<|Pl 2<|L0<|aP X 3<|?_
 have aW:=ut (aE.mono (S':=(ob A++(ob T++[]))) aN av) (ut (aE.mono (S':=(ob A++(ob T++[]))) H (am il av)) (ut (aE.mono (S':=(ob T++[])) aR av) W (am il av)) (am il av)) (am il (am il av))
 refine L0<|Oc<|dk (bE (xs:=(M.recs.getD k ⟨0,0,0,[]⟩).words) (dN.old Q (ut R aW (am (aM a l.size) (am (aM an l.size) av)))) (by(try simp only[List.length_cons,List.length_nil]);omega)) fun dq dr ds c7 dt du Y=>?_
 refine L0<|bG aX (xs:=((L++[6])++(aF ([(M.recs.getD k ⟨0,0,0,[]⟩).file,(M.recs.getD k ⟨0,0,0,[]⟩).record,(M.recs.getD k ⟨0,0,0,[]⟩).count])))) (ys:=(aF ((M.recs.getD k ⟨0,0,0,[]⟩).words))) (.int .u8 0) 1 (aq aU Y (fun x hx=>aA) (fun _ _ h=>h)) (c7).rd (by(try simp only[List.length_append,List.length_cons,List.length_nil,ay]);omega) (le (le (le (le (le (le (le (le (le (le g.size f) b.size) c.size) d.size) i.size) H.size) I.size) J.size) W.size) Y.size) fun c8 c9 dv ca aY=>Pl 1<|nl<|bn<|tn<|go<|L0<|Oi (((k:Nat) : Int)+1)<|Pl 1<|nl<|?_
 exact gM ((k+1),(((L++[6])++(aF ([(M.recs.getD k ⟨0,0,0,[]⟩).file,(M.recs.getD k ⟨0,0,0,[]⟩).record,(M.recs.getD k ⟨0,0,0,[]⟩).count])))++(aF ((M.recs.getD k ⟨0,0,0,[]⟩).words))),c8,c9) ⟨(ut C (ut (aE.mono (S':=(ob A++(ob T++(ob aT++[])))) aW (am il (am il av))) (ut (aE.mono (S':=(ob aT++[])) Y av) aY (am il av)) (am il av)) (am (aM a lr) (am (aM an lr) (am (aM aU lr) av)))),(le (le (le (le (le (le (le (le (le (le f b.size) c.size) d.size) i.size) H.size) I.size) J.size) W.size) Y.size) aY.size),ca,(by(try dsimp only);omega),(by(try dsimp only);rw[← hL,dU dir M.code M.recs k (by omega)];simp only[gS,hd0,n,o,bs,if_true,if_false,decide_true,decide_false,List.append_assoc]),(by(try dsimp only);have hv:=hf.recw _ (di ⟨0,0,0,[]⟩ M.recs k (by omega));(try simp only[List.length_append,List.length_cons,List.length_nil,ay]);omega),(by(try dsimp only);(try simp only[List.length_append,List.length_cons,List.length_nil]);omega)⟩ (by omega)
 refine  cO (m:=3) (e:=24) #[.int .u16 ((M.recs.getD k ⟨0,0,0,[]⟩).file),.int .u16 ((M.recs.getD k ⟨0,0,0,[]⟩).record),.int .u16 ((M.recs.getD k ⟨0,0,0,[]⟩).count)] fun dw dx cc cd q=>?_
 have aZ:=dh cc (xs:=[(M.recs.getD k ⟨0,0,0,[]⟩).file,(M.recs.getD k ⟨0,0,0,[]⟩).record,(M.recs.getD k ⟨0,0,0,[]⟩).count]) (by as_aux_lemma=>kernel_rfl) (al (by omega) (al (by omega) (al (by omega) aJ))) (by(try simp only[List.length_cons,List.length_nil]);omega) cd
 have Z:=ub q G
 refine bi ⟨(ah Z rfl),(ah Z rfl),(ah Z rfl)⟩ fun dy=>?_
 have b0:=aG d (aG i q)
 refine R0 2 rfl<|bG aX (xs:=L) (ys:=([6])) (.int .u8 0) 1 (aq a (aG s b0) (fun x hx=>aA) (fun _ _ h=>h)) ((aq aL q (fun x hx=>aA) (fun _ _ h=>h))).rd (by(try simp only[List.length_append,List.length_cons,List.length_nil,ay]);omega) (le (le (le (le (le (le g.size f) b.size) c.size) d.size) i.size) q.size) fun a0 dz dA ao t=>?_
 have a1:=aE.blk t (bf (dR a lr B) aA) Z
 refine bi ⟨(ah a1 rfl),(ah a1 rfl),(ah a1 rfl)⟩ fun dB=>?_
 refine R0 10 rfl<|Oc<|dk (bE (xs:=[(M.recs.getD k ⟨0,0,0,[]⟩).file,(M.recs.getD k ⟨0,0,0,[]⟩).record,(M.recs.getD k ⟨0,0,0,[]⟩).count]) ((aq aZ t (fun x hx=>(bf ((fx aZ a (le (le (le b.size c.size) d.size) i.size)) x hx) aA)) (fun _ _ h=>h))).rd (by(try simp only[List.length_cons,List.length_nil]);omega)) fun dD dE dG cf dH dJ u=>?_
 have O:=ub u a1
 refine bi ⟨(ah O rfl),(ah O rfl),(ah O rfl)⟩ fun dK=>?_
 have b1:=aq ao u (fun x hx=>aA) (fun _ _ h=>h)
 refine R0 11 rfl<|bG aX (xs:=(L++[6])) (ys:=(aF ([(M.recs.getD k ⟨0,0,0,[]⟩).file,(M.recs.getD k ⟨0,0,0,[]⟩).record,(M.recs.getD k ⟨0,0,0,[]⟩).count]))) (.int .u8 0) 1 b1 (cf).rd (by(try simp only[List.length_append,List.length_cons,List.length_nil,ay]);omega) (le (le (le (le (le (le (le (le g.size f) b.size) c.size) d.size) i.size) q.size) t.size) u.size) fun b2 dL dM b3 a2=>?_
 have a3:=aE.blk a2 (bf (dI O b1 (by decide)) aA) O
 refine bi ⟨(ah a3 rfl),(ah a3 rfl),(ah a3 rfl)⟩ fun cg=>Rt 12 cg<|re<|bn<|tn<|go<|Pl 2<|L0<|aP a3 3<|?_
 have b4:=ut (aE.mono (S':=(ob A++(ob a0++[]))) b0 av) (ut (aE.mono (S':=(ob A++(ob a0++[]))) t (am il av)) (ut (aE.mono (S':=(ob a0++[])) u av) a2 (am il av)) (am il av)) (am il (am il av))
 refine L0<|Oc<|dk (bE (xs:=(M.recs.getD k ⟨0,0,0,[]⟩).words) (dN.old Q (ut R b4 (am (aM a l.size) (am (aM ao l.size) av)))) (by(try simp only[List.length_cons,List.length_nil]);omega)) fun dO dP dQ ch dS dT a4=>?_
 refine L0<|bG aX (xs:=((L++[6])++(aF ([(M.recs.getD k ⟨0,0,0,[]⟩).file,(M.recs.getD k ⟨0,0,0,[]⟩).record,(M.recs.getD k ⟨0,0,0,[]⟩).count])))) (ys:=(aF ((M.recs.getD k ⟨0,0,0,[]⟩).words))) (.int .u8 0) 1 (aq b3 a4 (fun x hx=>aA) (fun _ _ h=>h)) (ch).rd (by(try simp only[List.length_append,List.length_cons,List.length_nil,ay]);omega) (le (le (le (le (le (le (le (le (le (le g.size f) b.size) c.size) d.size) i.size) q.size) t.size) u.size) a2.size) a4.size) fun ci cj dV ck b5=>Pl 1<|nl<|bn<|tn<|go<|L0<|Oi (((k:Nat) : Int)+1)<|Pl 1<|nl<|?_
 exact gM ((k+1),(((L++[6])++(aF ([(M.recs.getD k ⟨0,0,0,[]⟩).file,(M.recs.getD k ⟨0,0,0,[]⟩).record,(M.recs.getD k ⟨0,0,0,[]⟩).count])))++(aF ((M.recs.getD k ⟨0,0,0,[]⟩).words))),ci,cj) ⟨(ut C (ut (aE.mono (S':=(ob A++(ob a0++(ob b2++[])))) b4 (am il (am il av))) (ut (aE.mono (S':=(ob b2++[])) a4 av) b5 (am il av)) (am il av)) (am (aM a lr) (am (aM ao lr) (am (aM b3 lr) av)))),(le (le (le (le (le (le (le (le (le (le f b.size) c.size) d.size) i.size) q.size) t.size) u.size) a2.size) a4.size) b5.size),ck,(by(try dsimp only);omega),(by(try dsimp only);rw[← hL,dU dir M.code M.recs k (by omega)];simp only[gS,hd0,n,o,bs,if_true,if_false,decide_true,decide_false,List.append_assoc]),(by(try dsimp only);have hv:=hf.recw _ (di ⟨0,0,0,[]⟩ M.recs k (by omega));(try simp only[List.length_append,List.length_cons,List.length_nil,ay]);omega),(by(try dsimp only);(try simp only[List.length_append,List.length_cons,List.length_nil]);omega)⟩ (by omega)
 refine  cO (m:=3) (e:=24) #[.int .u16 ((M.recs.getD k ⟨0,0,0,[]⟩).file),.int .u16 ((M.recs.getD k ⟨0,0,0,[]⟩).record),.int .u16 ((M.recs.getD k ⟨0,0,0,[]⟩).count)] fun dW dX cl cm v=>?_
 have b7:=dh cl (xs:=[(M.recs.getD k ⟨0,0,0,[]⟩).file,(M.recs.getD k ⟨0,0,0,[]⟩).record,(M.recs.getD k ⟨0,0,0,[]⟩).count]) (by as_aux_lemma=>kernel_rfl) (al (by omega) (al (by omega) (al (by omega) aJ))) (by(try simp only[List.length_cons,List.length_nil]);omega) cm
 have a5:=ub v F
 refine bi ⟨(ah a5 rfl),(ah a5 rfl),(ah a5 rfl)⟩ fun dY=>R0 1 rfl<|cO (m:=1) (e:=5) #[.int .u8 6] fun dZ e0 cn co r=>?_
 have cq:=cN cn (xs:=[6]) (by as_aux_lemma=>kernel_rfl) (al (by omega) aJ) (by(try simp only[List.length_cons,List.length_nil]);omega) co
 have a6:=ub r a5
 refine bi ⟨(ah a6 rfl),(ah a6 rfl),(ah a6 rfl)⟩ fun e1=>?_
 have b8:=aG d (aG v r)
 refine R0 2 rfl<|bG aX (xs:=L) (ys:=([6])) (.int .u8 0) 1 (aq a (aG s b8) (fun x hx=>aA) (fun _ _ h=>h)) (cq).rd (by(try simp only[List.length_append,List.length_cons,List.length_nil,ay]);omega) (le (le (le (le (le (le g.size f) b.size) c.size) d.size) v.size) r.size) fun a7 e2 e3 ap y=>?_
 have a8:=aE.blk y (bf (dR a lr B) aA) a6
 refine bi ⟨(ah a8 rfl),(ah a8 rfl),(ah a8 rfl)⟩ fun e4=>?_
 refine R0 10 rfl<|Oc<|dk (bE (xs:=[(M.recs.getD k ⟨0,0,0,[]⟩).file,(M.recs.getD k ⟨0,0,0,[]⟩).record,(M.recs.getD k ⟨0,0,0,[]⟩).count]) ((aq b7 (ut (aE.mono (S':=(ob A++[])) r av) y (am il av)) (fun x hx=>(bf ((fx b7 a (le (le b.size c.size) d.size)) x hx) aA)) (fun _ _ h=>h))).rd (by(try simp only[List.length_cons,List.length_nil]);omega)) fun e5 e6 e7 cr e8 e9 z=>?_
 have P:=ub z a8
 refine bi ⟨(ah P rfl),(ah P rfl),(ah P rfl)⟩ fun ea=>?_
 have b9:=aq ap z (fun x hx=>aA) (fun _ _ h=>h)
 refine R0 11 rfl<|bG aX (xs:=(L++[6])) (ys:=(aF ([(M.recs.getD k ⟨0,0,0,[]⟩).file,(M.recs.getD k ⟨0,0,0,[]⟩).record,(M.recs.getD k ⟨0,0,0,[]⟩).count]))) (.int .u8 0) 1 b9 (cr).rd (by(try simp only[List.length_append,List.length_cons,List.length_nil,ay]);omega) (le (le (le (le (le (le (le (le g.size f) b.size) c.size) d.size) v.size) r.size) y.size) z.size) fun ba eb ec bb a9=>?_
 have aa:=aE.blk a9 (bf (dI P b9 (by decide)) aA) P
 refine bi ⟨(ah aa rfl),(ah aa rfl),(ah aa rfl)⟩ fun ct=>Rt 12 ct<|re<|bn<|tn<|go<|Pl 2<|L0<|aP aa 3<|?_
 have bc:=ut (aE.mono (S':=(ob A++(ob a7++[]))) b8 av) (ut (aE.mono (S':=(ob A++(ob a7++[]))) y (am il av)) (ut (aE.mono (S':=(ob a7++[])) z av) a9 (am il av)) (am il av)) (am il (am il av))
 refine L0<|Oc<|dk (bE (xs:=(M.recs.getD k ⟨0,0,0,[]⟩).words) (dN.old Q (ut R bc (am (aM a l.size) (am (aM ap l.size) av)))) (by(try simp only[List.length_cons,List.length_nil]);omega)) fun ed ee ef cv eg eh ab=>?_
 refine L0<|bG aX (xs:=((L++[6])++(aF ([(M.recs.getD k ⟨0,0,0,[]⟩).file,(M.recs.getD k ⟨0,0,0,[]⟩).record,(M.recs.getD k ⟨0,0,0,[]⟩).count])))) (ys:=(aF ((M.recs.getD k ⟨0,0,0,[]⟩).words))) (.int .u8 0) 1 (aq bb ab (fun x hx=>aA) (fun _ _ h=>h)) (cv).rd (by(try simp only[List.length_append,List.length_cons,List.length_nil,ay]);omega) (le (le (le (le (le (le (le (le (le (le g.size f) b.size) c.size) d.size) v.size) r.size) y.size) z.size) a9.size) ab.size) fun cw cx ei cy bd=>Pl 1<|nl<|bn<|tn<|go<|L0<|Oi (((k:Nat) : Int)+1)<|Pl 1<|nl<|?_
 exact gM ((k+1),(((L++[6])++(aF ([(M.recs.getD k ⟨0,0,0,[]⟩).file,(M.recs.getD k ⟨0,0,0,[]⟩).record,(M.recs.getD k ⟨0,0,0,[]⟩).count])))++(aF ((M.recs.getD k ⟨0,0,0,[]⟩).words))),cw,cx) ⟨(ut C (ut (aE.mono (S':=(ob A++(ob a7++(ob ba++[])))) bc (am il (am il av))) (ut (aE.mono (S':=(ob ba++[])) ab av) bd (am il av)) (am il av)) (am (aM a lr) (am (aM ap lr) (am (aM bb lr) av)))),(le (le (le (le (le (le (le (le (le (le f b.size) c.size) d.size) v.size) r.size) y.size) z.size) a9.size) ab.size) bd.size),cy,(by(try dsimp only);omega),(by(try dsimp only);rw[← hL,dU dir M.code M.recs k (by omega)];simp only[gS,hd0,n,o,bs,if_true,if_false,decide_true,decide_false,List.append_assoc]),(by(try dsimp only);have hv:=hf.recw _ (di ⟨0,0,0,[]⟩ M.recs k (by omega));(try simp only[List.length_append,List.length_cons,List.length_nil,ay]);omega),(by(try dsimp only);(try simp only[List.length_append,List.length_cons,List.length_nil]);omega)⟩ (by omega)
 have bL:=of_decide_eq_false n
 refine xt<|tx<|tx<|bx<|tn<|sg<|Pl 3<|L0<|Oi (((L.length:Nat) : Int)-1)<|Pl 1<|gV (bo.at_ (a).rd 0 (by omega)) fun ej ek bg el em=>L0<|mc L.length 0 bg (by omega)<|L0<|we aX (j:=0) a bg (by omega) ((((L.length:Nat) : Int)-1)%256) (fun _=>⟨rfl,by omega⟩) fun eo cz cA=>nl<|?_
 refine tn<|sg<|Pl 2<|nt<|rt<|rr (.slice A L.length cp)<|?_
 have hk:k=M.recs.length:=by omega
 rw[hk,List.drop_length] at hL
 have hL2:[0]++cF dir M.code M.recs=L:=by rw[← hL];simp[cF]
 have hs:cI dir M=(L.set 0 ((((L.length:Nat) : Int)-1)%256)):=by unfold cI;rw[hL2]
 rw[hs]
 exact⟨_,rfl,(aV.weaken cz l.size),(ut ad cA (am (aM a l.size) av))⟩
theorem ny{m:Md}{cs:Array Value}{M:aQ}{w:World}{dir:Int}(h:aO m w cs.toList M)(hf:bU M)(hd0:(dir==0)=false) : Calls Tryz.prog 212 #[.int .i64 dir,.agg cs] w (fy (cI dir M) w):=by
 obtain⟨vw,vb,vd,vr,vo,h0,hw,hbt,hd,hr,ho,hR⟩:=h
 obtain rfl:cs=(bu M vw vb vd vr vo).toArray:=by apply Array.toList_inj.1;simpa using h0
 clear h0
 obtain⟨Aw,kw,rfl,_,_⟩:=hw.shape
 obtain⟨Ab,kb,rfl,_,_⟩:=hbt.shape
 obtain⟨Ad,kd,rfl,_,_⟩:=hd.shape
 obtain⟨Ar,kr,rfl,_,_⟩:=hr.shape
 obtain⟨Ao,ko,rfl,_,_⟩:=ho.shape
 obtain⟨q0,q1,q2,q3,q4,q5,q6,q7,q8,q9,bh,bj,bm,bq,br,bt,bv⟩:=hR
 simp only[B8,dF] at q0 q1 q2 q3 q4 q5 q6 q7 q8 q9 bh bj bm bq br bt bv
 have hf1:=hf.words
 have hf2:=hf.bits
 have hf3:=hf.data
 have hf4:=hf.recs
 have hf5:=hf.objects
 refine en 58 Tryz.func212 rfl<|sg<|L0<|dC (mG M.code M.fail M.addr M.count M.value M.and_ M.or_ M.addr2 M.sub M.status M.events M.messages (.slice Aw M.words.length kw) (.slice Ab M.bits.length kb) (.slice Ad M.data.length kd) (.slice Ar M.recs.length kr) M.mei M.kind M.level M.more M.next (.slice Ao M.objects.length ko)) fun ar ac cB au l=>Pl 1<|ng<|L0<|cO (m:=1) (e:=5) #[.int .u8 0] fun bw bz bA bB g=>?_
 have bC:=cN bA (xs:=[0]) (by as_aux_lemma=>kernel_rfl) (al (by omega) aJ) (by(try simp only[List.length_cons,List.length_nil]);omega) bB
 refine Pl 1<|nt<|sq<|sg<|Pl 1<|?_
 refine L0<|aP (ub g au) 15<|Pl 2<|nt<|bk<|?_
 refine jf (fun x=>[(0,.int .i64 dir),(3,.pointer (some ⟨ar,0,none⟩)),(4,.slice none 0 0),(5,.slice x.2.2.1 x.2.1.length x.2.2.2),(10,.slice Ar M.recs.length kr),(11,.int .i64 ((M.recs.length:Nat) : Int)),(12,.int .i64 ((x.1:Nat) : Int))]) (fun(x:Nat × List Int × Option Addr × Nat) w'=>aE [] ac w'∧bz.heap.size≤w'.heap.size∧eY ac.heap.size w' (.slice x.2.2.1 x.2.1.length x.2.2.2) x.2.1∧(x.1≤M.recs.length)∧(x.2.1++cF dir M.code (M.recs.drop x.1)=([0])++cF dir M.code M.recs)∧(x.2.1.length≤16+x.1*2060)∧(1≤x.2.1.length)) (fun x=>M.recs.length-x.1) (0,[0],some ⟨bw,0,none⟩,1) ⟨g,lr,bC,(by(try dsimp only);omega),rfl,(by(try dsimp only);(try simp only[List.length_cons,List.length_nil]);omega),(by(try dsimp only);(try simp only[List.length_cons,List.length_nil]);omega)⟩ ?_
 rintro⟨k,L,A,cp⟩ bD ⟨aw,f,bF,bH,bI,bJ,bK⟩
 refine jj [(0,.int .i64 dir),(3,.pointer (some ⟨ar,0,none⟩)),(4,.slice none 0 0),(5,.slice A L.length cp),(10,.slice Ar M.recs.length kr),(11,.int .i64 ((M.recs.length:Nat) : Int)),(12,.int .i64 ((k:Nat) : Int))] ?_
 have a:eY ac.heap.size bD (.slice A L.length cp) L:=bF
 have cC:k≤M.recs.length:=bH
 have cD:L++cF dir M.code (M.recs.drop k)=([0])++cF dir M.code M.recs:=bI
 have cE:L.length≤16+k*2060:=bJ
 have cG:1≤L.length:=bK
 have hL:L++cF dir M.code (M.recs.drop k)=([0])++cF dir M.code M.recs:=by assumption
 have hv0:=fun(h:k<M.recs.length)=>hf.recw _ (di ⟨0,0,0,[]⟩ M.recs k h)
 refine sg<|Pl 1<|nt<|sq<|?_
 have ad:=aG l aw
 refine cb ((decide (((k:Nat) : Int)<((M.recs.length:Nat) : Int)))) (fun n=>?_) (fun n=>?_)
 have bL:=of_decide_eq_true n
 refine bp<|sq<|bk<|sg<|iY (kf.elt hr k (by omega)) fun cH cJ cK cL cM ax az bM bN Q cP bO=>L0<|mA 4 M.recs.length k bM (by omega)<|?_
 refine L0<|w7 [.int .u16 ((M.recs.getD k ⟨0,0,0,[]⟩).file),.int .u16 ((M.recs.getD k ⟨0,0,0,[]⟩).record),.int .u16 ((M.recs.getD k ⟨0,0,0,[]⟩).count),.slice ax ((M.recs.getD k ⟨0,0,0,[]⟩).words.length) az] (ub ad bN) bO<|L0<|bQ #[.int .u16 0,.int .u16 0,.int .u16 0,.slice none 0 0] fun af cQ B bP b=>L0<|be bP #[.int .u16 ((M.recs.getD k ⟨0,0,0,[]⟩).file),.int .u16 ((M.recs.getD k ⟨0,0,0,[]⟩).record),.int .u16 ((M.recs.getD k ⟨0,0,0,[]⟩).count),.slice ax ((M.recs.getD k ⟨0,0,0,[]⟩).words.length) az] fun cR ag c=>nt<|sq<|bk<|sg<|Pl 1<|?_
 have s:=ud b c B
 have C:=aG aw s
 refine L0<|aP (ub C au) 0<|Pl 2<|cu 3 [32] 35 (((M.code==20)&&(dir==1))) (fun K aB=>?_) ?_
 refine bl 32 ((M.code==20)) (fun D=>?_) (fun D=>?_)
 have bR:=ae D
 exact Pl 3<|ce aB (dir==1) (by rw[D];rfl)
 have bR:=ak D
 exact Pl 3<|ce aB false (by rw[D];rfl)
 refine Pl 1<|nt<|?_
 have R:=aG ad s
 refine cb (((M.code==20)&&(dir==1))) (fun o=>?_) (fun o=>?_)
 have aC:=(b6 o).1
 have aD:=(b6 o).2
 have cS:=ae aC
 have cT:=ae aD
 refine go<|Pl 2<|L0<|aP ag 3<|Pl 1<|L0<|Oi (2*(((M.recs.getD k ⟨0,0,0,[]⟩).words.length:Nat) : Int))<|L0<|Oi (1+(2*(((M.recs.getD k ⟨0,0,0,[]⟩).words.length:Nat) : Int)))<|Pl 1<|L0<|cO (m:=2) (e:=5) #[.int .u8 ((1+(2*(((M.recs.getD k ⟨0,0,0,[]⟩).words.length:Nat) : Int)))%256),.int .u8 6] fun cU cV bS bT E=>?_
 have bV:=cN bS (xs:=[((1+(2*(((M.recs.getD k ⟨0,0,0,[]⟩).words.length:Nat) : Int)))%256),6]) (by as_aux_lemma=>kernel_rfl) (al (by omega) (al (by omega) aJ)) (by(try simp only[List.length_cons,List.length_nil]);omega) bT
 refine L0<|bG aX (xs:=L) (ys:=([((1+(2*(((M.recs.getD k ⟨0,0,0,[]⟩).words.length:Nat) : Int)))%256),6])) (.int .u8 0) 1 (aq a (aG s E) (fun x hx=>aA) (fun _ _ h=>h)) (bV).rd (by(try simp only[List.length_append,List.length_cons,List.length_nil,ay]);omega) (le (le (le (le g.size f) b.size) c.size) E.size) fun aH cW cX aI ai=>Pl 1<|nl<|bn<|tn<|go<|Pl 2<|?_
 have aj:=ut (aE.mono (S':=(ob A++[])) E av) ai (am il av)
 refine L0<|aP (aE.blk aj (bf (dR a lr B) aA) ag) 3<|?_
 refine L0<|Oc<|dk (bE (xs:=(M.recs.getD k ⟨0,0,0,[]⟩).words) (dN.old Q (ut R aj (am (aM a l.size) av))) (by(try simp only[List.length_cons,List.length_nil]);omega)) fun cY cZ d0 bW d1 d2 S=>?_
 refine L0<|bG aX (xs:=(L++[((1+(2*(((M.recs.getD k ⟨0,0,0,[]⟩).words.length:Nat) : Int)))%256),6])) (ys:=(aF ((M.recs.getD k ⟨0,0,0,[]⟩).words))) (.int .u8 0) 1 (aq aI S (fun x hx=>aA) (fun _ _ h=>h)) (bW).rd (by(try simp only[List.length_append,List.length_cons,List.length_nil,ay]);omega) (le (le (le (le (le (le g.size f) b.size) c.size) E.size) ai.size) S.size) fun bX bY d3 bZ aK=>Pl 1<|nl<|bn<|tn<|go<|L0<|Oi (((k:Nat) : Int)+1)<|Pl 1<|nl<|?_
 exact gM ((k+1),((L++[((1+(2*(((M.recs.getD k ⟨0,0,0,[]⟩).words.length:Nat) : Int)))%256),6])++(aF ((M.recs.getD k ⟨0,0,0,[]⟩).words))),bX,bY) ⟨(ut C (ut (aE.mono (S':=(ob A++(ob aH++[]))) aj (am il av)) (ut (aE.mono (S':=(ob aH++[])) S av) aK (am il av)) (am il av)) (am (aM a lr) (am (aM aI lr) av))),(le (le (le (le (le (le f b.size) c.size) E.size) ai.size) S.size) aK.size),bZ,(by(try dsimp only);omega),(by(try dsimp only);rw[← hL,dU dir M.code M.recs k (by omega)];simp only[gS,hd0,n,o,aC,aD,bs,if_true,if_false,decide_true,decide_false,List.append_assoc]),(by(try dsimp only);have hv:=hf.recw _ (di ⟨0,0,0,[]⟩ M.recs k (by omega));(try simp only[List.length_append,List.length_cons,List.length_nil,ay]);omega),(by(try dsimp only);(try simp only[List.length_append,List.length_cons,List.length_nil]);omega)⟩ (by omega)
 refine Rg 13 (fun w'=>w'.cell? ⟨af,0,none⟩=some (.int .u16 ((M.recs.getD k ⟨0,0,0,[]⟩).file))∧w'.cell? ⟨af,1,none⟩=some (.int .u16 ((M.recs.getD k ⟨0,0,0,[]⟩).record))∧w'.cell? ⟨af,2,none⟩=some (.int .u16 ((M.recs.getD k ⟨0,0,0,[]⟩).count))) fun d4 d=>?_
 have F:=ub d ag
 refine bi ⟨(ah F rfl),(ah F rfl),(ah F rfl)⟩ fun p=>Rt 0 p<|Rt 3 p<|Rl 4 p (fun _ hs=>hs.1)<|Rt 5 p<|Rl 6 p (fun _ hs=>hs.2.1)<|Rt 7 p<|Rl 8 p (fun _ hs=>hs.2.2)<|?_
 refine R2 1 9 rfl rfl ?_ ?_
 refine  cO (m:=1) (e:=5) #[.int .u8 6] fun d5 d6 c0 c1 i=>?_
 have aL:=cN c0 (xs:=[6]) (by as_aux_lemma=>kernel_rfl) (al (by omega) aJ) (by(try simp only[List.length_cons,List.length_nil]);omega) c1
 have G:=ub i F
 refine bi ⟨(ah G rfl),(ah G rfl),(ah G rfl)⟩ fun d7=>?_
 refine R2 2 9 rfl rfl ?_ ?_
 have aN:=aG d i
 refine  bG aX (xs:=L) (ys:=([6])) (.int .u8 0) 1 (aq a (aG s aN) (fun x hx=>aA) (fun _ _ h=>h)) (aL).rd (by(try simp only[List.length_append,List.length_cons,List.length_nil,ay]);omega) (le (le (le (le (le g.size f) b.size) c.size) d.size) i.size) fun T d8 d9 an H=>?_
 have U:=aE.blk H (bf (dR a lr B) aA) G
 refine bi ⟨(ah U rfl),(ah U rfl),(ah U rfl)⟩ fun da=>R0 9 rfl<|cO (m:=3) (e:=24) #[.int .u16 ((M.recs.getD k ⟨0,0,0,[]⟩).file),.int .u16 ((M.recs.getD k ⟨0,0,0,[]⟩).record),.int .u16 ((M.recs.getD k ⟨0,0,0,[]⟩).count)] fun db dc c2 c3 I=>?_
 have c4:=dh c2 (xs:=[(M.recs.getD k ⟨0,0,0,[]⟩).file,(M.recs.getD k ⟨0,0,0,[]⟩).record,(M.recs.getD k ⟨0,0,0,[]⟩).count]) (by as_aux_lemma=>kernel_rfl) (al (by omega) (al (by omega) (al (by omega) aJ))) (by(try simp only[List.length_cons,List.length_nil]);omega) c3
 have V:=ub I U
 refine bi ⟨(ah V rfl),(ah V rfl),(ah V rfl)⟩ fun dd=>R0 10 rfl<|Oc<|dk (bE (xs:=[(M.recs.getD k ⟨0,0,0,[]⟩).file,(M.recs.getD k ⟨0,0,0,[]⟩).record,(M.recs.getD k ⟨0,0,0,[]⟩).count]) (c4).rd (by(try simp only[List.length_cons,List.length_nil]);omega)) fun de df dg c5 dj dl J=>?_
 have N:=ub J V
 refine bi ⟨(ah N rfl),(ah N rfl),(ah N rfl)⟩ fun dm=>?_
 have aR:=aG I J
 have aS:=aq an aR (fun x hx=>aA) (fun _ _ h=>h)
 refine R0 11 rfl<|bG aX (xs:=(L++[6])) (ys:=(aF ([(M.recs.getD k ⟨0,0,0,[]⟩).file,(M.recs.getD k ⟨0,0,0,[]⟩).record,(M.recs.getD k ⟨0,0,0,[]⟩).count]))) (.int .u8 0) 1 aS (c5).rd (by(try simp only[List.length_append,List.length_cons,List.length_nil,ay]);omega) (le (le (le (le (le (le (le (le g.size f) b.size) c.size) d.size) i.size) H.size) I.size) J.size) fun aT dn dp aU W=>?_
 have X:=aE.blk W (bf (dI N aS (by decide)) aA) N
 refine bi ⟨(ah X rfl),(ah X rfl),(ah X rfl)⟩ fun c6=>Rt 12 c6<|re<|bn<|tn<|go<|Pl 2<|L0<|aP X 3<|?_
 have aW:=ut (aE.mono (S':=(ob A++(ob T++[]))) aN av) (ut (aE.mono (S':=(ob A++(ob T++[]))) H (am il av)) (ut (aE.mono (S':=(ob T++[])) aR av) W (am il av)) (am il av)) (am il (am il av))
 refine L0<|Oc<|dk (bE (xs:=(M.recs.getD k ⟨0,0,0,[]⟩).words) (dN.old Q (ut R aW (am (aM a l.size) (am (aM an l.size) av)))) (by(try simp only[List.length_cons,List.length_nil]);omega)) fun dq dr ds c7 dt du Y=>?_
 refine L0<|bG aX (xs:=((L++[6])++(aF ([(M.recs.getD k ⟨0,0,0,[]⟩).file,(M.recs.getD k ⟨0,0,0,[]⟩).record,(M.recs.getD k ⟨0,0,0,[]⟩).count])))) (ys:=(aF ((M.recs.getD k ⟨0,0,0,[]⟩).words))) (.int .u8 0) 1 (aq aU Y (fun x hx=>aA) (fun _ _ h=>h)) (c7).rd (by(try simp only[List.length_append,List.length_cons,List.length_nil,ay]);omega) (le (le (le (le (le (le (le (le (le (le g.size f) b.size) c.size) d.size) i.size) H.size) I.size) J.size) W.size) Y.size) fun c8 c9 dv ca aY=>Pl 1<|nl<|bn<|tn<|go<|L0<|Oi (((k:Nat) : Int)+1)<|Pl 1<|nl<|?_
 exact gM ((k+1),(((L++[6])++(aF ([(M.recs.getD k ⟨0,0,0,[]⟩).file,(M.recs.getD k ⟨0,0,0,[]⟩).record,(M.recs.getD k ⟨0,0,0,[]⟩).count])))++(aF ((M.recs.getD k ⟨0,0,0,[]⟩).words))),c8,c9) ⟨(ut C (ut (aE.mono (S':=(ob A++(ob T++(ob aT++[])))) aW (am il (am il av))) (ut (aE.mono (S':=(ob aT++[])) Y av) aY (am il av)) (am il av)) (am (aM a lr) (am (aM an lr) (am (aM aU lr) av)))),(le (le (le (le (le (le (le (le (le (le f b.size) c.size) d.size) i.size) H.size) I.size) J.size) W.size) Y.size) aY.size),ca,(by(try dsimp only);omega),(by(try dsimp only);rw[← hL,dU dir M.code M.recs k (by omega)];simp only[gS,hd0,n,o,bs,if_true,if_false,decide_true,decide_false,List.append_assoc]),(by(try dsimp only);have hv:=hf.recw _ (di ⟨0,0,0,[]⟩ M.recs k (by omega));(try simp only[List.length_append,List.length_cons,List.length_nil,ay]);omega),(by(try dsimp only);(try simp only[List.length_append,List.length_cons,List.length_nil]);omega)⟩ (by omega)
 refine  cO (m:=3) (e:=24) #[.int .u16 ((M.recs.getD k ⟨0,0,0,[]⟩).file),.int .u16 ((M.recs.getD k ⟨0,0,0,[]⟩).record),.int .u16 ((M.recs.getD k ⟨0,0,0,[]⟩).count)] fun dw dx cc cd q=>?_
 have aZ:=dh cc (xs:=[(M.recs.getD k ⟨0,0,0,[]⟩).file,(M.recs.getD k ⟨0,0,0,[]⟩).record,(M.recs.getD k ⟨0,0,0,[]⟩).count]) (by as_aux_lemma=>kernel_rfl) (al (by omega) (al (by omega) (al (by omega) aJ))) (by(try simp only[List.length_cons,List.length_nil]);omega) cd
 have Z:=ub q G
 refine bi ⟨(ah Z rfl),(ah Z rfl),(ah Z rfl)⟩ fun dy=>?_
 have b0:=aG d (aG i q)
 refine R0 2 rfl<|bG aX (xs:=L) (ys:=([6])) (.int .u8 0) 1 (aq a (aG s b0) (fun x hx=>aA) (fun _ _ h=>h)) ((aq aL q (fun x hx=>aA) (fun _ _ h=>h))).rd (by(try simp only[List.length_append,List.length_cons,List.length_nil,ay]);omega) (le (le (le (le (le (le g.size f) b.size) c.size) d.size) i.size) q.size) fun a0 dz dA ao t=>?_
 have a1:=aE.blk t (bf (dR a lr B) aA) Z
 refine bi ⟨(ah a1 rfl),(ah a1 rfl),(ah a1 rfl)⟩ fun dB=>?_
 refine R0 10 rfl<|Oc<|dk (bE (xs:=[(M.recs.getD k ⟨0,0,0,[]⟩).file,(M.recs.getD k ⟨0,0,0,[]⟩).record,(M.recs.getD k ⟨0,0,0,[]⟩).count]) ((aq aZ t (fun x hx=>(bf ((fx aZ a (le (le (le b.size c.size) d.size) i.size)) x hx) aA)) (fun _ _ h=>h))).rd (by(try simp only[List.length_cons,List.length_nil]);omega)) fun dD dE dG cf dH dJ u=>?_
 have O:=ub u a1
 refine bi ⟨(ah O rfl),(ah O rfl),(ah O rfl)⟩ fun dK=>?_
 have b1:=aq ao u (fun x hx=>aA) (fun _ _ h=>h)
 refine R0 11 rfl<|bG aX (xs:=(L++[6])) (ys:=(aF ([(M.recs.getD k ⟨0,0,0,[]⟩).file,(M.recs.getD k ⟨0,0,0,[]⟩).record,(M.recs.getD k ⟨0,0,0,[]⟩).count]))) (.int .u8 0) 1 b1 (cf).rd (by(try simp only[List.length_append,List.length_cons,List.length_nil,ay]);omega) (le (le (le (le (le (le (le (le g.size f) b.size) c.size) d.size) i.size) q.size) t.size) u.size) fun b2 dL dM b3 a2=>?_
 have a3:=aE.blk a2 (bf (dI O b1 (by decide)) aA) O
 refine bi ⟨(ah a3 rfl),(ah a3 rfl),(ah a3 rfl)⟩ fun cg=>Rt 12 cg<|re<|bn<|tn<|go<|Pl 2<|L0<|aP a3 3<|?_
 have b4:=ut (aE.mono (S':=(ob A++(ob a0++[]))) b0 av) (ut (aE.mono (S':=(ob A++(ob a0++[]))) t (am il av)) (ut (aE.mono (S':=(ob a0++[])) u av) a2 (am il av)) (am il av)) (am il (am il av))
 refine L0<|Oc<|dk (bE (xs:=(M.recs.getD k ⟨0,0,0,[]⟩).words) (dN.old Q (ut R b4 (am (aM a l.size) (am (aM ao l.size) av)))) (by(try simp only[List.length_cons,List.length_nil]);omega)) fun dO dP dQ ch dS dT a4=>?_
 refine L0<|bG aX (xs:=((L++[6])++(aF ([(M.recs.getD k ⟨0,0,0,[]⟩).file,(M.recs.getD k ⟨0,0,0,[]⟩).record,(M.recs.getD k ⟨0,0,0,[]⟩).count])))) (ys:=(aF ((M.recs.getD k ⟨0,0,0,[]⟩).words))) (.int .u8 0) 1 (aq b3 a4 (fun x hx=>aA) (fun _ _ h=>h)) (ch).rd (by(try simp only[List.length_append,List.length_cons,List.length_nil,ay]);omega) (le (le (le (le (le (le (le (le (le (le g.size f) b.size) c.size) d.size) i.size) q.size) t.size) u.size) a2.size) a4.size) fun ci cj dV ck b5=>Pl 1<|nl<|bn<|tn<|go<|L0<|Oi (((k:Nat) : Int)+1)<|Pl 1<|nl<|?_
 exact gM ((k+1),(((L++[6])++(aF ([(M.recs.getD k ⟨0,0,0,[]⟩).file,(M.recs.getD k ⟨0,0,0,[]⟩).record,(M.recs.getD k ⟨0,0,0,[]⟩).count])))++(aF ((M.recs.getD k ⟨0,0,0,[]⟩).words))),ci,cj) ⟨(ut C (ut (aE.mono (S':=(ob A++(ob a0++(ob b2++[])))) b4 (am il (am il av))) (ut (aE.mono (S':=(ob b2++[])) a4 av) b5 (am il av)) (am il av)) (am (aM a lr) (am (aM ao lr) (am (aM b3 lr) av)))),(le (le (le (le (le (le (le (le (le (le f b.size) c.size) d.size) i.size) q.size) t.size) u.size) a2.size) a4.size) b5.size),ck,(by(try dsimp only);omega),(by(try dsimp only);rw[← hL,dU dir M.code M.recs k (by omega)];simp only[gS,hd0,n,o,bs,if_true,if_false,decide_true,decide_false,List.append_assoc]),(by(try dsimp only);have hv:=hf.recw _ (di ⟨0,0,0,[]⟩ M.recs k (by omega));(try simp only[List.length_append,List.length_cons,List.length_nil,ay]);omega),(by(try dsimp only);(try simp only[List.length_append,List.length_cons,List.length_nil]);omega)⟩ (by omega)
 refine  cO (m:=3) (e:=24) #[.int .u16 ((M.recs.getD k ⟨0,0,0,[]⟩).file),.int .u16 ((M.recs.getD k ⟨0,0,0,[]⟩).record),.int .u16 ((M.recs.getD k ⟨0,0,0,[]⟩).count)] fun dW dX cl cm v=>?_
 have b7:=dh cl (xs:=[(M.recs.getD k ⟨0,0,0,[]⟩).file,(M.recs.getD k ⟨0,0,0,[]⟩).record,(M.recs.getD k ⟨0,0,0,[]⟩).count]) (by as_aux_lemma=>kernel_rfl) (al (by omega) (al (by omega) (al (by omega) aJ))) (by(try simp only[List.length_cons,List.length_nil]);omega) cm
 have a5:=ub v F
 refine bi ⟨(ah a5 rfl),(ah a5 rfl),(ah a5 rfl)⟩ fun dY=>R0 1 rfl<|cO (m:=1) (e:=5) #[.int .u8 6] fun dZ e0 cn co r=>?_
 have cq:=cN cn (xs:=[6]) (by as_aux_lemma=>kernel_rfl) (al (by omega) aJ) (by(try simp only[List.length_cons,List.length_nil]);omega) co
 have a6:=ub r a5
 refine bi ⟨(ah a6 rfl),(ah a6 rfl),(ah a6 rfl)⟩ fun e1=>?_
 have b8:=aG d (aG v r)
 refine R0 2 rfl<|bG aX (xs:=L) (ys:=([6])) (.int .u8 0) 1 (aq a (aG s b8) (fun x hx=>aA) (fun _ _ h=>h)) (cq).rd (by(try simp only[List.length_append,List.length_cons,List.length_nil,ay]);omega) (le (le (le (le (le (le g.size f) b.size) c.size) d.size) v.size) r.size) fun a7 e2 e3 ap y=>?_
 have a8:=aE.blk y (bf (dR a lr B) aA) a6
 refine bi ⟨(ah a8 rfl),(ah a8 rfl),(ah a8 rfl)⟩ fun e4=>?_
 refine R0 10 rfl<|Oc<|dk (bE (xs:=[(M.recs.getD k ⟨0,0,0,[]⟩).file,(M.recs.getD k ⟨0,0,0,[]⟩).record,(M.recs.getD k ⟨0,0,0,[]⟩).count]) ((aq b7 (ut (aE.mono (S':=(ob A++[])) r av) y (am il av)) (fun x hx=>(bf ((fx b7 a (le (le b.size c.size) d.size)) x hx) aA)) (fun _ _ h=>h))).rd (by(try simp only[List.length_cons,List.length_nil]);omega)) fun e5 e6 e7 cr e8 e9 z=>?_
 have P:=ub z a8
 refine bi ⟨(ah P rfl),(ah P rfl),(ah P rfl)⟩ fun ea=>?_
 have b9:=aq ap z (fun x hx=>aA) (fun _ _ h=>h)
 refine R0 11 rfl<|bG aX (xs:=(L++[6])) (ys:=(aF ([(M.recs.getD k ⟨0,0,0,[]⟩).file,(M.recs.getD k ⟨0,0,0,[]⟩).record,(M.recs.getD k ⟨0,0,0,[]⟩).count]))) (.int .u8 0) 1 b9 (cr).rd (by(try simp only[List.length_append,List.length_cons,List.length_nil,ay]);omega) (le (le (le (le (le (le (le (le g.size f) b.size) c.size) d.size) v.size) r.size) y.size) z.size) fun ba eb ec bb a9=>?_
 have aa:=aE.blk a9 (bf (dI P b9 (by decide)) aA) P
 refine bi ⟨(ah aa rfl),(ah aa rfl),(ah aa rfl)⟩ fun ct=>Rt 12 ct<|re<|bn<|tn<|go<|Pl 2<|L0<|aP aa 3<|?_
 have bc:=ut (aE.mono (S':=(ob A++(ob a7++[]))) b8 av) (ut (aE.mono (S':=(ob A++(ob a7++[]))) y (am il av)) (ut (aE.mono (S':=(ob a7++[])) z av) a9 (am il av)) (am il av)) (am il (am il av))
 refine L0<|Oc<|dk (bE (xs:=(M.recs.getD k ⟨0,0,0,[]⟩).words) (dN.old Q (ut R bc (am (aM a l.size) (am (aM ap l.size) av)))) (by(try simp only[List.length_cons,List.length_nil]);omega)) fun ed ee ef cv eg eh ab=>?_
 refine L0<|bG aX (xs:=((L++[6])++(aF ([(M.recs.getD k ⟨0,0,0,[]⟩).file,(M.recs.getD k ⟨0,0,0,[]⟩).record,(M.recs.getD k ⟨0,0,0,[]⟩).count])))) (ys:=(aF ((M.recs.getD k ⟨0,0,0,[]⟩).words))) (.int .u8 0) 1 (aq bb ab (fun x hx=>aA) (fun _ _ h=>h)) (cv).rd (by(try simp only[List.length_append,List.length_cons,List.length_nil,ay]);omega) (le (le (le (le (le (le (le (le (le (le g.size f) b.size) c.size) d.size) v.size) r.size) y.size) z.size) a9.size) ab.size) fun cw cx ei cy bd=>Pl 1<|nl<|bn<|tn<|go<|L0<|Oi (((k:Nat) : Int)+1)<|Pl 1<|nl<|?_
 exact gM ((k+1),(((L++[6])++(aF ([(M.recs.getD k ⟨0,0,0,[]⟩).file,(M.recs.getD k ⟨0,0,0,[]⟩).record,(M.recs.getD k ⟨0,0,0,[]⟩).count])))++(aF ((M.recs.getD k ⟨0,0,0,[]⟩).words))),cw,cx) ⟨(ut C (ut (aE.mono (S':=(ob A++(ob a7++(ob ba++[])))) bc (am il (am il av))) (ut (aE.mono (S':=(ob ba++[])) ab av) bd (am il av)) (am il av)) (am (aM a lr) (am (aM ap lr) (am (aM bb lr) av)))),(le (le (le (le (le (le (le (le (le (le f b.size) c.size) d.size) v.size) r.size) y.size) z.size) a9.size) ab.size) bd.size),cy,(by(try dsimp only);omega),(by(try dsimp only);rw[← hL,dU dir M.code M.recs k (by omega)];simp only[gS,hd0,n,o,bs,if_true,if_false,decide_true,decide_false,List.append_assoc]),(by(try dsimp only);have hv:=hf.recw _ (di ⟨0,0,0,[]⟩ M.recs k (by omega));(try simp only[List.length_append,List.length_cons,List.length_nil,ay]);omega),(by(try dsimp only);(try simp only[List.length_append,List.length_cons,List.length_nil]);omega)⟩ (by omega)
 have bL:=of_decide_eq_false n
 refine xt<|tx<|tx<|bx<|tn<|sg<|Pl 3<|L0<|Oi (((L.length:Nat) : Int)-1)<|Pl 1<|gV (bo.at_ (a).rd 0 (by omega)) fun ej ek bg el em=>L0<|mc L.length 0 bg (by omega)<|L0<|we aX (j:=0) a bg (by omega) ((((L.length:Nat) : Int)-1)%256) (fun _=>⟨rfl,by omega⟩) fun eo cz cA=>nl<|?_
 refine tn<|sg<|Pl 2<|nt<|rt<|rr (.slice A L.length cp)<|?_
 have hk:k=M.recs.length:=by omega
 rw[hk,List.drop_length] at hL
 have hL2:[0]++cF dir M.code M.recs=L:=by rw[← hL];simp[cF]
 have hs:cI dir M=(L.set 0 ((((L.length:Nat) : Int)-1)%256)):=by unfold cI;rw[hL2]
 rw[hs]
 exact⟨_,rfl,(aV.weaken cz l.size),(ut ad cA (am (aM a l.size) av))⟩
theorem qi{m:Md}{cs:Array Value}{M:aQ}{w:World}{dir:Int}(h:aO m w cs.toList M)(hf:bU M) : Calls Tryz.prog 212 #[.int .i64 dir,.agg cs] w (fy (cI dir M) w):=by
  rcases dT (dir==0) with h0|h0
  · exact o0 h hf h0
  · exact ny h hf h0
open Go.RowKit
theorem iG{parse:Int→Int→List Int→aQ × Int}{lay:Int→aQ→List Int}{dir E:Int}{M X:aQ}(hX:parse dir M.code (lay dir M)=(X,E))(hE:(E != 0)=true) : bj parse lay dir M=none:=by
  unfold bj
  rw[hX,if_neg]
  intro h
  injection h with h1 h2
  rw[h2] at hE
  cases hE
theorem iR{parse:Int→Int→List Int→aQ × Int}{lay:Int→aQ→List Int}{dir E:Int}{M X:aQ}(hX:parse dir M.code (lay dir M)=(X,E))(hE:decide (X=M)=false) : bj parse lay dir M=none:=by
  unfold bj
  rw[hX,if_neg]
  intro h
  injection h with h1 h2
  rw[h1] at hE
  simp at hE
theorem hZ{parse:Int→Int→List Int→aQ × Int}{lay:Int→aQ→List Int}{dir E:Int}{M X:aQ}(hX:parse dir M.code (lay dir M)=(X,E))(hE:(E != 0)=false)(h:decide (X=M)=true) : bj parse lay dir M=some (lay dir M):=by
  unfold bj
  have h1:X=M:=by simpa using h
  have h2:E=0:=by simpa using hE
  rw[hX,h1,h2,if_pos rfl]
theorem cL{x y:Option (List Int)}(h:x=y){w:World}{e:Ending}{w':World}(k:dZ y w e w') : dZ x w e w':=by rw[h];exact k
theorem jw{m:Md}{cs:Array Value}{M:aQ}{w:World}{dir:Int}(h:aO m w cs.toList M)(hf:bU M)(hlen:(bN dir M).length≤1048576) : Calls Tryz.prog 139 #[.int .i64 dir,.agg cs] w (dZ (bj fG bN dir M) w):=by
 have hM:=h
 obtain⟨vw,vb,vd,vr,vo,h0,hw,hbt,hd,hr,ho,hR⟩:=h
 obtain rfl:cs=(bu M vw vb vd vr vo).toArray:=by apply Array.toList_inj.1;simpa using h0
 clear h0
 obtain⟨Aw,kw,rfl,_,_⟩:=hw.shape
 obtain⟨Ab,kb,rfl,_,_⟩:=hbt.shape
 obtain⟨Ad,kd,rfl,_,_⟩:=hd.shape
 obtain⟨Ar,kr,rfl,_,_⟩:=hr.shape
 obtain⟨Ao,ko,rfl,_,_⟩:=ho.shape
 obtain⟨q0,q1,q2,q3,q4,q5,q6,q7,q8,q9,y,z,C,D,E,F,G⟩:=hR
 simp only[B8,dF] at q0 q1 q2 q3 q4 q5 q6 q7 q8 q9 y z C D E F G
 refine en 29 Tryz.func139 rfl<|sg<|L0<|dC (mG M.code M.fail M.addr M.count M.value M.and_ M.or_ M.addr2 M.sub M.status M.events M.messages (.slice Aw M.words.length kw) (.slice Ab M.bits.length kb) (.slice Ad M.data.length kd) (.slice Ar M.recs.length kr) M.mei M.kind M.level M.more M.next (.slice Ao M.objects.length ko)) fun V W X k g=>Pl 2<|ng<|Pl 1<|L0<|bP k<|?_
 have l:=aO.old hM g
 refine L0<|Oc<|dk (pV (dir:=dir) l hf) fun H I J n Y Z o=>Pl 1<|ng<|Pl 2<|?_
 have p:=ub o k
 refine L0<|aP p 0<|Pl 1<|?_
 refine pr (fG dir M.code (bN dir M)) fun e K f=>?_
 have q:Calls _ _ _ _ (dY (fG dir M.code (bN dir M)) J):=jB (dir:=dir) (c:=M.code) q0 (n).rd hlen
 rw[f] at q
 refine L0<|Oc<|e2 (q) fun L a0 a N=>Pl 3<|L0<|bQ mZ fun a1 a2 O P Q=>L0<|be (hz:=(by rw[a.size];exact aN)) (hv:=a.size) (h1:=a.one) P (L) fun a3 R S=>Pl 1<|nt<|sq<|sg<|Pl 3<|?_
 have r:=ud Q S O
 have i:=aG N r
 have s:=aG o i
 have t:=aG g s
 refine bl 22 ((K != 0)) (fun b=>?_) (fun b=>?_)
 have T:=az b
 refine Pl 5<|nt<|c1<|sg<|Pl 2<|nt<|rt<|tr<|rr (.tuple #[.slice none 0 0,.int .i64 1])<|?_
 refine cL (iG f b) ?_
 exact⟨rfl,t⟩
 have T:=aj b
 refine L1<|bP (hz:=(by rw[a.size];exact aN)) R<|?_
 refine L1<|bP (ub i p)<|?_
 refine L1<|Oc<|m1 (ga (A:=e) (B:=M) (aO.upd a r aK) (aO.old l s)) fun a4 u=>Pl 2<|nt<|?_
 have v:=aG t u
 refine cb ((!(decide (e=M)))) (fun j=>?_) (fun j=>?_)
 have d:(decide (e=M))=false:=by simpa using j
 have U:=of_decide_eq_false d
 refine sg<|Pl 2<|nt<|rt<|tr<|rr (.tuple #[.slice none 0 0,.int .i64 1])<|?_
 refine cL (iR f d) ?_
 exact⟨rfl,v⟩
 have d:(decide (e=M))=true:=by simpa using j
 have U:=of_decide_eq_true d
 refine bp<|sg<|Pl 3<|nt<|rt<|rr (.tuple #[.slice H ((bN dir M).length) I,.int .i64 0])<|?_
 refine cL (hZ f b d) ?_
 exact⟨_,rfl,(aV.weaken (aq n (aG i u) (fun x hx=>aA) (fun _ _ h=>h)) g.size),v⟩
theorem kB{m:Md}{cs:Array Value}{M:aQ}{w:World}{dir:Int}(h:aO m w cs.toList M)(hf:bU M)(hlen:(bK dir M).length≤1048576) : Calls Tryz.prog 141 #[.int .i64 dir,.agg cs] w (dZ (bj gw bK dir M) w):=by
 have hM:=h
 obtain⟨vw,vb,vd,vr,vo,h0,hw,hbt,hd,hr,ho,hR⟩:=h
 obtain rfl:cs=(bu M vw vb vd vr vo).toArray:=by apply Array.toList_inj.1;simpa using h0
 clear h0
 obtain⟨Aw,kw,rfl,_,_⟩:=hw.shape
 obtain⟨Ab,kb,rfl,_,_⟩:=hbt.shape
 obtain⟨Ad,kd,rfl,_,_⟩:=hd.shape
 obtain⟨Ar,kr,rfl,_,_⟩:=hr.shape
 obtain⟨Ao,ko,rfl,_,_⟩:=ho.shape
 obtain⟨q0,q1,q2,q3,q4,q5,q6,q7,q8,q9,y,z,C,D,E,F,G⟩:=hR
 simp only[B8,dF] at q0 q1 q2 q3 q4 q5 q6 q7 q8 q9 y z C D E F G
 refine en 29 Tryz.func141 rfl<|sg<|L0<|dC (mG M.code M.fail M.addr M.count M.value M.and_ M.or_ M.addr2 M.sub M.status M.events M.messages (.slice Aw M.words.length kw) (.slice Ab M.bits.length kb) (.slice Ad M.data.length kd) (.slice Ar M.recs.length kr) M.mei M.kind M.level M.more M.next (.slice Ao M.objects.length ko)) fun V W X k g=>Pl 2<|ng<|Pl 1<|L0<|bP k<|?_
 have l:=aO.old hM g
 refine L0<|Oc<|dk (sf (dir:=dir) l hf) fun H I J n Y Z o=>Pl 1<|ng<|Pl 2<|?_
 have p:=ub o k
 refine L0<|aP p 0<|Pl 1<|?_
 refine pr (gw dir M.code (bK dir M)) fun e K f=>?_
 have q:Calls _ _ _ _ (dY (gw dir M.code (bK dir M)) J):=kH (dir:=dir) (c:=M.code) q0 (n).rd hlen
 rw[f] at q
 refine L0<|Oc<|e2 (q) fun L a0 a N=>Pl 3<|L0<|bQ mZ fun a1 a2 O P Q=>L0<|be (hz:=(by rw[a.size];exact aN)) (hv:=a.size) (h1:=a.one) P (L) fun a3 R S=>Pl 1<|nt<|sq<|sg<|Pl 3<|?_
 have r:=ud Q S O
 have i:=aG N r
 have s:=aG o i
 have t:=aG g s
 refine bl 22 ((K != 0)) (fun b=>?_) (fun b=>?_)
 have T:=az b
 refine Pl 5<|nt<|c1<|sg<|Pl 2<|nt<|rt<|tr<|rr (.tuple #[.slice none 0 0,.int .i64 1])<|?_
 refine cL (iG f b) ?_
 exact⟨rfl,t⟩
 have T:=aj b
 refine L1<|bP (hz:=(by rw[a.size];exact aN)) R<|?_
 refine L1<|bP (ub i p)<|?_
 refine L1<|Oc<|m1 (ga (A:=e) (B:=M) (aO.upd a r aK) (aO.old l s)) fun a4 u=>Pl 2<|nt<|?_
 have v:=aG t u
 refine cb ((!(decide (e=M)))) (fun j=>?_) (fun j=>?_)
 have d:(decide (e=M))=false:=by simpa using j
 have U:=of_decide_eq_false d
 refine sg<|Pl 2<|nt<|rt<|tr<|rr (.tuple #[.slice none 0 0,.int .i64 1])<|?_
 refine cL (iR f d) ?_
 exact⟨rfl,v⟩
 have d:(decide (e=M))=true:=by simpa using j
 have U:=of_decide_eq_true d
 refine bp<|sg<|Pl 3<|nt<|rt<|rr (.tuple #[.slice H ((bK dir M).length) I,.int .i64 0])<|?_
 refine cL (hZ f b d) ?_
 exact⟨_,rfl,(aV.weaken (aq n (aG i u) (fun x hx=>aA) (fun _ _ h=>h)) g.size),v⟩
theorem kL{m:Md}{cs:Array Value}{M:aQ}{w:World}{dir:Int}(h:aO m w cs.toList M)(hf:bU M)(hlen:(bM dir M).length≤1048576) : Calls Tryz.prog 143 #[.int .i64 dir,.agg cs] w (dZ (bj gh bM dir M) w):=by
 have hM:=h
 obtain⟨vw,vb,vd,vr,vo,h0,hw,hbt,hd,hr,ho,hR⟩:=h
 obtain rfl:cs=(bu M vw vb vd vr vo).toArray:=by apply Array.toList_inj.1;simpa using h0
 clear h0
 obtain⟨Aw,kw,rfl,_,_⟩:=hw.shape
 obtain⟨Ab,kb,rfl,_,_⟩:=hbt.shape
 obtain⟨Ad,kd,rfl,_,_⟩:=hd.shape
 obtain⟨Ar,kr,rfl,_,_⟩:=hr.shape
 obtain⟨Ao,ko,rfl,_,_⟩:=ho.shape
 obtain⟨q0,q1,q2,q3,q4,q5,q6,q7,q8,q9,y,z,C,D,E,F,G⟩:=hR
 simp only[B8,dF] at q0 q1 q2 q3 q4 q5 q6 q7 q8 q9 y z C D E F G
 refine en 29 Tryz.func143 rfl<|sg<|L0<|dC (mG M.code M.fail M.addr M.count M.value M.and_ M.or_ M.addr2 M.sub M.status M.events M.messages (.slice Aw M.words.length kw) (.slice Ab M.bits.length kb) (.slice Ad M.data.length kd) (.slice Ar M.recs.length kr) M.mei M.kind M.level M.more M.next (.slice Ao M.objects.length ko)) fun V W X k g=>Pl 2<|ng<|Pl 1<|L0<|bP k<|?_
 have l:=aO.old hM g
 refine L0<|Oc<|dk (sK (dir:=dir) l hf) fun H I J n Y Z o=>Pl 1<|ng<|Pl 2<|?_
 have p:=ub o k
 refine L0<|aP p 0<|Pl 1<|?_
 refine pr (gh dir M.code (bM dir M)) fun e K f=>?_
 have q:Calls _ _ _ _ (dY (gh dir M.code (bM dir M)) J):=jW (dir:=dir) (c:=M.code) q0 (n).rd hlen
 rw[f] at q
 refine L0<|Oc<|e2 (q) fun L a0 a N=>Pl 3<|L0<|bQ mZ fun a1 a2 O P Q=>L0<|be (hz:=(by rw[a.size];exact aN)) (hv:=a.size) (h1:=a.one) P (L) fun a3 R S=>Pl 1<|nt<|sq<|sg<|Pl 3<|?_
 have r:=ud Q S O
 have i:=aG N r
 have s:=aG o i
 have t:=aG g s
 refine bl 22 ((K != 0)) (fun b=>?_) (fun b=>?_)
 have T:=az b
 refine Pl 5<|nt<|c1<|sg<|Pl 2<|nt<|rt<|tr<|rr (.tuple #[.slice none 0 0,.int .i64 1])<|?_
 refine cL (iG f b) ?_
 exact⟨rfl,t⟩
 have T:=aj b
 refine L1<|bP (hz:=(by rw[a.size];exact aN)) R<|?_
 refine L1<|bP (ub i p)<|?_
 refine L1<|Oc<|m1 (ga (A:=e) (B:=M) (aO.upd a r aK) (aO.old l s)) fun a4 u=>Pl 2<|nt<|?_
 have v:=aG t u
 refine cb ((!(decide (e=M)))) (fun j=>?_) (fun j=>?_)
 have d:(decide (e=M))=false:=by simpa using j
 have U:=of_decide_eq_false d
 refine sg<|Pl 2<|nt<|rt<|tr<|rr (.tuple #[.slice none 0 0,.int .i64 1])<|?_
 refine cL (iR f d) ?_
 exact⟨rfl,v⟩
 have d:(decide (e=M))=true:=by simpa using j
 have U:=of_decide_eq_true d
 refine bp<|sg<|Pl 3<|nt<|rt<|rr (.tuple #[.slice H ((bM dir M).length) I,.int .i64 0])<|?_
 refine cL (hZ f b d) ?_
 exact⟨_,rfl,(aV.weaken (aq n (aG i u) (fun x hx=>aA) (fun _ _ h=>h)) g.size),v⟩
theorem lJ{m:Md}{cs:Array Value}{M:aQ}{w:World}{dir:Int}(h:aO m w cs.toList M)(hf:bU M)(hlen:(da dir M).length≤1048576) : Calls Tryz.prog 147 #[.int .i64 dir,.agg cs] w (dZ (bj gX da dir M) w):=by
 have hM:=h
 obtain⟨vw,vb,vd,vr,vo,h0,hw,hbt,hd,hr,ho,hR⟩:=h
 obtain rfl:cs=(bu M vw vb vd vr vo).toArray:=by apply Array.toList_inj.1;simpa using h0
 clear h0
 obtain⟨Aw,kw,rfl,_,_⟩:=hw.shape
 obtain⟨Ab,kb,rfl,_,_⟩:=hbt.shape
 obtain⟨Ad,kd,rfl,_,_⟩:=hd.shape
 obtain⟨Ar,kr,rfl,_,_⟩:=hr.shape
 obtain⟨Ao,ko,rfl,_,_⟩:=ho.shape
 obtain⟨q0,q1,q2,q3,q4,q5,q6,q7,q8,q9,y,z,C,D,E,F,G⟩:=hR
 simp only[B8,dF] at q0 q1 q2 q3 q4 q5 q6 q7 q8 q9 y z C D E F G
 refine en 29 Tryz.func147 rfl<|sg<|L0<|dC (mG M.code M.fail M.addr M.count M.value M.and_ M.or_ M.addr2 M.sub M.status M.events M.messages (.slice Aw M.words.length kw) (.slice Ab M.bits.length kb) (.slice Ad M.data.length kd) (.slice Ar M.recs.length kr) M.mei M.kind M.level M.more M.next (.slice Ao M.objects.length ko)) fun V W X k g=>Pl 2<|ng<|Pl 1<|L0<|bP k<|?_
 have l:=aO.old hM g
 refine L0<|Oc<|dk (tw (dir:=dir) l hf) fun H I J n Y Z o=>Pl 1<|ng<|Pl 2<|?_
 have p:=ub o k
 refine L0<|aP p 0<|Pl 1<|?_
 refine pr (gX dir M.code (da dir M)) fun e K f=>?_
 have q:Calls _ _ _ _ (dY (gX dir M.code (da dir M)) J):=lO (dir:=dir) (c:=M.code) q0 (n).rd hlen
 rw[f] at q
 refine L0<|Oc<|e2 (q) fun L a0 a N=>Pl 3<|L0<|bQ mZ fun a1 a2 O P Q=>L0<|be (hz:=(by rw[a.size];exact aN)) (hv:=a.size) (h1:=a.one) P (L) fun a3 R S=>Pl 1<|nt<|sq<|sg<|Pl 3<|?_
 have r:=ud Q S O
 have i:=aG N r
 have s:=aG o i
 have t:=aG g s
 refine bl 22 ((K != 0)) (fun b=>?_) (fun b=>?_)
 have T:=az b
 refine Pl 5<|nt<|c1<|sg<|Pl 2<|nt<|rt<|tr<|rr (.tuple #[.slice none 0 0,.int .i64 1])<|?_
 refine cL (iG f b) ?_
 exact⟨rfl,t⟩
 have T:=aj b
 refine L1<|bP (hz:=(by rw[a.size];exact aN)) R<|?_
 refine L1<|bP (ub i p)<|?_
 refine L1<|Oc<|m1 (ga (A:=e) (B:=M) (aO.upd a r aK) (aO.old l s)) fun a4 u=>Pl 2<|nt<|?_
 have v:=aG t u
 refine cb ((!(decide (e=M)))) (fun j=>?_) (fun j=>?_)
 have d:(decide (e=M))=false:=by simpa using j
 have U:=of_decide_eq_false d
 refine sg<|Pl 2<|nt<|rt<|tr<|rr (.tuple #[.slice none 0 0,.int .i64 1])<|?_
 refine cL (iR f d) ?_
 exact⟨rfl,v⟩
 have d:(decide (e=M))=true:=by simpa using j
 have U:=of_decide_eq_true d
 refine bp<|sg<|Pl 3<|nt<|rt<|rr (.tuple #[.slice H ((da dir M).length) I,.int .i64 0])<|?_
 refine cL (hZ f b d) ?_
 exact⟨_,rfl,(aV.weaken (aq n (aG i u) (fun x hx=>aA) (fun _ _ h=>h)) g.size),v⟩
theorem jC{m:Md}{cs:Array Value}{M:aQ}{w:World}{dir:Int}(h:aO m w cs.toList M)(hf:bU M)(hlen:(cI dir M).length≤1048576) : Calls Tryz.prog 145 #[.int .i64 dir,.agg cs] w (dZ (bj fF cI dir M) w):=by
 have hM:=h
 obtain⟨vw,vb,vd,vr,vo,h0,hw,hbt,hd,hr,ho,hR⟩:=h
 obtain rfl:cs=(bu M vw vb vd vr vo).toArray:=by apply Array.toList_inj.1;simpa using h0
 clear h0
 obtain⟨Aw,kw,rfl,_,_⟩:=hw.shape
 obtain⟨Ab,kb,rfl,_,_⟩:=hbt.shape
 obtain⟨Ad,kd,rfl,_,_⟩:=hd.shape
 obtain⟨Ar,kr,rfl,_,_⟩:=hr.shape
 obtain⟨Ao,ko,rfl,_,_⟩:=ho.shape
 obtain⟨q0,q1,q2,q3,q4,q5,q6,q7,q8,q9,y,z,C,D,E,F,G⟩:=hR
 simp only[B8,dF] at q0 q1 q2 q3 q4 q5 q6 q7 q8 q9 y z C D E F G
 refine en 29 Tryz.func145 rfl<|sg<|L0<|dC (mG M.code M.fail M.addr M.count M.value M.and_ M.or_ M.addr2 M.sub M.status M.events M.messages (.slice Aw M.words.length kw) (.slice Ab M.bits.length kb) (.slice Ad M.data.length kd) (.slice Ar M.recs.length kr) M.mei M.kind M.level M.more M.next (.slice Ao M.objects.length ko)) fun V W X k g=>Pl 2<|ng<|Pl 1<|L0<|bP k<|?_
 have l:=aO.old hM g
 refine L0<|Oc<|dk (qi (dir:=dir) l hf) fun H I J n Y Z o=>Pl 1<|ng<|Pl 2<|?_
 have p:=ub o k
 refine L0<|aP p 0<|Pl 1<|?_
 refine pr (fF dir M.code (cI dir M)) fun e K f=>?_
 have q:Calls _ _ _ _ (dY (fF dir M.code (cI dir M)) J):=jE (dir:=dir) (c:=M.code) q0 (n).rd hlen
 rw[f] at q
 refine L0<|Oc<|e2 (q) fun L a0 a N=>Pl 3<|L0<|bQ mZ fun a1 a2 O P Q=>L0<|be (hz:=(by rw[a.size];exact aN)) (hv:=a.size) (h1:=a.one) P (L) fun a3 R S=>Pl 1<|nt<|sq<|sg<|Pl 3<|?_
 have r:=ud Q S O
 have i:=aG N r
 have s:=aG o i
 have t:=aG g s
 refine bl 22 ((K != 0)) (fun b=>?_) (fun b=>?_)
 have T:=az b
 refine Pl 5<|nt<|c1<|sg<|Pl 2<|nt<|rt<|tr<|rr (.tuple #[.slice none 0 0,.int .i64 1])<|?_
 refine cL (iG f b) ?_
 exact⟨rfl,t⟩
 have T:=aj b
 refine L1<|bP (hz:=(by rw[a.size];exact aN)) R<|?_
 refine L1<|bP (ub i p)<|?_
 refine L1<|Oc<|m1 (ga (A:=e) (B:=M) (aO.upd a r aK) (aO.old l s)) fun a4 u=>Pl 2<|nt<|?_
 have v:=aG t u
 refine cb ((!(decide (e=M)))) (fun j=>?_) (fun j=>?_)
 have d:(decide (e=M))=false:=by simpa using j
 have U:=of_decide_eq_false d
 refine sg<|Pl 2<|nt<|rt<|tr<|rr (.tuple #[.slice none 0 0,.int .i64 1])<|?_
 refine cL (iR f d) ?_
 exact⟨rfl,v⟩
 have d:(decide (e=M))=true:=by simpa using j
 have U:=of_decide_eq_true d
 refine bp<|sg<|Pl 3<|nt<|rt<|rr (.tuple #[.slice H ((cI dir M).length) I,.int .i64 0])<|?_
 refine cL (hZ f b d) ?_
 exact⟨_,rfl,(aV.weaken (aq n (aG i u) (fun x hx=>aA) (fun _ _ h=>h)) g.size),v⟩
open Go.RowKit
def fZ:Nat→Int→aQ→Option (List Int)
  | 1,dir,M=>bj fG bN dir M
  | 2,dir,M=>bj gw bK dir M
  | 3,dir,M=>bj gh bM dir M
  | 4,dir,M=>bj fF cI dir M
  | 5,dir,M=>bj gX da dir M
  | _,_,_=>none
def cX (dir:Int)(M:aQ) : Option (List Int) :=
  if M.fail != 0 then (if dir != 1 then none else jM M)
  else match fZ (it M.code) dir M with
    | none=>none
    | some l=>if decide (253≤(l.length:Int)) then none else some ([M.code]++l)
theorem kX:∀ (L:List Obj),(∀ r,r∈L→r.value.length≤1024)→(eX L).length≤1026*L.length
  | [],_=>by simp[eX]
  | r :: L,h=>by
    have h1:=h r (by simp)
    have h2:=kX L fun x hx=>h x (by simp[hx])
    simp only[eX,List.length_append,List.length_cons,List.length_nil]
    omega
theorem kz(dir c:Int) : ∀ (L:List dt),(∀ r,r∈L→r.words.length≤1024)→(cF dir c L).length≤2064*L.length
  | [],_=>by simp[cF]
  | r :: L,h=>by
    have h1:=h r (by simp)
    have h2:=kz dir c L fun x hx=>h x (by simp[hx])
    simp only[cF,gS]
    repeat' split
    all_goals simp only[List.length_append,List.length_cons,List.length_nil,ay]
    all_goals omega
theorem eZ{M:aQ}(hf:bU M)(dir:Int) : (bN dir M).length≤1048576∧(bK dir M).length≤1048576∧(bM dir M).length≤1048576∧(da dir M).length≤1048576∧(cI dir M).length≤1048576:=by
  have hp:(bO M.bits).length≤1024:=by
    have:=hf.bits
    simp only[bO,List.length_map,List.length_range,dL]
    omega
  have h1:=hf.words
  have h2:=hf.data
  have h3:=hf.objects
  have h4:=kX M.objects hf.objv
  have h5:=kz dir M.code M.recs hf.recw
  have h6:=hf.recs
  refine⟨?_,?_,?_,?_,?_⟩
  · unfold bN
    repeat' split
    all_goals simp only[List.length_append,List.length_cons,List.length_nil,ay]
    all_goals omega
  · unfold bK
    repeat' split
    all_goals simp only[List.length_append,List.length_cons,List.length_nil,ay]
    all_goals omega
  · unfold bM
    repeat' split
    all_goals simp only[List.length_append,List.length_cons,List.length_nil,ay]
    all_goals omega
  · unfold da
    repeat' split
    all_goals simp only[List.length_append,List.length_cons,List.length_nil]
    all_goals omega
  · unfold cI
    simp only[List.length_set,List.length_append,List.length_cons,List.length_nil]
    omega
theorem j9{m:Md}{cs:Array Value}{M:aQ}{w:World}{dir:Int}(h:aO m w cs.toList M)(hf:bU M) : Calls Tryz.prog 28 #[.int .i64 dir,.agg cs] w (dZ (cX dir M) w):=by
 have hM:=h
 obtain⟨vw,vb,vd,vr,vo,h0,hw,hbt,hd,hr,ho,hR⟩:=h
 obtain rfl:cs=(bu M vw vb vd vr vo).toArray:=by apply Array.toList_inj.1;simpa using h0
 clear h0
 obtain⟨Aw,kw,rfl,_,_⟩:=hw.shape
 obtain⟨Ab,kb,rfl,_,_⟩:=hbt.shape
 obtain⟨Ad,kd,rfl,_,_⟩:=hd.shape
 obtain⟨Ar,kr,rfl,_,_⟩:=hr.shape
 obtain⟨Ao,ko,rfl,_,_⟩:=ho.shape
 obtain⟨q0,q1,q2,q3,q4,q5,q6,q7,q8,q9,ah,ai,c,ak,an,ao,ap⟩:=hR
 simp only[B8,dF] at q0 q1 q2 q3 q4 q5 q6 q7 q8 q9 ah ai c ak an ao ap
 refine en 47 Tryz.func28 rfl<|sg<|L0<|dC (mG M.code M.fail M.addr M.count M.value M.and_ M.or_ M.addr2 M.sub M.status M.events M.messages (.slice Aw M.words.length kw) (.slice Ab M.bits.length kb) (.slice Ad M.data.length kd) (.slice Ar M.recs.length kr) M.mei M.kind M.level M.more M.next (.slice Ao M.objects.length ko)) fun ck f cl d b=>Pl 2<|nt<|sq<|sg<|Pl 1<|L0<|aP d 1<|Pl 1<|nl<|?_
 refine tn<|cb ((M.fail != 0)) (fun a=>?_) (fun a=>?_)
 have ar:=az a
 refine sq<|sg<|Pl 2<|nt<|cb ((dir != 1)) (fun c=>?_) (fun c=>?_)
 have au:=az c
 refine sg<|Pl 2<|nt<|rt<|tr<|tr<|rr (.tuple #[.slice none 0 0,.int .i64 1])<|?_
 have hs:cX dir M=none:=by
   unfold cX
   (try simp only[a,c,bs,if_true,if_false,decide_true,decide_false,reduceIte])
   all_goals rfl
 refine ej hs ?_
 exact⟨rfl,b⟩
 have au:=aj c
 refine bp<|sg<|L0<|bP d<|?_
 rcases hwr:jM M with _|lw
 have E:=lT (aO.old hM b)
 rw[hwr] at E
 refine L0<|Oc<|m1 E fun cm aw=>Pl 4<|nt<|rt<|tr<|rr (.tuple #[.slice none 0 0,.int .i64 1])<|?_
 have hs:cX dir M=none:=by
   unfold cX
   (try simp only[a,c,bs,if_true,if_false,decide_true,decide_false,hwr,reduceIte])
   all_goals rfl
 refine ej hs ?_
 exact⟨rfl,(aG b aw)⟩
 have F:=lT (aO.old hM b)
 rw[hwr] at F
 refine L0<|Oc<|dk F fun ax aB cn aC co cp aD=>Pl 4<|nt<|rt<|tr<|rr (.tuple #[.slice ax lw.length aB,.int .i64 0])<|?_
 have hs:cX dir M=(some lw):=by
   unfold cX
   (try simp only[a,c,bs,if_true,if_false,decide_true,decide_false,hwr,reduceIte])
   all_goals rfl
 refine ej hs ?_
 exact⟨_,rfl,(aV.weaken aC b.size),(aG b aD)⟩
 have ar:=aj a
 refine bp<|sg<|Pl 1<|L0<|aP d 0<|?_
 rcases gl M.code with⟨hk,hkf⟩|⟨hk,hkf⟩|⟨hk,hkf⟩|⟨hk,hkf⟩|⟨hk,hkf⟩|⟨hk,hkf⟩
 have G:=fk (x:=M.code) (w:=f)
 rw[hkf] at G
 refine L0<|Oc<|m1 G fun cq aE=>Pl 3<|L0<|bQ #[.nilFunc,.nilFunc] fun cr ct aF aH aI=>L0<|be aH #[.func (.func 138) #[] #[],.func (.func 139) #[] #[]] fun cu aK aL=>Pl 1<|nt<|sq<|sg<|Pl 2<|nt<|c0<|?_
 refine bp<|sg<|Pl 1<|L0<|aP aK 1<|Pl 1<|?_
 have H:=aG aE (ud aI aL aF)
 have I:=ub H d
 refine L0<|bP I<|?_
 have n:=aG b H
 rcases hwr:bj fG bN dir M with _|lw
 have J:=jw (dir:=dir) (aO.old hM n) hf (eZ hf dir).1
 rw[hwr] at J
 refine L0<|gN #[] #[] (args:=#[.int .i64 dir,.agg (mG M.code M.fail M.addr M.count M.value M.and_ M.or_ M.addr2 M.sub M.status M.events M.messages (.slice Aw M.words.length kw) (.slice Ab M.bits.length kb) (.slice Ad M.data.length kd) (.slice Ar M.recs.length kr) M.mei M.kind M.level M.more M.next (.slice Ao M.objects.length ko))])<|m1 J fun cv aN=>Pl 5<|nt<|sq<|sg<|Pl 7<|nt<|c1<|sg<|Pl 2<|nl<|?_
 refine tn<|rt<|tr<|rr (.tuple #[.slice none 0 0,.int .i64 1])<|?_
 have hs:cX dir M=none:=by
   unfold cX
   (try simp only[a,bs,if_true,if_false,decide_true,decide_false,hkf,fZ,hwr,reduceIte])
   all_goals rfl
 refine ej hs ?_
 exact⟨rfl,(aG n aN)⟩
 have K:=jw (dir:=dir) (aO.old hM n) hf (eZ hf dir).1
 rw[hwr] at K
 refine L0<|gN #[] #[] (args:=#[.int .i64 dir,.agg (mG M.code M.fail M.addr M.count M.value M.and_ M.or_ M.addr2 M.sub M.status M.events M.messages (.slice Aw M.words.length kw) (.slice Ab M.bits.length kb) (.slice Ad M.data.length kd) (.slice Ar M.recs.length kr) M.mei M.kind M.level M.more M.next (.slice Ao M.objects.length ko))])<|dk K fun cw cx cy aR cz cA L=>Pl 5<|nt<|sq<|sg<|Pl 7<|nt<|?_
 have s:=aG n L
 refine cb ((decide (253≤((lw.length:Nat) : Int)))) (fun g=>?_) (fun g=>?_)
 have aS:=of_decide_eq_true g
 refine sg<|Pl 2<|nt<|rt<|tr<|rr (.tuple #[.slice none 0 0,.int .i64 1])<|?_
 have hs:cX dir M=none:=by
   unfold cX
   (try simp only[a,g,bs,if_true,if_false,decide_true,decide_false,hkf,fZ,hwr,reduceIte])
   all_goals rfl
 refine ej hs ?_
 exact⟨rfl,s⟩
 have aS:=of_decide_eq_false g
 refine bp<|sg<|Pl 1<|?_
 refine L0<|aP (ub L I) 0<|L0<|cO (m:=1) (e:=5) #[.int .u8 M.code] fun cB cC aT aU t=>?_
 have N:=cN aT (xs:=[M.code]) (by as_aux_lemma=>kernel_rfl) (al (by omega) aJ) (by(try simp only[List.length_cons,List.length_nil]);omega) aU
 refine Pl 1<|?_
 refine L0<|bG aX (xs:=([M.code])) (ys:=lw) (.int .u8 0) 1 N ((aq aR t (fun x hx=>aA) (fun _ _ h=>h))).rd (by(try simp only[List.length_append,List.length_cons,List.length_nil,ay]);omega) t.size fun aW aY cD aZ b0=>Pl 2<|nt<|rt<|rr (.tuple #[.slice aW (([M.code]++lw).length) aY,.int .i64 0])<|?_
 have hs:cX dir M=(some ([M.code]++lw)):=by
   unfold cX
   (try simp only[a,g,bs,if_true,if_false,decide_true,decide_false,hkf,fZ,hwr,reduceIte])
   all_goals rfl
 refine ej hs ?_
 exact⟨_,rfl,(aV.weaken aZ s.size),(aG s (ut t b0 (am (aM N lr) av)))⟩
 have O:=fk (x:=M.code) (w:=f)
 rw[hkf] at O
 refine L0<|Oc<|m1 O fun cE b1=>Pl 3<|L0<|bQ #[.nilFunc,.nilFunc] fun cF cG b2 b3 b4=>L0<|be b3 #[.func (.func 140) #[] #[],.func (.func 141) #[] #[]] fun cH b5 b6=>Pl 1<|nt<|sq<|sg<|Pl 2<|nt<|c0<|?_
 refine bp<|sg<|Pl 1<|L0<|aP b5 1<|Pl 1<|?_
 have P:=aG b1 (ud b4 b6 b2)
 have Q:=ub P d
 refine L0<|bP Q<|?_
 have o:=aG b P
 rcases hwr:bj gw bK dir M with _|lw
 have R:=kB (dir:=dir) (aO.old hM o) hf (eZ hf dir).2.1
 rw[hwr] at R
 refine L0<|gN #[] #[] (args:=#[.int .i64 dir,.agg (mG M.code M.fail M.addr M.count M.value M.and_ M.or_ M.addr2 M.sub M.status M.events M.messages (.slice Aw M.words.length kw) (.slice Ab M.bits.length kb) (.slice Ad M.data.length kd) (.slice Ar M.recs.length kr) M.mei M.kind M.level M.more M.next (.slice Ao M.objects.length ko))])<|m1 R fun cJ b7=>Pl 5<|nt<|sq<|sg<|Pl 7<|nt<|c1<|sg<|Pl 2<|nl<|?_
 refine tn<|rt<|tr<|rr (.tuple #[.slice none 0 0,.int .i64 1])<|?_
 have hs:cX dir M=none:=by
   unfold cX
   (try simp only[a,bs,if_true,if_false,decide_true,decide_false,hkf,fZ,hwr,reduceIte])
   all_goals rfl
 refine ej hs ?_
 exact⟨rfl,(aG o b7)⟩
 have S:=kB (dir:=dir) (aO.old hM o) hf (eZ hf dir).2.1
 rw[hwr] at S
 refine L0<|gN #[] #[] (args:=#[.int .i64 dir,.agg (mG M.code M.fail M.addr M.count M.value M.and_ M.or_ M.addr2 M.sub M.status M.events M.messages (.slice Aw M.words.length kw) (.slice Ab M.bits.length kb) (.slice Ad M.data.length kd) (.slice Ar M.recs.length kr) M.mei M.kind M.level M.more M.next (.slice Ao M.objects.length ko))])<|dk S fun cK cL cM b8 cP cQ T=>Pl 5<|nt<|sq<|sg<|Pl 7<|nt<|?_
 have u:=aG o T
 refine cb ((decide (253≤((lw.length:Nat) : Int)))) (fun i=>?_) (fun i=>?_)
 have b9:=of_decide_eq_true i
 refine sg<|Pl 2<|nt<|rt<|tr<|rr (.tuple #[.slice none 0 0,.int .i64 1])<|?_
 have hs:cX dir M=none:=by
   unfold cX
   (try simp only[a,i,bs,if_true,if_false,decide_true,decide_false,hkf,fZ,hwr,reduceIte])
   all_goals rfl
 refine ej hs ?_
 exact⟨rfl,u⟩
 have b9:=of_decide_eq_false i
 refine bp<|sg<|Pl 1<|?_
 refine L0<|aP (ub T Q) 0<|L0<|cO (m:=1) (e:=5) #[.int .u8 M.code] fun cR cS ba bb v=>?_
 have U:=cN ba (xs:=[M.code]) (by as_aux_lemma=>kernel_rfl) (al (by omega) aJ) (by(try simp only[List.length_cons,List.length_nil]);omega) bb
 refine Pl 1<|?_
 refine L0<|bG aX (xs:=([M.code])) (ys:=lw) (.int .u8 0) 1 U ((aq b8 v (fun x hx=>aA) (fun _ _ h=>h))).rd (by(try simp only[List.length_append,List.length_cons,List.length_nil,ay]);omega) v.size fun bc bd cT bf bg=>Pl 2<|nt<|rt<|rr (.tuple #[.slice bc (([M.code]++lw).length) bd,.int .i64 0])<|?_
 have hs:cX dir M=(some ([M.code]++lw)):=by
   unfold cX
   (try simp only[a,i,bs,if_true,if_false,decide_true,decide_false,hkf,fZ,hwr,reduceIte])
   all_goals rfl
 refine ej hs ?_
 exact⟨_,rfl,(aV.weaken bf u.size),(aG u (ut v bg (am (aM U lr) av)))⟩
 have V:=fk (x:=M.code) (w:=f)
 rw[hkf] at V
 refine L0<|Oc<|m1 V fun cU bh=>Pl 3<|L0<|bQ #[.nilFunc,.nilFunc] fun cV cW bi bk bl=>L0<|be bk #[.func (.func 142) #[] #[],.func (.func 143) #[] #[]] fun cY bm bn=>Pl 1<|nt<|sq<|sg<|Pl 2<|nt<|c0<|?_
 refine bp<|sg<|Pl 1<|L0<|aP bm 1<|Pl 1<|?_
 have W:=aG bh (ud bl bn bi)
 have X:=ub W d
 refine L0<|bP X<|?_
 have p:=aG b W
 rcases hwr:bj gh bM dir M with _|lw
 have Y:=kL (dir:=dir) (aO.old hM p) hf (eZ hf dir).2.2.1
 rw[hwr] at Y
 refine L0<|gN #[] #[] (args:=#[.int .i64 dir,.agg (mG M.code M.fail M.addr M.count M.value M.and_ M.or_ M.addr2 M.sub M.status M.events M.messages (.slice Aw M.words.length kw) (.slice Ab M.bits.length kb) (.slice Ad M.data.length kd) (.slice Ar M.recs.length kr) M.mei M.kind M.level M.more M.next (.slice Ao M.objects.length ko))])<|m1 Y fun cZ bo=>Pl 5<|nt<|sq<|sg<|Pl 7<|nt<|c1<|sg<|Pl 2<|nl<|?_
 refine tn<|rt<|tr<|rr (.tuple #[.slice none 0 0,.int .i64 1])<|?_
 have hs:cX dir M=none:=by
   unfold cX
   (try simp only[a,bs,if_true,if_false,decide_true,decide_false,hkf,fZ,hwr,reduceIte])
   all_goals rfl
 refine ej hs ?_
 exact⟨rfl,(aG p bo)⟩
 have Z:=kL (dir:=dir) (aO.old hM p) hf (eZ hf dir).2.2.1
 rw[hwr] at Z
 refine L0<|gN #[] #[] (args:=#[.int .i64 dir,.agg (mG M.code M.fail M.addr M.count M.value M.and_ M.or_ M.addr2 M.sub M.status M.events M.messages (.slice Aw M.words.length kw) (.slice Ab M.bits.length kb) (.slice Ad M.data.length kd) (.slice Ar M.recs.length kr) M.mei M.kind M.level M.more M.next (.slice Ao M.objects.length ko))])<|dk Z fun d0 d1 d2 bq d3 d4 a0=>Pl 5<|nt<|sq<|sg<|Pl 7<|nt<|?_
 have y:=aG p a0
 refine cb ((decide (253≤((lw.length:Nat) : Int)))) (fun j=>?_) (fun j=>?_)
 have br:=of_decide_eq_true j
 refine sg<|Pl 2<|nt<|rt<|tr<|rr (.tuple #[.slice none 0 0,.int .i64 1])<|?_
 have hs:cX dir M=none:=by
   unfold cX
   (try simp only[a,j,bs,if_true,if_false,decide_true,decide_false,hkf,fZ,hwr,reduceIte])
   all_goals rfl
 refine ej hs ?_
 exact⟨rfl,y⟩
 have br:=of_decide_eq_false j
 refine bp<|sg<|Pl 1<|?_
 refine L0<|aP (ub a0 X) 0<|L0<|cO (m:=1) (e:=5) #[.int .u8 M.code] fun d5 d6 bt bv z=>?_
 have a1:=cN bt (xs:=[M.code]) (by as_aux_lemma=>kernel_rfl) (al (by omega) aJ) (by(try simp only[List.length_cons,List.length_nil]);omega) bv
 refine Pl 1<|?_
 refine L0<|bG aX (xs:=([M.code])) (ys:=lw) (.int .u8 0) 1 a1 ((aq bq z (fun x hx=>aA) (fun _ _ h=>h))).rd (by(try simp only[List.length_append,List.length_cons,List.length_nil,ay]);omega) z.size fun bw bx d7 bz bA=>Pl 2<|nt<|rt<|rr (.tuple #[.slice bw (([M.code]++lw).length) bx,.int .i64 0])<|?_
 have hs:cX dir M=(some ([M.code]++lw)):=by
   unfold cX
   (try simp only[a,j,bs,if_true,if_false,decide_true,decide_false,hkf,fZ,hwr,reduceIte])
   all_goals rfl
 refine ej hs ?_
 exact⟨_,rfl,(aV.weaken bz y.size),(aG y (ut z bA (am (aM a1 lr) av)))⟩
 have a2:=fk (x:=M.code) (w:=f)
 rw[hkf] at a2
 refine L0<|Oc<|m1 a2 fun d8 bB=>Pl 3<|L0<|bQ #[.nilFunc,.nilFunc] fun d9 db bC bD bE=>L0<|be bD #[.func (.func 144) #[] #[],.func (.func 145) #[] #[]] fun dc bF bH=>Pl 1<|nt<|sq<|sg<|Pl 2<|nt<|c0<|?_
 refine bp<|sg<|Pl 1<|L0<|aP bF 1<|Pl 1<|?_
 have a3:=aG bB (ud bE bH bC)
 have a4:=ub a3 d
 refine L0<|bP a4<|?_
 have q:=aG b a3
 rcases hwr:bj fF cI dir M with _|lw
 have a5:=jC (dir:=dir) (aO.old hM q) hf (eZ hf dir).2.2.2.2
 rw[hwr] at a5
 refine L0<|gN #[] #[] (args:=#[.int .i64 dir,.agg (mG M.code M.fail M.addr M.count M.value M.and_ M.or_ M.addr2 M.sub M.status M.events M.messages (.slice Aw M.words.length kw) (.slice Ab M.bits.length kb) (.slice Ad M.data.length kd) (.slice Ar M.recs.length kr) M.mei M.kind M.level M.more M.next (.slice Ao M.objects.length ko))])<|m1 a5 fun dd bI=>Pl 5<|nt<|sq<|sg<|Pl 7<|nt<|c1<|sg<|Pl 2<|nl<|?_
 refine tn<|rt<|tr<|rr (.tuple #[.slice none 0 0,.int .i64 1])<|?_
 have hs:cX dir M=none:=by
   unfold cX
   (try simp only[a,bs,if_true,if_false,decide_true,decide_false,hkf,fZ,hwr,reduceIte])
   all_goals rfl
 refine ej hs ?_
 exact⟨rfl,(aG q bI)⟩
 have a6:=jC (dir:=dir) (aO.old hM q) hf (eZ hf dir).2.2.2.2
 rw[hwr] at a6
 refine L0<|gN #[] #[] (args:=#[.int .i64 dir,.agg (mG M.code M.fail M.addr M.count M.value M.and_ M.or_ M.addr2 M.sub M.status M.events M.messages (.slice Aw M.words.length kw) (.slice Ab M.bits.length kb) (.slice Ad M.data.length kd) (.slice Ar M.recs.length kr) M.mei M.kind M.level M.more M.next (.slice Ao M.objects.length ko))])<|dk a6 fun de df dg bJ dh di a7=>Pl 5<|nt<|sq<|sg<|Pl 7<|nt<|?_
 have A:=aG q a7
 refine cb ((decide (253≤((lw.length:Nat) : Int)))) (fun k=>?_) (fun k=>?_)
 have bL:=of_decide_eq_true k
 refine sg<|Pl 2<|nt<|rt<|tr<|rr (.tuple #[.slice none 0 0,.int .i64 1])<|?_
 have hs:cX dir M=none:=by
   unfold cX
   (try simp only[a,k,bs,if_true,if_false,decide_true,decide_false,hkf,fZ,hwr,reduceIte])
   all_goals rfl
 refine ej hs ?_
 exact⟨rfl,A⟩
 have bL:=of_decide_eq_false k
 refine bp<|sg<|Pl 1<|?_
 refine L0<|aP (ub a7 a4) 0<|L0<|cO (m:=1) (e:=5) #[.int .u8 M.code] fun dj dl bO bR B=>?_
 have a8:=cN bO (xs:=[M.code]) (by as_aux_lemma=>kernel_rfl) (al (by omega) aJ) (by(try simp only[List.length_cons,List.length_nil]);omega) bR
 refine Pl 1<|?_
 refine L0<|bG aX (xs:=([M.code])) (ys:=lw) (.int .u8 0) 1 a8 ((aq bJ B (fun x hx=>aA) (fun _ _ h=>h))).rd (by(try simp only[List.length_append,List.length_cons,List.length_nil,ay]);omega) B.size fun bS bT dm bV bW=>Pl 2<|nt<|rt<|rr (.tuple #[.slice bS (([M.code]++lw).length) bT,.int .i64 0])<|?_
 have hs:cX dir M=(some ([M.code]++lw)):=by
   unfold cX
   (try simp only[a,k,bs,if_true,if_false,decide_true,decide_false,hkf,fZ,hwr,reduceIte])
   all_goals rfl
 refine ej hs ?_
 exact⟨_,rfl,(aV.weaken bV A.size),(aG A (ut B bW (am (aM a8 lr) av)))⟩
 have a9:=fk (x:=M.code) (w:=f)
 rw[hkf] at a9
 refine L0<|Oc<|m1 a9 fun dn bX=>Pl 3<|L0<|bQ #[.nilFunc,.nilFunc] fun dp dq bY bZ c2=>L0<|be bZ #[.func (.func 146) #[] #[],.func (.func 147) #[] #[]] fun dr c3 c4=>Pl 1<|nt<|sq<|sg<|Pl 2<|nt<|c0<|?_
 refine bp<|sg<|Pl 1<|L0<|aP c3 1<|Pl 1<|?_
 have aa:=aG bX (ud c2 c4 bY)
 have ab:=ub aa d
 refine L0<|bP ab<|?_
 have r:=aG b aa
 rcases hwr:bj gX da dir M with _|lw
 have ac:=lJ (dir:=dir) (aO.old hM r) hf (eZ hf dir).2.2.2.1
 rw[hwr] at ac
 refine L0<|gN #[] #[] (args:=#[.int .i64 dir,.agg (mG M.code M.fail M.addr M.count M.value M.and_ M.or_ M.addr2 M.sub M.status M.events M.messages (.slice Aw M.words.length kw) (.slice Ab M.bits.length kb) (.slice Ad M.data.length kd) (.slice Ar M.recs.length kr) M.mei M.kind M.level M.more M.next (.slice Ao M.objects.length ko))])<|m1 ac fun ds c5=>Pl 5<|nt<|sq<|sg<|Pl 7<|nt<|c1<|sg<|Pl 2<|nl<|?_
 refine tn<|rt<|tr<|rr (.tuple #[.slice none 0 0,.int .i64 1])<|?_
 have hs:cX dir M=none:=by
   unfold cX
   (try simp only[a,bs,if_true,if_false,decide_true,decide_false,hkf,fZ,hwr,reduceIte])
   all_goals rfl
 refine ej hs ?_
 exact⟨rfl,(aG r c5)⟩
 have ad:=lJ (dir:=dir) (aO.old hM r) hf (eZ hf dir).2.2.2.1
 rw[hwr] at ad
 refine L0<|gN #[] #[] (args:=#[.int .i64 dir,.agg (mG M.code M.fail M.addr M.count M.value M.and_ M.or_ M.addr2 M.sub M.status M.events M.messages (.slice Aw M.words.length kw) (.slice Ab M.bits.length kb) (.slice Ad M.data.length kd) (.slice Ar M.recs.length kr) M.mei M.kind M.level M.more M.next (.slice Ao M.objects.length ko))])<|dk ad fun dt du dv c6 dw dx ae=>Pl 5<|nt<|sq<|sg<|Pl 7<|nt<|?_
 have C:=aG r ae
 refine cb ((decide (253≤((lw.length:Nat) : Int)))) (fun l=>?_) (fun l=>?_)
 have c7:=of_decide_eq_true l
 refine sg<|Pl 2<|nt<|rt<|tr<|rr (.tuple #[.slice none 0 0,.int .i64 1])<|?_
 have hs:cX dir M=none:=by
   unfold cX
   (try simp only[a,l,bs,if_true,if_false,decide_true,decide_false,hkf,fZ,hwr,reduceIte])
   all_goals rfl
 refine ej hs ?_
 exact⟨rfl,C⟩
 have c7:=of_decide_eq_false l
 refine bp<|sg<|Pl 1<|?_
 refine L0<|aP (ub ae ab) 0<|L0<|cO (m:=1) (e:=5) #[.int .u8 M.code] fun dy dz c8 c9 D=>?_
 have af:=cN c8 (xs:=[M.code]) (by as_aux_lemma=>kernel_rfl) (al (by omega) aJ) (by(try simp only[List.length_cons,List.length_nil]);omega) c9
 refine Pl 1<|?_
 refine L0<|bG aX (xs:=([M.code])) (ys:=lw) (.int .u8 0) 1 af ((aq c6 D (fun x hx=>aA) (fun _ _ h=>h))).rd (by(try simp only[List.length_append,List.length_cons,List.length_nil,ay]);omega) D.size fun ca cc dA cd ce=>Pl 2<|nt<|rt<|rr (.tuple #[.slice ca (([M.code]++lw).length) cc,.int .i64 0])<|?_
 have hs:cX dir M=(some ([M.code]++lw)):=by
   unfold cX
   (try simp only[a,l,bs,if_true,if_false,decide_true,decide_false,hkf,fZ,hwr,reduceIte])
   all_goals rfl
 refine ej hs ?_
 exact⟨_,rfl,(aV.weaken cd C.size),(aG C (ut D ce (am (aM af lr) av)))⟩
 have ag:=fk (x:=M.code) (w:=f)
 rw[hkf] at ag
 refine L0<|Oc<|m1 ag fun dB cf=>Pl 3<|L0<|bQ #[.nilFunc,.nilFunc] fun dD dE cg ch ci=>L0<|be ch #[.nilFunc,.nilFunc] fun dG dH cj=>Pl 1<|nt<|sq<|sg<|Pl 2<|nt<|c1<|?_
 refine sg<|Pl 2<|nt<|rt<|tr<|rr (.tuple #[.slice none 0 0,.int .i64 1])<|?_
 have hs:cX dir M=none:=by
   unfold cX
   (try simp only[a,bs,if_true,if_false,decide_true,decide_false,hkf,fZ,reduceIte])
   all_goals rfl
 refine ej hs ?_
 exact⟨rfl,(aG b (aG cf (ud ci cj cg)))⟩
open Go.RowKit
theorem ik{x y:aQ × Int}(h:x=y){w:World}{e:Ending}{w':World}(k:dY y w e w') : dY x w e w':=by rw[h];exact k
def gU:Nat→Int→List Int→aQ × Int
  | 1,dir,b=>ag aC dir (b.getD 0 0) (b.drop 1)
  | 2,dir,b=>ag aH dir (b.getD 0 0) (b.drop 1)
  | 3,dir,b=>ag aR dir (b.getD 0 0) (b.drop 1)
  | 4,dir,b=>ag aW dir (b.getD 0 0) (b.drop 1)
  | 5,dir,b=>ag bz dir (b.getD 0 0) (b.drop 1)
  | _,_,_=>(aQ.zero,4)
def dn (dir:Int)(b:List Int) : aQ × Int :=
  if dir != 0&&dir != 1 then (aQ.zero,1)
  else if (b.length:Int)==0 then (aQ.zero,2)
  else if decide (253<(b.length:Int)) then (aQ.zero,3)
  else if decide (128≤b.getD 0 0)&&dir==1 then ee b
  else gU (it (b.getD 0 0)) dir b
theorem oE{m:Md}{A:Option Addr}{cp:Nat}{b:List Int}{w:World}{dir:Int}(hsl:bo m w (.slice A b.length cp) b)(hb:b.length≤1048576) :
    Calls Tryz.prog 24 #[.int .i64 dir,.slice A b.length cp] w (dY (dn dir b) w):=by
 have hln:(b.length:Int)≤1048576:=by omega
 refine en 60 Tryz.func24 rfl<|sg<|L0<|bQ mZ fun dj t h a f=>Pl 1<|nt<|sq<|bk<|sg<|Pl 3<|cu 3 [11] 14 (((dir != 0)&&(dir != 1))) (fun K a2=>?_) ?_
 refine bl 11 ((dir != 0)) (fun u=>?_) (fun u=>?_)
 have bZ:=az u
 exact Pl 3<|ce a2 (dir != 1) (by rw[u];rfl)
 have bZ:=aj u
 exact Pl 3<|ce a2 false (by rw[u];rfl)
 refine Pl 1<|nt<|cb (((dir != 0)&&(dir != 1))) (fun d=>?_) (fun d=>?_)
 have a3:=(b6 d).1
 have a4:=(b6 d).2
 have dk:=az a3
 have dl:=az a4
 refine sg<|Pl 1<|L0<|be a mZ fun dm c2 c3=>Pl 1<|nt<|rt<|br<|tr<|bX c2 (.int .i64 1)<|?_
 have hs:dn dir b=(aQ.zero,1):=by
   unfold dn
   (try simp only[d,a3,a4,bs,if_true,if_false,decide_true,decide_false,gU,reduceIte])
   all_goals rfl
 refine ik hs ?_
 exact cQ (ud f c3 h)
 refine sg<|Pl 4<|nt<|cb ((((b.length:Nat) : Int)==0)) (fun e=>?_) (fun e=>?_)
 have c4:=ae e
 refine sg<|Pl 1<|L0<|be a mZ fun dp c5 c6=>Pl 1<|nt<|rt<|br<|tr<|bX c5 (.int .i64 2)<|?_
 have hs:dn dir b=(aQ.zero,2):=by
   unfold dn
   (try simp only[d,e,bs,if_true,if_false,decide_true,decide_false,gU,reduceIte])
   all_goals rfl
 refine ik hs ?_
 exact cQ (ud f c6 h)
 have c4:=ak e
 refine sg<|Pl 4<|nt<|cb ((decide (253<((b.length:Nat) : Int)))) (fun g=>?_) (fun g=>?_)
 have c7:=of_decide_eq_true g
 refine sg<|Pl 1<|L0<|be a mZ fun dq c8 c9=>Pl 1<|nt<|rt<|br<|tr<|bX c8 (.int .i64 3)<|?_
 have hs:dn dir b=(aQ.zero,3):=by
   unfold dn
   (try simp only[d,e,g,bs,if_true,if_false,decide_true,decide_false,gU,reduceIte])
   all_goals rfl
 refine ik hs ?_
 exact cQ (ud f c9 h)
 have c7:=of_decide_eq_false g
 refine sg<|Pl 1<|?_
 have s:=bo.old hsl f
 refine gV (bo.at_ s 0 (by omega)) fun a5 a6 a7 a8 dr=>L0<|mc b.length 0 a7 (by omega)<|L0<|eC (p:=⟨a5,a6+0,none⟩) (v:=.int .u8 (b.getD 0 0)) a8<|Pl 2<|cu 3 [31] 34 (((decide (128≤(b.getD 0 0)))&&(dir==1))) (fun K a9=>?_) ?_
 refine bl 31 ((decide (128≤(b.getD 0 0)))) (fun y=>?_) (fun y=>?_)
 have ca:=of_decide_eq_true y
 exact Pl 3<|ce a9 (dir==1) (by rw[y];rfl)
 have ca:=of_decide_eq_false y
 exact Pl 3<|ce a9 false (by rw[y];rfl)
 refine Pl 1<|nt<|cb (((decide (128≤(b.getD 0 0)))&&(dir==1))) (fun i=>?_) (fun i=>?_)
 have aa:=(b6 i).1
 have ab:=(b6 i).2
 have ds:=of_decide_eq_true aa
 have dt:=ae ab
 refine sg<|Pl 1<|L0<|Oc<|e2 (rc s (by omega)) fun cc du z ac=>Pl 2<|?_
 have ad:=ub ac a
 refine L0<|be (hz:=(by rw[z.size];exact aN)) (hv:=z.size) (h1:=z.one) ad (cc) fun dv cd af=>Pl 1<|nt<|rt<|br<|tr<|eF 22 z.size cd (.int .i64 (((ee b)).2))<|?_
 have hs:dn dir b=(ee b):=by
   unfold dn
   (try simp only[d,e,g,i,aa,ab,bs,if_true,if_false,decide_true,decide_false,gU,reduceIte])
   all_goals rfl
 refine ik hs ?_
 exact⟨_,rfl,(aO.upd z af (ax (aY ad (by decide)) aK)),(ud f (uz ac af) h)⟩
 refine sk<|bn<|tn<|sg<|Pl 1<|L0<|mc b.length 0 a7 (by omega)<|L0<|eC (p:=⟨a5,a6+0,none⟩) (v:=.int .u8 (b.getD 0 0)) a8<|?_
 rcases gl (b.getD 0 0) with⟨hk,hkf⟩|⟨hk,hkf⟩|⟨hk,hkf⟩|⟨hk,hkf⟩|⟨hk,hkf⟩|⟨hk,hkf⟩
 have ai:=fk (x:=(b.getD 0 0)) (w:=t)
 rw[hkf] at ai
 refine L0<|Oc<|m1 ai fun dw al=>Pl 3<|L0<|bQ #[.nilFunc,.nilFunc] fun cf dx am cg ch=>L0<|be cg #[.func (.func 138) #[] #[],.func (.func 139) #[] #[]] fun dy ci cj=>Pl 1<|nt<|sq<|sg<|Pl 2<|nt<|c0<|?_
 refine bp<|sq<|?_
 have an:=aG al (ud ch cj am)
 have ao:=bo.old s an
 refine gV (bo.at_ ao 0 (by omega)) fun ck cl ap aq dz=>Rg 13 (fun w'=>w'.cell? ⟨cf,0,none⟩=some (.func (.func 138) #[] #[])∧w'.cell? ⟨ck,cl+0,none⟩=some (.int .u8 (b.getD 0 0))) fun dA M=>?_
 have ar:=ub M ci
 refine bi ⟨(ah ar rfl),(uc M aq)⟩ fun j=>Rt 0 j<|Rl 1 j (fun _ hs=>hs.1)<|Rt 2 j<|Rt 3 j<|oL 4 j b.length 0 0 rfl ap (by omega)<|Rl 5 j (fun _ hs=>hs.2)<|Rt 6 j<|pn (ef (P:=Tryz.prog) 22 5 1 Tryz.underlying22 rfl rfl A b.length cp 1 (by omega)) fun av hrun108 cm=>Rr 7 j (.slice av (b.length-1) (cp-1)) (fun _ _=>er (kl:=.i64) (k:=((1:Nat) : Int)) (A:=A) (n:=b.length) (c:=cp) rfl Tryz.underlying22 (by kernel_rfl) (by kernel_rfl) (hrun108 _ _))<|?_
 refine R0 8 rfl<|gN #[] #[] (args:=#[.int .i64 dir,.int .u8 (b.getD 0 0),.slice av (b.length-1) (cp-1)])<|e2 (jB (dir:=dir) (c:=(b.getD 0 0)) (b8 (by omega)) (cm _ _ _ _ _ (bo.old ao M)) (by(try simp only[List.length_drop]);omega)) fun cn dB B S=>?_
 have aw:=ub S ar
 have T:=aG M S
 refine bi ⟨(ah aw rfl),(uc T aq)⟩ fun ay=>Rt 9 ay<|Rt 10 ay<|?_
 have aA:=aG an T
 have aB:=ub aA a
 refine R0 11 rfl<|be (hz:=(by rw[B.size];exact aN)) (hv:=B.size) (h1:=B.one) aB (cn) fun dC co C=>?_
 have dD:=uz T C
 have dE:=uz S C
 have aD:=ud f (uz aA C) h
 refine bi ⟨(ah (aZ C (Ne.symm (nb (au a) al.size am)) aw) rfl),(cB (bo.old hsl aD) ap 0 (by omega))⟩ fun cq=>Rt 12 cq<|re<|tn<|rt<|eF 22 B.size co (.int .i64 (((ag aC dir (b.getD 0 0) (b.drop 1))).2))<|?_
 have hs:dn dir b=(ag aC dir (b.getD 0 0) (b.drop 1)):=by
   unfold dn
   (try simp only[d,e,g,i,bs,if_true,if_false,decide_true,decide_false,hkf,gU,reduceIte])
   all_goals rfl
 refine ik hs ?_
 exact⟨_,rfl,(aO.upd B C (ax (aY aB (by decide)) aK)),aD⟩
 have aE:=fk (x:=(b.getD 0 0)) (w:=t)
 rw[hkf] at aE
 refine L0<|Oc<|m1 aE fun dF aF=>Pl 3<|L0<|bQ #[.nilFunc,.nilFunc] fun cr dG aI cs ct=>L0<|be cs #[.func (.func 140) #[] #[],.func (.func 141) #[] #[]] fun dH cv cw=>Pl 1<|nt<|sq<|sg<|Pl 2<|nt<|c0<|?_
 refine bp<|sq<|?_
 have aJ:=aG aF (ud ct cw aI)
 have aL:=bo.old s aJ
 refine gV (bo.at_ aL 0 (by omega)) fun cx cy aM aP dI=>Rg 13 (fun w'=>w'.cell? ⟨cr,0,none⟩=some (.func (.func 140) #[] #[])∧w'.cell? ⟨cx,cy+0,none⟩=some (.int .u8 (b.getD 0 0))) fun dJ N=>?_
 have aS:=ub N cv
 refine bi ⟨(ah aS rfl),(uc N aP)⟩ fun l=>Rt 0 l<|Rl 1 l (fun _ hs=>hs.1)<|Rt 2 l<|Rt 3 l<|oL 4 l b.length 0 0 rfl aM (by omega)<|Rl 5 l (fun _ hs=>hs.2)<|Rt 6 l<|pn (ef (P:=Tryz.prog) 22 5 1 Tryz.underlying22 rfl rfl A b.length cp 1 (by omega)) fun aT hrun188 cz=>Rr 7 l (.slice aT (b.length-1) (cp-1)) (fun _ _=>er (kl:=.i64) (k:=((1:Nat) : Int)) (A:=A) (n:=b.length) (c:=cp) rfl Tryz.underlying22 (by kernel_rfl) (by kernel_rfl) (hrun188 _ _))<|?_
 refine R0 8 rfl<|gN #[] #[] (args:=#[.int .i64 dir,.int .u8 (b.getD 0 0),.slice aT (b.length-1) (cp-1)])<|e2 (kH (dir:=dir) (c:=(b.getD 0 0)) (b8 (by omega)) (cz _ _ _ _ _ (bo.old aL N)) (by(try simp only[List.length_drop]);omega)) fun cA dK D U=>?_
 have aU:=ub U aS
 have V:=aG N U
 refine bi ⟨(ah aU rfl),(uc V aP)⟩ fun aV=>Rt 9 aV<|Rt 10 aV<|?_
 have aX:=aG aJ V
 have b0:=ub aX a
 refine R0 11 rfl<|be (hz:=(by rw[D.size];exact aN)) (hv:=D.size) (h1:=D.one) b0 (cA) fun dL cC E=>?_
 have dM:=uz V E
 have dN:=uz U E
 have b1:=ud f (uz aX E) h
 refine bi ⟨(ah (aZ E (Ne.symm (nb (au a) aF.size aI)) aU) rfl),(cB (bo.old hsl b1) aM 0 (by omega))⟩ fun cD=>Rt 12 cD<|re<|tn<|rt<|eF 22 D.size cC (.int .i64 (((ag aH dir (b.getD 0 0) (b.drop 1))).2))<|?_
 have hs:dn dir b=(ag aH dir (b.getD 0 0) (b.drop 1)):=by
   unfold dn
   (try simp only[d,e,g,i,bs,if_true,if_false,decide_true,decide_false,hkf,gU,reduceIte])
   all_goals rfl
 refine ik hs ?_
 exact⟨_,rfl,(aO.upd D E (ax (aY b0 (by decide)) aK)),b1⟩
 have b2:=fk (x:=(b.getD 0 0)) (w:=t)
 rw[hkf] at b2
 refine L0<|Oc<|m1 b2 fun dO b3=>Pl 3<|L0<|bQ #[.nilFunc,.nilFunc] fun cE dP b4 cF cG=>L0<|be cF #[.func (.func 142) #[] #[],.func (.func 143) #[] #[]] fun dQ cH cI=>Pl 1<|nt<|sq<|sg<|Pl 2<|nt<|c0<|?_
 refine bp<|sq<|?_
 have b5:=aG b3 (ud cG cI b4)
 have b7:=bo.old s b5
 refine gV (bo.at_ b7 0 (by omega)) fun cJ cK b9 ba dR=>Rg 13 (fun w'=>w'.cell? ⟨cE,0,none⟩=some (.func (.func 142) #[] #[])∧w'.cell? ⟨cJ,cK+0,none⟩=some (.int .u8 (b.getD 0 0))) fun dS O=>?_
 have bb:=ub O cH
 refine bi ⟨(ah bb rfl),(uc O ba)⟩ fun o=>Rt 0 o<|Rl 1 o (fun _ hs=>hs.1)<|Rt 2 o<|Rt 3 o<|oL 4 o b.length 0 0 rfl b9 (by omega)<|Rl 5 o (fun _ hs=>hs.2)<|Rt 6 o<|pn (ef (P:=Tryz.prog) 22 5 1 Tryz.underlying22 rfl rfl A b.length cp 1 (by omega)) fun bc hrun268 cL=>Rr 7 o (.slice bc (b.length-1) (cp-1)) (fun _ _=>er (kl:=.i64) (k:=((1:Nat) : Int)) (A:=A) (n:=b.length) (c:=cp) rfl Tryz.underlying22 (by kernel_rfl) (by kernel_rfl) (hrun268 _ _))<|?_
 refine R0 8 rfl<|gN #[] #[] (args:=#[.int .i64 dir,.int .u8 (b.getD 0 0),.slice bc (b.length-1) (cp-1)])<|e2 (jW (dir:=dir) (c:=(b.getD 0 0)) (b8 (by omega)) (cL _ _ _ _ _ (bo.old b7 O)) (by(try simp only[List.length_drop]);omega)) fun cM dT F W=>?_
 have bd:=ub W bb
 have X:=aG O W
 refine bi ⟨(ah bd rfl),(uc X ba)⟩ fun bf=>Rt 9 bf<|Rt 10 bf<|?_
 have bg:=aG b5 X
 have bh:=ub bg a
 refine R0 11 rfl<|be (hz:=(by rw[F.size];exact aN)) (hv:=F.size) (h1:=F.one) bh (cM) fun dU cN G=>?_
 have dV:=uz X G
 have dW:=uz W G
 have bj:=ud f (uz bg G) h
 refine bi ⟨(ah (aZ G (Ne.symm (nb (au a) b3.size b4)) bd) rfl),(cB (bo.old hsl bj) b9 0 (by omega))⟩ fun cO=>Rt 12 cO<|re<|tn<|rt<|eF 22 F.size cN (.int .i64 (((ag aR dir (b.getD 0 0) (b.drop 1))).2))<|?_
 have hs:dn dir b=(ag aR dir (b.getD 0 0) (b.drop 1)):=by
   unfold dn
   (try simp only[d,e,g,i,bs,if_true,if_false,decide_true,decide_false,hkf,gU,reduceIte])
   all_goals rfl
 refine ik hs ?_
 exact⟨_,rfl,(aO.upd F G (ax (aY bh (by decide)) aK)),bj⟩
 have bm:=fk (x:=(b.getD 0 0)) (w:=t)
 rw[hkf] at bm
 refine L0<|Oc<|m1 bm fun dX bq=>Pl 3<|L0<|bQ #[.nilFunc,.nilFunc] fun cP dZ bt cR cS=>L0<|be cR #[.func (.func 144) #[] #[],.func (.func 145) #[] #[]] fun e0 cT cU=>Pl 1<|nt<|sq<|sg<|Pl 2<|nt<|c0<|?_
 refine bp<|sq<|?_
 have bu:=aG bq (ud cS cU bt)
 have bv:=bo.old s bu
 refine gV (bo.at_ bv 0 (by omega)) fun cV cW bw bx e1=>Rg 13 (fun w'=>w'.cell? ⟨cP,0,none⟩=some (.func (.func 144) #[] #[])∧w'.cell? ⟨cV,cW+0,none⟩=some (.int .u8 (b.getD 0 0))) fun e3 Q=>?_
 have bA:=ub Q cT
 refine bi ⟨(ah bA rfl),(uc Q bx)⟩ fun q=>Rt 0 q<|Rl 1 q (fun _ hs=>hs.1)<|Rt 2 q<|Rt 3 q<|oL 4 q b.length 0 0 rfl bw (by omega)<|Rl 5 q (fun _ hs=>hs.2)<|Rt 6 q<|pn (ef (P:=Tryz.prog) 22 5 1 Tryz.underlying22 rfl rfl A b.length cp 1 (by omega)) fun bB hrun348 cX=>Rr 7 q (.slice bB (b.length-1) (cp-1)) (fun _ _=>er (kl:=.i64) (k:=((1:Nat) : Int)) (A:=A) (n:=b.length) (c:=cp) rfl Tryz.underlying22 (by kernel_rfl) (by kernel_rfl) (hrun348 _ _))<|?_
 refine R0 8 rfl<|gN #[] #[] (args:=#[.int .i64 dir,.int .u8 (b.getD 0 0),.slice bB (b.length-1) (cp-1)])<|e2 (jE (dir:=dir) (c:=(b.getD 0 0)) (b8 (by omega)) (cX _ _ _ _ _ (bo.old bv Q)) (by(try simp only[List.length_drop]);omega)) fun cY e4 H Y=>?_
 have bC:=ub Y bA
 have Z:=aG Q Y
 refine bi ⟨(ah bC rfl),(uc Z bx)⟩ fun bD=>Rt 9 bD<|Rt 10 bD<|?_
 have bE:=aG bu Z
 have bF:=ub bE a
 refine R0 11 rfl<|be (hz:=(by rw[H.size];exact aN)) (hv:=H.size) (h1:=H.one) bF (cY) fun e5 cZ I=>?_
 have e6:=uz Z I
 have e7:=uz Y I
 have bG:=ud f (uz bE I) h
 refine bi ⟨(ah (aZ I (Ne.symm (nb (au a) bq.size bt)) bC) rfl),(cB (bo.old hsl bG) bw 0 (by omega))⟩ fun d0=>Rt 12 d0<|re<|tn<|rt<|eF 22 H.size cZ (.int .i64 (((ag aW dir (b.getD 0 0) (b.drop 1))).2))<|?_
 have hs:dn dir b=(ag aW dir (b.getD 0 0) (b.drop 1)):=by
   unfold dn
   (try simp only[d,e,g,i,bs,if_true,if_false,decide_true,decide_false,hkf,gU,reduceIte])
   all_goals rfl
 refine ik hs ?_
 exact⟨_,rfl,(aO.upd H I (ax (aY bF (by decide)) aK)),bG⟩
 have bH:=fk (x:=(b.getD 0 0)) (w:=t)
 rw[hkf] at bH
 refine L0<|Oc<|m1 bH fun e8 bI=>Pl 3<|L0<|bQ #[.nilFunc,.nilFunc] fun d1 e9 bJ d2 d3=>L0<|be d2 #[.func (.func 146) #[] #[],.func (.func 147) #[] #[]] fun ea d4 d5=>Pl 1<|nt<|sq<|sg<|Pl 2<|nt<|c0<|?_
 refine bp<|sq<|?_
 have bK:=aG bI (ud d3 d5 bJ)
 have bL:=bo.old s bK
 refine gV (bo.at_ bL 0 (by omega)) fun d6 d7 bM bN eb=>Rg 13 (fun w'=>w'.cell? ⟨d1,0,none⟩=some (.func (.func 146) #[] #[])∧w'.cell? ⟨d6,d7+0,none⟩=some (.int .u8 (b.getD 0 0))) fun ec R=>?_
 have bO:=ub R d4
 refine bi ⟨(ah bO rfl),(uc R bN)⟩ fun r=>Rt 0 r<|Rl 1 r (fun _ hs=>hs.1)<|Rt 2 r<|Rt 3 r<|oL 4 r b.length 0 0 rfl bM (by omega)<|Rl 5 r (fun _ hs=>hs.2)<|Rt 6 r<|pn (ef (P:=Tryz.prog) 22 5 1 Tryz.underlying22 rfl rfl A b.length cp 1 (by omega)) fun bP hrun428 d8=>Rr 7 r (.slice bP (b.length-1) (cp-1)) (fun _ _=>er (kl:=.i64) (k:=((1:Nat) : Int)) (A:=A) (n:=b.length) (c:=cp) rfl Tryz.underlying22 (by kernel_rfl) (by kernel_rfl) (hrun428 _ _))<|?_
 refine R0 8 rfl<|gN #[] #[] (args:=#[.int .i64 dir,.int .u8 (b.getD 0 0),.slice bP (b.length-1) (cp-1)])<|e2 (lO (dir:=dir) (c:=(b.getD 0 0)) (b8 (by omega)) (d8 _ _ _ _ _ (bo.old bL R)) (by(try simp only[List.length_drop]);omega)) fun d9 ed J a0=>?_
 have bR:=ub a0 bO
 have a1:=aG R a0
 refine bi ⟨(ah bR rfl),(uc a1 bN)⟩ fun bS=>Rt 9 bS<|Rt 10 bS<|?_
 have bT:=aG bK a1
 have bU:=ub bT a
 refine R0 11 rfl<|be (hz:=(by rw[J.size];exact aN)) (hv:=J.size) (h1:=J.one) bU (d9) fun eg da L=>?_
 have eh:=uz a1 L
 have ei:=uz a0 L
 have bV:=ud f (uz bT L) h
 refine bi ⟨(ah (aZ L (Ne.symm (nb (au a) bI.size bJ)) bR) rfl),(cB (bo.old hsl bV) bM 0 (by omega))⟩ fun db=>Rt 12 db<|re<|tn<|rt<|eF 22 J.size da (.int .i64 (((ag bz dir (b.getD 0 0) (b.drop 1))).2))<|?_
 have hs:dn dir b=(ag bz dir (b.getD 0 0) (b.drop 1)):=by
   unfold dn
   (try simp only[d,e,g,i,bs,if_true,if_false,decide_true,decide_false,hkf,gU,reduceIte])
   all_goals rfl
 refine ik hs ?_
 exact⟨_,rfl,(aO.upd J L (ax (aY bU (by decide)) aK)),bV⟩
 have bW:=fk (x:=(b.getD 0 0)) (w:=t)
 rw[hkf] at bW
 refine L0<|Oc<|m1 bW fun ej dc=>Pl 3<|L0<|bQ #[.nilFunc,.nilFunc] fun ek el dd de df=>L0<|be de #[.nilFunc,.nilFunc] fun em eo dg=>Pl 1<|nt<|sq<|sg<|Pl 2<|nt<|c1<|?_
 refine sg<|Pl 1<|?_
 have bY:=aG dc (ud df dg dd)
 refine L0<|be (ub bY a) mZ fun ep dh di=>Pl 1<|nt<|rt<|tr<|bX dh (.int .i64 4)<|?_
 have hs:dn dir b=(aQ.zero,4):=by
   unfold dn
   (try simp only[d,e,g,i,bs,if_true,if_false,decide_true,decide_false,hkf,gU,reduceIte])
   all_goals rfl
 refine ik hs ?_
 exact cQ (ud f (uz bY di) h)
theorem lK{m:Md}{v:Value}{b:List Int}{w:World}{dir:Int}(h:bo m w v b)(hb:b.length≤1048576) : Calls Tryz.prog 24 #[.int .i64 dir,v] w (dY (dn dir b) w):=by
  obtain⟨A,cp,rfl,_,_⟩:=h.shape
  exact oE h hb
end Go.Proofs.YtogbnemojakcpaaGreat
namespace Go.Proofs.YtogbnemojakcpaaGreat
def N1 (C:ai) : Prop:=C.e≠1
theorem N1.need{C:ai}{b:Bool}{x:Int}(hx:x≠1)(h:N1 C) : N1 (C.need b x):=by
  unfold N1 ai.need at *
  split
  · exact hx
  · exact h
theorem N1.bytesC{C:ai}{n:Int}(h:N1 C) : N1 (C.bytesC n):=by
  unfold ai.bytesC
  split
  · exact N1.need (by decide) h
  · exact h
theorem N1.wordsC{C:ai}{n:Int}(h:N1 C) : N1 (C.wordsC n):=by
  unfold ai.wordsC
  split<;>exact N1.bytesC h
theorem N1.recs{one:Int→ai→Int × ai × dt}(ho:∀ s C,N1 C→N1 (one s C).2.1) : ∀ (n:Nat)(s:Int)(C:ai)(L:List dt),N1 C→N1 (aU one n s C L).1
  | 0,_,_,_,h=>h
  | n+1,s,C,L,h=>by
    unfold aU
    split
    · split
      · exact ho s C h
      · exact N1.recs ho n _ _ _ (ho s C h)
    · exact h
theorem N1.objs:∀ (n:Nat)(C:ai)(L:List Obj),N1 C→N1 (dW n C L).1
  | 0,_,_,h=>h
  | n+1,C,L,h=>N1.objs n _ _ (N1.bytesC (N1.bytesC (N1.bytesC h)))
theorem pY{x:Int}(h:x≠1) : bq x≠1:=by
  unfold bq
  split
  · decide
  · exact h
def pX (c:Int)(r:ai × aQ) : Prop:=N1 r.1∧r.2.code=c∧r.2.fail=0
theorem oz{dir c:Int}{C:ai}{r:ai × aQ}(hC:N1 C)(h:aC dir c C=some r) : pX c r:=by
  unfold aC at h
  repeat' split at h
  all_goals first | cases h | skip
  all_goals refine⟨?_,rfl,rfl⟩
  all_goals simp only[cD,cl,ci,eq,bD,iA,dV,cZ,jR,eP]
  all_goals repeat' first | with_reducible exact hC | with_reducible apply N1.bytesC | with_reducible apply N1.wordsC | (with_reducible refine N1.need (by decide) ?_)
theorem qq{dir c:Int}{C:ai}{r:ai × aQ}(hC:N1 C)(h:aH dir c C=some r) : pX c r:=by
  unfold aH at h
  repeat' split at h
  all_goals first | cases h | skip
  all_goals refine⟨?_,rfl,rfl⟩
  all_goals simp only[bL,bT,d8,cz,ck,cC,cA,i1,gZ,gz,bJ,jz,dc,fw,nE,tk,pl]
  all_goals repeat' first | with_reducible exact hC | with_reducible apply N1.bytesC | with_reducible apply N1.wordsC | (with_reducible refine N1.need (by decide) ?_)
theorem pJ{dir c:Int}{C:ai}{r:ai × aQ}(hC:N1 C)(h:aR dir c C=some r) : pX c r:=by
  unfold aR dK bW at h
  repeat' split at h
  all_goals first | cases h | skip
  all_goals refine⟨?_,rfl,rfl⟩
  all_goals simp only[eK,iX,fh,fI,dv]
  all_goals repeat' first | with_reducible exact hC | with_reducible apply N1.bytesC | with_reducible apply N1.wordsC | (with_reducible refine N1.need (by decide) ?_)
theorem rY{dir c:Int}{C:ai}{r:ai × aQ}(hC:N1 C)(h:bz dir c C=some r) : pX c r:=by
  unfold bz at h
  repeat' split at h
  all_goals first | cases h | skip
  all_goals refine⟨?_,rfl,rfl⟩
  all_goals simp only[dj,eu,dX,dH,ja,jn,lu,ss]
  all_goals repeat' first | with_reducible exact hC | with_reducible apply N1.bytesC | with_reducible apply N1.wordsC | with_reducible apply N1.objs | (with_reducible refine N1.need (by decide) ?_)
theorem tJ(s:Int)(C:ai)(h:N1 C) : N1 (cU s C).2.1:=by
  simp only[cU,eA,dD,ew,ij,l7]
  repeat' first | with_reducible exact h | with_reducible apply N1.bytesC | with_reducible apply N1.wordsC | (with_reducible refine N1.need (by decide) ?_)
theorem rD(s:Int)(C:ai)(h:N1 C) : N1 (bH s C).2.1:=by
  simp only[bH,eL,gP,fE]
  repeat' first | with_reducible exact h | with_reducible apply N1.bytesC | with_reducible apply N1.wordsC | (with_reducible refine N1.need (by decide) ?_)
theorem uu(s:Int)(C:ai)(h:N1 C) : N1 (cV s C).2.1:=by
  simp only[cV,iq,l9,dD,ew,ij,l7]
  repeat' first | with_reducible exact h | with_reducible apply N1.bytesC | with_reducible apply N1.wordsC | (with_reducible refine N1.need (by decide) ?_)
theorem jo{one:Int→ai→Int × ai × dt}(ho:∀ s C,N1 C→N1 (one s C).2.1)(may:Int→Bool)(c:Int){C:ai}(hC:N1 C) : N1 (dy one may c C).1:=by
  unfold dy j0
  refine N1.need (pY (N1.recs ho _ _ _ _ ?_)) (N1.bytesC (N1.need (by decide) (N1.bytesC hC)))
  show(0:Int)≠1
  decide
theorem oH{dir c:Int}{C:ai}{r:ai × aQ}(hC:N1 C)(h:aW dir c C=some r) : pX c r:=by
  unfold aW at h
  repeat' split at h
  all_goals first | cases h | skip
  · exact⟨jo tJ _ _ hC,rfl,rfl⟩
  · exact⟨jo rD _ _ hC,rfl,rfl⟩
  · exact⟨jo uu _ _ hC,rfl,rfl⟩
theorem N1.endC{C:ai}(h:N1 C) : N1 C.endC:=by
  unfold ai.endC
  exact N1.need (by decide) h
theorem fH{form:Int→Int→ai→Option (ai × aQ)}(hg:∀ {dir c:Int}{C:ai}{r:ai × aQ},N1 C→form dir c C=some r→pX c r){dir c:Int}{b:List Int}(hd:dir=0∨dir=1){M:aQ}{E:Int}(h:ag form dir c b=(M,E)) :
    E≠1∧(E=0→M.code=c∧M.fail=0):=by
  unfold ag at h
  rw[if_pos hd] at h
  have h0:N1 ⟨b,false,0⟩:=by show(0:Int)≠1;decide
  split at h
  · injection h with h1 h2
    subst h1 h2
    exact⟨by decide,fun h=>by cases h⟩
  · rename_i r hr
    obtain⟨g1,g2,g3⟩:=hg h0 hr
    unfold aL at h
    split at h
    · injection h with h1 h2
      subst h1 h2
      exact⟨by decide,fun _=>⟨g2,g3⟩⟩
    · rename_i hne
      injection h with h1 h2
      subst h1 h2
      exact⟨N1.endC g1,fun h=>absurd h hne⟩
end Go.Proofs.YtogbnemojakcpaaGreat
namespace Go.Proofs.YtogbnemojakcpaaGreat
theorem s0:∀ n:Nat,n<256→(dO (n:Int)=ir (n:Int))∧(ir (n:Int)=false→it (n:Int)=0)∧(128≤n→ir (n:Int)=false):=by decide +kernel
theorem qV{x:Int}(h:0≤x∧x<256) : dO x=ir x∧(ir x=false→it x=0)∧(128≤x→ir x=false):=by
  obtain⟨n,rfl⟩:=Int.eq_ofNat_of_zero_le h.1
  obtain⟨a,b,c⟩:=s0 n (by omega)
  exact⟨a,b,fun h=>c (by omega)⟩
theorem rg{dir:Int}{b:List Int}(hd:dir=0∨dir=1){k:Nat}{M:aQ}{E:Int}(h:gU k dir b=(M,E)) : E≠1∧(E=0→M.code=b.getD 0 0∧M.fail=0):=by
  unfold gU at h
  split at h
  · exact fH (fun hC h=>oz hC h) hd h
  · exact fH (fun hC h=>qq hC h) hd h
  · exact fH (fun hC h=>pJ hC h) hd h
  · exact fH (fun hC h=>oH hC h) hd h
  · exact fH (fun hC h=>rY hC h) hd h
  · injection h with h1 h2
    subst h1 h2
    exact⟨by decide,fun h=>by cases h⟩
theorem pC{b:List Int}{M:aQ}(h:ee b=(M,0)) : M=fU ((b.getD 0 0-128)%256) (b.getD 1 0)∧128≤b.getD 0 0∧dO ((b.getD 0 0-128)%256)=true∧cT (b.getD 1 0)=true∧b.length=2:=by
  unfold ee at h
  split at h
  · cases h
  split at h
  · cases h
  split at h
  · cases h
  split at h
  · cases h
  split at h
  · cases h
  split at h
  · cases h
  injection h with h1 h2
  simp only[decide_eq_true_eq,Bool.not_eq_true',Bool.not_eq_true,beq_iff_eq,Bool.not_eq_false'] at *
  refine⟨h1.symm,by omega,by simp_all,by simp_all,by omega⟩
end Go.Proofs.YtogbnemojakcpaaGreat
namespace Go.Proofs.YtogbnemojakcpaaGreat
theorem dp{parse:Int→Int→List Int→aQ × Int}{lay:Int→aQ→List Int}{dir:Int}{M:aQ}{l:List Int}(h:bj parse lay dir M=some l) : parse dir M.code l=(M,0)∧l=lay dir M:=by
  unfold bj at h
  split at h
  · rename_i hh
    injection h with h
    subst h
    exact⟨hh,rfl⟩
  · cases h
theorem jc{k:Nat}{dir:Int}{M:aQ}{l:List Int}(h:fZ k dir M=some l) : k≠0∧gU k dir ([M.code]++l)=(M,0):=by
  unfold fZ at h
  split at h
  · exact⟨by decide,(dp h).1⟩
  · exact⟨by decide,(dp h).1⟩
  · exact⟨by decide,(dp h).1⟩
  · exact⟨by decide,(dp h).1⟩
  · exact⟨by decide,(dp h).1⟩
  · cases h
theorem qp{M:aQ}{l:List Int}(h:jM M=some l) : dO M.code=true∧cT M.fail=true∧M=fU M.code M.fail∧l=[(M.code+128)%256,M.fail]:=by
  unfold jM at h
  split at h
  · cases h
  split at h
  · cases h
  rename_i h1 h2
  injection h with h
  subst h
  have h3:fe M.code M.fail=true:=by
    cases hp:fe M.code M.fail
    · rw[hp] at h1;exact absurd rfl h1
    · rfl
  have h4:M=fU M.code M.fail:=by
    by_cases hm:M=fU M.code M.fail
    · exact hm
    · rw[decide_eq_false hm] at h2;exact absurd rfl h2
  unfold fe at h3
  obtain⟨h5,h6⟩:=fY h3
  exact⟨(fY h5).2,h6,h4,rfl⟩
theorem ic{dir:Int}{M:aQ}{l:List Int}(hc:0≤M.code∧M.code<256)(h:cX dir M=some l) :
    (M.fail≠0∧dir=1∧dO M.code=true∧cT M.fail=true∧M=fU M.code M.fail∧l=[M.code+128,M.fail]∧M.code<128) ∨
    (M.fail=0∧it M.code≠0∧M.code<128∧∃ l',fZ (it M.code) dir M=some l'∧l'.length<253∧l=[M.code]++l'):=by
  obtain⟨t1,t2,t3⟩:=qV hc
  unfold cX at h
  split at h
  · rename_i hf
    split at h
    · cases h
    · rename_i hd
      obtain⟨h1,h2,h3,h4⟩:=qp h
      have h5:M.code<128:=by
        by_cases h6:128≤M.code
        · have:=t3 h6
          rw[← t1,h1] at this
          cases this
        · omega
      refine .inl ⟨by simpa using hf,by simpa using hd,h1,h2,h3,?_,h5⟩
      rw[h4]
      congr 1
      omega
  · rename_i hf
    split at h
    · cases h
    · rename_i l' hl
      split at h
      · cases h
      · rename_i hn
        injection h with h
        have hk:=(jc hl).1
        have h5:M.code<128:=by
          by_cases h6:128≤M.code
          · exact absurd (t2 (t3 h6)) hk
          · omega
        simp only[decide_eq_true_eq] at hn
        exact .inr ⟨by simpa using hf,hk,h5,l',hl,by omega,h.symm⟩
theorem vF{dir:Int}{M:aQ}{l:List Int}(hd:dir=0∨dir=1)(hc:0≤M.code∧M.code<256)(hf:0≤M.fail∧M.fail<256)(h:cX dir M=some l) : dn dir l=(M,0):=by
  have hdd:(dir != 0&&dir != 1)=false:=by rcases hd with rfl | rfl<;>rfl
  rcases ic hc h with⟨h1,rfl,h2,h3,h4,rfl,h5⟩|⟨h1,h2,h3,l',h4,h5,rfl⟩
  · have ha:decide (128≤M.code+128)=true:=by simp;omega
    have hb:(M.code+128-128)%256=M.code:=by omega
    have ew:decide (M.code+128<128)=false:=by simp;omega
    unfold dn
    simp only[List.length_cons,List.length_nil,List.getD_cons_zero,ha]
    show ee [M.code+128,M.fail]=(M,0)
    unfold ee
    simp only[List.length_cons,List.length_nil,List.getD_cons_zero,List.getD_cons_succ,hb,ew,h2,h3]
    show(fU M.code M.fail,(0:Int))=(M,0)
    rw[← h4]
  · have ha:(decide (128≤M.code)&&dir==1)=false:=by
      have:decide (128≤M.code)=false:=by simp;omega
      rw[this];rfl
    have hl0:(((([M.code]++l').length:Nat) : Int)==0)=false:=by
      simp only[List.length_append,List.length_cons,List.length_nil,beq_eq_false_iff_ne,ne_eq];omega
    have hl1:decide (253<((([M.code]++l').length:Nat) : Int))=false:=by
      simp only[List.length_append,List.length_cons,List.length_nil,decide_eq_false_iff_not];omega
    have hg:([M.code]++l').getD 0 0=M.code:=rfl
    unfold dn
    rw[hdd,hl0,hl1,hg,ha]
    exact(jc h4).2
theorem tq{dir:Int}{M:aQ}{l:List Int}(hc:0≤M.code∧M.code<256)(h:cX dir M=some l) : l.length≤253:=by
  rcases ic hc h with⟨_,_,_,_,_,rfl,_⟩|⟨_,_,_,l',_,h2,rfl⟩
  · simp
  · simp only[List.length_append,List.length_cons,List.length_nil];omega
open Go.RowKit
theorem pP{w w':World}(h:aE [] w w') : Below w.heap.size w w':=⟨h.os,h.tape,h.output,h.size,fun k hk=>h.block k hk (by simp)⟩
theorem qj{n:Int}(h:(Lit.int .u8 n).wf=true) : 0≤n∧n<256:=by
  have:=bounds_u8 h
  omega
open Go.RowKit
structure SL where
  aw:Option Addr
  kw:Nat
  ab:Option Addr
  kb:Nat
  ad:Option Addr
  kd:Nat
  ar:Option Addr
  kr:Nat
  ao:Option Addr
  ko:Nat
def xI (M:aQ)(x:SL) : Array Value:=mG M.code M.fail M.addr M.count M.value M.and_ M.or_ M.addr2 M.sub M.status M.events M.messages (.slice x.aw M.words.length x.kw) (.slice x.ab M.bits.length x.kb) (.slice x.ad M.data.length x.kd) (.slice x.ar M.recs.length x.kr) M.mei M.kind M.level M.more M.next (.slice x.ao M.objects.length x.ko)
theorem vA{m:Md}{w:World}{cs:Array Value}{M:aQ}(h:aO m w cs.toList M) : ∃ x,cs=xI M x:=by
  obtain⟨vw,vb,vd,vr,vo,h0,hw,hb,hd,hr,ho,hR⟩:=h
  obtain⟨aw,kw,rfl,_,_⟩:=hw.shape
  obtain⟨ab,kb,rfl,_,_⟩:=hb.shape
  obtain⟨ad,kd,rfl,_,_⟩:=hd.shape
  obtain⟨ar,kr,rfl,_,_⟩:=hr.shape
  obtain⟨ao,ko,rfl,_,_⟩:=ho.shape
  refine⟨⟨aw,kw,ab,kb,ad,kd,ar,kr,ao,ko⟩,?_⟩
  apply Array.toList_inj.1
  rw[h0]
  rfl
theorem aO.rngs{m:Md}{w:World}{cs:Array Value}{M:aQ}(h:aO m w cs.toList M) : (0≤M.code∧M.code<256)∧(0≤M.fail∧M.fail<256):=by
  obtain⟨vw,vb,vd,vr,vo,h0,hw,hb,hd,hr,ho,hR⟩:=h
  exact⟨hR.code,hR.fail⟩
theorem o6{m:Md}{cs:Array Value}{M:aQ}{w:World}{dir:Int}(hX:cX dir M=none)(h:aO m w cs.toList M)(hf:bU M) : Calls Tryz.prog 28 #[.int .i64 dir,.agg cs] w (fun e w'=>e = .returned (.tuple #[.slice none 0 0,.int .i64 1])∧aE [] w w'):=by
  have:=j9 (dir:=dir) h hf
  rw[hX] at this
  exact this
theorem mW{m:Md}{cs:Array Value}{M:aQ}{w:World}{dir:Int}{l:List Int}(hX:cX dir M=some l)(h:aO m w cs.toList M)(hf:bU M) : Calls Tryz.prog 28 #[.int .i64 dir,.agg cs] w (fun e w'=>∃ v,e = .returned (.tuple #[v,.int .i64 0])∧eY w.heap.size w' v l∧aE [] w w'):=by
  have:=j9 (dir:=dir) h hf
  rw[hX] at this
  exact this
end Go.Proofs.YtogbnemojakcpaaGreat
namespace Go.Proofs.YtogbnemojakcpaaGreat
def eJ (C:ai) : Prop:=∀ x,x∈C.l→0≤x∧x<256
theorem fN{C:ai}{ok:Bool}{x:Int}(hx:x≠0)(h:(C.need ok x).e=0) : C.e=0∧ok=true:=by
  unfold ai.need at h
  split at h
  · exact absurd h hx
  · rename_i hh
    refine⟨h,?_⟩
    cases ok
    · exact absurd ⟨h,rfl⟩ hh
    · rfl
theorem gk{C:ai}{n:Int}(h:(C.bytesC n).e=0) : C.e=0∧C.l=C.bytesR n++(C.bytesC n).l∧((C.bytesR n).length:Int)=n:=by
  unfold ai.bytesC at h ⊢
  unfold ai.bytesR
  split at h
  · exfalso
    unfold ai.need at h
    split at h
    · cases h
    · rename_i hh
      exact hh ⟨h,rfl⟩
  · rename_i hf
    rw[if_neg hf,if_neg hf]
    refine⟨h,(List.take_append_drop _ _).symm,?_⟩
    unfold ai.fails at hf
    simp only[Bool.or_eq_true,decide_eq_true_eq,not_or] at hf
    rw[List.length_take]
    omega
theorem kq:∀ (l:List Int),l.length%2=0→(∀ x,x∈l→0≤x∧x<256)→aF (du l)=l
  | [],_,_=>rfl
  | [_],h,_=>by simp at h
  | a :: b :: r,h,hr=>by
    have ha:=hr a (by simp)
    have hb:=hr b (by simp)
    simp only[du,aF]
    rw[kq r (by simp at h;omega) (fun x hx=>hr x (by simp[hx]))]
    congr 1
    · omega
    · congr 1
      omega
theorem jq{C:ai}{n:Int}(hr:eJ C)(h:(C.wordsC n).e=0) : C.e=0∧C.l=aF (C.wordsR n)++(C.wordsC n).l∧((C.wordsR n).length:Int)=n:=by
  unfold ai.wordsC at h ⊢
  unfold ai.wordsR
  split at h
  · obtain⟨_,_,h3⟩:=gk h
    omega
  · rename_i hb
    rw[if_neg hb,if_neg hb]
    obtain⟨h1,h2,h3⟩:=gk h
    have h4:(C.bytesR (2*n)).length%2=0:=by omega
    have h5:∀ x,x∈C.bytesR (2*n)→0≤x∧x<256:=fun x hx=>hr x (by rw[h2];exact List.mem_append_left _ hx)
    unfold cY
    rw[if_pos h4]
    refine⟨h1,by rw[kq _ h4 h5];exact h2,?_⟩
    rw[fq]
    omega
def dw (C:ai)(l:List Int)(C':ai) : Prop:=eJ C→eJ C'∧(C'.e=0→C.e=0∧C.l=l++C'.l)
theorem dw.trans{A B C:ai}{l m:List Int}(h:dw A l B)(k:dw B m C) : dw A (l++m) C:=fun hr=>by
  obtain⟨h1,h2⟩:=h hr
  obtain⟨k1,k2⟩:=k h1
  refine⟨k1,fun he=>?_⟩
  obtain⟨k3,k4⟩:=k2 he
  obtain⟨h3,h4⟩:=h2 k3
  exact⟨h3,by rw[h4,k4,List.append_assoc]⟩
theorem dw.refl(C:ai) : dw C [] C:=fun hr=>⟨hr,fun he=>⟨he,rfl⟩⟩
theorem dw.need{A C:ai}{l:List Int}{ok:Bool}{x:Int}(h:dw A l C)(hx:x≠0:=by decide) : dw A l (C.need ok x):=fun hr=>by
  obtain⟨h1,h2⟩:=h hr
  refine⟨fun y hy=>h1 y (by rwa [j8] at hy),fun he=>?_⟩
  rw[j8]
  exact h2 (fN hx he).1
theorem dw.bytes{A C:ai}{l:List Int}(h:dw A l C)(n:Int) : dw A (l++C.bytesR n) (C.bytesC n):=h.trans fun hr=>⟨gG hr n,fun he=>⟨(gk he).1,(gk he).2.1⟩⟩
theorem dw.words{A C:ai}{l:List Int}(h:dw A l C)(n:Int) : dw A (l++aF (C.wordsR n)) (C.wordsC n):=h.trans fun hr=>⟨cR hr n,fun he=>⟨(jq hr he).1,(jq hr he).2.1⟩⟩
theorem rV{l:List Int}(h:(l.length:Int)=1) : l=[l.getD 0 0]:=by
  match l,h with
  | [a],_=>rfl
  | [],h=>simp at h
  | _ :: _ :: _,h=>simp at h;omega
theorem dw.byte{A C:ai}{l:List Int}(h:dw A l C) : dw A (l++[C.byteV]) (C.bytesC 1):=h.trans fun hr=>⟨gG hr 1,fun he=>by
  obtain⟨h1,h2,h3⟩:=gk he
  refine⟨h1,?_⟩
  have:=rV h3
  show C.l=[(C.bytesR 1).getD 0 0]++_
  rw[← this]
  exact h2⟩
theorem dw.word{A C:ai}{l:List Int}(h:dw A l C) : dw A (l++aF [C.wordV]) (C.wordsC 1):=h.trans fun hr=>⟨cR hr 1,fun he=>by
  obtain⟨h1,h2,h3⟩:=jq hr he
  refine⟨h1,?_⟩
  have:=rV h3
  show C.l=aF [(C.wordsR 1).getD 0 0]++_
  rw[← this]
  exact h2⟩
theorem dw.fin{A C:ai}{l:List Int}(h:dw A l C)(hr:eJ A)(he:C.endC.e=0) : C.e=0∧A.l=l:=by
  unfold ai.endC at he
  obtain⟨h1,h2⟩:=fN (by decide) he
  obtain⟨_,h3⟩:=(h hr).2 h1
  have:C.l=[]:=by
    simp only[beq_iff_eq] at h2
    exact List.eq_nil_of_length_eq_zero (by omega)
  exact⟨h1,by rw[h3,this,List.append_nil]⟩
theorem db{C:ai}(hr:eJ C) : 0≤C.byteV∧C.byteV<256:=by
  unfold ai.byteV
  rw[List.getD_eq_getElem?_getD]
  cases h:(C.bytesR 1)[0]? with
  | none=>simp
  | some x =>
    have hm:x∈C.bytesR 1:=List.mem_of_getElem? h
    have:x∈C.l:=by
      unfold ai.bytesR at hm
      split at hm
      · cases hm
      · exact List.mem_of_mem_take hm
    exact hr x this
theorem kC(C:ai)(most:Int) : dw C (aF [C.wordV,(C.wordsC 1).wordV]) (bD C most):=by
  have:=(((dw.refl C).word).word)
  exact(this.need).need
theorem tg:∀ n:Nat,n<256→(((if ((n:Int)/2 ^ 0%2==1) then 1 else 0)+(if ((n:Int)/2 ^ 1%2==1) then 2 else 0)+(if ((n:Int)/2 ^ 2%2==1) then 4 else 0)+(if ((n:Int)/2 ^ 3%2==1) then 8 else 0)+(if ((n:Int)/2 ^ 4%2==1) then 16 else 0)+(if ((n:Int)/2 ^ 5%2==1) then 32 else 0)+(if ((n:Int)/2 ^ 6%2==1) then 64 else 0)+(if ((n:Int)/2 ^ 7%2==1) then 128 else 0) : Nat) : Int)=n:=by decide +kernel
theorem ly{x:Int}(hx:0≤x∧x<256)(f:Nat→Bool)(hf:∀ i,i<8→f i=(x/2 ^ i%2==1)) :
    (((if f 0 then 1 else 0)+(if f 1 then 2 else 0)+(if f 2 then 4 else 0)+(if f 3 then 8 else 0)+(if f 4 then 16 else 0)+(if f 5 then 32 else 0)+(if f 6 then 64 else 0)+(if f 7 then 128 else 0) : Nat) : Int)=x:=by
  rw[hf 0 (by decide),hf 1 (by decide),hf 2 (by decide),hf 3 (by decide),hf 4 (by decide),hf 5 (by decide),hf 6 (by decide),hf 7 (by decide)]
  obtain⟨n,rfl⟩:=Int.eq_ofNat_of_zero_le hx.1
  exact tg n (by omega)
theorem jI{b:List Int}{n:Int}{l:List Bool}(hr:∀ x,x∈b→0≤x∧x<256)(h:cw b n=some l) : bO l=b:=by
  unfold cw at h
  split at h
  · rename_i hc
    split at h
    · rename_i hall
      injection h with h
      subst h
      have hlen:((List.range n.toNat).map (cH b)).length=n.toNat:=by simp
      have hm:((List.range n.toNat).map (cH b)).length=n:=by rw[hlen];omega
      unfold bO
      rw[hm,← hc.2]
      apply List.ext_getElem
      · simp
      intro j h1 h2
      simp only[List.getElem_map,List.getElem_range]
      have hj:j<b.length:=h2
      have hget:∀ i,i<8*b.length→((List.range n.toNat).map (cH b)).getD i false=cH b i:=fun i hi=>by
        rw[List.getD_eq_getElem?_getD,List.getElem?_map]
        by_cases hin:i<n.toNat
        · rw[List.getElem?_range hin];rfl
        · rw[List.getElem?_eq_none (by simpa using hin)]
          rw[List.all_eq_true] at hall
          have:=hall i (by simpa using hi)
          simp only[Bool.or_eq_true,decide_eq_true_eq,Bool.not_eq_true'] at this
          rcases this with h3|h3
          · omega
          · simp[h3]
      have hx:∀ k,k<8→cH b (8*j+k)=(b[j]/2 ^ k%2==1):=fun k hk=>by
        unfold cH
        rw[show(8*j+k)/8=j from by omega,show(8*j+k)%8=k from by omega,List.getD_eq_getElem?_getD,List.getElem?_eq_getElem hj]
        rfl
      unfold cc
      rw[show(8*j:Nat)=8*j+0 from rfl]
      simp only[hget _ (show 8*j+0<8*b.length by omega),hget _ (show 8*j+0+1<8*b.length by omega),hget _ (show 8*j+0+2<8*b.length by omega),hget _ (show 8*j+0+3<8*b.length by omega),hget _ (show 8*j+0+4<8*b.length by omega),hget _ (show 8*j+0+5<8*b.length by omega),hget _ (show 8*j+0+6<8*b.length by omega),hget _ (show 8*j+0+7<8*b.length by omega)]
      exact ly (hr _ (List.getElem_mem hj)) (fun k=>cH b (8*j+k)) hx
    · cases h
  · cases h
end Go.Proofs.YtogbnemojakcpaaGreat
namespace Go.Proofs.YtogbnemojakcpaaGreat
theorem bV{α β:Type}{p:α × β}{a:α}{b:β}(h:some p=some (a,b)) : p.1=a∧p.2=b:=by
  injection h with h
  rw[h]
  exact⟨rfl,rfl⟩
theorem pi{C:ai}{most c:Int}(hr:eJ C)(he:(cD most c C).1.endC.e=0) : aF [C.wordV,(C.wordsC 1).wordV]=C.l:=((kC C most).fin hr he).2.symm
theorem ro{C:ai}{c:Int}(hr:eJ C)(he:(cl c C).1.endC.e=0) : [(((cZ C).bytesR C.byteV).length:Int)%256]++(cZ C).bytesR C.byteV=C.l:=by
  have hbv:=db hr
  have hE:dw C ([]++[C.byteV]++(cZ C).bytesR C.byteV) ((cZ C).bytesC C.byteV):=(((dw.refl C).byte).need).bytes _
  obtain⟨h1,h2⟩:=hE.fin hr he
  obtain⟨_,_,h3⟩:=gk h1
  rw[h2,h3,Int.emod_eq_of_lt hbv.1 hbv.2]
  rfl
theorem sZ{C:ai}{c:Int}(hr:eJ C)(he:(ci c C).1.endC.e=0) : aF [C.wordV,(C.wordsC 1).wordV]=C.l:=by
  have hE:dw C ([]++aF [C.wordV]++aF [(C.wordsC 1).wordV]) (dV C):=(((dw.refl C).word).word).need
  rw[(hE.fin hr he).2]
  rfl
theorem vt{C:ai}{c:Int}(hr:eJ C)(he:(eq c C).1.endC.e=0) : (aF [C.wordV,(C.wordsC 1).wordV]++[((bO ((jP C).getD [])).length:Int)%256])++bO ((jP C).getD [])=C.l:=by
  have hE:dw C (aF [C.wordV,(C.wordsC 1).wordV]++[(bD C 1968).byteV]++(eP C).bytesR (iZ C)) (jR C):=(((((kC C 1968).byte).need).bytes _).need)
  obtain⟨h1,h2⟩:=hE.fin hr he
  obtain⟨h3,h4⟩:=fN (by decide) h1
  obtain⟨_,_,h5⟩:=gk h3
  obtain⟨l,hl⟩:=Option.isSome_iff_exists.1 h4
  have hB:∀ x,x∈(eP C).bytesR (iZ C)→0≤x∧x<256:=fun x hx=>hr x (by rw[h2];exact List.mem_append_right _ hx)
  have h6:bO l=(eP C).bytesR (iZ C):=jI hB hl
  have hk:0≤iZ C∧iZ C<256:=db ((kC C 1968) hr).1
  rw[hl]
  show(aF [C.wordV,(C.wordsC 1).wordV]++[((bO l).length:Int)%256])++bO l=C.l
  rw[h6,h2,h5,Int.emod_eq_of_lt hk.1 hk.2]
  rfl
theorem rB{dir c:Int}{C C':ai}{M:aQ}(hd:dir=0∨dir=1)(hr:eJ C)(h:aC dir c C=some (C',M))(he:C'.endC.e=0) : bN dir M=C.l:=by
  unfold aC at h
  split at h
  · rename_i hc
    simp only[Bool.or_eq_true,beq_iff_eq] at hc
    rcases hd with rfl|rfl
    · have h:some (cD 2000 c C)=some (C',M):=h
      obtain⟨rfl,rfl⟩:=bV h
      rcases hc with rfl|rfl<;>exact pi hr he
    · have h:some (cl c C)=some (C',M):=h
      obtain⟨rfl,rfl⟩:=bV h
      rcases hc with rfl|rfl<;>exact ro hr he
  split at h
  · rename_i hc
    obtain rfl:c=5:=by simpa using hc
    obtain⟨rfl,rfl⟩:=bV h
    exact sZ hr he
  split at h
  · rename_i hc
    obtain rfl:c=15:=by simpa using hc
    rcases hd with rfl|rfl
    · have h:some (eq 15 C)=some (C',M):=h
      obtain⟨rfl,rfl⟩:=bV h
      exact vt hr he
    · have h:some (cD 1968 15 C)=some (C',M):=h
      obtain⟨rfl,rfl⟩:=bV h
      exact pi hr he
  · cases h
theorem i8{A C:ai}{l:List Int}(h:dw A l C)(a most:Int) : dw A (l++aF [C.wordV]) (bJ C a most):=((h.word).need).need
theorem wb{n hi:Int}(h:hH n hi=true) : n%2=0∧2≤n∧n≤hi:=by
  unfold hH at h
  simp only[Bool.and_eq_true,decide_eq_true_eq,beq_iff_eq] at h
  exact⟨h.1.1,h.1.2,h.2⟩
theorem nT{c:Int}{C:ai}(hr:eJ C)(he:(bT c C).1.endC.e=0) : [(2*(((jz C).wordsR (C.byteV/2)).length:Int))%256]++aF ((jz C).wordsR (C.byteV/2))=C.l:=by
  have hbv:=db hr
  have hE0:dw C ([]++[C.byteV]) (jz C):=((dw.refl C).byte).need
  have hE:=hE0.words (C.byteV/2)
  obtain⟨h1,h2⟩:=hE.fin hr he
  obtain⟨h3,_,h5⟩:=jq (hE0 hr).1 h1
  obtain⟨h6,h7,h8⟩:=wb (fN (by decide) h3).2
  rw[h2,h5,show(2*(C.byteV/2))%256=C.byteV from by omega]
  rfl
theorem nP{most c:Int}{C:ai}(hr:eJ C)(he:(bL most c C).1.endC.e=0) : aF [C.wordV,(C.wordsC 1).wordV]=C.l:=by
  rw[((i8 (dw.refl C).word C.wordV most).fin hr he).2]
  rfl
theorem uB{c:Int}{C:ai}(hr:eJ C)(he:(d8 c C).1.endC.e=0) : aF [C.wordV,(C.wordsC 1).wordV]=C.l:=by
  rw[(((dw.refl C).word).word.fin hr he).2]
  rfl
theorem jr{A C:ai}{l:List Int}(h:dw A l C)(n:Int) : dw A (l++[C.byteV]) (dc C n):=(h.byte).need
theorem sI{c:Int}{C:ai}(hr:eJ C)(he:(cz c C).1.endC.e=0) : (aF [C.wordV,(C.wordsC 1).wordV]++[(2*(((gZ C).wordsR (C.wordsC 1).wordV).length:Int))%256])++aF ((gZ C).wordsR (C.wordsC 1).wordV)=C.l:=by
  have hE0:dw C _ (bJ (C.wordsC 1) C.wordV 123):=i8 (dw.refl C).word C.wordV 123
  have hE1:dw C _ (gZ C):=jr hE0 (C.wordsC 1).wordV
  have hbv:=db (hE0 hr).1
  obtain⟨h1,h2⟩:=(hE1.words (C.wordsC 1).wordV).fin hr he
  obtain⟨h3,_,h5⟩:=jq (hE1 hr).1 h1
  have h6:=(fN (by decide) h3).2
  simp only[beq_iff_eq] at h6
  rw[h5,← h6,Int.emod_eq_of_lt hbv.1 hbv.2,h2]
  rfl
theorem sa{c:Int}{C:ai}(hr:eJ C)(he:(ck c C).1.endC.e=0) : aF [C.wordV,(C.wordsC 1).wordV,((C.wordsC 1).wordsC 1).wordV]=C.l:=by
  rw[(((dw.refl C).word).word.word.fin hr he).2]
  rfl
theorem s4{c:Int}{C:ai}(hr:eJ C)(he:(cC c C).1.endC.e=0) : (aF [C.wordV,(C.wordsC 1).wordV,(bJ (C.wordsC 1) C.wordV 125).wordV,(((gz C).wordsR (fw C).wordV).length:Int)%65536]++[(2*(((gz C).wordsR (fw C).wordV).length:Int))%256])++aF ((gz C).wordsR (fw C).wordV)=C.l:=by
  have hE0:dw C _ (fw C):=(i8 (dw.refl C).word C.wordV 125).word
  have hE1:dw C _ (nE C):=i8 hE0 (bJ (C.wordsC 1) C.wordV 125).wordV 121
  have hE2:dw C _ (gz C):=jr hE1 (fw C).wordV
  have hbv:=db (hE1 hr).1
  have hwv:0≤(fw C).wordV∧(fw C).wordV<65536:=bR (hE0 hr).1
  obtain⟨h1,h2⟩:=(hE2.words (fw C).wordV).fin hr he
  obtain⟨h3,_,h5⟩:=jq (hE2 hr).1 h1
  have h6:=(fN (by decide) h3).2
  simp only[beq_iff_eq] at h6
  rw[h5,Int.emod_eq_of_lt hwv.1 hwv.2,← h6,Int.emod_eq_of_lt hbv.1 hbv.2,h2]
  rfl
theorem se{c:Int}{C:ai}(hr:eJ C)(he:(cA c C).1.endC.e=0) : aF [C.wordV]=C.l:=by
  rw[((dw.refl C).word.fin hr he).2]
  rfl
theorem wu{c:Int}{C:ai}(hr:eJ C)(he:(i1 c C).1.endC.e=0) : aF [(2+2*(((tk C).wordsR (pl C).wordV).length:Int))%65536,(((tk C).wordsR (pl C).wordV).length:Int)%65536]++aF ((tk C).wordsR (pl C).wordV)=C.l:=by
  have hE0:dw C _ (pl C):=((dw.refl C).word).need
  have hE1:dw C _ (tk C):=(hE0.word).need
  have hwc:0≤C.wordV∧C.wordV<65536:=bR hr
  have hwv:0≤(pl C).wordV∧(pl C).wordV<65536:=bR (hE0 hr).1
  obtain⟨h1,h2⟩:=(hE1.words (pl C).wordV).fin hr he
  obtain⟨h3,_,h5⟩:=jq (hE1 hr).1 h1
  have h6:=(fN (by decide) h3).2
  simp only[beq_iff_eq] at h6
  rw[h5,h6,Int.emod_eq_of_lt hwv.1 hwv.2,Int.emod_eq_of_lt hwc.1 hwc.2,h2]
  rfl
theorem u5{dir c:Int}{C C':ai}{M:aQ}(hd:dir=0∨dir=1)(hr:eJ C)(h:aH dir c C=some (C',M))(he:C'.endC.e=0) : bK dir M=C.l:=by
  unfold aH at h
  split at h
  · rename_i hc
    simp only[Bool.or_eq_true,beq_iff_eq] at hc
    rcases hd with rfl|rfl
    · have h:some (bL 125 c C)=some (C',M):=h
      obtain⟨rfl,rfl⟩:=bV h
      rcases hc with rfl|rfl<;>exact nP hr he
    · have h:some (bT c C)=some (C',M):=h
      obtain⟨rfl,rfl⟩:=bV h
      rcases hc with rfl|rfl<;>exact nT hr he
  split at h
  · rename_i hc
    obtain rfl:c=6:=by simpa using hc
    obtain⟨rfl,rfl⟩:=bV h
    rcases hd with rfl|rfl<;>exact uB hr he
  split at h
  · rename_i hc
    obtain rfl:c=16:=by simpa using hc
    rcases hd with rfl|rfl
    · have h:some (cz 16 C)=some (C',M):=h
      obtain⟨rfl,rfl⟩:=bV h
      exact sI hr he
    · have h:some (bL 123 16 C)=some (C',M):=h
      obtain⟨rfl,rfl⟩:=bV h
      exact nP hr he
  split at h
  · rename_i hc
    obtain rfl:c=22:=by simpa using hc
    obtain⟨rfl,rfl⟩:=bV h
    rcases hd with rfl|rfl<;>exact sa hr he
  split at h
  · rename_i hc
    obtain rfl:c=23:=by simpa using hc
    rcases hd with rfl|rfl
    · have h:some (cC 23 C)=some (C',M):=h
      obtain⟨rfl,rfl⟩:=bV h
      exact s4 hr he
    · have h:some (bT 23 C)=some (C',M):=h
      obtain⟨rfl,rfl⟩:=bV h
      exact nT hr he
  split at h
  · rename_i hc
    obtain rfl:c=24:=by simpa using hc
    rcases hd with rfl|rfl
    · have h:some (cA 24 C)=some (C',M):=h
      obtain⟨rfl,rfl⟩:=bV h
      exact se hr he
    · have h:some (i1 24 C)=some (C',M):=h
      obtain⟨rfl,rfl⟩:=bV h
      exact wu hr he
  · cases h
end Go.Proofs.YtogbnemojakcpaaGreat
namespace Go.Proofs.YtogbnemojakcpaaGreat
theorem dw.conv{A C:ai}{l l':List Int}(h:dw A l C)(k:eJ A→eJ C→C.e=0→l=l') : dw A l' C:=fun hr=>by
  obtain⟨h1,h2⟩:=h hr
  refine⟨h1,fun he=>?_⟩
  rw[← k hr h1 he]
  exact h2 he
theorem tH{dir c:Int}{C:ai}(hr:eJ C)(he:(dK dir c C).1.endC.e=0) : aF [(dK dir c C).2.sub]++aF (dK dir c C).2.words=C.l:=by
  have hE0:dw C ([]++aF [C.wordV]) (eK dir C):=((dw.refl C).word).need
  unfold dK at he ⊢
  split at he
  · rename_i hw
    rw[if_pos hw]
    exact(((hE0.words 1).need).fin hr he).2.symm
  · rename_i hw
    rw[if_neg hw]
    exact(((hE0.need).words _).fin hr he).2.symm
theorem nd(C:ai)(lo hi:Int) : dw C ([]++[C.byteV]) (fh C lo hi):=((dw.refl C).byte).need
theorem nU{A C:ai}{l:List Int}(h:dw A l C) : dw A (l++aF [C.wordV]) (dv C):=(h.word).need
theorem uY{c:Int}{C:ai}(hc:c=7∨c=11∨c=12∨c=17)(hr:eJ C)(he:(bW c C).1.endC.e=0) : bM 1 (bW c C).2=C.l:=by
  have hbv:=db hr
  rcases hc with rfl|rfl|rfl|rfl
  · have he:(C.bytesC 1).endC.e=0:=he
    show[C.byteV%256]=C.l
    rw[Int.emod_eq_of_lt hbv.1 hbv.2,((dw.refl C).byte.fin hr he).2]
    rfl
  · have he:((dv C).wordsC 1).endC.e=0:=he
    show aF [C.wordV,(dv C).wordV]=C.l
    rw[((nU (dw.refl C)).word.fin hr he).2]
    rfl
  · have he:((fI C).bytesC (C.byteV-6)).endC.e=0:=he
    have hE:=(((nU (nd C 6 70)).word).word).bytes (C.byteV-6)
    obtain⟨h1,h2⟩:=hE.fin hr he
    obtain⟨_,_,h3⟩:=gk h1
    show([(6+(((fI C).bytesR (C.byteV-6)).length:Int))%256]++aF [(fh C 6 70).wordV,(dv (fh C 6 70)).wordV,((dv (fh C 6 70)).wordsC 1).wordV])++(fI C).bytesR (C.byteV-6)=C.l
    have h4:(((fI C).bytesR (C.byteV-6)).length:Int)=C.byteV-6:=h3
    rw[h4,show(6+(C.byteV-6))%256=C.byteV from by omega,h2]
    rfl
  · have he:((fh C 1 251).bytesC C.byteV).endC.e=0:=he
    have hE:=(nd C 1 251).bytes C.byteV
    obtain⟨h1,h2⟩:=hE.fin hr he
    obtain⟨_,_,h3⟩:=gk h1
    show[(((fh C 1 251).bytesR C.byteV).length:Int)%256]++(fh C 1 251).bytesR C.byteV=C.l
    rw[h3,Int.emod_eq_of_lt hbv.1 hbv.2,h2]
    rfl
theorem uS{c:Int}{C:ai}(hc:c=7∨c=11∨c=12∨c=17)(hr:eJ C)(he:C.endC.e=0) : bM 0 { aQ.zero with code:=c }=C.l:=by
  have h:=((dw.refl C).fin hr he).2
  rcases hc with rfl|rfl|rfl|rfl<;>exact h.symm
theorem uo{dir c:Int}{C C':ai}{M:aQ}(hd:dir=0∨dir=1)(hr:eJ C)(h:aR dir c C=some (C',M))(he:C'.endC.e=0) : bM dir M=C.l:=by
  unfold aR at h
  split at h
  · rename_i hc
    obtain rfl:c=8:=by simpa using hc
    obtain⟨rfl,rfl⟩:=bV h
    have hco:(dK dir 8 C).2.code=8:=by unfold dK;split<;>rfl
    unfold bM
    rw[hco,if_pos (by rfl)]
    exact tH hr he
  split at h
  · rename_i hc
    simp only[Bool.or_eq_true,beq_iff_eq] at hc
    have hc:c=7∨c=11∨c=12∨c=17:=by omega
    rcases hd with rfl|rfl
    · have h:some (C,({ aQ.zero with code:=c }:aQ))=some (C',M):=h
      obtain⟨rfl,rfl⟩:=bV h
      exact uS hc hr he
    · have h:some (bW c C)=some (C',M):=h
      obtain⟨rfl,rfl⟩:=bV h
      exact uY hc hr he
  · cases h
theorem o4:∀ (n:Nat)(C:ai)(L:List Obj),∃ L',(dW n C L).2=L++L'∧L'.length=n∧dw C (eX L') (dW n C L).1
  | 0,C,L=>⟨[],by simp[dW],rfl,dw.refl C⟩
  | n+1,C,L=>by
    obtain⟨L',h1,h2,h3⟩:=o4 n (((C.bytesC 1).bytesC 1).bytesC (C.bytesC 1).byteV) (L++[⟨C.byteV,((C.bytesC 1).bytesC 1).bytesR (C.bytesC 1).byteV⟩])
    refine⟨⟨C.byteV,((C.bytesC 1).bytesC 1).bytesR (C.bytesC 1).byteV⟩ :: L',?_,by simp[h2],?_⟩
    · show(dW n _ _).2=_
      rw[h1]
      simp
    · have hE0:dw C _ ((C.bytesC 1).bytesC 1):=(dw.refl C).byte.byte
      have hE1:dw C (([C.byteV,((((C.bytesC 1).bytesC 1).bytesR (C.bytesC 1).byteV).length:Int)%256])++((C.bytesC 1).bytesC 1).bytesR (C.bytesC 1).byteV) (((C.bytesC 1).bytesC 1).bytesC (C.bytesC 1).byteV):=(hE0.bytes _).conv fun hr _ he=>by
        have hb:=db ((dw.refl C).byte hr).1
        rw[(gk he).2.2,Int.emod_eq_of_lt hb.1 hb.2]
        rfl
      exact hE1.trans h3
theorem s5{c:Int}{C:ai}(hr:eJ C)(he:(dH (dj C).byteV (dX C)).1.endC.e=0) : [C.byteV,(dj C).byteV,(dX C).byteV,(ja (dX C)).byteV,(jn (dX C)).byteV,((dH (dj C).byteV (dX C)).2.length:Int)%256]++eX (dH (dj C).byteV (dX C)).2=C.l:=by
  have hE0:dw C _ (dj C):=(dw.refl C).byte.need
  have hE1:dw C _ (dX C):=hE0.byte.need
  have hE2:dw C _ (ja (dX C)):=hE1.byte.need
  have hE3:dw C _ (jn (dX C)):=hE2.byte.need
  have hE4:dw C _ (lu (dX C)):=hE3.byte.need
  have hE5:dw C _ (ss (dj C).byteV (dX C)):=hE4.byte.need
  obtain⟨L',h1,h2,h3⟩:=o4 (lu (dX C)).byteV.toNat (ss (dj C).byteV (dX C)) []
  have hb:=db (hE4 hr).1
  have h4:(dH (dj C).byteV (dX C)).2=L':=by unfold dH;rw[h1];rfl
  obtain⟨_,h5⟩:=(hE5.trans h3).fin hr he
  rw[h4,h2,show(((lu (dX C)).byteV.toNat:Nat) : Int)%256=(lu (dX C)).byteV from by omega,h5]
  rfl
theorem vB{dir c:Int}{C C':ai}{M:aQ}(hd:dir=0∨dir=1)(hr:eJ C)(h:bz dir c C=some (C',M))(he:C'.endC.e=0) : da dir M=C.l:=by
  have hE0:dw C _ (dj C):=(dw.refl C).byte.need
  unfold bz at h
  split at h
  · cases h
  split at h
  · rename_i hm
    obtain⟨rfl,rfl⟩:=bV h
    have hE1:=(hE0.need (ok:=decide (((dj C).l.length:Int)≤251)) (x:=5)).bytes ((eu C).l.length:Int)
    obtain⟨_,h5⟩:=hE1.fin hr he
    unfold da
    rw[if_pos (show(C.byteV==13)=true from hm),h5]
    rfl
  rename_i hm
  split at h
  · rename_i hc
    obtain rfl:dir=1:=by simpa using hc
    obtain⟨rfl,rfl⟩:=bV h
    unfold da
    rw[if_neg (show ¬ (C.byteV==13)=true from hm),if_neg (by decide)]
    exact s5 (c:=c) hr he
  · rename_i hc
    obtain rfl:dir=0:=by
      rcases hd with rfl|rfl
      · rfl
      · exact absurd rfl hc
    obtain⟨rfl,rfl⟩:=bV h
    have hE1:dw C _ (dX C):=hE0.byte.need
    obtain⟨_,h5⟩:=hE1.byte.fin hr he
    unfold da
    rw[if_neg (show ¬ (C.byteV==13)=true from hm),if_pos (by rfl),h5]
    rfl
theorem nJ{one:Int→ai→Int × ai × dt}{dir code:Int}(hl:∀ s C,0<C.l.length→(one s C).2.1.l.length<C.l.length)(hE:∀ s C,dw C (gS dir code (one s C).2.2) (one s C).2.1) :
    ∀ (n:Nat) (s:Int) (C:ai) (L:List dt),C.l.length≤n→eJ C→(aU one n s C L).1.e=0→∃ L',(aU one n s C L).2=L++L'∧C.l=cF dir code L'
  | 0,s,C,L,h,_,_=>⟨[],by simp[aU],by simpa [cF] using h⟩
  | n+1,s,C,L,h,hr,he=>by
    unfold aU at he ⊢
    split at he
    · rename_i hc
      rw[if_pos hc]
      simp only[Bool.and_eq_true,decide_eq_true_eq,beq_iff_eq] at hc
      have h1:=hl s C (by omega)
      obtain⟨h2,h3⟩:=hE s C hr
      split at he
      · rename_i hn
        rw[he] at hn
        cases hn
      · rename_i hn
        rw[if_neg hn]
        have h4:(one s C).2.1.e=0:=by simpa using hn
        obtain⟨L',h5,h6⟩:=nJ hl hE n (one s C).1 (one s C).2.1 (L++[(one s C).2.2]) (by omega) h2 he
        refine⟨(one s C).2.2 :: L',by rw[h5];simp,?_⟩
        rw[(h3 h4).2,h6]
        rfl
    · rename_i hc
      rw[if_neg hc]
      have he:C.e=0:=he
      refine⟨[],by simp,?_⟩
      have:C.l=[]:=by
        apply List.eq_nil_of_length_eq_zero
        simp only[he,Bool.and_eq_true,decide_eq_true_eq,beq_self_eq_true,and_true] at hc
        omega
      rw[this]
      rfl
theorem tQ(C:ai) : dw C [6] (ew C):=((dw.refl C).byte.need).conv fun hr _ he=>by
  have h:=(fN (by decide) he).2
  simp only[beq_iff_eq] at h
  rw[h]
  rfl
theorem nw(C:ai) : dw C ([6]++aF [(aT C).file,(aT C).record,(aT C).count]) (dD C):=by
  have hE1:dw C _ (ij C):=(tQ C).word.need
  have hE2:dw C _ (l7 C):=hE1.word.need
  have hE3:dw C _ (dD C):=hE2.word.need
  exact hE3
theorem ux(s:Int)(C:ai) : dw C (gS 0 20 (cU s C).2.2) (cU s C).2.1:=by
  have h:dw C _ (eA s C):=(nw C).need
  exact h.conv fun _ _ _=>rfl
theorem tT(dir s:Int)(C:ai) : dw C (gS dir 21 (cV s C).2.2) (cV s C).2.1:=by
  have h:dw C _ (l9 C):=(nw C).need
  exact(h.words (l7 C).wordV).conv fun _ _ _=>rfl
theorem tK(s:Int)(C:ai) : dw C (gS 1 20 (bH s C).2.2) (bH s C).2.1:=by
  have hE1:dw C _ (gP C):=(dw.refl C).byte.need
  have hE2:dw C _ (fE C):=hE1.byte.need
  refine(hE2.words (Int.tdiv (C.byteV-1) 2)).conv fun hr _ he=>?_
  obtain⟨h1,_,h2⟩:=jq (hE2 hr).1 he
  obtain⟨h3,h4⟩:=fN (by decide) h1
  obtain⟨h5,h6⟩:=fN (by decide) (gk h3).1
  have hb:=db hr
  simp only[Bool.and_eq_true,decide_eq_true_eq,beq_iff_eq] at h4 h6
  have h7:(1+2*(((fE C).wordsR (Int.tdiv (C.byteV-1) 2)).length:Int))%256=C.byteV:=by
    rw[h2,Int.tdiv_eq_ediv_of_nonneg (by omega)]
    omega
  show _=[(1+2*(((fE C).wordsR (Int.tdiv (C.byteV-1) 2)).length:Int))%256,6]++aF ((fE C).wordsR (Int.tdiv (C.byteV-1) 2))
  rw[h7,h4]
  rfl
theorem j6{one:Int→ai→Int × ai × dt}{dir code:Int}(hl:∀ s C,0<C.l.length→(one s C).2.1.l.length<C.l.length)(hE:∀ s C,dw C (gS dir code (one s C).2.2) (one s C).2.1){may:Int→Bool}{c:Int}{C:ai}(hr:eJ C)
    (he:(dy one may c C).1.endC.e=0) : [((cF dir code (mU one may C).2).length:Int)%256]++cF dir code (mU one may C).2=C.l:=by
  have hE0:dw C _ (j0 may C):=(dw.refl C).byte.need
  have hE1:=hE0.bytes C.byteV
  have hb:=db hr
  unfold ai.endC at he
  obtain⟨h0,a⟩:=fN (by decide) he
  unfold dy at h0 a
  have hw:bq (mU one may C).1.e≠0∨(mU one may C).1.e=0:=by
    by_cases hz:(mU one may C).1.e=0
    · exact Or.inr hz
    · left
      unfold bq
      split
      · decide
      · exact hz
  have h1:((j0 may C).bytesC C.byteV).e=0∧(mU one may C).1.e=0:=by
    rcases hw with hw|hw
    · obtain⟨h2,h3⟩:=fN hw h0
      exact⟨h2,by simpa using h3⟩
    · rw[hw] at h0
      refine⟨?_,hw⟩
      unfold ai.need at h0
      rw[if_neg (by rintro⟨_,hx⟩;cases hx)] at h0
      exact h0
  obtain⟨h2,h3,h4⟩:=gk h1.1
  have h5:((j0 may C).bytesC C.byteV).l=[]:=by
    rw[j8] at a
    simp only[beq_iff_eq] at a
    exact List.eq_nil_of_length_eq_zero (by omega)
  have h6:C.l=[C.byteV]++(j0 may C).bytesR C.byteV:=by
    rw[((hE1 hr).2 h1.1).2,h5]
    simp
  have hB:eJ (qB may C):=fun x hx=>hr x (by rw[h6];exact List.mem_append_right _ hx)
  obtain⟨L',h7,h8⟩:=nJ hl hE (qB may C).l.length 0 (qB may C) [] (Nat.le_refl _) hB h1.2
  have h9:(mU one may C).2=L':=by unfold mU;rw[h7];rfl
  have b:cF dir code L'=(j0 may C).bytesR C.byteV:=h8.symm
  rw[h9,b,h4,Int.emod_eq_of_lt hb.1 hb.2,h6]
theorem jH(dir:Int)(M:aQ) : cI dir M=[((cF dir M.code M.recs).length:Int)%256]++cF dir M.code M.recs:=by
  unfold cI
  simp
theorem rS{dir c:Int}{C C':ai}{M:aQ}(hd:dir=0∨dir=1)(hr:eJ C)(h:aW dir c C=some (C',M))(he:C'.endC.e=0) : cI dir M=C.l:=by
  rw[jH]
  unfold aW at h
  split at h
  · rename_i hc
    obtain rfl:c=20:=by simpa using hc
    rcases hd with rfl|rfl
    · have h:some (dy cU ez 20 C)=some (C',M):=h
      obtain⟨rfl,rfl⟩:=bV h
      exact j6 mw ux hr he
    · have h:some (dy bH eB 20 C)=some (C',M):=h
      obtain⟨rfl,rfl⟩:=bV h
      exact j6 iO tK hr he
  split at h
  · rename_i hc
    obtain rfl:c=21:=by simpa using hc
    obtain⟨rfl,rfl⟩:=bV h
    exact j6 mn (tT dir) hr he
  · cases h
theorem fJ{form:Int→Int→ai→Option (ai × aQ)}{lay:Int→aQ→List Int}(hf:∀ {dir c:Int}{C C':ai}{M:aQ},(dir=0∨dir=1)→eJ C→form dir c C=some (C',M)→C'.endC.e=0→lay dir M=C.l)
    {dir c:Int} {b:List Int} {M:aQ} (hd:dir=0∨dir=1) (hr:∀ x,x∈b→0≤x∧x<256) (h:ag form dir c b=(M,0)) : lay dir M=b:=by
  unfold ag at h
  rw[if_pos hd] at h
  split at h
  · cases h
  · rename_i r hr'
    unfold aL at h
    split at h
    · rename_i he
      injection h with h
      obtain⟨C',M'⟩:=r
      have h:M'=M:=h
      subst h
      exact hf (C:=⟨b,false,0⟩) hd hr hr' he
    · rename_i he
      injection h with _ h
      exact absurd h he
theorem eQ{parse:Int→Int→List Int→aQ × Int}{lay:Int→aQ→List Int}{dir:Int}{M:aQ}{l:List Int}(h1:lay dir M=l)(h2:parse dir M.code l=(M,0)) : bj parse lay dir M=some l:=by
  unfold bj
  rw[h1,if_pos h2]
theorem tj{k:Nat}{dir:Int}{b:List Int}{M:aQ}(hd:dir=0∨dir=1)(hr:∀ x,x∈b→0≤x∧x<256)(h:gU k dir b=(M,0))(hc:M.code=b.getD 0 0) : fZ k dir M=some (b.drop 1):=by
  have hr':∀ x,x∈b.drop 1→0≤x∧x<256:=fun x hx=>hr x (List.mem_of_mem_drop hx)
  unfold gU at h
  split at h
  · exact eQ (fJ rB hd hr' h) (by rw[hc];exact h)
  · exact eQ (fJ u5 hd hr' h) (by rw[hc];exact h)
  · exact eQ (fJ uo hd hr' h) (by rw[hc];exact h)
  · exact eQ (fJ rS hd hr' h) (by rw[hc];exact h)
  · exact eQ (fJ vB hd hr' h) (by rw[hc];exact h)
  · cases h
theorem nc{x:Int}(h:cT x=true) : (x != 0)=true:=by
  unfold cT at h
  simp only[decide_eq_true_eq,List.mem_cons,List.not_mem_nil,or_false] at h
  simp only[bne_iff_ne]
  omega
theorem pT{x:Int}(h:dO x=true) : 0<x∧x<128:=by
  unfold dO at h
  simp only[decide_eq_true_eq,List.mem_cons,List.not_mem_nil,or_false] at h
  omega
theorem rL{dir:Int}{b:List Int}{M:aQ}(hd:dir=0∨dir=1)(hr:∀ x,x∈b→0≤x∧x<256)(h:dn dir b=(M,0)) : cX dir M=some b:=by
  unfold dn at h
  split at h
  · cases h
  split at h
  · cases h
  split at h
  · cases h
  rename_i h1 h2 h3
  simp only[beq_iff_eq] at h2
  simp only[decide_eq_true_eq] at h3
  obtain⟨x,t,rfl⟩ : ∃ x t,b=x :: t:=by
    cases b with
    | nil=>exact absurd rfl h2
    | cons x t=>exact⟨x,t,rfl⟩
  have hx:=hr x (by simp)
  split at h
  · rename_i hq
    simp only[Bool.and_eq_true,decide_eq_true_eq,beq_iff_eq] at hq
    obtain⟨rfl,k1,k2,k3,k4⟩:=pC h
    have k5:=pT k2
    unfold cX
    rw[if_pos (show((fU _ ((x :: t).getD 1 0)).fail != 0)=true from nc k3)]
    rw[if_neg (by rw[hq.2];decide)]
    unfold jM
    have k6:fe (fU (((x :: t).getD 0 0-128)%256) ((x :: t).getD 1 0)).code (fU (((x :: t).getD 0 0-128)%256) ((x :: t).getD 1 0)).fail=true:=by
      show fe (((x :: t).getD 0 0-128)%256) ((x :: t).getD 1 0)=true
      unfold fe
      rw[k2,k3]
      have:(((x :: t).getD 0 0-128)%256 != 0)=true:=by simp only[bne_iff_ne];omega
      rw[this]
      rfl
    rw[k6]
    have k7:decide (fU (((x :: t).getD 0 0-128)%256) ((x :: t).getD 1 0)=fU (fU (((x :: t).getD 0 0-128)%256) ((x :: t).getD 1 0)).code (fU (((x :: t).getD 0 0-128)%256) ((x :: t).getD 1 0)).fail)=true:=decide_eq_true rfl
    rw[k7]
    show some [(((x-128)%256)+128)%256,(x :: t).getD 1 0]=some (x :: t)
    match t,k4 with
    | [y],_ =>
      rw[show(((x-128)%256)+128)%256=x from by omega]
      rfl
  · obtain⟨_,k1⟩:=rg hd h
    obtain⟨k2,k3⟩:=k1 rfl
    have k4:=tj hd hr h k2
    unfold cX
    rw[if_neg (by rw[k3];decide),k2,k4]
    show(if decide (253≤(t.length:Int))=true then none else some ([x]++t))=some (x :: t)
    rw[if_neg (by simp only[decide_eq_true_eq];simp only[List.length_cons] at h3;omega)]
    rfl
end Go.Proofs.YtogbnemojakcpaaGreat
namespace Go.Proofs.YtogbnemojakcpaaGreat
def Sh (C C':ai) : Prop:=C'.l.length≤C.l.length
theorem Sh.refl(C:ai) : Sh C C:=Nat.le_refl _
theorem Sh.bytes{A C:ai}(h:Sh A C){n:Int}:Sh A (C.bytesC n):=Nat.le_trans (iu C n) h
theorem Sh.words{A C:ai}(h:Sh A C){n:Int}:Sh A (C.wordsC n):=Nat.le_trans (eU C n) h
theorem Sh.need{A C:ai}(h:Sh A C){b:Bool}{e:Int}:Sh A (C.need b e):=by unfold Sh;rw[eG];exact h
open Go.RowKit
theorem jV{P:Program}(t e:TypeId)(sz:Nat){i:TypeInfo}(ht:P.underlying t=some (.slice e))(hi:P.info? e=some i)(hsz:i.size=sz)(A:Option Addr)(n c:Nat){lo up:Int}(k h:Nat)(hlo:lo=(k:Int))(hup:up=(h:Int))(hk:k≤h)(hh:h≤n)(hc:n≤c) :
    ∃ A':Option Addr,(∀ (kl kh:IntKind) (W:World),(Instr.slice t (.slice A n c) (some (.int kl lo)) (some (.int kh up)) none).run P W = .ok (.slice A' (h-k) (c-k)) W) ∧
      ∀ {α:Type} (m:Md) (e':TypeId) (R:World→α→List Value→Prop) (w:World) (xs:List α),aS m e' sz R w (.slice A n c) xs→aS m e' sz R w (.slice A' (h-k) (c-k)) ((xs.take h).drop k):=by
  subst hlo hup
  exact vx t e sz ht hi hsz A n c k h hk hh hc
theorem i3{o:Oper}{ev:Operand→Value}{P:Program}{w:World}{t:TypeId}{x y z:Operand}{A:Option Addr}{n c:Nat}{kl kh:IntKind}{lo hi:Int}{v:Value}{e:TypeId}(ho:o.op = .slice t x (some y) (some z) none)(ht:P.underlying t=some (.slice e))(hx:ev x = .slice A n c)(hy:ev y = .int kl lo)(hz:ev z = .int kh hi)
    (hr:(Instr.slice t (.slice A n c) (some (.int kl lo)) (some (.int kh hi)) none).run P w = .ok v w) : (execOp ev o).run P w = .ok (.value v) w:=by
  have hu:(underlying t).run P w = .ok (.slice e) w:=run_underlying ht w
  unfold execOp
  simp only[ho,Option.map_some,Option.map_none,hx,hy,hz,Instr.sliceAt,Sem.run_bind,hu,hr,Result.andThen,Sem.run_pure]
open Go.RowKit
theorem sC{xs L:List Int}{k:Nat}(h:L=aF (xs.take k))(h1:¬ ((k:Nat) : Int)<((xs.length:Nat) : Int)) : L=aF xs:=by
  rw[h,List.take_of_length_le (by omega)]
theorem wE{m:Md}{A:Option Addr}{cp:Nat}{xs:List Int}{w:World}(h:dN m w (.slice A xs.length cp) xs)(hn:xs.length≤1048576) : Calls Tryz.prog 174 #[.slice A xs.length cp] w (vu xs w):=by
 refine en 27 Tryz.func174 rfl<|sg<|Pl 1<|ng<|Pl 1<|nt<|sq<|sg<|?_
 refine Pl 1<|nt<|bk<|?_
 refine jf (fun x=>[(0,.slice A xs.length cp),(2,.slice none 0 0),(3,.slice x.2.2.1 x.2.1.length x.2.2.2),(4,.int .i64 ((x.1:Nat) : Int))]) (fun(x:Nat × List Int × Option Addr × Nat) w'=>aE [] w w'∧eY w.heap.size w' (.slice x.2.2.1 x.2.1.length x.2.2.2) x.2.1∧(x.1≤xs.length)∧(x.2.1=aF (xs.take x.1))) (fun x=>xs.length-x.1) (0,[],none,0) ⟨aE.refl _ _,(aV.nil w.heap.size _ _ rN _),(by(try dsimp only);omega),rfl⟩ ?_
 rintro⟨k,L,B,cq⟩ o ⟨b,p,q,r⟩
 refine jj [(0,.slice A xs.length cp),(2,.slice none 0 0),(3,.slice B L.length cq),(4,.int .i64 ((k:Nat) : Int))] ?_
 have d:eY w.heap.size o (.slice B L.length cq) L:=p
 have H:k≤xs.length:=q
 have I:L=aF (xs.take k):=r
 have hL:L=aF (xs.take k):=by assumption
 have hLn:L.length=2*k:=by rw[hL,ay,List.length_take];omega
 refine sq<|sg<|Pl 4<|nt<|cb ((decide (((k:Nat) : Int)<((xs.length:Nat) : Int)))) (fun c=>?_) (fun c=>?_)
 have s:=of_decide_eq_true c
 refine bp<|sq<|bk<|?_
 refine gV (dN.at_ (dN.old h b) k (by omega)) fun t u f j J=>Rg 16 (fun w'=>w'.cell? ⟨t,u+k,none⟩=some (.int .u16 (xs.getD k 0))) fun K g=>bi (uc g j) fun a=>Rt 0 a<|Rt 1 a<|Rt 2 a<|oL 3 a xs.length k ((k:Nat) : Int) rfl f (by omega)<|Rl 4 a (fun _ hs=>hs)<|Rr 5 a (.int .u16 ((xs.getD k 0)/256)) (fun _ _=>cP (.int .u16 (IntKind.u16.wrap (Int.tdiv (xs.getD k 0) 256))) (by kernel_rfl) (congrArg (Value.int .u16) (td (by omega) (by omega))))<|Rt 6 a<|Rt 7 a<|Rt 8 a<|oL 9 a xs.length k ((k:Nat) : Int) rfl f (by omega)<|Rl 10 a (fun _ hs=>hs)<|?_
 refine Rr 11 a (.int .u16 ((xs.getD k 0)%256)) (fun _ _=>cP (.int .u16 (Int.tmod (xs.getD k 0) 256)) (by kernel_rfl) (congrArg (Value.int .u16) (Int.tmod_eq_emod_of_nonneg (by omega))))<|Rt 12 a<|R0 13 rfl<|cO (m:=2) (e:=5) #[.int .u8 (((xs.getD k 0)/256)%256),.int .u8 (((xs.getD k 0)%256)%256)] fun M N v y l=>?_
 have z:=cN v (xs:=[(((xs.getD k 0)/256)%256),(((xs.getD k 0)%256)%256)]) (by as_aux_lemma=>kernel_rfl) (al (by omega) (al (by omega) aJ)) (by(try simp only[List.length_cons,List.length_nil]);omega) y
 have i:=aG g l
 refine bi (uc i j) fun O=>?_
 refine R0 14 rfl<|bG aX (xs:=L) (ys:=([(((xs.getD k 0)/256)%256),(((xs.getD k 0)%256)%256)])) (.int .u8 0) 1 (aq d i (fun x hx=>aA) (fun _ _ h=>h)) (z).rd (by(try simp only[List.length_append,List.length_cons,List.length_nil,ay]);omega) (le (le b.size g.size) l.size) fun C D P E F=>?_
 have n:=ut b (ut (aE.mono (S':=(ob B++[])) i av) F (am il av)) (am (aM d lr) av)
 exact bi (cW (dN.old h n) f k (by omega)) fun G=>Rt 15 G<|re<|bn<|tn<|go<|Pl 1<|L0<|Oi (((k:Nat) : Int)+1)<|Pl 1<|nl<|gM ((k+1),(L++[(((xs.getD k 0)/256)%256),(((xs.getD k 0)%256)%256)]),C,D) ⟨n,E,(by(try dsimp only);omega),(by(try dsimp only);rw[show((xs.getD k 0)/256)%256=(xs.getD k 0)/256 from by omega,show((xs.getD k 0)%256)%256=(xs.getD k 0)%256 from by omega,lU xs k (by omega),← hL])⟩ (by omega)
 have s:=of_decide_eq_false c
 refine xt<|tx<|tx<|bx<|tn<|sg<|Pl 2<|nt<|rt<|rr (.slice B L.length cq)<|?_
 have hs:L=aF xs:=sC hL (of_decide_eq_false c)
 exact⟨_,rfl,by rw[← hs];exact d,b⟩
theorem ek{m:Md}{v:Value}{xs:List Int}{w:World}(h:dN m w v xs)(hn:xs.length≤1048576) : Calls Tryz.prog 174 #[v] w (vu xs w):=by
  obtain⟨A,cp,rfl,_,_⟩:=h.shape
  exact wE h hn
open Go.RowKit
theorem ml{n:Int}:dL n=if n<1 then 0 else n/8+(if 0<n%8 then 1 else 0):=by
  unfold dL
  split
  · rfl
  · split<;>omega
theorem kg(l:List Bool)(j:Nat) : cc (l.take (8*j)) j=0:=by
  have h:=lD l (8*j)
  rw[show 8*j/8=j from by omega,show 8*j%8=0 from by omega] at h
  omega
theorem jd{l:List Bool}{j t:Nat}(ht:t<8) : cc (l.take (8*j+t+1)) j=cc (l.take (8*j+t)) j+if l.getD (8*j+t) false=true then 2 ^ t else 0:=by
  rw[gW,show(8*j+t)/8=j from by omega,show(8*j+t)%8=t from by omega]
  simp
theorem qC{l:List Bool}{j t:Nat}(h:t=8∨l.length≤8*j+t) : cc (l.take (8*j+t)) j=cc l j:=by
  rcases h with rfl|h
  · unfold cc
    simp only[ii]
    simp
  · rw[List.take_of_length_le h]
theorem rE{l:List Bool}{j:Nat}(h1:l.length≤8*j)(h2:8*j<l.length+8) : (List.range j).map (fun i=>(cc l i:Int))=bO l:=by
  unfold bO
  rw[show(dL l.length).toNat=j from by unfold dL;split<;>omega]
theorem qI(l:List Bool) : ((bO l).length:Int)=dL l.length:=by
  unfold bO
  rw[List.length_map,List.length_range]
  unfold dL
  split<;>omega
theorem wM:∀ x0 x1 x2 x3 x4 x5 x6 x7:Bool,∀ t:Fin 8,(((((if x0=true then 1 else 0)+(if x1=true then 2 else 0)+(if x2=true then 4 else 0)+(if x3=true then 8 else 0)+(if x4=true then 16 else 0)+(if x5=true then 32 else 0)+(if x6=true then 64 else 0)+(if x7=true then 128 else 0) : Nat) : Int)/2 ^ t.val%2==1)=[x0,x1,x2,x3,x4,x5,x6,x7].getD t.val false):=by decide +kernel
theorem vJ{l:List Bool}{j t:Nat}(ht:t<8) : ((cc l j:Int)/2 ^ t%2==1)=l.getD (8*j+t) false:=by
  have h:=wM (l.getD (8*j) false) (l.getD (8*j+1) false) (l.getD (8*j+2) false) (l.getD (8*j+3) false) (l.getD (8*j+4) false) (l.getD (8*j+5) false) (l.getD (8*j+6) false) (l.getD (8*j+7) false) ⟨t,ht⟩
  refine h.trans ?_
  rcases t with _|_|_|_|_|_|_|_|t
  case succ.succ.succ.succ.succ.succ.succ.succ=>omega
  all_goals rfl
theorem nC(l:List Bool) : cw (bO l) (l.length:Int)=some ((List.range l.length).map (cH (bO l))):=by
  have hl:=qI l
  unfold cw
  rw[if_pos ⟨by omega,hl⟩,if_pos,show((l.length:Int)).toNat=l.length from by omega]
  rw[List.all_eq_true]
  intro i hi
  have hi:i<8*(bO l).length:=by simpa using hi
  simp only[Bool.or_eq_true,decide_eq_true_eq,Bool.not_eq_true']
  by_cases h:(i:Int)<l.length
  · exact .inl h
  · refine .inr ?_
    have hj:i/8<(bO l).length:=by omega
    unfold cH
    have e:(bO l).getD (i/8) 0=(cc l (i/8) : Int):=by
      have hj2:i/8<(dL (l.length:Int)).toNat:=by omega
      unfold bO
      rw[List.getD_eq_getElem?_getD,List.getElem?_map,List.getElem?_range hj2]
      rfl
    rw[e,vJ (Nat.mod_lt _ (by decide)),show 8*(i/8)+i%8=i from by omega,List.getD_eq_getElem?_getD,List.getElem?_eq_none (by omega)]
    rfl
theorem nH{b:List Int}{n:Int}(hr:∀ x,x∈b→0≤x∧x<256)(h0:0≤n) : cw b n=if bO ((List.range n.toNat).map (cH b))=b then some ((List.range n.toNat).map (cH b)) else none:=by
  by_cases h:bO ((List.range n.toNat).map (cH b))=b
  · rw[if_pos h]
    have k:=nC ((List.range n.toNat).map (cH b))
    rw[h,List.length_map,List.length_range,show((n.toNat:Nat) : Int)=n from by omega] at k
    exact k
  · rw[if_neg h]
    cases e:cw b n with
    | none=>rfl
    | some l =>
      exfalso
      have k:=jI hr e
      unfold cw at e
      split at e
      · split at e
        · injection e with e;rw[e] at h;exact h k
        · cases e
      · cases e
open Go.RowKit
theorem pK{xs:List Int}{k a b:Nat}(h:2*k+1<xs.length)(ha:a=2*k)(hb:b=2*k+1)(hr:∀ x,x∈xs→0≤x∧x<256) : du (xs.drop (2*k))=[(((256*xs.getD a 0)%65536)+xs.getD b 0)%65536]++du (xs.drop (2*(k+1))):=by
  subst ha hb
  rw[List.drop_eq_getElem_cons (show 2*k<xs.length by omega),List.drop_eq_getElem_cons h]
  have h1:=hr _ (List.getElem_mem (show 2*k<xs.length by omega))
  have h2:=hr _ (List.getElem_mem h)
  have e1:xs.getD (2*k) 0=xs[2*k]:=by rw[List.getD_eq_getElem?_getD,List.getElem?_eq_getElem (by omega)];rfl
  have e2:xs.getD (2*k+1) 0=xs[2*k+1]:=by rw[List.getD_eq_getElem?_getD,List.getElem?_eq_getElem h];rfl
  rw[e1,e2]
  show(xs[2*k]*256+xs[2*k+1]) :: du (xs.drop (2*k+1+1))=_
  rw[show 2*k+1+1=2*(k+1) by omega,show((256*xs[2*k])%65536+xs[2*k+1])%65536=xs[2*k]*256+xs[2*k+1] by omega]
  rfl
theorem qA{xs L:List Int}{k:Nat}(h:L++du (xs.drop (2*k))=du xs)(h1:¬ 2*k+1<xs.length)(h2:xs.length%2=0) : L=cY xs:=by
  have hd:xs.drop (2*k)=[]:=List.drop_eq_nil_of_le (by omega)
  rw[hd] at h
  unfold cY
  rw[if_pos h2,← h]
  simp[du]
theorem vp{m:Md}{A:Option Addr}{cp:Nat}{xs:List Int}{w:World}(h:bo m w (.slice A xs.length cp) xs)(hn:xs.length≤1048576) : Calls Tryz.prog 217 #[.slice A xs.length cp] w (sM xs w):=by
 have hr:=bo.range h
 refine en 33 Tryz.func217 rfl<|sg<|Pl 1<|ng<|Pl 1<|nt<|sq<|sg<|?_
 refine Pl 2<|L0<|Oe (.int .i64 (Int.tmod ((xs.length:Nat) : Int) 2)) (.int .i64 (((xs.length:Nat) : Int)%2)) (congrArg (Value.int .i64) (Int.tmod_eq_emod_of_nonneg (by omega)))<|Pl 1<|nt<|cb (((((xs.length:Nat) : Int)%2)==1)) (fun f=>?_) (fun f=>?_)
 have y:=ae f
 refine sg<|Pl 1<|nt<|rt<|tr<|rr (.slice none 0 0)<|?_
 have hs:cY xs=[]:=by unfold cY;rw[if_neg (by have:=ae f;omega)]
 exact⟨_,rfl,by rw[hs];exact aV.nil ..,(aE.refl [] _)⟩
 have y:=ak f
 refine bp<|sq<|sg<|Pl 1<|nt<|bk<|?_
 refine jf (fun x=>[(0,.slice A xs.length cp),(2,.slice none 0 0),(3,.slice x.2.2.1 x.2.1.length x.2.2.2),(4,.int .i64 ((2*x.1:Nat) : Int))]) (fun(x:Nat × List Int × Option Addr × Nat) w'=>aE [] w w'∧jL w.heap.size w' (.slice x.2.2.1 x.2.1.length x.2.2.2) x.2.1∧(2*x.1≤xs.length)∧(x.2.1++du (xs.drop (2*x.1))=du xs)∧(x.2.1.length=x.1)) (fun x=>xs.length-2*x.1) (0,[],none,0) ⟨aE.refl _ _,(aV.nil w.heap.size _ _ qg _),(by(try dsimp only);omega),rfl,rfl⟩ ?_
 rintro⟨k,L,B,cq⟩ z ⟨g,C,D,E,F⟩
 refine jj [(0,.slice A xs.length cp),(2,.slice none 0 0),(3,.slice B L.length cq),(4,.int .i64 ((2*k:Nat) : Int))] ?_
 have j:jL w.heap.size z (.slice B L.length cq) L:=C
 have T:2*k≤xs.length:=D
 have U:L++du (xs.drop (2*k))=du xs:=E
 have V:L.length=k:=F
 have hL:L++du (xs.drop (2*k))=du xs:=by assumption
 refine sq<|sg<|Pl 1<|L0<|Oi (((2*k:Nat) : Int)+1)<|Pl 3<|nt<|cb ((decide ((((2*k:Nat) : Int)+1)<((xs.length:Nat) : Int)))) (fun l=>?_) (fun l=>?_)
 have G:=of_decide_eq_true l
 refine bp<|sq<|bk<|?_
 have o:=bo.old h g
 refine gV (bo.at_ o (2*k) (by omega)) fun H I p q W=>gV (bo.at_ o (((((2*k:Nat) : Int)+1)).toNat) (by omega)) fun J K r s X=>Rg 17 (fun w'=>w'.cell? ⟨H,I+2*k,none⟩=some (.int .u8 (xs.getD (2*k) 0))∧w'.cell? ⟨J,K+((((2*k:Nat) : Int)+1)).toNat,none⟩=some (.int .u8 (xs.getD (((((2*k:Nat) : Int)+1)).toNat) 0))) fun Y d=>bi ⟨(uc d q),(uc d s)⟩ fun c=>Rt 0 c<|Rt 1 c<|Rt 2 c<|oL 3 c xs.length (2*k) ((2*k:Nat) : Int) rfl p (by omega)<|Rl 4 c (fun _ hs=>hs.1)<|Rr 5 c (.int .u16 (xs.getD (2*k) 0)) (fun _ _=>cP (.int .u16 (IntKind.u16.wrap (xs.getD (2*k) 0))) (by kernel_rfl) (congrArg (Value.int .u16) (kI (by omega))))<|Rt 6 c<|Rt 7 c<|Rt 8 c<|Rr 9 c (.int .i64 (((2*k:Nat) : Int)+1)) (fun _ _=>cP (.int .i64 (IntKind.i64.wrap (((2*k:Nat) : Int)+1))) (by kernel_rfl) (congrArg (Value.int .i64) (IntWalk.i64_in _ (by omega))))<|?_
 refine oL 10 c xs.length (((((2*k:Nat) : Int)+1)).toNat) (((2*k:Nat) : Int)+1) (by omega) r (by omega)<|Rl 11 c (fun _ hs=>hs.2)<|Rr 12 c (.int .u16 (xs.getD (((((2*k:Nat) : Int)+1)).toNat) 0)) (fun _ _=>cP (.int .u16 (IntKind.u16.wrap (xs.getD (((((2*k:Nat) : Int)+1)).toNat) 0))) (by kernel_rfl) (congrArg (Value.int .u16) (kI (by omega))))<|Rt 13 c<|R0 14 rfl<|cO (m:=1) (e:=24) #[.int .u16 ((((256*(xs.getD (2*k) 0))%65536)+(xs.getD (((((2*k:Nat) : Int)+1)).toNat) 0))%65536)] fun Z a0 M N n=>?_
 have O:=dh M (xs:=[((((256*(xs.getD (2*k) 0))%65536)+(xs.getD (((((2*k:Nat) : Int)+1)).toNat) 0))%65536)]) (by as_aux_lemma=>kernel_rfl) (al (by omega) aJ) (by(try simp only[List.length_cons,List.length_nil]);omega) N
 have i:=aG d n
 refine bi ⟨(uc i q),(uc i s)⟩ fun a1=>?_
 refine R0 15 rfl<|bG mz (xs:=L) (ys:=([((((256*(xs.getD (2*k) 0))%65536)+(xs.getD (((((2*k:Nat) : Int)+1)).toNat) 0))%65536)])) (.int .u16 0) 2 (aq j i (fun x hx=>aA) (fun _ _ h=>h)) (O).rd (by(try simp only[List.length_append,List.length_cons,List.length_nil,ay]);omega) (le (le g.size d.size) n.size) fun P Q a2 R t=>?_
 have a3:=ut (aE.mono (S':=(ob B++[])) i av) t (am (fun x hx=>Or.inl (by simp[hx])) av)
 have u:=ut (aG (aG g d) n) t (am (aM j lr) av)
 have v:=bo.old h u
 exact bi ⟨(cB v p (2*k) (by omega)),(cB v r (((((2*k:Nat) : Int)+1)).toNat) (by omega))⟩ fun S=>Rt 16 S<|re<|bn<|tn<|go<|Pl 1<|L0<|Oi (((2*k:Nat) : Int)+2)<|Pl 1<|nl<|gM ((k+1),(L++[((((256*(xs.getD (2*k) 0))%65536)+(xs.getD (((((2*k:Nat) : Int)+1)).toNat) 0))%65536)]),P,Q) ⟨u,R,(by(try dsimp only);omega),(by(try dsimp only);rw[← hL,pK (k:=k) (a:=2*k) (b:=(((2*k:Nat) : Int)+1).toNat) (by omega) rfl (by omega) hr,List.append_assoc]),(by(try dsimp only);simp only[List.length_append,List.length_cons,List.length_nil];omega)⟩ (by omega)
 have G:=of_decide_eq_false l
 refine xt<|tx<|tx<|bx<|tn<|sg<|Pl 2<|nt<|rt<|rr (.slice B L.length cq)<|?_
 have hs:L=cY xs:=qA hL (by omega) (by omega)
 exact⟨_,rfl,by rw[← hs];exact j,g⟩
theorem uD{m:Md}{v:Value}{xs:List Int}{w:World}(h:bo m w v xs)(hn:xs.length≤1048576) : Calls Tryz.prog 217 #[v] w (sM xs w):=by
  obtain⟨A,cp,rfl,_,_⟩:=h.shape
  exact vp h hn
theorem pg{a n:Int}{w:World}(ha:0≤a∧a<65536)(hn : -1048576≤n∧n≤1048576) : Calls Tryz.prog 215 #[.int .u16 a,.int .i64 n] w (dM (.bool (dE a n)) w):=by
 refine en 16 Tryz.func215 rfl<|sg<|Pl 1<|nt<|sq<|sg<|Pl 3<|cu 3 [7] 10 (((decide (n<1))||(decide (65536<n)))) (fun K d=>?_) ?_
 refine bl 7 ((decide (n<1))) (fun b=>?_) (fun b=>?_)
 have e:=of_decide_eq_true b
 exact Pl 3<|ce d true (by rw[b];rfl)
 have e:=of_decide_eq_false b
 exact Pl 3<|ce d (decide (65536<n)) (by rw[b];rfl)
 refine nt<|cb (((decide (n<1))||(decide (65536<n)))) (fun c=>?_) (fun c=>?_)
 refine sg<|Pl 1<|nt<|rt<|tr<|rr (.bool false)<|?_
 have hq:=c
 have hs:dE a n=false:=by unfold dE;simp only[Bool.or_eq_true,decide_eq_true_eq] at hq;simp only[Bool.and_eq_false_iff,decide_eq_false_iff_not];omega
 rw[hs]
 exact⟨rfl,(aE.refl [] _)⟩
 have f:=(aI c).1
 have g:=(aI c).2
 have h:=of_decide_eq_false f
 have i:=of_decide_eq_false g
 refine bp<|sg<|Pl 1<|L0<|Oi a<|Pl 1<|L0<|Oi (a+n)<|Pl 2<|nt<|rt<|rr (.bool (decide ((a+n)≤65536)))<|?_
 have hs:dE a n=(decide ((a+n)≤65536)):=by unfold dE;rw[Bool.eq_iff_iff];simp only[Bool.and_eq_true,decide_eq_true_eq];omega
 rw[hs]
 exact⟨rfl,(aE.refl [] _)⟩
open Go.RowKit
def xE (A:Option Addr)(cp:Nat)(full:List Int)(k:Nat)(C:ai) : Array Value:=#[.slice A full.length cp,.int .i64 ((k:Nat) : Int),.bool C.sh,.int .i64 C.e]
structure RC (w0:World) (m:Md) (A:Option Addr) (cp:Nat) (full:List Int) (w:World) (g:Nat) (C:ai) : Prop where
  src:bo m w0 (.slice A full.length cp) full
  u:aE [] w0 w
  new:w0.heap.size≤g
  cell:∃ k:Nat,w.heap[g]? = some (.cells (xE A cp full k C) 159 (0,0))∧k≤full.length∧C.l=full.drop k
  len:full.length≤1048576
theorem RC.upd{w0:World}{m:Md}{A:Option Addr}{cp:Nat}{full:List Int}{w w':World}{g:Nat}{C:ai}{S:List Nat}(h:RC w0 m A cp full w g C)(hu:aE S w w')(hg:g∉S)(U:aE [] w0 w') : RC w0 m A cp full w' g C:=by
  obtain⟨h1,h2,h3,⟨k,h4,h5,h6⟩,h7⟩:=h
  exact⟨h1,U,h3,⟨k,hu.blk hg h4,h5,h6⟩,h7⟩
theorem RC.rd{w0:World}{m:Md}{A:Option Addr}{cp:Nat}{full:List Int}{w:World}{g:Nat}{C:ai}(h:RC w0 m A cp full w g C) : bo m w (.slice A full.length cp) full:=bo.old h.src h.u
theorem RC.rng{w0:World}{m:Md}{A:Option Addr}{cp:Nat}{full:List Int}{w:World}{g:Nat}{C:ai}(h:RC w0 m A cp full w g C) : ∀ x,x∈C.l→0≤x∧x<256:=fun x hx=>by
  obtain⟨k,_,_,h2⟩:=h.cell
  rw[h2] at hx
  exact bo.range h.src x (List.mem_of_mem_drop hx)
theorem tL(C:ai){ok:Bool}{x:Int}(h:(ok || (C.e != 0))=true) : C.need ok x=C:=by
  unfold ai.need
  rw[if_neg]
  rintro⟨h1,rfl⟩
  rw[h1] at h
  cases h
theorem tf(C:ai){ok:Bool}{x:Int}(h:(ok || (C.e != 0))=false) : C.need ok x = { C with e:=x }:=by
  simp only[Bool.or_eq_false_iff,bne_eq_false_iff_eq] at h
  unfold ai.need
  rw[if_pos ⟨h.2,h.1⟩]
def uF (w0:World)(m:Md)(A:Option Addr)(cp:Nat)(full:List Int)(g:Nat)(C:ai)(w:World)(e:Ending)(w':World) : Prop:=e = .returned (.tuple #[])∧RC w0 m A cp full w' g C∧aE [g] w w'
theorem b7{w0:World}{m:Md}{A:Option Addr}{cp:Nat}{full:List Int}{w:World}{g:Nat}{C:ai}(ok:Bool)(x:Int)(hC:RC w0 m A cp full w g C) :
    Calls Tryz.prog 152 #[.pointer (some ⟨g,0,none⟩),.bool ok,.int .i64 x] w (uF w0 m A cp full g (C.need ok x) w):=by
 obtain⟨hsrc,hU,hnew,⟨k,hB,hk,hl⟩,hlen⟩:=hC
 refine en 18 Tryz.func152 rfl<|sq<|sg<|Pl 2<|cu 6 [7] 13 ((ok || (C.e != 0))) (fun K c=>?_) ?_
 refine bl 7 (ok) (fun b=>?_) (fun b=>?_)
 exact Pl 6<|ce c true (by rw[b];rfl)
 exact Pl 3<|L1<|aP hB 3<|Pl 2<|ce c (C.e != 0) (by rw[b];rfl)
 refine nt<|cb ((ok || (C.e != 0))) (fun a=>?_) (fun a=>?_)
 refine rt<|tr<|rr (.tuple #[])<|?_
 rw[tL C a]
 exact⟨rfl,⟨hsrc,hU.trans' (aE.mono (S':=[g]) (aE.refl [] _) av) (fun x hx=>.inr (by simp at hx;subst hx;exact hnew)),hnew,⟨k,hB,hk,hl⟩,hlen⟩,(aE.mono (S':=[g]) (aE.refl [] _) av)⟩
 have i:=(aI a).1
 have f:=(aI a).2
 have j:=aj f
 refine bp<|go<|Pl 4<|L0<|cg hB 3 #[.slice A full.length cp,.int .i64 ((k:Nat) : Int),.bool C.sh,.int .i64 x] fun l h d=>nl<|rm (.tuple #[])<|?_
 rw[tf C a]
 exact⟨rfl,⟨hsrc,hU.trans' d (fun x hx=>.inr (by simp at hx;subst hx;exact hnew)),hnew,⟨k,h,hk,hl⟩,hlen⟩,d⟩
theorem iS{C:ai}{full:List Int}{k:Nat}{n:Int}(hk:k≤full.length)(hl:C.l=full.drop k) : C.fails n=((C.sh || decide (n<0))||decide ((((full.length:Nat) : Int)-((k:Nat) : Int))<n)):=by
  unfold ai.fails
  rw[hl,List.length_drop,show((full.length-k:Nat) : Int)=((full.length:Nat) : Int)-((k:Nat) : Int) by omega]
def tz (w0:World)(m:Md)(A:Option Addr)(cp:Nat)(full:List Int)(g:Nat)(C:ai)(n:Int)(w:World)(e:Ending)(w':World) : Prop:=∃ A2 n2 c2,e = .returned (.slice A2 n2 c2)∧(∀ m' w'',bo m' w'' (.slice A full.length cp) full→bo m' w'' (.slice A2 n2 c2) (C.bytesR n))∧RC w0 m A cp full w' g (C.bytesC n)∧aE [g] w w'
theorem tG{l full:List Int}{k a b:Nat}(hl:l=full.drop k)(h:b=k+a) : l.drop a=full.drop b:=by
  rw[hl,List.drop_drop,h]
theorem oF{C:ai}{full:List Int}{k:Nat}{n:Int}(hk:k≤full.length)(hl:C.l=full.drop k)(hf:C.fails n=false)(a b:Nat)(ha:(a:Int)=k)(hb:(b:Int)=(k:Int)+n) : (full.take b).drop a=C.bytesR n:=by
  obtain rfl:a=k:=by omega
  unfold ai.bytesR
  rw[hf,hl,List.drop_take]
  show _=(full.drop a).take n.toNat
  rw[show b-a=n.toNat by omega]
theorem oP{w0:World}{m:Md}{A:Option Addr}{cp:Nat}{full:List Int}{w:World}{g:Nat}{C:ai}{n:Int}(hn : -1048576≤n∧n≤2097152)(hC:RC w0 m A cp full w g C) :
    Calls Tryz.prog 153 #[.pointer (some ⟨g,0,none⟩),.int .i64 n] w (tz w0 m A cp full g C n w):=by
 obtain⟨hsrc,hU,hnew,⟨k,hB,hk,hl⟩,hlen⟩:=hC
 have hcp:full.length≤cp:=by obtain⟨_,_,hv,h1,_⟩:=aS.shape hsrc;injection hv with _ _ h3;omega
 refine en 64 Tryz.func153 rfl<|sg<|Pl 1<|nt<|sq<|sq<|Rg 22 (fun w'=>w'.cell? ⟨g,2,none⟩=some (.bool C.sh)∧w'.cell? ⟨g,0,none⟩=some (.slice A full.length cp)∧w'.cell? ⟨g,1,none⟩=some (.int .i64 ((k:Nat) : Int))) fun a4 i=>?_
 have d:=ub i hB
 refine bi ⟨(ah d rfl),(ah d rfl),(ah d rfl)⟩ fun a=>Rt 0 a<|Rt 1 a<|Rt 2 a<|Rl 3 a (fun _ hs=>hs.1)<|Rt 4 a<|rj 9 (C.sh) (fun j=>?_) (fun j=>?_)
 refine Ro 5 a<|Ro 6 a<|Rt 7 a<|Rt 8 a<|Ro 9 a<|Ro 10 a<|Ro 11 a<|Ro 12 a<|Ro 13 a<|Ro 14 a<|Ro 15 a<|Ro 16 a<|Ro 17 a<|Ro 18 a<|?_
 refine Ro 19 a<|Ro 20 a<|Rt 21 a<|re<|tn<|c1<|sg<|Pl 3<|L0<|cg d 2 #[.slice A full.length cp,.int .i64 ((k:Nat) : Int),.bool true,.int .i64 C.e] fun a5 q D=>ng<|?_
 refine Pl 4<|L0<|aP q 0<|Pl 3<|L0<|cg q 1 #[.slice A full.length cp,.int .i64 ((full.length:Nat) : Int),.bool true,.int .i64 C.e] fun E F G=>ng<|Pl 1<|?_
 have r:=u1 (u1 (aE.mono (S':=[g]) i av) D im) G im
 have H:RC w0 m A cp full E g { C with l:=[],sh:=true }:=⟨hsrc,hU.trans' r (fun x hx=>.inr (by simp at hx;subst hx;exact hnew)),hnew,⟨full.length,F,Nat.le_refl _,List.drop_length.symm⟩,hlen⟩
 refine L0<|Oc<|m2 (b7 false 2 H) fun a6 I J=>ng<|Pl 1<|nt<|rt<|tr<|rr (.slice none 0 0)<|?_
 have hf:C.fails n=true:=by rw[iS (n:=n) hk hl,j];rfl
 have e1:C.bytesR n=[]:=by unfold ai.bytesR;rw[hf];rfl
 have e2:C.bytesC n=ai.need { C with l:=[],sh:=true } false 2:=by unfold ai.bytesC;rw[hf];rfl
 exact⟨none,0,0,rfl,fun _ _ _=>by rw[e1];exact aS.nil ..,by rw[e2];exact I,(u1 r J im)⟩
 refine Rt 5 a<|Rt 6 a<|Rt 7 a<|Rt 8 a<|rj 13 ((decide (n<0))) (fun f=>?_) (fun f=>?_)
 have K:=of_decide_eq_true f
 refine Ro 9 a<|Ro 10 a<|Ro 11 a<|Ro 12 a<|Ro 13 a<|Ro 14 a<|Ro 15 a<|Ro 16 a<|Ro 17 a<|Ro 18 a<|Ro 19 a<|Ro 20 a<|Rt 21 a<|re<|?_
 refine tn<|c1<|sg<|Pl 3<|L0<|cg d 2 #[.slice A full.length cp,.int .i64 ((k:Nat) : Int),.bool true,.int .i64 C.e] fun a7 s L=>ng<|Pl 4<|L0<|aP s 0<|Pl 3<|L0<|cg s 1 #[.slice A full.length cp,.int .i64 ((full.length:Nat) : Int),.bool true,.int .i64 C.e] fun M N O=>?_
 refine ng<|Pl 1<|?_
 have t:=u1 (u1 (aE.mono (S':=[g]) i av) L im) O im
 have Q:RC w0 m A cp full M g { C with l:=[],sh:=true }:=⟨hsrc,hU.trans' t (fun x hx=>.inr (by simp at hx;subst hx;exact hnew)),hnew,⟨full.length,N,Nat.le_refl _,List.drop_length.symm⟩,hlen⟩
 refine L0<|Oc<|m2 (b7 false 2 Q) fun a8 R S=>ng<|Pl 1<|nt<|rt<|tr<|rr (.slice none 0 0)<|?_
 have hf:C.fails n=true:=by rw[iS (n:=n) hk hl,j,f];rfl
 have e1:C.bytesR n=[]:=by unfold ai.bytesR;rw[hf];rfl
 have e2:C.bytesC n=ai.need { C with l:=[],sh:=true } false 2:=by unfold ai.bytesC;rw[hf];rfl
 exact⟨none,0,0,rfl,fun _ _ _=>by rw[e1];exact aS.nil ..,by rw[e2];exact R,(u1 t S im)⟩
 have K:=of_decide_eq_false f
 refine Rt 9 a<|Rt 10 a<|Rt 11 a<|Rt 12 a<|Rl 13 a (fun _ hs=>hs.2.1)<|Rt 14 a<|Rt 15 a<|Rt 16 a<|Rt 17 a<|Rl 18 a (fun _ hs=>hs.2.2)<|Rr 19 a (.int .i64 (((full.length:Nat) : Int)-((k:Nat) : Int))) (fun _ _=>cP (.int .i64 (IntKind.i64.wrap (((full.length:Nat) : Int)-((k:Nat) : Int)))) (by kernel_rfl) (congrArg (Value.int .i64) (IntWalk.i64_in _ (by omega))))<|Rt 20 a<|Rt 21 a<|re<|?_
 refine tn<|cb ((decide ((((full.length:Nat) : Int)-((k:Nat) : Int))<n))) (fun o=>?_) (fun o=>?_)
 have T:=of_decide_eq_true o
 refine sg<|Pl 3<|L0<|cg d 2 #[.slice A full.length cp,.int .i64 ((k:Nat) : Int),.bool true,.int .i64 C.e] fun a9 u U=>ng<|Pl 4<|L0<|aP u 0<|Pl 3<|L0<|cg u 1 #[.slice A full.length cp,.int .i64 ((full.length:Nat) : Int),.bool true,.int .i64 C.e] fun V W X=>nt<|?_
 refine sg<|Pl 1<|?_
 have v:=u1 (u1 (aE.mono (S':=[g]) i av) U im) X im
 have Y:RC w0 m A cp full V g { C with l:=[],sh:=true }:=⟨hsrc,hU.trans' v (fun x hx=>.inr (by simp at hx;subst hx;exact hnew)),hnew,⟨full.length,W,Nat.le_refl _,List.drop_length.symm⟩,hlen⟩
 refine L0<|Oc<|m2 (b7 false 2 Y) fun aa Z a0=>ng<|Pl 1<|nt<|rt<|tr<|rr (.slice none 0 0)<|?_
 have hf:C.fails n=true:=by rw[iS (n:=n) hk hl,j,f,o];rfl
 have e1:C.bytesR n=[]:=by unfold ai.bytesR;rw[hf];rfl
 have e2:C.bytesC n=ai.need { C with l:=[],sh:=true } false 2:=by unfold ai.bytesC;rw[hf];rfl
 exact⟨none,0,0,rfl,fun _ _ _=>by rw[e1];exact aS.nil ..,by rw[e2];exact Z,(u1 v a0 im)⟩
 have T:=of_decide_eq_false o
 refine bp<|sg<|Pl 4<|L0<|aP d 1<|Pl 1<|L0<|Oi (((k:Nat) : Int)+n)<|Pl 2<|L0<|cg d 1 #[.slice A full.length cp,.int .i64 (((k:Nat) : Int)+n),.bool C.sh,.int .i64 C.e] fun ab a1 a2=>nt<|sq<|Rg 16 (fun w'=>w'.cell? ⟨g,0,none⟩=some (.slice A full.length cp)∧w'.cell? ⟨g,1,none⟩=some (.int .i64 (((k:Nat) : Int)+n))) fun ac y=>?_
 have p:=ub y a1
 refine bi ⟨(ah p rfl),(ah p rfl)⟩ fun b=>Rt 0 b<|Rt 1 b<|Rt 2 b<|Rl 3 b (fun _ hs=>hs.1)<|Rt 4 b<|Rt 5 b<|Rt 6 b<|Rl 7 b (fun _ hs=>hs.2)<|Rt 8 b<|Rr 9 b (.int .i64 ((((k:Nat) : Int)+n)-n)) (fun _ _=>cP (.int .i64 (IntKind.i64.wrap ((((k:Nat) : Int)+n)-n))) (by kernel_rfl) (congrArg (Value.int .i64) (IntWalk.i64_in _ (by omega))))<|Rt 10 b<|Rt 11 b<|Rt 12 b<|?_
 refine Rl 13 b (fun _ hs=>hs.2)<|pn (jV (P:=Tryz.prog) 22 5 1 Tryz.underlying22 rfl rfl A full.length cp (lo:=((((k:Nat) : Int)+n)-n)) (up:=(((k:Nat) : Int)+n)) ((((((k:Nat) : Int)+n)-n)).toNat) (((((k:Nat) : Int)+n)).toNat) (by omega) (by omega) (by omega) (by omega) (by omega)) fun z hrun69 a3=>Rr 14 b (.slice z ((((((k:Nat) : Int)+n)).toNat)-((((((k:Nat) : Int)+n)-n)).toNat)) (cp-((((((k:Nat) : Int)+n)-n)).toNat))) (fun _ _=>i3 (kl:=.i64) (kh:=.i64) (lo:=((((k:Nat) : Int)+n)-n)) (hi:=(((k:Nat) : Int)+n)) (A:=A) (n:=full.length) (c:=cp) rfl Tryz.underlying22 (by kernel_rfl) (by kernel_rfl) (by kernel_rfl) (hrun69 _ _ _))<|Rt 15 b<|re<|tn<|rt<|rr (.slice z ((((((k:Nat) : Int)+n)).toNat)-((((((k:Nat) : Int)+n)-n)).toNat)) (cp-((((((k:Nat) : Int)+n)-n)).toNat)))<|?_
 have hf:C.fails n=false:=by rw[iS (n:=n) hk hl,j,f,o];rfl
 have B:=aG (u1 (aE.mono (S':=[g]) i av) a2 im) y
 have e2:C.bytesC n = { C with l:=C.l.drop n.toNat }:=by unfold ai.bytesC;rw[hf];rfl
 exact⟨_,_,_,rfl,fun m' w'' h=>by have:=a3 m' _ _ w'' full h;rw[oF hk hl hf _ _ (by omega) (by omega)] at this;exact this,by rw[e2];exact⟨hsrc,hU.trans' B (fun x hx=>.inr (by simp at hx;subst hx;exact hnew)),hnew,⟨(((k:Nat) : Int)+n).toNat,(by unfold xE;rw[show((((((k:Nat) : Int)+n).toNat:Nat) : Int))=((k:Nat) : Int)+n by omega];exact p),by omega,tG hl (by omega)⟩,hlen⟩,B⟩
def tD (w0:World)(m:Md)(A:Option Addr)(cp:Nat)(full:List Int)(g:Nat)(C:ai)(n:Int)(w:World)(e:Ending)(w':World) : Prop:=∃ A2 c2,e = .returned (.slice A2 (C.bytesR n).length c2)∧(∀ m' w'',bo m' w'' (.slice A full.length cp) full→bo m' w'' (.slice A2 (C.bytesR n).length c2) (C.bytesR n))∧RC w0 m A cp full w' g (C.bytesC n)∧aE [g] w w'
theorem fK{w0:World}{m:Md}{A:Option Addr}{cp:Nat}{full:List Int}{w:World}{g:Nat}{C:ai}{n:Int}(hn : -1048576≤n∧n≤2097152)(hC:RC w0 m A cp full w g C) : Calls Tryz.prog 153 #[.pointer (some ⟨g,0,none⟩),.int .i64 n] w (tD w0 m A cp full g C n w):=by
  refine(oP hn hC).mono ?_
  rintro e w' ⟨A2,n2,c2,rfl,h1,h2,h3⟩
  obtain⟨_,_,hv,_⟩:=aS.shape (h1 m w0 hC.src)
  injection hv with _ e2 _
  subst e2
  exact⟨A2,c2,rfl,h1,h2,h3⟩
theorem uq{full:List Int}{k:Nat}{C:ai}(hk:k≤full.length)(hl:C.l=full.drop k) : ((full.length:Nat) : Int)-((k:Nat) : Int)=((C.l.length:Nat) : Int):=by
  rw[hl,List.length_drop]
  omega
theorem io{w0:World}{m:Md}{A:Option Addr}{cp:Nat}{full:List Int}{w:World}{g:Nat}{C:ai}(hC:RC w0 m A cp full w g C) :
    Calls Tryz.prog 161 #[.pointer (some ⟨g,0,none⟩)] w (dM (.int .i64 ((C.l.length:Nat) : Int)) w):=by
 obtain⟨hsrc,hU,hnew,⟨k,hB,hk,hl⟩,hlen⟩:=hC
 have hcp:full.length≤1048576:=hlen
 refine en 13 Tryz.func161 rfl<|sg<|Pl 1<|nt<|sq<|Rg 11 (fun w'=>w'.cell? ⟨g,0,none⟩=some (.slice A full.length cp)∧w'.cell? ⟨g,1,none⟩=some (.int .i64 ((k:Nat) : Int))) fun d b=>?_
 have c:=ub b hB
 refine bi ⟨(ah c rfl),(ah c rfl)⟩ fun a=>Rt 0 a<|Rt 1 a<|Rt 2 a<|Rl 3 a (fun _ hs=>hs.1)<|Rt 4 a<|Rt 5 a<|Rt 6 a<|Rt 7 a<|Rl 8 a (fun _ hs=>hs.2)<|Rr 9 a (.int .i64 (((full.length:Nat) : Int)-((k:Nat) : Int))) (fun _ _=>cP (.int .i64 (IntKind.i64.wrap (((full.length:Nat) : Int)-((k:Nat) : Int)))) (by kernel_rfl) (congrArg (Value.int .i64) (IntWalk.i64_in _ (by omega))))<|Rt 10 a<|re<|tn<|?_
 refine rt<|rr (.int .i64 (((full.length:Nat) : Int)-((k:Nat) : Int)))<|?_
 rw[uq hk hl]
 exact⟨rfl,b⟩
theorem ex{w0:World}{m:Md}{A:Option Addr}{cp:Nat}{full:List Int}{w:World}{g:Nat}{C:ai}(hC:RC w0 m A cp full w g C) :
    Calls Tryz.prog 157 #[.pointer (some ⟨g,0,none⟩)] w (uF w0 m A cp full g C.endC w):=by
 refine en 7 Tryz.func157 rfl<|go<|Pl 2<|L0<|Oc<|m1 (io hC) fun e a=>?_
 have b:=RC.upd hC a aA (aE.step (RC.u hC) a)
 refine Pl 1<|L0<|Oc<|m2 (b7 ((((C.l.length:Nat) : Int)==0)) 3 b) fun f c d=>nl<|rm (.tuple #[])<|?_
 exact⟨rfl,c,(u1 (aE.mono (S':=[g]) a av) d im)⟩
theorem RC.clen{w0:World}{m:Md}{A:Option Addr}{cp:Nat}{full:List Int}{w:World}{g:Nat}{C:ai}(h:RC w0 m A cp full w g C) : C.l.length≤1048576:=by
  obtain⟨k,_,_,h2⟩:=h.cell
  have:=h.len
  rw[h2,List.length_drop]
  omega
theorem qm{C:ai}(h:((((C.bytesR 1).length:Nat) : Int)==0)=true) : C.byteV=0:=by
  have hz:C.bytesR 1=[]:=List.eq_nil_of_length_eq_zero (by have:=ae h;omega)
  unfold ai.byteV
  rw[hz]
  rfl
def p9 (w0:World)(m:Md)(A:Option Addr)(cp:Nat)(full:List Int)(g:Nat)(q:IntKind)(M x:Int)(C:ai)(w:World)(e:Ending)(w':World) : Prop:=e = .returned (.int q x)∧RC w0 m A cp full w' g C∧aE [g] w w'∧0≤x∧x<M
theorem eb{w0:World}{m:Md}{A:Option Addr}{cp:Nat}{full:List Int}{w:World}{g:Nat}{C:ai}(hC:RC w0 m A cp full w g C) :
    Calls Tryz.prog 151 #[.pointer (some ⟨g,0,none⟩)] w (p9 w0 m A cp full g .u8 256 C.byteV (C.bytesC 1) w):=by
 refine en 12 Tryz.func151 rfl<|sg<|Pl 1<|ng<|Pl 1<|L0<|Oc<|oa (fK (n:=1) (by omega) hC) fun k l o d b c=>?_
 have q:=Nat.le_trans (ai.bytesR_le C 1) (RC.clen hC)
 refine Pl 1<|nt<|sq<|sg<|Pl 3<|nt<|cb (((((C.bytesR 1).length:Nat) : Int)==0)) (fun a=>?_) (fun a=>?_)
 have e:=ae a
 refine sg<|Pl 1<|nt<|rt<|tr<|rr (.int .u8 0)<|?_
 exact⟨by rw[qm a],b,c,ma (RC.rng hC)⟩
 have e:=ak a
 refine bp<|sg<|Pl 1<|gV (bo.at_ (d _ _ (RC.rd b)) 0 (by omega)) fun f h i j r=>L0<|mc ((C.bytesR 1).length) 0 i (by omega)<|L0<|eC (p:=⟨f,h+0,none⟩) (v:=.int .u8 ((C.bytesR 1).getD 0 0)) j<|Pl 1<|nt<|rt<|rr (.int .u8 ((C.bytesR 1).getD 0 0))<|?_
 exact⟨rfl,b,c,ma (RC.rng hC)⟩
theorem qK{C:ai}{full:List Int}{k:Nat}{n:Int}(hk:k≤full.length)(hl:C.l=full.drop k)(h:(decide (n<0)||decide (((full.length:Nat) : Int)<n))=true) : C.wordsR n=cY (C.bytesR (-1))∧C.wordsC n=C.bytesC (-1):=by
  have hb:C.wbad n=true:=by
    unfold ai.wbad
    simp only[Bool.or_eq_true,decide_eq_true_eq] at h ⊢
    rw[hl,List.length_drop]
    omega
  have hf:C.fails (-1)=true:=by
    unfold ai.fails
    simp
  constructor
  · unfold ai.wordsR ai.bytesR
    rw[hb,hf]
    rfl
  · unfold ai.wordsC
    rw[hb]
    rfl
theorem sw{C:ai}{full:List Int}{k:Nat}{n:Int}(hk:k≤full.length)(hl:C.l=full.drop k)(h:(decide (n<0)||decide (((full.length:Nat) : Int)<n))=false) : C.wordsR n=cY (C.bytesR (n+n))∧C.wordsC n=C.bytesC (n+n):=by
  simp only[Bool.or_eq_false_iff,decide_eq_false_iff_not] at h
  by_cases hw:((C.l.length:Int)<n)
  · have hb:C.wbad n=true:=by
      unfold ai.wbad
      simp only[Bool.or_eq_true,decide_eq_true_eq]
      omega
    have hf:C.fails (-1)=true:=by
      unfold ai.fails
      simp
    have hf2:C.fails (n+n)=true:=by
      unfold ai.fails
      simp only[Bool.or_eq_true,decide_eq_true_eq]
      omega
    constructor
    · unfold ai.wordsR ai.bytesR
      rw[hb,hf2]
      rfl
    · unfold ai.wordsC
      rw[hb]
      unfold ai.bytesC
      rw[hf2,hf]
      rfl
  · have hb:C.wbad n=false:=by
      unfold ai.wbad
      simp only[Bool.or_eq_false_iff,decide_eq_false_iff_not]
      omega
    constructor
    · unfold ai.wordsR
      rw[hb,show 2*n=n+n by omega]
      rfl
    · unfold ai.wordsC
      rw[hb,show 2*n=n+n by omega]
      rfl
def uA (w0:World)(m:Md)(A:Option Addr)(cp:Nat)(full:List Int)(g:Nat)(C:ai)(n:Int)(w:World)(e:Ending)(w':World) : Prop:=∃ v,e = .returned v∧jL w.heap.size w' v (C.wordsR n)∧RC w0 m A cp full w' g (C.wordsC n)∧aE [g] w w'
theorem fV{w0:World}{m:Md}{A:Option Addr}{cp:Nat}{full:List Int}{w:World}{g:Nat}{C:ai}{n:Int}(hn : -1048576≤n∧n≤1048576)(hC:RC w0 m A cp full w g C) :
    Calls Tryz.prog 158 #[.pointer (some ⟨g,0,none⟩),.int .i64 n] w (uA w0 m A cp full g C n w):=by
 have hC0:=hC
 obtain⟨hsrc,hU,hnew,⟨k,hB,hk,hl⟩,hlen⟩:=hC0
 refine en 25 Tryz.func158 rfl<|sg<|Pl 1<|nt<|sq<|sg<|Pl 3<|cu 8 [7] 15 (((decide (n<0))||(decide (((full.length:Nat) : Int)<n)))) (fun K h=>?_) ?_
 refine bl 7 ((decide (n<0))) (fun a=>?_) (fun a=>?_)
 have l:=of_decide_eq_true a
 exact Pl 8<|ce h true (by rw[a];rfl)
 have l:=of_decide_eq_false a
 exact Pl 4<|L1<|aP hB 0<|Pl 3<|ce h (decide (((full.length:Nat) : Int)<n)) (by rw[a];rfl)
 refine nt<|cb (((decide (n<0))||(decide (((full.length:Nat) : Int)<n)))) (fun b=>?_) (fun b=>?_)
 refine sg<|Pl 1<|?_
 have o:=RC.upd hC (aE.refl [] _) aA (aE.step hC.u (aE.refl [] _))
 refine L0<|Oc<|oa (fK (n:=-1) (by omega) o) fun E F G p c i=>?_
 have H:=Nat.le_trans (ai.bytesR_le C (-1)) (RC.clen hC)
 refine L0<|Oc<|dk (uD (p _ _ (RC.rd c)) (by omega)) fun q r I s J L d=>Pl 1<|nt<|rt<|tr<|rr (.slice q ((cY (C.bytesR (-1))).length) r)<|?_
 have hw:=qK hk hl b
 exact⟨_,rfl,by rw[hw.1];exact(aV.weaken s i.size),by rw[hw.2];exact(RC.upd c d aA (aE.step (RC.u c) d)),(aG i d)⟩
 have t:=(aI b).1
 have v:=(aI b).2
 have M:=of_decide_eq_false t
 have N:=of_decide_eq_false v
 refine bp<|sg<|Pl 3<|L0<|Oi (n+n)<|?_
 have x:=RC.upd hC (aE.refl [] _) aA (aE.step hC.u (aE.refl [] _))
 refine L0<|Oc<|oa (fK (n:=(n+n)) (by omega) x) fun O P Q y e j=>?_
 have R:=Nat.le_trans (ai.bytesR_le C (n+n)) (RC.clen hC)
 refine L0<|Oc<|dk (uD (y _ _ (RC.rd e)) (by omega)) fun z B S D T U f=>Pl 1<|nt<|rt<|rr (.slice z ((cY (C.bytesR (n+n))).length) B)<|?_
 have hw:=sw hk hl b
 exact⟨_,rfl,by rw[hw.1];exact(aV.weaken D j.size),by rw[hw.2];exact(RC.upd e f aA (aE.step (RC.u e) f)),(aG j f)⟩
theorem ql{C:ai}(h:((((C.wordsR 1).length:Nat) : Int)==0)=true) : C.wordV=0:=by
  have hz:C.wordsR 1=[]:=List.eq_nil_of_length_eq_zero (by have:=ae h;omega)
  unfold ai.wordV
  rw[hz]
  rfl
theorem d6{w0:World}{m:Md}{A:Option Addr}{cp:Nat}{full:List Int}{w:World}{g:Nat}{C:ai}(hC:RC w0 m A cp full w g C) :
    Calls Tryz.prog 154 #[.pointer (some ⟨g,0,none⟩)] w (p9 w0 m A cp full g .u16 65536 C.wordV (C.wordsC 1) w):=by
 refine en 12 Tryz.func154 rfl<|sg<|Pl 1<|ng<|Pl 1<|L0<|Oc<|my (fV (n:=1) (by omega) hC) fun k l o d q r b c=>Pl 1<|nt<|sq<|?_
 refine sg<|Pl 3<|nt<|cb (((((C.wordsR 1).length:Nat) : Int)==0)) (fun a=>?_) (fun a=>?_)
 have e:=ae a
 refine sg<|Pl 1<|nt<|rt<|tr<|rr (.int .u16 0)<|?_
 exact⟨by rw[ql a],b,c,bR (RC.rng hC)⟩
 have e:=ak a
 refine bp<|sg<|Pl 1<|gV (dN.at_ (d).rd 0 (by omega)) fun f h i j s=>L0<|mc ((C.wordsR 1).length) 0 i (by omega)<|L0<|eC (p:=⟨f,h+0,none⟩) (v:=.int .u16 ((C.wordsR 1).getD 0 0)) j<|Pl 1<|nt<|rt<|rr (.int .u16 ((C.wordsR 1).getD 0 0))<|?_
 exact⟨rfl,b,c,bR (RC.rng hC)⟩
theorem fL{w0:World}{m:Md}{A:Option Addr}{cp:Nat}{full:List Int}{w:World}{g:Nat}{C:ai}{G:Prop}(h:RC w0 m A cp full w g C)(k:∀ x,C=x→RC w0 m A cp full w g x→G) : G:=k C rfl h
end Go.Proofs.YtogbnemojakcpaaGreat
