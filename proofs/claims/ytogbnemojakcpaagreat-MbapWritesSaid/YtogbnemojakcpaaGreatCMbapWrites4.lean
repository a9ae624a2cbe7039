/- Contracts of functions, part CMbapWrites4. -/
import Derived.Test.YtogbnemojakcpaaGreatCMbapWrites1
import Derived.Test.YtogbnemojakcpaaGreatCMbapWrites2
import Derived.Test.YtogbnemojakcpaaGreatCMbapWrites3
import Derived.OpenShut
import Derived.Below
import Derived.Laws.StructEq
set_option linter.unusedVariables false
set_option linter.unusedSimpArgs false
set_option maxRecDepth 100000
set_option maxHeartbeats 4000000
namespace Go.Proofs.YtogbnemojakcpaaGreat
open Go.RowKit
def bN (dir:Int)(M:aQ) : List Int :=
  if M.code==8 then aE [M.sub]++aE M.words
  else if dir==0 then []
  else if M.code==7 then [M.value%256]
  else if M.code==11 then aE [M.status,M.events]
  else if M.code==12 then (([(6+(M.data.length:Int))%256]++aE [M.status,M.events,M.messages])++M.data)
  else [(M.data.length:Int)%256]++M.data
theorem p6{m:Md}{cs:Array Value}{M:aQ}{w:World}{dir:Int}(h:aN m w cs.toList M)(hf:bM M)(hd0:(dir==0)=true) : Calls Tryz.prog 208 #[.int .i64 dir,.agg cs] w (fm (bN dir M) w):=by
 obtain⟨vw,vb,vd,vr,vo,h0,hw,hbt,hd,hr,ho,hR⟩:=h
 obtain rfl:cs=(bu M vw vb vd vr vo).toArray:=by apply Array.toList_inj.1;simpa using h0
 clear h0
 obtain⟨Aw,kw,rfl,_,_⟩:=hw.shape
 obtain⟨Ab,kb,rfl,_,_⟩:=hbt.shape
 obtain⟨Ad,kd,rfl,_,_⟩:=hd.shape
 obtain⟨Ar,kr,rfl,_,_⟩:=hr.shape
 obtain⟨Ao,ko,rfl,_,_⟩:=ho.shape
 obtain⟨q0,q1,q2,q3,q4,q5,q6,q7,q8,q9,u,v,y,z,A,B,C⟩:=hR
 simp only[B8,dB] at q0 q1 q2 q3 q4 q5 q6 q7 q8 q9 u v y z A B C
 have hf1:=hf.words
 have hf2:=hf.bits
 have hf3:=hf.data
 have hf4:=hf.recs
 have hf5:=hf.objects
 refine en 70 Tryz.func208 rfl<|sg<|L0<|dv (mG M.code M.fail M.addr M.count M.value M.and_ M.or_ M.addr2 M.sub M.status M.events M.messages (.slice Aw M.words.length kw) (.slice Ab M.bits.length kb) (.slice Ad M.data.length kd) (.slice Ar M.recs.length kr) M.mei M.kind M.level M.more M.next (.slice Ao M.objects.length ko)) fun q O P i d=>Pl 1<|nt<|sq<|bk<|sg<|Pl 1<|L0<|aP i 0<|Pl 2<|nl<|?_
 refine tn<|cb ((M.code==8)) (fun a=>?_) (fun a=>?_)
 have D:=ae a
 refine sq<|Rg 9 (fun w'=>w'.cell? ⟨q,8,none⟩=some (.int .u16 M.sub)∧w'.cell? ⟨q,12,none⟩=some (.slice Aw M.words.length kw)) fun Q b=>?_
 have j:=ub b i
 refine bj ⟨(ah j rfl),(ah j rfl)⟩ fun f=>Rt 0 f<|Rl 1 f (fun _ hs=>hs.1)<|Rt 4 f<|Rl 5 f (fun _ hs=>hs.2)<|R0 2 rfl<|cK (m:=1) (e:=24) #[.int .u16 M.sub] fun R S E F c=>?_
 have G:=dc E (xs:=[M.sub]) (by as_aux_lemma=>kernel_rfl) (am (by omega) aJ) (by(try simp only[List.length_cons,List.length_nil]);omega) F
 have k:=ub c j
 refine bj ⟨(ah k rfl),(ah k rfl)⟩ fun T=>R0 3 rfl<|Oc<|di (bF (xs:=[M.sub]) (G).rd (by(try simp only[List.length_cons,List.length_nil]);omega)) fun H U V l W X n=>?_
 have o:=ub n k
 refine bj ⟨(ah o rfl),(ah o rfl)⟩ fun Y=>?_
 have r:=aG d (aG b (aG c n))
 refine R0 6 rfl<|Oc<|di (bF (xs:=M.words) (dP.old hw r) (by(try simp only[List.length_cons,List.length_nil]);omega)) fun Z a0 a1 I a2 a3 g=>?_
 have p:=ub g o
 refine bj ⟨(ah p rfl),(ah p rfl)⟩ fun a4=>?_
 refine R0 7 rfl<|bE aV (xs:=(aE ([M.sub]))) (ys:=(aE M.words)) (.int .u8 0) 1 (aq l g (fun x hx=>aA) (fun _ _ h=>h)) (I).rd (by(try simp only[List.length_append,List.length_cons,List.length_nil,ay]);omega) (le n.size g.size) fun J K a5 L s=>?_
 have t:=aF.blk s (bf (aB (au i) (le b.size c.size) l) aA) p
 refine bj ⟨(ah t rfl),(ah t rfl)⟩ fun N=>Rt 8 N<|re<|tn<|rt<|br<|tr<|rr (.slice J (((aE ([M.sub]))++(aE M.words)).length) K)<|?_
 have hs:bN dir M=((aE ([M.sub]))++(aE M.words)):=by
   unfold bN
   (try simp only[hd0,a,bs,if_true,if_false,decide_true,decide_false,reduceIte])
   all_goals rfl
 rw[hs]
 exact⟨_,rfl,(aW.weaken L (le (le d.size b.size) c.size)),(ut r (ut (aF.mono (S':=(ob H++[])) g av) s (al il av)) (al (aM l (le (le d.size b.size) c.size)) av))⟩
 have D:=ak a
 refine sg<|Pl 3<|nt<|ct hd0<|sg<|Pl 1<|nt<|rt<|br<|tr<|?_
 refine rr (.slice none 0 0)<|?_
 have hs:bN dir M=[]:=by
   unfold bN
   (try simp only[hd0,a,bs,if_true,if_false,decide_true,decide_false,reduceIte])
   all_goals rfl
 rw[hs]
 exact⟨_,rfl,(aW.nil ..),d⟩
theorem pl{m:Md}{cs:Array Value}{M:aQ}{w:World}{dir:Int}(h:aN m w cs.toList M)(hf:bM M)(hd0:(dir==0)=false) : Calls Tryz.prog 208 #[.int .i64 dir,.agg cs] w (fm (bN dir M) w):=by
 obtain⟨vw,vb,vd,vr,vo,h0,hw,hbt,hd,hr,ho,hR⟩:=h
 obtain rfl:cs=(bu M vw vb vd vr vo).toArray:=by apply Array.toList_inj.1;simpa using h0
 clear h0
 obtain⟨Aw,kw,rfl,_,_⟩:=hw.shape
 obtain⟨Ab,kb,rfl,_,_⟩:=hbt.shape
 obtain⟨Ad,kd,rfl,_,_⟩:=hd.shape
 obtain⟨Ar,kr,rfl,_,_⟩:=hr.shape
 obtain⟨Ao,ko,rfl,_,_⟩:=ho.shape
 obtain⟨q0,q1,q2,q3,q4,q5,q6,q7,q8,q9,aj,an,ao,ap,ar,aw,ax⟩:=hR
 simp only[B8,dB] at q0 q1 q2 q3 q4 q5 q6 q7 q8 q9 aj an ao ap ar aw ax
 have hf1:=hf.words
 have hf2:=hf.bits
 have hf3:=hf.data
 have hf4:=hf.recs
 have hf5:=hf.objects
 refine en 70 Tryz.func208 rfl<|sg<|L0<|dv (mG M.code M.fail M.addr M.count M.value M.and_ M.or_ M.addr2 M.sub M.status M.events M.messages (.slice Aw M.words.length kw) (.slice Ab M.bits.length kb) (.slice Ad M.data.length kd) (.slice Ar M.recs.length kr) M.mei M.kind M.level M.more M.next (.slice Ao M.objects.length ko)) fun l bY c0 b a=>Pl 1<|nt<|sq<|bk<|sg<|Pl 1<|L0<|aP b 0<|Pl 2<|nl<|?_
 refine tn<|cb ((M.code==8)) (fun f=>?_) (fun f=>?_)
 have az:=ae f
 refine sq<|Rg 9 (fun w'=>w'.cell? ⟨l,8,none⟩=some (.int .u16 M.sub)∧w'.cell? ⟨l,12,none⟩=some (.slice Aw M.words.length kw)) fun c1 p=>?_
 have J:=ub p b
 refine bj ⟨(ah J rfl),(ah J rfl)⟩ fun E=>Rt 0 E<|Rl 1 E (fun _ hs=>hs.1)<|Rt 4 E<|Rl 5 E (fun _ hs=>hs.2)<|R0 2 rfl<|cK (m:=1) (e:=24) #[.int .u16 M.sub] fun c2 c3 aC aD q=>?_
 have aH:=dc aC (xs:=[M.sub]) (by as_aux_lemma=>kernel_rfl) (am (by omega) aJ) (by(try simp only[List.length_cons,List.length_nil]);omega) aD
 have K:=ub q J
 refine bj ⟨(ah K rfl),(ah K rfl)⟩ fun c4=>R0 3 rfl<|Oc<|di (bF (xs:=[M.sub]) (aH).rd (by(try simp only[List.length_cons,List.length_nil]);omega)) fun aI c5 c6 L c7 c8 N=>?_
 have O:=ub N K
 refine bj ⟨(ah O rfl),(ah O rfl)⟩ fun c9=>?_
 have X:=aG a (aG p (aG q N))
 refine R0 6 rfl<|Oc<|di (bF (xs:=M.words) (dP.old hw X) (by(try simp only[List.length_cons,List.length_nil]);omega)) fun ca cc cd aK ce cg F=>?_
 have P:=ub F O
 refine bj ⟨(ah P rfl),(ah P rfl)⟩ fun ch=>?_
 refine R0 7 rfl<|bE aV (xs:=(aE ([M.sub]))) (ys:=(aE M.words)) (.int .u8 0) 1 (aq L F (fun x hx=>aA) (fun _ _ h=>h)) (aK).rd (by(try simp only[List.length_append,List.length_cons,List.length_nil,ay]);omega) (le N.size F.size) fun aL aO ci aR Y=>?_
 have Z:=aF.blk Y (bf (aB (au b) (le p.size q.size) L) aA) P
 refine bj ⟨(ah Z rfl),(ah Z rfl)⟩ fun aS=>Rt 8 aS<|re<|tn<|rt<|br<|tr<|rr (.slice aL (((aE ([M.sub]))++(aE M.words)).length) aO)<|?_
 have hs:bN dir M=((aE ([M.sub]))++(aE M.words)):=by
   unfold bN
   (try simp only[hd0,f,bs,if_true,if_false,decide_true,decide_false,reduceIte])
   all_goals rfl
 rw[hs]
 exact⟨_,rfl,(aW.weaken aR (le (le a.size p.size) q.size)),(ut X (ut (aF.mono (S':=(ob aI++[])) F av) Y (al il av)) (al (aM L (le (le a.size p.size) q.size)) av))⟩
 have az:=ak f
 refine sg<|Pl 3<|nt<|cf hd0<|sg<|Pl 1<|L0<|aP b 0<|Pl 2<|nt<|cb ((M.code==7)) (fun g=>?_) (fun g=>?_)
 have aT:=ae g
 refine sg<|Pl 1<|L0<|aP b 4<|Pl 1<|L0<|cK (m:=1) (e:=5) #[.int .u8 (M.value%256)] fun aU cj aX aY aZ=>?_
 have b0:=cN aX (xs:=[(M.value%256)]) (by as_aux_lemma=>kernel_rfl) (am (by omega) aJ) (by(try simp only[List.length_cons,List.length_nil]);omega) aY
 refine Pl 1<|nt<|rt<|br<|tr<|rr (.slice (some ⟨aU,0,none⟩) 1 1)<|?_
 have hs:bN dir M=[(M.value%256)]:=by
   unfold bN
   (try simp only[hd0,f,g,bs,if_true,if_false,decide_true,decide_false,reduceIte])
   all_goals rfl
 rw[hs]
 exact⟨_,rfl,(aW.weaken b0 a.size),(aG a aZ)⟩
 have aT:=ak g
 refine sg<|Pl 1<|L0<|aP b 0<|Pl 2<|nt<|cb ((M.code==11)) (fun j=>?_) (fun j=>?_)
 have b1:=ae j
 refine sg<|Pl 1<|L0<|aP b 9<|Pl 1<|L0<|aP b 10<|L0<|cK (m:=2) (e:=24) #[.int .u16 M.status,.int .u16 M.events] fun ck cl b2 b3 a0=>?_
 have b4:=dc b2 (xs:=[M.status,M.events]) (by as_aux_lemma=>kernel_rfl) (am (by omega) (am (by omega) aJ)) (by(try simp only[List.length_cons,List.length_nil]);omega) b3
 refine L0<|Oc<|di (bF (xs:=[M.status,M.events]) (b4).rd (by(try simp only[List.length_cons,List.length_nil]);omega)) fun b5 b6 cm b7 cn co b8=>Pl 1<|nt<|rt<|br<|tr<|rr (.slice b5 ((aE ([M.status,M.events])).length) b6)<|?_
 have hs:bN dir M=(aE ([M.status,M.events])):=by
   unfold bN
   (try simp only[hd0,f,g,j,bs,if_true,if_false,decide_true,decide_false,reduceIte])
   all_goals rfl
 rw[hs]
 exact⟨_,rfl,(aW.weaken b7 (le a.size a0.size)),(aG a (aG a0 b8))⟩
 have b1:=ak j
 refine sg<|Pl 1<|L0<|aP b 0<|Pl 2<|nt<|cb ((M.code==12)) (fun k=>?_) (fun k=>?_)
 have b9:=ae k
 refine sq<|Rg 16 (fun w'=>w'.cell? ⟨l,14,none⟩=some (.slice Ad M.data.length kd)∧w'.cell? ⟨l,9,none⟩=some (.int .u16 M.status)∧w'.cell? ⟨l,10,none⟩=some (.int .u16 M.events)∧w'.cell? ⟨l,11,none⟩=some (.int .u16 M.messages)) fun cp c=>?_
 have n:=ub c b
 refine bj ⟨(ah n rfl),(ah n rfl),(ah n rfl),(ah n rfl)⟩ fun d=>Rt 0 d<|Rl 1 d (fun _ hs=>hs.1)<|Rt 2 d<|Rr 3 d (.int .i64 (6+((M.data.length:Nat) : Int))) (fun _ _=>bZ (.int .i64 (IntKind.i64.wrap (6+((M.data.length:Nat) : Int)))) (by kernel_rfl) (congrArg (Value.int .i64) (IntWalk.i64_in _ (by omega))))<|Rt 4 d<|Rt 6 d<|Rl 7 d (fun _ hs=>hs.2.1)<|Rt 8 d<|Rl 9 d (fun _ hs=>hs.2.2.1)<|Rt 10 d<|Rl 11 d (fun _ hs=>hs.2.2.2)<|?_
 refine R2 5 12 rfl rfl ?_ ?_
 refine  cK (m:=1) (e:=5) #[.int .u8 ((6+((M.data.length:Nat) : Int))%256)] fun ba cq bb bc Q=>?_
 have R:=cN bb (xs:=[((6+((M.data.length:Nat) : Int))%256)]) (by as_aux_lemma=>kernel_rfl) (am (by omega) aJ) (by(try simp only[List.length_cons,List.length_nil]);omega) bc
 have r:=ub Q n
 refine bj ⟨(ah r rfl),(ah r rfl),(ah r rfl),(ah r rfl)⟩ fun cr=>R0 12 rfl<|cK (m:=3) (e:=24) #[.int .u16 M.status,.int .u16 M.events,.int .u16 M.messages] fun ct cu bd be S=>?_
 have bg:=dc bd (xs:=[M.status,M.events,M.messages]) (by as_aux_lemma=>kernel_rfl) (am (by omega) (am (by omega) (am (by omega) aJ))) (by(try simp only[List.length_cons,List.length_nil]);omega) be
 have s:=ub S r
 refine bj ⟨(ah s rfl),(ah s rfl),(ah s rfl),(ah s rfl)⟩ fun cv=>R0 13 rfl<|Oc<|di (bF (xs:=[M.status,M.events,M.messages]) (bg).rd (by(try simp only[List.length_cons,List.length_nil]);omega)) fun cw cx cy bi cz cA T=>?_
 have t:=ub T s
 refine bj ⟨(ah t rfl),(ah t rfl),(ah t rfl),(ah t rfl)⟩ fun cB=>?_
 have a1:=aG S T
 refine R0 14 rfl<|bE aV (xs:=([((6+((M.data.length:Nat) : Int))%256)])) (ys:=(aE ([M.status,M.events,M.messages]))) (.int .u8 0) 1 (aq R a1 (fun x hx=>aA) (fun _ _ h=>h)) (bi).rd (by(try simp only[List.length_append,List.length_cons,List.length_nil,ay]);omega) (le (le Q.size S.size) T.size) fun cC cD cE a2 a3=>?_
 have u:=aF.blk a3 (bf (aB (au b) c.size R) aA) t
 refine bj ⟨(ah u rfl),(ah u rfl),(ah u rfl),(ah u rfl)⟩ fun bl=>Rt 15 bl<|re<|tn<|sg<|Pl 2<|L0<|aP u 14<|?_
 have a4:=ut Q (ut (aF.mono (S':=(ob (some ⟨ba,0,none⟩)++[])) a1 av) a3 (al il av)) (al (aM R lr) av)
 have a5:=aG a (aG c a4)
 refine L0<|bE aV (xs:=([((6+((M.data.length:Nat) : Int))%256)]++(aE ([M.status,M.events,M.messages])))) (ys:=M.data) (.int .u8 0) 1 a2 (bh.old hd a5) (by(try simp only[List.length_append,List.length_cons,List.length_nil,ay]);omega) a4.size fun bm bo cF bp bq=>Pl 1<|nt<|rt<|br<|tr<|rr (.slice bm ((([((6+((M.data.length:Nat) : Int))%256)]++(aE ([M.status,M.events,M.messages])))++M.data).length) bo)<|?_
 have hs:bN dir M=(([((6+((M.data.length:Nat) : Int))%256)]++(aE ([M.status,M.events,M.messages])))++M.data):=by
   unfold bN
   (try simp only[hd0,f,g,j,k,bs,if_true,if_false,decide_true,decide_false,reduceIte])
   all_goals rfl
 rw[hs]
 exact⟨_,rfl,(aW.weaken bp (le a.size c.size)),(ut a5 bq (al (aM a2 (le a.size c.size)) av))⟩
 refine  cK (m:=3) (e:=24) #[.int .u16 M.status,.int .u16 M.events,.int .u16 M.messages] fun cG cH bt bv i=>?_
 have a6:=dc bt (xs:=[M.status,M.events,M.messages]) (by as_aux_lemma=>kernel_rfl) (am (by omega) (am (by omega) (am (by omega) aJ))) (by(try simp only[List.length_cons,List.length_nil]);omega) bv
 have o:=ub i n
 refine bj ⟨(ah o rfl),(ah o rfl),(ah o rfl),(ah o rfl)⟩ fun cI=>?_
 refine R2 5 13 rfl rfl ?_ ?_
 refine  cK (m:=1) (e:=5) #[.int .u8 ((6+((M.data.length:Nat) : Int))%256)] fun bw cJ bx bz G=>?_
 have U:=cN bx (xs:=[((6+((M.data.length:Nat) : Int))%256)]) (by as_aux_lemma=>kernel_rfl) (am (by omega) aJ) (by(try simp only[List.length_cons,List.length_nil]);omega) bz
 have v:=ub G o
 refine bj ⟨(ah v rfl),(ah v rfl),(ah v rfl),(ah v rfl)⟩ fun cL=>?_
 refine R0 13 rfl<|Oc<|di (bF (xs:=[M.status,M.events,M.messages]) ((aq a6 G (fun x hx=>aA) (fun _ _ h=>h))).rd (by(try simp only[List.length_cons,List.length_nil]);omega)) fun cM cO cP bA cQ cR H=>?_
 have y:=ub H v
 refine bj ⟨(ah y rfl),(ah y rfl),(ah y rfl),(ah y rfl)⟩ fun cS=>?_
 refine R0 14 rfl<|bE aV (xs:=([((6+((M.data.length:Nat) : Int))%256)])) (ys:=(aE ([M.status,M.events,M.messages]))) (.int .u8 0) 1 (aq U H (fun x hx=>aA) (fun _ _ h=>h)) (bA).rd (by(try simp only[List.length_append,List.length_cons,List.length_nil,ay]);omega) (le G.size H.size) fun cT cU cV a7 a8=>?_
 have z:=aF.blk a8 (bf (aB (au b) (le c.size i.size) U) aA) y
 refine bj ⟨(ah z rfl),(ah z rfl),(ah z rfl),(ah z rfl)⟩ fun bB=>Rt 15 bB<|re<|tn<|sg<|Pl 2<|L0<|aP z 14<|?_
 have a9:=ut G (ut (aF.mono (S':=(ob (some ⟨bw,0,none⟩)++[])) H av) a8 (al il av)) (al (aM U lr) av)
 have aa:=aG a (aG c (aG i a9))
 refine L0<|bE aV (xs:=([((6+((M.data.length:Nat) : Int))%256)]++(aE ([M.status,M.events,M.messages])))) (ys:=M.data) (.int .u8 0) 1 a7 (bh.old hd aa) (by(try simp only[List.length_append,List.length_cons,List.length_nil,ay]);omega) a9.size fun bC bD cW bG bH=>Pl 1<|nt<|rt<|br<|tr<|rr (.slice bC ((([((6+((M.data.length:Nat) : Int))%256)]++(aE ([M.status,M.events,M.messages])))++M.data).length) bD)<|?_
 have hs:bN dir M=(([((6+((M.data.length:Nat) : Int))%256)]++(aE ([M.status,M.events,M.messages])))++M.data):=by
   unfold bN
   (try simp only[hd0,f,g,j,k,bs,if_true,if_false,decide_true,decide_false,reduceIte])
   all_goals rfl
 rw[hs]
 exact⟨_,rfl,(aW.weaken bG (le (le a.size c.size) i.size)),(ut aa bH (al (aM a7 (le (le a.size c.size) i.size)) av))⟩
 refine  Oc<|di (bF (xs:=[M.status,M.events,M.messages]) (a6).rd (by(try simp only[List.length_cons,List.length_nil]);omega)) fun cX cY cZ bI d0 d1 A=>?_
 have B:=ub A o
 refine bj ⟨(ah B rfl),(ah B rfl),(ah B rfl),(ah B rfl)⟩ fun d2=>R0 5 rfl<|cK (m:=1) (e:=5) #[.int .u8 ((6+((M.data.length:Nat) : Int))%256)] fun d3 d4 bJ bK I=>?_
 have V:=cN bJ (xs:=[((6+((M.data.length:Nat) : Int))%256)]) (by as_aux_lemma=>kernel_rfl) (am (by omega) aJ) (by(try simp only[List.length_cons,List.length_nil]);omega) bK
 have C:=ub I B
 refine bj ⟨(ah C rfl),(ah C rfl),(ah C rfl),(ah C rfl)⟩ fun d5=>?_
 refine R0 14 rfl<|bE aV (xs:=([((6+((M.data.length:Nat) : Int))%256)])) (ys:=(aE ([M.status,M.events,M.messages]))) (.int .u8 0) 1 V ((aq bI I (fun x hx=>aA) (fun _ _ h=>h))).rd (by(try simp only[List.length_append,List.length_cons,List.length_nil,ay]);omega) I.size fun d6 d7 d8 ab ac=>?_
 have D:=aF.blk ac (bf (aB (au b) (le (le c.size i.size) A.size) V) aA) C
 refine bj ⟨(ah D rfl),(ah D rfl),(ah D rfl),(ah D rfl)⟩ fun bL=>Rt 15 bL<|re<|tn<|sg<|Pl 2<|L0<|aP D 14<|?_
 have ad:=ut I ac (al (aM V lr) av)
 have af:=aG a (aG c (aG i (aG A ad)))
 refine L0<|bE aV (xs:=([((6+((M.data.length:Nat) : Int))%256)]++(aE ([M.status,M.events,M.messages])))) (ys:=M.data) (.int .u8 0) 1 ab (bh.old hd af) (by(try simp only[List.length_append,List.length_cons,List.length_nil,ay]);omega) ad.size fun bO bP d9 bQ bR=>Pl 1<|nt<|rt<|br<|tr<|rr (.slice bO ((([((6+((M.data.length:Nat) : Int))%256)]++(aE ([M.status,M.events,M.messages])))++M.data).length) bP)<|?_
 have hs:bN dir M=(([((6+((M.data.length:Nat) : Int))%256)]++(aE ([M.status,M.events,M.messages])))++M.data):=by
   unfold bN
   (try simp only[hd0,f,g,j,k,bs,if_true,if_false,decide_true,decide_false,reduceIte])
   all_goals rfl
 rw[hs]
 exact⟨_,rfl,(aW.weaken bQ (le (le (le a.size c.size) i.size) A.size)),(ut af bR (al (aM ab (le (le (le a.size c.size) i.size) A.size)) av))⟩
 have b9:=ak k
 refine sk<|bn<|tn<|sg<|Pl 1<|L0<|aP b 14<|Pl 2<|L0<|cK (m:=1) (e:=5) #[.int .u8 (((M.data.length:Nat) : Int)%256)] fun da db bS bT W=>?_
 have ag:=cN bS (xs:=[(((M.data.length:Nat) : Int)%256)]) (by as_aux_lemma=>kernel_rfl) (am (by omega) aJ) (by(try simp only[List.length_cons,List.length_nil]);omega) bT
 refine Pl 1<|?_
 refine L0<|aP (ub W b) 14<|?_
 have ai:=aG a W
 refine L0<|bE aV (xs:=([(((M.data.length:Nat) : Int)%256)])) (ys:=M.data) (.int .u8 0) 1 ag (bh.old hd ai) (by(try simp only[List.length_append,List.length_cons,List.length_nil,ay]);omega) W.size fun bU bV dd bW bX=>Pl 1<|nt<|rt<|rr (.slice bU (([(((M.data.length:Nat) : Int)%256)]++M.data).length) bV)<|?_
 have hs:bN dir M=([(((M.data.length:Nat) : Int)%256)]++M.data):=by
   unfold bN
   (try simp only[hd0,f,g,j,k,bs,if_true,if_false,decide_true,decide_false,reduceIte])
   all_goals rfl
 rw[hs]
 exact⟨_,rfl,(aW.weaken bW a.size),(ut ai bX (al (aM ag a.size) av))⟩
theorem ta{m:Md}{cs:Array Value}{M:aQ}{w:World}{dir:Int}(h:aN m w cs.toList M)(hf:bM M) : Calls Tryz.prog 208 #[.int .i64 dir,.agg cs] w (fm (bN dir M) w):=by
  rcases dU (dir==0) with h0|h0
  · exact p6 h hf h0
  · exact pl h hf h0
open Go.RowKit
theorem dj{α:Type}(d:α)(xs:List α)(k:Nat)(h:k<xs.length) : xs.getD k d∈xs:=by
  simp[List.getD_eq_getElem?_getD,List.getElem?_eq_getElem h]
def eY:List Obj→List Int
  | []=>[]
  | o :: r=>([o.id,(o.value.length:Int)%256]++o.value)++eY r
theorem ms(xs:List Obj)(k:Nat)(h:k<xs.length) : eY (xs.drop k)=([(xs.getD k ⟨0,[]⟩).id,((xs.getD k ⟨0,[]⟩).value.length:Int)%256]++(xs.getD k ⟨0,[]⟩).value)++eY (xs.drop (k+1)):=by
  rw[List.drop_eq_getElem_cons h]
  simp[eY,List.getD_eq_getElem?_getD,List.getElem?_eq_getElem h]
def de (dir:Int)(M:aQ) : List Int :=
  if M.mei==13 then [M.mei]++M.data
  else if dir==0 then [M.mei,M.kind,M.next]
  else [M.mei,M.kind,M.level,M.more,M.next,(M.objects.length:Int)%256]++eY M.objects
theorem rh{m:Md}{cs:Array Value}{M:aQ}{w:World}{dir:Int}(h:aN m w cs.toList M)(hf:bM M)(hd0:(dir==0)=true) : Calls Tryz.prog 214 #[.int .i64 dir,.agg cs] w (fm (de dir M) w):=by
 obtain⟨vw,vb,vd,vr,vo,h0,hw,hbt,hd,hr,ho,hR⟩:=h
 obtain rfl:cs=(bu M vw vb vd vr vo).toArray:=by apply Array.toList_inj.1;simpa using h0
 clear h0
 obtain⟨Aw,kw,rfl,_,_⟩:=hw.shape
 obtain⟨Ab,kb,rfl,_,_⟩:=hbt.shape
 obtain⟨Ad,kd,rfl,_,_⟩:=hd.shape
 obtain⟨Ar,kr,rfl,_,_⟩:=hr.shape
 obtain⟨Ao,ko,rfl,_,_⟩:=ho.shape
 obtain⟨q0,q1,q2,q3,q4,q5,q6,q7,q8,q9,i,j,k,l,n,o,p⟩:=hR
 simp only[B8,dB] at q0 q1 q2 q3 q4 q5 q6 q7 q8 q9 i j k l n o p
 have hf1:=hf.words
 have hf2:=hf.bits
 have hf3:=hf.data
 have hf4:=hf.recs
 have hf5:=hf.objects
 refine en 64 Tryz.func214 rfl<|sg<|L0<|dv (mG M.code M.fail M.addr M.count M.value M.and_ M.or_ M.addr2 M.sub M.status M.events M.messages (.slice Aw M.words.length kw) (.slice Ab M.bits.length kb) (.slice Ad M.data.length kd) (.slice Ar M.recs.length kr) M.mei M.kind M.level M.more M.next (.slice Ao M.objects.length ko)) fun D E F a b=>Pl 1<|nt<|sq<|bk<|sg<|Pl 1<|L0<|aP a 16<|Pl 2<|nl<|?_
 refine tn<|cb ((M.mei==13)) (fun c=>?_) (fun c=>?_)
 have q:=ae c
 refine sg<|Pl 1<|L0<|aP a 16<|L0<|cK (m:=1) (e:=5) #[.int .u8 M.mei] fun G H r s d=>?_
 have f:=cN r (xs:=[M.mei]) (by as_aux_lemma=>kernel_rfl) (am (by omega) aJ) (by(try simp only[List.length_cons,List.length_nil]);omega) s
 refine Pl 1<|?_
 refine L0<|aP (ub d a) 14<|?_
 have g:=aG b d
 refine L0<|bE aV (xs:=([M.mei])) (ys:=M.data) (.int .u8 0) 1 f (bh.old hd g) (by(try simp only[List.length_append,List.length_cons,List.length_nil,ay]);omega) d.size fun t u I v x=>Pl 1<|nt<|rt<|br<|tr<|rr (.slice t (([M.mei]++M.data).length) u)<|?_
 have hs:de dir M=([M.mei]++M.data):=by
   unfold de
   (try simp only[hd0,c,bs,if_true,if_false,decide_true,decide_false,reduceIte])
   all_goals rfl
 rw[hs]
 exact⟨_,rfl,(aW.weaken v b.size),(ut g x (al (aM f b.size) av))⟩
 have q:=ak c
 refine sg<|Pl 3<|nt<|ct hd0<|sg<|Pl 1<|L0<|aP a 16<|Pl 1<|L0<|aP a 17<|Pl 1<|L0<|aP a 20<|?_
 refine L0<|cK (m:=3) (e:=5) #[.int .u8 M.mei,.int .u8 M.kind,.int .u8 M.next] fun y J z A B=>?_
 have C:=cN z (xs:=[M.mei,M.kind,M.next]) (by as_aux_lemma=>kernel_rfl) (am (by omega) (am (by omega) (am (by omega) aJ))) (by(try simp only[List.length_cons,List.length_nil]);omega) A
 refine Pl 1<|nt<|rt<|br<|tr<|rr (.slice (some ⟨y,0,none⟩) 3 3)<|?_
 have hs:de dir M=[M.mei,M.kind,M.next]:=by
   unfold de
   (try simp only[hd0,c,bs,if_true,if_false,decide_true,decide_false,reduceIte])
   all_goals rfl
 rw[hs]
 exact⟨_,rfl,(aW.weaken C b.size),(aG b B)⟩
theorem rW{m:Md}{cs:Array Value}{M:aQ}{w:World}{dir:Int}(h:aN m w cs.toList M)(hf:bM M)(hd0:(dir==0)=false) : Calls Tryz.prog 214 #[.int .i64 dir,.agg cs] w (fm (de dir M) w):=by
 obtain⟨vw,vb,vd,vr,vo,h0,hw,hbt,hd,hr,ho,hR⟩:=h
 obtain rfl:cs=(bu M vw vb vd vr vo).toArray:=by apply Array.toList_inj.1;simpa using h0
 clear h0
 obtain⟨Aw,kw,rfl,_,_⟩:=hw.shape
 obtain⟨Ab,kb,rfl,_,_⟩:=hbt.shape
 obtain⟨Ad,kd,rfl,_,_⟩:=hd.shape
 obtain⟨Ar,kr,rfl,_,_⟩:=hr.shape
 obtain⟨Ao,ko,rfl,_,_⟩:=ho.shape
 obtain⟨q0,q1,q2,q3,q4,q5,q6,q7,q8,q9,O,P,Q,R,S,T,U⟩:=hR
 simp only[B8,dB] at q0 q1 q2 q3 q4 q5 q6 q7 q8 q9 O P Q R S T U
 have hf1:=hf.words
 have hf2:=hf.bits
 have hf3:=hf.data
 have hf4:=hf.recs
 have hf5:=hf.objects
 refine en 64 Tryz.func214 rfl<|sg<|L0<|dv (mG M.code M.fail M.addr M.count M.value M.and_ M.or_ M.addr2 M.sub M.status M.events M.messages (.slice Aw M.words.length kw) (.slice Ab M.bits.length kb) (.slice Ad M.data.length kd) (.slice Ar M.recs.length kr) M.mei M.kind M.level M.more M.next (.slice Ao M.objects.length ko)) fun aD r aE a c=>Pl 1<|nt<|sq<|bk<|sg<|Pl 1<|L0<|aP a 16<|Pl 2<|nl<|?_
 refine tn<|cb ((M.mei==13)) (fun d=>?_) (fun d=>?_)
 have V:=ae d
 refine sg<|Pl 1<|L0<|aP a 16<|L0<|cK (m:=1) (e:=5) #[.int .u8 M.mei] fun aH aI W X s=>?_
 have E:=cN W (xs:=[M.mei]) (by as_aux_lemma=>kernel_rfl) (am (by omega) aJ) (by(try simp only[List.length_cons,List.length_nil]);omega) X
 refine Pl 1<|?_
 refine L0<|aP (ub s a) 14<|?_
 have F:=aG c s
 refine L0<|bE aV (xs:=([M.mei])) (ys:=M.data) (.int .u8 0) 1 E (bh.old hd F) (by(try simp only[List.length_append,List.length_cons,List.length_nil,ay]);omega) s.size fun Y Z aK a0 a1=>Pl 1<|nt<|rt<|br<|tr<|rr (.slice Y (([M.mei]++M.data).length) Z)<|?_
 have hs:de dir M=([M.mei]++M.data):=by
   unfold de
   (try simp only[hd0,d,bs,if_true,if_false,decide_true,decide_false,reduceIte])
   all_goals rfl
 rw[hs]
 exact⟨_,rfl,(aW.weaken a0 c.size),(ut F a1 (al (aM E c.size) av))⟩
 have V:=ak d
 refine sg<|Pl 3<|nt<|cf hd0<|sk<|bn<|tn<|sg<|Pl 1<|L0<|aP a 16<|Pl 1<|L0<|aP a 17<|?_
 refine Pl 1<|L0<|aP a 18<|Pl 1<|L0<|aP a 19<|Pl 1<|L0<|aP a 20<|Pl 1<|L0<|aP a 21<|Pl 2<|L0<|cK (m:=6) (e:=5) #[.int .u8 M.mei,.int .u8 M.kind,.int .u8 M.level,.int .u8 M.more,.int .u8 M.next,.int .u8 (((M.objects.length:Nat) : Int)%256)] fun a2 a3 a4 a5 j=>?_
 have a6:=cN a4 (xs:=[M.mei,M.kind,M.level,M.more,M.next,(((M.objects.length:Nat) : Int)%256)]) (by as_aux_lemma=>kernel_rfl) (am (by omega) (am (by omega) (am (by omega) (am (by omega) (am (by omega) (am (by omega) aJ)))))) (by(try simp only[List.length_cons,List.length_nil]);omega) a5
 refine Pl 1<|nt<|sq<|sg<|Pl 1<|?_
 refine L0<|aP (ub j a) 21<|Pl 2<|nt<|bk<|?_
 refine js (fun x=>[(4,.slice none 0 0),(5,.slice x.2.2.1 x.2.1.length x.2.2.2),(44,.slice Ao M.objects.length ko),(45,.int .i64 ((M.objects.length:Nat) : Int)),(46,.int .i64 ((x.1:Nat) : Int))]) (fun(x:Nat × List Int × Option Addr × Nat) w'=>aF [] r w'∧a3.heap.size≤w'.heap.size∧eI r.heap.size w' (.slice x.2.2.1 x.2.1.length x.2.2.2) x.2.1∧(x.1≤M.objects.length)∧(x.2.1++eY (M.objects.drop x.1)=([M.mei,M.kind,M.level,M.more,M.next,(((M.objects.length:Nat) : Int)%256)])++eY M.objects)∧(x.2.1.length≤16+x.1*1026)∧(6≤x.2.1.length)) (fun x=>M.objects.length-x.1) (0,[M.mei,M.kind,M.level,M.more,M.next,(((M.objects.length:Nat) : Int)%256)],some ⟨a2,0,none⟩,6) ⟨j,lr,a6,(by(try dsimp only);omega),rfl,(by(try dsimp only);(try simp only[List.length_cons,List.length_nil]);omega),(by(try dsimp only);(try simp only[List.length_cons,List.length_nil]);omega)⟩ ?_
 rintro⟨k,L,A,cp⟩ a7 ⟨G,t,a8,a9,aa,ab,ac⟩
 refine ju [(4,.slice none 0 0),(5,.slice A L.length cp),(44,.slice Ao M.objects.length ko),(45,.int .i64 ((M.objects.length:Nat) : Int)),(46,.int .i64 ((k:Nat) : Int))] ?_
 have f:eI r.heap.size a7 (.slice A L.length cp) L:=a8
 have aL:k≤M.objects.length:=a9
 have aO:L++eY (M.objects.drop k)=([M.mei,M.kind,M.level,M.more,M.next,(((M.objects.length:Nat) : Int)%256)])++eY M.objects:=aa
 have aR:L.length≤16+k*1026:=ab
 have aS:6≤L.length:=ac
 have hL:L++eY (M.objects.drop k)=([M.mei,M.kind,M.level,M.more,M.next,(((M.objects.length:Nat) : Int)%256)])++eY M.objects:=by assumption
 have hv0:=fun(h:k<M.objects.length)=>hf.objv _ (dj ⟨0,[]⟩ M.objects k h)
 refine sg<|Pl 1<|nt<|sq<|?_
 have u:=aG c G
 refine cb ((decide (((k:Nat) : Int)<((M.objects.length:Nat) : Int)))) (fun l=>?_) (fun l=>?_)
 have ad:=of_decide_eq_true l
 refine bp<|sq<|bk<|sg<|jh (mj.elt ho k (by omega)) fun aT aU aX aY aZ v y af ag ai b0 aj=>L0<|nf 2 M.objects.length k af (by omega)<|?_
 refine L0<|xe [.int .u8 ((M.objects.getD k ⟨0,[]⟩).id),.slice v ((M.objects.getD k ⟨0,[]⟩).value.length) y] (ub u ag) aj<|L0<|bO #[.int .u8 0,.slice none 0 0] fun H b1 I an n=>L0<|be an #[.int .u8 ((M.objects.getD k ⟨0,[]⟩).id),.slice v ((M.objects.getD k ⟨0,[]⟩).value.length) y] fun b2 ao o=>nt<|Rg 13 (fun w'=>w'.cell? ⟨H,0,none⟩=some (.int .u8 ((M.objects.getD k ⟨0,[]⟩).id))∧w'.cell? ⟨H,1,none⟩=some (.slice v ((M.objects.getD k ⟨0,[]⟩).value.length) y)) fun b3 g=>?_
 have z:=ub g ao
 refine bj ⟨(ah z rfl),(ah z rfl)⟩ fun b=>Rt 0 b<|Rt 1 b<|Rl 2 b (fun _ hs=>hs.1)<|Rt 3 b<|Rl 4 b (fun _ hs=>hs.2)<|Rt 5 b<|Rt 6 b<|Rt 9 b<|Rl 10 b (fun _ hs=>hs.2)<|R0 7 rfl<|cK (m:=2) (e:=5) #[.int .u8 ((M.objects.getD k ⟨0,[]⟩).id),.int .u8 ((((M.objects.getD k ⟨0,[]⟩).value.length:Nat) : Int)%256)] fun b4 b5 ap ar i=>?_
 have au:=cN ap (xs:=[(M.objects.getD k ⟨0,[]⟩).id,((((M.objects.getD k ⟨0,[]⟩).value.length:Nat) : Int)%256)]) (by as_aux_lemma=>kernel_rfl) (am (by omega) (am (by omega) aJ)) (by(try simp only[List.length_cons,List.length_nil]);omega) ar
 have B:=ub i z
 refine bj ⟨(ah B rfl),(ah B rfl)⟩ fun b6=>?_
 have J:=ud n (aG o (aG g i)) I
 refine R0 8 rfl<|bE aV (xs:=L) (ys:=([(M.objects.getD k ⟨0,[]⟩).id,((((M.objects.getD k ⟨0,[]⟩).value.length:Nat) : Int)%256)])) (.int .u8 0) 1 (aq f J (fun x hx=>aA) (fun _ _ h=>h)) (au).rd (by(try simp only[List.length_append,List.length_cons,List.length_nil,ay]);omega) (le (le (le (le (le j.size t) n.size) o.size) g.size) i.size) fun aw b7 b8 C p=>?_
 have q:=aF.blk p (bf (dT f lr I) aA) B
 refine bj ⟨(ah q rfl),(ah q rfl)⟩ fun b9=>?_
 have K:=ut (aF.mono (S':=(ob A++[])) J av) p (al il av)
 refine R0 11 rfl<|bE aV (xs:=(L++[(M.objects.getD k ⟨0,[]⟩).id,((((M.objects.getD k ⟨0,[]⟩).value.length:Nat) : Int)%256)])) (ys:=((M.objects.getD k ⟨0,[]⟩).value)) (.int .u8 0) 1 C (bh.old ai (ut u K (al (aM f c.size) av))) (by(try simp only[List.length_append,List.length_cons,List.length_nil,ay]);omega) (le (le (le (le (le (le j.size t) n.size) o.size) g.size) i.size) p.size) fun ax az ba aB D=>?_
 have N:=aF.blk D (bf (dI q C (by decide)) aA) q
 refine bj ⟨(ah N rfl),(ah N rfl)⟩ fun aC=>Rt 12 aC<|re<|bn<|tn<|go<|L0<|Oi (((k:Nat) : Int)+1)<|Pl 1<|nl<|?_
 exact gM ((k+1),((L++[(M.objects.getD k ⟨0,[]⟩).id,((((M.objects.getD k ⟨0,[]⟩).value.length:Nat) : Int)%256)])++(M.objects.getD k ⟨0,[]⟩).value),ax,az) ⟨(ut G (ut (aF.mono (S':=(ob A++(ob aw++[]))) K (al il av)) D (al il av)) (al (aM f lr) (al (aM C lr) av))),(le (le (le (le (le (le t n.size) o.size) g.size) i.size) p.size) D.size),aB,(by(try dsimp only);omega),(by(try dsimp only);rw[← hL,ms  M.objects k (by omega)];simp only[List.append_assoc]),(by(try dsimp only);have hv:=hf.objv _ (dj ⟨0,[]⟩ M.objects k (by omega));(try simp only[List.length_append,List.length_cons,List.length_nil,ay]);omega),(by(try dsimp only);(try simp only[List.length_append,List.length_cons,List.length_nil]);omega)⟩ (by omega)
 have ad:=of_decide_eq_false l
 refine xt<|tx<|tx<|bx<|tn<|sg<|Pl 2<|nt<|rt<|rr (.slice A L.length cp)<|?_
 have hk:k=M.objects.length:=by omega
 rw[hk,List.drop_length] at hL
 have hL2:L=([M.mei,M.kind,M.level,M.more,M.next,(((M.objects.length:Nat) : Int)%256)])++eY M.objects:=by rw[← hL];simp[eY]
 have hs:de dir M=L:=by
   rw[hL2]
   unfold de
   (try simp only[hd0,d,l,bs,if_true,if_false,decide_true,decide_false,reduceIte])
   all_goals rfl
 rw[hs]
 exact⟨_,rfl,(aW.weaken f c.size),u⟩
theorem uL{m:Md}{cs:Array Value}{M:aQ}{w:World}{dir:Int}(h:aN m w cs.toList M)(hf:bM M) : Calls Tryz.prog 214 #[.int .i64 dir,.agg cs] w (fm (de dir M) w):=by
  rcases dU (dir==0) with h0|h0
  · exact rh h hf h0
  · exact rW h hf h0
open Go.RowKit
def hH (dir code:Int)(r:dr) : List Int:=(if code==20&&dir==1 then [(1+2*(r.words.length:Int))%256,6] else [6]++aE [r.file,r.record,r.count])++aE r.words
def cH (dir code:Int) : List dr→List Int
  | []=>[]
  | r :: rs=>hH dir code r++cH dir code rs
theorem dV(dir code:Int)(xs:List dr)(k:Nat)(h:k<xs.length) : cH dir code (xs.drop k)=hH dir code (xs.getD k ⟨0,0,0,[]⟩)++cH dir code (xs.drop (k+1)):=by
  rw[List.drop_eq_getElem_cons h]
  simp[cH,List.getD_eq_getElem?_getD,List.getElem?_eq_getElem h]
def cO (dir:Int)(M:aQ) : List Int:=([0]++cH dir M.code M.recs).set 0 (((([0]++cH dir M.code M.recs).length:Int)-1)%256)
theorem o6{m:Md}{cs:Array Value}{M:aQ}{w:World}{dir:Int}(h:aN m w cs.toList M)(hf:bM M)(hd0:(dir==0)=true) : Calls Tryz.prog 212 #[.int .i64 dir,.agg cs] w (fm (cO dir M) w):=by
 obtain⟨vw,vb,vd,vr,vo,h0,hw,hbt,hd,hr,ho,hR⟩:=h
 obtain rfl:cs=(bu M vw vb vd vr vo).toArray:=by apply Array.toList_inj.1;simpa using h0
 clear h0
 obtain⟨Aw,kw,rfl,_,_⟩:=hw.shape
 obtain⟨Ab,kb,rfl,_,_⟩:=hbt.shape
 obtain⟨Ad,kd,rfl,_,_⟩:=hd.shape
 obtain⟨Ar,kr,rfl,_,_⟩:=hr.shape
 obtain⟨Ao,ko,rfl,_,_⟩:=ho.shape
 obtain⟨q0,q1,q2,q3,q4,q5,q6,q7,q8,q9,bi,bm,bo,bq,br,bt,bv⟩:=hR
 simp only[B8,dB] at q0 q1 q2 q3 q4 q5 q6 q7 q8 q9 bi bm bo bq br bt bv
 have hf1:=hf.words
 have hf2:=hf.bits
 have hf3:=hf.data
 have hf4:=hf.recs
 have hf5:=hf.objects
 refine en 58 Tryz.func212 rfl<|sg<|L0<|dv (mG M.code M.fail M.addr M.count M.value M.and_ M.or_ M.addr2 M.sub M.status M.events M.messages (.slice Aw M.words.length kw) (.slice Ab M.bits.length kb) (.slice Ad M.data.length kd) (.slice Ar M.recs.length kr) M.mei M.kind M.level M.more M.next (.slice Ao M.objects.length ko)) fun ar ac cB au l=>Pl 1<|ng<|L0<|cK (m:=1) (e:=5) #[.int .u8 0] fun bw bz bA bB g=>?_
 have bC:=cN bA (xs:=[0]) (by as_aux_lemma=>kernel_rfl) (am (by omega) aJ) (by(try simp only[List.length_cons,List.length_nil]);omega) bB
 refine Pl 1<|nt<|sq<|sg<|Pl 1<|?_
 refine L0<|aP (ub g au) 15<|Pl 2<|nt<|bk<|?_
 refine js (fun x=>[(0,.int .i64 dir),(3,.pointer (some ⟨ar,0,none⟩)),(4,.slice none 0 0),(5,.slice x.2.2.1 x.2.1.length x.2.2.2),(10,.slice Ar M.recs.length kr),(11,.int .i64 ((M.recs.length:Nat) : Int)),(12,.int .i64 ((x.1:Nat) : Int))]) (fun(x:Nat × List Int × Option Addr × Nat) w'=>aF [] ac w'∧bz.heap.size≤w'.heap.size∧eI ac.heap.size w' (.slice x.2.2.1 x.2.1.length x.2.2.2) x.2.1∧(x.1≤M.recs.length)∧(x.2.1++cH dir M.code (M.recs.drop x.1)=([0])++cH dir M.code M.recs)∧(x.2.1.length≤16+x.1*2060)∧(1≤x.2.1.length)) (fun x=>M.recs.length-x.1) (0,[0],some ⟨bw,0,none⟩,1) ⟨g,lr,bC,(by(try dsimp only);omega),rfl,(by(try dsimp only);(try simp only[List.length_cons,List.length_nil]);omega),(by(try dsimp only);(try simp only[List.length_cons,List.length_nil]);omega)⟩ ?_
 rintro⟨k,L,A,cp⟩ bD ⟨aw,f,bG,bH,bI,bJ,bK⟩
 refine ju [(0,.int .i64 dir),(3,.pointer (some ⟨ar,0,none⟩)),(4,.slice none 0 0),(5,.slice A L.length cp),(10,.slice Ar M.recs.length kr),(11,.int .i64 ((M.recs.length:Nat) : Int)),(12,.int .i64 ((k:Nat) : Int))] ?_
 have a:eI ac.heap.size bD (.slice A L.length cp) L:=bG
 have cC:k≤M.recs.length:=bH
 have cD:L++cH dir M.code (M.recs.drop k)=([0])++cH dir M.code M.recs:=bI
 have cE:L.length≤16+k*2060:=bJ
 have cF:1≤L.length:=bK
 have hL:L++cH dir M.code (M.recs.drop k)=([0])++cH dir M.code M.recs:=by assumption
 have hv0:=fun(h:k<M.recs.length)=>hf.recw _ (dj ⟨0,0,0,[]⟩ M.recs k h)
 refine sg<|Pl 1<|nt<|sq<|?_
 have ad:=aG l aw
 refine cb ((decide (((k:Nat) : Int)<((M.recs.length:Nat) : Int)))) (fun n=>?_) (fun n=>?_)
 have bL:=of_decide_eq_true n
 refine bp<|sq<|bk<|sg<|jh (kZ.elt hr k (by omega)) fun cG cI cJ cL cM ax az bN bP Q cP bQ=>L0<|nf 4 M.recs.length k bN (by omega)<|?_
 refine L0<|xe [.int .u16 ((M.recs.getD k ⟨0,0,0,[]⟩).file),.int .u16 ((M.recs.getD k ⟨0,0,0,[]⟩).record),.int .u16 ((M.recs.getD k ⟨0,0,0,[]⟩).count),.slice ax ((M.recs.getD k ⟨0,0,0,[]⟩).words.length) az] (ub ad bP) bQ<|L0<|bO #[.int .u16 0,.int .u16 0,.int .u16 0,.slice none 0 0] fun af cQ B bR b=>L0<|be bR #[.int .u16 ((M.recs.getD k ⟨0,0,0,[]⟩).file),.int .u16 ((M.recs.getD k ⟨0,0,0,[]⟩).record),.int .u16 ((M.recs.getD k ⟨0,0,0,[]⟩).count),.slice ax ((M.recs.getD k ⟨0,0,0,[]⟩).words.length) az] fun cR ag c=>nt<|sq<|bk<|sg<|Pl 1<|?_
 have s:=ud b c B
 have C:=aG aw s
 refine L0<|aP (ub C au) 0<|Pl 2<|cu 3 [32] 35 (((M.code==20)&&(dir==1))) (fun K aB=>?_) ?_
 refine bl 32 ((M.code==20)) (fun D=>?_) (fun D=>?_)
 have bS:=ae D
 exact Pl 3<|ce aB (dir==1) (by rw[D];rfl)
 have bS:=ak D
 exact Pl 3<|ce aB false (by rw[D];rfl)
 refine Pl 1<|nt<|?_
 have R:=aG ad s
 refine cb (((M.code==20)&&(dir==1))) (fun o=>?_) (fun o=>?_)
 have aC:=(aZ o).1
 have aD:=(aZ o).2
 have cS:=ae aC
 have cT:=ae aD
 refine go<|Pl 2<|L0<|aP ag 3<|Pl 1<|L0<|Oi (2*(((M.recs.getD k ⟨0,0,0,[]⟩).words.length:Nat) : Int))<|L0<|Oi (1+(2*(((M.recs.getD k ⟨0,0,0,[]⟩).words.length:Nat) : Int)))<|Pl 1<|L0<|cK (m:=2) (e:=5) #[.int .u8 ((1+(2*(((M.recs.getD k ⟨0,0,0,[]⟩).words.length:Nat) : Int)))%256),.int .u8 6] fun cU cV bT bU E=>?_
 have bV:=cN bT (xs:=[((1+(2*(((M.recs.getD k ⟨0,0,0,[]⟩).words.length:Nat) : Int)))%256),6]) (by as_aux_lemma=>kernel_rfl) (am (by omega) (am (by omega) aJ)) (by(try simp only[List.length_cons,List.length_nil]);omega) bU
 refine L0<|bE aV (xs:=L) (ys:=([((1+(2*(((M.recs.getD k ⟨0,0,0,[]⟩).words.length:Nat) : Int)))%256),6])) (.int .u8 0) 1 (aq a (aG s E) (fun x hx=>aA) (fun _ _ h=>h)) (bV).rd (by(try simp only[List.length_append,List.length_cons,List.length_nil,ay]);omega) (le (le (le (le g.size f) b.size) c.size) E.size) fun aH cW cX aI ai=>Pl 1<|nl<|bn<|tn<|go<|Pl 2<|?_
 have aj:=ut (aF.mono (S':=(ob A++[])) E av) ai (al il av)
 refine L0<|aP (aF.blk aj (bf (dT a lr B) aA) ag) 3<|?_
 refine L0<|Oc<|di (bF (xs:=(M.recs.getD k ⟨0,0,0,[]⟩).words) (dP.old Q (ut R aj (al (aM a l.size) av))) (by(try simp only[List.length_cons,List.length_nil]);omega)) fun cY cZ d0 bW d1 d2 S=>?_
 refine L0<|bE aV (xs:=(L++[((1+(2*(((M.recs.getD k ⟨0,0,0,[]⟩).words.length:Nat) : Int)))%256),6])) (ys:=(aE ((M.recs.getD k ⟨0,0,0,[]⟩).words))) (.int .u8 0) 1 (aq aI S (fun x hx=>aA) (fun _ _ h=>h)) (bW).rd (by(try simp only[List.length_append,List.length_cons,List.length_nil,ay]);omega) (le (le (le (le (le (le g.size f) b.size) c.size) E.size) ai.size) S.size) fun bX bY d3 bZ aK=>Pl 1<|nl<|bn<|tn<|go<|L0<|Oi (((k:Nat) : Int)+1)<|Pl 1<|nl<|?_
 exact gM ((k+1),((L++[((1+(2*(((M.recs.getD k ⟨0,0,0,[]⟩).words.length:Nat) : Int)))%256),6])++(aE ((M.recs.getD k ⟨0,0,0,[]⟩).words))),bX,bY) ⟨(ut C (ut (aF.mono (S':=(ob A++(ob aH++[]))) aj (al il av)) (ut (aF.mono (S':=(ob aH++[])) S av) aK (al il av)) (al il av)) (al (aM a lr) (al (aM aI lr) av))),(le (le (le (le (le (le f b.size) c.size) E.size) ai.size) S.size) aK.size),bZ,(by(try dsimp only);omega),(by(try dsimp only);rw[← hL,dV dir M.code M.recs k (by omega)];simp only[hH,hd0,n,o,aC,aD,bs,if_true,if_false,decide_true,decide_false,List.append_assoc]),(by(try dsimp only);have hv:=hf.recw _ (dj ⟨0,0,0,[]⟩ M.recs k (by omega));(try simp only[List.length_append,List.length_cons,List.length_nil,ay]);omega),(by(try dsimp only);(try simp only[List.length_append,List.length_cons,List.length_nil]);omega)⟩ (by omega)
 refine Rg 13 (fun w'=>w'.cell? ⟨af,0,none⟩=some (.int .u16 ((M.recs.getD k ⟨0,0,0,[]⟩).file))∧w'.cell? ⟨af,1,none⟩=some (.int .u16 ((M.recs.getD k ⟨0,0,0,[]⟩).record))∧w'.cell? ⟨af,2,none⟩=some (.int .u16 ((M.recs.getD k ⟨0,0,0,[]⟩).count))) fun d4 d=>?_
 have F:=ub d ag
 refine bj ⟨(ah F rfl),(ah F rfl),(ah F rfl)⟩ fun p=>Rt 0 p<|Rt 3 p<|Rl 4 p (fun _ hs=>hs.1)<|Rt 5 p<|Rl 6 p (fun _ hs=>hs.2.1)<|Rt 7 p<|Rl 8 p (fun _ hs=>hs.2.2)<|?_
 refine R2 1 9 rfl rfl ?_ ?_
 refine  cK (m:=1) (e:=5) #[.int .u8 6] fun d5 d6 c0 c1 i=>?_
 have aL:=cN c0 (xs:=[6]) (by as_aux_lemma=>kernel_rfl) (am (by omega) aJ) (by(try simp only[List.length_cons,List.length_nil]);omega) c1
 have G:=ub i F
 refine bj ⟨(ah G rfl),(ah G rfl),(ah G rfl)⟩ fun d7=>?_
 refine R2 2 9 rfl rfl ?_ ?_
 have aO:=aG d i
 refine  bE aV (xs:=L) (ys:=([6])) (.int .u8 0) 1 (aq a (aG s aO) (fun x hx=>aA) (fun _ _ h=>h)) (aL).rd (by(try simp only[List.length_append,List.length_cons,List.length_nil,ay]);omega) (le (le (le (le (le g.size f) b.size) c.size) d.size) i.size) fun T d8 d9 an H=>?_
 have U:=aF.blk H (bf (dT a lr B) aA) G
 refine bj ⟨(ah U rfl),(ah U rfl),(ah U rfl)⟩ fun da=>R0 9 rfl<|cK (m:=3) (e:=24) #[.int .u16 ((M.recs.getD k ⟨0,0,0,[]⟩).file),.int .u16 ((M.recs.getD k ⟨0,0,0,[]⟩).record),.int .u16 ((M.recs.getD k ⟨0,0,0,[]⟩).count)] fun db dd c2 c3 I=>?_
 have c4:=dc c2 (xs:=[(M.recs.getD k ⟨0,0,0,[]⟩).file,(M.recs.getD k ⟨0,0,0,[]⟩).record,(M.recs.getD k ⟨0,0,0,[]⟩).count]) (by as_aux_lemma=>kernel_rfl) (am (by omega) (am (by omega) (am (by omega) aJ))) (by(try simp only[List.length_cons,List.length_nil]);omega) c3
 have V:=ub I U
 refine bj ⟨(ah V rfl),(ah V rfl),(ah V rfl)⟩ fun de=>R0 10 rfl<|Oc<|di (bF (xs:=[(M.recs.getD k ⟨0,0,0,[]⟩).file,(M.recs.getD k ⟨0,0,0,[]⟩).record,(M.recs.getD k ⟨0,0,0,[]⟩).count]) (c4).rd (by(try simp only[List.length_cons,List.length_nil]);omega)) fun df dg dh c5 dk dl J=>?_
 have N:=ub J V
 refine bj ⟨(ah N rfl),(ah N rfl),(ah N rfl)⟩ fun dm=>?_
 have aR:=aG I J
 have aS:=aq an aR (fun x hx=>aA) (fun _ _ h=>h)
 refine R0 11 rfl<|bE aV (xs:=(L++[6])) (ys:=(aE ([(M.recs.getD k ⟨0,0,0,[]⟩).file,(M.recs.getD k ⟨0,0,0,[]⟩).record,(M.recs.getD k ⟨0,0,0,[]⟩).count]))) (.int .u8 0) 1 aS (c5).rd (by(try simp only[List.length_append,List.length_cons,List.length_nil,ay]);omega) (le (le (le (le (le (le (le (le g.size f) b.size) c.size) d.size) i.size) H.size) I.size) J.size) fun aT dn dp aU W=>?_
 have X:=aF.blk W (bf (dI N aS (by decide)) aA) N
 refine bj ⟨(ah X rfl),(ah X rfl),(ah X rfl)⟩ fun c6=>Rt 12 c6<|re<|bn<|tn<|go<|Pl 2<|L0<|aP X 3<|?_
 have aX:=ut (aF.mono (S':=(ob A++(ob T++[]))) aO av) (ut (aF.mono (S':=(ob A++(ob T++[]))) H (al il av)) (ut (aF.mono (S':=(ob T++[])) aR av) W (al il av)) (al il av)) (al il (al il av))
 refine L0<|Oc<|di (bF (xs:=(M.recs.getD k ⟨0,0,0,[]⟩).words) (dP.old Q (ut R aX (al (aM a l.size) (al (aM an l.size) av)))) (by(try simp only[List.length_cons,List.length_nil]);omega)) fun dq dr ds c7 dt du Y=>?_
 refine L0<|bE aV (xs:=((L++[6])++(aE ([(M.recs.getD k ⟨0,0,0,[]⟩).file,(M.recs.getD k ⟨0,0,0,[]⟩).record,(M.recs.getD k ⟨0,0,0,[]⟩).count])))) (ys:=(aE ((M.recs.getD k ⟨0,0,0,[]⟩).words))) (.int .u8 0) 1 (aq aU Y (fun x hx=>aA) (fun _ _ h=>h)) (c7).rd (by(try simp only[List.length_append,List.length_cons,List.length_nil,ay]);omega) (le (le (le (le (le (le (le (le (le (le g.size f) b.size) c.size) d.size) i.size) H.size) I.size) J.size) W.size) Y.size) fun c8 c9 dw ca aY=>Pl 1<|nl<|bn<|tn<|go<|L0<|Oi (((k:Nat) : Int)+1)<|Pl 1<|nl<|?_
 exact gM ((k+1),(((L++[6])++(aE ([(M.recs.getD k ⟨0,0,0,[]⟩).file,(M.recs.getD k ⟨0,0,0,[]⟩).record,(M.recs.getD k ⟨0,0,0,[]⟩).count])))++(aE ((M.recs.getD k ⟨0,0,0,[]⟩).words))),c8,c9) ⟨(ut C (ut (aF.mono (S':=(ob A++(ob T++(ob aT++[])))) aX (al il (al il av))) (ut (aF.mono (S':=(ob aT++[])) Y av) aY (al il av)) (al il av)) (al (aM a lr) (al (aM an lr) (al (aM aU lr) av)))),(le (le (le (le (le (le (le (le (le (le f b.size) c.size) d.size) i.size) H.size) I.size) J.size) W.size) Y.size) aY.size),ca,(by(try dsimp only);omega),(by(try dsimp only);rw[← hL,dV dir M.code M.recs k (by omega)];simp only[hH,hd0,n,o,bs,if_true,if_false,decide_true,decide_false,List.append_assoc]),(by(try dsimp only);have hv:=hf.recw _ (dj ⟨0,0,0,[]⟩ M.recs k (by omega));(try simp only[List.length_append,List.length_cons,List.length_nil,ay]);omega),(by(try dsimp only);(try simp only[List.length_append,List.length_cons,List.length_nil]);omega)⟩ (by omega)
 refine  cK (m:=3) (e:=24) #[.int .u16 ((M.recs.getD k ⟨0,0,0,[]⟩).file),.int .u16 ((M.recs.getD k ⟨0,0,0,[]⟩).record),.int .u16 ((M.recs.getD k ⟨0,0,0,[]⟩).count)] fun dx dy cc cd q=>?_
 have b0:=dc cc (xs:=[(M.recs.getD k ⟨0,0,0,[]⟩).file,(M.recs.getD k ⟨0,0,0,[]⟩).record,(M.recs.getD k ⟨0,0,0,[]⟩).count]) (by as_aux_lemma=>kernel_rfl) (am (by omega) (am (by omega) (am (by omega) aJ))) (by(try simp only[List.length_cons,List.length_nil]);omega) cd
 have Z:=ub q G
 refine bj ⟨(ah Z rfl),(ah Z rfl),(ah Z rfl)⟩ fun dz=>?_
 have b1:=aG d (aG i q)
 refine R0 2 rfl<|bE aV (xs:=L) (ys:=([6])) (.int .u8 0) 1 (aq a (aG s b1) (fun x hx=>aA) (fun _ _ h=>h)) ((aq aL q (fun x hx=>aA) (fun _ _ h=>h))).rd (by(try simp only[List.length_append,List.length_cons,List.length_nil,ay]);omega) (le (le (le (le (le (le g.size f) b.size) c.size) d.size) i.size) q.size) fun a0 dA dC ao t=>?_
 have a1:=aF.blk t (bf (dT a lr B) aA) Z
 refine bj ⟨(ah a1 rfl),(ah a1 rfl),(ah a1 rfl)⟩ fun dD=>?_
 refine R0 10 rfl<|Oc<|di (bF (xs:=[(M.recs.getD k ⟨0,0,0,[]⟩).file,(M.recs.getD k ⟨0,0,0,[]⟩).record,(M.recs.getD k ⟨0,0,0,[]⟩).count]) ((aq b0 t (fun x hx=>(bf ((fF b0 a (le (le (le b.size c.size) d.size) i.size)) x hx) aA)) (fun _ _ h=>h))).rd (by(try simp only[List.length_cons,List.length_nil]);omega)) fun dE dF dG cf dH dJ u=>?_
 have O:=ub u a1
 refine bj ⟨(ah O rfl),(ah O rfl),(ah O rfl)⟩ fun dK=>?_
 have b2:=aq ao u (fun x hx=>aA) (fun _ _ h=>h)
 refine R0 11 rfl<|bE aV (xs:=(L++[6])) (ys:=(aE ([(M.recs.getD k ⟨0,0,0,[]⟩).file,(M.recs.getD k ⟨0,0,0,[]⟩).record,(M.recs.getD k ⟨0,0,0,[]⟩).count]))) (.int .u8 0) 1 b2 (cf).rd (by(try simp only[List.length_append,List.length_cons,List.length_nil,ay]);omega) (le (le (le (le (le (le (le (le g.size f) b.size) c.size) d.size) i.size) q.size) t.size) u.size) fun b3 dL dM b4 a2=>?_
 have a3:=aF.blk a2 (bf (dI O b2 (by decide)) aA) O
 refine bj ⟨(ah a3 rfl),(ah a3 rfl),(ah a3 rfl)⟩ fun cg=>Rt 12 cg<|re<|bn<|tn<|go<|Pl 2<|L0<|aP a3 3<|?_
 have b5:=ut (aF.mono (S':=(ob A++(ob a0++[]))) b1 av) (ut (aF.mono (S':=(ob A++(ob a0++[]))) t (al il av)) (ut (aF.mono (S':=(ob a0++[])) u av) a2 (al il av)) (al il av)) (al il (al il av))
 refine L0<|Oc<|di (bF (xs:=(M.recs.getD k ⟨0,0,0,[]⟩).words) (dP.old Q (ut R b5 (al (aM a l.size) (al (aM ao l.size) av)))) (by(try simp only[List.length_cons,List.length_nil]);omega)) fun dN dO dQ ch dR dS a4=>?_
 refine L0<|bE aV (xs:=((L++[6])++(aE ([(M.recs.getD k ⟨0,0,0,[]⟩).file,(M.recs.getD k ⟨0,0,0,[]⟩).record,(M.recs.getD k ⟨0,0,0,[]⟩).count])))) (ys:=(aE ((M.recs.getD k ⟨0,0,0,[]⟩).words))) (.int .u8 0) 1 (aq b4 a4 (fun x hx=>aA) (fun _ _ h=>h)) (ch).rd (by(try simp only[List.length_append,List.length_cons,List.length_nil,ay]);omega) (le (le (le (le (le (le (le (le (le (le g.size f) b.size) c.size) d.size) i.size) q.size) t.size) u.size) a2.size) a4.size) fun ci cj dU ck b6=>Pl 1<|nl<|bn<|tn<|go<|L0<|Oi (((k:Nat) : Int)+1)<|Pl 1<|nl<|?_
 exact gM ((k+1),(((L++[6])++(aE ([(M.recs.getD k ⟨0,0,0,[]⟩).file,(M.recs.getD k ⟨0,0,0,[]⟩).record,(M.recs.getD k ⟨0,0,0,[]⟩).count])))++(aE ((M.recs.getD k ⟨0,0,0,[]⟩).words))),ci,cj) ⟨(ut C (ut (aF.mono (S':=(ob A++(ob a0++(ob b3++[])))) b5 (al il (al il av))) (ut (aF.mono (S':=(ob b3++[])) a4 av) b6 (al il av)) (al il av)) (al (aM a lr) (al (aM ao lr) (al (aM b4 lr) av)))),(le (le (le (le (le (le (le (le (le (le f b.size) c.size) d.size) i.size) q.size) t.size) u.size) a2.size) a4.size) b6.size),ck,(by(try dsimp only);omega),(by(try dsimp only);rw[← hL,dV dir M.code M.recs k (by omega)];simp only[hH,hd0,n,o,bs,if_true,if_false,decide_true,decide_false,List.append_assoc]),(by(try dsimp only);have hv:=hf.recw _ (dj ⟨0,0,0,[]⟩ M.recs k (by omega));(try simp only[List.length_append,List.length_cons,List.length_nil,ay]);omega),(by(try dsimp only);(try simp only[List.length_append,List.length_cons,List.length_nil]);omega)⟩ (by omega)
 refine  cK (m:=3) (e:=24) #[.int .u16 ((M.recs.getD k ⟨0,0,0,[]⟩).file),.int .u16 ((M.recs.getD k ⟨0,0,0,[]⟩).record),.int .u16 ((M.recs.getD k ⟨0,0,0,[]⟩).count)] fun dW dX cl cm v=>?_
 have b7:=dc cl (xs:=[(M.recs.getD k ⟨0,0,0,[]⟩).file,(M.recs.getD k ⟨0,0,0,[]⟩).record,(M.recs.getD k ⟨0,0,0,[]⟩).count]) (by as_aux_lemma=>kernel_rfl) (am (by omega) (am (by omega) (am (by omega) aJ))) (by(try simp only[List.length_cons,List.length_nil]);omega) cm
 have a5:=ub v F
 refine bj ⟨(ah a5 rfl),(ah a5 rfl),(ah a5 rfl)⟩ fun dY=>R0 1 rfl<|cK (m:=1) (e:=5) #[.int .u8 6] fun dZ e0 cn co r=>?_
 have cq:=cN cn (xs:=[6]) (by as_aux_lemma=>kernel_rfl) (am (by omega) aJ) (by(try simp only[List.length_cons,List.length_nil]);omega) co
 have a6:=ub r a5
 refine bj ⟨(ah a6 rfl),(ah a6 rfl),(ah a6 rfl)⟩ fun e1=>?_
 have b8:=aG d (aG v r)
 refine R0 2 rfl<|bE aV (xs:=L) (ys:=([6])) (.int .u8 0) 1 (aq a (aG s b8) (fun x hx=>aA) (fun _ _ h=>h)) (cq).rd (by(try simp only[List.length_append,List.length_cons,List.length_nil,ay]);omega) (le (le (le (le (le (le g.size f) b.size) c.size) d.size) v.size) r.size) fun a7 e2 e3 ap y=>?_
 have a8:=aF.blk y (bf (dT a lr B) aA) a6
 refine bj ⟨(ah a8 rfl),(ah a8 rfl),(ah a8 rfl)⟩ fun e4=>?_
 refine R0 10 rfl<|Oc<|di (bF (xs:=[(M.recs.getD k ⟨0,0,0,[]⟩).file,(M.recs.getD k ⟨0,0,0,[]⟩).record,(M.recs.getD k ⟨0,0,0,[]⟩).count]) ((aq b7 (ut (aF.mono (S':=(ob A++[])) r av) y (al il av)) (fun x hx=>(bf ((fF b7 a (le (le b.size c.size) d.size)) x hx) aA)) (fun _ _ h=>h))).rd (by(try simp only[List.length_cons,List.length_nil]);omega)) fun e5 e6 e7 cr e8 e9 z=>?_
 have P:=ub z a8
 refine bj ⟨(ah P rfl),(ah P rfl),(ah P rfl)⟩ fun ea=>?_
 have b9:=aq ap z (fun x hx=>aA) (fun _ _ h=>h)
 refine R0 11 rfl<|bE aV (xs:=(L++[6])) (ys:=(aE ([(M.recs.getD k ⟨0,0,0,[]⟩).file,(M.recs.getD k ⟨0,0,0,[]⟩).record,(M.recs.getD k ⟨0,0,0,[]⟩).count]))) (.int .u8 0) 1 b9 (cr).rd (by(try simp only[List.length_append,List.length_cons,List.length_nil,ay]);omega) (le (le (le (le (le (le (le (le g.size f) b.size) c.size) d.size) v.size) r.size) y.size) z.size) fun ba eb ec bb a9=>?_
 have aa:=aF.blk a9 (bf (dI P b9 (by decide)) aA) P
 refine bj ⟨(ah aa rfl),(ah aa rfl),(ah aa rfl)⟩ fun ct=>Rt 12 ct<|re<|bn<|tn<|go<|Pl 2<|L0<|aP aa 3<|?_
 have bc:=ut (aF.mono (S':=(ob A++(ob a7++[]))) b8 av) (ut (aF.mono (S':=(ob A++(ob a7++[]))) y (al il av)) (ut (aF.mono (S':=(ob a7++[])) z av) a9 (al il av)) (al il av)) (al il (al il av))
 refine L0<|Oc<|di (bF (xs:=(M.recs.getD k ⟨0,0,0,[]⟩).words) (dP.old Q (ut R bc (al (aM a l.size) (al (aM ap l.size) av)))) (by(try simp only[List.length_cons,List.length_nil]);omega)) fun ed ee ef cv eg eh ab=>?_
 refine L0<|bE aV (xs:=((L++[6])++(aE ([(M.recs.getD k ⟨0,0,0,[]⟩).file,(M.recs.getD k ⟨0,0,0,[]⟩).record,(M.recs.getD k ⟨0,0,0,[]⟩).count])))) (ys:=(aE ((M.recs.getD k ⟨0,0,0,[]⟩).words))) (.int .u8 0) 1 (aq bb ab (fun x hx=>aA) (fun _ _ h=>h)) (cv).rd (by(try simp only[List.length_append,List.length_cons,List.length_nil,ay]);omega) (le (le (le (le (le (le (le (le (le (le g.size f) b.size) c.size) d.size) v.size) r.size) y.size) z.size) a9.size) ab.size) fun cw cx ei cy bd=>Pl 1<|nl<|bn<|tn<|go<|L0<|Oi (((k:Nat) : Int)+1)<|Pl 1<|nl<|?_
 exact gM ((k+1),(((L++[6])++(aE ([(M.recs.getD k ⟨0,0,0,[]⟩).file,(M.recs.getD k ⟨0,0,0,[]⟩).record,(M.recs.getD k ⟨0,0,0,[]⟩).count])))++(aE ((M.recs.getD k ⟨0,0,0,[]⟩).words))),cw,cx) ⟨(ut C (ut (aF.mono (S':=(ob A++(ob a7++(ob ba++[])))) bc (al il (al il av))) (ut (aF.mono (S':=(ob ba++[])) ab av) bd (al il av)) (al il av)) (al (aM a lr) (al (aM ap lr) (al (aM bb lr) av)))),(le (le (le (le (le (le (le (le (le (le f b.size) c.size) d.size) v.size) r.size) y.size) z.size) a9.size) ab.size) bd.size),cy,(by(try dsimp only);omega),(by(try dsimp only);rw[← hL,dV dir M.code M.recs k (by omega)];simp only[hH,hd0,n,o,bs,if_true,if_false,decide_true,decide_false,List.append_assoc]),(by(try dsimp only);have hv:=hf.recw _ (dj ⟨0,0,0,[]⟩ M.recs k (by omega));(try simp only[List.length_append,List.length_cons,List.length_nil,ay]);omega),(by(try dsimp only);(try simp only[List.length_append,List.length_cons,List.length_nil]);omega)⟩ (by omega)
 have bL:=of_decide_eq_false n
 refine xt<|tx<|tx<|bx<|tn<|sg<|Pl 3<|L0<|Oi (((L.length:Nat) : Int)-1)<|Pl 1<|gf (bh.at_ (a).rd 0 (by omega)) fun ej ek bg el em=>L0<|lv L.length 0 bg (by omega)<|L0<|xl aV (j:=0) a bg (by omega) ((((L.length:Nat) : Int)-1)%256) (fun _=>⟨rfl,by omega⟩) fun eo cz cA=>nl<|?_
 refine tn<|sg<|Pl 2<|nt<|rt<|rr (.slice A L.length cp)<|?_
 have hk:k=M.recs.length:=by omega
 rw[hk,List.drop_length] at hL
 have hL2:[0]++cH dir M.code M.recs=L:=by rw[← hL];simp[cH]
 have hs:cO dir M=(L.set 0 ((((L.length:Nat) : Int)-1)%256)):=by unfold cO;rw[hL2]
 rw[hs]
 exact⟨_,rfl,(aW.weaken cz l.size),(ut ad cA (al (aM a l.size) av))⟩
theorem oh{m:Md}{cs:Array Value}{M:aQ}{w:World}{dir:Int}(h:aN m w cs.toList M)(hf:bM M)(hd0:(dir==0)=false) : Calls Tryz.prog 212 #[.int .i64 dir,.agg cs] w (fm (cO dir M) w):=by
 obtain⟨vw,vb,vd,vr,vo,h0,hw,hbt,hd,hr,ho,hR⟩:=h
 obtain rfl:cs=(bu M vw vb vd vr vo).toArray:=by apply Array.toList_inj.1;simpa using h0
 clear h0
 obtain⟨Aw,kw,rfl,_,_⟩:=hw.shape
 obtain⟨Ab,kb,rfl,_,_⟩:=hbt.shape
 obtain⟨Ad,kd,rfl,_,_⟩:=hd.shape
 obtain⟨Ar,kr,rfl,_,_⟩:=hr.shape
 obtain⟨Ao,ko,rfl,_,_⟩:=ho.shape
 obtain⟨q0,q1,q2,q3,q4,q5,q6,q7,q8,q9,bi,bm,bo,bq,br,bt,bv⟩:=hR
 simp only[B8,dB] at q0 q1 q2 q3 q4 q5 q6 q7 q8 q9 bi bm bo bq br bt bv
 have hf1:=hf.words
 have hf2:=hf.bits
 have hf3:=hf.data
 have hf4:=hf.recs
 have hf5:=hf.objects
 refine en 58 Tryz.func212 rfl<|sg<|L0<|dv (mG M.code M.fail M.addr M.count M.value M.and_ M.or_ M.addr2 M.sub M.status M.events M.messages (.slice Aw M.words.length kw) (.slice Ab M.bits.length kb) (.slice Ad M.data.length kd) (.slice Ar M.recs.length kr) M.mei M.kind M.level M.more M.next (.slice Ao M.objects.length ko)) fun ar ac cB au l=>Pl 1<|ng<|L0<|cK (m:=1) (e:=5) #[.int .u8 0] fun bw bz bA bB g=>?_
 have bC:=cN bA (xs:=[0]) (by as_aux_lemma=>kernel_rfl) (am (by omega) aJ) (by(try simp only[List.length_cons,List.length_nil]);omega) bB
 refine Pl 1<|nt<|sq<|sg<|Pl 1<|?_
 refine L0<|aP (ub g au) 15<|Pl 2<|nt<|bk<|?_
 refine js (fun x=>[(0,.int .i64 dir),(3,.pointer (some ⟨ar,0,none⟩)),(4,.slice none 0 0),(5,.slice x.2.2.1 x.2.1.length x.2.2.2),(10,.slice Ar M.recs.length kr),(11,.int .i64 ((M.recs.length:Nat) : Int)),(12,.int .i64 ((x.1:Nat) : Int))]) (fun(x:Nat × List Int × Option Addr × Nat) w'=>aF [] ac w'∧bz.heap.size≤w'.heap.size∧eI ac.heap.size w' (.slice x.2.2.1 x.2.1.length x.2.2.2) x.2.1∧(x.1≤M.recs.length)∧(x.2.1++cH dir M.code (M.recs.drop x.1)=([0])++cH dir M.code M.recs)∧(x.2.1.length≤16+x.1*2060)∧(1≤x.2.1.length)) (fun x=>M.recs.length-x.1) (0,[0],some ⟨bw,0,none⟩,1) ⟨g,lr,bC,(by(try dsimp only);omega),rfl,(by(try dsimp only);(try simp only[List.length_cons,List.length_nil]);omega),(by(try dsimp only);(try simp only[List.length_cons,List.length_nil]);omega)⟩ ?_
 rintro⟨k,L,A,cp⟩ bD ⟨aw,f,bG,bH,bI,bJ,bK⟩
 refine ju [(0,.int .i64 dir),(3,.pointer (some ⟨ar,0,none⟩)),(4,.slice none 0 0),(5,.slice A L.length cp),(10,.slice Ar M.recs.length kr),(11,.int .i64 ((M.recs.length:Nat) : Int)),(12,.int .i64 ((k:Nat) : Int))] ?_
 have a:eI ac.heap.size bD (.slice A L.length cp) L:=bG
 have cC:k≤M.recs.length:=bH
 have cD:L++cH dir M.code (M.recs.drop k)=([0])++cH dir M.code M.recs:=bI
 have cE:L.length≤16+k*2060:=bJ
 have cF:1≤L.length:=bK
 have hL:L++cH dir M.code (M.recs.drop k)=([0])++cH dir M.code M.recs:=by assumption
 have hv0:=fun(h:k<M.recs.length)=>hf.recw _ (dj ⟨0,0,0,[]⟩ M.recs k h)
 refine sg<|Pl 1<|nt<|sq<|?_
 have ad:=aG l aw
 refine cb ((decide (((k:Nat) : Int)<((M.recs.length:Nat) : Int)))) (fun n=>?_) (fun n=>?_)
 have bL:=of_decide_eq_true n
 refine bp<|sq<|bk<|sg<|jh (kZ.elt hr k (by omega)) fun cG cI cJ cL cM ax az bN bP Q cP bQ=>L0<|nf 4 M.recs.length k bN (by omega)<|?_
 refine L0<|xe [.int .u16 ((M.recs.getD k ⟨0,0,0,[]⟩).file),.int .u16 ((M.recs.getD k ⟨0,0,0,[]⟩).record),.int .u16 ((M.recs.getD k ⟨0,0,0,[]⟩).count),.slice ax ((M.recs.getD k ⟨0,0,0,[]⟩).words.length) az] (ub ad bP) bQ<|L0<|bO #[.int .u16 0,.int .u16 0,.int .u16 0,.slice none 0 0] fun af cQ B bR b=>L0<|be bR #[.int .u16 ((M.recs.getD k ⟨0,0,0,[]⟩).file),.int .u16 ((M.recs.getD k ⟨0,0,0,[]⟩).record),.int .u16 ((M.recs.getD k ⟨0,0,0,[]⟩).count),.slice ax ((M.recs.getD k ⟨0,0,0,[]⟩).words.length) az] fun cR ag c=>nt<|sq<|bk<|sg<|Pl 1<|?_
 have s:=ud b c B
 have C:=aG aw s
 refine L0<|aP (ub C au) 0<|Pl 2<|cu 3 [32] 35 (((M.code==20)&&(dir==1))) (fun K aB=>?_) ?_
 refine bl 32 ((M.code==20)) (fun D=>?_) (fun D=>?_)
 have bS:=ae D
 exact Pl 3<|ce aB (dir==1) (by rw[D];rfl)
 have bS:=ak D
 exact Pl 3<|ce aB false (by rw[D];rfl)
 refine Pl 1<|nt<|?_
 have R:=aG ad s
 refine cb (((M.code==20)&&(dir==1))) (fun o=>?_) (fun o=>?_)
 have aC:=(aZ o).1
 have aD:=(aZ o).2
 have cS:=ae aC
 have cT:=ae aD
 refine go<|Pl 2<|L0<|aP ag 3<|Pl 1<|L0<|Oi (2*(((M.recs.getD k ⟨0,0,0,[]⟩).words.length:Nat) : Int))<|L0<|Oi (1+(2*(((M.recs.getD k ⟨0,0,0,[]⟩).words.length:Nat) : Int)))<|Pl 1<|L0<|cK (m:=2) (e:=5) #[.int .u8 ((1+(2*(((M.recs.getD k ⟨0,0,0,[]⟩).words.length:Nat) : Int)))%256),.int .u8 6] fun cU cV bT bU E=>?_
 have bV:=cN bT (xs:=[((1+(2*(((M.recs.getD k ⟨0,0,0,[]⟩).words.length:Nat) : Int)))%256),6]) (by as_aux_lemma=>kernel_rfl) (am (by omega) (am (by omega) aJ)) (by(try simp only[List.length_cons,List.length_nil]);omega) bU
 refine L0<|bE aV (xs:=L) (ys:=([((1+(2*(((M.recs.getD k ⟨0,0,0,[]⟩).words.length:Nat) : Int)))%256),6])) (.int .u8 0) 1 (aq a (aG s E) (fun x hx=>aA) (fun _ _ h=>h)) (bV).rd (by(try simp only[List.length_append,List.length_cons,List.length_nil,ay]);omega) (le (le (le (le g.size f) b.size) c.size) E.size) fun aH cW cX aI ai=>Pl 1<|nl<|bn<|tn<|go<|Pl 2<|?_
 have aj:=ut (aF.mono (S':=(ob A++[])) E av) ai (al il av)
 refine L0<|aP (aF.blk aj (bf (dT a lr B) aA) ag) 3<|?_
 refine L0<|Oc<|di (bF (xs:=(M.recs.getD k ⟨0,0,0,[]⟩).words) (dP.old Q (ut R aj (al (aM a l.size) av))) (by(try simp only[List.length_cons,List.length_nil]);omega)) fun cY cZ d0 bW d1 d2 S=>?_
 refine L0<|bE aV (xs:=(L++[((1+(2*(((M.recs.getD k ⟨0,0,0,[]⟩).words.length:Nat) : Int)))%256),6])) (ys:=(aE ((M.recs.getD k ⟨0,0,0,[]⟩).words))) (.int .u8 0) 1 (aq aI S (fun x hx=>aA) (fun _ _ h=>h)) (bW).rd (by(try simp only[List.length_append,List.length_cons,List.length_nil,ay]);omega) (le (le (le (le (le (le g.size f) b.size) c.size) E.size) ai.size) S.size) fun bX bY d3 bZ aK=>Pl 1<|nl<|bn<|tn<|go<|L0<|Oi (((k:Nat) : Int)+1)<|Pl 1<|nl<|?_
 exact gM ((k+1),((L++[((1+(2*(((M.recs.getD k ⟨0,0,0,[]⟩).words.length:Nat) : Int)))%256),6])++(aE ((M.recs.getD k ⟨0,0,0,[]⟩).words))),bX,bY) ⟨(ut C (ut (aF.mono (S':=(ob A++(ob aH++[]))) aj (al il av)) (ut (aF.mono (S':=(ob aH++[])) S av) aK (al il av)) (al il av)) (al (aM a lr) (al (aM aI lr) av))),(le (le (le (le (le (le f b.size) c.size) E.size) ai.size) S.size) aK.size),bZ,(by(try dsimp only);omega),(by(try dsimp only);rw[← hL,dV dir M.code M.recs k (by omega)];simp only[hH,hd0,n,o,aC,aD,bs,if_true,if_false,decide_true,decide_false,List.append_assoc]),(by(try dsimp only);have hv:=hf.recw _ (dj ⟨0,0,0,[]⟩ M.recs k (by omega));(try simp only[List.length_append,List.length_cons,List.length_nil,ay]);omega),(by(try dsimp only);(try simp only[List.length_append,List.length_cons,List.length_nil]);omega)⟩ (by omega)
 refine Rg 13 (fun w'=>w'.cell? ⟨af,0,none⟩=some (.int .u16 ((M.recs.getD k ⟨0,0,0,[]⟩).file))∧w'.cell? ⟨af,1,none⟩=some (.int .u16 ((M.recs.getD k ⟨0,0,0,[]⟩).record))∧w'.cell? ⟨af,2,none⟩=some (.int .u16 ((M.recs.getD k ⟨0,0,0,[]⟩).count))) fun d4 d=>?_
 have F:=ub d ag
 refine bj ⟨(ah F rfl),(ah F rfl),(ah F rfl)⟩ fun p=>Rt 0 p<|Rt 3 p<|Rl 4 p (fun _ hs=>hs.1)<|Rt 5 p<|Rl 6 p (fun _ hs=>hs.2.1)<|Rt 7 p<|Rl 8 p (fun _ hs=>hs.2.2)<|?_
 refine R2 1 9 rfl rfl ?_ ?_
 refine  cK (m:=1) (e:=5) #[.int .u8 6] fun d5 d6 c0 c1 i=>?_
 have aL:=cN c0 (xs:=[6]) (by as_aux_lemma=>kernel_rfl) (am (by omega) aJ) (by(try simp only[List.length_cons,List.length_nil]);omega) c1
 have G:=ub i F
 refine bj ⟨(ah G rfl),(ah G rfl),(ah G rfl)⟩ fun d7=>?_
 refine R2 2 9 rfl rfl ?_ ?_
 have aO:=aG d i
 refine  bE aV (xs:=L) (ys:=([6])) (.int .u8 0) 1 (aq a (aG s aO) (fun x hx=>aA) (fun _ _ h=>h)) (aL).rd (by(try simp only[List.length_append,List.length_cons,List.length_nil,ay]);omega) (le (le (le (le (le g.size f) b.size) c.size) d.size) i.size) fun T d8 d9 an H=>?_
 have U:=aF.blk H (bf (dT a lr B) aA) G
 refine bj ⟨(ah U rfl),(ah U rfl),(ah U rfl)⟩ fun da=>R0 9 rfl<|cK (m:=3) (e:=24) #[.int .u16 ((M.recs.getD k ⟨0,0,0,[]⟩).file),.int .u16 ((M.recs.getD k ⟨0,0,0,[]⟩).record),.int .u16 ((M.recs.getD k ⟨0,0,0,[]⟩).count)] fun db dd c2 c3 I=>?_
 have c4:=dc c2 (xs:=[(M.recs.getD k ⟨0,0,0,[]⟩).file,(M.recs.getD k ⟨0,0,0,[]⟩).record,(M.recs.getD k ⟨0,0,0,[]⟩).count]) (by as_aux_lemma=>kernel_rfl) (am (by omega) (am (by omega) (am (by omega) aJ))) (by(try simp only[List.length_cons,List.length_nil]);omega) c3
 have V:=ub I U
 refine bj ⟨(ah V rfl),(ah V rfl),(ah V rfl)⟩ fun de=>R0 10 rfl<|Oc<|di (bF (xs:=[(M.recs.getD k ⟨0,0,0,[]⟩).file,(M.recs.getD k ⟨0,0,0,[]⟩).record,(M.recs.getD k ⟨0,0,0,[]⟩).count]) (c4).rd (by(try simp only[List.length_cons,List.length_nil]);omega)) fun df dg dh c5 dk dl J=>?_
 have N:=ub J V
 refine bj ⟨(ah N rfl),(ah N rfl),(ah N rfl)⟩ fun dm=>?_
 have aR:=aG I J
 have aS:=aq an aR (fun x hx=>aA) (fun _ _ h=>h)
 refine R0 11 rfl<|bE aV (xs:=(L++[6])) (ys:=(aE ([(M.recs.getD k ⟨0,0,0,[]⟩).file,(M.recs.getD k ⟨0,0,0,[]⟩).record,(M.recs.getD k ⟨0,0,0,[]⟩).count]))) (.int .u8 0) 1 aS (c5).rd (by(try simp only[List.length_append,List.length_cons,List.length_nil,ay]);omega) (le (le (le (le (le (le (le (le g.size f) b.size) c.size) d.size) i.size) H.size) I.size) J.size) fun aT dn dp aU W=>?_
 have X:=aF.blk W (bf (dI N aS (by decide)) aA) N
 refine bj ⟨(ah X rfl),(ah X rfl),(ah X rfl)⟩ fun c6=>Rt 12 c6<|re<|bn<|tn<|go<|Pl 2<|L0<|aP X 3<|?_
 have aX:=ut (aF.mono (S':=(ob A++(ob T++[]))) aO av) (ut (aF.mono (S':=(ob A++(ob T++[]))) H (al il av)) (ut (aF.mono (S':=(ob T++[])) aR av) W (al il av)) (al il av)) (al il (al il av))
 refine L0<|Oc<|di (bF (xs:=(M.recs.getD k ⟨0,0,0,[]⟩).words) (dP.old Q (ut R aX (al (aM a l.size) (al (aM an l.size) av)))) (by(try simp only[List.length_cons,List.length_nil]);omega)) fun dq dr ds c7 dt du Y=>?_
 refine L0<|bE aV (xs:=((L++[6])++(aE ([(M.recs.getD k ⟨0,0,0,[]⟩).file,(M.recs.getD k ⟨0,0,0,[]⟩).record,(M.recs.getD k ⟨0,0,0,[]⟩).count])))) (ys:=(aE ((M.recs.getD k ⟨0,0,0,[]⟩).words))) (.int .u8 0) 1 (aq aU Y (fun x hx=>aA) (fun _ _ h=>h)) (c7).rd (by(try simp only[List.length_append,List.length_cons,List.length_nil,ay]);omega) (le (le (le (le (le (le (le (le (le (le g.size f) b.size) c.size) d.size) i.size) H.size) I.size) J.size) W.size) Y.size) fun c8 c9 dw ca aY=>Pl 1<|nl<|bn<|tn<|go<|L0<|Oi (((k:Nat) : Int)+1)<|Pl 1<|nl<|?_
 exact gM ((k+1),(((L++[6])++(aE ([(M.recs.getD k ⟨0,0,0,[]⟩).file,(M.recs.getD k ⟨0,0,0,[]⟩).record,(M.recs.getD k ⟨0,0,0,[]⟩).count])))++(aE ((M.recs.getD k ⟨0,0,0,[]⟩).words))),c8,c9) ⟨(ut C (ut (aF.mono (S':=(ob A++(ob T++(ob aT++[])))) aX (al il (al il av))) (ut (aF.mono (S':=(ob aT++[])) Y av) aY (al il av)) (al il av)) (al (aM a lr) (al (aM an lr) (al (aM aU lr) av)))),(le (le (le (le (le (le (le (le (le (le f b.size) c.size) d.size) i.size) H.size) I.size) J.size) W.size) Y.size) aY.size),ca,(by(try dsimp only);omega),(by(try dsimp only);rw[← hL,dV dir M.code M.recs k (by omega)];simp only[hH,hd0,n,o,bs,if_true,if_false,decide_true,decide_false,List.append_assoc]),(by(try dsimp only);have hv:=hf.recw _ (dj ⟨0,0,0,[]⟩ M.recs k (by omega));(try simp only[List.length_append,List.length_cons,List.length_nil,ay]);omega),(by(try dsimp only);(try simp only[List.length_append,List.length_cons,List.length_nil]);omega)⟩ (by omega)
 refine  cK (m:=3) (e:=24) #[.int .u16 ((M.recs.getD k ⟨0,0,0,[]⟩).file),.int .u16 ((M.recs.getD k ⟨0,0,0,[]⟩).record),.int .u16 ((M.recs.getD k ⟨0,0,0,[]⟩).count)] fun dx dy cc cd q=>?_
 have b0:=dc cc (xs:=[(M.recs.getD k ⟨0,0,0,[]⟩).file,(M.recs.getD k ⟨0,0,0,[]⟩).record,(M.recs.getD k ⟨0,0,0,[]⟩).count]) (by as_aux_lemma=>kernel_rfl) (am (by omega) (am (by omega) (am (by omega) aJ))) (by(try simp only[List.length_cons,List.length_nil]);omega) cd
 have Z:=ub q G
 refine bj ⟨(ah Z rfl),(ah Z rfl),(ah Z rfl)⟩ fun dz=>?_
 have b1:=aG d (aG i q)
 refine R0 2 rfl<|bE aV (xs:=L) (ys:=([6])) (.int .u8 0) 1 (aq a (aG s b1) (fun x hx=>aA) (fun _ _ h=>h)) ((aq aL q (fun x hx=>aA) (fun _ _ h=>h))).rd (by(try simp only[List.length_append,List.length_cons,List.length_nil,ay]);omega) (le (le (le (le (le (le g.size f) b.size) c.size) d.size) i.size) q.size) fun a0 dA dC ao t=>?_
 have a1:=aF.blk t (bf (dT a lr B) aA) Z
 refine bj ⟨(ah a1 rfl),(ah a1 rfl),(ah a1 rfl)⟩ fun dD=>?_
 refine R0 10 rfl<|Oc<|di (bF (xs:=[(M.recs.getD k ⟨0,0,0,[]⟩).file,(M.recs.getD k ⟨0,0,0,[]⟩).record,(M.recs.getD k ⟨0,0,0,[]⟩).count]) ((aq b0 t (fun x hx=>(bf ((fF b0 a (le (le (le b.size c.size) d.size) i.size)) x hx) aA)) (fun _ _ h=>h))).rd (by(try simp only[List.length_cons,List.length_nil]);omega)) fun dE dF dG cf dH dJ u=>?_
 have O:=ub u a1
 refine bj ⟨(ah O rfl),(ah O rfl),(ah O rfl)⟩ fun dK=>?_
 have b2:=aq ao u (fun x hx=>aA) (fun _ _ h=>h)
 refine R0 11 rfl<|bE aV (xs:=(L++[6])) (ys:=(aE ([(M.recs.getD k ⟨0,0,0,[]⟩).file,(M.recs.getD k ⟨0,0,0,[]⟩).record,(M.recs.getD k ⟨0,0,0,[]⟩).count]))) (.int .u8 0) 1 b2 (cf).rd (by(try simp only[List.length_append,List.length_cons,List.length_nil,ay]);omega) (le (le (le (le (le (le (le (le g.size f) b.size) c.size) d.size) i.size) q.size) t.size) u.size) fun b3 dL dM b4 a2=>?_
 have a3:=aF.blk a2 (bf (dI O b2 (by decide)) aA) O
 refine bj ⟨(ah a3 rfl),(ah a3 rfl),(ah a3 rfl)⟩ fun cg=>Rt 12 cg<|re<|bn<|tn<|go<|Pl 2<|L0<|aP a3 3<|?_
 have b5:=ut (aF.mono (S':=(ob A++(ob a0++[]))) b1 av) (ut (aF.mono (S':=(ob A++(ob a0++[]))) t (al il av)) (ut (aF.mono (S':=(ob a0++[])) u av) a2 (al il av)) (al il av)) (al il (al il av))
 refine L0<|Oc<|di (bF (xs:=(M.recs.getD k ⟨0,0,0,[]⟩).words) (dP.old Q (ut R b5 (al (aM a l.size) (al (aM ao l.size) av)))) (by(try simp only[List.length_cons,List.length_nil]);omega)) fun dN dO dQ ch dR dS a4=>?_
 refine L0<|bE aV (xs:=((L++[6])++(aE ([(M.recs.getD k ⟨0,0,0,[]⟩).file,(M.recs.getD k ⟨0,0,0,[]⟩).record,(M.recs.getD k ⟨0,0,0,[]⟩).count])))) (ys:=(aE ((M.recs.getD k ⟨0,0,0,[]⟩).words))) (.int .u8 0) 1 (aq b4 a4 (fun x hx=>aA) (fun _ _ h=>h)) (ch).rd (by(try simp only[List.length_append,List.length_cons,List.length_nil,ay]);omega) (le (le (le (le (le (le (le (le (le (le g.size f) b.size) c.size) d.size) i.size) q.size) t.size) u.size) a2.size) a4.size) fun ci cj dU ck b6=>Pl 1<|nl<|bn<|tn<|go<|L0<|Oi (((k:Nat) : Int)+1)<|Pl 1<|nl<|?_
 exact gM ((k+1),(((L++[6])++(aE ([(M.recs.getD k ⟨0,0,0,[]⟩).file,(M.recs.getD k ⟨0,0,0,[]⟩).record,(M.recs.getD k ⟨0,0,0,[]⟩).count])))++(aE ((M.recs.getD k ⟨0,0,0,[]⟩).words))),ci,cj) ⟨(ut C (ut (aF.mono (S':=(ob A++(ob a0++(ob b3++[])))) b5 (al il (al il av))) (ut (aF.mono (S':=(ob b3++[])) a4 av) b6 (al il av)) (al il av)) (al (aM a lr) (al (aM ao lr) (al (aM b4 lr) av)))),(le (le (le (le (le (le (le (le (le (le f b.size) c.size) d.size) i.size) q.size) t.size) u.size) a2.size) a4.size) b6.size),ck,(by(try dsimp only);omega),(by(try dsimp only);rw[← hL,dV dir M.code M.recs k (by omega)];simp only[hH,hd0,n,o,bs,if_true,if_false,decide_true,decide_false,List.append_assoc]),(by(try dsimp only);have hv:=hf.recw _ (dj ⟨0,0,0,[]⟩ M.recs k (by omega));(try simp only[List.length_append,List.length_cons,List.length_nil,ay]);omega),(by(try dsimp only);(try simp only[List.length_append,List.length_cons,List.length_nil]);omega)⟩ (by omega)
 refine  cK (m:=3) (e:=24) #[.int .u16 ((M.recs.getD k ⟨0,0,0,[]⟩).file),.int .u16 ((M.recs.getD k ⟨0,0,0,[]⟩).record),.int .u16 ((M.recs.getD k ⟨0,0,0,[]⟩).count)] fun dW dX cl cm v=>?_
 have b7:=dc cl (xs:=[(M.recs.getD k ⟨0,0,0,[]⟩).file,(M.recs.getD k ⟨0,0,0,[]⟩).record,(M.recs.getD k ⟨0,0,0,[]⟩).count]) (by as_aux_lemma=>kernel_rfl) (am (by omega) (am (by omega) (am (by omega) aJ))) (by(try simp only[List.length_cons,List.length_nil]);omega) cm
 have a5:=ub v F
 refine bj ⟨(ah a5 rfl),(ah a5 rfl),(ah a5 rfl)⟩ fun dY=>R0 1 rfl<|cK (m:=1) (e:=5) #[.int .u8 6] fun dZ e0 cn co r=>?_
 have cq:=cN cn (xs:=[6]) (by as_aux_lemma=>kernel_rfl) (am (by omega) aJ) (by(try simp only[List.length_cons,List.length_nil]);omega) co
 have a6:=ub r a5
 refine bj ⟨(ah a6 rfl),(ah a6 rfl),(ah a6 rfl)⟩ fun e1=>?_
 have b8:=aG d (aG v r)
 refine R0 2 rfl<|bE aV (xs:=L) (ys:=([6])) (.int .u8 0) 1 (aq a (aG s b8) (fun x hx=>aA) (fun _ _ h=>h)) (cq).rd (by(try simp only[List.length_append,List.length_cons,List.length_nil,ay]);omega) (le (le (le (le (le (le g.size f) b.size) c.size) d.size) v.size) r.size) fun a7 e2 e3 ap y=>?_
 have a8:=aF.blk y (bf (dT a lr B) aA) a6
 refine bj ⟨(ah a8 rfl),(ah a8 rfl),(ah a8 rfl)⟩ fun e4=>?_
 refine R0 10 rfl<|Oc<|di (bF (xs:=[(M.recs.getD k ⟨0,0,0,[]⟩).file,(M.recs.getD k ⟨0,0,0,[]⟩).record,(M.recs.getD k ⟨0,0,0,[]⟩).count]) ((aq b7 (ut (aF.mono (S':=(ob A++[])) r av) y (al il av)) (fun x hx=>(bf ((fF b7 a (le (le b.size c.size) d.size)) x hx) aA)) (fun _ _ h=>h))).rd (by(try simp only[List.length_cons,List.length_nil]);omega)) fun e5 e6 e7 cr e8 e9 z=>?_
 have P:=ub z a8
 refine bj ⟨(ah P rfl),(ah P rfl),(ah P rfl)⟩ fun ea=>?_
 have b9:=aq ap z (fun x hx=>aA) (fun _ _ h=>h)
 refine R0 11 rfl<|bE aV (xs:=(L++[6])) (ys:=(aE ([(M.recs.getD k ⟨0,0,0,[]⟩).file,(M.recs.getD k ⟨0,0,0,[]⟩).record,(M.recs.getD k ⟨0,0,0,[]⟩).count]))) (.int .u8 0) 1 b9 (cr).rd (by(try simp only[List.length_append,List.length_cons,List.length_nil,ay]);omega) (le (le (le (le (le (le (le (le g.size f) b.size) c.size) d.size) v.size) r.size) y.size) z.size) fun ba eb ec bb a9=>?_
 have aa:=aF.blk a9 (bf (dI P b9 (by decide)) aA) P
 refine bj ⟨(ah aa rfl),(ah aa rfl),(ah aa rfl)⟩ fun ct=>Rt 12 ct<|re<|bn<|tn<|go<|Pl 2<|L0<|aP aa 3<|?_
 have bc:=ut (aF.mono (S':=(ob A++(ob a7++[]))) b8 av) (ut (aF.mono (S':=(ob A++(ob a7++[]))) y (al il av)) (ut (aF.mono (S':=(ob a7++[])) z av) a9 (al il av)) (al il av)) (al il (al il av))
 refine L0<|Oc<|di (bF (xs:=(M.recs.getD k ⟨0,0,0,[]⟩).words) (dP.old Q (ut R bc (al (aM a l.size) (al (aM ap l.size) av)))) (by(try simp only[List.length_cons,List.length_nil]);omega)) fun ed ee ef cv eg eh ab=>?_
 refine L0<|bE aV (xs:=((L++[6])++(aE ([(M.recs.getD k ⟨0,0,0,[]⟩).file,(M.recs.getD k ⟨0,0,0,[]⟩).record,(M.recs.getD k ⟨0,0,0,[]⟩).count])))) (ys:=(aE ((M.recs.getD k ⟨0,0,0,[]⟩).words))) (.int .u8 0) 1 (aq bb ab (fun x hx=>aA) (fun _ _ h=>h)) (cv).rd (by(try simp only[List.length_append,List.length_cons,List.length_nil,ay]);omega) (le (le (le (le (le (le (le (le (le (le g.size f) b.size) c.size) d.size) v.size) r.size) y.size) z.size) a9.size) ab.size) fun cw cx ei cy bd=>Pl 1<|nl<|bn<|tn<|go<|L0<|Oi (((k:Nat) : Int)+1)<|Pl 1<|nl<|?_
 exact gM ((k+1),(((L++[6])++(aE ([(M.recs.getD k ⟨0,0,0,[]⟩).file,(M.recs.getD k ⟨0,0,0,[]⟩).record,(M.recs.getD k ⟨0,0,0,[]⟩).count])))++(aE ((M.recs.getD k ⟨0,0,0,[]⟩).words))),cw,cx) ⟨(ut C (ut (aF.mono (S':=(ob A++(ob a7++(ob ba++[])))) bc (al il (al il av))) (ut (aF.mono (S':=(ob ba++[])) ab av) bd (al il av)) (al il av)) (al (aM a lr) (al (aM ap lr) (al (aM bb lr) av)))),(le (le (le (le (le (le (le (le (le (le f b.size) c.size) d.size) v.size) r.size) y.size) z.size) a9.size) ab.size) bd.size),cy,(by(try dsimp only);omega),(by(try dsimp only);rw[← hL,dV dir M.code M.recs k (by omega)];simp only[hH,hd0,n,o,bs,if_true,if_false,decide_true,decide_false,List.append_assoc]),(by(try dsimp only);have hv:=hf.recw _ (dj ⟨0,0,0,[]⟩ M.recs k (by omega));(try simp only[List.length_append,List.length_cons,List.length_nil,ay]);omega),(by(try dsimp only);(try simp only[List.length_append,List.length_cons,List.length_nil]);omega)⟩ (by omega)
 have bL:=of_decide_eq_false n
 refine xt<|tx<|tx<|bx<|tn<|sg<|Pl 3<|L0<|Oi (((L.length:Nat) : Int)-1)<|Pl 1<|gf (bh.at_ (a).rd 0 (by omega)) fun ej ek bg el em=>L0<|lv L.length 0 bg (by omega)<|L0<|xl aV (j:=0) a bg (by omega) ((((L.length:Nat) : Int)-1)%256) (fun _=>⟨rfl,by omega⟩) fun eo cz cA=>nl<|?_
 refine tn<|sg<|Pl 2<|nt<|rt<|rr (.slice A L.length cp)<|?_
 have hk:k=M.recs.length:=by omega
 rw[hk,List.drop_length] at hL
 have hL2:[0]++cH dir M.code M.recs=L:=by rw[← hL];simp[cH]
 have hs:cO dir M=(L.set 0 ((((L.length:Nat) : Int)-1)%256)):=by unfold cO;rw[hL2]
 rw[hs]
 exact⟨_,rfl,(aW.weaken cz l.size),(ut ad cA (al (aM a l.size) av))⟩
theorem sb{m:Md}{cs:Array Value}{M:aQ}{w:World}{dir:Int}(h:aN m w cs.toList M)(hf:bM M) : Calls Tryz.prog 212 #[.int .i64 dir,.agg cs] w (fm (cO dir M) w):=by
  rcases dU (dir==0) with h0|h0
  · exact o6 h hf h0
  · exact oh h hf h0
open Go.RowKit
theorem j0{parse:Int→Int→List Int→aQ × Int}{lay:Int→aQ→List Int}{dir E:Int}{M X:aQ}(hX:parse dir M.code (lay dir M)=(X,E))(hE:(E != 0)=true) : bo parse lay dir M=none:=by
  unfold bo
  rw[hX,if_neg]
  intro h
  injection h with h1 h2
  rw[h2] at hE
  cases hE
theorem j5{parse:Int→Int→List Int→aQ × Int}{lay:Int→aQ→List Int}{dir E:Int}{M X:aQ}(hX:parse dir M.code (lay dir M)=(X,E))(hE:decide (X=M)=false) : bo parse lay dir M=none:=by
  unfold bo
  rw[hX,if_neg]
  intro h
  injection h with h1 h2
  rw[h1] at hE
  simp at hE
theorem i1{parse:Int→Int→List Int→aQ × Int}{lay:Int→aQ→List Int}{dir E:Int}{M X:aQ}(hX:parse dir M.code (lay dir M)=(X,E))(hE:(E != 0)=false)(h:decide (X=M)=true) : bo parse lay dir M=some (lay dir M):=by
  unfold bo
  have h1:X=M:=by simpa using h
  have h2:E=0:=by simpa using hE
  rw[hX,h1,h2,if_pos rfl]
theorem cQ{x y:Option (List Int)}(h:x=y){w:World}{e:Ending}{w':World}(k:dG y w e w') : dG x w e w':=by rw[h];exact k
theorem jE{m:Md}{cs:Array Value}{M:aQ}{w:World}{dir:Int}(h:aN m w cs.toList M)(hf:bM M)(hlen:(bQ dir M).length≤1048576) : Calls Tryz.prog 139 #[.int .i64 dir,.agg cs] w (dG (bo fN bQ dir M) w):=by
 have hM:=h
 obtain⟨vw,vb,vd,vr,vo,h0,hw,hbt,hd,hr,ho,hR⟩:=h
 obtain rfl:cs=(bu M vw vb vd vr vo).toArray:=by apply Array.toList_inj.1;simpa using h0
 clear h0
 obtain⟨Aw,kw,rfl,_,_⟩:=hw.shape
 obtain⟨Ab,kb,rfl,_,_⟩:=hbt.shape
 obtain⟨Ad,kd,rfl,_,_⟩:=hd.shape
 obtain⟨Ar,kr,rfl,_,_⟩:=hr.shape
 obtain⟨Ao,ko,rfl,_,_⟩:=ho.shape
 obtain⟨q0,q1,q2,q3,q4,q5,q6,q7,q8,q9,y,z,C,D,E,F,G⟩:=hR
 simp only[B8,dB] at q0 q1 q2 q3 q4 q5 q6 q7 q8 q9 y z C D E F G
 refine en 29 Tryz.func139 rfl<|sg<|L0<|dv (mG M.code M.fail M.addr M.count M.value M.and_ M.or_ M.addr2 M.sub M.status M.events M.messages (.slice Aw M.words.length kw) (.slice Ab M.bits.length kb) (.slice Ad M.data.length kd) (.slice Ar M.recs.length kr) M.mei M.kind M.level M.more M.next (.slice Ao M.objects.length ko)) fun V W X k g=>Pl 2<|ng<|Pl 1<|L0<|bS k<|?_
 have l:=aN.old hM g
 refine L0<|Oc<|di (rB (dir:=dir) l hf) fun H I J n Y Z o=>Pl 1<|ng<|Pl 2<|?_
 have p:=ub o k
 refine L0<|aP p 0<|Pl 1<|?_
 refine pr (fN dir M.code (bQ dir M)) fun e K f=>?_
 have q:Calls _ _ _ _ (eb (fN dir M.code (bQ dir M)) J):=jN (dir:=dir) (c:=M.code) q0 (n).rd hlen
 rw[f] at q
 refine L0<|Oc<|e2 (q) fun L a0 a N=>Pl 3<|L0<|bO mZ fun a1 a2 O P Q=>L0<|be (hz:=(by rw[a.size];exact aO)) (hv:=a.size) (h1:=a.one) P (L) fun a3 R S=>Pl 1<|nt<|sq<|sg<|Pl 3<|?_
 have r:=ud Q S O
 have i:=aG N r
 have s:=aG o i
 have t:=aG g s
 refine bl 22 ((K != 0)) (fun b=>?_) (fun b=>?_)
 have T:=az b
 refine Pl 5<|nt<|c1<|sg<|Pl 2<|nt<|rt<|tr<|rr (.tuple #[.slice none 0 0,.int .i64 1])<|?_
 refine cQ (j0 f b) ?_
 exact⟨rfl,t⟩
 have T:=ai b
 refine L1<|bS (hz:=(by rw[a.size];exact aO)) R<|?_
 refine L1<|bS (ub i p)<|?_
 refine L1<|Oc<|m1 (gC (A:=e) (B:=M) (aN.upd a r aK) (aN.old l s)) fun a4 u=>Pl 2<|nt<|?_
 have v:=aG t u
 refine cb ((!(decide (e=M)))) (fun j=>?_) (fun j=>?_)
 have d:(decide (e=M))=false:=by simpa using j
 have U:=of_decide_eq_false d
 refine sg<|Pl 2<|nt<|rt<|tr<|rr (.tuple #[.slice none 0 0,.int .i64 1])<|?_
 refine cQ (j5 f d) ?_
 exact⟨rfl,v⟩
 have d:(decide (e=M))=true:=by simpa using j
 have U:=of_decide_eq_true d
 refine bp<|sg<|Pl 3<|nt<|rt<|rr (.tuple #[.slice H ((bQ dir M).length) I,.int .i64 0])<|?_
 refine cQ (i1 f b d) ?_
 exact⟨_,rfl,(aW.weaken (aq n (aG i u) (fun x hx=>aA) (fun _ _ h=>h)) g.size),v⟩
theorem la{m:Md}{cs:Array Value}{M:aQ}{w:World}{dir:Int}(h:aN m w cs.toList M)(hf:bM M)(hlen:(bK dir M).length≤1048576) : Calls Tryz.prog 141 #[.int .i64 dir,.agg cs] w (dG (bo gD bK dir M) w):=by
 have hM:=h
 obtain⟨vw,vb,vd,vr,vo,h0,hw,hbt,hd,hr,ho,hR⟩:=h
 obtain rfl:cs=(bu M vw vb vd vr vo).toArray:=by apply Array.toList_inj.1;simpa using h0
 clear h0
 obtain⟨Aw,kw,rfl,_,_⟩:=hw.shape
 obtain⟨Ab,kb,rfl,_,_⟩:=hbt.shape
 obtain⟨Ad,kd,rfl,_,_⟩:=hd.shape
 obtain⟨Ar,kr,rfl,_,_⟩:=hr.shape
 obtain⟨Ao,ko,rfl,_,_⟩:=ho.shape
 obtain⟨q0,q1,q2,q3,q4,q5,q6,q7,q8,q9,y,z,C,D,E,F,G⟩:=hR
 simp only[B8,dB] at q0 q1 q2 q3 q4 q5 q6 q7 q8 q9 y z C D E F G
 refine en 29 Tryz.func141 rfl<|sg<|L0<|dv (mG M.code M.fail M.addr M.count M.value M.and_ M.or_ M.addr2 M.sub M.status M.events M.messages (.slice Aw M.words.length kw) (.slice Ab M.bits.length kb) (.slice Ad M.data.length kd) (.slice Ar M.recs.length kr) M.mei M.kind M.level M.more M.next (.slice Ao M.objects.length ko)) fun V W X k g=>Pl 2<|ng<|Pl 1<|L0<|bS k<|?_
 have l:=aN.old hM g
 refine L0<|Oc<|di (tc (dir:=dir) l hf) fun H I J n Y Z o=>Pl 1<|ng<|Pl 2<|?_
 have p:=ub o k
 refine L0<|aP p 0<|Pl 1<|?_
 refine pr (gD dir M.code (bK dir M)) fun e K f=>?_
 have q:Calls _ _ _ _ (eb (gD dir M.code (bK dir M)) J):=lb (dir:=dir) (c:=M.code) q0 (n).rd hlen
 rw[f] at q
 refine L0<|Oc<|e2 (q) fun L a0 a N=>Pl 3<|L0<|bO mZ fun a1 a2 O P Q=>L0<|be (hz:=(by rw[a.size];exact aO)) (hv:=a.size) (h1:=a.one) P (L) fun a3 R S=>Pl 1<|nt<|sq<|sg<|Pl 3<|?_
 have r:=ud Q S O
 have i:=aG N r
 have s:=aG o i
 have t:=aG g s
 refine bl 22 ((K != 0)) (fun b=>?_) (fun b=>?_)
 have T:=az b
 refine Pl 5<|nt<|c1<|sg<|Pl 2<|nt<|rt<|tr<|rr (.tuple #[.slice none 0 0,.int .i64 1])<|?_
 refine cQ (j0 f b) ?_
 exact⟨rfl,t⟩
 have T:=ai b
 refine L1<|bS (hz:=(by rw[a.size];exact aO)) R<|?_
 refine L1<|bS (ub i p)<|?_
 refine L1<|Oc<|m1 (gC (A:=e) (B:=M) (aN.upd a r aK) (aN.old l s)) fun a4 u=>Pl 2<|nt<|?_
 have v:=aG t u
 refine cb ((!(decide (e=M)))) (fun j=>?_) (fun j=>?_)
 have d:(decide (e=M))=false:=by simpa using j
 have U:=of_decide_eq_false d
 refine sg<|Pl 2<|nt<|rt<|tr<|rr (.tuple #[.slice none 0 0,.int .i64 1])<|?_
 refine cQ (j5 f d) ?_
 exact⟨rfl,v⟩
 have d:(decide (e=M))=true:=by simpa using j
 have U:=of_decide_eq_true d
 refine bp<|sg<|Pl 3<|nt<|rt<|rr (.tuple #[.slice H ((bK dir M).length) I,.int .i64 0])<|?_
 refine cQ (i1 f b d) ?_
 exact⟨_,rfl,(aW.weaken (aq n (aG i u) (fun x hx=>aA) (fun _ _ h=>h)) g.size),v⟩
theorem kE{m:Md}{cs:Array Value}{M:aQ}{w:World}{dir:Int}(h:aN m w cs.toList M)(hf:bM M)(hlen:(bN dir M).length≤1048576) : Calls Tryz.prog 143 #[.int .i64 dir,.agg cs] w (dG (bo gB bN dir M) w):=by
 have hM:=h
 obtain⟨vw,vb,vd,vr,vo,h0,hw,hbt,hd,hr,ho,hR⟩:=h
 obtain rfl:cs=(bu M vw vb vd vr vo).toArray:=by apply Array.toList_inj.1;simpa using h0
 clear h0
 obtain⟨Aw,kw,rfl,_,_⟩:=hw.shape
 obtain⟨Ab,kb,rfl,_,_⟩:=hbt.shape
 obtain⟨Ad,kd,rfl,_,_⟩:=hd.shape
 obtain⟨Ar,kr,rfl,_,_⟩:=hr.shape
 obtain⟨Ao,ko,rfl,_,_⟩:=ho.shape
 obtain⟨q0,q1,q2,q3,q4,q5,q6,q7,q8,q9,y,z,C,D,E,F,G⟩:=hR
 simp only[B8,dB] at q0 q1 q2 q3 q4 q5 q6 q7 q8 q9 y z C D E F G
 refine en 29 Tryz.func143 rfl<|sg<|L0<|dv (mG M.code M.fail M.addr M.count M.value M.and_ M.or_ M.addr2 M.sub M.status M.events M.messages (.slice Aw M.words.length kw) (.slice Ab M.bits.length kb) (.slice Ad M.data.length kd) (.slice Ar M.recs.length kr) M.mei M.kind M.level M.more M.next (.slice Ao M.objects.length ko)) fun V W X k g=>Pl 2<|ng<|Pl 1<|L0<|bS k<|?_
 have l:=aN.old hM g
 refine L0<|Oc<|di (ta (dir:=dir) l hf) fun H I J n Y Z o=>Pl 1<|ng<|Pl 2<|?_
 have p:=ub o k
 refine L0<|aP p 0<|Pl 1<|?_
 refine pr (gB dir M.code (bN dir M)) fun e K f=>?_
 have q:Calls _ _ _ _ (eb (gB dir M.code (bN dir M)) J):=ky (dir:=dir) (c:=M.code) q0 (n).rd hlen
 rw[f] at q
 refine L0<|Oc<|e2 (q) fun L a0 a N=>Pl 3<|L0<|bO mZ fun a1 a2 O P Q=>L0<|be (hz:=(by rw[a.size];exact aO)) (hv:=a.size) (h1:=a.one) P (L) fun a3 R S=>Pl 1<|nt<|sq<|sg<|Pl 3<|?_
 have r:=ud Q S O
 have i:=aG N r
 have s:=aG o i
 have t:=aG g s
 refine bl 22 ((K != 0)) (fun b=>?_) (fun b=>?_)
 have T:=az b
 refine Pl 5<|nt<|c1<|sg<|Pl 2<|nt<|rt<|tr<|rr (.tuple #[.slice none 0 0,.int .i64 1])<|?_
 refine cQ (j0 f b) ?_
 exact⟨rfl,t⟩
 have T:=ai b
 refine L1<|bS (hz:=(by rw[a.size];exact aO)) R<|?_
 refine L1<|bS (ub i p)<|?_
 refine L1<|Oc<|m1 (gC (A:=e) (B:=M) (aN.upd a r aK) (aN.old l s)) fun a4 u=>Pl 2<|nt<|?_
 have v:=aG t u
 refine cb ((!(decide (e=M)))) (fun j=>?_) (fun j=>?_)
 have d:(decide (e=M))=false:=by simpa using j
 have U:=of_decide_eq_false d
 refine sg<|Pl 2<|nt<|rt<|tr<|rr (.tuple #[.slice none 0 0,.int .i64 1])<|?_
 refine cQ (j5 f d) ?_
 exact⟨rfl,v⟩
 have d:(decide (e=M))=true:=by simpa using j
 have U:=of_decide_eq_true d
 refine bp<|sg<|Pl 3<|nt<|rt<|rr (.tuple #[.slice H ((bN dir M).length) I,.int .i64 0])<|?_
 refine cQ (i1 f b d) ?_
 exact⟨_,rfl,(aW.weaken (aq n (aG i u) (fun x hx=>aA) (fun _ _ h=>h)) g.size),v⟩
theorem mz{m:Md}{cs:Array Value}{M:aQ}{w:World}{dir:Int}(h:aN m w cs.toList M)(hf:bM M)(hlen:(de dir M).length≤1048576) : Calls Tryz.prog 147 #[.int .i64 dir,.agg cs] w (dG (bo i7 de dir M) w):=by
 have hM:=h
 obtain⟨vw,vb,vd,vr,vo,h0,hw,hbt,hd,hr,ho,hR⟩:=h
 obtain rfl:cs=(bu M vw vb vd vr vo).toArray:=by apply Array.toList_inj.1;simpa using h0
 clear h0
 obtain⟨Aw,kw,rfl,_,_⟩:=hw.shape
 obtain⟨Ab,kb,rfl,_,_⟩:=hbt.shape
 obtain⟨Ad,kd,rfl,_,_⟩:=hd.shape
 obtain⟨Ar,kr,rfl,_,_⟩:=hr.shape
 obtain⟨Ao,ko,rfl,_,_⟩:=ho.shape
 obtain⟨q0,q1,q2,q3,q4,q5,q6,q7,q8,q9,y,z,C,D,E,F,G⟩:=hR
 simp only[B8,dB] at q0 q1 q2 q3 q4 q5 q6 q7 q8 q9 y z C D E F G
 refine en 29 Tryz.func147 rfl<|sg<|L0<|dv (mG M.code M.fail M.addr M.count M.value M.and_ M.or_ M.addr2 M.sub M.status M.events M.messages (.slice Aw M.words.length kw) (.slice Ab M.bits.length kb) (.slice Ad M.data.length kd) (.slice Ar M.recs.length kr) M.mei M.kind M.level M.more M.next (.slice Ao M.objects.length ko)) fun V W X k g=>Pl 2<|ng<|Pl 1<|L0<|bS k<|?_
 have l:=aN.old hM g
 refine L0<|Oc<|di (uL (dir:=dir) l hf) fun H I J n Y Z o=>Pl 1<|ng<|Pl 2<|?_
 have p:=ub o k
 refine L0<|aP p 0<|Pl 1<|?_
 refine pr (i7 dir M.code (de dir M)) fun e K f=>?_
 have q:Calls _ _ _ _ (eb (i7 dir M.code (de dir M)) J):=mf (dir:=dir) (c:=M.code) q0 (n).rd hlen
 rw[f] at q
 refine L0<|Oc<|e2 (q) fun L a0 a N=>Pl 3<|L0<|bO mZ fun a1 a2 O P Q=>L0<|be (hz:=(by rw[a.size];exact aO)) (hv:=a.size) (h1:=a.one) P (L) fun a3 R S=>Pl 1<|nt<|sq<|sg<|Pl 3<|?_
 have r:=ud Q S O
 have i:=aG N r
 have s:=aG o i
 have t:=aG g s
 refine bl 22 ((K != 0)) (fun b=>?_) (fun b=>?_)
 have T:=az b
 refine Pl 5<|nt<|c1<|sg<|Pl 2<|nt<|rt<|tr<|rr (.tuple #[.slice none 0 0,.int .i64 1])<|?_
 refine cQ (j0 f b) ?_
 exact⟨rfl,t⟩
 have T:=ai b
 refine L1<|bS (hz:=(by rw[a.size];exact aO)) R<|?_
 refine L1<|bS (ub i p)<|?_
 refine L1<|Oc<|m1 (gC (A:=e) (B:=M) (aN.upd a r aK) (aN.old l s)) fun a4 u=>Pl 2<|nt<|?_
 have v:=aG t u
 refine cb ((!(decide (e=M)))) (fun j=>?_) (fun j=>?_)
 have d:(decide (e=M))=false:=by simpa using j
 have U:=of_decide_eq_false d
 refine sg<|Pl 2<|nt<|rt<|tr<|rr (.tuple #[.slice none 0 0,.int .i64 1])<|?_
 refine cQ (j5 f d) ?_
 exact⟨rfl,v⟩
 have d:(decide (e=M))=true:=by simpa using j
 have U:=of_decide_eq_true d
 refine bp<|sg<|Pl 3<|nt<|rt<|rr (.tuple #[.slice H ((de dir M).length) I,.int .i64 0])<|?_
 refine cQ (i1 f b d) ?_
 exact⟨_,rfl,(aW.weaken (aq n (aG i u) (fun x hx=>aA) (fun _ _ h=>h)) g.size),v⟩
theorem jI{m:Md}{cs:Array Value}{M:aQ}{w:World}{dir:Int}(h:aN m w cs.toList M)(hf:bM M)(hlen:(cO dir M).length≤1048576) : Calls Tryz.prog 145 #[.int .i64 dir,.agg cs] w (dG (bo fE cO dir M) w):=by
 have hM:=h
 obtain⟨vw,vb,vd,vr,vo,h0,hw,hbt,hd,hr,ho,hR⟩:=h
 obtain rfl:cs=(bu M vw vb vd vr vo).toArray:=by apply Array.toList_inj.1;simpa using h0
 clear h0
 obtain⟨Aw,kw,rfl,_,_⟩:=hw.shape
 obtain⟨Ab,kb,rfl,_,_⟩:=hbt.shape
 obtain⟨Ad,kd,rfl,_,_⟩:=hd.shape
 obtain⟨Ar,kr,rfl,_,_⟩:=hr.shape
 obtain⟨Ao,ko,rfl,_,_⟩:=ho.shape
 obtain⟨q0,q1,q2,q3,q4,q5,q6,q7,q8,q9,y,z,C,D,E,F,G⟩:=hR
 simp only[B8,dB] at q0 q1 q2 q3 q4 q5 q6 q7 q8 q9 y z C D E F G
 refine en 29 Tryz.func145 rfl<|sg<|L0<|dv (mG M.code M.fail M.addr M.count M.value M.and_ M.or_ M.addr2 M.sub M.status M.events M.messages (.slice Aw M.words.length kw) (.slice Ab M.bits.length kb) (.slice Ad M.data.length kd) (.slice Ar M.recs.length kr) M.mei M.kind M.level M.more M.next (.slice Ao M.objects.length ko)) fun V W X k g=>Pl 2<|ng<|Pl 1<|L0<|bS k<|?_
 have l:=aN.old hM g
 refine L0<|Oc<|di (sb (dir:=dir) l hf) fun H I J n Y Z o=>Pl 1<|ng<|Pl 2<|?_
 have p:=ub o k
 refine L0<|aP p 0<|Pl 1<|?_
 refine pr (fE dir M.code (cO dir M)) fun e K f=>?_
 have q:Calls _ _ _ _ (eb (fE dir M.code (cO dir M)) J):=jP (dir:=dir) (c:=M.code) q0 (n).rd hlen
 rw[f] at q
 refine L0<|Oc<|e2 (q) fun L a0 a N=>Pl 3<|L0<|bO mZ fun a1 a2 O P Q=>L0<|be (hz:=(by rw[a.size];exact aO)) (hv:=a.size) (h1:=a.one) P (L) fun a3 R S=>Pl 1<|nt<|sq<|sg<|Pl 3<|?_
 have r:=ud Q S O
 have i:=aG N r
 have s:=aG o i
 have t:=aG g s
 refine bl 22 ((K != 0)) (fun b=>?_) (fun b=>?_)
 have T:=az b
 refine Pl 5<|nt<|c1<|sg<|Pl 2<|nt<|rt<|tr<|rr (.tuple #[.slice none 0 0,.int .i64 1])<|?_
 refine cQ (j0 f b) ?_
 exact⟨rfl,t⟩
 have T:=ai b
 refine L1<|bS (hz:=(by rw[a.size];exact aO)) R<|?_
 refine L1<|bS (ub i p)<|?_
 refine L1<|Oc<|m1 (gC (A:=e) (B:=M) (aN.upd a r aK) (aN.old l s)) fun a4 u=>Pl 2<|nt<|?_
 have v:=aG t u
 refine cb ((!(decide (e=M)))) (fun j=>?_) (fun j=>?_)
 have d:(decide (e=M))=false:=by simpa using j
 have U:=of_decide_eq_false d
 refine sg<|Pl 2<|nt<|rt<|tr<|rr (.tuple #[.slice none 0 0,.int .i64 1])<|?_
 refine cQ (j5 f d) ?_
 exact⟨rfl,v⟩
 have d:(decide (e=M))=true:=by simpa using j
 have U:=of_decide_eq_true d
 refine bp<|sg<|Pl 3<|nt<|rt<|rr (.tuple #[.slice H ((cO dir M).length) I,.int .i64 0])<|?_
 refine cQ (i1 f b d) ?_
 exact⟨_,rfl,(aW.weaken (aq n (aG i u) (fun x hx=>aA) (fun _ _ h=>h)) g.size),v⟩
open Go.RowKit
def gg:Nat→Int→aQ→Option (List Int)
  | 1,dir,M=>bo fN bQ dir M
  | 2,dir,M=>bo gD bK dir M
  | 3,dir,M=>bo gB bN dir M
  | 4,dir,M=>bo fE cO dir M
  | 5,dir,M=>bo i7 de dir M
  | _,_,_=>none
def cS (dir:Int)(M:aQ) : Option (List Int) :=
  if M.fail != 0 then (if dir != 1 then none else jm M)
  else match gg (iM M.code) dir M with
    | none=>none
    | some l=>if decide (253≤(l.length:Int)) then none else some ([M.code]++l)
theorem l8:∀ (L:List Obj),(∀ r,r∈L→r.value.length≤1024)→(eY L).length≤1026*L.length
  | [],_=>by simp[eY]
  | r :: L,h=>by
    have h1:=h r (by simp)
    have h2:=l8 L fun x hx=>h x (by simp[hx])
    simp only[eY,List.length_append,List.length_cons,List.length_nil]
    omega
theorem kW(dir c:Int) : ∀ (L:List dr),(∀ r,r∈L→r.words.length≤1024)→(cH dir c L).length≤2064*L.length
  | [],_=>by simp[cH]
  | r :: L,h=>by
    have h1:=h r (by simp)
    have h2:=kW dir c L fun x hx=>h x (by simp[hx])
    simp only[cH,hH]
    repeat' split
    all_goals simp only[List.length_append,List.length_cons,List.length_nil,ay]
    all_goals omega
theorem fc{M:aQ}(hf:bM M)(dir:Int) : (bQ dir M).length≤1048576∧(bK dir M).length≤1048576∧(bN dir M).length≤1048576∧(de dir M).length≤1048576∧(cO dir M).length≤1048576:=by
  have hp:(bR M.bits).length≤1024:=by
    have:=hf.bits
    simp only[bR,List.length_map,List.length_range,dN]
    omega
  have h1:=hf.words
  have h2:=hf.data
  have h3:=hf.objects
  have h4:=l8 M.objects hf.objv
  have h5:=kW dir M.code M.recs hf.recw
  have h6:=hf.recs
  refine⟨?_,?_,?_,?_,?_⟩
  · unfold bQ
    repeat' split
    all_goals simp only[List.length_append,List.length_cons,List.length_nil,ay]
    all_goals omega
  · unfold bK
    repeat' split
    all_goals simp only[List.length_append,List.length_cons,List.length_nil,ay]
    all_goals omega
  · unfold bN
    repeat' split
    all_goals simp only[List.length_append,List.length_cons,List.length_nil,ay]
    all_goals omega
  · unfold de
    repeat' split
    all_goals simp only[List.length_append,List.length_cons,List.length_nil]
    all_goals omega
  · unfold cO
    simp only[List.length_set,List.length_append,List.length_cons,List.length_nil]
    omega
theorem md{m:Md}{cs:Array Value}{M:aQ}{w:World}{dir:Int}(h:aN m w cs.toList M)(hf:bM M) : Calls Tryz.prog 28 #[.int .i64 dir,.agg cs] w (dG (cS dir M) w):=by
 have hM:=h
 obtain⟨vw,vb,vd,vr,vo,h0,hw,hbt,hd,hr,ho,hR⟩:=h
 obtain rfl:cs=(bu M vw vb vd vr vo).toArray:=by apply Array.toList_inj.1;simpa using h0
 clear h0
 obtain⟨Aw,kw,rfl,_,_⟩:=hw.shape
 obtain⟨Ab,kb,rfl,_,_⟩:=hbt.shape
 obtain⟨Ad,kd,rfl,_,_⟩:=hd.shape
 obtain⟨Ar,kr,rfl,_,_⟩:=hr.shape
 obtain⟨Ao,ko,rfl,_,_⟩:=ho.shape
 obtain⟨q0,q1,q2,q3,q4,q5,q6,q7,q8,q9,ah,aj,c,ak,an,ao,ap⟩:=hR
 simp only[B8,dB] at q0 q1 q2 q3 q4 q5 q6 q7 q8 q9 ah aj c ak an ao ap
 refine en 47 Tryz.func28 rfl<|sg<|L0<|dv (mG M.code M.fail M.addr M.count M.value M.and_ M.or_ M.addr2 M.sub M.status M.events M.messages (.slice Aw M.words.length kw) (.slice Ab M.bits.length kb) (.slice Ad M.data.length kd) (.slice Ar M.recs.length kr) M.mei M.kind M.level M.more M.next (.slice Ao M.objects.length ko)) fun ck f cl d b=>Pl 2<|nt<|sq<|sg<|Pl 1<|L0<|aP d 1<|Pl 1<|nl<|?_
 refine tn<|cb ((M.fail != 0)) (fun a=>?_) (fun a=>?_)
 have ar:=az a
 refine sq<|sg<|Pl 2<|nt<|cb ((dir != 1)) (fun c=>?_) (fun c=>?_)
 have au:=az c
 refine sg<|Pl 2<|nt<|rt<|tr<|tr<|rr (.tuple #[.slice none 0 0,.int .i64 1])<|?_
 have hs:cS dir M=none:=by
   unfold cS
   (try simp only[a,c,bs,if_true,if_false,decide_true,decide_false,reduceIte])
   all_goals rfl
 refine ed hs ?_
 exact⟨rfl,b⟩
 have au:=ai c
 refine bp<|sg<|L0<|bS d<|?_
 rcases hwr:jm M with _|lw
 have E:=mD (aN.old hM b)
 rw[hwr] at E
 refine L0<|Oc<|m1 E fun cm aw=>Pl 4<|nt<|rt<|tr<|rr (.tuple #[.slice none 0 0,.int .i64 1])<|?_
 have hs:cS dir M=none:=by
   unfold cS
   (try simp only[a,c,bs,if_true,if_false,decide_true,decide_false,hwr,reduceIte])
   all_goals rfl
 refine ed hs ?_
 exact⟨rfl,(aG b aw)⟩
 have F:=mD (aN.old hM b)
 rw[hwr] at F
 refine L0<|Oc<|di F fun ax aB cn aC co cp aD=>Pl 4<|nt<|rt<|tr<|rr (.tuple #[.slice ax lw.length aB,.int .i64 0])<|?_
 have hs:cS dir M=(some lw):=by
   unfold cS
   (try simp only[a,c,bs,if_true,if_false,decide_true,decide_false,hwr,reduceIte])
   all_goals rfl
 refine ed hs ?_
 exact⟨_,rfl,(aW.weaken aC b.size),(aG b aD)⟩
 have ar:=ai a
 refine bp<|sg<|Pl 1<|L0<|aP d 0<|?_
 rcases gq M.code with⟨hk,hkf⟩|⟨hk,hkf⟩|⟨hk,hkf⟩|⟨hk,hkf⟩|⟨hk,hkf⟩|⟨hk,hkf⟩
 have G:=fp (x:=M.code) (w:=f)
 rw[hkf] at G
 refine L0<|Oc<|m1 G fun cq aE=>Pl 3<|L0<|bO #[.nilFunc,.nilFunc] fun cr ct aF aH aI=>L0<|be aH #[.func (.func 138) #[] #[],.func (.func 139) #[] #[]] fun cu aK aL=>Pl 1<|nt<|sq<|sg<|Pl 2<|nt<|c0<|?_
 refine bp<|sg<|Pl 1<|L0<|aP aK 1<|Pl 1<|?_
 have H:=aG aE (ud aI aL aF)
 have I:=ub H d
 refine L0<|bS I<|?_
 have n:=aG b H
 rcases hwr:bo fN bQ dir M with _|lw
 have J:=jE (dir:=dir) (aN.old hM n) hf (fc hf dir).1
 rw[hwr] at J
 refine L0<|gx #[] #[] (args:=#[.int .i64 dir,.agg (mG M.code M.fail M.addr M.count M.value M.and_ M.or_ M.addr2 M.sub M.status M.events M.messages (.slice Aw M.words.length kw) (.slice Ab M.bits.length kb) (.slice Ad M.data.length kd) (.slice Ar M.recs.length kr) M.mei M.kind M.level M.more M.next (.slice Ao M.objects.length ko))])<|m1 J fun cv aO=>Pl 5<|nt<|sq<|sg<|Pl 7<|nt<|c1<|sg<|Pl 2<|nl<|?_
 refine tn<|rt<|tr<|rr (.tuple #[.slice none 0 0,.int .i64 1])<|?_
 have hs:cS dir M=none:=by
   unfold cS
   (try simp only[a,bs,if_true,if_false,decide_true,decide_false,hkf,gg,hwr,reduceIte])
   all_goals rfl
 refine ed hs ?_
 exact⟨rfl,(aG n aO)⟩
 have K:=jE (dir:=dir) (aN.old hM n) hf (fc hf dir).1
 rw[hwr] at K
 refine L0<|gx #[] #[] (args:=#[.int .i64 dir,.agg (mG M.code M.fail M.addr M.count M.value M.and_ M.or_ M.addr2 M.sub M.status M.events M.messages (.slice Aw M.words.length kw) (.slice Ab M.bits.length kb) (.slice Ad M.data.length kd) (.slice Ar M.recs.length kr) M.mei M.kind M.level M.more M.next (.slice Ao M.objects.length ko))])<|di K fun cw cx cy aR cz cA L=>Pl 5<|nt<|sq<|sg<|Pl 7<|nt<|?_
 have s:=aG n L
 refine cb ((decide (253≤((lw.length:Nat) : Int)))) (fun g=>?_) (fun g=>?_)
 have aS:=of_decide_eq_true g
 refine sg<|Pl 2<|nt<|rt<|tr<|rr (.tuple #[.slice none 0 0,.int .i64 1])<|?_
 have hs:cS dir M=none:=by
   unfold cS
   (try simp only[a,g,bs,if_true,if_false,decide_true,decide_false,hkf,gg,hwr,reduceIte])
   all_goals rfl
 refine ed hs ?_
 exact⟨rfl,s⟩
 have aS:=of_decide_eq_false g
 refine bp<|sg<|Pl 1<|?_
 refine L0<|aP (ub L I) 0<|L0<|cK (m:=1) (e:=5) #[.int .u8 M.code] fun cB cC aT aU t=>?_
 have N:=cN aT (xs:=[M.code]) (by as_aux_lemma=>kernel_rfl) (am (by omega) aJ) (by(try simp only[List.length_cons,List.length_nil]);omega) aU
 refine Pl 1<|?_
 refine L0<|bE aV (xs:=([M.code])) (ys:=lw) (.int .u8 0) 1 N ((aq aR t (fun x hx=>aA) (fun _ _ h=>h))).rd (by(try simp only[List.length_append,List.length_cons,List.length_nil,ay]);omega) t.size fun aX aY cD aZ b0=>Pl 2<|nt<|rt<|rr (.tuple #[.slice aX (([M.code]++lw).length) aY,.int .i64 0])<|?_
 have hs:cS dir M=(some ([M.code]++lw)):=by
   unfold cS
   (try simp only[a,g,bs,if_true,if_false,decide_true,decide_false,hkf,gg,hwr,reduceIte])
   all_goals rfl
 refine ed hs ?_
 exact⟨_,rfl,(aW.weaken aZ s.size),(aG s (ut t b0 (al (aM N lr) av)))⟩
 have O:=fp (x:=M.code) (w:=f)
 rw[hkf] at O
 refine L0<|Oc<|m1 O fun cE b1=>Pl 3<|L0<|bO #[.nilFunc,.nilFunc] fun cF cG b2 b3 b4=>L0<|be b3 #[.func (.func 140) #[] #[],.func (.func 141) #[] #[]] fun cH b5 b6=>Pl 1<|nt<|sq<|sg<|Pl 2<|nt<|c0<|?_
 refine bp<|sg<|Pl 1<|L0<|aP b5 1<|Pl 1<|?_
 have P:=aG b1 (ud b4 b6 b2)
 have Q:=ub P d
 refine L0<|bS Q<|?_
 have o:=aG b P
 rcases hwr:bo gD bK dir M with _|lw
 have R:=la (dir:=dir) (aN.old hM o) hf (fc hf dir).2.1
 rw[hwr] at R
 refine L0<|gx #[] #[] (args:=#[.int .i64 dir,.agg (mG M.code M.fail M.addr M.count M.value M.and_ M.or_ M.addr2 M.sub M.status M.events M.messages (.slice Aw M.words.length kw) (.slice Ab M.bits.length kb) (.slice Ad M.data.length kd) (.slice Ar M.recs.length kr) M.mei M.kind M.level M.more M.next (.slice Ao M.objects.length ko))])<|m1 R fun cI b7=>Pl 5<|nt<|sq<|sg<|Pl 7<|nt<|c1<|sg<|Pl 2<|nl<|?_
 refine tn<|rt<|tr<|rr (.tuple #[.slice none 0 0,.int .i64 1])<|?_
 have hs:cS dir M=none:=by
   unfold cS
   (try simp only[a,bs,if_true,if_false,decide_true,decide_false,hkf,gg,hwr,reduceIte])
   all_goals rfl
 refine ed hs ?_
 exact⟨rfl,(aG o b7)⟩
 have S:=la (dir:=dir) (aN.old hM o) hf (fc hf dir).2.1
 rw[hwr] at S
 refine L0<|gx #[] #[] (args:=#[.int .i64 dir,.agg (mG M.code M.fail M.addr M.count M.value M.and_ M.or_ M.addr2 M.sub M.status M.events M.messages (.slice Aw M.words.length kw) (.slice Ab M.bits.length kb) (.slice Ad M.data.length kd) (.slice Ar M.recs.length kr) M.mei M.kind M.level M.more M.next (.slice Ao M.objects.length ko))])<|di S fun cJ cL cM b8 cP cQ T=>Pl 5<|nt<|sq<|sg<|Pl 7<|nt<|?_
 have u:=aG o T
 refine cb ((decide (253≤((lw.length:Nat) : Int)))) (fun i=>?_) (fun i=>?_)
 have b9:=of_decide_eq_true i
 refine sg<|Pl 2<|nt<|rt<|tr<|rr (.tuple #[.slice none 0 0,.int .i64 1])<|?_
 have hs:cS dir M=none:=by
   unfold cS
   (try simp only[a,i,bs,if_true,if_false,decide_true,decide_false,hkf,gg,hwr,reduceIte])
   all_goals rfl
 refine ed hs ?_
 exact⟨rfl,u⟩
 have b9:=of_decide_eq_false i
 refine bp<|sg<|Pl 1<|?_
 refine L0<|aP (ub T Q) 0<|L0<|cK (m:=1) (e:=5) #[.int .u8 M.code] fun cR cT ba bb v=>?_
 have U:=cN ba (xs:=[M.code]) (by as_aux_lemma=>kernel_rfl) (am (by omega) aJ) (by(try simp only[List.length_cons,List.length_nil]);omega) bb
 refine Pl 1<|?_
 refine L0<|bE aV (xs:=([M.code])) (ys:=lw) (.int .u8 0) 1 U ((aq b8 v (fun x hx=>aA) (fun _ _ h=>h))).rd (by(try simp only[List.length_append,List.length_cons,List.length_nil,ay]);omega) v.size fun bc bd cU bf bg=>Pl 2<|nt<|rt<|rr (.tuple #[.slice bc (([M.code]++lw).length) bd,.int .i64 0])<|?_
 have hs:cS dir M=(some ([M.code]++lw)):=by
   unfold cS
   (try simp only[a,i,bs,if_true,if_false,decide_true,decide_false,hkf,gg,hwr,reduceIte])
   all_goals rfl
 refine ed hs ?_
 exact⟨_,rfl,(aW.weaken bf u.size),(aG u (ut v bg (al (aM U lr) av)))⟩
 have V:=fp (x:=M.code) (w:=f)
 rw[hkf] at V
 refine L0<|Oc<|m1 V fun cV bh=>Pl 3<|L0<|bO #[.nilFunc,.nilFunc] fun cW cX bi bj bk=>L0<|be bj #[.func (.func 142) #[] #[],.func (.func 143) #[] #[]] fun cY bl bm=>Pl 1<|nt<|sq<|sg<|Pl 2<|nt<|c0<|?_
 refine bp<|sg<|Pl 1<|L0<|aP bl 1<|Pl 1<|?_
 have W:=aG bh (ud bk bm bi)
 have X:=ub W d
 refine L0<|bS X<|?_
 have p:=aG b W
 rcases hwr:bo gB bN dir M with _|lw
 have Y:=kE (dir:=dir) (aN.old hM p) hf (fc hf dir).2.2.1
 rw[hwr] at Y
 refine L0<|gx #[] #[] (args:=#[.int .i64 dir,.agg (mG M.code M.fail M.addr M.count M.value M.and_ M.or_ M.addr2 M.sub M.status M.events M.messages (.slice Aw M.words.length kw) (.slice Ab M.bits.length kb) (.slice Ad M.data.length kd) (.slice Ar M.recs.length kr) M.mei M.kind M.level M.more M.next (.slice Ao M.objects.length ko))])<|m1 Y fun cZ bn=>Pl 5<|nt<|sq<|sg<|Pl 7<|nt<|c1<|sg<|Pl 2<|nl<|?_
 refine tn<|rt<|tr<|rr (.tuple #[.slice none 0 0,.int .i64 1])<|?_
 have hs:cS dir M=none:=by
   unfold cS
   (try simp only[a,bs,if_true,if_false,decide_true,decide_false,hkf,gg,hwr,reduceIte])
   all_goals rfl
 refine ed hs ?_
 exact⟨rfl,(aG p bn)⟩
 have Z:=kE (dir:=dir) (aN.old hM p) hf (fc hf dir).2.2.1
 rw[hwr] at Z
 refine L0<|gx #[] #[] (args:=#[.int .i64 dir,.agg (mG M.code M.fail M.addr M.count M.value M.and_ M.or_ M.addr2 M.sub M.status M.events M.messages (.slice Aw M.words.length kw) (.slice Ab M.bits.length kb) (.slice Ad M.data.length kd) (.slice Ar M.recs.length kr) M.mei M.kind M.level M.more M.next (.slice Ao M.objects.length ko))])<|di Z fun d0 d1 d2 bq d3 d4 a0=>Pl 5<|nt<|sq<|sg<|Pl 7<|nt<|?_
 have y:=aG p a0
 refine cb ((decide (253≤((lw.length:Nat) : Int)))) (fun j=>?_) (fun j=>?_)
 have br:=of_decide_eq_true j
 refine sg<|Pl 2<|nt<|rt<|tr<|rr (.tuple #[.slice none 0 0,.int .i64 1])<|?_
 have hs:cS dir M=none:=by
   unfold cS
   (try simp only[a,j,bs,if_true,if_false,decide_true,decide_false,hkf,gg,hwr,reduceIte])
   all_goals rfl
 refine ed hs ?_
 exact⟨rfl,y⟩
 have br:=of_decide_eq_false j
 refine bp<|sg<|Pl 1<|?_
 refine L0<|aP (ub a0 X) 0<|L0<|cK (m:=1) (e:=5) #[.int .u8 M.code] fun d5 d6 bt bv z=>?_
 have a1:=cN bt (xs:=[M.code]) (by as_aux_lemma=>kernel_rfl) (am (by omega) aJ) (by(try simp only[List.length_cons,List.length_nil]);omega) bv
 refine Pl 1<|?_
 refine L0<|bE aV (xs:=([M.code])) (ys:=lw) (.int .u8 0) 1 a1 ((aq bq z (fun x hx=>aA) (fun _ _ h=>h))).rd (by(try simp only[List.length_append,List.length_cons,List.length_nil,ay]);omega) z.size fun bw bx d7 bz bA=>Pl 2<|nt<|rt<|rr (.tuple #[.slice bw (([M.code]++lw).length) bx,.int .i64 0])<|?_
 have hs:cS dir M=(some ([M.code]++lw)):=by
   unfold cS
   (try simp only[a,j,bs,if_true,if_false,decide_true,decide_false,hkf,gg,hwr,reduceIte])
   all_goals rfl
 refine ed hs ?_
 exact⟨_,rfl,(aW.weaken bz y.size),(aG y (ut z bA (al (aM a1 lr) av)))⟩
 have a2:=fp (x:=M.code) (w:=f)
 rw[hkf] at a2
 refine L0<|Oc<|m1 a2 fun d8 bB=>Pl 3<|L0<|bO #[.nilFunc,.nilFunc] fun d9 da bC bD bF=>L0<|be bD #[.func (.func 144) #[] #[],.func (.func 145) #[] #[]] fun db bG bH=>Pl 1<|nt<|sq<|sg<|Pl 2<|nt<|c0<|?_
 refine bp<|sg<|Pl 1<|L0<|aP bG 1<|Pl 1<|?_
 have a3:=aG bB (ud bF bH bC)
 have a4:=ub a3 d
 refine L0<|bS a4<|?_
 have q:=aG b a3
 rcases hwr:bo fE cO dir M with _|lw
 have a5:=jI (dir:=dir) (aN.old hM q) hf (fc hf dir).2.2.2.2
 rw[hwr] at a5
 refine L0<|gx #[] #[] (args:=#[.int .i64 dir,.agg (mG M.code M.fail M.addr M.count M.value M.and_ M.or_ M.addr2 M.sub M.status M.events M.messages (.slice Aw M.words.length kw) (.slice Ab M.bits.length kb) (.slice Ad M.data.length kd) (.slice Ar M.recs.length kr) M.mei M.kind M.level M.more M.next (.slice Ao M.objects.length ko))])<|m1 a5 fun dc bI=>Pl 5<|nt<|sq<|sg<|Pl 7<|nt<|c1<|sg<|Pl 2<|nl<|?_
 refine tn<|rt<|tr<|rr (.tuple #[.slice none 0 0,.int .i64 1])<|?_
 have hs:cS dir M=none:=by
   unfold cS
   (try simp only[a,bs,if_true,if_false,decide_true,decide_false,hkf,gg,hwr,reduceIte])
   all_goals rfl
 refine ed hs ?_
 exact⟨rfl,(aG q bI)⟩
 have a6:=jI (dir:=dir) (aN.old hM q) hf (fc hf dir).2.2.2.2
 rw[hwr] at a6
 refine L0<|gx #[] #[] (args:=#[.int .i64 dir,.agg (mG M.code M.fail M.addr M.count M.value M.and_ M.or_ M.addr2 M.sub M.status M.events M.messages (.slice Aw M.words.length kw) (.slice Ab M.bits.length kb) (.slice Ad M.data.length kd) (.slice Ar M.recs.length kr) M.mei M.kind M.level M.more M.next (.slice Ao M.objects.length ko))])<|di a6 fun dd df dg bJ dh dj a7=>Pl 5<|nt<|sq<|sg<|Pl 7<|nt<|?_
 have A:=aG q a7
 refine cb ((decide (253≤((lw.length:Nat) : Int)))) (fun k=>?_) (fun k=>?_)
 have bL:=of_decide_eq_true k
 refine sg<|Pl 2<|nt<|rt<|tr<|rr (.tuple #[.slice none 0 0,.int .i64 1])<|?_
 have hs:cS dir M=none:=by
   unfold cS
   (try simp only[a,k,bs,if_true,if_false,decide_true,decide_false,hkf,gg,hwr,reduceIte])
   all_goals rfl
 refine ed hs ?_
 exact⟨rfl,A⟩
 have bL:=of_decide_eq_false k
 refine bp<|sg<|Pl 1<|?_
 refine L0<|aP (ub a7 a4) 0<|L0<|cK (m:=1) (e:=5) #[.int .u8 M.code] fun dk dl bP bR B=>?_
 have a8:=cN bP (xs:=[M.code]) (by as_aux_lemma=>kernel_rfl) (am (by omega) aJ) (by(try simp only[List.length_cons,List.length_nil]);omega) bR
 refine Pl 1<|?_
 refine L0<|bE aV (xs:=([M.code])) (ys:=lw) (.int .u8 0) 1 a8 ((aq bJ B (fun x hx=>aA) (fun _ _ h=>h))).rd (by(try simp only[List.length_append,List.length_cons,List.length_nil,ay]);omega) B.size fun bT bU dm bV bW=>Pl 2<|nt<|rt<|rr (.tuple #[.slice bT (([M.code]++lw).length) bU,.int .i64 0])<|?_
 have hs:cS dir M=(some ([M.code]++lw)):=by
   unfold cS
   (try simp only[a,k,bs,if_true,if_false,decide_true,decide_false,hkf,gg,hwr,reduceIte])
   all_goals rfl
 refine ed hs ?_
 exact⟨_,rfl,(aW.weaken bV A.size),(aG A (ut B bW (al (aM a8 lr) av)))⟩
 have a9:=fp (x:=M.code) (w:=f)
 rw[hkf] at a9
 refine L0<|Oc<|m1 a9 fun dn bX=>Pl 3<|L0<|bO #[.nilFunc,.nilFunc] fun dp dq bY bZ c2=>L0<|be bZ #[.func (.func 146) #[] #[],.func (.func 147) #[] #[]] fun dr c3 c4=>Pl 1<|nt<|sq<|sg<|Pl 2<|nt<|c0<|?_
 refine bp<|sg<|Pl 1<|L0<|aP c3 1<|Pl 1<|?_
 have aa:=aG bX (ud c2 c4 bY)
 have ab:=ub aa d
 refine L0<|bS ab<|?_
 have r:=aG b aa
 rcases hwr:bo i7 de dir M with _|lw
 have ac:=mz (dir:=dir) (aN.old hM r) hf (fc hf dir).2.2.2.1
 rw[hwr] at ac
 refine L0<|gx #[] #[] (args:=#[.int .i64 dir,.agg (mG M.code M.fail M.addr M.count M.value M.and_ M.or_ M.addr2 M.sub M.status M.events M.messages (.slice Aw M.words.length kw) (.slice Ab M.bits.length kb) (.slice Ad M.data.length kd) (.slice Ar M.recs.length kr) M.mei M.kind M.level M.more M.next (.slice Ao M.objects.length ko))])<|m1 ac fun ds c5=>Pl 5<|nt<|sq<|sg<|Pl 7<|nt<|c1<|sg<|Pl 2<|nl<|?_
 refine tn<|rt<|tr<|rr (.tuple #[.slice none 0 0,.int .i64 1])<|?_
 have hs:cS dir M=none:=by
   unfold cS
   (try simp only[a,bs,if_true,if_false,decide_true,decide_false,hkf,gg,hwr,reduceIte])
   all_goals rfl
 refine ed hs ?_
 exact⟨rfl,(aG r c5)⟩
 have ad:=mz (dir:=dir) (aN.old hM r) hf (fc hf dir).2.2.2.1
 rw[hwr] at ad
 refine L0<|gx #[] #[] (args:=#[.int .i64 dir,.agg (mG M.code M.fail M.addr M.count M.value M.and_ M.or_ M.addr2 M.sub M.status M.events M.messages (.slice Aw M.words.length kw) (.slice Ab M.bits.length kb) (.slice Ad M.data.length kd) (.slice Ar M.recs.length kr) M.mei M.kind M.level M.more M.next (.slice Ao M.objects.length ko))])<|di ad fun dt du dw c6 dx dy ae=>Pl 5<|nt<|sq<|sg<|Pl 7<|nt<|?_
 have C:=aG r ae
 refine cb ((decide (253≤((lw.length:Nat) : Int)))) (fun l=>?_) (fun l=>?_)
 have c7:=of_decide_eq_true l
 refine sg<|Pl 2<|nt<|rt<|tr<|rr (.tuple #[.slice none 0 0,.int .i64 1])<|?_
 have hs:cS dir M=none:=by
   unfold cS
   (try simp only[a,l,bs,if_true,if_false,decide_true,decide_false,hkf,gg,hwr,reduceIte])
   all_goals rfl
 refine ed hs ?_
 exact⟨rfl,C⟩
 have c7:=of_decide_eq_false l
 refine bp<|sg<|Pl 1<|?_
 refine L0<|aP (ub ae ab) 0<|L0<|cK (m:=1) (e:=5) #[.int .u8 M.code] fun dz dA c8 c9 D=>?_
 have af:=cN c8 (xs:=[M.code]) (by as_aux_lemma=>kernel_rfl) (am (by omega) aJ) (by(try simp only[List.length_cons,List.length_nil]);omega) c9
 refine Pl 1<|?_
 refine L0<|bE aV (xs:=([M.code])) (ys:=lw) (.int .u8 0) 1 af ((aq c6 D (fun x hx=>aA) (fun _ _ h=>h))).rd (by(try simp only[List.length_append,List.length_cons,List.length_nil,ay]);omega) D.size fun ca cc dC cd ce=>Pl 2<|nt<|rt<|rr (.tuple #[.slice ca (([M.code]++lw).length) cc,.int .i64 0])<|?_
 have hs:cS dir M=(some ([M.code]++lw)):=by
   unfold cS
   (try simp only[a,l,bs,if_true,if_false,decide_true,decide_false,hkf,gg,hwr,reduceIte])
   all_goals rfl
 refine ed hs ?_
 exact⟨_,rfl,(aW.weaken cd C.size),(aG C (ut D ce (al (aM af lr) av)))⟩
 have ag:=fp (x:=M.code) (w:=f)
 rw[hkf] at ag
 refine L0<|Oc<|m1 ag fun dD cf=>Pl 3<|L0<|bO #[.nilFunc,.nilFunc] fun dE dF cg ch ci=>L0<|be ch #[.nilFunc,.nilFunc] fun dH dI cj=>Pl 1<|nt<|sq<|sg<|Pl 2<|nt<|c1<|?_
 refine sg<|Pl 2<|nt<|rt<|tr<|rr (.tuple #[.slice none 0 0,.int .i64 1])<|?_
 have hs:cS dir M=none:=by
   unfold cS
   (try simp only[a,bs,if_true,if_false,decide_true,decide_false,hkf,gg,reduceIte])
   all_goals rfl
 refine ed hs ?_
 exact⟨rfl,(aG b (aG cf (ud ci cj cg)))⟩
open Go.RowKit
theorem iB{x y:aQ × Int}(h:x=y){w:World}{e:Ending}{w':World}(k:eb y w e w') : eb x w e w':=by rw[h];exact k
def hY:Nat→Int→List Int→aQ × Int
  | 1,dir,b=>ag aC dir (b.getD 0 0) (b.drop 1)
  | 2,dir,b=>ag aI dir (b.getD 0 0) (b.drop 1)
  | 3,dir,b=>ag aR dir (b.getD 0 0) (b.drop 1)
  | 4,dir,b=>ag aX dir (b.getD 0 0) (b.drop 1)
  | 5,dir,b=>ag bz dir (b.getD 0 0) (b.drop 1)
  | _,_,_=>(aQ.zero,4)
def cZ (dir:Int)(b:List Int) : aQ × Int :=
  if dir != 0&&dir != 1 then (aQ.zero,1)
  else if (b.length:Int)==0 then (aQ.zero,2)
  else if decide (253<(b.length:Int)) then (aQ.zero,3)
  else if decide (128≤b.getD 0 0)&&dir==1 then eg b
  else hY (iM (b.getD 0 0)) dir b
theorem pW{m:Md}{A:Option Addr}{cp:Nat}{b:List Int}{w:World}{dir:Int}(hsl:bh m w (.slice A b.length cp) b)(hb:b.length≤1048576) :
    Calls Tryz.prog 24 #[.int .i64 dir,.slice A b.length cp] w (eb (cZ dir b) w):=by
 have hln:(b.length:Int)≤1048576:=by omega
 refine en 60 Tryz.func24 rfl<|sg<|L0<|bO mZ fun dk t h a f=>Pl 1<|nt<|sq<|bk<|sg<|Pl 3<|cu 3 [11] 14 (((dir != 0)&&(dir != 1))) (fun K a2=>?_) ?_
 refine bl 11 ((dir != 0)) (fun u=>?_) (fun u=>?_)
 have bZ:=az u
 exact Pl 3<|ce a2 (dir != 1) (by rw[u];rfl)
 have bZ:=ai u
 exact Pl 3<|ce a2 false (by rw[u];rfl)
 refine Pl 1<|nt<|cb (((dir != 0)&&(dir != 1))) (fun d=>?_) (fun d=>?_)
 have a3:=(aZ d).1
 have a4:=(aZ d).2
 have dl:=az a3
 have dm:=az a4
 refine sg<|Pl 1<|L0<|be a mZ fun dn c2 c3=>Pl 1<|nt<|rt<|br<|tr<|bP c2 (.int .i64 1)<|?_
 have hs:cZ dir b=(aQ.zero,1):=by
   unfold cZ
   (try simp only[d,a3,a4,bs,if_true,if_false,decide_true,decide_false,hY,reduceIte])
   all_goals rfl
 refine iB hs ?_
 exact cR (ud f c3 h)
 refine sg<|Pl 4<|nt<|cb ((((b.length:Nat) : Int)==0)) (fun e=>?_) (fun e=>?_)
 have c4:=ae e
 refine sg<|Pl 1<|L0<|be a mZ fun dp c5 c6=>Pl 1<|nt<|rt<|br<|tr<|bP c5 (.int .i64 2)<|?_
 have hs:cZ dir b=(aQ.zero,2):=by
   unfold cZ
   (try simp only[d,e,bs,if_true,if_false,decide_true,decide_false,hY,reduceIte])
   all_goals rfl
 refine iB hs ?_
 exact cR (ud f c6 h)
 have c4:=ak e
 refine sg<|Pl 4<|nt<|cb ((decide (253<((b.length:Nat) : Int)))) (fun g=>?_) (fun g=>?_)
 have c7:=of_decide_eq_true g
 refine sg<|Pl 1<|L0<|be a mZ fun dq c8 c9=>Pl 1<|nt<|rt<|br<|tr<|bP c8 (.int .i64 3)<|?_
 have hs:cZ dir b=(aQ.zero,3):=by
   unfold cZ
   (try simp only[d,e,g,bs,if_true,if_false,decide_true,decide_false,hY,reduceIte])
   all_goals rfl
 refine iB hs ?_
 exact cR (ud f c9 h)
 have c7:=of_decide_eq_false g
 refine sg<|Pl 1<|?_
 have s:=bh.old hsl f
 refine gf (bh.at_ s 0 (by omega)) fun a5 a6 a7 a8 dr=>L0<|lv b.length 0 a7 (by omega)<|L0<|ez (p:=⟨a5,a6+0,none⟩) (v:=.int .u8 (b.getD 0 0)) a8<|Pl 2<|cu 3 [31] 34 (((decide (128≤(b.getD 0 0)))&&(dir==1))) (fun K a9=>?_) ?_
 refine bl 31 ((decide (128≤(b.getD 0 0)))) (fun y=>?_) (fun y=>?_)
 have ca:=of_decide_eq_true y
 exact Pl 3<|ce a9 (dir==1) (by rw[y];rfl)
 have ca:=of_decide_eq_false y
 exact Pl 3<|ce a9 false (by rw[y];rfl)
 refine Pl 1<|nt<|cb (((decide (128≤(b.getD 0 0)))&&(dir==1))) (fun i=>?_) (fun i=>?_)
 have aa:=(aZ i).1
 have ab:=(aZ i).2
 have ds:=of_decide_eq_true aa
 have dt:=ae ab
 refine sg<|Pl 1<|L0<|Oc<|e2 (qO s (by omega)) fun cc du z ac=>Pl 2<|?_
 have ad:=ub ac a
 refine L0<|be (hz:=(by rw[z.size];exact aO)) (hv:=z.size) (h1:=z.one) ad (cc) fun dv cd af=>Pl 1<|nt<|rt<|br<|tr<|eJ 22 z.size cd (.int .i64 (((eg b)).2))<|?_
 have hs:cZ dir b=(eg b):=by
   unfold cZ
   (try simp only[d,e,g,i,aa,ab,bs,if_true,if_false,decide_true,decide_false,hY,reduceIte])
   all_goals rfl
 refine iB hs ?_
 exact⟨_,rfl,(aN.upd z af (ax (aY ad (by decide)) aK)),(ud f (uz ac af) h)⟩
 refine sk<|bn<|tn<|sg<|Pl 1<|L0<|lv b.length 0 a7 (by omega)<|L0<|ez (p:=⟨a5,a6+0,none⟩) (v:=.int .u8 (b.getD 0 0)) a8<|?_
 rcases gq (b.getD 0 0) with⟨hk,hkf⟩|⟨hk,hkf⟩|⟨hk,hkf⟩|⟨hk,hkf⟩|⟨hk,hkf⟩|⟨hk,hkf⟩
 have aj:=fp (x:=(b.getD 0 0)) (w:=t)
 rw[hkf] at aj
 refine L0<|Oc<|m1 aj fun dw al=>Pl 3<|L0<|bO #[.nilFunc,.nilFunc] fun cf dx am cg ch=>L0<|be cg #[.func (.func 138) #[] #[],.func (.func 139) #[] #[]] fun dy ci cj=>Pl 1<|nt<|sq<|sg<|Pl 2<|nt<|c0<|?_
 refine bp<|sq<|?_
 have an:=aG al (ud ch cj am)
 have ao:=bh.old s an
 refine gf (bh.at_ ao 0 (by omega)) fun ck cl ap aq dz=>Rg 13 (fun w'=>w'.cell? ⟨cf,0,none⟩=some (.func (.func 138) #[] #[])∧w'.cell? ⟨ck,cl+0,none⟩=some (.int .u8 (b.getD 0 0))) fun dA M=>?_
 have ar:=ub M ci
 refine bj ⟨(ah ar rfl),(uc M aq)⟩ fun j=>Rt 0 j<|Rl 1 j (fun _ hs=>hs.1)<|Rt 2 j<|Rt 3 j<|mh 4 j b.length 0 0 rfl ap (by omega)<|Rl 5 j (fun _ hs=>hs.2)<|Rt 6 j<|pA (dY (P:=Tryz.prog) 22 5 1 Tryz.underlying22 rfl rfl A b.length cp 1 (by omega)) fun av hrun108 cm=>Rr 7 j (.slice av (b.length-1) (cp-1)) (fun _ _=>ei (kl:=.i64) (k:=((1:Nat) : Int)) (A:=A) (n:=b.length) (c:=cp) rfl Tryz.underlying22 (by kernel_rfl) (by kernel_rfl) (hrun108 _ _))<|?_
 refine R0 8 rfl<|gx #[] #[] (args:=#[.int .i64 dir,.int .u8 (b.getD 0 0),.slice av (b.length-1) (cp-1)])<|e2 (jN (dir:=dir) (c:=(b.getD 0 0)) (b8 (by omega)) (cm _ _ _ _ _ (bh.old ao M)) (by(try simp only[List.length_drop]);omega)) fun cn dB B S=>?_
 have aw:=ub S ar
 have T:=aG M S
 refine bj ⟨(ah aw rfl),(uc T aq)⟩ fun ay=>Rt 9 ay<|Rt 10 ay<|?_
 have aA:=aG an T
 have aB:=ub aA a
 refine R0 11 rfl<|be (hz:=(by rw[B.size];exact aO)) (hv:=B.size) (h1:=B.one) aB (cn) fun dC co C=>?_
 have dD:=uz T C
 have dE:=uz S C
 have aD:=ud f (uz aA C) h
 refine bj ⟨(ah (b6 C (Ne.symm (nb (au a) al.size am)) aw) rfl),(cB (bh.old hsl aD) ap 0 (by omega))⟩ fun cq=>Rt 12 cq<|re<|tn<|rt<|eJ 22 B.size co (.int .i64 (((ag aC dir (b.getD 0 0) (b.drop 1))).2))<|?_
 have hs:cZ dir b=(ag aC dir (b.getD 0 0) (b.drop 1)):=by
   unfold cZ
   (try simp only[d,e,g,i,bs,if_true,if_false,decide_true,decide_false,hkf,hY,reduceIte])
   all_goals rfl
 refine iB hs ?_
 exact⟨_,rfl,(aN.upd B C (ax (aY aB (by decide)) aK)),aD⟩
 have aE:=fp (x:=(b.getD 0 0)) (w:=t)
 rw[hkf] at aE
 refine L0<|Oc<|m1 aE fun dF aF=>Pl 3<|L0<|bO #[.nilFunc,.nilFunc] fun cr dG aH cs ct=>L0<|be cs #[.func (.func 140) #[] #[],.func (.func 141) #[] #[]] fun dH cv cw=>Pl 1<|nt<|sq<|sg<|Pl 2<|nt<|c0<|?_
 refine bp<|sq<|?_
 have aJ:=aG aF (ud ct cw aH)
 have aL:=bh.old s aJ
 refine gf (bh.at_ aL 0 (by omega)) fun cx cy aM aP dI=>Rg 13 (fun w'=>w'.cell? ⟨cr,0,none⟩=some (.func (.func 140) #[] #[])∧w'.cell? ⟨cx,cy+0,none⟩=some (.int .u8 (b.getD 0 0))) fun dJ N=>?_
 have aS:=ub N cv
 refine bj ⟨(ah aS rfl),(uc N aP)⟩ fun l=>Rt 0 l<|Rl 1 l (fun _ hs=>hs.1)<|Rt 2 l<|Rt 3 l<|mh 4 l b.length 0 0 rfl aM (by omega)<|Rl 5 l (fun _ hs=>hs.2)<|Rt 6 l<|pA (dY (P:=Tryz.prog) 22 5 1 Tryz.underlying22 rfl rfl A b.length cp 1 (by omega)) fun aT hrun188 cz=>Rr 7 l (.slice aT (b.length-1) (cp-1)) (fun _ _=>ei (kl:=.i64) (k:=((1:Nat) : Int)) (A:=A) (n:=b.length) (c:=cp) rfl Tryz.underlying22 (by kernel_rfl) (by kernel_rfl) (hrun188 _ _))<|?_
 refine R0 8 rfl<|gx #[] #[] (args:=#[.int .i64 dir,.int .u8 (b.getD 0 0),.slice aT (b.length-1) (cp-1)])<|e2 (lb (dir:=dir) (c:=(b.getD 0 0)) (b8 (by omega)) (cz _ _ _ _ _ (bh.old aL N)) (by(try simp only[List.length_drop]);omega)) fun cA dK D U=>?_
 have aU:=ub U aS
 have V:=aG N U
 refine bj ⟨(ah aU rfl),(uc V aP)⟩ fun aV=>Rt 9 aV<|Rt 10 aV<|?_
 have aW:=aG aJ V
 have b0:=ub aW a
 refine R0 11 rfl<|be (hz:=(by rw[D.size];exact aO)) (hv:=D.size) (h1:=D.one) b0 (cA) fun dL cC E=>?_
 have dM:=uz V E
 have dN:=uz U E
 have b1:=ud f (uz aW E) h
 refine bj ⟨(ah (b6 E (Ne.symm (nb (au a) aF.size aH)) aU) rfl),(cB (bh.old hsl b1) aM 0 (by omega))⟩ fun cD=>Rt 12 cD<|re<|tn<|rt<|eJ 22 D.size cC (.int .i64 (((ag aI dir (b.getD 0 0) (b.drop 1))).2))<|?_
 have hs:cZ dir b=(ag aI dir (b.getD 0 0) (b.drop 1)):=by
   unfold cZ
   (try simp only[d,e,g,i,bs,if_true,if_false,decide_true,decide_false,hkf,hY,reduceIte])
   all_goals rfl
 refine iB hs ?_
 exact⟨_,rfl,(aN.upd D E (ax (aY b0 (by decide)) aK)),b1⟩
 have b2:=fp (x:=(b.getD 0 0)) (w:=t)
 rw[hkf] at b2
 refine L0<|Oc<|m1 b2 fun dO b3=>Pl 3<|L0<|bO #[.nilFunc,.nilFunc] fun cE dP b4 cF cG=>L0<|be cF #[.func (.func 142) #[] #[],.func (.func 143) #[] #[]] fun dQ cH cI=>Pl 1<|nt<|sq<|sg<|Pl 2<|nt<|c0<|?_
 refine bp<|sq<|?_
 have b5:=aG b3 (ud cG cI b4)
 have b7:=bh.old s b5
 refine gf (bh.at_ b7 0 (by omega)) fun cJ cK b9 ba dR=>Rg 13 (fun w'=>w'.cell? ⟨cE,0,none⟩=some (.func (.func 142) #[] #[])∧w'.cell? ⟨cJ,cK+0,none⟩=some (.int .u8 (b.getD 0 0))) fun dS O=>?_
 have bb:=ub O cH
 refine bj ⟨(ah bb rfl),(uc O ba)⟩ fun o=>Rt 0 o<|Rl 1 o (fun _ hs=>hs.1)<|Rt 2 o<|Rt 3 o<|mh 4 o b.length 0 0 rfl b9 (by omega)<|Rl 5 o (fun _ hs=>hs.2)<|Rt 6 o<|pA (dY (P:=Tryz.prog) 22 5 1 Tryz.underlying22 rfl rfl A b.length cp 1 (by omega)) fun bc hrun268 cL=>Rr 7 o (.slice bc (b.length-1) (cp-1)) (fun _ _=>ei (kl:=.i64) (k:=((1:Nat) : Int)) (A:=A) (n:=b.length) (c:=cp) rfl Tryz.underlying22 (by kernel_rfl) (by kernel_rfl) (hrun268 _ _))<|?_
 refine R0 8 rfl<|gx #[] #[] (args:=#[.int .i64 dir,.int .u8 (b.getD 0 0),.slice bc (b.length-1) (cp-1)])<|e2 (ky (dir:=dir) (c:=(b.getD 0 0)) (b8 (by omega)) (cL _ _ _ _ _ (bh.old b7 O)) (by(try simp only[List.length_drop]);omega)) fun cM dT F W=>?_
 have bd:=ub W bb
 have X:=aG O W
 refine bj ⟨(ah bd rfl),(uc X ba)⟩ fun bf=>Rt 9 bf<|Rt 10 bf<|?_
 have bg:=aG b5 X
 have bi:=ub bg a
 refine R0 11 rfl<|be (hz:=(by rw[F.size];exact aO)) (hv:=F.size) (h1:=F.one) bi (cM) fun dU cN G=>?_
 have dV:=uz X G
 have dW:=uz W G
 have bm:=ud f (uz bg G) h
 refine bj ⟨(ah (b6 G (Ne.symm (nb (au a) b3.size b4)) bd) rfl),(cB (bh.old hsl bm) b9 0 (by omega))⟩ fun cO=>Rt 12 cO<|re<|tn<|rt<|eJ 22 F.size cN (.int .i64 (((ag aR dir (b.getD 0 0) (b.drop 1))).2))<|?_
 have hs:cZ dir b=(ag aR dir (b.getD 0 0) (b.drop 1)):=by
   unfold cZ
   (try simp only[d,e,g,i,bs,if_true,if_false,decide_true,decide_false,hkf,hY,reduceIte])
   all_goals rfl
 refine iB hs ?_
 exact⟨_,rfl,(aN.upd F G (ax (aY bi (by decide)) aK)),bm⟩
 have bo:=fp (x:=(b.getD 0 0)) (w:=t)
 rw[hkf] at bo
 refine L0<|Oc<|m1 bo fun dX bq=>Pl 3<|L0<|bO #[.nilFunc,.nilFunc] fun cP dZ bt cQ cS=>L0<|be cQ #[.func (.func 144) #[] #[],.func (.func 145) #[] #[]] fun e0 cT cU=>Pl 1<|nt<|sq<|sg<|Pl 2<|nt<|c0<|?_
 refine bp<|sq<|?_
 have bu:=aG bq (ud cS cU bt)
 have bv:=bh.old s bu
 refine gf (bh.at_ bv 0 (by omega)) fun cV cW bw bx e1=>Rg 13 (fun w'=>w'.cell? ⟨cP,0,none⟩=some (.func (.func 144) #[] #[])∧w'.cell? ⟨cV,cW+0,none⟩=some (.int .u8 (b.getD 0 0))) fun e3 Q=>?_
 have bA:=ub Q cT
 refine bj ⟨(ah bA rfl),(uc Q bx)⟩ fun q=>Rt 0 q<|Rl 1 q (fun _ hs=>hs.1)<|Rt 2 q<|Rt 3 q<|mh 4 q b.length 0 0 rfl bw (by omega)<|Rl 5 q (fun _ hs=>hs.2)<|Rt 6 q<|pA (dY (P:=Tryz.prog) 22 5 1 Tryz.underlying22 rfl rfl A b.length cp 1 (by omega)) fun bB hrun348 cX=>Rr 7 q (.slice bB (b.length-1) (cp-1)) (fun _ _=>ei (kl:=.i64) (k:=((1:Nat) : Int)) (A:=A) (n:=b.length) (c:=cp) rfl Tryz.underlying22 (by kernel_rfl) (by kernel_rfl) (hrun348 _ _))<|?_
 refine R0 8 rfl<|gx #[] #[] (args:=#[.int .i64 dir,.int .u8 (b.getD 0 0),.slice bB (b.length-1) (cp-1)])<|e2 (jP (dir:=dir) (c:=(b.getD 0 0)) (b8 (by omega)) (cX _ _ _ _ _ (bh.old bv Q)) (by(try simp only[List.length_drop]);omega)) fun cY e4 H Y=>?_
 have bC:=ub Y bA
 have Z:=aG Q Y
 refine bj ⟨(ah bC rfl),(uc Z bx)⟩ fun bD=>Rt 9 bD<|Rt 10 bD<|?_
 have bE:=aG bu Z
 have bF:=ub bE a
 refine R0 11 rfl<|be (hz:=(by rw[H.size];exact aO)) (hv:=H.size) (h1:=H.one) bF (cY) fun e5 d0 I=>?_
 have e6:=uz Z I
 have e7:=uz Y I
 have bG:=ud f (uz bE I) h
 refine bj ⟨(ah (b6 I (Ne.symm (nb (au a) bq.size bt)) bC) rfl),(cB (bh.old hsl bG) bw 0 (by omega))⟩ fun d1=>Rt 12 d1<|re<|tn<|rt<|eJ 22 H.size d0 (.int .i64 (((ag aX dir (b.getD 0 0) (b.drop 1))).2))<|?_
 have hs:cZ dir b=(ag aX dir (b.getD 0 0) (b.drop 1)):=by
   unfold cZ
   (try simp only[d,e,g,i,bs,if_true,if_false,decide_true,decide_false,hkf,hY,reduceIte])
   all_goals rfl
 refine iB hs ?_
 exact⟨_,rfl,(aN.upd H I (ax (aY bF (by decide)) aK)),bG⟩
 have bH:=fp (x:=(b.getD 0 0)) (w:=t)
 rw[hkf] at bH
 refine L0<|Oc<|m1 bH fun e8 bI=>Pl 3<|L0<|bO #[.nilFunc,.nilFunc] fun d2 e9 bJ d3 d4=>L0<|be d3 #[.func (.func 146) #[] #[],.func (.func 147) #[] #[]] fun ea d5 d6=>Pl 1<|nt<|sq<|sg<|Pl 2<|nt<|c0<|?_
 refine bp<|sq<|?_
 have bK:=aG bI (ud d4 d6 bJ)
 have bL:=bh.old s bK
 refine gf (bh.at_ bL 0 (by omega)) fun d7 d8 bM bN ec=>Rg 13 (fun w'=>w'.cell? ⟨d2,0,none⟩=some (.func (.func 146) #[] #[])∧w'.cell? ⟨d7,d8+0,none⟩=some (.int .u8 (b.getD 0 0))) fun ed R=>?_
 have bQ:=ub R d5
 refine bj ⟨(ah bQ rfl),(uc R bN)⟩ fun r=>Rt 0 r<|Rl 1 r (fun _ hs=>hs.1)<|Rt 2 r<|Rt 3 r<|mh 4 r b.length 0 0 rfl bM (by omega)<|Rl 5 r (fun _ hs=>hs.2)<|Rt 6 r<|pA (dY (P:=Tryz.prog) 22 5 1 Tryz.underlying22 rfl rfl A b.length cp 1 (by omega)) fun bR hrun428 d9=>Rr 7 r (.slice bR (b.length-1) (cp-1)) (fun _ _=>ei (kl:=.i64) (k:=((1:Nat) : Int)) (A:=A) (n:=b.length) (c:=cp) rfl Tryz.underlying22 (by kernel_rfl) (by kernel_rfl) (hrun428 _ _))<|?_
 refine R0 8 rfl<|gx #[] #[] (args:=#[.int .i64 dir,.int .u8 (b.getD 0 0),.slice bR (b.length-1) (cp-1)])<|e2 (mf (dir:=dir) (c:=(b.getD 0 0)) (b8 (by omega)) (d9 _ _ _ _ _ (bh.old bL R)) (by(try simp only[List.length_drop]);omega)) fun da ee J a0=>?_
 have bS:=ub a0 bQ
 have a1:=aG R a0
 refine bj ⟨(ah bS rfl),(uc a1 bN)⟩ fun bT=>Rt 9 bT<|Rt 10 bT<|?_
 have bU:=aG bK a1
 have bV:=ub bU a
 refine R0 11 rfl<|be (hz:=(by rw[J.size];exact aO)) (hv:=J.size) (h1:=J.one) bV (da) fun ef db L=>?_
 have eh:=uz a1 L
 have ej:=uz a0 L
 have bW:=ud f (uz bU L) h
 refine bj ⟨(ah (b6 L (Ne.symm (nb (au a) bI.size bJ)) bS) rfl),(cB (bh.old hsl bW) bM 0 (by omega))⟩ fun dc=>Rt 12 dc<|re<|tn<|rt<|eJ 22 J.size db (.int .i64 (((ag bz dir (b.getD 0 0) (b.drop 1))).2))<|?_
 have hs:cZ dir b=(ag bz dir (b.getD 0 0) (b.drop 1)):=by
   unfold cZ
   (try simp only[d,e,g,i,bs,if_true,if_false,decide_true,decide_false,hkf,hY,reduceIte])
   all_goals rfl
 refine iB hs ?_
 exact⟨_,rfl,(aN.upd J L (ax (aY bV (by decide)) aK)),bW⟩
 have bX:=fp (x:=(b.getD 0 0)) (w:=t)
 rw[hkf] at bX
 refine L0<|Oc<|m1 bX fun ek dd=>Pl 3<|L0<|bO #[.nilFunc,.nilFunc] fun el em de df dg=>L0<|be df #[.nilFunc,.nilFunc] fun eo ep dh=>Pl 1<|nt<|sq<|sg<|Pl 2<|nt<|c1<|?_
 refine sg<|Pl 1<|?_
 have bY:=aG dd (ud dg dh de)
 refine L0<|be (ub bY a) mZ fun eq di dj=>Pl 1<|nt<|rt<|tr<|bP di (.int .i64 4)<|?_
 have hs:cZ dir b=(aQ.zero,4):=by
   unfold cZ
   (try simp only[d,e,g,i,bs,if_true,if_false,decide_true,decide_false,hkf,hY,reduceIte])
   all_goals rfl
 refine iB hs ?_
 exact cR (ud f (uz bY dj) h)
theorem qP{m:Md}{v:Value}{b:List Int}{w:World}{dir:Int}(h:bh m w v b)(hb:b.length≤1048576) : Calls Tryz.prog 24 #[.int .i64 dir,v] w (eb (cZ dir b) w):=by
  obtain⟨A,cp,rfl,_,_⟩:=h.shape
  exact pW h hb
end Go.Proofs.YtogbnemojakcpaaGreat
namespace Go.Proofs.YtogbnemojakcpaaGreat
def N1 (C:aj) : Prop:=C.e≠1
theorem N1.need{C:aj}{b:Bool}{x:Int}(hx:x≠1)(h:N1 C) : N1 (C.need b x):=by
  unfold N1 aj.need at *
  split
  · exact hx
  · exact h
theorem N1.bytesC{C:aj}{n:Int}(h:N1 C) : N1 (C.bytesC n):=by
  unfold aj.bytesC
  split
  · exact N1.need (by decide) h
  · exact h
theorem N1.wordsC{C:aj}{n:Int}(h:N1 C) : N1 (C.wordsC n):=by
  unfold aj.wordsC
  split<;>exact N1.bytesC h
theorem N1.recs{one:Int→aj→Int × aj × dr}(ho:∀ s C,N1 C→N1 (one s C).2.1) : ∀ (n:Nat)(s:Int)(C:aj)(L:List dr),N1 C→N1 (aU one n s C L).1
  | 0,_,_,_,h=>h
  | n+1,s,C,L,h=>by
    unfold aU
    split
    · split
      · exact ho s C h
      · exact N1.recs ho n _ _ _ (ho s C h)
    · exact h
theorem N1.objs:∀ (n:Nat)(C:aj)(L:List Obj),N1 C→N1 (ea n C L).1
  | 0,_,_,h=>h
  | n+1,C,L,h=>N1.objs n _ _ (N1.bytesC (N1.bytesC (N1.bytesC h)))
theorem rJ{x:Int}(h:x≠1) : bq x≠1:=by
  unfold bq
  split
  · decide
  · exact h
def rb (c:Int)(r:aj × aQ) : Prop:=N1 r.1∧r.2.code=c∧r.2.fail=0
theorem pm{dir c:Int}{C:aj}{r:aj × aQ}(hC:N1 C)(h:aC dir c C=some r) : rb c r:=by
  unfold aC at h
  repeat' split at h
  all_goals first | cases h | skip
  all_goals refine⟨?_,rfl,rfl⟩
  all_goals simp only[cF,cn,ck,ew,bD,iK,dX,d6,kk,eX]
  all_goals repeat' first | with_reducible exact hC | with_reducible apply N1.bytesC | with_reducible apply N1.wordsC | (with_reducible refine N1.need (by decide) ?_)
theorem rp{dir c:Int}{C:aj}{r:aj × aQ}(hC:N1 C)(h:aI dir c C=some r) : rb c r:=by
  unfold aI at h
  repeat' split at h
  all_goals first | cases h | skip
  all_goals refine⟨?_,rfl,rfl⟩
  all_goals simp only[bL,bU,d8,cA,cm,cE,cC,i6,i3,gP,bJ,jL,db,fH,oD,vk,qA]
  all_goals repeat' first | with_reducible exact hC | with_reducible apply N1.bytesC | with_reducible apply N1.wordsC | (with_reducible refine N1.need (by decide) ?_)
theorem qV{dir c:Int}{C:aj}{r:aj × aQ}(hC:N1 C)(h:aR dir c C=some r) : rb c r:=by
  unfold aR dL bX at h
  repeat' split at h
  all_goals first | cases h | skip
  all_goals refine⟨?_,rfl,rfl⟩
  all_goals simp only[eR,iU,fq,fO,dt]
  all_goals repeat' first | with_reducible exact hC | with_reducible apply N1.bytesC | with_reducible apply N1.wordsC | (with_reducible refine N1.need (by decide) ?_)
theorem t7{dir c:Int}{C:aj}{r:aj × aQ}(hC:N1 C)(h:bz dir c C=some r) : rb c r:=by
  unfold bz at h
  repeat' split at h
  all_goals first | cases h | skip
  all_goals refine⟨?_,rfl,rfl⟩
  all_goals simp only[dk,ex,dZ,dJ,jk,jt,lV,tq]
  all_goals repeat' first | with_reducible exact hC | with_reducible apply N1.bytesC | with_reducible apply N1.wordsC | with_reducible apply N1.objs | (with_reducible refine N1.need (by decide) ?_)
theorem uZ(s:Int)(C:aj)(h:N1 C) : N1 (cX s C).2.1:=by
  simp only[cX,eC,dF,eu,iw,lx]
  repeat' first | with_reducible exact h | with_reducible apply N1.bytesC | with_reducible apply N1.wordsC | (with_reducible refine N1.need (by decide) ?_)
theorem u0(s:Int)(C:aj)(h:N1 C) : N1 (bH s C).2.1:=by
  simp only[bH,eQ,gZ,fQ]
  repeat' first | with_reducible exact h | with_reducible apply N1.bytesC | with_reducible apply N1.wordsC | (with_reducible refine N1.need (by decide) ?_)
theorem uD(s:Int)(C:aj)(h:N1 C) : N1 (cY s C).2.1:=by
  simp only[cY,iC,lU,dF,eu,iw,lx]
  repeat' first | with_reducible exact h | with_reducible apply N1.bytesC | with_reducible apply N1.wordsC | (with_reducible refine N1.need (by decide) ?_)
theorem jD{one:Int→aj→Int × aj × dr}(ho:∀ s C,N1 C→N1 (one s C).2.1)(may:Int→Bool)(c:Int){C:aj}(hC:N1 C) : N1 (dy one may c C).1:=by
  unfold dy jg
  refine N1.need (rJ (N1.recs ho _ _ _ _ ?_)) (N1.bytesC (N1.need (by decide) (N1.bytesC hC)))
  show(0:Int)≠1
  decide
theorem oZ{dir c:Int}{C:aj}{r:aj × aQ}(hC:N1 C)(h:aX dir c C=some r) : rb c r:=by
  unfold aX at h
  repeat' split at h
  all_goals first | cases h | skip
  · exact⟨jD uZ _ _ hC,rfl,rfl⟩
  · exact⟨jD u0 _ _ hC,rfl,rfl⟩
  · exact⟨jD uD _ _ hC,rfl,rfl⟩
theorem N1.endC{C:aj}(h:N1 C) : N1 C.endC:=by
  unfold aj.endC
  exact N1.need (by decide) h
theorem fG{form:Int→Int→aj→Option (aj × aQ)}(hg:∀ {dir c:Int}{C:aj}{r:aj × aQ},N1 C→form dir c C=some r→rb c r){dir c:Int}{b:List Int}(hd:dir=0∨dir=1){M:aQ}{E:Int}(h:ag form dir c b=(M,E)) :
    E≠1∧(E=0→M.code=c∧M.fail=0):=by
  unfold ag at h
  rw[if_pos hd] at h
  have h0:N1 ⟨b,false,0⟩:=by show(0:Int)≠1;decide
  split at h
  · injection h with h1 h2
    subst h1 h2
    exact⟨by decide,fun h=>by cases h⟩
  · rename_i r hr
    obtain⟨g1,g2,g3⟩:=hg h0 hr
    unfold aL at h
    split at h
    · injection h with h1 h2
      subst h1 h2
      exact⟨by decide,fun _=>⟨g2,g3⟩⟩
    · rename_i hne
      injection h with h1 h2
      subst h1 h2
      exact⟨N1.endC g1,fun h=>absurd h hne⟩
end Go.Proofs.YtogbnemojakcpaaGreat
namespace Go.Proofs.YtogbnemojakcpaaGreat
theorem tL:∀ n:Nat,n<256→(dO (n:Int)=iF (n:Int))∧(iF (n:Int)=false→iM (n:Int)=0)∧(128≤n→iF (n:Int)=false):=by decide +kernel
theorem rM{x:Int}(h:0≤x∧x<256) : dO x=iF x∧(iF x=false→iM x=0)∧(128≤x→iF x=false):=by
  obtain⟨n,rfl⟩:=Int.eq_ofNat_of_zero_le h.1
  obtain⟨a,b,c⟩:=tL n (by omega)
  exact⟨a,b,fun h=>c (by omega)⟩
theorem rV{dir:Int}{b:List Int}(hd:dir=0∨dir=1){k:Nat}{M:aQ}{E:Int}(h:hY k dir b=(M,E)) : E≠1∧(E=0→M.code=b.getD 0 0∧M.fail=0):=by
  unfold hY at h
  split at h
  · exact fG (fun hC h=>pm hC h) hd h
  · exact fG (fun hC h=>rp hC h) hd h
  · exact fG (fun hC h=>qV hC h) hd h
  · exact fG (fun hC h=>oZ hC h) hd h
  · exact fG (fun hC h=>t7 hC h) hd h
  · injection h with h1 h2
    subst h1 h2
    exact⟨by decide,fun h=>by cases h⟩
theorem qh{b:List Int}{M:aQ}(h:eg b=(M,0)) : M=ge ((b.getD 0 0-128)%256) (b.getD 1 0)∧128≤b.getD 0 0∧dO ((b.getD 0 0-128)%256)=true∧cU (b.getD 1 0)=true∧b.length=2:=by
  unfold eg at h
  split at h
  · cases h
  split at h
  · cases h
  split at h
  · cases h
  split at h
  · cases h
  split at h
  · cases h
  split at h
  · cases h
  injection h with h1 h2
  simp only[decide_eq_true_eq,Bool.not_eq_true',Bool.not_eq_true,beq_iff_eq,Bool.not_eq_false'] at *
  refine⟨h1.symm,by omega,by simp_all,by simp_all,by omega⟩
end Go.Proofs.YtogbnemojakcpaaGreat
namespace Go.Proofs.YtogbnemojakcpaaGreat
theorem dq{parse:Int→Int→List Int→aQ × Int}{lay:Int→aQ→List Int}{dir:Int}{M:aQ}{l:List Int}(h:bo parse lay dir M=some l) : parse dir M.code l=(M,0)∧l=lay dir M:=by
  unfold bo at h
  split at h
  · rename_i hh
    injection h with h
    subst h
    exact⟨hh,rfl⟩
  · cases h
theorem jv{k:Nat}{dir:Int}{M:aQ}{l:List Int}(h:gg k dir M=some l) : k≠0∧hY k dir ([M.code]++l)=(M,0):=by
  unfold gg at h
  split at h
  · exact⟨by decide,(dq h).1⟩
  · exact⟨by decide,(dq h).1⟩
  · exact⟨by decide,(dq h).1⟩
  · exact⟨by decide,(dq h).1⟩
  · exact⟨by decide,(dq h).1⟩
  · cases h
theorem qG{M:aQ}{l:List Int}(h:jm M=some l) : dO M.code=true∧cU M.fail=true∧M=ge M.code M.fail∧l=[(M.code+128)%256,M.fail]:=by
  unfold jm at h
  split at h
  · cases h
  split at h
  · cases h
  rename_i h1 h2
  injection h with h
  subst h
  have h3:ff M.code M.fail=true:=by
    cases hp:ff M.code M.fail
    · rw[hp] at h1;exact absurd rfl h1
    · rfl
  have h4:M=ge M.code M.fail:=by
    by_cases hm:M=ge M.code M.fail
    · exact hm
    · rw[decide_eq_false hm] at h2;exact absurd rfl h2
  unfold ff at h3
  obtain⟨h5,h6⟩:=ga h3
  exact⟨(ga h5).2,h6,h4,rfl⟩
theorem gk{dir:Int}{M:aQ}{l:List Int}(hc:0≤M.code∧M.code<256)(h:cS dir M=some l) :
    (M.fail≠0∧dir=1∧dO M.code=true∧cU M.fail=true∧M=ge M.code M.fail∧l=[M.code+128,M.fail]∧M.code<128) ∨
    (M.fail=0∧iM M.code≠0∧M.code<128∧∃ l',gg (iM M.code) dir M=some l'∧l'.length<253∧l=[M.code]++l'):=by
  obtain⟨t1,t2,t3⟩:=rM hc
  unfold cS at h
  split at h
  · rename_i hf
    split at h
    · cases h
    · rename_i hd
      obtain⟨h1,h2,h3,h4⟩:=qG h
      have h5:M.code<128:=by
        by_cases h6:128≤M.code
        · have:=t3 h6
          rw[← t1,h1] at this
          cases this
        · omega
      refine .inl ⟨by simpa using hf,by simpa using hd,h1,h2,h3,?_,h5⟩
      rw[h4]
      congr 1
      omega
  · rename_i hf
    split at h
    · cases h
    · rename_i l' hl
      split at h
      · cases h
      · rename_i hn
        injection h with h
        have hk:=(jv hl).1
        have h5:M.code<128:=by
          by_cases h6:128≤M.code
          · exact absurd (t2 (t3 h6)) hk
          · omega
        simp only[decide_eq_true_eq] at hn
        exact .inr ⟨by simpa using hf,hk,h5,l',hl,by omega,h.symm⟩
theorem tz{dir:Int}{M:aQ}{l:List Int}(hd:dir=0∨dir=1)(hc:0≤M.code∧M.code<256)(hf:0≤M.fail∧M.fail<256)(h:cS dir M=some l) : cZ dir l=(M,0):=by
  have hdd:(dir != 0&&dir != 1)=false:=by rcases hd with rfl | rfl<;>rfl
  rcases gk hc h with⟨h1,rfl,h2,h3,h4,rfl,h5⟩|⟨h1,h2,h3,l',h4,h5,rfl⟩
  · have ha:decide (128≤M.code+128)=true:=by simp;omega
    have hb:(M.code+128-128)%256=M.code:=by omega
    have eu:decide (M.code+128<128)=false:=by simp;omega
    unfold cZ
    simp only[List.length_cons,List.length_nil,List.getD_cons_zero,ha]
    show eg [M.code+128,M.fail]=(M,0)
    unfold eg
    simp only[List.length_cons,List.length_nil,List.getD_cons_zero,List.getD_cons_succ,hb,eu,h2,h3]
    show(ge M.code M.fail,(0:Int))=(M,0)
    rw[← h4]
  · have ha:(decide (128≤M.code)&&dir==1)=false:=by
      have:decide (128≤M.code)=false:=by simp;omega
      rw[this];rfl
    have hl0:(((([M.code]++l').length:Nat) : Int)==0)=false:=by
      simp only[List.length_append,List.length_cons,List.length_nil,beq_eq_false_iff_ne,ne_eq];omega
    have hl1:decide (253<((([M.code]++l').length:Nat) : Int))=false:=by
      simp only[List.length_append,List.length_cons,List.length_nil,decide_eq_false_iff_not];omega
    have hg:([M.code]++l').getD 0 0=M.code:=rfl
    unfold cZ
    rw[hdd,hl0,hl1,hg,ha]
    exact(jv h4).2
theorem oO{dir:Int}{M:aQ}{l:List Int}(hc:0≤M.code∧M.code<256)(h:cS dir M=some l) : 0<l.length:=by
  rcases gk hc h with⟨_,_,_,_,_,rfl,_⟩|⟨_,_,_,l',_,_,rfl⟩<;>simp
theorem uO{dir:Int}{M:aQ}{l:List Int}(hc:0≤M.code∧M.code<256)(h:cS dir M=some l) : l.length≤253:=by
  rcases gk hc h with⟨_,_,_,_,_,rfl,_⟩|⟨_,_,_,l',_,h2,rfl⟩
  · simp
  · simp only[List.length_append,List.length_cons,List.length_nil];omega
open Go.RowKit
theorem qL{w w':World}(h:aF [] w w') : Below w.heap.size w w':=⟨h.os,h.tape,h.output,h.size,fun k hk=>h.block k hk (by simp)⟩
theorem rQ{n:Int}(h:(Lit.int .u8 n).wf=true) : 0≤n∧n<256:=by
  have:=bounds_u8 h
  omega
open Go.RowKit
structure SL where
  aw:Option Addr
  kw:Nat
  ab:Option Addr
  kb:Nat
  ad:Option Addr
  kd:Nat
  ar:Option Addr
  kr:Nat
  ao:Option Addr
  ko:Nat
def oM (M:aQ)(x:SL) : Array Value:=mG M.code M.fail M.addr M.count M.value M.and_ M.or_ M.addr2 M.sub M.status M.events M.messages (.slice x.aw M.words.length x.kw) (.slice x.ab M.bits.length x.kb) (.slice x.ad M.data.length x.kd) (.slice x.ar M.recs.length x.kr) M.mei M.kind M.level M.more M.next (.slice x.ao M.objects.length x.ko)
theorem ph{m:Md}{w:World}{cs:Array Value}{M:aQ}(h:aN m w cs.toList M) : ∃ x,cs=oM M x:=by
  obtain⟨vw,vb,vd,vr,vo,h0,hw,hb,hd,hr,ho,hR⟩:=h
  obtain⟨aw,kw,rfl,_,_⟩:=hw.shape
  obtain⟨ab,kb,rfl,_,_⟩:=hb.shape
  obtain⟨ad,kd,rfl,_,_⟩:=hd.shape
  obtain⟨ar,kr,rfl,_,_⟩:=hr.shape
  obtain⟨ao,ko,rfl,_,_⟩:=ho.shape
  refine⟨⟨aw,kw,ab,kb,ad,kd,ar,kr,ao,ko⟩,?_⟩
  apply Array.toList_inj.1
  rw[h0]
  rfl
theorem aN.rngs{m:Md}{w:World}{cs:Array Value}{M:aQ}(h:aN m w cs.toList M) : (0≤M.code∧M.code<256)∧(0≤M.fail∧M.fail<256):=by
  obtain⟨vw,vb,vd,vr,vo,h0,hw,hb,hd,hr,ho,hR⟩:=h
  exact⟨hR.code,hR.fail⟩
open Go.RowKit
structure fw where
  unit:Int
  tid:Int
  msg:aQ
def fw.zero:fw:=⟨0,0,aQ.zero⟩
def xT (m:Md)(w:World)(cs:Array Value)(F:fw) : Prop:=∃ c:Array Value,cs = #[.int .u8 F.unit,.int .u16 F.tid]++c∧aN m w c.toList F.msg∧B8 F.unit∧dB F.tid
def tf (res:fw × Int)(w:World)(e:Ending)(w':World) : Prop:=∃ cs,e = .returned (.tuple #[.agg cs,.int .i64 res.2])∧xT true w' cs res.1∧aF [] w w'
theorem kB{x y:fw × Int}(h:x=y){w:World}{e:Ending}{w':World}(k:tf y w e w') : tf x w e w':=by rw[h];exact k
def xJ:Array Value:=#[.int .u8 0,.int .u16 0,.int .u8 0,.int .u8 0,.int .u16 0,.int .u16 0,.int .u16 0,.int .u16 0,.int .u16 0,.int .u16 0,.int .u16 0,.int .u16 0,.int .u16 0,.int .u16 0,.slice none 0 0,.slice none 0 0,.slice none 0 0,.slice none 0 0,.int .u8 0,.int .u8 0,.int .u8 0,.int .u8 0,.int .u8 0,.slice none 0 0]
theorem ic{x:Int}{w W:World}(hu:aF [] w W) : tf (fw.zero,x) w (.returned (.tuple #[.agg xJ,.int .i64 x])) W:=⟨_,rfl,⟨lz,(by kernel_rfl),aN.zero ..,(show(0:Int)≤0∧(0:Int)<256 from by decide),(show(0:Int)≤0∧(0:Int)<65536 from by decide)⟩,hu⟩
def eL (u t:Int) : aQ × Int→fw × Int
  | (M,E)=>if E != 0 then (fw.zero,E) else (⟨u,t,M⟩,0)
theorem nM{dir:Int}{M:aQ}{l:List Int}(h:cS dir M=some l) : l.length≤253:=by
  unfold cS at h
  split at h
  · split at h
    · cases h
    · unfold jm at h
      split at h
      · cases h
      · split at h
        · cases h
        · injection h with h
          subst h
          simp only[List.length_cons,List.length_nil]
          omega
  · split at h
    · cases h
    · split at h
      · cases h
      · rename_i hl
        injection h with h
        subst h
        simp only[decide_eq_true_eq] at hl
        simp only[List.length_append,List.length_cons,List.length_nil]
        omega
open Go.RowKit
deriving instance DecidableEq for fw
def pz (u t:Int)(M:aQ)(x:SL) : Array Value:=#[.int .u8 u,.int .u16 t,.int .u8 M.code,.int .u8 M.fail,.int .u16 M.addr,.int .u16 M.count,.int .u16 M.value,.int .u16 M.and_,.int .u16 M.or_,.int .u16 M.addr2,.int .u16 M.sub,.int .u16 M.status,.int .u16 M.events,.int .u16 M.messages,.slice x.aw M.words.length x.kw,.slice x.ab M.bits.length x.kb,.slice x.ad M.data.length x.kd,.slice x.ar M.recs.length x.kr,.int .u8 M.mei,.int .u8 M.kind,.int .u8 M.level,.int .u8 M.more,.int .u8 M.next,.slice x.ao M.objects.length x.ko]
theorem mU(u t:Int)(M:aQ)(x:SL) : pz u t M x = #[.int .u8 u,.int .u16 t]++oM M x:=by kernel_rfl
open Go.RowKit
def qK (b:List Int) : aj:=⟨b,false,0⟩
def sa (b:List Int) : aj:=(qK b).wordsC 1
def qq (b:List Int) : aj:=(sa b).wordsC 1
def pZ (b:List Int) : aj:=(qq b).wordsC 1
def qS (b:List Int) : aj:=(pZ b).bytesC 1
def jy (b:List Int) : List Int:=(qS b).bytesR (((qS b).l.length:Nat) : Int)
def dE (dir:Int)(b:List Int) : fw × Int :=
  if dir != 0&&dir != 1 then (fw.zero,1)
  else if decide ((b.length:Int)<8) then (fw.zero,2)
  else if decide (260<(b.length:Int)) then (fw.zero,3)
  else if (sa b).wordV != 0 then (fw.zero,13)
  else if (qq b).wordV != (b.length:Int)-6 then (fw.zero,5)
  else eL (pZ b).byteV (qK b).wordV (cZ dir (jy b))
theorem nK{m:Md}{A:Option Addr}{cp:Nat}{b:List Int}{w:World}{dir:Int}(hsl:bh m w (.slice A b.length cp) b)(hb:b.length≤1048576) :
    Calls Tryz.prog 32 #[.int .i64 dir,.slice A b.length cp] w (tf (dE dir b) w):=by
 have hln:(b.length:Int)≤1048576:=by omega
 refine en 75 Tryz.func32 rfl<|sg<|L0<|bO #[.int .u8 0,.int .u16 0,.int .u8 0,.int .u8 0,.int .u16 0,.int .u16 0,.int .u16 0,.int .u16 0,.int .u16 0,.int .u16 0,.int .u16 0,.int .u16 0,.int .u16 0,.int .u16 0,.slice none 0 0,.slice none 0 0,.slice none 0 0,.slice none 0 0,.int .u8 0,.int .u8 0,.int .u8 0,.int .u8 0,.int .u8 0,.slice none 0 0] fun b0 b1 g e i=>Pl 1<|nt<|sq<|bk<|sg<|Pl 3<|cu 3 [17] 20 (((dir != 0)&&(dir != 1))) (fun K N=>?_) ?_
 refine bl 17 ((dir != 0)) (fun o=>?_) (fun o=>?_)
 have Z:=az o
 exact Pl 3<|ce N (dir != 1) (by rw[o];rfl)
 have Z:=ai o
 exact Pl 3<|ce N false (by rw[o];rfl)
 refine Pl 1<|nt<|cb (((dir != 0)&&(dir != 1))) (fun c=>?_) (fun c=>?_)
 have O:=(aZ c).1
 have P:=(aZ c).2
 have b2:=az O
 have b3:=az P
 refine sg<|Pl 1<|L0<|be e #[.int .u8 0,.int .u16 0,.int .u8 0,.int .u8 0,.int .u16 0,.int .u16 0,.int .u16 0,.int .u16 0,.int .u16 0,.int .u16 0,.int .u16 0,.int .u16 0,.int .u16 0,.int .u16 0,.slice none 0 0,.slice none 0 0,.slice none 0 0,.slice none 0 0,.int .u8 0,.int .u8 0,.int .u8 0,.int .u8 0,.int .u8 0,.slice none 0 0] fun b4 a0 a1=>Pl 1<|nt<|rt<|br<|tr<|bP a0 (.int .i64 1)<|?_
 have hs:dE dir b=(fw.zero,1):=by
   unfold dE
   (try simp only[c,O,P,bs,if_true,if_false,decide_true,decide_false,eL,qS,pZ,qq,sa,qK,reduceIte])
   all_goals rfl
 refine kB hs ?_
 exact ic (ud i a1 g)
 refine sg<|Pl 4<|nt<|cb ((decide (((b.length:Nat) : Int)<8))) (fun d=>?_) (fun d=>?_)
 have a2:=of_decide_eq_true d
 refine sg<|Pl 1<|L0<|be e #[.int .u8 0,.int .u16 0,.int .u8 0,.int .u8 0,.int .u16 0,.int .u16 0,.int .u16 0,.int .u16 0,.int .u16 0,.int .u16 0,.int .u16 0,.int .u16 0,.int .u16 0,.int .u16 0,.slice none 0 0,.slice none 0 0,.slice none 0 0,.slice none 0 0,.int .u8 0,.int .u8 0,.int .u8 0,.int .u8 0,.int .u8 0,.slice none 0 0] fun b5 a3 a4=>Pl 1<|nt<|rt<|br<|tr<|bP a3 (.int .i64 2)<|?_
 have hs:dE dir b=(fw.zero,2):=by
   unfold dE
   (try simp only[c,d,bs,if_true,if_false,decide_true,decide_false,eL,qS,pZ,qq,sa,qK,reduceIte])
   all_goals rfl
 refine kB hs ?_
 exact ic (ud i a4 g)
 have a2:=of_decide_eq_false d
 refine sg<|Pl 4<|nt<|cb ((decide (260<((b.length:Nat) : Int)))) (fun f=>?_) (fun f=>?_)
 have a5:=of_decide_eq_true f
 refine sg<|Pl 1<|L0<|be e #[.int .u8 0,.int .u16 0,.int .u8 0,.int .u8 0,.int .u16 0,.int .u16 0,.int .u16 0,.int .u16 0,.int .u16 0,.int .u16 0,.int .u16 0,.int .u16 0,.int .u16 0,.int .u16 0,.slice none 0 0,.slice none 0 0,.slice none 0 0,.slice none 0 0,.int .u8 0,.int .u8 0,.int .u8 0,.int .u8 0,.int .u8 0,.slice none 0 0] fun b6 a6 a7=>Pl 1<|nt<|rt<|br<|tr<|bP a6 (.int .i64 3)<|?_
 have hs:dE dir b=(fw.zero,3):=by
   unfold dE
   (try simp only[c,d,f,bs,if_true,if_false,decide_true,decide_false,eL,qS,pZ,qq,sa,qK,reduceIte])
   all_goals rfl
 refine kB hs ?_
 exact ic (ud i a7 g)
 have a5:=of_decide_eq_false f
 refine sk<|bn<|tn<|sg<|Pl 1<|?_
 refine L0<|Oc<|e3 (dW (bh.old hsl i) (by omega)) fun u b7 p a8 a9=>Pl 1<|ng<|Pl 1<|ng<|Pl 2<|L0<|gx #[] #[] (args:=#[.pointer (some ⟨u,0,none⟩)])<|m3 (cg a8) fun b9 aa ac ba=>Pl 2<|L0<|gx #[] #[] (args:=#[.pointer (some ⟨u,0,none⟩)])<|m3 (cg aa) fun bb ad ae bc=>?_
 refine ab ad fun x46 s af=>?_
 refine Pl 2<|L0<|gx #[] #[] (args:=#[.pointer (some ⟨u,0,none⟩)])<|m3 (cg af) fun bd ag ah bf=>Pl 3<|nt<|sq<|bk<|sg<|Pl 3<|nt<|?_
 have j:=ud a9 (u1 ac (u1 ae ah im) im) p
 have v:=aG i j
 refine cb (((((aj.mk b false 0).wordsC 1).wordV)!=0)) (fun h=>?_) (fun h=>?_)
 have ak:=az h
 refine sg<|Pl 1<|?_
 refine L0<|be (ub j e) #[.int .u8 0,.int .u16 0,.int .u8 0,.int .u8 0,.int .u16 0,.int .u16 0,.int .u16 0,.int .u16 0,.int .u16 0,.int .u16 0,.int .u16 0,.int .u16 0,.int .u16 0,.int .u16 0,.slice none 0 0,.slice none 0 0,.slice none 0 0,.slice none 0 0,.int .u8 0,.int .u8 0,.int .u8 0,.int .u8 0,.int .u8 0,.slice none 0 0] fun bg al am=>Pl 1<|nt<|rt<|br<|tr<|bP al (.int .i64 13)<|?_
 subst s
 have hs:dE dir b=(fw.zero,13):=by
   unfold dE
   (try simp only[c,d,f,h,bs,if_true,if_false,decide_true,decide_false,eL,qS,pZ,qq,sa,qK,reduceIte])
   all_goals rfl
 refine kB hs ?_
 exact ic (ud v am g)
 have ak:=ai h
 refine sg<|Pl 1<|L0<|Oi x46.wordV<|Pl 2<|L0<|Oi (((b.length:Nat) : Int)-6)<|Pl 2<|nt<|cb ((x46.wordV != (((b.length:Nat) : Int)-6))) (fun k=>?_) (fun k=>?_)
 have an:=az k
 refine sg<|Pl 1<|?_
 refine L0<|be (ub j e) #[.int .u8 0,.int .u16 0,.int .u8 0,.int .u8 0,.int .u16 0,.int .u16 0,.int .u16 0,.int .u16 0,.int .u16 0,.int .u16 0,.int .u16 0,.int .u16 0,.int .u16 0,.int .u16 0,.slice none 0 0,.slice none 0 0,.slice none 0 0,.slice none 0 0,.int .u8 0,.int .u8 0,.int .u8 0,.int .u8 0,.int .u8 0,.slice none 0 0] fun bi ao aq=>Pl 1<|nt<|rt<|br<|tr<|bP ao (.int .i64 5)<|?_
 subst s
 have hs:dE dir b=(fw.zero,5):=by
   unfold dE
   (try simp only[c,d,f,h,k,bs,if_true,if_false,decide_true,decide_false,eL,qS,pZ,qq,sa,qK,reduceIte])
   all_goals rfl
 refine kB hs ?_
 exact ic (ud v aq g)
 have an:=ai k
 refine sk<|bn<|tn<|sg<|Pl 1<|L0<|Oc<|m3 (ch ag) fun bj t Q bm=>Pl 1<|ng<|Pl 3<|L0<|Oc<|mq (eh t)<|?_
 have bo:=ap.len t
 refine L0<|Oc<|qX (cL (n:=((((x46.wordsC 1).bytesC 1).l.length:Nat) : Int)) t) fun bq bt ar au bv bw av R=>?_
 have bx:=Nat.le_trans (aj.bytesR_le ((x46.wordsC 1).bytesC 1) ((((x46.wordsC 1).bytesC 1).l.length:Nat) : Int)) (ap.len t)
 refine ab av fun x80 S bz=>?_
 obtain⟨a,q,x⟩ : ∃ M E,cZ dir (((x46.wordsC 1).bytesC 1).bytesR ((((x46.wordsC 1).bytesC 1).l.length:Nat) : Int))=(M,E):=⟨_,_,rfl⟩
 have T:=qP (dir:=dir) (w:=ar) au (by omega)
 rw[x] at T
 refine L0<|Oc<|e2 T fun aw bA U V=>?_
 have ay:=U
 obtain⟨aA,aB,aC,aE,aF,aH,aI,aJ,aL,aM,aO,bB⟩:=ay
 obtain rfl:aw=(bu a aA aB aC aE aF).toArray:=by apply Array.toList_inj.1;simpa using aH
 obtain⟨y,z,rfl,_,_⟩:=aI.shape
 obtain⟨B,C,rfl,_,_⟩:=aJ.shape
 obtain⟨D,F,rfl,_,_⟩:=aL.shape
 obtain⟨G,H,rfl,_,_⟩:=aM.shape
 obtain⟨I,J,rfl,_,_⟩:=aO.shape
 refine Pl 3<|L0<|bO mZ fun bC bD aP aQ aR=>L0<|be aQ (mG a.code a.fail a.addr a.count a.value a.and_ a.or_ a.addr2 a.sub a.status a.events a.messages (.slice y a.words.length z) (.slice B a.bits.length C) (.slice D a.data.length F) (.slice G a.recs.length H) a.mei a.kind a.level a.more a.next (.slice I a.objects.length J)) fun bE aS aT=>Pl 1<|nt<|sq<|sg<|Pl 2<|nt<|?_
 have W:=ud aR aT aP
 have L:=u1 Q (aG R (aG V W)) im
 have X:=ud v L (le i.size p)
 refine cb ((q != 0)) (fun r=>?_) (fun r=>?_)
 have aU:=az r
 refine sg<|Pl 2<|?_
 refine L0<|be (ub (ud j L p) e) #[.int .u8 0,.int .u16 0,.int .u8 0,.int .u8 0,.int .u16 0,.int .u16 0,.int .u16 0,.int .u16 0,.int .u16 0,.int .u16 0,.int .u16 0,.int .u16 0,.int .u16 0,.int .u16 0,.slice none 0 0,.slice none 0 0,.slice none 0 0,.slice none 0 0,.int .u8 0,.int .u8 0,.int .u8 0,.int .u8 0,.int .u8 0,.slice none 0 0] fun bF aV aW=>Pl 1<|nt<|rt<|tr<|bP aV (.int .i64 q)<|?_
 subst S s
 have hX2:cZ dir (jy b)=(a,q):=x
 have hs:dE dir b=(fw.zero,q):=by
   unfold dE
   (try simp only[c,d,f,h,k,r,bs,if_true,if_false,decide_true,decide_false,eL,qS,pZ,qq,sa,qK,hX2,reduceIte])
   all_goals rfl
 refine kB hs ?_
 exact ic (ud X aW g)
 have aU:=ai r
 refine bp<|sg<|Pl 3<|L0<|bS aS<|Pl 1<|?_
 refine L0<|be (ub (ud j L p) e) #[.int .u8 ((x46.wordsC 1).byteV),.int .u16 ((aj.mk b false 0).wordV),.int .u8 a.code,.int .u8 a.fail,.int .u16 a.addr,.int .u16 a.count,.int .u16 a.value,.int .u16 a.and_,.int .u16 a.or_,.int .u16 a.addr2,.int .u16 a.sub,.int .u16 a.status,.int .u16 a.events,.int .u16 a.messages,.slice y a.words.length z,.slice B a.bits.length C,.slice D a.data.length F,.slice G a.recs.length H,.int .u8 a.mei,.int .u8 a.kind,.int .u8 a.level,.int .u8 a.more,.int .u8 a.next,.slice I a.objects.length J] fun bG aX Y=>Pl 1<|nt<|rt<|bP aX (.int .i64 0)<|?_
 subst S s
 have hX2:cZ dir (jy b)=(a,q):=x
 have hs:dE dir b=(⟨((((aj.mk b false 0).wordsC 1).wordsC 1).wordsC 1).byteV,(aj.mk b false 0).wordV,a⟩,0):=by
   unfold dE
   (try simp only[c,d,f,h,k,r,bs,if_true,if_false,decide_true,decide_false,eL,qS,pZ,qq,sa,qK,hX2,reduceIte])
   all_goals rfl
 refine kB hs ?_
 exact⟨_,rfl,⟨#[.int .u8 a.code,.int .u8 a.fail,.int .u16 a.addr,.int .u16 a.count,.int .u16 a.value,.int .u16 a.and_,.int .u16 a.or_,.int .u16 a.addr2,.int .u16 a.sub,.int .u16 a.status,.int .u16 a.events,.int .u16 a.messages,.slice y a.words.length z,.slice B a.bits.length C,.slice D a.data.length F,.slice G a.recs.length H,.int .u8 a.mei,.int .u8 a.kind,.int .u8 a.level,.int .u8 a.more,.int .u8 a.next,.slice I a.objects.length J],(by as_aux_lemma=>kernel_rfl),(aN.upd U (uz W Y) (ax (aY (ub (ud j (u1 Q (aG R V) im) p) e) (by decide)) aK)),b8 (by omega),aD (by omega)⟩,(ud X Y g)⟩
theorem pf{m:Md}{v:Value}{b:List Int}{w:World}{dir:Int}(h:bh m w v b)(hb:b.length≤1048576) : Calls Tryz.prog 32 #[.int .i64 dir,v] w (tf (dE dir b) w):=by
  obtain⟨A,cp,rfl,_,_⟩:=h.shape
  exact nK h hb
open Go.RowKit
def eq (dir u t:Int)(M:aQ) : Option (List Int) :=
  match cS dir M with
  | none=>none
  | some l=>some ((aE [t,0,((l.length:Int)+1)%65536]++[u])++l)
theorem iH{m:Md}{cs:Array Value}{M:aQ}{w:World}{dir u t:Int}(h:aN m w cs.toList M)(hf:bM M)(hu:B8 u)(ht:dB t) : Calls Tryz.prog 34 #[.int .i64 dir,.agg (#[.int .u8 u,.int .u16 t]++cs)] w (dG (eq dir u t M) w):=by
 have hM:=h
 obtain⟨hu1,hu2⟩:=hu
 obtain⟨ht1,ht2⟩:=ht
 obtain⟨vw,vb,vd,vr,vo,h0,hw,hbt,hd,hr,ho,hR⟩:=h
 obtain rfl:cs=(bu M vw vb vd vr vo).toArray:=by apply Array.toList_inj.1;simpa using h0
 clear h0
 obtain⟨Aw,kw,rfl,_,_⟩:=hw.shape
 obtain⟨Ab,kb,rfl,_,_⟩:=hbt.shape
 obtain⟨Ad,kd,rfl,_,_⟩:=hd.shape
 obtain⟨Ar,kr,rfl,_,_⟩:=hr.shape
 obtain⟨Ao,ko,rfl,_,_⟩:=ho.shape
 obtain⟨q0,q1,q2,q3,q4,q5,q6,q7,q8,q9,r,s,v,y,z,A,B⟩:=hR
 simp only[B8,dB] at q0 q1 q2 q3 q4 q5 q6 q7 q8 q9 r s v y z A B
 refine en 35 Tryz.func34 rfl<|sg<|L0<|dv #[.int .u8 u,.int .u16 t,.int .u8 M.code,.int .u8 M.fail,.int .u16 M.addr,.int .u16 M.count,.int .u16 M.value,.int .u16 M.and_,.int .u16 M.or_,.int .u16 M.addr2,.int .u16 M.sub,.int .u16 M.status,.int .u16 M.events,.int .u16 M.messages,.slice Aw M.words.length kw,.slice Ab M.bits.length kb,.slice Ad M.data.length kd,.slice Ar M.recs.length kr,.int .u8 M.mei,.int .u8 M.kind,.int .u8 M.level,.int .u8 M.more,.int .u8 M.next,.slice Ao M.objects.length ko] fun Q R S g a=>Pl 2<|ng<|Pl 2<|L0<|vD g 2 22<|?_
 rcases hwr:cS dir M with _|lw
 have i:=md (dir:=dir) (aN.old hM a) hf
 rw[hwr] at i
 refine L0<|Oc<|m1 i fun T C=>Pl 5<|nt<|sq<|sg<|Pl 2<|nt<|c1<|sg<|Pl 2<|nl<|?_
 refine tn<|rt<|tr<|rr (.tuple #[.slice none 0 0,.int .i64 1])<|?_
 have hs:eq dir u t M=none:=by
   unfold eq
   (try simp only[hwr])
   all_goals rfl
 refine ed hs ?_
 exact⟨rfl,(aG a C)⟩
 have hlw:=nM hwr
 have j:=md (dir:=dir) (aN.old hM a) hf
 rw[hwr] at j
 refine L0<|Oc<|di j fun U V W D X Y d=>Pl 5<|nt<|sq<|sg<|Pl 2<|nt<|c0<|bp<|sq<|?_
 refine go<|Pl 2<|?_
 have k:=ub d g
 refine L0<|aP k 1<|Pl 2<|L0<|Oi (((lw.length:Nat) : Int)+1)<|Pl 1<|L0<|cK (m:=3) (e:=24) #[.int .u16 t,.int .u16 0,.int .u16 ((((lw.length:Nat) : Int)+1)%65536)] fun Z a0 E F b=>?_
 have G:=dc E (xs:=[t,0,((((lw.length:Nat) : Int)+1)%65536)]) (by as_aux_lemma=>kernel_rfl) (am (by omega) (am (by omega) (am (by omega) aJ))) (by(try simp only[List.length_cons,List.length_nil]);omega) F
 refine L0<|Oc<|di (bF (xs:=[t,0,((((lw.length:Nat) : Int)+1)%65536)]) (G).rd (by(try simp only[List.length_cons,List.length_nil]);omega)) fun H a1 a2 l a3 a4 f=>Pl 1<|ng<|Pl 3<|?_
 have n:=aG b f
 refine L0<|aP (ub n k) 0<|L0<|cK (m:=1) (e:=5) #[.int .u8 u] fun a5 a6 I J c=>?_
 have K:=cN I (xs:=[u]) (by as_aux_lemma=>kernel_rfl) (am (by omega) aJ) (by(try simp only[List.length_cons,List.length_nil]);omega) J
 refine L0<|bE aV (xs:=(aE ([t,0,((((lw.length:Nat) : Int)+1)%65536)]))) (ys:=([u])) (.int .u8 0) 1 (aq l c (fun x hx=>aA) (fun _ _ h=>h)) (K).rd (by(try simp only[List.length_append,List.length_cons,List.length_nil,ay]);omega) (le f.size c.size) fun a7 a8 a9 o p=>Pl 1<|?_
 have q:=ut n (ut (aF.mono (S':=(ob H++[])) c av) p (al il av)) (al (aM l b.size) av)
 refine L0<|bE aV (xs:=((aE ([t,0,((((lw.length:Nat) : Int)+1)%65536)]))++[u])) (ys:=lw) (.int .u8 0) 1 o ((aq D q (fun x hx=>aA) (fun _ _ h=>h))).rd (by(try simp only[List.length_append,List.length_cons,List.length_nil,ay]);omega) (le (le f.size c.size) p.size) fun L N aa O P=>Pl 2<|nt<|rt<|rr (.tuple #[.slice L ((((aE ([t,0,((((lw.length:Nat) : Int)+1)%65536)]))++[u])++lw).length) N,.int .i64 0])<|?_
 have hs:eq dir u t M=(some (((aE ([t,0,((((lw.length:Nat) : Int)+1)%65536)]))++[u])++lw)):=by
   unfold eq
   (try simp only[hwr])
   all_goals rfl
 refine ed hs ?_
 exact⟨_,rfl,(aW.weaken O (le (le a.size d.size) b.size)),(aG a (aG d (ut q P (al (aM o b.size) av))))⟩
open Go.RowKit
theorem na{m:Md}{v:Value}{b:List Int}{w:World}{dir:Int}{F:fw}{E:Int}(hX:dE dir b=(F,E))(h:bh m w v b)(hb:b.length≤1048576) : Calls Tryz.prog 32 #[.int .i64 dir,v] w (fun e w'=>∃ x,e = .returned (.tuple #[.agg (pz F.unit F.tid F.msg x),.int .i64 E])∧(aN true w' (oM F.msg x).toList F.msg∧(0≤F.unit∧F.unit<256)∧(0≤F.tid∧F.tid<65536))∧aF [] w w'):=by
  refine(pf h hb).mono ?_
  rintro e w' ⟨cs,rfl,h1,h2⟩
  rw[hX] at h1 ⊢
  obtain⟨c,rfl,h3,h4,h5⟩:=h1
  obtain⟨x,rfl⟩:=ph h3
  exact⟨x,by rw[mU],⟨h3,h4,h5⟩,h2⟩
theorem ns{m:Md}{x:SL}{M:aQ}{w:World}{dir u t:Int}(hX:eq dir u t M=none)(h:aN m w (oM M x).toList M)(hf:bM M)(hu:0≤u∧u<256)(ht:0≤t∧t<65536) : Calls Tryz.prog 34 #[.int .i64 dir,.agg (pz u t M x)] w (fun e w'=>e = .returned (.tuple #[.slice none 0 0,.int .i64 1])∧aF [] w w'):=by
  have:=iH (dir:=dir) h hf hu ht
  rw[hX] at this
  rw[mU]
  exact this
theorem mT{m:Md}{x:SL}{M:aQ}{w:World}{dir u t:Int}{l:List Int}(hX:eq dir u t M=some l)(h:aN m w (oM M x).toList M)(hf:bM M)(hu:0≤u∧u<256)(ht:0≤t∧t<65536) : Calls Tryz.prog 34 #[.int .i64 dir,.agg (pz u t M x)] w (fun e w'=>∃ v,e = .returned (.tuple #[v,.int .i64 0])∧eI w.heap.size w' v l∧aF [] w w'):=by
  have:=iH (dir:=dir) h hf hu ht
  rw[hX] at this
  rw[mU]
  exact this
open Go.RowKit
theorem nU(a b c d:Int)(w:World) : (Op.equalIn 10000 42 (.agg #[.int .u8 a,.int .u16 b]) (.agg #[.int .u8 c,.int .u16 d])).run Tryz.prog w = .ok ((a==c)&&(b==d)) w:=by
  have hS:Tryz.prog.underlying 42=some (.struct (Tryz.prog.fieldsOf 42)):=by kernel_rfl
  have hp:Tryz.prog.stoodInHeld 42=false:=by kernel_rfl
  rw[show(10000:Nat)=9998+1+1 from rfl,run_equalIn_agg w (9998+1) 42 _ _ hS hp]
  simp only[Program.fieldsOf,Tryz.underlying42]
  have p0:∀ v:Int,(part 5 #[.int .u8 v,.int .u16 b] 0).run Tryz.prog w = .ok (.int .u8 v) w:=fun v=>by simp[part,isAgg,run_underlying Tryz.underlying5,Result.andThen]
  have p0':∀ v:Int,(part 5 #[.int .u8 v,.int .u16 d] 0).run Tryz.prog w = .ok (.int .u8 v) w:=fun v=>by simp[part,isAgg,run_underlying Tryz.underlying5,Result.andThen]
  have p1:∀ v u:Int,(part 24 #[.int .u8 u,.int .u16 v] 1).run Tryz.prog w = .ok (.int .u16 v) w:=fun v u=>by simp[part,isAgg,run_underlying Tryz.underlying24,Result.andThen]
  have e0:=run_equalIn_int (P:=Tryz.prog) w 9998 5 .u8 _ a c Tryz.underlying5
  have e1:=run_equalIn_int (P:=Tryz.prog) w 9998 24 .u16 _ b d Tryz.underlying24
  simp only[Op.eqFields,Sem.run_bind,p0,p0',p1,e0,e1,Result.andThen_ok,ne_eq,String.reduceEq,not_false_eq_true,if_true,Sem.run_ite]
  cases (a==c)<;>cases (b==d)<;>simp
theorem pQ{ev:Operand→Value}{o:Oper}{x y:Operand}{t:TypeId}(a b c d:Int){v:Bool}{w:World}(ho:o.op = .binOp .eql 42 x y t)
    (hx:ev x = .agg #[.int .u8 a,.int .u16 b]) (hy:ev y = .agg #[.int .u8 c,.int .u16 d]) (hv:((a==c)&&(b==d))=v) : (execOp ev o).run Tryz.prog w = .ok (.value (.bool v)) w:=by
  subst hv
  have hg:(eqGuard .eql 42 x y (.agg #[.int .u8 a,.int .u16 b]) (.agg #[.int .u8 c,.int .u16 d])).run Tryz.prog w = .ok () w:=run_eqGuard_agg w _ _ _ _ _ _ (by kernel_rfl)
  unfold execOp
  simp only[ho,hx,hy,Sem.run_bind,hg,Result.andThen_ok,run_eql_struct,nU,Sem.run_pure]
theorem pP{ev:Operand→Value}{o:Oper}{x y:Operand}{t:TypeId}(a b c d:Int){v:Bool}{w:World}(ho:o.op = .binOp .neq 42 x y t)
    (hx:ev x = .agg #[.int .u8 a,.int .u16 b]) (hy:ev y = .agg #[.int .u8 c,.int .u16 d]) (hv:(!((a==c)&&(b==d)))=v) : (execOp ev o).run Tryz.prog w = .ok (.value (.bool v)) w:=by
  subst hv
  have hg:(eqGuard .neq 42 x y (.agg #[.int .u8 a,.int .u16 b]) (.agg #[.int .u8 c,.int .u16 d])).run Tryz.prog w = .ok () w:=run_eqGuard_agg w _ _ _ _ _ _ (by kernel_rfl)
  unfold execOp
  simp only[ho,hx,hy,Sem.run_bind,hg,Result.andThen_ok,run_neq_struct,nU,Sem.run_pure]
open Go.RowKit
def nv:aQ:={ aQ.zero with code:=7 }
theorem xP(w:World) : aN true w (mC 7).toList nv:=⟨fS,fS,fS,fS,fS,rfl,aS.nil ..,aS.nil ..,aS.nil ..,aS.nil ..,aS.nil ..,{ fs.zero with code:=(by decide:(0:Int)≤7∧(7:Int)<256) }⟩
theorem wY:bM nv:=⟨by decide,by decide,by decide,by decide,(fun r h=>nomatch h),by decide,(fun r h=>nomatch h)⟩
theorem xo:eq 0 1 9 nv=some [0,9,0,0,0,2,1,7]:=by decide +kernel
theorem xO:dE 0 [0,9,0,0,0,2,1,7]=(⟨1,9,nv⟩,0):=by decide +kernel
theorem xv{w:World}:Calls Tryz.prog 34 #[.int .i64 0,.agg #[.int .u8 1,.int .u16 9,.int .u8 7,.int .u8 0,.int .u16 0,.int .u16 0,.int .u16 0,.int .u16 0,.int .u16 0,.int .u16 0,.int .u16 0,.int .u16 0,.int .u16 0,.int .u16 0,.slice none 0 0,.slice none 0 0,.slice none 0 0,.slice none 0 0,.int .u8 0,.int .u8 0,.int .u8 0,.int .u8 0,.int .u8 0,.slice none 0 0]] w (fun e w'=>∃ v,e = .returned (.tuple #[v,.int .i64 0])∧eI w.heap.size w' v [0,9,0,0,0,2,1,7]∧aF [] w w'):=by
  have h:=iH (dir:=0) (u:=1) (t:=9) (xP w) wY (show(0:Int)≤1∧(1:Int)<256 from by decide) (show(0:Int)≤9∧(9:Int)<65536 from by decide)
  rw[xo] at h
  rw[show #[.int .u8 1,.int .u16 9,.int .u8 7,.int .u8 0,.int .u16 0,.int .u16 0,.int .u16 0,.int .u16 0,.int .u16 0,.int .u16 0,.int .u16 0,.int .u16 0,.int .u16 0,.int .u16 0,.slice none 0 0,.slice none 0 0,.slice none 0 0,.slice none 0 0,.int .u8 0,.int .u8 0,.int .u8 0,.int .u8 0,.int .u8 0,.slice none 0 0] = #[.int .u8 1,.int .u16 9]++mC 7 from by kernel_rfl]
  exact h
theorem uV{w:World}:Calls Tryz.prog 31 #[] w (dM (.bool true) w):=by
 refine en 40 Tryz.func31 rfl<|sg<|Pl 1<|ng<|Pl 3<|L0<|Oc<|di (@xv w) fun l m r e s t o=>Pl 5<|nt<|sq<|?_
 refine go<|Pl 1<|L0<|Oc<|e2 (na xO (e).rd (by decide)) fun x19 u p d=>?_
 obtain⟨v,y,z⟩:=p
 refine Pl 3<|L0<|bO #[.int .u8 0,.int .u16 0,.int .u8 0,.int .u8 0,.int .u16 0,.int .u16 0,.int .u16 0,.int .u16 0,.int .u16 0,.int .u16 0,.int .u16 0,.int .u16 0,.int .u16 0,.int .u16 0,.slice none 0 0,.slice none 0 0,.slice none 0 0,.slice none 0 0,.int .u8 0,.int .u8 0,.int .u8 0,.int .u8 0,.int .u8 0,.slice none 0 0] fun B C f q g=>L0<|be q #[.int .u8 1,.int .u16 9,.int .u8 7,.int .u8 0,.int .u16 0,.int .u16 0,.int .u16 0,.int .u16 0,.int .u16 0,.int .u16 0,.int .u16 0,.int .u16 0,.int .u16 0,.int .u16 0,.slice x19.aw nv.words.length x19.kw,.slice x19.ab nv.bits.length x19.kb,.slice x19.ad nv.data.length x19.kd,.slice x19.ar nv.recs.length x19.kr,.int .u8 0,.int .u8 0,.int .u8 0,.int .u8 0,.int .u8 0,.slice x19.ao nv.objects.length x19.ko] fun D i j=>Pl 1<|ng<|Pl 8<|?_
 refine L1<|nC (.string (strOfNums ([0,9,0,0,0,2,1,7]))) (eV (A:=l) (n:=[0,9,0,0,0,2,1,7].length) (c:=m) rfl (by kernel_rfl) Tryz.underlying22 Tryz.underlying5 Tryz.underlying9 ((aq e (u1 (aG d g) j (ni d.size f)) (fun x hx=>aA) (fun _ _ h=>h))).rd)<|L1<|nC (.bool true) (kL (a:=(strOfNums ([0,9,0,0,0,2,1,7]))) (b:=⟨#[0,9,0,0,0,2,1,7]⟩) rfl (by kernel_rfl) (by kernel_rfl) (uj rfl (by decide)))<|Pl 3<|L1<|vD i 0 2<|Pl 1<|L1<|nC (.bool true) (pQ 1 9 1 9 rfl (by kernel_rfl) (by kernel_rfl) (by decide))<|Pl 4<|L1<|aP i 2<|Pl 3<|nt<|rt<|rr (.bool true)<|?_
 have k:=aG o d
 exact⟨rfl,(u1 (aG k g) j (ni k.size f))⟩
end Go.Proofs.YtogbnemojakcpaaGreat
namespace Go.Proofs.YtogbnemojakcpaaGreat
def eN (C:aj) : Prop:=∀ x,x∈C.l→0≤x∧x<256
theorem fW{C:aj}{ok:Bool}{x:Int}(hx:x≠0)(h:(C.need ok x).e=0) : C.e=0∧ok=true:=by
  unfold aj.need at h
  split at h
  · exact absurd h hx
  · rename_i hh
    refine⟨h,?_⟩
    cases ok
    · exact absurd ⟨h,rfl⟩ hh
    · rfl
theorem gG{C:aj}{n:Int}(h:(C.bytesC n).e=0) : C.e=0∧C.l=C.bytesR n++(C.bytesC n).l∧((C.bytesR n).length:Int)=n:=by
  unfold aj.bytesC at h ⊢
  unfold aj.bytesR
  split at h
  · exfalso
    unfold aj.need at h
    split at h
    · cases h
    · rename_i hh
      exact hh ⟨h,rfl⟩
  · rename_i hf
    rw[if_neg hf,if_neg hf]
    refine⟨h,(List.take_append_drop _ _).symm,?_⟩
    unfold aj.fails at hf
    simp only[Bool.or_eq_true,decide_eq_true_eq,not_or] at hf
    rw[List.length_take]
    omega
theorem lg:∀ (l:List Int),l.length%2=0→(∀ x,x∈l→0≤x∧x<256)→aE (du l)=l
  | [],_,_=>rfl
  | [_],h,_=>by simp at h
  | a :: b :: r,h,hr=>by
    have ha:=hr a (by simp)
    have hb:=hr b (by simp)
    simp only[du,aE]
    rw[lg r (by simp at h;omega) (fun x hx=>hr x (by simp[hx]))]
    congr 1
    · omega
    · congr 1
      omega
theorem jK{C:aj}{n:Int}(hr:eN C)(h:(C.wordsC n).e=0) : C.e=0∧C.l=aE (C.wordsR n)++(C.wordsC n).l∧((C.wordsR n).length:Int)=n:=by
  unfold aj.wordsC at h ⊢
  unfold aj.wordsR
  split at h
  · obtain⟨_,_,h3⟩:=gG h
    omega
  · rename_i hb
    rw[if_neg hb,if_neg hb]
    obtain⟨h1,h2,h3⟩:=gG h
    have h4:(C.bytesR (2*n)).length%2=0:=by omega
    have h5:∀ x,x∈C.bytesR (2*n)→0≤x∧x<256:=fun x hx=>hr x (by rw[h2];exact List.mem_append_left _ hx)
    unfold cD
    rw[if_pos h4]
    refine⟨h1,by rw[lg _ h4 h5];exact h2,?_⟩
    rw[fx]
    omega
def dx (C:aj)(l:List Int)(C':aj) : Prop:=eN C→eN C'∧(C'.e=0→C.e=0∧C.l=l++C'.l)
theorem dx.trans{A B C:aj}{l m:List Int}(h:dx A l B)(k:dx B m C) : dx A (l++m) C:=fun hr=>by
  obtain⟨h1,h2⟩:=h hr
  obtain⟨k1,k2⟩:=k h1
  refine⟨k1,fun he=>?_⟩
  obtain⟨k3,k4⟩:=k2 he
  obtain⟨h3,h4⟩:=h2 k3
  exact⟨h3,by rw[h4,k4,List.append_assoc]⟩
theorem dx.refl(C:aj) : dx C [] C:=fun hr=>⟨hr,fun he=>⟨he,rfl⟩⟩
theorem dx.need{A C:aj}{l:List Int}{ok:Bool}{x:Int}(h:dx A l C)(hx:x≠0:=by decide) : dx A l (C.need ok x):=fun hr=>by
  obtain⟨h1,h2⟩:=h hr
  refine⟨fun y hy=>h1 y (by rwa [jj] at hy),fun he=>?_⟩
  rw[jj]
  exact h2 (fW hx he).1
theorem dx.bytes{A C:aj}{l:List Int}(h:dx A l C)(n:Int) : dx A (l++C.bytesR n) (C.bytesC n):=h.trans fun hr=>⟨gQ hr n,fun he=>⟨(gG he).1,(gG he).2.1⟩⟩
theorem dx.words{A C:aj}{l:List Int}(h:dx A l C)(n:Int) : dx A (l++aE (C.wordsR n)) (C.wordsC n):=h.trans fun hr=>⟨cT hr n,fun he=>⟨(jK hr he).1,(jK hr he).2.1⟩⟩
theorem tT{l:List Int}(h:(l.length:Int)=1) : l=[l.getD 0 0]:=by
  match l,h with
  | [a],_=>rfl
  | [],h=>simp at h
  | _ :: _ :: _,h=>simp at h;omega
theorem dx.byte{A C:aj}{l:List Int}(h:dx A l C) : dx A (l++[C.byteV]) (C.bytesC 1):=h.trans fun hr=>⟨gQ hr 1,fun he=>by
  obtain⟨h1,h2,h3⟩:=gG he
  refine⟨h1,?_⟩
  have:=tT h3
  show C.l=[(C.bytesR 1).getD 0 0]++_
  rw[← this]
  exact h2⟩
theorem dx.word{A C:aj}{l:List Int}(h:dx A l C) : dx A (l++aE [C.wordV]) (C.wordsC 1):=h.trans fun hr=>⟨cT hr 1,fun he=>by
  obtain⟨h1,h2,h3⟩:=jK hr he
  refine⟨h1,?_⟩
  have:=tT h3
  show C.l=aE [(C.wordsR 1).getD 0 0]++_
  rw[← this]
  exact h2⟩
theorem dx.fin{A C:aj}{l:List Int}(h:dx A l C)(hr:eN A)(he:C.endC.e=0) : C.e=0∧A.l=l:=by
  unfold aj.endC at he
  obtain⟨h1,h2⟩:=fW (by decide) he
  obtain⟨_,h3⟩:=(h hr).2 h1
  have:C.l=[]:=by
    simp only[beq_iff_eq] at h2
    exact List.eq_nil_of_length_eq_zero (by omega)
  exact⟨h1,by rw[h3,this,List.append_nil]⟩
theorem da{C:aj}(hr:eN C) : 0≤C.byteV∧C.byteV<256:=by
  unfold aj.byteV
  rw[List.getD_eq_getElem?_getD]
  cases h:(C.bytesR 1)[0]? with
  | none=>simp
  | some x =>
    have hm:x∈C.bytesR 1:=List.mem_of_getElem? h
    have:x∈C.l:=by
      unfold aj.bytesR at hm
      split at hm
      · cases hm
      · exact List.mem_of_mem_take hm
    exact hr x this
theorem kU(C:aj)(most:Int) : dx C (aE [C.wordV,(C.wordsC 1).wordV]) (bD C most):=by
  have:=(((dx.refl C).word).word)
  exact(this.need).need
theorem uo:∀ n:Nat,n<256→(((if ((n:Int)/2 ^ 0%2==1) then 1 else 0)+(if ((n:Int)/2 ^ 1%2==1) then 2 else 0)+(if ((n:Int)/2 ^ 2%2==1) then 4 else 0)+(if ((n:Int)/2 ^ 3%2==1) then 8 else 0)+(if ((n:Int)/2 ^ 4%2==1) then 16 else 0)+(if ((n:Int)/2 ^ 5%2==1) then 32 else 0)+(if ((n:Int)/2 ^ 6%2==1) then 64 else 0)+(if ((n:Int)/2 ^ 7%2==1) then 128 else 0) : Nat) : Int)=n:=by decide +kernel
theorem lF{x:Int}(hx:0≤x∧x<256)(f:Nat→Bool)(hf:∀ i,i<8→f i=(x/2 ^ i%2==1)) :
    (((if f 0 then 1 else 0)+(if f 1 then 2 else 0)+(if f 2 then 4 else 0)+(if f 3 then 8 else 0)+(if f 4 then 16 else 0)+(if f 5 then 32 else 0)+(if f 6 then 64 else 0)+(if f 7 then 128 else 0) : Nat) : Int)=x:=by
  rw[hf 0 (by decide),hf 1 (by decide),hf 2 (by decide),hf 3 (by decide),hf 4 (by decide),hf 5 (by decide),hf 6 (by decide),hf 7 (by decide)]
  obtain⟨n,rfl⟩:=Int.eq_ofNat_of_zero_le hx.1
  exact uo n (by omega)
theorem jR{b:List Int}{n:Int}{l:List Bool}(hr:∀ x,x∈b→0≤x∧x<256)(h:cz b n=some l) : bR l=b:=by
  unfold cz at h
  split at h
  · rename_i hc
    split at h
    · rename_i hall
      injection h with h
      subst h
      have hlen:((List.range n.toNat).map (cJ b)).length=n.toNat:=by simp
      have hm:((List.range n.toNat).map (cJ b)).length=n:=by rw[hlen];omega
      unfold bR
      rw[hm,← hc.2]
      apply List.ext_getElem
      · simp
      intro j h1 h2
      simp only[List.getElem_map,List.getElem_range]
      have hj:j<b.length:=h2
      have hget:∀ i,i<8*b.length→((List.range n.toNat).map (cJ b)).getD i false=cJ b i:=fun i hi=>by
        rw[List.getD_eq_getElem?_getD,List.getElem?_map]
        by_cases hin:i<n.toNat
        · rw[List.getElem?_range hin];rfl
        · rw[List.getElem?_eq_none (by simpa using hin)]
          rw[List.all_eq_true] at hall
          have:=hall i (by simpa using hi)
          simp only[Bool.or_eq_true,decide_eq_true_eq,Bool.not_eq_true'] at this
          rcases this with h3|h3
          · omega
          · simp[h3]
      have hx:∀ k,k<8→cJ b (8*j+k)=(b[j]/2 ^ k%2==1):=fun k hk=>by
        unfold cJ
        rw[show(8*j+k)/8=j from by omega,show(8*j+k)%8=k from by omega,List.getD_eq_getElem?_getD,List.getElem?_eq_getElem hj]
        rfl
      unfold ci
      rw[show(8*j:Nat)=8*j+0 from rfl]
      simp only[hget _ (show 8*j+0<8*b.length by omega),hget _ (show 8*j+0+1<8*b.length by omega),hget _ (show 8*j+0+2<8*b.length by omega),hget _ (show 8*j+0+3<8*b.length by omega),hget _ (show 8*j+0+4<8*b.length by omega),hget _ (show 8*j+0+5<8*b.length by omega),hget _ (show 8*j+0+6<8*b.length by omega),hget _ (show 8*j+0+7<8*b.length by omega)]
      exact lF (hr _ (List.getElem_mem hj)) (fun k=>cJ b (8*j+k)) hx
    · cases h
  · cases h
end Go.Proofs.YtogbnemojakcpaaGreat
namespace Go.Proofs.YtogbnemojakcpaaGreat
theorem bW{α β:Type}{p:α × β}{a:α}{b:β}(h:some p=some (a,b)) : p.1=a∧p.2=b:=by
  injection h with h
  rw[h]
  exact⟨rfl,rfl⟩
theorem qz{C:aj}{most c:Int}(hr:eN C)(he:(cF most c C).1.endC.e=0) : aE [C.wordV,(C.wordsC 1).wordV]=C.l:=((kU C most).fin hr he).2.symm
theorem tb{C:aj}{c:Int}(hr:eN C)(he:(cn c C).1.endC.e=0) : [(((d6 C).bytesR C.byteV).length:Int)%256]++(d6 C).bytesR C.byteV=C.l:=by
  have hbv:=da hr
  have hE:dx C ([]++[C.byteV]++(d6 C).bytesR C.byteV) ((d6 C).bytesC C.byteV):=(((dx.refl C).byte).need).bytes _
  obtain⟨h1,h2⟩:=hE.fin hr he
  obtain⟨_,_,h3⟩:=gG h1
  rw[h2,h3,Int.emod_eq_of_lt hbv.1 hbv.2]
  rfl
theorem sB{C:aj}{c:Int}(hr:eN C)(he:(ck c C).1.endC.e=0) : aE [C.wordV,(C.wordsC 1).wordV]=C.l:=by
  have hE:dx C ([]++aE [C.wordV]++aE [(C.wordsC 1).wordV]) (dX C):=(((dx.refl C).word).word).need
  rw[(hE.fin hr he).2]
  rfl
theorem vX{C:aj}{c:Int}(hr:eN C)(he:(ew c C).1.endC.e=0) : (aE [C.wordV,(C.wordsC 1).wordV]++[((bR ((km C).getD [])).length:Int)%256])++bR ((km C).getD [])=C.l:=by
  have hE:dx C (aE [C.wordV,(C.wordsC 1).wordV]++[(bD C 1968).byteV]++(eX C).bytesR (ji C)) (kk C):=(((((kU C 1968).byte).need).bytes _).need)
  obtain⟨h1,h2⟩:=hE.fin hr he
  obtain⟨h3,h4⟩:=fW (by decide) h1
  obtain⟨_,_,h5⟩:=gG h3
  obtain⟨l,hl⟩:=Option.isSome_iff_exists.1 h4
  have hB:∀ x,x∈(eX C).bytesR (ji C)→0≤x∧x<256:=fun x hx=>hr x (by rw[h2];exact List.mem_append_right _ hx)
  have h6:bR l=(eX C).bytesR (ji C):=jR hB hl
  have hk:0≤ji C∧ji C<256:=da ((kU C 1968) hr).1
  rw[hl]
  show(aE [C.wordV,(C.wordsC 1).wordV]++[((bR l).length:Int)%256])++bR l=C.l
  rw[h6,h2,h5,Int.emod_eq_of_lt hk.1 hk.2]
  rfl
theorem sD{dir c:Int}{C C':aj}{M:aQ}(hd:dir=0∨dir=1)(hr:eN C)(h:aC dir c C=some (C',M))(he:C'.endC.e=0) : bQ dir M=C.l:=by
  unfold aC at h
  split at h
  · rename_i hc
    simp only[Bool.or_eq_true,beq_iff_eq] at hc
    rcases hd with rfl|rfl
    · have h:some (cF 2000 c C)=some (C',M):=h
      obtain⟨rfl,rfl⟩:=bW h
      rcases hc with rfl|rfl<;>exact qz hr he
    · have h:some (cn c C)=some (C',M):=h
      obtain⟨rfl,rfl⟩:=bW h
      rcases hc with rfl|rfl<;>exact tb hr he
  split at h
  · rename_i hc
    obtain rfl:c=5:=by simpa using hc
    obtain⟨rfl,rfl⟩:=bW h
    exact sB hr he
  split at h
  · rename_i hc
    obtain rfl:c=15:=by simpa using hc
    rcases hd with rfl|rfl
    · have h:some (ew 15 C)=some (C',M):=h
      obtain⟨rfl,rfl⟩:=bW h
      exact vX hr he
    · have h:some (cF 1968 15 C)=some (C',M):=h
      obtain⟨rfl,rfl⟩:=bW h
      exact qz hr he
  · cases h
theorem ij{A C:aj}{l:List Int}(h:dx A l C)(a most:Int) : dx A (l++aE [C.wordV]) (bJ C a most):=((h.word).need).need
theorem xm{n hi:Int}(h:i2 n hi=true) : n%2=0∧2≤n∧n≤hi:=by
  unfold i2 at h
  simp only[Bool.and_eq_true,decide_eq_true_eq,beq_iff_eq] at h
  exact⟨h.1.1,h.1.2,h.2⟩
theorem o4{c:Int}{C:aj}(hr:eN C)(he:(bU c C).1.endC.e=0) : [(2*(((jL C).wordsR (C.byteV/2)).length:Int))%256]++aE ((jL C).wordsR (C.byteV/2))=C.l:=by
  have hbv:=da hr
  have hE0:dx C ([]++[C.byteV]) (jL C):=((dx.refl C).byte).need
  have hE:=hE0.words (C.byteV/2)
  obtain⟨h1,h2⟩:=hE.fin hr he
  obtain⟨h3,_,h5⟩:=jK (hE0 hr).1 h1
  obtain⟨h6,h7,h8⟩:=xm (fW (by decide) h3).2
  rw[h2,h5,show(2*(C.byteV/2))%256=C.byteV from by omega]
  rfl
theorem oK{most c:Int}{C:aj}(hr:eN C)(he:(bL most c C).1.endC.e=0) : aE [C.wordV,(C.wordsC 1).wordV]=C.l:=by
  rw[((ij (dx.refl C).word C.wordV most).fin hr he).2]
  rfl
theorem uB{c:Int}{C:aj}(hr:eN C)(he:(d8 c C).1.endC.e=0) : aE [C.wordV,(C.wordsC 1).wordV]=C.l:=by
  rw[(((dx.refl C).word).word.fin hr he).2]
  rfl
theorem jY{A C:aj}{l:List Int}(h:dx A l C)(n:Int) : dx A (l++[C.byteV]) (db C n):=(h.byte).need
theorem sX{c:Int}{C:aj}(hr:eN C)(he:(cA c C).1.endC.e=0) : (aE [C.wordV,(C.wordsC 1).wordV]++[(2*(((i3 C).wordsR (C.wordsC 1).wordV).length:Int))%256])++aE ((i3 C).wordsR (C.wordsC 1).wordV)=C.l:=by
  have hE0:dx C _ (bJ (C.wordsC 1) C.wordV 123):=ij (dx.refl C).word C.wordV 123
  have hE1:dx C _ (i3 C):=jY hE0 (C.wordsC 1).wordV
  have hbv:=da (hE0 hr).1
  obtain⟨h1,h2⟩:=(hE1.words (C.wordsC 1).wordV).fin hr he
  obtain⟨h3,_,h5⟩:=jK (hE1 hr).1 h1
  have h6:=(fW (by decide) h3).2
  simp only[beq_iff_eq] at h6
  rw[h5,← h6,Int.emod_eq_of_lt hbv.1 hbv.2,h2]
  rfl
theorem sQ{c:Int}{C:aj}(hr:eN C)(he:(cm c C).1.endC.e=0) : aE [C.wordV,(C.wordsC 1).wordV,((C.wordsC 1).wordsC 1).wordV]=C.l:=by
  rw[(((dx.refl C).word).word.word.fin hr he).2]
  rfl
theorem tA{c:Int}{C:aj}(hr:eN C)(he:(cE c C).1.endC.e=0) : (aE [C.wordV,(C.wordsC 1).wordV,(bJ (C.wordsC 1) C.wordV 125).wordV,(((gP C).wordsR (fH C).wordV).length:Int)%65536]++[(2*(((gP C).wordsR (fH C).wordV).length:Int))%256])++aE ((gP C).wordsR (fH C).wordV)=C.l:=by
  have hE0:dx C _ (fH C):=(ij (dx.refl C).word C.wordV 125).word
  have hE1:dx C _ (oD C):=ij hE0 (bJ (C.wordsC 1) C.wordV 125).wordV 121
  have hE2:dx C _ (gP C):=jY hE1 (fH C).wordV
  have hbv:=da (hE1 hr).1
  have hwv:0≤(fH C).wordV∧(fH C).wordV<65536:=bT (hE0 hr).1
  obtain⟨h1,h2⟩:=(hE2.words (fH C).wordV).fin hr he
  obtain⟨h3,_,h5⟩:=jK (hE2 hr).1 h1
  have h6:=(fW (by decide) h3).2
  simp only[beq_iff_eq] at h6
  rw[h5,Int.emod_eq_of_lt hwv.1 hwv.2,← h6,Int.emod_eq_of_lt hbv.1 hbv.2,h2]
  rfl
theorem sx{c:Int}{C:aj}(hr:eN C)(he:(cC c C).1.endC.e=0) : aE [C.wordV]=C.l:=by
  rw[((dx.refl C).word.fin hr he).2]
  rfl
theorem xB{c:Int}{C:aj}(hr:eN C)(he:(i6 c C).1.endC.e=0) : aE [(2+2*(((vk C).wordsR (qA C).wordV).length:Int))%65536,(((vk C).wordsR (qA C).wordV).length:Int)%65536]++aE ((vk C).wordsR (qA C).wordV)=C.l:=by
  have hE0:dx C _ (qA C):=((dx.refl C).word).need
  have hE1:dx C _ (vk C):=(hE0.word).need
  have hwc:0≤C.wordV∧C.wordV<65536:=bT hr
  have hwv:0≤(qA C).wordV∧(qA C).wordV<65536:=bT (hE0 hr).1
  obtain⟨h1,h2⟩:=(hE1.words (qA C).wordV).fin hr he
  obtain⟨h3,_,h5⟩:=jK (hE1 hr).1 h1
  have h6:=(fW (by decide) h3).2
  simp only[beq_iff_eq] at h6
  rw[h5,h6,Int.emod_eq_of_lt hwv.1 hwv.2,Int.emod_eq_of_lt hwc.1 hwc.2,h2]
  rfl
theorem uW{dir c:Int}{C C':aj}{M:aQ}(hd:dir=0∨dir=1)(hr:eN C)(h:aI dir c C=some (C',M))(he:C'.endC.e=0) : bK dir M=C.l:=by
  unfold aI at h
  split at h
  · rename_i hc
    simp only[Bool.or_eq_true,beq_iff_eq] at hc
    rcases hd with rfl|rfl
    · have h:some (bL 125 c C)=some (C',M):=h
      obtain⟨rfl,rfl⟩:=bW h
      rcases hc with rfl|rfl<;>exact oK hr he
    · have h:some (bU c C)=some (C',M):=h
      obtain⟨rfl,rfl⟩:=bW h
      rcases hc with rfl|rfl<;>exact o4 hr he
  split at h
  · rename_i hc
    obtain rfl:c=6:=by simpa using hc
    obtain⟨rfl,rfl⟩:=bW h
    rcases hd with rfl|rfl<;>exact uB hr he
  split at h
  · rename_i hc
    obtain rfl:c=16:=by simpa using hc
    rcases hd with rfl|rfl
    · have h:some (cA 16 C)=some (C',M):=h
      obtain⟨rfl,rfl⟩:=bW h
      exact sX hr he
    · have h:some (bL 123 16 C)=some (C',M):=h
      obtain⟨rfl,rfl⟩:=bW h
      exact oK hr he
  split at h
  · rename_i hc
    obtain rfl:c=22:=by simpa using hc
    obtain⟨rfl,rfl⟩:=bW h
    rcases hd with rfl|rfl<;>exact sQ hr he
  split at h
  · rename_i hc
    obtain rfl:c=23:=by simpa using hc
    rcases hd with rfl|rfl
    · have h:some (cE 23 C)=some (C',M):=h
      obtain⟨rfl,rfl⟩:=bW h
      exact tA hr he
    · have h:some (bU 23 C)=some (C',M):=h
      obtain⟨rfl,rfl⟩:=bW h
      exact o4 hr he
  split at h
  · rename_i hc
    obtain rfl:c=24:=by simpa using hc
    rcases hd with rfl|rfl
    · have h:some (cC 24 C)=some (C',M):=h
      obtain⟨rfl,rfl⟩:=bW h
      exact sx hr he
    · have h:some (i6 24 C)=some (C',M):=h
      obtain⟨rfl,rfl⟩:=bW h
      exact xB hr he
  · cases h
end Go.Proofs.YtogbnemojakcpaaGreat
namespace Go.Proofs.YtogbnemojakcpaaGreat
theorem dx.conv{A C:aj}{l l':List Int}(h:dx A l C)(k:eN A→eN C→C.e=0→l=l') : dx A l' C:=fun hr=>by
  obtain⟨h1,h2⟩:=h hr
  refine⟨h1,fun he=>?_⟩
  rw[← k hr h1 he]
  exact h2 he
theorem vI{dir c:Int}{C:aj}(hr:eN C)(he:(dL dir c C).1.endC.e=0) : aE [(dL dir c C).2.sub]++aE (dL dir c C).2.words=C.l:=by
  have hE0:dx C ([]++aE [C.wordV]) (eR dir C):=((dx.refl C).word).need
  unfold dL at he ⊢
  split at he
  · rename_i hw
    rw[if_pos hw]
    exact(((hE0.words 1).need).fin hr he).2.symm
  · rename_i hw
    rw[if_neg hw]
    exact(((hE0.need).words _).fin hr he).2.symm
theorem o7(C:aj)(lo hi:Int) : dx C ([]++[C.byteV]) (fq C lo hi):=((dx.refl C).byte).need
theorem ou{A C:aj}{l:List Int}(h:dx A l C) : dx A (l++aE [C.wordV]) (dt C):=(h.word).need
theorem w7{c:Int}{C:aj}(hc:c=7∨c=11∨c=12∨c=17)(hr:eN C)(he:(bX c C).1.endC.e=0) : bN 1 (bX c C).2=C.l:=by
  have hbv:=da hr
  rcases hc with rfl|rfl|rfl|rfl
  · have he:(C.bytesC 1).endC.e=0:=he
    show[C.byteV%256]=C.l
    rw[Int.emod_eq_of_lt hbv.1 hbv.2,((dx.refl C).byte.fin hr he).2]
    rfl
  · have he:((dt C).wordsC 1).endC.e=0:=he
    show aE [C.wordV,(dt C).wordV]=C.l
    rw[((ou (dx.refl C)).word.fin hr he).2]
    rfl
  · have he:((fO C).bytesC (C.byteV-6)).endC.e=0:=he
    have hE:=(((ou (o7 C 6 70)).word).word).bytes (C.byteV-6)
    obtain⟨h1,h2⟩:=hE.fin hr he
    obtain⟨_,_,h3⟩:=gG h1
    show([(6+(((fO C).bytesR (C.byteV-6)).length:Int))%256]++aE [(fq C 6 70).wordV,(dt (fq C 6 70)).wordV,((dt (fq C 6 70)).wordsC 1).wordV])++(fO C).bytesR (C.byteV-6)=C.l
    have h4:(((fO C).bytesR (C.byteV-6)).length:Int)=C.byteV-6:=h3
    rw[h4,show(6+(C.byteV-6))%256=C.byteV from by omega,h2]
    rfl
  · have he:((fq C 1 251).bytesC C.byteV).endC.e=0:=he
    have hE:=(o7 C 1 251).bytes C.byteV
    obtain⟨h1,h2⟩:=hE.fin hr he
    obtain⟨_,_,h3⟩:=gG h1
    show[(((fq C 1 251).bytesR C.byteV).length:Int)%256]++(fq C 1 251).bytesR C.byteV=C.l
    rw[h3,Int.emod_eq_of_lt hbv.1 hbv.2,h2]
    rfl
theorem wF{c:Int}{C:aj}(hc:c=7∨c=11∨c=12∨c=17)(hr:eN C)(he:C.endC.e=0) : bN 0 { aQ.zero with code:=c }=C.l:=by
  have h:=((dx.refl C).fin hr he).2
  rcases hc with rfl|rfl|rfl|rfl<;>exact h.symm
theorem um{dir c:Int}{C C':aj}{M:aQ}(hd:dir=0∨dir=1)(hr:eN C)(h:aR dir c C=some (C',M))(he:C'.endC.e=0) : bN dir M=C.l:=by
  unfold aR at h
  split at h
  · rename_i hc
    obtain rfl:c=8:=by simpa using hc
    obtain⟨rfl,rfl⟩:=bW h
    have hco:(dL dir 8 C).2.code=8:=by unfold dL;split<;>rfl
    unfold bN
    rw[hco,if_pos (by rfl)]
    exact vI hr he
  split at h
  · rename_i hc
    simp only[Bool.or_eq_true,beq_iff_eq] at hc
    have hc:c=7∨c=11∨c=12∨c=17:=by omega
    rcases hd with rfl|rfl
    · have h:some (C,({ aQ.zero with code:=c }:aQ))=some (C',M):=h
      obtain⟨rfl,rfl⟩:=bW h
      exact wF hc hr he
    · have h:some (bX c C)=some (C',M):=h
      obtain⟨rfl,rfl⟩:=bW h
      exact w7 hc hr he
  · cases h
theorem oe:∀ (n:Nat)(C:aj)(L:List Obj),∃ L',(ea n C L).2=L++L'∧L'.length=n∧dx C (eY L') (ea n C L).1
  | 0,C,L=>⟨[],by simp[ea],rfl,dx.refl C⟩
  | n+1,C,L=>by
    obtain⟨L',h1,h2,h3⟩:=oe n (((C.bytesC 1).bytesC 1).bytesC (C.bytesC 1).byteV) (L++[⟨C.byteV,((C.bytesC 1).bytesC 1).bytesR (C.bytesC 1).byteV⟩])
    refine⟨⟨C.byteV,((C.bytesC 1).bytesC 1).bytesR (C.bytesC 1).byteV⟩ :: L',?_,by simp[h2],?_⟩
    · show(ea n _ _).2=_
      rw[h1]
      simp
    · have hE0:dx C _ ((C.bytesC 1).bytesC 1):=(dx.refl C).byte.byte
      have hE1:dx C (([C.byteV,((((C.bytesC 1).bytesC 1).bytesR (C.bytesC 1).byteV).length:Int)%256])++((C.bytesC 1).bytesC 1).bytesR (C.bytesC 1).byteV) (((C.bytesC 1).bytesC 1).bytesC (C.bytesC 1).byteV):=(hE0.bytes _).conv fun hr _ he=>by
        have hb:=da ((dx.refl C).byte hr).1
        rw[(gG he).2.2,Int.emod_eq_of_lt hb.1 hb.2]
        rfl
      exact hE1.trans h3
theorem ti{c:Int}{C:aj}(hr:eN C)(he:(dJ (dk C).byteV (dZ C)).1.endC.e=0) : [C.byteV,(dk C).byteV,(dZ C).byteV,(jk (dZ C)).byteV,(jt (dZ C)).byteV,((dJ (dk C).byteV (dZ C)).2.length:Int)%256]++eY (dJ (dk C).byteV (dZ C)).2=C.l:=by
  have hE0:dx C _ (dk C):=(dx.refl C).byte.need
  have hE1:dx C _ (dZ C):=hE0.byte.need
  have hE2:dx C _ (jk (dZ C)):=hE1.byte.need
  have hE3:dx C _ (jt (dZ C)):=hE2.byte.need
  have hE4:dx C _ (lV (dZ C)):=hE3.byte.need
  have hE5:dx C _ (tq (dk C).byteV (dZ C)):=hE4.byte.need
  obtain⟨L',h1,h2,h3⟩:=oe (lV (dZ C)).byteV.toNat (tq (dk C).byteV (dZ C)) []
  have hb:=da (hE4 hr).1
  have h4:(dJ (dk C).byteV (dZ C)).2=L':=by unfold dJ;rw[h1];rfl
  obtain⟨_,h5⟩:=(hE5.trans h3).fin hr he
  rw[h4,h2,show(((lV (dZ C)).byteV.toNat:Nat) : Int)%256=(lV (dZ C)).byteV from by omega,h5]
  rfl
theorem wS{dir c:Int}{C C':aj}{M:aQ}(hd:dir=0∨dir=1)(hr:eN C)(h:bz dir c C=some (C',M))(he:C'.endC.e=0) : de dir M=C.l:=by
  have hE0:dx C _ (dk C):=(dx.refl C).byte.need
  unfold bz at h
  split at h
  · cases h
  split at h
  · rename_i hm
    obtain⟨rfl,rfl⟩:=bW h
    have hE1:=(hE0.need (ok:=decide (((dk C).l.length:Int)≤251)) (x:=5)).bytes ((ex C).l.length:Int)
    obtain⟨_,h5⟩:=hE1.fin hr he
    unfold de
    rw[if_pos (show(C.byteV==13)=true from hm),h5]
    rfl
  rename_i hm
  split at h
  · rename_i hc
    obtain rfl:dir=1:=by simpa using hc
    obtain⟨rfl,rfl⟩:=bW h
    unfold de
    rw[if_neg (show ¬ (C.byteV==13)=true from hm),if_neg (by decide)]
    exact ti (c:=c) hr he
  · rename_i hc
    obtain rfl:dir=0:=by
      rcases hd with rfl|rfl
      · rfl
      · exact absurd rfl hc
    obtain⟨rfl,rfl⟩:=bW h
    have hE1:dx C _ (dZ C):=hE0.byte.need
    obtain⟨_,h5⟩:=hE1.byte.fin hr he
    unfold de
    rw[if_neg (show ¬ (C.byteV==13)=true from hm),if_pos (by rfl),h5]
    rfl
theorem nQ{one:Int→aj→Int × aj × dr}{dir code:Int}(hl:∀ s C,0<C.l.length→(one s C).2.1.l.length<C.l.length)(hE:∀ s C,dx C (hH dir code (one s C).2.2) (one s C).2.1) :
    ∀ (n:Nat) (s:Int) (C:aj) (L:List dr),C.l.length≤n→eN C→(aU one n s C L).1.e=0→∃ L',(aU one n s C L).2=L++L'∧C.l=cH dir code L'
  | 0,s,C,L,h,_,_=>⟨[],by simp[aU],by simpa [cH] using h⟩
  | n+1,s,C,L,h,hr,he=>by
    unfold aU at he ⊢
    split at he
    · rename_i hc
      rw[if_pos hc]
      simp only[Bool.and_eq_true,decide_eq_true_eq,beq_iff_eq] at hc
      have h1:=hl s C (by omega)
      obtain⟨h2,h3⟩:=hE s C hr
      split at he
      · rename_i hn
        rw[he] at hn
        cases hn
      · rename_i hn
        rw[if_neg hn]
        have h4:(one s C).2.1.e=0:=by simpa using hn
        obtain⟨L',h5,h6⟩:=nQ hl hE n (one s C).1 (one s C).2.1 (L++[(one s C).2.2]) (by omega) h2 he
        refine⟨(one s C).2.2 :: L',by rw[h5];simp,?_⟩
        rw[(h3 h4).2,h6]
        rfl
    · rename_i hc
      rw[if_neg hc]
      have he:C.e=0:=he
      refine⟨[],by simp,?_⟩
      have:C.l=[]:=by
        apply List.eq_nil_of_length_eq_zero
        simp only[he,Bool.and_eq_true,decide_eq_true_eq,beq_self_eq_true,and_true] at hc
        omega
      rw[this]
      rfl
theorem ur(C:aj) : dx C [6] (eu C):=((dx.refl C).byte.need).conv fun hr _ he=>by
  have h:=(fW (by decide) he).2
  simp only[beq_iff_eq] at h
  rw[h]
  rfl
theorem oc(C:aj) : dx C ([6]++aE [(aT C).file,(aT C).record,(aT C).count]) (dF C):=by
  have hE1:dx C _ (iw C):=(ur C).word.need
  have hE2:dx C _ (lx C):=hE1.word.need
  have hE3:dx C _ (dF C):=hE2.word.need
  exact hE3
theorem uJ(s:Int)(C:aj) : dx C (hH 0 20 (cX s C).2.2) (cX s C).2.1:=by
  have h:dx C _ (eC s C):=(oc C).need
  exact h.conv fun _ _ _=>rfl
theorem uP(dir s:Int)(C:aj) : dx C (hH dir 21 (cY s C).2.2) (cY s C).2.1:=by
  have h:dx C _ (lU C):=(oc C).need
  exact(h.words (lx C).wordV).conv fun _ _ _=>rfl
theorem ux(s:Int)(C:aj) : dx C (hH 1 20 (bH s C).2.2) (bH s C).2.1:=by
  have hE1:dx C _ (gZ C):=(dx.refl C).byte.need
  have hE2:dx C _ (fQ C):=hE1.byte.need
  refine(hE2.words (Int.tdiv (C.byteV-1) 2)).conv fun hr _ he=>?_
  obtain⟨h1,_,h2⟩:=jK (hE2 hr).1 he
  obtain⟨h3,h4⟩:=fW (by decide) h1
  obtain⟨h5,h6⟩:=fW (by decide) (gG h3).1
  have hb:=da hr
  simp only[Bool.and_eq_true,decide_eq_true_eq,beq_iff_eq] at h4 h6
  have h7:(1+2*(((fQ C).wordsR (Int.tdiv (C.byteV-1) 2)).length:Int))%256=C.byteV:=by
    rw[h2,Int.tdiv_eq_ediv_of_nonneg (by omega)]
    omega
  show _=[(1+2*(((fQ C).wordsR (Int.tdiv (C.byteV-1) 2)).length:Int))%256,6]++aE ((fQ C).wordsR (Int.tdiv (C.byteV-1) 2))
  rw[h7,h4]
  rfl
theorem jn{one:Int→aj→Int × aj × dr}{dir code:Int}(hl:∀ s C,0<C.l.length→(one s C).2.1.l.length<C.l.length)(hE:∀ s C,dx C (hH dir code (one s C).2.2) (one s C).2.1){may:Int→Bool}{c:Int}{C:aj}(hr:eN C)
    (he:(dy one may c C).1.endC.e=0) : [((cH dir code (nD one may C).2).length:Int)%256]++cH dir code (nD one may C).2=C.l:=by
  have hE0:dx C _ (jg may C):=(dx.refl C).byte.need
  have hE1:=hE0.bytes C.byteV
  have hb:=da hr
  unfold aj.endC at he
  obtain⟨h0,a⟩:=fW (by decide) he
  unfold dy at h0 a
  have hw:bq (nD one may C).1.e≠0∨(nD one may C).1.e=0:=by
    by_cases hz:(nD one may C).1.e=0
    · exact Or.inr hz
    · left
      unfold bq
      split
      · decide
      · exact hz
  have h1:((jg may C).bytesC C.byteV).e=0∧(nD one may C).1.e=0:=by
    rcases hw with hw|hw
    · obtain⟨h2,h3⟩:=fW hw h0
      exact⟨h2,by simpa using h3⟩
    · rw[hw] at h0
      refine⟨?_,hw⟩
      unfold aj.need at h0
      rw[if_neg (by rintro⟨_,hx⟩;cases hx)] at h0
      exact h0
  obtain⟨h2,h3,h4⟩:=gG h1.1
  have h5:((jg may C).bytesC C.byteV).l=[]:=by
    rw[jj] at a
    simp only[beq_iff_eq] at a
    exact List.eq_nil_of_length_eq_zero (by omega)
  have h6:C.l=[C.byteV]++(jg may C).bytesR C.byteV:=by
    rw[((hE1 hr).2 h1.1).2,h5]
    simp
  have hB:eN (rU may C):=fun x hx=>hr x (by rw[h6];exact List.mem_append_right _ hx)
  obtain⟨L',h7,h8⟩:=nQ hl hE (rU may C).l.length 0 (rU may C) [] (Nat.le_refl _) hB h1.2
  have h9:(nD one may C).2=L':=by unfold nD;rw[h7];rfl
  have b:cH dir code L'=(jg may C).bytesR C.byteV:=h8.symm
  rw[h9,b,h4,Int.emod_eq_of_lt hb.1 hb.2,h6]
theorem jO(dir:Int)(M:aQ) : cO dir M=[((cH dir M.code M.recs).length:Int)%256]++cH dir M.code M.recs:=by
  unfold cO
  simp
theorem sm{dir c:Int}{C C':aj}{M:aQ}(hd:dir=0∨dir=1)(hr:eN C)(h:aX dir c C=some (C',M))(he:C'.endC.e=0) : cO dir M=C.l:=by
  rw[jO]
  unfold aX at h
  split at h
  · rename_i hc
    obtain rfl:c=20:=by simpa using hc
    rcases hd with rfl|rfl
    · have h:some (dy cX eF 20 C)=some (C',M):=h
      obtain⟨rfl,rfl⟩:=bW h
      exact jn mV uJ hr he
    · have h:some (dy bH eB 20 C)=some (C',M):=h
      obtain⟨rfl,rfl⟩:=bW h
      exact jn iS ux hr he
  split at h
  · rename_i hc
    obtain rfl:c=21:=by simpa using hc
    obtain⟨rfl,rfl⟩:=bW h
    exact jn nj (uP dir) hr he
  · cases h
theorem fJ{form:Int→Int→aj→Option (aj × aQ)}{lay:Int→aQ→List Int}(hf:∀ {dir c:Int}{C C':aj}{M:aQ},(dir=0∨dir=1)→eN C→form dir c C=some (C',M)→C'.endC.e=0→lay dir M=C.l)
    {dir c:Int} {b:List Int} {M:aQ} (hd:dir=0∨dir=1) (hr:∀ x,x∈b→0≤x∧x<256) (h:ag form dir c b=(M,0)) : lay dir M=b:=by
  unfold ag at h
  rw[if_pos hd] at h
  split at h
  · cases h
  · rename_i r hr'
    unfold aL at h
    split at h
    · rename_i he
      injection h with h
      obtain⟨C',M'⟩:=r
      have h:M'=M:=h
      subst h
      exact hf (C:=⟨b,false,0⟩) hd hr hr' he
    · rename_i he
      injection h with _ h
      exact absurd h he
theorem fb{parse:Int→Int→List Int→aQ × Int}{lay:Int→aQ→List Int}{dir:Int}{M:aQ}{l:List Int}(h1:lay dir M=l)(h2:parse dir M.code l=(M,0)) : bo parse lay dir M=some l:=by
  unfold bo
  rw[h1,if_pos h2]
theorem vH{k:Nat}{dir:Int}{b:List Int}{M:aQ}(hd:dir=0∨dir=1)(hr:∀ x,x∈b→0≤x∧x<256)(h:hY k dir b=(M,0))(hc:M.code=b.getD 0 0) : gg k dir M=some (b.drop 1):=by
  have hr':∀ x,x∈b.drop 1→0≤x∧x<256:=fun x hx=>hr x (List.mem_of_mem_drop hx)
  unfold hY at h
  split at h
  · exact fb (fJ sD hd hr' h) (by rw[hc];exact h)
  · exact fb (fJ uW hd hr' h) (by rw[hc];exact h)
  · exact fb (fJ um hd hr' h) (by rw[hc];exact h)
  · exact fb (fJ sm hd hr' h) (by rw[hc];exact h)
  · exact fb (fJ wS hd hr' h) (by rw[hc];exact h)
  · cases h
theorem nV{x:Int}(h:cU x=true) : (x != 0)=true:=by
  unfold cU at h
  simp only[decide_eq_true_eq,List.mem_cons,List.not_mem_nil,or_false] at h
  simp only[bne_iff_ne]
  omega
theorem qH{x:Int}(h:dO x=true) : 0<x∧x<128:=by
  unfold dO at h
  simp only[decide_eq_true_eq,List.mem_cons,List.not_mem_nil,or_false] at h
  omega
theorem oC{dir:Int}{b:List Int}{M:aQ}(hd:dir=0∨dir=1)(hr:∀ x,x∈b→0≤x∧x<256)(h:cZ dir b=(M,0)) : cS dir M=some b:=by
  unfold cZ at h
  split at h
  · cases h
  split at h
  · cases h
  split at h
  · cases h
  rename_i h1 h2 h3
  simp only[beq_iff_eq] at h2
  simp only[decide_eq_true_eq] at h3
  obtain⟨x,t,rfl⟩ : ∃ x t,b=x :: t:=by
    cases b with
    | nil=>exact absurd rfl h2
    | cons x t=>exact⟨x,t,rfl⟩
  have hx:=hr x (by simp)
  split at h
  · rename_i hq
    simp only[Bool.and_eq_true,decide_eq_true_eq,beq_iff_eq] at hq
    obtain⟨rfl,k1,k2,k3,k4⟩:=qh h
    have k5:=qH k2
    unfold cS
    rw[if_pos (show((ge _ ((x :: t).getD 1 0)).fail != 0)=true from nV k3)]
    rw[if_neg (by rw[hq.2];decide)]
    unfold jm
    have k6:ff (ge (((x :: t).getD 0 0-128)%256) ((x :: t).getD 1 0)).code (ge (((x :: t).getD 0 0-128)%256) ((x :: t).getD 1 0)).fail=true:=by
      show ff (((x :: t).getD 0 0-128)%256) ((x :: t).getD 1 0)=true
      unfold ff
      rw[k2,k3]
      have:(((x :: t).getD 0 0-128)%256 != 0)=true:=by simp only[bne_iff_ne];omega
      rw[this]
      rfl
    rw[k6]
    have k7:decide (ge (((x :: t).getD 0 0-128)%256) ((x :: t).getD 1 0)=ge (ge (((x :: t).getD 0 0-128)%256) ((x :: t).getD 1 0)).code (ge (((x :: t).getD 0 0-128)%256) ((x :: t).getD 1 0)).fail)=true:=decide_eq_true rfl
    rw[k7]
    show some [(((x-128)%256)+128)%256,(x :: t).getD 1 0]=some (x :: t)
    match t,k4 with
    | [y],_ =>
      rw[show(((x-128)%256)+128)%256=x from by omega]
      rfl
  · obtain⟨_,k1⟩:=rV hd h
    obtain⟨k2,k3⟩:=k1 rfl
    have k4:=vH hd hr h k2
    unfold cS
    rw[if_neg (by rw[k3];decide),k2,k4]
    show(if decide (253≤(t.length:Int))=true then none else some ([x]++t))=some (x :: t)
    rw[if_neg (by simp only[decide_eq_true_eq];simp only[List.length_cons] at h3;omega)]
    rfl
end Go.Proofs.YtogbnemojakcpaaGreat
namespace Go.Proofs.YtogbnemojakcpaaGreat
def Sh (C C':aj) : Prop:=C'.l.length≤C.l.length
theorem Sh.refl(C:aj) : Sh C C:=Nat.le_refl _
theorem Sh.bytes{A C:aj}(h:Sh A C){n:Int}:Sh A (C.bytesC n):=Nat.le_trans (iL C n) h
theorem Sh.words{A C:aj}(h:Sh A C){n:Int}:Sh A (C.wordsC n):=Nat.le_trans (eU C n) h
theorem Sh.need{A C:aj}(h:Sh A C){b:Bool}{e:Int}:Sh A (C.need b e):=by unfold Sh;rw[eK];exact h
open Go.RowKit
theorem yC{a:Int}{r:List Int}(ha:0≤a∧a<65536) : (aj.mk (aE [a]++r) false 0).wordV=a∧(aj.mk (aE [a]++r) false 0).wordsC 1=⟨r,false,0⟩:=by
  have hb:(aj.mk (aE [a]++r) false 0).wbad 1=false:=by
    unfold aj.wbad
    simp only[aE,List.length_append,List.length_cons,List.length_nil,Bool.or_eq_false_iff,decide_eq_false_iff_not]
    omega
  have hf:(aj.mk (aE [a]++r) false 0).fails (2*1)=false:=by
    unfold aj.fails
    simp[aE]
    omega
  constructor
  · unfold aj.wordV aj.wordsR aj.bytesR
    rw[hb,hf]
    show(cD [a/256,a%256]).getD 0 0=a
    unfold cD
    rw[if_pos (by simp)]
    show a/256*256+a%256=a
    omega
  · unfold aj.wordsC aj.bytesC
    rw[hb,hf]
    rfl
end Go.Proofs.YtogbnemojakcpaaGreat
namespace Go.Proofs.YtogbnemojakcpaaGreat
def kn (t z n u:Int)(l:List Int) : List Int:=(aE [t,z,n]++[u])++l
theorem ki(t z n u:Int)(l:List Int) : (kn t z n u l).length=7+l.length:=by simp[kn,aE];omega
theorem zk(u:Int)(l:List Int) : (aj.mk ([u]++l) false 0).byteV=u∧(aj.mk ([u]++l) false 0).bytesC 1=⟨l,false,0⟩:=by
  have hf:(aj.mk ([u]++l) false 0).fails 1=false:=by
    unfold aj.fails
    simp only[List.length_append,List.length_cons,List.length_nil,Bool.or_eq_false_iff,decide_eq_false_iff_not]
    refine⟨⟨trivial,?_⟩,?_⟩<;>omega
  constructor
  · unfold aj.byteV aj.bytesR
    rw[hf]
    rfl
  · unfold aj.bytesC
    rw[hf]
    rfl
theorem qF(l:List Int) : (aj.mk l false 0).bytesR ((l.length:Nat) : Int)=l:=by
  have hf:(aj.mk l false 0).fails ((l.length:Nat) : Int)=false:=by
    unfold aj.fails
    simp only[Bool.or_eq_false_iff,decide_eq_false_iff_not]
    refine⟨⟨trivial,?_⟩,?_⟩<;>omega
  unfold aj.bytesR
  rw[hf]
  show l.take (l.length:Int).toNat=l
  rw[Int.toNat_natCast,List.take_length]
theorem u6{t z n u:Int}{l:List Int}(ht:0≤t∧t<65536)(hz:0≤z∧z<65536)(hn:0≤n∧n<65536) :
    (qK (kn t z n u l)).wordV=t∧(sa (kn t z n u l)).wordV=z∧(qq (kn t z n u l)).wordV=n∧(pZ (kn t z n u l)).byteV=u∧jy (kn t z n u l)=l:=by
  have h1:=yC (r:=aE [z]++(aE [n]++([u]++l))) ht
  have h2:=yC (r:=aE [n]++([u]++l)) hz
  have h3:=yC (r:=[u]++l) hn
  have h4:=zk u l
  have e0:qK (kn t z n u l)=⟨aE [t]++(aE [z]++(aE [n]++([u]++l))),false,0⟩:=by simp[qK,kn,aE]
  have e1:sa (kn t z n u l)=⟨aE [z]++(aE [n]++([u]++l)),false,0⟩:=by unfold sa;rw[e0];exact h1.2
  have e2:qq (kn t z n u l)=⟨aE [n]++([u]++l),false,0⟩:=by unfold qq;rw[e1];exact h2.2
  have e3:pZ (kn t z n u l)=⟨[u]++l,false,0⟩:=by unfold pZ;rw[e2];exact h3.2
  have e4:qS (kn t z n u l)=⟨l,false,0⟩:=by unfold qS;rw[e3];exact h4.2
  refine⟨by rw[e0];exact h1.1,by rw[e1];exact h2.1,by rw[e2];exact h3.1,by rw[e3];exact h4.1,?_⟩
  unfold jy
  rw[e4]
  exact qF l
theorem qC{dir t z n u:Int}{l:List Int}(hd:dir=0∨dir=1)(ht:0≤t∧t<65536)(hz:0≤z∧z<65536)(hn:0≤n∧n<65536) :
    dE dir (kn t z n u l)=if decide ((7+l.length:Int)<8) then (fw.zero,2) else if decide (260<(7+l.length:Int)) then (fw.zero,3) else if z != 0 then (fw.zero,13) else if n != (l.length:Int)+1 then (fw.zero,5) else eL u t (cZ dir l):=by
  obtain⟨h0,h1,h2,h3,h4⟩:=u6 (u:=u) (l:=l) ht hz hn
  unfold dE
  rw[h0,h1,h2,h3,h4,ki]
  rw[if_neg (show ¬ (dir != 0&&dir != 1)=true by rcases hd with rfl | rfl<;>decide)]
  rw[show((7+l.length:Nat) : Int)=7+(l.length:Int) by omega,show(7+(l.length:Int))-6=(l.length:Int)+1 by omega]
theorem iD{dir u t:Int}{M:aQ}{b:List Int}(h:eq dir u t M=some b) : ∃ l,cS dir M=some l∧b=kn t 0 ((l.length:Int)+1) u l∧l.length≤253:=by
  unfold eq at h
  split at h
  · cases h
  · rename_i l hl
    have hle:=nM hl
    injection h with h
    refine⟨l,hl,?_,hle⟩
    rw[← h,Int.emod_eq_of_lt (by omega) (by omega)]
    rfl
theorem sT{dir u t:Int}{M:aQ}{b:List Int}(hc:0≤M.code∧M.code<256)(h:eq dir u t M=some b) : 8≤b.length∧b.length≤260:=by
  obtain⟨l,h1,rfl,h2⟩:=iD h
  have:=oO hc h1
  rw[ki]
  omega
theorem vJ{dir u t:Int}{M:aQ}{b:List Int}(hd:dir=0∨dir=1)(hc:0≤M.code∧M.code<256)(hf:0≤M.fail∧M.fail<256)(ht:0≤t∧t<65536)(h:eq dir u t M=some b) : dE dir b=(⟨u,t,M⟩,0):=by
  obtain⟨l,h1,rfl,h2⟩:=iD h
  have h3:=oO hc h1
  rw[qC hd ht (by decide) (by omega),tz hd hc hf h1]
  rw[if_neg (by simp only[decide_eq_true_eq];omega),if_neg (by simp only[decide_eq_true_eq];omega),if_neg (by decide),if_neg (by simp)]
  rfl
theorem xG{a b c d e f:Int}(ha:0≤a∧a<256)(hb:0≤b∧b<256)(hc:0≤c∧c<256)(hd:0≤d∧d<256)(he:0≤e∧e<256)(hf:0≤f∧f<256) : aE [a*256+b,c*256+d,e*256+f]=[a,b,c,d,e,f]:=by
  simp only[aE]
  congr 1
  · omega
  congr 1
  · omega
  congr 1
  · omega
  congr 1
  · omega
  congr 1
  · omega
  congr 1
  omega
theorem tP{b:List Int}(hr:∀ x,x∈b→0≤x∧x<256)(hl:8≤b.length) : ∃ t z n u l,b=kn t z n u l∧(0≤t∧t<65536)∧(0≤z∧z<65536)∧(0≤n∧n<65536)∧∀ x,x∈l→0≤x∧x<256:=by
  match b,hr,hl with
  | a0 :: a1 :: a2 :: a3 :: a4 :: a5 :: u :: l,hr,_ =>
    have h0:=hr a0 (by simp)
    have h1:=hr a1 (by simp)
    have h2:=hr a2 (by simp)
    have h3:=hr a3 (by simp)
    have h4:=hr a4 (by simp)
    have h5:=hr a5 (by simp)
    refine⟨a0*256+a1,a2*256+a3,a4*256+a5,u,l,?_,by omega,by omega,by omega,fun x hx=>hr x (by simp[hx])⟩
    unfold kn
    rw[xG h0 h1 h2 h3 h4 h5]
    rfl
theorem sc{dir:Int}{b:List Int}{F:fw}{E:Int}{r:Option (List Int)}(hd:dir=0∨dir=1)(hr:∀ x,x∈b→0≤x∧x<256)(h:dE dir b=(F,E))(hE:(E==0)=true)(hW:eq dir F.unit F.tid F.msg=r) : r=some b∧8≤b.length∧b.length≤260:=by
  obtain rfl:E=0:=by simpa using hE
  by_cases h8:8≤b.length
  · obtain⟨t,z,n,u,l,rfl,ht,hz',hn,hl⟩:=tP hr h8
    rw[qC hd ht hz' hn] at h
    split at h
    · cases h
    split at h
    · cases h
    split at h
    · cases h
    split at h
    · cases h
    rename_i h1 h2 h3 h4
    simp only[decide_eq_true_eq] at h1 h2
    simp only[bne_iff_ne,ne_eq,Decidable.not_not] at h3 h4
    cases hp:cZ dir l with
    | mk M E' =>
      rw[hp] at h
      have h:(if (E' != 0)=true then ((fw.zero,E') : fw × Int) else (⟨_,_,M⟩,0))=(F,0):=h
      split at h
      · rename_i h5
        injection h with _ h6
        subst h6
        cases h5
      · rename_i h5
        injection h with h6 _
        subst h6
        obtain rfl:E'=0:=by simpa using h5
        have h7:=oC hd hl hp
        rw[← hW]
        refine⟨?_,h8,by rw[ki];omega⟩
        show eq dir u t M=_
        unfold eq
        rw[h7]
        show some ((aE [t,0,((l.length:Int)+1)%65536]++[u])++l)=_
        rw[h3,h4,Int.emod_eq_of_lt (by omega) (by omega)]
        rfl
  · exfalso
    unfold dE at h
    split at h
    · cases h
    rw[if_pos (by simp only[decide_eq_true_eq];omega)] at h
    cases h
open Go.RowKit
theorem pq{m m':Md}{A B:Option Addr}{c d:Nat}{xs ys:List Int}{w:World}(h1:bh m w (.slice A xs.length c) xs)(h2:bh m' w (.slice B ys.length d) ys) :
    Calls Tryz.prog 30 #[.slice A xs.length c,.slice B ys.length d] w (dM (.bool (decide (xs=ys))) w):=by
 refine en 10 Tryz.func30 rfl<|sg<|Pl 1<|ng<|Pl 1<|L0<|nC (.string (strOfNums xs)) (eV (A:=A) (n:=xs.length) (c:=c) rfl (by kernel_rfl) Tryz.underlying22 Tryz.underlying5 Tryz.underlying9 h1)<|Pl 1<|L0<|nC (.string (strOfNums ys)) (eV (A:=B) (n:=ys.length) (c:=d) rfl (by kernel_rfl) Tryz.underlying22 Tryz.underlying5 Tryz.underlying9 h2)<|L0<|nC (.bool (decide (xs=ys))) (kL (a:=(strOfNums xs)) (b:=(strOfNums ys)) rfl (by kernel_rfl) (by kernel_rfl) (pJ h1 h2))<|Pl 1<|nl<|?_
 refine tn<|rt<|rr (.bool (decide (xs=ys)))<|?_
 exact⟨rfl,(aF.refl [] _)⟩
theorem io{m m':Md}{a b:Value}{xs ys:List Int}{w:World}(h1:bh m w a xs)(h2:bh m' w b ys) : Calls Tryz.prog 30 #[a,b] w (dM (.bool (decide (xs=ys))) w):=by
  obtain⟨A,c,rfl,_,_⟩:=h1.shape
  obtain⟨B,d,rfl,_,_⟩:=h2.shape
  exact pq h1 h2
open Go.RowKit
theorem gL{α:Type}{xs ys:List α}{k:Nat}(h:xs.take k=ys.take k)(h1:k=xs.length)(h2:xs.length=ys.length) : xs=ys:=by
  rw[List.take_of_length_le (by omega),List.take_of_length_le (by omega)] at h
  exact h
theorem lB{m m':Md}{A B:Option Addr}{c d:Nat}{xs ys:List Int}{w:World}(h1:dP m w (.slice A xs.length c) xs)(h2:dP m' w (.slice B ys.length d) ys) :
    Calls Tryz.prog 98 #[.slice A xs.length c,.slice B ys.length d] w (dM (.bool (decide (xs=ys))) w):=by
 have hz1:=aS.len h1
 have hz2:=aS.len h2
 refine en 26 Tryz.func98 rfl<|sg<|Pl 1<|nt<|sq<|sg<|Pl 5<|nt<|cb ((((xs.length:Nat) : Int)!=((ys.length:Nat) : Int))) (fun g=>?_) (fun g=>?_)
 have j:=az g
 refine sg<|Pl 1<|nt<|rt<|tr<|rr (.bool false)<|?_
 have hs:decide (xs=ys)=false:=decide_eq_false (fun e=>by rw[e] at j;omega)
 rw[hs]
 exact⟨rfl,(aF.refl [] _)⟩
 have j:=ai g
 refine bp<|sq<|sg<|Pl 1<|nt<|bk<|?_
 refine js (fun x=>[(0,.slice A xs.length c),(1,.slice B ys.length d),(5,.int .i64 ((x:Nat) : Int))]) (fun(x:Nat) w'=>aF [] w w'∧(xs.take x=ys.take x)∧(x≤xs.length)) (fun x=>xs.length-x) 0 ⟨aF.refl _ _,(by(try dsimp only);simp),(by(try dsimp only);omega)⟩ ?_
 rintro k E ⟨b,p,q⟩
 refine ju [(0,.slice A xs.length c),(1,.slice B ys.length d),(5,.int .i64 ((k:Nat) : Int))] ?_
 have l:xs.take k=ys.take k:=p
 have F:k≤xs.length:=q
 refine sq<|sg<|Pl 4<|nt<|cb ((decide (((k:Nat) : Int)<((xs.length:Nat) : Int)))) (fun h=>?_) (fun h=>?_)
 have r:=of_decide_eq_true h
 refine bp<|sq<|bk<|sq<|?_
 refine gf (dP.at_ (dP.old h1 b) k (by omega)) fun s t u v G=>?_
 refine gf (dP.at_ (dP.old h2 b) k (by omega)) fun y z C D H=>Rg 9 (fun w'=>w'.cell? ⟨s,t+k,none⟩=some (.int .u16 (xs.getD k 0))∧w'.cell? ⟨y,z+k,none⟩=some (.int .u16 (ys.getD k 0))) fun I i=>bj ⟨(uc i v),(uc i D)⟩ fun a=>Rt 0 a<|Rt 1 a<|mh 2 a xs.length k ((k:Nat) : Int) rfl u (by omega)<|Rl 3 a (fun _ hs=>hs.1)<|Rt 4 a<|Rt 5 a<|mh 6 a ys.length k ((k:Nat) : Int) rfl C (by omega)<|Rl 7 a (fun _ hs=>hs.2)<|Rt 8 a<|re<|tn<|?_
 have n:=aG b i
 refine cb (((xs.getD k 0)!=(ys.getD k 0))) (fun f=>?_) (fun f=>?_)
 have o:=az f
 refine sg<|Pl 1<|nt<|rt<|br<|tr<|tr<|br<|tr<|rr (.bool false)<|?_
 have hs:decide (xs=ys)=false:=decide_eq_false (rT (d:=0) k (by simpa using f))
 rw[hs]
 exact⟨rfl,n⟩
 have o:=ai f
 exact sk<|bn<|tn<|go<|Pl 1<|L0<|Oi (((k:Nat) : Int)+1)<|Pl 1<|nl<|gM (k+1) ⟨n,(mH (d:=0) (by omega) (by omega) l o),(by(try dsimp only);omega)⟩ (by omega)
 have r:=of_decide_eq_false h
 refine xt<|tx<|tx<|bx<|tn<|sg<|Pl 1<|nt<|rt<|rr (.bool true)<|?_
 have hs:decide (xs=ys)=true:=decide_eq_true (gL l (by omega) (by omega))
 rw[hs]
 exact⟨rfl,b⟩
theorem iT{m m':Md}{a b:Value}{xs ys:List Int}{w:World}(h1:dP m w a xs)(h2:dP m' w b ys) : Calls Tryz.prog 98 #[a,b] w (dM (.bool (decide (xs=ys))) w):=by
  obtain⟨A,c,rfl,_,_⟩:=h1.shape
  obtain⟨B,d,rfl,_,_⟩:=h2.shape
  exact lB h1 h2
theorem lW{m m':Md}{A B:Option Addr}{c d:Nat}{xs ys:List Bool}{w:World}(h1:hZ m w (.slice A xs.length c) xs)(h2:hZ m' w (.slice B ys.length d) ys) :
    Calls Tryz.prog 99 #[.slice A xs.length c,.slice B ys.length d] w (dM (.bool (decide (xs=ys))) w):=by
 have hz1:=aS.len h1
 have hz2:=aS.len h2
 refine en 26 Tryz.func99 rfl<|sg<|Pl 1<|nt<|sq<|sg<|Pl 5<|nt<|cb ((((xs.length:Nat) : Int)!=((ys.length:Nat) : Int))) (fun f=>?_) (fun f=>?_)
 have j:=az f
 refine sg<|Pl 1<|nt<|rt<|tr<|rr (.bool false)<|?_
 have hs:decide (xs=ys)=false:=decide_eq_false (fun e=>by rw[e] at j;omega)
 rw[hs]
 exact⟨rfl,(aF.refl [] _)⟩
 have j:=ai f
 refine bp<|sq<|sg<|Pl 1<|nt<|bk<|?_
 refine js (fun x=>[(0,.slice A xs.length c),(1,.slice B ys.length d),(5,.int .i64 ((x:Nat) : Int))]) (fun(x:Nat) w'=>aF [] w w'∧(xs.take x=ys.take x)∧(x≤xs.length)) (fun x=>xs.length-x) 0 ⟨aF.refl _ _,(by(try dsimp only);simp),(by(try dsimp only);omega)⟩ ?_
 rintro k D ⟨b,o,p⟩
 refine ju [(0,.slice A xs.length c),(1,.slice B ys.length d),(5,.int .i64 ((k:Nat) : Int))] ?_
 have l:xs.take k=ys.take k:=o
 have E:k≤xs.length:=p
 refine sq<|sg<|Pl 4<|nt<|cb ((decide (((k:Nat) : Int)<((xs.length:Nat) : Int)))) (fun g=>?_) (fun g=>?_)
 have q:=of_decide_eq_true g
 refine bp<|sq<|bk<|sq<|?_
 refine yt (hZ.at_ (hZ.old h1 b) k (by omega)) fun r s t u=>?_
 refine yt (hZ.at_ (hZ.old h2 b) k (by omega)) fun v y z C=>Rg 9 (fun w'=>w'.cell? ⟨r,s+k,none⟩=some (.bool (xs.getD k false))∧w'.cell? ⟨v,y+k,none⟩=some (.bool (ys.getD k false))) fun F h=>bj ⟨(uc h u),(uc h C)⟩ fun a=>Rt 0 a<|Rt 1 a<|mh 2 a xs.length k ((k:Nat) : Int) rfl t (by omega)<|Rl 3 a (fun _ hs=>hs.1)<|Rt 4 a<|Rt 5 a<|mh 6 a ys.length k ((k:Nat) : Int) rfl z (by omega)<|Rl 7 a (fun _ hs=>hs.2)<|Rt 8 a<|re<|tn<|?_
 have n:=aG b h
 refine cb (((xs.getD k false)!=(ys.getD k false))) (fun i=>?_) (fun i=>?_)
 refine sg<|Pl 1<|nt<|rt<|br<|tr<|tr<|br<|tr<|rr (.bool false)<|?_
 have hs:decide (xs=ys)=false:=decide_eq_false (rT (d:=false) k (by simpa using i))
 rw[hs]
 exact⟨rfl,n⟩
 exact sk<|bn<|tn<|go<|Pl 1<|L0<|Oi (((k:Nat) : Int)+1)<|Pl 1<|nl<|gM (k+1) ⟨n,(mH (d:=false) (by omega) (by omega) l (by simpa using i)),(by(try dsimp only);omega)⟩ (by omega)
 have q:=of_decide_eq_false g
 refine xt<|tx<|tx<|bx<|tn<|sg<|Pl 1<|nt<|rt<|rr (.bool true)<|?_
 have hs:decide (xs=ys)=true:=decide_eq_true (gL l (by omega) (by omega))
 rw[hs]
 exact⟨rfl,b⟩
theorem nw{m m':Md}{a b:Value}{xs ys:List Bool}{w:World}(h1:hZ m w a xs)(h2:hZ m' w b ys) : Calls Tryz.prog 99 #[a,b] w (dM (.bool (decide (xs=ys))) w):=by
  obtain⟨A,c,rfl,_,_⟩:=h1.shape
  obtain⟨B,d,rfl,_,_⟩:=h2.shape
  exact lW h1 h2
open Go.RowKit
theorem qv{α:Type}{xs ys:List α}{d:α}{k:Nat}(h:xs.take k=ys.take k)(hk:k<xs.length)(hl:xs.length=ys.length)(he:xs.getD k d=ys.getD k d) : xs.take (k+1)=ys.take (k+1):=by
  have hk2:k<ys.length:=by omega
  rw[List.take_succ_eq_append_getElem hk,List.take_succ_eq_append_getElem hk2,h]
  rw[List.getD_eq_getElem?_getD,List.getElem?_eq_getElem hk,List.getD_eq_getElem?_getD,List.getElem?_eq_getElem (by omega)] at he
  simp only[Option.getD_some] at he
  rw[he]
theorem wB{a b:dr}(h:((((!(decide (a.words=b.words)))||(a.file != b.file))||(a.record != b.record))||(a.count != b.count))=false) : a=b:=by
  cases a
  cases b
  simp at h
  simp[h]
theorem wm{a b:Obj}(h:((!(decide (a.value=b.value)))||(a.id != b.id))=false) : a=b:=by
  cases a
  cases b
  simp at h
  simp[h]
theorem uN{a b:Obj}(h:(!(decide (a.value=b.value)))=false)(h2:(a.id != b.id)=false) : a=b:=wm (by rw[h,h2];rfl)
theorem lZ{A B:aQ}{f:aQ→aQ→Bool}(h:f A B=true)(hf:∀ M,f M M=false) : decide (A=B)=false:=decide_eq_false fun e=>by rw[e,hf] at h;cases h
theorem v6{A B:aQ}(h1:((((((((((((A.code != B.code)||(A.fail != B.fail))||(A.addr != B.addr))||(A.count != B.count))||(A.value != B.value))||(A.and_ != B.and_))||(A.or_ != B.or_))||(A.addr2 != B.addr2))||(A.sub != B.sub))||(A.status != B.status))||(A.events != B.events))||(A.messages != B.messages))=false)(h2:(((((A.mei != B.mei)||(A.kind != B.kind))||(A.level != B.level))||(A.more != B.more))||(A.next != B.next))=false)(h3:(((((!(decide (A.words=B.words)))||(!(decide (A.bits=B.bits))))||(!(decide (A.data=B.data))))||(((A.recs.length:Nat) : Int)!=((B.recs.length:Nat) : Int)))||(((A.objects.length:Nat) : Int)!=((B.objects.length:Nat) : Int)))=false)(hr:A.recs.length=B.recs.length→A.recs=B.recs)(ho:A.objects.length=B.objects.length→A.objects=B.objects) : A=B:=by
  cases A
  cases B
  simp only[Bool.or_eq_false_iff,bne_eq_false_iff_eq,Bool.not_eq_false',decide_eq_true_eq] at h1 h2 h3
  simp only at hr ho
  obtain⟨⟨⟨⟨⟨⟨⟨⟨⟨⟨⟨a1,a2⟩,a3⟩,a4⟩,a5⟩,a6⟩,a7⟩,a8⟩,a9⟩,a⟩,b⟩,c⟩:=h1
  obtain⟨⟨⟨⟨b1,b2⟩,b3⟩,b4⟩,b5⟩:=h2
  obtain⟨⟨⟨⟨d1,d2⟩,d3⟩,d4⟩,d5⟩:=h3
  have d4:=hr (by omega)
  have d5:=ho (by omega)
  subst a1 a2 a3 a4 a5 a6 a7 a8 a9 a b c b1 b2 b3 b4 b5 d1 d2 d3 d4 d5
  rfl
theorem dw{m m':Md}{pc qc:Array Value}{A B:aQ}{w:World}(ha:aN m w pc.toList A)(hb:aN m' w qc.toList B) :
    Calls Tryz.prog 26 #[.agg pc,.agg qc] w (dM (.bool (decide (A=B))) w):=by
 have pM:=ha
 obtain⟨pvw,pvb,pvd,pvr,pvo,ph0,phw,phb,phd,phr,pho,pR⟩:=ha
 obtain rfl:pc=(bu A pvw pvb pvd pvr pvo).toArray:=by apply Array.toList_inj.1;simpa using ph0
 clear ph0
 obtain⟨pw,pkw,rfl,_,_⟩:=phw.shape
 obtain⟨pb,pkb,rfl,_,_⟩:=phb.shape
 obtain⟨pd,pkd,rfl,_,_⟩:=phd.shape
 obtain⟨pr,pkr,rfl,_,_⟩:=phr.shape
 obtain⟨po,pko,rfl,_,_⟩:=pho.shape
 have qM:=hb
 obtain⟨qvw,qvb,qvd,qvr,qvo,qh0,qhw,qhb,qhd,qhr,qho,qR⟩:=hb
 obtain rfl:qc=(bu B qvw qvb qvd qvr qvo).toArray:=by apply Array.toList_inj.1;simpa using qh0
 clear qh0
 obtain⟨qw,qkw,rfl,_,_⟩:=qhw.shape
 obtain⟨qb,qkb,rfl,_,_⟩:=qhb.shape
 obtain⟨qd,qkd,rfl,_,_⟩:=qhd.shape
 obtain⟨qr,qkr,rfl,_,_⟩:=qhr.shape
 obtain⟨qo,qko,rfl,_,_⟩:=qho.shape
 have hz1:=aS.len phr
 have hz2:=aS.len pho
 refine en 254 Tryz.func26 rfl<|sg<|L0<|dv (mG A.code A.fail A.addr A.count A.value A.and_ A.or_ A.addr2 A.sub A.status A.events A.messages (.slice pw A.words.length pkw) (.slice pb A.bits.length pkb) (.slice pd A.data.length pkd) (.slice pr A.recs.length pkr) A.mei A.kind A.level A.more A.next (.slice po A.objects.length pko)) fun i dJ dK cf cg=>L0<|dv (mG B.code B.fail B.addr B.count B.value B.and_ B.or_ B.addr2 B.sub B.status B.events B.messages (.slice qw B.words.length qkw) (.slice qb B.bits.length qkb) (.slice qd B.data.length qkd) (.slice qr B.recs.length qkr) B.mei B.kind B.level B.more B.next (.slice qo B.objects.length qko)) fun l dL dN b ay=>Pl 1<|nt<|sq<|sg<|Pl 1<|?_
 have c:=ub ay cf
 refine L0<|aP c 0<|Pl 1<|L0<|aP b 0<|Pl 2<|cu 6 [19] 25 (((A.code != B.code)||(A.fail != B.fail))) (fun K aA=>?_) ?_
 refine bl 19 ((A.code != B.code)) (fun q=>?_) (fun q=>?_)
 have ch:=az q
 exact Pl 6<|ce aA true (by rw[q];rfl)
 have ch:=ai q
 exact Pl 1<|L1<|aP c 1<|Pl 1<|L1<|aP b 1<|Pl 2<|ce aA (A.fail != B.fail) (by rw[q];rfl)
 refine Pl 1<|cu 6 [26] 32 ((((A.code != B.code)||(A.fail != B.fail))||(A.addr != B.addr))) (fun K aB=>?_) ?_
 refine bl 26 (((A.code != B.code)||(A.fail != B.fail))) (fun r=>?_) (fun r=>?_)
 exact Pl 6<|ce aB true (by rw[r];rfl)
 have ci:=(aH r).1
 have cj:=(aH r).2
 have dO:=ai ci
 have dQ:=ai cj
 exact Pl 1<|L1<|aP c 2<|Pl 1<|L1<|aP b 2<|Pl 2<|ce aB (A.addr != B.addr) (by rw[r];rfl)
 refine Pl 1<|cu 6 [33] 39 (((((A.code != B.code)||(A.fail != B.fail))||(A.addr != B.addr))||(A.count != B.count))) (fun K aC=>?_) ?_
 refine bl 33 ((((A.code != B.code)||(A.fail != B.fail))||(A.addr != B.addr))) (fun s=>?_) (fun s=>?_)
 exact Pl 6<|ce aC true (by rw[s];rfl)
 have aD:=(aH s).1
 have ck:=(aH s).2
 have cl:=(aH aD).1
 have cm:=(aH aD).2
 have q25aap:=ai cl
 have q25abp:=ai cm
 have dR:=ai ck
 exact Pl 1<|L1<|aP c 3<|Pl 1<|L1<|aP b 3<|Pl 2<|ce aC (A.count != B.count) (by rw[s];rfl)
 refine Pl 1<|cu 6 [40] 46 ((((((A.code != B.code)||(A.fail != B.fail))||(A.addr != B.addr))||(A.count != B.count))||(A.value != B.value))) (fun K aE=>?_) ?_
 refine bl 40 (((((A.code != B.code)||(A.fail != B.fail))||(A.addr != B.addr))||(A.count != B.count))) (fun t=>?_) (fun t=>?_)
 exact Pl 6<|ce aE true (by rw[t];rfl)
 have aI:=(aH t).1
 have cn:=(aH t).2
 have aJ:=(aH aI).1
 have co:=(aH aI).2
 have q27aaa:=(aH aJ).1
 have q27aab:=(aH aJ).2
 have q27aaap:=ai q27aaa
 have q27aabp:=ai q27aab
 have q27abp:=ai co
 have dS:=ai cn
 exact Pl 1<|L1<|aP c 4<|Pl 1<|L1<|aP b 4<|Pl 2<|ce aE (A.value != B.value) (by rw[t];rfl)
 refine Pl 1<|cu 6 [47] 53 (((((((A.code != B.code)||(A.fail != B.fail))||(A.addr != B.addr))||(A.count != B.count))||(A.value != B.value))||(A.and_ != B.and_))) (fun K aK=>?_) ?_
 refine bl 47 ((((((A.code != B.code)||(A.fail != B.fail))||(A.addr != B.addr))||(A.count != B.count))||(A.value != B.value))) (fun u=>?_) (fun u=>?_)
 exact Pl 6<|ce aK true (by rw[u];rfl)
 have aL:=(aH u).1
 have cp:=(aH u).2
 have aM:=(aH aL).1
 have cq:=(aH aL).2
 have q29aaa:=(aH aM).1
 have q29aab:=(aH aM).2
 have q29aaaa:=(aH q29aaa).1
 have q29aaab:=(aH q29aaa).2
 have q29aaaap:=ai q29aaaa
 have q29aaabp:=ai q29aaab
 have q29aabp:=ai q29aab
 have q29abp:=ai cq
 have dT:=ai cp
 exact Pl 1<|L1<|aP c 5<|Pl 1<|L1<|aP b 5<|Pl 2<|ce aK (A.and_ != B.and_) (by rw[u];rfl)
 refine Pl 1<|cu 6 [54] 60 ((((((((A.code != B.code)||(A.fail != B.fail))||(A.addr != B.addr))||(A.count != B.count))||(A.value != B.value))||(A.and_ != B.and_))||(A.or_ != B.or_))) (fun K aO=>?_) ?_
 refine bl 54 (((((((A.code != B.code)||(A.fail != B.fail))||(A.addr != B.addr))||(A.count != B.count))||(A.value != B.value))||(A.and_ != B.and_))) (fun v=>?_) (fun v=>?_)
 exact Pl 6<|ce aO true (by rw[v];rfl)
 have aR:=(aH v).1
 have cr:=(aH v).2
 have aT:=(aH aR).1
 have cs:=(aH aR).2
 have q31aaa:=(aH aT).1
 have q31aab:=(aH aT).2
 have q31aaaa:=(aH q31aaa).1
 have q31aaab:=(aH q31aaa).2
 have q31aaaaa:=(aH q31aaaa).1
 have q31aaaab:=(aH q31aaaa).2
 have q31aaaaap:=ai q31aaaaa
 have q31aaaabp:=ai q31aaaab
 have q31aaabp:=ai q31aaab
 have q31aabp:=ai q31aab
 have q31abp:=ai cs
 have dU:=ai cr
 exact Pl 1<|L1<|aP c 6<|Pl 1<|L1<|aP b 6<|Pl 2<|ce aO (A.or_ != B.or_) (by rw[v];rfl)
 refine Pl 1<|cu 6 [61] 67 (((((((((A.code != B.code)||(A.fail != B.fail))||(A.addr != B.addr))||(A.count != B.count))||(A.value != B.value))||(A.and_ != B.and_))||(A.or_ != B.or_))||(A.addr2 != B.addr2))) (fun K aU=>?_) ?_
 refine bl 61 ((((((((A.code != B.code)||(A.fail != B.fail))||(A.addr != B.addr))||(A.count != B.count))||(A.value != B.value))||(A.and_ != B.and_))||(A.or_ != B.or_))) (fun z=>?_) (fun z=>?_)
 exact Pl 6<|ce aU true (by rw[z];rfl)
 have aV:=(aH z).1
 have ct:=(aH z).2
 have aW:=(aH aV).1
 have cv:=(aH aV).2
 have q33aaa:=(aH aW).1
 have q33aab:=(aH aW).2
 have q33aaaa:=(aH q33aaa).1
 have q33aaab:=(aH q33aaa).2
 have q33aaaaa:=(aH q33aaaa).1
 have q33aaaab:=(aH q33aaaa).2
 have q33aaaaaa:=(aH q33aaaaa).1
 have q33aaaaab:=(aH q33aaaaa).2
 have q33aaaaaap:=ai q33aaaaaa
 have q33aaaaabp:=ai q33aaaaab
 have q33aaaabp:=ai q33aaaab
 have q33aaabp:=ai q33aaab
 have q33aabp:=ai q33aab
 have q33abp:=ai cv
 have dV:=ai ct
 exact Pl 1<|L1<|aP c 7<|Pl 1<|L1<|aP b 7<|Pl 2<|ce aU (A.addr2 != B.addr2) (by rw[z];rfl)
 refine Pl 1<|cu 6 [68] 74 ((((((((((A.code != B.code)||(A.fail != B.fail))||(A.addr != B.addr))||(A.count != B.count))||(A.value != B.value))||(A.and_ != B.and_))||(A.or_ != B.or_))||(A.addr2 != B.addr2))||(A.sub != B.sub))) (fun K aX=>?_) ?_
 refine bl 68 (((((((((A.code != B.code)||(A.fail != B.fail))||(A.addr != B.addr))||(A.count != B.count))||(A.value != B.value))||(A.and_ != B.and_))||(A.or_ != B.or_))||(A.addr2 != B.addr2))) (fun C=>?_) (fun C=>?_)
 exact Pl 6<|ce aX true (by rw[C];rfl)
 have aY:=(aH C).1
 have cw:=(aH C).2
 have aZ:=(aH aY).1
 have cx:=(aH aY).2
 have q35aaa:=(aH aZ).1
 have q35aab:=(aH aZ).2
 have q35aaaa:=(aH q35aaa).1
 have q35aaab:=(aH q35aaa).2
 have q35aaaaa:=(aH q35aaaa).1
 have q35aaaab:=(aH q35aaaa).2
 have q35aaaaaa:=(aH q35aaaaa).1
 have q35aaaaab:=(aH q35aaaaa).2
 have q35aaaaaaa:=(aH q35aaaaaa).1
 have q35aaaaaab:=(aH q35aaaaaa).2
 have q35aaaaaaap:=ai q35aaaaaaa
 have q35aaaaaabp:=ai q35aaaaaab
 have q35aaaaabp:=ai q35aaaaab
 have q35aaaabp:=ai q35aaaab
 have q35aaabp:=ai q35aaab
 have q35aabp:=ai q35aab
 have q35abp:=ai cx
 have dW:=ai cw
 exact Pl 1<|L1<|aP c 8<|Pl 1<|L1<|aP b 8<|Pl 2<|ce aX (A.sub != B.sub) (by rw[C];rfl)
 refine Pl 1<|cu 6 [75] 81 (((((((((((A.code != B.code)||(A.fail != B.fail))||(A.addr != B.addr))||(A.count != B.count))||(A.value != B.value))||(A.and_ != B.and_))||(A.or_ != B.or_))||(A.addr2 != B.addr2))||(A.sub != B.sub))||(A.status != B.status))) (fun K b0=>?_) ?_
 refine bl 75 ((((((((((A.code != B.code)||(A.fail != B.fail))||(A.addr != B.addr))||(A.count != B.count))||(A.value != B.value))||(A.and_ != B.and_))||(A.or_ != B.or_))||(A.addr2 != B.addr2))||(A.sub != B.sub))) (fun D=>?_) (fun D=>?_)
 exact Pl 6<|ce b0 true (by rw[D];rfl)
 have b1:=(aH D).1
 have cy:=(aH D).2
 have b2:=(aH b1).1
 have cz:=(aH b1).2
 have q37aaa:=(aH b2).1
 have q37aab:=(aH b2).2
 have q37aaaa:=(aH q37aaa).1
 have q37aaab:=(aH q37aaa).2
 have q37aaaaa:=(aH q37aaaa).1
 have q37aaaab:=(aH q37aaaa).2
 have q37aaaaaa:=(aH q37aaaaa).1
 have q37aaaaab:=(aH q37aaaaa).2
 have q37aaaaaaa:=(aH q37aaaaaa).1
 have q37aaaaaab:=(aH q37aaaaaa).2
 have q37aaaaaaaa:=(aH q37aaaaaaa).1
 have q37aaaaaaab:=(aH q37aaaaaaa).2
 have q37aaaaaaaap:=ai q37aaaaaaaa
 have q37aaaaaaabp:=ai q37aaaaaaab
 have q37aaaaaabp:=ai q37aaaaaab
 have q37aaaaabp:=ai q37aaaaab
 have q37aaaabp:=ai q37aaaab
 have q37aaabp:=ai q37aaab
 have q37aabp:=ai q37aab
 have q37abp:=ai cz
 have dX:=ai cy
 exact Pl 1<|L1<|aP c 9<|Pl 1<|L1<|aP b 9<|Pl 2<|ce b0 (A.status != B.status) (by rw[D];rfl)
 refine Pl 1<|cu 6 [82] 88 ((((((((((((A.code != B.code)||(A.fail != B.fail))||(A.addr != B.addr))||(A.count != B.count))||(A.value != B.value))||(A.and_ != B.and_))||(A.or_ != B.or_))||(A.addr2 != B.addr2))||(A.sub != B.sub))||(A.status != B.status))||(A.events != B.events))) (fun K b3=>?_) ?_
 refine bl 82 (((((((((((A.code != B.code)||(A.fail != B.fail))||(A.addr != B.addr))||(A.count != B.count))||(A.value != B.value))||(A.and_ != B.and_))||(A.or_ != B.or_))||(A.addr2 != B.addr2))||(A.sub != B.sub))||(A.status != B.status))) (fun E=>?_) (fun E=>?_)
 exact Pl 6<|ce b3 true (by rw[E];rfl)
 have b4:=(aH E).1
 have cA:=(aH E).2
 have b5:=(aH b4).1
 have cB:=(aH b4).2
 have q39aaa:=(aH b5).1
 have q39aab:=(aH b5).2
 have q39aaaa:=(aH q39aaa).1
 have q39aaab:=(aH q39aaa).2
 have q39aaaaa:=(aH q39aaaa).1
 have q39aaaab:=(aH q39aaaa).2
 have q39aaaaaa:=(aH q39aaaaa).1
 have q39aaaaab:=(aH q39aaaaa).2
 have q39aaaaaaa:=(aH q39aaaaaa).1
 have q39aaaaaab:=(aH q39aaaaaa).2
 have q39aaaaaaaa:=(aH q39aaaaaaa).1
 have q39aaaaaaab:=(aH q39aaaaaaa).2
 have q39aaaaaaaaa:=(aH q39aaaaaaaa).1
 have q39aaaaaaaab:=(aH q39aaaaaaaa).2
 have q39aaaaaaaaap:=ai q39aaaaaaaaa
 have q39aaaaaaaabp:=ai q39aaaaaaaab
 have q39aaaaaaabp:=ai q39aaaaaaab
 have q39aaaaaabp:=ai q39aaaaaab
 have q39aaaaabp:=ai q39aaaaab
 have q39aaaabp:=ai q39aaaab
 have q39aaabp:=ai q39aaab
 have q39aabp:=ai q39aab
 have q39abp:=ai cB
 have dY:=ai cA
 exact Pl 1<|L1<|aP c 10<|Pl 1<|L1<|aP b 10<|Pl 2<|ce b3 (A.events != B.events) (by rw[E];rfl)
 refine Pl 1<|cu 6 [89] 95 (((((((((((((A.code != B.code)||(A.fail != B.fail))||(A.addr != B.addr))||(A.count != B.count))||(A.value != B.value))||(A.and_ != B.and_))||(A.or_ != B.or_))||(A.addr2 != B.addr2))||(A.sub != B.sub))||(A.status != B.status))||(A.events != B.events))||(A.messages != B.messages))) (fun K b6=>?_) ?_
 refine bl 89 ((((((((((((A.code != B.code)||(A.fail != B.fail))||(A.addr != B.addr))||(A.count != B.count))||(A.value != B.value))||(A.and_ != B.and_))||(A.or_ != B.or_))||(A.addr2 != B.addr2))||(A.sub != B.sub))||(A.status != B.status))||(A.events != B.events))) (fun F=>?_) (fun F=>?_)
 exact Pl 6<|ce b6 true (by rw[F];rfl)
 have b7:=(aH F).1
 have cC:=(aH F).2
 have b8:=(aH b7).1
 have cD:=(aH b7).2
 have q41aaa:=(aH b8).1
 have q41aab:=(aH b8).2
 have q41aaaa:=(aH q41aaa).1
 have q41aaab:=(aH q41aaa).2
 have q41aaaaa:=(aH q41aaaa).1
 have q41aaaab:=(aH q41aaaa).2
 have q41aaaaaa:=(aH q41aaaaa).1
 have q41aaaaab:=(aH q41aaaaa).2
 have q41aaaaaaa:=(aH q41aaaaaa).1
 have q41aaaaaab:=(aH q41aaaaaa).2
 have q41aaaaaaaa:=(aH q41aaaaaaa).1
 have q41aaaaaaab:=(aH q41aaaaaaa).2
 have q41aaaaaaaaa:=(aH q41aaaaaaaa).1
 have q41aaaaaaaab:=(aH q41aaaaaaaa).2
 have q41aaaaaaaaaa:=(aH q41aaaaaaaaa).1
 have q41aaaaaaaaab:=(aH q41aaaaaaaaa).2
 have q41aaaaaaaaaap:=ai q41aaaaaaaaaa
 have q41aaaaaaaaabp:=ai q41aaaaaaaaab
 have q41aaaaaaaabp:=ai q41aaaaaaaab
 have q41aaaaaaabp:=ai q41aaaaaaab
 have q41aaaaaabp:=ai q41aaaaaab
 have q41aaaaabp:=ai q41aaaaab
 have q41aaaabp:=ai q41aaaab
 have q41aaabp:=ai q41aaab
 have q41aabp:=ai q41aab
 have q41abp:=ai cD
 have dZ:=ai cC
 exact Pl 1<|L1<|aP c 11<|Pl 1<|L1<|aP b 11<|Pl 2<|ce b6 (A.messages != B.messages) (by rw[F];rfl)
 refine nt<|?_
 have G:=aG cg ay
 refine cb (((((((((((((A.code != B.code)||(A.fail != B.fail))||(A.addr != B.addr))||(A.count != B.count))||(A.value != B.value))||(A.and_ != B.and_))||(A.or_ != B.or_))||(A.addr2 != B.addr2))||(A.sub != B.sub))||(A.status != B.status))||(A.events != B.events))||(A.messages != B.messages))) (fun H=>?_) (fun H=>?_)
 refine sg<|Pl 1<|nt<|rt<|tr<|rr (.bool false)<|?_
 have hs:decide (A=B)=false:=lZ (f:=fun x y=>((((((((((((x.code != y.code)||(x.fail != y.fail))||(x.addr != y.addr))||(x.count != y.count))||(x.value != y.value))||(x.and_ != y.and_))||(x.or_ != y.or_))||(x.addr2 != y.addr2))||(x.sub != y.sub))||(x.status != y.status))||(x.events != y.events))||(x.messages != y.messages))) H (fun M=>by simp)
 rw[hs]
 exact⟨rfl,G⟩
 have b9:=(aH H).1
 have cE:=(aH H).2
 have ba:=(aH b9).1
 have cF:=(aH b9).2
 have q44aaa:=(aH ba).1
 have q44aab:=(aH ba).2
 have q44aaaa:=(aH q44aaa).1
 have q44aaab:=(aH q44aaa).2
 have q44aaaaa:=(aH q44aaaa).1
 have q44aaaab:=(aH q44aaaa).2
 have q44aaaaaa:=(aH q44aaaaa).1
 have q44aaaaab:=(aH q44aaaaa).2
 have q44aaaaaaa:=(aH q44aaaaaa).1
 have q44aaaaaab:=(aH q44aaaaaa).2
 have q44aaaaaaaa:=(aH q44aaaaaaa).1
 have q44aaaaaaab:=(aH q44aaaaaaa).2
 have q44aaaaaaaaa:=(aH q44aaaaaaaa).1
 have q44aaaaaaaab:=(aH q44aaaaaaaa).2
 have q44aaaaaaaaaa:=(aH q44aaaaaaaaa).1
 have q44aaaaaaaaab:=(aH q44aaaaaaaaa).2
 have q44aaaaaaaaaaa:=(aH q44aaaaaaaaaa).1
 have q44aaaaaaaaaab:=(aH q44aaaaaaaaaa).2
 have q44aaaaaaaaaaap:=ai q44aaaaaaaaaaa
 have q44aaaaaaaaaabp:=ai q44aaaaaaaaaab
 have q44aaaaaaaaabp:=ai q44aaaaaaaaab
 have q44aaaaaaaabp:=ai q44aaaaaaaab
 have q44aaaaaaabp:=ai q44aaaaaaab
 have q44aaaaaabp:=ai q44aaaaaab
 have q44aaaaabp:=ai q44aaaaab
 have q44aaaabp:=ai q44aaaab
 have q44aaabp:=ai q44aaab
 have q44aabp:=ai q44aab
 have q44abp:=ai cF
 have e0:=ai cE
 refine bp<|sq<|sg<|Pl 1<|L0<|aP c 16<|Pl 1<|L0<|aP b 16<|Pl 2<|cu 6 [101] 107 (((A.mei != B.mei)||(A.kind != B.kind))) (fun K bb=>?_) ?_
 refine bl 101 ((A.mei != B.mei)) (fun I=>?_) (fun I=>?_)
 have cG:=az I
 exact Pl 6<|ce bb true (by rw[I];rfl)
 have cG:=ai I
 exact Pl 1<|L1<|aP c 17<|Pl 1<|L1<|aP b 17<|Pl 2<|ce bb (A.kind != B.kind) (by rw[I];rfl)
 refine Pl 1<|cu 6 [108] 114 ((((A.mei != B.mei)||(A.kind != B.kind))||(A.level != B.level))) (fun K bc=>?_) ?_
 refine bl 108 (((A.mei != B.mei)||(A.kind != B.kind))) (fun J=>?_) (fun J=>?_)
 exact Pl 6<|ce bc true (by rw[J];rfl)
 have cH:=(aH J).1
 have cI:=(aH J).2
 have e1:=ai cH
 have e2:=ai cI
 exact Pl 1<|L1<|aP c 18<|Pl 1<|L1<|aP b 18<|Pl 2<|ce bc (A.level != B.level) (by rw[J];rfl)
 refine Pl 1<|cu 6 [115] 121 (((((A.mei != B.mei)||(A.kind != B.kind))||(A.level != B.level))||(A.more != B.more))) (fun K bd=>?_) ?_
 refine bl 115 ((((A.mei != B.mei)||(A.kind != B.kind))||(A.level != B.level))) (fun L=>?_) (fun L=>?_)
 exact Pl 6<|ce bd true (by rw[L];rfl)
 have bf:=(aH L).1
 have cJ:=(aH L).2
 have cK:=(aH bf).1
 have cL:=(aH bf).2
 have q49aap:=ai cK
 have q49abp:=ai cL
 have e3:=ai cJ
 exact Pl 1<|L1<|aP c 19<|Pl 1<|L1<|aP b 19<|Pl 2<|ce bd (A.more != B.more) (by rw[L];rfl)
 refine Pl 1<|cu 6 [122] 128 ((((((A.mei != B.mei)||(A.kind != B.kind))||(A.level != B.level))||(A.more != B.more))||(A.next != B.next))) (fun K bg=>?_) ?_
 refine bl 122 (((((A.mei != B.mei)||(A.kind != B.kind))||(A.level != B.level))||(A.more != B.more))) (fun N=>?_) (fun N=>?_)
 exact Pl 6<|ce bg true (by rw[N];rfl)
 have bi:=(aH N).1
 have cM:=(aH N).2
 have bm:=(aH bi).1
 have cN:=(aH bi).2
 have q51aaa:=(aH bm).1
 have q51aab:=(aH bm).2
 have q51aaap:=ai q51aaa
 have q51aabp:=ai q51aab
 have q51abp:=ai cN
 have e4:=ai cM
 exact Pl 1<|L1<|aP c 20<|Pl 1<|L1<|aP b 20<|Pl 2<|ce bg (A.next != B.next) (by rw[N];rfl)
 refine nt<|cb ((((((A.mei != B.mei)||(A.kind != B.kind))||(A.level != B.level))||(A.more != B.more))||(A.next != B.next))) (fun O=>?_) (fun O=>?_)
 refine sg<|Pl 1<|nt<|rt<|tr<|rr (.bool false)<|?_
 have hs:decide (A=B)=false:=lZ (f:=fun x y=>(((((x.mei != y.mei)||(x.kind != y.kind))||(x.level != y.level))||(x.more != y.more))||(x.next != y.next))) O (fun M=>by simp)
 rw[hs]
 exact⟨rfl,G⟩
 have bo:=(aH O).1
 have cO:=(aH O).2
 have bq:=(aH bo).1
 have cP:=(aH bo).2
 have q53aaa:=(aH bq).1
 have q53aab:=(aH bq).2
 have q53aaaa:=(aH q53aaa).1
 have q53aaab:=(aH q53aaa).2
 have q53aaaap:=ai q53aaaa
 have q53aaabp:=ai q53aaab
 have q53aabp:=ai q53aab
 have q53abp:=ai cP
 have e5:=ai cO
 refine bp<|sg<|Pl 1<|L0<|aP c 12<|Pl 1<|L0<|aP b 12<|?_
 refine L0<|Oc<|m1 (iT (dP.old phw G) (dP.old qhw G)) fun e6 aa=>Pl 1<|ng<|Pl 1<|?_
 have bs:=ub aa c
 refine L0<|aP bs 13<|Pl 1<|?_
 have bt:=ub aa b
 refine L0<|aP bt 13<|?_
 have ab:=aG G aa
 refine L0<|Oc<|m1 (nw (hZ.old phb ab) (hZ.old qhb ab)) fun e7 ac=>Pl 1<|ng<|Pl 1<|?_
 have a2:=ub ac bs
 refine L0<|aP a2 14<|Pl 1<|?_
 have P:=ub ac bt
 refine L0<|aP P 14<|?_
 have ad:=aG ab ac
 refine L0<|Oc<|m1 (io (bh.old phd ad) (bh.old qhd ad)) fun cQ n=>Pl 1<|nt<|sq<|sg<|Pl 3<|cu 3 [146] 149 (((!(decide (A.words=B.words)))||(!(decide (A.bits=B.bits))))) (fun K bv=>?_) ?_
 refine bl 146 ((!(decide (A.words=B.words)))) (fun Q=>?_) (fun Q=>?_)
 have ae:(decide (A.words=B.words))=false:=by simpa using Q
 have cR:=of_decide_eq_false ae
 exact Pl 3<|ce bv true (by rw[Q];rfl)
 have ae:(decide (A.words=B.words))=true:=by simpa using Q
 have cR:=of_decide_eq_true ae
 exact Pl 3<|ce bv (!(decide (A.bits=B.bits))) (by rw[Q];rfl)
 refine Pl 1<|cu 3 [150] 153 ((((!(decide (A.words=B.words)))||(!(decide (A.bits=B.bits))))||(!(decide (A.data=B.data))))) (fun K bw=>?_) ?_
 refine bl 150 (((!(decide (A.words=B.words)))||(!(decide (A.bits=B.bits))))) (fun R=>?_) (fun R=>?_)
 exact Pl 3<|ce bw true (by rw[R];rfl)
 have cS:=(aH R).1
 have cT:=(aH R).2
 have cU:(decide (A.words=B.words))=true:=by simpa using cS
 have q74anp:=of_decide_eq_true cU
 have cV:(decide (A.bits=B.bits))=true:=by simpa using cT
 have q74bnp:=of_decide_eq_true cV
 exact Pl 3<|ce bw (!(decide (A.data=B.data))) (by rw[R];rfl)
 refine Pl 1<|cu 8 [154] 162 (((((!(decide (A.words=B.words)))||(!(decide (A.bits=B.bits))))||(!(decide (A.data=B.data))))||(((A.recs.length:Nat) : Int)!=((B.recs.length:Nat) : Int)))) (fun K bz=>?_) ?_
 refine bl 154 ((((!(decide (A.words=B.words)))||(!(decide (A.bits=B.bits))))||(!(decide (A.data=B.data))))) (fun S=>?_) (fun S=>?_)
 exact Pl 8<|ce bz true (by rw[S];rfl)
 have bA:=(aH S).1
 have cW:=(aH S).2
 have cX:=(aH bA).1
 have cY:=(aH bA).2
 have q76aan:(decide (A.words=B.words))=true:=by simpa using cX
 have q76aanp:=of_decide_eq_true q76aan
 have q76abn:(decide (A.bits=B.bits))=true:=by simpa using cY
 have q76abnp:=of_decide_eq_true q76abn
 have cZ:(decide (A.data=B.data))=true:=by simpa using cW
 have q76bnp:=of_decide_eq_true cZ
 refine Pl 1<|?_
 refine L1<|aP (ub n a2) 15<|Pl 2<|?_
 exact L1<|aP (ub n P) 15<|Pl 3<|ce bz (((A.recs.length:Nat) : Int)!=((B.recs.length:Nat) : Int)) (by rw[S];rfl)
 refine Pl 1<|cu 8 [163] 171 ((((((!(decide (A.words=B.words)))||(!(decide (A.bits=B.bits))))||(!(decide (A.data=B.data))))||(((A.recs.length:Nat) : Int)!=((B.recs.length:Nat) : Int)))||(((A.objects.length:Nat) : Int)!=((B.objects.length:Nat) : Int)))) (fun K bB=>?_) ?_
 refine bl 163 (((((!(decide (A.words=B.words)))||(!(decide (A.bits=B.bits))))||(!(decide (A.data=B.data))))||(((A.recs.length:Nat) : Int)!=((B.recs.length:Nat) : Int)))) (fun T=>?_) (fun T=>?_)
 exact Pl 8<|ce bB true (by rw[T];rfl)
 have bC:=(aH T).1
 have d0:=(aH T).2
 have bD:=(aH bC).1
 have d1:=(aH bC).2
 have q80aaa:=(aH bD).1
 have q80aab:=(aH bD).2
 have q80aaan:(decide (A.words=B.words))=true:=by simpa using q80aaa
 have q80aaanp:=of_decide_eq_true q80aaan
 have q80aabn:(decide (A.bits=B.bits))=true:=by simpa using q80aab
 have q80aabnp:=of_decide_eq_true q80aabn
 have q80abn:(decide (A.data=B.data))=true:=by simpa using d1
 have q80abnp:=of_decide_eq_true q80abn
 have e8:=ai d0
 refine Pl 1<|?_
 refine L1<|aP (ub n a2) 21<|Pl 2<|?_
 exact L1<|aP (ub n P) 21<|Pl 3<|ce bB (((A.objects.length:Nat) : Int)!=((B.objects.length:Nat) : Int)) (by rw[T];rfl)
 refine nt<|?_
 have bE:=aG ad n
 refine cb ((((((!(decide (A.words=B.words)))||(!(decide (A.bits=B.bits))))||(!(decide (A.data=B.data))))||(((A.recs.length:Nat) : Int)!=((B.recs.length:Nat) : Int)))||(((A.objects.length:Nat) : Int)!=((B.objects.length:Nat) : Int)))) (fun U=>?_) (fun U=>?_)
 refine sg<|Pl 1<|nt<|rt<|tr<|rr (.bool false)<|?_
 have hs:decide (A=B)=false:=lZ (f:=fun x y=>(((((!(decide (x.words=y.words)))||(!(decide (x.bits=y.bits))))||(!(decide (x.data=y.data))))||(((x.recs.length:Nat) : Int)!=((y.recs.length:Nat) : Int)))||(((x.objects.length:Nat) : Int)!=((y.objects.length:Nat) : Int)))) U (fun M=>by simp)
 rw[hs]
 exact⟨rfl,bE⟩
 have bF:=(aH U).1
 have d2:=(aH U).2
 have bG:=(aH bF).1
 have d3:=(aH bF).2
 have q85aaa:=(aH bG).1
 have q85aab:=(aH bG).2
 have q85aaaa:=(aH q85aaa).1
 have q85aaab:=(aH q85aaa).2
 have q85aaaan:(decide (A.words=B.words))=true:=by simpa using q85aaaa
 have q85aaaanp:=of_decide_eq_true q85aaaan
 have q85aaabn:(decide (A.bits=B.bits))=true:=by simpa using q85aaab
 have q85aaabnp:=of_decide_eq_true q85aaabn
 have q85aabn:(decide (A.data=B.data))=true:=by simpa using q85aab
 have q85aabnp:=of_decide_eq_true q85aabn
 have q85abp:=ai d3
 have e9:=ai d2
 refine bp<|sq<|sg<|Pl 1<|nt<|bk<|?_
 refine js (fun x=>[(2,.pointer (some ⟨i,0,none⟩)),(3,.pointer (some ⟨l,0,none⟩)),(8,.int .i64 ((x:Nat) : Int))]) (fun(x:Nat) w'=>aF [] cQ w'∧(A.recs.take x=B.recs.take x)∧(x≤A.recs.length)) (fun x=>A.recs.length-x) 0 ⟨aF.refl _ _,(by(try dsimp only);simp),(by(try dsimp only);omega)⟩ ?_
 rintro j d4 ⟨a3,d5,d6⟩
 refine ju [(2,.pointer (some ⟨i,0,none⟩)),(3,.pointer (some ⟨l,0,none⟩)),(8,.int .i64 ((j:Nat) : Int))] ?_
 have bH:A.recs.take j=B.recs.take j:=d5
 have ea:j≤A.recs.length:=d6
 refine sq<|sg<|Pl 2<|?_
 have a4:=aG n a3
 have af:=ub a4 a2
 refine L0<|aP af 15<|Pl 2<|nt<|?_
 have a5:=aG bE a3
 refine cb ((decide (((j:Nat) : Int)<((A.recs.length:Nat) : Int)))) (fun ag=>?_) (fun ag=>?_)
 have d7:=of_decide_eq_true ag
 refine bp<|sq<|bk<|sg<|Pl 1<|L0<|aP af 15<|Pl 1<|jh (kZ.elt phr j (by omega)) fun eb ec ed ee ef bI bJ d8 d9 da eg db=>L0<|nf 4 A.recs.length j d8 (by omega)<|?_
 refine L0<|xe [.int .u16 ((A.recs.getD j ⟨0,0,0,[]⟩).file),.int .u16 ((A.recs.getD j ⟨0,0,0,[]⟩).record),.int .u16 ((A.recs.getD j ⟨0,0,0,[]⟩).count),.slice bI ((A.recs.getD j ⟨0,0,0,[]⟩).words.length) bJ] (ub a5 d9) db<|L0<|bO #[.int .u16 0,.int .u16 0,.int .u16 0,.slice none 0 0] fun eh ei aj dc ak=>L0<|be dc #[.int .u16 ((A.recs.getD j ⟨0,0,0,[]⟩).file),.int .u16 ((A.recs.getD j ⟨0,0,0,[]⟩).record),.int .u16 ((A.recs.getD j ⟨0,0,0,[]⟩).count),.slice bI ((A.recs.getD j ⟨0,0,0,[]⟩).words.length) bJ] fun ej dd al=>ng<|Pl 1<|?_
 refine L0<|aP (ub (u1 (aG a4 ak) al (ni a4.size aj)) P) 15<|Pl 1<|jh (kZ.elt qhr j (by omega)) fun ek el em eo ep bK bL de df dg eq dh=>L0<|nf 4 B.recs.length j de (by omega)<|?_
 have am:=u1 (aG a5 ak) al (ni a5.size aj)
 refine L0<|xe [.int .u16 ((B.recs.getD j ⟨0,0,0,[]⟩).file),.int .u16 ((B.recs.getD j ⟨0,0,0,[]⟩).record),.int .u16 ((B.recs.getD j ⟨0,0,0,[]⟩).count),.slice bK ((B.recs.getD j ⟨0,0,0,[]⟩).words.length) bL] (ub am df) dh<|L0<|bO #[.int .u16 0,.int .u16 0,.int .u16 0,.slice none 0 0] fun er es an di ao=>L0<|be di #[.int .u16 ((B.recs.getD j ⟨0,0,0,[]⟩).file),.int .u16 ((B.recs.getD j ⟨0,0,0,[]⟩).record),.int .u16 ((B.recs.getD j ⟨0,0,0,[]⟩).count),.slice bK ((B.recs.getD j ⟨0,0,0,[]⟩).words.length) bL] fun et a6 ap=>ng<|Pl 1<|?_
 have a7:=ub (u1 ao ap (nr an)) dd
 refine L0<|aP a7 3<|Pl 1<|L0<|aP a6 3<|?_
 have aq:=u1 (aG am ao) ap (ni am.size an)
 refine L0<|Oc<|m1 (iT (dP.old da aq) (dP.old dg aq)) fun eu h=>Pl 1<|ng<|Pl 3<|cu 6 [196] 202 (((!(decide ((A.recs.getD j ⟨0,0,0,[]⟩).words=(B.recs.getD j ⟨0,0,0,[]⟩).words)))||(((A.recs.getD j ⟨0,0,0,[]⟩).file)!=((B.recs.getD j ⟨0,0,0,[]⟩).file)))) (fun K bM=>?_) ?_
 refine bl 196 ((!(decide ((A.recs.getD j ⟨0,0,0,[]⟩).words=(B.recs.getD j ⟨0,0,0,[]⟩).words)))) (fun V=>?_) (fun V=>?_)
 have ar:(decide ((A.recs.getD j ⟨0,0,0,[]⟩).words=(B.recs.getD j ⟨0,0,0,[]⟩).words))=false:=by simpa using V
 have dj:=of_decide_eq_false ar
 exact Pl 6<|ce bM true (by rw[V];rfl)
 have ar:(decide ((A.recs.getD j ⟨0,0,0,[]⟩).words=(B.recs.getD j ⟨0,0,0,[]⟩).words))=true:=by simpa using V
 have dj:=of_decide_eq_true ar
 refine Pl 1<|?_
 refine L1<|aP (ub h a7) 0<|Pl 1<|?_
 exact L1<|aP (ub h a6) 0<|Pl 2<|ce bM (((A.recs.getD j ⟨0,0,0,[]⟩).file)!=((B.recs.getD j ⟨0,0,0,[]⟩).file)) (by rw[V];rfl)
 refine Pl 1<|cu 6 [203] 209 ((((!(decide ((A.recs.getD j ⟨0,0,0,[]⟩).words=(B.recs.getD j ⟨0,0,0,[]⟩).words)))||(((A.recs.getD j ⟨0,0,0,[]⟩).file)!=((B.recs.getD j ⟨0,0,0,[]⟩).file)))||(((A.recs.getD j ⟨0,0,0,[]⟩).record)!=((B.recs.getD j ⟨0,0,0,[]⟩).record)))) (fun K bN=>?_) ?_
 refine bl 203 (((!(decide ((A.recs.getD j ⟨0,0,0,[]⟩).words=(B.recs.getD j ⟨0,0,0,[]⟩).words)))||(((A.recs.getD j ⟨0,0,0,[]⟩).file)!=((B.recs.getD j ⟨0,0,0,[]⟩).file)))) (fun W=>?_) (fun W=>?_)
 exact Pl 6<|ce bN true (by rw[W];rfl)
 have dk:=(aH W).1
 have dl:=(aH W).2
 have dm:(decide ((A.recs.getD j ⟨0,0,0,[]⟩).words=(B.recs.getD j ⟨0,0,0,[]⟩).words))=true:=by simpa using dk
 have q156anp:=of_decide_eq_true dm
 have ev:=ai dl
 refine Pl 1<|?_
 refine L1<|aP (ub h a7) 1<|Pl 1<|?_
 exact L1<|aP (ub h a6) 1<|Pl 2<|ce bN (((A.recs.getD j ⟨0,0,0,[]⟩).record)!=((B.recs.getD j ⟨0,0,0,[]⟩).record)) (by rw[W];rfl)
 refine Pl 1<|cu 6 [210] 216 (((((!(decide ((A.recs.getD j ⟨0,0,0,[]⟩).words=(B.recs.getD j ⟨0,0,0,[]⟩).words)))||(((A.recs.getD j ⟨0,0,0,[]⟩).file)!=((B.recs.getD j ⟨0,0,0,[]⟩).file)))||(((A.recs.getD j ⟨0,0,0,[]⟩).record)!=((B.recs.getD j ⟨0,0,0,[]⟩).record)))||(((A.recs.getD j ⟨0,0,0,[]⟩).count)!=((B.recs.getD j ⟨0,0,0,[]⟩).count)))) (fun K bP=>?_) ?_
 refine bl 210 ((((!(decide ((A.recs.getD j ⟨0,0,0,[]⟩).words=(B.recs.getD j ⟨0,0,0,[]⟩).words)))||(((A.recs.getD j ⟨0,0,0,[]⟩).file)!=((B.recs.getD j ⟨0,0,0,[]⟩).file)))||(((A.recs.getD j ⟨0,0,0,[]⟩).record)!=((B.recs.getD j ⟨0,0,0,[]⟩).record)))) (fun X=>?_) (fun X=>?_)
 exact Pl 6<|ce bP true (by rw[X];rfl)
 have bQ:=(aH X).1
 have dn:=(aH X).2
 have dp:=(aH bQ).1
 have dq:=(aH bQ).2
 have q160aan:(decide ((A.recs.getD j ⟨0,0,0,[]⟩).words=(B.recs.getD j ⟨0,0,0,[]⟩).words))=true:=by simpa using dp
 have q160aanp:=of_decide_eq_true q160aan
 have q160abp:=ai dq
 have ew:=ai dn
 refine Pl 1<|?_
 refine L1<|aP (ub h a7) 2<|Pl 1<|?_
 exact L1<|aP (ub h a6) 2<|Pl 2<|ce bP (((A.recs.getD j ⟨0,0,0,[]⟩).count)!=((B.recs.getD j ⟨0,0,0,[]⟩).count)) (by rw[X];rfl)
 refine nt<|?_
 refine cb (((((!(decide ((A.recs.getD j ⟨0,0,0,[]⟩).words=(B.recs.getD j ⟨0,0,0,[]⟩).words)))||(((A.recs.getD j ⟨0,0,0,[]⟩).file)!=((B.recs.getD j ⟨0,0,0,[]⟩).file)))||(((A.recs.getD j ⟨0,0,0,[]⟩).record)!=((B.recs.getD j ⟨0,0,0,[]⟩).record)))||(((A.recs.getD j ⟨0,0,0,[]⟩).count)!=((B.recs.getD j ⟨0,0,0,[]⟩).count)))) (fun Y=>?_) (fun Y=>?_)
 refine sg<|Pl 1<|nt<|rt<|br<|tr<|tr<|br<|tr<|rr (.bool false)<|?_
 have hs:decide (A=B)=false:=lZ (f:=fun x y=>((((!(decide ((x.recs.getD j ⟨0,0,0,[]⟩).words=(y.recs.getD j ⟨0,0,0,[]⟩).words)))||(((x.recs.getD j ⟨0,0,0,[]⟩).file)!=((y.recs.getD j ⟨0,0,0,[]⟩).file)))||(((x.recs.getD j ⟨0,0,0,[]⟩).record)!=((y.recs.getD j ⟨0,0,0,[]⟩).record)))||(((x.recs.getD j ⟨0,0,0,[]⟩).count)!=((y.recs.getD j ⟨0,0,0,[]⟩).count)))) Y (fun M=>by simp)
 rw[hs]
 exact⟨rfl,(aG aq h)⟩
 have bR:=(aH Y).1
 have dr:=(aH Y).2
 have bS:=(aH bR).1
 have ds:=(aH bR).2
 have q165aaa:=(aH bS).1
 have q165aab:=(aH bS).2
 have q165aaan:(decide ((A.recs.getD j ⟨0,0,0,[]⟩).words=(B.recs.getD j ⟨0,0,0,[]⟩).words))=true:=by simpa using q165aaa
 have q165aaanp:=of_decide_eq_true q165aaan
 have q165aabp:=ai q165aab
 have q165abp:=ai ds
 have ex:=ai dr
 refine sk<|bn<|tn<|go<|Pl 1<|L0<|Oi (((j:Nat) : Int)+1)<|Pl 1<|nl<|?_
 have bT:=u1 (aG a3 ak) al (ni a3.size aj)
 exact gM (j+1) ⟨(aG (u1 (aG bT ao) ap (ni bT.size an)) h),(qv (d:=⟨0,0,0,[]⟩) bH (by omega) (by omega) (wB Y)),(by(try dsimp only);omega)⟩ (by omega)
 have d7:=of_decide_eq_false ag
 refine xt<|tx<|tx<|bx<|tn<|sq<|sg<|Pl 1<|nt<|bk<|?_
 refine js (fun x=>[(2,.pointer (some ⟨i,0,none⟩)),(3,.pointer (some ⟨l,0,none⟩)),(12,.int .i64 ((x:Nat) : Int))]) (fun(x:Nat) w'=>aF [] d4 w'∧(A.objects.take x=B.objects.take x)∧(x≤A.objects.length)) (fun x=>A.objects.length-x) 0 ⟨aF.refl _ _,(by(try dsimp only);simp),(by(try dsimp only);omega)⟩ ?_
 rintro k ey ⟨a8,dt,du⟩
 refine ju [(2,.pointer (some ⟨i,0,none⟩)),(3,.pointer (some ⟨l,0,none⟩)),(12,.int .i64 ((k:Nat) : Int))] ?_
 have bU:A.objects.take k=B.objects.take k:=dt
 have ez:k≤A.objects.length:=du
 refine sq<|sg<|Pl 2<|?_
 have bV:=ub a8 af
 refine L0<|aP bV 21<|Pl 2<|nt<|?_
 have bW:=aG a5 a8
 refine cb ((decide (((k:Nat) : Int)<((A.objects.length:Nat) : Int)))) (fun au=>?_) (fun au=>?_)
 have dx:=of_decide_eq_true au
 refine bp<|sq<|bk<|sq<|jh (mj.elt pho k (by omega)) fun bX bY eA eB eC dy dz bZ dA dB eD av=>jh (mj.elt qho k (by omega)) fun c0 c2 eE eF eG dC dD c3 dE dF eH aw=>Rg 14 (fun w'=>w'.cell? ⟨i,21,none⟩=some (.slice po A.objects.length pko)∧w'.cell? ⟨bX,bY+k*2+1,none⟩=some (.slice dy ((A.objects.getD k ⟨0,[]⟩).value.length) dz)∧w'.cell? ⟨l,21,none⟩=some (.slice qo B.objects.length qko)∧w'.cell? ⟨c0,c2+k*2+1,none⟩=some (.slice dC ((B.objects.getD k ⟨0,[]⟩).value.length) dD)) fun eI a9=>?_
 have c4:=ub a9 bV
 have Z:=aG bW a9
 have c5:=ub Z dA
 have c6:=ub (aG (aG a4 a8) a9) P
 have c7:=ub Z dE
 refine bj ⟨(ah c4 rfl),(fM c5 av 1 rfl (by decide)),(ah c6 rfl),(fM c7 aw 1 rfl (by decide))⟩ fun g=>Rt 0 g<|Rl 1 g (fun _ hs=>hs.1)<|Rt 2 g<|Ri 3 g 2 A.objects.length k ((k:Nat) : Int) rfl bZ (by omega)<|Rt 4 g<|Rl 5 g (fun _ hs=>hs.2.1)<|Rt 6 g<|Rl 7 g (fun _ hs=>hs.2.2.1)<|Rt 8 g<|Ri 9 g 2 B.objects.length k ((k:Nat) : Int) rfl c3 (by omega)<|Rt 10 g<|Rl 11 g (fun _ hs=>hs.2.2.2)<|?_
 refine R0 12 rfl<|Oc<|m1 (io (bh.old dB Z) (bh.old dF Z)) fun eJ o=>?_
 have c8:=ub o c4
 have c9:=ub o c5
 have ca:=ub o c6
 have cc:=ub o c7
 refine bj ⟨(ah c8 rfl),(fM c9 av 1 rfl (by decide)),(ah ca rfl),(fM cc aw 1 rfl (by decide))⟩ fun dG=>Rt 13 dG<|re<|tn<|sq<|Rg 17 (fun w'=>w'.cell? ⟨i,21,none⟩=some (.slice po A.objects.length pko)∧w'.cell? ⟨bX,bY+k*2+0,none⟩=some (.int .u8 ((A.objects.getD k ⟨0,[]⟩).id))∧w'.cell? ⟨l,21,none⟩=some (.slice qo B.objects.length qko)∧w'.cell? ⟨c0,c2+k*2+0,none⟩=some (.int .u8 ((B.objects.getD k ⟨0,[]⟩).id))) fun eK p=>?_
 refine bj ⟨(ah (ub p c8) rfl),(fM (ub p c9) av 0 rfl (by decide)),(ah (ub p ca) rfl),(fM (ub p cc) aw 0 rfl (by decide))⟩ fun a=>Rt 0 a<|Rt 1 a<|Rt 2 a<|?_
 have cd:=aG (aG Z o) p
 refine si 239 ((!(decide ((A.objects.getD k ⟨0,[]⟩).value=(B.objects.getD k ⟨0,[]⟩).value)))) (fun a0=>?_) (fun a0=>?_)
 have ax:(decide ((A.objects.getD k ⟨0,[]⟩).value=(B.objects.getD k ⟨0,[]⟩).value))=false:=by simpa using a0
 have dH:=of_decide_eq_false ax
 refine Ro 3 a<|Ro 4 a<|Ro 5 a<|Ro 6 a<|Ro 7 a<|Ro 8 a<|Ro 9 a<|Ro 10 a<|Ro 11 a<|Ro 12 a<|Ro 13 a<|Ro 14 a<|Ro 15 a<|Rt 16 a<|?_
 refine re<|tn<|c1<|sg<|Pl 1<|nt<|rt<|br<|tr<|tr<|br<|tr<|?_
 refine rr (.bool false)<|?_
 have hs:decide (A=B)=false:=lZ (f:=fun x y=>(!(decide ((x.objects.getD k ⟨0,[]⟩).value=(y.objects.getD k ⟨0,[]⟩).value)))) a0 (fun M=>by simp)
 rw[hs]
 exact⟨rfl,cd⟩
 have ax:(decide ((A.objects.getD k ⟨0,[]⟩).value=(B.objects.getD k ⟨0,[]⟩).value))=true:=by simpa using a0
 have dH:=of_decide_eq_true ax
 refine Rt 3 a<|Rl 4 a (fun _ hs=>hs.1)<|Rt 5 a<|Ri 6 a 2 A.objects.length k ((k:Nat) : Int) rfl bZ (by omega)<|Rt 7 a<|Rl 8 a (fun _ hs=>hs.2.1)<|Rt 9 a<|Rl 10 a (fun _ hs=>hs.2.2.1)<|Rt 11 a<|Ri 12 a 2 B.objects.length k ((k:Nat) : Int) rfl c3 (by omega)<|Rt 13 a<|Rl 14 a (fun _ hs=>hs.2.2.2)<|Rt 15 a<|Rt 16 a<|?_
 refine re<|tn<|cb ((((A.objects.getD k ⟨0,[]⟩).id)!=((B.objects.getD k ⟨0,[]⟩).id))) (fun a1=>?_) (fun a1=>?_)
 have dI:=az a1
 refine sg<|Pl 1<|nt<|rt<|br<|tr<|tr<|br<|tr<|rr (.bool false)<|?_
 have hs:decide (A=B)=false:=lZ (f:=fun x y=>(((x.objects.getD k ⟨0,[]⟩).id)!=((y.objects.getD k ⟨0,[]⟩).id))) a1 (fun M=>by simp)
 rw[hs]
 exact⟨rfl,cd⟩
 have dI:=ai a1
 refine sk<|bn<|tn<|go<|Pl 1<|L0<|Oi (((k:Nat) : Int)+1)<|Pl 1<|nl<|?_
 exact gM (k+1) ⟨(aG (aG (aG a8 a9) o) p),(qv (d:=⟨0,[]⟩) bU (by omega) (by omega) (uN a0 a1)),(by(try dsimp only);omega)⟩ (by omega)
 have dx:=of_decide_eq_false au
 refine xt<|tx<|tx<|bx<|tn<|sg<|Pl 1<|nt<|rt<|rr (.bool true)<|?_
 have hs:decide (A=B)=true:=decide_eq_true (v6 H O U (fun e=>gL bH (by omega) e) (fun e=>gL bU (by omega) e))
 rw[hs]
 exact⟨rfl,bW⟩
end Go.Proofs.YtogbnemojakcpaaGreat
