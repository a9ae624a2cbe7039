/- Contracts of functions, part CStreamHolds4. -/
import Derived.Test.YtpglhicfhppaiaaGreatCStreamHolds1
import Derived.Test.YtpglhicfhppaiaaGreatCStreamHolds2
import Derived.Test.YtpglhicfhppaiaaGreatCStreamHolds3
import Derived.OpenShut
import Derived.Below
import Derived.Deep.Upon
import Derived.Laws.BitsAllLaws
import Derived.Laws.StructEq
set_option linter.unusedVariables false
set_option linter.unusedSimpArgs false
set_option maxRecDepth 100000
set_option maxHeartbeats 4000000
namespace Go.Proofs.YtpglhicfhppaiaaGreat
open Go.RowKit
def bE (dir:Int)(M:aT) : List Int :=
  if M.code==8 then aG [M.sub]++aG M.words
  else if dir==0 then []
  else if M.code==7 then [M.value%256]
  else if M.code==11 then aG [M.status,M.events]
  else if M.code==12 then (([(6+(M.data.length:Int))%256]++aG [M.status,M.events,M.messages])++M.data)
  else [(M.data.length:Int)%256]++M.data
theorem qa{m:Bool}{cs:Array Value}{M:aT}{w:World}{dir:Int}(h:aF m w cs.toList M)(hf:aW M)(hd0:(dir==0)=true) : Calls Tryz.prog 90 #[.int .i64 dir,.agg cs] w (ig (bE dir M) w):=by
 obtain⟨vw,vb,vd,vr,vo,h0,hw,hbt,hd,hr,ho,hR⟩:=h
 obtain rfl:cs=(bA M vw vb vd vr vo).toArray:=by apply Array.toList_inj.1;simpa using h0
 clear h0
 obtain⟨Aw,kw,rfl,_,_⟩:=hw.shape
 obtain⟨Ab,kb,rfl,_,_⟩:=hbt.shape
 obtain⟨Ad,kd,rfl,_,_⟩:=hd.shape
 obtain⟨Ar,kr,rfl,_,_⟩:=hr.shape
 obtain⟨Ao,ko,rfl,_,_⟩:=ho.shape
 obtain⟨q0,q1,q2,q3,q4,q5,q6,q7,q8,q9,u,v,y,z,A,B,C⟩:=hR
 simp only[B8,dA] at q0 q1 q2 q3 q4 q5 q6 q7 q8 q9 u v y z A B C
 have hf1:=hf.words
 have hf2:=hf.bits
 have hf3:=hf.data
 have hf4:=hf.recs
 have hf5:=hf.objects
 refine en 70 Tryz.func90 rfl<|sg<|L0<|cI (mG M.code M.fail M.addr M.count M.value M.and_ M.or_ M.addr2 M.sub M.status M.events M.messages (.slice Aw M.words.length kw) (.slice Ab M.bits.length kb) (.slice Ad M.data.length kd) (.slice Ar M.recs.length kr) M.mei M.kind M.level M.more M.next (.slice Ao M.objects.length ko)) fun q O P i d=>Pl 1<|nt<|sq<|bk<|sg<|Pl 1<|L0<|aP i 0<|Pl 2<|nl<|?_
 refine tn<|cb ((M.code==8)) (fun a=>?_) (fun a=>?_)
 have D:=ax a
 refine sq<|Rg 9 (fun w'=>w'.cell? ⟨q,8,none⟩=some (.int .u16 M.sub)∧w'.cell? ⟨q,12,none⟩=some (.slice Aw M.words.length kw)) fun Q b=>?_
 have j:=ub b i
 refine aZ ⟨(aa j rfl),(aa j rfl)⟩ fun f=>Rt 0 f<|Rl 1 f (fun _ hs=>hs.1)<|Rt 4 f<|Rl 5 f (fun _ hs=>hs.2)<|R0 2 rfl<|cR (m:=1) (e:=22) #[.int .u16 M.sub] fun R S E F c=>?_
 have G:=eh E (xs:=[M.sub]) (by as_aux_lemma=>kernel_rfl) (ap (by omega) aO) (by(try simp only[List.length_cons,List.length_nil]);omega) F
 have k:=ub c j
 refine aZ ⟨(aa k rfl),(aa k rfl)⟩ fun T=>R0 3 rfl<|Oc<|dX (bj (xs:=[M.sub]) (G).rd (by(try simp only[List.length_cons,List.length_nil]);omega)) fun H U V l W X n=>?_
 have o:=ub n k
 refine aZ ⟨(aa o rfl),(aa o rfl)⟩ fun Y=>?_
 have r:=aD d (aD b (aD c n))
 refine R0 6 rfl<|Oc<|dX (bj (xs:=M.words) (dT.old hw r) (by(try simp only[List.length_cons,List.length_nil]);omega)) fun Z a0 a1 I a2 a3 g=>?_
 have p:=ub g o
 refine aZ ⟨(aa p rfl),(aa p rfl)⟩ fun a4=>?_
 refine R0 7 rfl<|cg aX (xs:=(aG ([M.sub]))) (ys:=(aG M.words)) (.int .u8 0) 1 (ak l g (fun x hx=>az) (fun _ _ h=>h)) (I).rd (by(try simp only[List.length_append,List.length_cons,List.length_nil,av]);omega) (le n.size g.size) fun J K a5 L s=>?_
 have t:=ay.blk s (aH (aC (am i) (le b.size c.size) l) az) p
 refine aZ ⟨(aa t rfl),(aa t rfl)⟩ fun N=>Rt 8 N<|re<|tn<|rt<|br<|tr<|rr (.slice J (((aG ([M.sub]))++(aG M.words)).length) K)<|?_
 have hs:bE dir M=((aG ([M.sub]))++(aG M.words)):=by
   unfold bE
   (try simp only[hd0,a,bs,if_true,if_false,decide_true,decide_false,reduceIte])
   all_goals rfl
 rw[hs]
 exact⟨_,rfl,(aL.weaken L (le (le d.size b.size) c.size)),(ut r (ut (ay.mono (S':=(ob H++[])) g au) s (ai il au)) (ai (aI l (le (le d.size b.size) c.size)) au))⟩
 have D:=aA a
 refine sg<|Pl 3<|nt<|ct hd0<|sg<|Pl 1<|nt<|rt<|br<|tr<|?_
 refine rr (.slice none 0 0)<|?_
 have hs:bE dir M=[]:=by
   unfold bE
   (try simp only[hd0,a,bs,if_true,if_false,decide_true,decide_false,reduceIte])
   all_goals rfl
 rw[hs]
 exact⟨_,rfl,(aL.nil ..),d⟩
theorem qn{m:Bool}{cs:Array Value}{M:aT}{w:World}{dir:Int}(h:aF m w cs.toList M)(hf:aW M)(hd0:(dir==0)=false) : Calls Tryz.prog 90 #[.int .i64 dir,.agg cs] w (ig (bE dir M) w):=by
 obtain⟨vw,vb,vd,vr,vo,h0,hw,hbt,hd,hr,ho,hR⟩:=h
 obtain rfl:cs=(bA M vw vb vd vr vo).toArray:=by apply Array.toList_inj.1;simpa using h0
 clear h0
 obtain⟨Aw,kw,rfl,_,_⟩:=hw.shape
 obtain⟨Ab,kb,rfl,_,_⟩:=hbt.shape
 obtain⟨Ad,kd,rfl,_,_⟩:=hd.shape
 obtain⟨Ar,kr,rfl,_,_⟩:=hr.shape
 obtain⟨Ao,ko,rfl,_,_⟩:=ho.shape
 obtain⟨q0,q1,q2,q3,q4,q5,q6,q7,q8,q9,aj,al,an,ao,aq,ar,aw⟩:=hR
 simp only[B8,dA] at q0 q1 q2 q3 q4 q5 q6 q7 q8 q9 aj al an ao aq ar aw
 have hf1:=hf.words
 have hf2:=hf.bits
 have hf3:=hf.data
 have hf4:=hf.recs
 have hf5:=hf.objects
 refine en 70 Tryz.func90 rfl<|sg<|L0<|cI (mG M.code M.fail M.addr M.count M.value M.and_ M.or_ M.addr2 M.sub M.status M.events M.messages (.slice Aw M.words.length kw) (.slice Ab M.bits.length kb) (.slice Ad M.data.length kd) (.slice Ar M.recs.length kr) M.mei M.kind M.level M.more M.next (.slice Ao M.objects.length ko)) fun l bX bY b a=>Pl 1<|nt<|sq<|bk<|sg<|Pl 1<|L0<|aP b 0<|Pl 2<|nl<|?_
 refine tn<|cb ((M.code==8)) (fun f=>?_) (fun f=>?_)
 have aB:=ax f
 refine sq<|Rg 9 (fun w'=>w'.cell? ⟨l,8,none⟩=some (.int .u16 M.sub)∧w'.cell? ⟨l,12,none⟩=some (.slice Aw M.words.length kw)) fun bZ p=>?_
 have J:=ub p b
 refine aZ ⟨(aa J rfl),(aa J rfl)⟩ fun E=>Rt 0 E<|Rl 1 E (fun _ hs=>hs.1)<|Rt 4 E<|Rl 5 E (fun _ hs=>hs.2)<|R0 2 rfl<|cR (m:=1) (e:=22) #[.int .u16 M.sub] fun c0 c1 aE aJ q=>?_
 have aK:=eh aE (xs:=[M.sub]) (by as_aux_lemma=>kernel_rfl) (ap (by omega) aO) (by(try simp only[List.length_cons,List.length_nil]);omega) aJ
 have K:=ub q J
 refine aZ ⟨(aa K rfl),(aa K rfl)⟩ fun c2=>R0 3 rfl<|Oc<|dX (bj (xs:=[M.sub]) (aK).rd (by(try simp only[List.length_cons,List.length_nil]);omega)) fun aM c3 c4 L c5 c6 N=>?_
 have O:=ub N K
 refine aZ ⟨(aa O rfl),(aa O rfl)⟩ fun c7=>?_
 have X:=aD a (aD p (aD q N))
 refine R0 6 rfl<|Oc<|dX (bj (xs:=M.words) (dT.old hw X) (by(try simp only[List.length_cons,List.length_nil]);omega)) fun c8 c9 ca aN cc cd F=>?_
 have P:=ub F O
 refine aZ ⟨(aa P rfl),(aa P rfl)⟩ fun ce=>?_
 refine R0 7 rfl<|cg aX (xs:=(aG ([M.sub]))) (ys:=(aG M.words)) (.int .u8 0) 1 (ak L F (fun x hx=>az) (fun _ _ h=>h)) (aN).rd (by(try simp only[List.length_append,List.length_cons,List.length_nil,av]);omega) (le N.size F.size) fun aQ aR ch aU Y=>?_
 have Z:=ay.blk Y (aH (aC (am b) (le p.size q.size) L) az) P
 refine aZ ⟨(aa Z rfl),(aa Z rfl)⟩ fun aV=>Rt 8 aV<|re<|tn<|rt<|br<|tr<|rr (.slice aQ (((aG ([M.sub]))++(aG M.words)).length) aR)<|?_
 have hs:bE dir M=((aG ([M.sub]))++(aG M.words)):=by
   unfold bE
   (try simp only[hd0,f,bs,if_true,if_false,decide_true,decide_false,reduceIte])
   all_goals rfl
 rw[hs]
 exact⟨_,rfl,(aL.weaken aU (le (le a.size p.size) q.size)),(ut X (ut (ay.mono (S':=(ob aM++[])) F au) Y (ai il au)) (ai (aI L (le (le a.size p.size) q.size)) au))⟩
 have aB:=aA f
 refine sg<|Pl 3<|nt<|cf hd0<|sg<|Pl 1<|L0<|aP b 0<|Pl 2<|nt<|cb ((M.code==7)) (fun g=>?_) (fun g=>?_)
 have aY:=ax g
 refine sg<|Pl 1<|L0<|aP b 4<|Pl 1<|L0<|cR (m:=1) (e:=5) #[.int .u8 (M.value%256)] fun b0 ci b1 b2 b3=>?_
 have b4:=cW b1 (xs:=[(M.value%256)]) (by as_aux_lemma=>kernel_rfl) (ap (by omega) aO) (by(try simp only[List.length_cons,List.length_nil]);omega) b2
 refine Pl 1<|nt<|rt<|br<|tr<|rr (.slice (some ⟨b0,0,none⟩) 1 1)<|?_
 have hs:bE dir M=[(M.value%256)]:=by
   unfold bE
   (try simp only[hd0,f,g,bs,if_true,if_false,decide_true,decide_false,reduceIte])
   all_goals rfl
 rw[hs]
 exact⟨_,rfl,(aL.weaken b4 a.size),(aD a b3)⟩
 have aY:=aA g
 refine sg<|Pl 1<|L0<|aP b 0<|Pl 2<|nt<|cb ((M.code==11)) (fun j=>?_) (fun j=>?_)
 have b5:=ax j
 refine sg<|Pl 1<|L0<|aP b 9<|Pl 1<|L0<|aP b 10<|L0<|cR (m:=2) (e:=22) #[.int .u16 M.status,.int .u16 M.events] fun cj ck b6 b7 a0=>?_
 have b8:=eh b6 (xs:=[M.status,M.events]) (by as_aux_lemma=>kernel_rfl) (ap (by omega) (ap (by omega) aO)) (by(try simp only[List.length_cons,List.length_nil]);omega) b7
 refine L0<|Oc<|dX (bj (xs:=[M.status,M.events]) (b8).rd (by(try simp only[List.length_cons,List.length_nil]);omega)) fun b9 ba cl bb cm cn bc=>Pl 1<|nt<|rt<|br<|tr<|rr (.slice b9 ((aG ([M.status,M.events])).length) ba)<|?_
 have hs:bE dir M=(aG ([M.status,M.events])):=by
   unfold bE
   (try simp only[hd0,f,g,j,bs,if_true,if_false,decide_true,decide_false,reduceIte])
   all_goals rfl
 rw[hs]
 exact⟨_,rfl,(aL.weaken bb (le a.size a0.size)),(aD a (aD a0 bc))⟩
 have b5:=aA j
 refine sg<|Pl 1<|L0<|aP b 0<|Pl 2<|nt<|cb ((M.code==12)) (fun k=>?_) (fun k=>?_)
 have bd:=ax k
 refine sq<|Rg 16 (fun w'=>w'.cell? ⟨l,14,none⟩=some (.slice Ad M.data.length kd)∧w'.cell? ⟨l,9,none⟩=some (.int .u16 M.status)∧w'.cell? ⟨l,10,none⟩=some (.int .u16 M.events)∧w'.cell? ⟨l,11,none⟩=some (.int .u16 M.messages)) fun co c=>?_
 have n:=ub c b
 refine aZ ⟨(aa n rfl),(aa n rfl),(aa n rfl),(aa n rfl)⟩ fun d=>Rt 0 d<|Rl 1 d (fun _ hs=>hs.1)<|Rt 2 d<|Rr 3 d (.int .i64 (6+((M.data.length:Nat) : Int))) (fun _ _=>cD (.int .i64 (IntKind.i64.wrap (6+((M.data.length:Nat) : Int)))) (by kernel_rfl) (congrArg (Value.int .i64) (IntWalk.i64_in _ (by omega))))<|Rt 4 d<|Rt 6 d<|Rl 7 d (fun _ hs=>hs.2.1)<|Rt 8 d<|Rl 9 d (fun _ hs=>hs.2.2.1)<|Rt 10 d<|Rl 11 d (fun _ hs=>hs.2.2.2)<|?_
 refine R2 5 12 rfl rfl ?_ ?_
 refine  cR (m:=1) (e:=5) #[.int .u8 ((6+((M.data.length:Nat) : Int))%256)] fun be cp bf bg Q=>?_
 have R:=cW bf (xs:=[((6+((M.data.length:Nat) : Int))%256)]) (by as_aux_lemma=>kernel_rfl) (ap (by omega) aO) (by(try simp only[List.length_cons,List.length_nil]);omega) bg
 have r:=ub Q n
 refine aZ ⟨(aa r rfl),(aa r rfl),(aa r rfl),(aa r rfl)⟩ fun cq=>R0 12 rfl<|cR (m:=3) (e:=22) #[.int .u16 M.status,.int .u16 M.events,.int .u16 M.messages] fun cr ct bh bi S=>?_
 have bl:=eh bh (xs:=[M.status,M.events,M.messages]) (by as_aux_lemma=>kernel_rfl) (ap (by omega) (ap (by omega) (ap (by omega) aO))) (by(try simp only[List.length_cons,List.length_nil]);omega) bi
 have s:=ub S r
 refine aZ ⟨(aa s rfl),(aa s rfl),(aa s rfl),(aa s rfl)⟩ fun cu=>R0 13 rfl<|Oc<|dX (bj (xs:=[M.status,M.events,M.messages]) (bl).rd (by(try simp only[List.length_cons,List.length_nil]);omega)) fun cv cw cx bm cy cz T=>?_
 have t:=ub T s
 refine aZ ⟨(aa t rfl),(aa t rfl),(aa t rfl),(aa t rfl)⟩ fun cA=>?_
 have a1:=aD S T
 refine R0 14 rfl<|cg aX (xs:=([((6+((M.data.length:Nat) : Int))%256)])) (ys:=(aG ([M.status,M.events,M.messages]))) (.int .u8 0) 1 (ak R a1 (fun x hx=>az) (fun _ _ h=>h)) (bm).rd (by(try simp only[List.length_append,List.length_cons,List.length_nil,av]);omega) (le (le Q.size S.size) T.size) fun cB cC cE a2 a3=>?_
 have u:=ay.blk a3 (aH (aC (am b) c.size R) az) t
 refine aZ ⟨(aa u rfl),(aa u rfl),(aa u rfl),(aa u rfl)⟩ fun bo=>Rt 15 bo<|re<|tn<|sg<|Pl 2<|L0<|aP u 14<|?_
 have a4:=ut Q (ut (ay.mono (S':=(ob (some ⟨be,0,none⟩)++[])) a1 au) a3 (ai il au)) (ai (aI R lr) au)
 have a5:=aD a (aD c a4)
 refine L0<|cg aX (xs:=([((6+((M.data.length:Nat) : Int))%256)]++(aG ([M.status,M.events,M.messages])))) (ys:=M.data) (.int .u8 0) 1 a2 (aS.old hd a5) (by(try simp only[List.length_append,List.length_cons,List.length_nil,av]);omega) a4.size fun bp bq cF bt bu=>Pl 1<|nt<|rt<|br<|tr<|rr (.slice bp ((([((6+((M.data.length:Nat) : Int))%256)]++(aG ([M.status,M.events,M.messages])))++M.data).length) bq)<|?_
 have hs:bE dir M=(([((6+((M.data.length:Nat) : Int))%256)]++(aG ([M.status,M.events,M.messages])))++M.data):=by
   unfold bE
   (try simp only[hd0,f,g,j,k,bs,if_true,if_false,decide_true,decide_false,reduceIte])
   all_goals rfl
 rw[hs]
 exact⟨_,rfl,(aL.weaken bt (le a.size c.size)),(ut a5 bu (ai (aI a2 (le a.size c.size)) au))⟩
 refine  cR (m:=3) (e:=22) #[.int .u16 M.status,.int .u16 M.events,.int .u16 M.messages] fun cG cH bv bw i=>?_
 have a6:=eh bv (xs:=[M.status,M.events,M.messages]) (by as_aux_lemma=>kernel_rfl) (ap (by omega) (ap (by omega) (ap (by omega) aO))) (by(try simp only[List.length_cons,List.length_nil]);omega) bw
 have o:=ub i n
 refine aZ ⟨(aa o rfl),(aa o rfl),(aa o rfl),(aa o rfl)⟩ fun cJ=>?_
 refine R2 5 13 rfl rfl ?_ ?_
 refine  cR (m:=1) (e:=5) #[.int .u8 ((6+((M.data.length:Nat) : Int))%256)] fun bx cK bz bB G=>?_
 have U:=cW bz (xs:=[((6+((M.data.length:Nat) : Int))%256)]) (by as_aux_lemma=>kernel_rfl) (ap (by omega) aO) (by(try simp only[List.length_cons,List.length_nil]);omega) bB
 have v:=ub G o
 refine aZ ⟨(aa v rfl),(aa v rfl),(aa v rfl),(aa v rfl)⟩ fun cL=>?_
 refine R0 13 rfl<|Oc<|dX (bj (xs:=[M.status,M.events,M.messages]) ((ak a6 G (fun x hx=>az) (fun _ _ h=>h))).rd (by(try simp only[List.length_cons,List.length_nil]);omega)) fun cM cN cO bC cP cQ H=>?_
 have y:=ub H v
 refine aZ ⟨(aa y rfl),(aa y rfl),(aa y rfl),(aa y rfl)⟩ fun cS=>?_
 refine R0 14 rfl<|cg aX (xs:=([((6+((M.data.length:Nat) : Int))%256)])) (ys:=(aG ([M.status,M.events,M.messages]))) (.int .u8 0) 1 (ak U H (fun x hx=>az) (fun _ _ h=>h)) (bC).rd (by(try simp only[List.length_append,List.length_cons,List.length_nil,av]);omega) (le G.size H.size) fun cT cU cV a7 a8=>?_
 have z:=ay.blk a8 (aH (aC (am b) (le c.size i.size) U) az) y
 refine aZ ⟨(aa z rfl),(aa z rfl),(aa z rfl),(aa z rfl)⟩ fun bD=>Rt 15 bD<|re<|tn<|sg<|Pl 2<|L0<|aP z 14<|?_
 have a9:=ut G (ut (ay.mono (S':=(ob (some ⟨bx,0,none⟩)++[])) H au) a8 (ai il au)) (ai (aI U lr) au)
 have ab:=aD a (aD c (aD i a9))
 refine L0<|cg aX (xs:=([((6+((M.data.length:Nat) : Int))%256)]++(aG ([M.status,M.events,M.messages])))) (ys:=M.data) (.int .u8 0) 1 a7 (aS.old hd ab) (by(try simp only[List.length_append,List.length_cons,List.length_nil,av]);omega) a9.size fun bF bG cX bH bI=>Pl 1<|nt<|rt<|br<|tr<|rr (.slice bF ((([((6+((M.data.length:Nat) : Int))%256)]++(aG ([M.status,M.events,M.messages])))++M.data).length) bG)<|?_
 have hs:bE dir M=(([((6+((M.data.length:Nat) : Int))%256)]++(aG ([M.status,M.events,M.messages])))++M.data):=by
   unfold bE
   (try simp only[hd0,f,g,j,k,bs,if_true,if_false,decide_true,decide_false,reduceIte])
   all_goals rfl
 rw[hs]
 exact⟨_,rfl,(aL.weaken bH (le (le a.size c.size) i.size)),(ut ab bI (ai (aI a7 (le (le a.size c.size) i.size)) au))⟩
 refine  Oc<|dX (bj (xs:=[M.status,M.events,M.messages]) (a6).rd (by(try simp only[List.length_cons,List.length_nil]);omega)) fun cY cZ d0 bJ d1 d2 A=>?_
 have B:=ub A o
 refine aZ ⟨(aa B rfl),(aa B rfl),(aa B rfl),(aa B rfl)⟩ fun d3=>R0 5 rfl<|cR (m:=1) (e:=5) #[.int .u8 ((6+((M.data.length:Nat) : Int))%256)] fun d4 d5 bK bL I=>?_
 have V:=cW bK (xs:=[((6+((M.data.length:Nat) : Int))%256)]) (by as_aux_lemma=>kernel_rfl) (ap (by omega) aO) (by(try simp only[List.length_cons,List.length_nil]);omega) bL
 have C:=ub I B
 refine aZ ⟨(aa C rfl),(aa C rfl),(aa C rfl),(aa C rfl)⟩ fun d6=>?_
 refine R0 14 rfl<|cg aX (xs:=([((6+((M.data.length:Nat) : Int))%256)])) (ys:=(aG ([M.status,M.events,M.messages]))) (.int .u8 0) 1 V ((ak bJ I (fun x hx=>az) (fun _ _ h=>h))).rd (by(try simp only[List.length_append,List.length_cons,List.length_nil,av]);omega) I.size fun d7 d8 d9 ac ad=>?_
 have D:=ay.blk ad (aH (aC (am b) (le (le c.size i.size) A.size) V) az) C
 refine aZ ⟨(aa D rfl),(aa D rfl),(aa D rfl),(aa D rfl)⟩ fun bM=>Rt 15 bM<|re<|tn<|sg<|Pl 2<|L0<|aP D 14<|?_
 have ae:=ut I ad (ai (aI V lr) au)
 have af:=aD a (aD c (aD i (aD A ae)))
 refine L0<|cg aX (xs:=([((6+((M.data.length:Nat) : Int))%256)]++(aG ([M.status,M.events,M.messages])))) (ys:=M.data) (.int .u8 0) 1 ac (aS.old hd af) (by(try simp only[List.length_append,List.length_cons,List.length_nil,av]);omega) ae.size fun bN bO da bP bQ=>Pl 1<|nt<|rt<|br<|tr<|rr (.slice bN ((([((6+((M.data.length:Nat) : Int))%256)]++(aG ([M.status,M.events,M.messages])))++M.data).length) bO)<|?_
 have hs:bE dir M=(([((6+((M.data.length:Nat) : Int))%256)]++(aG ([M.status,M.events,M.messages])))++M.data):=by
   unfold bE
   (try simp only[hd0,f,g,j,k,bs,if_true,if_false,decide_true,decide_false,reduceIte])
   all_goals rfl
 rw[hs]
 exact⟨_,rfl,(aL.weaken bP (le (le (le a.size c.size) i.size) A.size)),(ut af bQ (ai (aI ac (le (le (le a.size c.size) i.size) A.size)) au))⟩
 have bd:=aA k
 refine sk<|bn<|tn<|sg<|Pl 1<|L0<|aP b 14<|Pl 2<|L0<|cR (m:=1) (e:=5) #[.int .u8 (((M.data.length:Nat) : Int)%256)] fun db dc bR bS W=>?_
 have ag:=cW bR (xs:=[(((M.data.length:Nat) : Int)%256)]) (by as_aux_lemma=>kernel_rfl) (ap (by omega) aO) (by(try simp only[List.length_cons,List.length_nil]);omega) bS
 refine Pl 1<|?_
 refine L0<|aP (ub W b) 14<|?_
 have ah:=aD a W
 refine L0<|cg aX (xs:=([(((M.data.length:Nat) : Int)%256)])) (ys:=M.data) (.int .u8 0) 1 ag (aS.old hd ah) (by(try simp only[List.length_append,List.length_cons,List.length_nil,av]);omega) W.size fun bT bU dd bV bW=>Pl 1<|nt<|rt<|rr (.slice bT (([(((M.data.length:Nat) : Int)%256)]++M.data).length) bU)<|?_
 have hs:bE dir M=([(((M.data.length:Nat) : Int)%256)]++M.data):=by
   unfold bE
   (try simp only[hd0,f,g,j,k,bs,if_true,if_false,decide_true,decide_false,reduceIte])
   all_goals rfl
 rw[hs]
 exact⟨_,rfl,(aL.weaken bV a.size),(ut ah bW (ai (aI ag a.size) au))⟩
theorem vA{m:Bool}{cs:Array Value}{M:aT}{w:World}{dir:Int}(h:aF m w cs.toList M)(hf:aW M) : Calls Tryz.prog 90 #[.int .i64 dir,.agg cs] w (ig (bE dir M) w):=by
  rcases dB (dir==0) with h0|h0
  · exact qa h hf h0
  · exact qn h hf h0
open Go.RowKit
theorem dz{α:Type}(d:α)(xs:List α)(k:Nat)(h:k<xs.length) : xs.getD k d∈xs:=by
  simp[List.getD_eq_getElem?_getD,List.getElem?_eq_getElem h]
def eN:List Obj→List Int
  | []=>[]
  | o :: r=>([o.id,(o.value.length:Int)%256]++o.value)++eN r
theorem sr(xs:List Obj)(k:Nat)(h:k<xs.length) : eN (xs.drop k)=([(xs.getD k ⟨0,[]⟩).id,((xs.getD k ⟨0,[]⟩).value.length:Int)%256]++(xs.getD k ⟨0,[]⟩).value)++eN (xs.drop (k+1)):=by
  rw[List.drop_eq_getElem_cons h]
  simp[eN,List.getD_eq_getElem?_getD,List.getElem?_eq_getElem h]
def cw (dir:Int)(M:aT) : List Int :=
  if M.mei==13 then [M.mei]++M.data
  else if dir==0 then [M.mei,M.kind,M.next]
  else [M.mei,M.kind,M.level,M.more,M.next,(M.objects.length:Int)%256]++eN M.objects
theorem sB{m:Bool}{cs:Array Value}{M:aT}{w:World}{dir:Int}(h:aF m w cs.toList M)(hf:aW M)(hd0:(dir==0)=true) : Calls Tryz.prog 100 #[.int .i64 dir,.agg cs] w (ig (cw dir M) w):=by
 obtain⟨vw,vb,vd,vr,vo,h0,hw,hbt,hd,hr,ho,hR⟩:=h
 obtain rfl:cs=(bA M vw vb vd vr vo).toArray:=by apply Array.toList_inj.1;simpa using h0
 clear h0
 obtain⟨Aw,kw,rfl,_,_⟩:=hw.shape
 obtain⟨Ab,kb,rfl,_,_⟩:=hbt.shape
 obtain⟨Ad,kd,rfl,_,_⟩:=hd.shape
 obtain⟨Ar,kr,rfl,_,_⟩:=hr.shape
 obtain⟨Ao,ko,rfl,_,_⟩:=ho.shape
 obtain⟨q0,q1,q2,q3,q4,q5,q6,q7,q8,q9,i,j,k,l,n,o,p⟩:=hR
 simp only[B8,dA] at q0 q1 q2 q3 q4 q5 q6 q7 q8 q9 i j k l n o p
 have hf1:=hf.words
 have hf2:=hf.bits
 have hf3:=hf.data
 have hf4:=hf.recs
 have hf5:=hf.objects
 refine en 64 Tryz.func100 rfl<|sg<|L0<|cI (mG M.code M.fail M.addr M.count M.value M.and_ M.or_ M.addr2 M.sub M.status M.events M.messages (.slice Aw M.words.length kw) (.slice Ab M.bits.length kb) (.slice Ad M.data.length kd) (.slice Ar M.recs.length kr) M.mei M.kind M.level M.more M.next (.slice Ao M.objects.length ko)) fun D E F a b=>Pl 1<|nt<|sq<|bk<|sg<|Pl 1<|L0<|aP a 16<|Pl 2<|nl<|?_
 refine tn<|cb ((M.mei==13)) (fun c=>?_) (fun c=>?_)
 have q:=ax c
 refine sg<|Pl 1<|L0<|aP a 16<|L0<|cR (m:=1) (e:=5) #[.int .u8 M.mei] fun G H r s d=>?_
 have f:=cW r (xs:=[M.mei]) (by as_aux_lemma=>kernel_rfl) (ap (by omega) aO) (by(try simp only[List.length_cons,List.length_nil]);omega) s
 refine Pl 1<|?_
 refine L0<|aP (ub d a) 14<|?_
 have g:=aD b d
 refine L0<|cg aX (xs:=([M.mei])) (ys:=M.data) (.int .u8 0) 1 f (aS.old hd g) (by(try simp only[List.length_append,List.length_cons,List.length_nil,av]);omega) d.size fun t u I v x=>Pl 1<|nt<|rt<|br<|tr<|rr (.slice t (([M.mei]++M.data).length) u)<|?_
 have hs:cw dir M=([M.mei]++M.data):=by
   unfold cw
   (try simp only[hd0,c,bs,if_true,if_false,decide_true,decide_false,reduceIte])
   all_goals rfl
 rw[hs]
 exact⟨_,rfl,(aL.weaken v b.size),(ut g x (ai (aI f b.size) au))⟩
 have q:=aA c
 refine sg<|Pl 3<|nt<|ct hd0<|sg<|Pl 1<|L0<|aP a 16<|Pl 1<|L0<|aP a 17<|Pl 1<|L0<|aP a 20<|?_
 refine L0<|cR (m:=3) (e:=5) #[.int .u8 M.mei,.int .u8 M.kind,.int .u8 M.next] fun y J z A B=>?_
 have C:=cW z (xs:=[M.mei,M.kind,M.next]) (by as_aux_lemma=>kernel_rfl) (ap (by omega) (ap (by omega) (ap (by omega) aO))) (by(try simp only[List.length_cons,List.length_nil]);omega) A
 refine Pl 1<|nt<|rt<|br<|tr<|rr (.slice (some ⟨y,0,none⟩) 3 3)<|?_
 have hs:cw dir M=[M.mei,M.kind,M.next]:=by
   unfold cw
   (try simp only[hd0,c,bs,if_true,if_false,decide_true,decide_false,reduceIte])
   all_goals rfl
 rw[hs]
 exact⟨_,rfl,(aL.weaken C b.size),(aD b B)⟩
theorem tv{m:Bool}{cs:Array Value}{M:aT}{w:World}{dir:Int}(h:aF m w cs.toList M)(hf:aW M)(hd0:(dir==0)=false) : Calls Tryz.prog 100 #[.int .i64 dir,.agg cs] w (ig (cw dir M) w):=by
 obtain⟨vw,vb,vd,vr,vo,h0,hw,hbt,hd,hr,ho,hR⟩:=h
 obtain rfl:cs=(bA M vw vb vd vr vo).toArray:=by apply Array.toList_inj.1;simpa using h0
 clear h0
 obtain⟨Aw,kw,rfl,_,_⟩:=hw.shape
 obtain⟨Ab,kb,rfl,_,_⟩:=hbt.shape
 obtain⟨Ad,kd,rfl,_,_⟩:=hd.shape
 obtain⟨Ar,kr,rfl,_,_⟩:=hr.shape
 obtain⟨Ao,ko,rfl,_,_⟩:=ho.shape
 obtain⟨q0,q1,q2,q3,q4,q5,q6,q7,q8,q9,O,P,Q,R,S,T,U⟩:=hR
 simp only[B8,dA] at q0 q1 q2 q3 q4 q5 q6 q7 q8 q9 O P Q R S T U
 have hf1:=hf.words
 have hf2:=hf.bits
 have hf3:=hf.data
 have hf4:=hf.recs
 have hf5:=hf.objects
 refine en 64 Tryz.func100 rfl<|sg<|L0<|cI (mG M.code M.fail M.addr M.count M.value M.and_ M.or_ M.addr2 M.sub M.status M.events M.messages (.slice Aw M.words.length kw) (.slice Ab M.bits.length kb) (.slice Ad M.data.length kd) (.slice Ar M.recs.length kr) M.mei M.kind M.level M.more M.next (.slice Ao M.objects.length ko)) fun aG r aJ a c=>Pl 1<|nt<|sq<|bk<|sg<|Pl 1<|L0<|aP a 16<|Pl 2<|nl<|?_
 refine tn<|cb ((M.mei==13)) (fun d=>?_) (fun d=>?_)
 have V:=ax d
 refine sg<|Pl 1<|L0<|aP a 16<|L0<|cR (m:=1) (e:=5) #[.int .u8 M.mei] fun aK aM W X s=>?_
 have E:=cW W (xs:=[M.mei]) (by as_aux_lemma=>kernel_rfl) (ap (by omega) aO) (by(try simp only[List.length_cons,List.length_nil]);omega) X
 refine Pl 1<|?_
 refine L0<|aP (ub s a) 14<|?_
 have F:=aD c s
 refine L0<|cg aX (xs:=([M.mei])) (ys:=M.data) (.int .u8 0) 1 E (aS.old hd F) (by(try simp only[List.length_append,List.length_cons,List.length_nil,av]);omega) s.size fun Y Z aN a0 a1=>Pl 1<|nt<|rt<|br<|tr<|rr (.slice Y (([M.mei]++M.data).length) Z)<|?_
 have hs:cw dir M=([M.mei]++M.data):=by
   unfold cw
   (try simp only[hd0,d,bs,if_true,if_false,decide_true,decide_false,reduceIte])
   all_goals rfl
 rw[hs]
 exact⟨_,rfl,(aL.weaken a0 c.size),(ut F a1 (ai (aI E c.size) au))⟩
 have V:=aA d
 refine sg<|Pl 3<|nt<|cf hd0<|sk<|bn<|tn<|sg<|Pl 1<|L0<|aP a 16<|Pl 1<|L0<|aP a 17<|?_
 refine Pl 1<|L0<|aP a 18<|Pl 1<|L0<|aP a 19<|Pl 1<|L0<|aP a 20<|Pl 1<|L0<|aP a 21<|Pl 2<|L0<|cR (m:=6) (e:=5) #[.int .u8 M.mei,.int .u8 M.kind,.int .u8 M.level,.int .u8 M.more,.int .u8 M.next,.int .u8 (((M.objects.length:Nat) : Int)%256)] fun a2 a3 a4 a5 j=>?_
 have a6:=cW a4 (xs:=[M.mei,M.kind,M.level,M.more,M.next,(((M.objects.length:Nat) : Int)%256)]) (by as_aux_lemma=>kernel_rfl) (ap (by omega) (ap (by omega) (ap (by omega) (ap (by omega) (ap (by omega) (ap (by omega) aO)))))) (by(try simp only[List.length_cons,List.length_nil]);omega) a5
 refine Pl 1<|nt<|sq<|sg<|Pl 1<|?_
 refine L0<|aP (ub j a) 21<|Pl 2<|nt<|bk<|?_
 refine ie (fun x=>[(4,.slice none 0 0),(5,.slice x.2.2.1 x.2.1.length x.2.2.2),(44,.slice Ao M.objects.length ko),(45,.int .i64 ((M.objects.length:Nat) : Int)),(46,.int .i64 ((x.1:Nat) : Int))]) (fun(x:Nat × List Int × Option Addr × Nat) w'=>ay [] r w'∧a3.heap.size≤w'.heap.size∧cz r.heap.size w' (.slice x.2.2.1 x.2.1.length x.2.2.2) x.2.1∧(x.1≤M.objects.length)∧(x.2.1++eN (M.objects.drop x.1)=([M.mei,M.kind,M.level,M.more,M.next,(((M.objects.length:Nat) : Int)%256)])++eN M.objects)∧(x.2.1.length≤16+x.1*1026)∧(6≤x.2.1.length)) (fun x=>M.objects.length-x.1) (0,[M.mei,M.kind,M.level,M.more,M.next,(((M.objects.length:Nat) : Int)%256)],some ⟨a2,0,none⟩,6) ⟨j,lr,a6,(by(try dsimp only);omega),rfl,(by(try dsimp only);(try simp only[List.length_cons,List.length_nil]);omega),(by(try dsimp only);(try simp only[List.length_cons,List.length_nil]);omega)⟩ ?_
 rintro⟨k,L,A,cp⟩ a7 ⟨G,t,a8,a9,ab,ac,ad⟩
 refine ik [(4,.slice none 0 0),(5,.slice A L.length cp),(44,.slice Ao M.objects.length ko),(45,.int .i64 ((M.objects.length:Nat) : Int)),(46,.int .i64 ((k:Nat) : Int))] ?_
 have f:cz r.heap.size a7 (.slice A L.length cp) L:=a8
 have aQ:k≤M.objects.length:=a9
 have aR:L++eN (M.objects.drop k)=([M.mei,M.kind,M.level,M.more,M.next,(((M.objects.length:Nat) : Int)%256)])++eN M.objects:=ab
 have aU:L.length≤16+k*1026:=ac
 have aV:6≤L.length:=ad
 have hL:L++eN (M.objects.drop k)=([M.mei,M.kind,M.level,M.more,M.next,(((M.objects.length:Nat) : Int)%256)])++eN M.objects:=by assumption
 have hv0:=fun(h:k<M.objects.length)=>hf.objv _ (dz ⟨0,[]⟩ M.objects k h)
 refine sg<|Pl 1<|nt<|sq<|?_
 have u:=aD c G
 refine cb ((decide (((k:Nat) : Int)<((M.objects.length:Nat) : Int)))) (fun l=>?_) (fun l=>?_)
 have ae:=of_decide_eq_true l
 refine bK<|sq<|bk<|sg<|se (nw.elt ho k (by omega)) fun aY b0 b1 b2 b3 v y af ag ah b4 aj=>L0<|jF 2 M.objects.length k af (by omega)<|?_
 refine L0<|wU [.int .u8 ((M.objects.getD k ⟨0,[]⟩).id),.slice v ((M.objects.getD k ⟨0,[]⟩).value.length) y] (ub u ag) aj<|L0<|bN #[.int .u8 0,.slice none 0 0] fun H b5 I al n=>L0<|bi al #[.int .u8 ((M.objects.getD k ⟨0,[]⟩).id),.slice v ((M.objects.getD k ⟨0,[]⟩).value.length) y] fun b6 am o=>nt<|Rg 13 (fun w'=>w'.cell? ⟨H,0,none⟩=some (.int .u8 ((M.objects.getD k ⟨0,[]⟩).id))∧w'.cell? ⟨H,1,none⟩=some (.slice v ((M.objects.getD k ⟨0,[]⟩).value.length) y)) fun b7 g=>?_
 have z:=ub g am
 refine aZ ⟨(aa z rfl),(aa z rfl)⟩ fun b=>Rt 0 b<|Rt 1 b<|Rl 2 b (fun _ hs=>hs.1)<|Rt 3 b<|Rl 4 b (fun _ hs=>hs.2)<|Rt 5 b<|Rt 6 b<|Rt 9 b<|Rl 10 b (fun _ hs=>hs.2)<|R0 7 rfl<|cR (m:=2) (e:=5) #[.int .u8 ((M.objects.getD k ⟨0,[]⟩).id),.int .u8 ((((M.objects.getD k ⟨0,[]⟩).value.length:Nat) : Int)%256)] fun b8 b9 an ao i=>?_
 have aq:=cW an (xs:=[(M.objects.getD k ⟨0,[]⟩).id,((((M.objects.getD k ⟨0,[]⟩).value.length:Nat) : Int)%256)]) (by as_aux_lemma=>kernel_rfl) (ap (by omega) (ap (by omega) aO)) (by(try simp only[List.length_cons,List.length_nil]);omega) ao
 have B:=ub i z
 refine aZ ⟨(aa B rfl),(aa B rfl)⟩ fun ba=>?_
 have J:=ud n (aD o (aD g i)) I
 refine R0 8 rfl<|cg aX (xs:=L) (ys:=([(M.objects.getD k ⟨0,[]⟩).id,((((M.objects.getD k ⟨0,[]⟩).value.length:Nat) : Int)%256)])) (.int .u8 0) 1 (ak f J (fun x hx=>az) (fun _ _ h=>h)) (aq).rd (by(try simp only[List.length_append,List.length_cons,List.length_nil,av]);omega) (le (le (le (le (le j.size t) n.size) o.size) g.size) i.size) fun ar bb bc C p=>?_
 have q:=ay.blk p (aH (cU f lr I) az) B
 refine aZ ⟨(aa q rfl),(aa q rfl)⟩ fun bd=>?_
 have K:=ut (ay.mono (S':=(ob A++[])) J au) p (ai il au)
 refine R0 11 rfl<|cg aX (xs:=(L++[(M.objects.getD k ⟨0,[]⟩).id,((((M.objects.getD k ⟨0,[]⟩).value.length:Nat) : Int)%256)])) (ys:=((M.objects.getD k ⟨0,[]⟩).value)) (.int .u8 0) 1 C (aS.old ah (ut u K (ai (aI f c.size) au))) (by(try simp only[List.length_append,List.length_cons,List.length_nil,av]);omega) (le (le (le (le (le (le j.size t) n.size) o.size) g.size) i.size) p.size) fun aw aB be aC D=>?_
 have N:=ay.blk D (aH (bB q C (by decide)) az) q
 refine aZ ⟨(aa N rfl),(aa N rfl)⟩ fun aE=>Rt 12 aE<|re<|bn<|tn<|go<|L0<|Oi (((k:Nat) : Int)+1)<|Pl 1<|nl<|?_
 exact ew ((k+1),((L++[(M.objects.getD k ⟨0,[]⟩).id,((((M.objects.getD k ⟨0,[]⟩).value.length:Nat) : Int)%256)])++(M.objects.getD k ⟨0,[]⟩).value),aw,aB) ⟨(ut G (ut (ay.mono (S':=(ob A++(ob ar++[]))) K (ai il au)) D (ai il au)) (ai (aI f lr) (ai (aI C lr) au))),(le (le (le (le (le (le t n.size) o.size) g.size) i.size) p.size) D.size),aC,(by(try dsimp only);omega),(by(try dsimp only);rw[← hL,sr  M.objects k (by omega)];simp only[List.append_assoc]),(by(try dsimp only);have hv:=hf.objv _ (dz ⟨0,[]⟩ M.objects k (by omega));(try simp only[List.length_append,List.length_cons,List.length_nil,av]);omega),(by(try dsimp only);(try simp only[List.length_append,List.length_cons,List.length_nil]);omega)⟩ (by omega)
 have ae:=of_decide_eq_false l
 refine xt<|tx<|tx<|bx<|tn<|sg<|Pl 2<|nt<|rt<|rr (.slice A L.length cp)<|?_
 have hk:k=M.objects.length:=by omega
 rw[hk,List.drop_length] at hL
 have hL2:L=([M.mei,M.kind,M.level,M.more,M.next,(((M.objects.length:Nat) : Int)%256)])++eN M.objects:=by rw[← hL];simp[eN]
 have hs:cw dir M=L:=by
   rw[hL2]
   unfold cw
   (try simp only[hd0,d,l,bs,if_true,if_false,decide_true,decide_false,reduceIte])
   all_goals rfl
 rw[hs]
 exact⟨_,rfl,(aL.weaken f c.size),u⟩
theorem xe{m:Bool}{cs:Array Value}{M:aT}{w:World}{dir:Int}(h:aF m w cs.toList M)(hf:aW M) : Calls Tryz.prog 100 #[.int .i64 dir,.agg cs] w (ig (cw dir M) w):=by
  rcases dB (dir==0) with h0|h0
  · exact sB h hf h0
  · exact tv h hf h0
open Go.RowKit
def eA (dir code:Int)(r:dY) : List Int:=(if code==20&&dir==1 then [(1+2*(r.words.length:Int))%256,6] else [6]++aG [r.file,r.record,r.count])++aG r.words
def bL (dir code:Int) : List dY→List Int
  | []=>[]
  | r :: rs=>eA dir code r++bL dir code rs
theorem dl(dir code:Int)(xs:List dY)(k:Nat)(h:k<xs.length) : bL dir code (xs.drop k)=eA dir code (xs.getD k ⟨0,0,0,[]⟩)++bL dir code (xs.drop (k+1)):=by
  rw[List.drop_eq_getElem_cons h]
  simp[bL,List.getD_eq_getElem?_getD,List.getElem?_eq_getElem h]
def cc (dir:Int)(M:aT) : List Int:=([0]++bL dir M.code M.recs).set 0 (((([0]++bL dir M.code M.recs).length:Int)-1)%256)
theorem nz{m:Bool}{cs:Array Value}{M:aT}{w:World}{dir:Int}(h:aF m w cs.toList M)(hf:aW M)(hd0:(dir==0)=true) : Calls Tryz.prog 97 #[.int .i64 dir,.agg cs] w (ig (cc dir M) w):=by
 obtain⟨vw,vb,vd,vr,vo,h0,hw,hbt,hd,hr,ho,hR⟩:=h
 obtain rfl:cs=(bA M vw vb vd vr vo).toArray:=by apply Array.toList_inj.1;simpa using h0
 clear h0
 obtain⟨Aw,kw,rfl,_,_⟩:=hw.shape
 obtain⟨Ab,kb,rfl,_,_⟩:=hbt.shape
 obtain⟨Ad,kd,rfl,_,_⟩:=hd.shape
 obtain⟨Ar,kr,rfl,_,_⟩:=hr.shape
 obtain⟨Ao,ko,rfl,_,_⟩:=ho.shape
 obtain⟨q0,q1,q2,q3,q4,q5,q6,q7,q8,q9,bm,bo,bp,bq,br,bt,bu⟩:=hR
 simp only[B8,dA] at q0 q1 q2 q3 q4 q5 q6 q7 q8 q9 bm bo bp bq br bt bu
 have hf1:=hf.words
 have hf2:=hf.bits
 have hf3:=hf.data
 have hf4:=hf.recs
 have hf5:=hf.objects
 refine en 58 Tryz.func97 rfl<|sg<|L0<|cI (mG M.code M.fail M.addr M.count M.value M.and_ M.or_ M.addr2 M.sub M.status M.events M.messages (.slice Aw M.words.length kw) (.slice Ab M.bits.length kb) (.slice Ad M.data.length kd) (.slice Ar M.recs.length kr) M.mei M.kind M.level M.more M.next (.slice Ao M.objects.length ko)) fun ao ad cF aq l=>Pl 1<|ng<|L0<|cR (m:=1) (e:=5) #[.int .u8 0] fun bv bw bz bC g=>?_
 have bD:=cW bz (xs:=[0]) (by as_aux_lemma=>kernel_rfl) (ap (by omega) aO) (by(try simp only[List.length_cons,List.length_nil]);omega) bC
 refine Pl 1<|nt<|sq<|sg<|Pl 1<|?_
 refine L0<|aP (ub g aq) 15<|Pl 2<|nt<|bk<|?_
 refine ie (fun x=>[(0,.int .i64 dir),(3,.pointer (some ⟨ao,0,none⟩)),(4,.slice none 0 0),(5,.slice x.2.2.1 x.2.1.length x.2.2.2),(10,.slice Ar M.recs.length kr),(11,.int .i64 ((M.recs.length:Nat) : Int)),(12,.int .i64 ((x.1:Nat) : Int))]) (fun(x:Nat × List Int × Option Addr × Nat) w'=>ay [] ad w'∧bw.heap.size≤w'.heap.size∧cz ad.heap.size w' (.slice x.2.2.1 x.2.1.length x.2.2.2) x.2.1∧(x.1≤M.recs.length)∧(x.2.1++bL dir M.code (M.recs.drop x.1)=([0])++bL dir M.code M.recs)∧(x.2.1.length≤16+x.1*2060)∧(1≤x.2.1.length)) (fun x=>M.recs.length-x.1) (0,[0],some ⟨bv,0,none⟩,1) ⟨g,lr,bD,(by(try dsimp only);omega),rfl,(by(try dsimp only);(try simp only[List.length_cons,List.length_nil]);omega),(by(try dsimp only);(try simp only[List.length_cons,List.length_nil]);omega)⟩ ?_
 rintro⟨k,L,A,cp⟩ bE ⟨ar,f,bF,bG,bH,bI,bJ⟩
 refine ik [(0,.int .i64 dir),(3,.pointer (some ⟨ao,0,none⟩)),(4,.slice none 0 0),(5,.slice A L.length cp),(10,.slice Ar M.recs.length kr),(11,.int .i64 ((M.recs.length:Nat) : Int)),(12,.int .i64 ((k:Nat) : Int))] ?_
 have a:cz ad.heap.size bE (.slice A L.length cp) L:=bF
 have cG:k≤M.recs.length:=bG
 have cH:L++bL dir M.code (M.recs.drop k)=([0])++bL dir M.code M.recs:=bH
 have cJ:L.length≤16+k*2060:=bI
 have cK:1≤L.length:=bJ
 have hL:L++bL dir M.code (M.recs.drop k)=([0])++bL dir M.code M.recs:=by assumption
 have hv0:=fun(h:k<M.recs.length)=>hf.recw _ (dz ⟨0,0,0,[]⟩ M.recs k h)
 refine sg<|Pl 1<|nt<|sq<|?_
 have ae:=aD l ar
 refine cb ((decide (((k:Nat) : Int)<((M.recs.length:Nat) : Int)))) (fun n=>?_) (fun n=>?_)
 have bO:=of_decide_eq_true n
 refine bK<|sq<|bk<|sg<|se (ns.elt hr k (by omega)) fun cL cM cN cO cP aw aB bP bQ Q cQ bR=>L0<|jF 4 M.recs.length k bP (by omega)<|?_
 refine L0<|wU [.int .u16 ((M.recs.getD k ⟨0,0,0,[]⟩).file),.int .u16 ((M.recs.getD k ⟨0,0,0,[]⟩).record),.int .u16 ((M.recs.getD k ⟨0,0,0,[]⟩).count),.slice aw ((M.recs.getD k ⟨0,0,0,[]⟩).words.length) aB] (ub ae bQ) bR<|L0<|bN #[.int .u16 0,.int .u16 0,.int .u16 0,.slice none 0 0] fun af cS B bS b=>L0<|bi bS #[.int .u16 ((M.recs.getD k ⟨0,0,0,[]⟩).file),.int .u16 ((M.recs.getD k ⟨0,0,0,[]⟩).record),.int .u16 ((M.recs.getD k ⟨0,0,0,[]⟩).count),.slice aw ((M.recs.getD k ⟨0,0,0,[]⟩).words.length) aB] fun cT ag c=>nt<|sq<|bk<|sg<|Pl 1<|?_
 have s:=ud b c B
 have C:=aD ar s
 refine L0<|aP (ub C aq) 0<|Pl 2<|cu 3 [32] 35 (((M.code==20)&&(dir==1))) (fun K aC=>?_) ?_
 refine bl 32 ((M.code==20)) (fun D=>?_) (fun D=>?_)
 have bT:=ax D
 exact Pl 3<|ce aC (dir==1) (by rw[D];rfl)
 have bT:=aA D
 exact Pl 3<|ce aC false (by rw[D];rfl)
 refine Pl 1<|nt<|?_
 have R:=aD ae s
 refine cb (((M.code==20)&&(dir==1))) (fun o=>?_) (fun o=>?_)
 have aE:=(bM o).1
 have aJ:=(bM o).2
 have cV:=ax aE
 have cX:=ax aJ
 refine go<|Pl 2<|L0<|aP ag 3<|Pl 1<|L0<|Oi (2*(((M.recs.getD k ⟨0,0,0,[]⟩).words.length:Nat) : Int))<|L0<|Oi (1+(2*(((M.recs.getD k ⟨0,0,0,[]⟩).words.length:Nat) : Int)))<|Pl 1<|L0<|cR (m:=2) (e:=5) #[.int .u8 ((1+(2*(((M.recs.getD k ⟨0,0,0,[]⟩).words.length:Nat) : Int)))%256),.int .u8 6] fun cY cZ bU bV E=>?_
 have bW:=cW bU (xs:=[((1+(2*(((M.recs.getD k ⟨0,0,0,[]⟩).words.length:Nat) : Int)))%256),6]) (by as_aux_lemma=>kernel_rfl) (ap (by omega) (ap (by omega) aO)) (by(try simp only[List.length_cons,List.length_nil]);omega) bV
 refine L0<|cg aX (xs:=L) (ys:=([((1+(2*(((M.recs.getD k ⟨0,0,0,[]⟩).words.length:Nat) : Int)))%256),6])) (.int .u8 0) 1 (ak a (aD s E) (fun x hx=>az) (fun _ _ h=>h)) (bW).rd (by(try simp only[List.length_append,List.length_cons,List.length_nil,av]);omega) (le (le (le (le g.size f) b.size) c.size) E.size) fun aK d0 d1 aM ah=>Pl 1<|nl<|bn<|tn<|go<|Pl 2<|?_
 have aj:=ut (ay.mono (S':=(ob A++[])) E au) ah (ai il au)
 refine L0<|aP (ay.blk aj (aH (cU a lr B) az) ag) 3<|?_
 refine L0<|Oc<|dX (bj (xs:=(M.recs.getD k ⟨0,0,0,[]⟩).words) (dT.old Q (ut R aj (ai (aI a l.size) au))) (by(try simp only[List.length_cons,List.length_nil]);omega)) fun d2 d3 d4 bX d5 d6 S=>?_
 refine L0<|cg aX (xs:=(L++[((1+(2*(((M.recs.getD k ⟨0,0,0,[]⟩).words.length:Nat) : Int)))%256),6])) (ys:=(aG ((M.recs.getD k ⟨0,0,0,[]⟩).words))) (.int .u8 0) 1 (ak aM S (fun x hx=>az) (fun _ _ h=>h)) (bX).rd (by(try simp only[List.length_append,List.length_cons,List.length_nil,av]);omega) (le (le (le (le (le (le g.size f) b.size) c.size) E.size) ah.size) S.size) fun bY bZ d7 c0 aN=>Pl 1<|nl<|bn<|tn<|go<|L0<|Oi (((k:Nat) : Int)+1)<|Pl 1<|nl<|?_
 exact ew ((k+1),((L++[((1+(2*(((M.recs.getD k ⟨0,0,0,[]⟩).words.length:Nat) : Int)))%256),6])++(aG ((M.recs.getD k ⟨0,0,0,[]⟩).words))),bY,bZ) ⟨(ut C (ut (ay.mono (S':=(ob A++(ob aK++[]))) aj (ai il au)) (ut (ay.mono (S':=(ob aK++[])) S au) aN (ai il au)) (ai il au)) (ai (aI a lr) (ai (aI aM lr) au))),(le (le (le (le (le (le f b.size) c.size) E.size) ah.size) S.size) aN.size),c0,(by(try dsimp only);omega),(by(try dsimp only);rw[← hL,dl dir M.code M.recs k (by omega)];simp only[eA,hd0,n,o,aE,aJ,bs,if_true,if_false,decide_true,decide_false,List.append_assoc]),(by(try dsimp only);have hv:=hf.recw _ (dz ⟨0,0,0,[]⟩ M.recs k (by omega));(try simp only[List.length_append,List.length_cons,List.length_nil,av]);omega),(by(try dsimp only);(try simp only[List.length_append,List.length_cons,List.length_nil]);omega)⟩ (by omega)
 refine Rg 13 (fun w'=>w'.cell? ⟨af,0,none⟩=some (.int .u16 ((M.recs.getD k ⟨0,0,0,[]⟩).file))∧w'.cell? ⟨af,1,none⟩=some (.int .u16 ((M.recs.getD k ⟨0,0,0,[]⟩).record))∧w'.cell? ⟨af,2,none⟩=some (.int .u16 ((M.recs.getD k ⟨0,0,0,[]⟩).count))) fun d8 d=>?_
 have F:=ub d ag
 refine aZ ⟨(aa F rfl),(aa F rfl),(aa F rfl)⟩ fun p=>Rt 0 p<|Rt 3 p<|Rl 4 p (fun _ hs=>hs.1)<|Rt 5 p<|Rl 6 p (fun _ hs=>hs.2.1)<|Rt 7 p<|Rl 8 p (fun _ hs=>hs.2.2)<|?_
 refine R2 1 9 rfl rfl ?_ ?_
 refine  cR (m:=1) (e:=5) #[.int .u8 6] fun d9 da c1 c2 i=>?_
 have aQ:=cW c1 (xs:=[6]) (by as_aux_lemma=>kernel_rfl) (ap (by omega) aO) (by(try simp only[List.length_cons,List.length_nil]);omega) c2
 have G:=ub i F
 refine aZ ⟨(aa G rfl),(aa G rfl),(aa G rfl)⟩ fun db=>?_
 refine R2 2 9 rfl rfl ?_ ?_
 have aR:=aD d i
 refine  cg aX (xs:=L) (ys:=([6])) (.int .u8 0) 1 (ak a (aD s aR) (fun x hx=>az) (fun _ _ h=>h)) (aQ).rd (by(try simp only[List.length_append,List.length_cons,List.length_nil,av]);omega) (le (le (le (le (le g.size f) b.size) c.size) d.size) i.size) fun T dc dd al H=>?_
 have U:=ay.blk H (aH (cU a lr B) az) G
 refine aZ ⟨(aa U rfl),(aa U rfl),(aa U rfl)⟩ fun de=>R0 9 rfl<|cR (m:=3) (e:=22) #[.int .u16 ((M.recs.getD k ⟨0,0,0,[]⟩).file),.int .u16 ((M.recs.getD k ⟨0,0,0,[]⟩).record),.int .u16 ((M.recs.getD k ⟨0,0,0,[]⟩).count)] fun df dg c3 c4 I=>?_
 have c5:=eh c3 (xs:=[(M.recs.getD k ⟨0,0,0,[]⟩).file,(M.recs.getD k ⟨0,0,0,[]⟩).record,(M.recs.getD k ⟨0,0,0,[]⟩).count]) (by as_aux_lemma=>kernel_rfl) (ap (by omega) (ap (by omega) (ap (by omega) aO))) (by(try simp only[List.length_cons,List.length_nil]);omega) c4
 have V:=ub I U
 refine aZ ⟨(aa V rfl),(aa V rfl),(aa V rfl)⟩ fun dh=>R0 10 rfl<|Oc<|dX (bj (xs:=[(M.recs.getD k ⟨0,0,0,[]⟩).file,(M.recs.getD k ⟨0,0,0,[]⟩).record,(M.recs.getD k ⟨0,0,0,[]⟩).count]) (c5).rd (by(try simp only[List.length_cons,List.length_nil]);omega)) fun di dj dk c6 dm dn J=>?_
 have N:=ub J V
 refine aZ ⟨(aa N rfl),(aa N rfl),(aa N rfl)⟩ fun dp=>?_
 have aU:=aD I J
 have aV:=ak al aU (fun x hx=>az) (fun _ _ h=>h)
 refine R0 11 rfl<|cg aX (xs:=(L++[6])) (ys:=(aG ([(M.recs.getD k ⟨0,0,0,[]⟩).file,(M.recs.getD k ⟨0,0,0,[]⟩).record,(M.recs.getD k ⟨0,0,0,[]⟩).count]))) (.int .u8 0) 1 aV (c6).rd (by(try simp only[List.length_append,List.length_cons,List.length_nil,av]);omega) (le (le (le (le (le (le (le (le g.size f) b.size) c.size) d.size) i.size) H.size) I.size) J.size) fun aY dq dr b0 W=>?_
 have X:=ay.blk W (aH (bB N aV (by decide)) az) N
 refine aZ ⟨(aa X rfl),(aa X rfl),(aa X rfl)⟩ fun c7=>Rt 12 c7<|re<|bn<|tn<|go<|Pl 2<|L0<|aP X 3<|?_
 have b1:=ut (ay.mono (S':=(ob A++(ob T++[]))) aR au) (ut (ay.mono (S':=(ob A++(ob T++[]))) H (ai il au)) (ut (ay.mono (S':=(ob T++[])) aU au) W (ai il au)) (ai il au)) (ai il (ai il au))
 refine L0<|Oc<|dX (bj (xs:=(M.recs.getD k ⟨0,0,0,[]⟩).words) (dT.old Q (ut R b1 (ai (aI a l.size) (ai (aI al l.size) au)))) (by(try simp only[List.length_cons,List.length_nil]);omega)) fun ds dt du c8 dv dw Y=>?_
 refine L0<|cg aX (xs:=((L++[6])++(aG ([(M.recs.getD k ⟨0,0,0,[]⟩).file,(M.recs.getD k ⟨0,0,0,[]⟩).record,(M.recs.getD k ⟨0,0,0,[]⟩).count])))) (ys:=(aG ((M.recs.getD k ⟨0,0,0,[]⟩).words))) (.int .u8 0) 1 (ak b0 Y (fun x hx=>az) (fun _ _ h=>h)) (c8).rd (by(try simp only[List.length_append,List.length_cons,List.length_nil,av]);omega) (le (le (le (le (le (le (le (le (le (le g.size f) b.size) c.size) d.size) i.size) H.size) I.size) J.size) W.size) Y.size) fun c9 ca dx cd b2=>Pl 1<|nl<|bn<|tn<|go<|L0<|Oi (((k:Nat) : Int)+1)<|Pl 1<|nl<|?_
 exact ew ((k+1),(((L++[6])++(aG ([(M.recs.getD k ⟨0,0,0,[]⟩).file,(M.recs.getD k ⟨0,0,0,[]⟩).record,(M.recs.getD k ⟨0,0,0,[]⟩).count])))++(aG ((M.recs.getD k ⟨0,0,0,[]⟩).words))),c9,ca) ⟨(ut C (ut (ay.mono (S':=(ob A++(ob T++(ob aY++[])))) b1 (ai il (ai il au))) (ut (ay.mono (S':=(ob aY++[])) Y au) b2 (ai il au)) (ai il au)) (ai (aI a lr) (ai (aI al lr) (ai (aI b0 lr) au)))),(le (le (le (le (le (le (le (le (le (le f b.size) c.size) d.size) i.size) H.size) I.size) J.size) W.size) Y.size) b2.size),cd,(by(try dsimp only);omega),(by(try dsimp only);rw[← hL,dl dir M.code M.recs k (by omega)];simp only[eA,hd0,n,o,bs,if_true,if_false,decide_true,decide_false,List.append_assoc]),(by(try dsimp only);have hv:=hf.recw _ (dz ⟨0,0,0,[]⟩ M.recs k (by omega));(try simp only[List.length_append,List.length_cons,List.length_nil,av]);omega),(by(try dsimp only);(try simp only[List.length_append,List.length_cons,List.length_nil]);omega)⟩ (by omega)
 refine  cR (m:=3) (e:=22) #[.int .u16 ((M.recs.getD k ⟨0,0,0,[]⟩).file),.int .u16 ((M.recs.getD k ⟨0,0,0,[]⟩).record),.int .u16 ((M.recs.getD k ⟨0,0,0,[]⟩).count)] fun dy dB cf ch q=>?_
 have b3:=eh cf (xs:=[(M.recs.getD k ⟨0,0,0,[]⟩).file,(M.recs.getD k ⟨0,0,0,[]⟩).record,(M.recs.getD k ⟨0,0,0,[]⟩).count]) (by as_aux_lemma=>kernel_rfl) (ap (by omega) (ap (by omega) (ap (by omega) aO))) (by(try simp only[List.length_cons,List.length_nil]);omega) ch
 have Z:=ub q G
 refine aZ ⟨(aa Z rfl),(aa Z rfl),(aa Z rfl)⟩ fun dC=>?_
 have b4:=aD d (aD i q)
 refine R0 2 rfl<|cg aX (xs:=L) (ys:=([6])) (.int .u8 0) 1 (ak a (aD s b4) (fun x hx=>az) (fun _ _ h=>h)) ((ak aQ q (fun x hx=>az) (fun _ _ h=>h))).rd (by(try simp only[List.length_append,List.length_cons,List.length_nil,av]);omega) (le (le (le (le (le (le g.size f) b.size) c.size) d.size) i.size) q.size) fun a0 dD dE am t=>?_
 have a1:=ay.blk t (aH (cU a lr B) az) Z
 refine aZ ⟨(aa a1 rfl),(aa a1 rfl),(aa a1 rfl)⟩ fun dF=>?_
 refine R0 10 rfl<|Oc<|dX (bj (xs:=[(M.recs.getD k ⟨0,0,0,[]⟩).file,(M.recs.getD k ⟨0,0,0,[]⟩).record,(M.recs.getD k ⟨0,0,0,[]⟩).count]) ((ak b3 t (fun x hx=>(aH ((g8 b3 a (le (le (le b.size c.size) d.size) i.size)) x hx) az)) (fun _ _ h=>h))).rd (by(try simp only[List.length_cons,List.length_nil]);omega)) fun dG dH dI ci dJ dK u=>?_
 have O:=ub u a1
 refine aZ ⟨(aa O rfl),(aa O rfl),(aa O rfl)⟩ fun dL=>?_
 have b5:=ak am u (fun x hx=>az) (fun _ _ h=>h)
 refine R0 11 rfl<|cg aX (xs:=(L++[6])) (ys:=(aG ([(M.recs.getD k ⟨0,0,0,[]⟩).file,(M.recs.getD k ⟨0,0,0,[]⟩).record,(M.recs.getD k ⟨0,0,0,[]⟩).count]))) (.int .u8 0) 1 b5 (ci).rd (by(try simp only[List.length_append,List.length_cons,List.length_nil,av]);omega) (le (le (le (le (le (le (le (le g.size f) b.size) c.size) d.size) i.size) q.size) t.size) u.size) fun b6 dM dN b7 a2=>?_
 have a3:=ay.blk a2 (aH (bB O b5 (by decide)) az) O
 refine aZ ⟨(aa a3 rfl),(aa a3 rfl),(aa a3 rfl)⟩ fun cj=>Rt 12 cj<|re<|bn<|tn<|go<|Pl 2<|L0<|aP a3 3<|?_
 have b8:=ut (ay.mono (S':=(ob A++(ob a0++[]))) b4 au) (ut (ay.mono (S':=(ob A++(ob a0++[]))) t (ai il au)) (ut (ay.mono (S':=(ob a0++[])) u au) a2 (ai il au)) (ai il au)) (ai il (ai il au))
 refine L0<|Oc<|dX (bj (xs:=(M.recs.getD k ⟨0,0,0,[]⟩).words) (dT.old Q (ut R b8 (ai (aI a l.size) (ai (aI am l.size) au)))) (by(try simp only[List.length_cons,List.length_nil]);omega)) fun dO dP dQ ck dR dS a4=>?_
 refine L0<|cg aX (xs:=((L++[6])++(aG ([(M.recs.getD k ⟨0,0,0,[]⟩).file,(M.recs.getD k ⟨0,0,0,[]⟩).record,(M.recs.getD k ⟨0,0,0,[]⟩).count])))) (ys:=(aG ((M.recs.getD k ⟨0,0,0,[]⟩).words))) (.int .u8 0) 1 (ak b7 a4 (fun x hx=>az) (fun _ _ h=>h)) (ck).rd (by(try simp only[List.length_append,List.length_cons,List.length_nil,av]);omega) (le (le (le (le (le (le (le (le (le (le g.size f) b.size) c.size) d.size) i.size) q.size) t.size) u.size) a2.size) a4.size) fun cl cm dU cn b9=>Pl 1<|nl<|bn<|tn<|go<|L0<|Oi (((k:Nat) : Int)+1)<|Pl 1<|nl<|?_
 exact ew ((k+1),(((L++[6])++(aG ([(M.recs.getD k ⟨0,0,0,[]⟩).file,(M.recs.getD k ⟨0,0,0,[]⟩).record,(M.recs.getD k ⟨0,0,0,[]⟩).count])))++(aG ((M.recs.getD k ⟨0,0,0,[]⟩).words))),cl,cm) ⟨(ut C (ut (ay.mono (S':=(ob A++(ob a0++(ob b6++[])))) b8 (ai il (ai il au))) (ut (ay.mono (S':=(ob b6++[])) a4 au) b9 (ai il au)) (ai il au)) (ai (aI a lr) (ai (aI am lr) (ai (aI b7 lr) au)))),(le (le (le (le (le (le (le (le (le (le f b.size) c.size) d.size) i.size) q.size) t.size) u.size) a2.size) a4.size) b9.size),cn,(by(try dsimp only);omega),(by(try dsimp only);rw[← hL,dl dir M.code M.recs k (by omega)];simp only[eA,hd0,n,o,bs,if_true,if_false,decide_true,decide_false,List.append_assoc]),(by(try dsimp only);have hv:=hf.recw _ (dz ⟨0,0,0,[]⟩ M.recs k (by omega));(try simp only[List.length_append,List.length_cons,List.length_nil,av]);omega),(by(try dsimp only);(try simp only[List.length_append,List.length_cons,List.length_nil]);omega)⟩ (by omega)
 refine  cR (m:=3) (e:=22) #[.int .u16 ((M.recs.getD k ⟨0,0,0,[]⟩).file),.int .u16 ((M.recs.getD k ⟨0,0,0,[]⟩).record),.int .u16 ((M.recs.getD k ⟨0,0,0,[]⟩).count)] fun dV dW co cq v=>?_
 have ba:=eh co (xs:=[(M.recs.getD k ⟨0,0,0,[]⟩).file,(M.recs.getD k ⟨0,0,0,[]⟩).record,(M.recs.getD k ⟨0,0,0,[]⟩).count]) (by as_aux_lemma=>kernel_rfl) (ap (by omega) (ap (by omega) (ap (by omega) aO))) (by(try simp only[List.length_cons,List.length_nil]);omega) cq
 have a5:=ub v F
 refine aZ ⟨(aa a5 rfl),(aa a5 rfl),(aa a5 rfl)⟩ fun dY=>R0 1 rfl<|cR (m:=1) (e:=5) #[.int .u8 6] fun dZ e0 cr ct r=>?_
 have cv:=cW cr (xs:=[6]) (by as_aux_lemma=>kernel_rfl) (ap (by omega) aO) (by(try simp only[List.length_cons,List.length_nil]);omega) ct
 have a6:=ub r a5
 refine aZ ⟨(aa a6 rfl),(aa a6 rfl),(aa a6 rfl)⟩ fun e1=>?_
 have bb:=aD d (aD v r)
 refine R0 2 rfl<|cg aX (xs:=L) (ys:=([6])) (.int .u8 0) 1 (ak a (aD s bb) (fun x hx=>az) (fun _ _ h=>h)) (cv).rd (by(try simp only[List.length_append,List.length_cons,List.length_nil,av]);omega) (le (le (le (le (le (le g.size f) b.size) c.size) d.size) v.size) r.size) fun a7 e2 e3 an y=>?_
 have a8:=ay.blk y (aH (cU a lr B) az) a6
 refine aZ ⟨(aa a8 rfl),(aa a8 rfl),(aa a8 rfl)⟩ fun e4=>?_
 refine R0 10 rfl<|Oc<|dX (bj (xs:=[(M.recs.getD k ⟨0,0,0,[]⟩).file,(M.recs.getD k ⟨0,0,0,[]⟩).record,(M.recs.getD k ⟨0,0,0,[]⟩).count]) ((ak ba (ut (ay.mono (S':=(ob A++[])) r au) y (ai il au)) (fun x hx=>(aH ((g8 ba a (le (le b.size c.size) d.size)) x hx) az)) (fun _ _ h=>h))).rd (by(try simp only[List.length_cons,List.length_nil]);omega)) fun e5 e6 e7 cw e8 e9 z=>?_
 have P:=ub z a8
 refine aZ ⟨(aa P rfl),(aa P rfl),(aa P rfl)⟩ fun ea=>?_
 have bc:=ak an z (fun x hx=>az) (fun _ _ h=>h)
 refine R0 11 rfl<|cg aX (xs:=(L++[6])) (ys:=(aG ([(M.recs.getD k ⟨0,0,0,[]⟩).file,(M.recs.getD k ⟨0,0,0,[]⟩).record,(M.recs.getD k ⟨0,0,0,[]⟩).count]))) (.int .u8 0) 1 bc (cw).rd (by(try simp only[List.length_append,List.length_cons,List.length_nil,av]);omega) (le (le (le (le (le (le (le (le g.size f) b.size) c.size) d.size) v.size) r.size) y.size) z.size) fun bd eb ec be a9=>?_
 have ab:=ay.blk a9 (aH (bB P bc (by decide)) az) P
 refine aZ ⟨(aa ab rfl),(aa ab rfl),(aa ab rfl)⟩ fun cx=>Rt 12 cx<|re<|bn<|tn<|go<|Pl 2<|L0<|aP ab 3<|?_
 have bf:=ut (ay.mono (S':=(ob A++(ob a7++[]))) bb au) (ut (ay.mono (S':=(ob A++(ob a7++[]))) y (ai il au)) (ut (ay.mono (S':=(ob a7++[])) z au) a9 (ai il au)) (ai il au)) (ai il (ai il au))
 refine L0<|Oc<|dX (bj (xs:=(M.recs.getD k ⟨0,0,0,[]⟩).words) (dT.old Q (ut R bf (ai (aI a l.size) (ai (aI an l.size) au)))) (by(try simp only[List.length_cons,List.length_nil]);omega)) fun ed ee ef cy eg ei ac=>?_
 refine L0<|cg aX (xs:=((L++[6])++(aG ([(M.recs.getD k ⟨0,0,0,[]⟩).file,(M.recs.getD k ⟨0,0,0,[]⟩).record,(M.recs.getD k ⟨0,0,0,[]⟩).count])))) (ys:=(aG ((M.recs.getD k ⟨0,0,0,[]⟩).words))) (.int .u8 0) 1 (ak be ac (fun x hx=>az) (fun _ _ h=>h)) (cy).rd (by(try simp only[List.length_append,List.length_cons,List.length_nil,av]);omega) (le (le (le (le (le (le (le (le (le (le g.size f) b.size) c.size) d.size) v.size) r.size) y.size) z.size) a9.size) ac.size) fun cA cB ej cC bg=>Pl 1<|nl<|bn<|tn<|go<|L0<|Oi (((k:Nat) : Int)+1)<|Pl 1<|nl<|?_
 exact ew ((k+1),(((L++[6])++(aG ([(M.recs.getD k ⟨0,0,0,[]⟩).file,(M.recs.getD k ⟨0,0,0,[]⟩).record,(M.recs.getD k ⟨0,0,0,[]⟩).count])))++(aG ((M.recs.getD k ⟨0,0,0,[]⟩).words))),cA,cB) ⟨(ut C (ut (ay.mono (S':=(ob A++(ob a7++(ob bd++[])))) bf (ai il (ai il au))) (ut (ay.mono (S':=(ob bd++[])) ac au) bg (ai il au)) (ai il au)) (ai (aI a lr) (ai (aI an lr) (ai (aI be lr) au)))),(le (le (le (le (le (le (le (le (le (le f b.size) c.size) d.size) v.size) r.size) y.size) z.size) a9.size) ac.size) bg.size),cC,(by(try dsimp only);omega),(by(try dsimp only);rw[← hL,dl dir M.code M.recs k (by omega)];simp only[eA,hd0,n,o,bs,if_true,if_false,decide_true,decide_false,List.append_assoc]),(by(try dsimp only);have hv:=hf.recw _ (dz ⟨0,0,0,[]⟩ M.recs k (by omega));(try simp only[List.length_append,List.length_cons,List.length_nil,av]);omega),(by(try dsimp only);(try simp only[List.length_append,List.length_cons,List.length_nil]);omega)⟩ (by omega)
 have bO:=of_decide_eq_false n
 refine xt<|tx<|tx<|bx<|tn<|sg<|Pl 3<|L0<|Oi (((L.length:Nat) : Int)-1)<|Pl 1<|i8 (aS.at_ (a).rd 0 (by omega)) fun ek el bh em eo=>L0<|pn L.length 0 bh (by omega)<|L0<|AE aX (j:=0) a bh (by omega) ((((L.length:Nat) : Int)-1)%256) (fun _=>⟨rfl,by omega⟩) fun ep cD cE=>nl<|?_
 refine tn<|sg<|Pl 2<|nt<|rt<|rr (.slice A L.length cp)<|?_
 have hk:k=M.recs.length:=by omega
 rw[hk,List.drop_length] at hL
 have hL2:[0]++bL dir M.code M.recs=L:=by rw[← hL];simp[bL]
 have hs:cc dir M=(L.set 0 ((((L.length:Nat) : Int)-1)%256)):=by unfold cc;rw[hL2]
 rw[hs]
 exact⟨_,rfl,(aL.weaken cD l.size),(ut ae cE (ai (aI a l.size) au))⟩
theorem nV{m:Bool}{cs:Array Value}{M:aT}{w:World}{dir:Int}(h:aF m w cs.toList M)(hf:aW M)(hd0:(dir==0)=false) : Calls Tryz.prog 97 #[.int .i64 dir,.agg cs] w (ig (cc dir M) w):=by
 obtain⟨vw,vb,vd,vr,vo,h0,hw,hbt,hd,hr,ho,hR⟩:=h
 obtain rfl:cs=(bA M vw vb vd vr vo).toArray:=by apply Array.toList_inj.1;simpa using h0
 clear h0
 obtain⟨Aw,kw,rfl,_,_⟩:=hw.shape
 obtain⟨Ab,kb,rfl,_,_⟩:=hbt.shape
 obtain⟨Ad,kd,rfl,_,_⟩:=hd.shape
 obtain⟨Ar,kr,rfl,_,_⟩:=hr.shape
 obtain⟨Ao,ko,rfl,_,_⟩:=ho.shape
 obtain⟨q0,q1,q2,q3,q4,q5,q6,q7,q8,q9,bm,bo,bp,bq,br,bt,bu⟩:=hR
 simp only[B8,dA] at q0 q1 q2 q3 q4 q5 q6 q7 q8 q9 bm bo bp bq br bt bu
 have hf1:=hf.words
 have hf2:=hf.bits
 have hf3:=hf.data
 have hf4:=hf.recs
 have hf5:=hf.objects
 refine en 58 Tryz.func97 rfl<|sg<|L0<|cI (mG M.code M.fail M.addr M.count M.value M.and_ M.or_ M.addr2 M.sub M.status M.events M.messages (.slice Aw M.words.length kw) (.slice Ab M.bits.length kb) (.slice Ad M.data.length kd) (.slice Ar M.recs.length kr) M.mei M.kind M.level M.more M.next (.slice Ao M.objects.length ko)) fun ao ad cF aq l=>Pl 1<|ng<|L0<|cR (m:=1) (e:=5) #[.int .u8 0] fun bv bw bz bC g=>?_
 have bD:=cW bz (xs:=[0]) (by as_aux_lemma=>kernel_rfl) (ap (by omega) aO) (by(try simp only[List.length_cons,List.length_nil]);omega) bC
 refine Pl 1<|nt<|sq<|sg<|Pl 1<|?_
 refine L0<|aP (ub g aq) 15<|Pl 2<|nt<|bk<|?_
 refine ie (fun x=>[(0,.int .i64 dir),(3,.pointer (some ⟨ao,0,none⟩)),(4,.slice none 0 0),(5,.slice x.2.2.1 x.2.1.length x.2.2.2),(10,.slice Ar M.recs.length kr),(11,.int .i64 ((M.recs.length:Nat) : Int)),(12,.int .i64 ((x.1:Nat) : Int))]) (fun(x:Nat × List Int × Option Addr × Nat) w'=>ay [] ad w'∧bw.heap.size≤w'.heap.size∧cz ad.heap.size w' (.slice x.2.2.1 x.2.1.length x.2.2.2) x.2.1∧(x.1≤M.recs.length)∧(x.2.1++bL dir M.code (M.recs.drop x.1)=([0])++bL dir M.code M.recs)∧(x.2.1.length≤16+x.1*2060)∧(1≤x.2.1.length)) (fun x=>M.recs.length-x.1) (0,[0],some ⟨bv,0,none⟩,1) ⟨g,lr,bD,(by(try dsimp only);omega),rfl,(by(try dsimp only);(try simp only[List.length_cons,List.length_nil]);omega),(by(try dsimp only);(try simp only[List.length_cons,List.length_nil]);omega)⟩ ?_
 rintro⟨k,L,A,cp⟩ bE ⟨ar,f,bF,bG,bH,bI,bJ⟩
 refine ik [(0,.int .i64 dir),(3,.pointer (some ⟨ao,0,none⟩)),(4,.slice none 0 0),(5,.slice A L.length cp),(10,.slice Ar M.recs.length kr),(11,.int .i64 ((M.recs.length:Nat) : Int)),(12,.int .i64 ((k:Nat) : Int))] ?_
 have a:cz ad.heap.size bE (.slice A L.length cp) L:=bF
 have cG:k≤M.recs.length:=bG
 have cH:L++bL dir M.code (M.recs.drop k)=([0])++bL dir M.code M.recs:=bH
 have cJ:L.length≤16+k*2060:=bI
 have cK:1≤L.length:=bJ
 have hL:L++bL dir M.code (M.recs.drop k)=([0])++bL dir M.code M.recs:=by assumption
 have hv0:=fun(h:k<M.recs.length)=>hf.recw _ (dz ⟨0,0,0,[]⟩ M.recs k h)
 refine sg<|Pl 1<|nt<|sq<|?_
 have ae:=aD l ar
 refine cb ((decide (((k:Nat) : Int)<((M.recs.length:Nat) : Int)))) (fun n=>?_) (fun n=>?_)
 have bO:=of_decide_eq_true n
 refine bK<|sq<|bk<|sg<|se (ns.elt hr k (by omega)) fun cL cM cN cO cP aw aB bP bQ Q cQ bR=>L0<|jF 4 M.recs.length k bP (by omega)<|?_
 refine L0<|wU [.int .u16 ((M.recs.getD k ⟨0,0,0,[]⟩).file),.int .u16 ((M.recs.getD k ⟨0,0,0,[]⟩).record),.int .u16 ((M.recs.getD k ⟨0,0,0,[]⟩).count),.slice aw ((M.recs.getD k ⟨0,0,0,[]⟩).words.length) aB] (ub ae bQ) bR<|L0<|bN #[.int .u16 0,.int .u16 0,.int .u16 0,.slice none 0 0] fun af cS B bS b=>L0<|bi bS #[.int .u16 ((M.recs.getD k ⟨0,0,0,[]⟩).file),.int .u16 ((M.recs.getD k ⟨0,0,0,[]⟩).record),.int .u16 ((M.recs.getD k ⟨0,0,0,[]⟩).count),.slice aw ((M.recs.getD k ⟨0,0,0,[]⟩).words.length) aB] fun cT ag c=>nt<|sq<|bk<|sg<|Pl 1<|?_
 have s:=ud b c B
 have C:=aD ar s
 refine L0<|aP (ub C aq) 0<|Pl 2<|cu 3 [32] 35 (((M.code==20)&&(dir==1))) (fun K aC=>?_) ?_
 refine bl 32 ((M.code==20)) (fun D=>?_) (fun D=>?_)
 have bT:=ax D
 exact Pl 3<|ce aC (dir==1) (by rw[D];rfl)
 have bT:=aA D
 exact Pl 3<|ce aC false (by rw[D];rfl)
 refine Pl 1<|nt<|?_
 have R:=aD ae s
 refine cb (((M.code==20)&&(dir==1))) (fun o=>?_) (fun o=>?_)
 have aE:=(bM o).1
 have aJ:=(bM o).2
 have cV:=ax aE
 have cX:=ax aJ
 refine go<|Pl 2<|L0<|aP ag 3<|Pl 1<|L0<|Oi (2*(((M.recs.getD k ⟨0,0,0,[]⟩).words.length:Nat) : Int))<|L0<|Oi (1+(2*(((M.recs.getD k ⟨0,0,0,[]⟩).words.length:Nat) : Int)))<|Pl 1<|L0<|cR (m:=2) (e:=5) #[.int .u8 ((1+(2*(((M.recs.getD k ⟨0,0,0,[]⟩).words.length:Nat) : Int)))%256),.int .u8 6] fun cY cZ bU bV E=>?_
 have bW:=cW bU (xs:=[((1+(2*(((M.recs.getD k ⟨0,0,0,[]⟩).words.length:Nat) : Int)))%256),6]) (by as_aux_lemma=>kernel_rfl) (ap (by omega) (ap (by omega) aO)) (by(try simp only[List.length_cons,List.length_nil]);omega) bV
 refine L0<|cg aX (xs:=L) (ys:=([((1+(2*(((M.recs.getD k ⟨0,0,0,[]⟩).words.length:Nat) : Int)))%256),6])) (.int .u8 0) 1 (ak a (aD s E) (fun x hx=>az) (fun _ _ h=>h)) (bW).rd (by(try simp only[List.length_append,List.length_cons,List.length_nil,av]);omega) (le (le (le (le g.size f) b.size) c.size) E.size) fun aK d0 d1 aM ah=>Pl 1<|nl<|bn<|tn<|go<|Pl 2<|?_
 have aj:=ut (ay.mono (S':=(ob A++[])) E au) ah (ai il au)
 refine L0<|aP (ay.blk aj (aH (cU a lr B) az) ag) 3<|?_
 refine L0<|Oc<|dX (bj (xs:=(M.recs.getD k ⟨0,0,0,[]⟩).words) (dT.old Q (ut R aj (ai (aI a l.size) au))) (by(try simp only[List.length_cons,List.length_nil]);omega)) fun d2 d3 d4 bX d5 d6 S=>?_
 refine L0<|cg aX (xs:=(L++[((1+(2*(((M.recs.getD k ⟨0,0,0,[]⟩).words.length:Nat) : Int)))%256),6])) (ys:=(aG ((M.recs.getD k ⟨0,0,0,[]⟩).words))) (.int .u8 0) 1 (ak aM S (fun x hx=>az) (fun _ _ h=>h)) (bX).rd (by(try simp only[List.length_append,List.length_cons,List.length_nil,av]);omega) (le (le (le (le (le (le g.size f) b.size) c.size) E.size) ah.size) S.size) fun bY bZ d7 c0 aN=>Pl 1<|nl<|bn<|tn<|go<|L0<|Oi (((k:Nat) : Int)+1)<|Pl 1<|nl<|?_
 exact ew ((k+1),((L++[((1+(2*(((M.recs.getD k ⟨0,0,0,[]⟩).words.length:Nat) : Int)))%256),6])++(aG ((M.recs.getD k ⟨0,0,0,[]⟩).words))),bY,bZ) ⟨(ut C (ut (ay.mono (S':=(ob A++(ob aK++[]))) aj (ai il au)) (ut (ay.mono (S':=(ob aK++[])) S au) aN (ai il au)) (ai il au)) (ai (aI a lr) (ai (aI aM lr) au))),(le (le (le (le (le (le f b.size) c.size) E.size) ah.size) S.size) aN.size),c0,(by(try dsimp only);omega),(by(try dsimp only);rw[← hL,dl dir M.code M.recs k (by omega)];simp only[eA,hd0,n,o,aE,aJ,bs,if_true,if_false,decide_true,decide_false,List.append_assoc]),(by(try dsimp only);have hv:=hf.recw _ (dz ⟨0,0,0,[]⟩ M.recs k (by omega));(try simp only[List.length_append,List.length_cons,List.length_nil,av]);omega),(by(try dsimp only);(try simp only[List.length_append,List.length_cons,List.length_nil]);omega)⟩ (by omega)
 refine Rg 13 (fun w'=>w'.cell? ⟨af,0,none⟩=some (.int .u16 ((M.recs.getD k ⟨0,0,0,[]⟩).file))∧w'.cell? ⟨af,1,none⟩=some (.int .u16 ((M.recs.getD k ⟨0,0,0,[]⟩).record))∧w'.cell? ⟨af,2,none⟩=some (.int .u16 ((M.recs.getD k ⟨0,0,0,[]⟩).count))) fun d8 d=>?_
 have F:=ub d ag
 refine aZ ⟨(aa F rfl),(aa F rfl),(aa F rfl)⟩ fun p=>Rt 0 p<|Rt 3 p<|Rl 4 p (fun _ hs=>hs.1)<|Rt 5 p<|Rl 6 p (fun _ hs=>hs.2.1)<|Rt 7 p<|Rl 8 p (fun _ hs=>hs.2.2)<|?_
 refine R2 1 9 rfl rfl ?_ ?_
 refine  cR (m:=1) (e:=5) #[.int .u8 6] fun d9 da c1 c2 i=>?_
 have aQ:=cW c1 (xs:=[6]) (by as_aux_lemma=>kernel_rfl) (ap (by omega) aO) (by(try simp only[List.length_cons,List.length_nil]);omega) c2
 have G:=ub i F
 refine aZ ⟨(aa G rfl),(aa G rfl),(aa G rfl)⟩ fun db=>?_
 refine R2 2 9 rfl rfl ?_ ?_
 have aR:=aD d i
 refine  cg aX (xs:=L) (ys:=([6])) (.int .u8 0) 1 (ak a (aD s aR) (fun x hx=>az) (fun _ _ h=>h)) (aQ).rd (by(try simp only[List.length_append,List.length_cons,List.length_nil,av]);omega) (le (le (le (le (le g.size f) b.size) c.size) d.size) i.size) fun T dc dd al H=>?_
 have U:=ay.blk H (aH (cU a lr B) az) G
 refine aZ ⟨(aa U rfl),(aa U rfl),(aa U rfl)⟩ fun de=>R0 9 rfl<|cR (m:=3) (e:=22) #[.int .u16 ((M.recs.getD k ⟨0,0,0,[]⟩).file),.int .u16 ((M.recs.getD k ⟨0,0,0,[]⟩).record),.int .u16 ((M.recs.getD k ⟨0,0,0,[]⟩).count)] fun df dg c3 c4 I=>?_
 have c5:=eh c3 (xs:=[(M.recs.getD k ⟨0,0,0,[]⟩).file,(M.recs.getD k ⟨0,0,0,[]⟩).record,(M.recs.getD k ⟨0,0,0,[]⟩).count]) (by as_aux_lemma=>kernel_rfl) (ap (by omega) (ap (by omega) (ap (by omega) aO))) (by(try simp only[List.length_cons,List.length_nil]);omega) c4
 have V:=ub I U
 refine aZ ⟨(aa V rfl),(aa V rfl),(aa V rfl)⟩ fun dh=>R0 10 rfl<|Oc<|dX (bj (xs:=[(M.recs.getD k ⟨0,0,0,[]⟩).file,(M.recs.getD k ⟨0,0,0,[]⟩).record,(M.recs.getD k ⟨0,0,0,[]⟩).count]) (c5).rd (by(try simp only[List.length_cons,List.length_nil]);omega)) fun di dj dk c6 dm dn J=>?_
 have N:=ub J V
 refine aZ ⟨(aa N rfl),(aa N rfl),(aa N rfl)⟩ fun dp=>?_
 have aU:=aD I J
 have aV:=ak al aU (fun x hx=>az) (fun _ _ h=>h)
 refine R0 11 rfl<|cg aX (xs:=(L++[6])) (ys:=(aG ([(M.recs.getD k ⟨0,0,0,[]⟩).file,(M.recs.getD k ⟨0,0,0,[]⟩).record,(M.recs.getD k ⟨0,0,0,[]⟩).count]))) (.int .u8 0) 1 aV (c6).rd (by(try simp only[List.length_append,List.length_cons,List.length_nil,av]);omega) (le (le (le (le (le (le (le (le g.size f) b.size) c.size) d.size) i.size) H.size) I.size) J.size) fun aY dq dr b0 W=>?_
 have X:=ay.blk W (aH (bB N aV (by decide)) az) N
 refine aZ ⟨(aa X rfl),(aa X rfl),(aa X rfl)⟩ fun c7=>Rt 12 c7<|re<|bn<|tn<|go<|Pl 2<|L0<|aP X 3<|?_
 have b1:=ut (ay.mono (S':=(ob A++(ob T++[]))) aR au) (ut (ay.mono (S':=(ob A++(ob T++[]))) H (ai il au)) (ut (ay.mono (S':=(ob T++[])) aU au) W (ai il au)) (ai il au)) (ai il (ai il au))
 refine L0<|Oc<|dX (bj (xs:=(M.recs.getD k ⟨0,0,0,[]⟩).words) (dT.old Q (ut R b1 (ai (aI a l.size) (ai (aI al l.size) au)))) (by(try simp only[List.length_cons,List.length_nil]);omega)) fun ds dt du c8 dv dw Y=>?_
 refine L0<|cg aX (xs:=((L++[6])++(aG ([(M.recs.getD k ⟨0,0,0,[]⟩).file,(M.recs.getD k ⟨0,0,0,[]⟩).record,(M.recs.getD k ⟨0,0,0,[]⟩).count])))) (ys:=(aG ((M.recs.getD k ⟨0,0,0,[]⟩).words))) (.int .u8 0) 1 (ak b0 Y (fun x hx=>az) (fun _ _ h=>h)) (c8).rd (by(try simp only[List.length_append,List.length_cons,List.length_nil,av]);omega) (le (le (le (le (le (le (le (le (le (le g.size f) b.size) c.size) d.size) i.size) H.size) I.size) J.size) W.size) Y.size) fun c9 ca dx cd b2=>Pl 1<|nl<|bn<|tn<|go<|L0<|Oi (((k:Nat) : Int)+1)<|Pl 1<|nl<|?_
 exact ew ((k+1),(((L++[6])++(aG ([(M.recs.getD k ⟨0,0,0,[]⟩).file,(M.recs.getD k ⟨0,0,0,[]⟩).record,(M.recs.getD k ⟨0,0,0,[]⟩).count])))++(aG ((M.recs.getD k ⟨0,0,0,[]⟩).words))),c9,ca) ⟨(ut C (ut (ay.mono (S':=(ob A++(ob T++(ob aY++[])))) b1 (ai il (ai il au))) (ut (ay.mono (S':=(ob aY++[])) Y au) b2 (ai il au)) (ai il au)) (ai (aI a lr) (ai (aI al lr) (ai (aI b0 lr) au)))),(le (le (le (le (le (le (le (le (le (le f b.size) c.size) d.size) i.size) H.size) I.size) J.size) W.size) Y.size) b2.size),cd,(by(try dsimp only);omega),(by(try dsimp only);rw[← hL,dl dir M.code M.recs k (by omega)];simp only[eA,hd0,n,o,bs,if_true,if_false,decide_true,decide_false,List.append_assoc]),(by(try dsimp only);have hv:=hf.recw _ (dz ⟨0,0,0,[]⟩ M.recs k (by omega));(try simp only[List.length_append,List.length_cons,List.length_nil,av]);omega),(by(try dsimp only);(try simp only[List.length_append,List.length_cons,List.length_nil]);omega)⟩ (by omega)
 refine  cR (m:=3) (e:=22) #[.int .u16 ((M.recs.getD k ⟨0,0,0,[]⟩).file),.int .u16 ((M.recs.getD k ⟨0,0,0,[]⟩).record),.int .u16 ((M.recs.getD k ⟨0,0,0,[]⟩).count)] fun dy dB cf ch q=>?_
 have b3:=eh cf (xs:=[(M.recs.getD k ⟨0,0,0,[]⟩).file,(M.recs.getD k ⟨0,0,0,[]⟩).record,(M.recs.getD k ⟨0,0,0,[]⟩).count]) (by as_aux_lemma=>kernel_rfl) (ap (by omega) (ap (by omega) (ap (by omega) aO))) (by(try simp only[List.length_cons,List.length_nil]);omega) ch
 have Z:=ub q G
 refine aZ ⟨(aa Z rfl),(aa Z rfl),(aa Z rfl)⟩ fun dC=>?_
 have b4:=aD d (aD i q)
 refine R0 2 rfl<|cg aX (xs:=L) (ys:=([6])) (.int .u8 0) 1 (ak a (aD s b4) (fun x hx=>az) (fun _ _ h=>h)) ((ak aQ q (fun x hx=>az) (fun _ _ h=>h))).rd (by(try simp only[List.length_append,List.length_cons,List.length_nil,av]);omega) (le (le (le (le (le (le g.size f) b.size) c.size) d.size) i.size) q.size) fun a0 dD dE am t=>?_
 have a1:=ay.blk t (aH (cU a lr B) az) Z
 refine aZ ⟨(aa a1 rfl),(aa a1 rfl),(aa a1 rfl)⟩ fun dF=>?_
 refine R0 10 rfl<|Oc<|dX (bj (xs:=[(M.recs.getD k ⟨0,0,0,[]⟩).file,(M.recs.getD k ⟨0,0,0,[]⟩).record,(M.recs.getD k ⟨0,0,0,[]⟩).count]) ((ak b3 t (fun x hx=>(aH ((g8 b3 a (le (le (le b.size c.size) d.size) i.size)) x hx) az)) (fun _ _ h=>h))).rd (by(try simp only[List.length_cons,List.length_nil]);omega)) fun dG dH dI ci dJ dK u=>?_
 have O:=ub u a1
 refine aZ ⟨(aa O rfl),(aa O rfl),(aa O rfl)⟩ fun dL=>?_
 have b5:=ak am u (fun x hx=>az) (fun _ _ h=>h)
 refine R0 11 rfl<|cg aX (xs:=(L++[6])) (ys:=(aG ([(M.recs.getD k ⟨0,0,0,[]⟩).file,(M.recs.getD k ⟨0,0,0,[]⟩).record,(M.recs.getD k ⟨0,0,0,[]⟩).count]))) (.int .u8 0) 1 b5 (ci).rd (by(try simp only[List.length_append,List.length_cons,List.length_nil,av]);omega) (le (le (le (le (le (le (le (le g.size f) b.size) c.size) d.size) i.size) q.size) t.size) u.size) fun b6 dM dN b7 a2=>?_
 have a3:=ay.blk a2 (aH (bB O b5 (by decide)) az) O
 refine aZ ⟨(aa a3 rfl),(aa a3 rfl),(aa a3 rfl)⟩ fun cj=>Rt 12 cj<|re<|bn<|tn<|go<|Pl 2<|L0<|aP a3 3<|?_
 have b8:=ut (ay.mono (S':=(ob A++(ob a0++[]))) b4 au) (ut (ay.mono (S':=(ob A++(ob a0++[]))) t (ai il au)) (ut (ay.mono (S':=(ob a0++[])) u au) a2 (ai il au)) (ai il au)) (ai il (ai il au))
 refine L0<|Oc<|dX (bj (xs:=(M.recs.getD k ⟨0,0,0,[]⟩).words) (dT.old Q (ut R b8 (ai (aI a l.size) (ai (aI am l.size) au)))) (by(try simp only[List.length_cons,List.length_nil]);omega)) fun dO dP dQ ck dR dS a4=>?_
 refine L0<|cg aX (xs:=((L++[6])++(aG ([(M.recs.getD k ⟨0,0,0,[]⟩).file,(M.recs.getD k ⟨0,0,0,[]⟩).record,(M.recs.getD k ⟨0,0,0,[]⟩).count])))) (ys:=(aG ((M.recs.getD k ⟨0,0,0,[]⟩).words))) (.int .u8 0) 1 (ak b7 a4 (fun x hx=>az) (fun _ _ h=>h)) (ck).rd (by(try simp only[List.length_append,List.length_cons,List.length_nil,av]);omega) (le (le (le (le (le (le (le (le (le (le g.size f) b.size) c.size) d.size) i.size) q.size) t.size) u.size) a2.size) a4.size) fun cl cm dU cn b9=>Pl 1<|nl<|bn<|tn<|go<|L0<|Oi (((k:Nat) : Int)+1)<|Pl 1<|nl<|?_
 exact ew ((k+1),(((L++[6])++(aG ([(M.recs.getD k ⟨0,0,0,[]⟩).file,(M.recs.getD k ⟨0,0,0,[]⟩).record,(M.recs.getD k ⟨0,0,0,[]⟩).count])))++(aG ((M.recs.getD k ⟨0,0,0,[]⟩).words))),cl,cm) ⟨(ut C (ut (ay.mono (S':=(ob A++(ob a0++(ob b6++[])))) b8 (ai il (ai il au))) (ut (ay.mono (S':=(ob b6++[])) a4 au) b9 (ai il au)) (ai il au)) (ai (aI a lr) (ai (aI am lr) (ai (aI b7 lr) au)))),(le (le (le (le (le (le (le (le (le (le f b.size) c.size) d.size) i.size) q.size) t.size) u.size) a2.size) a4.size) b9.size),cn,(by(try dsimp only);omega),(by(try dsimp only);rw[← hL,dl dir M.code M.recs k (by omega)];simp only[eA,hd0,n,o,bs,if_true,if_false,decide_true,decide_false,List.append_assoc]),(by(try dsimp only);have hv:=hf.recw _ (dz ⟨0,0,0,[]⟩ M.recs k (by omega));(try simp only[List.length_append,List.length_cons,List.length_nil,av]);omega),(by(try dsimp only);(try simp only[List.length_append,List.length_cons,List.length_nil]);omega)⟩ (by omega)
 refine  cR (m:=3) (e:=22) #[.int .u16 ((M.recs.getD k ⟨0,0,0,[]⟩).file),.int .u16 ((M.recs.getD k ⟨0,0,0,[]⟩).record),.int .u16 ((M.recs.getD k ⟨0,0,0,[]⟩).count)] fun dV dW co cq v=>?_
 have ba:=eh co (xs:=[(M.recs.getD k ⟨0,0,0,[]⟩).file,(M.recs.getD k ⟨0,0,0,[]⟩).record,(M.recs.getD k ⟨0,0,0,[]⟩).count]) (by as_aux_lemma=>kernel_rfl) (ap (by omega) (ap (by omega) (ap (by omega) aO))) (by(try simp only[List.length_cons,List.length_nil]);omega) cq
 have a5:=ub v F
 refine aZ ⟨(aa a5 rfl),(aa a5 rfl),(aa a5 rfl)⟩ fun dY=>R0 1 rfl<|cR (m:=1) (e:=5) #[.int .u8 6] fun dZ e0 cr ct r=>?_
 have cv:=cW cr (xs:=[6]) (by as_aux_lemma=>kernel_rfl) (ap (by omega) aO) (by(try simp only[List.length_cons,List.length_nil]);omega) ct
 have a6:=ub r a5
 refine aZ ⟨(aa a6 rfl),(aa a6 rfl),(aa a6 rfl)⟩ fun e1=>?_
 have bb:=aD d (aD v r)
 refine R0 2 rfl<|cg aX (xs:=L) (ys:=([6])) (.int .u8 0) 1 (ak a (aD s bb) (fun x hx=>az) (fun _ _ h=>h)) (cv).rd (by(try simp only[List.length_append,List.length_cons,List.length_nil,av]);omega) (le (le (le (le (le (le g.size f) b.size) c.size) d.size) v.size) r.size) fun a7 e2 e3 an y=>?_
 have a8:=ay.blk y (aH (cU a lr B) az) a6
 refine aZ ⟨(aa a8 rfl),(aa a8 rfl),(aa a8 rfl)⟩ fun e4=>?_
 refine R0 10 rfl<|Oc<|dX (bj (xs:=[(M.recs.getD k ⟨0,0,0,[]⟩).file,(M.recs.getD k ⟨0,0,0,[]⟩).record,(M.recs.getD k ⟨0,0,0,[]⟩).count]) ((ak ba (ut (ay.mono (S':=(ob A++[])) r au) y (ai il au)) (fun x hx=>(aH ((g8 ba a (le (le b.size c.size) d.size)) x hx) az)) (fun _ _ h=>h))).rd (by(try simp only[List.length_cons,List.length_nil]);omega)) fun e5 e6 e7 cw e8 e9 z=>?_
 have P:=ub z a8
 refine aZ ⟨(aa P rfl),(aa P rfl),(aa P rfl)⟩ fun ea=>?_
 have bc:=ak an z (fun x hx=>az) (fun _ _ h=>h)
 refine R0 11 rfl<|cg aX (xs:=(L++[6])) (ys:=(aG ([(M.recs.getD k ⟨0,0,0,[]⟩).file,(M.recs.getD k ⟨0,0,0,[]⟩).record,(M.recs.getD k ⟨0,0,0,[]⟩).count]))) (.int .u8 0) 1 bc (cw).rd (by(try simp only[List.length_append,List.length_cons,List.length_nil,av]);omega) (le (le (le (le (le (le (le (le g.size f) b.size) c.size) d.size) v.size) r.size) y.size) z.size) fun bd eb ec be a9=>?_
 have ab:=ay.blk a9 (aH (bB P bc (by decide)) az) P
 refine aZ ⟨(aa ab rfl),(aa ab rfl),(aa ab rfl)⟩ fun cx=>Rt 12 cx<|re<|bn<|tn<|go<|Pl 2<|L0<|aP ab 3<|?_
 have bf:=ut (ay.mono (S':=(ob A++(ob a7++[]))) bb au) (ut (ay.mono (S':=(ob A++(ob a7++[]))) y (ai il au)) (ut (ay.mono (S':=(ob a7++[])) z au) a9 (ai il au)) (ai il au)) (ai il (ai il au))
 refine L0<|Oc<|dX (bj (xs:=(M.recs.getD k ⟨0,0,0,[]⟩).words) (dT.old Q (ut R bf (ai (aI a l.size) (ai (aI an l.size) au)))) (by(try simp only[List.length_cons,List.length_nil]);omega)) fun ed ee ef cy eg ei ac=>?_
 refine L0<|cg aX (xs:=((L++[6])++(aG ([(M.recs.getD k ⟨0,0,0,[]⟩).file,(M.recs.getD k ⟨0,0,0,[]⟩).record,(M.recs.getD k ⟨0,0,0,[]⟩).count])))) (ys:=(aG ((M.recs.getD k ⟨0,0,0,[]⟩).words))) (.int .u8 0) 1 (ak be ac (fun x hx=>az) (fun _ _ h=>h)) (cy).rd (by(try simp only[List.length_append,List.length_cons,List.length_nil,av]);omega) (le (le (le (le (le (le (le (le (le (le g.size f) b.size) c.size) d.size) v.size) r.size) y.size) z.size) a9.size) ac.size) fun cA cB ej cC bg=>Pl 1<|nl<|bn<|tn<|go<|L0<|Oi (((k:Nat) : Int)+1)<|Pl 1<|nl<|?_
 exact ew ((k+1),(((L++[6])++(aG ([(M.recs.getD k ⟨0,0,0,[]⟩).file,(M.recs.getD k ⟨0,0,0,[]⟩).record,(M.recs.getD k ⟨0,0,0,[]⟩).count])))++(aG ((M.recs.getD k ⟨0,0,0,[]⟩).words))),cA,cB) ⟨(ut C (ut (ay.mono (S':=(ob A++(ob a7++(ob bd++[])))) bf (ai il (ai il au))) (ut (ay.mono (S':=(ob bd++[])) ac au) bg (ai il au)) (ai il au)) (ai (aI a lr) (ai (aI an lr) (ai (aI be lr) au)))),(le (le (le (le (le (le (le (le (le (le f b.size) c.size) d.size) v.size) r.size) y.size) z.size) a9.size) ac.size) bg.size),cC,(by(try dsimp only);omega),(by(try dsimp only);rw[← hL,dl dir M.code M.recs k (by omega)];simp only[eA,hd0,n,o,bs,if_true,if_false,decide_true,decide_false,List.append_assoc]),(by(try dsimp only);have hv:=hf.recw _ (dz ⟨0,0,0,[]⟩ M.recs k (by omega));(try simp only[List.length_append,List.length_cons,List.length_nil,av]);omega),(by(try dsimp only);(try simp only[List.length_append,List.length_cons,List.length_nil]);omega)⟩ (by omega)
 have bO:=of_decide_eq_false n
 refine xt<|tx<|tx<|bx<|tn<|sg<|Pl 3<|L0<|Oi (((L.length:Nat) : Int)-1)<|Pl 1<|i8 (aS.at_ (a).rd 0 (by omega)) fun ek el bh em eo=>L0<|pn L.length 0 bh (by omega)<|L0<|AE aX (j:=0) a bh (by omega) ((((L.length:Nat) : Int)-1)%256) (fun _=>⟨rfl,by omega⟩) fun ep cD cE=>nl<|?_
 refine tn<|sg<|Pl 2<|nt<|rt<|rr (.slice A L.length cp)<|?_
 have hk:k=M.recs.length:=by omega
 rw[hk,List.drop_length] at hL
 have hL2:[0]++bL dir M.code M.recs=L:=by rw[← hL];simp[bL]
 have hs:cc dir M=(L.set 0 ((((L.length:Nat) : Int)-1)%256)):=by unfold cc;rw[hL2]
 rw[hs]
 exact⟨_,rfl,(aL.weaken cD l.size),(ut ae cE (ai (aI a l.size) au))⟩
theorem sn{m:Bool}{cs:Array Value}{M:aT}{w:World}{dir:Int}(h:aF m w cs.toList M)(hf:aW M) : Calls Tryz.prog 97 #[.int .i64 dir,.agg cs] w (ig (cc dir M) w):=by
  rcases dB (dir==0) with h0|h0
  · exact nz h hf h0
  · exact nV h hf h0
open Go.RowKit
theorem iQ{parse:Int→Int→List Int→aT × Int}{lay:Int→aT→List Int}{dir E:Int}{M X:aT}(hX:parse dir M.code (lay dir M)=(X,E))(hE:(E != 0)=true) : bW parse lay dir M=none:=by
  unfold bW
  rw[hX,if_neg]
  intro h
  injection h with h1 h2
  rw[h2] at hE
  cases hE
theorem iT{parse:Int→Int→List Int→aT × Int}{lay:Int→aT→List Int}{dir E:Int}{M X:aT}(hX:parse dir M.code (lay dir M)=(X,E))(hE:decide (X=M)=false) : bW parse lay dir M=none:=by
  unfold bW
  rw[hX,if_neg]
  intro h
  injection h with h1 h2
  rw[h1] at hE
  simp at hE
theorem nW{parse:Int→Int→List Int→aT × Int}{lay:Int→aT→List Int}{dir E:Int}{M X:aT}(hX:parse dir M.code (lay dir M)=(X,E))(hE:(E != 0)=false)(h:decide (X=M)=true) : bW parse lay dir M=some (lay dir M):=by
  unfold bW
  have h1:X=M:=by simpa using h
  have h2:E=0:=by simpa using hE
  rw[hX,h1,h2,if_pos rfl]
theorem fh{x y:Option (List Int)}(h:x=y){w:World}{e:Ending}{w':World}(k:ek y w e w') : ek x w e w':=by rw[h];exact k
theorem jn{m:Bool}{cs:Array Value}{M:aT}{w:World}{dir:Int}(h:aF m w cs.toList M)(hf:aW M)(hlen:(bH dir M).length≤1048576) : Calls Tryz.prog 59 #[.int .i64 dir,.agg cs] w (ek (bW f9 bH dir M) w):=by
 have hM:=h
 obtain⟨vw,vb,vd,vr,vo,h0,hw,hbt,hd,hr,ho,hR⟩:=h
 obtain rfl:cs=(bA M vw vb vd vr vo).toArray:=by apply Array.toList_inj.1;simpa using h0
 clear h0
 obtain⟨Aw,kw,rfl,_,_⟩:=hw.shape
 obtain⟨Ab,kb,rfl,_,_⟩:=hbt.shape
 obtain⟨Ad,kd,rfl,_,_⟩:=hd.shape
 obtain⟨Ar,kr,rfl,_,_⟩:=hr.shape
 obtain⟨Ao,ko,rfl,_,_⟩:=ho.shape
 obtain⟨q0,q1,q2,q3,q4,q5,q6,q7,q8,q9,y,z,C,D,E,F,G⟩:=hR
 simp only[B8,dA] at q0 q1 q2 q3 q4 q5 q6 q7 q8 q9 y z C D E F G
 refine en 29 Tryz.func59 rfl<|sg<|L0<|cI (mG M.code M.fail M.addr M.count M.value M.and_ M.or_ M.addr2 M.sub M.status M.events M.messages (.slice Aw M.words.length kw) (.slice Ab M.bits.length kb) (.slice Ad M.data.length kd) (.slice Ar M.recs.length kr) M.mei M.kind M.level M.more M.next (.slice Ao M.objects.length ko)) fun V W X k g=>Pl 2<|ng<|Pl 1<|L0<|cj k<|?_
 have l:=aF.old hM g
 refine L0<|Oc<|dX (tM (dir:=dir) l hf) fun H I J n Y Z o=>Pl 1<|ng<|Pl 2<|?_
 have p:=ub o k
 refine L0<|aP p 0<|Pl 1<|?_
 refine pr (f9 dir M.code (bH dir M)) fun e K f=>?_
 have q:Calls _ _ _ _ (dC (f9 dir M.code (bH dir M)) J):=jw (dir:=dir) (c:=M.code) q0 (n).rd hlen
 rw[f] at q
 refine L0<|Oc<|e2 (q) fun L a0 a N=>Pl 3<|L0<|bN mZ fun a1 a2 O P Q=>L0<|bi (hz:=(by rw[a.size];exact aV)) (hv:=a.size) (h1:=a.one) P (L) fun a3 R S=>Pl 1<|nt<|sq<|sg<|Pl 3<|?_
 have r:=ud Q S O
 have i:=aD N r
 have s:=aD o i
 have t:=aD g s
 refine bl 22 ((K != 0)) (fun b=>?_) (fun b=>?_)
 have T:=aB b
 refine Pl 5<|nt<|c1<|sg<|Pl 2<|nt<|rt<|tr<|rr (.tuple #[.slice none 0 0,.int .i64 1])<|?_
 refine fh (iQ f b) ?_
 exact⟨rfl,t⟩
 have T:=ah b
 refine L1<|cj (hz:=(by rw[a.size];exact aV)) R<|?_
 refine L1<|cj (ub i p)<|?_
 refine L1<|Oc<|m1 (fN (A:=e) (B:=M) (aF.upd a r aE) (aF.old l s)) fun a4 u=>Pl 2<|nt<|?_
 have v:=aD t u
 refine cb ((!(decide (e=M)))) (fun j=>?_) (fun j=>?_)
 have d:(decide (e=M))=false:=by simpa using j
 have U:=of_decide_eq_false d
 refine sg<|Pl 2<|nt<|rt<|tr<|rr (.tuple #[.slice none 0 0,.int .i64 1])<|?_
 refine fh (iT f d) ?_
 exact⟨rfl,v⟩
 have d:(decide (e=M))=true:=by simpa using j
 have U:=of_decide_eq_true d
 refine bK<|sg<|Pl 3<|nt<|rt<|rr (.tuple #[.slice H ((bH dir M).length) I,.int .i64 0])<|?_
 refine fh (nW f b d) ?_
 exact⟨_,rfl,(aL.weaken (ak n (aD i u) (fun x hx=>az) (fun _ _ h=>h)) g.size),v⟩
theorem kA{m:Bool}{cs:Array Value}{M:aT}{w:World}{dir:Int}(h:aF m w cs.toList M)(hf:aW M)(hlen:(bz dir M).length≤1048576) : Calls Tryz.prog 61 #[.int .i64 dir,.agg cs] w (ek (bW fP bz dir M) w):=by
 have hM:=h
 obtain⟨vw,vb,vd,vr,vo,h0,hw,hbt,hd,hr,ho,hR⟩:=h
 obtain rfl:cs=(bA M vw vb vd vr vo).toArray:=by apply Array.toList_inj.1;simpa using h0
 clear h0
 obtain⟨Aw,kw,rfl,_,_⟩:=hw.shape
 obtain⟨Ab,kb,rfl,_,_⟩:=hbt.shape
 obtain⟨Ad,kd,rfl,_,_⟩:=hd.shape
 obtain⟨Ar,kr,rfl,_,_⟩:=hr.shape
 obtain⟨Ao,ko,rfl,_,_⟩:=ho.shape
 obtain⟨q0,q1,q2,q3,q4,q5,q6,q7,q8,q9,y,z,C,D,E,F,G⟩:=hR
 simp only[B8,dA] at q0 q1 q2 q3 q4 q5 q6 q7 q8 q9 y z C D E F G
 refine en 29 Tryz.func61 rfl<|sg<|L0<|cI (mG M.code M.fail M.addr M.count M.value M.and_ M.or_ M.addr2 M.sub M.status M.events M.messages (.slice Aw M.words.length kw) (.slice Ab M.bits.length kb) (.slice Ad M.data.length kd) (.slice Ar M.recs.length kr) M.mei M.kind M.level M.more M.next (.slice Ao M.objects.length ko)) fun V W X k g=>Pl 2<|ng<|Pl 1<|L0<|cj k<|?_
 have l:=aF.old hM g
 refine L0<|Oc<|dX (vl (dir:=dir) l hf) fun H I J n Y Z o=>Pl 1<|ng<|Pl 2<|?_
 have p:=ub o k
 refine L0<|aP p 0<|Pl 1<|?_
 refine pr (fP dir M.code (bz dir M)) fun e K f=>?_
 have q:Calls _ _ _ _ (dC (fP dir M.code (bz dir M)) J):=kW (dir:=dir) (c:=M.code) q0 (n).rd hlen
 rw[f] at q
 refine L0<|Oc<|e2 (q) fun L a0 a N=>Pl 3<|L0<|bN mZ fun a1 a2 O P Q=>L0<|bi (hz:=(by rw[a.size];exact aV)) (hv:=a.size) (h1:=a.one) P (L) fun a3 R S=>Pl 1<|nt<|sq<|sg<|Pl 3<|?_
 have r:=ud Q S O
 have i:=aD N r
 have s:=aD o i
 have t:=aD g s
 refine bl 22 ((K != 0)) (fun b=>?_) (fun b=>?_)
 have T:=aB b
 refine Pl 5<|nt<|c1<|sg<|Pl 2<|nt<|rt<|tr<|rr (.tuple #[.slice none 0 0,.int .i64 1])<|?_
 refine fh (iQ f b) ?_
 exact⟨rfl,t⟩
 have T:=ah b
 refine L1<|cj (hz:=(by rw[a.size];exact aV)) R<|?_
 refine L1<|cj (ub i p)<|?_
 refine L1<|Oc<|m1 (fN (A:=e) (B:=M) (aF.upd a r aE) (aF.old l s)) fun a4 u=>Pl 2<|nt<|?_
 have v:=aD t u
 refine cb ((!(decide (e=M)))) (fun j=>?_) (fun j=>?_)
 have d:(decide (e=M))=false:=by simpa using j
 have U:=of_decide_eq_false d
 refine sg<|Pl 2<|nt<|rt<|tr<|rr (.tuple #[.slice none 0 0,.int .i64 1])<|?_
 refine fh (iT f d) ?_
 exact⟨rfl,v⟩
 have d:(decide (e=M))=true:=by simpa using j
 have U:=of_decide_eq_true d
 refine bK<|sg<|Pl 3<|nt<|rt<|rr (.tuple #[.slice H ((bz dir M).length) I,.int .i64 0])<|?_
 refine fh (nW f b d) ?_
 exact⟨_,rfl,(aL.weaken (ak n (aD i u) (fun x hx=>az) (fun _ _ h=>h)) g.size),v⟩
theorem jT{m:Bool}{cs:Array Value}{M:aT}{w:World}{dir:Int}(h:aF m w cs.toList M)(hf:aW M)(hlen:(bE dir M).length≤1048576) : Calls Tryz.prog 63 #[.int .i64 dir,.agg cs] w (ek (bW fO bE dir M) w):=by
 have hM:=h
 obtain⟨vw,vb,vd,vr,vo,h0,hw,hbt,hd,hr,ho,hR⟩:=h
 obtain rfl:cs=(bA M vw vb vd vr vo).toArray:=by apply Array.toList_inj.1;simpa using h0
 clear h0
 obtain⟨Aw,kw,rfl,_,_⟩:=hw.shape
 obtain⟨Ab,kb,rfl,_,_⟩:=hbt.shape
 obtain⟨Ad,kd,rfl,_,_⟩:=hd.shape
 obtain⟨Ar,kr,rfl,_,_⟩:=hr.shape
 obtain⟨Ao,ko,rfl,_,_⟩:=ho.shape
 obtain⟨q0,q1,q2,q3,q4,q5,q6,q7,q8,q9,y,z,C,D,E,F,G⟩:=hR
 simp only[B8,dA] at q0 q1 q2 q3 q4 q5 q6 q7 q8 q9 y z C D E F G
 refine en 29 Tryz.func63 rfl<|sg<|L0<|cI (mG M.code M.fail M.addr M.count M.value M.and_ M.or_ M.addr2 M.sub M.status M.events M.messages (.slice Aw M.words.length kw) (.slice Ab M.bits.length kb) (.slice Ad M.data.length kd) (.slice Ar M.recs.length kr) M.mei M.kind M.level M.more M.next (.slice Ao M.objects.length ko)) fun V W X k g=>Pl 2<|ng<|Pl 1<|L0<|cj k<|?_
 have l:=aF.old hM g
 refine L0<|Oc<|dX (vA (dir:=dir) l hf) fun H I J n Y Z o=>Pl 1<|ng<|Pl 2<|?_
 have p:=ub o k
 refine L0<|aP p 0<|Pl 1<|?_
 refine pr (fO dir M.code (bE dir M)) fun e K f=>?_
 have q:Calls _ _ _ _ (dC (fO dir M.code (bE dir M)) J):=l8 (dir:=dir) (c:=M.code) q0 (n).rd hlen
 rw[f] at q
 refine L0<|Oc<|e2 (q) fun L a0 a N=>Pl 3<|L0<|bN mZ fun a1 a2 O P Q=>L0<|bi (hz:=(by rw[a.size];exact aV)) (hv:=a.size) (h1:=a.one) P (L) fun a3 R S=>Pl 1<|nt<|sq<|sg<|Pl 3<|?_
 have r:=ud Q S O
 have i:=aD N r
 have s:=aD o i
 have t:=aD g s
 refine bl 22 ((K != 0)) (fun b=>?_) (fun b=>?_)
 have T:=aB b
 refine Pl 5<|nt<|c1<|sg<|Pl 2<|nt<|rt<|tr<|rr (.tuple #[.slice none 0 0,.int .i64 1])<|?_
 refine fh (iQ f b) ?_
 exact⟨rfl,t⟩
 have T:=ah b
 refine L1<|cj (hz:=(by rw[a.size];exact aV)) R<|?_
 refine L1<|cj (ub i p)<|?_
 refine L1<|Oc<|m1 (fN (A:=e) (B:=M) (aF.upd a r aE) (aF.old l s)) fun a4 u=>Pl 2<|nt<|?_
 have v:=aD t u
 refine cb ((!(decide (e=M)))) (fun j=>?_) (fun j=>?_)
 have d:(decide (e=M))=false:=by simpa using j
 have U:=of_decide_eq_false d
 refine sg<|Pl 2<|nt<|rt<|tr<|rr (.tuple #[.slice none 0 0,.int .i64 1])<|?_
 refine fh (iT f d) ?_
 exact⟨rfl,v⟩
 have d:(decide (e=M))=true:=by simpa using j
 have U:=of_decide_eq_true d
 refine bK<|sg<|Pl 3<|nt<|rt<|rr (.tuple #[.slice H ((bE dir M).length) I,.int .i64 0])<|?_
 refine fh (nW f b d) ?_
 exact⟨_,rfl,(aL.weaken (ak n (aD i u) (fun x hx=>az) (fun _ _ h=>h)) g.size),v⟩
theorem mp{m:Bool}{cs:Array Value}{M:aT}{w:World}{dir:Int}(h:aF m w cs.toList M)(hf:aW M)(hlen:(cw dir M).length≤1048576) : Calls Tryz.prog 67 #[.int .i64 dir,.agg cs] w (ek (bW gO cw dir M) w):=by
 have hM:=h
 obtain⟨vw,vb,vd,vr,vo,h0,hw,hbt,hd,hr,ho,hR⟩:=h
 obtain rfl:cs=(bA M vw vb vd vr vo).toArray:=by apply Array.toList_inj.1;simpa using h0
 clear h0
 obtain⟨Aw,kw,rfl,_,_⟩:=hw.shape
 obtain⟨Ab,kb,rfl,_,_⟩:=hbt.shape
 obtain⟨Ad,kd,rfl,_,_⟩:=hd.shape
 obtain⟨Ar,kr,rfl,_,_⟩:=hr.shape
 obtain⟨Ao,ko,rfl,_,_⟩:=ho.shape
 obtain⟨q0,q1,q2,q3,q4,q5,q6,q7,q8,q9,y,z,C,D,E,F,G⟩:=hR
 simp only[B8,dA] at q0 q1 q2 q3 q4 q5 q6 q7 q8 q9 y z C D E F G
 refine en 29 Tryz.func67 rfl<|sg<|L0<|cI (mG M.code M.fail M.addr M.count M.value M.and_ M.or_ M.addr2 M.sub M.status M.events M.messages (.slice Aw M.words.length kw) (.slice Ab M.bits.length kb) (.slice Ad M.data.length kd) (.slice Ar M.recs.length kr) M.mei M.kind M.level M.more M.next (.slice Ao M.objects.length ko)) fun V W X k g=>Pl 2<|ng<|Pl 1<|L0<|cj k<|?_
 have l:=aF.old hM g
 refine L0<|Oc<|dX (xe (dir:=dir) l hf) fun H I J n Y Z o=>Pl 1<|ng<|Pl 2<|?_
 have p:=ub o k
 refine L0<|aP p 0<|Pl 1<|?_
 refine pr (gO dir M.code (cw dir M)) fun e K f=>?_
 have q:Calls _ _ _ _ (dC (gO dir M.code (cw dir M)) J):=lZ (dir:=dir) (c:=M.code) q0 (n).rd hlen
 rw[f] at q
 refine L0<|Oc<|e2 (q) fun L a0 a N=>Pl 3<|L0<|bN mZ fun a1 a2 O P Q=>L0<|bi (hz:=(by rw[a.size];exact aV)) (hv:=a.size) (h1:=a.one) P (L) fun a3 R S=>Pl 1<|nt<|sq<|sg<|Pl 3<|?_
 have r:=ud Q S O
 have i:=aD N r
 have s:=aD o i
 have t:=aD g s
 refine bl 22 ((K != 0)) (fun b=>?_) (fun b=>?_)
 have T:=aB b
 refine Pl 5<|nt<|c1<|sg<|Pl 2<|nt<|rt<|tr<|rr (.tuple #[.slice none 0 0,.int .i64 1])<|?_
 refine fh (iQ f b) ?_
 exact⟨rfl,t⟩
 have T:=ah b
 refine L1<|cj (hz:=(by rw[a.size];exact aV)) R<|?_
 refine L1<|cj (ub i p)<|?_
 refine L1<|Oc<|m1 (fN (A:=e) (B:=M) (aF.upd a r aE) (aF.old l s)) fun a4 u=>Pl 2<|nt<|?_
 have v:=aD t u
 refine cb ((!(decide (e=M)))) (fun j=>?_) (fun j=>?_)
 have d:(decide (e=M))=false:=by simpa using j
 have U:=of_decide_eq_false d
 refine sg<|Pl 2<|nt<|rt<|tr<|rr (.tuple #[.slice none 0 0,.int .i64 1])<|?_
 refine fh (iT f d) ?_
 exact⟨rfl,v⟩
 have d:(decide (e=M))=true:=by simpa using j
 have U:=of_decide_eq_true d
 refine bK<|sg<|Pl 3<|nt<|rt<|rr (.tuple #[.slice H ((cw dir M).length) I,.int .i64 0])<|?_
 refine fh (nW f b d) ?_
 exact⟨_,rfl,(aL.weaken (ak n (aD i u) (fun x hx=>az) (fun _ _ h=>h)) g.size),v⟩
theorem jq{m:Bool}{cs:Array Value}{M:aT}{w:World}{dir:Int}(h:aF m w cs.toList M)(hf:aW M)(hlen:(cc dir M).length≤1048576) : Calls Tryz.prog 65 #[.int .i64 dir,.agg cs] w (ek (bW fg cc dir M) w):=by
 have hM:=h
 obtain⟨vw,vb,vd,vr,vo,h0,hw,hbt,hd,hr,ho,hR⟩:=h
 obtain rfl:cs=(bA M vw vb vd vr vo).toArray:=by apply Array.toList_inj.1;simpa using h0
 clear h0
 obtain⟨Aw,kw,rfl,_,_⟩:=hw.shape
 obtain⟨Ab,kb,rfl,_,_⟩:=hbt.shape
 obtain⟨Ad,kd,rfl,_,_⟩:=hd.shape
 obtain⟨Ar,kr,rfl,_,_⟩:=hr.shape
 obtain⟨Ao,ko,rfl,_,_⟩:=ho.shape
 obtain⟨q0,q1,q2,q3,q4,q5,q6,q7,q8,q9,y,z,C,D,E,F,G⟩:=hR
 simp only[B8,dA] at q0 q1 q2 q3 q4 q5 q6 q7 q8 q9 y z C D E F G
 refine en 29 Tryz.func65 rfl<|sg<|L0<|cI (mG M.code M.fail M.addr M.count M.value M.and_ M.or_ M.addr2 M.sub M.status M.events M.messages (.slice Aw M.words.length kw) (.slice Ab M.bits.length kb) (.slice Ad M.data.length kd) (.slice Ar M.recs.length kr) M.mei M.kind M.level M.more M.next (.slice Ao M.objects.length ko)) fun V W X k g=>Pl 2<|ng<|Pl 1<|L0<|cj k<|?_
 have l:=aF.old hM g
 refine L0<|Oc<|dX (sn (dir:=dir) l hf) fun H I J n Y Z o=>Pl 1<|ng<|Pl 2<|?_
 have p:=ub o k
 refine L0<|aP p 0<|Pl 1<|?_
 refine pr (fg dir M.code (cc dir M)) fun e K f=>?_
 have q:Calls _ _ _ _ (dC (fg dir M.code (cc dir M)) J):=jx (dir:=dir) (c:=M.code) q0 (n).rd hlen
 rw[f] at q
 refine L0<|Oc<|e2 (q) fun L a0 a N=>Pl 3<|L0<|bN mZ fun a1 a2 O P Q=>L0<|bi (hz:=(by rw[a.size];exact aV)) (hv:=a.size) (h1:=a.one) P (L) fun a3 R S=>Pl 1<|nt<|sq<|sg<|Pl 3<|?_
 have r:=ud Q S O
 have i:=aD N r
 have s:=aD o i
 have t:=aD g s
 refine bl 22 ((K != 0)) (fun b=>?_) (fun b=>?_)
 have T:=aB b
 refine Pl 5<|nt<|c1<|sg<|Pl 2<|nt<|rt<|tr<|rr (.tuple #[.slice none 0 0,.int .i64 1])<|?_
 refine fh (iQ f b) ?_
 exact⟨rfl,t⟩
 have T:=ah b
 refine L1<|cj (hz:=(by rw[a.size];exact aV)) R<|?_
 refine L1<|cj (ub i p)<|?_
 refine L1<|Oc<|m1 (fN (A:=e) (B:=M) (aF.upd a r aE) (aF.old l s)) fun a4 u=>Pl 2<|nt<|?_
 have v:=aD t u
 refine cb ((!(decide (e=M)))) (fun j=>?_) (fun j=>?_)
 have d:(decide (e=M))=false:=by simpa using j
 have U:=of_decide_eq_false d
 refine sg<|Pl 2<|nt<|rt<|tr<|rr (.tuple #[.slice none 0 0,.int .i64 1])<|?_
 refine fh (iT f d) ?_
 exact⟨rfl,v⟩
 have d:(decide (e=M))=true:=by simpa using j
 have U:=of_decide_eq_true d
 refine bK<|sg<|Pl 3<|nt<|rt<|rr (.tuple #[.slice H ((cc dir M).length) I,.int .i64 0])<|?_
 refine fh (nW f b d) ?_
 exact⟨_,rfl,(aL.weaken (ak n (aD i u) (fun x hx=>az) (fun _ _ h=>h)) g.size),v⟩
open Go.RowKit
def fB:Nat→Int→aT→Option (List Int)
  | 1,dir,M=>bW f9 bH dir M
  | 2,dir,M=>bW fP bz dir M
  | 3,dir,M=>bW fO bE dir M
  | 4,dir,M=>bW fg cc dir M
  | 5,dir,M=>bW gO cw dir M
  | _,_,_=>none
def ci (dir:Int)(M:aT) : Option (List Int) :=
  if M.fail != 0 then (if dir != 1 then none else j3 M)
  else match fB (iR M.code) dir M with
    | none=>none
    | some l=>if decide (253≤(l.length:Int)) then none else some ([M.code]++l)
theorem oB:∀ (L:List Obj),(∀ r,r∈L→r.value.length≤1024)→(eN L).length≤1026*L.length
  | [],_=>by simp[eN]
  | r :: L,h=>by
    have h1:=h r (by simp)
    have h2:=oB L fun x hx=>h x (by simp[hx])
    simp only[eN,List.length_append,List.length_cons,List.length_nil]
    omega
theorem ke(dir c:Int) : ∀ (L:List dY),(∀ r,r∈L→r.words.length≤1024)→(bL dir c L).length≤2064*L.length
  | [],_=>by simp[bL]
  | r :: L,h=>by
    have h1:=h r (by simp)
    have h2:=ke dir c L fun x hx=>h x (by simp[hx])
    simp only[bL,eA]
    repeat' split
    all_goals simp only[List.length_append,List.length_cons,List.length_nil,av]
    all_goals omega
theorem eF{M:aT}(hf:aW M)(dir:Int) : (bH dir M).length≤1048576∧(bz dir M).length≤1048576∧(bE dir M).length≤1048576∧(cw dir M).length≤1048576∧(cc dir M).length≤1048576:=by
  have hp:(dy M.bits).length≤1024:=by
    have:=hf.bits
    simp only[dy,List.length_map,List.length_range,e8]
    omega
  have h1:=hf.words
  have h2:=hf.data
  have h3:=hf.objects
  have h4:=oB M.objects hf.objv
  have h5:=ke dir M.code M.recs hf.recw
  have h6:=hf.recs
  refine⟨?_,?_,?_,?_,?_⟩
  · unfold bH
    repeat' split
    all_goals simp only[List.length_append,List.length_cons,List.length_nil,av]
    all_goals omega
  · unfold bz
    repeat' split
    all_goals simp only[List.length_append,List.length_cons,List.length_nil,av]
    all_goals omega
  · unfold bE
    repeat' split
    all_goals simp only[List.length_append,List.length_cons,List.length_nil,av]
    all_goals omega
  · unfold cw
    repeat' split
    all_goals simp only[List.length_append,List.length_cons,List.length_nil]
    all_goals omega
  · unfold cc
    simp only[List.length_set,List.length_append,List.length_cons,List.length_nil]
    omega
theorem eT{m:Bool}{cs:Array Value}{M:aT}{w:World}{dir:Int}(h:aF m w cs.toList M)(hf:aW M) : Calls Tryz.prog 40 #[.int .i64 dir,.agg cs] w (ek (ci dir M) w):=by
 have hM:=h
 obtain⟨vw,vb,vd,vr,vo,h0,hw,hbt,hd,hr,ho,hR⟩:=h
 obtain rfl:cs=(bA M vw vb vd vr vo).toArray:=by apply Array.toList_inj.1;simpa using h0
 clear h0
 obtain⟨Aw,kw,rfl,_,_⟩:=hw.shape
 obtain⟨Ab,kb,rfl,_,_⟩:=hbt.shape
 obtain⟨Ad,kd,rfl,_,_⟩:=hd.shape
 obtain⟨Ar,kr,rfl,_,_⟩:=hr.shape
 obtain⟨Ao,ko,rfl,_,_⟩:=ho.shape
 obtain⟨q0,q1,q2,q3,q4,q5,q6,q7,q8,q9,aj,al,c,am,an,ao,aq⟩:=hR
 simp only[B8,dA] at q0 q1 q2 q3 q4 q5 q6 q7 q8 q9 aj al c am an ao aq
 refine en 47 Tryz.func40 rfl<|sg<|L0<|cI (mG M.code M.fail M.addr M.count M.value M.and_ M.or_ M.addr2 M.sub M.status M.events M.messages (.slice Aw M.words.length kw) (.slice Ab M.bits.length kb) (.slice Ad M.data.length kd) (.slice Ar M.recs.length kr) M.mei M.kind M.level M.more M.next (.slice Ao M.objects.length ko)) fun cm f cn d b=>Pl 2<|nt<|sq<|sg<|Pl 1<|L0<|aP d 1<|Pl 1<|nl<|?_
 refine tn<|cb ((M.fail != 0)) (fun a=>?_) (fun a=>?_)
 have ar:=aB a
 refine sq<|sg<|Pl 2<|nt<|cb ((dir != 1)) (fun c=>?_) (fun c=>?_)
 have aw:=aB c
 refine sg<|Pl 2<|nt<|rt<|tr<|tr<|rr (.tuple #[.slice none 0 0,.int .i64 1])<|?_
 have hs:ci dir M=none:=by
   unfold ci
   (try simp only[a,c,bs,if_true,if_false,decide_true,decide_false,reduceIte])
   all_goals rfl
 refine de hs ?_
 exact⟨rfl,b⟩
 have aw:=ah c
 refine bK<|sg<|L0<|cj d<|?_
 rcases hwr:j3 M with _|lw
 have E:=mi (aF.old hM b)
 rw[hwr] at E
 refine L0<|Oc<|m1 E fun co ax=>Pl 4<|nt<|rt<|tr<|rr (.tuple #[.slice none 0 0,.int .i64 1])<|?_
 have hs:ci dir M=none:=by
   unfold ci
   (try simp only[a,c,bs,if_true,if_false,decide_true,decide_false,hwr,reduceIte])
   all_goals rfl
 refine de hs ?_
 exact⟨rfl,(aD b ax)⟩
 have F:=mi (aF.old hM b)
 rw[hwr] at F
 refine L0<|Oc<|dX F fun ay aA cp aC cq cr aE=>Pl 4<|nt<|rt<|tr<|rr (.tuple #[.slice ay lw.length aA,.int .i64 0])<|?_
 have hs:ci dir M=(some lw):=by
   unfold ci
   (try simp only[a,c,bs,if_true,if_false,decide_true,decide_false,hwr,reduceIte])
   all_goals rfl
 refine de hs ?_
 exact⟨_,rfl,(aL.weaken aC b.size),(aD b aE)⟩
 have ar:=ah a
 refine bK<|sg<|Pl 1<|L0<|aP d 0<|?_
 rcases je M.code with⟨hk,hkf⟩|⟨hk,hkf⟩|⟨hk,hkf⟩|⟨hk,hkf⟩|⟨hk,hkf⟩|⟨hk,hkf⟩
 have G:=eM (x:=M.code) (w:=f)
 rw[hkf] at G
 refine L0<|Oc<|m1 G fun ct aG=>Pl 3<|L0<|bN #[.nilFunc,.nilFunc] fun cu cv aH aJ aK=>L0<|bi aJ #[.func (.func 58) #[] #[],.func (.func 59) #[] #[]] fun cx aM aN=>Pl 1<|nt<|sq<|sg<|Pl 2<|nt<|c0<|?_
 refine bK<|sg<|Pl 1<|L0<|aP aM 1<|Pl 1<|?_
 have H:=aD aG (ud aK aN aH)
 have I:=ub H d
 refine L0<|cj I<|?_
 have n:=aD b H
 rcases hwr:bW f9 bH dir M with _|lw
 have J:=jn (dir:=dir) (aF.old hM n) hf (eF hf dir).1
 rw[hwr] at J
 refine L0<|fj #[] #[] (args:=#[.int .i64 dir,.agg (mG M.code M.fail M.addr M.count M.value M.and_ M.or_ M.addr2 M.sub M.status M.events M.messages (.slice Aw M.words.length kw) (.slice Ab M.bits.length kb) (.slice Ad M.data.length kd) (.slice Ar M.recs.length kr) M.mei M.kind M.level M.more M.next (.slice Ao M.objects.length ko))])<|m1 J fun cy aQ=>Pl 5<|nt<|sq<|sg<|Pl 7<|nt<|c1<|sg<|Pl 2<|nl<|?_
 refine tn<|rt<|tr<|rr (.tuple #[.slice none 0 0,.int .i64 1])<|?_
 have hs:ci dir M=none:=by
   unfold ci
   (try simp only[a,bs,if_true,if_false,decide_true,decide_false,hkf,fB,hwr,reduceIte])
   all_goals rfl
 refine de hs ?_
 exact⟨rfl,(aD n aQ)⟩
 have K:=jn (dir:=dir) (aF.old hM n) hf (eF hf dir).1
 rw[hwr] at K
 refine L0<|fj #[] #[] (args:=#[.int .i64 dir,.agg (mG M.code M.fail M.addr M.count M.value M.and_ M.or_ M.addr2 M.sub M.status M.events M.messages (.slice Aw M.words.length kw) (.slice Ab M.bits.length kb) (.slice Ad M.data.length kd) (.slice Ar M.recs.length kr) M.mei M.kind M.level M.more M.next (.slice Ao M.objects.length ko))])<|dX K fun cz cA cB aR cC cD L=>Pl 5<|nt<|sq<|sg<|Pl 7<|nt<|?_
 have s:=aD n L
 refine cb ((decide (253≤((lw.length:Nat) : Int)))) (fun g=>?_) (fun g=>?_)
 have aS:=of_decide_eq_true g
 refine sg<|Pl 2<|nt<|rt<|tr<|rr (.tuple #[.slice none 0 0,.int .i64 1])<|?_
 have hs:ci dir M=none:=by
   unfold ci
   (try simp only[a,g,bs,if_true,if_false,decide_true,decide_false,hkf,fB,hwr,reduceIte])
   all_goals rfl
 refine de hs ?_
 exact⟨rfl,s⟩
 have aS:=of_decide_eq_false g
 refine bK<|sg<|Pl 1<|?_
 refine L0<|aP (ub L I) 0<|L0<|cR (m:=1) (e:=5) #[.int .u8 M.code] fun cE cF aU aV t=>?_
 have N:=cW aU (xs:=[M.code]) (by as_aux_lemma=>kernel_rfl) (ap (by omega) aO) (by(try simp only[List.length_cons,List.length_nil]);omega) aV
 refine Pl 1<|?_
 refine L0<|cg aX (xs:=([M.code])) (ys:=lw) (.int .u8 0) 1 N ((ak aR t (fun x hx=>az) (fun _ _ h=>h))).rd (by(try simp only[List.length_append,List.length_cons,List.length_nil,av]);omega) t.size fun aY aZ cG b0 b1=>Pl 2<|nt<|rt<|rr (.tuple #[.slice aY (([M.code]++lw).length) aZ,.int .i64 0])<|?_
 have hs:ci dir M=(some ([M.code]++lw)):=by
   unfold ci
   (try simp only[a,g,bs,if_true,if_false,decide_true,decide_false,hkf,fB,hwr,reduceIte])
   all_goals rfl
 refine de hs ?_
 exact⟨_,rfl,(aL.weaken b0 s.size),(aD s (ut t b1 (ai (aI N lr) au)))⟩
 have O:=eM (x:=M.code) (w:=f)
 rw[hkf] at O
 refine L0<|Oc<|m1 O fun cH b2=>Pl 3<|L0<|bN #[.nilFunc,.nilFunc] fun cJ cK b3 b4 b5=>L0<|bi b4 #[.func (.func 60) #[] #[],.func (.func 61) #[] #[]] fun cL b6 b7=>Pl 1<|nt<|sq<|sg<|Pl 2<|nt<|c0<|?_
 refine bK<|sg<|Pl 1<|L0<|aP b6 1<|Pl 1<|?_
 have P:=aD b2 (ud b5 b7 b3)
 have Q:=ub P d
 refine L0<|cj Q<|?_
 have o:=aD b P
 rcases hwr:bW fP bz dir M with _|lw
 have R:=kA (dir:=dir) (aF.old hM o) hf (eF hf dir).2.1
 rw[hwr] at R
 refine L0<|fj #[] #[] (args:=#[.int .i64 dir,.agg (mG M.code M.fail M.addr M.count M.value M.and_ M.or_ M.addr2 M.sub M.status M.events M.messages (.slice Aw M.words.length kw) (.slice Ab M.bits.length kb) (.slice Ad M.data.length kd) (.slice Ar M.recs.length kr) M.mei M.kind M.level M.more M.next (.slice Ao M.objects.length ko))])<|m1 R fun cM b8=>Pl 5<|nt<|sq<|sg<|Pl 7<|nt<|c1<|sg<|Pl 2<|nl<|?_
 refine tn<|rt<|tr<|rr (.tuple #[.slice none 0 0,.int .i64 1])<|?_
 have hs:ci dir M=none:=by
   unfold ci
   (try simp only[a,bs,if_true,if_false,decide_true,decide_false,hkf,fB,hwr,reduceIte])
   all_goals rfl
 refine de hs ?_
 exact⟨rfl,(aD o b8)⟩
 have S:=kA (dir:=dir) (aF.old hM o) hf (eF hf dir).2.1
 rw[hwr] at S
 refine L0<|fj #[] #[] (args:=#[.int .i64 dir,.agg (mG M.code M.fail M.addr M.count M.value M.and_ M.or_ M.addr2 M.sub M.status M.events M.messages (.slice Aw M.words.length kw) (.slice Ab M.bits.length kb) (.slice Ad M.data.length kd) (.slice Ar M.recs.length kr) M.mei M.kind M.level M.more M.next (.slice Ao M.objects.length ko))])<|dX S fun cN cO cP b9 cQ cS T=>Pl 5<|nt<|sq<|sg<|Pl 7<|nt<|?_
 have u:=aD o T
 refine cb ((decide (253≤((lw.length:Nat) : Int)))) (fun i=>?_) (fun i=>?_)
 have ba:=of_decide_eq_true i
 refine sg<|Pl 2<|nt<|rt<|tr<|rr (.tuple #[.slice none 0 0,.int .i64 1])<|?_
 have hs:ci dir M=none:=by
   unfold ci
   (try simp only[a,i,bs,if_true,if_false,decide_true,decide_false,hkf,fB,hwr,reduceIte])
   all_goals rfl
 refine de hs ?_
 exact⟨rfl,u⟩
 have ba:=of_decide_eq_false i
 refine bK<|sg<|Pl 1<|?_
 refine L0<|aP (ub T Q) 0<|L0<|cR (m:=1) (e:=5) #[.int .u8 M.code] fun cT cU bb bc v=>?_
 have U:=cW bb (xs:=[M.code]) (by as_aux_lemma=>kernel_rfl) (ap (by omega) aO) (by(try simp only[List.length_cons,List.length_nil]);omega) bc
 refine Pl 1<|?_
 refine L0<|cg aX (xs:=([M.code])) (ys:=lw) (.int .u8 0) 1 U ((ak b9 v (fun x hx=>az) (fun _ _ h=>h))).rd (by(try simp only[List.length_append,List.length_cons,List.length_nil,av]);omega) v.size fun bd be cV bf bg=>Pl 2<|nt<|rt<|rr (.tuple #[.slice bd (([M.code]++lw).length) be,.int .i64 0])<|?_
 have hs:ci dir M=(some ([M.code]++lw)):=by
   unfold ci
   (try simp only[a,i,bs,if_true,if_false,decide_true,decide_false,hkf,fB,hwr,reduceIte])
   all_goals rfl
 refine de hs ?_
 exact⟨_,rfl,(aL.weaken bf u.size),(aD u (ut v bg (ai (aI U lr) au)))⟩
 have V:=eM (x:=M.code) (w:=f)
 rw[hkf] at V
 refine L0<|Oc<|m1 V fun cX bh=>Pl 3<|L0<|bN #[.nilFunc,.nilFunc] fun cY cZ bj bk bl=>L0<|bi bk #[.func (.func 62) #[] #[],.func (.func 63) #[] #[]] fun d0 bm bn=>Pl 1<|nt<|sq<|sg<|Pl 2<|nt<|c0<|?_
 refine bK<|sg<|Pl 1<|L0<|aP bm 1<|Pl 1<|?_
 have W:=aD bh (ud bl bn bj)
 have X:=ub W d
 refine L0<|cj X<|?_
 have p:=aD b W
 rcases hwr:bW fO bE dir M with _|lw
 have Y:=jT (dir:=dir) (aF.old hM p) hf (eF hf dir).2.2.1
 rw[hwr] at Y
 refine L0<|fj #[] #[] (args:=#[.int .i64 dir,.agg (mG M.code M.fail M.addr M.count M.value M.and_ M.or_ M.addr2 M.sub M.status M.events M.messages (.slice Aw M.words.length kw) (.slice Ab M.bits.length kb) (.slice Ad M.data.length kd) (.slice Ar M.recs.length kr) M.mei M.kind M.level M.more M.next (.slice Ao M.objects.length ko))])<|m1 Y fun d1 bo=>Pl 5<|nt<|sq<|sg<|Pl 7<|nt<|c1<|sg<|Pl 2<|nl<|?_
 refine tn<|rt<|tr<|rr (.tuple #[.slice none 0 0,.int .i64 1])<|?_
 have hs:ci dir M=none:=by
   unfold ci
   (try simp only[a,bs,if_true,if_false,decide_true,decide_false,hkf,fB,hwr,reduceIte])
   all_goals rfl
 refine de hs ?_
 exact⟨rfl,(aD p bo)⟩
 have Z:=jT (dir:=dir) (aF.old hM p) hf (eF hf dir).2.2.1
 rw[hwr] at Z
 refine L0<|fj #[] #[] (args:=#[.int .i64 dir,.agg (mG M.code M.fail M.addr M.count M.value M.and_ M.or_ M.addr2 M.sub M.status M.events M.messages (.slice Aw M.words.length kw) (.slice Ab M.bits.length kb) (.slice Ad M.data.length kd) (.slice Ar M.recs.length kr) M.mei M.kind M.level M.more M.next (.slice Ao M.objects.length ko))])<|dX Z fun d2 d3 d4 bp d5 d6 a0=>Pl 5<|nt<|sq<|sg<|Pl 7<|nt<|?_
 have y:=aD p a0
 refine cb ((decide (253≤((lw.length:Nat) : Int)))) (fun j=>?_) (fun j=>?_)
 have bq:=of_decide_eq_true j
 refine sg<|Pl 2<|nt<|rt<|tr<|rr (.tuple #[.slice none 0 0,.int .i64 1])<|?_
 have hs:ci dir M=none:=by
   unfold ci
   (try simp only[a,j,bs,if_true,if_false,decide_true,decide_false,hkf,fB,hwr,reduceIte])
   all_goals rfl
 refine de hs ?_
 exact⟨rfl,y⟩
 have bq:=of_decide_eq_false j
 refine bK<|sg<|Pl 1<|?_
 refine L0<|aP (ub a0 X) 0<|L0<|cR (m:=1) (e:=5) #[.int .u8 M.code] fun d7 d8 br bt z=>?_
 have a1:=cW br (xs:=[M.code]) (by as_aux_lemma=>kernel_rfl) (ap (by omega) aO) (by(try simp only[List.length_cons,List.length_nil]);omega) bt
 refine Pl 1<|?_
 refine L0<|cg aX (xs:=([M.code])) (ys:=lw) (.int .u8 0) 1 a1 ((ak bp z (fun x hx=>az) (fun _ _ h=>h))).rd (by(try simp only[List.length_append,List.length_cons,List.length_nil,av]);omega) z.size fun bu bv d9 bw bx=>Pl 2<|nt<|rt<|rr (.tuple #[.slice bu (([M.code]++lw).length) bv,.int .i64 0])<|?_
 have hs:ci dir M=(some ([M.code]++lw)):=by
   unfold ci
   (try simp only[a,j,bs,if_true,if_false,decide_true,decide_false,hkf,fB,hwr,reduceIte])
   all_goals rfl
 refine de hs ?_
 exact⟨_,rfl,(aL.weaken bw y.size),(aD y (ut z bx (ai (aI a1 lr) au)))⟩
 have a2:=eM (x:=M.code) (w:=f)
 rw[hkf] at a2
 refine L0<|Oc<|m1 a2 fun da bB=>Pl 3<|L0<|bN #[.nilFunc,.nilFunc] fun db dc bC bD bF=>L0<|bi bD #[.func (.func 64) #[] #[],.func (.func 65) #[] #[]] fun dd bG bI=>Pl 1<|nt<|sq<|sg<|Pl 2<|nt<|c0<|?_
 refine bK<|sg<|Pl 1<|L0<|aP bG 1<|Pl 1<|?_
 have a3:=aD bB (ud bF bI bC)
 have a4:=ub a3 d
 refine L0<|cj a4<|?_
 have q:=aD b a3
 rcases hwr:bW fg cc dir M with _|lw
 have a5:=jq (dir:=dir) (aF.old hM q) hf (eF hf dir).2.2.2.2
 rw[hwr] at a5
 refine L0<|fj #[] #[] (args:=#[.int .i64 dir,.agg (mG M.code M.fail M.addr M.count M.value M.and_ M.or_ M.addr2 M.sub M.status M.events M.messages (.slice Aw M.words.length kw) (.slice Ab M.bits.length kb) (.slice Ad M.data.length kd) (.slice Ar M.recs.length kr) M.mei M.kind M.level M.more M.next (.slice Ao M.objects.length ko))])<|m1 a5 fun df bJ=>Pl 5<|nt<|sq<|sg<|Pl 7<|nt<|c1<|sg<|Pl 2<|nl<|?_
 refine tn<|rt<|tr<|rr (.tuple #[.slice none 0 0,.int .i64 1])<|?_
 have hs:ci dir M=none:=by
   unfold ci
   (try simp only[a,bs,if_true,if_false,decide_true,decide_false,hkf,fB,hwr,reduceIte])
   all_goals rfl
 refine de hs ?_
 exact⟨rfl,(aD q bJ)⟩
 have a6:=jq (dir:=dir) (aF.old hM q) hf (eF hf dir).2.2.2.2
 rw[hwr] at a6
 refine L0<|fj #[] #[] (args:=#[.int .i64 dir,.agg (mG M.code M.fail M.addr M.count M.value M.and_ M.or_ M.addr2 M.sub M.status M.events M.messages (.slice Aw M.words.length kw) (.slice Ab M.bits.length kb) (.slice Ad M.data.length kd) (.slice Ar M.recs.length kr) M.mei M.kind M.level M.more M.next (.slice Ao M.objects.length ko))])<|dX a6 fun dg dh di bL dj dk a7=>Pl 5<|nt<|sq<|sg<|Pl 7<|nt<|?_
 have A:=aD q a7
 refine cb ((decide (253≤((lw.length:Nat) : Int)))) (fun k=>?_) (fun k=>?_)
 have bM:=of_decide_eq_true k
 refine sg<|Pl 2<|nt<|rt<|tr<|rr (.tuple #[.slice none 0 0,.int .i64 1])<|?_
 have hs:ci dir M=none:=by
   unfold ci
   (try simp only[a,k,bs,if_true,if_false,decide_true,decide_false,hkf,fB,hwr,reduceIte])
   all_goals rfl
 refine de hs ?_
 exact⟨rfl,A⟩
 have bM:=of_decide_eq_false k
 refine bK<|sg<|Pl 1<|?_
 refine L0<|aP (ub a7 a4) 0<|L0<|cR (m:=1) (e:=5) #[.int .u8 M.code] fun dl dm bO bP B=>?_
 have a8:=cW bO (xs:=[M.code]) (by as_aux_lemma=>kernel_rfl) (ap (by omega) aO) (by(try simp only[List.length_cons,List.length_nil]);omega) bP
 refine Pl 1<|?_
 refine L0<|cg aX (xs:=([M.code])) (ys:=lw) (.int .u8 0) 1 a8 ((ak bL B (fun x hx=>az) (fun _ _ h=>h))).rd (by(try simp only[List.length_append,List.length_cons,List.length_nil,av]);omega) B.size fun bQ bR dn bS bT=>Pl 2<|nt<|rt<|rr (.tuple #[.slice bQ (([M.code]++lw).length) bR,.int .i64 0])<|?_
 have hs:ci dir M=(some ([M.code]++lw)):=by
   unfold ci
   (try simp only[a,k,bs,if_true,if_false,decide_true,decide_false,hkf,fB,hwr,reduceIte])
   all_goals rfl
 refine de hs ?_
 exact⟨_,rfl,(aL.weaken bS A.size),(aD A (ut B bT (ai (aI a8 lr) au)))⟩
 have a9:=eM (x:=M.code) (w:=f)
 rw[hkf] at a9
 refine L0<|Oc<|m1 a9 fun dp bU=>Pl 3<|L0<|bN #[.nilFunc,.nilFunc] fun dq dr bV bX bY=>L0<|bi bX #[.func (.func 66) #[] #[],.func (.func 67) #[] #[]] fun ds bZ c2=>Pl 1<|nt<|sq<|sg<|Pl 2<|nt<|c0<|?_
 refine bK<|sg<|Pl 1<|L0<|aP bZ 1<|Pl 1<|?_
 have aa:=aD bU (ud bY c2 bV)
 have ab:=ub aa d
 refine L0<|cj ab<|?_
 have r:=aD b aa
 rcases hwr:bW gO cw dir M with _|lw
 have ac:=mp (dir:=dir) (aF.old hM r) hf (eF hf dir).2.2.2.1
 rw[hwr] at ac
 refine L0<|fj #[] #[] (args:=#[.int .i64 dir,.agg (mG M.code M.fail M.addr M.count M.value M.and_ M.or_ M.addr2 M.sub M.status M.events M.messages (.slice Aw M.words.length kw) (.slice Ab M.bits.length kb) (.slice Ad M.data.length kd) (.slice Ar M.recs.length kr) M.mei M.kind M.level M.more M.next (.slice Ao M.objects.length ko))])<|m1 ac fun dt c3=>Pl 5<|nt<|sq<|sg<|Pl 7<|nt<|c1<|sg<|Pl 2<|nl<|?_
 refine tn<|rt<|tr<|rr (.tuple #[.slice none 0 0,.int .i64 1])<|?_
 have hs:ci dir M=none:=by
   unfold ci
   (try simp only[a,bs,if_true,if_false,decide_true,decide_false,hkf,fB,hwr,reduceIte])
   all_goals rfl
 refine de hs ?_
 exact⟨rfl,(aD r c3)⟩
 have ad:=mp (dir:=dir) (aF.old hM r) hf (eF hf dir).2.2.2.1
 rw[hwr] at ad
 refine L0<|fj #[] #[] (args:=#[.int .i64 dir,.agg (mG M.code M.fail M.addr M.count M.value M.and_ M.or_ M.addr2 M.sub M.status M.events M.messages (.slice Aw M.words.length kw) (.slice Ab M.bits.length kb) (.slice Ad M.data.length kd) (.slice Ar M.recs.length kr) M.mei M.kind M.level M.more M.next (.slice Ao M.objects.length ko))])<|dX ad fun du dv dw c4 dx dy ae=>Pl 5<|nt<|sq<|sg<|Pl 7<|nt<|?_
 have C:=aD r ae
 refine cb ((decide (253≤((lw.length:Nat) : Int)))) (fun l=>?_) (fun l=>?_)
 have c5:=of_decide_eq_true l
 refine sg<|Pl 2<|nt<|rt<|tr<|rr (.tuple #[.slice none 0 0,.int .i64 1])<|?_
 have hs:ci dir M=none:=by
   unfold ci
   (try simp only[a,l,bs,if_true,if_false,decide_true,decide_false,hkf,fB,hwr,reduceIte])
   all_goals rfl
 refine de hs ?_
 exact⟨rfl,C⟩
 have c5:=of_decide_eq_false l
 refine bK<|sg<|Pl 1<|?_
 refine L0<|aP (ub ae ab) 0<|L0<|cR (m:=1) (e:=5) #[.int .u8 M.code] fun dz dB c6 c7 D=>?_
 have af:=cW c6 (xs:=[M.code]) (by as_aux_lemma=>kernel_rfl) (ap (by omega) aO) (by(try simp only[List.length_cons,List.length_nil]);omega) c7
 refine Pl 1<|?_
 refine L0<|cg aX (xs:=([M.code])) (ys:=lw) (.int .u8 0) 1 af ((ak c4 D (fun x hx=>az) (fun _ _ h=>h))).rd (by(try simp only[List.length_append,List.length_cons,List.length_nil,av]);omega) D.size fun c8 c9 dC ca cd=>Pl 2<|nt<|rt<|rr (.tuple #[.slice c8 (([M.code]++lw).length) c9,.int .i64 0])<|?_
 have hs:ci dir M=(some ([M.code]++lw)):=by
   unfold ci
   (try simp only[a,l,bs,if_true,if_false,decide_true,decide_false,hkf,fB,hwr,reduceIte])
   all_goals rfl
 refine de hs ?_
 exact⟨_,rfl,(aL.weaken ca C.size),(aD C (ut D cd (ai (aI af lr) au)))⟩
 have ag:=eM (x:=M.code) (w:=f)
 rw[hkf] at ag
 refine L0<|Oc<|m1 ag fun dD ce=>Pl 3<|L0<|bN #[.nilFunc,.nilFunc] fun dE dF cf ch ck=>L0<|bi ch #[.nilFunc,.nilFunc] fun dG dH cl=>Pl 1<|nt<|sq<|sg<|Pl 2<|nt<|c1<|?_
 refine sg<|Pl 2<|nt<|rt<|tr<|rr (.tuple #[.slice none 0 0,.int .i64 1])<|?_
 have hs:ci dir M=none:=by
   unfold ci
   (try simp only[a,bs,if_true,if_false,decide_true,decide_false,hkf,fB,reduceIte])
   all_goals rfl
 refine de hs ?_
 exact⟨rfl,(aD b (aD ce (ud ck cl cf)))⟩
open Go.RowKit
theorem i5{x y:aT × Int}(h:x=y){w:World}{e:Ending}{w':World}(k:dC y w e w') : dC x w e w':=by rw[h];exact k
def gy:Nat→Int→List Int→aT × Int
  | 1,dir,b=>aq aN dir (b.getD 0 0) (b.drop 1)
  | 2,dir,b=>aq bG dir (b.getD 0 0) (b.drop 1)
  | 3,dir,b=>aq aQ dir (b.getD 0 0) (b.drop 1)
  | 4,dir,b=>aq b6 dir (b.getD 0 0) (b.drop 1)
  | 5,dir,b=>aq bu dir (b.getD 0 0) (b.drop 1)
  | _,_,_=>(aT.zero,4)
def cy (dir:Int)(b:List Int) : aT × Int :=
  if dir != 0&&dir != 1 then (aT.zero,1)
  else if (b.length:Int)==0 then (aT.zero,2)
  else if decide (253<(b.length:Int)) then (aT.zero,3)
  else if decide (128≤b.getD 0 0)&&dir==1 then eX b
  else gy (iR (b.getD 0 0)) dir b
theorem pB{m:Bool}{A:Option Addr}{cp:Nat}{b:List Int}{w:World}{dir:Int}(hsl:aS m w (.slice A b.length cp) b)(hb:b.length≤1048576) :
    Calls Tryz.prog 162 #[.int .i64 dir,.slice A b.length cp] w (dC (cy dir b) w):=by
 have hln:(b.length:Int)≤1048576:=by omega
 refine en 60 Tryz.func162 rfl<|sg<|L0<|bN mZ fun dk t h a f=>Pl 1<|nt<|sq<|bk<|sg<|Pl 3<|cu 3 [11] 14 (((dir != 0)&&(dir != 1))) (fun K a2=>?_) ?_
 refine bl 11 ((dir != 0)) (fun u=>?_) (fun u=>?_)
 have bZ:=aB u
 exact Pl 3<|ce a2 (dir != 1) (by rw[u];rfl)
 have bZ:=ah u
 exact Pl 3<|ce a2 false (by rw[u];rfl)
 refine Pl 1<|nt<|cb (((dir != 0)&&(dir != 1))) (fun d=>?_) (fun d=>?_)
 have a3:=(bM d).1
 have a4:=(bM d).2
 have dl:=aB a3
 have dm:=aB a4
 refine sg<|Pl 1<|L0<|bi a mZ fun dn c2 c3=>Pl 1<|nt<|rt<|br<|tr<|d9 c2 (.int .i64 1)<|?_
 have hs:cy dir b=(aT.zero,1):=by
   unfold cy
   (try simp only[d,a3,a4,bs,if_true,if_false,decide_true,decide_false,gy,reduceIte])
   all_goals rfl
 refine i5 hs ?_
 exact bV (ud f c3 h)
 refine sg<|Pl 4<|nt<|cb ((((b.length:Nat) : Int)==0)) (fun e=>?_) (fun e=>?_)
 have c4:=ax e
 refine sg<|Pl 1<|L0<|bi a mZ fun dp c5 c6=>Pl 1<|nt<|rt<|br<|tr<|d9 c5 (.int .i64 2)<|?_
 have hs:cy dir b=(aT.zero,2):=by
   unfold cy
   (try simp only[d,e,bs,if_true,if_false,decide_true,decide_false,gy,reduceIte])
   all_goals rfl
 refine i5 hs ?_
 exact bV (ud f c6 h)
 have c4:=aA e
 refine sg<|Pl 4<|nt<|cb ((decide (253<((b.length:Nat) : Int)))) (fun g=>?_) (fun g=>?_)
 have c7:=of_decide_eq_true g
 refine sg<|Pl 1<|L0<|bi a mZ fun dq c8 c9=>Pl 1<|nt<|rt<|br<|tr<|d9 c8 (.int .i64 3)<|?_
 have hs:cy dir b=(aT.zero,3):=by
   unfold cy
   (try simp only[d,e,g,bs,if_true,if_false,decide_true,decide_false,gy,reduceIte])
   all_goals rfl
 refine i5 hs ?_
 exact bV (ud f c9 h)
 have c7:=of_decide_eq_false g
 refine sg<|Pl 1<|?_
 have s:=aS.old hsl f
 refine i8 (aS.at_ s 0 (by omega)) fun a5 a6 a7 a8 dr=>L0<|pn b.length 0 a7 (by omega)<|L0<|lf (p:=⟨a5,a6+0,none⟩) (v:=.int .u8 (b.getD 0 0)) a8<|Pl 2<|cu 3 [31] 34 (((decide (128≤(b.getD 0 0)))&&(dir==1))) (fun K a9=>?_) ?_
 refine bl 31 ((decide (128≤(b.getD 0 0)))) (fun y=>?_) (fun y=>?_)
 have ca:=of_decide_eq_true y
 exact Pl 3<|ce a9 (dir==1) (by rw[y];rfl)
 have ca:=of_decide_eq_false y
 exact Pl 3<|ce a9 false (by rw[y];rfl)
 refine Pl 1<|nt<|cb (((decide (128≤(b.getD 0 0)))&&(dir==1))) (fun i=>?_) (fun i=>?_)
 have ab:=(bM i).1
 have ac:=(bM i).2
 have ds:=of_decide_eq_true ab
 have dt:=ax ac
 refine sg<|Pl 1<|L0<|Oc<|e2 (tD s (by omega)) fun cc du z ad=>Pl 2<|?_
 have ae:=ub ad a
 refine L0<|bi (hz:=(by rw[z.size];exact aV)) (hv:=z.size) (h1:=z.one) ae (cc) fun dv cd af=>Pl 1<|nt<|rt<|br<|tr<|fc 22 z.size cd (.int .i64 (((eX b)).2))<|?_
 have hs:cy dir b=(eX b):=by
   unfold cy
   (try simp only[d,e,g,i,ab,ac,bs,if_true,if_false,decide_true,decide_false,gy,reduceIte])
   all_goals rfl
 refine i5 hs ?_
 exact⟨_,rfl,(aF.upd z af (aj (aM ae (by decide)) aE)),(ud f (uz ad af) h)⟩
 refine sk<|bn<|tn<|sg<|Pl 1<|L0<|pn b.length 0 a7 (by omega)<|L0<|lf (p:=⟨a5,a6+0,none⟩) (v:=.int .u8 (b.getD 0 0)) a8<|?_
 rcases je (b.getD 0 0) with⟨hk,hkf⟩|⟨hk,hkf⟩|⟨hk,hkf⟩|⟨hk,hkf⟩|⟨hk,hkf⟩|⟨hk,hkf⟩
 have ag:=eM (x:=(b.getD 0 0)) (w:=t)
 rw[hkf] at ag
 refine L0<|Oc<|m1 ag fun dw ai=>Pl 3<|L0<|bN #[.nilFunc,.nilFunc] fun cf dx ak cg ch=>L0<|bi cg #[.func (.func 58) #[] #[],.func (.func 59) #[] #[]] fun dy ci cj=>Pl 1<|nt<|sq<|sg<|Pl 2<|nt<|c0<|?_
 refine bK<|sq<|?_
 have al:=aD ai (ud ch cj ak)
 have an:=aS.old s al
 refine i8 (aS.at_ an 0 (by omega)) fun ck cl ao ap dz=>Rg 13 (fun w'=>w'.cell? ⟨cf,0,none⟩=some (.func (.func 58) #[] #[])∧w'.cell? ⟨ck,cl+0,none⟩=some (.int .u8 (b.getD 0 0))) fun dA M=>?_
 have ar:=ub M ci
 refine aZ ⟨(aa ar rfl),(uc M ap)⟩ fun j=>Rt 0 j<|Rl 1 j (fun _ hs=>hs.1)<|Rt 2 j<|Rt 3 j<|qz 4 j b.length 0 0 rfl ao (by omega)<|Rl 5 j (fun _ hs=>hs.2)<|Rt 6 j<|v6 (f5 (P:=Tryz.prog) 27 5 1 Tryz.underlying27 rfl rfl A b.length cp 1 (by omega)) fun au hrun108 cm=>Rr 7 j (.slice au (b.length-1) (cp-1)) (fun _ _=>f6 (kl:=.i64) (k:=((1:Nat) : Int)) (A:=A) (n:=b.length) (c:=cp) rfl Tryz.underlying27 (by kernel_rfl) (by kernel_rfl) (hrun108 _ _))<|?_
 refine R0 8 rfl<|fj #[] #[] (args:=#[.int .i64 dir,.int .u8 (b.getD 0 0),.slice au (b.length-1) (cp-1)])<|e2 (jw (dir:=dir) (c:=(b.getD 0 0)) (b8 (by omega)) (cm _ _ _ _ _ (aS.old an M)) (by(try simp only[List.length_drop]);omega)) fun cn dB B S=>?_
 have av:=ub S ar
 have T:=aD M S
 refine aZ ⟨(aa av rfl),(uc T ap)⟩ fun aw=>Rt 9 aw<|Rt 10 aw<|?_
 have ay:=aD al T
 have az:=ub ay a
 refine R0 11 rfl<|bi (hz:=(by rw[B.size];exact aV)) (hv:=B.size) (h1:=B.one) az (cn) fun dD co C=>?_
 have dE:=uz T C
 have dF:=uz S C
 have aC:=ud f (uz ay C) h
 refine aZ ⟨(aa (aY C (Ne.symm (nb (am a) ai.size ak)) av) rfl),(cB (aS.old hsl aC) ao 0 (by omega))⟩ fun cq=>Rt 12 cq<|re<|tn<|rt<|fc 22 B.size co (.int .i64 (((aq aN dir (b.getD 0 0) (b.drop 1))).2))<|?_
 have hs:cy dir b=(aq aN dir (b.getD 0 0) (b.drop 1)):=by
   unfold cy
   (try simp only[d,e,g,i,bs,if_true,if_false,decide_true,decide_false,hkf,gy,reduceIte])
   all_goals rfl
 refine i5 hs ?_
 exact⟨_,rfl,(aF.upd B C (aj (aM az (by decide)) aE)),aC⟩
 have aG:=eM (x:=(b.getD 0 0)) (w:=t)
 rw[hkf] at aG
 refine L0<|Oc<|m1 aG fun dG aH=>Pl 3<|L0<|bN #[.nilFunc,.nilFunc] fun cr dH aI cs ct=>L0<|bi cs #[.func (.func 60) #[] #[],.func (.func 61) #[] #[]] fun dI cv cw=>Pl 1<|nt<|sq<|sg<|Pl 2<|nt<|c0<|?_
 refine bK<|sq<|?_
 have aJ:=aD aH (ud ct cw aI)
 have aK:=aS.old s aJ
 refine i8 (aS.at_ aK 0 (by omega)) fun cx cz aL aO dJ=>Rg 13 (fun w'=>w'.cell? ⟨cr,0,none⟩=some (.func (.func 60) #[] #[])∧w'.cell? ⟨cx,cz+0,none⟩=some (.int .u8 (b.getD 0 0))) fun dK N=>?_
 have aP:=ub N cv
 refine aZ ⟨(aa aP rfl),(uc N aO)⟩ fun l=>Rt 0 l<|Rl 1 l (fun _ hs=>hs.1)<|Rt 2 l<|Rt 3 l<|qz 4 l b.length 0 0 rfl aL (by omega)<|Rl 5 l (fun _ hs=>hs.2)<|Rt 6 l<|v6 (f5 (P:=Tryz.prog) 27 5 1 Tryz.underlying27 rfl rfl A b.length cp 1 (by omega)) fun aR hrun188 cA=>Rr 7 l (.slice aR (b.length-1) (cp-1)) (fun _ _=>f6 (kl:=.i64) (k:=((1:Nat) : Int)) (A:=A) (n:=b.length) (c:=cp) rfl Tryz.underlying27 (by kernel_rfl) (by kernel_rfl) (hrun188 _ _))<|?_
 refine R0 8 rfl<|fj #[] #[] (args:=#[.int .i64 dir,.int .u8 (b.getD 0 0),.slice aR (b.length-1) (cp-1)])<|e2 (kW (dir:=dir) (c:=(b.getD 0 0)) (b8 (by omega)) (cA _ _ _ _ _ (aS.old aK N)) (by(try simp only[List.length_drop]);omega)) fun cC dL D U=>?_
 have aU:=ub U aP
 have V:=aD N U
 refine aZ ⟨(aa aU rfl),(uc V aO)⟩ fun aW=>Rt 9 aW<|Rt 10 aW<|?_
 have aX:=aD aJ V
 have b0:=ub aX a
 refine R0 11 rfl<|bi (hz:=(by rw[D.size];exact aV)) (hv:=D.size) (h1:=D.one) b0 (cC) fun dM cD E=>?_
 have dN:=uz V E
 have dO:=uz U E
 have b1:=ud f (uz aX E) h
 refine aZ ⟨(aa (aY E (Ne.symm (nb (am a) aH.size aI)) aU) rfl),(cB (aS.old hsl b1) aL 0 (by omega))⟩ fun cE=>Rt 12 cE<|re<|tn<|rt<|fc 22 D.size cD (.int .i64 (((aq bG dir (b.getD 0 0) (b.drop 1))).2))<|?_
 have hs:cy dir b=(aq bG dir (b.getD 0 0) (b.drop 1)):=by
   unfold cy
   (try simp only[d,e,g,i,bs,if_true,if_false,decide_true,decide_false,hkf,gy,reduceIte])
   all_goals rfl
 refine i5 hs ?_
 exact⟨_,rfl,(aF.upd D E (aj (aM b0 (by decide)) aE)),b1⟩
 have b2:=eM (x:=(b.getD 0 0)) (w:=t)
 rw[hkf] at b2
 refine L0<|Oc<|m1 b2 fun dP b3=>Pl 3<|L0<|bN #[.nilFunc,.nilFunc] fun cF dQ b4 cG cH=>L0<|bi cG #[.func (.func 62) #[] #[],.func (.func 63) #[] #[]] fun dR cI cJ=>Pl 1<|nt<|sq<|sg<|Pl 2<|nt<|c0<|?_
 refine bK<|sq<|?_
 have b5:=aD b3 (ud cH cJ b4)
 have b7:=aS.old s b5
 refine i8 (aS.at_ b7 0 (by omega)) fun cK cL b9 ba dS=>Rg 13 (fun w'=>w'.cell? ⟨cF,0,none⟩=some (.func (.func 62) #[] #[])∧w'.cell? ⟨cK,cL+0,none⟩=some (.int .u8 (b.getD 0 0))) fun dT O=>?_
 have bb:=ub O cI
 refine aZ ⟨(aa bb rfl),(uc O ba)⟩ fun o=>Rt 0 o<|Rl 1 o (fun _ hs=>hs.1)<|Rt 2 o<|Rt 3 o<|qz 4 o b.length 0 0 rfl b9 (by omega)<|Rl 5 o (fun _ hs=>hs.2)<|Rt 6 o<|v6 (f5 (P:=Tryz.prog) 27 5 1 Tryz.underlying27 rfl rfl A b.length cp 1 (by omega)) fun bc hrun268 cM=>Rr 7 o (.slice bc (b.length-1) (cp-1)) (fun _ _=>f6 (kl:=.i64) (k:=((1:Nat) : Int)) (A:=A) (n:=b.length) (c:=cp) rfl Tryz.underlying27 (by kernel_rfl) (by kernel_rfl) (hrun268 _ _))<|?_
 refine R0 8 rfl<|fj #[] #[] (args:=#[.int .i64 dir,.int .u8 (b.getD 0 0),.slice bc (b.length-1) (cp-1)])<|e2 (l8 (dir:=dir) (c:=(b.getD 0 0)) (b8 (by omega)) (cM _ _ _ _ _ (aS.old b7 O)) (by(try simp only[List.length_drop]);omega)) fun cN dU F W=>?_
 have bd:=ub W bb
 have X:=aD O W
 refine aZ ⟨(aa bd rfl),(uc X ba)⟩ fun be=>Rt 9 be<|Rt 10 be<|?_
 have bf:=aD b5 X
 have bg:=ub bf a
 refine R0 11 rfl<|bi (hz:=(by rw[F.size];exact aV)) (hv:=F.size) (h1:=F.one) bg (cN) fun dV cO G=>?_
 have dW:=uz X G
 have dX:=uz W G
 have bh:=ud f (uz bf G) h
 refine aZ ⟨(aa (aY G (Ne.symm (nb (am a) b3.size b4)) bd) rfl),(cB (aS.old hsl bh) b9 0 (by omega))⟩ fun cP=>Rt 12 cP<|re<|tn<|rt<|fc 22 F.size cO (.int .i64 (((aq aQ dir (b.getD 0 0) (b.drop 1))).2))<|?_
 have hs:cy dir b=(aq aQ dir (b.getD 0 0) (b.drop 1)):=by
   unfold cy
   (try simp only[d,e,g,i,bs,if_true,if_false,decide_true,decide_false,hkf,gy,reduceIte])
   all_goals rfl
 refine i5 hs ?_
 exact⟨_,rfl,(aF.upd F G (aj (aM bg (by decide)) aE)),bh⟩
 have bj:=eM (x:=(b.getD 0 0)) (w:=t)
 rw[hkf] at bj
 refine L0<|Oc<|m1 bj fun dY bm=>Pl 3<|L0<|bN #[.nilFunc,.nilFunc] fun cQ dZ bo cR cS=>L0<|bi cR #[.func (.func 64) #[] #[],.func (.func 65) #[] #[]] fun e0 cT cU=>Pl 1<|nt<|sq<|sg<|Pl 2<|nt<|c0<|?_
 refine bK<|sq<|?_
 have bp:=aD bm (ud cS cU bo)
 have bq:=aS.old s bp
 refine i8 (aS.at_ bq 0 (by omega)) fun cV cW bt bv e1=>Rg 13 (fun w'=>w'.cell? ⟨cQ,0,none⟩=some (.func (.func 64) #[] #[])∧w'.cell? ⟨cV,cW+0,none⟩=some (.int .u8 (b.getD 0 0))) fun e3 Q=>?_
 have bw:=ub Q cT
 refine aZ ⟨(aa bw rfl),(uc Q bv)⟩ fun q=>Rt 0 q<|Rl 1 q (fun _ hs=>hs.1)<|Rt 2 q<|Rt 3 q<|qz 4 q b.length 0 0 rfl bt (by omega)<|Rl 5 q (fun _ hs=>hs.2)<|Rt 6 q<|v6 (f5 (P:=Tryz.prog) 27 5 1 Tryz.underlying27 rfl rfl A b.length cp 1 (by omega)) fun bx hrun348 cX=>Rr 7 q (.slice bx (b.length-1) (cp-1)) (fun _ _=>f6 (kl:=.i64) (k:=((1:Nat) : Int)) (A:=A) (n:=b.length) (c:=cp) rfl Tryz.underlying27 (by kernel_rfl) (by kernel_rfl) (hrun348 _ _))<|?_
 refine R0 8 rfl<|fj #[] #[] (args:=#[.int .i64 dir,.int .u8 (b.getD 0 0),.slice bx (b.length-1) (cp-1)])<|e2 (jx (dir:=dir) (c:=(b.getD 0 0)) (b8 (by omega)) (cX _ _ _ _ _ (aS.old bq Q)) (by(try simp only[List.length_drop]);omega)) fun cY e4 H Y=>?_
 have bz:=ub Y bw
 have Z:=aD Q Y
 refine aZ ⟨(aa bz rfl),(uc Z bv)⟩ fun bA=>Rt 9 bA<|Rt 10 bA<|?_
 have bB:=aD bp Z
 have bC:=ub bB a
 refine R0 11 rfl<|bi (hz:=(by rw[H.size];exact aV)) (hv:=H.size) (h1:=H.one) bC (cY) fun e5 cZ I=>?_
 have e6:=uz Z I
 have e7:=uz Y I
 have bD:=ud f (uz bB I) h
 refine aZ ⟨(aa (aY I (Ne.symm (nb (am a) bm.size bo)) bz) rfl),(cB (aS.old hsl bD) bt 0 (by omega))⟩ fun d0=>Rt 12 d0<|re<|tn<|rt<|fc 22 H.size cZ (.int .i64 (((aq b6 dir (b.getD 0 0) (b.drop 1))).2))<|?_
 have hs:cy dir b=(aq b6 dir (b.getD 0 0) (b.drop 1)):=by
   unfold cy
   (try simp only[d,e,g,i,bs,if_true,if_false,decide_true,decide_false,hkf,gy,reduceIte])
   all_goals rfl
 refine i5 hs ?_
 exact⟨_,rfl,(aF.upd H I (aj (aM bC (by decide)) aE)),bD⟩
 have bE:=eM (x:=(b.getD 0 0)) (w:=t)
 rw[hkf] at bE
 refine L0<|Oc<|m1 bE fun e8 bF=>Pl 3<|L0<|bN #[.nilFunc,.nilFunc] fun d1 e9 bH d2 d3=>L0<|bi d2 #[.func (.func 66) #[] #[],.func (.func 67) #[] #[]] fun ea d4 d5=>Pl 1<|nt<|sq<|sg<|Pl 2<|nt<|c0<|?_
 refine bK<|sq<|?_
 have bI:=aD bF (ud d3 d5 bH)
 have bJ:=aS.old s bI
 refine i8 (aS.at_ bJ 0 (by omega)) fun d6 d7 bL bO eb=>Rg 13 (fun w'=>w'.cell? ⟨d1,0,none⟩=some (.func (.func 66) #[] #[])∧w'.cell? ⟨d6,d7+0,none⟩=some (.int .u8 (b.getD 0 0))) fun ec R=>?_
 have bP:=ub R d4
 refine aZ ⟨(aa bP rfl),(uc R bO)⟩ fun r=>Rt 0 r<|Rl 1 r (fun _ hs=>hs.1)<|Rt 2 r<|Rt 3 r<|qz 4 r b.length 0 0 rfl bL (by omega)<|Rl 5 r (fun _ hs=>hs.2)<|Rt 6 r<|v6 (f5 (P:=Tryz.prog) 27 5 1 Tryz.underlying27 rfl rfl A b.length cp 1 (by omega)) fun bQ hrun428 d8=>Rr 7 r (.slice bQ (b.length-1) (cp-1)) (fun _ _=>f6 (kl:=.i64) (k:=((1:Nat) : Int)) (A:=A) (n:=b.length) (c:=cp) rfl Tryz.underlying27 (by kernel_rfl) (by kernel_rfl) (hrun428 _ _))<|?_
 refine R0 8 rfl<|fj #[] #[] (args:=#[.int .i64 dir,.int .u8 (b.getD 0 0),.slice bQ (b.length-1) (cp-1)])<|e2 (lZ (dir:=dir) (c:=(b.getD 0 0)) (b8 (by omega)) (d8 _ _ _ _ _ (aS.old bJ R)) (by(try simp only[List.length_drop]);omega)) fun da ed J a0=>?_
 have bR:=ub a0 bP
 have a1:=aD R a0
 refine aZ ⟨(aa bR rfl),(uc a1 bO)⟩ fun bS=>Rt 9 bS<|Rt 10 bS<|?_
 have bT:=aD bI a1
 have bU:=ub bT a
 refine R0 11 rfl<|bi (hz:=(by rw[J.size];exact aV)) (hv:=J.size) (h1:=J.one) bU (da) fun ee db L=>?_
 have ef:=uz a1 L
 have eg:=uz a0 L
 have bW:=ud f (uz bT L) h
 refine aZ ⟨(aa (aY L (Ne.symm (nb (am a) bF.size bH)) bR) rfl),(cB (aS.old hsl bW) bL 0 (by omega))⟩ fun dc=>Rt 12 dc<|re<|tn<|rt<|fc 22 J.size db (.int .i64 (((aq bu dir (b.getD 0 0) (b.drop 1))).2))<|?_
 have hs:cy dir b=(aq bu dir (b.getD 0 0) (b.drop 1)):=by
   unfold cy
   (try simp only[d,e,g,i,bs,if_true,if_false,decide_true,decide_false,hkf,gy,reduceIte])
   all_goals rfl
 refine i5 hs ?_
 exact⟨_,rfl,(aF.upd J L (aj (aM bU (by decide)) aE)),bW⟩
 have bX:=eM (x:=(b.getD 0 0)) (w:=t)
 rw[hkf] at bX
 refine L0<|Oc<|m1 bX fun eh dd=>Pl 3<|L0<|bN #[.nilFunc,.nilFunc] fun ei ej de df dg=>L0<|bi df #[.nilFunc,.nilFunc] fun ek el dh=>Pl 1<|nt<|sq<|sg<|Pl 2<|nt<|c1<|?_
 refine sg<|Pl 1<|?_
 have bY:=aD dd (ud dg dh de)
 refine L0<|bi (ub bY a) mZ fun em di dj=>Pl 1<|nt<|rt<|tr<|d9 di (.int .i64 4)<|?_
 have hs:cy dir b=(aT.zero,4):=by
   unfold cy
   (try simp only[d,e,g,i,bs,if_true,if_false,decide_true,decide_false,hkf,gy,reduceIte])
   all_goals rfl
 refine i5 hs ?_
 exact bV (ud f (uz bY dj) h)
theorem j0{m:Bool}{v:Value}{b:List Int}{w:World}{dir:Int}(h:aS m w v b)(hb:b.length≤1048576) : Calls Tryz.prog 162 #[.int .i64 dir,v] w (dC (cy dir b) w):=by
  obtain⟨A,cp,rfl,_,_⟩:=h.shape
  exact pB h hb
end Go.Proofs.YtpglhicfhppaiaaGreat
namespace Go.Proofs.YtpglhicfhppaiaaGreat
def N1 (C:al) : Prop:=C.e≠1
theorem N1.need{C:al}{b:Bool}{x:Int}(hx:x≠1)(h:N1 C) : N1 (C.need b x):=by
  unfold N1 al.need at *
  split
  · exact hx
  · exact h
theorem N1.bytesC{C:al}{n:Int}(h:N1 C) : N1 (C.bytesC n):=by
  unfold al.bytesC
  split
  · exact N1.need (by decide) h
  · exact h
theorem N1.wordsC{C:al}{n:Int}(h:N1 C) : N1 (C.wordsC n):=by
  unfold al.wordsC
  split<;>exact N1.bytesC h
theorem N1.recs{one:Int→al→Int × al × dY}(ho:∀ s C,N1 C→N1 (one s C).2.1) : ∀ (n:Nat)(s:Int)(C:al)(L:List dY),N1 C→N1 (bh one n s C L).1
  | 0,_,_,_,h=>h
  | n+1,s,C,L,h=>by
    unfold bh
    split
    · split
      · exact ho s C h
      · exact N1.recs ho n _ _ _ (ho s C h)
    · exact h
theorem N1.objs:∀ (n:Nat)(C:al)(L:List Obj),N1 C→N1 (fw n C L).1
  | 0,_,_,h=>h
  | n+1,C,L,h=>N1.objs n _ _ (N1.bytesC (N1.bytesC (N1.bytesC h)))
theorem tg{x:Int}(h:x≠1) : da x≠1:=by
  unfold da
  split
  · decide
  · exact h
def tU (c:Int)(r:al × aT) : Prop:=N1 r.1∧r.2.code=c∧r.2.fail=0
theorem pE{dir c:Int}{C:al}{r:al × aT}(hC:N1 C)(h:aN dir c C=some r) : tU c r:=by
  unfold aN at h
  repeat' split at h
  all_goals first | cases h | skip
  all_goals refine⟨?_,rfl,rfl⟩
  all_goals simp only[dk,dS,dI,jG,bX,ku,nT,gL,AS,nL]
  all_goals repeat' first | with_reducible exact hC | with_reducible apply N1.bytesC | with_reducible apply N1.wordsC | (with_reducible refine N1.need (by decide) ?_)
theorem sK{dir c:Int}{C:al}{r:al × aT}(hC:N1 C)(h:bG dir c C=some r) : tU c r:=by
  unfold bG at h
  repeat' split at h
  all_goals first | cases h | skip
  all_goals refine⟨?_,rfl,rfl⟩
  all_goals simp only[cM,dr,fU,eV,ey,ff,fa,vx,iv,gR,bC,lb,cv,fu,rJ,yt,sL]
  all_goals repeat' first | with_reducible exact hC | with_reducible apply N1.bytesC | with_reducible apply N1.wordsC | (with_reducible refine N1.need (by decide) ?_)
theorem tN{dir c:Int}{C:al}{r:al × aT}(hC:N1 C)(h:aQ dir c C=some r) : tU c r:=by
  unfold aQ dx bD at h
  repeat' split at h
  all_goals first | cases h | skip
  all_goals refine⟨?_,rfl,rfl⟩
  all_goals simp only[fV,mf,fk,gl,d8]
  all_goals repeat' first | with_reducible exact hC | with_reducible apply N1.bytesC | with_reducible apply N1.wordsC | (with_reducible refine N1.need (by decide) ?_)
theorem vN{dir c:Int}{C:al}{r:al × aT}(hC:N1 C)(h:bu dir c C=some r) : tU c r:=by
  unfold bu at h
  repeat' split at h
  all_goals first | cases h | skip
  all_goals refine⟨?_,rfl,rfl⟩
  all_goals simp only[dJ,gv,du,cP,jV,mN,oh,x8]
  all_goals repeat' first | with_reducible exact hC | with_reducible apply N1.bytesC | with_reducible apply N1.wordsC | with_reducible apply N1.objs | (with_reducible refine N1.need (by decide) ?_)
theorem xH(s:Int)(C:al)(h:N1 C) : N1 (eb s C).2.1:=by
  simp only[eb,eZ,fJ,ru,nq,pm]
  repeat' first | with_reducible exact h | with_reducible apply N1.bytesC | with_reducible apply N1.wordsC | (with_reducible refine N1.need (by decide) ?_)
theorem wz(s:Int)(C:al)(h:N1 C) : N1 (cL s C).2.1:=by
  simp only[cL,gQ,jz,fy]
  repeat' first | with_reducible exact h | with_reducible apply N1.bytesC | with_reducible apply N1.wordsC | (with_reducible refine N1.need (by decide) ?_)
theorem xq(s:Int)(C:al)(h:N1 C) : N1 (ez s C).2.1:=by
  simp only[ez,kz,qZ,fJ,ru,nq,pm]
  repeat' first | with_reducible exact h | with_reducible apply N1.bytesC | with_reducible apply N1.wordsC | (with_reducible refine N1.need (by decide) ?_)
theorem jk{one:Int→al→Int × al × dY}(ho:∀ s C,N1 C→N1 (one s C).2.1)(may:Int→Bool)(c:Int){C:al}(hC:N1 C) : N1 (dh one may c C).1:=by
  unfold dh ox
  refine N1.need (tg (N1.recs ho _ _ _ _ ?_)) (N1.bytesC (N1.need (by decide) (N1.bytesC hC)))
  show(0:Int)≠1
  decide
theorem pJ{dir c:Int}{C:al}{r:al × aT}(hC:N1 C)(h:b6 dir c C=some r) : tU c r:=by
  unfold b6 at h
  repeat' split at h
  all_goals first | cases h | skip
  · exact⟨jk xH _ _ hC,rfl,rfl⟩
  · exact⟨jk wz _ _ hC,rfl,rfl⟩
  · exact⟨jk xq _ _ hC,rfl,rfl⟩
theorem N1.endC{C:al}(h:N1 C) : N1 C.endC:=by
  unfold al.endC
  exact N1.need (by decide) h
theorem fb{form:Int→Int→al→Option (al × aT)}(hg:∀ {dir c:Int}{C:al}{r:al × aT},N1 C→form dir c C=some r→tU c r){dir c:Int}{b:List Int}(hd:dir=0∨dir=1){M:aT}{E:Int}(h:aq form dir c b=(M,E)) :
    E≠1∧(E=0→M.code=c∧M.fail=0):=by
  unfold aq at h
  rw[if_pos hd] at h
  have h0:N1 ⟨b,false,0⟩:=by show(0:Int)≠1;decide
  split at h
  · injection h with h1 h2
    subst h1 h2
    exact⟨by decide,fun h=>by cases h⟩
  · rename_i r hr
    obtain⟨g1,g2,g3⟩:=hg h0 hr
    unfold b7 at h
    split at h
    · injection h with h1 h2
      subst h1 h2
      exact⟨by decide,fun _=>⟨g2,g3⟩⟩
    · rename_i hne
      injection h with h1 h2
      subst h1 h2
      exact⟨N1.endC g1,fun h=>absurd h hne⟩
end Go.Proofs.YtpglhicfhppaiaaGreat
namespace Go.Proofs.YtpglhicfhppaiaaGreat
theorem vj:∀ n:Nat,n<256→(dE (n:Int)=u5 (n:Int))∧(u5 (n:Int)=false→iR (n:Int)=0)∧(128≤n→u5 (n:Int)=false):=by decide +kernel
theorem so{x:Int}(h:0≤x∧x<256) : dE x=u5 x∧(u5 x=false→iR x=0)∧(128≤x→u5 x=false):=by
  obtain⟨n,rfl⟩:=Int.eq_ofNat_of_zero_le h.1
  obtain⟨a,b,c⟩:=vj n (by omega)
  exact⟨a,b,fun h=>c (by omega)⟩
theorem ul{dir:Int}{b:List Int}(hd:dir=0∨dir=1){k:Nat}{M:aT}{E:Int}(h:gy k dir b=(M,E)) : E≠1∧(E=0→M.code=b.getD 0 0∧M.fail=0):=by
  unfold gy at h
  split at h
  · exact fb (fun hC h=>pE hC h) hd h
  · exact fb (fun hC h=>sK hC h) hd h
  · exact fb (fun hC h=>tN hC h) hd h
  · exact fb (fun hC h=>pJ hC h) hd h
  · exact fb (fun hC h=>vN hC h) hd h
  · injection h with h1 h2
    subst h1 h2
    exact⟨by decide,fun h=>by cases h⟩
theorem xY{b:List Int}{M:aT}(h:eX b=(M,0)) : M=gC ((b.getD 0 0-128)%256) (b.getD 1 0)∧128≤b.getD 0 0∧dE ((b.getD 0 0-128)%256)=true∧di (b.getD 1 0)=true∧b.length=2:=by
  unfold eX at h
  split at h
  · cases h
  split at h
  · cases h
  split at h
  · cases h
  split at h
  · cases h
  split at h
  · cases h
  split at h
  · cases h
  injection h with h1 h2
  simp only[decide_eq_true_eq,Bool.not_eq_true',Bool.not_eq_true,beq_iff_eq,Bool.not_eq_false'] at *
  refine⟨h1.symm,by omega,by simp_all,by simp_all,by omega⟩
end Go.Proofs.YtpglhicfhppaiaaGreat
namespace Go.Proofs.YtpglhicfhppaiaaGreat
theorem e6{parse:Int→Int→List Int→aT × Int}{lay:Int→aT→List Int}{dir:Int}{M:aT}{l:List Int}(h:bW parse lay dir M=some l) : parse dir M.code l=(M,0)∧l=lay dir M:=by
  unfold bW at h
  split at h
  · rename_i hh
    injection h with h
    subst h
    exact⟨hh,rfl⟩
  · cases h
theorem sD{k:Nat}{dir:Int}{M:aT}{l:List Int}(h:fB k dir M=some l) : k≠0∧gy k dir ([M.code]++l)=(M,0):=by
  unfold fB at h
  split at h
  · exact⟨by decide,(e6 h).1⟩
  · exact⟨by decide,(e6 h).1⟩
  · exact⟨by decide,(e6 h).1⟩
  · exact⟨by decide,(e6 h).1⟩
  · exact⟨by decide,(e6 h).1⟩
  · cases h
theorem sN{M:aT}{l:List Int}(h:j3 M=some l) : dE M.code=true∧di M.fail=true∧M=gC M.code M.fail∧l=[(M.code+128)%256,M.fail]:=by
  unfold j3 at h
  split at h
  · cases h
  split at h
  · cases h
  rename_i h1 h2
  injection h with h
  subst h
  have h3:eG M.code M.fail=true:=by
    cases hp:eG M.code M.fail
    · rw[hp] at h1;exact absurd rfl h1
    · rfl
  have h4:M=gC M.code M.fail:=by
    by_cases hm:M=gC M.code M.fail
    · exact hm
    · rw[decide_eq_false hm] at h2;exact absurd rfl h2
  unfold eG at h3
  obtain⟨h5,h6⟩:=el h3
  exact⟨(el h5).2,h6,h4,rfl⟩
theorem uk{dir:Int}{M:aT}{l:List Int}(hc:0≤M.code∧M.code<256)(h:ci dir M=some l) :
    (M.fail≠0∧dir=1∧dE M.code=true∧di M.fail=true∧M=gC M.code M.fail∧l=[M.code+128,M.fail]∧M.code<128) ∨
    (M.fail=0∧iR M.code≠0∧M.code<128∧∃ l',fB (iR M.code) dir M=some l'∧l'.length<253∧l=[M.code]++l'):=by
  obtain⟨t1,t2,t3⟩:=so hc
  unfold ci at h
  split at h
  · rename_i hf
    split at h
    · cases h
    · rename_i hd
      obtain⟨h1,h2,h3,h4⟩:=sN h
      have h5:M.code<128:=by
        by_cases h6:128≤M.code
        · have:=t3 h6
          rw[← t1,h1] at this
          cases this
        · omega
      refine .inl ⟨by simpa using hf,by simpa using hd,h1,h2,h3,?_,h5⟩
      rw[h4]
      congr 1
      omega
  · rename_i hf
    split at h
    · cases h
    · rename_i l' hl
      split at h
      · cases h
      · rename_i hn
        injection h with h
        have hk:=(sD hl).1
        have h5:M.code<128:=by
          by_cases h6:128≤M.code
          · exact absurd (t2 (t3 h6)) hk
          · omega
        simp only[decide_eq_true_eq] at hn
        exact .inr ⟨by simpa using hf,hk,h5,l',hl,by omega,h.symm⟩
theorem kp{dir:Int}{M:aT}{l:List Int}(hc:0≤M.code∧M.code<256)(h:ci dir M=some l) : 0<l.length:=by
  rcases uk hc h with⟨_,_,_,_,_,rfl,_⟩|⟨_,_,_,l',_,_,rfl⟩<;>simp
open Go.RowKit
theorem sP{w w':World}(h:ay [] w w') : Below w.heap.size w w':=⟨h.os,h.tape,h.output,h.size,fun k hk=>h.block k hk (by simp)⟩
theorem tp{n:Int}(h:(Lit.int .u8 n).wf=true) : 0≤n∧n<256:=by
  have:=bounds_u8 h
  omega
open Go.RowKit
structure SL where
  aw:Option Addr
  kw:Nat
  ab:Option Addr
  kb:Nat
  ad:Option Addr
  kd:Nat
  ar:Option Addr
  kr:Nat
  ao:Option Addr
  ko:Nat
def iE (M:aT)(x:SL) : Array Value:=mG M.code M.fail M.addr M.count M.value M.and_ M.or_ M.addr2 M.sub M.status M.events M.messages (.slice x.aw M.words.length x.kw) (.slice x.ab M.bits.length x.kb) (.slice x.ad M.data.length x.kd) (.slice x.ar M.recs.length x.kr) M.mei M.kind M.level M.more M.next (.slice x.ao M.objects.length x.ko)
theorem pz{m:Bool}{w:World}{cs:Array Value}{M:aT}(h:aF m w cs.toList M) : ∃ x,cs=iE M x:=by
  obtain⟨vw,vb,vd,vr,vo,h0,hw,hb,hd,hr,ho,hR⟩:=h
  obtain⟨aw,kw,rfl,_,_⟩:=hw.shape
  obtain⟨ab,kb,rfl,_,_⟩:=hb.shape
  obtain⟨ad,kd,rfl,_,_⟩:=hd.shape
  obtain⟨ar,kr,rfl,_,_⟩:=hr.shape
  obtain⟨ao,ko,rfl,_,_⟩:=ho.shape
  refine⟨⟨aw,kw,ab,kb,ad,kd,ar,kr,ao,ko⟩,?_⟩
  apply Array.toList_inj.1
  rw[h0]
  rfl
theorem aF.rngs{m:Bool}{w:World}{cs:Array Value}{M:aT}(h:aF m w cs.toList M) : (0≤M.code∧M.code<256)∧(0≤M.fail∧M.fail<256):=by
  obtain⟨vw,vb,vd,vr,vo,h0,hw,hb,hd,hr,ho,hR⟩:=h
  exact⟨hR.code,hR.fail⟩
open Go.RowKit
def uj:aT:={ aT.zero with code:=7 }
open Go.RowKit
structure cm where
  unit:Int
  tid:Int
  msg:aT
def cm.zero:cm:=⟨0,0,aT.zero⟩
def zU (m:Bool)(w:World)(cs:Array Value)(F:cm) : Prop:=∃ c:Array Value,cs = #[.int .u8 F.unit,.int .u16 F.tid]++c∧aF m w c.toList F.msg∧B8 F.unit∧dA F.tid
def mF (res:cm × Int)(w:World)(e:Ending)(w':World) : Prop:=∃ cs,e = .returned (.tuple #[.agg cs,.int .i64 res.2])∧zU true w' cs res.1∧ay [] w w'
theorem dU{x y:cm × Int}(h:x=y){w:World}{e:Ending}{w':World}(k:mF y w e w') : mF x w e w':=by rw[h];exact k
def zZ:Array Value:=#[.int .u8 0,.int .u16 0,.int .u8 0,.int .u8 0,.int .u16 0,.int .u16 0,.int .u16 0,.int .u16 0,.int .u16 0,.int .u16 0,.int .u16 0,.int .u16 0,.int .u16 0,.int .u16 0,.slice none 0 0,.slice none 0 0,.slice none 0 0,.slice none 0 0,.int .u8 0,.int .u8 0,.int .u8 0,.int .u8 0,.int .u8 0,.slice none 0 0]
theorem cQ{x:Int}{w W:World}(hu:ay [] w W) : mF (cm.zero,x) w (.returned (.tuple #[.agg zZ,.int .i64 x])) W:=⟨_,rfl,⟨vG,(by kernel_rfl),aF.zero ..,(show(0:Int)≤0∧(0:Int)<256 from by decide),(show(0:Int)≤0∧(0:Int)<65536 from by decide)⟩,hu⟩
def dj (u t:Int) : aT × Int→cm × Int
  | (M,E)=>if E != 0 then (cm.zero,E) else (⟨u,t,M⟩,0)
theorem fE{dir:Int}{M:aT}{l:List Int}(h:ci dir M=some l) : l.length≤253:=by
  unfold ci at h
  split at h
  · split at h
    · cases h
    · unfold j3 at h
      split at h
      · cases h
      · split at h
        · cases h
        · injection h with h
          subst h
          simp only[List.length_cons,List.length_nil]
          omega
  · split at h
    · cases h
    · split at h
      · cases h
      · rename_i hl
        injection h with h
        subst h
        simp only[decide_eq_true_eq] at hl
        simp only[List.length_append,List.length_cons,List.length_nil]
        omega
open Go.RowKit
deriving instance DecidableEq for cm
def eK (u t:Int)(M:aT)(x:SL) : Array Value:=#[.int .u8 u,.int .u16 t,.int .u8 M.code,.int .u8 M.fail,.int .u16 M.addr,.int .u16 M.count,.int .u16 M.value,.int .u16 M.and_,.int .u16 M.or_,.int .u16 M.addr2,.int .u16 M.sub,.int .u16 M.status,.int .u16 M.events,.int .u16 M.messages,.slice x.aw M.words.length x.kw,.slice x.ab M.bits.length x.kb,.slice x.ad M.data.length x.kd,.slice x.ar M.recs.length x.kr,.int .u8 M.mei,.int .u8 M.kind,.int .u8 M.level,.int .u8 M.more,.int .u8 M.next,.slice x.ao M.objects.length x.ko]
theorem eW(u t:Int)(M:aT)(x:SL) : eK u t M x = #[.int .u8 u,.int .u16 t]++iE M x:=by kernel_rfl
open Go.RowKit
structure Ev where
  e:Int
  f:cm
def Ev.bad (e:Int) : Ev:=⟨e,cm.zero⟩
def uv (x:Ev)(s:SL) : Array Value:=#[.int .i64 x.e,.int .u8 x.f.unit,.int .u16 x.f.tid,.int .u8 x.f.msg.code,.int .u8 x.f.msg.fail,.int .u16 x.f.msg.addr,.int .u16 x.f.msg.count,.int .u16 x.f.msg.value,.int .u16 x.f.msg.and_,.int .u16 x.f.msg.or_,.int .u16 x.f.msg.addr2,.int .u16 x.f.msg.sub,.int .u16 x.f.msg.status,.int .u16 x.f.msg.events,.int .u16 x.f.msg.messages,.slice s.aw x.f.msg.words.length s.kw,.slice s.ab x.f.msg.bits.length s.kb,.slice s.ad x.f.msg.data.length s.kd,.slice s.ar x.f.msg.recs.length s.kr,.int .u8 x.f.msg.mei,.int .u8 x.f.msg.kind,.int .u8 x.f.msg.level,.int .u8 x.f.msg.more,.int .u8 x.f.msg.next,.slice s.ao x.f.msg.objects.length s.ko]
theorem yN(x:Ev)(s:SL) : uv x s = #[.int .i64 x.e]++eK x.f.unit x.f.tid x.f.msg s:=by kernel_rfl
def qG (m:Bool)(w:World)(x:Ev)(cs:List Value) : Prop:=∃ s,cs=(uv x s).toList∧aF m w (iE x.f.msg s).toList x.f.msg∧(0≤x.f.unit∧x.f.unit<256)∧(0≤x.f.tid∧x.f.tid<65536)
def nn (m:Bool)(w:World)(f:cm)(cs:List Value) : Prop:=∃ s,cs=(eK f.unit f.tid f.msg s).toList∧aF m w (iE f.msg s).toList f.msg∧(0≤f.unit∧f.unit<256)∧(0≤f.tid∧f.tid<65536)
def Ci (m:Bool)(w:World)(b:List Int)(cs:List Value) : Prop:=∃ v,cs=[v]∧aS m w v b
abbrev rZ (m:Bool) (w:World) (v:Value) (xs:List Ev) : Prop:=aR m 66 25 (qG m) w v xs
abbrev i3 (base:Nat) (w:World) (v:Value) (xs:List Ev) : Prop:=aL base 66 25 (qG true) w v xs
theorem qG.upd{m:Bool}{w w':World}{S:List Nat}(hu:ay S w w')(hs:bZ m gn S w)(x:Ev)(cs:List Value)(h:qG m w x cs) : qG m w' x cs:=by
  obtain⟨s,h1,h2,h3⟩:=h
  exact⟨s,h1,h2.upd hu hs,h3⟩
theorem rZ.upd'{m:Bool}{w w':World}{v:Value}{xs:List Ev}{S:List Nat}(h:rZ m w v xs)(hu:ay S w w')(hs:bZ m (66 :: gn) S w) : rZ m w' v xs:=aR.upd h hu (hs.sub fun t ht=>by rw[List.mem_singleton] at ht;rw[ht];exact List.mem_cons_self ..) (qG.upd hu (hs.sub fun t ht=>List.mem_cons_of_mem _ ht))
theorem rZ.old{m:Bool}{w w':World}{v:Value}{xs:List Ev}(h:rZ m w v xs)(hu:ay [] w w') : rZ m w' v xs:=h.upd' hu (bZ.nil _ _ _)
theorem uK(x:Ev)(s:SL) : (uv x s).toList.length=25:=by kernel_rfl
theorem mw{w:World}:aF true w (iE aT.zero ⟨none,0,none,0,none,0,none,0,none,0⟩).toList aT.zero:=aF.zero ..
theorem ms{w0 w:World}{g:Nat}{cs:Array Value}{x:Ev}(hg:w0.heap.size≤g)(hb:w.heap[g]? = some (.cells cs 66 (0,0)))(h:qG true w x cs.toList) : i3 w0.heap.size w (.slice (some ⟨g,0,none⟩) 1 1) [x]:=by
  have hh:=h
  obtain⟨s,h1,h2⟩:=hh
  have hl:cs.toList.length=25:=by rw[h1];exact uK x s
  clear h1
  refine⟨cs.toList,⟨hl,.inr ⟨g,1,cs,rfl,hg,hb,Nat.le_refl _,by unfold maxLen;omega,by simpa using hl,by rw[List.take_of_length_le];exact Nat.le_of_eq hl⟩⟩,fun j y hj=>?_⟩
  cases j with
  | succ j=>simp at hj
  | zero =>
    have hj:x=y:=by simpa using hj
    subst hj
    exact⟨cs.toList,hl,h,fun i u hi=>by simpa using hi⟩
theorem AL{α β γ δ ε ζ:Sort _}{C:Prop}{P1 P2 P3 P4:α→β→γ→δ→ε→ζ→Prop}(h:∃ a b c d e f,P1 a b c d e f∧P2 a b c d e f∧P3 a b c d e f∧P4 a b c d e f)(k:∀ a b c d e f,P1 a b c d e f→P2 a b c d e f→P3 a b c d e f→P4 a b c d e f→C) : C :=
  let ⟨a,b,c,d,e,f,h1,h2,h3,h4⟩:=h;k a b c d e f h1 h2 h3 h4
theorem j8{α β γ δ:Sort _}{C:Prop}{P1 P2 P3 P4 P5:α→β→γ→δ→Prop}(h:∃ a b c d,P1 a b c d∧P2 a b c d∧P3 a b c d∧P4 a b c d∧P5 a b c d)(k:∀ a b c d,P1 a b c d→P2 a b c d→P3 a b c d→P4 a b c d→P5 a b c d→C) : C :=
  let ⟨a,b,c,d,h1,h2,h3,h4,h5⟩:=h;k a b c d h1 h2 h3 h4 h5
theorem qG.ones{m:Bool}{w:World}(x:Ev)(cs:List Value)(h:qG m w x cs) : ∀ v,v∈cs→v.oneCell'=true:=by
  obtain⟨s,h1,h2,_⟩:=h
  have h3:=h2.one
  intro v hv
  rw[h1,yN,eW,Array.toList_append,Array.toList_append,List.mem_append,List.mem_append] at hv
  clear h1
  rw[Array.all_eq_true'] at h3
  rcases hv with hv|hv|hv
  · simp at hv;subst hv;rfl
  · simp at hv;rcases hv with rfl | rfl<;>rfl
  · exact h3 v (by simpa using hv)
theorem rZ.elt{m:Bool}{w:World}{A:Option Addr}{n c:Nat}{xs:List Ev}(h:rZ m w (.slice A n c) xs)(j:Nat)(hj:j<xs.length)(d:Ev) :
    ∃ b off cells t fr s,A=some ⟨b,off,none⟩∧w.heap[b]? = some (.cells cells t fr)∧(aF m w (iE (xs.getD j d).f.msg s).toList (xs.getD j d).f.msg∧(0≤(xs.getD j d).f.unit∧(xs.getD j d).f.unit<256)∧(0≤(xs.getD j d).f.tid∧(xs.getD j d).f.tid<65536))∧(cells.toList.drop (off+j*25)).take 25=(uv (xs.getD j d) s).toList:=by
  obtain⟨b,off,cells,t,fr,cs,h1,h2,h3,⟨s,h4,h5⟩,h6⟩:=aR.elt h d j hj
  exact⟨b,off,cells,t,fr,s,h1,h2,h5,h6.trans h4⟩
abbrev AH (m:Bool) (w:World) (v:Value) (xs:List cm) : Prop:=aR m 33 24 (nn m) w v xs
abbrev oH (m:Bool) (w:World) (v:Value) (xs:List (List Int)) : Prop:=aR m 27 1 (Ci m) w v xs
theorem nn.upd{m:Bool}{w w':World}{S:List Nat}(hu:ay S w w')(hs:bZ m gn S w)(x:cm)(cs:List Value)(h:nn m w x cs) : nn m w' x cs:=by
  obtain⟨s,h1,h2,h3⟩:=h
  exact⟨s,h1,h2.upd hu hs,h3⟩
theorem AH.old{m:Bool}{w w':World}{v:Value}{xs:List cm}(h:AH m w v xs)(hu:ay [] w w') : AH m w' v xs:=aR.upd h hu (bZ.nil _ _ _) (nn.upd hu (bZ.nil _ _ _))
theorem AH.elt{m:Bool}{w:World}{A:Option Addr}{n c:Nat}{xs:List cm}(h:AH m w (.slice A n c) xs)(j:Nat)(hj:j<xs.length)(d:cm) :
    ∃ b off cells t fr s,A=some ⟨b,off,none⟩∧w.heap[b]? = some (.cells cells t fr)∧(aF m w (iE (xs.getD j d).msg s).toList (xs.getD j d).msg∧(0≤(xs.getD j d).unit∧(xs.getD j d).unit<256)∧(0≤(xs.getD j d).tid∧(xs.getD j d).tid<65536))∧(cells.toList.drop (off+j*24)).take 24=(eK (xs.getD j d).unit (xs.getD j d).tid (xs.getD j d).msg s).toList:=by
  obtain⟨b,off,cells,t,fr,cs,h1,h2,h3,⟨s,h4,h5⟩,h6⟩:=aR.elt h d j hj
  exact⟨b,off,cells,t,fr,s,h1,h2,h5,h6.trans h4⟩
theorem oH.old{m:Bool}{w w':World}{v:Value}{xs:List (List Int)}(h:oH m w v xs)(hu:ay [] w w') : oH m w' v xs:=aR.upd h hu (bZ.nil _ _ _) fun x cs ⟨v,h1,h2⟩=>⟨v,h1,h2.old hu⟩
theorem oH.elt{m:Bool}{w:World}{A:Option Addr}{n c:Nat}{xs:List (List Int)}(h:oH m w (.slice A n c) xs)(j:Nat)(hj:j<xs.length) :
    ∃ b off A' c',A=some ⟨b,off,none⟩∧w.cell? ⟨b,off+j,none⟩=some (.slice A' (xs.getD j []).length c')∧aS m w (.slice A' (xs.getD j []).length c') (xs.getD j [])∧(xs.getD j []).length≤c'∧c'≤maxLen:=by
  obtain⟨b,off,cells,t,fr,cs,h1,h2,h3,⟨v,h4,h5⟩,h6⟩:=aR.elt h [] j hj
  obtain⟨A',c',rfl,h7,h8⟩:=h5.shape
  refine⟨b,off,A',c',h1,?_,h5,h7,h8⟩
  rw[be h2]
  rw[h4] at h6
  have h9:=congrArg (fun z=>z[0]?) h6
  simpa using h9
open Go.RowKit
theorem yB{P:Program}(t e:TypeId)(sz:Nat){i:TypeInfo}(ht:P.underlying t=some (.slice e))(hi:P.info? e=some i)(hsz:i.size=sz)(A:Option Addr)(n c:Nat){k:Int}(h:Nat)(hk:k=(h:Int))(hh:h≤n)(hc:n≤c) :
    ∃ A':Option Addr,(∀ (kh:IntKind) (W:World),(Instr.slice t (.slice A n c) none (some (.int kh k)) none).run P W = .ok (.slice A' h c) W) ∧
      ∀ {α:Type} (m:Bool) (e':TypeId) (R:World→α→List Value→Prop) (w:World) (xs:List α),aR m e' sz R w (.slice A n c) xs→aR m e' sz R w (.slice A' h c) (xs.take h):=by
  subst hk
  obtain⟨A',h1,h2⟩:=uD (P:=P) t e sz ht hi hsz A n c 0 h (Nat.zero_le _) hh hc
  refine⟨A',fun kh W=>?_,fun m e' R w xs hr=>by simpa using h2 m e' R w xs hr⟩
  have h3:=h1 .i64 kh W
  have hel:P.elem t=e:=by simp[Program.elem,ht]
  have hu:P.underlying t=some (.slice (P.elem t)):=by rw[hel];exact ht
  rw[run_slice_h W t A n c hu kh (h:Int) (Int.natCast_nonneg _) (by omega)]
  rw[run_slice_lh W t A n c hu .i64 kh (((0:Nat) : Int)) (h:Int) (Int.natCast_nonneg _) (by omega) (by omega)] at h3
  simpa using h3
theorem oy{o:Oper}{ev:Operand→Value}{P:Program}{w:World}{t:TypeId}{x y:Operand}{A:Option Addr}{n c:Nat}{kl:IntKind}{k:Int}{v:Value}{e:TypeId}(ho:o.op = .slice t x none (some y) none)(ht:P.underlying t=some (.slice e))(hx:ev x = .slice A n c)(hy:ev y = .int kl k)
    (hr:(Instr.slice t (.slice A n c) none (some (.int kl k)) none).run P w = .ok v w) : (execOp ev o).run P w = .ok (.value v) w:=by
  have hu:(underlying t).run P w = .ok (.slice e) w:=run_underlying ht w
  unfold execOp
  simp only[ho,Option.map_some,Option.map_none,hx,hy,Instr.sliceAt,Sem.run_bind,hu,hr,Result.andThen,Sem.run_pure]
theorem s6{P:Program}(t e:TypeId)(sz:Nat){i:TypeInfo}(ht:P.underlying t=some (.slice e))(hi:P.info? e=some i)(hsz:i.size=sz)(A:Option Addr)(n c:Nat){lo up:Int}(k h:Nat)(hlo:lo=(k:Int))(hup:up=(h:Int))(hk:k≤h)(hh:h≤n)(hc:n≤c) :
    ∃ A':Option Addr,(∀ (kl kh:IntKind) (W:World),(Instr.slice t (.slice A n c) (some (.int kl lo)) (some (.int kh up)) none).run P W = .ok (.slice A' (h-k) (c-k)) W) ∧
      ∀ {α:Type} (m:Bool) (e':TypeId) (R:World→α→List Value→Prop) (w:World) (xs:List α),aR m e' sz R w (.slice A n c) xs→aR m e' sz R w (.slice A' (h-k) (c-k)) ((xs.take h).drop k):=by
  subst hlo hup
  exact uD t e sz ht hi hsz A n c k h hk hh hc
theorem lO{o:Oper}{ev:Operand→Value}{P:Program}{w:World}{t:TypeId}{x y z:Operand}{A:Option Addr}{n c:Nat}{kl kh:IntKind}{lo hi:Int}{v:Value}{e:TypeId}(ho:o.op = .slice t x (some y) (some z) none)(ht:P.underlying t=some (.slice e))(hx:ev x = .slice A n c)(hy:ev y = .int kl lo)(hz:ev z = .int kh hi)
    (hr:(Instr.slice t (.slice A n c) (some (.int kl lo)) (some (.int kh hi)) none).run P w = .ok v w) : (execOp ev o).run P w = .ok (.value v) w:=by
  have hu:(underlying t).run P w = .ok (.slice e) w:=run_underlying ht w
  unfold execOp
  simp only[ho,Option.map_some,Option.map_none,hx,hy,hz,Instr.sliceAt,Sem.run_bind,hu,hr,Result.andThen,Sem.run_pure]
theorem lH{P:Program}(t e:TypeId)(sz:Nat){i:TypeInfo}(ht:P.underlying t=some (.slice e))(hi:P.info? e=some i)(hsz:i.size=sz)(A:Option Addr)(n c:Nat){lo:Int}(k:Nat)(hlo:lo=(k:Int))(hk:k≤n) :
    ∃ A':Option Addr,(∀ (kl:IntKind) (W:World),(Instr.slice t (.slice A n c) (some (.int kl lo)) none none).run P W = .ok (.slice A' (n-k) (c-k)) W) ∧
      ∀ {α:Type} (m:Bool) (e':TypeId) (R:World→α→List Value→Prop) (w:World) (xs:List α),aR m e' sz R w (.slice A n c) xs→aR m e' sz R w (.slice A' (n-k) (c-k)) (xs.drop k):=by
  subst hlo
  exact f5 t e sz ht hi hsz A n c k hk
open Go.RowKit
theorem ym{P:Program}{w:World}{ev:Operand→Value}{o:Oper}{x y:Operand}{ts:Array TypeId}{k:IntKind}{a b:Int}(ho:o.op = .call { callee:=.builtin .min,args:=#[x,y],argTypes:=ts })(hx:ev x = .int k a)(hy:ev y = .int k b) : (execOp ev o).run P w = .ok (.value (.int k (min a b))) w:=by
  have h:(Builtin.min_ ts o.type #[.int k a,.int k b]).run P w = .ok (.int k (min a b)) w:=by
    simp[Builtin.min_,Builtin.min2]
    split<;>simp[Int.min_def]<;>omega
  unfold execOp
  simp only[ho,resolve,invoke,builtin,Sem.run_bind,Sem.run_pure,Result.andThen_ok,List.map_toArray,List.map_cons,List.map_nil,hx,hy,h]
theorem aR.adr{α:Type}{m:Bool}{e:TypeId}{sz:Nat}{R:World→α→List Value→Prop}{w:World}{A:Option Addr}{n c:Nat}{xs:List α}(h:aR m e sz R w (.slice A n c) xs) : 0<n→∃ b off,A=some ⟨b,off,none⟩:=fun hn=>by
  obtain⟨A',c',hv,hc1,hc2,h0,h3⟩:=h
  injection hv with e1 e2 e3
  subst e1 e2 e3
  obtain⟨b,off,cells,t,fr,hA,_⟩:=h3 hn
  exact⟨b,off,hA⟩
theorem aR.cap{α:Type}{m:Bool}{e:TypeId}{sz:Nat}{R:World→α→List Value→Prop}{w:World}{A:Option Addr}{n c:Nat}{xs:List α}(h:aR m e sz R w (.slice A n c) xs) : n≤c:=by
  obtain⟨A',c',hv,h1,_⟩:=h
  injection hv with _ e2 e3
  subst e2 e3
  exact h1
theorem wC{P:Program}{w:World}{ev:Operand→Value}{o:Oper}{x y z:Operand}{t e:TypeId}{A:Option Addr}{n c:Nat}{k1 k2:IntKind}{i1 i2:Int}(ho:o.op = .slice t x none (some y) (some z))(ht:P.underlying t=some (.slice e))(hi:(P.info? e).map (·.size)=some 1)
    (hx:ev x = .slice A n c) (hy:ev y = .int k1 i1) (hz:ev z = .int k2 i2) (h1:i1=(n:Int)) (h2:i2=(n:Int)) (hc1:n≤c) (hA:0<n→∃ b off,A=some ⟨b,off,none⟩) : (execOp ev o).run P w = .ok (.value (.slice A n n)) w:=by
  subst h1 h2
  obtain⟨i0,hi0,hs⟩:=Option.map_eq_some_iff.1 hi
  have hel:P.elem t=e:=by simp[Program.elem,ht]
  have hu:P.underlying t=some (.slice (P.elem t)):=by rw[hel];exact ht
  have hr:=run_slice_hm (P:=P) w t A n c hu k1 k2 ((n:Nat) : Int) ((n:Nat) : Int) (by omega) (Int.le_refl _) (by omega)
  have hA:(if n=0 then A else A.map (·.add 0))=A:=by
    split
    · rfl
    · rename_i hne
      obtain⟨b,off,rfl⟩:=hA (by omega)
      rfl
  have hr2:(Instr.slice t (.slice A n c) none (some (.int k1 ((n:Nat) : Int))) (some (.int k2 ((n:Nat) : Int)))).run P w = .ok (.slice A n n) w:=by
    rw[hr,hel]
    simp[sizeOf,typeInfo,hi0,hs,sliced,Result.andThen]
    simpa using hA
  have hu2:(underlying t).run P w = .ok (.slice e) w:=run_underlying ht w
  unfold execOp
  simp only[ho,Option.map_some,Option.map_none,hx,hy,hz,Instr.sliceAt,Sem.run_bind,hu2,hr2,Result.andThen,Sem.run_pure]
theorem aS.full{m:Bool}{w:World}{A:Option Addr}{n c:Nat}{xs:List Int}(h:aS m w (.slice A n c) xs) : aS m w (.slice A n n) xs:=by
  obtain⟨A',c',hv,hc1,hc2,h0,h3⟩:=h
  injection hv with e1 e2 e3
  subst e1 e2 e3
  refine⟨A,xs.length,rfl,Nat.le_refl _,Nat.le_trans hc1 hc2,fun hA=>?_,h3⟩
  have:=h0 hA
  omega
theorem o8{P:Program}{A:Option Addr}{c:Nat}(w:World) : (Builtin.firstCells 1 0 (.slice A 0 c)).run P w = .ok #[] w:=by
  cases A with
  | none=>simp[Builtin.firstCells]
  | some a =>
    have:=run_loadCells_list (P:=P) w a [] (fun j v hj=>by simp at hj)
    simpa [Builtin.firstCells] using this
theorem zG{P:Program}{m:Bool}{w:World}{t e:TypeId}{A:Option Addr}{n c:Nat}{ys:List Int}(ht:P.underlying t=some (.slice e))(h:aS m w (.slice A n c) ys)(h0:ys=[]) : Src P 1 t (.slice A n c) 0 [] w:=by
  subst h0
  obtain⟨A',c',hv,hc1,hc2,h0,h3⟩:=h
  injection hv with e1 e2 e3
  subst e1 e2 e3
  exact⟨.inl ⟨e,ht⟩,fun w'=>by simp[Builtin.lenOf],o8 w,o8 w.drew,rfl,fun u hu=>by cases hu⟩
section
variable {P:Program}{n:Nat}{D:List Deferred}{F:Fr}{w:World}{K:Fr→World→Prop}{Q:Exit→Act→World→Prop}{d:Option Tmp}{t:TypeId}{s:String}{af:Array Edge}{gu:Option (Nat × Bool)}
end
end Go.Proofs.YtpglhicfhppaiaaGreat
namespace Go.Proofs.YtpglhicfhppaiaaGreat
def wi (x:Nat) : Nat:=(x/2) ^^^ (x%2*40961)
def gS:Nat→Nat→Nat
  | 0,x=>x
  | k+1,x=>wi (gS k x)
def xW (i:Nat) : Nat:=gS 8 i
theorem y9{x:Nat}(h:x<65536) : wi x<65536:=by
  unfold wi
  exact Nat.xor_lt_two_pow (n:=16) (by omega) (by omega)
theorem mT{x:Nat}(h:x<65536) : ∀ k,gS k x<65536
  | 0=>h
  | k+1=>y9 (mT h k)
theorem rO{i:Nat}(h:i<256) : xW i<65536:=mT (by omega) 8
def vI (s c:Nat) : Nat:=(s/256) ^^^ xW ((s%256) ^^^ c)
theorem rY{a b:Nat}(ha:a<256)(hb:b<256) : a ^^^ b<256:=Nat.xor_lt_two_pow (n:=8) ha hb
theorem vB{a b:Nat}(ha:a<65536)(hb:b<65536) : a ^^^ b<65536:=Nat.xor_lt_two_pow (n:=16) ha hb
theorem vv{s c:Nat}(hs:s<65536)(hc:c<256) : vI s c<65536:=vB (by omega) (rO (rY (by omega) hc))
def xi (a b:Int) : Int:=((a.toNat ^^^ b.toNat:Nat) : Int)
theorem Cp{a b:Int}(ha:0≤a∧a<256)(hb:0≤b∧b<256) : 0≤xi a b∧xi a b<256:=by
  have:=rY (a:=a.toNat) (b:=b.toNat) (by omega) (by omega)
  unfold xi
  omega
theorem y2(n:Nat) : xi (((n:Nat) : Int)/2) ((((n:Nat) : Int)%2)*40961%65536)=((wi n:Nat) : Int):=by
  unfold xi wi
  rw[show(((n:Nat) : Int)/2).toNat=n/2 from by omega,show((((n:Nat) : Int)%2)*40961%65536).toNat=n%2*40961 from by omega]
def jE (i:Int) : Int:=((xW i.toNat:Nat) : Int)
theorem p5{i:Int}(h:0≤i∧i<256) : 0≤jE i∧jE i<65536:=by
  have:=rO (i:=i.toNat) (by omega)
  unfold jE
  omega
def ro (s c:Int) : Int:=xi (s/256) (jE (xi (s%256) c))
theorem w9{s c:Int}(hs:0≤s∧s<65536)(hc:0≤c∧c<256) : ro s c=((vI s.toNat c.toNat:Nat) : Int):=by
  unfold ro jE xi vI
  rw[show(s/256).toNat=s.toNat/256 from by omega,show(s%256).toNat=s.toNat%256 from by omega]
  simp only[Int.toNat_natCast]
theorem oI{s c:Int}(hs:0≤s∧s<65536)(hc:0≤c∧c<256) : 0≤ro s c∧ro s c<65536:=by
  have:=vv (s:=s.toNat) (c:=c.toNat) (by omega) (by omega)
  rw[w9 hs hc]
  omega
def cE (s:Int)(b:List Int) : Int:=b.foldl ro s
theorem iV:∀ (b:List Int){s:Int},(0≤s∧s<65536)→(∀ x,x∈b→0≤x∧x<256)→0≤cE s b∧cE s b<65536
  | [],s,hs,_=>hs
  | c :: b,s,hs,hb=>iV b (oI hs (hb c (List.mem_cons_self ..))) fun x hx=>hb x (List.mem_cons_of_mem _ hx)
theorem vg(s:Int)(a b:List Int) : cE s (a++b)=cE (cE s a) b:=by unfold cE;rw[List.foldl_append]
def bS (s:Int) : List Int:=[s%256,s/256%256]
theorem i9(s:Int) : (bS s).length=2:=rfl
def ej (b:List Int) : Bool:=decide (2≤b.length)&&decide (bS (cE 65535 (b.take (b.length-2)))=b.drop (b.length-2))
open Go.RowKit
def AR (P:Program)(ty:TypeId) : Option (Nat × TypeId):=match P.underlying ty with | some (.array m e)=>some (m,e) | _=>none
theorem uZ{P:Program}{ty e:TypeId}{m:Nat}(h:AR P ty=some (m,e)) : P.underlying ty=some (.array m e):=by
  unfold AR at h
  split at h
  · injection h with h
    injection h with h1 h2
    subst h1 h2
    assumption
  · cases h
theorem t6{P:Program}{w:World}{ev:Operand→Value}{o:Oper}{t e:TypeId}{x ix:Operand}{b off j m:Nat}{k:IntKind}{i:Int}(ho:o.op = .indexAddr t x ix)(ht:P.underlying t=some (.array m e))(hi:(P.info? e).map (·.size)=some 1)
    (hx:ev x = .pointer (some ⟨b,off,none⟩)) (hix:ev ix = .int k i) (hj:i=j) (hlt:j<m) : (execOp ev o).run P w = .ok (.value (.pointer (some ⟨b,off+j,none⟩))) w:=by
  subst hj
  obtain⟨i0,hi0,hs⟩:=Option.map_eq_some_iff.1 hi
  unfold execOp
  have h2:(0:Int)≤(j:Int)∧(j:Int)<(m:Int):=by omega
  simp[ho,hx,hix,Instr.indexAt,Instr.sureAddr,asIntOf,run_underlying ht,Result.andThen,h2,sizeOf,typeInfo,hi0,hs,ic,hlt]
section
variable {P:Program}{n:Nat}{D:List Deferred}{F:Fr}{w:World}{K:Fr→World→Prop}{Q:Exit→Act→World→Prop}{d:Option Tmp}{t:TypeId}{s:String}{af:Array Edge}{gu:Option (Nat × Bool)}
theorem AO{ty:TypeId}{x ix:Operand}{b off:Nat}(m j:Nat)(i:Int)(hj:i=j)(hlt:j<m)(h:K (pt d (.pointer (some ⟨b,off+j,none⟩)) F) w)
    (hx:dW F x=some (.pointer (some ⟨b,off,none⟩)):=by kernel_rfl) (hi:xM F ix=some i:=by kernel_rfl) (hs:((AR P ty).bind fun p=>(P.info? p.2).map fun q=>(p.1,q.size),eR n d)=(some (m,1),true):=by kernel_rfl) : OG P ⟨d,.indexAddr ty x ix,t,s,af,gu⟩ n D F w K Q:=by
  simp only[Prod.mk.injEq] at hs
  obtain⟨hs,hd⟩:=hs
  obtain⟨k,hi⟩:=kg hi
  cases he:AR P ty with
  | none=>rw[he] at hs;simp at hs
  | some p =>
    obtain⟨m',e⟩:=p
    rw[he] at hs
    obtain⟨q,hq,h3⟩:=Option.map_eq_some_iff.1 (show(P.info? e).map (fun q=>(m',q.size))=some (m,1) from hs)
    injection h3 with h4 h5
    subst h4
    exact⟨fun a ha K' hK=>fi _ rfl (t6 rfl (uZ he) (by rw[hq];simp[h5]) (ha.ev hx) (ha.ev hi) hj hlt) (hK _ _ _ h (ha.put hd))⟩
end
theorem AD{a b:Int}(ha:0≤a∧a<256)(hb:0≤b∧b<256) : bits .xor .u8 a b=xi a b:=u8_xor a b ha.1 ha.2 hb.1 hb.2
theorem vi{a b:Int}(ha:0≤a∧a<65536)(hb:0≤b∧b<65536) : bits .xor .u16 a b=xi a b:=u16_xor a b ha.1 ha.2 hb.1 hb.2
theorem uE{a:Int}(ha:0≤a∧a<65536) : bits .and .u16 a 1=a%2:=by
  rw[u16_and a 1 ha.1 ha.2 (by omega) (by omega)]
  show((a.toNat &&& 1:Nat) : Int)=_
  rw[Nat.and_one_is_mod]
  omega
def gw (k:Nat) : Array Value:=((List.range 256).map fun i=>if i<k then Value.int .u16 (jE i) else Value.int .u16 0).toArray
theorem dO(k:Nat) : (gw k).size=256:=by simp[gw]
theorem oq(k:Nat) : (gw k).all (·.oneCell')=true:=by
  unfold gw
  rw[List.all_toArray,List.all_eq_true]
  intro v hv
  rw[List.mem_map] at hv
  obtain⟨i,_,rfl⟩:=hv
  split<;>rfl
theorem w7{i k:Nat}(hk:k=8)(hi:i<256) : (gw i).setIfInBounds i (.int .u16 ((gS k i:Nat) : Int))=gw (i+1):=by
  subst hk
  unfold gw
  rw[List.setIfInBounds_toArray]
  congr 1
  apply List.ext_getElem?
  intro j
  rw[List.getElem?_set]
  by_cases hj:j<256
  · by_cases hij:i=j
    · subst hij
      simp[hi,jE,xW]
    · simp[hij,hj]
      congr 1
      simp only[eq_iff_iff]
      omega
  · rw[if_neg (by omega)]
    simp[hj]
theorem xw{i:Nat}(h:i<256) : (gw 256)[i]? = some (.int .u16 (jE i)):=by simp[gw,h]
def eB (s:Int)(b:List Int) : Nat→Int
  | 0=>s
  | k+1=>ro (eB s b k) (b.getD k 0)
theorem lC(s:Int)(b:List Int) : ∀ k,k≤b.length→eB s b k=cE s (b.take k)
  | 0,_=>by simp[eB,cE]
  | k+1,h=>by
    rw[List.take_succ_eq_append_getElem (by omega),vg,← lC s b k (by omega)]
    show ro _ (b.getD k 0)=_
    rw[List.getD_eq_getElem?_getD,List.getElem?_eq_getElem (by omega)]
    rfl
theorem wG{s:Int}{b:List Int}{k:Nat}(h:k=b.length) : eB s b k=cE s b:=by
  subst h
  rw[lC _ _ _ (Nat.le_refl _),List.take_length]
theorem oJ{s:Int}{b:List Int}(hs:0≤s∧s<65536)(hb:∀ x,x∈b→0≤x∧x<256) : ∀ k,0≤eB s b k∧eB s b k<65536
  | 0=>hs
  | k+1=>oI (oJ hs hb k) (fL (by omega) hb k)
theorem wE{i:Int}(h:0≤i) : jE ((i.toNat:Nat) : Int)=jE i:=by rw[Int.toNat_of_nonneg h]
open Go.RowKit
theorem mP{w:World}:Calls Tryz.prog 167 #[] w (bv (.agg (gw 256)) w):=by
 refine en 23 Tryz.func167 rfl<|sg<|L0<|bN (gw 0) fun c G o p q=>ng<|L0<|bN (gw 0) fun a r s t u=>nt<|sq<|sg<|?_
 refine Pl 1<|nt<|bk<|?_
 refine ie (fun x=>[(0,.pointer (some ⟨c,0,none⟩)),(1,.pointer (some ⟨a,0,none⟩)),(4,.int .i64 ((x:Nat) : Int))]) (fun(x:Nat) w'=>ay [a] r w'∧w'.heap[a]? = some (.cells (gw x) 218 (0,0))∧(x≤256)) (fun x=>256-x) 0 ⟨ay.refl _ _,t,(by(try dsimp only);omega)⟩ ?_
 rintro i g ⟨h,v,y⟩
 refine ik [(0,.pointer (some ⟨c,0,none⟩)),(1,.pointer (some ⟨a,0,none⟩)),(4,.int .i64 ((i:Nat) : Int))] ?_
 have j:g.heap[a]? = some (.cells (gw i) 218 (0,0)):=v
 have H:i≤256:=y
 refine sg<|Pl 1<|nt<|sq<|?_
 have l:=ud u h s
 have m:=aD q l
 refine cb ((decide (((i:Nat) : Int)<256))) (fun e=>?_) (fun e=>?_)
 have z:=of_decide_eq_true e
 refine bK<|sq<|bk<|sg<|Pl 2<|ng<|Pl 1<|L0<|Oe (.int .u16 (IntKind.u16.wrap ((i:Nat) : Int))) (.int .u16 ((gS 0 i:Nat) : Int)) (congrArg (Value.int .u16) (qy (x:=((i:Nat) : Int)) (by omega)))<|Pl 1<|nl<|?_
 refine tn<|sq<|sg<|Pl 1<|nt<|bk<|?_
 refine ie (fun x=>[(0,.pointer (some ⟨c,0,none⟩)),(1,.pointer (some ⟨a,0,none⟩)),(2,.int .i64 ((i:Nat) : Int)),(3,.int .u16 ((gS x i:Nat) : Int)),(4,.int .i64 ((i:Nat) : Int)),(5,.bool (decide (((i:Nat) : Int)<256))),(6,.int .i64 ((i:Nat) : Int)),(7,.int .i64 ((i:Nat) : Int)),(8,.int .u16 ((gS 0 i:Nat) : Int)),(9,.int .i64 ((x:Nat) : Int))]) (fun(x:Nat) w'=>ay [] g w'∧(x≤8)) (fun x=>8-x) 0 ⟨ay.refl _ _,(by(try dsimp only);omega)⟩ ?_
 rintro k I ⟨d,A⟩
 refine ik [(0,.pointer (some ⟨c,0,none⟩)),(1,.pointer (some ⟨a,0,none⟩)),(2,.int .i64 ((i:Nat) : Int)),(3,.int .u16 ((gS k i:Nat) : Int)),(4,.int .i64 ((i:Nat) : Int)),(5,.bool (decide (((i:Nat) : Int)<256))),(6,.int .i64 ((i:Nat) : Int)),(7,.int .i64 ((i:Nat) : Int)),(8,.int .u16 ((gS 0 i:Nat) : Int)),(9,.int .i64 ((k:Nat) : Int))] ?_
 have J:k≤8:=A
 have K:=mT (x:=i) (by omega) k
 refine sg<|Pl 1<|nt<|sq<|?_
 have L:=aD m d
 refine cb ((decide (((k:Nat) : Int)<8))) (fun f=>?_) (fun f=>?_)
 have B:=of_decide_eq_true f
 refine bK<|sq<|bk<|go<|Pl 1<|L0<|Oe (.int .u16 (Int.fdiv ((gS k i:Nat) : Int) (2 ^ 1))) (.int .u16 (((gS k i:Nat) : Int)/2)) (congrArg (Value.int .u16) (jK _ _ _ (by decide)))<|Pl 1<|L0<|Oe (.int .u16 (bits .and .u16 ((gS k i:Nat) : Int) 1)) (.int .u16 (((gS k i:Nat) : Int)%2)) (congrArg (Value.int .u16) (uE (by omega)))<|Pl 1<|L0<|Oe (.int .u16 (bits .xor .u16 (((gS k i:Nat) : Int)/2) (((((gS k i:Nat) : Int)%2)*40961)%65536))) (.int .u16 ((gS (k+1) i:Nat) : Int)) (congrArg (Value.int .u16) ((vi (by omega) (by omega)).trans (y2 _)))<|Pl 1<|nl<|bn<|?_
 exact tn<|go<|L0<|Oi (((k:Nat) : Int)+1)<|Pl 1<|nl<|ew (k+1) ⟨d,(by(try dsimp only);omega)⟩ (by omega)
 have B:=of_decide_eq_false f
 refine xt<|tx<|tx<|bx<|tn<|go<|Pl 2<|L0<|AO (b:=a) (off:=0) 256 i ((i:Nat) : Int) rfl (by omega)<|?_
 refine L0<|co (hl:=(by rw[dO];simp;omega)) (ub d j) (0+i) ((gw i).setIfInBounds (0+i) (.int .u16 ((gS k i:Nat) : Int))) fun M C D=>?_
 have n:=C
 rw[Nat.zero_add,w7 (by omega) (by omega)] at n
 refine nl<|bn<|tn<|go<|L0<|Oi (((i:Nat) : Int)+1)<|Pl 1<|nl<|?_
 exact ew (i+1) ⟨(u1 h (uz d D) im),n,(by(try dsimp only);omega)⟩ (by omega)
 have z:=of_decide_eq_false e
 refine xt<|tx<|tx<|bx<|tn<|sg<|L0<|cj (hz:=(by rw[dO];kernel_rfl)) j<|?_
 refine L0<|bi (hz:=(by rw[dO];kernel_rfl)) (hv:=(by rw[dO,dO])) (h1:=(oq _)) (ub l p) ((gw i)) fun N E F=>nt<|rt<|Bk 256 (dO _) E<|?_
 have hi:i=256:=by omega
 subst hi
 exact⟨rfl,(ud m F o)⟩
theorem mI{m:Bool}{A:Option Addr}{cp:Nat}{b:List Int}{w:World}{s:Int}(hsl:aS m w (.slice A b.length cp) b)(hs:0≤s∧s<65536) :
    Calls Tryz.prog 166 #[.int .u16 s,.slice A b.length cp] w (bv (.int .u16 (cE s b)) w):=by
 have hln:=aR.len hsl
 have hb:=aS.range hsl
 refine en 26 Tryz.func166 rfl<|sg<|Pl 1<|ng<|L0<|Oc<|m1 (@mP w) fun D g=>L0<|bN (gw 0) fun c E h j l=>L0<|bi (hz:=(by rw[dO];kernel_rfl)) (hv:=(by rw[dO,dO])) (h1:=(oq _)) j ((gw 256)) fun n o q=>nt<|sq<|?_
 refine sg<|Pl 3<|nt<|bk<|?_
 refine ie (fun x=>[(0,.int .u16 (eB s b x)),(4,.int .u16 0),(5,.pointer (some ⟨c,0,none⟩)),(9,.slice A b.length cp),(10,.int .i64 ((b.length:Nat) : Int)),(11,.int .i64 ((x:Nat) : Int))]) (fun(x:Nat) w'=>ay [] n w'∧(x≤b.length)∧(0≤eB s b x∧eB s b x<65536)) (fun x=>b.length-x) 0 ⟨ay.refl _ _,(by(try dsimp only);omega),hs⟩ ?_
 rintro k F ⟨d,r,t⟩
 refine ik [(0,.int .u16 (eB s b k)),(4,.int .u16 0),(5,.pointer (some ⟨c,0,none⟩)),(9,.slice A b.length cp),(10,.int .i64 ((b.length:Nat) : Int)),(11,.int .i64 ((k:Nat) : Int))] ?_
 have G:k≤b.length:=r
 have H:0≤eB s b k∧eB s b k<65536:=t
 refine sg<|Pl 1<|nt<|sq<|?_
 have f:=aD g (ud l (aD q d) h)
 refine cb ((decide (((k:Nat) : Int)<((b.length:Nat) : Int)))) (fun e=>?_) (fun e=>?_)
 have u:=of_decide_eq_true e
 refine bK<|sq<|bk<|sg<|?_
 refine i8 (aS.at_ (aS.old hsl f) k (by omega)) fun y z B C I=>L0<|pn b.length k B (by omega)<|L0<|lf (p:=⟨y,z+k,none⟩) (v:=.int .u8 (b.getD k 0)) C<|Pl 1<|nt<|go<|Pl 1<|L0<|Oe (.int .u16 (Int.fdiv (eB s b k) (2 ^ 8))) (.int .u16 ((eB s b k)/256)) (congrArg (Value.int .u16) (jK _ _ _ (by decide)))<|Pl 3<|?_
 have J:=Cp (a:=((eB s b k)%256)) (b:=(b.getD k 0)) (by omega) (by omega)
 refine L0<|Oe (.int .u8 (bits .xor .u8 ((eB s b k)%256) (b.getD k 0))) (.int .u8 (xi ((eB s b k)%256) (b.getD k 0))) (congrArg (Value.int .u8) (AD (by omega) (by omega)))<|L0<|AO (b:=c) (off:=0) 256 (((xi ((eB s b k)%256) (b.getD k 0))).toNat) (xi ((eB s b k)%256) (b.getD k 0)) (by omega) (by omega)<|?_
 have K:=p5 (i:=(xi ((eB s b k)%256) (b.getD k 0))) (by omega)
 exact L0<|lf (p:=⟨c,0+((xi ((eB s b k)%256) (b.getD k 0))).toNat,none⟩) (v:=.int .u16 (jE ((xi ((eB s b k)%256) (b.getD k 0))))) (aa (ub d o) (by rw[Nat.zero_add,xw (by omega),wE (by omega)]))<|L0<|Oe (.int .u16 (bits .xor .u16 ((eB s b k)/256) (jE (xi ((eB s b k)%256) (b.getD k 0))))) (.int .u16 (eB s b (k+1))) (congrArg (Value.int .u16) (vi (by omega) (p5 (by omega))))<|Pl 1<|nl<|bn<|tn<|go<|L0<|Oi (((k:Nat) : Int)+1)<|Pl 1<|nl<|ew (k+1) ⟨d,(by(try dsimp only);omega),(oJ hs hb _)⟩ (by omega)
 have u:=of_decide_eq_false e
 refine xt<|tx<|tx<|bx<|tn<|sg<|Pl 2<|nt<|rt<|rr (.int .u16 (eB s b k))<|?_
 have hk:eB s b k=cE s b:=wG (by omega)
 rw[hk]
 exact⟨rfl,f⟩
theorem oS{m:Bool}{v:Value}{b:List Int}{w:World}(h:aS m w v b) : Calls Tryz.prog 166 #[.int .u16 65535,v] w (bv (.int .u16 (cE 65535 b)) w):=by
  obtain⟨A,cp,rfl,_,_⟩:=h.shape
  exact mI h (by decide)
theorem pO{m:Bool}{A:Option Addr}{cp:Nat}{b:List Int}{w:World}(hsl:aS m w (.slice A b.length cp) b) :
    Calls Tryz.prog 164 #[.slice A b.length cp] w (bv (.int .u16 (cE 65535 b)) w):=by
 refine en 5 Tryz.func164 rfl<|sg<|Pl 1<|ng<|Pl 1<|L0<|Oc<|m1 (oS hsl) fun c a=>Pl 1<|nt<|rt<|?_
 refine rr (.int .u16 (cE 65535 b))<|?_
 exact⟨rfl,a⟩
theorem ji{m:Bool}{v:Value}{b:List Int}{w:World}(h:aS m w v b) : Calls Tryz.prog 164 #[v] w (bv (.int .u16 (cE 65535 b)) w):=by
  obtain⟨A,cp,rfl,_,_⟩:=h.shape
  exact pO h
theorem gh{w:World}{s:Int}(hs:0≤s∧s<65536) : Calls Tryz.prog 163 #[.int .u16 s] w (fun e w'=>∃ v,e = .returned v∧cz w.heap.size w' v (bS s)∧ay [] w w'):=by
 refine en 9 Tryz.func163 rfl<|sg<|Pl 1<|ng<|Pl 3<|L0<|Oe (.int .u16 (Int.fdiv s (2 ^ 8))) (.int .u16 (s/256)) (congrArg (Value.int .u16) (jK _ _ _ (by decide)))<|Pl 1<|L0<|cR (m:=2) (e:=5) #[.int .u8 (s%256),.int .u8 ((s/256)%256)] fun a g b c d=>?_
 have f:=cW b (xs:=[(s%256),((s/256)%256)]) (by as_aux_lemma=>kernel_rfl) (ap (by omega) (ap (by omega) aO)) (by(try simp only[List.length_cons,List.length_nil]);omega) c
 refine Pl 1<|nt<|rt<|rr (.slice (some ⟨a,0,none⟩) 2 2)<|?_
 exact⟨_,rfl,f,d⟩
theorem jR{b:List Int}{n:Nat}(h:2≤b.length)(hn:n=b.length-2) : ej b=decide (bS (cE 65535 (b.take n))=b.drop n):=by
  subst hn
  unfold ej
  simp[h]
theorem yp{b:List Int}(h:b.length<2) : ej b=false:=by
  unfold ej
  simp
  omega
theorem ra{m:Bool}{A:Option Addr}{cp:Nat}{b:List Int}{w:World}(hsl:aS m w (.slice A b.length cp) b)(hb:b.length≤1048576)(hcp:b.length≤cp) :
    Calls Tryz.prog 161 #[.slice A b.length cp] w (bv (.bool (ej b)) w):=by
 have hc:=aR.len hsl
 refine en 22 Tryz.func161 rfl<|sg<|Pl 1<|ng<|Pl 2<|L0<|Oi (((b.length:Nat) : Int)-2)<|Pl 1<|nt<|sq<|?_
 refine Rg 16 (fun w'=>True) fun R f=>aZ trivial fun d=>Rt 0 d<|Rt 1 d<|Rt 2 d<|we 9 ((decide (0≤(((b.length:Nat) : Int)-2)))) (fun p=>?_) (fun p=>?_)
 have I:=of_decide_eq_true p
 refine Rt 3 d<|Rt 4 d<|v6 (yB (P:=Tryz.prog) 27 5 1 Tryz.underlying27 rfl rfl A b.length cp (k:=(((b.length:Nat) : Int)-2)) (((((b.length:Nat) : Int)-2)).toNat) (by omega) (by omega) (by omega)) fun q hrun60 i=>Rr 5 d (.slice q (((((b.length:Nat) : Int)-2)).toNat) cp) (fun _ _=>oy (kl:=.i64) (k:=(((b.length:Nat) : Int)-2)) (A:=A) (n:=b.length) (c:=cp) rfl Tryz.underlying27 (by kernel_rfl) (by kernel_rfl) (hrun60 _ _))<|Rt 9 d<|Rt 10 d<|v6 (lH (P:=Tryz.prog) 27 5 1 Tryz.underlying27 rfl rfl A b.length cp (lo:=(((b.length:Nat) : Int)-2)) (((((b.length:Nat) : Int)-2)).toNat) (by omega) (by omega)) fun g hrun63 e=>Rr 11 d (.slice g (b.length-(((((b.length:Nat) : Int)-2)).toNat)) (cp-(((((b.length:Nat) : Int)-2)).toNat))) (fun _ _=>f6 (kl:=.i64) (k:=(((b.length:Nat) : Int)-2)) (A:=A) (n:=b.length) (c:=cp) rfl Tryz.underlying27 (by kernel_rfl) (by kernel_rfl) (hrun63 _ _))<|?_
 refine R2 6 12 rfl rfl ?_ ?_
 have h:=aS.old hsl f
 refine  Oc (args:=#[.slice q (((((b.length:Nat) : Int)-2)).toNat) cp])<|m1 (ji (i _ _ _ _ _ h)) fun S j=>?_
 have T:=iV (b.take (((((b.length:Nat) : Int)-2)).toNat)) (s:=65535) (by decide) (aS.range (i _ _ _ _ _ h))
 refine aZ trivial fun U=>?_
 refine R2 7 12 rfl rfl ?_ ?_
 refine  Oc<|dX (gh (s:=(cE 65535 (b.take (((((b.length:Nat) : Int)-2)).toNat)))) (by omega)) fun x y V l W X z=>aZ trivial fun Y=>?_
 refine R2 8 12 rfl rfl ?_ ?_
 refine  iD (.string (strOfNums (bS (cE 65535 (b.take (((((b.length:Nat) : Int)-2)).toNat)))))) (cl (A:=x) (n:=(bS (cE 65535 (b.take (((((b.length:Nat) : Int)-2)).toNat)))).length) (c:=y) rfl (by kernel_rfl) Tryz.underlying27 Tryz.underlying5 Tryz.underlying9 (l).rd)<|aZ trivial fun Z=>?_
 have B:=aD j z
 have C:=aS.old h B
 refine R0 12 rfl<|iD (.string (strOfNums (b.drop (((((b.length:Nat) : Int)-2)).toNat)))) (cl (A:=g) (n:=(b.length-(((((b.length:Nat) : Int)-2)).toNat))) (c:=(cp-(((((b.length:Nat) : Int)-2)).toNat))) rfl (by kernel_rfl) Tryz.underlying27 Tryz.underlying5 Tryz.underlying9 (e _ _ _ _ _ C))<|aZ trivial fun r=>Rr 13 r (.bool (decide ((bS (cE 65535 (b.take (((((b.length:Nat) : Int)-2)).toNat))))=(b.drop (((((b.length:Nat) : Int)-2)).toNat))))) (fun _ _=>eH (a:=(strOfNums (bS (cE 65535 (b.take (((((b.length:Nat) : Int)-2)).toNat)))))) (b:=(strOfNums (b.drop (((((b.length:Nat) : Int)-2)).toNat)))) rfl (by kernel_rfl) (by kernel_rfl) (iB (l).rd (e _ _ _ _ _ C)))<|Rt 14 r<|Rt 15 r<|re<|tn<|rt<|rr (.bool (decide ((bS (cE 65535 (b.take (((((b.length:Nat) : Int)-2)).toNat))))=(b.drop (((((b.length:Nat) : Int)-2)).toNat)))))<|?_
 have hs:ej b=(decide ((bS (cE 65535 (b.take (((((b.length:Nat) : Int)-2)).toNat))))=(b.drop (((((b.length:Nat) : Int)-2)).toNat)))):=(jR (by omega) (by omega))
 rw[hs]
 exact⟨rfl,(aD f B)⟩
 have D:=aD j z
 have E:=aS.old h D
 refine  iD (.string (strOfNums (b.drop (((((b.length:Nat) : Int)-2)).toNat)))) (cl (A:=g) (n:=(b.length-(((((b.length:Nat) : Int)-2)).toNat))) (c:=(cp-(((((b.length:Nat) : Int)-2)).toNat))) rfl (by kernel_rfl) Tryz.underlying27 Tryz.underlying5 Tryz.underlying9 (e _ _ _ _ _ E))<|aZ trivial fun a0=>R0 8 rfl<|iD (.string (strOfNums (bS (cE 65535 (b.take (((((b.length:Nat) : Int)-2)).toNat)))))) (cl (A:=x) (n:=(bS (cE 65535 (b.take (((((b.length:Nat) : Int)-2)).toNat)))).length) (c:=y) rfl (by kernel_rfl) Tryz.underlying27 Tryz.underlying5 Tryz.underlying9 (l).rd)<|aZ trivial fun t=>Rr 13 t (.bool (decide ((bS (cE 65535 (b.take (((((b.length:Nat) : Int)-2)).toNat))))=(b.drop (((((b.length:Nat) : Int)-2)).toNat))))) (fun _ _=>eH (a:=(strOfNums (bS (cE 65535 (b.take (((((b.length:Nat) : Int)-2)).toNat)))))) (b:=(strOfNums (b.drop (((((b.length:Nat) : Int)-2)).toNat)))) rfl (by kernel_rfl) (by kernel_rfl) (iB (l).rd (e _ _ _ _ _ E)))<|Rt 14 t<|Rt 15 t<|re<|tn<|rt<|rr (.bool (decide ((bS (cE 65535 (b.take (((((b.length:Nat) : Int)-2)).toNat))))=(b.drop (((((b.length:Nat) : Int)-2)).toNat)))))<|?_
 have hs:ej b=(decide ((bS (cE 65535 (b.take (((((b.length:Nat) : Int)-2)).toNat))))=(b.drop (((((b.length:Nat) : Int)-2)).toNat)))):=(jR (by omega) (by omega))
 rw[hs]
 exact⟨rfl,(aD f D)⟩
 have F:=aS.old h j
 refine  iD (.string (strOfNums (b.drop (((((b.length:Nat) : Int)-2)).toNat)))) (cl (A:=g) (n:=(b.length-(((((b.length:Nat) : Int)-2)).toNat))) (c:=(cp-(((((b.length:Nat) : Int)-2)).toNat))) rfl (by kernel_rfl) Tryz.underlying27 Tryz.underlying5 Tryz.underlying9 (e _ _ _ _ _ F))<|aZ trivial fun a1=>R0 7 rfl<|Oc<|dX (gh (s:=(cE 65535 (b.take (((((b.length:Nat) : Int)-2)).toNat)))) (by omega)) fun J K a2 G a3 a4 L=>aZ trivial fun a5=>R0 8 rfl<|iD (.string (strOfNums (bS (cE 65535 (b.take (((((b.length:Nat) : Int)-2)).toNat)))))) (cl (A:=J) (n:=(bS (cE 65535 (b.take (((((b.length:Nat) : Int)-2)).toNat)))).length) (c:=K) rfl (by kernel_rfl) Tryz.underlying27 Tryz.underlying5 Tryz.underlying9 (G).rd)<|aZ trivial fun u=>Rr 13 u (.bool (decide ((bS (cE 65535 (b.take (((((b.length:Nat) : Int)-2)).toNat))))=(b.drop (((((b.length:Nat) : Int)-2)).toNat))))) (fun _ _=>eH (a:=(strOfNums (bS (cE 65535 (b.take (((((b.length:Nat) : Int)-2)).toNat)))))) (b:=(strOfNums (b.drop (((((b.length:Nat) : Int)-2)).toNat)))) rfl (by kernel_rfl) (by kernel_rfl) (iB (G).rd (e _ _ _ _ _ F)))<|Rt 14 u<|Rt 15 u<|re<|tn<|rt<|rr (.bool (decide ((bS (cE 65535 (b.take (((((b.length:Nat) : Int)-2)).toNat))))=(b.drop (((((b.length:Nat) : Int)-2)).toNat)))))<|?_
 have hs:ej b=(decide ((bS (cE 65535 (b.take (((((b.length:Nat) : Int)-2)).toNat))))=(b.drop (((((b.length:Nat) : Int)-2)).toNat)))):=(jR (by omega) (by omega))
 rw[hs]
 exact⟨rfl,(aD f (aD j L))⟩
 have o:=aS.old hsl f
 refine  iD (.string (strOfNums (b.drop (((((b.length:Nat) : Int)-2)).toNat)))) (cl (A:=g) (n:=(b.length-(((((b.length:Nat) : Int)-2)).toNat))) (c:=(cp-(((((b.length:Nat) : Int)-2)).toNat))) rfl (by kernel_rfl) Tryz.underlying27 Tryz.underlying5 Tryz.underlying9 (e _ _ _ _ _ o))<|aZ trivial fun a6=>R0 6 rfl<|Oc (args:=#[.slice q (((((b.length:Nat) : Int)-2)).toNat) cp])<|m1 (ji (i _ _ _ _ _ o)) fun a7 M=>?_
 have a8:=iV (b.take (((((b.length:Nat) : Int)-2)).toNat)) (s:=65535) (by decide) (aS.range (i _ _ _ _ _ o))
 refine aZ trivial fun a9=>R0 7 rfl<|Oc<|dX (gh (s:=(cE 65535 (b.take (((((b.length:Nat) : Int)-2)).toNat)))) (by omega)) fun N O aa H ab ac Q=>aZ trivial fun ad=>R0 8 rfl<|iD (.string (strOfNums (bS (cE 65535 (b.take (((((b.length:Nat) : Int)-2)).toNat)))))) (cl (A:=N) (n:=(bS (cE 65535 (b.take (((((b.length:Nat) : Int)-2)).toNat)))).length) (c:=O) rfl (by kernel_rfl) Tryz.underlying27 Tryz.underlying5 Tryz.underlying9 (H).rd)<|aZ trivial fun v=>Rr 13 v (.bool (decide ((bS (cE 65535 (b.take (((((b.length:Nat) : Int)-2)).toNat))))=(b.drop (((((b.length:Nat) : Int)-2)).toNat))))) (fun _ _=>eH (a:=(strOfNums (bS (cE 65535 (b.take (((((b.length:Nat) : Int)-2)).toNat)))))) (b:=(strOfNums (b.drop (((((b.length:Nat) : Int)-2)).toNat)))) rfl (by kernel_rfl) (by kernel_rfl) (iB (H).rd (e _ _ _ _ _ o)))<|Rt 14 v<|Rt 15 v<|re<|tn<|rt<|rr (.bool (decide ((bS (cE 65535 (b.take (((((b.length:Nat) : Int)-2)).toNat))))=(b.drop (((((b.length:Nat) : Int)-2)).toNat)))))<|?_
 have hs:ej b=(decide ((bS (cE 65535 (b.take (((((b.length:Nat) : Int)-2)).toNat))))=(b.drop (((((b.length:Nat) : Int)-2)).toNat)))):=(jR (by omega) (by omega))
 rw[hs]
 exact⟨rfl,(aD f (aD M Q))⟩
 have I:=of_decide_eq_false p
 refine Ro 3 d<|Ro 4 d<|Ro 5 d<|Ro 6 d<|Ro 7 d<|Ro 8 d<|Ro 9 d<|Ro 10 d<|Ro 11 d<|Ro 12 d<|Ro 13 d<|Rt 14 d<|Rt 15 d<|re<|?_
 refine tn<|rt<|rr (.bool false)<|?_
 have hs:ej b=false:=(yp (by omega))
 rw[hs]
 exact⟨rfl,f⟩
theorem uq{m:Bool}{v:Value}{b:List Int}{w:World}(h:aS m w v b)(hb:b.length≤1048576) : Calls Tryz.prog 161 #[v] w (bv (.bool (ej b)) w):=by
  obtain⟨A,cp,rfl,hc,_⟩:=h.shape
  exact ra h hb hc
open Go.RowKit
def fm (b:List Int) : List Int:=(b.take (b.length-2)).drop 1
theorem kn(b:List Int) : fm b=(b.take (((b.length:Nat) : Int)-2).toNat).drop 1:=by
  unfold fm
  rw[show(((b.length:Nat) : Int)-2).toNat=b.length-2 from by omega]
def eQ (dir:Int)(b:List Int) : cm × Int :=
  if dir != 0&&dir != 1 then (cm.zero,1)
  else if decide ((b.length:Int)<4) then (cm.zero,2)
  else if decide (256<(b.length:Int)) then (cm.zero,3)
  else if !(ej b) then (cm.zero,10)
  else dj (b.getD 0 0) 0 (cy dir (fm b))
theorem qs{m:Bool}{A:Option Addr}{cp:Nat}{b:List Int}{w:World}{dir:Int}(hsl:aS m w (.slice A b.length cp) b)(hb:b.length≤1048576)(hcp:b.length≤cp) :
    Calls Tryz.prog 160 #[.int .i64 dir,.slice A b.length cp] w (mF (eQ dir b) w):=by
 have hln:(b.length:Int)≤1048576:=by omega
 refine en 51 Tryz.func160 rfl<|sg<|L0<|bN #[.int .u8 0,.int .u16 0,.int .u8 0,.int .u8 0,.int .u16 0,.int .u16 0,.int .u16 0,.int .u16 0,.int .u16 0,.int .u16 0,.int .u16 0,.int .u16 0,.int .u16 0,.int .u16 0,.slice none 0 0,.slice none 0 0,.slice none 0 0,.slice none 0 0,.int .u8 0,.int .u8 0,.int .u8 0,.int .u8 0,.int .u8 0,.slice none 0 0] fun aW aX j e B=>Pl 1<|nt<|sq<|bk<|sg<|Pl 3<|cu 3 [11] 14 (((dir != 0)&&(dir != 1))) (fun K O=>?_) ?_
 refine bl 11 ((dir != 0)) (fun C=>?_) (fun C=>?_)
 have a7:=aB C
 exact Pl 3<|ce O (dir != 1) (by rw[C];rfl)
 have a7:=ah C
 exact Pl 3<|ce O false (by rw[C];rfl)
 refine Pl 1<|nt<|cb (((dir != 0)&&(dir != 1))) (fun d=>?_) (fun d=>?_)
 have Q:=(bM d).1
 have R:=(bM d).2
 have b0:=aB Q
 have b1:=aB R
 refine sg<|Pl 1<|L0<|bi e #[.int .u8 0,.int .u16 0,.int .u8 0,.int .u8 0,.int .u16 0,.int .u16 0,.int .u16 0,.int .u16 0,.int .u16 0,.int .u16 0,.int .u16 0,.int .u16 0,.int .u16 0,.int .u16 0,.slice none 0 0,.slice none 0 0,.slice none 0 0,.slice none 0 0,.int .u8 0,.int .u8 0,.int .u8 0,.int .u8 0,.int .u8 0,.slice none 0 0] fun b2 a8 a9=>Pl 1<|nt<|rt<|br<|tr<|d9 a8 (.int .i64 1)<|?_
 have hs:eQ dir b=(cm.zero,1):=by
   unfold eQ
   (try simp only[d,Q,R,bs,if_true,if_false,decide_true,decide_false,dj,reduceIte])
   all_goals rfl
 refine dU hs ?_
 exact cQ (ud B a9 j)
 refine sg<|Pl 4<|nt<|cb ((decide (((b.length:Nat) : Int)<4))) (fun f=>?_) (fun f=>?_)
 have aa:=of_decide_eq_true f
 refine sg<|Pl 1<|L0<|bi e #[.int .u8 0,.int .u16 0,.int .u8 0,.int .u8 0,.int .u16 0,.int .u16 0,.int .u16 0,.int .u16 0,.int .u16 0,.int .u16 0,.int .u16 0,.int .u16 0,.int .u16 0,.int .u16 0,.slice none 0 0,.slice none 0 0,.slice none 0 0,.slice none 0 0,.int .u8 0,.int .u8 0,.int .u8 0,.int .u8 0,.int .u8 0,.slice none 0 0] fun b3 ab ac=>Pl 1<|nt<|rt<|br<|tr<|d9 ab (.int .i64 2)<|?_
 have hs:eQ dir b=(cm.zero,2):=by
   unfold eQ
   (try simp only[d,f,bs,if_true,if_false,decide_true,decide_false,dj,reduceIte])
   all_goals rfl
 refine dU hs ?_
 exact cQ (ud B ac j)
 have aa:=of_decide_eq_false f
 refine sg<|Pl 4<|nt<|cb ((decide (256<((b.length:Nat) : Int)))) (fun h=>?_) (fun h=>?_)
 have ad:=of_decide_eq_true h
 refine sg<|Pl 1<|L0<|bi e #[.int .u8 0,.int .u16 0,.int .u8 0,.int .u8 0,.int .u16 0,.int .u16 0,.int .u16 0,.int .u16 0,.int .u16 0,.int .u16 0,.int .u16 0,.int .u16 0,.int .u16 0,.int .u16 0,.slice none 0 0,.slice none 0 0,.slice none 0 0,.slice none 0 0,.int .u8 0,.int .u8 0,.int .u8 0,.int .u8 0,.int .u8 0,.slice none 0 0] fun b4 ae af=>Pl 1<|nt<|rt<|br<|tr<|d9 ae (.int .i64 3)<|?_
 have hs:eQ dir b=(cm.zero,3):=by
   unfold eQ
   (try simp only[d,f,h,bs,if_true,if_false,decide_true,decide_false,dj,reduceIte])
   all_goals rfl
 refine dU hs ?_
 exact cQ (ud B af j)
 have ad:=of_decide_eq_false h
 refine sg<|Pl 1<|?_
 have S:=aS.old hsl B
 refine L0<|Oc (args:=#[.slice A b.length cp])<|m1 (uq S (by omega)) fun ag i=>Pl 2<|nt<|?_
 have T:=aD B i
 refine cb ((!(ej b))) (fun k=>?_) (fun k=>?_)
 have G:(ej b)=false:=by simpa using k
 refine sg<|Pl 1<|?_
 refine L0<|bi (ub i e) #[.int .u8 0,.int .u16 0,.int .u8 0,.int .u8 0,.int .u16 0,.int .u16 0,.int .u16 0,.int .u16 0,.int .u16 0,.int .u16 0,.int .u16 0,.int .u16 0,.int .u16 0,.int .u16 0,.slice none 0 0,.slice none 0 0,.slice none 0 0,.slice none 0 0,.int .u8 0,.int .u8 0,.int .u8 0,.int .u8 0,.int .u8 0,.slice none 0 0] fun b5 ai ak=>Pl 1<|nt<|rt<|br<|tr<|d9 ai (.int .i64 10)<|?_
 have hs:eQ dir b=(cm.zero,10):=by
   unfold eQ
   (try simp only[d,f,h,k,G,bs,if_true,if_false,decide_true,decide_false,dj,reduceIte])
   all_goals rfl
 refine dU hs ?_
 exact cQ (ud T ak j)
 have G:(ej b)=true:=by simpa using k
 refine sk<|bn<|tn<|sg<|Pl 4<|L0<|Oi (((b.length:Nat) : Int)-2)<|v6 (s6 (P:=Tryz.prog) 27 5 1 Tryz.underlying27 rfl rfl A b.length cp (lo:=1) (up:=(((b.length:Nat) : Int)-2)) 1 (((((b.length:Nat) : Int)-2)).toNat) (by omega) (by omega) (by omega) (by omega) (by omega)) fun al hrun43 an=>L0<|iD (.slice al ((((((b.length:Nat) : Int)-2)).toNat)-1) (cp-1)) (lO (kl:=.i64) (kh:=.i64) (lo:=1) (hi:=(((b.length:Nat) : Int)-2)) (A:=A) (n:=b.length) (c:=cp) rfl Tryz.underlying27 (by kernel_rfl) (by kernel_rfl) (by kernel_rfl) (hrun43 _ _ _))<|?_
 obtain⟨a,D,L⟩ : ∃ M E,cy dir ((b.take (((((b.length:Nat) : Int)-2)).toNat)).drop 1)=(M,E):=⟨_,_,rfl⟩
 have U:=aS.old S i
 have V:=j0 (dir:=dir) (w:=ag) (an _ _ _ _ _ U) (by rw[List.length_drop,List.length_take];omega)
 rw[L] at V
 refine L0<|Oc<|e2 V fun ao b6 W N=>?_
 have ap:=W
 obtain⟨aq,ar,au,av,aw,ax,ay,az,aA,aC,aG,b7⟩:=ap
 obtain rfl:ao=(bA a aq ar au av aw).toArray:=by apply Array.toList_inj.1;simpa using ax
 obtain⟨l,o,rfl,_,_⟩:=ay.shape
 obtain⟨p,q,rfl,_,_⟩:=az.shape
 obtain⟨r,s,rfl,_,_⟩:=aA.shape
 obtain⟨t,u,rfl,_,_⟩:=aC.shape
 obtain⟨v,y,rfl,_,_⟩:=aG.shape
 refine Pl 3<|L0<|bN mZ fun X b9 Y aH aI=>L0<|bi aH (mG a.code a.fail a.addr a.count a.value a.and_ a.or_ a.addr2 a.sub a.status a.events a.messages (.slice l a.words.length o) (.slice p a.bits.length q) (.slice r a.data.length s) (.slice t a.recs.length u) a.mei a.kind a.level a.more a.next (.slice v a.objects.length y)) fun ba aK aL=>Pl 1<|nt<|sq<|sg<|Pl 2<|nt<|?_
 have Z:=ud aI aL Y
 have H:=aD N Z
 have a0:=aD T H
 refine cb ((D != 0)) (fun F=>?_) (fun F=>?_)
 have aN:=aB F
 refine sg<|Pl 2<|?_
 refine L0<|bi (ub (aD i H) e) #[.int .u8 0,.int .u16 0,.int .u8 0,.int .u8 0,.int .u16 0,.int .u16 0,.int .u16 0,.int .u16 0,.int .u16 0,.int .u16 0,.int .u16 0,.int .u16 0,.int .u16 0,.int .u16 0,.slice none 0 0,.slice none 0 0,.slice none 0 0,.slice none 0 0,.int .u8 0,.int .u8 0,.int .u8 0,.int .u8 0,.int .u8 0,.slice none 0 0] fun bb aO aP=>Pl 1<|nt<|rt<|tr<|d9 aO (.int .i64 D)<|?_
 have hX2:cy dir (fm b)=(a,D):=(congrArg (cy dir) (kn b)).trans L
 have hs:eQ dir b=(cm.zero,D):=by
   unfold eQ
   (try simp only[d,f,h,k,G,F,bs,if_true,if_false,decide_true,decide_false,dj,hX2,reduceIte])
   all_goals rfl
 refine dU hs ?_
 exact cQ (ud a0 aP j)
 have aN:=ah F
 refine bK<|sq<|?_
 refine i8 (aS.at_ (aS.old U H) 0 (by omega)) fun aQ aR a1 aT bc=>Rg 8 (fun w'=>w'.cell? ⟨aQ,aR+0,none⟩=some (.int .u8 (b.getD 0 0))∧w'.heap[X]? = some (.cells (mG a.code a.fail a.addr a.count a.value a.and_ a.or_ a.addr2 a.sub a.status a.events a.messages (.slice l a.words.length o) (.slice p a.bits.length q) (.slice r a.data.length s) (.slice t a.recs.length u) a.mei a.kind a.level a.more a.next (.slice v a.objects.length y)) 31 (0,0))) fun bd I=>?_
 have a2:=ub I aK
 refine aZ ⟨(uc I aT),a2⟩ fun z=>Rt 0 z<|qz 1 z b.length 0 0 rfl a1 (by omega)<|Rl 2 z (fun _ hs=>hs.1)<|Rt 3 z<|Rr 4 z (.agg (mG a.code a.fail a.addr a.count a.value a.and_ a.or_ a.addr2 a.sub a.status a.events a.messages (.slice l a.words.length o) (.slice p a.bits.length q) (.slice r a.data.length s) (.slice t a.recs.length u) a.mei a.kind a.level a.more a.next (.slice v a.objects.length y))) (fun w' hs=>gJ (g:=X) (off:=0) [.int .u8 a.code,.int .u8 a.fail,.int .u16 a.addr,.int .u16 a.count,.int .u16 a.value,.int .u16 a.and_,.int .u16 a.or_,.int .u16 a.addr2,.int .u16 a.sub,.int .u16 a.status,.int .u16 a.events,.int .u16 a.messages,.slice l a.words.length o,.slice p a.bits.length q,.slice r a.data.length s,.slice t a.recs.length u,.int .u8 a.mei,.int .u8 a.kind,.int .u8 a.level,.int .u8 a.more,.int .u8 a.next,.slice v a.objects.length y] rfl (by kernel_rfl) hs.2 (by kernel_rfl) (by kernel_rfl) rfl)<|Rt 5 z<|?_
 have a3:=aD H I
 have a4:=aD i a3
 refine R0 6 rfl<|bi (ub a4 e) #[.int .u8 (b.getD 0 0),.int .u16 0,.int .u8 a.code,.int .u8 a.fail,.int .u16 a.addr,.int .u16 a.count,.int .u16 a.value,.int .u16 a.and_,.int .u16 a.or_,.int .u16 a.addr2,.int .u16 a.sub,.int .u16 a.status,.int .u16 a.events,.int .u16 a.messages,.slice l a.words.length o,.slice p a.bits.length q,.slice r a.data.length s,.slice t a.recs.length u,.int .u8 a.mei,.int .u8 a.kind,.int .u8 a.level,.int .u8 a.more,.int .u8 a.next,.slice v a.objects.length y] fun be aU J=>?_
 have a5:=uz I J
 have bf:=uz a3 J
 have bg:=uz a4 J
 have a6:=ud a0 a5 j
 refine aZ ⟨(cB (aS.old hsl a6) a1 0 (by omega)),(aY J (Ne.symm (nb (am e) (le i.size N.size) Y)) a2)⟩ fun aV=>Rt 7 aV<|re<|tn<|rt<|d9 aU (.int .i64 0)<|?_
 have hX2:cy dir (fm b)=(a,D):=(congrArg (cy dir) (kn b)).trans L
 have hs:eQ dir b=(⟨(b.getD 0 0),0,a⟩,0):=by
   unfold eQ
   (try simp only[d,f,h,k,G,F,bs,if_true,if_false,decide_true,decide_false,dj,hX2,reduceIte])
   all_goals rfl
 refine dU hs ?_
 exact⟨_,rfl,⟨#[.int .u8 a.code,.int .u8 a.fail,.int .u16 a.addr,.int .u16 a.count,.int .u16 a.value,.int .u16 a.and_,.int .u16 a.or_,.int .u16 a.addr2,.int .u16 a.sub,.int .u16 a.status,.int .u16 a.events,.int .u16 a.messages,.slice l a.words.length o,.slice p a.bits.length q,.slice r a.data.length s,.slice t a.recs.length u,.int .u8 a.mei,.int .u8 a.kind,.int .u8 a.level,.int .u8 a.more,.int .u8 a.next,.slice v a.objects.length y],(by as_aux_lemma=>kernel_rfl),(aF.upd W (uz Z a5) (aj (aM (ub (aD i N) e) (by decide)) aE)),b8 (x:=(b.getD 0 0)) (by omega),aJ (x:=0) (by omega)⟩,a6⟩
theorem un{m:Bool}{v:Value}{b:List Int}{w:World}{dir:Int}(h:aS m w v b)(hb:b.length≤1048576) : Calls Tryz.prog 160 #[.int .i64 dir,v] w (mF (eQ dir b) w):=by
  obtain⟨A,cp,rfl,hc,_⟩:=h.shape
  exact qs h hb hc
open Go.RowKit
theorem vY(a b c d:Int)(w:World) : (Op.equalIn 10000 24 (.agg #[.int .u8 a,.int .u16 b]) (.agg #[.int .u8 c,.int .u16 d])).run Tryz.prog w = .ok ((a==c)&&(b==d)) w:=by
  have hS:Tryz.prog.underlying 24=some (.struct (Tryz.prog.fieldsOf 24)):=by kernel_rfl
  have hp:Tryz.prog.stoodInHeld 24=false:=by kernel_rfl
  rw[show(10000:Nat)=9998+1+1 from rfl,run_equalIn_agg w (9998+1) 24 _ _ hS hp]
  simp only[Program.fieldsOf,Tryz.underlying24]
  have p0:∀ v:Int,(part 5 #[.int .u8 v,.int .u16 b] 0).run Tryz.prog w = .ok (.int .u8 v) w:=fun v=>by simp[part,isAgg,run_underlying Tryz.underlying5,Result.andThen]
  have p0':∀ v:Int,(part 5 #[.int .u8 v,.int .u16 d] 0).run Tryz.prog w = .ok (.int .u8 v) w:=fun v=>by simp[part,isAgg,run_underlying Tryz.underlying5,Result.andThen]
  have p1:∀ v u:Int,(part 22 #[.int .u8 u,.int .u16 v] 1).run Tryz.prog w = .ok (.int .u16 v) w:=fun v u=>by simp[part,isAgg,run_underlying Tryz.underlying22,Result.andThen]
  have e0:=run_equalIn_int (P:=Tryz.prog) w 9998 5 .u8 _ a c Tryz.underlying5
  have e1:=run_equalIn_int (P:=Tryz.prog) w 9998 22 .u16 _ b d Tryz.underlying22
  simp only[Op.eqFields,Sem.run_bind,p0,p0',p1,e0,e1,Result.andThen_ok,ne_eq,String.reduceEq,not_false_eq_true,if_true,Sem.run_ite]
  cases (a==c)<;>cases (b==d)<;>simp
theorem ib{ev:Operand→Value}{o:Oper}{x y:Operand}{t:TypeId}(a b c d:Int){v:Bool}{w:World}(ho:o.op = .binOp .neq 24 x y t)
    (hx:ev x = .agg #[.int .u8 a,.int .u16 b]) (hy:ev y = .agg #[.int .u8 c,.int .u16 d]) (hv:(!((a==c)&&(b==d)))=v) : (execOp ev o).run Tryz.prog w = .ok (.value (.bool v)) w:=by
  subst hv
  have hg:(eqGuard .neq 24 x y (.agg #[.int .u8 a,.int .u16 b]) (.agg #[.int .u8 c,.int .u16 d])).run Tryz.prog w = .ok () w:=run_eqGuard_agg w _ _ _ _ _ _ (by kernel_rfl)
  unfold execOp
  simp only[ho,hx,hy,Sem.run_bind,hg,Result.andThen_ok,run_neq_struct,vY,Sem.run_pure]
open Go.RowKit
def mt (u:Int)(l:List Int) : List Int:=([u]++l)++bS (cE 65535 ([u]++l))
def fI (dir u t:Int)(M:aT) : Option (List Int) :=
  match ci dir M with
  | none=>none
  | some l=>if !((u==u)&&(t==0)) then none else some (mt u l)
theorem lR{m:Bool}{cs:Array Value}{M:aT}{w:World}{dir u t:Int}(h:aF m w cs.toList M)(hf:aW M)(hu:B8 u)(ht:dA t) : Calls Tryz.prog 196 #[.int .i64 dir,.agg (#[.int .u8 u,.int .u16 t]++cs)] w (ek (fI dir u t M) w):=by
 have hM:=h
 obtain⟨hu1,hu2⟩:=hu
 obtain⟨ht1,ht2⟩:=ht
 obtain⟨vw,vb,vd,vr,vo,h0,hw,hbt,hd,hr,ho,hR⟩:=h
 obtain rfl:cs=(bA M vw vb vd vr vo).toArray:=by apply Array.toList_inj.1;simpa using h0
 clear h0
 obtain⟨Aw,kw,rfl,_,_⟩:=hw.shape
 obtain⟨Ab,kb,rfl,_,_⟩:=hbt.shape
 obtain⟨Ad,kd,rfl,_,_⟩:=hd.shape
 obtain⟨Ar,kr,rfl,_,_⟩:=hr.shape
 obtain⟨Ao,ko,rfl,_,_⟩:=ho.shape
 obtain⟨q0,q1,q2,q3,q4,q5,q6,q7,q8,q9,B,C,D,E,F,G,H⟩:=hR
 simp only[B8,dA] at q0 q1 q2 q3 q4 q5 q6 q7 q8 q9 B C D E F G H
 refine en 38 Tryz.func196 rfl<|sg<|L0<|cI #[.int .u8 u,.int .u16 t,.int .u8 M.code,.int .u8 M.fail,.int .u16 M.addr,.int .u16 M.count,.int .u16 M.value,.int .u16 M.and_,.int .u16 M.or_,.int .u16 M.addr2,.int .u16 M.sub,.int .u16 M.status,.int .u16 M.events,.int .u16 M.messages,.slice Aw M.words.length kw,.slice Ab M.bits.length kb,.slice Ad M.data.length kd,.slice Ar M.recs.length kr,.int .u8 M.mei,.int .u8 M.kind,.int .u8 M.level,.int .u8 M.more,.int .u8 M.next,.slice Ao M.objects.length ko] fun U V W k c=>Pl 2<|ng<|Pl 2<|L0<|sV k 2 22<|?_
 rcases hwr:ci dir M with _|lw
 have l:=eT (dir:=dir) (aF.old hM c) hf
 rw[hwr] at l
 refine L0<|Oc<|m1 l fun X I=>Pl 5<|nt<|sq<|sg<|Pl 11<|nt<|c1<|sg<|Pl 2<|nl<|?_
 refine tn<|rt<|tr<|rr (.tuple #[.slice none 0 0,.int .i64 1])<|?_
 have hs:fI dir u t M=none:=by
   unfold fI
   (try simp only[hwr,bs,if_true,if_false,decide_true,decide_false,reduceIte])
   all_goals rfl
 refine de hs ?_
 exact⟨rfl,(aD c I)⟩
 have hlw:=fE hwr
 have n:=eT (dir:=dir) (aF.old hM c) hf
 rw[hwr] at n
 refine L0<|Oc<|dX n fun Y Z a0 J a1 a2 o=>Pl 5<|nt<|sq<|sg<|Pl 4<|?_
 have g:=ub o k
 refine L1<|sV g 0 2<|Pl 2<|L1<|aP g 0<|Pl 1<|L1<|iD (.bool (!((u==u)&&(t==0)))) (ib u t u 0 rfl (by kernel_rfl) (by kernel_rfl) rfl)<|Pl 1<|nt<|?_
 have i:=aD c o
 refine cb ((!((u==u)&&(t==0)))) (fun a=>?_) (fun a=>?_)
 have b:((u==u)&&(t==0))=false:=by simpa using a
 refine sg<|Pl 2<|nt<|rt<|tr<|rr (.tuple #[.slice none 0 0,.int .i64 1])<|?_
 have hs:fI dir u t M=none:=by
   unfold fI
   (try simp only[hwr,a,b,bs,if_true,if_false,decide_true,decide_false,reduceIte])
   all_goals rfl
 refine de hs ?_
 exact⟨rfl,i⟩
 have b:((u==u)&&(t==0))=true:=by simpa using a
 have p:=(bM b).1
 have q:=(bM b).2
 have q33nap:=ax p
 have q33nbp:=ax q
 refine bK<|sg<|Pl 2<|L0<|aP g 0<|L0<|cR (m:=1) (e:=5) #[.int .u8 u] fun K a3 L N d=>?_
 have r:=cW L (xs:=[u]) (by as_aux_lemma=>kernel_rfl) (ap (by omega) aO) (by(try simp only[List.length_cons,List.length_nil]);omega) N
 refine Pl 1<|?_
 refine L0<|cg aX (xs:=([u])) (ys:=lw) (.int .u8 0) 1 r ((ak J d (fun x hx=>az) (fun _ _ h=>h))).rd (by(try simp only[List.length_append,List.length_cons,List.length_nil,av,i9]);omega) d.size fun j O a4 f v=>Pl 1<|ng<|Pl 2<|L0<|Oc (args:=#[.slice j (([u]++lw).length) O])<|m1 (ji (f).rd) fun a5 y=>?_
 have a6:=iV ([u]++lw) (s:=65535) (by decide) (aS.range (f).rd)
 refine L0<|Oc<|dX (gh (s:=(cE 65535 ([u]++lw))) (by omega)) fun a7 a8 a9 P aa ab z=>?_
 have A:=aD y z
 refine L0<|cg aX (xs:=([u]++lw)) (ys:=(bS (cE 65535 ([u]++lw)))) (.int .u8 0) 1 (ak f A (fun x hx=>az) (fun _ _ h=>h)) (P).rd (by(try simp only[List.length_append,List.length_cons,List.length_nil,av,i9]);omega) (le (le (le d.size v.size) y.size) z.size) fun Q R ac S T=>Pl 2<|nt<|rt<|rr (.tuple #[.slice Q ((([u]++lw)++(bS (cE 65535 ([u]++lw)))).length) R,.int .i64 0])<|?_
 have hs:fI dir u t M=(some (([u]++lw)++(bS (cE 65535 ([u]++lw))))):=by
   unfold fI
   (try simp only[hwr,a,b,p,q,bs,if_true,if_false,decide_true,decide_false,reduceIte])
   all_goals rfl
 refine de hs ?_
 exact⟨_,rfl,(aL.weaken S i.size),(aD i (ut d (ut (ay.mono (S':=(ob (some ⟨K,0,none⟩)++(ob j++[]))) v (ai il au)) (ut (ay.mono (S':=(ob j++[])) A au) T (ai il au)) (ai il au)) (ai (aI r lr) (ai (aI f lr) au))))⟩
open Go.RowKit
theorem oL{m:Bool}{v:Value}{b:List Int}{w:World}{dir:Int}{F:cm}{E:Int}(hX:eQ dir b=(F,E))(h:aS m w v b)(hb:b.length≤1048576) : Calls Tryz.prog 160 #[.int .i64 dir,v] w (fun e w'=>∃ x,e = .returned (.tuple #[.agg (eK F.unit F.tid F.msg x),.int .i64 E])∧(aF true w' (iE F.msg x).toList F.msg∧(0≤F.unit∧F.unit<256)∧(0≤F.tid∧F.tid<65536))∧ay [] w w'):=by
  refine(un h hb).mono ?_
  rintro e w' ⟨cs,rfl,h1,h2⟩
  rw[hX] at h1 ⊢
  obtain⟨c,rfl,h3,h4,h5⟩:=h1
  obtain⟨x,rfl⟩:=pz h3
  exact⟨x,by rw[eW],⟨h3,h4,h5⟩,h2⟩
theorem p6{m:Bool}{x:SL}{M:aT}{w:World}{dir u t:Int}(hX:fI dir u t M=none)(h:aF m w (iE M x).toList M)(hf:aW M)(hu:0≤u∧u<256)(ht:0≤t∧t<65536) : Calls Tryz.prog 196 #[.int .i64 dir,.agg (eK u t M x)] w (fun e w'=>e = .returned (.tuple #[.slice none 0 0,.int .i64 1])∧ay [] w w'):=by
  have:=lR (dir:=dir) h hf hu ht
  rw[hX] at this
  rw[eW]
  exact this
theorem oP{m:Bool}{x:SL}{M:aT}{w:World}{dir u t:Int}{l:List Int}(hX:fI dir u t M=some l)(h:aF m w (iE M x).toList M)(hf:aW M)(hu:0≤u∧u<256)(ht:0≤t∧t<65536) : Calls Tryz.prog 196 #[.int .i64 dir,.agg (eK u t M x)] w (fun e w'=>∃ v,e = .returned (.tuple #[v,.int .i64 0])∧cz w.heap.size w' v l∧ay [] w w'):=by
  have:=lR (dir:=dir) h hf hu ht
  rw[hX] at this
  rw[eW]
  exact this
open Go.RowKit
structure SS where
  dir:Int
  held:List Int
  off:Bool
def ea (w:World)(g:Nat)(S:SS) : Prop:=∃ A cp,w.heap[g]? = some (.cells #[.int .i64 S.dir,.slice A S.held.length cp,.bool S.off] 127 (0,0))∧aS true w (.slice A S.held.length cp) S.held∧S.held.length≤256∧S.held.length≤cp
def SS.feed (S:SS)(b:List Int) : SS × List Ev :=
  if S.off then (S,[]) else if decide (b.length≤256-S.held.length) then (⟨S.dir,S.held++b,false⟩,[]) else (⟨S.dir,[],true⟩,[Ev.bad 3])
def SS.tick (S:SS) : SS × List Ev:=(⟨S.dir,[],false⟩,if S.held.length=0 then [] else [⟨(eQ S.dir S.held).2,(eQ S.dir S.held).1⟩])
theorem ea.lt{w:World}{g:Nat}{S:SS}(h:ea w g S) : g<w.heap.size:=by
  obtain⟨A,cp,h1,_⟩:=h
  exact am h1
theorem ea.upd{w w':World}{g:Nat}{S:SS}{X:List Nat}(h:ea w g S)(hu:ay X w w')(hg:g∉X)(hs:bZ true [5] X w) : ea w' g S:=by
  obtain⟨A,cp,h1,h2,h3⟩:=h
  exact⟨A,cp,hu.blk hg h1,h2.upd' hu hs,h3⟩
theorem ea.old{w w':World}{g:Nat}{S:SS}(h:ea w g S)(hu:ay [] w w') : ea w' g S:=h.upd hu (by simp) (bZ.nil _ _ _)
theorem ea.cells{w:World}{g:Nat}{S:SS}(h:ea w g S) : ∃ cs fr,w.heap[g]? = some (.cells cs 127 fr):=by
  obtain⟨A,cp,h1,_⟩:=h
  exact⟨_,_,h1⟩
theorem ea.le{w:World}{g:Nat}{S:SS}(h:ea w g S) : S.held.length≤256:=by
  obtain⟨A,cp,_,_,h1,_⟩:=h
  exact h1
theorem ea.safe{w:World}{g:Nat}{S:SS}(h:ea w g S)(D:List TypeId)(hD:D.contains 127=false) : bZ true D [g] w:=by
  obtain⟨A,cp,h1,_⟩:=h
  exact aM h1 hD
theorem SS.feed_le{S S2:SS}{b:List Int}{L:List Ev}(h:S.feed b=(S2,L)) : L.length≤1:=by
  have k:=congrArg Prod.snd h
  rw[show L=(S.feed b).2 from k.symm]
  unfold SS.feed
  split
  · exact Nat.zero_le _
  split
  · exact Nat.zero_le _
  · exact Nat.le_refl _
theorem SS.tick_le{S S2:SS}{L:List Ev}(h:S.tick=(S2,L)) : L.length≤1:=by
  have k:=congrArg Prod.snd h
  rw[show L=S.tick.2 from k.symm]
  unfold SS.tick
  dsimp only
  split
  · exact Nat.zero_le _
  · exact Nat.le_refl _
open Go.RowKit
theorem lP{P:Program}{sz:Nat}{A:Option Addr}{c:Nat}(w:World) : (Builtin.firstCells sz 0 (.slice A 0 c)).run P w = .ok #[] w:=by
  cases A with
  | none=>simp[Builtin.firstCells]
  | some a =>
    have:=run_loadCells_list (P:=P) w a [] (fun j v hj=>by simp at hj)
    simpa [Builtin.firstCells] using this
theorem to{α:Type}{base sz:Nat}{e t:TypeId}{R:World→α→List Value→Prop}{w:World}{A:Option Addr}{n c g:Nat}{xs:List α}(hb:∃ cs fr,w.heap[g]? = some (.cells cs t fr))(h:aL base e sz R w (.slice A n c) xs)(ht:(t==e)=false) : g∉ob A:=by
  obtain⟨cs,fr,hb⟩:=hb
  exact bB hb h ht
section
variable {P:Program}{n:Nat}{D:List Deferred}{F:Fr}{w:World}{K:Fr→World→Prop}{Q:Exit→Act→World→Prop}{d:Option Tmp}{t:TypeId}{s:String}{af:Array Edge}{gu:Option (Nat × Bool)}
theorem zT{α:Type}{R:World→α→List Value→Prop}{x y:Operand}{e:TypeId}{base m c:Nat}{A:Option Addr}{xs ys:List α}{mm:Bool}{e' ty:TypeId}{u:Value}(z:Value)(sz bytes:Nat)(HO:aL base e sz R w (.slice A m c) xs)(HY:aR mm e' sz R w u ys)
    (hone:∀ x cs,R w x cs→∀ v,v∈cs→v.oneCell'=true) (hRU:∀ w',ay (ob A++[]) w w'→∀ x cs,R w x cs→R w' x cs)
    (hl:xs.length+ys.length≤4611686018427387904) (hmul:(xs.length+ys.length)*bytes≤140737488355328) (hbase:base≤w.heap.size) (h:∀ A' c' w',aL base e sz R w' (.slice A' (xs++ys).length c') (xs++ys)→ay (ob A++[]) w w'→(∀ g,g∈ob A'→g∈ob A∨w.heap.size≤g)→K (pt d (.slice A' (xs++ys).length c') F) w')
    (hx:dW F x=some (.slice A m c):=by kernel_rfl) (hy':dW F y=some u:=by kernel_rfl) (he:oZ P ty=some e:=by kernel_rfl) (hs:(ny P ty,z.cells.size,(eR n d&&Nat.ble bytes 65536)&&Nat.blt 0 sz)=(some (some z,sz,bytes),sz,true):=by kernel_rfl) : OG P ⟨d,.call { callee:=.builtin .append,args:=#[x,y],argTypes:=#[ty,ty] },t,s,af,gu⟩ n D F w K Q:=by
  by_cases hne:ys=[]
  · subst hne
    simp only[Prod.mk.injEq] at hs
    have h3:=el (el hs.2.2).1
    obtain⟨A0,c0,e0,hc1,_⟩:=HO.rd.shape
    have e0:=e0.symm
    injection e0 with e1 e2 e3
    subst e2
    subst e1 e3
    obtain⟨B,cB,rfl,_,_⟩:=HY.shape
    have hinf:(P.info? e).map (fun i=>(i.zero,i.size,i.bytes))=some (some z,sz,bytes):=by have:=hs.1;unfold ny at this;rw[he] at this;exact this
    obtain⟨i0,hi,hz0,hz1,hz2⟩:=info_parts hinf
    have hsr:Src P i0.size ty (.slice B 0 cB) 0 [] w:=⟨.inl ⟨e,e9 he⟩,fun w'=>by simp[Builtin.lenOf],lP w,lP w.drew,by simp,fun u hu=>by cases hu⟩
    have hr:=run_append_nothing w ty ty t _ i0 (e9 he) hi A0 xs.length c0 hc1 _ hsr
    refine⟨fun a ha K' hK=>OW.mk ?_⟩
    have hx':=ha.ev hx
    have hy2:=ha.ev hy'
    simp only[List.length_nil] at hy2
    unfold Oper.wp execOp
    simp only[resolve,invoke,builtin,Sem.run_bind,Sem.run_pure,Result.andThen_ok,List.map_toArray,List.map_cons,List.map_nil,hx',hy2,hr]
    refine hK _ _ _ (h A0 c0 w (by rw[List.append_nil];exact HO) (ay.mono (S':=ob A0++[]) (ay.refl [] w) (fun x hx=>by cases hx)) (fun g hg=>.inl hg)) ?_
    rw[List.append_nil]
    exact ha.put h3.1
  · have hy:0<ys.length:=by
      cases ys with
      | nil=>exact absurd rfl hne
      | cons a r=>simp
    simp only[Prod.mk.injEq] at hs
    have h2:=el hs.2.2
    have h3:=el h2.1
    exact⟨fun a ha K' hK=>p9 z sz bytes rfl rfl (e9 he) (by have:=hs.1;unfold ny at this;rw[he] at this;exact this) hs.2.1 (by simpa using h2.2) xs (ha.ev hx) HO u ys (ha.ev hy') HY hy hone hRU hl hmul hbase fun A' c' w' hO hu hat=>hK _ _ _ (h A' c' w' hO hu hat) (ha.put h3.1)⟩
theorem jC{α:Type}{R:World→α→List Value→Prop}{x y:Operand}{e:TypeId}{base m c:Nat}{A:Option Addr}{xs ys:List α}{mm:Bool}{e' ty:TypeId}{u:Value}(z:Value)(sz bytes:Nat)(HO:aL base e sz R w (.slice A m c) xs)(HY:aR mm e' sz R w u ys)
    (hone:∀ x cs,R w x cs→∀ v,v∈cs→v.oneCell'=true) (hRU:∀ w',ay (ob A++[]) w w'→∀ x cs,R w x cs→R w' x cs)
    (hl:xs.length+ys.length≤4194304) (hbase:base≤w.heap.size) (h:∀ A' c' w',aL base e sz R w' (.slice A' (xs++ys).length c') (xs++ys)→ay (ob A++[]) w w'→(∀ g,g∈ob A'→g∈ob A∨w.heap.size≤g)→K (pt d (.slice A' (xs++ys).length c') F) w')
    (hx:dW F x=some (.slice A m c):=by kernel_rfl) (hy':dW F y=some u:=by kernel_rfl) (he:oZ P ty=some e:=by kernel_rfl) (hs:(ny P ty,z.cells.size,(eR n d&&Nat.ble bytes 65536)&&Nat.blt 0 sz)=(some (some z,sz,bytes),sz,true):=by kernel_rfl) : OG P ⟨d,.call { callee:=.builtin .append,args:=#[x,y],argTypes:=#[ty,ty] },t,s,af,gu⟩ n D F w K Q:=by
  have hb:bytes≤65536:=by
    simp only[Prod.mk.injEq] at hs
    simpa using (el (el hs.2.2).1).2
  exact zT z sz bytes HO HY hone hRU (by omega) (Nat.le_trans (Nat.mul_le_mul hl hb) (by decide)) hbase h hx hy' he hs
end
open Go.RowKit
theorem cT{α β:Type}{base sz base2 sz2:Nat}{e e2:TypeId}{R:World→α→List Value→Prop}{R2:World→β→List Value→Prop}{w:World}{A A2:Option Addr}{n c n2 c2:Nat}{xs:List α}{ys:List β}(h:aL base e sz R w (.slice A n c) xs)(h2:aL base2 e2 sz2 R2 w (.slice A2 n2 c2) ys)(ht:(e==e2)=false) : ∀ x,x∈ob A→x∉ob A2:=fun x hx hx2=>by
  rcases dK h with rfl|⟨g,cells,rfl,_,h1⟩
  · simp[ob] at hx
  rcases dK h2 with rfl|⟨g2,cells2,rfl,_,h3⟩
  · simp[ob] at hx2
  simp[ob] at hx hx2
  subst hx
  subst hx2
  rw[h1] at h3
  injection h3 with h3
  injection h3 with _ h3 _
  subst h3
  simp at ht
theorem jM{A A0:Option Addr}{w w0:World}{S:List Nat}(hat:∀ x,x∈ob A→x∈ob A0∨w.heap.size≤x)(h:∀ x,x∈ob A0→x∈S∨w0.heap.size≤x)(hs:w0.heap.size≤w.heap.size) : ∀ x,x∈ob A→x∈S∨w0.heap.size≤x:=fun x hx=>by
  rcases hat x hx with k|k
  · exact h x k
  · exact .inr (Nat.le_trans hs k)
theorem j4{A A1 A0:Option Addr}{w w0:World}(hat:∀ x,x∈ob A→x∈ob A1∨w.heap.size≤x)(h:∀ x,x∈ob A1→x∈ob A0∨w0.heap.size≤x)(hs:w0.heap.size≤w.heap.size) : ∀ x,x∈ob A→x∈ob A0∨w0.heap.size≤x:=jM hat h hs
theorem eg{A0:Option Addr}{w:World}:∀ x,x∈ob none→x∈ob A0∨w.heap.size≤x:=fun x hx=>by simp[ob] at hx
theorem iH{A0:Option Addr}{w:World}:∀ x,x∈ob A0→x∈ob A0∨w.heap.size≤x:=fun x hx=>.inl hx
theorem rT{w:World}:∀ x cs,np w x cs→∀ v,v∈cs→v.oneCell'=true:=fun x cs h v hv=>by
  rw[h.1] at hv
  simp at hv
  subst hv
  rfl
section
variable {n:Nat}{B:Option Addr}
def lD (n:Nat)(B:Option Addr)(X:List Nat) : Prop:=0<n→∀ x,x∈ob B→x∉X
theorem eD:lD n B []:=fun _ x _=>by simp
theorem dV{g:Nat}{X:List Nat}(h:0<n→∀ x,x∈ob B→x≠g)(k:lD n B X) : lD n B (g :: X):=fun hn x hx=>by
  rw[List.mem_cons]
  rintro(e|e)
  · exact h hn x hx e
  · exact k hn x hx e
theorem dt{A:Option Addr}{X:List Nat}(h:lD n B (ob A))(k:lD n B X) : lD n B (ob A++X):=fun hn x hx=>by
  rw[List.mem_append]
  rintro(e|e)
  · exact h hn x hx e
  · exact k hn x hx e
theorem fv{A A0:Option Addr}{w:World}(h:lD n B (ob A0))(hl:0<n→∀ x,x∈ob B→x<w.heap.size)(hat:∀ x,x∈ob A→x∈ob A0∨w.heap.size≤x) : lD n B (ob A):=fun hn x hx hx2=>by
  rcases hat x hx2 with k|k
  · exact h hn x hx k
  · have:=hl hn x hx;omega
theorem eE{α:Type}{base sz:Nat}{e:TypeId}{R:World→α→List Value→Prop}{w w':World}{A:Option Addr}{m c:Nat}{xs:List α}(hl:0<n→∀ x,x∈ob B→x<w.heap.size)(h:aL base e sz R w' (.slice A m c) xs)(hs:w.heap.size≤base) : lD n B (ob A):=fun hn x hx hx2=>by
  have:=hl hn x hx
  have:=gG h x hx2
  omega
theorem aR.low{α:Type}{m:Bool}{e:TypeId}{sz c:Nat}{R:World→α→List Value→Prop}{w:World}{xs:List α}(h:aR m e sz R w (.slice B n c) xs) : 0<n→∀ x,x∈ob B→x<w.heap.size:=fun hn x hx=>by
  obtain⟨A',c',hv,_,_,_,h3⟩:=h
  injection hv with e1 e2 e3
  subst e1 e2 e3
  obtain⟨b,off,cells,t,fr,rfl,hh,_⟩:=h3 hn
  simp[ob] at hx
  subst hx
  exact am hh
theorem aS.far{m:Bool}{c:Nat}{w w':World}{xs:List Int}{X:List Nat}(h:aS m w (.slice B n c) xs)(hu:ay X w w')(hd:lD n B X) : aS m w' (.slice B n c) xs:=by
  obtain⟨A',c',hv,h1,h2,h0,h3⟩:=h
  injection hv with e1 e2 e3
  subst e1 e2 e3
  refine⟨_,_,rfl,h1,h2,h0,fun hp=>?_⟩
  obtain⟨b,off,cells,t,fr,rfl,hh,h4,h5⟩:=h3 hp
  exact⟨b,off,cells,t,fr,rfl,hu.blk (hd hp b (by simp[ob])) hh,h4,h5⟩
end
open Go.RowKit
def tq (n:Nat)(X:List Nat)(w:World) : Prop:=∀ y,y∈X→n≤y∨∃ cells t fr,w.heap[y]? = some (.cells cells t fr)∧t∉gn
def bo (n:Nat)(w:World)(x:Ev)(cs:List Value) : Prop:=n≤w.heap.size∧∀ (w':World)(X:List Nat),ay X w w'→tq n X w→qG true w' x cs
theorem bo.mk{w:World}{x:Ev}{cs:List Value}(h:qG true w x cs) : bo w.heap.size w x cs:=⟨Nat.le_refl _,fun w' X hu ha=>qG.upd hu (fun y hy=>by
  rcases ha y hy with k|k
  · exact .inl k
  · exact .inr ⟨rfl,k⟩) x cs h⟩
theorem bo.ev{n:Nat}{w:World}{x:Ev}{cs:List Value}(h:bo n w x cs) : qG true w x cs:=h.2 w [] (ay.refl _ _) (fun y hy=>by cases hy)
theorem bo.mono{n n':Nat}{w:World}{x:Ev}{cs:List Value}(hn:n≤n')(hs:n'≤w.heap.size)(h:bo n w x cs) : bo n' w x cs:=⟨hs,fun w' X hu ha=>h.2 w' X hu fun y hy=>by
  rcases ha y hy with k|k
  · exact .inl (Nat.le_trans hn k)
  · exact .inr k⟩
theorem bo.upd{n:Nat}{w w':World}{X:List Nat}{x:Ev}{cs:List Value}(hu:ay X w w')(ha:tq n X w)(h:bo n w x cs) : bo n w' x cs:=by
  refine⟨Nat.le_trans h.1 hu.size,fun w2 X2 hu2 ha2=>h.2 w2 (X++X2) ?_ ?_⟩
  · exact ay.trans' (ay.mono hu (fun y hy=>.inl (List.mem_append_left _ hy))) hu2 (fun y hy=>.inl (List.mem_append_right _ hy))
  · intro y hy
    rcases List.mem_append.1 hy with hy|hy
    · exact ha y hy
    · rcases ha2 y hy with k | ⟨cells,t,fr,k1,k2⟩
      · exact .inl k
      · by_cases hl:y<w.heap.size
        · by_cases hX:y∈X
          · exact ha y hX
          · exact .inr ⟨cells,t,fr,by rw[← hu.block y hl hX];exact k1,k2⟩
        · exact .inl (Nat.le_trans h.1 (by omega))
theorem bo.ones{n:Nat}{w:World}:∀ (x:Ev)(cs:List Value),bo n w x cs→∀ v,v∈cs→v.oneCell'=true:=fun x cs h=>qG.ones x cs h.ev
abbrev dv (n base:Nat) (w:World) (v:Value) (xs:List Ev) : Prop:=aL base 66 25 (bo n) w v xs
theorem aL.map{α:Type}{base sz:Nat}{e:TypeId}{R R':World→α→List Value→Prop}{w:World}{v:Value}{xs:List α}(h:aL base e sz R w v xs)(k:∀ x cs,R w x cs→R' w x cs) : aL base e sz R' w v xs:=by
  obtain⟨cells,ho,hx⟩:=h
  refine⟨cells,ho,fun j x hj=>?_⟩
  obtain⟨cs,h1,h2,h3⟩:=hx j x hj
  exact⟨cs,h1,k _ _ h2,h3⟩
theorem i3.low{base:Nat}{w:World}{v:Value}{xs:List Ev}(h:i3 base w v xs) : dv w.heap.size base w v xs:=aL.map h fun _ _=>bo.mk
theorem dv.own{n base:Nat}{w:World}{v:Value}{xs:List Ev}(h:dv n base w v xs) : i3 base w v xs:=aL.map h fun _ _ q=>q.ev
theorem dv.up{n n' base:Nat}{w:World}{v:Value}{xs:List Ev}(hn:n≤n')(hs:n'≤w.heap.size)(h:dv n base w v xs) : dv n' base w v xs:=aL.map h fun _ _ q=>q.mono hn hs
theorem bO{n:Nat}{w:World}:tq n [] w:=fun y hy=>by cases hy
theorem eP{n g:Nat}{w:World}{cs:Array Value}{t:TypeId}{fr:Nat × Nat}{X:List Nat}(hb:w.heap[g]? = some (.cells cs t fr))(ht:gn.contains t=false)(k:tq n X w) : tq n (g :: X) w:=fun y hy=>by
  rcases List.mem_cons.1 hy with rfl|hy
  · exact .inr ⟨cs,t,fr,hb,by simpa using ht⟩
  · exact k y hy
theorem gP{n:Nat}{w:World}{A:Option Addr}{X:List Nat}(h:∀ x,x∈ob A→n≤x)(k:tq n X w) : tq n (ob A++X) w:=fun y hy=>by
  rcases List.mem_append.1 hy with hy|hy
  · exact .inl (h y hy)
  · exact k y hy
theorem iW{α:Type}{n base sz m c:Nat}{e:TypeId}{R:World→α→List Value→Prop}{w:World}{A:Option Addr}{xs:List α}{X:List Nat}(h:aL base e sz R w (.slice A m c) xs)(ht:gn.contains e=false)(k:tq n X w) : tq n (ob A++X) w:=fun y hy=>by
  rcases List.mem_append.1 hy with hy|hy
  · rcases dK h with rfl | ⟨g,cells,rfl,_,h1⟩
    · simp[ob] at hy
    · simp[ob] at hy
      subst hy
      exact .inr ⟨_,_,_,h1,by simpa using ht⟩
  · exact k y hy
theorem cJ{n:Nat}:∀ x,x∈ob none→n≤x:=fun x hx=>by simp[ob] at hx
theorem s5{n:Nat}{A A0:Option Addr}{w:World}(hat:∀ x,x∈ob A→x∈ob A0∨w.heap.size≤x)(h:∀ x,x∈ob A0→n≤x)(hs:n≤w.heap.size) : ∀ x,x∈ob A→n≤x:=fun x hx=>by
  rcases hat x hx with k|k
  · exact h x k
  · exact Nat.le_trans hs k
section
variable {n base g cp:Nat}{w w':World}{A:Option Addr}{X:List Nat}
theorem qx{n':Nat}(hn:n≤n')(h:∀ x,x∈ob A→n'≤x) : ∀ x,x∈ob A→n≤x:=fun x hx=>Nat.le_trans hn (h x hx)
theorem jU{k:Nat}{B:Option Addr}(hl:0<k→∀ x,x∈ob B→x<w.heap.size)(hg:w.heap.size≤g) : 0<k→∀ x,x∈ob B→x≠g:=fun hk x hx e=>by
  have:=hl hk x hx
  omega
end
theorem wA{α:Type}{b0 b1 sz:Nat}{e:TypeId}{R:World→α→List Value→Prop}{w:World}{v:Value}{xs:List α}(hb:b0≤b1)(h:aL b1 e sz R w v xs) : aL b0 e sz R w v xs:=by
  obtain⟨cells,⟨h1,h2⟩,h3⟩:=h
  refine⟨cells,⟨h1,?_⟩,h3⟩
  rcases h2 with h2|⟨g,cap,cur,k0,k1,k2⟩
  · exact .inl h2
  · exact .inr ⟨g,cap,cur,k0,Nat.le_trans hb k1,k2⟩
theorem y3{α:Type}{b1 sz m c:Nat}{e:TypeId}{R:World→α→List Value→Prop}{w w1:World}{A A0:Option Addr}{xs:List α}(h:aL b1 e sz R w1 (.slice A m c) xs)(hb:w.heap.size≤b1) : ∀ x,x∈ob A→x∈ob A0∨w.heap.size≤x:=fun x hx=>.inr (Nat.le_trans hb (gG h x hx))
theorem yg{α:Type}{n b1 sz m c:Nat}{e:TypeId}{R:World→α→List Value→Prop}{w1:World}{A:Option Addr}{xs:List α}(h:aL b1 e sz R w1 (.slice A m c) xs)(hb:n≤b1) : ∀ x,x∈ob A→n≤x:=fun x hx=>Nat.le_trans hb (gG h x hx)
open Go.RowKit
theorem zp{base g:Nat}{w:World}{cur:Array Value}(hb:base≤g)(hg:w.heap[g]? = some (.cells cur 5 (0,0)))(hc:cur.size≤maxLen) : cz base w (.slice (some ⟨g,0,none⟩) 0 cur.size) [] :=
  ⟨[],⟨rfl,.inr ⟨g,cur.size,cur,rfl,hb,hg,Nat.zero_le _,hc,(Nat.mul_one _).symm,by simp⟩⟩,fun j x hj=>by simp at hj⟩
theorem rR{base:Nat}{w:World}{A:Option Addr}{n c:Nat}{xs:List Int}(h:cz base w (.slice A n c) xs) : cz base w (.slice A 0 c) []:=by
  obtain⟨cells,⟨_,h2⟩,_⟩:=h
  rcases h2 with⟨e,_⟩|⟨g,cap,cur,e,h3,h4,h5,h6,h7,_⟩
  · injection e with e1 e2 e3
    subst e1 e3
    exact aL.nil ..
  · injection e with e1 e2 e3
    subst e1 e3
    exact⟨[],⟨rfl,.inr ⟨g,c,cur,rfl,h3,h4,Nat.zero_le _,h6,h7,by simp⟩⟩,fun j x hj=>by simp at hj⟩
theorem jf{P:Program}{m:Bool}{w:World}(t ty e:TypeId)(ht:P.underlying t=some (.slice e))(hte:e=5)(hinfo:(P.info? e).map (fun i=>(i.zero,i.size,i.bytes))=some (some (.int .u8 0),1,1))
    {A:Option Addr} {xs ys:List Int} (HX:aS true w (.slice A xs.length xs.length) xs) {u:Value} (HY:aS m w u ys) (hl:xs.length+ys.length≤4194304) :
    ∃ A' cp w',(Builtin.append_ #[t,t] ty #[.slice A xs.length xs.length,u]).run P w = .ok (.slice A' (xs++ys).length cp) w'∧aS true w' (.slice A' (xs++ys).length cp) (xs++ys)∧ay [] w w'∧((A'=A∧w'=w)∨∃ c,cz w.heap.size w' (.slice A' 0 c) []):=by
  subst hte
  obtain⟨i0,hi,hz0,hz1,hz2⟩:=info_parts hinfo
  obtain⟨B,c,rfl,hc1,hc2⟩:=HY.shape
  by_cases hy:ys=[]
  · have hs:=zG (P:=P) ht HY hy
    subst hy
    rw[← hz1] at hs
    rw[List.append_nil]
    exact⟨A,_,w,run_append_nothing w t t ty _ i0 ht hi A xs.length xs.length (Nat.le_refl _) _ hs,HX,ay.refl _ _,.inl ⟨rfl,rfl⟩⟩
  have hyl:0<ys.length:=by
    cases ys with
    | nil=>exact absurd rfl hy
    | cons a r=>simp
  cases B with
  | none =>
    obtain⟨B,c',hv,_,_,h0,h3⟩:=HY
    injection hv with e1 e2 e3
    subst e1 e3
    obtain⟨b,off,cells,t,fr,hh,_⟩:=h3 hyl
    cases hh
  | some ad =>
    obtain⟨_,hnews⟩:=hG aX.cell HY
    have hby:∀ x,x∈xs++ys→0≤x∧x<256:=fun x hx=>by
      rcases List.mem_append.1 hx with h|h
      · exact HX.rng x h
      · exact HY.rng x h
    have fin:∀ (cp:Nat) (w':World) (zs:Array Value),xs.length+ys.length≤cp→cp≤maxLen→zs.size=cp-(xs.length+ys.length)→w'.heap[w.heap.size]? = some (.cells (((xs++ys).map (Value.int .u8)).toArray++zs) 5 (0,0))→aS true w' (.slice (some ⟨w.heap.size,0,none⟩) (xs++ys).length cp) (xs++ys)∧∃ c,cz w.heap.size w' (.slice (some ⟨w.heap.size,0,none⟩) 0 c) []:=fun cp w' zs h1 h2 hz h3=>by
      refine⟨⟨_,cp,rfl,by rw[List.length_append];exact h1,h2,(fun hA=>by cases hA),fun hp=>⟨w.heap.size,0,_,_,_,rfl,h3,fun _=>rfl,fun j x hj=>?_⟩⟩,_,zp (Nat.le_refl _) h3 ?_⟩
      · refine⟨[.int .u8 x],rfl,⟨rfl,hby x (List.mem_of_getElem? hj)⟩,fun i u hi=>?_⟩
        cases i with
        | succ i=>simp at hi
        | zero =>
          have hi:Value.int .u8 x=u:=by simpa using hi
          subst hi
          have hlt:=(List.getElem?_eq_some_iff.1 hj).1
          rw[Array.getElem?_append_left (by simp;simpa using hlt)]
          simp only[Nat.zero_add,Nat.mul_one,Nat.add_zero]
          rw[List.getElem?_toArray,List.getElem?_map,hj]
          rfl
      · rw[Array.size_append,hz]
        simp
        omega
    have hzc:∀ k,(Builtin.zeroCells (Value.int .u8 0).cells k).size=k:=fun k=>by simp[Builtin.zeroCells,Value.cells]
    cases A with
    | none =>
      have hx0:xs=[]:=by
        obtain⟨B,c',hv,_,_,h0,h3⟩:=HX
        injection hv with e1 e2 e3
        subst e1
        have:=h0 rfl
        exact List.eq_nil_of_length_eq_zero (by omega)
      subst hx0
      have hr:=run_append_nil (P:=P) w t ty _ i0 (.int .u8 0) ht hi hz0 ad ys.length c (ys.map (Value.int .u8)) (by rw[hz1];simp) hnews hyl (by omega) (by rw[hz2];omega)
      have f:=fin (grownCap w ys.length 0 5) (w.drew.alloc (.cells ((ys.map (Value.int .u8)).toArray++Builtin.zeroCells (Value.int .u8 0).cells (grownCap w ys.length 0 5-ys.length)) 5)) (Builtin.zeroCells (Value.int .u8 0).cells (grownCap w ys.length 0 5-ys.length)) (by simpa using grownCap_ge w ys.length 0 _) (grownCap_le_maxLen _ _ _ _ (by unfold maxLen;omega)) (by rw[hzc];simp) (by simpa using dm w.drew _)
      exact⟨_,_,_,hr,f.1,((ay.refl _ _).drew).alloc _,.inr f.2⟩
    | some bd =>
      obtain⟨_,holds⟩:=hG aX.cell HX
      have hr:=run_append_grow (P:=P) w t ty _ i0 (.int .u8 0) ht hi hz0 bd xs.length xs.length (xs.map (Value.int .u8)) (by rw[hz1];simp) holds ad ys.length c (ys.map (Value.int .u8)) (by rw[hz1];simp) hnews (by omega) (by omega) (by
        rw[hz2]
        have:=nextslicecap_le (need:=xs.length+ys.length) (old:=xs.length) (by omega)
        omega)
      have f:=fin (grownCap w (xs.length+ys.length) xs.length 5) (w.drew.alloc (.cells ((xs.map (Value.int .u8)).toArray++(ys.map (Value.int .u8)).toArray++Builtin.zeroCells (Value.int .u8 0).cells (grownCap w (xs.length+ys.length) xs.length 5-(xs.length+ys.length))) 5)) (Builtin.zeroCells (Value.int .u8 0).cells (grownCap w (xs.length+ys.length) xs.length 5-(xs.length+ys.length))) (grownCap_ge w _ _ _) (grownCap_le_maxLen _ _ _ _ (by unfold maxLen;omega)) (by rw[hzc]) (by simpa using dm w.drew _)
      exact⟨some ⟨w.heap.size,0,none⟩,grownCap w (xs.length+ys.length) xs.length 5,_,by rw[hr,List.length_append],f.1,((ay.refl _ _).drew).alloc _,.inr f.2⟩
section
variable {P:Program}{n:Nat}{D:List Deferred}{F:Fr}{w:World}{K:Fr→World→Prop}{Q:Exit→Act→World→Prop}{d:Option Tmp}{t:TypeId}{s:String}{af:Array Edge}{gu:Option (Nat × Bool)}
theorem Ba{ty:TypeId}{x y:Operand}{m:Bool}{A:Option Addr}{xs ys:List Int}{u:Value}(HX:aS true w (.slice A xs.length xs.length) xs)(HY:aS m w u ys)(hl:xs.length+ys.length≤4194304)
    (h:∀ A' cp w',aS true w' (.slice A' (xs++ys).length cp) (xs++ys)→((A'=A∧w'=w)∨∃ c,cz w.heap.size w' (.slice A' 0 c) [])→ay [] w w'→K (pt d (.slice A' (xs++ys).length cp) F) w') (hx:dW F x=some (.slice A xs.length xs.length):=by kernel_rfl) (hy:dW F y=some u:=by kernel_rfl)
    (hs:(oZ P ty,(P.info? 5).map (fun i=>(i.zero,i.size,i.bytes)),eR n d)=(some 5,some (some (.int .u8 0),1,1),true):=by kernel_rfl) : OG P ⟨d,.call { callee:=.builtin .append,args:=#[x,y],argTypes:=#[ty,ty] },t,s,af,gu⟩ n D F w K Q:=by
  simp only[Prod.mk.injEq] at hs
  obtain⟨h1,h2,h3⟩:=hs
  obtain⟨A',cp,w',hr,hv,hu,ho⟩:=jf (P:=P) (w:=w) ty t _ (e9 h1) rfl h2 HX HY hl
  refine⟨fun a ha K' hK=>OW.mk ?_⟩
  have hx':=ha.ev hx
  have hy':=ha.ev hy
  unfold Oper.wp execOp
  simp only[resolve,invoke,builtin,Sem.run_bind,Sem.run_pure,Result.andThen_ok,List.map_toArray,List.map_cons,List.map_nil,hx',hy',hr]
  exact hK _ _ _ (h A' cp w' hv ho hu) (ha.put h3)
end
open Go.RowKit
def cF (n base:Nat)(w:World)(g:Nat)(A:Option Addr)(c:Nat)(S:SS) : Prop:=(∃ cp,w.heap[g]? = some (.cells #[.int .i64 S.dir,.slice A S.held.length cp,.bool S.off] 127 (0,0))∧aS true w (.slice A S.held.length cp) S.held∧S.held.length≤256∧S.held.length≤cp)∧cz base w (.slice A 0 c) []∧n≤w.heap.size∧(∀ x,x∈ob A→n≤x)∧base≤w.heap.size
section
variable {n base g c:Nat}{w w':World}{A:Option Addr}{S:SS}{X:List Nat}
theorem cF.row(h:cF n base w g A c S) : cz base w (.slice A 0 c) []:=h.2.1
theorem cF.low(h:cF n base w g A c S) : ∀ x,x∈ob A→n≤x:=h.2.2.2.1
theorem cF.nle(h:cF n base w g A c S) : n≤w.heap.size:=h.2.2.1
theorem cF.le(h:cF n base w g A c S) : S.held.length≤256:=by
  obtain⟨⟨cp,_,_,h1,_⟩,_⟩:=h
  exact h1
theorem cF.lt(h:cF n base w g A c S) : g<w.heap.size:=by
  obtain⟨⟨cp,h1,_⟩,_⟩:=h
  exact am h1
theorem cF.cells(h:cF n base w g A c S) : ∃ cs fr,w.heap[g]? = some (.cells cs 127 fr):=by
  obtain⟨⟨cp,h1,_⟩,_⟩:=h
  exact⟨_,_,h1⟩
theorem cF.upd(h:cF n base w g A c S)(hu:ay X w w')(hg:g∉X)(hr:∀ x,x∈ob A→x∉X) : cF n base w' g A c S:=by
  obtain⟨⟨cp,h1,h2,h3⟩,h4,h5,h6,h7⟩:=h
  exact⟨⟨cp,hu.blk hg h1,aS.far h2 hu (fun _=>hr),h3⟩,ak h4 hu hr (fun _ _ q=>q),Nat.le_trans h5 hu.size,h6,Nat.le_trans h7 hu.size⟩
end
theorem bo.bad{n:Nat}{w:World}(hn:n≤w.heap.size){e:Int}{cs:List Value}(h:qG true w (Ev.bad e) cs) : bo n w (Ev.bad e) cs:=⟨hn,fun w' X hu ha=>by
  obtain⟨s,h1,h2,h3⟩:=h
  obtain⟨vw,vb,vd,vr,vo,k0,kw,kb,kd,kr,ko,kR⟩:=h2
  have nl:∀ {α:Type} {e:TypeId} {sz:Nat} {R:World→α→List Value→Prop} {v:Value},aR true e sz R w v []→aR true e sz R w' v []:=fun⟨A,c,hv,q1,q2,q3,q4⟩=>⟨A,c,hv,q1,q2,q3,fun hp=>absurd hp (Nat.lt_irrefl 0)⟩
  exact⟨s,h1,⟨vw,vb,vd,vr,vo,k0,nl kw,nl kb,nl kd,nl kr,nl ko,kR⟩,h3⟩⟩
theorem dv.nil{n base:Nat}{w:World}:dv n base w (.slice none 0 0) []:=aL.nil ..
theorem dv.bad{n base:Nat}{w:World}{v:Value}{e:Int}(hn:n≤w.heap.size)(h:i3 base w v [Ev.bad e]) : dv n base w v [Ev.bad e]:=by
  obtain⟨cells,ho,hx⟩:=h
  refine⟨cells,ho,fun j x hj=>?_⟩
  obtain⟨cs,h1,h2,h3⟩:=hx j x hj
  cases j with
  | succ j=>simp at hj
  | zero =>
    have hj:Ev.bad e=x:=by simpa using hj
    subst hj
    exact⟨cs,h1,bo.bad hn h2,h3⟩
def Br (n base:Nat)(S2:SS)(L:List Ev)(g:Nat)(A:Option Addr)(w:World)(e:Ending)(w':World) : Prop:=∃ v A2 c2 n2,e = .returned v∧dv n2 w.heap.size w' v L∧cF n2 base w' g A2 c2 S2∧(∀ x,x∈ob A2→x∈ob A∨w.heap.size≤x)∧n≤n2∧ay (g :: (ob A++[])) w w'
theorem kY{g:Nat}{A:Option Addr}{w w':World}(h:ay [g] w w') : ay (g :: (ob A++[])) w w':=ay.mono h fun x hx=>.inl (by rw[List.mem_singleton] at hx;rw[hx];exact List.mem_cons_self ..)
theorem wV{w:World}{d:Int}(hd:d=0∨d=1) : Calls Tryz.prog 46 #[.int .i64 d] w (fun e w'=>∃ g,e = .returned (.pointer (some ⟨g,0,none⟩))∧w.heap.size≤g∧cF w.heap.size w.heap.size w' g none 0 ⟨d,[],false⟩∧ay [] w w'):=by
 have h:((d != 0)&&(d != 1))=false:=by rcases hd with rfl | rfl<;>rfl
 refine en 12 Tryz.func46 rfl<|sg<|Pl 1<|nt<|sq<|sg<|Pl 3<|cu 3 [5] 8 (((d != 0)&&(d != 1))) (fun K c=>?_) ?_
 refine bl 5 ((d != 0)) (fun a=>?_) (fun a=>?_)
 have i:=aB a
 exact Pl 3<|ce c (d != 1) (by rw[a];rfl)
 have i:=ah a
 exact Pl 3<|ce c false (by rw[a];rfl)
 refine nt<|cf h<|bK<|sg<|Pl 2<|L0<|cI #[.int .i64 d,.slice none 0 0,.bool false] fun f l j k b=>Pl 1<|nt<|rt<|rr (.pointer (some ⟨f,0,none⟩))<|?_
 exact⟨f,rfl,j,⟨⟨0,k,aR.nil ..,Nat.zero_le _,Nat.zero_le _⟩,aL.nil ..,b.size,cJ,b.size⟩,b⟩
theorem wJ{w:World}{n base g c:Nat}{A:Option Addr}{S:SS}(h:cF n base w g A c S) : Calls Tryz.prog 158 #[.pointer (some ⟨g,0,none⟩)] w (bv (.int .i64 ((S.held.length:Nat) : Int)) w):=by
 obtain⟨⟨cp,hb,hr,hl,hcp⟩,hrow,hn0,hlow,hbs⟩:=h
 have hcm:=aR.len hr
 refine en 8 Tryz.func158 rfl<|sg<|Pl 1<|ng<|Pl 3<|L0<|aP hb 1<|Pl 2<|nt<|rt<|?_
 refine rr (.int .i64 ((S.held.length:Nat) : Int))<|?_
 exact⟨rfl,(ay.refl [] _)⟩
theorem ti{w:World}{n base g c:Nat}{A:Option Addr}{S:SS}(h:cF n base w g A c S){m:Bool}{B:Option Addr}{cpb:Nat}{b:List Int}(hgA:g∉ob A)(hsl:aS m w (.slice B b.length cpb) b)(hbl:b.length≤1048576)(hcb:b.length≤cpb) :
    Calls Tryz.prog 157 #[.pointer (some ⟨g,0,none⟩),.slice B b.length cpb] w (Br n base (S.feed b).1 (S.feed b).2 g A w):=by
 obtain⟨⟨cp,hb,hr,hl,hcp⟩,hrow,hn0,hlow,hbs⟩:=h
 have hcm:=aR.len hr
 have hbm:=aR.len hsl
 refine en 53 Tryz.func157 rfl<|sg<|Pl 1<|nt<|sq<|sg<|Pl 3<|L0<|aP hb 2<|nt<|cb (S.off) (fun l=>?_) (fun l=>?_)
 refine sg<|Pl 1<|nt<|rt<|tr<|rr (.slice none 0 0)<|?_
 have hs:S.feed b=(S,[]):=by unfold SS.feed;rw[l];rfl
 rw[hs]
 exact⟨_,A,c,n,rfl,dv.nil,⟨⟨cp,hb,hr,hl,hcp⟩,ak hrow (ay.refl [] _) (fun x hx=>(by simp)) (fun _ _ q=>q),Nat.le_trans hn0 lr,hlow,Nat.le_trans hbs lr⟩,iH,Nat.le_refl _,kY (ay.mono (S':=[g]) (ay.refl [] _) au)⟩
 refine bK<|sg<|Pl 5<|L0<|aP hb 1<|Pl 1<|L0<|Oi (256-((S.held.length:Nat) : Int))<|L0<|iD (.int .i64 (min ((b.length:Nat) : Int) (256-((S.held.length:Nat) : Int)))) (ym (a:=((b.length:Nat) : Int)) (b:=(256-((S.held.length:Nat) : Int))) rfl (by kernel_rfl) (by kernel_rfl))<|Pl 1<|nt<|sq<|Rg 23 (fun w'=>w'.cell? ⟨g,1,none⟩=some (.slice A S.held.length cp)) fun R f=>?_
 have z:=ub f hb
 refine aZ (aa z rfl) fun d=>Rt 0 d<|Rt 1 d<|Rt 2 d<|Rt 3 d<|Rl 4 d (fun _ hs=>hs)<|Rt 5 d<|Rt 6 d<|Rt 7 d<|Rl 8 d (fun _ hs=>hs)<|Rt 9 d<|Rt 10 d<|Rt 11 d<|Rt 12 d<|?_
 refine Rl 13 d (fun _ hs=>hs)<|Rt 14 d<|?_
 have u:=aS.upd' hr f aE
 refine Rr 15 d (.slice A S.held.length S.held.length) (fun _ _=>wC (k1:=.i64) (k2:=.i64) (i1:=((S.held.length:Nat) : Int)) (i2:=((S.held.length:Nat) : Int)) (A:=A) (n:=S.held.length) (c:=cp) rfl Tryz.underlying27 (by kernel_rfl) (by kernel_rfl) (by kernel_rfl) (by kernel_rfl) rfl rfl (aR.cap u) (aR.adr u))<|Rt 16 d<|Rt 17 d<|v6 (yB (P:=Tryz.prog) 27 5 1 Tryz.underlying27 rfl rfl B b.length cpb (k:=(min ((b.length:Nat) : Int) (256-((S.held.length:Nat) : Int)))) (((min ((b.length:Nat) : Int) (256-((S.held.length:Nat) : Int)))).toNat) (by omega) (by omega) (by omega)) fun G hrun30 H=>Rr 18 d (.slice G (((min ((b.length:Nat) : Int) (256-((S.held.length:Nat) : Int)))).toNat) cpb) (fun _ _=>oy (kl:=.i64) (k:=(min ((b.length:Nat) : Int) (256-((S.held.length:Nat) : Int)))) (A:=B) (n:=b.length) (c:=cpb) rfl Tryz.underlying27 (by kernel_rfl) (by kernel_rfl) (hrun30 _ _))<|?_
 refine R0 19 rfl<|Ba (xs:=S.held) (ys:=(b.take (((min ((b.length:Nat) : Int) (256-((S.held.length:Nat) : Int)))).toNat))) (u).full (H _ _ _ _ _ (aS.upd' hsl f aE)) (by(try simp only[List.length_take]);omega) fun o C T I J j=>?_
 have v:=ub j z
 refine aZ (aa v rfl) fun D=>Rt 20 D<|Rt 21 D<|Cc 22 rfl<|co v 1 #[.int .i64 S.dir,.slice o ((S.held++(b.take (((min ((b.length:Nat) : Int) (256-((S.held.length:Nat) : Int)))).toNat))).length) C,.bool S.off] fun E F i=>re<|tn<|sq<|sg<|Pl 4<|nt<|?_
 have p:=uz f (uz j i)
 refine cb (((min ((b.length:Nat) : Int) (256-((S.held.length:Nat) : Int)))==((b.length:Nat) : Int))) (fun y=>?_) (fun y=>?_)
 have K:=ax y
 refine sg<|Pl 1<|nt<|rt<|tr<|rr (.slice none 0 0)<|?_
 have hle:b.length≤256-S.held.length:=by omega
 have hs:S.feed b=(⟨S.dir,S.held++b,false⟩,[]):=by unfold SS.feed;rw[l,decide_eq_true hle];rfl
 rw[hs]
 have hz:(b.take (((min ((b.length:Nat) : Int) (256-((S.held.length:Nat) : Int)))).toNat))=b:=List.take_of_length_le (by omega)
 have hB:=F
 have hR:=(aS.upd' I i (aj (aM v (by decide)) aE))
 rw[hz] at hB hR
 have hsh:=hR.cap
 have hgr:g∉ob A:=fun e=>hgA e
 have fin:∀ c2,cz base E (.slice o 0 c2) []→(∀ x,x∈ob o→n≤x)→(∀ x,x∈ob o→x∈ob A∨w.heap.size≤x)→Br n base ⟨S.dir,S.held++b,false⟩ [] g A w (.returned (.slice none 0 0)) E:=fun c2 k1 k2 k3=>⟨_,o,c2,n,rfl,dv.nil,⟨⟨C,by rw[← l];exact hB,hR,by rw[List.length_append];omega,hsh⟩,k1,Nat.le_trans hn0 p.size,k2,Nat.le_trans hbs p.size⟩,k3,Nat.le_refl _,kY p⟩
 rcases J with⟨e1,e2⟩|⟨c2,k⟩
 · refine fin c ?_ ?_ ?_
   · rw[e1];exact ak hrow p (fun x hx=>(by rw[List.mem_singleton];intro e;exact hgA (e▸hx))) (fun _ _ q=>q)
   · rw[e1];exact hlow
   · rw[e1];exact iH
 · refine fin c2 ?_ ?_ ?_
   · exact aL.weaken (ak k i (fun x hx=>(by rw[List.mem_singleton];intro e;have:=gG k x hx;have:=am hb;have:=f.size;omega)) (fun _ _ q=>q)) (Nat.le_trans hbs f.size)
   · exact fun x hx=>Nat.le_trans (Nat.le_trans hn0 f.size) (gG k x hx)
   · exact fun x hx=>.inr (Nat.le_trans f.size (gG k x hx))
 have K:=aA y
 refine bK<|sg<|Pl 4<|L0<|co F 1 #[.int .i64 S.dir,.slice none 0 0,.bool S.off] fun U L r=>Pl 2<|L0<|co L 2 #[.int .i64 S.dir,.slice none 0 0,.bool true] fun V M s=>ng<|Pl 1<|L0<|cR (m:=1) (e:=66) #[.int .i64 3,.int .u8 0,.int .u16 0,.int .u8 0,.int .u8 0,.int .u16 0,.int .u16 0,.int .u16 0,.int .u16 0,.int .u16 0,.int .u16 0,.int .u16 0,.int .u16 0,.int .u16 0,.int .u16 0,.slice none 0 0,.slice none 0 0,.slice none 0 0,.slice none 0 0,.int .u8 0,.int .u8 0,.int .u8 0,.int .u8 0,.int .u8 0,.slice none 0 0] fun N W O Q t=>?_
 refine Pl 1<|nt<|rt<|rr (.slice (some ⟨N,0,none⟩) 1 1)<|?_
 have hle:¬ b.length≤256-S.held.length:=by omega
 have hs:S.feed b=(⟨S.dir,[],true⟩,[Ev.bad 3]):=by unfold SS.feed;rw[l,decide_eq_false hle];rfl
 rw[hs]
 have hE:=ms (w0:=w) (x:=Ev.bad 3) (Nat.le_trans (le (le (le (le f.size j.size) i.size) r.size) s.size) O) Q ⟨⟨none,0,none,0,none,0,none,0,none,0⟩,by kernel_rfl,mw,by decide,by decide⟩
 exact⟨_,none,0,n,rfl,dv.bad (Nat.le_trans hn0 (le (le (le (le (le f.size j.size) i.size) r.size) s.size) t.size)) hE,⟨⟨0,(ub t M),aR.nil ..,(Nat.zero_le _),(Nat.zero_le _)⟩,aL.nil ..,Nat.le_trans hn0 (le (le (le (le (le f.size j.size) i.size) r.size) s.size) t.size),cJ,Nat.le_trans hbs (le (le (le (le (le f.size j.size) i.size) r.size) s.size) t.size)⟩,eg,Nat.le_refl _,kY (u1 p (u1 r (aD s t) im) im)⟩
theorem sX{w:World}{n base g c:Nat}{A:Option Addr}{S:SS}(h:cF n base w g A c S) : Calls Tryz.prog 159 #[.pointer (some ⟨g,0,none⟩)] w (Br n base S.tick.1 S.tick.2 g A w):=by
 obtain⟨⟨cp,hb,hr,hl,hcp⟩,hrow,hn0,hlow,hbs⟩:=h
 have hcm:=aR.len hr
 refine en 32 Tryz.func159 rfl<|sg<|Pl 1<|ng<|Pl 3<|L0<|aP hb 1<|Pl 1<|nt<|sq<|?_
 refine go<|Pl 4<|L0<|co hb 1 #[.int .i64 S.dir,.slice none 0 0,.bool S.off] fun L u d=>Pl 2<|L0<|co u 2 #[.int .i64 S.dir,.slice none 0 0,.bool false] fun v l f=>nt<|sq<|sg<|Pl 3<|nt<|?_
 have b:=u1 d f im
 refine cb ((((S.held.length:Nat) : Int)==0)) (fun o=>?_) (fun o=>?_)
 have y:=ax o
 refine sg<|Pl 1<|nt<|rt<|tr<|rr (.slice none 0 0)<|?_
 have hs:S.tick=(⟨S.dir,[],false⟩,[]):=by unfold SS.tick;rw[if_pos (by omega)]
 rw[hs]
 exact⟨_,none,0,v.heap.size,rfl,dv.nil,⟨⟨0,l,aR.nil ..,(Nat.zero_le _),(Nat.zero_le _)⟩,aL.nil ..,Nat.le_refl _,cJ,Nat.le_trans hbs b.size⟩,eg,Nat.le_trans hn0 b.size,kY b⟩
 have y:=aA o
 refine bK<|sg<|Pl 3<|L0<|aP l 0<|Pl 1<|?_
 refine pr (eQ S.dir S.held) fun a p r=>?_
 refine L0<|Oc<|e2 (oL r (aS.upd' hr b (aj (aM hb (by decide)) aE)) (by omega)) fun zN M z i=>?_
 obtain⟨B,C,D⟩:=z
 refine Pl 3<|L0<|bN #[.int .u8 0,.int .u16 0,.int .u8 0,.int .u8 0,.int .u16 0,.int .u16 0,.int .u16 0,.int .u16 0,.int .u16 0,.int .u16 0,.int .u16 0,.int .u16 0,.int .u16 0,.int .u16 0,.slice none 0 0,.slice none 0 0,.slice none 0 0,.slice none 0 0,.int .u8 0,.int .u8 0,.int .u8 0,.int .u8 0,.int .u8 0,.slice none 0 0] fun N O E F j=>L0<|bi F (eK a.unit a.tid a.msg zN) fun P G k=>Pl 1<|ng<|Pl 1<|L0<|cj G<|Pl 1<|L0<|cR (m:=1) (e:=66) (uv ⟨p,a⟩ zN) fun H I J K q=>Pl 1<|nl<|?_
 refine tn<|rt<|rr (.slice (some ⟨H,0,none⟩) 1 1)<|?_
 have hs:S.tick=(⟨S.dir,[],false⟩,[⟨p,a⟩]):=by unfold SS.tick;rw[if_neg (by omega),r]
 rw[hs]
 have s:=ud j (aD k q) E
 have hE:=ms (w0:=w) (x:=⟨p,a⟩) (Nat.le_trans (le (le (le (le d.size f.size) i.size) j.size) k.size) J) K ⟨zN,rfl,(aF.upd B s aE),C,D⟩
 have t:=aD i s
 exact⟨_,none,0,I.heap.size,rfl,i3.low hE,⟨⟨0,(ub t l),aR.nil ..,(Nat.zero_le _),(Nat.zero_le _)⟩,aL.nil ..,Nat.le_refl _,cJ,Nat.le_trans hbs (le (le (le (le (le d.size f.size) i.size) j.size) k.size) q.size)⟩,eg,Nat.le_trans hn0 (le (le (le (le (le d.size f.size) i.size) j.size) k.size) q.size),kY (aD b t)⟩
open Go.RowKit
def uw (b:List Int) : al:=⟨b,false,0⟩
def uA (b:List Int) : al:=(uw b).wordsC 1
def uC (b:List Int) : al:=(uA b).wordsC 1
def ux (b:List Int) : al:=(uC b).wordsC 1
def wm (b:List Int) : al:=(ux b).bytesC 1
def kO (b:List Int) : List Int:=(wm b).bytesR (((wm b).l.length:Nat) : Int)
def cn (dir:Int)(b:List Int) : cm × Int :=
  if dir != 0&&dir != 1 then (cm.zero,1)
  else if decide ((b.length:Int)<8) then (cm.zero,2)
  else if decide (260<(b.length:Int)) then (cm.zero,3)
  else if (uA b).wordV != 0 then (cm.zero,13)
  else if (uC b).wordV != (b.length:Int)-6 then (cm.zero,5)
  else dj (ux b).byteV (uw b).wordV (cy dir (kO b))
theorem oW{m:Bool}{A:Option Addr}{cp:Nat}{b:List Int}{w:World}{dir:Int}(hsl:aS m w (.slice A b.length cp) b)(hb:b.length≤1048576) :
    Calls Tryz.prog 192 #[.int .i64 dir,.slice A b.length cp] w (mF (cn dir b) w):=by
 have hln:(b.length:Int)≤1048576:=by omega
 refine en 75 Tryz.func192 rfl<|sg<|L0<|bN #[.int .u8 0,.int .u16 0,.int .u8 0,.int .u8 0,.int .u16 0,.int .u16 0,.int .u16 0,.int .u16 0,.int .u16 0,.int .u16 0,.int .u16 0,.int .u16 0,.int .u16 0,.int .u16 0,.slice none 0 0,.slice none 0 0,.slice none 0 0,.slice none 0 0,.int .u8 0,.int .u8 0,.int .u8 0,.int .u8 0,.int .u8 0,.slice none 0 0] fun b0 b1 g e i=>Pl 1<|nt<|sq<|bk<|sg<|Pl 3<|cu 3 [17] 20 (((dir != 0)&&(dir != 1))) (fun K N=>?_) ?_
 refine bl 17 ((dir != 0)) (fun o=>?_) (fun o=>?_)
 have Z:=aB o
 exact Pl 3<|ce N (dir != 1) (by rw[o];rfl)
 have Z:=ah o
 exact Pl 3<|ce N false (by rw[o];rfl)
 refine Pl 1<|nt<|cb (((dir != 0)&&(dir != 1))) (fun c=>?_) (fun c=>?_)
 have O:=(bM c).1
 have P:=(bM c).2
 have b2:=aB O
 have b3:=aB P
 refine sg<|Pl 1<|L0<|bi e #[.int .u8 0,.int .u16 0,.int .u8 0,.int .u8 0,.int .u16 0,.int .u16 0,.int .u16 0,.int .u16 0,.int .u16 0,.int .u16 0,.int .u16 0,.int .u16 0,.int .u16 0,.int .u16 0,.slice none 0 0,.slice none 0 0,.slice none 0 0,.slice none 0 0,.int .u8 0,.int .u8 0,.int .u8 0,.int .u8 0,.int .u8 0,.slice none 0 0] fun b4 a0 a1=>Pl 1<|nt<|rt<|br<|tr<|d9 a0 (.int .i64 1)<|?_
 have hs:cn dir b=(cm.zero,1):=by
   unfold cn
   (try simp only[c,O,P,bs,if_true,if_false,decide_true,decide_false,dj,wm,ux,uC,uA,uw,reduceIte])
   all_goals rfl
 refine dU hs ?_
 exact cQ (ud i a1 g)
 refine sg<|Pl 4<|nt<|cb ((decide (((b.length:Nat) : Int)<8))) (fun d=>?_) (fun d=>?_)
 have a2:=of_decide_eq_true d
 refine sg<|Pl 1<|L0<|bi e #[.int .u8 0,.int .u16 0,.int .u8 0,.int .u8 0,.int .u16 0,.int .u16 0,.int .u16 0,.int .u16 0,.int .u16 0,.int .u16 0,.int .u16 0,.int .u16 0,.int .u16 0,.int .u16 0,.slice none 0 0,.slice none 0 0,.slice none 0 0,.slice none 0 0,.int .u8 0,.int .u8 0,.int .u8 0,.int .u8 0,.int .u8 0,.slice none 0 0] fun b5 a3 a4=>Pl 1<|nt<|rt<|br<|tr<|d9 a3 (.int .i64 2)<|?_
 have hs:cn dir b=(cm.zero,2):=by
   unfold cn
   (try simp only[c,d,bs,if_true,if_false,decide_true,decide_false,dj,wm,ux,uC,uA,uw,reduceIte])
   all_goals rfl
 refine dU hs ?_
 exact cQ (ud i a4 g)
 have a2:=of_decide_eq_false d
 refine sg<|Pl 4<|nt<|cb ((decide (260<((b.length:Nat) : Int)))) (fun f=>?_) (fun f=>?_)
 have a5:=of_decide_eq_true f
 refine sg<|Pl 1<|L0<|bi e #[.int .u8 0,.int .u16 0,.int .u8 0,.int .u8 0,.int .u16 0,.int .u16 0,.int .u16 0,.int .u16 0,.int .u16 0,.int .u16 0,.int .u16 0,.int .u16 0,.int .u16 0,.int .u16 0,.slice none 0 0,.slice none 0 0,.slice none 0 0,.slice none 0 0,.int .u8 0,.int .u8 0,.int .u8 0,.int .u8 0,.int .u8 0,.slice none 0 0] fun b6 a6 a7=>Pl 1<|nt<|rt<|br<|tr<|d9 a6 (.int .i64 3)<|?_
 have hs:cn dir b=(cm.zero,3):=by
   unfold cn
   (try simp only[c,d,f,bs,if_true,if_false,decide_true,decide_false,dj,wm,ux,uC,uA,uw,reduceIte])
   all_goals rfl
 refine dU hs ?_
 exact cQ (ud i a7 g)
 have a5:=of_decide_eq_false f
 refine sk<|bn<|tn<|sg<|Pl 1<|?_
 refine L0<|Oc<|e3 (dq (aS.old hsl i) (by omega)) fun u b7 p a8 a9=>Pl 1<|ng<|Pl 1<|ng<|Pl 2<|L0<|fj #[] #[] (args:=#[.pointer (some ⟨u,0,none⟩)])<|m3 (bI a8) fun b9 aa ac ba=>Pl 2<|L0<|fj #[] #[] (args:=#[.pointer (some ⟨u,0,none⟩)])<|m3 (bI aa) fun bb ad ae bc=>?_
 refine ab ad fun x46 s af=>?_
 refine Pl 2<|L0<|fj #[] #[] (args:=#[.pointer (some ⟨u,0,none⟩)])<|m3 (bI af) fun bd ai ak be=>Pl 3<|nt<|sq<|bk<|sg<|Pl 3<|nt<|?_
 have j:=ud a9 (u1 ac (u1 ae ak im) im) p
 have v:=aD i j
 refine cb (((((al.mk b false 0).wordsC 1).wordV)!=0)) (fun h=>?_) (fun h=>?_)
 have am:=aB h
 refine sg<|Pl 1<|?_
 refine L0<|bi (ub j e) #[.int .u8 0,.int .u16 0,.int .u8 0,.int .u8 0,.int .u16 0,.int .u16 0,.int .u16 0,.int .u16 0,.int .u16 0,.int .u16 0,.int .u16 0,.int .u16 0,.int .u16 0,.int .u16 0,.slice none 0 0,.slice none 0 0,.slice none 0 0,.slice none 0 0,.int .u8 0,.int .u8 0,.int .u8 0,.int .u8 0,.int .u8 0,.slice none 0 0] fun bf an ao=>Pl 1<|nt<|rt<|br<|tr<|d9 an (.int .i64 13)<|?_
 subst s
 have hs:cn dir b=(cm.zero,13):=by
   unfold cn
   (try simp only[c,d,f,h,bs,if_true,if_false,decide_true,decide_false,dj,wm,ux,uC,uA,uw,reduceIte])
   all_goals rfl
 refine dU hs ?_
 exact cQ (ud v ao g)
 have am:=ah h
 refine sg<|Pl 1<|L0<|Oi x46.wordV<|Pl 2<|L0<|Oi (((b.length:Nat) : Int)-6)<|Pl 2<|nt<|cb ((x46.wordV != (((b.length:Nat) : Int)-6))) (fun k=>?_) (fun k=>?_)
 have ap:=aB k
 refine sg<|Pl 1<|?_
 refine L0<|bi (ub j e) #[.int .u8 0,.int .u16 0,.int .u8 0,.int .u8 0,.int .u16 0,.int .u16 0,.int .u16 0,.int .u16 0,.int .u16 0,.int .u16 0,.int .u16 0,.int .u16 0,.int .u16 0,.int .u16 0,.slice none 0 0,.slice none 0 0,.slice none 0 0,.slice none 0 0,.int .u8 0,.int .u8 0,.int .u8 0,.int .u8 0,.int .u8 0,.slice none 0 0] fun bg aq ar=>Pl 1<|nt<|rt<|br<|tr<|d9 aq (.int .i64 5)<|?_
 subst s
 have hs:cn dir b=(cm.zero,5):=by
   unfold cn
   (try simp only[c,d,f,h,k,bs,if_true,if_false,decide_true,decide_false,dj,wm,ux,uC,uA,uw,reduceIte])
   all_goals rfl
 refine dU hs ?_
 exact cQ (ud v ar g)
 have ap:=ah k
 refine sk<|bn<|tn<|sg<|Pl 1<|L0<|Oc<|m3 (bJ ai) fun bh t Q bj=>Pl 1<|ng<|Pl 3<|L0<|Oc<|mq (dH t)<|?_
 have bm:=ag.len t
 refine L0<|Oc<|uo (bT (n:=((((x46.wordsC 1).bytesC 1).l.length:Nat) : Int)) t) fun bo bp au av bq bt aw R=>?_
 have bu:=Nat.le_trans (al.bytesR_le ((x46.wordsC 1).bytesC 1) ((((x46.wordsC 1).bytesC 1).l.length:Nat) : Int)) (ag.len t)
 refine ab aw fun x80 S bv=>?_
 obtain⟨a,q,x⟩ : ∃ M E,cy dir (((x46.wordsC 1).bytesC 1).bytesR ((((x46.wordsC 1).bytesC 1).l.length:Nat) : Int))=(M,E):=⟨_,_,rfl⟩
 have T:=j0 (dir:=dir) (w:=au) av (by omega)
 rw[x] at T
 refine L0<|Oc<|e2 T fun ax bw U V=>?_
 have ay:=U
 obtain⟨az,aA,aC,aG,aH,aI,aK,aL,aN,aO,aP,bx⟩:=ay
 obtain rfl:ax=(bA a az aA aC aG aH).toArray:=by apply Array.toList_inj.1;simpa using aI
 obtain⟨y,z,rfl,_,_⟩:=aK.shape
 obtain⟨B,C,rfl,_,_⟩:=aL.shape
 obtain⟨D,F,rfl,_,_⟩:=aN.shape
 obtain⟨G,H,rfl,_,_⟩:=aO.shape
 obtain⟨I,J,rfl,_,_⟩:=aP.shape
 refine Pl 3<|L0<|bN mZ fun bz bB aQ aR aT=>L0<|bi aR (mG a.code a.fail a.addr a.count a.value a.and_ a.or_ a.addr2 a.sub a.status a.events a.messages (.slice y a.words.length z) (.slice B a.bits.length C) (.slice D a.data.length F) (.slice G a.recs.length H) a.mei a.kind a.level a.more a.next (.slice I a.objects.length J)) fun bC aU aV=>Pl 1<|nt<|sq<|sg<|Pl 2<|nt<|?_
 have W:=ud aT aV aQ
 have L:=u1 Q (aD R (aD V W)) im
 have X:=ud v L (le i.size p)
 refine cb ((q != 0)) (fun r=>?_) (fun r=>?_)
 have aW:=aB r
 refine sg<|Pl 2<|?_
 refine L0<|bi (ub (ud j L p) e) #[.int .u8 0,.int .u16 0,.int .u8 0,.int .u8 0,.int .u16 0,.int .u16 0,.int .u16 0,.int .u16 0,.int .u16 0,.int .u16 0,.int .u16 0,.int .u16 0,.int .u16 0,.int .u16 0,.slice none 0 0,.slice none 0 0,.slice none 0 0,.slice none 0 0,.int .u8 0,.int .u8 0,.int .u8 0,.int .u8 0,.int .u8 0,.slice none 0 0] fun bD aX aY=>Pl 1<|nt<|rt<|tr<|d9 aX (.int .i64 q)<|?_
 subst S s
 have hX2:cy dir (kO b)=(a,q):=x
 have hs:cn dir b=(cm.zero,q):=by
   unfold cn
   (try simp only[c,d,f,h,k,r,bs,if_true,if_false,decide_true,decide_false,dj,wm,ux,uC,uA,uw,hX2,reduceIte])
   all_goals rfl
 refine dU hs ?_
 exact cQ (ud X aY g)
 have aW:=ah r
 refine bK<|sg<|Pl 3<|L0<|cj aU<|Pl 1<|?_
 refine L0<|bi (ub (ud j L p) e) #[.int .u8 ((x46.wordsC 1).byteV),.int .u16 ((al.mk b false 0).wordV),.int .u8 a.code,.int .u8 a.fail,.int .u16 a.addr,.int .u16 a.count,.int .u16 a.value,.int .u16 a.and_,.int .u16 a.or_,.int .u16 a.addr2,.int .u16 a.sub,.int .u16 a.status,.int .u16 a.events,.int .u16 a.messages,.slice y a.words.length z,.slice B a.bits.length C,.slice D a.data.length F,.slice G a.recs.length H,.int .u8 a.mei,.int .u8 a.kind,.int .u8 a.level,.int .u8 a.more,.int .u8 a.next,.slice I a.objects.length J] fun bE aZ Y=>Pl 1<|nt<|rt<|d9 aZ (.int .i64 0)<|?_
 subst S s
 have hX2:cy dir (kO b)=(a,q):=x
 have hs:cn dir b=(⟨((((al.mk b false 0).wordsC 1).wordsC 1).wordsC 1).byteV,(al.mk b false 0).wordV,a⟩,0):=by
   unfold cn
   (try simp only[c,d,f,h,k,r,bs,if_true,if_false,decide_true,decide_false,dj,wm,ux,uC,uA,uw,hX2,reduceIte])
   all_goals rfl
 refine dU hs ?_
 exact⟨_,rfl,⟨#[.int .u8 a.code,.int .u8 a.fail,.int .u16 a.addr,.int .u16 a.count,.int .u16 a.value,.int .u16 a.and_,.int .u16 a.or_,.int .u16 a.addr2,.int .u16 a.sub,.int .u16 a.status,.int .u16 a.events,.int .u16 a.messages,.slice y a.words.length z,.slice B a.bits.length C,.slice D a.data.length F,.slice G a.recs.length H,.int .u8 a.mei,.int .u8 a.kind,.int .u8 a.level,.int .u8 a.more,.int .u8 a.next,.slice I a.objects.length J],(by as_aux_lemma=>kernel_rfl),(aF.upd U (uz W Y) (aj (aM (ub (ud j (u1 Q (aD R V) im) p) e) (by decide)) aE)),b8 (by omega),aJ (by omega)⟩,(ud X Y g)⟩
theorem pq{m:Bool}{v:Value}{b:List Int}{w:World}{dir:Int}(h:aS m w v b)(hb:b.length≤1048576) : Calls Tryz.prog 192 #[.int .i64 dir,v] w (mF (cn dir b) w):=by
  obtain⟨A,cp,rfl,_,_⟩:=h.shape
  exact oW h hb
open Go.RowKit
def ei (dir u t:Int)(M:aT) : Option (List Int) :=
  match ci dir M with
  | none=>none
  | some l=>some ((aG [t,0,((l.length:Int)+1)%65536]++[u])++l)
theorem kT{m:Bool}{cs:Array Value}{M:aT}{w:World}{dir u t:Int}(h:aF m w cs.toList M)(hf:aW M)(hu:B8 u)(ht:dA t) : Calls Tryz.prog 209 #[.int .i64 dir,.agg (#[.int .u8 u,.int .u16 t]++cs)] w (ek (ei dir u t M) w):=by
 have hM:=h
 obtain⟨hu1,hu2⟩:=hu
 obtain⟨ht1,ht2⟩:=ht
 obtain⟨vw,vb,vd,vr,vo,h0,hw,hbt,hd,hr,ho,hR⟩:=h
 obtain rfl:cs=(bA M vw vb vd vr vo).toArray:=by apply Array.toList_inj.1;simpa using h0
 clear h0
 obtain⟨Aw,kw,rfl,_,_⟩:=hw.shape
 obtain⟨Ab,kb,rfl,_,_⟩:=hbt.shape
 obtain⟨Ad,kd,rfl,_,_⟩:=hd.shape
 obtain⟨Ar,kr,rfl,_,_⟩:=hr.shape
 obtain⟨Ao,ko,rfl,_,_⟩:=ho.shape
 obtain⟨q0,q1,q2,q3,q4,q5,q6,q7,q8,q9,r,s,v,y,z,A,B⟩:=hR
 simp only[B8,dA] at q0 q1 q2 q3 q4 q5 q6 q7 q8 q9 r s v y z A B
 refine en 35 Tryz.func209 rfl<|sg<|L0<|cI #[.int .u8 u,.int .u16 t,.int .u8 M.code,.int .u8 M.fail,.int .u16 M.addr,.int .u16 M.count,.int .u16 M.value,.int .u16 M.and_,.int .u16 M.or_,.int .u16 M.addr2,.int .u16 M.sub,.int .u16 M.status,.int .u16 M.events,.int .u16 M.messages,.slice Aw M.words.length kw,.slice Ab M.bits.length kb,.slice Ad M.data.length kd,.slice Ar M.recs.length kr,.int .u8 M.mei,.int .u8 M.kind,.int .u8 M.level,.int .u8 M.more,.int .u8 M.next,.slice Ao M.objects.length ko] fun Q R S g a=>Pl 2<|ng<|Pl 2<|L0<|sV g 2 22<|?_
 rcases hwr:ci dir M with _|lw
 have i:=eT (dir:=dir) (aF.old hM a) hf
 rw[hwr] at i
 refine L0<|Oc<|m1 i fun T C=>Pl 5<|nt<|sq<|sg<|Pl 2<|nt<|c1<|sg<|Pl 2<|nl<|?_
 refine tn<|rt<|tr<|rr (.tuple #[.slice none 0 0,.int .i64 1])<|?_
 have hs:ei dir u t M=none:=by
   unfold ei
   (try simp only[hwr])
   all_goals rfl
 refine de hs ?_
 exact⟨rfl,(aD a C)⟩
 have hlw:=fE hwr
 have j:=eT (dir:=dir) (aF.old hM a) hf
 rw[hwr] at j
 refine L0<|Oc<|dX j fun U V W D X Y d=>Pl 5<|nt<|sq<|sg<|Pl 2<|nt<|c0<|bK<|sq<|?_
 refine go<|Pl 2<|?_
 have k:=ub d g
 refine L0<|aP k 1<|Pl 2<|L0<|Oi (((lw.length:Nat) : Int)+1)<|Pl 1<|L0<|cR (m:=3) (e:=22) #[.int .u16 t,.int .u16 0,.int .u16 ((((lw.length:Nat) : Int)+1)%65536)] fun Z a0 E F b=>?_
 have G:=eh E (xs:=[t,0,((((lw.length:Nat) : Int)+1)%65536)]) (by as_aux_lemma=>kernel_rfl) (ap (by omega) (ap (by omega) (ap (by omega) aO))) (by(try simp only[List.length_cons,List.length_nil]);omega) F
 refine L0<|Oc<|dX (bj (xs:=[t,0,((((lw.length:Nat) : Int)+1)%65536)]) (G).rd (by(try simp only[List.length_cons,List.length_nil]);omega)) fun H a1 a2 l a3 a4 f=>Pl 1<|ng<|Pl 3<|?_
 have n:=aD b f
 refine L0<|aP (ub n k) 0<|L0<|cR (m:=1) (e:=5) #[.int .u8 u] fun a5 a6 I J c=>?_
 have K:=cW I (xs:=[u]) (by as_aux_lemma=>kernel_rfl) (ap (by omega) aO) (by(try simp only[List.length_cons,List.length_nil]);omega) J
 refine L0<|cg aX (xs:=(aG ([t,0,((((lw.length:Nat) : Int)+1)%65536)]))) (ys:=([u])) (.int .u8 0) 1 (ak l c (fun x hx=>az) (fun _ _ h=>h)) (K).rd (by(try simp only[List.length_append,List.length_cons,List.length_nil,av]);omega) (le f.size c.size) fun a7 a8 a9 o p=>Pl 1<|?_
 have q:=ut n (ut (ay.mono (S':=(ob H++[])) c au) p (ai il au)) (ai (aI l b.size) au)
 refine L0<|cg aX (xs:=((aG ([t,0,((((lw.length:Nat) : Int)+1)%65536)]))++[u])) (ys:=lw) (.int .u8 0) 1 o ((ak D q (fun x hx=>az) (fun _ _ h=>h))).rd (by(try simp only[List.length_append,List.length_cons,List.length_nil,av]);omega) (le (le f.size c.size) p.size) fun L N aa O P=>Pl 2<|nt<|rt<|rr (.tuple #[.slice L ((((aG ([t,0,((((lw.length:Nat) : Int)+1)%65536)]))++[u])++lw).length) N,.int .i64 0])<|?_
 have hs:ei dir u t M=(some (((aG ([t,0,((((lw.length:Nat) : Int)+1)%65536)]))++[u])++lw)):=by
   unfold ei
   (try simp only[hwr])
   all_goals rfl
 refine de hs ?_
 exact⟨_,rfl,(aL.weaken O (le (le a.size d.size) b.size)),(aD a (aD d (ut q P (ai (aI o b.size) au))))⟩
open Go.RowKit
theorem iF{m:Bool}{v:Value}{b:List Int}{w:World}{dir:Int}{F:cm}{E:Int}(hX:cn dir b=(F,E))(h:aS m w v b)(hb:b.length≤1048576) : Calls Tryz.prog 192 #[.int .i64 dir,v] w (fun e w'=>∃ x,e = .returned (.tuple #[.agg (eK F.unit F.tid F.msg x),.int .i64 E])∧(aF true w' (iE F.msg x).toList F.msg∧(0≤F.unit∧F.unit<256)∧(0≤F.tid∧F.tid<65536))∧ay [] w w'):=by
  refine(pq h hb).mono ?_
  rintro e w' ⟨cs,rfl,h1,h2⟩
  rw[hX] at h1 ⊢
  obtain⟨c,rfl,h3,h4,h5⟩:=h1
  obtain⟨x,rfl⟩:=pz h3
  exact⟨x,by rw[eW],⟨h3,h4,h5⟩,h2⟩
theorem mz{m:Bool}{x:SL}{M:aT}{w:World}{dir u t:Int}(hX:ei dir u t M=none)(h:aF m w (iE M x).toList M)(hf:aW M)(hu:0≤u∧u<256)(ht:0≤t∧t<65536) : Calls Tryz.prog 209 #[.int .i64 dir,.agg (eK u t M x)] w (fun e w'=>e = .returned (.tuple #[.slice none 0 0,.int .i64 1])∧ay [] w w'):=by
  have:=kT (dir:=dir) h hf hu ht
  rw[hX] at this
  rw[eW]
  exact this
theorem mL{m:Bool}{x:SL}{M:aT}{w:World}{dir u t:Int}{l:List Int}(hX:ei dir u t M=some l)(h:aF m w (iE M x).toList M)(hf:aW M)(hu:0≤u∧u<256)(ht:0≤t∧t<65536) : Calls Tryz.prog 209 #[.int .i64 dir,.agg (eK u t M x)] w (fun e w'=>∃ v,e = .returned (.tuple #[v,.int .i64 0])∧cz w.heap.size w' v l∧ay [] w w'):=by
  have:=kT (dir:=dir) h hf hu ht
  rw[hX] at this
  rw[eW]
  exact this
end Go.Proofs.YtpglhicfhppaiaaGreat
