/- Contracts of functions, part CStreamWrites4. -/
import Derived.Test.YtpglhicfhppaiaaGreatCStreamWrites1
import Derived.Test.YtpglhicfhppaiaaGreatCStreamWrites2
import Derived.Test.YtpglhicfhppaiaaGreatCStreamWrites3
import Derived.OpenShut
import Derived.Below
import Derived.Deep.Upon
import Derived.Laws.BitsAllLaws
import Derived.Laws.StructEq
set_option linter.unusedVariables false
set_option linter.unusedSimpArgs false
set_option maxRecDepth 100000
set_option maxHeartbeats 4000000
namespace Go.Proofs.YtpglhicfhppaiaaGreat
open Go.RowKit
def bJ (dir:Int)(M:aV) : List Int :=
  if M.code==8 then aP [M.sub]++aP M.words
  else if dir==0 then []
  else if M.code==7 then [M.value%256]
  else if M.code==11 then aP [M.status,M.events]
  else if M.code==12 then (([(6+(M.data.length:Int))%256]++aP [M.status,M.events,M.messages])++M.data)
  else [(M.data.length:Int)%256]++M.data
theorem p5{m:Bool}{cs:Array Value}{M:aV}{w:World}{dir:Int}(h:aF m w cs.toList M)(hf:bp M)(hd0:(dir==0)=true) : Calls Tryz.prog 90 #[.int .i64 dir,.agg cs] w (i9 (bJ dir M) w):=by
 obtain⟨vw,vb,vd,vr,vo,h0,hw,hbt,hd,hr,ho,hR⟩:=h
 obtain rfl:cs=(bt M vw vb vd vr vo).toArray:=by apply Array.toList_inj.1;simpa using h0
 clear h0
 obtain⟨Aw,kw,rfl,_,_⟩:=hw.shape
 obtain⟨Ab,kb,rfl,_,_⟩:=hbt.shape
 obtain⟨Ad,kd,rfl,_,_⟩:=hd.shape
 obtain⟨Ar,kr,rfl,_,_⟩:=hr.shape
 obtain⟨Ao,ko,rfl,_,_⟩:=ho.shape
 obtain⟨q0,q1,q2,q3,q4,q5,q6,q7,q8,q9,u,v,y,z,A,B,C⟩:=hR
 simp only[B8,db] at q0 q1 q2 q3 q4 q5 q6 q7 q8 q9 u v y z A B C
 have hf1:=hf.words
 have hf2:=hf.bits
 have hf3:=hf.data
 have hf4:=hf.recs
 have hf5:=hf.objects
 refine en 70 Tryz.func90 rfl<|sg<|L0<|cz (mG M.code M.fail M.addr M.count M.value M.and_ M.or_ M.addr2 M.sub M.status M.events M.messages (.slice Aw M.words.length kw) (.slice Ab M.bits.length kb) (.slice Ad M.data.length kd) (.slice Ar M.recs.length kr) M.mei M.kind M.level M.more M.next (.slice Ao M.objects.length ko)) fun q O P i d=>Pl 1<|nt<|sq<|bk<|sg<|Pl 1<|L0<|aN i 0<|Pl 2<|nl<|?_
 refine tn<|cb ((M.code==8)) (fun a=>?_) (fun a=>?_)
 have D:=az a
 refine sq<|Rg 9 (fun w'=>w'.cell? ⟨q,8,none⟩=some (.int .u16 M.sub)∧w'.cell? ⟨q,12,none⟩=some (.slice Aw M.words.length kw)) fun Q b=>?_
 have j:=ub b i
 refine aZ ⟨(aa j rfl),(aa j rfl)⟩ fun f=>Rt 0 f<|Rl 1 f (fun _ hs=>hs.1)<|Rt 4 f<|Rl 5 f (fun _ hs=>hs.2)<|R0 2 rfl<|cF (m:=1) (e:=22) #[.int .u16 M.sub] fun R S E F c=>?_
 have G:=dX E (xs:=[M.sub]) (by as_aux_lemma=>kernel_rfl) (am (by omega) aM) (by(try simp only[List.length_cons,List.length_nil]);omega) F
 have k:=ub c j
 refine aZ ⟨(aa k rfl),(aa k rfl)⟩ fun T=>R0 3 rfl<|Oc<|dE (bg (xs:=[M.sub]) (G).rd (by(try simp only[List.length_cons,List.length_nil]);omega)) fun H U V l W X n=>?_
 have o:=ub n k
 refine aZ ⟨(aa o rfl),(aa o rfl)⟩ fun Y=>?_
 have r:=aE d (aE b (aE c n))
 refine R0 6 rfl<|Oc<|dE (bg (xs:=M.words) (dB.old hw r) (by(try simp only[List.length_cons,List.length_nil]);omega)) fun Z a0 a1 I a2 a3 g=>?_
 have p:=ub g o
 refine aZ ⟨(aa p rfl),(aa p rfl)⟩ fun a4=>?_
 refine R0 7 rfl<|cj aX (xs:=(aP ([M.sub]))) (ys:=(aP M.words)) (.int .u8 0) 1 (aj l g (fun x hx=>ay) (fun _ _ h=>h)) (I).rd (by(try simp only[List.length_append,List.length_cons,List.length_nil,av]);omega) (le n.size g.size) fun J K a5 L s=>?_
 have t:=ax.blk s (aG (aB (al i) (le b.size c.size) l) ay) p
 refine aZ ⟨(aa t rfl),(aa t rfl)⟩ fun N=>Rt 8 N<|re<|tn<|rt<|br<|tr<|rr (.slice J (((aP ([M.sub]))++(aP M.words)).length) K)<|?_
 have hs:bJ dir M=((aP ([M.sub]))++(aP M.words)):=by
   unfold bJ
   (try simp only[hd0,a,bs,if_true,if_false,decide_true,decide_false,reduceIte])
   all_goals rfl
 rw[hs]
 exact⟨_,rfl,(aJ.weaken L (le (le d.size b.size) c.size)),(ut r (ut (ax.mono (S':=(ob H++[])) g aq) s (ag il aq)) (ag (aI l (le (le d.size b.size) c.size)) aq))⟩
 have D:=aC a
 refine sg<|Pl 3<|nt<|ct hd0<|sg<|Pl 1<|nt<|rt<|br<|tr<|?_
 refine rr (.slice none 0 0)<|?_
 have hs:bJ dir M=[]:=by
   unfold bJ
   (try simp only[hd0,a,bs,if_true,if_false,decide_true,decide_false,reduceIte])
   all_goals rfl
 rw[hs]
 exact⟨_,rfl,(aJ.nil ..),d⟩
theorem oO{m:Bool}{cs:Array Value}{M:aV}{w:World}{dir:Int}(h:aF m w cs.toList M)(hf:bp M)(hd0:(dir==0)=false) : Calls Tryz.prog 90 #[.int .i64 dir,.agg cs] w (i9 (bJ dir M) w):=by
 obtain⟨vw,vb,vd,vr,vo,h0,hw,hbt,hd,hr,ho,hR⟩:=h
 obtain rfl:cs=(bt M vw vb vd vr vo).toArray:=by apply Array.toList_inj.1;simpa using h0
 clear h0
 obtain⟨Aw,kw,rfl,_,_⟩:=hw.shape
 obtain⟨Ab,kb,rfl,_,_⟩:=hbt.shape
 obtain⟨Ad,kd,rfl,_,_⟩:=hd.shape
 obtain⟨Ar,kr,rfl,_,_⟩:=hr.shape
 obtain⟨Ao,ko,rfl,_,_⟩:=ho.shape
 obtain⟨q0,q1,q2,q3,q4,q5,q6,q7,q8,q9,ak,an,ao,ap,ar,au,aw⟩:=hR
 simp only[B8,db] at q0 q1 q2 q3 q4 q5 q6 q7 q8 q9 ak an ao ap ar au aw
 have hf1:=hf.words
 have hf2:=hf.bits
 have hf3:=hf.data
 have hf4:=hf.recs
 have hf5:=hf.objects
 refine en 70 Tryz.func90 rfl<|sg<|L0<|cz (mG M.code M.fail M.addr M.count M.value M.and_ M.or_ M.addr2 M.sub M.status M.events M.messages (.slice Aw M.words.length kw) (.slice Ab M.bits.length kb) (.slice Ad M.data.length kd) (.slice Ar M.recs.length kr) M.mei M.kind M.level M.more M.next (.slice Ao M.objects.length ko)) fun l bX bY b a=>Pl 1<|nt<|sq<|bk<|sg<|Pl 1<|L0<|aN b 0<|Pl 2<|nl<|?_
 refine tn<|cb ((M.code==8)) (fun f=>?_) (fun f=>?_)
 have aA:=az f
 refine sq<|Rg 9 (fun w'=>w'.cell? ⟨l,8,none⟩=some (.int .u16 M.sub)∧w'.cell? ⟨l,12,none⟩=some (.slice Aw M.words.length kw)) fun bZ p=>?_
 have J:=ub p b
 refine aZ ⟨(aa J rfl),(aa J rfl)⟩ fun E=>Rt 0 E<|Rl 1 E (fun _ hs=>hs.1)<|Rt 4 E<|Rl 5 E (fun _ hs=>hs.2)<|R0 2 rfl<|cF (m:=1) (e:=22) #[.int .u16 M.sub] fun c0 c1 aD aH q=>?_
 have aK:=dX aD (xs:=[M.sub]) (by as_aux_lemma=>kernel_rfl) (am (by omega) aM) (by(try simp only[List.length_cons,List.length_nil]);omega) aH
 have K:=ub q J
 refine aZ ⟨(aa K rfl),(aa K rfl)⟩ fun c2=>R0 3 rfl<|Oc<|dE (bg (xs:=[M.sub]) (aK).rd (by(try simp only[List.length_cons,List.length_nil]);omega)) fun aL c3 c4 L c5 c6 N=>?_
 have O:=ub N K
 refine aZ ⟨(aa O rfl),(aa O rfl)⟩ fun c7=>?_
 have X:=aE a (aE p (aE q N))
 refine R0 6 rfl<|Oc<|dE (bg (xs:=M.words) (dB.old hw X) (by(try simp only[List.length_cons,List.length_nil]);omega)) fun c8 c9 ca aO cc cd F=>?_
 have P:=ub F O
 refine aZ ⟨(aa P rfl),(aa P rfl)⟩ fun ce=>?_
 refine R0 7 rfl<|cj aX (xs:=(aP ([M.sub]))) (ys:=(aP M.words)) (.int .u8 0) 1 (aj L F (fun x hx=>ay) (fun _ _ h=>h)) (aO).rd (by(try simp only[List.length_append,List.length_cons,List.length_nil,av]);omega) (le N.size F.size) fun aR aS cg aT Y=>?_
 have Z:=ax.blk Y (aG (aB (al b) (le p.size q.size) L) ay) P
 refine aZ ⟨(aa Z rfl),(aa Z rfl)⟩ fun aU=>Rt 8 aU<|re<|tn<|rt<|br<|tr<|rr (.slice aR (((aP ([M.sub]))++(aP M.words)).length) aS)<|?_
 have hs:bJ dir M=((aP ([M.sub]))++(aP M.words)):=by
   unfold bJ
   (try simp only[hd0,f,bs,if_true,if_false,decide_true,decide_false,reduceIte])
   all_goals rfl
 rw[hs]
 exact⟨_,rfl,(aJ.weaken aT (le (le a.size p.size) q.size)),(ut X (ut (ax.mono (S':=(ob aL++[])) F aq) Y (ag il aq)) (ag (aI L (le (le a.size p.size) q.size)) aq))⟩
 have aA:=aC f
 refine sg<|Pl 3<|nt<|cf hd0<|sg<|Pl 1<|L0<|aN b 0<|Pl 2<|nt<|cb ((M.code==7)) (fun g=>?_) (fun g=>?_)
 have aW:=az g
 refine sg<|Pl 1<|L0<|aN b 4<|Pl 1<|L0<|cF (m:=1) (e:=5) #[.int .u8 (M.value%256)] fun aY ch b0 b1 b2=>?_
 have b3:=cP b0 (xs:=[(M.value%256)]) (by as_aux_lemma=>kernel_rfl) (am (by omega) aM) (by(try simp only[List.length_cons,List.length_nil]);omega) b1
 refine Pl 1<|nt<|rt<|br<|tr<|rr (.slice (some ⟨aY,0,none⟩) 1 1)<|?_
 have hs:bJ dir M=[(M.value%256)]:=by
   unfold bJ
   (try simp only[hd0,f,g,bs,if_true,if_false,decide_true,decide_false,reduceIte])
   all_goals rfl
 rw[hs]
 exact⟨_,rfl,(aJ.weaken b3 a.size),(aE a b2)⟩
 have aW:=aC g
 refine sg<|Pl 1<|L0<|aN b 0<|Pl 2<|nt<|cb ((M.code==11)) (fun j=>?_) (fun j=>?_)
 have b4:=az j
 refine sg<|Pl 1<|L0<|aN b 9<|Pl 1<|L0<|aN b 10<|L0<|cF (m:=2) (e:=22) #[.int .u16 M.status,.int .u16 M.events] fun ci ck b5 b6 a0=>?_
 have b7:=dX b5 (xs:=[M.status,M.events]) (by as_aux_lemma=>kernel_rfl) (am (by omega) (am (by omega) aM)) (by(try simp only[List.length_cons,List.length_nil]);omega) b6
 refine L0<|Oc<|dE (bg (xs:=[M.status,M.events]) (b7).rd (by(try simp only[List.length_cons,List.length_nil]);omega)) fun b8 b9 cl ba cm cn bb=>Pl 1<|nt<|rt<|br<|tr<|rr (.slice b8 ((aP ([M.status,M.events])).length) b9)<|?_
 have hs:bJ dir M=(aP ([M.status,M.events])):=by
   unfold bJ
   (try simp only[hd0,f,g,j,bs,if_true,if_false,decide_true,decide_false,reduceIte])
   all_goals rfl
 rw[hs]
 exact⟨_,rfl,(aJ.weaken ba (le a.size a0.size)),(aE a (aE a0 bb))⟩
 have b4:=aC j
 refine sg<|Pl 1<|L0<|aN b 0<|Pl 2<|nt<|cb ((M.code==12)) (fun k=>?_) (fun k=>?_)
 have bc:=az k
 refine sq<|Rg 16 (fun w'=>w'.cell? ⟨l,14,none⟩=some (.slice Ad M.data.length kd)∧w'.cell? ⟨l,9,none⟩=some (.int .u16 M.status)∧w'.cell? ⟨l,10,none⟩=some (.int .u16 M.events)∧w'.cell? ⟨l,11,none⟩=some (.int .u16 M.messages)) fun co c=>?_
 have n:=ub c b
 refine aZ ⟨(aa n rfl),(aa n rfl),(aa n rfl),(aa n rfl)⟩ fun d=>Rt 0 d<|Rl 1 d (fun _ hs=>hs.1)<|Rt 2 d<|Rr 3 d (.int .i64 (6+((M.data.length:Nat) : Int))) (fun _ _=>cC (.int .i64 (IntKind.i64.wrap (6+((M.data.length:Nat) : Int)))) (by kernel_rfl) (congrArg (Value.int .i64) (IntWalk.i64_in _ (by omega))))<|Rt 4 d<|Rt 6 d<|Rl 7 d (fun _ hs=>hs.2.1)<|Rt 8 d<|Rl 9 d (fun _ hs=>hs.2.2.1)<|Rt 10 d<|Rl 11 d (fun _ hs=>hs.2.2.2)<|?_
 refine R2 5 12 rfl rfl ?_ ?_
 refine  cF (m:=1) (e:=5) #[.int .u8 ((6+((M.data.length:Nat) : Int))%256)] fun bd cp be bf Q=>?_
 have R:=cP be (xs:=[((6+((M.data.length:Nat) : Int))%256)]) (by as_aux_lemma=>kernel_rfl) (am (by omega) aM) (by(try simp only[List.length_cons,List.length_nil]);omega) bf
 have r:=ub Q n
 refine aZ ⟨(aa r rfl),(aa r rfl),(aa r rfl),(aa r rfl)⟩ fun cq=>R0 12 rfl<|cF (m:=3) (e:=22) #[.int .u16 M.status,.int .u16 M.events,.int .u16 M.messages] fun cr ct bh bi S=>?_
 have bj:=dX bh (xs:=[M.status,M.events,M.messages]) (by as_aux_lemma=>kernel_rfl) (am (by omega) (am (by omega) (am (by omega) aM))) (by(try simp only[List.length_cons,List.length_nil]);omega) bi
 have s:=ub S r
 refine aZ ⟨(aa s rfl),(aa s rfl),(aa s rfl),(aa s rfl)⟩ fun cu=>R0 13 rfl<|Oc<|dE (bg (xs:=[M.status,M.events,M.messages]) (bj).rd (by(try simp only[List.length_cons,List.length_nil]);omega)) fun cv cw cx bl cy cA T=>?_
 have t:=ub T s
 refine aZ ⟨(aa t rfl),(aa t rfl),(aa t rfl),(aa t rfl)⟩ fun cB=>?_
 have a1:=aE S T
 refine R0 14 rfl<|cj aX (xs:=([((6+((M.data.length:Nat) : Int))%256)])) (ys:=(aP ([M.status,M.events,M.messages]))) (.int .u8 0) 1 (aj R a1 (fun x hx=>ay) (fun _ _ h=>h)) (bl).rd (by(try simp only[List.length_append,List.length_cons,List.length_nil,av]);omega) (le (le Q.size S.size) T.size) fun cD cE cG a2 a3=>?_
 have u:=ax.blk a3 (aG (aB (al b) c.size R) ay) t
 refine aZ ⟨(aa u rfl),(aa u rfl),(aa u rfl),(aa u rfl)⟩ fun bm=>Rt 15 bm<|re<|tn<|sg<|Pl 2<|L0<|aN u 14<|?_
 have a4:=ut Q (ut (ax.mono (S':=(ob (some ⟨bd,0,none⟩)++[])) a1 aq) a3 (ag il aq)) (ag (aI R lr) aq)
 have a5:=aE a (aE c a4)
 refine L0<|cj aX (xs:=([((6+((M.data.length:Nat) : Int))%256)]++(aP ([M.status,M.events,M.messages])))) (ys:=M.data) (.int .u8 0) 1 a2 (aQ.old hd a5) (by(try simp only[List.length_append,List.length_cons,List.length_nil,av]);omega) a4.size fun bo bq cH bu bv=>Pl 1<|nt<|rt<|br<|tr<|rr (.slice bo ((([((6+((M.data.length:Nat) : Int))%256)]++(aP ([M.status,M.events,M.messages])))++M.data).length) bq)<|?_
 have hs:bJ dir M=(([((6+((M.data.length:Nat) : Int))%256)]++(aP ([M.status,M.events,M.messages])))++M.data):=by
   unfold bJ
   (try simp only[hd0,f,g,j,k,bs,if_true,if_false,decide_true,decide_false,reduceIte])
   all_goals rfl
 rw[hs]
 exact⟨_,rfl,(aJ.weaken bu (le a.size c.size)),(ut a5 bv (ag (aI a2 (le a.size c.size)) aq))⟩
 refine  cF (m:=3) (e:=22) #[.int .u16 M.status,.int .u16 M.events,.int .u16 M.messages] fun cI cJ bw bx i=>?_
 have a6:=dX bw (xs:=[M.status,M.events,M.messages]) (by as_aux_lemma=>kernel_rfl) (am (by omega) (am (by omega) (am (by omega) aM))) (by(try simp only[List.length_cons,List.length_nil]);omega) bx
 have o:=ub i n
 refine aZ ⟨(aa o rfl),(aa o rfl),(aa o rfl),(aa o rfl)⟩ fun cK=>?_
 refine R2 5 13 rfl rfl ?_ ?_
 refine  cF (m:=1) (e:=5) #[.int .u8 ((6+((M.data.length:Nat) : Int))%256)] fun bz cL bA bB G=>?_
 have U:=cP bA (xs:=[((6+((M.data.length:Nat) : Int))%256)]) (by as_aux_lemma=>kernel_rfl) (am (by omega) aM) (by(try simp only[List.length_cons,List.length_nil]);omega) bB
 have v:=ub G o
 refine aZ ⟨(aa v rfl),(aa v rfl),(aa v rfl),(aa v rfl)⟩ fun cM=>?_
 refine R0 13 rfl<|Oc<|dE (bg (xs:=[M.status,M.events,M.messages]) ((aj a6 G (fun x hx=>ay) (fun _ _ h=>h))).rd (by(try simp only[List.length_cons,List.length_nil]);omega)) fun cN cO cQ bC cR cS H=>?_
 have y:=ub H v
 refine aZ ⟨(aa y rfl),(aa y rfl),(aa y rfl),(aa y rfl)⟩ fun cT=>?_
 refine R0 14 rfl<|cj aX (xs:=([((6+((M.data.length:Nat) : Int))%256)])) (ys:=(aP ([M.status,M.events,M.messages]))) (.int .u8 0) 1 (aj U H (fun x hx=>ay) (fun _ _ h=>h)) (bC).rd (by(try simp only[List.length_append,List.length_cons,List.length_nil,av]);omega) (le G.size H.size) fun cU cV cW a7 a8=>?_
 have z:=ax.blk a8 (aG (aB (al b) (le c.size i.size) U) ay) y
 refine aZ ⟨(aa z rfl),(aa z rfl),(aa z rfl),(aa z rfl)⟩ fun bD=>Rt 15 bD<|re<|tn<|sg<|Pl 2<|L0<|aN z 14<|?_
 have a9:=ut G (ut (ax.mono (S':=(ob (some ⟨bz,0,none⟩)++[])) H aq) a8 (ag il aq)) (ag (aI U lr) aq)
 have ab:=aE a (aE c (aE i a9))
 refine L0<|cj aX (xs:=([((6+((M.data.length:Nat) : Int))%256)]++(aP ([M.status,M.events,M.messages])))) (ys:=M.data) (.int .u8 0) 1 a7 (aQ.old hd ab) (by(try simp only[List.length_append,List.length_cons,List.length_nil,av]);omega) a9.size fun bE bF cX bG bH=>Pl 1<|nt<|rt<|br<|tr<|rr (.slice bE ((([((6+((M.data.length:Nat) : Int))%256)]++(aP ([M.status,M.events,M.messages])))++M.data).length) bF)<|?_
 have hs:bJ dir M=(([((6+((M.data.length:Nat) : Int))%256)]++(aP ([M.status,M.events,M.messages])))++M.data):=by
   unfold bJ
   (try simp only[hd0,f,g,j,k,bs,if_true,if_false,decide_true,decide_false,reduceIte])
   all_goals rfl
 rw[hs]
 exact⟨_,rfl,(aJ.weaken bG (le (le a.size c.size) i.size)),(ut ab bH (ag (aI a7 (le (le a.size c.size) i.size)) aq))⟩
 refine  Oc<|dE (bg (xs:=[M.status,M.events,M.messages]) (a6).rd (by(try simp only[List.length_cons,List.length_nil]);omega)) fun cY cZ d0 bI d1 d2 A=>?_
 have B:=ub A o
 refine aZ ⟨(aa B rfl),(aa B rfl),(aa B rfl),(aa B rfl)⟩ fun d3=>R0 5 rfl<|cF (m:=1) (e:=5) #[.int .u8 ((6+((M.data.length:Nat) : Int))%256)] fun d4 d5 bK bL I=>?_
 have V:=cP bK (xs:=[((6+((M.data.length:Nat) : Int))%256)]) (by as_aux_lemma=>kernel_rfl) (am (by omega) aM) (by(try simp only[List.length_cons,List.length_nil]);omega) bL
 have C:=ub I B
 refine aZ ⟨(aa C rfl),(aa C rfl),(aa C rfl),(aa C rfl)⟩ fun d6=>?_
 refine R0 14 rfl<|cj aX (xs:=([((6+((M.data.length:Nat) : Int))%256)])) (ys:=(aP ([M.status,M.events,M.messages]))) (.int .u8 0) 1 V ((aj bI I (fun x hx=>ay) (fun _ _ h=>h))).rd (by(try simp only[List.length_append,List.length_cons,List.length_nil,av]);omega) I.size fun d7 d8 d9 ac ad=>?_
 have D:=ax.blk ad (aG (aB (al b) (le (le c.size i.size) A.size) V) ay) C
 refine aZ ⟨(aa D rfl),(aa D rfl),(aa D rfl),(aa D rfl)⟩ fun bM=>Rt 15 bM<|re<|tn<|sg<|Pl 2<|L0<|aN D 14<|?_
 have ae:=ut I ad (ag (aI V lr) aq)
 have af:=aE a (aE c (aE i (aE A ae)))
 refine L0<|cj aX (xs:=([((6+((M.data.length:Nat) : Int))%256)]++(aP ([M.status,M.events,M.messages])))) (ys:=M.data) (.int .u8 0) 1 ac (aQ.old hd af) (by(try simp only[List.length_append,List.length_cons,List.length_nil,av]);omega) ae.size fun bN bO da bP bQ=>Pl 1<|nt<|rt<|br<|tr<|rr (.slice bN ((([((6+((M.data.length:Nat) : Int))%256)]++(aP ([M.status,M.events,M.messages])))++M.data).length) bO)<|?_
 have hs:bJ dir M=(([((6+((M.data.length:Nat) : Int))%256)]++(aP ([M.status,M.events,M.messages])))++M.data):=by
   unfold bJ
   (try simp only[hd0,f,g,j,k,bs,if_true,if_false,decide_true,decide_false,reduceIte])
   all_goals rfl
 rw[hs]
 exact⟨_,rfl,(aJ.weaken bP (le (le (le a.size c.size) i.size) A.size)),(ut af bQ (ag (aI ac (le (le (le a.size c.size) i.size) A.size)) aq))⟩
 have bc:=aC k
 refine sk<|bn<|tn<|sg<|Pl 1<|L0<|aN b 14<|Pl 2<|L0<|cF (m:=1) (e:=5) #[.int .u8 (((M.data.length:Nat) : Int)%256)] fun dc dd bR bS W=>?_
 have ah:=cP bR (xs:=[(((M.data.length:Nat) : Int)%256)]) (by as_aux_lemma=>kernel_rfl) (am (by omega) aM) (by(try simp only[List.length_cons,List.length_nil]);omega) bS
 refine Pl 1<|?_
 refine L0<|aN (ub W b) 14<|?_
 have ai:=aE a W
 refine L0<|cj aX (xs:=([(((M.data.length:Nat) : Int)%256)])) (ys:=M.data) (.int .u8 0) 1 ah (aQ.old hd ai) (by(try simp only[List.length_append,List.length_cons,List.length_nil,av]);omega) W.size fun bT bU de bV bW=>Pl 1<|nt<|rt<|rr (.slice bT (([(((M.data.length:Nat) : Int)%256)]++M.data).length) bU)<|?_
 have hs:bJ dir M=([(((M.data.length:Nat) : Int)%256)]++M.data):=by
   unfold bJ
   (try simp only[hd0,f,g,j,k,bs,if_true,if_false,decide_true,decide_false,reduceIte])
   all_goals rfl
 rw[hs]
 exact⟨_,rfl,(aJ.weaken bV a.size),(ut ai bW (ag (aI ah a.size) aq))⟩
theorem uT{m:Bool}{cs:Array Value}{M:aV}{w:World}{dir:Int}(h:aF m w cs.toList M)(hf:bp M) : Calls Tryz.prog 90 #[.int .i64 dir,.agg cs] w (i9 (bJ dir M) w):=by
  rcases di (dir==0) with h0|h0
  · exact p5 h hf h0
  · exact oO h hf h0
open Go.RowKit
theorem de{α:Type}(d:α)(xs:List α)(k:Nat)(h:k<xs.length) : xs.getD k d∈xs:=by
  simp[List.getD_eq_getElem?_getD,List.getElem?_eq_getElem h]
def gW:List Obj→List Int
  | []=>[]
  | o :: r=>([o.id,(o.value.length:Int)%256]++o.value)++gW r
theorem sl(xs:List Obj)(k:Nat)(h:k<xs.length) : gW (xs.drop k)=([(xs.getD k ⟨0,[]⟩).id,((xs.getD k ⟨0,[]⟩).value.length:Int)%256]++(xs.getD k ⟨0,[]⟩).value)++gW (xs.drop (k+1)):=by
  rw[List.drop_eq_getElem_cons h]
  simp[gW,List.getD_eq_getElem?_getD,List.getElem?_eq_getElem h]
def cW (dir:Int)(M:aV) : List Int :=
  if M.mei==13 then [M.mei]++M.data
  else if dir==0 then [M.mei,M.kind,M.next]
  else [M.mei,M.kind,M.level,M.more,M.next,(M.objects.length:Int)%256]++gW M.objects
theorem sN{m:Bool}{cs:Array Value}{M:aV}{w:World}{dir:Int}(h:aF m w cs.toList M)(hf:bp M)(hd0:(dir==0)=true) : Calls Tryz.prog 100 #[.int .i64 dir,.agg cs] w (i9 (cW dir M) w):=by
 obtain⟨vw,vb,vd,vr,vo,h0,hw,hbt,hd,hr,ho,hR⟩:=h
 obtain rfl:cs=(bt M vw vb vd vr vo).toArray:=by apply Array.toList_inj.1;simpa using h0
 clear h0
 obtain⟨Aw,kw,rfl,_,_⟩:=hw.shape
 obtain⟨Ab,kb,rfl,_,_⟩:=hbt.shape
 obtain⟨Ad,kd,rfl,_,_⟩:=hd.shape
 obtain⟨Ar,kr,rfl,_,_⟩:=hr.shape
 obtain⟨Ao,ko,rfl,_,_⟩:=ho.shape
 obtain⟨q0,q1,q2,q3,q4,q5,q6,q7,q8,q9,i,j,k,l,n,o,p⟩:=hR
 simp only[B8,db] at q0 q1 q2 q3 q4 q5 q6 q7 q8 q9 i j k l n o p
 have hf1:=hf.words
 have hf2:=hf.bits
 have hf3:=hf.data
 have hf4:=hf.recs
 have hf5:=hf.objects
 refine en 64 Tryz.func100 rfl<|sg<|L0<|cz (mG M.code M.fail M.addr M.count M.value M.and_ M.or_ M.addr2 M.sub M.status M.events M.messages (.slice Aw M.words.length kw) (.slice Ab M.bits.length kb) (.slice Ad M.data.length kd) (.slice Ar M.recs.length kr) M.mei M.kind M.level M.more M.next (.slice Ao M.objects.length ko)) fun D E F a b=>Pl 1<|nt<|sq<|bk<|sg<|Pl 1<|L0<|aN a 16<|Pl 2<|nl<|?_
 refine tn<|cb ((M.mei==13)) (fun c=>?_) (fun c=>?_)
 have q:=az c
 refine sg<|Pl 1<|L0<|aN a 16<|L0<|cF (m:=1) (e:=5) #[.int .u8 M.mei] fun G H r s d=>?_
 have f:=cP r (xs:=[M.mei]) (by as_aux_lemma=>kernel_rfl) (am (by omega) aM) (by(try simp only[List.length_cons,List.length_nil]);omega) s
 refine Pl 1<|?_
 refine L0<|aN (ub d a) 14<|?_
 have g:=aE b d
 refine L0<|cj aX (xs:=([M.mei])) (ys:=M.data) (.int .u8 0) 1 f (aQ.old hd g) (by(try simp only[List.length_append,List.length_cons,List.length_nil,av]);omega) d.size fun t u I v x=>Pl 1<|nt<|rt<|br<|tr<|rr (.slice t (([M.mei]++M.data).length) u)<|?_
 have hs:cW dir M=([M.mei]++M.data):=by
   unfold cW
   (try simp only[hd0,c,bs,if_true,if_false,decide_true,decide_false,reduceIte])
   all_goals rfl
 rw[hs]
 exact⟨_,rfl,(aJ.weaken v b.size),(ut g x (ag (aI f b.size) aq))⟩
 have q:=aC c
 refine sg<|Pl 3<|nt<|ct hd0<|sg<|Pl 1<|L0<|aN a 16<|Pl 1<|L0<|aN a 17<|Pl 1<|L0<|aN a 20<|?_
 refine L0<|cF (m:=3) (e:=5) #[.int .u8 M.mei,.int .u8 M.kind,.int .u8 M.next] fun y J z A B=>?_
 have C:=cP z (xs:=[M.mei,M.kind,M.next]) (by as_aux_lemma=>kernel_rfl) (am (by omega) (am (by omega) (am (by omega) aM))) (by(try simp only[List.length_cons,List.length_nil]);omega) A
 refine Pl 1<|nt<|rt<|br<|tr<|rr (.slice (some ⟨y,0,none⟩) 3 3)<|?_
 have hs:cW dir M=[M.mei,M.kind,M.next]:=by
   unfold cW
   (try simp only[hd0,c,bs,if_true,if_false,decide_true,decide_false,reduceIte])
   all_goals rfl
 rw[hs]
 exact⟨_,rfl,(aJ.weaken C b.size),(aE b B)⟩
theorem s4{m:Bool}{cs:Array Value}{M:aV}{w:World}{dir:Int}(h:aF m w cs.toList M)(hf:bp M)(hd0:(dir==0)=false) : Calls Tryz.prog 100 #[.int .i64 dir,.agg cs] w (i9 (cW dir M) w):=by
 obtain⟨vw,vb,vd,vr,vo,h0,hw,hbt,hd,hr,ho,hR⟩:=h
 obtain rfl:cs=(bt M vw vb vd vr vo).toArray:=by apply Array.toList_inj.1;simpa using h0
 clear h0
 obtain⟨Aw,kw,rfl,_,_⟩:=hw.shape
 obtain⟨Ab,kb,rfl,_,_⟩:=hbt.shape
 obtain⟨Ad,kd,rfl,_,_⟩:=hd.shape
 obtain⟨Ar,kr,rfl,_,_⟩:=hr.shape
 obtain⟨Ao,ko,rfl,_,_⟩:=ho.shape
 obtain⟨q0,q1,q2,q3,q4,q5,q6,q7,q8,q9,O,P,Q,R,S,T,U⟩:=hR
 simp only[B8,db] at q0 q1 q2 q3 q4 q5 q6 q7 q8 q9 O P Q R S T U
 have hf1:=hf.words
 have hf2:=hf.bits
 have hf3:=hf.data
 have hf4:=hf.recs
 have hf5:=hf.objects
 refine en 64 Tryz.func100 rfl<|sg<|L0<|cz (mG M.code M.fail M.addr M.count M.value M.and_ M.or_ M.addr2 M.sub M.status M.events M.messages (.slice Aw M.words.length kw) (.slice Ab M.bits.length kb) (.slice Ad M.data.length kd) (.slice Ar M.recs.length kr) M.mei M.kind M.level M.more M.next (.slice Ao M.objects.length ko)) fun aH r aK a c=>Pl 1<|nt<|sq<|bk<|sg<|Pl 1<|L0<|aN a 16<|Pl 2<|nl<|?_
 refine tn<|cb ((M.mei==13)) (fun d=>?_) (fun d=>?_)
 have V:=az d
 refine sg<|Pl 1<|L0<|aN a 16<|L0<|cF (m:=1) (e:=5) #[.int .u8 M.mei] fun aL aO W X s=>?_
 have E:=cP W (xs:=[M.mei]) (by as_aux_lemma=>kernel_rfl) (am (by omega) aM) (by(try simp only[List.length_cons,List.length_nil]);omega) X
 refine Pl 1<|?_
 refine L0<|aN (ub s a) 14<|?_
 have F:=aE c s
 refine L0<|cj aX (xs:=([M.mei])) (ys:=M.data) (.int .u8 0) 1 E (aQ.old hd F) (by(try simp only[List.length_append,List.length_cons,List.length_nil,av]);omega) s.size fun Y Z aP a0 a1=>Pl 1<|nt<|rt<|br<|tr<|rr (.slice Y (([M.mei]++M.data).length) Z)<|?_
 have hs:cW dir M=([M.mei]++M.data):=by
   unfold cW
   (try simp only[hd0,d,bs,if_true,if_false,decide_true,decide_false,reduceIte])
   all_goals rfl
 rw[hs]
 exact⟨_,rfl,(aJ.weaken a0 c.size),(ut F a1 (ag (aI E c.size) aq))⟩
 have V:=aC d
 refine sg<|Pl 3<|nt<|cf hd0<|sk<|bn<|tn<|sg<|Pl 1<|L0<|aN a 16<|Pl 1<|L0<|aN a 17<|?_
 refine Pl 1<|L0<|aN a 18<|Pl 1<|L0<|aN a 19<|Pl 1<|L0<|aN a 20<|Pl 1<|L0<|aN a 21<|Pl 2<|L0<|cF (m:=6) (e:=5) #[.int .u8 M.mei,.int .u8 M.kind,.int .u8 M.level,.int .u8 M.more,.int .u8 M.next,.int .u8 (((M.objects.length:Nat) : Int)%256)] fun a2 a3 a4 a5 j=>?_
 have a6:=cP a4 (xs:=[M.mei,M.kind,M.level,M.more,M.next,(((M.objects.length:Nat) : Int)%256)]) (by as_aux_lemma=>kernel_rfl) (am (by omega) (am (by omega) (am (by omega) (am (by omega) (am (by omega) (am (by omega) aM)))))) (by(try simp only[List.length_cons,List.length_nil]);omega) a5
 refine Pl 1<|nt<|sq<|sg<|Pl 1<|?_
 refine L0<|aN (ub j a) 21<|Pl 2<|nt<|bk<|?_
 refine ir (fun x=>[(4,.slice none 0 0),(5,.slice x.2.2.1 x.2.1.length x.2.2.2),(44,.slice Ao M.objects.length ko),(45,.int .i64 ((M.objects.length:Nat) : Int)),(46,.int .i64 ((x.1:Nat) : Int))]) (fun(x:Nat × List Int × Option Addr × Nat) w'=>ax [] r w'∧a3.heap.size≤w'.heap.size∧cy r.heap.size w' (.slice x.2.2.1 x.2.1.length x.2.2.2) x.2.1∧(x.1≤M.objects.length)∧(x.2.1++gW (M.objects.drop x.1)=([M.mei,M.kind,M.level,M.more,M.next,(((M.objects.length:Nat) : Int)%256)])++gW M.objects)∧(x.2.1.length≤16+x.1*1026)∧(6≤x.2.1.length)) (fun x=>M.objects.length-x.1) (0,[M.mei,M.kind,M.level,M.more,M.next,(((M.objects.length:Nat) : Int)%256)],some ⟨a2,0,none⟩,6) ⟨j,lr,a6,(by(try dsimp only);omega),rfl,(by(try dsimp only);(try simp only[List.length_cons,List.length_nil]);omega),(by(try dsimp only);(try simp only[List.length_cons,List.length_nil]);omega)⟩ ?_
 rintro⟨k,L,A,cp⟩ a7 ⟨G,t,a8,a9,ab,ac,ad⟩
 refine it [(4,.slice none 0 0),(5,.slice A L.length cp),(44,.slice Ao M.objects.length ko),(45,.int .i64 ((M.objects.length:Nat) : Int)),(46,.int .i64 ((k:Nat) : Int))] ?_
 have f:cy r.heap.size a7 (.slice A L.length cp) L:=a8
 have aR:k≤M.objects.length:=a9
 have aS:L++gW (M.objects.drop k)=([M.mei,M.kind,M.level,M.more,M.next,(((M.objects.length:Nat) : Int)%256)])++gW M.objects:=ab
 have aT:L.length≤16+k*1026:=ac
 have aU:6≤L.length:=ad
 have hL:L++gW (M.objects.drop k)=([M.mei,M.kind,M.level,M.more,M.next,(((M.objects.length:Nat) : Int)%256)])++gW M.objects:=by assumption
 have hv0:=fun(h:k<M.objects.length)=>hf.objv _ (de ⟨0,[]⟩ M.objects k h)
 refine sg<|Pl 1<|nt<|sq<|?_
 have u:=aE c G
 refine cb ((decide (((k:Nat) : Int)<((M.objects.length:Nat) : Int)))) (fun l=>?_) (fun l=>?_)
 have ae:=of_decide_eq_true l
 refine bG<|sq<|bk<|sg<|sL (mH.elt ho k (by omega)) fun aW aY b0 b1 b2 v y af ah ai b3 ak=>L0<|ia 2 M.objects.length k af (by omega)<|?_
 refine L0<|uh [.int .u8 ((M.objects.getD k ⟨0,[]⟩).id),.slice v ((M.objects.getD k ⟨0,[]⟩).value.length) y] (ub u ah) ak<|L0<|bI #[.int .u8 0,.slice none 0 0] fun H b4 I al n=>L0<|bf al #[.int .u8 ((M.objects.getD k ⟨0,[]⟩).id),.slice v ((M.objects.getD k ⟨0,[]⟩).value.length) y] fun b5 an o=>nt<|Rg 13 (fun w'=>w'.cell? ⟨H,0,none⟩=some (.int .u8 ((M.objects.getD k ⟨0,[]⟩).id))∧w'.cell? ⟨H,1,none⟩=some (.slice v ((M.objects.getD k ⟨0,[]⟩).value.length) y)) fun b6 g=>?_
 have z:=ub g an
 refine aZ ⟨(aa z rfl),(aa z rfl)⟩ fun b=>Rt 0 b<|Rt 1 b<|Rl 2 b (fun _ hs=>hs.1)<|Rt 3 b<|Rl 4 b (fun _ hs=>hs.2)<|Rt 5 b<|Rt 6 b<|Rt 9 b<|Rl 10 b (fun _ hs=>hs.2)<|R0 7 rfl<|cF (m:=2) (e:=5) #[.int .u8 ((M.objects.getD k ⟨0,[]⟩).id),.int .u8 ((((M.objects.getD k ⟨0,[]⟩).value.length:Nat) : Int)%256)] fun b7 b8 ao ap i=>?_
 have ar:=cP ao (xs:=[(M.objects.getD k ⟨0,[]⟩).id,((((M.objects.getD k ⟨0,[]⟩).value.length:Nat) : Int)%256)]) (by as_aux_lemma=>kernel_rfl) (am (by omega) (am (by omega) aM)) (by(try simp only[List.length_cons,List.length_nil]);omega) ap
 have B:=ub i z
 refine aZ ⟨(aa B rfl),(aa B rfl)⟩ fun b9=>?_
 have J:=ud n (aE o (aE g i)) I
 refine R0 8 rfl<|cj aX (xs:=L) (ys:=([(M.objects.getD k ⟨0,[]⟩).id,((((M.objects.getD k ⟨0,[]⟩).value.length:Nat) : Int)%256)])) (.int .u8 0) 1 (aj f J (fun x hx=>ay) (fun _ _ h=>h)) (ar).rd (by(try simp only[List.length_append,List.length_cons,List.length_nil,av]);omega) (le (le (le (le (le j.size t) n.size) o.size) g.size) i.size) fun au ba bb C p=>?_
 have q:=ax.blk p (aG (ci f lr I) ay) B
 refine aZ ⟨(aa q rfl),(aa q rfl)⟩ fun bc=>?_
 have K:=ut (ax.mono (S':=(ob A++[])) J aq) p (ag il aq)
 refine R0 11 rfl<|cj aX (xs:=(L++[(M.objects.getD k ⟨0,[]⟩).id,((((M.objects.getD k ⟨0,[]⟩).value.length:Nat) : Int)%256)])) (ys:=((M.objects.getD k ⟨0,[]⟩).value)) (.int .u8 0) 1 C (aQ.old ai (ut u K (ag (aI f c.size) aq))) (by(try simp only[List.length_append,List.length_cons,List.length_nil,av]);omega) (le (le (le (le (le (le j.size t) n.size) o.size) g.size) i.size) p.size) fun aw aA bd aB D=>?_
 have N:=ax.blk D (aG (bu q C (by decide)) ay) q
 refine aZ ⟨(aa N rfl),(aa N rfl)⟩ fun aD=>Rt 12 aD<|re<|bn<|tn<|go<|L0<|Oi (((k:Nat) : Int)+1)<|Pl 1<|nl<|?_
 exact er ((k+1),((L++[(M.objects.getD k ⟨0,[]⟩).id,((((M.objects.getD k ⟨0,[]⟩).value.length:Nat) : Int)%256)])++(M.objects.getD k ⟨0,[]⟩).value),aw,aA) ⟨(ut G (ut (ax.mono (S':=(ob A++(ob au++[]))) K (ag il aq)) D (ag il aq)) (ag (aI f lr) (ag (aI C lr) aq))),(le (le (le (le (le (le t n.size) o.size) g.size) i.size) p.size) D.size),aB,(by(try dsimp only);omega),(by(try dsimp only);rw[← hL,sl  M.objects k (by omega)];simp only[List.append_assoc]),(by(try dsimp only);have hv:=hf.objv _ (de ⟨0,[]⟩ M.objects k (by omega));(try simp only[List.length_append,List.length_cons,List.length_nil,av]);omega),(by(try dsimp only);(try simp only[List.length_append,List.length_cons,List.length_nil]);omega)⟩ (by omega)
 have ae:=of_decide_eq_false l
 refine xt<|tx<|tx<|bx<|tn<|sg<|Pl 2<|nt<|rt<|rr (.slice A L.length cp)<|?_
 have hk:k=M.objects.length:=by omega
 rw[hk,List.drop_length] at hL
 have hL2:L=([M.mei,M.kind,M.level,M.more,M.next,(((M.objects.length:Nat) : Int)%256)])++gW M.objects:=by rw[← hL];simp[gW]
 have hs:cW dir M=L:=by
   rw[hL2]
   unfold cW
   (try simp only[hd0,d,l,bs,if_true,if_false,decide_true,decide_false,reduceIte])
   all_goals rfl
 rw[hs]
 exact⟨_,rfl,(aJ.weaken f c.size),u⟩
theorem xj{m:Bool}{cs:Array Value}{M:aV}{w:World}{dir:Int}(h:aF m w cs.toList M)(hf:bp M) : Calls Tryz.prog 100 #[.int .i64 dir,.agg cs] w (i9 (cW dir M) w):=by
  rcases di (dir==0) with h0|h0
  · exact sN h hf h0
  · exact s4 h hf h0
open Go.RowKit
def kx (dir code:Int)(r:eq) : List Int:=(if code==20&&dir==1 then [(1+2*(r.words.length:Int))%256,6] else [6]++aP [r.file,r.record,r.count])++aP r.words
def co (dir code:Int) : List eq→List Int
  | []=>[]
  | r :: rs=>kx dir code r++co dir code rs
theorem cZ(dir code:Int)(xs:List eq)(k:Nat)(h:k<xs.length) : co dir code (xs.drop k)=kx dir code (xs.getD k ⟨0,0,0,[]⟩)++co dir code (xs.drop (k+1)):=by
  rw[List.drop_eq_getElem_cons h]
  simp[co,List.getD_eq_getElem?_getD,List.getElem?_eq_getElem h]
def cv (dir:Int)(M:aV) : List Int:=([0]++co dir M.code M.recs).set 0 (((([0]++co dir M.code M.recs).length:Int)-1)%256)
theorem nM{m:Bool}{cs:Array Value}{M:aV}{w:World}{dir:Int}(h:aF m w cs.toList M)(hf:bp M)(hd0:(dir==0)=true) : Calls Tryz.prog 97 #[.int .i64 dir,.agg cs] w (i9 (cv dir M) w):=by
 obtain⟨vw,vb,vd,vr,vo,h0,hw,hbt,hd,hr,ho,hR⟩:=h
 obtain rfl:cs=(bt M vw vb vd vr vo).toArray:=by apply Array.toList_inj.1;simpa using h0
 clear h0
 obtain⟨Aw,kw,rfl,_,_⟩:=hw.shape
 obtain⟨Ab,kb,rfl,_,_⟩:=hbt.shape
 obtain⟨Ad,kd,rfl,_,_⟩:=hd.shape
 obtain⟨Ar,kr,rfl,_,_⟩:=hr.shape
 obtain⟨Ao,ko,rfl,_,_⟩:=ho.shape
 obtain⟨q0,q1,q2,q3,q4,q5,q6,q7,q8,q9,bj,bm,bo,bq,br,bv,bw⟩:=hR
 simp only[B8,db] at q0 q1 q2 q3 q4 q5 q6 q7 q8 q9 bj bm bo bq br bv bw
 have hf1:=hf.words
 have hf2:=hf.bits
 have hf3:=hf.data
 have hf4:=hf.recs
 have hf5:=hf.objects
 refine en 58 Tryz.func97 rfl<|sg<|L0<|cz (mG M.code M.fail M.addr M.count M.value M.and_ M.or_ M.addr2 M.sub M.status M.events M.messages (.slice Aw M.words.length kw) (.slice Ab M.bits.length kb) (.slice Ad M.data.length kd) (.slice Ar M.recs.length kr) M.mei M.kind M.level M.more M.next (.slice Ao M.objects.length ko)) fun ap ad cI ar l=>Pl 1<|ng<|L0<|cF (m:=1) (e:=5) #[.int .u8 0] fun bz bA bB bC g=>?_
 have bD:=cP bB (xs:=[0]) (by as_aux_lemma=>kernel_rfl) (am (by omega) aM) (by(try simp only[List.length_cons,List.length_nil]);omega) bC
 refine Pl 1<|nt<|sq<|sg<|Pl 1<|?_
 refine L0<|aN (ub g ar) 15<|Pl 2<|nt<|bk<|?_
 refine ir (fun x=>[(0,.int .i64 dir),(3,.pointer (some ⟨ap,0,none⟩)),(4,.slice none 0 0),(5,.slice x.2.2.1 x.2.1.length x.2.2.2),(10,.slice Ar M.recs.length kr),(11,.int .i64 ((M.recs.length:Nat) : Int)),(12,.int .i64 ((x.1:Nat) : Int))]) (fun(x:Nat × List Int × Option Addr × Nat) w'=>ax [] ad w'∧bA.heap.size≤w'.heap.size∧cy ad.heap.size w' (.slice x.2.2.1 x.2.1.length x.2.2.2) x.2.1∧(x.1≤M.recs.length)∧(x.2.1++co dir M.code (M.recs.drop x.1)=([0])++co dir M.code M.recs)∧(x.2.1.length≤16+x.1*2060)∧(1≤x.2.1.length)) (fun x=>M.recs.length-x.1) (0,[0],some ⟨bz,0,none⟩,1) ⟨g,lr,bD,(by(try dsimp only);omega),rfl,(by(try dsimp only);(try simp only[List.length_cons,List.length_nil]);omega),(by(try dsimp only);(try simp only[List.length_cons,List.length_nil]);omega)⟩ ?_
 rintro⟨k,L,A,cp⟩ bE ⟨au,f,bF,bJ,bK,bL,bM⟩
 refine it [(0,.int .i64 dir),(3,.pointer (some ⟨ap,0,none⟩)),(4,.slice none 0 0),(5,.slice A L.length cp),(10,.slice Ar M.recs.length kr),(11,.int .i64 ((M.recs.length:Nat) : Int)),(12,.int .i64 ((k:Nat) : Int))] ?_
 have a:cy ad.heap.size bE (.slice A L.length cp) L:=bF
 have cJ:k≤M.recs.length:=bJ
 have cK:L++co dir M.code (M.recs.drop k)=([0])++co dir M.code M.recs:=bK
 have cL:L.length≤16+k*2060:=bL
 have cM:1≤L.length:=bM
 have hL:L++co dir M.code (M.recs.drop k)=([0])++co dir M.code M.recs:=by assumption
 have hv0:=fun(h:k<M.recs.length)=>hf.recw _ (de ⟨0,0,0,[]⟩ M.recs k h)
 refine sg<|Pl 1<|nt<|sq<|?_
 have ae:=aE l au
 refine cb ((decide (((k:Nat) : Int)<((M.recs.length:Nat) : Int)))) (fun n=>?_) (fun n=>?_)
 have bN:=of_decide_eq_true n
 refine bG<|sq<|bk<|sg<|sL (lN.elt hr k (by omega)) fun cN cO cQ cR cS aw aA bO bP Q cT bQ=>L0<|ia 4 M.recs.length k bO (by omega)<|?_
 refine L0<|uh [.int .u16 ((M.recs.getD k ⟨0,0,0,[]⟩).file),.int .u16 ((M.recs.getD k ⟨0,0,0,[]⟩).record),.int .u16 ((M.recs.getD k ⟨0,0,0,[]⟩).count),.slice aw ((M.recs.getD k ⟨0,0,0,[]⟩).words.length) aA] (ub ae bP) bQ<|L0<|bI #[.int .u16 0,.int .u16 0,.int .u16 0,.slice none 0 0] fun af cU B bR b=>L0<|bf bR #[.int .u16 ((M.recs.getD k ⟨0,0,0,[]⟩).file),.int .u16 ((M.recs.getD k ⟨0,0,0,[]⟩).record),.int .u16 ((M.recs.getD k ⟨0,0,0,[]⟩).count),.slice aw ((M.recs.getD k ⟨0,0,0,[]⟩).words.length) aA] fun cV ah c=>nt<|sq<|bk<|sg<|Pl 1<|?_
 have s:=ud b c B
 have C:=aE au s
 refine L0<|aN (ub C ar) 0<|Pl 2<|cu 3 [32] 35 (((M.code==20)&&(dir==1))) (fun K aB=>?_) ?_
 refine bl 32 ((M.code==20)) (fun D=>?_) (fun D=>?_)
 have bS:=az D
 exact Pl 3<|ce aB (dir==1) (by rw[D];rfl)
 have bS:=aC D
 exact Pl 3<|ce aB false (by rw[D];rfl)
 refine Pl 1<|nt<|?_
 have R:=aE ae s
 refine cb (((M.code==20)&&(dir==1))) (fun o=>?_) (fun o=>?_)
 have aD:=(bH o).1
 have aH:=(bH o).2
 have cW:=az aD
 have cX:=az aH
 refine go<|Pl 2<|L0<|aN ah 3<|Pl 1<|L0<|Oi (2*(((M.recs.getD k ⟨0,0,0,[]⟩).words.length:Nat) : Int))<|L0<|Oi (1+(2*(((M.recs.getD k ⟨0,0,0,[]⟩).words.length:Nat) : Int)))<|Pl 1<|L0<|cF (m:=2) (e:=5) #[.int .u8 ((1+(2*(((M.recs.getD k ⟨0,0,0,[]⟩).words.length:Nat) : Int)))%256),.int .u8 6] fun cY d0 bT bU E=>?_
 have bV:=cP bT (xs:=[((1+(2*(((M.recs.getD k ⟨0,0,0,[]⟩).words.length:Nat) : Int)))%256),6]) (by as_aux_lemma=>kernel_rfl) (am (by omega) (am (by omega) aM)) (by(try simp only[List.length_cons,List.length_nil]);omega) bU
 refine L0<|cj aX (xs:=L) (ys:=([((1+(2*(((M.recs.getD k ⟨0,0,0,[]⟩).words.length:Nat) : Int)))%256),6])) (.int .u8 0) 1 (aj a (aE s E) (fun x hx=>ay) (fun _ _ h=>h)) (bV).rd (by(try simp only[List.length_append,List.length_cons,List.length_nil,av]);omega) (le (le (le (le g.size f) b.size) c.size) E.size) fun aK d1 d2 aL ai=>Pl 1<|nl<|bn<|tn<|go<|Pl 2<|?_
 have ak:=ut (ax.mono (S':=(ob A++[])) E aq) ai (ag il aq)
 refine L0<|aN (ax.blk ak (aG (ci a lr B) ay) ah) 3<|?_
 refine L0<|Oc<|dE (bg (xs:=(M.recs.getD k ⟨0,0,0,[]⟩).words) (dB.old Q (ut R ak (ag (aI a l.size) aq))) (by(try simp only[List.length_cons,List.length_nil]);omega)) fun d3 d4 d5 bW d6 d7 S=>?_
 refine L0<|cj aX (xs:=(L++[((1+(2*(((M.recs.getD k ⟨0,0,0,[]⟩).words.length:Nat) : Int)))%256),6])) (ys:=(aP ((M.recs.getD k ⟨0,0,0,[]⟩).words))) (.int .u8 0) 1 (aj aL S (fun x hx=>ay) (fun _ _ h=>h)) (bW).rd (by(try simp only[List.length_append,List.length_cons,List.length_nil,av]);omega) (le (le (le (le (le (le g.size f) b.size) c.size) E.size) ai.size) S.size) fun bX bY d8 bZ aO=>Pl 1<|nl<|bn<|tn<|go<|L0<|Oi (((k:Nat) : Int)+1)<|Pl 1<|nl<|?_
 exact er ((k+1),((L++[((1+(2*(((M.recs.getD k ⟨0,0,0,[]⟩).words.length:Nat) : Int)))%256),6])++(aP ((M.recs.getD k ⟨0,0,0,[]⟩).words))),bX,bY) ⟨(ut C (ut (ax.mono (S':=(ob A++(ob aK++[]))) ak (ag il aq)) (ut (ax.mono (S':=(ob aK++[])) S aq) aO (ag il aq)) (ag il aq)) (ag (aI a lr) (ag (aI aL lr) aq))),(le (le (le (le (le (le f b.size) c.size) E.size) ai.size) S.size) aO.size),bZ,(by(try dsimp only);omega),(by(try dsimp only);rw[← hL,cZ dir M.code M.recs k (by omega)];simp only[kx,hd0,n,o,aD,aH,bs,if_true,if_false,decide_true,decide_false,List.append_assoc]),(by(try dsimp only);have hv:=hf.recw _ (de ⟨0,0,0,[]⟩ M.recs k (by omega));(try simp only[List.length_append,List.length_cons,List.length_nil,av]);omega),(by(try dsimp only);(try simp only[List.length_append,List.length_cons,List.length_nil]);omega)⟩ (by omega)
 refine Rg 13 (fun w'=>w'.cell? ⟨af,0,none⟩=some (.int .u16 ((M.recs.getD k ⟨0,0,0,[]⟩).file))∧w'.cell? ⟨af,1,none⟩=some (.int .u16 ((M.recs.getD k ⟨0,0,0,[]⟩).record))∧w'.cell? ⟨af,2,none⟩=some (.int .u16 ((M.recs.getD k ⟨0,0,0,[]⟩).count))) fun d9 d=>?_
 have F:=ub d ah
 refine aZ ⟨(aa F rfl),(aa F rfl),(aa F rfl)⟩ fun p=>Rt 0 p<|Rt 3 p<|Rl 4 p (fun _ hs=>hs.1)<|Rt 5 p<|Rl 6 p (fun _ hs=>hs.2.1)<|Rt 7 p<|Rl 8 p (fun _ hs=>hs.2.2)<|?_
 refine R2 1 9 rfl rfl ?_ ?_
 refine  cF (m:=1) (e:=5) #[.int .u8 6] fun da dc c0 c1 i=>?_
 have aR:=cP c0 (xs:=[6]) (by as_aux_lemma=>kernel_rfl) (am (by omega) aM) (by(try simp only[List.length_cons,List.length_nil]);omega) c1
 have G:=ub i F
 refine aZ ⟨(aa G rfl),(aa G rfl),(aa G rfl)⟩ fun dd=>?_
 refine R2 2 9 rfl rfl ?_ ?_
 have aS:=aE d i
 refine  cj aX (xs:=L) (ys:=([6])) (.int .u8 0) 1 (aj a (aE s aS) (fun x hx=>ay) (fun _ _ h=>h)) (aR).rd (by(try simp only[List.length_append,List.length_cons,List.length_nil,av]);omega) (le (le (le (le (le g.size f) b.size) c.size) d.size) i.size) fun T df dg al H=>?_
 have U:=ax.blk H (aG (ci a lr B) ay) G
 refine aZ ⟨(aa U rfl),(aa U rfl),(aa U rfl)⟩ fun dh=>R0 9 rfl<|cF (m:=3) (e:=22) #[.int .u16 ((M.recs.getD k ⟨0,0,0,[]⟩).file),.int .u16 ((M.recs.getD k ⟨0,0,0,[]⟩).record),.int .u16 ((M.recs.getD k ⟨0,0,0,[]⟩).count)] fun di dj c2 c3 I=>?_
 have c4:=dX c2 (xs:=[(M.recs.getD k ⟨0,0,0,[]⟩).file,(M.recs.getD k ⟨0,0,0,[]⟩).record,(M.recs.getD k ⟨0,0,0,[]⟩).count]) (by as_aux_lemma=>kernel_rfl) (am (by omega) (am (by omega) (am (by omega) aM))) (by(try simp only[List.length_cons,List.length_nil]);omega) c3
 have V:=ub I U
 refine aZ ⟨(aa V rfl),(aa V rfl),(aa V rfl)⟩ fun dk=>R0 10 rfl<|Oc<|dE (bg (xs:=[(M.recs.getD k ⟨0,0,0,[]⟩).file,(M.recs.getD k ⟨0,0,0,[]⟩).record,(M.recs.getD k ⟨0,0,0,[]⟩).count]) (c4).rd (by(try simp only[List.length_cons,List.length_nil]);omega)) fun dl dm dn c5 dp dq J=>?_
 have N:=ub J V
 refine aZ ⟨(aa N rfl),(aa N rfl),(aa N rfl)⟩ fun dr=>?_
 have aT:=aE I J
 have aU:=aj al aT (fun x hx=>ay) (fun _ _ h=>h)
 refine R0 11 rfl<|cj aX (xs:=(L++[6])) (ys:=(aP ([(M.recs.getD k ⟨0,0,0,[]⟩).file,(M.recs.getD k ⟨0,0,0,[]⟩).record,(M.recs.getD k ⟨0,0,0,[]⟩).count]))) (.int .u8 0) 1 aU (c5).rd (by(try simp only[List.length_append,List.length_cons,List.length_nil,av]);omega) (le (le (le (le (le (le (le (le g.size f) b.size) c.size) d.size) i.size) H.size) I.size) J.size) fun aW ds dt aY W=>?_
 have X:=ax.blk W (aG (bu N aU (by decide)) ay) N
 refine aZ ⟨(aa X rfl),(aa X rfl),(aa X rfl)⟩ fun c6=>Rt 12 c6<|re<|bn<|tn<|go<|Pl 2<|L0<|aN X 3<|?_
 have b0:=ut (ax.mono (S':=(ob A++(ob T++[]))) aS aq) (ut (ax.mono (S':=(ob A++(ob T++[]))) H (ag il aq)) (ut (ax.mono (S':=(ob T++[])) aT aq) W (ag il aq)) (ag il aq)) (ag il (ag il aq))
 refine L0<|Oc<|dE (bg (xs:=(M.recs.getD k ⟨0,0,0,[]⟩).words) (dB.old Q (ut R b0 (ag (aI a l.size) (ag (aI al l.size) aq)))) (by(try simp only[List.length_cons,List.length_nil]);omega)) fun du dv dw c7 dx dy Y=>?_
 refine L0<|cj aX (xs:=((L++[6])++(aP ([(M.recs.getD k ⟨0,0,0,[]⟩).file,(M.recs.getD k ⟨0,0,0,[]⟩).record,(M.recs.getD k ⟨0,0,0,[]⟩).count])))) (ys:=(aP ((M.recs.getD k ⟨0,0,0,[]⟩).words))) (.int .u8 0) 1 (aj aY Y (fun x hx=>ay) (fun _ _ h=>h)) (c7).rd (by(try simp only[List.length_append,List.length_cons,List.length_nil,av]);omega) (le (le (le (le (le (le (le (le (le (le g.size f) b.size) c.size) d.size) i.size) H.size) I.size) J.size) W.size) Y.size) fun c8 c9 dz ca b1=>Pl 1<|nl<|bn<|tn<|go<|L0<|Oi (((k:Nat) : Int)+1)<|Pl 1<|nl<|?_
 exact er ((k+1),(((L++[6])++(aP ([(M.recs.getD k ⟨0,0,0,[]⟩).file,(M.recs.getD k ⟨0,0,0,[]⟩).record,(M.recs.getD k ⟨0,0,0,[]⟩).count])))++(aP ((M.recs.getD k ⟨0,0,0,[]⟩).words))),c8,c9) ⟨(ut C (ut (ax.mono (S':=(ob A++(ob T++(ob aW++[])))) b0 (ag il (ag il aq))) (ut (ax.mono (S':=(ob aW++[])) Y aq) b1 (ag il aq)) (ag il aq)) (ag (aI a lr) (ag (aI al lr) (ag (aI aY lr) aq)))),(le (le (le (le (le (le (le (le (le (le f b.size) c.size) d.size) i.size) H.size) I.size) J.size) W.size) Y.size) b1.size),ca,(by(try dsimp only);omega),(by(try dsimp only);rw[← hL,cZ dir M.code M.recs k (by omega)];simp only[kx,hd0,n,o,bs,if_true,if_false,decide_true,decide_false,List.append_assoc]),(by(try dsimp only);have hv:=hf.recw _ (de ⟨0,0,0,[]⟩ M.recs k (by omega));(try simp only[List.length_append,List.length_cons,List.length_nil,av]);omega),(by(try dsimp only);(try simp only[List.length_append,List.length_cons,List.length_nil]);omega)⟩ (by omega)
 refine  cF (m:=3) (e:=22) #[.int .u16 ((M.recs.getD k ⟨0,0,0,[]⟩).file),.int .u16 ((M.recs.getD k ⟨0,0,0,[]⟩).record),.int .u16 ((M.recs.getD k ⟨0,0,0,[]⟩).count)] fun dA dC cc cd q=>?_
 have b2:=dX cc (xs:=[(M.recs.getD k ⟨0,0,0,[]⟩).file,(M.recs.getD k ⟨0,0,0,[]⟩).record,(M.recs.getD k ⟨0,0,0,[]⟩).count]) (by as_aux_lemma=>kernel_rfl) (am (by omega) (am (by omega) (am (by omega) aM))) (by(try simp only[List.length_cons,List.length_nil]);omega) cd
 have Z:=ub q G
 refine aZ ⟨(aa Z rfl),(aa Z rfl),(aa Z rfl)⟩ fun dD=>?_
 have b3:=aE d (aE i q)
 refine R0 2 rfl<|cj aX (xs:=L) (ys:=([6])) (.int .u8 0) 1 (aj a (aE s b3) (fun x hx=>ay) (fun _ _ h=>h)) ((aj aR q (fun x hx=>ay) (fun _ _ h=>h))).rd (by(try simp only[List.length_append,List.length_cons,List.length_nil,av]);omega) (le (le (le (le (le (le g.size f) b.size) c.size) d.size) i.size) q.size) fun a0 dF dG an t=>?_
 have a1:=ax.blk t (aG (ci a lr B) ay) Z
 refine aZ ⟨(aa a1 rfl),(aa a1 rfl),(aa a1 rfl)⟩ fun dH=>?_
 refine R0 10 rfl<|Oc<|dE (bg (xs:=[(M.recs.getD k ⟨0,0,0,[]⟩).file,(M.recs.getD k ⟨0,0,0,[]⟩).record,(M.recs.getD k ⟨0,0,0,[]⟩).count]) ((aj b2 t (fun x hx=>(aG ((fQ b2 a (le (le (le b.size c.size) d.size) i.size)) x hx) ay)) (fun _ _ h=>h))).rd (by(try simp only[List.length_cons,List.length_nil]);omega)) fun dI dJ dK cf dL dM u=>?_
 have O:=ub u a1
 refine aZ ⟨(aa O rfl),(aa O rfl),(aa O rfl)⟩ fun dN=>?_
 have b4:=aj an u (fun x hx=>ay) (fun _ _ h=>h)
 refine R0 11 rfl<|cj aX (xs:=(L++[6])) (ys:=(aP ([(M.recs.getD k ⟨0,0,0,[]⟩).file,(M.recs.getD k ⟨0,0,0,[]⟩).record,(M.recs.getD k ⟨0,0,0,[]⟩).count]))) (.int .u8 0) 1 b4 (cf).rd (by(try simp only[List.length_append,List.length_cons,List.length_nil,av]);omega) (le (le (le (le (le (le (le (le g.size f) b.size) c.size) d.size) i.size) q.size) t.size) u.size) fun b5 dO dP b6 a2=>?_
 have a3:=ax.blk a2 (aG (bu O b4 (by decide)) ay) O
 refine aZ ⟨(aa a3 rfl),(aa a3 rfl),(aa a3 rfl)⟩ fun cg=>Rt 12 cg<|re<|bn<|tn<|go<|Pl 2<|L0<|aN a3 3<|?_
 have b7:=ut (ax.mono (S':=(ob A++(ob a0++[]))) b3 aq) (ut (ax.mono (S':=(ob A++(ob a0++[]))) t (ag il aq)) (ut (ax.mono (S':=(ob a0++[])) u aq) a2 (ag il aq)) (ag il aq)) (ag il (ag il aq))
 refine L0<|Oc<|dE (bg (xs:=(M.recs.getD k ⟨0,0,0,[]⟩).words) (dB.old Q (ut R b7 (ag (aI a l.size) (ag (aI an l.size) aq)))) (by(try simp only[List.length_cons,List.length_nil]);omega)) fun dQ dR dS ch dT dU a4=>?_
 refine L0<|cj aX (xs:=((L++[6])++(aP ([(M.recs.getD k ⟨0,0,0,[]⟩).file,(M.recs.getD k ⟨0,0,0,[]⟩).record,(M.recs.getD k ⟨0,0,0,[]⟩).count])))) (ys:=(aP ((M.recs.getD k ⟨0,0,0,[]⟩).words))) (.int .u8 0) 1 (aj b6 a4 (fun x hx=>ay) (fun _ _ h=>h)) (ch).rd (by(try simp only[List.length_append,List.length_cons,List.length_nil,av]);omega) (le (le (le (le (le (le (le (le (le (le g.size f) b.size) c.size) d.size) i.size) q.size) t.size) u.size) a2.size) a4.size) fun ck cl dV cm b8=>Pl 1<|nl<|bn<|tn<|go<|L0<|Oi (((k:Nat) : Int)+1)<|Pl 1<|nl<|?_
 exact er ((k+1),(((L++[6])++(aP ([(M.recs.getD k ⟨0,0,0,[]⟩).file,(M.recs.getD k ⟨0,0,0,[]⟩).record,(M.recs.getD k ⟨0,0,0,[]⟩).count])))++(aP ((M.recs.getD k ⟨0,0,0,[]⟩).words))),ck,cl) ⟨(ut C (ut (ax.mono (S':=(ob A++(ob a0++(ob b5++[])))) b7 (ag il (ag il aq))) (ut (ax.mono (S':=(ob b5++[])) a4 aq) b8 (ag il aq)) (ag il aq)) (ag (aI a lr) (ag (aI an lr) (ag (aI b6 lr) aq)))),(le (le (le (le (le (le (le (le (le (le f b.size) c.size) d.size) i.size) q.size) t.size) u.size) a2.size) a4.size) b8.size),cm,(by(try dsimp only);omega),(by(try dsimp only);rw[← hL,cZ dir M.code M.recs k (by omega)];simp only[kx,hd0,n,o,bs,if_true,if_false,decide_true,decide_false,List.append_assoc]),(by(try dsimp only);have hv:=hf.recw _ (de ⟨0,0,0,[]⟩ M.recs k (by omega));(try simp only[List.length_append,List.length_cons,List.length_nil,av]);omega),(by(try dsimp only);(try simp only[List.length_append,List.length_cons,List.length_nil]);omega)⟩ (by omega)
 refine  cF (m:=3) (e:=22) #[.int .u16 ((M.recs.getD k ⟨0,0,0,[]⟩).file),.int .u16 ((M.recs.getD k ⟨0,0,0,[]⟩).record),.int .u16 ((M.recs.getD k ⟨0,0,0,[]⟩).count)] fun dW dY cn cq v=>?_
 have b9:=dX cn (xs:=[(M.recs.getD k ⟨0,0,0,[]⟩).file,(M.recs.getD k ⟨0,0,0,[]⟩).record,(M.recs.getD k ⟨0,0,0,[]⟩).count]) (by as_aux_lemma=>kernel_rfl) (am (by omega) (am (by omega) (am (by omega) aM))) (by(try simp only[List.length_cons,List.length_nil]);omega) cq
 have a5:=ub v F
 refine aZ ⟨(aa a5 rfl),(aa a5 rfl),(aa a5 rfl)⟩ fun dZ=>R0 1 rfl<|cF (m:=1) (e:=5) #[.int .u8 6] fun e0 e1 cr ct r=>?_
 have cw:=cP cr (xs:=[6]) (by as_aux_lemma=>kernel_rfl) (am (by omega) aM) (by(try simp only[List.length_cons,List.length_nil]);omega) ct
 have a6:=ub r a5
 refine aZ ⟨(aa a6 rfl),(aa a6 rfl),(aa a6 rfl)⟩ fun e2=>?_
 have ba:=aE d (aE v r)
 refine R0 2 rfl<|cj aX (xs:=L) (ys:=([6])) (.int .u8 0) 1 (aj a (aE s ba) (fun x hx=>ay) (fun _ _ h=>h)) (cw).rd (by(try simp only[List.length_append,List.length_cons,List.length_nil,av]);omega) (le (le (le (le (le (le g.size f) b.size) c.size) d.size) v.size) r.size) fun a7 e3 e4 ao y=>?_
 have a8:=ax.blk y (aG (ci a lr B) ay) a6
 refine aZ ⟨(aa a8 rfl),(aa a8 rfl),(aa a8 rfl)⟩ fun e5=>?_
 refine R0 10 rfl<|Oc<|dE (bg (xs:=[(M.recs.getD k ⟨0,0,0,[]⟩).file,(M.recs.getD k ⟨0,0,0,[]⟩).record,(M.recs.getD k ⟨0,0,0,[]⟩).count]) ((aj b9 (ut (ax.mono (S':=(ob A++[])) r aq) y (ag il aq)) (fun x hx=>(aG ((fQ b9 a (le (le b.size c.size) d.size)) x hx) ay)) (fun _ _ h=>h))).rd (by(try simp only[List.length_cons,List.length_nil]);omega)) fun e6 e7 e8 cx e9 ea z=>?_
 have P:=ub z a8
 refine aZ ⟨(aa P rfl),(aa P rfl),(aa P rfl)⟩ fun eb=>?_
 have bb:=aj ao z (fun x hx=>ay) (fun _ _ h=>h)
 refine R0 11 rfl<|cj aX (xs:=(L++[6])) (ys:=(aP ([(M.recs.getD k ⟨0,0,0,[]⟩).file,(M.recs.getD k ⟨0,0,0,[]⟩).record,(M.recs.getD k ⟨0,0,0,[]⟩).count]))) (.int .u8 0) 1 bb (cx).rd (by(try simp only[List.length_append,List.length_cons,List.length_nil,av]);omega) (le (le (le (le (le (le (le (le g.size f) b.size) c.size) d.size) v.size) r.size) y.size) z.size) fun bc ec ed bd a9=>?_
 have ab:=ax.blk a9 (aG (bu P bb (by decide)) ay) P
 refine aZ ⟨(aa ab rfl),(aa ab rfl),(aa ab rfl)⟩ fun cA=>Rt 12 cA<|re<|bn<|tn<|go<|Pl 2<|L0<|aN ab 3<|?_
 have be:=ut (ax.mono (S':=(ob A++(ob a7++[]))) ba aq) (ut (ax.mono (S':=(ob A++(ob a7++[]))) y (ag il aq)) (ut (ax.mono (S':=(ob a7++[])) z aq) a9 (ag il aq)) (ag il aq)) (ag il (ag il aq))
 refine L0<|Oc<|dE (bg (xs:=(M.recs.getD k ⟨0,0,0,[]⟩).words) (dB.old Q (ut R be (ag (aI a l.size) (ag (aI ao l.size) aq)))) (by(try simp only[List.length_cons,List.length_nil]);omega)) fun ee ef eg cB eh ei ac=>?_
 refine L0<|cj aX (xs:=((L++[6])++(aP ([(M.recs.getD k ⟨0,0,0,[]⟩).file,(M.recs.getD k ⟨0,0,0,[]⟩).record,(M.recs.getD k ⟨0,0,0,[]⟩).count])))) (ys:=(aP ((M.recs.getD k ⟨0,0,0,[]⟩).words))) (.int .u8 0) 1 (aj bd ac (fun x hx=>ay) (fun _ _ h=>h)) (cB).rd (by(try simp only[List.length_append,List.length_cons,List.length_nil,av]);omega) (le (le (le (le (le (le (le (le (le (le g.size f) b.size) c.size) d.size) v.size) r.size) y.size) z.size) a9.size) ac.size) fun cC cD ej cE bh=>Pl 1<|nl<|bn<|tn<|go<|L0<|Oi (((k:Nat) : Int)+1)<|Pl 1<|nl<|?_
 exact er ((k+1),(((L++[6])++(aP ([(M.recs.getD k ⟨0,0,0,[]⟩).file,(M.recs.getD k ⟨0,0,0,[]⟩).record,(M.recs.getD k ⟨0,0,0,[]⟩).count])))++(aP ((M.recs.getD k ⟨0,0,0,[]⟩).words))),cC,cD) ⟨(ut C (ut (ax.mono (S':=(ob A++(ob a7++(ob bc++[])))) be (ag il (ag il aq))) (ut (ax.mono (S':=(ob bc++[])) ac aq) bh (ag il aq)) (ag il aq)) (ag (aI a lr) (ag (aI ao lr) (ag (aI bd lr) aq)))),(le (le (le (le (le (le (le (le (le (le f b.size) c.size) d.size) v.size) r.size) y.size) z.size) a9.size) ac.size) bh.size),cE,(by(try dsimp only);omega),(by(try dsimp only);rw[← hL,cZ dir M.code M.recs k (by omega)];simp only[kx,hd0,n,o,bs,if_true,if_false,decide_true,decide_false,List.append_assoc]),(by(try dsimp only);have hv:=hf.recw _ (de ⟨0,0,0,[]⟩ M.recs k (by omega));(try simp only[List.length_append,List.length_cons,List.length_nil,av]);omega),(by(try dsimp only);(try simp only[List.length_append,List.length_cons,List.length_nil]);omega)⟩ (by omega)
 have bN:=of_decide_eq_false n
 refine xt<|tx<|tx<|bx<|tn<|sg<|Pl 3<|L0<|Oi (((L.length:Nat) : Int)-1)<|Pl 1<|gX (aQ.at_ (a).rd 0 (by omega)) fun ek el bi em eo=>L0<|oU L.length 0 bi (by omega)<|L0<|zF aX (j:=0) a bi (by omega) ((((L.length:Nat) : Int)-1)%256) (fun _=>⟨rfl,by omega⟩) fun ep cG cH=>nl<|?_
 refine tn<|sg<|Pl 2<|nt<|rt<|rr (.slice A L.length cp)<|?_
 have hk:k=M.recs.length:=by omega
 rw[hk,List.drop_length] at hL
 have hL2:[0]++co dir M.code M.recs=L:=by rw[← hL];simp[co]
 have hs:cv dir M=(L.set 0 ((((L.length:Nat) : Int)-1)%256)):=by unfold cv;rw[hL2]
 rw[hs]
 exact⟨_,rfl,(aJ.weaken cG l.size),(ut ae cH (ag (aI a l.size) aq))⟩
theorem nE{m:Bool}{cs:Array Value}{M:aV}{w:World}{dir:Int}(h:aF m w cs.toList M)(hf:bp M)(hd0:(dir==0)=false) : Calls Tryz.prog 97 #[.int .i64 dir,.agg cs] w (i9 (cv dir M) w):=by
 obtain⟨vw,vb,vd,vr,vo,h0,hw,hbt,hd,hr,ho,hR⟩:=h
 obtain rfl:cs=(bt M vw vb vd vr vo).toArray:=by apply Array.toList_inj.1;simpa using h0
 clear h0
 obtain⟨Aw,kw,rfl,_,_⟩:=hw.shape
 obtain⟨Ab,kb,rfl,_,_⟩:=hbt.shape
 obtain⟨Ad,kd,rfl,_,_⟩:=hd.shape
 obtain⟨Ar,kr,rfl,_,_⟩:=hr.shape
 obtain⟨Ao,ko,rfl,_,_⟩:=ho.shape
 obtain⟨q0,q1,q2,q3,q4,q5,q6,q7,q8,q9,bj,bm,bo,bq,br,bv,bw⟩:=hR
 simp only[B8,db] at q0 q1 q2 q3 q4 q5 q6 q7 q8 q9 bj bm bo bq br bv bw
 have hf1:=hf.words
 have hf2:=hf.bits
 have hf3:=hf.data
 have hf4:=hf.recs
 have hf5:=hf.objects
 refine en 58 Tryz.func97 rfl<|sg<|L0<|cz (mG M.code M.fail M.addr M.count M.value M.and_ M.or_ M.addr2 M.sub M.status M.events M.messages (.slice Aw M.words.length kw) (.slice Ab M.bits.length kb) (.slice Ad M.data.length kd) (.slice Ar M.recs.length kr) M.mei M.kind M.level M.more M.next (.slice Ao M.objects.length ko)) fun ap ad cI ar l=>Pl 1<|ng<|L0<|cF (m:=1) (e:=5) #[.int .u8 0] fun bz bA bB bC g=>?_
 have bD:=cP bB (xs:=[0]) (by as_aux_lemma=>kernel_rfl) (am (by omega) aM) (by(try simp only[List.length_cons,List.length_nil]);omega) bC
 refine Pl 1<|nt<|sq<|sg<|Pl 1<|?_
 refine L0<|aN (ub g ar) 15<|Pl 2<|nt<|bk<|?_
 refine ir (fun x=>[(0,.int .i64 dir),(3,.pointer (some ⟨ap,0,none⟩)),(4,.slice none 0 0),(5,.slice x.2.2.1 x.2.1.length x.2.2.2),(10,.slice Ar M.recs.length kr),(11,.int .i64 ((M.recs.length:Nat) : Int)),(12,.int .i64 ((x.1:Nat) : Int))]) (fun(x:Nat × List Int × Option Addr × Nat) w'=>ax [] ad w'∧bA.heap.size≤w'.heap.size∧cy ad.heap.size w' (.slice x.2.2.1 x.2.1.length x.2.2.2) x.2.1∧(x.1≤M.recs.length)∧(x.2.1++co dir M.code (M.recs.drop x.1)=([0])++co dir M.code M.recs)∧(x.2.1.length≤16+x.1*2060)∧(1≤x.2.1.length)) (fun x=>M.recs.length-x.1) (0,[0],some ⟨bz,0,none⟩,1) ⟨g,lr,bD,(by(try dsimp only);omega),rfl,(by(try dsimp only);(try simp only[List.length_cons,List.length_nil]);omega),(by(try dsimp only);(try simp only[List.length_cons,List.length_nil]);omega)⟩ ?_
 rintro⟨k,L,A,cp⟩ bE ⟨au,f,bF,bJ,bK,bL,bM⟩
 refine it [(0,.int .i64 dir),(3,.pointer (some ⟨ap,0,none⟩)),(4,.slice none 0 0),(5,.slice A L.length cp),(10,.slice Ar M.recs.length kr),(11,.int .i64 ((M.recs.length:Nat) : Int)),(12,.int .i64 ((k:Nat) : Int))] ?_
 have a:cy ad.heap.size bE (.slice A L.length cp) L:=bF
 have cJ:k≤M.recs.length:=bJ
 have cK:L++co dir M.code (M.recs.drop k)=([0])++co dir M.code M.recs:=bK
 have cL:L.length≤16+k*2060:=bL
 have cM:1≤L.length:=bM
 have hL:L++co dir M.code (M.recs.drop k)=([0])++co dir M.code M.recs:=by assumption
 have hv0:=fun(h:k<M.recs.length)=>hf.recw _ (de ⟨0,0,0,[]⟩ M.recs k h)
 refine sg<|Pl 1<|nt<|sq<|?_
 have ae:=aE l au
 refine cb ((decide (((k:Nat) : Int)<((M.recs.length:Nat) : Int)))) (fun n=>?_) (fun n=>?_)
 have bN:=of_decide_eq_true n
 refine bG<|sq<|bk<|sg<|sL (lN.elt hr k (by omega)) fun cN cO cQ cR cS aw aA bO bP Q cT bQ=>L0<|ia 4 M.recs.length k bO (by omega)<|?_
 refine L0<|uh [.int .u16 ((M.recs.getD k ⟨0,0,0,[]⟩).file),.int .u16 ((M.recs.getD k ⟨0,0,0,[]⟩).record),.int .u16 ((M.recs.getD k ⟨0,0,0,[]⟩).count),.slice aw ((M.recs.getD k ⟨0,0,0,[]⟩).words.length) aA] (ub ae bP) bQ<|L0<|bI #[.int .u16 0,.int .u16 0,.int .u16 0,.slice none 0 0] fun af cU B bR b=>L0<|bf bR #[.int .u16 ((M.recs.getD k ⟨0,0,0,[]⟩).file),.int .u16 ((M.recs.getD k ⟨0,0,0,[]⟩).record),.int .u16 ((M.recs.getD k ⟨0,0,0,[]⟩).count),.slice aw ((M.recs.getD k ⟨0,0,0,[]⟩).words.length) aA] fun cV ah c=>nt<|sq<|bk<|sg<|Pl 1<|?_
 have s:=ud b c B
 have C:=aE au s
 refine L0<|aN (ub C ar) 0<|Pl 2<|cu 3 [32] 35 (((M.code==20)&&(dir==1))) (fun K aB=>?_) ?_
 refine bl 32 ((M.code==20)) (fun D=>?_) (fun D=>?_)
 have bS:=az D
 exact Pl 3<|ce aB (dir==1) (by rw[D];rfl)
 have bS:=aC D
 exact Pl 3<|ce aB false (by rw[D];rfl)
 refine Pl 1<|nt<|?_
 have R:=aE ae s
 refine cb (((M.code==20)&&(dir==1))) (fun o=>?_) (fun o=>?_)
 have aD:=(bH o).1
 have aH:=(bH o).2
 have cW:=az aD
 have cX:=az aH
 refine go<|Pl 2<|L0<|aN ah 3<|Pl 1<|L0<|Oi (2*(((M.recs.getD k ⟨0,0,0,[]⟩).words.length:Nat) : Int))<|L0<|Oi (1+(2*(((M.recs.getD k ⟨0,0,0,[]⟩).words.length:Nat) : Int)))<|Pl 1<|L0<|cF (m:=2) (e:=5) #[.int .u8 ((1+(2*(((M.recs.getD k ⟨0,0,0,[]⟩).words.length:Nat) : Int)))%256),.int .u8 6] fun cY d0 bT bU E=>?_
 have bV:=cP bT (xs:=[((1+(2*(((M.recs.getD k ⟨0,0,0,[]⟩).words.length:Nat) : Int)))%256),6]) (by as_aux_lemma=>kernel_rfl) (am (by omega) (am (by omega) aM)) (by(try simp only[List.length_cons,List.length_nil]);omega) bU
 refine L0<|cj aX (xs:=L) (ys:=([((1+(2*(((M.recs.getD k ⟨0,0,0,[]⟩).words.length:Nat) : Int)))%256),6])) (.int .u8 0) 1 (aj a (aE s E) (fun x hx=>ay) (fun _ _ h=>h)) (bV).rd (by(try simp only[List.length_append,List.length_cons,List.length_nil,av]);omega) (le (le (le (le g.size f) b.size) c.size) E.size) fun aK d1 d2 aL ai=>Pl 1<|nl<|bn<|tn<|go<|Pl 2<|?_
 have ak:=ut (ax.mono (S':=(ob A++[])) E aq) ai (ag il aq)
 refine L0<|aN (ax.blk ak (aG (ci a lr B) ay) ah) 3<|?_
 refine L0<|Oc<|dE (bg (xs:=(M.recs.getD k ⟨0,0,0,[]⟩).words) (dB.old Q (ut R ak (ag (aI a l.size) aq))) (by(try simp only[List.length_cons,List.length_nil]);omega)) fun d3 d4 d5 bW d6 d7 S=>?_
 refine L0<|cj aX (xs:=(L++[((1+(2*(((M.recs.getD k ⟨0,0,0,[]⟩).words.length:Nat) : Int)))%256),6])) (ys:=(aP ((M.recs.getD k ⟨0,0,0,[]⟩).words))) (.int .u8 0) 1 (aj aL S (fun x hx=>ay) (fun _ _ h=>h)) (bW).rd (by(try simp only[List.length_append,List.length_cons,List.length_nil,av]);omega) (le (le (le (le (le (le g.size f) b.size) c.size) E.size) ai.size) S.size) fun bX bY d8 bZ aO=>Pl 1<|nl<|bn<|tn<|go<|L0<|Oi (((k:Nat) : Int)+1)<|Pl 1<|nl<|?_
 exact er ((k+1),((L++[((1+(2*(((M.recs.getD k ⟨0,0,0,[]⟩).words.length:Nat) : Int)))%256),6])++(aP ((M.recs.getD k ⟨0,0,0,[]⟩).words))),bX,bY) ⟨(ut C (ut (ax.mono (S':=(ob A++(ob aK++[]))) ak (ag il aq)) (ut (ax.mono (S':=(ob aK++[])) S aq) aO (ag il aq)) (ag il aq)) (ag (aI a lr) (ag (aI aL lr) aq))),(le (le (le (le (le (le f b.size) c.size) E.size) ai.size) S.size) aO.size),bZ,(by(try dsimp only);omega),(by(try dsimp only);rw[← hL,cZ dir M.code M.recs k (by omega)];simp only[kx,hd0,n,o,aD,aH,bs,if_true,if_false,decide_true,decide_false,List.append_assoc]),(by(try dsimp only);have hv:=hf.recw _ (de ⟨0,0,0,[]⟩ M.recs k (by omega));(try simp only[List.length_append,List.length_cons,List.length_nil,av]);omega),(by(try dsimp only);(try simp only[List.length_append,List.length_cons,List.length_nil]);omega)⟩ (by omega)
 refine Rg 13 (fun w'=>w'.cell? ⟨af,0,none⟩=some (.int .u16 ((M.recs.getD k ⟨0,0,0,[]⟩).file))∧w'.cell? ⟨af,1,none⟩=some (.int .u16 ((M.recs.getD k ⟨0,0,0,[]⟩).record))∧w'.cell? ⟨af,2,none⟩=some (.int .u16 ((M.recs.getD k ⟨0,0,0,[]⟩).count))) fun d9 d=>?_
 have F:=ub d ah
 refine aZ ⟨(aa F rfl),(aa F rfl),(aa F rfl)⟩ fun p=>Rt 0 p<|Rt 3 p<|Rl 4 p (fun _ hs=>hs.1)<|Rt 5 p<|Rl 6 p (fun _ hs=>hs.2.1)<|Rt 7 p<|Rl 8 p (fun _ hs=>hs.2.2)<|?_
 refine R2 1 9 rfl rfl ?_ ?_
 refine  cF (m:=1) (e:=5) #[.int .u8 6] fun da dc c0 c1 i=>?_
 have aR:=cP c0 (xs:=[6]) (by as_aux_lemma=>kernel_rfl) (am (by omega) aM) (by(try simp only[List.length_cons,List.length_nil]);omega) c1
 have G:=ub i F
 refine aZ ⟨(aa G rfl),(aa G rfl),(aa G rfl)⟩ fun dd=>?_
 refine R2 2 9 rfl rfl ?_ ?_
 have aS:=aE d i
 refine  cj aX (xs:=L) (ys:=([6])) (.int .u8 0) 1 (aj a (aE s aS) (fun x hx=>ay) (fun _ _ h=>h)) (aR).rd (by(try simp only[List.length_append,List.length_cons,List.length_nil,av]);omega) (le (le (le (le (le g.size f) b.size) c.size) d.size) i.size) fun T df dg al H=>?_
 have U:=ax.blk H (aG (ci a lr B) ay) G
 refine aZ ⟨(aa U rfl),(aa U rfl),(aa U rfl)⟩ fun dh=>R0 9 rfl<|cF (m:=3) (e:=22) #[.int .u16 ((M.recs.getD k ⟨0,0,0,[]⟩).file),.int .u16 ((M.recs.getD k ⟨0,0,0,[]⟩).record),.int .u16 ((M.recs.getD k ⟨0,0,0,[]⟩).count)] fun di dj c2 c3 I=>?_
 have c4:=dX c2 (xs:=[(M.recs.getD k ⟨0,0,0,[]⟩).file,(M.recs.getD k ⟨0,0,0,[]⟩).record,(M.recs.getD k ⟨0,0,0,[]⟩).count]) (by as_aux_lemma=>kernel_rfl) (am (by omega) (am (by omega) (am (by omega) aM))) (by(try simp only[List.length_cons,List.length_nil]);omega) c3
 have V:=ub I U
 refine aZ ⟨(aa V rfl),(aa V rfl),(aa V rfl)⟩ fun dk=>R0 10 rfl<|Oc<|dE (bg (xs:=[(M.recs.getD k ⟨0,0,0,[]⟩).file,(M.recs.getD k ⟨0,0,0,[]⟩).record,(M.recs.getD k ⟨0,0,0,[]⟩).count]) (c4).rd (by(try simp only[List.length_cons,List.length_nil]);omega)) fun dl dm dn c5 dp dq J=>?_
 have N:=ub J V
 refine aZ ⟨(aa N rfl),(aa N rfl),(aa N rfl)⟩ fun dr=>?_
 have aT:=aE I J
 have aU:=aj al aT (fun x hx=>ay) (fun _ _ h=>h)
 refine R0 11 rfl<|cj aX (xs:=(L++[6])) (ys:=(aP ([(M.recs.getD k ⟨0,0,0,[]⟩).file,(M.recs.getD k ⟨0,0,0,[]⟩).record,(M.recs.getD k ⟨0,0,0,[]⟩).count]))) (.int .u8 0) 1 aU (c5).rd (by(try simp only[List.length_append,List.length_cons,List.length_nil,av]);omega) (le (le (le (le (le (le (le (le g.size f) b.size) c.size) d.size) i.size) H.size) I.size) J.size) fun aW ds dt aY W=>?_
 have X:=ax.blk W (aG (bu N aU (by decide)) ay) N
 refine aZ ⟨(aa X rfl),(aa X rfl),(aa X rfl)⟩ fun c6=>Rt 12 c6<|re<|bn<|tn<|go<|Pl 2<|L0<|aN X 3<|?_
 have b0:=ut (ax.mono (S':=(ob A++(ob T++[]))) aS aq) (ut (ax.mono (S':=(ob A++(ob T++[]))) H (ag il aq)) (ut (ax.mono (S':=(ob T++[])) aT aq) W (ag il aq)) (ag il aq)) (ag il (ag il aq))
 refine L0<|Oc<|dE (bg (xs:=(M.recs.getD k ⟨0,0,0,[]⟩).words) (dB.old Q (ut R b0 (ag (aI a l.size) (ag (aI al l.size) aq)))) (by(try simp only[List.length_cons,List.length_nil]);omega)) fun du dv dw c7 dx dy Y=>?_
 refine L0<|cj aX (xs:=((L++[6])++(aP ([(M.recs.getD k ⟨0,0,0,[]⟩).file,(M.recs.getD k ⟨0,0,0,[]⟩).record,(M.recs.getD k ⟨0,0,0,[]⟩).count])))) (ys:=(aP ((M.recs.getD k ⟨0,0,0,[]⟩).words))) (.int .u8 0) 1 (aj aY Y (fun x hx=>ay) (fun _ _ h=>h)) (c7).rd (by(try simp only[List.length_append,List.length_cons,List.length_nil,av]);omega) (le (le (le (le (le (le (le (le (le (le g.size f) b.size) c.size) d.size) i.size) H.size) I.size) J.size) W.size) Y.size) fun c8 c9 dz ca b1=>Pl 1<|nl<|bn<|tn<|go<|L0<|Oi (((k:Nat) : Int)+1)<|Pl 1<|nl<|?_
 exact er ((k+1),(((L++[6])++(aP ([(M.recs.getD k ⟨0,0,0,[]⟩).file,(M.recs.getD k ⟨0,0,0,[]⟩).record,(M.recs.getD k ⟨0,0,0,[]⟩).count])))++(aP ((M.recs.getD k ⟨0,0,0,[]⟩).words))),c8,c9) ⟨(ut C (ut (ax.mono (S':=(ob A++(ob T++(ob aW++[])))) b0 (ag il (ag il aq))) (ut (ax.mono (S':=(ob aW++[])) Y aq) b1 (ag il aq)) (ag il aq)) (ag (aI a lr) (ag (aI al lr) (ag (aI aY lr) aq)))),(le (le (le (le (le (le (le (le (le (le f b.size) c.size) d.size) i.size) H.size) I.size) J.size) W.size) Y.size) b1.size),ca,(by(try dsimp only);omega),(by(try dsimp only);rw[← hL,cZ dir M.code M.recs k (by omega)];simp only[kx,hd0,n,o,bs,if_true,if_false,decide_true,decide_false,List.append_assoc]),(by(try dsimp only);have hv:=hf.recw _ (de ⟨0,0,0,[]⟩ M.recs k (by omega));(try simp only[List.length_append,List.length_cons,List.length_nil,av]);omega),(by(try dsimp only);(try simp only[List.length_append,List.length_cons,List.length_nil]);omega)⟩ (by omega)
 refine  cF (m:=3) (e:=22) #[.int .u16 ((M.recs.getD k ⟨0,0,0,[]⟩).file),.int .u16 ((M.recs.getD k ⟨0,0,0,[]⟩).record),.int .u16 ((M.recs.getD k ⟨0,0,0,[]⟩).count)] fun dA dC cc cd q=>?_
 have b2:=dX cc (xs:=[(M.recs.getD k ⟨0,0,0,[]⟩).file,(M.recs.getD k ⟨0,0,0,[]⟩).record,(M.recs.getD k ⟨0,0,0,[]⟩).count]) (by as_aux_lemma=>kernel_rfl) (am (by omega) (am (by omega) (am (by omega) aM))) (by(try simp only[List.length_cons,List.length_nil]);omega) cd
 have Z:=ub q G
 refine aZ ⟨(aa Z rfl),(aa Z rfl),(aa Z rfl)⟩ fun dD=>?_
 have b3:=aE d (aE i q)
 refine R0 2 rfl<|cj aX (xs:=L) (ys:=([6])) (.int .u8 0) 1 (aj a (aE s b3) (fun x hx=>ay) (fun _ _ h=>h)) ((aj aR q (fun x hx=>ay) (fun _ _ h=>h))).rd (by(try simp only[List.length_append,List.length_cons,List.length_nil,av]);omega) (le (le (le (le (le (le g.size f) b.size) c.size) d.size) i.size) q.size) fun a0 dF dG an t=>?_
 have a1:=ax.blk t (aG (ci a lr B) ay) Z
 refine aZ ⟨(aa a1 rfl),(aa a1 rfl),(aa a1 rfl)⟩ fun dH=>?_
 refine R0 10 rfl<|Oc<|dE (bg (xs:=[(M.recs.getD k ⟨0,0,0,[]⟩).file,(M.recs.getD k ⟨0,0,0,[]⟩).record,(M.recs.getD k ⟨0,0,0,[]⟩).count]) ((aj b2 t (fun x hx=>(aG ((fQ b2 a (le (le (le b.size c.size) d.size) i.size)) x hx) ay)) (fun _ _ h=>h))).rd (by(try simp only[List.length_cons,List.length_nil]);omega)) fun dI dJ dK cf dL dM u=>?_
 have O:=ub u a1
 refine aZ ⟨(aa O rfl),(aa O rfl),(aa O rfl)⟩ fun dN=>?_
 have b4:=aj an u (fun x hx=>ay) (fun _ _ h=>h)
 refine R0 11 rfl<|cj aX (xs:=(L++[6])) (ys:=(aP ([(M.recs.getD k ⟨0,0,0,[]⟩).file,(M.recs.getD k ⟨0,0,0,[]⟩).record,(M.recs.getD k ⟨0,0,0,[]⟩).count]))) (.int .u8 0) 1 b4 (cf).rd (by(try simp only[List.length_append,List.length_cons,List.length_nil,av]);omega) (le (le (le (le (le (le (le (le g.size f) b.size) c.size) d.size) i.size) q.size) t.size) u.size) fun b5 dO dP b6 a2=>?_
 have a3:=ax.blk a2 (aG (bu O b4 (by decide)) ay) O
 refine aZ ⟨(aa a3 rfl),(aa a3 rfl),(aa a3 rfl)⟩ fun cg=>Rt 12 cg<|re<|bn<|tn<|go<|Pl 2<|L0<|aN a3 3<|?_
 have b7:=ut (ax.mono (S':=(ob A++(ob a0++[]))) b3 aq) (ut (ax.mono (S':=(ob A++(ob a0++[]))) t (ag il aq)) (ut (ax.mono (S':=(ob a0++[])) u aq) a2 (ag il aq)) (ag il aq)) (ag il (ag il aq))
 refine L0<|Oc<|dE (bg (xs:=(M.recs.getD k ⟨0,0,0,[]⟩).words) (dB.old Q (ut R b7 (ag (aI a l.size) (ag (aI an l.size) aq)))) (by(try simp only[List.length_cons,List.length_nil]);omega)) fun dQ dR dS ch dT dU a4=>?_
 refine L0<|cj aX (xs:=((L++[6])++(aP ([(M.recs.getD k ⟨0,0,0,[]⟩).file,(M.recs.getD k ⟨0,0,0,[]⟩).record,(M.recs.getD k ⟨0,0,0,[]⟩).count])))) (ys:=(aP ((M.recs.getD k ⟨0,0,0,[]⟩).words))) (.int .u8 0) 1 (aj b6 a4 (fun x hx=>ay) (fun _ _ h=>h)) (ch).rd (by(try simp only[List.length_append,List.length_cons,List.length_nil,av]);omega) (le (le (le (le (le (le (le (le (le (le g.size f) b.size) c.size) d.size) i.size) q.size) t.size) u.size) a2.size) a4.size) fun ck cl dV cm b8=>Pl 1<|nl<|bn<|tn<|go<|L0<|Oi (((k:Nat) : Int)+1)<|Pl 1<|nl<|?_
 exact er ((k+1),(((L++[6])++(aP ([(M.recs.getD k ⟨0,0,0,[]⟩).file,(M.recs.getD k ⟨0,0,0,[]⟩).record,(M.recs.getD k ⟨0,0,0,[]⟩).count])))++(aP ((M.recs.getD k ⟨0,0,0,[]⟩).words))),ck,cl) ⟨(ut C (ut (ax.mono (S':=(ob A++(ob a0++(ob b5++[])))) b7 (ag il (ag il aq))) (ut (ax.mono (S':=(ob b5++[])) a4 aq) b8 (ag il aq)) (ag il aq)) (ag (aI a lr) (ag (aI an lr) (ag (aI b6 lr) aq)))),(le (le (le (le (le (le (le (le (le (le f b.size) c.size) d.size) i.size) q.size) t.size) u.size) a2.size) a4.size) b8.size),cm,(by(try dsimp only);omega),(by(try dsimp only);rw[← hL,cZ dir M.code M.recs k (by omega)];simp only[kx,hd0,n,o,bs,if_true,if_false,decide_true,decide_false,List.append_assoc]),(by(try dsimp only);have hv:=hf.recw _ (de ⟨0,0,0,[]⟩ M.recs k (by omega));(try simp only[List.length_append,List.length_cons,List.length_nil,av]);omega),(by(try dsimp only);(try simp only[List.length_append,List.length_cons,List.length_nil]);omega)⟩ (by omega)
 refine  cF (m:=3) (e:=22) #[.int .u16 ((M.recs.getD k ⟨0,0,0,[]⟩).file),.int .u16 ((M.recs.getD k ⟨0,0,0,[]⟩).record),.int .u16 ((M.recs.getD k ⟨0,0,0,[]⟩).count)] fun dW dY cn cq v=>?_
 have b9:=dX cn (xs:=[(M.recs.getD k ⟨0,0,0,[]⟩).file,(M.recs.getD k ⟨0,0,0,[]⟩).record,(M.recs.getD k ⟨0,0,0,[]⟩).count]) (by as_aux_lemma=>kernel_rfl) (am (by omega) (am (by omega) (am (by omega) aM))) (by(try simp only[List.length_cons,List.length_nil]);omega) cq
 have a5:=ub v F
 refine aZ ⟨(aa a5 rfl),(aa a5 rfl),(aa a5 rfl)⟩ fun dZ=>R0 1 rfl<|cF (m:=1) (e:=5) #[.int .u8 6] fun e0 e1 cr ct r=>?_
 have cw:=cP cr (xs:=[6]) (by as_aux_lemma=>kernel_rfl) (am (by omega) aM) (by(try simp only[List.length_cons,List.length_nil]);omega) ct
 have a6:=ub r a5
 refine aZ ⟨(aa a6 rfl),(aa a6 rfl),(aa a6 rfl)⟩ fun e2=>?_
 have ba:=aE d (aE v r)
 refine R0 2 rfl<|cj aX (xs:=L) (ys:=([6])) (.int .u8 0) 1 (aj a (aE s ba) (fun x hx=>ay) (fun _ _ h=>h)) (cw).rd (by(try simp only[List.length_append,List.length_cons,List.length_nil,av]);omega) (le (le (le (le (le (le g.size f) b.size) c.size) d.size) v.size) r.size) fun a7 e3 e4 ao y=>?_
 have a8:=ax.blk y (aG (ci a lr B) ay) a6
 refine aZ ⟨(aa a8 rfl),(aa a8 rfl),(aa a8 rfl)⟩ fun e5=>?_
 refine R0 10 rfl<|Oc<|dE (bg (xs:=[(M.recs.getD k ⟨0,0,0,[]⟩).file,(M.recs.getD k ⟨0,0,0,[]⟩).record,(M.recs.getD k ⟨0,0,0,[]⟩).count]) ((aj b9 (ut (ax.mono (S':=(ob A++[])) r aq) y (ag il aq)) (fun x hx=>(aG ((fQ b9 a (le (le b.size c.size) d.size)) x hx) ay)) (fun _ _ h=>h))).rd (by(try simp only[List.length_cons,List.length_nil]);omega)) fun e6 e7 e8 cx e9 ea z=>?_
 have P:=ub z a8
 refine aZ ⟨(aa P rfl),(aa P rfl),(aa P rfl)⟩ fun eb=>?_
 have bb:=aj ao z (fun x hx=>ay) (fun _ _ h=>h)
 refine R0 11 rfl<|cj aX (xs:=(L++[6])) (ys:=(aP ([(M.recs.getD k ⟨0,0,0,[]⟩).file,(M.recs.getD k ⟨0,0,0,[]⟩).record,(M.recs.getD k ⟨0,0,0,[]⟩).count]))) (.int .u8 0) 1 bb (cx).rd (by(try simp only[List.length_append,List.length_cons,List.length_nil,av]);omega) (le (le (le (le (le (le (le (le g.size f) b.size) c.size) d.size) v.size) r.size) y.size) z.size) fun bc ec ed bd a9=>?_
 have ab:=ax.blk a9 (aG (bu P bb (by decide)) ay) P
 refine aZ ⟨(aa ab rfl),(aa ab rfl),(aa ab rfl)⟩ fun cA=>Rt 12 cA<|re<|bn<|tn<|go<|Pl 2<|L0<|aN ab 3<|?_
 have be:=ut (ax.mono (S':=(ob A++(ob a7++[]))) ba aq) (ut (ax.mono (S':=(ob A++(ob a7++[]))) y (ag il aq)) (ut (ax.mono (S':=(ob a7++[])) z aq) a9 (ag il aq)) (ag il aq)) (ag il (ag il aq))
 refine L0<|Oc<|dE (bg (xs:=(M.recs.getD k ⟨0,0,0,[]⟩).words) (dB.old Q (ut R be (ag (aI a l.size) (ag (aI ao l.size) aq)))) (by(try simp only[List.length_cons,List.length_nil]);omega)) fun ee ef eg cB eh ei ac=>?_
 refine L0<|cj aX (xs:=((L++[6])++(aP ([(M.recs.getD k ⟨0,0,0,[]⟩).file,(M.recs.getD k ⟨0,0,0,[]⟩).record,(M.recs.getD k ⟨0,0,0,[]⟩).count])))) (ys:=(aP ((M.recs.getD k ⟨0,0,0,[]⟩).words))) (.int .u8 0) 1 (aj bd ac (fun x hx=>ay) (fun _ _ h=>h)) (cB).rd (by(try simp only[List.length_append,List.length_cons,List.length_nil,av]);omega) (le (le (le (le (le (le (le (le (le (le g.size f) b.size) c.size) d.size) v.size) r.size) y.size) z.size) a9.size) ac.size) fun cC cD ej cE bh=>Pl 1<|nl<|bn<|tn<|go<|L0<|Oi (((k:Nat) : Int)+1)<|Pl 1<|nl<|?_
 exact er ((k+1),(((L++[6])++(aP ([(M.recs.getD k ⟨0,0,0,[]⟩).file,(M.recs.getD k ⟨0,0,0,[]⟩).record,(M.recs.getD k ⟨0,0,0,[]⟩).count])))++(aP ((M.recs.getD k ⟨0,0,0,[]⟩).words))),cC,cD) ⟨(ut C (ut (ax.mono (S':=(ob A++(ob a7++(ob bc++[])))) be (ag il (ag il aq))) (ut (ax.mono (S':=(ob bc++[])) ac aq) bh (ag il aq)) (ag il aq)) (ag (aI a lr) (ag (aI ao lr) (ag (aI bd lr) aq)))),(le (le (le (le (le (le (le (le (le (le f b.size) c.size) d.size) v.size) r.size) y.size) z.size) a9.size) ac.size) bh.size),cE,(by(try dsimp only);omega),(by(try dsimp only);rw[← hL,cZ dir M.code M.recs k (by omega)];simp only[kx,hd0,n,o,bs,if_true,if_false,decide_true,decide_false,List.append_assoc]),(by(try dsimp only);have hv:=hf.recw _ (de ⟨0,0,0,[]⟩ M.recs k (by omega));(try simp only[List.length_append,List.length_cons,List.length_nil,av]);omega),(by(try dsimp only);(try simp only[List.length_append,List.length_cons,List.length_nil]);omega)⟩ (by omega)
 have bN:=of_decide_eq_false n
 refine xt<|tx<|tx<|bx<|tn<|sg<|Pl 3<|L0<|Oi (((L.length:Nat) : Int)-1)<|Pl 1<|gX (aQ.at_ (a).rd 0 (by omega)) fun ek el bi em eo=>L0<|oU L.length 0 bi (by omega)<|L0<|zF aX (j:=0) a bi (by omega) ((((L.length:Nat) : Int)-1)%256) (fun _=>⟨rfl,by omega⟩) fun ep cG cH=>nl<|?_
 refine tn<|sg<|Pl 2<|nt<|rt<|rr (.slice A L.length cp)<|?_
 have hk:k=M.recs.length:=by omega
 rw[hk,List.drop_length] at hL
 have hL2:[0]++co dir M.code M.recs=L:=by rw[← hL];simp[co]
 have hs:cv dir M=(L.set 0 ((((L.length:Nat) : Int)-1)%256)):=by unfold cv;rw[hL2]
 rw[hs]
 exact⟨_,rfl,(aJ.weaken cG l.size),(ut ae cH (ag (aI a l.size) aq))⟩
theorem sS{m:Bool}{cs:Array Value}{M:aV}{w:World}{dir:Int}(h:aF m w cs.toList M)(hf:bp M) : Calls Tryz.prog 97 #[.int .i64 dir,.agg cs] w (i9 (cv dir M) w):=by
  rcases di (dir==0) with h0|h0
  · exact nM h hf h0
  · exact nE h hf h0
open Go.RowKit
theorem iR{parse:Int→Int→List Int→aV × Int}{lay:Int→aV→List Int}{dir E:Int}{M X:aV}(hX:parse dir M.code (lay dir M)=(X,E))(hE:(E != 0)=true) : cc parse lay dir M=none:=by
  unfold cc
  rw[hX,if_neg]
  intro h
  injection h with h1 h2
  rw[h2] at hE
  cases hE
theorem iI{parse:Int→Int→List Int→aV × Int}{lay:Int→aV→List Int}{dir E:Int}{M X:aV}(hX:parse dir M.code (lay dir M)=(X,E))(hE:decide (X=M)=false) : cc parse lay dir M=none:=by
  unfold cc
  rw[hX,if_neg]
  intro h
  injection h with h1 h2
  rw[h1] at hE
  simp at hE
theorem nR{parse:Int→Int→List Int→aV × Int}{lay:Int→aV→List Int}{dir E:Int}{M X:aV}(hX:parse dir M.code (lay dir M)=(X,E))(hE:(E != 0)=false)(h:decide (X=M)=true) : cc parse lay dir M=some (lay dir M):=by
  unfold cc
  have h1:X=M:=by simpa using h
  have h2:E=0:=by simpa using hE
  rw[hX,h1,h2,if_pos rfl]
theorem eW{x y:Option (List Int)}(h:x=y){w:World}{e:Ending}{w':World}(k:ef y w e w') : ef x w e w':=by rw[h];exact k
theorem jr{m:Bool}{cs:Array Value}{M:aV}{w:World}{dir:Int}(h:aF m w cs.toList M)(hf:bp M)(hlen:(bF dir M).length≤1048576) : Calls Tryz.prog 59 #[.int .i64 dir,.agg cs] w (ef (cc eT bF dir M) w):=by
 have hM:=h
 obtain⟨vw,vb,vd,vr,vo,h0,hw,hbt,hd,hr,ho,hR⟩:=h
 obtain rfl:cs=(bt M vw vb vd vr vo).toArray:=by apply Array.toList_inj.1;simpa using h0
 clear h0
 obtain⟨Aw,kw,rfl,_,_⟩:=hw.shape
 obtain⟨Ab,kb,rfl,_,_⟩:=hbt.shape
 obtain⟨Ad,kd,rfl,_,_⟩:=hd.shape
 obtain⟨Ar,kr,rfl,_,_⟩:=hr.shape
 obtain⟨Ao,ko,rfl,_,_⟩:=ho.shape
 obtain⟨q0,q1,q2,q3,q4,q5,q6,q7,q8,q9,y,z,C,D,E,F,G⟩:=hR
 simp only[B8,db] at q0 q1 q2 q3 q4 q5 q6 q7 q8 q9 y z C D E F G
 refine en 29 Tryz.func59 rfl<|sg<|L0<|cz (mG M.code M.fail M.addr M.count M.value M.and_ M.or_ M.addr2 M.sub M.status M.events M.messages (.slice Aw M.words.length kw) (.slice Ab M.bits.length kb) (.slice Ad M.data.length kd) (.slice Ar M.recs.length kr) M.mei M.kind M.level M.more M.next (.slice Ao M.objects.length ko)) fun V W X k g=>Pl 2<|ng<|Pl 1<|L0<|bZ k<|?_
 have l:=aF.old hM g
 refine L0<|Oc<|dE (sC (dir:=dir) l hf) fun H I J n Y Z o=>Pl 1<|ng<|Pl 2<|?_
 have p:=ub o k
 refine L0<|aN p 0<|Pl 1<|?_
 refine pr (eT dir M.code (bF dir M)) fun e K f=>?_
 have q:Calls _ _ _ _ (dl (eT dir M.code (bF dir M)) J):=ju (dir:=dir) (c:=M.code) q0 (n).rd hlen
 rw[f] at q
 refine L0<|Oc<|e2 (q) fun L a0 a N=>Pl 3<|L0<|bI mZ fun a1 a2 O P Q=>L0<|bf (hz:=(by rw[a.size];exact aT)) (hv:=a.size) (h1:=a.one) P (L) fun a3 R S=>Pl 1<|nt<|sq<|sg<|Pl 3<|?_
 have r:=ud Q S O
 have i:=aE N r
 have s:=aE o i
 have t:=aE g s
 refine bl 22 ((K != 0)) (fun b=>?_) (fun b=>?_)
 have T:=aA b
 refine Pl 5<|nt<|c1<|sg<|Pl 2<|nt<|rt<|tr<|rr (.tuple #[.slice none 0 0,.int .i64 1])<|?_
 refine eW (iR f b) ?_
 exact⟨rfl,t⟩
 have T:=ai b
 refine L1<|bZ (hz:=(by rw[a.size];exact aT)) R<|?_
 refine L1<|bZ (ub i p)<|?_
 refine L1<|Oc<|m1 (fz (A:=e) (B:=M) (aF.upd a r aD) (aF.old l s)) fun a4 u=>Pl 2<|nt<|?_
 have v:=aE t u
 refine cb ((!(decide (e=M)))) (fun j=>?_) (fun j=>?_)
 have d:(decide (e=M))=false:=by simpa using j
 have U:=of_decide_eq_false d
 refine sg<|Pl 2<|nt<|rt<|tr<|rr (.tuple #[.slice none 0 0,.int .i64 1])<|?_
 refine eW (iI f d) ?_
 exact⟨rfl,v⟩
 have d:(decide (e=M))=true:=by simpa using j
 have U:=of_decide_eq_true d
 refine bG<|sg<|Pl 3<|nt<|rt<|rr (.tuple #[.slice H ((bF dir M).length) I,.int .i64 0])<|?_
 refine eW (nR f b d) ?_
 exact⟨_,rfl,(aJ.weaken (aj n (aE i u) (fun x hx=>ay) (fun _ _ h=>h)) g.size),v⟩
theorem kk{m:Bool}{cs:Array Value}{M:aV}{w:World}{dir:Int}(h:aF m w cs.toList M)(hf:bp M)(hlen:(bB dir M).length≤1048576) : Calls Tryz.prog 61 #[.int .i64 dir,.agg cs] w (ef (cc fL bB dir M) w):=by
 have hM:=h
 obtain⟨vw,vb,vd,vr,vo,h0,hw,hbt,hd,hr,ho,hR⟩:=h
 obtain rfl:cs=(bt M vw vb vd vr vo).toArray:=by apply Array.toList_inj.1;simpa using h0
 clear h0
 obtain⟨Aw,kw,rfl,_,_⟩:=hw.shape
 obtain⟨Ab,kb,rfl,_,_⟩:=hbt.shape
 obtain⟨Ad,kd,rfl,_,_⟩:=hd.shape
 obtain⟨Ar,kr,rfl,_,_⟩:=hr.shape
 obtain⟨Ao,ko,rfl,_,_⟩:=ho.shape
 obtain⟨q0,q1,q2,q3,q4,q5,q6,q7,q8,q9,y,z,C,D,E,F,G⟩:=hR
 simp only[B8,db] at q0 q1 q2 q3 q4 q5 q6 q7 q8 q9 y z C D E F G
 refine en 29 Tryz.func61 rfl<|sg<|L0<|cz (mG M.code M.fail M.addr M.count M.value M.and_ M.or_ M.addr2 M.sub M.status M.events M.messages (.slice Aw M.words.length kw) (.slice Ab M.bits.length kb) (.slice Ad M.data.length kd) (.slice Ar M.recs.length kr) M.mei M.kind M.level M.more M.next (.slice Ao M.objects.length ko)) fun V W X k g=>Pl 2<|ng<|Pl 1<|L0<|bZ k<|?_
 have l:=aF.old hM g
 refine L0<|Oc<|dE (vp (dir:=dir) l hf) fun H I J n Y Z o=>Pl 1<|ng<|Pl 2<|?_
 have p:=ub o k
 refine L0<|aN p 0<|Pl 1<|?_
 refine pr (fL dir M.code (bB dir M)) fun e K f=>?_
 have q:Calls _ _ _ _ (dl (fL dir M.code (bB dir M)) J):=kv (dir:=dir) (c:=M.code) q0 (n).rd hlen
 rw[f] at q
 refine L0<|Oc<|e2 (q) fun L a0 a N=>Pl 3<|L0<|bI mZ fun a1 a2 O P Q=>L0<|bf (hz:=(by rw[a.size];exact aT)) (hv:=a.size) (h1:=a.one) P (L) fun a3 R S=>Pl 1<|nt<|sq<|sg<|Pl 3<|?_
 have r:=ud Q S O
 have i:=aE N r
 have s:=aE o i
 have t:=aE g s
 refine bl 22 ((K != 0)) (fun b=>?_) (fun b=>?_)
 have T:=aA b
 refine Pl 5<|nt<|c1<|sg<|Pl 2<|nt<|rt<|tr<|rr (.tuple #[.slice none 0 0,.int .i64 1])<|?_
 refine eW (iR f b) ?_
 exact⟨rfl,t⟩
 have T:=ai b
 refine L1<|bZ (hz:=(by rw[a.size];exact aT)) R<|?_
 refine L1<|bZ (ub i p)<|?_
 refine L1<|Oc<|m1 (fz (A:=e) (B:=M) (aF.upd a r aD) (aF.old l s)) fun a4 u=>Pl 2<|nt<|?_
 have v:=aE t u
 refine cb ((!(decide (e=M)))) (fun j=>?_) (fun j=>?_)
 have d:(decide (e=M))=false:=by simpa using j
 have U:=of_decide_eq_false d
 refine sg<|Pl 2<|nt<|rt<|tr<|rr (.tuple #[.slice none 0 0,.int .i64 1])<|?_
 refine eW (iI f d) ?_
 exact⟨rfl,v⟩
 have d:(decide (e=M))=true:=by simpa using j
 have U:=of_decide_eq_true d
 refine bG<|sg<|Pl 3<|nt<|rt<|rr (.tuple #[.slice H ((bB dir M).length) I,.int .i64 0])<|?_
 refine eW (nR f b d) ?_
 exact⟨_,rfl,(aJ.weaken (aj n (aE i u) (fun x hx=>ay) (fun _ _ h=>h)) g.size),v⟩
theorem kp{m:Bool}{cs:Array Value}{M:aV}{w:World}{dir:Int}(h:aF m w cs.toList M)(hf:bp M)(hlen:(bJ dir M).length≤1048576) : Calls Tryz.prog 63 #[.int .i64 dir,.agg cs] w (ef (cc fv bJ dir M) w):=by
 have hM:=h
 obtain⟨vw,vb,vd,vr,vo,h0,hw,hbt,hd,hr,ho,hR⟩:=h
 obtain rfl:cs=(bt M vw vb vd vr vo).toArray:=by apply Array.toList_inj.1;simpa using h0
 clear h0
 obtain⟨Aw,kw,rfl,_,_⟩:=hw.shape
 obtain⟨Ab,kb,rfl,_,_⟩:=hbt.shape
 obtain⟨Ad,kd,rfl,_,_⟩:=hd.shape
 obtain⟨Ar,kr,rfl,_,_⟩:=hr.shape
 obtain⟨Ao,ko,rfl,_,_⟩:=ho.shape
 obtain⟨q0,q1,q2,q3,q4,q5,q6,q7,q8,q9,y,z,C,D,E,F,G⟩:=hR
 simp only[B8,db] at q0 q1 q2 q3 q4 q5 q6 q7 q8 q9 y z C D E F G
 refine en 29 Tryz.func63 rfl<|sg<|L0<|cz (mG M.code M.fail M.addr M.count M.value M.and_ M.or_ M.addr2 M.sub M.status M.events M.messages (.slice Aw M.words.length kw) (.slice Ab M.bits.length kb) (.slice Ad M.data.length kd) (.slice Ar M.recs.length kr) M.mei M.kind M.level M.more M.next (.slice Ao M.objects.length ko)) fun V W X k g=>Pl 2<|ng<|Pl 1<|L0<|bZ k<|?_
 have l:=aF.old hM g
 refine L0<|Oc<|dE (uT (dir:=dir) l hf) fun H I J n Y Z o=>Pl 1<|ng<|Pl 2<|?_
 have p:=ub o k
 refine L0<|aN p 0<|Pl 1<|?_
 refine pr (fv dir M.code (bJ dir M)) fun e K f=>?_
 have q:Calls _ _ _ _ (dl (fv dir M.code (bJ dir M)) J):=ki (dir:=dir) (c:=M.code) q0 (n).rd hlen
 rw[f] at q
 refine L0<|Oc<|e2 (q) fun L a0 a N=>Pl 3<|L0<|bI mZ fun a1 a2 O P Q=>L0<|bf (hz:=(by rw[a.size];exact aT)) (hv:=a.size) (h1:=a.one) P (L) fun a3 R S=>Pl 1<|nt<|sq<|sg<|Pl 3<|?_
 have r:=ud Q S O
 have i:=aE N r
 have s:=aE o i
 have t:=aE g s
 refine bl 22 ((K != 0)) (fun b=>?_) (fun b=>?_)
 have T:=aA b
 refine Pl 5<|nt<|c1<|sg<|Pl 2<|nt<|rt<|tr<|rr (.tuple #[.slice none 0 0,.int .i64 1])<|?_
 refine eW (iR f b) ?_
 exact⟨rfl,t⟩
 have T:=ai b
 refine L1<|bZ (hz:=(by rw[a.size];exact aT)) R<|?_
 refine L1<|bZ (ub i p)<|?_
 refine L1<|Oc<|m1 (fz (A:=e) (B:=M) (aF.upd a r aD) (aF.old l s)) fun a4 u=>Pl 2<|nt<|?_
 have v:=aE t u
 refine cb ((!(decide (e=M)))) (fun j=>?_) (fun j=>?_)
 have d:(decide (e=M))=false:=by simpa using j
 have U:=of_decide_eq_false d
 refine sg<|Pl 2<|nt<|rt<|tr<|rr (.tuple #[.slice none 0 0,.int .i64 1])<|?_
 refine eW (iI f d) ?_
 exact⟨rfl,v⟩
 have d:(decide (e=M))=true:=by simpa using j
 have U:=of_decide_eq_true d
 refine bG<|sg<|Pl 3<|nt<|rt<|rr (.tuple #[.slice H ((bJ dir M).length) I,.int .i64 0])<|?_
 refine eW (nR f b d) ?_
 exact⟨_,rfl,(aJ.weaken (aj n (aE i u) (fun x hx=>ay) (fun _ _ h=>h)) g.size),v⟩
theorem lh{m:Bool}{cs:Array Value}{M:aV}{w:World}{dir:Int}(h:aF m w cs.toList M)(hf:bp M)(hlen:(cW dir M).length≤1048576) : Calls Tryz.prog 67 #[.int .i64 dir,.agg cs] w (ef (cc gt cW dir M) w):=by
 have hM:=h
 obtain⟨vw,vb,vd,vr,vo,h0,hw,hbt,hd,hr,ho,hR⟩:=h
 obtain rfl:cs=(bt M vw vb vd vr vo).toArray:=by apply Array.toList_inj.1;simpa using h0
 clear h0
 obtain⟨Aw,kw,rfl,_,_⟩:=hw.shape
 obtain⟨Ab,kb,rfl,_,_⟩:=hbt.shape
 obtain⟨Ad,kd,rfl,_,_⟩:=hd.shape
 obtain⟨Ar,kr,rfl,_,_⟩:=hr.shape
 obtain⟨Ao,ko,rfl,_,_⟩:=ho.shape
 obtain⟨q0,q1,q2,q3,q4,q5,q6,q7,q8,q9,y,z,C,D,E,F,G⟩:=hR
 simp only[B8,db] at q0 q1 q2 q3 q4 q5 q6 q7 q8 q9 y z C D E F G
 refine en 29 Tryz.func67 rfl<|sg<|L0<|cz (mG M.code M.fail M.addr M.count M.value M.and_ M.or_ M.addr2 M.sub M.status M.events M.messages (.slice Aw M.words.length kw) (.slice Ab M.bits.length kb) (.slice Ad M.data.length kd) (.slice Ar M.recs.length kr) M.mei M.kind M.level M.more M.next (.slice Ao M.objects.length ko)) fun V W X k g=>Pl 2<|ng<|Pl 1<|L0<|bZ k<|?_
 have l:=aF.old hM g
 refine L0<|Oc<|dE (xj (dir:=dir) l hf) fun H I J n Y Z o=>Pl 1<|ng<|Pl 2<|?_
 have p:=ub o k
 refine L0<|aN p 0<|Pl 1<|?_
 refine pr (gt dir M.code (cW dir M)) fun e K f=>?_
 have q:Calls _ _ _ _ (dl (gt dir M.code (cW dir M)) J):=lJ (dir:=dir) (c:=M.code) q0 (n).rd hlen
 rw[f] at q
 refine L0<|Oc<|e2 (q) fun L a0 a N=>Pl 3<|L0<|bI mZ fun a1 a2 O P Q=>L0<|bf (hz:=(by rw[a.size];exact aT)) (hv:=a.size) (h1:=a.one) P (L) fun a3 R S=>Pl 1<|nt<|sq<|sg<|Pl 3<|?_
 have r:=ud Q S O
 have i:=aE N r
 have s:=aE o i
 have t:=aE g s
 refine bl 22 ((K != 0)) (fun b=>?_) (fun b=>?_)
 have T:=aA b
 refine Pl 5<|nt<|c1<|sg<|Pl 2<|nt<|rt<|tr<|rr (.tuple #[.slice none 0 0,.int .i64 1])<|?_
 refine eW (iR f b) ?_
 exact⟨rfl,t⟩
 have T:=ai b
 refine L1<|bZ (hz:=(by rw[a.size];exact aT)) R<|?_
 refine L1<|bZ (ub i p)<|?_
 refine L1<|Oc<|m1 (fz (A:=e) (B:=M) (aF.upd a r aD) (aF.old l s)) fun a4 u=>Pl 2<|nt<|?_
 have v:=aE t u
 refine cb ((!(decide (e=M)))) (fun j=>?_) (fun j=>?_)
 have d:(decide (e=M))=false:=by simpa using j
 have U:=of_decide_eq_false d
 refine sg<|Pl 2<|nt<|rt<|tr<|rr (.tuple #[.slice none 0 0,.int .i64 1])<|?_
 refine eW (iI f d) ?_
 exact⟨rfl,v⟩
 have d:(decide (e=M))=true:=by simpa using j
 have U:=of_decide_eq_true d
 refine bG<|sg<|Pl 3<|nt<|rt<|rr (.tuple #[.slice H ((cW dir M).length) I,.int .i64 0])<|?_
 refine eW (nR f b d) ?_
 exact⟨_,rfl,(aJ.weaken (aj n (aE i u) (fun x hx=>ay) (fun _ _ h=>h)) g.size),v⟩
theorem jn{m:Bool}{cs:Array Value}{M:aV}{w:World}{dir:Int}(h:aF m w cs.toList M)(hf:bp M)(hlen:(cv dir M).length≤1048576) : Calls Tryz.prog 65 #[.int .i64 dir,.agg cs] w (ef (cc eX cv dir M) w):=by
 have hM:=h
 obtain⟨vw,vb,vd,vr,vo,h0,hw,hbt,hd,hr,ho,hR⟩:=h
 obtain rfl:cs=(bt M vw vb vd vr vo).toArray:=by apply Array.toList_inj.1;simpa using h0
 clear h0
 obtain⟨Aw,kw,rfl,_,_⟩:=hw.shape
 obtain⟨Ab,kb,rfl,_,_⟩:=hbt.shape
 obtain⟨Ad,kd,rfl,_,_⟩:=hd.shape
 obtain⟨Ar,kr,rfl,_,_⟩:=hr.shape
 obtain⟨Ao,ko,rfl,_,_⟩:=ho.shape
 obtain⟨q0,q1,q2,q3,q4,q5,q6,q7,q8,q9,y,z,C,D,E,F,G⟩:=hR
 simp only[B8,db] at q0 q1 q2 q3 q4 q5 q6 q7 q8 q9 y z C D E F G
 refine en 29 Tryz.func65 rfl<|sg<|L0<|cz (mG M.code M.fail M.addr M.count M.value M.and_ M.or_ M.addr2 M.sub M.status M.events M.messages (.slice Aw M.words.length kw) (.slice Ab M.bits.length kb) (.slice Ad M.data.length kd) (.slice Ar M.recs.length kr) M.mei M.kind M.level M.more M.next (.slice Ao M.objects.length ko)) fun V W X k g=>Pl 2<|ng<|Pl 1<|L0<|bZ k<|?_
 have l:=aF.old hM g
 refine L0<|Oc<|dE (sS (dir:=dir) l hf) fun H I J n Y Z o=>Pl 1<|ng<|Pl 2<|?_
 have p:=ub o k
 refine L0<|aN p 0<|Pl 1<|?_
 refine pr (eX dir M.code (cv dir M)) fun e K f=>?_
 have q:Calls _ _ _ _ (dl (eX dir M.code (cv dir M)) J):=jk (dir:=dir) (c:=M.code) q0 (n).rd hlen
 rw[f] at q
 refine L0<|Oc<|e2 (q) fun L a0 a N=>Pl 3<|L0<|bI mZ fun a1 a2 O P Q=>L0<|bf (hz:=(by rw[a.size];exact aT)) (hv:=a.size) (h1:=a.one) P (L) fun a3 R S=>Pl 1<|nt<|sq<|sg<|Pl 3<|?_
 have r:=ud Q S O
 have i:=aE N r
 have s:=aE o i
 have t:=aE g s
 refine bl 22 ((K != 0)) (fun b=>?_) (fun b=>?_)
 have T:=aA b
 refine Pl 5<|nt<|c1<|sg<|Pl 2<|nt<|rt<|tr<|rr (.tuple #[.slice none 0 0,.int .i64 1])<|?_
 refine eW (iR f b) ?_
 exact⟨rfl,t⟩
 have T:=ai b
 refine L1<|bZ (hz:=(by rw[a.size];exact aT)) R<|?_
 refine L1<|bZ (ub i p)<|?_
 refine L1<|Oc<|m1 (fz (A:=e) (B:=M) (aF.upd a r aD) (aF.old l s)) fun a4 u=>Pl 2<|nt<|?_
 have v:=aE t u
 refine cb ((!(decide (e=M)))) (fun j=>?_) (fun j=>?_)
 have d:(decide (e=M))=false:=by simpa using j
 have U:=of_decide_eq_false d
 refine sg<|Pl 2<|nt<|rt<|tr<|rr (.tuple #[.slice none 0 0,.int .i64 1])<|?_
 refine eW (iI f d) ?_
 exact⟨rfl,v⟩
 have d:(decide (e=M))=true:=by simpa using j
 have U:=of_decide_eq_true d
 refine bG<|sg<|Pl 3<|nt<|rt<|rr (.tuple #[.slice H ((cv dir M).length) I,.int .i64 0])<|?_
 refine eW (nR f b d) ?_
 exact⟨_,rfl,(aJ.weaken (aj n (aE i u) (fun x hx=>ay) (fun _ _ h=>h)) g.size),v⟩
open Go.RowKit
def ft:Nat→Int→aV→Option (List Int)
  | 1,dir,M=>cc eT bF dir M
  | 2,dir,M=>cc fL bB dir M
  | 3,dir,M=>cc fv bJ dir M
  | 4,dir,M=>cc eX cv dir M
  | 5,dir,M=>cc gt cW dir M
  | _,_,_=>none
def bY (dir:Int)(M:aV) : Option (List Int) :=
  if M.fail != 0 then (if dir != 1 then none else jz M)
  else match ft (iu M.code) dir M with
    | none=>none
    | some l=>if decide (253≤(l.length:Int)) then none else some ([M.code]++l)
theorem na:∀ (L:List Obj),(∀ r,r∈L→r.value.length≤1024)→(gW L).length≤1026*L.length
  | [],_=>by simp[gW]
  | r :: L,h=>by
    have h1:=h r (by simp)
    have h2:=na L fun x hx=>h x (by simp[hx])
    simp only[gW,List.length_append,List.length_cons,List.length_nil]
    omega
theorem kH(dir c:Int) : ∀ (L:List eq),(∀ r,r∈L→r.words.length≤1024)→(co dir c L).length≤2064*L.length
  | [],_=>by simp[co]
  | r :: L,h=>by
    have h1:=h r (by simp)
    have h2:=kH dir c L fun x hx=>h x (by simp[hx])
    simp only[co,kx]
    repeat' split
    all_goals simp only[List.length_append,List.length_cons,List.length_nil,av]
    all_goals omega
theorem eu{M:aV}(hf:bp M)(dir:Int) : (bF dir M).length≤1048576∧(bB dir M).length≤1048576∧(bJ dir M).length≤1048576∧(cW dir M).length≤1048576∧(cv dir M).length≤1048576:=by
  have hp:(ea M.bits).length≤1024:=by
    have:=hf.bits
    simp only[ea,List.length_map,List.length_range,dY]
    omega
  have h1:=hf.words
  have h2:=hf.data
  have h3:=hf.objects
  have h4:=na M.objects hf.objv
  have h5:=kH dir M.code M.recs hf.recw
  have h6:=hf.recs
  refine⟨?_,?_,?_,?_,?_⟩
  · unfold bF
    repeat' split
    all_goals simp only[List.length_append,List.length_cons,List.length_nil,av]
    all_goals omega
  · unfold bB
    repeat' split
    all_goals simp only[List.length_append,List.length_cons,List.length_nil,av]
    all_goals omega
  · unfold bJ
    repeat' split
    all_goals simp only[List.length_append,List.length_cons,List.length_nil,av]
    all_goals omega
  · unfold cW
    repeat' split
    all_goals simp only[List.length_append,List.length_cons,List.length_nil]
    all_goals omega
  · unfold cv
    simp only[List.length_set,List.length_append,List.length_cons,List.length_nil]
    omega
theorem ec{m:Bool}{cs:Array Value}{M:aV}{w:World}{dir:Int}(h:aF m w cs.toList M)(hf:bp M) : Calls Tryz.prog 40 #[.int .i64 dir,.agg cs] w (ef (bY dir M) w):=by
 have hM:=h
 obtain⟨vw,vb,vd,vr,vo,h0,hw,hbt,hd,hr,ho,hR⟩:=h
 obtain rfl:cs=(bt M vw vb vd vr vo).toArray:=by apply Array.toList_inj.1;simpa using h0
 clear h0
 obtain⟨Aw,kw,rfl,_,_⟩:=hw.shape
 obtain⟨Ab,kb,rfl,_,_⟩:=hbt.shape
 obtain⟨Ad,kd,rfl,_,_⟩:=hd.shape
 obtain⟨Ar,kr,rfl,_,_⟩:=hr.shape
 obtain⟨Ao,ko,rfl,_,_⟩:=ho.shape
 obtain⟨q0,q1,q2,q3,q4,q5,q6,q7,q8,q9,ak,al,c,an,ao,ap,ar⟩:=hR
 simp only[B8,db] at q0 q1 q2 q3 q4 q5 q6 q7 q8 q9 ak al c an ao ap ar
 refine en 47 Tryz.func40 rfl<|sg<|L0<|cz (mG M.code M.fail M.addr M.count M.value M.and_ M.or_ M.addr2 M.sub M.status M.events M.messages (.slice Aw M.words.length kw) (.slice Ab M.bits.length kb) (.slice Ad M.data.length kd) (.slice Ar M.recs.length kr) M.mei M.kind M.level M.more M.next (.slice Ao M.objects.length ko)) fun cl f cm d b=>Pl 2<|nt<|sq<|sg<|Pl 1<|L0<|aN d 1<|Pl 1<|nl<|?_
 refine tn<|cb ((M.fail != 0)) (fun a=>?_) (fun a=>?_)
 have au:=aA a
 refine sq<|sg<|Pl 2<|nt<|cb ((dir != 1)) (fun c=>?_) (fun c=>?_)
 have aw:=aA c
 refine sg<|Pl 2<|nt<|rt<|tr<|tr<|rr (.tuple #[.slice none 0 0,.int .i64 1])<|?_
 have hs:bY dir M=none:=by
   unfold bY
   (try simp only[a,c,bs,if_true,if_false,decide_true,decide_false,reduceIte])
   all_goals rfl
 refine cV hs ?_
 exact⟨rfl,b⟩
 have aw:=ai c
 refine bG<|sg<|L0<|bZ d<|?_
 rcases hwr:jz M with _|lw
 have E:=lV (aF.old hM b)
 rw[hwr] at E
 refine L0<|Oc<|m1 E fun cn ax=>Pl 4<|nt<|rt<|tr<|rr (.tuple #[.slice none 0 0,.int .i64 1])<|?_
 have hs:bY dir M=none:=by
   unfold bY
   (try simp only[a,c,bs,if_true,if_false,decide_true,decide_false,hwr,reduceIte])
   all_goals rfl
 refine cV hs ?_
 exact⟨rfl,(aE b ax)⟩
 have F:=lV (aF.old hM b)
 rw[hwr] at F
 refine L0<|Oc<|dE F fun az aB co aC cp cq aD=>Pl 4<|nt<|rt<|tr<|rr (.tuple #[.slice az lw.length aB,.int .i64 0])<|?_
 have hs:bY dir M=(some lw):=by
   unfold bY
   (try simp only[a,c,bs,if_true,if_false,decide_true,decide_false,hwr,reduceIte])
   all_goals rfl
 refine cV hs ?_
 exact⟨_,rfl,(aJ.weaken aC b.size),(aE b aD)⟩
 have au:=ai a
 refine bG<|sg<|Pl 1<|L0<|aN d 0<|?_
 rcases j0 M.code with⟨hk,hkf⟩|⟨hk,hkf⟩|⟨hk,hkf⟩|⟨hk,hkf⟩|⟨hk,hkf⟩|⟨hk,hkf⟩
 have G:=eA (x:=M.code) (w:=f)
 rw[hkf] at G
 refine L0<|Oc<|m1 G fun cr aG=>Pl 3<|L0<|bI #[.nilFunc,.nilFunc] fun ct cu aH aK aL=>L0<|bf aK #[.func (.func 58) #[] #[],.func (.func 59) #[] #[]] fun cw aO aP=>Pl 1<|nt<|sq<|sg<|Pl 2<|nt<|c0<|?_
 refine bG<|sg<|Pl 1<|L0<|aN aO 1<|Pl 1<|?_
 have H:=aE aG (ud aL aP aH)
 have I:=ub H d
 refine L0<|bZ I<|?_
 have n:=aE b H
 rcases hwr:cc eT bF dir M with _|lw
 have J:=jr (dir:=dir) (aF.old hM n) hf (eu hf dir).1
 rw[hwr] at J
 refine L0<|fb #[] #[] (args:=#[.int .i64 dir,.agg (mG M.code M.fail M.addr M.count M.value M.and_ M.or_ M.addr2 M.sub M.status M.events M.messages (.slice Aw M.words.length kw) (.slice Ab M.bits.length kb) (.slice Ad M.data.length kd) (.slice Ar M.recs.length kr) M.mei M.kind M.level M.more M.next (.slice Ao M.objects.length ko))])<|m1 J fun cx aQ=>Pl 5<|nt<|sq<|sg<|Pl 7<|nt<|c1<|sg<|Pl 2<|nl<|?_
 refine tn<|rt<|tr<|rr (.tuple #[.slice none 0 0,.int .i64 1])<|?_
 have hs:bY dir M=none:=by
   unfold bY
   (try simp only[a,bs,if_true,if_false,decide_true,decide_false,hkf,ft,hwr,reduceIte])
   all_goals rfl
 refine cV hs ?_
 exact⟨rfl,(aE n aQ)⟩
 have K:=jr (dir:=dir) (aF.old hM n) hf (eu hf dir).1
 rw[hwr] at K
 refine L0<|fb #[] #[] (args:=#[.int .i64 dir,.agg (mG M.code M.fail M.addr M.count M.value M.and_ M.or_ M.addr2 M.sub M.status M.events M.messages (.slice Aw M.words.length kw) (.slice Ab M.bits.length kb) (.slice Ad M.data.length kd) (.slice Ar M.recs.length kr) M.mei M.kind M.level M.more M.next (.slice Ao M.objects.length ko))])<|dE K fun cy cA cB aR cC cD L=>Pl 5<|nt<|sq<|sg<|Pl 7<|nt<|?_
 have s:=aE n L
 refine cb ((decide (253≤((lw.length:Nat) : Int)))) (fun g=>?_) (fun g=>?_)
 have aS:=of_decide_eq_true g
 refine sg<|Pl 2<|nt<|rt<|tr<|rr (.tuple #[.slice none 0 0,.int .i64 1])<|?_
 have hs:bY dir M=none:=by
   unfold bY
   (try simp only[a,g,bs,if_true,if_false,decide_true,decide_false,hkf,ft,hwr,reduceIte])
   all_goals rfl
 refine cV hs ?_
 exact⟨rfl,s⟩
 have aS:=of_decide_eq_false g
 refine bG<|sg<|Pl 1<|?_
 refine L0<|aN (ub L I) 0<|L0<|cF (m:=1) (e:=5) #[.int .u8 M.code] fun cE cG aT aU t=>?_
 have N:=cP aT (xs:=[M.code]) (by as_aux_lemma=>kernel_rfl) (am (by omega) aM) (by(try simp only[List.length_cons,List.length_nil]);omega) aU
 refine Pl 1<|?_
 refine L0<|cj aX (xs:=([M.code])) (ys:=lw) (.int .u8 0) 1 N ((aj aR t (fun x hx=>ay) (fun _ _ h=>h))).rd (by(try simp only[List.length_append,List.length_cons,List.length_nil,av]);omega) t.size fun aW aY cH aZ b0=>Pl 2<|nt<|rt<|rr (.tuple #[.slice aW (([M.code]++lw).length) aY,.int .i64 0])<|?_
 have hs:bY dir M=(some ([M.code]++lw)):=by
   unfold bY
   (try simp only[a,g,bs,if_true,if_false,decide_true,decide_false,hkf,ft,hwr,reduceIte])
   all_goals rfl
 refine cV hs ?_
 exact⟨_,rfl,(aJ.weaken aZ s.size),(aE s (ut t b0 (ag (aI N lr) aq)))⟩
 have O:=eA (x:=M.code) (w:=f)
 rw[hkf] at O
 refine L0<|Oc<|m1 O fun cI b1=>Pl 3<|L0<|bI #[.nilFunc,.nilFunc] fun cJ cK b2 b3 b4=>L0<|bf b3 #[.func (.func 60) #[] #[],.func (.func 61) #[] #[]] fun cL b5 b6=>Pl 1<|nt<|sq<|sg<|Pl 2<|nt<|c0<|?_
 refine bG<|sg<|Pl 1<|L0<|aN b5 1<|Pl 1<|?_
 have P:=aE b1 (ud b4 b6 b2)
 have Q:=ub P d
 refine L0<|bZ Q<|?_
 have o:=aE b P
 rcases hwr:cc fL bB dir M with _|lw
 have R:=kk (dir:=dir) (aF.old hM o) hf (eu hf dir).2.1
 rw[hwr] at R
 refine L0<|fb #[] #[] (args:=#[.int .i64 dir,.agg (mG M.code M.fail M.addr M.count M.value M.and_ M.or_ M.addr2 M.sub M.status M.events M.messages (.slice Aw M.words.length kw) (.slice Ab M.bits.length kb) (.slice Ad M.data.length kd) (.slice Ar M.recs.length kr) M.mei M.kind M.level M.more M.next (.slice Ao M.objects.length ko))])<|m1 R fun cM b7=>Pl 5<|nt<|sq<|sg<|Pl 7<|nt<|c1<|sg<|Pl 2<|nl<|?_
 refine tn<|rt<|tr<|rr (.tuple #[.slice none 0 0,.int .i64 1])<|?_
 have hs:bY dir M=none:=by
   unfold bY
   (try simp only[a,bs,if_true,if_false,decide_true,decide_false,hkf,ft,hwr,reduceIte])
   all_goals rfl
 refine cV hs ?_
 exact⟨rfl,(aE o b7)⟩
 have S:=kk (dir:=dir) (aF.old hM o) hf (eu hf dir).2.1
 rw[hwr] at S
 refine L0<|fb #[] #[] (args:=#[.int .i64 dir,.agg (mG M.code M.fail M.addr M.count M.value M.and_ M.or_ M.addr2 M.sub M.status M.events M.messages (.slice Aw M.words.length kw) (.slice Ab M.bits.length kb) (.slice Ad M.data.length kd) (.slice Ar M.recs.length kr) M.mei M.kind M.level M.more M.next (.slice Ao M.objects.length ko))])<|dE S fun cN cO cQ b8 cR cS T=>Pl 5<|nt<|sq<|sg<|Pl 7<|nt<|?_
 have u:=aE o T
 refine cb ((decide (253≤((lw.length:Nat) : Int)))) (fun i=>?_) (fun i=>?_)
 have b9:=of_decide_eq_true i
 refine sg<|Pl 2<|nt<|rt<|tr<|rr (.tuple #[.slice none 0 0,.int .i64 1])<|?_
 have hs:bY dir M=none:=by
   unfold bY
   (try simp only[a,i,bs,if_true,if_false,decide_true,decide_false,hkf,ft,hwr,reduceIte])
   all_goals rfl
 refine cV hs ?_
 exact⟨rfl,u⟩
 have b9:=of_decide_eq_false i
 refine bG<|sg<|Pl 1<|?_
 refine L0<|aN (ub T Q) 0<|L0<|cF (m:=1) (e:=5) #[.int .u8 M.code] fun cT cU ba bb v=>?_
 have U:=cP ba (xs:=[M.code]) (by as_aux_lemma=>kernel_rfl) (am (by omega) aM) (by(try simp only[List.length_cons,List.length_nil]);omega) bb
 refine Pl 1<|?_
 refine L0<|cj aX (xs:=([M.code])) (ys:=lw) (.int .u8 0) 1 U ((aj b8 v (fun x hx=>ay) (fun _ _ h=>h))).rd (by(try simp only[List.length_append,List.length_cons,List.length_nil,av]);omega) v.size fun bc bd cX be bg=>Pl 2<|nt<|rt<|rr (.tuple #[.slice bc (([M.code]++lw).length) bd,.int .i64 0])<|?_
 have hs:bY dir M=(some ([M.code]++lw)):=by
   unfold bY
   (try simp only[a,i,bs,if_true,if_false,decide_true,decide_false,hkf,ft,hwr,reduceIte])
   all_goals rfl
 refine cV hs ?_
 exact⟨_,rfl,(aJ.weaken be u.size),(aE u (ut v bg (ag (aI U lr) aq)))⟩
 have V:=eA (x:=M.code) (w:=f)
 rw[hkf] at V
 refine L0<|Oc<|m1 V fun cY bh=>Pl 3<|L0<|bI #[.nilFunc,.nilFunc] fun cZ d0 bi bj bk=>L0<|bf bj #[.func (.func 62) #[] #[],.func (.func 63) #[] #[]] fun d1 bl bm=>Pl 1<|nt<|sq<|sg<|Pl 2<|nt<|c0<|?_
 refine bG<|sg<|Pl 1<|L0<|aN bl 1<|Pl 1<|?_
 have W:=aE bh (ud bk bm bi)
 have X:=ub W d
 refine L0<|bZ X<|?_
 have p:=aE b W
 rcases hwr:cc fv bJ dir M with _|lw
 have Y:=kp (dir:=dir) (aF.old hM p) hf (eu hf dir).2.2.1
 rw[hwr] at Y
 refine L0<|fb #[] #[] (args:=#[.int .i64 dir,.agg (mG M.code M.fail M.addr M.count M.value M.and_ M.or_ M.addr2 M.sub M.status M.events M.messages (.slice Aw M.words.length kw) (.slice Ab M.bits.length kb) (.slice Ad M.data.length kd) (.slice Ar M.recs.length kr) M.mei M.kind M.level M.more M.next (.slice Ao M.objects.length ko))])<|m1 Y fun d2 bn=>Pl 5<|nt<|sq<|sg<|Pl 7<|nt<|c1<|sg<|Pl 2<|nl<|?_
 refine tn<|rt<|tr<|rr (.tuple #[.slice none 0 0,.int .i64 1])<|?_
 have hs:bY dir M=none:=by
   unfold bY
   (try simp only[a,bs,if_true,if_false,decide_true,decide_false,hkf,ft,hwr,reduceIte])
   all_goals rfl
 refine cV hs ?_
 exact⟨rfl,(aE p bn)⟩
 have Z:=kp (dir:=dir) (aF.old hM p) hf (eu hf dir).2.2.1
 rw[hwr] at Z
 refine L0<|fb #[] #[] (args:=#[.int .i64 dir,.agg (mG M.code M.fail M.addr M.count M.value M.and_ M.or_ M.addr2 M.sub M.status M.events M.messages (.slice Aw M.words.length kw) (.slice Ab M.bits.length kb) (.slice Ad M.data.length kd) (.slice Ar M.recs.length kr) M.mei M.kind M.level M.more M.next (.slice Ao M.objects.length ko))])<|dE Z fun d3 d4 d5 bo d6 d7 a0=>Pl 5<|nt<|sq<|sg<|Pl 7<|nt<|?_
 have y:=aE p a0
 refine cb ((decide (253≤((lw.length:Nat) : Int)))) (fun j=>?_) (fun j=>?_)
 have bq:=of_decide_eq_true j
 refine sg<|Pl 2<|nt<|rt<|tr<|rr (.tuple #[.slice none 0 0,.int .i64 1])<|?_
 have hs:bY dir M=none:=by
   unfold bY
   (try simp only[a,j,bs,if_true,if_false,decide_true,decide_false,hkf,ft,hwr,reduceIte])
   all_goals rfl
 refine cV hs ?_
 exact⟨rfl,y⟩
 have bq:=of_decide_eq_false j
 refine bG<|sg<|Pl 1<|?_
 refine L0<|aN (ub a0 X) 0<|L0<|cF (m:=1) (e:=5) #[.int .u8 M.code] fun d8 d9 br bu z=>?_
 have a1:=cP br (xs:=[M.code]) (by as_aux_lemma=>kernel_rfl) (am (by omega) aM) (by(try simp only[List.length_cons,List.length_nil]);omega) bu
 refine Pl 1<|?_
 refine L0<|cj aX (xs:=([M.code])) (ys:=lw) (.int .u8 0) 1 a1 ((aj bo z (fun x hx=>ay) (fun _ _ h=>h))).rd (by(try simp only[List.length_append,List.length_cons,List.length_nil,av]);omega) z.size fun bv bw da bx bz=>Pl 2<|nt<|rt<|rr (.tuple #[.slice bv (([M.code]++lw).length) bw,.int .i64 0])<|?_
 have hs:bY dir M=(some ([M.code]++lw)):=by
   unfold bY
   (try simp only[a,j,bs,if_true,if_false,decide_true,decide_false,hkf,ft,hwr,reduceIte])
   all_goals rfl
 refine cV hs ?_
 exact⟨_,rfl,(aJ.weaken bx y.size),(aE y (ut z bz (ag (aI a1 lr) aq)))⟩
 have a2:=eA (x:=M.code) (w:=f)
 rw[hkf] at a2
 refine L0<|Oc<|m1 a2 fun dc bA=>Pl 3<|L0<|bI #[.nilFunc,.nilFunc] fun dd de bC bD bE=>L0<|bf bD #[.func (.func 64) #[] #[],.func (.func 65) #[] #[]] fun df bH bK=>Pl 1<|nt<|sq<|sg<|Pl 2<|nt<|c0<|?_
 refine bG<|sg<|Pl 1<|L0<|aN bH 1<|Pl 1<|?_
 have a3:=aE bA (ud bE bK bC)
 have a4:=ub a3 d
 refine L0<|bZ a4<|?_
 have q:=aE b a3
 rcases hwr:cc eX cv dir M with _|lw
 have a5:=jn (dir:=dir) (aF.old hM q) hf (eu hf dir).2.2.2.2
 rw[hwr] at a5
 refine L0<|fb #[] #[] (args:=#[.int .i64 dir,.agg (mG M.code M.fail M.addr M.count M.value M.and_ M.or_ M.addr2 M.sub M.status M.events M.messages (.slice Aw M.words.length kw) (.slice Ab M.bits.length kb) (.slice Ad M.data.length kd) (.slice Ar M.recs.length kr) M.mei M.kind M.level M.more M.next (.slice Ao M.objects.length ko))])<|m1 a5 fun dg bL=>Pl 5<|nt<|sq<|sg<|Pl 7<|nt<|c1<|sg<|Pl 2<|nl<|?_
 refine tn<|rt<|tr<|rr (.tuple #[.slice none 0 0,.int .i64 1])<|?_
 have hs:bY dir M=none:=by
   unfold bY
   (try simp only[a,bs,if_true,if_false,decide_true,decide_false,hkf,ft,hwr,reduceIte])
   all_goals rfl
 refine cV hs ?_
 exact⟨rfl,(aE q bL)⟩
 have a6:=jn (dir:=dir) (aF.old hM q) hf (eu hf dir).2.2.2.2
 rw[hwr] at a6
 refine L0<|fb #[] #[] (args:=#[.int .i64 dir,.agg (mG M.code M.fail M.addr M.count M.value M.and_ M.or_ M.addr2 M.sub M.status M.events M.messages (.slice Aw M.words.length kw) (.slice Ab M.bits.length kb) (.slice Ad M.data.length kd) (.slice Ar M.recs.length kr) M.mei M.kind M.level M.more M.next (.slice Ao M.objects.length ko))])<|dE a6 fun dh di dj bM dk dl a7=>Pl 5<|nt<|sq<|sg<|Pl 7<|nt<|?_
 have A:=aE q a7
 refine cb ((decide (253≤((lw.length:Nat) : Int)))) (fun k=>?_) (fun k=>?_)
 have bN:=of_decide_eq_true k
 refine sg<|Pl 2<|nt<|rt<|tr<|rr (.tuple #[.slice none 0 0,.int .i64 1])<|?_
 have hs:bY dir M=none:=by
   unfold bY
   (try simp only[a,k,bs,if_true,if_false,decide_true,decide_false,hkf,ft,hwr,reduceIte])
   all_goals rfl
 refine cV hs ?_
 exact⟨rfl,A⟩
 have bN:=of_decide_eq_false k
 refine bG<|sg<|Pl 1<|?_
 refine L0<|aN (ub a7 a4) 0<|L0<|cF (m:=1) (e:=5) #[.int .u8 M.code] fun dm dn bO bP B=>?_
 have a8:=cP bO (xs:=[M.code]) (by as_aux_lemma=>kernel_rfl) (am (by omega) aM) (by(try simp only[List.length_cons,List.length_nil]);omega) bP
 refine Pl 1<|?_
 refine L0<|cj aX (xs:=([M.code])) (ys:=lw) (.int .u8 0) 1 a8 ((aj bM B (fun x hx=>ay) (fun _ _ h=>h))).rd (by(try simp only[List.length_append,List.length_cons,List.length_nil,av]);omega) B.size fun bQ bR dp bS bT=>Pl 2<|nt<|rt<|rr (.tuple #[.slice bQ (([M.code]++lw).length) bR,.int .i64 0])<|?_
 have hs:bY dir M=(some ([M.code]++lw)):=by
   unfold bY
   (try simp only[a,k,bs,if_true,if_false,decide_true,decide_false,hkf,ft,hwr,reduceIte])
   all_goals rfl
 refine cV hs ?_
 exact⟨_,rfl,(aJ.weaken bS A.size),(aE A (ut B bT (ag (aI a8 lr) aq)))⟩
 have a9:=eA (x:=M.code) (w:=f)
 rw[hkf] at a9
 refine L0<|Oc<|m1 a9 fun dq bU=>Pl 3<|L0<|bI #[.nilFunc,.nilFunc] fun dr ds bV bW bX=>L0<|bf bW #[.func (.func 66) #[] #[],.func (.func 67) #[] #[]] fun dt c2 c3=>Pl 1<|nt<|sq<|sg<|Pl 2<|nt<|c0<|?_
 refine bG<|sg<|Pl 1<|L0<|aN c2 1<|Pl 1<|?_
 have aa:=aE bU (ud bX c3 bV)
 have ab:=ub aa d
 refine L0<|bZ ab<|?_
 have r:=aE b aa
 rcases hwr:cc gt cW dir M with _|lw
 have ac:=lh (dir:=dir) (aF.old hM r) hf (eu hf dir).2.2.2.1
 rw[hwr] at ac
 refine L0<|fb #[] #[] (args:=#[.int .i64 dir,.agg (mG M.code M.fail M.addr M.count M.value M.and_ M.or_ M.addr2 M.sub M.status M.events M.messages (.slice Aw M.words.length kw) (.slice Ab M.bits.length kb) (.slice Ad M.data.length kd) (.slice Ar M.recs.length kr) M.mei M.kind M.level M.more M.next (.slice Ao M.objects.length ko))])<|m1 ac fun du c4=>Pl 5<|nt<|sq<|sg<|Pl 7<|nt<|c1<|sg<|Pl 2<|nl<|?_
 refine tn<|rt<|tr<|rr (.tuple #[.slice none 0 0,.int .i64 1])<|?_
 have hs:bY dir M=none:=by
   unfold bY
   (try simp only[a,bs,if_true,if_false,decide_true,decide_false,hkf,ft,hwr,reduceIte])
   all_goals rfl
 refine cV hs ?_
 exact⟨rfl,(aE r c4)⟩
 have ad:=lh (dir:=dir) (aF.old hM r) hf (eu hf dir).2.2.2.1
 rw[hwr] at ad
 refine L0<|fb #[] #[] (args:=#[.int .i64 dir,.agg (mG M.code M.fail M.addr M.count M.value M.and_ M.or_ M.addr2 M.sub M.status M.events M.messages (.slice Aw M.words.length kw) (.slice Ab M.bits.length kb) (.slice Ad M.data.length kd) (.slice Ar M.recs.length kr) M.mei M.kind M.level M.more M.next (.slice Ao M.objects.length ko))])<|dE ad fun dv dw dx c5 dy dz ae=>Pl 5<|nt<|sq<|sg<|Pl 7<|nt<|?_
 have C:=aE r ae
 refine cb ((decide (253≤((lw.length:Nat) : Int)))) (fun l=>?_) (fun l=>?_)
 have c6:=of_decide_eq_true l
 refine sg<|Pl 2<|nt<|rt<|tr<|rr (.tuple #[.slice none 0 0,.int .i64 1])<|?_
 have hs:bY dir M=none:=by
   unfold bY
   (try simp only[a,l,bs,if_true,if_false,decide_true,decide_false,hkf,ft,hwr,reduceIte])
   all_goals rfl
 refine cV hs ?_
 exact⟨rfl,C⟩
 have c6:=of_decide_eq_false l
 refine bG<|sg<|Pl 1<|?_
 refine L0<|aN (ub ae ab) 0<|L0<|cF (m:=1) (e:=5) #[.int .u8 M.code] fun dA dB c7 c8 D=>?_
 have af:=cP c7 (xs:=[M.code]) (by as_aux_lemma=>kernel_rfl) (am (by omega) aM) (by(try simp only[List.length_cons,List.length_nil]);omega) c8
 refine Pl 1<|?_
 refine L0<|cj aX (xs:=([M.code])) (ys:=lw) (.int .u8 0) 1 af ((aj c5 D (fun x hx=>ay) (fun _ _ h=>h))).rd (by(try simp only[List.length_append,List.length_cons,List.length_nil,av]);omega) D.size fun c9 ca dC cd ce=>Pl 2<|nt<|rt<|rr (.tuple #[.slice c9 (([M.code]++lw).length) ca,.int .i64 0])<|?_
 have hs:bY dir M=(some ([M.code]++lw)):=by
   unfold bY
   (try simp only[a,l,bs,if_true,if_false,decide_true,decide_false,hkf,ft,hwr,reduceIte])
   all_goals rfl
 refine cV hs ?_
 exact⟨_,rfl,(aJ.weaken cd C.size),(aE C (ut D ce (ag (aI af lr) aq)))⟩
 have ah:=eA (x:=M.code) (w:=f)
 rw[hkf] at ah
 refine L0<|Oc<|m1 ah fun dD cf=>Pl 3<|L0<|bI #[.nilFunc,.nilFunc] fun dF dG cg ch ci=>L0<|bf ch #[.nilFunc,.nilFunc] fun dH dI ck=>Pl 1<|nt<|sq<|sg<|Pl 2<|nt<|c1<|?_
 refine sg<|Pl 2<|nt<|rt<|tr<|rr (.tuple #[.slice none 0 0,.int .i64 1])<|?_
 have hs:bY dir M=none:=by
   unfold bY
   (try simp only[a,bs,if_true,if_false,decide_true,decide_false,hkf,ft,reduceIte])
   all_goals rfl
 refine cV hs ?_
 exact⟨rfl,(aE b (aE cf (ud ci ck cg)))⟩
open Go.RowKit
theorem hY{x y:aV × Int}(h:x=y){w:World}{e:Ending}{w':World}(k:dl y w e w') : dl x w e w':=by rw[h];exact k
def jy:Nat→Int→List Int→aV × Int
  | 1,dir,b=>au aS dir (b.getD 0 0) (b.drop 1)
  | 2,dir,b=>au bU dir (b.getD 0 0) (b.drop 1)
  | 3,dir,b=>au aR dir (b.getD 0 0) (b.drop 1)
  | 4,dir,b=>au be dir (b.getD 0 0) (b.drop 1)
  | 5,dir,b=>au bK dir (b.getD 0 0) (b.drop 1)
  | _,_,_=>(aV.zero,4)
def cL (dir:Int)(b:List Int) : aV × Int :=
  if dir != 0&&dir != 1 then (aV.zero,1)
  else if (b.length:Int)==0 then (aV.zero,2)
  else if decide (253<(b.length:Int)) then (aV.zero,3)
  else if decide (128≤b.getD 0 0)&&dir==1 then fm b
  else jy (iu (b.getD 0 0)) dir b
theorem pl{m:Bool}{A:Option Addr}{cp:Nat}{b:List Int}{w:World}{dir:Int}(hsl:aQ m w (.slice A b.length cp) b)(hb:b.length≤1048576) :
    Calls Tryz.prog 162 #[.int .i64 dir,.slice A b.length cp] w (dl (cL dir b) w):=by
 have hln:(b.length:Int)≤1048576:=by omega
 refine en 60 Tryz.func162 rfl<|sg<|L0<|bI mZ fun dk t h a f=>Pl 1<|nt<|sq<|bk<|sg<|Pl 3<|cu 3 [11] 14 (((dir != 0)&&(dir != 1))) (fun K a2=>?_) ?_
 refine bl 11 ((dir != 0)) (fun u=>?_) (fun u=>?_)
 have bZ:=aA u
 exact Pl 3<|ce a2 (dir != 1) (by rw[u];rfl)
 have bZ:=ai u
 exact Pl 3<|ce a2 false (by rw[u];rfl)
 refine Pl 1<|nt<|cb (((dir != 0)&&(dir != 1))) (fun d=>?_) (fun d=>?_)
 have a3:=(bH d).1
 have a4:=(bH d).2
 have dm:=aA a3
 have dn:=aA a4
 refine sg<|Pl 1<|L0<|bf a mZ fun dp c2 c3=>Pl 1<|nt<|rt<|br<|tr<|cU c2 (.int .i64 1)<|?_
 have hs:cL dir b=(aV.zero,1):=by
   unfold cL
   (try simp only[d,a3,a4,bs,if_true,if_false,decide_true,decide_false,jy,reduceIte])
   all_goals rfl
 refine hY hs ?_
 exact bW (ud f c3 h)
 refine sg<|Pl 4<|nt<|cb ((((b.length:Nat) : Int)==0)) (fun e=>?_) (fun e=>?_)
 have c4:=az e
 refine sg<|Pl 1<|L0<|bf a mZ fun dq c5 c6=>Pl 1<|nt<|rt<|br<|tr<|cU c5 (.int .i64 2)<|?_
 have hs:cL dir b=(aV.zero,2):=by
   unfold cL
   (try simp only[d,e,bs,if_true,if_false,decide_true,decide_false,jy,reduceIte])
   all_goals rfl
 refine hY hs ?_
 exact bW (ud f c6 h)
 have c4:=aC e
 refine sg<|Pl 4<|nt<|cb ((decide (253<((b.length:Nat) : Int)))) (fun g=>?_) (fun g=>?_)
 have c7:=of_decide_eq_true g
 refine sg<|Pl 1<|L0<|bf a mZ fun dr c8 c9=>Pl 1<|nt<|rt<|br<|tr<|cU c8 (.int .i64 3)<|?_
 have hs:cL dir b=(aV.zero,3):=by
   unfold cL
   (try simp only[d,e,g,bs,if_true,if_false,decide_true,decide_false,jy,reduceIte])
   all_goals rfl
 refine hY hs ?_
 exact bW (ud f c9 h)
 have c7:=of_decide_eq_false g
 refine sg<|Pl 1<|?_
 have s:=aQ.old hsl f
 refine gX (aQ.at_ s 0 (by omega)) fun a5 a6 a7 a8 ds=>L0<|oU b.length 0 a7 (by omega)<|L0<|kY (p:=⟨a5,a6+0,none⟩) (v:=.int .u8 (b.getD 0 0)) a8<|Pl 2<|cu 3 [31] 34 (((decide (128≤(b.getD 0 0)))&&(dir==1))) (fun K a9=>?_) ?_
 refine bl 31 ((decide (128≤(b.getD 0 0)))) (fun y=>?_) (fun y=>?_)
 have ca:=of_decide_eq_true y
 exact Pl 3<|ce a9 (dir==1) (by rw[y];rfl)
 have ca:=of_decide_eq_false y
 exact Pl 3<|ce a9 false (by rw[y];rfl)
 refine Pl 1<|nt<|cb (((decide (128≤(b.getD 0 0)))&&(dir==1))) (fun i=>?_) (fun i=>?_)
 have ab:=(bH i).1
 have ac:=(bH i).2
 have dt:=of_decide_eq_true ab
 have du:=az ac
 refine sg<|Pl 1<|L0<|Oc<|e2 (rS s (by omega)) fun cc dv z ad=>Pl 2<|?_
 have ae:=ub ad a
 refine L0<|bf (hz:=(by rw[z.size];exact aT)) (hv:=z.size) (h1:=z.one) ae (cc) fun dw cd af=>Pl 1<|nt<|rt<|br<|tr<|eU 22 z.size cd (.int .i64 (((fm b)).2))<|?_
 have hs:cL dir b=(fm b):=by
   unfold cL
   (try simp only[d,e,g,i,ab,ac,bs,if_true,if_false,decide_true,decide_false,jy,reduceIte])
   all_goals rfl
 refine hY hs ?_
 exact⟨_,rfl,(aF.upd z af (ak (aL ae (by decide)) aD)),(ud f (uz ad af) h)⟩
 refine sk<|bn<|tn<|sg<|Pl 1<|L0<|oU b.length 0 a7 (by omega)<|L0<|kY (p:=⟨a5,a6+0,none⟩) (v:=.int .u8 (b.getD 0 0)) a8<|?_
 rcases j0 (b.getD 0 0) with⟨hk,hkf⟩|⟨hk,hkf⟩|⟨hk,hkf⟩|⟨hk,hkf⟩|⟨hk,hkf⟩|⟨hk,hkf⟩
 have ag:=eA (x:=(b.getD 0 0)) (w:=t)
 rw[hkf] at ag
 refine L0<|Oc<|m1 ag fun dx ah=>Pl 3<|L0<|bI #[.nilFunc,.nilFunc] fun cf dy aj cg ch=>L0<|bf cg #[.func (.func 58) #[] #[],.func (.func 59) #[] #[]] fun dz ci cj=>Pl 1<|nt<|sq<|sg<|Pl 2<|nt<|c0<|?_
 refine bG<|sq<|?_
 have am:=aE ah (ud ch cj aj)
 have an:=aQ.old s am
 refine gX (aQ.at_ an 0 (by omega)) fun ck cl ao ap dA=>Rg 13 (fun w'=>w'.cell? ⟨cf,0,none⟩=some (.func (.func 58) #[] #[])∧w'.cell? ⟨ck,cl+0,none⟩=some (.int .u8 (b.getD 0 0))) fun dB M=>?_
 have aq:=ub M ci
 refine aZ ⟨(aa aq rfl),(uc M ap)⟩ fun j=>Rt 0 j<|Rl 1 j (fun _ hs=>hs.1)<|Rt 2 j<|Rt 3 j<|qF 4 j b.length 0 0 rfl ao (by omega)<|Rl 5 j (fun _ hs=>hs.2)<|Rt 6 j<|u4 (eM (P:=Tryz.prog) 27 5 1 Tryz.underlying27 rfl rfl A b.length cp 1 (by omega)) fun ar hrun108 cm=>Rr 7 j (.slice ar (b.length-1) (cp-1)) (fun _ _=>eL (kl:=.i64) (k:=((1:Nat) : Int)) (A:=A) (n:=b.length) (c:=cp) rfl Tryz.underlying27 (by kernel_rfl) (by kernel_rfl) (hrun108 _ _))<|?_
 refine R0 8 rfl<|fb #[] #[] (args:=#[.int .i64 dir,.int .u8 (b.getD 0 0),.slice ar (b.length-1) (cp-1)])<|e2 (ju (dir:=dir) (c:=(b.getD 0 0)) (b8 (by omega)) (cm _ _ _ _ _ (aQ.old an M)) (by(try simp only[List.length_drop]);omega)) fun cn dC B S=>?_
 have av:=ub S aq
 have T:=aE M S
 refine aZ ⟨(aa av rfl),(uc T ap)⟩ fun aw=>Rt 9 aw<|Rt 10 aw<|?_
 have ax:=aE am T
 have ay:=ub ax a
 refine R0 11 rfl<|bf (hz:=(by rw[B.size];exact aT)) (hv:=B.size) (h1:=B.one) ay (cn) fun dD co C=>?_
 have dE:=uz T C
 have dF:=uz S C
 have aB:=ud f (uz ax C) h
 refine aZ ⟨(aa (aY C (Ne.symm (nb (al a) ah.size aj)) av) rfl),(cB (aQ.old hsl aB) ao 0 (by omega))⟩ fun cq=>Rt 12 cq<|re<|tn<|rt<|eU 22 B.size co (.int .i64 (((au aS dir (b.getD 0 0) (b.drop 1))).2))<|?_
 have hs:cL dir b=(au aS dir (b.getD 0 0) (b.drop 1)):=by
   unfold cL
   (try simp only[d,e,g,i,bs,if_true,if_false,decide_true,decide_false,hkf,jy,reduceIte])
   all_goals rfl
 refine hY hs ?_
 exact⟨_,rfl,(aF.upd B C (ak (aL ay (by decide)) aD)),aB⟩
 have aG:=eA (x:=(b.getD 0 0)) (w:=t)
 rw[hkf] at aG
 refine L0<|Oc<|m1 aG fun dG aH=>Pl 3<|L0<|bI #[.nilFunc,.nilFunc] fun cr dH aI cs ct=>L0<|bf cs #[.func (.func 60) #[] #[],.func (.func 61) #[] #[]] fun dI cv cw=>Pl 1<|nt<|sq<|sg<|Pl 2<|nt<|c0<|?_
 refine bG<|sq<|?_
 have aJ:=aE aH (ud ct cw aI)
 have aK:=aQ.old s aJ
 refine gX (aQ.at_ aK 0 (by omega)) fun cx cy aM aN dJ=>Rg 13 (fun w'=>w'.cell? ⟨cr,0,none⟩=some (.func (.func 60) #[] #[])∧w'.cell? ⟨cx,cy+0,none⟩=some (.int .u8 (b.getD 0 0))) fun dK N=>?_
 have aO:=ub N cv
 refine aZ ⟨(aa aO rfl),(uc N aN)⟩ fun l=>Rt 0 l<|Rl 1 l (fun _ hs=>hs.1)<|Rt 2 l<|Rt 3 l<|qF 4 l b.length 0 0 rfl aM (by omega)<|Rl 5 l (fun _ hs=>hs.2)<|Rt 6 l<|u4 (eM (P:=Tryz.prog) 27 5 1 Tryz.underlying27 rfl rfl A b.length cp 1 (by omega)) fun aP hrun188 cz=>Rr 7 l (.slice aP (b.length-1) (cp-1)) (fun _ _=>eL (kl:=.i64) (k:=((1:Nat) : Int)) (A:=A) (n:=b.length) (c:=cp) rfl Tryz.underlying27 (by kernel_rfl) (by kernel_rfl) (hrun188 _ _))<|?_
 refine R0 8 rfl<|fb #[] #[] (args:=#[.int .i64 dir,.int .u8 (b.getD 0 0),.slice aP (b.length-1) (cp-1)])<|e2 (kv (dir:=dir) (c:=(b.getD 0 0)) (b8 (by omega)) (cz _ _ _ _ _ (aQ.old aK N)) (by(try simp only[List.length_drop]);omega)) fun cA dL D U=>?_
 have aU:=ub U aO
 have V:=aE N U
 refine aZ ⟨(aa aU rfl),(uc V aN)⟩ fun aW=>Rt 9 aW<|Rt 10 aW<|?_
 have aX:=aE aJ V
 have b0:=ub aX a
 refine R0 11 rfl<|bf (hz:=(by rw[D.size];exact aT)) (hv:=D.size) (h1:=D.one) b0 (cA) fun dM cC E=>?_
 have dN:=uz V E
 have dO:=uz U E
 have b1:=ud f (uz aX E) h
 refine aZ ⟨(aa (aY E (Ne.symm (nb (al a) aH.size aI)) aU) rfl),(cB (aQ.old hsl b1) aM 0 (by omega))⟩ fun cD=>Rt 12 cD<|re<|tn<|rt<|eU 22 D.size cC (.int .i64 (((au bU dir (b.getD 0 0) (b.drop 1))).2))<|?_
 have hs:cL dir b=(au bU dir (b.getD 0 0) (b.drop 1)):=by
   unfold cL
   (try simp only[d,e,g,i,bs,if_true,if_false,decide_true,decide_false,hkf,jy,reduceIte])
   all_goals rfl
 refine hY hs ?_
 exact⟨_,rfl,(aF.upd D E (ak (aL b0 (by decide)) aD)),b1⟩
 have b2:=eA (x:=(b.getD 0 0)) (w:=t)
 rw[hkf] at b2
 refine L0<|Oc<|m1 b2 fun dP b3=>Pl 3<|L0<|bI #[.nilFunc,.nilFunc] fun cE dQ b4 cF cG=>L0<|bf cF #[.func (.func 62) #[] #[],.func (.func 63) #[] #[]] fun dR cH cI=>Pl 1<|nt<|sq<|sg<|Pl 2<|nt<|c0<|?_
 refine bG<|sq<|?_
 have b5:=aE b3 (ud cG cI b4)
 have b6:=aQ.old s b5
 refine gX (aQ.at_ b6 0 (by omega)) fun cJ cK b7 b9 dS=>Rg 13 (fun w'=>w'.cell? ⟨cE,0,none⟩=some (.func (.func 62) #[] #[])∧w'.cell? ⟨cJ,cK+0,none⟩=some (.int .u8 (b.getD 0 0))) fun dT O=>?_
 have ba:=ub O cH
 refine aZ ⟨(aa ba rfl),(uc O b9)⟩ fun o=>Rt 0 o<|Rl 1 o (fun _ hs=>hs.1)<|Rt 2 o<|Rt 3 o<|qF 4 o b.length 0 0 rfl b7 (by omega)<|Rl 5 o (fun _ hs=>hs.2)<|Rt 6 o<|u4 (eM (P:=Tryz.prog) 27 5 1 Tryz.underlying27 rfl rfl A b.length cp 1 (by omega)) fun bb hrun268 cM=>Rr 7 o (.slice bb (b.length-1) (cp-1)) (fun _ _=>eL (kl:=.i64) (k:=((1:Nat) : Int)) (A:=A) (n:=b.length) (c:=cp) rfl Tryz.underlying27 (by kernel_rfl) (by kernel_rfl) (hrun268 _ _))<|?_
 refine R0 8 rfl<|fb #[] #[] (args:=#[.int .i64 dir,.int .u8 (b.getD 0 0),.slice bb (b.length-1) (cp-1)])<|e2 (ki (dir:=dir) (c:=(b.getD 0 0)) (b8 (by omega)) (cM _ _ _ _ _ (aQ.old b6 O)) (by(try simp only[List.length_drop]);omega)) fun cN dU F W=>?_
 have bc:=ub W ba
 have X:=aE O W
 refine aZ ⟨(aa bc rfl),(uc X b9)⟩ fun bd=>Rt 9 bd<|Rt 10 bd<|?_
 have bg:=aE b5 X
 have bh:=ub bg a
 refine R0 11 rfl<|bf (hz:=(by rw[F.size];exact aT)) (hv:=F.size) (h1:=F.one) bh (cN) fun dV cO G=>?_
 have dW:=uz X G
 have dX:=uz W G
 have bi:=ud f (uz bg G) h
 refine aZ ⟨(aa (aY G (Ne.symm (nb (al a) b3.size b4)) bc) rfl),(cB (aQ.old hsl bi) b7 0 (by omega))⟩ fun cP=>Rt 12 cP<|re<|tn<|rt<|eU 22 F.size cO (.int .i64 (((au aR dir (b.getD 0 0) (b.drop 1))).2))<|?_
 have hs:cL dir b=(au aR dir (b.getD 0 0) (b.drop 1)):=by
   unfold cL
   (try simp only[d,e,g,i,bs,if_true,if_false,decide_true,decide_false,hkf,jy,reduceIte])
   all_goals rfl
 refine hY hs ?_
 exact⟨_,rfl,(aF.upd F G (ak (aL bh (by decide)) aD)),bi⟩
 have bj:=eA (x:=(b.getD 0 0)) (w:=t)
 rw[hkf] at bj
 refine L0<|Oc<|m1 bj fun dY bm=>Pl 3<|L0<|bI #[.nilFunc,.nilFunc] fun cQ dZ bo cR cS=>L0<|bf cR #[.func (.func 64) #[] #[],.func (.func 65) #[] #[]] fun e0 cT cV=>Pl 1<|nt<|sq<|sg<|Pl 2<|nt<|c0<|?_
 refine bG<|sq<|?_
 have bp:=aE bm (ud cS cV bo)
 have bq:=aQ.old s bp
 refine gX (aQ.at_ bq 0 (by omega)) fun cW cX bt bu e1=>Rg 13 (fun w'=>w'.cell? ⟨cQ,0,none⟩=some (.func (.func 64) #[] #[])∧w'.cell? ⟨cW,cX+0,none⟩=some (.int .u8 (b.getD 0 0))) fun e3 Q=>?_
 have bv:=ub Q cT
 refine aZ ⟨(aa bv rfl),(uc Q bu)⟩ fun q=>Rt 0 q<|Rl 1 q (fun _ hs=>hs.1)<|Rt 2 q<|Rt 3 q<|qF 4 q b.length 0 0 rfl bt (by omega)<|Rl 5 q (fun _ hs=>hs.2)<|Rt 6 q<|u4 (eM (P:=Tryz.prog) 27 5 1 Tryz.underlying27 rfl rfl A b.length cp 1 (by omega)) fun bw hrun348 cY=>Rr 7 q (.slice bw (b.length-1) (cp-1)) (fun _ _=>eL (kl:=.i64) (k:=((1:Nat) : Int)) (A:=A) (n:=b.length) (c:=cp) rfl Tryz.underlying27 (by kernel_rfl) (by kernel_rfl) (hrun348 _ _))<|?_
 refine R0 8 rfl<|fb #[] #[] (args:=#[.int .i64 dir,.int .u8 (b.getD 0 0),.slice bw (b.length-1) (cp-1)])<|e2 (jk (dir:=dir) (c:=(b.getD 0 0)) (b8 (by omega)) (cY _ _ _ _ _ (aQ.old bq Q)) (by(try simp only[List.length_drop]);omega)) fun cZ e4 H Y=>?_
 have bx:=ub Y bv
 have Z:=aE Q Y
 refine aZ ⟨(aa bx rfl),(uc Z bu)⟩ fun bz=>Rt 9 bz<|Rt 10 bz<|?_
 have bA:=aE bp Z
 have bB:=ub bA a
 refine R0 11 rfl<|bf (hz:=(by rw[H.size];exact aT)) (hv:=H.size) (h1:=H.one) bB (cZ) fun e5 d0 I=>?_
 have e6:=uz Z I
 have e7:=uz Y I
 have bC:=ud f (uz bA I) h
 refine aZ ⟨(aa (aY I (Ne.symm (nb (al a) bm.size bo)) bx) rfl),(cB (aQ.old hsl bC) bt 0 (by omega))⟩ fun d1=>Rt 12 d1<|re<|tn<|rt<|eU 22 H.size d0 (.int .i64 (((au be dir (b.getD 0 0) (b.drop 1))).2))<|?_
 have hs:cL dir b=(au be dir (b.getD 0 0) (b.drop 1)):=by
   unfold cL
   (try simp only[d,e,g,i,bs,if_true,if_false,decide_true,decide_false,hkf,jy,reduceIte])
   all_goals rfl
 refine hY hs ?_
 exact⟨_,rfl,(aF.upd H I (ak (aL bB (by decide)) aD)),bC⟩
 have bD:=eA (x:=(b.getD 0 0)) (w:=t)
 rw[hkf] at bD
 refine L0<|Oc<|m1 bD fun e8 bE=>Pl 3<|L0<|bI #[.nilFunc,.nilFunc] fun d2 e9 bF d3 d4=>L0<|bf d3 #[.func (.func 66) #[] #[],.func (.func 67) #[] #[]] fun ea d5 d6=>Pl 1<|nt<|sq<|sg<|Pl 2<|nt<|c0<|?_
 refine bG<|sq<|?_
 have bJ:=aE bE (ud d4 d6 bF)
 have bL:=aQ.old s bJ
 refine gX (aQ.at_ bL 0 (by omega)) fun d7 d8 bM bN eb=>Rg 13 (fun w'=>w'.cell? ⟨d2,0,none⟩=some (.func (.func 66) #[] #[])∧w'.cell? ⟨d7,d8+0,none⟩=some (.int .u8 (b.getD 0 0))) fun ec R=>?_
 have bO:=ub R d5
 refine aZ ⟨(aa bO rfl),(uc R bN)⟩ fun r=>Rt 0 r<|Rl 1 r (fun _ hs=>hs.1)<|Rt 2 r<|Rt 3 r<|qF 4 r b.length 0 0 rfl bM (by omega)<|Rl 5 r (fun _ hs=>hs.2)<|Rt 6 r<|u4 (eM (P:=Tryz.prog) 27 5 1 Tryz.underlying27 rfl rfl A b.length cp 1 (by omega)) fun bP hrun428 d9=>Rr 7 r (.slice bP (b.length-1) (cp-1)) (fun _ _=>eL (kl:=.i64) (k:=((1:Nat) : Int)) (A:=A) (n:=b.length) (c:=cp) rfl Tryz.underlying27 (by kernel_rfl) (by kernel_rfl) (hrun428 _ _))<|?_
 refine R0 8 rfl<|fb #[] #[] (args:=#[.int .i64 dir,.int .u8 (b.getD 0 0),.slice bP (b.length-1) (cp-1)])<|e2 (lJ (dir:=dir) (c:=(b.getD 0 0)) (b8 (by omega)) (d9 _ _ _ _ _ (aQ.old bL R)) (by(try simp only[List.length_drop]);omega)) fun da ed J a0=>?_
 have bQ:=ub a0 bO
 have a1:=aE R a0
 refine aZ ⟨(aa bQ rfl),(uc a1 bN)⟩ fun bR=>Rt 9 bR<|Rt 10 bR<|?_
 have bS:=aE bJ a1
 have bT:=ub bS a
 refine R0 11 rfl<|bf (hz:=(by rw[J.size];exact aT)) (hv:=J.size) (h1:=J.one) bT (da) fun ee db L=>?_
 have ef:=uz a1 L
 have eg:=uz a0 L
 have bV:=ud f (uz bS L) h
 refine aZ ⟨(aa (aY L (Ne.symm (nb (al a) bE.size bF)) bQ) rfl),(cB (aQ.old hsl bV) bM 0 (by omega))⟩ fun dc=>Rt 12 dc<|re<|tn<|rt<|eU 22 J.size db (.int .i64 (((au bK dir (b.getD 0 0) (b.drop 1))).2))<|?_
 have hs:cL dir b=(au bK dir (b.getD 0 0) (b.drop 1)):=by
   unfold cL
   (try simp only[d,e,g,i,bs,if_true,if_false,decide_true,decide_false,hkf,jy,reduceIte])
   all_goals rfl
 refine hY hs ?_
 exact⟨_,rfl,(aF.upd J L (ak (aL bT (by decide)) aD)),bV⟩
 have bX:=eA (x:=(b.getD 0 0)) (w:=t)
 rw[hkf] at bX
 refine L0<|Oc<|m1 bX fun eh dd=>Pl 3<|L0<|bI #[.nilFunc,.nilFunc] fun ei ej de df dg=>L0<|bf df #[.nilFunc,.nilFunc] fun ek el dh=>Pl 1<|nt<|sq<|sg<|Pl 2<|nt<|c1<|?_
 refine sg<|Pl 1<|?_
 have bY:=aE dd (ud dg dh de)
 refine L0<|bf (ub bY a) mZ fun em di dj=>Pl 1<|nt<|rt<|tr<|cU di (.int .i64 4)<|?_
 have hs:cL dir b=(aV.zero,4):=by
   unfold cL
   (try simp only[d,e,g,i,bs,if_true,if_false,decide_true,decide_false,hkf,jy,reduceIte])
   all_goals rfl
 refine hY hs ?_
 exact bW (ud f (uz bY dj) h)
theorem jf{m:Bool}{v:Value}{b:List Int}{w:World}{dir:Int}(h:aQ m w v b)(hb:b.length≤1048576) : Calls Tryz.prog 162 #[.int .i64 dir,v] w (dl (cL dir b) w):=by
  obtain⟨A,cp,rfl,_,_⟩:=h.shape
  exact pl h hb
end Go.Proofs.YtpglhicfhppaiaaGreat
namespace Go.Proofs.YtpglhicfhppaiaaGreat
def N1 (C:ap) : Prop:=C.e≠1
theorem N1.need{C:ap}{b:Bool}{x:Int}(hx:x≠1)(h:N1 C) : N1 (C.need b x):=by
  unfold N1 ap.need at *
  split
  · exact hx
  · exact h
theorem N1.bytesC{C:ap}{n:Int}(h:N1 C) : N1 (C.bytesC n):=by
  unfold ap.bytesC
  split
  · exact N1.need (by decide) h
  · exact h
theorem N1.wordsC{C:ap}{n:Int}(h:N1 C) : N1 (C.wordsC n):=by
  unfold ap.wordsC
  split<;>exact N1.bytesC h
theorem N1.recs{one:Int→ap→Int × ap × eq}(ho:∀ s C,N1 C→N1 (one s C).2.1) : ∀ (n:Nat)(s:Int)(C:ap)(L:List eq),N1 C→N1 (bh one n s C L).1
  | 0,_,_,_,h=>h
  | n+1,s,C,L,h=>by
    unfold bh
    split
    · split
      · exact ho s C h
      · exact N1.recs ho n _ _ _ (ho s C h)
    · exact h
theorem N1.endC{C:ap}(h:N1 C) : N1 C.endC:=by
  unfold ap.endC
  exact N1.need (by decide) h
end Go.Proofs.YtpglhicfhppaiaaGreat
namespace Go.Proofs.YtpglhicfhppaiaaGreat
theorem vz:∀ n:Nat,n<256→(dW (n:Int)=sj (n:Int))∧(sj (n:Int)=false→iu (n:Int)=0)∧(128≤n→sj (n:Int)=false):=by decide +kernel
theorem sF{x:Int}(h:0≤x∧x<256) : dW x=sj x∧(sj x=false→iu x=0)∧(128≤x→sj x=false):=by
  obtain⟨n,rfl⟩:=Int.eq_ofNat_of_zero_le h.1
  obtain⟨a,b,c⟩:=vz n (by omega)
  exact⟨a,b,fun h=>c (by omega)⟩
end Go.Proofs.YtpglhicfhppaiaaGreat
namespace Go.Proofs.YtpglhicfhppaiaaGreat
theorem dV{parse:Int→Int→List Int→aV × Int}{lay:Int→aV→List Int}{dir:Int}{M:aV}{l:List Int}(h:cc parse lay dir M=some l) : parse dir M.code l=(M,0)∧l=lay dir M:=by
  unfold cc at h
  split at h
  · rename_i hh
    injection h with h
    subst h
    exact⟨hh,rfl⟩
  · cases h
theorem lD{k:Nat}{dir:Int}{M:aV}{l:List Int}(h:ft k dir M=some l) : k≠0∧jy k dir ([M.code]++l)=(M,0):=by
  unfold ft at h
  split at h
  · exact⟨by decide,(dV h).1⟩
  · exact⟨by decide,(dV h).1⟩
  · exact⟨by decide,(dV h).1⟩
  · exact⟨by decide,(dV h).1⟩
  · exact⟨by decide,(dV h).1⟩
  · cases h
theorem sW{M:aV}{l:List Int}(h:jz M=some l) : dW M.code=true∧dG M.fail=true∧M=jL M.code M.fail∧l=[(M.code+128)%256,M.fail]:=by
  unfold jz at h
  split at h
  · cases h
  split at h
  · cases h
  rename_i h1 h2
  injection h with h
  subst h
  have h3:fk M.code M.fail=true:=by
    cases hp:fk M.code M.fail
    · rw[hp] at h1;exact absurd rfl h1
    · rfl
  have h4:M=jL M.code M.fail:=by
    by_cases hm:M=jL M.code M.fail
    · exact hm
    · rw[decide_eq_false hm] at h2;exact absurd rfl h2
  unfold fk at h3
  obtain⟨h5,h6⟩:=ed h3
  exact⟨(ed h5).2,h6,h4,rfl⟩
theorem j1{dir:Int}{M:aV}{l:List Int}(hc:0≤M.code∧M.code<256)(h:bY dir M=some l) :
    (M.fail≠0∧dir=1∧dW M.code=true∧dG M.fail=true∧M=jL M.code M.fail∧l=[M.code+128,M.fail]∧M.code<128) ∨
    (M.fail=0∧iu M.code≠0∧M.code<128∧∃ l',ft (iu M.code) dir M=some l'∧l'.length<253∧l=[M.code]++l'):=by
  obtain⟨t1,t2,t3⟩:=sF hc
  unfold bY at h
  split at h
  · rename_i hf
    split at h
    · cases h
    · rename_i hd
      obtain⟨h1,h2,h3,h4⟩:=sW h
      have h5:M.code<128:=by
        by_cases h6:128≤M.code
        · have:=t3 h6
          rw[← t1,h1] at this
          cases this
        · omega
      refine .inl ⟨by simpa using hf,by simpa using hd,h1,h2,h3,?_,h5⟩
      rw[h4]
      congr 1
      omega
  · rename_i hf
    split at h
    · cases h
    · rename_i l' hl
      split at h
      · cases h
      · rename_i hn
        injection h with h
        have hk:=(lD hl).1
        have h5:M.code<128:=by
          by_cases h6:128≤M.code
          · exact absurd (t2 (t3 h6)) hk
          · omega
        simp only[decide_eq_true_eq] at hn
        exact .inr ⟨by simpa using hf,hk,h5,l',hl,by omega,h.symm⟩
theorem qa{dir:Int}{M:aV}{l:List Int}(hd:dir=0∨dir=1)(hc:0≤M.code∧M.code<256)(hf:0≤M.fail∧M.fail<256)(h:bY dir M=some l) : cL dir l=(M,0):=by
  have hdd:(dir != 0&&dir != 1)=false:=by rcases hd with rfl | rfl<;>rfl
  rcases j1 hc h with⟨h1,rfl,h2,h3,h4,rfl,h5⟩|⟨h1,h2,h3,l',h4,h5,rfl⟩
  · have ha:decide (128≤M.code+128)=true:=by simp;omega
    have hb:(M.code+128-128)%256=M.code:=by omega
    have qQ:decide (M.code+128<128)=false:=by simp;omega
    unfold cL
    simp only[List.length_cons,List.length_nil,List.getD_cons_zero,ha]
    show fm [M.code+128,M.fail]=(M,0)
    unfold fm
    simp only[List.length_cons,List.length_nil,List.getD_cons_zero,List.getD_cons_succ,hb,qQ,h2,h3]
    show(jL M.code M.fail,(0:Int))=(M,0)
    rw[← h4]
  · have ha:(decide (128≤M.code)&&dir==1)=false:=by
      have:decide (128≤M.code)=false:=by simp;omega
      rw[this];rfl
    have hl0:(((([M.code]++l').length:Nat) : Int)==0)=false:=by
      simp only[List.length_append,List.length_cons,List.length_nil,beq_eq_false_iff_ne,ne_eq];omega
    have hl1:decide (253<((([M.code]++l').length:Nat) : Int))=false:=by
      simp only[List.length_append,List.length_cons,List.length_nil,decide_eq_false_iff_not];omega
    have hg:([M.code]++l').getD 0 0=M.code:=rfl
    unfold cL
    rw[hdd,hl0,hl1,hg,ha]
    exact(lD h4).2
theorem eP{dir:Int}{M:aV}{l:List Int}(hc:0≤M.code∧M.code<256)(h:bY dir M=some l) : 0<l.length:=by
  rcases j1 hc h with⟨_,_,_,_,_,rfl,_⟩|⟨_,_,_,l',_,_,rfl⟩<;>simp
theorem uW{dir:Int}{M:aV}{l:List Int}(hc:0≤M.code∧M.code<256)(h:bY dir M=some l)(hf:(M.fail != 0)=false) : l.getD 0 0=M.code:=by
  rcases j1 hc h with⟨h1,_⟩|⟨_,_,_,l',_,_,rfl⟩
  · simp at hf;omega
  · rfl
open Go.RowKit
theorem rX{w w':World}(h:ax [] w w') : Below w.heap.size w w':=⟨h.os,h.tape,h.output,h.size,fun k hk=>h.block k hk (by simp)⟩
theorem rP{n:Int}(h:(Lit.int .u8 n).wf=true) : 0≤n∧n<256:=by
  have:=bounds_u8 h
  omega
open Go.RowKit
structure SL where
  aw:Option Addr
  kw:Nat
  ab:Option Addr
  kb:Nat
  ad:Option Addr
  kd:Nat
  ar:Option Addr
  kr:Nat
  ao:Option Addr
  ko:Nat
def gG (M:aV)(x:SL) : Array Value:=mG M.code M.fail M.addr M.count M.value M.and_ M.or_ M.addr2 M.sub M.status M.events M.messages (.slice x.aw M.words.length x.kw) (.slice x.ab M.bits.length x.kb) (.slice x.ad M.data.length x.kd) (.slice x.ar M.recs.length x.kr) M.mei M.kind M.level M.more M.next (.slice x.ao M.objects.length x.ko)
theorem mt{m:Bool}{w:World}{cs:Array Value}{M:aV}(h:aF m w cs.toList M) : ∃ x,cs=gG M x:=by
  obtain⟨vw,vb,vd,vr,vo,h0,hw,hb,hd,hr,ho,hR⟩:=h
  obtain⟨aw,kw,rfl,_,_⟩:=hw.shape
  obtain⟨ab,kb,rfl,_,_⟩:=hb.shape
  obtain⟨ad,kd,rfl,_,_⟩:=hd.shape
  obtain⟨ar,kr,rfl,_,_⟩:=hr.shape
  obtain⟨ao,ko,rfl,_,_⟩:=ho.shape
  refine⟨⟨aw,kw,ab,kb,ad,kd,ar,kr,ao,ko⟩,?_⟩
  apply Array.toList_inj.1
  rw[h0]
  rfl
theorem aF.rngs{m:Bool}{w:World}{cs:Array Value}{M:aV}(h:aF m w cs.toList M) : (0≤M.code∧M.code<256)∧(0≤M.fail∧M.fail<256):=by
  obtain⟨vw,vb,vd,vr,vo,h0,hw,hb,hd,hr,ho,hR⟩:=h
  exact⟨hR.code,hR.fail⟩
open Go.RowKit
def sY:aV:={ aV.zero with code:=7 }
open Go.RowKit
structure aW where
  unit:Int
  tid:Int
  msg:aV
def aW.zero:aW:=⟨0,0,aV.zero⟩
def zo (m:Bool)(w:World)(cs:Array Value)(F:aW) : Prop:=∃ c:Array Value,cs = #[.int .u8 F.unit,.int .u16 F.tid]++c∧aF m w c.toList F.msg∧B8 F.unit∧db F.tid
def mT (res:aW × Int)(w:World)(e:Ending)(w':World) : Prop:=∃ cs,e = .returned (.tuple #[.agg cs,.int .i64 res.2])∧zo true w' cs res.1∧ax [] w w'
theorem dC{x y:aW × Int}(h:x=y){w:World}{e:Ending}{w':World}(k:mT y w e w') : mT x w e w':=by rw[h];exact k
def xn:Array Value:=#[.int .u8 0,.int .u16 0,.int .u8 0,.int .u8 0,.int .u16 0,.int .u16 0,.int .u16 0,.int .u16 0,.int .u16 0,.int .u16 0,.int .u16 0,.int .u16 0,.int .u16 0,.int .u16 0,.slice none 0 0,.slice none 0 0,.slice none 0 0,.slice none 0 0,.int .u8 0,.int .u8 0,.int .u8 0,.int .u8 0,.int .u8 0,.slice none 0 0]
theorem cI{x:Int}{w W:World}(hu:ax [] w W) : mT (aW.zero,x) w (.returned (.tuple #[.agg xn,.int .i64 x])) W:=⟨_,rfl,⟨u6,(by kernel_rfl),aF.zero ..,(show(0:Int)≤0∧(0:Int)<256 from by decide),(show(0:Int)≤0∧(0:Int)<65536 from by decide)⟩,hu⟩
def cT (u t:Int) : aV × Int→aW × Int
  | (M,E)=>if E != 0 then (aW.zero,E) else (⟨u,t,M⟩,0)
theorem fH{dir:Int}{M:aV}{l:List Int}(h:bY dir M=some l) : l.length≤253:=by
  unfold bY at h
  split at h
  · split at h
    · cases h
    · unfold jz at h
      split at h
      · cases h
      · split at h
        · cases h
        · injection h with h
          subst h
          simp only[List.length_cons,List.length_nil]
          omega
  · split at h
    · cases h
    · split at h
      · cases h
      · rename_i hl
        injection h with h
        subst h
        simp only[decide_eq_true_eq] at hl
        simp only[List.length_append,List.length_cons,List.length_nil]
        omega
open Go.RowKit
deriving instance DecidableEq for aW
def dZ (u t:Int)(M:aV)(x:SL) : Array Value:=#[.int .u8 u,.int .u16 t,.int .u8 M.code,.int .u8 M.fail,.int .u16 M.addr,.int .u16 M.count,.int .u16 M.value,.int .u16 M.and_,.int .u16 M.or_,.int .u16 M.addr2,.int .u16 M.sub,.int .u16 M.status,.int .u16 M.events,.int .u16 M.messages,.slice x.aw M.words.length x.kw,.slice x.ab M.bits.length x.kb,.slice x.ad M.data.length x.kd,.slice x.ar M.recs.length x.kr,.int .u8 M.mei,.int .u8 M.kind,.int .u8 M.level,.int .u8 M.more,.int .u8 M.next,.slice x.ao M.objects.length x.ko]
theorem eB(u t:Int)(M:aV)(x:SL) : dZ u t M x = #[.int .u8 u,.int .u16 t]++gG M x:=by kernel_rfl
open Go.RowKit
structure Ev where
  e:Int
  f:aW
def Ev.bad (e:Int) : Ev:=⟨e,aW.zero⟩
def mS (x:Ev)(s:SL) : Array Value:=#[.int .i64 x.e,.int .u8 x.f.unit,.int .u16 x.f.tid,.int .u8 x.f.msg.code,.int .u8 x.f.msg.fail,.int .u16 x.f.msg.addr,.int .u16 x.f.msg.count,.int .u16 x.f.msg.value,.int .u16 x.f.msg.and_,.int .u16 x.f.msg.or_,.int .u16 x.f.msg.addr2,.int .u16 x.f.msg.sub,.int .u16 x.f.msg.status,.int .u16 x.f.msg.events,.int .u16 x.f.msg.messages,.slice s.aw x.f.msg.words.length s.kw,.slice s.ab x.f.msg.bits.length s.kb,.slice s.ad x.f.msg.data.length s.kd,.slice s.ar x.f.msg.recs.length s.kr,.int .u8 x.f.msg.mei,.int .u8 x.f.msg.kind,.int .u8 x.f.msg.level,.int .u8 x.f.msg.more,.int .u8 x.f.msg.next,.slice s.ao x.f.msg.objects.length s.ko]
theorem ye(x:Ev)(s:SL) : mS x s = #[.int .i64 x.e]++dZ x.f.unit x.f.tid x.f.msg s:=by kernel_rfl
def mh (m:Bool)(w:World)(x:Ev)(cs:List Value) : Prop:=∃ s,cs=(mS x s).toList∧aF m w (gG x.f.msg s).toList x.f.msg∧(0≤x.f.unit∧x.f.unit<256)∧(0≤x.f.tid∧x.f.tid<65536)
def lu (m:Bool)(w:World)(f:aW)(cs:List Value) : Prop:=∃ s,cs=(dZ f.unit f.tid f.msg s).toList∧aF m w (gG f.msg s).toList f.msg∧(0≤f.unit∧f.unit<256)∧(0≤f.tid∧f.tid<65536)
def BV (m:Bool)(w:World)(b:List Int)(cs:List Value) : Prop:=∃ v,cs=[v]∧aQ m w v b
abbrev od (m:Bool) (w:World) (v:Value) (xs:List Ev) : Prop:=aO m 66 25 (mh m) w v xs
abbrev gS (base:Nat) (w:World) (v:Value) (xs:List Ev) : Prop:=aJ base 66 25 (mh true) w v xs
theorem mh.upd{m:Bool}{w w':World}{S:List Nat}(hu:ax S w w')(hs:bX m fA S w)(x:Ev)(cs:List Value)(h:mh m w x cs) : mh m w' x cs:=by
  obtain⟨s,h1,h2,h3⟩:=h
  exact⟨s,h1,h2.upd hu hs,h3⟩
theorem od.upd'{m:Bool}{w w':World}{v:Value}{xs:List Ev}{S:List Nat}(h:od m w v xs)(hu:ax S w w')(hs:bX m (66 :: fA) S w) : od m w' v xs:=aO.upd h hu (hs.sub fun t ht=>by rw[List.mem_singleton] at ht;rw[ht];exact List.mem_cons_self ..) (mh.upd hu (hs.sub fun t ht=>List.mem_cons_of_mem _ ht))
theorem od.old{m:Bool}{w w':World}{v:Value}{xs:List Ev}(h:od m w v xs)(hu:ax [] w w') : od m w' v xs:=h.upd' hu (bX.nil _ _ _)
theorem uH(x:Ev)(s:SL) : (mS x s).toList.length=25:=by kernel_rfl
theorem mP{w:World}:aF true w (gG aV.zero ⟨none,0,none,0,none,0,none,0,none,0⟩).toList aV.zero:=aF.zero ..
theorem mQ{w0 w:World}{g:Nat}{cs:Array Value}{x:Ev}(hg:w0.heap.size≤g)(hb:w.heap[g]? = some (.cells cs 66 (0,0)))(h:mh true w x cs.toList) : gS w0.heap.size w (.slice (some ⟨g,0,none⟩) 1 1) [x]:=by
  have hh:=h
  obtain⟨s,h1,h2⟩:=hh
  have hl:cs.toList.length=25:=by rw[h1];exact uH x s
  clear h1
  refine⟨cs.toList,⟨hl,.inr ⟨g,1,cs,rfl,hg,hb,Nat.le_refl _,by unfold maxLen;omega,by simpa using hl,by rw[List.take_of_length_le];exact Nat.le_of_eq hl⟩⟩,fun j y hj=>?_⟩
  cases j with
  | succ j=>simp at hj
  | zero =>
    have hj:x=y:=by simpa using hj
    subst hj
    exact⟨cs.toList,hl,h,fun i u hi=>by simpa using hi⟩
theorem zb{α β γ δ ε ζ:Sort _}{C:Prop}{P1 P2 P3 P4:α→β→γ→δ→ε→ζ→Prop}(h:∃ a b c d e f,P1 a b c d e f∧P2 a b c d e f∧P3 a b c d e f∧P4 a b c d e f)(k:∀ a b c d e f,P1 a b c d e f→P2 a b c d e f→P3 a b c d e f→P4 a b c d e f→C) : C :=
  let ⟨a,b,c,d,e,f,h1,h2,h3,h4⟩:=h;k a b c d e f h1 h2 h3 h4
theorem jq{α β γ δ:Sort _}{C:Prop}{P1 P2 P3 P4 P5:α→β→γ→δ→Prop}(h:∃ a b c d,P1 a b c d∧P2 a b c d∧P3 a b c d∧P4 a b c d∧P5 a b c d)(k:∀ a b c d,P1 a b c d→P2 a b c d→P3 a b c d→P4 a b c d→P5 a b c d→C) : C :=
  let ⟨a,b,c,d,h1,h2,h3,h4,h5⟩:=h;k a b c d h1 h2 h3 h4 h5
theorem tP{cs:Array Value}{o n k m:Nat}{sub sub2:List Value}(hs:(cs.toList.drop o).take n=sub)(hv:(sub.drop k).take m=sub2)(hk:k+m≤n) : (cs.toList.drop (o+k)).take m=sub2:=by
  rw[← hv,← hs,List.drop_take,List.take_take,List.drop_drop,Nat.min_eq_left (by omega)]
theorem mh.ones{m:Bool}{w:World}(x:Ev)(cs:List Value)(h:mh m w x cs) : ∀ v,v∈cs→v.oneCell'=true:=by
  obtain⟨s,h1,h2,_⟩:=h
  have h3:=h2.one
  intro v hv
  rw[h1,ye,eB,Array.toList_append,Array.toList_append,List.mem_append,List.mem_append] at hv
  clear h1
  rw[Array.all_eq_true'] at h3
  rcases hv with hv|hv|hv
  · simp at hv;subst hv;rfl
  · simp at hv;rcases hv with rfl | rfl<;>rfl
  · exact h3 v (by simpa using hv)
theorem od.elt{m:Bool}{w:World}{A:Option Addr}{n c:Nat}{xs:List Ev}(h:od m w (.slice A n c) xs)(j:Nat)(hj:j<xs.length)(d:Ev) :
    ∃ b off cells t fr s,A=some ⟨b,off,none⟩∧w.heap[b]? = some (.cells cells t fr)∧(aF m w (gG (xs.getD j d).f.msg s).toList (xs.getD j d).f.msg∧(0≤(xs.getD j d).f.unit∧(xs.getD j d).f.unit<256)∧(0≤(xs.getD j d).f.tid∧(xs.getD j d).f.tid<65536))∧(cells.toList.drop (off+j*25)).take 25=(mS (xs.getD j d) s).toList:=by
  obtain⟨b,off,cells,t,fr,cs,h1,h2,h3,⟨s,h4,h5⟩,h6⟩:=aO.elt h d j hj
  exact⟨b,off,cells,t,fr,s,h1,h2,h5,h6.trans h4⟩
abbrev uA (m:Bool) (w:World) (v:Value) (xs:List aW) : Prop:=aO m 33 24 (lu m) w v xs
abbrev s0 (m:Bool) (w:World) (v:Value) (xs:List (List Int)) : Prop:=aO m 27 1 (BV m) w v xs
theorem lu.upd{m:Bool}{w w':World}{S:List Nat}(hu:ax S w w')(hs:bX m fA S w)(x:aW)(cs:List Value)(h:lu m w x cs) : lu m w' x cs:=by
  obtain⟨s,h1,h2,h3⟩:=h
  exact⟨s,h1,h2.upd hu hs,h3⟩
theorem uA.old{m:Bool}{w w':World}{v:Value}{xs:List aW}(h:uA m w v xs)(hu:ax [] w w') : uA m w' v xs:=aO.upd h hu (bX.nil _ _ _) (lu.upd hu (bX.nil _ _ _))
theorem uA.elt{m:Bool}{w:World}{A:Option Addr}{n c:Nat}{xs:List aW}(h:uA m w (.slice A n c) xs)(j:Nat)(hj:j<xs.length)(d:aW) :
    ∃ b off cells t fr s,A=some ⟨b,off,none⟩∧w.heap[b]? = some (.cells cells t fr)∧(aF m w (gG (xs.getD j d).msg s).toList (xs.getD j d).msg∧(0≤(xs.getD j d).unit∧(xs.getD j d).unit<256)∧(0≤(xs.getD j d).tid∧(xs.getD j d).tid<65536))∧(cells.toList.drop (off+j*24)).take 24=(dZ (xs.getD j d).unit (xs.getD j d).tid (xs.getD j d).msg s).toList:=by
  obtain⟨b,off,cells,t,fr,cs,h1,h2,h3,⟨s,h4,h5⟩,h6⟩:=aO.elt h d j hj
  exact⟨b,off,cells,t,fr,s,h1,h2,h5,h6.trans h4⟩
theorem s0.old{m:Bool}{w w':World}{v:Value}{xs:List (List Int)}(h:s0 m w v xs)(hu:ax [] w w') : s0 m w' v xs:=aO.upd h hu (bX.nil _ _ _) fun x cs ⟨v,h1,h2⟩=>⟨v,h1,h2.old hu⟩
theorem s0.elt{m:Bool}{w:World}{A:Option Addr}{n c:Nat}{xs:List (List Int)}(h:s0 m w (.slice A n c) xs)(j:Nat)(hj:j<xs.length) :
    ∃ b off A' c',A=some ⟨b,off,none⟩∧w.cell? ⟨b,off+j,none⟩=some (.slice A' (xs.getD j []).length c')∧aQ m w (.slice A' (xs.getD j []).length c') (xs.getD j [])∧(xs.getD j []).length≤c'∧c'≤maxLen:=by
  obtain⟨b,off,cells,t,fr,cs,h1,h2,h3,⟨v,h4,h5⟩,h6⟩:=aO.elt h [] j hj
  obtain⟨A',c',rfl,h7,h8⟩:=h5.shape
  refine⟨b,off,A',c',h1,?_,h5,h7,h8⟩
  rw[b7 h2]
  rw[h4] at h6
  have h9:=congrArg (fun z=>z[0]?) h6
  simpa using h9
open Go.RowKit
theorem xB{P:Program}(t e:TypeId)(sz:Nat){i:TypeInfo}(ht:P.underlying t=some (.slice e))(hi:P.info? e=some i)(hsz:i.size=sz)(A:Option Addr)(n c:Nat){k:Int}(h:Nat)(hk:k=(h:Int))(hh:h≤n)(hc:n≤c) :
    ∃ A':Option Addr,(∀ (kh:IntKind) (W:World),(Instr.slice t (.slice A n c) none (some (.int kh k)) none).run P W = .ok (.slice A' h c) W) ∧
      ∀ {α:Type} (m:Bool) (e':TypeId) (R:World→α→List Value→Prop) (w:World) (xs:List α),aO m e' sz R w (.slice A n c) xs→aO m e' sz R w (.slice A' h c) (xs.take h):=by
  subst hk
  obtain⟨A',h1,h2⟩:=uJ (P:=P) t e sz ht hi hsz A n c 0 h (Nat.zero_le _) hh hc
  refine⟨A',fun kh W=>?_,fun m e' R w xs hr=>by simpa using h2 m e' R w xs hr⟩
  have h3:=h1 .i64 kh W
  have hel:P.elem t=e:=by simp[Program.elem,ht]
  have hu:P.underlying t=some (.slice (P.elem t)):=by rw[hel];exact ht
  rw[run_slice_h W t A n c hu kh (h:Int) (Int.natCast_nonneg _) (by omega)]
  rw[run_slice_lh W t A n c hu .i64 kh (((0:Nat) : Int)) (h:Int) (Int.natCast_nonneg _) (by omega) (by omega)] at h3
  simpa using h3
theorem nV{o:Oper}{ev:Operand→Value}{P:Program}{w:World}{t:TypeId}{x y:Operand}{A:Option Addr}{n c:Nat}{kl:IntKind}{k:Int}{v:Value}{e:TypeId}(ho:o.op = .slice t x none (some y) none)(ht:P.underlying t=some (.slice e))(hx:ev x = .slice A n c)(hy:ev y = .int kl k)
    (hr:(Instr.slice t (.slice A n c) none (some (.int kl k)) none).run P w = .ok v w) : (execOp ev o).run P w = .ok (.value v) w:=by
  have hu:(underlying t).run P w = .ok (.slice e) w:=run_underlying ht w
  unfold execOp
  simp only[ho,Option.map_some,Option.map_none,hx,hy,Instr.sliceAt,Sem.run_bind,hu,hr,Result.andThen,Sem.run_pure]
theorem rq{P:Program}(t e:TypeId)(sz:Nat){i:TypeInfo}(ht:P.underlying t=some (.slice e))(hi:P.info? e=some i)(hsz:i.size=sz)(A:Option Addr)(n c:Nat){lo up:Int}(k h:Nat)(hlo:lo=(k:Int))(hup:up=(h:Int))(hk:k≤h)(hh:h≤n)(hc:n≤c) :
    ∃ A':Option Addr,(∀ (kl kh:IntKind) (W:World),(Instr.slice t (.slice A n c) (some (.int kl lo)) (some (.int kh up)) none).run P W = .ok (.slice A' (h-k) (c-k)) W) ∧
      ∀ {α:Type} (m:Bool) (e':TypeId) (R:World→α→List Value→Prop) (w:World) (xs:List α),aO m e' sz R w (.slice A n c) xs→aO m e' sz R w (.slice A' (h-k) (c-k)) ((xs.take h).drop k):=by
  subst hlo hup
  exact uJ t e sz ht hi hsz A n c k h hk hh hc
theorem lW{o:Oper}{ev:Operand→Value}{P:Program}{w:World}{t:TypeId}{x y z:Operand}{A:Option Addr}{n c:Nat}{kl kh:IntKind}{lo hi:Int}{v:Value}{e:TypeId}(ho:o.op = .slice t x (some y) (some z) none)(ht:P.underlying t=some (.slice e))(hx:ev x = .slice A n c)(hy:ev y = .int kl lo)(hz:ev z = .int kh hi)
    (hr:(Instr.slice t (.slice A n c) (some (.int kl lo)) (some (.int kh hi)) none).run P w = .ok v w) : (execOp ev o).run P w = .ok (.value v) w:=by
  have hu:(underlying t).run P w = .ok (.slice e) w:=run_underlying ht w
  unfold execOp
  simp only[ho,Option.map_some,Option.map_none,hx,hy,hz,Instr.sliceAt,Sem.run_bind,hu,hr,Result.andThen,Sem.run_pure]
theorem m6{P:Program}(t e:TypeId)(sz:Nat){i:TypeInfo}(ht:P.underlying t=some (.slice e))(hi:P.info? e=some i)(hsz:i.size=sz)(A:Option Addr)(n c:Nat){lo:Int}(k:Nat)(hlo:lo=(k:Int))(hk:k≤n) :
    ∃ A':Option Addr,(∀ (kl:IntKind) (W:World),(Instr.slice t (.slice A n c) (some (.int kl lo)) none none).run P W = .ok (.slice A' (n-k) (c-k)) W) ∧
      ∀ {α:Type} (m:Bool) (e':TypeId) (R:World→α→List Value→Prop) (w:World) (xs:List α),aO m e' sz R w (.slice A n c) xs→aO m e' sz R w (.slice A' (n-k) (c-k)) (xs.drop k):=by
  subst hlo
  exact eM t e sz ht hi hsz A n c k hk
open Go.RowKit
theorem xp{P:Program}{w:World}{ev:Operand→Value}{o:Oper}{x y:Operand}{ts:Array TypeId}{k:IntKind}{a b:Int}(ho:o.op = .call { callee:=.builtin .min,args:=#[x,y],argTypes:=ts })(hx:ev x = .int k a)(hy:ev y = .int k b) : (execOp ev o).run P w = .ok (.value (.int k (min a b))) w:=by
  have h:(Builtin.min_ ts o.type #[.int k a,.int k b]).run P w = .ok (.int k (min a b)) w:=by
    simp[Builtin.min_,Builtin.min2]
    split<;>simp[Int.min_def]<;>omega
  unfold execOp
  simp only[ho,resolve,invoke,builtin,Sem.run_bind,Sem.run_pure,Result.andThen_ok,List.map_toArray,List.map_cons,List.map_nil,hx,hy,h]
theorem aO.adr{α:Type}{m:Bool}{e:TypeId}{sz:Nat}{R:World→α→List Value→Prop}{w:World}{A:Option Addr}{n c:Nat}{xs:List α}(h:aO m e sz R w (.slice A n c) xs) : 0<n→∃ b off,A=some ⟨b,off,none⟩:=fun hn=>by
  obtain⟨A',c',hv,hc1,hc2,h0,h3⟩:=h
  injection hv with e1 e2 e3
  subst e1 e2 e3
  obtain⟨b,off,cells,t,fr,hA,_⟩:=h3 hn
  exact⟨b,off,hA⟩
theorem aO.cap{α:Type}{m:Bool}{e:TypeId}{sz:Nat}{R:World→α→List Value→Prop}{w:World}{A:Option Addr}{n c:Nat}{xs:List α}(h:aO m e sz R w (.slice A n c) xs) : n≤c:=by
  obtain⟨A',c',hv,h1,_⟩:=h
  injection hv with _ e2 e3
  subst e2 e3
  exact h1
theorem vt{P:Program}{w:World}{ev:Operand→Value}{o:Oper}{x y z:Operand}{t e:TypeId}{A:Option Addr}{n c:Nat}{k1 k2:IntKind}{i1 i2:Int}(ho:o.op = .slice t x none (some y) (some z))(ht:P.underlying t=some (.slice e))(hi:(P.info? e).map (·.size)=some 1)
    (hx:ev x = .slice A n c) (hy:ev y = .int k1 i1) (hz:ev z = .int k2 i2) (h1:i1=(n:Int)) (h2:i2=(n:Int)) (hc1:n≤c) (hA:0<n→∃ b off,A=some ⟨b,off,none⟩) : (execOp ev o).run P w = .ok (.value (.slice A n n)) w:=by
  subst h1 h2
  obtain⟨i0,hi0,hs⟩:=Option.map_eq_some_iff.1 hi
  have hel:P.elem t=e:=by simp[Program.elem,ht]
  have hu:P.underlying t=some (.slice (P.elem t)):=by rw[hel];exact ht
  have hr:=run_slice_hm (P:=P) w t A n c hu k1 k2 ((n:Nat) : Int) ((n:Nat) : Int) (by omega) (Int.le_refl _) (by omega)
  have hA:(if n=0 then A else A.map (·.add 0))=A:=by
    split
    · rfl
    · rename_i hne
      obtain⟨b,off,rfl⟩:=hA (by omega)
      rfl
  have hr2:(Instr.slice t (.slice A n c) none (some (.int k1 ((n:Nat) : Int))) (some (.int k2 ((n:Nat) : Int)))).run P w = .ok (.slice A n n) w:=by
    rw[hr,hel]
    simp[sizeOf,typeInfo,hi0,hs,sliced,Result.andThen]
    simpa using hA
  have hu2:(underlying t).run P w = .ok (.slice e) w:=run_underlying ht w
  unfold execOp
  simp only[ho,Option.map_some,Option.map_none,hx,hy,hz,Instr.sliceAt,Sem.run_bind,hu2,hr2,Result.andThen,Sem.run_pure]
theorem aQ.full{m:Bool}{w:World}{A:Option Addr}{n c:Nat}{xs:List Int}(h:aQ m w (.slice A n c) xs) : aQ m w (.slice A n n) xs:=by
  obtain⟨A',c',hv,hc1,hc2,h0,h3⟩:=h
  injection hv with e1 e2 e3
  subst e1 e2 e3
  refine⟨A,xs.length,rfl,Nat.le_refl _,Nat.le_trans hc1 hc2,fun hA=>?_,h3⟩
  have:=h0 hA
  omega
theorem n9{P:Program}{A:Option Addr}{c:Nat}(w:World) : (Builtin.firstCells 1 0 (.slice A 0 c)).run P w = .ok #[] w:=by
  cases A with
  | none=>simp[Builtin.firstCells]
  | some a =>
    have:=run_loadCells_list (P:=P) w a [] (fun j v hj=>by simp at hj)
    simpa [Builtin.firstCells] using this
theorem yr{P:Program}{m:Bool}{w:World}{t e:TypeId}{A:Option Addr}{n c:Nat}{ys:List Int}(ht:P.underlying t=some (.slice e))(h:aQ m w (.slice A n c) ys)(h0:ys=[]) : Src P 1 t (.slice A n c) 0 [] w:=by
  subst h0
  obtain⟨A',c',hv,hc1,hc2,h0,h3⟩:=h
  injection hv with e1 e2 e3
  subst e1 e2 e3
  exact⟨.inl ⟨e,ht⟩,fun w'=>by simp[Builtin.lenOf],n9 w,n9 w.drew,rfl,fun u hu=>by cases hu⟩
section
variable {P:Program}{n:Nat}{D:List Deferred}{F:Fr}{w:World}{K:Fr→World→Prop}{Q:Exit→Act→World→Prop}{d:Option Tmp}{t:TypeId}{s:String}{af:Array Edge}{gu:Option (Nat × Bool)}
end
end Go.Proofs.YtpglhicfhppaiaaGreat
namespace Go.Proofs.YtpglhicfhppaiaaGreat
def vE (x:Nat) : Nat:=(x/2) ^^^ (x%2*40961)
def gv:Nat→Nat→Nat
  | 0,x=>x
  | k+1,x=>vE (gv k x)
def wa (i:Nat) : Nat:=gv 8 i
theorem vS{x:Nat}(h:x<65536) : vE x<65536:=by
  unfold vE
  exact Nat.xor_lt_two_pow (n:=16) (by omega) (by omega)
theorem mK{x:Nat}(h:x<65536) : ∀ k,gv k x<65536
  | 0=>h
  | k+1=>vS (mK h k)
theorem rl{i:Nat}(h:i<256) : wa i<65536:=mK (by omega) 8
def u9 (s c:Nat) : Nat:=(s/256) ^^^ wa ((s%256) ^^^ c)
theorem rp{a b:Nat}(ha:a<256)(hb:b<256) : a ^^^ b<256:=Nat.xor_lt_two_pow (n:=8) ha hb
theorem vx{a b:Nat}(ha:a<65536)(hb:b<65536) : a ^^^ b<65536:=Nat.xor_lt_two_pow (n:=16) ha hb
theorem ul{s c:Nat}(hs:s<65536)(hc:c<256) : u9 s c<65536:=vx (by omega) (rl (rp (by omega) hc))
def xi (a b:Int) : Int:=((a.toNat ^^^ b.toNat:Nat) : Int)
theorem BX{a b:Int}(ha:0≤a∧a<256)(hb:0≤b∧b<256) : 0≤xi a b∧xi a b<256:=by
  have:=rp (a:=a.toNat) (b:=b.toNat) (by omega) (by omega)
  unfold xi
  omega
theorem wU(n:Nat) : xi (((n:Nat) : Int)/2) ((((n:Nat) : Int)%2)*40961%65536)=((vE n:Nat) : Int):=by
  unfold xi vE
  rw[show(((n:Nat) : Int)/2).toNat=n/2 from by omega,show((((n:Nat) : Int)%2)*40961%65536).toNat=n%2*40961 from by omega]
def jA (i:Int) : Int:=((wa i.toNat:Nat) : Int)
theorem oa{i:Int}(h:0≤i∧i<256) : 0≤jA i∧jA i<65536:=by
  have:=rl (i:=i.toNat) (by omega)
  unfold jA
  omega
def qA (s c:Int) : Int:=xi (s/256) (jA (xi (s%256) c))
theorem uI{s c:Int}(hs:0≤s∧s<65536)(hc:0≤c∧c<256) : qA s c=((u9 s.toNat c.toNat:Nat) : Int):=by
  unfold qA jA xi u9
  rw[show(s/256).toNat=s.toNat/256 from by omega,show(s%256).toNat=s.toNat%256 from by omega]
  simp only[Int.toNat_natCast]
theorem og{s c:Int}(hs:0≤s∧s<65536)(hc:0≤c∧c<256) : 0≤qA s c∧qA s c<65536:=by
  have:=ul (s:=s.toNat) (c:=c.toNat) (by omega) (by omega)
  rw[uI hs hc]
  omega
def cw (s:Int)(b:List Int) : Int:=b.foldl qA s
theorem iU:∀ (b:List Int){s:Int},(0≤s∧s<65536)→(∀ x,x∈b→0≤x∧x<256)→0≤cw s b∧cw s b<65536
  | [],s,hs,_=>hs
  | c :: b,s,hs,hb=>iU b (og hs (hb c (List.mem_cons_self ..))) fun x hx=>hb x (List.mem_cons_of_mem _ hx)
theorem uS(s:Int)(a b:List Int) : cw s (a++b)=cw (cw s a) b:=by unfold cw;rw[List.foldl_append]
def bQ (s:Int) : List Int:=[s%256,s/256%256]
theorem gZ(s:Int) : (bQ s).length=2:=rfl
def ez (b:List Int) : Bool:=decide (2≤b.length)&&decide (bQ (cw 65535 (b.take (b.length-2)))=b.drop (b.length-2))
open Go.RowKit
def Af (P:Program)(ty:TypeId) : Option (Nat × TypeId):=match P.underlying ty with | some (.array m e)=>some (m,e) | _=>none
theorem vA{P:Program}{ty e:TypeId}{m:Nat}(h:Af P ty=some (m,e)) : P.underlying ty=some (.array m e):=by
  unfold Af at h
  split at h
  · injection h with h
    injection h with h1 h2
    subst h1 h2
    assumption
  · cases h
theorem rV{P:Program}{w:World}{ev:Operand→Value}{o:Oper}{t e:TypeId}{x ix:Operand}{b off j m:Nat}{k:IntKind}{i:Int}(ho:o.op = .indexAddr t x ix)(ht:P.underlying t=some (.array m e))(hi:(P.info? e).map (·.size)=some 1)
    (hx:ev x = .pointer (some ⟨b,off,none⟩)) (hix:ev ix = .int k i) (hj:i=j) (hlt:j<m) : (execOp ev o).run P w = .ok (.value (.pointer (some ⟨b,off+j,none⟩))) w:=by
  subst hj
  obtain⟨i0,hi0,hs⟩:=Option.map_eq_some_iff.1 hi
  unfold execOp
  have h2:(0:Int)≤(j:Int)∧(j:Int)<(m:Int):=by omega
  simp[ho,hx,hix,Instr.indexAt,Instr.sureAddr,asIntOf,run_underlying ht,Result.andThen,h2,sizeOf,typeInfo,hi0,hs,ie,hlt]
section
variable {P:Program}{n:Nat}{D:List Deferred}{F:Fr}{w:World}{K:Fr→World→Prop}{Q:Exit→Act→World→Prop}{d:Option Tmp}{t:TypeId}{s:String}{af:Array Edge}{gu:Option (Nat × Bool)}
theorem A7{ty:TypeId}{x ix:Operand}{b off:Nat}(m j:Nat)(i:Int)(hj:i=j)(hlt:j<m)(h:K (pt d (.pointer (some ⟨b,off+j,none⟩)) F) w)
    (hx:dJ F x=some (.pointer (some ⟨b,off,none⟩)):=by kernel_rfl) (hi:vP F ix=some i:=by kernel_rfl) (hs:((Af P ty).bind fun p=>(P.info? p.2).map fun q=>(p.1,q.size),eE n d)=(some (m,1),true):=by kernel_rfl) : OG P ⟨d,.indexAddr ty x ix,t,s,af,gu⟩ n D F w K Q:=by
  simp only[Prod.mk.injEq] at hs
  obtain⟨hs,hd⟩:=hs
  obtain⟨k,hi⟩:=jZ hi
  cases he:Af P ty with
  | none=>rw[he] at hs;simp at hs
  | some p =>
    obtain⟨m',e⟩:=p
    rw[he] at hs
    obtain⟨q,hq,h3⟩:=Option.map_eq_some_iff.1 (show(P.info? e).map (fun q=>(m',q.size))=some (m,1) from hs)
    injection h3 with h4 h5
    subst h4
    exact⟨fun a ha K' hK=>eK _ rfl (rV rfl (vA he) (by rw[hq];simp[h5]) (ha.ev hx) (ha.ev hi) hj hlt) (hK _ _ _ h (ha.put hd))⟩
end
theorem zv{a b:Int}(ha:0≤a∧a<256)(hb:0≤b∧b<256) : bits .xor .u8 a b=xi a b:=u8_xor a b ha.1 ha.2 hb.1 hb.2
theorem uw{a b:Int}(ha:0≤a∧a<65536)(hb:0≤b∧b<65536) : bits .xor .u16 a b=xi a b:=u16_xor a b ha.1 ha.2 hb.1 hb.2
theorem uP{a:Int}(ha:0≤a∧a<65536) : bits .and .u16 a 1=a%2:=by
  rw[u16_and a 1 ha.1 ha.2 (by omega) (by omega)]
  show((a.toNat &&& 1:Nat) : Int)=_
  rw[Nat.and_one_is_mod]
  omega
def gl (k:Nat) : Array Value:=((List.range 256).map fun i=>if i<k then Value.int .u16 (jA i) else Value.int .u16 0).toArray
theorem dw(k:Nat) : (gl k).size=256:=by simp[gl]
theorem nk(k:Nat) : (gl k).all (·.oneCell')=true:=by
  unfold gl
  rw[List.all_toArray,List.all_eq_true]
  intro v hv
  rw[List.mem_map] at hv
  obtain⟨i,_,rfl⟩:=hv
  split<;>rfl
theorem uK{i k:Nat}(hk:k=8)(hi:i<256) : (gl i).setIfInBounds i (.int .u16 ((gv k i:Nat) : Int))=gl (i+1):=by
  subst hk
  unfold gl
  rw[List.setIfInBounds_toArray]
  congr 1
  apply List.ext_getElem?
  intro j
  rw[List.getElem?_set]
  by_cases hj:j<256
  · by_cases hij:i=j
    · subst hij
      simp[hi,jA,wa]
    · simp[hij,hj]
      congr 1
      simp only[eq_iff_iff]
      omega
  · rw[if_neg (by omega)]
    simp[hj]
theorem xq{i:Nat}(h:i<256) : (gl 256)[i]? = some (.int .u16 (jA i)):=by simp[gl,h]
def eo (s:Int)(b:List Int) : Nat→Int
  | 0=>s
  | k+1=>qA (eo s b k) (b.getD k 0)
theorem lv(s:Int)(b:List Int) : ∀ k,k≤b.length→eo s b k=cw s (b.take k)
  | 0,_=>by simp[eo,cw]
  | k+1,h=>by
    rw[List.take_succ_eq_append_getElem (by omega),uS,← lv s b k (by omega)]
    show qA _ (b.getD k 0)=_
    rw[List.getD_eq_getElem?_getD,List.getElem?_eq_getElem (by omega)]
    rfl
theorem tM{s:Int}{b:List Int}{k:Nat}(h:k=b.length) : eo s b k=cw s b:=by
  subst h
  rw[lv _ _ _ (Nat.le_refl _),List.take_length]
theorem nd{s:Int}{b:List Int}(hs:0≤s∧s<65536)(hb:∀ x,x∈b→0≤x∧x<256) : ∀ k,0≤eo s b k∧eo s b k<65536
  | 0=>hs
  | k+1=>og (nd hs hb k) (fD (by omega) hb k)
theorem uZ{i:Int}(h:0≤i) : jA ((i.toNat:Nat) : Int)=jA i:=by rw[Int.toNat_of_nonneg h]
open Go.RowKit
theorem mY{w:World}:Calls Tryz.prog 167 #[] w (bv (.agg (gl 256)) w):=by
 refine en 23 Tryz.func167 rfl<|sg<|L0<|bI (gl 0) fun c G o p q=>ng<|L0<|bI (gl 0) fun a r s t u=>nt<|sq<|sg<|?_
 refine Pl 1<|nt<|bk<|?_
 refine ir (fun x=>[(0,.pointer (some ⟨c,0,none⟩)),(1,.pointer (some ⟨a,0,none⟩)),(4,.int .i64 ((x:Nat) : Int))]) (fun(x:Nat) w'=>ax [a] r w'∧w'.heap[a]? = some (.cells (gl x) 218 (0,0))∧(x≤256)) (fun x=>256-x) 0 ⟨ax.refl _ _,t,(by(try dsimp only);omega)⟩ ?_
 rintro i g ⟨h,v,y⟩
 refine it [(0,.pointer (some ⟨c,0,none⟩)),(1,.pointer (some ⟨a,0,none⟩)),(4,.int .i64 ((i:Nat) : Int))] ?_
 have j:g.heap[a]? = some (.cells (gl i) 218 (0,0)):=v
 have H:i≤256:=y
 refine sg<|Pl 1<|nt<|sq<|?_
 have l:=ud u h s
 have m:=aE q l
 refine cb ((decide (((i:Nat) : Int)<256))) (fun e=>?_) (fun e=>?_)
 have z:=of_decide_eq_true e
 refine bG<|sq<|bk<|sg<|Pl 2<|ng<|Pl 1<|L0<|Oe (.int .u16 (IntKind.u16.wrap ((i:Nat) : Int))) (.int .u16 ((gv 0 i:Nat) : Int)) (congrArg (Value.int .u16) (oQ (x:=((i:Nat) : Int)) (by omega)))<|Pl 1<|nl<|?_
 refine tn<|sq<|sg<|Pl 1<|nt<|bk<|?_
 refine ir (fun x=>[(0,.pointer (some ⟨c,0,none⟩)),(1,.pointer (some ⟨a,0,none⟩)),(2,.int .i64 ((i:Nat) : Int)),(3,.int .u16 ((gv x i:Nat) : Int)),(4,.int .i64 ((i:Nat) : Int)),(5,.bool (decide (((i:Nat) : Int)<256))),(6,.int .i64 ((i:Nat) : Int)),(7,.int .i64 ((i:Nat) : Int)),(8,.int .u16 ((gv 0 i:Nat) : Int)),(9,.int .i64 ((x:Nat) : Int))]) (fun(x:Nat) w'=>ax [] g w'∧(x≤8)) (fun x=>8-x) 0 ⟨ax.refl _ _,(by(try dsimp only);omega)⟩ ?_
 rintro k I ⟨d,A⟩
 refine it [(0,.pointer (some ⟨c,0,none⟩)),(1,.pointer (some ⟨a,0,none⟩)),(2,.int .i64 ((i:Nat) : Int)),(3,.int .u16 ((gv k i:Nat) : Int)),(4,.int .i64 ((i:Nat) : Int)),(5,.bool (decide (((i:Nat) : Int)<256))),(6,.int .i64 ((i:Nat) : Int)),(7,.int .i64 ((i:Nat) : Int)),(8,.int .u16 ((gv 0 i:Nat) : Int)),(9,.int .i64 ((k:Nat) : Int))] ?_
 have J:k≤8:=A
 have K:=mK (x:=i) (by omega) k
 refine sg<|Pl 1<|nt<|sq<|?_
 have L:=aE m d
 refine cb ((decide (((k:Nat) : Int)<8))) (fun f=>?_) (fun f=>?_)
 have B:=of_decide_eq_true f
 refine bG<|sq<|bk<|go<|Pl 1<|L0<|Oe (.int .u16 (Int.fdiv ((gv k i:Nat) : Int) (2 ^ 1))) (.int .u16 (((gv k i:Nat) : Int)/2)) (congrArg (Value.int .u16) (jB _ _ _ (by decide)))<|Pl 1<|L0<|Oe (.int .u16 (bits .and .u16 ((gv k i:Nat) : Int) 1)) (.int .u16 (((gv k i:Nat) : Int)%2)) (congrArg (Value.int .u16) (uP (by omega)))<|Pl 1<|L0<|Oe (.int .u16 (bits .xor .u16 (((gv k i:Nat) : Int)/2) (((((gv k i:Nat) : Int)%2)*40961)%65536))) (.int .u16 ((gv (k+1) i:Nat) : Int)) (congrArg (Value.int .u16) ((uw (by omega) (by omega)).trans (wU _)))<|Pl 1<|nl<|bn<|?_
 exact tn<|go<|L0<|Oi (((k:Nat) : Int)+1)<|Pl 1<|nl<|er (k+1) ⟨d,(by(try dsimp only);omega)⟩ (by omega)
 have B:=of_decide_eq_false f
 refine xt<|tx<|tx<|bx<|tn<|go<|Pl 2<|L0<|A7 (b:=a) (off:=0) 256 i ((i:Nat) : Int) rfl (by omega)<|?_
 refine L0<|cn (hl:=(by rw[dw];simp;omega)) (ub d j) (0+i) ((gl i).setIfInBounds (0+i) (.int .u16 ((gv k i:Nat) : Int))) fun M C D=>?_
 have n:=C
 rw[Nat.zero_add,uK (by omega) (by omega)] at n
 refine nl<|bn<|tn<|go<|L0<|Oi (((i:Nat) : Int)+1)<|Pl 1<|nl<|?_
 exact er (i+1) ⟨(u1 h (uz d D) im),n,(by(try dsimp only);omega)⟩ (by omega)
 have z:=of_decide_eq_false e
 refine xt<|tx<|tx<|bx<|tn<|sg<|L0<|bZ (hz:=(by rw[dw];kernel_rfl)) j<|?_
 refine L0<|bf (hz:=(by rw[dw];kernel_rfl)) (hv:=(by rw[dw,dw])) (h1:=(nk _)) (ub l p) ((gl i)) fun N E F=>nt<|rt<|AH 256 (dw _) E<|?_
 have hi:i=256:=by omega
 subst hi
 exact⟨rfl,(ud m F o)⟩
theorem mg{m:Bool}{A:Option Addr}{cp:Nat}{b:List Int}{w:World}{s:Int}(hsl:aQ m w (.slice A b.length cp) b)(hs:0≤s∧s<65536) :
    Calls Tryz.prog 166 #[.int .u16 s,.slice A b.length cp] w (bv (.int .u16 (cw s b)) w):=by
 have hln:=aO.len hsl
 have hb:=aQ.range hsl
 refine en 26 Tryz.func166 rfl<|sg<|Pl 1<|ng<|L0<|Oc<|m1 (@mY w) fun D g=>L0<|bI (gl 0) fun c E h j l=>L0<|bf (hz:=(by rw[dw];kernel_rfl)) (hv:=(by rw[dw,dw])) (h1:=(nk _)) j ((gl 256)) fun n o q=>nt<|sq<|?_
 refine sg<|Pl 3<|nt<|bk<|?_
 refine ir (fun x=>[(0,.int .u16 (eo s b x)),(4,.int .u16 0),(5,.pointer (some ⟨c,0,none⟩)),(9,.slice A b.length cp),(10,.int .i64 ((b.length:Nat) : Int)),(11,.int .i64 ((x:Nat) : Int))]) (fun(x:Nat) w'=>ax [] n w'∧(x≤b.length)∧(0≤eo s b x∧eo s b x<65536)) (fun x=>b.length-x) 0 ⟨ax.refl _ _,(by(try dsimp only);omega),hs⟩ ?_
 rintro k F ⟨d,r,t⟩
 refine it [(0,.int .u16 (eo s b k)),(4,.int .u16 0),(5,.pointer (some ⟨c,0,none⟩)),(9,.slice A b.length cp),(10,.int .i64 ((b.length:Nat) : Int)),(11,.int .i64 ((k:Nat) : Int))] ?_
 have G:k≤b.length:=r
 have H:0≤eo s b k∧eo s b k<65536:=t
 refine sg<|Pl 1<|nt<|sq<|?_
 have f:=aE g (ud l (aE q d) h)
 refine cb ((decide (((k:Nat) : Int)<((b.length:Nat) : Int)))) (fun e=>?_) (fun e=>?_)
 have u:=of_decide_eq_true e
 refine bG<|sq<|bk<|sg<|?_
 refine gX (aQ.at_ (aQ.old hsl f) k (by omega)) fun y z B C I=>L0<|oU b.length k B (by omega)<|L0<|kY (p:=⟨y,z+k,none⟩) (v:=.int .u8 (b.getD k 0)) C<|Pl 1<|nt<|go<|Pl 1<|L0<|Oe (.int .u16 (Int.fdiv (eo s b k) (2 ^ 8))) (.int .u16 ((eo s b k)/256)) (congrArg (Value.int .u16) (jB _ _ _ (by decide)))<|Pl 3<|?_
 have J:=BX (a:=((eo s b k)%256)) (b:=(b.getD k 0)) (by omega) (by omega)
 refine L0<|Oe (.int .u8 (bits .xor .u8 ((eo s b k)%256) (b.getD k 0))) (.int .u8 (xi ((eo s b k)%256) (b.getD k 0))) (congrArg (Value.int .u8) (zv (by omega) (by omega)))<|L0<|A7 (b:=c) (off:=0) 256 (((xi ((eo s b k)%256) (b.getD k 0))).toNat) (xi ((eo s b k)%256) (b.getD k 0)) (by omega) (by omega)<|?_
 have K:=oa (i:=(xi ((eo s b k)%256) (b.getD k 0))) (by omega)
 exact L0<|kY (p:=⟨c,0+((xi ((eo s b k)%256) (b.getD k 0))).toNat,none⟩) (v:=.int .u16 (jA ((xi ((eo s b k)%256) (b.getD k 0))))) (aa (ub d o) (by rw[Nat.zero_add,xq (by omega),uZ (by omega)]))<|L0<|Oe (.int .u16 (bits .xor .u16 ((eo s b k)/256) (jA (xi ((eo s b k)%256) (b.getD k 0))))) (.int .u16 (eo s b (k+1))) (congrArg (Value.int .u16) (uw (by omega) (oa (by omega))))<|Pl 1<|nl<|bn<|tn<|go<|L0<|Oi (((k:Nat) : Int)+1)<|Pl 1<|nl<|er (k+1) ⟨d,(by(try dsimp only);omega),(nd hs hb _)⟩ (by omega)
 have u:=of_decide_eq_false e
 refine xt<|tx<|tx<|bx<|tn<|sg<|Pl 2<|nt<|rt<|rr (.int .u16 (eo s b k))<|?_
 have hk:eo s b k=cw s b:=tM (by omega)
 rw[hk]
 exact⟨rfl,f⟩
theorem nP{m:Bool}{v:Value}{b:List Int}{w:World}(h:aQ m w v b) : Calls Tryz.prog 166 #[.int .u16 65535,v] w (bv (.int .u16 (cw 65535 b)) w):=by
  obtain⟨A,cp,rfl,_,_⟩:=h.shape
  exact mg h (by decide)
theorem pX{m:Bool}{A:Option Addr}{cp:Nat}{b:List Int}{w:World}(hsl:aQ m w (.slice A b.length cp) b) :
    Calls Tryz.prog 164 #[.slice A b.length cp] w (bv (.int .u16 (cw 65535 b)) w):=by
 refine en 5 Tryz.func164 rfl<|sg<|Pl 1<|ng<|Pl 1<|L0<|Oc<|m1 (nP hsl) fun c a=>Pl 1<|nt<|rt<|?_
 refine rr (.int .u16 (cw 65535 b))<|?_
 exact⟨rfl,a⟩
theorem j9{m:Bool}{v:Value}{b:List Int}{w:World}(h:aQ m w v b) : Calls Tryz.prog 164 #[v] w (bv (.int .u16 (cw 65535 b)) w):=by
  obtain⟨A,cp,rfl,_,_⟩:=h.shape
  exact pX h
theorem fN{w:World}{s:Int}(hs:0≤s∧s<65536) : Calls Tryz.prog 163 #[.int .u16 s] w (fun e w'=>∃ v,e = .returned v∧cy w.heap.size w' v (bQ s)∧ax [] w w'):=by
 refine en 9 Tryz.func163 rfl<|sg<|Pl 1<|ng<|Pl 3<|L0<|Oe (.int .u16 (Int.fdiv s (2 ^ 8))) (.int .u16 (s/256)) (congrArg (Value.int .u16) (jB _ _ _ (by decide)))<|Pl 1<|L0<|cF (m:=2) (e:=5) #[.int .u8 (s%256),.int .u8 ((s/256)%256)] fun a g b c d=>?_
 have f:=cP b (xs:=[(s%256),((s/256)%256)]) (by as_aux_lemma=>kernel_rfl) (am (by omega) (am (by omega) aM)) (by(try simp only[List.length_cons,List.length_nil]);omega) c
 refine Pl 1<|nt<|rt<|rr (.slice (some ⟨a,0,none⟩) 2 2)<|?_
 exact⟨_,rfl,f,d⟩
theorem jC{b:List Int}{n:Nat}(h:2≤b.length)(hn:n=b.length-2) : ez b=decide (bQ (cw 65535 (b.take n))=b.drop n):=by
  subst hn
  unfold ez
  simp[h]
theorem wc{b:List Int}(h:b.length<2) : ez b=false:=by
  unfold ez
  simp
  omega
theorem pF{m:Bool}{A:Option Addr}{cp:Nat}{b:List Int}{w:World}(hsl:aQ m w (.slice A b.length cp) b)(hb:b.length≤1048576)(hcp:b.length≤cp) :
    Calls Tryz.prog 161 #[.slice A b.length cp] w (bv (.bool (ez b)) w):=by
 have hc:=aO.len hsl
 refine en 22 Tryz.func161 rfl<|sg<|Pl 1<|ng<|Pl 2<|L0<|Oi (((b.length:Nat) : Int)-2)<|Pl 1<|nt<|sq<|?_
 refine Rg 16 (fun w'=>True) fun R f=>aZ trivial fun d=>Rt 0 d<|Rt 1 d<|Rt 2 d<|u7 9 ((decide (0≤(((b.length:Nat) : Int)-2)))) (fun p=>?_) (fun p=>?_)
 have I:=of_decide_eq_true p
 refine Rt 3 d<|Rt 4 d<|u4 (xB (P:=Tryz.prog) 27 5 1 Tryz.underlying27 rfl rfl A b.length cp (k:=(((b.length:Nat) : Int)-2)) (((((b.length:Nat) : Int)-2)).toNat) (by omega) (by omega) (by omega)) fun q hrun60 i=>Rr 5 d (.slice q (((((b.length:Nat) : Int)-2)).toNat) cp) (fun _ _=>nV (kl:=.i64) (k:=(((b.length:Nat) : Int)-2)) (A:=A) (n:=b.length) (c:=cp) rfl Tryz.underlying27 (by kernel_rfl) (by kernel_rfl) (hrun60 _ _))<|Rt 9 d<|Rt 10 d<|u4 (m6 (P:=Tryz.prog) 27 5 1 Tryz.underlying27 rfl rfl A b.length cp (lo:=(((b.length:Nat) : Int)-2)) (((((b.length:Nat) : Int)-2)).toNat) (by omega) (by omega)) fun g hrun63 e=>Rr 11 d (.slice g (b.length-(((((b.length:Nat) : Int)-2)).toNat)) (cp-(((((b.length:Nat) : Int)-2)).toNat))) (fun _ _=>eL (kl:=.i64) (k:=(((b.length:Nat) : Int)-2)) (A:=A) (n:=b.length) (c:=cp) rfl Tryz.underlying27 (by kernel_rfl) (by kernel_rfl) (hrun63 _ _))<|?_
 refine R2 6 12 rfl rfl ?_ ?_
 have h:=aQ.old hsl f
 refine  Oc (args:=#[.slice q (((((b.length:Nat) : Int)-2)).toNat) cp])<|m1 (j9 (i _ _ _ _ _ h)) fun S j=>?_
 have T:=iU (b.take (((((b.length:Nat) : Int)-2)).toNat)) (s:=65535) (by decide) (aQ.range (i _ _ _ _ _ h))
 refine aZ trivial fun U=>?_
 refine R2 7 12 rfl rfl ?_ ?_
 refine  Oc<|dE (fN (s:=(cw 65535 (b.take (((((b.length:Nat) : Int)-2)).toNat)))) (by omega)) fun x y V l W X z=>aZ trivial fun Y=>?_
 refine R2 8 12 rfl rfl ?_ ?_
 refine  iv (.string (strOfNums (bQ (cw 65535 (b.take (((((b.length:Nat) : Int)-2)).toNat)))))) (cl (A:=x) (n:=(bQ (cw 65535 (b.take (((((b.length:Nat) : Int)-2)).toNat)))).length) (c:=y) rfl (by kernel_rfl) Tryz.underlying27 Tryz.underlying5 Tryz.underlying9 (l).rd)<|aZ trivial fun Z=>?_
 have B:=aE j z
 have C:=aQ.old h B
 refine R0 12 rfl<|iv (.string (strOfNums (b.drop (((((b.length:Nat) : Int)-2)).toNat)))) (cl (A:=g) (n:=(b.length-(((((b.length:Nat) : Int)-2)).toNat))) (c:=(cp-(((((b.length:Nat) : Int)-2)).toNat))) rfl (by kernel_rfl) Tryz.underlying27 Tryz.underlying5 Tryz.underlying9 (e _ _ _ _ _ C))<|aZ trivial fun r=>Rr 13 r (.bool (decide ((bQ (cw 65535 (b.take (((((b.length:Nat) : Int)-2)).toNat))))=(b.drop (((((b.length:Nat) : Int)-2)).toNat))))) (fun _ _=>ey (a:=(strOfNums (bQ (cw 65535 (b.take (((((b.length:Nat) : Int)-2)).toNat)))))) (b:=(strOfNums (b.drop (((((b.length:Nat) : Int)-2)).toNat)))) rfl (by kernel_rfl) (by kernel_rfl) (i7 (l).rd (e _ _ _ _ _ C)))<|Rt 14 r<|Rt 15 r<|re<|tn<|rt<|rr (.bool (decide ((bQ (cw 65535 (b.take (((((b.length:Nat) : Int)-2)).toNat))))=(b.drop (((((b.length:Nat) : Int)-2)).toNat)))))<|?_
 have hs:ez b=(decide ((bQ (cw 65535 (b.take (((((b.length:Nat) : Int)-2)).toNat))))=(b.drop (((((b.length:Nat) : Int)-2)).toNat)))):=(jC (by omega) (by omega))
 rw[hs]
 exact⟨rfl,(aE f B)⟩
 have D:=aE j z
 have E:=aQ.old h D
 refine  iv (.string (strOfNums (b.drop (((((b.length:Nat) : Int)-2)).toNat)))) (cl (A:=g) (n:=(b.length-(((((b.length:Nat) : Int)-2)).toNat))) (c:=(cp-(((((b.length:Nat) : Int)-2)).toNat))) rfl (by kernel_rfl) Tryz.underlying27 Tryz.underlying5 Tryz.underlying9 (e _ _ _ _ _ E))<|aZ trivial fun a0=>R0 8 rfl<|iv (.string (strOfNums (bQ (cw 65535 (b.take (((((b.length:Nat) : Int)-2)).toNat)))))) (cl (A:=x) (n:=(bQ (cw 65535 (b.take (((((b.length:Nat) : Int)-2)).toNat)))).length) (c:=y) rfl (by kernel_rfl) Tryz.underlying27 Tryz.underlying5 Tryz.underlying9 (l).rd)<|aZ trivial fun t=>Rr 13 t (.bool (decide ((bQ (cw 65535 (b.take (((((b.length:Nat) : Int)-2)).toNat))))=(b.drop (((((b.length:Nat) : Int)-2)).toNat))))) (fun _ _=>ey (a:=(strOfNums (bQ (cw 65535 (b.take (((((b.length:Nat) : Int)-2)).toNat)))))) (b:=(strOfNums (b.drop (((((b.length:Nat) : Int)-2)).toNat)))) rfl (by kernel_rfl) (by kernel_rfl) (i7 (l).rd (e _ _ _ _ _ E)))<|Rt 14 t<|Rt 15 t<|re<|tn<|rt<|rr (.bool (decide ((bQ (cw 65535 (b.take (((((b.length:Nat) : Int)-2)).toNat))))=(b.drop (((((b.length:Nat) : Int)-2)).toNat)))))<|?_
 have hs:ez b=(decide ((bQ (cw 65535 (b.take (((((b.length:Nat) : Int)-2)).toNat))))=(b.drop (((((b.length:Nat) : Int)-2)).toNat)))):=(jC (by omega) (by omega))
 rw[hs]
 exact⟨rfl,(aE f D)⟩
 have F:=aQ.old h j
 refine  iv (.string (strOfNums (b.drop (((((b.length:Nat) : Int)-2)).toNat)))) (cl (A:=g) (n:=(b.length-(((((b.length:Nat) : Int)-2)).toNat))) (c:=(cp-(((((b.length:Nat) : Int)-2)).toNat))) rfl (by kernel_rfl) Tryz.underlying27 Tryz.underlying5 Tryz.underlying9 (e _ _ _ _ _ F))<|aZ trivial fun a1=>R0 7 rfl<|Oc<|dE (fN (s:=(cw 65535 (b.take (((((b.length:Nat) : Int)-2)).toNat)))) (by omega)) fun J K a2 G a3 a4 L=>aZ trivial fun a5=>R0 8 rfl<|iv (.string (strOfNums (bQ (cw 65535 (b.take (((((b.length:Nat) : Int)-2)).toNat)))))) (cl (A:=J) (n:=(bQ (cw 65535 (b.take (((((b.length:Nat) : Int)-2)).toNat)))).length) (c:=K) rfl (by kernel_rfl) Tryz.underlying27 Tryz.underlying5 Tryz.underlying9 (G).rd)<|aZ trivial fun u=>Rr 13 u (.bool (decide ((bQ (cw 65535 (b.take (((((b.length:Nat) : Int)-2)).toNat))))=(b.drop (((((b.length:Nat) : Int)-2)).toNat))))) (fun _ _=>ey (a:=(strOfNums (bQ (cw 65535 (b.take (((((b.length:Nat) : Int)-2)).toNat)))))) (b:=(strOfNums (b.drop (((((b.length:Nat) : Int)-2)).toNat)))) rfl (by kernel_rfl) (by kernel_rfl) (i7 (G).rd (e _ _ _ _ _ F)))<|Rt 14 u<|Rt 15 u<|re<|tn<|rt<|rr (.bool (decide ((bQ (cw 65535 (b.take (((((b.length:Nat) : Int)-2)).toNat))))=(b.drop (((((b.length:Nat) : Int)-2)).toNat)))))<|?_
 have hs:ez b=(decide ((bQ (cw 65535 (b.take (((((b.length:Nat) : Int)-2)).toNat))))=(b.drop (((((b.length:Nat) : Int)-2)).toNat)))):=(jC (by omega) (by omega))
 rw[hs]
 exact⟨rfl,(aE f (aE j L))⟩
 have o:=aQ.old hsl f
 refine  iv (.string (strOfNums (b.drop (((((b.length:Nat) : Int)-2)).toNat)))) (cl (A:=g) (n:=(b.length-(((((b.length:Nat) : Int)-2)).toNat))) (c:=(cp-(((((b.length:Nat) : Int)-2)).toNat))) rfl (by kernel_rfl) Tryz.underlying27 Tryz.underlying5 Tryz.underlying9 (e _ _ _ _ _ o))<|aZ trivial fun a6=>R0 6 rfl<|Oc (args:=#[.slice q (((((b.length:Nat) : Int)-2)).toNat) cp])<|m1 (j9 (i _ _ _ _ _ o)) fun a7 M=>?_
 have a8:=iU (b.take (((((b.length:Nat) : Int)-2)).toNat)) (s:=65535) (by decide) (aQ.range (i _ _ _ _ _ o))
 refine aZ trivial fun a9=>R0 7 rfl<|Oc<|dE (fN (s:=(cw 65535 (b.take (((((b.length:Nat) : Int)-2)).toNat)))) (by omega)) fun N O aa H ab ac Q=>aZ trivial fun ad=>R0 8 rfl<|iv (.string (strOfNums (bQ (cw 65535 (b.take (((((b.length:Nat) : Int)-2)).toNat)))))) (cl (A:=N) (n:=(bQ (cw 65535 (b.take (((((b.length:Nat) : Int)-2)).toNat)))).length) (c:=O) rfl (by kernel_rfl) Tryz.underlying27 Tryz.underlying5 Tryz.underlying9 (H).rd)<|aZ trivial fun v=>Rr 13 v (.bool (decide ((bQ (cw 65535 (b.take (((((b.length:Nat) : Int)-2)).toNat))))=(b.drop (((((b.length:Nat) : Int)-2)).toNat))))) (fun _ _=>ey (a:=(strOfNums (bQ (cw 65535 (b.take (((((b.length:Nat) : Int)-2)).toNat)))))) (b:=(strOfNums (b.drop (((((b.length:Nat) : Int)-2)).toNat)))) rfl (by kernel_rfl) (by kernel_rfl) (i7 (H).rd (e _ _ _ _ _ o)))<|Rt 14 v<|Rt 15 v<|re<|tn<|rt<|rr (.bool (decide ((bQ (cw 65535 (b.take (((((b.length:Nat) : Int)-2)).toNat))))=(b.drop (((((b.length:Nat) : Int)-2)).toNat)))))<|?_
 have hs:ez b=(decide ((bQ (cw 65535 (b.take (((((b.length:Nat) : Int)-2)).toNat))))=(b.drop (((((b.length:Nat) : Int)-2)).toNat)))):=(jC (by omega) (by omega))
 rw[hs]
 exact⟨rfl,(aE f (aE M Q))⟩
 have I:=of_decide_eq_false p
 refine Ro 3 d<|Ro 4 d<|Ro 5 d<|Ro 6 d<|Ro 7 d<|Ro 8 d<|Ro 9 d<|Ro 10 d<|Ro 11 d<|Ro 12 d<|Ro 13 d<|Rt 14 d<|Rt 15 d<|re<|?_
 refine tn<|rt<|rr (.bool false)<|?_
 have hs:ez b=false:=(wc (by omega))
 rw[hs]
 exact⟨rfl,f⟩
theorem t7{m:Bool}{v:Value}{b:List Int}{w:World}(h:aQ m w v b)(hb:b.length≤1048576) : Calls Tryz.prog 161 #[v] w (bv (.bool (ez b)) w):=by
  obtain⟨A,cp,rfl,hc,_⟩:=h.shape
  exact pF h hb hc
open Go.RowKit
def fV (b:List Int) : List Int:=(b.take (b.length-2)).drop 1
theorem jO(b:List Int) : fV b=(b.take (((b.length:Nat) : Int)-2).toNat).drop 1:=by
  unfold fV
  rw[show(((b.length:Nat) : Int)-2).toNat=b.length-2 from by omega]
def eI (dir:Int)(b:List Int) : aW × Int :=
  if dir != 0&&dir != 1 then (aW.zero,1)
  else if decide ((b.length:Int)<4) then (aW.zero,2)
  else if decide (256<(b.length:Int)) then (aW.zero,3)
  else if !(ez b) then (aW.zero,10)
  else cT (b.getD 0 0) 0 (cL dir (fV b))
theorem oW{m:Bool}{A:Option Addr}{cp:Nat}{b:List Int}{w:World}{dir:Int}(hsl:aQ m w (.slice A b.length cp) b)(hb:b.length≤1048576)(hcp:b.length≤cp) :
    Calls Tryz.prog 160 #[.int .i64 dir,.slice A b.length cp] w (mT (eI dir b) w):=by
 have hln:(b.length:Int)≤1048576:=by omega
 refine en 51 Tryz.func160 rfl<|sg<|L0<|bI #[.int .u8 0,.int .u16 0,.int .u8 0,.int .u8 0,.int .u16 0,.int .u16 0,.int .u16 0,.int .u16 0,.int .u16 0,.int .u16 0,.int .u16 0,.int .u16 0,.int .u16 0,.int .u16 0,.slice none 0 0,.slice none 0 0,.slice none 0 0,.slice none 0 0,.int .u8 0,.int .u8 0,.int .u8 0,.int .u8 0,.int .u8 0,.slice none 0 0] fun aX b0 j e B=>Pl 1<|nt<|sq<|bk<|sg<|Pl 3<|cu 3 [11] 14 (((dir != 0)&&(dir != 1))) (fun K O=>?_) ?_
 refine bl 11 ((dir != 0)) (fun C=>?_) (fun C=>?_)
 have a7:=aA C
 exact Pl 3<|ce O (dir != 1) (by rw[C];rfl)
 have a7:=ai C
 exact Pl 3<|ce O false (by rw[C];rfl)
 refine Pl 1<|nt<|cb (((dir != 0)&&(dir != 1))) (fun d=>?_) (fun d=>?_)
 have Q:=(bH d).1
 have R:=(bH d).2
 have b1:=aA Q
 have b2:=aA R
 refine sg<|Pl 1<|L0<|bf e #[.int .u8 0,.int .u16 0,.int .u8 0,.int .u8 0,.int .u16 0,.int .u16 0,.int .u16 0,.int .u16 0,.int .u16 0,.int .u16 0,.int .u16 0,.int .u16 0,.int .u16 0,.int .u16 0,.slice none 0 0,.slice none 0 0,.slice none 0 0,.slice none 0 0,.int .u8 0,.int .u8 0,.int .u8 0,.int .u8 0,.int .u8 0,.slice none 0 0] fun b3 a8 a9=>Pl 1<|nt<|rt<|br<|tr<|cU a8 (.int .i64 1)<|?_
 have hs:eI dir b=(aW.zero,1):=by
   unfold eI
   (try simp only[d,Q,R,bs,if_true,if_false,decide_true,decide_false,cT,reduceIte])
   all_goals rfl
 refine dC hs ?_
 exact cI (ud B a9 j)
 refine sg<|Pl 4<|nt<|cb ((decide (((b.length:Nat) : Int)<4))) (fun f=>?_) (fun f=>?_)
 have aa:=of_decide_eq_true f
 refine sg<|Pl 1<|L0<|bf e #[.int .u8 0,.int .u16 0,.int .u8 0,.int .u8 0,.int .u16 0,.int .u16 0,.int .u16 0,.int .u16 0,.int .u16 0,.int .u16 0,.int .u16 0,.int .u16 0,.int .u16 0,.int .u16 0,.slice none 0 0,.slice none 0 0,.slice none 0 0,.slice none 0 0,.int .u8 0,.int .u8 0,.int .u8 0,.int .u8 0,.int .u8 0,.slice none 0 0] fun b4 ab ac=>Pl 1<|nt<|rt<|br<|tr<|cU ab (.int .i64 2)<|?_
 have hs:eI dir b=(aW.zero,2):=by
   unfold eI
   (try simp only[d,f,bs,if_true,if_false,decide_true,decide_false,cT,reduceIte])
   all_goals rfl
 refine dC hs ?_
 exact cI (ud B ac j)
 have aa:=of_decide_eq_false f
 refine sg<|Pl 4<|nt<|cb ((decide (256<((b.length:Nat) : Int)))) (fun h=>?_) (fun h=>?_)
 have ad:=of_decide_eq_true h
 refine sg<|Pl 1<|L0<|bf e #[.int .u8 0,.int .u16 0,.int .u8 0,.int .u8 0,.int .u16 0,.int .u16 0,.int .u16 0,.int .u16 0,.int .u16 0,.int .u16 0,.int .u16 0,.int .u16 0,.int .u16 0,.int .u16 0,.slice none 0 0,.slice none 0 0,.slice none 0 0,.slice none 0 0,.int .u8 0,.int .u8 0,.int .u8 0,.int .u8 0,.int .u8 0,.slice none 0 0] fun b5 ae af=>Pl 1<|nt<|rt<|br<|tr<|cU ae (.int .i64 3)<|?_
 have hs:eI dir b=(aW.zero,3):=by
   unfold eI
   (try simp only[d,f,h,bs,if_true,if_false,decide_true,decide_false,cT,reduceIte])
   all_goals rfl
 refine dC hs ?_
 exact cI (ud B af j)
 have ad:=of_decide_eq_false h
 refine sg<|Pl 1<|?_
 have S:=aQ.old hsl B
 refine L0<|Oc (args:=#[.slice A b.length cp])<|m1 (t7 S (by omega)) fun ag i=>Pl 2<|nt<|?_
 have T:=aE B i
 refine cb ((!(ez b))) (fun k=>?_) (fun k=>?_)
 have G:(ez b)=false:=by simpa using k
 refine sg<|Pl 1<|?_
 refine L0<|bf (ub i e) #[.int .u8 0,.int .u16 0,.int .u8 0,.int .u8 0,.int .u16 0,.int .u16 0,.int .u16 0,.int .u16 0,.int .u16 0,.int .u16 0,.int .u16 0,.int .u16 0,.int .u16 0,.int .u16 0,.slice none 0 0,.slice none 0 0,.slice none 0 0,.slice none 0 0,.int .u8 0,.int .u8 0,.int .u8 0,.int .u8 0,.int .u8 0,.slice none 0 0] fun b6 ah aj=>Pl 1<|nt<|rt<|br<|tr<|cU ah (.int .i64 10)<|?_
 have hs:eI dir b=(aW.zero,10):=by
   unfold eI
   (try simp only[d,f,h,k,G,bs,if_true,if_false,decide_true,decide_false,cT,reduceIte])
   all_goals rfl
 refine dC hs ?_
 exact cI (ud T aj j)
 have G:(ez b)=true:=by simpa using k
 refine sk<|bn<|tn<|sg<|Pl 4<|L0<|Oi (((b.length:Nat) : Int)-2)<|u4 (rq (P:=Tryz.prog) 27 5 1 Tryz.underlying27 rfl rfl A b.length cp (lo:=1) (up:=(((b.length:Nat) : Int)-2)) 1 (((((b.length:Nat) : Int)-2)).toNat) (by omega) (by omega) (by omega) (by omega) (by omega)) fun am hrun43 an=>L0<|iv (.slice am ((((((b.length:Nat) : Int)-2)).toNat)-1) (cp-1)) (lW (kl:=.i64) (kh:=.i64) (lo:=1) (hi:=(((b.length:Nat) : Int)-2)) (A:=A) (n:=b.length) (c:=cp) rfl Tryz.underlying27 (by kernel_rfl) (by kernel_rfl) (by kernel_rfl) (hrun43 _ _ _))<|?_
 obtain⟨a,D,L⟩ : ∃ M E,cL dir ((b.take (((((b.length:Nat) : Int)-2)).toNat)).drop 1)=(M,E):=⟨_,_,rfl⟩
 have U:=aQ.old S i
 have V:=jf (dir:=dir) (w:=ag) (an _ _ _ _ _ U) (by rw[List.length_drop,List.length_take];omega)
 rw[L] at V
 refine L0<|Oc<|e2 V fun ao b7 W N=>?_
 have ap:=W
 obtain⟨aq,ar,au,av,aw,ax,ay,az,aB,aC,aG,b9⟩:=ap
 obtain rfl:ao=(bt a aq ar au av aw).toArray:=by apply Array.toList_inj.1;simpa using ax
 obtain⟨l,o,rfl,_,_⟩:=ay.shape
 obtain⟨p,q,rfl,_,_⟩:=az.shape
 obtain⟨r,s,rfl,_,_⟩:=aB.shape
 obtain⟨t,u,rfl,_,_⟩:=aC.shape
 obtain⟨v,y,rfl,_,_⟩:=aG.shape
 refine Pl 3<|L0<|bI mZ fun X ba Y aH aI=>L0<|bf aH (mG a.code a.fail a.addr a.count a.value a.and_ a.or_ a.addr2 a.sub a.status a.events a.messages (.slice l a.words.length o) (.slice p a.bits.length q) (.slice r a.data.length s) (.slice t a.recs.length u) a.mei a.kind a.level a.more a.next (.slice v a.objects.length y)) fun bb aJ aM=>Pl 1<|nt<|sq<|sg<|Pl 2<|nt<|?_
 have Z:=ud aI aM Y
 have H:=aE N Z
 have a0:=aE T H
 refine cb ((D != 0)) (fun F=>?_) (fun F=>?_)
 have aN:=aA F
 refine sg<|Pl 2<|?_
 refine L0<|bf (ub (aE i H) e) #[.int .u8 0,.int .u16 0,.int .u8 0,.int .u8 0,.int .u16 0,.int .u16 0,.int .u16 0,.int .u16 0,.int .u16 0,.int .u16 0,.int .u16 0,.int .u16 0,.int .u16 0,.int .u16 0,.slice none 0 0,.slice none 0 0,.slice none 0 0,.slice none 0 0,.int .u8 0,.int .u8 0,.int .u8 0,.int .u8 0,.int .u8 0,.slice none 0 0] fun bc aO aP=>Pl 1<|nt<|rt<|tr<|cU aO (.int .i64 D)<|?_
 have hX2:cL dir (fV b)=(a,D):=(congrArg (cL dir) (jO b)).trans L
 have hs:eI dir b=(aW.zero,D):=by
   unfold eI
   (try simp only[d,f,h,k,G,F,bs,if_true,if_false,decide_true,decide_false,cT,hX2,reduceIte])
   all_goals rfl
 refine dC hs ?_
 exact cI (ud a0 aP j)
 have aN:=ai F
 refine bG<|sq<|?_
 refine gX (aQ.at_ (aQ.old U H) 0 (by omega)) fun aR aS a1 aT bd=>Rg 8 (fun w'=>w'.cell? ⟨aR,aS+0,none⟩=some (.int .u8 (b.getD 0 0))∧w'.heap[X]? = some (.cells (mG a.code a.fail a.addr a.count a.value a.and_ a.or_ a.addr2 a.sub a.status a.events a.messages (.slice l a.words.length o) (.slice p a.bits.length q) (.slice r a.data.length s) (.slice t a.recs.length u) a.mei a.kind a.level a.more a.next (.slice v a.objects.length y)) 31 (0,0))) fun be I=>?_
 have a2:=ub I aJ
 refine aZ ⟨(uc I aT),a2⟩ fun z=>Rt 0 z<|qF 1 z b.length 0 0 rfl a1 (by omega)<|Rl 2 z (fun _ hs=>hs.1)<|Rt 3 z<|Rr 4 z (.agg (mG a.code a.fail a.addr a.count a.value a.and_ a.or_ a.addr2 a.sub a.status a.events a.messages (.slice l a.words.length o) (.slice p a.bits.length q) (.slice r a.data.length s) (.slice t a.recs.length u) a.mei a.kind a.level a.more a.next (.slice v a.objects.length y))) (fun w' hs=>fM (g:=X) (off:=0) [.int .u8 a.code,.int .u8 a.fail,.int .u16 a.addr,.int .u16 a.count,.int .u16 a.value,.int .u16 a.and_,.int .u16 a.or_,.int .u16 a.addr2,.int .u16 a.sub,.int .u16 a.status,.int .u16 a.events,.int .u16 a.messages,.slice l a.words.length o,.slice p a.bits.length q,.slice r a.data.length s,.slice t a.recs.length u,.int .u8 a.mei,.int .u8 a.kind,.int .u8 a.level,.int .u8 a.more,.int .u8 a.next,.slice v a.objects.length y] rfl (by kernel_rfl) hs.2 (by kernel_rfl) (by kernel_rfl) rfl)<|Rt 5 z<|?_
 have a3:=aE H I
 have a4:=aE i a3
 refine R0 6 rfl<|bf (ub a4 e) #[.int .u8 (b.getD 0 0),.int .u16 0,.int .u8 a.code,.int .u8 a.fail,.int .u16 a.addr,.int .u16 a.count,.int .u16 a.value,.int .u16 a.and_,.int .u16 a.or_,.int .u16 a.addr2,.int .u16 a.sub,.int .u16 a.status,.int .u16 a.events,.int .u16 a.messages,.slice l a.words.length o,.slice p a.bits.length q,.slice r a.data.length s,.slice t a.recs.length u,.int .u8 a.mei,.int .u8 a.kind,.int .u8 a.level,.int .u8 a.more,.int .u8 a.next,.slice v a.objects.length y] fun bg aU J=>?_
 have a5:=uz I J
 have bh:=uz a3 J
 have bi:=uz a4 J
 have a6:=ud a0 a5 j
 refine aZ ⟨(cB (aQ.old hsl a6) a1 0 (by omega)),(aY J (Ne.symm (nb (al e) (le i.size N.size) Y)) a2)⟩ fun aV=>Rt 7 aV<|re<|tn<|rt<|cU aU (.int .i64 0)<|?_
 have hX2:cL dir (fV b)=(a,D):=(congrArg (cL dir) (jO b)).trans L
 have hs:eI dir b=(⟨(b.getD 0 0),0,a⟩,0):=by
   unfold eI
   (try simp only[d,f,h,k,G,F,bs,if_true,if_false,decide_true,decide_false,cT,hX2,reduceIte])
   all_goals rfl
 refine dC hs ?_
 exact⟨_,rfl,⟨#[.int .u8 a.code,.int .u8 a.fail,.int .u16 a.addr,.int .u16 a.count,.int .u16 a.value,.int .u16 a.and_,.int .u16 a.or_,.int .u16 a.addr2,.int .u16 a.sub,.int .u16 a.status,.int .u16 a.events,.int .u16 a.messages,.slice l a.words.length o,.slice p a.bits.length q,.slice r a.data.length s,.slice t a.recs.length u,.int .u8 a.mei,.int .u8 a.kind,.int .u8 a.level,.int .u8 a.more,.int .u8 a.next,.slice v a.objects.length y],(by as_aux_lemma=>kernel_rfl),(aF.upd W (uz Z a5) (ak (aL (ub (aE i N) e) (by decide)) aD)),b8 (x:=(b.getD 0 0)) (by omega),aK (x:=0) (by omega)⟩,a6⟩
theorem rT{m:Bool}{v:Value}{b:List Int}{w:World}{dir:Int}(h:aQ m w v b)(hb:b.length≤1048576) : Calls Tryz.prog 160 #[.int .i64 dir,v] w (mT (eI dir b) w):=by
  obtain⟨A,cp,rfl,hc,_⟩:=h.shape
  exact oW h hb hc
open Go.RowKit
theorem nW(a b c d:Int)(w:World) : (Op.equalIn 10000 24 (.agg #[.int .u8 a,.int .u16 b]) (.agg #[.int .u8 c,.int .u16 d])).run Tryz.prog w = .ok ((a==c)&&(b==d)) w:=by
  have hS:Tryz.prog.underlying 24=some (.struct (Tryz.prog.fieldsOf 24)):=by kernel_rfl
  have hp:Tryz.prog.stoodInHeld 24=false:=by kernel_rfl
  rw[show(10000:Nat)=9998+1+1 from rfl,run_equalIn_agg w (9998+1) 24 _ _ hS hp]
  simp only[Program.fieldsOf,Tryz.underlying24]
  have p0:∀ v:Int,(part 5 #[.int .u8 v,.int .u16 b] 0).run Tryz.prog w = .ok (.int .u8 v) w:=fun v=>by simp[part,isAgg,run_underlying Tryz.underlying5,Result.andThen]
  have p0':∀ v:Int,(part 5 #[.int .u8 v,.int .u16 d] 0).run Tryz.prog w = .ok (.int .u8 v) w:=fun v=>by simp[part,isAgg,run_underlying Tryz.underlying5,Result.andThen]
  have p1:∀ v u:Int,(part 22 #[.int .u8 u,.int .u16 v] 1).run Tryz.prog w = .ok (.int .u16 v) w:=fun v u=>by simp[part,isAgg,run_underlying Tryz.underlying22,Result.andThen]
  have e0:=run_equalIn_int (P:=Tryz.prog) w 9998 5 .u8 _ a c Tryz.underlying5
  have e1:=run_equalIn_int (P:=Tryz.prog) w 9998 22 .u16 _ b d Tryz.underlying22
  simp only[Op.eqFields,Sem.run_bind,p0,p0',p1,e0,e1,Result.andThen_ok,ne_eq,String.reduceEq,not_false_eq_true,if_true,Sem.run_ite]
  cases (a==c)<;>cases (b==d)<;>simp
theorem qv{ev:Operand→Value}{o:Oper}{x y:Operand}{t:TypeId}(a b c d:Int){v:Bool}{w:World}(ho:o.op = .binOp .eql 24 x y t)
    (hx:ev x = .agg #[.int .u8 a,.int .u16 b]) (hy:ev y = .agg #[.int .u8 c,.int .u16 d]) (hv:((a==c)&&(b==d))=v) : (execOp ev o).run Tryz.prog w = .ok (.value (.bool v)) w:=by
  subst hv
  have hg:(eqGuard .eql 24 x y (.agg #[.int .u8 a,.int .u16 b]) (.agg #[.int .u8 c,.int .u16 d])).run Tryz.prog w = .ok () w:=run_eqGuard_agg w _ _ _ _ _ _ (by kernel_rfl)
  unfold execOp
  simp only[ho,hx,hy,Sem.run_bind,hg,Result.andThen_ok,run_eql_struct,nW,Sem.run_pure]
theorem oY{ev:Operand→Value}{o:Oper}{x y:Operand}{t:TypeId}(a b c d:Int){v:Bool}{w:World}(ho:o.op = .binOp .neq 24 x y t)
    (hx:ev x = .agg #[.int .u8 a,.int .u16 b]) (hy:ev y = .agg #[.int .u8 c,.int .u16 d]) (hv:(!((a==c)&&(b==d)))=v) : (execOp ev o).run Tryz.prog w = .ok (.value (.bool v)) w:=by
  subst hv
  have hg:(eqGuard .neq 24 x y (.agg #[.int .u8 a,.int .u16 b]) (.agg #[.int .u8 c,.int .u16 d])).run Tryz.prog w = .ok () w:=run_eqGuard_agg w _ _ _ _ _ _ (by kernel_rfl)
  unfold execOp
  simp only[ho,hx,hy,Sem.run_bind,hg,Result.andThen_ok,run_neq_struct,nW,Sem.run_pure]
open Go.RowKit
def jW (u:Int)(l:List Int) : List Int:=([u]++l)++bQ (cw 65535 ([u]++l))
def fX (dir u t:Int)(M:aV) : Option (List Int) :=
  match bY dir M with
  | none=>none
  | some l=>if !((u==u)&&(t==0)) then none else some (jW u l)
theorem m7{m:Bool}{cs:Array Value}{M:aV}{w:World}{dir u t:Int}(h:aF m w cs.toList M)(hf:bp M)(hu:B8 u)(ht:db t) : Calls Tryz.prog 196 #[.int .i64 dir,.agg (#[.int .u8 u,.int .u16 t]++cs)] w (ef (fX dir u t M) w):=by
 have hM:=h
 obtain⟨hu1,hu2⟩:=hu
 obtain⟨ht1,ht2⟩:=ht
 obtain⟨vw,vb,vd,vr,vo,h0,hw,hbt,hd,hr,ho,hR⟩:=h
 obtain rfl:cs=(bt M vw vb vd vr vo).toArray:=by apply Array.toList_inj.1;simpa using h0
 clear h0
 obtain⟨Aw,kw,rfl,_,_⟩:=hw.shape
 obtain⟨Ab,kb,rfl,_,_⟩:=hbt.shape
 obtain⟨Ad,kd,rfl,_,_⟩:=hd.shape
 obtain⟨Ar,kr,rfl,_,_⟩:=hr.shape
 obtain⟨Ao,ko,rfl,_,_⟩:=ho.shape
 obtain⟨q0,q1,q2,q3,q4,q5,q6,q7,q8,q9,B,C,D,E,F,G,H⟩:=hR
 simp only[B8,db] at q0 q1 q2 q3 q4 q5 q6 q7 q8 q9 B C D E F G H
 refine en 38 Tryz.func196 rfl<|sg<|L0<|cz #[.int .u8 u,.int .u16 t,.int .u8 M.code,.int .u8 M.fail,.int .u16 M.addr,.int .u16 M.count,.int .u16 M.value,.int .u16 M.and_,.int .u16 M.or_,.int .u16 M.addr2,.int .u16 M.sub,.int .u16 M.status,.int .u16 M.events,.int .u16 M.messages,.slice Aw M.words.length kw,.slice Ab M.bits.length kb,.slice Ad M.data.length kd,.slice Ar M.recs.length kr,.int .u8 M.mei,.int .u8 M.kind,.int .u8 M.level,.int .u8 M.more,.int .u8 M.next,.slice Ao M.objects.length ko] fun U V W k c=>Pl 2<|ng<|Pl 2<|L0<|vU k 2 22<|?_
 rcases hwr:bY dir M with _|lw
 have l:=ec (dir:=dir) (aF.old hM c) hf
 rw[hwr] at l
 refine L0<|Oc<|m1 l fun X I=>Pl 5<|nt<|sq<|sg<|Pl 11<|nt<|c1<|sg<|Pl 2<|nl<|?_
 refine tn<|rt<|tr<|rr (.tuple #[.slice none 0 0,.int .i64 1])<|?_
 have hs:fX dir u t M=none:=by
   unfold fX
   (try simp only[hwr,bs,if_true,if_false,decide_true,decide_false,reduceIte])
   all_goals rfl
 refine cV hs ?_
 exact⟨rfl,(aE c I)⟩
 have hlw:=fH hwr
 have n:=ec (dir:=dir) (aF.old hM c) hf
 rw[hwr] at n
 refine L0<|Oc<|dE n fun Y Z a0 J a1 a2 o=>Pl 5<|nt<|sq<|sg<|Pl 4<|?_
 have g:=ub o k
 refine L1<|vU g 0 2<|Pl 2<|L1<|aN g 0<|Pl 1<|L1<|iv (.bool (!((u==u)&&(t==0)))) (oY u t u 0 rfl (by kernel_rfl) (by kernel_rfl) rfl)<|Pl 1<|nt<|?_
 have i:=aE c o
 refine cb ((!((u==u)&&(t==0)))) (fun a=>?_) (fun a=>?_)
 have b:((u==u)&&(t==0))=false:=by simpa using a
 refine sg<|Pl 2<|nt<|rt<|tr<|rr (.tuple #[.slice none 0 0,.int .i64 1])<|?_
 have hs:fX dir u t M=none:=by
   unfold fX
   (try simp only[hwr,a,b,bs,if_true,if_false,decide_true,decide_false,reduceIte])
   all_goals rfl
 refine cV hs ?_
 exact⟨rfl,i⟩
 have b:((u==u)&&(t==0))=true:=by simpa using a
 have p:=(bH b).1
 have q:=(bH b).2
 have q33nap:=az p
 have q33nbp:=az q
 refine bG<|sg<|Pl 2<|L0<|aN g 0<|L0<|cF (m:=1) (e:=5) #[.int .u8 u] fun K a3 L N d=>?_
 have r:=cP L (xs:=[u]) (by as_aux_lemma=>kernel_rfl) (am (by omega) aM) (by(try simp only[List.length_cons,List.length_nil]);omega) N
 refine Pl 1<|?_
 refine L0<|cj aX (xs:=([u])) (ys:=lw) (.int .u8 0) 1 r ((aj J d (fun x hx=>ay) (fun _ _ h=>h))).rd (by(try simp only[List.length_append,List.length_cons,List.length_nil,av,gZ]);omega) d.size fun j O a4 f v=>Pl 1<|ng<|Pl 2<|L0<|Oc (args:=#[.slice j (([u]++lw).length) O])<|m1 (j9 (f).rd) fun a5 y=>?_
 have a6:=iU ([u]++lw) (s:=65535) (by decide) (aQ.range (f).rd)
 refine L0<|Oc<|dE (fN (s:=(cw 65535 ([u]++lw))) (by omega)) fun a7 a8 a9 P aa ab z=>?_
 have A:=aE y z
 refine L0<|cj aX (xs:=([u]++lw)) (ys:=(bQ (cw 65535 ([u]++lw)))) (.int .u8 0) 1 (aj f A (fun x hx=>ay) (fun _ _ h=>h)) (P).rd (by(try simp only[List.length_append,List.length_cons,List.length_nil,av,gZ]);omega) (le (le (le d.size v.size) y.size) z.size) fun Q R ac S T=>Pl 2<|nt<|rt<|rr (.tuple #[.slice Q ((([u]++lw)++(bQ (cw 65535 ([u]++lw)))).length) R,.int .i64 0])<|?_
 have hs:fX dir u t M=(some (([u]++lw)++(bQ (cw 65535 ([u]++lw))))):=by
   unfold fX
   (try simp only[hwr,a,b,p,q,bs,if_true,if_false,decide_true,decide_false,reduceIte])
   all_goals rfl
 refine cV hs ?_
 exact⟨_,rfl,(aJ.weaken S i.size),(aE i (ut d (ut (ax.mono (S':=(ob (some ⟨K,0,none⟩)++(ob j++[]))) v (ag il aq)) (ut (ax.mono (S':=(ob j++[])) A aq) T (ag il aq)) (ag il aq)) (ag (aI r lr) (ag (aI f lr) aq))))⟩
open Go.RowKit
theorem np{m:Bool}{v:Value}{b:List Int}{w:World}{dir:Int}{F:aW}{E:Int}(hX:eI dir b=(F,E))(h:aQ m w v b)(hb:b.length≤1048576) : Calls Tryz.prog 160 #[.int .i64 dir,v] w (fun e w'=>∃ x,e = .returned (.tuple #[.agg (dZ F.unit F.tid F.msg x),.int .i64 E])∧(aF true w' (gG F.msg x).toList F.msg∧(0≤F.unit∧F.unit<256)∧(0≤F.tid∧F.tid<65536))∧ax [] w w'):=by
  refine(rT h hb).mono ?_
  rintro e w' ⟨cs,rfl,h1,h2⟩
  rw[hX] at h1 ⊢
  obtain⟨c,rfl,h3,h4,h5⟩:=h1
  obtain⟨x,rfl⟩:=mt h3
  exact⟨x,by rw[eB],⟨h3,h4,h5⟩,h2⟩
theorem ns{m:Bool}{x:SL}{M:aV}{w:World}{dir u t:Int}(hX:fX dir u t M=none)(h:aF m w (gG M x).toList M)(hf:bp M)(hu:0≤u∧u<256)(ht:0≤t∧t<65536) : Calls Tryz.prog 196 #[.int .i64 dir,.agg (dZ u t M x)] w (fun e w'=>e = .returned (.tuple #[.slice none 0 0,.int .i64 1])∧ax [] w w'):=by
  have:=m7 (dir:=dir) h hf hu ht
  rw[hX] at this
  rw[eB]
  exact this
theorem ox{m:Bool}{x:SL}{M:aV}{w:World}{dir u t:Int}{l:List Int}(hX:fX dir u t M=some l)(h:aF m w (gG M x).toList M)(hf:bp M)(hu:0≤u∧u<256)(ht:0≤t∧t<65536) : Calls Tryz.prog 196 #[.int .i64 dir,.agg (dZ u t M x)] w (fun e w'=>∃ v,e = .returned (.tuple #[v,.int .i64 0])∧cy w.heap.size w' v l∧ax [] w w'):=by
  have:=m7 (dir:=dir) h hf hu ht
  rw[hX] at this
  rw[eB]
  exact this
open Go.RowKit
structure SS where
  dir:Int
  held:List Int
  off:Bool
def dR (w:World)(g:Nat)(S:SS) : Prop:=∃ A cp,w.heap[g]? = some (.cells #[.int .i64 S.dir,.slice A S.held.length cp,.bool S.off] 127 (0,0))∧aQ true w (.slice A S.held.length cp) S.held∧S.held.length≤256∧S.held.length≤cp
def SS.feed (S:SS)(b:List Int) : SS × List Ev :=
  if S.off then (S,[]) else if decide (b.length≤256-S.held.length) then (⟨S.dir,S.held++b,false⟩,[]) else (⟨S.dir,[],true⟩,[Ev.bad 3])
def SS.tick (S:SS) : SS × List Ev:=(⟨S.dir,[],false⟩,if S.held.length=0 then [] else [⟨(eI S.dir S.held).2,(eI S.dir S.held).1⟩])
theorem dR.lt{w:World}{g:Nat}{S:SS}(h:dR w g S) : g<w.heap.size:=by
  obtain⟨A,cp,h1,_⟩:=h
  exact al h1
theorem dR.upd{w w':World}{g:Nat}{S:SS}{X:List Nat}(h:dR w g S)(hu:ax X w w')(hg:g∉X)(hs:bX true [5] X w) : dR w' g S:=by
  obtain⟨A,cp,h1,h2,h3⟩:=h
  exact⟨A,cp,hu.blk hg h1,h2.upd' hu hs,h3⟩
theorem dR.old{w w':World}{g:Nat}{S:SS}(h:dR w g S)(hu:ax [] w w') : dR w' g S:=h.upd hu (by simp) (bX.nil _ _ _)
theorem dR.cells{w:World}{g:Nat}{S:SS}(h:dR w g S) : ∃ cs fr,w.heap[g]? = some (.cells cs 127 fr):=by
  obtain⟨A,cp,h1,_⟩:=h
  exact⟨_,_,h1⟩
theorem dR.le{w:World}{g:Nat}{S:SS}(h:dR w g S) : S.held.length≤256:=by
  obtain⟨A,cp,_,_,h1,_⟩:=h
  exact h1
theorem dR.safe{w:World}{g:Nat}{S:SS}(h:dR w g S)(D:List TypeId)(hD:D.contains 127=false) : bX true D [g] w:=by
  obtain⟨A,cp,h1,_⟩:=h
  exact aL h1 hD
theorem SS.feed_le{S S2:SS}{b:List Int}{L:List Ev}(h:S.feed b=(S2,L)) : L.length≤1:=by
  have k:=congrArg Prod.snd h
  rw[show L=(S.feed b).2 from k.symm]
  unfold SS.feed
  split
  · exact Nat.zero_le _
  split
  · exact Nat.zero_le _
  · exact Nat.le_refl _
theorem SS.tick_le{S S2:SS}{L:List Ev}(h:S.tick=(S2,L)) : L.length≤1:=by
  have k:=congrArg Prod.snd h
  rw[show L=S.tick.2 from k.symm]
  unfold SS.tick
  dsimp only
  split
  · exact Nat.zero_le _
  · exact Nat.le_refl _
open Go.RowKit
theorem lI{P:Program}{sz:Nat}{A:Option Addr}{c:Nat}(w:World) : (Builtin.firstCells sz 0 (.slice A 0 c)).run P w = .ok #[] w:=by
  cases A with
  | none=>simp[Builtin.firstCells]
  | some a =>
    have:=run_loadCells_list (P:=P) w a [] (fun j v hj=>by simp at hj)
    simpa [Builtin.firstCells] using this
theorem tp{α:Type}{base sz:Nat}{e t:TypeId}{R:World→α→List Value→Prop}{w:World}{A:Option Addr}{n c g:Nat}{xs:List α}(hb:∃ cs fr,w.heap[g]? = some (.cells cs t fr))(h:aJ base e sz R w (.slice A n c) xs)(ht:(t==e)=false) : g∉ob A:=by
  obtain⟨cs,fr,hb⟩:=hb
  exact bu hb h ht
section
variable {P:Program}{n:Nat}{D:List Deferred}{F:Fr}{w:World}{K:Fr→World→Prop}{Q:Exit→Act→World→Prop}{d:Option Tmp}{t:TypeId}{s:String}{af:Array Edge}{gu:Option (Nat × Bool)}
theorem AM{α:Type}{R:World→α→List Value→Prop}{x y:Operand}{e:TypeId}{base m c:Nat}{A:Option Addr}{xs ys:List α}{mm:Bool}{e' ty:TypeId}{u:Value}(z:Value)(sz bytes:Nat)(HO:aJ base e sz R w (.slice A m c) xs)(HY:aO mm e' sz R w u ys)
    (hone:∀ x cs,R w x cs→∀ v,v∈cs→v.oneCell'=true) (hRU:∀ w',ax (ob A++[]) w w'→∀ x cs,R w x cs→R w' x cs)
    (hl:xs.length+ys.length≤4611686018427387904) (hmul:(xs.length+ys.length)*bytes≤140737488355328) (hbase:base≤w.heap.size) (h:∀ A' c' w',aJ base e sz R w' (.slice A' (xs++ys).length c') (xs++ys)→ax (ob A++[]) w w'→(∀ g,g∈ob A'→g∈ob A∨w.heap.size≤g)→K (pt d (.slice A' (xs++ys).length c') F) w')
    (hx:dJ F x=some (.slice A m c):=by kernel_rfl) (hy':dJ F y=some u:=by kernel_rfl) (he:o6 P ty=some e:=by kernel_rfl) (hs:(nB P ty,z.cells.size,(eE n d&&Nat.ble bytes 65536)&&Nat.blt 0 sz)=(some (some z,sz,bytes),sz,true):=by kernel_rfl) : OG P ⟨d,.call { callee:=.builtin .append,args:=#[x,y],argTypes:=#[ty,ty] },t,s,af,gu⟩ n D F w K Q:=by
  by_cases hne:ys=[]
  · subst hne
    simp only[Prod.mk.injEq] at hs
    have h3:=ed (ed hs.2.2).1
    obtain⟨A0,c0,e0,hc1,_⟩:=HO.rd.shape
    have e0:=e0.symm
    injection e0 with e1 e2 e3
    subst e2
    subst e1 e3
    obtain⟨B,cB,rfl,_,_⟩:=HY.shape
    have hinf:(P.info? e).map (fun i=>(i.zero,i.size,i.bytes))=some (some z,sz,bytes):=by have:=hs.1;unfold nB at this;rw[he] at this;exact this
    obtain⟨i0,hi,hz0,hz1,hz2⟩:=info_parts hinf
    have hsr:Src P i0.size ty (.slice B 0 cB) 0 [] w:=⟨.inl ⟨e,dQ he⟩,fun w'=>by simp[Builtin.lenOf],lI w,lI w.drew,by simp,fun u hu=>by cases hu⟩
    have hr:=run_append_nothing w ty ty t _ i0 (dQ he) hi A0 xs.length c0 hc1 _ hsr
    refine⟨fun a ha K' hK=>OW.mk ?_⟩
    have hx':=ha.ev hx
    have hy2:=ha.ev hy'
    simp only[List.length_nil] at hy2
    unfold Oper.wp execOp
    simp only[resolve,invoke,builtin,Sem.run_bind,Sem.run_pure,Result.andThen_ok,List.map_toArray,List.map_cons,List.map_nil,hx',hy2,hr]
    refine hK _ _ _ (h A0 c0 w (by rw[List.append_nil];exact HO) (ax.mono (S':=ob A0++[]) (ax.refl [] w) (fun x hx=>by cases hx)) (fun g hg=>.inl hg)) ?_
    rw[List.append_nil]
    exact ha.put h3.1
  · have hy:0<ys.length:=by
      cases ys with
      | nil=>exact absurd rfl hne
      | cons a r=>simp
    simp only[Prod.mk.injEq] at hs
    have h2:=ed hs.2.2
    have h3:=ed h2.1
    exact⟨fun a ha K' hK=>o9 z sz bytes rfl rfl (dQ he) (by have:=hs.1;unfold nB at this;rw[he] at this;exact this) hs.2.1 (by simpa using h2.2) xs (ha.ev hx) HO u ys (ha.ev hy') HY hy hone hRU hl hmul hbase fun A' c' w' hO hu hat=>hK _ _ _ (h A' c' w' hO hu hat) (ha.put h3.1)⟩
theorem fx{α:Type}{R:World→α→List Value→Prop}{x y:Operand}{e:TypeId}{base m c:Nat}{A:Option Addr}{xs ys:List α}{mm:Bool}{e' ty:TypeId}{u:Value}(z:Value)(sz bytes:Nat)(HO:aJ base e sz R w (.slice A m c) xs)(HY:aO mm e' sz R w u ys)
    (hone:∀ x cs,R w x cs→∀ v,v∈cs→v.oneCell'=true) (hRU:∀ w',ax (ob A++[]) w w'→∀ x cs,R w x cs→R w' x cs)
    (hl:xs.length+ys.length≤4194304) (hbase:base≤w.heap.size) (h:∀ A' c' w',aJ base e sz R w' (.slice A' (xs++ys).length c') (xs++ys)→ax (ob A++[]) w w'→(∀ g,g∈ob A'→g∈ob A∨w.heap.size≤g)→K (pt d (.slice A' (xs++ys).length c') F) w')
    (hx:dJ F x=some (.slice A m c):=by kernel_rfl) (hy':dJ F y=some u:=by kernel_rfl) (he:o6 P ty=some e:=by kernel_rfl) (hs:(nB P ty,z.cells.size,(eE n d&&Nat.ble bytes 65536)&&Nat.blt 0 sz)=(some (some z,sz,bytes),sz,true):=by kernel_rfl) : OG P ⟨d,.call { callee:=.builtin .append,args:=#[x,y],argTypes:=#[ty,ty] },t,s,af,gu⟩ n D F w K Q:=by
  have hb:bytes≤65536:=by
    simp only[Prod.mk.injEq] at hs
    simpa using (ed (ed hs.2.2).1).2
  exact AM z sz bytes HO HY hone hRU (by omega) (Nat.le_trans (Nat.mul_le_mul hl hb) (by decide)) hbase h hx hy' he hs
end
open Go.RowKit
theorem bC{α β:Type}{base sz base2 sz2:Nat}{e e2:TypeId}{R:World→α→List Value→Prop}{R2:World→β→List Value→Prop}{w:World}{A A2:Option Addr}{n c n2 c2:Nat}{xs:List α}{ys:List β}(h:aJ base e sz R w (.slice A n c) xs)(h2:aJ base2 e2 sz2 R2 w (.slice A2 n2 c2) ys)(ht:(e==e2)=false) : ∀ x,x∈ob A→x∉ob A2:=fun x hx hx2=>by
  rcases dr h with rfl|⟨g,cells,rfl,_,h1⟩
  · simp[ob] at hx
  rcases dr h2 with rfl|⟨g2,cells2,rfl,_,h3⟩
  · simp[ob] at hx2
  simp[ob] at hx hx2
  subst hx
  subst hx2
  rw[h1] at h3
  injection h3 with h3
  injection h3 with _ h3 _
  subst h3
  simp at ht
theorem jI{A A0:Option Addr}{w w0:World}{S:List Nat}(hat:∀ x,x∈ob A→x∈ob A0∨w.heap.size≤x)(h:∀ x,x∈ob A0→x∈S∨w0.heap.size≤x)(hs:w0.heap.size≤w.heap.size) : ∀ x,x∈ob A→x∈S∨w0.heap.size≤x:=fun x hx=>by
  rcases hat x hx with k|k
  · exact h x k
  · exact .inr (Nat.le_trans hs k)
theorem jg{A A1 A0:Option Addr}{w w0:World}(hat:∀ x,x∈ob A→x∈ob A1∨w.heap.size≤x)(h:∀ x,x∈ob A1→x∈ob A0∨w0.heap.size≤x)(hs:w0.heap.size≤w.heap.size) : ∀ x,x∈ob A→x∈ob A0∨w0.heap.size≤x:=jI hat h hs
theorem dS{A0:Option Addr}{w:World}:∀ x,x∈ob none→x∈ob A0∨w.heap.size≤x:=fun x hx=>by simp[ob] at hx
theorem iy{A0:Option Addr}{w:World}:∀ x,x∈ob A0→x∈ob A0∨w.heap.size≤x:=fun x hx=>.inl hx
theorem qU{w:World}:∀ x cs,n8 w x cs→∀ v,v∈cs→v.oneCell'=true:=fun x cs h v hv=>by
  rw[h.1] at hv
  simp at hv
  subst hv
  rfl
section
variable {n:Nat}{B:Option Addr}
def lA (n:Nat)(B:Option Addr)(X:List Nat) : Prop:=0<n→∀ x,x∈ob B→x∉X
theorem et:lA n B []:=fun _ x _=>by simp
theorem dF{g:Nat}{X:List Nat}(h:0<n→∀ x,x∈ob B→x≠g)(k:lA n B X) : lA n B (g :: X):=fun hn x hx=>by
  rw[List.mem_cons]
  rintro(e|e)
  · exact h hn x hx e
  · exact k hn x hx e
theorem d8{A:Option Addr}{X:List Nat}(h:lA n B (ob A))(k:lA n B X) : lA n B (ob A++X):=fun hn x hx=>by
  rw[List.mem_append]
  rintro(e|e)
  · exact h hn x hx e
  · exact k hn x hx e
theorem fe{A A0:Option Addr}{w:World}(h:lA n B (ob A0))(hl:0<n→∀ x,x∈ob B→x<w.heap.size)(hat:∀ x,x∈ob A→x∈ob A0∨w.heap.size≤x) : lA n B (ob A):=fun hn x hx hx2=>by
  rcases hat x hx2 with k|k
  · exact h hn x hx k
  · have:=hl hn x hx;omega
theorem fc{α:Type}{base sz:Nat}{e:TypeId}{R:World→α→List Value→Prop}{w w':World}{A:Option Addr}{m c:Nat}{xs:List α}(hl:0<n→∀ x,x∈ob B→x<w.heap.size)(h:aJ base e sz R w' (.slice A m c) xs)(hs:w.heap.size≤base) : lA n B (ob A):=fun hn x hx hx2=>by
  have:=hl hn x hx
  have:=dA h x hx2
  omega
theorem aO.low{α:Type}{m:Bool}{e:TypeId}{sz c:Nat}{R:World→α→List Value→Prop}{w:World}{xs:List α}(h:aO m e sz R w (.slice B n c) xs) : 0<n→∀ x,x∈ob B→x<w.heap.size:=fun hn x hx=>by
  obtain⟨A',c',hv,_,_,_,h3⟩:=h
  injection hv with e1 e2 e3
  subst e1 e2 e3
  obtain⟨b,off,cells,t,fr,rfl,hh,_⟩:=h3 hn
  simp[ob] at hx
  subst hx
  exact al hh
theorem aQ.far{m:Bool}{c:Nat}{w w':World}{xs:List Int}{X:List Nat}(h:aQ m w (.slice B n c) xs)(hu:ax X w w')(hd:lA n B X) : aQ m w' (.slice B n c) xs:=by
  obtain⟨A',c',hv,h1,h2,h0,h3⟩:=h
  injection hv with e1 e2 e3
  subst e1 e2 e3
  refine⟨_,_,rfl,h1,h2,h0,fun hp=>?_⟩
  obtain⟨b,off,cells,t,fr,rfl,hh,h4,h5⟩:=h3 hp
  exact⟨b,off,cells,t,fr,rfl,hu.blk (hd hp b (by simp[ob])) hh,h4,h5⟩
end
open Go.RowKit
def sQ (n:Nat)(X:List Nat)(w:World) : Prop:=∀ y,y∈X→n≤y∨∃ cells t fr,w.heap[y]? = some (.cells cells t fr)∧t∉fA
def bo (n:Nat)(w:World)(x:Ev)(cs:List Value) : Prop:=n≤w.heap.size∧∀ (w':World)(X:List Nat),ax X w w'→sQ n X w→mh true w' x cs
theorem bo.mk{w:World}{x:Ev}{cs:List Value}(h:mh true w x cs) : bo w.heap.size w x cs:=⟨Nat.le_refl _,fun w' X hu ha=>mh.upd hu (fun y hy=>by
  rcases ha y hy with k|k
  · exact .inl k
  · exact .inr ⟨rfl,k⟩) x cs h⟩
theorem bo.ev{n:Nat}{w:World}{x:Ev}{cs:List Value}(h:bo n w x cs) : mh true w x cs:=h.2 w [] (ax.refl _ _) (fun y hy=>by cases hy)
theorem bo.mono{n n':Nat}{w:World}{x:Ev}{cs:List Value}(hn:n≤n')(hs:n'≤w.heap.size)(h:bo n w x cs) : bo n' w x cs:=⟨hs,fun w' X hu ha=>h.2 w' X hu fun y hy=>by
  rcases ha y hy with k|k
  · exact .inl (Nat.le_trans hn k)
  · exact .inr k⟩
theorem bo.upd{n:Nat}{w w':World}{X:List Nat}{x:Ev}{cs:List Value}(hu:ax X w w')(ha:sQ n X w)(h:bo n w x cs) : bo n w' x cs:=by
  refine⟨Nat.le_trans h.1 hu.size,fun w2 X2 hu2 ha2=>h.2 w2 (X++X2) ?_ ?_⟩
  · exact ax.trans' (ax.mono hu (fun y hy=>.inl (List.mem_append_left _ hy))) hu2 (fun y hy=>.inl (List.mem_append_right _ hy))
  · intro y hy
    rcases List.mem_append.1 hy with hy|hy
    · exact ha y hy
    · rcases ha2 y hy with k | ⟨cells,t,fr,k1,k2⟩
      · exact .inl k
      · by_cases hl:y<w.heap.size
        · by_cases hX:y∈X
          · exact ha y hX
          · exact .inr ⟨cells,t,fr,by rw[← hu.block y hl hX];exact k1,k2⟩
        · exact .inl (Nat.le_trans h.1 (by omega))
theorem bo.ones{n:Nat}{w:World}:∀ (x:Ev)(cs:List Value),bo n w x cs→∀ v,v∈cs→v.oneCell'=true:=fun x cs h=>mh.ones x cs h.ev
abbrev dk (n base:Nat) (w:World) (v:Value) (xs:List Ev) : Prop:=aJ base 66 25 (bo n) w v xs
theorem aJ.map{α:Type}{base sz:Nat}{e:TypeId}{R R':World→α→List Value→Prop}{w:World}{v:Value}{xs:List α}(h:aJ base e sz R w v xs)(k:∀ x cs,R w x cs→R' w x cs) : aJ base e sz R' w v xs:=by
  obtain⟨cells,ho,hx⟩:=h
  refine⟨cells,ho,fun j x hj=>?_⟩
  obtain⟨cs,h1,h2,h3⟩:=hx j x hj
  exact⟨cs,h1,k _ _ h2,h3⟩
theorem gS.low{base:Nat}{w:World}{v:Value}{xs:List Ev}(h:gS base w v xs) : dk w.heap.size base w v xs:=aJ.map h fun _ _=>bo.mk
theorem dk.own{n base:Nat}{w:World}{v:Value}{xs:List Ev}(h:dk n base w v xs) : gS base w v xs:=aJ.map h fun _ _ q=>q.ev
theorem dk.up{n n' base:Nat}{w:World}{v:Value}{xs:List Ev}(hn:n≤n')(hs:n'≤w.heap.size)(h:dk n base w v xs) : dk n' base w v xs:=aJ.map h fun _ _ q=>q.mono hn hs
theorem bR{n:Nat}{w:World}:sQ n [] w:=fun y hy=>by cases hy
theorem eD{n g:Nat}{w:World}{cs:Array Value}{t:TypeId}{fr:Nat × Nat}{X:List Nat}(hb:w.heap[g]? = some (.cells cs t fr))(ht:fA.contains t=false)(k:sQ n X w) : sQ n (g :: X) w:=fun y hy=>by
  rcases List.mem_cons.1 hy with rfl|hy
  · exact .inr ⟨cs,t,fr,hb,by simpa using ht⟩
  · exact k y hy
theorem gw{n:Nat}{w:World}{A:Option Addr}{X:List Nat}(h:∀ x,x∈ob A→n≤x)(k:sQ n X w) : sQ n (ob A++X) w:=fun y hy=>by
  rcases List.mem_append.1 hy with hy|hy
  · exact .inl (h y hy)
  · exact k y hy
theorem iA{α:Type}{n base sz m c:Nat}{e:TypeId}{R:World→α→List Value→Prop}{w:World}{A:Option Addr}{xs:List α}{X:List Nat}(h:aJ base e sz R w (.slice A m c) xs)(ht:fA.contains e=false)(k:sQ n X w) : sQ n (ob A++X) w:=fun y hy=>by
  rcases List.mem_append.1 hy with hy|hy
  · rcases dr h with rfl | ⟨g,cells,rfl,_,h1⟩
    · simp[ob] at hy
    · simp[ob] at hy
      subst hy
      exact .inr ⟨_,_,_,h1,by simpa using ht⟩
  · exact k y hy
theorem cG{n:Nat}:∀ x,x∈ob none→n≤x:=fun x hx=>by simp[ob] at hx
theorem rc{n:Nat}{A A0:Option Addr}{w:World}(hat:∀ x,x∈ob A→x∈ob A0∨w.heap.size≤x)(h:∀ x,x∈ob A0→n≤x)(hs:n≤w.heap.size) : ∀ x,x∈ob A→n≤x:=fun x hx=>by
  rcases hat x hx with k|k
  · exact h x k
  · exact Nat.le_trans hs k
section
variable {n base g cp:Nat}{w w':World}{A:Option Addr}{X:List Nat}
theorem pT{n':Nat}(hn:n≤n')(h:∀ x,x∈ob A→n'≤x) : ∀ x,x∈ob A→n≤x:=fun x hx=>Nat.le_trans hn (h x hx)
theorem uu{k:Nat}{B:Option Addr}(hl:0<k→∀ x,x∈ob B→x<w.heap.size)(hg:w.heap.size≤g) : 0<k→∀ x,x∈ob B→x≠g:=fun hk x hx e=>by
  have:=hl hk x hx
  omega
end
theorem uN{α:Type}{b0 b1 sz:Nat}{e:TypeId}{R:World→α→List Value→Prop}{w:World}{v:Value}{xs:List α}(hb:b0≤b1)(h:aJ b1 e sz R w v xs) : aJ b0 e sz R w v xs:=by
  obtain⟨cells,⟨h1,h2⟩,h3⟩:=h
  refine⟨cells,⟨h1,?_⟩,h3⟩
  rcases h2 with h2|⟨g,cap,cur,k0,k1,k2⟩
  · exact .inl h2
  · exact .inr ⟨g,cap,cur,k0,Nat.le_trans hb k1,k2⟩
theorem vX{α:Type}{b1 sz m c:Nat}{e:TypeId}{R:World→α→List Value→Prop}{w w1:World}{A A0:Option Addr}{xs:List α}(h:aJ b1 e sz R w1 (.slice A m c) xs)(hb:w.heap.size≤b1) : ∀ x,x∈ob A→x∈ob A0∨w.heap.size≤x:=fun x hx=>.inr (Nat.le_trans hb (dA h x hx))
theorem wQ{α:Type}{n b1 sz m c:Nat}{e:TypeId}{R:World→α→List Value→Prop}{w1:World}{A:Option Addr}{xs:List α}(h:aJ b1 e sz R w1 (.slice A m c) xs)(hb:n≤b1) : ∀ x,x∈ob A→n≤x:=fun x hx=>Nat.le_trans hb (dA h x hx)
open Go.RowKit
theorem yk{base g:Nat}{w:World}{cur:Array Value}(hb:base≤g)(hg:w.heap[g]? = some (.cells cur 5 (0,0)))(hc:cur.size≤maxLen) : cy base w (.slice (some ⟨g,0,none⟩) 0 cur.size) [] :=
  ⟨[],⟨rfl,.inr ⟨g,cur.size,cur,rfl,hb,hg,Nat.zero_le _,hc,(Nat.mul_one _).symm,by simp⟩⟩,fun j x hj=>by simp at hj⟩
theorem qJ{base:Nat}{w:World}{A:Option Addr}{n c:Nat}{xs:List Int}(h:cy base w (.slice A n c) xs) : cy base w (.slice A 0 c) []:=by
  obtain⟨cells,⟨_,h2⟩,_⟩:=h
  rcases h2 with⟨e,_⟩|⟨g,cap,cur,e,h3,h4,h5,h6,h7,_⟩
  · injection e with e1 e2 e3
    subst e1 e3
    exact aJ.nil ..
  · injection e with e1 e2 e3
    subst e1 e3
    exact⟨[],⟨rfl,.inr ⟨g,c,cur,rfl,h3,h4,Nat.zero_le _,h6,h7,by simp⟩⟩,fun j x hj=>by simp at hj⟩
theorem iW{P:Program}{m:Bool}{w:World}(t ty e:TypeId)(ht:P.underlying t=some (.slice e))(hte:e=5)(hinfo:(P.info? e).map (fun i=>(i.zero,i.size,i.bytes))=some (some (.int .u8 0),1,1))
    {A:Option Addr} {xs ys:List Int} (HX:aQ true w (.slice A xs.length xs.length) xs) {u:Value} (HY:aQ m w u ys) (hl:xs.length+ys.length≤4194304) :
    ∃ A' cp w',(Builtin.append_ #[t,t] ty #[.slice A xs.length xs.length,u]).run P w = .ok (.slice A' (xs++ys).length cp) w'∧aQ true w' (.slice A' (xs++ys).length cp) (xs++ys)∧ax [] w w'∧((A'=A∧w'=w)∨∃ c,cy w.heap.size w' (.slice A' 0 c) []):=by
  subst hte
  obtain⟨i0,hi,hz0,hz1,hz2⟩:=info_parts hinfo
  obtain⟨B,c,rfl,hc1,hc2⟩:=HY.shape
  by_cases hy:ys=[]
  · have hs:=yr (P:=P) ht HY hy
    subst hy
    rw[← hz1] at hs
    rw[List.append_nil]
    exact⟨A,_,w,run_append_nothing w t t ty _ i0 ht hi A xs.length xs.length (Nat.le_refl _) _ hs,HX,ax.refl _ _,.inl ⟨rfl,rfl⟩⟩
  have hyl:0<ys.length:=by
    cases ys with
    | nil=>exact absurd rfl hy
    | cons a r=>simp
  cases B with
  | none =>
    obtain⟨B,c',hv,_,_,h0,h3⟩:=HY
    injection hv with e1 e2 e3
    subst e1 e3
    obtain⟨b,off,cells,t,fr,hh,_⟩:=h3 hyl
    cases hh
  | some ad =>
    obtain⟨_,hnews⟩:=gM aX.cell HY
    have hby:∀ x,x∈xs++ys→0≤x∧x<256:=fun x hx=>by
      rcases List.mem_append.1 hx with h|h
      · exact HX.rng x h
      · exact HY.rng x h
    have fin:∀ (cp:Nat) (w':World) (zs:Array Value),xs.length+ys.length≤cp→cp≤maxLen→zs.size=cp-(xs.length+ys.length)→w'.heap[w.heap.size]? = some (.cells (((xs++ys).map (Value.int .u8)).toArray++zs) 5 (0,0))→aQ true w' (.slice (some ⟨w.heap.size,0,none⟩) (xs++ys).length cp) (xs++ys)∧∃ c,cy w.heap.size w' (.slice (some ⟨w.heap.size,0,none⟩) 0 c) []:=fun cp w' zs h1 h2 hz h3=>by
      refine⟨⟨_,cp,rfl,by rw[List.length_append];exact h1,h2,(fun hA=>by cases hA),fun hp=>⟨w.heap.size,0,_,_,_,rfl,h3,fun _=>rfl,fun j x hj=>?_⟩⟩,_,yk (Nat.le_refl _) h3 ?_⟩
      · refine⟨[.int .u8 x],rfl,⟨rfl,hby x (List.mem_of_getElem? hj)⟩,fun i u hi=>?_⟩
        cases i with
        | succ i=>simp at hi
        | zero =>
          have hi:Value.int .u8 x=u:=by simpa using hi
          subst hi
          have hlt:=(List.getElem?_eq_some_iff.1 hj).1
          rw[Array.getElem?_append_left (by simp;simpa using hlt)]
          simp only[Nat.zero_add,Nat.mul_one,Nat.add_zero]
          rw[List.getElem?_toArray,List.getElem?_map,hj]
          rfl
      · rw[Array.size_append,hz]
        simp
        omega
    have hzc:∀ k,(Builtin.zeroCells (Value.int .u8 0).cells k).size=k:=fun k=>by simp[Builtin.zeroCells,Value.cells]
    cases A with
    | none =>
      have hx0:xs=[]:=by
        obtain⟨B,c',hv,_,_,h0,h3⟩:=HX
        injection hv with e1 e2 e3
        subst e1
        have:=h0 rfl
        exact List.eq_nil_of_length_eq_zero (by omega)
      subst hx0
      have hr:=run_append_nil (P:=P) w t ty _ i0 (.int .u8 0) ht hi hz0 ad ys.length c (ys.map (Value.int .u8)) (by rw[hz1];simp) hnews hyl (by omega) (by rw[hz2];omega)
      have f:=fin (grownCap w ys.length 0 5) (w.drew.alloc (.cells ((ys.map (Value.int .u8)).toArray++Builtin.zeroCells (Value.int .u8 0).cells (grownCap w ys.length 0 5-ys.length)) 5)) (Builtin.zeroCells (Value.int .u8 0).cells (grownCap w ys.length 0 5-ys.length)) (by simpa using grownCap_ge w ys.length 0 _) (grownCap_le_maxLen _ _ _ _ (by unfold maxLen;omega)) (by rw[hzc];simp) (by simpa using d7 w.drew _)
      exact⟨_,_,_,hr,f.1,((ax.refl _ _).drew).alloc _,.inr f.2⟩
    | some bd =>
      obtain⟨_,holds⟩:=gM aX.cell HX
      have hr:=run_append_grow (P:=P) w t ty _ i0 (.int .u8 0) ht hi hz0 bd xs.length xs.length (xs.map (Value.int .u8)) (by rw[hz1];simp) holds ad ys.length c (ys.map (Value.int .u8)) (by rw[hz1];simp) hnews (by omega) (by omega) (by
        rw[hz2]
        have:=nextslicecap_le (need:=xs.length+ys.length) (old:=xs.length) (by omega)
        omega)
      have f:=fin (grownCap w (xs.length+ys.length) xs.length 5) (w.drew.alloc (.cells ((xs.map (Value.int .u8)).toArray++(ys.map (Value.int .u8)).toArray++Builtin.zeroCells (Value.int .u8 0).cells (grownCap w (xs.length+ys.length) xs.length 5-(xs.length+ys.length))) 5)) (Builtin.zeroCells (Value.int .u8 0).cells (grownCap w (xs.length+ys.length) xs.length 5-(xs.length+ys.length))) (grownCap_ge w _ _ _) (grownCap_le_maxLen _ _ _ _ (by unfold maxLen;omega)) (by rw[hzc]) (by simpa using d7 w.drew _)
      exact⟨some ⟨w.heap.size,0,none⟩,grownCap w (xs.length+ys.length) xs.length 5,_,by rw[hr,List.length_append],f.1,((ax.refl _ _).drew).alloc _,.inr f.2⟩
section
variable {P:Program}{n:Nat}{D:List Deferred}{F:Fr}{w:World}{K:Fr→World→Prop}{Q:Exit→Act→World→Prop}{d:Option Tmp}{t:TypeId}{s:String}{af:Array Edge}{gu:Option (Nat × Bool)}
theorem AV{ty:TypeId}{x y:Operand}{m:Bool}{A:Option Addr}{xs ys:List Int}{u:Value}(HX:aQ true w (.slice A xs.length xs.length) xs)(HY:aQ m w u ys)(hl:xs.length+ys.length≤4194304)
    (h:∀ A' cp w',aQ true w' (.slice A' (xs++ys).length cp) (xs++ys)→((A'=A∧w'=w)∨∃ c,cy w.heap.size w' (.slice A' 0 c) [])→ax [] w w'→K (pt d (.slice A' (xs++ys).length cp) F) w') (hx:dJ F x=some (.slice A xs.length xs.length):=by kernel_rfl) (hy:dJ F y=some u:=by kernel_rfl)
    (hs:(o6 P ty,(P.info? 5).map (fun i=>(i.zero,i.size,i.bytes)),eE n d)=(some 5,some (some (.int .u8 0),1,1),true):=by kernel_rfl) : OG P ⟨d,.call { callee:=.builtin .append,args:=#[x,y],argTypes:=#[ty,ty] },t,s,af,gu⟩ n D F w K Q:=by
  simp only[Prod.mk.injEq] at hs
  obtain⟨h1,h2,h3⟩:=hs
  obtain⟨A',cp,w',hr,hv,hu,ho⟩:=iW (P:=P) (w:=w) ty t _ (dQ h1) rfl h2 HX HY hl
  refine⟨fun a ha K' hK=>OW.mk ?_⟩
  have hx':=ha.ev hx
  have hy':=ha.ev hy
  unfold Oper.wp execOp
  simp only[resolve,invoke,builtin,Sem.run_bind,Sem.run_pure,Result.andThen_ok,List.map_toArray,List.map_cons,List.map_nil,hx',hy',hr]
  exact hK _ _ _ (h A' cp w' hv ho hu) (ha.put h3)
end
open Go.RowKit
def cH (n base:Nat)(w:World)(g:Nat)(A:Option Addr)(c:Nat)(S:SS) : Prop:=(∃ cp,w.heap[g]? = some (.cells #[.int .i64 S.dir,.slice A S.held.length cp,.bool S.off] 127 (0,0))∧aQ true w (.slice A S.held.length cp) S.held∧S.held.length≤256∧S.held.length≤cp)∧cy base w (.slice A 0 c) []∧n≤w.heap.size∧(∀ x,x∈ob A→n≤x)∧base≤w.heap.size
section
variable {n base g c:Nat}{w w':World}{A:Option Addr}{S:SS}{X:List Nat}
theorem cH.row(h:cH n base w g A c S) : cy base w (.slice A 0 c) []:=h.2.1
theorem cH.low(h:cH n base w g A c S) : ∀ x,x∈ob A→n≤x:=h.2.2.2.1
theorem cH.nle(h:cH n base w g A c S) : n≤w.heap.size:=h.2.2.1
theorem cH.le(h:cH n base w g A c S) : S.held.length≤256:=by
  obtain⟨⟨cp,_,_,h1,_⟩,_⟩:=h
  exact h1
theorem cH.lt(h:cH n base w g A c S) : g<w.heap.size:=by
  obtain⟨⟨cp,h1,_⟩,_⟩:=h
  exact al h1
theorem cH.cells(h:cH n base w g A c S) : ∃ cs fr,w.heap[g]? = some (.cells cs 127 fr):=by
  obtain⟨⟨cp,h1,_⟩,_⟩:=h
  exact⟨_,_,h1⟩
theorem cH.upd(h:cH n base w g A c S)(hu:ax X w w')(hg:g∉X)(hr:∀ x,x∈ob A→x∉X) : cH n base w' g A c S:=by
  obtain⟨⟨cp,h1,h2,h3⟩,h4,h5,h6,h7⟩:=h
  exact⟨⟨cp,hu.blk hg h1,aQ.far h2 hu (fun _=>hr),h3⟩,aj h4 hu hr (fun _ _ q=>q),Nat.le_trans h5 hu.size,h6,Nat.le_trans h7 hu.size⟩
end
theorem bo.bad{n:Nat}{w:World}(hn:n≤w.heap.size){e:Int}{cs:List Value}(h:mh true w (Ev.bad e) cs) : bo n w (Ev.bad e) cs:=⟨hn,fun w' X hu ha=>by
  obtain⟨s,h1,h2,h3⟩:=h
  obtain⟨vw,vb,vd,vr,vo,k0,kw,kb,kd,kr,ko,kR⟩:=h2
  have nl:∀ {α:Type} {e:TypeId} {sz:Nat} {R:World→α→List Value→Prop} {v:Value},aO true e sz R w v []→aO true e sz R w' v []:=fun⟨A,c,hv,q1,q2,q3,q4⟩=>⟨A,c,hv,q1,q2,q3,fun hp=>absurd hp (Nat.lt_irrefl 0)⟩
  exact⟨s,h1,⟨vw,vb,vd,vr,vo,k0,nl kw,nl kb,nl kd,nl kr,nl ko,kR⟩,h3⟩⟩
theorem dk.nil{n base:Nat}{w:World}:dk n base w (.slice none 0 0) []:=aJ.nil ..
theorem dk.bad{n base:Nat}{w:World}{v:Value}{e:Int}(hn:n≤w.heap.size)(h:gS base w v [Ev.bad e]) : dk n base w v [Ev.bad e]:=by
  obtain⟨cells,ho,hx⟩:=h
  refine⟨cells,ho,fun j x hj=>?_⟩
  obtain⟨cs,h1,h2,h3⟩:=hx j x hj
  cases j with
  | succ j=>simp at hj
  | zero =>
    have hj:Ev.bad e=x:=by simpa using hj
    subst hj
    exact⟨cs,h1,bo.bad hn h2,h3⟩
def AE (n base:Nat)(S2:SS)(L:List Ev)(g:Nat)(A:Option Addr)(w:World)(e:Ending)(w':World) : Prop:=∃ v A2 c2 n2,e = .returned v∧dk n2 w.heap.size w' v L∧cH n2 base w' g A2 c2 S2∧(∀ x,x∈ob A2→x∈ob A∨w.heap.size≤x)∧n≤n2∧ax (g :: (ob A++[])) w w'
theorem kj{g:Nat}{A:Option Addr}{w w':World}(h:ax [g] w w') : ax (g :: (ob A++[])) w w':=ax.mono h fun x hx=>.inl (by rw[List.mem_singleton] at hx;rw[hx];exact List.mem_cons_self ..)
theorem wD{w:World}{d:Int}(hd:d=0∨d=1) : Calls Tryz.prog 46 #[.int .i64 d] w (fun e w'=>∃ g,e = .returned (.pointer (some ⟨g,0,none⟩))∧w.heap.size≤g∧cH w.heap.size w.heap.size w' g none 0 ⟨d,[],false⟩∧ax [] w w'):=by
 have h:((d != 0)&&(d != 1))=false:=by rcases hd with rfl | rfl<;>rfl
 refine en 12 Tryz.func46 rfl<|sg<|Pl 1<|nt<|sq<|sg<|Pl 3<|cu 3 [5] 8 (((d != 0)&&(d != 1))) (fun K c=>?_) ?_
 refine bl 5 ((d != 0)) (fun a=>?_) (fun a=>?_)
 have i:=aA a
 exact Pl 3<|ce c (d != 1) (by rw[a];rfl)
 have i:=ai a
 exact Pl 3<|ce c false (by rw[a];rfl)
 refine nt<|cf h<|bG<|sg<|Pl 2<|L0<|cz #[.int .i64 d,.slice none 0 0,.bool false] fun f l j k b=>Pl 1<|nt<|rt<|rr (.pointer (some ⟨f,0,none⟩))<|?_
 exact⟨f,rfl,j,⟨⟨0,k,aO.nil ..,Nat.zero_le _,Nat.zero_le _⟩,aJ.nil ..,b.size,cG,b.size⟩,b⟩
theorem vv{w:World}{n base g c:Nat}{A:Option Addr}{S:SS}(h:cH n base w g A c S) : Calls Tryz.prog 158 #[.pointer (some ⟨g,0,none⟩)] w (bv (.int .i64 ((S.held.length:Nat) : Int)) w):=by
 obtain⟨⟨cp,hb,hr,hl,hcp⟩,hrow,hn0,hlow,hbs⟩:=h
 have hcm:=aO.len hr
 refine en 8 Tryz.func158 rfl<|sg<|Pl 1<|ng<|Pl 3<|L0<|aN hb 1<|Pl 2<|nt<|rt<|?_
 refine rr (.int .i64 ((S.held.length:Nat) : Int))<|?_
 exact⟨rfl,(ax.refl [] _)⟩
theorem rQ{w:World}{n base g c:Nat}{A:Option Addr}{S:SS}(h:cH n base w g A c S){m:Bool}{B:Option Addr}{cpb:Nat}{b:List Int}(hgA:g∉ob A)(hsl:aQ m w (.slice B b.length cpb) b)(hbl:b.length≤1048576)(hcb:b.length≤cpb) :
    Calls Tryz.prog 157 #[.pointer (some ⟨g,0,none⟩),.slice B b.length cpb] w (AE n base (S.feed b).1 (S.feed b).2 g A w):=by
 obtain⟨⟨cp,hb,hr,hl,hcp⟩,hrow,hn0,hlow,hbs⟩:=h
 have hcm:=aO.len hr
 have hbm:=aO.len hsl
 refine en 53 Tryz.func157 rfl<|sg<|Pl 1<|nt<|sq<|sg<|Pl 3<|L0<|aN hb 2<|nt<|cb (S.off) (fun l=>?_) (fun l=>?_)
 refine sg<|Pl 1<|nt<|rt<|tr<|rr (.slice none 0 0)<|?_
 have hs:S.feed b=(S,[]):=by unfold SS.feed;rw[l];rfl
 rw[hs]
 exact⟨_,A,c,n,rfl,dk.nil,⟨⟨cp,hb,hr,hl,hcp⟩,aj hrow (ax.refl [] _) (fun x hx=>(by simp)) (fun _ _ q=>q),Nat.le_trans hn0 lr,hlow,Nat.le_trans hbs lr⟩,iy,Nat.le_refl _,kj (ax.mono (S':=[g]) (ax.refl [] _) aq)⟩
 refine bG<|sg<|Pl 5<|L0<|aN hb 1<|Pl 1<|L0<|Oi (256-((S.held.length:Nat) : Int))<|L0<|iv (.int .i64 (min ((b.length:Nat) : Int) (256-((S.held.length:Nat) : Int)))) (xp (a:=((b.length:Nat) : Int)) (b:=(256-((S.held.length:Nat) : Int))) rfl (by kernel_rfl) (by kernel_rfl))<|Pl 1<|nt<|sq<|Rg 23 (fun w'=>w'.cell? ⟨g,1,none⟩=some (.slice A S.held.length cp)) fun R f=>?_
 have z:=ub f hb
 refine aZ (aa z rfl) fun d=>Rt 0 d<|Rt 1 d<|Rt 2 d<|Rt 3 d<|Rl 4 d (fun _ hs=>hs)<|Rt 5 d<|Rt 6 d<|Rt 7 d<|Rl 8 d (fun _ hs=>hs)<|Rt 9 d<|Rt 10 d<|Rt 11 d<|Rt 12 d<|?_
 refine Rl 13 d (fun _ hs=>hs)<|Rt 14 d<|?_
 have u:=aQ.upd' hr f aD
 refine Rr 15 d (.slice A S.held.length S.held.length) (fun _ _=>vt (k1:=.i64) (k2:=.i64) (i1:=((S.held.length:Nat) : Int)) (i2:=((S.held.length:Nat) : Int)) (A:=A) (n:=S.held.length) (c:=cp) rfl Tryz.underlying27 (by kernel_rfl) (by kernel_rfl) (by kernel_rfl) (by kernel_rfl) rfl rfl (aO.cap u) (aO.adr u))<|Rt 16 d<|Rt 17 d<|u4 (xB (P:=Tryz.prog) 27 5 1 Tryz.underlying27 rfl rfl B b.length cpb (k:=(min ((b.length:Nat) : Int) (256-((S.held.length:Nat) : Int)))) (((min ((b.length:Nat) : Int) (256-((S.held.length:Nat) : Int)))).toNat) (by omega) (by omega) (by omega)) fun G hrun30 H=>Rr 18 d (.slice G (((min ((b.length:Nat) : Int) (256-((S.held.length:Nat) : Int)))).toNat) cpb) (fun _ _=>nV (kl:=.i64) (k:=(min ((b.length:Nat) : Int) (256-((S.held.length:Nat) : Int)))) (A:=B) (n:=b.length) (c:=cpb) rfl Tryz.underlying27 (by kernel_rfl) (by kernel_rfl) (hrun30 _ _))<|?_
 refine R0 19 rfl<|AV (xs:=S.held) (ys:=(b.take (((min ((b.length:Nat) : Int) (256-((S.held.length:Nat) : Int)))).toNat))) (u).full (H _ _ _ _ _ (aQ.upd' hsl f aD)) (by(try simp only[List.length_take]);omega) fun o C T I J j=>?_
 have v:=ub j z
 refine aZ (aa v rfl) fun D=>Rt 20 D<|Rt 21 D<|BK 22 rfl<|cn v 1 #[.int .i64 S.dir,.slice o ((S.held++(b.take (((min ((b.length:Nat) : Int) (256-((S.held.length:Nat) : Int)))).toNat))).length) C,.bool S.off] fun E F i=>re<|tn<|sq<|sg<|Pl 4<|nt<|?_
 have p:=uz f (uz j i)
 refine cb (((min ((b.length:Nat) : Int) (256-((S.held.length:Nat) : Int)))==((b.length:Nat) : Int))) (fun y=>?_) (fun y=>?_)
 have K:=az y
 refine sg<|Pl 1<|nt<|rt<|tr<|rr (.slice none 0 0)<|?_
 have hle:b.length≤256-S.held.length:=by omega
 have hs:S.feed b=(⟨S.dir,S.held++b,false⟩,[]):=by unfold SS.feed;rw[l,decide_eq_true hle];rfl
 rw[hs]
 have hz:(b.take (((min ((b.length:Nat) : Int) (256-((S.held.length:Nat) : Int)))).toNat))=b:=List.take_of_length_le (by omega)
 have hB:=F
 have hR:=(aQ.upd' I i (ak (aL v (by decide)) aD))
 rw[hz] at hB hR
 have hsh:=hR.cap
 have hgr:g∉ob A:=fun e=>hgA e
 have fin:∀ c2,cy base E (.slice o 0 c2) []→(∀ x,x∈ob o→n≤x)→(∀ x,x∈ob o→x∈ob A∨w.heap.size≤x)→AE n base ⟨S.dir,S.held++b,false⟩ [] g A w (.returned (.slice none 0 0)) E:=fun c2 k1 k2 k3=>⟨_,o,c2,n,rfl,dk.nil,⟨⟨C,by rw[← l];exact hB,hR,by rw[List.length_append];omega,hsh⟩,k1,Nat.le_trans hn0 p.size,k2,Nat.le_trans hbs p.size⟩,k3,Nat.le_refl _,kj p⟩
 rcases J with⟨e1,e2⟩|⟨c2,k⟩
 · refine fin c ?_ ?_ ?_
   · rw[e1];exact aj hrow p (fun x hx=>(by rw[List.mem_singleton];intro e;exact hgA (e▸hx))) (fun _ _ q=>q)
   · rw[e1];exact hlow
   · rw[e1];exact iy
 · refine fin c2 ?_ ?_ ?_
   · exact aJ.weaken (aj k i (fun x hx=>(by rw[List.mem_singleton];intro e;have:=dA k x hx;have:=al hb;have:=f.size;omega)) (fun _ _ q=>q)) (Nat.le_trans hbs f.size)
   · exact fun x hx=>Nat.le_trans (Nat.le_trans hn0 f.size) (dA k x hx)
   · exact fun x hx=>.inr (Nat.le_trans f.size (dA k x hx))
 have K:=aC y
 refine bG<|sg<|Pl 4<|L0<|cn F 1 #[.int .i64 S.dir,.slice none 0 0,.bool S.off] fun U L r=>Pl 2<|L0<|cn L 2 #[.int .i64 S.dir,.slice none 0 0,.bool true] fun V M s=>ng<|Pl 1<|L0<|cF (m:=1) (e:=66) #[.int .i64 3,.int .u8 0,.int .u16 0,.int .u8 0,.int .u8 0,.int .u16 0,.int .u16 0,.int .u16 0,.int .u16 0,.int .u16 0,.int .u16 0,.int .u16 0,.int .u16 0,.int .u16 0,.int .u16 0,.slice none 0 0,.slice none 0 0,.slice none 0 0,.slice none 0 0,.int .u8 0,.int .u8 0,.int .u8 0,.int .u8 0,.int .u8 0,.slice none 0 0] fun N W O Q t=>?_
 refine Pl 1<|nt<|rt<|rr (.slice (some ⟨N,0,none⟩) 1 1)<|?_
 have hle:¬ b.length≤256-S.held.length:=by omega
 have hs:S.feed b=(⟨S.dir,[],true⟩,[Ev.bad 3]):=by unfold SS.feed;rw[l,decide_eq_false hle];rfl
 rw[hs]
 have hE:=mQ (w0:=w) (x:=Ev.bad 3) (Nat.le_trans (le (le (le (le f.size j.size) i.size) r.size) s.size) O) Q ⟨⟨none,0,none,0,none,0,none,0,none,0⟩,by kernel_rfl,mP,by decide,by decide⟩
 exact⟨_,none,0,n,rfl,dk.bad (Nat.le_trans hn0 (le (le (le (le (le f.size j.size) i.size) r.size) s.size) t.size)) hE,⟨⟨0,(ub t M),aO.nil ..,(Nat.zero_le _),(Nat.zero_le _)⟩,aJ.nil ..,Nat.le_trans hn0 (le (le (le (le (le f.size j.size) i.size) r.size) s.size) t.size),cG,Nat.le_trans hbs (le (le (le (le (le f.size j.size) i.size) r.size) s.size) t.size)⟩,dS,Nat.le_refl _,kj (u1 p (u1 r (aE s t) im) im)⟩
theorem rR{w:World}{n base g c:Nat}{A:Option Addr}{S:SS}(h:cH n base w g A c S) : Calls Tryz.prog 159 #[.pointer (some ⟨g,0,none⟩)] w (AE n base S.tick.1 S.tick.2 g A w):=by
 obtain⟨⟨cp,hb,hr,hl,hcp⟩,hrow,hn0,hlow,hbs⟩:=h
 have hcm:=aO.len hr
 refine en 32 Tryz.func159 rfl<|sg<|Pl 1<|ng<|Pl 3<|L0<|aN hb 1<|Pl 1<|nt<|sq<|?_
 refine go<|Pl 4<|L0<|cn hb 1 #[.int .i64 S.dir,.slice none 0 0,.bool S.off] fun L u d=>Pl 2<|L0<|cn u 2 #[.int .i64 S.dir,.slice none 0 0,.bool false] fun v l f=>nt<|sq<|sg<|Pl 3<|nt<|?_
 have b:=u1 d f im
 refine cb ((((S.held.length:Nat) : Int)==0)) (fun o=>?_) (fun o=>?_)
 have y:=az o
 refine sg<|Pl 1<|nt<|rt<|tr<|rr (.slice none 0 0)<|?_
 have hs:S.tick=(⟨S.dir,[],false⟩,[]):=by unfold SS.tick;rw[if_pos (by omega)]
 rw[hs]
 exact⟨_,none,0,v.heap.size,rfl,dk.nil,⟨⟨0,l,aO.nil ..,(Nat.zero_le _),(Nat.zero_le _)⟩,aJ.nil ..,Nat.le_refl _,cG,Nat.le_trans hbs b.size⟩,dS,Nat.le_trans hn0 b.size,kj b⟩
 have y:=aC o
 refine bG<|sg<|Pl 3<|L0<|aN l 0<|Pl 1<|?_
 refine pr (eI S.dir S.held) fun a p r=>?_
 refine L0<|Oc<|e2 (np r (aQ.upd' hr b (ak (aL hb (by decide)) aD)) (by omega)) fun zl M z i=>?_
 obtain⟨B,C,D⟩:=z
 refine Pl 3<|L0<|bI #[.int .u8 0,.int .u16 0,.int .u8 0,.int .u8 0,.int .u16 0,.int .u16 0,.int .u16 0,.int .u16 0,.int .u16 0,.int .u16 0,.int .u16 0,.int .u16 0,.int .u16 0,.int .u16 0,.slice none 0 0,.slice none 0 0,.slice none 0 0,.slice none 0 0,.int .u8 0,.int .u8 0,.int .u8 0,.int .u8 0,.int .u8 0,.slice none 0 0] fun N O E F j=>L0<|bf F (dZ a.unit a.tid a.msg zl) fun P G k=>Pl 1<|ng<|Pl 1<|L0<|bZ G<|Pl 1<|L0<|cF (m:=1) (e:=66) (mS ⟨p,a⟩ zl) fun H I J K q=>Pl 1<|nl<|?_
 refine tn<|rt<|rr (.slice (some ⟨H,0,none⟩) 1 1)<|?_
 have hs:S.tick=(⟨S.dir,[],false⟩,[⟨p,a⟩]):=by unfold SS.tick;rw[if_neg (by omega),r]
 rw[hs]
 have s:=ud j (aE k q) E
 have hE:=mQ (w0:=w) (x:=⟨p,a⟩) (Nat.le_trans (le (le (le (le d.size f.size) i.size) j.size) k.size) J) K ⟨zl,rfl,(aF.upd B s aD),C,D⟩
 have t:=aE i s
 exact⟨_,none,0,I.heap.size,rfl,gS.low hE,⟨⟨0,(ub t l),aO.nil ..,(Nat.zero_le _),(Nat.zero_le _)⟩,aJ.nil ..,Nat.le_refl _,cG,Nat.le_trans hbs (le (le (le (le (le d.size f.size) i.size) j.size) k.size) q.size)⟩,dS,Nat.le_trans hn0 (le (le (le (le (le d.size f.size) i.size) j.size) k.size) q.size),kj (aE b t)⟩
open Go.RowKit
def tC (b:List Int) : ap:=⟨b,false,0⟩
def tB (b:List Int) : ap:=(tC b).wordsC 1
def tF (b:List Int) : ap:=(tB b).wordsC 1
def tE (b:List Int) : ap:=(tF b).wordsC 1
def vj (b:List Int) : ap:=(tE b).bytesC 1
def kO (b:List Int) : List Int:=(vj b).bytesR (((vj b).l.length:Nat) : Int)
def cE (dir:Int)(b:List Int) : aW × Int :=
  if dir != 0&&dir != 1 then (aW.zero,1)
  else if decide ((b.length:Int)<8) then (aW.zero,2)
  else if decide (260<(b.length:Int)) then (aW.zero,3)
  else if (tB b).wordV != 0 then (aW.zero,13)
  else if (tF b).wordV != (b.length:Int)-6 then (aW.zero,5)
  else cT (tE b).byteV (tC b).wordV (cL dir (kO b))
theorem nI{m:Bool}{A:Option Addr}{cp:Nat}{b:List Int}{w:World}{dir:Int}(hsl:aQ m w (.slice A b.length cp) b)(hb:b.length≤1048576) :
    Calls Tryz.prog 192 #[.int .i64 dir,.slice A b.length cp] w (mT (cE dir b) w):=by
 have hln:(b.length:Int)≤1048576:=by omega
 refine en 75 Tryz.func192 rfl<|sg<|L0<|bI #[.int .u8 0,.int .u16 0,.int .u8 0,.int .u8 0,.int .u16 0,.int .u16 0,.int .u16 0,.int .u16 0,.int .u16 0,.int .u16 0,.int .u16 0,.int .u16 0,.int .u16 0,.int .u16 0,.slice none 0 0,.slice none 0 0,.slice none 0 0,.slice none 0 0,.int .u8 0,.int .u8 0,.int .u8 0,.int .u8 0,.int .u8 0,.slice none 0 0] fun b1 b2 g e i=>Pl 1<|nt<|sq<|bk<|sg<|Pl 3<|cu 3 [17] 20 (((dir != 0)&&(dir != 1))) (fun K N=>?_) ?_
 refine bl 17 ((dir != 0)) (fun o=>?_) (fun o=>?_)
 have Z:=aA o
 exact Pl 3<|ce N (dir != 1) (by rw[o];rfl)
 have Z:=ai o
 exact Pl 3<|ce N false (by rw[o];rfl)
 refine Pl 1<|nt<|cb (((dir != 0)&&(dir != 1))) (fun c=>?_) (fun c=>?_)
 have O:=(bH c).1
 have P:=(bH c).2
 have b3:=aA O
 have b4:=aA P
 refine sg<|Pl 1<|L0<|bf e #[.int .u8 0,.int .u16 0,.int .u8 0,.int .u8 0,.int .u16 0,.int .u16 0,.int .u16 0,.int .u16 0,.int .u16 0,.int .u16 0,.int .u16 0,.int .u16 0,.int .u16 0,.int .u16 0,.slice none 0 0,.slice none 0 0,.slice none 0 0,.slice none 0 0,.int .u8 0,.int .u8 0,.int .u8 0,.int .u8 0,.int .u8 0,.slice none 0 0] fun b5 a0 a1=>Pl 1<|nt<|rt<|br<|tr<|cU a0 (.int .i64 1)<|?_
 have hs:cE dir b=(aW.zero,1):=by
   unfold cE
   (try simp only[c,O,P,bs,if_true,if_false,decide_true,decide_false,cT,vj,tE,tF,tB,tC,reduceIte])
   all_goals rfl
 refine dC hs ?_
 exact cI (ud i a1 g)
 refine sg<|Pl 4<|nt<|cb ((decide (((b.length:Nat) : Int)<8))) (fun d=>?_) (fun d=>?_)
 have a2:=of_decide_eq_true d
 refine sg<|Pl 1<|L0<|bf e #[.int .u8 0,.int .u16 0,.int .u8 0,.int .u8 0,.int .u16 0,.int .u16 0,.int .u16 0,.int .u16 0,.int .u16 0,.int .u16 0,.int .u16 0,.int .u16 0,.int .u16 0,.int .u16 0,.slice none 0 0,.slice none 0 0,.slice none 0 0,.slice none 0 0,.int .u8 0,.int .u8 0,.int .u8 0,.int .u8 0,.int .u8 0,.slice none 0 0] fun b6 a3 a4=>Pl 1<|nt<|rt<|br<|tr<|cU a3 (.int .i64 2)<|?_
 have hs:cE dir b=(aW.zero,2):=by
   unfold cE
   (try simp only[c,d,bs,if_true,if_false,decide_true,decide_false,cT,vj,tE,tF,tB,tC,reduceIte])
   all_goals rfl
 refine dC hs ?_
 exact cI (ud i a4 g)
 have a2:=of_decide_eq_false d
 refine sg<|Pl 4<|nt<|cb ((decide (260<((b.length:Nat) : Int)))) (fun f=>?_) (fun f=>?_)
 have a5:=of_decide_eq_true f
 refine sg<|Pl 1<|L0<|bf e #[.int .u8 0,.int .u16 0,.int .u8 0,.int .u8 0,.int .u16 0,.int .u16 0,.int .u16 0,.int .u16 0,.int .u16 0,.int .u16 0,.int .u16 0,.int .u16 0,.int .u16 0,.int .u16 0,.slice none 0 0,.slice none 0 0,.slice none 0 0,.slice none 0 0,.int .u8 0,.int .u8 0,.int .u8 0,.int .u8 0,.int .u8 0,.slice none 0 0] fun b7 a6 a7=>Pl 1<|nt<|rt<|br<|tr<|cU a6 (.int .i64 3)<|?_
 have hs:cE dir b=(aW.zero,3):=by
   unfold cE
   (try simp only[c,d,f,bs,if_true,if_false,decide_true,decide_false,cT,vj,tE,tF,tB,tC,reduceIte])
   all_goals rfl
 refine dC hs ?_
 exact cI (ud i a7 g)
 have a5:=of_decide_eq_false f
 refine sk<|bn<|tn<|sg<|Pl 1<|?_
 refine L0<|Oc<|e3 (d9 (aQ.old hsl i) (by omega)) fun u b9 p a8 a9=>Pl 1<|ng<|Pl 1<|ng<|Pl 2<|L0<|fb #[] #[] (args:=#[.pointer (some ⟨u,0,none⟩)])<|m3 (bD a8) fun ba aa ac bb=>Pl 2<|L0<|fb #[] #[] (args:=#[.pointer (some ⟨u,0,none⟩)])<|m3 (bD aa) fun bc ad ae bd=>?_
 refine ab ad fun x46 s af=>?_
 refine Pl 2<|L0<|fb #[] #[] (args:=#[.pointer (some ⟨u,0,none⟩)])<|m3 (bD af) fun be ag aj bg=>Pl 3<|nt<|sq<|bk<|sg<|Pl 3<|nt<|?_
 have j:=ud a9 (u1 ac (u1 ae aj im) im) p
 have v:=aE i j
 refine cb (((((ap.mk b false 0).wordsC 1).wordV)!=0)) (fun h=>?_) (fun h=>?_)
 have al:=aA h
 refine sg<|Pl 1<|?_
 refine L0<|bf (ub j e) #[.int .u8 0,.int .u16 0,.int .u8 0,.int .u8 0,.int .u16 0,.int .u16 0,.int .u16 0,.int .u16 0,.int .u16 0,.int .u16 0,.int .u16 0,.int .u16 0,.int .u16 0,.int .u16 0,.slice none 0 0,.slice none 0 0,.slice none 0 0,.slice none 0 0,.int .u8 0,.int .u8 0,.int .u8 0,.int .u8 0,.int .u8 0,.slice none 0 0] fun bh am an=>Pl 1<|nt<|rt<|br<|tr<|cU am (.int .i64 13)<|?_
 subst s
 have hs:cE dir b=(aW.zero,13):=by
   unfold cE
   (try simp only[c,d,f,h,bs,if_true,if_false,decide_true,decide_false,cT,vj,tE,tF,tB,tC,reduceIte])
   all_goals rfl
 refine dC hs ?_
 exact cI (ud v an g)
 have al:=ai h
 refine sg<|Pl 1<|L0<|Oi x46.wordV<|Pl 2<|L0<|Oi (((b.length:Nat) : Int)-6)<|Pl 2<|nt<|cb ((x46.wordV != (((b.length:Nat) : Int)-6))) (fun k=>?_) (fun k=>?_)
 have ao:=aA k
 refine sg<|Pl 1<|?_
 refine L0<|bf (ub j e) #[.int .u8 0,.int .u16 0,.int .u8 0,.int .u8 0,.int .u16 0,.int .u16 0,.int .u16 0,.int .u16 0,.int .u16 0,.int .u16 0,.int .u16 0,.int .u16 0,.int .u16 0,.int .u16 0,.slice none 0 0,.slice none 0 0,.slice none 0 0,.slice none 0 0,.int .u8 0,.int .u8 0,.int .u8 0,.int .u8 0,.int .u8 0,.slice none 0 0] fun bi aq ar=>Pl 1<|nt<|rt<|br<|tr<|cU aq (.int .i64 5)<|?_
 subst s
 have hs:cE dir b=(aW.zero,5):=by
   unfold cE
   (try simp only[c,d,f,h,k,bs,if_true,if_false,decide_true,decide_false,cT,vj,tE,tF,tB,tC,reduceIte])
   all_goals rfl
 refine dC hs ?_
 exact cI (ud v ar g)
 have ao:=ai k
 refine sk<|bn<|tn<|sg<|Pl 1<|L0<|Oc<|m3 (bE ag) fun bj t Q bm=>Pl 1<|ng<|Pl 3<|L0<|Oc<|mq (dq t)<|?_
 have bo:=ah.len t
 refine L0<|Oc<|tv (bS (n:=((((x46.wordsC 1).bytesC 1).l.length:Nat) : Int)) t) fun bp bq au av bu bv aw R=>?_
 have bw:=Nat.le_trans (ap.bytesR_le ((x46.wordsC 1).bytesC 1) ((((x46.wordsC 1).bytesC 1).l.length:Nat) : Int)) (ah.len t)
 refine ab aw fun x80 S bx=>?_
 obtain⟨a,q,x⟩ : ∃ M E,cL dir (((x46.wordsC 1).bytesC 1).bytesR ((((x46.wordsC 1).bytesC 1).l.length:Nat) : Int))=(M,E):=⟨_,_,rfl⟩
 have T:=jf (dir:=dir) (w:=au) av (by omega)
 rw[x] at T
 refine L0<|Oc<|e2 T fun ax bz U V=>?_
 have ay:=U
 obtain⟨az,aB,aC,aG,aH,aI,aJ,aM,aN,aO,aP,bA⟩:=ay
 obtain rfl:ax=(bt a az aB aC aG aH).toArray:=by apply Array.toList_inj.1;simpa using aI
 obtain⟨y,z,rfl,_,_⟩:=aJ.shape
 obtain⟨B,C,rfl,_,_⟩:=aM.shape
 obtain⟨D,F,rfl,_,_⟩:=aN.shape
 obtain⟨G,H,rfl,_,_⟩:=aO.shape
 obtain⟨I,J,rfl,_,_⟩:=aP.shape
 refine Pl 3<|L0<|bI mZ fun bB bC aR aS aT=>L0<|bf aS (mG a.code a.fail a.addr a.count a.value a.and_ a.or_ a.addr2 a.sub a.status a.events a.messages (.slice y a.words.length z) (.slice B a.bits.length C) (.slice D a.data.length F) (.slice G a.recs.length H) a.mei a.kind a.level a.more a.next (.slice I a.objects.length J)) fun bF aU aV=>Pl 1<|nt<|sq<|sg<|Pl 2<|nt<|?_
 have W:=ud aT aV aR
 have L:=u1 Q (aE R (aE V W)) im
 have X:=ud v L (le i.size p)
 refine cb ((q != 0)) (fun r=>?_) (fun r=>?_)
 have aX:=aA r
 refine sg<|Pl 2<|?_
 refine L0<|bf (ub (ud j L p) e) #[.int .u8 0,.int .u16 0,.int .u8 0,.int .u8 0,.int .u16 0,.int .u16 0,.int .u16 0,.int .u16 0,.int .u16 0,.int .u16 0,.int .u16 0,.int .u16 0,.int .u16 0,.int .u16 0,.slice none 0 0,.slice none 0 0,.slice none 0 0,.slice none 0 0,.int .u8 0,.int .u8 0,.int .u8 0,.int .u8 0,.int .u8 0,.slice none 0 0] fun bJ aY aZ=>Pl 1<|nt<|rt<|tr<|cU aY (.int .i64 q)<|?_
 subst S s
 have hX2:cL dir (kO b)=(a,q):=x
 have hs:cE dir b=(aW.zero,q):=by
   unfold cE
   (try simp only[c,d,f,h,k,r,bs,if_true,if_false,decide_true,decide_false,cT,vj,tE,tF,tB,tC,hX2,reduceIte])
   all_goals rfl
 refine dC hs ?_
 exact cI (ud X aZ g)
 have aX:=ai r
 refine bG<|sg<|Pl 3<|L0<|bZ aU<|Pl 1<|?_
 refine L0<|bf (ub (ud j L p) e) #[.int .u8 ((x46.wordsC 1).byteV),.int .u16 ((ap.mk b false 0).wordV),.int .u8 a.code,.int .u8 a.fail,.int .u16 a.addr,.int .u16 a.count,.int .u16 a.value,.int .u16 a.and_,.int .u16 a.or_,.int .u16 a.addr2,.int .u16 a.sub,.int .u16 a.status,.int .u16 a.events,.int .u16 a.messages,.slice y a.words.length z,.slice B a.bits.length C,.slice D a.data.length F,.slice G a.recs.length H,.int .u8 a.mei,.int .u8 a.kind,.int .u8 a.level,.int .u8 a.more,.int .u8 a.next,.slice I a.objects.length J] fun bK b0 Y=>Pl 1<|nt<|rt<|cU b0 (.int .i64 0)<|?_
 subst S s
 have hX2:cL dir (kO b)=(a,q):=x
 have hs:cE dir b=(⟨((((ap.mk b false 0).wordsC 1).wordsC 1).wordsC 1).byteV,(ap.mk b false 0).wordV,a⟩,0):=by
   unfold cE
   (try simp only[c,d,f,h,k,r,bs,if_true,if_false,decide_true,decide_false,cT,vj,tE,tF,tB,tC,hX2,reduceIte])
   all_goals rfl
 refine dC hs ?_
 exact⟨_,rfl,⟨#[.int .u8 a.code,.int .u8 a.fail,.int .u16 a.addr,.int .u16 a.count,.int .u16 a.value,.int .u16 a.and_,.int .u16 a.or_,.int .u16 a.addr2,.int .u16 a.sub,.int .u16 a.status,.int .u16 a.events,.int .u16 a.messages,.slice y a.words.length z,.slice B a.bits.length C,.slice D a.data.length F,.slice G a.recs.length H,.int .u8 a.mei,.int .u8 a.kind,.int .u8 a.level,.int .u8 a.more,.int .u8 a.next,.slice I a.objects.length J],(by as_aux_lemma=>kernel_rfl),(aF.upd U (uz W Y) (ak (aL (ub (ud j (u1 Q (aE R V) im) p) e) (by decide)) aD)),b8 (by omega),aK (by omega)⟩,(ud X Y g)⟩
theorem pB{m:Bool}{v:Value}{b:List Int}{w:World}{dir:Int}(h:aQ m w v b)(hb:b.length≤1048576) : Calls Tryz.prog 192 #[.int .i64 dir,v] w (mT (cE dir b) w):=by
  obtain⟨A,cp,rfl,_,_⟩:=h.shape
  exact nI h hb
open Go.RowKit
def eb (dir u t:Int)(M:aV) : Option (List Int) :=
  match bY dir M with
  | none=>none
  | some l=>some ((aP [t,0,((l.length:Int)+1)%65536]++[u])++l)
theorem jP{m:Bool}{cs:Array Value}{M:aV}{w:World}{dir u t:Int}(h:aF m w cs.toList M)(hf:bp M)(hu:B8 u)(ht:db t) : Calls Tryz.prog 209 #[.int .i64 dir,.agg (#[.int .u8 u,.int .u16 t]++cs)] w (ef (eb dir u t M) w):=by
 have hM:=h
 obtain⟨hu1,hu2⟩:=hu
 obtain⟨ht1,ht2⟩:=ht
 obtain⟨vw,vb,vd,vr,vo,h0,hw,hbt,hd,hr,ho,hR⟩:=h
 obtain rfl:cs=(bt M vw vb vd vr vo).toArray:=by apply Array.toList_inj.1;simpa using h0
 clear h0
 obtain⟨Aw,kw,rfl,_,_⟩:=hw.shape
 obtain⟨Ab,kb,rfl,_,_⟩:=hbt.shape
 obtain⟨Ad,kd,rfl,_,_⟩:=hd.shape
 obtain⟨Ar,kr,rfl,_,_⟩:=hr.shape
 obtain⟨Ao,ko,rfl,_,_⟩:=ho.shape
 obtain⟨q0,q1,q2,q3,q4,q5,q6,q7,q8,q9,r,s,v,y,z,A,B⟩:=hR
 simp only[B8,db] at q0 q1 q2 q3 q4 q5 q6 q7 q8 q9 r s v y z A B
 refine en 35 Tryz.func209 rfl<|sg<|L0<|cz #[.int .u8 u,.int .u16 t,.int .u8 M.code,.int .u8 M.fail,.int .u16 M.addr,.int .u16 M.count,.int .u16 M.value,.int .u16 M.and_,.int .u16 M.or_,.int .u16 M.addr2,.int .u16 M.sub,.int .u16 M.status,.int .u16 M.events,.int .u16 M.messages,.slice Aw M.words.length kw,.slice Ab M.bits.length kb,.slice Ad M.data.length kd,.slice Ar M.recs.length kr,.int .u8 M.mei,.int .u8 M.kind,.int .u8 M.level,.int .u8 M.more,.int .u8 M.next,.slice Ao M.objects.length ko] fun Q R S g a=>Pl 2<|ng<|Pl 2<|L0<|vU g 2 22<|?_
 rcases hwr:bY dir M with _|lw
 have i:=ec (dir:=dir) (aF.old hM a) hf
 rw[hwr] at i
 refine L0<|Oc<|m1 i fun T C=>Pl 5<|nt<|sq<|sg<|Pl 2<|nt<|c1<|sg<|Pl 2<|nl<|?_
 refine tn<|rt<|tr<|rr (.tuple #[.slice none 0 0,.int .i64 1])<|?_
 have hs:eb dir u t M=none:=by
   unfold eb
   (try simp only[hwr])
   all_goals rfl
 refine cV hs ?_
 exact⟨rfl,(aE a C)⟩
 have hlw:=fH hwr
 have j:=ec (dir:=dir) (aF.old hM a) hf
 rw[hwr] at j
 refine L0<|Oc<|dE j fun U V W D X Y d=>Pl 5<|nt<|sq<|sg<|Pl 2<|nt<|c0<|bG<|sq<|?_
 refine go<|Pl 2<|?_
 have k:=ub d g
 refine L0<|aN k 1<|Pl 2<|L0<|Oi (((lw.length:Nat) : Int)+1)<|Pl 1<|L0<|cF (m:=3) (e:=22) #[.int .u16 t,.int .u16 0,.int .u16 ((((lw.length:Nat) : Int)+1)%65536)] fun Z a0 E F b=>?_
 have G:=dX E (xs:=[t,0,((((lw.length:Nat) : Int)+1)%65536)]) (by as_aux_lemma=>kernel_rfl) (am (by omega) (am (by omega) (am (by omega) aM))) (by(try simp only[List.length_cons,List.length_nil]);omega) F
 refine L0<|Oc<|dE (bg (xs:=[t,0,((((lw.length:Nat) : Int)+1)%65536)]) (G).rd (by(try simp only[List.length_cons,List.length_nil]);omega)) fun H a1 a2 l a3 a4 f=>Pl 1<|ng<|Pl 3<|?_
 have n:=aE b f
 refine L0<|aN (ub n k) 0<|L0<|cF (m:=1) (e:=5) #[.int .u8 u] fun a5 a6 I J c=>?_
 have K:=cP I (xs:=[u]) (by as_aux_lemma=>kernel_rfl) (am (by omega) aM) (by(try simp only[List.length_cons,List.length_nil]);omega) J
 refine L0<|cj aX (xs:=(aP ([t,0,((((lw.length:Nat) : Int)+1)%65536)]))) (ys:=([u])) (.int .u8 0) 1 (aj l c (fun x hx=>ay) (fun _ _ h=>h)) (K).rd (by(try simp only[List.length_append,List.length_cons,List.length_nil,av]);omega) (le f.size c.size) fun a7 a8 a9 o p=>Pl 1<|?_
 have q:=ut n (ut (ax.mono (S':=(ob H++[])) c aq) p (ag il aq)) (ag (aI l b.size) aq)
 refine L0<|cj aX (xs:=((aP ([t,0,((((lw.length:Nat) : Int)+1)%65536)]))++[u])) (ys:=lw) (.int .u8 0) 1 o ((aj D q (fun x hx=>ay) (fun _ _ h=>h))).rd (by(try simp only[List.length_append,List.length_cons,List.length_nil,av]);omega) (le (le f.size c.size) p.size) fun L N aa O P=>Pl 2<|nt<|rt<|rr (.tuple #[.slice L ((((aP ([t,0,((((lw.length:Nat) : Int)+1)%65536)]))++[u])++lw).length) N,.int .i64 0])<|?_
 have hs:eb dir u t M=(some (((aP ([t,0,((((lw.length:Nat) : Int)+1)%65536)]))++[u])++lw)):=by
   unfold eb
   (try simp only[hwr])
   all_goals rfl
 refine cV hs ?_
 exact⟨_,rfl,(aJ.weaken O (le (le a.size d.size) b.size)),(aE a (aE d (ut q P (ag (aI o b.size) aq))))⟩
open Go.RowKit
theorem iM{m:Bool}{v:Value}{b:List Int}{w:World}{dir:Int}{F:aW}{E:Int}(hX:cE dir b=(F,E))(h:aQ m w v b)(hb:b.length≤1048576) : Calls Tryz.prog 192 #[.int .i64 dir,v] w (fun e w'=>∃ x,e = .returned (.tuple #[.agg (dZ F.unit F.tid F.msg x),.int .i64 E])∧(aF true w' (gG F.msg x).toList F.msg∧(0≤F.unit∧F.unit<256)∧(0≤F.tid∧F.tid<65536))∧ax [] w w'):=by
  refine(pB h hb).mono ?_
  rintro e w' ⟨cs,rfl,h1,h2⟩
  rw[hX] at h1 ⊢
  obtain⟨c,rfl,h3,h4,h5⟩:=h1
  obtain⟨x,rfl⟩:=mt h3
  exact⟨x,by rw[eB],⟨h3,h4,h5⟩,h2⟩
theorem mA{m:Bool}{x:SL}{M:aV}{w:World}{dir u t:Int}(hX:eb dir u t M=none)(h:aF m w (gG M x).toList M)(hf:bp M)(hu:0≤u∧u<256)(ht:0≤t∧t<65536) : Calls Tryz.prog 209 #[.int .i64 dir,.agg (dZ u t M x)] w (fun e w'=>e = .returned (.tuple #[.slice none 0 0,.int .i64 1])∧ax [] w w'):=by
  have:=jP (dir:=dir) h hf hu ht
  rw[hX] at this
  rw[eB]
  exact this
theorem mU{m:Bool}{x:SL}{M:aV}{w:World}{dir u t:Int}{l:List Int}(hX:eb dir u t M=some l)(h:aF m w (gG M x).toList M)(hf:bp M)(hu:0≤u∧u<256)(ht:0≤t∧t<65536) : Calls Tryz.prog 209 #[.int .i64 dir,.agg (dZ u t M x)] w (fun e w'=>∃ v,e = .returned (.tuple #[v,.int .i64 0])∧cy w.heap.size w' v l∧ax [] w w'):=by
  have:=jP (dir:=dir) h hf hu ht
  rw[hX] at this
  rw[eB]
  exact this
end Go.Proofs.YtpglhicfhppaiaaGreat
