/- Contracts of functions, part CMbapParses4. -/
import Derived.Test.YtogbnemojakcpaaGreatCMbapParses1
import Derived.Test.YtogbnemojakcpaaGreatCMbapParses2
import Derived.Test.YtogbnemojakcpaaGreatCMbapParses3
import Derived.OpenShut
import Derived.Below
import Derived.Laws.StructEq
set_option linter.unusedVariables false
set_option linter.unusedSimpArgs false
set_option maxRecDepth 100000
set_option maxHeartbeats 4000000
namespace Go.Proofs.YtogbnemojakcpaaGreat
open Go.RowKit
def bV (dir:Int)(M:aP) : List Int :=
  if M.code==8 then b7 [M.sub]++b7 M.words
  else if dir==0 then []
  else if M.code==7 then [M.value%256]
  else if M.code==11 then b7 [M.status,M.events]
  else if M.code==12 then (([(6+(M.data.length:Int))%256]++b7 [M.status,M.events,M.messages])++M.data)
  else [(M.data.length:Int)%256]++M.data
theorem nu{m:Md}{cs:Array Value}{M:aP}{w:World}{dir:Int}(h:aW m w cs.toList M)(hf:cU M)(hd0:(dir==0)=true) : Calls Tryz.prog 208 #[.int .i64 dir,.agg cs] w (gK (bV dir M) w):=by
 obtain⟨vw,vb,vd,vr,vo,h0,hw,hbt,hd,hr,ho,hR⟩:=h
 obtain rfl:cs=(bR M vw vb vd vr vo).toArray:=by apply Array.toList_inj.1;simpa using h0
 clear h0
 obtain⟨Aw,kw,rfl,_,_⟩:=hw.shape
 obtain⟨Ab,kb,rfl,_,_⟩:=hbt.shape
 obtain⟨Ad,kd,rfl,_,_⟩:=hd.shape
 obtain⟨Ar,kr,rfl,_,_⟩:=hr.shape
 obtain⟨Ao,ko,rfl,_,_⟩:=ho.shape
 obtain⟨q0,q1,q2,q3,q4,q5,q6,q7,q8,q9,u,v,y,z,A,B,C⟩:=hR
 simp only[B8,dv] at q0 q1 q2 q3 q4 q5 q6 q7 q8 q9 u v y z A B C
 have hf1:=hf.words
 have hf2:=hf.bits
 have hf3:=hf.data
 have hf4:=hf.recs
 have hf5:=hf.objects
 refine en 70 Tryz.func208 rfl<|sg<|L0<|dt (mG M.code M.fail M.addr M.count M.value M.and_ M.or_ M.addr2 M.sub M.status M.events M.messages (.slice Aw M.words.length kw) (.slice Ab M.bits.length kb) (.slice Ad M.data.length kd) (.slice Ar M.recs.length kr) M.mei M.kind M.level M.more M.next (.slice Ao M.objects.length ko)) fun q O P i d=>Pl 1<|nt<|sq<|bk<|sg<|Pl 1<|L0<|aR i 0<|Pl 2<|nl<|?_
 refine tn<|cb ((M.code==8)) (fun a=>?_) (fun a=>?_)
 have D:=al a
 refine sq<|Rg 9 (fun w'=>w'.cell? ⟨q,8,none⟩=some (.int .u16 M.sub)∧w'.cell? ⟨q,12,none⟩=some (.slice Aw M.words.length kw)) fun Q b=>?_
 have j:=ub b i
 refine bh ⟨(ag j rfl),(ag j rfl)⟩ fun f=>Rt 0 f<|Rl 1 f (fun _ hs=>hs.1)<|Rt 4 f<|Rl 5 f (fun _ hs=>hs.2)<|R0 2 rfl<|dy (m:=1) (e:=24) #[.int .u16 M.sub] fun R S E F c=>?_
 have G:=dV E (xs:=[M.sub]) (by as_aux_lemma=>kernel_rfl) (az (by omega) aZ) (by(try simp only[List.length_cons,List.length_nil]);omega) F
 have k:=ub c j
 refine bh ⟨(ag k rfl),(ag k rfl)⟩ fun T=>R0 3 rfl<|Oc<|ea (bB (xs:=[M.sub]) (G).rd (by(try simp only[List.length_cons,List.length_nil]);omega)) fun H U V l W X n=>?_
 have o:=ub n k
 refine bh ⟨(ag o rfl),(ag o rfl)⟩ fun Y=>?_
 have r:=aI d (aI b (aI c n))
 refine R0 6 rfl<|Oc<|ea (bB (xs:=M.words) (dJ.old hw r) (by(try simp only[List.length_cons,List.length_nil]);omega)) fun Z a0 a1 I a2 a3 g=>?_
 have p:=ub g o
 refine bh ⟨(ag p rfl),(ag p rfl)⟩ fun a4=>?_
 refine R0 7 rfl<|cM bv (xs:=(b7 ([M.sub]))) (ys:=(b7 M.words)) (.int .u8 0) 1 (ax l g (fun x hx=>ay) (fun _ _ h=>h)) (I).rd (by(try simp only[List.length_append,List.length_cons,List.length_nil,aC]);omega) (le n.size g.size) fun J K a5 L s=>?_
 have t:=aE.blk s (bi (aA (ak i) (le b.size c.size) l) ay) p
 refine bh ⟨(ag t rfl),(ag t rfl)⟩ fun N=>Rt 8 N<|re<|tn<|rt<|br<|tr<|rr (.slice J (((b7 ([M.sub]))++(b7 M.words)).length) K)<|?_
 have hs:bV dir M=((b7 ([M.sub]))++(b7 M.words)):=by
   unfold bV
   (try simp only[hd0,a,bs,if_true,if_false,decide_true,decide_false,reduceIte])
   all_goals rfl
 rw[hs]
 exact⟨_,rfl,(be.weaken L (le (le d.size b.size) c.size)),(ut r (ut (aE.mono (S':=(ob H++[])) g au) s (av il au)) (av (aU l (le (le d.size b.size) c.size)) au))⟩
 have D:=ap a
 refine sg<|Pl 3<|nt<|ct hd0<|sg<|Pl 1<|nt<|rt<|br<|tr<|?_
 refine rr (.slice none 0 0)<|?_
 have hs:bV dir M=[]:=by
   unfold bV
   (try simp only[hd0,a,bs,if_true,if_false,decide_true,decide_false,reduceIte])
   all_goals rfl
 rw[hs]
 exact⟨_,rfl,(be.nil ..),d⟩
theorem mJ{m:Md}{cs:Array Value}{M:aP}{w:World}{dir:Int}(h:aW m w cs.toList M)(hf:cU M)(hd0:(dir==0)=false) : Calls Tryz.prog 208 #[.int .i64 dir,.agg cs] w (gK (bV dir M) w):=by
 obtain⟨vw,vb,vd,vr,vo,h0,hw,hbt,hd,hr,ho,hR⟩:=h
 obtain rfl:cs=(bR M vw vb vd vr vo).toArray:=by apply Array.toList_inj.1;simpa using h0
 clear h0
 obtain⟨Aw,kw,rfl,_,_⟩:=hw.shape
 obtain⟨Ab,kb,rfl,_,_⟩:=hbt.shape
 obtain⟨Ad,kd,rfl,_,_⟩:=hd.shape
 obtain⟨Ar,kr,rfl,_,_⟩:=hr.shape
 obtain⟨Ao,ko,rfl,_,_⟩:=ho.shape
 obtain⟨q0,q1,q2,q3,q4,q5,q6,q7,q8,q9,ai,aj,am,an,ao,aq,ar⟩:=hR
 simp only[B8,dv] at q0 q1 q2 q3 q4 q5 q6 q7 q8 q9 ai aj am an ao aq ar
 have hf1:=hf.words
 have hf2:=hf.bits
 have hf3:=hf.data
 have hf4:=hf.recs
 have hf5:=hf.objects
 refine en 70 Tryz.func208 rfl<|sg<|L0<|dt (mG M.code M.fail M.addr M.count M.value M.and_ M.or_ M.addr2 M.sub M.status M.events M.messages (.slice Aw M.words.length kw) (.slice Ab M.bits.length kb) (.slice Ad M.data.length kd) (.slice Ar M.recs.length kr) M.mei M.kind M.level M.more M.next (.slice Ao M.objects.length ko)) fun l bW bX b a=>Pl 1<|nt<|sq<|bk<|sg<|Pl 1<|L0<|aR b 0<|Pl 2<|nl<|?_
 refine tn<|cb ((M.code==8)) (fun f=>?_) (fun f=>?_)
 have aw:=al f
 refine sq<|Rg 9 (fun w'=>w'.cell? ⟨l,8,none⟩=some (.int .u16 M.sub)∧w'.cell? ⟨l,12,none⟩=some (.slice Aw M.words.length kw)) fun bZ p=>?_
 have J:=ub p b
 refine bh ⟨(ag J rfl),(ag J rfl)⟩ fun E=>Rt 0 E<|Rl 1 E (fun _ hs=>hs.1)<|Rt 4 E<|Rl 5 E (fun _ hs=>hs.2)<|R0 2 rfl<|dy (m:=1) (e:=24) #[.int .u16 M.sub] fun c0 c1 aB aD q=>?_
 have aF:=dV aB (xs:=[M.sub]) (by as_aux_lemma=>kernel_rfl) (az (by omega) aZ) (by(try simp only[List.length_cons,List.length_nil]);omega) aD
 have K:=ub q J
 refine bh ⟨(ag K rfl),(ag K rfl)⟩ fun c2=>R0 3 rfl<|Oc<|ea (bB (xs:=[M.sub]) (aF).rd (by(try simp only[List.length_cons,List.length_nil]);omega)) fun aG c3 c4 L c5 c6 N=>?_
 have O:=ub N K
 refine bh ⟨(ag O rfl),(ag O rfl)⟩ fun c7=>?_
 have X:=aI a (aI p (aI q N))
 refine R0 6 rfl<|Oc<|ea (bB (xs:=M.words) (dJ.old hw X) (by(try simp only[List.length_cons,List.length_nil]);omega)) fun c8 c9 ca aH cc cd F=>?_
 have P:=ub F O
 refine bh ⟨(ag P rfl),(ag P rfl)⟩ fun ce=>?_
 refine R0 7 rfl<|cM bv (xs:=(b7 ([M.sub]))) (ys:=(b7 M.words)) (.int .u8 0) 1 (ax L F (fun x hx=>ay) (fun _ _ h=>h)) (aH).rd (by(try simp only[List.length_append,List.length_cons,List.length_nil,aC]);omega) (le N.size F.size) fun aJ aK cg aL Y=>?_
 have Z:=aE.blk Y (bi (aA (ak b) (le p.size q.size) L) ay) P
 refine bh ⟨(ag Z rfl),(ag Z rfl)⟩ fun aM=>Rt 8 aM<|re<|tn<|rt<|br<|tr<|rr (.slice aJ (((b7 ([M.sub]))++(b7 M.words)).length) aK)<|?_
 have hs:bV dir M=((b7 ([M.sub]))++(b7 M.words)):=by
   unfold bV
   (try simp only[hd0,f,bs,if_true,if_false,decide_true,decide_false,reduceIte])
   all_goals rfl
 rw[hs]
 exact⟨_,rfl,(be.weaken aL (le (le a.size p.size) q.size)),(ut X (ut (aE.mono (S':=(ob aG++[])) F au) Y (av il au)) (av (aU L (le (le a.size p.size) q.size)) au))⟩
 have aw:=ap f
 refine sg<|Pl 3<|nt<|cf hd0<|sg<|Pl 1<|L0<|aR b 0<|Pl 2<|nt<|cb ((M.code==7)) (fun g=>?_) (fun g=>?_)
 have aN:=al g
 refine sg<|Pl 1<|L0<|aR b 4<|Pl 1<|L0<|dy (m:=1) (e:=5) #[.int .u8 (M.value%256)] fun aO ch aQ aS aT=>?_
 have aV:=dP aQ (xs:=[(M.value%256)]) (by as_aux_lemma=>kernel_rfl) (az (by omega) aZ) (by(try simp only[List.length_cons,List.length_nil]);omega) aS
 refine Pl 1<|nt<|rt<|br<|tr<|rr (.slice (some ⟨aO,0,none⟩) 1 1)<|?_
 have hs:bV dir M=[(M.value%256)]:=by
   unfold bV
   (try simp only[hd0,f,g,bs,if_true,if_false,decide_true,decide_false,reduceIte])
   all_goals rfl
 rw[hs]
 exact⟨_,rfl,(be.weaken aV a.size),(aI a aT)⟩
 have aN:=ap g
 refine sg<|Pl 1<|L0<|aR b 0<|Pl 2<|nt<|cb ((M.code==11)) (fun j=>?_) (fun j=>?_)
 have aX:=al j
 refine sg<|Pl 1<|L0<|aR b 9<|Pl 1<|L0<|aR b 10<|L0<|dy (m:=2) (e:=24) #[.int .u16 M.status,.int .u16 M.events] fun ci cj aY b0 a0=>?_
 have b1:=dV aY (xs:=[M.status,M.events]) (by as_aux_lemma=>kernel_rfl) (az (by omega) (az (by omega) aZ)) (by(try simp only[List.length_cons,List.length_nil]);omega) b0
 refine L0<|Oc<|ea (bB (xs:=[M.status,M.events]) (b1).rd (by(try simp only[List.length_cons,List.length_nil]);omega)) fun b2 b3 ck b4 cl cm b5=>Pl 1<|nt<|rt<|br<|tr<|rr (.slice b2 ((b7 ([M.status,M.events])).length) b3)<|?_
 have hs:bV dir M=(b7 ([M.status,M.events])):=by
   unfold bV
   (try simp only[hd0,f,g,j,bs,if_true,if_false,decide_true,decide_false,reduceIte])
   all_goals rfl
 rw[hs]
 exact⟨_,rfl,(be.weaken b4 (le a.size a0.size)),(aI a (aI a0 b5))⟩
 have aX:=ap j
 refine sg<|Pl 1<|L0<|aR b 0<|Pl 2<|nt<|cb ((M.code==12)) (fun k=>?_) (fun k=>?_)
 have b6:=al k
 refine sq<|Rg 16 (fun w'=>w'.cell? ⟨l,14,none⟩=some (.slice Ad M.data.length kd)∧w'.cell? ⟨l,9,none⟩=some (.int .u16 M.status)∧w'.cell? ⟨l,10,none⟩=some (.int .u16 M.events)∧w'.cell? ⟨l,11,none⟩=some (.int .u16 M.messages)) fun cn c=>?_
 have n:=ub c b
 refine bh ⟨(ag n rfl),(ag n rfl),(ag n rfl),(ag n rfl)⟩ fun d=>Rt 0 d<|Rl 1 d (fun _ hs=>hs.1)<|Rt 2 d<|Rr 3 d (.int .i64 (6+((M.data.length:Nat) : Int))) (fun _ _=>bY (.int .i64 (IntKind.i64.wrap (6+((M.data.length:Nat) : Int)))) (by kernel_rfl) (congrArg (Value.int .i64) (IntWalk.i64_in _ (by omega))))<|Rt 4 d<|Rt 6 d<|Rl 7 d (fun _ hs=>hs.2.1)<|Rt 8 d<|Rl 9 d (fun _ hs=>hs.2.2.1)<|Rt 10 d<|Rl 11 d (fun _ hs=>hs.2.2.2)<|?_
 refine R2 5 12 rfl rfl ?_ ?_
 refine  dy (m:=1) (e:=5) #[.int .u8 ((6+((M.data.length:Nat) : Int))%256)] fun b8 co b9 ba Q=>?_
 have R:=dP b9 (xs:=[((6+((M.data.length:Nat) : Int))%256)]) (by as_aux_lemma=>kernel_rfl) (az (by omega) aZ) (by(try simp only[List.length_cons,List.length_nil]);omega) ba
 have r:=ub Q n
 refine bh ⟨(ag r rfl),(ag r rfl),(ag r rfl),(ag r rfl)⟩ fun cp=>R0 12 rfl<|dy (m:=3) (e:=24) #[.int .u16 M.status,.int .u16 M.events,.int .u16 M.messages] fun cq cr bb bc S=>?_
 have bd:=dV bb (xs:=[M.status,M.events,M.messages]) (by as_aux_lemma=>kernel_rfl) (az (by omega) (az (by omega) (az (by omega) aZ))) (by(try simp only[List.length_cons,List.length_nil]);omega) bc
 have s:=ub S r
 refine bh ⟨(ag s rfl),(ag s rfl),(ag s rfl),(ag s rfl)⟩ fun ct=>R0 13 rfl<|Oc<|ea (bB (xs:=[M.status,M.events,M.messages]) (bd).rd (by(try simp only[List.length_cons,List.length_nil]);omega)) fun cu cv cw bf cx cy T=>?_
 have t:=ub T s
 refine bh ⟨(ag t rfl),(ag t rfl),(ag t rfl),(ag t rfl)⟩ fun cz=>?_
 have a1:=aI S T
 refine R0 14 rfl<|cM bv (xs:=([((6+((M.data.length:Nat) : Int))%256)])) (ys:=(b7 ([M.status,M.events,M.messages]))) (.int .u8 0) 1 (ax R a1 (fun x hx=>ay) (fun _ _ h=>h)) (bf).rd (by(try simp only[List.length_append,List.length_cons,List.length_nil,aC]);omega) (le (le Q.size S.size) T.size) fun cA cB cC a2 a3=>?_
 have u:=aE.blk a3 (bi (aA (ak b) c.size R) ay) t
 refine bh ⟨(ag u rfl),(ag u rfl),(ag u rfl),(ag u rfl)⟩ fun bj=>Rt 15 bj<|re<|tn<|sg<|Pl 2<|L0<|aR u 14<|?_
 have a4:=ut Q (ut (aE.mono (S':=(ob (some ⟨b8,0,none⟩)++[])) a1 au) a3 (av il au)) (av (aU R lr) au)
 have a5:=aI a (aI c a4)
 refine L0<|cM bv (xs:=([((6+((M.data.length:Nat) : Int))%256)]++(b7 ([M.status,M.events,M.messages])))) (ys:=M.data) (.int .u8 0) 1 a2 (bg.old hd a5) (by(try simp only[List.length_append,List.length_cons,List.length_nil,aC]);omega) a4.size fun bl bm cD bo bp=>Pl 1<|nt<|rt<|br<|tr<|rr (.slice bl ((([((6+((M.data.length:Nat) : Int))%256)]++(b7 ([M.status,M.events,M.messages])))++M.data).length) bm)<|?_
 have hs:bV dir M=(([((6+((M.data.length:Nat) : Int))%256)]++(b7 ([M.status,M.events,M.messages])))++M.data):=by
   unfold bV
   (try simp only[hd0,f,g,j,k,bs,if_true,if_false,decide_true,decide_false,reduceIte])
   all_goals rfl
 rw[hs]
 exact⟨_,rfl,(be.weaken bo (le a.size c.size)),(ut a5 bp (av (aU a2 (le a.size c.size)) au))⟩
 refine  dy (m:=3) (e:=24) #[.int .u16 M.status,.int .u16 M.events,.int .u16 M.messages] fun cE cF bq bt i=>?_
 have a6:=dV bq (xs:=[M.status,M.events,M.messages]) (by as_aux_lemma=>kernel_rfl) (az (by omega) (az (by omega) (az (by omega) aZ))) (by(try simp only[List.length_cons,List.length_nil]);omega) bt
 have o:=ub i n
 refine bh ⟨(ag o rfl),(ag o rfl),(ag o rfl),(ag o rfl)⟩ fun cG=>?_
 refine R2 5 13 rfl rfl ?_ ?_
 refine  dy (m:=1) (e:=5) #[.int .u8 ((6+((M.data.length:Nat) : Int))%256)] fun bu cH bw bx G=>?_
 have U:=dP bw (xs:=[((6+((M.data.length:Nat) : Int))%256)]) (by as_aux_lemma=>kernel_rfl) (az (by omega) aZ) (by(try simp only[List.length_cons,List.length_nil]);omega) bx
 have v:=ub G o
 refine bh ⟨(ag v rfl),(ag v rfl),(ag v rfl),(ag v rfl)⟩ fun cI=>?_
 refine R0 13 rfl<|Oc<|ea (bB (xs:=[M.status,M.events,M.messages]) ((ax a6 G (fun x hx=>ay) (fun _ _ h=>h))).rd (by(try simp only[List.length_cons,List.length_nil]);omega)) fun cJ cK cL bz cN cO H=>?_
 have y:=ub H v
 refine bh ⟨(ag y rfl),(ag y rfl),(ag y rfl),(ag y rfl)⟩ fun cP=>?_
 refine R0 14 rfl<|cM bv (xs:=([((6+((M.data.length:Nat) : Int))%256)])) (ys:=(b7 ([M.status,M.events,M.messages]))) (.int .u8 0) 1 (ax U H (fun x hx=>ay) (fun _ _ h=>h)) (bz).rd (by(try simp only[List.length_append,List.length_cons,List.length_nil,aC]);omega) (le G.size H.size) fun cQ cR cS a7 a8=>?_
 have z:=aE.blk a8 (bi (aA (ak b) (le c.size i.size) U) ay) y
 refine bh ⟨(ag z rfl),(ag z rfl),(ag z rfl),(ag z rfl)⟩ fun bA=>Rt 15 bA<|re<|tn<|sg<|Pl 2<|L0<|aR z 14<|?_
 have a9:=ut G (ut (aE.mono (S':=(ob (some ⟨bu,0,none⟩)++[])) H au) a8 (av il au)) (av (aU U lr) au)
 have aa:=aI a (aI c (aI i a9))
 refine L0<|cM bv (xs:=([((6+((M.data.length:Nat) : Int))%256)]++(b7 ([M.status,M.events,M.messages])))) (ys:=M.data) (.int .u8 0) 1 a7 (bg.old hd aa) (by(try simp only[List.length_append,List.length_cons,List.length_nil,aC]);omega) a9.size fun bC bD cT bE bF=>Pl 1<|nt<|rt<|br<|tr<|rr (.slice bC ((([((6+((M.data.length:Nat) : Int))%256)]++(b7 ([M.status,M.events,M.messages])))++M.data).length) bD)<|?_
 have hs:bV dir M=(([((6+((M.data.length:Nat) : Int))%256)]++(b7 ([M.status,M.events,M.messages])))++M.data):=by
   unfold bV
   (try simp only[hd0,f,g,j,k,bs,if_true,if_false,decide_true,decide_false,reduceIte])
   all_goals rfl
 rw[hs]
 exact⟨_,rfl,(be.weaken bE (le (le a.size c.size) i.size)),(ut aa bF (av (aU a7 (le (le a.size c.size) i.size)) au))⟩
 refine  Oc<|ea (bB (xs:=[M.status,M.events,M.messages]) (a6).rd (by(try simp only[List.length_cons,List.length_nil]);omega)) fun cV cW cX bG cY cZ A=>?_
 have B:=ub A o
 refine bh ⟨(ag B rfl),(ag B rfl),(ag B rfl),(ag B rfl)⟩ fun d0=>R0 5 rfl<|dy (m:=1) (e:=5) #[.int .u8 ((6+((M.data.length:Nat) : Int))%256)] fun d1 d2 bH bI I=>?_
 have V:=dP bH (xs:=[((6+((M.data.length:Nat) : Int))%256)]) (by as_aux_lemma=>kernel_rfl) (az (by omega) aZ) (by(try simp only[List.length_cons,List.length_nil]);omega) bI
 have C:=ub I B
 refine bh ⟨(ag C rfl),(ag C rfl),(ag C rfl),(ag C rfl)⟩ fun d3=>?_
 refine R0 14 rfl<|cM bv (xs:=([((6+((M.data.length:Nat) : Int))%256)])) (ys:=(b7 ([M.status,M.events,M.messages]))) (.int .u8 0) 1 V ((ax bG I (fun x hx=>ay) (fun _ _ h=>h))).rd (by(try simp only[List.length_append,List.length_cons,List.length_nil,aC]);omega) I.size fun d4 d5 d6 ab ac=>?_
 have D:=aE.blk ac (bi (aA (ak b) (le (le c.size i.size) A.size) V) ay) C
 refine bh ⟨(ag D rfl),(ag D rfl),(ag D rfl),(ag D rfl)⟩ fun bJ=>Rt 15 bJ<|re<|tn<|sg<|Pl 2<|L0<|aR D 14<|?_
 have ad:=ut I ac (av (aU V lr) au)
 have ae:=aI a (aI c (aI i (aI A ad)))
 refine L0<|cM bv (xs:=([((6+((M.data.length:Nat) : Int))%256)]++(b7 ([M.status,M.events,M.messages])))) (ys:=M.data) (.int .u8 0) 1 ab (bg.old hd ae) (by(try simp only[List.length_append,List.length_cons,List.length_nil,aC]);omega) ad.size fun bK bL d7 bM bN=>Pl 1<|nt<|rt<|br<|tr<|rr (.slice bK ((([((6+((M.data.length:Nat) : Int))%256)]++(b7 ([M.status,M.events,M.messages])))++M.data).length) bL)<|?_
 have hs:bV dir M=(([((6+((M.data.length:Nat) : Int))%256)]++(b7 ([M.status,M.events,M.messages])))++M.data):=by
   unfold bV
   (try simp only[hd0,f,g,j,k,bs,if_true,if_false,decide_true,decide_false,reduceIte])
   all_goals rfl
 rw[hs]
 exact⟨_,rfl,(be.weaken bM (le (le (le a.size c.size) i.size) A.size)),(ut ae bN (av (aU ab (le (le (le a.size c.size) i.size) A.size)) au))⟩
 have b6:=ap k
 refine sk<|bn<|tn<|sg<|Pl 1<|L0<|aR b 14<|Pl 2<|L0<|dy (m:=1) (e:=5) #[.int .u8 (((M.data.length:Nat) : Int)%256)] fun d8 d9 bO bP W=>?_
 have af:=dP bO (xs:=[(((M.data.length:Nat) : Int)%256)]) (by as_aux_lemma=>kernel_rfl) (az (by omega) aZ) (by(try simp only[List.length_cons,List.length_nil]);omega) bP
 refine Pl 1<|?_
 refine L0<|aR (ub W b) 14<|?_
 have ah:=aI a W
 refine L0<|cM bv (xs:=([(((M.data.length:Nat) : Int)%256)])) (ys:=M.data) (.int .u8 0) 1 af (bg.old hd ah) (by(try simp only[List.length_append,List.length_cons,List.length_nil,aC]);omega) W.size fun bQ bS da bT bU=>Pl 1<|nt<|rt<|rr (.slice bQ (([(((M.data.length:Nat) : Int)%256)]++M.data).length) bS)<|?_
 have hs:bV dir M=([(((M.data.length:Nat) : Int)%256)]++M.data):=by
   unfold bV
   (try simp only[hd0,f,g,j,k,bs,if_true,if_false,decide_true,decide_false,reduceIte])
   all_goals rfl
 rw[hs]
 exact⟨_,rfl,(be.weaken bT a.size),(ut ah bU (av (aU af a.size) au))⟩
theorem qn{m:Md}{cs:Array Value}{M:aP}{w:World}{dir:Int}(h:aW m w cs.toList M)(hf:cU M) : Calls Tryz.prog 208 #[.int .i64 dir,.agg cs] w (gK (bV dir M) w):=by
  rcases dM (dir==0) with h0|h0
  · exact nu h hf h0
  · exact mJ h hf h0
open Go.RowKit
theorem dw{α:Type}(d:α)(xs:List α)(k:Nat)(h:k<xs.length) : xs.getD k d∈xs:=by
  simp[List.getD_eq_getElem?_getD,List.getElem?_eq_getElem h]
def gr:List Obj→List Int
  | []=>[]
  | o :: r=>([o.id,(o.value.length:Int)%256]++o.value)++gr r
theorem p3(xs:List Obj)(k:Nat)(h:k<xs.length) : gr (xs.drop k)=([(xs.getD k ⟨0,[]⟩).id,((xs.getD k ⟨0,[]⟩).value.length:Int)%256]++(xs.getD k ⟨0,[]⟩).value)++gr (xs.drop (k+1)):=by
  rw[List.drop_eq_getElem_cons h]
  simp[gr,List.getD_eq_getElem?_getD,List.getElem?_eq_getElem h]
def di (dir:Int)(M:aP) : List Int :=
  if M.mei==13 then [M.mei]++M.data
  else if dir==0 then [M.mei,M.kind,M.next]
  else [M.mei,M.kind,M.level,M.more,M.next,(M.objects.length:Int)%256]++gr M.objects
theorem oN{m:Md}{cs:Array Value}{M:aP}{w:World}{dir:Int}(h:aW m w cs.toList M)(hf:cU M)(hd0:(dir==0)=true) : Calls Tryz.prog 214 #[.int .i64 dir,.agg cs] w (gK (di dir M) w):=by
 obtain⟨vw,vb,vd,vr,vo,h0,hw,hbt,hd,hr,ho,hR⟩:=h
 obtain rfl:cs=(bR M vw vb vd vr vo).toArray:=by apply Array.toList_inj.1;simpa using h0
 clear h0
 obtain⟨Aw,kw,rfl,_,_⟩:=hw.shape
 obtain⟨Ab,kb,rfl,_,_⟩:=hbt.shape
 obtain⟨Ad,kd,rfl,_,_⟩:=hd.shape
 obtain⟨Ar,kr,rfl,_,_⟩:=hr.shape
 obtain⟨Ao,ko,rfl,_,_⟩:=ho.shape
 obtain⟨q0,q1,q2,q3,q4,q5,q6,q7,q8,q9,i,j,k,l,n,o,p⟩:=hR
 simp only[B8,dv] at q0 q1 q2 q3 q4 q5 q6 q7 q8 q9 i j k l n o p
 have hf1:=hf.words
 have hf2:=hf.bits
 have hf3:=hf.data
 have hf4:=hf.recs
 have hf5:=hf.objects
 refine en 64 Tryz.func214 rfl<|sg<|L0<|dt (mG M.code M.fail M.addr M.count M.value M.and_ M.or_ M.addr2 M.sub M.status M.events M.messages (.slice Aw M.words.length kw) (.slice Ab M.bits.length kb) (.slice Ad M.data.length kd) (.slice Ar M.recs.length kr) M.mei M.kind M.level M.more M.next (.slice Ao M.objects.length ko)) fun D E F a b=>Pl 1<|nt<|sq<|bk<|sg<|Pl 1<|L0<|aR a 16<|Pl 2<|nl<|?_
 refine tn<|cb ((M.mei==13)) (fun c=>?_) (fun c=>?_)
 have q:=al c
 refine sg<|Pl 1<|L0<|aR a 16<|L0<|dy (m:=1) (e:=5) #[.int .u8 M.mei] fun G H r s d=>?_
 have f:=dP r (xs:=[M.mei]) (by as_aux_lemma=>kernel_rfl) (az (by omega) aZ) (by(try simp only[List.length_cons,List.length_nil]);omega) s
 refine Pl 1<|?_
 refine L0<|aR (ub d a) 14<|?_
 have g:=aI b d
 refine L0<|cM bv (xs:=([M.mei])) (ys:=M.data) (.int .u8 0) 1 f (bg.old hd g) (by(try simp only[List.length_append,List.length_cons,List.length_nil,aC]);omega) d.size fun t u I v x=>Pl 1<|nt<|rt<|br<|tr<|rr (.slice t (([M.mei]++M.data).length) u)<|?_
 have hs:di dir M=([M.mei]++M.data):=by
   unfold di
   (try simp only[hd0,c,bs,if_true,if_false,decide_true,decide_false,reduceIte])
   all_goals rfl
 rw[hs]
 exact⟨_,rfl,(be.weaken v b.size),(ut g x (av (aU f b.size) au))⟩
 have q:=ap c
 refine sg<|Pl 3<|nt<|ct hd0<|sg<|Pl 1<|L0<|aR a 16<|Pl 1<|L0<|aR a 17<|Pl 1<|L0<|aR a 20<|?_
 refine L0<|dy (m:=3) (e:=5) #[.int .u8 M.mei,.int .u8 M.kind,.int .u8 M.next] fun y J z A B=>?_
 have C:=dP z (xs:=[M.mei,M.kind,M.next]) (by as_aux_lemma=>kernel_rfl) (az (by omega) (az (by omega) (az (by omega) aZ))) (by(try simp only[List.length_cons,List.length_nil]);omega) A
 refine Pl 1<|nt<|rt<|br<|tr<|rr (.slice (some ⟨y,0,none⟩) 3 3)<|?_
 have hs:di dir M=[M.mei,M.kind,M.next]:=by
   unfold di
   (try simp only[hd0,c,bs,if_true,if_false,decide_true,decide_false,reduceIte])
   all_goals rfl
 rw[hs]
 exact⟨_,rfl,(be.weaken C b.size),(aI b B)⟩
theorem oJ{m:Md}{cs:Array Value}{M:aP}{w:World}{dir:Int}(h:aW m w cs.toList M)(hf:cU M)(hd0:(dir==0)=false) : Calls Tryz.prog 214 #[.int .i64 dir,.agg cs] w (gK (di dir M) w):=by
 obtain⟨vw,vb,vd,vr,vo,h0,hw,hbt,hd,hr,ho,hR⟩:=h
 obtain rfl:cs=(bR M vw vb vd vr vo).toArray:=by apply Array.toList_inj.1;simpa using h0
 clear h0
 obtain⟨Aw,kw,rfl,_,_⟩:=hw.shape
 obtain⟨Ab,kb,rfl,_,_⟩:=hbt.shape
 obtain⟨Ad,kd,rfl,_,_⟩:=hd.shape
 obtain⟨Ar,kr,rfl,_,_⟩:=hr.shape
 obtain⟨Ao,ko,rfl,_,_⟩:=ho.shape
 obtain⟨q0,q1,q2,q3,q4,q5,q6,q7,q8,q9,O,P,Q,R,S,T,U⟩:=hR
 simp only[B8,dv] at q0 q1 q2 q3 q4 q5 q6 q7 q8 q9 O P Q R S T U
 have hf1:=hf.words
 have hf2:=hf.bits
 have hf3:=hf.data
 have hf4:=hf.recs
 have hf5:=hf.objects
 refine en 64 Tryz.func214 rfl<|sg<|L0<|dt (mG M.code M.fail M.addr M.count M.value M.and_ M.or_ M.addr2 M.sub M.status M.events M.messages (.slice Aw M.words.length kw) (.slice Ab M.bits.length kb) (.slice Ad M.data.length kd) (.slice Ar M.recs.length kr) M.mei M.kind M.level M.more M.next (.slice Ao M.objects.length ko)) fun aD r aF a c=>Pl 1<|nt<|sq<|bk<|sg<|Pl 1<|L0<|aR a 16<|Pl 2<|nl<|?_
 refine tn<|cb ((M.mei==13)) (fun d=>?_) (fun d=>?_)
 have V:=al d
 refine sg<|Pl 1<|L0<|aR a 16<|L0<|dy (m:=1) (e:=5) #[.int .u8 M.mei] fun aG aH W X s=>?_
 have E:=dP W (xs:=[M.mei]) (by as_aux_lemma=>kernel_rfl) (az (by omega) aZ) (by(try simp only[List.length_cons,List.length_nil]);omega) X
 refine Pl 1<|?_
 refine L0<|aR (ub s a) 14<|?_
 have F:=aI c s
 refine L0<|cM bv (xs:=([M.mei])) (ys:=M.data) (.int .u8 0) 1 E (bg.old hd F) (by(try simp only[List.length_append,List.length_cons,List.length_nil,aC]);omega) s.size fun Y Z aJ a0 a1=>Pl 1<|nt<|rt<|br<|tr<|rr (.slice Y (([M.mei]++M.data).length) Z)<|?_
 have hs:di dir M=([M.mei]++M.data):=by
   unfold di
   (try simp only[hd0,d,bs,if_true,if_false,decide_true,decide_false,reduceIte])
   all_goals rfl
 rw[hs]
 exact⟨_,rfl,(be.weaken a0 c.size),(ut F a1 (av (aU E c.size) au))⟩
 have V:=ap d
 refine sg<|Pl 3<|nt<|cf hd0<|sk<|bn<|tn<|sg<|Pl 1<|L0<|aR a 16<|Pl 1<|L0<|aR a 17<|?_
 refine Pl 1<|L0<|aR a 18<|Pl 1<|L0<|aR a 19<|Pl 1<|L0<|aR a 20<|Pl 1<|L0<|aR a 21<|Pl 2<|L0<|dy (m:=6) (e:=5) #[.int .u8 M.mei,.int .u8 M.kind,.int .u8 M.level,.int .u8 M.more,.int .u8 M.next,.int .u8 (((M.objects.length:Nat) : Int)%256)] fun a2 a3 a4 a5 j=>?_
 have a6:=dP a4 (xs:=[M.mei,M.kind,M.level,M.more,M.next,(((M.objects.length:Nat) : Int)%256)]) (by as_aux_lemma=>kernel_rfl) (az (by omega) (az (by omega) (az (by omega) (az (by omega) (az (by omega) (az (by omega) aZ)))))) (by(try simp only[List.length_cons,List.length_nil]);omega) a5
 refine Pl 1<|nt<|sq<|sg<|Pl 1<|?_
 refine L0<|aR (ub j a) 21<|Pl 2<|nt<|bk<|?_
 refine jw (fun x=>[(4,.slice none 0 0),(5,.slice x.2.2.1 x.2.1.length x.2.2.2),(44,.slice Ao M.objects.length ko),(45,.int .i64 ((M.objects.length:Nat) : Int)),(46,.int .i64 ((x.1:Nat) : Int))]) (fun(x:Nat × List Int × Option Addr × Nat) w'=>aE [] r w'∧a3.heap.size≤w'.heap.size∧fh r.heap.size w' (.slice x.2.2.1 x.2.1.length x.2.2.2) x.2.1∧(x.1≤M.objects.length)∧(x.2.1++gr (M.objects.drop x.1)=([M.mei,M.kind,M.level,M.more,M.next,(((M.objects.length:Nat) : Int)%256)])++gr M.objects)∧(x.2.1.length≤16+x.1*1026)∧(6≤x.2.1.length)) (fun x=>M.objects.length-x.1) (0,[M.mei,M.kind,M.level,M.more,M.next,(((M.objects.length:Nat) : Int)%256)],some ⟨a2,0,none⟩,6) ⟨j,lr,a6,(by(try dsimp only);omega),rfl,(by(try dsimp only);(try simp only[List.length_cons,List.length_nil]);omega),(by(try dsimp only);(try simp only[List.length_cons,List.length_nil]);omega)⟩ ?_
 rintro⟨k,L,A,cp⟩ a7 ⟨G,t,a8,a9,aa,ab,ac⟩
 refine jr [(4,.slice none 0 0),(5,.slice A L.length cp),(44,.slice Ao M.objects.length ko),(45,.int .i64 ((M.objects.length:Nat) : Int)),(46,.int .i64 ((k:Nat) : Int))] ?_
 have f:fh r.heap.size a7 (.slice A L.length cp) L:=a8
 have aK:k≤M.objects.length:=a9
 have aL:L++gr (M.objects.drop k)=([M.mei,M.kind,M.level,M.more,M.next,(((M.objects.length:Nat) : Int)%256)])++gr M.objects:=aa
 have aM:L.length≤16+k*1026:=ab
 have aN:6≤L.length:=ac
 have hL:L++gr (M.objects.drop k)=([M.mei,M.kind,M.level,M.more,M.next,(((M.objects.length:Nat) : Int)%256)])++gr M.objects:=by assumption
 have hv0:=fun(h:k<M.objects.length)=>hf.objv _ (dw ⟨0,[]⟩ M.objects k h)
 refine sg<|Pl 1<|nt<|sq<|?_
 have u:=aI c G
 refine cb ((decide (((k:Nat) : Int)<((M.objects.length:Nat) : Int)))) (fun l=>?_) (fun l=>?_)
 have ad:=of_decide_eq_true l
 refine bq<|sq<|bk<|sg<|iH (my.elt ho k (by omega)) fun aO aQ aS aT aV v y ae af ah aX ai=>L0<|qH 2 M.objects.length k ae (by omega)<|?_
 refine L0<|u7 [.int .u8 ((M.objects.getD k ⟨0,[]⟩).id),.slice v ((M.objects.getD k ⟨0,[]⟩).value.length) y] (ub u af) ai<|L0<|bJ #[.int .u8 0,.slice none 0 0] fun H aY I aj n=>L0<|b6 aj #[.int .u8 ((M.objects.getD k ⟨0,[]⟩).id),.slice v ((M.objects.getD k ⟨0,[]⟩).value.length) y] fun b0 ak o=>nt<|Rg 13 (fun w'=>w'.cell? ⟨H,0,none⟩=some (.int .u8 ((M.objects.getD k ⟨0,[]⟩).id))∧w'.cell? ⟨H,1,none⟩=some (.slice v ((M.objects.getD k ⟨0,[]⟩).value.length) y)) fun b1 g=>?_
 have z:=ub g ak
 refine bh ⟨(ag z rfl),(ag z rfl)⟩ fun b=>Rt 0 b<|Rt 1 b<|Rl 2 b (fun _ hs=>hs.1)<|Rt 3 b<|Rl 4 b (fun _ hs=>hs.2)<|Rt 5 b<|Rt 6 b<|Rt 9 b<|Rl 10 b (fun _ hs=>hs.2)<|R0 7 rfl<|dy (m:=2) (e:=5) #[.int .u8 ((M.objects.getD k ⟨0,[]⟩).id),.int .u8 ((((M.objects.getD k ⟨0,[]⟩).value.length:Nat) : Int)%256)] fun b2 b3 am an i=>?_
 have ao:=dP am (xs:=[(M.objects.getD k ⟨0,[]⟩).id,((((M.objects.getD k ⟨0,[]⟩).value.length:Nat) : Int)%256)]) (by as_aux_lemma=>kernel_rfl) (az (by omega) (az (by omega) aZ)) (by(try simp only[List.length_cons,List.length_nil]);omega) an
 have B:=ub i z
 refine bh ⟨(ag B rfl),(ag B rfl)⟩ fun b4=>?_
 have J:=ud n (aI o (aI g i)) I
 refine R0 8 rfl<|cM bv (xs:=L) (ys:=([(M.objects.getD k ⟨0,[]⟩).id,((((M.objects.getD k ⟨0,[]⟩).value.length:Nat) : Int)%256)])) (.int .u8 0) 1 (ax f J (fun x hx=>ay) (fun _ _ h=>h)) (ao).rd (by(try simp only[List.length_append,List.length_cons,List.length_nil,aC]);omega) (le (le (le (le (le j.size t) n.size) o.size) g.size) i.size) fun aq b5 b7 C p=>?_
 have q:=aE.blk p (bi (dK f lr I) ay) B
 refine bh ⟨(ag q rfl),(ag q rfl)⟩ fun b8=>?_
 have K:=ut (aE.mono (S':=(ob A++[])) J au) p (av il au)
 refine R0 11 rfl<|cM bv (xs:=(L++[(M.objects.getD k ⟨0,[]⟩).id,((((M.objects.getD k ⟨0,[]⟩).value.length:Nat) : Int)%256)])) (ys:=((M.objects.getD k ⟨0,[]⟩).value)) (.int .u8 0) 1 C (bg.old ah (ut u K (av (aU f c.size) au))) (by(try simp only[List.length_append,List.length_cons,List.length_nil,aC]);omega) (le (le (le (le (le (le j.size t) n.size) o.size) g.size) i.size) p.size) fun ar aw b9 aA D=>?_
 have N:=aE.blk D (bi (dl q C (by decide)) ay) q
 refine bh ⟨(ag N rfl),(ag N rfl)⟩ fun aB=>Rt 12 aB<|re<|bn<|tn<|go<|L0<|Oi (((k:Nat) : Int)+1)<|Pl 1<|nl<|?_
 exact gt ((k+1),((L++[(M.objects.getD k ⟨0,[]⟩).id,((((M.objects.getD k ⟨0,[]⟩).value.length:Nat) : Int)%256)])++(M.objects.getD k ⟨0,[]⟩).value),ar,aw) ⟨(ut G (ut (aE.mono (S':=(ob A++(ob aq++[]))) K (av il au)) D (av il au)) (av (aU f lr) (av (aU C lr) au))),(le (le (le (le (le (le t n.size) o.size) g.size) i.size) p.size) D.size),aA,(by(try dsimp only);omega),(by(try dsimp only);rw[← hL,p3  M.objects k (by omega)];simp only[List.append_assoc]),(by(try dsimp only);have hv:=hf.objv _ (dw ⟨0,[]⟩ M.objects k (by omega));(try simp only[List.length_append,List.length_cons,List.length_nil,aC]);omega),(by(try dsimp only);(try simp only[List.length_append,List.length_cons,List.length_nil]);omega)⟩ (by omega)
 have ad:=of_decide_eq_false l
 refine xt<|tx<|tx<|bx<|tn<|sg<|Pl 2<|nt<|rt<|rr (.slice A L.length cp)<|?_
 have hk:k=M.objects.length:=by omega
 rw[hk,List.drop_length] at hL
 have hL2:L=([M.mei,M.kind,M.level,M.more,M.next,(((M.objects.length:Nat) : Int)%256)])++gr M.objects:=by rw[← hL];simp[gr]
 have hs:di dir M=L:=by
   rw[hL2]
   unfold di
   (try simp only[hd0,d,l,bs,if_true,if_false,decide_true,decide_false,reduceIte])
   all_goals rfl
 rw[hs]
 exact⟨_,rfl,(be.weaken f c.size),u⟩
theorem ru{m:Md}{cs:Array Value}{M:aP}{w:World}{dir:Int}(h:aW m w cs.toList M)(hf:cU M) : Calls Tryz.prog 214 #[.int .i64 dir,.agg cs] w (gK (di dir M) w):=by
  rcases dM (dir==0) with h0|h0
  · exact oN h hf h0
  · exact oJ h hf h0
open Go.RowKit
def j7 (dir code:Int)(r:de) : List Int:=(if code==20&&dir==1 then [(1+2*(r.words.length:Int))%256,6] else [6]++b7 [r.file,r.record,r.count])++b7 r.words
def cR (dir code:Int) : List de→List Int
  | []=>[]
  | r :: rs=>j7 dir code r++cR dir code rs
theorem dq(dir code:Int)(xs:List de)(k:Nat)(h:k<xs.length) : cR dir code (xs.drop k)=j7 dir code (xs.getD k ⟨0,0,0,[]⟩)++cR dir code (xs.drop (k+1)):=by
  rw[List.drop_eq_getElem_cons h]
  simp[cR,List.getD_eq_getElem?_getD,List.getElem?_eq_getElem h]
def cS (dir:Int)(M:aP) : List Int:=([0]++cR dir M.code M.recs).set 0 (((([0]++cR dir M.code M.recs).length:Int)-1)%256)
theorem mF{m:Md}{cs:Array Value}{M:aP}{w:World}{dir:Int}(h:aW m w cs.toList M)(hf:cU M)(hd0:(dir==0)=true) : Calls Tryz.prog 212 #[.int .i64 dir,.agg cs] w (gK (cS dir M) w):=by
 obtain⟨vw,vb,vd,vr,vo,h0,hw,hbt,hd,hr,ho,hR⟩:=h
 obtain rfl:cs=(bR M vw vb vd vr vo).toArray:=by apply Array.toList_inj.1;simpa using h0
 clear h0
 obtain⟨Aw,kw,rfl,_,_⟩:=hw.shape
 obtain⟨Ab,kb,rfl,_,_⟩:=hbt.shape
 obtain⟨Ad,kd,rfl,_,_⟩:=hd.shape
 obtain⟨Ar,kr,rfl,_,_⟩:=hr.shape
 obtain⟨Ao,ko,rfl,_,_⟩:=ho.shape
 obtain⟨q0,q1,q2,q3,q4,q5,q6,q7,q8,q9,bf,bj,bm,bo,bp,br,bt⟩:=hR
 simp only[B8,dv] at q0 q1 q2 q3 q4 q5 q6 q7 q8 q9 bf bj bm bo bp br bt
 have hf1:=hf.words
 have hf2:=hf.bits
 have hf3:=hf.data
 have hf4:=hf.recs
 have hf5:=hf.objects
 refine en 58 Tryz.func212 rfl<|sg<|L0<|dt (mG M.code M.fail M.addr M.count M.value M.and_ M.or_ M.addr2 M.sub M.status M.events M.messages (.slice Aw M.words.length kw) (.slice Ab M.bits.length kb) (.slice Ad M.data.length kd) (.slice Ar M.recs.length kr) M.mei M.kind M.level M.more M.next (.slice Ao M.objects.length ko)) fun an ac cz ao l=>Pl 1<|ng<|L0<|dy (m:=1) (e:=5) #[.int .u8 0] fun bu bw bz bA g=>?_
 have bC:=dP bz (xs:=[0]) (by as_aux_lemma=>kernel_rfl) (az (by omega) aZ) (by(try simp only[List.length_cons,List.length_nil]);omega) bA
 refine Pl 1<|nt<|sq<|sg<|Pl 1<|?_
 refine L0<|aR (ub g ao) 15<|Pl 2<|nt<|bk<|?_
 refine jw (fun x=>[(0,.int .i64 dir),(3,.pointer (some ⟨an,0,none⟩)),(4,.slice none 0 0),(5,.slice x.2.2.1 x.2.1.length x.2.2.2),(10,.slice Ar M.recs.length kr),(11,.int .i64 ((M.recs.length:Nat) : Int)),(12,.int .i64 ((x.1:Nat) : Int))]) (fun(x:Nat × List Int × Option Addr × Nat) w'=>aE [] ac w'∧bw.heap.size≤w'.heap.size∧fh ac.heap.size w' (.slice x.2.2.1 x.2.1.length x.2.2.2) x.2.1∧(x.1≤M.recs.length)∧(x.2.1++cR dir M.code (M.recs.drop x.1)=([0])++cR dir M.code M.recs)∧(x.2.1.length≤16+x.1*2060)∧(1≤x.2.1.length)) (fun x=>M.recs.length-x.1) (0,[0],some ⟨bu,0,none⟩,1) ⟨g,lr,bC,(by(try dsimp only);omega),rfl,(by(try dsimp only);(try simp only[List.length_cons,List.length_nil]);omega),(by(try dsimp only);(try simp only[List.length_cons,List.length_nil]);omega)⟩ ?_
 rintro⟨k,L,A,cp⟩ bD ⟨aq,f,bE,bF,bG,bH,bI⟩
 refine jr [(0,.int .i64 dir),(3,.pointer (some ⟨an,0,none⟩)),(4,.slice none 0 0),(5,.slice A L.length cp),(10,.slice Ar M.recs.length kr),(11,.int .i64 ((M.recs.length:Nat) : Int)),(12,.int .i64 ((k:Nat) : Int))] ?_
 have a:fh ac.heap.size bD (.slice A L.length cp) L:=bE
 have cA:k≤M.recs.length:=bF
 have cB:L++cR dir M.code (M.recs.drop k)=([0])++cR dir M.code M.recs:=bG
 have cC:L.length≤16+k*2060:=bH
 have cD:1≤L.length:=bI
 have hL:L++cR dir M.code (M.recs.drop k)=([0])++cR dir M.code M.recs:=by assumption
 have hv0:=fun(h:k<M.recs.length)=>hf.recw _ (dw ⟨0,0,0,[]⟩ M.recs k h)
 refine sg<|Pl 1<|nt<|sq<|?_
 have ad:=aI l aq
 refine cb ((decide (((k:Nat) : Int)<((M.recs.length:Nat) : Int)))) (fun n=>?_) (fun n=>?_)
 have bK:=of_decide_eq_true n
 refine bq<|sq<|bk<|sg<|iH (kn.elt hr k (by omega)) fun cE cF cG cH cI ar aw bL bM Q cJ bN=>L0<|qH 4 M.recs.length k bL (by omega)<|?_
 refine L0<|u7 [.int .u16 ((M.recs.getD k ⟨0,0,0,[]⟩).file),.int .u16 ((M.recs.getD k ⟨0,0,0,[]⟩).record),.int .u16 ((M.recs.getD k ⟨0,0,0,[]⟩).count),.slice ar ((M.recs.getD k ⟨0,0,0,[]⟩).words.length) aw] (ub ad bM) bN<|L0<|bJ #[.int .u16 0,.int .u16 0,.int .u16 0,.slice none 0 0] fun ae cK B bO b=>L0<|b6 bO #[.int .u16 ((M.recs.getD k ⟨0,0,0,[]⟩).file),.int .u16 ((M.recs.getD k ⟨0,0,0,[]⟩).record),.int .u16 ((M.recs.getD k ⟨0,0,0,[]⟩).count),.slice ar ((M.recs.getD k ⟨0,0,0,[]⟩).words.length) aw] fun cL af c=>nt<|sq<|bk<|sg<|Pl 1<|?_
 have s:=ud b c B
 have C:=aI aq s
 refine L0<|aR (ub C ao) 0<|Pl 2<|cu 3 [32] 35 (((M.code==20)&&(dir==1))) (fun K aA=>?_) ?_
 refine bl 32 ((M.code==20)) (fun D=>?_) (fun D=>?_)
 have bP:=al D
 exact Pl 3<|ce aA (dir==1) (by rw[D];rfl)
 have bP:=ap D
 exact Pl 3<|ce aA false (by rw[D];rfl)
 refine Pl 1<|nt<|?_
 have R:=aI ad s
 refine cb (((M.code==20)&&(dir==1))) (fun o=>?_) (fun o=>?_)
 have aB:=(aS o).1
 have aD:=(aS o).2
 have cN:=al aB
 have cO:=al aD
 refine go<|Pl 2<|L0<|aR af 3<|Pl 1<|L0<|Oi (2*(((M.recs.getD k ⟨0,0,0,[]⟩).words.length:Nat) : Int))<|L0<|Oi (1+(2*(((M.recs.getD k ⟨0,0,0,[]⟩).words.length:Nat) : Int)))<|Pl 1<|L0<|dy (m:=2) (e:=5) #[.int .u8 ((1+(2*(((M.recs.getD k ⟨0,0,0,[]⟩).words.length:Nat) : Int)))%256),.int .u8 6] fun cP cQ bQ bS E=>?_
 have bT:=dP bQ (xs:=[((1+(2*(((M.recs.getD k ⟨0,0,0,[]⟩).words.length:Nat) : Int)))%256),6]) (by as_aux_lemma=>kernel_rfl) (az (by omega) (az (by omega) aZ)) (by(try simp only[List.length_cons,List.length_nil]);omega) bS
 refine L0<|cM bv (xs:=L) (ys:=([((1+(2*(((M.recs.getD k ⟨0,0,0,[]⟩).words.length:Nat) : Int)))%256),6])) (.int .u8 0) 1 (ax a (aI s E) (fun x hx=>ay) (fun _ _ h=>h)) (bT).rd (by(try simp only[List.length_append,List.length_cons,List.length_nil,aC]);omega) (le (le (le (le g.size f) b.size) c.size) E.size) fun aF cT cV aG ah=>Pl 1<|nl<|bn<|tn<|go<|Pl 2<|?_
 have ai:=ut (aE.mono (S':=(ob A++[])) E au) ah (av il au)
 refine L0<|aR (aE.blk ai (bi (dK a lr B) ay) af) 3<|?_
 refine L0<|Oc<|ea (bB (xs:=(M.recs.getD k ⟨0,0,0,[]⟩).words) (dJ.old Q (ut R ai (av (aU a l.size) au))) (by(try simp only[List.length_cons,List.length_nil]);omega)) fun cW cX cY bU cZ d0 S=>?_
 refine L0<|cM bv (xs:=(L++[((1+(2*(((M.recs.getD k ⟨0,0,0,[]⟩).words.length:Nat) : Int)))%256),6])) (ys:=(b7 ((M.recs.getD k ⟨0,0,0,[]⟩).words))) (.int .u8 0) 1 (ax aG S (fun x hx=>ay) (fun _ _ h=>h)) (bU).rd (by(try simp only[List.length_append,List.length_cons,List.length_nil,aC]);omega) (le (le (le (le (le (le g.size f) b.size) c.size) E.size) ah.size) S.size) fun bV bW d1 bX aH=>Pl 1<|nl<|bn<|tn<|go<|L0<|Oi (((k:Nat) : Int)+1)<|Pl 1<|nl<|?_
 exact gt ((k+1),((L++[((1+(2*(((M.recs.getD k ⟨0,0,0,[]⟩).words.length:Nat) : Int)))%256),6])++(b7 ((M.recs.getD k ⟨0,0,0,[]⟩).words))),bV,bW) ⟨(ut C (ut (aE.mono (S':=(ob A++(ob aF++[]))) ai (av il au)) (ut (aE.mono (S':=(ob aF++[])) S au) aH (av il au)) (av il au)) (av (aU a lr) (av (aU aG lr) au))),(le (le (le (le (le (le f b.size) c.size) E.size) ah.size) S.size) aH.size),bX,(by(try dsimp only);omega),(by(try dsimp only);rw[← hL,dq dir M.code M.recs k (by omega)];simp only[j7,hd0,n,o,aB,aD,bs,if_true,if_false,decide_true,decide_false,List.append_assoc]),(by(try dsimp only);have hv:=hf.recw _ (dw ⟨0,0,0,[]⟩ M.recs k (by omega));(try simp only[List.length_append,List.length_cons,List.length_nil,aC]);omega),(by(try dsimp only);(try simp only[List.length_append,List.length_cons,List.length_nil]);omega)⟩ (by omega)
 refine Rg 13 (fun w'=>w'.cell? ⟨ae,0,none⟩=some (.int .u16 ((M.recs.getD k ⟨0,0,0,[]⟩).file))∧w'.cell? ⟨ae,1,none⟩=some (.int .u16 ((M.recs.getD k ⟨0,0,0,[]⟩).record))∧w'.cell? ⟨ae,2,none⟩=some (.int .u16 ((M.recs.getD k ⟨0,0,0,[]⟩).count))) fun d2 d=>?_
 have F:=ub d af
 refine bh ⟨(ag F rfl),(ag F rfl),(ag F rfl)⟩ fun p=>Rt 0 p<|Rt 3 p<|Rl 4 p (fun _ hs=>hs.1)<|Rt 5 p<|Rl 6 p (fun _ hs=>hs.2.1)<|Rt 7 p<|Rl 8 p (fun _ hs=>hs.2.2)<|?_
 refine R2 1 9 rfl rfl ?_ ?_
 refine  dy (m:=1) (e:=5) #[.int .u8 6] fun d3 d4 bY bZ i=>?_
 have aJ:=dP bY (xs:=[6]) (by as_aux_lemma=>kernel_rfl) (az (by omega) aZ) (by(try simp only[List.length_cons,List.length_nil]);omega) bZ
 have G:=ub i F
 refine bh ⟨(ag G rfl),(ag G rfl),(ag G rfl)⟩ fun d5=>?_
 refine R2 2 9 rfl rfl ?_ ?_
 have aK:=aI d i
 refine  cM bv (xs:=L) (ys:=([6])) (.int .u8 0) 1 (ax a (aI s aK) (fun x hx=>ay) (fun _ _ h=>h)) (aJ).rd (by(try simp only[List.length_append,List.length_cons,List.length_nil,aC]);omega) (le (le (le (le (le g.size f) b.size) c.size) d.size) i.size) fun T d6 d7 aj H=>?_
 have U:=aE.blk H (bi (dK a lr B) ay) G
 refine bh ⟨(ag U rfl),(ag U rfl),(ag U rfl)⟩ fun d8=>R0 9 rfl<|dy (m:=3) (e:=24) #[.int .u16 ((M.recs.getD k ⟨0,0,0,[]⟩).file),.int .u16 ((M.recs.getD k ⟨0,0,0,[]⟩).record),.int .u16 ((M.recs.getD k ⟨0,0,0,[]⟩).count)] fun d9 da c0 c1 I=>?_
 have c2:=dV c0 (xs:=[(M.recs.getD k ⟨0,0,0,[]⟩).file,(M.recs.getD k ⟨0,0,0,[]⟩).record,(M.recs.getD k ⟨0,0,0,[]⟩).count]) (by as_aux_lemma=>kernel_rfl) (az (by omega) (az (by omega) (az (by omega) aZ))) (by(try simp only[List.length_cons,List.length_nil]);omega) c1
 have V:=ub I U
 refine bh ⟨(ag V rfl),(ag V rfl),(ag V rfl)⟩ fun db=>R0 10 rfl<|Oc<|ea (bB (xs:=[(M.recs.getD k ⟨0,0,0,[]⟩).file,(M.recs.getD k ⟨0,0,0,[]⟩).record,(M.recs.getD k ⟨0,0,0,[]⟩).count]) (c2).rd (by(try simp only[List.length_cons,List.length_nil]);omega)) fun dc dd de c3 df dg J=>?_
 have N:=ub J V
 refine bh ⟨(ag N rfl),(ag N rfl),(ag N rfl)⟩ fun dh=>?_
 have aL:=aI I J
 have aM:=ax aj aL (fun x hx=>ay) (fun _ _ h=>h)
 refine R0 11 rfl<|cM bv (xs:=(L++[6])) (ys:=(b7 ([(M.recs.getD k ⟨0,0,0,[]⟩).file,(M.recs.getD k ⟨0,0,0,[]⟩).record,(M.recs.getD k ⟨0,0,0,[]⟩).count]))) (.int .u8 0) 1 aM (c3).rd (by(try simp only[List.length_append,List.length_cons,List.length_nil,aC]);omega) (le (le (le (le (le (le (le (le g.size f) b.size) c.size) d.size) i.size) H.size) I.size) J.size) fun aN di dj aO W=>?_
 have X:=aE.blk W (bi (dl N aM (by decide)) ay) N
 refine bh ⟨(ag X rfl),(ag X rfl),(ag X rfl)⟩ fun c4=>Rt 12 c4<|re<|bn<|tn<|go<|Pl 2<|L0<|aR X 3<|?_
 have aQ:=ut (aE.mono (S':=(ob A++(ob T++[]))) aK au) (ut (aE.mono (S':=(ob A++(ob T++[]))) H (av il au)) (ut (aE.mono (S':=(ob T++[])) aL au) W (av il au)) (av il au)) (av il (av il au))
 refine L0<|Oc<|ea (bB (xs:=(M.recs.getD k ⟨0,0,0,[]⟩).words) (dJ.old Q (ut R aQ (av (aU a l.size) (av (aU aj l.size) au)))) (by(try simp only[List.length_cons,List.length_nil]);omega)) fun dk dm dn c5 dp dr Y=>?_
 refine L0<|cM bv (xs:=((L++[6])++(b7 ([(M.recs.getD k ⟨0,0,0,[]⟩).file,(M.recs.getD k ⟨0,0,0,[]⟩).record,(M.recs.getD k ⟨0,0,0,[]⟩).count])))) (ys:=(b7 ((M.recs.getD k ⟨0,0,0,[]⟩).words))) (.int .u8 0) 1 (ax aO Y (fun x hx=>ay) (fun _ _ h=>h)) (c5).rd (by(try simp only[List.length_append,List.length_cons,List.length_nil,aC]);omega) (le (le (le (le (le (le (le (le (le (le g.size f) b.size) c.size) d.size) i.size) H.size) I.size) J.size) W.size) Y.size) fun c6 c7 ds c8 aT=>Pl 1<|nl<|bn<|tn<|go<|L0<|Oi (((k:Nat) : Int)+1)<|Pl 1<|nl<|?_
 exact gt ((k+1),(((L++[6])++(b7 ([(M.recs.getD k ⟨0,0,0,[]⟩).file,(M.recs.getD k ⟨0,0,0,[]⟩).record,(M.recs.getD k ⟨0,0,0,[]⟩).count])))++(b7 ((M.recs.getD k ⟨0,0,0,[]⟩).words))),c6,c7) ⟨(ut C (ut (aE.mono (S':=(ob A++(ob T++(ob aN++[])))) aQ (av il (av il au))) (ut (aE.mono (S':=(ob aN++[])) Y au) aT (av il au)) (av il au)) (av (aU a lr) (av (aU aj lr) (av (aU aO lr) au)))),(le (le (le (le (le (le (le (le (le (le f b.size) c.size) d.size) i.size) H.size) I.size) J.size) W.size) Y.size) aT.size),c8,(by(try dsimp only);omega),(by(try dsimp only);rw[← hL,dq dir M.code M.recs k (by omega)];simp only[j7,hd0,n,o,bs,if_true,if_false,decide_true,decide_false,List.append_assoc]),(by(try dsimp only);have hv:=hf.recw _ (dw ⟨0,0,0,[]⟩ M.recs k (by omega));(try simp only[List.length_append,List.length_cons,List.length_nil,aC]);omega),(by(try dsimp only);(try simp only[List.length_append,List.length_cons,List.length_nil]);omega)⟩ (by omega)
 refine  dy (m:=3) (e:=24) #[.int .u16 ((M.recs.getD k ⟨0,0,0,[]⟩).file),.int .u16 ((M.recs.getD k ⟨0,0,0,[]⟩).record),.int .u16 ((M.recs.getD k ⟨0,0,0,[]⟩).count)] fun du dx c9 ca q=>?_
 have aV:=dV c9 (xs:=[(M.recs.getD k ⟨0,0,0,[]⟩).file,(M.recs.getD k ⟨0,0,0,[]⟩).record,(M.recs.getD k ⟨0,0,0,[]⟩).count]) (by as_aux_lemma=>kernel_rfl) (az (by omega) (az (by omega) (az (by omega) aZ))) (by(try simp only[List.length_cons,List.length_nil]);omega) ca
 have Z:=ub q G
 refine bh ⟨(ag Z rfl),(ag Z rfl),(ag Z rfl)⟩ fun dz=>?_
 have aX:=aI d (aI i q)
 refine R0 2 rfl<|cM bv (xs:=L) (ys:=([6])) (.int .u8 0) 1 (ax a (aI s aX) (fun x hx=>ay) (fun _ _ h=>h)) ((ax aJ q (fun x hx=>ay) (fun _ _ h=>h))).rd (by(try simp only[List.length_append,List.length_cons,List.length_nil,aC]);omega) (le (le (le (le (le (le g.size f) b.size) c.size) d.size) i.size) q.size) fun a0 dA dB ak t=>?_
 have a1:=aE.blk t (bi (dK a lr B) ay) Z
 refine bh ⟨(ag a1 rfl),(ag a1 rfl),(ag a1 rfl)⟩ fun dC=>?_
 refine R0 10 rfl<|Oc<|ea (bB (xs:=[(M.recs.getD k ⟨0,0,0,[]⟩).file,(M.recs.getD k ⟨0,0,0,[]⟩).record,(M.recs.getD k ⟨0,0,0,[]⟩).count]) ((ax aV t (fun x hx=>(bi ((fD aV a (le (le (le b.size c.size) d.size) i.size)) x hx) ay)) (fun _ _ h=>h))).rd (by(try simp only[List.length_cons,List.length_nil]);omega)) fun dD dE dF cc dG dH u=>?_
 have O:=ub u a1
 refine bh ⟨(ag O rfl),(ag O rfl),(ag O rfl)⟩ fun dI=>?_
 have aY:=ax ak u (fun x hx=>ay) (fun _ _ h=>h)
 refine R0 11 rfl<|cM bv (xs:=(L++[6])) (ys:=(b7 ([(M.recs.getD k ⟨0,0,0,[]⟩).file,(M.recs.getD k ⟨0,0,0,[]⟩).record,(M.recs.getD k ⟨0,0,0,[]⟩).count]))) (.int .u8 0) 1 aY (cc).rd (by(try simp only[List.length_append,List.length_cons,List.length_nil,aC]);omega) (le (le (le (le (le (le (le (le g.size f) b.size) c.size) d.size) i.size) q.size) t.size) u.size) fun b0 dL dM b1 a2=>?_
 have a3:=aE.blk a2 (bi (dl O aY (by decide)) ay) O
 refine bh ⟨(ag a3 rfl),(ag a3 rfl),(ag a3 rfl)⟩ fun cd=>Rt 12 cd<|re<|bn<|tn<|go<|Pl 2<|L0<|aR a3 3<|?_
 have b2:=ut (aE.mono (S':=(ob A++(ob a0++[]))) aX au) (ut (aE.mono (S':=(ob A++(ob a0++[]))) t (av il au)) (ut (aE.mono (S':=(ob a0++[])) u au) a2 (av il au)) (av il au)) (av il (av il au))
 refine L0<|Oc<|ea (bB (xs:=(M.recs.getD k ⟨0,0,0,[]⟩).words) (dJ.old Q (ut R b2 (av (aU a l.size) (av (aU ak l.size) au)))) (by(try simp only[List.length_cons,List.length_nil]);omega)) fun dN dO dQ cf dR dS a4=>?_
 refine L0<|cM bv (xs:=((L++[6])++(b7 ([(M.recs.getD k ⟨0,0,0,[]⟩).file,(M.recs.getD k ⟨0,0,0,[]⟩).record,(M.recs.getD k ⟨0,0,0,[]⟩).count])))) (ys:=(b7 ((M.recs.getD k ⟨0,0,0,[]⟩).words))) (.int .u8 0) 1 (ax b1 a4 (fun x hx=>ay) (fun _ _ h=>h)) (cf).rd (by(try simp only[List.length_append,List.length_cons,List.length_nil,aC]);omega) (le (le (le (le (le (le (le (le (le (le g.size f) b.size) c.size) d.size) i.size) q.size) t.size) u.size) a2.size) a4.size) fun cg ch dT ci b3=>Pl 1<|nl<|bn<|tn<|go<|L0<|Oi (((k:Nat) : Int)+1)<|Pl 1<|nl<|?_
 exact gt ((k+1),(((L++[6])++(b7 ([(M.recs.getD k ⟨0,0,0,[]⟩).file,(M.recs.getD k ⟨0,0,0,[]⟩).record,(M.recs.getD k ⟨0,0,0,[]⟩).count])))++(b7 ((M.recs.getD k ⟨0,0,0,[]⟩).words))),cg,ch) ⟨(ut C (ut (aE.mono (S':=(ob A++(ob a0++(ob b0++[])))) b2 (av il (av il au))) (ut (aE.mono (S':=(ob b0++[])) a4 au) b3 (av il au)) (av il au)) (av (aU a lr) (av (aU ak lr) (av (aU b1 lr) au)))),(le (le (le (le (le (le (le (le (le (le f b.size) c.size) d.size) i.size) q.size) t.size) u.size) a2.size) a4.size) b3.size),ci,(by(try dsimp only);omega),(by(try dsimp only);rw[← hL,dq dir M.code M.recs k (by omega)];simp only[j7,hd0,n,o,bs,if_true,if_false,decide_true,decide_false,List.append_assoc]),(by(try dsimp only);have hv:=hf.recw _ (dw ⟨0,0,0,[]⟩ M.recs k (by omega));(try simp only[List.length_append,List.length_cons,List.length_nil,aC]);omega),(by(try dsimp only);(try simp only[List.length_append,List.length_cons,List.length_nil]);omega)⟩ (by omega)
 refine  dy (m:=3) (e:=24) #[.int .u16 ((M.recs.getD k ⟨0,0,0,[]⟩).file),.int .u16 ((M.recs.getD k ⟨0,0,0,[]⟩).record),.int .u16 ((M.recs.getD k ⟨0,0,0,[]⟩).count)] fun dU dW cj ck v=>?_
 have b4:=dV cj (xs:=[(M.recs.getD k ⟨0,0,0,[]⟩).file,(M.recs.getD k ⟨0,0,0,[]⟩).record,(M.recs.getD k ⟨0,0,0,[]⟩).count]) (by as_aux_lemma=>kernel_rfl) (az (by omega) (az (by omega) (az (by omega) aZ))) (by(try simp only[List.length_cons,List.length_nil]);omega) ck
 have a5:=ub v F
 refine bh ⟨(ag a5 rfl),(ag a5 rfl),(ag a5 rfl)⟩ fun dX=>R0 1 rfl<|dy (m:=1) (e:=5) #[.int .u8 6] fun dY dZ cl cm r=>?_
 have cn:=dP cl (xs:=[6]) (by as_aux_lemma=>kernel_rfl) (az (by omega) aZ) (by(try simp only[List.length_cons,List.length_nil]);omega) cm
 have a6:=ub r a5
 refine bh ⟨(ag a6 rfl),(ag a6 rfl),(ag a6 rfl)⟩ fun e0=>?_
 have b5:=aI d (aI v r)
 refine R0 2 rfl<|cM bv (xs:=L) (ys:=([6])) (.int .u8 0) 1 (ax a (aI s b5) (fun x hx=>ay) (fun _ _ h=>h)) (cn).rd (by(try simp only[List.length_append,List.length_cons,List.length_nil,aC]);omega) (le (le (le (le (le (le g.size f) b.size) c.size) d.size) v.size) r.size) fun a7 e1 e2 am y=>?_
 have a8:=aE.blk y (bi (dK a lr B) ay) a6
 refine bh ⟨(ag a8 rfl),(ag a8 rfl),(ag a8 rfl)⟩ fun e3=>?_
 refine R0 10 rfl<|Oc<|ea (bB (xs:=[(M.recs.getD k ⟨0,0,0,[]⟩).file,(M.recs.getD k ⟨0,0,0,[]⟩).record,(M.recs.getD k ⟨0,0,0,[]⟩).count]) ((ax b4 (ut (aE.mono (S':=(ob A++[])) r au) y (av il au)) (fun x hx=>(bi ((fD b4 a (le (le b.size c.size) d.size)) x hx) ay)) (fun _ _ h=>h))).rd (by(try simp only[List.length_cons,List.length_nil]);omega)) fun e4 e5 e6 co e7 e8 z=>?_
 have P:=ub z a8
 refine bh ⟨(ag P rfl),(ag P rfl),(ag P rfl)⟩ fun e9=>?_
 have b8:=ax am z (fun x hx=>ay) (fun _ _ h=>h)
 refine R0 11 rfl<|cM bv (xs:=(L++[6])) (ys:=(b7 ([(M.recs.getD k ⟨0,0,0,[]⟩).file,(M.recs.getD k ⟨0,0,0,[]⟩).record,(M.recs.getD k ⟨0,0,0,[]⟩).count]))) (.int .u8 0) 1 b8 (co).rd (by(try simp only[List.length_append,List.length_cons,List.length_nil,aC]);omega) (le (le (le (le (le (le (le (le g.size f) b.size) c.size) d.size) v.size) r.size) y.size) z.size) fun b9 eb ec ba a9=>?_
 have aa:=aE.blk a9 (bi (dl P b8 (by decide)) ay) P
 refine bh ⟨(ag aa rfl),(ag aa rfl),(ag aa rfl)⟩ fun cq=>Rt 12 cq<|re<|bn<|tn<|go<|Pl 2<|L0<|aR aa 3<|?_
 have bb:=ut (aE.mono (S':=(ob A++(ob a7++[]))) b5 au) (ut (aE.mono (S':=(ob A++(ob a7++[]))) y (av il au)) (ut (aE.mono (S':=(ob a7++[])) z au) a9 (av il au)) (av il au)) (av il (av il au))
 refine L0<|Oc<|ea (bB (xs:=(M.recs.getD k ⟨0,0,0,[]⟩).words) (dJ.old Q (ut R bb (av (aU a l.size) (av (aU am l.size) au)))) (by(try simp only[List.length_cons,List.length_nil]);omega)) fun ed ee ef cr eg eh ab=>?_
 refine L0<|cM bv (xs:=((L++[6])++(b7 ([(M.recs.getD k ⟨0,0,0,[]⟩).file,(M.recs.getD k ⟨0,0,0,[]⟩).record,(M.recs.getD k ⟨0,0,0,[]⟩).count])))) (ys:=(b7 ((M.recs.getD k ⟨0,0,0,[]⟩).words))) (.int .u8 0) 1 (ax ba ab (fun x hx=>ay) (fun _ _ h=>h)) (cr).rd (by(try simp only[List.length_append,List.length_cons,List.length_nil,aC]);omega) (le (le (le (le (le (le (le (le (le (le g.size f) b.size) c.size) d.size) v.size) r.size) y.size) z.size) a9.size) ab.size) fun ct cv ei cw bc=>Pl 1<|nl<|bn<|tn<|go<|L0<|Oi (((k:Nat) : Int)+1)<|Pl 1<|nl<|?_
 exact gt ((k+1),(((L++[6])++(b7 ([(M.recs.getD k ⟨0,0,0,[]⟩).file,(M.recs.getD k ⟨0,0,0,[]⟩).record,(M.recs.getD k ⟨0,0,0,[]⟩).count])))++(b7 ((M.recs.getD k ⟨0,0,0,[]⟩).words))),ct,cv) ⟨(ut C (ut (aE.mono (S':=(ob A++(ob a7++(ob b9++[])))) bb (av il (av il au))) (ut (aE.mono (S':=(ob b9++[])) ab au) bc (av il au)) (av il au)) (av (aU a lr) (av (aU am lr) (av (aU ba lr) au)))),(le (le (le (le (le (le (le (le (le (le f b.size) c.size) d.size) v.size) r.size) y.size) z.size) a9.size) ab.size) bc.size),cw,(by(try dsimp only);omega),(by(try dsimp only);rw[← hL,dq dir M.code M.recs k (by omega)];simp only[j7,hd0,n,o,bs,if_true,if_false,decide_true,decide_false,List.append_assoc]),(by(try dsimp only);have hv:=hf.recw _ (dw ⟨0,0,0,[]⟩ M.recs k (by omega));(try simp only[List.length_append,List.length_cons,List.length_nil,aC]);omega),(by(try dsimp only);(try simp only[List.length_append,List.length_cons,List.length_nil]);omega)⟩ (by omega)
 have bK:=of_decide_eq_false n
 refine xt<|tx<|tx<|bx<|tn<|sg<|Pl 3<|L0<|Oi (((L.length:Nat) : Int)-1)<|Pl 1<|fl (bg.at_ (a).rd 0 (by omega)) fun ej ek bd el em=>L0<|jt L.length 0 bd (by omega)<|L0<|u6 bv (j:=0) a bd (by omega) ((((L.length:Nat) : Int)-1)%256) (fun _=>⟨rfl,by omega⟩) fun eo cx cy=>nl<|?_
 refine tn<|sg<|Pl 2<|nt<|rt<|rr (.slice A L.length cp)<|?_
 have hk:k=M.recs.length:=by omega
 rw[hk,List.drop_length] at hL
 have hL2:[0]++cR dir M.code M.recs=L:=by rw[← hL];simp[cR]
 have hs:cS dir M=(L.set 0 ((((L.length:Nat) : Int)-1)%256)):=by unfold cS;rw[hL2]
 rw[hs]
 exact⟨_,rfl,(be.weaken cx l.size),(ut ad cy (av (aU a l.size) au))⟩
theorem mb{m:Md}{cs:Array Value}{M:aP}{w:World}{dir:Int}(h:aW m w cs.toList M)(hf:cU M)(hd0:(dir==0)=false) : Calls Tryz.prog 212 #[.int .i64 dir,.agg cs] w (gK (cS dir M) w):=by
 obtain⟨vw,vb,vd,vr,vo,h0,hw,hbt,hd,hr,ho,hR⟩:=h
 obtain rfl:cs=(bR M vw vb vd vr vo).toArray:=by apply Array.toList_inj.1;simpa using h0
 clear h0
 obtain⟨Aw,kw,rfl,_,_⟩:=hw.shape
 obtain⟨Ab,kb,rfl,_,_⟩:=hbt.shape
 obtain⟨Ad,kd,rfl,_,_⟩:=hd.shape
 obtain⟨Ar,kr,rfl,_,_⟩:=hr.shape
 obtain⟨Ao,ko,rfl,_,_⟩:=ho.shape
 obtain⟨q0,q1,q2,q3,q4,q5,q6,q7,q8,q9,bf,bj,bm,bo,bp,br,bt⟩:=hR
 simp only[B8,dv] at q0 q1 q2 q3 q4 q5 q6 q7 q8 q9 bf bj bm bo bp br bt
 have hf1:=hf.words
 have hf2:=hf.bits
 have hf3:=hf.data
 have hf4:=hf.recs
 have hf5:=hf.objects
 refine en 58 Tryz.func212 rfl<|sg<|L0<|dt (mG M.code M.fail M.addr M.count M.value M.and_ M.or_ M.addr2 M.sub M.status M.events M.messages (.slice Aw M.words.length kw) (.slice Ab M.bits.length kb) (.slice Ad M.data.length kd) (.slice Ar M.recs.length kr) M.mei M.kind M.level M.more M.next (.slice Ao M.objects.length ko)) fun an ac cz ao l=>Pl 1<|ng<|L0<|dy (m:=1) (e:=5) #[.int .u8 0] fun bu bw bz bA g=>?_
 have bC:=dP bz (xs:=[0]) (by as_aux_lemma=>kernel_rfl) (az (by omega) aZ) (by(try simp only[List.length_cons,List.length_nil]);omega) bA
 refine Pl 1<|nt<|sq<|sg<|Pl 1<|?_
 refine L0<|aR (ub g ao) 15<|Pl 2<|nt<|bk<|?_
 refine jw (fun x=>[(0,.int .i64 dir),(3,.pointer (some ⟨an,0,none⟩)),(4,.slice none 0 0),(5,.slice x.2.2.1 x.2.1.length x.2.2.2),(10,.slice Ar M.recs.length kr),(11,.int .i64 ((M.recs.length:Nat) : Int)),(12,.int .i64 ((x.1:Nat) : Int))]) (fun(x:Nat × List Int × Option Addr × Nat) w'=>aE [] ac w'∧bw.heap.size≤w'.heap.size∧fh ac.heap.size w' (.slice x.2.2.1 x.2.1.length x.2.2.2) x.2.1∧(x.1≤M.recs.length)∧(x.2.1++cR dir M.code (M.recs.drop x.1)=([0])++cR dir M.code M.recs)∧(x.2.1.length≤16+x.1*2060)∧(1≤x.2.1.length)) (fun x=>M.recs.length-x.1) (0,[0],some ⟨bu,0,none⟩,1) ⟨g,lr,bC,(by(try dsimp only);omega),rfl,(by(try dsimp only);(try simp only[List.length_cons,List.length_nil]);omega),(by(try dsimp only);(try simp only[List.length_cons,List.length_nil]);omega)⟩ ?_
 rintro⟨k,L,A,cp⟩ bD ⟨aq,f,bE,bF,bG,bH,bI⟩
 refine jr [(0,.int .i64 dir),(3,.pointer (some ⟨an,0,none⟩)),(4,.slice none 0 0),(5,.slice A L.length cp),(10,.slice Ar M.recs.length kr),(11,.int .i64 ((M.recs.length:Nat) : Int)),(12,.int .i64 ((k:Nat) : Int))] ?_
 have a:fh ac.heap.size bD (.slice A L.length cp) L:=bE
 have cA:k≤M.recs.length:=bF
 have cB:L++cR dir M.code (M.recs.drop k)=([0])++cR dir M.code M.recs:=bG
 have cC:L.length≤16+k*2060:=bH
 have cD:1≤L.length:=bI
 have hL:L++cR dir M.code (M.recs.drop k)=([0])++cR dir M.code M.recs:=by assumption
 have hv0:=fun(h:k<M.recs.length)=>hf.recw _ (dw ⟨0,0,0,[]⟩ M.recs k h)
 refine sg<|Pl 1<|nt<|sq<|?_
 have ad:=aI l aq
 refine cb ((decide (((k:Nat) : Int)<((M.recs.length:Nat) : Int)))) (fun n=>?_) (fun n=>?_)
 have bK:=of_decide_eq_true n
 refine bq<|sq<|bk<|sg<|iH (kn.elt hr k (by omega)) fun cE cF cG cH cI ar aw bL bM Q cJ bN=>L0<|qH 4 M.recs.length k bL (by omega)<|?_
 refine L0<|u7 [.int .u16 ((M.recs.getD k ⟨0,0,0,[]⟩).file),.int .u16 ((M.recs.getD k ⟨0,0,0,[]⟩).record),.int .u16 ((M.recs.getD k ⟨0,0,0,[]⟩).count),.slice ar ((M.recs.getD k ⟨0,0,0,[]⟩).words.length) aw] (ub ad bM) bN<|L0<|bJ #[.int .u16 0,.int .u16 0,.int .u16 0,.slice none 0 0] fun ae cK B bO b=>L0<|b6 bO #[.int .u16 ((M.recs.getD k ⟨0,0,0,[]⟩).file),.int .u16 ((M.recs.getD k ⟨0,0,0,[]⟩).record),.int .u16 ((M.recs.getD k ⟨0,0,0,[]⟩).count),.slice ar ((M.recs.getD k ⟨0,0,0,[]⟩).words.length) aw] fun cL af c=>nt<|sq<|bk<|sg<|Pl 1<|?_
 have s:=ud b c B
 have C:=aI aq s
 refine L0<|aR (ub C ao) 0<|Pl 2<|cu 3 [32] 35 (((M.code==20)&&(dir==1))) (fun K aA=>?_) ?_
 refine bl 32 ((M.code==20)) (fun D=>?_) (fun D=>?_)
 have bP:=al D
 exact Pl 3<|ce aA (dir==1) (by rw[D];rfl)
 have bP:=ap D
 exact Pl 3<|ce aA false (by rw[D];rfl)
 refine Pl 1<|nt<|?_
 have R:=aI ad s
 refine cb (((M.code==20)&&(dir==1))) (fun o=>?_) (fun o=>?_)
 have aB:=(aS o).1
 have aD:=(aS o).2
 have cN:=al aB
 have cO:=al aD
 refine go<|Pl 2<|L0<|aR af 3<|Pl 1<|L0<|Oi (2*(((M.recs.getD k ⟨0,0,0,[]⟩).words.length:Nat) : Int))<|L0<|Oi (1+(2*(((M.recs.getD k ⟨0,0,0,[]⟩).words.length:Nat) : Int)))<|Pl 1<|L0<|dy (m:=2) (e:=5) #[.int .u8 ((1+(2*(((M.recs.getD k ⟨0,0,0,[]⟩).words.length:Nat) : Int)))%256),.int .u8 6] fun cP cQ bQ bS E=>?_
 have bT:=dP bQ (xs:=[((1+(2*(((M.recs.getD k ⟨0,0,0,[]⟩).words.length:Nat) : Int)))%256),6]) (by as_aux_lemma=>kernel_rfl) (az (by omega) (az (by omega) aZ)) (by(try simp only[List.length_cons,List.length_nil]);omega) bS
 refine L0<|cM bv (xs:=L) (ys:=([((1+(2*(((M.recs.getD k ⟨0,0,0,[]⟩).words.length:Nat) : Int)))%256),6])) (.int .u8 0) 1 (ax a (aI s E) (fun x hx=>ay) (fun _ _ h=>h)) (bT).rd (by(try simp only[List.length_append,List.length_cons,List.length_nil,aC]);omega) (le (le (le (le g.size f) b.size) c.size) E.size) fun aF cT cV aG ah=>Pl 1<|nl<|bn<|tn<|go<|Pl 2<|?_
 have ai:=ut (aE.mono (S':=(ob A++[])) E au) ah (av il au)
 refine L0<|aR (aE.blk ai (bi (dK a lr B) ay) af) 3<|?_
 refine L0<|Oc<|ea (bB (xs:=(M.recs.getD k ⟨0,0,0,[]⟩).words) (dJ.old Q (ut R ai (av (aU a l.size) au))) (by(try simp only[List.length_cons,List.length_nil]);omega)) fun cW cX cY bU cZ d0 S=>?_
 refine L0<|cM bv (xs:=(L++[((1+(2*(((M.recs.getD k ⟨0,0,0,[]⟩).words.length:Nat) : Int)))%256),6])) (ys:=(b7 ((M.recs.getD k ⟨0,0,0,[]⟩).words))) (.int .u8 0) 1 (ax aG S (fun x hx=>ay) (fun _ _ h=>h)) (bU).rd (by(try simp only[List.length_append,List.length_cons,List.length_nil,aC]);omega) (le (le (le (le (le (le g.size f) b.size) c.size) E.size) ah.size) S.size) fun bV bW d1 bX aH=>Pl 1<|nl<|bn<|tn<|go<|L0<|Oi (((k:Nat) : Int)+1)<|Pl 1<|nl<|?_
 exact gt ((k+1),((L++[((1+(2*(((M.recs.getD k ⟨0,0,0,[]⟩).words.length:Nat) : Int)))%256),6])++(b7 ((M.recs.getD k ⟨0,0,0,[]⟩).words))),bV,bW) ⟨(ut C (ut (aE.mono (S':=(ob A++(ob aF++[]))) ai (av il au)) (ut (aE.mono (S':=(ob aF++[])) S au) aH (av il au)) (av il au)) (av (aU a lr) (av (aU aG lr) au))),(le (le (le (le (le (le f b.size) c.size) E.size) ah.size) S.size) aH.size),bX,(by(try dsimp only);omega),(by(try dsimp only);rw[← hL,dq dir M.code M.recs k (by omega)];simp only[j7,hd0,n,o,aB,aD,bs,if_true,if_false,decide_true,decide_false,List.append_assoc]),(by(try dsimp only);have hv:=hf.recw _ (dw ⟨0,0,0,[]⟩ M.recs k (by omega));(try simp only[List.length_append,List.length_cons,List.length_nil,aC]);omega),(by(try dsimp only);(try simp only[List.length_append,List.length_cons,List.length_nil]);omega)⟩ (by omega)
 refine Rg 13 (fun w'=>w'.cell? ⟨ae,0,none⟩=some (.int .u16 ((M.recs.getD k ⟨0,0,0,[]⟩).file))∧w'.cell? ⟨ae,1,none⟩=some (.int .u16 ((M.recs.getD k ⟨0,0,0,[]⟩).record))∧w'.cell? ⟨ae,2,none⟩=some (.int .u16 ((M.recs.getD k ⟨0,0,0,[]⟩).count))) fun d2 d=>?_
 have F:=ub d af
 refine bh ⟨(ag F rfl),(ag F rfl),(ag F rfl)⟩ fun p=>Rt 0 p<|Rt 3 p<|Rl 4 p (fun _ hs=>hs.1)<|Rt 5 p<|Rl 6 p (fun _ hs=>hs.2.1)<|Rt 7 p<|Rl 8 p (fun _ hs=>hs.2.2)<|?_
 refine R2 1 9 rfl rfl ?_ ?_
 refine  dy (m:=1) (e:=5) #[.int .u8 6] fun d3 d4 bY bZ i=>?_
 have aJ:=dP bY (xs:=[6]) (by as_aux_lemma=>kernel_rfl) (az (by omega) aZ) (by(try simp only[List.length_cons,List.length_nil]);omega) bZ
 have G:=ub i F
 refine bh ⟨(ag G rfl),(ag G rfl),(ag G rfl)⟩ fun d5=>?_
 refine R2 2 9 rfl rfl ?_ ?_
 have aK:=aI d i
 refine  cM bv (xs:=L) (ys:=([6])) (.int .u8 0) 1 (ax a (aI s aK) (fun x hx=>ay) (fun _ _ h=>h)) (aJ).rd (by(try simp only[List.length_append,List.length_cons,List.length_nil,aC]);omega) (le (le (le (le (le g.size f) b.size) c.size) d.size) i.size) fun T d6 d7 aj H=>?_
 have U:=aE.blk H (bi (dK a lr B) ay) G
 refine bh ⟨(ag U rfl),(ag U rfl),(ag U rfl)⟩ fun d8=>R0 9 rfl<|dy (m:=3) (e:=24) #[.int .u16 ((M.recs.getD k ⟨0,0,0,[]⟩).file),.int .u16 ((M.recs.getD k ⟨0,0,0,[]⟩).record),.int .u16 ((M.recs.getD k ⟨0,0,0,[]⟩).count)] fun d9 da c0 c1 I=>?_
 have c2:=dV c0 (xs:=[(M.recs.getD k ⟨0,0,0,[]⟩).file,(M.recs.getD k ⟨0,0,0,[]⟩).record,(M.recs.getD k ⟨0,0,0,[]⟩).count]) (by as_aux_lemma=>kernel_rfl) (az (by omega) (az (by omega) (az (by omega) aZ))) (by(try simp only[List.length_cons,List.length_nil]);omega) c1
 have V:=ub I U
 refine bh ⟨(ag V rfl),(ag V rfl),(ag V rfl)⟩ fun db=>R0 10 rfl<|Oc<|ea (bB (xs:=[(M.recs.getD k ⟨0,0,0,[]⟩).file,(M.recs.getD k ⟨0,0,0,[]⟩).record,(M.recs.getD k ⟨0,0,0,[]⟩).count]) (c2).rd (by(try simp only[List.length_cons,List.length_nil]);omega)) fun dc dd de c3 df dg J=>?_
 have N:=ub J V
 refine bh ⟨(ag N rfl),(ag N rfl),(ag N rfl)⟩ fun dh=>?_
 have aL:=aI I J
 have aM:=ax aj aL (fun x hx=>ay) (fun _ _ h=>h)
 refine R0 11 rfl<|cM bv (xs:=(L++[6])) (ys:=(b7 ([(M.recs.getD k ⟨0,0,0,[]⟩).file,(M.recs.getD k ⟨0,0,0,[]⟩).record,(M.recs.getD k ⟨0,0,0,[]⟩).count]))) (.int .u8 0) 1 aM (c3).rd (by(try simp only[List.length_append,List.length_cons,List.length_nil,aC]);omega) (le (le (le (le (le (le (le (le g.size f) b.size) c.size) d.size) i.size) H.size) I.size) J.size) fun aN di dj aO W=>?_
 have X:=aE.blk W (bi (dl N aM (by decide)) ay) N
 refine bh ⟨(ag X rfl),(ag X rfl),(ag X rfl)⟩ fun c4=>Rt 12 c4<|re<|bn<|tn<|go<|Pl 2<|L0<|aR X 3<|?_
 have aQ:=ut (aE.mono (S':=(ob A++(ob T++[]))) aK au) (ut (aE.mono (S':=(ob A++(ob T++[]))) H (av il au)) (ut (aE.mono (S':=(ob T++[])) aL au) W (av il au)) (av il au)) (av il (av il au))
 refine L0<|Oc<|ea (bB (xs:=(M.recs.getD k ⟨0,0,0,[]⟩).words) (dJ.old Q (ut R aQ (av (aU a l.size) (av (aU aj l.size) au)))) (by(try simp only[List.length_cons,List.length_nil]);omega)) fun dk dm dn c5 dp dr Y=>?_
 refine L0<|cM bv (xs:=((L++[6])++(b7 ([(M.recs.getD k ⟨0,0,0,[]⟩).file,(M.recs.getD k ⟨0,0,0,[]⟩).record,(M.recs.getD k ⟨0,0,0,[]⟩).count])))) (ys:=(b7 ((M.recs.getD k ⟨0,0,0,[]⟩).words))) (.int .u8 0) 1 (ax aO Y (fun x hx=>ay) (fun _ _ h=>h)) (c5).rd (by(try simp only[List.length_append,List.length_cons,List.length_nil,aC]);omega) (le (le (le (le (le (le (le (le (le (le g.size f) b.size) c.size) d.size) i.size) H.size) I.size) J.size) W.size) Y.size) fun c6 c7 ds c8 aT=>Pl 1<|nl<|bn<|tn<|go<|L0<|Oi (((k:Nat) : Int)+1)<|Pl 1<|nl<|?_
 exact gt ((k+1),(((L++[6])++(b7 ([(M.recs.getD k ⟨0,0,0,[]⟩).file,(M.recs.getD k ⟨0,0,0,[]⟩).record,(M.recs.getD k ⟨0,0,0,[]⟩).count])))++(b7 ((M.recs.getD k ⟨0,0,0,[]⟩).words))),c6,c7) ⟨(ut C (ut (aE.mono (S':=(ob A++(ob T++(ob aN++[])))) aQ (av il (av il au))) (ut (aE.mono (S':=(ob aN++[])) Y au) aT (av il au)) (av il au)) (av (aU a lr) (av (aU aj lr) (av (aU aO lr) au)))),(le (le (le (le (le (le (le (le (le (le f b.size) c.size) d.size) i.size) H.size) I.size) J.size) W.size) Y.size) aT.size),c8,(by(try dsimp only);omega),(by(try dsimp only);rw[← hL,dq dir M.code M.recs k (by omega)];simp only[j7,hd0,n,o,bs,if_true,if_false,decide_true,decide_false,List.append_assoc]),(by(try dsimp only);have hv:=hf.recw _ (dw ⟨0,0,0,[]⟩ M.recs k (by omega));(try simp only[List.length_append,List.length_cons,List.length_nil,aC]);omega),(by(try dsimp only);(try simp only[List.length_append,List.length_cons,List.length_nil]);omega)⟩ (by omega)
 refine  dy (m:=3) (e:=24) #[.int .u16 ((M.recs.getD k ⟨0,0,0,[]⟩).file),.int .u16 ((M.recs.getD k ⟨0,0,0,[]⟩).record),.int .u16 ((M.recs.getD k ⟨0,0,0,[]⟩).count)] fun du dx c9 ca q=>?_
 have aV:=dV c9 (xs:=[(M.recs.getD k ⟨0,0,0,[]⟩).file,(M.recs.getD k ⟨0,0,0,[]⟩).record,(M.recs.getD k ⟨0,0,0,[]⟩).count]) (by as_aux_lemma=>kernel_rfl) (az (by omega) (az (by omega) (az (by omega) aZ))) (by(try simp only[List.length_cons,List.length_nil]);omega) ca
 have Z:=ub q G
 refine bh ⟨(ag Z rfl),(ag Z rfl),(ag Z rfl)⟩ fun dz=>?_
 have aX:=aI d (aI i q)
 refine R0 2 rfl<|cM bv (xs:=L) (ys:=([6])) (.int .u8 0) 1 (ax a (aI s aX) (fun x hx=>ay) (fun _ _ h=>h)) ((ax aJ q (fun x hx=>ay) (fun _ _ h=>h))).rd (by(try simp only[List.length_append,List.length_cons,List.length_nil,aC]);omega) (le (le (le (le (le (le g.size f) b.size) c.size) d.size) i.size) q.size) fun a0 dA dB ak t=>?_
 have a1:=aE.blk t (bi (dK a lr B) ay) Z
 refine bh ⟨(ag a1 rfl),(ag a1 rfl),(ag a1 rfl)⟩ fun dC=>?_
 refine R0 10 rfl<|Oc<|ea (bB (xs:=[(M.recs.getD k ⟨0,0,0,[]⟩).file,(M.recs.getD k ⟨0,0,0,[]⟩).record,(M.recs.getD k ⟨0,0,0,[]⟩).count]) ((ax aV t (fun x hx=>(bi ((fD aV a (le (le (le b.size c.size) d.size) i.size)) x hx) ay)) (fun _ _ h=>h))).rd (by(try simp only[List.length_cons,List.length_nil]);omega)) fun dD dE dF cc dG dH u=>?_
 have O:=ub u a1
 refine bh ⟨(ag O rfl),(ag O rfl),(ag O rfl)⟩ fun dI=>?_
 have aY:=ax ak u (fun x hx=>ay) (fun _ _ h=>h)
 refine R0 11 rfl<|cM bv (xs:=(L++[6])) (ys:=(b7 ([(M.recs.getD k ⟨0,0,0,[]⟩).file,(M.recs.getD k ⟨0,0,0,[]⟩).record,(M.recs.getD k ⟨0,0,0,[]⟩).count]))) (.int .u8 0) 1 aY (cc).rd (by(try simp only[List.length_append,List.length_cons,List.length_nil,aC]);omega) (le (le (le (le (le (le (le (le g.size f) b.size) c.size) d.size) i.size) q.size) t.size) u.size) fun b0 dL dM b1 a2=>?_
 have a3:=aE.blk a2 (bi (dl O aY (by decide)) ay) O
 refine bh ⟨(ag a3 rfl),(ag a3 rfl),(ag a3 rfl)⟩ fun cd=>Rt 12 cd<|re<|bn<|tn<|go<|Pl 2<|L0<|aR a3 3<|?_
 have b2:=ut (aE.mono (S':=(ob A++(ob a0++[]))) aX au) (ut (aE.mono (S':=(ob A++(ob a0++[]))) t (av il au)) (ut (aE.mono (S':=(ob a0++[])) u au) a2 (av il au)) (av il au)) (av il (av il au))
 refine L0<|Oc<|ea (bB (xs:=(M.recs.getD k ⟨0,0,0,[]⟩).words) (dJ.old Q (ut R b2 (av (aU a l.size) (av (aU ak l.size) au)))) (by(try simp only[List.length_cons,List.length_nil]);omega)) fun dN dO dQ cf dR dS a4=>?_
 refine L0<|cM bv (xs:=((L++[6])++(b7 ([(M.recs.getD k ⟨0,0,0,[]⟩).file,(M.recs.getD k ⟨0,0,0,[]⟩).record,(M.recs.getD k ⟨0,0,0,[]⟩).count])))) (ys:=(b7 ((M.recs.getD k ⟨0,0,0,[]⟩).words))) (.int .u8 0) 1 (ax b1 a4 (fun x hx=>ay) (fun _ _ h=>h)) (cf).rd (by(try simp only[List.length_append,List.length_cons,List.length_nil,aC]);omega) (le (le (le (le (le (le (le (le (le (le g.size f) b.size) c.size) d.size) i.size) q.size) t.size) u.size) a2.size) a4.size) fun cg ch dT ci b3=>Pl 1<|nl<|bn<|tn<|go<|L0<|Oi (((k:Nat) : Int)+1)<|Pl 1<|nl<|?_
 exact gt ((k+1),(((L++[6])++(b7 ([(M.recs.getD k ⟨0,0,0,[]⟩).file,(M.recs.getD k ⟨0,0,0,[]⟩).record,(M.recs.getD k ⟨0,0,0,[]⟩).count])))++(b7 ((M.recs.getD k ⟨0,0,0,[]⟩).words))),cg,ch) ⟨(ut C (ut (aE.mono (S':=(ob A++(ob a0++(ob b0++[])))) b2 (av il (av il au))) (ut (aE.mono (S':=(ob b0++[])) a4 au) b3 (av il au)) (av il au)) (av (aU a lr) (av (aU ak lr) (av (aU b1 lr) au)))),(le (le (le (le (le (le (le (le (le (le f b.size) c.size) d.size) i.size) q.size) t.size) u.size) a2.size) a4.size) b3.size),ci,(by(try dsimp only);omega),(by(try dsimp only);rw[← hL,dq dir M.code M.recs k (by omega)];simp only[j7,hd0,n,o,bs,if_true,if_false,decide_true,decide_false,List.append_assoc]),(by(try dsimp only);have hv:=hf.recw _ (dw ⟨0,0,0,[]⟩ M.recs k (by omega));(try simp only[List.length_append,List.length_cons,List.length_nil,aC]);omega),(by(try dsimp only);(try simp only[List.length_append,List.length_cons,List.length_nil]);omega)⟩ (by omega)
 refine  dy (m:=3) (e:=24) #[.int .u16 ((M.recs.getD k ⟨0,0,0,[]⟩).file),.int .u16 ((M.recs.getD k ⟨0,0,0,[]⟩).record),.int .u16 ((M.recs.getD k ⟨0,0,0,[]⟩).count)] fun dU dW cj ck v=>?_
 have b4:=dV cj (xs:=[(M.recs.getD k ⟨0,0,0,[]⟩).file,(M.recs.getD k ⟨0,0,0,[]⟩).record,(M.recs.getD k ⟨0,0,0,[]⟩).count]) (by as_aux_lemma=>kernel_rfl) (az (by omega) (az (by omega) (az (by omega) aZ))) (by(try simp only[List.length_cons,List.length_nil]);omega) ck
 have a5:=ub v F
 refine bh ⟨(ag a5 rfl),(ag a5 rfl),(ag a5 rfl)⟩ fun dX=>R0 1 rfl<|dy (m:=1) (e:=5) #[.int .u8 6] fun dY dZ cl cm r=>?_
 have cn:=dP cl (xs:=[6]) (by as_aux_lemma=>kernel_rfl) (az (by omega) aZ) (by(try simp only[List.length_cons,List.length_nil]);omega) cm
 have a6:=ub r a5
 refine bh ⟨(ag a6 rfl),(ag a6 rfl),(ag a6 rfl)⟩ fun e0=>?_
 have b5:=aI d (aI v r)
 refine R0 2 rfl<|cM bv (xs:=L) (ys:=([6])) (.int .u8 0) 1 (ax a (aI s b5) (fun x hx=>ay) (fun _ _ h=>h)) (cn).rd (by(try simp only[List.length_append,List.length_cons,List.length_nil,aC]);omega) (le (le (le (le (le (le g.size f) b.size) c.size) d.size) v.size) r.size) fun a7 e1 e2 am y=>?_
 have a8:=aE.blk y (bi (dK a lr B) ay) a6
 refine bh ⟨(ag a8 rfl),(ag a8 rfl),(ag a8 rfl)⟩ fun e3=>?_
 refine R0 10 rfl<|Oc<|ea (bB (xs:=[(M.recs.getD k ⟨0,0,0,[]⟩).file,(M.recs.getD k ⟨0,0,0,[]⟩).record,(M.recs.getD k ⟨0,0,0,[]⟩).count]) ((ax b4 (ut (aE.mono (S':=(ob A++[])) r au) y (av il au)) (fun x hx=>(bi ((fD b4 a (le (le b.size c.size) d.size)) x hx) ay)) (fun _ _ h=>h))).rd (by(try simp only[List.length_cons,List.length_nil]);omega)) fun e4 e5 e6 co e7 e8 z=>?_
 have P:=ub z a8
 refine bh ⟨(ag P rfl),(ag P rfl),(ag P rfl)⟩ fun e9=>?_
 have b8:=ax am z (fun x hx=>ay) (fun _ _ h=>h)
 refine R0 11 rfl<|cM bv (xs:=(L++[6])) (ys:=(b7 ([(M.recs.getD k ⟨0,0,0,[]⟩).file,(M.recs.getD k ⟨0,0,0,[]⟩).record,(M.recs.getD k ⟨0,0,0,[]⟩).count]))) (.int .u8 0) 1 b8 (co).rd (by(try simp only[List.length_append,List.length_cons,List.length_nil,aC]);omega) (le (le (le (le (le (le (le (le g.size f) b.size) c.size) d.size) v.size) r.size) y.size) z.size) fun b9 eb ec ba a9=>?_
 have aa:=aE.blk a9 (bi (dl P b8 (by decide)) ay) P
 refine bh ⟨(ag aa rfl),(ag aa rfl),(ag aa rfl)⟩ fun cq=>Rt 12 cq<|re<|bn<|tn<|go<|Pl 2<|L0<|aR aa 3<|?_
 have bb:=ut (aE.mono (S':=(ob A++(ob a7++[]))) b5 au) (ut (aE.mono (S':=(ob A++(ob a7++[]))) y (av il au)) (ut (aE.mono (S':=(ob a7++[])) z au) a9 (av il au)) (av il au)) (av il (av il au))
 refine L0<|Oc<|ea (bB (xs:=(M.recs.getD k ⟨0,0,0,[]⟩).words) (dJ.old Q (ut R bb (av (aU a l.size) (av (aU am l.size) au)))) (by(try simp only[List.length_cons,List.length_nil]);omega)) fun ed ee ef cr eg eh ab=>?_
 refine L0<|cM bv (xs:=((L++[6])++(b7 ([(M.recs.getD k ⟨0,0,0,[]⟩).file,(M.recs.getD k ⟨0,0,0,[]⟩).record,(M.recs.getD k ⟨0,0,0,[]⟩).count])))) (ys:=(b7 ((M.recs.getD k ⟨0,0,0,[]⟩).words))) (.int .u8 0) 1 (ax ba ab (fun x hx=>ay) (fun _ _ h=>h)) (cr).rd (by(try simp only[List.length_append,List.length_cons,List.length_nil,aC]);omega) (le (le (le (le (le (le (le (le (le (le g.size f) b.size) c.size) d.size) v.size) r.size) y.size) z.size) a9.size) ab.size) fun ct cv ei cw bc=>Pl 1<|nl<|bn<|tn<|go<|L0<|Oi (((k:Nat) : Int)+1)<|Pl 1<|nl<|?_
 exact gt ((k+1),(((L++[6])++(b7 ([(M.recs.getD k ⟨0,0,0,[]⟩).file,(M.recs.getD k ⟨0,0,0,[]⟩).record,(M.recs.getD k ⟨0,0,0,[]⟩).count])))++(b7 ((M.recs.getD k ⟨0,0,0,[]⟩).words))),ct,cv) ⟨(ut C (ut (aE.mono (S':=(ob A++(ob a7++(ob b9++[])))) bb (av il (av il au))) (ut (aE.mono (S':=(ob b9++[])) ab au) bc (av il au)) (av il au)) (av (aU a lr) (av (aU am lr) (av (aU ba lr) au)))),(le (le (le (le (le (le (le (le (le (le f b.size) c.size) d.size) v.size) r.size) y.size) z.size) a9.size) ab.size) bc.size),cw,(by(try dsimp only);omega),(by(try dsimp only);rw[← hL,dq dir M.code M.recs k (by omega)];simp only[j7,hd0,n,o,bs,if_true,if_false,decide_true,decide_false,List.append_assoc]),(by(try dsimp only);have hv:=hf.recw _ (dw ⟨0,0,0,[]⟩ M.recs k (by omega));(try simp only[List.length_append,List.length_cons,List.length_nil,aC]);omega),(by(try dsimp only);(try simp only[List.length_append,List.length_cons,List.length_nil]);omega)⟩ (by omega)
 have bK:=of_decide_eq_false n
 refine xt<|tx<|tx<|bx<|tn<|sg<|Pl 3<|L0<|Oi (((L.length:Nat) : Int)-1)<|Pl 1<|fl (bg.at_ (a).rd 0 (by omega)) fun ej ek bd el em=>L0<|jt L.length 0 bd (by omega)<|L0<|u6 bv (j:=0) a bd (by omega) ((((L.length:Nat) : Int)-1)%256) (fun _=>⟨rfl,by omega⟩) fun eo cx cy=>nl<|?_
 refine tn<|sg<|Pl 2<|nt<|rt<|rr (.slice A L.length cp)<|?_
 have hk:k=M.recs.length:=by omega
 rw[hk,List.drop_length] at hL
 have hL2:[0]++cR dir M.code M.recs=L:=by rw[← hL];simp[cR]
 have hs:cS dir M=(L.set 0 ((((L.length:Nat) : Int)-1)%256)):=by unfold cS;rw[hL2]
 rw[hs]
 exact⟨_,rfl,(be.weaken cx l.size),(ut ad cy (av (aU a l.size) au))⟩
theorem oK{m:Md}{cs:Array Value}{M:aP}{w:World}{dir:Int}(h:aW m w cs.toList M)(hf:cU M) : Calls Tryz.prog 212 #[.int .i64 dir,.agg cs] w (gK (cS dir M) w):=by
  rcases dM (dir==0) with h0|h0
  · exact mF h hf h0
  · exact mb h hf h0
open Go.RowKit
theorem gN{parse:Int→Int→List Int→aP × Int}{lay:Int→aP→List Int}{dir E:Int}{M X:aP}(hX:parse dir M.code (lay dir M)=(X,E))(hE:(E != 0)=true) : cO parse lay dir M=none:=by
  unfold cO
  rw[hX,if_neg]
  intro h
  injection h with h1 h2
  rw[h2] at hE
  cases hE
theorem gY{parse:Int→Int→List Int→aP × Int}{lay:Int→aP→List Int}{dir E:Int}{M X:aP}(hX:parse dir M.code (lay dir M)=(X,E))(hE:decide (X=M)=false) : cO parse lay dir M=none:=by
  unfold cO
  rw[hX,if_neg]
  intro h
  injection h with h1 h2
  rw[h1] at hE
  simp at hE
theorem ms{parse:Int→Int→List Int→aP × Int}{lay:Int→aP→List Int}{dir E:Int}{M X:aP}(hX:parse dir M.code (lay dir M)=(X,E))(hE:(E != 0)=false)(h:decide (X=M)=true) : cO parse lay dir M=some (lay dir M):=by
  unfold cO
  have h1:X=M:=by simpa using h
  have h2:E=0:=by simpa using hE
  rw[hX,h1,h2,if_pos rfl]
theorem eU{x y:Option (List Int)}(h:x=y){w:World}{e:Ending}{w':World}(k:eD y w e w') : eD x w e w':=by rw[h];exact k
theorem ie{m:Md}{cs:Array Value}{M:aP}{w:World}{dir:Int}(h:aW m w cs.toList M)(hf:cU M)(hlen:(bQ dir M).length≤1048576) : Calls Tryz.prog 139 #[.int .i64 dir,.agg cs] w (eD (cO eT bQ dir M) w):=by
 have hM:=h
 obtain⟨vw,vb,vd,vr,vo,h0,hw,hbt,hd,hr,ho,hR⟩:=h
 obtain rfl:cs=(bR M vw vb vd vr vo).toArray:=by apply Array.toList_inj.1;simpa using h0
 clear h0
 obtain⟨Aw,kw,rfl,_,_⟩:=hw.shape
 obtain⟨Ab,kb,rfl,_,_⟩:=hbt.shape
 obtain⟨Ad,kd,rfl,_,_⟩:=hd.shape
 obtain⟨Ar,kr,rfl,_,_⟩:=hr.shape
 obtain⟨Ao,ko,rfl,_,_⟩:=ho.shape
 obtain⟨q0,q1,q2,q3,q4,q5,q6,q7,q8,q9,y,z,C,D,E,F,G⟩:=hR
 simp only[B8,dv] at q0 q1 q2 q3 q4 q5 q6 q7 q8 q9 y z C D E F G
 refine en 29 Tryz.func139 rfl<|sg<|L0<|dt (mG M.code M.fail M.addr M.count M.value M.and_ M.or_ M.addr2 M.sub M.status M.events M.messages (.slice Aw M.words.length kw) (.slice Ab M.bits.length kb) (.slice Ad M.data.length kd) (.slice Ar M.recs.length kr) M.mei M.kind M.level M.more M.next (.slice Ao M.objects.length ko)) fun V W X k g=>Pl 2<|ng<|Pl 1<|L0<|cj k<|?_
 have l:=aW.old hM g
 refine L0<|Oc<|ea (oU (dir:=dir) l hf) fun H I J n Y Z o=>Pl 1<|ng<|Pl 2<|?_
 have p:=ub o k
 refine L0<|aR p 0<|Pl 1<|?_
 refine pr (eT dir M.code (bQ dir M)) fun e K f=>?_
 have q:Calls _ _ _ _ (dB (eT dir M.code (bQ dir M)) J):=io (dir:=dir) (c:=M.code) q0 (n).rd hlen
 rw[f] at q
 refine L0<|Oc<|e2 (q) fun L a0 a N=>Pl 3<|L0<|bJ mZ fun a1 a2 O P Q=>L0<|b6 (hz:=(by rw[a.size];exact aO)) (hv:=a.size) (h1:=a.one) P (L) fun a3 R S=>Pl 1<|nt<|sq<|sg<|Pl 3<|?_
 have r:=ud Q S O
 have i:=aI N r
 have s:=aI o i
 have t:=aI g s
 refine bl 22 ((K != 0)) (fun b=>?_) (fun b=>?_)
 have T:=aq b
 refine Pl 5<|nt<|c1<|sg<|Pl 2<|nt<|rt<|tr<|rr (.tuple #[.slice none 0 0,.int .i64 1])<|?_
 refine eU (gN f b) ?_
 exact⟨rfl,t⟩
 have T:=ai b
 refine L1<|cj (hz:=(by rw[a.size];exact aO)) R<|?_
 refine L1<|cj (ub i p)<|?_
 refine L1<|Oc<|m1 (fv (A:=e) (B:=M) (aW.upd a r aG) (aW.old l s)) fun a4 u=>Pl 2<|nt<|?_
 have v:=aI t u
 refine cb ((!(decide (e=M)))) (fun j=>?_) (fun j=>?_)
 have d:(decide (e=M))=false:=by simpa using j
 have U:=of_decide_eq_false d
 refine sg<|Pl 2<|nt<|rt<|tr<|rr (.tuple #[.slice none 0 0,.int .i64 1])<|?_
 refine eU (gY f d) ?_
 exact⟨rfl,v⟩
 have d:(decide (e=M))=true:=by simpa using j
 have U:=of_decide_eq_true d
 refine bq<|sg<|Pl 3<|nt<|rt<|rr (.tuple #[.slice H ((bQ dir M).length) I,.int .i64 0])<|?_
 refine eU (ms f b d) ?_
 exact⟨_,rfl,(be.weaken (ax n (aI i u) (fun x hx=>ay) (fun _ _ h=>h)) g.size),v⟩
theorem iU{m:Md}{cs:Array Value}{M:aP}{w:World}{dir:Int}(h:aW m w cs.toList M)(hf:cU M)(hlen:(bL dir M).length≤1048576) : Calls Tryz.prog 141 #[.int .i64 dir,.agg cs] w (eD (cO fp bL dir M) w):=by
 have hM:=h
 obtain⟨vw,vb,vd,vr,vo,h0,hw,hbt,hd,hr,ho,hR⟩:=h
 obtain rfl:cs=(bR M vw vb vd vr vo).toArray:=by apply Array.toList_inj.1;simpa using h0
 clear h0
 obtain⟨Aw,kw,rfl,_,_⟩:=hw.shape
 obtain⟨Ab,kb,rfl,_,_⟩:=hbt.shape
 obtain⟨Ad,kd,rfl,_,_⟩:=hd.shape
 obtain⟨Ar,kr,rfl,_,_⟩:=hr.shape
 obtain⟨Ao,ko,rfl,_,_⟩:=ho.shape
 obtain⟨q0,q1,q2,q3,q4,q5,q6,q7,q8,q9,y,z,C,D,E,F,G⟩:=hR
 simp only[B8,dv] at q0 q1 q2 q3 q4 q5 q6 q7 q8 q9 y z C D E F G
 refine en 29 Tryz.func141 rfl<|sg<|L0<|dt (mG M.code M.fail M.addr M.count M.value M.and_ M.or_ M.addr2 M.sub M.status M.events M.messages (.slice Aw M.words.length kw) (.slice Ab M.bits.length kb) (.slice Ad M.data.length kd) (.slice Ar M.recs.length kr) M.mei M.kind M.level M.more M.next (.slice Ao M.objects.length ko)) fun V W X k g=>Pl 2<|ng<|Pl 1<|L0<|cj k<|?_
 have l:=aW.old hM g
 refine L0<|Oc<|ea (qL (dir:=dir) l hf) fun H I J n Y Z o=>Pl 1<|ng<|Pl 2<|?_
 have p:=ub o k
 refine L0<|aR p 0<|Pl 1<|?_
 refine pr (fp dir M.code (bL dir M)) fun e K f=>?_
 have q:Calls _ _ _ _ (dB (fp dir M.code (bL dir M)) J):=jb (dir:=dir) (c:=M.code) q0 (n).rd hlen
 rw[f] at q
 refine L0<|Oc<|e2 (q) fun L a0 a N=>Pl 3<|L0<|bJ mZ fun a1 a2 O P Q=>L0<|b6 (hz:=(by rw[a.size];exact aO)) (hv:=a.size) (h1:=a.one) P (L) fun a3 R S=>Pl 1<|nt<|sq<|sg<|Pl 3<|?_
 have r:=ud Q S O
 have i:=aI N r
 have s:=aI o i
 have t:=aI g s
 refine bl 22 ((K != 0)) (fun b=>?_) (fun b=>?_)
 have T:=aq b
 refine Pl 5<|nt<|c1<|sg<|Pl 2<|nt<|rt<|tr<|rr (.tuple #[.slice none 0 0,.int .i64 1])<|?_
 refine eU (gN f b) ?_
 exact⟨rfl,t⟩
 have T:=ai b
 refine L1<|cj (hz:=(by rw[a.size];exact aO)) R<|?_
 refine L1<|cj (ub i p)<|?_
 refine L1<|Oc<|m1 (fv (A:=e) (B:=M) (aW.upd a r aG) (aW.old l s)) fun a4 u=>Pl 2<|nt<|?_
 have v:=aI t u
 refine cb ((!(decide (e=M)))) (fun j=>?_) (fun j=>?_)
 have d:(decide (e=M))=false:=by simpa using j
 have U:=of_decide_eq_false d
 refine sg<|Pl 2<|nt<|rt<|tr<|rr (.tuple #[.slice none 0 0,.int .i64 1])<|?_
 refine eU (gY f d) ?_
 exact⟨rfl,v⟩
 have d:(decide (e=M))=true:=by simpa using j
 have U:=of_decide_eq_true d
 refine bq<|sg<|Pl 3<|nt<|rt<|rr (.tuple #[.slice H ((bL dir M).length) I,.int .i64 0])<|?_
 refine eU (ms f b d) ?_
 exact⟨_,rfl,(be.weaken (ax n (aI i u) (fun x hx=>ay) (fun _ _ h=>h)) g.size),v⟩
theorem jm{m:Md}{cs:Array Value}{M:aP}{w:World}{dir:Int}(h:aW m w cs.toList M)(hf:cU M)(hlen:(bV dir M).length≤1048576) : Calls Tryz.prog 143 #[.int .i64 dir,.agg cs] w (eD (cO fq bV dir M) w):=by
 have hM:=h
 obtain⟨vw,vb,vd,vr,vo,h0,hw,hbt,hd,hr,ho,hR⟩:=h
 obtain rfl:cs=(bR M vw vb vd vr vo).toArray:=by apply Array.toList_inj.1;simpa using h0
 clear h0
 obtain⟨Aw,kw,rfl,_,_⟩:=hw.shape
 obtain⟨Ab,kb,rfl,_,_⟩:=hbt.shape
 obtain⟨Ad,kd,rfl,_,_⟩:=hd.shape
 obtain⟨Ar,kr,rfl,_,_⟩:=hr.shape
 obtain⟨Ao,ko,rfl,_,_⟩:=ho.shape
 obtain⟨q0,q1,q2,q3,q4,q5,q6,q7,q8,q9,y,z,C,D,E,F,G⟩:=hR
 simp only[B8,dv] at q0 q1 q2 q3 q4 q5 q6 q7 q8 q9 y z C D E F G
 refine en 29 Tryz.func143 rfl<|sg<|L0<|dt (mG M.code M.fail M.addr M.count M.value M.and_ M.or_ M.addr2 M.sub M.status M.events M.messages (.slice Aw M.words.length kw) (.slice Ab M.bits.length kb) (.slice Ad M.data.length kd) (.slice Ar M.recs.length kr) M.mei M.kind M.level M.more M.next (.slice Ao M.objects.length ko)) fun V W X k g=>Pl 2<|ng<|Pl 1<|L0<|cj k<|?_
 have l:=aW.old hM g
 refine L0<|Oc<|ea (qn (dir:=dir) l hf) fun H I J n Y Z o=>Pl 1<|ng<|Pl 2<|?_
 have p:=ub o k
 refine L0<|aR p 0<|Pl 1<|?_
 refine pr (fq dir M.code (bV dir M)) fun e K f=>?_
 have q:Calls _ _ _ _ (dB (fq dir M.code (bV dir M)) J):=j8 (dir:=dir) (c:=M.code) q0 (n).rd hlen
 rw[f] at q
 refine L0<|Oc<|e2 (q) fun L a0 a N=>Pl 3<|L0<|bJ mZ fun a1 a2 O P Q=>L0<|b6 (hz:=(by rw[a.size];exact aO)) (hv:=a.size) (h1:=a.one) P (L) fun a3 R S=>Pl 1<|nt<|sq<|sg<|Pl 3<|?_
 have r:=ud Q S O
 have i:=aI N r
 have s:=aI o i
 have t:=aI g s
 refine bl 22 ((K != 0)) (fun b=>?_) (fun b=>?_)
 have T:=aq b
 refine Pl 5<|nt<|c1<|sg<|Pl 2<|nt<|rt<|tr<|rr (.tuple #[.slice none 0 0,.int .i64 1])<|?_
 refine eU (gN f b) ?_
 exact⟨rfl,t⟩
 have T:=ai b
 refine L1<|cj (hz:=(by rw[a.size];exact aO)) R<|?_
 refine L1<|cj (ub i p)<|?_
 refine L1<|Oc<|m1 (fv (A:=e) (B:=M) (aW.upd a r aG) (aW.old l s)) fun a4 u=>Pl 2<|nt<|?_
 have v:=aI t u
 refine cb ((!(decide (e=M)))) (fun j=>?_) (fun j=>?_)
 have d:(decide (e=M))=false:=by simpa using j
 have U:=of_decide_eq_false d
 refine sg<|Pl 2<|nt<|rt<|tr<|rr (.tuple #[.slice none 0 0,.int .i64 1])<|?_
 refine eU (gY f d) ?_
 exact⟨rfl,v⟩
 have d:(decide (e=M))=true:=by simpa using j
 have U:=of_decide_eq_true d
 refine bq<|sg<|Pl 3<|nt<|rt<|rr (.tuple #[.slice H ((bV dir M).length) I,.int .i64 0])<|?_
 refine eU (ms f b d) ?_
 exact⟨_,rfl,(be.weaken (ax n (aI i u) (fun x hx=>ay) (fun _ _ h=>h)) g.size),v⟩
theorem kF{m:Md}{cs:Array Value}{M:aP}{w:World}{dir:Int}(h:aW m w cs.toList M)(hf:cU M)(hlen:(di dir M).length≤1048576) : Calls Tryz.prog 147 #[.int .i64 dir,.agg cs] w (eD (cO fV di dir M) w):=by
 have hM:=h
 obtain⟨vw,vb,vd,vr,vo,h0,hw,hbt,hd,hr,ho,hR⟩:=h
 obtain rfl:cs=(bR M vw vb vd vr vo).toArray:=by apply Array.toList_inj.1;simpa using h0
 clear h0
 obtain⟨Aw,kw,rfl,_,_⟩:=hw.shape
 obtain⟨Ab,kb,rfl,_,_⟩:=hbt.shape
 obtain⟨Ad,kd,rfl,_,_⟩:=hd.shape
 obtain⟨Ar,kr,rfl,_,_⟩:=hr.shape
 obtain⟨Ao,ko,rfl,_,_⟩:=ho.shape
 obtain⟨q0,q1,q2,q3,q4,q5,q6,q7,q8,q9,y,z,C,D,E,F,G⟩:=hR
 simp only[B8,dv] at q0 q1 q2 q3 q4 q5 q6 q7 q8 q9 y z C D E F G
 refine en 29 Tryz.func147 rfl<|sg<|L0<|dt (mG M.code M.fail M.addr M.count M.value M.and_ M.or_ M.addr2 M.sub M.status M.events M.messages (.slice Aw M.words.length kw) (.slice Ab M.bits.length kb) (.slice Ad M.data.length kd) (.slice Ar M.recs.length kr) M.mei M.kind M.level M.more M.next (.slice Ao M.objects.length ko)) fun V W X k g=>Pl 2<|ng<|Pl 1<|L0<|cj k<|?_
 have l:=aW.old hM g
 refine L0<|Oc<|ea (ru (dir:=dir) l hf) fun H I J n Y Z o=>Pl 1<|ng<|Pl 2<|?_
 have p:=ub o k
 refine L0<|aR p 0<|Pl 1<|?_
 refine pr (fV dir M.code (di dir M)) fun e K f=>?_
 have q:Calls _ _ _ _ (dB (fV dir M.code (di dir M)) J):=kp (dir:=dir) (c:=M.code) q0 (n).rd hlen
 rw[f] at q
 refine L0<|Oc<|e2 (q) fun L a0 a N=>Pl 3<|L0<|bJ mZ fun a1 a2 O P Q=>L0<|b6 (hz:=(by rw[a.size];exact aO)) (hv:=a.size) (h1:=a.one) P (L) fun a3 R S=>Pl 1<|nt<|sq<|sg<|Pl 3<|?_
 have r:=ud Q S O
 have i:=aI N r
 have s:=aI o i
 have t:=aI g s
 refine bl 22 ((K != 0)) (fun b=>?_) (fun b=>?_)
 have T:=aq b
 refine Pl 5<|nt<|c1<|sg<|Pl 2<|nt<|rt<|tr<|rr (.tuple #[.slice none 0 0,.int .i64 1])<|?_
 refine eU (gN f b) ?_
 exact⟨rfl,t⟩
 have T:=ai b
 refine L1<|cj (hz:=(by rw[a.size];exact aO)) R<|?_
 refine L1<|cj (ub i p)<|?_
 refine L1<|Oc<|m1 (fv (A:=e) (B:=M) (aW.upd a r aG) (aW.old l s)) fun a4 u=>Pl 2<|nt<|?_
 have v:=aI t u
 refine cb ((!(decide (e=M)))) (fun j=>?_) (fun j=>?_)
 have d:(decide (e=M))=false:=by simpa using j
 have U:=of_decide_eq_false d
 refine sg<|Pl 2<|nt<|rt<|tr<|rr (.tuple #[.slice none 0 0,.int .i64 1])<|?_
 refine eU (gY f d) ?_
 exact⟨rfl,v⟩
 have d:(decide (e=M))=true:=by simpa using j
 have U:=of_decide_eq_true d
 refine bq<|sg<|Pl 3<|nt<|rt<|rr (.tuple #[.slice H ((di dir M).length) I,.int .i64 0])<|?_
 refine eU (ms f b d) ?_
 exact⟨_,rfl,(be.weaken (ax n (aI i u) (fun x hx=>ay) (fun _ _ h=>h)) g.size),v⟩
theorem iv{m:Md}{cs:Array Value}{M:aP}{w:World}{dir:Int}(h:aW m w cs.toList M)(hf:cU M)(hlen:(cS dir M).length≤1048576) : Calls Tryz.prog 145 #[.int .i64 dir,.agg cs] w (eD (cO eV cS dir M) w):=by
 have hM:=h
 obtain⟨vw,vb,vd,vr,vo,h0,hw,hbt,hd,hr,ho,hR⟩:=h
 obtain rfl:cs=(bR M vw vb vd vr vo).toArray:=by apply Array.toList_inj.1;simpa using h0
 clear h0
 obtain⟨Aw,kw,rfl,_,_⟩:=hw.shape
 obtain⟨Ab,kb,rfl,_,_⟩:=hbt.shape
 obtain⟨Ad,kd,rfl,_,_⟩:=hd.shape
 obtain⟨Ar,kr,rfl,_,_⟩:=hr.shape
 obtain⟨Ao,ko,rfl,_,_⟩:=ho.shape
 obtain⟨q0,q1,q2,q3,q4,q5,q6,q7,q8,q9,y,z,C,D,E,F,G⟩:=hR
 simp only[B8,dv] at q0 q1 q2 q3 q4 q5 q6 q7 q8 q9 y z C D E F G
 refine en 29 Tryz.func145 rfl<|sg<|L0<|dt (mG M.code M.fail M.addr M.count M.value M.and_ M.or_ M.addr2 M.sub M.status M.events M.messages (.slice Aw M.words.length kw) (.slice Ab M.bits.length kb) (.slice Ad M.data.length kd) (.slice Ar M.recs.length kr) M.mei M.kind M.level M.more M.next (.slice Ao M.objects.length ko)) fun V W X k g=>Pl 2<|ng<|Pl 1<|L0<|cj k<|?_
 have l:=aW.old hM g
 refine L0<|Oc<|ea (oK (dir:=dir) l hf) fun H I J n Y Z o=>Pl 1<|ng<|Pl 2<|?_
 have p:=ub o k
 refine L0<|aR p 0<|Pl 1<|?_
 refine pr (eV dir M.code (cS dir M)) fun e K f=>?_
 have q:Calls _ _ _ _ (dB (eV dir M.code (cS dir M)) J):=ij (dir:=dir) (c:=M.code) q0 (n).rd hlen
 rw[f] at q
 refine L0<|Oc<|e2 (q) fun L a0 a N=>Pl 3<|L0<|bJ mZ fun a1 a2 O P Q=>L0<|b6 (hz:=(by rw[a.size];exact aO)) (hv:=a.size) (h1:=a.one) P (L) fun a3 R S=>Pl 1<|nt<|sq<|sg<|Pl 3<|?_
 have r:=ud Q S O
 have i:=aI N r
 have s:=aI o i
 have t:=aI g s
 refine bl 22 ((K != 0)) (fun b=>?_) (fun b=>?_)
 have T:=aq b
 refine Pl 5<|nt<|c1<|sg<|Pl 2<|nt<|rt<|tr<|rr (.tuple #[.slice none 0 0,.int .i64 1])<|?_
 refine eU (gN f b) ?_
 exact⟨rfl,t⟩
 have T:=ai b
 refine L1<|cj (hz:=(by rw[a.size];exact aO)) R<|?_
 refine L1<|cj (ub i p)<|?_
 refine L1<|Oc<|m1 (fv (A:=e) (B:=M) (aW.upd a r aG) (aW.old l s)) fun a4 u=>Pl 2<|nt<|?_
 have v:=aI t u
 refine cb ((!(decide (e=M)))) (fun j=>?_) (fun j=>?_)
 have d:(decide (e=M))=false:=by simpa using j
 have U:=of_decide_eq_false d
 refine sg<|Pl 2<|nt<|rt<|tr<|rr (.tuple #[.slice none 0 0,.int .i64 1])<|?_
 refine eU (gY f d) ?_
 exact⟨rfl,v⟩
 have d:(decide (e=M))=true:=by simpa using j
 have U:=of_decide_eq_true d
 refine bq<|sg<|Pl 3<|nt<|rt<|rr (.tuple #[.slice H ((cS dir M).length) I,.int .i64 0])<|?_
 refine eU (ms f b d) ?_
 exact⟨_,rfl,(be.weaken (ax n (aI i u) (fun x hx=>ay) (fun _ _ h=>h)) g.size),v⟩
open Go.RowKit
def fU:Nat→Int→aP→Option (List Int)
  | 1,dir,M=>cO eT bQ dir M
  | 2,dir,M=>cO fp bL dir M
  | 3,dir,M=>cO fq bV dir M
  | 4,dir,M=>cO eV cS dir M
  | 5,dir,M=>cO fV di dir M
  | _,_,_=>none
def dg (dir:Int)(M:aP) : Option (List Int) :=
  if M.fail != 0 then (if dir != 1 then none else jz M)
  else match fU (iI M.code) dir M with
    | none=>none
    | some l=>if decide (253≤(l.length:Int)) then none else some ([M.code]++l)
theorem mf:∀ (L:List Obj),(∀ r,r∈L→r.value.length≤1024)→(gr L).length≤1026*L.length
  | [],_=>by simp[gr]
  | r :: L,h=>by
    have h1:=h r (by simp)
    have h2:=mf L fun x hx=>h x (by simp[hx])
    simp only[gr,List.length_append,List.length_cons,List.length_nil]
    omega
theorem jo(dir c:Int) : ∀ (L:List de),(∀ r,r∈L→r.words.length≤1024)→(cR dir c L).length≤2064*L.length
  | [],_=>by simp[cR]
  | r :: L,h=>by
    have h1:=h r (by simp)
    have h2:=jo dir c L fun x hx=>h x (by simp[hx])
    simp only[cR,j7]
    repeat' split
    all_goals simp only[List.length_append,List.length_cons,List.length_nil,aC]
    all_goals omega
theorem eu{M:aP}(hf:cU M)(dir:Int) : (bQ dir M).length≤1048576∧(bL dir M).length≤1048576∧(bV dir M).length≤1048576∧(di dir M).length≤1048576∧(cS dir M).length≤1048576:=by
  have hp:(cG M.bits).length≤1024:=by
    have:=hf.bits
    simp only[cG,List.length_map,List.length_range,dn]
    omega
  have h1:=hf.words
  have h2:=hf.data
  have h3:=hf.objects
  have h4:=mf M.objects hf.objv
  have h5:=jo dir M.code M.recs hf.recw
  have h6:=hf.recs
  refine⟨?_,?_,?_,?_,?_⟩
  · unfold bQ
    repeat' split
    all_goals simp only[List.length_append,List.length_cons,List.length_nil,aC]
    all_goals omega
  · unfold bL
    repeat' split
    all_goals simp only[List.length_append,List.length_cons,List.length_nil,aC]
    all_goals omega
  · unfold bV
    repeat' split
    all_goals simp only[List.length_append,List.length_cons,List.length_nil,aC]
    all_goals omega
  · unfold di
    repeat' split
    all_goals simp only[List.length_append,List.length_cons,List.length_nil]
    all_goals omega
  · unfold cS
    simp only[List.length_set,List.length_append,List.length_cons,List.length_nil]
    omega
theorem jZ{m:Md}{cs:Array Value}{M:aP}{w:World}{dir:Int}(h:aW m w cs.toList M)(hf:cU M) : Calls Tryz.prog 28 #[.int .i64 dir,.agg cs] w (eD (dg dir M) w):=by
 have hM:=h
 obtain⟨vw,vb,vd,vr,vo,h0,hw,hbt,hd,hr,ho,hR⟩:=h
 obtain rfl:cs=(bR M vw vb vd vr vo).toArray:=by apply Array.toList_inj.1;simpa using h0
 clear h0
 obtain⟨Aw,kw,rfl,_,_⟩:=hw.shape
 obtain⟨Ab,kb,rfl,_,_⟩:=hbt.shape
 obtain⟨Ad,kd,rfl,_,_⟩:=hd.shape
 obtain⟨Ar,kr,rfl,_,_⟩:=hr.shape
 obtain⟨Ao,ko,rfl,_,_⟩:=ho.shape
 obtain⟨q0,q1,q2,q3,q4,q5,q6,q7,q8,q9,ah,aj,c,ak,al,am,an⟩:=hR
 simp only[B8,dv] at q0 q1 q2 q3 q4 q5 q6 q7 q8 q9 ah aj c ak al am an
 refine en 47 Tryz.func28 rfl<|sg<|L0<|dt (mG M.code M.fail M.addr M.count M.value M.and_ M.or_ M.addr2 M.sub M.status M.events M.messages (.slice Aw M.words.length kw) (.slice Ab M.bits.length kb) (.slice Ad M.data.length kd) (.slice Ar M.recs.length kr) M.mei M.kind M.level M.more M.next (.slice Ao M.objects.length ko)) fun cg f ch d b=>Pl 2<|nt<|sq<|sg<|Pl 1<|L0<|aR d 1<|Pl 1<|nl<|?_
 refine tn<|cb ((M.fail != 0)) (fun a=>?_) (fun a=>?_)
 have ao:=aq a
 refine sq<|sg<|Pl 2<|nt<|cb ((dir != 1)) (fun c=>?_) (fun c=>?_)
 have ap:=aq c
 refine sg<|Pl 2<|nt<|rt<|tr<|tr<|rr (.tuple #[.slice none 0 0,.int .i64 1])<|?_
 have hs:dg dir M=none:=by
   unfold dg
   (try simp only[a,c,bs,if_true,if_false,decide_true,decide_false,reduceIte])
   all_goals rfl
 refine dD hs ?_
 exact⟨rfl,b⟩
 have ap:=ai c
 refine bq<|sg<|L0<|cj d<|?_
 rcases hwr:jz M with _|lw
 have E:=ky (aW.old hM b)
 rw[hwr] at E
 refine L0<|Oc<|m1 E fun ci ar=>Pl 4<|nt<|rt<|tr<|rr (.tuple #[.slice none 0 0,.int .i64 1])<|?_
 have hs:dg dir M=none:=by
   unfold dg
   (try simp only[a,c,bs,if_true,if_false,decide_true,decide_false,hwr,reduceIte])
   all_goals rfl
 refine dD hs ?_
 exact⟨rfl,(aI b ar)⟩
 have F:=ky (aW.old hM b)
 rw[hwr] at F
 refine L0<|Oc<|ea F fun aw aA ck aB cl cm aD=>Pl 4<|nt<|rt<|tr<|rr (.tuple #[.slice aw lw.length aA,.int .i64 0])<|?_
 have hs:dg dir M=(some lw):=by
   unfold dg
   (try simp only[a,c,bs,if_true,if_false,decide_true,decide_false,hwr,reduceIte])
   all_goals rfl
 refine dD hs ?_
 exact⟨_,rfl,(be.weaken aB b.size),(aI b aD)⟩
 have ao:=ai a
 refine bq<|sg<|Pl 1<|L0<|aR d 0<|?_
 rcases gj M.code with⟨hk,hkf⟩|⟨hk,hkf⟩|⟨hk,hkf⟩|⟨hk,hkf⟩|⟨hk,hkf⟩|⟨hk,hkf⟩
 have G:=eG (x:=M.code) (w:=f)
 rw[hkf] at G
 refine L0<|Oc<|m1 G fun cn aE=>Pl 3<|L0<|bJ #[.nilFunc,.nilFunc] fun co cp aF aG aH=>L0<|b6 aG #[.func (.func 138) #[] #[],.func (.func 139) #[] #[]] fun cq aJ aK=>Pl 1<|nt<|sq<|sg<|Pl 2<|nt<|c0<|?_
 refine bq<|sg<|Pl 1<|L0<|aR aJ 1<|Pl 1<|?_
 have H:=aI aE (ud aH aK aF)
 have I:=ub H d
 refine L0<|cj I<|?_
 have n:=aI b H
 rcases hwr:cO eT bQ dir M with _|lw
 have J:=ie (dir:=dir) (aW.old hM n) hf (eu hf dir).1
 rw[hwr] at J
 refine L0<|fB #[] #[] (args:=#[.int .i64 dir,.agg (mG M.code M.fail M.addr M.count M.value M.and_ M.or_ M.addr2 M.sub M.status M.events M.messages (.slice Aw M.words.length kw) (.slice Ab M.bits.length kb) (.slice Ad M.data.length kd) (.slice Ar M.recs.length kr) M.mei M.kind M.level M.more M.next (.slice Ao M.objects.length ko))])<|m1 J fun cr aL=>Pl 5<|nt<|sq<|sg<|Pl 7<|nt<|c1<|sg<|Pl 2<|nl<|?_
 refine tn<|rt<|tr<|rr (.tuple #[.slice none 0 0,.int .i64 1])<|?_
 have hs:dg dir M=none:=by
   unfold dg
   (try simp only[a,bs,if_true,if_false,decide_true,decide_false,hkf,fU,hwr,reduceIte])
   all_goals rfl
 refine dD hs ?_
 exact⟨rfl,(aI n aL)⟩
 have K:=ie (dir:=dir) (aW.old hM n) hf (eu hf dir).1
 rw[hwr] at K
 refine L0<|fB #[] #[] (args:=#[.int .i64 dir,.agg (mG M.code M.fail M.addr M.count M.value M.and_ M.or_ M.addr2 M.sub M.status M.events M.messages (.slice Aw M.words.length kw) (.slice Ab M.bits.length kb) (.slice Ad M.data.length kd) (.slice Ar M.recs.length kr) M.mei M.kind M.level M.more M.next (.slice Ao M.objects.length ko))])<|ea K fun ct cu cv aM cw cx L=>Pl 5<|nt<|sq<|sg<|Pl 7<|nt<|?_
 have s:=aI n L
 refine cb ((decide (253≤((lw.length:Nat) : Int)))) (fun g=>?_) (fun g=>?_)
 have aN:=of_decide_eq_true g
 refine sg<|Pl 2<|nt<|rt<|tr<|rr (.tuple #[.slice none 0 0,.int .i64 1])<|?_
 have hs:dg dir M=none:=by
   unfold dg
   (try simp only[a,g,bs,if_true,if_false,decide_true,decide_false,hkf,fU,hwr,reduceIte])
   all_goals rfl
 refine dD hs ?_
 exact⟨rfl,s⟩
 have aN:=of_decide_eq_false g
 refine bq<|sg<|Pl 1<|?_
 refine L0<|aR (ub L I) 0<|L0<|dy (m:=1) (e:=5) #[.int .u8 M.code] fun cy cz aO aQ t=>?_
 have N:=dP aO (xs:=[M.code]) (by as_aux_lemma=>kernel_rfl) (az (by omega) aZ) (by(try simp only[List.length_cons,List.length_nil]);omega) aQ
 refine Pl 1<|?_
 refine L0<|cM bv (xs:=([M.code])) (ys:=lw) (.int .u8 0) 1 N ((ax aM t (fun x hx=>ay) (fun _ _ h=>h))).rd (by(try simp only[List.length_append,List.length_cons,List.length_nil,aC]);omega) t.size fun aS aT cA aV aX=>Pl 2<|nt<|rt<|rr (.tuple #[.slice aS (([M.code]++lw).length) aT,.int .i64 0])<|?_
 have hs:dg dir M=(some ([M.code]++lw)):=by
   unfold dg
   (try simp only[a,g,bs,if_true,if_false,decide_true,decide_false,hkf,fU,hwr,reduceIte])
   all_goals rfl
 refine dD hs ?_
 exact⟨_,rfl,(be.weaken aV s.size),(aI s (ut t aX (av (aU N lr) au)))⟩
 have O:=eG (x:=M.code) (w:=f)
 rw[hkf] at O
 refine L0<|Oc<|m1 O fun cB aY=>Pl 3<|L0<|bJ #[.nilFunc,.nilFunc] fun cC cD b0 b1 b2=>L0<|b6 b1 #[.func (.func 140) #[] #[],.func (.func 141) #[] #[]] fun cE b3 b4=>Pl 1<|nt<|sq<|sg<|Pl 2<|nt<|c0<|?_
 refine bq<|sg<|Pl 1<|L0<|aR b3 1<|Pl 1<|?_
 have P:=aI aY (ud b2 b4 b0)
 have Q:=ub P d
 refine L0<|cj Q<|?_
 have o:=aI b P
 rcases hwr:cO fp bL dir M with _|lw
 have R:=iU (dir:=dir) (aW.old hM o) hf (eu hf dir).2.1
 rw[hwr] at R
 refine L0<|fB #[] #[] (args:=#[.int .i64 dir,.agg (mG M.code M.fail M.addr M.count M.value M.and_ M.or_ M.addr2 M.sub M.status M.events M.messages (.slice Aw M.words.length kw) (.slice Ab M.bits.length kb) (.slice Ad M.data.length kd) (.slice Ar M.recs.length kr) M.mei M.kind M.level M.more M.next (.slice Ao M.objects.length ko))])<|m1 R fun cF b5=>Pl 5<|nt<|sq<|sg<|Pl 7<|nt<|c1<|sg<|Pl 2<|nl<|?_
 refine tn<|rt<|tr<|rr (.tuple #[.slice none 0 0,.int .i64 1])<|?_
 have hs:dg dir M=none:=by
   unfold dg
   (try simp only[a,bs,if_true,if_false,decide_true,decide_false,hkf,fU,hwr,reduceIte])
   all_goals rfl
 refine dD hs ?_
 exact⟨rfl,(aI o b5)⟩
 have S:=iU (dir:=dir) (aW.old hM o) hf (eu hf dir).2.1
 rw[hwr] at S
 refine L0<|fB #[] #[] (args:=#[.int .i64 dir,.agg (mG M.code M.fail M.addr M.count M.value M.and_ M.or_ M.addr2 M.sub M.status M.events M.messages (.slice Aw M.words.length kw) (.slice Ab M.bits.length kb) (.slice Ad M.data.length kd) (.slice Ar M.recs.length kr) M.mei M.kind M.level M.more M.next (.slice Ao M.objects.length ko))])<|ea S fun cG cH cI b7 cJ cK T=>Pl 5<|nt<|sq<|sg<|Pl 7<|nt<|?_
 have u:=aI o T
 refine cb ((decide (253≤((lw.length:Nat) : Int)))) (fun i=>?_) (fun i=>?_)
 have b8:=of_decide_eq_true i
 refine sg<|Pl 2<|nt<|rt<|tr<|rr (.tuple #[.slice none 0 0,.int .i64 1])<|?_
 have hs:dg dir M=none:=by
   unfold dg
   (try simp only[a,i,bs,if_true,if_false,decide_true,decide_false,hkf,fU,hwr,reduceIte])
   all_goals rfl
 refine dD hs ?_
 exact⟨rfl,u⟩
 have b8:=of_decide_eq_false i
 refine bq<|sg<|Pl 1<|?_
 refine L0<|aR (ub T Q) 0<|L0<|dy (m:=1) (e:=5) #[.int .u8 M.code] fun cL cN b9 ba v=>?_
 have U:=dP b9 (xs:=[M.code]) (by as_aux_lemma=>kernel_rfl) (az (by omega) aZ) (by(try simp only[List.length_cons,List.length_nil]);omega) ba
 refine Pl 1<|?_
 refine L0<|cM bv (xs:=([M.code])) (ys:=lw) (.int .u8 0) 1 U ((ax b7 v (fun x hx=>ay) (fun _ _ h=>h))).rd (by(try simp only[List.length_append,List.length_cons,List.length_nil,aC]);omega) v.size fun bb bc cP bd bf=>Pl 2<|nt<|rt<|rr (.tuple #[.slice bb (([M.code]++lw).length) bc,.int .i64 0])<|?_
 have hs:dg dir M=(some ([M.code]++lw)):=by
   unfold dg
   (try simp only[a,i,bs,if_true,if_false,decide_true,decide_false,hkf,fU,hwr,reduceIte])
   all_goals rfl
 refine dD hs ?_
 exact⟨_,rfl,(be.weaken bd u.size),(aI u (ut v bf (av (aU U lr) au)))⟩
 have V:=eG (x:=M.code) (w:=f)
 rw[hkf] at V
 refine L0<|Oc<|m1 V fun cQ bg=>Pl 3<|L0<|bJ #[.nilFunc,.nilFunc] fun cR cT bh bi bj=>L0<|b6 bi #[.func (.func 142) #[] #[],.func (.func 143) #[] #[]] fun cV bk bl=>Pl 1<|nt<|sq<|sg<|Pl 2<|nt<|c0<|?_
 refine bq<|sg<|Pl 1<|L0<|aR bk 1<|Pl 1<|?_
 have W:=aI bg (ud bj bl bh)
 have X:=ub W d
 refine L0<|cj X<|?_
 have p:=aI b W
 rcases hwr:cO fq bV dir M with _|lw
 have Y:=jm (dir:=dir) (aW.old hM p) hf (eu hf dir).2.2.1
 rw[hwr] at Y
 refine L0<|fB #[] #[] (args:=#[.int .i64 dir,.agg (mG M.code M.fail M.addr M.count M.value M.and_ M.or_ M.addr2 M.sub M.status M.events M.messages (.slice Aw M.words.length kw) (.slice Ab M.bits.length kb) (.slice Ad M.data.length kd) (.slice Ar M.recs.length kr) M.mei M.kind M.level M.more M.next (.slice Ao M.objects.length ko))])<|m1 Y fun cW bm=>Pl 5<|nt<|sq<|sg<|Pl 7<|nt<|c1<|sg<|Pl 2<|nl<|?_
 refine tn<|rt<|tr<|rr (.tuple #[.slice none 0 0,.int .i64 1])<|?_
 have hs:dg dir M=none:=by
   unfold dg
   (try simp only[a,bs,if_true,if_false,decide_true,decide_false,hkf,fU,hwr,reduceIte])
   all_goals rfl
 refine dD hs ?_
 exact⟨rfl,(aI p bm)⟩
 have Z:=jm (dir:=dir) (aW.old hM p) hf (eu hf dir).2.2.1
 rw[hwr] at Z
 refine L0<|fB #[] #[] (args:=#[.int .i64 dir,.agg (mG M.code M.fail M.addr M.count M.value M.and_ M.or_ M.addr2 M.sub M.status M.events M.messages (.slice Aw M.words.length kw) (.slice Ab M.bits.length kb) (.slice Ad M.data.length kd) (.slice Ar M.recs.length kr) M.mei M.kind M.level M.more M.next (.slice Ao M.objects.length ko))])<|ea Z fun cX cY cZ bn d0 d1 a0=>Pl 5<|nt<|sq<|sg<|Pl 7<|nt<|?_
 have y:=aI p a0
 refine cb ((decide (253≤((lw.length:Nat) : Int)))) (fun j=>?_) (fun j=>?_)
 have bo:=of_decide_eq_true j
 refine sg<|Pl 2<|nt<|rt<|tr<|rr (.tuple #[.slice none 0 0,.int .i64 1])<|?_
 have hs:dg dir M=none:=by
   unfold dg
   (try simp only[a,j,bs,if_true,if_false,decide_true,decide_false,hkf,fU,hwr,reduceIte])
   all_goals rfl
 refine dD hs ?_
 exact⟨rfl,y⟩
 have bo:=of_decide_eq_false j
 refine bq<|sg<|Pl 1<|?_
 refine L0<|aR (ub a0 X) 0<|L0<|dy (m:=1) (e:=5) #[.int .u8 M.code] fun d2 d3 bp br z=>?_
 have a1:=dP bp (xs:=[M.code]) (by as_aux_lemma=>kernel_rfl) (az (by omega) aZ) (by(try simp only[List.length_cons,List.length_nil]);omega) br
 refine Pl 1<|?_
 refine L0<|cM bv (xs:=([M.code])) (ys:=lw) (.int .u8 0) 1 a1 ((ax bn z (fun x hx=>ay) (fun _ _ h=>h))).rd (by(try simp only[List.length_append,List.length_cons,List.length_nil,aC]);omega) z.size fun bt bu d4 bw bx=>Pl 2<|nt<|rt<|rr (.tuple #[.slice bt (([M.code]++lw).length) bu,.int .i64 0])<|?_
 have hs:dg dir M=(some ([M.code]++lw)):=by
   unfold dg
   (try simp only[a,j,bs,if_true,if_false,decide_true,decide_false,hkf,fU,hwr,reduceIte])
   all_goals rfl
 refine dD hs ?_
 exact⟨_,rfl,(be.weaken bw y.size),(aI y (ut z bx (av (aU a1 lr) au)))⟩
 have a2:=eG (x:=M.code) (w:=f)
 rw[hkf] at a2
 refine L0<|Oc<|m1 a2 fun d5 bz=>Pl 3<|L0<|bJ #[.nilFunc,.nilFunc] fun d6 d7 bA bB bC=>L0<|b6 bB #[.func (.func 144) #[] #[],.func (.func 145) #[] #[]] fun d8 bD bE=>Pl 1<|nt<|sq<|sg<|Pl 2<|nt<|c0<|?_
 refine bq<|sg<|Pl 1<|L0<|aR bD 1<|Pl 1<|?_
 have a3:=aI bz (ud bC bE bA)
 have a4:=ub a3 d
 refine L0<|cj a4<|?_
 have q:=aI b a3
 rcases hwr:cO eV cS dir M with _|lw
 have a5:=iv (dir:=dir) (aW.old hM q) hf (eu hf dir).2.2.2.2
 rw[hwr] at a5
 refine L0<|fB #[] #[] (args:=#[.int .i64 dir,.agg (mG M.code M.fail M.addr M.count M.value M.and_ M.or_ M.addr2 M.sub M.status M.events M.messages (.slice Aw M.words.length kw) (.slice Ab M.bits.length kb) (.slice Ad M.data.length kd) (.slice Ar M.recs.length kr) M.mei M.kind M.level M.more M.next (.slice Ao M.objects.length ko))])<|m1 a5 fun d9 bF=>Pl 5<|nt<|sq<|sg<|Pl 7<|nt<|c1<|sg<|Pl 2<|nl<|?_
 refine tn<|rt<|tr<|rr (.tuple #[.slice none 0 0,.int .i64 1])<|?_
 have hs:dg dir M=none:=by
   unfold dg
   (try simp only[a,bs,if_true,if_false,decide_true,decide_false,hkf,fU,hwr,reduceIte])
   all_goals rfl
 refine dD hs ?_
 exact⟨rfl,(aI q bF)⟩
 have a6:=iv (dir:=dir) (aW.old hM q) hf (eu hf dir).2.2.2.2
 rw[hwr] at a6
 refine L0<|fB #[] #[] (args:=#[.int .i64 dir,.agg (mG M.code M.fail M.addr M.count M.value M.and_ M.or_ M.addr2 M.sub M.status M.events M.messages (.slice Aw M.words.length kw) (.slice Ab M.bits.length kb) (.slice Ad M.data.length kd) (.slice Ar M.recs.length kr) M.mei M.kind M.level M.more M.next (.slice Ao M.objects.length ko))])<|ea a6 fun da db dc bG dd de a7=>Pl 5<|nt<|sq<|sg<|Pl 7<|nt<|?_
 have A:=aI q a7
 refine cb ((decide (253≤((lw.length:Nat) : Int)))) (fun k=>?_) (fun k=>?_)
 have bH:=of_decide_eq_true k
 refine sg<|Pl 2<|nt<|rt<|tr<|rr (.tuple #[.slice none 0 0,.int .i64 1])<|?_
 have hs:dg dir M=none:=by
   unfold dg
   (try simp only[a,k,bs,if_true,if_false,decide_true,decide_false,hkf,fU,hwr,reduceIte])
   all_goals rfl
 refine dD hs ?_
 exact⟨rfl,A⟩
 have bH:=of_decide_eq_false k
 refine bq<|sg<|Pl 1<|?_
 refine L0<|aR (ub a7 a4) 0<|L0<|dy (m:=1) (e:=5) #[.int .u8 M.code] fun df dh bI bK B=>?_
 have a8:=dP bI (xs:=[M.code]) (by as_aux_lemma=>kernel_rfl) (az (by omega) aZ) (by(try simp only[List.length_cons,List.length_nil]);omega) bK
 refine Pl 1<|?_
 refine L0<|cM bv (xs:=([M.code])) (ys:=lw) (.int .u8 0) 1 a8 ((ax bG B (fun x hx=>ay) (fun _ _ h=>h))).rd (by(try simp only[List.length_append,List.length_cons,List.length_nil,aC]);omega) B.size fun bM bN dj bO bP=>Pl 2<|nt<|rt<|rr (.tuple #[.slice bM (([M.code]++lw).length) bN,.int .i64 0])<|?_
 have hs:dg dir M=(some ([M.code]++lw)):=by
   unfold dg
   (try simp only[a,k,bs,if_true,if_false,decide_true,decide_false,hkf,fU,hwr,reduceIte])
   all_goals rfl
 refine dD hs ?_
 exact⟨_,rfl,(be.weaken bO A.size),(aI A (ut B bP (av (aU a8 lr) au)))⟩
 have a9:=eG (x:=M.code) (w:=f)
 rw[hkf] at a9
 refine L0<|Oc<|m1 a9 fun dk bS=>Pl 3<|L0<|bJ #[.nilFunc,.nilFunc] fun dl dm bT bU bW=>L0<|b6 bU #[.func (.func 146) #[] #[],.func (.func 147) #[] #[]] fun dn bX bY=>Pl 1<|nt<|sq<|sg<|Pl 2<|nt<|c0<|?_
 refine bq<|sg<|Pl 1<|L0<|aR bX 1<|Pl 1<|?_
 have aa:=aI bS (ud bW bY bT)
 have ab:=ub aa d
 refine L0<|cj ab<|?_
 have r:=aI b aa
 rcases hwr:cO fV di dir M with _|lw
 have ac:=kF (dir:=dir) (aW.old hM r) hf (eu hf dir).2.2.2.1
 rw[hwr] at ac
 refine L0<|fB #[] #[] (args:=#[.int .i64 dir,.agg (mG M.code M.fail M.addr M.count M.value M.and_ M.or_ M.addr2 M.sub M.status M.events M.messages (.slice Aw M.words.length kw) (.slice Ab M.bits.length kb) (.slice Ad M.data.length kd) (.slice Ar M.recs.length kr) M.mei M.kind M.level M.more M.next (.slice Ao M.objects.length ko))])<|m1 ac fun dp bZ=>Pl 5<|nt<|sq<|sg<|Pl 7<|nt<|c1<|sg<|Pl 2<|nl<|?_
 refine tn<|rt<|tr<|rr (.tuple #[.slice none 0 0,.int .i64 1])<|?_
 have hs:dg dir M=none:=by
   unfold dg
   (try simp only[a,bs,if_true,if_false,decide_true,decide_false,hkf,fU,hwr,reduceIte])
   all_goals rfl
 refine dD hs ?_
 exact⟨rfl,(aI r bZ)⟩
 have ad:=kF (dir:=dir) (aW.old hM r) hf (eu hf dir).2.2.2.1
 rw[hwr] at ad
 refine L0<|fB #[] #[] (args:=#[.int .i64 dir,.agg (mG M.code M.fail M.addr M.count M.value M.and_ M.or_ M.addr2 M.sub M.status M.events M.messages (.slice Aw M.words.length kw) (.slice Ab M.bits.length kb) (.slice Ad M.data.length kd) (.slice Ar M.recs.length kr) M.mei M.kind M.level M.more M.next (.slice Ao M.objects.length ko))])<|ea ad fun dq dr ds c2 du dw ae=>Pl 5<|nt<|sq<|sg<|Pl 7<|nt<|?_
 have C:=aI r ae
 refine cb ((decide (253≤((lw.length:Nat) : Int)))) (fun l=>?_) (fun l=>?_)
 have c3:=of_decide_eq_true l
 refine sg<|Pl 2<|nt<|rt<|tr<|rr (.tuple #[.slice none 0 0,.int .i64 1])<|?_
 have hs:dg dir M=none:=by
   unfold dg
   (try simp only[a,l,bs,if_true,if_false,decide_true,decide_false,hkf,fU,hwr,reduceIte])
   all_goals rfl
 refine dD hs ?_
 exact⟨rfl,C⟩
 have c3:=of_decide_eq_false l
 refine bq<|sg<|Pl 1<|?_
 refine L0<|aR (ub ae ab) 0<|L0<|dy (m:=1) (e:=5) #[.int .u8 M.code] fun dx dz c4 c5 D=>?_
 have af:=dP c4 (xs:=[M.code]) (by as_aux_lemma=>kernel_rfl) (az (by omega) aZ) (by(try simp only[List.length_cons,List.length_nil]);omega) c5
 refine Pl 1<|?_
 refine L0<|cM bv (xs:=([M.code])) (ys:=lw) (.int .u8 0) 1 af ((ax c2 D (fun x hx=>ay) (fun _ _ h=>h))).rd (by(try simp only[List.length_append,List.length_cons,List.length_nil,aC]);omega) D.size fun c6 c7 dA c8 c9=>Pl 2<|nt<|rt<|rr (.tuple #[.slice c6 (([M.code]++lw).length) c7,.int .i64 0])<|?_
 have hs:dg dir M=(some ([M.code]++lw)):=by
   unfold dg
   (try simp only[a,l,bs,if_true,if_false,decide_true,decide_false,hkf,fU,hwr,reduceIte])
   all_goals rfl
 refine dD hs ?_
 exact⟨_,rfl,(be.weaken c8 C.size),(aI C (ut D c9 (av (aU af lr) au)))⟩
 have ag:=eG (x:=M.code) (w:=f)
 rw[hkf] at ag
 refine L0<|Oc<|m1 ag fun dB ca=>Pl 3<|L0<|bJ #[.nilFunc,.nilFunc] fun dC dE cc cd ce=>L0<|b6 cd #[.nilFunc,.nilFunc] fun dF dG cf=>Pl 1<|nt<|sq<|sg<|Pl 2<|nt<|c1<|?_
 refine sg<|Pl 2<|nt<|rt<|tr<|rr (.tuple #[.slice none 0 0,.int .i64 1])<|?_
 have hs:dg dir M=none:=by
   unfold dg
   (try simp only[a,bs,if_true,if_false,decide_true,decide_false,hkf,fU,reduceIte])
   all_goals rfl
 refine dD hs ?_
 exact⟨rfl,(aI b (aI ca (ud ce cf cc)))⟩
open Go.RowKit
theorem gA{x y:aP × Int}(h:x=y){w:World}{e:Ending}{w':World}(k:dB y w e w') : dB x w e w':=by rw[h];exact k
def iy:Nat→Int→List Int→aP × Int
  | 1,dir,b=>ae aD dir (b.getD 0 0) (b.drop 1)
  | 2,dir,b=>ae aH dir (b.getD 0 0) (b.drop 1)
  | 3,dir,b=>ae aM dir (b.getD 0 0) (b.drop 1)
  | 4,dir,b=>ae aY dir (b.getD 0 0) (b.drop 1)
  | 5,dir,b=>ae bE dir (b.getD 0 0) (b.drop 1)
  | _,_,_=>(aP.zero,4)
def dO (dir:Int)(b:List Int) : aP × Int :=
  if dir != 0&&dir != 1 then (aP.zero,1)
  else if (b.length:Int)==0 then (aP.zero,2)
  else if decide (253<(b.length:Int)) then (aP.zero,3)
  else if decide (128≤b.getD 0 0)&&dir==1 then eH b
  else iy (iI (b.getD 0 0)) dir b
theorem mO{m:Md}{A:Option Addr}{cp:Nat}{b:List Int}{w:World}{dir:Int}(hsl:bg m w (.slice A b.length cp) b)(hb:b.length≤1048576) :
    Calls Tryz.prog 24 #[.int .i64 dir,.slice A b.length cp] w (dB (dO dir b) w):=by
 have hln:(b.length:Int)≤1048576:=by omega
 refine en 60 Tryz.func24 rfl<|sg<|L0<|bJ mZ fun dj t h a f=>Pl 1<|nt<|sq<|bk<|sg<|Pl 3<|cu 3 [11] 14 (((dir != 0)&&(dir != 1))) (fun K a2=>?_) ?_
 refine bl 11 ((dir != 0)) (fun u=>?_) (fun u=>?_)
 have bZ:=aq u
 exact Pl 3<|ce a2 (dir != 1) (by rw[u];rfl)
 have bZ:=ai u
 exact Pl 3<|ce a2 false (by rw[u];rfl)
 refine Pl 1<|nt<|cb (((dir != 0)&&(dir != 1))) (fun d=>?_) (fun d=>?_)
 have a3:=(aS d).1
 have a4:=(aS d).2
 have dk:=aq a3
 have dl:=aq a4
 refine sg<|Pl 1<|L0<|b6 a mZ fun dm c2 c3=>Pl 1<|nt<|rt<|br<|tr<|bF c2 (.int .i64 1)<|?_
 have hs:dO dir b=(aP.zero,1):=by
   unfold dO
   (try simp only[d,a3,a4,bs,if_true,if_false,decide_true,decide_false,iy,reduceIte])
   all_goals rfl
 refine gA hs ?_
 exact cE (ud f c3 h)
 refine sg<|Pl 4<|nt<|cb ((((b.length:Nat) : Int)==0)) (fun e=>?_) (fun e=>?_)
 have c4:=al e
 refine sg<|Pl 1<|L0<|b6 a mZ fun dn c5 c6=>Pl 1<|nt<|rt<|br<|tr<|bF c5 (.int .i64 2)<|?_
 have hs:dO dir b=(aP.zero,2):=by
   unfold dO
   (try simp only[d,e,bs,if_true,if_false,decide_true,decide_false,iy,reduceIte])
   all_goals rfl
 refine gA hs ?_
 exact cE (ud f c6 h)
 have c4:=ap e
 refine sg<|Pl 4<|nt<|cb ((decide (253<((b.length:Nat) : Int)))) (fun g=>?_) (fun g=>?_)
 have c7:=of_decide_eq_true g
 refine sg<|Pl 1<|L0<|b6 a mZ fun dp c8 c9=>Pl 1<|nt<|rt<|br<|tr<|bF c8 (.int .i64 3)<|?_
 have hs:dO dir b=(aP.zero,3):=by
   unfold dO
   (try simp only[d,e,g,bs,if_true,if_false,decide_true,decide_false,iy,reduceIte])
   all_goals rfl
 refine gA hs ?_
 exact cE (ud f c9 h)
 have c7:=of_decide_eq_false g
 refine sg<|Pl 1<|?_
 have s:=bg.old hsl f
 refine fl (bg.at_ s 0 (by omega)) fun a5 a6 a7 a8 dq=>L0<|jt b.length 0 a7 (by omega)<|L0<|dZ (p:=⟨a5,a6+0,none⟩) (v:=.int .u8 (b.getD 0 0)) a8<|Pl 2<|cu 3 [31] 34 (((decide (128≤(b.getD 0 0)))&&(dir==1))) (fun K a9=>?_) ?_
 refine bl 31 ((decide (128≤(b.getD 0 0)))) (fun y=>?_) (fun y=>?_)
 have ca:=of_decide_eq_true y
 exact Pl 3<|ce a9 (dir==1) (by rw[y];rfl)
 have ca:=of_decide_eq_false y
 exact Pl 3<|ce a9 false (by rw[y];rfl)
 refine Pl 1<|nt<|cb (((decide (128≤(b.getD 0 0)))&&(dir==1))) (fun i=>?_) (fun i=>?_)
 have aa:=(aS i).1
 have ab:=(aS i).2
 have dr:=of_decide_eq_true aa
 have ds:=al ab
 refine sg<|Pl 1<|L0<|Oc<|e2 (oY s (by omega)) fun cc dt z ac=>Pl 2<|?_
 have ad:=ub ac a
 refine L0<|b6 (hz:=(by rw[z.size];exact aO)) (hv:=z.size) (h1:=z.one) ad (cc) fun du cd af=>Pl 1<|nt<|rt<|br<|tr<|e9 22 z.size cd (.int .i64 (((eH b)).2))<|?_
 have hs:dO dir b=(eH b):=by
   unfold dO
   (try simp only[d,e,g,i,aa,ab,bs,if_true,if_false,decide_true,decide_false,iy,reduceIte])
   all_goals rfl
 refine gA hs ?_
 exact⟨_,rfl,(aW.upd z af (am (aQ ad (by decide)) aG)),(ud f (uz ac af) h)⟩
 refine sk<|bn<|tn<|sg<|Pl 1<|L0<|jt b.length 0 a7 (by omega)<|L0<|dZ (p:=⟨a5,a6+0,none⟩) (v:=.int .u8 (b.getD 0 0)) a8<|?_
 rcases gj (b.getD 0 0) with⟨hk,hkf⟩|⟨hk,hkf⟩|⟨hk,hkf⟩|⟨hk,hkf⟩|⟨hk,hkf⟩|⟨hk,hkf⟩
 have ah:=eG (x:=(b.getD 0 0)) (w:=t)
 rw[hkf] at ah
 refine L0<|Oc<|m1 ah fun dv aj=>Pl 3<|L0<|bJ #[.nilFunc,.nilFunc] fun cf dw an cg ch=>L0<|b6 cg #[.func (.func 138) #[] #[],.func (.func 139) #[] #[]] fun dx ci cj=>Pl 1<|nt<|sq<|sg<|Pl 2<|nt<|c0<|?_
 refine bq<|sq<|?_
 have ao:=aI aj (ud ch cj an)
 have ar:=bg.old s ao
 refine fl (bg.at_ ar 0 (by omega)) fun ck cl au av dy=>Rg 13 (fun w'=>w'.cell? ⟨cf,0,none⟩=some (.func (.func 138) #[] #[])∧w'.cell? ⟨ck,cl+0,none⟩=some (.int .u8 (b.getD 0 0))) fun dA M=>?_
 have aw:=ub M ci
 refine bh ⟨(ag aw rfl),(uc M av)⟩ fun j=>Rt 0 j<|Rl 1 j (fun _ hs=>hs.1)<|Rt 2 j<|Rt 3 j<|lz 4 j b.length 0 0 rfl au (by omega)<|Rl 5 j (fun _ hs=>hs.2)<|Rt 6 j<|mS (dz (P:=Tryz.prog) 22 5 1 Tryz.underlying22 rfl rfl A b.length cp 1 (by omega)) fun ax hrun108 cm=>Rr 7 j (.slice ax (b.length-1) (cp-1)) (fun _ _=>dH (kl:=.i64) (k:=((1:Nat) : Int)) (A:=A) (n:=b.length) (c:=cp) rfl Tryz.underlying22 (by kernel_rfl) (by kernel_rfl) (hrun108 _ _))<|?_
 refine R0 8 rfl<|fB #[] #[] (args:=#[.int .i64 dir,.int .u8 (b.getD 0 0),.slice ax (b.length-1) (cp-1)])<|e2 (io (dir:=dir) (c:=(b.getD 0 0)) (b8 (by omega)) (cm _ _ _ _ _ (bg.old ar M)) (by(try simp only[List.length_drop]);omega)) fun cn dC B S=>?_
 have ay:=ub S aw
 have T:=aI M S
 refine bh ⟨(ag ay rfl),(uc T av)⟩ fun az=>Rt 9 az<|Rt 10 az<|?_
 have aA:=aI ao T
 have aB:=ub aA a
 refine R0 11 rfl<|b6 (hz:=(by rw[B.size];exact aO)) (hv:=B.size) (h1:=B.one) aB (cn) fun dD co C=>?_
 have dE:=uz T C
 have dF:=uz S C
 have aC:=ud f (uz aA C) h
 refine bh ⟨(ag (aT C (Ne.symm (nb (ak a) aj.size an)) ay) rfl),(cB (bg.old hsl aC) au 0 (by omega))⟩ fun cq=>Rt 12 cq<|re<|tn<|rt<|e9 22 B.size co (.int .i64 (((ae aD dir (b.getD 0 0) (b.drop 1))).2))<|?_
 have hs:dO dir b=(ae aD dir (b.getD 0 0) (b.drop 1)):=by
   unfold dO
   (try simp only[d,e,g,i,bs,if_true,if_false,decide_true,decide_false,hkf,iy,reduceIte])
   all_goals rfl
 refine gA hs ?_
 exact⟨_,rfl,(aW.upd B C (am (aQ aB (by decide)) aG)),aC⟩
 have aE:=eG (x:=(b.getD 0 0)) (w:=t)
 rw[hkf] at aE
 refine L0<|Oc<|m1 aE fun dG aF=>Pl 3<|L0<|bJ #[.nilFunc,.nilFunc] fun cr dI aJ cs ct=>L0<|b6 cs #[.func (.func 140) #[] #[],.func (.func 141) #[] #[]] fun dJ cv cw=>Pl 1<|nt<|sq<|sg<|Pl 2<|nt<|c0<|?_
 refine bq<|sq<|?_
 have aK:=aI aF (ud ct cw aJ)
 have aL:=bg.old s aK
 refine fl (bg.at_ aL 0 (by omega)) fun cx cy aN aR dK=>Rg 13 (fun w'=>w'.cell? ⟨cr,0,none⟩=some (.func (.func 140) #[] #[])∧w'.cell? ⟨cx,cy+0,none⟩=some (.int .u8 (b.getD 0 0))) fun dL N=>?_
 have aU:=ub N cv
 refine bh ⟨(ag aU rfl),(uc N aR)⟩ fun l=>Rt 0 l<|Rl 1 l (fun _ hs=>hs.1)<|Rt 2 l<|Rt 3 l<|lz 4 l b.length 0 0 rfl aN (by omega)<|Rl 5 l (fun _ hs=>hs.2)<|Rt 6 l<|mS (dz (P:=Tryz.prog) 22 5 1 Tryz.underlying22 rfl rfl A b.length cp 1 (by omega)) fun aV hrun188 cz=>Rr 7 l (.slice aV (b.length-1) (cp-1)) (fun _ _=>dH (kl:=.i64) (k:=((1:Nat) : Int)) (A:=A) (n:=b.length) (c:=cp) rfl Tryz.underlying22 (by kernel_rfl) (by kernel_rfl) (hrun188 _ _))<|?_
 refine R0 8 rfl<|fB #[] #[] (args:=#[.int .i64 dir,.int .u8 (b.getD 0 0),.slice aV (b.length-1) (cp-1)])<|e2 (jb (dir:=dir) (c:=(b.getD 0 0)) (b8 (by omega)) (cz _ _ _ _ _ (bg.old aL N)) (by(try simp only[List.length_drop]);omega)) fun cA dM D U=>?_
 have aX:=ub U aU
 have V:=aI N U
 refine bh ⟨(ag aX rfl),(uc V aR)⟩ fun aZ=>Rt 9 aZ<|Rt 10 aZ<|?_
 have b0:=aI aK V
 have b1:=ub b0 a
 refine R0 11 rfl<|b6 (hz:=(by rw[D.size];exact aO)) (hv:=D.size) (h1:=D.one) b1 (cA) fun dN cC E=>?_
 have dP:=uz V E
 have dQ:=uz U E
 have b2:=ud f (uz b0 E) h
 refine bh ⟨(ag (aT E (Ne.symm (nb (ak a) aF.size aJ)) aX) rfl),(cB (bg.old hsl b2) aN 0 (by omega))⟩ fun cD=>Rt 12 cD<|re<|tn<|rt<|e9 22 D.size cC (.int .i64 (((ae aH dir (b.getD 0 0) (b.drop 1))).2))<|?_
 have hs:dO dir b=(ae aH dir (b.getD 0 0) (b.drop 1)):=by
   unfold dO
   (try simp only[d,e,g,i,bs,if_true,if_false,decide_true,decide_false,hkf,iy,reduceIte])
   all_goals rfl
 refine gA hs ?_
 exact⟨_,rfl,(aW.upd D E (am (aQ b1 (by decide)) aG)),b2⟩
 have b3:=eG (x:=(b.getD 0 0)) (w:=t)
 rw[hkf] at b3
 refine L0<|Oc<|m1 b3 fun dR b4=>Pl 3<|L0<|bJ #[.nilFunc,.nilFunc] fun cF dS b5 cG cH=>L0<|b6 cG #[.func (.func 142) #[] #[],.func (.func 143) #[] #[]] fun dT cI cJ=>Pl 1<|nt<|sq<|sg<|Pl 2<|nt<|c0<|?_
 refine bq<|sq<|?_
 have b7:=aI b4 (ud cH cJ b5)
 have b9:=bg.old s b7
 refine fl (bg.at_ b9 0 (by omega)) fun cK cL ba bb dU=>Rg 13 (fun w'=>w'.cell? ⟨cF,0,none⟩=some (.func (.func 142) #[] #[])∧w'.cell? ⟨cK,cL+0,none⟩=some (.int .u8 (b.getD 0 0))) fun dV O=>?_
 have bc:=ub O cI
 refine bh ⟨(ag bc rfl),(uc O bb)⟩ fun o=>Rt 0 o<|Rl 1 o (fun _ hs=>hs.1)<|Rt 2 o<|Rt 3 o<|lz 4 o b.length 0 0 rfl ba (by omega)<|Rl 5 o (fun _ hs=>hs.2)<|Rt 6 o<|mS (dz (P:=Tryz.prog) 22 5 1 Tryz.underlying22 rfl rfl A b.length cp 1 (by omega)) fun bd hrun268 cM=>Rr 7 o (.slice bd (b.length-1) (cp-1)) (fun _ _=>dH (kl:=.i64) (k:=((1:Nat) : Int)) (A:=A) (n:=b.length) (c:=cp) rfl Tryz.underlying22 (by kernel_rfl) (by kernel_rfl) (hrun268 _ _))<|?_
 refine R0 8 rfl<|fB #[] #[] (args:=#[.int .i64 dir,.int .u8 (b.getD 0 0),.slice bd (b.length-1) (cp-1)])<|e2 (j8 (dir:=dir) (c:=(b.getD 0 0)) (b8 (by omega)) (cM _ _ _ _ _ (bg.old b9 O)) (by(try simp only[List.length_drop]);omega)) fun cN dW F W=>?_
 have be:=ub W bc
 have X:=aI O W
 refine bh ⟨(ag be rfl),(uc X bb)⟩ fun bf=>Rt 9 bf<|Rt 10 bf<|?_
 have bi:=aI b7 X
 have bj:=ub bi a
 refine R0 11 rfl<|b6 (hz:=(by rw[F.size];exact aO)) (hv:=F.size) (h1:=F.one) bj (cN) fun dX cO G=>?_
 have dY:=uz X G
 have e0:=uz W G
 have bm:=ud f (uz bi G) h
 refine bh ⟨(ag (aT G (Ne.symm (nb (ak a) b4.size b5)) be) rfl),(cB (bg.old hsl bm) ba 0 (by omega))⟩ fun cP=>Rt 12 cP<|re<|tn<|rt<|e9 22 F.size cO (.int .i64 (((ae aM dir (b.getD 0 0) (b.drop 1))).2))<|?_
 have hs:dO dir b=(ae aM dir (b.getD 0 0) (b.drop 1)):=by
   unfold dO
   (try simp only[d,e,g,i,bs,if_true,if_false,decide_true,decide_false,hkf,iy,reduceIte])
   all_goals rfl
 refine gA hs ?_
 exact⟨_,rfl,(aW.upd F G (am (aQ bj (by decide)) aG)),bm⟩
 have bo:=eG (x:=(b.getD 0 0)) (w:=t)
 rw[hkf] at bo
 refine L0<|Oc<|m1 bo fun e1 bp=>Pl 3<|L0<|bJ #[.nilFunc,.nilFunc] fun cQ e3 bt cR cS=>L0<|b6 cR #[.func (.func 144) #[] #[],.func (.func 145) #[] #[]] fun e4 cT cU=>Pl 1<|nt<|sq<|sg<|Pl 2<|nt<|c0<|?_
 refine bq<|sq<|?_
 have bu:=aI bp (ud cS cU bt)
 have bv:=bg.old s bu
 refine fl (bg.at_ bv 0 (by omega)) fun cV cW bw bx e5=>Rg 13 (fun w'=>w'.cell? ⟨cQ,0,none⟩=some (.func (.func 144) #[] #[])∧w'.cell? ⟨cV,cW+0,none⟩=some (.int .u8 (b.getD 0 0))) fun e6 Q=>?_
 have bz:=ub Q cT
 refine bh ⟨(ag bz rfl),(uc Q bx)⟩ fun q=>Rt 0 q<|Rl 1 q (fun _ hs=>hs.1)<|Rt 2 q<|Rt 3 q<|lz 4 q b.length 0 0 rfl bw (by omega)<|Rl 5 q (fun _ hs=>hs.2)<|Rt 6 q<|mS (dz (P:=Tryz.prog) 22 5 1 Tryz.underlying22 rfl rfl A b.length cp 1 (by omega)) fun bA hrun348 cX=>Rr 7 q (.slice bA (b.length-1) (cp-1)) (fun _ _=>dH (kl:=.i64) (k:=((1:Nat) : Int)) (A:=A) (n:=b.length) (c:=cp) rfl Tryz.underlying22 (by kernel_rfl) (by kernel_rfl) (hrun348 _ _))<|?_
 refine R0 8 rfl<|fB #[] #[] (args:=#[.int .i64 dir,.int .u8 (b.getD 0 0),.slice bA (b.length-1) (cp-1)])<|e2 (ij (dir:=dir) (c:=(b.getD 0 0)) (b8 (by omega)) (cX _ _ _ _ _ (bg.old bv Q)) (by(try simp only[List.length_drop]);omega)) fun cY e7 H Y=>?_
 have bB:=ub Y bz
 have Z:=aI Q Y
 refine bh ⟨(ag bB rfl),(uc Z bx)⟩ fun bC=>Rt 9 bC<|Rt 10 bC<|?_
 have bD:=aI bu Z
 have bG:=ub bD a
 refine R0 11 rfl<|b6 (hz:=(by rw[H.size];exact aO)) (hv:=H.size) (h1:=H.one) bG (cY) fun e8 cZ I=>?_
 have ea:=uz Z I
 have eb:=uz Y I
 have bH:=ud f (uz bD I) h
 refine bh ⟨(ag (aT I (Ne.symm (nb (ak a) bp.size bt)) bB) rfl),(cB (bg.old hsl bH) bw 0 (by omega))⟩ fun d0=>Rt 12 d0<|re<|tn<|rt<|e9 22 H.size cZ (.int .i64 (((ae aY dir (b.getD 0 0) (b.drop 1))).2))<|?_
 have hs:dO dir b=(ae aY dir (b.getD 0 0) (b.drop 1)):=by
   unfold dO
   (try simp only[d,e,g,i,bs,if_true,if_false,decide_true,decide_false,hkf,iy,reduceIte])
   all_goals rfl
 refine gA hs ?_
 exact⟨_,rfl,(aW.upd H I (am (aQ bG (by decide)) aG)),bH⟩
 have bI:=eG (x:=(b.getD 0 0)) (w:=t)
 rw[hkf] at bI
 refine L0<|Oc<|m1 bI fun ec bK=>Pl 3<|L0<|bJ #[.nilFunc,.nilFunc] fun d1 ed bL d2 d3=>L0<|b6 d2 #[.func (.func 146) #[] #[],.func (.func 147) #[] #[]] fun ee d4 d5=>Pl 1<|nt<|sq<|sg<|Pl 2<|nt<|c0<|?_
 refine bq<|sq<|?_
 have bM:=aI bK (ud d3 d5 bL)
 have bN:=bg.old s bM
 refine fl (bg.at_ bN 0 (by omega)) fun d6 d7 bO bP ef=>Rg 13 (fun w'=>w'.cell? ⟨d1,0,none⟩=some (.func (.func 146) #[] #[])∧w'.cell? ⟨d6,d7+0,none⟩=some (.int .u8 (b.getD 0 0))) fun eg R=>?_
 have bQ:=ub R d4
 refine bh ⟨(ag bQ rfl),(uc R bP)⟩ fun r=>Rt 0 r<|Rl 1 r (fun _ hs=>hs.1)<|Rt 2 r<|Rt 3 r<|lz 4 r b.length 0 0 rfl bO (by omega)<|Rl 5 r (fun _ hs=>hs.2)<|Rt 6 r<|mS (dz (P:=Tryz.prog) 22 5 1 Tryz.underlying22 rfl rfl A b.length cp 1 (by omega)) fun bR hrun428 d8=>Rr 7 r (.slice bR (b.length-1) (cp-1)) (fun _ _=>dH (kl:=.i64) (k:=((1:Nat) : Int)) (A:=A) (n:=b.length) (c:=cp) rfl Tryz.underlying22 (by kernel_rfl) (by kernel_rfl) (hrun428 _ _))<|?_
 refine R0 8 rfl<|fB #[] #[] (args:=#[.int .i64 dir,.int .u8 (b.getD 0 0),.slice bR (b.length-1) (cp-1)])<|e2 (kp (dir:=dir) (c:=(b.getD 0 0)) (b8 (by omega)) (d8 _ _ _ _ _ (bg.old bN R)) (by(try simp only[List.length_drop]);omega)) fun d9 eh J a0=>?_
 have bS:=ub a0 bQ
 have a1:=aI R a0
 refine bh ⟨(ag bS rfl),(uc a1 bP)⟩ fun bT=>Rt 9 bT<|Rt 10 bT<|?_
 have bU:=aI bM a1
 have bV:=ub bU a
 refine R0 11 rfl<|b6 (hz:=(by rw[J.size];exact aO)) (hv:=J.size) (h1:=J.one) bV (d9) fun ei da L=>?_
 have ej:=uz a1 L
 have ek:=uz a0 L
 have bW:=ud f (uz bU L) h
 refine bh ⟨(ag (aT L (Ne.symm (nb (ak a) bK.size bL)) bS) rfl),(cB (bg.old hsl bW) bO 0 (by omega))⟩ fun db=>Rt 12 db<|re<|tn<|rt<|e9 22 J.size da (.int .i64 (((ae bE dir (b.getD 0 0) (b.drop 1))).2))<|?_
 have hs:dO dir b=(ae bE dir (b.getD 0 0) (b.drop 1)):=by
   unfold dO
   (try simp only[d,e,g,i,bs,if_true,if_false,decide_true,decide_false,hkf,iy,reduceIte])
   all_goals rfl
 refine gA hs ?_
 exact⟨_,rfl,(aW.upd J L (am (aQ bV (by decide)) aG)),bW⟩
 have bX:=eG (x:=(b.getD 0 0)) (w:=t)
 rw[hkf] at bX
 refine L0<|Oc<|m1 bX fun el dc=>Pl 3<|L0<|bJ #[.nilFunc,.nilFunc] fun em eo dd de df=>L0<|b6 de #[.nilFunc,.nilFunc] fun ep eq dg=>Pl 1<|nt<|sq<|sg<|Pl 2<|nt<|c1<|?_
 refine sg<|Pl 1<|?_
 have bY:=aI dc (ud df dg dd)
 refine L0<|b6 (ub bY a) mZ fun er dh di=>Pl 1<|nt<|rt<|tr<|bF dh (.int .i64 4)<|?_
 have hs:dO dir b=(aP.zero,4):=by
   unfold dO
   (try simp only[d,e,g,i,bs,if_true,if_false,decide_true,decide_false,hkf,iy,reduceIte])
   all_goals rfl
 refine gA hs ?_
 exact cE (ud f (uz bY di) h)
theorem oQ{m:Md}{v:Value}{b:List Int}{w:World}{dir:Int}(h:bg m w v b)(hb:b.length≤1048576) : Calls Tryz.prog 24 #[.int .i64 dir,v] w (dB (dO dir b) w):=by
  obtain⟨A,cp,rfl,_,_⟩:=h.shape
  exact mO h hb
end Go.Proofs.YtogbnemojakcpaaGreat
namespace Go.Proofs.YtogbnemojakcpaaGreat
def N1 (C:ah) : Prop:=C.e≠1
theorem N1.need{C:ah}{b:Bool}{x:Int}(hx:x≠1)(h:N1 C) : N1 (C.need b x):=by
  unfold N1 ah.need at *
  split
  · exact hx
  · exact h
theorem N1.bytesC{C:ah}{n:Int}(h:N1 C) : N1 (C.bytesC n):=by
  unfold ah.bytesC
  split
  · exact N1.need (by decide) h
  · exact h
theorem N1.wordsC{C:ah}{n:Int}(h:N1 C) : N1 (C.wordsC n):=by
  unfold ah.wordsC
  split<;>exact N1.bytesC h
theorem N1.recs{one:Int→ah→Int × ah × de}(ho:∀ s C,N1 C→N1 (one s C).2.1) : ∀ (n:Nat)(s:Int)(C:ah)(L:List de),N1 C→N1 (aN one n s C L).1
  | 0,_,_,_,h=>h
  | n+1,s,C,L,h=>by
    unfold aN
    split
    · split
      · exact ho s C h
      · exact N1.recs ho n _ _ _ (ho s C h)
    · exact h
theorem N1.endC{C:ah}(h:N1 C) : N1 C.endC:=by
  unfold ah.endC
  exact N1.need (by decide) h
end Go.Proofs.YtogbnemojakcpaaGreat
namespace Go.Proofs.YtogbnemojakcpaaGreat
end Go.Proofs.YtogbnemojakcpaaGreat
namespace Go.Proofs.YtogbnemojakcpaaGreat
open Go.RowKit
theorem oM{w w':World}(h:aE [] w w') : Below w.heap.size w w':=⟨h.os,h.tape,h.output,h.size,fun k hk=>h.block k hk (by simp)⟩
theorem oB{n:Int}(h:(Lit.int .u8 n).wf=true) : 0≤n∧n<256:=by
  have:=bounds_u8 h
  omega
open Go.RowKit
structure SL where
  aw:Option Addr
  kw:Nat
  ab:Option Addr
  kb:Nat
  ad:Option Addr
  kd:Nat
  ar:Option Addr
  kr:Nat
  ao:Option Addr
  ko:Nat
def rc (M:aP)(x:SL) : Array Value:=mG M.code M.fail M.addr M.count M.value M.and_ M.or_ M.addr2 M.sub M.status M.events M.messages (.slice x.aw M.words.length x.kw) (.slice x.ab M.bits.length x.kb) (.slice x.ad M.data.length x.kd) (.slice x.ar M.recs.length x.kr) M.mei M.kind M.level M.more M.next (.slice x.ao M.objects.length x.ko)
theorem qz{m:Md}{w:World}{cs:Array Value}{M:aP}(h:aW m w cs.toList M) : ∃ x,cs=rc M x:=by
  obtain⟨vw,vb,vd,vr,vo,h0,hw,hb,hd,hr,ho,hR⟩:=h
  obtain⟨aw,kw,rfl,_,_⟩:=hw.shape
  obtain⟨ab,kb,rfl,_,_⟩:=hb.shape
  obtain⟨ad,kd,rfl,_,_⟩:=hd.shape
  obtain⟨ar,kr,rfl,_,_⟩:=hr.shape
  obtain⟨ao,ko,rfl,_,_⟩:=ho.shape
  refine⟨⟨aw,kw,ab,kb,ad,kd,ar,kr,ao,ko⟩,?_⟩
  apply Array.toList_inj.1
  rw[h0]
  rfl
open Go.RowKit
structure fO where
  unit:Int
  tid:Int
  msg:aP
def fO.zero:fO:=⟨0,0,aP.zero⟩
def tW (m:Md)(w:World)(cs:Array Value)(F:fO) : Prop:=∃ c:Array Value,cs = #[.int .u8 F.unit,.int .u16 F.tid]++c∧aW m w c.toList F.msg∧B8 F.unit∧dv F.tid
def pD (res:fO × Int)(w:World)(e:Ending)(w':World) : Prop:=∃ cs,e = .returned (.tuple #[.agg cs,.int .i64 res.2])∧tW true w' cs res.1∧aE [] w w'
theorem jn{x y:fO × Int}(h:x=y){w:World}{e:Ending}{w':World}(k:pD y w e w') : pD x w e w':=by rw[h];exact k
def ug:Array Value:=#[.int .u8 0,.int .u16 0,.int .u8 0,.int .u8 0,.int .u16 0,.int .u16 0,.int .u16 0,.int .u16 0,.int .u16 0,.int .u16 0,.int .u16 0,.int .u16 0,.int .u16 0,.int .u16 0,.slice none 0 0,.slice none 0 0,.slice none 0 0,.slice none 0 0,.int .u8 0,.int .u8 0,.int .u8 0,.int .u8 0,.int .u8 0,.slice none 0 0]
theorem gf{x:Int}{w W:World}(hu:aE [] w W) : pD (fO.zero,x) w (.returned (.tuple #[.agg ug,.int .i64 x])) W:=⟨_,rfl,⟨jC,(by kernel_rfl),aW.zero ..,(show(0:Int)≤0∧(0:Int)<256 from by decide),(show(0:Int)≤0∧(0:Int)<65536 from by decide)⟩,hu⟩
def ej (u t:Int) : aP × Int→fO × Int
  | (M,E)=>if E != 0 then (fO.zero,E) else (⟨u,t,M⟩,0)
theorem pn{dir:Int}{M:aP}{l:List Int}(h:dg dir M=some l) : l.length≤253:=by
  unfold dg at h
  split at h
  · split at h
    · cases h
    · unfold jz at h
      split at h
      · cases h
      · split at h
        · cases h
        · injection h with h
          subst h
          simp only[List.length_cons,List.length_nil]
          omega
  · split at h
    · cases h
    · split at h
      · cases h
      · rename_i hl
        injection h with h
        subst h
        simp only[decide_eq_true_eq] at hl
        simp only[List.length_append,List.length_cons,List.length_nil]
        omega
open Go.RowKit
deriving instance DecidableEq for fO
def tg (u t:Int)(M:aP)(x:SL) : Array Value:=#[.int .u8 u,.int .u16 t,.int .u8 M.code,.int .u8 M.fail,.int .u16 M.addr,.int .u16 M.count,.int .u16 M.value,.int .u16 M.and_,.int .u16 M.or_,.int .u16 M.addr2,.int .u16 M.sub,.int .u16 M.status,.int .u16 M.events,.int .u16 M.messages,.slice x.aw M.words.length x.kw,.slice x.ab M.bits.length x.kb,.slice x.ad M.data.length x.kd,.slice x.ar M.recs.length x.kr,.int .u8 M.mei,.int .u8 M.kind,.int .u8 M.level,.int .u8 M.more,.int .u8 M.next,.slice x.ao M.objects.length x.ko]
theorem tv(u t:Int)(M:aP)(x:SL) : tg u t M x = #[.int .u8 u,.int .u16 t]++rc M x:=by kernel_rfl
open Go.RowKit
def ri (b:List Int) : ah:=⟨b,false,0⟩
def rk (b:List Int) : ah:=(ri b).wordsC 1
def pl (b:List Int) : ah:=(rk b).wordsC 1
def pL (b:List Int) : ah:=(pl b).wordsC 1
def qO (b:List Int) : ah:=(pL b).bytesC 1
def lx (b:List Int) : List Int:=(qO b).bytesR (((qO b).l.length:Nat) : Int)
def dx (dir:Int)(b:List Int) : fO × Int :=
  if dir != 0&&dir != 1 then (fO.zero,1)
  else if decide ((b.length:Int)<8) then (fO.zero,2)
  else if decide (260<(b.length:Int)) then (fO.zero,3)
  else if (rk b).wordV != 0 then (fO.zero,13)
  else if (pl b).wordV != (b.length:Int)-6 then (fO.zero,5)
  else ej (pL b).byteV (ri b).wordV (dO dir (lx b))
theorem lQ{m:Md}{A:Option Addr}{cp:Nat}{b:List Int}{w:World}{dir:Int}(hsl:bg m w (.slice A b.length cp) b)(hb:b.length≤1048576) :
    Calls Tryz.prog 32 #[.int .i64 dir,.slice A b.length cp] w (pD (dx dir b) w):=by
 have hln:(b.length:Int)≤1048576:=by omega
 refine en 75 Tryz.func32 rfl<|sg<|L0<|bJ #[.int .u8 0,.int .u16 0,.int .u8 0,.int .u8 0,.int .u16 0,.int .u16 0,.int .u16 0,.int .u16 0,.int .u16 0,.int .u16 0,.int .u16 0,.int .u16 0,.int .u16 0,.int .u16 0,.slice none 0 0,.slice none 0 0,.slice none 0 0,.slice none 0 0,.int .u8 0,.int .u8 0,.int .u8 0,.int .u8 0,.int .u8 0,.slice none 0 0] fun b0 b1 g e i=>Pl 1<|nt<|sq<|bk<|sg<|Pl 3<|cu 3 [17] 20 (((dir != 0)&&(dir != 1))) (fun K N=>?_) ?_
 refine bl 17 ((dir != 0)) (fun o=>?_) (fun o=>?_)
 have Z:=aq o
 exact Pl 3<|ce N (dir != 1) (by rw[o];rfl)
 have Z:=ai o
 exact Pl 3<|ce N false (by rw[o];rfl)
 refine Pl 1<|nt<|cb (((dir != 0)&&(dir != 1))) (fun c=>?_) (fun c=>?_)
 have O:=(aS c).1
 have P:=(aS c).2
 have b2:=aq O
 have b3:=aq P
 refine sg<|Pl 1<|L0<|b6 e #[.int .u8 0,.int .u16 0,.int .u8 0,.int .u8 0,.int .u16 0,.int .u16 0,.int .u16 0,.int .u16 0,.int .u16 0,.int .u16 0,.int .u16 0,.int .u16 0,.int .u16 0,.int .u16 0,.slice none 0 0,.slice none 0 0,.slice none 0 0,.slice none 0 0,.int .u8 0,.int .u8 0,.int .u8 0,.int .u8 0,.int .u8 0,.slice none 0 0] fun b4 a0 a1=>Pl 1<|nt<|rt<|br<|tr<|bF a0 (.int .i64 1)<|?_
 have hs:dx dir b=(fO.zero,1):=by
   unfold dx
   (try simp only[c,O,P,bs,if_true,if_false,decide_true,decide_false,ej,qO,pL,pl,rk,ri,reduceIte])
   all_goals rfl
 refine jn hs ?_
 exact gf (ud i a1 g)
 refine sg<|Pl 4<|nt<|cb ((decide (((b.length:Nat) : Int)<8))) (fun d=>?_) (fun d=>?_)
 have a2:=of_decide_eq_true d
 refine sg<|Pl 1<|L0<|b6 e #[.int .u8 0,.int .u16 0,.int .u8 0,.int .u8 0,.int .u16 0,.int .u16 0,.int .u16 0,.int .u16 0,.int .u16 0,.int .u16 0,.int .u16 0,.int .u16 0,.int .u16 0,.int .u16 0,.slice none 0 0,.slice none 0 0,.slice none 0 0,.slice none 0 0,.int .u8 0,.int .u8 0,.int .u8 0,.int .u8 0,.int .u8 0,.slice none 0 0] fun b5 a3 a4=>Pl 1<|nt<|rt<|br<|tr<|bF a3 (.int .i64 2)<|?_
 have hs:dx dir b=(fO.zero,2):=by
   unfold dx
   (try simp only[c,d,bs,if_true,if_false,decide_true,decide_false,ej,qO,pL,pl,rk,ri,reduceIte])
   all_goals rfl
 refine jn hs ?_
 exact gf (ud i a4 g)
 have a2:=of_decide_eq_false d
 refine sg<|Pl 4<|nt<|cb ((decide (260<((b.length:Nat) : Int)))) (fun f=>?_) (fun f=>?_)
 have a5:=of_decide_eq_true f
 refine sg<|Pl 1<|L0<|b6 e #[.int .u8 0,.int .u16 0,.int .u8 0,.int .u8 0,.int .u16 0,.int .u16 0,.int .u16 0,.int .u16 0,.int .u16 0,.int .u16 0,.int .u16 0,.int .u16 0,.int .u16 0,.int .u16 0,.slice none 0 0,.slice none 0 0,.slice none 0 0,.slice none 0 0,.int .u8 0,.int .u8 0,.int .u8 0,.int .u8 0,.int .u8 0,.slice none 0 0] fun b7 a6 a7=>Pl 1<|nt<|rt<|br<|tr<|bF a6 (.int .i64 3)<|?_
 have hs:dx dir b=(fO.zero,3):=by
   unfold dx
   (try simp only[c,d,f,bs,if_true,if_false,decide_true,decide_false,ej,qO,pL,pl,rk,ri,reduceIte])
   all_goals rfl
 refine jn hs ?_
 exact gf (ud i a7 g)
 have a5:=of_decide_eq_false f
 refine sk<|bn<|tn<|sg<|Pl 1<|?_
 refine L0<|Oc<|e3 (du (bg.old hsl i) (by omega)) fun u b9 p a8 a9=>Pl 1<|ng<|Pl 1<|ng<|Pl 2<|L0<|fB #[] #[] (args:=#[.pointer (some ⟨u,0,none⟩)])<|m3 (bO a8) fun ba aa ac bb=>Pl 2<|L0<|fB #[] #[] (args:=#[.pointer (some ⟨u,0,none⟩)])<|m3 (bO aa) fun bc ad ae bd=>?_
 refine ab ad fun x46 s af=>?_
 refine Pl 2<|L0<|fB #[] #[] (args:=#[.pointer (some ⟨u,0,none⟩)])<|m3 (bO af) fun be ag ak bf=>Pl 3<|nt<|sq<|bk<|sg<|Pl 3<|nt<|?_
 have j:=ud a9 (u1 ac (u1 ae ak im) im) p
 have v:=aI i j
 refine cb (((((ah.mk b false 0).wordsC 1).wordV)!=0)) (fun h=>?_) (fun h=>?_)
 have al:=aq h
 refine sg<|Pl 1<|?_
 refine L0<|b6 (ub j e) #[.int .u8 0,.int .u16 0,.int .u8 0,.int .u8 0,.int .u16 0,.int .u16 0,.int .u16 0,.int .u16 0,.int .u16 0,.int .u16 0,.int .u16 0,.int .u16 0,.int .u16 0,.int .u16 0,.slice none 0 0,.slice none 0 0,.slice none 0 0,.slice none 0 0,.int .u8 0,.int .u8 0,.int .u8 0,.int .u8 0,.int .u8 0,.slice none 0 0] fun bh an ao=>Pl 1<|nt<|rt<|br<|tr<|bF an (.int .i64 13)<|?_
 subst s
 have hs:dx dir b=(fO.zero,13):=by
   unfold dx
   (try simp only[c,d,f,h,bs,if_true,if_false,decide_true,decide_false,ej,qO,pL,pl,rk,ri,reduceIte])
   all_goals rfl
 refine jn hs ?_
 exact gf (ud v ao g)
 have al:=ai h
 refine sg<|Pl 1<|L0<|Oi x46.wordV<|Pl 2<|L0<|Oi (((b.length:Nat) : Int)-6)<|Pl 2<|nt<|cb ((x46.wordV != (((b.length:Nat) : Int)-6))) (fun k=>?_) (fun k=>?_)
 have ap:=aq k
 refine sg<|Pl 1<|?_
 refine L0<|b6 (ub j e) #[.int .u8 0,.int .u16 0,.int .u8 0,.int .u8 0,.int .u16 0,.int .u16 0,.int .u16 0,.int .u16 0,.int .u16 0,.int .u16 0,.int .u16 0,.int .u16 0,.int .u16 0,.int .u16 0,.slice none 0 0,.slice none 0 0,.slice none 0 0,.slice none 0 0,.int .u8 0,.int .u8 0,.int .u8 0,.int .u8 0,.int .u8 0,.slice none 0 0] fun bi ar au=>Pl 1<|nt<|rt<|br<|tr<|bF ar (.int .i64 5)<|?_
 subst s
 have hs:dx dir b=(fO.zero,5):=by
   unfold dx
   (try simp only[c,d,f,h,k,bs,if_true,if_false,decide_true,decide_false,ej,qO,pL,pl,rk,ri,reduceIte])
   all_goals rfl
 refine jn hs ?_
 exact gf (ud v au g)
 have ap:=ai k
 refine sk<|bn<|tn<|sg<|Pl 1<|L0<|Oc<|m3 (bP ag) fun bj t Q bm=>Pl 1<|ng<|Pl 3<|L0<|Oc<|mq (dG t)<|?_
 have bo:=aj.len t
 refine L0<|Oc<|p6 (cw (n:=((((x46.wordsC 1).bytesC 1).l.length:Nat) : Int)) t) fun bp bt av aw bu bv ax R=>?_
 have bw:=Nat.le_trans (ah.bytesR_le ((x46.wordsC 1).bytesC 1) ((((x46.wordsC 1).bytesC 1).l.length:Nat) : Int)) (aj.len t)
 refine ab ax fun x80 S bx=>?_
 obtain⟨a,q,x⟩ : ∃ M E,dO dir (((x46.wordsC 1).bytesC 1).bytesR ((((x46.wordsC 1).bytesC 1).l.length:Nat) : Int))=(M,E):=⟨_,_,rfl⟩
 have T:=oQ (dir:=dir) (w:=av) aw (by omega)
 rw[x] at T
 refine L0<|Oc<|e2 T fun ay bz U V=>?_
 have az:=U
 obtain⟨aA,aC,aD,aE,aF,aH,aJ,aK,aL,aM,aN,bA⟩:=az
 obtain rfl:ay=(bR a aA aC aD aE aF).toArray:=by apply Array.toList_inj.1;simpa using aH
 obtain⟨y,z,rfl,_,_⟩:=aJ.shape
 obtain⟨B,C,rfl,_,_⟩:=aK.shape
 obtain⟨D,F,rfl,_,_⟩:=aL.shape
 obtain⟨G,H,rfl,_,_⟩:=aM.shape
 obtain⟨I,J,rfl,_,_⟩:=aN.shape
 refine Pl 3<|L0<|bJ mZ fun bB bC aO aP aR=>L0<|b6 aP (mG a.code a.fail a.addr a.count a.value a.and_ a.or_ a.addr2 a.sub a.status a.events a.messages (.slice y a.words.length z) (.slice B a.bits.length C) (.slice D a.data.length F) (.slice G a.recs.length H) a.mei a.kind a.level a.more a.next (.slice I a.objects.length J)) fun bD aT aU=>Pl 1<|nt<|sq<|sg<|Pl 2<|nt<|?_
 have W:=ud aR aU aO
 have L:=u1 Q (aI R (aI V W)) im
 have X:=ud v L (le i.size p)
 refine cb ((q != 0)) (fun r=>?_) (fun r=>?_)
 have aV:=aq r
 refine sg<|Pl 2<|?_
 refine L0<|b6 (ub (ud j L p) e) #[.int .u8 0,.int .u16 0,.int .u8 0,.int .u8 0,.int .u16 0,.int .u16 0,.int .u16 0,.int .u16 0,.int .u16 0,.int .u16 0,.int .u16 0,.int .u16 0,.int .u16 0,.int .u16 0,.slice none 0 0,.slice none 0 0,.slice none 0 0,.slice none 0 0,.int .u8 0,.int .u8 0,.int .u8 0,.int .u8 0,.int .u8 0,.slice none 0 0] fun bE aX aY=>Pl 1<|nt<|rt<|tr<|bF aX (.int .i64 q)<|?_
 subst S s
 have hX2:dO dir (lx b)=(a,q):=x
 have hs:dx dir b=(fO.zero,q):=by
   unfold dx
   (try simp only[c,d,f,h,k,r,bs,if_true,if_false,decide_true,decide_false,ej,qO,pL,pl,rk,ri,hX2,reduceIte])
   all_goals rfl
 refine jn hs ?_
 exact gf (ud X aY g)
 have aV:=ai r
 refine bq<|sg<|Pl 3<|L0<|cj aT<|Pl 1<|?_
 refine L0<|b6 (ub (ud j L p) e) #[.int .u8 ((x46.wordsC 1).byteV),.int .u16 ((ah.mk b false 0).wordV),.int .u8 a.code,.int .u8 a.fail,.int .u16 a.addr,.int .u16 a.count,.int .u16 a.value,.int .u16 a.and_,.int .u16 a.or_,.int .u16 a.addr2,.int .u16 a.sub,.int .u16 a.status,.int .u16 a.events,.int .u16 a.messages,.slice y a.words.length z,.slice B a.bits.length C,.slice D a.data.length F,.slice G a.recs.length H,.int .u8 a.mei,.int .u8 a.kind,.int .u8 a.level,.int .u8 a.more,.int .u8 a.next,.slice I a.objects.length J] fun bG aZ Y=>Pl 1<|nt<|rt<|bF aZ (.int .i64 0)<|?_
 subst S s
 have hX2:dO dir (lx b)=(a,q):=x
 have hs:dx dir b=(⟨((((ah.mk b false 0).wordsC 1).wordsC 1).wordsC 1).byteV,(ah.mk b false 0).wordV,a⟩,0):=by
   unfold dx
   (try simp only[c,d,f,h,k,r,bs,if_true,if_false,decide_true,decide_false,ej,qO,pL,pl,rk,ri,hX2,reduceIte])
   all_goals rfl
 refine jn hs ?_
 exact⟨_,rfl,⟨#[.int .u8 a.code,.int .u8 a.fail,.int .u16 a.addr,.int .u16 a.count,.int .u16 a.value,.int .u16 a.and_,.int .u16 a.or_,.int .u16 a.addr2,.int .u16 a.sub,.int .u16 a.status,.int .u16 a.events,.int .u16 a.messages,.slice y a.words.length z,.slice B a.bits.length C,.slice D a.data.length F,.slice G a.recs.length H,.int .u8 a.mei,.int .u8 a.kind,.int .u8 a.level,.int .u8 a.more,.int .u8 a.next,.slice I a.objects.length J],(by as_aux_lemma=>kernel_rfl),(aW.upd U (uz W Y) (am (aQ (ub (ud j (u1 Q (aI R V) im) p) e) (by decide)) aG)),b8 (by omega),aB (by omega)⟩,(ud X Y g)⟩
theorem n8{m:Md}{v:Value}{b:List Int}{w:World}{dir:Int}(h:bg m w v b)(hb:b.length≤1048576) : Calls Tryz.prog 32 #[.int .i64 dir,v] w (pD (dx dir b) w):=by
  obtain⟨A,cp,rfl,_,_⟩:=h.shape
  exact lQ h hb
open Go.RowKit
def kJ (dir u t:Int)(M:aP) : Option (List Int) :=
  match dg dir M with
  | none=>none
  | some l=>some ((b7 [t,0,((l.length:Int)+1)%65536]++[u])++l)
theorem nf{m:Md}{cs:Array Value}{M:aP}{w:World}{dir u t:Int}(h:aW m w cs.toList M)(hf:cU M)(hu:B8 u)(ht:dv t) : Calls Tryz.prog 34 #[.int .i64 dir,.agg (#[.int .u8 u,.int .u16 t]++cs)] w (eD (kJ dir u t M) w):=by
 have hM:=h
 obtain⟨hu1,hu2⟩:=hu
 obtain⟨ht1,ht2⟩:=ht
 obtain⟨vw,vb,vd,vr,vo,h0,hw,hbt,hd,hr,ho,hR⟩:=h
 obtain rfl:cs=(bR M vw vb vd vr vo).toArray:=by apply Array.toList_inj.1;simpa using h0
 clear h0
 obtain⟨Aw,kw,rfl,_,_⟩:=hw.shape
 obtain⟨Ab,kb,rfl,_,_⟩:=hbt.shape
 obtain⟨Ad,kd,rfl,_,_⟩:=hd.shape
 obtain⟨Ar,kr,rfl,_,_⟩:=hr.shape
 obtain⟨Ao,ko,rfl,_,_⟩:=ho.shape
 obtain⟨q0,q1,q2,q3,q4,q5,q6,q7,q8,q9,r,s,v,y,z,A,B⟩:=hR
 simp only[B8,dv] at q0 q1 q2 q3 q4 q5 q6 q7 q8 q9 r s v y z A B
 refine en 35 Tryz.func34 rfl<|sg<|L0<|dt #[.int .u8 u,.int .u16 t,.int .u8 M.code,.int .u8 M.fail,.int .u16 M.addr,.int .u16 M.count,.int .u16 M.value,.int .u16 M.and_,.int .u16 M.or_,.int .u16 M.addr2,.int .u16 M.sub,.int .u16 M.status,.int .u16 M.events,.int .u16 M.messages,.slice Aw M.words.length kw,.slice Ab M.bits.length kb,.slice Ad M.data.length kd,.slice Ar M.recs.length kr,.int .u8 M.mei,.int .u8 M.kind,.int .u8 M.level,.int .u8 M.more,.int .u8 M.next,.slice Ao M.objects.length ko] fun Q R S g a=>Pl 2<|ng<|Pl 2<|L0<|tH g 2 22<|?_
 rcases hwr:dg dir M with _|lw
 have i:=jZ (dir:=dir) (aW.old hM a) hf
 rw[hwr] at i
 refine L0<|Oc<|m1 i fun T C=>Pl 5<|nt<|sq<|sg<|Pl 2<|nt<|c1<|sg<|Pl 2<|nl<|?_
 refine tn<|rt<|tr<|rr (.tuple #[.slice none 0 0,.int .i64 1])<|?_
 have hs:kJ dir u t M=none:=by
   unfold kJ
   (try simp only[hwr])
   all_goals rfl
 refine dD hs ?_
 exact⟨rfl,(aI a C)⟩
 have hlw:=pn hwr
 have j:=jZ (dir:=dir) (aW.old hM a) hf
 rw[hwr] at j
 refine L0<|Oc<|ea j fun U V W D X Y d=>Pl 5<|nt<|sq<|sg<|Pl 2<|nt<|c0<|bq<|sq<|?_
 refine go<|Pl 2<|?_
 have k:=ub d g
 refine L0<|aR k 1<|Pl 2<|L0<|Oi (((lw.length:Nat) : Int)+1)<|Pl 1<|L0<|dy (m:=3) (e:=24) #[.int .u16 t,.int .u16 0,.int .u16 ((((lw.length:Nat) : Int)+1)%65536)] fun Z a0 E F b=>?_
 have G:=dV E (xs:=[t,0,((((lw.length:Nat) : Int)+1)%65536)]) (by as_aux_lemma=>kernel_rfl) (az (by omega) (az (by omega) (az (by omega) aZ))) (by(try simp only[List.length_cons,List.length_nil]);omega) F
 refine L0<|Oc<|ea (bB (xs:=[t,0,((((lw.length:Nat) : Int)+1)%65536)]) (G).rd (by(try simp only[List.length_cons,List.length_nil]);omega)) fun H a1 a2 l a3 a4 f=>Pl 1<|ng<|Pl 3<|?_
 have n:=aI b f
 refine L0<|aR (ub n k) 0<|L0<|dy (m:=1) (e:=5) #[.int .u8 u] fun a5 a6 I J c=>?_
 have K:=dP I (xs:=[u]) (by as_aux_lemma=>kernel_rfl) (az (by omega) aZ) (by(try simp only[List.length_cons,List.length_nil]);omega) J
 refine L0<|cM bv (xs:=(b7 ([t,0,((((lw.length:Nat) : Int)+1)%65536)]))) (ys:=([u])) (.int .u8 0) 1 (ax l c (fun x hx=>ay) (fun _ _ h=>h)) (K).rd (by(try simp only[List.length_append,List.length_cons,List.length_nil,aC]);omega) (le f.size c.size) fun a7 a8 a9 o p=>Pl 1<|?_
 have q:=ut n (ut (aE.mono (S':=(ob H++[])) c au) p (av il au)) (av (aU l b.size) au)
 refine L0<|cM bv (xs:=((b7 ([t,0,((((lw.length:Nat) : Int)+1)%65536)]))++[u])) (ys:=lw) (.int .u8 0) 1 o ((ax D q (fun x hx=>ay) (fun _ _ h=>h))).rd (by(try simp only[List.length_append,List.length_cons,List.length_nil,aC]);omega) (le (le f.size c.size) p.size) fun L N aa O P=>Pl 2<|nt<|rt<|rr (.tuple #[.slice L ((((b7 ([t,0,((((lw.length:Nat) : Int)+1)%65536)]))++[u])++lw).length) N,.int .i64 0])<|?_
 have hs:kJ dir u t M=(some (((b7 ([t,0,((((lw.length:Nat) : Int)+1)%65536)]))++[u])++lw)):=by
   unfold kJ
   (try simp only[hwr])
   all_goals rfl
 refine dD hs ?_
 exact⟨_,rfl,(be.weaken O (le (le a.size d.size) b.size)),(aI a (aI d (ut q P (av (aU o b.size) au))))⟩
open Go.RowKit
theorem gQ{m:Md}{v:Value}{b:List Int}{w:World}{dir:Int}{F:fO}{E:Int}(hX:dx dir b=(F,E))(h:bg m w v b)(hb:b.length≤1048576) : Calls Tryz.prog 32 #[.int .i64 dir,v] w (fun e w'=>∃ x,e = .returned (.tuple #[.agg (tg F.unit F.tid F.msg x),.int .i64 E])∧(aW true w' (rc F.msg x).toList F.msg∧(0≤F.unit∧F.unit<256)∧(0≤F.tid∧F.tid<65536))∧aE [] w w'):=by
  refine(n8 h hb).mono ?_
  rintro e w' ⟨cs,rfl,h1,h2⟩
  rw[hX] at h1 ⊢
  obtain⟨c,rfl,h3,h4,h5⟩:=h1
  obtain⟨x,rfl⟩:=qz h3
  exact⟨x,by rw[tv],⟨h3,h4,h5⟩,h2⟩
open Go.RowKit
theorem pI(a b c d:Int)(w:World) : (Op.equalIn 10000 42 (.agg #[.int .u8 a,.int .u16 b]) (.agg #[.int .u8 c,.int .u16 d])).run Tryz.prog w = .ok ((a==c)&&(b==d)) w:=by
  have hS:Tryz.prog.underlying 42=some (.struct (Tryz.prog.fieldsOf 42)):=by kernel_rfl
  have hp:Tryz.prog.stoodInHeld 42=false:=by kernel_rfl
  rw[show(10000:Nat)=9998+1+1 from rfl,run_equalIn_agg w (9998+1) 42 _ _ hS hp]
  simp only[Program.fieldsOf,Tryz.underlying42]
  have p0:∀ v:Int,(part 5 #[.int .u8 v,.int .u16 b] 0).run Tryz.prog w = .ok (.int .u8 v) w:=fun v=>by simp[part,isAgg,run_underlying Tryz.underlying5,Result.andThen]
  have p0':∀ v:Int,(part 5 #[.int .u8 v,.int .u16 d] 0).run Tryz.prog w = .ok (.int .u8 v) w:=fun v=>by simp[part,isAgg,run_underlying Tryz.underlying5,Result.andThen]
  have p1:∀ v u:Int,(part 24 #[.int .u8 u,.int .u16 v] 1).run Tryz.prog w = .ok (.int .u16 v) w:=fun v u=>by simp[part,isAgg,run_underlying Tryz.underlying24,Result.andThen]
  have e0:=run_equalIn_int (P:=Tryz.prog) w 9998 5 .u8 _ a c Tryz.underlying5
  have e1:=run_equalIn_int (P:=Tryz.prog) w 9998 24 .u16 _ b d Tryz.underlying24
  simp only[Op.eqFields,Sem.run_bind,p0,p0',p1,e0,e1,Result.andThen_ok,ne_eq,String.reduceEq,not_false_eq_true,if_true,Sem.run_ite]
  cases (a==c)<;>cases (b==d)<;>simp
theorem iS{ev:Operand→Value}{o:Oper}{x y:Operand}{t:TypeId}(a b c d:Int){v:Bool}{w:World}(ho:o.op = .binOp .eql 42 x y t)
    (hx:ev x = .agg #[.int .u8 a,.int .u16 b]) (hy:ev y = .agg #[.int .u8 c,.int .u16 d]) (hv:((a==c)&&(b==d))=v) : (execOp ev o).run Tryz.prog w = .ok (.value (.bool v)) w:=by
  subst hv
  have hg:(eqGuard .eql 42 x y (.agg #[.int .u8 a,.int .u16 b]) (.agg #[.int .u8 c,.int .u16 d])).run Tryz.prog w = .ok () w:=run_eqGuard_agg w _ _ _ _ _ _ (by kernel_rfl)
  unfold execOp
  simp only[ho,hx,hy,Sem.run_bind,hg,Result.andThen_ok,run_eql_struct,pI,Sem.run_pure]
open Go.RowKit
def l0:aP:={ aP.zero with code:=7 }
theorem tO(w:World) : aW true w (mC 7).toList l0:=⟨f9,f9,f9,f9,f9,rfl,aK.nil ..,aK.nil ..,aK.nil ..,aK.nil ..,aK.nil ..,{ eI.zero with code:=(by decide:(0:Int)≤7∧(7:Int)<256) }⟩
theorem sR:cU l0:=⟨by decide,by decide,by decide,by decide,(fun r h=>nomatch h),by decide,(fun r h=>nomatch h)⟩
theorem ul:kJ 0 1 9 l0=some [0,9,0,0,0,2,1,7]:=by decide +kernel
theorem u2:dx 0 [0,9,0,0,0,2,1,7]=(⟨1,9,l0⟩,0):=by decide +kernel
theorem u5{w:World}:Calls Tryz.prog 34 #[.int .i64 0,.agg #[.int .u8 1,.int .u16 9,.int .u8 7,.int .u8 0,.int .u16 0,.int .u16 0,.int .u16 0,.int .u16 0,.int .u16 0,.int .u16 0,.int .u16 0,.int .u16 0,.int .u16 0,.int .u16 0,.slice none 0 0,.slice none 0 0,.slice none 0 0,.slice none 0 0,.int .u8 0,.int .u8 0,.int .u8 0,.int .u8 0,.int .u8 0,.slice none 0 0]] w (fun e w'=>∃ v,e = .returned (.tuple #[v,.int .i64 0])∧fh w.heap.size w' v [0,9,0,0,0,2,1,7]∧aE [] w w'):=by
  have h:=nf (dir:=0) (u:=1) (t:=9) (tO w) sR (show(0:Int)≤1∧(1:Int)<256 from by decide) (show(0:Int)≤9∧(9:Int)<65536 from by decide)
  rw[ul] at h
  rw[show #[.int .u8 1,.int .u16 9,.int .u8 7,.int .u8 0,.int .u16 0,.int .u16 0,.int .u16 0,.int .u16 0,.int .u16 0,.int .u16 0,.int .u16 0,.int .u16 0,.int .u16 0,.int .u16 0,.slice none 0 0,.slice none 0 0,.slice none 0 0,.slice none 0 0,.int .u8 0,.int .u8 0,.int .u8 0,.int .u8 0,.int .u8 0,.slice none 0 0] = #[.int .u8 1,.int .u16 9]++mC 7 from by kernel_rfl]
  exact h
theorem s5{w:World}:Calls Tryz.prog 31 #[] w (dh (.bool true) w):=by
 refine en 40 Tryz.func31 rfl<|sg<|Pl 1<|ng<|Pl 3<|L0<|Oc<|ea (@u5 w) fun l m r e s t o=>Pl 5<|nt<|sq<|?_
 refine go<|Pl 1<|L0<|Oc<|e2 (gQ u2 (e).rd (by decide)) fun x19 u p d=>?_
 obtain⟨v,y,z⟩:=p
 refine Pl 3<|L0<|bJ #[.int .u8 0,.int .u16 0,.int .u8 0,.int .u8 0,.int .u16 0,.int .u16 0,.int .u16 0,.int .u16 0,.int .u16 0,.int .u16 0,.int .u16 0,.int .u16 0,.int .u16 0,.int .u16 0,.slice none 0 0,.slice none 0 0,.slice none 0 0,.slice none 0 0,.int .u8 0,.int .u8 0,.int .u8 0,.int .u8 0,.int .u8 0,.slice none 0 0] fun B C f q g=>L0<|b6 q #[.int .u8 1,.int .u16 9,.int .u8 7,.int .u8 0,.int .u16 0,.int .u16 0,.int .u16 0,.int .u16 0,.int .u16 0,.int .u16 0,.int .u16 0,.int .u16 0,.int .u16 0,.int .u16 0,.slice x19.aw l0.words.length x19.kw,.slice x19.ab l0.bits.length x19.kb,.slice x19.ad l0.data.length x19.kd,.slice x19.ar l0.recs.length x19.kr,.int .u8 0,.int .u8 0,.int .u8 0,.int .u8 0,.int .u8 0,.slice x19.ao l0.objects.length x19.ko] fun D i j=>Pl 1<|ng<|Pl 8<|?_
 refine L1<|lB (.string (strOfNums ([0,9,0,0,0,2,1,7]))) (ek (A:=l) (n:=[0,9,0,0,0,2,1,7].length) (c:=m) rfl (by kernel_rfl) Tryz.underlying22 Tryz.underlying5 Tryz.underlying9 ((ax e (u1 (aI d g) j (ni d.size f)) (fun x hx=>ay) (fun _ _ h=>h))).rd)<|L1<|lB (.bool true) (iL (a:=(strOfNums ([0,9,0,0,0,2,1,7]))) (b:=⟨#[0,9,0,0,0,2,1,7]⟩) rfl (by kernel_rfl) (by kernel_rfl) (sf rfl (by decide)))<|Pl 3<|L1<|tH i 0 2<|Pl 1<|L1<|lB (.bool true) (iS 1 9 1 9 rfl (by kernel_rfl) (by kernel_rfl) (by decide))<|Pl 4<|L1<|aR i 2<|Pl 3<|nt<|rt<|rr (.bool true)<|?_
 have k:=aI o d
 exact⟨rfl,(u1 (aI k g) j (ni k.size f))⟩
open Go.RowKit
theorem nB{m m':Md}{A B:Option Addr}{c d:Nat}{xs ys:List Int}{w:World}(h1:bg m w (.slice A xs.length c) xs)(h2:bg m' w (.slice B ys.length d) ys) :
    Calls Tryz.prog 30 #[.slice A xs.length c,.slice B ys.length d] w (dh (.bool (decide (xs=ys))) w):=by
 refine en 10 Tryz.func30 rfl<|sg<|Pl 1<|ng<|Pl 1<|L0<|lB (.string (strOfNums xs)) (ek (A:=A) (n:=xs.length) (c:=c) rfl (by kernel_rfl) Tryz.underlying22 Tryz.underlying5 Tryz.underlying9 h1)<|Pl 1<|L0<|lB (.string (strOfNums ys)) (ek (A:=B) (n:=ys.length) (c:=d) rfl (by kernel_rfl) Tryz.underlying22 Tryz.underlying5 Tryz.underlying9 h2)<|L0<|lB (.bool (decide (xs=ys))) (iL (a:=(strOfNums xs)) (b:=(strOfNums ys)) rfl (by kernel_rfl) (by kernel_rfl) (mX h1 h2))<|Pl 1<|nl<|?_
 refine tn<|rt<|rr (.bool (decide (xs=ys)))<|?_
 exact⟨rfl,(aE.refl [] _)⟩
theorem km{m m':Md}{a b:Value}{xs ys:List Int}{w:World}(h1:bg m w a xs)(h2:bg m' w b ys) : Calls Tryz.prog 30 #[a,b] w (dh (.bool (decide (xs=ys))) w):=by
  obtain⟨A,c,rfl,_,_⟩:=h1.shape
  obtain⟨B,d,rfl,_,_⟩:=h2.shape
  exact nB h1 h2
open Go.RowKit
theorem fF{α:Type}{xs ys:List α}{k:Nat}(h:xs.take k=ys.take k)(h1:k=xs.length)(h2:xs.length=ys.length) : xs=ys:=by
  rw[List.take_of_length_le (by omega),List.take_of_length_le (by omega)] at h
  exact h
theorem jX{m m':Md}{A B:Option Addr}{c d:Nat}{xs ys:List Int}{w:World}(h1:dJ m w (.slice A xs.length c) xs)(h2:dJ m' w (.slice B ys.length d) ys) :
    Calls Tryz.prog 98 #[.slice A xs.length c,.slice B ys.length d] w (dh (.bool (decide (xs=ys))) w):=by
 have hz1:=aK.len h1
 have hz2:=aK.len h2
 refine en 26 Tryz.func98 rfl<|sg<|Pl 1<|nt<|sq<|sg<|Pl 5<|nt<|cb ((((xs.length:Nat) : Int)!=((ys.length:Nat) : Int))) (fun g=>?_) (fun g=>?_)
 have j:=aq g
 refine sg<|Pl 1<|nt<|rt<|tr<|rr (.bool false)<|?_
 have hs:decide (xs=ys)=false:=decide_eq_false (fun e=>by rw[e] at j;omega)
 rw[hs]
 exact⟨rfl,(aE.refl [] _)⟩
 have j:=ai g
 refine bq<|sq<|sg<|Pl 1<|nt<|bk<|?_
 refine jw (fun x=>[(0,.slice A xs.length c),(1,.slice B ys.length d),(5,.int .i64 ((x:Nat) : Int))]) (fun(x:Nat) w'=>aE [] w w'∧(xs.take x=ys.take x)∧(x≤xs.length)) (fun x=>xs.length-x) 0 ⟨aE.refl _ _,(by(try dsimp only);simp),(by(try dsimp only);omega)⟩ ?_
 rintro k E ⟨b,p,q⟩
 refine jr [(0,.slice A xs.length c),(1,.slice B ys.length d),(5,.int .i64 ((k:Nat) : Int))] ?_
 have l:xs.take k=ys.take k:=p
 have F:k≤xs.length:=q
 refine sq<|sg<|Pl 4<|nt<|cb ((decide (((k:Nat) : Int)<((xs.length:Nat) : Int)))) (fun h=>?_) (fun h=>?_)
 have r:=of_decide_eq_true h
 refine bq<|sq<|bk<|sq<|?_
 refine fl (dJ.at_ (dJ.old h1 b) k (by omega)) fun s t u v G=>?_
 refine fl (dJ.at_ (dJ.old h2 b) k (by omega)) fun y z C D H=>Rg 9 (fun w'=>w'.cell? ⟨s,t+k,none⟩=some (.int .u16 (xs.getD k 0))∧w'.cell? ⟨y,z+k,none⟩=some (.int .u16 (ys.getD k 0))) fun I i=>bh ⟨(uc i v),(uc i D)⟩ fun a=>Rt 0 a<|Rt 1 a<|lz 2 a xs.length k ((k:Nat) : Int) rfl u (by omega)<|Rl 3 a (fun _ hs=>hs.1)<|Rt 4 a<|Rt 5 a<|lz 6 a ys.length k ((k:Nat) : Int) rfl C (by omega)<|Rl 7 a (fun _ hs=>hs.2)<|Rt 8 a<|re<|tn<|?_
 have n:=aI b i
 refine cb (((xs.getD k 0)!=(ys.getD k 0))) (fun f=>?_) (fun f=>?_)
 have o:=aq f
 refine sg<|Pl 1<|nt<|rt<|br<|tr<|tr<|br<|tr<|rr (.bool false)<|?_
 have hs:decide (xs=ys)=false:=decide_eq_false (pa (d:=0) k (by simpa using f))
 rw[hs]
 exact⟨rfl,n⟩
 have o:=ai f
 exact sk<|bn<|tn<|go<|Pl 1<|L0<|Oi (((k:Nat) : Int)+1)<|Pl 1<|nl<|gt (k+1) ⟨n,(kk (d:=0) (by omega) (by omega) l o),(by(try dsimp only);omega)⟩ (by omega)
 have r:=of_decide_eq_false h
 refine xt<|tx<|tx<|bx<|tn<|sg<|Pl 1<|nt<|rt<|rr (.bool true)<|?_
 have hs:decide (xs=ys)=true:=decide_eq_true (fF l (by omega) (by omega))
 rw[hs]
 exact⟨rfl,b⟩
theorem gX{m m':Md}{a b:Value}{xs ys:List Int}{w:World}(h1:dJ m w a xs)(h2:dJ m' w b ys) : Calls Tryz.prog 98 #[a,b] w (dh (.bool (decide (xs=ys))) w):=by
  obtain⟨A,c,rfl,_,_⟩:=h1.shape
  obtain⟨B,d,rfl,_,_⟩:=h2.shape
  exact jX h1 h2
theorem jS{m m':Md}{A B:Option Addr}{c d:Nat}{xs ys:List Bool}{w:World}(h1:g8 m w (.slice A xs.length c) xs)(h2:g8 m' w (.slice B ys.length d) ys) :
    Calls Tryz.prog 99 #[.slice A xs.length c,.slice B ys.length d] w (dh (.bool (decide (xs=ys))) w):=by
 have hz1:=aK.len h1
 have hz2:=aK.len h2
 refine en 26 Tryz.func99 rfl<|sg<|Pl 1<|nt<|sq<|sg<|Pl 5<|nt<|cb ((((xs.length:Nat) : Int)!=((ys.length:Nat) : Int))) (fun f=>?_) (fun f=>?_)
 have j:=aq f
 refine sg<|Pl 1<|nt<|rt<|tr<|rr (.bool false)<|?_
 have hs:decide (xs=ys)=false:=decide_eq_false (fun e=>by rw[e] at j;omega)
 rw[hs]
 exact⟨rfl,(aE.refl [] _)⟩
 have j:=ai f
 refine bq<|sq<|sg<|Pl 1<|nt<|bk<|?_
 refine jw (fun x=>[(0,.slice A xs.length c),(1,.slice B ys.length d),(5,.int .i64 ((x:Nat) : Int))]) (fun(x:Nat) w'=>aE [] w w'∧(xs.take x=ys.take x)∧(x≤xs.length)) (fun x=>xs.length-x) 0 ⟨aE.refl _ _,(by(try dsimp only);simp),(by(try dsimp only);omega)⟩ ?_
 rintro k D ⟨b,o,p⟩
 refine jr [(0,.slice A xs.length c),(1,.slice B ys.length d),(5,.int .i64 ((k:Nat) : Int))] ?_
 have l:xs.take k=ys.take k:=o
 have E:k≤xs.length:=p
 refine sq<|sg<|Pl 4<|nt<|cb ((decide (((k:Nat) : Int)<((xs.length:Nat) : Int)))) (fun g=>?_) (fun g=>?_)
 have q:=of_decide_eq_true g
 refine bq<|sq<|bk<|sq<|?_
 refine uZ (g8.at_ (g8.old h1 b) k (by omega)) fun r s t u=>?_
 refine uZ (g8.at_ (g8.old h2 b) k (by omega)) fun v y z C=>Rg 9 (fun w'=>w'.cell? ⟨r,s+k,none⟩=some (.bool (xs.getD k false))∧w'.cell? ⟨v,y+k,none⟩=some (.bool (ys.getD k false))) fun F h=>bh ⟨(uc h u),(uc h C)⟩ fun a=>Rt 0 a<|Rt 1 a<|lz 2 a xs.length k ((k:Nat) : Int) rfl t (by omega)<|Rl 3 a (fun _ hs=>hs.1)<|Rt 4 a<|Rt 5 a<|lz 6 a ys.length k ((k:Nat) : Int) rfl z (by omega)<|Rl 7 a (fun _ hs=>hs.2)<|Rt 8 a<|re<|tn<|?_
 have n:=aI b h
 refine cb (((xs.getD k false)!=(ys.getD k false))) (fun i=>?_) (fun i=>?_)
 refine sg<|Pl 1<|nt<|rt<|br<|tr<|tr<|br<|tr<|rr (.bool false)<|?_
 have hs:decide (xs=ys)=false:=decide_eq_false (pa (d:=false) k (by simpa using i))
 rw[hs]
 exact⟨rfl,n⟩
 exact sk<|bn<|tn<|go<|Pl 1<|L0<|Oi (((k:Nat) : Int)+1)<|Pl 1<|nl<|gt (k+1) ⟨n,(kk (d:=false) (by omega) (by omega) l (by simpa using i)),(by(try dsimp only);omega)⟩ (by omega)
 have q:=of_decide_eq_false g
 refine xt<|tx<|tx<|bx<|tn<|sg<|Pl 1<|nt<|rt<|rr (.bool true)<|?_
 have hs:decide (xs=ys)=true:=decide_eq_true (fF l (by omega) (by omega))
 rw[hs]
 exact⟨rfl,b⟩
theorem lg{m m':Md}{a b:Value}{xs ys:List Bool}{w:World}(h1:g8 m w a xs)(h2:g8 m' w b ys) : Calls Tryz.prog 99 #[a,b] w (dh (.bool (decide (xs=ys))) w):=by
  obtain⟨A,c,rfl,_,_⟩:=h1.shape
  obtain⟨B,d,rfl,_,_⟩:=h2.shape
  exact jS h1 h2
open Go.RowKit
theorem nY{α:Type}{xs ys:List α}{d:α}{k:Nat}(h:xs.take k=ys.take k)(hk:k<xs.length)(hl:xs.length=ys.length)(he:xs.getD k d=ys.getD k d) : xs.take (k+1)=ys.take (k+1):=by
  have hk2:k<ys.length:=by omega
  rw[List.take_succ_eq_append_getElem hk,List.take_succ_eq_append_getElem hk2,h]
  rw[List.getD_eq_getElem?_getD,List.getElem?_eq_getElem hk,List.getD_eq_getElem?_getD,List.getElem?_eq_getElem (by omega)] at he
  simp only[Option.getD_some] at he
  rw[he]
theorem sP{a b:de}(h:((((!(decide (a.words=b.words)))||(a.file != b.file))||(a.record != b.record))||(a.count != b.count))=false) : a=b:=by
  cases a
  cases b
  simp at h
  simp[h]
theorem tc{a b:Obj}(h:((!(decide (a.value=b.value)))||(a.id != b.id))=false) : a=b:=by
  cases a
  cases b
  simp at h
  simp[h]
theorem ro{a b:Obj}(h:(!(decide (a.value=b.value)))=false)(h2:(a.id != b.id)=false) : a=b:=tc (by rw[h,h2];rfl)
theorem kP{A B:aP}{f:aP→aP→Bool}(h:f A B=true)(hf:∀ M,f M M=false) : decide (A=B)=false:=decide_eq_false fun e=>by rw[e,hf] at h;cases h
theorem sb{A B:aP}(h1:((((((((((((A.code != B.code)||(A.fail != B.fail))||(A.addr != B.addr))||(A.count != B.count))||(A.value != B.value))||(A.and_ != B.and_))||(A.or_ != B.or_))||(A.addr2 != B.addr2))||(A.sub != B.sub))||(A.status != B.status))||(A.events != B.events))||(A.messages != B.messages))=false)(h2:(((((A.mei != B.mei)||(A.kind != B.kind))||(A.level != B.level))||(A.more != B.more))||(A.next != B.next))=false)(h3:(((((!(decide (A.words=B.words)))||(!(decide (A.bits=B.bits))))||(!(decide (A.data=B.data))))||(((A.recs.length:Nat) : Int)!=((B.recs.length:Nat) : Int)))||(((A.objects.length:Nat) : Int)!=((B.objects.length:Nat) : Int)))=false)(hr:A.recs.length=B.recs.length→A.recs=B.recs)(ho:A.objects.length=B.objects.length→A.objects=B.objects) : A=B:=by
  cases A
  cases B
  simp only[Bool.or_eq_false_iff,bne_eq_false_iff_eq,Bool.not_eq_false',decide_eq_true_eq] at h1 h2 h3
  simp only at hr ho
  obtain⟨⟨⟨⟨⟨⟨⟨⟨⟨⟨⟨a1,a2⟩,a3⟩,a4⟩,a5⟩,a6⟩,a7⟩,a8⟩,a9⟩,a⟩,b⟩,c⟩:=h1
  obtain⟨⟨⟨⟨b1,b2⟩,b3⟩,b4⟩,b5⟩:=h2
  obtain⟨⟨⟨⟨d1,d2⟩,d3⟩,d4⟩,d5⟩:=h3
  have d4:=hr (by omega)
  have d5:=ho (by omega)
  subst a1 a2 a3 a4 a5 a6 a7 a8 a9 a b c b1 b2 b3 b4 b5 d1 d2 d3 d4 d5
  rfl
theorem oo{m m':Md}{pc qc:Array Value}{A B:aP}{w:World}(ha:aW m w pc.toList A)(hb:aW m' w qc.toList B) :
    Calls Tryz.prog 26 #[.agg pc,.agg qc] w (dh (.bool (decide (A=B))) w):=by
 have pM:=ha
 obtain⟨pvw,pvb,pvd,pvr,pvo,ph0,phw,phb,phd,phr,pho,pR⟩:=ha
 obtain rfl:pc=(bR A pvw pvb pvd pvr pvo).toArray:=by apply Array.toList_inj.1;simpa using ph0
 clear ph0
 obtain⟨pw,pkw,rfl,_,_⟩:=phw.shape
 obtain⟨pb,pkb,rfl,_,_⟩:=phb.shape
 obtain⟨pd,pkd,rfl,_,_⟩:=phd.shape
 obtain⟨pr,pkr,rfl,_,_⟩:=phr.shape
 obtain⟨po,pko,rfl,_,_⟩:=pho.shape
 have qM:=hb
 obtain⟨qvw,qvb,qvd,qvr,qvo,qh0,qhw,qhb,qhd,qhr,qho,qR⟩:=hb
 obtain rfl:qc=(bR B qvw qvb qvd qvr qvo).toArray:=by apply Array.toList_inj.1;simpa using qh0
 clear qh0
 obtain⟨qw,qkw,rfl,_,_⟩:=qhw.shape
 obtain⟨qb,qkb,rfl,_,_⟩:=qhb.shape
 obtain⟨qd,qkd,rfl,_,_⟩:=qhd.shape
 obtain⟨qr,qkr,rfl,_,_⟩:=qhr.shape
 obtain⟨qo,qko,rfl,_,_⟩:=qho.shape
 have hz1:=aK.len phr
 have hz2:=aK.len pho
 refine en 254 Tryz.func26 rfl<|sg<|L0<|dt (mG A.code A.fail A.addr A.count A.value A.and_ A.or_ A.addr2 A.sub A.status A.events A.messages (.slice pw A.words.length pkw) (.slice pb A.bits.length pkb) (.slice pd A.data.length pkd) (.slice pr A.recs.length pkr) A.mei A.kind A.level A.more A.next (.slice po A.objects.length pko)) fun i dK dL cf cg=>L0<|dt (mG B.code B.fail B.addr B.count B.value B.and_ B.or_ B.addr2 B.sub B.status B.events B.messages (.slice qw B.words.length qkw) (.slice qb B.bits.length qkb) (.slice qd B.data.length qkd) (.slice qr B.recs.length qkr) B.mei B.kind B.level B.more B.next (.slice qo B.objects.length qko)) fun l dM dN b az=>Pl 1<|nt<|sq<|sg<|Pl 1<|?_
 have c:=ub az cf
 refine L0<|aR c 0<|Pl 1<|L0<|aR b 0<|Pl 2<|cu 6 [19] 25 (((A.code != B.code)||(A.fail != B.fail))) (fun K aA=>?_) ?_
 refine bl 19 ((A.code != B.code)) (fun q=>?_) (fun q=>?_)
 have ch:=aq q
 exact Pl 6<|ce aA true (by rw[q];rfl)
 have ch:=ai q
 exact Pl 1<|L1<|aR c 1<|Pl 1<|L1<|aR b 1<|Pl 2<|ce aA (A.fail != B.fail) (by rw[q];rfl)
 refine Pl 1<|cu 6 [26] 32 ((((A.code != B.code)||(A.fail != B.fail))||(A.addr != B.addr))) (fun K aB=>?_) ?_
 refine bl 26 (((A.code != B.code)||(A.fail != B.fail))) (fun r=>?_) (fun r=>?_)
 exact Pl 6<|ce aB true (by rw[r];rfl)
 have ci:=(aJ r).1
 have cj:=(aJ r).2
 have dO:=ai ci
 have dP:=ai cj
 exact Pl 1<|L1<|aR c 2<|Pl 1<|L1<|aR b 2<|Pl 2<|ce aB (A.addr != B.addr) (by rw[r];rfl)
 refine Pl 1<|cu 6 [33] 39 (((((A.code != B.code)||(A.fail != B.fail))||(A.addr != B.addr))||(A.count != B.count))) (fun K aC=>?_) ?_
 refine bl 33 ((((A.code != B.code)||(A.fail != B.fail))||(A.addr != B.addr))) (fun s=>?_) (fun s=>?_)
 exact Pl 6<|ce aC true (by rw[s];rfl)
 have aD:=(aJ s).1
 have ck:=(aJ s).2
 have cl:=(aJ aD).1
 have cm:=(aJ aD).2
 have q25aap:=ai cl
 have q25abp:=ai cm
 have dQ:=ai ck
 exact Pl 1<|L1<|aR c 3<|Pl 1<|L1<|aR b 3<|Pl 2<|ce aC (A.count != B.count) (by rw[s];rfl)
 refine Pl 1<|cu 6 [40] 46 ((((((A.code != B.code)||(A.fail != B.fail))||(A.addr != B.addr))||(A.count != B.count))||(A.value != B.value))) (fun K aF=>?_) ?_
 refine bl 40 (((((A.code != B.code)||(A.fail != B.fail))||(A.addr != B.addr))||(A.count != B.count))) (fun t=>?_) (fun t=>?_)
 exact Pl 6<|ce aF true (by rw[t];rfl)
 have aG:=(aJ t).1
 have cn:=(aJ t).2
 have aH:=(aJ aG).1
 have co:=(aJ aG).2
 have q27aaa:=(aJ aH).1
 have q27aab:=(aJ aH).2
 have q27aaap:=ai q27aaa
 have q27aabp:=ai q27aab
 have q27abp:=ai co
 have dR:=ai cn
 exact Pl 1<|L1<|aR c 4<|Pl 1<|L1<|aR b 4<|Pl 2<|ce aF (A.value != B.value) (by rw[t];rfl)
 refine Pl 1<|cu 6 [47] 53 (((((((A.code != B.code)||(A.fail != B.fail))||(A.addr != B.addr))||(A.count != B.count))||(A.value != B.value))||(A.and_ != B.and_))) (fun K aL=>?_) ?_
 refine bl 47 ((((((A.code != B.code)||(A.fail != B.fail))||(A.addr != B.addr))||(A.count != B.count))||(A.value != B.value))) (fun u=>?_) (fun u=>?_)
 exact Pl 6<|ce aL true (by rw[u];rfl)
 have aM:=(aJ u).1
 have cp:=(aJ u).2
 have aN:=(aJ aM).1
 have cq:=(aJ aM).2
 have q29aaa:=(aJ aN).1
 have q29aab:=(aJ aN).2
 have q29aaaa:=(aJ q29aaa).1
 have q29aaab:=(aJ q29aaa).2
 have q29aaaap:=ai q29aaaa
 have q29aaabp:=ai q29aaab
 have q29aabp:=ai q29aab
 have q29abp:=ai cq
 have dS:=ai cp
 exact Pl 1<|L1<|aR c 5<|Pl 1<|L1<|aR b 5<|Pl 2<|ce aL (A.and_ != B.and_) (by rw[u];rfl)
 refine Pl 1<|cu 6 [54] 60 ((((((((A.code != B.code)||(A.fail != B.fail))||(A.addr != B.addr))||(A.count != B.count))||(A.value != B.value))||(A.and_ != B.and_))||(A.or_ != B.or_))) (fun K aO=>?_) ?_
 refine bl 54 (((((((A.code != B.code)||(A.fail != B.fail))||(A.addr != B.addr))||(A.count != B.count))||(A.value != B.value))||(A.and_ != B.and_))) (fun v=>?_) (fun v=>?_)
 exact Pl 6<|ce aO true (by rw[v];rfl)
 have aQ:=(aJ v).1
 have cr:=(aJ v).2
 have aS:=(aJ aQ).1
 have cs:=(aJ aQ).2
 have q31aaa:=(aJ aS).1
 have q31aab:=(aJ aS).2
 have q31aaaa:=(aJ q31aaa).1
 have q31aaab:=(aJ q31aaa).2
 have q31aaaaa:=(aJ q31aaaa).1
 have q31aaaab:=(aJ q31aaaa).2
 have q31aaaaap:=ai q31aaaaa
 have q31aaaabp:=ai q31aaaab
 have q31aaabp:=ai q31aaab
 have q31aabp:=ai q31aab
 have q31abp:=ai cs
 have dT:=ai cr
 exact Pl 1<|L1<|aR c 6<|Pl 1<|L1<|aR b 6<|Pl 2<|ce aO (A.or_ != B.or_) (by rw[v];rfl)
 refine Pl 1<|cu 6 [61] 67 (((((((((A.code != B.code)||(A.fail != B.fail))||(A.addr != B.addr))||(A.count != B.count))||(A.value != B.value))||(A.and_ != B.and_))||(A.or_ != B.or_))||(A.addr2 != B.addr2))) (fun K aT=>?_) ?_
 refine bl 61 ((((((((A.code != B.code)||(A.fail != B.fail))||(A.addr != B.addr))||(A.count != B.count))||(A.value != B.value))||(A.and_ != B.and_))||(A.or_ != B.or_))) (fun z=>?_) (fun z=>?_)
 exact Pl 6<|ce aT true (by rw[z];rfl)
 have aU:=(aJ z).1
 have ct:=(aJ z).2
 have aV:=(aJ aU).1
 have cv:=(aJ aU).2
 have q33aaa:=(aJ aV).1
 have q33aab:=(aJ aV).2
 have q33aaaa:=(aJ q33aaa).1
 have q33aaab:=(aJ q33aaa).2
 have q33aaaaa:=(aJ q33aaaa).1
 have q33aaaab:=(aJ q33aaaa).2
 have q33aaaaaa:=(aJ q33aaaaa).1
 have q33aaaaab:=(aJ q33aaaaa).2
 have q33aaaaaap:=ai q33aaaaaa
 have q33aaaaabp:=ai q33aaaaab
 have q33aaaabp:=ai q33aaaab
 have q33aaabp:=ai q33aaab
 have q33aabp:=ai q33aab
 have q33abp:=ai cv
 have dU:=ai ct
 exact Pl 1<|L1<|aR c 7<|Pl 1<|L1<|aR b 7<|Pl 2<|ce aT (A.addr2 != B.addr2) (by rw[z];rfl)
 refine Pl 1<|cu 6 [68] 74 ((((((((((A.code != B.code)||(A.fail != B.fail))||(A.addr != B.addr))||(A.count != B.count))||(A.value != B.value))||(A.and_ != B.and_))||(A.or_ != B.or_))||(A.addr2 != B.addr2))||(A.sub != B.sub))) (fun K aX=>?_) ?_
 refine bl 68 (((((((((A.code != B.code)||(A.fail != B.fail))||(A.addr != B.addr))||(A.count != B.count))||(A.value != B.value))||(A.and_ != B.and_))||(A.or_ != B.or_))||(A.addr2 != B.addr2))) (fun C=>?_) (fun C=>?_)
 exact Pl 6<|ce aX true (by rw[C];rfl)
 have aY:=(aJ C).1
 have cw:=(aJ C).2
 have aZ:=(aJ aY).1
 have cx:=(aJ aY).2
 have q35aaa:=(aJ aZ).1
 have q35aab:=(aJ aZ).2
 have q35aaaa:=(aJ q35aaa).1
 have q35aaab:=(aJ q35aaa).2
 have q35aaaaa:=(aJ q35aaaa).1
 have q35aaaab:=(aJ q35aaaa).2
 have q35aaaaaa:=(aJ q35aaaaa).1
 have q35aaaaab:=(aJ q35aaaaa).2
 have q35aaaaaaa:=(aJ q35aaaaaa).1
 have q35aaaaaab:=(aJ q35aaaaaa).2
 have q35aaaaaaap:=ai q35aaaaaaa
 have q35aaaaaabp:=ai q35aaaaaab
 have q35aaaaabp:=ai q35aaaaab
 have q35aaaabp:=ai q35aaaab
 have q35aaabp:=ai q35aaab
 have q35aabp:=ai q35aab
 have q35abp:=ai cx
 have dV:=ai cw
 exact Pl 1<|L1<|aR c 8<|Pl 1<|L1<|aR b 8<|Pl 2<|ce aX (A.sub != B.sub) (by rw[C];rfl)
 refine Pl 1<|cu 6 [75] 81 (((((((((((A.code != B.code)||(A.fail != B.fail))||(A.addr != B.addr))||(A.count != B.count))||(A.value != B.value))||(A.and_ != B.and_))||(A.or_ != B.or_))||(A.addr2 != B.addr2))||(A.sub != B.sub))||(A.status != B.status))) (fun K b0=>?_) ?_
 refine bl 75 ((((((((((A.code != B.code)||(A.fail != B.fail))||(A.addr != B.addr))||(A.count != B.count))||(A.value != B.value))||(A.and_ != B.and_))||(A.or_ != B.or_))||(A.addr2 != B.addr2))||(A.sub != B.sub))) (fun D=>?_) (fun D=>?_)
 exact Pl 6<|ce b0 true (by rw[D];rfl)
 have b1:=(aJ D).1
 have cy:=(aJ D).2
 have b2:=(aJ b1).1
 have cz:=(aJ b1).2
 have q37aaa:=(aJ b2).1
 have q37aab:=(aJ b2).2
 have q37aaaa:=(aJ q37aaa).1
 have q37aaab:=(aJ q37aaa).2
 have q37aaaaa:=(aJ q37aaaa).1
 have q37aaaab:=(aJ q37aaaa).2
 have q37aaaaaa:=(aJ q37aaaaa).1
 have q37aaaaab:=(aJ q37aaaaa).2
 have q37aaaaaaa:=(aJ q37aaaaaa).1
 have q37aaaaaab:=(aJ q37aaaaaa).2
 have q37aaaaaaaa:=(aJ q37aaaaaaa).1
 have q37aaaaaaab:=(aJ q37aaaaaaa).2
 have q37aaaaaaaap:=ai q37aaaaaaaa
 have q37aaaaaaabp:=ai q37aaaaaaab
 have q37aaaaaabp:=ai q37aaaaaab
 have q37aaaaabp:=ai q37aaaaab
 have q37aaaabp:=ai q37aaaab
 have q37aaabp:=ai q37aaab
 have q37aabp:=ai q37aab
 have q37abp:=ai cz
 have dW:=ai cy
 exact Pl 1<|L1<|aR c 9<|Pl 1<|L1<|aR b 9<|Pl 2<|ce b0 (A.status != B.status) (by rw[D];rfl)
 refine Pl 1<|cu 6 [82] 88 ((((((((((((A.code != B.code)||(A.fail != B.fail))||(A.addr != B.addr))||(A.count != B.count))||(A.value != B.value))||(A.and_ != B.and_))||(A.or_ != B.or_))||(A.addr2 != B.addr2))||(A.sub != B.sub))||(A.status != B.status))||(A.events != B.events))) (fun K b3=>?_) ?_
 refine bl 82 (((((((((((A.code != B.code)||(A.fail != B.fail))||(A.addr != B.addr))||(A.count != B.count))||(A.value != B.value))||(A.and_ != B.and_))||(A.or_ != B.or_))||(A.addr2 != B.addr2))||(A.sub != B.sub))||(A.status != B.status))) (fun E=>?_) (fun E=>?_)
 exact Pl 6<|ce b3 true (by rw[E];rfl)
 have b4:=(aJ E).1
 have cA:=(aJ E).2
 have b5:=(aJ b4).1
 have cB:=(aJ b4).2
 have q39aaa:=(aJ b5).1
 have q39aab:=(aJ b5).2
 have q39aaaa:=(aJ q39aaa).1
 have q39aaab:=(aJ q39aaa).2
 have q39aaaaa:=(aJ q39aaaa).1
 have q39aaaab:=(aJ q39aaaa).2
 have q39aaaaaa:=(aJ q39aaaaa).1
 have q39aaaaab:=(aJ q39aaaaa).2
 have q39aaaaaaa:=(aJ q39aaaaaa).1
 have q39aaaaaab:=(aJ q39aaaaaa).2
 have q39aaaaaaaa:=(aJ q39aaaaaaa).1
 have q39aaaaaaab:=(aJ q39aaaaaaa).2
 have q39aaaaaaaaa:=(aJ q39aaaaaaaa).1
 have q39aaaaaaaab:=(aJ q39aaaaaaaa).2
 have q39aaaaaaaaap:=ai q39aaaaaaaaa
 have q39aaaaaaaabp:=ai q39aaaaaaaab
 have q39aaaaaaabp:=ai q39aaaaaaab
 have q39aaaaaabp:=ai q39aaaaaab
 have q39aaaaabp:=ai q39aaaaab
 have q39aaaabp:=ai q39aaaab
 have q39aaabp:=ai q39aaab
 have q39aabp:=ai q39aab
 have q39abp:=ai cB
 have dX:=ai cA
 exact Pl 1<|L1<|aR c 10<|Pl 1<|L1<|aR b 10<|Pl 2<|ce b3 (A.events != B.events) (by rw[E];rfl)
 refine Pl 1<|cu 6 [89] 95 (((((((((((((A.code != B.code)||(A.fail != B.fail))||(A.addr != B.addr))||(A.count != B.count))||(A.value != B.value))||(A.and_ != B.and_))||(A.or_ != B.or_))||(A.addr2 != B.addr2))||(A.sub != B.sub))||(A.status != B.status))||(A.events != B.events))||(A.messages != B.messages))) (fun K b7=>?_) ?_
 refine bl 89 ((((((((((((A.code != B.code)||(A.fail != B.fail))||(A.addr != B.addr))||(A.count != B.count))||(A.value != B.value))||(A.and_ != B.and_))||(A.or_ != B.or_))||(A.addr2 != B.addr2))||(A.sub != B.sub))||(A.status != B.status))||(A.events != B.events))) (fun F=>?_) (fun F=>?_)
 exact Pl 6<|ce b7 true (by rw[F];rfl)
 have b8:=(aJ F).1
 have cC:=(aJ F).2
 have b9:=(aJ b8).1
 have cD:=(aJ b8).2
 have q41aaa:=(aJ b9).1
 have q41aab:=(aJ b9).2
 have q41aaaa:=(aJ q41aaa).1
 have q41aaab:=(aJ q41aaa).2
 have q41aaaaa:=(aJ q41aaaa).1
 have q41aaaab:=(aJ q41aaaa).2
 have q41aaaaaa:=(aJ q41aaaaa).1
 have q41aaaaab:=(aJ q41aaaaa).2
 have q41aaaaaaa:=(aJ q41aaaaaa).1
 have q41aaaaaab:=(aJ q41aaaaaa).2
 have q41aaaaaaaa:=(aJ q41aaaaaaa).1
 have q41aaaaaaab:=(aJ q41aaaaaaa).2
 have q41aaaaaaaaa:=(aJ q41aaaaaaaa).1
 have q41aaaaaaaab:=(aJ q41aaaaaaaa).2
 have q41aaaaaaaaaa:=(aJ q41aaaaaaaaa).1
 have q41aaaaaaaaab:=(aJ q41aaaaaaaaa).2
 have q41aaaaaaaaaap:=ai q41aaaaaaaaaa
 have q41aaaaaaaaabp:=ai q41aaaaaaaaab
 have q41aaaaaaaabp:=ai q41aaaaaaaab
 have q41aaaaaaabp:=ai q41aaaaaaab
 have q41aaaaaabp:=ai q41aaaaaab
 have q41aaaaabp:=ai q41aaaaab
 have q41aaaabp:=ai q41aaaab
 have q41aaabp:=ai q41aaab
 have q41aabp:=ai q41aab
 have q41abp:=ai cD
 have dY:=ai cC
 exact Pl 1<|L1<|aR c 11<|Pl 1<|L1<|aR b 11<|Pl 2<|ce b7 (A.messages != B.messages) (by rw[F];rfl)
 refine nt<|?_
 have G:=aI cg az
 refine cb (((((((((((((A.code != B.code)||(A.fail != B.fail))||(A.addr != B.addr))||(A.count != B.count))||(A.value != B.value))||(A.and_ != B.and_))||(A.or_ != B.or_))||(A.addr2 != B.addr2))||(A.sub != B.sub))||(A.status != B.status))||(A.events != B.events))||(A.messages != B.messages))) (fun H=>?_) (fun H=>?_)
 refine sg<|Pl 1<|nt<|rt<|tr<|rr (.bool false)<|?_
 have hs:decide (A=B)=false:=kP (f:=fun x y=>((((((((((((x.code != y.code)||(x.fail != y.fail))||(x.addr != y.addr))||(x.count != y.count))||(x.value != y.value))||(x.and_ != y.and_))||(x.or_ != y.or_))||(x.addr2 != y.addr2))||(x.sub != y.sub))||(x.status != y.status))||(x.events != y.events))||(x.messages != y.messages))) H (fun M=>by simp)
 rw[hs]
 exact⟨rfl,G⟩
 have ba:=(aJ H).1
 have cE:=(aJ H).2
 have bb:=(aJ ba).1
 have cF:=(aJ ba).2
 have q44aaa:=(aJ bb).1
 have q44aab:=(aJ bb).2
 have q44aaaa:=(aJ q44aaa).1
 have q44aaab:=(aJ q44aaa).2
 have q44aaaaa:=(aJ q44aaaa).1
 have q44aaaab:=(aJ q44aaaa).2
 have q44aaaaaa:=(aJ q44aaaaa).1
 have q44aaaaab:=(aJ q44aaaaa).2
 have q44aaaaaaa:=(aJ q44aaaaaa).1
 have q44aaaaaab:=(aJ q44aaaaaa).2
 have q44aaaaaaaa:=(aJ q44aaaaaaa).1
 have q44aaaaaaab:=(aJ q44aaaaaaa).2
 have q44aaaaaaaaa:=(aJ q44aaaaaaaa).1
 have q44aaaaaaaab:=(aJ q44aaaaaaaa).2
 have q44aaaaaaaaaa:=(aJ q44aaaaaaaaa).1
 have q44aaaaaaaaab:=(aJ q44aaaaaaaaa).2
 have q44aaaaaaaaaaa:=(aJ q44aaaaaaaaaa).1
 have q44aaaaaaaaaab:=(aJ q44aaaaaaaaaa).2
 have q44aaaaaaaaaaap:=ai q44aaaaaaaaaaa
 have q44aaaaaaaaaabp:=ai q44aaaaaaaaaab
 have q44aaaaaaaaabp:=ai q44aaaaaaaaab
 have q44aaaaaaaabp:=ai q44aaaaaaaab
 have q44aaaaaaabp:=ai q44aaaaaaab
 have q44aaaaaabp:=ai q44aaaaaab
 have q44aaaaabp:=ai q44aaaaab
 have q44aaaabp:=ai q44aaaab
 have q44aaabp:=ai q44aaab
 have q44aabp:=ai q44aab
 have q44abp:=ai cF
 have dZ:=ai cE
 refine bq<|sq<|sg<|Pl 1<|L0<|aR c 16<|Pl 1<|L0<|aR b 16<|Pl 2<|cu 6 [101] 107 (((A.mei != B.mei)||(A.kind != B.kind))) (fun K bc=>?_) ?_
 refine bl 101 ((A.mei != B.mei)) (fun I=>?_) (fun I=>?_)
 have cG:=aq I
 exact Pl 6<|ce bc true (by rw[I];rfl)
 have cG:=ai I
 exact Pl 1<|L1<|aR c 17<|Pl 1<|L1<|aR b 17<|Pl 2<|ce bc (A.kind != B.kind) (by rw[I];rfl)
 refine Pl 1<|cu 6 [108] 114 ((((A.mei != B.mei)||(A.kind != B.kind))||(A.level != B.level))) (fun K bd=>?_) ?_
 refine bl 108 (((A.mei != B.mei)||(A.kind != B.kind))) (fun J=>?_) (fun J=>?_)
 exact Pl 6<|ce bd true (by rw[J];rfl)
 have cH:=(aJ J).1
 have cI:=(aJ J).2
 have e0:=ai cH
 have e1:=ai cI
 exact Pl 1<|L1<|aR c 18<|Pl 1<|L1<|aR b 18<|Pl 2<|ce bd (A.level != B.level) (by rw[J];rfl)
 refine Pl 1<|cu 6 [115] 121 (((((A.mei != B.mei)||(A.kind != B.kind))||(A.level != B.level))||(A.more != B.more))) (fun K be=>?_) ?_
 refine bl 115 ((((A.mei != B.mei)||(A.kind != B.kind))||(A.level != B.level))) (fun L=>?_) (fun L=>?_)
 exact Pl 6<|ce be true (by rw[L];rfl)
 have bf:=(aJ L).1
 have cJ:=(aJ L).2
 have cK:=(aJ bf).1
 have cL:=(aJ bf).2
 have q49aap:=ai cK
 have q49abp:=ai cL
 have e2:=ai cJ
 exact Pl 1<|L1<|aR c 19<|Pl 1<|L1<|aR b 19<|Pl 2<|ce be (A.more != B.more) (by rw[L];rfl)
 refine Pl 1<|cu 6 [122] 128 ((((((A.mei != B.mei)||(A.kind != B.kind))||(A.level != B.level))||(A.more != B.more))||(A.next != B.next))) (fun K bi=>?_) ?_
 refine bl 122 (((((A.mei != B.mei)||(A.kind != B.kind))||(A.level != B.level))||(A.more != B.more))) (fun N=>?_) (fun N=>?_)
 exact Pl 6<|ce bi true (by rw[N];rfl)
 have bj:=(aJ N).1
 have cM:=(aJ N).2
 have bm:=(aJ bj).1
 have cN:=(aJ bj).2
 have q51aaa:=(aJ bm).1
 have q51aab:=(aJ bm).2
 have q51aaap:=ai q51aaa
 have q51aabp:=ai q51aab
 have q51abp:=ai cN
 have e3:=ai cM
 exact Pl 1<|L1<|aR c 20<|Pl 1<|L1<|aR b 20<|Pl 2<|ce bi (A.next != B.next) (by rw[N];rfl)
 refine nt<|cb ((((((A.mei != B.mei)||(A.kind != B.kind))||(A.level != B.level))||(A.more != B.more))||(A.next != B.next))) (fun O=>?_) (fun O=>?_)
 refine sg<|Pl 1<|nt<|rt<|tr<|rr (.bool false)<|?_
 have hs:decide (A=B)=false:=kP (f:=fun x y=>(((((x.mei != y.mei)||(x.kind != y.kind))||(x.level != y.level))||(x.more != y.more))||(x.next != y.next))) O (fun M=>by simp)
 rw[hs]
 exact⟨rfl,G⟩
 have bo:=(aJ O).1
 have cO:=(aJ O).2
 have bp:=(aJ bo).1
 have cP:=(aJ bo).2
 have q53aaa:=(aJ bp).1
 have q53aab:=(aJ bp).2
 have q53aaaa:=(aJ q53aaa).1
 have q53aaab:=(aJ q53aaa).2
 have q53aaaap:=ai q53aaaa
 have q53aaabp:=ai q53aaab
 have q53aabp:=ai q53aab
 have q53abp:=ai cP
 have e4:=ai cO
 refine bq<|sg<|Pl 1<|L0<|aR c 12<|Pl 1<|L0<|aR b 12<|?_
 refine L0<|Oc<|m1 (gX (dJ.old phw G) (dJ.old qhw G)) fun e5 aa=>Pl 1<|ng<|Pl 1<|?_
 have bs:=ub aa c
 refine L0<|aR bs 13<|Pl 1<|?_
 have bt:=ub aa b
 refine L0<|aR bt 13<|?_
 have ab:=aI G aa
 refine L0<|Oc<|m1 (lg (g8.old phb ab) (g8.old qhb ab)) fun e6 ac=>Pl 1<|ng<|Pl 1<|?_
 have a2:=ub ac bs
 refine L0<|aR a2 14<|Pl 1<|?_
 have P:=ub ac bt
 refine L0<|aR P 14<|?_
 have ad:=aI ab ac
 refine L0<|Oc<|m1 (km (bg.old phd ad) (bg.old qhd ad)) fun cQ n=>Pl 1<|nt<|sq<|sg<|Pl 3<|cu 3 [146] 149 (((!(decide (A.words=B.words)))||(!(decide (A.bits=B.bits))))) (fun K bu=>?_) ?_
 refine bl 146 ((!(decide (A.words=B.words)))) (fun Q=>?_) (fun Q=>?_)
 have ae:(decide (A.words=B.words))=false:=by simpa using Q
 have cR:=of_decide_eq_false ae
 exact Pl 3<|ce bu true (by rw[Q];rfl)
 have ae:(decide (A.words=B.words))=true:=by simpa using Q
 have cR:=of_decide_eq_true ae
 exact Pl 3<|ce bu (!(decide (A.bits=B.bits))) (by rw[Q];rfl)
 refine Pl 1<|cu 3 [150] 153 ((((!(decide (A.words=B.words)))||(!(decide (A.bits=B.bits))))||(!(decide (A.data=B.data))))) (fun K bv=>?_) ?_
 refine bl 150 (((!(decide (A.words=B.words)))||(!(decide (A.bits=B.bits))))) (fun R=>?_) (fun R=>?_)
 exact Pl 3<|ce bv true (by rw[R];rfl)
 have cS:=(aJ R).1
 have cT:=(aJ R).2
 have cU:(decide (A.words=B.words))=true:=by simpa using cS
 have q74anp:=of_decide_eq_true cU
 have cV:(decide (A.bits=B.bits))=true:=by simpa using cT
 have q74bnp:=of_decide_eq_true cV
 exact Pl 3<|ce bv (!(decide (A.data=B.data))) (by rw[R];rfl)
 refine Pl 1<|cu 8 [154] 162 (((((!(decide (A.words=B.words)))||(!(decide (A.bits=B.bits))))||(!(decide (A.data=B.data))))||(((A.recs.length:Nat) : Int)!=((B.recs.length:Nat) : Int)))) (fun K bw=>?_) ?_
 refine bl 154 ((((!(decide (A.words=B.words)))||(!(decide (A.bits=B.bits))))||(!(decide (A.data=B.data))))) (fun S=>?_) (fun S=>?_)
 exact Pl 8<|ce bw true (by rw[S];rfl)
 have bz:=(aJ S).1
 have cW:=(aJ S).2
 have cX:=(aJ bz).1
 have cY:=(aJ bz).2
 have q76aan:(decide (A.words=B.words))=true:=by simpa using cX
 have q76aanp:=of_decide_eq_true q76aan
 have q76abn:(decide (A.bits=B.bits))=true:=by simpa using cY
 have q76abnp:=of_decide_eq_true q76abn
 have cZ:(decide (A.data=B.data))=true:=by simpa using cW
 have q76bnp:=of_decide_eq_true cZ
 refine Pl 1<|?_
 refine L1<|aR (ub n a2) 15<|Pl 2<|?_
 exact L1<|aR (ub n P) 15<|Pl 3<|ce bw (((A.recs.length:Nat) : Int)!=((B.recs.length:Nat) : Int)) (by rw[S];rfl)
 refine Pl 1<|cu 8 [163] 171 ((((((!(decide (A.words=B.words)))||(!(decide (A.bits=B.bits))))||(!(decide (A.data=B.data))))||(((A.recs.length:Nat) : Int)!=((B.recs.length:Nat) : Int)))||(((A.objects.length:Nat) : Int)!=((B.objects.length:Nat) : Int)))) (fun K bA=>?_) ?_
 refine bl 163 (((((!(decide (A.words=B.words)))||(!(decide (A.bits=B.bits))))||(!(decide (A.data=B.data))))||(((A.recs.length:Nat) : Int)!=((B.recs.length:Nat) : Int)))) (fun T=>?_) (fun T=>?_)
 exact Pl 8<|ce bA true (by rw[T];rfl)
 have bB:=(aJ T).1
 have d0:=(aJ T).2
 have bC:=(aJ bB).1
 have d1:=(aJ bB).2
 have q80aaa:=(aJ bC).1
 have q80aab:=(aJ bC).2
 have q80aaan:(decide (A.words=B.words))=true:=by simpa using q80aaa
 have q80aaanp:=of_decide_eq_true q80aaan
 have q80aabn:(decide (A.bits=B.bits))=true:=by simpa using q80aab
 have q80aabnp:=of_decide_eq_true q80aabn
 have q80abn:(decide (A.data=B.data))=true:=by simpa using d1
 have q80abnp:=of_decide_eq_true q80abn
 have e7:=ai d0
 refine Pl 1<|?_
 refine L1<|aR (ub n a2) 21<|Pl 2<|?_
 exact L1<|aR (ub n P) 21<|Pl 3<|ce bA (((A.objects.length:Nat) : Int)!=((B.objects.length:Nat) : Int)) (by rw[T];rfl)
 refine nt<|?_
 have bD:=aI ad n
 refine cb ((((((!(decide (A.words=B.words)))||(!(decide (A.bits=B.bits))))||(!(decide (A.data=B.data))))||(((A.recs.length:Nat) : Int)!=((B.recs.length:Nat) : Int)))||(((A.objects.length:Nat) : Int)!=((B.objects.length:Nat) : Int)))) (fun U=>?_) (fun U=>?_)
 refine sg<|Pl 1<|nt<|rt<|tr<|rr (.bool false)<|?_
 have hs:decide (A=B)=false:=kP (f:=fun x y=>(((((!(decide (x.words=y.words)))||(!(decide (x.bits=y.bits))))||(!(decide (x.data=y.data))))||(((x.recs.length:Nat) : Int)!=((y.recs.length:Nat) : Int)))||(((x.objects.length:Nat) : Int)!=((y.objects.length:Nat) : Int)))) U (fun M=>by simp)
 rw[hs]
 exact⟨rfl,bD⟩
 have bE:=(aJ U).1
 have d2:=(aJ U).2
 have bF:=(aJ bE).1
 have d3:=(aJ bE).2
 have q85aaa:=(aJ bF).1
 have q85aab:=(aJ bF).2
 have q85aaaa:=(aJ q85aaa).1
 have q85aaab:=(aJ q85aaa).2
 have q85aaaan:(decide (A.words=B.words))=true:=by simpa using q85aaaa
 have q85aaaanp:=of_decide_eq_true q85aaaan
 have q85aaabn:(decide (A.bits=B.bits))=true:=by simpa using q85aaab
 have q85aaabnp:=of_decide_eq_true q85aaabn
 have q85aabn:(decide (A.data=B.data))=true:=by simpa using q85aab
 have q85aabnp:=of_decide_eq_true q85aabn
 have q85abp:=ai d3
 have e8:=ai d2
 refine bq<|sq<|sg<|Pl 1<|nt<|bk<|?_
 refine jw (fun x=>[(2,.pointer (some ⟨i,0,none⟩)),(3,.pointer (some ⟨l,0,none⟩)),(8,.int .i64 ((x:Nat) : Int))]) (fun(x:Nat) w'=>aE [] cQ w'∧(A.recs.take x=B.recs.take x)∧(x≤A.recs.length)) (fun x=>A.recs.length-x) 0 ⟨aE.refl _ _,(by(try dsimp only);simp),(by(try dsimp only);omega)⟩ ?_
 rintro j d4 ⟨a3,d5,d6⟩
 refine jr [(2,.pointer (some ⟨i,0,none⟩)),(3,.pointer (some ⟨l,0,none⟩)),(8,.int .i64 ((j:Nat) : Int))] ?_
 have bG:A.recs.take j=B.recs.take j:=d5
 have e9:j≤A.recs.length:=d6
 refine sq<|sg<|Pl 2<|?_
 have a4:=aI n a3
 have af:=ub a4 a2
 refine L0<|aR af 15<|Pl 2<|nt<|?_
 have a5:=aI bD a3
 refine cb ((decide (((j:Nat) : Int)<((A.recs.length:Nat) : Int)))) (fun ah=>?_) (fun ah=>?_)
 have d7:=of_decide_eq_true ah
 refine bq<|sq<|bk<|sg<|Pl 1<|L0<|aR af 15<|Pl 1<|iH (kn.elt phr j (by omega)) fun ea eb ec ed ee bH bI d8 d9 da ef db=>L0<|qH 4 A.recs.length j d8 (by omega)<|?_
 refine L0<|u7 [.int .u16 ((A.recs.getD j ⟨0,0,0,[]⟩).file),.int .u16 ((A.recs.getD j ⟨0,0,0,[]⟩).record),.int .u16 ((A.recs.getD j ⟨0,0,0,[]⟩).count),.slice bH ((A.recs.getD j ⟨0,0,0,[]⟩).words.length) bI] (ub a5 d9) db<|L0<|bJ #[.int .u16 0,.int .u16 0,.int .u16 0,.slice none 0 0] fun eg eh aj dc ak=>L0<|b6 dc #[.int .u16 ((A.recs.getD j ⟨0,0,0,[]⟩).file),.int .u16 ((A.recs.getD j ⟨0,0,0,[]⟩).record),.int .u16 ((A.recs.getD j ⟨0,0,0,[]⟩).count),.slice bH ((A.recs.getD j ⟨0,0,0,[]⟩).words.length) bI] fun ei dd al=>ng<|Pl 1<|?_
 refine L0<|aR (ub (u1 (aI a4 ak) al (ni a4.size aj)) P) 15<|Pl 1<|iH (kn.elt qhr j (by omega)) fun ej ek el em eo bK bL de df dg ep di=>L0<|qH 4 B.recs.length j de (by omega)<|?_
 have am:=u1 (aI a5 ak) al (ni a5.size aj)
 refine L0<|u7 [.int .u16 ((B.recs.getD j ⟨0,0,0,[]⟩).file),.int .u16 ((B.recs.getD j ⟨0,0,0,[]⟩).record),.int .u16 ((B.recs.getD j ⟨0,0,0,[]⟩).count),.slice bK ((B.recs.getD j ⟨0,0,0,[]⟩).words.length) bL] (ub am df) di<|L0<|bJ #[.int .u16 0,.int .u16 0,.int .u16 0,.slice none 0 0] fun eq er an dj ao=>L0<|b6 dj #[.int .u16 ((B.recs.getD j ⟨0,0,0,[]⟩).file),.int .u16 ((B.recs.getD j ⟨0,0,0,[]⟩).record),.int .u16 ((B.recs.getD j ⟨0,0,0,[]⟩).count),.slice bK ((B.recs.getD j ⟨0,0,0,[]⟩).words.length) bL] fun es a6 ap=>ng<|Pl 1<|?_
 have a7:=ub (u1 ao ap (nr an)) dd
 refine L0<|aR a7 3<|Pl 1<|L0<|aR a6 3<|?_
 have ar:=u1 (aI am ao) ap (ni am.size an)
 refine L0<|Oc<|m1 (gX (dJ.old da ar) (dJ.old dg ar)) fun et h=>Pl 1<|ng<|Pl 3<|cu 6 [196] 202 (((!(decide ((A.recs.getD j ⟨0,0,0,[]⟩).words=(B.recs.getD j ⟨0,0,0,[]⟩).words)))||(((A.recs.getD j ⟨0,0,0,[]⟩).file)!=((B.recs.getD j ⟨0,0,0,[]⟩).file)))) (fun K bM=>?_) ?_
 refine bl 196 ((!(decide ((A.recs.getD j ⟨0,0,0,[]⟩).words=(B.recs.getD j ⟨0,0,0,[]⟩).words)))) (fun V=>?_) (fun V=>?_)
 have au:(decide ((A.recs.getD j ⟨0,0,0,[]⟩).words=(B.recs.getD j ⟨0,0,0,[]⟩).words))=false:=by simpa using V
 have dk:=of_decide_eq_false au
 exact Pl 6<|ce bM true (by rw[V];rfl)
 have au:(decide ((A.recs.getD j ⟨0,0,0,[]⟩).words=(B.recs.getD j ⟨0,0,0,[]⟩).words))=true:=by simpa using V
 have dk:=of_decide_eq_true au
 refine Pl 1<|?_
 refine L1<|aR (ub h a7) 0<|Pl 1<|?_
 exact L1<|aR (ub h a6) 0<|Pl 2<|ce bM (((A.recs.getD j ⟨0,0,0,[]⟩).file)!=((B.recs.getD j ⟨0,0,0,[]⟩).file)) (by rw[V];rfl)
 refine Pl 1<|cu 6 [203] 209 ((((!(decide ((A.recs.getD j ⟨0,0,0,[]⟩).words=(B.recs.getD j ⟨0,0,0,[]⟩).words)))||(((A.recs.getD j ⟨0,0,0,[]⟩).file)!=((B.recs.getD j ⟨0,0,0,[]⟩).file)))||(((A.recs.getD j ⟨0,0,0,[]⟩).record)!=((B.recs.getD j ⟨0,0,0,[]⟩).record)))) (fun K bN=>?_) ?_
 refine bl 203 (((!(decide ((A.recs.getD j ⟨0,0,0,[]⟩).words=(B.recs.getD j ⟨0,0,0,[]⟩).words)))||(((A.recs.getD j ⟨0,0,0,[]⟩).file)!=((B.recs.getD j ⟨0,0,0,[]⟩).file)))) (fun W=>?_) (fun W=>?_)
 exact Pl 6<|ce bN true (by rw[W];rfl)
 have dl:=(aJ W).1
 have dm:=(aJ W).2
 have dn:(decide ((A.recs.getD j ⟨0,0,0,[]⟩).words=(B.recs.getD j ⟨0,0,0,[]⟩).words))=true:=by simpa using dl
 have q156anp:=of_decide_eq_true dn
 have eu:=ai dm
 refine Pl 1<|?_
 refine L1<|aR (ub h a7) 1<|Pl 1<|?_
 exact L1<|aR (ub h a6) 1<|Pl 2<|ce bN (((A.recs.getD j ⟨0,0,0,[]⟩).record)!=((B.recs.getD j ⟨0,0,0,[]⟩).record)) (by rw[W];rfl)
 refine Pl 1<|cu 6 [210] 216 (((((!(decide ((A.recs.getD j ⟨0,0,0,[]⟩).words=(B.recs.getD j ⟨0,0,0,[]⟩).words)))||(((A.recs.getD j ⟨0,0,0,[]⟩).file)!=((B.recs.getD j ⟨0,0,0,[]⟩).file)))||(((A.recs.getD j ⟨0,0,0,[]⟩).record)!=((B.recs.getD j ⟨0,0,0,[]⟩).record)))||(((A.recs.getD j ⟨0,0,0,[]⟩).count)!=((B.recs.getD j ⟨0,0,0,[]⟩).count)))) (fun K bO=>?_) ?_
 refine bl 210 ((((!(decide ((A.recs.getD j ⟨0,0,0,[]⟩).words=(B.recs.getD j ⟨0,0,0,[]⟩).words)))||(((A.recs.getD j ⟨0,0,0,[]⟩).file)!=((B.recs.getD j ⟨0,0,0,[]⟩).file)))||(((A.recs.getD j ⟨0,0,0,[]⟩).record)!=((B.recs.getD j ⟨0,0,0,[]⟩).record)))) (fun X=>?_) (fun X=>?_)
 exact Pl 6<|ce bO true (by rw[X];rfl)
 have bP:=(aJ X).1
 have dp:=(aJ X).2
 have dq:=(aJ bP).1
 have dr:=(aJ bP).2
 have q160aan:(decide ((A.recs.getD j ⟨0,0,0,[]⟩).words=(B.recs.getD j ⟨0,0,0,[]⟩).words))=true:=by simpa using dq
 have q160aanp:=of_decide_eq_true q160aan
 have q160abp:=ai dr
 have ev:=ai dp
 refine Pl 1<|?_
 refine L1<|aR (ub h a7) 2<|Pl 1<|?_
 exact L1<|aR (ub h a6) 2<|Pl 2<|ce bO (((A.recs.getD j ⟨0,0,0,[]⟩).count)!=((B.recs.getD j ⟨0,0,0,[]⟩).count)) (by rw[X];rfl)
 refine nt<|?_
 refine cb (((((!(decide ((A.recs.getD j ⟨0,0,0,[]⟩).words=(B.recs.getD j ⟨0,0,0,[]⟩).words)))||(((A.recs.getD j ⟨0,0,0,[]⟩).file)!=((B.recs.getD j ⟨0,0,0,[]⟩).file)))||(((A.recs.getD j ⟨0,0,0,[]⟩).record)!=((B.recs.getD j ⟨0,0,0,[]⟩).record)))||(((A.recs.getD j ⟨0,0,0,[]⟩).count)!=((B.recs.getD j ⟨0,0,0,[]⟩).count)))) (fun Y=>?_) (fun Y=>?_)
 refine sg<|Pl 1<|nt<|rt<|br<|tr<|tr<|br<|tr<|rr (.bool false)<|?_
 have hs:decide (A=B)=false:=kP (f:=fun x y=>((((!(decide ((x.recs.getD j ⟨0,0,0,[]⟩).words=(y.recs.getD j ⟨0,0,0,[]⟩).words)))||(((x.recs.getD j ⟨0,0,0,[]⟩).file)!=((y.recs.getD j ⟨0,0,0,[]⟩).file)))||(((x.recs.getD j ⟨0,0,0,[]⟩).record)!=((y.recs.getD j ⟨0,0,0,[]⟩).record)))||(((x.recs.getD j ⟨0,0,0,[]⟩).count)!=((y.recs.getD j ⟨0,0,0,[]⟩).count)))) Y (fun M=>by simp)
 rw[hs]
 exact⟨rfl,(aI ar h)⟩
 have bQ:=(aJ Y).1
 have ds:=(aJ Y).2
 have bS:=(aJ bQ).1
 have du:=(aJ bQ).2
 have q165aaa:=(aJ bS).1
 have q165aab:=(aJ bS).2
 have q165aaan:(decide ((A.recs.getD j ⟨0,0,0,[]⟩).words=(B.recs.getD j ⟨0,0,0,[]⟩).words))=true:=by simpa using q165aaa
 have q165aaanp:=of_decide_eq_true q165aaan
 have q165aabp:=ai q165aab
 have q165abp:=ai du
 have ew:=ai ds
 refine sk<|bn<|tn<|go<|Pl 1<|L0<|Oi (((j:Nat) : Int)+1)<|Pl 1<|nl<|?_
 have bT:=u1 (aI a3 ak) al (ni a3.size aj)
 exact gt (j+1) ⟨(aI (u1 (aI bT ao) ap (ni bT.size an)) h),(nY (d:=⟨0,0,0,[]⟩) bG (by omega) (by omega) (sP Y)),(by(try dsimp only);omega)⟩ (by omega)
 have d7:=of_decide_eq_false ah
 refine xt<|tx<|tx<|bx<|tn<|sq<|sg<|Pl 1<|nt<|bk<|?_
 refine jw (fun x=>[(2,.pointer (some ⟨i,0,none⟩)),(3,.pointer (some ⟨l,0,none⟩)),(12,.int .i64 ((x:Nat) : Int))]) (fun(x:Nat) w'=>aE [] d4 w'∧(A.objects.take x=B.objects.take x)∧(x≤A.objects.length)) (fun x=>A.objects.length-x) 0 ⟨aE.refl _ _,(by(try dsimp only);simp),(by(try dsimp only);omega)⟩ ?_
 rintro k ex ⟨a8,dv,dw⟩
 refine jr [(2,.pointer (some ⟨i,0,none⟩)),(3,.pointer (some ⟨l,0,none⟩)),(12,.int .i64 ((k:Nat) : Int))] ?_
 have bU:A.objects.take k=B.objects.take k:=dv
 have ey:k≤A.objects.length:=dw
 refine sq<|sg<|Pl 2<|?_
 have bV:=ub a8 af
 refine L0<|aR bV 21<|Pl 2<|nt<|?_
 have bW:=aI a5 a8
 refine cb ((decide (((k:Nat) : Int)<((A.objects.length:Nat) : Int)))) (fun av=>?_) (fun av=>?_)
 have dx:=of_decide_eq_true av
 refine bq<|sq<|bk<|sq<|iH (my.elt pho k (by omega)) fun bX bY ez eA eB dy dz bZ dA dB eC aw=>iH (my.elt qho k (by omega)) fun c0 c2 eD eE eF dC dD c3 dE dF eG ax=>Rg 14 (fun w'=>w'.cell? ⟨i,21,none⟩=some (.slice po A.objects.length pko)∧w'.cell? ⟨bX,bY+k*2+1,none⟩=some (.slice dy ((A.objects.getD k ⟨0,[]⟩).value.length) dz)∧w'.cell? ⟨l,21,none⟩=some (.slice qo B.objects.length qko)∧w'.cell? ⟨c0,c2+k*2+1,none⟩=some (.slice dC ((B.objects.getD k ⟨0,[]⟩).value.length) dD)) fun eH a9=>?_
 have c4:=ub a9 bV
 have Z:=aI bW a9
 have c5:=ub Z dA
 have c6:=ub (aI (aI a4 a8) a9) P
 have c7:=ub Z dE
 refine bh ⟨(ag c4 rfl),(kK c5 aw 1 rfl (by decide)),(ag c6 rfl),(kK c7 ax 1 rfl (by decide))⟩ fun g=>Rt 0 g<|Rl 1 g (fun _ hs=>hs.1)<|Rt 2 g<|Ri 3 g 2 A.objects.length k ((k:Nat) : Int) rfl bZ (by omega)<|Rt 4 g<|Rl 5 g (fun _ hs=>hs.2.1)<|Rt 6 g<|Rl 7 g (fun _ hs=>hs.2.2.1)<|Rt 8 g<|Ri 9 g 2 B.objects.length k ((k:Nat) : Int) rfl c3 (by omega)<|Rt 10 g<|Rl 11 g (fun _ hs=>hs.2.2.2)<|?_
 refine R0 12 rfl<|Oc<|m1 (km (bg.old dB Z) (bg.old dF Z)) fun eI o=>?_
 have c8:=ub o c4
 have c9:=ub o c5
 have ca:=ub o c6
 have cc:=ub o c7
 refine bh ⟨(ag c8 rfl),(kK c9 aw 1 rfl (by decide)),(ag ca rfl),(kK cc ax 1 rfl (by decide))⟩ fun dG=>Rt 13 dG<|re<|tn<|sq<|Rg 17 (fun w'=>w'.cell? ⟨i,21,none⟩=some (.slice po A.objects.length pko)∧w'.cell? ⟨bX,bY+k*2+0,none⟩=some (.int .u8 ((A.objects.getD k ⟨0,[]⟩).id))∧w'.cell? ⟨l,21,none⟩=some (.slice qo B.objects.length qko)∧w'.cell? ⟨c0,c2+k*2+0,none⟩=some (.int .u8 ((B.objects.getD k ⟨0,[]⟩).id))) fun eJ p=>?_
 refine bh ⟨(ag (ub p c8) rfl),(kK (ub p c9) aw 0 rfl (by decide)),(ag (ub p ca) rfl),(kK (ub p cc) ax 0 rfl (by decide))⟩ fun a=>Rt 0 a<|Rt 1 a<|Rt 2 a<|?_
 have cd:=aI (aI Z o) p
 refine pj 239 ((!(decide ((A.objects.getD k ⟨0,[]⟩).value=(B.objects.getD k ⟨0,[]⟩).value)))) (fun a0=>?_) (fun a0=>?_)
 have ay:(decide ((A.objects.getD k ⟨0,[]⟩).value=(B.objects.getD k ⟨0,[]⟩).value))=false:=by simpa using a0
 have dH:=of_decide_eq_false ay
 refine Ro 3 a<|Ro 4 a<|Ro 5 a<|Ro 6 a<|Ro 7 a<|Ro 8 a<|Ro 9 a<|Ro 10 a<|Ro 11 a<|Ro 12 a<|Ro 13 a<|Ro 14 a<|Ro 15 a<|Rt 16 a<|?_
 refine re<|tn<|c1<|sg<|Pl 1<|nt<|rt<|br<|tr<|tr<|br<|tr<|?_
 refine rr (.bool false)<|?_
 have hs:decide (A=B)=false:=kP (f:=fun x y=>(!(decide ((x.objects.getD k ⟨0,[]⟩).value=(y.objects.getD k ⟨0,[]⟩).value)))) a0 (fun M=>by simp)
 rw[hs]
 exact⟨rfl,cd⟩
 have ay:(decide ((A.objects.getD k ⟨0,[]⟩).value=(B.objects.getD k ⟨0,[]⟩).value))=true:=by simpa using a0
 have dH:=of_decide_eq_true ay
 refine Rt 3 a<|Rl 4 a (fun _ hs=>hs.1)<|Rt 5 a<|Ri 6 a 2 A.objects.length k ((k:Nat) : Int) rfl bZ (by omega)<|Rt 7 a<|Rl 8 a (fun _ hs=>hs.2.1)<|Rt 9 a<|Rl 10 a (fun _ hs=>hs.2.2.1)<|Rt 11 a<|Ri 12 a 2 B.objects.length k ((k:Nat) : Int) rfl c3 (by omega)<|Rt 13 a<|Rl 14 a (fun _ hs=>hs.2.2.2)<|Rt 15 a<|Rt 16 a<|?_
 refine re<|tn<|cb ((((A.objects.getD k ⟨0,[]⟩).id)!=((B.objects.getD k ⟨0,[]⟩).id))) (fun a1=>?_) (fun a1=>?_)
 have dI:=aq a1
 refine sg<|Pl 1<|nt<|rt<|br<|tr<|tr<|br<|tr<|rr (.bool false)<|?_
 have hs:decide (A=B)=false:=kP (f:=fun x y=>(((x.objects.getD k ⟨0,[]⟩).id)!=((y.objects.getD k ⟨0,[]⟩).id))) a1 (fun M=>by simp)
 rw[hs]
 exact⟨rfl,cd⟩
 have dI:=ai a1
 refine sk<|bn<|tn<|go<|Pl 1<|L0<|Oi (((k:Nat) : Int)+1)<|Pl 1<|nl<|?_
 exact gt (k+1) ⟨(aI (aI (aI a8 a9) o) p),(nY (d:=⟨0,[]⟩) bU (by omega) (by omega) (ro a0 a1)),(by(try dsimp only);omega)⟩ (by omega)
 have dx:=of_decide_eq_false av
 refine xt<|tx<|tx<|bx<|tn<|sg<|Pl 1<|nt<|rt<|rr (.bool true)<|?_
 have hs:decide (A=B)=true:=decide_eq_true (sb H O U (fun e=>fF bG (by omega) e) (fun e=>fF bU (by omega) e))
 rw[hs]
 exact⟨rfl,bW⟩
end Go.Proofs.YtogbnemojakcpaaGreat
namespace Go.Proofs.YtogbnemojakcpaaGreat
def N4 (C:ah) : Prop:=C.e≠4
theorem N4.need{C:ah}{b:Bool}{x:Int}(hx:x≠4)(h:N4 C) : N4 (C.need b x):=by
  unfold N4 ah.need at *
  split
  · exact hx
  · exact h
theorem N4.bytesC{C:ah}{n:Int}(h:N4 C) : N4 (C.bytesC n):=by
  unfold ah.bytesC
  split
  · exact N4.need (by decide) h
  · exact h
theorem N4.wordsC{C:ah}{n:Int}(h:N4 C) : N4 (C.wordsC n):=by
  unfold ah.wordsC
  split<;>exact N4.bytesC h
theorem N4.recs{one:Int→ah→Int × ah × de}(ho:∀ s C,N4 C→N4 (one s C).2.1) : ∀ (n:Nat)(s:Int)(C:ah)(L:List de),N4 C→N4 (aN one n s C L).1
  | 0,_,_,_,h=>h
  | n+1,s,C,L,h=>by
    unfold aN
    split
    · split
      · exact ho s C h
      · exact N4.recs ho n _ _ _ (ho s C h)
    · exact h
theorem nh{x:Int}(h:x≠4) : bo x≠4:=by
  unfold bo
  split
  · decide
  · exact h
theorem qX{dir c:Int}{C:ah}{r:ah × aP}(hC:N4 C)(h:aD dir c C=some r) : N4 r.1:=by
  unfold aD at h
  repeat' split at h
  all_goals first | cases h | skip
  all_goals simp only[cF,co,cl,ec,bA,i9,dI,cY,jy,eX]
  all_goals repeat' first | with_reducible exact hC | with_reducible apply N4.bytesC | with_reducible apply N4.wordsC | (with_reducible refine N4.need (by decide) ?_)
theorem s6{dir c:Int}{C:ah}{r:ah × aP}(hC:N4 C)(h:aH dir c C=some r) : N4 r.1:=by
  unfold aH at h
  repeat' split at h
  all_goals first | cases h | skip
  all_goals simp only[bK,bN,cP,cy,ck,cz,cD,gw,kU,l9,bI,o6,cX,kc,qx,uq,tB]
  all_goals repeat' first | with_reducible exact hC | with_reducible apply N4.bytesC | with_reducible apply N4.wordsC | (with_reducible refine N4.need (by decide) ?_)
theorem rC{dir c:Int}{C:ah}{r:ah × aP}(hC:N4 C)(h:aM dir c C=some r) : N4 r.1:=by
  unfold aM dS bW at h
  repeat' split at h
  all_goals first | cases h | skip
  all_goals simp only[eK,iu,g9,gz,dr]
  all_goals repeat' first | with_reducible exact hC | with_reducible apply N4.bytesC | with_reducible apply N4.wordsC | (with_reducible refine N4.need (by decide) ?_)
theorem rl(s:Int)(C:ah)(h:N4 C) : N4 (cL s C).2.1:=by
  simp only[cL,ep,dp,gL,gM,lC]
  repeat' first | with_reducible exact h | with_reducible apply N4.bytesC | with_reducible apply N4.wordsC | (with_reducible refine N4.need (by decide) ?_)
theorem qa(s:Int)(C:ah)(h:N4 C) : N4 (bG s C).2.1:=by
  simp only[bG,ew,gy,gv]
  repeat' first | with_reducible exact h | with_reducible apply N4.bytesC | with_reducible apply N4.wordsC | (with_reducible refine N4.need (by decide) ?_)
theorem rz(s:Int)(C:ah)(h:N4 C) : N4 (cI s C).2.1:=by
  simp only[cI,gV,lJ,dp,gL,gM,lC]
  repeat' first | with_reducible exact h | with_reducible apply N4.bytesC | with_reducible apply N4.wordsC | (with_reducible refine N4.need (by decide) ?_)
theorem i2{one:Int→ah→Int × ah × de}(ho:∀ s C,N4 C→N4 (one s C).2.1)(may:Int→Bool)(c:Int){C:ah}(hC:N4 C) : N4 (dF one may c C).1:=by
  unfold dF js
  refine N4.need (nh (N4.recs ho _ _ _ _ ?_)) (N4.bytesC (N4.need (by decide) (N4.bytesC hC)))
  show(0:Int)≠4
  decide
theorem pW{dir c:Int}{C:ah}{r:ah × aP}(hC:N4 C)(h:aY dir c C=some r) : N4 r.1:=by
  unfold aY at h
  repeat' split at h
  all_goals first | cases h | skip
  · exact i2 rl _ _ hC
  · exact i2 qa _ _ hC
  · exact i2 rz _ _ hC
theorem N4.endC{C:ah}(h:N4 C) : N4 C.endC:=by
  unfold ah.endC
  exact N4.need (by decide) h
theorem qY{form:Int→Int→ah→Option (ah × aP)}(hg:∀ {dir c:Int}{C:ah}{r:ah × aP},N4 C→form dir c C=some r→N4 r.1){dir c:Int}{b:List Int}(hd:dir=0∨dir=1){r:ah × aP}(hf:form dir c ⟨b,false,0⟩=some r) :
    (ae form dir c b).2≠4:=by
  unfold ae
  rw[if_pos hd,hf]
  have h0:N4 ⟨b,false,0⟩:=by show(0:Int)≠4;decide
  have g1:=hg h0 hf
  show(aF r.2 r.1).2≠4
  unfold aF
  split
  · exact(show ¬ (0:Int)=4 from by decide)
  · exact N4.endC g1
theorem mj{form:Int→Int→ah→Option (ah × aP)}{dir c:Int}{b:List Int}(hd:dir=0∨dir=1)(hf:form dir c ⟨b,false,0⟩=none) : ae form dir c b=(aP.zero,4):=by
  unfold ae
  rw[if_pos hd,hf]
def eE (dir:Int)(b:List Int) : aP × Int :=
  if (ae aD dir (b.getD 0 0) (b.drop 1)).2==4 then
    if (ae aH dir (b.getD 0 0) (b.drop 1)).2==4 then
      if (ae aM dir (b.getD 0 0) (b.drop 1)).2==4 then
        if (ae aY dir (b.getD 0 0) (b.drop 1)).2==4 then ae bE dir (b.getD 0 0) (b.drop 1)
        else ae aY dir (b.getD 0 0) (b.drop 1)
      else ae aM dir (b.getD 0 0) (b.drop 1)
    else ae aH dir (b.getD 0 0) (b.drop 1)
  else ae aD dir (b.getD 0 0) (b.drop 1)
theorem p5{dir:Int}{b:List Int}(hd:dir=0∨dir=1) : eE dir b=iy (iI (b.getD 0 0)) dir b:=by
  have no:∀ (form:Int→Int→ah→Option (ah × aP)),form dir (b.getD 0 0) ⟨b.drop 1,false,0⟩=none→((ae form dir (b.getD 0 0) (b.drop 1)).2==4)=true:=fun f h=>by rw[mj hd h];rfl
  have ye:∀ (form:Int→Int→ah→Option (ah × aP)),(∀ {dir c:Int} {C:ah} {r:ah × aP},N4 C→form dir c C=some r→N4 r.1)→(form dir (b.getD 0 0) ⟨b.drop 1,false,0⟩).isSome=true→¬ ((ae form dir (b.getD 0 0) (b.drop 1)).2==4)=true:=fun form hg h=>by
    obtain⟨r,hr⟩:=Option.isSome_iff_exists.1 h
    have k:=qY (form:=form) (c:=b.getD 0 0) (fun hC h=>hg hC h) hd hr
    rw[beq_iff_eq]
    exact k
  unfold eE
  rcases gj (b.getD 0 0) with⟨hk,hf⟩|⟨hk,hf⟩|⟨hk,hf⟩|⟨hk,hf⟩|⟨hk,hf⟩|⟨hk,hf⟩<;>rw[hf]
  · rw[if_neg (ye aD (fun hC h=>qX hC h) (by rcases hd with rfl | rfl<;>rcases hk with h | h | h | h<;>rw[h]<;>rfl))]
    rfl
  · rw[if_pos (no aD (by rcases hk with h | h | h | h | h | h | h<;>rw[h]<;>rfl)),if_neg (ye aH (fun hC h=>s6 hC h) (by rcases hd with rfl | rfl<;>rcases hk with h | h | h | h | h | h | h<;>rw[h]<;>rfl))]
    rfl
  · rw[if_pos (no aD (by rcases hk with h | h | h | h | h<;>rw[h]<;>rfl)),if_pos (no aH (by rcases hk with h | h | h | h | h<;>rw[h]<;>rfl)),if_neg (ye aM (fun hC h=>rC hC h) (by rcases hd with rfl | rfl<;>rcases hk with h | h | h | h | h<;>rw[h]<;>rfl))]
    rfl
  · rw[if_pos (no aD (by rcases hk with h | h<;>rw[h]<;>rfl)),if_pos (no aH (by rcases hk with h | h<;>rw[h]<;>rfl)),if_pos (no aM (by rcases hk with h | h<;>rw[h]<;>rfl)),if_neg (ye aY (fun hC h=>pW hC h) (by rcases hd with rfl | rfl<;>rcases hk with h | h<;>rw[h]<;>rfl))]
    rfl
  · rw[if_pos (no aD (by rw[hk]<;>rfl)),if_pos (no aH (by rw[hk]<;>rfl)),if_pos (no aM (by rw[hk]<;>rfl)),if_pos (no aY (by rw[hk]<;>rfl))]
    rfl
  · have no0:∀ (form:Int→Int→ah→Option (ah × aP)),(∀ C,form dir (b.getD 0 0) C=none)→((ae form dir (b.getD 0 0) (b.drop 1)).2==4)=true:=fun f h=>no f (h _)
    have ne:∀ k:Int,¬ b.getD 0 0=k→(b.getD 0 0==k)=false:=fun k h=>by simpa using h
    obtain⟨z1,z2,z5,a,z3,z4,z6,d,e,g,i,z7,z8,j,l,m,n,o,p⟩:=hk
    rw[if_pos (no0 aD fun C=>by unfold aD;simp only[ne _ z1,ne _ z2,ne _ z5,ne _ a,Bool.or_false,Bool.false_eq_true,if_false]),if_pos (no0 aH fun C=>by unfold aH;simp only[ne _ z3,ne _ z4,ne _ z6,ne _ d,ne _ e,ne _ g,ne _ i,Bool.or_false,Bool.false_eq_true,if_false]),if_pos (no0 aM fun C=>by unfold aM;simp only[ne _ z7,ne _ z8,ne _ j,ne _ l,ne _ m,Bool.or_false,Bool.false_eq_true,if_false]),if_pos (no0 aY fun C=>by unfold aY;simp only[ne _ n,ne _ o,Bool.or_false,Bool.false_eq_true,if_false])]
    exact mj hd (by unfold bE;rw[if_pos (show(b.getD 0 0 != 43)=true from by rw[bne_iff_ne];exact p)])
def fA (dir:Int)(b:List Int) : aP × Int :=
  if dir != 0&&dir != 1 then (aP.zero,1)
  else if (b.length:Int)==0 then (aP.zero,2)
  else if decide (253<(b.length:Int)) then (aP.zero,3)
  else if decide (128≤b.getD 0 0)&&dir==1 then eH b
  else eE dir b
theorem eN(dir:Int)(b:List Int) : fA dir b=dO dir b:=by
  unfold fA dO
  split
  · rfl
  · rename_i hh
    have hd:dir=0∨dir=1:=by simp only[Bool.and_eq_true,bne_iff_ne,ne_eq] at hh;omega
    rw[p5 hd]
open Go.RowKit
theorem iG{P:Program}(t e:TypeId)(sz:Nat){i:TypeInfo}(ht:P.underlying t=some (.slice e))(hi:P.info? e=some i)(hsz:i.size=sz)(A:Option Addr)(n c:Nat){lo up:Int}(k h:Nat)(hlo:lo=(k:Int))(hup:up=(h:Int))(hk:k≤h)(hh:h≤n)(hc:n≤c) :
    ∃ A':Option Addr,(∀ (kl kh:IntKind) (W:World),(Instr.slice t (.slice A n c) (some (.int kl lo)) (some (.int kh up)) none).run P W = .ok (.slice A' (h-k) (c-k)) W) ∧
      ∀ {α:Type} (m:Md) (e':TypeId) (R:World→α→List Value→Prop) (w:World) (xs:List α),aK m e' sz R w (.slice A n c) xs→aK m e' sz R w (.slice A' (h-k) (c-k)) ((xs.take h).drop k):=by
  subst hlo hup
  exact sX t e sz ht hi hsz A n c k h hk hh hc
theorem gi{o:Oper}{ev:Operand→Value}{P:Program}{w:World}{t:TypeId}{x y z:Operand}{A:Option Addr}{n c:Nat}{kl kh:IntKind}{lo hi:Int}{v:Value}{e:TypeId}(ho:o.op = .slice t x (some y) (some z) none)(ht:P.underlying t=some (.slice e))(hx:ev x = .slice A n c)(hy:ev y = .int kl lo)(hz:ev z = .int kh hi)
    (hr:(Instr.slice t (.slice A n c) (some (.int kl lo)) (some (.int kh hi)) none).run P w = .ok v w) : (execOp ev o).run P w = .ok (.value v) w:=by
  have hu:(underlying t).run P w = .ok (.slice e) w:=run_underlying ht w
  unfold execOp
  simp only[ho,Option.map_some,Option.map_none,hx,hy,hz,Instr.sliceAt,Sem.run_bind,hu,hr,Result.andThen,Sem.run_pure]
open Go.RowKit
theorem oE{xs:List Int}{k a b:Nat}(h:2*k+1<xs.length)(ha:a=2*k)(hb:b=2*k+1)(hr:∀ x,x∈xs→0≤x∧x<256) : cV (xs.drop (2*k))=[(((256*xs.getD a 0)%65536)+xs.getD b 0)%65536]++cV (xs.drop (2*(k+1))):=by
  subst ha hb
  rw[List.drop_eq_getElem_cons (show 2*k<xs.length by omega),List.drop_eq_getElem_cons h]
  have h1:=hr _ (List.getElem_mem (show 2*k<xs.length by omega))
  have h2:=hr _ (List.getElem_mem h)
  have e1:xs.getD (2*k) 0=xs[2*k]:=by rw[List.getD_eq_getElem?_getD,List.getElem?_eq_getElem (by omega)];rfl
  have e2:xs.getD (2*k+1) 0=xs[2*k+1]:=by rw[List.getD_eq_getElem?_getD,List.getElem?_eq_getElem h];rfl
  rw[e1,e2]
  show(xs[2*k]*256+xs[2*k+1]) :: cV (xs.drop (2*k+1+1))=_
  rw[show 2*k+1+1=2*(k+1) by omega,show((256*xs[2*k])%65536+xs[2*k+1])%65536=xs[2*k]*256+xs[2*k+1] by omega]
  rfl
theorem o8{xs L:List Int}{k:Nat}(h:L++cV (xs.drop (2*k))=cV xs)(h1:¬ 2*k+1<xs.length)(h2:xs.length%2=0) : L=cA xs:=by
  have hd:xs.drop (2*k)=[]:=List.drop_eq_nil_of_le (by omega)
  rw[hd] at h
  unfold cA
  rw[if_pos h2,← h]
  simp[cV]
theorem t8{m:Md}{A:Option Addr}{cp:Nat}{xs:List Int}{w:World}(h:bg m w (.slice A xs.length cp) xs)(hn:xs.length≤1048576) : Calls Tryz.prog 217 #[.slice A xs.length cp] w (qi xs w):=by
 have hr:=bg.range h
 refine en 33 Tryz.func217 rfl<|sg<|Pl 1<|ng<|Pl 1<|nt<|sq<|sg<|?_
 refine Pl 2<|L0<|Oe (.int .i64 (Int.tmod ((xs.length:Nat) : Int) 2)) (.int .i64 (((xs.length:Nat) : Int)%2)) (congrArg (Value.int .i64) (Int.tmod_eq_emod_of_nonneg (by omega)))<|Pl 1<|nt<|cb (((((xs.length:Nat) : Int)%2)==1)) (fun f=>?_) (fun f=>?_)
 have y:=al f
 refine sg<|Pl 1<|nt<|rt<|tr<|rr (.slice none 0 0)<|?_
 have hs:cA xs=[]:=by unfold cA;rw[if_neg (by have:=al f;omega)]
 exact⟨_,rfl,by rw[hs];exact be.nil ..,(aE.refl [] _)⟩
 have y:=ap f
 refine bq<|sq<|sg<|Pl 1<|nt<|bk<|?_
 refine jw (fun x=>[(0,.slice A xs.length cp),(2,.slice none 0 0),(3,.slice x.2.2.1 x.2.1.length x.2.2.2),(4,.int .i64 ((2*x.1:Nat) : Int))]) (fun(x:Nat × List Int × Option Addr × Nat) w'=>aE [] w w'∧iz w.heap.size w' (.slice x.2.2.1 x.2.1.length x.2.2.2) x.2.1∧(2*x.1≤xs.length)∧(x.2.1++cV (xs.drop (2*x.1))=cV xs)∧(x.2.1.length=x.1)) (fun x=>xs.length-2*x.1) (0,[],none,0) ⟨aE.refl _ _,(be.nil w.heap.size _ _ qq _),(by(try dsimp only);omega),rfl,rfl⟩ ?_
 rintro⟨k,L,B,cq⟩ z ⟨g,C,D,E,F⟩
 refine jr [(0,.slice A xs.length cp),(2,.slice none 0 0),(3,.slice B L.length cq),(4,.int .i64 ((2*k:Nat) : Int))] ?_
 have j:iz w.heap.size z (.slice B L.length cq) L:=C
 have T:2*k≤xs.length:=D
 have U:L++cV (xs.drop (2*k))=cV xs:=E
 have V:L.length=k:=F
 have hL:L++cV (xs.drop (2*k))=cV xs:=by assumption
 refine sq<|sg<|Pl 1<|L0<|Oi (((2*k:Nat) : Int)+1)<|Pl 3<|nt<|cb ((decide ((((2*k:Nat) : Int)+1)<((xs.length:Nat) : Int)))) (fun l=>?_) (fun l=>?_)
 have G:=of_decide_eq_true l
 refine bq<|sq<|bk<|?_
 have o:=bg.old h g
 refine fl (bg.at_ o (2*k) (by omega)) fun H I p q W=>fl (bg.at_ o (((((2*k:Nat) : Int)+1)).toNat) (by omega)) fun J K r s X=>Rg 17 (fun w'=>w'.cell? ⟨H,I+2*k,none⟩=some (.int .u8 (xs.getD (2*k) 0))∧w'.cell? ⟨J,K+((((2*k:Nat) : Int)+1)).toNat,none⟩=some (.int .u8 (xs.getD (((((2*k:Nat) : Int)+1)).toNat) 0))) fun Y d=>bh ⟨(uc d q),(uc d s)⟩ fun c=>Rt 0 c<|Rt 1 c<|Rt 2 c<|lz 3 c xs.length (2*k) ((2*k:Nat) : Int) rfl p (by omega)<|Rl 4 c (fun _ hs=>hs.1)<|Rr 5 c (.int .u16 (xs.getD (2*k) 0)) (fun _ _=>bY (.int .u16 (IntKind.u16.wrap (xs.getD (2*k) 0))) (by kernel_rfl) (congrArg (Value.int .u16) (i5 (by omega))))<|Rt 6 c<|Rt 7 c<|Rt 8 c<|Rr 9 c (.int .i64 (((2*k:Nat) : Int)+1)) (fun _ _=>bY (.int .i64 (IntKind.i64.wrap (((2*k:Nat) : Int)+1))) (by kernel_rfl) (congrArg (Value.int .i64) (IntWalk.i64_in _ (by omega))))<|?_
 refine lz 10 c xs.length (((((2*k:Nat) : Int)+1)).toNat) (((2*k:Nat) : Int)+1) (by omega) r (by omega)<|Rl 11 c (fun _ hs=>hs.2)<|Rr 12 c (.int .u16 (xs.getD (((((2*k:Nat) : Int)+1)).toNat) 0)) (fun _ _=>bY (.int .u16 (IntKind.u16.wrap (xs.getD (((((2*k:Nat) : Int)+1)).toNat) 0))) (by kernel_rfl) (congrArg (Value.int .u16) (i5 (by omega))))<|Rt 13 c<|R0 14 rfl<|dy (m:=1) (e:=24) #[.int .u16 ((((256*(xs.getD (2*k) 0))%65536)+(xs.getD (((((2*k:Nat) : Int)+1)).toNat) 0))%65536)] fun Z a0 M N n=>?_
 have O:=dV M (xs:=[((((256*(xs.getD (2*k) 0))%65536)+(xs.getD (((((2*k:Nat) : Int)+1)).toNat) 0))%65536)]) (by as_aux_lemma=>kernel_rfl) (az (by omega) aZ) (by(try simp only[List.length_cons,List.length_nil]);omega) N
 have i:=aI d n
 refine bh ⟨(uc i q),(uc i s)⟩ fun a1=>?_
 refine R0 15 rfl<|cM nN (xs:=L) (ys:=([((((256*(xs.getD (2*k) 0))%65536)+(xs.getD (((((2*k:Nat) : Int)+1)).toNat) 0))%65536)])) (.int .u16 0) 2 (ax j i (fun x hx=>ay) (fun _ _ h=>h)) (O).rd (by(try simp only[List.length_append,List.length_cons,List.length_nil,aC]);omega) (le (le g.size d.size) n.size) fun P Q a2 R t=>?_
 have a3:=ut (aE.mono (S':=(ob B++[])) i au) t (av (fun x hx=>Or.inl (by simp[hx])) au)
 have u:=ut (aI (aI g d) n) t (av (aU j lr) au)
 have v:=bg.old h u
 exact bh ⟨(cB v p (2*k) (by omega)),(cB v r (((((2*k:Nat) : Int)+1)).toNat) (by omega))⟩ fun S=>Rt 16 S<|re<|bn<|tn<|go<|Pl 1<|L0<|Oi (((2*k:Nat) : Int)+2)<|Pl 1<|nl<|gt ((k+1),(L++[((((256*(xs.getD (2*k) 0))%65536)+(xs.getD (((((2*k:Nat) : Int)+1)).toNat) 0))%65536)]),P,Q) ⟨u,R,(by(try dsimp only);omega),(by(try dsimp only);rw[← hL,oE (k:=k) (a:=2*k) (b:=(((2*k:Nat) : Int)+1).toNat) (by omega) rfl (by omega) hr,List.append_assoc]),(by(try dsimp only);simp only[List.length_append,List.length_cons,List.length_nil];omega)⟩ (by omega)
 have G:=of_decide_eq_false l
 refine xt<|tx<|tx<|bx<|tn<|sg<|Pl 2<|nt<|rt<|rr (.slice B L.length cq)<|?_
 have hs:L=cA xs:=o8 hL (by omega) (by omega)
 exact⟨_,rfl,by rw[← hs];exact j,g⟩
theorem sx{m:Md}{v:Value}{xs:List Int}{w:World}(h:bg m w v xs)(hn:xs.length≤1048576) : Calls Tryz.prog 217 #[v] w (qi xs w):=by
  obtain⟨A,cp,rfl,_,_⟩:=h.shape
  exact t8 h hn
theorem nQ{a n:Int}{w:World}(ha:0≤a∧a<65536)(hn : -1048576≤n∧n≤1048576) : Calls Tryz.prog 215 #[.int .u16 a,.int .i64 n] w (dh (.bool (db a n)) w):=by
 refine en 16 Tryz.func215 rfl<|sg<|Pl 1<|nt<|sq<|sg<|Pl 3<|cu 3 [7] 10 (((decide (n<1))||(decide (65536<n)))) (fun K d=>?_) ?_
 refine bl 7 ((decide (n<1))) (fun b=>?_) (fun b=>?_)
 have e:=of_decide_eq_true b
 exact Pl 3<|ce d true (by rw[b];rfl)
 have e:=of_decide_eq_false b
 exact Pl 3<|ce d (decide (65536<n)) (by rw[b];rfl)
 refine nt<|cb (((decide (n<1))||(decide (65536<n)))) (fun c=>?_) (fun c=>?_)
 refine sg<|Pl 1<|nt<|rt<|tr<|rr (.bool false)<|?_
 have hq:=c
 have hs:db a n=false:=by unfold db;simp only[Bool.or_eq_true,decide_eq_true_eq] at hq;simp only[Bool.and_eq_false_iff,decide_eq_false_iff_not];omega
 rw[hs]
 exact⟨rfl,(aE.refl [] _)⟩
 have f:=(aJ c).1
 have g:=(aJ c).2
 have h:=of_decide_eq_false f
 have i:=of_decide_eq_false g
 refine bq<|sg<|Pl 1<|L0<|Oi a<|Pl 1<|L0<|Oi (a+n)<|Pl 2<|nt<|rt<|rr (.bool (decide ((a+n)≤65536)))<|?_
 have hs:db a n=(decide ((a+n)≤65536)):=by unfold db;rw[Bool.eq_iff_iff];simp only[Bool.and_eq_true,decide_eq_true_eq];omega
 rw[hs]
 exact⟨rfl,(aE.refl [] _)⟩
open Go.RowKit
def vk (A:Option Addr)(cp:Nat)(full:List Int)(k:Nat)(C:ah) : Array Value:=#[.slice A full.length cp,.int .i64 ((k:Nat) : Int),.bool C.sh,.int .i64 C.e]
structure RC (w0:World) (m:Md) (A:Option Addr) (cp:Nat) (full:List Int) (w:World) (g:Nat) (C:ah) : Prop where
  src:bg m w0 (.slice A full.length cp) full
  u:aE [] w0 w
  new:w0.heap.size≤g
  cell:∃ k:Nat,w.heap[g]? = some (.cells (vk A cp full k C) 159 (0,0))∧k≤full.length∧C.l=full.drop k
  len:full.length≤1048576
theorem RC.upd{w0:World}{m:Md}{A:Option Addr}{cp:Nat}{full:List Int}{w w':World}{g:Nat}{C:ah}{S:List Nat}(h:RC w0 m A cp full w g C)(hu:aE S w w')(hg:g∉S)(U:aE [] w0 w') : RC w0 m A cp full w' g C:=by
  obtain⟨h1,h2,h3,⟨k,h4,h5,h6⟩,h7⟩:=h
  exact⟨h1,U,h3,⟨k,hu.blk hg h4,h5,h6⟩,h7⟩
theorem RC.rd{w0:World}{m:Md}{A:Option Addr}{cp:Nat}{full:List Int}{w:World}{g:Nat}{C:ah}(h:RC w0 m A cp full w g C) : bg m w (.slice A full.length cp) full:=bg.old h.src h.u
theorem RC.rng{w0:World}{m:Md}{A:Option Addr}{cp:Nat}{full:List Int}{w:World}{g:Nat}{C:ah}(h:RC w0 m A cp full w g C) : ∀ x,x∈C.l→0≤x∧x<256:=fun x hx=>by
  obtain⟨k,_,_,h2⟩:=h.cell
  rw[h2] at hx
  exact bg.range h.src x (List.mem_of_mem_drop hx)
theorem s7(C:ah){ok:Bool}{x:Int}(h:(ok || (C.e != 0))=true) : C.need ok x=C:=by
  unfold ah.need
  rw[if_neg]
  rintro⟨h1,rfl⟩
  rw[h1] at h
  cases h
theorem rE(C:ah){ok:Bool}{x:Int}(h:(ok || (C.e != 0))=false) : C.need ok x = { C with e:=x }:=by
  simp only[Bool.or_eq_false_iff,bne_eq_false_iff_eq] at h
  unfold ah.need
  rw[if_pos ⟨h.2,h.1⟩]
def sH (w0:World)(m:Md)(A:Option Addr)(cp:Nat)(full:List Int)(g:Nat)(C:ah)(w:World)(e:Ending)(w':World) : Prop:=e = .returned (.tuple #[])∧RC w0 m A cp full w' g C∧aE [g] w w'
theorem aV{w0:World}{m:Md}{A:Option Addr}{cp:Nat}{full:List Int}{w:World}{g:Nat}{C:ah}(ok:Bool)(x:Int)(hC:RC w0 m A cp full w g C) :
    Calls Tryz.prog 152 #[.pointer (some ⟨g,0,none⟩),.bool ok,.int .i64 x] w (sH w0 m A cp full g (C.need ok x) w):=by
 obtain⟨hsrc,hU,hnew,⟨k,hB,hk,hl⟩,hlen⟩:=hC
 refine en 18 Tryz.func152 rfl<|sq<|sg<|Pl 2<|cu 6 [7] 13 ((ok || (C.e != 0))) (fun K c=>?_) ?_
 refine bl 7 (ok) (fun b=>?_) (fun b=>?_)
 exact Pl 6<|ce c true (by rw[b];rfl)
 exact Pl 3<|L1<|aR hB 3<|Pl 2<|ce c (C.e != 0) (by rw[b];rfl)
 refine nt<|cb ((ok || (C.e != 0))) (fun a=>?_) (fun a=>?_)
 refine rt<|tr<|rr (.tuple #[])<|?_
 rw[s7 C a]
 exact⟨rfl,⟨hsrc,hU.trans' (aE.mono (S':=[g]) (aE.refl [] _) au) (fun x hx=>.inr (by simp at hx;subst hx;exact hnew)),hnew,⟨k,hB,hk,hl⟩,hlen⟩,(aE.mono (S':=[g]) (aE.refl [] _) au)⟩
 have i:=(aJ a).1
 have f:=(aJ a).2
 have j:=ai f
 refine bq<|go<|Pl 4<|L0<|bU hB 3 #[.slice A full.length cp,.int .i64 ((k:Nat) : Int),.bool C.sh,.int .i64 x] fun l h d=>nl<|rm (.tuple #[])<|?_
 rw[rE C a]
 exact⟨rfl,⟨hsrc,hU.trans' d (fun x hx=>.inr (by simp at hx;subst hx;exact hnew)),hnew,⟨k,h,hk,hl⟩,hlen⟩,d⟩
theorem hH{C:ah}{full:List Int}{k:Nat}{n:Int}(hk:k≤full.length)(hl:C.l=full.drop k) : C.fails n=((C.sh || decide (n<0))||decide ((((full.length:Nat) : Int)-((k:Nat) : Int))<n)):=by
  unfold ah.fails
  rw[hl,List.length_drop,show((full.length-k:Nat) : Int)=((full.length:Nat) : Int)-((k:Nat) : Int) by omega]
def rV (w0:World)(m:Md)(A:Option Addr)(cp:Nat)(full:List Int)(g:Nat)(C:ah)(n:Int)(w:World)(e:Ending)(w':World) : Prop:=∃ A2 n2 c2,e = .returned (.slice A2 n2 c2)∧(∀ m' w'',bg m' w'' (.slice A full.length cp) full→bg m' w'' (.slice A2 n2 c2) (C.bytesR n))∧RC w0 m A cp full w' g (C.bytesC n)∧aE [g] w w'
theorem s0{l full:List Int}{k a b:Nat}(hl:l=full.drop k)(h:b=k+a) : l.drop a=full.drop b:=by
  rw[hl,List.drop_drop,h]
theorem mT{C:ah}{full:List Int}{k:Nat}{n:Int}(hk:k≤full.length)(hl:C.l=full.drop k)(hf:C.fails n=false)(a b:Nat)(ha:(a:Int)=k)(hb:(b:Int)=(k:Int)+n) : (full.take b).drop a=C.bytesR n:=by
  obtain rfl:a=k:=by omega
  unfold ah.bytesR
  rw[hf,hl,List.drop_take]
  show _=(full.drop a).take n.toNat
  rw[show b-a=n.toNat by omega]
theorem nw{w0:World}{m:Md}{A:Option Addr}{cp:Nat}{full:List Int}{w:World}{g:Nat}{C:ah}{n:Int}(hn : -1048576≤n∧n≤2097152)(hC:RC w0 m A cp full w g C) :
    Calls Tryz.prog 153 #[.pointer (some ⟨g,0,none⟩),.int .i64 n] w (rV w0 m A cp full g C n w):=by
 obtain⟨hsrc,hU,hnew,⟨k,hB,hk,hl⟩,hlen⟩:=hC
 have hcp:full.length≤cp:=by obtain⟨_,_,hv,h1,_⟩:=aK.shape hsrc;injection hv with _ _ h3;omega
 refine en 64 Tryz.func153 rfl<|sg<|Pl 1<|nt<|sq<|sq<|Rg 22 (fun w'=>w'.cell? ⟨g,2,none⟩=some (.bool C.sh)∧w'.cell? ⟨g,0,none⟩=some (.slice A full.length cp)∧w'.cell? ⟨g,1,none⟩=some (.int .i64 ((k:Nat) : Int))) fun a4 i=>?_
 have d:=ub i hB
 refine bh ⟨(ag d rfl),(ag d rfl),(ag d rfl)⟩ fun a=>Rt 0 a<|Rt 1 a<|Rt 2 a<|Rl 3 a (fun _ hs=>hs.1)<|Rt 4 a<|pj 9 (C.sh) (fun j=>?_) (fun j=>?_)
 refine Ro 5 a<|Ro 6 a<|Rt 7 a<|Rt 8 a<|Ro 9 a<|Ro 10 a<|Ro 11 a<|Ro 12 a<|Ro 13 a<|Ro 14 a<|Ro 15 a<|Ro 16 a<|Ro 17 a<|Ro 18 a<|?_
 refine Ro 19 a<|Ro 20 a<|Rt 21 a<|re<|tn<|c1<|sg<|Pl 3<|L0<|bU d 2 #[.slice A full.length cp,.int .i64 ((k:Nat) : Int),.bool true,.int .i64 C.e] fun a5 q D=>ng<|?_
 refine Pl 4<|L0<|aR q 0<|Pl 3<|L0<|bU q 1 #[.slice A full.length cp,.int .i64 ((full.length:Nat) : Int),.bool true,.int .i64 C.e] fun E F G=>ng<|Pl 1<|?_
 have r:=u1 (u1 (aE.mono (S':=[g]) i au) D im) G im
 have H:RC w0 m A cp full E g { C with l:=[],sh:=true }:=⟨hsrc,hU.trans' r (fun x hx=>.inr (by simp at hx;subst hx;exact hnew)),hnew,⟨full.length,F,Nat.le_refl _,List.drop_length.symm⟩,hlen⟩
 refine L0<|Oc<|m2 (aV false 2 H) fun a6 I J=>ng<|Pl 1<|nt<|rt<|tr<|rr (.slice none 0 0)<|?_
 have hf:C.fails n=true:=by rw[hH (n:=n) hk hl,j];rfl
 have e1:C.bytesR n=[]:=by unfold ah.bytesR;rw[hf];rfl
 have e2:C.bytesC n=ah.need { C with l:=[],sh:=true } false 2:=by unfold ah.bytesC;rw[hf];rfl
 exact⟨none,0,0,rfl,fun _ _ _=>by rw[e1];exact aK.nil ..,by rw[e2];exact I,(u1 r J im)⟩
 refine Rt 5 a<|Rt 6 a<|Rt 7 a<|Rt 8 a<|pj 13 ((decide (n<0))) (fun f=>?_) (fun f=>?_)
 have K:=of_decide_eq_true f
 refine Ro 9 a<|Ro 10 a<|Ro 11 a<|Ro 12 a<|Ro 13 a<|Ro 14 a<|Ro 15 a<|Ro 16 a<|Ro 17 a<|Ro 18 a<|Ro 19 a<|Ro 20 a<|Rt 21 a<|re<|?_
 refine tn<|c1<|sg<|Pl 3<|L0<|bU d 2 #[.slice A full.length cp,.int .i64 ((k:Nat) : Int),.bool true,.int .i64 C.e] fun a7 s L=>ng<|Pl 4<|L0<|aR s 0<|Pl 3<|L0<|bU s 1 #[.slice A full.length cp,.int .i64 ((full.length:Nat) : Int),.bool true,.int .i64 C.e] fun M N O=>?_
 refine ng<|Pl 1<|?_
 have t:=u1 (u1 (aE.mono (S':=[g]) i au) L im) O im
 have Q:RC w0 m A cp full M g { C with l:=[],sh:=true }:=⟨hsrc,hU.trans' t (fun x hx=>.inr (by simp at hx;subst hx;exact hnew)),hnew,⟨full.length,N,Nat.le_refl _,List.drop_length.symm⟩,hlen⟩
 refine L0<|Oc<|m2 (aV false 2 Q) fun a8 R S=>ng<|Pl 1<|nt<|rt<|tr<|rr (.slice none 0 0)<|?_
 have hf:C.fails n=true:=by rw[hH (n:=n) hk hl,j,f];rfl
 have e1:C.bytesR n=[]:=by unfold ah.bytesR;rw[hf];rfl
 have e2:C.bytesC n=ah.need { C with l:=[],sh:=true } false 2:=by unfold ah.bytesC;rw[hf];rfl
 exact⟨none,0,0,rfl,fun _ _ _=>by rw[e1];exact aK.nil ..,by rw[e2];exact R,(u1 t S im)⟩
 have K:=of_decide_eq_false f
 refine Rt 9 a<|Rt 10 a<|Rt 11 a<|Rt 12 a<|Rl 13 a (fun _ hs=>hs.2.1)<|Rt 14 a<|Rt 15 a<|Rt 16 a<|Rt 17 a<|Rl 18 a (fun _ hs=>hs.2.2)<|Rr 19 a (.int .i64 (((full.length:Nat) : Int)-((k:Nat) : Int))) (fun _ _=>bY (.int .i64 (IntKind.i64.wrap (((full.length:Nat) : Int)-((k:Nat) : Int)))) (by kernel_rfl) (congrArg (Value.int .i64) (IntWalk.i64_in _ (by omega))))<|Rt 20 a<|Rt 21 a<|re<|?_
 refine tn<|cb ((decide ((((full.length:Nat) : Int)-((k:Nat) : Int))<n))) (fun o=>?_) (fun o=>?_)
 have T:=of_decide_eq_true o
 refine sg<|Pl 3<|L0<|bU d 2 #[.slice A full.length cp,.int .i64 ((k:Nat) : Int),.bool true,.int .i64 C.e] fun a9 u U=>ng<|Pl 4<|L0<|aR u 0<|Pl 3<|L0<|bU u 1 #[.slice A full.length cp,.int .i64 ((full.length:Nat) : Int),.bool true,.int .i64 C.e] fun V W X=>nt<|?_
 refine sg<|Pl 1<|?_
 have v:=u1 (u1 (aE.mono (S':=[g]) i au) U im) X im
 have Y:RC w0 m A cp full V g { C with l:=[],sh:=true }:=⟨hsrc,hU.trans' v (fun x hx=>.inr (by simp at hx;subst hx;exact hnew)),hnew,⟨full.length,W,Nat.le_refl _,List.drop_length.symm⟩,hlen⟩
 refine L0<|Oc<|m2 (aV false 2 Y) fun aa Z a0=>ng<|Pl 1<|nt<|rt<|tr<|rr (.slice none 0 0)<|?_
 have hf:C.fails n=true:=by rw[hH (n:=n) hk hl,j,f,o];rfl
 have e1:C.bytesR n=[]:=by unfold ah.bytesR;rw[hf];rfl
 have e2:C.bytesC n=ah.need { C with l:=[],sh:=true } false 2:=by unfold ah.bytesC;rw[hf];rfl
 exact⟨none,0,0,rfl,fun _ _ _=>by rw[e1];exact aK.nil ..,by rw[e2];exact Z,(u1 v a0 im)⟩
 have T:=of_decide_eq_false o
 refine bq<|sg<|Pl 4<|L0<|aR d 1<|Pl 1<|L0<|Oi (((k:Nat) : Int)+n)<|Pl 2<|L0<|bU d 1 #[.slice A full.length cp,.int .i64 (((k:Nat) : Int)+n),.bool C.sh,.int .i64 C.e] fun ab a1 a2=>nt<|sq<|Rg 16 (fun w'=>w'.cell? ⟨g,0,none⟩=some (.slice A full.length cp)∧w'.cell? ⟨g,1,none⟩=some (.int .i64 (((k:Nat) : Int)+n))) fun ac y=>?_
 have p:=ub y a1
 refine bh ⟨(ag p rfl),(ag p rfl)⟩ fun b=>Rt 0 b<|Rt 1 b<|Rt 2 b<|Rl 3 b (fun _ hs=>hs.1)<|Rt 4 b<|Rt 5 b<|Rt 6 b<|Rl 7 b (fun _ hs=>hs.2)<|Rt 8 b<|Rr 9 b (.int .i64 ((((k:Nat) : Int)+n)-n)) (fun _ _=>bY (.int .i64 (IntKind.i64.wrap ((((k:Nat) : Int)+n)-n))) (by kernel_rfl) (congrArg (Value.int .i64) (IntWalk.i64_in _ (by omega))))<|Rt 10 b<|Rt 11 b<|Rt 12 b<|?_
 refine Rl 13 b (fun _ hs=>hs.2)<|mS (iG (P:=Tryz.prog) 22 5 1 Tryz.underlying22 rfl rfl A full.length cp (lo:=((((k:Nat) : Int)+n)-n)) (up:=(((k:Nat) : Int)+n)) ((((((k:Nat) : Int)+n)-n)).toNat) (((((k:Nat) : Int)+n)).toNat) (by omega) (by omega) (by omega) (by omega) (by omega)) fun z hrun69 a3=>Rr 14 b (.slice z ((((((k:Nat) : Int)+n)).toNat)-((((((k:Nat) : Int)+n)-n)).toNat)) (cp-((((((k:Nat) : Int)+n)-n)).toNat))) (fun _ _=>gi (kl:=.i64) (kh:=.i64) (lo:=((((k:Nat) : Int)+n)-n)) (hi:=(((k:Nat) : Int)+n)) (A:=A) (n:=full.length) (c:=cp) rfl Tryz.underlying22 (by kernel_rfl) (by kernel_rfl) (by kernel_rfl) (hrun69 _ _ _))<|Rt 15 b<|re<|tn<|rt<|rr (.slice z ((((((k:Nat) : Int)+n)).toNat)-((((((k:Nat) : Int)+n)-n)).toNat)) (cp-((((((k:Nat) : Int)+n)-n)).toNat)))<|?_
 have hf:C.fails n=false:=by rw[hH (n:=n) hk hl,j,f,o];rfl
 have B:=aI (u1 (aE.mono (S':=[g]) i au) a2 im) y
 have e2:C.bytesC n = { C with l:=C.l.drop n.toNat }:=by unfold ah.bytesC;rw[hf];rfl
 exact⟨_,_,_,rfl,fun m' w'' h=>by have:=a3 m' _ _ w'' full h;rw[mT hk hl hf _ _ (by omega) (by omega)] at this;exact this,by rw[e2];exact⟨hsrc,hU.trans' B (fun x hx=>.inr (by simp at hx;subst hx;exact hnew)),hnew,⟨(((k:Nat) : Int)+n).toNat,(by unfold vk;rw[show((((((k:Nat) : Int)+n).toNat:Nat) : Int))=((k:Nat) : Int)+n by omega];exact p),by omega,s0 hl (by omega)⟩,hlen⟩,B⟩
def sd (w0:World)(m:Md)(A:Option Addr)(cp:Nat)(full:List Int)(g:Nat)(C:ah)(n:Int)(w:World)(e:Ending)(w':World) : Prop:=∃ A2 c2,e = .returned (.slice A2 (C.bytesR n).length c2)∧(∀ m' w'',bg m' w'' (.slice A full.length cp) full→bg m' w'' (.slice A2 (C.bytesR n).length c2) (C.bytesR n))∧RC w0 m A cp full w' g (C.bytesC n)∧aE [g] w w'
theorem eY{w0:World}{m:Md}{A:Option Addr}{cp:Nat}{full:List Int}{w:World}{g:Nat}{C:ah}{n:Int}(hn : -1048576≤n∧n≤2097152)(hC:RC w0 m A cp full w g C) : Calls Tryz.prog 153 #[.pointer (some ⟨g,0,none⟩),.int .i64 n] w (sd w0 m A cp full g C n w):=by
  refine(nw hn hC).mono ?_
  rintro e w' ⟨A2,n2,c2,rfl,h1,h2,h3⟩
  obtain⟨_,_,hv,_⟩:=aK.shape (h1 m w0 hC.src)
  injection hv with _ e2 _
  subst e2
  exact⟨A2,c2,rfl,h1,h2,h3⟩
theorem sr{full:List Int}{k:Nat}{C:ah}(hk:k≤full.length)(hl:C.l=full.drop k) : ((full.length:Nat) : Int)-((k:Nat) : Int)=((C.l.length:Nat) : Int):=by
  rw[hl,List.length_drop]
  omega
theorem gB{w0:World}{m:Md}{A:Option Addr}{cp:Nat}{full:List Int}{w:World}{g:Nat}{C:ah}(hC:RC w0 m A cp full w g C) :
    Calls Tryz.prog 161 #[.pointer (some ⟨g,0,none⟩)] w (dh (.int .i64 ((C.l.length:Nat) : Int)) w):=by
 obtain⟨hsrc,hU,hnew,⟨k,hB,hk,hl⟩,hlen⟩:=hC
 have hcp:full.length≤1048576:=hlen
 refine en 13 Tryz.func161 rfl<|sg<|Pl 1<|nt<|sq<|Rg 11 (fun w'=>w'.cell? ⟨g,0,none⟩=some (.slice A full.length cp)∧w'.cell? ⟨g,1,none⟩=some (.int .i64 ((k:Nat) : Int))) fun d b=>?_
 have c:=ub b hB
 refine bh ⟨(ag c rfl),(ag c rfl)⟩ fun a=>Rt 0 a<|Rt 1 a<|Rt 2 a<|Rl 3 a (fun _ hs=>hs.1)<|Rt 4 a<|Rt 5 a<|Rt 6 a<|Rt 7 a<|Rl 8 a (fun _ hs=>hs.2)<|Rr 9 a (.int .i64 (((full.length:Nat) : Int)-((k:Nat) : Int))) (fun _ _=>bY (.int .i64 (IntKind.i64.wrap (((full.length:Nat) : Int)-((k:Nat) : Int)))) (by kernel_rfl) (congrArg (Value.int .i64) (IntWalk.i64_in _ (by omega))))<|Rt 10 a<|re<|tn<|?_
 refine rt<|rr (.int .i64 (((full.length:Nat) : Int)-((k:Nat) : Int)))<|?_
 rw[sr hk hl]
 exact⟨rfl,b⟩
theorem dT{w0:World}{m:Md}{A:Option Addr}{cp:Nat}{full:List Int}{w:World}{g:Nat}{C:ah}(hC:RC w0 m A cp full w g C) :
    Calls Tryz.prog 157 #[.pointer (some ⟨g,0,none⟩)] w (sH w0 m A cp full g C.endC w):=by
 refine en 7 Tryz.func157 rfl<|go<|Pl 2<|L0<|Oc<|m1 (gB hC) fun e a=>?_
 have b:=RC.upd hC a ay (aE.step (RC.u hC) a)
 refine Pl 1<|L0<|Oc<|m2 (aV ((((C.l.length:Nat) : Int)==0)) 3 b) fun f c d=>nl<|rm (.tuple #[])<|?_
 exact⟨rfl,c,(u1 (aE.mono (S':=[g]) a au) d im)⟩
theorem RC.clen{w0:World}{m:Md}{A:Option Addr}{cp:Nat}{full:List Int}{w:World}{g:Nat}{C:ah}(h:RC w0 m A cp full w g C) : C.l.length≤1048576:=by
  obtain⟨k,_,_,h2⟩:=h.cell
  have:=h.len
  rw[h2,List.length_drop]
  omega
theorem p7{C:ah}(h:((((C.bytesR 1).length:Nat) : Int)==0)=true) : C.byteV=0:=by
  have hz:C.bytesR 1=[]:=List.eq_nil_of_length_eq_zero (by have:=al h;omega)
  unfold ah.byteV
  rw[hz]
  rfl
def mK (w0:World)(m:Md)(A:Option Addr)(cp:Nat)(full:List Int)(g:Nat)(q:IntKind)(M x:Int)(C:ah)(w:World)(e:Ending)(w':World) : Prop:=e = .returned (.int q x)∧RC w0 m A cp full w' g C∧aE [g] w w'∧0≤x∧x<M
theorem dC{w0:World}{m:Md}{A:Option Addr}{cp:Nat}{full:List Int}{w:World}{g:Nat}{C:ah}(hC:RC w0 m A cp full w g C) :
    Calls Tryz.prog 151 #[.pointer (some ⟨g,0,none⟩)] w (mK w0 m A cp full g .u8 256 C.byteV (C.bytesC 1) w):=by
 refine en 12 Tryz.func151 rfl<|sg<|Pl 1<|ng<|Pl 1<|L0<|Oc<|mH (eY (n:=1) (by omega) hC) fun k l o d b c=>?_
 have q:=Nat.le_trans (ah.bytesR_le C 1) (RC.clen hC)
 refine Pl 1<|nt<|sq<|sg<|Pl 3<|nt<|cb (((((C.bytesR 1).length:Nat) : Int)==0)) (fun a=>?_) (fun a=>?_)
 have e:=al a
 refine sg<|Pl 1<|nt<|rt<|tr<|rr (.int .u8 0)<|?_
 exact⟨by rw[p7 a],b,c,kz (RC.rng hC)⟩
 have e:=ap a
 refine bq<|sg<|Pl 1<|fl (bg.at_ (d _ _ (RC.rd b)) 0 (by omega)) fun f h i j r=>L0<|jt ((C.bytesR 1).length) 0 i (by omega)<|L0<|dZ (p:=⟨f,h+0,none⟩) (v:=.int .u8 ((C.bytesR 1).getD 0 0)) j<|Pl 1<|nt<|rt<|rr (.int .u8 ((C.bytesR 1).getD 0 0))<|?_
 exact⟨rfl,b,c,kz (RC.rng hC)⟩
theorem oD{C:ah}{full:List Int}{k:Nat}{n:Int}(hk:k≤full.length)(hl:C.l=full.drop k)(h:(decide (n<0)||decide (((full.length:Nat) : Int)<n))=true) : C.wordsR n=cA (C.bytesR (-1))∧C.wordsC n=C.bytesC (-1):=by
  have hb:C.wbad n=true:=by
    unfold ah.wbad
    simp only[Bool.or_eq_true,decide_eq_true_eq] at h ⊢
    rw[hl,List.length_drop]
    omega
  have hf:C.fails (-1)=true:=by
    unfold ah.fails
    simp
  constructor
  · unfold ah.wordsR ah.bytesR
    rw[hb,hf]
    rfl
  · unfold ah.wordsC
    rw[hb]
    rfl
theorem pJ{C:ah}{full:List Int}{k:Nat}{n:Int}(hk:k≤full.length)(hl:C.l=full.drop k)(h:(decide (n<0)||decide (((full.length:Nat) : Int)<n))=false) : C.wordsR n=cA (C.bytesR (n+n))∧C.wordsC n=C.bytesC (n+n):=by
  simp only[Bool.or_eq_false_iff,decide_eq_false_iff_not] at h
  by_cases hw:((C.l.length:Int)<n)
  · have hb:C.wbad n=true:=by
      unfold ah.wbad
      simp only[Bool.or_eq_true,decide_eq_true_eq]
      omega
    have hf:C.fails (-1)=true:=by
      unfold ah.fails
      simp
    have hf2:C.fails (n+n)=true:=by
      unfold ah.fails
      simp only[Bool.or_eq_true,decide_eq_true_eq]
      omega
    constructor
    · unfold ah.wordsR ah.bytesR
      rw[hb,hf2]
      rfl
    · unfold ah.wordsC
      rw[hb]
      unfold ah.bytesC
      rw[hf2,hf]
      rfl
  · have hb:C.wbad n=false:=by
      unfold ah.wbad
      simp only[Bool.or_eq_false_iff,decide_eq_false_iff_not]
      omega
    constructor
    · unfold ah.wordsR
      rw[hb,show 2*n=n+n by omega]
      rfl
    · unfold ah.wordsC
      rw[hb,show 2*n=n+n by omega]
      rfl
def rU (w0:World)(m:Md)(A:Option Addr)(cp:Nat)(full:List Int)(g:Nat)(C:ah)(n:Int)(w:World)(e:Ending)(w':World) : Prop:=∃ v,e = .returned v∧iz w.heap.size w' v (C.wordsR n)∧RC w0 m A cp full w' g (C.wordsC n)∧aE [g] w w'
theorem fj{w0:World}{m:Md}{A:Option Addr}{cp:Nat}{full:List Int}{w:World}{g:Nat}{C:ah}{n:Int}(hn : -1048576≤n∧n≤1048576)(hC:RC w0 m A cp full w g C) :
    Calls Tryz.prog 158 #[.pointer (some ⟨g,0,none⟩),.int .i64 n] w (rU w0 m A cp full g C n w):=by
 have hC0:=hC
 obtain⟨hsrc,hU,hnew,⟨k,hB,hk,hl⟩,hlen⟩:=hC0
 refine en 25 Tryz.func158 rfl<|sg<|Pl 1<|nt<|sq<|sg<|Pl 3<|cu 8 [7] 15 (((decide (n<0))||(decide (((full.length:Nat) : Int)<n)))) (fun K h=>?_) ?_
 refine bl 7 ((decide (n<0))) (fun a=>?_) (fun a=>?_)
 have l:=of_decide_eq_true a
 exact Pl 8<|ce h true (by rw[a];rfl)
 have l:=of_decide_eq_false a
 exact Pl 4<|L1<|aR hB 0<|Pl 3<|ce h (decide (((full.length:Nat) : Int)<n)) (by rw[a];rfl)
 refine nt<|cb (((decide (n<0))||(decide (((full.length:Nat) : Int)<n)))) (fun b=>?_) (fun b=>?_)
 refine sg<|Pl 1<|?_
 have o:=RC.upd hC (aE.refl [] _) ay (aE.step hC.u (aE.refl [] _))
 refine L0<|Oc<|mH (eY (n:=-1) (by omega) o) fun E F G p c i=>?_
 have H:=Nat.le_trans (ah.bytesR_le C (-1)) (RC.clen hC)
 refine L0<|Oc<|ea (sx (p _ _ (RC.rd c)) (by omega)) fun q r I s J L d=>Pl 1<|nt<|rt<|tr<|rr (.slice q ((cA (C.bytesR (-1))).length) r)<|?_
 have hw:=oD hk hl b
 exact⟨_,rfl,by rw[hw.1];exact(be.weaken s i.size),by rw[hw.2];exact(RC.upd c d ay (aE.step (RC.u c) d)),(aI i d)⟩
 have t:=(aJ b).1
 have v:=(aJ b).2
 have M:=of_decide_eq_false t
 have N:=of_decide_eq_false v
 refine bq<|sg<|Pl 3<|L0<|Oi (n+n)<|?_
 have x:=RC.upd hC (aE.refl [] _) ay (aE.step hC.u (aE.refl [] _))
 refine L0<|Oc<|mH (eY (n:=(n+n)) (by omega) x) fun O P Q y e j=>?_
 have R:=Nat.le_trans (ah.bytesR_le C (n+n)) (RC.clen hC)
 refine L0<|Oc<|ea (sx (y _ _ (RC.rd e)) (by omega)) fun z B S D T U f=>Pl 1<|nt<|rt<|rr (.slice z ((cA (C.bytesR (n+n))).length) B)<|?_
 have hw:=pJ hk hl b
 exact⟨_,rfl,by rw[hw.1];exact(be.weaken D j.size),by rw[hw.2];exact(RC.upd e f ay (aE.step (RC.u e) f)),(aI j f)⟩
theorem p4{C:ah}(h:((((C.wordsR 1).length:Nat) : Int)==0)=true) : C.wordV=0:=by
  have hz:C.wordsR 1=[]:=List.eq_nil_of_length_eq_zero (by have:=al h;omega)
  unfold ah.wordV
  rw[hz]
  rfl
theorem cK{w0:World}{m:Md}{A:Option Addr}{cp:Nat}{full:List Int}{w:World}{g:Nat}{C:ah}(hC:RC w0 m A cp full w g C) :
    Calls Tryz.prog 154 #[.pointer (some ⟨g,0,none⟩)] w (mK w0 m A cp full g .u16 65536 C.wordV (C.wordsC 1) w):=by
 refine en 12 Tryz.func154 rfl<|sg<|Pl 1<|ng<|Pl 1<|L0<|Oc<|ly (fj (n:=1) (by omega) hC) fun k l o d q r b c=>Pl 1<|nt<|sq<|?_
 refine sg<|Pl 3<|nt<|cb (((((C.wordsR 1).length:Nat) : Int)==0)) (fun a=>?_) (fun a=>?_)
 have e:=al a
 refine sg<|Pl 1<|nt<|rt<|tr<|rr (.int .u16 0)<|?_
 exact⟨by rw[p4 a],b,c,bS (RC.rng hC)⟩
 have e:=ap a
 refine bq<|sg<|Pl 1<|fl (dJ.at_ (d).rd 0 (by omega)) fun f h i j s=>L0<|jt ((C.wordsR 1).length) 0 i (by omega)<|L0<|dZ (p:=⟨f,h+0,none⟩) (v:=.int .u16 ((C.wordsR 1).getD 0 0)) j<|Pl 1<|nt<|rt<|rr (.int .u16 ((C.wordsR 1).getD 0 0))<|?_
 exact⟨rfl,b,c,bS (RC.rng hC)⟩
theorem f8{w0:World}{m:Md}{A:Option Addr}{cp:Nat}{full:List Int}{w:World}{g:Nat}{C:ah}{G:Prop}(h:RC w0 m A cp full w g C)(k:∀ x,C=x→RC w0 m A cp full w g x→G) : G:=k C rfl h
open Go.RowKit
theorem oH{x:Int}(hx:0≤x∧x<65536) : dR x=((decide (x≤4)||(decide (10≤x)&&decide (x≤18)))||x==20):=by
  unfold dR
  rw[Bool.eq_iff_iff]
  simp only[decide_eq_true_eq,List.mem_cons,List.not_mem_nil,or_false,Bool.or_eq_true,Bool.and_eq_true,beq_iff_eq]
  omega
theorem jQ{x:Int}(hx:0≤x∧x<256) : d6 x=((((decide (1≤x)&&decide (x≤6))||x==8)||x==10)||x==11):=by
  unfold d6
  rw[Bool.eq_iff_iff]
  simp only[decide_eq_true_eq,List.mem_cons,List.not_mem_nil,or_false,Bool.or_eq_true,Bool.and_eq_true,beq_iff_eq]
  omega
theorem tN{x:Int}{w:World}(hx:0≤x∧x<65536) : Calls Tryz.prog 160 #[.int .u16 x] w (dh (.bool (dR x)) w):=by
 refine en 17 Tryz.func160 rfl<|sg<|Pl 1<|ng<|Pl 3<|cu 7 [5] 12 (((decide (x≤4))||((decide (10≤x))&&(decide (x≤18))))) (fun K d=>?_) ?_
 refine bl 5 ((decide (x≤4))) (fun a=>?_) (fun a=>?_)
 have g:=of_decide_eq_true a
 exact Pl 7<|ce d true (by rw[a];rfl)
 have g:=of_decide_eq_false a
 refine Pl 3<|cu 3 [8] 11 (((decide (10≤x))&&(decide (x≤18)))) (fun K e=>?_) ?_
 refine bl 8 ((decide (10≤x))) (fun b=>?_) (fun b=>?_)
 have h:=of_decide_eq_true b
 exact Pl 3<|ce e (decide (x≤18)) (by rw[b];rfl)
 have h:=of_decide_eq_false b
 exact Pl 3<|ce e false (by rw[b];rfl)
 exact Pl 1<|ce d ((decide (10≤x))&&(decide (x≤18))) (by rw[a];rfl)
 refine Pl 1<|cu 3 [13] 16 ((((decide (x≤4))||((decide (10≤x))&&(decide (x≤18))))||(x==20))) (fun K f=>?_) ?_
 refine bl 13 (((decide (x≤4))||((decide (10≤x))&&(decide (x≤18))))) (fun c=>?_) (fun c=>?_)
 exact Pl 3<|ce f true (by rw[c];rfl)
 have i:=(aJ c).1
 have j:=(aJ c).2
 have k:=of_decide_eq_false i
 exact Pl 3<|ce f (x==20) (by rw[c];rfl)
 refine Pl 1<|nt<|rt<|rr (.bool (((decide (x≤4))||((decide (10≤x))&&(decide (x≤18))))||(x==20)))<|?_
 rw[oH hx]
 have hs:((decide (x≤4)||(decide (10≤x)&&decide (x≤18)))||x==20)=(((decide (x≤4))||((decide (10≤x))&&(decide (x≤18))))||(x==20)):=by(try simp only[Bool.true_or,Bool.false_or,Bool.true_and,Bool.false_and,Bool.or_true,Bool.or_false]);all_goals rfl
 rw[hs]
 exact⟨rfl,(aE.refl [] _)⟩
theorem qt{x:Int}{w:World}(hx:0≤x∧x<256) : Calls Tryz.prog 149 #[.int .u8 x] w (dh (.bool (d6 x)) w):=by
 refine en 21 Tryz.func149 rfl<|sg<|Pl 1<|ng<|Pl 3<|cu 3 [5] 8 (((decide (1≤x))&&(decide (x≤6)))) (fun K e=>?_) ?_
 refine bl 5 ((decide (1≤x))) (fun a=>?_) (fun a=>?_)
 have j:=of_decide_eq_true a
 exact Pl 3<|ce e (decide (x≤6)) (by rw[a];rfl)
 have j:=of_decide_eq_false a
 exact Pl 3<|ce e false (by rw[a];rfl)
 refine Pl 1<|cu 3 [9] 12 ((((decide (1≤x))&&(decide (x≤6)))||(x==8))) (fun K f=>?_) ?_
 refine bl 9 (((decide (1≤x))&&(decide (x≤6)))) (fun b=>?_) (fun b=>?_)
 have k:=(aS b).1
 have l:=(aS b).2
 have p:=of_decide_eq_true k
 have q:=of_decide_eq_true l
 exact Pl 3<|ce f true (by rw[b];rfl)
 exact Pl 3<|ce f (x==8) (by rw[b];rfl)
 refine Pl 1<|cu 3 [13] 16 (((((decide (1≤x))&&(decide (x≤6)))||(x==8))||(x==10))) (fun K g=>?_) ?_
 refine bl 13 ((((decide (1≤x))&&(decide (x≤6)))||(x==8))) (fun c=>?_) (fun c=>?_)
 exact Pl 3<|ce g true (by rw[c];rfl)
 have r:=(aJ c).1
 have m:=(aJ c).2
 have s:=ap m
 exact Pl 3<|ce g (x==10) (by rw[c];rfl)
 refine Pl 1<|cu 3 [17] 20 ((((((decide (1≤x))&&(decide (x≤6)))||(x==8))||(x==10))||(x==11))) (fun K h=>?_) ?_
 refine bl 17 (((((decide (1≤x))&&(decide (x≤6)))||(x==8))||(x==10))) (fun d=>?_) (fun d=>?_)
 exact Pl 3<|ce h true (by rw[d];rfl)
 have i:=(aJ d).1
 have n:=(aJ d).2
 have t:=(aJ i).1
 have o:=(aJ i).2
 have q16abp:=ap o
 have u:=ap n
 exact Pl 3<|ce h (x==11) (by rw[d];rfl)
 refine Pl 1<|nt<|rt<|rr (.bool (((((decide (1≤x))&&(decide (x≤6)))||(x==8))||(x==10))||(x==11)))<|?_
 rw[jQ hx]
 have hs:((((decide (1≤x)&&decide (x≤6))||x==8)||x==10)||x==11)=(((((decide (1≤x))&&(decide (x≤6)))||(x==8))||(x==10))||(x==11)):=by(try simp only[Bool.true_or,Bool.false_or,Bool.true_and,Bool.false_and,Bool.or_true,Bool.or_false]);all_goals rfl
 rw[hs]
 exact⟨rfl,(aE.refl [] _)⟩
theorem gk{dir sub v:Int}:eC dir sub v=if sub==1 then (v==0 || v==65280) else if sub==3 then v%256==0 else if dir==1&&(sub==2 || (decide (11≤sub)&&decide (sub≤18))) then true else v==0:=by
  unfold eC
  by_cases h1:sub=1
  · subst h1
    rfl
  by_cases h3:sub=3
  · subst h3
    rfl
  have e1:(sub==1)=false:=by simpa using h1
  have e3:(sub==3)=false:=by simpa using h3
  rw[e1,e3,Bool.and_comm]
  rfl
theorem uj{dir sub v:Int}{w:World}(hv:0≤v∧v<65536) : Calls Tryz.prog 162 #[.int .i64 dir,.int .u16 sub,.int .u16 v] w (dh (.bool (eC dir sub v)) w):=by
 refine en 39 Tryz.func162 rfl<|sg<|Pl 1<|nt<|sq<|bk<|sg<|Pl 3<|nt<|cb ((sub==1)) (fun a=>?_) (fun a=>?_)
 have m:=al a
 refine sg<|Pl 3<|cu 3 [12] 15 (((v==0)||(v==65280))) (fun K h=>?_) ?_
 refine bl 12 ((v==0)) (fun c=>?_) (fun c=>?_)
 have n:=al c
 exact Pl 3<|ce h true (by rw[c];rfl)
 have n:=ap c
 exact Pl 3<|ce h (v==65280) (by rw[c];rfl)
 refine Pl 1<|nt<|rt<|br<|tr<|rr (.bool ((v==0)||(v==65280)))<|?_
 have hs:eC dir sub v=((v==0)||(v==65280)):=by
   rw[gk]
   (try simp only[a,bs,if_true,if_false,decide_true,decide_false,reduceIte])
   all_goals rfl
 rw[hs]
 exact⟨rfl,(aE.refl [] _)⟩
 have m:=ap a
 refine sg<|Pl 3<|nt<|cb ((sub==3)) (fun b=>?_) (fun b=>?_)
 have o:=al b
 refine sg<|Pl 1<|L0<|Oe (.int .u16 (Int.tmod v 256)) (.int .u16 (v%256)) (congrArg (Value.int .u16) (Int.tmod_eq_emod_of_nonneg (by omega)))<|Pl 2<|nt<|rt<|br<|tr<|rr (.bool ((v%256)==0))<|?_
 have hs:eC dir sub v=((v%256)==0):=by
   rw[gk]
   (try simp only[a,b,bs,if_true,if_false,decide_true,decide_false,reduceIte])
   all_goals rfl
 rw[hs]
 exact⟨rfl,(aE.refl [] _)⟩
 have o:=ap b
 refine sg<|Pl 3<|cu 11 [25] 36 (((dir==1)&&((sub==2)||((decide (11≤sub))&&(decide (sub≤18)))))) (fun K i=>?_) ?_
 refine bl 25 ((dir==1)) (fun d=>?_) (fun d=>?_)
 have p:=al d
 refine Pl 3<|cu 7 [28] 35 (((sub==2)||((decide (11≤sub))&&(decide (sub≤18))))) (fun K j=>?_) ?_
 refine bl 28 ((sub==2)) (fun e=>?_) (fun e=>?_)
 have q:=al e
 exact Pl 7<|ce j true (by rw[e];rfl)
 have q:=ap e
 refine Pl 3<|cu 3 [31] 34 (((decide (11≤sub))&&(decide (sub≤18)))) (fun K k=>?_) ?_
 refine bl 31 ((decide (11≤sub))) (fun f=>?_) (fun f=>?_)
 have r:=of_decide_eq_true f
 exact Pl 3<|ce k (decide (sub≤18)) (by rw[f];rfl)
 have r:=of_decide_eq_false f
 exact Pl 3<|ce k false (by rw[f];rfl)
 exact Pl 1<|ce j ((decide (11≤sub))&&(decide (sub≤18))) (by rw[e];rfl)
 exact Pl 1<|ce i ((sub==2)||((decide (11≤sub))&&(decide (sub≤18)))) (by rw[d];rfl)
 have p:=ap d
 exact Pl 11<|ce i false (by rw[d];rfl)
 refine Pl 1<|nt<|cb (((dir==1)&&((sub==2)||((decide (11≤sub))&&(decide (sub≤18)))))) (fun g=>?_) (fun g=>?_)
 have l:=(aS g).1
 have s:=(aS g).2
 have t:=al l
 refine sg<|Pl 1<|nt<|rt<|br<|tr<|rr (.bool true)<|?_
 have hs:eC dir sub v=true:=by
   rw[gk]
   (try simp only[a,b,g,l,s,bs,if_true,if_false,decide_true,decide_false,reduceIte])
   all_goals rfl
 rw[hs]
 exact⟨rfl,(aE.refl [] _)⟩
 refine sk<|bn<|tn<|sg<|Pl 3<|nt<|rt<|rr (.bool (v==0))<|?_
 have hs:eC dir sub v=(v==0):=by
   rw[gk]
   (try simp only[a,b,g,bs,if_true,if_false,decide_true,decide_false,reduceIte])
   all_goals rfl
 rw[hs]
 exact⟨rfl,(aE.refl [] _)⟩
end Go.Proofs.YtogbnemojakcpaaGreat
