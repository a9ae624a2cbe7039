/- Contracts of functions, part CAduParses4. -/
import Derived.Test.YtogbnemojakcpaaGreatCAduParses1
import Derived.Test.YtogbnemojakcpaaGreatCAduParses2
import Derived.Test.YtogbnemojakcpaaGreatCAduParses3
import Derived.OpenShut
import Derived.Below
import Derived.Laws.BitsAllLaws
import Derived.Laws.StructEq
import Derived.Lib.ConvBytes
import Derived.Lib.OthersKept
import Derived.Shelf.Strings.Builder1
set_option linter.unusedVariables false
set_option linter.unusedSimpArgs false
set_option maxRecDepth 100000
set_option maxHeartbeats 4000000
namespace Go.Proofs.YtogbnemojakcpaaGreat
open Go.RowKit
def cc (dir:Int)(M:aQ) : List Int :=
  if M.code==8 then b9 [M.sub]++b9 M.words
  else if dir==0 then []
  else if M.code==7 then [M.value%256]
  else if M.code==11 then b9 [M.status,M.events]
  else if M.code==12 then (([(6+(M.data.length:Int))%256]++b9 [M.status,M.events,M.messages])++M.data)
  else [(M.data.length:Int)%256]++M.data
theorem pP{m:Md}{cs:Array Value}{M:aQ}{w:World}{dir:Int}(h:aL m w cs.toList M)(hf:cO M)(hd0:(dir==0)=true) : Calls Tryz.prog 208 #[.int .i64 dir,.agg cs] w (ip (cc dir M) w):=by
 obtain⟨vw,vb,vd,vr,vo,h0,hw,hbt,hd,hr,ho,hR⟩:=h
 obtain rfl:cs=(bM M vw vb vd vr vo).toArray:=by apply Array.toList_inj.1;simpa using h0
 clear h0
 obtain⟨Aw,kw,rfl,_,_⟩:=hw.shape
 obtain⟨Ab,kb,rfl,_,_⟩:=hbt.shape
 obtain⟨Ad,kd,rfl,_,_⟩:=hd.shape
 obtain⟨Ar,kr,rfl,_,_⟩:=hr.shape
 obtain⟨Ao,ko,rfl,_,_⟩:=ho.shape
 obtain⟨q0,q1,q2,q3,q4,q5,q6,q7,q8,q9,u,v,y,z,A,B,C⟩:=hR
 simp only[B8,dx] at q0 q1 q2 q3 q4 q5 q6 q7 q8 q9 u v y z A B C
 have hf1:=hf.words
 have hf2:=hf.bits
 have hf3:=hf.data
 have hf4:=hf.recs
 have hf5:=hf.objects
 refine en 70 Tryz.func208 rfl<|sg<|L0<|dq (mG M.code M.fail M.addr M.count M.value M.and_ M.or_ M.addr2 M.sub M.status M.events M.messages (.slice Aw M.words.length kw) (.slice Ab M.bits.length kb) (.slice Ad M.data.length kd) (.slice Ar M.recs.length kr) M.mei M.kind M.level M.more M.next (.slice Ao M.objects.length ko)) fun q O P i d=>Pl 1<|nt<|sq<|bk<|sg<|Pl 1<|L0<|aU i 0<|Pl 2<|nl<|?_
 refine tn<|cb ((M.code==8)) (fun a=>?_) (fun a=>?_)
 have D:=al a
 refine sq<|Rg 9 (fun w'=>w'.cell? ⟨q,8,none⟩=some (.int .u16 M.sub)∧w'.cell? ⟨q,12,none⟩=some (.slice Aw M.words.length kw)) fun Q b=>?_
 have j:=ub b i
 refine bg ⟨(ag j rfl),(ag j rfl)⟩ fun f=>Rt 0 f<|Rl 1 f (fun _ hs=>hs.1)<|Rt 4 f<|Rl 5 f (fun _ hs=>hs.2)<|R0 2 rfl<|dD (m:=1) (e:=24) #[.int .u16 M.sub] fun R S E F c=>?_
 have G:=ek E (xs:=[M.sub]) (by as_aux_lemma=>kernel_rfl) (az (by omega) aZ) (by(try simp only[List.length_cons,List.length_nil]);omega) F
 have k:=ub c j
 refine bg ⟨(ag k rfl),(ag k rfl)⟩ fun T=>R0 3 rfl<|Oc<|ej (bC (xs:=[M.sub]) (G).rd (by(try simp only[List.length_cons,List.length_nil]);omega)) fun H U V l W X n=>?_
 have o:=ub n k
 refine bg ⟨(ag o rfl),(ag o rfl)⟩ fun Y=>?_
 have r:=aF d (aF b (aF c n))
 refine R0 6 rfl<|Oc<|ej (bC (xs:=M.words) (e8.old hw r) (by(try simp only[List.length_cons,List.length_nil]);omega)) fun Z a0 a1 I a2 a3 g=>?_
 have p:=ub g o
 refine bg ⟨(ag p rfl),(ag p rfl)⟩ fun a4=>?_
 refine R0 7 rfl<|cR bt (xs:=(b9 ([M.sub]))) (ys:=(b9 M.words)) (.int .u8 0) 1 (ax l g (fun x hx=>ay) (fun _ _ h=>h)) (I).rd (by(try simp only[List.length_append,List.length_cons,List.length_nil,aC]);omega) (le n.size g.size) fun J K a5 L s=>?_
 have t:=aD.blk s (bj (aA (am i) (le b.size c.size) l) ay) p
 refine bg ⟨(ag t rfl),(ag t rfl)⟩ fun N=>Rt 8 N<|re<|tn<|rt<|br<|tr<|rr (.slice J (((b9 ([M.sub]))++(b9 M.words)).length) K)<|?_
 have hs:cc dir M=((b9 ([M.sub]))++(b9 M.words)):=by
   unfold cc
   (try simp only[hd0,a,bs,if_true,if_false,decide_true,decide_false,reduceIte])
   all_goals rfl
 rw[hs]
 exact⟨_,rfl,(be.weaken L (le (le d.size b.size) c.size)),(ut r (ut (aD.mono (S':=(ob H++[])) g au) s (av il au)) (av (aV l (le (le d.size b.size) c.size)) au))⟩
 have D:=ap a
 refine sg<|Pl 3<|nt<|ct hd0<|sg<|Pl 1<|nt<|rt<|br<|tr<|?_
 refine rr (.slice none 0 0)<|?_
 have hs:cc dir M=[]:=by
   unfold cc
   (try simp only[hd0,a,bs,if_true,if_false,decide_true,decide_false,reduceIte])
   all_goals rfl
 rw[hs]
 exact⟨_,rfl,(be.nil ..),d⟩
theorem pN{m:Md}{cs:Array Value}{M:aQ}{w:World}{dir:Int}(h:aL m w cs.toList M)(hf:cO M)(hd0:(dir==0)=false) : Calls Tryz.prog 208 #[.int .i64 dir,.agg cs] w (ip (cc dir M) w):=by
 obtain⟨vw,vb,vd,vr,vo,h0,hw,hbt,hd,hr,ho,hR⟩:=h
 obtain rfl:cs=(bM M vw vb vd vr vo).toArray:=by apply Array.toList_inj.1;simpa using h0
 clear h0
 obtain⟨Aw,kw,rfl,_,_⟩:=hw.shape
 obtain⟨Ab,kb,rfl,_,_⟩:=hbt.shape
 obtain⟨Ad,kd,rfl,_,_⟩:=hd.shape
 obtain⟨Ar,kr,rfl,_,_⟩:=hr.shape
 obtain⟨Ao,ko,rfl,_,_⟩:=ho.shape
 obtain⟨q0,q1,q2,q3,q4,q5,q6,q7,q8,q9,ai,aj,ak,an,ao,aq,ar⟩:=hR
 simp only[B8,dx] at q0 q1 q2 q3 q4 q5 q6 q7 q8 q9 ai aj ak an ao aq ar
 have hf1:=hf.words
 have hf2:=hf.bits
 have hf3:=hf.data
 have hf4:=hf.recs
 have hf5:=hf.objects
 refine en 70 Tryz.func208 rfl<|sg<|L0<|dq (mG M.code M.fail M.addr M.count M.value M.and_ M.or_ M.addr2 M.sub M.status M.events M.messages (.slice Aw M.words.length kw) (.slice Ab M.bits.length kb) (.slice Ad M.data.length kd) (.slice Ar M.recs.length kr) M.mei M.kind M.level M.more M.next (.slice Ao M.objects.length ko)) fun l bV bW b a=>Pl 1<|nt<|sq<|bk<|sg<|Pl 1<|L0<|aU b 0<|Pl 2<|nl<|?_
 refine tn<|cb ((M.code==8)) (fun f=>?_) (fun f=>?_)
 have aw:=al f
 refine sq<|Rg 9 (fun w'=>w'.cell? ⟨l,8,none⟩=some (.int .u16 M.sub)∧w'.cell? ⟨l,12,none⟩=some (.slice Aw M.words.length kw)) fun bX p=>?_
 have J:=ub p b
 refine bg ⟨(ag J rfl),(ag J rfl)⟩ fun E=>Rt 0 E<|Rl 1 E (fun _ hs=>hs.1)<|Rt 4 E<|Rl 5 E (fun _ hs=>hs.2)<|R0 2 rfl<|dD (m:=1) (e:=24) #[.int .u16 M.sub] fun bY bZ aB aE q=>?_
 have aG:=ek aB (xs:=[M.sub]) (by as_aux_lemma=>kernel_rfl) (az (by omega) aZ) (by(try simp only[List.length_cons,List.length_nil]);omega) aE
 have K:=ub q J
 refine bg ⟨(ag K rfl),(ag K rfl)⟩ fun c0=>R0 3 rfl<|Oc<|ej (bC (xs:=[M.sub]) (aG).rd (by(try simp only[List.length_cons,List.length_nil]);omega)) fun aH c1 c2 L c3 c4 N=>?_
 have O:=ub N K
 refine bg ⟨(ag O rfl),(ag O rfl)⟩ fun c5=>?_
 have X:=aF a (aF p (aF q N))
 refine R0 6 rfl<|Oc<|ej (bC (xs:=M.words) (e8.old hw X) (by(try simp only[List.length_cons,List.length_nil]);omega)) fun c6 c7 c8 aI c9 ca F=>?_
 have P:=ub F O
 refine bg ⟨(ag P rfl),(ag P rfl)⟩ fun cd=>?_
 refine R0 7 rfl<|cR bt (xs:=(b9 ([M.sub]))) (ys:=(b9 M.words)) (.int .u8 0) 1 (ax L F (fun x hx=>ay) (fun _ _ h=>h)) (aI).rd (by(try simp only[List.length_append,List.length_cons,List.length_nil,aC]);omega) (le N.size F.size) fun aJ aK ce aM Y=>?_
 have Z:=aD.blk Y (bj (aA (am b) (le p.size q.size) L) ay) P
 refine bg ⟨(ag Z rfl),(ag Z rfl)⟩ fun aN=>Rt 8 aN<|re<|tn<|rt<|br<|tr<|rr (.slice aJ (((b9 ([M.sub]))++(b9 M.words)).length) aK)<|?_
 have hs:cc dir M=((b9 ([M.sub]))++(b9 M.words)):=by
   unfold cc
   (try simp only[hd0,f,bs,if_true,if_false,decide_true,decide_false,reduceIte])
   all_goals rfl
 rw[hs]
 exact⟨_,rfl,(be.weaken aM (le (le a.size p.size) q.size)),(ut X (ut (aD.mono (S':=(ob aH++[])) F au) Y (av il au)) (av (aV L (le (le a.size p.size) q.size)) au))⟩
 have aw:=ap f
 refine sg<|Pl 3<|nt<|cf hd0<|sg<|Pl 1<|L0<|aU b 0<|Pl 2<|nt<|cb ((M.code==7)) (fun g=>?_) (fun g=>?_)
 have aO:=al g
 refine sg<|Pl 1<|L0<|aU b 4<|Pl 1<|L0<|dD (m:=1) (e:=5) #[.int .u8 (M.value%256)] fun aP ch aR aS aW=>?_
 have aX:=dR aR (xs:=[(M.value%256)]) (by as_aux_lemma=>kernel_rfl) (az (by omega) aZ) (by(try simp only[List.length_cons,List.length_nil]);omega) aS
 refine Pl 1<|nt<|rt<|br<|tr<|rr (.slice (some ⟨aP,0,none⟩) 1 1)<|?_
 have hs:cc dir M=[(M.value%256)]:=by
   unfold cc
   (try simp only[hd0,f,g,bs,if_true,if_false,decide_true,decide_false,reduceIte])
   all_goals rfl
 rw[hs]
 exact⟨_,rfl,(be.weaken aX a.size),(aF a aW)⟩
 have aO:=ap g
 refine sg<|Pl 1<|L0<|aU b 0<|Pl 2<|nt<|cb ((M.code==11)) (fun j=>?_) (fun j=>?_)
 have aY:=al j
 refine sg<|Pl 1<|L0<|aU b 9<|Pl 1<|L0<|aU b 10<|L0<|dD (m:=2) (e:=24) #[.int .u16 M.status,.int .u16 M.events] fun ci cj b0 b1 a0=>?_
 have b2:=ek b0 (xs:=[M.status,M.events]) (by as_aux_lemma=>kernel_rfl) (az (by omega) (az (by omega) aZ)) (by(try simp only[List.length_cons,List.length_nil]);omega) b1
 refine L0<|Oc<|ej (bC (xs:=[M.status,M.events]) (b2).rd (by(try simp only[List.length_cons,List.length_nil]);omega)) fun b3 b4 ck b5 cl cm b6=>Pl 1<|nt<|rt<|br<|tr<|rr (.slice b3 ((b9 ([M.status,M.events])).length) b4)<|?_
 have hs:cc dir M=(b9 ([M.status,M.events])):=by
   unfold cc
   (try simp only[hd0,f,g,j,bs,if_true,if_false,decide_true,decide_false,reduceIte])
   all_goals rfl
 rw[hs]
 exact⟨_,rfl,(be.weaken b5 (le a.size a0.size)),(aF a (aF a0 b6))⟩
 have aY:=ap j
 refine sg<|Pl 1<|L0<|aU b 0<|Pl 2<|nt<|cb ((M.code==12)) (fun k=>?_) (fun k=>?_)
 have b7:=al k
 refine sq<|Rg 16 (fun w'=>w'.cell? ⟨l,14,none⟩=some (.slice Ad M.data.length kd)∧w'.cell? ⟨l,9,none⟩=some (.int .u16 M.status)∧w'.cell? ⟨l,10,none⟩=some (.int .u16 M.events)∧w'.cell? ⟨l,11,none⟩=some (.int .u16 M.messages)) fun cn c=>?_
 have n:=ub c b
 refine bg ⟨(ag n rfl),(ag n rfl),(ag n rfl),(ag n rfl)⟩ fun d=>Rt 0 d<|Rl 1 d (fun _ hs=>hs.1)<|Rt 2 d<|Rr 3 d (.int .i64 (6+((M.data.length:Nat) : Int))) (fun _ _=>cg (.int .i64 (IntKind.i64.wrap (6+((M.data.length:Nat) : Int)))) (by kernel_rfl) (congrArg (Value.int .i64) (IntWalk.i64_in _ (by omega))))<|Rt 4 d<|Rt 6 d<|Rl 7 d (fun _ hs=>hs.2.1)<|Rt 8 d<|Rl 9 d (fun _ hs=>hs.2.2.1)<|Rt 10 d<|Rl 11 d (fun _ hs=>hs.2.2.2)<|?_
 refine R2 5 12 rfl rfl ?_ ?_
 refine  dD (m:=1) (e:=5) #[.int .u8 ((6+((M.data.length:Nat) : Int))%256)] fun b8 co ba bb Q=>?_
 have R:=dR ba (xs:=[((6+((M.data.length:Nat) : Int))%256)]) (by as_aux_lemma=>kernel_rfl) (az (by omega) aZ) (by(try simp only[List.length_cons,List.length_nil]);omega) bb
 have r:=ub Q n
 refine bg ⟨(ag r rfl),(ag r rfl),(ag r rfl),(ag r rfl)⟩ fun cp=>R0 12 rfl<|dD (m:=3) (e:=24) #[.int .u16 M.status,.int .u16 M.events,.int .u16 M.messages] fun cq cr bc bd S=>?_
 have bf:=ek bc (xs:=[M.status,M.events,M.messages]) (by as_aux_lemma=>kernel_rfl) (az (by omega) (az (by omega) (az (by omega) aZ))) (by(try simp only[List.length_cons,List.length_nil]);omega) bd
 have s:=ub S r
 refine bg ⟨(ag s rfl),(ag s rfl),(ag s rfl),(ag s rfl)⟩ fun ct=>R0 13 rfl<|Oc<|ej (bC (xs:=[M.status,M.events,M.messages]) (bf).rd (by(try simp only[List.length_cons,List.length_nil]);omega)) fun cu cv cw bh cx cy T=>?_
 have t:=ub T s
 refine bg ⟨(ag t rfl),(ag t rfl),(ag t rfl),(ag t rfl)⟩ fun cz=>?_
 have a1:=aF S T
 refine R0 14 rfl<|cR bt (xs:=([((6+((M.data.length:Nat) : Int))%256)])) (ys:=(b9 ([M.status,M.events,M.messages]))) (.int .u8 0) 1 (ax R a1 (fun x hx=>ay) (fun _ _ h=>h)) (bh).rd (by(try simp only[List.length_append,List.length_cons,List.length_nil,aC]);omega) (le (le Q.size S.size) T.size) fun cA cB cC a2 a3=>?_
 have u:=aD.blk a3 (bj (aA (am b) c.size R) ay) t
 refine bg ⟨(ag u rfl),(ag u rfl),(ag u rfl),(ag u rfl)⟩ fun bi=>Rt 15 bi<|re<|tn<|sg<|Pl 2<|L0<|aU u 14<|?_
 have a4:=ut Q (ut (aD.mono (S':=(ob (some ⟨b8,0,none⟩)++[])) a1 au) a3 (av il au)) (av (aV R lr) au)
 have a5:=aF a (aF c a4)
 refine L0<|cR bt (xs:=([((6+((M.data.length:Nat) : Int))%256)]++(b9 ([M.status,M.events,M.messages])))) (ys:=M.data) (.int .u8 0) 1 a2 (aT.old hd a5) (by(try simp only[List.length_append,List.length_cons,List.length_nil,aC]);omega) a4.size fun bl bm cD bo bp=>Pl 1<|nt<|rt<|br<|tr<|rr (.slice bl ((([((6+((M.data.length:Nat) : Int))%256)]++(b9 ([M.status,M.events,M.messages])))++M.data).length) bm)<|?_
 have hs:cc dir M=(([((6+((M.data.length:Nat) : Int))%256)]++(b9 ([M.status,M.events,M.messages])))++M.data):=by
   unfold cc
   (try simp only[hd0,f,g,j,k,bs,if_true,if_false,decide_true,decide_false,reduceIte])
   all_goals rfl
 rw[hs]
 exact⟨_,rfl,(be.weaken bo (le a.size c.size)),(ut a5 bp (av (aV a2 (le a.size c.size)) au))⟩
 refine  dD (m:=3) (e:=24) #[.int .u16 M.status,.int .u16 M.events,.int .u16 M.messages] fun cE cF bq bu i=>?_
 have a6:=ek bq (xs:=[M.status,M.events,M.messages]) (by as_aux_lemma=>kernel_rfl) (az (by omega) (az (by omega) (az (by omega) aZ))) (by(try simp only[List.length_cons,List.length_nil]);omega) bu
 have o:=ub i n
 refine bg ⟨(ag o rfl),(ag o rfl),(ag o rfl),(ag o rfl)⟩ fun cG=>?_
 refine R2 5 13 rfl rfl ?_ ?_
 refine  dD (m:=1) (e:=5) #[.int .u8 ((6+((M.data.length:Nat) : Int))%256)] fun bv cH bw bx G=>?_
 have U:=dR bw (xs:=[((6+((M.data.length:Nat) : Int))%256)]) (by as_aux_lemma=>kernel_rfl) (az (by omega) aZ) (by(try simp only[List.length_cons,List.length_nil]);omega) bx
 have v:=ub G o
 refine bg ⟨(ag v rfl),(ag v rfl),(ag v rfl),(ag v rfl)⟩ fun cI=>?_
 refine R0 13 rfl<|Oc<|ej (bC (xs:=[M.status,M.events,M.messages]) ((ax a6 G (fun x hx=>ay) (fun _ _ h=>h))).rd (by(try simp only[List.length_cons,List.length_nil]);omega)) fun cJ cK cL bz cM cN H=>?_
 have y:=ub H v
 refine bg ⟨(ag y rfl),(ag y rfl),(ag y rfl),(ag y rfl)⟩ fun cP=>?_
 refine R0 14 rfl<|cR bt (xs:=([((6+((M.data.length:Nat) : Int))%256)])) (ys:=(b9 ([M.status,M.events,M.messages]))) (.int .u8 0) 1 (ax U H (fun x hx=>ay) (fun _ _ h=>h)) (bz).rd (by(try simp only[List.length_append,List.length_cons,List.length_nil,aC]);omega) (le G.size H.size) fun cQ cS cT a7 a8=>?_
 have z:=aD.blk a8 (bj (aA (am b) (le c.size i.size) U) ay) y
 refine bg ⟨(ag z rfl),(ag z rfl),(ag z rfl),(ag z rfl)⟩ fun bA=>Rt 15 bA<|re<|tn<|sg<|Pl 2<|L0<|aU z 14<|?_
 have a9:=ut G (ut (aD.mono (S':=(ob (some ⟨bv,0,none⟩)++[])) H au) a8 (av il au)) (av (aV U lr) au)
 have aa:=aF a (aF c (aF i a9))
 refine L0<|cR bt (xs:=([((6+((M.data.length:Nat) : Int))%256)]++(b9 ([M.status,M.events,M.messages])))) (ys:=M.data) (.int .u8 0) 1 a7 (aT.old hd aa) (by(try simp only[List.length_append,List.length_cons,List.length_nil,aC]);omega) a9.size fun bB bD cU bE bF=>Pl 1<|nt<|rt<|br<|tr<|rr (.slice bB ((([((6+((M.data.length:Nat) : Int))%256)]++(b9 ([M.status,M.events,M.messages])))++M.data).length) bD)<|?_
 have hs:cc dir M=(([((6+((M.data.length:Nat) : Int))%256)]++(b9 ([M.status,M.events,M.messages])))++M.data):=by
   unfold cc
   (try simp only[hd0,f,g,j,k,bs,if_true,if_false,decide_true,decide_false,reduceIte])
   all_goals rfl
 rw[hs]
 exact⟨_,rfl,(be.weaken bE (le (le a.size c.size) i.size)),(ut aa bF (av (aV a7 (le (le a.size c.size) i.size)) au))⟩
 refine  Oc<|ej (bC (xs:=[M.status,M.events,M.messages]) (a6).rd (by(try simp only[List.length_cons,List.length_nil]);omega)) fun cV cW cX bG cY cZ A=>?_
 have B:=ub A o
 refine bg ⟨(ag B rfl),(ag B rfl),(ag B rfl),(ag B rfl)⟩ fun d0=>R0 5 rfl<|dD (m:=1) (e:=5) #[.int .u8 ((6+((M.data.length:Nat) : Int))%256)] fun d1 d2 bH bI I=>?_
 have V:=dR bH (xs:=[((6+((M.data.length:Nat) : Int))%256)]) (by as_aux_lemma=>kernel_rfl) (az (by omega) aZ) (by(try simp only[List.length_cons,List.length_nil]);omega) bI
 have C:=ub I B
 refine bg ⟨(ag C rfl),(ag C rfl),(ag C rfl),(ag C rfl)⟩ fun d3=>?_
 refine R0 14 rfl<|cR bt (xs:=([((6+((M.data.length:Nat) : Int))%256)])) (ys:=(b9 ([M.status,M.events,M.messages]))) (.int .u8 0) 1 V ((ax bG I (fun x hx=>ay) (fun _ _ h=>h))).rd (by(try simp only[List.length_append,List.length_cons,List.length_nil,aC]);omega) I.size fun d4 d5 d6 ab ac=>?_
 have D:=aD.blk ac (bj (aA (am b) (le (le c.size i.size) A.size) V) ay) C
 refine bg ⟨(ag D rfl),(ag D rfl),(ag D rfl),(ag D rfl)⟩ fun bJ=>Rt 15 bJ<|re<|tn<|sg<|Pl 2<|L0<|aU D 14<|?_
 have ad:=ut I ac (av (aV V lr) au)
 have ae:=aF a (aF c (aF i (aF A ad)))
 refine L0<|cR bt (xs:=([((6+((M.data.length:Nat) : Int))%256)]++(b9 ([M.status,M.events,M.messages])))) (ys:=M.data) (.int .u8 0) 1 ab (aT.old hd ae) (by(try simp only[List.length_append,List.length_cons,List.length_nil,aC]);omega) ad.size fun bK bL d7 bN bO=>Pl 1<|nt<|rt<|br<|tr<|rr (.slice bK ((([((6+((M.data.length:Nat) : Int))%256)]++(b9 ([M.status,M.events,M.messages])))++M.data).length) bL)<|?_
 have hs:cc dir M=(([((6+((M.data.length:Nat) : Int))%256)]++(b9 ([M.status,M.events,M.messages])))++M.data):=by
   unfold cc
   (try simp only[hd0,f,g,j,k,bs,if_true,if_false,decide_true,decide_false,reduceIte])
   all_goals rfl
 rw[hs]
 exact⟨_,rfl,(be.weaken bN (le (le (le a.size c.size) i.size) A.size)),(ut ae bO (av (aV ab (le (le (le a.size c.size) i.size) A.size)) au))⟩
 have b7:=ap k
 refine sk<|bn<|tn<|sg<|Pl 1<|L0<|aU b 14<|Pl 2<|L0<|dD (m:=1) (e:=5) #[.int .u8 (((M.data.length:Nat) : Int)%256)] fun d8 d9 bP bQ W=>?_
 have af:=dR bP (xs:=[(((M.data.length:Nat) : Int)%256)]) (by as_aux_lemma=>kernel_rfl) (az (by omega) aZ) (by(try simp only[List.length_cons,List.length_nil]);omega) bQ
 refine Pl 1<|?_
 refine L0<|aU (ub W b) 14<|?_
 have ah:=aF a W
 refine L0<|cR bt (xs:=([(((M.data.length:Nat) : Int)%256)])) (ys:=M.data) (.int .u8 0) 1 af (aT.old hd ah) (by(try simp only[List.length_append,List.length_cons,List.length_nil,aC]);omega) W.size fun bR bS da bT bU=>Pl 1<|nt<|rt<|rr (.slice bR (([(((M.data.length:Nat) : Int)%256)]++M.data).length) bS)<|?_
 have hs:cc dir M=([(((M.data.length:Nat) : Int)%256)]++M.data):=by
   unfold cc
   (try simp only[hd0,f,g,j,k,bs,if_true,if_false,decide_true,decide_false,reduceIte])
   all_goals rfl
 rw[hs]
 exact⟨_,rfl,(be.weaken bT a.size),(ut ah bU (av (aV af a.size) au))⟩
theorem to{m:Md}{cs:Array Value}{M:aQ}{w:World}{dir:Int}(h:aL m w cs.toList M)(hf:cO M) : Calls Tryz.prog 208 #[.int .i64 dir,.agg cs] w (ip (cc dir M) w):=by
  rcases dO (dir==0) with h0|h0
  · exact pP h hf h0
  · exact pN h hf h0
open Go.RowKit
theorem dK{α:Type}(d:α)(xs:List α)(k:Nat)(h:k<xs.length) : xs.getD k d∈xs:=by
  simp[List.getD_eq_getElem?_getD,List.getElem?_eq_getElem h]
def hZ:List Obj→List Int
  | []=>[]
  | o :: r=>([o.id,(o.value.length:Int)%256]++o.value)++hZ r
theorem rk(xs:List Obj)(k:Nat)(h:k<xs.length) : hZ (xs.drop k)=([(xs.getD k ⟨0,[]⟩).id,((xs.getD k ⟨0,[]⟩).value.length:Int)%256]++(xs.getD k ⟨0,[]⟩).value)++hZ (xs.drop (k+1)):=by
  rw[List.drop_eq_getElem_cons h]
  simp[hZ,List.getD_eq_getElem?_getD,List.getElem?_eq_getElem h]
def dy (dir:Int)(M:aQ) : List Int :=
  if M.mei==13 then [M.mei]++M.data
  else if dir==0 then [M.mei,M.kind,M.next]
  else [M.mei,M.kind,M.level,M.more,M.next,(M.objects.length:Int)%256]++hZ M.objects
theorem sr{m:Md}{cs:Array Value}{M:aQ}{w:World}{dir:Int}(h:aL m w cs.toList M)(hf:cO M)(hd0:(dir==0)=true) : Calls Tryz.prog 214 #[.int .i64 dir,.agg cs] w (ip (dy dir M) w):=by
 obtain⟨vw,vb,vd,vr,vo,h0,hw,hbt,hd,hr,ho,hR⟩:=h
 obtain rfl:cs=(bM M vw vb vd vr vo).toArray:=by apply Array.toList_inj.1;simpa using h0
 clear h0
 obtain⟨Aw,kw,rfl,_,_⟩:=hw.shape
 obtain⟨Ab,kb,rfl,_,_⟩:=hbt.shape
 obtain⟨Ad,kd,rfl,_,_⟩:=hd.shape
 obtain⟨Ar,kr,rfl,_,_⟩:=hr.shape
 obtain⟨Ao,ko,rfl,_,_⟩:=ho.shape
 obtain⟨q0,q1,q2,q3,q4,q5,q6,q7,q8,q9,i,j,k,l,n,o,p⟩:=hR
 simp only[B8,dx] at q0 q1 q2 q3 q4 q5 q6 q7 q8 q9 i j k l n o p
 have hf1:=hf.words
 have hf2:=hf.bits
 have hf3:=hf.data
 have hf4:=hf.recs
 have hf5:=hf.objects
 refine en 64 Tryz.func214 rfl<|sg<|L0<|dq (mG M.code M.fail M.addr M.count M.value M.and_ M.or_ M.addr2 M.sub M.status M.events M.messages (.slice Aw M.words.length kw) (.slice Ab M.bits.length kb) (.slice Ad M.data.length kd) (.slice Ar M.recs.length kr) M.mei M.kind M.level M.more M.next (.slice Ao M.objects.length ko)) fun D E F a b=>Pl 1<|nt<|sq<|bk<|sg<|Pl 1<|L0<|aU a 16<|Pl 2<|nl<|?_
 refine tn<|cb ((M.mei==13)) (fun c=>?_) (fun c=>?_)
 have q:=al c
 refine sg<|Pl 1<|L0<|aU a 16<|L0<|dD (m:=1) (e:=5) #[.int .u8 M.mei] fun G H r s d=>?_
 have f:=dR r (xs:=[M.mei]) (by as_aux_lemma=>kernel_rfl) (az (by omega) aZ) (by(try simp only[List.length_cons,List.length_nil]);omega) s
 refine Pl 1<|?_
 refine L0<|aU (ub d a) 14<|?_
 have g:=aF b d
 refine L0<|cR bt (xs:=([M.mei])) (ys:=M.data) (.int .u8 0) 1 f (aT.old hd g) (by(try simp only[List.length_append,List.length_cons,List.length_nil,aC]);omega) d.size fun t u I v x=>Pl 1<|nt<|rt<|br<|tr<|rr (.slice t (([M.mei]++M.data).length) u)<|?_
 have hs:dy dir M=([M.mei]++M.data):=by
   unfold dy
   (try simp only[hd0,c,bs,if_true,if_false,decide_true,decide_false,reduceIte])
   all_goals rfl
 rw[hs]
 exact⟨_,rfl,(be.weaken v b.size),(ut g x (av (aV f b.size) au))⟩
 have q:=ap c
 refine sg<|Pl 3<|nt<|ct hd0<|sg<|Pl 1<|L0<|aU a 16<|Pl 1<|L0<|aU a 17<|Pl 1<|L0<|aU a 20<|?_
 refine L0<|dD (m:=3) (e:=5) #[.int .u8 M.mei,.int .u8 M.kind,.int .u8 M.next] fun y J z A B=>?_
 have C:=dR z (xs:=[M.mei,M.kind,M.next]) (by as_aux_lemma=>kernel_rfl) (az (by omega) (az (by omega) (az (by omega) aZ))) (by(try simp only[List.length_cons,List.length_nil]);omega) A
 refine Pl 1<|nt<|rt<|br<|tr<|rr (.slice (some ⟨y,0,none⟩) 3 3)<|?_
 have hs:dy dir M=[M.mei,M.kind,M.next]:=by
   unfold dy
   (try simp only[hd0,c,bs,if_true,if_false,decide_true,decide_false,reduceIte])
   all_goals rfl
 rw[hs]
 exact⟨_,rfl,(be.weaken C b.size),(aF b B)⟩
theorem sc{m:Md}{cs:Array Value}{M:aQ}{w:World}{dir:Int}(h:aL m w cs.toList M)(hf:cO M)(hd0:(dir==0)=false) : Calls Tryz.prog 214 #[.int .i64 dir,.agg cs] w (ip (dy dir M) w):=by
 obtain⟨vw,vb,vd,vr,vo,h0,hw,hbt,hd,hr,ho,hR⟩:=h
 obtain rfl:cs=(bM M vw vb vd vr vo).toArray:=by apply Array.toList_inj.1;simpa using h0
 clear h0
 obtain⟨Aw,kw,rfl,_,_⟩:=hw.shape
 obtain⟨Ab,kb,rfl,_,_⟩:=hbt.shape
 obtain⟨Ad,kd,rfl,_,_⟩:=hd.shape
 obtain⟨Ar,kr,rfl,_,_⟩:=hr.shape
 obtain⟨Ao,ko,rfl,_,_⟩:=ho.shape
 obtain⟨q0,q1,q2,q3,q4,q5,q6,q7,q8,q9,O,P,Q,R,S,T,U⟩:=hR
 simp only[B8,dx] at q0 q1 q2 q3 q4 q5 q6 q7 q8 q9 O P Q R S T U
 have hf1:=hf.words
 have hf2:=hf.bits
 have hf3:=hf.data
 have hf4:=hf.recs
 have hf5:=hf.objects
 refine en 64 Tryz.func214 rfl<|sg<|L0<|dq (mG M.code M.fail M.addr M.count M.value M.and_ M.or_ M.addr2 M.sub M.status M.events M.messages (.slice Aw M.words.length kw) (.slice Ab M.bits.length kb) (.slice Ad M.data.length kd) (.slice Ar M.recs.length kr) M.mei M.kind M.level M.more M.next (.slice Ao M.objects.length ko)) fun aE r aG a c=>Pl 1<|nt<|sq<|bk<|sg<|Pl 1<|L0<|aU a 16<|Pl 2<|nl<|?_
 refine tn<|cb ((M.mei==13)) (fun d=>?_) (fun d=>?_)
 have V:=al d
 refine sg<|Pl 1<|L0<|aU a 16<|L0<|dD (m:=1) (e:=5) #[.int .u8 M.mei] fun aH aI W X s=>?_
 have E:=dR W (xs:=[M.mei]) (by as_aux_lemma=>kernel_rfl) (az (by omega) aZ) (by(try simp only[List.length_cons,List.length_nil]);omega) X
 refine Pl 1<|?_
 refine L0<|aU (ub s a) 14<|?_
 have F:=aF c s
 refine L0<|cR bt (xs:=([M.mei])) (ys:=M.data) (.int .u8 0) 1 E (aT.old hd F) (by(try simp only[List.length_append,List.length_cons,List.length_nil,aC]);omega) s.size fun Y Z aJ a0 a1=>Pl 1<|nt<|rt<|br<|tr<|rr (.slice Y (([M.mei]++M.data).length) Z)<|?_
 have hs:dy dir M=([M.mei]++M.data):=by
   unfold dy
   (try simp only[hd0,d,bs,if_true,if_false,decide_true,decide_false,reduceIte])
   all_goals rfl
 rw[hs]
 exact⟨_,rfl,(be.weaken a0 c.size),(ut F a1 (av (aV E c.size) au))⟩
 have V:=ap d
 refine sg<|Pl 3<|nt<|cf hd0<|sk<|bn<|tn<|sg<|Pl 1<|L0<|aU a 16<|Pl 1<|L0<|aU a 17<|?_
 refine Pl 1<|L0<|aU a 18<|Pl 1<|L0<|aU a 19<|Pl 1<|L0<|aU a 20<|Pl 1<|L0<|aU a 21<|Pl 2<|L0<|dD (m:=6) (e:=5) #[.int .u8 M.mei,.int .u8 M.kind,.int .u8 M.level,.int .u8 M.more,.int .u8 M.next,.int .u8 (((M.objects.length:Nat) : Int)%256)] fun a2 a3 a4 a5 j=>?_
 have a6:=dR a4 (xs:=[M.mei,M.kind,M.level,M.more,M.next,(((M.objects.length:Nat) : Int)%256)]) (by as_aux_lemma=>kernel_rfl) (az (by omega) (az (by omega) (az (by omega) (az (by omega) (az (by omega) (az (by omega) aZ)))))) (by(try simp only[List.length_cons,List.length_nil]);omega) a5
 refine Pl 1<|nt<|sq<|sg<|Pl 1<|?_
 refine L0<|aU (ub j a) 21<|Pl 2<|nt<|bk<|?_
 refine hY (fun x=>[(4,.slice none 0 0),(5,.slice x.2.2.1 x.2.1.length x.2.2.2),(44,.slice Ao M.objects.length ko),(45,.int .i64 ((M.objects.length:Nat) : Int)),(46,.int .i64 ((x.1:Nat) : Int))]) (fun(x:Nat × List Int × Option Addr × Nat) w'=>aD [] r w'∧a3.heap.size≤w'.heap.size∧eq r.heap.size w' (.slice x.2.2.1 x.2.1.length x.2.2.2) x.2.1∧(x.1≤M.objects.length)∧(x.2.1++hZ (M.objects.drop x.1)=([M.mei,M.kind,M.level,M.more,M.next,(((M.objects.length:Nat) : Int)%256)])++hZ M.objects)∧(x.2.1.length≤16+x.1*1026)∧(6≤x.2.1.length)) (fun x=>M.objects.length-x.1) (0,[M.mei,M.kind,M.level,M.more,M.next,(((M.objects.length:Nat) : Int)%256)],some ⟨a2,0,none⟩,6) ⟨j,lr,a6,(by(try dsimp only);omega),rfl,(by(try dsimp only);(try simp only[List.length_cons,List.length_nil]);omega),(by(try dsimp only);(try simp only[List.length_cons,List.length_nil]);omega)⟩ ?_
 rintro⟨k,L,A,cp⟩ a7 ⟨G,t,a8,a9,aa,ab,ac⟩
 refine i1 [(4,.slice none 0 0),(5,.slice A L.length cp),(44,.slice Ao M.objects.length ko),(45,.int .i64 ((M.objects.length:Nat) : Int)),(46,.int .i64 ((k:Nat) : Int))] ?_
 have f:eq r.heap.size a7 (.slice A L.length cp) L:=a8
 have aK:k≤M.objects.length:=a9
 have aM:L++hZ (M.objects.drop k)=([M.mei,M.kind,M.level,M.more,M.next,(((M.objects.length:Nat) : Int)%256)])++hZ M.objects:=aa
 have aN:L.length≤16+k*1026:=ab
 have aO:6≤L.length:=ac
 have hL:L++hZ (M.objects.drop k)=([M.mei,M.kind,M.level,M.more,M.next,(((M.objects.length:Nat) : Int)%256)])++hZ M.objects:=by assumption
 have hv0:=fun(h:k<M.objects.length)=>hf.objv _ (dK ⟨0,[]⟩ M.objects k h)
 refine sg<|Pl 1<|nt<|sq<|?_
 have u:=aF c G
 refine cb ((decide (((k:Nat) : Int)<((M.objects.length:Nat) : Int)))) (fun l=>?_) (fun l=>?_)
 have ad:=of_decide_eq_true l
 refine bi<|sq<|bk<|sg<|jG (nW.elt ho k (by omega)) fun aP aR aS aX aY v y ae af ah b0 ai=>L0<|tq 2 M.objects.length k ae (by omega)<|?_
 refine L0<|y3 [.int .u8 ((M.objects.getD k ⟨0,[]⟩).id),.slice v ((M.objects.getD k ⟨0,[]⟩).value.length) y] (ub u af) ai<|L0<|bE #[.int .u8 0,.slice none 0 0] fun H b1 I aj n=>L0<|aW aj #[.int .u8 ((M.objects.getD k ⟨0,[]⟩).id),.slice v ((M.objects.getD k ⟨0,[]⟩).value.length) y] fun b2 ak o=>nt<|Rg 13 (fun w'=>w'.cell? ⟨H,0,none⟩=some (.int .u8 ((M.objects.getD k ⟨0,[]⟩).id))∧w'.cell? ⟨H,1,none⟩=some (.slice v ((M.objects.getD k ⟨0,[]⟩).value.length) y)) fun b3 g=>?_
 have z:=ub g ak
 refine bg ⟨(ag z rfl),(ag z rfl)⟩ fun b=>Rt 0 b<|Rt 1 b<|Rl 2 b (fun _ hs=>hs.1)<|Rt 3 b<|Rl 4 b (fun _ hs=>hs.2)<|Rt 5 b<|Rt 6 b<|Rt 9 b<|Rl 10 b (fun _ hs=>hs.2)<|R0 7 rfl<|dD (m:=2) (e:=5) #[.int .u8 ((M.objects.getD k ⟨0,[]⟩).id),.int .u8 ((((M.objects.getD k ⟨0,[]⟩).value.length:Nat) : Int)%256)] fun b4 b5 am an i=>?_
 have ao:=dR am (xs:=[(M.objects.getD k ⟨0,[]⟩).id,((((M.objects.getD k ⟨0,[]⟩).value.length:Nat) : Int)%256)]) (by as_aux_lemma=>kernel_rfl) (az (by omega) (az (by omega) aZ)) (by(try simp only[List.length_cons,List.length_nil]);omega) an
 have B:=ub i z
 refine bg ⟨(ag B rfl),(ag B rfl)⟩ fun b6=>?_
 have J:=ud n (aF o (aF g i)) I
 refine R0 8 rfl<|cR bt (xs:=L) (ys:=([(M.objects.getD k ⟨0,[]⟩).id,((((M.objects.getD k ⟨0,[]⟩).value.length:Nat) : Int)%256)])) (.int .u8 0) 1 (ax f J (fun x hx=>ay) (fun _ _ h=>h)) (ao).rd (by(try simp only[List.length_append,List.length_cons,List.length_nil,aC]);omega) (le (le (le (le (le j.size t) n.size) o.size) g.size) i.size) fun aq b7 b8 C p=>?_
 have q:=aD.blk p (bj (ea f lr I) ay) B
 refine bg ⟨(ag q rfl),(ag q rfl)⟩ fun b9=>?_
 have K:=ut (aD.mono (S':=(ob A++[])) J au) p (av il au)
 refine R0 11 rfl<|cR bt (xs:=(L++[(M.objects.getD k ⟨0,[]⟩).id,((((M.objects.getD k ⟨0,[]⟩).value.length:Nat) : Int)%256)])) (ys:=((M.objects.getD k ⟨0,[]⟩).value)) (.int .u8 0) 1 C (aT.old ah (ut u K (av (aV f c.size) au))) (by(try simp only[List.length_append,List.length_cons,List.length_nil,aC]);omega) (le (le (le (le (le (le j.size t) n.size) o.size) g.size) i.size) p.size) fun ar aw ba aA D=>?_
 have N:=aD.blk D (bj (dw q C (by decide)) ay) q
 refine bg ⟨(ag N rfl),(ag N rfl)⟩ fun aB=>Rt 12 aB<|re<|bn<|tn<|go<|L0<|Oi (((k:Nat) : Int)+1)<|Pl 1<|nl<|?_
 exact fF ((k+1),((L++[(M.objects.getD k ⟨0,[]⟩).id,((((M.objects.getD k ⟨0,[]⟩).value.length:Nat) : Int)%256)])++(M.objects.getD k ⟨0,[]⟩).value),ar,aw) ⟨(ut G (ut (aD.mono (S':=(ob A++(ob aq++[]))) K (av il au)) D (av il au)) (av (aV f lr) (av (aV C lr) au))),(le (le (le (le (le (le t n.size) o.size) g.size) i.size) p.size) D.size),aA,(by(try dsimp only);omega),(by(try dsimp only);rw[← hL,rk  M.objects k (by omega)];simp only[List.append_assoc]),(by(try dsimp only);have hv:=hf.objv _ (dK ⟨0,[]⟩ M.objects k (by omega));(try simp only[List.length_append,List.length_cons,List.length_nil,aC]);omega),(by(try dsimp only);(try simp only[List.length_append,List.length_cons,List.length_nil]);omega)⟩ (by omega)
 have ad:=of_decide_eq_false l
 refine xt<|tx<|tx<|bx<|tn<|sg<|Pl 2<|nt<|rt<|rr (.slice A L.length cp)<|?_
 have hk:k=M.objects.length:=by omega
 rw[hk,List.drop_length] at hL
 have hL2:L=([M.mei,M.kind,M.level,M.more,M.next,(((M.objects.length:Nat) : Int)%256)])++hZ M.objects:=by rw[← hL];simp[hZ]
 have hs:dy dir M=L:=by
   rw[hL2]
   unfold dy
   (try simp only[hd0,d,l,bs,if_true,if_false,decide_true,decide_false,reduceIte])
   all_goals rfl
 rw[hs]
 exact⟨_,rfl,(be.weaken f c.size),u⟩
theorem vF{m:Md}{cs:Array Value}{M:aQ}{w:World}{dir:Int}(h:aL m w cs.toList M)(hf:cO M) : Calls Tryz.prog 214 #[.int .i64 dir,.agg cs] w (ip (dy dir M) w):=by
  rcases dO (dir==0) with h0|h0
  · exact sr h hf h0
  · exact sc h hf h0
open Go.RowKit
def ka (dir code:Int)(r:dt) : List Int:=(if code==20&&dir==1 then [(1+2*(r.words.length:Int))%256,6] else [6]++b9 [r.file,r.record,r.count])++b9 r.words
def d8 (dir code:Int) : List dt→List Int
  | []=>[]
  | r :: rs=>ka dir code r++d8 dir code rs
theorem dE(dir code:Int)(xs:List dt)(k:Nat)(h:k<xs.length) : d8 dir code (xs.drop k)=ka dir code (xs.getD k ⟨0,0,0,[]⟩)++d8 dir code (xs.drop (k+1)):=by
  rw[List.drop_eq_getElem_cons h]
  simp[d8,List.getD_eq_getElem?_getD,List.getElem?_eq_getElem h]
def da (dir:Int)(M:aQ) : List Int:=([0]++d8 dir M.code M.recs).set 0 (((([0]++d8 dir M.code M.recs).length:Int)-1)%256)
theorem nK{m:Md}{cs:Array Value}{M:aQ}{w:World}{dir:Int}(h:aL m w cs.toList M)(hf:cO M)(hd0:(dir==0)=true) : Calls Tryz.prog 212 #[.int .i64 dir,.agg cs] w (ip (da dir M) w):=by
 obtain⟨vw,vb,vd,vr,vo,h0,hw,hbt,hd,hr,ho,hR⟩:=h
 obtain rfl:cs=(bM M vw vb vd vr vo).toArray:=by apply Array.toList_inj.1;simpa using h0
 clear h0
 obtain⟨Aw,kw,rfl,_,_⟩:=hw.shape
 obtain⟨Ab,kb,rfl,_,_⟩:=hbt.shape
 obtain⟨Ad,kd,rfl,_,_⟩:=hd.shape
 obtain⟨Ar,kr,rfl,_,_⟩:=hr.shape
 obtain⟨Ao,ko,rfl,_,_⟩:=ho.shape
 obtain⟨q0,q1,q2,q3,q4,q5,q6,q7,q8,q9,bh,bm,bo,bp,bq,br,bu⟩:=hR
 simp only[B8,dx] at q0 q1 q2 q3 q4 q5 q6 q7 q8 q9 bh bm bo bp bq br bu
 have hf1:=hf.words
 have hf2:=hf.bits
 have hf3:=hf.data
 have hf4:=hf.recs
 have hf5:=hf.objects
 refine en 58 Tryz.func212 rfl<|sg<|L0<|dq (mG M.code M.fail M.addr M.count M.value M.and_ M.or_ M.addr2 M.sub M.status M.events M.messages (.slice Aw M.words.length kw) (.slice Ab M.bits.length kb) (.slice Ad M.data.length kd) (.slice Ar M.recs.length kr) M.mei M.kind M.level M.more M.next (.slice Ao M.objects.length ko)) fun an ac cz ao l=>Pl 1<|ng<|L0<|dD (m:=1) (e:=5) #[.int .u8 0] fun bv bw bz bA g=>?_
 have bB:=dR bz (xs:=[0]) (by as_aux_lemma=>kernel_rfl) (az (by omega) aZ) (by(try simp only[List.length_cons,List.length_nil]);omega) bA
 refine Pl 1<|nt<|sq<|sg<|Pl 1<|?_
 refine L0<|aU (ub g ao) 15<|Pl 2<|nt<|bk<|?_
 refine hY (fun x=>[(0,.int .i64 dir),(3,.pointer (some ⟨an,0,none⟩)),(4,.slice none 0 0),(5,.slice x.2.2.1 x.2.1.length x.2.2.2),(10,.slice Ar M.recs.length kr),(11,.int .i64 ((M.recs.length:Nat) : Int)),(12,.int .i64 ((x.1:Nat) : Int))]) (fun(x:Nat × List Int × Option Addr × Nat) w'=>aD [] ac w'∧bw.heap.size≤w'.heap.size∧eq ac.heap.size w' (.slice x.2.2.1 x.2.1.length x.2.2.2) x.2.1∧(x.1≤M.recs.length)∧(x.2.1++d8 dir M.code (M.recs.drop x.1)=([0])++d8 dir M.code M.recs)∧(x.2.1.length≤16+x.1*2060)∧(1≤x.2.1.length)) (fun x=>M.recs.length-x.1) (0,[0],some ⟨bv,0,none⟩,1) ⟨g,lr,bB,(by(try dsimp only);omega),rfl,(by(try dsimp only);(try simp only[List.length_cons,List.length_nil]);omega),(by(try dsimp only);(try simp only[List.length_cons,List.length_nil]);omega)⟩ ?_
 rintro⟨k,L,A,cp⟩ bD ⟨aq,f,bF,bG,bH,bI,bJ⟩
 refine i1 [(0,.int .i64 dir),(3,.pointer (some ⟨an,0,none⟩)),(4,.slice none 0 0),(5,.slice A L.length cp),(10,.slice Ar M.recs.length kr),(11,.int .i64 ((M.recs.length:Nat) : Int)),(12,.int .i64 ((k:Nat) : Int))] ?_
 have a:eq ac.heap.size bD (.slice A L.length cp) L:=bF
 have cA:k≤M.recs.length:=bG
 have cB:L++d8 dir M.code (M.recs.drop k)=([0])++d8 dir M.code M.recs:=bH
 have cC:L.length≤16+k*2060:=bI
 have cD:1≤L.length:=bJ
 have hL:L++d8 dir M.code (M.recs.drop k)=([0])++d8 dir M.code M.recs:=by assumption
 have hv0:=fun(h:k<M.recs.length)=>hf.recw _ (dK ⟨0,0,0,[]⟩ M.recs k h)
 refine sg<|Pl 1<|nt<|sq<|?_
 have ad:=aF l aq
 refine cb ((decide (((k:Nat) : Int)<((M.recs.length:Nat) : Int)))) (fun n=>?_) (fun n=>?_)
 have bK:=of_decide_eq_true n
 refine bi<|sq<|bk<|sg<|jG (mr.elt hr k (by omega)) fun cE cF cG cH cI ar aw bL bN Q cJ bO=>L0<|tq 4 M.recs.length k bL (by omega)<|?_
 refine L0<|y3 [.int .u16 ((M.recs.getD k ⟨0,0,0,[]⟩).file),.int .u16 ((M.recs.getD k ⟨0,0,0,[]⟩).record),.int .u16 ((M.recs.getD k ⟨0,0,0,[]⟩).count),.slice ar ((M.recs.getD k ⟨0,0,0,[]⟩).words.length) aw] (ub ad bN) bO<|L0<|bE #[.int .u16 0,.int .u16 0,.int .u16 0,.slice none 0 0] fun ae cK B bP b=>L0<|aW bP #[.int .u16 ((M.recs.getD k ⟨0,0,0,[]⟩).file),.int .u16 ((M.recs.getD k ⟨0,0,0,[]⟩).record),.int .u16 ((M.recs.getD k ⟨0,0,0,[]⟩).count),.slice ar ((M.recs.getD k ⟨0,0,0,[]⟩).words.length) aw] fun cL af c=>nt<|sq<|bk<|sg<|Pl 1<|?_
 have s:=ud b c B
 have C:=aF aq s
 refine L0<|aU (ub C ao) 0<|Pl 2<|cu 3 [32] 35 (((M.code==20)&&(dir==1))) (fun K aA=>?_) ?_
 refine bl 32 ((M.code==20)) (fun D=>?_) (fun D=>?_)
 have bQ:=al D
 exact Pl 3<|ce aA (dir==1) (by rw[D];rfl)
 have bQ:=ap D
 exact Pl 3<|ce aA false (by rw[D];rfl)
 refine Pl 1<|nt<|?_
 have R:=aF ad s
 refine cb (((M.code==20)&&(dir==1))) (fun o=>?_) (fun o=>?_)
 have aB:=(aR o).1
 have aE:=(aR o).2
 have cM:=al aB
 have cN:=al aE
 refine go<|Pl 2<|L0<|aU af 3<|Pl 1<|L0<|Oi (2*(((M.recs.getD k ⟨0,0,0,[]⟩).words.length:Nat) : Int))<|L0<|Oi (1+(2*(((M.recs.getD k ⟨0,0,0,[]⟩).words.length:Nat) : Int)))<|Pl 1<|L0<|dD (m:=2) (e:=5) #[.int .u8 ((1+(2*(((M.recs.getD k ⟨0,0,0,[]⟩).words.length:Nat) : Int)))%256),.int .u8 6] fun cP cQ bR bS E=>?_
 have bT:=dR bR (xs:=[((1+(2*(((M.recs.getD k ⟨0,0,0,[]⟩).words.length:Nat) : Int)))%256),6]) (by as_aux_lemma=>kernel_rfl) (az (by omega) (az (by omega) aZ)) (by(try simp only[List.length_cons,List.length_nil]);omega) bS
 refine L0<|cR bt (xs:=L) (ys:=([((1+(2*(((M.recs.getD k ⟨0,0,0,[]⟩).words.length:Nat) : Int)))%256),6])) (.int .u8 0) 1 (ax a (aF s E) (fun x hx=>ay) (fun _ _ h=>h)) (bT).rd (by(try simp only[List.length_append,List.length_cons,List.length_nil,aC]);omega) (le (le (le (le g.size f) b.size) c.size) E.size) fun aG cS cT aH ah=>Pl 1<|nl<|bn<|tn<|go<|Pl 2<|?_
 have ai:=ut (aD.mono (S':=(ob A++[])) E au) ah (av il au)
 refine L0<|aU (aD.blk ai (bj (ea a lr B) ay) af) 3<|?_
 refine L0<|Oc<|ej (bC (xs:=(M.recs.getD k ⟨0,0,0,[]⟩).words) (e8.old Q (ut R ai (av (aV a l.size) au))) (by(try simp only[List.length_cons,List.length_nil]);omega)) fun cU cV cW bU cX cY S=>?_
 refine L0<|cR bt (xs:=(L++[((1+(2*(((M.recs.getD k ⟨0,0,0,[]⟩).words.length:Nat) : Int)))%256),6])) (ys:=(b9 ((M.recs.getD k ⟨0,0,0,[]⟩).words))) (.int .u8 0) 1 (ax aH S (fun x hx=>ay) (fun _ _ h=>h)) (bU).rd (by(try simp only[List.length_append,List.length_cons,List.length_nil,aC]);omega) (le (le (le (le (le (le g.size f) b.size) c.size) E.size) ah.size) S.size) fun bV bW cZ bX aI=>Pl 1<|nl<|bn<|tn<|go<|L0<|Oi (((k:Nat) : Int)+1)<|Pl 1<|nl<|?_
 exact fF ((k+1),((L++[((1+(2*(((M.recs.getD k ⟨0,0,0,[]⟩).words.length:Nat) : Int)))%256),6])++(b9 ((M.recs.getD k ⟨0,0,0,[]⟩).words))),bV,bW) ⟨(ut C (ut (aD.mono (S':=(ob A++(ob aG++[]))) ai (av il au)) (ut (aD.mono (S':=(ob aG++[])) S au) aI (av il au)) (av il au)) (av (aV a lr) (av (aV aH lr) au))),(le (le (le (le (le (le f b.size) c.size) E.size) ah.size) S.size) aI.size),bX,(by(try dsimp only);omega),(by(try dsimp only);rw[← hL,dE dir M.code M.recs k (by omega)];simp only[ka,hd0,n,o,aB,aE,bs,if_true,if_false,decide_true,decide_false,List.append_assoc]),(by(try dsimp only);have hv:=hf.recw _ (dK ⟨0,0,0,[]⟩ M.recs k (by omega));(try simp only[List.length_append,List.length_cons,List.length_nil,aC]);omega),(by(try dsimp only);(try simp only[List.length_append,List.length_cons,List.length_nil]);omega)⟩ (by omega)
 refine Rg 13 (fun w'=>w'.cell? ⟨ae,0,none⟩=some (.int .u16 ((M.recs.getD k ⟨0,0,0,[]⟩).file))∧w'.cell? ⟨ae,1,none⟩=some (.int .u16 ((M.recs.getD k ⟨0,0,0,[]⟩).record))∧w'.cell? ⟨ae,2,none⟩=some (.int .u16 ((M.recs.getD k ⟨0,0,0,[]⟩).count))) fun d0 d=>?_
 have F:=ub d af
 refine bg ⟨(ag F rfl),(ag F rfl),(ag F rfl)⟩ fun p=>Rt 0 p<|Rt 3 p<|Rl 4 p (fun _ hs=>hs.1)<|Rt 5 p<|Rl 6 p (fun _ hs=>hs.2.1)<|Rt 7 p<|Rl 8 p (fun _ hs=>hs.2.2)<|?_
 refine R2 1 9 rfl rfl ?_ ?_
 refine  dD (m:=1) (e:=5) #[.int .u8 6] fun d1 d2 bY bZ i=>?_
 have aJ:=dR bY (xs:=[6]) (by as_aux_lemma=>kernel_rfl) (az (by omega) aZ) (by(try simp only[List.length_cons,List.length_nil]);omega) bZ
 have G:=ub i F
 refine bg ⟨(ag G rfl),(ag G rfl),(ag G rfl)⟩ fun d3=>?_
 refine R2 2 9 rfl rfl ?_ ?_
 have aK:=aF d i
 refine  cR bt (xs:=L) (ys:=([6])) (.int .u8 0) 1 (ax a (aF s aK) (fun x hx=>ay) (fun _ _ h=>h)) (aJ).rd (by(try simp only[List.length_append,List.length_cons,List.length_nil,aC]);omega) (le (le (le (le (le g.size f) b.size) c.size) d.size) i.size) fun T d4 d5 aj H=>?_
 have U:=aD.blk H (bj (ea a lr B) ay) G
 refine bg ⟨(ag U rfl),(ag U rfl),(ag U rfl)⟩ fun d6=>R0 9 rfl<|dD (m:=3) (e:=24) #[.int .u16 ((M.recs.getD k ⟨0,0,0,[]⟩).file),.int .u16 ((M.recs.getD k ⟨0,0,0,[]⟩).record),.int .u16 ((M.recs.getD k ⟨0,0,0,[]⟩).count)] fun d7 d9 c0 c1 I=>?_
 have c2:=ek c0 (xs:=[(M.recs.getD k ⟨0,0,0,[]⟩).file,(M.recs.getD k ⟨0,0,0,[]⟩).record,(M.recs.getD k ⟨0,0,0,[]⟩).count]) (by as_aux_lemma=>kernel_rfl) (az (by omega) (az (by omega) (az (by omega) aZ))) (by(try simp only[List.length_cons,List.length_nil]);omega) c1
 have V:=ub I U
 refine bg ⟨(ag V rfl),(ag V rfl),(ag V rfl)⟩ fun db=>R0 10 rfl<|Oc<|ej (bC (xs:=[(M.recs.getD k ⟨0,0,0,[]⟩).file,(M.recs.getD k ⟨0,0,0,[]⟩).record,(M.recs.getD k ⟨0,0,0,[]⟩).count]) (c2).rd (by(try simp only[List.length_cons,List.length_nil]);omega)) fun dc dd de c3 df dg J=>?_
 have N:=ub J V
 refine bg ⟨(ag N rfl),(ag N rfl),(ag N rfl)⟩ fun dh=>?_
 have aM:=aF I J
 have aN:=ax aj aM (fun x hx=>ay) (fun _ _ h=>h)
 refine R0 11 rfl<|cR bt (xs:=(L++[6])) (ys:=(b9 ([(M.recs.getD k ⟨0,0,0,[]⟩).file,(M.recs.getD k ⟨0,0,0,[]⟩).record,(M.recs.getD k ⟨0,0,0,[]⟩).count]))) (.int .u8 0) 1 aN (c3).rd (by(try simp only[List.length_append,List.length_cons,List.length_nil,aC]);omega) (le (le (le (le (le (le (le (le g.size f) b.size) c.size) d.size) i.size) H.size) I.size) J.size) fun aO di dj aP W=>?_
 have X:=aD.blk W (bj (dw N aN (by decide)) ay) N
 refine bg ⟨(ag X rfl),(ag X rfl),(ag X rfl)⟩ fun c4=>Rt 12 c4<|re<|bn<|tn<|go<|Pl 2<|L0<|aU X 3<|?_
 have aS:=ut (aD.mono (S':=(ob A++(ob T++[]))) aK au) (ut (aD.mono (S':=(ob A++(ob T++[]))) H (av il au)) (ut (aD.mono (S':=(ob T++[])) aM au) W (av il au)) (av il au)) (av il (av il au))
 refine L0<|Oc<|ej (bC (xs:=(M.recs.getD k ⟨0,0,0,[]⟩).words) (e8.old Q (ut R aS (av (aV a l.size) (av (aV aj l.size) au)))) (by(try simp only[List.length_cons,List.length_nil]);omega)) fun dk dl dm c5 dn dp Y=>?_
 refine L0<|cR bt (xs:=((L++[6])++(b9 ([(M.recs.getD k ⟨0,0,0,[]⟩).file,(M.recs.getD k ⟨0,0,0,[]⟩).record,(M.recs.getD k ⟨0,0,0,[]⟩).count])))) (ys:=(b9 ((M.recs.getD k ⟨0,0,0,[]⟩).words))) (.int .u8 0) 1 (ax aP Y (fun x hx=>ay) (fun _ _ h=>h)) (c5).rd (by(try simp only[List.length_append,List.length_cons,List.length_nil,aC]);omega) (le (le (le (le (le (le (le (le (le (le g.size f) b.size) c.size) d.size) i.size) H.size) I.size) J.size) W.size) Y.size) fun c6 c7 dr c8 aX=>Pl 1<|nl<|bn<|tn<|go<|L0<|Oi (((k:Nat) : Int)+1)<|Pl 1<|nl<|?_
 exact fF ((k+1),(((L++[6])++(b9 ([(M.recs.getD k ⟨0,0,0,[]⟩).file,(M.recs.getD k ⟨0,0,0,[]⟩).record,(M.recs.getD k ⟨0,0,0,[]⟩).count])))++(b9 ((M.recs.getD k ⟨0,0,0,[]⟩).words))),c6,c7) ⟨(ut C (ut (aD.mono (S':=(ob A++(ob T++(ob aO++[])))) aS (av il (av il au))) (ut (aD.mono (S':=(ob aO++[])) Y au) aX (av il au)) (av il au)) (av (aV a lr) (av (aV aj lr) (av (aV aP lr) au)))),(le (le (le (le (le (le (le (le (le (le f b.size) c.size) d.size) i.size) H.size) I.size) J.size) W.size) Y.size) aX.size),c8,(by(try dsimp only);omega),(by(try dsimp only);rw[← hL,dE dir M.code M.recs k (by omega)];simp only[ka,hd0,n,o,bs,if_true,if_false,decide_true,decide_false,List.append_assoc]),(by(try dsimp only);have hv:=hf.recw _ (dK ⟨0,0,0,[]⟩ M.recs k (by omega));(try simp only[List.length_append,List.length_cons,List.length_nil,aC]);omega),(by(try dsimp only);(try simp only[List.length_append,List.length_cons,List.length_nil]);omega)⟩ (by omega)
 refine  dD (m:=3) (e:=24) #[.int .u16 ((M.recs.getD k ⟨0,0,0,[]⟩).file),.int .u16 ((M.recs.getD k ⟨0,0,0,[]⟩).record),.int .u16 ((M.recs.getD k ⟨0,0,0,[]⟩).count)] fun ds dt c9 ca q=>?_
 have aY:=ek c9 (xs:=[(M.recs.getD k ⟨0,0,0,[]⟩).file,(M.recs.getD k ⟨0,0,0,[]⟩).record,(M.recs.getD k ⟨0,0,0,[]⟩).count]) (by as_aux_lemma=>kernel_rfl) (az (by omega) (az (by omega) (az (by omega) aZ))) (by(try simp only[List.length_cons,List.length_nil]);omega) ca
 have Z:=ub q G
 refine bg ⟨(ag Z rfl),(ag Z rfl),(ag Z rfl)⟩ fun du=>?_
 have b0:=aF d (aF i q)
 refine R0 2 rfl<|cR bt (xs:=L) (ys:=([6])) (.int .u8 0) 1 (ax a (aF s b0) (fun x hx=>ay) (fun _ _ h=>h)) ((ax aJ q (fun x hx=>ay) (fun _ _ h=>h))).rd (by(try simp only[List.length_append,List.length_cons,List.length_nil,aC]);omega) (le (le (le (le (le (le g.size f) b.size) c.size) d.size) i.size) q.size) fun a0 dv dy ak t=>?_
 have a1:=aD.blk t (bj (ea a lr B) ay) Z
 refine bg ⟨(ag a1 rfl),(ag a1 rfl),(ag a1 rfl)⟩ fun dz=>?_
 refine R0 10 rfl<|Oc<|ej (bC (xs:=[(M.recs.getD k ⟨0,0,0,[]⟩).file,(M.recs.getD k ⟨0,0,0,[]⟩).record,(M.recs.getD k ⟨0,0,0,[]⟩).count]) ((ax aY t (fun x hx=>(bj ((gi aY a (le (le (le b.size c.size) d.size) i.size)) x hx) ay)) (fun _ _ h=>h))).rd (by(try simp only[List.length_cons,List.length_nil]);omega)) fun dA dB dC cc dF dG u=>?_
 have O:=ub u a1
 refine bg ⟨(ag O rfl),(ag O rfl),(ag O rfl)⟩ fun dH=>?_
 have b1:=ax ak u (fun x hx=>ay) (fun _ _ h=>h)
 refine R0 11 rfl<|cR bt (xs:=(L++[6])) (ys:=(b9 ([(M.recs.getD k ⟨0,0,0,[]⟩).file,(M.recs.getD k ⟨0,0,0,[]⟩).record,(M.recs.getD k ⟨0,0,0,[]⟩).count]))) (.int .u8 0) 1 b1 (cc).rd (by(try simp only[List.length_append,List.length_cons,List.length_nil,aC]);omega) (le (le (le (le (le (le (le (le g.size f) b.size) c.size) d.size) i.size) q.size) t.size) u.size) fun b2 dI dJ b3 a2=>?_
 have a3:=aD.blk a2 (bj (dw O b1 (by decide)) ay) O
 refine bg ⟨(ag a3 rfl),(ag a3 rfl),(ag a3 rfl)⟩ fun cd=>Rt 12 cd<|re<|bn<|tn<|go<|Pl 2<|L0<|aU a3 3<|?_
 have b4:=ut (aD.mono (S':=(ob A++(ob a0++[]))) b0 au) (ut (aD.mono (S':=(ob A++(ob a0++[]))) t (av il au)) (ut (aD.mono (S':=(ob a0++[])) u au) a2 (av il au)) (av il au)) (av il (av il au))
 refine L0<|Oc<|ej (bC (xs:=(M.recs.getD k ⟨0,0,0,[]⟩).words) (e8.old Q (ut R b4 (av (aV a l.size) (av (aV ak l.size) au)))) (by(try simp only[List.length_cons,List.length_nil]);omega)) fun dL dM dN cf dO dP a4=>?_
 refine L0<|cR bt (xs:=((L++[6])++(b9 ([(M.recs.getD k ⟨0,0,0,[]⟩).file,(M.recs.getD k ⟨0,0,0,[]⟩).record,(M.recs.getD k ⟨0,0,0,[]⟩).count])))) (ys:=(b9 ((M.recs.getD k ⟨0,0,0,[]⟩).words))) (.int .u8 0) 1 (ax b3 a4 (fun x hx=>ay) (fun _ _ h=>h)) (cf).rd (by(try simp only[List.length_append,List.length_cons,List.length_nil,aC]);omega) (le (le (le (le (le (le (le (le (le (le g.size f) b.size) c.size) d.size) i.size) q.size) t.size) u.size) a2.size) a4.size) fun cg ch dQ ci b5=>Pl 1<|nl<|bn<|tn<|go<|L0<|Oi (((k:Nat) : Int)+1)<|Pl 1<|nl<|?_
 exact fF ((k+1),(((L++[6])++(b9 ([(M.recs.getD k ⟨0,0,0,[]⟩).file,(M.recs.getD k ⟨0,0,0,[]⟩).record,(M.recs.getD k ⟨0,0,0,[]⟩).count])))++(b9 ((M.recs.getD k ⟨0,0,0,[]⟩).words))),cg,ch) ⟨(ut C (ut (aD.mono (S':=(ob A++(ob a0++(ob b2++[])))) b4 (av il (av il au))) (ut (aD.mono (S':=(ob b2++[])) a4 au) b5 (av il au)) (av il au)) (av (aV a lr) (av (aV ak lr) (av (aV b3 lr) au)))),(le (le (le (le (le (le (le (le (le (le f b.size) c.size) d.size) i.size) q.size) t.size) u.size) a2.size) a4.size) b5.size),ci,(by(try dsimp only);omega),(by(try dsimp only);rw[← hL,dE dir M.code M.recs k (by omega)];simp only[ka,hd0,n,o,bs,if_true,if_false,decide_true,decide_false,List.append_assoc]),(by(try dsimp only);have hv:=hf.recw _ (dK ⟨0,0,0,[]⟩ M.recs k (by omega));(try simp only[List.length_append,List.length_cons,List.length_nil,aC]);omega),(by(try dsimp only);(try simp only[List.length_append,List.length_cons,List.length_nil]);omega)⟩ (by omega)
 refine  dD (m:=3) (e:=24) #[.int .u16 ((M.recs.getD k ⟨0,0,0,[]⟩).file),.int .u16 ((M.recs.getD k ⟨0,0,0,[]⟩).record),.int .u16 ((M.recs.getD k ⟨0,0,0,[]⟩).count)] fun dS dT cj ck v=>?_
 have b6:=ek cj (xs:=[(M.recs.getD k ⟨0,0,0,[]⟩).file,(M.recs.getD k ⟨0,0,0,[]⟩).record,(M.recs.getD k ⟨0,0,0,[]⟩).count]) (by as_aux_lemma=>kernel_rfl) (az (by omega) (az (by omega) (az (by omega) aZ))) (by(try simp only[List.length_cons,List.length_nil]);omega) ck
 have a5:=ub v F
 refine bg ⟨(ag a5 rfl),(ag a5 rfl),(ag a5 rfl)⟩ fun dU=>R0 1 rfl<|dD (m:=1) (e:=5) #[.int .u8 6] fun dV dW cl cm r=>?_
 have cn:=dR cl (xs:=[6]) (by as_aux_lemma=>kernel_rfl) (az (by omega) aZ) (by(try simp only[List.length_cons,List.length_nil]);omega) cm
 have a6:=ub r a5
 refine bg ⟨(ag a6 rfl),(ag a6 rfl),(ag a6 rfl)⟩ fun dX=>?_
 have b7:=aF d (aF v r)
 refine R0 2 rfl<|cR bt (xs:=L) (ys:=([6])) (.int .u8 0) 1 (ax a (aF s b7) (fun x hx=>ay) (fun _ _ h=>h)) (cn).rd (by(try simp only[List.length_append,List.length_cons,List.length_nil,aC]);omega) (le (le (le (le (le (le g.size f) b.size) c.size) d.size) v.size) r.size) fun a7 dY dZ am y=>?_
 have a8:=aD.blk y (bj (ea a lr B) ay) a6
 refine bg ⟨(ag a8 rfl),(ag a8 rfl),(ag a8 rfl)⟩ fun e0=>?_
 refine R0 10 rfl<|Oc<|ej (bC (xs:=[(M.recs.getD k ⟨0,0,0,[]⟩).file,(M.recs.getD k ⟨0,0,0,[]⟩).record,(M.recs.getD k ⟨0,0,0,[]⟩).count]) ((ax b6 (ut (aD.mono (S':=(ob A++[])) r au) y (av il au)) (fun x hx=>(bj ((gi b6 a (le (le b.size c.size) d.size)) x hx) ay)) (fun _ _ h=>h))).rd (by(try simp only[List.length_cons,List.length_nil]);omega)) fun e1 e2 e3 co e4 e5 z=>?_
 have P:=ub z a8
 refine bg ⟨(ag P rfl),(ag P rfl),(ag P rfl)⟩ fun e6=>?_
 have b8:=ax am z (fun x hx=>ay) (fun _ _ h=>h)
 refine R0 11 rfl<|cR bt (xs:=(L++[6])) (ys:=(b9 ([(M.recs.getD k ⟨0,0,0,[]⟩).file,(M.recs.getD k ⟨0,0,0,[]⟩).record,(M.recs.getD k ⟨0,0,0,[]⟩).count]))) (.int .u8 0) 1 b8 (co).rd (by(try simp only[List.length_append,List.length_cons,List.length_nil,aC]);omega) (le (le (le (le (le (le (le (le g.size f) b.size) c.size) d.size) v.size) r.size) y.size) z.size) fun ba e7 e9 bb a9=>?_
 have aa:=aD.blk a9 (bj (dw P b8 (by decide)) ay) P
 refine bg ⟨(ag aa rfl),(ag aa rfl),(ag aa rfl)⟩ fun cq=>Rt 12 cq<|re<|bn<|tn<|go<|Pl 2<|L0<|aU aa 3<|?_
 have bc:=ut (aD.mono (S':=(ob A++(ob a7++[]))) b7 au) (ut (aD.mono (S':=(ob A++(ob a7++[]))) y (av il au)) (ut (aD.mono (S':=(ob a7++[])) z au) a9 (av il au)) (av il au)) (av il (av il au))
 refine L0<|Oc<|ej (bC (xs:=(M.recs.getD k ⟨0,0,0,[]⟩).words) (e8.old Q (ut R bc (av (aV a l.size) (av (aV am l.size) au)))) (by(try simp only[List.length_cons,List.length_nil]);omega)) fun eb ec ed cr ee ef ab=>?_
 refine L0<|cR bt (xs:=((L++[6])++(b9 ([(M.recs.getD k ⟨0,0,0,[]⟩).file,(M.recs.getD k ⟨0,0,0,[]⟩).record,(M.recs.getD k ⟨0,0,0,[]⟩).count])))) (ys:=(b9 ((M.recs.getD k ⟨0,0,0,[]⟩).words))) (.int .u8 0) 1 (ax bb ab (fun x hx=>ay) (fun _ _ h=>h)) (cr).rd (by(try simp only[List.length_append,List.length_cons,List.length_nil,aC]);omega) (le (le (le (le (le (le (le (le (le (le g.size f) b.size) c.size) d.size) v.size) r.size) y.size) z.size) a9.size) ab.size) fun ct cv eg cw bd=>Pl 1<|nl<|bn<|tn<|go<|L0<|Oi (((k:Nat) : Int)+1)<|Pl 1<|nl<|?_
 exact fF ((k+1),(((L++[6])++(b9 ([(M.recs.getD k ⟨0,0,0,[]⟩).file,(M.recs.getD k ⟨0,0,0,[]⟩).record,(M.recs.getD k ⟨0,0,0,[]⟩).count])))++(b9 ((M.recs.getD k ⟨0,0,0,[]⟩).words))),ct,cv) ⟨(ut C (ut (aD.mono (S':=(ob A++(ob a7++(ob ba++[])))) bc (av il (av il au))) (ut (aD.mono (S':=(ob ba++[])) ab au) bd (av il au)) (av il au)) (av (aV a lr) (av (aV am lr) (av (aV bb lr) au)))),(le (le (le (le (le (le (le (le (le (le f b.size) c.size) d.size) v.size) r.size) y.size) z.size) a9.size) ab.size) bd.size),cw,(by(try dsimp only);omega),(by(try dsimp only);rw[← hL,dE dir M.code M.recs k (by omega)];simp only[ka,hd0,n,o,bs,if_true,if_false,decide_true,decide_false,List.append_assoc]),(by(try dsimp only);have hv:=hf.recw _ (dK ⟨0,0,0,[]⟩ M.recs k (by omega));(try simp only[List.length_append,List.length_cons,List.length_nil,aC]);omega),(by(try dsimp only);(try simp only[List.length_append,List.length_cons,List.length_nil]);omega)⟩ (by omega)
 have bK:=of_decide_eq_false n
 refine xt<|tx<|tx<|bx<|tn<|sg<|Pl 3<|L0<|Oi (((L.length:Nat) : Int)-1)<|Pl 1<|eJ (aT.at_ (a).rd 0 (by omega)) fun eh ei bf el em=>L0<|iZ L.length 0 bf (by omega)<|L0<|y5 bt (j:=0) a bf (by omega) ((((L.length:Nat) : Int)-1)%256) (fun _=>⟨rfl,by omega⟩) fun eo cx cy=>nl<|?_
 refine tn<|sg<|Pl 2<|nt<|rt<|rr (.slice A L.length cp)<|?_
 have hk:k=M.recs.length:=by omega
 rw[hk,List.drop_length] at hL
 have hL2:[0]++d8 dir M.code M.recs=L:=by rw[← hL];simp[d8]
 have hs:da dir M=(L.set 0 ((((L.length:Nat) : Int)-1)%256)):=by unfold da;rw[hL2]
 rw[hs]
 exact⟨_,rfl,(be.weaken cx l.size),(ut ad cy (av (aV a l.size) au))⟩
theorem nZ{m:Md}{cs:Array Value}{M:aQ}{w:World}{dir:Int}(h:aL m w cs.toList M)(hf:cO M)(hd0:(dir==0)=false) : Calls Tryz.prog 212 #[.int .i64 dir,.agg cs] w (ip (da dir M) w):=by
 obtain⟨vw,vb,vd,vr,vo,h0,hw,hbt,hd,hr,ho,hR⟩:=h
 obtain rfl:cs=(bM M vw vb vd vr vo).toArray:=by apply Array.toList_inj.1;simpa using h0
 clear h0
 obtain⟨Aw,kw,rfl,_,_⟩:=hw.shape
 obtain⟨Ab,kb,rfl,_,_⟩:=hbt.shape
 obtain⟨Ad,kd,rfl,_,_⟩:=hd.shape
 obtain⟨Ar,kr,rfl,_,_⟩:=hr.shape
 obtain⟨Ao,ko,rfl,_,_⟩:=ho.shape
 obtain⟨q0,q1,q2,q3,q4,q5,q6,q7,q8,q9,bh,bm,bo,bp,bq,br,bu⟩:=hR
 simp only[B8,dx] at q0 q1 q2 q3 q4 q5 q6 q7 q8 q9 bh bm bo bp bq br bu
 have hf1:=hf.words
 have hf2:=hf.bits
 have hf3:=hf.data
 have hf4:=hf.recs
 have hf5:=hf.objects
 refine en 58 Tryz.func212 rfl<|sg<|L0<|dq (mG M.code M.fail M.addr M.count M.value M.and_ M.or_ M.addr2 M.sub M.status M.events M.messages (.slice Aw M.words.length kw) (.slice Ab M.bits.length kb) (.slice Ad M.data.length kd) (.slice Ar M.recs.length kr) M.mei M.kind M.level M.more M.next (.slice Ao M.objects.length ko)) fun an ac cz ao l=>Pl 1<|ng<|L0<|dD (m:=1) (e:=5) #[.int .u8 0] fun bv bw bz bA g=>?_
 have bB:=dR bz (xs:=[0]) (by as_aux_lemma=>kernel_rfl) (az (by omega) aZ) (by(try simp only[List.length_cons,List.length_nil]);omega) bA
 refine Pl 1<|nt<|sq<|sg<|Pl 1<|?_
 refine L0<|aU (ub g ao) 15<|Pl 2<|nt<|bk<|?_
 refine hY (fun x=>[(0,.int .i64 dir),(3,.pointer (some ⟨an,0,none⟩)),(4,.slice none 0 0),(5,.slice x.2.2.1 x.2.1.length x.2.2.2),(10,.slice Ar M.recs.length kr),(11,.int .i64 ((M.recs.length:Nat) : Int)),(12,.int .i64 ((x.1:Nat) : Int))]) (fun(x:Nat × List Int × Option Addr × Nat) w'=>aD [] ac w'∧bw.heap.size≤w'.heap.size∧eq ac.heap.size w' (.slice x.2.2.1 x.2.1.length x.2.2.2) x.2.1∧(x.1≤M.recs.length)∧(x.2.1++d8 dir M.code (M.recs.drop x.1)=([0])++d8 dir M.code M.recs)∧(x.2.1.length≤16+x.1*2060)∧(1≤x.2.1.length)) (fun x=>M.recs.length-x.1) (0,[0],some ⟨bv,0,none⟩,1) ⟨g,lr,bB,(by(try dsimp only);omega),rfl,(by(try dsimp only);(try simp only[List.length_cons,List.length_nil]);omega),(by(try dsimp only);(try simp only[List.length_cons,List.length_nil]);omega)⟩ ?_
 rintro⟨k,L,A,cp⟩ bD ⟨aq,f,bF,bG,bH,bI,bJ⟩
 refine i1 [(0,.int .i64 dir),(3,.pointer (some ⟨an,0,none⟩)),(4,.slice none 0 0),(5,.slice A L.length cp),(10,.slice Ar M.recs.length kr),(11,.int .i64 ((M.recs.length:Nat) : Int)),(12,.int .i64 ((k:Nat) : Int))] ?_
 have a:eq ac.heap.size bD (.slice A L.length cp) L:=bF
 have cA:k≤M.recs.length:=bG
 have cB:L++d8 dir M.code (M.recs.drop k)=([0])++d8 dir M.code M.recs:=bH
 have cC:L.length≤16+k*2060:=bI
 have cD:1≤L.length:=bJ
 have hL:L++d8 dir M.code (M.recs.drop k)=([0])++d8 dir M.code M.recs:=by assumption
 have hv0:=fun(h:k<M.recs.length)=>hf.recw _ (dK ⟨0,0,0,[]⟩ M.recs k h)
 refine sg<|Pl 1<|nt<|sq<|?_
 have ad:=aF l aq
 refine cb ((decide (((k:Nat) : Int)<((M.recs.length:Nat) : Int)))) (fun n=>?_) (fun n=>?_)
 have bK:=of_decide_eq_true n
 refine bi<|sq<|bk<|sg<|jG (mr.elt hr k (by omega)) fun cE cF cG cH cI ar aw bL bN Q cJ bO=>L0<|tq 4 M.recs.length k bL (by omega)<|?_
 refine L0<|y3 [.int .u16 ((M.recs.getD k ⟨0,0,0,[]⟩).file),.int .u16 ((M.recs.getD k ⟨0,0,0,[]⟩).record),.int .u16 ((M.recs.getD k ⟨0,0,0,[]⟩).count),.slice ar ((M.recs.getD k ⟨0,0,0,[]⟩).words.length) aw] (ub ad bN) bO<|L0<|bE #[.int .u16 0,.int .u16 0,.int .u16 0,.slice none 0 0] fun ae cK B bP b=>L0<|aW bP #[.int .u16 ((M.recs.getD k ⟨0,0,0,[]⟩).file),.int .u16 ((M.recs.getD k ⟨0,0,0,[]⟩).record),.int .u16 ((M.recs.getD k ⟨0,0,0,[]⟩).count),.slice ar ((M.recs.getD k ⟨0,0,0,[]⟩).words.length) aw] fun cL af c=>nt<|sq<|bk<|sg<|Pl 1<|?_
 have s:=ud b c B
 have C:=aF aq s
 refine L0<|aU (ub C ao) 0<|Pl 2<|cu 3 [32] 35 (((M.code==20)&&(dir==1))) (fun K aA=>?_) ?_
 refine bl 32 ((M.code==20)) (fun D=>?_) (fun D=>?_)
 have bQ:=al D
 exact Pl 3<|ce aA (dir==1) (by rw[D];rfl)
 have bQ:=ap D
 exact Pl 3<|ce aA false (by rw[D];rfl)
 refine Pl 1<|nt<|?_
 have R:=aF ad s
 refine cb (((M.code==20)&&(dir==1))) (fun o=>?_) (fun o=>?_)
 have aB:=(aR o).1
 have aE:=(aR o).2
 have cM:=al aB
 have cN:=al aE
 refine go<|Pl 2<|L0<|aU af 3<|Pl 1<|L0<|Oi (2*(((M.recs.getD k ⟨0,0,0,[]⟩).words.length:Nat) : Int))<|L0<|Oi (1+(2*(((M.recs.getD k ⟨0,0,0,[]⟩).words.length:Nat) : Int)))<|Pl 1<|L0<|dD (m:=2) (e:=5) #[.int .u8 ((1+(2*(((M.recs.getD k ⟨0,0,0,[]⟩).words.length:Nat) : Int)))%256),.int .u8 6] fun cP cQ bR bS E=>?_
 have bT:=dR bR (xs:=[((1+(2*(((M.recs.getD k ⟨0,0,0,[]⟩).words.length:Nat) : Int)))%256),6]) (by as_aux_lemma=>kernel_rfl) (az (by omega) (az (by omega) aZ)) (by(try simp only[List.length_cons,List.length_nil]);omega) bS
 refine L0<|cR bt (xs:=L) (ys:=([((1+(2*(((M.recs.getD k ⟨0,0,0,[]⟩).words.length:Nat) : Int)))%256),6])) (.int .u8 0) 1 (ax a (aF s E) (fun x hx=>ay) (fun _ _ h=>h)) (bT).rd (by(try simp only[List.length_append,List.length_cons,List.length_nil,aC]);omega) (le (le (le (le g.size f) b.size) c.size) E.size) fun aG cS cT aH ah=>Pl 1<|nl<|bn<|tn<|go<|Pl 2<|?_
 have ai:=ut (aD.mono (S':=(ob A++[])) E au) ah (av il au)
 refine L0<|aU (aD.blk ai (bj (ea a lr B) ay) af) 3<|?_
 refine L0<|Oc<|ej (bC (xs:=(M.recs.getD k ⟨0,0,0,[]⟩).words) (e8.old Q (ut R ai (av (aV a l.size) au))) (by(try simp only[List.length_cons,List.length_nil]);omega)) fun cU cV cW bU cX cY S=>?_
 refine L0<|cR bt (xs:=(L++[((1+(2*(((M.recs.getD k ⟨0,0,0,[]⟩).words.length:Nat) : Int)))%256),6])) (ys:=(b9 ((M.recs.getD k ⟨0,0,0,[]⟩).words))) (.int .u8 0) 1 (ax aH S (fun x hx=>ay) (fun _ _ h=>h)) (bU).rd (by(try simp only[List.length_append,List.length_cons,List.length_nil,aC]);omega) (le (le (le (le (le (le g.size f) b.size) c.size) E.size) ah.size) S.size) fun bV bW cZ bX aI=>Pl 1<|nl<|bn<|tn<|go<|L0<|Oi (((k:Nat) : Int)+1)<|Pl 1<|nl<|?_
 exact fF ((k+1),((L++[((1+(2*(((M.recs.getD k ⟨0,0,0,[]⟩).words.length:Nat) : Int)))%256),6])++(b9 ((M.recs.getD k ⟨0,0,0,[]⟩).words))),bV,bW) ⟨(ut C (ut (aD.mono (S':=(ob A++(ob aG++[]))) ai (av il au)) (ut (aD.mono (S':=(ob aG++[])) S au) aI (av il au)) (av il au)) (av (aV a lr) (av (aV aH lr) au))),(le (le (le (le (le (le f b.size) c.size) E.size) ah.size) S.size) aI.size),bX,(by(try dsimp only);omega),(by(try dsimp only);rw[← hL,dE dir M.code M.recs k (by omega)];simp only[ka,hd0,n,o,aB,aE,bs,if_true,if_false,decide_true,decide_false,List.append_assoc]),(by(try dsimp only);have hv:=hf.recw _ (dK ⟨0,0,0,[]⟩ M.recs k (by omega));(try simp only[List.length_append,List.length_cons,List.length_nil,aC]);omega),(by(try dsimp only);(try simp only[List.length_append,List.length_cons,List.length_nil]);omega)⟩ (by omega)
 refine Rg 13 (fun w'=>w'.cell? ⟨ae,0,none⟩=some (.int .u16 ((M.recs.getD k ⟨0,0,0,[]⟩).file))∧w'.cell? ⟨ae,1,none⟩=some (.int .u16 ((M.recs.getD k ⟨0,0,0,[]⟩).record))∧w'.cell? ⟨ae,2,none⟩=some (.int .u16 ((M.recs.getD k ⟨0,0,0,[]⟩).count))) fun d0 d=>?_
 have F:=ub d af
 refine bg ⟨(ag F rfl),(ag F rfl),(ag F rfl)⟩ fun p=>Rt 0 p<|Rt 3 p<|Rl 4 p (fun _ hs=>hs.1)<|Rt 5 p<|Rl 6 p (fun _ hs=>hs.2.1)<|Rt 7 p<|Rl 8 p (fun _ hs=>hs.2.2)<|?_
 refine R2 1 9 rfl rfl ?_ ?_
 refine  dD (m:=1) (e:=5) #[.int .u8 6] fun d1 d2 bY bZ i=>?_
 have aJ:=dR bY (xs:=[6]) (by as_aux_lemma=>kernel_rfl) (az (by omega) aZ) (by(try simp only[List.length_cons,List.length_nil]);omega) bZ
 have G:=ub i F
 refine bg ⟨(ag G rfl),(ag G rfl),(ag G rfl)⟩ fun d3=>?_
 refine R2 2 9 rfl rfl ?_ ?_
 have aK:=aF d i
 refine  cR bt (xs:=L) (ys:=([6])) (.int .u8 0) 1 (ax a (aF s aK) (fun x hx=>ay) (fun _ _ h=>h)) (aJ).rd (by(try simp only[List.length_append,List.length_cons,List.length_nil,aC]);omega) (le (le (le (le (le g.size f) b.size) c.size) d.size) i.size) fun T d4 d5 aj H=>?_
 have U:=aD.blk H (bj (ea a lr B) ay) G
 refine bg ⟨(ag U rfl),(ag U rfl),(ag U rfl)⟩ fun d6=>R0 9 rfl<|dD (m:=3) (e:=24) #[.int .u16 ((M.recs.getD k ⟨0,0,0,[]⟩).file),.int .u16 ((M.recs.getD k ⟨0,0,0,[]⟩).record),.int .u16 ((M.recs.getD k ⟨0,0,0,[]⟩).count)] fun d7 d9 c0 c1 I=>?_
 have c2:=ek c0 (xs:=[(M.recs.getD k ⟨0,0,0,[]⟩).file,(M.recs.getD k ⟨0,0,0,[]⟩).record,(M.recs.getD k ⟨0,0,0,[]⟩).count]) (by as_aux_lemma=>kernel_rfl) (az (by omega) (az (by omega) (az (by omega) aZ))) (by(try simp only[List.length_cons,List.length_nil]);omega) c1
 have V:=ub I U
 refine bg ⟨(ag V rfl),(ag V rfl),(ag V rfl)⟩ fun db=>R0 10 rfl<|Oc<|ej (bC (xs:=[(M.recs.getD k ⟨0,0,0,[]⟩).file,(M.recs.getD k ⟨0,0,0,[]⟩).record,(M.recs.getD k ⟨0,0,0,[]⟩).count]) (c2).rd (by(try simp only[List.length_cons,List.length_nil]);omega)) fun dc dd de c3 df dg J=>?_
 have N:=ub J V
 refine bg ⟨(ag N rfl),(ag N rfl),(ag N rfl)⟩ fun dh=>?_
 have aM:=aF I J
 have aN:=ax aj aM (fun x hx=>ay) (fun _ _ h=>h)
 refine R0 11 rfl<|cR bt (xs:=(L++[6])) (ys:=(b9 ([(M.recs.getD k ⟨0,0,0,[]⟩).file,(M.recs.getD k ⟨0,0,0,[]⟩).record,(M.recs.getD k ⟨0,0,0,[]⟩).count]))) (.int .u8 0) 1 aN (c3).rd (by(try simp only[List.length_append,List.length_cons,List.length_nil,aC]);omega) (le (le (le (le (le (le (le (le g.size f) b.size) c.size) d.size) i.size) H.size) I.size) J.size) fun aO di dj aP W=>?_
 have X:=aD.blk W (bj (dw N aN (by decide)) ay) N
 refine bg ⟨(ag X rfl),(ag X rfl),(ag X rfl)⟩ fun c4=>Rt 12 c4<|re<|bn<|tn<|go<|Pl 2<|L0<|aU X 3<|?_
 have aS:=ut (aD.mono (S':=(ob A++(ob T++[]))) aK au) (ut (aD.mono (S':=(ob A++(ob T++[]))) H (av il au)) (ut (aD.mono (S':=(ob T++[])) aM au) W (av il au)) (av il au)) (av il (av il au))
 refine L0<|Oc<|ej (bC (xs:=(M.recs.getD k ⟨0,0,0,[]⟩).words) (e8.old Q (ut R aS (av (aV a l.size) (av (aV aj l.size) au)))) (by(try simp only[List.length_cons,List.length_nil]);omega)) fun dk dl dm c5 dn dp Y=>?_
 refine L0<|cR bt (xs:=((L++[6])++(b9 ([(M.recs.getD k ⟨0,0,0,[]⟩).file,(M.recs.getD k ⟨0,0,0,[]⟩).record,(M.recs.getD k ⟨0,0,0,[]⟩).count])))) (ys:=(b9 ((M.recs.getD k ⟨0,0,0,[]⟩).words))) (.int .u8 0) 1 (ax aP Y (fun x hx=>ay) (fun _ _ h=>h)) (c5).rd (by(try simp only[List.length_append,List.length_cons,List.length_nil,aC]);omega) (le (le (le (le (le (le (le (le (le (le g.size f) b.size) c.size) d.size) i.size) H.size) I.size) J.size) W.size) Y.size) fun c6 c7 dr c8 aX=>Pl 1<|nl<|bn<|tn<|go<|L0<|Oi (((k:Nat) : Int)+1)<|Pl 1<|nl<|?_
 exact fF ((k+1),(((L++[6])++(b9 ([(M.recs.getD k ⟨0,0,0,[]⟩).file,(M.recs.getD k ⟨0,0,0,[]⟩).record,(M.recs.getD k ⟨0,0,0,[]⟩).count])))++(b9 ((M.recs.getD k ⟨0,0,0,[]⟩).words))),c6,c7) ⟨(ut C (ut (aD.mono (S':=(ob A++(ob T++(ob aO++[])))) aS (av il (av il au))) (ut (aD.mono (S':=(ob aO++[])) Y au) aX (av il au)) (av il au)) (av (aV a lr) (av (aV aj lr) (av (aV aP lr) au)))),(le (le (le (le (le (le (le (le (le (le f b.size) c.size) d.size) i.size) H.size) I.size) J.size) W.size) Y.size) aX.size),c8,(by(try dsimp only);omega),(by(try dsimp only);rw[← hL,dE dir M.code M.recs k (by omega)];simp only[ka,hd0,n,o,bs,if_true,if_false,decide_true,decide_false,List.append_assoc]),(by(try dsimp only);have hv:=hf.recw _ (dK ⟨0,0,0,[]⟩ M.recs k (by omega));(try simp only[List.length_append,List.length_cons,List.length_nil,aC]);omega),(by(try dsimp only);(try simp only[List.length_append,List.length_cons,List.length_nil]);omega)⟩ (by omega)
 refine  dD (m:=3) (e:=24) #[.int .u16 ((M.recs.getD k ⟨0,0,0,[]⟩).file),.int .u16 ((M.recs.getD k ⟨0,0,0,[]⟩).record),.int .u16 ((M.recs.getD k ⟨0,0,0,[]⟩).count)] fun ds dt c9 ca q=>?_
 have aY:=ek c9 (xs:=[(M.recs.getD k ⟨0,0,0,[]⟩).file,(M.recs.getD k ⟨0,0,0,[]⟩).record,(M.recs.getD k ⟨0,0,0,[]⟩).count]) (by as_aux_lemma=>kernel_rfl) (az (by omega) (az (by omega) (az (by omega) aZ))) (by(try simp only[List.length_cons,List.length_nil]);omega) ca
 have Z:=ub q G
 refine bg ⟨(ag Z rfl),(ag Z rfl),(ag Z rfl)⟩ fun du=>?_
 have b0:=aF d (aF i q)
 refine R0 2 rfl<|cR bt (xs:=L) (ys:=([6])) (.int .u8 0) 1 (ax a (aF s b0) (fun x hx=>ay) (fun _ _ h=>h)) ((ax aJ q (fun x hx=>ay) (fun _ _ h=>h))).rd (by(try simp only[List.length_append,List.length_cons,List.length_nil,aC]);omega) (le (le (le (le (le (le g.size f) b.size) c.size) d.size) i.size) q.size) fun a0 dv dy ak t=>?_
 have a1:=aD.blk t (bj (ea a lr B) ay) Z
 refine bg ⟨(ag a1 rfl),(ag a1 rfl),(ag a1 rfl)⟩ fun dz=>?_
 refine R0 10 rfl<|Oc<|ej (bC (xs:=[(M.recs.getD k ⟨0,0,0,[]⟩).file,(M.recs.getD k ⟨0,0,0,[]⟩).record,(M.recs.getD k ⟨0,0,0,[]⟩).count]) ((ax aY t (fun x hx=>(bj ((gi aY a (le (le (le b.size c.size) d.size) i.size)) x hx) ay)) (fun _ _ h=>h))).rd (by(try simp only[List.length_cons,List.length_nil]);omega)) fun dA dB dC cc dF dG u=>?_
 have O:=ub u a1
 refine bg ⟨(ag O rfl),(ag O rfl),(ag O rfl)⟩ fun dH=>?_
 have b1:=ax ak u (fun x hx=>ay) (fun _ _ h=>h)
 refine R0 11 rfl<|cR bt (xs:=(L++[6])) (ys:=(b9 ([(M.recs.getD k ⟨0,0,0,[]⟩).file,(M.recs.getD k ⟨0,0,0,[]⟩).record,(M.recs.getD k ⟨0,0,0,[]⟩).count]))) (.int .u8 0) 1 b1 (cc).rd (by(try simp only[List.length_append,List.length_cons,List.length_nil,aC]);omega) (le (le (le (le (le (le (le (le g.size f) b.size) c.size) d.size) i.size) q.size) t.size) u.size) fun b2 dI dJ b3 a2=>?_
 have a3:=aD.blk a2 (bj (dw O b1 (by decide)) ay) O
 refine bg ⟨(ag a3 rfl),(ag a3 rfl),(ag a3 rfl)⟩ fun cd=>Rt 12 cd<|re<|bn<|tn<|go<|Pl 2<|L0<|aU a3 3<|?_
 have b4:=ut (aD.mono (S':=(ob A++(ob a0++[]))) b0 au) (ut (aD.mono (S':=(ob A++(ob a0++[]))) t (av il au)) (ut (aD.mono (S':=(ob a0++[])) u au) a2 (av il au)) (av il au)) (av il (av il au))
 refine L0<|Oc<|ej (bC (xs:=(M.recs.getD k ⟨0,0,0,[]⟩).words) (e8.old Q (ut R b4 (av (aV a l.size) (av (aV ak l.size) au)))) (by(try simp only[List.length_cons,List.length_nil]);omega)) fun dL dM dN cf dO dP a4=>?_
 refine L0<|cR bt (xs:=((L++[6])++(b9 ([(M.recs.getD k ⟨0,0,0,[]⟩).file,(M.recs.getD k ⟨0,0,0,[]⟩).record,(M.recs.getD k ⟨0,0,0,[]⟩).count])))) (ys:=(b9 ((M.recs.getD k ⟨0,0,0,[]⟩).words))) (.int .u8 0) 1 (ax b3 a4 (fun x hx=>ay) (fun _ _ h=>h)) (cf).rd (by(try simp only[List.length_append,List.length_cons,List.length_nil,aC]);omega) (le (le (le (le (le (le (le (le (le (le g.size f) b.size) c.size) d.size) i.size) q.size) t.size) u.size) a2.size) a4.size) fun cg ch dQ ci b5=>Pl 1<|nl<|bn<|tn<|go<|L0<|Oi (((k:Nat) : Int)+1)<|Pl 1<|nl<|?_
 exact fF ((k+1),(((L++[6])++(b9 ([(M.recs.getD k ⟨0,0,0,[]⟩).file,(M.recs.getD k ⟨0,0,0,[]⟩).record,(M.recs.getD k ⟨0,0,0,[]⟩).count])))++(b9 ((M.recs.getD k ⟨0,0,0,[]⟩).words))),cg,ch) ⟨(ut C (ut (aD.mono (S':=(ob A++(ob a0++(ob b2++[])))) b4 (av il (av il au))) (ut (aD.mono (S':=(ob b2++[])) a4 au) b5 (av il au)) (av il au)) (av (aV a lr) (av (aV ak lr) (av (aV b3 lr) au)))),(le (le (le (le (le (le (le (le (le (le f b.size) c.size) d.size) i.size) q.size) t.size) u.size) a2.size) a4.size) b5.size),ci,(by(try dsimp only);omega),(by(try dsimp only);rw[← hL,dE dir M.code M.recs k (by omega)];simp only[ka,hd0,n,o,bs,if_true,if_false,decide_true,decide_false,List.append_assoc]),(by(try dsimp only);have hv:=hf.recw _ (dK ⟨0,0,0,[]⟩ M.recs k (by omega));(try simp only[List.length_append,List.length_cons,List.length_nil,aC]);omega),(by(try dsimp only);(try simp only[List.length_append,List.length_cons,List.length_nil]);omega)⟩ (by omega)
 refine  dD (m:=3) (e:=24) #[.int .u16 ((M.recs.getD k ⟨0,0,0,[]⟩).file),.int .u16 ((M.recs.getD k ⟨0,0,0,[]⟩).record),.int .u16 ((M.recs.getD k ⟨0,0,0,[]⟩).count)] fun dS dT cj ck v=>?_
 have b6:=ek cj (xs:=[(M.recs.getD k ⟨0,0,0,[]⟩).file,(M.recs.getD k ⟨0,0,0,[]⟩).record,(M.recs.getD k ⟨0,0,0,[]⟩).count]) (by as_aux_lemma=>kernel_rfl) (az (by omega) (az (by omega) (az (by omega) aZ))) (by(try simp only[List.length_cons,List.length_nil]);omega) ck
 have a5:=ub v F
 refine bg ⟨(ag a5 rfl),(ag a5 rfl),(ag a5 rfl)⟩ fun dU=>R0 1 rfl<|dD (m:=1) (e:=5) #[.int .u8 6] fun dV dW cl cm r=>?_
 have cn:=dR cl (xs:=[6]) (by as_aux_lemma=>kernel_rfl) (az (by omega) aZ) (by(try simp only[List.length_cons,List.length_nil]);omega) cm
 have a6:=ub r a5
 refine bg ⟨(ag a6 rfl),(ag a6 rfl),(ag a6 rfl)⟩ fun dX=>?_
 have b7:=aF d (aF v r)
 refine R0 2 rfl<|cR bt (xs:=L) (ys:=([6])) (.int .u8 0) 1 (ax a (aF s b7) (fun x hx=>ay) (fun _ _ h=>h)) (cn).rd (by(try simp only[List.length_append,List.length_cons,List.length_nil,aC]);omega) (le (le (le (le (le (le g.size f) b.size) c.size) d.size) v.size) r.size) fun a7 dY dZ am y=>?_
 have a8:=aD.blk y (bj (ea a lr B) ay) a6
 refine bg ⟨(ag a8 rfl),(ag a8 rfl),(ag a8 rfl)⟩ fun e0=>?_
 refine R0 10 rfl<|Oc<|ej (bC (xs:=[(M.recs.getD k ⟨0,0,0,[]⟩).file,(M.recs.getD k ⟨0,0,0,[]⟩).record,(M.recs.getD k ⟨0,0,0,[]⟩).count]) ((ax b6 (ut (aD.mono (S':=(ob A++[])) r au) y (av il au)) (fun x hx=>(bj ((gi b6 a (le (le b.size c.size) d.size)) x hx) ay)) (fun _ _ h=>h))).rd (by(try simp only[List.length_cons,List.length_nil]);omega)) fun e1 e2 e3 co e4 e5 z=>?_
 have P:=ub z a8
 refine bg ⟨(ag P rfl),(ag P rfl),(ag P rfl)⟩ fun e6=>?_
 have b8:=ax am z (fun x hx=>ay) (fun _ _ h=>h)
 refine R0 11 rfl<|cR bt (xs:=(L++[6])) (ys:=(b9 ([(M.recs.getD k ⟨0,0,0,[]⟩).file,(M.recs.getD k ⟨0,0,0,[]⟩).record,(M.recs.getD k ⟨0,0,0,[]⟩).count]))) (.int .u8 0) 1 b8 (co).rd (by(try simp only[List.length_append,List.length_cons,List.length_nil,aC]);omega) (le (le (le (le (le (le (le (le g.size f) b.size) c.size) d.size) v.size) r.size) y.size) z.size) fun ba e7 e9 bb a9=>?_
 have aa:=aD.blk a9 (bj (dw P b8 (by decide)) ay) P
 refine bg ⟨(ag aa rfl),(ag aa rfl),(ag aa rfl)⟩ fun cq=>Rt 12 cq<|re<|bn<|tn<|go<|Pl 2<|L0<|aU aa 3<|?_
 have bc:=ut (aD.mono (S':=(ob A++(ob a7++[]))) b7 au) (ut (aD.mono (S':=(ob A++(ob a7++[]))) y (av il au)) (ut (aD.mono (S':=(ob a7++[])) z au) a9 (av il au)) (av il au)) (av il (av il au))
 refine L0<|Oc<|ej (bC (xs:=(M.recs.getD k ⟨0,0,0,[]⟩).words) (e8.old Q (ut R bc (av (aV a l.size) (av (aV am l.size) au)))) (by(try simp only[List.length_cons,List.length_nil]);omega)) fun eb ec ed cr ee ef ab=>?_
 refine L0<|cR bt (xs:=((L++[6])++(b9 ([(M.recs.getD k ⟨0,0,0,[]⟩).file,(M.recs.getD k ⟨0,0,0,[]⟩).record,(M.recs.getD k ⟨0,0,0,[]⟩).count])))) (ys:=(b9 ((M.recs.getD k ⟨0,0,0,[]⟩).words))) (.int .u8 0) 1 (ax bb ab (fun x hx=>ay) (fun _ _ h=>h)) (cr).rd (by(try simp only[List.length_append,List.length_cons,List.length_nil,aC]);omega) (le (le (le (le (le (le (le (le (le (le g.size f) b.size) c.size) d.size) v.size) r.size) y.size) z.size) a9.size) ab.size) fun ct cv eg cw bd=>Pl 1<|nl<|bn<|tn<|go<|L0<|Oi (((k:Nat) : Int)+1)<|Pl 1<|nl<|?_
 exact fF ((k+1),(((L++[6])++(b9 ([(M.recs.getD k ⟨0,0,0,[]⟩).file,(M.recs.getD k ⟨0,0,0,[]⟩).record,(M.recs.getD k ⟨0,0,0,[]⟩).count])))++(b9 ((M.recs.getD k ⟨0,0,0,[]⟩).words))),ct,cv) ⟨(ut C (ut (aD.mono (S':=(ob A++(ob a7++(ob ba++[])))) bc (av il (av il au))) (ut (aD.mono (S':=(ob ba++[])) ab au) bd (av il au)) (av il au)) (av (aV a lr) (av (aV am lr) (av (aV bb lr) au)))),(le (le (le (le (le (le (le (le (le (le f b.size) c.size) d.size) v.size) r.size) y.size) z.size) a9.size) ab.size) bd.size),cw,(by(try dsimp only);omega),(by(try dsimp only);rw[← hL,dE dir M.code M.recs k (by omega)];simp only[ka,hd0,n,o,bs,if_true,if_false,decide_true,decide_false,List.append_assoc]),(by(try dsimp only);have hv:=hf.recw _ (dK ⟨0,0,0,[]⟩ M.recs k (by omega));(try simp only[List.length_append,List.length_cons,List.length_nil,aC]);omega),(by(try dsimp only);(try simp only[List.length_append,List.length_cons,List.length_nil]);omega)⟩ (by omega)
 have bK:=of_decide_eq_false n
 refine xt<|tx<|tx<|bx<|tn<|sg<|Pl 3<|L0<|Oi (((L.length:Nat) : Int)-1)<|Pl 1<|eJ (aT.at_ (a).rd 0 (by omega)) fun eh ei bf el em=>L0<|iZ L.length 0 bf (by omega)<|L0<|y5 bt (j:=0) a bf (by omega) ((((L.length:Nat) : Int)-1)%256) (fun _=>⟨rfl,by omega⟩) fun eo cx cy=>nl<|?_
 refine tn<|sg<|Pl 2<|nt<|rt<|rr (.slice A L.length cp)<|?_
 have hk:k=M.recs.length:=by omega
 rw[hk,List.drop_length] at hL
 have hL2:[0]++d8 dir M.code M.recs=L:=by rw[← hL];simp[d8]
 have hs:da dir M=(L.set 0 ((((L.length:Nat) : Int)-1)%256)):=by unfold da;rw[hL2]
 rw[hs]
 exact⟨_,rfl,(be.weaken cx l.size),(ut ad cy (av (aV a l.size) au))⟩
theorem si{m:Md}{cs:Array Value}{M:aQ}{w:World}{dir:Int}(h:aL m w cs.toList M)(hf:cO M) : Calls Tryz.prog 212 #[.int .i64 dir,.agg cs] w (ip (da dir M) w):=by
  rcases dO (dir==0) with h0|h0
  · exact nK h hf h0
  · exact nZ h hf h0
open Go.RowKit
theorem iK{parse:Int→Int→List Int→aQ × Int}{lay:Int→aQ→List Int}{dir E:Int}{M X:aQ}(hX:parse dir M.code (lay dir M)=(X,E))(hE:(E != 0)=true) : cY parse lay dir M=none:=by
  unfold cY
  rw[hX,if_neg]
  intro h
  injection h with h1 h2
  rw[h2] at hE
  cases hE
theorem iE{parse:Int→Int→List Int→aQ × Int}{lay:Int→aQ→List Int}{dir E:Int}{M X:aQ}(hX:parse dir M.code (lay dir M)=(X,E))(hE:decide (X=M)=false) : cY parse lay dir M=none:=by
  unfold cY
  rw[hX,if_neg]
  intro h
  injection h with h1 h2
  rw[h1] at hE
  simp at hE
theorem nu{parse:Int→Int→List Int→aQ × Int}{lay:Int→aQ→List Int}{dir E:Int}{M X:aQ}(hX:parse dir M.code (lay dir M)=(X,E))(hE:(E != 0)=false)(h:decide (X=M)=true) : cY parse lay dir M=some (lay dir M):=by
  unfold cY
  have h1:X=M:=by simpa using h
  have h2:E=0:=by simpa using hE
  rw[hX,h1,h2,if_pos rfl]
theorem fl{x y:Option (List Int)}(h:x=y){w:World}{e:Ending}{w':World}(k:eZ y w e w') : eZ x w e w':=by rw[h];exact k
theorem jp{m:Md}{cs:Array Value}{M:aQ}{w:World}{dir:Int}(h:aL m w cs.toList M)(hf:cO M)(hlen:(bT dir M).length≤1048576) : Calls Tryz.prog 139 #[.int .i64 dir,.agg cs] w (eZ (cY fv bT dir M) w):=by
 have hM:=h
 obtain⟨vw,vb,vd,vr,vo,h0,hw,hbt,hd,hr,ho,hR⟩:=h
 obtain rfl:cs=(bM M vw vb vd vr vo).toArray:=by apply Array.toList_inj.1;simpa using h0
 clear h0
 obtain⟨Aw,kw,rfl,_,_⟩:=hw.shape
 obtain⟨Ab,kb,rfl,_,_⟩:=hbt.shape
 obtain⟨Ad,kd,rfl,_,_⟩:=hd.shape
 obtain⟨Ar,kr,rfl,_,_⟩:=hr.shape
 obtain⟨Ao,ko,rfl,_,_⟩:=ho.shape
 obtain⟨q0,q1,q2,q3,q4,q5,q6,q7,q8,q9,y,z,C,D,E,F,G⟩:=hR
 simp only[B8,dx] at q0 q1 q2 q3 q4 q5 q6 q7 q8 q9 y z C D E F G
 refine en 29 Tryz.func139 rfl<|sg<|L0<|dq (mG M.code M.fail M.addr M.count M.value M.and_ M.or_ M.addr2 M.sub M.status M.events M.messages (.slice Aw M.words.length kw) (.slice Ab M.bits.length kb) (.slice Ad M.data.length kd) (.slice Ar M.recs.length kr) M.mei M.kind M.level M.more M.next (.slice Ao M.objects.length ko)) fun V W X k g=>Pl 2<|ng<|Pl 1<|L0<|ci k<|?_
 have l:=aL.old hM g
 refine L0<|Oc<|ej (rK (dir:=dir) l hf) fun H I J n Y Z o=>Pl 1<|ng<|Pl 2<|?_
 have p:=ub o k
 refine L0<|aU p 0<|Pl 1<|?_
 refine pr (fv dir M.code (bT dir M)) fun e K f=>?_
 have q:Calls _ _ _ _ (dP (fv dir M.code (bT dir M)) J):=jw (dir:=dir) (c:=M.code) q0 (n).rd hlen
 rw[f] at q
 refine L0<|Oc<|e2 (q) fun L a0 a N=>Pl 3<|L0<|bE mZ fun a1 a2 O P Q=>L0<|aW (hz:=(by rw[a.size];exact aS)) (hv:=a.size) (h1:=a.one) P (L) fun a3 R S=>Pl 1<|nt<|sq<|sg<|Pl 3<|?_
 have r:=ud Q S O
 have i:=aF N r
 have s:=aF o i
 have t:=aF g s
 refine bl 22 ((K != 0)) (fun b=>?_) (fun b=>?_)
 have T:=aq b
 refine Pl 5<|nt<|c1<|sg<|Pl 2<|nt<|rt<|tr<|rr (.tuple #[.slice none 0 0,.int .i64 1])<|?_
 refine fl (iK f b) ?_
 exact⟨rfl,t⟩
 have T:=ai b
 refine L1<|ci (hz:=(by rw[a.size];exact aS)) R<|?_
 refine L1<|ci (ub i p)<|?_
 refine L1<|Oc<|m1 (fY (A:=e) (B:=M) (aL.upd a r aG) (aL.old l s)) fun a4 u=>Pl 2<|nt<|?_
 have v:=aF t u
 refine cb ((!(decide (e=M)))) (fun j=>?_) (fun j=>?_)
 have d:(decide (e=M))=false:=by simpa using j
 have U:=of_decide_eq_false d
 refine sg<|Pl 2<|nt<|rt<|tr<|rr (.tuple #[.slice none 0 0,.int .i64 1])<|?_
 refine fl (iE f d) ?_
 exact⟨rfl,v⟩
 have d:(decide (e=M))=true:=by simpa using j
 have U:=of_decide_eq_true d
 refine bi<|sg<|Pl 3<|nt<|rt<|rr (.tuple #[.slice H ((bT dir M).length) I,.int .i64 0])<|?_
 refine fl (nu f b d) ?_
 exact⟨_,rfl,(be.weaken (ax n (aF i u) (fun x hx=>ay) (fun _ _ h=>h)) g.size),v⟩
theorem jX{m:Md}{cs:Array Value}{M:aQ}{w:World}{dir:Int}(h:aL m w cs.toList M)(hf:cO M)(hlen:(bL dir M).length≤1048576) : Calls Tryz.prog 141 #[.int .i64 dir,.agg cs] w (eZ (cY g8 bL dir M) w):=by
 have hM:=h
 obtain⟨vw,vb,vd,vr,vo,h0,hw,hbt,hd,hr,ho,hR⟩:=h
 obtain rfl:cs=(bM M vw vb vd vr vo).toArray:=by apply Array.toList_inj.1;simpa using h0
 clear h0
 obtain⟨Aw,kw,rfl,_,_⟩:=hw.shape
 obtain⟨Ab,kb,rfl,_,_⟩:=hbt.shape
 obtain⟨Ad,kd,rfl,_,_⟩:=hd.shape
 obtain⟨Ar,kr,rfl,_,_⟩:=hr.shape
 obtain⟨Ao,ko,rfl,_,_⟩:=ho.shape
 obtain⟨q0,q1,q2,q3,q4,q5,q6,q7,q8,q9,y,z,C,D,E,F,G⟩:=hR
 simp only[B8,dx] at q0 q1 q2 q3 q4 q5 q6 q7 q8 q9 y z C D E F G
 refine en 29 Tryz.func141 rfl<|sg<|L0<|dq (mG M.code M.fail M.addr M.count M.value M.and_ M.or_ M.addr2 M.sub M.status M.events M.messages (.slice Aw M.words.length kw) (.slice Ab M.bits.length kb) (.slice Ad M.data.length kd) (.slice Ar M.recs.length kr) M.mei M.kind M.level M.more M.next (.slice Ao M.objects.length ko)) fun V W X k g=>Pl 2<|ng<|Pl 1<|L0<|ci k<|?_
 have l:=aL.old hM g
 refine L0<|Oc<|ej (t7 (dir:=dir) l hf) fun H I J n Y Z o=>Pl 1<|ng<|Pl 2<|?_
 have p:=ub o k
 refine L0<|aU p 0<|Pl 1<|?_
 refine pr (g8 dir M.code (bL dir M)) fun e K f=>?_
 have q:Calls _ _ _ _ (dP (g8 dir M.code (bL dir M)) J):=kC (dir:=dir) (c:=M.code) q0 (n).rd hlen
 rw[f] at q
 refine L0<|Oc<|e2 (q) fun L a0 a N=>Pl 3<|L0<|bE mZ fun a1 a2 O P Q=>L0<|aW (hz:=(by rw[a.size];exact aS)) (hv:=a.size) (h1:=a.one) P (L) fun a3 R S=>Pl 1<|nt<|sq<|sg<|Pl 3<|?_
 have r:=ud Q S O
 have i:=aF N r
 have s:=aF o i
 have t:=aF g s
 refine bl 22 ((K != 0)) (fun b=>?_) (fun b=>?_)
 have T:=aq b
 refine Pl 5<|nt<|c1<|sg<|Pl 2<|nt<|rt<|tr<|rr (.tuple #[.slice none 0 0,.int .i64 1])<|?_
 refine fl (iK f b) ?_
 exact⟨rfl,t⟩
 have T:=ai b
 refine L1<|ci (hz:=(by rw[a.size];exact aS)) R<|?_
 refine L1<|ci (ub i p)<|?_
 refine L1<|Oc<|m1 (fY (A:=e) (B:=M) (aL.upd a r aG) (aL.old l s)) fun a4 u=>Pl 2<|nt<|?_
 have v:=aF t u
 refine cb ((!(decide (e=M)))) (fun j=>?_) (fun j=>?_)
 have d:(decide (e=M))=false:=by simpa using j
 have U:=of_decide_eq_false d
 refine sg<|Pl 2<|nt<|rt<|tr<|rr (.tuple #[.slice none 0 0,.int .i64 1])<|?_
 refine fl (iE f d) ?_
 exact⟨rfl,v⟩
 have d:(decide (e=M))=true:=by simpa using j
 have U:=of_decide_eq_true d
 refine bi<|sg<|Pl 3<|nt<|rt<|rr (.tuple #[.slice H ((bL dir M).length) I,.int .i64 0])<|?_
 refine fl (nu f b d) ?_
 exact⟨_,rfl,(be.weaken (ax n (aF i u) (fun x hx=>ay) (fun _ _ h=>h)) g.size),v⟩
theorem kB{m:Md}{cs:Array Value}{M:aQ}{w:World}{dir:Int}(h:aL m w cs.toList M)(hf:cO M)(hlen:(cc dir M).length≤1048576) : Calls Tryz.prog 143 #[.int .i64 dir,.agg cs] w (eZ (cY fU cc dir M) w):=by
 have hM:=h
 obtain⟨vw,vb,vd,vr,vo,h0,hw,hbt,hd,hr,ho,hR⟩:=h
 obtain rfl:cs=(bM M vw vb vd vr vo).toArray:=by apply Array.toList_inj.1;simpa using h0
 clear h0
 obtain⟨Aw,kw,rfl,_,_⟩:=hw.shape
 obtain⟨Ab,kb,rfl,_,_⟩:=hbt.shape
 obtain⟨Ad,kd,rfl,_,_⟩:=hd.shape
 obtain⟨Ar,kr,rfl,_,_⟩:=hr.shape
 obtain⟨Ao,ko,rfl,_,_⟩:=ho.shape
 obtain⟨q0,q1,q2,q3,q4,q5,q6,q7,q8,q9,y,z,C,D,E,F,G⟩:=hR
 simp only[B8,dx] at q0 q1 q2 q3 q4 q5 q6 q7 q8 q9 y z C D E F G
 refine en 29 Tryz.func143 rfl<|sg<|L0<|dq (mG M.code M.fail M.addr M.count M.value M.and_ M.or_ M.addr2 M.sub M.status M.events M.messages (.slice Aw M.words.length kw) (.slice Ab M.bits.length kb) (.slice Ad M.data.length kd) (.slice Ar M.recs.length kr) M.mei M.kind M.level M.more M.next (.slice Ao M.objects.length ko)) fun V W X k g=>Pl 2<|ng<|Pl 1<|L0<|ci k<|?_
 have l:=aL.old hM g
 refine L0<|Oc<|ej (to (dir:=dir) l hf) fun H I J n Y Z o=>Pl 1<|ng<|Pl 2<|?_
 have p:=ub o k
 refine L0<|aU p 0<|Pl 1<|?_
 refine pr (fU dir M.code (cc dir M)) fun e K f=>?_
 have q:Calls _ _ _ _ (dP (fU dir M.code (cc dir M)) J):=jQ (dir:=dir) (c:=M.code) q0 (n).rd hlen
 rw[f] at q
 refine L0<|Oc<|e2 (q) fun L a0 a N=>Pl 3<|L0<|bE mZ fun a1 a2 O P Q=>L0<|aW (hz:=(by rw[a.size];exact aS)) (hv:=a.size) (h1:=a.one) P (L) fun a3 R S=>Pl 1<|nt<|sq<|sg<|Pl 3<|?_
 have r:=ud Q S O
 have i:=aF N r
 have s:=aF o i
 have t:=aF g s
 refine bl 22 ((K != 0)) (fun b=>?_) (fun b=>?_)
 have T:=aq b
 refine Pl 5<|nt<|c1<|sg<|Pl 2<|nt<|rt<|tr<|rr (.tuple #[.slice none 0 0,.int .i64 1])<|?_
 refine fl (iK f b) ?_
 exact⟨rfl,t⟩
 have T:=ai b
 refine L1<|ci (hz:=(by rw[a.size];exact aS)) R<|?_
 refine L1<|ci (ub i p)<|?_
 refine L1<|Oc<|m1 (fY (A:=e) (B:=M) (aL.upd a r aG) (aL.old l s)) fun a4 u=>Pl 2<|nt<|?_
 have v:=aF t u
 refine cb ((!(decide (e=M)))) (fun j=>?_) (fun j=>?_)
 have d:(decide (e=M))=false:=by simpa using j
 have U:=of_decide_eq_false d
 refine sg<|Pl 2<|nt<|rt<|tr<|rr (.tuple #[.slice none 0 0,.int .i64 1])<|?_
 refine fl (iE f d) ?_
 exact⟨rfl,v⟩
 have d:(decide (e=M))=true:=by simpa using j
 have U:=of_decide_eq_true d
 refine bi<|sg<|Pl 3<|nt<|rt<|rr (.tuple #[.slice H ((cc dir M).length) I,.int .i64 0])<|?_
 refine fl (nu f b d) ?_
 exact⟨_,rfl,(be.weaken (ax n (aF i u) (fun x hx=>ay) (fun _ _ h=>h)) g.size),v⟩
theorem m7{m:Md}{cs:Array Value}{M:aQ}{w:World}{dir:Int}(h:aL m w cs.toList M)(hf:cO M)(hlen:(dy dir M).length≤1048576) : Calls Tryz.prog 147 #[.int .i64 dir,.agg cs] w (eZ (cY gL dy dir M) w):=by
 have hM:=h
 obtain⟨vw,vb,vd,vr,vo,h0,hw,hbt,hd,hr,ho,hR⟩:=h
 obtain rfl:cs=(bM M vw vb vd vr vo).toArray:=by apply Array.toList_inj.1;simpa using h0
 clear h0
 obtain⟨Aw,kw,rfl,_,_⟩:=hw.shape
 obtain⟨Ab,kb,rfl,_,_⟩:=hbt.shape
 obtain⟨Ad,kd,rfl,_,_⟩:=hd.shape
 obtain⟨Ar,kr,rfl,_,_⟩:=hr.shape
 obtain⟨Ao,ko,rfl,_,_⟩:=ho.shape
 obtain⟨q0,q1,q2,q3,q4,q5,q6,q7,q8,q9,y,z,C,D,E,F,G⟩:=hR
 simp only[B8,dx] at q0 q1 q2 q3 q4 q5 q6 q7 q8 q9 y z C D E F G
 refine en 29 Tryz.func147 rfl<|sg<|L0<|dq (mG M.code M.fail M.addr M.count M.value M.and_ M.or_ M.addr2 M.sub M.status M.events M.messages (.slice Aw M.words.length kw) (.slice Ab M.bits.length kb) (.slice Ad M.data.length kd) (.slice Ar M.recs.length kr) M.mei M.kind M.level M.more M.next (.slice Ao M.objects.length ko)) fun V W X k g=>Pl 2<|ng<|Pl 1<|L0<|ci k<|?_
 have l:=aL.old hM g
 refine L0<|Oc<|ej (vF (dir:=dir) l hf) fun H I J n Y Z o=>Pl 1<|ng<|Pl 2<|?_
 have p:=ub o k
 refine L0<|aU p 0<|Pl 1<|?_
 refine pr (gL dir M.code (dy dir M)) fun e K f=>?_
 have q:Calls _ _ _ _ (dP (gL dir M.code (dy dir M)) J):=lT (dir:=dir) (c:=M.code) q0 (n).rd hlen
 rw[f] at q
 refine L0<|Oc<|e2 (q) fun L a0 a N=>Pl 3<|L0<|bE mZ fun a1 a2 O P Q=>L0<|aW (hz:=(by rw[a.size];exact aS)) (hv:=a.size) (h1:=a.one) P (L) fun a3 R S=>Pl 1<|nt<|sq<|sg<|Pl 3<|?_
 have r:=ud Q S O
 have i:=aF N r
 have s:=aF o i
 have t:=aF g s
 refine bl 22 ((K != 0)) (fun b=>?_) (fun b=>?_)
 have T:=aq b
 refine Pl 5<|nt<|c1<|sg<|Pl 2<|nt<|rt<|tr<|rr (.tuple #[.slice none 0 0,.int .i64 1])<|?_
 refine fl (iK f b) ?_
 exact⟨rfl,t⟩
 have T:=ai b
 refine L1<|ci (hz:=(by rw[a.size];exact aS)) R<|?_
 refine L1<|ci (ub i p)<|?_
 refine L1<|Oc<|m1 (fY (A:=e) (B:=M) (aL.upd a r aG) (aL.old l s)) fun a4 u=>Pl 2<|nt<|?_
 have v:=aF t u
 refine cb ((!(decide (e=M)))) (fun j=>?_) (fun j=>?_)
 have d:(decide (e=M))=false:=by simpa using j
 have U:=of_decide_eq_false d
 refine sg<|Pl 2<|nt<|rt<|tr<|rr (.tuple #[.slice none 0 0,.int .i64 1])<|?_
 refine fl (iE f d) ?_
 exact⟨rfl,v⟩
 have d:(decide (e=M))=true:=by simpa using j
 have U:=of_decide_eq_true d
 refine bi<|sg<|Pl 3<|nt<|rt<|rr (.tuple #[.slice H ((dy dir M).length) I,.int .i64 0])<|?_
 refine fl (nu f b d) ?_
 exact⟨_,rfl,(be.weaken (ax n (aF i u) (fun x hx=>ay) (fun _ _ h=>h)) g.size),v⟩
theorem jn{m:Md}{cs:Array Value}{M:aQ}{w:World}{dir:Int}(h:aL m w cs.toList M)(hf:cO M)(hlen:(da dir M).length≤1048576) : Calls Tryz.prog 145 #[.int .i64 dir,.agg cs] w (eZ (cY fp da dir M) w):=by
 have hM:=h
 obtain⟨vw,vb,vd,vr,vo,h0,hw,hbt,hd,hr,ho,hR⟩:=h
 obtain rfl:cs=(bM M vw vb vd vr vo).toArray:=by apply Array.toList_inj.1;simpa using h0
 clear h0
 obtain⟨Aw,kw,rfl,_,_⟩:=hw.shape
 obtain⟨Ab,kb,rfl,_,_⟩:=hbt.shape
 obtain⟨Ad,kd,rfl,_,_⟩:=hd.shape
 obtain⟨Ar,kr,rfl,_,_⟩:=hr.shape
 obtain⟨Ao,ko,rfl,_,_⟩:=ho.shape
 obtain⟨q0,q1,q2,q3,q4,q5,q6,q7,q8,q9,y,z,C,D,E,F,G⟩:=hR
 simp only[B8,dx] at q0 q1 q2 q3 q4 q5 q6 q7 q8 q9 y z C D E F G
 refine en 29 Tryz.func145 rfl<|sg<|L0<|dq (mG M.code M.fail M.addr M.count M.value M.and_ M.or_ M.addr2 M.sub M.status M.events M.messages (.slice Aw M.words.length kw) (.slice Ab M.bits.length kb) (.slice Ad M.data.length kd) (.slice Ar M.recs.length kr) M.mei M.kind M.level M.more M.next (.slice Ao M.objects.length ko)) fun V W X k g=>Pl 2<|ng<|Pl 1<|L0<|ci k<|?_
 have l:=aL.old hM g
 refine L0<|Oc<|ej (si (dir:=dir) l hf) fun H I J n Y Z o=>Pl 1<|ng<|Pl 2<|?_
 have p:=ub o k
 refine L0<|aU p 0<|Pl 1<|?_
 refine pr (fp dir M.code (da dir M)) fun e K f=>?_
 have q:Calls _ _ _ _ (dP (fp dir M.code (da dir M)) J):=jm (dir:=dir) (c:=M.code) q0 (n).rd hlen
 rw[f] at q
 refine L0<|Oc<|e2 (q) fun L a0 a N=>Pl 3<|L0<|bE mZ fun a1 a2 O P Q=>L0<|aW (hz:=(by rw[a.size];exact aS)) (hv:=a.size) (h1:=a.one) P (L) fun a3 R S=>Pl 1<|nt<|sq<|sg<|Pl 3<|?_
 have r:=ud Q S O
 have i:=aF N r
 have s:=aF o i
 have t:=aF g s
 refine bl 22 ((K != 0)) (fun b=>?_) (fun b=>?_)
 have T:=aq b
 refine Pl 5<|nt<|c1<|sg<|Pl 2<|nt<|rt<|tr<|rr (.tuple #[.slice none 0 0,.int .i64 1])<|?_
 refine fl (iK f b) ?_
 exact⟨rfl,t⟩
 have T:=ai b
 refine L1<|ci (hz:=(by rw[a.size];exact aS)) R<|?_
 refine L1<|ci (ub i p)<|?_
 refine L1<|Oc<|m1 (fY (A:=e) (B:=M) (aL.upd a r aG) (aL.old l s)) fun a4 u=>Pl 2<|nt<|?_
 have v:=aF t u
 refine cb ((!(decide (e=M)))) (fun j=>?_) (fun j=>?_)
 have d:(decide (e=M))=false:=by simpa using j
 have U:=of_decide_eq_false d
 refine sg<|Pl 2<|nt<|rt<|tr<|rr (.tuple #[.slice none 0 0,.int .i64 1])<|?_
 refine fl (iE f d) ?_
 exact⟨rfl,v⟩
 have d:(decide (e=M))=true:=by simpa using j
 have U:=of_decide_eq_true d
 refine bi<|sg<|Pl 3<|nt<|rt<|rr (.tuple #[.slice H ((da dir M).length) I,.int .i64 0])<|?_
 refine fl (nu f b d) ?_
 exact⟨_,rfl,(be.weaken (ax n (aF i u) (fun x hx=>ay) (fun _ _ h=>h)) g.size),v⟩
open Go.RowKit
def gJ:Nat→Int→aQ→Option (List Int)
  | 1,dir,M=>cY fv bT dir M
  | 2,dir,M=>cY g8 bL dir M
  | 3,dir,M=>cY fU cc dir M
  | 4,dir,M=>cY fp da dir M
  | 5,dir,M=>cY gL dy dir M
  | _,_,_=>none
def dr (dir:Int)(M:aQ) : Option (List Int) :=
  if M.fail != 0 then (if dir != 1 then none else l7 M)
  else match gJ (kP M.code) dir M with
    | none=>none
    | some l=>if decide (253≤(l.length:Int)) then none else some ([M.code]++l)
theorem nL:∀ (L:List Obj),(∀ r,r∈L→r.value.length≤1024)→(hZ L).length≤1026*L.length
  | [],_=>by simp[hZ]
  | r :: L,h=>by
    have h1:=h r (by simp)
    have h2:=nL L fun x hx=>h x (by simp[hx])
    simp only[hZ,List.length_append,List.length_cons,List.length_nil]
    omega
theorem ky(dir c:Int) : ∀ (L:List dt),(∀ r,r∈L→r.words.length≤1024)→(d8 dir c L).length≤2064*L.length
  | [],_=>by simp[d8]
  | r :: L,h=>by
    have h1:=h r (by simp)
    have h2:=ky dir c L fun x hx=>h x (by simp[hx])
    simp only[d8,ka]
    repeat' split
    all_goals simp only[List.length_append,List.length_cons,List.length_nil,aC]
    all_goals omega
theorem eO{M:aQ}(hf:cO M)(dir:Int) : (bT dir M).length≤1048576∧(bL dir M).length≤1048576∧(cc dir M).length≤1048576∧(dy dir M).length≤1048576∧(da dir M).length≤1048576:=by
  have hp:(cM M.bits).length≤1024:=by
    have:=hf.bits
    simp only[cM,List.length_map,List.length_range,dC]
    omega
  have h1:=hf.words
  have h2:=hf.data
  have h3:=hf.objects
  have h4:=nL M.objects hf.objv
  have h5:=ky dir M.code M.recs hf.recw
  have h6:=hf.recs
  refine⟨?_,?_,?_,?_,?_⟩
  · unfold bT
    repeat' split
    all_goals simp only[List.length_append,List.length_cons,List.length_nil,aC]
    all_goals omega
  · unfold bL
    repeat' split
    all_goals simp only[List.length_append,List.length_cons,List.length_nil,aC]
    all_goals omega
  · unfold cc
    repeat' split
    all_goals simp only[List.length_append,List.length_cons,List.length_nil,aC]
    all_goals omega
  · unfold dy
    repeat' split
    all_goals simp only[List.length_append,List.length_cons,List.length_nil]
    all_goals omega
  · unfold da
    simp only[List.length_set,List.length_append,List.length_cons,List.length_nil]
    omega
theorem lV{m:Md}{cs:Array Value}{M:aQ}{w:World}{dir:Int}(h:aL m w cs.toList M)(hf:cO M) : Calls Tryz.prog 28 #[.int .i64 dir,.agg cs] w (eZ (dr dir M) w):=by
 have hM:=h
 obtain⟨vw,vb,vd,vr,vo,h0,hw,hbt,hd,hr,ho,hR⟩:=h
 obtain rfl:cs=(bM M vw vb vd vr vo).toArray:=by apply Array.toList_inj.1;simpa using h0
 clear h0
 obtain⟨Aw,kw,rfl,_,_⟩:=hw.shape
 obtain⟨Ab,kb,rfl,_,_⟩:=hbt.shape
 obtain⟨Ad,kd,rfl,_,_⟩:=hd.shape
 obtain⟨Ar,kr,rfl,_,_⟩:=hr.shape
 obtain⟨Ao,ko,rfl,_,_⟩:=ho.shape
 obtain⟨q0,q1,q2,q3,q4,q5,q6,q7,q8,q9,ah,aj,c,ak,al,am,an⟩:=hR
 simp only[B8,dx] at q0 q1 q2 q3 q4 q5 q6 q7 q8 q9 ah aj c ak al am an
 refine en 47 Tryz.func28 rfl<|sg<|L0<|dq (mG M.code M.fail M.addr M.count M.value M.and_ M.or_ M.addr2 M.sub M.status M.events M.messages (.slice Aw M.words.length kw) (.slice Ab M.bits.length kb) (.slice Ad M.data.length kd) (.slice Ar M.recs.length kr) M.mei M.kind M.level M.more M.next (.slice Ao M.objects.length ko)) fun cg f ch d b=>Pl 2<|nt<|sq<|sg<|Pl 1<|L0<|aU d 1<|Pl 1<|nl<|?_
 refine tn<|cb ((M.fail != 0)) (fun a=>?_) (fun a=>?_)
 have ao:=aq a
 refine sq<|sg<|Pl 2<|nt<|cb ((dir != 1)) (fun c=>?_) (fun c=>?_)
 have ap:=aq c
 refine sg<|Pl 2<|nt<|rt<|tr<|tr<|rr (.tuple #[.slice none 0 0,.int .i64 1])<|?_
 have hs:dr dir M=none:=by
   unfold dr
   (try simp only[a,c,bs,if_true,if_false,decide_true,decide_false,reduceIte])
   all_goals rfl
 refine dT hs ?_
 exact⟨rfl,b⟩
 have ap:=ai c
 refine bi<|sg<|L0<|ci d<|?_
 rcases hwr:l7 M with _|lw
 have E:=lG (aL.old hM b)
 rw[hwr] at E
 refine L0<|Oc<|m1 E fun cj ar=>Pl 4<|nt<|rt<|tr<|rr (.tuple #[.slice none 0 0,.int .i64 1])<|?_
 have hs:dr dir M=none:=by
   unfold dr
   (try simp only[a,c,bs,if_true,if_false,decide_true,decide_false,hwr,reduceIte])
   all_goals rfl
 refine dT hs ?_
 exact⟨rfl,(aF b ar)⟩
 have F:=lG (aL.old hM b)
 rw[hwr] at F
 refine L0<|Oc<|ej F fun aw aA ck aB cl cm aD=>Pl 4<|nt<|rt<|tr<|rr (.tuple #[.slice aw lw.length aA,.int .i64 0])<|?_
 have hs:dr dir M=(some lw):=by
   unfold dr
   (try simp only[a,c,bs,if_true,if_false,decide_true,decide_false,hwr,reduceIte])
   all_goals rfl
 refine dT hs ?_
 exact⟨_,rfl,(be.weaken aB b.size),(aF b aD)⟩
 have ao:=ai a
 refine bi<|sg<|Pl 1<|L0<|aU d 0<|?_
 rcases gZ M.code with⟨hk,hkf⟩|⟨hk,hkf⟩|⟨hk,hkf⟩|⟨hk,hkf⟩|⟨hk,hkf⟩|⟨hk,hkf⟩
 have G:=f9 (x:=M.code) (w:=f)
 rw[hkf] at G
 refine L0<|Oc<|m1 G fun cn aE=>Pl 3<|L0<|bE #[.nilFunc,.nilFunc] fun co cp aG aH aI=>L0<|aW aH #[.func (.func 138) #[] #[],.func (.func 139) #[] #[]] fun cq aJ aK=>Pl 1<|nt<|sq<|sg<|Pl 2<|nt<|c0<|?_
 refine bi<|sg<|Pl 1<|L0<|aU aJ 1<|Pl 1<|?_
 have H:=aF aE (ud aI aK aG)
 have I:=ub H d
 refine L0<|ci I<|?_
 have n:=aF b H
 rcases hwr:cY fv bT dir M with _|lw
 have J:=jp (dir:=dir) (aL.old hM n) hf (eO hf dir).1
 rw[hwr] at J
 refine L0<|fN #[] #[] (args:=#[.int .i64 dir,.agg (mG M.code M.fail M.addr M.count M.value M.and_ M.or_ M.addr2 M.sub M.status M.events M.messages (.slice Aw M.words.length kw) (.slice Ab M.bits.length kb) (.slice Ad M.data.length kd) (.slice Ar M.recs.length kr) M.mei M.kind M.level M.more M.next (.slice Ao M.objects.length ko))])<|m1 J fun cr aM=>Pl 5<|nt<|sq<|sg<|Pl 7<|nt<|c1<|sg<|Pl 2<|nl<|?_
 refine tn<|rt<|tr<|rr (.tuple #[.slice none 0 0,.int .i64 1])<|?_
 have hs:dr dir M=none:=by
   unfold dr
   (try simp only[a,bs,if_true,if_false,decide_true,decide_false,hkf,gJ,hwr,reduceIte])
   all_goals rfl
 refine dT hs ?_
 exact⟨rfl,(aF n aM)⟩
 have K:=jp (dir:=dir) (aL.old hM n) hf (eO hf dir).1
 rw[hwr] at K
 refine L0<|fN #[] #[] (args:=#[.int .i64 dir,.agg (mG M.code M.fail M.addr M.count M.value M.and_ M.or_ M.addr2 M.sub M.status M.events M.messages (.slice Aw M.words.length kw) (.slice Ab M.bits.length kb) (.slice Ad M.data.length kd) (.slice Ar M.recs.length kr) M.mei M.kind M.level M.more M.next (.slice Ao M.objects.length ko))])<|ej K fun ct cu cv aN cw cx L=>Pl 5<|nt<|sq<|sg<|Pl 7<|nt<|?_
 have s:=aF n L
 refine cb ((decide (253≤((lw.length:Nat) : Int)))) (fun g=>?_) (fun g=>?_)
 have aO:=of_decide_eq_true g
 refine sg<|Pl 2<|nt<|rt<|tr<|rr (.tuple #[.slice none 0 0,.int .i64 1])<|?_
 have hs:dr dir M=none:=by
   unfold dr
   (try simp only[a,g,bs,if_true,if_false,decide_true,decide_false,hkf,gJ,hwr,reduceIte])
   all_goals rfl
 refine dT hs ?_
 exact⟨rfl,s⟩
 have aO:=of_decide_eq_false g
 refine bi<|sg<|Pl 1<|?_
 refine L0<|aU (ub L I) 0<|L0<|dD (m:=1) (e:=5) #[.int .u8 M.code] fun cy cz aP aR t=>?_
 have N:=dR aP (xs:=[M.code]) (by as_aux_lemma=>kernel_rfl) (az (by omega) aZ) (by(try simp only[List.length_cons,List.length_nil]);omega) aR
 refine Pl 1<|?_
 refine L0<|cR bt (xs:=([M.code])) (ys:=lw) (.int .u8 0) 1 N ((ax aN t (fun x hx=>ay) (fun _ _ h=>h))).rd (by(try simp only[List.length_append,List.length_cons,List.length_nil,aC]);omega) t.size fun aS aT cA aX aY=>Pl 2<|nt<|rt<|rr (.tuple #[.slice aS (([M.code]++lw).length) aT,.int .i64 0])<|?_
 have hs:dr dir M=(some ([M.code]++lw)):=by
   unfold dr
   (try simp only[a,g,bs,if_true,if_false,decide_true,decide_false,hkf,gJ,hwr,reduceIte])
   all_goals rfl
 refine dT hs ?_
 exact⟨_,rfl,(be.weaken aX s.size),(aF s (ut t aY (av (aV N lr) au)))⟩
 have O:=f9 (x:=M.code) (w:=f)
 rw[hkf] at O
 refine L0<|Oc<|m1 O fun cB b0=>Pl 3<|L0<|bE #[.nilFunc,.nilFunc] fun cC cD b1 b2 b3=>L0<|aW b2 #[.func (.func 140) #[] #[],.func (.func 141) #[] #[]] fun cE b4 b5=>Pl 1<|nt<|sq<|sg<|Pl 2<|nt<|c0<|?_
 refine bi<|sg<|Pl 1<|L0<|aU b4 1<|Pl 1<|?_
 have P:=aF b0 (ud b3 b5 b1)
 have Q:=ub P d
 refine L0<|ci Q<|?_
 have o:=aF b P
 rcases hwr:cY g8 bL dir M with _|lw
 have R:=jX (dir:=dir) (aL.old hM o) hf (eO hf dir).2.1
 rw[hwr] at R
 refine L0<|fN #[] #[] (args:=#[.int .i64 dir,.agg (mG M.code M.fail M.addr M.count M.value M.and_ M.or_ M.addr2 M.sub M.status M.events M.messages (.slice Aw M.words.length kw) (.slice Ab M.bits.length kb) (.slice Ad M.data.length kd) (.slice Ar M.recs.length kr) M.mei M.kind M.level M.more M.next (.slice Ao M.objects.length ko))])<|m1 R fun cF b6=>Pl 5<|nt<|sq<|sg<|Pl 7<|nt<|c1<|sg<|Pl 2<|nl<|?_
 refine tn<|rt<|tr<|rr (.tuple #[.slice none 0 0,.int .i64 1])<|?_
 have hs:dr dir M=none:=by
   unfold dr
   (try simp only[a,bs,if_true,if_false,decide_true,decide_false,hkf,gJ,hwr,reduceIte])
   all_goals rfl
 refine dT hs ?_
 exact⟨rfl,(aF o b6)⟩
 have S:=jX (dir:=dir) (aL.old hM o) hf (eO hf dir).2.1
 rw[hwr] at S
 refine L0<|fN #[] #[] (args:=#[.int .i64 dir,.agg (mG M.code M.fail M.addr M.count M.value M.and_ M.or_ M.addr2 M.sub M.status M.events M.messages (.slice Aw M.words.length kw) (.slice Ab M.bits.length kb) (.slice Ad M.data.length kd) (.slice Ar M.recs.length kr) M.mei M.kind M.level M.more M.next (.slice Ao M.objects.length ko))])<|ej S fun cG cH cI b7 cJ cK T=>Pl 5<|nt<|sq<|sg<|Pl 7<|nt<|?_
 have u:=aF o T
 refine cb ((decide (253≤((lw.length:Nat) : Int)))) (fun i=>?_) (fun i=>?_)
 have b8:=of_decide_eq_true i
 refine sg<|Pl 2<|nt<|rt<|tr<|rr (.tuple #[.slice none 0 0,.int .i64 1])<|?_
 have hs:dr dir M=none:=by
   unfold dr
   (try simp only[a,i,bs,if_true,if_false,decide_true,decide_false,hkf,gJ,hwr,reduceIte])
   all_goals rfl
 refine dT hs ?_
 exact⟨rfl,u⟩
 have b8:=of_decide_eq_false i
 refine bi<|sg<|Pl 1<|?_
 refine L0<|aU (ub T Q) 0<|L0<|dD (m:=1) (e:=5) #[.int .u8 M.code] fun cL cM b9 ba v=>?_
 have U:=dR b9 (xs:=[M.code]) (by as_aux_lemma=>kernel_rfl) (az (by omega) aZ) (by(try simp only[List.length_cons,List.length_nil]);omega) ba
 refine Pl 1<|?_
 refine L0<|cR bt (xs:=([M.code])) (ys:=lw) (.int .u8 0) 1 U ((ax b7 v (fun x hx=>ay) (fun _ _ h=>h))).rd (by(try simp only[List.length_append,List.length_cons,List.length_nil,aC]);omega) v.size fun bb bc cN bd bf=>Pl 2<|nt<|rt<|rr (.tuple #[.slice bb (([M.code]++lw).length) bc,.int .i64 0])<|?_
 have hs:dr dir M=(some ([M.code]++lw)):=by
   unfold dr
   (try simp only[a,i,bs,if_true,if_false,decide_true,decide_false,hkf,gJ,hwr,reduceIte])
   all_goals rfl
 refine dT hs ?_
 exact⟨_,rfl,(be.weaken bd u.size),(aF u (ut v bf (av (aV U lr) au)))⟩
 have V:=f9 (x:=M.code) (w:=f)
 rw[hkf] at V
 refine L0<|Oc<|m1 V fun cP bg=>Pl 3<|L0<|bE #[.nilFunc,.nilFunc] fun cQ cS bh bj bk=>L0<|aW bj #[.func (.func 142) #[] #[],.func (.func 143) #[] #[]] fun cT bl bm=>Pl 1<|nt<|sq<|sg<|Pl 2<|nt<|c0<|?_
 refine bi<|sg<|Pl 1<|L0<|aU bl 1<|Pl 1<|?_
 have W:=aF bg (ud bk bm bh)
 have X:=ub W d
 refine L0<|ci X<|?_
 have p:=aF b W
 rcases hwr:cY fU cc dir M with _|lw
 have Y:=kB (dir:=dir) (aL.old hM p) hf (eO hf dir).2.2.1
 rw[hwr] at Y
 refine L0<|fN #[] #[] (args:=#[.int .i64 dir,.agg (mG M.code M.fail M.addr M.count M.value M.and_ M.or_ M.addr2 M.sub M.status M.events M.messages (.slice Aw M.words.length kw) (.slice Ab M.bits.length kb) (.slice Ad M.data.length kd) (.slice Ar M.recs.length kr) M.mei M.kind M.level M.more M.next (.slice Ao M.objects.length ko))])<|m1 Y fun cU bn=>Pl 5<|nt<|sq<|sg<|Pl 7<|nt<|c1<|sg<|Pl 2<|nl<|?_
 refine tn<|rt<|tr<|rr (.tuple #[.slice none 0 0,.int .i64 1])<|?_
 have hs:dr dir M=none:=by
   unfold dr
   (try simp only[a,bs,if_true,if_false,decide_true,decide_false,hkf,gJ,hwr,reduceIte])
   all_goals rfl
 refine dT hs ?_
 exact⟨rfl,(aF p bn)⟩
 have Z:=kB (dir:=dir) (aL.old hM p) hf (eO hf dir).2.2.1
 rw[hwr] at Z
 refine L0<|fN #[] #[] (args:=#[.int .i64 dir,.agg (mG M.code M.fail M.addr M.count M.value M.and_ M.or_ M.addr2 M.sub M.status M.events M.messages (.slice Aw M.words.length kw) (.slice Ab M.bits.length kb) (.slice Ad M.data.length kd) (.slice Ar M.recs.length kr) M.mei M.kind M.level M.more M.next (.slice Ao M.objects.length ko))])<|ej Z fun cV cW cX bo cZ d0 a0=>Pl 5<|nt<|sq<|sg<|Pl 7<|nt<|?_
 have y:=aF p a0
 refine cb ((decide (253≤((lw.length:Nat) : Int)))) (fun j=>?_) (fun j=>?_)
 have bp:=of_decide_eq_true j
 refine sg<|Pl 2<|nt<|rt<|tr<|rr (.tuple #[.slice none 0 0,.int .i64 1])<|?_
 have hs:dr dir M=none:=by
   unfold dr
   (try simp only[a,j,bs,if_true,if_false,decide_true,decide_false,hkf,gJ,hwr,reduceIte])
   all_goals rfl
 refine dT hs ?_
 exact⟨rfl,y⟩
 have bp:=of_decide_eq_false j
 refine bi<|sg<|Pl 1<|?_
 refine L0<|aU (ub a0 X) 0<|L0<|dD (m:=1) (e:=5) #[.int .u8 M.code] fun d1 d2 bq br z=>?_
 have a1:=dR bq (xs:=[M.code]) (by as_aux_lemma=>kernel_rfl) (az (by omega) aZ) (by(try simp only[List.length_cons,List.length_nil]);omega) br
 refine Pl 1<|?_
 refine L0<|cR bt (xs:=([M.code])) (ys:=lw) (.int .u8 0) 1 a1 ((ax bo z (fun x hx=>ay) (fun _ _ h=>h))).rd (by(try simp only[List.length_append,List.length_cons,List.length_nil,aC]);omega) z.size fun bu bv d3 bw bx=>Pl 2<|nt<|rt<|rr (.tuple #[.slice bu (([M.code]++lw).length) bv,.int .i64 0])<|?_
 have hs:dr dir M=(some ([M.code]++lw)):=by
   unfold dr
   (try simp only[a,j,bs,if_true,if_false,decide_true,decide_false,hkf,gJ,hwr,reduceIte])
   all_goals rfl
 refine dT hs ?_
 exact⟨_,rfl,(be.weaken bw y.size),(aF y (ut z bx (av (aV a1 lr) au)))⟩
 have a2:=f9 (x:=M.code) (w:=f)
 rw[hkf] at a2
 refine L0<|Oc<|m1 a2 fun d4 bz=>Pl 3<|L0<|bE #[.nilFunc,.nilFunc] fun d5 d6 bA bB bC=>L0<|aW bB #[.func (.func 144) #[] #[],.func (.func 145) #[] #[]] fun d7 bD bF=>Pl 1<|nt<|sq<|sg<|Pl 2<|nt<|c0<|?_
 refine bi<|sg<|Pl 1<|L0<|aU bD 1<|Pl 1<|?_
 have a3:=aF bz (ud bC bF bA)
 have a4:=ub a3 d
 refine L0<|ci a4<|?_
 have q:=aF b a3
 rcases hwr:cY fp da dir M with _|lw
 have a5:=jn (dir:=dir) (aL.old hM q) hf (eO hf dir).2.2.2.2
 rw[hwr] at a5
 refine L0<|fN #[] #[] (args:=#[.int .i64 dir,.agg (mG M.code M.fail M.addr M.count M.value M.and_ M.or_ M.addr2 M.sub M.status M.events M.messages (.slice Aw M.words.length kw) (.slice Ab M.bits.length kb) (.slice Ad M.data.length kd) (.slice Ar M.recs.length kr) M.mei M.kind M.level M.more M.next (.slice Ao M.objects.length ko))])<|m1 a5 fun d8 bG=>Pl 5<|nt<|sq<|sg<|Pl 7<|nt<|c1<|sg<|Pl 2<|nl<|?_
 refine tn<|rt<|tr<|rr (.tuple #[.slice none 0 0,.int .i64 1])<|?_
 have hs:dr dir M=none:=by
   unfold dr
   (try simp only[a,bs,if_true,if_false,decide_true,decide_false,hkf,gJ,hwr,reduceIte])
   all_goals rfl
 refine dT hs ?_
 exact⟨rfl,(aF q bG)⟩
 have a6:=jn (dir:=dir) (aL.old hM q) hf (eO hf dir).2.2.2.2
 rw[hwr] at a6
 refine L0<|fN #[] #[] (args:=#[.int .i64 dir,.agg (mG M.code M.fail M.addr M.count M.value M.and_ M.or_ M.addr2 M.sub M.status M.events M.messages (.slice Aw M.words.length kw) (.slice Ab M.bits.length kb) (.slice Ad M.data.length kd) (.slice Ar M.recs.length kr) M.mei M.kind M.level M.more M.next (.slice Ao M.objects.length ko))])<|ej a6 fun d9 db dc bH dd de a7=>Pl 5<|nt<|sq<|sg<|Pl 7<|nt<|?_
 have A:=aF q a7
 refine cb ((decide (253≤((lw.length:Nat) : Int)))) (fun k=>?_) (fun k=>?_)
 have bI:=of_decide_eq_true k
 refine sg<|Pl 2<|nt<|rt<|tr<|rr (.tuple #[.slice none 0 0,.int .i64 1])<|?_
 have hs:dr dir M=none:=by
   unfold dr
   (try simp only[a,k,bs,if_true,if_false,decide_true,decide_false,hkf,gJ,hwr,reduceIte])
   all_goals rfl
 refine dT hs ?_
 exact⟨rfl,A⟩
 have bI:=of_decide_eq_false k
 refine bi<|sg<|Pl 1<|?_
 refine L0<|aU (ub a7 a4) 0<|L0<|dD (m:=1) (e:=5) #[.int .u8 M.code] fun df dg bJ bK B=>?_
 have a8:=dR bJ (xs:=[M.code]) (by as_aux_lemma=>kernel_rfl) (az (by omega) aZ) (by(try simp only[List.length_cons,List.length_nil]);omega) bK
 refine Pl 1<|?_
 refine L0<|cR bt (xs:=([M.code])) (ys:=lw) (.int .u8 0) 1 a8 ((ax bH B (fun x hx=>ay) (fun _ _ h=>h))).rd (by(try simp only[List.length_append,List.length_cons,List.length_nil,aC]);omega) B.size fun bN bO dh bP bQ=>Pl 2<|nt<|rt<|rr (.tuple #[.slice bN (([M.code]++lw).length) bO,.int .i64 0])<|?_
 have hs:dr dir M=(some ([M.code]++lw)):=by
   unfold dr
   (try simp only[a,k,bs,if_true,if_false,decide_true,decide_false,hkf,gJ,hwr,reduceIte])
   all_goals rfl
 refine dT hs ?_
 exact⟨_,rfl,(be.weaken bP A.size),(aF A (ut B bQ (av (aV a8 lr) au)))⟩
 have a9:=f9 (x:=M.code) (w:=f)
 rw[hkf] at a9
 refine L0<|Oc<|m1 a9 fun di bR=>Pl 3<|L0<|bE #[.nilFunc,.nilFunc] fun dj dk bS bU bV=>L0<|aW bU #[.func (.func 146) #[] #[],.func (.func 147) #[] #[]] fun dl bW bX=>Pl 1<|nt<|sq<|sg<|Pl 2<|nt<|c0<|?_
 refine bi<|sg<|Pl 1<|L0<|aU bW 1<|Pl 1<|?_
 have aa:=aF bR (ud bV bX bS)
 have ab:=ub aa d
 refine L0<|ci ab<|?_
 have r:=aF b aa
 rcases hwr:cY gL dy dir M with _|lw
 have ac:=m7 (dir:=dir) (aL.old hM r) hf (eO hf dir).2.2.2.1
 rw[hwr] at ac
 refine L0<|fN #[] #[] (args:=#[.int .i64 dir,.agg (mG M.code M.fail M.addr M.count M.value M.and_ M.or_ M.addr2 M.sub M.status M.events M.messages (.slice Aw M.words.length kw) (.slice Ab M.bits.length kb) (.slice Ad M.data.length kd) (.slice Ar M.recs.length kr) M.mei M.kind M.level M.more M.next (.slice Ao M.objects.length ko))])<|m1 ac fun dm bY=>Pl 5<|nt<|sq<|sg<|Pl 7<|nt<|c1<|sg<|Pl 2<|nl<|?_
 refine tn<|rt<|tr<|rr (.tuple #[.slice none 0 0,.int .i64 1])<|?_
 have hs:dr dir M=none:=by
   unfold dr
   (try simp only[a,bs,if_true,if_false,decide_true,decide_false,hkf,gJ,hwr,reduceIte])
   all_goals rfl
 refine dT hs ?_
 exact⟨rfl,(aF r bY)⟩
 have ad:=m7 (dir:=dir) (aL.old hM r) hf (eO hf dir).2.2.2.1
 rw[hwr] at ad
 refine L0<|fN #[] #[] (args:=#[.int .i64 dir,.agg (mG M.code M.fail M.addr M.count M.value M.and_ M.or_ M.addr2 M.sub M.status M.events M.messages (.slice Aw M.words.length kw) (.slice Ab M.bits.length kb) (.slice Ad M.data.length kd) (.slice Ar M.recs.length kr) M.mei M.kind M.level M.more M.next (.slice Ao M.objects.length ko))])<|ej ad fun dn dp ds bZ dt du ae=>Pl 5<|nt<|sq<|sg<|Pl 7<|nt<|?_
 have C:=aF r ae
 refine cb ((decide (253≤((lw.length:Nat) : Int)))) (fun l=>?_) (fun l=>?_)
 have c2:=of_decide_eq_true l
 refine sg<|Pl 2<|nt<|rt<|tr<|rr (.tuple #[.slice none 0 0,.int .i64 1])<|?_
 have hs:dr dir M=none:=by
   unfold dr
   (try simp only[a,l,bs,if_true,if_false,decide_true,decide_false,hkf,gJ,hwr,reduceIte])
   all_goals rfl
 refine dT hs ?_
 exact⟨rfl,C⟩
 have c2:=of_decide_eq_false l
 refine bi<|sg<|Pl 1<|?_
 refine L0<|aU (ub ae ab) 0<|L0<|dD (m:=1) (e:=5) #[.int .u8 M.code] fun dv dw c3 c4 D=>?_
 have af:=dR c3 (xs:=[M.code]) (by as_aux_lemma=>kernel_rfl) (az (by omega) aZ) (by(try simp only[List.length_cons,List.length_nil]);omega) c4
 refine Pl 1<|?_
 refine L0<|cR bt (xs:=([M.code])) (ys:=lw) (.int .u8 0) 1 af ((ax bZ D (fun x hx=>ay) (fun _ _ h=>h))).rd (by(try simp only[List.length_append,List.length_cons,List.length_nil,aC]);omega) D.size fun c5 c6 dz c7 c8=>Pl 2<|nt<|rt<|rr (.tuple #[.slice c5 (([M.code]++lw).length) c6,.int .i64 0])<|?_
 have hs:dr dir M=(some ([M.code]++lw)):=by
   unfold dr
   (try simp only[a,l,bs,if_true,if_false,decide_true,decide_false,hkf,gJ,hwr,reduceIte])
   all_goals rfl
 refine dT hs ?_
 exact⟨_,rfl,(be.weaken c7 C.size),(aF C (ut D c8 (av (aV af lr) au)))⟩
 have ag:=f9 (x:=M.code) (w:=f)
 rw[hkf] at ag
 refine L0<|Oc<|m1 ag fun dA c9=>Pl 3<|L0<|bE #[.nilFunc,.nilFunc] fun dB dC ca cd ce=>L0<|aW cd #[.nilFunc,.nilFunc] fun dE dF cf=>Pl 1<|nt<|sq<|sg<|Pl 2<|nt<|c1<|?_
 refine sg<|Pl 2<|nt<|rt<|tr<|rr (.tuple #[.slice none 0 0,.int .i64 1])<|?_
 have hs:dr dir M=none:=by
   unfold dr
   (try simp only[a,bs,if_true,if_false,decide_true,decide_false,hkf,gJ,reduceIte])
   all_goals rfl
 refine dT hs ?_
 exact⟨rfl,(aF b (aF c9 (ud ce cf ca)))⟩
open Go.RowKit
theorem i4{x y:aQ × Int}(h:x=y){w:World}{e:Ending}{w':World}(k:dP y w e w') : dP x w e w':=by rw[h];exact k
def jx:Nat→Int→List Int→aQ × Int
  | 1,dir,b=>ae aE dir (b.getD 0 0) (b.drop 1)
  | 2,dir,b=>ae aI dir (b.getD 0 0) (b.drop 1)
  | 3,dir,b=>ae aO dir (b.getD 0 0) (b.drop 1)
  | 4,dir,b=>ae b7 dir (b.getD 0 0) (b.drop 1)
  | 5,dir,b=>ae bG dir (b.getD 0 0) (b.drop 1)
  | _,_,_=>(aQ.zero,4)
def cZ (dir:Int)(b:List Int) : aQ × Int :=
  if dir != 0&&dir != 1 then (aQ.zero,1)
  else if (b.length:Int)==0 then (aQ.zero,2)
  else if decide (253<(b.length:Int)) then (aQ.zero,3)
  else if decide (128≤b.getD 0 0)&&dir==1 then f8 b
  else jx (kP (b.getD 0 0)) dir b
theorem p4{m:Md}{A:Option Addr}{cp:Nat}{b:List Int}{w:World}{dir:Int}(hsl:aT m w (.slice A b.length cp) b)(hb:b.length≤1048576) :
    Calls Tryz.prog 24 #[.int .i64 dir,.slice A b.length cp] w (dP (cZ dir b) w):=by
 have hln:(b.length:Int)≤1048576:=by omega
 refine en 60 Tryz.func24 rfl<|sg<|L0<|bE mZ fun dk t h a f=>Pl 1<|nt<|sq<|bk<|sg<|Pl 3<|cu 3 [11] 14 (((dir != 0)&&(dir != 1))) (fun K a2=>?_) ?_
 refine bl 11 ((dir != 0)) (fun u=>?_) (fun u=>?_)
 have bZ:=aq u
 exact Pl 3<|ce a2 (dir != 1) (by rw[u];rfl)
 have bZ:=ai u
 exact Pl 3<|ce a2 false (by rw[u];rfl)
 refine Pl 1<|nt<|cb (((dir != 0)&&(dir != 1))) (fun d=>?_) (fun d=>?_)
 have a3:=(aR d).1
 have a4:=(aR d).2
 have dl:=aq a3
 have dm:=aq a4
 refine sg<|Pl 1<|L0<|aW a mZ fun dn c2 c3=>Pl 1<|nt<|rt<|br<|tr<|bz c2 (.int .i64 1)<|?_
 have hs:cZ dir b=(aQ.zero,1):=by
   unfold cZ
   (try simp only[d,a3,a4,bs,if_true,if_false,decide_true,decide_false,jx,reduceIte])
   all_goals rfl
 refine i4 hs ?_
 exact cJ (ud f c3 h)
 refine sg<|Pl 4<|nt<|cb ((((b.length:Nat) : Int)==0)) (fun e=>?_) (fun e=>?_)
 have c4:=al e
 refine sg<|Pl 1<|L0<|aW a mZ fun dp c5 c6=>Pl 1<|nt<|rt<|br<|tr<|bz c5 (.int .i64 2)<|?_
 have hs:cZ dir b=(aQ.zero,2):=by
   unfold cZ
   (try simp only[d,e,bs,if_true,if_false,decide_true,decide_false,jx,reduceIte])
   all_goals rfl
 refine i4 hs ?_
 exact cJ (ud f c6 h)
 have c4:=ap e
 refine sg<|Pl 4<|nt<|cb ((decide (253<((b.length:Nat) : Int)))) (fun g=>?_) (fun g=>?_)
 have c7:=of_decide_eq_true g
 refine sg<|Pl 1<|L0<|aW a mZ fun dq c8 c9=>Pl 1<|nt<|rt<|br<|tr<|bz c8 (.int .i64 3)<|?_
 have hs:cZ dir b=(aQ.zero,3):=by
   unfold cZ
   (try simp only[d,e,g,bs,if_true,if_false,decide_true,decide_false,jx,reduceIte])
   all_goals rfl
 refine i4 hs ?_
 exact cJ (ud f c9 h)
 have c7:=of_decide_eq_false g
 refine sg<|Pl 1<|?_
 have s:=aT.old hsl f
 refine eJ (aT.at_ s 0 (by omega)) fun a5 a6 a7 a8 dr=>L0<|iZ b.length 0 a7 (by omega)<|L0<|dY (p:=⟨a5,a6+0,none⟩) (v:=.int .u8 (b.getD 0 0)) a8<|Pl 2<|cu 3 [31] 34 (((decide (128≤(b.getD 0 0)))&&(dir==1))) (fun K a9=>?_) ?_
 refine bl 31 ((decide (128≤(b.getD 0 0)))) (fun y=>?_) (fun y=>?_)
 have ca:=of_decide_eq_true y
 exact Pl 3<|ce a9 (dir==1) (by rw[y];rfl)
 have ca:=of_decide_eq_false y
 exact Pl 3<|ce a9 false (by rw[y];rfl)
 refine Pl 1<|nt<|cb (((decide (128≤(b.getD 0 0)))&&(dir==1))) (fun i=>?_) (fun i=>?_)
 have aa:=(aR i).1
 have ab:=(aR i).2
 have ds:=of_decide_eq_true aa
 have dt:=al ab
 refine sg<|Pl 1<|L0<|Oc<|e2 (ra s (by omega)) fun cc du z ac=>Pl 2<|?_
 have ad:=ub ac a
 refine L0<|aW (hz:=(by rw[z.size];exact aS)) (hv:=z.size) (h1:=z.one) ad (cc) fun dw cd af=>Pl 1<|nt<|rt<|br<|tr<|eu 22 z.size cd (.int .i64 (((f8 b)).2))<|?_
 have hs:cZ dir b=(f8 b):=by
   unfold cZ
   (try simp only[d,e,g,i,aa,ab,bs,if_true,if_false,decide_true,decide_false,jx,reduceIte])
   all_goals rfl
 refine i4 hs ?_
 exact⟨_,rfl,(aL.upd z af (ak (aM ad (by decide)) aG)),(ud f (uz ac af) h)⟩
 refine sk<|bn<|tn<|sg<|Pl 1<|L0<|iZ b.length 0 a7 (by omega)<|L0<|dY (p:=⟨a5,a6+0,none⟩) (v:=.int .u8 (b.getD 0 0)) a8<|?_
 rcases gZ (b.getD 0 0) with⟨hk,hkf⟩|⟨hk,hkf⟩|⟨hk,hkf⟩|⟨hk,hkf⟩|⟨hk,hkf⟩|⟨hk,hkf⟩
 have ah:=f9 (x:=(b.getD 0 0)) (w:=t)
 rw[hkf] at ah
 refine L0<|Oc<|m1 ah fun dx aj=>Pl 3<|L0<|bE #[.nilFunc,.nilFunc] fun cf dy an cg ch=>L0<|aW cg #[.func (.func 138) #[] #[],.func (.func 139) #[] #[]] fun dz ci cj=>Pl 1<|nt<|sq<|sg<|Pl 2<|nt<|c0<|?_
 refine bi<|sq<|?_
 have ao:=aF aj (ud ch cj an)
 have ar:=aT.old s ao
 refine eJ (aT.at_ ar 0 (by omega)) fun ck cl au av dA=>Rg 13 (fun w'=>w'.cell? ⟨cf,0,none⟩=some (.func (.func 138) #[] #[])∧w'.cell? ⟨ck,cl+0,none⟩=some (.int .u8 (b.getD 0 0))) fun dB M=>?_
 have aw:=ub M ci
 refine bg ⟨(ag aw rfl),(uc M av)⟩ fun j=>Rt 0 j<|Rl 1 j (fun _ hs=>hs.1)<|Rt 2 j<|Rt 3 j<|kU 4 j b.length 0 0 rfl au (by omega)<|Rl 5 j (fun _ hs=>hs.2)<|Rt 6 j<|jW (dv (P:=Tryz.prog) 22 5 1 Tryz.underlying22 rfl rfl A b.length cp 1 (by omega)) fun ax hrun108 cm=>Rr 7 j (.slice ax (b.length-1) (cp-1)) (fun _ _=>dM (kl:=.i64) (k:=((1:Nat) : Int)) (A:=A) (n:=b.length) (c:=cp) rfl Tryz.underlying22 (by kernel_rfl) (by kernel_rfl) (hrun108 _ _))<|?_
 refine R0 8 rfl<|fN #[] #[] (args:=#[.int .i64 dir,.int .u8 (b.getD 0 0),.slice ax (b.length-1) (cp-1)])<|e2 (jw (dir:=dir) (c:=(b.getD 0 0)) (b8 (by omega)) (cm _ _ _ _ _ (aT.old ar M)) (by(try simp only[List.length_drop]);omega)) fun cn dC B S=>?_
 have ay:=ub S aw
 have T:=aF M S
 refine bg ⟨(ag ay rfl),(uc T av)⟩ fun az=>Rt 9 az<|Rt 10 az<|?_
 have aA:=aF ao T
 have aB:=ub aA a
 refine R0 11 rfl<|aW (hz:=(by rw[B.size];exact aS)) (hv:=B.size) (h1:=B.one) aB (cn) fun dD co C=>?_
 have dE:=uz T C
 have dF:=uz S C
 have aC:=ud f (uz aA C) h
 refine bg ⟨(ag (aX C (Ne.symm (nb (am a) aj.size an)) ay) rfl),(cB (aT.old hsl aC) au 0 (by omega))⟩ fun cq=>Rt 12 cq<|re<|tn<|rt<|eu 22 B.size co (.int .i64 (((ae aE dir (b.getD 0 0) (b.drop 1))).2))<|?_
 have hs:cZ dir b=(ae aE dir (b.getD 0 0) (b.drop 1)):=by
   unfold cZ
   (try simp only[d,e,g,i,bs,if_true,if_false,decide_true,decide_false,hkf,jx,reduceIte])
   all_goals rfl
 refine i4 hs ?_
 exact⟨_,rfl,(aL.upd B C (ak (aM aB (by decide)) aG)),aC⟩
 have aD:=f9 (x:=(b.getD 0 0)) (w:=t)
 rw[hkf] at aD
 refine L0<|Oc<|m1 aD fun dG aH=>Pl 3<|L0<|bE #[.nilFunc,.nilFunc] fun cr dH aJ cs ct=>L0<|aW cs #[.func (.func 140) #[] #[],.func (.func 141) #[] #[]] fun dI cv cw=>Pl 1<|nt<|sq<|sg<|Pl 2<|nt<|c0<|?_
 refine bi<|sq<|?_
 have aK:=aF aH (ud ct cw aJ)
 have aN:=aT.old s aK
 refine eJ (aT.at_ aN 0 (by omega)) fun cx cy aP aU dJ=>Rg 13 (fun w'=>w'.cell? ⟨cr,0,none⟩=some (.func (.func 140) #[] #[])∧w'.cell? ⟨cx,cy+0,none⟩=some (.int .u8 (b.getD 0 0))) fun dK N=>?_
 have aV:=ub N cv
 refine bg ⟨(ag aV rfl),(uc N aU)⟩ fun l=>Rt 0 l<|Rl 1 l (fun _ hs=>hs.1)<|Rt 2 l<|Rt 3 l<|kU 4 l b.length 0 0 rfl aP (by omega)<|Rl 5 l (fun _ hs=>hs.2)<|Rt 6 l<|jW (dv (P:=Tryz.prog) 22 5 1 Tryz.underlying22 rfl rfl A b.length cp 1 (by omega)) fun aY hrun188 cz=>Rr 7 l (.slice aY (b.length-1) (cp-1)) (fun _ _=>dM (kl:=.i64) (k:=((1:Nat) : Int)) (A:=A) (n:=b.length) (c:=cp) rfl Tryz.underlying22 (by kernel_rfl) (by kernel_rfl) (hrun188 _ _))<|?_
 refine R0 8 rfl<|fN #[] #[] (args:=#[.int .i64 dir,.int .u8 (b.getD 0 0),.slice aY (b.length-1) (cp-1)])<|e2 (kC (dir:=dir) (c:=(b.getD 0 0)) (b8 (by omega)) (cz _ _ _ _ _ (aT.old aN N)) (by(try simp only[List.length_drop]);omega)) fun cA dL D U=>?_
 have aZ:=ub U aV
 have V:=aF N U
 refine bg ⟨(ag aZ rfl),(uc V aU)⟩ fun b0=>Rt 9 b0<|Rt 10 b0<|?_
 have b1:=aF aK V
 have b2:=ub b1 a
 refine R0 11 rfl<|aW (hz:=(by rw[D.size];exact aS)) (hv:=D.size) (h1:=D.one) b2 (cA) fun dN cC E=>?_
 have dO:=uz V E
 have dQ:=uz U E
 have b3:=ud f (uz b1 E) h
 refine bg ⟨(ag (aX E (Ne.symm (nb (am a) aH.size aJ)) aZ) rfl),(cB (aT.old hsl b3) aP 0 (by omega))⟩ fun cD=>Rt 12 cD<|re<|tn<|rt<|eu 22 D.size cC (.int .i64 (((ae aI dir (b.getD 0 0) (b.drop 1))).2))<|?_
 have hs:cZ dir b=(ae aI dir (b.getD 0 0) (b.drop 1)):=by
   unfold cZ
   (try simp only[d,e,g,i,bs,if_true,if_false,decide_true,decide_false,hkf,jx,reduceIte])
   all_goals rfl
 refine i4 hs ?_
 exact⟨_,rfl,(aL.upd D E (ak (aM b2 (by decide)) aG)),b3⟩
 have b4:=f9 (x:=(b.getD 0 0)) (w:=t)
 rw[hkf] at b4
 refine L0<|Oc<|m1 b4 fun dR b5=>Pl 3<|L0<|bE #[.nilFunc,.nilFunc] fun cE dS b6 cF cG=>L0<|aW cF #[.func (.func 142) #[] #[],.func (.func 143) #[] #[]] fun dT cH cI=>Pl 1<|nt<|sq<|sg<|Pl 2<|nt<|c0<|?_
 refine bi<|sq<|?_
 have b9:=aF b5 (ud cG cI b6)
 have ba:=aT.old s b9
 refine eJ (aT.at_ ba 0 (by omega)) fun cK cL bb bc dU=>Rg 13 (fun w'=>w'.cell? ⟨cE,0,none⟩=some (.func (.func 142) #[] #[])∧w'.cell? ⟨cK,cL+0,none⟩=some (.int .u8 (b.getD 0 0))) fun dV O=>?_
 have bd:=ub O cH
 refine bg ⟨(ag bd rfl),(uc O bc)⟩ fun o=>Rt 0 o<|Rl 1 o (fun _ hs=>hs.1)<|Rt 2 o<|Rt 3 o<|kU 4 o b.length 0 0 rfl bb (by omega)<|Rl 5 o (fun _ hs=>hs.2)<|Rt 6 o<|jW (dv (P:=Tryz.prog) 22 5 1 Tryz.underlying22 rfl rfl A b.length cp 1 (by omega)) fun be hrun268 cM=>Rr 7 o (.slice be (b.length-1) (cp-1)) (fun _ _=>dM (kl:=.i64) (k:=((1:Nat) : Int)) (A:=A) (n:=b.length) (c:=cp) rfl Tryz.underlying22 (by kernel_rfl) (by kernel_rfl) (hrun268 _ _))<|?_
 refine R0 8 rfl<|fN #[] #[] (args:=#[.int .i64 dir,.int .u8 (b.getD 0 0),.slice be (b.length-1) (cp-1)])<|e2 (jQ (dir:=dir) (c:=(b.getD 0 0)) (b8 (by omega)) (cM _ _ _ _ _ (aT.old ba O)) (by(try simp only[List.length_drop]);omega)) fun cN dW F W=>?_
 have bf:=ub W bd
 have X:=aF O W
 refine bg ⟨(ag bf rfl),(uc X bc)⟩ fun bh=>Rt 9 bh<|Rt 10 bh<|?_
 have bj:=aF b9 X
 have bm:=ub bj a
 refine R0 11 rfl<|aW (hz:=(by rw[F.size];exact aS)) (hv:=F.size) (h1:=F.one) bm (cN) fun dX cO G=>?_
 have dZ:=uz X G
 have e0:=uz W G
 have bo:=ud f (uz bj G) h
 refine bg ⟨(ag (aX G (Ne.symm (nb (am a) b5.size b6)) bf) rfl),(cB (aT.old hsl bo) bb 0 (by omega))⟩ fun cP=>Rt 12 cP<|re<|tn<|rt<|eu 22 F.size cO (.int .i64 (((ae aO dir (b.getD 0 0) (b.drop 1))).2))<|?_
 have hs:cZ dir b=(ae aO dir (b.getD 0 0) (b.drop 1)):=by
   unfold cZ
   (try simp only[d,e,g,i,bs,if_true,if_false,decide_true,decide_false,hkf,jx,reduceIte])
   all_goals rfl
 refine i4 hs ?_
 exact⟨_,rfl,(aL.upd F G (ak (aM bm (by decide)) aG)),bo⟩
 have bp:=f9 (x:=(b.getD 0 0)) (w:=t)
 rw[hkf] at bp
 refine L0<|Oc<|m1 bp fun e1 bq=>Pl 3<|L0<|bE #[.nilFunc,.nilFunc] fun cQ e3 bt cR cS=>L0<|aW cR #[.func (.func 144) #[] #[],.func (.func 145) #[] #[]] fun e4 cT cU=>Pl 1<|nt<|sq<|sg<|Pl 2<|nt<|c0<|?_
 refine bi<|sq<|?_
 have bu:=aF bq (ud cS cU bt)
 have bv:=aT.old s bu
 refine eJ (aT.at_ bv 0 (by omega)) fun cV cW bw bx e5=>Rg 13 (fun w'=>w'.cell? ⟨cQ,0,none⟩=some (.func (.func 144) #[] #[])∧w'.cell? ⟨cV,cW+0,none⟩=some (.int .u8 (b.getD 0 0))) fun e6 Q=>?_
 have bA:=ub Q cT
 refine bg ⟨(ag bA rfl),(uc Q bx)⟩ fun q=>Rt 0 q<|Rl 1 q (fun _ hs=>hs.1)<|Rt 2 q<|Rt 3 q<|kU 4 q b.length 0 0 rfl bw (by omega)<|Rl 5 q (fun _ hs=>hs.2)<|Rt 6 q<|jW (dv (P:=Tryz.prog) 22 5 1 Tryz.underlying22 rfl rfl A b.length cp 1 (by omega)) fun bB hrun348 cX=>Rr 7 q (.slice bB (b.length-1) (cp-1)) (fun _ _=>dM (kl:=.i64) (k:=((1:Nat) : Int)) (A:=A) (n:=b.length) (c:=cp) rfl Tryz.underlying22 (by kernel_rfl) (by kernel_rfl) (hrun348 _ _))<|?_
 refine R0 8 rfl<|fN #[] #[] (args:=#[.int .i64 dir,.int .u8 (b.getD 0 0),.slice bB (b.length-1) (cp-1)])<|e2 (jm (dir:=dir) (c:=(b.getD 0 0)) (b8 (by omega)) (cX _ _ _ _ _ (aT.old bv Q)) (by(try simp only[List.length_drop]);omega)) fun cY e7 H Y=>?_
 have bC:=ub Y bA
 have Z:=aF Q Y
 refine bg ⟨(ag bC rfl),(uc Z bx)⟩ fun bD=>Rt 9 bD<|Rt 10 bD<|?_
 have bF:=aF bu Z
 have bH:=ub bF a
 refine R0 11 rfl<|aW (hz:=(by rw[H.size];exact aS)) (hv:=H.size) (h1:=H.one) bH (cY) fun e8 d0 I=>?_
 have e9:=uz Z I
 have ea:=uz Y I
 have bI:=ud f (uz bF I) h
 refine bg ⟨(ag (aX I (Ne.symm (nb (am a) bq.size bt)) bC) rfl),(cB (aT.old hsl bI) bw 0 (by omega))⟩ fun d1=>Rt 12 d1<|re<|tn<|rt<|eu 22 H.size d0 (.int .i64 (((ae b7 dir (b.getD 0 0) (b.drop 1))).2))<|?_
 have hs:cZ dir b=(ae b7 dir (b.getD 0 0) (b.drop 1)):=by
   unfold cZ
   (try simp only[d,e,g,i,bs,if_true,if_false,decide_true,decide_false,hkf,jx,reduceIte])
   all_goals rfl
 refine i4 hs ?_
 exact⟨_,rfl,(aL.upd H I (ak (aM bH (by decide)) aG)),bI⟩
 have bJ:=f9 (x:=(b.getD 0 0)) (w:=t)
 rw[hkf] at bJ
 refine L0<|Oc<|m1 bJ fun eb bK=>Pl 3<|L0<|bE #[.nilFunc,.nilFunc] fun d2 ec bL d3 d4=>L0<|aW d3 #[.func (.func 146) #[] #[],.func (.func 147) #[] #[]] fun ed d5 d6=>Pl 1<|nt<|sq<|sg<|Pl 2<|nt<|c0<|?_
 refine bi<|sq<|?_
 have bM:=aF bK (ud d4 d6 bL)
 have bN:=aT.old s bM
 refine eJ (aT.at_ bN 0 (by omega)) fun d7 d8 bO bP ee=>Rg 13 (fun w'=>w'.cell? ⟨d2,0,none⟩=some (.func (.func 146) #[] #[])∧w'.cell? ⟨d7,d8+0,none⟩=some (.int .u8 (b.getD 0 0))) fun ef R=>?_
 have bQ:=ub R d5
 refine bg ⟨(ag bQ rfl),(uc R bP)⟩ fun r=>Rt 0 r<|Rl 1 r (fun _ hs=>hs.1)<|Rt 2 r<|Rt 3 r<|kU 4 r b.length 0 0 rfl bO (by omega)<|Rl 5 r (fun _ hs=>hs.2)<|Rt 6 r<|jW (dv (P:=Tryz.prog) 22 5 1 Tryz.underlying22 rfl rfl A b.length cp 1 (by omega)) fun bR hrun428 d9=>Rr 7 r (.slice bR (b.length-1) (cp-1)) (fun _ _=>dM (kl:=.i64) (k:=((1:Nat) : Int)) (A:=A) (n:=b.length) (c:=cp) rfl Tryz.underlying22 (by kernel_rfl) (by kernel_rfl) (hrun428 _ _))<|?_
 refine R0 8 rfl<|fN #[] #[] (args:=#[.int .i64 dir,.int .u8 (b.getD 0 0),.slice bR (b.length-1) (cp-1)])<|e2 (lT (dir:=dir) (c:=(b.getD 0 0)) (b8 (by omega)) (d9 _ _ _ _ _ (aT.old bN R)) (by(try simp only[List.length_drop]);omega)) fun da eg J a0=>?_
 have bS:=ub a0 bQ
 have a1:=aF R a0
 refine bg ⟨(ag bS rfl),(uc a1 bP)⟩ fun bT=>Rt 9 bT<|Rt 10 bT<|?_
 have bU:=aF bM a1
 have bV:=ub bU a
 refine R0 11 rfl<|aW (hz:=(by rw[J.size];exact aS)) (hv:=J.size) (h1:=J.one) bV (da) fun eh db L=>?_
 have ei:=uz a1 L
 have ej:=uz a0 L
 have bW:=ud f (uz bU L) h
 refine bg ⟨(ag (aX L (Ne.symm (nb (am a) bK.size bL)) bS) rfl),(cB (aT.old hsl bW) bO 0 (by omega))⟩ fun dc=>Rt 12 dc<|re<|tn<|rt<|eu 22 J.size db (.int .i64 (((ae bG dir (b.getD 0 0) (b.drop 1))).2))<|?_
 have hs:cZ dir b=(ae bG dir (b.getD 0 0) (b.drop 1)):=by
   unfold cZ
   (try simp only[d,e,g,i,bs,if_true,if_false,decide_true,decide_false,hkf,jx,reduceIte])
   all_goals rfl
 refine i4 hs ?_
 exact⟨_,rfl,(aL.upd J L (ak (aM bV (by decide)) aG)),bW⟩
 have bX:=f9 (x:=(b.getD 0 0)) (w:=t)
 rw[hkf] at bX
 refine L0<|Oc<|m1 bX fun ek dd=>Pl 3<|L0<|bE #[.nilFunc,.nilFunc] fun el em de df dg=>L0<|aW df #[.nilFunc,.nilFunc] fun eo ep dh=>Pl 1<|nt<|sq<|sg<|Pl 2<|nt<|c1<|?_
 refine sg<|Pl 1<|?_
 have bY:=aF dd (ud dg dh de)
 refine L0<|aW (ub bY a) mZ fun eq di dj=>Pl 1<|nt<|rt<|tr<|bz di (.int .i64 4)<|?_
 have hs:cZ dir b=(aQ.zero,4):=by
   unfold cZ
   (try simp only[d,e,g,i,bs,if_true,if_false,decide_true,decide_false,hkf,jx,reduceIte])
   all_goals rfl
 refine i4 hs ?_
 exact cJ (ud f (uz bY dj) h)
theorem jf{m:Md}{v:Value}{b:List Int}{w:World}{dir:Int}(h:aT m w v b)(hb:b.length≤1048576) : Calls Tryz.prog 24 #[.int .i64 dir,v] w (dP (cZ dir b) w):=by
  obtain⟨A,cp,rfl,_,_⟩:=h.shape
  exact p4 h hb
end Go.Proofs.YtogbnemojakcpaaGreat
namespace Go.Proofs.YtogbnemojakcpaaGreat
def N1 (C:ah) : Prop:=C.e≠1
theorem N1.need{C:ah}{b:Bool}{x:Int}(hx:x≠1)(h:N1 C) : N1 (C.need b x):=by
  unfold N1 ah.need at *
  split
  · exact hx
  · exact h
theorem N1.bytesC{C:ah}{n:Int}(h:N1 C) : N1 (C.bytesC n):=by
  unfold ah.bytesC
  split
  · exact N1.need (by decide) h
  · exact h
theorem N1.wordsC{C:ah}{n:Int}(h:N1 C) : N1 (C.wordsC n):=by
  unfold ah.wordsC
  split<;>exact N1.bytesC h
theorem N1.recs{one:Int→ah→Int × ah × dt}(ho:∀ s C,N1 C→N1 (one s C).2.1) : ∀ (n:Nat)(s:Int)(C:ah)(L:List dt),N1 C→N1 (aP one n s C L).1
  | 0,_,_,_,h=>h
  | n+1,s,C,L,h=>by
    unfold aP
    split
    · split
      · exact ho s C h
      · exact N1.recs ho n _ _ _ (ho s C h)
    · exact h
theorem N1.endC{C:ah}(h:N1 C) : N1 C.endC:=by
  unfold ah.endC
  exact N1.need (by decide) h
end Go.Proofs.YtogbnemojakcpaaGreat
namespace Go.Proofs.YtogbnemojakcpaaGreat
end Go.Proofs.YtogbnemojakcpaaGreat
namespace Go.Proofs.YtogbnemojakcpaaGreat
open Go.RowKit
theorem rj{w w':World}(h:aD [] w w') : Below w.heap.size w w':=⟨h.os,h.tape,h.output,h.size,fun k hk=>h.block k hk (by simp)⟩
theorem rg{n:Int}(h:(Lit.int .u8 n).wf=true) : 0≤n∧n<256:=by
  have:=bounds_u8 h
  omega
open Go.RowKit
structure SL where
  aw:Option Addr
  kw:Nat
  ab:Option Addr
  kb:Nat
  ad:Option Addr
  kd:Nat
  ar:Option Addr
  kr:Nat
  ao:Option Addr
  ko:Nat
def gF (M:aQ)(x:SL) : Array Value:=mG M.code M.fail M.addr M.count M.value M.and_ M.or_ M.addr2 M.sub M.status M.events M.messages (.slice x.aw M.words.length x.kw) (.slice x.ab M.bits.length x.kb) (.slice x.ad M.data.length x.kd) (.slice x.ar M.recs.length x.kr) M.mei M.kind M.level M.more M.next (.slice x.ao M.objects.length x.ko)
theorem jZ{m:Md}{w:World}{cs:Array Value}{M:aQ}(h:aL m w cs.toList M) : ∃ x,cs=gF M x:=by
  obtain⟨vw,vb,vd,vr,vo,h0,hw,hb,hd,hr,ho,hR⟩:=h
  obtain⟨aw,kw,rfl,_,_⟩:=hw.shape
  obtain⟨ab,kb,rfl,_,_⟩:=hb.shape
  obtain⟨ad,kd,rfl,_,_⟩:=hd.shape
  obtain⟨ar,kr,rfl,_,_⟩:=hr.shape
  obtain⟨ao,ko,rfl,_,_⟩:=ho.shape
  refine⟨⟨aw,kw,ab,kb,ad,kd,ar,kr,ao,ko⟩,?_⟩
  apply Array.toList_inj.1
  rw[h0]
  rfl
open Go.RowKit
def iG:aQ:={ aQ.zero with code:=7 }
open Go.RowKit
section
variable {P:Program}{n:Nat}{D:List Deferred}{F:Fr}{w:World}{K:Fr→World→Prop}{Q:Exit→Act→World→Prop}{d:Option Tmp}{t:TypeId}{s:String}{af:Array Edge}{gu:Option (Nat × Bool)}
theorem tc{a:Act}{K:Act→World→Prop}{o:Oper}{N:Option Tmp}{f:FuncId}{fn:Func}{x:Operand}{nm:String}{opds:Array Operand}{ts:Array TypeId}{T:TypeId}{v rv:Value}(args:Array Value)(hN:o.dst=N)(hop:o.op = .call { callee:=.invoke x nm,args:=opds,argTypes:=ts })
    (hx : a.eval x = .iface T v) (hm : (method (P.types.size + Made.depth) T v nm).run P w = .ok (f, rv) w) (hf : P.funcs[f]? = some fn) (hname : (fn.name == "runtime.NumGoroutine") = false) (hb : fn.body.isSome = true) (hargs : #[rv] ++ opds.map a.eval = args)
    (h:Calls P f args w fun e w'=>∃ v,e = .returned v∧K (a.put N v) w') : OW P o a w K Q:=by
  refine OW.mk ?_
  subst hN
  subst hargs
  have h1 : fn.name ≠ "runtime.NumGoroutine" := by simpa using hname
  obtain⟨cd,hcd⟩:=Option.isSome_iff_exists.1 hb
  have hcm:(callMethod (.iface T v) nm (opds.map a.eval)).run P w = .ok (.enter f (#[rv]++opds.map a.eval)) w:=by
    unfold callMethod
    simp only[program,Sem.run_bind]
    have hp:(pure P:Sem Program).run P w = .ok P w:=rfl
    simp[Sem.run,hm,callFunc,hf,h1,hcd,Result.andThen]
  have hinv:invoke (.fn (.method nm) #[]) (#[.iface T v]++opds.map a.eval)=callMethod (.iface T v) nm (opds.map a.eval):=by
    have e0:(#[Value.iface T v]++opds.map a.eval)[0]? = some (.iface T v):=by
      rw[Array.getElem?_append_left (by simp)]
      rfl
    have e1:(#[Value.iface T v]++opds.map a.eval).extract 1 (#[Value.iface T v]++opds.map a.eval).size=opds.map a.eval:=by
      apply Array.toList_inj.1
      simp only[Array.toList_extract,List.extract_eq_take_drop,Array.toList_append,Array.toList_map,Array.size_append,Array.size_map]
      simp[List.take_of_length_le]
    unfold invoke
    simp only[e0,e1]
  have hrun:(execOp a.eval o).run P w = .ok (.enter f (#[rv]++opds.map a.eval)) w:=by
    unfold execOp
    simp only[hop,resolve,hx,Sem.run_bind,Sem.run_pure,Result.andThen_ok,hinv,hcm]
  unfold Oper.wp
  rw[hrun,Oper.upon_enter]
  refine h.mono fun e w'' hh=>?_
  obtain⟨v,rfl,h2⟩:=hh
  exact h2
theorem w7{f:FuncId}{x:Operand}{nm:String}{opds:Array Operand}{ts:Array TypeId}{args:Array Value}(T:TypeId)(v rv:Value)(h:Calls P f args w fun e w'=>∃ v,e = .returned v∧K (pt d v F) w')
    (hm:(method (P.types.size+Made.depth) T v nm).run P w = .ok (f,rv) w:=by kernel_rfl) (hx:eQ F x=some (.iface T v):=by kernel_rfl) (ha:some rv :: opds.toList.map (eQ F)=args.toList.map some:=by kernel_rfl) (hf:xI P f=some (false,true):=by kernel_rfl) (hs:fM n d=true:=by kernel_rfl) : OG P ⟨d,.call { callee:=.invoke x nm,args:=opds,argTypes:=ts },t,s,af,gu⟩ n D F w K Q:=by
  obtain⟨fn,h1,h2,h3⟩:=iO hf
  refine⟨fun a hag K' hK=>tc args rfl rfl (hag.ev hx) hm h1 h2 h3 ?_ (h.mono fun e w' hh=>by
    obtain⟨v,rfl,hk⟩:=hh
    exact⟨v,rfl,hK _ _ _ hk (hag.put hs)⟩)⟩
  apply Array.toList_inj.1
  obtain⟨vs,has⟩ : ∃ vs:List Value,args.toList=rv :: vs∧opds.toList.map (eQ F)=vs.map some:=by
    cases hl:args.toList with
    | nil=>rw[hl] at ha;cases ha
    | cons y ys =>
      rw[hl] at ha
      injection ha with e1 e2
      exact⟨ys,by rw[Option.some.inj e1],e2⟩
  rw[has.1,Array.toList_append,Array.toList_map,jI hag has.2]
  rfl
end
open Go.RowKit
structure d7 where
  unit:Int
  tid:Int
  msg:aQ
def d7.zero:d7:=⟨0,0,aQ.zero⟩
def xV (m:Md)(w:World)(cs:Array Value)(F:d7) : Prop:=∃ c:Array Value,cs = #[.int .u8 F.unit,.int .u16 F.tid]++c∧aL m w c.toList F.msg∧B8 F.unit∧dx F.tid
def jO (res:d7 × Int)(w:World)(e:Ending)(w':World) : Prop:=∃ cs,e = .returned (.tuple #[.agg cs,.int .i64 res.2])∧xV true w' cs res.1∧aD [] w w'
theorem dh{x y:d7 × Int}(h:x=y){w:World}{e:Ending}{w':World}(k:jO y w e w') : jO x w e w':=by rw[h];exact k
def jc:Array Value:=#[.int .u8 0,.int .u16 0,.int .u8 0,.int .u8 0,.int .u16 0,.int .u16 0,.int .u16 0,.int .u16 0,.int .u16 0,.int .u16 0,.int .u16 0,.int .u16 0,.int .u16 0,.int .u16 0,.slice none 0 0,.slice none 0 0,.slice none 0 0,.slice none 0 0,.int .u8 0,.int .u8 0,.int .u8 0,.int .u8 0,.int .u8 0,.slice none 0 0]
theorem cw{x:Int}{w W:World}(hu:aD [] w W) : jO (d7.zero,x) w (.returned (.tuple #[.agg jc,.int .i64 x])) W:=⟨_,rfl,⟨lc,(by kernel_rfl),aL.zero ..,(show(0:Int)≤0∧(0:Int)<256 from by decide),(show(0:Int)≤0∧(0:Int)<65536 from by decide)⟩,hu⟩
def bY (u t:Int) : aQ × Int→d7 × Int
  | (M,E)=>if E != 0 then (d7.zero,E) else (⟨u,t,M⟩,0)
theorem tA{dir:Int}{M:aQ}{l:List Int}(h:dr dir M=some l) : l.length≤253:=by
  unfold dr at h
  split at h
  · split at h
    · cases h
    · unfold l7 at h
      split at h
      · cases h
      · split at h
        · cases h
        · injection h with h
          subst h
          simp only[List.length_cons,List.length_nil]
          omega
  · split at h
    · cases h
    · split at h
      · cases h
      · rename_i hl
        injection h with h
        subst h
        simp only[decide_eq_true_eq] at hl
        simp only[List.length_append,List.length_cons,List.length_nil]
        omega
open Go.RowKit
deriving instance DecidableEq for d7
def fD (u t:Int)(M:aQ)(x:SL) : Array Value:=#[.int .u8 u,.int .u16 t,.int .u8 M.code,.int .u8 M.fail,.int .u16 M.addr,.int .u16 M.count,.int .u16 M.value,.int .u16 M.and_,.int .u16 M.or_,.int .u16 M.addr2,.int .u16 M.sub,.int .u16 M.status,.int .u16 M.events,.int .u16 M.messages,.slice x.aw M.words.length x.kw,.slice x.ab M.bits.length x.kb,.slice x.ad M.data.length x.kd,.slice x.ar M.recs.length x.kr,.int .u8 M.mei,.int .u8 M.kind,.int .u8 M.level,.int .u8 M.more,.int .u8 M.next,.slice x.ao M.objects.length x.ko]
theorem j5(u t:Int)(M:aQ)(x:SL) : fD u t M x = #[.int .u8 u,.int .u16 t]++gF M x:=by kernel_rfl
end Go.Proofs.YtogbnemojakcpaaGreat
namespace Go.Proofs.YtogbnemojakcpaaGreat
def iL (x:Nat) : Nat:=(x/2) ^^^ (x%2*40961)
def fa:Nat→Nat→Nat
  | 0,x=>x
  | k+1,x=>iL (fa k x)
def vK (i:Nat) : Nat:=fa 8 i
theorem v7{x:Nat}(h:x<65536) : iL x<65536:=by
  unfold iL
  exact Nat.xor_lt_two_pow (n:=16) (by omega) (by omega)
theorem gS{x:Nat}(h:x<65536) : ∀ k,fa k x<65536
  | 0=>h
  | k+1=>v7 (gS h k)
theorem qV{i:Nat}(h:i<256) : vK i<65536:=gS (by omega) 8
def qC (s c:Nat) : Nat:=(s/256) ^^^ vK ((s%256) ^^^ c)
theorem qq{a b:Nat}(ha:a<256)(hb:b<256) : a ^^^ b<256:=Nat.xor_lt_two_pow (n:=8) ha hb
theorem jS{a b:Nat}(ha:a<65536)(hb:b<65536) : a ^^^ b<65536:=Nat.xor_lt_two_pow (n:=16) ha hb
theorem tS{s c:Nat}(hs:s<65536)(hc:c<256) : qC s c<65536:=jS (by omega) (qV (qq (by omega) hc))
def xi (a b:Int) : Int:=((a.toNat ^^^ b.toNat:Nat) : Int)
theorem zH{a b:Int}(ha:0≤a∧a<256)(hb:0≤b∧b<256) : 0≤xi a b∧xi a b<256:=by
  have:=qq (a:=a.toNat) (b:=b.toNat) (by omega) (by omega)
  unfold xi
  omega
theorem xX{a b:Int}(ha:0≤a∧a<65536)(hb:0≤b∧b<65536) : 0≤xi a b∧xi a b<65536:=by
  have:=jS (a:=a.toNat) (b:=b.toNat) (by omega) (by omega)
  unfold xi
  omega
theorem uU(n:Nat) : xi (((n:Nat) : Int)/2) ((((n:Nat) : Int)%2)*40961%65536)=((iL n:Nat) : Int):=by
  unfold xi iL
  rw[show(((n:Nat) : Int)/2).toNat=n/2 from by omega,show((((n:Nat) : Int)%2)*40961%65536).toNat=n%2*40961 from by omega]
def jB (i:Int) : Int:=((vK i.toNat:Nat) : Int)
theorem nO{i:Int}(h:0≤i∧i<256) : 0≤jB i∧jB i<65536:=by
  have:=qV (i:=i.toNat) (by omega)
  unfold jB
  omega
def pv (s c:Int) : Int:=xi (s/256) (jB (xi (s%256) c))
theorem nI{s c:Int}(hs:0≤s∧s<65536)(hc:0≤c∧c<256) : pv s c=((qC s.toNat c.toNat:Nat) : Int):=by
  unfold pv jB xi qC
  rw[show(s/256).toNat=s.toNat/256 from by omega,show(s%256).toNat=s.toNat%256 from by omega]
  simp only[Int.toNat_natCast]
theorem o8{s c:Int}(hs:0≤s∧s<65536)(hc:0≤c∧c<256) : 0≤pv s c∧pv s c<65536:=by
  have:=tS (s:=s.toNat) (c:=c.toNat) (by omega) (by omega)
  rw[nI hs hc]
  omega
def cW (s:Int)(b:List Int) : Int:=b.foldl pv s
theorem iD:∀ (b:List Int){s:Int},(0≤s∧s<65536)→(∀ x,x∈b→0≤x∧x<256)→0≤cW s b∧cW s b<65536
  | [],s,hs,_=>hs
  | c :: b,s,hs,hb=>iD b (o8 hs (hb c (List.mem_cons_self ..))) fun x hx=>hb x (List.mem_cons_of_mem _ hx)
theorem uw(s:Int)(a b:List Int) : cW s (a++b)=cW (cW s a) b:=by unfold cW;rw[List.foldl_append]
def cQ (s:Int) : List Int:=[s%256,s/256%256]
def dI (b:List Int) : Bool:=decide (2≤b.length)&&decide (cQ (cW 65535 (b.take (b.length-2)))=b.drop (b.length-2))
open Go.RowKit
def yq (P:Program)(ty:TypeId) : Option (Nat × TypeId):=match P.underlying ty with | some (.array m e)=>some (m,e) | _=>none
theorem t0{P:Program}{ty e:TypeId}{m:Nat}(h:yq P ty=some (m,e)) : P.underlying ty=some (.array m e):=by
  unfold yq at h
  split at h
  · injection h with h
    injection h with h1 h2
    subst h1 h2
    assumption
  · cases h
theorem ri{P:Program}{w:World}{ev:Operand→Value}{o:Oper}{t e:TypeId}{x ix:Operand}{b off j m:Nat}{k:IntKind}{i:Int}(ho:o.op = .indexAddr t x ix)(ht:P.underlying t=some (.array m e))(hi:(P.info? e).map (·.size)=some 1)
    (hx:ev x = .pointer (some ⟨b,off,none⟩)) (hix:ev ix = .int k i) (hj:i=j) (hlt:j<m) : (execOp ev o).run P w = .ok (.value (.pointer (some ⟨b,off+j,none⟩))) w:=by
  subst hj
  obtain⟨i0,hi0,hs⟩:=Option.map_eq_some_iff.1 hi
  unfold execOp
  have h2:(0:Int)≤(j:Int)∧(j:Int)<(m:Int):=by omega
  simp[ho,hx,hix,Instr.indexAt,Instr.sureAddr,asIntOf,run_underlying ht,Result.andThen,h2,sizeOf,typeInfo,hi0,hs,ir,hlt]
section
variable {P:Program}{n:Nat}{D:List Deferred}{F:Fr}{w:World}{K:Fr→World→Prop}{Q:Exit→Act→World→Prop}{d:Option Tmp}{t:TypeId}{s:String}{af:Array Edge}{gu:Option (Nat × Bool)}
theorem zy{ty:TypeId}{x ix:Operand}{b off:Nat}(m j:Nat)(i:Int)(hj:i=j)(hlt:j<m)(h:K (pt d (.pointer (some ⟨b,off+j,none⟩)) F) w)
    (hx:eQ F x=some (.pointer (some ⟨b,off,none⟩)):=by kernel_rfl) (hi:vg F ix=some i:=by kernel_rfl) (hs:((yq P ty).bind fun p=>(P.info? p.2).map fun q=>(p.1,q.size),fM n d)=(some (m,1),true):=by kernel_rfl) : OG P ⟨d,.indexAddr ty x ix,t,s,af,gu⟩ n D F w K Q:=by
  simp only[Prod.mk.injEq] at hs
  obtain⟨hs,hd⟩:=hs
  obtain⟨k,hi⟩:=kO hi
  cases he:yq P ty with
  | none=>rw[he] at hs;simp at hs
  | some p =>
    obtain⟨m',e⟩:=p
    rw[he] at hs
    obtain⟨q,hq,h3⟩:=Option.map_eq_some_iff.1 (show(P.info? e).map (fun q=>(m',q.size))=some (m,1) from hs)
    injection h3 with h4 h5
    subst h4
    exact⟨fun a ha K' hK=>gx _ rfl (ri rfl (t0 he) (by rw[hq];simp[h5]) (ha.ev hx) (ha.ev hi) hj hlt) (hK _ _ _ h (ha.put hd))⟩
end
theorem yi{a b:Int}(ha:0≤a∧a<256)(hb:0≤b∧b<256) : bits .xor .u8 a b=xi a b:=u8_xor a b ha.1 ha.2 hb.1 hb.2
theorem nh{a b:Int}(ha:0≤a∧a<65536)(hb:0≤b∧b<65536) : bits .xor .u16 a b=xi a b:=u16_xor a b ha.1 ha.2 hb.1 hb.2
theorem sX{a:Int}(ha:0≤a∧a<65536) : bits .and .u16 a 1=a%2:=by
  rw[u16_and a 1 ha.1 ha.2 (by omega) (by omega)]
  show((a.toNat &&& 1:Nat) : Int)=_
  rw[Nat.and_one_is_mod]
  omega
def gG (k:Nat) : Array Value:=((List.range 256).map fun i=>if i<k then Value.int .u16 (jB i) else Value.int .u16 0).toArray
theorem e9(k:Nat) : (gG k).size=256:=by simp[gG]
theorem nE(k:Nat) : (gG k).all (·.oneCell')=true:=by
  unfold gG
  rw[List.all_toArray,List.all_eq_true]
  intro v hv
  rw[List.mem_map] at hv
  obtain⟨i,_,rfl⟩:=hv
  split<;>rfl
theorem tM{i k:Nat}(hk:k=8)(hi:i<256) : (gG i).setIfInBounds i (.int .u16 ((fa k i:Nat) : Int))=gG (i+1):=by
  subst hk
  unfold gG
  rw[List.setIfInBounds_toArray]
  congr 1
  apply List.ext_getElem?
  intro j
  rw[List.getElem?_set]
  by_cases hj:j<256
  · by_cases hij:i=j
    · subst hij
      simp[hi,jB,vK]
    · simp[hij,hj]
      congr 1
      simp only[eq_iff_iff]
      omega
  · rw[if_neg (by omega)]
    simp[hj]
theorem w9{i:Nat}(h:i<256) : (gG 256)[i]? = some (.int .u16 (jB i)):=by simp[gG,h]
def dN (s:Int)(b:List Int) : Nat→Int
  | 0=>s
  | k+1=>pv (dN s b k) (b.getD k 0)
theorem lZ(s:Int)(b:List Int) : ∀ k,k≤b.length→dN s b k=cW s (b.take k)
  | 0,_=>by simp[dN,cW]
  | k+1,h=>by
    rw[List.take_succ_eq_append_getElem (by omega),uw,← lZ s b k (by omega)]
    show pv _ (b.getD k 0)=_
    rw[List.getD_eq_getElem?_getD,List.getElem?_eq_getElem (by omega)]
    rfl
theorem oN{s:Int}{b:List Int}{k:Nat}(h:k=b.length) : dN s b k=cW s b:=by
  subst h
  rw[lZ _ _ _ (Nat.le_refl _),List.take_length]
theorem iT{s:Int}{b:List Int}(hs:0≤s∧s<65536)(hb:∀ x,x∈b→0≤x∧x<256) : ∀ k,0≤dN s b k∧dN s b k<65536
  | 0=>hs
  | k+1=>o8 (iT hs hb k) (ew (by omega) hb k)
theorem uB{i:Int}(h:0≤i) : jB ((i.toNat:Nat) : Int)=jB i:=by rw[Int.toNat_of_nonneg h]
open Go.RowKit
theorem wy{P:Program}(t e:TypeId)(sz:Nat){i:TypeInfo}(ht:P.underlying t=some (.slice e))(hi:P.info? e=some i)(hsz:i.size=sz)(A:Option Addr)(n c:Nat){k:Int}(h:Nat)(hk:k=(h:Int))(hh:h≤n)(hc:n≤c) :
    ∃ A':Option Addr,(∀ (kh:IntKind) (W:World),(Instr.slice t (.slice A n c) none (some (.int kh k)) none).run P W = .ok (.slice A' h c) W) ∧
      ∀ {α:Type} (m:Md) (e':TypeId) (R:World→α→List Value→Prop) (w:World) (xs:List α),aK m e' sz R w (.slice A n c) xs→aK m e' sz R w (.slice A' h c) (xs.take h):=by
  subst hk
  obtain⟨A',h1,h2⟩:=tw (P:=P) t e sz ht hi hsz A n c 0 h (Nat.zero_le _) hh hc
  refine⟨A',fun kh W=>?_,fun m e' R w xs hr=>by simpa using h2 m e' R w xs hr⟩
  have h3:=h1 .i64 kh W
  have hel:P.elem t=e:=by simp[Program.elem,ht]
  have hu:P.underlying t=some (.slice (P.elem t)):=by rw[hel];exact ht
  rw[run_slice_h W t A n c hu kh (h:Int) (Int.natCast_nonneg _) (by omega)]
  rw[run_slice_lh W t A n c hu .i64 kh (((0:Nat) : Int)) (h:Int) (Int.natCast_nonneg _) (by omega) (by omega)] at h3
  simpa using h3
theorem nB{o:Oper}{ev:Operand→Value}{P:Program}{w:World}{t:TypeId}{x y:Operand}{A:Option Addr}{n c:Nat}{kl:IntKind}{k:Int}{v:Value}{e:TypeId}(ho:o.op = .slice t x none (some y) none)(ht:P.underlying t=some (.slice e))(hx:ev x = .slice A n c)(hy:ev y = .int kl k)
    (hr:(Instr.slice t (.slice A n c) none (some (.int kl k)) none).run P w = .ok v w) : (execOp ev o).run P w = .ok (.value v) w:=by
  have hu:(underlying t).run P w = .ok (.slice e) w:=run_underlying ht w
  unfold execOp
  simp only[ho,Option.map_some,Option.map_none,hx,hy,Instr.sliceAt,Sem.run_bind,hu,hr,Result.andThen,Sem.run_pure]
theorem fg{P:Program}(t e:TypeId)(sz:Nat){i:TypeInfo}(ht:P.underlying t=some (.slice e))(hi:P.info? e=some i)(hsz:i.size=sz)(A:Option Addr)(n c:Nat){lo up:Int}(k h:Nat)(hlo:lo=(k:Int))(hup:up=(h:Int))(hk:k≤h)(hh:h≤n)(hc:n≤c) :
    ∃ A':Option Addr,(∀ (kl kh:IntKind) (W:World),(Instr.slice t (.slice A n c) (some (.int kl lo)) (some (.int kh up)) none).run P W = .ok (.slice A' (h-k) (c-k)) W) ∧
      ∀ {α:Type} (m:Md) (e':TypeId) (R:World→α→List Value→Prop) (w:World) (xs:List α),aK m e' sz R w (.slice A n c) xs→aK m e' sz R w (.slice A' (h-k) (c-k)) ((xs.take h).drop k):=by
  subst hlo hup
  exact tw t e sz ht hi hsz A n c k h hk hh hc
theorem ec{o:Oper}{ev:Operand→Value}{P:Program}{w:World}{t:TypeId}{x y z:Operand}{A:Option Addr}{n c:Nat}{kl kh:IntKind}{lo hi:Int}{v:Value}{e:TypeId}(ho:o.op = .slice t x (some y) (some z) none)(ht:P.underlying t=some (.slice e))(hx:ev x = .slice A n c)(hy:ev y = .int kl lo)(hz:ev z = .int kh hi)
    (hr:(Instr.slice t (.slice A n c) (some (.int kl lo)) (some (.int kh hi)) none).run P w = .ok v w) : (execOp ev o).run P w = .ok (.value v) w:=by
  have hu:(underlying t).run P w = .ok (.slice e) w:=run_underlying ht w
  unfold execOp
  simp only[ho,Option.map_some,Option.map_none,hx,hy,hz,Instr.sliceAt,Sem.run_bind,hu,hr,Result.andThen,Sem.run_pure]
theorem sJ{P:Program}(t e:TypeId)(sz:Nat){i:TypeInfo}(ht:P.underlying t=some (.slice e))(hi:P.info? e=some i)(hsz:i.size=sz)(A:Option Addr)(n c:Nat){lo:Int}(k:Nat)(hlo:lo=(k:Int))(hk:k≤n) :
    ∃ A':Option Addr,(∀ (kl:IntKind) (W:World),(Instr.slice t (.slice A n c) (some (.int kl lo)) none none).run P W = .ok (.slice A' (n-k) (c-k)) W) ∧
      ∀ {α:Type} (m:Md) (e':TypeId) (R:World→α→List Value→Prop) (w:World) (xs:List α),aK m e' sz R w (.slice A n c) xs→aK m e' sz R w (.slice A' (n-k) (c-k)) (xs.drop k):=by
  subst hlo
  exact dv t e sz ht hi hsz A n c k hk
open Go.RowKit
theorem mP{w:World}:Calls Tryz.prog 228 #[] w (bP (.agg (gG 256)) w):=by
 refine en 23 Tryz.func228 rfl<|sg<|L0<|bE (gG 0) fun c G o p q=>ng<|L0<|bE (gG 0) fun a r s t u=>nt<|sq<|sg<|?_
 refine Pl 1<|nt<|bk<|?_
 refine hY (fun x=>[(0,.pointer (some ⟨c,0,none⟩)),(1,.pointer (some ⟨a,0,none⟩)),(4,.int .i64 ((x:Nat) : Int))]) (fun(x:Nat) w'=>aD [a] r w'∧w'.heap[a]? = some (.cells (gG x) 233 (0,0))∧(x≤256)) (fun x=>256-x) 0 ⟨aD.refl _ _,t,(by(try dsimp only);omega)⟩ ?_
 rintro i g ⟨h,v,y⟩
 refine i1 [(0,.pointer (some ⟨c,0,none⟩)),(1,.pointer (some ⟨a,0,none⟩)),(4,.int .i64 ((i:Nat) : Int))] ?_
 have j:g.heap[a]? = some (.cells (gG i) 233 (0,0)):=v
 have H:i≤256:=y
 refine sg<|Pl 1<|nt<|sq<|?_
 have l:=ud u h s
 have m:=aF q l
 refine cb ((decide (((i:Nat) : Int)<256))) (fun e=>?_) (fun e=>?_)
 have z:=of_decide_eq_true e
 refine bi<|sq<|bk<|sg<|Pl 2<|ng<|Pl 1<|L0<|Oe (.int .u16 (IntKind.u16.wrap ((i:Nat) : Int))) (.int .u16 ((fa 0 i:Nat) : Int)) (congrArg (Value.int .u16) (gN (x:=((i:Nat) : Int)) (by omega)))<|Pl 1<|nl<|?_
 refine tn<|sq<|sg<|Pl 1<|nt<|bk<|?_
 refine hY (fun x=>[(0,.pointer (some ⟨c,0,none⟩)),(1,.pointer (some ⟨a,0,none⟩)),(2,.int .i64 ((i:Nat) : Int)),(3,.int .u16 ((fa x i:Nat) : Int)),(4,.int .i64 ((i:Nat) : Int)),(5,.bool (decide (((i:Nat) : Int)<256))),(6,.int .i64 ((i:Nat) : Int)),(7,.int .i64 ((i:Nat) : Int)),(8,.int .u16 ((fa 0 i:Nat) : Int)),(9,.int .i64 ((x:Nat) : Int))]) (fun(x:Nat) w'=>aD [] g w'∧(x≤8)) (fun x=>8-x) 0 ⟨aD.refl _ _,(by(try dsimp only);omega)⟩ ?_
 rintro k I ⟨d,A⟩
 refine i1 [(0,.pointer (some ⟨c,0,none⟩)),(1,.pointer (some ⟨a,0,none⟩)),(2,.int .i64 ((i:Nat) : Int)),(3,.int .u16 ((fa k i:Nat) : Int)),(4,.int .i64 ((i:Nat) : Int)),(5,.bool (decide (((i:Nat) : Int)<256))),(6,.int .i64 ((i:Nat) : Int)),(7,.int .i64 ((i:Nat) : Int)),(8,.int .u16 ((fa 0 i:Nat) : Int)),(9,.int .i64 ((k:Nat) : Int))] ?_
 have J:k≤8:=A
 have K:=gS (x:=i) (by omega) k
 refine sg<|Pl 1<|nt<|sq<|?_
 have L:=aF m d
 refine cb ((decide (((k:Nat) : Int)<8))) (fun f=>?_) (fun f=>?_)
 have B:=of_decide_eq_true f
 refine bi<|sq<|bk<|go<|Pl 1<|L0<|Oe (.int .u16 (Int.fdiv ((fa k i:Nat) : Int) (2 ^ 1))) (.int .u16 (((fa k i:Nat) : Int)/2)) (congrArg (Value.int .u16) (mQ _ _ _ (by decide)))<|Pl 1<|L0<|Oe (.int .u16 (bits .and .u16 ((fa k i:Nat) : Int) 1)) (.int .u16 (((fa k i:Nat) : Int)%2)) (congrArg (Value.int .u16) (sX (by omega)))<|Pl 1<|L0<|Oe (.int .u16 (bits .xor .u16 (((fa k i:Nat) : Int)/2) (((((fa k i:Nat) : Int)%2)*40961)%65536))) (.int .u16 ((fa (k+1) i:Nat) : Int)) (congrArg (Value.int .u16) ((nh (by omega) (by omega)).trans (uU _)))<|Pl 1<|nl<|bn<|?_
 exact tn<|go<|L0<|Oi (((k:Nat) : Int)+1)<|Pl 1<|nl<|fF (k+1) ⟨d,(by(try dsimp only);omega)⟩ (by omega)
 have B:=of_decide_eq_false f
 refine xt<|tx<|tx<|bx<|tn<|go<|Pl 2<|L0<|zy (b:=a) (off:=0) 256 i ((i:Nat) : Int) rfl (by omega)<|?_
 refine L0<|bX (hl:=(by rw[e9];simp;omega)) (ub d j) (0+i) ((gG i).setIfInBounds (0+i) (.int .u16 ((fa k i:Nat) : Int))) fun M C D=>?_
 have n:=C
 rw[Nat.zero_add,tM (by omega) (by omega)] at n
 refine nl<|bn<|tn<|go<|L0<|Oi (((i:Nat) : Int)+1)<|Pl 1<|nl<|?_
 exact fF (i+1) ⟨(u1 h (uz d D) im),n,(by(try dsimp only);omega)⟩ (by omega)
 have z:=of_decide_eq_false e
 refine xt<|tx<|tx<|bx<|tn<|sg<|L0<|ci (hz:=(by rw[e9];kernel_rfl)) j<|?_
 refine L0<|aW (hz:=(by rw[e9];kernel_rfl)) (hv:=(by rw[e9,e9])) (h1:=(nE _)) (ub l p) ((gG i)) fun N E F=>nt<|rt<|yD 256 (e9 _) E<|?_
 have hi:i=256:=by omega
 subst hi
 exact⟨rfl,(ud m F o)⟩
theorem nj{m:Md}{A:Option Addr}{cp:Nat}{b:List Int}{w:World}{s:Int}(hsl:aT m w (.slice A b.length cp) b)(hs:0≤s∧s<65536) :
    Calls Tryz.prog 180 #[.int .u16 s,.slice A b.length cp] w (bP (.int .u16 (cW s b)) w):=by
 have hln:=aK.len hsl
 have hb:=aT.range hsl
 refine en 26 Tryz.func180 rfl<|sg<|Pl 1<|ng<|L0<|Oc<|m1 (@mP w) fun D g=>L0<|bE (gG 0) fun c E h j l=>L0<|aW (hz:=(by rw[e9];kernel_rfl)) (hv:=(by rw[e9,e9])) (h1:=(nE _)) j ((gG 256)) fun n o q=>nt<|sq<|?_
 refine sg<|Pl 3<|nt<|bk<|?_
 refine hY (fun x=>[(0,.int .u16 (dN s b x)),(4,.int .u16 0),(5,.pointer (some ⟨c,0,none⟩)),(9,.slice A b.length cp),(10,.int .i64 ((b.length:Nat) : Int)),(11,.int .i64 ((x:Nat) : Int))]) (fun(x:Nat) w'=>aD [] n w'∧(x≤b.length)∧(0≤dN s b x∧dN s b x<65536)) (fun x=>b.length-x) 0 ⟨aD.refl _ _,(by(try dsimp only);omega),hs⟩ ?_
 rintro k F ⟨d,r,t⟩
 refine i1 [(0,.int .u16 (dN s b k)),(4,.int .u16 0),(5,.pointer (some ⟨c,0,none⟩)),(9,.slice A b.length cp),(10,.int .i64 ((b.length:Nat) : Int)),(11,.int .i64 ((k:Nat) : Int))] ?_
 have G:k≤b.length:=r
 have H:0≤dN s b k∧dN s b k<65536:=t
 refine sg<|Pl 1<|nt<|sq<|?_
 have f:=aF g (ud l (aF q d) h)
 refine cb ((decide (((k:Nat) : Int)<((b.length:Nat) : Int)))) (fun e=>?_) (fun e=>?_)
 have u:=of_decide_eq_true e
 refine bi<|sq<|bk<|sg<|?_
 refine eJ (aT.at_ (aT.old hsl f) k (by omega)) fun y z B C I=>L0<|iZ b.length k B (by omega)<|L0<|dY (p:=⟨y,z+k,none⟩) (v:=.int .u8 (b.getD k 0)) C<|Pl 1<|nt<|go<|Pl 1<|L0<|Oe (.int .u16 (Int.fdiv (dN s b k) (2 ^ 8))) (.int .u16 ((dN s b k)/256)) (congrArg (Value.int .u16) (mQ _ _ _ (by decide)))<|Pl 3<|?_
 have J:=zH (a:=((dN s b k)%256)) (b:=(b.getD k 0)) (by omega) (by omega)
 refine L0<|Oe (.int .u8 (bits .xor .u8 ((dN s b k)%256) (b.getD k 0))) (.int .u8 (xi ((dN s b k)%256) (b.getD k 0))) (congrArg (Value.int .u8) (yi (by omega) (by omega)))<|L0<|zy (b:=c) (off:=0) 256 (((xi ((dN s b k)%256) (b.getD k 0))).toNat) (xi ((dN s b k)%256) (b.getD k 0)) (by omega) (by omega)<|?_
 have K:=nO (i:=(xi ((dN s b k)%256) (b.getD k 0))) (by omega)
 exact L0<|dY (p:=⟨c,0+((xi ((dN s b k)%256) (b.getD k 0))).toNat,none⟩) (v:=.int .u16 (jB ((xi ((dN s b k)%256) (b.getD k 0))))) (ag (ub d o) (by rw[Nat.zero_add,w9 (by omega),uB (by omega)]))<|L0<|Oe (.int .u16 (bits .xor .u16 ((dN s b k)/256) (jB (xi ((dN s b k)%256) (b.getD k 0))))) (.int .u16 (dN s b (k+1))) (congrArg (Value.int .u16) (nh (by omega) (nO (by omega))))<|Pl 1<|nl<|bn<|tn<|go<|L0<|Oi (((k:Nat) : Int)+1)<|Pl 1<|nl<|fF (k+1) ⟨d,(by(try dsimp only);omega),(iT hs hb _)⟩ (by omega)
 have u:=of_decide_eq_false e
 refine xt<|tx<|tx<|bx<|tn<|sg<|Pl 2<|nt<|rt<|rr (.int .u16 (dN s b k))<|?_
 have hk:dN s b k=cW s b:=oN (by omega)
 rw[hk]
 exact⟨rfl,f⟩
theorem nT{m:Md}{v:Value}{b:List Int}{w:World}(h:aT m w v b) : Calls Tryz.prog 180 #[.int .u16 65535,v] w (bP (.int .u16 (cW 65535 b)) w):=by
  obtain⟨A,cp,rfl,_,_⟩:=h.shape
  exact nj h (by decide)
theorem p5{m:Md}{A:Option Addr}{cp:Nat}{b:List Int}{w:World}(hsl:aT m w (.slice A b.length cp) b) :
    Calls Tryz.prog 119 #[.slice A b.length cp] w (bP (.int .u16 (cW 65535 b)) w):=by
 refine en 5 Tryz.func119 rfl<|sg<|Pl 1<|ng<|Pl 1<|L0<|Oc<|m1 (nT hsl) fun c a=>Pl 1<|nt<|rt<|?_
 refine rr (.int .u16 (cW 65535 b))<|?_
 exact⟨rfl,a⟩
theorem m6{m:Md}{v:Value}{b:List Int}{w:World}(h:aT m w v b) : Calls Tryz.prog 119 #[v] w (bP (.int .u16 (cW 65535 b)) w):=by
  obtain⟨A,cp,rfl,_,_⟩:=h.shape
  exact p5 h
theorem io{w:World}{s:Int}(hs:0≤s∧s<65536) : Calls Tryz.prog 118 #[.int .u16 s] w (fun e w'=>∃ v,e = .returned v∧eq w.heap.size w' v (cQ s)∧aD [] w w'):=by
 refine en 9 Tryz.func118 rfl<|sg<|Pl 1<|ng<|Pl 3<|L0<|Oe (.int .u16 (Int.fdiv s (2 ^ 8))) (.int .u16 (s/256)) (congrArg (Value.int .u16) (mQ _ _ _ (by decide)))<|Pl 1<|L0<|dD (m:=2) (e:=5) #[.int .u8 (s%256),.int .u8 ((s/256)%256)] fun a g b c d=>?_
 have f:=dR b (xs:=[(s%256),((s/256)%256)]) (by as_aux_lemma=>kernel_rfl) (az (by omega) (az (by omega) aZ)) (by(try simp only[List.length_cons,List.length_nil]);omega) c
 refine Pl 1<|nt<|rt<|rr (.slice (some ⟨a,0,none⟩) 2 2)<|?_
 exact⟨_,rfl,f,d⟩
theorem jK{b:List Int}{n:Nat}(h:2≤b.length)(hn:n=b.length-2) : dI b=decide (cQ (cW 65535 (b.take n))=b.drop n):=by
  subst hn
  unfold dI
  simp[h]
theorem v8{b:List Int}(h:b.length<2) : dI b=false:=by
  unfold dI
  simp
  omega
theorem pi{m:Md}{A:Option Addr}{cp:Nat}{b:List Int}{w:World}(hsl:aT m w (.slice A b.length cp) b)(hb:b.length≤1048576)(hcp:b.length≤cp) :
    Calls Tryz.prog 116 #[.slice A b.length cp] w (bP (.bool (dI b)) w):=by
 have hc:=aK.len hsl
 refine en 22 Tryz.func116 rfl<|sg<|Pl 1<|ng<|Pl 2<|L0<|Oi (((b.length:Nat) : Int)-2)<|Pl 1<|nt<|sq<|?_
 refine Rg 16 (fun w'=>True) fun R f=>bg trivial fun d=>Rt 0 d<|Rt 1 d<|Rt 2 d<|rN 9 ((decide (0≤(((b.length:Nat) : Int)-2)))) (fun p=>?_) (fun p=>?_)
 have I:=of_decide_eq_true p
 refine Rt 3 d<|Rt 4 d<|jW (wy (P:=Tryz.prog) 22 5 1 Tryz.underlying22 rfl rfl A b.length cp (k:=(((b.length:Nat) : Int)-2)) (((((b.length:Nat) : Int)-2)).toNat) (by omega) (by omega) (by omega)) fun q hrun60 i=>Rr 5 d (.slice q (((((b.length:Nat) : Int)-2)).toNat) cp) (fun _ _=>nB (kl:=.i64) (k:=(((b.length:Nat) : Int)-2)) (A:=A) (n:=b.length) (c:=cp) rfl Tryz.underlying22 (by kernel_rfl) (by kernel_rfl) (hrun60 _ _))<|Rt 9 d<|Rt 10 d<|jW (sJ (P:=Tryz.prog) 22 5 1 Tryz.underlying22 rfl rfl A b.length cp (lo:=(((b.length:Nat) : Int)-2)) (((((b.length:Nat) : Int)-2)).toNat) (by omega) (by omega)) fun g hrun63 e=>Rr 11 d (.slice g (b.length-(((((b.length:Nat) : Int)-2)).toNat)) (cp-(((((b.length:Nat) : Int)-2)).toNat))) (fun _ _=>dM (kl:=.i64) (k:=(((b.length:Nat) : Int)-2)) (A:=A) (n:=b.length) (c:=cp) rfl Tryz.underlying22 (by kernel_rfl) (by kernel_rfl) (hrun63 _ _))<|?_
 refine R2 6 12 rfl rfl ?_ ?_
 have h:=aT.old hsl f
 refine  Oc (args:=#[.slice q (((((b.length:Nat) : Int)-2)).toNat) cp])<|m1 (m6 (i _ _ _ _ _ h)) fun S j=>?_
 have T:=iD (b.take (((((b.length:Nat) : Int)-2)).toNat)) (s:=65535) (by decide) (aT.range (i _ _ _ _ _ h))
 refine bg trivial fun U=>?_
 refine R2 7 12 rfl rfl ?_ ?_
 refine  Oc<|ej (io (s:=(cW 65535 (b.take (((((b.length:Nat) : Int)-2)).toNat)))) (by omega)) fun x y V l W X z=>bg trivial fun Y=>?_
 refine R2 8 12 rfl rfl ?_ ?_
 refine  g9 (.string (strOfNums (cQ (cW 65535 (b.take (((((b.length:Nat) : Int)-2)).toNat)))))) (cL (A:=x) (n:=(cQ (cW 65535 (b.take (((((b.length:Nat) : Int)-2)).toNat)))).length) (c:=y) rfl (by kernel_rfl) Tryz.underlying22 Tryz.underlying5 Tryz.underlying9 (l).rd)<|bg trivial fun Z=>?_
 have B:=aF j z
 have C:=aT.old h B
 refine R0 12 rfl<|g9 (.string (strOfNums (b.drop (((((b.length:Nat) : Int)-2)).toNat)))) (cL (A:=g) (n:=(b.length-(((((b.length:Nat) : Int)-2)).toNat))) (c:=(cp-(((((b.length:Nat) : Int)-2)).toNat))) rfl (by kernel_rfl) Tryz.underlying22 Tryz.underlying5 Tryz.underlying9 (e _ _ _ _ _ C))<|bg trivial fun r=>Rr 13 r (.bool (decide ((cQ (cW 65535 (b.take (((((b.length:Nat) : Int)-2)).toNat))))=(b.drop (((((b.length:Nat) : Int)-2)).toNat))))) (fun _ _=>eY (a:=(strOfNums (cQ (cW 65535 (b.take (((((b.length:Nat) : Int)-2)).toNat)))))) (b:=(strOfNums (b.drop (((((b.length:Nat) : Int)-2)).toNat)))) rfl (by kernel_rfl) (by kernel_rfl) (iv (l).rd (e _ _ _ _ _ C)))<|Rt 14 r<|Rt 15 r<|re<|tn<|rt<|rr (.bool (decide ((cQ (cW 65535 (b.take (((((b.length:Nat) : Int)-2)).toNat))))=(b.drop (((((b.length:Nat) : Int)-2)).toNat)))))<|?_
 have hs:dI b=(decide ((cQ (cW 65535 (b.take (((((b.length:Nat) : Int)-2)).toNat))))=(b.drop (((((b.length:Nat) : Int)-2)).toNat)))):=(jK (by omega) (by omega))
 rw[hs]
 exact⟨rfl,(aF f B)⟩
 have D:=aF j z
 have E:=aT.old h D
 refine  g9 (.string (strOfNums (b.drop (((((b.length:Nat) : Int)-2)).toNat)))) (cL (A:=g) (n:=(b.length-(((((b.length:Nat) : Int)-2)).toNat))) (c:=(cp-(((((b.length:Nat) : Int)-2)).toNat))) rfl (by kernel_rfl) Tryz.underlying22 Tryz.underlying5 Tryz.underlying9 (e _ _ _ _ _ E))<|bg trivial fun a0=>R0 8 rfl<|g9 (.string (strOfNums (cQ (cW 65535 (b.take (((((b.length:Nat) : Int)-2)).toNat)))))) (cL (A:=x) (n:=(cQ (cW 65535 (b.take (((((b.length:Nat) : Int)-2)).toNat)))).length) (c:=y) rfl (by kernel_rfl) Tryz.underlying22 Tryz.underlying5 Tryz.underlying9 (l).rd)<|bg trivial fun t=>Rr 13 t (.bool (decide ((cQ (cW 65535 (b.take (((((b.length:Nat) : Int)-2)).toNat))))=(b.drop (((((b.length:Nat) : Int)-2)).toNat))))) (fun _ _=>eY (a:=(strOfNums (cQ (cW 65535 (b.take (((((b.length:Nat) : Int)-2)).toNat)))))) (b:=(strOfNums (b.drop (((((b.length:Nat) : Int)-2)).toNat)))) rfl (by kernel_rfl) (by kernel_rfl) (iv (l).rd (e _ _ _ _ _ E)))<|Rt 14 t<|Rt 15 t<|re<|tn<|rt<|rr (.bool (decide ((cQ (cW 65535 (b.take (((((b.length:Nat) : Int)-2)).toNat))))=(b.drop (((((b.length:Nat) : Int)-2)).toNat)))))<|?_
 have hs:dI b=(decide ((cQ (cW 65535 (b.take (((((b.length:Nat) : Int)-2)).toNat))))=(b.drop (((((b.length:Nat) : Int)-2)).toNat)))):=(jK (by omega) (by omega))
 rw[hs]
 exact⟨rfl,(aF f D)⟩
 have F:=aT.old h j
 refine  g9 (.string (strOfNums (b.drop (((((b.length:Nat) : Int)-2)).toNat)))) (cL (A:=g) (n:=(b.length-(((((b.length:Nat) : Int)-2)).toNat))) (c:=(cp-(((((b.length:Nat) : Int)-2)).toNat))) rfl (by kernel_rfl) Tryz.underlying22 Tryz.underlying5 Tryz.underlying9 (e _ _ _ _ _ F))<|bg trivial fun a1=>R0 7 rfl<|Oc<|ej (io (s:=(cW 65535 (b.take (((((b.length:Nat) : Int)-2)).toNat)))) (by omega)) fun J K a2 G a3 a4 L=>bg trivial fun a5=>R0 8 rfl<|g9 (.string (strOfNums (cQ (cW 65535 (b.take (((((b.length:Nat) : Int)-2)).toNat)))))) (cL (A:=J) (n:=(cQ (cW 65535 (b.take (((((b.length:Nat) : Int)-2)).toNat)))).length) (c:=K) rfl (by kernel_rfl) Tryz.underlying22 Tryz.underlying5 Tryz.underlying9 (G).rd)<|bg trivial fun u=>Rr 13 u (.bool (decide ((cQ (cW 65535 (b.take (((((b.length:Nat) : Int)-2)).toNat))))=(b.drop (((((b.length:Nat) : Int)-2)).toNat))))) (fun _ _=>eY (a:=(strOfNums (cQ (cW 65535 (b.take (((((b.length:Nat) : Int)-2)).toNat)))))) (b:=(strOfNums (b.drop (((((b.length:Nat) : Int)-2)).toNat)))) rfl (by kernel_rfl) (by kernel_rfl) (iv (G).rd (e _ _ _ _ _ F)))<|Rt 14 u<|Rt 15 u<|re<|tn<|rt<|rr (.bool (decide ((cQ (cW 65535 (b.take (((((b.length:Nat) : Int)-2)).toNat))))=(b.drop (((((b.length:Nat) : Int)-2)).toNat)))))<|?_
 have hs:dI b=(decide ((cQ (cW 65535 (b.take (((((b.length:Nat) : Int)-2)).toNat))))=(b.drop (((((b.length:Nat) : Int)-2)).toNat)))):=(jK (by omega) (by omega))
 rw[hs]
 exact⟨rfl,(aF f (aF j L))⟩
 have o:=aT.old hsl f
 refine  g9 (.string (strOfNums (b.drop (((((b.length:Nat) : Int)-2)).toNat)))) (cL (A:=g) (n:=(b.length-(((((b.length:Nat) : Int)-2)).toNat))) (c:=(cp-(((((b.length:Nat) : Int)-2)).toNat))) rfl (by kernel_rfl) Tryz.underlying22 Tryz.underlying5 Tryz.underlying9 (e _ _ _ _ _ o))<|bg trivial fun a6=>R0 6 rfl<|Oc (args:=#[.slice q (((((b.length:Nat) : Int)-2)).toNat) cp])<|m1 (m6 (i _ _ _ _ _ o)) fun a7 M=>?_
 have a8:=iD (b.take (((((b.length:Nat) : Int)-2)).toNat)) (s:=65535) (by decide) (aT.range (i _ _ _ _ _ o))
 refine bg trivial fun a9=>R0 7 rfl<|Oc<|ej (io (s:=(cW 65535 (b.take (((((b.length:Nat) : Int)-2)).toNat)))) (by omega)) fun N O aa H ab ac Q=>bg trivial fun ad=>R0 8 rfl<|g9 (.string (strOfNums (cQ (cW 65535 (b.take (((((b.length:Nat) : Int)-2)).toNat)))))) (cL (A:=N) (n:=(cQ (cW 65535 (b.take (((((b.length:Nat) : Int)-2)).toNat)))).length) (c:=O) rfl (by kernel_rfl) Tryz.underlying22 Tryz.underlying5 Tryz.underlying9 (H).rd)<|bg trivial fun v=>Rr 13 v (.bool (decide ((cQ (cW 65535 (b.take (((((b.length:Nat) : Int)-2)).toNat))))=(b.drop (((((b.length:Nat) : Int)-2)).toNat))))) (fun _ _=>eY (a:=(strOfNums (cQ (cW 65535 (b.take (((((b.length:Nat) : Int)-2)).toNat)))))) (b:=(strOfNums (b.drop (((((b.length:Nat) : Int)-2)).toNat)))) rfl (by kernel_rfl) (by kernel_rfl) (iv (H).rd (e _ _ _ _ _ o)))<|Rt 14 v<|Rt 15 v<|re<|tn<|rt<|rr (.bool (decide ((cQ (cW 65535 (b.take (((((b.length:Nat) : Int)-2)).toNat))))=(b.drop (((((b.length:Nat) : Int)-2)).toNat)))))<|?_
 have hs:dI b=(decide ((cQ (cW 65535 (b.take (((((b.length:Nat) : Int)-2)).toNat))))=(b.drop (((((b.length:Nat) : Int)-2)).toNat)))):=(jK (by omega) (by omega))
 rw[hs]
 exact⟨rfl,(aF f (aF M Q))⟩
 have I:=of_decide_eq_false p
 refine Ro 3 d<|Ro 4 d<|Ro 5 d<|Ro 6 d<|Ro 7 d<|Ro 8 d<|Ro 9 d<|Ro 10 d<|Ro 11 d<|Ro 12 d<|Ro 13 d<|Rt 14 d<|Rt 15 d<|re<|?_
 refine tn<|rt<|rr (.bool false)<|?_
 have hs:dI b=false:=(v8 (by omega))
 rw[hs]
 exact⟨rfl,f⟩
theorem sD{m:Md}{v:Value}{b:List Int}{w:World}(h:aT m w v b)(hb:b.length≤1048576) : Calls Tryz.prog 116 #[v] w (bP (.bool (dI b)) w):=by
  obtain⟨A,cp,rfl,hc,_⟩:=h.shape
  exact pi h hb hc
open Go.RowKit
def gl (b:List Int) : List Int:=(b.take (b.length-2)).drop 1
theorem gt(b:List Int) : gl b=(b.take (((b.length:Nat) : Int)-2).toNat).drop 1:=by
  unfold gl
  rw[show(((b.length:Nat) : Int)-2).toNat=b.length-2 from by omega]
def dW (dir:Int)(b:List Int) : d7 × Int :=
  if dir != 0&&dir != 1 then (d7.zero,1)
  else if decide ((b.length:Int)<4) then (d7.zero,2)
  else if decide (256<(b.length:Int)) then (d7.zero,3)
  else if !(dI b) then (d7.zero,10)
  else bY (b.getD 0 0) 0 (cZ dir (gl b))
theorem pm{m:Md}{A:Option Addr}{cp:Nat}{b:List Int}{w:World}{dir:Int}(hsl:aT m w (.slice A b.length cp) b)(hb:b.length≤1048576)(hcp:b.length≤cp) :
    Calls Tryz.prog 50 #[.int .i64 dir,.slice A b.length cp] w (jO (dW dir b) w):=by
 have hln:(b.length:Int)≤1048576:=by omega
 refine en 51 Tryz.func50 rfl<|sg<|L0<|bE #[.int .u8 0,.int .u16 0,.int .u8 0,.int .u8 0,.int .u16 0,.int .u16 0,.int .u16 0,.int .u16 0,.int .u16 0,.int .u16 0,.int .u16 0,.int .u16 0,.int .u16 0,.int .u16 0,.slice none 0 0,.slice none 0 0,.slice none 0 0,.slice none 0 0,.int .u8 0,.int .u8 0,.int .u8 0,.int .u8 0,.int .u8 0,.slice none 0 0] fun aZ b0 j e B=>Pl 1<|nt<|sq<|bk<|sg<|Pl 3<|cu 3 [11] 14 (((dir != 0)&&(dir != 1))) (fun K O=>?_) ?_
 refine bl 11 ((dir != 0)) (fun C=>?_) (fun C=>?_)
 have a7:=aq C
 exact Pl 3<|ce O (dir != 1) (by rw[C];rfl)
 have a7:=ai C
 exact Pl 3<|ce O false (by rw[C];rfl)
 refine Pl 1<|nt<|cb (((dir != 0)&&(dir != 1))) (fun d=>?_) (fun d=>?_)
 have Q:=(aR d).1
 have R:=(aR d).2
 have b1:=aq Q
 have b2:=aq R
 refine sg<|Pl 1<|L0<|aW e #[.int .u8 0,.int .u16 0,.int .u8 0,.int .u8 0,.int .u16 0,.int .u16 0,.int .u16 0,.int .u16 0,.int .u16 0,.int .u16 0,.int .u16 0,.int .u16 0,.int .u16 0,.int .u16 0,.slice none 0 0,.slice none 0 0,.slice none 0 0,.slice none 0 0,.int .u8 0,.int .u8 0,.int .u8 0,.int .u8 0,.int .u8 0,.slice none 0 0] fun b3 a8 a9=>Pl 1<|nt<|rt<|br<|tr<|bz a8 (.int .i64 1)<|?_
 have hs:dW dir b=(d7.zero,1):=by
   unfold dW
   (try simp only[d,Q,R,bs,if_true,if_false,decide_true,decide_false,bY,reduceIte])
   all_goals rfl
 refine dh hs ?_
 exact cw (ud B a9 j)
 refine sg<|Pl 4<|nt<|cb ((decide (((b.length:Nat) : Int)<4))) (fun f=>?_) (fun f=>?_)
 have aa:=of_decide_eq_true f
 refine sg<|Pl 1<|L0<|aW e #[.int .u8 0,.int .u16 0,.int .u8 0,.int .u8 0,.int .u16 0,.int .u16 0,.int .u16 0,.int .u16 0,.int .u16 0,.int .u16 0,.int .u16 0,.int .u16 0,.int .u16 0,.int .u16 0,.slice none 0 0,.slice none 0 0,.slice none 0 0,.slice none 0 0,.int .u8 0,.int .u8 0,.int .u8 0,.int .u8 0,.int .u8 0,.slice none 0 0] fun b4 ab ac=>Pl 1<|nt<|rt<|br<|tr<|bz ab (.int .i64 2)<|?_
 have hs:dW dir b=(d7.zero,2):=by
   unfold dW
   (try simp only[d,f,bs,if_true,if_false,decide_true,decide_false,bY,reduceIte])
   all_goals rfl
 refine dh hs ?_
 exact cw (ud B ac j)
 have aa:=of_decide_eq_false f
 refine sg<|Pl 4<|nt<|cb ((decide (256<((b.length:Nat) : Int)))) (fun h=>?_) (fun h=>?_)
 have ad:=of_decide_eq_true h
 refine sg<|Pl 1<|L0<|aW e #[.int .u8 0,.int .u16 0,.int .u8 0,.int .u8 0,.int .u16 0,.int .u16 0,.int .u16 0,.int .u16 0,.int .u16 0,.int .u16 0,.int .u16 0,.int .u16 0,.int .u16 0,.int .u16 0,.slice none 0 0,.slice none 0 0,.slice none 0 0,.slice none 0 0,.int .u8 0,.int .u8 0,.int .u8 0,.int .u8 0,.int .u8 0,.slice none 0 0] fun b5 ae af=>Pl 1<|nt<|rt<|br<|tr<|bz ae (.int .i64 3)<|?_
 have hs:dW dir b=(d7.zero,3):=by
   unfold dW
   (try simp only[d,f,h,bs,if_true,if_false,decide_true,decide_false,bY,reduceIte])
   all_goals rfl
 refine dh hs ?_
 exact cw (ud B af j)
 have ad:=of_decide_eq_false h
 refine sg<|Pl 1<|?_
 have S:=aT.old hsl B
 refine L0<|Oc (args:=#[.slice A b.length cp])<|m1 (sD S (by omega)) fun ag i=>Pl 2<|nt<|?_
 have T:=aF B i
 refine cb ((!(dI b))) (fun k=>?_) (fun k=>?_)
 have G:(dI b)=false:=by simpa using k
 refine sg<|Pl 1<|?_
 refine L0<|aW (ub i e) #[.int .u8 0,.int .u16 0,.int .u8 0,.int .u8 0,.int .u16 0,.int .u16 0,.int .u16 0,.int .u16 0,.int .u16 0,.int .u16 0,.int .u16 0,.int .u16 0,.int .u16 0,.int .u16 0,.slice none 0 0,.slice none 0 0,.slice none 0 0,.slice none 0 0,.int .u8 0,.int .u8 0,.int .u8 0,.int .u8 0,.int .u8 0,.slice none 0 0] fun b6 ah aj=>Pl 1<|nt<|rt<|br<|tr<|bz ah (.int .i64 10)<|?_
 have hs:dW dir b=(d7.zero,10):=by
   unfold dW
   (try simp only[d,f,h,k,G,bs,if_true,if_false,decide_true,decide_false,bY,reduceIte])
   all_goals rfl
 refine dh hs ?_
 exact cw (ud T aj j)
 have G:(dI b)=true:=by simpa using k
 refine sk<|bn<|tn<|sg<|Pl 4<|L0<|Oi (((b.length:Nat) : Int)-2)<|jW (fg (P:=Tryz.prog) 22 5 1 Tryz.underlying22 rfl rfl A b.length cp (lo:=1) (up:=(((b.length:Nat) : Int)-2)) 1 (((((b.length:Nat) : Int)-2)).toNat) (by omega) (by omega) (by omega) (by omega) (by omega)) fun al hrun43 an=>L0<|g9 (.slice al ((((((b.length:Nat) : Int)-2)).toNat)-1) (cp-1)) (ec (kl:=.i64) (kh:=.i64) (lo:=1) (hi:=(((b.length:Nat) : Int)-2)) (A:=A) (n:=b.length) (c:=cp) rfl Tryz.underlying22 (by kernel_rfl) (by kernel_rfl) (by kernel_rfl) (hrun43 _ _ _))<|?_
 obtain⟨a,D,L⟩ : ∃ M E,cZ dir ((b.take (((((b.length:Nat) : Int)-2)).toNat)).drop 1)=(M,E):=⟨_,_,rfl⟩
 have U:=aT.old S i
 have V:=jf (dir:=dir) (w:=ag) (an _ _ _ _ _ U) (by rw[List.length_drop,List.length_take];omega)
 rw[L] at V
 refine L0<|Oc<|e2 V fun ao b7 W N=>?_
 have ap:=W
 obtain⟨ar,au,av,aw,ax,ay,az,aA,aC,aD,aE,b9⟩:=ap
 obtain rfl:ao=(bM a ar au av aw ax).toArray:=by apply Array.toList_inj.1;simpa using ay
 obtain⟨l,o,rfl,_,_⟩:=az.shape
 obtain⟨p,q,rfl,_,_⟩:=aA.shape
 obtain⟨r,s,rfl,_,_⟩:=aC.shape
 obtain⟨t,u,rfl,_,_⟩:=aD.shape
 obtain⟨v,y,rfl,_,_⟩:=aE.shape
 refine Pl 3<|L0<|bE mZ fun X ba Y aH aI=>L0<|aW aH (mG a.code a.fail a.addr a.count a.value a.and_ a.or_ a.addr2 a.sub a.status a.events a.messages (.slice l a.words.length o) (.slice p a.bits.length q) (.slice r a.data.length s) (.slice t a.recs.length u) a.mei a.kind a.level a.more a.next (.slice v a.objects.length y)) fun bb aJ aK=>Pl 1<|nt<|sq<|sg<|Pl 2<|nt<|?_
 have Z:=ud aI aK Y
 have H:=aF N Z
 have a0:=aF T H
 refine cb ((D != 0)) (fun F=>?_) (fun F=>?_)
 have aN:=aq F
 refine sg<|Pl 2<|?_
 refine L0<|aW (ub (aF i H) e) #[.int .u8 0,.int .u16 0,.int .u8 0,.int .u8 0,.int .u16 0,.int .u16 0,.int .u16 0,.int .u16 0,.int .u16 0,.int .u16 0,.int .u16 0,.int .u16 0,.int .u16 0,.int .u16 0,.slice none 0 0,.slice none 0 0,.slice none 0 0,.slice none 0 0,.int .u8 0,.int .u8 0,.int .u8 0,.int .u8 0,.int .u8 0,.slice none 0 0] fun bc aO aP=>Pl 1<|nt<|rt<|tr<|bz aO (.int .i64 D)<|?_
 have hX2:cZ dir (gl b)=(a,D):=(congrArg (cZ dir) (gt b)).trans L
 have hs:dW dir b=(d7.zero,D):=by
   unfold dW
   (try simp only[d,f,h,k,G,F,bs,if_true,if_false,decide_true,decide_false,bY,hX2,reduceIte])
   all_goals rfl
 refine dh hs ?_
 exact cw (ud a0 aP j)
 have aN:=ai F
 refine bi<|sq<|?_
 refine eJ (aT.at_ (aT.old U H) 0 (by omega)) fun aQ aS a1 aU bd=>Rg 8 (fun w'=>w'.cell? ⟨aQ,aS+0,none⟩=some (.int .u8 (b.getD 0 0))∧w'.heap[X]? = some (.cells (mG a.code a.fail a.addr a.count a.value a.and_ a.or_ a.addr2 a.sub a.status a.events a.messages (.slice l a.words.length o) (.slice p a.bits.length q) (.slice r a.data.length s) (.slice t a.recs.length u) a.mei a.kind a.level a.more a.next (.slice v a.objects.length y)) 30 (0,0))) fun be I=>?_
 have a2:=ub I aJ
 refine bg ⟨(uc I aU),a2⟩ fun z=>Rt 0 z<|kU 1 z b.length 0 0 rfl a1 (by omega)<|Rl 2 z (fun _ hs=>hs.1)<|Rt 3 z<|Rr 4 z (.agg (mG a.code a.fail a.addr a.count a.value a.and_ a.or_ a.addr2 a.sub a.status a.events a.messages (.slice l a.words.length o) (.slice p a.bits.length q) (.slice r a.data.length s) (.slice t a.recs.length u) a.mei a.kind a.level a.more a.next (.slice v a.objects.length y))) (fun w' hs=>gM (g:=X) (off:=0) [.int .u8 a.code,.int .u8 a.fail,.int .u16 a.addr,.int .u16 a.count,.int .u16 a.value,.int .u16 a.and_,.int .u16 a.or_,.int .u16 a.addr2,.int .u16 a.sub,.int .u16 a.status,.int .u16 a.events,.int .u16 a.messages,.slice l a.words.length o,.slice p a.bits.length q,.slice r a.data.length s,.slice t a.recs.length u,.int .u8 a.mei,.int .u8 a.kind,.int .u8 a.level,.int .u8 a.more,.int .u8 a.next,.slice v a.objects.length y] rfl (by kernel_rfl) hs.2 (by kernel_rfl) (by kernel_rfl) rfl)<|Rt 5 z<|?_
 have a3:=aF H I
 have a4:=aF i a3
 refine R0 6 rfl<|aW (ub a4 e) #[.int .u8 (b.getD 0 0),.int .u16 0,.int .u8 a.code,.int .u8 a.fail,.int .u16 a.addr,.int .u16 a.count,.int .u16 a.value,.int .u16 a.and_,.int .u16 a.or_,.int .u16 a.addr2,.int .u16 a.sub,.int .u16 a.status,.int .u16 a.events,.int .u16 a.messages,.slice l a.words.length o,.slice p a.bits.length q,.slice r a.data.length s,.slice t a.recs.length u,.int .u8 a.mei,.int .u8 a.kind,.int .u8 a.level,.int .u8 a.more,.int .u8 a.next,.slice v a.objects.length y] fun bf aV J=>?_
 have a5:=uz I J
 have bh:=uz a3 J
 have bj:=uz a4 J
 have a6:=ud a0 a5 j
 refine bg ⟨(cB (aT.old hsl a6) a1 0 (by omega)),(aX J (Ne.symm (nb (am e) (le i.size N.size) Y)) a2)⟩ fun aY=>Rt 7 aY<|re<|tn<|rt<|bz aV (.int .i64 0)<|?_
 have hX2:cZ dir (gl b)=(a,D):=(congrArg (cZ dir) (gt b)).trans L
 have hs:dW dir b=(⟨(b.getD 0 0),0,a⟩,0):=by
   unfold dW
   (try simp only[d,f,h,k,G,F,bs,if_true,if_false,decide_true,decide_false,bY,hX2,reduceIte])
   all_goals rfl
 refine dh hs ?_
 exact⟨_,rfl,⟨#[.int .u8 a.code,.int .u8 a.fail,.int .u16 a.addr,.int .u16 a.count,.int .u16 a.value,.int .u16 a.and_,.int .u16 a.or_,.int .u16 a.addr2,.int .u16 a.sub,.int .u16 a.status,.int .u16 a.events,.int .u16 a.messages,.slice l a.words.length o,.slice p a.bits.length q,.slice r a.data.length s,.slice t a.recs.length u,.int .u8 a.mei,.int .u8 a.kind,.int .u8 a.level,.int .u8 a.more,.int .u8 a.next,.slice v a.objects.length y],(by as_aux_lemma=>kernel_rfl),(aL.upd W (uz Z a5) (ak (aM (ub (aF i N) e) (by decide)) aG)),b8 (x:=(b.getD 0 0)) (by omega),aB (x:=0) (by omega)⟩,a6⟩
theorem rD{m:Md}{v:Value}{b:List Int}{w:World}{dir:Int}(h:aT m w v b)(hb:b.length≤1048576) : Calls Tryz.prog 50 #[.int .i64 dir,v] w (jO (dW dir b) w):=by
  obtain⟨A,cp,rfl,hc,_⟩:=h.shape
  exact pm h hb hc
open Go.RowKit
theorem uq(a b c d:Int)(w:World) : (Op.equalIn 10000 42 (.agg #[.int .u8 a,.int .u16 b]) (.agg #[.int .u8 c,.int .u16 d])).run Tryz.prog w = .ok ((a==c)&&(b==d)) w:=by
  have hS:Tryz.prog.underlying 42=some (.struct (Tryz.prog.fieldsOf 42)):=by kernel_rfl
  have hp:Tryz.prog.stoodInHeld 42=false:=by kernel_rfl
  rw[show(10000:Nat)=9998+1+1 from rfl,run_equalIn_agg w (9998+1) 42 _ _ hS hp]
  simp only[Program.fieldsOf,Tryz.underlying42]
  have p0:∀ v:Int,(part 5 #[.int .u8 v,.int .u16 b] 0).run Tryz.prog w = .ok (.int .u8 v) w:=fun v=>by simp[part,isAgg,run_underlying Tryz.underlying5,Result.andThen]
  have p0':∀ v:Int,(part 5 #[.int .u8 v,.int .u16 d] 0).run Tryz.prog w = .ok (.int .u8 v) w:=fun v=>by simp[part,isAgg,run_underlying Tryz.underlying5,Result.andThen]
  have p1:∀ v u:Int,(part 24 #[.int .u8 u,.int .u16 v] 1).run Tryz.prog w = .ok (.int .u16 v) w:=fun v u=>by simp[part,isAgg,run_underlying Tryz.underlying24,Result.andThen]
  have e0:=run_equalIn_int (P:=Tryz.prog) w 9998 5 .u8 _ a c Tryz.underlying5
  have e1:=run_equalIn_int (P:=Tryz.prog) w 9998 24 .u16 _ b d Tryz.underlying24
  simp only[Op.eqFields,Sem.run_bind,p0,p0',p1,e0,e1,Result.andThen_ok,ne_eq,String.reduceEq,not_false_eq_true,if_true,Sem.run_ite]
  cases (a==c)<;>cases (b==d)<;>simp
theorem pl{ev:Operand→Value}{o:Oper}{x y:Operand}{t:TypeId}(a b c d:Int){v:Bool}{w:World}(ho:o.op = .binOp .eql 42 x y t)
    (hx:ev x = .agg #[.int .u8 a,.int .u16 b]) (hy:ev y = .agg #[.int .u8 c,.int .u16 d]) (hv:((a==c)&&(b==d))=v) : (execOp ev o).run Tryz.prog w = .ok (.value (.bool v)) w:=by
  subst hv
  have hg:(eqGuard .eql 42 x y (.agg #[.int .u8 a,.int .u16 b]) (.agg #[.int .u8 c,.int .u16 d])).run Tryz.prog w = .ok () w:=run_eqGuard_agg w _ _ _ _ _ _ (by kernel_rfl)
  unfold execOp
  simp only[ho,hx,hy,Sem.run_bind,hg,Result.andThen_ok,run_eql_struct,uq,Sem.run_pure]
open Go.RowKit
open Go.RowKit
theorem nY{m:Md}{v:Value}{b:List Int}{w:World}{dir:Int}{F:d7}{E:Int}(hX:dW dir b=(F,E))(h:aT m w v b)(hb:b.length≤1048576) : Calls Tryz.prog 50 #[.int .i64 dir,v] w (fun e w'=>∃ x,e = .returned (.tuple #[.agg (fD F.unit F.tid F.msg x),.int .i64 E])∧(aL true w' (gF F.msg x).toList F.msg∧(0≤F.unit∧F.unit<256)∧(0≤F.tid∧F.tid<65536))∧aD [] w w'):=by
  refine(rD h hb).mono ?_
  rintro e w' ⟨cs,rfl,h1,h2⟩
  rw[hX] at h1 ⊢
  obtain⟨c,rfl,h3,h4,h5⟩:=h1
  obtain⟨x,rfl⟩:=jZ h3
  exact⟨x,by rw[j5],⟨h3,h4,h5⟩,h2⟩
end Go.Proofs.YtogbnemojakcpaaGreat
namespace Go.Proofs.YtogbnemojakcpaaGreat
def gw (b:List Int) : Nat→Int
  | 0=>0
  | k+1=>(gw b k+b.getD k 0)%256
def uZ (b:List Int) : Int:=gw b b.length
def ia (b:List Int) : Int:=(0-uZ b)%256
def ez (b:List Int) : Bool:=decide (0<((b.length:Nat) : Int))&&(ia b==0)
theorem ug(b:List Int) : ∀ k,0≤gw b k∧gw b k<256
  | 0=>by unfold gw;omega
  | k+1=>by unfold gw;omega
def gq (n:Int) : Int:=if n<10 then 48+n else 55+n
def bO (c:Int) : Int:=if 48≤c∧c≤57 then c-48 else if 65≤c∧c≤70 then c-55 else -1
def tj:List Int→List Int
  | []=>[]
  | c :: b=>gq (c/16) :: gq (c%16) :: tj b
def bW:List Int→Option (List Int)
  | []=>some []
  | [_]=>none
  | a :: b :: r=>if bO a<0∨bO b<0 then none else (bW r).map fun l=>(16*bO a+bO b)%256 :: l
theorem qW{n:Int}(h:0≤n∧n<16) : bO (gq n)=n:=by
  unfold gq
  split<;>unfold bO
  · rw[if_pos (by omega)];omega
  · rw[if_neg (by omega),if_pos (by omega)];omega
theorem jg{c:Int}(h:0≤bO c) : gq (bO c)=c∧bO c<16:=by
  unfold bO at h ⊢
  split at h
  · rename_i h1
    rw[if_pos h1]
    unfold gq
    rw[if_pos (by omega)]
    omega
  · rename_i h1
    split at h
    · rename_i h2
      rw[if_neg h1,if_pos h2]
      unfold gq
      rw[if_neg (by omega)]
      omega
    · omega
theorem iP(c:Int) : bO c<16∧-1≤bO c:=by unfold bO;split;omega;split<;>omega
theorem nU:∀ b:List Int,(tj b).length=2*b.length
  | []=>rfl
  | c :: b=>by simp only[tj,List.length_cons,nU b];omega
theorem kc:∀ {s x:List Int},bW s=some x→s=tj x∧∀ y,y∈x→0≤y∧y<256
  | [],x,h=>by
    injection h with h
    subst h
    exact⟨rfl,fun y hy=>by cases hy⟩
  | [_],x,h=>by cases h
  | a :: b :: r,x,h=>by
    simp only[bW] at h
    split at h
    · cases h
    · rename_i hd
      cases hr:bW r with
      | none=>rw[hr] at h;cases h
      | some l =>
        rw[hr] at h
        injection h with h
        obtain⟨h1,h2⟩:=kc hr
        have ha:=jg (c:=a) (by omega)
        have hb:=jg (c:=b) (by omega)
        subst h
        refine⟨?_,fun y hy=>?_⟩
        · simp only[tj]
          rw[show(16*bO a+bO b)%256/16=bO a from by omega,show(16*bO a+bO b)%256%16=bO b from by omega,ha.1,hb.1,← h1]
        · rcases List.mem_cons.1 hy with rfl | hy
          · omega
          · exact h2 y hy
theorem pE{xs:List Int}{k:Nat}(h:2*k+1<xs.length)(ha:¬ bO (xs.getD (2*k) 0)<0)(hb:¬ bO (xs.getD (2*k+1) 0)<0) : bW (xs.drop (2*k))=(bW (xs.drop (2*(k+1)))).map fun l=>[(16*bO (xs.getD (2*k) 0)+bO (xs.getD (2*k+1) 0))%256]++l:=by
  have e1:xs.getD (2*k) 0=xs[2*k]:=by rw[List.getD_eq_getElem?_getD,List.getElem?_eq_getElem (by omega)];rfl
  have e2:xs.getD (2*k+1) 0=xs[2*k+1]:=by rw[List.getD_eq_getElem?_getD,List.getElem?_eq_getElem h];rfl
  rw[List.drop_eq_getElem_cons (show 2*k<xs.length by omega),List.drop_eq_getElem_cons h,← e1,← e2]
  simp only[bW]
  rw[if_neg (by omega),show 2*k+1+1=2*(k+1) by omega]
  rfl
theorem rq{xs:List Int}{k:Nat}(h:2*k+1<xs.length)(hd:bO (xs.getD (2*k) 0)<0∨bO (xs.getD (2*k+1) 0)<0) : bW (xs.drop (2*k))=none:=by
  have e1:xs.getD (2*k) 0=xs[2*k]:=by rw[List.getD_eq_getElem?_getD,List.getElem?_eq_getElem (by omega)];rfl
  have e2:xs.getD (2*k+1) 0=xs[2*k+1]:=by rw[List.getD_eq_getElem?_getD,List.getElem?_eq_getElem h];rfl
  rw[List.drop_eq_getElem_cons (show 2*k<xs.length by omega),List.drop_eq_getElem_cons h,← e1,← e2]
  simp only[bW]
  rw[if_pos hd]
theorem jb:∀ {xs:List Int},xs.length%2≠0→bW xs=none
  | [],h=>by simp at h
  | [_],_=>rfl
  | a :: b :: r,h=>by
    simp only[bW]
    split
    · rfl
    · rw[jb (by simp only[List.length_cons] at h;omega)]
      rfl
theorem lJ{s x:List Int}(h:bW s=some x) : s.length=2*x.length:=by
  obtain⟨h1,_⟩:=kc h
  rw[h1,nU]
theorem lL{xs L:List Int}{k:Nat}(h:bW xs=(bW (xs.drop (2*k))).map fun l=>L++l)(h1:¬ 2*k<xs.length) : bW xs=some L:=by
  rw[List.drop_eq_nil_of_le (by omega)] at h
  rw[h]
  simp[bW]
theorem kN{xs L:List Int}{k:Nat}(h:bW xs=(bW (xs.drop (2*k))).map fun l=>L++l)(h2:2*k+1<xs.length)(ha:¬ bO (xs.getD (2*k) 0)<0)(hb:¬ bO (xs.getD (2*k+1) 0)<0) : bW xs=(bW (xs.drop (2*(k+1)))).map fun l=>(L++[(16*bO (xs.getD (2*k) 0)+bO (xs.getD (2*k+1) 0))%256])++l:=by
  rw[h,pE h2 ha hb]
  cases bW (xs.drop (2*(k+1))) with
  | none=>rfl
  | some l=>simp
theorem ns{xs L:List Int}{k:Nat}(h:bW xs=(bW (xs.drop (2*k))).map fun l=>L++l)(h2:2*k+1<xs.length)(hd:bO (xs.getD (2*k) 0)<0∨bO (xs.getD (2*k+1) 0)<0) : bW xs=none:=by
  rw[h,rq h2 hd]
  rfl
open Go.RowKit
abbrev eS (xs:List Int) : Prop:=∀ x,x∈xs→0≤x∧x<256
theorem wn{x:Int}(h:0≤x∧x<256) : ((UInt8.ofNat x.toNat).toNat:Int)=x:=by
  simp only[UInt8.toNat_ofNat']
  omega
theorem i5{xs:List Int}{j:Nat}(hj:j<xs.length)(hs:j<(strOfNums xs).size) : (strOfNums xs)[j]=UInt8.ofNat (xs.getD j 0).toNat:=by
  show(strOfNums xs).data[j]=_
  simp[strOfNums,List.getD_eq_getElem?_getD,List.getElem?_eq_getElem hj]
theorem iC{P:Program}{w:World}{ev:Operand→Value}{o:Oper}{x ix:Operand}{t:TypeId}{xs:List Int}{k:IntKind}{i:Int}(j:Nat)(ho:o.op = .index t x ix)(ht:P.underlying t=some .string)(hx:ev x = .string (strOfNums xs))(hi:ev ix = .int k i)(hr:eS xs)(hj:i=(j:Int))(hlt:j<xs.length) : (execOp ev o).run P w = .ok (.value (.int .u8 (xs.getD j 0))) w:=by
  subst hj
  have hs:j<(strOfNums xs).size:=by rw[strOfNums_size];exact hlt
  have h:=run_index_string (P:=P) w t (strOfNums xs) k (j:Int) ht
  rw[dif_pos (by omega)] at h
  have hg:xs.getD j 0∈xs:=by
    rw[List.getD_eq_getElem?_getD,List.getElem?_eq_getElem hlt]
    exact List.getElem_mem hlt
  unfold execOp
  simp only[ho,hx,hi,Sem.run_bind,h,Result.andThen,Sem.run_pure]
  have e:((strOfNums xs)[((j:Nat) : Int).toNat]'(by simpa using hs))=UInt8.ofNat (xs.getD j 0).toNat:=by
    simp only[Int.toNat_natCast]
    exact i5 hlt hs
  rw[e,wn (hr _ hg)]
theorem fy(xs:List Int)(a b:Nat)(hb:b≤xs.length) : (strOfNums xs).extract a b=strOfNums ((xs.take b).drop a):=by
  apply ByteArray.ext
  rw[ByteArray.data_extract]
  apply Array.toList_inj.1
  rw[Array.toList_extract]
  simp[strOfNums,List.extract,List.map_drop,List.map_take,List.drop_take]
theorem md{P:Program}{w:World}{ev:Operand→Value}{o:Oper}{x y:Operand}{t:TypeId}{xs:List Int}{k:IntKind}{i:Int}(j:Nat)(ho:o.op = .slice t x (some y) none none)(ht:P.underlying t=some .string)(hx:ev x = .string (strOfNums xs))(hy:ev y = .int k i)(hj:i=(j:Int))(hlt:j≤xs.length) : (execOp ev o).run P w = .ok (.value (.string (strOfNums (xs.drop j)))) w:=by
  subst hj
  have hu:(underlying t).run P w = .ok .string w:=run_underlying ht w
  have h:=run_slice_string_l (P:=P) w t (strOfNums xs) ht k (j:Int) (by omega) (by rw[strOfNums_size];omega)
  rw[strOfNums_size,fy _ _ _ (Nat.le_refl _),List.take_length,Int.toNat_natCast] at h
  unfold execOp
  simp only[ho,Option.map_some,Option.map_none,hx,hy,Instr.sliceAt,Sem.run_bind,hu,h,Result.andThen,Sem.run_pure]
theorem rC{P:Program}{w:World}{ev:Operand→Value}{o:Oper}{x y:Operand}{t:TypeId}{xs:List Int}{k:IntKind}{i:Int}(j:Nat)(ho:o.op = .slice t x none (some y) none)(ht:P.underlying t=some .string)(hx:ev x = .string (strOfNums xs))(hy:ev y = .int k i)(hj:i=(j:Int))(hlt:j≤xs.length) : (execOp ev o).run P w = .ok (.value (.string (strOfNums (xs.take j)))) w:=by
  subst hj
  have hu:(underlying t).run P w = .ok .string w:=run_underlying ht w
  have h:=run_slice_string_h (P:=P) w t (strOfNums xs) ht k (j:Int) (by omega) (by rw[strOfNums_size];omega)
  rw[Int.toNat_natCast,fy _ _ _ hlt,List.drop_zero] at h
  unfold execOp
  simp only[ho,Option.map_some,Option.map_none,hx,hy,Instr.sliceAt,Sem.run_bind,hu,h,Result.andThen,Sem.run_pure]
theorem ja{xs:List Int}(h:eS xs)(j:Nat) : eS (xs.drop j):=fun x hx=>h x (List.mem_of_mem_drop hx)
theorem ma{xs:List Int}(h:eS xs)(j:Nat) : eS (xs.take j):=fun x hx=>h x (List.mem_of_mem_take hx)
theorem v5{xs ys:List Int}(hx:eS xs)(hy:eS ys) : ((strOfNums xs).toList==(strOfNums ys).toList)=decide (xs=ys):=by
  have e:∀ zs:List Int,(strOfNums zs).toList=zs.map fun n=>UInt8.ofNat n.toNat:=fun zs=>by
    rw[ByteArray.toList_eq]
    rfl
  rw[e,e]
  by_cases h:xs=ys
  · subst h;simp
  · rw[decide_eq_false h,beq_eq_false_iff_ne]
    exact fun k=>h (je xs ys hx hy k)
def lh (base:Nat)(w:World)(v:Value)(xs:List Int) : Prop:=∃ g cap cur n,v = .slice (some ⟨g,0,none⟩) xs.length cap∧base≤g∧w.heap[g]? = some (.cells cur 5 (n,n+1))∧xs.length≤n∧xs.length≤cap∧cap≤maxLen∧cur.toList.take xs.length=xs.map (Value.int .u8)∧eS xs
theorem lh.rd{base:Nat}{w:World}{v:Value}{xs:List Int}(h:lh base w v xs) : aT true w v xs:=by
  obtain⟨g,cap,cur,n,rfl,hb,hh,h1,h2,h3,h4,h5⟩:=h
  refine⟨_,_,rfl,h2,h3,(fun hA=>by cases hA),fun hp=>⟨g,0,cur,_,_,rfl,hh,(fun _=>⟨rfl,Nat.zero_le _⟩),fun j x hj=>?_⟩⟩
  refine⟨[.int .u8 x],rfl,⟨rfl,h5 x (List.mem_of_getElem? hj)⟩,fun i u hi=>?_⟩
  cases i with
  | succ i=>simp at hi
  | zero =>
    have hi:Value.int .u8 x=u:=by simpa using hi
    subst hi
    have h6:(xs.map (Value.int .u8))[j]? = some (.int .u8 x):=by rw[List.getElem?_map,hj];rfl
    rw[← h4,List.getElem?_take] at h6
    split at h6
    · simpa using h6
    · cases h6
theorem lh.shape{base:Nat}{w:World}{v:Value}{xs:List Int}(h:lh base w v xs) : ∃ g cp,v = .slice (some ⟨g,0,none⟩) xs.length cp:=by
  obtain⟨g,cap,cur,n,hv,_⟩:=h
  exact⟨g,cap,hv⟩
section
variable {P:Program}{n:Nat}{D:List Deferred}{F:Fr}{w:World}{K:Fr→World→Prop}{Q:Exit→Act→World→Prop}{d:Option Tmp}{t:TypeId}{s:String}{af:Array Edge}{gu:Option (Nat × Bool)}
theorem qN{a:Act}{o:Oper}{N:Option Tmp}{K:Act→World→Prop}{w1:World}(v:Value)(hN:o.dst=N)(hr:(execOp a.eval o).run P w = .ok (.value v) w1)(h:K (a.put N v) w1) : OW P o a w K Q:=by
  refine OW.mk ?_
  subst hN
  unfold Oper.wp
  rw[hr]
  exact h
theorem yQ{ty:TypeId}{x:Operand}{sv:ByteArray}(hs:P.underlying ty=some .string)(h:∀ g w',w.heap.size≤g→w'.heap[g]? = some (.stringIter sv 0)→aD [] w w'→K (pt d (.pointer (some ⟨g,0,none⟩)) F) w')
    (hx:eQ F x=some (.string sv):=by kernel_rfl) (hk:fM n d=true:=by kernel_rfl) : OG P ⟨d,.range ty x,t,s,af,gu⟩ n D F w K Q:=by
  refine⟨fun a ha K' hK=>qN (.pointer (some ⟨w.heap.size,0,none⟩)) rfl (w1:=w.alloc (.stringIter sv 0)) ?_ (hK _ _ _ (h _ _ (Nat.le_refl _) (ed _ _) ((aD.refl _ _).alloc _)) (ha.put hk))⟩
  have hx':=ha.ev hx
  unfold execOp
  simp only[hx',Sem.run_bind,run_range_string w ty sv hs,Result.andThen,Sem.run_pure]
  rfl
theorem rJ{xs:List Int}(hr:eS xs)(h0:0<xs.length) : ((((Utf8.decode (strOfNums xs) 0).1:Nat) : Int)=58↔xs.getD 0 0=58):=by
  have hs:0<(strOfNums xs).size:=by rw[strOfNums_size];exact h0
  have hm:xs.getD 0 0∈xs:=by
    rw[List.getD_eq_getElem?_getD,List.getElem?_eq_getElem h0]
    exact List.getElem_mem h0
  have hb:=hr _ hm
  have h1:((strOfNums xs).get! 0).toNat=(xs.getD 0 0).toNat:=by
    have e:(strOfNums xs).get! 0=(strOfNums xs)[0]:=by
      show(strOfNums xs).data[0]! = _
      rw[getElem!_pos (strOfNums xs).data 0 hs]
      rfl
    rw[e,i5 h0 hs]
    simp only[UInt8.toNat_ofNat']
    omega
  unfold Utf8.decode
  simp only[Nat.zero_add,h1,Utf8.runeError]
  split
  · omega
  · split
    · split
      · rename_i h2 h3 h4;simp only;omega
      · simp only;omega
    · split
      · split
        · rename_i h2 h3 h4 h5;simp only[Bool.and_eq_true,decide_eq_true_eq] at h5;simp only;omega
        · simp only;omega
      · split
        · split
          · rename_i h2 h3 h4 h5 h6;simp only[Bool.and_eq_true,decide_eq_true_eq] at h6;simp only;omega
          · simp only;omega
        · simp only;omega
theorem zM{x:Operand}{xs:List Int}{r:Nat}(hr:eS xs)(h0:0<xs.length)(B:w.heap[r]? = some (.stringIter (strOfNums xs) 0))(h:∀ c w',(c=58↔xs.getD 0 0=58)→aD [r] w w'→K (pt d (.tuple #[.bool true,.int .i64 0,.int .i32 c]) F) w')
    (hx:eQ F x=some (.pointer (some ⟨r,0,none⟩)):=by kernel_rfl) (hk:fM n d=true:=by kernel_rfl) : OG P ⟨d,.next x true,t,s,af,gu⟩ n D F w K Q:=by
  have hlt:=am B
  have hrun:=Lib.run_next_any_at (P:=P) w r (strOfNums xs) 0 t B (by rw[strOfNums_size];exact h0)
  refine⟨fun a ha K' hK=>qN _ rfl (w1:=w.iterAt r (strOfNums xs) (0+(Utf8.decode (strOfNums xs) 0).2)) ?_ (hK _ _ _ (h (((Utf8.decode (strOfNums xs) 0).1:Nat) : Int) _ (rJ hr h0) ?_) (ha.put hk))⟩
  · have hx':=ha.ev hx
    unfold execOp
    simp only[hx',Sem.run_bind,hrun,Result.andThen,Sem.run_pure]
    rfl
  · refine⟨rfl,rfl,rfl,?_,fun k hk hn=>?_⟩
    · simp[World.iterAt]
    · have:r≠k:=fun e=>hn (by simp[e])
      simp[World.iterAt,Array.getElem?_setIfInBounds,this]
end
open Go.RowKit
theorem we{w:World}{g:Nat}{c s:Int}(hg:w.heap[g]? = some (.cells #[.int .u8 s] 5 (0,0))) : Calls Tryz.prog 191 #[.int .u8 c,.pointer (some ⟨g,0,none⟩)] w (fun e w'=>e = .returned (.tuple #[])∧w'.heap[g]? = some (.cells #[.int .u8 ((s+c)%256)] 5 (0,0))∧aD [g] w w'):=by
 refine en 6 Tryz.func191 rfl<|go<|L0<|aU hg 0<|Pl 2<|L0<|bX hg 0 #[.int .u8 ((s+c)%256)] fun d a b=>nl<|rm (.tuple #[])<|?_
 exact⟨rfl,a,b⟩
theorem rA{m:Md}{A:Option Addr}{cp:Nat}{b:List Int}{w0 w:World}{g:Nat}(hu0:aD [] w0 w)(hg0:w0.heap.size≤g)(hsl:aT m w0 (.slice A b.length cp) b)(hg:w.heap[g]? = some (.cells #[.int .u8 (gw b 0)] 5 (0,0))) :
    Calls Tryz.prog 190 #[.slice A b.length cp,.func (.func 191) #[] #[.pointer (some ⟨g,0,none⟩)]] w (fun e w'=>e = .returned (.tuple #[])∧w'.heap[g]? = some (.cells #[.int .u8 (uZ b)] 5 (0,0))∧aD [] w0 w'∧w.heap.size≤w'.heap.size):=by
 have hln:=aK.len hsl
 refine en 16 Tryz.func190 rfl<|sg<|Pl 3<|nt<|bk<|?_
 refine hY (fun x=>[(1,.func (.func 191) #[] #[.pointer (some ⟨g,0,none⟩)]),(6,.slice A b.length cp),(7,.int .i64 ((b.length:Nat) : Int)),(8,.int .i64 ((x:Nat) : Int))]) (fun(x:Nat) w'=>aD [] w0 w'∧w.heap.size≤w'.heap.size∧w'.heap[g]? = some (.cells #[.int .u8 (gw b x)] 5 (0,0))∧(x≤b.length)) (fun x=>b.length-x) 0 ⟨hu0,lr,hg,(by(try dsimp only);omega)⟩ ?_
 rintro k j ⟨a,f,l,n⟩
 refine i1 [(1,.func (.func 191) #[] #[.pointer (some ⟨g,0,none⟩)]),(6,.slice A b.length cp),(7,.int .i64 ((b.length:Nat) : Int)),(8,.int .i64 ((k:Nat) : Int))] ?_
 have h:j.heap[g]? = some (.cells #[.int .u8 (gw b k)] 5 (0,0)):=l
 have y:k≤b.length:=n
 refine sg<|Pl 1<|nt<|sq<|cb ((decide (((k:Nat) : Int)<((b.length:Nat) : Int)))) (fun d=>?_) (fun d=>?_)
 have o:=of_decide_eq_true d
 refine bi<|sq<|bk<|sg<|?_
 refine eJ (aT.at_ (aT.old hsl a) k (by omega)) fun q r s t z=>L0<|iZ b.length k s (by omega)<|L0<|dY (p:=⟨q,r+k,none⟩) (v:=.int .u8 (b.getD k 0)) t<|Pl 1<|nt<|go<|Pl 2<|L0<|fN #[] #[.pointer (some ⟨g,0,none⟩)] (args:=#[.int .u8 (b.getD k 0),.pointer (some ⟨g,0,none⟩)])<|m2 (we (c:=(b.getD k 0)) h) fun B u i=>nl<|bn<|tn<|go<|L0<|Oi (((k:Nat) : Int)+1)<|?_
 refine Pl 1<|nl<|?_
 exact fF (k+1) ⟨(ud a i hg0),(le f i.size),u,(by(try dsimp only);omega)⟩ (by omega)
 have o:=of_decide_eq_false d
 refine xt<|tx<|tx<|bx<|rm (.tuple #[])<|?_
 have hk:k=b.length:=by omega
 subst hk
 exact⟨rfl,h,a,f⟩
theorem qe{m:Md}{A:Option Addr}{cp:Nat}{b:List Int}{w:World}(hsl:aT m w (.slice A b.length cp) b) :
    Calls Tryz.prog 128 #[.slice A b.length cp] w (bP (.int .u8 (ia b)) w):=by
 refine en 9 Tryz.func128 rfl<|sg<|Pl 1<|ng<|L0<|bE #[.int .u8 0] fun h i a c d=>L0<|bX c 0 #[.int .u8 0] fun j dx e=>ng<|?_
 refine Pl 2<|?_
 refine L0<|Oc<|m3 (rA (ud d e a) a hsl dx) fun k f g l=>ng<|L0<|aU f 0<|Pl 2<|nt<|rt<|rr (.int .u8 ((0-(uZ b))%256))<|?_
 exact⟨rfl,g⟩
theorem sL{m:Md}{v:Value}{b:List Int}{w:World}(h:aT m w v b) : Calls Tryz.prog 128 #[v] w (bP (.int .u8 (ia b)) w):=by
  obtain⟨A,cp,rfl,_,_⟩:=h.shape
  exact qe h
theorem pS{m:Md}{A:Option Addr}{cp:Nat}{b:List Int}{w:World}(hsl:aT m w (.slice A b.length cp) b) :
    Calls Tryz.prog 124 #[.slice A b.length cp] w (bP (.bool (ez b)) w):=by
 refine en 11 Tryz.func124 rfl<|sg<|Pl 1<|ng<|Pl 4<|bl 6 ((decide (0<((b.length:Nat) : Int)))) (fun a=>?_) (fun a=>?_)
 have c:=of_decide_eq_true a
 refine Pl 1<|L1<|Oc (args:=#[.slice A b.length cp])<|m1 (sL hsl) fun e d=>Pl 3<|nt<|rt<|rr (.bool ((ia b)==0))<|?_
 have hs:ez b=((ia b)==0):=by unfold ez;(try simp only[a,bs,if_true,if_false,decide_true,decide_false]);all_goals rfl
 rw[hs]
 exact⟨rfl,d⟩
 have c:=of_decide_eq_false a
 refine Pl 5<|nt<|rt<|rr (.bool false)<|?_
 have hs:ez b=false:=by unfold ez;(try simp only[a,bs,if_true,if_false,decide_true,decide_false]);all_goals rfl
 rw[hs]
 exact⟨rfl,(aD.refl [] _)⟩
theorem se{m:Md}{v:Value}{b:List Int}{w:World}(h:aT m w v b) : Calls Tryz.prog 124 #[v] w (bP (.bool (ez b)) w):=by
  obtain⟨A,cp,rfl,_,_⟩:=h.shape
  exact pS h
open Go.RowKit
def td:Array Value:=#[.int .u8 48,.int .u8 49,.int .u8 50,.int .u8 51,.int .u8 52,.int .u8 53,.int .u8 54,.int .u8 55,.int .u8 56,.int .u8 57,.int .u8 65,.int .u8 66,.int .u8 67,.int .u8 68,.int .u8 69,.int .u8 70]
theorem vC:∀ {j:Nat},j<16→td[j]? = some (.int .u8 (gq (j:Int)))
  | 0,_ | 1,_ | 2,_ | 3,_ | 4,_ | 5,_ | 6,_ | 7,_ | 8,_ | 9,_ | 10,_ | 11,_ | 12,_ | 13,_ | 14,_ | 15,_=>rfl
  | n+16,h=>by omega
theorem ta{P:Program}{w:World}{ev:Operand→Value}{o:Oper}{x ix:Operand}{t e:TypeId}{k:IntKind}{i:Int}(j:Nat)(ho:o.op = .index t x ix)(ht:P.underlying t=some (.array 16 e))(hi:(P.info? e).map (·.size)=some 1)(hr:∀ w,(isAgg e).run P w = .ok false w)(hx:ev x = .agg td)(hy:ev ix = .int k i)(hj:i=(j:Int))(hlt:j<16) : (execOp ev o).run P w = .ok (.value (.int .u8 (gq (j:Int)))) w:=by
  subst hj
  obtain⟨i0,hi0,hs⟩:=Option.map_eq_some_iff.1 hi
  have h:=vC hlt
  unfold execOp
  have h2:(0:Int)≤(j:Int)∧(j:Int)<16:=by omega
  simp[ho,hx,hy,Instr.index,asIntOf,run_underlying ht,Result.andThen,h2,sizeOf,typeInfo,hi0,hs,part,h,hr,hlt]
def zn (B b:Nat)(L:List Int)(w:World) : Prop:=∃ p A cp,w.heap[b]? = some (.cells #[p,.slice A L.length cp] 182 (0,0))∧(p = .pointer none∨p = .pointer (some ⟨b,0,none⟩))∧eq B w (.slice A L.length cp) L
theorem zn.new{B b:Nat}{w:World}(hb:w.heap[b]? = some (.cells #[.pointer none,.slice none 0 0] 182 (0,0))) : zn B b [] w:=⟨_,_,_,hb,.inl rfl,be.nil ..⟩
open Go.RowKit
theorem oP{w:World}:Calls Tryz.prog 187 #[] w (bP (.agg td) w):=by
 refine en 2 Tryz.func187 rfl<|sg<|L0<|bE #[.int .u8 0,.int .u8 0,.int .u8 0,.int .u8 0,.int .u8 0,.int .u8 0,.int .u8 0,.int .u8 0,.int .u8 0,.int .u8 0,.int .u8 0,.int .u8 0,.int .u8 0,.int .u8 0,.int .u8 0,.int .u8 0] fun e f a b c=>ng<|Pl 1<|L0<|aW b #[.int .u8 48,.int .u8 49,.int .u8 50,.int .u8 51,.int .u8 52,.int .u8 53,.int .u8 54,.int .u8 55,.int .u8 56,.int .u8 57,.int .u8 65,.int .u8 66,.int .u8 67,.int .u8 68,.int .u8 69,.int .u8 70] fun g dx d=>nt<|rt<|xD dx<|?_
 exact⟨rfl,(ud c d a)⟩
theorem sW{c:Int}{n:Nat}(h:∀ j:Nat,j<n→gq (j:Int)≠c)(q:(gq ((n:Nat) : Int)==c)=false) : ∀ j:Nat,j<n+1→gq (j:Int)≠c:=fun j hj=>by
  by_cases e:j=n
  · subst e;simpa using q
  · exact h j (by omega)
theorem wK{c:Int}{n:Nat}(hn:n<16)(q:(gq ((n:Nat) : Int)==c)=true) : bO c=((n:Nat) : Int):=by
  have e:gq ((n:Nat) : Int)=c:=by simpa using q
  rw[← e]
  exact qW (by omega)
theorem sV{c:Int}{n:Nat}(hn:n=16)(h:∀ j:Nat,j<n→gq (j:Int)≠c) : bO c = -1:=by
  by_cases e:0≤bO c
  · have h1:=jg e
    exact absurd (by rw[Int.toNat_of_nonneg e];exact h1.1) (h (bO c).toNat (by omega))
  · have:=iP c
    omega
theorem mp{w:World}{c:Int}(hc:0≤c∧c<256) : Calls Tryz.prog 184 #[.int .u8 c] w (bP (.int .i64 (bO c)) w):=by
 refine en 15 Tryz.func184 rfl<|sg<|Pl 1<|nt<|sq<|sg<|L0<|Oc<|m1 (@oP w) fun g h=>Pl 1<|nt<|bk<|?_
 refine hY (fun x=>[(0,.int .u8 c),(5,.agg td),(6,.int .i64 ((x:Nat) : Int))]) (fun(x:Nat) w'=>aD [] g w'∧(x≤16)∧(∀ j:Nat,j<x→gq (j:Int)≠c)) (fun x=>16-x) 0 ⟨aD.refl _ _,(by(try dsimp only);omega),(fun j hj=>by omega)⟩ ?_
 rintro n q ⟨d,l,m⟩
 refine i1 [(0,.int .u8 c),(5,.agg td),(6,.int .i64 ((n:Nat) : Int))] ?_
 have r:n≤16:=l
 have e:∀ j:Nat,j<n→gq (j:Int)≠c:=m
 refine sg<|Pl 1<|nt<|sq<|?_
 have f:=aF h d
 refine cb ((decide (((n:Nat) : Int)<16))) (fun b=>?_) (fun b=>?_)
 have o:=of_decide_eq_true b
 refine bi<|sq<|bk<|sg<|Pl 1<|L0<|g9 (.int .u8 (gq ((n:Nat) : Int))) (ta (k:=.i64) (i:=((n:Nat) : Int)) n rfl Tryz.underlying183 (by kernel_rfl) Tryz.isAgg5 (by kernel_rfl) (by kernel_rfl) rfl (by omega))<|Pl 2<|ng<|Pl 3<|nl<|?_
 refine tn<|cb (((gq ((n:Nat) : Int))==c)) (fun a=>?_) (fun a=>?_)
 have p:=al a
 refine sg<|Pl 2<|nt<|rt<|br<|tr<|tr<|br<|tr<|rr (.int .i64 ((n:Nat) : Int))<|?_
 have hs:bO c=((n:Nat) : Int):=wK (by omega) a
 rw[hs]
 exact⟨rfl,f⟩
 have p:=ap a
 exact sk<|bn<|tn<|go<|L0<|Oi (((n:Nat) : Int)+1)<|Pl 1<|nl<|fF (n+1) ⟨d,(by(try dsimp only);omega),(sW e a)⟩ (by omega)
 have o:=of_decide_eq_false b
 refine xt<|tx<|tx<|bx<|tn<|sg<|Pl 1<|nt<|rt<|rr (.int .i64 (-1))<|?_
 have hs:bO c = -1:=sV (n:=n) (by omega) e
 rw[hs]
 exact⟨rfl,f⟩
open Go.RowKit
def fL (xs:List Int)(w:World)(e:Ending)(w':World) : Prop:=match bW xs with
  | some l=>∃ v,e = .returned (.tuple #[v,.int .i64 0])∧eq w.heap.size w' v l∧aD [] w w'
  | none=>e = .returned (.tuple #[.slice none 0 0,.int .i64 11])∧aD [] w w'
theorem qt{xs l:List Int}{w w':World}{e:Ending}(h:bW xs=some l)(k:∃ v,e = .returned (.tuple #[v,.int .i64 0])∧eq w.heap.size w' v l∧aD [] w w') : fL xs w e w':=by
  unfold fL
  rw[h]
  exact k
theorem jJ{xs:List Int}{w w':World}{e:Ending}(h:bW xs=none)(k:e = .returned (.tuple #[.slice none 0 0,.int .i64 11])∧aD [] w w') : fL xs w e w':=by
  unfold fL
  rw[h]
  exact k
theorem m0{xs:List Int}{w:World}(hr:eS xs)(hl:xs.length≤1048576) :
    Calls Tryz.prog 123 #[.string (strOfNums xs)] w (fL xs w):=by
 refine en 42 Tryz.func123 rfl<|sg<|Pl 2<|nt<|sq<|sg<|Pl 1<|L0<|Oe (.int .i64 (((strOfNums xs).size:Nat) : Int)) (.int .i64 ((xs.length:Nat) : Int)) (by rw[strOfNums_size])<|L0<|Oe (.int .i64 (Int.tmod ((xs.length:Nat) : Int) 2)) (.int .i64 (((xs.length:Nat) : Int)%2)) (congrArg (Value.int .i64) (Int.tmod_eq_emod_of_nonneg (by omega)))<|Pl 1<|nl<|?_
 refine tn<|cb (((((xs.length:Nat) : Int)%2)!=0)) (fun f=>?_) (fun f=>?_)
 have A:=aq f
 refine sg<|Pl 2<|nt<|rt<|tr<|rr (.tuple #[.slice none 0 0,.int .i64 11])<|?_
 have hs:bW xs=none:=jb (by omega)
 exact jJ hs ⟨rfl,(aD.refl [] _)⟩
 have A:=ai f
 refine bi<|sg<|Pl 1<|nt<|sq<|sg<|Pl 1<|nt<|bk<|?_
 refine hY (fun x=>[(0,.string (strOfNums xs)),(4,.slice x.2.2.1 x.2.1.length x.2.2.2),(5,.int .i64 ((2*x.1:Nat) : Int))]) (fun(x:Nat × List Int × Option Addr × Nat) w'=>aD [] w w'∧eq w.heap.size w' (.slice x.2.2.1 x.2.1.length x.2.2.2) x.2.1∧(2*x.1≤xs.length)∧(bW xs=(bW (xs.drop (2*x.1))).map fun l=>x.2.1++l)∧(x.2.1.length=x.1)) (fun x=>xs.length-2*x.1) (0,[],none,0) ⟨aD.refl _ _,(be.nil w.heap.size _ _ u7 _),(by(try dsimp only);omega),(by(try dsimp only);simp),(by(try dsimp only);rfl)⟩ ?_
 rintro⟨k,L,B,cq⟩ C ⟨g,D,E,F,G⟩
 refine i1 [(0,.string (strOfNums xs)),(4,.slice B L.length cq),(5,.int .i64 ((2*k:Nat) : Int))] ?_
 have j:eq w.heap.size C (.slice B L.length cq) L:=D
 have U:2*k≤xs.length:=E
 have V:bW xs=(bW (xs.drop (2*k))).map fun l=>L++l:=F
 have W:L.length=k:=G
 have hL:bW xs=(bW (xs.drop (2*k))).map fun l=>L++l:=by assumption
 refine sq<|sg<|Pl 2<|L0<|Oe (.int .i64 (((strOfNums xs).size:Nat) : Int)) (.int .i64 ((xs.length:Nat) : Int)) (by rw[strOfNums_size])<|Pl 1<|nt<|cb ((decide (((2*k:Nat) : Int)<((xs.length:Nat) : Int)))) (fun n=>?_) (fun n=>?_)
 have H:=of_decide_eq_true n
 refine bi<|sq<|bk<|sq<|Rg 11 (fun w'=>True) fun X p=>bg trivial fun a=>Rt 0 a<|Rt 1 a<|Rr 2 a (.int .u8 (xs.getD (2*k) 0)) (fun _ _=>iC (xs:=xs) (k:=.i64) (i:=((2*k:Nat) : Int)) (2*k) rfl Tryz.underlying9 (by kernel_rfl) (by kernel_rfl) hr rfl (by omega))<|Rt 4 a<|Rt 5 a<|Rr 6 a (.int .i64 (((2*k:Nat) : Int)+1)) (fun _ _=>cg (.int .i64 (IntKind.i64.wrap (((2*k:Nat) : Int)+1))) (by kernel_rfl) (congrArg (Value.int .i64) (IntWalk.i64_in _ (by omega))))<|Rr 7 a (.int .u8 (xs.getD ((((2*k:Nat) : Int)+1)).toNat 0)) (fun _ _=>iC (xs:=xs) (k:=.i64) (i:=(((2*k:Nat) : Int)+1)) ((((2*k:Nat) : Int)+1)).toNat rfl Tryz.underlying9 (by kernel_rfl) (by kernel_rfl) hr (by omega) (by omega))<|?_
 have Y:=iP (xs.getD (2*k) 0)
 refine R0 3 rfl<|Oc<|m1 (mp (c:=(xs.getD (2*k) 0)) (w:=_) (ew (by omega) hr _)) fun Z r=>bg trivial fun a0=>?_
 have a1:=iP (xs.getD ((((2*k:Nat) : Int)+1)).toNat 0)
 refine R0 8 rfl<|Oc<|m1 (mp (c:=(xs.getD ((((2*k:Nat) : Int)+1)).toNat 0)) (w:=_) (ew (by omega) hr _)) fun a2 s=>bg trivial fun t=>Rt 9 t<|Rt 10 t<|re<|tn<|sq<|sg<|Pl 3<|cu 3 [29] 32 (((decide ((bO (xs.getD (2*k) 0))<0))||(decide ((bO (xs.getD ((((2*k:Nat) : Int)+1)).toNat 0))<0)))) (fun K u=>?_) ?_
 refine bl 29 ((decide ((bO (xs.getD (2*k) 0))<0))) (fun b=>?_) (fun b=>?_)
 have I:=of_decide_eq_true b
 exact Pl 3<|ce u true (by rw[b];rfl)
 have I:=of_decide_eq_false b
 exact Pl 3<|ce u (decide ((bO (xs.getD ((((2*k:Nat) : Int)+1)).toNat 0))<0)) (by rw[b];rfl)
 refine nt<|?_
 have v:=aF p (aF r s)
 have y:=aF g v
 refine cb (((decide ((bO (xs.getD (2*k) 0))<0))||(decide ((bO (xs.getD ((((2*k:Nat) : Int)+1)).toNat 0))<0)))) (fun d=>?_) (fun d=>?_)
 refine sg<|Pl 2<|nt<|rt<|tr<|br<|tr<|tr<|br<|tr<|rr (.tuple #[.slice none 0 0,.int .i64 11])<|?_
 have hs:bW xs=none:=ns (k:=k) hL (by omega) (by have q:=d;simp only[Bool.or_eq_true,decide_eq_true_eq] at q;rw[show 2*k+1=(((2*k:Nat) : Int)+1).toNat from by omega];exact q)
 exact jJ hs ⟨rfl,y⟩
 have J:=(aJ d).1
 have M:=(aJ d).2
 have a3:=of_decide_eq_false J
 have a4:=of_decide_eq_false M
 refine bi<|go<|Pl 2<|L0<|Oi (16*(bO (xs.getD (2*k) 0)))<|Pl 1<|L0<|Oi ((16*(bO (xs.getD (2*k) 0)))+(bO (xs.getD ((((2*k:Nat) : Int)+1)).toNat 0)))<|Pl 1<|L0<|dD (m:=1) (e:=5) #[.int .u8 (((16*(bO (xs.getD (2*k) 0)))+(bO (xs.getD ((((2*k:Nat) : Int)+1)).toNat 0)))%256)] fun a5 a6 N O o=>?_
 have P:=dR N (xs:=[(((16*(bO (xs.getD (2*k) 0)))+(bO (xs.getD ((((2*k:Nat) : Int)+1)).toNat 0)))%256)]) (by as_aux_lemma=>kernel_rfl) (az (by omega) aZ) (by(try simp only[List.length_cons,List.length_nil]);omega) O
 refine L0<|cR bt (xs:=L) (ys:=([(((16*(bO (xs.getD (2*k) 0)))+(bO (xs.getD ((((2*k:Nat) : Int)+1)).toNat 0)))%256)])) (.int .u8 0) 1 (ax j (aF v o) (fun x hx=>ay) (fun _ _ h=>h)) (P).rd (by(try simp only[List.length_append,List.length_cons,List.length_nil,aC]);omega) (le (le (le (le g.size p.size) r.size) s.size) o.size) fun Q R a7 S T=>Pl 1<|nl<|bn<|tn<|go<|Pl 1<|L0<|Oi (((2*k:Nat) : Int)+2)<|Pl 1<|nl<|?_
 have z:=kN (k:=k) hL (by omega) (by omega) (by rw[show 2*k+1=(((2*k:Nat) : Int)+1).toNat from by omega];omega)
 rw[show 2*k+1=(((2*k:Nat) : Int)+1).toNat from by omega] at z
 exact fF ((k+1),(L++[(((16*(bO (xs.getD (2*k) 0)))+(bO (xs.getD ((((2*k:Nat) : Int)+1)).toNat 0)))%256)]),Q,R) ⟨(ut y (ut (aD.mono (S':=(ob B++[])) o au) T (av il au)) (av (aV j lr) au)),S,(by(try dsimp only);omega),z,(by(try dsimp only);simp only[List.length_append,List.length_cons,List.length_nil];omega)⟩ (by omega)
 have H:=of_decide_eq_false n
 refine xt<|tx<|tx<|bx<|tn<|sg<|Pl 3<|nt<|rt<|rr (.tuple #[.slice B L.length cq,.int .i64 0])<|?_
 have hs:bW xs=some L:=lL hL (by omega)
 exact qt hs ⟨_,rfl,j,g⟩
open Go.RowKit
def fO (xs:List Int) : Bool:=decide (2≤((xs.length:Nat) : Int))&&decide (xs.drop (((xs.length:Nat) : Int)-2).toNat=[13,10])
def gE (b:List Int) : Option (List Int):=if b.getD 0 0=58∧fO (b.drop 1)=true then some ((b.drop 1).take (b.length-3)) else none
theorem oC{xs:List Int}(h:fO xs=true) : 2≤xs.length:=by
  unfold fO at h
  simp only[Bool.and_eq_true,decide_eq_true_eq] at h
  omega
theorem lY{b s:List Int}(h:gE b=some s) : b.getD 0 0=58∧fO (b.drop 1)=true∧s=(b.drop 1).take (b.length-3)∧3≤b.length:=by
  unfold gE at h
  split at h
  · rename_i hc
    injection h with h
    have:=oC hc.2
    rw[List.length_drop] at this
    exact⟨hc.1,hc.2,h.symm,by omega⟩
  · cases h
theorem t3{b s:List Int}(h:gE b=some s) : s.length=b.length-3:=by
  obtain⟨_,_,rfl,h3⟩:=lY h
  rw[List.length_take,List.length_drop]
  omega
def mu (xs:List Int)(w:World)(e:Ending)(w':World) : Prop:=match gE xs with
  | some l=>e = .returned (.tuple #[.string (strOfNums l),.bool true])∧aD [] w w'
  | none=>∃ s,e = .returned (.tuple #[.string s,.bool false])∧aD [] w w'
theorem kk{xs:List Int}{w:World}(hr:eS xs)(hl:xs.length≤1048576) : Calls Tryz.prog 260 #[.string (strOfNums xs),.string ⟨#[13,10]⟩] w (bP (.bool (fO xs)) w):=by
 refine en 21 Tryz.func260 rfl<|sg<|Pl 1<|ng<|Pl 1<|L0<|Oe (.int .i64 (((strOfNums xs).size:Nat) : Int)) (.int .i64 ((xs.length:Nat) : Int)) (by rw[strOfNums_size])<|Pl 4<|bl 10 ((decide (2≤((xs.length:Nat) : Int)))) (fun c=>?_) (fun c=>?_)
 have d:=of_decide_eq_true c
 refine Pl 2<|L1<|Oe (.int .i64 (((strOfNums xs).size:Nat) : Int)) (.int .i64 ((xs.length:Nat) : Int)) (by rw[strOfNums_size])<|Pl 2<|L1<|Oi (((xs.length:Nat) : Int)-2)<|?_
 have e:eS (xs.drop ((((xs.length:Nat) : Int)-2)).toNat):=ja hr ((((xs.length:Nat) : Int)-2)).toNat
 refine L1<|g9 (.string (strOfNums (xs.drop ((((xs.length:Nat) : Int)-2)).toNat))) (md (xs:=xs) (k:=.i64) (i:=(((xs.length:Nat) : Int)-2)) ((((xs.length:Nat) : Int)-2)).toNat rfl Tryz.underlying9 (by kernel_rfl) (by kernel_rfl) (by omega) (by omega))<|Pl 1<|L1<|g9 (.bool (decide ((xs.drop ((((xs.length:Nat) : Int)-2)).toNat)=[13,10]))) (eY (a:=(strOfNums (xs.drop ((((xs.length:Nat) : Int)-2)).toNat))) (b:=⟨#[13,10]⟩) rfl (by kernel_rfl) (by kernel_rfl) (v5 (ys:=[13,10]) e (by decide)))<|Pl 2<|nt<|rt<|rr (.bool (decide ((xs.drop ((((xs.length:Nat) : Int)-2)).toNat)=[13,10])))<|?_
 have hs:fO xs=(decide ((xs.drop ((((xs.length:Nat) : Int)-2)).toNat)=[13,10])):=by unfold fO;(try simp only[c,bs,if_true,if_false,decide_true,decide_false]);all_goals rfl
 rw[hs]
 exact⟨rfl,(aD.refl [] _)⟩
 have d:=of_decide_eq_false c
 refine Pl 11<|nt<|rt<|rr (.bool false)<|?_
 have hs:fO xs=false:=by unfold fO;(try simp only[c,bs,if_true,if_false,decide_true,decide_false]);all_goals rfl
 rw[hs]
 exact⟨rfl,(aD.refl [] _)⟩
theorem rB{xs:List Int}{w:World}(hr:eS xs)(hl:xs.length≤1048576)(hq:fO xs=true) : Calls Tryz.prog 229 #[.string (strOfNums xs),.string ⟨#[13,10]⟩] w (bP (.tuple #[.string (strOfNums (xs.take (((xs.length:Nat) : Int)-2).toNat)),.bool true]) w):=by
 have hq2:=oC hq
 refine en 18 Tryz.func229 rfl<|sg<|Pl 2<|nt<|sq<|sg<|Pl 2<|L0<|Oc<|m1 (kk (xs:=xs) (w:=_) hr (by omega)) fun c a=>Pl 1<|nt<|?_
 have b:(!(fO xs))=false:=by simp only[hq,Bool.not_true,Bool.not_false]
 refine cf b<|bi<|sg<|Pl 2<|L0<|Oe (.int .i64 (((strOfNums xs).size:Nat) : Int)) (.int .i64 ((xs.length:Nat) : Int)) (by rw[strOfNums_size])<|Pl 2<|L0<|Oi (((xs.length:Nat) : Int)-2)<|?_
 have d:eS (xs.take ((((xs.length:Nat) : Int)-2)).toNat):=ma hr ((((xs.length:Nat) : Int)-2)).toNat
 refine L0<|g9 (.string (strOfNums (xs.take ((((xs.length:Nat) : Int)-2)).toNat))) (rC (xs:=xs) (k:=.i64) (i:=(((xs.length:Nat) : Int)-2)) ((((xs.length:Nat) : Int)-2)).toNat rfl Tryz.underlying9 (by kernel_rfl) (by kernel_rfl) (by omega) (by omega))<|Pl 2<|nt<|rt<|rr (.tuple #[.string (strOfNums (xs.take ((((xs.length:Nat) : Int)-2)).toNat)),.bool true])<|?_
 exact⟨rfl,a⟩
theorem uF{xs:List Int}{w:World}(hr:eS xs)(hl:xs.length≤1048576)(hq:fO xs=true) : Calls Tryz.prog 183 #[.string (strOfNums xs),.string ⟨#[13,10]⟩] w (bP (.tuple #[.string (strOfNums (xs.take (((xs.length:Nat) : Int)-2).toNat)),.bool true]) w):=by
 refine en 11 Tryz.func183 rfl<|sg<|Pl 2<|ng<|Pl 2<|L0<|Oc<|m1 (rB (xs:=xs) (w:=_) hr hl hq) fun b a=>Pl 4<|nt<|rt<|?_
 refine rr (.tuple #[.string (strOfNums (xs.take (((xs.length:Nat) : Int)-2).toNat)),.bool true])<|?_
 exact⟨rfl,a⟩
theorem sB{xs:List Int}{w:World}(hr:eS xs)(hl:xs.length≤1048576)(hq:fO xs=false) : Calls Tryz.prog 229 #[.string (strOfNums xs),.string ⟨#[13,10]⟩] w (bP (.tuple #[.string (strOfNums xs),.bool false]) w):=by
 refine en 18 Tryz.func229 rfl<|sg<|Pl 2<|nt<|sq<|sg<|Pl 2<|L0<|Oc<|m1 (kk (xs:=xs) (w:=_) hr (by omega)) fun c a=>Pl 1<|nt<|?_
 have b:(!(fO xs))=true:=by simp only[hq,Bool.not_true,Bool.not_false]
 refine ct b<|sg<|Pl 3<|nt<|rt<|tr<|rr (.tuple #[.string (strOfNums xs),.bool false])<|?_
 exact⟨rfl,a⟩
theorem tZ{xs:List Int}{w:World}(hr:eS xs)(hl:xs.length≤1048576)(hq:fO xs=false) : Calls Tryz.prog 183 #[.string (strOfNums xs),.string ⟨#[13,10]⟩] w (bP (.tuple #[.string (strOfNums xs),.bool false]) w):=by
 refine en 11 Tryz.func183 rfl<|sg<|Pl 2<|ng<|Pl 2<|L0<|Oc<|m1 (sB (xs:=xs) (w:=_) hr hl hq) fun b a=>Pl 4<|nt<|rt<|?_
 refine rr (.tuple #[.string (strOfNums xs),.bool false])<|?_
 exact⟨rfl,a⟩
theorem wM{b:List Int}(h:b.getD 0 0=58)(k:fO (b.drop 1)=true) : gE b=some ((b.drop 1).take (b.length-3)):=if_pos ⟨h,k⟩
theorem vQ{b:List Int}(h:¬ b.getD 0 0=58) : gE b=none:=if_neg fun k=>h k.1
theorem uW{b:List Int}(k:fO (b.drop 1)=false) : gE b=none:=if_neg fun h=>by rw[k] at h;cases h.2
theorem xg{b l:List Int}{w w':World}{e:Ending}(h:gE b=some l)(k:e = .returned (.tuple #[.string (strOfNums l),.bool true])∧aD [] w w') : mu b w e w':=by
  unfold mu
  rw[h]
  exact k
theorem t8{b:List Int}{w w':World}{e:Ending}(h:gE b=none)(k:∃ s,e = .returned (.tuple #[.string s,.bool false])∧aD [] w w') : mu b w e w':=by
  unfold mu
  rw[h]
  exact k
theorem jP{b:List Int}{w:World}(hr:eS b)(hl:b.length≤1048576)(h0:0<b.length) : Calls Tryz.prog 122 #[.string (strOfNums b)] w (mu b w):=by
 refine en 18 Tryz.func122 rfl<|sg<|Pl 2<|nt<|sq<|sg<|Pl 1<|L0<|yQ (sv:=strOfNums b) Tryz.underlying9 fun f m n o p=>nt<|bk<|?_
 refine hY (fun x=>[(0,.string (strOfNums b)),(7,.pointer (some ⟨f,0,none⟩))]) (fun(x:Unit) w'=>aD [] m w'∧(0≤0)) (fun x=>0) () ⟨aD.refl _ _,(by(try dsimp only);omega)⟩ ?_
 rintro z v ⟨g,q⟩
 refine i1 [(0,.string (strOfNums b)),(7,.pointer (some ⟨f,0,none⟩))] ?_
 have y:0≤0:=q
 refine sg<|?_
 refine L0<|zM hr (by omega) (ub g o) fun r A h s=>Pl 1<|nt<|sq<|c1<|bi<|bk<|sg<|Pl 2<|nt<|?_
 refine sq<|sg<|Pl 2<|nt<|?_
 have a:=ud p (uz g s) n
 refine cb ((r != 58)) (fun c=>?_) (fun c=>?_)
 have d:=aq c
 refine sg<|Pl 2<|nt<|rt<|tr<|br<|tr<|br<|tr<|rr (.tuple #[.string ⟨#[]⟩,.bool false])<|?_
 exact t8 (vQ fun e=>d (h.2 e)) ⟨_,rfl,a⟩
 have d:=ai c
 refine bi<|xt<|zA<|tx<|bx<|tn<|sg<|Pl 1<|?_
 have j:eS (b.drop 1):=ja hr 1
 refine L0<|g9 (.string (strOfNums (b.drop 1))) (md (xs:=b) (k:=.i64) (i:=1) 1 rfl Tryz.underlying9 (by kernel_rfl) (by kernel_rfl) rfl (by omega))<|?_
 rcases dO (fO (b.drop 1)) with hq|hq
 refine L0<|Oc<|m1 (uF (xs:=(b.drop 1)) (w:=_) j (by rw[List.length_drop];omega) hq) fun B t=>Pl 4<|nt<|rt<|rr (.tuple #[.string (strOfNums ((b.drop 1).take ((((b.drop 1).length:Nat) : Int)-2).toNat)),.bool true])<|?_
 exact xg (l:=(b.drop 1).take (b.length-3)) (wM (h.1 d) hq) ⟨by rw[show b.length-3=((((b.drop 1).length:Nat) : Int)-2).toNat from by rw[List.length_drop];omega],(aF a t)⟩
 refine L0<|Oc<|m1 (tZ (xs:=(b.drop 1)) (w:=_) j (by rw[List.length_drop];omega) hq) fun C u=>Pl 4<|nt<|rt<|rr (.tuple #[.string (strOfNums (b.drop 1)),.bool false])<|?_
 exact t8 (uW hq) ⟨_,rfl,(aF a u)⟩
open Go.RowKit
theorem ro{b s:List Int}(hr:eS b)(h:gE b=some s) : eS s:=by
  obtain⟨_,_,rfl,_⟩:=lY h
  exact ma (ja hr 1) _
theorem wj{b l:List Int}{w:World}(h:gE b=some l)(e:Ending)(w':World)(k:mu b w e w') : e = .returned (.tuple #[.string (strOfNums l),.bool true])∧aD [] w w':=by
  unfold mu at k
  rw[h] at k
  exact k
theorem uQ{b:List Int}{w:World}(h:gE b=none)(e:Ending)(w':World)(k:mu b w e w') : ∃ s,e = .returned (.tuple #[.string s,.bool false])∧aD [] w w':=by
  unfold mu at k
  rw[h] at k
  exact k
theorem oL{b l:List Int}{w:World}(h:bW b=some l)(e:Ending)(w':World)(k:fL b w e w') : ∃ v,e = .returned (.tuple #[v,.int .i64 0])∧eq w.heap.size w' v l∧aD [] w w':=by
  unfold fL at k
  rw[h] at k
  exact k
theorem oa{b:List Int}{w:World}(h:bW b=none)(e:Ending)(w':World)(k:fL b w e w') : e = .returned (.tuple #[.slice none 0 0,.int .i64 11])∧aD [] w w':=by
  unfold fL at k
  rw[h] at k
  exact k
def iF (x:List Int) : List Int:=(x.take (x.length-1)).drop 1
theorem ik(x:List Int) : iF x=(x.take (((x.length:Nat) : Int)-1).toNat).drop 1:=by
  unfold iF
  rw[show(((x.length:Nat) : Int)-1).toNat=x.length-1 from by omega]
def eD (dir:Int)(b:List Int) : d7 × Int :=
  if dir != 0&&dir != 1 then (d7.zero,1)
  else if decide ((b.length:Int)<9) then (d7.zero,2)
  else if decide (513<(b.length:Int)) then (d7.zero,3)
  else match gE b with
    | none=>(d7.zero,12)
    | some s=>match bW s with
      | none=>(d7.zero,11)
      | some x=>if !(ez x) then (d7.zero,10) else bY (x.getD 0 0) 0 (cZ dir (iF x))
theorem ph{m:Md}{A:Option Addr}{cp:Nat}{b:List Int}{w:World}{dir:Int}(hsl0:aT m w (.slice A b.length cp) b)(hb:b.length≤1048576) :
    Calls Tryz.prog 60 #[.int .i64 dir,.slice A b.length cp] w (jO (eD dir b) w):=by
 have hln:(b.length:Int)≤1048576:=by omega
 have hr:eS b:=aT.range hsl0
 refine en 71 Tryz.func60 rfl<|sg<|L0<|bE #[.int .u8 0,.int .u16 0,.int .u8 0,.int .u8 0,.int .u16 0,.int .u16 0,.int .u16 0,.int .u16 0,.int .u16 0,.int .u16 0,.int .u16 0,.int .u16 0,.int .u16 0,.int .u16 0,.slice none 0 0,.slice none 0 0,.slice none 0 0,.slice none 0 0,.int .u8 0,.int .u8 0,.int .u8 0,.int .u8 0,.int .u8 0,.slice none 0 0] fun bw X k d o=>Pl 1<|nt<|sq<|bk<|sg<|Pl 3<|cu 3 [14] 17 (((dir != 0)&&(dir != 1))) (fun K Y=>?_) ?_
 refine bl 14 ((dir != 0)) (fun F=>?_) (fun F=>?_)
 have al:=aq F
 exact Pl 3<|ce Y (dir != 1) (by rw[F];rfl)
 have al:=ai F
 exact Pl 3<|ce Y false (by rw[F];rfl)
 refine Pl 1<|nt<|cb (((dir != 0)&&(dir != 1))) (fun f=>?_) (fun f=>?_)
 have Z:=(aR f).1
 have a0:=(aR f).2
 have bx:=aq Z
 have bA:=aq a0
 refine sg<|Pl 1<|L0<|aW d #[.int .u8 0,.int .u16 0,.int .u8 0,.int .u8 0,.int .u16 0,.int .u16 0,.int .u16 0,.int .u16 0,.int .u16 0,.int .u16 0,.int .u16 0,.int .u16 0,.int .u16 0,.int .u16 0,.slice none 0 0,.slice none 0 0,.slice none 0 0,.slice none 0 0,.int .u8 0,.int .u8 0,.int .u8 0,.int .u8 0,.int .u8 0,.slice none 0 0] fun bB an ao=>Pl 1<|nt<|rt<|br<|tr<|bz an (.int .i64 1)<|?_
 have hs:eD dir b=(d7.zero,1):=by
   unfold eD
   (try simp only[f,Z,a0,bs,if_true,if_false,decide_true,decide_false,bY,reduceIte])
   all_goals rfl
 refine dh hs ?_
 exact cw (ud o ao k)
 refine sg<|Pl 4<|nt<|cb ((decide (((b.length:Nat) : Int)<9))) (fun i=>?_) (fun i=>?_)
 have ap:=of_decide_eq_true i
 refine sg<|Pl 1<|L0<|aW d #[.int .u8 0,.int .u16 0,.int .u8 0,.int .u8 0,.int .u16 0,.int .u16 0,.int .u16 0,.int .u16 0,.int .u16 0,.int .u16 0,.int .u16 0,.int .u16 0,.int .u16 0,.int .u16 0,.slice none 0 0,.slice none 0 0,.slice none 0 0,.slice none 0 0,.int .u8 0,.int .u8 0,.int .u8 0,.int .u8 0,.int .u8 0,.slice none 0 0] fun bC ar au=>Pl 1<|nt<|rt<|br<|tr<|bz ar (.int .i64 2)<|?_
 have hs:eD dir b=(d7.zero,2):=by
   unfold eD
   (try simp only[f,i,bs,if_true,if_false,decide_true,decide_false,bY,reduceIte])
   all_goals rfl
 refine dh hs ?_
 exact cw (ud o au k)
 have ap:=of_decide_eq_false i
 refine sg<|Pl 4<|nt<|cb ((decide (513<((b.length:Nat) : Int)))) (fun j=>?_) (fun j=>?_)
 have av:=of_decide_eq_true j
 refine sg<|Pl 1<|L0<|aW d #[.int .u8 0,.int .u16 0,.int .u8 0,.int .u8 0,.int .u16 0,.int .u16 0,.int .u16 0,.int .u16 0,.int .u16 0,.int .u16 0,.int .u16 0,.int .u16 0,.int .u16 0,.int .u16 0,.slice none 0 0,.slice none 0 0,.slice none 0 0,.slice none 0 0,.int .u8 0,.int .u8 0,.int .u8 0,.int .u8 0,.int .u8 0,.slice none 0 0] fun bD aw az=>Pl 1<|nt<|rt<|br<|tr<|bz aw (.int .i64 3)<|?_
 have hs:eD dir b=(d7.zero,3):=by
   unfold eD
   (try simp only[f,i,j,bs,if_true,if_false,decide_true,decide_false,bY,reduceIte])
   all_goals rfl
 refine dh hs ?_
 exact cw (ud o az k)
 have av:=of_decide_eq_false j
 refine sk<|bn<|tn<|sg<|Pl 1<|?_
 have Q:=aT.old hsl0 o
 refine L0<|g9 (.string (strOfNums b)) (cL (A:=A) (n:=b.length) (c:=cp) rfl (by kernel_rfl) Tryz.underlying22 Tryz.underlying5 Tryz.underlying9 Q)<|?_
 rcases hds:gE b with _|sd
 have aC:=jP (w:=X) (aT.range Q) hb (by omega)
 have aD:=aC.mono (uQ hds)
 refine L0<|Oc (args:=#[.string (strOfNums b)])<|e1 aD fun bF bG a1=>Pl 5<|nt<|sq<|sg<|Pl 2<|nt<|c1<|sg<|Pl 1<|?_
 refine L0<|aW (ub a1 d) #[.int .u8 0,.int .u16 0,.int .u8 0,.int .u8 0,.int .u16 0,.int .u16 0,.int .u16 0,.int .u16 0,.int .u16 0,.int .u16 0,.int .u16 0,.int .u16 0,.int .u16 0,.int .u16 0,.slice none 0 0,.slice none 0 0,.slice none 0 0,.slice none 0 0,.int .u8 0,.int .u8 0,.int .u8 0,.int .u8 0,.int .u8 0,.slice none 0 0] fun bH aE aH=>Pl 1<|nt<|rt<|tr<|bz aE (.int .i64 12)<|?_
 have hs:eD dir b=(d7.zero,12):=by
   unfold eD
   (try simp only[f,i,j,bs,if_true,if_false,decide_true,decide_false,bY,hds,reduceIte])
   all_goals rfl
 refine dh hs ?_
 exact cw (ud o (uz a1 aH) k)
 have hsl:=t3 hds
 have hsd:eS sd:=ro hr hds
 have aI:=jP (w:=X) (aT.range Q) hb (by omega)
 have aJ:=aI.mono (wj hds)
 refine L0<|Oc (args:=#[.string (strOfNums b)])<|m1 aJ fun a2 l=>Pl 5<|nt<|sq<|sg<|Pl 2<|nt<|c0<|bi<|sq<|?_
 refine go<|Pl 1<|?_
 have a3:=aF o l
 rcases hth:bW sd with _|x
 have aK:=(m0 (w:=a2) hsd (by omega)).mono (oa hth)
 refine L0<|Oc<|m1 aK fun bI a4=>Pl 5<|nt<|sq<|sg<|Pl 2<|nt<|c1<|sg<|Pl 2<|?_
 refine L0<|aW (ub (aF l a4) d) #[.int .u8 0,.int .u16 0,.int .u8 0,.int .u8 0,.int .u16 0,.int .u16 0,.int .u16 0,.int .u16 0,.int .u16 0,.int .u16 0,.int .u16 0,.int .u16 0,.int .u16 0,.int .u16 0,.slice none 0 0,.slice none 0 0,.slice none 0 0,.slice none 0 0,.int .u8 0,.int .u8 0,.int .u8 0,.int .u8 0,.int .u8 0,.slice none 0 0] fun bJ aN aO=>Pl 1<|nt<|rt<|tr<|bz aN (.int .i64 11)<|?_
 have hs:eD dir b=(d7.zero,11):=by
   unfold eD
   (try simp only[f,i,j,bs,if_true,if_false,decide_true,decide_false,bY,hds,hth,reduceIte])
   all_goals rfl
 refine dh hs ?_
 exact cw (ud a3 (uz a4 aO) k)
 have hxl:=lJ hth
 have aP:=(m0 (w:=a2) hsd (by omega)).mono (oL hth)
 refine L0<|Oc<|ej aP fun R J bK S bL bN a5=>Pl 5<|nt<|sq<|sg<|Pl 2<|nt<|c0<|bi<|sq<|?_
 refine sg<|Pl 1<|L0<|Oc (args:=#[.slice R x.length J])<|m1 (se (S).rd) fun aQ T=>Pl 1<|nt<|?_
 have G:=aF a5 T
 have a6:=aF a3 G
 refine cb ((!(ez x))) (fun p=>?_) (fun p=>?_)
 have L:(ez x)=false:=by simpa using p
 refine sg<|Pl 1<|?_
 refine L0<|aW (ub (aF l G) d) #[.int .u8 0,.int .u16 0,.int .u8 0,.int .u8 0,.int .u16 0,.int .u16 0,.int .u16 0,.int .u16 0,.int .u16 0,.int .u16 0,.int .u16 0,.int .u16 0,.int .u16 0,.int .u16 0,.slice none 0 0,.slice none 0 0,.slice none 0 0,.slice none 0 0,.int .u8 0,.int .u8 0,.int .u8 0,.int .u8 0,.int .u8 0,.slice none 0 0] fun bO aS aU=>Pl 1<|nt<|rt<|tr<|bz aS (.int .i64 10)<|?_
 have hs:eD dir b=(d7.zero,10):=by
   unfold eD
   (try simp only[f,i,j,p,L,bs,if_true,if_false,decide_true,decide_false,bY,hds,hth,reduceIte])
   all_goals rfl
 refine dh hs ?_
 exact cw (ud a6 aU k)
 have L:(ez x)=true:=by simpa using p
 refine bi<|sg<|Pl 4<|L0<|Oi (((x.length:Nat) : Int)-1)<|jW (fg (P:=Tryz.prog) 22 5 1 Tryz.underlying22 rfl rfl R x.length J (lo:=1) (up:=(((x.length:Nat) : Int)-1)) 1 (((((x.length:Nat) : Int)-1)).toNat) (by omega) (by omega) (by omega) (by omega) (by omega)) fun aV hrun79 aY=>L0<|g9 (.slice aV ((((((x.length:Nat) : Int)-1)).toNat)-1) (J-1)) (ec (kl:=.i64) (kh:=.i64) (lo:=1) (hi:=(((x.length:Nat) : Int)-1)) (A:=R) (n:=x.length) (c:=J) rfl Tryz.underlying22 (by kernel_rfl) (by kernel_rfl) (by kernel_rfl) (hrun79 _ _ _))<|?_
 obtain⟨a,H,U⟩ : ∃ M E,cZ dir ((x.take (((((x.length:Nat) : Int)-1)).toNat)).drop 1)=(M,E):=⟨_,_,rfl⟩
 have a7:=ax S T (fun x hx=>ay) (fun _ _ h=>h)
 have a8:=jf (dir:=dir) (w:=aQ) (aY _ _ _ _ _ (a7).rd) (by rw[List.length_drop,List.length_take];omega)
 rw[U] at a8
 refine L0<|Oc<|e2 a8 fun aZ bP a9 V=>?_
 have b0:=a9
 obtain⟨b1,b2,b3,b4,b5,b6,b7,b9,ba,bb,bc,bQ⟩:=b0
 obtain rfl:aZ=(bM a b1 b2 b3 b4 b5).toArray:=by apply Array.toList_inj.1;simpa using b6
 obtain⟨q,r,rfl,_,_⟩:=b7.shape
 obtain⟨s,t,rfl,_,_⟩:=b9.shape
 obtain⟨u,v,rfl,_,_⟩:=ba.shape
 obtain⟨y,z,rfl,_,_⟩:=bb.shape
 obtain⟨B,C,rfl,_,_⟩:=bc.shape
 refine Pl 3<|L0<|bE mZ fun ab bR ac bd be=>L0<|aW bd (mG a.code a.fail a.addr a.count a.value a.and_ a.or_ a.addr2 a.sub a.status a.events a.messages (.slice q a.words.length r) (.slice s a.bits.length t) (.slice u a.data.length v) (.slice y a.recs.length z) a.mei a.kind a.level a.more a.next (.slice B a.objects.length C)) fun bS bf bh=>Pl 1<|nt<|sq<|sg<|Pl 2<|nt<|?_
 have ad:=ud be bh ac
 have N:=aF V ad
 have ae:=aF a6 N
 refine cb ((H != 0)) (fun I=>?_) (fun I=>?_)
 have bj:=aq I
 refine sg<|Pl 2<|?_
 refine L0<|aW (ub (aF l (aF G N)) d) #[.int .u8 0,.int .u16 0,.int .u8 0,.int .u8 0,.int .u16 0,.int .u16 0,.int .u16 0,.int .u16 0,.int .u16 0,.int .u16 0,.int .u16 0,.int .u16 0,.int .u16 0,.int .u16 0,.slice none 0 0,.slice none 0 0,.slice none 0 0,.slice none 0 0,.int .u8 0,.int .u8 0,.int .u8 0,.int .u8 0,.int .u8 0,.slice none 0 0] fun bT bm bo=>Pl 1<|nt<|rt<|tr<|bz bm (.int .i64 H)<|?_
 have hX2:cZ dir (iF x)=(a,H):=(congrArg (cZ dir) (ik x)).trans U
 have hs:eD dir b=(d7.zero,H):=by
   unfold eD
   (try simp only[f,i,j,p,L,I,bs,if_true,if_false,decide_true,decide_false,bY,hds,hth,hX2,reduceIte])
   all_goals rfl
 refine dh hs ?_
 exact cw (ud ae bo k)
 have bj:=ai I
 refine bi<|sq<|?_
 have af:=ax a7 N (fun x hx=>ay) (fun _ _ h=>h)
 refine eJ (aT.at_ (af).rd 0 (by omega)) fun bp bq ag bt bU=>Rg 8 (fun w'=>w'.cell? ⟨bp,bq+0,none⟩=some (.int .u8 (x.getD 0 0))∧w'.heap[ab]? = some (.cells (mG a.code a.fail a.addr a.count a.value a.and_ a.or_ a.addr2 a.sub a.status a.events a.messages (.slice q a.words.length r) (.slice s a.bits.length t) (.slice u a.data.length v) (.slice y a.recs.length z) a.mei a.kind a.level a.more a.next (.slice B a.objects.length C)) 30 (0,0))) fun bV O=>?_
 have ah:=ub O bf
 refine bg ⟨(uc O bt),ah⟩ fun D=>Rt 0 D<|kU 1 D x.length 0 0 rfl ag (by omega)<|Rl 2 D (fun _ hs=>hs.1)<|Rt 3 D<|Rr 4 D (.agg (mG a.code a.fail a.addr a.count a.value a.and_ a.or_ a.addr2 a.sub a.status a.events a.messages (.slice q a.words.length r) (.slice s a.bits.length t) (.slice u a.data.length v) (.slice y a.recs.length z) a.mei a.kind a.level a.more a.next (.slice B a.objects.length C))) (fun w' hs=>gM (g:=ab) (off:=0) [.int .u8 a.code,.int .u8 a.fail,.int .u16 a.addr,.int .u16 a.count,.int .u16 a.value,.int .u16 a.and_,.int .u16 a.or_,.int .u16 a.addr2,.int .u16 a.sub,.int .u16 a.status,.int .u16 a.events,.int .u16 a.messages,.slice q a.words.length r,.slice s a.bits.length t,.slice u a.data.length v,.slice y a.recs.length z,.int .u8 a.mei,.int .u8 a.kind,.int .u8 a.level,.int .u8 a.more,.int .u8 a.next,.slice B a.objects.length C] rfl (by kernel_rfl) hs.2 (by kernel_rfl) (by kernel_rfl) rfl)<|Rt 5 D<|?_
 refine R0 6 rfl<|aW (ub (aF l (aF G (aF N O))) d) #[.int .u8 (x.getD 0 0),.int .u16 0,.int .u8 a.code,.int .u8 a.fail,.int .u16 a.addr,.int .u16 a.count,.int .u16 a.value,.int .u16 a.and_,.int .u16 a.or_,.int .u16 a.addr2,.int .u16 a.sub,.int .u16 a.status,.int .u16 a.events,.int .u16 a.messages,.slice q a.words.length r,.slice s a.bits.length t,.slice u a.data.length v,.slice y a.recs.length z,.int .u8 a.mei,.int .u8 a.kind,.int .u8 a.level,.int .u8 a.more,.int .u8 a.next,.slice B a.objects.length C] fun bX bu aj=>?_
 have W:=uz O aj
 refine bg ⟨(cB ((ax af W (fun x hx=>(aa (fun e=>(aA (am d) l.size S) (e▸hx)) ay)) (fun _ _ h=>h))).rd ag 0 (by omega)),(aX aj (Ne.symm (nb (am d) (le (le (le l.size a5.size) T.size) V.size) ac)) ah)⟩ fun bv=>Rt 7 bv<|re<|tn<|rt<|bz bu (.int .i64 0)<|?_
 have hX2:cZ dir (iF x)=(a,H):=(congrArg (cZ dir) (ik x)).trans U
 have hs:eD dir b=(⟨(x.getD 0 0),0,a⟩,0):=by
   unfold eD
   (try simp only[f,i,j,p,L,I,bs,if_true,if_false,decide_true,decide_false,bY,hds,hth,hX2,reduceIte])
   all_goals rfl
 refine dh hs ?_
 exact⟨_,rfl,⟨#[.int .u8 a.code,.int .u8 a.fail,.int .u16 a.addr,.int .u16 a.count,.int .u16 a.value,.int .u16 a.and_,.int .u16 a.or_,.int .u16 a.addr2,.int .u16 a.sub,.int .u16 a.status,.int .u16 a.events,.int .u16 a.messages,.slice q a.words.length r,.slice s a.bits.length t,.slice u a.data.length v,.slice y a.recs.length z,.int .u8 a.mei,.int .u8 a.kind,.int .u8 a.level,.int .u8 a.more,.int .u8 a.next,.slice B a.objects.length C],(by as_aux_lemma=>kernel_rfl),(aL.upd a9 (uz ad W) (ak (aM (ub (aF l (aF G V)) d) (by decide)) aG)),b8 (x:=(x.getD 0 0)) (by omega),aB (x:=0) (by omega)⟩,(ud ae W k)⟩
theorem qX{m:Md}{v:Value}{b:List Int}{w:World}{dir:Int}(h:aT m w v b)(hb:b.length≤1048576) : Calls Tryz.prog 60 #[.int .i64 dir,v] w (jO (eD dir b) w):=by
  obtain⟨A,cp,rfl,_,_⟩:=h.shape
  exact ph h hb
open Go.RowKit
theorem lh.weaken{base base':Nat}{w:World}{v:Value}{xs:List Int}(h:lh base w v xs)(k:base'≤base) : lh base' w v xs:=by
  obtain⟨g,cap,cur,n,h1,h2,h3⟩:=h
  exact⟨g,cap,cur,n,h1,Nat.le_trans k h2,h3⟩
open Go.RowKit
theorem o3{m:Md}{v:Value}{b:List Int}{w:World}{dir:Int}{F:d7}{E:Int}(hX:eD dir b=(F,E))(h:aT m w v b)(hb:b.length≤1048576) : Calls Tryz.prog 60 #[.int .i64 dir,v] w (fun e w'=>∃ x,e = .returned (.tuple #[.agg (fD F.unit F.tid F.msg x),.int .i64 E])∧(aL true w' (gF F.msg x).toList F.msg∧(0≤F.unit∧F.unit<256)∧(0≤F.tid∧F.tid<65536))∧aD [] w w'):=by
  refine(qX h hb).mono ?_
  rintro e w' ⟨cs,rfl,h1,h2⟩
  rw[hX] at h1 ⊢
  obtain⟨c,rfl,h3,h4,h5⟩:=h1
  obtain⟨x,rfl⟩:=jZ h3
  exact⟨x,by rw[j5],⟨h3,h4,h5⟩,h2⟩
open Go.RowKit
def uJ (b:List Int) : ah:=⟨b,false,0⟩
def uM (b:List Int) : ah:=(uJ b).wordsC 1
def u6 (b:List Int) : ah:=(uM b).wordsC 1
def th (b:List Int) : ah:=(u6 b).wordsC 1
def tN (b:List Int) : ah:=(th b).bytesC 1
def nf (b:List Int) : List Int:=(tN b).bytesR (((tN b).l.length:Nat) : Int)
def dH (dir:Int)(b:List Int) : d7 × Int :=
  if dir != 0&&dir != 1 then (d7.zero,1)
  else if decide ((b.length:Int)<8) then (d7.zero,2)
  else if decide (260<(b.length:Int)) then (d7.zero,3)
  else if (uM b).wordV != 0 then (d7.zero,13)
  else if (u6 b).wordV != (b.length:Int)-6 then (d7.zero,5)
  else bY (th b).byteV (uJ b).wordV (cZ dir (nf b))
theorem oq{m:Md}{A:Option Addr}{cp:Nat}{b:List Int}{w:World}{dir:Int}(hsl:aT m w (.slice A b.length cp) b)(hb:b.length≤1048576) :
    Calls Tryz.prog 32 #[.int .i64 dir,.slice A b.length cp] w (jO (dH dir b) w):=by
 have hln:(b.length:Int)≤1048576:=by omega
 refine en 75 Tryz.func32 rfl<|sg<|L0<|bE #[.int .u8 0,.int .u16 0,.int .u8 0,.int .u8 0,.int .u16 0,.int .u16 0,.int .u16 0,.int .u16 0,.int .u16 0,.int .u16 0,.int .u16 0,.int .u16 0,.int .u16 0,.int .u16 0,.slice none 0 0,.slice none 0 0,.slice none 0 0,.slice none 0 0,.int .u8 0,.int .u8 0,.int .u8 0,.int .u8 0,.int .u8 0,.slice none 0 0] fun b2 b3 g e i=>Pl 1<|nt<|sq<|bk<|sg<|Pl 3<|cu 3 [17] 20 (((dir != 0)&&(dir != 1))) (fun K N=>?_) ?_
 refine bl 17 ((dir != 0)) (fun o=>?_) (fun o=>?_)
 have Z:=aq o
 exact Pl 3<|ce N (dir != 1) (by rw[o];rfl)
 have Z:=ai o
 exact Pl 3<|ce N false (by rw[o];rfl)
 refine Pl 1<|nt<|cb (((dir != 0)&&(dir != 1))) (fun c=>?_) (fun c=>?_)
 have O:=(aR c).1
 have P:=(aR c).2
 have b4:=aq O
 have b5:=aq P
 refine sg<|Pl 1<|L0<|aW e #[.int .u8 0,.int .u16 0,.int .u8 0,.int .u8 0,.int .u16 0,.int .u16 0,.int .u16 0,.int .u16 0,.int .u16 0,.int .u16 0,.int .u16 0,.int .u16 0,.int .u16 0,.int .u16 0,.slice none 0 0,.slice none 0 0,.slice none 0 0,.slice none 0 0,.int .u8 0,.int .u8 0,.int .u8 0,.int .u8 0,.int .u8 0,.slice none 0 0] fun b6 a0 a1=>Pl 1<|nt<|rt<|br<|tr<|bz a0 (.int .i64 1)<|?_
 have hs:dH dir b=(d7.zero,1):=by
   unfold dH
   (try simp only[c,O,P,bs,if_true,if_false,decide_true,decide_false,bY,tN,th,u6,uM,uJ,reduceIte])
   all_goals rfl
 refine dh hs ?_
 exact cw (ud i a1 g)
 refine sg<|Pl 4<|nt<|cb ((decide (((b.length:Nat) : Int)<8))) (fun d=>?_) (fun d=>?_)
 have a2:=of_decide_eq_true d
 refine sg<|Pl 1<|L0<|aW e #[.int .u8 0,.int .u16 0,.int .u8 0,.int .u8 0,.int .u16 0,.int .u16 0,.int .u16 0,.int .u16 0,.int .u16 0,.int .u16 0,.int .u16 0,.int .u16 0,.int .u16 0,.int .u16 0,.slice none 0 0,.slice none 0 0,.slice none 0 0,.slice none 0 0,.int .u8 0,.int .u8 0,.int .u8 0,.int .u8 0,.int .u8 0,.slice none 0 0] fun b7 a3 a4=>Pl 1<|nt<|rt<|br<|tr<|bz a3 (.int .i64 2)<|?_
 have hs:dH dir b=(d7.zero,2):=by
   unfold dH
   (try simp only[c,d,bs,if_true,if_false,decide_true,decide_false,bY,tN,th,u6,uM,uJ,reduceIte])
   all_goals rfl
 refine dh hs ?_
 exact cw (ud i a4 g)
 have a2:=of_decide_eq_false d
 refine sg<|Pl 4<|nt<|cb ((decide (260<((b.length:Nat) : Int)))) (fun f=>?_) (fun f=>?_)
 have a5:=of_decide_eq_true f
 refine sg<|Pl 1<|L0<|aW e #[.int .u8 0,.int .u16 0,.int .u8 0,.int .u8 0,.int .u16 0,.int .u16 0,.int .u16 0,.int .u16 0,.int .u16 0,.int .u16 0,.int .u16 0,.int .u16 0,.int .u16 0,.int .u16 0,.slice none 0 0,.slice none 0 0,.slice none 0 0,.slice none 0 0,.int .u8 0,.int .u8 0,.int .u8 0,.int .u8 0,.int .u8 0,.slice none 0 0] fun b9 a6 a7=>Pl 1<|nt<|rt<|br<|tr<|bz a6 (.int .i64 3)<|?_
 have hs:dH dir b=(d7.zero,3):=by
   unfold dH
   (try simp only[c,d,f,bs,if_true,if_false,decide_true,decide_false,bY,tN,th,u6,uM,uJ,reduceIte])
   all_goals rfl
 refine dh hs ?_
 exact cw (ud i a7 g)
 have a5:=of_decide_eq_false f
 refine sk<|bn<|tn<|sg<|Pl 1<|?_
 refine L0<|Oc<|e3 (dJ (aT.old hsl i) (by omega)) fun u ba p a8 a9=>Pl 1<|ng<|Pl 1<|ng<|Pl 2<|L0<|fN #[] #[] (args:=#[.pointer (some ⟨u,0,none⟩)])<|m3 (bR a8) fun bb aa ac bc=>Pl 2<|L0<|fN #[] #[] (args:=#[.pointer (some ⟨u,0,none⟩)])<|m3 (bR aa) fun bd ad ae be=>?_
 refine ab ad fun x46 s af=>?_
 refine Pl 2<|L0<|fN #[] #[] (args:=#[.pointer (some ⟨u,0,none⟩)])<|m3 (bR af) fun bf ag al bg=>Pl 3<|nt<|sq<|bk<|sg<|Pl 3<|nt<|?_
 have j:=ud a9 (u1 ac (u1 ae al im) im) p
 have v:=aF i j
 refine cb (((((ah.mk b false 0).wordsC 1).wordV)!=0)) (fun h=>?_) (fun h=>?_)
 have am:=aq h
 refine sg<|Pl 1<|?_
 refine L0<|aW (ub j e) #[.int .u8 0,.int .u16 0,.int .u8 0,.int .u8 0,.int .u16 0,.int .u16 0,.int .u16 0,.int .u16 0,.int .u16 0,.int .u16 0,.int .u16 0,.int .u16 0,.int .u16 0,.int .u16 0,.slice none 0 0,.slice none 0 0,.slice none 0 0,.slice none 0 0,.int .u8 0,.int .u8 0,.int .u8 0,.int .u8 0,.int .u8 0,.slice none 0 0] fun bh an ao=>Pl 1<|nt<|rt<|br<|tr<|bz an (.int .i64 13)<|?_
 subst s
 have hs:dH dir b=(d7.zero,13):=by
   unfold dH
   (try simp only[c,d,f,h,bs,if_true,if_false,decide_true,decide_false,bY,tN,th,u6,uM,uJ,reduceIte])
   all_goals rfl
 refine dh hs ?_
 exact cw (ud v ao g)
 have am:=ai h
 refine sg<|Pl 1<|L0<|Oi x46.wordV<|Pl 2<|L0<|Oi (((b.length:Nat) : Int)-6)<|Pl 2<|nt<|cb ((x46.wordV != (((b.length:Nat) : Int)-6))) (fun k=>?_) (fun k=>?_)
 have ap:=aq k
 refine sg<|Pl 1<|?_
 refine L0<|aW (ub j e) #[.int .u8 0,.int .u16 0,.int .u8 0,.int .u8 0,.int .u16 0,.int .u16 0,.int .u16 0,.int .u16 0,.int .u16 0,.int .u16 0,.int .u16 0,.int .u16 0,.int .u16 0,.int .u16 0,.slice none 0 0,.slice none 0 0,.slice none 0 0,.slice none 0 0,.int .u8 0,.int .u8 0,.int .u8 0,.int .u8 0,.int .u8 0,.slice none 0 0] fun bj ar au=>Pl 1<|nt<|rt<|br<|tr<|bz ar (.int .i64 5)<|?_
 subst s
 have hs:dH dir b=(d7.zero,5):=by
   unfold dH
   (try simp only[c,d,f,h,k,bs,if_true,if_false,decide_true,decide_false,bY,tN,th,u6,uM,uJ,reduceIte])
   all_goals rfl
 refine dh hs ?_
 exact cw (ud v au g)
 have ap:=ai k
 refine sk<|bn<|tn<|sg<|Pl 1<|L0<|Oc<|m3 (bS ag) fun bm t Q bo=>Pl 1<|ng<|Pl 3<|L0<|Oc<|mq (dV t)<|?_
 have bp:=aj.len t
 refine L0<|Oc<|s3 (cD (n:=((((x46.wordsC 1).bytesC 1).l.length:Nat) : Int)) t) fun bq bt av aw bu bv ax R=>?_
 have bw:=Nat.le_trans (ah.bytesR_le ((x46.wordsC 1).bytesC 1) ((((x46.wordsC 1).bytesC 1).l.length:Nat) : Int)) (aj.len t)
 refine ab ax fun x80 S bx=>?_
 obtain⟨a,q,x⟩ : ∃ M E,cZ dir (((x46.wordsC 1).bytesC 1).bytesR ((((x46.wordsC 1).bytesC 1).l.length:Nat) : Int))=(M,E):=⟨_,_,rfl⟩
 have T:=jf (dir:=dir) (w:=av) aw (by omega)
 rw[x] at T
 refine L0<|Oc<|e2 T fun ay bA U V=>?_
 have az:=U
 obtain⟨aA,aC,aD,aE,aH,aI,aJ,aK,aN,aO,aP,bB⟩:=az
 obtain rfl:ay=(bM a aA aC aD aE aH).toArray:=by apply Array.toList_inj.1;simpa using aI
 obtain⟨y,z,rfl,_,_⟩:=aJ.shape
 obtain⟨B,C,rfl,_,_⟩:=aK.shape
 obtain⟨D,F,rfl,_,_⟩:=aN.shape
 obtain⟨G,H,rfl,_,_⟩:=aO.shape
 obtain⟨I,J,rfl,_,_⟩:=aP.shape
 refine Pl 3<|L0<|bE mZ fun bC bD aQ aS aU=>L0<|aW aS (mG a.code a.fail a.addr a.count a.value a.and_ a.or_ a.addr2 a.sub a.status a.events a.messages (.slice y a.words.length z) (.slice B a.bits.length C) (.slice D a.data.length F) (.slice G a.recs.length H) a.mei a.kind a.level a.more a.next (.slice I a.objects.length J)) fun bF aV aX=>Pl 1<|nt<|sq<|sg<|Pl 2<|nt<|?_
 have W:=ud aU aX aQ
 have L:=u1 Q (aF R (aF V W)) im
 have X:=ud v L (le i.size p)
 refine cb ((q != 0)) (fun r=>?_) (fun r=>?_)
 have aY:=aq r
 refine sg<|Pl 2<|?_
 refine L0<|aW (ub (ud j L p) e) #[.int .u8 0,.int .u16 0,.int .u8 0,.int .u8 0,.int .u16 0,.int .u16 0,.int .u16 0,.int .u16 0,.int .u16 0,.int .u16 0,.int .u16 0,.int .u16 0,.int .u16 0,.int .u16 0,.slice none 0 0,.slice none 0 0,.slice none 0 0,.slice none 0 0,.int .u8 0,.int .u8 0,.int .u8 0,.int .u8 0,.int .u8 0,.slice none 0 0] fun bG aZ b0=>Pl 1<|nt<|rt<|tr<|bz aZ (.int .i64 q)<|?_
 subst S s
 have hX2:cZ dir (nf b)=(a,q):=x
 have hs:dH dir b=(d7.zero,q):=by
   unfold dH
   (try simp only[c,d,f,h,k,r,bs,if_true,if_false,decide_true,decide_false,bY,tN,th,u6,uM,uJ,hX2,reduceIte])
   all_goals rfl
 refine dh hs ?_
 exact cw (ud X b0 g)
 have aY:=ai r
 refine bi<|sg<|Pl 3<|L0<|ci aV<|Pl 1<|?_
 refine L0<|aW (ub (ud j L p) e) #[.int .u8 ((x46.wordsC 1).byteV),.int .u16 ((ah.mk b false 0).wordV),.int .u8 a.code,.int .u8 a.fail,.int .u16 a.addr,.int .u16 a.count,.int .u16 a.value,.int .u16 a.and_,.int .u16 a.or_,.int .u16 a.addr2,.int .u16 a.sub,.int .u16 a.status,.int .u16 a.events,.int .u16 a.messages,.slice y a.words.length z,.slice B a.bits.length C,.slice D a.data.length F,.slice G a.recs.length H,.int .u8 a.mei,.int .u8 a.kind,.int .u8 a.level,.int .u8 a.more,.int .u8 a.next,.slice I a.objects.length J] fun bH b1 Y=>Pl 1<|nt<|rt<|bz b1 (.int .i64 0)<|?_
 subst S s
 have hX2:cZ dir (nf b)=(a,q):=x
 have hs:dH dir b=(⟨((((ah.mk b false 0).wordsC 1).wordsC 1).wordsC 1).byteV,(ah.mk b false 0).wordV,a⟩,0):=by
   unfold dH
   (try simp only[c,d,f,h,k,r,bs,if_true,if_false,decide_true,decide_false,bY,tN,th,u6,uM,uJ,hX2,reduceIte])
   all_goals rfl
 refine dh hs ?_
 exact⟨_,rfl,⟨#[.int .u8 a.code,.int .u8 a.fail,.int .u16 a.addr,.int .u16 a.count,.int .u16 a.value,.int .u16 a.and_,.int .u16 a.or_,.int .u16 a.addr2,.int .u16 a.sub,.int .u16 a.status,.int .u16 a.events,.int .u16 a.messages,.slice y a.words.length z,.slice B a.bits.length C,.slice D a.data.length F,.slice G a.recs.length H,.int .u8 a.mei,.int .u8 a.kind,.int .u8 a.level,.int .u8 a.more,.int .u8 a.next,.slice I a.objects.length J],(by as_aux_lemma=>kernel_rfl),(aL.upd U (uz W Y) (ak (aM (ub (ud j (u1 Q (aF R V) im) p) e) (by decide)) aG)),b8 (by omega),aB (by omega)⟩,(ud X Y g)⟩
theorem pF{m:Md}{v:Value}{b:List Int}{w:World}{dir:Int}(h:aT m w v b)(hb:b.length≤1048576) : Calls Tryz.prog 32 #[.int .i64 dir,v] w (jO (dH dir b) w):=by
  obtain⟨A,cp,rfl,_,_⟩:=h.shape
  exact oq h hb
open Go.RowKit
def gB (dir u t:Int)(M:aQ) : Option (List Int) :=
  match dr dir M with
  | none=>none
  | some l=>some ((b9 [t,0,((l.length:Int)+1)%65536]++[u])++l)
theorem kI{m:Md}{cs:Array Value}{M:aQ}{w:World}{dir u t:Int}(h:aL m w cs.toList M)(hf:cO M)(hu:B8 u)(ht:dx t) : Calls Tryz.prog 34 #[.int .i64 dir,.agg (#[.int .u8 u,.int .u16 t]++cs)] w (eZ (gB dir u t M) w):=by
 have hM:=h
 obtain⟨hu1,hu2⟩:=hu
 obtain⟨ht1,ht2⟩:=ht
 obtain⟨vw,vb,vd,vr,vo,h0,hw,hbt,hd,hr,ho,hR⟩:=h
 obtain rfl:cs=(bM M vw vb vd vr vo).toArray:=by apply Array.toList_inj.1;simpa using h0
 clear h0
 obtain⟨Aw,kw,rfl,_,_⟩:=hw.shape
 obtain⟨Ab,kb,rfl,_,_⟩:=hbt.shape
 obtain⟨Ad,kd,rfl,_,_⟩:=hd.shape
 obtain⟨Ar,kr,rfl,_,_⟩:=hr.shape
 obtain⟨Ao,ko,rfl,_,_⟩:=ho.shape
 obtain⟨q0,q1,q2,q3,q4,q5,q6,q7,q8,q9,r,s,v,y,z,A,B⟩:=hR
 simp only[B8,dx] at q0 q1 q2 q3 q4 q5 q6 q7 q8 q9 r s v y z A B
 refine en 35 Tryz.func34 rfl<|sg<|L0<|dq #[.int .u8 u,.int .u16 t,.int .u8 M.code,.int .u8 M.fail,.int .u16 M.addr,.int .u16 M.count,.int .u16 M.value,.int .u16 M.and_,.int .u16 M.or_,.int .u16 M.addr2,.int .u16 M.sub,.int .u16 M.status,.int .u16 M.events,.int .u16 M.messages,.slice Aw M.words.length kw,.slice Ab M.bits.length kb,.slice Ad M.data.length kd,.slice Ar M.recs.length kr,.int .u8 M.mei,.int .u8 M.kind,.int .u8 M.level,.int .u8 M.more,.int .u8 M.next,.slice Ao M.objects.length ko] fun Q R S g a=>Pl 2<|ng<|Pl 2<|L0<|yk g 2 22<|?_
 rcases hwr:dr dir M with _|lw
 have i:=lV (dir:=dir) (aL.old hM a) hf
 rw[hwr] at i
 refine L0<|Oc<|m1 i fun T C=>Pl 5<|nt<|sq<|sg<|Pl 2<|nt<|c1<|sg<|Pl 2<|nl<|?_
 refine tn<|rt<|tr<|rr (.tuple #[.slice none 0 0,.int .i64 1])<|?_
 have hs:gB dir u t M=none:=by
   unfold gB
   (try simp only[hwr])
   all_goals rfl
 refine dT hs ?_
 exact⟨rfl,(aF a C)⟩
 have hlw:=tA hwr
 have j:=lV (dir:=dir) (aL.old hM a) hf
 rw[hwr] at j
 refine L0<|Oc<|ej j fun U V W D X Y d=>Pl 5<|nt<|sq<|sg<|Pl 2<|nt<|c0<|bi<|sq<|?_
 refine go<|Pl 2<|?_
 have k:=ub d g
 refine L0<|aU k 1<|Pl 2<|L0<|Oi (((lw.length:Nat) : Int)+1)<|Pl 1<|L0<|dD (m:=3) (e:=24) #[.int .u16 t,.int .u16 0,.int .u16 ((((lw.length:Nat) : Int)+1)%65536)] fun Z a0 E F b=>?_
 have G:=ek E (xs:=[t,0,((((lw.length:Nat) : Int)+1)%65536)]) (by as_aux_lemma=>kernel_rfl) (az (by omega) (az (by omega) (az (by omega) aZ))) (by(try simp only[List.length_cons,List.length_nil]);omega) F
 refine L0<|Oc<|ej (bC (xs:=[t,0,((((lw.length:Nat) : Int)+1)%65536)]) (G).rd (by(try simp only[List.length_cons,List.length_nil]);omega)) fun H a1 a2 l a3 a4 f=>Pl 1<|ng<|Pl 3<|?_
 have n:=aF b f
 refine L0<|aU (ub n k) 0<|L0<|dD (m:=1) (e:=5) #[.int .u8 u] fun a5 a6 I J c=>?_
 have K:=dR I (xs:=[u]) (by as_aux_lemma=>kernel_rfl) (az (by omega) aZ) (by(try simp only[List.length_cons,List.length_nil]);omega) J
 refine L0<|cR bt (xs:=(b9 ([t,0,((((lw.length:Nat) : Int)+1)%65536)]))) (ys:=([u])) (.int .u8 0) 1 (ax l c (fun x hx=>ay) (fun _ _ h=>h)) (K).rd (by(try simp only[List.length_append,List.length_cons,List.length_nil,aC]);omega) (le f.size c.size) fun a7 a8 a9 o p=>Pl 1<|?_
 have q:=ut n (ut (aD.mono (S':=(ob H++[])) c au) p (av il au)) (av (aV l b.size) au)
 refine L0<|cR bt (xs:=((b9 ([t,0,((((lw.length:Nat) : Int)+1)%65536)]))++[u])) (ys:=lw) (.int .u8 0) 1 o ((ax D q (fun x hx=>ay) (fun _ _ h=>h))).rd (by(try simp only[List.length_append,List.length_cons,List.length_nil,aC]);omega) (le (le f.size c.size) p.size) fun L N aa O P=>Pl 2<|nt<|rt<|rr (.tuple #[.slice L ((((b9 ([t,0,((((lw.length:Nat) : Int)+1)%65536)]))++[u])++lw).length) N,.int .i64 0])<|?_
 have hs:gB dir u t M=(some (((b9 ([t,0,((((lw.length:Nat) : Int)+1)%65536)]))++[u])++lw)):=by
   unfold gB
   (try simp only[hwr])
   all_goals rfl
 refine dT hs ?_
 exact⟨_,rfl,(be.weaken O (le (le a.size d.size) b.size)),(aF a (aF d (ut q P (av (aV o b.size) au))))⟩
open Go.RowKit
theorem mX{m:Md}{v:Value}{b:List Int}{w:World}{dir:Int}{F:d7}{E:Int}(hX:dH dir b=(F,E))(h:aT m w v b)(hb:b.length≤1048576) : Calls Tryz.prog 32 #[.int .i64 dir,v] w (fun e w'=>∃ x,e = .returned (.tuple #[.agg (fD F.unit F.tid F.msg x),.int .i64 E])∧(aL true w' (gF F.msg x).toList F.msg∧(0≤F.unit∧F.unit<256)∧(0≤F.tid∧F.tid<65536))∧aD [] w w'):=by
  refine(pF h hb).mono ?_
  rintro e w' ⟨cs,rfl,h1,h2⟩
  rw[hX] at h1 ⊢
  obtain⟨c,rfl,h3,h4,h5⟩:=h1
  obtain⟨x,rfl⟩:=jZ h3
  exact⟨x,by rw[j5],⟨h3,h4,h5⟩,h2⟩
theorem mK{m:Md}{x:SL}{M:aQ}{w:World}{dir u t:Int}(hX:gB dir u t M=none)(h:aL m w (gF M x).toList M)(hf:cO M)(hu:0≤u∧u<256)(ht:0≤t∧t<65536) : Calls Tryz.prog 34 #[.int .i64 dir,.agg (fD u t M x)] w (fun e w'=>e = .returned (.tuple #[.slice none 0 0,.int .i64 1])∧aD [] w w'):=by
  have:=kI (dir:=dir) h hf hu ht
  rw[hX] at this
  rw[j5]
  exact this
theorem mU{m:Md}{x:SL}{M:aQ}{w:World}{dir u t:Int}{l:List Int}(hX:gB dir u t M=some l)(h:aL m w (gF M x).toList M)(hf:cO M)(hu:0≤u∧u<256)(ht:0≤t∧t<65536) : Calls Tryz.prog 34 #[.int .i64 dir,.agg (fD u t M x)] w (fun e w'=>∃ v,e = .returned (.tuple #[v,.int .i64 0])∧eq w.heap.size w' v l∧aD [] w w'):=by
  have:=kI (dir:=dir) h hf hu ht
  rw[hX] at this
  rw[j5]
  exact this
end Go.Proofs.YtogbnemojakcpaaGreat
