/- Contracts of functions, part CRtuParses4. -/
import Derived.Test.YtogbnemojakcpaaGreatCRtuParses1
import Derived.Test.YtogbnemojakcpaaGreatCRtuParses2
import Derived.Test.YtogbnemojakcpaaGreatCRtuParses3
import Derived.OpenShut
import Derived.Below
import Derived.Laws.BitsAllLaws
import Derived.Laws.StructEq
set_option linter.unusedVariables false
set_option linter.unusedSimpArgs false
set_option maxRecDepth 100000
set_option maxHeartbeats 4000000
namespace Go.Proofs.YtogbnemojakcpaaGreat
open Go.RowKit
def bV (dir:Int)(M:aP) : List Int :=
  if M.code==8 then bf [M.sub]++bf M.words
  else if dir==0 then []
  else if M.code==7 then [M.value%256]
  else if M.code==11 then bf [M.status,M.events]
  else if M.code==12 then (([(6+(M.data.length:Int))%256]++bf [M.status,M.events,M.messages])++M.data)
  else [(M.data.length:Int)%256]++M.data
theorem nz{m:Md}{cs:Array Value}{M:aP}{w:World}{dir:Int}(h:aW m w cs.toList M)(hf:cY M)(hd0:(dir==0)=true) : Calls Tryz.prog 208 #[.int .i64 dir,.agg cs] w (gP (bV dir M) w):=by
 obtain⟨vw,vb,vd,vr,vo,h0,hw,hbt,hd,hr,ho,hR⟩:=h
 obtain rfl:cs=(bP M vw vb vd vr vo).toArray:=by apply Array.toList_inj.1;simpa using h0
 clear h0
 obtain⟨Aw,kw,rfl,_,_⟩:=hw.shape
 obtain⟨Ab,kb,rfl,_,_⟩:=hbt.shape
 obtain⟨Ad,kd,rfl,_,_⟩:=hd.shape
 obtain⟨Ar,kr,rfl,_,_⟩:=hr.shape
 obtain⟨Ao,ko,rfl,_,_⟩:=ho.shape
 obtain⟨q0,q1,q2,q3,q4,q5,q6,q7,q8,q9,u,v,y,z,A,B,C⟩:=hR
 simp only[B8,dy] at q0 q1 q2 q3 q4 q5 q6 q7 q8 q9 u v y z A B C
 have hf1:=hf.words
 have hf2:=hf.bits
 have hf3:=hf.data
 have hf4:=hf.recs
 have hf5:=hf.objects
 refine en 70 Tryz.func208 rfl<|sg<|L0<|dx (mG M.code M.fail M.addr M.count M.value M.and_ M.or_ M.addr2 M.sub M.status M.events M.messages (.slice Aw M.words.length kw) (.slice Ab M.bits.length kb) (.slice Ad M.data.length kd) (.slice Ar M.recs.length kr) M.mei M.kind M.level M.more M.next (.slice Ao M.objects.length ko)) fun q O P i d=>Pl 1<|nt<|sq<|bk<|sg<|Pl 1<|L0<|aR i 0<|Pl 2<|nl<|?_
 refine tn<|cb ((M.code==8)) (fun a=>?_) (fun a=>?_)
 have D:=al a
 refine sq<|Rg 9 (fun w'=>w'.cell? ⟨q,8,none⟩=some (.int .u16 M.sub)∧w'.cell? ⟨q,12,none⟩=some (.slice Aw M.words.length kw)) fun Q b=>?_
 have j:=ub b i
 refine bh ⟨(ag j rfl),(ag j rfl)⟩ fun f=>Rt 0 f<|Rl 1 f (fun _ hs=>hs.1)<|Rt 4 f<|Rl 5 f (fun _ hs=>hs.2)<|R0 2 rfl<|dA (m:=1) (e:=24) #[.int .u16 M.sub] fun R S E F c=>?_
 have G:=ec E (xs:=[M.sub]) (by as_aux_lemma=>kernel_rfl) (az (by omega) aZ) (by(try simp only[List.length_cons,List.length_nil]);omega) F
 have k:=ub c j
 refine bh ⟨(ag k rfl),(ag k rfl)⟩ fun T=>R0 3 rfl<|Oc<|ea (bC (xs:=[M.sub]) (G).rd (by(try simp only[List.length_cons,List.length_nil]);omega)) fun H U V l W X n=>?_
 have o:=ub n k
 refine bh ⟨(ag o rfl),(ag o rfl)⟩ fun Y=>?_
 have r:=aI d (aI b (aI c n))
 refine R0 6 rfl<|Oc<|ea (bC (xs:=M.words) (dN.old hw r) (by(try simp only[List.length_cons,List.length_nil]);omega)) fun Z a0 a1 I a2 a3 g=>?_
 have p:=ub g o
 refine bh ⟨(ag p rfl),(ag p rfl)⟩ fun a4=>?_
 refine R0 7 rfl<|cO bv (xs:=(bf ([M.sub]))) (ys:=(bf M.words)) (.int .u8 0) 1 (ax l g (fun x hx=>ay) (fun _ _ h=>h)) (I).rd (by(try simp only[List.length_append,List.length_cons,List.length_nil,aC]);omega) (le n.size g.size) fun J K a5 L s=>?_
 have t:=aE.blk s (bi (aA (ak i) (le b.size c.size) l) ay) p
 refine bh ⟨(ag t rfl),(ag t rfl)⟩ fun N=>Rt 8 N<|re<|tn<|rt<|br<|tr<|rr (.slice J (((bf ([M.sub]))++(bf M.words)).length) K)<|?_
 have hs:bV dir M=((bf ([M.sub]))++(bf M.words)):=by
   unfold bV
   (try simp only[hd0,a,bs,if_true,if_false,decide_true,decide_false,reduceIte])
   all_goals rfl
 rw[hs]
 exact⟨_,rfl,(be.weaken L (le (le d.size b.size) c.size)),(ut r (ut (aE.mono (S':=(ob H++[])) g aq) s (av il aq)) (av (aU l (le (le d.size b.size) c.size)) aq))⟩
 have D:=ap a
 refine sg<|Pl 3<|nt<|ct hd0<|sg<|Pl 1<|nt<|rt<|br<|tr<|?_
 refine rr (.slice none 0 0)<|?_
 have hs:bV dir M=[]:=by
   unfold bV
   (try simp only[hd0,a,bs,if_true,if_false,decide_true,decide_false,reduceIte])
   all_goals rfl
 rw[hs]
 exact⟨_,rfl,(be.nil ..),d⟩
theorem nJ{m:Md}{cs:Array Value}{M:aP}{w:World}{dir:Int}(h:aW m w cs.toList M)(hf:cY M)(hd0:(dir==0)=false) : Calls Tryz.prog 208 #[.int .i64 dir,.agg cs] w (gP (bV dir M) w):=by
 obtain⟨vw,vb,vd,vr,vo,h0,hw,hbt,hd,hr,ho,hR⟩:=h
 obtain rfl:cs=(bP M vw vb vd vr vo).toArray:=by apply Array.toList_inj.1;simpa using h0
 clear h0
 obtain⟨Aw,kw,rfl,_,_⟩:=hw.shape
 obtain⟨Ab,kb,rfl,_,_⟩:=hbt.shape
 obtain⟨Ad,kd,rfl,_,_⟩:=hd.shape
 obtain⟨Ar,kr,rfl,_,_⟩:=hr.shape
 obtain⟨Ao,ko,rfl,_,_⟩:=ho.shape
 obtain⟨q0,q1,q2,q3,q4,q5,q6,q7,q8,q9,ai,aj,am,an,ao,ar,au⟩:=hR
 simp only[B8,dy] at q0 q1 q2 q3 q4 q5 q6 q7 q8 q9 ai aj am an ao ar au
 have hf1:=hf.words
 have hf2:=hf.bits
 have hf3:=hf.data
 have hf4:=hf.recs
 have hf5:=hf.objects
 refine en 70 Tryz.func208 rfl<|sg<|L0<|dx (mG M.code M.fail M.addr M.count M.value M.and_ M.or_ M.addr2 M.sub M.status M.events M.messages (.slice Aw M.words.length kw) (.slice Ab M.bits.length kb) (.slice Ad M.data.length kd) (.slice Ar M.recs.length kr) M.mei M.kind M.level M.more M.next (.slice Ao M.objects.length ko)) fun l bW bX b a=>Pl 1<|nt<|sq<|bk<|sg<|Pl 1<|L0<|aR b 0<|Pl 2<|nl<|?_
 refine tn<|cb ((M.code==8)) (fun f=>?_) (fun f=>?_)
 have aw:=al f
 refine sq<|Rg 9 (fun w'=>w'.cell? ⟨l,8,none⟩=some (.int .u16 M.sub)∧w'.cell? ⟨l,12,none⟩=some (.slice Aw M.words.length kw)) fun bY p=>?_
 have J:=ub p b
 refine bh ⟨(ag J rfl),(ag J rfl)⟩ fun E=>Rt 0 E<|Rl 1 E (fun _ hs=>hs.1)<|Rt 4 E<|Rl 5 E (fun _ hs=>hs.2)<|R0 2 rfl<|dA (m:=1) (e:=24) #[.int .u16 M.sub] fun bZ c0 aB aD q=>?_
 have aF:=ec aB (xs:=[M.sub]) (by as_aux_lemma=>kernel_rfl) (az (by omega) aZ) (by(try simp only[List.length_cons,List.length_nil]);omega) aD
 have K:=ub q J
 refine bh ⟨(ag K rfl),(ag K rfl)⟩ fun c1=>R0 3 rfl<|Oc<|ea (bC (xs:=[M.sub]) (aF).rd (by(try simp only[List.length_cons,List.length_nil]);omega)) fun aG c2 c3 L c4 c5 N=>?_
 have O:=ub N K
 refine bh ⟨(ag O rfl),(ag O rfl)⟩ fun c6=>?_
 have X:=aI a (aI p (aI q N))
 refine R0 6 rfl<|Oc<|ea (bC (xs:=M.words) (dN.old hw X) (by(try simp only[List.length_cons,List.length_nil]);omega)) fun c7 c8 c9 aH ca cc F=>?_
 have P:=ub F O
 refine bh ⟨(ag P rfl),(ag P rfl)⟩ fun cd=>?_
 refine R0 7 rfl<|cO bv (xs:=(bf ([M.sub]))) (ys:=(bf M.words)) (.int .u8 0) 1 (ax L F (fun x hx=>ay) (fun _ _ h=>h)) (aH).rd (by(try simp only[List.length_append,List.length_cons,List.length_nil,aC]);omega) (le N.size F.size) fun aJ aK ce aL Y=>?_
 have Z:=aE.blk Y (bi (aA (ak b) (le p.size q.size) L) ay) P
 refine bh ⟨(ag Z rfl),(ag Z rfl)⟩ fun aM=>Rt 8 aM<|re<|tn<|rt<|br<|tr<|rr (.slice aJ (((bf ([M.sub]))++(bf M.words)).length) aK)<|?_
 have hs:bV dir M=((bf ([M.sub]))++(bf M.words)):=by
   unfold bV
   (try simp only[hd0,f,bs,if_true,if_false,decide_true,decide_false,reduceIte])
   all_goals rfl
 rw[hs]
 exact⟨_,rfl,(be.weaken aL (le (le a.size p.size) q.size)),(ut X (ut (aE.mono (S':=(ob aG++[])) F aq) Y (av il aq)) (av (aU L (le (le a.size p.size) q.size)) aq))⟩
 have aw:=ap f
 refine sg<|Pl 3<|nt<|cf hd0<|sg<|Pl 1<|L0<|aR b 0<|Pl 2<|nt<|cb ((M.code==7)) (fun g=>?_) (fun g=>?_)
 have aN:=al g
 refine sg<|Pl 1<|L0<|aR b 4<|Pl 1<|L0<|dA (m:=1) (e:=5) #[.int .u8 (M.value%256)] fun aO cg aQ aS aT=>?_
 have aV:=dT aQ (xs:=[(M.value%256)]) (by as_aux_lemma=>kernel_rfl) (az (by omega) aZ) (by(try simp only[List.length_cons,List.length_nil]);omega) aS
 refine Pl 1<|nt<|rt<|br<|tr<|rr (.slice (some ⟨aO,0,none⟩) 1 1)<|?_
 have hs:bV dir M=[(M.value%256)]:=by
   unfold bV
   (try simp only[hd0,f,g,bs,if_true,if_false,decide_true,decide_false,reduceIte])
   all_goals rfl
 rw[hs]
 exact⟨_,rfl,(be.weaken aV a.size),(aI a aT)⟩
 have aN:=ap g
 refine sg<|Pl 1<|L0<|aR b 0<|Pl 2<|nt<|cb ((M.code==11)) (fun j=>?_) (fun j=>?_)
 have aX:=al j
 refine sg<|Pl 1<|L0<|aR b 9<|Pl 1<|L0<|aR b 10<|L0<|dA (m:=2) (e:=24) #[.int .u16 M.status,.int .u16 M.events] fun ch ci aY b0 a0=>?_
 have b1:=ec aY (xs:=[M.status,M.events]) (by as_aux_lemma=>kernel_rfl) (az (by omega) (az (by omega) aZ)) (by(try simp only[List.length_cons,List.length_nil]);omega) b0
 refine L0<|Oc<|ea (bC (xs:=[M.status,M.events]) (b1).rd (by(try simp only[List.length_cons,List.length_nil]);omega)) fun b2 b3 cj b4 ck cl b5=>Pl 1<|nt<|rt<|br<|tr<|rr (.slice b2 ((bf ([M.status,M.events])).length) b3)<|?_
 have hs:bV dir M=(bf ([M.status,M.events])):=by
   unfold bV
   (try simp only[hd0,f,g,j,bs,if_true,if_false,decide_true,decide_false,reduceIte])
   all_goals rfl
 rw[hs]
 exact⟨_,rfl,(be.weaken b4 (le a.size a0.size)),(aI a (aI a0 b5))⟩
 have aX:=ap j
 refine sg<|Pl 1<|L0<|aR b 0<|Pl 2<|nt<|cb ((M.code==12)) (fun k=>?_) (fun k=>?_)
 have b6:=al k
 refine sq<|Rg 16 (fun w'=>w'.cell? ⟨l,14,none⟩=some (.slice Ad M.data.length kd)∧w'.cell? ⟨l,9,none⟩=some (.int .u16 M.status)∧w'.cell? ⟨l,10,none⟩=some (.int .u16 M.events)∧w'.cell? ⟨l,11,none⟩=some (.int .u16 M.messages)) fun cm c=>?_
 have n:=ub c b
 refine bh ⟨(ag n rfl),(ag n rfl),(ag n rfl),(ag n rfl)⟩ fun d=>Rt 0 d<|Rl 1 d (fun _ hs=>hs.1)<|Rt 2 d<|Rr 3 d (.int .i64 (6+((M.data.length:Nat) : Int))) (fun _ _=>cJ (.int .i64 (IntKind.i64.wrap (6+((M.data.length:Nat) : Int)))) (by kernel_rfl) (congrArg (Value.int .i64) (IntWalk.i64_in _ (by omega))))<|Rt 4 d<|Rt 6 d<|Rl 7 d (fun _ hs=>hs.2.1)<|Rt 8 d<|Rl 9 d (fun _ hs=>hs.2.2.1)<|Rt 10 d<|Rl 11 d (fun _ hs=>hs.2.2.2)<|?_
 refine R2 5 12 rfl rfl ?_ ?_
 refine  dA (m:=1) (e:=5) #[.int .u8 ((6+((M.data.length:Nat) : Int))%256)] fun b8 cn b9 ba Q=>?_
 have R:=dT b9 (xs:=[((6+((M.data.length:Nat) : Int))%256)]) (by as_aux_lemma=>kernel_rfl) (az (by omega) aZ) (by(try simp only[List.length_cons,List.length_nil]);omega) ba
 have r:=ub Q n
 refine bh ⟨(ag r rfl),(ag r rfl),(ag r rfl),(ag r rfl)⟩ fun co=>R0 12 rfl<|dA (m:=3) (e:=24) #[.int .u16 M.status,.int .u16 M.events,.int .u16 M.messages] fun cp cq bb bc S=>?_
 have bd:=ec bb (xs:=[M.status,M.events,M.messages]) (by as_aux_lemma=>kernel_rfl) (az (by omega) (az (by omega) (az (by omega) aZ))) (by(try simp only[List.length_cons,List.length_nil]);omega) bc
 have s:=ub S r
 refine bh ⟨(ag s rfl),(ag s rfl),(ag s rfl),(ag s rfl)⟩ fun cr=>R0 13 rfl<|Oc<|ea (bC (xs:=[M.status,M.events,M.messages]) (bd).rd (by(try simp only[List.length_cons,List.length_nil]);omega)) fun ct cu cv bg cw cx T=>?_
 have t:=ub T s
 refine bh ⟨(ag t rfl),(ag t rfl),(ag t rfl),(ag t rfl)⟩ fun cy=>?_
 have a1:=aI S T
 refine R0 14 rfl<|cO bv (xs:=([((6+((M.data.length:Nat) : Int))%256)])) (ys:=(bf ([M.status,M.events,M.messages]))) (.int .u8 0) 1 (ax R a1 (fun x hx=>ay) (fun _ _ h=>h)) (bg).rd (by(try simp only[List.length_append,List.length_cons,List.length_nil,aC]);omega) (le (le Q.size S.size) T.size) fun cz cA cB a2 a3=>?_
 have u:=aE.blk a3 (bi (aA (ak b) c.size R) ay) t
 refine bh ⟨(ag u rfl),(ag u rfl),(ag u rfl),(ag u rfl)⟩ fun bj=>Rt 15 bj<|re<|tn<|sg<|Pl 2<|L0<|aR u 14<|?_
 have a4:=ut Q (ut (aE.mono (S':=(ob (some ⟨b8,0,none⟩)++[])) a1 aq) a3 (av il aq)) (av (aU R lr) aq)
 have a5:=aI a (aI c a4)
 refine L0<|cO bv (xs:=([((6+((M.data.length:Nat) : Int))%256)]++(bf ([M.status,M.events,M.messages])))) (ys:=M.data) (.int .u8 0) 1 a2 (b7.old hd a5) (by(try simp only[List.length_append,List.length_cons,List.length_nil,aC]);omega) a4.size fun bl bm cC bo bp=>Pl 1<|nt<|rt<|br<|tr<|rr (.slice bl ((([((6+((M.data.length:Nat) : Int))%256)]++(bf ([M.status,M.events,M.messages])))++M.data).length) bm)<|?_
 have hs:bV dir M=(([((6+((M.data.length:Nat) : Int))%256)]++(bf ([M.status,M.events,M.messages])))++M.data):=by
   unfold bV
   (try simp only[hd0,f,g,j,k,bs,if_true,if_false,decide_true,decide_false,reduceIte])
   all_goals rfl
 rw[hs]
 exact⟨_,rfl,(be.weaken bo (le a.size c.size)),(ut a5 bp (av (aU a2 (le a.size c.size)) aq))⟩
 refine  dA (m:=3) (e:=24) #[.int .u16 M.status,.int .u16 M.events,.int .u16 M.messages] fun cD cE bq bt i=>?_
 have a6:=ec bq (xs:=[M.status,M.events,M.messages]) (by as_aux_lemma=>kernel_rfl) (az (by omega) (az (by omega) (az (by omega) aZ))) (by(try simp only[List.length_cons,List.length_nil]);omega) bt
 have o:=ub i n
 refine bh ⟨(ag o rfl),(ag o rfl),(ag o rfl),(ag o rfl)⟩ fun cF=>?_
 refine R2 5 13 rfl rfl ?_ ?_
 refine  dA (m:=1) (e:=5) #[.int .u8 ((6+((M.data.length:Nat) : Int))%256)] fun bu cG bw bx G=>?_
 have U:=dT bw (xs:=[((6+((M.data.length:Nat) : Int))%256)]) (by as_aux_lemma=>kernel_rfl) (az (by omega) aZ) (by(try simp only[List.length_cons,List.length_nil]);omega) bx
 have v:=ub G o
 refine bh ⟨(ag v rfl),(ag v rfl),(ag v rfl),(ag v rfl)⟩ fun cH=>?_
 refine R0 13 rfl<|Oc<|ea (bC (xs:=[M.status,M.events,M.messages]) ((ax a6 G (fun x hx=>ay) (fun _ _ h=>h))).rd (by(try simp only[List.length_cons,List.length_nil]);omega)) fun cI cK cL bz cM cN H=>?_
 have y:=ub H v
 refine bh ⟨(ag y rfl),(ag y rfl),(ag y rfl),(ag y rfl)⟩ fun cP=>?_
 refine R0 14 rfl<|cO bv (xs:=([((6+((M.data.length:Nat) : Int))%256)])) (ys:=(bf ([M.status,M.events,M.messages]))) (.int .u8 0) 1 (ax U H (fun x hx=>ay) (fun _ _ h=>h)) (bz).rd (by(try simp only[List.length_append,List.length_cons,List.length_nil,aC]);omega) (le G.size H.size) fun cQ cR cS a7 a8=>?_
 have z:=aE.blk a8 (bi (aA (ak b) (le c.size i.size) U) ay) y
 refine bh ⟨(ag z rfl),(ag z rfl),(ag z rfl),(ag z rfl)⟩ fun bA=>Rt 15 bA<|re<|tn<|sg<|Pl 2<|L0<|aR z 14<|?_
 have a9:=ut G (ut (aE.mono (S':=(ob (some ⟨bu,0,none⟩)++[])) H aq) a8 (av il aq)) (av (aU U lr) aq)
 have aa:=aI a (aI c (aI i a9))
 refine L0<|cO bv (xs:=([((6+((M.data.length:Nat) : Int))%256)]++(bf ([M.status,M.events,M.messages])))) (ys:=M.data) (.int .u8 0) 1 a7 (b7.old hd aa) (by(try simp only[List.length_append,List.length_cons,List.length_nil,aC]);omega) a9.size fun bB bD cT bE bF=>Pl 1<|nt<|rt<|br<|tr<|rr (.slice bB ((([((6+((M.data.length:Nat) : Int))%256)]++(bf ([M.status,M.events,M.messages])))++M.data).length) bD)<|?_
 have hs:bV dir M=(([((6+((M.data.length:Nat) : Int))%256)]++(bf ([M.status,M.events,M.messages])))++M.data):=by
   unfold bV
   (try simp only[hd0,f,g,j,k,bs,if_true,if_false,decide_true,decide_false,reduceIte])
   all_goals rfl
 rw[hs]
 exact⟨_,rfl,(be.weaken bE (le (le a.size c.size) i.size)),(ut aa bF (av (aU a7 (le (le a.size c.size) i.size)) aq))⟩
 refine  Oc<|ea (bC (xs:=[M.status,M.events,M.messages]) (a6).rd (by(try simp only[List.length_cons,List.length_nil]);omega)) fun cU cV cW bG cX cZ A=>?_
 have B:=ub A o
 refine bh ⟨(ag B rfl),(ag B rfl),(ag B rfl),(ag B rfl)⟩ fun d0=>R0 5 rfl<|dA (m:=1) (e:=5) #[.int .u8 ((6+((M.data.length:Nat) : Int))%256)] fun d1 d2 bH bI I=>?_
 have V:=dT bH (xs:=[((6+((M.data.length:Nat) : Int))%256)]) (by as_aux_lemma=>kernel_rfl) (az (by omega) aZ) (by(try simp only[List.length_cons,List.length_nil]);omega) bI
 have C:=ub I B
 refine bh ⟨(ag C rfl),(ag C rfl),(ag C rfl),(ag C rfl)⟩ fun d3=>?_
 refine R0 14 rfl<|cO bv (xs:=([((6+((M.data.length:Nat) : Int))%256)])) (ys:=(bf ([M.status,M.events,M.messages]))) (.int .u8 0) 1 V ((ax bG I (fun x hx=>ay) (fun _ _ h=>h))).rd (by(try simp only[List.length_append,List.length_cons,List.length_nil,aC]);omega) I.size fun d4 d5 d6 ab ac=>?_
 have D:=aE.blk ac (bi (aA (ak b) (le (le c.size i.size) A.size) V) ay) C
 refine bh ⟨(ag D rfl),(ag D rfl),(ag D rfl),(ag D rfl)⟩ fun bJ=>Rt 15 bJ<|re<|tn<|sg<|Pl 2<|L0<|aR D 14<|?_
 have ad:=ut I ac (av (aU V lr) aq)
 have ae:=aI a (aI c (aI i (aI A ad)))
 refine L0<|cO bv (xs:=([((6+((M.data.length:Nat) : Int))%256)]++(bf ([M.status,M.events,M.messages])))) (ys:=M.data) (.int .u8 0) 1 ab (b7.old hd ae) (by(try simp only[List.length_append,List.length_cons,List.length_nil,aC]);omega) ad.size fun bK bL d7 bM bN=>Pl 1<|nt<|rt<|br<|tr<|rr (.slice bK ((([((6+((M.data.length:Nat) : Int))%256)]++(bf ([M.status,M.events,M.messages])))++M.data).length) bL)<|?_
 have hs:bV dir M=(([((6+((M.data.length:Nat) : Int))%256)]++(bf ([M.status,M.events,M.messages])))++M.data):=by
   unfold bV
   (try simp only[hd0,f,g,j,k,bs,if_true,if_false,decide_true,decide_false,reduceIte])
   all_goals rfl
 rw[hs]
 exact⟨_,rfl,(be.weaken bM (le (le (le a.size c.size) i.size) A.size)),(ut ae bN (av (aU ab (le (le (le a.size c.size) i.size) A.size)) aq))⟩
 have b6:=ap k
 refine sk<|bn<|tn<|sg<|Pl 1<|L0<|aR b 14<|Pl 2<|L0<|dA (m:=1) (e:=5) #[.int .u8 (((M.data.length:Nat) : Int)%256)] fun d8 d9 bO bQ W=>?_
 have af:=dT bO (xs:=[(((M.data.length:Nat) : Int)%256)]) (by as_aux_lemma=>kernel_rfl) (az (by omega) aZ) (by(try simp only[List.length_cons,List.length_nil]);omega) bQ
 refine Pl 1<|?_
 refine L0<|aR (ub W b) 14<|?_
 have ah:=aI a W
 refine L0<|cO bv (xs:=([(((M.data.length:Nat) : Int)%256)])) (ys:=M.data) (.int .u8 0) 1 af (b7.old hd ah) (by(try simp only[List.length_append,List.length_cons,List.length_nil,aC]);omega) W.size fun bR bS da bT bU=>Pl 1<|nt<|rt<|rr (.slice bR (([(((M.data.length:Nat) : Int)%256)]++M.data).length) bS)<|?_
 have hs:bV dir M=([(((M.data.length:Nat) : Int)%256)]++M.data):=by
   unfold bV
   (try simp only[hd0,f,g,j,k,bs,if_true,if_false,decide_true,decide_false,reduceIte])
   all_goals rfl
 rw[hs]
 exact⟨_,rfl,(be.weaken bT a.size),(ut ah bU (av (aU af a.size) aq))⟩
theorem rH{m:Md}{cs:Array Value}{M:aP}{w:World}{dir:Int}(h:aW m w cs.toList M)(hf:cY M) : Calls Tryz.prog 208 #[.int .i64 dir,.agg cs] w (gP (bV dir M) w):=by
  rcases dQ (dir==0) with h0|h0
  · exact nz h hf h0
  · exact nJ h hf h0
open Go.RowKit
theorem dz{α:Type}(d:α)(xs:List α)(k:Nat)(h:k<xs.length) : xs.getD k d∈xs:=by
  simp[List.getD_eq_getElem?_getD,List.getElem?_eq_getElem h]
def gD:List Obj→List Int
  | []=>[]
  | o :: r=>([o.id,(o.value.length:Int)%256]++o.value)++gD r
theorem pk(xs:List Obj)(k:Nat)(h:k<xs.length) : gD (xs.drop k)=([(xs.getD k ⟨0,[]⟩).id,((xs.getD k ⟨0,[]⟩).value.length:Int)%256]++(xs.getD k ⟨0,[]⟩).value)++gD (xs.drop (k+1)):=by
  rw[List.drop_eq_getElem_cons h]
  simp[gD,List.getD_eq_getElem?_getD,List.getElem?_eq_getElem h]
def dp (dir:Int)(M:aP) : List Int :=
  if M.mei==13 then [M.mei]++M.data
  else if dir==0 then [M.mei,M.kind,M.next]
  else [M.mei,M.kind,M.level,M.more,M.next,(M.objects.length:Int)%256]++gD M.objects
theorem pT{m:Md}{cs:Array Value}{M:aP}{w:World}{dir:Int}(h:aW m w cs.toList M)(hf:cY M)(hd0:(dir==0)=true) : Calls Tryz.prog 214 #[.int .i64 dir,.agg cs] w (gP (dp dir M) w):=by
 obtain⟨vw,vb,vd,vr,vo,h0,hw,hbt,hd,hr,ho,hR⟩:=h
 obtain rfl:cs=(bP M vw vb vd vr vo).toArray:=by apply Array.toList_inj.1;simpa using h0
 clear h0
 obtain⟨Aw,kw,rfl,_,_⟩:=hw.shape
 obtain⟨Ab,kb,rfl,_,_⟩:=hbt.shape
 obtain⟨Ad,kd,rfl,_,_⟩:=hd.shape
 obtain⟨Ar,kr,rfl,_,_⟩:=hr.shape
 obtain⟨Ao,ko,rfl,_,_⟩:=ho.shape
 obtain⟨q0,q1,q2,q3,q4,q5,q6,q7,q8,q9,i,j,k,l,n,o,p⟩:=hR
 simp only[B8,dy] at q0 q1 q2 q3 q4 q5 q6 q7 q8 q9 i j k l n o p
 have hf1:=hf.words
 have hf2:=hf.bits
 have hf3:=hf.data
 have hf4:=hf.recs
 have hf5:=hf.objects
 refine en 64 Tryz.func214 rfl<|sg<|L0<|dx (mG M.code M.fail M.addr M.count M.value M.and_ M.or_ M.addr2 M.sub M.status M.events M.messages (.slice Aw M.words.length kw) (.slice Ab M.bits.length kb) (.slice Ad M.data.length kd) (.slice Ar M.recs.length kr) M.mei M.kind M.level M.more M.next (.slice Ao M.objects.length ko)) fun D E F a b=>Pl 1<|nt<|sq<|bk<|sg<|Pl 1<|L0<|aR a 16<|Pl 2<|nl<|?_
 refine tn<|cb ((M.mei==13)) (fun c=>?_) (fun c=>?_)
 have q:=al c
 refine sg<|Pl 1<|L0<|aR a 16<|L0<|dA (m:=1) (e:=5) #[.int .u8 M.mei] fun G H r s d=>?_
 have f:=dT r (xs:=[M.mei]) (by as_aux_lemma=>kernel_rfl) (az (by omega) aZ) (by(try simp only[List.length_cons,List.length_nil]);omega) s
 refine Pl 1<|?_
 refine L0<|aR (ub d a) 14<|?_
 have g:=aI b d
 refine L0<|cO bv (xs:=([M.mei])) (ys:=M.data) (.int .u8 0) 1 f (b7.old hd g) (by(try simp only[List.length_append,List.length_cons,List.length_nil,aC]);omega) d.size fun t u I v x=>Pl 1<|nt<|rt<|br<|tr<|rr (.slice t (([M.mei]++M.data).length) u)<|?_
 have hs:dp dir M=([M.mei]++M.data):=by
   unfold dp
   (try simp only[hd0,c,bs,if_true,if_false,decide_true,decide_false,reduceIte])
   all_goals rfl
 rw[hs]
 exact⟨_,rfl,(be.weaken v b.size),(ut g x (av (aU f b.size) aq))⟩
 have q:=ap c
 refine sg<|Pl 3<|nt<|ct hd0<|sg<|Pl 1<|L0<|aR a 16<|Pl 1<|L0<|aR a 17<|Pl 1<|L0<|aR a 20<|?_
 refine L0<|dA (m:=3) (e:=5) #[.int .u8 M.mei,.int .u8 M.kind,.int .u8 M.next] fun y J z A B=>?_
 have C:=dT z (xs:=[M.mei,M.kind,M.next]) (by as_aux_lemma=>kernel_rfl) (az (by omega) (az (by omega) (az (by omega) aZ))) (by(try simp only[List.length_cons,List.length_nil]);omega) A
 refine Pl 1<|nt<|rt<|br<|tr<|rr (.slice (some ⟨y,0,none⟩) 3 3)<|?_
 have hs:dp dir M=[M.mei,M.kind,M.next]:=by
   unfold dp
   (try simp only[hd0,c,bs,if_true,if_false,decide_true,decide_false,reduceIte])
   all_goals rfl
 rw[hs]
 exact⟨_,rfl,(be.weaken C b.size),(aI b B)⟩
theorem p7{m:Md}{cs:Array Value}{M:aP}{w:World}{dir:Int}(h:aW m w cs.toList M)(hf:cY M)(hd0:(dir==0)=false) : Calls Tryz.prog 214 #[.int .i64 dir,.agg cs] w (gP (dp dir M) w):=by
 obtain⟨vw,vb,vd,vr,vo,h0,hw,hbt,hd,hr,ho,hR⟩:=h
 obtain rfl:cs=(bP M vw vb vd vr vo).toArray:=by apply Array.toList_inj.1;simpa using h0
 clear h0
 obtain⟨Aw,kw,rfl,_,_⟩:=hw.shape
 obtain⟨Ab,kb,rfl,_,_⟩:=hbt.shape
 obtain⟨Ad,kd,rfl,_,_⟩:=hd.shape
 obtain⟨Ar,kr,rfl,_,_⟩:=hr.shape
 obtain⟨Ao,ko,rfl,_,_⟩:=ho.shape
 obtain⟨q0,q1,q2,q3,q4,q5,q6,q7,q8,q9,O,P,Q,R,S,T,U⟩:=hR
 simp only[B8,dy] at q0 q1 q2 q3 q4 q5 q6 q7 q8 q9 O P Q R S T U
 have hf1:=hf.words
 have hf2:=hf.bits
 have hf3:=hf.data
 have hf4:=hf.recs
 have hf5:=hf.objects
 refine en 64 Tryz.func214 rfl<|sg<|L0<|dx (mG M.code M.fail M.addr M.count M.value M.and_ M.or_ M.addr2 M.sub M.status M.events M.messages (.slice Aw M.words.length kw) (.slice Ab M.bits.length kb) (.slice Ad M.data.length kd) (.slice Ar M.recs.length kr) M.mei M.kind M.level M.more M.next (.slice Ao M.objects.length ko)) fun aD r aF a c=>Pl 1<|nt<|sq<|bk<|sg<|Pl 1<|L0<|aR a 16<|Pl 2<|nl<|?_
 refine tn<|cb ((M.mei==13)) (fun d=>?_) (fun d=>?_)
 have V:=al d
 refine sg<|Pl 1<|L0<|aR a 16<|L0<|dA (m:=1) (e:=5) #[.int .u8 M.mei] fun aG aH W X s=>?_
 have E:=dT W (xs:=[M.mei]) (by as_aux_lemma=>kernel_rfl) (az (by omega) aZ) (by(try simp only[List.length_cons,List.length_nil]);omega) X
 refine Pl 1<|?_
 refine L0<|aR (ub s a) 14<|?_
 have F:=aI c s
 refine L0<|cO bv (xs:=([M.mei])) (ys:=M.data) (.int .u8 0) 1 E (b7.old hd F) (by(try simp only[List.length_append,List.length_cons,List.length_nil,aC]);omega) s.size fun Y Z aJ a0 a1=>Pl 1<|nt<|rt<|br<|tr<|rr (.slice Y (([M.mei]++M.data).length) Z)<|?_
 have hs:dp dir M=([M.mei]++M.data):=by
   unfold dp
   (try simp only[hd0,d,bs,if_true,if_false,decide_true,decide_false,reduceIte])
   all_goals rfl
 rw[hs]
 exact⟨_,rfl,(be.weaken a0 c.size),(ut F a1 (av (aU E c.size) aq))⟩
 have V:=ap d
 refine sg<|Pl 3<|nt<|cf hd0<|sk<|bn<|tn<|sg<|Pl 1<|L0<|aR a 16<|Pl 1<|L0<|aR a 17<|?_
 refine Pl 1<|L0<|aR a 18<|Pl 1<|L0<|aR a 19<|Pl 1<|L0<|aR a 20<|Pl 1<|L0<|aR a 21<|Pl 2<|L0<|dA (m:=6) (e:=5) #[.int .u8 M.mei,.int .u8 M.kind,.int .u8 M.level,.int .u8 M.more,.int .u8 M.next,.int .u8 (((M.objects.length:Nat) : Int)%256)] fun a2 a3 a4 a5 j=>?_
 have a6:=dT a4 (xs:=[M.mei,M.kind,M.level,M.more,M.next,(((M.objects.length:Nat) : Int)%256)]) (by as_aux_lemma=>kernel_rfl) (az (by omega) (az (by omega) (az (by omega) (az (by omega) (az (by omega) (az (by omega) aZ)))))) (by(try simp only[List.length_cons,List.length_nil]);omega) a5
 refine Pl 1<|nt<|sq<|sg<|Pl 1<|?_
 refine L0<|aR (ub j a) 21<|Pl 2<|nt<|bk<|?_
 refine iu (fun x=>[(4,.slice none 0 0),(5,.slice x.2.2.1 x.2.1.length x.2.2.2),(44,.slice Ao M.objects.length ko),(45,.int .i64 ((M.objects.length:Nat) : Int)),(46,.int .i64 ((x.1:Nat) : Int))]) (fun(x:Nat × List Int × Option Addr × Nat) w'=>aE [] r w'∧a3.heap.size≤w'.heap.size∧fo r.heap.size w' (.slice x.2.2.1 x.2.1.length x.2.2.2) x.2.1∧(x.1≤M.objects.length)∧(x.2.1++gD (M.objects.drop x.1)=([M.mei,M.kind,M.level,M.more,M.next,(((M.objects.length:Nat) : Int)%256)])++gD M.objects)∧(x.2.1.length≤16+x.1*1026)∧(6≤x.2.1.length)) (fun x=>M.objects.length-x.1) (0,[M.mei,M.kind,M.level,M.more,M.next,(((M.objects.length:Nat) : Int)%256)],some ⟨a2,0,none⟩,6) ⟨j,lr,a6,(by(try dsimp only);omega),rfl,(by(try dsimp only);(try simp only[List.length_cons,List.length_nil]);omega),(by(try dsimp only);(try simp only[List.length_cons,List.length_nil]);omega)⟩ ?_
 rintro⟨k,L,A,cp⟩ a7 ⟨G,t,a8,a9,aa,ab,ac⟩
 refine iv [(4,.slice none 0 0),(5,.slice A L.length cp),(44,.slice Ao M.objects.length ko),(45,.int .i64 ((M.objects.length:Nat) : Int)),(46,.int .i64 ((k:Nat) : Int))] ?_
 have f:fo r.heap.size a7 (.slice A L.length cp) L:=a8
 have aK:k≤M.objects.length:=a9
 have aL:L++gD (M.objects.drop k)=([M.mei,M.kind,M.level,M.more,M.next,(((M.objects.length:Nat) : Int)%256)])++gD M.objects:=aa
 have aM:L.length≤16+k*1026:=ab
 have aN:6≤L.length:=ac
 have hL:L++gD (M.objects.drop k)=([M.mei,M.kind,M.level,M.more,M.next,(((M.objects.length:Nat) : Int)%256)])++gD M.objects:=by assumption
 have hv0:=fun(h:k<M.objects.length)=>hf.objv _ (dz ⟨0,[]⟩ M.objects k h)
 refine sg<|Pl 1<|nt<|sq<|?_
 have u:=aI c G
 refine cb ((decide (((k:Nat) : Int)<((M.objects.length:Nat) : Int)))) (fun l=>?_) (fun l=>?_)
 have ad:=of_decide_eq_true l
 refine bq<|sq<|bk<|sg<|iW (m7.elt ho k (by omega)) fun aO aQ aS aT aV v y ae af ah aX ai=>L0<|qI 2 M.objects.length k ae (by omega)<|?_
 refine L0<|vc [.int .u8 ((M.objects.getD k ⟨0,[]⟩).id),.slice v ((M.objects.getD k ⟨0,[]⟩).value.length) y] (ub u af) ai<|L0<|bI #[.int .u8 0,.slice none 0 0] fun H aY I aj n=>L0<|b6 aj #[.int .u8 ((M.objects.getD k ⟨0,[]⟩).id),.slice v ((M.objects.getD k ⟨0,[]⟩).value.length) y] fun b0 ak o=>nt<|Rg 13 (fun w'=>w'.cell? ⟨H,0,none⟩=some (.int .u8 ((M.objects.getD k ⟨0,[]⟩).id))∧w'.cell? ⟨H,1,none⟩=some (.slice v ((M.objects.getD k ⟨0,[]⟩).value.length) y)) fun b1 g=>?_
 have z:=ub g ak
 refine bh ⟨(ag z rfl),(ag z rfl)⟩ fun b=>Rt 0 b<|Rt 1 b<|Rl 2 b (fun _ hs=>hs.1)<|Rt 3 b<|Rl 4 b (fun _ hs=>hs.2)<|Rt 5 b<|Rt 6 b<|Rt 9 b<|Rl 10 b (fun _ hs=>hs.2)<|R0 7 rfl<|dA (m:=2) (e:=5) #[.int .u8 ((M.objects.getD k ⟨0,[]⟩).id),.int .u8 ((((M.objects.getD k ⟨0,[]⟩).value.length:Nat) : Int)%256)] fun b2 b3 am an i=>?_
 have ao:=dT am (xs:=[(M.objects.getD k ⟨0,[]⟩).id,((((M.objects.getD k ⟨0,[]⟩).value.length:Nat) : Int)%256)]) (by as_aux_lemma=>kernel_rfl) (az (by omega) (az (by omega) aZ)) (by(try simp only[List.length_cons,List.length_nil]);omega) an
 have B:=ub i z
 refine bh ⟨(ag B rfl),(ag B rfl)⟩ fun b4=>?_
 have J:=ud n (aI o (aI g i)) I
 refine R0 8 rfl<|cO bv (xs:=L) (ys:=([(M.objects.getD k ⟨0,[]⟩).id,((((M.objects.getD k ⟨0,[]⟩).value.length:Nat) : Int)%256)])) (.int .u8 0) 1 (ax f J (fun x hx=>ay) (fun _ _ h=>h)) (ao).rd (by(try simp only[List.length_append,List.length_cons,List.length_nil,aC]);omega) (le (le (le (le (le j.size t) n.size) o.size) g.size) i.size) fun ar b5 b8 C p=>?_
 have q:=aE.blk p (bi (dR f lr I) ay) B
 refine bh ⟨(ag q rfl),(ag q rfl)⟩ fun b9=>?_
 have K:=ut (aE.mono (S':=(ob A++[])) J aq) p (av il aq)
 refine R0 11 rfl<|cO bv (xs:=(L++[(M.objects.getD k ⟨0,[]⟩).id,((((M.objects.getD k ⟨0,[]⟩).value.length:Nat) : Int)%256)])) (ys:=((M.objects.getD k ⟨0,[]⟩).value)) (.int .u8 0) 1 C (b7.old ah (ut u K (av (aU f c.size) aq))) (by(try simp only[List.length_append,List.length_cons,List.length_nil,aC]);omega) (le (le (le (le (le (le j.size t) n.size) o.size) g.size) i.size) p.size) fun au aw ba aA D=>?_
 have N:=aE.blk D (bi (dm q C (by decide)) ay) q
 refine bh ⟨(ag N rfl),(ag N rfl)⟩ fun aB=>Rt 12 aB<|re<|bn<|tn<|go<|L0<|Oi (((k:Nat) : Int)+1)<|Pl 1<|nl<|?_
 exact fU ((k+1),((L++[(M.objects.getD k ⟨0,[]⟩).id,((((M.objects.getD k ⟨0,[]⟩).value.length:Nat) : Int)%256)])++(M.objects.getD k ⟨0,[]⟩).value),au,aw) ⟨(ut G (ut (aE.mono (S':=(ob A++(ob ar++[]))) K (av il aq)) D (av il aq)) (av (aU f lr) (av (aU C lr) aq))),(le (le (le (le (le (le t n.size) o.size) g.size) i.size) p.size) D.size),aA,(by(try dsimp only);omega),(by(try dsimp only);rw[← hL,pk  M.objects k (by omega)];simp only[List.append_assoc]),(by(try dsimp only);have hv:=hf.objv _ (dz ⟨0,[]⟩ M.objects k (by omega));(try simp only[List.length_append,List.length_cons,List.length_nil,aC]);omega),(by(try dsimp only);(try simp only[List.length_append,List.length_cons,List.length_nil]);omega)⟩ (by omega)
 have ad:=of_decide_eq_false l
 refine xt<|tx<|tx<|bx<|tn<|sg<|Pl 2<|nt<|rt<|rr (.slice A L.length cp)<|?_
 have hk:k=M.objects.length:=by omega
 rw[hk,List.drop_length] at hL
 have hL2:L=([M.mei,M.kind,M.level,M.more,M.next,(((M.objects.length:Nat) : Int)%256)])++gD M.objects:=by rw[← hL];simp[gD]
 have hs:dp dir M=L:=by
   rw[hL2]
   unfold dp
   (try simp only[hd0,d,l,bs,if_true,if_false,decide_true,decide_false,reduceIte])
   all_goals rfl
 rw[hs]
 exact⟨_,rfl,(be.weaken f c.size),u⟩
theorem sw{m:Md}{cs:Array Value}{M:aP}{w:World}{dir:Int}(h:aW m w cs.toList M)(hf:cY M) : Calls Tryz.prog 214 #[.int .i64 dir,.agg cs] w (gP (dp dir M) w):=by
  rcases dQ (dir==0) with h0|h0
  · exact pT h hf h0
  · exact p7 h hf h0
open Go.RowKit
def jG (dir code:Int)(r:di) : List Int:=(if code==20&&dir==1 then [(1+2*(r.words.length:Int))%256,6] else [6]++bf [r.file,r.record,r.count])++bf r.words
def cU (dir code:Int) : List di→List Int
  | []=>[]
  | r :: rs=>jG dir code r++cU dir code rs
theorem dw(dir code:Int)(xs:List di)(k:Nat)(h:k<xs.length) : cU dir code (xs.drop k)=jG dir code (xs.getD k ⟨0,0,0,[]⟩)++cU dir code (xs.drop (k+1)):=by
  rw[List.drop_eq_getElem_cons h]
  simp[cU,List.getD_eq_getElem?_getD,List.getElem?_eq_getElem h]
def cX (dir:Int)(M:aP) : List Int:=([0]++cU dir M.code M.recs).set 0 (((([0]++cU dir M.code M.recs).length:Int)-1)%256)
theorem mh{m:Md}{cs:Array Value}{M:aP}{w:World}{dir:Int}(h:aW m w cs.toList M)(hf:cY M)(hd0:(dir==0)=true) : Calls Tryz.prog 212 #[.int .i64 dir,.agg cs] w (gP (cX dir M) w):=by
 obtain⟨vw,vb,vd,vr,vo,h0,hw,hbt,hd,hr,ho,hR⟩:=h
 obtain rfl:cs=(bP M vw vb vd vr vo).toArray:=by apply Array.toList_inj.1;simpa using h0
 clear h0
 obtain⟨Aw,kw,rfl,_,_⟩:=hw.shape
 obtain⟨Ab,kb,rfl,_,_⟩:=hbt.shape
 obtain⟨Ad,kd,rfl,_,_⟩:=hd.shape
 obtain⟨Ar,kr,rfl,_,_⟩:=hr.shape
 obtain⟨Ao,ko,rfl,_,_⟩:=ho.shape
 obtain⟨q0,q1,q2,q3,q4,q5,q6,q7,q8,q9,bg,bj,bm,bo,bp,br,bt⟩:=hR
 simp only[B8,dy] at q0 q1 q2 q3 q4 q5 q6 q7 q8 q9 bg bj bm bo bp br bt
 have hf1:=hf.words
 have hf2:=hf.bits
 have hf3:=hf.data
 have hf4:=hf.recs
 have hf5:=hf.objects
 refine en 58 Tryz.func212 rfl<|sg<|L0<|dx (mG M.code M.fail M.addr M.count M.value M.and_ M.or_ M.addr2 M.sub M.status M.events M.messages (.slice Aw M.words.length kw) (.slice Ab M.bits.length kb) (.slice Ad M.data.length kd) (.slice Ar M.recs.length kr) M.mei M.kind M.level M.more M.next (.slice Ao M.objects.length ko)) fun an ac cz ao l=>Pl 1<|ng<|L0<|dA (m:=1) (e:=5) #[.int .u8 0] fun bu bw bz bA g=>?_
 have bB:=dT bz (xs:=[0]) (by as_aux_lemma=>kernel_rfl) (az (by omega) aZ) (by(try simp only[List.length_cons,List.length_nil]);omega) bA
 refine Pl 1<|nt<|sq<|sg<|Pl 1<|?_
 refine L0<|aR (ub g ao) 15<|Pl 2<|nt<|bk<|?_
 refine iu (fun x=>[(0,.int .i64 dir),(3,.pointer (some ⟨an,0,none⟩)),(4,.slice none 0 0),(5,.slice x.2.2.1 x.2.1.length x.2.2.2),(10,.slice Ar M.recs.length kr),(11,.int .i64 ((M.recs.length:Nat) : Int)),(12,.int .i64 ((x.1:Nat) : Int))]) (fun(x:Nat × List Int × Option Addr × Nat) w'=>aE [] ac w'∧bw.heap.size≤w'.heap.size∧fo ac.heap.size w' (.slice x.2.2.1 x.2.1.length x.2.2.2) x.2.1∧(x.1≤M.recs.length)∧(x.2.1++cU dir M.code (M.recs.drop x.1)=([0])++cU dir M.code M.recs)∧(x.2.1.length≤16+x.1*2060)∧(1≤x.2.1.length)) (fun x=>M.recs.length-x.1) (0,[0],some ⟨bu,0,none⟩,1) ⟨g,lr,bB,(by(try dsimp only);omega),rfl,(by(try dsimp only);(try simp only[List.length_cons,List.length_nil]);omega),(by(try dsimp only);(try simp only[List.length_cons,List.length_nil]);omega)⟩ ?_
 rintro⟨k,L,A,cp⟩ bD ⟨ar,f,bE,bF,bG,bH,bJ⟩
 refine iv [(0,.int .i64 dir),(3,.pointer (some ⟨an,0,none⟩)),(4,.slice none 0 0),(5,.slice A L.length cp),(10,.slice Ar M.recs.length kr),(11,.int .i64 ((M.recs.length:Nat) : Int)),(12,.int .i64 ((k:Nat) : Int))] ?_
 have a:fo ac.heap.size bD (.slice A L.length cp) L:=bE
 have cA:k≤M.recs.length:=bF
 have cB:L++cU dir M.code (M.recs.drop k)=([0])++cU dir M.code M.recs:=bG
 have cC:L.length≤16+k*2060:=bH
 have cD:1≤L.length:=bJ
 have hL:L++cU dir M.code (M.recs.drop k)=([0])++cU dir M.code M.recs:=by assumption
 have hv0:=fun(h:k<M.recs.length)=>hf.recw _ (dz ⟨0,0,0,[]⟩ M.recs k h)
 refine sg<|Pl 1<|nt<|sq<|?_
 have ad:=aI l ar
 refine cb ((decide (((k:Nat) : Int)<((M.recs.length:Nat) : Int)))) (fun n=>?_) (fun n=>?_)
 have bK:=of_decide_eq_true n
 refine bq<|sq<|bk<|sg<|iW (kE.elt hr k (by omega)) fun cE cF cG cH cI au aw bL bM Q cJ bN=>L0<|qI 4 M.recs.length k bL (by omega)<|?_
 refine L0<|vc [.int .u16 ((M.recs.getD k ⟨0,0,0,[]⟩).file),.int .u16 ((M.recs.getD k ⟨0,0,0,[]⟩).record),.int .u16 ((M.recs.getD k ⟨0,0,0,[]⟩).count),.slice au ((M.recs.getD k ⟨0,0,0,[]⟩).words.length) aw] (ub ad bM) bN<|L0<|bI #[.int .u16 0,.int .u16 0,.int .u16 0,.slice none 0 0] fun ae cK B bO b=>L0<|b6 bO #[.int .u16 ((M.recs.getD k ⟨0,0,0,[]⟩).file),.int .u16 ((M.recs.getD k ⟨0,0,0,[]⟩).record),.int .u16 ((M.recs.getD k ⟨0,0,0,[]⟩).count),.slice au ((M.recs.getD k ⟨0,0,0,[]⟩).words.length) aw] fun cL af c=>nt<|sq<|bk<|sg<|Pl 1<|?_
 have s:=ud b c B
 have C:=aI ar s
 refine L0<|aR (ub C ao) 0<|Pl 2<|cu 3 [32] 35 (((M.code==20)&&(dir==1))) (fun K aA=>?_) ?_
 refine bl 32 ((M.code==20)) (fun D=>?_) (fun D=>?_)
 have bQ:=al D
 exact Pl 3<|ce aA (dir==1) (by rw[D];rfl)
 have bQ:=ap D
 exact Pl 3<|ce aA false (by rw[D];rfl)
 refine Pl 1<|nt<|?_
 have R:=aI ad s
 refine cb (((M.code==20)&&(dir==1))) (fun o=>?_) (fun o=>?_)
 have aB:=(aS o).1
 have aD:=(aS o).2
 have cM:=al aB
 have cN:=al aD
 refine go<|Pl 2<|L0<|aR af 3<|Pl 1<|L0<|Oi (2*(((M.recs.getD k ⟨0,0,0,[]⟩).words.length:Nat) : Int))<|L0<|Oi (1+(2*(((M.recs.getD k ⟨0,0,0,[]⟩).words.length:Nat) : Int)))<|Pl 1<|L0<|dA (m:=2) (e:=5) #[.int .u8 ((1+(2*(((M.recs.getD k ⟨0,0,0,[]⟩).words.length:Nat) : Int)))%256),.int .u8 6] fun cP cQ bR bS E=>?_
 have bT:=dT bR (xs:=[((1+(2*(((M.recs.getD k ⟨0,0,0,[]⟩).words.length:Nat) : Int)))%256),6]) (by as_aux_lemma=>kernel_rfl) (az (by omega) (az (by omega) aZ)) (by(try simp only[List.length_cons,List.length_nil]);omega) bS
 refine L0<|cO bv (xs:=L) (ys:=([((1+(2*(((M.recs.getD k ⟨0,0,0,[]⟩).words.length:Nat) : Int)))%256),6])) (.int .u8 0) 1 (ax a (aI s E) (fun x hx=>ay) (fun _ _ h=>h)) (bT).rd (by(try simp only[List.length_append,List.length_cons,List.length_nil,aC]);omega) (le (le (le (le g.size f) b.size) c.size) E.size) fun aF cR cS aG ah=>Pl 1<|nl<|bn<|tn<|go<|Pl 2<|?_
 have ai:=ut (aE.mono (S':=(ob A++[])) E aq) ah (av il aq)
 refine L0<|aR (aE.blk ai (bi (dR a lr B) ay) af) 3<|?_
 refine L0<|Oc<|ea (bC (xs:=(M.recs.getD k ⟨0,0,0,[]⟩).words) (dN.old Q (ut R ai (av (aU a l.size) aq))) (by(try simp only[List.length_cons,List.length_nil]);omega)) fun cT cV cW bU cZ d0 S=>?_
 refine L0<|cO bv (xs:=(L++[((1+(2*(((M.recs.getD k ⟨0,0,0,[]⟩).words.length:Nat) : Int)))%256),6])) (ys:=(bf ((M.recs.getD k ⟨0,0,0,[]⟩).words))) (.int .u8 0) 1 (ax aG S (fun x hx=>ay) (fun _ _ h=>h)) (bU).rd (by(try simp only[List.length_append,List.length_cons,List.length_nil,aC]);omega) (le (le (le (le (le (le g.size f) b.size) c.size) E.size) ah.size) S.size) fun bV bW d1 bX aH=>Pl 1<|nl<|bn<|tn<|go<|L0<|Oi (((k:Nat) : Int)+1)<|Pl 1<|nl<|?_
 exact fU ((k+1),((L++[((1+(2*(((M.recs.getD k ⟨0,0,0,[]⟩).words.length:Nat) : Int)))%256),6])++(bf ((M.recs.getD k ⟨0,0,0,[]⟩).words))),bV,bW) ⟨(ut C (ut (aE.mono (S':=(ob A++(ob aF++[]))) ai (av il aq)) (ut (aE.mono (S':=(ob aF++[])) S aq) aH (av il aq)) (av il aq)) (av (aU a lr) (av (aU aG lr) aq))),(le (le (le (le (le (le f b.size) c.size) E.size) ah.size) S.size) aH.size),bX,(by(try dsimp only);omega),(by(try dsimp only);rw[← hL,dw dir M.code M.recs k (by omega)];simp only[jG,hd0,n,o,aB,aD,bs,if_true,if_false,decide_true,decide_false,List.append_assoc]),(by(try dsimp only);have hv:=hf.recw _ (dz ⟨0,0,0,[]⟩ M.recs k (by omega));(try simp only[List.length_append,List.length_cons,List.length_nil,aC]);omega),(by(try dsimp only);(try simp only[List.length_append,List.length_cons,List.length_nil]);omega)⟩ (by omega)
 refine Rg 13 (fun w'=>w'.cell? ⟨ae,0,none⟩=some (.int .u16 ((M.recs.getD k ⟨0,0,0,[]⟩).file))∧w'.cell? ⟨ae,1,none⟩=some (.int .u16 ((M.recs.getD k ⟨0,0,0,[]⟩).record))∧w'.cell? ⟨ae,2,none⟩=some (.int .u16 ((M.recs.getD k ⟨0,0,0,[]⟩).count))) fun d2 d=>?_
 have F:=ub d af
 refine bh ⟨(ag F rfl),(ag F rfl),(ag F rfl)⟩ fun p=>Rt 0 p<|Rt 3 p<|Rl 4 p (fun _ hs=>hs.1)<|Rt 5 p<|Rl 6 p (fun _ hs=>hs.2.1)<|Rt 7 p<|Rl 8 p (fun _ hs=>hs.2.2)<|?_
 refine R2 1 9 rfl rfl ?_ ?_
 refine  dA (m:=1) (e:=5) #[.int .u8 6] fun d3 d4 bY bZ i=>?_
 have aJ:=dT bY (xs:=[6]) (by as_aux_lemma=>kernel_rfl) (az (by omega) aZ) (by(try simp only[List.length_cons,List.length_nil]);omega) bZ
 have G:=ub i F
 refine bh ⟨(ag G rfl),(ag G rfl),(ag G rfl)⟩ fun d5=>?_
 refine R2 2 9 rfl rfl ?_ ?_
 have aK:=aI d i
 refine  cO bv (xs:=L) (ys:=([6])) (.int .u8 0) 1 (ax a (aI s aK) (fun x hx=>ay) (fun _ _ h=>h)) (aJ).rd (by(try simp only[List.length_append,List.length_cons,List.length_nil,aC]);omega) (le (le (le (le (le g.size f) b.size) c.size) d.size) i.size) fun T d6 d7 aj H=>?_
 have U:=aE.blk H (bi (dR a lr B) ay) G
 refine bh ⟨(ag U rfl),(ag U rfl),(ag U rfl)⟩ fun d8=>R0 9 rfl<|dA (m:=3) (e:=24) #[.int .u16 ((M.recs.getD k ⟨0,0,0,[]⟩).file),.int .u16 ((M.recs.getD k ⟨0,0,0,[]⟩).record),.int .u16 ((M.recs.getD k ⟨0,0,0,[]⟩).count)] fun d9 da c0 c1 I=>?_
 have c2:=ec c0 (xs:=[(M.recs.getD k ⟨0,0,0,[]⟩).file,(M.recs.getD k ⟨0,0,0,[]⟩).record,(M.recs.getD k ⟨0,0,0,[]⟩).count]) (by as_aux_lemma=>kernel_rfl) (az (by omega) (az (by omega) (az (by omega) aZ))) (by(try simp only[List.length_cons,List.length_nil]);omega) c1
 have V:=ub I U
 refine bh ⟨(ag V rfl),(ag V rfl),(ag V rfl)⟩ fun db=>R0 10 rfl<|Oc<|ea (bC (xs:=[(M.recs.getD k ⟨0,0,0,[]⟩).file,(M.recs.getD k ⟨0,0,0,[]⟩).record,(M.recs.getD k ⟨0,0,0,[]⟩).count]) (c2).rd (by(try simp only[List.length_cons,List.length_nil]);omega)) fun dc dd de c3 df dg J=>?_
 have N:=ub J V
 refine bh ⟨(ag N rfl),(ag N rfl),(ag N rfl)⟩ fun dh=>?_
 have aL:=aI I J
 have aM:=ax aj aL (fun x hx=>ay) (fun _ _ h=>h)
 refine R0 11 rfl<|cO bv (xs:=(L++[6])) (ys:=(bf ([(M.recs.getD k ⟨0,0,0,[]⟩).file,(M.recs.getD k ⟨0,0,0,[]⟩).record,(M.recs.getD k ⟨0,0,0,[]⟩).count]))) (.int .u8 0) 1 aM (c3).rd (by(try simp only[List.length_append,List.length_cons,List.length_nil,aC]);omega) (le (le (le (le (le (le (le (le g.size f) b.size) c.size) d.size) i.size) H.size) I.size) J.size) fun aN di dj aO W=>?_
 have X:=aE.blk W (bi (dm N aM (by decide)) ay) N
 refine bh ⟨(ag X rfl),(ag X rfl),(ag X rfl)⟩ fun c4=>Rt 12 c4<|re<|bn<|tn<|go<|Pl 2<|L0<|aR X 3<|?_
 have aQ:=ut (aE.mono (S':=(ob A++(ob T++[]))) aK aq) (ut (aE.mono (S':=(ob A++(ob T++[]))) H (av il aq)) (ut (aE.mono (S':=(ob T++[])) aL aq) W (av il aq)) (av il aq)) (av il (av il aq))
 refine L0<|Oc<|ea (bC (xs:=(M.recs.getD k ⟨0,0,0,[]⟩).words) (dN.old Q (ut R aQ (av (aU a l.size) (av (aU aj l.size) aq)))) (by(try simp only[List.length_cons,List.length_nil]);omega)) fun dk dl dn c5 dp dq Y=>?_
 refine L0<|cO bv (xs:=((L++[6])++(bf ([(M.recs.getD k ⟨0,0,0,[]⟩).file,(M.recs.getD k ⟨0,0,0,[]⟩).record,(M.recs.getD k ⟨0,0,0,[]⟩).count])))) (ys:=(bf ((M.recs.getD k ⟨0,0,0,[]⟩).words))) (.int .u8 0) 1 (ax aO Y (fun x hx=>ay) (fun _ _ h=>h)) (c5).rd (by(try simp only[List.length_append,List.length_cons,List.length_nil,aC]);omega) (le (le (le (le (le (le (le (le (le (le g.size f) b.size) c.size) d.size) i.size) H.size) I.size) J.size) W.size) Y.size) fun c6 c7 dr c8 aT=>Pl 1<|nl<|bn<|tn<|go<|L0<|Oi (((k:Nat) : Int)+1)<|Pl 1<|nl<|?_
 exact fU ((k+1),(((L++[6])++(bf ([(M.recs.getD k ⟨0,0,0,[]⟩).file,(M.recs.getD k ⟨0,0,0,[]⟩).record,(M.recs.getD k ⟨0,0,0,[]⟩).count])))++(bf ((M.recs.getD k ⟨0,0,0,[]⟩).words))),c6,c7) ⟨(ut C (ut (aE.mono (S':=(ob A++(ob T++(ob aN++[])))) aQ (av il (av il aq))) (ut (aE.mono (S':=(ob aN++[])) Y aq) aT (av il aq)) (av il aq)) (av (aU a lr) (av (aU aj lr) (av (aU aO lr) aq)))),(le (le (le (le (le (le (le (le (le (le f b.size) c.size) d.size) i.size) H.size) I.size) J.size) W.size) Y.size) aT.size),c8,(by(try dsimp only);omega),(by(try dsimp only);rw[← hL,dw dir M.code M.recs k (by omega)];simp only[jG,hd0,n,o,bs,if_true,if_false,decide_true,decide_false,List.append_assoc]),(by(try dsimp only);have hv:=hf.recw _ (dz ⟨0,0,0,[]⟩ M.recs k (by omega));(try simp only[List.length_append,List.length_cons,List.length_nil,aC]);omega),(by(try dsimp only);(try simp only[List.length_append,List.length_cons,List.length_nil]);omega)⟩ (by omega)
 refine  dA (m:=3) (e:=24) #[.int .u16 ((M.recs.getD k ⟨0,0,0,[]⟩).file),.int .u16 ((M.recs.getD k ⟨0,0,0,[]⟩).record),.int .u16 ((M.recs.getD k ⟨0,0,0,[]⟩).count)] fun ds dt c9 ca q=>?_
 have aV:=ec c9 (xs:=[(M.recs.getD k ⟨0,0,0,[]⟩).file,(M.recs.getD k ⟨0,0,0,[]⟩).record,(M.recs.getD k ⟨0,0,0,[]⟩).count]) (by as_aux_lemma=>kernel_rfl) (az (by omega) (az (by omega) (az (by omega) aZ))) (by(try simp only[List.length_cons,List.length_nil]);omega) ca
 have Z:=ub q G
 refine bh ⟨(ag Z rfl),(ag Z rfl),(ag Z rfl)⟩ fun du=>?_
 have aX:=aI d (aI i q)
 refine R0 2 rfl<|cO bv (xs:=L) (ys:=([6])) (.int .u8 0) 1 (ax a (aI s aX) (fun x hx=>ay) (fun _ _ h=>h)) ((ax aJ q (fun x hx=>ay) (fun _ _ h=>h))).rd (by(try simp only[List.length_append,List.length_cons,List.length_nil,aC]);omega) (le (le (le (le (le (le g.size f) b.size) c.size) d.size) i.size) q.size) fun a0 dv dB ak t=>?_
 have a1:=aE.blk t (bi (dR a lr B) ay) Z
 refine bh ⟨(ag a1 rfl),(ag a1 rfl),(ag a1 rfl)⟩ fun dC=>?_
 refine R0 10 rfl<|Oc<|ea (bC (xs:=[(M.recs.getD k ⟨0,0,0,[]⟩).file,(M.recs.getD k ⟨0,0,0,[]⟩).record,(M.recs.getD k ⟨0,0,0,[]⟩).count]) ((ax aV t (fun x hx=>(bi ((fI aV a (le (le (le b.size c.size) d.size) i.size)) x hx) ay)) (fun _ _ h=>h))).rd (by(try simp only[List.length_cons,List.length_nil]);omega)) fun dD dE dF cc dG dH u=>?_
 have O:=ub u a1
 refine bh ⟨(ag O rfl),(ag O rfl),(ag O rfl)⟩ fun dI=>?_
 have aY:=ax ak u (fun x hx=>ay) (fun _ _ h=>h)
 refine R0 11 rfl<|cO bv (xs:=(L++[6])) (ys:=(bf ([(M.recs.getD k ⟨0,0,0,[]⟩).file,(M.recs.getD k ⟨0,0,0,[]⟩).record,(M.recs.getD k ⟨0,0,0,[]⟩).count]))) (.int .u8 0) 1 aY (cc).rd (by(try simp only[List.length_append,List.length_cons,List.length_nil,aC]);omega) (le (le (le (le (le (le (le (le g.size f) b.size) c.size) d.size) i.size) q.size) t.size) u.size) fun b0 dJ dK b1 a2=>?_
 have a3:=aE.blk a2 (bi (dm O aY (by decide)) ay) O
 refine bh ⟨(ag a3 rfl),(ag a3 rfl),(ag a3 rfl)⟩ fun cd=>Rt 12 cd<|re<|bn<|tn<|go<|Pl 2<|L0<|aR a3 3<|?_
 have b2:=ut (aE.mono (S':=(ob A++(ob a0++[]))) aX aq) (ut (aE.mono (S':=(ob A++(ob a0++[]))) t (av il aq)) (ut (aE.mono (S':=(ob a0++[])) u aq) a2 (av il aq)) (av il aq)) (av il (av il aq))
 refine L0<|Oc<|ea (bC (xs:=(M.recs.getD k ⟨0,0,0,[]⟩).words) (dN.old Q (ut R b2 (av (aU a l.size) (av (aU ak l.size) aq)))) (by(try simp only[List.length_cons,List.length_nil]);omega)) fun dL dM dO cf dP dQ a4=>?_
 refine L0<|cO bv (xs:=((L++[6])++(bf ([(M.recs.getD k ⟨0,0,0,[]⟩).file,(M.recs.getD k ⟨0,0,0,[]⟩).record,(M.recs.getD k ⟨0,0,0,[]⟩).count])))) (ys:=(bf ((M.recs.getD k ⟨0,0,0,[]⟩).words))) (.int .u8 0) 1 (ax b1 a4 (fun x hx=>ay) (fun _ _ h=>h)) (cf).rd (by(try simp only[List.length_append,List.length_cons,List.length_nil,aC]);omega) (le (le (le (le (le (le (le (le (le (le g.size f) b.size) c.size) d.size) i.size) q.size) t.size) u.size) a2.size) a4.size) fun cg ch dS ci b3=>Pl 1<|nl<|bn<|tn<|go<|L0<|Oi (((k:Nat) : Int)+1)<|Pl 1<|nl<|?_
 exact fU ((k+1),(((L++[6])++(bf ([(M.recs.getD k ⟨0,0,0,[]⟩).file,(M.recs.getD k ⟨0,0,0,[]⟩).record,(M.recs.getD k ⟨0,0,0,[]⟩).count])))++(bf ((M.recs.getD k ⟨0,0,0,[]⟩).words))),cg,ch) ⟨(ut C (ut (aE.mono (S':=(ob A++(ob a0++(ob b0++[])))) b2 (av il (av il aq))) (ut (aE.mono (S':=(ob b0++[])) a4 aq) b3 (av il aq)) (av il aq)) (av (aU a lr) (av (aU ak lr) (av (aU b1 lr) aq)))),(le (le (le (le (le (le (le (le (le (le f b.size) c.size) d.size) i.size) q.size) t.size) u.size) a2.size) a4.size) b3.size),ci,(by(try dsimp only);omega),(by(try dsimp only);rw[← hL,dw dir M.code M.recs k (by omega)];simp only[jG,hd0,n,o,bs,if_true,if_false,decide_true,decide_false,List.append_assoc]),(by(try dsimp only);have hv:=hf.recw _ (dz ⟨0,0,0,[]⟩ M.recs k (by omega));(try simp only[List.length_append,List.length_cons,List.length_nil,aC]);omega),(by(try dsimp only);(try simp only[List.length_append,List.length_cons,List.length_nil]);omega)⟩ (by omega)
 refine  dA (m:=3) (e:=24) #[.int .u16 ((M.recs.getD k ⟨0,0,0,[]⟩).file),.int .u16 ((M.recs.getD k ⟨0,0,0,[]⟩).record),.int .u16 ((M.recs.getD k ⟨0,0,0,[]⟩).count)] fun dU dV cj ck v=>?_
 have b4:=ec cj (xs:=[(M.recs.getD k ⟨0,0,0,[]⟩).file,(M.recs.getD k ⟨0,0,0,[]⟩).record,(M.recs.getD k ⟨0,0,0,[]⟩).count]) (by as_aux_lemma=>kernel_rfl) (az (by omega) (az (by omega) (az (by omega) aZ))) (by(try simp only[List.length_cons,List.length_nil]);omega) ck
 have a5:=ub v F
 refine bh ⟨(ag a5 rfl),(ag a5 rfl),(ag a5 rfl)⟩ fun dW=>R0 1 rfl<|dA (m:=1) (e:=5) #[.int .u8 6] fun dX dY cl cm r=>?_
 have cn:=dT cl (xs:=[6]) (by as_aux_lemma=>kernel_rfl) (az (by omega) aZ) (by(try simp only[List.length_cons,List.length_nil]);omega) cm
 have a6:=ub r a5
 refine bh ⟨(ag a6 rfl),(ag a6 rfl),(ag a6 rfl)⟩ fun dZ=>?_
 have b5:=aI d (aI v r)
 refine R0 2 rfl<|cO bv (xs:=L) (ys:=([6])) (.int .u8 0) 1 (ax a (aI s b5) (fun x hx=>ay) (fun _ _ h=>h)) (cn).rd (by(try simp only[List.length_append,List.length_cons,List.length_nil,aC]);omega) (le (le (le (le (le (le g.size f) b.size) c.size) d.size) v.size) r.size) fun a7 e0 e1 am y=>?_
 have a8:=aE.blk y (bi (dR a lr B) ay) a6
 refine bh ⟨(ag a8 rfl),(ag a8 rfl),(ag a8 rfl)⟩ fun e2=>?_
 refine R0 10 rfl<|Oc<|ea (bC (xs:=[(M.recs.getD k ⟨0,0,0,[]⟩).file,(M.recs.getD k ⟨0,0,0,[]⟩).record,(M.recs.getD k ⟨0,0,0,[]⟩).count]) ((ax b4 (ut (aE.mono (S':=(ob A++[])) r aq) y (av il aq)) (fun x hx=>(bi ((fI b4 a (le (le b.size c.size) d.size)) x hx) ay)) (fun _ _ h=>h))).rd (by(try simp only[List.length_cons,List.length_nil]);omega)) fun e3 e4 e5 co e6 e7 z=>?_
 have P:=ub z a8
 refine bh ⟨(ag P rfl),(ag P rfl),(ag P rfl)⟩ fun e8=>?_
 have b8:=ax am z (fun x hx=>ay) (fun _ _ h=>h)
 refine R0 11 rfl<|cO bv (xs:=(L++[6])) (ys:=(bf ([(M.recs.getD k ⟨0,0,0,[]⟩).file,(M.recs.getD k ⟨0,0,0,[]⟩).record,(M.recs.getD k ⟨0,0,0,[]⟩).count]))) (.int .u8 0) 1 b8 (co).rd (by(try simp only[List.length_append,List.length_cons,List.length_nil,aC]);omega) (le (le (le (le (le (le (le (le g.size f) b.size) c.size) d.size) v.size) r.size) y.size) z.size) fun b9 e9 eb ba a9=>?_
 have aa:=aE.blk a9 (bi (dm P b8 (by decide)) ay) P
 refine bh ⟨(ag aa rfl),(ag aa rfl),(ag aa rfl)⟩ fun cq=>Rt 12 cq<|re<|bn<|tn<|go<|Pl 2<|L0<|aR aa 3<|?_
 have bb:=ut (aE.mono (S':=(ob A++(ob a7++[]))) b5 aq) (ut (aE.mono (S':=(ob A++(ob a7++[]))) y (av il aq)) (ut (aE.mono (S':=(ob a7++[])) z aq) a9 (av il aq)) (av il aq)) (av il (av il aq))
 refine L0<|Oc<|ea (bC (xs:=(M.recs.getD k ⟨0,0,0,[]⟩).words) (dN.old Q (ut R bb (av (aU a l.size) (av (aU am l.size) aq)))) (by(try simp only[List.length_cons,List.length_nil]);omega)) fun ed ee ef cr eg eh ab=>?_
 refine L0<|cO bv (xs:=((L++[6])++(bf ([(M.recs.getD k ⟨0,0,0,[]⟩).file,(M.recs.getD k ⟨0,0,0,[]⟩).record,(M.recs.getD k ⟨0,0,0,[]⟩).count])))) (ys:=(bf ((M.recs.getD k ⟨0,0,0,[]⟩).words))) (.int .u8 0) 1 (ax ba ab (fun x hx=>ay) (fun _ _ h=>h)) (cr).rd (by(try simp only[List.length_append,List.length_cons,List.length_nil,aC]);omega) (le (le (le (le (le (le (le (le (le (le g.size f) b.size) c.size) d.size) v.size) r.size) y.size) z.size) a9.size) ab.size) fun ct cv ei cw bc=>Pl 1<|nl<|bn<|tn<|go<|L0<|Oi (((k:Nat) : Int)+1)<|Pl 1<|nl<|?_
 exact fU ((k+1),(((L++[6])++(bf ([(M.recs.getD k ⟨0,0,0,[]⟩).file,(M.recs.getD k ⟨0,0,0,[]⟩).record,(M.recs.getD k ⟨0,0,0,[]⟩).count])))++(bf ((M.recs.getD k ⟨0,0,0,[]⟩).words))),ct,cv) ⟨(ut C (ut (aE.mono (S':=(ob A++(ob a7++(ob b9++[])))) bb (av il (av il aq))) (ut (aE.mono (S':=(ob b9++[])) ab aq) bc (av il aq)) (av il aq)) (av (aU a lr) (av (aU am lr) (av (aU ba lr) aq)))),(le (le (le (le (le (le (le (le (le (le f b.size) c.size) d.size) v.size) r.size) y.size) z.size) a9.size) ab.size) bc.size),cw,(by(try dsimp only);omega),(by(try dsimp only);rw[← hL,dw dir M.code M.recs k (by omega)];simp only[jG,hd0,n,o,bs,if_true,if_false,decide_true,decide_false,List.append_assoc]),(by(try dsimp only);have hv:=hf.recw _ (dz ⟨0,0,0,[]⟩ M.recs k (by omega));(try simp only[List.length_append,List.length_cons,List.length_nil,aC]);omega),(by(try dsimp only);(try simp only[List.length_append,List.length_cons,List.length_nil]);omega)⟩ (by omega)
 have bK:=of_decide_eq_false n
 refine xt<|tx<|tx<|bx<|tn<|sg<|Pl 3<|L0<|Oi (((L.length:Nat) : Int)-1)<|Pl 1<|fA (b7.at_ (a).rd 0 (by omega)) fun ej ek bd el em=>L0<|jO L.length 0 bd (by omega)<|L0<|vq bv (j:=0) a bd (by omega) ((((L.length:Nat) : Int)-1)%256) (fun _=>⟨rfl,by omega⟩) fun eo cx cy=>nl<|?_
 refine tn<|sg<|Pl 2<|nt<|rt<|rr (.slice A L.length cp)<|?_
 have hk:k=M.recs.length:=by omega
 rw[hk,List.drop_length] at hL
 have hL2:[0]++cU dir M.code M.recs=L:=by rw[← hL];simp[cU]
 have hs:cX dir M=(L.set 0 ((((L.length:Nat) : Int)-1)%256)):=by unfold cX;rw[hL2]
 rw[hs]
 exact⟨_,rfl,(be.weaken cx l.size),(ut ad cy (av (aU a l.size) aq))⟩
theorem nj{m:Md}{cs:Array Value}{M:aP}{w:World}{dir:Int}(h:aW m w cs.toList M)(hf:cY M)(hd0:(dir==0)=false) : Calls Tryz.prog 212 #[.int .i64 dir,.agg cs] w (gP (cX dir M) w):=by
 obtain⟨vw,vb,vd,vr,vo,h0,hw,hbt,hd,hr,ho,hR⟩:=h
 obtain rfl:cs=(bP M vw vb vd vr vo).toArray:=by apply Array.toList_inj.1;simpa using h0
 clear h0
 obtain⟨Aw,kw,rfl,_,_⟩:=hw.shape
 obtain⟨Ab,kb,rfl,_,_⟩:=hbt.shape
 obtain⟨Ad,kd,rfl,_,_⟩:=hd.shape
 obtain⟨Ar,kr,rfl,_,_⟩:=hr.shape
 obtain⟨Ao,ko,rfl,_,_⟩:=ho.shape
 obtain⟨q0,q1,q2,q3,q4,q5,q6,q7,q8,q9,bg,bj,bm,bo,bp,br,bt⟩:=hR
 simp only[B8,dy] at q0 q1 q2 q3 q4 q5 q6 q7 q8 q9 bg bj bm bo bp br bt
 have hf1:=hf.words
 have hf2:=hf.bits
 have hf3:=hf.data
 have hf4:=hf.recs
 have hf5:=hf.objects
 refine en 58 Tryz.func212 rfl<|sg<|L0<|dx (mG M.code M.fail M.addr M.count M.value M.and_ M.or_ M.addr2 M.sub M.status M.events M.messages (.slice Aw M.words.length kw) (.slice Ab M.bits.length kb) (.slice Ad M.data.length kd) (.slice Ar M.recs.length kr) M.mei M.kind M.level M.more M.next (.slice Ao M.objects.length ko)) fun an ac cz ao l=>Pl 1<|ng<|L0<|dA (m:=1) (e:=5) #[.int .u8 0] fun bu bw bz bA g=>?_
 have bB:=dT bz (xs:=[0]) (by as_aux_lemma=>kernel_rfl) (az (by omega) aZ) (by(try simp only[List.length_cons,List.length_nil]);omega) bA
 refine Pl 1<|nt<|sq<|sg<|Pl 1<|?_
 refine L0<|aR (ub g ao) 15<|Pl 2<|nt<|bk<|?_
 refine iu (fun x=>[(0,.int .i64 dir),(3,.pointer (some ⟨an,0,none⟩)),(4,.slice none 0 0),(5,.slice x.2.2.1 x.2.1.length x.2.2.2),(10,.slice Ar M.recs.length kr),(11,.int .i64 ((M.recs.length:Nat) : Int)),(12,.int .i64 ((x.1:Nat) : Int))]) (fun(x:Nat × List Int × Option Addr × Nat) w'=>aE [] ac w'∧bw.heap.size≤w'.heap.size∧fo ac.heap.size w' (.slice x.2.2.1 x.2.1.length x.2.2.2) x.2.1∧(x.1≤M.recs.length)∧(x.2.1++cU dir M.code (M.recs.drop x.1)=([0])++cU dir M.code M.recs)∧(x.2.1.length≤16+x.1*2060)∧(1≤x.2.1.length)) (fun x=>M.recs.length-x.1) (0,[0],some ⟨bu,0,none⟩,1) ⟨g,lr,bB,(by(try dsimp only);omega),rfl,(by(try dsimp only);(try simp only[List.length_cons,List.length_nil]);omega),(by(try dsimp only);(try simp only[List.length_cons,List.length_nil]);omega)⟩ ?_
 rintro⟨k,L,A,cp⟩ bD ⟨ar,f,bE,bF,bG,bH,bJ⟩
 refine iv [(0,.int .i64 dir),(3,.pointer (some ⟨an,0,none⟩)),(4,.slice none 0 0),(5,.slice A L.length cp),(10,.slice Ar M.recs.length kr),(11,.int .i64 ((M.recs.length:Nat) : Int)),(12,.int .i64 ((k:Nat) : Int))] ?_
 have a:fo ac.heap.size bD (.slice A L.length cp) L:=bE
 have cA:k≤M.recs.length:=bF
 have cB:L++cU dir M.code (M.recs.drop k)=([0])++cU dir M.code M.recs:=bG
 have cC:L.length≤16+k*2060:=bH
 have cD:1≤L.length:=bJ
 have hL:L++cU dir M.code (M.recs.drop k)=([0])++cU dir M.code M.recs:=by assumption
 have hv0:=fun(h:k<M.recs.length)=>hf.recw _ (dz ⟨0,0,0,[]⟩ M.recs k h)
 refine sg<|Pl 1<|nt<|sq<|?_
 have ad:=aI l ar
 refine cb ((decide (((k:Nat) : Int)<((M.recs.length:Nat) : Int)))) (fun n=>?_) (fun n=>?_)
 have bK:=of_decide_eq_true n
 refine bq<|sq<|bk<|sg<|iW (kE.elt hr k (by omega)) fun cE cF cG cH cI au aw bL bM Q cJ bN=>L0<|qI 4 M.recs.length k bL (by omega)<|?_
 refine L0<|vc [.int .u16 ((M.recs.getD k ⟨0,0,0,[]⟩).file),.int .u16 ((M.recs.getD k ⟨0,0,0,[]⟩).record),.int .u16 ((M.recs.getD k ⟨0,0,0,[]⟩).count),.slice au ((M.recs.getD k ⟨0,0,0,[]⟩).words.length) aw] (ub ad bM) bN<|L0<|bI #[.int .u16 0,.int .u16 0,.int .u16 0,.slice none 0 0] fun ae cK B bO b=>L0<|b6 bO #[.int .u16 ((M.recs.getD k ⟨0,0,0,[]⟩).file),.int .u16 ((M.recs.getD k ⟨0,0,0,[]⟩).record),.int .u16 ((M.recs.getD k ⟨0,0,0,[]⟩).count),.slice au ((M.recs.getD k ⟨0,0,0,[]⟩).words.length) aw] fun cL af c=>nt<|sq<|bk<|sg<|Pl 1<|?_
 have s:=ud b c B
 have C:=aI ar s
 refine L0<|aR (ub C ao) 0<|Pl 2<|cu 3 [32] 35 (((M.code==20)&&(dir==1))) (fun K aA=>?_) ?_
 refine bl 32 ((M.code==20)) (fun D=>?_) (fun D=>?_)
 have bQ:=al D
 exact Pl 3<|ce aA (dir==1) (by rw[D];rfl)
 have bQ:=ap D
 exact Pl 3<|ce aA false (by rw[D];rfl)
 refine Pl 1<|nt<|?_
 have R:=aI ad s
 refine cb (((M.code==20)&&(dir==1))) (fun o=>?_) (fun o=>?_)
 have aB:=(aS o).1
 have aD:=(aS o).2
 have cM:=al aB
 have cN:=al aD
 refine go<|Pl 2<|L0<|aR af 3<|Pl 1<|L0<|Oi (2*(((M.recs.getD k ⟨0,0,0,[]⟩).words.length:Nat) : Int))<|L0<|Oi (1+(2*(((M.recs.getD k ⟨0,0,0,[]⟩).words.length:Nat) : Int)))<|Pl 1<|L0<|dA (m:=2) (e:=5) #[.int .u8 ((1+(2*(((M.recs.getD k ⟨0,0,0,[]⟩).words.length:Nat) : Int)))%256),.int .u8 6] fun cP cQ bR bS E=>?_
 have bT:=dT bR (xs:=[((1+(2*(((M.recs.getD k ⟨0,0,0,[]⟩).words.length:Nat) : Int)))%256),6]) (by as_aux_lemma=>kernel_rfl) (az (by omega) (az (by omega) aZ)) (by(try simp only[List.length_cons,List.length_nil]);omega) bS
 refine L0<|cO bv (xs:=L) (ys:=([((1+(2*(((M.recs.getD k ⟨0,0,0,[]⟩).words.length:Nat) : Int)))%256),6])) (.int .u8 0) 1 (ax a (aI s E) (fun x hx=>ay) (fun _ _ h=>h)) (bT).rd (by(try simp only[List.length_append,List.length_cons,List.length_nil,aC]);omega) (le (le (le (le g.size f) b.size) c.size) E.size) fun aF cR cS aG ah=>Pl 1<|nl<|bn<|tn<|go<|Pl 2<|?_
 have ai:=ut (aE.mono (S':=(ob A++[])) E aq) ah (av il aq)
 refine L0<|aR (aE.blk ai (bi (dR a lr B) ay) af) 3<|?_
 refine L0<|Oc<|ea (bC (xs:=(M.recs.getD k ⟨0,0,0,[]⟩).words) (dN.old Q (ut R ai (av (aU a l.size) aq))) (by(try simp only[List.length_cons,List.length_nil]);omega)) fun cT cV cW bU cZ d0 S=>?_
 refine L0<|cO bv (xs:=(L++[((1+(2*(((M.recs.getD k ⟨0,0,0,[]⟩).words.length:Nat) : Int)))%256),6])) (ys:=(bf ((M.recs.getD k ⟨0,0,0,[]⟩).words))) (.int .u8 0) 1 (ax aG S (fun x hx=>ay) (fun _ _ h=>h)) (bU).rd (by(try simp only[List.length_append,List.length_cons,List.length_nil,aC]);omega) (le (le (le (le (le (le g.size f) b.size) c.size) E.size) ah.size) S.size) fun bV bW d1 bX aH=>Pl 1<|nl<|bn<|tn<|go<|L0<|Oi (((k:Nat) : Int)+1)<|Pl 1<|nl<|?_
 exact fU ((k+1),((L++[((1+(2*(((M.recs.getD k ⟨0,0,0,[]⟩).words.length:Nat) : Int)))%256),6])++(bf ((M.recs.getD k ⟨0,0,0,[]⟩).words))),bV,bW) ⟨(ut C (ut (aE.mono (S':=(ob A++(ob aF++[]))) ai (av il aq)) (ut (aE.mono (S':=(ob aF++[])) S aq) aH (av il aq)) (av il aq)) (av (aU a lr) (av (aU aG lr) aq))),(le (le (le (le (le (le f b.size) c.size) E.size) ah.size) S.size) aH.size),bX,(by(try dsimp only);omega),(by(try dsimp only);rw[← hL,dw dir M.code M.recs k (by omega)];simp only[jG,hd0,n,o,aB,aD,bs,if_true,if_false,decide_true,decide_false,List.append_assoc]),(by(try dsimp only);have hv:=hf.recw _ (dz ⟨0,0,0,[]⟩ M.recs k (by omega));(try simp only[List.length_append,List.length_cons,List.length_nil,aC]);omega),(by(try dsimp only);(try simp only[List.length_append,List.length_cons,List.length_nil]);omega)⟩ (by omega)
 refine Rg 13 (fun w'=>w'.cell? ⟨ae,0,none⟩=some (.int .u16 ((M.recs.getD k ⟨0,0,0,[]⟩).file))∧w'.cell? ⟨ae,1,none⟩=some (.int .u16 ((M.recs.getD k ⟨0,0,0,[]⟩).record))∧w'.cell? ⟨ae,2,none⟩=some (.int .u16 ((M.recs.getD k ⟨0,0,0,[]⟩).count))) fun d2 d=>?_
 have F:=ub d af
 refine bh ⟨(ag F rfl),(ag F rfl),(ag F rfl)⟩ fun p=>Rt 0 p<|Rt 3 p<|Rl 4 p (fun _ hs=>hs.1)<|Rt 5 p<|Rl 6 p (fun _ hs=>hs.2.1)<|Rt 7 p<|Rl 8 p (fun _ hs=>hs.2.2)<|?_
 refine R2 1 9 rfl rfl ?_ ?_
 refine  dA (m:=1) (e:=5) #[.int .u8 6] fun d3 d4 bY bZ i=>?_
 have aJ:=dT bY (xs:=[6]) (by as_aux_lemma=>kernel_rfl) (az (by omega) aZ) (by(try simp only[List.length_cons,List.length_nil]);omega) bZ
 have G:=ub i F
 refine bh ⟨(ag G rfl),(ag G rfl),(ag G rfl)⟩ fun d5=>?_
 refine R2 2 9 rfl rfl ?_ ?_
 have aK:=aI d i
 refine  cO bv (xs:=L) (ys:=([6])) (.int .u8 0) 1 (ax a (aI s aK) (fun x hx=>ay) (fun _ _ h=>h)) (aJ).rd (by(try simp only[List.length_append,List.length_cons,List.length_nil,aC]);omega) (le (le (le (le (le g.size f) b.size) c.size) d.size) i.size) fun T d6 d7 aj H=>?_
 have U:=aE.blk H (bi (dR a lr B) ay) G
 refine bh ⟨(ag U rfl),(ag U rfl),(ag U rfl)⟩ fun d8=>R0 9 rfl<|dA (m:=3) (e:=24) #[.int .u16 ((M.recs.getD k ⟨0,0,0,[]⟩).file),.int .u16 ((M.recs.getD k ⟨0,0,0,[]⟩).record),.int .u16 ((M.recs.getD k ⟨0,0,0,[]⟩).count)] fun d9 da c0 c1 I=>?_
 have c2:=ec c0 (xs:=[(M.recs.getD k ⟨0,0,0,[]⟩).file,(M.recs.getD k ⟨0,0,0,[]⟩).record,(M.recs.getD k ⟨0,0,0,[]⟩).count]) (by as_aux_lemma=>kernel_rfl) (az (by omega) (az (by omega) (az (by omega) aZ))) (by(try simp only[List.length_cons,List.length_nil]);omega) c1
 have V:=ub I U
 refine bh ⟨(ag V rfl),(ag V rfl),(ag V rfl)⟩ fun db=>R0 10 rfl<|Oc<|ea (bC (xs:=[(M.recs.getD k ⟨0,0,0,[]⟩).file,(M.recs.getD k ⟨0,0,0,[]⟩).record,(M.recs.getD k ⟨0,0,0,[]⟩).count]) (c2).rd (by(try simp only[List.length_cons,List.length_nil]);omega)) fun dc dd de c3 df dg J=>?_
 have N:=ub J V
 refine bh ⟨(ag N rfl),(ag N rfl),(ag N rfl)⟩ fun dh=>?_
 have aL:=aI I J
 have aM:=ax aj aL (fun x hx=>ay) (fun _ _ h=>h)
 refine R0 11 rfl<|cO bv (xs:=(L++[6])) (ys:=(bf ([(M.recs.getD k ⟨0,0,0,[]⟩).file,(M.recs.getD k ⟨0,0,0,[]⟩).record,(M.recs.getD k ⟨0,0,0,[]⟩).count]))) (.int .u8 0) 1 aM (c3).rd (by(try simp only[List.length_append,List.length_cons,List.length_nil,aC]);omega) (le (le (le (le (le (le (le (le g.size f) b.size) c.size) d.size) i.size) H.size) I.size) J.size) fun aN di dj aO W=>?_
 have X:=aE.blk W (bi (dm N aM (by decide)) ay) N
 refine bh ⟨(ag X rfl),(ag X rfl),(ag X rfl)⟩ fun c4=>Rt 12 c4<|re<|bn<|tn<|go<|Pl 2<|L0<|aR X 3<|?_
 have aQ:=ut (aE.mono (S':=(ob A++(ob T++[]))) aK aq) (ut (aE.mono (S':=(ob A++(ob T++[]))) H (av il aq)) (ut (aE.mono (S':=(ob T++[])) aL aq) W (av il aq)) (av il aq)) (av il (av il aq))
 refine L0<|Oc<|ea (bC (xs:=(M.recs.getD k ⟨0,0,0,[]⟩).words) (dN.old Q (ut R aQ (av (aU a l.size) (av (aU aj l.size) aq)))) (by(try simp only[List.length_cons,List.length_nil]);omega)) fun dk dl dn c5 dp dq Y=>?_
 refine L0<|cO bv (xs:=((L++[6])++(bf ([(M.recs.getD k ⟨0,0,0,[]⟩).file,(M.recs.getD k ⟨0,0,0,[]⟩).record,(M.recs.getD k ⟨0,0,0,[]⟩).count])))) (ys:=(bf ((M.recs.getD k ⟨0,0,0,[]⟩).words))) (.int .u8 0) 1 (ax aO Y (fun x hx=>ay) (fun _ _ h=>h)) (c5).rd (by(try simp only[List.length_append,List.length_cons,List.length_nil,aC]);omega) (le (le (le (le (le (le (le (le (le (le g.size f) b.size) c.size) d.size) i.size) H.size) I.size) J.size) W.size) Y.size) fun c6 c7 dr c8 aT=>Pl 1<|nl<|bn<|tn<|go<|L0<|Oi (((k:Nat) : Int)+1)<|Pl 1<|nl<|?_
 exact fU ((k+1),(((L++[6])++(bf ([(M.recs.getD k ⟨0,0,0,[]⟩).file,(M.recs.getD k ⟨0,0,0,[]⟩).record,(M.recs.getD k ⟨0,0,0,[]⟩).count])))++(bf ((M.recs.getD k ⟨0,0,0,[]⟩).words))),c6,c7) ⟨(ut C (ut (aE.mono (S':=(ob A++(ob T++(ob aN++[])))) aQ (av il (av il aq))) (ut (aE.mono (S':=(ob aN++[])) Y aq) aT (av il aq)) (av il aq)) (av (aU a lr) (av (aU aj lr) (av (aU aO lr) aq)))),(le (le (le (le (le (le (le (le (le (le f b.size) c.size) d.size) i.size) H.size) I.size) J.size) W.size) Y.size) aT.size),c8,(by(try dsimp only);omega),(by(try dsimp only);rw[← hL,dw dir M.code M.recs k (by omega)];simp only[jG,hd0,n,o,bs,if_true,if_false,decide_true,decide_false,List.append_assoc]),(by(try dsimp only);have hv:=hf.recw _ (dz ⟨0,0,0,[]⟩ M.recs k (by omega));(try simp only[List.length_append,List.length_cons,List.length_nil,aC]);omega),(by(try dsimp only);(try simp only[List.length_append,List.length_cons,List.length_nil]);omega)⟩ (by omega)
 refine  dA (m:=3) (e:=24) #[.int .u16 ((M.recs.getD k ⟨0,0,0,[]⟩).file),.int .u16 ((M.recs.getD k ⟨0,0,0,[]⟩).record),.int .u16 ((M.recs.getD k ⟨0,0,0,[]⟩).count)] fun ds dt c9 ca q=>?_
 have aV:=ec c9 (xs:=[(M.recs.getD k ⟨0,0,0,[]⟩).file,(M.recs.getD k ⟨0,0,0,[]⟩).record,(M.recs.getD k ⟨0,0,0,[]⟩).count]) (by as_aux_lemma=>kernel_rfl) (az (by omega) (az (by omega) (az (by omega) aZ))) (by(try simp only[List.length_cons,List.length_nil]);omega) ca
 have Z:=ub q G
 refine bh ⟨(ag Z rfl),(ag Z rfl),(ag Z rfl)⟩ fun du=>?_
 have aX:=aI d (aI i q)
 refine R0 2 rfl<|cO bv (xs:=L) (ys:=([6])) (.int .u8 0) 1 (ax a (aI s aX) (fun x hx=>ay) (fun _ _ h=>h)) ((ax aJ q (fun x hx=>ay) (fun _ _ h=>h))).rd (by(try simp only[List.length_append,List.length_cons,List.length_nil,aC]);omega) (le (le (le (le (le (le g.size f) b.size) c.size) d.size) i.size) q.size) fun a0 dv dB ak t=>?_
 have a1:=aE.blk t (bi (dR a lr B) ay) Z
 refine bh ⟨(ag a1 rfl),(ag a1 rfl),(ag a1 rfl)⟩ fun dC=>?_
 refine R0 10 rfl<|Oc<|ea (bC (xs:=[(M.recs.getD k ⟨0,0,0,[]⟩).file,(M.recs.getD k ⟨0,0,0,[]⟩).record,(M.recs.getD k ⟨0,0,0,[]⟩).count]) ((ax aV t (fun x hx=>(bi ((fI aV a (le (le (le b.size c.size) d.size) i.size)) x hx) ay)) (fun _ _ h=>h))).rd (by(try simp only[List.length_cons,List.length_nil]);omega)) fun dD dE dF cc dG dH u=>?_
 have O:=ub u a1
 refine bh ⟨(ag O rfl),(ag O rfl),(ag O rfl)⟩ fun dI=>?_
 have aY:=ax ak u (fun x hx=>ay) (fun _ _ h=>h)
 refine R0 11 rfl<|cO bv (xs:=(L++[6])) (ys:=(bf ([(M.recs.getD k ⟨0,0,0,[]⟩).file,(M.recs.getD k ⟨0,0,0,[]⟩).record,(M.recs.getD k ⟨0,0,0,[]⟩).count]))) (.int .u8 0) 1 aY (cc).rd (by(try simp only[List.length_append,List.length_cons,List.length_nil,aC]);omega) (le (le (le (le (le (le (le (le g.size f) b.size) c.size) d.size) i.size) q.size) t.size) u.size) fun b0 dJ dK b1 a2=>?_
 have a3:=aE.blk a2 (bi (dm O aY (by decide)) ay) O
 refine bh ⟨(ag a3 rfl),(ag a3 rfl),(ag a3 rfl)⟩ fun cd=>Rt 12 cd<|re<|bn<|tn<|go<|Pl 2<|L0<|aR a3 3<|?_
 have b2:=ut (aE.mono (S':=(ob A++(ob a0++[]))) aX aq) (ut (aE.mono (S':=(ob A++(ob a0++[]))) t (av il aq)) (ut (aE.mono (S':=(ob a0++[])) u aq) a2 (av il aq)) (av il aq)) (av il (av il aq))
 refine L0<|Oc<|ea (bC (xs:=(M.recs.getD k ⟨0,0,0,[]⟩).words) (dN.old Q (ut R b2 (av (aU a l.size) (av (aU ak l.size) aq)))) (by(try simp only[List.length_cons,List.length_nil]);omega)) fun dL dM dO cf dP dQ a4=>?_
 refine L0<|cO bv (xs:=((L++[6])++(bf ([(M.recs.getD k ⟨0,0,0,[]⟩).file,(M.recs.getD k ⟨0,0,0,[]⟩).record,(M.recs.getD k ⟨0,0,0,[]⟩).count])))) (ys:=(bf ((M.recs.getD k ⟨0,0,0,[]⟩).words))) (.int .u8 0) 1 (ax b1 a4 (fun x hx=>ay) (fun _ _ h=>h)) (cf).rd (by(try simp only[List.length_append,List.length_cons,List.length_nil,aC]);omega) (le (le (le (le (le (le (le (le (le (le g.size f) b.size) c.size) d.size) i.size) q.size) t.size) u.size) a2.size) a4.size) fun cg ch dS ci b3=>Pl 1<|nl<|bn<|tn<|go<|L0<|Oi (((k:Nat) : Int)+1)<|Pl 1<|nl<|?_
 exact fU ((k+1),(((L++[6])++(bf ([(M.recs.getD k ⟨0,0,0,[]⟩).file,(M.recs.getD k ⟨0,0,0,[]⟩).record,(M.recs.getD k ⟨0,0,0,[]⟩).count])))++(bf ((M.recs.getD k ⟨0,0,0,[]⟩).words))),cg,ch) ⟨(ut C (ut (aE.mono (S':=(ob A++(ob a0++(ob b0++[])))) b2 (av il (av il aq))) (ut (aE.mono (S':=(ob b0++[])) a4 aq) b3 (av il aq)) (av il aq)) (av (aU a lr) (av (aU ak lr) (av (aU b1 lr) aq)))),(le (le (le (le (le (le (le (le (le (le f b.size) c.size) d.size) i.size) q.size) t.size) u.size) a2.size) a4.size) b3.size),ci,(by(try dsimp only);omega),(by(try dsimp only);rw[← hL,dw dir M.code M.recs k (by omega)];simp only[jG,hd0,n,o,bs,if_true,if_false,decide_true,decide_false,List.append_assoc]),(by(try dsimp only);have hv:=hf.recw _ (dz ⟨0,0,0,[]⟩ M.recs k (by omega));(try simp only[List.length_append,List.length_cons,List.length_nil,aC]);omega),(by(try dsimp only);(try simp only[List.length_append,List.length_cons,List.length_nil]);omega)⟩ (by omega)
 refine  dA (m:=3) (e:=24) #[.int .u16 ((M.recs.getD k ⟨0,0,0,[]⟩).file),.int .u16 ((M.recs.getD k ⟨0,0,0,[]⟩).record),.int .u16 ((M.recs.getD k ⟨0,0,0,[]⟩).count)] fun dU dV cj ck v=>?_
 have b4:=ec cj (xs:=[(M.recs.getD k ⟨0,0,0,[]⟩).file,(M.recs.getD k ⟨0,0,0,[]⟩).record,(M.recs.getD k ⟨0,0,0,[]⟩).count]) (by as_aux_lemma=>kernel_rfl) (az (by omega) (az (by omega) (az (by omega) aZ))) (by(try simp only[List.length_cons,List.length_nil]);omega) ck
 have a5:=ub v F
 refine bh ⟨(ag a5 rfl),(ag a5 rfl),(ag a5 rfl)⟩ fun dW=>R0 1 rfl<|dA (m:=1) (e:=5) #[.int .u8 6] fun dX dY cl cm r=>?_
 have cn:=dT cl (xs:=[6]) (by as_aux_lemma=>kernel_rfl) (az (by omega) aZ) (by(try simp only[List.length_cons,List.length_nil]);omega) cm
 have a6:=ub r a5
 refine bh ⟨(ag a6 rfl),(ag a6 rfl),(ag a6 rfl)⟩ fun dZ=>?_
 have b5:=aI d (aI v r)
 refine R0 2 rfl<|cO bv (xs:=L) (ys:=([6])) (.int .u8 0) 1 (ax a (aI s b5) (fun x hx=>ay) (fun _ _ h=>h)) (cn).rd (by(try simp only[List.length_append,List.length_cons,List.length_nil,aC]);omega) (le (le (le (le (le (le g.size f) b.size) c.size) d.size) v.size) r.size) fun a7 e0 e1 am y=>?_
 have a8:=aE.blk y (bi (dR a lr B) ay) a6
 refine bh ⟨(ag a8 rfl),(ag a8 rfl),(ag a8 rfl)⟩ fun e2=>?_
 refine R0 10 rfl<|Oc<|ea (bC (xs:=[(M.recs.getD k ⟨0,0,0,[]⟩).file,(M.recs.getD k ⟨0,0,0,[]⟩).record,(M.recs.getD k ⟨0,0,0,[]⟩).count]) ((ax b4 (ut (aE.mono (S':=(ob A++[])) r aq) y (av il aq)) (fun x hx=>(bi ((fI b4 a (le (le b.size c.size) d.size)) x hx) ay)) (fun _ _ h=>h))).rd (by(try simp only[List.length_cons,List.length_nil]);omega)) fun e3 e4 e5 co e6 e7 z=>?_
 have P:=ub z a8
 refine bh ⟨(ag P rfl),(ag P rfl),(ag P rfl)⟩ fun e8=>?_
 have b8:=ax am z (fun x hx=>ay) (fun _ _ h=>h)
 refine R0 11 rfl<|cO bv (xs:=(L++[6])) (ys:=(bf ([(M.recs.getD k ⟨0,0,0,[]⟩).file,(M.recs.getD k ⟨0,0,0,[]⟩).record,(M.recs.getD k ⟨0,0,0,[]⟩).count]))) (.int .u8 0) 1 b8 (co).rd (by(try simp only[List.length_append,List.length_cons,List.length_nil,aC]);omega) (le (le (le (le (le (le (le (le g.size f) b.size) c.size) d.size) v.size) r.size) y.size) z.size) fun b9 e9 eb ba a9=>?_
 have aa:=aE.blk a9 (bi (dm P b8 (by decide)) ay) P
 refine bh ⟨(ag aa rfl),(ag aa rfl),(ag aa rfl)⟩ fun cq=>Rt 12 cq<|re<|bn<|tn<|go<|Pl 2<|L0<|aR aa 3<|?_
 have bb:=ut (aE.mono (S':=(ob A++(ob a7++[]))) b5 aq) (ut (aE.mono (S':=(ob A++(ob a7++[]))) y (av il aq)) (ut (aE.mono (S':=(ob a7++[])) z aq) a9 (av il aq)) (av il aq)) (av il (av il aq))
 refine L0<|Oc<|ea (bC (xs:=(M.recs.getD k ⟨0,0,0,[]⟩).words) (dN.old Q (ut R bb (av (aU a l.size) (av (aU am l.size) aq)))) (by(try simp only[List.length_cons,List.length_nil]);omega)) fun ed ee ef cr eg eh ab=>?_
 refine L0<|cO bv (xs:=((L++[6])++(bf ([(M.recs.getD k ⟨0,0,0,[]⟩).file,(M.recs.getD k ⟨0,0,0,[]⟩).record,(M.recs.getD k ⟨0,0,0,[]⟩).count])))) (ys:=(bf ((M.recs.getD k ⟨0,0,0,[]⟩).words))) (.int .u8 0) 1 (ax ba ab (fun x hx=>ay) (fun _ _ h=>h)) (cr).rd (by(try simp only[List.length_append,List.length_cons,List.length_nil,aC]);omega) (le (le (le (le (le (le (le (le (le (le g.size f) b.size) c.size) d.size) v.size) r.size) y.size) z.size) a9.size) ab.size) fun ct cv ei cw bc=>Pl 1<|nl<|bn<|tn<|go<|L0<|Oi (((k:Nat) : Int)+1)<|Pl 1<|nl<|?_
 exact fU ((k+1),(((L++[6])++(bf ([(M.recs.getD k ⟨0,0,0,[]⟩).file,(M.recs.getD k ⟨0,0,0,[]⟩).record,(M.recs.getD k ⟨0,0,0,[]⟩).count])))++(bf ((M.recs.getD k ⟨0,0,0,[]⟩).words))),ct,cv) ⟨(ut C (ut (aE.mono (S':=(ob A++(ob a7++(ob b9++[])))) bb (av il (av il aq))) (ut (aE.mono (S':=(ob b9++[])) ab aq) bc (av il aq)) (av il aq)) (av (aU a lr) (av (aU am lr) (av (aU ba lr) aq)))),(le (le (le (le (le (le (le (le (le (le f b.size) c.size) d.size) v.size) r.size) y.size) z.size) a9.size) ab.size) bc.size),cw,(by(try dsimp only);omega),(by(try dsimp only);rw[← hL,dw dir M.code M.recs k (by omega)];simp only[jG,hd0,n,o,bs,if_true,if_false,decide_true,decide_false,List.append_assoc]),(by(try dsimp only);have hv:=hf.recw _ (dz ⟨0,0,0,[]⟩ M.recs k (by omega));(try simp only[List.length_append,List.length_cons,List.length_nil,aC]);omega),(by(try dsimp only);(try simp only[List.length_append,List.length_cons,List.length_nil]);omega)⟩ (by omega)
 have bK:=of_decide_eq_false n
 refine xt<|tx<|tx<|bx<|tn<|sg<|Pl 3<|L0<|Oi (((L.length:Nat) : Int)-1)<|Pl 1<|fA (b7.at_ (a).rd 0 (by omega)) fun ej ek bd el em=>L0<|jO L.length 0 bd (by omega)<|L0<|vq bv (j:=0) a bd (by omega) ((((L.length:Nat) : Int)-1)%256) (fun _=>⟨rfl,by omega⟩) fun eo cx cy=>nl<|?_
 refine tn<|sg<|Pl 2<|nt<|rt<|rr (.slice A L.length cp)<|?_
 have hk:k=M.recs.length:=by omega
 rw[hk,List.drop_length] at hL
 have hL2:[0]++cU dir M.code M.recs=L:=by rw[← hL];simp[cU]
 have hs:cX dir M=(L.set 0 ((((L.length:Nat) : Int)-1)%256)):=by unfold cX;rw[hL2]
 rw[hs]
 exact⟨_,rfl,(be.weaken cx l.size),(ut ad cy (av (aU a l.size) aq))⟩
theorem oZ{m:Md}{cs:Array Value}{M:aP}{w:World}{dir:Int}(h:aW m w cs.toList M)(hf:cY M) : Calls Tryz.prog 212 #[.int .i64 dir,.agg cs] w (gP (cX dir M) w):=by
  rcases dQ (dir==0) with h0|h0
  · exact mh h hf h0
  · exact nj h hf h0
open Go.RowKit
theorem hZ{parse:Int→Int→List Int→aP × Int}{lay:Int→aP→List Int}{dir E:Int}{M X:aP}(hX:parse dir M.code (lay dir M)=(X,E))(hE:(E != 0)=true) : cR parse lay dir M=none:=by
  unfold cR
  rw[hX,if_neg]
  intro h
  injection h with h1 h2
  rw[h2] at hE
  cases hE
theorem i8{parse:Int→Int→List Int→aP × Int}{lay:Int→aP→List Int}{dir E:Int}{M X:aP}(hX:parse dir M.code (lay dir M)=(X,E))(hE:decide (X=M)=false) : cR parse lay dir M=none:=by
  unfold cR
  rw[hX,if_neg]
  intro h
  injection h with h1 h2
  rw[h1] at hE
  simp at hE
theorem mc{parse:Int→Int→List Int→aP × Int}{lay:Int→aP→List Int}{dir E:Int}{M X:aP}(hX:parse dir M.code (lay dir M)=(X,E))(hE:(E != 0)=false)(h:decide (X=M)=true) : cR parse lay dir M=some (lay dir M):=by
  unfold cR
  have h1:X=M:=by simpa using h
  have h2:E=0:=by simpa using hE
  rw[hX,h1,h2,if_pos rfl]
theorem eX{x y:Option (List Int)}(h:x=y){w:World}{e:Ending}{w':World}(k:eK y w e w') : eK x w e w':=by rw[h];exact k
theorem iE{m:Md}{cs:Array Value}{M:aP}{w:World}{dir:Int}(h:aW m w cs.toList M)(hf:cY M)(hlen:(bO dir M).length≤1048576) : Calls Tryz.prog 139 #[.int .i64 dir,.agg cs] w (eK (cR fb bO dir M) w):=by
 have hM:=h
 obtain⟨vw,vb,vd,vr,vo,h0,hw,hbt,hd,hr,ho,hR⟩:=h
 obtain rfl:cs=(bP M vw vb vd vr vo).toArray:=by apply Array.toList_inj.1;simpa using h0
 clear h0
 obtain⟨Aw,kw,rfl,_,_⟩:=hw.shape
 obtain⟨Ab,kb,rfl,_,_⟩:=hbt.shape
 obtain⟨Ad,kd,rfl,_,_⟩:=hd.shape
 obtain⟨Ar,kr,rfl,_,_⟩:=hr.shape
 obtain⟨Ao,ko,rfl,_,_⟩:=ho.shape
 obtain⟨q0,q1,q2,q3,q4,q5,q6,q7,q8,q9,y,z,C,D,E,F,G⟩:=hR
 simp only[B8,dy] at q0 q1 q2 q3 q4 q5 q6 q7 q8 q9 y z C D E F G
 refine en 29 Tryz.func139 rfl<|sg<|L0<|dx (mG M.code M.fail M.addr M.count M.value M.and_ M.or_ M.addr2 M.sub M.status M.events M.messages (.slice Aw M.words.length kw) (.slice Ab M.bits.length kb) (.slice Ad M.data.length kd) (.slice Ar M.recs.length kr) M.mei M.kind M.level M.more M.next (.slice Ao M.objects.length ko)) fun V W X k g=>Pl 2<|ng<|Pl 1<|L0<|ch k<|?_
 have l:=aW.old hM g
 refine L0<|Oc<|ea (pA (dir:=dir) l hf) fun H I J n Y Z o=>Pl 1<|ng<|Pl 2<|?_
 have p:=ub o k
 refine L0<|aR p 0<|Pl 1<|?_
 refine pr (fb dir M.code (bO dir M)) fun e K f=>?_
 have q:Calls _ _ _ _ (dF (fb dir M.code (bO dir M)) J):=iO (dir:=dir) (c:=M.code) q0 (n).rd hlen
 rw[f] at q
 refine L0<|Oc<|e2 (q) fun L a0 a N=>Pl 3<|L0<|bI mZ fun a1 a2 O P Q=>L0<|b6 (hz:=(by rw[a.size];exact aO)) (hv:=a.size) (h1:=a.one) P (L) fun a3 R S=>Pl 1<|nt<|sq<|sg<|Pl 3<|?_
 have r:=ud Q S O
 have i:=aI N r
 have s:=aI o i
 have t:=aI g s
 refine bl 22 ((K != 0)) (fun b=>?_) (fun b=>?_)
 have T:=au b
 refine Pl 5<|nt<|c1<|sg<|Pl 2<|nt<|rt<|tr<|rr (.tuple #[.slice none 0 0,.int .i64 1])<|?_
 refine eX (hZ f b) ?_
 exact⟨rfl,t⟩
 have T:=ai b
 refine L1<|ch (hz:=(by rw[a.size];exact aO)) R<|?_
 refine L1<|ch (ub i p)<|?_
 refine L1<|Oc<|m1 (fz (A:=e) (B:=M) (aW.upd a r aG) (aW.old l s)) fun a4 u=>Pl 2<|nt<|?_
 have v:=aI t u
 refine cb ((!(decide (e=M)))) (fun j=>?_) (fun j=>?_)
 have d:(decide (e=M))=false:=by simpa using j
 have U:=of_decide_eq_false d
 refine sg<|Pl 2<|nt<|rt<|tr<|rr (.tuple #[.slice none 0 0,.int .i64 1])<|?_
 refine eX (i8 f d) ?_
 exact⟨rfl,v⟩
 have d:(decide (e=M))=true:=by simpa using j
 have U:=of_decide_eq_true d
 refine bq<|sg<|Pl 3<|nt<|rt<|rr (.tuple #[.slice H ((bO dir M).length) I,.int .i64 0])<|?_
 refine eX (mc f b d) ?_
 exact⟨_,rfl,(be.weaken (ax n (aI i u) (fun x hx=>ay) (fun _ _ h=>h)) g.size),v⟩
theorem jt{m:Md}{cs:Array Value}{M:aP}{w:World}{dir:Int}(h:aW m w cs.toList M)(hf:cY M)(hlen:(bL dir M).length≤1048576) : Calls Tryz.prog 141 #[.int .i64 dir,.agg cs] w (eK (cR fq bL dir M) w):=by
 have hM:=h
 obtain⟨vw,vb,vd,vr,vo,h0,hw,hbt,hd,hr,ho,hR⟩:=h
 obtain rfl:cs=(bP M vw vb vd vr vo).toArray:=by apply Array.toList_inj.1;simpa using h0
 clear h0
 obtain⟨Aw,kw,rfl,_,_⟩:=hw.shape
 obtain⟨Ab,kb,rfl,_,_⟩:=hbt.shape
 obtain⟨Ad,kd,rfl,_,_⟩:=hd.shape
 obtain⟨Ar,kr,rfl,_,_⟩:=hr.shape
 obtain⟨Ao,ko,rfl,_,_⟩:=ho.shape
 obtain⟨q0,q1,q2,q3,q4,q5,q6,q7,q8,q9,y,z,C,D,E,F,G⟩:=hR
 simp only[B8,dy] at q0 q1 q2 q3 q4 q5 q6 q7 q8 q9 y z C D E F G
 refine en 29 Tryz.func141 rfl<|sg<|L0<|dx (mG M.code M.fail M.addr M.count M.value M.and_ M.or_ M.addr2 M.sub M.status M.events M.messages (.slice Aw M.words.length kw) (.slice Ab M.bits.length kb) (.slice Ad M.data.length kd) (.slice Ar M.recs.length kr) M.mei M.kind M.level M.more M.next (.slice Ao M.objects.length ko)) fun V W X k g=>Pl 2<|ng<|Pl 1<|L0<|ch k<|?_
 have l:=aW.old hM g
 refine L0<|Oc<|ea (rN (dir:=dir) l hf) fun H I J n Y Z o=>Pl 1<|ng<|Pl 2<|?_
 have p:=ub o k
 refine L0<|aR p 0<|Pl 1<|?_
 refine pr (fq dir M.code (bL dir M)) fun e K f=>?_
 have q:Calls _ _ _ _ (dF (fq dir M.code (bL dir M)) J):=jg (dir:=dir) (c:=M.code) q0 (n).rd hlen
 rw[f] at q
 refine L0<|Oc<|e2 (q) fun L a0 a N=>Pl 3<|L0<|bI mZ fun a1 a2 O P Q=>L0<|b6 (hz:=(by rw[a.size];exact aO)) (hv:=a.size) (h1:=a.one) P (L) fun a3 R S=>Pl 1<|nt<|sq<|sg<|Pl 3<|?_
 have r:=ud Q S O
 have i:=aI N r
 have s:=aI o i
 have t:=aI g s
 refine bl 22 ((K != 0)) (fun b=>?_) (fun b=>?_)
 have T:=au b
 refine Pl 5<|nt<|c1<|sg<|Pl 2<|nt<|rt<|tr<|rr (.tuple #[.slice none 0 0,.int .i64 1])<|?_
 refine eX (hZ f b) ?_
 exact⟨rfl,t⟩
 have T:=ai b
 refine L1<|ch (hz:=(by rw[a.size];exact aO)) R<|?_
 refine L1<|ch (ub i p)<|?_
 refine L1<|Oc<|m1 (fz (A:=e) (B:=M) (aW.upd a r aG) (aW.old l s)) fun a4 u=>Pl 2<|nt<|?_
 have v:=aI t u
 refine cb ((!(decide (e=M)))) (fun j=>?_) (fun j=>?_)
 have d:(decide (e=M))=false:=by simpa using j
 have U:=of_decide_eq_false d
 refine sg<|Pl 2<|nt<|rt<|tr<|rr (.tuple #[.slice none 0 0,.int .i64 1])<|?_
 refine eX (i8 f d) ?_
 exact⟨rfl,v⟩
 have d:(decide (e=M))=true:=by simpa using j
 have U:=of_decide_eq_true d
 refine bq<|sg<|Pl 3<|nt<|rt<|rr (.tuple #[.slice H ((bL dir M).length) I,.int .i64 0])<|?_
 refine eX (mc f b d) ?_
 exact⟨_,rfl,(be.weaken (ax n (aI i u) (fun x hx=>ay) (fun _ _ h=>h)) g.size),v⟩
theorem jH{m:Md}{cs:Array Value}{M:aP}{w:World}{dir:Int}(h:aW m w cs.toList M)(hf:cY M)(hlen:(bV dir M).length≤1048576) : Calls Tryz.prog 143 #[.int .i64 dir,.agg cs] w (eK (cR fx bV dir M) w):=by
 have hM:=h
 obtain⟨vw,vb,vd,vr,vo,h0,hw,hbt,hd,hr,ho,hR⟩:=h
 obtain rfl:cs=(bP M vw vb vd vr vo).toArray:=by apply Array.toList_inj.1;simpa using h0
 clear h0
 obtain⟨Aw,kw,rfl,_,_⟩:=hw.shape
 obtain⟨Ab,kb,rfl,_,_⟩:=hbt.shape
 obtain⟨Ad,kd,rfl,_,_⟩:=hd.shape
 obtain⟨Ar,kr,rfl,_,_⟩:=hr.shape
 obtain⟨Ao,ko,rfl,_,_⟩:=ho.shape
 obtain⟨q0,q1,q2,q3,q4,q5,q6,q7,q8,q9,y,z,C,D,E,F,G⟩:=hR
 simp only[B8,dy] at q0 q1 q2 q3 q4 q5 q6 q7 q8 q9 y z C D E F G
 refine en 29 Tryz.func143 rfl<|sg<|L0<|dx (mG M.code M.fail M.addr M.count M.value M.and_ M.or_ M.addr2 M.sub M.status M.events M.messages (.slice Aw M.words.length kw) (.slice Ab M.bits.length kb) (.slice Ad M.data.length kd) (.slice Ar M.recs.length kr) M.mei M.kind M.level M.more M.next (.slice Ao M.objects.length ko)) fun V W X k g=>Pl 2<|ng<|Pl 1<|L0<|ch k<|?_
 have l:=aW.old hM g
 refine L0<|Oc<|ea (rH (dir:=dir) l hf) fun H I J n Y Z o=>Pl 1<|ng<|Pl 2<|?_
 have p:=ub o k
 refine L0<|aR p 0<|Pl 1<|?_
 refine pr (fx dir M.code (bV dir M)) fun e K f=>?_
 have q:Calls _ _ _ _ (dF (fx dir M.code (bV dir M)) J):=js (dir:=dir) (c:=M.code) q0 (n).rd hlen
 rw[f] at q
 refine L0<|Oc<|e2 (q) fun L a0 a N=>Pl 3<|L0<|bI mZ fun a1 a2 O P Q=>L0<|b6 (hz:=(by rw[a.size];exact aO)) (hv:=a.size) (h1:=a.one) P (L) fun a3 R S=>Pl 1<|nt<|sq<|sg<|Pl 3<|?_
 have r:=ud Q S O
 have i:=aI N r
 have s:=aI o i
 have t:=aI g s
 refine bl 22 ((K != 0)) (fun b=>?_) (fun b=>?_)
 have T:=au b
 refine Pl 5<|nt<|c1<|sg<|Pl 2<|nt<|rt<|tr<|rr (.tuple #[.slice none 0 0,.int .i64 1])<|?_
 refine eX (hZ f b) ?_
 exact⟨rfl,t⟩
 have T:=ai b
 refine L1<|ch (hz:=(by rw[a.size];exact aO)) R<|?_
 refine L1<|ch (ub i p)<|?_
 refine L1<|Oc<|m1 (fz (A:=e) (B:=M) (aW.upd a r aG) (aW.old l s)) fun a4 u=>Pl 2<|nt<|?_
 have v:=aI t u
 refine cb ((!(decide (e=M)))) (fun j=>?_) (fun j=>?_)
 have d:(decide (e=M))=false:=by simpa using j
 have U:=of_decide_eq_false d
 refine sg<|Pl 2<|nt<|rt<|tr<|rr (.tuple #[.slice none 0 0,.int .i64 1])<|?_
 refine eX (i8 f d) ?_
 exact⟨rfl,v⟩
 have d:(decide (e=M))=true:=by simpa using j
 have U:=of_decide_eq_true d
 refine bq<|sg<|Pl 3<|nt<|rt<|rr (.tuple #[.slice H ((bV dir M).length) I,.int .i64 0])<|?_
 refine eX (mc f b d) ?_
 exact⟨_,rfl,(be.weaken (ax n (aI i u) (fun x hx=>ay) (fun _ _ h=>h)) g.size),v⟩
theorem kU{m:Md}{cs:Array Value}{M:aP}{w:World}{dir:Int}(h:aW m w cs.toList M)(hf:cY M)(hlen:(dp dir M).length≤1048576) : Calls Tryz.prog 147 #[.int .i64 dir,.agg cs] w (eK (cR gn dp dir M) w):=by
 have hM:=h
 obtain⟨vw,vb,vd,vr,vo,h0,hw,hbt,hd,hr,ho,hR⟩:=h
 obtain rfl:cs=(bP M vw vb vd vr vo).toArray:=by apply Array.toList_inj.1;simpa using h0
 clear h0
 obtain⟨Aw,kw,rfl,_,_⟩:=hw.shape
 obtain⟨Ab,kb,rfl,_,_⟩:=hbt.shape
 obtain⟨Ad,kd,rfl,_,_⟩:=hd.shape
 obtain⟨Ar,kr,rfl,_,_⟩:=hr.shape
 obtain⟨Ao,ko,rfl,_,_⟩:=ho.shape
 obtain⟨q0,q1,q2,q3,q4,q5,q6,q7,q8,q9,y,z,C,D,E,F,G⟩:=hR
 simp only[B8,dy] at q0 q1 q2 q3 q4 q5 q6 q7 q8 q9 y z C D E F G
 refine en 29 Tryz.func147 rfl<|sg<|L0<|dx (mG M.code M.fail M.addr M.count M.value M.and_ M.or_ M.addr2 M.sub M.status M.events M.messages (.slice Aw M.words.length kw) (.slice Ab M.bits.length kb) (.slice Ad M.data.length kd) (.slice Ar M.recs.length kr) M.mei M.kind M.level M.more M.next (.slice Ao M.objects.length ko)) fun V W X k g=>Pl 2<|ng<|Pl 1<|L0<|ch k<|?_
 have l:=aW.old hM g
 refine L0<|Oc<|ea (sw (dir:=dir) l hf) fun H I J n Y Z o=>Pl 1<|ng<|Pl 2<|?_
 have p:=ub o k
 refine L0<|aR p 0<|Pl 1<|?_
 refine pr (gn dir M.code (dp dir M)) fun e K f=>?_
 have q:Calls _ _ _ _ (dF (gn dir M.code (dp dir M)) J):=kZ (dir:=dir) (c:=M.code) q0 (n).rd hlen
 rw[f] at q
 refine L0<|Oc<|e2 (q) fun L a0 a N=>Pl 3<|L0<|bI mZ fun a1 a2 O P Q=>L0<|b6 (hz:=(by rw[a.size];exact aO)) (hv:=a.size) (h1:=a.one) P (L) fun a3 R S=>Pl 1<|nt<|sq<|sg<|Pl 3<|?_
 have r:=ud Q S O
 have i:=aI N r
 have s:=aI o i
 have t:=aI g s
 refine bl 22 ((K != 0)) (fun b=>?_) (fun b=>?_)
 have T:=au b
 refine Pl 5<|nt<|c1<|sg<|Pl 2<|nt<|rt<|tr<|rr (.tuple #[.slice none 0 0,.int .i64 1])<|?_
 refine eX (hZ f b) ?_
 exact⟨rfl,t⟩
 have T:=ai b
 refine L1<|ch (hz:=(by rw[a.size];exact aO)) R<|?_
 refine L1<|ch (ub i p)<|?_
 refine L1<|Oc<|m1 (fz (A:=e) (B:=M) (aW.upd a r aG) (aW.old l s)) fun a4 u=>Pl 2<|nt<|?_
 have v:=aI t u
 refine cb ((!(decide (e=M)))) (fun j=>?_) (fun j=>?_)
 have d:(decide (e=M))=false:=by simpa using j
 have U:=of_decide_eq_false d
 refine sg<|Pl 2<|nt<|rt<|tr<|rr (.tuple #[.slice none 0 0,.int .i64 1])<|?_
 refine eX (i8 f d) ?_
 exact⟨rfl,v⟩
 have d:(decide (e=M))=true:=by simpa using j
 have U:=of_decide_eq_true d
 refine bq<|sg<|Pl 3<|nt<|rt<|rr (.tuple #[.slice H ((dp dir M).length) I,.int .i64 0])<|?_
 refine eX (mc f b d) ?_
 exact⟨_,rfl,(be.weaken (ax n (aI i u) (fun x hx=>ay) (fun _ _ h=>h)) g.size),v⟩
theorem iF{m:Md}{cs:Array Value}{M:aP}{w:World}{dir:Int}(h:aW m w cs.toList M)(hf:cY M)(hlen:(cX dir M).length≤1048576) : Calls Tryz.prog 145 #[.int .i64 dir,.agg cs] w (eK (cR f5 cX dir M) w):=by
 have hM:=h
 obtain⟨vw,vb,vd,vr,vo,h0,hw,hbt,hd,hr,ho,hR⟩:=h
 obtain rfl:cs=(bP M vw vb vd vr vo).toArray:=by apply Array.toList_inj.1;simpa using h0
 clear h0
 obtain⟨Aw,kw,rfl,_,_⟩:=hw.shape
 obtain⟨Ab,kb,rfl,_,_⟩:=hbt.shape
 obtain⟨Ad,kd,rfl,_,_⟩:=hd.shape
 obtain⟨Ar,kr,rfl,_,_⟩:=hr.shape
 obtain⟨Ao,ko,rfl,_,_⟩:=ho.shape
 obtain⟨q0,q1,q2,q3,q4,q5,q6,q7,q8,q9,y,z,C,D,E,F,G⟩:=hR
 simp only[B8,dy] at q0 q1 q2 q3 q4 q5 q6 q7 q8 q9 y z C D E F G
 refine en 29 Tryz.func145 rfl<|sg<|L0<|dx (mG M.code M.fail M.addr M.count M.value M.and_ M.or_ M.addr2 M.sub M.status M.events M.messages (.slice Aw M.words.length kw) (.slice Ab M.bits.length kb) (.slice Ad M.data.length kd) (.slice Ar M.recs.length kr) M.mei M.kind M.level M.more M.next (.slice Ao M.objects.length ko)) fun V W X k g=>Pl 2<|ng<|Pl 1<|L0<|ch k<|?_
 have l:=aW.old hM g
 refine L0<|Oc<|ea (oZ (dir:=dir) l hf) fun H I J n Y Z o=>Pl 1<|ng<|Pl 2<|?_
 have p:=ub o k
 refine L0<|aR p 0<|Pl 1<|?_
 refine pr (f5 dir M.code (cX dir M)) fun e K f=>?_
 have q:Calls _ _ _ _ (dF (f5 dir M.code (cX dir M)) J):=iH (dir:=dir) (c:=M.code) q0 (n).rd hlen
 rw[f] at q
 refine L0<|Oc<|e2 (q) fun L a0 a N=>Pl 3<|L0<|bI mZ fun a1 a2 O P Q=>L0<|b6 (hz:=(by rw[a.size];exact aO)) (hv:=a.size) (h1:=a.one) P (L) fun a3 R S=>Pl 1<|nt<|sq<|sg<|Pl 3<|?_
 have r:=ud Q S O
 have i:=aI N r
 have s:=aI o i
 have t:=aI g s
 refine bl 22 ((K != 0)) (fun b=>?_) (fun b=>?_)
 have T:=au b
 refine Pl 5<|nt<|c1<|sg<|Pl 2<|nt<|rt<|tr<|rr (.tuple #[.slice none 0 0,.int .i64 1])<|?_
 refine eX (hZ f b) ?_
 exact⟨rfl,t⟩
 have T:=ai b
 refine L1<|ch (hz:=(by rw[a.size];exact aO)) R<|?_
 refine L1<|ch (ub i p)<|?_
 refine L1<|Oc<|m1 (fz (A:=e) (B:=M) (aW.upd a r aG) (aW.old l s)) fun a4 u=>Pl 2<|nt<|?_
 have v:=aI t u
 refine cb ((!(decide (e=M)))) (fun j=>?_) (fun j=>?_)
 have d:(decide (e=M))=false:=by simpa using j
 have U:=of_decide_eq_false d
 refine sg<|Pl 2<|nt<|rt<|tr<|rr (.tuple #[.slice none 0 0,.int .i64 1])<|?_
 refine eX (i8 f d) ?_
 exact⟨rfl,v⟩
 have d:(decide (e=M))=true:=by simpa using j
 have U:=of_decide_eq_true d
 refine bq<|sg<|Pl 3<|nt<|rt<|rr (.tuple #[.slice H ((cX dir M).length) I,.int .i64 0])<|?_
 refine eX (mc f b d) ?_
 exact⟨_,rfl,(be.weaken (ax n (aI i u) (fun x hx=>ay) (fun _ _ h=>h)) g.size),v⟩
open Go.RowKit
def gk:Nat→Int→aP→Option (List Int)
  | 1,dir,M=>cR fb bO dir M
  | 2,dir,M=>cR fq bL dir M
  | 3,dir,M=>cR fx bV dir M
  | 4,dir,M=>cR f5 cX dir M
  | 5,dir,M=>cR gn dp dir M
  | _,_,_=>none
def dk (dir:Int)(M:aP) : Option (List Int) :=
  if M.fail != 0 then (if dir != 1 then none else jU M)
  else match gk (jz M.code) dir M with
    | none=>none
    | some l=>if decide (253≤(l.length:Int)) then none else some ([M.code]++l)
theorem m0:∀ (L:List Obj),(∀ r,r∈L→r.value.length≤1024)→(gD L).length≤1026*L.length
  | [],_=>by simp[gD]
  | r :: L,h=>by
    have h1:=h r (by simp)
    have h2:=m0 L fun x hx=>h x (by simp[hx])
    simp only[gD,List.length_append,List.length_cons,List.length_nil]
    omega
theorem jE(dir c:Int) : ∀ (L:List di),(∀ r,r∈L→r.words.length≤1024)→(cU dir c L).length≤2064*L.length
  | [],_=>by simp[cU]
  | r :: L,h=>by
    have h1:=h r (by simp)
    have h2:=jE dir c L fun x hx=>h x (by simp[hx])
    simp only[cU,jG]
    repeat' split
    all_goals simp only[List.length_append,List.length_cons,List.length_nil,aC]
    all_goals omega
theorem ey{M:aP}(hf:cY M)(dir:Int) : (bO dir M).length≤1048576∧(bL dir M).length≤1048576∧(bV dir M).length≤1048576∧(dp dir M).length≤1048576∧(cX dir M).length≤1048576:=by
  have hp:(cE M.bits).length≤1024:=by
    have:=hf.bits
    simp only[cE,List.length_map,List.length_range,dr]
    omega
  have h1:=hf.words
  have h2:=hf.data
  have h3:=hf.objects
  have h4:=m0 M.objects hf.objv
  have h5:=jE dir M.code M.recs hf.recw
  have h6:=hf.recs
  refine⟨?_,?_,?_,?_,?_⟩
  · unfold bO
    repeat' split
    all_goals simp only[List.length_append,List.length_cons,List.length_nil,aC]
    all_goals omega
  · unfold bL
    repeat' split
    all_goals simp only[List.length_append,List.length_cons,List.length_nil,aC]
    all_goals omega
  · unfold bV
    repeat' split
    all_goals simp only[List.length_append,List.length_cons,List.length_nil,aC]
    all_goals omega
  · unfold dp
    repeat' split
    all_goals simp only[List.length_append,List.length_cons,List.length_nil]
    all_goals omega
  · unfold cX
    simp only[List.length_set,List.length_append,List.length_cons,List.length_nil]
    omega
theorem l0{m:Md}{cs:Array Value}{M:aP}{w:World}{dir:Int}(h:aW m w cs.toList M)(hf:cY M) : Calls Tryz.prog 28 #[.int .i64 dir,.agg cs] w (eK (dk dir M) w):=by
 have hM:=h
 obtain⟨vw,vb,vd,vr,vo,h0,hw,hbt,hd,hr,ho,hR⟩:=h
 obtain rfl:cs=(bP M vw vb vd vr vo).toArray:=by apply Array.toList_inj.1;simpa using h0
 clear h0
 obtain⟨Aw,kw,rfl,_,_⟩:=hw.shape
 obtain⟨Ab,kb,rfl,_,_⟩:=hbt.shape
 obtain⟨Ad,kd,rfl,_,_⟩:=hd.shape
 obtain⟨Ar,kr,rfl,_,_⟩:=hr.shape
 obtain⟨Ao,ko,rfl,_,_⟩:=ho.shape
 obtain⟨q0,q1,q2,q3,q4,q5,q6,q7,q8,q9,ah,aj,c,ak,al,am,an⟩:=hR
 simp only[B8,dy] at q0 q1 q2 q3 q4 q5 q6 q7 q8 q9 ah aj c ak al am an
 refine en 47 Tryz.func28 rfl<|sg<|L0<|dx (mG M.code M.fail M.addr M.count M.value M.and_ M.or_ M.addr2 M.sub M.status M.events M.messages (.slice Aw M.words.length kw) (.slice Ab M.bits.length kb) (.slice Ad M.data.length kd) (.slice Ar M.recs.length kr) M.mei M.kind M.level M.more M.next (.slice Ao M.objects.length ko)) fun cg f ci d b=>Pl 2<|nt<|sq<|sg<|Pl 1<|L0<|aR d 1<|Pl 1<|nl<|?_
 refine tn<|cb ((M.fail != 0)) (fun a=>?_) (fun a=>?_)
 have ao:=au a
 refine sq<|sg<|Pl 2<|nt<|cb ((dir != 1)) (fun c=>?_) (fun c=>?_)
 have ap:=au c
 refine sg<|Pl 2<|nt<|rt<|tr<|tr<|rr (.tuple #[.slice none 0 0,.int .i64 1])<|?_
 have hs:dk dir M=none:=by
   unfold dk
   (try simp only[a,c,bs,if_true,if_false,decide_true,decide_false,reduceIte])
   all_goals rfl
 refine dD hs ?_
 exact⟨rfl,b⟩
 have ap:=ai c
 refine bq<|sg<|L0<|ch d<|?_
 rcases hwr:jU M with _|lw
 have E:=l8 (aW.old hM b)
 rw[hwr] at E
 refine L0<|Oc<|m1 E fun cj ar=>Pl 4<|nt<|rt<|tr<|rr (.tuple #[.slice none 0 0,.int .i64 1])<|?_
 have hs:dk dir M=none:=by
   unfold dk
   (try simp only[a,c,bs,if_true,if_false,decide_true,decide_false,hwr,reduceIte])
   all_goals rfl
 refine dD hs ?_
 exact⟨rfl,(aI b ar)⟩
 have F:=l8 (aW.old hM b)
 rw[hwr] at F
 refine L0<|Oc<|ea F fun aw aA ck aB cl cm aD=>Pl 4<|nt<|rt<|tr<|rr (.tuple #[.slice aw lw.length aA,.int .i64 0])<|?_
 have hs:dk dir M=(some lw):=by
   unfold dk
   (try simp only[a,c,bs,if_true,if_false,decide_true,decide_false,hwr,reduceIte])
   all_goals rfl
 refine dD hs ?_
 exact⟨_,rfl,(be.weaken aB b.size),(aI b aD)⟩
 have ao:=ai a
 refine bq<|sg<|Pl 1<|L0<|aR d 0<|?_
 rcases gw M.code with⟨hk,hkf⟩|⟨hk,hkf⟩|⟨hk,hkf⟩|⟨hk,hkf⟩|⟨hk,hkf⟩|⟨hk,hkf⟩
 have G:=eJ (x:=M.code) (w:=f)
 rw[hkf] at G
 refine L0<|Oc<|m1 G fun cn aE=>Pl 3<|L0<|bI #[.nilFunc,.nilFunc] fun co cp aF aG aH=>L0<|b6 aG #[.func (.func 138) #[] #[],.func (.func 139) #[] #[]] fun cq aJ aK=>Pl 1<|nt<|sq<|sg<|Pl 2<|nt<|c0<|?_
 refine bq<|sg<|Pl 1<|L0<|aR aJ 1<|Pl 1<|?_
 have H:=aI aE (ud aH aK aF)
 have I:=ub H d
 refine L0<|ch I<|?_
 have n:=aI b H
 rcases hwr:cR fb bO dir M with _|lw
 have J:=iE (dir:=dir) (aW.old hM n) hf (ey hf dir).1
 rw[hwr] at J
 refine L0<|g7 #[] #[] (args:=#[.int .i64 dir,.agg (mG M.code M.fail M.addr M.count M.value M.and_ M.or_ M.addr2 M.sub M.status M.events M.messages (.slice Aw M.words.length kw) (.slice Ab M.bits.length kb) (.slice Ad M.data.length kd) (.slice Ar M.recs.length kr) M.mei M.kind M.level M.more M.next (.slice Ao M.objects.length ko))])<|m1 J fun cr aL=>Pl 5<|nt<|sq<|sg<|Pl 7<|nt<|c1<|sg<|Pl 2<|nl<|?_
 refine tn<|rt<|tr<|rr (.tuple #[.slice none 0 0,.int .i64 1])<|?_
 have hs:dk dir M=none:=by
   unfold dk
   (try simp only[a,bs,if_true,if_false,decide_true,decide_false,hkf,gk,hwr,reduceIte])
   all_goals rfl
 refine dD hs ?_
 exact⟨rfl,(aI n aL)⟩
 have K:=iE (dir:=dir) (aW.old hM n) hf (ey hf dir).1
 rw[hwr] at K
 refine L0<|g7 #[] #[] (args:=#[.int .i64 dir,.agg (mG M.code M.fail M.addr M.count M.value M.and_ M.or_ M.addr2 M.sub M.status M.events M.messages (.slice Aw M.words.length kw) (.slice Ab M.bits.length kb) (.slice Ad M.data.length kd) (.slice Ar M.recs.length kr) M.mei M.kind M.level M.more M.next (.slice Ao M.objects.length ko))])<|ea K fun ct cu cv aM cw cx L=>Pl 5<|nt<|sq<|sg<|Pl 7<|nt<|?_
 have s:=aI n L
 refine cb ((decide (253≤((lw.length:Nat) : Int)))) (fun g=>?_) (fun g=>?_)
 have aN:=of_decide_eq_true g
 refine sg<|Pl 2<|nt<|rt<|tr<|rr (.tuple #[.slice none 0 0,.int .i64 1])<|?_
 have hs:dk dir M=none:=by
   unfold dk
   (try simp only[a,g,bs,if_true,if_false,decide_true,decide_false,hkf,gk,hwr,reduceIte])
   all_goals rfl
 refine dD hs ?_
 exact⟨rfl,s⟩
 have aN:=of_decide_eq_false g
 refine bq<|sg<|Pl 1<|?_
 refine L0<|aR (ub L I) 0<|L0<|dA (m:=1) (e:=5) #[.int .u8 M.code] fun cy cz aO aQ t=>?_
 have N:=dT aO (xs:=[M.code]) (by as_aux_lemma=>kernel_rfl) (az (by omega) aZ) (by(try simp only[List.length_cons,List.length_nil]);omega) aQ
 refine Pl 1<|?_
 refine L0<|cO bv (xs:=([M.code])) (ys:=lw) (.int .u8 0) 1 N ((ax aM t (fun x hx=>ay) (fun _ _ h=>h))).rd (by(try simp only[List.length_append,List.length_cons,List.length_nil,aC]);omega) t.size fun aS aT cA aV aX=>Pl 2<|nt<|rt<|rr (.tuple #[.slice aS (([M.code]++lw).length) aT,.int .i64 0])<|?_
 have hs:dk dir M=(some ([M.code]++lw)):=by
   unfold dk
   (try simp only[a,g,bs,if_true,if_false,decide_true,decide_false,hkf,gk,hwr,reduceIte])
   all_goals rfl
 refine dD hs ?_
 exact⟨_,rfl,(be.weaken aV s.size),(aI s (ut t aX (av (aU N lr) aq)))⟩
 have O:=eJ (x:=M.code) (w:=f)
 rw[hkf] at O
 refine L0<|Oc<|m1 O fun cB aY=>Pl 3<|L0<|bI #[.nilFunc,.nilFunc] fun cC cD b0 b1 b2=>L0<|b6 b1 #[.func (.func 140) #[] #[],.func (.func 141) #[] #[]] fun cE b3 b4=>Pl 1<|nt<|sq<|sg<|Pl 2<|nt<|c0<|?_
 refine bq<|sg<|Pl 1<|L0<|aR b3 1<|Pl 1<|?_
 have P:=aI aY (ud b2 b4 b0)
 have Q:=ub P d
 refine L0<|ch Q<|?_
 have o:=aI b P
 rcases hwr:cR fq bL dir M with _|lw
 have R:=jt (dir:=dir) (aW.old hM o) hf (ey hf dir).2.1
 rw[hwr] at R
 refine L0<|g7 #[] #[] (args:=#[.int .i64 dir,.agg (mG M.code M.fail M.addr M.count M.value M.and_ M.or_ M.addr2 M.sub M.status M.events M.messages (.slice Aw M.words.length kw) (.slice Ab M.bits.length kb) (.slice Ad M.data.length kd) (.slice Ar M.recs.length kr) M.mei M.kind M.level M.more M.next (.slice Ao M.objects.length ko))])<|m1 R fun cF b5=>Pl 5<|nt<|sq<|sg<|Pl 7<|nt<|c1<|sg<|Pl 2<|nl<|?_
 refine tn<|rt<|tr<|rr (.tuple #[.slice none 0 0,.int .i64 1])<|?_
 have hs:dk dir M=none:=by
   unfold dk
   (try simp only[a,bs,if_true,if_false,decide_true,decide_false,hkf,gk,hwr,reduceIte])
   all_goals rfl
 refine dD hs ?_
 exact⟨rfl,(aI o b5)⟩
 have S:=jt (dir:=dir) (aW.old hM o) hf (ey hf dir).2.1
 rw[hwr] at S
 refine L0<|g7 #[] #[] (args:=#[.int .i64 dir,.agg (mG M.code M.fail M.addr M.count M.value M.and_ M.or_ M.addr2 M.sub M.status M.events M.messages (.slice Aw M.words.length kw) (.slice Ab M.bits.length kb) (.slice Ad M.data.length kd) (.slice Ar M.recs.length kr) M.mei M.kind M.level M.more M.next (.slice Ao M.objects.length ko))])<|ea S fun cG cH cI b7 cJ cK T=>Pl 5<|nt<|sq<|sg<|Pl 7<|nt<|?_
 have u:=aI o T
 refine cb ((decide (253≤((lw.length:Nat) : Int)))) (fun i=>?_) (fun i=>?_)
 have b8:=of_decide_eq_true i
 refine sg<|Pl 2<|nt<|rt<|tr<|rr (.tuple #[.slice none 0 0,.int .i64 1])<|?_
 have hs:dk dir M=none:=by
   unfold dk
   (try simp only[a,i,bs,if_true,if_false,decide_true,decide_false,hkf,gk,hwr,reduceIte])
   all_goals rfl
 refine dD hs ?_
 exact⟨rfl,u⟩
 have b8:=of_decide_eq_false i
 refine bq<|sg<|Pl 1<|?_
 refine L0<|aR (ub T Q) 0<|L0<|dA (m:=1) (e:=5) #[.int .u8 M.code] fun cL cM b9 ba v=>?_
 have U:=dT b9 (xs:=[M.code]) (by as_aux_lemma=>kernel_rfl) (az (by omega) aZ) (by(try simp only[List.length_cons,List.length_nil]);omega) ba
 refine Pl 1<|?_
 refine L0<|cO bv (xs:=([M.code])) (ys:=lw) (.int .u8 0) 1 U ((ax b7 v (fun x hx=>ay) (fun _ _ h=>h))).rd (by(try simp only[List.length_append,List.length_cons,List.length_nil,aC]);omega) v.size fun bb bc cN bd bf=>Pl 2<|nt<|rt<|rr (.tuple #[.slice bb (([M.code]++lw).length) bc,.int .i64 0])<|?_
 have hs:dk dir M=(some ([M.code]++lw)):=by
   unfold dk
   (try simp only[a,i,bs,if_true,if_false,decide_true,decide_false,hkf,gk,hwr,reduceIte])
   all_goals rfl
 refine dD hs ?_
 exact⟨_,rfl,(be.weaken bd u.size),(aI u (ut v bf (av (aU U lr) aq)))⟩
 have V:=eJ (x:=M.code) (w:=f)
 rw[hkf] at V
 refine L0<|Oc<|m1 V fun cP bg=>Pl 3<|L0<|bI #[.nilFunc,.nilFunc] fun cQ cS bh bi bj=>L0<|b6 bi #[.func (.func 142) #[] #[],.func (.func 143) #[] #[]] fun cT bk bl=>Pl 1<|nt<|sq<|sg<|Pl 2<|nt<|c0<|?_
 refine bq<|sg<|Pl 1<|L0<|aR bk 1<|Pl 1<|?_
 have W:=aI bg (ud bj bl bh)
 have X:=ub W d
 refine L0<|ch X<|?_
 have p:=aI b W
 rcases hwr:cR fx bV dir M with _|lw
 have Y:=jH (dir:=dir) (aW.old hM p) hf (ey hf dir).2.2.1
 rw[hwr] at Y
 refine L0<|g7 #[] #[] (args:=#[.int .i64 dir,.agg (mG M.code M.fail M.addr M.count M.value M.and_ M.or_ M.addr2 M.sub M.status M.events M.messages (.slice Aw M.words.length kw) (.slice Ab M.bits.length kb) (.slice Ad M.data.length kd) (.slice Ar M.recs.length kr) M.mei M.kind M.level M.more M.next (.slice Ao M.objects.length ko))])<|m1 Y fun cU bm=>Pl 5<|nt<|sq<|sg<|Pl 7<|nt<|c1<|sg<|Pl 2<|nl<|?_
 refine tn<|rt<|tr<|rr (.tuple #[.slice none 0 0,.int .i64 1])<|?_
 have hs:dk dir M=none:=by
   unfold dk
   (try simp only[a,bs,if_true,if_false,decide_true,decide_false,hkf,gk,hwr,reduceIte])
   all_goals rfl
 refine dD hs ?_
 exact⟨rfl,(aI p bm)⟩
 have Z:=jH (dir:=dir) (aW.old hM p) hf (ey hf dir).2.2.1
 rw[hwr] at Z
 refine L0<|g7 #[] #[] (args:=#[.int .i64 dir,.agg (mG M.code M.fail M.addr M.count M.value M.and_ M.or_ M.addr2 M.sub M.status M.events M.messages (.slice Aw M.words.length kw) (.slice Ab M.bits.length kb) (.slice Ad M.data.length kd) (.slice Ar M.recs.length kr) M.mei M.kind M.level M.more M.next (.slice Ao M.objects.length ko))])<|ea Z fun cV cW cZ bn d0 d1 a0=>Pl 5<|nt<|sq<|sg<|Pl 7<|nt<|?_
 have y:=aI p a0
 refine cb ((decide (253≤((lw.length:Nat) : Int)))) (fun j=>?_) (fun j=>?_)
 have bo:=of_decide_eq_true j
 refine sg<|Pl 2<|nt<|rt<|tr<|rr (.tuple #[.slice none 0 0,.int .i64 1])<|?_
 have hs:dk dir M=none:=by
   unfold dk
   (try simp only[a,j,bs,if_true,if_false,decide_true,decide_false,hkf,gk,hwr,reduceIte])
   all_goals rfl
 refine dD hs ?_
 exact⟨rfl,y⟩
 have bo:=of_decide_eq_false j
 refine bq<|sg<|Pl 1<|?_
 refine L0<|aR (ub a0 X) 0<|L0<|dA (m:=1) (e:=5) #[.int .u8 M.code] fun d2 d3 bp br z=>?_
 have a1:=dT bp (xs:=[M.code]) (by as_aux_lemma=>kernel_rfl) (az (by omega) aZ) (by(try simp only[List.length_cons,List.length_nil]);omega) br
 refine Pl 1<|?_
 refine L0<|cO bv (xs:=([M.code])) (ys:=lw) (.int .u8 0) 1 a1 ((ax bn z (fun x hx=>ay) (fun _ _ h=>h))).rd (by(try simp only[List.length_append,List.length_cons,List.length_nil,aC]);omega) z.size fun bt bu d4 bw bx=>Pl 2<|nt<|rt<|rr (.tuple #[.slice bt (([M.code]++lw).length) bu,.int .i64 0])<|?_
 have hs:dk dir M=(some ([M.code]++lw)):=by
   unfold dk
   (try simp only[a,j,bs,if_true,if_false,decide_true,decide_false,hkf,gk,hwr,reduceIte])
   all_goals rfl
 refine dD hs ?_
 exact⟨_,rfl,(be.weaken bw y.size),(aI y (ut z bx (av (aU a1 lr) aq)))⟩
 have a2:=eJ (x:=M.code) (w:=f)
 rw[hkf] at a2
 refine L0<|Oc<|m1 a2 fun d5 bz=>Pl 3<|L0<|bI #[.nilFunc,.nilFunc] fun d6 d7 bA bB bC=>L0<|b6 bB #[.func (.func 144) #[] #[],.func (.func 145) #[] #[]] fun d8 bD bE=>Pl 1<|nt<|sq<|sg<|Pl 2<|nt<|c0<|?_
 refine bq<|sg<|Pl 1<|L0<|aR bD 1<|Pl 1<|?_
 have a3:=aI bz (ud bC bE bA)
 have a4:=ub a3 d
 refine L0<|ch a4<|?_
 have q:=aI b a3
 rcases hwr:cR f5 cX dir M with _|lw
 have a5:=iF (dir:=dir) (aW.old hM q) hf (ey hf dir).2.2.2.2
 rw[hwr] at a5
 refine L0<|g7 #[] #[] (args:=#[.int .i64 dir,.agg (mG M.code M.fail M.addr M.count M.value M.and_ M.or_ M.addr2 M.sub M.status M.events M.messages (.slice Aw M.words.length kw) (.slice Ab M.bits.length kb) (.slice Ad M.data.length kd) (.slice Ar M.recs.length kr) M.mei M.kind M.level M.more M.next (.slice Ao M.objects.length ko))])<|m1 a5 fun d9 bF=>Pl 5<|nt<|sq<|sg<|Pl 7<|nt<|c1<|sg<|Pl 2<|nl<|?_
 refine tn<|rt<|tr<|rr (.tuple #[.slice none 0 0,.int .i64 1])<|?_
 have hs:dk dir M=none:=by
   unfold dk
   (try simp only[a,bs,if_true,if_false,decide_true,decide_false,hkf,gk,hwr,reduceIte])
   all_goals rfl
 refine dD hs ?_
 exact⟨rfl,(aI q bF)⟩
 have a6:=iF (dir:=dir) (aW.old hM q) hf (ey hf dir).2.2.2.2
 rw[hwr] at a6
 refine L0<|g7 #[] #[] (args:=#[.int .i64 dir,.agg (mG M.code M.fail M.addr M.count M.value M.and_ M.or_ M.addr2 M.sub M.status M.events M.messages (.slice Aw M.words.length kw) (.slice Ab M.bits.length kb) (.slice Ad M.data.length kd) (.slice Ar M.recs.length kr) M.mei M.kind M.level M.more M.next (.slice Ao M.objects.length ko))])<|ea a6 fun da db dc bG dd de a7=>Pl 5<|nt<|sq<|sg<|Pl 7<|nt<|?_
 have A:=aI q a7
 refine cb ((decide (253≤((lw.length:Nat) : Int)))) (fun k=>?_) (fun k=>?_)
 have bH:=of_decide_eq_true k
 refine sg<|Pl 2<|nt<|rt<|tr<|rr (.tuple #[.slice none 0 0,.int .i64 1])<|?_
 have hs:dk dir M=none:=by
   unfold dk
   (try simp only[a,k,bs,if_true,if_false,decide_true,decide_false,hkf,gk,hwr,reduceIte])
   all_goals rfl
 refine dD hs ?_
 exact⟨rfl,A⟩
 have bH:=of_decide_eq_false k
 refine bq<|sg<|Pl 1<|?_
 refine L0<|aR (ub a7 a4) 0<|L0<|dA (m:=1) (e:=5) #[.int .u8 M.code] fun df dg bJ bK B=>?_
 have a8:=dT bJ (xs:=[M.code]) (by as_aux_lemma=>kernel_rfl) (az (by omega) aZ) (by(try simp only[List.length_cons,List.length_nil]);omega) bK
 refine Pl 1<|?_
 refine L0<|cO bv (xs:=([M.code])) (ys:=lw) (.int .u8 0) 1 a8 ((ax bG B (fun x hx=>ay) (fun _ _ h=>h))).rd (by(try simp only[List.length_append,List.length_cons,List.length_nil,aC]);omega) B.size fun bM bN dh bQ bR=>Pl 2<|nt<|rt<|rr (.tuple #[.slice bM (([M.code]++lw).length) bN,.int .i64 0])<|?_
 have hs:dk dir M=(some ([M.code]++lw)):=by
   unfold dk
   (try simp only[a,k,bs,if_true,if_false,decide_true,decide_false,hkf,gk,hwr,reduceIte])
   all_goals rfl
 refine dD hs ?_
 exact⟨_,rfl,(be.weaken bQ A.size),(aI A (ut B bR (av (aU a8 lr) aq)))⟩
 have a9:=eJ (x:=M.code) (w:=f)
 rw[hkf] at a9
 refine L0<|Oc<|m1 a9 fun di bS=>Pl 3<|L0<|bI #[.nilFunc,.nilFunc] fun dj dl bT bU bW=>L0<|b6 bU #[.func (.func 146) #[] #[],.func (.func 147) #[] #[]] fun dm bX bY=>Pl 1<|nt<|sq<|sg<|Pl 2<|nt<|c0<|?_
 refine bq<|sg<|Pl 1<|L0<|aR bX 1<|Pl 1<|?_
 have aa:=aI bS (ud bW bY bT)
 have ab:=ub aa d
 refine L0<|ch ab<|?_
 have r:=aI b aa
 rcases hwr:cR gn dp dir M with _|lw
 have ac:=kU (dir:=dir) (aW.old hM r) hf (ey hf dir).2.2.2.1
 rw[hwr] at ac
 refine L0<|g7 #[] #[] (args:=#[.int .i64 dir,.agg (mG M.code M.fail M.addr M.count M.value M.and_ M.or_ M.addr2 M.sub M.status M.events M.messages (.slice Aw M.words.length kw) (.slice Ab M.bits.length kb) (.slice Ad M.data.length kd) (.slice Ar M.recs.length kr) M.mei M.kind M.level M.more M.next (.slice Ao M.objects.length ko))])<|m1 ac fun dn bZ=>Pl 5<|nt<|sq<|sg<|Pl 7<|nt<|c1<|sg<|Pl 2<|nl<|?_
 refine tn<|rt<|tr<|rr (.tuple #[.slice none 0 0,.int .i64 1])<|?_
 have hs:dk dir M=none:=by
   unfold dk
   (try simp only[a,bs,if_true,if_false,decide_true,decide_false,hkf,gk,hwr,reduceIte])
   all_goals rfl
 refine dD hs ?_
 exact⟨rfl,(aI r bZ)⟩
 have ad:=kU (dir:=dir) (aW.old hM r) hf (ey hf dir).2.2.2.1
 rw[hwr] at ad
 refine L0<|g7 #[] #[] (args:=#[.int .i64 dir,.agg (mG M.code M.fail M.addr M.count M.value M.and_ M.or_ M.addr2 M.sub M.status M.events M.messages (.slice Aw M.words.length kw) (.slice Ab M.bits.length kb) (.slice Ad M.data.length kd) (.slice Ar M.recs.length kr) M.mei M.kind M.level M.more M.next (.slice Ao M.objects.length ko))])<|ea ad fun dq dr ds c2 dt du ae=>Pl 5<|nt<|sq<|sg<|Pl 7<|nt<|?_
 have C:=aI r ae
 refine cb ((decide (253≤((lw.length:Nat) : Int)))) (fun l=>?_) (fun l=>?_)
 have c3:=of_decide_eq_true l
 refine sg<|Pl 2<|nt<|rt<|tr<|rr (.tuple #[.slice none 0 0,.int .i64 1])<|?_
 have hs:dk dir M=none:=by
   unfold dk
   (try simp only[a,l,bs,if_true,if_false,decide_true,decide_false,hkf,gk,hwr,reduceIte])
   all_goals rfl
 refine dD hs ?_
 exact⟨rfl,C⟩
 have c3:=of_decide_eq_false l
 refine bq<|sg<|Pl 1<|?_
 refine L0<|aR (ub ae ab) 0<|L0<|dA (m:=1) (e:=5) #[.int .u8 M.code] fun dv dw c4 c5 D=>?_
 have af:=dT c4 (xs:=[M.code]) (by as_aux_lemma=>kernel_rfl) (az (by omega) aZ) (by(try simp only[List.length_cons,List.length_nil]);omega) c5
 refine Pl 1<|?_
 refine L0<|cO bv (xs:=([M.code])) (ys:=lw) (.int .u8 0) 1 af ((ax c2 D (fun x hx=>ay) (fun _ _ h=>h))).rd (by(try simp only[List.length_append,List.length_cons,List.length_nil,aC]);omega) D.size fun c6 c7 dz c8 c9=>Pl 2<|nt<|rt<|rr (.tuple #[.slice c6 (([M.code]++lw).length) c7,.int .i64 0])<|?_
 have hs:dk dir M=(some ([M.code]++lw)):=by
   unfold dk
   (try simp only[a,l,bs,if_true,if_false,decide_true,decide_false,hkf,gk,hwr,reduceIte])
   all_goals rfl
 refine dD hs ?_
 exact⟨_,rfl,(be.weaken c8 C.size),(aI C (ut D c9 (av (aU af lr) aq)))⟩
 have ag:=eJ (x:=M.code) (w:=f)
 rw[hkf] at ag
 refine L0<|Oc<|m1 ag fun dB ca=>Pl 3<|L0<|bI #[.nilFunc,.nilFunc] fun dC dE cc cd ce=>L0<|b6 cd #[.nilFunc,.nilFunc] fun dF dG cf=>Pl 1<|nt<|sq<|sg<|Pl 2<|nt<|c1<|?_
 refine sg<|Pl 2<|nt<|rt<|tr<|rr (.tuple #[.slice none 0 0,.int .i64 1])<|?_
 have hs:dk dir M=none:=by
   unfold dk
   (try simp only[a,bs,if_true,if_false,decide_true,decide_false,hkf,gk,reduceIte])
   all_goals rfl
 refine dD hs ?_
 exact⟨rfl,(aI b (aI ca (ud ce cf cc)))⟩
open Go.RowKit
theorem gI{x y:aP × Int}(h:x=y){w:World}{e:Ending}{w':World}(k:dF y w e w') : dF x w e w':=by rw[h];exact k
def iR:Nat→Int→List Int→aP × Int
  | 1,dir,b=>ae aD dir (b.getD 0 0) (b.drop 1)
  | 2,dir,b=>ae aH dir (b.getD 0 0) (b.drop 1)
  | 3,dir,b=>ae aM dir (b.getD 0 0) (b.drop 1)
  | 4,dir,b=>ae aY dir (b.getD 0 0) (b.drop 1)
  | 5,dir,b=>ae bE dir (b.getD 0 0) (b.drop 1)
  | _,_,_=>(aP.zero,4)
def dB (dir:Int)(b:List Int) : aP × Int :=
  if dir != 0&&dir != 1 then (aP.zero,1)
  else if (b.length:Int)==0 then (aP.zero,2)
  else if decide (253<(b.length:Int)) then (aP.zero,3)
  else if decide (128≤b.getD 0 0)&&dir==1 then eF b
  else iR (jz (b.getD 0 0)) dir b
theorem np{m:Md}{A:Option Addr}{cp:Nat}{b:List Int}{w:World}{dir:Int}(hsl:b7 m w (.slice A b.length cp) b)(hb:b.length≤1048576) :
    Calls Tryz.prog 24 #[.int .i64 dir,.slice A b.length cp] w (dF (dB dir b) w):=by
 have hln:(b.length:Int)≤1048576:=by omega
 refine en 60 Tryz.func24 rfl<|sg<|L0<|bI mZ fun dj t h a f=>Pl 1<|nt<|sq<|bk<|sg<|Pl 3<|cu 3 [11] 14 (((dir != 0)&&(dir != 1))) (fun K a2=>?_) ?_
 refine bl 11 ((dir != 0)) (fun u=>?_) (fun u=>?_)
 have bZ:=au u
 exact Pl 3<|ce a2 (dir != 1) (by rw[u];rfl)
 have bZ:=ai u
 exact Pl 3<|ce a2 false (by rw[u];rfl)
 refine Pl 1<|nt<|cb (((dir != 0)&&(dir != 1))) (fun d=>?_) (fun d=>?_)
 have a3:=(aS d).1
 have a4:=(aS d).2
 have dk:=au a3
 have dl:=au a4
 refine sg<|Pl 1<|L0<|b6 a mZ fun dm c2 c3=>Pl 1<|nt<|rt<|br<|tr<|bF c2 (.int .i64 1)<|?_
 have hs:dB dir b=(aP.zero,1):=by
   unfold dB
   (try simp only[d,a3,a4,bs,if_true,if_false,decide_true,decide_false,iR,reduceIte])
   all_goals rfl
 refine gI hs ?_
 exact cC (ud f c3 h)
 refine sg<|Pl 4<|nt<|cb ((((b.length:Nat) : Int)==0)) (fun e=>?_) (fun e=>?_)
 have c4:=al e
 refine sg<|Pl 1<|L0<|b6 a mZ fun dn c5 c6=>Pl 1<|nt<|rt<|br<|tr<|bF c5 (.int .i64 2)<|?_
 have hs:dB dir b=(aP.zero,2):=by
   unfold dB
   (try simp only[d,e,bs,if_true,if_false,decide_true,decide_false,iR,reduceIte])
   all_goals rfl
 refine gI hs ?_
 exact cC (ud f c6 h)
 have c4:=ap e
 refine sg<|Pl 4<|nt<|cb ((decide (253<((b.length:Nat) : Int)))) (fun g=>?_) (fun g=>?_)
 have c7:=of_decide_eq_true g
 refine sg<|Pl 1<|L0<|b6 a mZ fun dp c8 c9=>Pl 1<|nt<|rt<|br<|tr<|bF c8 (.int .i64 3)<|?_
 have hs:dB dir b=(aP.zero,3):=by
   unfold dB
   (try simp only[d,e,g,bs,if_true,if_false,decide_true,decide_false,iR,reduceIte])
   all_goals rfl
 refine gI hs ?_
 exact cC (ud f c9 h)
 have c7:=of_decide_eq_false g
 refine sg<|Pl 1<|?_
 have s:=b7.old hsl f
 refine fA (b7.at_ s 0 (by omega)) fun a5 a6 a7 a8 dq=>L0<|jO b.length 0 a7 (by omega)<|L0<|e8 (p:=⟨a5,a6+0,none⟩) (v:=.int .u8 (b.getD 0 0)) a8<|Pl 2<|cu 3 [31] 34 (((decide (128≤(b.getD 0 0)))&&(dir==1))) (fun K a9=>?_) ?_
 refine bl 31 ((decide (128≤(b.getD 0 0)))) (fun y=>?_) (fun y=>?_)
 have ca:=of_decide_eq_true y
 exact Pl 3<|ce a9 (dir==1) (by rw[y];rfl)
 have ca:=of_decide_eq_false y
 exact Pl 3<|ce a9 false (by rw[y];rfl)
 refine Pl 1<|nt<|cb (((decide (128≤(b.getD 0 0)))&&(dir==1))) (fun i=>?_) (fun i=>?_)
 have aa:=(aS i).1
 have ab:=(aS i).2
 have dr:=of_decide_eq_true aa
 have ds:=al ab
 refine sg<|Pl 1<|L0<|Oc<|e2 (p2 s (by omega)) fun cc dt z ac=>Pl 2<|?_
 have ad:=ub ac a
 refine L0<|b6 (hz:=(by rw[z.size];exact aO)) (hv:=z.size) (h1:=z.one) ad (cc) fun du cd af=>Pl 1<|nt<|rt<|br<|tr<|eg 22 z.size cd (.int .i64 (((eF b)).2))<|?_
 have hs:dB dir b=(eF b):=by
   unfold dB
   (try simp only[d,e,g,i,aa,ab,bs,if_true,if_false,decide_true,decide_false,iR,reduceIte])
   all_goals rfl
 refine gI hs ?_
 exact⟨_,rfl,(aW.upd z af (am (aQ ad (by decide)) aG)),(ud f (uz ac af) h)⟩
 refine sk<|bn<|tn<|sg<|Pl 1<|L0<|jO b.length 0 a7 (by omega)<|L0<|e8 (p:=⟨a5,a6+0,none⟩) (v:=.int .u8 (b.getD 0 0)) a8<|?_
 rcases gw (b.getD 0 0) with⟨hk,hkf⟩|⟨hk,hkf⟩|⟨hk,hkf⟩|⟨hk,hkf⟩|⟨hk,hkf⟩|⟨hk,hkf⟩
 have ah:=eJ (x:=(b.getD 0 0)) (w:=t)
 rw[hkf] at ah
 refine L0<|Oc<|m1 ah fun dv aj=>Pl 3<|L0<|bI #[.nilFunc,.nilFunc] fun cf dw an cg ch=>L0<|b6 cg #[.func (.func 138) #[] #[],.func (.func 139) #[] #[]] fun dx ci cj=>Pl 1<|nt<|sq<|sg<|Pl 2<|nt<|c0<|?_
 refine bq<|sq<|?_
 have ao:=aI aj (ud ch cj an)
 have aq:=b7.old s ao
 refine fA (b7.at_ aq 0 (by omega)) fun ck cl ar av dy=>Rg 13 (fun w'=>w'.cell? ⟨cf,0,none⟩=some (.func (.func 138) #[] #[])∧w'.cell? ⟨ck,cl+0,none⟩=some (.int .u8 (b.getD 0 0))) fun dz M=>?_
 have aw:=ub M ci
 refine bh ⟨(ag aw rfl),(uc M av)⟩ fun j=>Rt 0 j<|Rl 1 j (fun _ hs=>hs.1)<|Rt 2 j<|Rt 3 j<|oh 4 j b.length 0 0 rfl ar (by omega)<|Rl 5 j (fun _ hs=>hs.2)<|Rt 6 j<|lh (dC (P:=Tryz.prog) 22 5 1 Tryz.underlying22 rfl rfl A b.length cp 1 (by omega)) fun ax hrun108 cm=>Rr 7 j (.slice ax (b.length-1) (cp-1)) (fun _ _=>dK (kl:=.i64) (k:=((1:Nat) : Int)) (A:=A) (n:=b.length) (c:=cp) rfl Tryz.underlying22 (by kernel_rfl) (by kernel_rfl) (hrun108 _ _))<|?_
 refine R0 8 rfl<|g7 #[] #[] (args:=#[.int .i64 dir,.int .u8 (b.getD 0 0),.slice ax (b.length-1) (cp-1)])<|e2 (iO (dir:=dir) (c:=(b.getD 0 0)) (b8 (by omega)) (cm _ _ _ _ _ (b7.old aq M)) (by(try simp only[List.length_drop]);omega)) fun cn dA B S=>?_
 have ay:=ub S aw
 have T:=aI M S
 refine bh ⟨(ag ay rfl),(uc T av)⟩ fun az=>Rt 9 az<|Rt 10 az<|?_
 have aA:=aI ao T
 have aB:=ub aA a
 refine R0 11 rfl<|b6 (hz:=(by rw[B.size];exact aO)) (hv:=B.size) (h1:=B.one) aB (cn) fun dD co C=>?_
 have dE:=uz T C
 have dG:=uz S C
 have aC:=ud f (uz aA C) h
 refine bh ⟨(ag (aT C (Ne.symm (nb (ak a) aj.size an)) ay) rfl),(cB (b7.old hsl aC) ar 0 (by omega))⟩ fun cq=>Rt 12 cq<|re<|tn<|rt<|eg 22 B.size co (.int .i64 (((ae aD dir (b.getD 0 0) (b.drop 1))).2))<|?_
 have hs:dB dir b=(ae aD dir (b.getD 0 0) (b.drop 1)):=by
   unfold dB
   (try simp only[d,e,g,i,bs,if_true,if_false,decide_true,decide_false,hkf,iR,reduceIte])
   all_goals rfl
 refine gI hs ?_
 exact⟨_,rfl,(aW.upd B C (am (aQ aB (by decide)) aG)),aC⟩
 have aE:=eJ (x:=(b.getD 0 0)) (w:=t)
 rw[hkf] at aE
 refine L0<|Oc<|m1 aE fun dH aF=>Pl 3<|L0<|bI #[.nilFunc,.nilFunc] fun cr dI aJ cs ct=>L0<|b6 cs #[.func (.func 140) #[] #[],.func (.func 141) #[] #[]] fun dJ cv cw=>Pl 1<|nt<|sq<|sg<|Pl 2<|nt<|c0<|?_
 refine bq<|sq<|?_
 have aK:=aI aF (ud ct cw aJ)
 have aL:=b7.old s aK
 refine fA (b7.at_ aL 0 (by omega)) fun cx cy aN aR dL=>Rg 13 (fun w'=>w'.cell? ⟨cr,0,none⟩=some (.func (.func 140) #[] #[])∧w'.cell? ⟨cx,cy+0,none⟩=some (.int .u8 (b.getD 0 0))) fun dM N=>?_
 have aU:=ub N cv
 refine bh ⟨(ag aU rfl),(uc N aR)⟩ fun l=>Rt 0 l<|Rl 1 l (fun _ hs=>hs.1)<|Rt 2 l<|Rt 3 l<|oh 4 l b.length 0 0 rfl aN (by omega)<|Rl 5 l (fun _ hs=>hs.2)<|Rt 6 l<|lh (dC (P:=Tryz.prog) 22 5 1 Tryz.underlying22 rfl rfl A b.length cp 1 (by omega)) fun aV hrun188 cz=>Rr 7 l (.slice aV (b.length-1) (cp-1)) (fun _ _=>dK (kl:=.i64) (k:=((1:Nat) : Int)) (A:=A) (n:=b.length) (c:=cp) rfl Tryz.underlying22 (by kernel_rfl) (by kernel_rfl) (hrun188 _ _))<|?_
 refine R0 8 rfl<|g7 #[] #[] (args:=#[.int .i64 dir,.int .u8 (b.getD 0 0),.slice aV (b.length-1) (cp-1)])<|e2 (jg (dir:=dir) (c:=(b.getD 0 0)) (b8 (by omega)) (cz _ _ _ _ _ (b7.old aL N)) (by(try simp only[List.length_drop]);omega)) fun cA dN D U=>?_
 have aX:=ub U aU
 have V:=aI N U
 refine bh ⟨(ag aX rfl),(uc V aR)⟩ fun aZ=>Rt 9 aZ<|Rt 10 aZ<|?_
 have b0:=aI aK V
 have b1:=ub b0 a
 refine R0 11 rfl<|b6 (hz:=(by rw[D.size];exact aO)) (hv:=D.size) (h1:=D.one) b1 (cA) fun dO cD E=>?_
 have dP:=uz V E
 have dQ:=uz U E
 have b2:=ud f (uz b0 E) h
 refine bh ⟨(ag (aT E (Ne.symm (nb (ak a) aF.size aJ)) aX) rfl),(cB (b7.old hsl b2) aN 0 (by omega))⟩ fun cE=>Rt 12 cE<|re<|tn<|rt<|eg 22 D.size cD (.int .i64 (((ae aH dir (b.getD 0 0) (b.drop 1))).2))<|?_
 have hs:dB dir b=(ae aH dir (b.getD 0 0) (b.drop 1)):=by
   unfold dB
   (try simp only[d,e,g,i,bs,if_true,if_false,decide_true,decide_false,hkf,iR,reduceIte])
   all_goals rfl
 refine gI hs ?_
 exact⟨_,rfl,(aW.upd D E (am (aQ b1 (by decide)) aG)),b2⟩
 have b3:=eJ (x:=(b.getD 0 0)) (w:=t)
 rw[hkf] at b3
 refine L0<|Oc<|m1 b3 fun dR b4=>Pl 3<|L0<|bI #[.nilFunc,.nilFunc] fun cF dS b5 cG cH=>L0<|b6 cG #[.func (.func 142) #[] #[],.func (.func 143) #[] #[]] fun dT cI cJ=>Pl 1<|nt<|sq<|sg<|Pl 2<|nt<|c0<|?_
 refine bq<|sq<|?_
 have b9:=aI b4 (ud cH cJ b5)
 have ba:=b7.old s b9
 refine fA (b7.at_ ba 0 (by omega)) fun cK cL bb bc dU=>Rg 13 (fun w'=>w'.cell? ⟨cF,0,none⟩=some (.func (.func 142) #[] #[])∧w'.cell? ⟨cK,cL+0,none⟩=some (.int .u8 (b.getD 0 0))) fun dV O=>?_
 have bd:=ub O cI
 refine bh ⟨(ag bd rfl),(uc O bc)⟩ fun o=>Rt 0 o<|Rl 1 o (fun _ hs=>hs.1)<|Rt 2 o<|Rt 3 o<|oh 4 o b.length 0 0 rfl bb (by omega)<|Rl 5 o (fun _ hs=>hs.2)<|Rt 6 o<|lh (dC (P:=Tryz.prog) 22 5 1 Tryz.underlying22 rfl rfl A b.length cp 1 (by omega)) fun be hrun268 cM=>Rr 7 o (.slice be (b.length-1) (cp-1)) (fun _ _=>dK (kl:=.i64) (k:=((1:Nat) : Int)) (A:=A) (n:=b.length) (c:=cp) rfl Tryz.underlying22 (by kernel_rfl) (by kernel_rfl) (hrun268 _ _))<|?_
 refine R0 8 rfl<|g7 #[] #[] (args:=#[.int .i64 dir,.int .u8 (b.getD 0 0),.slice be (b.length-1) (cp-1)])<|e2 (js (dir:=dir) (c:=(b.getD 0 0)) (b8 (by omega)) (cM _ _ _ _ _ (b7.old ba O)) (by(try simp only[List.length_drop]);omega)) fun cN dW F W=>?_
 have bf:=ub W bd
 have X:=aI O W
 refine bh ⟨(ag bf rfl),(uc X bc)⟩ fun bg=>Rt 9 bg<|Rt 10 bg<|?_
 have bi:=aI b9 X
 have bj:=ub bi a
 refine R0 11 rfl<|b6 (hz:=(by rw[F.size];exact aO)) (hv:=F.size) (h1:=F.one) bj (cN) fun dX cO G=>?_
 have dY:=uz X G
 have dZ:=uz W G
 have bm:=ud f (uz bi G) h
 refine bh ⟨(ag (aT G (Ne.symm (nb (ak a) b4.size b5)) bf) rfl),(cB (b7.old hsl bm) bb 0 (by omega))⟩ fun cP=>Rt 12 cP<|re<|tn<|rt<|eg 22 F.size cO (.int .i64 (((ae aM dir (b.getD 0 0) (b.drop 1))).2))<|?_
 have hs:dB dir b=(ae aM dir (b.getD 0 0) (b.drop 1)):=by
   unfold dB
   (try simp only[d,e,g,i,bs,if_true,if_false,decide_true,decide_false,hkf,iR,reduceIte])
   all_goals rfl
 refine gI hs ?_
 exact⟨_,rfl,(aW.upd F G (am (aQ bj (by decide)) aG)),bm⟩
 have bo:=eJ (x:=(b.getD 0 0)) (w:=t)
 rw[hkf] at bo
 refine L0<|Oc<|m1 bo fun e0 bp=>Pl 3<|L0<|bI #[.nilFunc,.nilFunc] fun cQ e1 bt cR cS=>L0<|b6 cR #[.func (.func 144) #[] #[],.func (.func 145) #[] #[]] fun e3 cT cU=>Pl 1<|nt<|sq<|sg<|Pl 2<|nt<|c0<|?_
 refine bq<|sq<|?_
 have bu:=aI bp (ud cS cU bt)
 have bv:=b7.old s bu
 refine fA (b7.at_ bv 0 (by omega)) fun cV cW bw bx e4=>Rg 13 (fun w'=>w'.cell? ⟨cQ,0,none⟩=some (.func (.func 144) #[] #[])∧w'.cell? ⟨cV,cW+0,none⟩=some (.int .u8 (b.getD 0 0))) fun e5 Q=>?_
 have bz:=ub Q cT
 refine bh ⟨(ag bz rfl),(uc Q bx)⟩ fun q=>Rt 0 q<|Rl 1 q (fun _ hs=>hs.1)<|Rt 2 q<|Rt 3 q<|oh 4 q b.length 0 0 rfl bw (by omega)<|Rl 5 q (fun _ hs=>hs.2)<|Rt 6 q<|lh (dC (P:=Tryz.prog) 22 5 1 Tryz.underlying22 rfl rfl A b.length cp 1 (by omega)) fun bA hrun348 cX=>Rr 7 q (.slice bA (b.length-1) (cp-1)) (fun _ _=>dK (kl:=.i64) (k:=((1:Nat) : Int)) (A:=A) (n:=b.length) (c:=cp) rfl Tryz.underlying22 (by kernel_rfl) (by kernel_rfl) (hrun348 _ _))<|?_
 refine R0 8 rfl<|g7 #[] #[] (args:=#[.int .i64 dir,.int .u8 (b.getD 0 0),.slice bA (b.length-1) (cp-1)])<|e2 (iH (dir:=dir) (c:=(b.getD 0 0)) (b8 (by omega)) (cX _ _ _ _ _ (b7.old bv Q)) (by(try simp only[List.length_drop]);omega)) fun cY e6 H Y=>?_
 have bB:=ub Y bz
 have Z:=aI Q Y
 refine bh ⟨(ag bB rfl),(uc Z bx)⟩ fun bC=>Rt 9 bC<|Rt 10 bC<|?_
 have bD:=aI bu Z
 have bG:=ub bD a
 refine R0 11 rfl<|b6 (hz:=(by rw[H.size];exact aO)) (hv:=H.size) (h1:=H.one) bG (cY) fun e7 cZ I=>?_
 have e9:=uz Z I
 have ea:=uz Y I
 have bH:=ud f (uz bD I) h
 refine bh ⟨(ag (aT I (Ne.symm (nb (ak a) bp.size bt)) bB) rfl),(cB (b7.old hsl bH) bw 0 (by omega))⟩ fun d0=>Rt 12 d0<|re<|tn<|rt<|eg 22 H.size cZ (.int .i64 (((ae aY dir (b.getD 0 0) (b.drop 1))).2))<|?_
 have hs:dB dir b=(ae aY dir (b.getD 0 0) (b.drop 1)):=by
   unfold dB
   (try simp only[d,e,g,i,bs,if_true,if_false,decide_true,decide_false,hkf,iR,reduceIte])
   all_goals rfl
 refine gI hs ?_
 exact⟨_,rfl,(aW.upd H I (am (aQ bG (by decide)) aG)),bH⟩
 have bJ:=eJ (x:=(b.getD 0 0)) (w:=t)
 rw[hkf] at bJ
 refine L0<|Oc<|m1 bJ fun eb bK=>Pl 3<|L0<|bI #[.nilFunc,.nilFunc] fun d1 ec bL d2 d3=>L0<|b6 d2 #[.func (.func 146) #[] #[],.func (.func 147) #[] #[]] fun ed d4 d5=>Pl 1<|nt<|sq<|sg<|Pl 2<|nt<|c0<|?_
 refine bq<|sq<|?_
 have bM:=aI bK (ud d3 d5 bL)
 have bN:=b7.old s bM
 refine fA (b7.at_ bN 0 (by omega)) fun d6 d7 bO bP ee=>Rg 13 (fun w'=>w'.cell? ⟨d1,0,none⟩=some (.func (.func 146) #[] #[])∧w'.cell? ⟨d6,d7+0,none⟩=some (.int .u8 (b.getD 0 0))) fun ef R=>?_
 have bQ:=ub R d4
 refine bh ⟨(ag bQ rfl),(uc R bP)⟩ fun r=>Rt 0 r<|Rl 1 r (fun _ hs=>hs.1)<|Rt 2 r<|Rt 3 r<|oh 4 r b.length 0 0 rfl bO (by omega)<|Rl 5 r (fun _ hs=>hs.2)<|Rt 6 r<|lh (dC (P:=Tryz.prog) 22 5 1 Tryz.underlying22 rfl rfl A b.length cp 1 (by omega)) fun bR hrun428 d8=>Rr 7 r (.slice bR (b.length-1) (cp-1)) (fun _ _=>dK (kl:=.i64) (k:=((1:Nat) : Int)) (A:=A) (n:=b.length) (c:=cp) rfl Tryz.underlying22 (by kernel_rfl) (by kernel_rfl) (hrun428 _ _))<|?_
 refine R0 8 rfl<|g7 #[] #[] (args:=#[.int .i64 dir,.int .u8 (b.getD 0 0),.slice bR (b.length-1) (cp-1)])<|e2 (kZ (dir:=dir) (c:=(b.getD 0 0)) (b8 (by omega)) (d8 _ _ _ _ _ (b7.old bN R)) (by(try simp only[List.length_drop]);omega)) fun d9 eh J a0=>?_
 have bS:=ub a0 bQ
 have a1:=aI R a0
 refine bh ⟨(ag bS rfl),(uc a1 bP)⟩ fun bT=>Rt 9 bT<|Rt 10 bT<|?_
 have bU:=aI bM a1
 have bV:=ub bU a
 refine R0 11 rfl<|b6 (hz:=(by rw[J.size];exact aO)) (hv:=J.size) (h1:=J.one) bV (d9) fun ei da L=>?_
 have ej:=uz a1 L
 have ek:=uz a0 L
 have bW:=ud f (uz bU L) h
 refine bh ⟨(ag (aT L (Ne.symm (nb (ak a) bK.size bL)) bS) rfl),(cB (b7.old hsl bW) bO 0 (by omega))⟩ fun db=>Rt 12 db<|re<|tn<|rt<|eg 22 J.size da (.int .i64 (((ae bE dir (b.getD 0 0) (b.drop 1))).2))<|?_
 have hs:dB dir b=(ae bE dir (b.getD 0 0) (b.drop 1)):=by
   unfold dB
   (try simp only[d,e,g,i,bs,if_true,if_false,decide_true,decide_false,hkf,iR,reduceIte])
   all_goals rfl
 refine gI hs ?_
 exact⟨_,rfl,(aW.upd J L (am (aQ bV (by decide)) aG)),bW⟩
 have bX:=eJ (x:=(b.getD 0 0)) (w:=t)
 rw[hkf] at bX
 refine L0<|Oc<|m1 bX fun el dc=>Pl 3<|L0<|bI #[.nilFunc,.nilFunc] fun em eo dd de df=>L0<|b6 de #[.nilFunc,.nilFunc] fun ep eq dg=>Pl 1<|nt<|sq<|sg<|Pl 2<|nt<|c1<|?_
 refine sg<|Pl 1<|?_
 have bY:=aI dc (ud df dg dd)
 refine L0<|b6 (ub bY a) mZ fun er dh di=>Pl 1<|nt<|rt<|tr<|bF dh (.int .i64 4)<|?_
 have hs:dB dir b=(aP.zero,4):=by
   unfold dB
   (try simp only[d,e,g,i,bs,if_true,if_false,decide_true,decide_false,hkf,iR,reduceIte])
   all_goals rfl
 refine gI hs ?_
 exact cC (ud f (uz bY di) h)
theorem pi{m:Md}{v:Value}{b:List Int}{w:World}{dir:Int}(h:b7 m w v b)(hb:b.length≤1048576) : Calls Tryz.prog 24 #[.int .i64 dir,v] w (dF (dB dir b) w):=by
  obtain⟨A,cp,rfl,_,_⟩:=h.shape
  exact np h hb
end Go.Proofs.YtogbnemojakcpaaGreat
namespace Go.Proofs.YtogbnemojakcpaaGreat
def N1 (C:ah) : Prop:=C.e≠1
theorem N1.need{C:ah}{b:Bool}{x:Int}(hx:x≠1)(h:N1 C) : N1 (C.need b x):=by
  unfold N1 ah.need at *
  split
  · exact hx
  · exact h
theorem N1.bytesC{C:ah}{n:Int}(h:N1 C) : N1 (C.bytesC n):=by
  unfold ah.bytesC
  split
  · exact N1.need (by decide) h
  · exact h
theorem N1.wordsC{C:ah}{n:Int}(h:N1 C) : N1 (C.wordsC n):=by
  unfold ah.wordsC
  split<;>exact N1.bytesC h
theorem N1.recs{one:Int→ah→Int × ah × di}(ho:∀ s C,N1 C→N1 (one s C).2.1) : ∀ (n:Nat)(s:Int)(C:ah)(L:List di),N1 C→N1 (aN one n s C L).1
  | 0,_,_,_,h=>h
  | n+1,s,C,L,h=>by
    unfold aN
    split
    · split
      · exact ho s C h
      · exact N1.recs ho n _ _ _ (ho s C h)
    · exact h
theorem N1.endC{C:ah}(h:N1 C) : N1 C.endC:=by
  unfold ah.endC
  exact N1.need (by decide) h
end Go.Proofs.YtogbnemojakcpaaGreat
namespace Go.Proofs.YtogbnemojakcpaaGreat
end Go.Proofs.YtogbnemojakcpaaGreat
namespace Go.Proofs.YtogbnemojakcpaaGreat
open Go.RowKit
theorem oX{w w':World}(h:aE [] w w') : Below w.heap.size w w':=⟨h.os,h.tape,h.output,h.size,fun k hk=>h.block k hk (by simp)⟩
theorem p5{n:Int}(h:(Lit.int .u8 n).wf=true) : 0≤n∧n<256:=by
  have:=bounds_u8 h
  omega
open Go.RowKit
structure SL where
  aw:Option Addr
  kw:Nat
  ab:Option Addr
  kb:Nat
  ad:Option Addr
  kd:Nat
  ar:Option Addr
  kr:Nat
  ao:Option Addr
  ko:Nat
def se (M:aP)(x:SL) : Array Value:=mG M.code M.fail M.addr M.count M.value M.and_ M.or_ M.addr2 M.sub M.status M.events M.messages (.slice x.aw M.words.length x.kw) (.slice x.ab M.bits.length x.kb) (.slice x.ad M.data.length x.kd) (.slice x.ar M.recs.length x.kr) M.mei M.kind M.level M.more M.next (.slice x.ao M.objects.length x.ko)
theorem rW{m:Md}{w:World}{cs:Array Value}{M:aP}(h:aW m w cs.toList M) : ∃ x,cs=se M x:=by
  obtain⟨vw,vb,vd,vr,vo,h0,hw,hb,hd,hr,ho,hR⟩:=h
  obtain⟨aw,kw,rfl,_,_⟩:=hw.shape
  obtain⟨ab,kb,rfl,_,_⟩:=hb.shape
  obtain⟨ad,kd,rfl,_,_⟩:=hd.shape
  obtain⟨ar,kr,rfl,_,_⟩:=hr.shape
  obtain⟨ao,ko,rfl,_,_⟩:=ho.shape
  refine⟨⟨aw,kw,ab,kb,ad,kd,ar,kr,ao,ko⟩,?_⟩
  apply Array.toList_inj.1
  rw[h0]
  rfl
open Go.RowKit
def lB:aP:={ aP.zero with code:=7 }
theorem uY(w:World) : aW true w (mC 7).toList lB:=⟨fc,fc,fc,fc,fc,rfl,aK.nil ..,aK.nil ..,aK.nil ..,aK.nil ..,aK.nil ..,{ eE.zero with code:=(by decide:(0:Int)≤7∧(7:Int)<256) }⟩
theorem uD:cY lB:=⟨by decide,by decide,by decide,by decide,(fun r h=>nomatch h),by decide,(fun r h=>nomatch h)⟩
open Go.RowKit
structure gZ where
  unit:Int
  tid:Int
  msg:aP
def gZ.zero:gZ:=⟨0,0,aP.zero⟩
def vn (m:Md)(w:World)(cs:Array Value)(F:gZ) : Prop:=∃ c:Array Value,cs = #[.int .u8 F.unit,.int .u16 F.tid]++c∧aW m w c.toList F.msg∧B8 F.unit∧dy F.tid
def qP (res:gZ × Int)(w:World)(e:Ending)(w':World) : Prop:=∃ cs,e = .returned (.tuple #[.agg cs,.int .i64 res.2])∧vn true w' cs res.1∧aE [] w w'
theorem kH{x y:gZ × Int}(h:x=y){w:World}{e:Ending}{w':World}(k:qP y w e w') : qP x w e w':=by rw[h];exact k
def vu:Array Value:=#[.int .u8 0,.int .u16 0,.int .u8 0,.int .u8 0,.int .u16 0,.int .u16 0,.int .u16 0,.int .u16 0,.int .u16 0,.int .u16 0,.int .u16 0,.int .u16 0,.int .u16 0,.int .u16 0,.slice none 0 0,.slice none 0 0,.slice none 0 0,.slice none 0 0,.int .u8 0,.int .u8 0,.int .u8 0,.int .u8 0,.int .u8 0,.slice none 0 0]
theorem i7{x:Int}{w W:World}(hu:aE [] w W) : qP (gZ.zero,x) w (.returned (.tuple #[.agg vu,.int .i64 x])) W:=⟨_,rfl,⟨ku,(by kernel_rfl),aW.zero ..,(show(0:Int)≤0∧(0:Int)<256 from by decide),(show(0:Int)≤0∧(0:Int)<65536 from by decide)⟩,hu⟩
def fC (u t:Int) : aP × Int→gZ × Int
  | (M,E)=>if E != 0 then (gZ.zero,E) else (⟨u,t,M⟩,0)
theorem s8{dir:Int}{M:aP}{l:List Int}(h:dk dir M=some l) : l.length≤253:=by
  unfold dk at h
  split at h
  · split at h
    · cases h
    · unfold jU at h
      split at h
      · cases h
      · split at h
        · cases h
        · injection h with h
          subst h
          simp only[List.length_cons,List.length_nil]
          omega
  · split at h
    · cases h
    · split at h
      · cases h
      · rename_i hl
        injection h with h
        subst h
        simp only[decide_eq_true_eq] at hl
        simp only[List.length_append,List.length_cons,List.length_nil]
        omega
open Go.RowKit
deriving instance DecidableEq for gZ
def tW (u t:Int)(M:aP)(x:SL) : Array Value:=#[.int .u8 u,.int .u16 t,.int .u8 M.code,.int .u8 M.fail,.int .u16 M.addr,.int .u16 M.count,.int .u16 M.value,.int .u16 M.and_,.int .u16 M.or_,.int .u16 M.addr2,.int .u16 M.sub,.int .u16 M.status,.int .u16 M.events,.int .u16 M.messages,.slice x.aw M.words.length x.kw,.slice x.ab M.bits.length x.kb,.slice x.ad M.data.length x.kd,.slice x.ar M.recs.length x.kr,.int .u8 M.mei,.int .u8 M.kind,.int .u8 M.level,.int .u8 M.more,.int .u8 M.next,.slice x.ao M.objects.length x.ko]
theorem tZ(u t:Int)(M:aP)(x:SL) : tW u t M x = #[.int .u8 u,.int .u16 t]++se M x:=by kernel_rfl
end Go.Proofs.YtogbnemojakcpaaGreat
namespace Go.Proofs.YtogbnemojakcpaaGreat
def hH (x:Nat) : Nat:=(x/2) ^^^ (x%2*40961)
def eG:Nat→Nat→Nat
  | 0,x=>x
  | k+1,x=>hH (eG k x)
def ss (i:Nat) : Nat:=eG 8 i
theorem tt{x:Nat}(h:x<65536) : hH x<65536:=by
  unfold hH
  exact Nat.xor_lt_two_pow (n:=16) (by omega) (by omega)
theorem gr{x:Nat}(h:x<65536) : ∀ k,eG k x<65536
  | 0=>h
  | k+1=>tt (gr h k)
theorem ox{i:Nat}(h:i<256) : ss i<65536:=gr (by omega) 8
def oS (s c:Nat) : Nat:=(s/256) ^^^ ss ((s%256) ^^^ c)
theorem oR{a b:Nat}(ha:a<256)(hb:b<256) : a ^^^ b<256:=Nat.xor_lt_two_pow (n:=8) ha hb
theorem jq{a b:Nat}(ha:a<65536)(hb:b<65536) : a ^^^ b<65536:=Nat.xor_lt_two_pow (n:=16) ha hb
theorem qX{s c:Nat}(hs:s<65536)(hc:c<256) : oS s c<65536:=jq (by omega) (ox (oR (by omega) hc))
def xi (a b:Int) : Int:=((a.toNat ^^^ b.toNat:Nat) : Int)
theorem wK{a b:Int}(ha:0≤a∧a<256)(hb:0≤b∧b<256) : 0≤xi a b∧xi a b<256:=by
  have:=oR (a:=a.toNat) (b:=b.toNat) (by omega) (by omega)
  unfold xi
  omega
theorem uU{a b:Int}(ha:0≤a∧a<65536)(hb:0≤b∧b<65536) : 0≤xi a b∧xi a b<65536:=by
  have:=jq (a:=a.toNat) (b:=b.toNat) (by omega) (by omega)
  unfold xi
  omega
theorem sn(n:Nat) : xi (((n:Nat) : Int)/2) ((((n:Nat) : Int)%2)*40961%65536)=((hH n:Nat) : Int):=by
  unfold xi hH
  rw[show(((n:Nat) : Int)/2).toNat=n/2 from by omega,show((((n:Nat) : Int)%2)*40961%65536).toNat=n%2*40961 from by omega]
def iV (i:Int) : Int:=((ss i.toNat:Nat) : Int)
theorem mj{i:Int}(h:0≤i∧i<256) : 0≤iV i∧iV i<65536:=by
  have:=ox (i:=i.toNat) (by omega)
  unfold iV
  omega
def nu (s c:Int) : Int:=xi (s/256) (iV (xi (s%256) c))
theorem ma{s c:Int}(hs:0≤s∧s<65536)(hc:0≤c∧c<256) : nu s c=((oS s.toNat c.toNat:Nat) : Int):=by
  unfold nu iV xi oS
  rw[show(s/256).toNat=s.toNat/256 from by omega,show(s%256).toNat=s.toNat%256 from by omega]
  simp only[Int.toNat_natCast]
theorem n8{s c:Int}(hs:0≤s∧s<65536)(hc:0≤c∧c<256) : 0≤nu s c∧nu s c<65536:=by
  have:=qX (s:=s.toNat) (c:=c.toNat) (by omega) (by omega)
  rw[ma hs hc]
  omega
def cG (s:Int)(b:List Int) : Int:=b.foldl nu s
theorem gh:∀ (b:List Int){s:Int},(0≤s∧s<65536)→(∀ x,x∈b→0≤x∧x<256)→0≤cG s b∧cG s b<65536
  | [],s,hs,_=>hs
  | c :: b,s,hs,hb=>gh b (n8 hs (hb c (List.mem_cons_self ..))) fun x hx=>hb x (List.mem_cons_of_mem _ hx)
theorem s7(s:Int)(a b:List Int) : cG s (a++b)=cG (cG s a) b:=by unfold cG;rw[List.foldl_append]
def cn (s:Int) : List Int:=[s%256,s/256%256]
theorem gH(s:Int) : (cn s).length=2:=rfl
def dt (b:List Int) : Bool:=decide (2≤b.length)&&decide (cn (cG 65535 (b.take (b.length-2)))=b.drop (b.length-2))
open Go.RowKit
def vG (P:Program)(ty:TypeId) : Option (Nat × TypeId):=match P.underlying ty with | some (.array m e)=>some (m,e) | _=>none
theorem s4{P:Program}{ty e:TypeId}{m:Nat}(h:vG P ty=some (m,e)) : P.underlying ty=some (.array m e):=by
  unfold vG at h
  split at h
  · injection h with h
    injection h with h1 h2
    subst h1 h2
    assumption
  · cases h
theorem qm{P:Program}{w:World}{ev:Operand→Value}{o:Oper}{t e:TypeId}{x ix:Operand}{b off j m:Nat}{k:IntKind}{i:Int}(ho:o.op = .indexAddr t x ix)(ht:P.underlying t=some (.array m e))(hi:(P.info? e).map (·.size)=some 1)
    (hx:ev x = .pointer (some ⟨b,off,none⟩)) (hix:ev ix = .int k i) (hj:i=j) (hlt:j<m) : (execOp ev o).run P w = .ok (.value (.pointer (some ⟨b,off+j,none⟩))) w:=by
  subst hj
  obtain⟨i0,hi0,hs⟩:=Option.map_eq_some_iff.1 hi
  unfold execOp
  have h2:(0:Int)≤(j:Int)∧(j:Int)<(m:Int):=by omega
  simp[ho,hx,hix,Instr.indexAt,Instr.sureAddr,asIntOf,run_underlying ht,Result.andThen,h2,sizeOf,typeInfo,hi0,hs,gM,hlt]
section
variable {P:Program}{n:Nat}{D:List Deferred}{F:Fr}{w:World}{K:Fr→World→Prop}{Q:Exit→Act→World→Prop}{d:Option Tmp}{t:TypeId}{s:String}{af:Array Edge}{gu:Option (Nat × Bool)}
theorem wB{ty:TypeId}{x ix:Operand}{b off:Nat}(m j:Nat)(i:Int)(hj:i=j)(hlt:j<m)(h:K (pt d (.pointer (some ⟨b,off+j,none⟩)) F) w)
    (hx:eQ F x=some (.pointer (some ⟨b,off,none⟩)):=by kernel_rfl) (hi:tp F ix=some i:=by kernel_rfl) (hs:((vG P ty).bind fun p=>(P.info? p.2).map fun q=>(p.1,q.size),fX n d)=(some (m,1),true):=by kernel_rfl) : OG P ⟨d,.indexAddr ty x ix,t,s,af,gu⟩ n D F w K Q:=by
  simp only[Prod.mk.injEq] at hs
  obtain⟨hs,hd⟩:=hs
  obtain⟨k,hi⟩:=jv hi
  cases he:vG P ty with
  | none=>rw[he] at hs;simp at hs
  | some p =>
    obtain⟨m',e⟩:=p
    rw[he] at hs
    obtain⟨q,hq,h3⟩:=Option.map_eq_some_iff.1 (show(P.info? e).map (fun q=>(m',q.size))=some (m,1) from hs)
    injection h3 with h4 h5
    subst h4
    exact⟨fun a ha K' hK=>fO _ rfl (qm rfl (s4 he) (by rw[hq];simp[h5]) (ha.ev hx) (ha.ev hi) hj hlt) (hK _ _ _ h (ha.put hd))⟩
end
theorem uW{a b:Int}(ha:0≤a∧a<256)(hb:0≤b∧b<256) : bits .xor .u8 a b=xi a b:=u8_xor a b ha.1 ha.2 hb.1 hb.2
theorem lA{a b:Int}(ha:0≤a∧a<65536)(hb:0≤b∧b<65536) : bits .xor .u16 a b=xi a b:=u16_xor a b ha.1 ha.2 hb.1 hb.2
theorem qJ{a:Int}(ha:0≤a∧a<65536) : bits .and .u16 a 1=a%2:=by
  rw[u16_and a 1 ha.1 ha.2 (by omega) (by omega)]
  show((a.toNat &&& 1:Nat) : Int)=_
  rw[Nat.and_one_is_mod]
  omega
def ga (k:Nat) : Array Value:=((List.range 256).map fun i=>if i<k then Value.int .u16 (iV i) else Value.int .u16 0).toArray
theorem dP(k:Nat) : (ga k).size=256:=by simp[ga]
theorem mg(k:Nat) : (ga k).all (·.oneCell')=true:=by
  unfold ga
  rw[List.all_toArray,List.all_eq_true]
  intro v hv
  rw[List.mem_map] at hv
  obtain⟨i,_,rfl⟩:=hv
  split<;>rfl
theorem rh{i k:Nat}(hk:k=8)(hi:i<256) : (ga i).setIfInBounds i (.int .u16 ((eG k i:Nat) : Int))=ga (i+1):=by
  subst hk
  unfold ga
  rw[List.setIfInBounds_toArray]
  congr 1
  apply List.ext_getElem?
  intro j
  rw[List.getElem?_set]
  by_cases hj:j<256
  · by_cases hij:i=j
    · subst hij
      simp[hi,iV,ss]
    · simp[hij,hj]
      congr 1
      simp only[eq_iff_iff]
      omega
  · rw[if_neg (by omega)]
    simp[hj]
theorem sW{i:Nat}(h:i<256) : (ga 256)[i]? = some (.int .u16 (iV i)):=by simp[ga,h]
def dE (s:Int)(b:List Int) : Nat→Int
  | 0=>s
  | k+1=>nu (dE s b k) (b.getD k 0)
theorem kT(s:Int)(b:List Int) : ∀ k,k≤b.length→dE s b k=cG s (b.take k)
  | 0,_=>by simp[dE,cG]
  | k+1,h=>by
    rw[List.take_succ_eq_append_getElem (by omega),s7,← kT s b k (by omega)]
    show nu _ (b.getD k 0)=_
    rw[List.getD_eq_getElem?_getD,List.getElem?_eq_getElem (by omega)]
    rfl
theorem mV{s:Int}{b:List Int}{k:Nat}(h:k=b.length) : dE s b k=cG s b:=by
  subst h
  rw[kT _ _ _ (Nat.le_refl _),List.take_length]
theorem i2{s:Int}{b:List Int}(hs:0≤s∧s<65536)(hb:∀ x,x∈b→0≤x∧x<256) : ∀ k,0≤dE s b k∧dE s b k<65536
  | 0=>hs
  | k+1=>n8 (i2 hs hb k) (ge (by omega) hb k)
theorem rB{i:Int}(h:0≤i) : iV ((i.toNat:Nat) : Int)=iV i:=by rw[Int.toNat_of_nonneg h]
open Go.RowKit
theorem tH{P:Program}(t e:TypeId)(sz:Nat){i:TypeInfo}(ht:P.underlying t=some (.slice e))(hi:P.info? e=some i)(hsz:i.size=sz)(A:Option Addr)(n c:Nat){k:Int}(h:Nat)(hk:k=(h:Int))(hh:h≤n)(hc:n≤c) :
    ∃ A':Option Addr,(∀ (kh:IntKind) (W:World),(Instr.slice t (.slice A n c) none (some (.int kh k)) none).run P W = .ok (.slice A' h c) W) ∧
      ∀ {α:Type} (m:Md) (e':TypeId) (R:World→α→List Value→Prop) (w:World) (xs:List α),aK m e' sz R w (.slice A n c) xs→aK m e' sz R w (.slice A' h c) (xs.take h):=by
  subst hk
  obtain⟨A',h1,h2⟩:=s0 (P:=P) t e sz ht hi hsz A n c 0 h (Nat.zero_le _) hh hc
  refine⟨A',fun kh W=>?_,fun m e' R w xs hr=>by simpa using h2 m e' R w xs hr⟩
  have h3:=h1 .i64 kh W
  have hel:P.elem t=e:=by simp[Program.elem,ht]
  have hu:P.underlying t=some (.slice (P.elem t)):=by rw[hel];exact ht
  rw[run_slice_h W t A n c hu kh (h:Int) (Int.natCast_nonneg _) (by omega)]
  rw[run_slice_lh W t A n c hu .i64 kh (((0:Nat) : Int)) (h:Int) (Int.natCast_nonneg _) (by omega) (by omega)] at h3
  simpa using h3
theorem n9{o:Oper}{ev:Operand→Value}{P:Program}{w:World}{t:TypeId}{x y:Operand}{A:Option Addr}{n c:Nat}{kl:IntKind}{k:Int}{v:Value}{e:TypeId}(ho:o.op = .slice t x none (some y) none)(ht:P.underlying t=some (.slice e))(hx:ev x = .slice A n c)(hy:ev y = .int kl k)
    (hr:(Instr.slice t (.slice A n c) none (some (.int kl k)) none).run P w = .ok v w) : (execOp ev o).run P w = .ok (.value v) w:=by
  have hu:(underlying t).run P w = .ok (.slice e) w:=run_underlying ht w
  unfold execOp
  simp only[ho,Option.map_some,Option.map_none,hx,hy,Instr.sliceAt,Sem.run_bind,hu,hr,Result.andThen,Sem.run_pure]
theorem gx{P:Program}(t e:TypeId)(sz:Nat){i:TypeInfo}(ht:P.underlying t=some (.slice e))(hi:P.info? e=some i)(hsz:i.size=sz)(A:Option Addr)(n c:Nat){lo up:Int}(k h:Nat)(hlo:lo=(k:Int))(hup:up=(h:Int))(hk:k≤h)(hh:h≤n)(hc:n≤c) :
    ∃ A':Option Addr,(∀ (kl kh:IntKind) (W:World),(Instr.slice t (.slice A n c) (some (.int kl lo)) (some (.int kh up)) none).run P W = .ok (.slice A' (h-k) (c-k)) W) ∧
      ∀ {α:Type} (m:Md) (e':TypeId) (R:World→α→List Value→Prop) (w:World) (xs:List α),aK m e' sz R w (.slice A n c) xs→aK m e' sz R w (.slice A' (h-k) (c-k)) ((xs.take h).drop k):=by
  subst hlo hup
  exact s0 t e sz ht hi hsz A n c k h hk hh hc
theorem eT{o:Oper}{ev:Operand→Value}{P:Program}{w:World}{t:TypeId}{x y z:Operand}{A:Option Addr}{n c:Nat}{kl kh:IntKind}{lo hi:Int}{v:Value}{e:TypeId}(ho:o.op = .slice t x (some y) (some z) none)(ht:P.underlying t=some (.slice e))(hx:ev x = .slice A n c)(hy:ev y = .int kl lo)(hz:ev z = .int kh hi)
    (hr:(Instr.slice t (.slice A n c) (some (.int kl lo)) (some (.int kh hi)) none).run P w = .ok v w) : (execOp ev o).run P w = .ok (.value v) w:=by
  have hu:(underlying t).run P w = .ok (.slice e) w:=run_underlying ht w
  unfold execOp
  simp only[ho,Option.map_some,Option.map_none,hx,hy,hz,Instr.sliceAt,Sem.run_bind,hu,hr,Result.andThen,Sem.run_pure]
theorem oV{P:Program}(t e:TypeId)(sz:Nat){i:TypeInfo}(ht:P.underlying t=some (.slice e))(hi:P.info? e=some i)(hsz:i.size=sz)(A:Option Addr)(n c:Nat){lo:Int}(k:Nat)(hlo:lo=(k:Int))(hk:k≤n) :
    ∃ A':Option Addr,(∀ (kl:IntKind) (W:World),(Instr.slice t (.slice A n c) (some (.int kl lo)) none none).run P W = .ok (.slice A' (n-k) (c-k)) W) ∧
      ∀ {α:Type} (m:Md) (e':TypeId) (R:World→α→List Value→Prop) (w:World) (xs:List α),aK m e' sz R w (.slice A n c) xs→aK m e' sz R w (.slice A' (n-k) (c-k)) (xs.drop k):=by
  subst hlo
  exact dC t e sz ht hi hsz A n c k hk
open Go.RowKit
theorem ld{w:World}:Calls Tryz.prog 228 #[] w (cT (.agg (ga 256)) w):=by
 refine en 23 Tryz.func228 rfl<|sg<|L0<|bI (ga 0) fun c G o p q=>ng<|L0<|bI (ga 0) fun a r s t u=>nt<|sq<|sg<|?_
 refine Pl 1<|nt<|bk<|?_
 refine iu (fun x=>[(0,.pointer (some ⟨c,0,none⟩)),(1,.pointer (some ⟨a,0,none⟩)),(4,.int .i64 ((x:Nat) : Int))]) (fun(x:Nat) w'=>aE [a] r w'∧w'.heap[a]? = some (.cells (ga x) 233 (0,0))∧(x≤256)) (fun x=>256-x) 0 ⟨aE.refl _ _,t,(by(try dsimp only);omega)⟩ ?_
 rintro i g ⟨h,v,y⟩
 refine iv [(0,.pointer (some ⟨c,0,none⟩)),(1,.pointer (some ⟨a,0,none⟩)),(4,.int .i64 ((i:Nat) : Int))] ?_
 have j:g.heap[a]? = some (.cells (ga i) 233 (0,0)):=v
 have H:i≤256:=y
 refine sg<|Pl 1<|nt<|sq<|?_
 have l:=ud u h s
 have m:=aI q l
 refine cb ((decide (((i:Nat) : Int)<256))) (fun e=>?_) (fun e=>?_)
 have z:=of_decide_eq_true e
 refine bq<|sq<|bk<|sg<|Pl 2<|ng<|Pl 1<|L0<|Oe (.int .u16 (IntKind.u16.wrap ((i:Nat) : Int))) (.int .u16 ((eG 0 i:Nat) : Int)) (congrArg (Value.int .u16) (ij (x:=((i:Nat) : Int)) (by omega)))<|Pl 1<|nl<|?_
 refine tn<|sq<|sg<|Pl 1<|nt<|bk<|?_
 refine iu (fun x=>[(0,.pointer (some ⟨c,0,none⟩)),(1,.pointer (some ⟨a,0,none⟩)),(2,.int .i64 ((i:Nat) : Int)),(3,.int .u16 ((eG x i:Nat) : Int)),(4,.int .i64 ((i:Nat) : Int)),(5,.bool (decide (((i:Nat) : Int)<256))),(6,.int .i64 ((i:Nat) : Int)),(7,.int .i64 ((i:Nat) : Int)),(8,.int .u16 ((eG 0 i:Nat) : Int)),(9,.int .i64 ((x:Nat) : Int))]) (fun(x:Nat) w'=>aE [] g w'∧(x≤8)) (fun x=>8-x) 0 ⟨aE.refl _ _,(by(try dsimp only);omega)⟩ ?_
 rintro k I ⟨d,A⟩
 refine iv [(0,.pointer (some ⟨c,0,none⟩)),(1,.pointer (some ⟨a,0,none⟩)),(2,.int .i64 ((i:Nat) : Int)),(3,.int .u16 ((eG k i:Nat) : Int)),(4,.int .i64 ((i:Nat) : Int)),(5,.bool (decide (((i:Nat) : Int)<256))),(6,.int .i64 ((i:Nat) : Int)),(7,.int .i64 ((i:Nat) : Int)),(8,.int .u16 ((eG 0 i:Nat) : Int)),(9,.int .i64 ((k:Nat) : Int))] ?_
 have J:k≤8:=A
 have K:=gr (x:=i) (by omega) k
 refine sg<|Pl 1<|nt<|sq<|?_
 have L:=aI m d
 refine cb ((decide (((k:Nat) : Int)<8))) (fun f=>?_) (fun f=>?_)
 have B:=of_decide_eq_true f
 refine bq<|sq<|bk<|go<|Pl 1<|L0<|Oe (.int .u16 (Int.fdiv ((eG k i:Nat) : Int) (2 ^ 1))) (.int .u16 (((eG k i:Nat) : Int)/2)) (congrArg (Value.int .u16) (lL _ _ _ (by decide)))<|Pl 1<|L0<|Oe (.int .u16 (bits .and .u16 ((eG k i:Nat) : Int) 1)) (.int .u16 (((eG k i:Nat) : Int)%2)) (congrArg (Value.int .u16) (qJ (by omega)))<|Pl 1<|L0<|Oe (.int .u16 (bits .xor .u16 (((eG k i:Nat) : Int)/2) (((((eG k i:Nat) : Int)%2)*40961)%65536))) (.int .u16 ((eG (k+1) i:Nat) : Int)) (congrArg (Value.int .u16) ((lA (by omega) (by omega)).trans (sn _)))<|Pl 1<|nl<|bn<|?_
 exact tn<|go<|L0<|Oi (((k:Nat) : Int)+1)<|Pl 1<|nl<|fU (k+1) ⟨d,(by(try dsimp only);omega)⟩ (by omega)
 have B:=of_decide_eq_false f
 refine xt<|tx<|tx<|bx<|tn<|go<|Pl 2<|L0<|wB (b:=a) (off:=0) 256 i ((i:Nat) : Int) rfl (by omega)<|?_
 refine L0<|bS (hl:=(by rw[dP];simp;omega)) (ub d j) (0+i) ((ga i).setIfInBounds (0+i) (.int .u16 ((eG k i:Nat) : Int))) fun M C D=>?_
 have n:=C
 rw[Nat.zero_add,rh (by omega) (by omega)] at n
 refine nl<|bn<|tn<|go<|L0<|Oi (((i:Nat) : Int)+1)<|Pl 1<|nl<|?_
 exact fU (i+1) ⟨(u1 h (uz d D) im),n,(by(try dsimp only);omega)⟩ (by omega)
 have z:=of_decide_eq_false e
 refine xt<|tx<|tx<|bx<|tn<|sg<|L0<|ch (hz:=(by rw[dP];kernel_rfl)) j<|?_
 refine L0<|b6 (hz:=(by rw[dP];kernel_rfl)) (hv:=(by rw[dP,dP])) (h1:=(mg _)) (ub l p) ((ga i)) fun N E F=>nt<|rt<|wn 256 (dP _) E<|?_
 have hi:i=256:=by omega
 subst hi
 exact⟨rfl,(ud m F o)⟩
theorem lu{m:Md}{A:Option Addr}{cp:Nat}{b:List Int}{w:World}{s:Int}(hsl:b7 m w (.slice A b.length cp) b)(hs:0≤s∧s<65536) :
    Calls Tryz.prog 180 #[.int .u16 s,.slice A b.length cp] w (cT (.int .u16 (cG s b)) w):=by
 have hln:=aK.len hsl
 have hb:=b7.range hsl
 refine en 26 Tryz.func180 rfl<|sg<|Pl 1<|ng<|L0<|Oc<|m1 (@ld w) fun D g=>L0<|bI (ga 0) fun c E h j l=>L0<|b6 (hz:=(by rw[dP];kernel_rfl)) (hv:=(by rw[dP,dP])) (h1:=(mg _)) j ((ga 256)) fun n o q=>nt<|sq<|?_
 refine sg<|Pl 3<|nt<|bk<|?_
 refine iu (fun x=>[(0,.int .u16 (dE s b x)),(4,.int .u16 0),(5,.pointer (some ⟨c,0,none⟩)),(9,.slice A b.length cp),(10,.int .i64 ((b.length:Nat) : Int)),(11,.int .i64 ((x:Nat) : Int))]) (fun(x:Nat) w'=>aE [] n w'∧(x≤b.length)∧(0≤dE s b x∧dE s b x<65536)) (fun x=>b.length-x) 0 ⟨aE.refl _ _,(by(try dsimp only);omega),hs⟩ ?_
 rintro k F ⟨d,r,t⟩
 refine iv [(0,.int .u16 (dE s b k)),(4,.int .u16 0),(5,.pointer (some ⟨c,0,none⟩)),(9,.slice A b.length cp),(10,.int .i64 ((b.length:Nat) : Int)),(11,.int .i64 ((k:Nat) : Int))] ?_
 have G:k≤b.length:=r
 have H:0≤dE s b k∧dE s b k<65536:=t
 refine sg<|Pl 1<|nt<|sq<|?_
 have f:=aI g (ud l (aI q d) h)
 refine cb ((decide (((k:Nat) : Int)<((b.length:Nat) : Int)))) (fun e=>?_) (fun e=>?_)
 have u:=of_decide_eq_true e
 refine bq<|sq<|bk<|sg<|?_
 refine fA (b7.at_ (b7.old hsl f) k (by omega)) fun y z B C I=>L0<|jO b.length k B (by omega)<|L0<|e8 (p:=⟨y,z+k,none⟩) (v:=.int .u8 (b.getD k 0)) C<|Pl 1<|nt<|go<|Pl 1<|L0<|Oe (.int .u16 (Int.fdiv (dE s b k) (2 ^ 8))) (.int .u16 ((dE s b k)/256)) (congrArg (Value.int .u16) (lL _ _ _ (by decide)))<|Pl 3<|?_
 have J:=wK (a:=((dE s b k)%256)) (b:=(b.getD k 0)) (by omega) (by omega)
 refine L0<|Oe (.int .u8 (bits .xor .u8 ((dE s b k)%256) (b.getD k 0))) (.int .u8 (xi ((dE s b k)%256) (b.getD k 0))) (congrArg (Value.int .u8) (uW (by omega) (by omega)))<|L0<|wB (b:=c) (off:=0) 256 (((xi ((dE s b k)%256) (b.getD k 0))).toNat) (xi ((dE s b k)%256) (b.getD k 0)) (by omega) (by omega)<|?_
 have K:=mj (i:=(xi ((dE s b k)%256) (b.getD k 0))) (by omega)
 exact L0<|e8 (p:=⟨c,0+((xi ((dE s b k)%256) (b.getD k 0))).toNat,none⟩) (v:=.int .u16 (iV ((xi ((dE s b k)%256) (b.getD k 0))))) (ag (ub d o) (by rw[Nat.zero_add,sW (by omega),rB (by omega)]))<|L0<|Oe (.int .u16 (bits .xor .u16 ((dE s b k)/256) (iV (xi ((dE s b k)%256) (b.getD k 0))))) (.int .u16 (dE s b (k+1))) (congrArg (Value.int .u16) (lA (by omega) (mj (by omega))))<|Pl 1<|nl<|bn<|tn<|go<|L0<|Oi (((k:Nat) : Int)+1)<|Pl 1<|nl<|fU (k+1) ⟨d,(by(try dsimp only);omega),(i2 hs hb _)⟩ (by omega)
 have u:=of_decide_eq_false e
 refine xt<|tx<|tx<|bx<|tn<|sg<|Pl 2<|nt<|rt<|rr (.int .u16 (dE s b k))<|?_
 have hk:dE s b k=cG s b:=mV (by omega)
 rw[hk]
 exact⟨rfl,f⟩
theorem mu{m:Md}{v:Value}{b:List Int}{w:World}(h:b7 m w v b) : Calls Tryz.prog 180 #[.int .u16 65535,v] w (cT (.int .u16 (cG 65535 b)) w):=by
  obtain⟨A,cp,rfl,_,_⟩:=h.shape
  exact lu h (by decide)
theorem nZ{m:Md}{A:Option Addr}{cp:Nat}{b:List Int}{w:World}(hsl:b7 m w (.slice A b.length cp) b) :
    Calls Tryz.prog 119 #[.slice A b.length cp] w (cT (.int .u16 (cG 65535 b)) w):=by
 refine en 5 Tryz.func119 rfl<|sg<|Pl 1<|ng<|Pl 1<|L0<|Oc<|m1 (mu hsl) fun c a=>Pl 1<|nt<|rt<|?_
 refine rr (.int .u16 (cG 65535 b))<|?_
 exact⟨rfl,a⟩
theorem iy{m:Md}{v:Value}{b:List Int}{w:World}(h:b7 m w v b) : Calls Tryz.prog 119 #[v] w (cT (.int .u16 (cG 65535 b)) w):=by
  obtain⟨A,cp,rfl,_,_⟩:=h.shape
  exact nZ h
theorem fZ{w:World}{s:Int}(hs:0≤s∧s<65536) : Calls Tryz.prog 118 #[.int .u16 s] w (fun e w'=>∃ v,e = .returned v∧fo w.heap.size w' v (cn s)∧aE [] w w'):=by
 refine en 9 Tryz.func118 rfl<|sg<|Pl 1<|ng<|Pl 3<|L0<|Oe (.int .u16 (Int.fdiv s (2 ^ 8))) (.int .u16 (s/256)) (congrArg (Value.int .u16) (lL _ _ _ (by decide)))<|Pl 1<|L0<|dA (m:=2) (e:=5) #[.int .u8 (s%256),.int .u8 ((s/256)%256)] fun a g b c d=>?_
 have f:=dT b (xs:=[(s%256),((s/256)%256)]) (by as_aux_lemma=>kernel_rfl) (az (by omega) (az (by omega) aZ)) (by(try simp only[List.length_cons,List.length_nil]);omega) c
 refine Pl 1<|nt<|rt<|rr (.slice (some ⟨a,0,none⟩) 2 2)<|?_
 exact⟨_,rfl,f,d⟩
theorem iZ{b:List Int}{n:Nat}(h:2≤b.length)(hn:n=b.length-2) : dt b=decide (cn (cG 65535 (b.take n))=b.drop n):=by
  subst hn
  unfold dt
  simp[h]
theorem tk{b:List Int}(h:b.length<2) : dt b=false:=by
  unfold dt
  simp
  omega
theorem oe{m:Md}{A:Option Addr}{cp:Nat}{b:List Int}{w:World}(hsl:b7 m w (.slice A b.length cp) b)(hb:b.length≤1048576)(hcp:b.length≤cp) :
    Calls Tryz.prog 116 #[.slice A b.length cp] w (cT (.bool (dt b)) w):=by
 have hc:=aK.len hsl
 refine en 22 Tryz.func116 rfl<|sg<|Pl 1<|ng<|Pl 2<|L0<|Oi (((b.length:Nat) : Int)-2)<|Pl 1<|nt<|sq<|?_
 refine Rg 16 (fun w'=>True) fun R f=>bh trivial fun d=>Rt 0 d<|Rt 1 d<|Rt 2 d<|pa 9 ((decide (0≤(((b.length:Nat) : Int)-2)))) (fun p=>?_) (fun p=>?_)
 have I:=of_decide_eq_true p
 refine Rt 3 d<|Rt 4 d<|lh (tH (P:=Tryz.prog) 22 5 1 Tryz.underlying22 rfl rfl A b.length cp (k:=(((b.length:Nat) : Int)-2)) (((((b.length:Nat) : Int)-2)).toNat) (by omega) (by omega) (by omega)) fun q hrun60 i=>Rr 5 d (.slice q (((((b.length:Nat) : Int)-2)).toNat) cp) (fun _ _=>n9 (kl:=.i64) (k:=(((b.length:Nat) : Int)-2)) (A:=A) (n:=b.length) (c:=cp) rfl Tryz.underlying22 (by kernel_rfl) (by kernel_rfl) (hrun60 _ _))<|Rt 9 d<|Rt 10 d<|lh (oV (P:=Tryz.prog) 22 5 1 Tryz.underlying22 rfl rfl A b.length cp (lo:=(((b.length:Nat) : Int)-2)) (((((b.length:Nat) : Int)-2)).toNat) (by omega) (by omega)) fun g hrun63 e=>Rr 11 d (.slice g (b.length-(((((b.length:Nat) : Int)-2)).toNat)) (cp-(((((b.length:Nat) : Int)-2)).toNat))) (fun _ _=>dK (kl:=.i64) (k:=(((b.length:Nat) : Int)-2)) (A:=A) (n:=b.length) (c:=cp) rfl Tryz.underlying22 (by kernel_rfl) (by kernel_rfl) (hrun63 _ _))<|?_
 refine R2 6 12 rfl rfl ?_ ?_
 have h:=b7.old hsl f
 refine  Oc (args:=#[.slice q (((((b.length:Nat) : Int)-2)).toNat) cp])<|m1 (iy (i _ _ _ _ _ h)) fun S j=>?_
 have T:=gh (b.take (((((b.length:Nat) : Int)-2)).toNat)) (s:=65535) (by decide) (b7.range (i _ _ _ _ _ h))
 refine bh trivial fun U=>?_
 refine R2 7 12 rfl rfl ?_ ?_
 refine  Oc<|ea (fZ (s:=(cG 65535 (b.take (((((b.length:Nat) : Int)-2)).toNat)))) (by omega)) fun x y V l W X z=>bh trivial fun Y=>?_
 refine R2 8 12 rfl rfl ?_ ?_
 refine  ie (.string (strOfNums (cn (cG 65535 (b.take (((((b.length:Nat) : Int)-2)).toNat)))))) (cP (A:=x) (n:=(cn (cG 65535 (b.take (((((b.length:Nat) : Int)-2)).toNat)))).length) (c:=y) rfl (by kernel_rfl) Tryz.underlying22 Tryz.underlying5 Tryz.underlying9 (l).rd)<|bh trivial fun Z=>?_
 have B:=aI j z
 have C:=b7.old h B
 refine R0 12 rfl<|ie (.string (strOfNums (b.drop (((((b.length:Nat) : Int)-2)).toNat)))) (cP (A:=g) (n:=(b.length-(((((b.length:Nat) : Int)-2)).toNat))) (c:=(cp-(((((b.length:Nat) : Int)-2)).toNat))) rfl (by kernel_rfl) Tryz.underlying22 Tryz.underlying5 Tryz.underlying9 (e _ _ _ _ _ C))<|bh trivial fun r=>Rr 13 r (.bool (decide ((cn (cG 65535 (b.take (((((b.length:Nat) : Int)-2)).toNat))))=(b.drop (((((b.length:Nat) : Int)-2)).toNat))))) (fun _ _=>fa (a:=(strOfNums (cn (cG 65535 (b.take (((((b.length:Nat) : Int)-2)).toNat)))))) (b:=(strOfNums (b.drop (((((b.length:Nat) : Int)-2)).toNat)))) rfl (by kernel_rfl) (by kernel_rfl) (gO (l).rd (e _ _ _ _ _ C)))<|Rt 14 r<|Rt 15 r<|re<|tn<|rt<|rr (.bool (decide ((cn (cG 65535 (b.take (((((b.length:Nat) : Int)-2)).toNat))))=(b.drop (((((b.length:Nat) : Int)-2)).toNat)))))<|?_
 have hs:dt b=(decide ((cn (cG 65535 (b.take (((((b.length:Nat) : Int)-2)).toNat))))=(b.drop (((((b.length:Nat) : Int)-2)).toNat)))):=(iZ (by omega) (by omega))
 rw[hs]
 exact⟨rfl,(aI f B)⟩
 have D:=aI j z
 have E:=b7.old h D
 refine  ie (.string (strOfNums (b.drop (((((b.length:Nat) : Int)-2)).toNat)))) (cP (A:=g) (n:=(b.length-(((((b.length:Nat) : Int)-2)).toNat))) (c:=(cp-(((((b.length:Nat) : Int)-2)).toNat))) rfl (by kernel_rfl) Tryz.underlying22 Tryz.underlying5 Tryz.underlying9 (e _ _ _ _ _ E))<|bh trivial fun a0=>R0 8 rfl<|ie (.string (strOfNums (cn (cG 65535 (b.take (((((b.length:Nat) : Int)-2)).toNat)))))) (cP (A:=x) (n:=(cn (cG 65535 (b.take (((((b.length:Nat) : Int)-2)).toNat)))).length) (c:=y) rfl (by kernel_rfl) Tryz.underlying22 Tryz.underlying5 Tryz.underlying9 (l).rd)<|bh trivial fun t=>Rr 13 t (.bool (decide ((cn (cG 65535 (b.take (((((b.length:Nat) : Int)-2)).toNat))))=(b.drop (((((b.length:Nat) : Int)-2)).toNat))))) (fun _ _=>fa (a:=(strOfNums (cn (cG 65535 (b.take (((((b.length:Nat) : Int)-2)).toNat)))))) (b:=(strOfNums (b.drop (((((b.length:Nat) : Int)-2)).toNat)))) rfl (by kernel_rfl) (by kernel_rfl) (gO (l).rd (e _ _ _ _ _ E)))<|Rt 14 t<|Rt 15 t<|re<|tn<|rt<|rr (.bool (decide ((cn (cG 65535 (b.take (((((b.length:Nat) : Int)-2)).toNat))))=(b.drop (((((b.length:Nat) : Int)-2)).toNat)))))<|?_
 have hs:dt b=(decide ((cn (cG 65535 (b.take (((((b.length:Nat) : Int)-2)).toNat))))=(b.drop (((((b.length:Nat) : Int)-2)).toNat)))):=(iZ (by omega) (by omega))
 rw[hs]
 exact⟨rfl,(aI f D)⟩
 have F:=b7.old h j
 refine  ie (.string (strOfNums (b.drop (((((b.length:Nat) : Int)-2)).toNat)))) (cP (A:=g) (n:=(b.length-(((((b.length:Nat) : Int)-2)).toNat))) (c:=(cp-(((((b.length:Nat) : Int)-2)).toNat))) rfl (by kernel_rfl) Tryz.underlying22 Tryz.underlying5 Tryz.underlying9 (e _ _ _ _ _ F))<|bh trivial fun a1=>R0 7 rfl<|Oc<|ea (fZ (s:=(cG 65535 (b.take (((((b.length:Nat) : Int)-2)).toNat)))) (by omega)) fun J K a2 G a3 a4 L=>bh trivial fun a5=>R0 8 rfl<|ie (.string (strOfNums (cn (cG 65535 (b.take (((((b.length:Nat) : Int)-2)).toNat)))))) (cP (A:=J) (n:=(cn (cG 65535 (b.take (((((b.length:Nat) : Int)-2)).toNat)))).length) (c:=K) rfl (by kernel_rfl) Tryz.underlying22 Tryz.underlying5 Tryz.underlying9 (G).rd)<|bh trivial fun u=>Rr 13 u (.bool (decide ((cn (cG 65535 (b.take (((((b.length:Nat) : Int)-2)).toNat))))=(b.drop (((((b.length:Nat) : Int)-2)).toNat))))) (fun _ _=>fa (a:=(strOfNums (cn (cG 65535 (b.take (((((b.length:Nat) : Int)-2)).toNat)))))) (b:=(strOfNums (b.drop (((((b.length:Nat) : Int)-2)).toNat)))) rfl (by kernel_rfl) (by kernel_rfl) (gO (G).rd (e _ _ _ _ _ F)))<|Rt 14 u<|Rt 15 u<|re<|tn<|rt<|rr (.bool (decide ((cn (cG 65535 (b.take (((((b.length:Nat) : Int)-2)).toNat))))=(b.drop (((((b.length:Nat) : Int)-2)).toNat)))))<|?_
 have hs:dt b=(decide ((cn (cG 65535 (b.take (((((b.length:Nat) : Int)-2)).toNat))))=(b.drop (((((b.length:Nat) : Int)-2)).toNat)))):=(iZ (by omega) (by omega))
 rw[hs]
 exact⟨rfl,(aI f (aI j L))⟩
 have o:=b7.old hsl f
 refine  ie (.string (strOfNums (b.drop (((((b.length:Nat) : Int)-2)).toNat)))) (cP (A:=g) (n:=(b.length-(((((b.length:Nat) : Int)-2)).toNat))) (c:=(cp-(((((b.length:Nat) : Int)-2)).toNat))) rfl (by kernel_rfl) Tryz.underlying22 Tryz.underlying5 Tryz.underlying9 (e _ _ _ _ _ o))<|bh trivial fun a6=>R0 6 rfl<|Oc (args:=#[.slice q (((((b.length:Nat) : Int)-2)).toNat) cp])<|m1 (iy (i _ _ _ _ _ o)) fun a7 M=>?_
 have a8:=gh (b.take (((((b.length:Nat) : Int)-2)).toNat)) (s:=65535) (by decide) (b7.range (i _ _ _ _ _ o))
 refine bh trivial fun a9=>R0 7 rfl<|Oc<|ea (fZ (s:=(cG 65535 (b.take (((((b.length:Nat) : Int)-2)).toNat)))) (by omega)) fun N O aa H ab ac Q=>bh trivial fun ad=>R0 8 rfl<|ie (.string (strOfNums (cn (cG 65535 (b.take (((((b.length:Nat) : Int)-2)).toNat)))))) (cP (A:=N) (n:=(cn (cG 65535 (b.take (((((b.length:Nat) : Int)-2)).toNat)))).length) (c:=O) rfl (by kernel_rfl) Tryz.underlying22 Tryz.underlying5 Tryz.underlying9 (H).rd)<|bh trivial fun v=>Rr 13 v (.bool (decide ((cn (cG 65535 (b.take (((((b.length:Nat) : Int)-2)).toNat))))=(b.drop (((((b.length:Nat) : Int)-2)).toNat))))) (fun _ _=>fa (a:=(strOfNums (cn (cG 65535 (b.take (((((b.length:Nat) : Int)-2)).toNat)))))) (b:=(strOfNums (b.drop (((((b.length:Nat) : Int)-2)).toNat)))) rfl (by kernel_rfl) (by kernel_rfl) (gO (H).rd (e _ _ _ _ _ o)))<|Rt 14 v<|Rt 15 v<|re<|tn<|rt<|rr (.bool (decide ((cn (cG 65535 (b.take (((((b.length:Nat) : Int)-2)).toNat))))=(b.drop (((((b.length:Nat) : Int)-2)).toNat)))))<|?_
 have hs:dt b=(decide ((cn (cG 65535 (b.take (((((b.length:Nat) : Int)-2)).toNat))))=(b.drop (((((b.length:Nat) : Int)-2)).toNat)))):=(iZ (by omega) (by omega))
 rw[hs]
 exact⟨rfl,(aI f (aI M Q))⟩
 have I:=of_decide_eq_false p
 refine Ro 3 d<|Ro 4 d<|Ro 5 d<|Ro 6 d<|Ro 7 d<|Ro 8 d<|Ro 9 d<|Ro 10 d<|Ro 11 d<|Ro 12 d<|Ro 13 d<|Rt 14 d<|Rt 15 d<|re<|?_
 refine tn<|rt<|rr (.bool false)<|?_
 have hs:dt b=false:=(tk (by omega))
 rw[hs]
 exact⟨rfl,f⟩
theorem pI{m:Md}{v:Value}{b:List Int}{w:World}(h:b7 m w v b)(hb:b.length≤1048576) : Calls Tryz.prog 116 #[v] w (cT (.bool (dt b)) w):=by
  obtain⟨A,cp,rfl,hc,_⟩:=h.shape
  exact oe h hb hc
open Go.RowKit
def fR (b:List Int) : List Int:=(b.take (b.length-2)).drop 1
theorem fV(b:List Int) : fR b=(b.take (((b.length:Nat) : Int)-2).toNat).drop 1:=by
  unfold fR
  rw[show(((b.length:Nat) : Int)-2).toNat=b.length-2 from by omega]
def dU (dir:Int)(b:List Int) : gZ × Int :=
  if dir != 0&&dir != 1 then (gZ.zero,1)
  else if decide ((b.length:Int)<4) then (gZ.zero,2)
  else if decide (256<(b.length:Int)) then (gZ.zero,3)
  else if !(dt b) then (gZ.zero,10)
  else fC (b.getD 0 0) 0 (dB dir (fR b))
theorem nR{m:Md}{A:Option Addr}{cp:Nat}{b:List Int}{w:World}{dir:Int}(hsl:b7 m w (.slice A b.length cp) b)(hb:b.length≤1048576)(hcp:b.length≤cp) :
    Calls Tryz.prog 50 #[.int .i64 dir,.slice A b.length cp] w (qP (dU dir b) w):=by
 have hln:(b.length:Int)≤1048576:=by omega
 refine en 51 Tryz.func50 rfl<|sg<|L0<|bI #[.int .u8 0,.int .u16 0,.int .u8 0,.int .u8 0,.int .u16 0,.int .u16 0,.int .u16 0,.int .u16 0,.int .u16 0,.int .u16 0,.int .u16 0,.int .u16 0,.int .u16 0,.int .u16 0,.slice none 0 0,.slice none 0 0,.slice none 0 0,.slice none 0 0,.int .u8 0,.int .u8 0,.int .u8 0,.int .u8 0,.int .u8 0,.slice none 0 0] fun aX aY j e B=>Pl 1<|nt<|sq<|bk<|sg<|Pl 3<|cu 3 [11] 14 (((dir != 0)&&(dir != 1))) (fun K O=>?_) ?_
 refine bl 11 ((dir != 0)) (fun C=>?_) (fun C=>?_)
 have a7:=au C
 exact Pl 3<|ce O (dir != 1) (by rw[C];rfl)
 have a7:=ai C
 exact Pl 3<|ce O false (by rw[C];rfl)
 refine Pl 1<|nt<|cb (((dir != 0)&&(dir != 1))) (fun d=>?_) (fun d=>?_)
 have Q:=(aS d).1
 have R:=(aS d).2
 have aZ:=au Q
 have b0:=au R
 refine sg<|Pl 1<|L0<|b6 e #[.int .u8 0,.int .u16 0,.int .u8 0,.int .u8 0,.int .u16 0,.int .u16 0,.int .u16 0,.int .u16 0,.int .u16 0,.int .u16 0,.int .u16 0,.int .u16 0,.int .u16 0,.int .u16 0,.slice none 0 0,.slice none 0 0,.slice none 0 0,.slice none 0 0,.int .u8 0,.int .u8 0,.int .u8 0,.int .u8 0,.int .u8 0,.slice none 0 0] fun b1 a8 a9=>Pl 1<|nt<|rt<|br<|tr<|bF a8 (.int .i64 1)<|?_
 have hs:dU dir b=(gZ.zero,1):=by
   unfold dU
   (try simp only[d,Q,R,bs,if_true,if_false,decide_true,decide_false,fC,reduceIte])
   all_goals rfl
 refine kH hs ?_
 exact i7 (ud B a9 j)
 refine sg<|Pl 4<|nt<|cb ((decide (((b.length:Nat) : Int)<4))) (fun f=>?_) (fun f=>?_)
 have aa:=of_decide_eq_true f
 refine sg<|Pl 1<|L0<|b6 e #[.int .u8 0,.int .u16 0,.int .u8 0,.int .u8 0,.int .u16 0,.int .u16 0,.int .u16 0,.int .u16 0,.int .u16 0,.int .u16 0,.int .u16 0,.int .u16 0,.int .u16 0,.int .u16 0,.slice none 0 0,.slice none 0 0,.slice none 0 0,.slice none 0 0,.int .u8 0,.int .u8 0,.int .u8 0,.int .u8 0,.int .u8 0,.slice none 0 0] fun b2 ab ac=>Pl 1<|nt<|rt<|br<|tr<|bF ab (.int .i64 2)<|?_
 have hs:dU dir b=(gZ.zero,2):=by
   unfold dU
   (try simp only[d,f,bs,if_true,if_false,decide_true,decide_false,fC,reduceIte])
   all_goals rfl
 refine kH hs ?_
 exact i7 (ud B ac j)
 have aa:=of_decide_eq_false f
 refine sg<|Pl 4<|nt<|cb ((decide (256<((b.length:Nat) : Int)))) (fun h=>?_) (fun h=>?_)
 have ad:=of_decide_eq_true h
 refine sg<|Pl 1<|L0<|b6 e #[.int .u8 0,.int .u16 0,.int .u8 0,.int .u8 0,.int .u16 0,.int .u16 0,.int .u16 0,.int .u16 0,.int .u16 0,.int .u16 0,.int .u16 0,.int .u16 0,.int .u16 0,.int .u16 0,.slice none 0 0,.slice none 0 0,.slice none 0 0,.slice none 0 0,.int .u8 0,.int .u8 0,.int .u8 0,.int .u8 0,.int .u8 0,.slice none 0 0] fun b3 ae af=>Pl 1<|nt<|rt<|br<|tr<|bF ae (.int .i64 3)<|?_
 have hs:dU dir b=(gZ.zero,3):=by
   unfold dU
   (try simp only[d,f,h,bs,if_true,if_false,decide_true,decide_false,fC,reduceIte])
   all_goals rfl
 refine kH hs ?_
 exact i7 (ud B af j)
 have ad:=of_decide_eq_false h
 refine sg<|Pl 1<|?_
 have S:=b7.old hsl B
 refine L0<|Oc (args:=#[.slice A b.length cp])<|m1 (pI S (by omega)) fun ag i=>Pl 2<|nt<|?_
 have T:=aI B i
 refine cb ((!(dt b))) (fun k=>?_) (fun k=>?_)
 have G:(dt b)=false:=by simpa using k
 refine sg<|Pl 1<|?_
 refine L0<|b6 (ub i e) #[.int .u8 0,.int .u16 0,.int .u8 0,.int .u8 0,.int .u16 0,.int .u16 0,.int .u16 0,.int .u16 0,.int .u16 0,.int .u16 0,.int .u16 0,.int .u16 0,.int .u16 0,.int .u16 0,.slice none 0 0,.slice none 0 0,.slice none 0 0,.slice none 0 0,.int .u8 0,.int .u8 0,.int .u8 0,.int .u8 0,.int .u8 0,.slice none 0 0] fun b4 ah aj=>Pl 1<|nt<|rt<|br<|tr<|bF ah (.int .i64 10)<|?_
 have hs:dU dir b=(gZ.zero,10):=by
   unfold dU
   (try simp only[d,f,h,k,G,bs,if_true,if_false,decide_true,decide_false,fC,reduceIte])
   all_goals rfl
 refine kH hs ?_
 exact i7 (ud T aj j)
 have G:(dt b)=true:=by simpa using k
 refine sk<|bn<|tn<|sg<|Pl 4<|L0<|Oi (((b.length:Nat) : Int)-2)<|lh (gx (P:=Tryz.prog) 22 5 1 Tryz.underlying22 rfl rfl A b.length cp (lo:=1) (up:=(((b.length:Nat) : Int)-2)) 1 (((((b.length:Nat) : Int)-2)).toNat) (by omega) (by omega) (by omega) (by omega) (by omega)) fun al hrun43 an=>L0<|ie (.slice al ((((((b.length:Nat) : Int)-2)).toNat)-1) (cp-1)) (eT (kl:=.i64) (kh:=.i64) (lo:=1) (hi:=(((b.length:Nat) : Int)-2)) (A:=A) (n:=b.length) (c:=cp) rfl Tryz.underlying22 (by kernel_rfl) (by kernel_rfl) (by kernel_rfl) (hrun43 _ _ _))<|?_
 obtain⟨a,D,L⟩ : ∃ M E,dB dir ((b.take (((((b.length:Nat) : Int)-2)).toNat)).drop 1)=(M,E):=⟨_,_,rfl⟩
 have U:=b7.old S i
 have V:=pi (dir:=dir) (w:=ag) (an _ _ _ _ _ U) (by rw[List.length_drop,List.length_take];omega)
 rw[L] at V
 refine L0<|Oc<|e2 V fun ao b5 W N=>?_
 have ap:=W
 obtain⟨aq,ar,av,aw,ax,ay,az,aA,aC,aD,aE,b9⟩:=ap
 obtain rfl:ao=(bP a aq ar av aw ax).toArray:=by apply Array.toList_inj.1;simpa using ay
 obtain⟨l,o,rfl,_,_⟩:=az.shape
 obtain⟨p,q,rfl,_,_⟩:=aA.shape
 obtain⟨r,s,rfl,_,_⟩:=aC.shape
 obtain⟨t,u,rfl,_,_⟩:=aD.shape
 obtain⟨v,y,rfl,_,_⟩:=aE.shape
 refine Pl 3<|L0<|bI mZ fun X ba Y aF aH=>L0<|b6 aF (mG a.code a.fail a.addr a.count a.value a.and_ a.or_ a.addr2 a.sub a.status a.events a.messages (.slice l a.words.length o) (.slice p a.bits.length q) (.slice r a.data.length s) (.slice t a.recs.length u) a.mei a.kind a.level a.more a.next (.slice v a.objects.length y)) fun bb aJ aK=>Pl 1<|nt<|sq<|sg<|Pl 2<|nt<|?_
 have Z:=ud aH aK Y
 have H:=aI N Z
 have a0:=aI T H
 refine cb ((D != 0)) (fun F=>?_) (fun F=>?_)
 have aL:=au F
 refine sg<|Pl 2<|?_
 refine L0<|b6 (ub (aI i H) e) #[.int .u8 0,.int .u16 0,.int .u8 0,.int .u8 0,.int .u16 0,.int .u16 0,.int .u16 0,.int .u16 0,.int .u16 0,.int .u16 0,.int .u16 0,.int .u16 0,.int .u16 0,.int .u16 0,.slice none 0 0,.slice none 0 0,.slice none 0 0,.slice none 0 0,.int .u8 0,.int .u8 0,.int .u8 0,.int .u8 0,.int .u8 0,.slice none 0 0] fun bc aM aN=>Pl 1<|nt<|rt<|tr<|bF aM (.int .i64 D)<|?_
 have hX2:dB dir (fR b)=(a,D):=(congrArg (dB dir) (fV b)).trans L
 have hs:dU dir b=(gZ.zero,D):=by
   unfold dU
   (try simp only[d,f,h,k,G,F,bs,if_true,if_false,decide_true,decide_false,fC,hX2,reduceIte])
   all_goals rfl
 refine kH hs ?_
 exact i7 (ud a0 aN j)
 have aL:=ai F
 refine bq<|sq<|?_
 refine fA (b7.at_ (b7.old U H) 0 (by omega)) fun aO aP a1 aR bd=>Rg 8 (fun w'=>w'.cell? ⟨aO,aP+0,none⟩=some (.int .u8 (b.getD 0 0))∧w'.heap[X]? = some (.cells (mG a.code a.fail a.addr a.count a.value a.and_ a.or_ a.addr2 a.sub a.status a.events a.messages (.slice l a.words.length o) (.slice p a.bits.length q) (.slice r a.data.length s) (.slice t a.recs.length u) a.mei a.kind a.level a.more a.next (.slice v a.objects.length y)) 30 (0,0))) fun be I=>?_
 have a2:=ub I aJ
 refine bh ⟨(uc I aR),a2⟩ fun z=>Rt 0 z<|oh 1 z b.length 0 0 rfl a1 (by omega)<|Rl 2 z (fun _ hs=>hs.1)<|Rt 3 z<|Rr 4 z (.agg (mG a.code a.fail a.addr a.count a.value a.and_ a.or_ a.addr2 a.sub a.status a.events a.messages (.slice l a.words.length o) (.slice p a.bits.length q) (.slice r a.data.length s) (.slice t a.recs.length u) a.mei a.kind a.level a.more a.next (.slice v a.objects.length y))) (fun w' hs=>jj (g:=X) (off:=0) [.int .u8 a.code,.int .u8 a.fail,.int .u16 a.addr,.int .u16 a.count,.int .u16 a.value,.int .u16 a.and_,.int .u16 a.or_,.int .u16 a.addr2,.int .u16 a.sub,.int .u16 a.status,.int .u16 a.events,.int .u16 a.messages,.slice l a.words.length o,.slice p a.bits.length q,.slice r a.data.length s,.slice t a.recs.length u,.int .u8 a.mei,.int .u8 a.kind,.int .u8 a.level,.int .u8 a.more,.int .u8 a.next,.slice v a.objects.length y] rfl (by kernel_rfl) hs.2 (by kernel_rfl) (by kernel_rfl) rfl)<|Rt 5 z<|?_
 have a3:=aI H I
 have a4:=aI i a3
 refine R0 6 rfl<|b6 (ub a4 e) #[.int .u8 (b.getD 0 0),.int .u16 0,.int .u8 a.code,.int .u8 a.fail,.int .u16 a.addr,.int .u16 a.count,.int .u16 a.value,.int .u16 a.and_,.int .u16 a.or_,.int .u16 a.addr2,.int .u16 a.sub,.int .u16 a.status,.int .u16 a.events,.int .u16 a.messages,.slice l a.words.length o,.slice p a.bits.length q,.slice r a.data.length s,.slice t a.recs.length u,.int .u8 a.mei,.int .u8 a.kind,.int .u8 a.level,.int .u8 a.more,.int .u8 a.next,.slice v a.objects.length y] fun bf aU J=>?_
 have a5:=uz I J
 have bg:=uz a3 J
 have bi:=uz a4 J
 have a6:=ud a0 a5 j
 refine bh ⟨(cB (b7.old hsl a6) a1 0 (by omega)),(aT J (Ne.symm (nb (ak e) (le i.size N.size) Y)) a2)⟩ fun aV=>Rt 7 aV<|re<|tn<|rt<|bF aU (.int .i64 0)<|?_
 have hX2:dB dir (fR b)=(a,D):=(congrArg (dB dir) (fV b)).trans L
 have hs:dU dir b=(⟨(b.getD 0 0),0,a⟩,0):=by
   unfold dU
   (try simp only[d,f,h,k,G,F,bs,if_true,if_false,decide_true,decide_false,fC,hX2,reduceIte])
   all_goals rfl
 refine kH hs ?_
 exact⟨_,rfl,⟨#[.int .u8 a.code,.int .u8 a.fail,.int .u16 a.addr,.int .u16 a.count,.int .u16 a.value,.int .u16 a.and_,.int .u16 a.or_,.int .u16 a.addr2,.int .u16 a.sub,.int .u16 a.status,.int .u16 a.events,.int .u16 a.messages,.slice l a.words.length o,.slice p a.bits.length q,.slice r a.data.length s,.slice t a.recs.length u,.int .u8 a.mei,.int .u8 a.kind,.int .u8 a.level,.int .u8 a.more,.int .u8 a.next,.slice v a.objects.length y],(by as_aux_lemma=>kernel_rfl),(aW.upd W (uz Z a5) (am (aQ (ub (aI i N) e) (by decide)) aG)),b8 (x:=(b.getD 0 0)) (by omega),aB (x:=0) (by omega)⟩,a6⟩
theorem qa{m:Md}{v:Value}{b:List Int}{w:World}{dir:Int}(h:b7 m w v b)(hb:b.length≤1048576) : Calls Tryz.prog 50 #[.int .i64 dir,v] w (qP (dU dir b) w):=by
  obtain⟨A,cp,rfl,hc,_⟩:=h.shape
  exact nR h hb hc
open Go.RowKit
theorem mU(a b c d:Int)(w:World) : (Op.equalIn 10000 42 (.agg #[.int .u8 a,.int .u16 b]) (.agg #[.int .u8 c,.int .u16 d])).run Tryz.prog w = .ok ((a==c)&&(b==d)) w:=by
  have hS:Tryz.prog.underlying 42=some (.struct (Tryz.prog.fieldsOf 42)):=by kernel_rfl
  have hp:Tryz.prog.stoodInHeld 42=false:=by kernel_rfl
  rw[show(10000:Nat)=9998+1+1 from rfl,run_equalIn_agg w (9998+1) 42 _ _ hS hp]
  simp only[Program.fieldsOf,Tryz.underlying42]
  have p0:∀ v:Int,(part 5 #[.int .u8 v,.int .u16 b] 0).run Tryz.prog w = .ok (.int .u8 v) w:=fun v=>by simp[part,isAgg,run_underlying Tryz.underlying5,Result.andThen]
  have p0':∀ v:Int,(part 5 #[.int .u8 v,.int .u16 d] 0).run Tryz.prog w = .ok (.int .u8 v) w:=fun v=>by simp[part,isAgg,run_underlying Tryz.underlying5,Result.andThen]
  have p1:∀ v u:Int,(part 24 #[.int .u8 u,.int .u16 v] 1).run Tryz.prog w = .ok (.int .u16 v) w:=fun v u=>by simp[part,isAgg,run_underlying Tryz.underlying24,Result.andThen]
  have e0:=run_equalIn_int (P:=Tryz.prog) w 9998 5 .u8 _ a c Tryz.underlying5
  have e1:=run_equalIn_int (P:=Tryz.prog) w 9998 24 .u16 _ b d Tryz.underlying24
  simp only[Op.eqFields,Sem.run_bind,p0,p0',p1,e0,e1,Result.andThen_ok,ne_eq,String.reduceEq,not_false_eq_true,if_true,Sem.run_ite]
  cases (a==c)<;>cases (b==d)<;>simp
theorem nH{ev:Operand→Value}{o:Oper}{x y:Operand}{t:TypeId}(a b c d:Int){v:Bool}{w:World}(ho:o.op = .binOp .eql 42 x y t)
    (hx:ev x = .agg #[.int .u8 a,.int .u16 b]) (hy:ev y = .agg #[.int .u8 c,.int .u16 d]) (hv:((a==c)&&(b==d))=v) : (execOp ev o).run Tryz.prog w = .ok (.value (.bool v)) w:=by
  subst hv
  have hg:(eqGuard .eql 42 x y (.agg #[.int .u8 a,.int .u16 b]) (.agg #[.int .u8 c,.int .u16 d])).run Tryz.prog w = .ok () w:=run_eqGuard_agg w _ _ _ _ _ _ (by kernel_rfl)
  unfold execOp
  simp only[ho,hx,hy,Sem.run_bind,hg,Result.andThen_ok,run_eql_struct,mU,Sem.run_pure]
theorem ol{ev:Operand→Value}{o:Oper}{x y:Operand}{t:TypeId}(a b c d:Int){v:Bool}{w:World}(ho:o.op = .binOp .neq 42 x y t)
    (hx:ev x = .agg #[.int .u8 a,.int .u16 b]) (hy:ev y = .agg #[.int .u8 c,.int .u16 d]) (hv:(!((a==c)&&(b==d)))=v) : (execOp ev o).run Tryz.prog w = .ok (.value (.bool v)) w:=by
  subst hv
  have hg:(eqGuard .neq 42 x y (.agg #[.int .u8 a,.int .u16 b]) (.agg #[.int .u8 c,.int .u16 d])).run Tryz.prog w = .ok () w:=run_eqGuard_agg w _ _ _ _ _ _ (by kernel_rfl)
  unfold execOp
  simp only[ho,hx,hy,Sem.run_bind,hg,Result.andThen_ok,run_neq_struct,mU,Sem.run_pure]
open Go.RowKit
def wh (u:Int)(l:List Int) : List Int:=([u]++l)++cn (cG 65535 ([u]++l))
def mK (dir u t:Int)(M:aP) : Option (List Int) :=
  match dk dir M with
  | none=>none
  | some l=>if !((u==u)&&(t==0)) then none else some (wh u l)
theorem qi{m:Md}{cs:Array Value}{M:aP}{w:World}{dir u t:Int}(h:aW m w cs.toList M)(hf:cY M)(hu:B8 u)(ht:dy t) : Calls Tryz.prog 52 #[.int .i64 dir,.agg (#[.int .u8 u,.int .u16 t]++cs)] w (eK (mK dir u t M) w):=by
 have hM:=h
 obtain⟨hu1,hu2⟩:=hu
 obtain⟨ht1,ht2⟩:=ht
 obtain⟨vw,vb,vd,vr,vo,h0,hw,hbt,hd,hr,ho,hR⟩:=h
 obtain rfl:cs=(bP M vw vb vd vr vo).toArray:=by apply Array.toList_inj.1;simpa using h0
 clear h0
 obtain⟨Aw,kw,rfl,_,_⟩:=hw.shape
 obtain⟨Ab,kb,rfl,_,_⟩:=hbt.shape
 obtain⟨Ad,kd,rfl,_,_⟩:=hd.shape
 obtain⟨Ar,kr,rfl,_,_⟩:=hr.shape
 obtain⟨Ao,ko,rfl,_,_⟩:=ho.shape
 obtain⟨q0,q1,q2,q3,q4,q5,q6,q7,q8,q9,B,C,D,E,F,G,H⟩:=hR
 simp only[B8,dy] at q0 q1 q2 q3 q4 q5 q6 q7 q8 q9 B C D E F G H
 refine en 38 Tryz.func52 rfl<|sg<|L0<|dx #[.int .u8 u,.int .u16 t,.int .u8 M.code,.int .u8 M.fail,.int .u16 M.addr,.int .u16 M.count,.int .u16 M.value,.int .u16 M.and_,.int .u16 M.or_,.int .u16 M.addr2,.int .u16 M.sub,.int .u16 M.status,.int .u16 M.events,.int .u16 M.messages,.slice Aw M.words.length kw,.slice Ab M.bits.length kb,.slice Ad M.data.length kd,.slice Ar M.recs.length kr,.int .u8 M.mei,.int .u8 M.kind,.int .u8 M.level,.int .u8 M.more,.int .u8 M.next,.slice Ao M.objects.length ko] fun U V W k c=>Pl 2<|ng<|Pl 2<|L0<|uO k 2 22<|?_
 rcases hwr:dk dir M with _|lw
 have l:=l0 (dir:=dir) (aW.old hM c) hf
 rw[hwr] at l
 refine L0<|Oc<|m1 l fun X I=>Pl 5<|nt<|sq<|sg<|Pl 11<|nt<|c1<|sg<|Pl 2<|nl<|?_
 refine tn<|rt<|tr<|rr (.tuple #[.slice none 0 0,.int .i64 1])<|?_
 have hs:mK dir u t M=none:=by
   unfold mK
   (try simp only[hwr,bs,if_true,if_false,decide_true,decide_false,reduceIte])
   all_goals rfl
 refine dD hs ?_
 exact⟨rfl,(aI c I)⟩
 have hlw:=s8 hwr
 have n:=l0 (dir:=dir) (aW.old hM c) hf
 rw[hwr] at n
 refine L0<|Oc<|ea n fun Y Z a0 J a1 a2 o=>Pl 5<|nt<|sq<|sg<|Pl 4<|?_
 have g:=ub o k
 refine L1<|uO g 0 2<|Pl 2<|L1<|aR g 0<|Pl 1<|L1<|ie (.bool (!((u==u)&&(t==0)))) (ol u t u 0 rfl (by kernel_rfl) (by kernel_rfl) rfl)<|Pl 1<|nt<|?_
 have i:=aI c o
 refine cb ((!((u==u)&&(t==0)))) (fun a=>?_) (fun a=>?_)
 have b:((u==u)&&(t==0))=false:=by simpa using a
 refine sg<|Pl 2<|nt<|rt<|tr<|rr (.tuple #[.slice none 0 0,.int .i64 1])<|?_
 have hs:mK dir u t M=none:=by
   unfold mK
   (try simp only[hwr,a,b,bs,if_true,if_false,decide_true,decide_false,reduceIte])
   all_goals rfl
 refine dD hs ?_
 exact⟨rfl,i⟩
 have b:((u==u)&&(t==0))=true:=by simpa using a
 have p:=(aS b).1
 have q:=(aS b).2
 have q33nap:=al p
 have q33nbp:=al q
 refine bq<|sg<|Pl 2<|L0<|aR g 0<|L0<|dA (m:=1) (e:=5) #[.int .u8 u] fun K a3 L N d=>?_
 have r:=dT L (xs:=[u]) (by as_aux_lemma=>kernel_rfl) (az (by omega) aZ) (by(try simp only[List.length_cons,List.length_nil]);omega) N
 refine Pl 1<|?_
 refine L0<|cO bv (xs:=([u])) (ys:=lw) (.int .u8 0) 1 r ((ax J d (fun x hx=>ay) (fun _ _ h=>h))).rd (by(try simp only[List.length_append,List.length_cons,List.length_nil,aC,gH]);omega) d.size fun j O a4 f v=>Pl 1<|ng<|Pl 2<|L0<|Oc (args:=#[.slice j (([u]++lw).length) O])<|m1 (iy (f).rd) fun a5 y=>?_
 have a6:=gh ([u]++lw) (s:=65535) (by decide) (b7.range (f).rd)
 refine L0<|Oc<|ea (fZ (s:=(cG 65535 ([u]++lw))) (by omega)) fun a7 a8 a9 P aa ab z=>?_
 have A:=aI y z
 refine L0<|cO bv (xs:=([u]++lw)) (ys:=(cn (cG 65535 ([u]++lw)))) (.int .u8 0) 1 (ax f A (fun x hx=>ay) (fun _ _ h=>h)) (P).rd (by(try simp only[List.length_append,List.length_cons,List.length_nil,aC,gH]);omega) (le (le (le d.size v.size) y.size) z.size) fun Q R ac S T=>Pl 2<|nt<|rt<|rr (.tuple #[.slice Q ((([u]++lw)++(cn (cG 65535 ([u]++lw)))).length) R,.int .i64 0])<|?_
 have hs:mK dir u t M=(some (([u]++lw)++(cn (cG 65535 ([u]++lw))))):=by
   unfold mK
   (try simp only[hwr,a,b,p,q,bs,if_true,if_false,decide_true,decide_false,reduceIte])
   all_goals rfl
 refine dD hs ?_
 exact⟨_,rfl,(be.weaken S i.size),(aI i (ut d (ut (aE.mono (S':=(ob (some ⟨K,0,none⟩)++(ob j++[]))) v (av il aq)) (ut (aE.mono (S':=(ob j++[])) A aq) T (av il aq)) (av il aq)) (av (aU r lr) (av (aU f lr) aq))))⟩
open Go.RowKit
theorem iL{m:Md}{v:Value}{b:List Int}{w:World}{dir:Int}{F:gZ}{E:Int}(hX:dU dir b=(F,E))(h:b7 m w v b)(hb:b.length≤1048576) : Calls Tryz.prog 50 #[.int .i64 dir,v] w (fun e w'=>∃ x,e = .returned (.tuple #[.agg (tW F.unit F.tid F.msg x),.int .i64 E])∧(aW true w' (se F.msg x).toList F.msg∧(0≤F.unit∧F.unit<256)∧(0≤F.tid∧F.tid<65536))∧aE [] w w'):=by
  refine(qa h hb).mono ?_
  rintro e w' ⟨cs,rfl,h1,h2⟩
  rw[hX] at h1 ⊢
  obtain⟨c,rfl,h3,h4,h5⟩:=h1
  obtain⟨x,rfl⟩:=rW h3
  exact⟨x,by rw[tZ],⟨h3,h4,h5⟩,h2⟩
open Go.RowKit
theorem uR:mK 0 1 0 lB=some [1,7,65,226]:=by decide +kernel
theorem uV:dU 0 [1,7,65,226]=(⟨1,0,lB⟩,0):=by decide +kernel
theorem vi{w:World}:Calls Tryz.prog 52 #[.int .i64 0,.agg #[.int .u8 1,.int .u16 0,.int .u8 7,.int .u8 0,.int .u16 0,.int .u16 0,.int .u16 0,.int .u16 0,.int .u16 0,.int .u16 0,.int .u16 0,.int .u16 0,.int .u16 0,.int .u16 0,.slice none 0 0,.slice none 0 0,.slice none 0 0,.slice none 0 0,.int .u8 0,.int .u8 0,.int .u8 0,.int .u8 0,.int .u8 0,.slice none 0 0]] w (fun e w'=>∃ v,e = .returned (.tuple #[v,.int .i64 0])∧fo w.heap.size w' v [1,7,65,226]∧aE [] w w'):=by
  have h:=qi (dir:=0) (u:=1) (t:=0) (uY w) uD (show(0:Int)≤1∧(1:Int)<256 from by decide) (show(0:Int)≤0∧(0:Int)<65536 from by decide)
  rw[uR] at h
  rw[show #[.int .u8 1,.int .u16 0,.int .u8 7,.int .u8 0,.int .u16 0,.int .u16 0,.int .u16 0,.int .u16 0,.int .u16 0,.int .u16 0,.int .u16 0,.int .u16 0,.int .u16 0,.int .u16 0,.slice none 0 0,.slice none 0 0,.slice none 0 0,.slice none 0 0,.int .u8 0,.int .u8 0,.int .u8 0,.int .u8 0,.int .u8 0,.slice none 0 0] = #[.int .u8 1,.int .u16 0]++mC 7 from by kernel_rfl]
  exact h
theorem tb{w:World}:Calls Tryz.prog 49 #[] w (cT (.bool true) w):=by
 refine en 40 Tryz.func49 rfl<|sg<|Pl 1<|ng<|Pl 3<|L0<|Oc<|ea (@vi w) fun l m r e s t o=>Pl 5<|nt<|sq<|?_
 refine go<|Pl 1<|L0<|Oc<|e2 (iL uV (e).rd (by decide)) fun x19 u p d=>?_
 obtain⟨v,y,z⟩:=p
 refine Pl 3<|L0<|bI #[.int .u8 0,.int .u16 0,.int .u8 0,.int .u8 0,.int .u16 0,.int .u16 0,.int .u16 0,.int .u16 0,.int .u16 0,.int .u16 0,.int .u16 0,.int .u16 0,.int .u16 0,.int .u16 0,.slice none 0 0,.slice none 0 0,.slice none 0 0,.slice none 0 0,.int .u8 0,.int .u8 0,.int .u8 0,.int .u8 0,.int .u8 0,.slice none 0 0] fun B C f q g=>L0<|b6 q #[.int .u8 1,.int .u16 0,.int .u8 7,.int .u8 0,.int .u16 0,.int .u16 0,.int .u16 0,.int .u16 0,.int .u16 0,.int .u16 0,.int .u16 0,.int .u16 0,.int .u16 0,.int .u16 0,.slice x19.aw lB.words.length x19.kw,.slice x19.ab lB.bits.length x19.kb,.slice x19.ad lB.data.length x19.kd,.slice x19.ar lB.recs.length x19.kr,.int .u8 0,.int .u8 0,.int .u8 0,.int .u8 0,.int .u8 0,.slice x19.ao lB.objects.length x19.ko] fun D i j=>Pl 1<|ng<|Pl 8<|?_
 refine L1<|ie (.string (strOfNums ([1,7,65,226]))) (cP (A:=l) (n:=[1,7,65,226].length) (c:=m) rfl (by kernel_rfl) Tryz.underlying22 Tryz.underlying5 Tryz.underlying9 ((ax e (u1 (aI d g) j (ni d.size f)) (fun x hx=>ay) (fun _ _ h=>h))).rd)<|L1<|ie (.bool true) (fa (a:=(strOfNums ([1,7,65,226]))) (b:=⟨#[1,7,65,226]⟩) rfl (by kernel_rfl) (by kernel_rfl) (t4 rfl (by decide)))<|Pl 4<|L1<|aR i 0<|Pl 5<|L1<|aR i 2<|Pl 3<|nt<|rt<|rr (.bool true)<|?_
 have k:=aI o d
 exact⟨rfl,(u1 (aI k g) j (ni k.size f))⟩
open Go.RowKit
theorem nn{m m':Md}{A B:Option Addr}{c d:Nat}{xs ys:List Int}{w:World}(h1:b7 m w (.slice A xs.length c) xs)(h2:b7 m' w (.slice B ys.length d) ys) :
    Calls Tryz.prog 30 #[.slice A xs.length c,.slice B ys.length d] w (cT (.bool (decide (xs=ys))) w):=by
 refine en 10 Tryz.func30 rfl<|sg<|Pl 1<|ng<|Pl 1<|L0<|ie (.string (strOfNums xs)) (cP (A:=A) (n:=xs.length) (c:=c) rfl (by kernel_rfl) Tryz.underlying22 Tryz.underlying5 Tryz.underlying9 h1)<|Pl 1<|L0<|ie (.string (strOfNums ys)) (cP (A:=B) (n:=ys.length) (c:=d) rfl (by kernel_rfl) Tryz.underlying22 Tryz.underlying5 Tryz.underlying9 h2)<|L0<|ie (.bool (decide (xs=ys))) (fa (a:=(strOfNums xs)) (b:=(strOfNums ys)) rfl (by kernel_rfl) (by kernel_rfl) (gO h1 h2))<|Pl 1<|nl<|?_
 refine tn<|rt<|rr (.bool (decide (xs=ys)))<|?_
 exact⟨rfl,(aE.refl [] _)⟩
theorem kI{m m':Md}{a b:Value}{xs ys:List Int}{w:World}(h1:b7 m w a xs)(h2:b7 m' w b ys) : Calls Tryz.prog 30 #[a,b] w (cT (.bool (decide (xs=ys))) w):=by
  obtain⟨A,c,rfl,_,_⟩:=h1.shape
  obtain⟨B,d,rfl,_,_⟩:=h2.shape
  exact nn h1 h2
open Go.RowKit
theorem fT{α:Type}{xs ys:List α}{k:Nat}(h:xs.take k=ys.take k)(h1:k=xs.length)(h2:xs.length=ys.length) : xs=ys:=by
  rw[List.take_of_length_le (by omega),List.take_of_length_le (by omega)] at h
  exact h
theorem jV{m m':Md}{A B:Option Addr}{c d:Nat}{xs ys:List Int}{w:World}(h1:dN m w (.slice A xs.length c) xs)(h2:dN m' w (.slice B ys.length d) ys) :
    Calls Tryz.prog 98 #[.slice A xs.length c,.slice B ys.length d] w (cT (.bool (decide (xs=ys))) w):=by
 have hz1:=aK.len h1
 have hz2:=aK.len h2
 refine en 26 Tryz.func98 rfl<|sg<|Pl 1<|nt<|sq<|sg<|Pl 5<|nt<|cb ((((xs.length:Nat) : Int)!=((ys.length:Nat) : Int))) (fun g=>?_) (fun g=>?_)
 have j:=au g
 refine sg<|Pl 1<|nt<|rt<|tr<|rr (.bool false)<|?_
 have hs:decide (xs=ys)=false:=decide_eq_false (fun e=>by rw[e] at j;omega)
 rw[hs]
 exact⟨rfl,(aE.refl [] _)⟩
 have j:=ai g
 refine bq<|sq<|sg<|Pl 1<|nt<|bk<|?_
 refine iu (fun x=>[(0,.slice A xs.length c),(1,.slice B ys.length d),(5,.int .i64 ((x:Nat) : Int))]) (fun(x:Nat) w'=>aE [] w w'∧(xs.take x=ys.take x)∧(x≤xs.length)) (fun x=>xs.length-x) 0 ⟨aE.refl _ _,(by(try dsimp only);simp),(by(try dsimp only);omega)⟩ ?_
 rintro k E ⟨b,p,q⟩
 refine iv [(0,.slice A xs.length c),(1,.slice B ys.length d),(5,.int .i64 ((k:Nat) : Int))] ?_
 have l:xs.take k=ys.take k:=p
 have F:k≤xs.length:=q
 refine sq<|sg<|Pl 4<|nt<|cb ((decide (((k:Nat) : Int)<((xs.length:Nat) : Int)))) (fun h=>?_) (fun h=>?_)
 have r:=of_decide_eq_true h
 refine bq<|sq<|bk<|sq<|?_
 refine fA (dN.at_ (dN.old h1 b) k (by omega)) fun s t u v G=>?_
 refine fA (dN.at_ (dN.old h2 b) k (by omega)) fun y z C D H=>Rg 9 (fun w'=>w'.cell? ⟨s,t+k,none⟩=some (.int .u16 (xs.getD k 0))∧w'.cell? ⟨y,z+k,none⟩=some (.int .u16 (ys.getD k 0))) fun I i=>bh ⟨(uc i v),(uc i D)⟩ fun a=>Rt 0 a<|Rt 1 a<|oh 2 a xs.length k ((k:Nat) : Int) rfl u (by omega)<|Rl 3 a (fun _ hs=>hs.1)<|Rt 4 a<|Rt 5 a<|oh 6 a ys.length k ((k:Nat) : Int) rfl C (by omega)<|Rl 7 a (fun _ hs=>hs.2)<|Rt 8 a<|re<|tn<|?_
 have n:=aI b i
 refine cb (((xs.getD k 0)!=(ys.getD k 0))) (fun f=>?_) (fun f=>?_)
 have o:=au f
 refine sg<|Pl 1<|nt<|rt<|br<|tr<|tr<|br<|tr<|rr (.bool false)<|?_
 have hs:decide (xs=ys)=false:=decide_eq_false (pn (d:=0) k (by simpa using f))
 rw[hs]
 exact⟨rfl,n⟩
 have o:=ai f
 exact sk<|bn<|tn<|go<|Pl 1<|L0<|Oi (((k:Nat) : Int)+1)<|Pl 1<|nl<|fU (k+1) ⟨n,(kP (d:=0) (by omega) (by omega) l o),(by(try dsimp only);omega)⟩ (by omega)
 have r:=of_decide_eq_false h
 refine xt<|tx<|tx<|bx<|tn<|sg<|Pl 1<|nt<|rt<|rr (.bool true)<|?_
 have hs:decide (xs=ys)=true:=decide_eq_true (fT l (by omega) (by omega))
 rw[hs]
 exact⟨rfl,b⟩
theorem ic{m m':Md}{a b:Value}{xs ys:List Int}{w:World}(h1:dN m w a xs)(h2:dN m' w b ys) : Calls Tryz.prog 98 #[a,b] w (cT (.bool (decide (xs=ys))) w):=by
  obtain⟨A,c,rfl,_,_⟩:=h1.shape
  obtain⟨B,d,rfl,_,_⟩:=h2.shape
  exact jV h1 h2
theorem ki{m m':Md}{A B:Option Addr}{c d:Nat}{xs ys:List Bool}{w:World}(h1:gf m w (.slice A xs.length c) xs)(h2:gf m' w (.slice B ys.length d) ys) :
    Calls Tryz.prog 99 #[.slice A xs.length c,.slice B ys.length d] w (cT (.bool (decide (xs=ys))) w):=by
 have hz1:=aK.len h1
 have hz2:=aK.len h2
 refine en 26 Tryz.func99 rfl<|sg<|Pl 1<|nt<|sq<|sg<|Pl 5<|nt<|cb ((((xs.length:Nat) : Int)!=((ys.length:Nat) : Int))) (fun f=>?_) (fun f=>?_)
 have j:=au f
 refine sg<|Pl 1<|nt<|rt<|tr<|rr (.bool false)<|?_
 have hs:decide (xs=ys)=false:=decide_eq_false (fun e=>by rw[e] at j;omega)
 rw[hs]
 exact⟨rfl,(aE.refl [] _)⟩
 have j:=ai f
 refine bq<|sq<|sg<|Pl 1<|nt<|bk<|?_
 refine iu (fun x=>[(0,.slice A xs.length c),(1,.slice B ys.length d),(5,.int .i64 ((x:Nat) : Int))]) (fun(x:Nat) w'=>aE [] w w'∧(xs.take x=ys.take x)∧(x≤xs.length)) (fun x=>xs.length-x) 0 ⟨aE.refl _ _,(by(try dsimp only);simp),(by(try dsimp only);omega)⟩ ?_
 rintro k D ⟨b,o,p⟩
 refine iv [(0,.slice A xs.length c),(1,.slice B ys.length d),(5,.int .i64 ((k:Nat) : Int))] ?_
 have l:xs.take k=ys.take k:=o
 have E:k≤xs.length:=p
 refine sq<|sg<|Pl 4<|nt<|cb ((decide (((k:Nat) : Int)<((xs.length:Nat) : Int)))) (fun g=>?_) (fun g=>?_)
 have q:=of_decide_eq_true g
 refine bq<|sq<|bk<|sq<|?_
 refine vU (gf.at_ (gf.old h1 b) k (by omega)) fun r s t u=>?_
 refine vU (gf.at_ (gf.old h2 b) k (by omega)) fun v y z C=>Rg 9 (fun w'=>w'.cell? ⟨r,s+k,none⟩=some (.bool (xs.getD k false))∧w'.cell? ⟨v,y+k,none⟩=some (.bool (ys.getD k false))) fun F h=>bh ⟨(uc h u),(uc h C)⟩ fun a=>Rt 0 a<|Rt 1 a<|oh 2 a xs.length k ((k:Nat) : Int) rfl t (by omega)<|Rl 3 a (fun _ hs=>hs.1)<|Rt 4 a<|Rt 5 a<|oh 6 a ys.length k ((k:Nat) : Int) rfl z (by omega)<|Rl 7 a (fun _ hs=>hs.2)<|Rt 8 a<|re<|tn<|?_
 have n:=aI b h
 refine cb (((xs.getD k false)!=(ys.getD k false))) (fun i=>?_) (fun i=>?_)
 refine sg<|Pl 1<|nt<|rt<|br<|tr<|tr<|br<|tr<|rr (.bool false)<|?_
 have hs:decide (xs=ys)=false:=decide_eq_false (pn (d:=false) k (by simpa using i))
 rw[hs]
 exact⟨rfl,n⟩
 exact sk<|bn<|tn<|go<|Pl 1<|L0<|Oi (((k:Nat) : Int)+1)<|Pl 1<|nl<|fU (k+1) ⟨n,(kP (d:=false) (by omega) (by omega) l (by simpa using i)),(by(try dsimp only);omega)⟩ (by omega)
 have q:=of_decide_eq_false g
 refine xt<|tx<|tx<|bx<|tn<|sg<|Pl 1<|nt<|rt<|rr (.bool true)<|?_
 have hs:decide (xs=ys)=true:=decide_eq_true (fT l (by omega) (by omega))
 rw[hs]
 exact⟨rfl,b⟩
theorem ln{m m':Md}{a b:Value}{xs ys:List Bool}{w:World}(h1:gf m w a xs)(h2:gf m' w b ys) : Calls Tryz.prog 99 #[a,b] w (cT (.bool (decide (xs=ys))) w):=by
  obtain⟨A,c,rfl,_,_⟩:=h1.shape
  obtain⟨B,d,rfl,_,_⟩:=h2.shape
  exact ki h1 h2
open Go.RowKit
theorem oG{α:Type}{xs ys:List α}{d:α}{k:Nat}(h:xs.take k=ys.take k)(hk:k<xs.length)(hl:xs.length=ys.length)(he:xs.getD k d=ys.getD k d) : xs.take (k+1)=ys.take (k+1):=by
  have hk2:k<ys.length:=by omega
  rw[List.take_succ_eq_append_getElem hk,List.take_succ_eq_append_getElem hk2,h]
  rw[List.getD_eq_getElem?_getD,List.getElem?_eq_getElem hk,List.getD_eq_getElem?_getD,List.getElem?_eq_getElem (by omega)] at he
  simp only[Option.getD_some] at he
  rw[he]
theorem tL{a b:di}(h:((((!(decide (a.words=b.words)))||(a.file != b.file))||(a.record != b.record))||(a.count != b.count))=false) : a=b:=by
  cases a
  cases b
  simp at h
  simp[h]
theorem uh{a b:Obj}(h:((!(decide (a.value=b.value)))||(a.id != b.id))=false) : a=b:=by
  cases a
  cases b
  simp at h
  simp[h]
theorem sN{a b:Obj}(h:(!(decide (a.value=b.value)))=false)(h2:(a.id != b.id)=false) : a=b:=uh (by rw[h,h2];rfl)
theorem kY{A B:aP}{f:aP→aP→Bool}(h:f A B=true)(hf:∀ M,f M M=false) : decide (A=B)=false:=decide_eq_false fun e=>by rw[e,hf] at h;cases h
theorem sT{A B:aP}(h1:((((((((((((A.code != B.code)||(A.fail != B.fail))||(A.addr != B.addr))||(A.count != B.count))||(A.value != B.value))||(A.and_ != B.and_))||(A.or_ != B.or_))||(A.addr2 != B.addr2))||(A.sub != B.sub))||(A.status != B.status))||(A.events != B.events))||(A.messages != B.messages))=false)(h2:(((((A.mei != B.mei)||(A.kind != B.kind))||(A.level != B.level))||(A.more != B.more))||(A.next != B.next))=false)(h3:(((((!(decide (A.words=B.words)))||(!(decide (A.bits=B.bits))))||(!(decide (A.data=B.data))))||(((A.recs.length:Nat) : Int)!=((B.recs.length:Nat) : Int)))||(((A.objects.length:Nat) : Int)!=((B.objects.length:Nat) : Int)))=false)(hr:A.recs.length=B.recs.length→A.recs=B.recs)(ho:A.objects.length=B.objects.length→A.objects=B.objects) : A=B:=by
  cases A
  cases B
  simp only[Bool.or_eq_false_iff,bne_eq_false_iff_eq,Bool.not_eq_false',decide_eq_true_eq] at h1 h2 h3
  simp only at hr ho
  obtain⟨⟨⟨⟨⟨⟨⟨⟨⟨⟨⟨a1,a2⟩,a3⟩,a4⟩,a5⟩,a6⟩,a7⟩,a8⟩,a9⟩,a⟩,b⟩,c⟩:=h1
  obtain⟨⟨⟨⟨b1,b2⟩,b3⟩,b4⟩,b5⟩:=h2
  obtain⟨⟨⟨⟨d1,d2⟩,d3⟩,d4⟩,d5⟩:=h3
  have d4:=hr (by omega)
  have d5:=ho (by omega)
  subst a1 a2 a3 a4 a5 a6 a7 a8 a9 a b c b1 b2 b3 b4 b5 d1 d2 d3 d4 d5
  rfl
theorem pX{m m':Md}{pc qc:Array Value}{A B:aP}{w:World}(ha:aW m w pc.toList A)(hb:aW m' w qc.toList B) :
    Calls Tryz.prog 26 #[.agg pc,.agg qc] w (cT (.bool (decide (A=B))) w):=by
 have pM:=ha
 obtain⟨pvw,pvb,pvd,pvr,pvo,ph0,phw,phb,phd,phr,pho,pR⟩:=ha
 obtain rfl:pc=(bP A pvw pvb pvd pvr pvo).toArray:=by apply Array.toList_inj.1;simpa using ph0
 clear ph0
 obtain⟨pw,pkw,rfl,_,_⟩:=phw.shape
 obtain⟨pb,pkb,rfl,_,_⟩:=phb.shape
 obtain⟨pd,pkd,rfl,_,_⟩:=phd.shape
 obtain⟨pr,pkr,rfl,_,_⟩:=phr.shape
 obtain⟨po,pko,rfl,_,_⟩:=pho.shape
 have qM:=hb
 obtain⟨qvw,qvb,qvd,qvr,qvo,qh0,qhw,qhb,qhd,qhr,qho,qR⟩:=hb
 obtain rfl:qc=(bP B qvw qvb qvd qvr qvo).toArray:=by apply Array.toList_inj.1;simpa using qh0
 clear qh0
 obtain⟨qw,qkw,rfl,_,_⟩:=qhw.shape
 obtain⟨qb,qkb,rfl,_,_⟩:=qhb.shape
 obtain⟨qd,qkd,rfl,_,_⟩:=qhd.shape
 obtain⟨qr,qkr,rfl,_,_⟩:=qhr.shape
 obtain⟨qo,qko,rfl,_,_⟩:=qho.shape
 have hz1:=aK.len phr
 have hz2:=aK.len pho
 refine en 254 Tryz.func26 rfl<|sg<|L0<|dx (mG A.code A.fail A.addr A.count A.value A.and_ A.or_ A.addr2 A.sub A.status A.events A.messages (.slice pw A.words.length pkw) (.slice pb A.bits.length pkb) (.slice pd A.data.length pkd) (.slice pr A.recs.length pkr) A.mei A.kind A.level A.more A.next (.slice po A.objects.length pko)) fun i dJ dK cf cg=>L0<|dx (mG B.code B.fail B.addr B.count B.value B.and_ B.or_ B.addr2 B.sub B.status B.events B.messages (.slice qw B.words.length qkw) (.slice qb B.bits.length qkb) (.slice qd B.data.length qkd) (.slice qr B.recs.length qkr) B.mei B.kind B.level B.more B.next (.slice qo B.objects.length qko)) fun l dL dM b az=>Pl 1<|nt<|sq<|sg<|Pl 1<|?_
 have c:=ub az cf
 refine L0<|aR c 0<|Pl 1<|L0<|aR b 0<|Pl 2<|cu 6 [19] 25 (((A.code != B.code)||(A.fail != B.fail))) (fun K aA=>?_) ?_
 refine bl 19 ((A.code != B.code)) (fun q=>?_) (fun q=>?_)
 have ch:=au q
 exact Pl 6<|ce aA true (by rw[q];rfl)
 have ch:=ai q
 exact Pl 1<|L1<|aR c 1<|Pl 1<|L1<|aR b 1<|Pl 2<|ce aA (A.fail != B.fail) (by rw[q];rfl)
 refine Pl 1<|cu 6 [26] 32 ((((A.code != B.code)||(A.fail != B.fail))||(A.addr != B.addr))) (fun K aB=>?_) ?_
 refine bl 26 (((A.code != B.code)||(A.fail != B.fail))) (fun r=>?_) (fun r=>?_)
 exact Pl 6<|ce aB true (by rw[r];rfl)
 have ci:=(aJ r).1
 have cj:=(aJ r).2
 have dO:=ai ci
 have dP:=ai cj
 exact Pl 1<|L1<|aR c 2<|Pl 1<|L1<|aR b 2<|Pl 2<|ce aB (A.addr != B.addr) (by rw[r];rfl)
 refine Pl 1<|cu 6 [33] 39 (((((A.code != B.code)||(A.fail != B.fail))||(A.addr != B.addr))||(A.count != B.count))) (fun K aC=>?_) ?_
 refine bl 33 ((((A.code != B.code)||(A.fail != B.fail))||(A.addr != B.addr))) (fun s=>?_) (fun s=>?_)
 exact Pl 6<|ce aC true (by rw[s];rfl)
 have aD:=(aJ s).1
 have ck:=(aJ s).2
 have cl:=(aJ aD).1
 have cm:=(aJ aD).2
 have q25aap:=ai cl
 have q25abp:=ai cm
 have dQ:=ai ck
 exact Pl 1<|L1<|aR c 3<|Pl 1<|L1<|aR b 3<|Pl 2<|ce aC (A.count != B.count) (by rw[s];rfl)
 refine Pl 1<|cu 6 [40] 46 ((((((A.code != B.code)||(A.fail != B.fail))||(A.addr != B.addr))||(A.count != B.count))||(A.value != B.value))) (fun K aF=>?_) ?_
 refine bl 40 (((((A.code != B.code)||(A.fail != B.fail))||(A.addr != B.addr))||(A.count != B.count))) (fun t=>?_) (fun t=>?_)
 exact Pl 6<|ce aF true (by rw[t];rfl)
 have aG:=(aJ t).1
 have cn:=(aJ t).2
 have aH:=(aJ aG).1
 have co:=(aJ aG).2
 have q27aaa:=(aJ aH).1
 have q27aab:=(aJ aH).2
 have q27aaap:=ai q27aaa
 have q27aabp:=ai q27aab
 have q27abp:=ai co
 have dR:=ai cn
 exact Pl 1<|L1<|aR c 4<|Pl 1<|L1<|aR b 4<|Pl 2<|ce aF (A.value != B.value) (by rw[t];rfl)
 refine Pl 1<|cu 6 [47] 53 (((((((A.code != B.code)||(A.fail != B.fail))||(A.addr != B.addr))||(A.count != B.count))||(A.value != B.value))||(A.and_ != B.and_))) (fun K aL=>?_) ?_
 refine bl 47 ((((((A.code != B.code)||(A.fail != B.fail))||(A.addr != B.addr))||(A.count != B.count))||(A.value != B.value))) (fun u=>?_) (fun u=>?_)
 exact Pl 6<|ce aL true (by rw[u];rfl)
 have aM:=(aJ u).1
 have cp:=(aJ u).2
 have aN:=(aJ aM).1
 have cq:=(aJ aM).2
 have q29aaa:=(aJ aN).1
 have q29aab:=(aJ aN).2
 have q29aaaa:=(aJ q29aaa).1
 have q29aaab:=(aJ q29aaa).2
 have q29aaaap:=ai q29aaaa
 have q29aaabp:=ai q29aaab
 have q29aabp:=ai q29aab
 have q29abp:=ai cq
 have dS:=ai cp
 exact Pl 1<|L1<|aR c 5<|Pl 1<|L1<|aR b 5<|Pl 2<|ce aL (A.and_ != B.and_) (by rw[u];rfl)
 refine Pl 1<|cu 6 [54] 60 ((((((((A.code != B.code)||(A.fail != B.fail))||(A.addr != B.addr))||(A.count != B.count))||(A.value != B.value))||(A.and_ != B.and_))||(A.or_ != B.or_))) (fun K aO=>?_) ?_
 refine bl 54 (((((((A.code != B.code)||(A.fail != B.fail))||(A.addr != B.addr))||(A.count != B.count))||(A.value != B.value))||(A.and_ != B.and_))) (fun v=>?_) (fun v=>?_)
 exact Pl 6<|ce aO true (by rw[v];rfl)
 have aQ:=(aJ v).1
 have cr:=(aJ v).2
 have aS:=(aJ aQ).1
 have cs:=(aJ aQ).2
 have q31aaa:=(aJ aS).1
 have q31aab:=(aJ aS).2
 have q31aaaa:=(aJ q31aaa).1
 have q31aaab:=(aJ q31aaa).2
 have q31aaaaa:=(aJ q31aaaa).1
 have q31aaaab:=(aJ q31aaaa).2
 have q31aaaaap:=ai q31aaaaa
 have q31aaaabp:=ai q31aaaab
 have q31aaabp:=ai q31aaab
 have q31aabp:=ai q31aab
 have q31abp:=ai cs
 have dT:=ai cr
 exact Pl 1<|L1<|aR c 6<|Pl 1<|L1<|aR b 6<|Pl 2<|ce aO (A.or_ != B.or_) (by rw[v];rfl)
 refine Pl 1<|cu 6 [61] 67 (((((((((A.code != B.code)||(A.fail != B.fail))||(A.addr != B.addr))||(A.count != B.count))||(A.value != B.value))||(A.and_ != B.and_))||(A.or_ != B.or_))||(A.addr2 != B.addr2))) (fun K aT=>?_) ?_
 refine bl 61 ((((((((A.code != B.code)||(A.fail != B.fail))||(A.addr != B.addr))||(A.count != B.count))||(A.value != B.value))||(A.and_ != B.and_))||(A.or_ != B.or_))) (fun z=>?_) (fun z=>?_)
 exact Pl 6<|ce aT true (by rw[z];rfl)
 have aU:=(aJ z).1
 have ct:=(aJ z).2
 have aV:=(aJ aU).1
 have cv:=(aJ aU).2
 have q33aaa:=(aJ aV).1
 have q33aab:=(aJ aV).2
 have q33aaaa:=(aJ q33aaa).1
 have q33aaab:=(aJ q33aaa).2
 have q33aaaaa:=(aJ q33aaaa).1
 have q33aaaab:=(aJ q33aaaa).2
 have q33aaaaaa:=(aJ q33aaaaa).1
 have q33aaaaab:=(aJ q33aaaaa).2
 have q33aaaaaap:=ai q33aaaaaa
 have q33aaaaabp:=ai q33aaaaab
 have q33aaaabp:=ai q33aaaab
 have q33aaabp:=ai q33aaab
 have q33aabp:=ai q33aab
 have q33abp:=ai cv
 have dU:=ai ct
 exact Pl 1<|L1<|aR c 7<|Pl 1<|L1<|aR b 7<|Pl 2<|ce aT (A.addr2 != B.addr2) (by rw[z];rfl)
 refine Pl 1<|cu 6 [68] 74 ((((((((((A.code != B.code)||(A.fail != B.fail))||(A.addr != B.addr))||(A.count != B.count))||(A.value != B.value))||(A.and_ != B.and_))||(A.or_ != B.or_))||(A.addr2 != B.addr2))||(A.sub != B.sub))) (fun K aX=>?_) ?_
 refine bl 68 (((((((((A.code != B.code)||(A.fail != B.fail))||(A.addr != B.addr))||(A.count != B.count))||(A.value != B.value))||(A.and_ != B.and_))||(A.or_ != B.or_))||(A.addr2 != B.addr2))) (fun C=>?_) (fun C=>?_)
 exact Pl 6<|ce aX true (by rw[C];rfl)
 have aY:=(aJ C).1
 have cw:=(aJ C).2
 have aZ:=(aJ aY).1
 have cx:=(aJ aY).2
 have q35aaa:=(aJ aZ).1
 have q35aab:=(aJ aZ).2
 have q35aaaa:=(aJ q35aaa).1
 have q35aaab:=(aJ q35aaa).2
 have q35aaaaa:=(aJ q35aaaa).1
 have q35aaaab:=(aJ q35aaaa).2
 have q35aaaaaa:=(aJ q35aaaaa).1
 have q35aaaaab:=(aJ q35aaaaa).2
 have q35aaaaaaa:=(aJ q35aaaaaa).1
 have q35aaaaaab:=(aJ q35aaaaaa).2
 have q35aaaaaaap:=ai q35aaaaaaa
 have q35aaaaaabp:=ai q35aaaaaab
 have q35aaaaabp:=ai q35aaaaab
 have q35aaaabp:=ai q35aaaab
 have q35aaabp:=ai q35aaab
 have q35aabp:=ai q35aab
 have q35abp:=ai cx
 have dV:=ai cw
 exact Pl 1<|L1<|aR c 8<|Pl 1<|L1<|aR b 8<|Pl 2<|ce aX (A.sub != B.sub) (by rw[C];rfl)
 refine Pl 1<|cu 6 [75] 81 (((((((((((A.code != B.code)||(A.fail != B.fail))||(A.addr != B.addr))||(A.count != B.count))||(A.value != B.value))||(A.and_ != B.and_))||(A.or_ != B.or_))||(A.addr2 != B.addr2))||(A.sub != B.sub))||(A.status != B.status))) (fun K b0=>?_) ?_
 refine bl 75 ((((((((((A.code != B.code)||(A.fail != B.fail))||(A.addr != B.addr))||(A.count != B.count))||(A.value != B.value))||(A.and_ != B.and_))||(A.or_ != B.or_))||(A.addr2 != B.addr2))||(A.sub != B.sub))) (fun D=>?_) (fun D=>?_)
 exact Pl 6<|ce b0 true (by rw[D];rfl)
 have b1:=(aJ D).1
 have cy:=(aJ D).2
 have b2:=(aJ b1).1
 have cz:=(aJ b1).2
 have q37aaa:=(aJ b2).1
 have q37aab:=(aJ b2).2
 have q37aaaa:=(aJ q37aaa).1
 have q37aaab:=(aJ q37aaa).2
 have q37aaaaa:=(aJ q37aaaa).1
 have q37aaaab:=(aJ q37aaaa).2
 have q37aaaaaa:=(aJ q37aaaaa).1
 have q37aaaaab:=(aJ q37aaaaa).2
 have q37aaaaaaa:=(aJ q37aaaaaa).1
 have q37aaaaaab:=(aJ q37aaaaaa).2
 have q37aaaaaaaa:=(aJ q37aaaaaaa).1
 have q37aaaaaaab:=(aJ q37aaaaaaa).2
 have q37aaaaaaaap:=ai q37aaaaaaaa
 have q37aaaaaaabp:=ai q37aaaaaaab
 have q37aaaaaabp:=ai q37aaaaaab
 have q37aaaaabp:=ai q37aaaaab
 have q37aaaabp:=ai q37aaaab
 have q37aaabp:=ai q37aaab
 have q37aabp:=ai q37aab
 have q37abp:=ai cz
 have dW:=ai cy
 exact Pl 1<|L1<|aR c 9<|Pl 1<|L1<|aR b 9<|Pl 2<|ce b0 (A.status != B.status) (by rw[D];rfl)
 refine Pl 1<|cu 6 [82] 88 ((((((((((((A.code != B.code)||(A.fail != B.fail))||(A.addr != B.addr))||(A.count != B.count))||(A.value != B.value))||(A.and_ != B.and_))||(A.or_ != B.or_))||(A.addr2 != B.addr2))||(A.sub != B.sub))||(A.status != B.status))||(A.events != B.events))) (fun K b3=>?_) ?_
 refine bl 82 (((((((((((A.code != B.code)||(A.fail != B.fail))||(A.addr != B.addr))||(A.count != B.count))||(A.value != B.value))||(A.and_ != B.and_))||(A.or_ != B.or_))||(A.addr2 != B.addr2))||(A.sub != B.sub))||(A.status != B.status))) (fun E=>?_) (fun E=>?_)
 exact Pl 6<|ce b3 true (by rw[E];rfl)
 have b4:=(aJ E).1
 have cA:=(aJ E).2
 have b5:=(aJ b4).1
 have cB:=(aJ b4).2
 have q39aaa:=(aJ b5).1
 have q39aab:=(aJ b5).2
 have q39aaaa:=(aJ q39aaa).1
 have q39aaab:=(aJ q39aaa).2
 have q39aaaaa:=(aJ q39aaaa).1
 have q39aaaab:=(aJ q39aaaa).2
 have q39aaaaaa:=(aJ q39aaaaa).1
 have q39aaaaab:=(aJ q39aaaaa).2
 have q39aaaaaaa:=(aJ q39aaaaaa).1
 have q39aaaaaab:=(aJ q39aaaaaa).2
 have q39aaaaaaaa:=(aJ q39aaaaaaa).1
 have q39aaaaaaab:=(aJ q39aaaaaaa).2
 have q39aaaaaaaaa:=(aJ q39aaaaaaaa).1
 have q39aaaaaaaab:=(aJ q39aaaaaaaa).2
 have q39aaaaaaaaap:=ai q39aaaaaaaaa
 have q39aaaaaaaabp:=ai q39aaaaaaaab
 have q39aaaaaaabp:=ai q39aaaaaaab
 have q39aaaaaabp:=ai q39aaaaaab
 have q39aaaaabp:=ai q39aaaaab
 have q39aaaabp:=ai q39aaaab
 have q39aaabp:=ai q39aaab
 have q39aabp:=ai q39aab
 have q39abp:=ai cB
 have dX:=ai cA
 exact Pl 1<|L1<|aR c 10<|Pl 1<|L1<|aR b 10<|Pl 2<|ce b3 (A.events != B.events) (by rw[E];rfl)
 refine Pl 1<|cu 6 [89] 95 (((((((((((((A.code != B.code)||(A.fail != B.fail))||(A.addr != B.addr))||(A.count != B.count))||(A.value != B.value))||(A.and_ != B.and_))||(A.or_ != B.or_))||(A.addr2 != B.addr2))||(A.sub != B.sub))||(A.status != B.status))||(A.events != B.events))||(A.messages != B.messages))) (fun K b8=>?_) ?_
 refine bl 89 ((((((((((((A.code != B.code)||(A.fail != B.fail))||(A.addr != B.addr))||(A.count != B.count))||(A.value != B.value))||(A.and_ != B.and_))||(A.or_ != B.or_))||(A.addr2 != B.addr2))||(A.sub != B.sub))||(A.status != B.status))||(A.events != B.events))) (fun F=>?_) (fun F=>?_)
 exact Pl 6<|ce b8 true (by rw[F];rfl)
 have b9:=(aJ F).1
 have cC:=(aJ F).2
 have ba:=(aJ b9).1
 have cD:=(aJ b9).2
 have q41aaa:=(aJ ba).1
 have q41aab:=(aJ ba).2
 have q41aaaa:=(aJ q41aaa).1
 have q41aaab:=(aJ q41aaa).2
 have q41aaaaa:=(aJ q41aaaa).1
 have q41aaaab:=(aJ q41aaaa).2
 have q41aaaaaa:=(aJ q41aaaaa).1
 have q41aaaaab:=(aJ q41aaaaa).2
 have q41aaaaaaa:=(aJ q41aaaaaa).1
 have q41aaaaaab:=(aJ q41aaaaaa).2
 have q41aaaaaaaa:=(aJ q41aaaaaaa).1
 have q41aaaaaaab:=(aJ q41aaaaaaa).2
 have q41aaaaaaaaa:=(aJ q41aaaaaaaa).1
 have q41aaaaaaaab:=(aJ q41aaaaaaaa).2
 have q41aaaaaaaaaa:=(aJ q41aaaaaaaaa).1
 have q41aaaaaaaaab:=(aJ q41aaaaaaaaa).2
 have q41aaaaaaaaaap:=ai q41aaaaaaaaaa
 have q41aaaaaaaaabp:=ai q41aaaaaaaaab
 have q41aaaaaaaabp:=ai q41aaaaaaaab
 have q41aaaaaaabp:=ai q41aaaaaaab
 have q41aaaaaabp:=ai q41aaaaaab
 have q41aaaaabp:=ai q41aaaaab
 have q41aaaabp:=ai q41aaaab
 have q41aaabp:=ai q41aaab
 have q41aabp:=ai q41aab
 have q41abp:=ai cD
 have dY:=ai cC
 exact Pl 1<|L1<|aR c 11<|Pl 1<|L1<|aR b 11<|Pl 2<|ce b8 (A.messages != B.messages) (by rw[F];rfl)
 refine nt<|?_
 have G:=aI cg az
 refine cb (((((((((((((A.code != B.code)||(A.fail != B.fail))||(A.addr != B.addr))||(A.count != B.count))||(A.value != B.value))||(A.and_ != B.and_))||(A.or_ != B.or_))||(A.addr2 != B.addr2))||(A.sub != B.sub))||(A.status != B.status))||(A.events != B.events))||(A.messages != B.messages))) (fun H=>?_) (fun H=>?_)
 refine sg<|Pl 1<|nt<|rt<|tr<|rr (.bool false)<|?_
 have hs:decide (A=B)=false:=kY (f:=fun x y=>((((((((((((x.code != y.code)||(x.fail != y.fail))||(x.addr != y.addr))||(x.count != y.count))||(x.value != y.value))||(x.and_ != y.and_))||(x.or_ != y.or_))||(x.addr2 != y.addr2))||(x.sub != y.sub))||(x.status != y.status))||(x.events != y.events))||(x.messages != y.messages))) H (fun M=>by simp)
 rw[hs]
 exact⟨rfl,G⟩
 have bb:=(aJ H).1
 have cE:=(aJ H).2
 have bc:=(aJ bb).1
 have cF:=(aJ bb).2
 have q44aaa:=(aJ bc).1
 have q44aab:=(aJ bc).2
 have q44aaaa:=(aJ q44aaa).1
 have q44aaab:=(aJ q44aaa).2
 have q44aaaaa:=(aJ q44aaaa).1
 have q44aaaab:=(aJ q44aaaa).2
 have q44aaaaaa:=(aJ q44aaaaa).1
 have q44aaaaab:=(aJ q44aaaaa).2
 have q44aaaaaaa:=(aJ q44aaaaaa).1
 have q44aaaaaab:=(aJ q44aaaaaa).2
 have q44aaaaaaaa:=(aJ q44aaaaaaa).1
 have q44aaaaaaab:=(aJ q44aaaaaaa).2
 have q44aaaaaaaaa:=(aJ q44aaaaaaaa).1
 have q44aaaaaaaab:=(aJ q44aaaaaaaa).2
 have q44aaaaaaaaaa:=(aJ q44aaaaaaaaa).1
 have q44aaaaaaaaab:=(aJ q44aaaaaaaaa).2
 have q44aaaaaaaaaaa:=(aJ q44aaaaaaaaaa).1
 have q44aaaaaaaaaab:=(aJ q44aaaaaaaaaa).2
 have q44aaaaaaaaaaap:=ai q44aaaaaaaaaaa
 have q44aaaaaaaaaabp:=ai q44aaaaaaaaaab
 have q44aaaaaaaaabp:=ai q44aaaaaaaaab
 have q44aaaaaaaabp:=ai q44aaaaaaaab
 have q44aaaaaaabp:=ai q44aaaaaaab
 have q44aaaaaabp:=ai q44aaaaaab
 have q44aaaaabp:=ai q44aaaaab
 have q44aaaabp:=ai q44aaaab
 have q44aaabp:=ai q44aaab
 have q44aabp:=ai q44aab
 have q44abp:=ai cF
 have dZ:=ai cE
 refine bq<|sq<|sg<|Pl 1<|L0<|aR c 16<|Pl 1<|L0<|aR b 16<|Pl 2<|cu 6 [101] 107 (((A.mei != B.mei)||(A.kind != B.kind))) (fun K bd=>?_) ?_
 refine bl 101 ((A.mei != B.mei)) (fun I=>?_) (fun I=>?_)
 have cG:=au I
 exact Pl 6<|ce bd true (by rw[I];rfl)
 have cG:=ai I
 exact Pl 1<|L1<|aR c 17<|Pl 1<|L1<|aR b 17<|Pl 2<|ce bd (A.kind != B.kind) (by rw[I];rfl)
 refine Pl 1<|cu 6 [108] 114 ((((A.mei != B.mei)||(A.kind != B.kind))||(A.level != B.level))) (fun K be=>?_) ?_
 refine bl 108 (((A.mei != B.mei)||(A.kind != B.kind))) (fun J=>?_) (fun J=>?_)
 exact Pl 6<|ce be true (by rw[J];rfl)
 have cH:=(aJ J).1
 have cI:=(aJ J).2
 have e0:=ai cH
 have e1:=ai cI
 exact Pl 1<|L1<|aR c 18<|Pl 1<|L1<|aR b 18<|Pl 2<|ce be (A.level != B.level) (by rw[J];rfl)
 refine Pl 1<|cu 6 [115] 121 (((((A.mei != B.mei)||(A.kind != B.kind))||(A.level != B.level))||(A.more != B.more))) (fun K bf=>?_) ?_
 refine bl 115 ((((A.mei != B.mei)||(A.kind != B.kind))||(A.level != B.level))) (fun L=>?_) (fun L=>?_)
 exact Pl 6<|ce bf true (by rw[L];rfl)
 have bg:=(aJ L).1
 have cJ:=(aJ L).2
 have cK:=(aJ bg).1
 have cL:=(aJ bg).2
 have q49aap:=ai cK
 have q49abp:=ai cL
 have e2:=ai cJ
 exact Pl 1<|L1<|aR c 19<|Pl 1<|L1<|aR b 19<|Pl 2<|ce bf (A.more != B.more) (by rw[L];rfl)
 refine Pl 1<|cu 6 [122] 128 ((((((A.mei != B.mei)||(A.kind != B.kind))||(A.level != B.level))||(A.more != B.more))||(A.next != B.next))) (fun K bi=>?_) ?_
 refine bl 122 (((((A.mei != B.mei)||(A.kind != B.kind))||(A.level != B.level))||(A.more != B.more))) (fun N=>?_) (fun N=>?_)
 exact Pl 6<|ce bi true (by rw[N];rfl)
 have bj:=(aJ N).1
 have cM:=(aJ N).2
 have bm:=(aJ bj).1
 have cN:=(aJ bj).2
 have q51aaa:=(aJ bm).1
 have q51aab:=(aJ bm).2
 have q51aaap:=ai q51aaa
 have q51aabp:=ai q51aab
 have q51abp:=ai cN
 have e3:=ai cM
 exact Pl 1<|L1<|aR c 20<|Pl 1<|L1<|aR b 20<|Pl 2<|ce bi (A.next != B.next) (by rw[N];rfl)
 refine nt<|cb ((((((A.mei != B.mei)||(A.kind != B.kind))||(A.level != B.level))||(A.more != B.more))||(A.next != B.next))) (fun O=>?_) (fun O=>?_)
 refine sg<|Pl 1<|nt<|rt<|tr<|rr (.bool false)<|?_
 have hs:decide (A=B)=false:=kY (f:=fun x y=>(((((x.mei != y.mei)||(x.kind != y.kind))||(x.level != y.level))||(x.more != y.more))||(x.next != y.next))) O (fun M=>by simp)
 rw[hs]
 exact⟨rfl,G⟩
 have bo:=(aJ O).1
 have cO:=(aJ O).2
 have bp:=(aJ bo).1
 have cP:=(aJ bo).2
 have q53aaa:=(aJ bp).1
 have q53aab:=(aJ bp).2
 have q53aaaa:=(aJ q53aaa).1
 have q53aaab:=(aJ q53aaa).2
 have q53aaaap:=ai q53aaaa
 have q53aaabp:=ai q53aaab
 have q53aabp:=ai q53aab
 have q53abp:=ai cP
 have e4:=ai cO
 refine bq<|sg<|Pl 1<|L0<|aR c 12<|Pl 1<|L0<|aR b 12<|?_
 refine L0<|Oc<|m1 (ic (dN.old phw G) (dN.old qhw G)) fun e5 aa=>Pl 1<|ng<|Pl 1<|?_
 have bs:=ub aa c
 refine L0<|aR bs 13<|Pl 1<|?_
 have bt:=ub aa b
 refine L0<|aR bt 13<|?_
 have ab:=aI G aa
 refine L0<|Oc<|m1 (ln (gf.old phb ab) (gf.old qhb ab)) fun e6 ac=>Pl 1<|ng<|Pl 1<|?_
 have a2:=ub ac bs
 refine L0<|aR a2 14<|Pl 1<|?_
 have P:=ub ac bt
 refine L0<|aR P 14<|?_
 have ad:=aI ab ac
 refine L0<|Oc<|m1 (kI (b7.old phd ad) (b7.old qhd ad)) fun cQ n=>Pl 1<|nt<|sq<|sg<|Pl 3<|cu 3 [146] 149 (((!(decide (A.words=B.words)))||(!(decide (A.bits=B.bits))))) (fun K bu=>?_) ?_
 refine bl 146 ((!(decide (A.words=B.words)))) (fun Q=>?_) (fun Q=>?_)
 have ae:(decide (A.words=B.words))=false:=by simpa using Q
 have cR:=of_decide_eq_false ae
 exact Pl 3<|ce bu true (by rw[Q];rfl)
 have ae:(decide (A.words=B.words))=true:=by simpa using Q
 have cR:=of_decide_eq_true ae
 exact Pl 3<|ce bu (!(decide (A.bits=B.bits))) (by rw[Q];rfl)
 refine Pl 1<|cu 3 [150] 153 ((((!(decide (A.words=B.words)))||(!(decide (A.bits=B.bits))))||(!(decide (A.data=B.data))))) (fun K bv=>?_) ?_
 refine bl 150 (((!(decide (A.words=B.words)))||(!(decide (A.bits=B.bits))))) (fun R=>?_) (fun R=>?_)
 exact Pl 3<|ce bv true (by rw[R];rfl)
 have cS:=(aJ R).1
 have cU:=(aJ R).2
 have cV:(decide (A.words=B.words))=true:=by simpa using cS
 have q74anp:=of_decide_eq_true cV
 have cW:(decide (A.bits=B.bits))=true:=by simpa using cU
 have q74bnp:=of_decide_eq_true cW
 exact Pl 3<|ce bv (!(decide (A.data=B.data))) (by rw[R];rfl)
 refine Pl 1<|cu 8 [154] 162 (((((!(decide (A.words=B.words)))||(!(decide (A.bits=B.bits))))||(!(decide (A.data=B.data))))||(((A.recs.length:Nat) : Int)!=((B.recs.length:Nat) : Int)))) (fun K bw=>?_) ?_
 refine bl 154 ((((!(decide (A.words=B.words)))||(!(decide (A.bits=B.bits))))||(!(decide (A.data=B.data))))) (fun S=>?_) (fun S=>?_)
 exact Pl 8<|ce bw true (by rw[S];rfl)
 have bz:=(aJ S).1
 have cX:=(aJ S).2
 have cY:=(aJ bz).1
 have cZ:=(aJ bz).2
 have q76aan:(decide (A.words=B.words))=true:=by simpa using cY
 have q76aanp:=of_decide_eq_true q76aan
 have q76abn:(decide (A.bits=B.bits))=true:=by simpa using cZ
 have q76abnp:=of_decide_eq_true q76abn
 have d0:(decide (A.data=B.data))=true:=by simpa using cX
 have q76bnp:=of_decide_eq_true d0
 refine Pl 1<|?_
 refine L1<|aR (ub n a2) 15<|Pl 2<|?_
 exact L1<|aR (ub n P) 15<|Pl 3<|ce bw (((A.recs.length:Nat) : Int)!=((B.recs.length:Nat) : Int)) (by rw[S];rfl)
 refine Pl 1<|cu 8 [163] 171 ((((((!(decide (A.words=B.words)))||(!(decide (A.bits=B.bits))))||(!(decide (A.data=B.data))))||(((A.recs.length:Nat) : Int)!=((B.recs.length:Nat) : Int)))||(((A.objects.length:Nat) : Int)!=((B.objects.length:Nat) : Int)))) (fun K bA=>?_) ?_
 refine bl 163 (((((!(decide (A.words=B.words)))||(!(decide (A.bits=B.bits))))||(!(decide (A.data=B.data))))||(((A.recs.length:Nat) : Int)!=((B.recs.length:Nat) : Int)))) (fun T=>?_) (fun T=>?_)
 exact Pl 8<|ce bA true (by rw[T];rfl)
 have bB:=(aJ T).1
 have d1:=(aJ T).2
 have bC:=(aJ bB).1
 have d2:=(aJ bB).2
 have q80aaa:=(aJ bC).1
 have q80aab:=(aJ bC).2
 have q80aaan:(decide (A.words=B.words))=true:=by simpa using q80aaa
 have q80aaanp:=of_decide_eq_true q80aaan
 have q80aabn:(decide (A.bits=B.bits))=true:=by simpa using q80aab
 have q80aabnp:=of_decide_eq_true q80aabn
 have q80abn:(decide (A.data=B.data))=true:=by simpa using d2
 have q80abnp:=of_decide_eq_true q80abn
 have e7:=ai d1
 refine Pl 1<|?_
 refine L1<|aR (ub n a2) 21<|Pl 2<|?_
 exact L1<|aR (ub n P) 21<|Pl 3<|ce bA (((A.objects.length:Nat) : Int)!=((B.objects.length:Nat) : Int)) (by rw[T];rfl)
 refine nt<|?_
 have bD:=aI ad n
 refine cb ((((((!(decide (A.words=B.words)))||(!(decide (A.bits=B.bits))))||(!(decide (A.data=B.data))))||(((A.recs.length:Nat) : Int)!=((B.recs.length:Nat) : Int)))||(((A.objects.length:Nat) : Int)!=((B.objects.length:Nat) : Int)))) (fun U=>?_) (fun U=>?_)
 refine sg<|Pl 1<|nt<|rt<|tr<|rr (.bool false)<|?_
 have hs:decide (A=B)=false:=kY (f:=fun x y=>(((((!(decide (x.words=y.words)))||(!(decide (x.bits=y.bits))))||(!(decide (x.data=y.data))))||(((x.recs.length:Nat) : Int)!=((y.recs.length:Nat) : Int)))||(((x.objects.length:Nat) : Int)!=((y.objects.length:Nat) : Int)))) U (fun M=>by simp)
 rw[hs]
 exact⟨rfl,bD⟩
 have bE:=(aJ U).1
 have d3:=(aJ U).2
 have bF:=(aJ bE).1
 have d4:=(aJ bE).2
 have q85aaa:=(aJ bF).1
 have q85aab:=(aJ bF).2
 have q85aaaa:=(aJ q85aaa).1
 have q85aaab:=(aJ q85aaa).2
 have q85aaaan:(decide (A.words=B.words))=true:=by simpa using q85aaaa
 have q85aaaanp:=of_decide_eq_true q85aaaan
 have q85aaabn:(decide (A.bits=B.bits))=true:=by simpa using q85aaab
 have q85aaabnp:=of_decide_eq_true q85aaabn
 have q85aabn:(decide (A.data=B.data))=true:=by simpa using q85aab
 have q85aabnp:=of_decide_eq_true q85aabn
 have q85abp:=ai d4
 have e8:=ai d3
 refine bq<|sq<|sg<|Pl 1<|nt<|bk<|?_
 refine iu (fun x=>[(2,.pointer (some ⟨i,0,none⟩)),(3,.pointer (some ⟨l,0,none⟩)),(8,.int .i64 ((x:Nat) : Int))]) (fun(x:Nat) w'=>aE [] cQ w'∧(A.recs.take x=B.recs.take x)∧(x≤A.recs.length)) (fun x=>A.recs.length-x) 0 ⟨aE.refl _ _,(by(try dsimp only);simp),(by(try dsimp only);omega)⟩ ?_
 rintro j d5 ⟨a3,d6,d7⟩
 refine iv [(2,.pointer (some ⟨i,0,none⟩)),(3,.pointer (some ⟨l,0,none⟩)),(8,.int .i64 ((j:Nat) : Int))] ?_
 have bG:A.recs.take j=B.recs.take j:=d6
 have e9:j≤A.recs.length:=d7
 refine sq<|sg<|Pl 2<|?_
 have a4:=aI n a3
 have af:=ub a4 a2
 refine L0<|aR af 15<|Pl 2<|nt<|?_
 have a5:=aI bD a3
 refine cb ((decide (((j:Nat) : Int)<((A.recs.length:Nat) : Int)))) (fun ah=>?_) (fun ah=>?_)
 have d8:=of_decide_eq_true ah
 refine bq<|sq<|bk<|sg<|Pl 1<|L0<|aR af 15<|Pl 1<|iW (kE.elt phr j (by omega)) fun ea eb ec ed ee bH bJ d9 da db ef dc=>L0<|qI 4 A.recs.length j d9 (by omega)<|?_
 refine L0<|vc [.int .u16 ((A.recs.getD j ⟨0,0,0,[]⟩).file),.int .u16 ((A.recs.getD j ⟨0,0,0,[]⟩).record),.int .u16 ((A.recs.getD j ⟨0,0,0,[]⟩).count),.slice bH ((A.recs.getD j ⟨0,0,0,[]⟩).words.length) bJ] (ub a5 da) dc<|L0<|bI #[.int .u16 0,.int .u16 0,.int .u16 0,.slice none 0 0] fun eg eh aj dd ak=>L0<|b6 dd #[.int .u16 ((A.recs.getD j ⟨0,0,0,[]⟩).file),.int .u16 ((A.recs.getD j ⟨0,0,0,[]⟩).record),.int .u16 ((A.recs.getD j ⟨0,0,0,[]⟩).count),.slice bH ((A.recs.getD j ⟨0,0,0,[]⟩).words.length) bJ] fun ei de al=>ng<|Pl 1<|?_
 refine L0<|aR (ub (u1 (aI a4 ak) al (ni a4.size aj)) P) 15<|Pl 1<|iW (kE.elt qhr j (by omega)) fun ej ek el em eo bK bL df dg dh ep di=>L0<|qI 4 B.recs.length j df (by omega)<|?_
 have am:=u1 (aI a5 ak) al (ni a5.size aj)
 refine L0<|vc [.int .u16 ((B.recs.getD j ⟨0,0,0,[]⟩).file),.int .u16 ((B.recs.getD j ⟨0,0,0,[]⟩).record),.int .u16 ((B.recs.getD j ⟨0,0,0,[]⟩).count),.slice bK ((B.recs.getD j ⟨0,0,0,[]⟩).words.length) bL] (ub am dg) di<|L0<|bI #[.int .u16 0,.int .u16 0,.int .u16 0,.slice none 0 0] fun eq er an dj ao=>L0<|b6 dj #[.int .u16 ((B.recs.getD j ⟨0,0,0,[]⟩).file),.int .u16 ((B.recs.getD j ⟨0,0,0,[]⟩).record),.int .u16 ((B.recs.getD j ⟨0,0,0,[]⟩).count),.slice bK ((B.recs.getD j ⟨0,0,0,[]⟩).words.length) bL] fun es a6 ap=>ng<|Pl 1<|?_
 have a7:=ub (u1 ao ap (nr an)) de
 refine L0<|aR a7 3<|Pl 1<|L0<|aR a6 3<|?_
 have aq:=u1 (aI am ao) ap (ni am.size an)
 refine L0<|Oc<|m1 (ic (dN.old db aq) (dN.old dh aq)) fun et h=>Pl 1<|ng<|Pl 3<|cu 6 [196] 202 (((!(decide ((A.recs.getD j ⟨0,0,0,[]⟩).words=(B.recs.getD j ⟨0,0,0,[]⟩).words)))||(((A.recs.getD j ⟨0,0,0,[]⟩).file)!=((B.recs.getD j ⟨0,0,0,[]⟩).file)))) (fun K bM=>?_) ?_
 refine bl 196 ((!(decide ((A.recs.getD j ⟨0,0,0,[]⟩).words=(B.recs.getD j ⟨0,0,0,[]⟩).words)))) (fun V=>?_) (fun V=>?_)
 have ar:(decide ((A.recs.getD j ⟨0,0,0,[]⟩).words=(B.recs.getD j ⟨0,0,0,[]⟩).words))=false:=by simpa using V
 have dk:=of_decide_eq_false ar
 exact Pl 6<|ce bM true (by rw[V];rfl)
 have ar:(decide ((A.recs.getD j ⟨0,0,0,[]⟩).words=(B.recs.getD j ⟨0,0,0,[]⟩).words))=true:=by simpa using V
 have dk:=of_decide_eq_true ar
 refine Pl 1<|?_
 refine L1<|aR (ub h a7) 0<|Pl 1<|?_
 exact L1<|aR (ub h a6) 0<|Pl 2<|ce bM (((A.recs.getD j ⟨0,0,0,[]⟩).file)!=((B.recs.getD j ⟨0,0,0,[]⟩).file)) (by rw[V];rfl)
 refine Pl 1<|cu 6 [203] 209 ((((!(decide ((A.recs.getD j ⟨0,0,0,[]⟩).words=(B.recs.getD j ⟨0,0,0,[]⟩).words)))||(((A.recs.getD j ⟨0,0,0,[]⟩).file)!=((B.recs.getD j ⟨0,0,0,[]⟩).file)))||(((A.recs.getD j ⟨0,0,0,[]⟩).record)!=((B.recs.getD j ⟨0,0,0,[]⟩).record)))) (fun K bN=>?_) ?_
 refine bl 203 (((!(decide ((A.recs.getD j ⟨0,0,0,[]⟩).words=(B.recs.getD j ⟨0,0,0,[]⟩).words)))||(((A.recs.getD j ⟨0,0,0,[]⟩).file)!=((B.recs.getD j ⟨0,0,0,[]⟩).file)))) (fun W=>?_) (fun W=>?_)
 exact Pl 6<|ce bN true (by rw[W];rfl)
 have dl:=(aJ W).1
 have dm:=(aJ W).2
 have dn:(decide ((A.recs.getD j ⟨0,0,0,[]⟩).words=(B.recs.getD j ⟨0,0,0,[]⟩).words))=true:=by simpa using dl
 have q156anp:=of_decide_eq_true dn
 have eu:=ai dm
 refine Pl 1<|?_
 refine L1<|aR (ub h a7) 1<|Pl 1<|?_
 exact L1<|aR (ub h a6) 1<|Pl 2<|ce bN (((A.recs.getD j ⟨0,0,0,[]⟩).record)!=((B.recs.getD j ⟨0,0,0,[]⟩).record)) (by rw[W];rfl)
 refine Pl 1<|cu 6 [210] 216 (((((!(decide ((A.recs.getD j ⟨0,0,0,[]⟩).words=(B.recs.getD j ⟨0,0,0,[]⟩).words)))||(((A.recs.getD j ⟨0,0,0,[]⟩).file)!=((B.recs.getD j ⟨0,0,0,[]⟩).file)))||(((A.recs.getD j ⟨0,0,0,[]⟩).record)!=((B.recs.getD j ⟨0,0,0,[]⟩).record)))||(((A.recs.getD j ⟨0,0,0,[]⟩).count)!=((B.recs.getD j ⟨0,0,0,[]⟩).count)))) (fun K bO=>?_) ?_
 refine bl 210 ((((!(decide ((A.recs.getD j ⟨0,0,0,[]⟩).words=(B.recs.getD j ⟨0,0,0,[]⟩).words)))||(((A.recs.getD j ⟨0,0,0,[]⟩).file)!=((B.recs.getD j ⟨0,0,0,[]⟩).file)))||(((A.recs.getD j ⟨0,0,0,[]⟩).record)!=((B.recs.getD j ⟨0,0,0,[]⟩).record)))) (fun X=>?_) (fun X=>?_)
 exact Pl 6<|ce bO true (by rw[X];rfl)
 have bQ:=(aJ X).1
 have dp:=(aJ X).2
 have dq:=(aJ bQ).1
 have dr:=(aJ bQ).2
 have q160aan:(decide ((A.recs.getD j ⟨0,0,0,[]⟩).words=(B.recs.getD j ⟨0,0,0,[]⟩).words))=true:=by simpa using dq
 have q160aanp:=of_decide_eq_true q160aan
 have q160abp:=ai dr
 have ev:=ai dp
 refine Pl 1<|?_
 refine L1<|aR (ub h a7) 2<|Pl 1<|?_
 exact L1<|aR (ub h a6) 2<|Pl 2<|ce bO (((A.recs.getD j ⟨0,0,0,[]⟩).count)!=((B.recs.getD j ⟨0,0,0,[]⟩).count)) (by rw[X];rfl)
 refine nt<|?_
 refine cb (((((!(decide ((A.recs.getD j ⟨0,0,0,[]⟩).words=(B.recs.getD j ⟨0,0,0,[]⟩).words)))||(((A.recs.getD j ⟨0,0,0,[]⟩).file)!=((B.recs.getD j ⟨0,0,0,[]⟩).file)))||(((A.recs.getD j ⟨0,0,0,[]⟩).record)!=((B.recs.getD j ⟨0,0,0,[]⟩).record)))||(((A.recs.getD j ⟨0,0,0,[]⟩).count)!=((B.recs.getD j ⟨0,0,0,[]⟩).count)))) (fun Y=>?_) (fun Y=>?_)
 refine sg<|Pl 1<|nt<|rt<|br<|tr<|tr<|br<|tr<|rr (.bool false)<|?_
 have hs:decide (A=B)=false:=kY (f:=fun x y=>((((!(decide ((x.recs.getD j ⟨0,0,0,[]⟩).words=(y.recs.getD j ⟨0,0,0,[]⟩).words)))||(((x.recs.getD j ⟨0,0,0,[]⟩).file)!=((y.recs.getD j ⟨0,0,0,[]⟩).file)))||(((x.recs.getD j ⟨0,0,0,[]⟩).record)!=((y.recs.getD j ⟨0,0,0,[]⟩).record)))||(((x.recs.getD j ⟨0,0,0,[]⟩).count)!=((y.recs.getD j ⟨0,0,0,[]⟩).count)))) Y (fun M=>by simp)
 rw[hs]
 exact⟨rfl,(aI aq h)⟩
 have bR:=(aJ Y).1
 have ds:=(aJ Y).2
 have bS:=(aJ bR).1
 have dt:=(aJ bR).2
 have q165aaa:=(aJ bS).1
 have q165aab:=(aJ bS).2
 have q165aaan:(decide ((A.recs.getD j ⟨0,0,0,[]⟩).words=(B.recs.getD j ⟨0,0,0,[]⟩).words))=true:=by simpa using q165aaa
 have q165aaanp:=of_decide_eq_true q165aaan
 have q165aabp:=ai q165aab
 have q165abp:=ai dt
 have ew:=ai ds
 refine sk<|bn<|tn<|go<|Pl 1<|L0<|Oi (((j:Nat) : Int)+1)<|Pl 1<|nl<|?_
 have bT:=u1 (aI a3 ak) al (ni a3.size aj)
 exact fU (j+1) ⟨(aI (u1 (aI bT ao) ap (ni bT.size an)) h),(oG (d:=⟨0,0,0,[]⟩) bG (by omega) (by omega) (tL Y)),(by(try dsimp only);omega)⟩ (by omega)
 have d8:=of_decide_eq_false ah
 refine xt<|tx<|tx<|bx<|tn<|sq<|sg<|Pl 1<|nt<|bk<|?_
 refine iu (fun x=>[(2,.pointer (some ⟨i,0,none⟩)),(3,.pointer (some ⟨l,0,none⟩)),(12,.int .i64 ((x:Nat) : Int))]) (fun(x:Nat) w'=>aE [] d5 w'∧(A.objects.take x=B.objects.take x)∧(x≤A.objects.length)) (fun x=>A.objects.length-x) 0 ⟨aE.refl _ _,(by(try dsimp only);simp),(by(try dsimp only);omega)⟩ ?_
 rintro k ex ⟨a8,du,dv⟩
 refine iv [(2,.pointer (some ⟨i,0,none⟩)),(3,.pointer (some ⟨l,0,none⟩)),(12,.int .i64 ((k:Nat) : Int))] ?_
 have bU:A.objects.take k=B.objects.take k:=du
 have ey:k≤A.objects.length:=dv
 refine sq<|sg<|Pl 2<|?_
 have bV:=ub a8 af
 refine L0<|aR bV 21<|Pl 2<|nt<|?_
 have bW:=aI a5 a8
 refine cb ((decide (((k:Nat) : Int)<((A.objects.length:Nat) : Int)))) (fun av=>?_) (fun av=>?_)
 have dw:=of_decide_eq_true av
 refine bq<|sq<|bk<|sq<|iW (m7.elt pho k (by omega)) fun bX bY ez eA eB dy dz bZ dA dB eC aw=>iW (m7.elt qho k (by omega)) fun c0 c2 eD eE eF dC dD c3 dE dF eG ax=>Rg 14 (fun w'=>w'.cell? ⟨i,21,none⟩=some (.slice po A.objects.length pko)∧w'.cell? ⟨bX,bY+k*2+1,none⟩=some (.slice dy ((A.objects.getD k ⟨0,[]⟩).value.length) dz)∧w'.cell? ⟨l,21,none⟩=some (.slice qo B.objects.length qko)∧w'.cell? ⟨c0,c2+k*2+1,none⟩=some (.slice dC ((B.objects.getD k ⟨0,[]⟩).value.length) dD)) fun eH a9=>?_
 have c4:=ub a9 bV
 have Z:=aI bW a9
 have c5:=ub Z dA
 have c6:=ub (aI (aI a4 a8) a9) P
 have c7:=ub Z dE
 refine bh ⟨(ag c4 rfl),(kJ c5 aw 1 rfl (by decide)),(ag c6 rfl),(kJ c7 ax 1 rfl (by decide))⟩ fun g=>Rt 0 g<|Rl 1 g (fun _ hs=>hs.1)<|Rt 2 g<|Ri 3 g 2 A.objects.length k ((k:Nat) : Int) rfl bZ (by omega)<|Rt 4 g<|Rl 5 g (fun _ hs=>hs.2.1)<|Rt 6 g<|Rl 7 g (fun _ hs=>hs.2.2.1)<|Rt 8 g<|Ri 9 g 2 B.objects.length k ((k:Nat) : Int) rfl c3 (by omega)<|Rt 10 g<|Rl 11 g (fun _ hs=>hs.2.2.2)<|?_
 refine R0 12 rfl<|Oc<|m1 (kI (b7.old dB Z) (b7.old dF Z)) fun eI o=>?_
 have c8:=ub o c4
 have c9:=ub o c5
 have ca:=ub o c6
 have cc:=ub o c7
 refine bh ⟨(ag c8 rfl),(kJ c9 aw 1 rfl (by decide)),(ag ca rfl),(kJ cc ax 1 rfl (by decide))⟩ fun dG=>Rt 13 dG<|re<|tn<|sq<|Rg 17 (fun w'=>w'.cell? ⟨i,21,none⟩=some (.slice po A.objects.length pko)∧w'.cell? ⟨bX,bY+k*2+0,none⟩=some (.int .u8 ((A.objects.getD k ⟨0,[]⟩).id))∧w'.cell? ⟨l,21,none⟩=some (.slice qo B.objects.length qko)∧w'.cell? ⟨c0,c2+k*2+0,none⟩=some (.int .u8 ((B.objects.getD k ⟨0,[]⟩).id))) fun eJ p=>?_
 refine bh ⟨(ag (ub p c8) rfl),(kJ (ub p c9) aw 0 rfl (by decide)),(ag (ub p ca) rfl),(kJ (ub p cc) ax 0 rfl (by decide))⟩ fun a=>Rt 0 a<|Rt 1 a<|Rt 2 a<|?_
 have cd:=aI (aI Z o) p
 refine pa 239 ((!(decide ((A.objects.getD k ⟨0,[]⟩).value=(B.objects.getD k ⟨0,[]⟩).value)))) (fun a0=>?_) (fun a0=>?_)
 have ay:(decide ((A.objects.getD k ⟨0,[]⟩).value=(B.objects.getD k ⟨0,[]⟩).value))=false:=by simpa using a0
 have dH:=of_decide_eq_false ay
 refine Ro 3 a<|Ro 4 a<|Ro 5 a<|Ro 6 a<|Ro 7 a<|Ro 8 a<|Ro 9 a<|Ro 10 a<|Ro 11 a<|Ro 12 a<|Ro 13 a<|Ro 14 a<|Ro 15 a<|Rt 16 a<|?_
 refine re<|tn<|c1<|sg<|Pl 1<|nt<|rt<|br<|tr<|tr<|br<|tr<|?_
 refine rr (.bool false)<|?_
 have hs:decide (A=B)=false:=kY (f:=fun x y=>(!(decide ((x.objects.getD k ⟨0,[]⟩).value=(y.objects.getD k ⟨0,[]⟩).value)))) a0 (fun M=>by simp)
 rw[hs]
 exact⟨rfl,cd⟩
 have ay:(decide ((A.objects.getD k ⟨0,[]⟩).value=(B.objects.getD k ⟨0,[]⟩).value))=true:=by simpa using a0
 have dH:=of_decide_eq_true ay
 refine Rt 3 a<|Rl 4 a (fun _ hs=>hs.1)<|Rt 5 a<|Ri 6 a 2 A.objects.length k ((k:Nat) : Int) rfl bZ (by omega)<|Rt 7 a<|Rl 8 a (fun _ hs=>hs.2.1)<|Rt 9 a<|Rl 10 a (fun _ hs=>hs.2.2.1)<|Rt 11 a<|Ri 12 a 2 B.objects.length k ((k:Nat) : Int) rfl c3 (by omega)<|Rt 13 a<|Rl 14 a (fun _ hs=>hs.2.2.2)<|Rt 15 a<|Rt 16 a<|?_
 refine re<|tn<|cb ((((A.objects.getD k ⟨0,[]⟩).id)!=((B.objects.getD k ⟨0,[]⟩).id))) (fun a1=>?_) (fun a1=>?_)
 have dI:=au a1
 refine sg<|Pl 1<|nt<|rt<|br<|tr<|tr<|br<|tr<|rr (.bool false)<|?_
 have hs:decide (A=B)=false:=kY (f:=fun x y=>(((x.objects.getD k ⟨0,[]⟩).id)!=((y.objects.getD k ⟨0,[]⟩).id))) a1 (fun M=>by simp)
 rw[hs]
 exact⟨rfl,cd⟩
 have dI:=ai a1
 refine sk<|bn<|tn<|go<|Pl 1<|L0<|Oi (((k:Nat) : Int)+1)<|Pl 1<|nl<|?_
 exact fU (k+1) ⟨(aI (aI (aI a8 a9) o) p),(oG (d:=⟨0,[]⟩) bU (by omega) (by omega) (sN a0 a1)),(by(try dsimp only);omega)⟩ (by omega)
 have dw:=of_decide_eq_false av
 refine xt<|tx<|tx<|bx<|tn<|sg<|Pl 1<|nt<|rt<|rr (.bool true)<|?_
 have hs:decide (A=B)=true:=decide_eq_true (sT H O U (fun e=>fT bG (by omega) e) (fun e=>fT bU (by omega) e))
 rw[hs]
 exact⟨rfl,bW⟩
end Go.Proofs.YtogbnemojakcpaaGreat
namespace Go.Proofs.YtogbnemojakcpaaGreat
def N4 (C:ah) : Prop:=C.e≠4
theorem N4.need{C:ah}{b:Bool}{x:Int}(hx:x≠4)(h:N4 C) : N4 (C.need b x):=by
  unfold N4 ah.need at *
  split
  · exact hx
  · exact h
theorem N4.bytesC{C:ah}{n:Int}(h:N4 C) : N4 (C.bytesC n):=by
  unfold ah.bytesC
  split
  · exact N4.need (by decide) h
  · exact h
theorem N4.wordsC{C:ah}{n:Int}(h:N4 C) : N4 (C.wordsC n):=by
  unfold ah.wordsC
  split<;>exact N4.bytesC h
theorem N4.recs{one:Int→ah→Int × ah × di}(ho:∀ s C,N4 C→N4 (one s C).2.1) : ∀ (n:Nat)(s:Int)(C:ah)(L:List di),N4 C→N4 (aN one n s C L).1
  | 0,_,_,_,h=>h
  | n+1,s,C,L,h=>by
    unfold aN
    split
    · split
      · exact ho s C h
      · exact N4.recs ho n _ _ _ (ho s C h)
    · exact h
theorem o4{x:Int}(h:x≠4) : bo x≠4:=by
  unfold bo
  split
  · decide
  · exact h
theorem s3{dir c:Int}{C:ah}{r:ah × aP}(hC:N4 C)(h:aD dir c C=some r) : N4 r.1:=by
  unfold aD at h
  repeat' split at h
  all_goals first | cases h | skip
  all_goals simp only[cD,co,ci,ek,bA,ii,dM,db,jP,eW]
  all_goals repeat' first | with_reducible exact hC | with_reducible apply N4.bytesC | with_reducible apply N4.wordsC | (with_reducible refine N4.need (by decide) ?_)
theorem sV{dir c:Int}{C:ah}{r:ah × aP}(hC:N4 C)(h:aH dir c C=some r) : N4 r.1:=by
  unfold aH at h
  repeat' split at h
  all_goals first | cases h | skip
  all_goals simp only[bJ,bN,cS,cA,ck,cz,cy,gJ,lN,lC,bK,oL,d7,kx,qU,vB,uP]
  all_goals repeat' first | with_reducible exact hC | with_reducible apply N4.bytesC | with_reducible apply N4.wordsC | (with_reducible refine N4.need (by decide) ?_)
theorem sl{dir c:Int}{C:ah}{r:ah × aP}(hC:N4 C)(h:aM dir c C=some r) : N4 r.1:=by
  unfold aM dW bU at h
  repeat' split at h
  all_goals first | cases h | skip
  all_goals simp only[eN,iP,gc,gL,du]
  all_goals repeat' first | with_reducible exact hC | with_reducible apply N4.bytesC | with_reducible apply N4.wordsC | (with_reducible refine N4.need (by decide) ?_)
theorem sE(s:Int)(C:ah)(h:N4 C) : N4 (cN s C).2.1:=by
  simp only[cN,ex,dv,gX,gY,lU]
  repeat' first | with_reducible exact h | with_reducible apply N4.bytesC | with_reducible apply N4.wordsC | (with_reducible refine N4.need (by decide) ?_)
theorem rc(s:Int)(C:ah)(h:N4 C) : N4 (bG s C).2.1:=by
  simp only[bG,eC,gG,gK]
  repeat' first | with_reducible exact h | with_reducible apply N4.bytesC | with_reducible apply N4.wordsC | (with_reducible refine N4.need (by decide) ?_)
theorem so(s:Int)(C:ah)(h:N4 C) : N4 (cK s C).2.1:=by
  simp only[cK,i1,n7,dv,gX,gY,lU]
  repeat' first | with_reducible exact h | with_reducible apply N4.bytesC | with_reducible apply N4.wordsC | (with_reducible refine N4.need (by decide) ?_)
theorem iz{one:Int→ah→Int × ah × di}(ho:∀ s C,N4 C→N4 (one s C).2.1)(may:Int→Bool)(c:Int){C:ah}(hC:N4 C) : N4 (dL one may c C).1:=by
  unfold dL jK
  refine N4.need (o4 (N4.recs ho _ _ _ _ ?_)) (N4.bytesC (N4.need (by decide) (N4.bytesC hC)))
  show(0:Int)≠4
  decide
theorem rZ{dir c:Int}{C:ah}{r:ah × aP}(hC:N4 C)(h:aY dir c C=some r) : N4 r.1:=by
  unfold aY at h
  repeat' split at h
  all_goals first | cases h | skip
  · exact iz sE _ _ hC
  · exact iz rc _ _ hC
  · exact iz so _ _ hC
theorem N4.endC{C:ah}(h:N4 C) : N4 C.endC:=by
  unfold ah.endC
  exact N4.need (by decide) h
theorem qK{form:Int→Int→ah→Option (ah × aP)}(hg:∀ {dir c:Int}{C:ah}{r:ah × aP},N4 C→form dir c C=some r→N4 r.1){dir c:Int}{b:List Int}(hd:dir=0∨dir=1){r:ah × aP}(hf:form dir c ⟨b,false,0⟩=some r) :
    (ae form dir c b).2≠4:=by
  unfold ae
  rw[if_pos hd,hf]
  have h0:N4 ⟨b,false,0⟩:=by show(0:Int)≠4;decide
  have g1:=hg h0 hf
  show(aF r.2 r.1).2≠4
  unfold aF
  split
  · exact(show ¬ (0:Int)=4 from by decide)
  · exact N4.endC g1
theorem mM{form:Int→Int→ah→Option (ah × aP)}{dir c:Int}{b:List Int}(hd:dir=0∨dir=1)(hf:form dir c ⟨b,false,0⟩=none) : ae form dir c b=(aP.zero,4):=by
  unfold ae
  rw[if_pos hd,hf]
def eH (dir:Int)(b:List Int) : aP × Int :=
  if (ae aD dir (b.getD 0 0) (b.drop 1)).2==4 then
    if (ae aH dir (b.getD 0 0) (b.drop 1)).2==4 then
      if (ae aM dir (b.getD 0 0) (b.drop 1)).2==4 then
        if (ae aY dir (b.getD 0 0) (b.drop 1)).2==4 then ae bE dir (b.getD 0 0) (b.drop 1)
        else ae aY dir (b.getD 0 0) (b.drop 1)
      else ae aM dir (b.getD 0 0) (b.drop 1)
    else ae aH dir (b.getD 0 0) (b.drop 1)
  else ae aD dir (b.getD 0 0) (b.drop 1)
theorem pm{dir:Int}{b:List Int}(hd:dir=0∨dir=1) : eH dir b=iR (jz (b.getD 0 0)) dir b:=by
  have no:∀ (form:Int→Int→ah→Option (ah × aP)),form dir (b.getD 0 0) ⟨b.drop 1,false,0⟩=none→((ae form dir (b.getD 0 0) (b.drop 1)).2==4)=true:=fun f h=>by rw[mM hd h];rfl
  have ye:∀ (form:Int→Int→ah→Option (ah × aP)),(∀ {dir c:Int} {C:ah} {r:ah × aP},N4 C→form dir c C=some r→N4 r.1)→(form dir (b.getD 0 0) ⟨b.drop 1,false,0⟩).isSome=true→¬ ((ae form dir (b.getD 0 0) (b.drop 1)).2==4)=true:=fun form hg h=>by
    obtain⟨r,hr⟩:=Option.isSome_iff_exists.1 h
    have k:=qK (form:=form) (c:=b.getD 0 0) (fun hC h=>hg hC h) hd hr
    rw[beq_iff_eq]
    exact k
  unfold eH
  rcases gw (b.getD 0 0) with⟨hk,hf⟩|⟨hk,hf⟩|⟨hk,hf⟩|⟨hk,hf⟩|⟨hk,hf⟩|⟨hk,hf⟩<;>rw[hf]
  · rw[if_neg (ye aD (fun hC h=>s3 hC h) (by rcases hd with rfl | rfl<;>rcases hk with h | h | h | h<;>rw[h]<;>rfl))]
    rfl
  · rw[if_pos (no aD (by rcases hk with h | h | h | h | h | h | h<;>rw[h]<;>rfl)),if_neg (ye aH (fun hC h=>sV hC h) (by rcases hd with rfl | rfl<;>rcases hk with h | h | h | h | h | h | h<;>rw[h]<;>rfl))]
    rfl
  · rw[if_pos (no aD (by rcases hk with h | h | h | h | h<;>rw[h]<;>rfl)),if_pos (no aH (by rcases hk with h | h | h | h | h<;>rw[h]<;>rfl)),if_neg (ye aM (fun hC h=>sl hC h) (by rcases hd with rfl | rfl<;>rcases hk with h | h | h | h | h<;>rw[h]<;>rfl))]
    rfl
  · rw[if_pos (no aD (by rcases hk with h | h<;>rw[h]<;>rfl)),if_pos (no aH (by rcases hk with h | h<;>rw[h]<;>rfl)),if_pos (no aM (by rcases hk with h | h<;>rw[h]<;>rfl)),if_neg (ye aY (fun hC h=>rZ hC h) (by rcases hd with rfl | rfl<;>rcases hk with h | h<;>rw[h]<;>rfl))]
    rfl
  · rw[if_pos (no aD (by rw[hk]<;>rfl)),if_pos (no aH (by rw[hk]<;>rfl)),if_pos (no aM (by rw[hk]<;>rfl)),if_pos (no aY (by rw[hk]<;>rfl))]
    rfl
  · have no0:∀ (form:Int→Int→ah→Option (ah × aP)),(∀ C,form dir (b.getD 0 0) C=none)→((ae form dir (b.getD 0 0) (b.drop 1)).2==4)=true:=fun f h=>no f (h _)
    have ne:∀ k:Int,¬ b.getD 0 0=k→(b.getD 0 0==k)=false:=fun k h=>by simpa using h
    obtain⟨z1,z2,z5,a,z3,z4,z6,d,e,g,i,z7,z8,j,l,m,n,o,p⟩:=hk
    rw[if_pos (no0 aD fun C=>by unfold aD;simp only[ne _ z1,ne _ z2,ne _ z5,ne _ a,Bool.or_false,Bool.false_eq_true,if_false]),if_pos (no0 aH fun C=>by unfold aH;simp only[ne _ z3,ne _ z4,ne _ z6,ne _ d,ne _ e,ne _ g,ne _ i,Bool.or_false,Bool.false_eq_true,if_false]),if_pos (no0 aM fun C=>by unfold aM;simp only[ne _ z7,ne _ z8,ne _ j,ne _ l,ne _ m,Bool.or_false,Bool.false_eq_true,if_false]),if_pos (no0 aY fun C=>by unfold aY;simp only[ne _ n,ne _ o,Bool.or_false,Bool.false_eq_true,if_false])]
    exact mM hd (by unfold bE;rw[if_pos (show(b.getD 0 0 != 43)=true from by rw[bne_iff_ne];exact p)])
def ft (dir:Int)(b:List Int) : aP × Int :=
  if dir != 0&&dir != 1 then (aP.zero,1)
  else if (b.length:Int)==0 then (aP.zero,2)
  else if decide (253<(b.length:Int)) then (aP.zero,3)
  else if decide (128≤b.getD 0 0)&&dir==1 then eF b
  else eH dir b
theorem eP(dir:Int)(b:List Int) : ft dir b=dB dir b:=by
  unfold ft dB
  split
  · rfl
  · rename_i hh
    have hd:dir=0∨dir=1:=by simp only[Bool.and_eq_true,bne_iff_ne,ne_eq] at hh;omega
    rw[pm hd]
open Go.RowKit
theorem pu{xs:List Int}{k a b:Nat}(h:2*k+1<xs.length)(ha:a=2*k)(hb:b=2*k+1)(hr:∀ x,x∈xs→0≤x∧x<256) : cZ (xs.drop (2*k))=[(((256*xs.getD a 0)%65536)+xs.getD b 0)%65536]++cZ (xs.drop (2*(k+1))):=by
  subst ha hb
  rw[List.drop_eq_getElem_cons (show 2*k<xs.length by omega),List.drop_eq_getElem_cons h]
  have h1:=hr _ (List.getElem_mem (show 2*k<xs.length by omega))
  have h2:=hr _ (List.getElem_mem h)
  have e1:xs.getD (2*k) 0=xs[2*k]:=by rw[List.getD_eq_getElem?_getD,List.getElem?_eq_getElem (by omega)];rfl
  have e2:xs.getD (2*k+1) 0=xs[2*k+1]:=by rw[List.getD_eq_getElem?_getD,List.getElem?_eq_getElem h];rfl
  rw[e1,e2]
  show(xs[2*k]*256+xs[2*k+1]) :: cZ (xs.drop (2*k+1+1))=_
  rw[show 2*k+1+1=2*(k+1) by omega,show((256*xs[2*k])%65536+xs[2*k+1])%65536=xs[2*k]*256+xs[2*k+1] by omega]
  rfl
theorem pW{xs L:List Int}{k:Nat}(h:L++cZ (xs.drop (2*k))=cZ xs)(h1:¬ 2*k+1<xs.length)(h2:xs.length%2=0) : L=cH xs:=by
  have hd:xs.drop (2*k)=[]:=List.drop_eq_nil_of_le (by omega)
  rw[hd] at h
  unfold cH
  rw[if_pos h2,← h]
  simp[cZ]
theorem ux{m:Md}{A:Option Addr}{cp:Nat}{xs:List Int}{w:World}(h:b7 m w (.slice A xs.length cp) xs)(hn:xs.length≤1048576) : Calls Tryz.prog 217 #[.slice A xs.length cp] w (ri xs w):=by
 have hr:=b7.range h
 refine en 33 Tryz.func217 rfl<|sg<|Pl 1<|ng<|Pl 1<|nt<|sq<|sg<|?_
 refine Pl 2<|L0<|Oe (.int .i64 (Int.tmod ((xs.length:Nat) : Int) 2)) (.int .i64 (((xs.length:Nat) : Int)%2)) (congrArg (Value.int .i64) (Int.tmod_eq_emod_of_nonneg (by omega)))<|Pl 1<|nt<|cb (((((xs.length:Nat) : Int)%2)==1)) (fun f=>?_) (fun f=>?_)
 have y:=al f
 refine sg<|Pl 1<|nt<|rt<|tr<|rr (.slice none 0 0)<|?_
 have hs:cH xs=[]:=by unfold cH;rw[if_neg (by have:=al f;omega)]
 exact⟨_,rfl,by rw[hs];exact be.nil ..,(aE.refl [] _)⟩
 have y:=ap f
 refine bq<|sq<|sg<|Pl 1<|nt<|bk<|?_
 refine iu (fun x=>[(0,.slice A xs.length cp),(2,.slice none 0 0),(3,.slice x.2.2.1 x.2.1.length x.2.2.2),(4,.int .i64 ((2*x.1:Nat) : Int))]) (fun(x:Nat × List Int × Option Addr × Nat) w'=>aE [] w w'∧iU w.heap.size w' (.slice x.2.2.1 x.2.1.length x.2.2.2) x.2.1∧(2*x.1≤xs.length)∧(x.2.1++cZ (xs.drop (2*x.1))=cZ xs)∧(x.2.1.length=x.1)) (fun x=>xs.length-2*x.1) (0,[],none,0) ⟨aE.refl _ _,(be.nil w.heap.size _ _ qH _),(by(try dsimp only);omega),rfl,rfl⟩ ?_
 rintro⟨k,L,B,cq⟩ z ⟨g,C,D,E,F⟩
 refine iv [(0,.slice A xs.length cp),(2,.slice none 0 0),(3,.slice B L.length cq),(4,.int .i64 ((2*k:Nat) : Int))] ?_
 have j:iU w.heap.size z (.slice B L.length cq) L:=C
 have T:2*k≤xs.length:=D
 have U:L++cZ (xs.drop (2*k))=cZ xs:=E
 have V:L.length=k:=F
 have hL:L++cZ (xs.drop (2*k))=cZ xs:=by assumption
 refine sq<|sg<|Pl 1<|L0<|Oi (((2*k:Nat) : Int)+1)<|Pl 3<|nt<|cb ((decide ((((2*k:Nat) : Int)+1)<((xs.length:Nat) : Int)))) (fun l=>?_) (fun l=>?_)
 have G:=of_decide_eq_true l
 refine bq<|sq<|bk<|?_
 have o:=b7.old h g
 refine fA (b7.at_ o (2*k) (by omega)) fun H I p q W=>fA (b7.at_ o (((((2*k:Nat) : Int)+1)).toNat) (by omega)) fun J K r s X=>Rg 17 (fun w'=>w'.cell? ⟨H,I+2*k,none⟩=some (.int .u8 (xs.getD (2*k) 0))∧w'.cell? ⟨J,K+((((2*k:Nat) : Int)+1)).toNat,none⟩=some (.int .u8 (xs.getD (((((2*k:Nat) : Int)+1)).toNat) 0))) fun Y d=>bh ⟨(uc d q),(uc d s)⟩ fun c=>Rt 0 c<|Rt 1 c<|Rt 2 c<|oh 3 c xs.length (2*k) ((2*k:Nat) : Int) rfl p (by omega)<|Rl 4 c (fun _ hs=>hs.1)<|Rr 5 c (.int .u16 (xs.getD (2*k) 0)) (fun _ _=>cJ (.int .u16 (IntKind.u16.wrap (xs.getD (2*k) 0))) (by kernel_rfl) (congrArg (Value.int .u16) (ij (by omega))))<|Rt 6 c<|Rt 7 c<|Rt 8 c<|Rr 9 c (.int .i64 (((2*k:Nat) : Int)+1)) (fun _ _=>cJ (.int .i64 (IntKind.i64.wrap (((2*k:Nat) : Int)+1))) (by kernel_rfl) (congrArg (Value.int .i64) (IntWalk.i64_in _ (by omega))))<|?_
 refine oh 10 c xs.length (((((2*k:Nat) : Int)+1)).toNat) (((2*k:Nat) : Int)+1) (by omega) r (by omega)<|Rl 11 c (fun _ hs=>hs.2)<|Rr 12 c (.int .u16 (xs.getD (((((2*k:Nat) : Int)+1)).toNat) 0)) (fun _ _=>cJ (.int .u16 (IntKind.u16.wrap (xs.getD (((((2*k:Nat) : Int)+1)).toNat) 0))) (by kernel_rfl) (congrArg (Value.int .u16) (ij (by omega))))<|Rt 13 c<|R0 14 rfl<|dA (m:=1) (e:=24) #[.int .u16 ((((256*(xs.getD (2*k) 0))%65536)+(xs.getD (((((2*k:Nat) : Int)+1)).toNat) 0))%65536)] fun Z a0 M N n=>?_
 have O:=ec M (xs:=[((((256*(xs.getD (2*k) 0))%65536)+(xs.getD (((((2*k:Nat) : Int)+1)).toNat) 0))%65536)]) (by as_aux_lemma=>kernel_rfl) (az (by omega) aZ) (by(try simp only[List.length_cons,List.length_nil]);omega) N
 have i:=aI d n
 refine bh ⟨(uc i q),(uc i s)⟩ fun a1=>?_
 refine R0 15 rfl<|cO oC (xs:=L) (ys:=([((((256*(xs.getD (2*k) 0))%65536)+(xs.getD (((((2*k:Nat) : Int)+1)).toNat) 0))%65536)])) (.int .u16 0) 2 (ax j i (fun x hx=>ay) (fun _ _ h=>h)) (O).rd (by(try simp only[List.length_append,List.length_cons,List.length_nil,aC]);omega) (le (le g.size d.size) n.size) fun P Q a2 R t=>?_
 have a3:=ut (aE.mono (S':=(ob B++[])) i aq) t (av (fun x hx=>Or.inl (by simp[hx])) aq)
 have u:=ut (aI (aI g d) n) t (av (aU j lr) aq)
 have v:=b7.old h u
 exact bh ⟨(cB v p (2*k) (by omega)),(cB v r (((((2*k:Nat) : Int)+1)).toNat) (by omega))⟩ fun S=>Rt 16 S<|re<|bn<|tn<|go<|Pl 1<|L0<|Oi (((2*k:Nat) : Int)+2)<|Pl 1<|nl<|fU ((k+1),(L++[((((256*(xs.getD (2*k) 0))%65536)+(xs.getD (((((2*k:Nat) : Int)+1)).toNat) 0))%65536)]),P,Q) ⟨u,R,(by(try dsimp only);omega),(by(try dsimp only);rw[← hL,pu (k:=k) (a:=2*k) (b:=(((2*k:Nat) : Int)+1).toNat) (by omega) rfl (by omega) hr,List.append_assoc]),(by(try dsimp only);simp only[List.length_append,List.length_cons,List.length_nil];omega)⟩ (by omega)
 have G:=of_decide_eq_false l
 refine xt<|tx<|tx<|bx<|tn<|sg<|Pl 2<|nt<|rt<|rr (.slice B L.length cq)<|?_
 have hs:L=cH xs:=pW hL (by omega) (by omega)
 exact⟨_,rfl,by rw[← hs];exact j,g⟩
theorem tJ{m:Md}{v:Value}{xs:List Int}{w:World}(h:b7 m w v xs)(hn:xs.length≤1048576) : Calls Tryz.prog 217 #[v] w (ri xs w):=by
  obtain⟨A,cp,rfl,_,_⟩:=h.shape
  exact ux h hn
theorem oT{a n:Int}{w:World}(ha:0≤a∧a<65536)(hn : -1048576≤n∧n≤1048576) : Calls Tryz.prog 215 #[.int .u16 a,.int .i64 n] w (cT (.bool (dh a n)) w):=by
 refine en 16 Tryz.func215 rfl<|sg<|Pl 1<|nt<|sq<|sg<|Pl 3<|cu 3 [7] 10 (((decide (n<1))||(decide (65536<n)))) (fun K d=>?_) ?_
 refine bl 7 ((decide (n<1))) (fun b=>?_) (fun b=>?_)
 have e:=of_decide_eq_true b
 exact Pl 3<|ce d true (by rw[b];rfl)
 have e:=of_decide_eq_false b
 exact Pl 3<|ce d (decide (65536<n)) (by rw[b];rfl)
 refine nt<|cb (((decide (n<1))||(decide (65536<n)))) (fun c=>?_) (fun c=>?_)
 refine sg<|Pl 1<|nt<|rt<|tr<|rr (.bool false)<|?_
 have hq:=c
 have hs:dh a n=false:=by unfold dh;simp only[Bool.or_eq_true,decide_eq_true_eq] at hq;simp only[Bool.and_eq_false_iff,decide_eq_false_iff_not];omega
 rw[hs]
 exact⟨rfl,(aE.refl [] _)⟩
 have f:=(aJ c).1
 have g:=(aJ c).2
 have h:=of_decide_eq_false f
 have i:=of_decide_eq_false g
 refine bq<|sg<|Pl 1<|L0<|Oi a<|Pl 1<|L0<|Oi (a+n)<|Pl 2<|nt<|rt<|rr (.bool (decide ((a+n)≤65536)))<|?_
 have hs:dh a n=(decide ((a+n)≤65536)):=by unfold dh;rw[Bool.eq_iff_iff];simp only[Bool.and_eq_true,decide_eq_true_eq];omega
 rw[hs]
 exact⟨rfl,(aE.refl [] _)⟩
end Go.Proofs.YtogbnemojakcpaaGreat
