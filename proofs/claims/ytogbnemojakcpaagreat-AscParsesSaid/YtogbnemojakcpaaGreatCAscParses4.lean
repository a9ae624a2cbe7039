/- Contracts of functions, part CAscParses4. -/
import Derived.Test.YtogbnemojakcpaaGreatCAscParses1
import Derived.Test.YtogbnemojakcpaaGreatCAscParses2
import Derived.Test.YtogbnemojakcpaaGreatCAscParses3
import Derived.OpenShut
import Derived.Below
import Derived.Lib.ConvBytes
import Derived.Lib.OthersKept
import Derived.Laws.BitsAllLaws
import Derived.Shelf.Strings.Builder1
import Derived.Laws.StructEq
set_option linter.unusedVariables false
set_option linter.unusedSimpArgs false
set_option maxRecDepth 100000
set_option maxHeartbeats 4000000
namespace Go.Proofs.YtogbnemojakcpaaGreat
open Go.RowKit
def bW (dir:Int)(M:aP) : List Int :=
  if M.code==8 then bf [M.sub]++bf M.words
  else if dir==0 then []
  else if M.code==7 then [M.value%256]
  else if M.code==11 then bf [M.status,M.events]
  else if M.code==12 then (([(6+(M.data.length:Int))%256]++bf [M.status,M.events,M.messages])++M.data)
  else [(M.data.length:Int)%256]++M.data
theorem nL{m:Md}{cs:Array Value}{M:aP}{w:World}{dir:Int}(h:aW m w cs.toList M)(hf:cY M)(hd0:(dir==0)=true) : Calls Tryz.prog 208 #[.int .i64 dir,.agg cs] w (gQ (bW dir M) w):=by
 obtain⟨vw,vb,vd,vr,vo,h0,hw,hbt,hd,hr,ho,hR⟩:=h
 obtain rfl:cs=(bQ M vw vb vd vr vo).toArray:=by apply Array.toList_inj.1;simpa using h0
 clear h0
 obtain⟨Aw,kw,rfl,_,_⟩:=hw.shape
 obtain⟨Ab,kb,rfl,_,_⟩:=hbt.shape
 obtain⟨Ad,kd,rfl,_,_⟩:=hd.shape
 obtain⟨Ar,kr,rfl,_,_⟩:=hr.shape
 obtain⟨Ao,ko,rfl,_,_⟩:=ho.shape
 obtain⟨q0,q1,q2,q3,q4,q5,q6,q7,q8,q9,u,v,y,z,A,B,C⟩:=hR
 simp only[B8,dm] at q0 q1 q2 q3 q4 q5 q6 q7 q8 q9 u v y z A B C
 have hf1:=hf.words
 have hf2:=hf.bits
 have hf3:=hf.data
 have hf4:=hf.recs
 have hf5:=hf.objects
 refine en 70 Tryz.func208 rfl<|sg<|L0<|dz (mG M.code M.fail M.addr M.count M.value M.and_ M.or_ M.addr2 M.sub M.status M.events M.messages (.slice Aw M.words.length kw) (.slice Ab M.bits.length kb) (.slice Ad M.data.length kd) (.slice Ar M.recs.length kr) M.mei M.kind M.level M.more M.next (.slice Ao M.objects.length ko)) fun q O P i d=>Pl 1<|nt<|sq<|bk<|sg<|Pl 1<|L0<|aR i 0<|Pl 2<|nl<|?_
 refine tn<|cb ((M.code==8)) (fun a=>?_) (fun a=>?_)
 have D:=al a
 refine sq<|Rg 9 (fun w'=>w'.cell? ⟨q,8,none⟩=some (.int .u16 M.sub)∧w'.cell? ⟨q,12,none⟩=some (.slice Aw M.words.length kw)) fun Q b=>?_
 have j:=ub b i
 refine bh ⟨(ag j rfl),(ag j rfl)⟩ fun f=>Rt 0 f<|Rl 1 f (fun _ hs=>hs.1)<|Rt 4 f<|Rl 5 f (fun _ hs=>hs.2)<|R0 2 rfl<|dx (m:=1) (e:=24) #[.int .u16 M.sub] fun R S E F c=>?_
 have G:=ee E (xs:=[M.sub]) (by as_aux_lemma=>kernel_rfl) (az (by omega) aX) (by(try simp only[List.length_cons,List.length_nil]);omega) F
 have k:=ub c j
 refine bh ⟨(ag k rfl),(ag k rfl)⟩ fun T=>R0 3 rfl<|Oc<|ep (bC (xs:=[M.sub]) (G).rd (by(try simp only[List.length_cons,List.length_nil]);omega)) fun H U V l W X n=>?_
 have o:=ub n k
 refine bh ⟨(ag o rfl),(ag o rfl)⟩ fun Y=>?_
 have r:=aH d (aH b (aH c n))
 refine R0 6 rfl<|Oc<|ep (bC (xs:=M.words) (dN.old hw r) (by(try simp only[List.length_cons,List.length_nil]);omega)) fun Z a0 a1 I a2 a3 g=>?_
 have p:=ub g o
 refine bh ⟨(ag p rfl),(ag p rfl)⟩ fun a4=>?_
 refine R0 7 rfl<|cK bt (xs:=(bf ([M.sub]))) (ys:=(bf M.words)) (.int .u8 0) 1 (ax l g (fun x hx=>ay) (fun _ _ h=>h)) (I).rd (by(try simp only[List.length_append,List.length_cons,List.length_nil,aB]);omega) (le n.size g.size) fun J K a5 L s=>?_
 have t:=aD.blk s (bi (aA (ak i) (le b.size c.size) l) ay) p
 refine bh ⟨(ag t rfl),(ag t rfl)⟩ fun N=>Rt 8 N<|re<|tn<|rt<|br<|tr<|rr (.slice J (((bf ([M.sub]))++(bf M.words)).length) K)<|?_
 have hs:bW dir M=((bf ([M.sub]))++(bf M.words)):=by
   unfold bW
   (try simp only[hd0,a,bs,if_true,if_false,decide_true,decide_false,reduceIte])
   all_goals rfl
 rw[hs]
 exact⟨_,rfl,(be.weaken L (le (le d.size b.size) c.size)),(ut r (ut (aD.mono (S':=(ob H++[])) g aq) s (av il aq)) (av (aT l (le (le d.size b.size) c.size)) aq))⟩
 have D:=ap a
 refine sg<|Pl 3<|nt<|ct hd0<|sg<|Pl 1<|nt<|rt<|br<|tr<|?_
 refine rr (.slice none 0 0)<|?_
 have hs:bW dir M=[]:=by
   unfold bW
   (try simp only[hd0,a,bs,if_true,if_false,decide_true,decide_false,reduceIte])
   all_goals rfl
 rw[hs]
 exact⟨_,rfl,(be.nil ..),d⟩
theorem nN{m:Md}{cs:Array Value}{M:aP}{w:World}{dir:Int}(h:aW m w cs.toList M)(hf:cY M)(hd0:(dir==0)=false) : Calls Tryz.prog 208 #[.int .i64 dir,.agg cs] w (gQ (bW dir M) w):=by
 obtain⟨vw,vb,vd,vr,vo,h0,hw,hbt,hd,hr,ho,hR⟩:=h
 obtain rfl:cs=(bQ M vw vb vd vr vo).toArray:=by apply Array.toList_inj.1;simpa using h0
 clear h0
 obtain⟨Aw,kw,rfl,_,_⟩:=hw.shape
 obtain⟨Ab,kb,rfl,_,_⟩:=hbt.shape
 obtain⟨Ad,kd,rfl,_,_⟩:=hd.shape
 obtain⟨Ar,kr,rfl,_,_⟩:=hr.shape
 obtain⟨Ao,ko,rfl,_,_⟩:=ho.shape
 obtain⟨q0,q1,q2,q3,q4,q5,q6,q7,q8,q9,ai,aj,am,an,ao,ar,au⟩:=hR
 simp only[B8,dm] at q0 q1 q2 q3 q4 q5 q6 q7 q8 q9 ai aj am an ao ar au
 have hf1:=hf.words
 have hf2:=hf.bits
 have hf3:=hf.data
 have hf4:=hf.recs
 have hf5:=hf.objects
 refine en 70 Tryz.func208 rfl<|sg<|L0<|dz (mG M.code M.fail M.addr M.count M.value M.and_ M.or_ M.addr2 M.sub M.status M.events M.messages (.slice Aw M.words.length kw) (.slice Ab M.bits.length kb) (.slice Ad M.data.length kd) (.slice Ar M.recs.length kr) M.mei M.kind M.level M.more M.next (.slice Ao M.objects.length ko)) fun l bV bX b a=>Pl 1<|nt<|sq<|bk<|sg<|Pl 1<|L0<|aR b 0<|Pl 2<|nl<|?_
 refine tn<|cb ((M.code==8)) (fun f=>?_) (fun f=>?_)
 have aw:=al f
 refine sq<|Rg 9 (fun w'=>w'.cell? ⟨l,8,none⟩=some (.int .u16 M.sub)∧w'.cell? ⟨l,12,none⟩=some (.slice Aw M.words.length kw)) fun bY p=>?_
 have J:=ub p b
 refine bh ⟨(ag J rfl),(ag J rfl)⟩ fun E=>Rt 0 E<|Rl 1 E (fun _ hs=>hs.1)<|Rt 4 E<|Rl 5 E (fun _ hs=>hs.2)<|R0 2 rfl<|dx (m:=1) (e:=24) #[.int .u16 M.sub] fun bZ c0 aC aE q=>?_
 have aF:=ee aC (xs:=[M.sub]) (by as_aux_lemma=>kernel_rfl) (az (by omega) aX) (by(try simp only[List.length_cons,List.length_nil]);omega) aE
 have K:=ub q J
 refine bh ⟨(ag K rfl),(ag K rfl)⟩ fun c1=>R0 3 rfl<|Oc<|ep (bC (xs:=[M.sub]) (aF).rd (by(try simp only[List.length_cons,List.length_nil]);omega)) fun aG c2 c3 L c4 c5 N=>?_
 have O:=ub N K
 refine bh ⟨(ag O rfl),(ag O rfl)⟩ fun c6=>?_
 have X:=aH a (aH p (aH q N))
 refine R0 6 rfl<|Oc<|ep (bC (xs:=M.words) (dN.old hw X) (by(try simp only[List.length_cons,List.length_nil]);omega)) fun c7 c8 c9 aI ca cc F=>?_
 have P:=ub F O
 refine bh ⟨(ag P rfl),(ag P rfl)⟩ fun cd=>?_
 refine R0 7 rfl<|cK bt (xs:=(bf ([M.sub]))) (ys:=(bf M.words)) (.int .u8 0) 1 (ax L F (fun x hx=>ay) (fun _ _ h=>h)) (aI).rd (by(try simp only[List.length_append,List.length_cons,List.length_nil,aB]);omega) (le N.size F.size) fun aJ aK ce aL Y=>?_
 have Z:=aD.blk Y (bi (aA (ak b) (le p.size q.size) L) ay) P
 refine bh ⟨(ag Z rfl),(ag Z rfl)⟩ fun aM=>Rt 8 aM<|re<|tn<|rt<|br<|tr<|rr (.slice aJ (((bf ([M.sub]))++(bf M.words)).length) aK)<|?_
 have hs:bW dir M=((bf ([M.sub]))++(bf M.words)):=by
   unfold bW
   (try simp only[hd0,f,bs,if_true,if_false,decide_true,decide_false,reduceIte])
   all_goals rfl
 rw[hs]
 exact⟨_,rfl,(be.weaken aL (le (le a.size p.size) q.size)),(ut X (ut (aD.mono (S':=(ob aG++[])) F aq) Y (av il aq)) (av (aT L (le (le a.size p.size) q.size)) aq))⟩
 have aw:=ap f
 refine sg<|Pl 3<|nt<|cf hd0<|sg<|Pl 1<|L0<|aR b 0<|Pl 2<|nt<|cb ((M.code==7)) (fun g=>?_) (fun g=>?_)
 have aN:=al g
 refine sg<|Pl 1<|L0<|aR b 4<|Pl 1<|L0<|dx (m:=1) (e:=5) #[.int .u8 (M.value%256)] fun aO cg aQ aS aU=>?_
 have aV:=dF aQ (xs:=[(M.value%256)]) (by as_aux_lemma=>kernel_rfl) (az (by omega) aX) (by(try simp only[List.length_cons,List.length_nil]);omega) aS
 refine Pl 1<|nt<|rt<|br<|tr<|rr (.slice (some ⟨aO,0,none⟩) 1 1)<|?_
 have hs:bW dir M=[(M.value%256)]:=by
   unfold bW
   (try simp only[hd0,f,g,bs,if_true,if_false,decide_true,decide_false,reduceIte])
   all_goals rfl
 rw[hs]
 exact⟨_,rfl,(be.weaken aV a.size),(aH a aU)⟩
 have aN:=ap g
 refine sg<|Pl 1<|L0<|aR b 0<|Pl 2<|nt<|cb ((M.code==11)) (fun j=>?_) (fun j=>?_)
 have aY:=al j
 refine sg<|Pl 1<|L0<|aR b 9<|Pl 1<|L0<|aR b 10<|L0<|dx (m:=2) (e:=24) #[.int .u16 M.status,.int .u16 M.events] fun ch ci aZ b0 a0=>?_
 have b1:=ee aZ (xs:=[M.status,M.events]) (by as_aux_lemma=>kernel_rfl) (az (by omega) (az (by omega) aX)) (by(try simp only[List.length_cons,List.length_nil]);omega) b0
 refine L0<|Oc<|ep (bC (xs:=[M.status,M.events]) (b1).rd (by(try simp only[List.length_cons,List.length_nil]);omega)) fun b2 b3 cj b4 ck cl b5=>Pl 1<|nt<|rt<|br<|tr<|rr (.slice b2 ((bf ([M.status,M.events])).length) b3)<|?_
 have hs:bW dir M=(bf ([M.status,M.events])):=by
   unfold bW
   (try simp only[hd0,f,g,j,bs,if_true,if_false,decide_true,decide_false,reduceIte])
   all_goals rfl
 rw[hs]
 exact⟨_,rfl,(be.weaken b4 (le a.size a0.size)),(aH a (aH a0 b5))⟩
 have aY:=ap j
 refine sg<|Pl 1<|L0<|aR b 0<|Pl 2<|nt<|cb ((M.code==12)) (fun k=>?_) (fun k=>?_)
 have b6:=al k
 refine sq<|Rg 16 (fun w'=>w'.cell? ⟨l,14,none⟩=some (.slice Ad M.data.length kd)∧w'.cell? ⟨l,9,none⟩=some (.int .u16 M.status)∧w'.cell? ⟨l,10,none⟩=some (.int .u16 M.events)∧w'.cell? ⟨l,11,none⟩=some (.int .u16 M.messages)) fun cm c=>?_
 have n:=ub c b
 refine bh ⟨(ag n rfl),(ag n rfl),(ag n rfl),(ag n rfl)⟩ fun d=>Rt 0 d<|Rl 1 d (fun _ hs=>hs.1)<|Rt 2 d<|Rr 3 d (.int .i64 (6+((M.data.length:Nat) : Int))) (fun _ _=>cJ (.int .i64 (IntKind.i64.wrap (6+((M.data.length:Nat) : Int)))) (by kernel_rfl) (congrArg (Value.int .i64) (IntWalk.i64_in _ (by omega))))<|Rt 4 d<|Rt 6 d<|Rl 7 d (fun _ hs=>hs.2.1)<|Rt 8 d<|Rl 9 d (fun _ hs=>hs.2.2.1)<|Rt 10 d<|Rl 11 d (fun _ hs=>hs.2.2.2)<|?_
 refine R2 5 12 rfl rfl ?_ ?_
 refine  dx (m:=1) (e:=5) #[.int .u8 ((6+((M.data.length:Nat) : Int))%256)] fun b7 cn b8 ba Q=>?_
 have R:=dF b8 (xs:=[((6+((M.data.length:Nat) : Int))%256)]) (by as_aux_lemma=>kernel_rfl) (az (by omega) aX) (by(try simp only[List.length_cons,List.length_nil]);omega) ba
 have r:=ub Q n
 refine bh ⟨(ag r rfl),(ag r rfl),(ag r rfl),(ag r rfl)⟩ fun co=>R0 12 rfl<|dx (m:=3) (e:=24) #[.int .u16 M.status,.int .u16 M.events,.int .u16 M.messages] fun cp cq bb bc S=>?_
 have bd:=ee bb (xs:=[M.status,M.events,M.messages]) (by as_aux_lemma=>kernel_rfl) (az (by omega) (az (by omega) (az (by omega) aX))) (by(try simp only[List.length_cons,List.length_nil]);omega) bc
 have s:=ub S r
 refine bh ⟨(ag s rfl),(ag s rfl),(ag s rfl),(ag s rfl)⟩ fun cr=>R0 13 rfl<|Oc<|ep (bC (xs:=[M.status,M.events,M.messages]) (bd).rd (by(try simp only[List.length_cons,List.length_nil]);omega)) fun ct cu cv bg cw cx T=>?_
 have t:=ub T s
 refine bh ⟨(ag t rfl),(ag t rfl),(ag t rfl),(ag t rfl)⟩ fun cy=>?_
 have a1:=aH S T
 refine R0 14 rfl<|cK bt (xs:=([((6+((M.data.length:Nat) : Int))%256)])) (ys:=(bf ([M.status,M.events,M.messages]))) (.int .u8 0) 1 (ax R a1 (fun x hx=>ay) (fun _ _ h=>h)) (bg).rd (by(try simp only[List.length_append,List.length_cons,List.length_nil,aB]);omega) (le (le Q.size S.size) T.size) fun cz cA cB a2 a3=>?_
 have u:=aD.blk a3 (bi (aA (ak b) c.size R) ay) t
 refine bh ⟨(ag u rfl),(ag u rfl),(ag u rfl),(ag u rfl)⟩ fun bj=>Rt 15 bj<|re<|tn<|sg<|Pl 2<|L0<|aR u 14<|?_
 have a4:=ut Q (ut (aD.mono (S':=(ob (some ⟨b7,0,none⟩)++[])) a1 aq) a3 (av il aq)) (av (aT R lr) aq)
 have a5:=aH a (aH c a4)
 refine L0<|cK bt (xs:=([((6+((M.data.length:Nat) : Int))%256)]++(bf ([M.status,M.events,M.messages])))) (ys:=M.data) (.int .u8 0) 1 a2 (b9.old hd a5) (by(try simp only[List.length_append,List.length_cons,List.length_nil,aB]);omega) a4.size fun bl bm cC bo bp=>Pl 1<|nt<|rt<|br<|tr<|rr (.slice bl ((([((6+((M.data.length:Nat) : Int))%256)]++(bf ([M.status,M.events,M.messages])))++M.data).length) bm)<|?_
 have hs:bW dir M=(([((6+((M.data.length:Nat) : Int))%256)]++(bf ([M.status,M.events,M.messages])))++M.data):=by
   unfold bW
   (try simp only[hd0,f,g,j,k,bs,if_true,if_false,decide_true,decide_false,reduceIte])
   all_goals rfl
 rw[hs]
 exact⟨_,rfl,(be.weaken bo (le a.size c.size)),(ut a5 bp (av (aT a2 (le a.size c.size)) aq))⟩
 refine  dx (m:=3) (e:=24) #[.int .u16 M.status,.int .u16 M.events,.int .u16 M.messages] fun cD cE bq bu i=>?_
 have a6:=ee bq (xs:=[M.status,M.events,M.messages]) (by as_aux_lemma=>kernel_rfl) (az (by omega) (az (by omega) (az (by omega) aX))) (by(try simp only[List.length_cons,List.length_nil]);omega) bu
 have o:=ub i n
 refine bh ⟨(ag o rfl),(ag o rfl),(ag o rfl),(ag o rfl)⟩ fun cF=>?_
 refine R2 5 13 rfl rfl ?_ ?_
 refine  dx (m:=1) (e:=5) #[.int .u8 ((6+((M.data.length:Nat) : Int))%256)] fun bv cG bw bx G=>?_
 have U:=dF bw (xs:=[((6+((M.data.length:Nat) : Int))%256)]) (by as_aux_lemma=>kernel_rfl) (az (by omega) aX) (by(try simp only[List.length_cons,List.length_nil]);omega) bx
 have v:=ub G o
 refine bh ⟨(ag v rfl),(ag v rfl),(ag v rfl),(ag v rfl)⟩ fun cH=>?_
 refine R0 13 rfl<|Oc<|ep (bC (xs:=[M.status,M.events,M.messages]) ((ax a6 G (fun x hx=>ay) (fun _ _ h=>h))).rd (by(try simp only[List.length_cons,List.length_nil]);omega)) fun cI cL cM bz cN cO H=>?_
 have y:=ub H v
 refine bh ⟨(ag y rfl),(ag y rfl),(ag y rfl),(ag y rfl)⟩ fun cP=>?_
 refine R0 14 rfl<|cK bt (xs:=([((6+((M.data.length:Nat) : Int))%256)])) (ys:=(bf ([M.status,M.events,M.messages]))) (.int .u8 0) 1 (ax U H (fun x hx=>ay) (fun _ _ h=>h)) (bz).rd (by(try simp only[List.length_append,List.length_cons,List.length_nil,aB]);omega) (le G.size H.size) fun cQ cR cS a7 a8=>?_
 have z:=aD.blk a8 (bi (aA (ak b) (le c.size i.size) U) ay) y
 refine bh ⟨(ag z rfl),(ag z rfl),(ag z rfl),(ag z rfl)⟩ fun bA=>Rt 15 bA<|re<|tn<|sg<|Pl 2<|L0<|aR z 14<|?_
 have a9:=ut G (ut (aD.mono (S':=(ob (some ⟨bv,0,none⟩)++[])) H aq) a8 (av il aq)) (av (aT U lr) aq)
 have aa:=aH a (aH c (aH i a9))
 refine L0<|cK bt (xs:=([((6+((M.data.length:Nat) : Int))%256)]++(bf ([M.status,M.events,M.messages])))) (ys:=M.data) (.int .u8 0) 1 a7 (b9.old hd aa) (by(try simp only[List.length_append,List.length_cons,List.length_nil,aB]);omega) a9.size fun bB bD cT bE bF=>Pl 1<|nt<|rt<|br<|tr<|rr (.slice bB ((([((6+((M.data.length:Nat) : Int))%256)]++(bf ([M.status,M.events,M.messages])))++M.data).length) bD)<|?_
 have hs:bW dir M=(([((6+((M.data.length:Nat) : Int))%256)]++(bf ([M.status,M.events,M.messages])))++M.data):=by
   unfold bW
   (try simp only[hd0,f,g,j,k,bs,if_true,if_false,decide_true,decide_false,reduceIte])
   all_goals rfl
 rw[hs]
 exact⟨_,rfl,(be.weaken bE (le (le a.size c.size) i.size)),(ut aa bF (av (aT a7 (le (le a.size c.size) i.size)) aq))⟩
 refine  Oc<|ep (bC (xs:=[M.status,M.events,M.messages]) (a6).rd (by(try simp only[List.length_cons,List.length_nil]);omega)) fun cU cV cW bG cX cZ A=>?_
 have B:=ub A o
 refine bh ⟨(ag B rfl),(ag B rfl),(ag B rfl),(ag B rfl)⟩ fun d0=>R0 5 rfl<|dx (m:=1) (e:=5) #[.int .u8 ((6+((M.data.length:Nat) : Int))%256)] fun d1 d2 bH bI I=>?_
 have V:=dF bH (xs:=[((6+((M.data.length:Nat) : Int))%256)]) (by as_aux_lemma=>kernel_rfl) (az (by omega) aX) (by(try simp only[List.length_cons,List.length_nil]);omega) bI
 have C:=ub I B
 refine bh ⟨(ag C rfl),(ag C rfl),(ag C rfl),(ag C rfl)⟩ fun d3=>?_
 refine R0 14 rfl<|cK bt (xs:=([((6+((M.data.length:Nat) : Int))%256)])) (ys:=(bf ([M.status,M.events,M.messages]))) (.int .u8 0) 1 V ((ax bG I (fun x hx=>ay) (fun _ _ h=>h))).rd (by(try simp only[List.length_append,List.length_cons,List.length_nil,aB]);omega) I.size fun d4 d5 d6 ab ac=>?_
 have D:=aD.blk ac (bi (aA (ak b) (le (le c.size i.size) A.size) V) ay) C
 refine bh ⟨(ag D rfl),(ag D rfl),(ag D rfl),(ag D rfl)⟩ fun bJ=>Rt 15 bJ<|re<|tn<|sg<|Pl 2<|L0<|aR D 14<|?_
 have ad:=ut I ac (av (aT V lr) aq)
 have ae:=aH a (aH c (aH i (aH A ad)))
 refine L0<|cK bt (xs:=([((6+((M.data.length:Nat) : Int))%256)]++(bf ([M.status,M.events,M.messages])))) (ys:=M.data) (.int .u8 0) 1 ab (b9.old hd ae) (by(try simp only[List.length_append,List.length_cons,List.length_nil,aB]);omega) ad.size fun bK bL d7 bM bN=>Pl 1<|nt<|rt<|br<|tr<|rr (.slice bK ((([((6+((M.data.length:Nat) : Int))%256)]++(bf ([M.status,M.events,M.messages])))++M.data).length) bL)<|?_
 have hs:bW dir M=(([((6+((M.data.length:Nat) : Int))%256)]++(bf ([M.status,M.events,M.messages])))++M.data):=by
   unfold bW
   (try simp only[hd0,f,g,j,k,bs,if_true,if_false,decide_true,decide_false,reduceIte])
   all_goals rfl
 rw[hs]
 exact⟨_,rfl,(be.weaken bM (le (le (le a.size c.size) i.size) A.size)),(ut ae bN (av (aT ab (le (le (le a.size c.size) i.size) A.size)) aq))⟩
 have b6:=ap k
 refine sk<|bn<|tn<|sg<|Pl 1<|L0<|aR b 14<|Pl 2<|L0<|dx (m:=1) (e:=5) #[.int .u8 (((M.data.length:Nat) : Int)%256)] fun d8 d9 bO bP W=>?_
 have af:=dF bO (xs:=[(((M.data.length:Nat) : Int)%256)]) (by as_aux_lemma=>kernel_rfl) (az (by omega) aX) (by(try simp only[List.length_cons,List.length_nil]);omega) bP
 refine Pl 1<|?_
 refine L0<|aR (ub W b) 14<|?_
 have ah:=aH a W
 refine L0<|cK bt (xs:=([(((M.data.length:Nat) : Int)%256)])) (ys:=M.data) (.int .u8 0) 1 af (b9.old hd ah) (by(try simp only[List.length_append,List.length_cons,List.length_nil,aB]);omega) W.size fun bR bS da bT bU=>Pl 1<|nt<|rt<|rr (.slice bR (([(((M.data.length:Nat) : Int)%256)]++M.data).length) bS)<|?_
 have hs:bW dir M=([(((M.data.length:Nat) : Int)%256)]++M.data):=by
   unfold bW
   (try simp only[hd0,f,g,j,k,bs,if_true,if_false,decide_true,decide_false,reduceIte])
   all_goals rfl
 rw[hs]
 exact⟨_,rfl,(be.weaken bT a.size),(ut ah bU (av (aT af a.size) aq))⟩
theorem sR{m:Md}{cs:Array Value}{M:aP}{w:World}{dir:Int}(h:aW m w cs.toList M)(hf:cY M) : Calls Tryz.prog 208 #[.int .i64 dir,.agg cs] w (gQ (bW dir M) w):=by
  rcases dC (dir==0) with h0|h0
  · exact nL h hf h0
  · exact nN h hf h0
open Go.RowKit
theorem dB{α:Type}(d:α)(xs:List α)(k:Nat)(h:k<xs.length) : xs.getD k d∈xs:=by
  simp[List.getD_eq_getElem?_getD,List.getElem?_eq_getElem h]
def gG:List Obj→List Int
  | []=>[]
  | o :: r=>([o.id,(o.value.length:Int)%256]++o.value)++gG r
theorem pN(xs:List Obj)(k:Nat)(h:k<xs.length) : gG (xs.drop k)=([(xs.getD k ⟨0,[]⟩).id,((xs.getD k ⟨0,[]⟩).value.length:Int)%256]++(xs.getD k ⟨0,[]⟩).value)++gG (xs.drop (k+1)):=by
  rw[List.drop_eq_getElem_cons h]
  simp[gG,List.getD_eq_getElem?_getD,List.getElem?_eq_getElem h]
def dp (dir:Int)(M:aP) : List Int :=
  if M.mei==13 then [M.mei]++M.data
  else if dir==0 then [M.mei,M.kind,M.next]
  else [M.mei,M.kind,M.level,M.more,M.next,(M.objects.length:Int)%256]++gG M.objects
theorem qL{m:Md}{cs:Array Value}{M:aP}{w:World}{dir:Int}(h:aW m w cs.toList M)(hf:cY M)(hd0:(dir==0)=true) : Calls Tryz.prog 214 #[.int .i64 dir,.agg cs] w (gQ (dp dir M) w):=by
 obtain⟨vw,vb,vd,vr,vo,h0,hw,hbt,hd,hr,ho,hR⟩:=h
 obtain rfl:cs=(bQ M vw vb vd vr vo).toArray:=by apply Array.toList_inj.1;simpa using h0
 clear h0
 obtain⟨Aw,kw,rfl,_,_⟩:=hw.shape
 obtain⟨Ab,kb,rfl,_,_⟩:=hbt.shape
 obtain⟨Ad,kd,rfl,_,_⟩:=hd.shape
 obtain⟨Ar,kr,rfl,_,_⟩:=hr.shape
 obtain⟨Ao,ko,rfl,_,_⟩:=ho.shape
 obtain⟨q0,q1,q2,q3,q4,q5,q6,q7,q8,q9,i,j,k,l,n,o,p⟩:=hR
 simp only[B8,dm] at q0 q1 q2 q3 q4 q5 q6 q7 q8 q9 i j k l n o p
 have hf1:=hf.words
 have hf2:=hf.bits
 have hf3:=hf.data
 have hf4:=hf.recs
 have hf5:=hf.objects
 refine en 64 Tryz.func214 rfl<|sg<|L0<|dz (mG M.code M.fail M.addr M.count M.value M.and_ M.or_ M.addr2 M.sub M.status M.events M.messages (.slice Aw M.words.length kw) (.slice Ab M.bits.length kb) (.slice Ad M.data.length kd) (.slice Ar M.recs.length kr) M.mei M.kind M.level M.more M.next (.slice Ao M.objects.length ko)) fun D E F a b=>Pl 1<|nt<|sq<|bk<|sg<|Pl 1<|L0<|aR a 16<|Pl 2<|nl<|?_
 refine tn<|cb ((M.mei==13)) (fun c=>?_) (fun c=>?_)
 have q:=al c
 refine sg<|Pl 1<|L0<|aR a 16<|L0<|dx (m:=1) (e:=5) #[.int .u8 M.mei] fun G H r s d=>?_
 have f:=dF r (xs:=[M.mei]) (by as_aux_lemma=>kernel_rfl) (az (by omega) aX) (by(try simp only[List.length_cons,List.length_nil]);omega) s
 refine Pl 1<|?_
 refine L0<|aR (ub d a) 14<|?_
 have g:=aH b d
 refine L0<|cK bt (xs:=([M.mei])) (ys:=M.data) (.int .u8 0) 1 f (b9.old hd g) (by(try simp only[List.length_append,List.length_cons,List.length_nil,aB]);omega) d.size fun t u I v x=>Pl 1<|nt<|rt<|br<|tr<|rr (.slice t (([M.mei]++M.data).length) u)<|?_
 have hs:dp dir M=([M.mei]++M.data):=by
   unfold dp
   (try simp only[hd0,c,bs,if_true,if_false,decide_true,decide_false,reduceIte])
   all_goals rfl
 rw[hs]
 exact⟨_,rfl,(be.weaken v b.size),(ut g x (av (aT f b.size) aq))⟩
 have q:=ap c
 refine sg<|Pl 3<|nt<|ct hd0<|sg<|Pl 1<|L0<|aR a 16<|Pl 1<|L0<|aR a 17<|Pl 1<|L0<|aR a 20<|?_
 refine L0<|dx (m:=3) (e:=5) #[.int .u8 M.mei,.int .u8 M.kind,.int .u8 M.next] fun y J z A B=>?_
 have C:=dF z (xs:=[M.mei,M.kind,M.next]) (by as_aux_lemma=>kernel_rfl) (az (by omega) (az (by omega) (az (by omega) aX))) (by(try simp only[List.length_cons,List.length_nil]);omega) A
 refine Pl 1<|nt<|rt<|br<|tr<|rr (.slice (some ⟨y,0,none⟩) 3 3)<|?_
 have hs:dp dir M=[M.mei,M.kind,M.next]:=by
   unfold dp
   (try simp only[hd0,c,bs,if_true,if_false,decide_true,decide_false,reduceIte])
   all_goals rfl
 rw[hs]
 exact⟨_,rfl,(be.weaken C b.size),(aH b B)⟩
theorem ql{m:Md}{cs:Array Value}{M:aP}{w:World}{dir:Int}(h:aW m w cs.toList M)(hf:cY M)(hd0:(dir==0)=false) : Calls Tryz.prog 214 #[.int .i64 dir,.agg cs] w (gQ (dp dir M) w):=by
 obtain⟨vw,vb,vd,vr,vo,h0,hw,hbt,hd,hr,ho,hR⟩:=h
 obtain rfl:cs=(bQ M vw vb vd vr vo).toArray:=by apply Array.toList_inj.1;simpa using h0
 clear h0
 obtain⟨Aw,kw,rfl,_,_⟩:=hw.shape
 obtain⟨Ab,kb,rfl,_,_⟩:=hbt.shape
 obtain⟨Ad,kd,rfl,_,_⟩:=hd.shape
 obtain⟨Ar,kr,rfl,_,_⟩:=hr.shape
 obtain⟨Ao,ko,rfl,_,_⟩:=ho.shape
 obtain⟨q0,q1,q2,q3,q4,q5,q6,q7,q8,q9,O,P,Q,R,S,T,U⟩:=hR
 simp only[B8,dm] at q0 q1 q2 q3 q4 q5 q6 q7 q8 q9 O P Q R S T U
 have hf1:=hf.words
 have hf2:=hf.bits
 have hf3:=hf.data
 have hf4:=hf.recs
 have hf5:=hf.objects
 refine en 64 Tryz.func214 rfl<|sg<|L0<|dz (mG M.code M.fail M.addr M.count M.value M.and_ M.or_ M.addr2 M.sub M.status M.events M.messages (.slice Aw M.words.length kw) (.slice Ab M.bits.length kb) (.slice Ad M.data.length kd) (.slice Ar M.recs.length kr) M.mei M.kind M.level M.more M.next (.slice Ao M.objects.length ko)) fun aE r aF a c=>Pl 1<|nt<|sq<|bk<|sg<|Pl 1<|L0<|aR a 16<|Pl 2<|nl<|?_
 refine tn<|cb ((M.mei==13)) (fun d=>?_) (fun d=>?_)
 have V:=al d
 refine sg<|Pl 1<|L0<|aR a 16<|L0<|dx (m:=1) (e:=5) #[.int .u8 M.mei] fun aG aI W X s=>?_
 have E:=dF W (xs:=[M.mei]) (by as_aux_lemma=>kernel_rfl) (az (by omega) aX) (by(try simp only[List.length_cons,List.length_nil]);omega) X
 refine Pl 1<|?_
 refine L0<|aR (ub s a) 14<|?_
 have F:=aH c s
 refine L0<|cK bt (xs:=([M.mei])) (ys:=M.data) (.int .u8 0) 1 E (b9.old hd F) (by(try simp only[List.length_append,List.length_cons,List.length_nil,aB]);omega) s.size fun Y Z aJ a0 a1=>Pl 1<|nt<|rt<|br<|tr<|rr (.slice Y (([M.mei]++M.data).length) Z)<|?_
 have hs:dp dir M=([M.mei]++M.data):=by
   unfold dp
   (try simp only[hd0,d,bs,if_true,if_false,decide_true,decide_false,reduceIte])
   all_goals rfl
 rw[hs]
 exact⟨_,rfl,(be.weaken a0 c.size),(ut F a1 (av (aT E c.size) aq))⟩
 have V:=ap d
 refine sg<|Pl 3<|nt<|cf hd0<|sk<|bn<|tn<|sg<|Pl 1<|L0<|aR a 16<|Pl 1<|L0<|aR a 17<|?_
 refine Pl 1<|L0<|aR a 18<|Pl 1<|L0<|aR a 19<|Pl 1<|L0<|aR a 20<|Pl 1<|L0<|aR a 21<|Pl 2<|L0<|dx (m:=6) (e:=5) #[.int .u8 M.mei,.int .u8 M.kind,.int .u8 M.level,.int .u8 M.more,.int .u8 M.next,.int .u8 (((M.objects.length:Nat) : Int)%256)] fun a2 a3 a4 a5 j=>?_
 have a6:=dF a4 (xs:=[M.mei,M.kind,M.level,M.more,M.next,(((M.objects.length:Nat) : Int)%256)]) (by as_aux_lemma=>kernel_rfl) (az (by omega) (az (by omega) (az (by omega) (az (by omega) (az (by omega) (az (by omega) aX)))))) (by(try simp only[List.length_cons,List.length_nil]);omega) a5
 refine Pl 1<|nt<|sq<|sg<|Pl 1<|?_
 refine L0<|aR (ub j a) 21<|Pl 2<|nt<|bk<|?_
 refine i1 (fun x=>[(4,.slice none 0 0),(5,.slice x.2.2.1 x.2.1.length x.2.2.2),(44,.slice Ao M.objects.length ko),(45,.int .i64 ((M.objects.length:Nat) : Int)),(46,.int .i64 ((x.1:Nat) : Int))]) (fun(x:Nat × List Int × Option Addr × Nat) w'=>aD [] r w'∧a3.heap.size≤w'.heap.size∧eG r.heap.size w' (.slice x.2.2.1 x.2.1.length x.2.2.2) x.2.1∧(x.1≤M.objects.length)∧(x.2.1++gG (M.objects.drop x.1)=([M.mei,M.kind,M.level,M.more,M.next,(((M.objects.length:Nat) : Int)%256)])++gG M.objects)∧(x.2.1.length≤16+x.1*1026)∧(6≤x.2.1.length)) (fun x=>M.objects.length-x.1) (0,[M.mei,M.kind,M.level,M.more,M.next,(((M.objects.length:Nat) : Int)%256)],some ⟨a2,0,none⟩,6) ⟨j,lr,a6,(by(try dsimp only);omega),rfl,(by(try dsimp only);(try simp only[List.length_cons,List.length_nil]);omega),(by(try dsimp only);(try simp only[List.length_cons,List.length_nil]);omega)⟩ ?_
 rintro⟨k,L,A,cp⟩ a7 ⟨G,t,a8,a9,aa,ab,ac⟩
 refine iq [(4,.slice none 0 0),(5,.slice A L.length cp),(44,.slice Ao M.objects.length ko),(45,.int .i64 ((M.objects.length:Nat) : Int)),(46,.int .i64 ((k:Nat) : Int))] ?_
 have f:eG r.heap.size a7 (.slice A L.length cp) L:=a8
 have aK:k≤M.objects.length:=a9
 have aL:L++gG (M.objects.drop k)=([M.mei,M.kind,M.level,M.more,M.next,(((M.objects.length:Nat) : Int)%256)])++gG M.objects:=aa
 have aM:L.length≤16+k*1026:=ab
 have aN:6≤L.length:=ac
 have hL:L++gG (M.objects.drop k)=([M.mei,M.kind,M.level,M.more,M.next,(((M.objects.length:Nat) : Int)%256)])++gG M.objects:=by assumption
 have hv0:=fun(h:k<M.objects.length)=>hf.objv _ (dB ⟨0,[]⟩ M.objects k h)
 refine sg<|Pl 1<|nt<|sq<|?_
 have u:=aH c G
 refine cb ((decide (((k:Nat) : Int)<((M.objects.length:Nat) : Int)))) (fun l=>?_) (fun l=>?_)
 have ad:=of_decide_eq_true l
 refine bo<|sq<|bk<|sg<|j7 (nv.elt ho k (by omega)) fun aO aQ aS aU aV v y ae af ah aY ai=>L0<|rV 2 M.objects.length k ae (by omega)<|?_
 refine L0<|w7 [.int .u8 ((M.objects.getD k ⟨0,[]⟩).id),.slice v ((M.objects.getD k ⟨0,[]⟩).value.length) y] (ub u af) ai<|L0<|bI #[.int .u8 0,.slice none 0 0] fun H aZ I aj n=>L0<|b6 aj #[.int .u8 ((M.objects.getD k ⟨0,[]⟩).id),.slice v ((M.objects.getD k ⟨0,[]⟩).value.length) y] fun b0 ak o=>nt<|Rg 13 (fun w'=>w'.cell? ⟨H,0,none⟩=some (.int .u8 ((M.objects.getD k ⟨0,[]⟩).id))∧w'.cell? ⟨H,1,none⟩=some (.slice v ((M.objects.getD k ⟨0,[]⟩).value.length) y)) fun b1 g=>?_
 have z:=ub g ak
 refine bh ⟨(ag z rfl),(ag z rfl)⟩ fun b=>Rt 0 b<|Rt 1 b<|Rl 2 b (fun _ hs=>hs.1)<|Rt 3 b<|Rl 4 b (fun _ hs=>hs.2)<|Rt 5 b<|Rt 6 b<|Rt 9 b<|Rl 10 b (fun _ hs=>hs.2)<|R0 7 rfl<|dx (m:=2) (e:=5) #[.int .u8 ((M.objects.getD k ⟨0,[]⟩).id),.int .u8 ((((M.objects.getD k ⟨0,[]⟩).value.length:Nat) : Int)%256)] fun b2 b3 am an i=>?_
 have ao:=dF am (xs:=[(M.objects.getD k ⟨0,[]⟩).id,((((M.objects.getD k ⟨0,[]⟩).value.length:Nat) : Int)%256)]) (by as_aux_lemma=>kernel_rfl) (az (by omega) (az (by omega) aX)) (by(try simp only[List.length_cons,List.length_nil]);omega) an
 have B:=ub i z
 refine bh ⟨(ag B rfl),(ag B rfl)⟩ fun b4=>?_
 have J:=ud n (aH o (aH g i)) I
 refine R0 8 rfl<|cK bt (xs:=L) (ys:=([(M.objects.getD k ⟨0,[]⟩).id,((((M.objects.getD k ⟨0,[]⟩).value.length:Nat) : Int)%256)])) (.int .u8 0) 1 (ax f J (fun x hx=>ay) (fun _ _ h=>h)) (ao).rd (by(try simp only[List.length_append,List.length_cons,List.length_nil,aB]);omega) (le (le (le (le (le j.size t) n.size) o.size) g.size) i.size) fun ar b5 b7 C p=>?_
 have q:=aD.blk p (bi (dO f lr I) ay) B
 refine bh ⟨(ag q rfl),(ag q rfl)⟩ fun b8=>?_
 have K:=ut (aD.mono (S':=(ob A++[])) J aq) p (av il aq)
 refine R0 11 rfl<|cK bt (xs:=(L++[(M.objects.getD k ⟨0,[]⟩).id,((((M.objects.getD k ⟨0,[]⟩).value.length:Nat) : Int)%256)])) (ys:=((M.objects.getD k ⟨0,[]⟩).value)) (.int .u8 0) 1 C (b9.old ah (ut u K (av (aT f c.size) aq))) (by(try simp only[List.length_append,List.length_cons,List.length_nil,aB]);omega) (le (le (le (le (le (le j.size t) n.size) o.size) g.size) i.size) p.size) fun au aw ba aA D=>?_
 have N:=aD.blk D (bi (cQ q C (by decide)) ay) q
 refine bh ⟨(ag N rfl),(ag N rfl)⟩ fun aC=>Rt 12 aC<|re<|bn<|tn<|go<|L0<|Oi (((k:Nat) : Int)+1)<|Pl 1<|nl<|?_
 exact ga ((k+1),((L++[(M.objects.getD k ⟨0,[]⟩).id,((((M.objects.getD k ⟨0,[]⟩).value.length:Nat) : Int)%256)])++(M.objects.getD k ⟨0,[]⟩).value),au,aw) ⟨(ut G (ut (aD.mono (S':=(ob A++(ob ar++[]))) K (av il aq)) D (av il aq)) (av (aT f lr) (av (aT C lr) aq))),(le (le (le (le (le (le t n.size) o.size) g.size) i.size) p.size) D.size),aA,(by(try dsimp only);omega),(by(try dsimp only);rw[← hL,pN  M.objects k (by omega)];simp only[List.append_assoc]),(by(try dsimp only);have hv:=hf.objv _ (dB ⟨0,[]⟩ M.objects k (by omega));(try simp only[List.length_append,List.length_cons,List.length_nil,aB]);omega),(by(try dsimp only);(try simp only[List.length_append,List.length_cons,List.length_nil]);omega)⟩ (by omega)
 have ad:=of_decide_eq_false l
 refine xt<|tx<|tx<|bx<|tn<|sg<|Pl 2<|nt<|rt<|rr (.slice A L.length cp)<|?_
 have hk:k=M.objects.length:=by omega
 rw[hk,List.drop_length] at hL
 have hL2:L=([M.mei,M.kind,M.level,M.more,M.next,(((M.objects.length:Nat) : Int)%256)])++gG M.objects:=by rw[← hL];simp[gG]
 have hs:dp dir M=L:=by
   rw[hL2]
   unfold dp
   (try simp only[hd0,d,l,bs,if_true,if_false,decide_true,decide_false,reduceIte])
   all_goals rfl
 rw[hs]
 exact⟨_,rfl,(be.weaken f c.size),u⟩
theorem tb{m:Md}{cs:Array Value}{M:aP}{w:World}{dir:Int}(h:aW m w cs.toList M)(hf:cY M) : Calls Tryz.prog 214 #[.int .i64 dir,.agg cs] w (gQ (dp dir M) w):=by
  rcases dC (dir==0) with h0|h0
  · exact qL h hf h0
  · exact ql h hf h0
open Go.RowKit
def jl (dir code:Int)(r:dl) : List Int:=(if code==20&&dir==1 then [(1+2*(r.words.length:Int))%256,6] else [6]++bf [r.file,r.record,r.count])++bf r.words
def cU (dir code:Int) : List dl→List Int
  | []=>[]
  | r :: rs=>jl dir code r++cU dir code rs
theorem dw(dir code:Int)(xs:List dl)(k:Nat)(h:k<xs.length) : cU dir code (xs.drop k)=jl dir code (xs.getD k ⟨0,0,0,[]⟩)++cU dir code (xs.drop (k+1)):=by
  rw[List.drop_eq_getElem_cons h]
  simp[cU,List.getD_eq_getElem?_getD,List.getElem?_eq_getElem h]
def cX (dir:Int)(M:aP) : List Int:=([0]++cU dir M.code M.recs).set 0 (((([0]++cU dir M.code M.recs).length:Int)-1)%256)
theorem nw{m:Md}{cs:Array Value}{M:aP}{w:World}{dir:Int}(h:aW m w cs.toList M)(hf:cY M)(hd0:(dir==0)=true) : Calls Tryz.prog 212 #[.int .i64 dir,.agg cs] w (gQ (cX dir M) w):=by
 obtain⟨vw,vb,vd,vr,vo,h0,hw,hbt,hd,hr,ho,hR⟩:=h
 obtain rfl:cs=(bQ M vw vb vd vr vo).toArray:=by apply Array.toList_inj.1;simpa using h0
 clear h0
 obtain⟨Aw,kw,rfl,_,_⟩:=hw.shape
 obtain⟨Ab,kb,rfl,_,_⟩:=hbt.shape
 obtain⟨Ad,kd,rfl,_,_⟩:=hd.shape
 obtain⟨Ar,kr,rfl,_,_⟩:=hr.shape
 obtain⟨Ao,ko,rfl,_,_⟩:=ho.shape
 obtain⟨q0,q1,q2,q3,q4,q5,q6,q7,q8,q9,bg,bj,bm,bp,bq,br,bu⟩:=hR
 simp only[B8,dm] at q0 q1 q2 q3 q4 q5 q6 q7 q8 q9 bg bj bm bp bq br bu
 have hf1:=hf.words
 have hf2:=hf.bits
 have hf3:=hf.data
 have hf4:=hf.recs
 have hf5:=hf.objects
 refine en 58 Tryz.func212 rfl<|sg<|L0<|dz (mG M.code M.fail M.addr M.count M.value M.and_ M.or_ M.addr2 M.sub M.status M.events M.messages (.slice Aw M.words.length kw) (.slice Ab M.bits.length kb) (.slice Ad M.data.length kd) (.slice Ar M.recs.length kr) M.mei M.kind M.level M.more M.next (.slice Ao M.objects.length ko)) fun an ac cz ao l=>Pl 1<|ng<|L0<|dx (m:=1) (e:=5) #[.int .u8 0] fun bv bw bz bA g=>?_
 have bB:=dF bz (xs:=[0]) (by as_aux_lemma=>kernel_rfl) (az (by omega) aX) (by(try simp only[List.length_cons,List.length_nil]);omega) bA
 refine Pl 1<|nt<|sq<|sg<|Pl 1<|?_
 refine L0<|aR (ub g ao) 15<|Pl 2<|nt<|bk<|?_
 refine i1 (fun x=>[(0,.int .i64 dir),(3,.pointer (some ⟨an,0,none⟩)),(4,.slice none 0 0),(5,.slice x.2.2.1 x.2.1.length x.2.2.2),(10,.slice Ar M.recs.length kr),(11,.int .i64 ((M.recs.length:Nat) : Int)),(12,.int .i64 ((x.1:Nat) : Int))]) (fun(x:Nat × List Int × Option Addr × Nat) w'=>aD [] ac w'∧bw.heap.size≤w'.heap.size∧eG ac.heap.size w' (.slice x.2.2.1 x.2.1.length x.2.2.2) x.2.1∧(x.1≤M.recs.length)∧(x.2.1++cU dir M.code (M.recs.drop x.1)=([0])++cU dir M.code M.recs)∧(x.2.1.length≤16+x.1*2060)∧(1≤x.2.1.length)) (fun x=>M.recs.length-x.1) (0,[0],some ⟨bv,0,none⟩,1) ⟨g,lr,bB,(by(try dsimp only);omega),rfl,(by(try dsimp only);(try simp only[List.length_cons,List.length_nil]);omega),(by(try dsimp only);(try simp only[List.length_cons,List.length_nil]);omega)⟩ ?_
 rintro⟨k,L,A,cp⟩ bD ⟨ar,f,bE,bF,bG,bH,bJ⟩
 refine iq [(0,.int .i64 dir),(3,.pointer (some ⟨an,0,none⟩)),(4,.slice none 0 0),(5,.slice A L.length cp),(10,.slice Ar M.recs.length kr),(11,.int .i64 ((M.recs.length:Nat) : Int)),(12,.int .i64 ((k:Nat) : Int))] ?_
 have a:eG ac.heap.size bD (.slice A L.length cp) L:=bE
 have cA:k≤M.recs.length:=bF
 have cB:L++cU dir M.code (M.recs.drop k)=([0])++cU dir M.code M.recs:=bG
 have cC:L.length≤16+k*2060:=bH
 have cD:1≤L.length:=bJ
 have hL:L++cU dir M.code (M.recs.drop k)=([0])++cU dir M.code M.recs:=by assumption
 have hv0:=fun(h:k<M.recs.length)=>hf.recw _ (dB ⟨0,0,0,[]⟩ M.recs k h)
 refine sg<|Pl 1<|nt<|sq<|?_
 have ad:=aH l ar
 refine cb ((decide (((k:Nat) : Int)<((M.recs.length:Nat) : Int)))) (fun n=>?_) (fun n=>?_)
 have bK:=of_decide_eq_true n
 refine bo<|sq<|bk<|sg<|j7 (l7.elt hr k (by omega)) fun cE cF cG cH cI au aw bL bM Q cJ bN=>L0<|rV 4 M.recs.length k bL (by omega)<|?_
 refine L0<|w7 [.int .u16 ((M.recs.getD k ⟨0,0,0,[]⟩).file),.int .u16 ((M.recs.getD k ⟨0,0,0,[]⟩).record),.int .u16 ((M.recs.getD k ⟨0,0,0,[]⟩).count),.slice au ((M.recs.getD k ⟨0,0,0,[]⟩).words.length) aw] (ub ad bM) bN<|L0<|bI #[.int .u16 0,.int .u16 0,.int .u16 0,.slice none 0 0] fun ae cL B bO b=>L0<|b6 bO #[.int .u16 ((M.recs.getD k ⟨0,0,0,[]⟩).file),.int .u16 ((M.recs.getD k ⟨0,0,0,[]⟩).record),.int .u16 ((M.recs.getD k ⟨0,0,0,[]⟩).count),.slice au ((M.recs.getD k ⟨0,0,0,[]⟩).words.length) aw] fun cM af c=>nt<|sq<|bk<|sg<|Pl 1<|?_
 have s:=ud b c B
 have C:=aH ar s
 refine L0<|aR (ub C ao) 0<|Pl 2<|cu 3 [32] 35 (((M.code==20)&&(dir==1))) (fun K aA=>?_) ?_
 refine bl 32 ((M.code==20)) (fun D=>?_) (fun D=>?_)
 have bP:=al D
 exact Pl 3<|ce aA (dir==1) (by rw[D];rfl)
 have bP:=ap D
 exact Pl 3<|ce aA false (by rw[D];rfl)
 refine Pl 1<|nt<|?_
 have R:=aH ad s
 refine cb (((M.code==20)&&(dir==1))) (fun o=>?_) (fun o=>?_)
 have aC:=(aS o).1
 have aE:=(aS o).2
 have cN:=al aC
 have cO:=al aE
 refine go<|Pl 2<|L0<|aR af 3<|Pl 1<|L0<|Oi (2*(((M.recs.getD k ⟨0,0,0,[]⟩).words.length:Nat) : Int))<|L0<|Oi (1+(2*(((M.recs.getD k ⟨0,0,0,[]⟩).words.length:Nat) : Int)))<|Pl 1<|L0<|dx (m:=2) (e:=5) #[.int .u8 ((1+(2*(((M.recs.getD k ⟨0,0,0,[]⟩).words.length:Nat) : Int)))%256),.int .u8 6] fun cP cR bR bS E=>?_
 have bT:=dF bR (xs:=[((1+(2*(((M.recs.getD k ⟨0,0,0,[]⟩).words.length:Nat) : Int)))%256),6]) (by as_aux_lemma=>kernel_rfl) (az (by omega) (az (by omega) aX)) (by(try simp only[List.length_cons,List.length_nil]);omega) bS
 refine L0<|cK bt (xs:=L) (ys:=([((1+(2*(((M.recs.getD k ⟨0,0,0,[]⟩).words.length:Nat) : Int)))%256),6])) (.int .u8 0) 1 (ax a (aH s E) (fun x hx=>ay) (fun _ _ h=>h)) (bT).rd (by(try simp only[List.length_append,List.length_cons,List.length_nil,aB]);omega) (le (le (le (le g.size f) b.size) c.size) E.size) fun aF cS cT aG ah=>Pl 1<|nl<|bn<|tn<|go<|Pl 2<|?_
 have ai:=ut (aD.mono (S':=(ob A++[])) E aq) ah (av il aq)
 refine L0<|aR (aD.blk ai (bi (dO a lr B) ay) af) 3<|?_
 refine L0<|Oc<|ep (bC (xs:=(M.recs.getD k ⟨0,0,0,[]⟩).words) (dN.old Q (ut R ai (av (aT a l.size) aq))) (by(try simp only[List.length_cons,List.length_nil]);omega)) fun cV cW cZ bU d0 d1 S=>?_
 refine L0<|cK bt (xs:=(L++[((1+(2*(((M.recs.getD k ⟨0,0,0,[]⟩).words.length:Nat) : Int)))%256),6])) (ys:=(bf ((M.recs.getD k ⟨0,0,0,[]⟩).words))) (.int .u8 0) 1 (ax aG S (fun x hx=>ay) (fun _ _ h=>h)) (bU).rd (by(try simp only[List.length_append,List.length_cons,List.length_nil,aB]);omega) (le (le (le (le (le (le g.size f) b.size) c.size) E.size) ah.size) S.size) fun bV bW d2 bX aI=>Pl 1<|nl<|bn<|tn<|go<|L0<|Oi (((k:Nat) : Int)+1)<|Pl 1<|nl<|?_
 exact ga ((k+1),((L++[((1+(2*(((M.recs.getD k ⟨0,0,0,[]⟩).words.length:Nat) : Int)))%256),6])++(bf ((M.recs.getD k ⟨0,0,0,[]⟩).words))),bV,bW) ⟨(ut C (ut (aD.mono (S':=(ob A++(ob aF++[]))) ai (av il aq)) (ut (aD.mono (S':=(ob aF++[])) S aq) aI (av il aq)) (av il aq)) (av (aT a lr) (av (aT aG lr) aq))),(le (le (le (le (le (le f b.size) c.size) E.size) ah.size) S.size) aI.size),bX,(by(try dsimp only);omega),(by(try dsimp only);rw[← hL,dw dir M.code M.recs k (by omega)];simp only[jl,hd0,n,o,aC,aE,bs,if_true,if_false,decide_true,decide_false,List.append_assoc]),(by(try dsimp only);have hv:=hf.recw _ (dB ⟨0,0,0,[]⟩ M.recs k (by omega));(try simp only[List.length_append,List.length_cons,List.length_nil,aB]);omega),(by(try dsimp only);(try simp only[List.length_append,List.length_cons,List.length_nil]);omega)⟩ (by omega)
 refine Rg 13 (fun w'=>w'.cell? ⟨ae,0,none⟩=some (.int .u16 ((M.recs.getD k ⟨0,0,0,[]⟩).file))∧w'.cell? ⟨ae,1,none⟩=some (.int .u16 ((M.recs.getD k ⟨0,0,0,[]⟩).record))∧w'.cell? ⟨ae,2,none⟩=some (.int .u16 ((M.recs.getD k ⟨0,0,0,[]⟩).count))) fun d3 d=>?_
 have F:=ub d af
 refine bh ⟨(ag F rfl),(ag F rfl),(ag F rfl)⟩ fun p=>Rt 0 p<|Rt 3 p<|Rl 4 p (fun _ hs=>hs.1)<|Rt 5 p<|Rl 6 p (fun _ hs=>hs.2.1)<|Rt 7 p<|Rl 8 p (fun _ hs=>hs.2.2)<|?_
 refine R2 1 9 rfl rfl ?_ ?_
 refine  dx (m:=1) (e:=5) #[.int .u8 6] fun d4 d5 bY bZ i=>?_
 have aJ:=dF bY (xs:=[6]) (by as_aux_lemma=>kernel_rfl) (az (by omega) aX) (by(try simp only[List.length_cons,List.length_nil]);omega) bZ
 have G:=ub i F
 refine bh ⟨(ag G rfl),(ag G rfl),(ag G rfl)⟩ fun d6=>?_
 refine R2 2 9 rfl rfl ?_ ?_
 have aK:=aH d i
 refine  cK bt (xs:=L) (ys:=([6])) (.int .u8 0) 1 (ax a (aH s aK) (fun x hx=>ay) (fun _ _ h=>h)) (aJ).rd (by(try simp only[List.length_append,List.length_cons,List.length_nil,aB]);omega) (le (le (le (le (le g.size f) b.size) c.size) d.size) i.size) fun T d7 d8 aj H=>?_
 have U:=aD.blk H (bi (dO a lr B) ay) G
 refine bh ⟨(ag U rfl),(ag U rfl),(ag U rfl)⟩ fun d9=>R0 9 rfl<|dx (m:=3) (e:=24) #[.int .u16 ((M.recs.getD k ⟨0,0,0,[]⟩).file),.int .u16 ((M.recs.getD k ⟨0,0,0,[]⟩).record),.int .u16 ((M.recs.getD k ⟨0,0,0,[]⟩).count)] fun da db c0 c1 I=>?_
 have c2:=ee c0 (xs:=[(M.recs.getD k ⟨0,0,0,[]⟩).file,(M.recs.getD k ⟨0,0,0,[]⟩).record,(M.recs.getD k ⟨0,0,0,[]⟩).count]) (by as_aux_lemma=>kernel_rfl) (az (by omega) (az (by omega) (az (by omega) aX))) (by(try simp only[List.length_cons,List.length_nil]);omega) c1
 have V:=ub I U
 refine bh ⟨(ag V rfl),(ag V rfl),(ag V rfl)⟩ fun dc=>R0 10 rfl<|Oc<|ep (bC (xs:=[(M.recs.getD k ⟨0,0,0,[]⟩).file,(M.recs.getD k ⟨0,0,0,[]⟩).record,(M.recs.getD k ⟨0,0,0,[]⟩).count]) (c2).rd (by(try simp only[List.length_cons,List.length_nil]);omega)) fun dd de df c3 dg dh J=>?_
 have N:=ub J V
 refine bh ⟨(ag N rfl),(ag N rfl),(ag N rfl)⟩ fun di=>?_
 have aL:=aH I J
 have aM:=ax aj aL (fun x hx=>ay) (fun _ _ h=>h)
 refine R0 11 rfl<|cK bt (xs:=(L++[6])) (ys:=(bf ([(M.recs.getD k ⟨0,0,0,[]⟩).file,(M.recs.getD k ⟨0,0,0,[]⟩).record,(M.recs.getD k ⟨0,0,0,[]⟩).count]))) (.int .u8 0) 1 aM (c3).rd (by(try simp only[List.length_append,List.length_cons,List.length_nil,aB]);omega) (le (le (le (le (le (le (le (le g.size f) b.size) c.size) d.size) i.size) H.size) I.size) J.size) fun aN dj dk aO W=>?_
 have X:=aD.blk W (bi (cQ N aM (by decide)) ay) N
 refine bh ⟨(ag X rfl),(ag X rfl),(ag X rfl)⟩ fun c4=>Rt 12 c4<|re<|bn<|tn<|go<|Pl 2<|L0<|aR X 3<|?_
 have aQ:=ut (aD.mono (S':=(ob A++(ob T++[]))) aK aq) (ut (aD.mono (S':=(ob A++(ob T++[]))) H (av il aq)) (ut (aD.mono (S':=(ob T++[])) aL aq) W (av il aq)) (av il aq)) (av il (av il aq))
 refine L0<|Oc<|ep (bC (xs:=(M.recs.getD k ⟨0,0,0,[]⟩).words) (dN.old Q (ut R aQ (av (aT a l.size) (av (aT aj l.size) aq)))) (by(try simp only[List.length_cons,List.length_nil]);omega)) fun dl dn dp c5 dq dr Y=>?_
 refine L0<|cK bt (xs:=((L++[6])++(bf ([(M.recs.getD k ⟨0,0,0,[]⟩).file,(M.recs.getD k ⟨0,0,0,[]⟩).record,(M.recs.getD k ⟨0,0,0,[]⟩).count])))) (ys:=(bf ((M.recs.getD k ⟨0,0,0,[]⟩).words))) (.int .u8 0) 1 (ax aO Y (fun x hx=>ay) (fun _ _ h=>h)) (c5).rd (by(try simp only[List.length_append,List.length_cons,List.length_nil,aB]);omega) (le (le (le (le (le (le (le (le (le (le g.size f) b.size) c.size) d.size) i.size) H.size) I.size) J.size) W.size) Y.size) fun c6 c7 ds c8 aU=>Pl 1<|nl<|bn<|tn<|go<|L0<|Oi (((k:Nat) : Int)+1)<|Pl 1<|nl<|?_
 exact ga ((k+1),(((L++[6])++(bf ([(M.recs.getD k ⟨0,0,0,[]⟩).file,(M.recs.getD k ⟨0,0,0,[]⟩).record,(M.recs.getD k ⟨0,0,0,[]⟩).count])))++(bf ((M.recs.getD k ⟨0,0,0,[]⟩).words))),c6,c7) ⟨(ut C (ut (aD.mono (S':=(ob A++(ob T++(ob aN++[])))) aQ (av il (av il aq))) (ut (aD.mono (S':=(ob aN++[])) Y aq) aU (av il aq)) (av il aq)) (av (aT a lr) (av (aT aj lr) (av (aT aO lr) aq)))),(le (le (le (le (le (le (le (le (le (le f b.size) c.size) d.size) i.size) H.size) I.size) J.size) W.size) Y.size) aU.size),c8,(by(try dsimp only);omega),(by(try dsimp only);rw[← hL,dw dir M.code M.recs k (by omega)];simp only[jl,hd0,n,o,bs,if_true,if_false,decide_true,decide_false,List.append_assoc]),(by(try dsimp only);have hv:=hf.recw _ (dB ⟨0,0,0,[]⟩ M.recs k (by omega));(try simp only[List.length_append,List.length_cons,List.length_nil,aB]);omega),(by(try dsimp only);(try simp only[List.length_append,List.length_cons,List.length_nil]);omega)⟩ (by omega)
 refine  dx (m:=3) (e:=24) #[.int .u16 ((M.recs.getD k ⟨0,0,0,[]⟩).file),.int .u16 ((M.recs.getD k ⟨0,0,0,[]⟩).record),.int .u16 ((M.recs.getD k ⟨0,0,0,[]⟩).count)] fun dt du c9 ca q=>?_
 have aV:=ee c9 (xs:=[(M.recs.getD k ⟨0,0,0,[]⟩).file,(M.recs.getD k ⟨0,0,0,[]⟩).record,(M.recs.getD k ⟨0,0,0,[]⟩).count]) (by as_aux_lemma=>kernel_rfl) (az (by omega) (az (by omega) (az (by omega) aX))) (by(try simp only[List.length_cons,List.length_nil]);omega) ca
 have Z:=ub q G
 refine bh ⟨(ag Z rfl),(ag Z rfl),(ag Z rfl)⟩ fun dv=>?_
 have aY:=aH d (aH i q)
 refine R0 2 rfl<|cK bt (xs:=L) (ys:=([6])) (.int .u8 0) 1 (ax a (aH s aY) (fun x hx=>ay) (fun _ _ h=>h)) ((ax aJ q (fun x hx=>ay) (fun _ _ h=>h))).rd (by(try simp only[List.length_append,List.length_cons,List.length_nil,aB]);omega) (le (le (le (le (le (le g.size f) b.size) c.size) d.size) i.size) q.size) fun a0 dy dA ak t=>?_
 have a1:=aD.blk t (bi (dO a lr B) ay) Z
 refine bh ⟨(ag a1 rfl),(ag a1 rfl),(ag a1 rfl)⟩ fun dC=>?_
 refine R0 10 rfl<|Oc<|ep (bC (xs:=[(M.recs.getD k ⟨0,0,0,[]⟩).file,(M.recs.getD k ⟨0,0,0,[]⟩).record,(M.recs.getD k ⟨0,0,0,[]⟩).count]) ((ax aV t (fun x hx=>(bi ((gh aV a (le (le (le b.size c.size) d.size) i.size)) x hx) ay)) (fun _ _ h=>h))).rd (by(try simp only[List.length_cons,List.length_nil]);omega)) fun dD dE dG cc dH dI u=>?_
 have O:=ub u a1
 refine bh ⟨(ag O rfl),(ag O rfl),(ag O rfl)⟩ fun dJ=>?_
 have aZ:=ax ak u (fun x hx=>ay) (fun _ _ h=>h)
 refine R0 11 rfl<|cK bt (xs:=(L++[6])) (ys:=(bf ([(M.recs.getD k ⟨0,0,0,[]⟩).file,(M.recs.getD k ⟨0,0,0,[]⟩).record,(M.recs.getD k ⟨0,0,0,[]⟩).count]))) (.int .u8 0) 1 aZ (cc).rd (by(try simp only[List.length_append,List.length_cons,List.length_nil,aB]);omega) (le (le (le (le (le (le (le (le g.size f) b.size) c.size) d.size) i.size) q.size) t.size) u.size) fun b0 dK dL b1 a2=>?_
 have a3:=aD.blk a2 (bi (cQ O aZ (by decide)) ay) O
 refine bh ⟨(ag a3 rfl),(ag a3 rfl),(ag a3 rfl)⟩ fun cd=>Rt 12 cd<|re<|bn<|tn<|go<|Pl 2<|L0<|aR a3 3<|?_
 have b2:=ut (aD.mono (S':=(ob A++(ob a0++[]))) aY aq) (ut (aD.mono (S':=(ob A++(ob a0++[]))) t (av il aq)) (ut (aD.mono (S':=(ob a0++[])) u aq) a2 (av il aq)) (av il aq)) (av il (av il aq))
 refine L0<|Oc<|ep (bC (xs:=(M.recs.getD k ⟨0,0,0,[]⟩).words) (dN.old Q (ut R b2 (av (aT a l.size) (av (aT ak l.size) aq)))) (by(try simp only[List.length_cons,List.length_nil]);omega)) fun dM dP dQ cf dR dS a4=>?_
 refine L0<|cK bt (xs:=((L++[6])++(bf ([(M.recs.getD k ⟨0,0,0,[]⟩).file,(M.recs.getD k ⟨0,0,0,[]⟩).record,(M.recs.getD k ⟨0,0,0,[]⟩).count])))) (ys:=(bf ((M.recs.getD k ⟨0,0,0,[]⟩).words))) (.int .u8 0) 1 (ax b1 a4 (fun x hx=>ay) (fun _ _ h=>h)) (cf).rd (by(try simp only[List.length_append,List.length_cons,List.length_nil,aB]);omega) (le (le (le (le (le (le (le (le (le (le g.size f) b.size) c.size) d.size) i.size) q.size) t.size) u.size) a2.size) a4.size) fun cg ch dT ci b3=>Pl 1<|nl<|bn<|tn<|go<|L0<|Oi (((k:Nat) : Int)+1)<|Pl 1<|nl<|?_
 exact ga ((k+1),(((L++[6])++(bf ([(M.recs.getD k ⟨0,0,0,[]⟩).file,(M.recs.getD k ⟨0,0,0,[]⟩).record,(M.recs.getD k ⟨0,0,0,[]⟩).count])))++(bf ((M.recs.getD k ⟨0,0,0,[]⟩).words))),cg,ch) ⟨(ut C (ut (aD.mono (S':=(ob A++(ob a0++(ob b0++[])))) b2 (av il (av il aq))) (ut (aD.mono (S':=(ob b0++[])) a4 aq) b3 (av il aq)) (av il aq)) (av (aT a lr) (av (aT ak lr) (av (aT b1 lr) aq)))),(le (le (le (le (le (le (le (le (le (le f b.size) c.size) d.size) i.size) q.size) t.size) u.size) a2.size) a4.size) b3.size),ci,(by(try dsimp only);omega),(by(try dsimp only);rw[← hL,dw dir M.code M.recs k (by omega)];simp only[jl,hd0,n,o,bs,if_true,if_false,decide_true,decide_false,List.append_assoc]),(by(try dsimp only);have hv:=hf.recw _ (dB ⟨0,0,0,[]⟩ M.recs k (by omega));(try simp only[List.length_append,List.length_cons,List.length_nil,aB]);omega),(by(try dsimp only);(try simp only[List.length_append,List.length_cons,List.length_nil]);omega)⟩ (by omega)
 refine  dx (m:=3) (e:=24) #[.int .u16 ((M.recs.getD k ⟨0,0,0,[]⟩).file),.int .u16 ((M.recs.getD k ⟨0,0,0,[]⟩).record),.int .u16 ((M.recs.getD k ⟨0,0,0,[]⟩).count)] fun dU dV cj ck v=>?_
 have b4:=ee cj (xs:=[(M.recs.getD k ⟨0,0,0,[]⟩).file,(M.recs.getD k ⟨0,0,0,[]⟩).record,(M.recs.getD k ⟨0,0,0,[]⟩).count]) (by as_aux_lemma=>kernel_rfl) (az (by omega) (az (by omega) (az (by omega) aX))) (by(try simp only[List.length_cons,List.length_nil]);omega) ck
 have a5:=ub v F
 refine bh ⟨(ag a5 rfl),(ag a5 rfl),(ag a5 rfl)⟩ fun dW=>R0 1 rfl<|dx (m:=1) (e:=5) #[.int .u8 6] fun dX dY cl cm r=>?_
 have cn:=dF cl (xs:=[6]) (by as_aux_lemma=>kernel_rfl) (az (by omega) aX) (by(try simp only[List.length_cons,List.length_nil]);omega) cm
 have a6:=ub r a5
 refine bh ⟨(ag a6 rfl),(ag a6 rfl),(ag a6 rfl)⟩ fun dZ=>?_
 have b5:=aH d (aH v r)
 refine R0 2 rfl<|cK bt (xs:=L) (ys:=([6])) (.int .u8 0) 1 (ax a (aH s b5) (fun x hx=>ay) (fun _ _ h=>h)) (cn).rd (by(try simp only[List.length_append,List.length_cons,List.length_nil,aB]);omega) (le (le (le (le (le (le g.size f) b.size) c.size) d.size) v.size) r.size) fun a7 e0 e1 am y=>?_
 have a8:=aD.blk y (bi (dO a lr B) ay) a6
 refine bh ⟨(ag a8 rfl),(ag a8 rfl),(ag a8 rfl)⟩ fun e2=>?_
 refine R0 10 rfl<|Oc<|ep (bC (xs:=[(M.recs.getD k ⟨0,0,0,[]⟩).file,(M.recs.getD k ⟨0,0,0,[]⟩).record,(M.recs.getD k ⟨0,0,0,[]⟩).count]) ((ax b4 (ut (aD.mono (S':=(ob A++[])) r aq) y (av il aq)) (fun x hx=>(bi ((gh b4 a (le (le b.size c.size) d.size)) x hx) ay)) (fun _ _ h=>h))).rd (by(try simp only[List.length_cons,List.length_nil]);omega)) fun e3 e4 e5 co e6 e7 z=>?_
 have P:=ub z a8
 refine bh ⟨(ag P rfl),(ag P rfl),(ag P rfl)⟩ fun e8=>?_
 have b7:=ax am z (fun x hx=>ay) (fun _ _ h=>h)
 refine R0 11 rfl<|cK bt (xs:=(L++[6])) (ys:=(bf ([(M.recs.getD k ⟨0,0,0,[]⟩).file,(M.recs.getD k ⟨0,0,0,[]⟩).record,(M.recs.getD k ⟨0,0,0,[]⟩).count]))) (.int .u8 0) 1 b7 (co).rd (by(try simp only[List.length_append,List.length_cons,List.length_nil,aB]);omega) (le (le (le (le (le (le (le (le g.size f) b.size) c.size) d.size) v.size) r.size) y.size) z.size) fun b8 e9 ea ba a9=>?_
 have aa:=aD.blk a9 (bi (cQ P b7 (by decide)) ay) P
 refine bh ⟨(ag aa rfl),(ag aa rfl),(ag aa rfl)⟩ fun cq=>Rt 12 cq<|re<|bn<|tn<|go<|Pl 2<|L0<|aR aa 3<|?_
 have bb:=ut (aD.mono (S':=(ob A++(ob a7++[]))) b5 aq) (ut (aD.mono (S':=(ob A++(ob a7++[]))) y (av il aq)) (ut (aD.mono (S':=(ob a7++[])) z aq) a9 (av il aq)) (av il aq)) (av il (av il aq))
 refine L0<|Oc<|ep (bC (xs:=(M.recs.getD k ⟨0,0,0,[]⟩).words) (dN.old Q (ut R bb (av (aT a l.size) (av (aT am l.size) aq)))) (by(try simp only[List.length_cons,List.length_nil]);omega)) fun eb ec ed cr ef eg ab=>?_
 refine L0<|cK bt (xs:=((L++[6])++(bf ([(M.recs.getD k ⟨0,0,0,[]⟩).file,(M.recs.getD k ⟨0,0,0,[]⟩).record,(M.recs.getD k ⟨0,0,0,[]⟩).count])))) (ys:=(bf ((M.recs.getD k ⟨0,0,0,[]⟩).words))) (.int .u8 0) 1 (ax ba ab (fun x hx=>ay) (fun _ _ h=>h)) (cr).rd (by(try simp only[List.length_append,List.length_cons,List.length_nil,aB]);omega) (le (le (le (le (le (le (le (le (le (le g.size f) b.size) c.size) d.size) v.size) r.size) y.size) z.size) a9.size) ab.size) fun ct cv eh cw bc=>Pl 1<|nl<|bn<|tn<|go<|L0<|Oi (((k:Nat) : Int)+1)<|Pl 1<|nl<|?_
 exact ga ((k+1),(((L++[6])++(bf ([(M.recs.getD k ⟨0,0,0,[]⟩).file,(M.recs.getD k ⟨0,0,0,[]⟩).record,(M.recs.getD k ⟨0,0,0,[]⟩).count])))++(bf ((M.recs.getD k ⟨0,0,0,[]⟩).words))),ct,cv) ⟨(ut C (ut (aD.mono (S':=(ob A++(ob a7++(ob b8++[])))) bb (av il (av il aq))) (ut (aD.mono (S':=(ob b8++[])) ab aq) bc (av il aq)) (av il aq)) (av (aT a lr) (av (aT am lr) (av (aT ba lr) aq)))),(le (le (le (le (le (le (le (le (le (le f b.size) c.size) d.size) v.size) r.size) y.size) z.size) a9.size) ab.size) bc.size),cw,(by(try dsimp only);omega),(by(try dsimp only);rw[← hL,dw dir M.code M.recs k (by omega)];simp only[jl,hd0,n,o,bs,if_true,if_false,decide_true,decide_false,List.append_assoc]),(by(try dsimp only);have hv:=hf.recw _ (dB ⟨0,0,0,[]⟩ M.recs k (by omega));(try simp only[List.length_append,List.length_cons,List.length_nil,aB]);omega),(by(try dsimp only);(try simp only[List.length_append,List.length_cons,List.length_nil]);omega)⟩ (by omega)
 have bK:=of_decide_eq_false n
 refine xt<|tx<|tx<|bx<|tn<|sg<|Pl 3<|L0<|Oi (((L.length:Nat) : Int)-1)<|Pl 1<|fy (b9.at_ (a).rd 0 (by omega)) fun ei ej bd ek el=>L0<|jb L.length 0 bd (by omega)<|L0<|w6 bt (j:=0) a bd (by omega) ((((L.length:Nat) : Int)-1)%256) (fun _=>⟨rfl,by omega⟩) fun em cx cy=>nl<|?_
 refine tn<|sg<|Pl 2<|nt<|rt<|rr (.slice A L.length cp)<|?_
 have hk:k=M.recs.length:=by omega
 rw[hk,List.drop_length] at hL
 have hL2:[0]++cU dir M.code M.recs=L:=by rw[← hL];simp[cU]
 have hs:cX dir M=(L.set 0 ((((L.length:Nat) : Int)-1)%256)):=by unfold cX;rw[hL2]
 rw[hs]
 exact⟨_,rfl,(be.weaken cx l.size),(ut ad cy (av (aT a l.size) aq))⟩
theorem mO{m:Md}{cs:Array Value}{M:aP}{w:World}{dir:Int}(h:aW m w cs.toList M)(hf:cY M)(hd0:(dir==0)=false) : Calls Tryz.prog 212 #[.int .i64 dir,.agg cs] w (gQ (cX dir M) w):=by
 obtain⟨vw,vb,vd,vr,vo,h0,hw,hbt,hd,hr,ho,hR⟩:=h
 obtain rfl:cs=(bQ M vw vb vd vr vo).toArray:=by apply Array.toList_inj.1;simpa using h0
 clear h0
 obtain⟨Aw,kw,rfl,_,_⟩:=hw.shape
 obtain⟨Ab,kb,rfl,_,_⟩:=hbt.shape
 obtain⟨Ad,kd,rfl,_,_⟩:=hd.shape
 obtain⟨Ar,kr,rfl,_,_⟩:=hr.shape
 obtain⟨Ao,ko,rfl,_,_⟩:=ho.shape
 obtain⟨q0,q1,q2,q3,q4,q5,q6,q7,q8,q9,bg,bj,bm,bp,bq,br,bu⟩:=hR
 simp only[B8,dm] at q0 q1 q2 q3 q4 q5 q6 q7 q8 q9 bg bj bm bp bq br bu
 have hf1:=hf.words
 have hf2:=hf.bits
 have hf3:=hf.data
 have hf4:=hf.recs
 have hf5:=hf.objects
 refine en 58 Tryz.func212 rfl<|sg<|L0<|dz (mG M.code M.fail M.addr M.count M.value M.and_ M.or_ M.addr2 M.sub M.status M.events M.messages (.slice Aw M.words.length kw) (.slice Ab M.bits.length kb) (.slice Ad M.data.length kd) (.slice Ar M.recs.length kr) M.mei M.kind M.level M.more M.next (.slice Ao M.objects.length ko)) fun an ac cz ao l=>Pl 1<|ng<|L0<|dx (m:=1) (e:=5) #[.int .u8 0] fun bv bw bz bA g=>?_
 have bB:=dF bz (xs:=[0]) (by as_aux_lemma=>kernel_rfl) (az (by omega) aX) (by(try simp only[List.length_cons,List.length_nil]);omega) bA
 refine Pl 1<|nt<|sq<|sg<|Pl 1<|?_
 refine L0<|aR (ub g ao) 15<|Pl 2<|nt<|bk<|?_
 refine i1 (fun x=>[(0,.int .i64 dir),(3,.pointer (some ⟨an,0,none⟩)),(4,.slice none 0 0),(5,.slice x.2.2.1 x.2.1.length x.2.2.2),(10,.slice Ar M.recs.length kr),(11,.int .i64 ((M.recs.length:Nat) : Int)),(12,.int .i64 ((x.1:Nat) : Int))]) (fun(x:Nat × List Int × Option Addr × Nat) w'=>aD [] ac w'∧bw.heap.size≤w'.heap.size∧eG ac.heap.size w' (.slice x.2.2.1 x.2.1.length x.2.2.2) x.2.1∧(x.1≤M.recs.length)∧(x.2.1++cU dir M.code (M.recs.drop x.1)=([0])++cU dir M.code M.recs)∧(x.2.1.length≤16+x.1*2060)∧(1≤x.2.1.length)) (fun x=>M.recs.length-x.1) (0,[0],some ⟨bv,0,none⟩,1) ⟨g,lr,bB,(by(try dsimp only);omega),rfl,(by(try dsimp only);(try simp only[List.length_cons,List.length_nil]);omega),(by(try dsimp only);(try simp only[List.length_cons,List.length_nil]);omega)⟩ ?_
 rintro⟨k,L,A,cp⟩ bD ⟨ar,f,bE,bF,bG,bH,bJ⟩
 refine iq [(0,.int .i64 dir),(3,.pointer (some ⟨an,0,none⟩)),(4,.slice none 0 0),(5,.slice A L.length cp),(10,.slice Ar M.recs.length kr),(11,.int .i64 ((M.recs.length:Nat) : Int)),(12,.int .i64 ((k:Nat) : Int))] ?_
 have a:eG ac.heap.size bD (.slice A L.length cp) L:=bE
 have cA:k≤M.recs.length:=bF
 have cB:L++cU dir M.code (M.recs.drop k)=([0])++cU dir M.code M.recs:=bG
 have cC:L.length≤16+k*2060:=bH
 have cD:1≤L.length:=bJ
 have hL:L++cU dir M.code (M.recs.drop k)=([0])++cU dir M.code M.recs:=by assumption
 have hv0:=fun(h:k<M.recs.length)=>hf.recw _ (dB ⟨0,0,0,[]⟩ M.recs k h)
 refine sg<|Pl 1<|nt<|sq<|?_
 have ad:=aH l ar
 refine cb ((decide (((k:Nat) : Int)<((M.recs.length:Nat) : Int)))) (fun n=>?_) (fun n=>?_)
 have bK:=of_decide_eq_true n
 refine bo<|sq<|bk<|sg<|j7 (l7.elt hr k (by omega)) fun cE cF cG cH cI au aw bL bM Q cJ bN=>L0<|rV 4 M.recs.length k bL (by omega)<|?_
 refine L0<|w7 [.int .u16 ((M.recs.getD k ⟨0,0,0,[]⟩).file),.int .u16 ((M.recs.getD k ⟨0,0,0,[]⟩).record),.int .u16 ((M.recs.getD k ⟨0,0,0,[]⟩).count),.slice au ((M.recs.getD k ⟨0,0,0,[]⟩).words.length) aw] (ub ad bM) bN<|L0<|bI #[.int .u16 0,.int .u16 0,.int .u16 0,.slice none 0 0] fun ae cL B bO b=>L0<|b6 bO #[.int .u16 ((M.recs.getD k ⟨0,0,0,[]⟩).file),.int .u16 ((M.recs.getD k ⟨0,0,0,[]⟩).record),.int .u16 ((M.recs.getD k ⟨0,0,0,[]⟩).count),.slice au ((M.recs.getD k ⟨0,0,0,[]⟩).words.length) aw] fun cM af c=>nt<|sq<|bk<|sg<|Pl 1<|?_
 have s:=ud b c B
 have C:=aH ar s
 refine L0<|aR (ub C ao) 0<|Pl 2<|cu 3 [32] 35 (((M.code==20)&&(dir==1))) (fun K aA=>?_) ?_
 refine bl 32 ((M.code==20)) (fun D=>?_) (fun D=>?_)
 have bP:=al D
 exact Pl 3<|ce aA (dir==1) (by rw[D];rfl)
 have bP:=ap D
 exact Pl 3<|ce aA false (by rw[D];rfl)
 refine Pl 1<|nt<|?_
 have R:=aH ad s
 refine cb (((M.code==20)&&(dir==1))) (fun o=>?_) (fun o=>?_)
 have aC:=(aS o).1
 have aE:=(aS o).2
 have cN:=al aC
 have cO:=al aE
 refine go<|Pl 2<|L0<|aR af 3<|Pl 1<|L0<|Oi (2*(((M.recs.getD k ⟨0,0,0,[]⟩).words.length:Nat) : Int))<|L0<|Oi (1+(2*(((M.recs.getD k ⟨0,0,0,[]⟩).words.length:Nat) : Int)))<|Pl 1<|L0<|dx (m:=2) (e:=5) #[.int .u8 ((1+(2*(((M.recs.getD k ⟨0,0,0,[]⟩).words.length:Nat) : Int)))%256),.int .u8 6] fun cP cR bR bS E=>?_
 have bT:=dF bR (xs:=[((1+(2*(((M.recs.getD k ⟨0,0,0,[]⟩).words.length:Nat) : Int)))%256),6]) (by as_aux_lemma=>kernel_rfl) (az (by omega) (az (by omega) aX)) (by(try simp only[List.length_cons,List.length_nil]);omega) bS
 refine L0<|cK bt (xs:=L) (ys:=([((1+(2*(((M.recs.getD k ⟨0,0,0,[]⟩).words.length:Nat) : Int)))%256),6])) (.int .u8 0) 1 (ax a (aH s E) (fun x hx=>ay) (fun _ _ h=>h)) (bT).rd (by(try simp only[List.length_append,List.length_cons,List.length_nil,aB]);omega) (le (le (le (le g.size f) b.size) c.size) E.size) fun aF cS cT aG ah=>Pl 1<|nl<|bn<|tn<|go<|Pl 2<|?_
 have ai:=ut (aD.mono (S':=(ob A++[])) E aq) ah (av il aq)
 refine L0<|aR (aD.blk ai (bi (dO a lr B) ay) af) 3<|?_
 refine L0<|Oc<|ep (bC (xs:=(M.recs.getD k ⟨0,0,0,[]⟩).words) (dN.old Q (ut R ai (av (aT a l.size) aq))) (by(try simp only[List.length_cons,List.length_nil]);omega)) fun cV cW cZ bU d0 d1 S=>?_
 refine L0<|cK bt (xs:=(L++[((1+(2*(((M.recs.getD k ⟨0,0,0,[]⟩).words.length:Nat) : Int)))%256),6])) (ys:=(bf ((M.recs.getD k ⟨0,0,0,[]⟩).words))) (.int .u8 0) 1 (ax aG S (fun x hx=>ay) (fun _ _ h=>h)) (bU).rd (by(try simp only[List.length_append,List.length_cons,List.length_nil,aB]);omega) (le (le (le (le (le (le g.size f) b.size) c.size) E.size) ah.size) S.size) fun bV bW d2 bX aI=>Pl 1<|nl<|bn<|tn<|go<|L0<|Oi (((k:Nat) : Int)+1)<|Pl 1<|nl<|?_
 exact ga ((k+1),((L++[((1+(2*(((M.recs.getD k ⟨0,0,0,[]⟩).words.length:Nat) : Int)))%256),6])++(bf ((M.recs.getD k ⟨0,0,0,[]⟩).words))),bV,bW) ⟨(ut C (ut (aD.mono (S':=(ob A++(ob aF++[]))) ai (av il aq)) (ut (aD.mono (S':=(ob aF++[])) S aq) aI (av il aq)) (av il aq)) (av (aT a lr) (av (aT aG lr) aq))),(le (le (le (le (le (le f b.size) c.size) E.size) ah.size) S.size) aI.size),bX,(by(try dsimp only);omega),(by(try dsimp only);rw[← hL,dw dir M.code M.recs k (by omega)];simp only[jl,hd0,n,o,aC,aE,bs,if_true,if_false,decide_true,decide_false,List.append_assoc]),(by(try dsimp only);have hv:=hf.recw _ (dB ⟨0,0,0,[]⟩ M.recs k (by omega));(try simp only[List.length_append,List.length_cons,List.length_nil,aB]);omega),(by(try dsimp only);(try simp only[List.length_append,List.length_cons,List.length_nil]);omega)⟩ (by omega)
 refine Rg 13 (fun w'=>w'.cell? ⟨ae,0,none⟩=some (.int .u16 ((M.recs.getD k ⟨0,0,0,[]⟩).file))∧w'.cell? ⟨ae,1,none⟩=some (.int .u16 ((M.recs.getD k ⟨0,0,0,[]⟩).record))∧w'.cell? ⟨ae,2,none⟩=some (.int .u16 ((M.recs.getD k ⟨0,0,0,[]⟩).count))) fun d3 d=>?_
 have F:=ub d af
 refine bh ⟨(ag F rfl),(ag F rfl),(ag F rfl)⟩ fun p=>Rt 0 p<|Rt 3 p<|Rl 4 p (fun _ hs=>hs.1)<|Rt 5 p<|Rl 6 p (fun _ hs=>hs.2.1)<|Rt 7 p<|Rl 8 p (fun _ hs=>hs.2.2)<|?_
 refine R2 1 9 rfl rfl ?_ ?_
 refine  dx (m:=1) (e:=5) #[.int .u8 6] fun d4 d5 bY bZ i=>?_
 have aJ:=dF bY (xs:=[6]) (by as_aux_lemma=>kernel_rfl) (az (by omega) aX) (by(try simp only[List.length_cons,List.length_nil]);omega) bZ
 have G:=ub i F
 refine bh ⟨(ag G rfl),(ag G rfl),(ag G rfl)⟩ fun d6=>?_
 refine R2 2 9 rfl rfl ?_ ?_
 have aK:=aH d i
 refine  cK bt (xs:=L) (ys:=([6])) (.int .u8 0) 1 (ax a (aH s aK) (fun x hx=>ay) (fun _ _ h=>h)) (aJ).rd (by(try simp only[List.length_append,List.length_cons,List.length_nil,aB]);omega) (le (le (le (le (le g.size f) b.size) c.size) d.size) i.size) fun T d7 d8 aj H=>?_
 have U:=aD.blk H (bi (dO a lr B) ay) G
 refine bh ⟨(ag U rfl),(ag U rfl),(ag U rfl)⟩ fun d9=>R0 9 rfl<|dx (m:=3) (e:=24) #[.int .u16 ((M.recs.getD k ⟨0,0,0,[]⟩).file),.int .u16 ((M.recs.getD k ⟨0,0,0,[]⟩).record),.int .u16 ((M.recs.getD k ⟨0,0,0,[]⟩).count)] fun da db c0 c1 I=>?_
 have c2:=ee c0 (xs:=[(M.recs.getD k ⟨0,0,0,[]⟩).file,(M.recs.getD k ⟨0,0,0,[]⟩).record,(M.recs.getD k ⟨0,0,0,[]⟩).count]) (by as_aux_lemma=>kernel_rfl) (az (by omega) (az (by omega) (az (by omega) aX))) (by(try simp only[List.length_cons,List.length_nil]);omega) c1
 have V:=ub I U
 refine bh ⟨(ag V rfl),(ag V rfl),(ag V rfl)⟩ fun dc=>R0 10 rfl<|Oc<|ep (bC (xs:=[(M.recs.getD k ⟨0,0,0,[]⟩).file,(M.recs.getD k ⟨0,0,0,[]⟩).record,(M.recs.getD k ⟨0,0,0,[]⟩).count]) (c2).rd (by(try simp only[List.length_cons,List.length_nil]);omega)) fun dd de df c3 dg dh J=>?_
 have N:=ub J V
 refine bh ⟨(ag N rfl),(ag N rfl),(ag N rfl)⟩ fun di=>?_
 have aL:=aH I J
 have aM:=ax aj aL (fun x hx=>ay) (fun _ _ h=>h)
 refine R0 11 rfl<|cK bt (xs:=(L++[6])) (ys:=(bf ([(M.recs.getD k ⟨0,0,0,[]⟩).file,(M.recs.getD k ⟨0,0,0,[]⟩).record,(M.recs.getD k ⟨0,0,0,[]⟩).count]))) (.int .u8 0) 1 aM (c3).rd (by(try simp only[List.length_append,List.length_cons,List.length_nil,aB]);omega) (le (le (le (le (le (le (le (le g.size f) b.size) c.size) d.size) i.size) H.size) I.size) J.size) fun aN dj dk aO W=>?_
 have X:=aD.blk W (bi (cQ N aM (by decide)) ay) N
 refine bh ⟨(ag X rfl),(ag X rfl),(ag X rfl)⟩ fun c4=>Rt 12 c4<|re<|bn<|tn<|go<|Pl 2<|L0<|aR X 3<|?_
 have aQ:=ut (aD.mono (S':=(ob A++(ob T++[]))) aK aq) (ut (aD.mono (S':=(ob A++(ob T++[]))) H (av il aq)) (ut (aD.mono (S':=(ob T++[])) aL aq) W (av il aq)) (av il aq)) (av il (av il aq))
 refine L0<|Oc<|ep (bC (xs:=(M.recs.getD k ⟨0,0,0,[]⟩).words) (dN.old Q (ut R aQ (av (aT a l.size) (av (aT aj l.size) aq)))) (by(try simp only[List.length_cons,List.length_nil]);omega)) fun dl dn dp c5 dq dr Y=>?_
 refine L0<|cK bt (xs:=((L++[6])++(bf ([(M.recs.getD k ⟨0,0,0,[]⟩).file,(M.recs.getD k ⟨0,0,0,[]⟩).record,(M.recs.getD k ⟨0,0,0,[]⟩).count])))) (ys:=(bf ((M.recs.getD k ⟨0,0,0,[]⟩).words))) (.int .u8 0) 1 (ax aO Y (fun x hx=>ay) (fun _ _ h=>h)) (c5).rd (by(try simp only[List.length_append,List.length_cons,List.length_nil,aB]);omega) (le (le (le (le (le (le (le (le (le (le g.size f) b.size) c.size) d.size) i.size) H.size) I.size) J.size) W.size) Y.size) fun c6 c7 ds c8 aU=>Pl 1<|nl<|bn<|tn<|go<|L0<|Oi (((k:Nat) : Int)+1)<|Pl 1<|nl<|?_
 exact ga ((k+1),(((L++[6])++(bf ([(M.recs.getD k ⟨0,0,0,[]⟩).file,(M.recs.getD k ⟨0,0,0,[]⟩).record,(M.recs.getD k ⟨0,0,0,[]⟩).count])))++(bf ((M.recs.getD k ⟨0,0,0,[]⟩).words))),c6,c7) ⟨(ut C (ut (aD.mono (S':=(ob A++(ob T++(ob aN++[])))) aQ (av il (av il aq))) (ut (aD.mono (S':=(ob aN++[])) Y aq) aU (av il aq)) (av il aq)) (av (aT a lr) (av (aT aj lr) (av (aT aO lr) aq)))),(le (le (le (le (le (le (le (le (le (le f b.size) c.size) d.size) i.size) H.size) I.size) J.size) W.size) Y.size) aU.size),c8,(by(try dsimp only);omega),(by(try dsimp only);rw[← hL,dw dir M.code M.recs k (by omega)];simp only[jl,hd0,n,o,bs,if_true,if_false,decide_true,decide_false,List.append_assoc]),(by(try dsimp only);have hv:=hf.recw _ (dB ⟨0,0,0,[]⟩ M.recs k (by omega));(try simp only[List.length_append,List.length_cons,List.length_nil,aB]);omega),(by(try dsimp only);(try simp only[List.length_append,List.length_cons,List.length_nil]);omega)⟩ (by omega)
 refine  dx (m:=3) (e:=24) #[.int .u16 ((M.recs.getD k ⟨0,0,0,[]⟩).file),.int .u16 ((M.recs.getD k ⟨0,0,0,[]⟩).record),.int .u16 ((M.recs.getD k ⟨0,0,0,[]⟩).count)] fun dt du c9 ca q=>?_
 have aV:=ee c9 (xs:=[(M.recs.getD k ⟨0,0,0,[]⟩).file,(M.recs.getD k ⟨0,0,0,[]⟩).record,(M.recs.getD k ⟨0,0,0,[]⟩).count]) (by as_aux_lemma=>kernel_rfl) (az (by omega) (az (by omega) (az (by omega) aX))) (by(try simp only[List.length_cons,List.length_nil]);omega) ca
 have Z:=ub q G
 refine bh ⟨(ag Z rfl),(ag Z rfl),(ag Z rfl)⟩ fun dv=>?_
 have aY:=aH d (aH i q)
 refine R0 2 rfl<|cK bt (xs:=L) (ys:=([6])) (.int .u8 0) 1 (ax a (aH s aY) (fun x hx=>ay) (fun _ _ h=>h)) ((ax aJ q (fun x hx=>ay) (fun _ _ h=>h))).rd (by(try simp only[List.length_append,List.length_cons,List.length_nil,aB]);omega) (le (le (le (le (le (le g.size f) b.size) c.size) d.size) i.size) q.size) fun a0 dy dA ak t=>?_
 have a1:=aD.blk t (bi (dO a lr B) ay) Z
 refine bh ⟨(ag a1 rfl),(ag a1 rfl),(ag a1 rfl)⟩ fun dC=>?_
 refine R0 10 rfl<|Oc<|ep (bC (xs:=[(M.recs.getD k ⟨0,0,0,[]⟩).file,(M.recs.getD k ⟨0,0,0,[]⟩).record,(M.recs.getD k ⟨0,0,0,[]⟩).count]) ((ax aV t (fun x hx=>(bi ((gh aV a (le (le (le b.size c.size) d.size) i.size)) x hx) ay)) (fun _ _ h=>h))).rd (by(try simp only[List.length_cons,List.length_nil]);omega)) fun dD dE dG cc dH dI u=>?_
 have O:=ub u a1
 refine bh ⟨(ag O rfl),(ag O rfl),(ag O rfl)⟩ fun dJ=>?_
 have aZ:=ax ak u (fun x hx=>ay) (fun _ _ h=>h)
 refine R0 11 rfl<|cK bt (xs:=(L++[6])) (ys:=(bf ([(M.recs.getD k ⟨0,0,0,[]⟩).file,(M.recs.getD k ⟨0,0,0,[]⟩).record,(M.recs.getD k ⟨0,0,0,[]⟩).count]))) (.int .u8 0) 1 aZ (cc).rd (by(try simp only[List.length_append,List.length_cons,List.length_nil,aB]);omega) (le (le (le (le (le (le (le (le g.size f) b.size) c.size) d.size) i.size) q.size) t.size) u.size) fun b0 dK dL b1 a2=>?_
 have a3:=aD.blk a2 (bi (cQ O aZ (by decide)) ay) O
 refine bh ⟨(ag a3 rfl),(ag a3 rfl),(ag a3 rfl)⟩ fun cd=>Rt 12 cd<|re<|bn<|tn<|go<|Pl 2<|L0<|aR a3 3<|?_
 have b2:=ut (aD.mono (S':=(ob A++(ob a0++[]))) aY aq) (ut (aD.mono (S':=(ob A++(ob a0++[]))) t (av il aq)) (ut (aD.mono (S':=(ob a0++[])) u aq) a2 (av il aq)) (av il aq)) (av il (av il aq))
 refine L0<|Oc<|ep (bC (xs:=(M.recs.getD k ⟨0,0,0,[]⟩).words) (dN.old Q (ut R b2 (av (aT a l.size) (av (aT ak l.size) aq)))) (by(try simp only[List.length_cons,List.length_nil]);omega)) fun dM dP dQ cf dR dS a4=>?_
 refine L0<|cK bt (xs:=((L++[6])++(bf ([(M.recs.getD k ⟨0,0,0,[]⟩).file,(M.recs.getD k ⟨0,0,0,[]⟩).record,(M.recs.getD k ⟨0,0,0,[]⟩).count])))) (ys:=(bf ((M.recs.getD k ⟨0,0,0,[]⟩).words))) (.int .u8 0) 1 (ax b1 a4 (fun x hx=>ay) (fun _ _ h=>h)) (cf).rd (by(try simp only[List.length_append,List.length_cons,List.length_nil,aB]);omega) (le (le (le (le (le (le (le (le (le (le g.size f) b.size) c.size) d.size) i.size) q.size) t.size) u.size) a2.size) a4.size) fun cg ch dT ci b3=>Pl 1<|nl<|bn<|tn<|go<|L0<|Oi (((k:Nat) : Int)+1)<|Pl 1<|nl<|?_
 exact ga ((k+1),(((L++[6])++(bf ([(M.recs.getD k ⟨0,0,0,[]⟩).file,(M.recs.getD k ⟨0,0,0,[]⟩).record,(M.recs.getD k ⟨0,0,0,[]⟩).count])))++(bf ((M.recs.getD k ⟨0,0,0,[]⟩).words))),cg,ch) ⟨(ut C (ut (aD.mono (S':=(ob A++(ob a0++(ob b0++[])))) b2 (av il (av il aq))) (ut (aD.mono (S':=(ob b0++[])) a4 aq) b3 (av il aq)) (av il aq)) (av (aT a lr) (av (aT ak lr) (av (aT b1 lr) aq)))),(le (le (le (le (le (le (le (le (le (le f b.size) c.size) d.size) i.size) q.size) t.size) u.size) a2.size) a4.size) b3.size),ci,(by(try dsimp only);omega),(by(try dsimp only);rw[← hL,dw dir M.code M.recs k (by omega)];simp only[jl,hd0,n,o,bs,if_true,if_false,decide_true,decide_false,List.append_assoc]),(by(try dsimp only);have hv:=hf.recw _ (dB ⟨0,0,0,[]⟩ M.recs k (by omega));(try simp only[List.length_append,List.length_cons,List.length_nil,aB]);omega),(by(try dsimp only);(try simp only[List.length_append,List.length_cons,List.length_nil]);omega)⟩ (by omega)
 refine  dx (m:=3) (e:=24) #[.int .u16 ((M.recs.getD k ⟨0,0,0,[]⟩).file),.int .u16 ((M.recs.getD k ⟨0,0,0,[]⟩).record),.int .u16 ((M.recs.getD k ⟨0,0,0,[]⟩).count)] fun dU dV cj ck v=>?_
 have b4:=ee cj (xs:=[(M.recs.getD k ⟨0,0,0,[]⟩).file,(M.recs.getD k ⟨0,0,0,[]⟩).record,(M.recs.getD k ⟨0,0,0,[]⟩).count]) (by as_aux_lemma=>kernel_rfl) (az (by omega) (az (by omega) (az (by omega) aX))) (by(try simp only[List.length_cons,List.length_nil]);omega) ck
 have a5:=ub v F
 refine bh ⟨(ag a5 rfl),(ag a5 rfl),(ag a5 rfl)⟩ fun dW=>R0 1 rfl<|dx (m:=1) (e:=5) #[.int .u8 6] fun dX dY cl cm r=>?_
 have cn:=dF cl (xs:=[6]) (by as_aux_lemma=>kernel_rfl) (az (by omega) aX) (by(try simp only[List.length_cons,List.length_nil]);omega) cm
 have a6:=ub r a5
 refine bh ⟨(ag a6 rfl),(ag a6 rfl),(ag a6 rfl)⟩ fun dZ=>?_
 have b5:=aH d (aH v r)
 refine R0 2 rfl<|cK bt (xs:=L) (ys:=([6])) (.int .u8 0) 1 (ax a (aH s b5) (fun x hx=>ay) (fun _ _ h=>h)) (cn).rd (by(try simp only[List.length_append,List.length_cons,List.length_nil,aB]);omega) (le (le (le (le (le (le g.size f) b.size) c.size) d.size) v.size) r.size) fun a7 e0 e1 am y=>?_
 have a8:=aD.blk y (bi (dO a lr B) ay) a6
 refine bh ⟨(ag a8 rfl),(ag a8 rfl),(ag a8 rfl)⟩ fun e2=>?_
 refine R0 10 rfl<|Oc<|ep (bC (xs:=[(M.recs.getD k ⟨0,0,0,[]⟩).file,(M.recs.getD k ⟨0,0,0,[]⟩).record,(M.recs.getD k ⟨0,0,0,[]⟩).count]) ((ax b4 (ut (aD.mono (S':=(ob A++[])) r aq) y (av il aq)) (fun x hx=>(bi ((gh b4 a (le (le b.size c.size) d.size)) x hx) ay)) (fun _ _ h=>h))).rd (by(try simp only[List.length_cons,List.length_nil]);omega)) fun e3 e4 e5 co e6 e7 z=>?_
 have P:=ub z a8
 refine bh ⟨(ag P rfl),(ag P rfl),(ag P rfl)⟩ fun e8=>?_
 have b7:=ax am z (fun x hx=>ay) (fun _ _ h=>h)
 refine R0 11 rfl<|cK bt (xs:=(L++[6])) (ys:=(bf ([(M.recs.getD k ⟨0,0,0,[]⟩).file,(M.recs.getD k ⟨0,0,0,[]⟩).record,(M.recs.getD k ⟨0,0,0,[]⟩).count]))) (.int .u8 0) 1 b7 (co).rd (by(try simp only[List.length_append,List.length_cons,List.length_nil,aB]);omega) (le (le (le (le (le (le (le (le g.size f) b.size) c.size) d.size) v.size) r.size) y.size) z.size) fun b8 e9 ea ba a9=>?_
 have aa:=aD.blk a9 (bi (cQ P b7 (by decide)) ay) P
 refine bh ⟨(ag aa rfl),(ag aa rfl),(ag aa rfl)⟩ fun cq=>Rt 12 cq<|re<|bn<|tn<|go<|Pl 2<|L0<|aR aa 3<|?_
 have bb:=ut (aD.mono (S':=(ob A++(ob a7++[]))) b5 aq) (ut (aD.mono (S':=(ob A++(ob a7++[]))) y (av il aq)) (ut (aD.mono (S':=(ob a7++[])) z aq) a9 (av il aq)) (av il aq)) (av il (av il aq))
 refine L0<|Oc<|ep (bC (xs:=(M.recs.getD k ⟨0,0,0,[]⟩).words) (dN.old Q (ut R bb (av (aT a l.size) (av (aT am l.size) aq)))) (by(try simp only[List.length_cons,List.length_nil]);omega)) fun eb ec ed cr ef eg ab=>?_
 refine L0<|cK bt (xs:=((L++[6])++(bf ([(M.recs.getD k ⟨0,0,0,[]⟩).file,(M.recs.getD k ⟨0,0,0,[]⟩).record,(M.recs.getD k ⟨0,0,0,[]⟩).count])))) (ys:=(bf ((M.recs.getD k ⟨0,0,0,[]⟩).words))) (.int .u8 0) 1 (ax ba ab (fun x hx=>ay) (fun _ _ h=>h)) (cr).rd (by(try simp only[List.length_append,List.length_cons,List.length_nil,aB]);omega) (le (le (le (le (le (le (le (le (le (le g.size f) b.size) c.size) d.size) v.size) r.size) y.size) z.size) a9.size) ab.size) fun ct cv eh cw bc=>Pl 1<|nl<|bn<|tn<|go<|L0<|Oi (((k:Nat) : Int)+1)<|Pl 1<|nl<|?_
 exact ga ((k+1),(((L++[6])++(bf ([(M.recs.getD k ⟨0,0,0,[]⟩).file,(M.recs.getD k ⟨0,0,0,[]⟩).record,(M.recs.getD k ⟨0,0,0,[]⟩).count])))++(bf ((M.recs.getD k ⟨0,0,0,[]⟩).words))),ct,cv) ⟨(ut C (ut (aD.mono (S':=(ob A++(ob a7++(ob b8++[])))) bb (av il (av il aq))) (ut (aD.mono (S':=(ob b8++[])) ab aq) bc (av il aq)) (av il aq)) (av (aT a lr) (av (aT am lr) (av (aT ba lr) aq)))),(le (le (le (le (le (le (le (le (le (le f b.size) c.size) d.size) v.size) r.size) y.size) z.size) a9.size) ab.size) bc.size),cw,(by(try dsimp only);omega),(by(try dsimp only);rw[← hL,dw dir M.code M.recs k (by omega)];simp only[jl,hd0,n,o,bs,if_true,if_false,decide_true,decide_false,List.append_assoc]),(by(try dsimp only);have hv:=hf.recw _ (dB ⟨0,0,0,[]⟩ M.recs k (by omega));(try simp only[List.length_append,List.length_cons,List.length_nil,aB]);omega),(by(try dsimp only);(try simp only[List.length_append,List.length_cons,List.length_nil]);omega)⟩ (by omega)
 have bK:=of_decide_eq_false n
 refine xt<|tx<|tx<|bx<|tn<|sg<|Pl 3<|L0<|Oi (((L.length:Nat) : Int)-1)<|Pl 1<|fy (b9.at_ (a).rd 0 (by omega)) fun ei ej bd ek el=>L0<|jb L.length 0 bd (by omega)<|L0<|w6 bt (j:=0) a bd (by omega) ((((L.length:Nat) : Int)-1)%256) (fun _=>⟨rfl,by omega⟩) fun em cx cy=>nl<|?_
 refine tn<|sg<|Pl 2<|nt<|rt<|rr (.slice A L.length cp)<|?_
 have hk:k=M.recs.length:=by omega
 rw[hk,List.drop_length] at hL
 have hL2:[0]++cU dir M.code M.recs=L:=by rw[← hL];simp[cU]
 have hs:cX dir M=(L.set 0 ((((L.length:Nat) : Int)-1)%256)):=by unfold cX;rw[hL2]
 rw[hs]
 exact⟨_,rfl,(be.weaken cx l.size),(ut ad cy (av (aT a l.size) aq))⟩
theorem qu{m:Md}{cs:Array Value}{M:aP}{w:World}{dir:Int}(h:aW m w cs.toList M)(hf:cY M) : Calls Tryz.prog 212 #[.int .i64 dir,.agg cs] w (gQ (cX dir M) w):=by
  rcases dC (dir==0) with h0|h0
  · exact nw h hf h0
  · exact mO h hf h0
open Go.RowKit
theorem ie{parse:Int→Int→List Int→aP × Int}{lay:Int→aP→List Int}{dir E:Int}{M X:aP}(hX:parse dir M.code (lay dir M)=(X,E))(hE:(E != 0)=true) : cS parse lay dir M=none:=by
  unfold cS
  rw[hX,if_neg]
  intro h
  injection h with h1 h2
  rw[h2] at hE
  cases hE
theorem ii{parse:Int→Int→List Int→aP × Int}{lay:Int→aP→List Int}{dir E:Int}{M X:aP}(hX:parse dir M.code (lay dir M)=(X,E))(hE:decide (X=M)=false) : cS parse lay dir M=none:=by
  unfold cS
  rw[hX,if_neg]
  intro h
  injection h with h1 h2
  rw[h1] at hE
  simp at hE
theorem mH{parse:Int→Int→List Int→aP × Int}{lay:Int→aP→List Int}{dir E:Int}{M X:aP}(hX:parse dir M.code (lay dir M)=(X,E))(hE:(E != 0)=false)(h:decide (X=M)=true) : cS parse lay dir M=some (lay dir M):=by
  unfold cS
  have h1:X=M:=by simpa using h
  have h2:E=0:=by simpa using hE
  rw[hX,h1,h2,if_pos rfl]
theorem fg{x y:Option (List Int)}(h:x=y){w:World}{e:Ending}{w':World}(k:fb y w e w') : fb x w e w':=by rw[h];exact k
theorem iU{m:Md}{cs:Array Value}{M:aP}{w:World}{dir:Int}(h:aW m w cs.toList M)(hf:cY M)(hlen:(bP dir M).length≤1048576) : Calls Tryz.prog 139 #[.int .i64 dir,.agg cs] w (fb (cS ff bP dir M) w):=by
 have hM:=h
 obtain⟨vw,vb,vd,vr,vo,h0,hw,hbt,hd,hr,ho,hR⟩:=h
 obtain rfl:cs=(bQ M vw vb vd vr vo).toArray:=by apply Array.toList_inj.1;simpa using h0
 clear h0
 obtain⟨Aw,kw,rfl,_,_⟩:=hw.shape
 obtain⟨Ab,kb,rfl,_,_⟩:=hbt.shape
 obtain⟨Ad,kd,rfl,_,_⟩:=hd.shape
 obtain⟨Ar,kr,rfl,_,_⟩:=hr.shape
 obtain⟨Ao,ko,rfl,_,_⟩:=ho.shape
 obtain⟨q0,q1,q2,q3,q4,q5,q6,q7,q8,q9,y,z,C,D,E,F,G⟩:=hR
 simp only[B8,dm] at q0 q1 q2 q3 q4 q5 q6 q7 q8 q9 y z C D E F G
 refine en 29 Tryz.func139 rfl<|sg<|L0<|dz (mG M.code M.fail M.addr M.count M.value M.and_ M.or_ M.addr2 M.sub M.status M.events M.messages (.slice Aw M.words.length kw) (.slice Ab M.bits.length kb) (.slice Ad M.data.length kd) (.slice Ar M.recs.length kr) M.mei M.kind M.level M.more M.next (.slice Ao M.objects.length ko)) fun V W X k g=>Pl 2<|ng<|Pl 1<|L0<|cl k<|?_
 have l:=aW.old hM g
 refine L0<|Oc<|ep (qa (dir:=dir) l hf) fun H I J n Y Z o=>Pl 1<|ng<|Pl 2<|?_
 have p:=ub o k
 refine L0<|aR p 0<|Pl 1<|?_
 refine pr (ff dir M.code (bP dir M)) fun e K f=>?_
 have q:Calls _ _ _ _ (dD (ff dir M.code (bP dir M)) J):=iT (dir:=dir) (c:=M.code) q0 (n).rd hlen
 rw[f] at q
 refine L0<|Oc<|e2 (q) fun L a0 a N=>Pl 3<|L0<|bI mZ fun a1 a2 O P Q=>L0<|b6 (hz:=(by rw[a.size];exact aO)) (hv:=a.size) (h1:=a.one) P (L) fun a3 R S=>Pl 1<|nt<|sq<|sg<|Pl 3<|?_
 have r:=ud Q S O
 have i:=aH N r
 have s:=aH o i
 have t:=aH g s
 refine bl 22 ((K != 0)) (fun b=>?_) (fun b=>?_)
 have T:=au b
 refine Pl 5<|nt<|c1<|sg<|Pl 2<|nt<|rt<|tr<|rr (.tuple #[.slice none 0 0,.int .i64 1])<|?_
 refine fg (ie f b) ?_
 exact⟨rfl,t⟩
 have T:=ai b
 refine L1<|cl (hz:=(by rw[a.size];exact aO)) R<|?_
 refine L1<|cl (ub i p)<|?_
 refine L1<|Oc<|m1 (fN (A:=e) (B:=M) (aW.upd a r aG) (aW.old l s)) fun a4 u=>Pl 2<|nt<|?_
 have v:=aH t u
 refine cb ((!(decide (e=M)))) (fun j=>?_) (fun j=>?_)
 have d:(decide (e=M))=false:=by simpa using j
 have U:=of_decide_eq_false d
 refine sg<|Pl 2<|nt<|rt<|tr<|rr (.tuple #[.slice none 0 0,.int .i64 1])<|?_
 refine fg (ii f d) ?_
 exact⟨rfl,v⟩
 have d:(decide (e=M))=true:=by simpa using j
 have U:=of_decide_eq_true d
 refine bo<|sg<|Pl 3<|nt<|rt<|rr (.tuple #[.slice H ((bP dir M).length) I,.int .i64 0])<|?_
 refine fg (mH f b d) ?_
 exact⟨_,rfl,(be.weaken (ax n (aH i u) (fun x hx=>ay) (fun _ _ h=>h)) g.size),v⟩
theorem ju{m:Md}{cs:Array Value}{M:aP}{w:World}{dir:Int}(h:aW m w cs.toList M)(hf:cY M)(hlen:(bL dir M).length≤1048576) : Calls Tryz.prog 141 #[.int .i64 dir,.agg cs] w (fb (cS fQ bL dir M) w):=by
 have hM:=h
 obtain⟨vw,vb,vd,vr,vo,h0,hw,hbt,hd,hr,ho,hR⟩:=h
 obtain rfl:cs=(bQ M vw vb vd vr vo).toArray:=by apply Array.toList_inj.1;simpa using h0
 clear h0
 obtain⟨Aw,kw,rfl,_,_⟩:=hw.shape
 obtain⟨Ab,kb,rfl,_,_⟩:=hbt.shape
 obtain⟨Ad,kd,rfl,_,_⟩:=hd.shape
 obtain⟨Ar,kr,rfl,_,_⟩:=hr.shape
 obtain⟨Ao,ko,rfl,_,_⟩:=ho.shape
 obtain⟨q0,q1,q2,q3,q4,q5,q6,q7,q8,q9,y,z,C,D,E,F,G⟩:=hR
 simp only[B8,dm] at q0 q1 q2 q3 q4 q5 q6 q7 q8 q9 y z C D E F G
 refine en 29 Tryz.func141 rfl<|sg<|L0<|dz (mG M.code M.fail M.addr M.count M.value M.and_ M.or_ M.addr2 M.sub M.status M.events M.messages (.slice Aw M.words.length kw) (.slice Ab M.bits.length kb) (.slice Ad M.data.length kd) (.slice Ar M.recs.length kr) M.mei M.kind M.level M.more M.next (.slice Ao M.objects.length ko)) fun V W X k g=>Pl 2<|ng<|Pl 1<|L0<|cl k<|?_
 have l:=aW.old hM g
 refine L0<|Oc<|ep (rZ (dir:=dir) l hf) fun H I J n Y Z o=>Pl 1<|ng<|Pl 2<|?_
 have p:=ub o k
 refine L0<|aR p 0<|Pl 1<|?_
 refine pr (fQ dir M.code (bL dir M)) fun e K f=>?_
 have q:Calls _ _ _ _ (dD (fQ dir M.code (bL dir M)) J):=jH (dir:=dir) (c:=M.code) q0 (n).rd hlen
 rw[f] at q
 refine L0<|Oc<|e2 (q) fun L a0 a N=>Pl 3<|L0<|bI mZ fun a1 a2 O P Q=>L0<|b6 (hz:=(by rw[a.size];exact aO)) (hv:=a.size) (h1:=a.one) P (L) fun a3 R S=>Pl 1<|nt<|sq<|sg<|Pl 3<|?_
 have r:=ud Q S O
 have i:=aH N r
 have s:=aH o i
 have t:=aH g s
 refine bl 22 ((K != 0)) (fun b=>?_) (fun b=>?_)
 have T:=au b
 refine Pl 5<|nt<|c1<|sg<|Pl 2<|nt<|rt<|tr<|rr (.tuple #[.slice none 0 0,.int .i64 1])<|?_
 refine fg (ie f b) ?_
 exact⟨rfl,t⟩
 have T:=ai b
 refine L1<|cl (hz:=(by rw[a.size];exact aO)) R<|?_
 refine L1<|cl (ub i p)<|?_
 refine L1<|Oc<|m1 (fN (A:=e) (B:=M) (aW.upd a r aG) (aW.old l s)) fun a4 u=>Pl 2<|nt<|?_
 have v:=aH t u
 refine cb ((!(decide (e=M)))) (fun j=>?_) (fun j=>?_)
 have d:(decide (e=M))=false:=by simpa using j
 have U:=of_decide_eq_false d
 refine sg<|Pl 2<|nt<|rt<|tr<|rr (.tuple #[.slice none 0 0,.int .i64 1])<|?_
 refine fg (ii f d) ?_
 exact⟨rfl,v⟩
 have d:(decide (e=M))=true:=by simpa using j
 have U:=of_decide_eq_true d
 refine bo<|sg<|Pl 3<|nt<|rt<|rr (.tuple #[.slice H ((bL dir M).length) I,.int .i64 0])<|?_
 refine fg (mH f b d) ?_
 exact⟨_,rfl,(be.weaken (ax n (aH i u) (fun x hx=>ay) (fun _ _ h=>h)) g.size),v⟩
theorem jJ{m:Md}{cs:Array Value}{M:aP}{w:World}{dir:Int}(h:aW m w cs.toList M)(hf:cY M)(hlen:(bW dir M).length≤1048576) : Calls Tryz.prog 143 #[.int .i64 dir,.agg cs] w (fb (cS fP bW dir M) w):=by
 have hM:=h
 obtain⟨vw,vb,vd,vr,vo,h0,hw,hbt,hd,hr,ho,hR⟩:=h
 obtain rfl:cs=(bQ M vw vb vd vr vo).toArray:=by apply Array.toList_inj.1;simpa using h0
 clear h0
 obtain⟨Aw,kw,rfl,_,_⟩:=hw.shape
 obtain⟨Ab,kb,rfl,_,_⟩:=hbt.shape
 obtain⟨Ad,kd,rfl,_,_⟩:=hd.shape
 obtain⟨Ar,kr,rfl,_,_⟩:=hr.shape
 obtain⟨Ao,ko,rfl,_,_⟩:=ho.shape
 obtain⟨q0,q1,q2,q3,q4,q5,q6,q7,q8,q9,y,z,C,D,E,F,G⟩:=hR
 simp only[B8,dm] at q0 q1 q2 q3 q4 q5 q6 q7 q8 q9 y z C D E F G
 refine en 29 Tryz.func143 rfl<|sg<|L0<|dz (mG M.code M.fail M.addr M.count M.value M.and_ M.or_ M.addr2 M.sub M.status M.events M.messages (.slice Aw M.words.length kw) (.slice Ab M.bits.length kb) (.slice Ad M.data.length kd) (.slice Ar M.recs.length kr) M.mei M.kind M.level M.more M.next (.slice Ao M.objects.length ko)) fun V W X k g=>Pl 2<|ng<|Pl 1<|L0<|cl k<|?_
 have l:=aW.old hM g
 refine L0<|Oc<|ep (sR (dir:=dir) l hf) fun H I J n Y Z o=>Pl 1<|ng<|Pl 2<|?_
 have p:=ub o k
 refine L0<|aR p 0<|Pl 1<|?_
 refine pr (fP dir M.code (bW dir M)) fun e K f=>?_
 have q:Calls _ _ _ _ (dD (fP dir M.code (bW dir M)) J):=jU (dir:=dir) (c:=M.code) q0 (n).rd hlen
 rw[f] at q
 refine L0<|Oc<|e2 (q) fun L a0 a N=>Pl 3<|L0<|bI mZ fun a1 a2 O P Q=>L0<|b6 (hz:=(by rw[a.size];exact aO)) (hv:=a.size) (h1:=a.one) P (L) fun a3 R S=>Pl 1<|nt<|sq<|sg<|Pl 3<|?_
 have r:=ud Q S O
 have i:=aH N r
 have s:=aH o i
 have t:=aH g s
 refine bl 22 ((K != 0)) (fun b=>?_) (fun b=>?_)
 have T:=au b
 refine Pl 5<|nt<|c1<|sg<|Pl 2<|nt<|rt<|tr<|rr (.tuple #[.slice none 0 0,.int .i64 1])<|?_
 refine fg (ie f b) ?_
 exact⟨rfl,t⟩
 have T:=ai b
 refine L1<|cl (hz:=(by rw[a.size];exact aO)) R<|?_
 refine L1<|cl (ub i p)<|?_
 refine L1<|Oc<|m1 (fN (A:=e) (B:=M) (aW.upd a r aG) (aW.old l s)) fun a4 u=>Pl 2<|nt<|?_
 have v:=aH t u
 refine cb ((!(decide (e=M)))) (fun j=>?_) (fun j=>?_)
 have d:(decide (e=M))=false:=by simpa using j
 have U:=of_decide_eq_false d
 refine sg<|Pl 2<|nt<|rt<|tr<|rr (.tuple #[.slice none 0 0,.int .i64 1])<|?_
 refine fg (ii f d) ?_
 exact⟨rfl,v⟩
 have d:(decide (e=M))=true:=by simpa using j
 have U:=of_decide_eq_true d
 refine bo<|sg<|Pl 3<|nt<|rt<|rr (.tuple #[.slice H ((bW dir M).length) I,.int .i64 0])<|?_
 refine fg (mH f b d) ?_
 exact⟨_,rfl,(be.weaken (ax n (aH i u) (fun x hx=>ay) (fun _ _ h=>h)) g.size),v⟩
theorem ln{m:Md}{cs:Array Value}{M:aP}{w:World}{dir:Int}(h:aW m w cs.toList M)(hf:cY M)(hlen:(dp dir M).length≤1048576) : Calls Tryz.prog 147 #[.int .i64 dir,.agg cs] w (fb (cS gl dp dir M) w):=by
 have hM:=h
 obtain⟨vw,vb,vd,vr,vo,h0,hw,hbt,hd,hr,ho,hR⟩:=h
 obtain rfl:cs=(bQ M vw vb vd vr vo).toArray:=by apply Array.toList_inj.1;simpa using h0
 clear h0
 obtain⟨Aw,kw,rfl,_,_⟩:=hw.shape
 obtain⟨Ab,kb,rfl,_,_⟩:=hbt.shape
 obtain⟨Ad,kd,rfl,_,_⟩:=hd.shape
 obtain⟨Ar,kr,rfl,_,_⟩:=hr.shape
 obtain⟨Ao,ko,rfl,_,_⟩:=ho.shape
 obtain⟨q0,q1,q2,q3,q4,q5,q6,q7,q8,q9,y,z,C,D,E,F,G⟩:=hR
 simp only[B8,dm] at q0 q1 q2 q3 q4 q5 q6 q7 q8 q9 y z C D E F G
 refine en 29 Tryz.func147 rfl<|sg<|L0<|dz (mG M.code M.fail M.addr M.count M.value M.and_ M.or_ M.addr2 M.sub M.status M.events M.messages (.slice Aw M.words.length kw) (.slice Ab M.bits.length kb) (.slice Ad M.data.length kd) (.slice Ar M.recs.length kr) M.mei M.kind M.level M.more M.next (.slice Ao M.objects.length ko)) fun V W X k g=>Pl 2<|ng<|Pl 1<|L0<|cl k<|?_
 have l:=aW.old hM g
 refine L0<|Oc<|ep (tb (dir:=dir) l hf) fun H I J n Y Z o=>Pl 1<|ng<|Pl 2<|?_
 have p:=ub o k
 refine L0<|aR p 0<|Pl 1<|?_
 refine pr (gl dir M.code (dp dir M)) fun e K f=>?_
 have q:Calls _ _ _ _ (dD (gl dir M.code (dp dir M)) J):=lB (dir:=dir) (c:=M.code) q0 (n).rd hlen
 rw[f] at q
 refine L0<|Oc<|e2 (q) fun L a0 a N=>Pl 3<|L0<|bI mZ fun a1 a2 O P Q=>L0<|b6 (hz:=(by rw[a.size];exact aO)) (hv:=a.size) (h1:=a.one) P (L) fun a3 R S=>Pl 1<|nt<|sq<|sg<|Pl 3<|?_
 have r:=ud Q S O
 have i:=aH N r
 have s:=aH o i
 have t:=aH g s
 refine bl 22 ((K != 0)) (fun b=>?_) (fun b=>?_)
 have T:=au b
 refine Pl 5<|nt<|c1<|sg<|Pl 2<|nt<|rt<|tr<|rr (.tuple #[.slice none 0 0,.int .i64 1])<|?_
 refine fg (ie f b) ?_
 exact⟨rfl,t⟩
 have T:=ai b
 refine L1<|cl (hz:=(by rw[a.size];exact aO)) R<|?_
 refine L1<|cl (ub i p)<|?_
 refine L1<|Oc<|m1 (fN (A:=e) (B:=M) (aW.upd a r aG) (aW.old l s)) fun a4 u=>Pl 2<|nt<|?_
 have v:=aH t u
 refine cb ((!(decide (e=M)))) (fun j=>?_) (fun j=>?_)
 have d:(decide (e=M))=false:=by simpa using j
 have U:=of_decide_eq_false d
 refine sg<|Pl 2<|nt<|rt<|tr<|rr (.tuple #[.slice none 0 0,.int .i64 1])<|?_
 refine fg (ii f d) ?_
 exact⟨rfl,v⟩
 have d:(decide (e=M))=true:=by simpa using j
 have U:=of_decide_eq_true d
 refine bo<|sg<|Pl 3<|nt<|rt<|rr (.tuple #[.slice H ((dp dir M).length) I,.int .i64 0])<|?_
 refine fg (mH f b d) ?_
 exact⟨_,rfl,(be.weaken (ax n (aH i u) (fun x hx=>ay) (fun _ _ h=>h)) g.size),v⟩
theorem iJ{m:Md}{cs:Array Value}{M:aP}{w:World}{dir:Int}(h:aW m w cs.toList M)(hf:cY M)(hlen:(cX dir M).length≤1048576) : Calls Tryz.prog 145 #[.int .i64 dir,.agg cs] w (fb (cS fe cX dir M) w):=by
 have hM:=h
 obtain⟨vw,vb,vd,vr,vo,h0,hw,hbt,hd,hr,ho,hR⟩:=h
 obtain rfl:cs=(bQ M vw vb vd vr vo).toArray:=by apply Array.toList_inj.1;simpa using h0
 clear h0
 obtain⟨Aw,kw,rfl,_,_⟩:=hw.shape
 obtain⟨Ab,kb,rfl,_,_⟩:=hbt.shape
 obtain⟨Ad,kd,rfl,_,_⟩:=hd.shape
 obtain⟨Ar,kr,rfl,_,_⟩:=hr.shape
 obtain⟨Ao,ko,rfl,_,_⟩:=ho.shape
 obtain⟨q0,q1,q2,q3,q4,q5,q6,q7,q8,q9,y,z,C,D,E,F,G⟩:=hR
 simp only[B8,dm] at q0 q1 q2 q3 q4 q5 q6 q7 q8 q9 y z C D E F G
 refine en 29 Tryz.func145 rfl<|sg<|L0<|dz (mG M.code M.fail M.addr M.count M.value M.and_ M.or_ M.addr2 M.sub M.status M.events M.messages (.slice Aw M.words.length kw) (.slice Ab M.bits.length kb) (.slice Ad M.data.length kd) (.slice Ar M.recs.length kr) M.mei M.kind M.level M.more M.next (.slice Ao M.objects.length ko)) fun V W X k g=>Pl 2<|ng<|Pl 1<|L0<|cl k<|?_
 have l:=aW.old hM g
 refine L0<|Oc<|ep (qu (dir:=dir) l hf) fun H I J n Y Z o=>Pl 1<|ng<|Pl 2<|?_
 have p:=ub o k
 refine L0<|aR p 0<|Pl 1<|?_
 refine pr (fe dir M.code (cX dir M)) fun e K f=>?_
 have q:Calls _ _ _ _ (dD (fe dir M.code (cX dir M)) J):=iM (dir:=dir) (c:=M.code) q0 (n).rd hlen
 rw[f] at q
 refine L0<|Oc<|e2 (q) fun L a0 a N=>Pl 3<|L0<|bI mZ fun a1 a2 O P Q=>L0<|b6 (hz:=(by rw[a.size];exact aO)) (hv:=a.size) (h1:=a.one) P (L) fun a3 R S=>Pl 1<|nt<|sq<|sg<|Pl 3<|?_
 have r:=ud Q S O
 have i:=aH N r
 have s:=aH o i
 have t:=aH g s
 refine bl 22 ((K != 0)) (fun b=>?_) (fun b=>?_)
 have T:=au b
 refine Pl 5<|nt<|c1<|sg<|Pl 2<|nt<|rt<|tr<|rr (.tuple #[.slice none 0 0,.int .i64 1])<|?_
 refine fg (ie f b) ?_
 exact⟨rfl,t⟩
 have T:=ai b
 refine L1<|cl (hz:=(by rw[a.size];exact aO)) R<|?_
 refine L1<|cl (ub i p)<|?_
 refine L1<|Oc<|m1 (fN (A:=e) (B:=M) (aW.upd a r aG) (aW.old l s)) fun a4 u=>Pl 2<|nt<|?_
 have v:=aH t u
 refine cb ((!(decide (e=M)))) (fun j=>?_) (fun j=>?_)
 have d:(decide (e=M))=false:=by simpa using j
 have U:=of_decide_eq_false d
 refine sg<|Pl 2<|nt<|rt<|tr<|rr (.tuple #[.slice none 0 0,.int .i64 1])<|?_
 refine fg (ii f d) ?_
 exact⟨rfl,v⟩
 have d:(decide (e=M))=true:=by simpa using j
 have U:=of_decide_eq_true d
 refine bo<|sg<|Pl 3<|nt<|rt<|rr (.tuple #[.slice H ((cX dir M).length) I,.int .i64 0])<|?_
 refine fg (mH f b d) ?_
 exact⟨_,rfl,(be.weaken (ax n (aH i u) (fun x hx=>ay) (fun _ _ h=>h)) g.size),v⟩
open Go.RowKit
def gw:Nat→Int→aP→Option (List Int)
  | 1,dir,M=>cS ff bP dir M
  | 2,dir,M=>cS fQ bL dir M
  | 3,dir,M=>cS fP bW dir M
  | 4,dir,M=>cS fe cX dir M
  | 5,dir,M=>cS gl dp dir M
  | _,_,_=>none
def dj (dir:Int)(M:aP) : Option (List Int) :=
  if M.fail != 0 then (if dir != 1 then none else kE M)
  else match gw (jR M.code) dir M with
    | none=>none
    | some l=>if decide (253≤(l.length:Int)) then none else some ([M.code]++l)
theorem mF:∀ (L:List Obj),(∀ r,r∈L→r.value.length≤1024)→(gG L).length≤1026*L.length
  | [],_=>by simp[gG]
  | r :: L,h=>by
    have h1:=h r (by simp)
    have h2:=mF L fun x hx=>h x (by simp[hx])
    simp only[gG,List.length_append,List.length_cons,List.length_nil]
    omega
theorem jE(dir c:Int) : ∀ (L:List dl),(∀ r,r∈L→r.words.length≤1024)→(cU dir c L).length≤2064*L.length
  | [],_=>by simp[cU]
  | r :: L,h=>by
    have h1:=h r (by simp)
    have h2:=jE dir c L fun x hx=>h x (by simp[hx])
    simp only[cU,jl]
    repeat' split
    all_goals simp only[List.length_append,List.length_cons,List.length_nil,aB]
    all_goals omega
theorem eI{M:aP}(hf:cY M)(dir:Int) : (bP dir M).length≤1048576∧(bL dir M).length≤1048576∧(bW dir M).length≤1048576∧(dp dir M).length≤1048576∧(cX dir M).length≤1048576:=by
  have hp:(cF M.bits).length≤1024:=by
    have:=hf.bits
    simp only[cF,List.length_map,List.length_range,du]
    omega
  have h1:=hf.words
  have h2:=hf.data
  have h3:=hf.objects
  have h4:=mF M.objects hf.objv
  have h5:=jE dir M.code M.recs hf.recw
  have h6:=hf.recs
  refine⟨?_,?_,?_,?_,?_⟩
  · unfold bP
    repeat' split
    all_goals simp only[List.length_append,List.length_cons,List.length_nil,aB]
    all_goals omega
  · unfold bL
    repeat' split
    all_goals simp only[List.length_append,List.length_cons,List.length_nil,aB]
    all_goals omega
  · unfold bW
    repeat' split
    all_goals simp only[List.length_append,List.length_cons,List.length_nil,aB]
    all_goals omega
  · unfold dp
    repeat' split
    all_goals simp only[List.length_append,List.length_cons,List.length_nil]
    all_goals omega
  · unfold cX
    simp only[List.length_set,List.length_append,List.length_cons,List.length_nil]
    omega
theorem lb{m:Md}{cs:Array Value}{M:aP}{w:World}{dir:Int}(h:aW m w cs.toList M)(hf:cY M) : Calls Tryz.prog 28 #[.int .i64 dir,.agg cs] w (fb (dj dir M) w):=by
 have hM:=h
 obtain⟨vw,vb,vd,vr,vo,h0,hw,hbt,hd,hr,ho,hR⟩:=h
 obtain rfl:cs=(bQ M vw vb vd vr vo).toArray:=by apply Array.toList_inj.1;simpa using h0
 clear h0
 obtain⟨Aw,kw,rfl,_,_⟩:=hw.shape
 obtain⟨Ab,kb,rfl,_,_⟩:=hbt.shape
 obtain⟨Ad,kd,rfl,_,_⟩:=hd.shape
 obtain⟨Ar,kr,rfl,_,_⟩:=hr.shape
 obtain⟨Ao,ko,rfl,_,_⟩:=ho.shape
 obtain⟨q0,q1,q2,q3,q4,q5,q6,q7,q8,q9,ah,aj,c,ak,al,am,an⟩:=hR
 simp only[B8,dm] at q0 q1 q2 q3 q4 q5 q6 q7 q8 q9 ah aj c ak al am an
 refine en 47 Tryz.func28 rfl<|sg<|L0<|dz (mG M.code M.fail M.addr M.count M.value M.and_ M.or_ M.addr2 M.sub M.status M.events M.messages (.slice Aw M.words.length kw) (.slice Ab M.bits.length kb) (.slice Ad M.data.length kd) (.slice Ar M.recs.length kr) M.mei M.kind M.level M.more M.next (.slice Ao M.objects.length ko)) fun cg f ch d b=>Pl 2<|nt<|sq<|sg<|Pl 1<|L0<|aR d 1<|Pl 1<|nl<|?_
 refine tn<|cb ((M.fail != 0)) (fun a=>?_) (fun a=>?_)
 have ao:=au a
 refine sq<|sg<|Pl 2<|nt<|cb ((dir != 1)) (fun c=>?_) (fun c=>?_)
 have ap:=au c
 refine sg<|Pl 2<|nt<|rt<|tr<|tr<|rr (.tuple #[.slice none 0 0,.int .i64 1])<|?_
 have hs:dj dir M=none:=by
   unfold dj
   (try simp only[a,c,bs,if_true,if_false,decide_true,decide_false,reduceIte])
   all_goals rfl
 refine dT hs ?_
 exact⟨rfl,b⟩
 have ap:=ai c
 refine bo<|sg<|L0<|cl d<|?_
 rcases hwr:kE M with _|lw
 have E:=kI (aW.old hM b)
 rw[hwr] at E
 refine L0<|Oc<|m1 E fun ci ar=>Pl 4<|nt<|rt<|tr<|rr (.tuple #[.slice none 0 0,.int .i64 1])<|?_
 have hs:dj dir M=none:=by
   unfold dj
   (try simp only[a,c,bs,if_true,if_false,decide_true,decide_false,hwr,reduceIte])
   all_goals rfl
 refine dT hs ?_
 exact⟨rfl,(aH b ar)⟩
 have F:=kI (aW.old hM b)
 rw[hwr] at F
 refine L0<|Oc<|ep F fun aw aA cj aC ck cm aD=>Pl 4<|nt<|rt<|tr<|rr (.tuple #[.slice aw lw.length aA,.int .i64 0])<|?_
 have hs:dj dir M=(some lw):=by
   unfold dj
   (try simp only[a,c,bs,if_true,if_false,decide_true,decide_false,hwr,reduceIte])
   all_goals rfl
 refine dT hs ?_
 exact⟨_,rfl,(be.weaken aC b.size),(aH b aD)⟩
 have ao:=ai a
 refine bo<|sg<|Pl 1<|L0<|aR d 0<|?_
 rcases gA M.code with⟨hk,hkf⟩|⟨hk,hkf⟩|⟨hk,hkf⟩|⟨hk,hkf⟩|⟨hk,hkf⟩|⟨hk,hkf⟩
 have G:=eV (x:=M.code) (w:=f)
 rw[hkf] at G
 refine L0<|Oc<|m1 G fun cn aE=>Pl 3<|L0<|bI #[.nilFunc,.nilFunc] fun co cp aF aG aI=>L0<|b6 aG #[.func (.func 138) #[] #[],.func (.func 139) #[] #[]] fun cq aJ aK=>Pl 1<|nt<|sq<|sg<|Pl 2<|nt<|c0<|?_
 refine bo<|sg<|Pl 1<|L0<|aR aJ 1<|Pl 1<|?_
 have H:=aH aE (ud aI aK aF)
 have I:=ub H d
 refine L0<|cl I<|?_
 have n:=aH b H
 rcases hwr:cS ff bP dir M with _|lw
 have J:=iU (dir:=dir) (aW.old hM n) hf (eI hf dir).1
 rw[hwr] at J
 refine L0<|fV #[] #[] (args:=#[.int .i64 dir,.agg (mG M.code M.fail M.addr M.count M.value M.and_ M.or_ M.addr2 M.sub M.status M.events M.messages (.slice Aw M.words.length kw) (.slice Ab M.bits.length kb) (.slice Ad M.data.length kd) (.slice Ar M.recs.length kr) M.mei M.kind M.level M.more M.next (.slice Ao M.objects.length ko))])<|m1 J fun cr aL=>Pl 5<|nt<|sq<|sg<|Pl 7<|nt<|c1<|sg<|Pl 2<|nl<|?_
 refine tn<|rt<|tr<|rr (.tuple #[.slice none 0 0,.int .i64 1])<|?_
 have hs:dj dir M=none:=by
   unfold dj
   (try simp only[a,bs,if_true,if_false,decide_true,decide_false,hkf,gw,hwr,reduceIte])
   all_goals rfl
 refine dT hs ?_
 exact⟨rfl,(aH n aL)⟩
 have K:=iU (dir:=dir) (aW.old hM n) hf (eI hf dir).1
 rw[hwr] at K
 refine L0<|fV #[] #[] (args:=#[.int .i64 dir,.agg (mG M.code M.fail M.addr M.count M.value M.and_ M.or_ M.addr2 M.sub M.status M.events M.messages (.slice Aw M.words.length kw) (.slice Ab M.bits.length kb) (.slice Ad M.data.length kd) (.slice Ar M.recs.length kr) M.mei M.kind M.level M.more M.next (.slice Ao M.objects.length ko))])<|ep K fun ct cu cv aM cw cx L=>Pl 5<|nt<|sq<|sg<|Pl 7<|nt<|?_
 have s:=aH n L
 refine cb ((decide (253≤((lw.length:Nat) : Int)))) (fun g=>?_) (fun g=>?_)
 have aN:=of_decide_eq_true g
 refine sg<|Pl 2<|nt<|rt<|tr<|rr (.tuple #[.slice none 0 0,.int .i64 1])<|?_
 have hs:dj dir M=none:=by
   unfold dj
   (try simp only[a,g,bs,if_true,if_false,decide_true,decide_false,hkf,gw,hwr,reduceIte])
   all_goals rfl
 refine dT hs ?_
 exact⟨rfl,s⟩
 have aN:=of_decide_eq_false g
 refine bo<|sg<|Pl 1<|?_
 refine L0<|aR (ub L I) 0<|L0<|dx (m:=1) (e:=5) #[.int .u8 M.code] fun cy cz aO aQ t=>?_
 have N:=dF aO (xs:=[M.code]) (by as_aux_lemma=>kernel_rfl) (az (by omega) aX) (by(try simp only[List.length_cons,List.length_nil]);omega) aQ
 refine Pl 1<|?_
 refine L0<|cK bt (xs:=([M.code])) (ys:=lw) (.int .u8 0) 1 N ((ax aM t (fun x hx=>ay) (fun _ _ h=>h))).rd (by(try simp only[List.length_append,List.length_cons,List.length_nil,aB]);omega) t.size fun aS aU cA aV aY=>Pl 2<|nt<|rt<|rr (.tuple #[.slice aS (([M.code]++lw).length) aU,.int .i64 0])<|?_
 have hs:dj dir M=(some ([M.code]++lw)):=by
   unfold dj
   (try simp only[a,g,bs,if_true,if_false,decide_true,decide_false,hkf,gw,hwr,reduceIte])
   all_goals rfl
 refine dT hs ?_
 exact⟨_,rfl,(be.weaken aV s.size),(aH s (ut t aY (av (aT N lr) aq)))⟩
 have O:=eV (x:=M.code) (w:=f)
 rw[hkf] at O
 refine L0<|Oc<|m1 O fun cB aZ=>Pl 3<|L0<|bI #[.nilFunc,.nilFunc] fun cC cD b0 b1 b2=>L0<|b6 b1 #[.func (.func 140) #[] #[],.func (.func 141) #[] #[]] fun cE b3 b4=>Pl 1<|nt<|sq<|sg<|Pl 2<|nt<|c0<|?_
 refine bo<|sg<|Pl 1<|L0<|aR b3 1<|Pl 1<|?_
 have P:=aH aZ (ud b2 b4 b0)
 have Q:=ub P d
 refine L0<|cl Q<|?_
 have o:=aH b P
 rcases hwr:cS fQ bL dir M with _|lw
 have R:=ju (dir:=dir) (aW.old hM o) hf (eI hf dir).2.1
 rw[hwr] at R
 refine L0<|fV #[] #[] (args:=#[.int .i64 dir,.agg (mG M.code M.fail M.addr M.count M.value M.and_ M.or_ M.addr2 M.sub M.status M.events M.messages (.slice Aw M.words.length kw) (.slice Ab M.bits.length kb) (.slice Ad M.data.length kd) (.slice Ar M.recs.length kr) M.mei M.kind M.level M.more M.next (.slice Ao M.objects.length ko))])<|m1 R fun cF b5=>Pl 5<|nt<|sq<|sg<|Pl 7<|nt<|c1<|sg<|Pl 2<|nl<|?_
 refine tn<|rt<|tr<|rr (.tuple #[.slice none 0 0,.int .i64 1])<|?_
 have hs:dj dir M=none:=by
   unfold dj
   (try simp only[a,bs,if_true,if_false,decide_true,decide_false,hkf,gw,hwr,reduceIte])
   all_goals rfl
 refine dT hs ?_
 exact⟨rfl,(aH o b5)⟩
 have S:=ju (dir:=dir) (aW.old hM o) hf (eI hf dir).2.1
 rw[hwr] at S
 refine L0<|fV #[] #[] (args:=#[.int .i64 dir,.agg (mG M.code M.fail M.addr M.count M.value M.and_ M.or_ M.addr2 M.sub M.status M.events M.messages (.slice Aw M.words.length kw) (.slice Ab M.bits.length kb) (.slice Ad M.data.length kd) (.slice Ar M.recs.length kr) M.mei M.kind M.level M.more M.next (.slice Ao M.objects.length ko))])<|ep S fun cG cH cI b7 cJ cL T=>Pl 5<|nt<|sq<|sg<|Pl 7<|nt<|?_
 have u:=aH o T
 refine cb ((decide (253≤((lw.length:Nat) : Int)))) (fun i=>?_) (fun i=>?_)
 have b8:=of_decide_eq_true i
 refine sg<|Pl 2<|nt<|rt<|tr<|rr (.tuple #[.slice none 0 0,.int .i64 1])<|?_
 have hs:dj dir M=none:=by
   unfold dj
   (try simp only[a,i,bs,if_true,if_false,decide_true,decide_false,hkf,gw,hwr,reduceIte])
   all_goals rfl
 refine dT hs ?_
 exact⟨rfl,u⟩
 have b8:=of_decide_eq_false i
 refine bo<|sg<|Pl 1<|?_
 refine L0<|aR (ub T Q) 0<|L0<|dx (m:=1) (e:=5) #[.int .u8 M.code] fun cM cN b9 ba v=>?_
 have U:=dF b9 (xs:=[M.code]) (by as_aux_lemma=>kernel_rfl) (az (by omega) aX) (by(try simp only[List.length_cons,List.length_nil]);omega) ba
 refine Pl 1<|?_
 refine L0<|cK bt (xs:=([M.code])) (ys:=lw) (.int .u8 0) 1 U ((ax b7 v (fun x hx=>ay) (fun _ _ h=>h))).rd (by(try simp only[List.length_append,List.length_cons,List.length_nil,aB]);omega) v.size fun bb bc cO bd bf=>Pl 2<|nt<|rt<|rr (.tuple #[.slice bb (([M.code]++lw).length) bc,.int .i64 0])<|?_
 have hs:dj dir M=(some ([M.code]++lw)):=by
   unfold dj
   (try simp only[a,i,bs,if_true,if_false,decide_true,decide_false,hkf,gw,hwr,reduceIte])
   all_goals rfl
 refine dT hs ?_
 exact⟨_,rfl,(be.weaken bd u.size),(aH u (ut v bf (av (aT U lr) aq)))⟩
 have V:=eV (x:=M.code) (w:=f)
 rw[hkf] at V
 refine L0<|Oc<|m1 V fun cP bg=>Pl 3<|L0<|bI #[.nilFunc,.nilFunc] fun cQ cR bh bi bj=>L0<|b6 bi #[.func (.func 142) #[] #[],.func (.func 143) #[] #[]] fun cT bk bl=>Pl 1<|nt<|sq<|sg<|Pl 2<|nt<|c0<|?_
 refine bo<|sg<|Pl 1<|L0<|aR bk 1<|Pl 1<|?_
 have W:=aH bg (ud bj bl bh)
 have X:=ub W d
 refine L0<|cl X<|?_
 have p:=aH b W
 rcases hwr:cS fP bW dir M with _|lw
 have Y:=jJ (dir:=dir) (aW.old hM p) hf (eI hf dir).2.2.1
 rw[hwr] at Y
 refine L0<|fV #[] #[] (args:=#[.int .i64 dir,.agg (mG M.code M.fail M.addr M.count M.value M.and_ M.or_ M.addr2 M.sub M.status M.events M.messages (.slice Aw M.words.length kw) (.slice Ab M.bits.length kb) (.slice Ad M.data.length kd) (.slice Ar M.recs.length kr) M.mei M.kind M.level M.more M.next (.slice Ao M.objects.length ko))])<|m1 Y fun cU bm=>Pl 5<|nt<|sq<|sg<|Pl 7<|nt<|c1<|sg<|Pl 2<|nl<|?_
 refine tn<|rt<|tr<|rr (.tuple #[.slice none 0 0,.int .i64 1])<|?_
 have hs:dj dir M=none:=by
   unfold dj
   (try simp only[a,bs,if_true,if_false,decide_true,decide_false,hkf,gw,hwr,reduceIte])
   all_goals rfl
 refine dT hs ?_
 exact⟨rfl,(aH p bm)⟩
 have Z:=jJ (dir:=dir) (aW.old hM p) hf (eI hf dir).2.2.1
 rw[hwr] at Z
 refine L0<|fV #[] #[] (args:=#[.int .i64 dir,.agg (mG M.code M.fail M.addr M.count M.value M.and_ M.or_ M.addr2 M.sub M.status M.events M.messages (.slice Aw M.words.length kw) (.slice Ab M.bits.length kb) (.slice Ad M.data.length kd) (.slice Ar M.recs.length kr) M.mei M.kind M.level M.more M.next (.slice Ao M.objects.length ko))])<|ep Z fun cV cW cZ bn d0 d1 a0=>Pl 5<|nt<|sq<|sg<|Pl 7<|nt<|?_
 have y:=aH p a0
 refine cb ((decide (253≤((lw.length:Nat) : Int)))) (fun j=>?_) (fun j=>?_)
 have bp:=of_decide_eq_true j
 refine sg<|Pl 2<|nt<|rt<|tr<|rr (.tuple #[.slice none 0 0,.int .i64 1])<|?_
 have hs:dj dir M=none:=by
   unfold dj
   (try simp only[a,j,bs,if_true,if_false,decide_true,decide_false,hkf,gw,hwr,reduceIte])
   all_goals rfl
 refine dT hs ?_
 exact⟨rfl,y⟩
 have bp:=of_decide_eq_false j
 refine bo<|sg<|Pl 1<|?_
 refine L0<|aR (ub a0 X) 0<|L0<|dx (m:=1) (e:=5) #[.int .u8 M.code] fun d2 d3 bq br z=>?_
 have a1:=dF bq (xs:=[M.code]) (by as_aux_lemma=>kernel_rfl) (az (by omega) aX) (by(try simp only[List.length_cons,List.length_nil]);omega) br
 refine Pl 1<|?_
 refine L0<|cK bt (xs:=([M.code])) (ys:=lw) (.int .u8 0) 1 a1 ((ax bn z (fun x hx=>ay) (fun _ _ h=>h))).rd (by(try simp only[List.length_append,List.length_cons,List.length_nil,aB]);omega) z.size fun bu bv d4 bw bx=>Pl 2<|nt<|rt<|rr (.tuple #[.slice bu (([M.code]++lw).length) bv,.int .i64 0])<|?_
 have hs:dj dir M=(some ([M.code]++lw)):=by
   unfold dj
   (try simp only[a,j,bs,if_true,if_false,decide_true,decide_false,hkf,gw,hwr,reduceIte])
   all_goals rfl
 refine dT hs ?_
 exact⟨_,rfl,(be.weaken bw y.size),(aH y (ut z bx (av (aT a1 lr) aq)))⟩
 have a2:=eV (x:=M.code) (w:=f)
 rw[hkf] at a2
 refine L0<|Oc<|m1 a2 fun d5 bz=>Pl 3<|L0<|bI #[.nilFunc,.nilFunc] fun d6 d7 bA bB bC=>L0<|b6 bB #[.func (.func 144) #[] #[],.func (.func 145) #[] #[]] fun d8 bD bE=>Pl 1<|nt<|sq<|sg<|Pl 2<|nt<|c0<|?_
 refine bo<|sg<|Pl 1<|L0<|aR bD 1<|Pl 1<|?_
 have a3:=aH bz (ud bC bE bA)
 have a4:=ub a3 d
 refine L0<|cl a4<|?_
 have q:=aH b a3
 rcases hwr:cS fe cX dir M with _|lw
 have a5:=iJ (dir:=dir) (aW.old hM q) hf (eI hf dir).2.2.2.2
 rw[hwr] at a5
 refine L0<|fV #[] #[] (args:=#[.int .i64 dir,.agg (mG M.code M.fail M.addr M.count M.value M.and_ M.or_ M.addr2 M.sub M.status M.events M.messages (.slice Aw M.words.length kw) (.slice Ab M.bits.length kb) (.slice Ad M.data.length kd) (.slice Ar M.recs.length kr) M.mei M.kind M.level M.more M.next (.slice Ao M.objects.length ko))])<|m1 a5 fun d9 bF=>Pl 5<|nt<|sq<|sg<|Pl 7<|nt<|c1<|sg<|Pl 2<|nl<|?_
 refine tn<|rt<|tr<|rr (.tuple #[.slice none 0 0,.int .i64 1])<|?_
 have hs:dj dir M=none:=by
   unfold dj
   (try simp only[a,bs,if_true,if_false,decide_true,decide_false,hkf,gw,hwr,reduceIte])
   all_goals rfl
 refine dT hs ?_
 exact⟨rfl,(aH q bF)⟩
 have a6:=iJ (dir:=dir) (aW.old hM q) hf (eI hf dir).2.2.2.2
 rw[hwr] at a6
 refine L0<|fV #[] #[] (args:=#[.int .i64 dir,.agg (mG M.code M.fail M.addr M.count M.value M.and_ M.or_ M.addr2 M.sub M.status M.events M.messages (.slice Aw M.words.length kw) (.slice Ab M.bits.length kb) (.slice Ad M.data.length kd) (.slice Ar M.recs.length kr) M.mei M.kind M.level M.more M.next (.slice Ao M.objects.length ko))])<|ep a6 fun da db dc bG dd de a7=>Pl 5<|nt<|sq<|sg<|Pl 7<|nt<|?_
 have A:=aH q a7
 refine cb ((decide (253≤((lw.length:Nat) : Int)))) (fun k=>?_) (fun k=>?_)
 have bH:=of_decide_eq_true k
 refine sg<|Pl 2<|nt<|rt<|tr<|rr (.tuple #[.slice none 0 0,.int .i64 1])<|?_
 have hs:dj dir M=none:=by
   unfold dj
   (try simp only[a,k,bs,if_true,if_false,decide_true,decide_false,hkf,gw,hwr,reduceIte])
   all_goals rfl
 refine dT hs ?_
 exact⟨rfl,A⟩
 have bH:=of_decide_eq_false k
 refine bo<|sg<|Pl 1<|?_
 refine L0<|aR (ub a7 a4) 0<|L0<|dx (m:=1) (e:=5) #[.int .u8 M.code] fun df dg bJ bK B=>?_
 have a8:=dF bJ (xs:=[M.code]) (by as_aux_lemma=>kernel_rfl) (az (by omega) aX) (by(try simp only[List.length_cons,List.length_nil]);omega) bK
 refine Pl 1<|?_
 refine L0<|cK bt (xs:=([M.code])) (ys:=lw) (.int .u8 0) 1 a8 ((ax bG B (fun x hx=>ay) (fun _ _ h=>h))).rd (by(try simp only[List.length_append,List.length_cons,List.length_nil,aB]);omega) B.size fun bM bN dh bO bR=>Pl 2<|nt<|rt<|rr (.tuple #[.slice bM (([M.code]++lw).length) bN,.int .i64 0])<|?_
 have hs:dj dir M=(some ([M.code]++lw)):=by
   unfold dj
   (try simp only[a,k,bs,if_true,if_false,decide_true,decide_false,hkf,gw,hwr,reduceIte])
   all_goals rfl
 refine dT hs ?_
 exact⟨_,rfl,(be.weaken bO A.size),(aH A (ut B bR (av (aT a8 lr) aq)))⟩
 have a9:=eV (x:=M.code) (w:=f)
 rw[hkf] at a9
 refine L0<|Oc<|m1 a9 fun di bS=>Pl 3<|L0<|bI #[.nilFunc,.nilFunc] fun dk dl bT bU bV=>L0<|b6 bU #[.func (.func 146) #[] #[],.func (.func 147) #[] #[]] fun dn bX bY=>Pl 1<|nt<|sq<|sg<|Pl 2<|nt<|c0<|?_
 refine bo<|sg<|Pl 1<|L0<|aR bX 1<|Pl 1<|?_
 have aa:=aH bS (ud bV bY bT)
 have ab:=ub aa d
 refine L0<|cl ab<|?_
 have r:=aH b aa
 rcases hwr:cS gl dp dir M with _|lw
 have ac:=ln (dir:=dir) (aW.old hM r) hf (eI hf dir).2.2.2.1
 rw[hwr] at ac
 refine L0<|fV #[] #[] (args:=#[.int .i64 dir,.agg (mG M.code M.fail M.addr M.count M.value M.and_ M.or_ M.addr2 M.sub M.status M.events M.messages (.slice Aw M.words.length kw) (.slice Ab M.bits.length kb) (.slice Ad M.data.length kd) (.slice Ar M.recs.length kr) M.mei M.kind M.level M.more M.next (.slice Ao M.objects.length ko))])<|m1 ac fun dq bZ=>Pl 5<|nt<|sq<|sg<|Pl 7<|nt<|c1<|sg<|Pl 2<|nl<|?_
 refine tn<|rt<|tr<|rr (.tuple #[.slice none 0 0,.int .i64 1])<|?_
 have hs:dj dir M=none:=by
   unfold dj
   (try simp only[a,bs,if_true,if_false,decide_true,decide_false,hkf,gw,hwr,reduceIte])
   all_goals rfl
 refine dT hs ?_
 exact⟨rfl,(aH r bZ)⟩
 have ad:=ln (dir:=dir) (aW.old hM r) hf (eI hf dir).2.2.2.1
 rw[hwr] at ad
 refine L0<|fV #[] #[] (args:=#[.int .i64 dir,.agg (mG M.code M.fail M.addr M.count M.value M.and_ M.or_ M.addr2 M.sub M.status M.events M.messages (.slice Aw M.words.length kw) (.slice Ab M.bits.length kb) (.slice Ad M.data.length kd) (.slice Ar M.recs.length kr) M.mei M.kind M.level M.more M.next (.slice Ao M.objects.length ko))])<|ep ad fun dr ds dt c2 du dv ae=>Pl 5<|nt<|sq<|sg<|Pl 7<|nt<|?_
 have C:=aH r ae
 refine cb ((decide (253≤((lw.length:Nat) : Int)))) (fun l=>?_) (fun l=>?_)
 have c3:=of_decide_eq_true l
 refine sg<|Pl 2<|nt<|rt<|tr<|rr (.tuple #[.slice none 0 0,.int .i64 1])<|?_
 have hs:dj dir M=none:=by
   unfold dj
   (try simp only[a,l,bs,if_true,if_false,decide_true,decide_false,hkf,gw,hwr,reduceIte])
   all_goals rfl
 refine dT hs ?_
 exact⟨rfl,C⟩
 have c3:=of_decide_eq_false l
 refine bo<|sg<|Pl 1<|?_
 refine L0<|aR (ub ae ab) 0<|L0<|dx (m:=1) (e:=5) #[.int .u8 M.code] fun dw dy c4 c5 D=>?_
 have af:=dF c4 (xs:=[M.code]) (by as_aux_lemma=>kernel_rfl) (az (by omega) aX) (by(try simp only[List.length_cons,List.length_nil]);omega) c5
 refine Pl 1<|?_
 refine L0<|cK bt (xs:=([M.code])) (ys:=lw) (.int .u8 0) 1 af ((ax c2 D (fun x hx=>ay) (fun _ _ h=>h))).rd (by(try simp only[List.length_append,List.length_cons,List.length_nil,aB]);omega) D.size fun c6 c7 dA c8 c9=>Pl 2<|nt<|rt<|rr (.tuple #[.slice c6 (([M.code]++lw).length) c7,.int .i64 0])<|?_
 have hs:dj dir M=(some ([M.code]++lw)):=by
   unfold dj
   (try simp only[a,l,bs,if_true,if_false,decide_true,decide_false,hkf,gw,hwr,reduceIte])
   all_goals rfl
 refine dT hs ?_
 exact⟨_,rfl,(be.weaken c8 C.size),(aH C (ut D c9 (av (aT af lr) aq)))⟩
 have ag:=eV (x:=M.code) (w:=f)
 rw[hkf] at ag
 refine L0<|Oc<|m1 ag fun dB ca=>Pl 3<|L0<|bI #[.nilFunc,.nilFunc] fun dC dD cc cd ce=>L0<|b6 cd #[.nilFunc,.nilFunc] fun dE dG cf=>Pl 1<|nt<|sq<|sg<|Pl 2<|nt<|c1<|?_
 refine sg<|Pl 2<|nt<|rt<|tr<|rr (.tuple #[.slice none 0 0,.int .i64 1])<|?_
 have hs:dj dir M=none:=by
   unfold dj
   (try simp only[a,bs,if_true,if_false,decide_true,decide_false,hkf,gw,reduceIte])
   all_goals rfl
 refine dT hs ?_
 exact⟨rfl,(aH b (aH ca (ud ce cf cc)))⟩
open Go.RowKit
theorem gM{x y:aP × Int}(h:x=y){w:World}{e:Ending}{w':World}(k:dD y w e w') : dD x w e w':=by rw[h];exact k
def iW:Nat→Int→List Int→aP × Int
  | 1,dir,b=>ae aE dir (b.getD 0 0) (b.drop 1)
  | 2,dir,b=>ae aI dir (b.getD 0 0) (b.drop 1)
  | 3,dir,b=>ae aM dir (b.getD 0 0) (b.drop 1)
  | 4,dir,b=>ae aZ dir (b.getD 0 0) (b.drop 1)
  | 5,dir,b=>ae bE dir (b.getD 0 0) (b.drop 1)
  | _,_,_=>(aP.zero,4)
def dM (dir:Int)(b:List Int) : aP × Int :=
  if dir != 0&&dir != 1 then (aP.zero,1)
  else if (b.length:Int)==0 then (aP.zero,2)
  else if decide (253<(b.length:Int)) then (aP.zero,3)
  else if decide (128≤b.getD 0 0)&&dir==1 then eR b
  else iW (jR (b.getD 0 0)) dir b
theorem oa{m:Md}{A:Option Addr}{cp:Nat}{b:List Int}{w:World}{dir:Int}(hsl:b9 m w (.slice A b.length cp) b)(hb:b.length≤1048576) :
    Calls Tryz.prog 24 #[.int .i64 dir,.slice A b.length cp] w (dD (dM dir b) w):=by
 have hln:(b.length:Int)≤1048576:=by omega
 refine en 60 Tryz.func24 rfl<|sg<|L0<|bI mZ fun dj t h a f=>Pl 1<|nt<|sq<|bk<|sg<|Pl 3<|cu 3 [11] 14 (((dir != 0)&&(dir != 1))) (fun K a2=>?_) ?_
 refine bl 11 ((dir != 0)) (fun u=>?_) (fun u=>?_)
 have bZ:=au u
 exact Pl 3<|ce a2 (dir != 1) (by rw[u];rfl)
 have bZ:=ai u
 exact Pl 3<|ce a2 false (by rw[u];rfl)
 refine Pl 1<|nt<|cb (((dir != 0)&&(dir != 1))) (fun d=>?_) (fun d=>?_)
 have a3:=(aS d).1
 have a4:=(aS d).2
 have dk:=au a3
 have dl:=au a4
 refine sg<|Pl 1<|L0<|b6 a mZ fun dm c2 c3=>Pl 1<|nt<|rt<|br<|tr<|bF c2 (.int .i64 1)<|?_
 have hs:dM dir b=(aP.zero,1):=by
   unfold dM
   (try simp only[d,a3,a4,bs,if_true,if_false,decide_true,decide_false,iW,reduceIte])
   all_goals rfl
 refine gM hs ?_
 exact cD (ud f c3 h)
 refine sg<|Pl 4<|nt<|cb ((((b.length:Nat) : Int)==0)) (fun e=>?_) (fun e=>?_)
 have c4:=al e
 refine sg<|Pl 1<|L0<|b6 a mZ fun dn c5 c6=>Pl 1<|nt<|rt<|br<|tr<|bF c5 (.int .i64 2)<|?_
 have hs:dM dir b=(aP.zero,2):=by
   unfold dM
   (try simp only[d,e,bs,if_true,if_false,decide_true,decide_false,iW,reduceIte])
   all_goals rfl
 refine gM hs ?_
 exact cD (ud f c6 h)
 have c4:=ap e
 refine sg<|Pl 4<|nt<|cb ((decide (253<((b.length:Nat) : Int)))) (fun g=>?_) (fun g=>?_)
 have c7:=of_decide_eq_true g
 refine sg<|Pl 1<|L0<|b6 a mZ fun dp c8 c9=>Pl 1<|nt<|rt<|br<|tr<|bF c8 (.int .i64 3)<|?_
 have hs:dM dir b=(aP.zero,3):=by
   unfold dM
   (try simp only[d,e,g,bs,if_true,if_false,decide_true,decide_false,iW,reduceIte])
   all_goals rfl
 refine gM hs ?_
 exact cD (ud f c9 h)
 have c7:=of_decide_eq_false g
 refine sg<|Pl 1<|?_
 have s:=b9.old hsl f
 refine fy (b9.at_ s 0 (by omega)) fun a5 a6 a7 a8 dq=>L0<|jb b.length 0 a7 (by omega)<|L0<|dU (p:=⟨a5,a6+0,none⟩) (v:=.int .u8 (b.getD 0 0)) a8<|Pl 2<|cu 3 [31] 34 (((decide (128≤(b.getD 0 0)))&&(dir==1))) (fun K a9=>?_) ?_
 refine bl 31 ((decide (128≤(b.getD 0 0)))) (fun y=>?_) (fun y=>?_)
 have ca:=of_decide_eq_true y
 exact Pl 3<|ce a9 (dir==1) (by rw[y];rfl)
 have ca:=of_decide_eq_false y
 exact Pl 3<|ce a9 false (by rw[y];rfl)
 refine Pl 1<|nt<|cb (((decide (128≤(b.getD 0 0)))&&(dir==1))) (fun i=>?_) (fun i=>?_)
 have aa:=(aS i).1
 have ab:=(aS i).2
 have dr:=of_decide_eq_true aa
 have ds:=al ab
 refine sg<|Pl 1<|L0<|Oc<|e2 (qi s (by omega)) fun cc dt z ac=>Pl 2<|?_
 have ad:=ub ac a
 refine L0<|b6 (hz:=(by rw[z.size];exact aO)) (hv:=z.size) (h1:=z.one) ad (cc) fun du cd af=>Pl 1<|nt<|rt<|br<|tr<|el 22 z.size cd (.int .i64 (((eR b)).2))<|?_
 have hs:dM dir b=(eR b):=by
   unfold dM
   (try simp only[d,e,g,i,aa,ab,bs,if_true,if_false,decide_true,decide_false,iW,reduceIte])
   all_goals rfl
 refine gM hs ?_
 exact⟨_,rfl,(aW.upd z af (am (aQ ad (by decide)) aG)),(ud f (uz ac af) h)⟩
 refine sk<|bn<|tn<|sg<|Pl 1<|L0<|jb b.length 0 a7 (by omega)<|L0<|dU (p:=⟨a5,a6+0,none⟩) (v:=.int .u8 (b.getD 0 0)) a8<|?_
 rcases gA (b.getD 0 0) with⟨hk,hkf⟩|⟨hk,hkf⟩|⟨hk,hkf⟩|⟨hk,hkf⟩|⟨hk,hkf⟩|⟨hk,hkf⟩
 have ah:=eV (x:=(b.getD 0 0)) (w:=t)
 rw[hkf] at ah
 refine L0<|Oc<|m1 ah fun dv aj=>Pl 3<|L0<|bI #[.nilFunc,.nilFunc] fun cf dw an cg ch=>L0<|b6 cg #[.func (.func 138) #[] #[],.func (.func 139) #[] #[]] fun dx ci cj=>Pl 1<|nt<|sq<|sg<|Pl 2<|nt<|c0<|?_
 refine bo<|sq<|?_
 have ao:=aH aj (ud ch cj an)
 have aq:=b9.old s ao
 refine fy (b9.at_ aq 0 (by omega)) fun ck cl ar av dy=>Rg 13 (fun w'=>w'.cell? ⟨cf,0,none⟩=some (.func (.func 138) #[] #[])∧w'.cell? ⟨ck,cl+0,none⟩=some (.int .u8 (b.getD 0 0))) fun dz M=>?_
 have aw:=ub M ci
 refine bh ⟨(ag aw rfl),(uc M av)⟩ fun j=>Rt 0 j<|Rl 1 j (fun _ hs=>hs.1)<|Rt 2 j<|Rt 3 j<|nU 4 j b.length 0 0 rfl ar (by omega)<|Rl 5 j (fun _ hs=>hs.2)<|Rt 6 j<|mM (dL (P:=Tryz.prog) 22 5 1 Tryz.underlying22 rfl rfl A b.length cp 1 (by omega)) fun ax hrun108 cm=>Rr 7 j (.slice ax (b.length-1) (cp-1)) (fun _ _=>dW (kl:=.i64) (k:=((1:Nat) : Int)) (A:=A) (n:=b.length) (c:=cp) rfl Tryz.underlying22 (by kernel_rfl) (by kernel_rfl) (hrun108 _ _))<|?_
 refine R0 8 rfl<|fV #[] #[] (args:=#[.int .i64 dir,.int .u8 (b.getD 0 0),.slice ax (b.length-1) (cp-1)])<|e2 (iT (dir:=dir) (c:=(b.getD 0 0)) (b8 (by omega)) (cm _ _ _ _ _ (b9.old aq M)) (by(try simp only[List.length_drop]);omega)) fun cn dA B S=>?_
 have ay:=ub S aw
 have T:=aH M S
 refine bh ⟨(ag ay rfl),(uc T av)⟩ fun az=>Rt 9 az<|Rt 10 az<|?_
 have aA:=aH ao T
 have aB:=ub aA a
 refine R0 11 rfl<|b6 (hz:=(by rw[B.size];exact aO)) (hv:=B.size) (h1:=B.one) aB (cn) fun dB co C=>?_
 have dC:=uz T C
 have dE:=uz S C
 have aC:=ud f (uz aA C) h
 refine bh ⟨(ag (aU C (Ne.symm (nb (ak a) aj.size an)) ay) rfl),(cB (b9.old hsl aC) ar 0 (by omega))⟩ fun cq=>Rt 12 cq<|re<|tn<|rt<|el 22 B.size co (.int .i64 (((ae aE dir (b.getD 0 0) (b.drop 1))).2))<|?_
 have hs:dM dir b=(ae aE dir (b.getD 0 0) (b.drop 1)):=by
   unfold dM
   (try simp only[d,e,g,i,bs,if_true,if_false,decide_true,decide_false,hkf,iW,reduceIte])
   all_goals rfl
 refine gM hs ?_
 exact⟨_,rfl,(aW.upd B C (am (aQ aB (by decide)) aG)),aC⟩
 have aD:=eV (x:=(b.getD 0 0)) (w:=t)
 rw[hkf] at aD
 refine L0<|Oc<|m1 aD fun dF aF=>Pl 3<|L0<|bI #[.nilFunc,.nilFunc] fun cr dG aJ cs ct=>L0<|b6 cs #[.func (.func 140) #[] #[],.func (.func 141) #[] #[]] fun dH cv cw=>Pl 1<|nt<|sq<|sg<|Pl 2<|nt<|c0<|?_
 refine bo<|sq<|?_
 have aK:=aH aF (ud ct cw aJ)
 have aL:=b9.old s aK
 refine fy (b9.at_ aL 0 (by omega)) fun cx cy aN aR dI=>Rg 13 (fun w'=>w'.cell? ⟨cr,0,none⟩=some (.func (.func 140) #[] #[])∧w'.cell? ⟨cx,cy+0,none⟩=some (.int .u8 (b.getD 0 0))) fun dJ N=>?_
 have aT:=ub N cv
 refine bh ⟨(ag aT rfl),(uc N aR)⟩ fun l=>Rt 0 l<|Rl 1 l (fun _ hs=>hs.1)<|Rt 2 l<|Rt 3 l<|nU 4 l b.length 0 0 rfl aN (by omega)<|Rl 5 l (fun _ hs=>hs.2)<|Rt 6 l<|mM (dL (P:=Tryz.prog) 22 5 1 Tryz.underlying22 rfl rfl A b.length cp 1 (by omega)) fun aV hrun188 cz=>Rr 7 l (.slice aV (b.length-1) (cp-1)) (fun _ _=>dW (kl:=.i64) (k:=((1:Nat) : Int)) (A:=A) (n:=b.length) (c:=cp) rfl Tryz.underlying22 (by kernel_rfl) (by kernel_rfl) (hrun188 _ _))<|?_
 refine R0 8 rfl<|fV #[] #[] (args:=#[.int .i64 dir,.int .u8 (b.getD 0 0),.slice aV (b.length-1) (cp-1)])<|e2 (jH (dir:=dir) (c:=(b.getD 0 0)) (b8 (by omega)) (cz _ _ _ _ _ (b9.old aL N)) (by(try simp only[List.length_drop]);omega)) fun cA dK D U=>?_
 have aX:=ub U aT
 have V:=aH N U
 refine bh ⟨(ag aX rfl),(uc V aR)⟩ fun aY=>Rt 9 aY<|Rt 10 aY<|?_
 have b0:=aH aK V
 have b1:=ub b0 a
 refine R0 11 rfl<|b6 (hz:=(by rw[D.size];exact aO)) (hv:=D.size) (h1:=D.one) b1 (cA) fun dN cC E=>?_
 have dO:=uz V E
 have dP:=uz U E
 have b2:=ud f (uz b0 E) h
 refine bh ⟨(ag (aU E (Ne.symm (nb (ak a) aF.size aJ)) aX) rfl),(cB (b9.old hsl b2) aN 0 (by omega))⟩ fun cE=>Rt 12 cE<|re<|tn<|rt<|el 22 D.size cC (.int .i64 (((ae aI dir (b.getD 0 0) (b.drop 1))).2))<|?_
 have hs:dM dir b=(ae aI dir (b.getD 0 0) (b.drop 1)):=by
   unfold dM
   (try simp only[d,e,g,i,bs,if_true,if_false,decide_true,decide_false,hkf,iW,reduceIte])
   all_goals rfl
 refine gM hs ?_
 exact⟨_,rfl,(aW.upd D E (am (aQ b1 (by decide)) aG)),b2⟩
 have b3:=eV (x:=(b.getD 0 0)) (w:=t)
 rw[hkf] at b3
 refine L0<|Oc<|m1 b3 fun dQ b4=>Pl 3<|L0<|bI #[.nilFunc,.nilFunc] fun cF dR b5 cG cH=>L0<|b6 cG #[.func (.func 142) #[] #[],.func (.func 143) #[] #[]] fun dS cI cJ=>Pl 1<|nt<|sq<|sg<|Pl 2<|nt<|c0<|?_
 refine bo<|sq<|?_
 have b7:=aH b4 (ud cH cJ b5)
 have ba:=b9.old s b7
 refine fy (b9.at_ ba 0 (by omega)) fun cK cL bb bc dT=>Rg 13 (fun w'=>w'.cell? ⟨cF,0,none⟩=some (.func (.func 142) #[] #[])∧w'.cell? ⟨cK,cL+0,none⟩=some (.int .u8 (b.getD 0 0))) fun dV O=>?_
 have bd:=ub O cI
 refine bh ⟨(ag bd rfl),(uc O bc)⟩ fun o=>Rt 0 o<|Rl 1 o (fun _ hs=>hs.1)<|Rt 2 o<|Rt 3 o<|nU 4 o b.length 0 0 rfl bb (by omega)<|Rl 5 o (fun _ hs=>hs.2)<|Rt 6 o<|mM (dL (P:=Tryz.prog) 22 5 1 Tryz.underlying22 rfl rfl A b.length cp 1 (by omega)) fun be hrun268 cM=>Rr 7 o (.slice be (b.length-1) (cp-1)) (fun _ _=>dW (kl:=.i64) (k:=((1:Nat) : Int)) (A:=A) (n:=b.length) (c:=cp) rfl Tryz.underlying22 (by kernel_rfl) (by kernel_rfl) (hrun268 _ _))<|?_
 refine R0 8 rfl<|fV #[] #[] (args:=#[.int .i64 dir,.int .u8 (b.getD 0 0),.slice be (b.length-1) (cp-1)])<|e2 (jU (dir:=dir) (c:=(b.getD 0 0)) (b8 (by omega)) (cM _ _ _ _ _ (b9.old ba O)) (by(try simp only[List.length_drop]);omega)) fun cN dX F W=>?_
 have bf:=ub W bd
 have X:=aH O W
 refine bh ⟨(ag bf rfl),(uc X bc)⟩ fun bg=>Rt 9 bg<|Rt 10 bg<|?_
 have bi:=aH b7 X
 have bj:=ub bi a
 refine R0 11 rfl<|b6 (hz:=(by rw[F.size];exact aO)) (hv:=F.size) (h1:=F.one) bj (cN) fun dY cO G=>?_
 have dZ:=uz X G
 have e0:=uz W G
 have bm:=ud f (uz bi G) h
 refine bh ⟨(ag (aU G (Ne.symm (nb (ak a) b4.size b5)) bf) rfl),(cB (b9.old hsl bm) bb 0 (by omega))⟩ fun cP=>Rt 12 cP<|re<|tn<|rt<|el 22 F.size cO (.int .i64 (((ae aM dir (b.getD 0 0) (b.drop 1))).2))<|?_
 have hs:dM dir b=(ae aM dir (b.getD 0 0) (b.drop 1)):=by
   unfold dM
   (try simp only[d,e,g,i,bs,if_true,if_false,decide_true,decide_false,hkf,iW,reduceIte])
   all_goals rfl
 refine gM hs ?_
 exact⟨_,rfl,(aW.upd F G (am (aQ bj (by decide)) aG)),bm⟩
 have bp:=eV (x:=(b.getD 0 0)) (w:=t)
 rw[hkf] at bp
 refine L0<|Oc<|m1 bp fun e1 bq=>Pl 3<|L0<|bI #[.nilFunc,.nilFunc] fun cQ e3 bt cR cS=>L0<|b6 cR #[.func (.func 144) #[] #[],.func (.func 145) #[] #[]] fun e4 cT cU=>Pl 1<|nt<|sq<|sg<|Pl 2<|nt<|c0<|?_
 refine bo<|sq<|?_
 have bu:=aH bq (ud cS cU bt)
 have bv:=b9.old s bu
 refine fy (b9.at_ bv 0 (by omega)) fun cV cW bw bx e5=>Rg 13 (fun w'=>w'.cell? ⟨cQ,0,none⟩=some (.func (.func 144) #[] #[])∧w'.cell? ⟨cV,cW+0,none⟩=some (.int .u8 (b.getD 0 0))) fun e6 Q=>?_
 have bz:=ub Q cT
 refine bh ⟨(ag bz rfl),(uc Q bx)⟩ fun q=>Rt 0 q<|Rl 1 q (fun _ hs=>hs.1)<|Rt 2 q<|Rt 3 q<|nU 4 q b.length 0 0 rfl bw (by omega)<|Rl 5 q (fun _ hs=>hs.2)<|Rt 6 q<|mM (dL (P:=Tryz.prog) 22 5 1 Tryz.underlying22 rfl rfl A b.length cp 1 (by omega)) fun bA hrun348 cX=>Rr 7 q (.slice bA (b.length-1) (cp-1)) (fun _ _=>dW (kl:=.i64) (k:=((1:Nat) : Int)) (A:=A) (n:=b.length) (c:=cp) rfl Tryz.underlying22 (by kernel_rfl) (by kernel_rfl) (hrun348 _ _))<|?_
 refine R0 8 rfl<|fV #[] #[] (args:=#[.int .i64 dir,.int .u8 (b.getD 0 0),.slice bA (b.length-1) (cp-1)])<|e2 (iM (dir:=dir) (c:=(b.getD 0 0)) (b8 (by omega)) (cX _ _ _ _ _ (b9.old bv Q)) (by(try simp only[List.length_drop]);omega)) fun cY e7 H Y=>?_
 have bB:=ub Y bz
 have Z:=aH Q Y
 refine bh ⟨(ag bB rfl),(uc Z bx)⟩ fun bC=>Rt 9 bC<|Rt 10 bC<|?_
 have bD:=aH bu Z
 have bG:=ub bD a
 refine R0 11 rfl<|b6 (hz:=(by rw[H.size];exact aO)) (hv:=H.size) (h1:=H.one) bG (cY) fun e8 cZ I=>?_
 have e9:=uz Z I
 have ea:=uz Y I
 have bH:=ud f (uz bD I) h
 refine bh ⟨(ag (aU I (Ne.symm (nb (ak a) bq.size bt)) bB) rfl),(cB (b9.old hsl bH) bw 0 (by omega))⟩ fun d0=>Rt 12 d0<|re<|tn<|rt<|el 22 H.size cZ (.int .i64 (((ae aZ dir (b.getD 0 0) (b.drop 1))).2))<|?_
 have hs:dM dir b=(ae aZ dir (b.getD 0 0) (b.drop 1)):=by
   unfold dM
   (try simp only[d,e,g,i,bs,if_true,if_false,decide_true,decide_false,hkf,iW,reduceIte])
   all_goals rfl
 refine gM hs ?_
 exact⟨_,rfl,(aW.upd H I (am (aQ bG (by decide)) aG)),bH⟩
 have bJ:=eV (x:=(b.getD 0 0)) (w:=t)
 rw[hkf] at bJ
 refine L0<|Oc<|m1 bJ fun eb bK=>Pl 3<|L0<|bI #[.nilFunc,.nilFunc] fun d1 ec bL d2 d3=>L0<|b6 d2 #[.func (.func 146) #[] #[],.func (.func 147) #[] #[]] fun ed d4 d5=>Pl 1<|nt<|sq<|sg<|Pl 2<|nt<|c0<|?_
 refine bo<|sq<|?_
 have bM:=aH bK (ud d3 d5 bL)
 have bN:=b9.old s bM
 refine fy (b9.at_ bN 0 (by omega)) fun d6 d7 bO bP ee=>Rg 13 (fun w'=>w'.cell? ⟨d1,0,none⟩=some (.func (.func 146) #[] #[])∧w'.cell? ⟨d6,d7+0,none⟩=some (.int .u8 (b.getD 0 0))) fun ef R=>?_
 have bQ:=ub R d4
 refine bh ⟨(ag bQ rfl),(uc R bP)⟩ fun r=>Rt 0 r<|Rl 1 r (fun _ hs=>hs.1)<|Rt 2 r<|Rt 3 r<|nU 4 r b.length 0 0 rfl bO (by omega)<|Rl 5 r (fun _ hs=>hs.2)<|Rt 6 r<|mM (dL (P:=Tryz.prog) 22 5 1 Tryz.underlying22 rfl rfl A b.length cp 1 (by omega)) fun bR hrun428 d8=>Rr 7 r (.slice bR (b.length-1) (cp-1)) (fun _ _=>dW (kl:=.i64) (k:=((1:Nat) : Int)) (A:=A) (n:=b.length) (c:=cp) rfl Tryz.underlying22 (by kernel_rfl) (by kernel_rfl) (hrun428 _ _))<|?_
 refine R0 8 rfl<|fV #[] #[] (args:=#[.int .i64 dir,.int .u8 (b.getD 0 0),.slice bR (b.length-1) (cp-1)])<|e2 (lB (dir:=dir) (c:=(b.getD 0 0)) (b8 (by omega)) (d8 _ _ _ _ _ (b9.old bN R)) (by(try simp only[List.length_drop]);omega)) fun d9 eg J a0=>?_
 have bS:=ub a0 bQ
 have a1:=aH R a0
 refine bh ⟨(ag bS rfl),(uc a1 bP)⟩ fun bT=>Rt 9 bT<|Rt 10 bT<|?_
 have bU:=aH bM a1
 have bV:=ub bU a
 refine R0 11 rfl<|b6 (hz:=(by rw[J.size];exact aO)) (hv:=J.size) (h1:=J.one) bV (d9) fun eh da L=>?_
 have ei:=uz a1 L
 have ej:=uz a0 L
 have bW:=ud f (uz bU L) h
 refine bh ⟨(ag (aU L (Ne.symm (nb (ak a) bK.size bL)) bS) rfl),(cB (b9.old hsl bW) bO 0 (by omega))⟩ fun db=>Rt 12 db<|re<|tn<|rt<|el 22 J.size da (.int .i64 (((ae bE dir (b.getD 0 0) (b.drop 1))).2))<|?_
 have hs:dM dir b=(ae bE dir (b.getD 0 0) (b.drop 1)):=by
   unfold dM
   (try simp only[d,e,g,i,bs,if_true,if_false,decide_true,decide_false,hkf,iW,reduceIte])
   all_goals rfl
 refine gM hs ?_
 exact⟨_,rfl,(aW.upd J L (am (aQ bV (by decide)) aG)),bW⟩
 have bX:=eV (x:=(b.getD 0 0)) (w:=t)
 rw[hkf] at bX
 refine L0<|Oc<|m1 bX fun ek dc=>Pl 3<|L0<|bI #[.nilFunc,.nilFunc] fun em eo dd de df=>L0<|b6 de #[.nilFunc,.nilFunc] fun ep eq dg=>Pl 1<|nt<|sq<|sg<|Pl 2<|nt<|c1<|?_
 refine sg<|Pl 1<|?_
 have bY:=aH dc (ud df dg dd)
 refine L0<|b6 (ub bY a) mZ fun er dh di=>Pl 1<|nt<|rt<|tr<|bF dh (.int .i64 4)<|?_
 have hs:dM dir b=(aP.zero,4):=by
   unfold dM
   (try simp only[d,e,g,i,bs,if_true,if_false,decide_true,decide_false,hkf,iW,reduceIte])
   all_goals rfl
 refine gM hs ?_
 exact cD (ud f (uz bY di) h)
theorem qj{m:Md}{v:Value}{b:List Int}{w:World}{dir:Int}(h:b9 m w v b)(hb:b.length≤1048576) : Calls Tryz.prog 24 #[.int .i64 dir,v] w (dD (dM dir b) w):=by
  obtain⟨A,cp,rfl,_,_⟩:=h.shape
  exact oa h hb
end Go.Proofs.YtogbnemojakcpaaGreat
namespace Go.Proofs.YtogbnemojakcpaaGreat
def N1 (C:ah) : Prop:=C.e≠1
theorem N1.need{C:ah}{b:Bool}{x:Int}(hx:x≠1)(h:N1 C) : N1 (C.need b x):=by
  unfold N1 ah.need at *
  split
  · exact hx
  · exact h
theorem N1.bytesC{C:ah}{n:Int}(h:N1 C) : N1 (C.bytesC n):=by
  unfold ah.bytesC
  split
  · exact N1.need (by decide) h
  · exact h
theorem N1.wordsC{C:ah}{n:Int}(h:N1 C) : N1 (C.wordsC n):=by
  unfold ah.wordsC
  split<;>exact N1.bytesC h
theorem N1.recs{one:Int→ah→Int × ah × dl}(ho:∀ s C,N1 C→N1 (one s C).2.1) : ∀ (n:Nat)(s:Int)(C:ah)(L:List dl),N1 C→N1 (aN one n s C L).1
  | 0,_,_,_,h=>h
  | n+1,s,C,L,h=>by
    unfold aN
    split
    · split
      · exact ho s C h
      · exact N1.recs ho n _ _ _ (ho s C h)
    · exact h
theorem N1.endC{C:ah}(h:N1 C) : N1 C.endC:=by
  unfold ah.endC
  exact N1.need (by decide) h
end Go.Proofs.YtogbnemojakcpaaGreat
namespace Go.Proofs.YtogbnemojakcpaaGreat
end Go.Proofs.YtogbnemojakcpaaGreat
namespace Go.Proofs.YtogbnemojakcpaaGreat
open Go.RowKit
theorem qh{w w':World}(h:aD [] w w') : Below w.heap.size w w':=⟨h.os,h.tape,h.output,h.size,fun k hk=>h.block k hk (by simp)⟩
theorem qV{n:Int}(h:(Lit.int .u8 n).wf=true) : 0≤n∧n<256:=by
  have:=bounds_u8 h
  omega
open Go.RowKit
structure SL where
  aw:Option Addr
  kw:Nat
  ab:Option Addr
  kb:Nat
  ad:Option Addr
  kd:Nat
  ar:Option Addr
  kr:Nat
  ao:Option Addr
  ko:Nat
def sT (M:aP)(x:SL) : Array Value:=mG M.code M.fail M.addr M.count M.value M.and_ M.or_ M.addr2 M.sub M.status M.events M.messages (.slice x.aw M.words.length x.kw) (.slice x.ab M.bits.length x.kb) (.slice x.ad M.data.length x.kd) (.slice x.ar M.recs.length x.kr) M.mei M.kind M.level M.more M.next (.slice x.ao M.objects.length x.ko)
theorem oI{m:Md}{w:World}{cs:Array Value}{M:aP}(h:aW m w cs.toList M) : ∃ x,cs=sT M x:=by
  obtain⟨vw,vb,vd,vr,vo,h0,hw,hb,hd,hr,ho,hR⟩:=h
  obtain⟨aw,kw,rfl,_,_⟩:=hw.shape
  obtain⟨ab,kb,rfl,_,_⟩:=hb.shape
  obtain⟨ad,kd,rfl,_,_⟩:=hd.shape
  obtain⟨ar,kr,rfl,_,_⟩:=hr.shape
  obtain⟨ao,ko,rfl,_,_⟩:=ho.shape
  refine⟨⟨aw,kw,ab,kb,ad,kd,ar,kr,ao,ko⟩,?_⟩
  apply Array.toList_inj.1
  rw[h0]
  rfl
open Go.RowKit
def m8:aP:={ aP.zero with code:=7 }
theorem wj(w:World) : aW true w (mC 7).toList m8:=⟨fk,fk,fk,fk,fk,rfl,aK.nil ..,aK.nil ..,aK.nil ..,aK.nil ..,aK.nil ..,{ eT.zero with code:=(by decide:(0:Int)≤7∧(7:Int)<256) }⟩
theorem v6:cY m8:=⟨by decide,by decide,by decide,by decide,(fun r h=>nomatch h),by decide,(fun r h=>nomatch h)⟩
open Go.RowKit
structure fE where
  unit:Int
  tid:Int
  msg:aP
def fE.zero:fE:=⟨0,0,aP.zero⟩
def vW (m:Md)(w:World)(cs:Array Value)(F:fE) : Prop:=∃ c:Array Value,cs = #[.int .u8 F.unit,.int .u16 F.tid]++c∧aW m w c.toList F.msg∧B8 F.unit∧dm F.tid
def oq (res:fE × Int)(w:World)(e:Ending)(w':World) : Prop:=∃ cs,e = .returned (.tuple #[.agg cs,.int .i64 res.2])∧vW true w' cs res.1∧aD [] w w'
theorem er{x y:fE × Int}(h:x=y){w:World}{e:Ending}{w':World}(k:oq y w e w') : oq x w e w':=by rw[h];exact k
def wP:Array Value:=#[.int .u8 0,.int .u16 0,.int .u8 0,.int .u8 0,.int .u16 0,.int .u16 0,.int .u16 0,.int .u16 0,.int .u16 0,.int .u16 0,.int .u16 0,.int .u16 0,.int .u16 0,.int .u16 0,.slice none 0 0,.slice none 0 0,.slice none 0 0,.slice none 0 0,.int .u8 0,.int .u8 0,.int .u8 0,.int .u8 0,.int .u8 0,.slice none 0 0]
theorem dn{x:Int}{w W:World}(hu:aD [] w W) : oq (fE.zero,x) w (.returned (.tuple #[.agg wP,.int .i64 x])) W:=⟨_,rfl,⟨ky,(by kernel_rfl),aW.zero ..,(show(0:Int)≤0∧(0:Int)<256 from by decide),(show(0:Int)≤0∧(0:Int)<65536 from by decide)⟩,hu⟩
def ea (u t:Int) : aP × Int→fE × Int
  | (M,E)=>if E != 0 then (fE.zero,E) else (⟨u,t,M⟩,0)
theorem rk{dir:Int}{M:aP}{l:List Int}(h:dj dir M=some l) : l.length≤253:=by
  unfold dj at h
  split at h
  · split at h
    · cases h
    · unfold kE at h
      split at h
      · cases h
      · split at h
        · cases h
        · injection h with h
          subst h
          simp only[List.length_cons,List.length_nil]
          omega
  · split at h
    · cases h
    · split at h
      · cases h
      · rename_i hl
        injection h with h
        subst h
        simp only[decide_eq_true_eq] at hl
        simp only[List.length_append,List.length_cons,List.length_nil]
        omega
open Go.RowKit
deriving instance DecidableEq for fE
def vM (u t:Int)(M:aP)(x:SL) : Array Value:=#[.int .u8 u,.int .u16 t,.int .u8 M.code,.int .u8 M.fail,.int .u16 M.addr,.int .u16 M.count,.int .u16 M.value,.int .u16 M.and_,.int .u16 M.or_,.int .u16 M.addr2,.int .u16 M.sub,.int .u16 M.status,.int .u16 M.events,.int .u16 M.messages,.slice x.aw M.words.length x.kw,.slice x.ab M.bits.length x.kb,.slice x.ad M.data.length x.kd,.slice x.ar M.recs.length x.kr,.int .u8 M.mei,.int .u8 M.kind,.int .u8 M.level,.int .u8 M.more,.int .u8 M.next,.slice x.ao M.objects.length x.ko]
theorem rh(u t:Int)(M:aP)(x:SL) : vM u t M x = #[.int .u8 u,.int .u16 t]++sT M x:=by kernel_rfl
end Go.Proofs.YtogbnemojakcpaaGreat
namespace Go.Proofs.YtogbnemojakcpaaGreat
def gf (b:List Int) : Nat→Int
  | 0=>0
  | k+1=>(gf b k+b.getD k 0)%256
def t4 (b:List Int) : Int:=gf b b.length
def dg (b:List Int) : Int:=(0-t4 b)%256
def ei (b:List Int) : Bool:=decide (0<((b.length:Nat) : Int))&&(dg b==0)
theorem rq(b:List Int) : ∀ k,0≤gf b k∧gf b k<256
  | 0=>by unfold gf;omega
  | k+1=>by unfold gf;omega
def ej (n:Int) : Int:=if n<10 then 48+n else 55+n
def bN (c:Int) : Int:=if 48≤c∧c≤57 then c-48 else if 65≤c∧c≤70 then c-55 else -1
def dV:List Int→List Int
  | []=>[]
  | c :: b=>ej (c/16) :: ej (c%16) :: dV b
def bU:List Int→Option (List Int)
  | []=>some []
  | [_]=>none
  | a :: b :: r=>if bN a<0∨bN b<0 then none else (bU r).map fun l=>(16*bN a+bN b)%256 :: l
theorem ig{n:Int}(h:0≤n∧n<16) : 48≤ej n∧ej n≤70:=by unfold ej;split<;>omega
theorem qA{n:Int}(h:0≤n∧n<16) : bN (ej n)=n:=by
  unfold ej
  split<;>unfold bN
  · rw[if_pos (by omega)];omega
  · rw[if_neg (by omega),if_pos (by omega)];omega
theorem iv{c:Int}(h:0≤bN c) : ej (bN c)=c∧bN c<16:=by
  unfold bN at h ⊢
  split at h
  · rename_i h1
    rw[if_pos h1]
    unfold ej
    rw[if_pos (by omega)]
    omega
  · rename_i h1
    split at h
    · rename_i h2
      rw[if_neg h1,if_pos h2]
      unfold ej
      rw[if_neg (by omega)]
      omega
    · omega
theorem i6(c:Int) : bN c<16∧-1≤bN c:=by unfold bN;split;omega;split<;>omega
theorem f9:∀ b:List Int,(dV b).length=2*b.length
  | []=>rfl
  | c :: b=>by simp only[dV,List.length_cons,f9 b];omega
theorem mK:∀ a b:List Int,dV (a++b)=dV a++dV b
  | [],b=>rfl
  | c :: a,b=>by simp only[List.cons_append,dV,mK a b]
theorem jx:∀ {s x:List Int},bU s=some x→s=dV x∧∀ y,y∈x→0≤y∧y<256
  | [],x,h=>by
    injection h with h
    subst h
    exact⟨rfl,fun y hy=>by cases hy⟩
  | [_],x,h=>by cases h
  | a :: b :: r,x,h=>by
    simp only[bU] at h
    split at h
    · cases h
    · rename_i hd
      cases hr:bU r with
      | none=>rw[hr] at h;cases h
      | some l =>
        rw[hr] at h
        injection h with h
        obtain⟨h1,h2⟩:=jx hr
        have ha:=iv (c:=a) (by omega)
        have hb:=iv (c:=b) (by omega)
        subst h
        refine⟨?_,fun y hy=>?_⟩
        · simp only[dV]
          rw[show(16*bN a+bN b)%256/16=bN a from by omega,show(16*bN a+bN b)%256%16=bN b from by omega,ha.1,hb.1,← h1]
        · rcases List.mem_cons.1 hy with rfl | hy
          · omega
          · exact h2 y hy
theorem oO{xs:List Int}{k:Nat}(h:2*k+1<xs.length)(ha:¬ bN (xs.getD (2*k) 0)<0)(hb:¬ bN (xs.getD (2*k+1) 0)<0) : bU (xs.drop (2*k))=(bU (xs.drop (2*(k+1)))).map fun l=>[(16*bN (xs.getD (2*k) 0)+bN (xs.getD (2*k+1) 0))%256]++l:=by
  have e1:xs.getD (2*k) 0=xs[2*k]:=by rw[List.getD_eq_getElem?_getD,List.getElem?_eq_getElem (by omega)];rfl
  have e2:xs.getD (2*k+1) 0=xs[2*k+1]:=by rw[List.getD_eq_getElem?_getD,List.getElem?_eq_getElem h];rfl
  rw[List.drop_eq_getElem_cons (show 2*k<xs.length by omega),List.drop_eq_getElem_cons h,← e1,← e2]
  simp only[bU]
  rw[if_neg (by omega),show 2*k+1+1=2*(k+1) by omega]
  rfl
theorem qS{xs:List Int}{k:Nat}(h:2*k+1<xs.length)(hd:bN (xs.getD (2*k) 0)<0∨bN (xs.getD (2*k+1) 0)<0) : bU (xs.drop (2*k))=none:=by
  have e1:xs.getD (2*k) 0=xs[2*k]:=by rw[List.getD_eq_getElem?_getD,List.getElem?_eq_getElem (by omega)];rfl
  have e2:xs.getD (2*k+1) 0=xs[2*k+1]:=by rw[List.getD_eq_getElem?_getD,List.getElem?_eq_getElem h];rfl
  rw[List.drop_eq_getElem_cons (show 2*k<xs.length by omega),List.drop_eq_getElem_cons h,← e1,← e2]
  simp only[bU]
  rw[if_pos hd]
theorem iB:∀ {xs:List Int},xs.length%2≠0→bU xs=none
  | [],h=>by simp at h
  | [_],_=>rfl
  | a :: b :: r,h=>by
    simp only[bU]
    split
    · rfl
    · rw[iB (by simp only[List.length_cons] at h;omega)]
      rfl
theorem kN{s x:List Int}(h:bU s=some x) : s.length=2*x.length:=by
  obtain⟨h1,_⟩:=jx h
  rw[h1,f9]
theorem lu{xs L:List Int}{k:Nat}(h:bU xs=(bU (xs.drop (2*k))).map fun l=>L++l)(h1:¬ 2*k<xs.length) : bU xs=some L:=by
  rw[List.drop_eq_nil_of_le (by omega)] at h
  rw[h]
  simp[bU]
theorem jy{xs L:List Int}{k:Nat}(h:bU xs=(bU (xs.drop (2*k))).map fun l=>L++l)(h2:2*k+1<xs.length)(ha:¬ bN (xs.getD (2*k) 0)<0)(hb:¬ bN (xs.getD (2*k+1) 0)<0) : bU xs=(bU (xs.drop (2*(k+1)))).map fun l=>(L++[(16*bN (xs.getD (2*k) 0)+bN (xs.getD (2*k+1) 0))%256])++l:=by
  rw[h,oO h2 ha hb]
  cases bU (xs.drop (2*(k+1))) with
  | none=>rfl
  | some l=>simp
theorem mt{xs L:List Int}{k:Nat}(h:bU xs=(bU (xs.drop (2*k))).map fun l=>L++l)(h2:2*k+1<xs.length)(hd:bN (xs.getD (2*k) 0)<0∨bN (xs.getD (2*k+1) 0)<0) : bU xs=none:=by
  rw[h,qS h2 hd]
  rfl
theorem pl(b:List Int)(k:Nat)(h:k<b.length) : dV (b.take (k+1))=(dV (b.take k)++[ej (b.getD k 0/16)])++[ej (b.getD k 0%16)]:=by
  rw[List.take_succ_eq_append_getElem h,mK,List.getD_eq_getElem?_getD,List.getElem?_eq_getElem h]
  simp[dV]
open Go.RowKit
abbrev dA (xs:List Int) : Prop:=∀ x,x∈xs→0≤x∧x<256
theorem lE{x:Int}(h:0≤x∧x<256) : ((UInt8.ofNat x.toNat).toNat:Int)=x:=by
  simp only[UInt8.toNat_ofNat']
  omega
theorem gI{xs:List Int}{j:Nat}(hj:j<xs.length)(hs:j<(strOfNums xs).size) : (strOfNums xs)[j]=UInt8.ofNat (xs.getD j 0).toNat:=by
  show(strOfNums xs).data[j]=_
  simp[strOfNums,List.getD_eq_getElem?_getD,List.getElem?_eq_getElem hj]
theorem i2{P:Program}{w:World}{ev:Operand→Value}{o:Oper}{x ix:Operand}{t:TypeId}{xs:List Int}{k:IntKind}{i:Int}(j:Nat)(ho:o.op = .index t x ix)(ht:P.underlying t=some .string)(hx:ev x = .string (strOfNums xs))(hi:ev ix = .int k i)(hr:dA xs)(hj:i=(j:Int))(hlt:j<xs.length) : (execOp ev o).run P w = .ok (.value (.int .u8 (xs.getD j 0))) w:=by
  subst hj
  have hs:j<(strOfNums xs).size:=by rw[strOfNums_size];exact hlt
  have h:=run_index_string (P:=P) w t (strOfNums xs) k (j:Int) ht
  rw[dif_pos (by omega)] at h
  have hg:xs.getD j 0∈xs:=by
    rw[List.getD_eq_getElem?_getD,List.getElem?_eq_getElem hlt]
    exact List.getElem_mem hlt
  unfold execOp
  simp only[ho,hx,hi,Sem.run_bind,h,Result.andThen,Sem.run_pure]
  have e:((strOfNums xs)[((j:Nat) : Int).toNat]'(by simpa using hs))=UInt8.ofNat (xs.getD j 0).toNat:=by
    simp only[Int.toNat_natCast]
    exact gI hlt hs
  rw[e,lE (hr _ hg)]
theorem fs(xs:List Int)(a b:Nat)(hb:b≤xs.length) : (strOfNums xs).extract a b=strOfNums ((xs.take b).drop a):=by
  apply ByteArray.ext
  rw[ByteArray.data_extract]
  apply Array.toList_inj.1
  rw[Array.toList_extract]
  simp[strOfNums,List.extract,List.map_drop,List.map_take,List.drop_take]
theorem kJ{P:Program}{w:World}{ev:Operand→Value}{o:Oper}{x y:Operand}{t:TypeId}{xs:List Int}{k:IntKind}{i:Int}(j:Nat)(ho:o.op = .slice t x (some y) none none)(ht:P.underlying t=some .string)(hx:ev x = .string (strOfNums xs))(hy:ev y = .int k i)(hj:i=(j:Int))(hlt:j≤xs.length) : (execOp ev o).run P w = .ok (.value (.string (strOfNums (xs.drop j)))) w:=by
  subst hj
  have hu:(underlying t).run P w = .ok .string w:=run_underlying ht w
  have h:=run_slice_string_l (P:=P) w t (strOfNums xs) ht k (j:Int) (by omega) (by rw[strOfNums_size];omega)
  rw[strOfNums_size,fs _ _ _ (Nat.le_refl _),List.take_length,Int.toNat_natCast] at h
  unfold execOp
  simp only[ho,Option.map_some,Option.map_none,hx,hy,Instr.sliceAt,Sem.run_bind,hu,h,Result.andThen,Sem.run_pure]
theorem pn{P:Program}{w:World}{ev:Operand→Value}{o:Oper}{x y:Operand}{t:TypeId}{xs:List Int}{k:IntKind}{i:Int}(j:Nat)(ho:o.op = .slice t x none (some y) none)(ht:P.underlying t=some .string)(hx:ev x = .string (strOfNums xs))(hy:ev y = .int k i)(hj:i=(j:Int))(hlt:j≤xs.length) : (execOp ev o).run P w = .ok (.value (.string (strOfNums (xs.take j)))) w:=by
  subst hj
  have hu:(underlying t).run P w = .ok .string w:=run_underlying ht w
  have h:=run_slice_string_h (P:=P) w t (strOfNums xs) ht k (j:Int) (by omega) (by rw[strOfNums_size];omega)
  rw[Int.toNat_natCast,fs _ _ _ hlt,List.drop_zero] at h
  unfold execOp
  simp only[ho,Option.map_some,Option.map_none,hx,hy,Instr.sliceAt,Sem.run_bind,hu,h,Result.andThen,Sem.run_pure]
theorem kD(xs ys:List Int) : strOfNums xs++strOfNums ys=strOfNums (xs++ys):=by
  apply ByteArray.ext
  simp[strOfNums,ByteArray.data_append]
theorem mn{P:Program}{w:World}{ev:Operand→Value}{o:Oper}{x y:Operand}{t t':TypeId}{a b:ByteArray}{xs ys:List Int}(ho:o.op = .binOp .add t x y t')(hx:ev x = .string a)(hy:ev y = .string b)(ha:a=strOfNums xs)(hb:b=strOfNums ys)(hl:xs.length+ys.length≤1048576) : (execOp ev o).run P w = .ok (.value (.string (strOfNums (xs++ys)))) w:=by
  subst ha hb
  have hg:eqGuard .add t x y (.string (strOfNums xs)) (.string (strOfNums ys))=pure ():=rfl
  unfold execOp
  simp only[ho,hx,hy,hg,Sem.run_bind,Sem.run_pure,Result.andThen]
  have h:(binOp .add t (.string (strOfNums xs)) (.string (strOfNums ys))).run P w = .ok (.string (strOfNums (xs++ys))) w:=by
    show(Op.stringOp .add _ _).run P w=_
    unfold Op.stringOp
    rw[← kD]
    have:¬ ((((strOfNums xs).size+(strOfNums ys).size:Nat) : Int) > IntKind.i64.max):=by
      rw[strOfNums_size,strOfNums_size]
      show ¬ (((xs.length+ys.length:Nat) : Int) > 9223372036854775807)
      omega
    dsimp only
    rw[if_neg this]
    rfl
  rw[h]
theorem mr{xs ys:List Int}(h:dA xs)(k:dA ys) : dA (xs++ys):=fun x hx=>by
  rcases List.mem_append.1 hx with h1|h1
  · exact h x h1
  · exact k x h1
theorem iu{xs:List Int}(h:dA xs)(j:Nat) : dA (xs.drop j):=fun x hx=>h x (List.mem_of_mem_drop hx)
theorem lh{xs:List Int}(h:dA xs)(j:Nat) : dA (xs.take j):=fun x hx=>h x (List.mem_of_mem_take hx)
theorem ti{xs ys:List Int}(hx:dA xs)(hy:dA ys) : ((strOfNums xs).toList==(strOfNums ys).toList)=decide (xs=ys):=by
  have e:∀ zs:List Int,(strOfNums zs).toList=zs.map fun n=>UInt8.ofNat n.toNat:=fun zs=>by
    rw[ByteArray.toList_eq]
    rfl
  rw[e,e]
  by_cases h:xs=ys
  · subst h;simp
  · rw[decide_eq_false h,beq_eq_false_iff_ne]
    exact fun k=>h (iE xs ys hx hy k)
def gR (base:Nat)(w:World)(v:Value)(xs:List Int) : Prop:=∃ g cap cur n,v = .slice (some ⟨g,0,none⟩) xs.length cap∧base≤g∧w.heap[g]? = some (.cells cur 5 (n,n+1))∧xs.length≤n∧xs.length≤cap∧cap≤maxLen∧cur.toList.take xs.length=xs.map (Value.int .u8)∧dA xs
theorem gR.rd{base:Nat}{w:World}{v:Value}{xs:List Int}(h:gR base w v xs) : b9 true w v xs:=by
  obtain⟨g,cap,cur,n,rfl,hb,hh,h1,h2,h3,h4,h5⟩:=h
  refine⟨_,_,rfl,h2,h3,(fun hA=>by cases hA),fun hp=>⟨g,0,cur,_,_,rfl,hh,(fun _=>⟨rfl,Nat.zero_le _⟩),fun j x hj=>?_⟩⟩
  refine⟨[.int .u8 x],rfl,⟨rfl,h5 x (List.mem_of_getElem? hj)⟩,fun i u hi=>?_⟩
  cases i with
  | succ i=>simp at hi
  | zero =>
    have hi:Value.int .u8 x=u:=by simpa using hi
    subst hi
    have h6:(xs.map (Value.int .u8))[j]? = some (.int .u8 x):=by rw[List.getElem?_map,hj];rfl
    rw[← h4,List.getElem?_take] at h6
    split at h6
    · simpa using h6
    · cases h6
theorem gR.shape{base:Nat}{w:World}{v:Value}{xs:List Int}(h:gR base w v xs) : ∃ g cp,v = .slice (some ⟨g,0,none⟩) xs.length cp:=by
  obtain⟨g,cap,cur,n,hv,_⟩:=h
  exact⟨g,cap,hv⟩
theorem mL{P:Program}{w:World}{src dst e:TypeId}{xs:List Int}(hs:P.underlying src=some .string)(hd:P.underlying dst=some (.slice e))(he:P.underlying e=some (.int .u8))(hte:e=5)(hr:dA xs)(hl:xs.length≤1048576) :
    ∃ cp w',(convert src dst (.string (strOfNums xs))).run P w = .ok (.slice (some ⟨w.heap.size,0,none⟩) xs.length cp) w'∧gR w.heap.size w' (.slice (some ⟨w.heap.size,0,none⟩) xs.length cp) xs∧aD [] w w':=by
  subst hte
  have h:=Lib.run_convert_string_bytes (P:=P) w src dst _ (strOfNums xs) hs hd he
  rw[strOfNums_size] at h
  refine⟨_,_,h,⟨_,_,_,_,rfl,Nat.le_refl _,Lib.bytesWorld_at_new w _ (strOfNums xs),?_,?_,?_,?_,hr⟩,?_⟩
  · simp[Lib.bytesCells,strOfNums]
  · exact grownCap_ge ..
  · exact grownCap_le_maxLen _ _ _ _ (by unfold maxLen;omega)
  · simp only[Lib.bytesCells]
    rw[Array.toList_append,List.take_append_of_le_length (by simp[strOfNums])]
    rw[List.take_of_length_le (by simp[strOfNums])]
    simp only[strOfNums,Array.toList_map,List.map_map]
    apply List.map_congr_left
    intro x hx
    show Value.int .u8 _=_
    rw[lE (hr x hx)]
  · exact⟨rfl,rfl,rfl,by rw[Lib.bytesWorld_size];omega,fun k hk _=>Lib.bytesWorld_at_old w _ _ k hk⟩
section
variable {P:Program}{n:Nat}{D:List Deferred}{F:Fr}{w:World}{K:Fr→World→Prop}{Q:Exit→Act→World→Prop}{d:Option Tmp}{t:TypeId}{s:String}{af:Array Edge}{gu:Option (Nat × Bool)}
theorem lF{a:Act}{o:Oper}{N:Option Tmp}{K:Act→World→Prop}{w1:World}(v:Value)(hN:o.dst=N)(hr:(execOp a.eval o).run P w = .ok (.value v) w1)(h:K (a.put N v) w1) : OW P o a w K Q:=by
  refine OW.mk ?_
  subst hN
  unfold Oper.wp
  rw[hr]
  exact h
theorem xG{src dst:TypeId}{x:Operand}{xs:List Int}(hs:P.underlying src=some .string)(hd:P.underlying dst=some (.slice 5))(he:P.underlying 5=some (.int .u8))(hr:dA xs)(hl:xs.length≤1048576)
    (h:∀ A cp w',gR w.heap.size w' (.slice A xs.length cp) xs→aD [] w w'→K (pt d (.slice A xs.length cp) F) w') (hx:eP F x=some (.string (strOfNums xs)):=by kernel_rfl) (hk:fB n d=true:=by kernel_rfl) : OG P ⟨d,.convert src dst x,t,s,af,gu⟩ n D F w K Q:=by
  obtain⟨cp,w',h1,h2,h3⟩:=mL (P:=P) (w:=w) hs hd he rfl hr hl
  refine⟨fun a ha K' hK=>lF _ rfl (w1:=w') ?_ (hK _ _ _ (h _ _ _ h2 h3) (ha.put hk))⟩
  have hx':=ha.ev hx
  unfold execOp
  simp only[hx',Sem.run_bind,h1,Result.andThen,Sem.run_pure]
theorem wO{ty:TypeId}{x:Operand}{sv:ByteArray}(hs:P.underlying ty=some .string)(h:∀ g w',w.heap.size≤g→w'.heap[g]? = some (.stringIter sv 0)→aD [] w w'→K (pt d (.pointer (some ⟨g,0,none⟩)) F) w')
    (hx:eP F x=some (.string sv):=by kernel_rfl) (hk:fB n d=true:=by kernel_rfl) : OG P ⟨d,.range ty x,t,s,af,gu⟩ n D F w K Q:=by
  refine⟨fun a ha K' hK=>lF (.pointer (some ⟨w.heap.size,0,none⟩)) rfl (w1:=w.alloc (.stringIter sv 0)) ?_ (hK _ _ _ (h _ _ (Nat.le_refl _) (dP _ _) ((aD.refl _ _).alloc _)) (ha.put hk))⟩
  have hx':=ha.ev hx
  unfold execOp
  simp only[hx',Sem.run_bind,run_range_string w ty sv hs,Result.andThen,Sem.run_pure]
  rfl
theorem pT{xs:List Int}(hr:dA xs)(h0:0<xs.length) : ((((Utf8.decode (strOfNums xs) 0).1:Nat) : Int)=58↔xs.getD 0 0=58):=by
  have hs:0<(strOfNums xs).size:=by rw[strOfNums_size];exact h0
  have hm:xs.getD 0 0∈xs:=by
    rw[List.getD_eq_getElem?_getD,List.getElem?_eq_getElem h0]
    exact List.getElem_mem h0
  have hb:=hr _ hm
  have h1:((strOfNums xs).get! 0).toNat=(xs.getD 0 0).toNat:=by
    have e:(strOfNums xs).get! 0=(strOfNums xs)[0]:=by
      show(strOfNums xs).data[0]! = _
      rw[getElem!_pos (strOfNums xs).data 0 hs]
      rfl
    rw[e,gI h0 hs]
    simp only[UInt8.toNat_ofNat']
    omega
  unfold Utf8.decode
  simp only[Nat.zero_add,h1,Utf8.runeError]
  split
  · omega
  · split
    · split
      · rename_i h2 h3 h4;simp only;omega
      · simp only;omega
    · split
      · split
        · rename_i h2 h3 h4 h5;simp only[Bool.and_eq_true,decide_eq_true_eq] at h5;simp only;omega
        · simp only;omega
      · split
        · split
          · rename_i h2 h3 h4 h5 h6;simp only[Bool.and_eq_true,decide_eq_true_eq] at h6;simp only;omega
          · simp only;omega
        · simp only;omega
theorem xL{x:Operand}{xs:List Int}{r:Nat}(hr:dA xs)(h0:0<xs.length)(B:w.heap[r]? = some (.stringIter (strOfNums xs) 0))(h:∀ c w',(c=58↔xs.getD 0 0=58)→aD [r] w w'→K (pt d (.tuple #[.bool true,.int .i64 0,.int .i32 c]) F) w')
    (hx:eP F x=some (.pointer (some ⟨r,0,none⟩)):=by kernel_rfl) (hk:fB n d=true:=by kernel_rfl) : OG P ⟨d,.next x true,t,s,af,gu⟩ n D F w K Q:=by
  have hlt:=ak B
  have hrun:=Lib.run_next_any_at (P:=P) w r (strOfNums xs) 0 t B (by rw[strOfNums_size];exact h0)
  refine⟨fun a ha K' hK=>lF _ rfl (w1:=w.iterAt r (strOfNums xs) (0+(Utf8.decode (strOfNums xs) 0).2)) ?_ (hK _ _ _ (h (((Utf8.decode (strOfNums xs) 0).1:Nat) : Int) _ (pT hr h0) ?_) (ha.put hk))⟩
  · have hx':=ha.ev hx
    unfold execOp
    simp only[hx',Sem.run_bind,hrun,Result.andThen,Sem.run_pure]
    rfl
  · refine⟨rfl,rfl,rfl,?_,fun k hk hn=>?_⟩
    · simp[World.iterAt]
    · have:r≠k:=fun e=>hn (by simp[e])
      simp[World.iterAt,Array.getElem?_setIfInBounds,this]
end
end Go.Proofs.YtogbnemojakcpaaGreat
namespace Go.Proofs.YtogbnemojakcpaaGreat
open Go.RowKit
def wy (P:Program)(ty:TypeId) : Option (Nat × TypeId):=match P.underlying ty with | some (.array m e)=>some (m,e) | _=>none
theorem sS{P:Program}{ty e:TypeId}{m:Nat}(h:wy P ty=some (m,e)) : P.underlying ty=some (.array m e):=by
  unfold wy at h
  split at h
  · injection h with h
    injection h with h1 h2
    subst h1 h2
    assumption
  · cases h
theorem qg{P:Program}{w:World}{ev:Operand→Value}{o:Oper}{t e:TypeId}{x ix:Operand}{b off j m:Nat}{k:IntKind}{i:Int}(ho:o.op = .indexAddr t x ix)(ht:P.underlying t=some (.array m e))(hi:(P.info? e).map (·.size)=some 1)
    (hx:ev x = .pointer (some ⟨b,off,none⟩)) (hix:ev ix = .int k i) (hj:i=j) (hlt:j<m) : (execOp ev o).run P w = .ok (.value (.pointer (some ⟨b,off+j,none⟩))) w:=by
  subst hj
  obtain⟨i0,hi0,hs⟩:=Option.map_eq_some_iff.1 hi
  unfold execOp
  have h2:(0:Int)≤(j:Int)∧(j:Int)<(m:Int):=by omega
  simp[ho,hx,hix,Instr.indexAt,Instr.sureAddr,asIntOf,run_underlying ht,Result.andThen,h2,sizeOf,typeInfo,hi0,hs,gZ,hlt]
section
variable {P:Program}{n:Nat}{D:List Deferred}{F:Fr}{w:World}{K:Fr→World→Prop}{Q:Exit→Act→World→Prop}{d:Option Tmp}{t:TypeId}{s:String}{af:Array Edge}{gu:Option (Nat × Bool)}
theorem xw{ty:TypeId}{x ix:Operand}{b off:Nat}(m j:Nat)(i:Int)(hj:i=j)(hlt:j<m)(h:K (pt d (.pointer (some ⟨b,off+j,none⟩)) F) w)
    (hx:eP F x=some (.pointer (some ⟨b,off,none⟩)):=by kernel_rfl) (hi:t1 F ix=some i:=by kernel_rfl) (hs:((wy P ty).bind fun p=>(P.info? p.2).map fun q=>(p.1,q.size),fB n d)=(some (m,1),true):=by kernel_rfl) : OG P ⟨d,.indexAddr ty x ix,t,s,af,gu⟩ n D F w K Q:=by
  simp only[Prod.mk.injEq] at hs
  obtain⟨hs,hd⟩:=hs
  obtain⟨k,hi⟩:=jT hi
  cases he:wy P ty with
  | none=>rw[he] at hs;simp at hs
  | some p =>
    obtain⟨m',e⟩:=p
    rw[he] at hs
    obtain⟨q,hq,h3⟩:=Option.map_eq_some_iff.1 (show(P.info? e).map (fun q=>(m',q.size))=some (m,1) from hs)
    injection h3 with h4 h5
    subst h4
    exact⟨fun a ha K' hK=>fX _ rfl (qg rfl (sS he) (by rw[hq];simp[h5]) (ha.ev hx) (ha.ev hi) hj hlt) (hK _ _ _ h (ha.put hd))⟩
end
open Go.RowKit
theorem tw{w:World}{g:Nat}{c s:Int}(hg:w.heap[g]? = some (.cells #[.int .u8 s] 5 (0,0))) : Calls Tryz.prog 191 #[.int .u8 c,.pointer (some ⟨g,0,none⟩)] w (fun e w'=>e = .returned (.tuple #[])∧w'.heap[g]? = some (.cells #[.int .u8 ((s+c)%256)] 5 (0,0))∧aD [g] w w'):=by
 refine en 6 Tryz.func191 rfl<|go<|L0<|aR hg 0<|Pl 2<|L0<|bT hg 0 #[.int .u8 ((s+c)%256)] fun d a b=>nl<|rm (.tuple #[])<|?_
 exact⟨rfl,a,b⟩
theorem pW{m:Md}{A:Option Addr}{cp:Nat}{b:List Int}{w0 w:World}{g:Nat}(hu0:aD [] w0 w)(hg0:w0.heap.size≤g)(hsl:b9 m w0 (.slice A b.length cp) b)(hg:w.heap[g]? = some (.cells #[.int .u8 (gf b 0)] 5 (0,0))) :
    Calls Tryz.prog 190 #[.slice A b.length cp,.func (.func 191) #[] #[.pointer (some ⟨g,0,none⟩)]] w (fun e w'=>e = .returned (.tuple #[])∧w'.heap[g]? = some (.cells #[.int .u8 (t4 b)] 5 (0,0))∧aD [] w0 w'∧w.heap.size≤w'.heap.size):=by
 have hln:=aK.len hsl
 refine en 16 Tryz.func190 rfl<|sg<|Pl 3<|nt<|bk<|?_
 refine i1 (fun x=>[(1,.func (.func 191) #[] #[.pointer (some ⟨g,0,none⟩)]),(6,.slice A b.length cp),(7,.int .i64 ((b.length:Nat) : Int)),(8,.int .i64 ((x:Nat) : Int))]) (fun(x:Nat) w'=>aD [] w0 w'∧w.heap.size≤w'.heap.size∧w'.heap[g]? = some (.cells #[.int .u8 (gf b x)] 5 (0,0))∧(x≤b.length)) (fun x=>b.length-x) 0 ⟨hu0,lr,hg,(by(try dsimp only);omega)⟩ ?_
 rintro k j ⟨a,f,l,n⟩
 refine iq [(1,.func (.func 191) #[] #[.pointer (some ⟨g,0,none⟩)]),(6,.slice A b.length cp),(7,.int .i64 ((b.length:Nat) : Int)),(8,.int .i64 ((k:Nat) : Int))] ?_
 have h:j.heap[g]? = some (.cells #[.int .u8 (gf b k)] 5 (0,0)):=l
 have y:k≤b.length:=n
 refine sg<|Pl 1<|nt<|sq<|cb ((decide (((k:Nat) : Int)<((b.length:Nat) : Int)))) (fun d=>?_) (fun d=>?_)
 have o:=of_decide_eq_true d
 refine bo<|sq<|bk<|sg<|?_
 refine fy (b9.at_ (b9.old hsl a) k (by omega)) fun q r s t z=>L0<|jb b.length k s (by omega)<|L0<|dU (p:=⟨q,r+k,none⟩) (v:=.int .u8 (b.getD k 0)) t<|Pl 1<|nt<|go<|Pl 2<|L0<|fV #[] #[.pointer (some ⟨g,0,none⟩)] (args:=#[.int .u8 (b.getD k 0),.pointer (some ⟨g,0,none⟩)])<|m2 (tw (c:=(b.getD k 0)) h) fun B u i=>nl<|bn<|tn<|go<|L0<|Oi (((k:Nat) : Int)+1)<|?_
 refine Pl 1<|nl<|?_
 exact ga (k+1) ⟨(ud a i hg0),(le f i.size),u,(by(try dsimp only);omega)⟩ (by omega)
 have o:=of_decide_eq_false d
 refine xt<|tx<|tx<|bx<|rm (.tuple #[])<|?_
 have hk:k=b.length:=by omega
 subst hk
 exact⟨rfl,h,a,f⟩
theorem o9{m:Md}{A:Option Addr}{cp:Nat}{b:List Int}{w:World}(hsl:b9 m w (.slice A b.length cp) b) :
    Calls Tryz.prog 128 #[.slice A b.length cp] w (cL (.int .u8 (dg b)) w):=by
 refine en 9 Tryz.func128 rfl<|sg<|Pl 1<|ng<|L0<|bI #[.int .u8 0] fun h i a c d=>L0<|bT c 0 #[.int .u8 0] fun j dm e=>ng<|?_
 refine Pl 2<|?_
 refine L0<|Oc<|m3 (pW (ud d e a) a hsl dm) fun k f g l=>ng<|L0<|aR f 0<|Pl 2<|nt<|rt<|rr (.int .u8 ((0-(t4 b))%256))<|?_
 exact⟨rfl,g⟩
theorem lc{m:Md}{v:Value}{b:List Int}{w:World}(h:b9 m w v b) : Calls Tryz.prog 128 #[v] w (cL (.int .u8 (dg b)) w):=by
  obtain⟨A,cp,rfl,_,_⟩:=h.shape
  exact o9 h
theorem ol{m:Md}{A:Option Addr}{cp:Nat}{b:List Int}{w:World}(hsl:b9 m w (.slice A b.length cp) b) :
    Calls Tryz.prog 124 #[.slice A b.length cp] w (cL (.bool (ei b)) w):=by
 refine en 11 Tryz.func124 rfl<|sg<|Pl 1<|ng<|Pl 4<|bl 6 ((decide (0<((b.length:Nat) : Int)))) (fun a=>?_) (fun a=>?_)
 have c:=of_decide_eq_true a
 refine Pl 1<|L1<|Oc (args:=#[.slice A b.length cp])<|m1 (lc hsl) fun e d=>Pl 3<|nt<|rt<|rr (.bool ((dg b)==0))<|?_
 have hs:ei b=((dg b)==0):=by unfold ei;(try simp only[a,bs,if_true,if_false,decide_true,decide_false]);all_goals rfl
 rw[hs]
 exact⟨rfl,d⟩
 have c:=of_decide_eq_false a
 refine Pl 5<|nt<|rt<|rr (.bool false)<|?_
 have hs:ei b=false:=by unfold ei;(try simp only[a,bs,if_true,if_false,decide_true,decide_false]);all_goals rfl
 rw[hs]
 exact⟨rfl,(aD.refl [] _)⟩
theorem qq{m:Md}{v:Value}{b:List Int}{w:World}(h:b9 m w v b) : Calls Tryz.prog 124 #[v] w (cL (.bool (ei b)) w):=by
  obtain⟨A,cp,rfl,_,_⟩:=h.shape
  exact ol h
open Go.RowKit
theorem mp:∃ j,Tryz.prog.info? 182=some j∧j.size=2:=Option.map_eq_some_iff.1 (show(Tryz.prog.info? 182).map (·.size)=some 2 by kernel_rfl)
theorem lH(b:Nat)(w:World)(h0:w.cell? ⟨b,0,none⟩=some (.pointer none))(hsh:w.shape? b=some (182,2))(hfz:w.frozen? ⟨b,0,none⟩=false) :
    Calls Tryz.prog 230 #[.pointer (some ⟨b,0,none⟩)] w fun e w'=>e = .returned (.tuple #[])∧w'=w.setCell ⟨b,0,none⟩ (.pointer (some ⟨b,0,none⟩)):=by
  obtain⟨j,hj,hjs⟩:=mp
  go_enter Tryz.func230,Tryz.ntmps230
  go_wp2
  rw[Lib.run_to_unsafe w ⟨b,0,none⟩ Tryz.underlying180 Tryz.underlying243 hj (by rw[hjs];decide) hsh (Nat.zero_lt_succ 1)]
  simp only[Result.andThen]
  rw[Oper.upon_value]
  go_wp2
  rw[run_callFunc_extern Tryz.func261 (by kernel_rfl) (by kernel_rfl) (by kernel_rfl) (e:=Extern.AbiNoEscape.same) (by kernel_rfl)]
  rw[Lib.run_noEscape]
  simp only[Result.andThen]
  rw[Oper.upon_value]
  go_wp2
  rw[Lib.run_from_unsafe w ⟨b,0,none⟩ Tryz.underlying243 Tryz.underlying180 hj hsh (by kernel_rfl)]
  simp only[Result.andThen]
  rw[Oper.upon_value]
  go_wp2
  go_end0
  exact⟨rfl,rfl⟩
theorem nG(b:Nat)(w:World)(h0:w.cell? ⟨b,0,none⟩=some (.pointer (some ⟨b,0,none⟩))) :
    Calls Tryz.prog 230 #[.pointer (some ⟨b,0,none⟩)] w fun e w'=>e = .returned (.tuple #[])∧w'=w:=by
  obtain⟨j,hj,_⟩:=mp
  go_enter Tryz.func230,Tryz.ntmps230
  go_wp2
  rw[Lib.run_neq_ptr_same w _ Tryz.underlying180 hj]
  go_wp2
  go_end0
  exact⟨rfl,rfl⟩
theorem ot{w:World}{b:Nat}{p v:Value}(hp:p = .pointer none∨p = .pointer (some ⟨b,0,none⟩))(hb:w.heap[b]? = some (.cells #[p,v] 182 (0,0))) :
    Calls Tryz.prog 230 #[.pointer (some ⟨b,0,none⟩)] w fun e w'=>e = .returned (.tuple #[])∧w'.heap[b]? = some (.cells #[.pointer (some ⟨b,0,none⟩),v] 182 (0,0))∧aD [b] w w':=by
  have h0:w.cell? ⟨b,0,none⟩=some p:=(bu hb 0).trans rfl
  rcases hp with rfl|rfl
  · refine(lH b w h0 (by simp[World.shape?,hb]) (ey hb 0)).mono ?_
    rintro e w' ⟨rfl,rfl⟩
    exact⟨rfl,(fm hb 0 _).trans rfl,(aD.refl _ _).setCell (Or.inl (by simp)) _⟩
  · refine(nG b w h0).mono ?_
    rintro e w' ⟨rfl,rfl⟩
    exact⟨rfl,hb,aD.refl _ _⟩
def jF:Array Value:=#[.int .u8 48,.int .u8 49,.int .u8 50,.int .u8 51,.int .u8 52,.int .u8 53,.int .u8 54,.int .u8 55,.int .u8 56,.int .u8 57,.int .u8 65,.int .u8 66,.int .u8 67,.int .u8 68,.int .u8 69,.int .u8 70]
theorem pa:∀ {j:Nat},j<16→jF[j]? = some (.int .u8 (ej (j:Int)))
  | 0,_ | 1,_ | 2,_ | 3,_ | 4,_ | 5,_ | 6,_ | 7,_ | 8,_ | 9,_ | 10,_ | 11,_ | 12,_ | 13,_ | 14,_ | 15,_=>rfl
  | n+16,h=>by omega
theorem mY{i:Int}(h:0≤i∧i<16) : jF[i.toNat]? = some (.int .u8 (ej i)):=by
  rw[pa (by omega),Int.toNat_of_nonneg h.1]
theorem rI{P:Program}{w:World}{ev:Operand→Value}{o:Oper}{x ix:Operand}{t e:TypeId}{k:IntKind}{i:Int}(j:Nat)(ho:o.op = .index t x ix)(ht:P.underlying t=some (.array 16 e))(hi:(P.info? e).map (·.size)=some 1)(hr:∀ w,(isAgg e).run P w = .ok false w)(hx:ev x = .agg jF)(hy:ev ix = .int k i)(hj:i=(j:Int))(hlt:j<16) : (execOp ev o).run P w = .ok (.value (.int .u8 (ej (j:Int)))) w:=by
  subst hj
  obtain⟨i0,hi0,hs⟩:=Option.map_eq_some_iff.1 hi
  have h:=pa hlt
  unfold execOp
  have h2:(0:Int)≤(j:Int)∧(j:Int)<16:=by omega
  simp[ho,hx,hy,Instr.index,asIntOf,run_underlying ht,Result.andThen,h2,sizeOf,typeInfo,hi0,hs,part,h,hr,hlt]
def uv (B b:Nat)(L:List Int)(w:World) : Prop:=∃ p A cp,w.heap[b]? = some (.cells #[p,.slice A L.length cp] 182 (0,0))∧(p = .pointer none∨p = .pointer (some ⟨b,0,none⟩))∧eG B w (.slice A L.length cp) L
theorem uv.new{B b:Nat}{w:World}(hb:w.heap[b]? = some (.cells #[.pointer none,.slice none 0 0] 182 (0,0))) : uv B b [] w:=⟨_,_,_,hb,.inl rfl,be.nil ..⟩
def tf:Go.Shelf.Ren:=⟨fun | 169=>189 | n=>n,fun | 70=>180 | 9=>9 | 0=>0 | 72=>182 | 37=>22 | 127=>235 | 3=>3 | 5=>5 | n=>n,fun | n=>n⟩
theorem wg:Go.Proofs.Lays.n169 Tryz.prog tf:={
  mixed:=by kernel_rfl
  f169:=Tryz.func189.trans (congrArg some (by kernel_rfl))
  t0:=Tryz.underlying0
  a0:=Tryz.isAgg0
  z0:=Tryz.sizeOf0
  v0:=Tryz.zeroValue0
  t3:=Tryz.underlying3
  a3:=Tryz.isAgg3
  z3:=Tryz.sizeOf3
  v3:=Tryz.zeroValue3
  t9:=Tryz.underlying9
  a9:=Tryz.isAgg9
  z9:=Tryz.sizeOf9
  v9:=Tryz.zeroValue9
  t37:=Tryz.underlying22
  a37:=Tryz.isAgg22
  z37:=Tryz.sizeOf22
  v37:=Tryz.zeroValue22
  t70:=Tryz.underlying180
  a70:=Tryz.isAgg180
  z70:=Tryz.sizeOf180
  v70:=Tryz.zeroValue180
  t72:=Tryz.underlying182
  a72:=Tryz.isAgg182
  z72:=Tryz.sizeOf182
  v72:=Tryz.zeroValue182
  t127:=Tryz.underlying235
  a127:=Tryz.isAgg235
  z127:=Tryz.sizeOf235
  v127:=Tryz.zeroValue235 }
theorem vl:Builder.Extra Tryz.prog tf:={
  sizeBuilder:=by kernel_rfl
  liesBuilder:=by kernel_rfl
  t5:=Tryz.underlying5
  a5:=Tryz.isAgg5
  z5:=Tryz.sizeOf5
  v5:=Tryz.zeroValue5
  infoByte:=by kernel_rfl
  cellsByte:=by kernel_rfl
  sizeByte:=by kernel_rfl
  neB5:=by decide }
theorem qy{L:List Int}(h:dA L) : Lib.byteCells (L.map fun n=>UInt8.ofNat n.toNat)=L.map (Value.int .u8):=by
  unfold Lib.byteCells
  rw[List.map_map]
  apply List.map_congr_left
  intro x hx
  show Value.int .u8 _=_
  rw[lE (h x hx)]
theorem ou{w0 w:World}{b:Nat}{L:List Int}(hu:aD [] w0 w)(hg:w0.heap.size≤b)(h:uv w0.heap.size b L w)(hr:dA L) :
    Calls Tryz.prog 189 #[.pointer (some ⟨b,0,none⟩)] w fun e w'=>e = .returned (.string (strOfNums L))∧aD [] w0 w':=by
  obtain⟨p,A,cp,hb,hp,ho⟩:=h
  have h1:=eD (enc:=Value.int .u8) (fun _ _ _ h=>h.1) ho
  have h2:Lib.BuilderAt 182 5 w0.heap.size b p (Lib.byteCells (L.map fun n=>UInt8.ofNat n.toNat)) w:=by
    rw[qy hr]
    refine⟨hg,_,hb,by rw[List.length_map];exact h1,fun hq=>?_⟩
    rcases h1.2 with⟨hv,_⟩|⟨g',cap,cur,hv,_,hh,_⟩
    · rw[hv] at hq;cases hq
    · rw[hv] at hq
      have e:g'=b:=by simpa [Value.ownBlock] using hq
      subst e
      rw[hb] at hh
      injection hh with hh
      injection hh with _ h5 _
      exact absurd h5 (by decide)
  have h3:Lib.IsBuilder (tf.t 72) (tf.t 5) w0.heap.size b (Lib.byteCells (L.map fun n=>UInt8.ofNat n.toNat)) w:=by
    rcases hp with rfl|rfl
    · exact Or.inl h2
    · exact Or.inr h2
  refine(Any.Builder_String_any wg vl _ _ _ _ h3 hu.size).mono ?_
  rintro e w' ⟨rfl,hbel⟩
  exact⟨rfl,hu.os▸hbel.os,hu.tape▸hbel.tape,hu.output▸hbel.output,Nat.le_trans hu.size hbel.size,fun k hk hn=>(hbel.block k hk).trans (hu.block k hk hn)⟩
open Go.RowKit
theorem jP{w:World}:Calls Tryz.prog 187 #[] w (cL (.agg jF) w):=by
 refine en 2 Tryz.func187 rfl<|sg<|L0<|bI #[.int .u8 0,.int .u8 0,.int .u8 0,.int .u8 0,.int .u8 0,.int .u8 0,.int .u8 0,.int .u8 0,.int .u8 0,.int .u8 0,.int .u8 0,.int .u8 0,.int .u8 0,.int .u8 0,.int .u8 0,.int .u8 0] fun e f a b c=>ng<|Pl 1<|L0<|b6 b #[.int .u8 48,.int .u8 49,.int .u8 50,.int .u8 51,.int .u8 52,.int .u8 53,.int .u8 54,.int .u8 55,.int .u8 56,.int .u8 57,.int .u8 65,.int .u8 66,.int .u8 67,.int .u8 68,.int .u8 69,.int .u8 70] fun g dm d=>nt<|rt<|vh dm<|?_
 exact⟨rfl,(ud c d a)⟩
theorem rA{c:Int}{n:Nat}(h:∀ j:Nat,j<n→ej (j:Int)≠c)(q:(ej ((n:Nat) : Int)==c)=false) : ∀ j:Nat,j<n+1→ej (j:Int)≠c:=fun j hj=>by
  by_cases e:j=n
  · subst e;simpa using q
  · exact h j (by omega)
theorem uI{c:Int}{n:Nat}(hn:n<16)(q:(ej ((n:Nat) : Int)==c)=true) : bN c=((n:Nat) : Int):=by
  have e:ej ((n:Nat) : Int)=c:=by simpa using q
  rw[← e]
  exact qA (by omega)
theorem sf{c:Int}{n:Nat}(hn:n=16)(h:∀ j:Nat,j<n→ej (j:Int)≠c) : bN c = -1:=by
  by_cases e:0≤bN c
  · have h1:=iv e
    exact absurd (by rw[Int.toNat_of_nonneg e];exact h1.1) (h (bN c).toNat (by omega))
  · have:=i6 c
    omega
theorem kS{w:World}{c:Int}(hc:0≤c∧c<256) : Calls Tryz.prog 184 #[.int .u8 c] w (cL (.int .i64 (bN c)) w):=by
 refine en 15 Tryz.func184 rfl<|sg<|Pl 1<|nt<|sq<|sg<|L0<|Oc<|m1 (@jP w) fun g h=>Pl 1<|nt<|bk<|?_
 refine i1 (fun x=>[(0,.int .u8 c),(5,.agg jF),(6,.int .i64 ((x:Nat) : Int))]) (fun(x:Nat) w'=>aD [] g w'∧(x≤16)∧(∀ j:Nat,j<x→ej (j:Int)≠c)) (fun x=>16-x) 0 ⟨aD.refl _ _,(by(try dsimp only);omega),(fun j hj=>by omega)⟩ ?_
 rintro n q ⟨d,l,m⟩
 refine iq [(0,.int .u8 c),(5,.agg jF),(6,.int .i64 ((n:Nat) : Int))] ?_
 have r:n≤16:=l
 have e:∀ j:Nat,j<n→ej (j:Int)≠c:=m
 refine sg<|Pl 1<|nt<|sq<|?_
 have f:=aH h d
 refine cb ((decide (((n:Nat) : Int)<16))) (fun b=>?_) (fun b=>?_)
 have o:=of_decide_eq_true b
 refine bo<|sq<|bk<|sg<|Pl 1<|L0<|hZ (.int .u8 (ej ((n:Nat) : Int))) (rI (k:=.i64) (i:=((n:Nat) : Int)) n rfl Tryz.underlying183 (by kernel_rfl) Tryz.isAgg5 (by kernel_rfl) (by kernel_rfl) rfl (by omega))<|Pl 2<|ng<|Pl 3<|nl<|?_
 refine tn<|cb (((ej ((n:Nat) : Int))==c)) (fun a=>?_) (fun a=>?_)
 have p:=al a
 refine sg<|Pl 2<|nt<|rt<|br<|tr<|tr<|br<|tr<|rr (.int .i64 ((n:Nat) : Int))<|?_
 have hs:bN c=((n:Nat) : Int):=uI (by omega) a
 rw[hs]
 exact⟨rfl,f⟩
 have p:=ap a
 exact sk<|bn<|tn<|go<|L0<|Oi (((n:Nat) : Int)+1)<|Pl 1<|nl<|ga (n+1) ⟨d,(by(try dsimp only);omega),(rA e a)⟩ (by omega)
 have o:=of_decide_eq_false b
 refine xt<|tx<|tx<|bx<|tn<|sg<|Pl 1<|nt<|rt<|rr (.int .i64 (-1))<|?_
 have hs:bN c = -1:=sf (n:=n) (by omega) e
 rw[hs]
 exact⟨rfl,f⟩
theorem kZ{w0 w:World}{b gd:Nat}{L:List Int}{c:Int}(hu0:aD [] w0 w)(hg0:w0.heap.size≤b)(hg1:w0.heap.size≤gd)(h:uv w0.heap.size b L w)(hd:w.heap[gd]? = some (.cells jF 183 (0,0)))(hne:gd≠b)(hc:0≤c∧c<256)(hl:L.length≤1048576) :
    Calls Tryz.prog 188 #[.pointer (some ⟨b,0,none⟩),.int .u8 c] w (fun e w'=>e = .returned .nilIface∧uv w0.heap.size b (L++[c]) w'∧w'.heap[gd]? = some (.cells jF 183 (0,0))∧aD [] w0 w'∧w.heap.size≤w'.heap.size):=by
 obtain⟨p,A,cp,hb,hp,ho⟩:=h
 refine en 17 Tryz.func188 rfl<|sg<|Pl 1<|ng<|Pl 1<|L0<|Oc<|m2 (ot hp hb) fun u a d=>ng<|?_
 refine Pl 4<|L0<|aR a 1<|Pl 1<|L0<|dx (m:=1) (e:=5) #[.int .u8 c] fun v y r dm f=>?_
 have s:=dF r (xs:=[c]) (by as_aux_lemma=>kernel_rfl) (az (by omega) aX) (by(try simp only[List.length_cons,List.length_nil]);omega) dm
 have i:=aH d f
 refine L0<|cK bt (xs:=L) (ys:=([c])) (.int .u8 0) 1 (ax ho i (fun x hx=>(aa (fun e=>(cQ hb ho (by decide)) (e▸hx)) ay)) (fun _ _ h=>h)) (s).rd (by(try simp only[List.length_append,List.length_cons,List.length_nil,aB]);omega) (le (le hu0.size d.size) f.size) fun j k z l n=>Pl 2<|?_
 have o:=aD.blk (ut (aD.mono (S':=(ob A++[])) f aq) n (av il aq)) (bi (cQ a (ax ho d (fun x hx=>(aa (fun e=>(cQ hb ho (by decide)) (e▸hx)) ay)) (fun _ _ h=>h)) (by decide)) ay) a
 refine L0<|bT o 1 #[.pointer (some ⟨b,0,none⟩),.slice j ((L++[c]).length) k] fun B t q=>ng<|Pl 1<|nt<|rt<|rr (.nilIface)<|?_
 have g:=ut (aD.mono (S':=(b :: (ob A++[]))) i (ac im aq)) (u1 (aD.mono (S':=(ob A++(b :: []))) n (av il aq)) q im) (av il (ac im aq))
 exact⟨rfl,⟨_,j,k,t,.inr rfl,(ax l q (fun x hx=>(aa (fun e=>(cQ o l (by decide)) (e▸hx)) ay)) (fun _ _ h=>h))⟩,(aD.blk g (aa hne (bi (cQ hd ho (by decide)) ay)) hd),(ut hu0 g (ac (nr hg0) (av (aT ho lr) aq))),g.size⟩
open Go.RowKit
theorem g8{P:Program}(t e:TypeId)(sz:Nat){i:TypeInfo}(ht:P.underlying t=some (.slice e))(hi:P.info? e=some i)(hsz:i.size=sz)(A:Option Addr)(n c:Nat){lo up:Int}(k h:Nat)(hlo:lo=(k:Int))(hup:up=(h:Int))(hk:k≤h)(hh:h≤n)(hc:n≤c) :
    ∃ A':Option Addr,(∀ (kl kh:IntKind) (W:World),(Instr.slice t (.slice A n c) (some (.int kl lo)) (some (.int kh up)) none).run P W = .ok (.slice A' (h-k) (c-k)) W) ∧
      ∀ {α:Type} (m:Md) (e':TypeId) (R:World→α→List Value→Prop) (w:World) (xs:List α),aK m e' sz R w (.slice A n c) xs→aK m e' sz R w (.slice A' (h-k) (c-k)) ((xs.take h).drop k):=by
  subst hlo hup
  exact uN t e sz ht hi hsz A n c k h hk hh hc
theorem eB{o:Oper}{ev:Operand→Value}{P:Program}{w:World}{t:TypeId}{x y z:Operand}{A:Option Addr}{n c:Nat}{kl kh:IntKind}{lo hi:Int}{v:Value}{e:TypeId}(ho:o.op = .slice t x (some y) (some z) none)(ht:P.underlying t=some (.slice e))(hx:ev x = .slice A n c)(hy:ev y = .int kl lo)(hz:ev z = .int kh hi)
    (hr:(Instr.slice t (.slice A n c) (some (.int kl lo)) (some (.int kh hi)) none).run P w = .ok v w) : (execOp ev o).run P w = .ok (.value v) w:=by
  have hu:(underlying t).run P w = .ok (.slice e) w:=run_underlying ht w
  unfold execOp
  simp only[ho,Option.map_some,Option.map_none,hx,hy,hz,Instr.sliceAt,Sem.run_bind,hu,hr,Result.andThen,Sem.run_pure]
open Go.RowKit
theorem l6{b:List Int}(h:dA b) : dA (dV b):=by
  induction b with
  | nil=>exact h
  | cons c b ih =>
    have hc:=h c (List.mem_cons_self ..)
    have h1:=ig (n:=c/16) (by omega)
    have h2:=ig (n:=c%16) (by omega)
    intro x hx
    rcases List.mem_cons.1 hx with rfl|hx
    · omega
    rcases List.mem_cons.1 hx with rfl|hx
    · omega
    · exact ih (fun y hy=>h y (List.mem_cons_of_mem _ hy)) x hx
theorem pX{m:Md}{A:Option Addr}{cp:Nat}{b:List Int}{w:World}(hsl:b9 m w (.slice A b.length cp) b)(hl:b.length≤1024) :
    Calls Tryz.prog 127 #[.slice A b.length cp] w (cL (.string (strOfNums (dV b))) w):=by
 have hb:=b9.range hsl
 refine en 26 Tryz.func127 rfl<|sg<|Pl 1<|ng<|L0<|bI #[.pointer none,.slice none 0 0] fun d y g l h=>ng<|L0<|Oc<|m1 (@jP y) fun X e=>?_
 refine L0<|bI #[.int .u8 0,.int .u8 0,.int .u8 0,.int .u8 0,.int .u8 0,.int .u8 0,.int .u8 0,.int .u8 0,.int .u8 0,.int .u8 0,.int .u8 0,.int .u8 0,.int .u8 0,.int .u8 0,.int .u8 0,.int .u8 0] fun a Y f z B=>L0<|b6 (hz:=(by kernel_rfl)) (hv:=rfl) (h1:=(by kernel_rfl)) z (jF) fun C D E=>nt<|sq<|sg<|Pl 3<|nt<|bk<|?_
 have o:=aH e (ud B E f)
 have q:=nb (ak l) e.size f
 refine i1 (fun x=>[(2,.string ⟨#[]⟩),(3,.pointer (some ⟨d,0,none⟩)),(4,.pointer (some ⟨a,0,none⟩)),(8,.slice A b.length cp),(9,.int .i64 ((b.length:Nat) : Int)),(10,.int .i64 ((x:Nat) : Int))]) (fun(x:Nat) w'=>aD [] w w'∧C.heap.size≤w'.heap.size∧uv w.heap.size d (dV (b.take x)) w'∧w'.heap[a]? = some (.cells jF 183 (0,0))∧(x≤b.length)) (fun x=>b.length-x) 0 ⟨(aH h o),lr,(by simpa [dV] using uv.new (ub o l)),D,(by(try dsimp only);omega)⟩ ?_
 rintro k r ⟨i,F,G,H,I⟩
 refine iq [(2,.string ⟨#[]⟩),(3,.pointer (some ⟨d,0,none⟩)),(4,.pointer (some ⟨a,0,none⟩)),(8,.slice A b.length cp),(9,.int .i64 ((b.length:Nat) : Int)),(10,.int .i64 ((k:Nat) : Int))] ?_
 have s:uv w.heap.size d (dV (b.take k)) r:=G
 have t:r.heap[a]? = some (.cells jF 183 (0,0)):=H
 have Z:k≤b.length:=I
 refine sg<|Pl 1<|nt<|sq<|cb ((decide (((k:Nat) : Int)<((b.length:Nat) : Int)))) (fun j=>?_) (fun j=>?_)
 have J:=of_decide_eq_true j
 refine bo<|sq<|bk<|sg<|?_
 refine fy (b9.at_ (b9.old hsl i) k (by omega)) fun K L M N a0=>L0<|jb b.length k M (by omega)<|L0<|dU (p:=⟨K,L+k,none⟩) (v:=.int .u8 (b.getD k 0)) N<|Pl 1<|ng<|Pl 1<|L0<|Oe (.int .u8 (Int.fdiv (b.getD k 0) (2 ^ 4))) (.int .u8 ((b.getD k 0)/16)) (congrArg (Value.int .u8) (u9 _ _ _ (by decide)))<|L0<|xw (b:=a) (off:=0) 16 ((((b.getD k 0)/16)).toNat) ((b.getD k 0)/16) (by omega) (by omega)<|?_
 have a1:=ig (n:=((b.getD k 0)/16)) (by omega)
 refine L0<|dU (p:=⟨a,0+(((b.getD k 0)/16)).toNat,none⟩) (v:=.int .u8 (ej (((b.getD k 0)/16)))) (ag t (by rw[Nat.zero_add,mY (by omega)]))<|L0<|Oc<|m4 (kZ (c:=(ej ((b.getD k 0)/16))) i g (Nat.le_trans (le h.size e.size) f) s t (Ne.symm q) (by omega) (by rw[f9,List.length_take];omega)) fun a2 O u P Q=>nt<|go<|Pl 1<|L0<|Oe (.int .u8 (Int.tmod (b.getD k 0) 16)) (.int .u8 ((b.getD k 0)%16)) (congrArg (Value.int .u8) (Int.tmod_eq_emod_of_nonneg (by omega)))<|L0<|xw (b:=a) (off:=0) 16 ((((b.getD k 0)%16)).toNat) ((b.getD k 0)%16) (by omega) (by omega)<|?_
 have a3:=ig (n:=((b.getD k 0)%16)) (by omega)
 exact L0<|dU (p:=⟨a,0+(((b.getD k 0)%16)).toNat,none⟩) (v:=.int .u8 (ej (((b.getD k 0)%16)))) (ag u (by rw[Nat.zero_add,mY (by omega)]))<|L0<|Oc<|m4 (kZ (c:=(ej ((b.getD k 0)%16))) P g (Nat.le_trans (le h.size e.size) f) O u (Ne.symm q) (by omega) (by rw[List.length_append,f9,List.length_take];simp only[List.length_cons,List.length_nil];omega)) fun a4 R S T U=>nl<|bn<|tn<|go<|L0<|Oi (((k:Nat) : Int)+1)<|Pl 1<|nl<|ga (k+1) ⟨T,(le (le F Q) U),(by rw[pl _ _ (by omega)];exact R),S,(by(try dsimp only);omega)⟩ (by omega)
 have J:=of_decide_eq_false j
 refine xt<|tx<|tx<|bx<|tn<|sg<|?_
 have V:k=b.length:=by omega
 have hbl:=s
 rw[V,List.take_length] at hbl
 have hbr:dA (dV b):=l6 hb
 refine L0<|Oc<|m1 (ou i g hbl hbr) fun a5 W=>Pl 1<|nt<|rt<|rr (.string (strOfNums (dV b)))<|?_
 exact⟨rfl,W⟩
theorem ru{m:Md}{v:Value}{b:List Int}{w:World}(h:b9 m w v b)(hl:b.length≤1024) : Calls Tryz.prog 127 #[v] w (cL (.string (strOfNums (dV b))) w):=by
  obtain⟨A,cp,rfl,_,_⟩:=h.shape
  exact pX h hl
def fz (xs:List Int)(w:World)(e:Ending)(w':World) : Prop:=match bU xs with
  | some l=>∃ v,e = .returned (.tuple #[v,.int .i64 0])∧eG w.heap.size w' v l∧aD [] w w'
  | none=>e = .returned (.tuple #[.slice none 0 0,.int .i64 11])∧aD [] w w'
theorem p5{xs l:List Int}{w w':World}{e:Ending}(h:bU xs=some l)(k:∃ v,e = .returned (.tuple #[v,.int .i64 0])∧eG w.heap.size w' v l∧aD [] w w') : fz xs w e w':=by
  unfold fz
  rw[h]
  exact k
theorem j5{xs:List Int}{w w':World}{e:Ending}(h:bU xs=none)(k:e = .returned (.tuple #[.slice none 0 0,.int .i64 11])∧aD [] w w') : fz xs w e w':=by
  unfold fz
  rw[h]
  exact k
theorem kK{xs:List Int}{w:World}(hr:dA xs)(hl:xs.length≤1048576) :
    Calls Tryz.prog 123 #[.string (strOfNums xs)] w (fz xs w):=by
 refine en 42 Tryz.func123 rfl<|sg<|Pl 2<|nt<|sq<|sg<|Pl 1<|L0<|Oe (.int .i64 (((strOfNums xs).size:Nat) : Int)) (.int .i64 ((xs.length:Nat) : Int)) (by rw[strOfNums_size])<|L0<|Oe (.int .i64 (Int.tmod ((xs.length:Nat) : Int) 2)) (.int .i64 (((xs.length:Nat) : Int)%2)) (congrArg (Value.int .i64) (Int.tmod_eq_emod_of_nonneg (by omega)))<|Pl 1<|nl<|?_
 refine tn<|cb (((((xs.length:Nat) : Int)%2)!=0)) (fun f=>?_) (fun f=>?_)
 have A:=au f
 refine sg<|Pl 2<|nt<|rt<|tr<|rr (.tuple #[.slice none 0 0,.int .i64 11])<|?_
 have hs:bU xs=none:=iB (by omega)
 exact j5 hs ⟨rfl,(aD.refl [] _)⟩
 have A:=ai f
 refine bo<|sg<|Pl 1<|nt<|sq<|sg<|Pl 1<|nt<|bk<|?_
 refine i1 (fun x=>[(0,.string (strOfNums xs)),(4,.slice x.2.2.1 x.2.1.length x.2.2.2),(5,.int .i64 ((2*x.1:Nat) : Int))]) (fun(x:Nat × List Int × Option Addr × Nat) w'=>aD [] w w'∧eG w.heap.size w' (.slice x.2.2.1 x.2.1.length x.2.2.2) x.2.1∧(2*x.1≤xs.length)∧(bU xs=(bU (xs.drop (2*x.1))).map fun l=>x.2.1++l)∧(x.2.1.length=x.1)) (fun x=>xs.length-2*x.1) (0,[],none,0) ⟨aD.refl _ _,(be.nil w.heap.size _ _ sF _),(by(try dsimp only);omega),(by(try dsimp only);simp),(by(try dsimp only);rfl)⟩ ?_
 rintro⟨k,L,B,cq⟩ C ⟨g,D,E,F,G⟩
 refine iq [(0,.string (strOfNums xs)),(4,.slice B L.length cq),(5,.int .i64 ((2*k:Nat) : Int))] ?_
 have j:eG w.heap.size C (.slice B L.length cq) L:=D
 have U:2*k≤xs.length:=E
 have V:bU xs=(bU (xs.drop (2*k))).map fun l=>L++l:=F
 have W:L.length=k:=G
 have hL:bU xs=(bU (xs.drop (2*k))).map fun l=>L++l:=by assumption
 refine sq<|sg<|Pl 2<|L0<|Oe (.int .i64 (((strOfNums xs).size:Nat) : Int)) (.int .i64 ((xs.length:Nat) : Int)) (by rw[strOfNums_size])<|Pl 1<|nt<|cb ((decide (((2*k:Nat) : Int)<((xs.length:Nat) : Int)))) (fun n=>?_) (fun n=>?_)
 have H:=of_decide_eq_true n
 refine bo<|sq<|bk<|sq<|Rg 11 (fun w'=>True) fun X p=>bh trivial fun a=>Rt 0 a<|Rt 1 a<|Rr 2 a (.int .u8 (xs.getD (2*k) 0)) (fun _ _=>i2 (xs:=xs) (k:=.i64) (i:=((2*k:Nat) : Int)) (2*k) rfl Tryz.underlying9 (by kernel_rfl) (by kernel_rfl) hr rfl (by omega))<|Rt 4 a<|Rt 5 a<|Rr 6 a (.int .i64 (((2*k:Nat) : Int)+1)) (fun _ _=>cJ (.int .i64 (IntKind.i64.wrap (((2*k:Nat) : Int)+1))) (by kernel_rfl) (congrArg (Value.int .i64) (IntWalk.i64_in _ (by omega))))<|Rr 7 a (.int .u8 (xs.getD ((((2*k:Nat) : Int)+1)).toNat 0)) (fun _ _=>i2 (xs:=xs) (k:=.i64) (i:=(((2*k:Nat) : Int)+1)) ((((2*k:Nat) : Int)+1)).toNat rfl Tryz.underlying9 (by kernel_rfl) (by kernel_rfl) hr (by omega) (by omega))<|?_
 have Y:=i6 (xs.getD (2*k) 0)
 refine R0 3 rfl<|Oc<|m1 (kS (c:=(xs.getD (2*k) 0)) (w:=_) (eN (by omega) hr _)) fun Z r=>bh trivial fun a0=>?_
 have a1:=i6 (xs.getD ((((2*k:Nat) : Int)+1)).toNat 0)
 refine R0 8 rfl<|Oc<|m1 (kS (c:=(xs.getD ((((2*k:Nat) : Int)+1)).toNat 0)) (w:=_) (eN (by omega) hr _)) fun a2 s=>bh trivial fun t=>Rt 9 t<|Rt 10 t<|re<|tn<|sq<|sg<|Pl 3<|cu 3 [29] 32 (((decide ((bN (xs.getD (2*k) 0))<0))||(decide ((bN (xs.getD ((((2*k:Nat) : Int)+1)).toNat 0))<0)))) (fun K u=>?_) ?_
 refine bl 29 ((decide ((bN (xs.getD (2*k) 0))<0))) (fun b=>?_) (fun b=>?_)
 have I:=of_decide_eq_true b
 exact Pl 3<|ce u true (by rw[b];rfl)
 have I:=of_decide_eq_false b
 exact Pl 3<|ce u (decide ((bN (xs.getD ((((2*k:Nat) : Int)+1)).toNat 0))<0)) (by rw[b];rfl)
 refine nt<|?_
 have v:=aH p (aH r s)
 have y:=aH g v
 refine cb (((decide ((bN (xs.getD (2*k) 0))<0))||(decide ((bN (xs.getD ((((2*k:Nat) : Int)+1)).toNat 0))<0)))) (fun d=>?_) (fun d=>?_)
 refine sg<|Pl 2<|nt<|rt<|tr<|br<|tr<|tr<|br<|tr<|rr (.tuple #[.slice none 0 0,.int .i64 11])<|?_
 have hs:bU xs=none:=mt (k:=k) hL (by omega) (by have q:=d;simp only[Bool.or_eq_true,decide_eq_true_eq] at q;rw[show 2*k+1=(((2*k:Nat) : Int)+1).toNat from by omega];exact q)
 exact j5 hs ⟨rfl,y⟩
 have J:=(aJ d).1
 have M:=(aJ d).2
 have a3:=of_decide_eq_false J
 have a4:=of_decide_eq_false M
 refine bo<|go<|Pl 2<|L0<|Oi (16*(bN (xs.getD (2*k) 0)))<|Pl 1<|L0<|Oi ((16*(bN (xs.getD (2*k) 0)))+(bN (xs.getD ((((2*k:Nat) : Int)+1)).toNat 0)))<|Pl 1<|L0<|dx (m:=1) (e:=5) #[.int .u8 (((16*(bN (xs.getD (2*k) 0)))+(bN (xs.getD ((((2*k:Nat) : Int)+1)).toNat 0)))%256)] fun a5 a6 N O o=>?_
 have P:=dF N (xs:=[(((16*(bN (xs.getD (2*k) 0)))+(bN (xs.getD ((((2*k:Nat) : Int)+1)).toNat 0)))%256)]) (by as_aux_lemma=>kernel_rfl) (az (by omega) aX) (by(try simp only[List.length_cons,List.length_nil]);omega) O
 refine L0<|cK bt (xs:=L) (ys:=([(((16*(bN (xs.getD (2*k) 0)))+(bN (xs.getD ((((2*k:Nat) : Int)+1)).toNat 0)))%256)])) (.int .u8 0) 1 (ax j (aH v o) (fun x hx=>ay) (fun _ _ h=>h)) (P).rd (by(try simp only[List.length_append,List.length_cons,List.length_nil,aB]);omega) (le (le (le (le g.size p.size) r.size) s.size) o.size) fun Q R a7 S T=>Pl 1<|nl<|bn<|tn<|go<|Pl 1<|L0<|Oi (((2*k:Nat) : Int)+2)<|Pl 1<|nl<|?_
 have z:=jy (k:=k) hL (by omega) (by omega) (by rw[show 2*k+1=(((2*k:Nat) : Int)+1).toNat from by omega];omega)
 rw[show 2*k+1=(((2*k:Nat) : Int)+1).toNat from by omega] at z
 exact ga ((k+1),(L++[(((16*(bN (xs.getD (2*k) 0)))+(bN (xs.getD ((((2*k:Nat) : Int)+1)).toNat 0)))%256)]),Q,R) ⟨(ut y (ut (aD.mono (S':=(ob B++[])) o aq) T (av il aq)) (av (aT j lr) aq)),S,(by(try dsimp only);omega),z,(by(try dsimp only);simp only[List.length_append,List.length_cons,List.length_nil];omega)⟩ (by omega)
 have H:=of_decide_eq_false n
 refine xt<|tx<|tx<|bx<|tn<|sg<|Pl 3<|nt<|rt<|rr (.tuple #[.slice B L.length cq,.int .i64 0])<|?_
 have hs:bU xs=some L:=lu hL (by omega)
 exact p5 hs ⟨_,rfl,j,g⟩
open Go.RowKit
def fD (xs:List Int) : Bool:=decide (2≤((xs.length:Nat) : Int))&&decide (xs.drop (((xs.length:Nat) : Int)-2).toNat=[13,10])
def gk (b:List Int) : Option (List Int):=if b.getD 0 0=58∧fD (b.drop 1)=true then some ((b.drop 1).take (b.length-3)) else none
theorem nc{xs:List Int}(h:fD xs=true) : 2≤xs.length:=by
  unfold fD at h
  simp only[Bool.and_eq_true,decide_eq_true_eq] at h
  omega
theorem lx{b s:List Int}(h:gk b=some s) : b.getD 0 0=58∧fD (b.drop 1)=true∧s=(b.drop 1).take (b.length-3)∧3≤b.length:=by
  unfold gk at h
  split at h
  · rename_i hc
    injection h with h
    have:=nc hc.2
    rw[List.length_drop] at this
    exact⟨hc.1,hc.2,h.symm,by omega⟩
  · cases h
theorem rW{b s:List Int}(h:gk b=some s) : s.length=b.length-3:=by
  obtain⟨_,_,rfl,h3⟩:=lx h
  rw[List.length_take,List.length_drop]
  omega
def lP (xs:List Int)(w:World)(e:Ending)(w':World) : Prop:=match gk xs with
  | some l=>e = .returned (.tuple #[.string (strOfNums l),.bool true])∧aD [] w w'
  | none=>∃ s,e = .returned (.tuple #[.string s,.bool false])∧aD [] w w'
theorem jG{xs:List Int}{w:World}(hr:dA xs)(hl:xs.length≤1048576) : Calls Tryz.prog 260 #[.string (strOfNums xs),.string ⟨#[13,10]⟩] w (cL (.bool (fD xs)) w):=by
 refine en 21 Tryz.func260 rfl<|sg<|Pl 1<|ng<|Pl 1<|L0<|Oe (.int .i64 (((strOfNums xs).size:Nat) : Int)) (.int .i64 ((xs.length:Nat) : Int)) (by rw[strOfNums_size])<|Pl 4<|bl 10 ((decide (2≤((xs.length:Nat) : Int)))) (fun c=>?_) (fun c=>?_)
 have d:=of_decide_eq_true c
 refine Pl 2<|L1<|Oe (.int .i64 (((strOfNums xs).size:Nat) : Int)) (.int .i64 ((xs.length:Nat) : Int)) (by rw[strOfNums_size])<|Pl 2<|L1<|Oi (((xs.length:Nat) : Int)-2)<|?_
 have e:dA (xs.drop ((((xs.length:Nat) : Int)-2)).toNat):=iu hr ((((xs.length:Nat) : Int)-2)).toNat
 refine L1<|hZ (.string (strOfNums (xs.drop ((((xs.length:Nat) : Int)-2)).toNat))) (kJ (xs:=xs) (k:=.i64) (i:=(((xs.length:Nat) : Int)-2)) ((((xs.length:Nat) : Int)-2)).toNat rfl Tryz.underlying9 (by kernel_rfl) (by kernel_rfl) (by omega) (by omega))<|Pl 1<|L1<|hZ (.bool (decide ((xs.drop ((((xs.length:Nat) : Int)-2)).toNat)=[13,10]))) (ij (a:=(strOfNums (xs.drop ((((xs.length:Nat) : Int)-2)).toNat))) (b:=⟨#[13,10]⟩) rfl (by kernel_rfl) (by kernel_rfl) (ti (ys:=[13,10]) e (by decide)))<|Pl 2<|nt<|rt<|rr (.bool (decide ((xs.drop ((((xs.length:Nat) : Int)-2)).toNat)=[13,10])))<|?_
 have hs:fD xs=(decide ((xs.drop ((((xs.length:Nat) : Int)-2)).toNat)=[13,10])):=by unfold fD;(try simp only[c,bs,if_true,if_false,decide_true,decide_false]);all_goals rfl
 rw[hs]
 exact⟨rfl,(aD.refl [] _)⟩
 have d:=of_decide_eq_false c
 refine Pl 11<|nt<|rt<|rr (.bool false)<|?_
 have hs:fD xs=false:=by unfold fD;(try simp only[c,bs,if_true,if_false,decide_true,decide_false]);all_goals rfl
 rw[hs]
 exact⟨rfl,(aD.refl [] _)⟩
theorem pH{xs:List Int}{w:World}(hr:dA xs)(hl:xs.length≤1048576)(hq:fD xs=true) : Calls Tryz.prog 229 #[.string (strOfNums xs),.string ⟨#[13,10]⟩] w (cL (.tuple #[.string (strOfNums (xs.take (((xs.length:Nat) : Int)-2).toNat)),.bool true]) w):=by
 have hq2:=nc hq
 refine en 18 Tryz.func229 rfl<|sg<|Pl 2<|nt<|sq<|sg<|Pl 2<|L0<|Oc<|m1 (jG (xs:=xs) (w:=_) hr (by omega)) fun c a=>Pl 1<|nt<|?_
 have b:(!(fD xs))=false:=by simp only[hq,Bool.not_true,Bool.not_false]
 refine cf b<|bo<|sg<|Pl 2<|L0<|Oe (.int .i64 (((strOfNums xs).size:Nat) : Int)) (.int .i64 ((xs.length:Nat) : Int)) (by rw[strOfNums_size])<|Pl 2<|L0<|Oi (((xs.length:Nat) : Int)-2)<|?_
 have d:dA (xs.take ((((xs.length:Nat) : Int)-2)).toNat):=lh hr ((((xs.length:Nat) : Int)-2)).toNat
 refine L0<|hZ (.string (strOfNums (xs.take ((((xs.length:Nat) : Int)-2)).toNat))) (pn (xs:=xs) (k:=.i64) (i:=(((xs.length:Nat) : Int)-2)) ((((xs.length:Nat) : Int)-2)).toNat rfl Tryz.underlying9 (by kernel_rfl) (by kernel_rfl) (by omega) (by omega))<|Pl 2<|nt<|rt<|rr (.tuple #[.string (strOfNums (xs.take ((((xs.length:Nat) : Int)-2)).toNat)),.bool true])<|?_
 exact⟨rfl,a⟩
theorem qZ{xs:List Int}{w:World}(hr:dA xs)(hl:xs.length≤1048576)(hq:fD xs=true) : Calls Tryz.prog 183 #[.string (strOfNums xs),.string ⟨#[13,10]⟩] w (cL (.tuple #[.string (strOfNums (xs.take (((xs.length:Nat) : Int)-2).toNat)),.bool true]) w):=by
 refine en 11 Tryz.func183 rfl<|sg<|Pl 2<|ng<|Pl 2<|L0<|Oc<|m1 (pH (xs:=xs) (w:=_) hr hl hq) fun b a=>Pl 4<|nt<|rt<|?_
 refine rr (.tuple #[.string (strOfNums (xs.take (((xs.length:Nat) : Int)-2).toNat)),.bool true])<|?_
 exact⟨rfl,a⟩
theorem qJ{xs:List Int}{w:World}(hr:dA xs)(hl:xs.length≤1048576)(hq:fD xs=false) : Calls Tryz.prog 229 #[.string (strOfNums xs),.string ⟨#[13,10]⟩] w (cL (.tuple #[.string (strOfNums xs),.bool false]) w):=by
 refine en 18 Tryz.func229 rfl<|sg<|Pl 2<|nt<|sq<|sg<|Pl 2<|L0<|Oc<|m1 (jG (xs:=xs) (w:=_) hr (by omega)) fun c a=>Pl 1<|nt<|?_
 have b:(!(fD xs))=true:=by simp only[hq,Bool.not_true,Bool.not_false]
 refine ct b<|sg<|Pl 3<|nt<|rt<|tr<|rr (.tuple #[.string (strOfNums xs),.bool false])<|?_
 exact⟨rfl,a⟩
theorem sM{xs:List Int}{w:World}(hr:dA xs)(hl:xs.length≤1048576)(hq:fD xs=false) : Calls Tryz.prog 183 #[.string (strOfNums xs),.string ⟨#[13,10]⟩] w (cL (.tuple #[.string (strOfNums xs),.bool false]) w):=by
 refine en 11 Tryz.func183 rfl<|sg<|Pl 2<|ng<|Pl 2<|L0<|Oc<|m1 (qJ (xs:=xs) (w:=_) hr hl hq) fun b a=>Pl 4<|nt<|rt<|?_
 refine rr (.tuple #[.string (strOfNums xs),.bool false])<|?_
 exact⟨rfl,a⟩
theorem vc{b:List Int}(h:b.getD 0 0=58)(k:fD (b.drop 1)=true) : gk b=some ((b.drop 1).take (b.length-3)):=if_pos ⟨h,k⟩
theorem tQ{b:List Int}(h:¬ b.getD 0 0=58) : gk b=none:=if_neg fun k=>h k.1
theorem tR{b:List Int}(k:fD (b.drop 1)=false) : gk b=none:=if_neg fun h=>by rw[k] at h;cases h.2
theorem v4{b l:List Int}{w w':World}{e:Ending}(h:gk b=some l)(k:e = .returned (.tuple #[.string (strOfNums l),.bool true])∧aD [] w w') : lP b w e w':=by
  unfold lP
  rw[h]
  exact k
theorem rf{b:List Int}{w w':World}{e:Ending}(h:gk b=none)(k:∃ s,e = .returned (.tuple #[.string s,.bool false])∧aD [] w w') : lP b w e w':=by
  unfold lP
  rw[h]
  exact k
theorem js{b:List Int}{w:World}(hr:dA b)(hl:b.length≤1048576)(h0:0<b.length) : Calls Tryz.prog 122 #[.string (strOfNums b)] w (lP b w):=by
 refine en 18 Tryz.func122 rfl<|sg<|Pl 2<|nt<|sq<|sg<|Pl 1<|L0<|wO (sv:=strOfNums b) Tryz.underlying9 fun f m n o p=>nt<|bk<|?_
 refine i1 (fun x=>[(0,.string (strOfNums b)),(7,.pointer (some ⟨f,0,none⟩))]) (fun(x:Unit) w'=>aD [] m w'∧(0≤0)) (fun x=>0) () ⟨aD.refl _ _,(by(try dsimp only);omega)⟩ ?_
 rintro z v ⟨g,q⟩
 refine iq [(0,.string (strOfNums b)),(7,.pointer (some ⟨f,0,none⟩))] ?_
 have y:0≤0:=q
 refine sg<|?_
 refine L0<|xL hr (by omega) (ub g o) fun r A h s=>Pl 1<|nt<|sq<|c1<|bo<|bk<|sg<|Pl 2<|nt<|?_
 refine sq<|sg<|Pl 2<|nt<|?_
 have a:=ud p (uz g s) n
 refine cb ((r != 58)) (fun c=>?_) (fun c=>?_)
 have d:=au c
 refine sg<|Pl 2<|nt<|rt<|tr<|br<|tr<|br<|tr<|rr (.tuple #[.string ⟨#[]⟩,.bool false])<|?_
 exact rf (tQ fun e=>d (h.2 e)) ⟨_,rfl,a⟩
 have d:=ai c
 refine bo<|xt<|xE<|tx<|bx<|tn<|sg<|Pl 1<|?_
 have j:dA (b.drop 1):=iu hr 1
 refine L0<|hZ (.string (strOfNums (b.drop 1))) (kJ (xs:=b) (k:=.i64) (i:=1) 1 rfl Tryz.underlying9 (by kernel_rfl) (by kernel_rfl) rfl (by omega))<|?_
 rcases dC (fD (b.drop 1)) with hq|hq
 refine L0<|Oc<|m1 (qZ (xs:=(b.drop 1)) (w:=_) j (by rw[List.length_drop];omega) hq) fun B t=>Pl 4<|nt<|rt<|rr (.tuple #[.string (strOfNums ((b.drop 1).take ((((b.drop 1).length:Nat) : Int)-2).toNat)),.bool true])<|?_
 exact v4 (l:=(b.drop 1).take (b.length-3)) (vc (h.1 d) hq) ⟨by rw[show b.length-3=((((b.drop 1).length:Nat) : Int)-2).toNat from by rw[List.length_drop];omega],(aH a t)⟩
 refine L0<|Oc<|m1 (sM (xs:=(b.drop 1)) (w:=_) j (by rw[List.length_drop];omega) hq) fun C u=>Pl 4<|nt<|rt<|rr (.tuple #[.string (strOfNums (b.drop 1)),.bool false])<|?_
 exact rf (tR hq) ⟨_,rfl,(aH a u)⟩
open Go.RowKit
theorem pY{b s:List Int}(hr:dA b)(h:gk b=some s) : dA s:=by
  obtain⟨_,_,rfl,_⟩:=lx h
  exact lh (iu hr 1) _
theorem tc{b l:List Int}{w:World}(h:gk b=some l)(e:Ending)(w':World)(k:lP b w e w') : e = .returned (.tuple #[.string (strOfNums l),.bool true])∧aD [] w w':=by
  unfold lP at k
  rw[h] at k
  exact k
theorem tU{b:List Int}{w:World}(h:gk b=none)(e:Ending)(w':World)(k:lP b w e w') : ∃ s,e = .returned (.tuple #[.string s,.bool false])∧aD [] w w':=by
  unfold lP at k
  rw[h] at k
  exact k
theorem nC{b l:List Int}{w:World}(h:bU b=some l)(e:Ending)(w':World)(k:fz b w e w') : ∃ v,e = .returned (.tuple #[v,.int .i64 0])∧eG w.heap.size w' v l∧aD [] w w':=by
  unfold fz at k
  rw[h] at k
  exact k
theorem nh{b:List Int}{w:World}(h:bU b=none)(e:Ending)(w':World)(k:fz b w e w') : e = .returned (.tuple #[.slice none 0 0,.int .i64 11])∧aD [] w w':=by
  unfold fz at k
  rw[h] at k
  exact k
def i5 (x:List Int) : List Int:=(x.take (x.length-1)).drop 1
theorem gW(x:List Int) : i5 x=(x.take (((x.length:Nat) : Int)-1).toNat).drop 1:=by
  unfold i5
  rw[show(((x.length:Nat) : Int)-1).toNat=x.length-1 from by omega]
def eA (dir:Int)(b:List Int) : fE × Int :=
  if dir != 0&&dir != 1 then (fE.zero,1)
  else if decide ((b.length:Int)<9) then (fE.zero,2)
  else if decide (513<(b.length:Int)) then (fE.zero,3)
  else match gk b with
    | none=>(fE.zero,12)
    | some s=>match bU s with
      | none=>(fE.zero,11)
      | some x=>if !(ei x) then (fE.zero,10) else ea (x.getD 0 0) 0 (dM dir (i5 x))
theorem nO{m:Md}{A:Option Addr}{cp:Nat}{b:List Int}{w:World}{dir:Int}(hsl0:b9 m w (.slice A b.length cp) b)(hb:b.length≤1048576) :
    Calls Tryz.prog 60 #[.int .i64 dir,.slice A b.length cp] w (oq (eA dir b) w):=by
 have hln:(b.length:Int)≤1048576:=by omega
 have hr:dA b:=b9.range hsl0
 refine en 71 Tryz.func60 rfl<|sg<|L0<|bI #[.int .u8 0,.int .u16 0,.int .u8 0,.int .u8 0,.int .u16 0,.int .u16 0,.int .u16 0,.int .u16 0,.int .u16 0,.int .u16 0,.int .u16 0,.int .u16 0,.int .u16 0,.int .u16 0,.slice none 0 0,.slice none 0 0,.slice none 0 0,.slice none 0 0,.int .u8 0,.int .u8 0,.int .u8 0,.int .u8 0,.int .u8 0,.slice none 0 0] fun bw X k d o=>Pl 1<|nt<|sq<|bk<|sg<|Pl 3<|cu 3 [14] 17 (((dir != 0)&&(dir != 1))) (fun K Y=>?_) ?_
 refine bl 14 ((dir != 0)) (fun F=>?_) (fun F=>?_)
 have al:=au F
 exact Pl 3<|ce Y (dir != 1) (by rw[F];rfl)
 have al:=ai F
 exact Pl 3<|ce Y false (by rw[F];rfl)
 refine Pl 1<|nt<|cb (((dir != 0)&&(dir != 1))) (fun f=>?_) (fun f=>?_)
 have Z:=(aS f).1
 have a0:=(aS f).2
 have bx:=au Z
 have bz:=au a0
 refine sg<|Pl 1<|L0<|b6 d #[.int .u8 0,.int .u16 0,.int .u8 0,.int .u8 0,.int .u16 0,.int .u16 0,.int .u16 0,.int .u16 0,.int .u16 0,.int .u16 0,.int .u16 0,.int .u16 0,.int .u16 0,.int .u16 0,.slice none 0 0,.slice none 0 0,.slice none 0 0,.slice none 0 0,.int .u8 0,.int .u8 0,.int .u8 0,.int .u8 0,.int .u8 0,.slice none 0 0] fun bA an ao=>Pl 1<|nt<|rt<|br<|tr<|bF an (.int .i64 1)<|?_
 have hs:eA dir b=(fE.zero,1):=by
   unfold eA
   (try simp only[f,Z,a0,bs,if_true,if_false,decide_true,decide_false,ea,reduceIte])
   all_goals rfl
 refine er hs ?_
 exact dn (ud o ao k)
 refine sg<|Pl 4<|nt<|cb ((decide (((b.length:Nat) : Int)<9))) (fun i=>?_) (fun i=>?_)
 have ap:=of_decide_eq_true i
 refine sg<|Pl 1<|L0<|b6 d #[.int .u8 0,.int .u16 0,.int .u8 0,.int .u8 0,.int .u16 0,.int .u16 0,.int .u16 0,.int .u16 0,.int .u16 0,.int .u16 0,.int .u16 0,.int .u16 0,.int .u16 0,.int .u16 0,.slice none 0 0,.slice none 0 0,.slice none 0 0,.slice none 0 0,.int .u8 0,.int .u8 0,.int .u8 0,.int .u8 0,.int .u8 0,.slice none 0 0] fun bB aq ar=>Pl 1<|nt<|rt<|br<|tr<|bF aq (.int .i64 2)<|?_
 have hs:eA dir b=(fE.zero,2):=by
   unfold eA
   (try simp only[f,i,bs,if_true,if_false,decide_true,decide_false,ea,reduceIte])
   all_goals rfl
 refine er hs ?_
 exact dn (ud o ar k)
 have ap:=of_decide_eq_false i
 refine sg<|Pl 4<|nt<|cb ((decide (513<((b.length:Nat) : Int)))) (fun j=>?_) (fun j=>?_)
 have av:=of_decide_eq_true j
 refine sg<|Pl 1<|L0<|b6 d #[.int .u8 0,.int .u16 0,.int .u8 0,.int .u8 0,.int .u16 0,.int .u16 0,.int .u16 0,.int .u16 0,.int .u16 0,.int .u16 0,.int .u16 0,.int .u16 0,.int .u16 0,.int .u16 0,.slice none 0 0,.slice none 0 0,.slice none 0 0,.slice none 0 0,.int .u8 0,.int .u8 0,.int .u8 0,.int .u8 0,.int .u8 0,.slice none 0 0] fun bC aw az=>Pl 1<|nt<|rt<|br<|tr<|bF aw (.int .i64 3)<|?_
 have hs:eA dir b=(fE.zero,3):=by
   unfold eA
   (try simp only[f,i,j,bs,if_true,if_false,decide_true,decide_false,ea,reduceIte])
   all_goals rfl
 refine er hs ?_
 exact dn (ud o az k)
 have av:=of_decide_eq_false j
 refine sk<|bn<|tn<|sg<|Pl 1<|?_
 have Q:=b9.old hsl0 o
 refine L0<|hZ (.string (strOfNums b)) (dQ (A:=A) (n:=b.length) (c:=cp) rfl (by kernel_rfl) Tryz.underlying22 Tryz.underlying5 Tryz.underlying9 Q)<|?_
 rcases hds:gk b with _|sd
 have aB:=js (w:=X) (b9.range Q) hb (by omega)
 have aD:=aB.mono (tU hds)
 refine L0<|Oc (args:=#[.string (strOfNums b)])<|e1 aD fun bD bE a1=>Pl 5<|nt<|sq<|sg<|Pl 2<|nt<|c1<|sg<|Pl 1<|?_
 refine L0<|b6 (ub a1 d) #[.int .u8 0,.int .u16 0,.int .u8 0,.int .u8 0,.int .u16 0,.int .u16 0,.int .u16 0,.int .u16 0,.int .u16 0,.int .u16 0,.int .u16 0,.int .u16 0,.int .u16 0,.int .u16 0,.slice none 0 0,.slice none 0 0,.slice none 0 0,.slice none 0 0,.int .u8 0,.int .u8 0,.int .u8 0,.int .u8 0,.int .u8 0,.slice none 0 0] fun bG aE aF=>Pl 1<|nt<|rt<|tr<|bF aE (.int .i64 12)<|?_
 have hs:eA dir b=(fE.zero,12):=by
   unfold eA
   (try simp only[f,i,j,bs,if_true,if_false,decide_true,decide_false,ea,hds,reduceIte])
   all_goals rfl
 refine er hs ?_
 exact dn (ud o (uz a1 aF) k)
 have hsl:=rW hds
 have hsd:dA sd:=pY hr hds
 have aI:=js (w:=X) (b9.range Q) hb (by omega)
 have aJ:=aI.mono (tc hds)
 refine L0<|Oc (args:=#[.string (strOfNums b)])<|m1 aJ fun a2 l=>Pl 5<|nt<|sq<|sg<|Pl 2<|nt<|c0<|bo<|sq<|?_
 refine go<|Pl 1<|?_
 have a3:=aH o l
 rcases hth:bU sd with _|x
 have aK:=(kK (w:=a2) hsd (by omega)).mono (nh hth)
 refine L0<|Oc<|m1 aK fun bH a4=>Pl 5<|nt<|sq<|sg<|Pl 2<|nt<|c1<|sg<|Pl 2<|?_
 refine L0<|b6 (ub (aH l a4) d) #[.int .u8 0,.int .u16 0,.int .u8 0,.int .u8 0,.int .u16 0,.int .u16 0,.int .u16 0,.int .u16 0,.int .u16 0,.int .u16 0,.int .u16 0,.int .u16 0,.int .u16 0,.int .u16 0,.slice none 0 0,.slice none 0 0,.slice none 0 0,.slice none 0 0,.int .u8 0,.int .u8 0,.int .u8 0,.int .u8 0,.int .u8 0,.slice none 0 0] fun bJ aL aM=>Pl 1<|nt<|rt<|tr<|bF aL (.int .i64 11)<|?_
 have hs:eA dir b=(fE.zero,11):=by
   unfold eA
   (try simp only[f,i,j,bs,if_true,if_false,decide_true,decide_false,ea,hds,hth,reduceIte])
   all_goals rfl
 refine er hs ?_
 exact dn (ud a3 (uz a4 aM) k)
 have hxl:=kN hth
 have aN:=(kK (w:=a2) hsd (by omega)).mono (nC hth)
 refine L0<|Oc<|ep aN fun R J bK S bL bM a5=>Pl 5<|nt<|sq<|sg<|Pl 2<|nt<|c0<|bo<|sq<|?_
 refine sg<|Pl 1<|L0<|Oc (args:=#[.slice R x.length J])<|m1 (qq (S).rd) fun aO T=>Pl 1<|nt<|?_
 have G:=aH a5 T
 have a6:=aH a3 G
 refine cb ((!(ei x))) (fun p=>?_) (fun p=>?_)
 have L:(ei x)=false:=by simpa using p
 refine sg<|Pl 1<|?_
 refine L0<|b6 (ub (aH l G) d) #[.int .u8 0,.int .u16 0,.int .u8 0,.int .u8 0,.int .u16 0,.int .u16 0,.int .u16 0,.int .u16 0,.int .u16 0,.int .u16 0,.int .u16 0,.int .u16 0,.int .u16 0,.int .u16 0,.slice none 0 0,.slice none 0 0,.slice none 0 0,.slice none 0 0,.int .u8 0,.int .u8 0,.int .u8 0,.int .u8 0,.int .u8 0,.slice none 0 0] fun bN aP aR=>Pl 1<|nt<|rt<|tr<|bF aP (.int .i64 10)<|?_
 have hs:eA dir b=(fE.zero,10):=by
   unfold eA
   (try simp only[f,i,j,p,L,bs,if_true,if_false,decide_true,decide_false,ea,hds,hth,reduceIte])
   all_goals rfl
 refine er hs ?_
 exact dn (ud a6 aR k)
 have L:(ei x)=true:=by simpa using p
 refine bo<|sg<|Pl 4<|L0<|Oi (((x.length:Nat) : Int)-1)<|mM (g8 (P:=Tryz.prog) 22 5 1 Tryz.underlying22 rfl rfl R x.length J (lo:=1) (up:=(((x.length:Nat) : Int)-1)) 1 (((((x.length:Nat) : Int)-1)).toNat) (by omega) (by omega) (by omega) (by omega) (by omega)) fun aT hrun79 aV=>L0<|hZ (.slice aT ((((((x.length:Nat) : Int)-1)).toNat)-1) (J-1)) (eB (kl:=.i64) (kh:=.i64) (lo:=1) (hi:=(((x.length:Nat) : Int)-1)) (A:=R) (n:=x.length) (c:=J) rfl Tryz.underlying22 (by kernel_rfl) (by kernel_rfl) (by kernel_rfl) (hrun79 _ _ _))<|?_
 obtain⟨a,H,U⟩ : ∃ M E,dM dir ((x.take (((((x.length:Nat) : Int)-1)).toNat)).drop 1)=(M,E):=⟨_,_,rfl⟩
 have a7:=ax S T (fun x hx=>ay) (fun _ _ h=>h)
 have a8:=qj (dir:=dir) (w:=aO) (aV _ _ _ _ _ (a7).rd) (by rw[List.length_drop,List.length_take];omega)
 rw[U] at a8
 refine L0<|Oc<|e2 a8 fun aX bO a9 V=>?_
 have aY:=a9
 obtain⟨aZ,b0,b1,b2,b3,b4,b5,b7,ba,bb,bc,bP⟩:=aY
 obtain rfl:aX=(bQ a aZ b0 b1 b2 b3).toArray:=by apply Array.toList_inj.1;simpa using b4
 obtain⟨q,r,rfl,_,_⟩:=b5.shape
 obtain⟨s,t,rfl,_,_⟩:=b7.shape
 obtain⟨u,v,rfl,_,_⟩:=ba.shape
 obtain⟨y,z,rfl,_,_⟩:=bb.shape
 obtain⟨B,C,rfl,_,_⟩:=bc.shape
 refine Pl 3<|L0<|bI mZ fun ab bR ac bd be=>L0<|b6 bd (mG a.code a.fail a.addr a.count a.value a.and_ a.or_ a.addr2 a.sub a.status a.events a.messages (.slice q a.words.length r) (.slice s a.bits.length t) (.slice u a.data.length v) (.slice y a.recs.length z) a.mei a.kind a.level a.more a.next (.slice B a.objects.length C)) fun bS bf bg=>Pl 1<|nt<|sq<|sg<|Pl 2<|nt<|?_
 have ad:=ud be bg ac
 have N:=aH V ad
 have ae:=aH a6 N
 refine cb ((H != 0)) (fun I=>?_) (fun I=>?_)
 have bi:=au I
 refine sg<|Pl 2<|?_
 refine L0<|b6 (ub (aH l (aH G N)) d) #[.int .u8 0,.int .u16 0,.int .u8 0,.int .u8 0,.int .u16 0,.int .u16 0,.int .u16 0,.int .u16 0,.int .u16 0,.int .u16 0,.int .u16 0,.int .u16 0,.int .u16 0,.int .u16 0,.slice none 0 0,.slice none 0 0,.slice none 0 0,.slice none 0 0,.int .u8 0,.int .u8 0,.int .u8 0,.int .u8 0,.int .u8 0,.slice none 0 0] fun bT bj bm=>Pl 1<|nt<|rt<|tr<|bF bj (.int .i64 H)<|?_
 have hX2:dM dir (i5 x)=(a,H):=(congrArg (dM dir) (gW x)).trans U
 have hs:eA dir b=(fE.zero,H):=by
   unfold eA
   (try simp only[f,i,j,p,L,I,bs,if_true,if_false,decide_true,decide_false,ea,hds,hth,hX2,reduceIte])
   all_goals rfl
 refine er hs ?_
 exact dn (ud ae bm k)
 have bi:=ai I
 refine bo<|sq<|?_
 have af:=ax a7 N (fun x hx=>ay) (fun _ _ h=>h)
 refine fy (b9.at_ (af).rd 0 (by omega)) fun bp bq ag bt bV=>Rg 8 (fun w'=>w'.cell? ⟨bp,bq+0,none⟩=some (.int .u8 (x.getD 0 0))∧w'.heap[ab]? = some (.cells (mG a.code a.fail a.addr a.count a.value a.and_ a.or_ a.addr2 a.sub a.status a.events a.messages (.slice q a.words.length r) (.slice s a.bits.length t) (.slice u a.data.length v) (.slice y a.recs.length z) a.mei a.kind a.level a.more a.next (.slice B a.objects.length C)) 30 (0,0))) fun bW O=>?_
 have ah:=ub O bf
 refine bh ⟨(uc O bt),ah⟩ fun D=>Rt 0 D<|nU 1 D x.length 0 0 rfl ag (by omega)<|Rl 2 D (fun _ hs=>hs.1)<|Rt 3 D<|Rr 4 D (.agg (mG a.code a.fail a.addr a.count a.value a.and_ a.or_ a.addr2 a.sub a.status a.events a.messages (.slice q a.words.length r) (.slice s a.bits.length t) (.slice u a.data.length v) (.slice y a.recs.length z) a.mei a.kind a.level a.more a.next (.slice B a.objects.length C))) (fun w' hs=>jS (g:=ab) (off:=0) [.int .u8 a.code,.int .u8 a.fail,.int .u16 a.addr,.int .u16 a.count,.int .u16 a.value,.int .u16 a.and_,.int .u16 a.or_,.int .u16 a.addr2,.int .u16 a.sub,.int .u16 a.status,.int .u16 a.events,.int .u16 a.messages,.slice q a.words.length r,.slice s a.bits.length t,.slice u a.data.length v,.slice y a.recs.length z,.int .u8 a.mei,.int .u8 a.kind,.int .u8 a.level,.int .u8 a.more,.int .u8 a.next,.slice B a.objects.length C] rfl (by kernel_rfl) hs.2 (by kernel_rfl) (by kernel_rfl) rfl)<|Rt 5 D<|?_
 refine R0 6 rfl<|b6 (ub (aH l (aH G (aH N O))) d) #[.int .u8 (x.getD 0 0),.int .u16 0,.int .u8 a.code,.int .u8 a.fail,.int .u16 a.addr,.int .u16 a.count,.int .u16 a.value,.int .u16 a.and_,.int .u16 a.or_,.int .u16 a.addr2,.int .u16 a.sub,.int .u16 a.status,.int .u16 a.events,.int .u16 a.messages,.slice q a.words.length r,.slice s a.bits.length t,.slice u a.data.length v,.slice y a.recs.length z,.int .u8 a.mei,.int .u8 a.kind,.int .u8 a.level,.int .u8 a.more,.int .u8 a.next,.slice B a.objects.length C] fun bX bu aj=>?_
 have W:=uz O aj
 refine bh ⟨(cB ((ax af W (fun x hx=>(aa (fun e=>(aA (ak d) l.size S) (e▸hx)) ay)) (fun _ _ h=>h))).rd ag 0 (by omega)),(aU aj (Ne.symm (nb (ak d) (le (le (le l.size a5.size) T.size) V.size) ac)) ah)⟩ fun bv=>Rt 7 bv<|re<|tn<|rt<|bF bu (.int .i64 0)<|?_
 have hX2:dM dir (i5 x)=(a,H):=(congrArg (dM dir) (gW x)).trans U
 have hs:eA dir b=(⟨(x.getD 0 0),0,a⟩,0):=by
   unfold eA
   (try simp only[f,i,j,p,L,I,bs,if_true,if_false,decide_true,decide_false,ea,hds,hth,hX2,reduceIte])
   all_goals rfl
 refine er hs ?_
 exact⟨_,rfl,⟨#[.int .u8 a.code,.int .u8 a.fail,.int .u16 a.addr,.int .u16 a.count,.int .u16 a.value,.int .u16 a.and_,.int .u16 a.or_,.int .u16 a.addr2,.int .u16 a.sub,.int .u16 a.status,.int .u16 a.events,.int .u16 a.messages,.slice q a.words.length r,.slice s a.bits.length t,.slice u a.data.length v,.slice y a.recs.length z,.int .u8 a.mei,.int .u8 a.kind,.int .u8 a.level,.int .u8 a.more,.int .u8 a.next,.slice B a.objects.length C],(by as_aux_lemma=>kernel_rfl),(aW.upd a9 (uz ad W) (am (aQ (ub (aH l (aH G V)) d) (by decide)) aG)),b8 (x:=(x.getD 0 0)) (by omega),aC (x:=0) (by omega)⟩,(ud ae W k)⟩
theorem qP{m:Md}{v:Value}{b:List Int}{w:World}{dir:Int}(h:b9 m w v b)(hb:b.length≤1048576) : Calls Tryz.prog 60 #[.int .i64 dir,v] w (oq (eA dir b) w):=by
  obtain⟨A,cp,rfl,_,_⟩:=h.shape
  exact nO h hb
open Go.RowKit
def wL (u:Int)(l:List Int) : List Int:=([58]++dV (([u]++l)++[dg ([u]++l)]))++[13,10]
def mR (dir u t:Int)(M:aP) : Option (List Int) :=
  match dj dir M with
  | none=>none
  | some l=>if t != 0 then none else some (wL u l)
def lZ (res:Option (List Int))(w:World)(e:Ending)(w':World) : Prop :=
  match res with
  | some l=>∃ v,e = .returned (.tuple #[v,.int .i64 0])∧gR w.heap.size w' v l∧aD [] w w'
  | none=>e = .returned (.tuple #[.slice none 0 0,.int .i64 1])∧aD [] w w'
theorem o3{x y:Option (List Int)}(h:x=y){w:World}{e:Ending}{w':World}(k:lZ y w e w') : lZ x w e w':=by rw[h];exact k
theorem gR.weaken{base base':Nat}{w:World}{v:Value}{xs:List Int}(h:gR base w v xs)(k:base'≤base) : gR base' w v xs:=by
  obtain⟨g,cap,cur,n,h1,h2,h3⟩:=h
  exact⟨g,cap,cur,n,h1,Nat.le_trans k h2,h3⟩
theorem pA(b:List Int) : 0≤dg b∧dg b<256:=by unfold dg;omega
theorem qv{m:Md}{cs:Array Value}{M:aP}{w:World}{dir u t:Int}(h:aW m w cs.toList M)(hf:cY M)(hu:B8 u)(ht:dm t) : Calls Tryz.prog 62 #[.int .i64 dir,.agg (#[.int .u8 u,.int .u16 t]++cs)] w (lZ (mR dir u t M) w):=by
 have hM:=h
 obtain⟨hu1,hu2⟩:=hu
 obtain⟨ht1,ht2⟩:=ht
 obtain⟨vw,vb,vd,vr,vo,h0,hw,hbt,hd,hr,ho,hR⟩:=h
 obtain rfl:cs=(bQ M vw vb vd vr vo).toArray:=by apply Array.toList_inj.1;simpa using h0
 clear h0
 obtain⟨Aw,kw,rfl,_,_⟩:=hw.shape
 obtain⟨Ab,kb,rfl,_,_⟩:=hbt.shape
 obtain⟨Ad,kd,rfl,_,_⟩:=hd.shape
 obtain⟨Ar,kr,rfl,_,_⟩:=hr.shape
 obtain⟨Ao,ko,rfl,_,_⟩:=ho.shape
 obtain⟨q0,q1,q2,q3,q4,q5,q6,q7,q8,q9,B,C,D,E,F,G,H⟩:=hR
 simp only[B8,dm] at q0 q1 q2 q3 q4 q5 q6 q7 q8 q9 B C D E F G H
 refine en 39 Tryz.func62 rfl<|sg<|L0<|dz #[.int .u8 u,.int .u16 t,.int .u8 M.code,.int .u8 M.fail,.int .u16 M.addr,.int .u16 M.count,.int .u16 M.value,.int .u16 M.and_,.int .u16 M.or_,.int .u16 M.addr2,.int .u16 M.sub,.int .u16 M.status,.int .u16 M.events,.int .u16 M.messages,.slice Aw M.words.length kw,.slice Ab M.bits.length kb,.slice Ad M.data.length kd,.slice Ar M.recs.length kr,.int .u8 M.mei,.int .u8 M.kind,.int .u8 M.level,.int .u8 M.more,.int .u8 M.next,.slice Ao M.objects.length ko] fun a2 a3 a4 o c=>Pl 2<|ng<|Pl 2<|L0<|wl o 2 22<|?_
 rcases hwr:dj dir M with _|lw
 have p:=lb (dir:=dir) (aW.old hM c) hf
 rw[hwr] at p
 refine L0<|Oc<|m1 p fun a5 I=>Pl 5<|nt<|sq<|sg<|Pl 8<|nt<|c1<|sg<|Pl 2<|nl<|?_
 refine tn<|rt<|tr<|rr (.tuple #[.slice none 0 0,.int .i64 1])<|?_
 have hs:mR dir u t M=none:=by
   unfold mR
   (try simp only[hwr,bs,if_true,if_false,decide_true,decide_false,reduceIte])
   all_goals rfl
 refine o3 hs ?_
 exact⟨rfl,(aH c I)⟩
 have hlw:=rk hwr
 have q:=lb (dir:=dir) (aW.old hM c) hf
 rw[hwr] at q
 refine L0<|Oc<|ep q fun a6 a7 a8 J a9 aa k=>Pl 5<|nt<|sq<|sg<|Pl 5<|?_
 have r:=ub k o
 refine L1<|aR r 1<|Pl 2<|nt<|?_
 have s:=aH c k
 refine cb ((t != 0)) (fun d=>?_) (fun d=>?_)
 have K:=au d
 refine sg<|Pl 2<|nt<|rt<|tr<|rr (.tuple #[.slice none 0 0,.int .i64 1])<|?_
 have hs:mR dir u t M=none:=by
   unfold mR
   (try simp only[hwr,d,bs,if_true,if_false,decide_true,decide_false,reduceIte])
   all_goals rfl
 refine o3 hs ?_
 exact⟨rfl,s⟩
 have K:=ai d
 refine bo<|sg<|Pl 2<|L0<|aR r 0<|L0<|dx (m:=1) (e:=5) #[.int .u8 u] fun L ab N O f=>?_
 have v:=dF N (xs:=[u]) (by as_aux_lemma=>kernel_rfl) (az (by omega) aX) (by(try simp only[List.length_cons,List.length_nil]);omega) O
 refine Pl 1<|?_
 refine L0<|cK bt (xs:=([u])) (ys:=lw) (.int .u8 0) 1 v ((ax J f (fun x hx=>ay) (fun _ _ h=>h))).rd (by(try simp only[List.length_append,List.length_cons,List.length_nil,aB]);omega) f.size fun g P ac l n=>Pl 1<|ng<|Pl 2<|L0<|Oc (args:=#[.slice g (([u]++lw).length) P])<|m1 (lc (l).rd) fun ad i=>?_
 have ae:=pA ([u]++lw)
 refine L0<|dx (m:=1) (e:=5) #[.int .u8 (dg ([u]++lw))] fun af ag Q R j=>?_
 have S:=dF Q (xs:=[(dg ([u]++lw))]) (by as_aux_lemma=>kernel_rfl) (az (by omega) aX) (by(try simp only[List.length_cons,List.length_nil]);omega) R
 refine L0<|cK bt (xs:=([u]++lw)) (ys:=([(dg ([u]++lw))])) (.int .u8 0) 1 (ax (ax l i (fun x hx=>ay) (fun _ _ h=>h)) j (fun x hx=>ay) (fun _ _ h=>h)) (S).rd (by(try simp only[List.length_append,List.length_cons,List.length_nil,aB]);omega) (le (le (le f.size n.size) i.size) j.size) fun T U ah y z=>L0<|Oc (args:=#[.slice T ((([u]++lw)++[(dg ([u]++lw))]).length) U])<|m1 (ru (y).rd (by simp only[List.length_append,List.length_cons,List.length_nil];omega)) fun aj A=>?_
 have V:dA (dV (([u]++lw)++[(dg ([u]++lw))])):=l6 (b9.range (y).rd)
 have W:dA ([58]++(dV (([u]++lw)++[(dg ([u]++lw))]))):=mr (by decide) V
 refine L0<|hZ (.string (strOfNums ([58]++(dV (([u]++lw)++[(dg ([u]++lw))]))))) (mn (a:=⟨#[58]⟩) (b:=(strOfNums (dV (([u]++lw)++[(dg ([u]++lw))])))) (xs:=([58])) (ys:=(dV (([u]++lw)++[(dg ([u]++lw))]))) rfl (by kernel_rfl) (by kernel_rfl) rfl rfl (by simp only[f9,List.length_append,List.length_cons,List.length_nil];omega))<|?_
 have X:dA (([58]++(dV (([u]++lw)++[(dg ([u]++lw))])))++[13,10]):=mr W (by decide)
 refine L0<|hZ (.string (strOfNums (([58]++(dV (([u]++lw)++[(dg ([u]++lw))])))++[13,10]))) (mn (a:=(strOfNums ([58]++(dV (([u]++lw)++[(dg ([u]++lw))]))))) (b:=⟨#[13,10]⟩) (xs:=([58]++(dV (([u]++lw)++[(dg ([u]++lw))])))) (ys:=([13,10])) rfl (by kernel_rfl) (by kernel_rfl) rfl rfl (by simp only[f9,List.length_append,List.length_cons,List.length_nil];omega))<|L0<|xG (xs:=(([58]++(dV (([u]++lw)++[(dg ([u]++lw))])))++[13,10])) Tryz.underlying9 Tryz.underlying22 Tryz.underlying5 X (by simp only[f9,List.length_append,List.length_cons,List.length_nil];omega) fun Y Z ak a0 a1=>Pl 2<|nt<|rt<|rr (.tuple #[.slice Y ((([58]++(dV (([u]++lw)++[(dg ([u]++lw))])))++[13,10]).length) Z,.int .i64 0])<|?_
 have hs:mR dir u t M=(some (([58]++(dV (([u]++lw)++[(dg ([u]++lw))])))++[13,10])):=by
   unfold mR
   (try simp only[hwr,d,bs,if_true,if_false,decide_true,decide_false,reduceIte])
   all_goals rfl
 refine o3 hs ?_
 exact⟨_,rfl,a0.weaken (le (le (le (le (le (le (le c.size k.size) f.size) n.size) i.size) j.size) z.size) A.size),(aH s (ut f (ut (aD.mono (S':=(ob (some ⟨L,0,none⟩)++(ob g++[]))) n (av il aq)) (ut (aD.mono (S':=(ob g++[])) i aq) (ut (aD.mono (S':=(ob g++[])) j aq) (aH z (aH A a1)) (av il aq)) (av il aq)) (av il aq)) (av (aT v lr) (av (aT l lr) aq))))⟩
open Go.RowKit
theorem iL{m:Md}{v:Value}{b:List Int}{w:World}{dir:Int}{F:fE}{E:Int}(hX:eA dir b=(F,E))(h:b9 m w v b)(hb:b.length≤1048576) : Calls Tryz.prog 60 #[.int .i64 dir,v] w (fun e w'=>∃ x,e = .returned (.tuple #[.agg (vM F.unit F.tid F.msg x),.int .i64 E])∧(aW true w' (sT F.msg x).toList F.msg∧(0≤F.unit∧F.unit<256)∧(0≤F.tid∧F.tid<65536))∧aD [] w w'):=by
  refine(qP h hb).mono ?_
  rintro e w' ⟨cs,rfl,h1,h2⟩
  rw[hX] at h1 ⊢
  obtain⟨c,rfl,h3,h4,h5⟩:=h1
  obtain⟨x,rfl⟩:=oI h3
  exact⟨x,by rw[rh],⟨h3,h4,h5⟩,h2⟩
open Go.RowKit
theorem rl(a b c d:Int)(w:World) : (Op.equalIn 10000 42 (.agg #[.int .u8 a,.int .u16 b]) (.agg #[.int .u8 c,.int .u16 d])).run Tryz.prog w = .ok ((a==c)&&(b==d)) w:=by
  have hS:Tryz.prog.underlying 42=some (.struct (Tryz.prog.fieldsOf 42)):=by kernel_rfl
  have hp:Tryz.prog.stoodInHeld 42=false:=by kernel_rfl
  rw[show(10000:Nat)=9998+1+1 from rfl,run_equalIn_agg w (9998+1) 42 _ _ hS hp]
  simp only[Program.fieldsOf,Tryz.underlying42]
  have p0:∀ v:Int,(part 5 #[.int .u8 v,.int .u16 b] 0).run Tryz.prog w = .ok (.int .u8 v) w:=fun v=>by simp[part,isAgg,run_underlying Tryz.underlying5,Result.andThen]
  have p0':∀ v:Int,(part 5 #[.int .u8 v,.int .u16 d] 0).run Tryz.prog w = .ok (.int .u8 v) w:=fun v=>by simp[part,isAgg,run_underlying Tryz.underlying5,Result.andThen]
  have p1:∀ v u:Int,(part 24 #[.int .u8 u,.int .u16 v] 1).run Tryz.prog w = .ok (.int .u16 v) w:=fun v u=>by simp[part,isAgg,run_underlying Tryz.underlying24,Result.andThen]
  have e0:=run_equalIn_int (P:=Tryz.prog) w 9998 5 .u8 _ a c Tryz.underlying5
  have e1:=run_equalIn_int (P:=Tryz.prog) w 9998 24 .u16 _ b d Tryz.underlying24
  simp only[Op.eqFields,Sem.run_bind,p0,p0',p1,e0,e1,Result.andThen_ok,ne_eq,String.reduceEq,not_false_eq_true,if_true,Sem.run_ite]
  cases (a==c)<;>cases (b==d)<;>simp
theorem o5{ev:Operand→Value}{o:Oper}{x y:Operand}{t:TypeId}(a b c d:Int){v:Bool}{w:World}(ho:o.op = .binOp .eql 42 x y t)
    (hx:ev x = .agg #[.int .u8 a,.int .u16 b]) (hy:ev y = .agg #[.int .u8 c,.int .u16 d]) (hv:((a==c)&&(b==d))=v) : (execOp ev o).run Tryz.prog w = .ok (.value (.bool v)) w:=by
  subst hv
  have hg:(eqGuard .eql 42 x y (.agg #[.int .u8 a,.int .u16 b]) (.agg #[.int .u8 c,.int .u16 d])).run Tryz.prog w = .ok () w:=run_eqGuard_agg w _ _ _ _ _ _ (by kernel_rfl)
  unfold execOp
  simp only[ho,hx,hy,Sem.run_bind,hg,Result.andThen_ok,run_eql_struct,rl,Sem.run_pure]
open Go.RowKit
theorem vS:mR 0 1 0 m8=some [58,48,49,48,55,70,56,13,10]:=by decide +kernel
theorem wi:eA 0 [58,48,49,48,55,70,56,13,10]=(⟨1,0,m8⟩,0):=by decide +kernel
theorem vT{w:World}:Calls Tryz.prog 62 #[.int .i64 0,.agg #[.int .u8 1,.int .u16 0,.int .u8 7,.int .u8 0,.int .u16 0,.int .u16 0,.int .u16 0,.int .u16 0,.int .u16 0,.int .u16 0,.int .u16 0,.int .u16 0,.int .u16 0,.int .u16 0,.slice none 0 0,.slice none 0 0,.slice none 0 0,.slice none 0 0,.int .u8 0,.int .u8 0,.int .u8 0,.int .u8 0,.int .u8 0,.slice none 0 0]] w (fun e w'=>∃ v,e = .returned (.tuple #[v,.int .i64 0])∧gR w.heap.size w' v [58,48,49,48,55,70,56,13,10]∧aD [] w w'):=by
  have h:=qv (dir:=0) (u:=1) (t:=0) (wj w) v6 (show(0:Int)≤1∧(1:Int)<256 from by decide) (show(0:Int)≤0∧(0:Int)<65536 from by decide)
  rw[vS] at h
  rw[show #[.int .u8 1,.int .u16 0,.int .u8 7,.int .u8 0,.int .u16 0,.int .u16 0,.int .u16 0,.int .u16 0,.int .u16 0,.int .u16 0,.int .u16 0,.int .u16 0,.int .u16 0,.int .u16 0,.slice none 0 0,.slice none 0 0,.slice none 0 0,.slice none 0 0,.int .u8 0,.int .u8 0,.int .u8 0,.int .u8 0,.int .u8 0,.slice none 0 0] = #[.int .u8 1,.int .u16 0]++mC 7 from by kernel_rfl]
  exact h
theorem tp{w:World}:Calls Tryz.prog 59 #[] w (cL (.bool true) w):=by
 refine en 40 Tryz.func59 rfl<|sg<|Pl 1<|ng<|Pl 3<|L0<|Oc<|e2 (@vT w) fun t u d l=>?_
 rcases gR.shape d with⟨m,o,rfl⟩
 rcases aK.shape (d).rd with⟨_,_,e,p,q⟩
 injection e with _ _ e
 rw[← e] at p q
 refine Pl 5<|ng<|Pl 1<|L0<|Oc<|e2 (iL wi (d).rd (by decide)) fun x19 v r f=>?_
 obtain⟨x,y,z⟩:=r
 refine Pl 3<|L0<|bI #[.int .u8 0,.int .u16 0,.int .u8 0,.int .u8 0,.int .u16 0,.int .u16 0,.int .u16 0,.int .u16 0,.int .u16 0,.int .u16 0,.int .u16 0,.int .u16 0,.int .u16 0,.int .u16 0,.slice none 0 0,.slice none 0 0,.slice none 0 0,.slice none 0 0,.int .u8 0,.int .u8 0,.int .u8 0,.int .u8 0,.int .u8 0,.slice none 0 0] fun B C g s h=>L0<|b6 s #[.int .u8 1,.int .u16 0,.int .u8 7,.int .u8 0,.int .u16 0,.int .u16 0,.int .u16 0,.int .u16 0,.int .u16 0,.int .u16 0,.int .u16 0,.int .u16 0,.int .u16 0,.int .u16 0,.slice x19.aw m8.words.length x19.kw,.slice x19.ab m8.bits.length x19.kb,.slice x19.ad m8.data.length x19.kd,.slice x19.ar m8.recs.length x19.kr,.int .u8 0,.int .u8 0,.int .u8 0,.int .u8 0,.int .u8 0,.slice x19.ao m8.objects.length x19.ko] fun D i j=>Pl 1<|ng<|Pl 8<|?_
 refine L1<|hZ (.string (strOfNums ([58,48,49,48,55,70,56,13,10]))) (dQ (A:=some ⟨m,0,none⟩) (n:=([58,48,49,48,55,70,56,13,10]).length) (c:=o) rfl (by kernel_rfl) Tryz.underlying22 Tryz.underlying5 Tryz.underlying9 (b9.upd' (d).rd (u1 (aH f h) j (ni f.size g)) aG))<|L1<|hZ (.bool true) (ij (a:=(strOfNums ([58,48,49,48,55,70,56,13,10]))) (b:=⟨#[58,48,49,48,55,70,56,13,10]⟩) rfl (by kernel_rfl) (by kernel_rfl) (ta rfl (by decide)))<|Pl 4<|L1<|aR i 0<|Pl 5<|L1<|aR i 2<|Pl 3<|nt<|rt<|rr (.bool true)<|?_
 have k:=aH l f
 exact⟨rfl,(u1 (aH k h) j (ni k.size g))⟩
open Go.RowKit
theorem nR{m m':Md}{A B:Option Addr}{c d:Nat}{xs ys:List Int}{w:World}(h1:b9 m w (.slice A xs.length c) xs)(h2:b9 m' w (.slice B ys.length d) ys) :
    Calls Tryz.prog 30 #[.slice A xs.length c,.slice B ys.length d] w (cL (.bool (decide (xs=ys))) w):=by
 refine en 10 Tryz.func30 rfl<|sg<|Pl 1<|ng<|Pl 1<|L0<|hZ (.string (strOfNums xs)) (dQ (A:=A) (n:=xs.length) (c:=c) rfl (by kernel_rfl) Tryz.underlying22 Tryz.underlying5 Tryz.underlying9 h1)<|Pl 1<|L0<|hZ (.string (strOfNums ys)) (dQ (A:=B) (n:=ys.length) (c:=d) rfl (by kernel_rfl) Tryz.underlying22 Tryz.underlying5 Tryz.underlying9 h2)<|L0<|hZ (.bool (decide (xs=ys))) (ij (a:=(strOfNums xs)) (b:=(strOfNums ys)) rfl (by kernel_rfl) (by kernel_rfl) (o4 h1 h2))<|Pl 1<|nl<|?_
 refine tn<|rt<|rr (.bool (decide (xs=ys)))<|?_
 exact⟨rfl,(aD.refl [] _)⟩
theorem l9{m m':Md}{a b:Value}{xs ys:List Int}{w:World}(h1:b9 m w a xs)(h2:b9 m' w b ys) : Calls Tryz.prog 30 #[a,b] w (cL (.bool (decide (xs=ys))) w):=by
  obtain⟨A,c,rfl,_,_⟩:=h1.shape
  obtain⟨B,d,rfl,_,_⟩:=h2.shape
  exact nR h1 h2
open Go.RowKit
theorem fR{α:Type}{xs ys:List α}{k:Nat}(h:xs.take k=ys.take k)(h1:k=xs.length)(h2:xs.length=ys.length) : xs=ys:=by
  rw[List.take_of_length_le (by omega),List.take_of_length_le (by omega)] at h
  exact h
theorem kx{m m':Md}{A B:Option Addr}{c d:Nat}{xs ys:List Int}{w:World}(h1:dN m w (.slice A xs.length c) xs)(h2:dN m' w (.slice B ys.length d) ys) :
    Calls Tryz.prog 98 #[.slice A xs.length c,.slice B ys.length d] w (cL (.bool (decide (xs=ys))) w):=by
 have hz1:=aK.len h1
 have hz2:=aK.len h2
 refine en 26 Tryz.func98 rfl<|sg<|Pl 1<|nt<|sq<|sg<|Pl 5<|nt<|cb ((((xs.length:Nat) : Int)!=((ys.length:Nat) : Int))) (fun g=>?_) (fun g=>?_)
 have j:=au g
 refine sg<|Pl 1<|nt<|rt<|tr<|rr (.bool false)<|?_
 have hs:decide (xs=ys)=false:=decide_eq_false (fun e=>by rw[e] at j;omega)
 rw[hs]
 exact⟨rfl,(aD.refl [] _)⟩
 have j:=ai g
 refine bo<|sq<|sg<|Pl 1<|nt<|bk<|?_
 refine i1 (fun x=>[(0,.slice A xs.length c),(1,.slice B ys.length d),(5,.int .i64 ((x:Nat) : Int))]) (fun(x:Nat) w'=>aD [] w w'∧(xs.take x=ys.take x)∧(x≤xs.length)) (fun x=>xs.length-x) 0 ⟨aD.refl _ _,(by(try dsimp only);simp),(by(try dsimp only);omega)⟩ ?_
 rintro k E ⟨b,p,q⟩
 refine iq [(0,.slice A xs.length c),(1,.slice B ys.length d),(5,.int .i64 ((k:Nat) : Int))] ?_
 have l:xs.take k=ys.take k:=p
 have F:k≤xs.length:=q
 refine sq<|sg<|Pl 4<|nt<|cb ((decide (((k:Nat) : Int)<((xs.length:Nat) : Int)))) (fun h=>?_) (fun h=>?_)
 have r:=of_decide_eq_true h
 refine bo<|sq<|bk<|sq<|?_
 refine fy (dN.at_ (dN.old h1 b) k (by omega)) fun s t u v G=>?_
 refine fy (dN.at_ (dN.old h2 b) k (by omega)) fun y z C D H=>Rg 9 (fun w'=>w'.cell? ⟨s,t+k,none⟩=some (.int .u16 (xs.getD k 0))∧w'.cell? ⟨y,z+k,none⟩=some (.int .u16 (ys.getD k 0))) fun I i=>bh ⟨(uc i v),(uc i D)⟩ fun a=>Rt 0 a<|Rt 1 a<|nU 2 a xs.length k ((k:Nat) : Int) rfl u (by omega)<|Rl 3 a (fun _ hs=>hs.1)<|Rt 4 a<|Rt 5 a<|nU 6 a ys.length k ((k:Nat) : Int) rfl C (by omega)<|Rl 7 a (fun _ hs=>hs.2)<|Rt 8 a<|re<|tn<|?_
 have n:=aH b i
 refine cb (((xs.getD k 0)!=(ys.getD k 0))) (fun f=>?_) (fun f=>?_)
 have o:=au f
 refine sg<|Pl 1<|nt<|rt<|br<|tr<|tr<|br<|tr<|rr (.bool false)<|?_
 have hs:decide (xs=ys)=false:=decide_eq_false (qO (d:=0) k (by simpa using f))
 rw[hs]
 exact⟨rfl,n⟩
 have o:=ai f
 exact sk<|bn<|tn<|go<|Pl 1<|L0<|Oi (((k:Nat) : Int)+1)<|Pl 1<|nl<|ga (k+1) ⟨n,(lz (d:=0) (by omega) (by omega) l o),(by(try dsimp only);omega)⟩ (by omega)
 have r:=of_decide_eq_false h
 refine xt<|tx<|tx<|bx<|tn<|sg<|Pl 1<|nt<|rt<|rr (.bool true)<|?_
 have hs:decide (xs=ys)=true:=decide_eq_true (fR l (by omega) (by omega))
 rw[hs]
 exact⟨rfl,b⟩
theorem i7{m m':Md}{a b:Value}{xs ys:List Int}{w:World}(h1:dN m w a xs)(h2:dN m' w b ys) : Calls Tryz.prog 98 #[a,b] w (cL (.bool (decide (xs=ys))) w):=by
  obtain⟨A,c,rfl,_,_⟩:=h1.shape
  obtain⟨B,d,rfl,_,_⟩:=h2.shape
  exact kx h1 h2
theorem km{m m':Md}{A B:Option Addr}{c d:Nat}{xs ys:List Bool}{w:World}(h1:gq m w (.slice A xs.length c) xs)(h2:gq m' w (.slice B ys.length d) ys) :
    Calls Tryz.prog 99 #[.slice A xs.length c,.slice B ys.length d] w (cL (.bool (decide (xs=ys))) w):=by
 have hz1:=aK.len h1
 have hz2:=aK.len h2
 refine en 26 Tryz.func99 rfl<|sg<|Pl 1<|nt<|sq<|sg<|Pl 5<|nt<|cb ((((xs.length:Nat) : Int)!=((ys.length:Nat) : Int))) (fun f=>?_) (fun f=>?_)
 have j:=au f
 refine sg<|Pl 1<|nt<|rt<|tr<|rr (.bool false)<|?_
 have hs:decide (xs=ys)=false:=decide_eq_false (fun e=>by rw[e] at j;omega)
 rw[hs]
 exact⟨rfl,(aD.refl [] _)⟩
 have j:=ai f
 refine bo<|sq<|sg<|Pl 1<|nt<|bk<|?_
 refine i1 (fun x=>[(0,.slice A xs.length c),(1,.slice B ys.length d),(5,.int .i64 ((x:Nat) : Int))]) (fun(x:Nat) w'=>aD [] w w'∧(xs.take x=ys.take x)∧(x≤xs.length)) (fun x=>xs.length-x) 0 ⟨aD.refl _ _,(by(try dsimp only);simp),(by(try dsimp only);omega)⟩ ?_
 rintro k D ⟨b,o,p⟩
 refine iq [(0,.slice A xs.length c),(1,.slice B ys.length d),(5,.int .i64 ((k:Nat) : Int))] ?_
 have l:xs.take k=ys.take k:=o
 have E:k≤xs.length:=p
 refine sq<|sg<|Pl 4<|nt<|cb ((decide (((k:Nat) : Int)<((xs.length:Nat) : Int)))) (fun g=>?_) (fun g=>?_)
 have q:=of_decide_eq_true g
 refine bo<|sq<|bk<|sq<|?_
 refine xj (gq.at_ (gq.old h1 b) k (by omega)) fun r s t u=>?_
 refine xj (gq.at_ (gq.old h2 b) k (by omega)) fun v y z C=>Rg 9 (fun w'=>w'.cell? ⟨r,s+k,none⟩=some (.bool (xs.getD k false))∧w'.cell? ⟨v,y+k,none⟩=some (.bool (ys.getD k false))) fun F h=>bh ⟨(uc h u),(uc h C)⟩ fun a=>Rt 0 a<|Rt 1 a<|nU 2 a xs.length k ((k:Nat) : Int) rfl t (by omega)<|Rl 3 a (fun _ hs=>hs.1)<|Rt 4 a<|Rt 5 a<|nU 6 a ys.length k ((k:Nat) : Int) rfl z (by omega)<|Rl 7 a (fun _ hs=>hs.2)<|Rt 8 a<|re<|tn<|?_
 have n:=aH b h
 refine cb (((xs.getD k false)!=(ys.getD k false))) (fun i=>?_) (fun i=>?_)
 refine sg<|Pl 1<|nt<|rt<|br<|tr<|tr<|br<|tr<|rr (.bool false)<|?_
 have hs:decide (xs=ys)=false:=decide_eq_false (qO (d:=false) k (by simpa using i))
 rw[hs]
 exact⟨rfl,n⟩
 exact sk<|bn<|tn<|go<|Pl 1<|L0<|Oi (((k:Nat) : Int)+1)<|Pl 1<|nl<|ga (k+1) ⟨n,(lz (d:=false) (by omega) (by omega) l (by simpa using i)),(by(try dsimp only);omega)⟩ (by omega)
 have q:=of_decide_eq_false g
 refine xt<|tx<|tx<|bx<|tn<|sg<|Pl 1<|nt<|rt<|rr (.bool true)<|?_
 have hs:decide (xs=ys)=true:=decide_eq_true (fR l (by omega) (by omega))
 rw[hs]
 exact⟨rfl,b⟩
theorem m6{m m':Md}{a b:Value}{xs ys:List Bool}{w:World}(h1:gq m w a xs)(h2:gq m' w b ys) : Calls Tryz.prog 99 #[a,b] w (cL (.bool (decide (xs=ys))) w):=by
  obtain⟨A,c,rfl,_,_⟩:=h1.shape
  obtain⟨B,d,rfl,_,_⟩:=h2.shape
  exact km h1 h2
end Go.Proofs.YtogbnemojakcpaaGreat
