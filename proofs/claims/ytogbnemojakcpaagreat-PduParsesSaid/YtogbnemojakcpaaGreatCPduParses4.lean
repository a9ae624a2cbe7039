/- Contracts of functions, part CPduParses4. -/
import Derived.Test.YtogbnemojakcpaaGreatCPduParses1
import Derived.Test.YtogbnemojakcpaaGreatCPduParses2
import Derived.Test.YtogbnemojakcpaaGreatCPduParses3
import Derived.OpenShut
import Derived.Below
set_option linter.unusedVariables false
set_option linter.unusedSimpArgs false
set_option maxRecDepth 100000
set_option maxHeartbeats 4000000
namespace Go.Proofs.YtogbnemojakcpaaGreat
open Go.RowKit
def bW (dir:Int)(M:aP) : List Int :=
  if M.code==8 then be [M.sub]++be M.words
  else if dir==0 then []
  else if M.code==7 then [M.value%256]
  else if M.code==11 then be [M.status,M.events]
  else if M.code==12 then (([(6+(M.data.length:Int))%256]++be [M.status,M.events,M.messages])++M.data)
  else [(M.data.length:Int)%256]++M.data
theorem mJ{m:Md}{cs:Array Value}{M:aP}{w:World}{dir:Int}(h:b6 m w cs.toList M)(hf:d8 M)(hd0:(dir==0)=true) : Calls Tryz.prog 208 #[.int .i64 dir,.agg cs] w (gt (bW dir M) w):=by
 obtain⟨vw,vb,vd,vr,vo,h0,hw,hbt,hd,hr,ho,hR⟩:=h
 obtain rfl:cs=(bP M vw vb vd vr vo).toArray:=by apply Array.toList_inj.1;simpa using h0
 clear h0
 obtain⟨Aw,kw,rfl,_,_⟩:=hw.shape
 obtain⟨Ab,kb,rfl,_,_⟩:=hbt.shape
 obtain⟨Ad,kd,rfl,_,_⟩:=hd.shape
 obtain⟨Ar,kr,rfl,_,_⟩:=hr.shape
 obtain⟨Ao,ko,rfl,_,_⟩:=ho.shape
 obtain⟨q0,q1,q2,q3,q4,q5,q6,q7,q8,q9,u,v,y,z,A,B,C⟩:=hR
 simp only[B8,dx] at q0 q1 q2 q3 q4 q5 q6 q7 q8 q9 u v y z A B C
 have hf1:=hf.words
 have hf2:=hf.bits
 have hf3:=hf.data
 have hf4:=hf.recs
 have hf5:=hf.objects
 refine en 70 Tryz.func208 rfl<|sg<|L0<|du (mG M.code M.fail M.addr M.count M.value M.and_ M.or_ M.addr2 M.sub M.status M.events M.messages (.slice Aw M.words.length kw) (.slice Ab M.bits.length kb) (.slice Ad M.data.length kd) (.slice Ar M.recs.length kr) M.mei M.kind M.level M.more M.next (.slice Ao M.objects.length ko)) fun q O P i d=>Pl 1<|nt<|sq<|bk<|sg<|Pl 1<|L0<|aR i 0<|Pl 2<|nl<|?_
 refine tn<|cb ((M.code==8)) (fun a=>?_) (fun a=>?_)
 have D:=am a
 refine sq<|Rg 9 (fun w'=>w'.cell? ⟨q,8,none⟩=some (.int .u16 M.sub)∧w'.cell? ⟨q,12,none⟩=some (.slice Aw M.words.length kw)) fun Q b=>?_
 have j:=ub b i
 refine bh ⟨(ah j rfl),(ah j rfl)⟩ fun f=>Rt 0 f<|Rl 1 f (fun _ hs=>hs.1)<|Rt 4 f<|Rl 5 f (fun _ hs=>hs.2)<|R0 2 rfl<|dv (m:=1) (e:=24) #[.int .u16 M.sub] fun R S E F c=>?_
 have G:=dX E (xs:=[M.sub]) (by as_aux_lemma=>kernel_rfl) (az (by omega) aZ) (by(try simp only[List.length_cons,List.length_nil]);omega) F
 have k:=ub c j
 refine bh ⟨(ah k rfl),(ah k rfl)⟩ fun T=>R0 3 rfl<|Oc<|ef (bC (xs:=[M.sub]) (G).rd (by(try simp only[List.length_cons,List.length_nil]);omega)) fun H U V l W X n=>?_
 have o:=ub n k
 refine bh ⟨(ah o rfl),(ah o rfl)⟩ fun Y=>?_
 have r:=aI d (aI b (aI c n))
 refine R0 6 rfl<|Oc<|ef (bC (xs:=M.words) (dG.old hw r) (by(try simp only[List.length_cons,List.length_nil]);omega)) fun Z a0 a1 I a2 a3 g=>?_
 have p:=ub g o
 refine bh ⟨(ah p rfl),(ah p rfl)⟩ fun a4=>?_
 refine R0 7 rfl<|cQ bB (xs:=(be ([M.sub]))) (ys:=(be M.words)) (.int .u8 0) 1 (ax l g (fun x hx=>ay) (fun _ _ h=>h)) (I).rd (by(try simp only[List.length_append,List.length_cons,List.length_nil,aC]);omega) (le n.size g.size) fun J K a5 L s=>?_
 have t:=aE.blk s (bj (aA (ak i) (le b.size c.size) l) ay) p
 refine bh ⟨(ah t rfl),(ah t rfl)⟩ fun N=>Rt 8 N<|re<|tn<|rt<|br<|tr<|rr (.slice J (((be ([M.sub]))++(be M.words)).length) K)<|?_
 have hs:bW dir M=((be ([M.sub]))++(be M.words)):=by
   unfold bW
   (try simp only[hd0,a,bs,if_true,if_false,decide_true,decide_false,reduceIte])
   all_goals rfl
 rw[hs]
 exact⟨_,rfl,(bf.weaken L (le (le d.size b.size) c.size)),(ut r (ut (aE.mono (S':=(ob H++[])) g aq) s (au il aq)) (au (aV l (le (le d.size b.size) c.size)) aq))⟩
 have D:=ap a
 refine sg<|Pl 3<|nt<|ct hd0<|sg<|Pl 1<|nt<|rt<|br<|tr<|?_
 refine rr (.slice none 0 0)<|?_
 have hs:bW dir M=[]:=by
   unfold bW
   (try simp only[hd0,a,bs,if_true,if_false,decide_true,decide_false,reduceIte])
   all_goals rfl
 rw[hs]
 exact⟨_,rfl,(bf.nil ..),d⟩
theorem mY{m:Md}{cs:Array Value}{M:aP}{w:World}{dir:Int}(h:b6 m w cs.toList M)(hf:d8 M)(hd0:(dir==0)=false) : Calls Tryz.prog 208 #[.int .i64 dir,.agg cs] w (gt (bW dir M) w):=by
 obtain⟨vw,vb,vd,vr,vo,h0,hw,hbt,hd,hr,ho,hR⟩:=h
 obtain rfl:cs=(bP M vw vb vd vr vo).toArray:=by apply Array.toList_inj.1;simpa using h0
 clear h0
 obtain⟨Aw,kw,rfl,_,_⟩:=hw.shape
 obtain⟨Ab,kb,rfl,_,_⟩:=hbt.shape
 obtain⟨Ad,kd,rfl,_,_⟩:=hd.shape
 obtain⟨Ar,kr,rfl,_,_⟩:=hr.shape
 obtain⟨Ao,ko,rfl,_,_⟩:=ho.shape
 obtain⟨q0,q1,q2,q3,q4,q5,q6,q7,q8,q9,ai,aj,al,an,ao,ar,av⟩:=hR
 simp only[B8,dx] at q0 q1 q2 q3 q4 q5 q6 q7 q8 q9 ai aj al an ao ar av
 have hf1:=hf.words
 have hf2:=hf.bits
 have hf3:=hf.data
 have hf4:=hf.recs
 have hf5:=hf.objects
 refine en 70 Tryz.func208 rfl<|sg<|L0<|du (mG M.code M.fail M.addr M.count M.value M.and_ M.or_ M.addr2 M.sub M.status M.events M.messages (.slice Aw M.words.length kw) (.slice Ab M.bits.length kb) (.slice Ad M.data.length kd) (.slice Ar M.recs.length kr) M.mei M.kind M.level M.more M.next (.slice Ao M.objects.length ko)) fun l bV bX b a=>Pl 1<|nt<|sq<|bk<|sg<|Pl 1<|L0<|aR b 0<|Pl 2<|nl<|?_
 refine tn<|cb ((M.code==8)) (fun f=>?_) (fun f=>?_)
 have aw:=am f
 refine sq<|Rg 9 (fun w'=>w'.cell? ⟨l,8,none⟩=some (.int .u16 M.sub)∧w'.cell? ⟨l,12,none⟩=some (.slice Aw M.words.length kw)) fun bY p=>?_
 have J:=ub p b
 refine bh ⟨(ah J rfl),(ah J rfl)⟩ fun E=>Rt 0 E<|Rl 1 E (fun _ hs=>hs.1)<|Rt 4 E<|Rl 5 E (fun _ hs=>hs.2)<|R0 2 rfl<|dv (m:=1) (e:=24) #[.int .u16 M.sub] fun bZ c0 aB aD q=>?_
 have aF:=dX aB (xs:=[M.sub]) (by as_aux_lemma=>kernel_rfl) (az (by omega) aZ) (by(try simp only[List.length_cons,List.length_nil]);omega) aD
 have K:=ub q J
 refine bh ⟨(ah K rfl),(ah K rfl)⟩ fun c1=>R0 3 rfl<|Oc<|ef (bC (xs:=[M.sub]) (aF).rd (by(try simp only[List.length_cons,List.length_nil]);omega)) fun aG c2 c3 L c4 c5 N=>?_
 have O:=ub N K
 refine bh ⟨(ah O rfl),(ah O rfl)⟩ fun c6=>?_
 have X:=aI a (aI p (aI q N))
 refine R0 6 rfl<|Oc<|ef (bC (xs:=M.words) (dG.old hw X) (by(try simp only[List.length_cons,List.length_nil]);omega)) fun c7 c8 c9 aH ca cc F=>?_
 have P:=ub F O
 refine bh ⟨(ah P rfl),(ah P rfl)⟩ fun cd=>?_
 refine R0 7 rfl<|cQ bB (xs:=(be ([M.sub]))) (ys:=(be M.words)) (.int .u8 0) 1 (ax L F (fun x hx=>ay) (fun _ _ h=>h)) (aH).rd (by(try simp only[List.length_append,List.length_cons,List.length_nil,aC]);omega) (le N.size F.size) fun aJ aK ce aL Y=>?_
 have Z:=aE.blk Y (bj (aA (ak b) (le p.size q.size) L) ay) P
 refine bh ⟨(ah Z rfl),(ah Z rfl)⟩ fun aM=>Rt 8 aM<|re<|tn<|rt<|br<|tr<|rr (.slice aJ (((be ([M.sub]))++(be M.words)).length) aK)<|?_
 have hs:bW dir M=((be ([M.sub]))++(be M.words)):=by
   unfold bW
   (try simp only[hd0,f,bs,if_true,if_false,decide_true,decide_false,reduceIte])
   all_goals rfl
 rw[hs]
 exact⟨_,rfl,(bf.weaken aL (le (le a.size p.size) q.size)),(ut X (ut (aE.mono (S':=(ob aG++[])) F aq) Y (au il aq)) (au (aV L (le (le a.size p.size) q.size)) aq))⟩
 have aw:=ap f
 refine sg<|Pl 3<|nt<|cf hd0<|sg<|Pl 1<|L0<|aR b 0<|Pl 2<|nt<|cb ((M.code==7)) (fun g=>?_) (fun g=>?_)
 have aN:=am g
 refine sg<|Pl 1<|L0<|aR b 4<|Pl 1<|L0<|dv (m:=1) (e:=5) #[.int .u8 (M.value%256)] fun aO cg aQ aS aT=>?_
 have aU:=dK aQ (xs:=[(M.value%256)]) (by as_aux_lemma=>kernel_rfl) (az (by omega) aZ) (by(try simp only[List.length_cons,List.length_nil]);omega) aS
 refine Pl 1<|nt<|rt<|br<|tr<|rr (.slice (some ⟨aO,0,none⟩) 1 1)<|?_
 have hs:bW dir M=[(M.value%256)]:=by
   unfold bW
   (try simp only[hd0,f,g,bs,if_true,if_false,decide_true,decide_false,reduceIte])
   all_goals rfl
 rw[hs]
 exact⟨_,rfl,(bf.weaken aU a.size),(aI a aT)⟩
 have aN:=ap g
 refine sg<|Pl 1<|L0<|aR b 0<|Pl 2<|nt<|cb ((M.code==11)) (fun j=>?_) (fun j=>?_)
 have aW:=am j
 refine sg<|Pl 1<|L0<|aR b 9<|Pl 1<|L0<|aR b 10<|L0<|dv (m:=2) (e:=24) #[.int .u16 M.status,.int .u16 M.events] fun ch ci aX aY a0=>?_
 have b0:=dX aX (xs:=[M.status,M.events]) (by as_aux_lemma=>kernel_rfl) (az (by omega) (az (by omega) aZ)) (by(try simp only[List.length_cons,List.length_nil]);omega) aY
 refine L0<|Oc<|ef (bC (xs:=[M.status,M.events]) (b0).rd (by(try simp only[List.length_cons,List.length_nil]);omega)) fun b1 b2 cj b3 ck cl b4=>Pl 1<|nt<|rt<|br<|tr<|rr (.slice b1 ((be ([M.status,M.events])).length) b2)<|?_
 have hs:bW dir M=(be ([M.status,M.events])):=by
   unfold bW
   (try simp only[hd0,f,g,j,bs,if_true,if_false,decide_true,decide_false,reduceIte])
   all_goals rfl
 rw[hs]
 exact⟨_,rfl,(bf.weaken b3 (le a.size a0.size)),(aI a (aI a0 b4))⟩
 have aW:=ap j
 refine sg<|Pl 1<|L0<|aR b 0<|Pl 2<|nt<|cb ((M.code==12)) (fun k=>?_) (fun k=>?_)
 have b5:=am k
 refine sq<|Rg 16 (fun w'=>w'.cell? ⟨l,14,none⟩=some (.slice Ad M.data.length kd)∧w'.cell? ⟨l,9,none⟩=some (.int .u16 M.status)∧w'.cell? ⟨l,10,none⟩=some (.int .u16 M.events)∧w'.cell? ⟨l,11,none⟩=some (.int .u16 M.messages)) fun cm c=>?_
 have n:=ub c b
 refine bh ⟨(ah n rfl),(ah n rfl),(ah n rfl),(ah n rfl)⟩ fun d=>Rt 0 d<|Rl 1 d (fun _ hs=>hs.1)<|Rt 2 d<|Rr 3 d (.int .i64 (6+((M.data.length:Nat) : Int))) (fun _ _=>cI (.int .i64 (IntKind.i64.wrap (6+((M.data.length:Nat) : Int)))) (by kernel_rfl) (congrArg (Value.int .i64) (IntWalk.i64_in _ (by omega))))<|Rt 4 d<|Rt 6 d<|Rl 7 d (fun _ hs=>hs.2.1)<|Rt 8 d<|Rl 9 d (fun _ hs=>hs.2.2.1)<|Rt 10 d<|Rl 11 d (fun _ hs=>hs.2.2.2)<|?_
 refine R2 5 12 rfl rfl ?_ ?_
 refine  dv (m:=1) (e:=5) #[.int .u8 ((6+((M.data.length:Nat) : Int))%256)] fun b7 cn b8 b9 Q=>?_
 have R:=dK b8 (xs:=[((6+((M.data.length:Nat) : Int))%256)]) (by as_aux_lemma=>kernel_rfl) (az (by omega) aZ) (by(try simp only[List.length_cons,List.length_nil]);omega) b9
 have r:=ub Q n
 refine bh ⟨(ah r rfl),(ah r rfl),(ah r rfl),(ah r rfl)⟩ fun co=>R0 12 rfl<|dv (m:=3) (e:=24) #[.int .u16 M.status,.int .u16 M.events,.int .u16 M.messages] fun cp cq ba bb S=>?_
 have bc:=dX ba (xs:=[M.status,M.events,M.messages]) (by as_aux_lemma=>kernel_rfl) (az (by omega) (az (by omega) (az (by omega) aZ))) (by(try simp only[List.length_cons,List.length_nil]);omega) bb
 have s:=ub S r
 refine bh ⟨(ah s rfl),(ah s rfl),(ah s rfl),(ah s rfl)⟩ fun cr=>R0 13 rfl<|Oc<|ef (bC (xs:=[M.status,M.events,M.messages]) (bc).rd (by(try simp only[List.length_cons,List.length_nil]);omega)) fun ct cu cv bd cw cx T=>?_
 have t:=ub T s
 refine bh ⟨(ah t rfl),(ah t rfl),(ah t rfl),(ah t rfl)⟩ fun cy=>?_
 have a1:=aI S T
 refine R0 14 rfl<|cQ bB (xs:=([((6+((M.data.length:Nat) : Int))%256)])) (ys:=(be ([M.status,M.events,M.messages]))) (.int .u8 0) 1 (ax R a1 (fun x hx=>ay) (fun _ _ h=>h)) (bd).rd (by(try simp only[List.length_append,List.length_cons,List.length_nil,aC]);omega) (le (le Q.size S.size) T.size) fun cz cA cB a2 a3=>?_
 have u:=aE.blk a3 (bj (aA (ak b) c.size R) ay) t
 refine bh ⟨(ah u rfl),(ah u rfl),(ah u rfl),(ah u rfl)⟩ fun bg=>Rt 15 bg<|re<|tn<|sg<|Pl 2<|L0<|aR u 14<|?_
 have a4:=ut Q (ut (aE.mono (S':=(ob (some ⟨b7,0,none⟩)++[])) a1 aq) a3 (au il aq)) (au (aV R lr) aq)
 have a5:=aI a (aI c a4)
 refine L0<|cQ bB (xs:=([((6+((M.data.length:Nat) : Int))%256)]++(be ([M.status,M.events,M.messages])))) (ys:=M.data) (.int .u8 0) 1 a2 (bi.old hd a5) (by(try simp only[List.length_append,List.length_cons,List.length_nil,aC]);omega) a4.size fun bl bm cC bo bp=>Pl 1<|nt<|rt<|br<|tr<|rr (.slice bl ((([((6+((M.data.length:Nat) : Int))%256)]++(be ([M.status,M.events,M.messages])))++M.data).length) bm)<|?_
 have hs:bW dir M=(([((6+((M.data.length:Nat) : Int))%256)]++(be ([M.status,M.events,M.messages])))++M.data):=by
   unfold bW
   (try simp only[hd0,f,g,j,k,bs,if_true,if_false,decide_true,decide_false,reduceIte])
   all_goals rfl
 rw[hs]
 exact⟨_,rfl,(bf.weaken bo (le a.size c.size)),(ut a5 bp (au (aV a2 (le a.size c.size)) aq))⟩
 refine  dv (m:=3) (e:=24) #[.int .u16 M.status,.int .u16 M.events,.int .u16 M.messages] fun cD cE bq bt i=>?_
 have a6:=dX bq (xs:=[M.status,M.events,M.messages]) (by as_aux_lemma=>kernel_rfl) (az (by omega) (az (by omega) (az (by omega) aZ))) (by(try simp only[List.length_cons,List.length_nil]);omega) bt
 have o:=ub i n
 refine bh ⟨(ah o rfl),(ah o rfl),(ah o rfl),(ah o rfl)⟩ fun cF=>?_
 refine R2 5 13 rfl rfl ?_ ?_
 refine  dv (m:=1) (e:=5) #[.int .u8 ((6+((M.data.length:Nat) : Int))%256)] fun bu cG bv bw G=>?_
 have U:=dK bv (xs:=[((6+((M.data.length:Nat) : Int))%256)]) (by as_aux_lemma=>kernel_rfl) (az (by omega) aZ) (by(try simp only[List.length_cons,List.length_nil]);omega) bw
 have v:=ub G o
 refine bh ⟨(ah v rfl),(ah v rfl),(ah v rfl),(ah v rfl)⟩ fun cH=>?_
 refine R0 13 rfl<|Oc<|ef (bC (xs:=[M.status,M.events,M.messages]) ((ax a6 G (fun x hx=>ay) (fun _ _ h=>h))).rd (by(try simp only[List.length_cons,List.length_nil]);omega)) fun cJ cK cL bx cM cN H=>?_
 have y:=ub H v
 refine bh ⟨(ah y rfl),(ah y rfl),(ah y rfl),(ah y rfl)⟩ fun cO=>?_
 refine R0 14 rfl<|cQ bB (xs:=([((6+((M.data.length:Nat) : Int))%256)])) (ys:=(be ([M.status,M.events,M.messages]))) (.int .u8 0) 1 (ax U H (fun x hx=>ay) (fun _ _ h=>h)) (bx).rd (by(try simp only[List.length_append,List.length_cons,List.length_nil,aC]);omega) (le G.size H.size) fun cP cR cS a7 a8=>?_
 have z:=aE.blk a8 (bj (aA (ak b) (le c.size i.size) U) ay) y
 refine bh ⟨(ah z rfl),(ah z rfl),(ah z rfl),(ah z rfl)⟩ fun bz=>Rt 15 bz<|re<|tn<|sg<|Pl 2<|L0<|aR z 14<|?_
 have a9:=ut G (ut (aE.mono (S':=(ob (some ⟨bu,0,none⟩)++[])) H aq) a8 (au il aq)) (au (aV U lr) aq)
 have aa:=aI a (aI c (aI i a9))
 refine L0<|cQ bB (xs:=([((6+((M.data.length:Nat) : Int))%256)]++(be ([M.status,M.events,M.messages])))) (ys:=M.data) (.int .u8 0) 1 a7 (bi.old hd aa) (by(try simp only[List.length_append,List.length_cons,List.length_nil,aC]);omega) a9.size fun bA bD cT bE bF=>Pl 1<|nt<|rt<|br<|tr<|rr (.slice bA ((([((6+((M.data.length:Nat) : Int))%256)]++(be ([M.status,M.events,M.messages])))++M.data).length) bD)<|?_
 have hs:bW dir M=(([((6+((M.data.length:Nat) : Int))%256)]++(be ([M.status,M.events,M.messages])))++M.data):=by
   unfold bW
   (try simp only[hd0,f,g,j,k,bs,if_true,if_false,decide_true,decide_false,reduceIte])
   all_goals rfl
 rw[hs]
 exact⟨_,rfl,(bf.weaken bE (le (le a.size c.size) i.size)),(ut aa bF (au (aV a7 (le (le a.size c.size) i.size)) aq))⟩
 refine  Oc<|ef (bC (xs:=[M.status,M.events,M.messages]) (a6).rd (by(try simp only[List.length_cons,List.length_nil]);omega)) fun cU cV cW bG cX cY A=>?_
 have B:=ub A o
 refine bh ⟨(ah B rfl),(ah B rfl),(ah B rfl),(ah B rfl)⟩ fun cZ=>R0 5 rfl<|dv (m:=1) (e:=5) #[.int .u8 ((6+((M.data.length:Nat) : Int))%256)] fun d0 d1 bH bI I=>?_
 have V:=dK bH (xs:=[((6+((M.data.length:Nat) : Int))%256)]) (by as_aux_lemma=>kernel_rfl) (az (by omega) aZ) (by(try simp only[List.length_cons,List.length_nil]);omega) bI
 have C:=ub I B
 refine bh ⟨(ah C rfl),(ah C rfl),(ah C rfl),(ah C rfl)⟩ fun d2=>?_
 refine R0 14 rfl<|cQ bB (xs:=([((6+((M.data.length:Nat) : Int))%256)])) (ys:=(be ([M.status,M.events,M.messages]))) (.int .u8 0) 1 V ((ax bG I (fun x hx=>ay) (fun _ _ h=>h))).rd (by(try simp only[List.length_append,List.length_cons,List.length_nil,aC]);omega) I.size fun d3 d4 d5 ab ac=>?_
 have D:=aE.blk ac (bj (aA (ak b) (le (le c.size i.size) A.size) V) ay) C
 refine bh ⟨(ah D rfl),(ah D rfl),(ah D rfl),(ah D rfl)⟩ fun bJ=>Rt 15 bJ<|re<|tn<|sg<|Pl 2<|L0<|aR D 14<|?_
 have ad:=ut I ac (au (aV V lr) aq)
 have ae:=aI a (aI c (aI i (aI A ad)))
 refine L0<|cQ bB (xs:=([((6+((M.data.length:Nat) : Int))%256)]++(be ([M.status,M.events,M.messages])))) (ys:=M.data) (.int .u8 0) 1 ab (bi.old hd ae) (by(try simp only[List.length_append,List.length_cons,List.length_nil,aC]);omega) ad.size fun bK bL d6 bM bN=>Pl 1<|nt<|rt<|br<|tr<|rr (.slice bK ((([((6+((M.data.length:Nat) : Int))%256)]++(be ([M.status,M.events,M.messages])))++M.data).length) bL)<|?_
 have hs:bW dir M=(([((6+((M.data.length:Nat) : Int))%256)]++(be ([M.status,M.events,M.messages])))++M.data):=by
   unfold bW
   (try simp only[hd0,f,g,j,k,bs,if_true,if_false,decide_true,decide_false,reduceIte])
   all_goals rfl
 rw[hs]
 exact⟨_,rfl,(bf.weaken bM (le (le (le a.size c.size) i.size) A.size)),(ut ae bN (au (aV ab (le (le (le a.size c.size) i.size) A.size)) aq))⟩
 have b5:=ap k
 refine sk<|bn<|tn<|sg<|Pl 1<|L0<|aR b 14<|Pl 2<|L0<|dv (m:=1) (e:=5) #[.int .u8 (((M.data.length:Nat) : Int)%256)] fun d7 d9 bO bQ W=>?_
 have af:=dK bO (xs:=[(((M.data.length:Nat) : Int)%256)]) (by as_aux_lemma=>kernel_rfl) (az (by omega) aZ) (by(try simp only[List.length_cons,List.length_nil]);omega) bQ
 refine Pl 1<|?_
 refine L0<|aR (ub W b) 14<|?_
 have ag:=aI a W
 refine L0<|cQ bB (xs:=([(((M.data.length:Nat) : Int)%256)])) (ys:=M.data) (.int .u8 0) 1 af (bi.old hd ag) (by(try simp only[List.length_append,List.length_cons,List.length_nil,aC]);omega) W.size fun bR bS da bT bU=>Pl 1<|nt<|rt<|rr (.slice bR (([(((M.data.length:Nat) : Int)%256)]++M.data).length) bS)<|?_
 have hs:bW dir M=([(((M.data.length:Nat) : Int)%256)]++M.data):=by
   unfold bW
   (try simp only[hd0,f,g,j,k,bs,if_true,if_false,decide_true,decide_false,reduceIte])
   all_goals rfl
 rw[hs]
 exact⟨_,rfl,(bf.weaken bT a.size),(ut ag bU (au (aV af a.size) aq))⟩
theorem qt{m:Md}{cs:Array Value}{M:aP}{w:World}{dir:Int}(h:b6 m w cs.toList M)(hf:d8 M) : Calls Tryz.prog 208 #[.int .i64 dir,.agg cs] w (gt (bW dir M) w):=by
  rcases dJ (dir==0) with h0|h0
  · exact mJ h hf h0
  · exact mY h hf h0
open Go.RowKit
theorem dw{α:Type}(d:α)(xs:List α)(k:Nat)(h:k<xs.length) : xs.getD k d∈xs:=by
  simp[List.getD_eq_getElem?_getD,List.getElem?_eq_getElem h]
def ge:List Obj→List Int
  | []=>[]
  | o :: r=>([o.id,(o.value.length:Int)%256]++o.value)++ge r
theorem nW(xs:List Obj)(k:Nat)(h:k<xs.length) : ge (xs.drop k)=([(xs.getD k ⟨0,[]⟩).id,((xs.getD k ⟨0,[]⟩).value.length:Int)%256]++(xs.getD k ⟨0,[]⟩).value)++ge (xs.drop (k+1)):=by
  rw[List.drop_eq_getElem_cons h]
  simp[ge,List.getD_eq_getElem?_getD,List.getElem?_eq_getElem h]
def di (dir:Int)(M:aP) : List Int :=
  if M.mei==13 then [M.mei]++M.data
  else if dir==0 then [M.mei,M.kind,M.next]
  else [M.mei,M.kind,M.level,M.more,M.next,(M.objects.length:Int)%256]++ge M.objects
theorem oB{m:Md}{cs:Array Value}{M:aP}{w:World}{dir:Int}(h:b6 m w cs.toList M)(hf:d8 M)(hd0:(dir==0)=true) : Calls Tryz.prog 214 #[.int .i64 dir,.agg cs] w (gt (di dir M) w):=by
 obtain⟨vw,vb,vd,vr,vo,h0,hw,hbt,hd,hr,ho,hR⟩:=h
 obtain rfl:cs=(bP M vw vb vd vr vo).toArray:=by apply Array.toList_inj.1;simpa using h0
 clear h0
 obtain⟨Aw,kw,rfl,_,_⟩:=hw.shape
 obtain⟨Ab,kb,rfl,_,_⟩:=hbt.shape
 obtain⟨Ad,kd,rfl,_,_⟩:=hd.shape
 obtain⟨Ar,kr,rfl,_,_⟩:=hr.shape
 obtain⟨Ao,ko,rfl,_,_⟩:=ho.shape
 obtain⟨q0,q1,q2,q3,q4,q5,q6,q7,q8,q9,i,j,k,l,n,o,p⟩:=hR
 simp only[B8,dx] at q0 q1 q2 q3 q4 q5 q6 q7 q8 q9 i j k l n o p
 have hf1:=hf.words
 have hf2:=hf.bits
 have hf3:=hf.data
 have hf4:=hf.recs
 have hf5:=hf.objects
 refine en 64 Tryz.func214 rfl<|sg<|L0<|du (mG M.code M.fail M.addr M.count M.value M.and_ M.or_ M.addr2 M.sub M.status M.events M.messages (.slice Aw M.words.length kw) (.slice Ab M.bits.length kb) (.slice Ad M.data.length kd) (.slice Ar M.recs.length kr) M.mei M.kind M.level M.more M.next (.slice Ao M.objects.length ko)) fun D E F a b=>Pl 1<|nt<|sq<|bk<|sg<|Pl 1<|L0<|aR a 16<|Pl 2<|nl<|?_
 refine tn<|cb ((M.mei==13)) (fun c=>?_) (fun c=>?_)
 have q:=am c
 refine sg<|Pl 1<|L0<|aR a 16<|L0<|dv (m:=1) (e:=5) #[.int .u8 M.mei] fun G H r s d=>?_
 have f:=dK r (xs:=[M.mei]) (by as_aux_lemma=>kernel_rfl) (az (by omega) aZ) (by(try simp only[List.length_cons,List.length_nil]);omega) s
 refine Pl 1<|?_
 refine L0<|aR (ub d a) 14<|?_
 have g:=aI b d
 refine L0<|cQ bB (xs:=([M.mei])) (ys:=M.data) (.int .u8 0) 1 f (bi.old hd g) (by(try simp only[List.length_append,List.length_cons,List.length_nil,aC]);omega) d.size fun t u I v x=>Pl 1<|nt<|rt<|br<|tr<|rr (.slice t (([M.mei]++M.data).length) u)<|?_
 have hs:di dir M=([M.mei]++M.data):=by
   unfold di
   (try simp only[hd0,c,bs,if_true,if_false,decide_true,decide_false,reduceIte])
   all_goals rfl
 rw[hs]
 exact⟨_,rfl,(bf.weaken v b.size),(ut g x (au (aV f b.size) aq))⟩
 have q:=ap c
 refine sg<|Pl 3<|nt<|ct hd0<|sg<|Pl 1<|L0<|aR a 16<|Pl 1<|L0<|aR a 17<|Pl 1<|L0<|aR a 20<|?_
 refine L0<|dv (m:=3) (e:=5) #[.int .u8 M.mei,.int .u8 M.kind,.int .u8 M.next] fun y J z A B=>?_
 have C:=dK z (xs:=[M.mei,M.kind,M.next]) (by as_aux_lemma=>kernel_rfl) (az (by omega) (az (by omega) (az (by omega) aZ))) (by(try simp only[List.length_cons,List.length_nil]);omega) A
 refine Pl 1<|nt<|rt<|br<|tr<|rr (.slice (some ⟨y,0,none⟩) 3 3)<|?_
 have hs:di dir M=[M.mei,M.kind,M.next]:=by
   unfold di
   (try simp only[hd0,c,bs,if_true,if_false,decide_true,decide_false,reduceIte])
   all_goals rfl
 rw[hs]
 exact⟨_,rfl,(bf.weaken C b.size),(aI b B)⟩
theorem nI{m:Md}{cs:Array Value}{M:aP}{w:World}{dir:Int}(h:b6 m w cs.toList M)(hf:d8 M)(hd0:(dir==0)=false) : Calls Tryz.prog 214 #[.int .i64 dir,.agg cs] w (gt (di dir M) w):=by
 obtain⟨vw,vb,vd,vr,vo,h0,hw,hbt,hd,hr,ho,hR⟩:=h
 obtain rfl:cs=(bP M vw vb vd vr vo).toArray:=by apply Array.toList_inj.1;simpa using h0
 clear h0
 obtain⟨Aw,kw,rfl,_,_⟩:=hw.shape
 obtain⟨Ab,kb,rfl,_,_⟩:=hbt.shape
 obtain⟨Ad,kd,rfl,_,_⟩:=hd.shape
 obtain⟨Ar,kr,rfl,_,_⟩:=hr.shape
 obtain⟨Ao,ko,rfl,_,_⟩:=ho.shape
 obtain⟨q0,q1,q2,q3,q4,q5,q6,q7,q8,q9,O,P,Q,R,S,T,U⟩:=hR
 simp only[B8,dx] at q0 q1 q2 q3 q4 q5 q6 q7 q8 q9 O P Q R S T U
 have hf1:=hf.words
 have hf2:=hf.bits
 have hf3:=hf.data
 have hf4:=hf.recs
 have hf5:=hf.objects
 refine en 64 Tryz.func214 rfl<|sg<|L0<|du (mG M.code M.fail M.addr M.count M.value M.and_ M.or_ M.addr2 M.sub M.status M.events M.messages (.slice Aw M.words.length kw) (.slice Ab M.bits.length kb) (.slice Ad M.data.length kd) (.slice Ar M.recs.length kr) M.mei M.kind M.level M.more M.next (.slice Ao M.objects.length ko)) fun aD r aF a c=>Pl 1<|nt<|sq<|bk<|sg<|Pl 1<|L0<|aR a 16<|Pl 2<|nl<|?_
 refine tn<|cb ((M.mei==13)) (fun d=>?_) (fun d=>?_)
 have V:=am d
 refine sg<|Pl 1<|L0<|aR a 16<|L0<|dv (m:=1) (e:=5) #[.int .u8 M.mei] fun aG aH W X s=>?_
 have E:=dK W (xs:=[M.mei]) (by as_aux_lemma=>kernel_rfl) (az (by omega) aZ) (by(try simp only[List.length_cons,List.length_nil]);omega) X
 refine Pl 1<|?_
 refine L0<|aR (ub s a) 14<|?_
 have F:=aI c s
 refine L0<|cQ bB (xs:=([M.mei])) (ys:=M.data) (.int .u8 0) 1 E (bi.old hd F) (by(try simp only[List.length_append,List.length_cons,List.length_nil,aC]);omega) s.size fun Y Z aJ a0 a1=>Pl 1<|nt<|rt<|br<|tr<|rr (.slice Y (([M.mei]++M.data).length) Z)<|?_
 have hs:di dir M=([M.mei]++M.data):=by
   unfold di
   (try simp only[hd0,d,bs,if_true,if_false,decide_true,decide_false,reduceIte])
   all_goals rfl
 rw[hs]
 exact⟨_,rfl,(bf.weaken a0 c.size),(ut F a1 (au (aV E c.size) aq))⟩
 have V:=ap d
 refine sg<|Pl 3<|nt<|cf hd0<|sk<|bn<|tn<|sg<|Pl 1<|L0<|aR a 16<|Pl 1<|L0<|aR a 17<|?_
 refine Pl 1<|L0<|aR a 18<|Pl 1<|L0<|aR a 19<|Pl 1<|L0<|aR a 20<|Pl 1<|L0<|aR a 21<|Pl 2<|L0<|dv (m:=6) (e:=5) #[.int .u8 M.mei,.int .u8 M.kind,.int .u8 M.level,.int .u8 M.more,.int .u8 M.next,.int .u8 (((M.objects.length:Nat) : Int)%256)] fun a2 a3 a4 a5 j=>?_
 have a6:=dK a4 (xs:=[M.mei,M.kind,M.level,M.more,M.next,(((M.objects.length:Nat) : Int)%256)]) (by as_aux_lemma=>kernel_rfl) (az (by omega) (az (by omega) (az (by omega) (az (by omega) (az (by omega) (az (by omega) aZ)))))) (by(try simp only[List.length_cons,List.length_nil]);omega) a5
 refine Pl 1<|nt<|sq<|sg<|Pl 1<|?_
 refine L0<|aR (ub j a) 21<|Pl 2<|nt<|bk<|?_
 refine jc (fun x=>[(4,.slice none 0 0),(5,.slice x.2.2.1 x.2.1.length x.2.2.2),(44,.slice Ao M.objects.length ko),(45,.int .i64 ((M.objects.length:Nat) : Int)),(46,.int .i64 ((x.1:Nat) : Int))]) (fun(x:Nat × List Int × Option Addr × Nat) w'=>aE [] r w'∧a3.heap.size≤w'.heap.size∧fD r.heap.size w' (.slice x.2.2.1 x.2.1.length x.2.2.2) x.2.1∧(x.1≤M.objects.length)∧(x.2.1++ge (M.objects.drop x.1)=([M.mei,M.kind,M.level,M.more,M.next,(((M.objects.length:Nat) : Int)%256)])++ge M.objects)∧(x.2.1.length≤16+x.1*1026)∧(6≤x.2.1.length)) (fun x=>M.objects.length-x.1) (0,[M.mei,M.kind,M.level,M.more,M.next,(((M.objects.length:Nat) : Int)%256)],some ⟨a2,0,none⟩,6) ⟨j,lr,a6,(by(try dsimp only);omega),rfl,(by(try dsimp only);(try simp only[List.length_cons,List.length_nil]);omega),(by(try dsimp only);(try simp only[List.length_cons,List.length_nil]);omega)⟩ ?_
 rintro⟨k,L,A,cp⟩ a7 ⟨G,t,a8,a9,aa,ab,ac⟩
 refine jf [(4,.slice none 0 0),(5,.slice A L.length cp),(44,.slice Ao M.objects.length ko),(45,.int .i64 ((M.objects.length:Nat) : Int)),(46,.int .i64 ((k:Nat) : Int))] ?_
 have f:fD r.heap.size a7 (.slice A L.length cp) L:=a8
 have aK:k≤M.objects.length:=a9
 have aL:L++ge (M.objects.drop k)=([M.mei,M.kind,M.level,M.more,M.next,(((M.objects.length:Nat) : Int)%256)])++ge M.objects:=aa
 have aM:L.length≤16+k*1026:=ab
 have aN:6≤L.length:=ac
 have hL:L++ge (M.objects.drop k)=([M.mei,M.kind,M.level,M.more,M.next,(((M.objects.length:Nat) : Int)%256)])++ge M.objects:=by assumption
 have hv0:=fun(h:k<M.objects.length)=>hf.objv _ (dw ⟨0,[]⟩ M.objects k h)
 refine sg<|Pl 1<|nt<|sq<|?_
 have u:=aI c G
 refine cb ((decide (((k:Nat) : Int)<((M.objects.length:Nat) : Int)))) (fun l=>?_) (fun l=>?_)
 have ad:=of_decide_eq_true l
 refine bz<|sq<|bk<|sg<|kg (m9.elt ho k (by omega)) fun aO aQ aS aT aU v y ae af ag aW ai=>L0<|oT 2 M.objects.length k ae (by omega)<|?_
 refine L0<|tw [.int .u8 ((M.objects.getD k ⟨0,[]⟩).id),.slice v ((M.objects.getD k ⟨0,[]⟩).value.length) y] (ub u af) ai<|L0<|bK #[.int .u8 0,.slice none 0 0] fun H aX I aj n=>L0<|b7 aj #[.int .u8 ((M.objects.getD k ⟨0,[]⟩).id),.slice v ((M.objects.getD k ⟨0,[]⟩).value.length) y] fun aY ak o=>nt<|Rg 13 (fun w'=>w'.cell? ⟨H,0,none⟩=some (.int .u8 ((M.objects.getD k ⟨0,[]⟩).id))∧w'.cell? ⟨H,1,none⟩=some (.slice v ((M.objects.getD k ⟨0,[]⟩).value.length) y)) fun b0 g=>?_
 have z:=ub g ak
 refine bh ⟨(ah z rfl),(ah z rfl)⟩ fun b=>Rt 0 b<|Rt 1 b<|Rl 2 b (fun _ hs=>hs.1)<|Rt 3 b<|Rl 4 b (fun _ hs=>hs.2)<|Rt 5 b<|Rt 6 b<|Rt 9 b<|Rl 10 b (fun _ hs=>hs.2)<|R0 7 rfl<|dv (m:=2) (e:=5) #[.int .u8 ((M.objects.getD k ⟨0,[]⟩).id),.int .u8 ((((M.objects.getD k ⟨0,[]⟩).value.length:Nat) : Int)%256)] fun b1 b2 al an i=>?_
 have ao:=dK al (xs:=[(M.objects.getD k ⟨0,[]⟩).id,((((M.objects.getD k ⟨0,[]⟩).value.length:Nat) : Int)%256)]) (by as_aux_lemma=>kernel_rfl) (az (by omega) (az (by omega) aZ)) (by(try simp only[List.length_cons,List.length_nil]);omega) an
 have B:=ub i z
 refine bh ⟨(ah B rfl),(ah B rfl)⟩ fun b3=>?_
 have J:=ud n (aI o (aI g i)) I
 refine R0 8 rfl<|cQ bB (xs:=L) (ys:=([(M.objects.getD k ⟨0,[]⟩).id,((((M.objects.getD k ⟨0,[]⟩).value.length:Nat) : Int)%256)])) (.int .u8 0) 1 (ax f J (fun x hx=>ay) (fun _ _ h=>h)) (ao).rd (by(try simp only[List.length_append,List.length_cons,List.length_nil,aC]);omega) (le (le (le (le (le j.size t) n.size) o.size) g.size) i.size) fun ar b4 b5 C p=>?_
 have q:=aE.blk p (bj (dH f lr I) ay) B
 refine bh ⟨(ah q rfl),(ah q rfl)⟩ fun b8=>?_
 have K:=ut (aE.mono (S':=(ob A++[])) J aq) p (au il aq)
 refine R0 11 rfl<|cQ bB (xs:=(L++[(M.objects.getD k ⟨0,[]⟩).id,((((M.objects.getD k ⟨0,[]⟩).value.length:Nat) : Int)%256)])) (ys:=((M.objects.getD k ⟨0,[]⟩).value)) (.int .u8 0) 1 C (bi.old ag (ut u K (au (aV f c.size) aq))) (by(try simp only[List.length_append,List.length_cons,List.length_nil,aC]);omega) (le (le (le (le (le (le j.size t) n.size) o.size) g.size) i.size) p.size) fun av aw b9 aA D=>?_
 have N:=aE.blk D (bj (dl q C (by decide)) ay) q
 refine bh ⟨(ah N rfl),(ah N rfl)⟩ fun aB=>Rt 12 aB<|re<|bn<|tn<|go<|L0<|Oi (((k:Nat) : Int)+1)<|Pl 1<|nl<|?_
 exact gf ((k+1),((L++[(M.objects.getD k ⟨0,[]⟩).id,((((M.objects.getD k ⟨0,[]⟩).value.length:Nat) : Int)%256)])++(M.objects.getD k ⟨0,[]⟩).value),av,aw) ⟨(ut G (ut (aE.mono (S':=(ob A++(ob ar++[]))) K (au il aq)) D (au il aq)) (au (aV f lr) (au (aV C lr) aq))),(le (le (le (le (le (le t n.size) o.size) g.size) i.size) p.size) D.size),aA,(by(try dsimp only);omega),(by(try dsimp only);rw[← hL,nW  M.objects k (by omega)];simp only[List.append_assoc]),(by(try dsimp only);have hv:=hf.objv _ (dw ⟨0,[]⟩ M.objects k (by omega));(try simp only[List.length_append,List.length_cons,List.length_nil,aC]);omega),(by(try dsimp only);(try simp only[List.length_append,List.length_cons,List.length_nil]);omega)⟩ (by omega)
 have ad:=of_decide_eq_false l
 refine xt<|tx<|tx<|bx<|tn<|sg<|Pl 2<|nt<|rt<|rr (.slice A L.length cp)<|?_
 have hk:k=M.objects.length:=by omega
 rw[hk,List.drop_length] at hL
 have hL2:L=([M.mei,M.kind,M.level,M.more,M.next,(((M.objects.length:Nat) : Int)%256)])++ge M.objects:=by rw[← hL];simp[ge]
 have hs:di dir M=L:=by
   rw[hL2]
   unfold di
   (try simp only[hd0,d,l,bs,if_true,if_false,decide_true,decide_false,reduceIte])
   all_goals rfl
 rw[hs]
 exact⟨_,rfl,(bf.weaken f c.size),u⟩
theorem rh{m:Md}{cs:Array Value}{M:aP}{w:World}{dir:Int}(h:b6 m w cs.toList M)(hf:d8 M) : Calls Tryz.prog 214 #[.int .i64 dir,.agg cs] w (gt (di dir M) w):=by
  rcases dJ (dir==0) with h0|h0
  · exact oB h hf h0
  · exact nI h hf h0
open Go.RowKit
def iW (dir code:Int)(r:de) : List Int:=(if code==20&&dir==1 then [(1+2*(r.words.length:Int))%256,6] else [6]++be [r.file,r.record,r.count])++be r.words
def cR (dir code:Int) : List de→List Int
  | []=>[]
  | r :: rs=>iW dir code r++cR dir code rs
theorem dr(dir code:Int)(xs:List de)(k:Nat)(h:k<xs.length) : cR dir code (xs.drop k)=iW dir code (xs.getD k ⟨0,0,0,[]⟩)++cR dir code (xs.drop (k+1)):=by
  rw[List.drop_eq_getElem_cons h]
  simp[cR,List.getD_eq_getElem?_getD,List.getElem?_eq_getElem h]
def cT (dir:Int)(M:aP) : List Int:=([0]++cR dir M.code M.recs).set 0 (((([0]++cR dir M.code M.recs).length:Int)-1)%256)
theorem ll{m:Md}{cs:Array Value}{M:aP}{w:World}{dir:Int}(h:b6 m w cs.toList M)(hf:d8 M)(hd0:(dir==0)=true) : Calls Tryz.prog 212 #[.int .i64 dir,.agg cs] w (gt (cT dir M) w):=by
 obtain⟨vw,vb,vd,vr,vo,h0,hw,hbt,hd,hr,ho,hR⟩:=h
 obtain rfl:cs=(bP M vw vb vd vr vo).toArray:=by apply Array.toList_inj.1;simpa using h0
 clear h0
 obtain⟨Aw,kw,rfl,_,_⟩:=hw.shape
 obtain⟨Ab,kb,rfl,_,_⟩:=hbt.shape
 obtain⟨Ad,kd,rfl,_,_⟩:=hd.shape
 obtain⟨Ar,kr,rfl,_,_⟩:=hr.shape
 obtain⟨Ao,ko,rfl,_,_⟩:=ho.shape
 obtain⟨q0,q1,q2,q3,q4,q5,q6,q7,q8,q9,bd,bg,bm,bo,bp,bq,br⟩:=hR
 simp only[B8,dx] at q0 q1 q2 q3 q4 q5 q6 q7 q8 q9 bd bg bm bo bp bq br
 have hf1:=hf.words
 have hf2:=hf.bits
 have hf3:=hf.data
 have hf4:=hf.recs
 have hf5:=hf.objects
 refine en 58 Tryz.func212 rfl<|sg<|L0<|du (mG M.code M.fail M.addr M.count M.value M.and_ M.or_ M.addr2 M.sub M.status M.events M.messages (.slice Aw M.words.length kw) (.slice Ab M.bits.length kb) (.slice Ad M.data.length kd) (.slice Ar M.recs.length kr) M.mei M.kind M.level M.more M.next (.slice Ao M.objects.length ko)) fun an ac cz ao l=>Pl 1<|ng<|L0<|dv (m:=1) (e:=5) #[.int .u8 0] fun bt bu bv bw g=>?_
 have bA:=dK bv (xs:=[0]) (by as_aux_lemma=>kernel_rfl) (az (by omega) aZ) (by(try simp only[List.length_cons,List.length_nil]);omega) bw
 refine Pl 1<|nt<|sq<|sg<|Pl 1<|?_
 refine L0<|aR (ub g ao) 15<|Pl 2<|nt<|bk<|?_
 refine jc (fun x=>[(0,.int .i64 dir),(3,.pointer (some ⟨an,0,none⟩)),(4,.slice none 0 0),(5,.slice x.2.2.1 x.2.1.length x.2.2.2),(10,.slice Ar M.recs.length kr),(11,.int .i64 ((M.recs.length:Nat) : Int)),(12,.int .i64 ((x.1:Nat) : Int))]) (fun(x:Nat × List Int × Option Addr × Nat) w'=>aE [] ac w'∧bu.heap.size≤w'.heap.size∧fD ac.heap.size w' (.slice x.2.2.1 x.2.1.length x.2.2.2) x.2.1∧(x.1≤M.recs.length)∧(x.2.1++cR dir M.code (M.recs.drop x.1)=([0])++cR dir M.code M.recs)∧(x.2.1.length≤16+x.1*2060)∧(1≤x.2.1.length)) (fun x=>M.recs.length-x.1) (0,[0],some ⟨bt,0,none⟩,1) ⟨g,lr,bA,(by(try dsimp only);omega),rfl,(by(try dsimp only);(try simp only[List.length_cons,List.length_nil]);omega),(by(try dsimp only);(try simp only[List.length_cons,List.length_nil]);omega)⟩ ?_
 rintro⟨k,L,A,cp⟩ bD ⟨ar,f,bE,bF,bG,bH,bI⟩
 refine jf [(0,.int .i64 dir),(3,.pointer (some ⟨an,0,none⟩)),(4,.slice none 0 0),(5,.slice A L.length cp),(10,.slice Ar M.recs.length kr),(11,.int .i64 ((M.recs.length:Nat) : Int)),(12,.int .i64 ((k:Nat) : Int))] ?_
 have a:fD ac.heap.size bD (.slice A L.length cp) L:=bE
 have cA:k≤M.recs.length:=bF
 have cB:L++cR dir M.code (M.recs.drop k)=([0])++cR dir M.code M.recs:=bG
 have cC:L.length≤16+k*2060:=bH
 have cD:1≤L.length:=bI
 have hL:L++cR dir M.code (M.recs.drop k)=([0])++cR dir M.code M.recs:=by assumption
 have hv0:=fun(h:k<M.recs.length)=>hf.recw _ (dw ⟨0,0,0,[]⟩ M.recs k h)
 refine sg<|Pl 1<|nt<|sq<|?_
 have ad:=aI l ar
 refine cb ((decide (((k:Nat) : Int)<((M.recs.length:Nat) : Int)))) (fun n=>?_) (fun n=>?_)
 have bJ:=of_decide_eq_true n
 refine bz<|sq<|bk<|sg<|kg (jF.elt hr k (by omega)) fun cE cF cG cH cI av aw bL bM Q cJ bN=>L0<|oT 4 M.recs.length k bL (by omega)<|?_
 refine L0<|tw [.int .u16 ((M.recs.getD k ⟨0,0,0,[]⟩).file),.int .u16 ((M.recs.getD k ⟨0,0,0,[]⟩).record),.int .u16 ((M.recs.getD k ⟨0,0,0,[]⟩).count),.slice av ((M.recs.getD k ⟨0,0,0,[]⟩).words.length) aw] (ub ad bM) bN<|L0<|bK #[.int .u16 0,.int .u16 0,.int .u16 0,.slice none 0 0] fun ae cK B bO b=>L0<|b7 bO #[.int .u16 ((M.recs.getD k ⟨0,0,0,[]⟩).file),.int .u16 ((M.recs.getD k ⟨0,0,0,[]⟩).record),.int .u16 ((M.recs.getD k ⟨0,0,0,[]⟩).count),.slice av ((M.recs.getD k ⟨0,0,0,[]⟩).words.length) aw] fun cL af c=>nt<|sq<|bk<|sg<|Pl 1<|?_
 have s:=ud b c B
 have C:=aI ar s
 refine L0<|aR (ub C ao) 0<|Pl 2<|cu 3 [32] 35 (((M.code==20)&&(dir==1))) (fun K aA=>?_) ?_
 refine bl 32 ((M.code==20)) (fun D=>?_) (fun D=>?_)
 have bQ:=am D
 exact Pl 3<|ce aA (dir==1) (by rw[D];rfl)
 have bQ:=ap D
 exact Pl 3<|ce aA false (by rw[D];rfl)
 refine Pl 1<|nt<|?_
 have R:=aI ad s
 refine cb (((M.code==20)&&(dir==1))) (fun o=>?_) (fun o=>?_)
 have aB:=(aW o).1
 have aD:=(aW o).2
 have cM:=am aB
 have cN:=am aD
 refine go<|Pl 2<|L0<|aR af 3<|Pl 1<|L0<|Oi (2*(((M.recs.getD k ⟨0,0,0,[]⟩).words.length:Nat) : Int))<|L0<|Oi (1+(2*(((M.recs.getD k ⟨0,0,0,[]⟩).words.length:Nat) : Int)))<|Pl 1<|L0<|dv (m:=2) (e:=5) #[.int .u8 ((1+(2*(((M.recs.getD k ⟨0,0,0,[]⟩).words.length:Nat) : Int)))%256),.int .u8 6] fun cO cP bR bS E=>?_
 have bT:=dK bR (xs:=[((1+(2*(((M.recs.getD k ⟨0,0,0,[]⟩).words.length:Nat) : Int)))%256),6]) (by as_aux_lemma=>kernel_rfl) (az (by omega) (az (by omega) aZ)) (by(try simp only[List.length_cons,List.length_nil]);omega) bS
 refine L0<|cQ bB (xs:=L) (ys:=([((1+(2*(((M.recs.getD k ⟨0,0,0,[]⟩).words.length:Nat) : Int)))%256),6])) (.int .u8 0) 1 (ax a (aI s E) (fun x hx=>ay) (fun _ _ h=>h)) (bT).rd (by(try simp only[List.length_append,List.length_cons,List.length_nil,aC]);omega) (le (le (le (le g.size f) b.size) c.size) E.size) fun aF cS cU aG ag=>Pl 1<|nl<|bn<|tn<|go<|Pl 2<|?_
 have ai:=ut (aE.mono (S':=(ob A++[])) E aq) ag (au il aq)
 refine L0<|aR (aE.blk ai (bj (dH a lr B) ay) af) 3<|?_
 refine L0<|Oc<|ef (bC (xs:=(M.recs.getD k ⟨0,0,0,[]⟩).words) (dG.old Q (ut R ai (au (aV a l.size) aq))) (by(try simp only[List.length_cons,List.length_nil]);omega)) fun cV cW cX bU cY cZ S=>?_
 refine L0<|cQ bB (xs:=(L++[((1+(2*(((M.recs.getD k ⟨0,0,0,[]⟩).words.length:Nat) : Int)))%256),6])) (ys:=(be ((M.recs.getD k ⟨0,0,0,[]⟩).words))) (.int .u8 0) 1 (ax aG S (fun x hx=>ay) (fun _ _ h=>h)) (bU).rd (by(try simp only[List.length_append,List.length_cons,List.length_nil,aC]);omega) (le (le (le (le (le (le g.size f) b.size) c.size) E.size) ag.size) S.size) fun bV bW d0 bX aH=>Pl 1<|nl<|bn<|tn<|go<|L0<|Oi (((k:Nat) : Int)+1)<|Pl 1<|nl<|?_
 exact gf ((k+1),((L++[((1+(2*(((M.recs.getD k ⟨0,0,0,[]⟩).words.length:Nat) : Int)))%256),6])++(be ((M.recs.getD k ⟨0,0,0,[]⟩).words))),bV,bW) ⟨(ut C (ut (aE.mono (S':=(ob A++(ob aF++[]))) ai (au il aq)) (ut (aE.mono (S':=(ob aF++[])) S aq) aH (au il aq)) (au il aq)) (au (aV a lr) (au (aV aG lr) aq))),(le (le (le (le (le (le f b.size) c.size) E.size) ag.size) S.size) aH.size),bX,(by(try dsimp only);omega),(by(try dsimp only);rw[← hL,dr dir M.code M.recs k (by omega)];simp only[iW,hd0,n,o,aB,aD,bs,if_true,if_false,decide_true,decide_false,List.append_assoc]),(by(try dsimp only);have hv:=hf.recw _ (dw ⟨0,0,0,[]⟩ M.recs k (by omega));(try simp only[List.length_append,List.length_cons,List.length_nil,aC]);omega),(by(try dsimp only);(try simp only[List.length_append,List.length_cons,List.length_nil]);omega)⟩ (by omega)
 refine Rg 13 (fun w'=>w'.cell? ⟨ae,0,none⟩=some (.int .u16 ((M.recs.getD k ⟨0,0,0,[]⟩).file))∧w'.cell? ⟨ae,1,none⟩=some (.int .u16 ((M.recs.getD k ⟨0,0,0,[]⟩).record))∧w'.cell? ⟨ae,2,none⟩=some (.int .u16 ((M.recs.getD k ⟨0,0,0,[]⟩).count))) fun d1 d=>?_
 have F:=ub d af
 refine bh ⟨(ah F rfl),(ah F rfl),(ah F rfl)⟩ fun p=>Rt 0 p<|Rt 3 p<|Rl 4 p (fun _ hs=>hs.1)<|Rt 5 p<|Rl 6 p (fun _ hs=>hs.2.1)<|Rt 7 p<|Rl 8 p (fun _ hs=>hs.2.2)<|?_
 refine R2 1 9 rfl rfl ?_ ?_
 refine  dv (m:=1) (e:=5) #[.int .u8 6] fun d2 d3 bY bZ i=>?_
 have aJ:=dK bY (xs:=[6]) (by as_aux_lemma=>kernel_rfl) (az (by omega) aZ) (by(try simp only[List.length_cons,List.length_nil]);omega) bZ
 have G:=ub i F
 refine bh ⟨(ah G rfl),(ah G rfl),(ah G rfl)⟩ fun d4=>?_
 refine R2 2 9 rfl rfl ?_ ?_
 have aK:=aI d i
 refine  cQ bB (xs:=L) (ys:=([6])) (.int .u8 0) 1 (ax a (aI s aK) (fun x hx=>ay) (fun _ _ h=>h)) (aJ).rd (by(try simp only[List.length_append,List.length_cons,List.length_nil,aC]);omega) (le (le (le (le (le g.size f) b.size) c.size) d.size) i.size) fun T d5 d6 aj H=>?_
 have U:=aE.blk H (bj (dH a lr B) ay) G
 refine bh ⟨(ah U rfl),(ah U rfl),(ah U rfl)⟩ fun d7=>R0 9 rfl<|dv (m:=3) (e:=24) #[.int .u16 ((M.recs.getD k ⟨0,0,0,[]⟩).file),.int .u16 ((M.recs.getD k ⟨0,0,0,[]⟩).record),.int .u16 ((M.recs.getD k ⟨0,0,0,[]⟩).count)] fun d9 da c0 c1 I=>?_
 have c2:=dX c0 (xs:=[(M.recs.getD k ⟨0,0,0,[]⟩).file,(M.recs.getD k ⟨0,0,0,[]⟩).record,(M.recs.getD k ⟨0,0,0,[]⟩).count]) (by as_aux_lemma=>kernel_rfl) (az (by omega) (az (by omega) (az (by omega) aZ))) (by(try simp only[List.length_cons,List.length_nil]);omega) c1
 have V:=ub I U
 refine bh ⟨(ah V rfl),(ah V rfl),(ah V rfl)⟩ fun db=>R0 10 rfl<|Oc<|ef (bC (xs:=[(M.recs.getD k ⟨0,0,0,[]⟩).file,(M.recs.getD k ⟨0,0,0,[]⟩).record,(M.recs.getD k ⟨0,0,0,[]⟩).count]) (c2).rd (by(try simp only[List.length_cons,List.length_nil]);omega)) fun dc dd de c3 df dg J=>?_
 have N:=ub J V
 refine bh ⟨(ah N rfl),(ah N rfl),(ah N rfl)⟩ fun dh=>?_
 have aL:=aI I J
 have aM:=ax aj aL (fun x hx=>ay) (fun _ _ h=>h)
 refine R0 11 rfl<|cQ bB (xs:=(L++[6])) (ys:=(be ([(M.recs.getD k ⟨0,0,0,[]⟩).file,(M.recs.getD k ⟨0,0,0,[]⟩).record,(M.recs.getD k ⟨0,0,0,[]⟩).count]))) (.int .u8 0) 1 aM (c3).rd (by(try simp only[List.length_append,List.length_cons,List.length_nil,aC]);omega) (le (le (le (le (le (le (le (le g.size f) b.size) c.size) d.size) i.size) H.size) I.size) J.size) fun aN di dj aO W=>?_
 have X:=aE.blk W (bj (dl N aM (by decide)) ay) N
 refine bh ⟨(ah X rfl),(ah X rfl),(ah X rfl)⟩ fun c4=>Rt 12 c4<|re<|bn<|tn<|go<|Pl 2<|L0<|aR X 3<|?_
 have aQ:=ut (aE.mono (S':=(ob A++(ob T++[]))) aK aq) (ut (aE.mono (S':=(ob A++(ob T++[]))) H (au il aq)) (ut (aE.mono (S':=(ob T++[])) aL aq) W (au il aq)) (au il aq)) (au il (au il aq))
 refine L0<|Oc<|ef (bC (xs:=(M.recs.getD k ⟨0,0,0,[]⟩).words) (dG.old Q (ut R aQ (au (aV a l.size) (au (aV aj l.size) aq)))) (by(try simp only[List.length_cons,List.length_nil]);omega)) fun dk dm dn c5 dp dq Y=>?_
 refine L0<|cQ bB (xs:=((L++[6])++(be ([(M.recs.getD k ⟨0,0,0,[]⟩).file,(M.recs.getD k ⟨0,0,0,[]⟩).record,(M.recs.getD k ⟨0,0,0,[]⟩).count])))) (ys:=(be ((M.recs.getD k ⟨0,0,0,[]⟩).words))) (.int .u8 0) 1 (ax aO Y (fun x hx=>ay) (fun _ _ h=>h)) (c5).rd (by(try simp only[List.length_append,List.length_cons,List.length_nil,aC]);omega) (le (le (le (le (le (le (le (le (le (le g.size f) b.size) c.size) d.size) i.size) H.size) I.size) J.size) W.size) Y.size) fun c6 c7 ds c8 aS=>Pl 1<|nl<|bn<|tn<|go<|L0<|Oi (((k:Nat) : Int)+1)<|Pl 1<|nl<|?_
 exact gf ((k+1),(((L++[6])++(be ([(M.recs.getD k ⟨0,0,0,[]⟩).file,(M.recs.getD k ⟨0,0,0,[]⟩).record,(M.recs.getD k ⟨0,0,0,[]⟩).count])))++(be ((M.recs.getD k ⟨0,0,0,[]⟩).words))),c6,c7) ⟨(ut C (ut (aE.mono (S':=(ob A++(ob T++(ob aN++[])))) aQ (au il (au il aq))) (ut (aE.mono (S':=(ob aN++[])) Y aq) aS (au il aq)) (au il aq)) (au (aV a lr) (au (aV aj lr) (au (aV aO lr) aq)))),(le (le (le (le (le (le (le (le (le (le f b.size) c.size) d.size) i.size) H.size) I.size) J.size) W.size) Y.size) aS.size),c8,(by(try dsimp only);omega),(by(try dsimp only);rw[← hL,dr dir M.code M.recs k (by omega)];simp only[iW,hd0,n,o,bs,if_true,if_false,decide_true,decide_false,List.append_assoc]),(by(try dsimp only);have hv:=hf.recw _ (dw ⟨0,0,0,[]⟩ M.recs k (by omega));(try simp only[List.length_append,List.length_cons,List.length_nil,aC]);omega),(by(try dsimp only);(try simp only[List.length_append,List.length_cons,List.length_nil]);omega)⟩ (by omega)
 refine  dv (m:=3) (e:=24) #[.int .u16 ((M.recs.getD k ⟨0,0,0,[]⟩).file),.int .u16 ((M.recs.getD k ⟨0,0,0,[]⟩).record),.int .u16 ((M.recs.getD k ⟨0,0,0,[]⟩).count)] fun dt dy c9 ca q=>?_
 have aT:=dX c9 (xs:=[(M.recs.getD k ⟨0,0,0,[]⟩).file,(M.recs.getD k ⟨0,0,0,[]⟩).record,(M.recs.getD k ⟨0,0,0,[]⟩).count]) (by as_aux_lemma=>kernel_rfl) (az (by omega) (az (by omega) (az (by omega) aZ))) (by(try simp only[List.length_cons,List.length_nil]);omega) ca
 have Z:=ub q G
 refine bh ⟨(ah Z rfl),(ah Z rfl),(ah Z rfl)⟩ fun dz=>?_
 have aU:=aI d (aI i q)
 refine R0 2 rfl<|cQ bB (xs:=L) (ys:=([6])) (.int .u8 0) 1 (ax a (aI s aU) (fun x hx=>ay) (fun _ _ h=>h)) ((ax aJ q (fun x hx=>ay) (fun _ _ h=>h))).rd (by(try simp only[List.length_append,List.length_cons,List.length_nil,aC]);omega) (le (le (le (le (le (le g.size f) b.size) c.size) d.size) i.size) q.size) fun a0 dA dB ak t=>?_
 have a1:=aE.blk t (bj (dH a lr B) ay) Z
 refine bh ⟨(ah a1 rfl),(ah a1 rfl),(ah a1 rfl)⟩ fun dC=>?_
 refine R0 10 rfl<|Oc<|ef (bC (xs:=[(M.recs.getD k ⟨0,0,0,[]⟩).file,(M.recs.getD k ⟨0,0,0,[]⟩).record,(M.recs.getD k ⟨0,0,0,[]⟩).count]) ((ax aT t (fun x hx=>(bj ((fu aT a (le (le (le b.size c.size) d.size) i.size)) x hx) ay)) (fun _ _ h=>h))).rd (by(try simp only[List.length_cons,List.length_nil]);omega)) fun dD dE dF cc dI dJ u=>?_
 have O:=ub u a1
 refine bh ⟨(ah O rfl),(ah O rfl),(ah O rfl)⟩ fun dL=>?_
 have aX:=ax ak u (fun x hx=>ay) (fun _ _ h=>h)
 refine R0 11 rfl<|cQ bB (xs:=(L++[6])) (ys:=(be ([(M.recs.getD k ⟨0,0,0,[]⟩).file,(M.recs.getD k ⟨0,0,0,[]⟩).record,(M.recs.getD k ⟨0,0,0,[]⟩).count]))) (.int .u8 0) 1 aX (cc).rd (by(try simp only[List.length_append,List.length_cons,List.length_nil,aC]);omega) (le (le (le (le (le (le (le (le g.size f) b.size) c.size) d.size) i.size) q.size) t.size) u.size) fun aY dM dN b0 a2=>?_
 have a3:=aE.blk a2 (bj (dl O aX (by decide)) ay) O
 refine bh ⟨(ah a3 rfl),(ah a3 rfl),(ah a3 rfl)⟩ fun cd=>Rt 12 cd<|re<|bn<|tn<|go<|Pl 2<|L0<|aR a3 3<|?_
 have b1:=ut (aE.mono (S':=(ob A++(ob a0++[]))) aU aq) (ut (aE.mono (S':=(ob A++(ob a0++[]))) t (au il aq)) (ut (aE.mono (S':=(ob a0++[])) u aq) a2 (au il aq)) (au il aq)) (au il (au il aq))
 refine L0<|Oc<|ef (bC (xs:=(M.recs.getD k ⟨0,0,0,[]⟩).words) (dG.old Q (ut R b1 (au (aV a l.size) (au (aV ak l.size) aq)))) (by(try simp only[List.length_cons,List.length_nil]);omega)) fun dO dP dQ cf dR dS a4=>?_
 refine L0<|cQ bB (xs:=((L++[6])++(be ([(M.recs.getD k ⟨0,0,0,[]⟩).file,(M.recs.getD k ⟨0,0,0,[]⟩).record,(M.recs.getD k ⟨0,0,0,[]⟩).count])))) (ys:=(be ((M.recs.getD k ⟨0,0,0,[]⟩).words))) (.int .u8 0) 1 (ax b0 a4 (fun x hx=>ay) (fun _ _ h=>h)) (cf).rd (by(try simp only[List.length_append,List.length_cons,List.length_nil,aC]);omega) (le (le (le (le (le (le (le (le (le (le g.size f) b.size) c.size) d.size) i.size) q.size) t.size) u.size) a2.size) a4.size) fun cg ch dT ci b2=>Pl 1<|nl<|bn<|tn<|go<|L0<|Oi (((k:Nat) : Int)+1)<|Pl 1<|nl<|?_
 exact gf ((k+1),(((L++[6])++(be ([(M.recs.getD k ⟨0,0,0,[]⟩).file,(M.recs.getD k ⟨0,0,0,[]⟩).record,(M.recs.getD k ⟨0,0,0,[]⟩).count])))++(be ((M.recs.getD k ⟨0,0,0,[]⟩).words))),cg,ch) ⟨(ut C (ut (aE.mono (S':=(ob A++(ob a0++(ob aY++[])))) b1 (au il (au il aq))) (ut (aE.mono (S':=(ob aY++[])) a4 aq) b2 (au il aq)) (au il aq)) (au (aV a lr) (au (aV ak lr) (au (aV b0 lr) aq)))),(le (le (le (le (le (le (le (le (le (le f b.size) c.size) d.size) i.size) q.size) t.size) u.size) a2.size) a4.size) b2.size),ci,(by(try dsimp only);omega),(by(try dsimp only);rw[← hL,dr dir M.code M.recs k (by omega)];simp only[iW,hd0,n,o,bs,if_true,if_false,decide_true,decide_false,List.append_assoc]),(by(try dsimp only);have hv:=hf.recw _ (dw ⟨0,0,0,[]⟩ M.recs k (by omega));(try simp only[List.length_append,List.length_cons,List.length_nil,aC]);omega),(by(try dsimp only);(try simp only[List.length_append,List.length_cons,List.length_nil]);omega)⟩ (by omega)
 refine  dv (m:=3) (e:=24) #[.int .u16 ((M.recs.getD k ⟨0,0,0,[]⟩).file),.int .u16 ((M.recs.getD k ⟨0,0,0,[]⟩).record),.int .u16 ((M.recs.getD k ⟨0,0,0,[]⟩).count)] fun dU dV cj ck v=>?_
 have b3:=dX cj (xs:=[(M.recs.getD k ⟨0,0,0,[]⟩).file,(M.recs.getD k ⟨0,0,0,[]⟩).record,(M.recs.getD k ⟨0,0,0,[]⟩).count]) (by as_aux_lemma=>kernel_rfl) (az (by omega) (az (by omega) (az (by omega) aZ))) (by(try simp only[List.length_cons,List.length_nil]);omega) ck
 have a5:=ub v F
 refine bh ⟨(ah a5 rfl),(ah a5 rfl),(ah a5 rfl)⟩ fun dW=>R0 1 rfl<|dv (m:=1) (e:=5) #[.int .u8 6] fun dY dZ cl cm r=>?_
 have cn:=dK cl (xs:=[6]) (by as_aux_lemma=>kernel_rfl) (az (by omega) aZ) (by(try simp only[List.length_cons,List.length_nil]);omega) cm
 have a6:=ub r a5
 refine bh ⟨(ah a6 rfl),(ah a6 rfl),(ah a6 rfl)⟩ fun e0=>?_
 have b4:=aI d (aI v r)
 refine R0 2 rfl<|cQ bB (xs:=L) (ys:=([6])) (.int .u8 0) 1 (ax a (aI s b4) (fun x hx=>ay) (fun _ _ h=>h)) (cn).rd (by(try simp only[List.length_append,List.length_cons,List.length_nil,aC]);omega) (le (le (le (le (le (le g.size f) b.size) c.size) d.size) v.size) r.size) fun a7 e1 e2 al y=>?_
 have a8:=aE.blk y (bj (dH a lr B) ay) a6
 refine bh ⟨(ah a8 rfl),(ah a8 rfl),(ah a8 rfl)⟩ fun e3=>?_
 refine R0 10 rfl<|Oc<|ef (bC (xs:=[(M.recs.getD k ⟨0,0,0,[]⟩).file,(M.recs.getD k ⟨0,0,0,[]⟩).record,(M.recs.getD k ⟨0,0,0,[]⟩).count]) ((ax b3 (ut (aE.mono (S':=(ob A++[])) r aq) y (au il aq)) (fun x hx=>(bj ((fu b3 a (le (le b.size c.size) d.size)) x hx) ay)) (fun _ _ h=>h))).rd (by(try simp only[List.length_cons,List.length_nil]);omega)) fun e4 e5 e6 co e7 e8 z=>?_
 have P:=ub z a8
 refine bh ⟨(ah P rfl),(ah P rfl),(ah P rfl)⟩ fun e9=>?_
 have b5:=ax al z (fun x hx=>ay) (fun _ _ h=>h)
 refine R0 11 rfl<|cQ bB (xs:=(L++[6])) (ys:=(be ([(M.recs.getD k ⟨0,0,0,[]⟩).file,(M.recs.getD k ⟨0,0,0,[]⟩).record,(M.recs.getD k ⟨0,0,0,[]⟩).count]))) (.int .u8 0) 1 b5 (co).rd (by(try simp only[List.length_append,List.length_cons,List.length_nil,aC]);omega) (le (le (le (le (le (le (le (le g.size f) b.size) c.size) d.size) v.size) r.size) y.size) z.size) fun b8 ea eb b9 a9=>?_
 have aa:=aE.blk a9 (bj (dl P b5 (by decide)) ay) P
 refine bh ⟨(ah aa rfl),(ah aa rfl),(ah aa rfl)⟩ fun cq=>Rt 12 cq<|re<|bn<|tn<|go<|Pl 2<|L0<|aR aa 3<|?_
 have ba:=ut (aE.mono (S':=(ob A++(ob a7++[]))) b4 aq) (ut (aE.mono (S':=(ob A++(ob a7++[]))) y (au il aq)) (ut (aE.mono (S':=(ob a7++[])) z aq) a9 (au il aq)) (au il aq)) (au il (au il aq))
 refine L0<|Oc<|ef (bC (xs:=(M.recs.getD k ⟨0,0,0,[]⟩).words) (dG.old Q (ut R ba (au (aV a l.size) (au (aV al l.size) aq)))) (by(try simp only[List.length_cons,List.length_nil]);omega)) fun ec ed ee cr eg eh ab=>?_
 refine L0<|cQ bB (xs:=((L++[6])++(be ([(M.recs.getD k ⟨0,0,0,[]⟩).file,(M.recs.getD k ⟨0,0,0,[]⟩).record,(M.recs.getD k ⟨0,0,0,[]⟩).count])))) (ys:=(be ((M.recs.getD k ⟨0,0,0,[]⟩).words))) (.int .u8 0) 1 (ax b9 ab (fun x hx=>ay) (fun _ _ h=>h)) (cr).rd (by(try simp only[List.length_append,List.length_cons,List.length_nil,aC]);omega) (le (le (le (le (le (le (le (le (le (le g.size f) b.size) c.size) d.size) v.size) r.size) y.size) z.size) a9.size) ab.size) fun ct cv ei cw bb=>Pl 1<|nl<|bn<|tn<|go<|L0<|Oi (((k:Nat) : Int)+1)<|Pl 1<|nl<|?_
 exact gf ((k+1),(((L++[6])++(be ([(M.recs.getD k ⟨0,0,0,[]⟩).file,(M.recs.getD k ⟨0,0,0,[]⟩).record,(M.recs.getD k ⟨0,0,0,[]⟩).count])))++(be ((M.recs.getD k ⟨0,0,0,[]⟩).words))),ct,cv) ⟨(ut C (ut (aE.mono (S':=(ob A++(ob a7++(ob b8++[])))) ba (au il (au il aq))) (ut (aE.mono (S':=(ob b8++[])) ab aq) bb (au il aq)) (au il aq)) (au (aV a lr) (au (aV al lr) (au (aV b9 lr) aq)))),(le (le (le (le (le (le (le (le (le (le f b.size) c.size) d.size) v.size) r.size) y.size) z.size) a9.size) ab.size) bb.size),cw,(by(try dsimp only);omega),(by(try dsimp only);rw[← hL,dr dir M.code M.recs k (by omega)];simp only[iW,hd0,n,o,bs,if_true,if_false,decide_true,decide_false,List.append_assoc]),(by(try dsimp only);have hv:=hf.recw _ (dw ⟨0,0,0,[]⟩ M.recs k (by omega));(try simp only[List.length_append,List.length_cons,List.length_nil,aC]);omega),(by(try dsimp only);(try simp only[List.length_append,List.length_cons,List.length_nil]);omega)⟩ (by omega)
 have bJ:=of_decide_eq_false n
 refine xt<|tx<|tx<|bx<|tn<|sg<|Pl 3<|L0<|Oi (((L.length:Nat) : Int)-1)<|Pl 1<|fM (bi.at_ (a).rd 0 (by omega)) fun ej ek bc el em=>L0<|kj L.length 0 bc (by omega)<|L0<|ta bB (j:=0) a bc (by omega) ((((L.length:Nat) : Int)-1)%256) (fun _=>⟨rfl,by omega⟩) fun eo cx cy=>nl<|?_
 refine tn<|sg<|Pl 2<|nt<|rt<|rr (.slice A L.length cp)<|?_
 have hk:k=M.recs.length:=by omega
 rw[hk,List.drop_length] at hL
 have hL2:[0]++cR dir M.code M.recs=L:=by rw[← hL];simp[cR]
 have hs:cT dir M=(L.set 0 ((((L.length:Nat) : Int)-1)%256)):=by unfold cT;rw[hL2]
 rw[hs]
 exact⟨_,rfl,(bf.weaken cx l.size),(ut ad cy (au (aV a l.size) aq))⟩
theorem lT{m:Md}{cs:Array Value}{M:aP}{w:World}{dir:Int}(h:b6 m w cs.toList M)(hf:d8 M)(hd0:(dir==0)=false) : Calls Tryz.prog 212 #[.int .i64 dir,.agg cs] w (gt (cT dir M) w):=by
 obtain⟨vw,vb,vd,vr,vo,h0,hw,hbt,hd,hr,ho,hR⟩:=h
 obtain rfl:cs=(bP M vw vb vd vr vo).toArray:=by apply Array.toList_inj.1;simpa using h0
 clear h0
 obtain⟨Aw,kw,rfl,_,_⟩:=hw.shape
 obtain⟨Ab,kb,rfl,_,_⟩:=hbt.shape
 obtain⟨Ad,kd,rfl,_,_⟩:=hd.shape
 obtain⟨Ar,kr,rfl,_,_⟩:=hr.shape
 obtain⟨Ao,ko,rfl,_,_⟩:=ho.shape
 obtain⟨q0,q1,q2,q3,q4,q5,q6,q7,q8,q9,bd,bg,bm,bo,bp,bq,br⟩:=hR
 simp only[B8,dx] at q0 q1 q2 q3 q4 q5 q6 q7 q8 q9 bd bg bm bo bp bq br
 have hf1:=hf.words
 have hf2:=hf.bits
 have hf3:=hf.data
 have hf4:=hf.recs
 have hf5:=hf.objects
 refine en 58 Tryz.func212 rfl<|sg<|L0<|du (mG M.code M.fail M.addr M.count M.value M.and_ M.or_ M.addr2 M.sub M.status M.events M.messages (.slice Aw M.words.length kw) (.slice Ab M.bits.length kb) (.slice Ad M.data.length kd) (.slice Ar M.recs.length kr) M.mei M.kind M.level M.more M.next (.slice Ao M.objects.length ko)) fun an ac cz ao l=>Pl 1<|ng<|L0<|dv (m:=1) (e:=5) #[.int .u8 0] fun bt bu bv bw g=>?_
 have bA:=dK bv (xs:=[0]) (by as_aux_lemma=>kernel_rfl) (az (by omega) aZ) (by(try simp only[List.length_cons,List.length_nil]);omega) bw
 refine Pl 1<|nt<|sq<|sg<|Pl 1<|?_
 refine L0<|aR (ub g ao) 15<|Pl 2<|nt<|bk<|?_
 refine jc (fun x=>[(0,.int .i64 dir),(3,.pointer (some ⟨an,0,none⟩)),(4,.slice none 0 0),(5,.slice x.2.2.1 x.2.1.length x.2.2.2),(10,.slice Ar M.recs.length kr),(11,.int .i64 ((M.recs.length:Nat) : Int)),(12,.int .i64 ((x.1:Nat) : Int))]) (fun(x:Nat × List Int × Option Addr × Nat) w'=>aE [] ac w'∧bu.heap.size≤w'.heap.size∧fD ac.heap.size w' (.slice x.2.2.1 x.2.1.length x.2.2.2) x.2.1∧(x.1≤M.recs.length)∧(x.2.1++cR dir M.code (M.recs.drop x.1)=([0])++cR dir M.code M.recs)∧(x.2.1.length≤16+x.1*2060)∧(1≤x.2.1.length)) (fun x=>M.recs.length-x.1) (0,[0],some ⟨bt,0,none⟩,1) ⟨g,lr,bA,(by(try dsimp only);omega),rfl,(by(try dsimp only);(try simp only[List.length_cons,List.length_nil]);omega),(by(try dsimp only);(try simp only[List.length_cons,List.length_nil]);omega)⟩ ?_
 rintro⟨k,L,A,cp⟩ bD ⟨ar,f,bE,bF,bG,bH,bI⟩
 refine jf [(0,.int .i64 dir),(3,.pointer (some ⟨an,0,none⟩)),(4,.slice none 0 0),(5,.slice A L.length cp),(10,.slice Ar M.recs.length kr),(11,.int .i64 ((M.recs.length:Nat) : Int)),(12,.int .i64 ((k:Nat) : Int))] ?_
 have a:fD ac.heap.size bD (.slice A L.length cp) L:=bE
 have cA:k≤M.recs.length:=bF
 have cB:L++cR dir M.code (M.recs.drop k)=([0])++cR dir M.code M.recs:=bG
 have cC:L.length≤16+k*2060:=bH
 have cD:1≤L.length:=bI
 have hL:L++cR dir M.code (M.recs.drop k)=([0])++cR dir M.code M.recs:=by assumption
 have hv0:=fun(h:k<M.recs.length)=>hf.recw _ (dw ⟨0,0,0,[]⟩ M.recs k h)
 refine sg<|Pl 1<|nt<|sq<|?_
 have ad:=aI l ar
 refine cb ((decide (((k:Nat) : Int)<((M.recs.length:Nat) : Int)))) (fun n=>?_) (fun n=>?_)
 have bJ:=of_decide_eq_true n
 refine bz<|sq<|bk<|sg<|kg (jF.elt hr k (by omega)) fun cE cF cG cH cI av aw bL bM Q cJ bN=>L0<|oT 4 M.recs.length k bL (by omega)<|?_
 refine L0<|tw [.int .u16 ((M.recs.getD k ⟨0,0,0,[]⟩).file),.int .u16 ((M.recs.getD k ⟨0,0,0,[]⟩).record),.int .u16 ((M.recs.getD k ⟨0,0,0,[]⟩).count),.slice av ((M.recs.getD k ⟨0,0,0,[]⟩).words.length) aw] (ub ad bM) bN<|L0<|bK #[.int .u16 0,.int .u16 0,.int .u16 0,.slice none 0 0] fun ae cK B bO b=>L0<|b7 bO #[.int .u16 ((M.recs.getD k ⟨0,0,0,[]⟩).file),.int .u16 ((M.recs.getD k ⟨0,0,0,[]⟩).record),.int .u16 ((M.recs.getD k ⟨0,0,0,[]⟩).count),.slice av ((M.recs.getD k ⟨0,0,0,[]⟩).words.length) aw] fun cL af c=>nt<|sq<|bk<|sg<|Pl 1<|?_
 have s:=ud b c B
 have C:=aI ar s
 refine L0<|aR (ub C ao) 0<|Pl 2<|cu 3 [32] 35 (((M.code==20)&&(dir==1))) (fun K aA=>?_) ?_
 refine bl 32 ((M.code==20)) (fun D=>?_) (fun D=>?_)
 have bQ:=am D
 exact Pl 3<|ce aA (dir==1) (by rw[D];rfl)
 have bQ:=ap D
 exact Pl 3<|ce aA false (by rw[D];rfl)
 refine Pl 1<|nt<|?_
 have R:=aI ad s
 refine cb (((M.code==20)&&(dir==1))) (fun o=>?_) (fun o=>?_)
 have aB:=(aW o).1
 have aD:=(aW o).2
 have cM:=am aB
 have cN:=am aD
 refine go<|Pl 2<|L0<|aR af 3<|Pl 1<|L0<|Oi (2*(((M.recs.getD k ⟨0,0,0,[]⟩).words.length:Nat) : Int))<|L0<|Oi (1+(2*(((M.recs.getD k ⟨0,0,0,[]⟩).words.length:Nat) : Int)))<|Pl 1<|L0<|dv (m:=2) (e:=5) #[.int .u8 ((1+(2*(((M.recs.getD k ⟨0,0,0,[]⟩).words.length:Nat) : Int)))%256),.int .u8 6] fun cO cP bR bS E=>?_
 have bT:=dK bR (xs:=[((1+(2*(((M.recs.getD k ⟨0,0,0,[]⟩).words.length:Nat) : Int)))%256),6]) (by as_aux_lemma=>kernel_rfl) (az (by omega) (az (by omega) aZ)) (by(try simp only[List.length_cons,List.length_nil]);omega) bS
 refine L0<|cQ bB (xs:=L) (ys:=([((1+(2*(((M.recs.getD k ⟨0,0,0,[]⟩).words.length:Nat) : Int)))%256),6])) (.int .u8 0) 1 (ax a (aI s E) (fun x hx=>ay) (fun _ _ h=>h)) (bT).rd (by(try simp only[List.length_append,List.length_cons,List.length_nil,aC]);omega) (le (le (le (le g.size f) b.size) c.size) E.size) fun aF cS cU aG ag=>Pl 1<|nl<|bn<|tn<|go<|Pl 2<|?_
 have ai:=ut (aE.mono (S':=(ob A++[])) E aq) ag (au il aq)
 refine L0<|aR (aE.blk ai (bj (dH a lr B) ay) af) 3<|?_
 refine L0<|Oc<|ef (bC (xs:=(M.recs.getD k ⟨0,0,0,[]⟩).words) (dG.old Q (ut R ai (au (aV a l.size) aq))) (by(try simp only[List.length_cons,List.length_nil]);omega)) fun cV cW cX bU cY cZ S=>?_
 refine L0<|cQ bB (xs:=(L++[((1+(2*(((M.recs.getD k ⟨0,0,0,[]⟩).words.length:Nat) : Int)))%256),6])) (ys:=(be ((M.recs.getD k ⟨0,0,0,[]⟩).words))) (.int .u8 0) 1 (ax aG S (fun x hx=>ay) (fun _ _ h=>h)) (bU).rd (by(try simp only[List.length_append,List.length_cons,List.length_nil,aC]);omega) (le (le (le (le (le (le g.size f) b.size) c.size) E.size) ag.size) S.size) fun bV bW d0 bX aH=>Pl 1<|nl<|bn<|tn<|go<|L0<|Oi (((k:Nat) : Int)+1)<|Pl 1<|nl<|?_
 exact gf ((k+1),((L++[((1+(2*(((M.recs.getD k ⟨0,0,0,[]⟩).words.length:Nat) : Int)))%256),6])++(be ((M.recs.getD k ⟨0,0,0,[]⟩).words))),bV,bW) ⟨(ut C (ut (aE.mono (S':=(ob A++(ob aF++[]))) ai (au il aq)) (ut (aE.mono (S':=(ob aF++[])) S aq) aH (au il aq)) (au il aq)) (au (aV a lr) (au (aV aG lr) aq))),(le (le (le (le (le (le f b.size) c.size) E.size) ag.size) S.size) aH.size),bX,(by(try dsimp only);omega),(by(try dsimp only);rw[← hL,dr dir M.code M.recs k (by omega)];simp only[iW,hd0,n,o,aB,aD,bs,if_true,if_false,decide_true,decide_false,List.append_assoc]),(by(try dsimp only);have hv:=hf.recw _ (dw ⟨0,0,0,[]⟩ M.recs k (by omega));(try simp only[List.length_append,List.length_cons,List.length_nil,aC]);omega),(by(try dsimp only);(try simp only[List.length_append,List.length_cons,List.length_nil]);omega)⟩ (by omega)
 refine Rg 13 (fun w'=>w'.cell? ⟨ae,0,none⟩=some (.int .u16 ((M.recs.getD k ⟨0,0,0,[]⟩).file))∧w'.cell? ⟨ae,1,none⟩=some (.int .u16 ((M.recs.getD k ⟨0,0,0,[]⟩).record))∧w'.cell? ⟨ae,2,none⟩=some (.int .u16 ((M.recs.getD k ⟨0,0,0,[]⟩).count))) fun d1 d=>?_
 have F:=ub d af
 refine bh ⟨(ah F rfl),(ah F rfl),(ah F rfl)⟩ fun p=>Rt 0 p<|Rt 3 p<|Rl 4 p (fun _ hs=>hs.1)<|Rt 5 p<|Rl 6 p (fun _ hs=>hs.2.1)<|Rt 7 p<|Rl 8 p (fun _ hs=>hs.2.2)<|?_
 refine R2 1 9 rfl rfl ?_ ?_
 refine  dv (m:=1) (e:=5) #[.int .u8 6] fun d2 d3 bY bZ i=>?_
 have aJ:=dK bY (xs:=[6]) (by as_aux_lemma=>kernel_rfl) (az (by omega) aZ) (by(try simp only[List.length_cons,List.length_nil]);omega) bZ
 have G:=ub i F
 refine bh ⟨(ah G rfl),(ah G rfl),(ah G rfl)⟩ fun d4=>?_
 refine R2 2 9 rfl rfl ?_ ?_
 have aK:=aI d i
 refine  cQ bB (xs:=L) (ys:=([6])) (.int .u8 0) 1 (ax a (aI s aK) (fun x hx=>ay) (fun _ _ h=>h)) (aJ).rd (by(try simp only[List.length_append,List.length_cons,List.length_nil,aC]);omega) (le (le (le (le (le g.size f) b.size) c.size) d.size) i.size) fun T d5 d6 aj H=>?_
 have U:=aE.blk H (bj (dH a lr B) ay) G
 refine bh ⟨(ah U rfl),(ah U rfl),(ah U rfl)⟩ fun d7=>R0 9 rfl<|dv (m:=3) (e:=24) #[.int .u16 ((M.recs.getD k ⟨0,0,0,[]⟩).file),.int .u16 ((M.recs.getD k ⟨0,0,0,[]⟩).record),.int .u16 ((M.recs.getD k ⟨0,0,0,[]⟩).count)] fun d9 da c0 c1 I=>?_
 have c2:=dX c0 (xs:=[(M.recs.getD k ⟨0,0,0,[]⟩).file,(M.recs.getD k ⟨0,0,0,[]⟩).record,(M.recs.getD k ⟨0,0,0,[]⟩).count]) (by as_aux_lemma=>kernel_rfl) (az (by omega) (az (by omega) (az (by omega) aZ))) (by(try simp only[List.length_cons,List.length_nil]);omega) c1
 have V:=ub I U
 refine bh ⟨(ah V rfl),(ah V rfl),(ah V rfl)⟩ fun db=>R0 10 rfl<|Oc<|ef (bC (xs:=[(M.recs.getD k ⟨0,0,0,[]⟩).file,(M.recs.getD k ⟨0,0,0,[]⟩).record,(M.recs.getD k ⟨0,0,0,[]⟩).count]) (c2).rd (by(try simp only[List.length_cons,List.length_nil]);omega)) fun dc dd de c3 df dg J=>?_
 have N:=ub J V
 refine bh ⟨(ah N rfl),(ah N rfl),(ah N rfl)⟩ fun dh=>?_
 have aL:=aI I J
 have aM:=ax aj aL (fun x hx=>ay) (fun _ _ h=>h)
 refine R0 11 rfl<|cQ bB (xs:=(L++[6])) (ys:=(be ([(M.recs.getD k ⟨0,0,0,[]⟩).file,(M.recs.getD k ⟨0,0,0,[]⟩).record,(M.recs.getD k ⟨0,0,0,[]⟩).count]))) (.int .u8 0) 1 aM (c3).rd (by(try simp only[List.length_append,List.length_cons,List.length_nil,aC]);omega) (le (le (le (le (le (le (le (le g.size f) b.size) c.size) d.size) i.size) H.size) I.size) J.size) fun aN di dj aO W=>?_
 have X:=aE.blk W (bj (dl N aM (by decide)) ay) N
 refine bh ⟨(ah X rfl),(ah X rfl),(ah X rfl)⟩ fun c4=>Rt 12 c4<|re<|bn<|tn<|go<|Pl 2<|L0<|aR X 3<|?_
 have aQ:=ut (aE.mono (S':=(ob A++(ob T++[]))) aK aq) (ut (aE.mono (S':=(ob A++(ob T++[]))) H (au il aq)) (ut (aE.mono (S':=(ob T++[])) aL aq) W (au il aq)) (au il aq)) (au il (au il aq))
 refine L0<|Oc<|ef (bC (xs:=(M.recs.getD k ⟨0,0,0,[]⟩).words) (dG.old Q (ut R aQ (au (aV a l.size) (au (aV aj l.size) aq)))) (by(try simp only[List.length_cons,List.length_nil]);omega)) fun dk dm dn c5 dp dq Y=>?_
 refine L0<|cQ bB (xs:=((L++[6])++(be ([(M.recs.getD k ⟨0,0,0,[]⟩).file,(M.recs.getD k ⟨0,0,0,[]⟩).record,(M.recs.getD k ⟨0,0,0,[]⟩).count])))) (ys:=(be ((M.recs.getD k ⟨0,0,0,[]⟩).words))) (.int .u8 0) 1 (ax aO Y (fun x hx=>ay) (fun _ _ h=>h)) (c5).rd (by(try simp only[List.length_append,List.length_cons,List.length_nil,aC]);omega) (le (le (le (le (le (le (le (le (le (le g.size f) b.size) c.size) d.size) i.size) H.size) I.size) J.size) W.size) Y.size) fun c6 c7 ds c8 aS=>Pl 1<|nl<|bn<|tn<|go<|L0<|Oi (((k:Nat) : Int)+1)<|Pl 1<|nl<|?_
 exact gf ((k+1),(((L++[6])++(be ([(M.recs.getD k ⟨0,0,0,[]⟩).file,(M.recs.getD k ⟨0,0,0,[]⟩).record,(M.recs.getD k ⟨0,0,0,[]⟩).count])))++(be ((M.recs.getD k ⟨0,0,0,[]⟩).words))),c6,c7) ⟨(ut C (ut (aE.mono (S':=(ob A++(ob T++(ob aN++[])))) aQ (au il (au il aq))) (ut (aE.mono (S':=(ob aN++[])) Y aq) aS (au il aq)) (au il aq)) (au (aV a lr) (au (aV aj lr) (au (aV aO lr) aq)))),(le (le (le (le (le (le (le (le (le (le f b.size) c.size) d.size) i.size) H.size) I.size) J.size) W.size) Y.size) aS.size),c8,(by(try dsimp only);omega),(by(try dsimp only);rw[← hL,dr dir M.code M.recs k (by omega)];simp only[iW,hd0,n,o,bs,if_true,if_false,decide_true,decide_false,List.append_assoc]),(by(try dsimp only);have hv:=hf.recw _ (dw ⟨0,0,0,[]⟩ M.recs k (by omega));(try simp only[List.length_append,List.length_cons,List.length_nil,aC]);omega),(by(try dsimp only);(try simp only[List.length_append,List.length_cons,List.length_nil]);omega)⟩ (by omega)
 refine  dv (m:=3) (e:=24) #[.int .u16 ((M.recs.getD k ⟨0,0,0,[]⟩).file),.int .u16 ((M.recs.getD k ⟨0,0,0,[]⟩).record),.int .u16 ((M.recs.getD k ⟨0,0,0,[]⟩).count)] fun dt dy c9 ca q=>?_
 have aT:=dX c9 (xs:=[(M.recs.getD k ⟨0,0,0,[]⟩).file,(M.recs.getD k ⟨0,0,0,[]⟩).record,(M.recs.getD k ⟨0,0,0,[]⟩).count]) (by as_aux_lemma=>kernel_rfl) (az (by omega) (az (by omega) (az (by omega) aZ))) (by(try simp only[List.length_cons,List.length_nil]);omega) ca
 have Z:=ub q G
 refine bh ⟨(ah Z rfl),(ah Z rfl),(ah Z rfl)⟩ fun dz=>?_
 have aU:=aI d (aI i q)
 refine R0 2 rfl<|cQ bB (xs:=L) (ys:=([6])) (.int .u8 0) 1 (ax a (aI s aU) (fun x hx=>ay) (fun _ _ h=>h)) ((ax aJ q (fun x hx=>ay) (fun _ _ h=>h))).rd (by(try simp only[List.length_append,List.length_cons,List.length_nil,aC]);omega) (le (le (le (le (le (le g.size f) b.size) c.size) d.size) i.size) q.size) fun a0 dA dB ak t=>?_
 have a1:=aE.blk t (bj (dH a lr B) ay) Z
 refine bh ⟨(ah a1 rfl),(ah a1 rfl),(ah a1 rfl)⟩ fun dC=>?_
 refine R0 10 rfl<|Oc<|ef (bC (xs:=[(M.recs.getD k ⟨0,0,0,[]⟩).file,(M.recs.getD k ⟨0,0,0,[]⟩).record,(M.recs.getD k ⟨0,0,0,[]⟩).count]) ((ax aT t (fun x hx=>(bj ((fu aT a (le (le (le b.size c.size) d.size) i.size)) x hx) ay)) (fun _ _ h=>h))).rd (by(try simp only[List.length_cons,List.length_nil]);omega)) fun dD dE dF cc dI dJ u=>?_
 have O:=ub u a1
 refine bh ⟨(ah O rfl),(ah O rfl),(ah O rfl)⟩ fun dL=>?_
 have aX:=ax ak u (fun x hx=>ay) (fun _ _ h=>h)
 refine R0 11 rfl<|cQ bB (xs:=(L++[6])) (ys:=(be ([(M.recs.getD k ⟨0,0,0,[]⟩).file,(M.recs.getD k ⟨0,0,0,[]⟩).record,(M.recs.getD k ⟨0,0,0,[]⟩).count]))) (.int .u8 0) 1 aX (cc).rd (by(try simp only[List.length_append,List.length_cons,List.length_nil,aC]);omega) (le (le (le (le (le (le (le (le g.size f) b.size) c.size) d.size) i.size) q.size) t.size) u.size) fun aY dM dN b0 a2=>?_
 have a3:=aE.blk a2 (bj (dl O aX (by decide)) ay) O
 refine bh ⟨(ah a3 rfl),(ah a3 rfl),(ah a3 rfl)⟩ fun cd=>Rt 12 cd<|re<|bn<|tn<|go<|Pl 2<|L0<|aR a3 3<|?_
 have b1:=ut (aE.mono (S':=(ob A++(ob a0++[]))) aU aq) (ut (aE.mono (S':=(ob A++(ob a0++[]))) t (au il aq)) (ut (aE.mono (S':=(ob a0++[])) u aq) a2 (au il aq)) (au il aq)) (au il (au il aq))
 refine L0<|Oc<|ef (bC (xs:=(M.recs.getD k ⟨0,0,0,[]⟩).words) (dG.old Q (ut R b1 (au (aV a l.size) (au (aV ak l.size) aq)))) (by(try simp only[List.length_cons,List.length_nil]);omega)) fun dO dP dQ cf dR dS a4=>?_
 refine L0<|cQ bB (xs:=((L++[6])++(be ([(M.recs.getD k ⟨0,0,0,[]⟩).file,(M.recs.getD k ⟨0,0,0,[]⟩).record,(M.recs.getD k ⟨0,0,0,[]⟩).count])))) (ys:=(be ((M.recs.getD k ⟨0,0,0,[]⟩).words))) (.int .u8 0) 1 (ax b0 a4 (fun x hx=>ay) (fun _ _ h=>h)) (cf).rd (by(try simp only[List.length_append,List.length_cons,List.length_nil,aC]);omega) (le (le (le (le (le (le (le (le (le (le g.size f) b.size) c.size) d.size) i.size) q.size) t.size) u.size) a2.size) a4.size) fun cg ch dT ci b2=>Pl 1<|nl<|bn<|tn<|go<|L0<|Oi (((k:Nat) : Int)+1)<|Pl 1<|nl<|?_
 exact gf ((k+1),(((L++[6])++(be ([(M.recs.getD k ⟨0,0,0,[]⟩).file,(M.recs.getD k ⟨0,0,0,[]⟩).record,(M.recs.getD k ⟨0,0,0,[]⟩).count])))++(be ((M.recs.getD k ⟨0,0,0,[]⟩).words))),cg,ch) ⟨(ut C (ut (aE.mono (S':=(ob A++(ob a0++(ob aY++[])))) b1 (au il (au il aq))) (ut (aE.mono (S':=(ob aY++[])) a4 aq) b2 (au il aq)) (au il aq)) (au (aV a lr) (au (aV ak lr) (au (aV b0 lr) aq)))),(le (le (le (le (le (le (le (le (le (le f b.size) c.size) d.size) i.size) q.size) t.size) u.size) a2.size) a4.size) b2.size),ci,(by(try dsimp only);omega),(by(try dsimp only);rw[← hL,dr dir M.code M.recs k (by omega)];simp only[iW,hd0,n,o,bs,if_true,if_false,decide_true,decide_false,List.append_assoc]),(by(try dsimp only);have hv:=hf.recw _ (dw ⟨0,0,0,[]⟩ M.recs k (by omega));(try simp only[List.length_append,List.length_cons,List.length_nil,aC]);omega),(by(try dsimp only);(try simp only[List.length_append,List.length_cons,List.length_nil]);omega)⟩ (by omega)
 refine  dv (m:=3) (e:=24) #[.int .u16 ((M.recs.getD k ⟨0,0,0,[]⟩).file),.int .u16 ((M.recs.getD k ⟨0,0,0,[]⟩).record),.int .u16 ((M.recs.getD k ⟨0,0,0,[]⟩).count)] fun dU dV cj ck v=>?_
 have b3:=dX cj (xs:=[(M.recs.getD k ⟨0,0,0,[]⟩).file,(M.recs.getD k ⟨0,0,0,[]⟩).record,(M.recs.getD k ⟨0,0,0,[]⟩).count]) (by as_aux_lemma=>kernel_rfl) (az (by omega) (az (by omega) (az (by omega) aZ))) (by(try simp only[List.length_cons,List.length_nil]);omega) ck
 have a5:=ub v F
 refine bh ⟨(ah a5 rfl),(ah a5 rfl),(ah a5 rfl)⟩ fun dW=>R0 1 rfl<|dv (m:=1) (e:=5) #[.int .u8 6] fun dY dZ cl cm r=>?_
 have cn:=dK cl (xs:=[6]) (by as_aux_lemma=>kernel_rfl) (az (by omega) aZ) (by(try simp only[List.length_cons,List.length_nil]);omega) cm
 have a6:=ub r a5
 refine bh ⟨(ah a6 rfl),(ah a6 rfl),(ah a6 rfl)⟩ fun e0=>?_
 have b4:=aI d (aI v r)
 refine R0 2 rfl<|cQ bB (xs:=L) (ys:=([6])) (.int .u8 0) 1 (ax a (aI s b4) (fun x hx=>ay) (fun _ _ h=>h)) (cn).rd (by(try simp only[List.length_append,List.length_cons,List.length_nil,aC]);omega) (le (le (le (le (le (le g.size f) b.size) c.size) d.size) v.size) r.size) fun a7 e1 e2 al y=>?_
 have a8:=aE.blk y (bj (dH a lr B) ay) a6
 refine bh ⟨(ah a8 rfl),(ah a8 rfl),(ah a8 rfl)⟩ fun e3=>?_
 refine R0 10 rfl<|Oc<|ef (bC (xs:=[(M.recs.getD k ⟨0,0,0,[]⟩).file,(M.recs.getD k ⟨0,0,0,[]⟩).record,(M.recs.getD k ⟨0,0,0,[]⟩).count]) ((ax b3 (ut (aE.mono (S':=(ob A++[])) r aq) y (au il aq)) (fun x hx=>(bj ((fu b3 a (le (le b.size c.size) d.size)) x hx) ay)) (fun _ _ h=>h))).rd (by(try simp only[List.length_cons,List.length_nil]);omega)) fun e4 e5 e6 co e7 e8 z=>?_
 have P:=ub z a8
 refine bh ⟨(ah P rfl),(ah P rfl),(ah P rfl)⟩ fun e9=>?_
 have b5:=ax al z (fun x hx=>ay) (fun _ _ h=>h)
 refine R0 11 rfl<|cQ bB (xs:=(L++[6])) (ys:=(be ([(M.recs.getD k ⟨0,0,0,[]⟩).file,(M.recs.getD k ⟨0,0,0,[]⟩).record,(M.recs.getD k ⟨0,0,0,[]⟩).count]))) (.int .u8 0) 1 b5 (co).rd (by(try simp only[List.length_append,List.length_cons,List.length_nil,aC]);omega) (le (le (le (le (le (le (le (le g.size f) b.size) c.size) d.size) v.size) r.size) y.size) z.size) fun b8 ea eb b9 a9=>?_
 have aa:=aE.blk a9 (bj (dl P b5 (by decide)) ay) P
 refine bh ⟨(ah aa rfl),(ah aa rfl),(ah aa rfl)⟩ fun cq=>Rt 12 cq<|re<|bn<|tn<|go<|Pl 2<|L0<|aR aa 3<|?_
 have ba:=ut (aE.mono (S':=(ob A++(ob a7++[]))) b4 aq) (ut (aE.mono (S':=(ob A++(ob a7++[]))) y (au il aq)) (ut (aE.mono (S':=(ob a7++[])) z aq) a9 (au il aq)) (au il aq)) (au il (au il aq))
 refine L0<|Oc<|ef (bC (xs:=(M.recs.getD k ⟨0,0,0,[]⟩).words) (dG.old Q (ut R ba (au (aV a l.size) (au (aV al l.size) aq)))) (by(try simp only[List.length_cons,List.length_nil]);omega)) fun ec ed ee cr eg eh ab=>?_
 refine L0<|cQ bB (xs:=((L++[6])++(be ([(M.recs.getD k ⟨0,0,0,[]⟩).file,(M.recs.getD k ⟨0,0,0,[]⟩).record,(M.recs.getD k ⟨0,0,0,[]⟩).count])))) (ys:=(be ((M.recs.getD k ⟨0,0,0,[]⟩).words))) (.int .u8 0) 1 (ax b9 ab (fun x hx=>ay) (fun _ _ h=>h)) (cr).rd (by(try simp only[List.length_append,List.length_cons,List.length_nil,aC]);omega) (le (le (le (le (le (le (le (le (le (le g.size f) b.size) c.size) d.size) v.size) r.size) y.size) z.size) a9.size) ab.size) fun ct cv ei cw bb=>Pl 1<|nl<|bn<|tn<|go<|L0<|Oi (((k:Nat) : Int)+1)<|Pl 1<|nl<|?_
 exact gf ((k+1),(((L++[6])++(be ([(M.recs.getD k ⟨0,0,0,[]⟩).file,(M.recs.getD k ⟨0,0,0,[]⟩).record,(M.recs.getD k ⟨0,0,0,[]⟩).count])))++(be ((M.recs.getD k ⟨0,0,0,[]⟩).words))),ct,cv) ⟨(ut C (ut (aE.mono (S':=(ob A++(ob a7++(ob b8++[])))) ba (au il (au il aq))) (ut (aE.mono (S':=(ob b8++[])) ab aq) bb (au il aq)) (au il aq)) (au (aV a lr) (au (aV al lr) (au (aV b9 lr) aq)))),(le (le (le (le (le (le (le (le (le (le f b.size) c.size) d.size) v.size) r.size) y.size) z.size) a9.size) ab.size) bb.size),cw,(by(try dsimp only);omega),(by(try dsimp only);rw[← hL,dr dir M.code M.recs k (by omega)];simp only[iW,hd0,n,o,bs,if_true,if_false,decide_true,decide_false,List.append_assoc]),(by(try dsimp only);have hv:=hf.recw _ (dw ⟨0,0,0,[]⟩ M.recs k (by omega));(try simp only[List.length_append,List.length_cons,List.length_nil,aC]);omega),(by(try dsimp only);(try simp only[List.length_append,List.length_cons,List.length_nil]);omega)⟩ (by omega)
 have bJ:=of_decide_eq_false n
 refine xt<|tx<|tx<|bx<|tn<|sg<|Pl 3<|L0<|Oi (((L.length:Nat) : Int)-1)<|Pl 1<|fM (bi.at_ (a).rd 0 (by omega)) fun ej ek bc el em=>L0<|kj L.length 0 bc (by omega)<|L0<|ta bB (j:=0) a bc (by omega) ((((L.length:Nat) : Int)-1)%256) (fun _=>⟨rfl,by omega⟩) fun eo cx cy=>nl<|?_
 refine tn<|sg<|Pl 2<|nt<|rt<|rr (.slice A L.length cp)<|?_
 have hk:k=M.recs.length:=by omega
 rw[hk,List.drop_length] at hL
 have hL2:[0]++cR dir M.code M.recs=L:=by rw[← hL];simp[cR]
 have hs:cT dir M=(L.set 0 ((((L.length:Nat) : Int)-1)%256)):=by unfold cT;rw[hL2]
 rw[hs]
 exact⟨_,rfl,(bf.weaken cx l.size),(ut ad cy (au (aV a l.size) aq))⟩
theorem oy{m:Md}{cs:Array Value}{M:aP}{w:World}{dir:Int}(h:b6 m w cs.toList M)(hf:d8 M) : Calls Tryz.prog 212 #[.int .i64 dir,.agg cs] w (gt (cT dir M) w):=by
  rcases dJ (dir==0) with h0|h0
  · exact ll h hf h0
  · exact lT h hf h0
open Go.RowKit
theorem gG{parse:Int→Int→List Int→aP × Int}{lay:Int→aP→List Int}{dir E:Int}{M X:aP}(hX:parse dir M.code (lay dir M)=(X,E))(hE:(E != 0)=true) : cO parse lay dir M=none:=by
  unfold cO
  rw[hX,if_neg]
  intro h
  injection h with h1 h2
  rw[h2] at hE
  cases hE
theorem gN{parse:Int→Int→List Int→aP × Int}{lay:Int→aP→List Int}{dir E:Int}{M X:aP}(hX:parse dir M.code (lay dir M)=(X,E))(hE:decide (X=M)=false) : cO parse lay dir M=none:=by
  unfold cO
  rw[hX,if_neg]
  intro h
  injection h with h1 h2
  rw[h1] at hE
  simp at hE
theorem ly{parse:Int→Int→List Int→aP × Int}{lay:Int→aP→List Int}{dir E:Int}{M X:aP}(hX:parse dir M.code (lay dir M)=(X,E))(hE:(E != 0)=false)(h:decide (X=M)=true) : cO parse lay dir M=some (lay dir M):=by
  unfold cO
  have h1:X=M:=by simpa using h
  have h2:E=0:=by simpa using hE
  rw[hX,h1,h2,if_pos rfl]
theorem eL{x y:Option (List Int)}(h:x=y){w:World}{e:Ending}{w':World}(k:eP y w e w') : eP x w e w':=by rw[h];exact k
theorem i2{m:Md}{cs:Array Value}{M:aP}{w:World}{dir:Int}(h:b6 m w cs.toList M)(hf:d8 M)(hlen:(bQ dir M).length≤1048576) : Calls Tryz.prog 139 #[.int .i64 dir,.agg cs] w (eP (cO eN bQ dir M) w):=by
 have hM:=h
 obtain⟨vw,vb,vd,vr,vo,h0,hw,hbt,hd,hr,ho,hR⟩:=h
 obtain rfl:cs=(bP M vw vb vd vr vo).toArray:=by apply Array.toList_inj.1;simpa using h0
 clear h0
 obtain⟨Aw,kw,rfl,_,_⟩:=hw.shape
 obtain⟨Ab,kb,rfl,_,_⟩:=hbt.shape
 obtain⟨Ad,kd,rfl,_,_⟩:=hd.shape
 obtain⟨Ar,kr,rfl,_,_⟩:=hr.shape
 obtain⟨Ao,ko,rfl,_,_⟩:=ho.shape
 obtain⟨q0,q1,q2,q3,q4,q5,q6,q7,q8,q9,y,z,C,D,E,F,G⟩:=hR
 simp only[B8,dx] at q0 q1 q2 q3 q4 q5 q6 q7 q8 q9 y z C D E F G
 refine en 29 Tryz.func139 rfl<|sg<|L0<|du (mG M.code M.fail M.addr M.count M.value M.and_ M.or_ M.addr2 M.sub M.status M.events M.messages (.slice Aw M.words.length kw) (.slice Ab M.bits.length kb) (.slice Ad M.data.length kd) (.slice Ar M.recs.length kr) M.mei M.kind M.level M.more M.next (.slice Ao M.objects.length ko)) fun V W X k g=>Pl 2<|ng<|Pl 1<|L0<|bZ k<|?_
 have l:=b6.old hM g
 refine L0<|Oc<|ef (nL (dir:=dir) l hf) fun H I J n Y Z o=>Pl 1<|ng<|Pl 2<|?_
 have p:=ub o k
 refine L0<|aR p 0<|Pl 1<|?_
 refine pr (eN dir M.code (bQ dir M)) fun e K f=>?_
 have q:Calls _ _ _ _ (dz (eN dir M.code (bQ dir M)) J):=i6 (dir:=dir) (c:=M.code) q0 (n).rd hlen
 rw[f] at q
 refine L0<|Oc<|e2 (q) fun L a0 a N=>Pl 3<|L0<|bK mZ fun a1 a2 O P Q=>L0<|b7 (hz:=(by rw[a.size];exact aO)) (hv:=a.size) (h1:=a.one) P (L) fun a3 R S=>Pl 1<|nt<|sq<|sg<|Pl 3<|?_
 have r:=ud Q S O
 have i:=aI N r
 have s:=aI o i
 have t:=aI g s
 refine bl 22 ((K != 0)) (fun b=>?_) (fun b=>?_)
 have T:=av b
 refine Pl 5<|nt<|c1<|sg<|Pl 2<|nt<|rt<|tr<|rr (.tuple #[.slice none 0 0,.int .i64 1])<|?_
 refine eL (gG f b) ?_
 exact⟨rfl,t⟩
 have T:=ai b
 refine L1<|bZ (hz:=(by rw[a.size];exact aO)) R<|?_
 refine L1<|bZ (ub i p)<|?_
 refine L1<|Oc<|m1 (fh (A:=e) (B:=M) (b6.upd a r aG) (b6.old l s)) fun a4 u=>Pl 2<|nt<|?_
 have v:=aI t u
 refine cb ((!(decide (e=M)))) (fun j=>?_) (fun j=>?_)
 have d:(decide (e=M))=false:=by simpa using j
 have U:=of_decide_eq_false d
 refine sg<|Pl 2<|nt<|rt<|tr<|rr (.tuple #[.slice none 0 0,.int .i64 1])<|?_
 refine eL (gN f d) ?_
 exact⟨rfl,v⟩
 have d:(decide (e=M))=true:=by simpa using j
 have U:=of_decide_eq_true d
 refine bz<|sg<|Pl 3<|nt<|rt<|rr (.tuple #[.slice H ((bQ dir M).length) I,.int .i64 0])<|?_
 refine eL (ly f b d) ?_
 exact⟨_,rfl,(bf.weaken (ax n (aI i u) (fun x hx=>ay) (fun _ _ h=>h)) g.size),v⟩
theorem iE{m:Md}{cs:Array Value}{M:aP}{w:World}{dir:Int}(h:b6 m w cs.toList M)(hf:d8 M)(hlen:(bJ dir M).length≤1048576) : Calls Tryz.prog 141 #[.int .i64 dir,.agg cs] w (eP (cO ff bJ dir M) w):=by
 have hM:=h
 obtain⟨vw,vb,vd,vr,vo,h0,hw,hbt,hd,hr,ho,hR⟩:=h
 obtain rfl:cs=(bP M vw vb vd vr vo).toArray:=by apply Array.toList_inj.1;simpa using h0
 clear h0
 obtain⟨Aw,kw,rfl,_,_⟩:=hw.shape
 obtain⟨Ab,kb,rfl,_,_⟩:=hbt.shape
 obtain⟨Ad,kd,rfl,_,_⟩:=hd.shape
 obtain⟨Ar,kr,rfl,_,_⟩:=hr.shape
 obtain⟨Ao,ko,rfl,_,_⟩:=ho.shape
 obtain⟨q0,q1,q2,q3,q4,q5,q6,q7,q8,q9,y,z,C,D,E,F,G⟩:=hR
 simp only[B8,dx] at q0 q1 q2 q3 q4 q5 q6 q7 q8 q9 y z C D E F G
 refine en 29 Tryz.func141 rfl<|sg<|L0<|du (mG M.code M.fail M.addr M.count M.value M.and_ M.or_ M.addr2 M.sub M.status M.events M.messages (.slice Aw M.words.length kw) (.slice Ab M.bits.length kb) (.slice Ad M.data.length kd) (.slice Ar M.recs.length kr) M.mei M.kind M.level M.more M.next (.slice Ao M.objects.length ko)) fun V W X k g=>Pl 2<|ng<|Pl 1<|L0<|bZ k<|?_
 have l:=b6.old hM g
 refine L0<|Oc<|ef (pU (dir:=dir) l hf) fun H I J n Y Z o=>Pl 1<|ng<|Pl 2<|?_
 have p:=ub o k
 refine L0<|aR p 0<|Pl 1<|?_
 refine pr (ff dir M.code (bJ dir M)) fun e K f=>?_
 have q:Calls _ _ _ _ (dz (ff dir M.code (bJ dir M)) J):=j5 (dir:=dir) (c:=M.code) q0 (n).rd hlen
 rw[f] at q
 refine L0<|Oc<|e2 (q) fun L a0 a N=>Pl 3<|L0<|bK mZ fun a1 a2 O P Q=>L0<|b7 (hz:=(by rw[a.size];exact aO)) (hv:=a.size) (h1:=a.one) P (L) fun a3 R S=>Pl 1<|nt<|sq<|sg<|Pl 3<|?_
 have r:=ud Q S O
 have i:=aI N r
 have s:=aI o i
 have t:=aI g s
 refine bl 22 ((K != 0)) (fun b=>?_) (fun b=>?_)
 have T:=av b
 refine Pl 5<|nt<|c1<|sg<|Pl 2<|nt<|rt<|tr<|rr (.tuple #[.slice none 0 0,.int .i64 1])<|?_
 refine eL (gG f b) ?_
 exact⟨rfl,t⟩
 have T:=ai b
 refine L1<|bZ (hz:=(by rw[a.size];exact aO)) R<|?_
 refine L1<|bZ (ub i p)<|?_
 refine L1<|Oc<|m1 (fh (A:=e) (B:=M) (b6.upd a r aG) (b6.old l s)) fun a4 u=>Pl 2<|nt<|?_
 have v:=aI t u
 refine cb ((!(decide (e=M)))) (fun j=>?_) (fun j=>?_)
 have d:(decide (e=M))=false:=by simpa using j
 have U:=of_decide_eq_false d
 refine sg<|Pl 2<|nt<|rt<|tr<|rr (.tuple #[.slice none 0 0,.int .i64 1])<|?_
 refine eL (gN f d) ?_
 exact⟨rfl,v⟩
 have d:(decide (e=M))=true:=by simpa using j
 have U:=of_decide_eq_true d
 refine bz<|sg<|Pl 3<|nt<|rt<|rr (.tuple #[.slice H ((bJ dir M).length) I,.int .i64 0])<|?_
 refine eL (ly f b d) ?_
 exact⟨_,rfl,(bf.weaken (ax n (aI i u) (fun x hx=>ay) (fun _ _ h=>h)) g.size),v⟩
theorem j0{m:Md}{cs:Array Value}{M:aP}{w:World}{dir:Int}(h:b6 m w cs.toList M)(hf:d8 M)(hlen:(bW dir M).length≤1048576) : Calls Tryz.prog 143 #[.int .i64 dir,.agg cs] w (eP (cO fo bW dir M) w):=by
 have hM:=h
 obtain⟨vw,vb,vd,vr,vo,h0,hw,hbt,hd,hr,ho,hR⟩:=h
 obtain rfl:cs=(bP M vw vb vd vr vo).toArray:=by apply Array.toList_inj.1;simpa using h0
 clear h0
 obtain⟨Aw,kw,rfl,_,_⟩:=hw.shape
 obtain⟨Ab,kb,rfl,_,_⟩:=hbt.shape
 obtain⟨Ad,kd,rfl,_,_⟩:=hd.shape
 obtain⟨Ar,kr,rfl,_,_⟩:=hr.shape
 obtain⟨Ao,ko,rfl,_,_⟩:=ho.shape
 obtain⟨q0,q1,q2,q3,q4,q5,q6,q7,q8,q9,y,z,C,D,E,F,G⟩:=hR
 simp only[B8,dx] at q0 q1 q2 q3 q4 q5 q6 q7 q8 q9 y z C D E F G
 refine en 29 Tryz.func143 rfl<|sg<|L0<|du (mG M.code M.fail M.addr M.count M.value M.and_ M.or_ M.addr2 M.sub M.status M.events M.messages (.slice Aw M.words.length kw) (.slice Ab M.bits.length kb) (.slice Ad M.data.length kd) (.slice Ar M.recs.length kr) M.mei M.kind M.level M.more M.next (.slice Ao M.objects.length ko)) fun V W X k g=>Pl 2<|ng<|Pl 1<|L0<|bZ k<|?_
 have l:=b6.old hM g
 refine L0<|Oc<|ef (qt (dir:=dir) l hf) fun H I J n Y Z o=>Pl 1<|ng<|Pl 2<|?_
 have p:=ub o k
 refine L0<|aR p 0<|Pl 1<|?_
 refine pr (fo dir M.code (bW dir M)) fun e K f=>?_
 have q:Calls _ _ _ _ (dz (fo dir M.code (bW dir M)) J):=j6 (dir:=dir) (c:=M.code) q0 (n).rd hlen
 rw[f] at q
 refine L0<|Oc<|e2 (q) fun L a0 a N=>Pl 3<|L0<|bK mZ fun a1 a2 O P Q=>L0<|b7 (hz:=(by rw[a.size];exact aO)) (hv:=a.size) (h1:=a.one) P (L) fun a3 R S=>Pl 1<|nt<|sq<|sg<|Pl 3<|?_
 have r:=ud Q S O
 have i:=aI N r
 have s:=aI o i
 have t:=aI g s
 refine bl 22 ((K != 0)) (fun b=>?_) (fun b=>?_)
 have T:=av b
 refine Pl 5<|nt<|c1<|sg<|Pl 2<|nt<|rt<|tr<|rr (.tuple #[.slice none 0 0,.int .i64 1])<|?_
 refine eL (gG f b) ?_
 exact⟨rfl,t⟩
 have T:=ai b
 refine L1<|bZ (hz:=(by rw[a.size];exact aO)) R<|?_
 refine L1<|bZ (ub i p)<|?_
 refine L1<|Oc<|m1 (fh (A:=e) (B:=M) (b6.upd a r aG) (b6.old l s)) fun a4 u=>Pl 2<|nt<|?_
 have v:=aI t u
 refine cb ((!(decide (e=M)))) (fun j=>?_) (fun j=>?_)
 have d:(decide (e=M))=false:=by simpa using j
 have U:=of_decide_eq_false d
 refine sg<|Pl 2<|nt<|rt<|tr<|rr (.tuple #[.slice none 0 0,.int .i64 1])<|?_
 refine eL (gN f d) ?_
 exact⟨rfl,v⟩
 have d:(decide (e=M))=true:=by simpa using j
 have U:=of_decide_eq_true d
 refine bz<|sg<|Pl 3<|nt<|rt<|rr (.tuple #[.slice H ((bW dir M).length) I,.int .i64 0])<|?_
 refine eL (ly f b d) ?_
 exact⟨_,rfl,(bf.weaken (ax n (aI i u) (fun x hx=>ay) (fun _ _ h=>h)) g.size),v⟩
theorem jP{m:Md}{cs:Array Value}{M:aP}{w:World}{dir:Int}(h:b6 m w cs.toList M)(hf:d8 M)(hlen:(di dir M).length≤1048576) : Calls Tryz.prog 147 #[.int .i64 dir,.agg cs] w (eP (cO fU di dir M) w):=by
 have hM:=h
 obtain⟨vw,vb,vd,vr,vo,h0,hw,hbt,hd,hr,ho,hR⟩:=h
 obtain rfl:cs=(bP M vw vb vd vr vo).toArray:=by apply Array.toList_inj.1;simpa using h0
 clear h0
 obtain⟨Aw,kw,rfl,_,_⟩:=hw.shape
 obtain⟨Ab,kb,rfl,_,_⟩:=hbt.shape
 obtain⟨Ad,kd,rfl,_,_⟩:=hd.shape
 obtain⟨Ar,kr,rfl,_,_⟩:=hr.shape
 obtain⟨Ao,ko,rfl,_,_⟩:=ho.shape
 obtain⟨q0,q1,q2,q3,q4,q5,q6,q7,q8,q9,y,z,C,D,E,F,G⟩:=hR
 simp only[B8,dx] at q0 q1 q2 q3 q4 q5 q6 q7 q8 q9 y z C D E F G
 refine en 29 Tryz.func147 rfl<|sg<|L0<|du (mG M.code M.fail M.addr M.count M.value M.and_ M.or_ M.addr2 M.sub M.status M.events M.messages (.slice Aw M.words.length kw) (.slice Ab M.bits.length kb) (.slice Ad M.data.length kd) (.slice Ar M.recs.length kr) M.mei M.kind M.level M.more M.next (.slice Ao M.objects.length ko)) fun V W X k g=>Pl 2<|ng<|Pl 1<|L0<|bZ k<|?_
 have l:=b6.old hM g
 refine L0<|Oc<|ef (rh (dir:=dir) l hf) fun H I J n Y Z o=>Pl 1<|ng<|Pl 2<|?_
 have p:=ub o k
 refine L0<|aR p 0<|Pl 1<|?_
 refine pr (fU dir M.code (di dir M)) fun e K f=>?_
 have q:Calls _ _ _ _ (dz (fU dir M.code (di dir M)) J):=jK (dir:=dir) (c:=M.code) q0 (n).rd hlen
 rw[f] at q
 refine L0<|Oc<|e2 (q) fun L a0 a N=>Pl 3<|L0<|bK mZ fun a1 a2 O P Q=>L0<|b7 (hz:=(by rw[a.size];exact aO)) (hv:=a.size) (h1:=a.one) P (L) fun a3 R S=>Pl 1<|nt<|sq<|sg<|Pl 3<|?_
 have r:=ud Q S O
 have i:=aI N r
 have s:=aI o i
 have t:=aI g s
 refine bl 22 ((K != 0)) (fun b=>?_) (fun b=>?_)
 have T:=av b
 refine Pl 5<|nt<|c1<|sg<|Pl 2<|nt<|rt<|tr<|rr (.tuple #[.slice none 0 0,.int .i64 1])<|?_
 refine eL (gG f b) ?_
 exact⟨rfl,t⟩
 have T:=ai b
 refine L1<|bZ (hz:=(by rw[a.size];exact aO)) R<|?_
 refine L1<|bZ (ub i p)<|?_
 refine L1<|Oc<|m1 (fh (A:=e) (B:=M) (b6.upd a r aG) (b6.old l s)) fun a4 u=>Pl 2<|nt<|?_
 have v:=aI t u
 refine cb ((!(decide (e=M)))) (fun j=>?_) (fun j=>?_)
 have d:(decide (e=M))=false:=by simpa using j
 have U:=of_decide_eq_false d
 refine sg<|Pl 2<|nt<|rt<|tr<|rr (.tuple #[.slice none 0 0,.int .i64 1])<|?_
 refine eL (gN f d) ?_
 exact⟨rfl,v⟩
 have d:(decide (e=M))=true:=by simpa using j
 have U:=of_decide_eq_true d
 refine bz<|sg<|Pl 3<|nt<|rt<|rr (.tuple #[.slice H ((di dir M).length) I,.int .i64 0])<|?_
 refine eL (ly f b d) ?_
 exact⟨_,rfl,(bf.weaken (ax n (aI i u) (fun x hx=>ay) (fun _ _ h=>h)) g.size),v⟩
theorem ic{m:Md}{cs:Array Value}{M:aP}{w:World}{dir:Int}(h:b6 m w cs.toList M)(hf:d8 M)(hlen:(cT dir M).length≤1048576) : Calls Tryz.prog 145 #[.int .i64 dir,.agg cs] w (eP (cO eW cT dir M) w):=by
 have hM:=h
 obtain⟨vw,vb,vd,vr,vo,h0,hw,hbt,hd,hr,ho,hR⟩:=h
 obtain rfl:cs=(bP M vw vb vd vr vo).toArray:=by apply Array.toList_inj.1;simpa using h0
 clear h0
 obtain⟨Aw,kw,rfl,_,_⟩:=hw.shape
 obtain⟨Ab,kb,rfl,_,_⟩:=hbt.shape
 obtain⟨Ad,kd,rfl,_,_⟩:=hd.shape
 obtain⟨Ar,kr,rfl,_,_⟩:=hr.shape
 obtain⟨Ao,ko,rfl,_,_⟩:=ho.shape
 obtain⟨q0,q1,q2,q3,q4,q5,q6,q7,q8,q9,y,z,C,D,E,F,G⟩:=hR
 simp only[B8,dx] at q0 q1 q2 q3 q4 q5 q6 q7 q8 q9 y z C D E F G
 refine en 29 Tryz.func145 rfl<|sg<|L0<|du (mG M.code M.fail M.addr M.count M.value M.and_ M.or_ M.addr2 M.sub M.status M.events M.messages (.slice Aw M.words.length kw) (.slice Ab M.bits.length kb) (.slice Ad M.data.length kd) (.slice Ar M.recs.length kr) M.mei M.kind M.level M.more M.next (.slice Ao M.objects.length ko)) fun V W X k g=>Pl 2<|ng<|Pl 1<|L0<|bZ k<|?_
 have l:=b6.old hM g
 refine L0<|Oc<|ef (oy (dir:=dir) l hf) fun H I J n Y Z o=>Pl 1<|ng<|Pl 2<|?_
 have p:=ub o k
 refine L0<|aR p 0<|Pl 1<|?_
 refine pr (eW dir M.code (cT dir M)) fun e K f=>?_
 have q:Calls _ _ _ _ (dz (eW dir M.code (cT dir M)) J):=ia (dir:=dir) (c:=M.code) q0 (n).rd hlen
 rw[f] at q
 refine L0<|Oc<|e2 (q) fun L a0 a N=>Pl 3<|L0<|bK mZ fun a1 a2 O P Q=>L0<|b7 (hz:=(by rw[a.size];exact aO)) (hv:=a.size) (h1:=a.one) P (L) fun a3 R S=>Pl 1<|nt<|sq<|sg<|Pl 3<|?_
 have r:=ud Q S O
 have i:=aI N r
 have s:=aI o i
 have t:=aI g s
 refine bl 22 ((K != 0)) (fun b=>?_) (fun b=>?_)
 have T:=av b
 refine Pl 5<|nt<|c1<|sg<|Pl 2<|nt<|rt<|tr<|rr (.tuple #[.slice none 0 0,.int .i64 1])<|?_
 refine eL (gG f b) ?_
 exact⟨rfl,t⟩
 have T:=ai b
 refine L1<|bZ (hz:=(by rw[a.size];exact aO)) R<|?_
 refine L1<|bZ (ub i p)<|?_
 refine L1<|Oc<|m1 (fh (A:=e) (B:=M) (b6.upd a r aG) (b6.old l s)) fun a4 u=>Pl 2<|nt<|?_
 have v:=aI t u
 refine cb ((!(decide (e=M)))) (fun j=>?_) (fun j=>?_)
 have d:(decide (e=M))=false:=by simpa using j
 have U:=of_decide_eq_false d
 refine sg<|Pl 2<|nt<|rt<|tr<|rr (.tuple #[.slice none 0 0,.int .i64 1])<|?_
 refine eL (gN f d) ?_
 exact⟨rfl,v⟩
 have d:(decide (e=M))=true:=by simpa using j
 have U:=of_decide_eq_true d
 refine bz<|sg<|Pl 3<|nt<|rt<|rr (.tuple #[.slice H ((cT dir M).length) I,.int .i64 0])<|?_
 refine eL (ly f b d) ?_
 exact⟨_,rfl,(bf.weaken (ax n (aI i u) (fun x hx=>ay) (fun _ _ h=>h)) g.size),v⟩
open Go.RowKit
def fN:Nat→Int→aP→Option (List Int)
  | 1,dir,M=>cO eN bQ dir M
  | 2,dir,M=>cO ff bJ dir M
  | 3,dir,M=>cO fo bW dir M
  | 4,dir,M=>cO eW cT dir M
  | 5,dir,M=>cO fU di dir M
  | _,_,_=>none
def dp (dir:Int)(M:aP) : Option (List Int) :=
  if M.fail != 0 then (if dir != 1 then none else kX M)
  else match fN (iA M.code) dir M with
    | none=>none
    | some l=>if decide (253≤(l.length:Int)) then none else some ([M.code]++l)
theorem lu:∀ (L:List Obj),(∀ r,r∈L→r.value.length≤1024)→(ge L).length≤1026*L.length
  | [],_=>by simp[ge]
  | r :: L,h=>by
    have h1:=h r (by simp)
    have h2:=lu L fun x hx=>h x (by simp[hx])
    simp only[ge,List.length_append,List.length_cons,List.length_nil]
    omega
theorem iL(dir c:Int) : ∀ (L:List de),(∀ r,r∈L→r.words.length≤1024)→(cR dir c L).length≤2064*L.length
  | [],_=>by simp[cR]
  | r :: L,h=>by
    have h1:=h r (by simp)
    have h2:=iL dir c L fun x hx=>h x (by simp[hx])
    simp only[cR,iW]
    repeat' split
    all_goals simp only[List.length_append,List.length_cons,List.length_nil,aC]
    all_goals omega
theorem er{M:aP}(hf:d8 M)(dir:Int) : (bQ dir M).length≤1048576∧(bJ dir M).length≤1048576∧(bW dir M).length≤1048576∧(di dir M).length≤1048576∧(cT dir M).length≤1048576:=by
  have hp:(cF M.bits).length≤1024:=by
    have:=hf.bits
    simp only[cF,List.length_map,List.length_range,db]
    omega
  have h1:=hf.words
  have h2:=hf.data
  have h3:=hf.objects
  have h4:=lu M.objects hf.objv
  have h5:=iL dir M.code M.recs hf.recw
  have h6:=hf.recs
  refine⟨?_,?_,?_,?_,?_⟩
  · unfold bQ
    repeat' split
    all_goals simp only[List.length_append,List.length_cons,List.length_nil,aC]
    all_goals omega
  · unfold bJ
    repeat' split
    all_goals simp only[List.length_append,List.length_cons,List.length_nil,aC]
    all_goals omega
  · unfold bW
    repeat' split
    all_goals simp only[List.length_append,List.length_cons,List.length_nil,aC]
    all_goals omega
  · unfold di
    repeat' split
    all_goals simp only[List.length_append,List.length_cons,List.length_nil]
    all_goals omega
  · unfold cT
    simp only[List.length_set,List.length_append,List.length_cons,List.length_nil]
    omega
theorem nV{m:Md}{cs:Array Value}{M:aP}{w:World}{dir:Int}(h:b6 m w cs.toList M)(hf:d8 M) : Calls Tryz.prog 28 #[.int .i64 dir,.agg cs] w (eP (dp dir M) w):=by
 have hM:=h
 obtain⟨vw,vb,vd,vr,vo,h0,hw,hbt,hd,hr,ho,hR⟩:=h
 obtain rfl:cs=(bP M vw vb vd vr vo).toArray:=by apply Array.toList_inj.1;simpa using h0
 clear h0
 obtain⟨Aw,kw,rfl,_,_⟩:=hw.shape
 obtain⟨Ab,kb,rfl,_,_⟩:=hbt.shape
 obtain⟨Ad,kd,rfl,_,_⟩:=hd.shape
 obtain⟨Ar,kr,rfl,_,_⟩:=hr.shape
 obtain⟨Ao,ko,rfl,_,_⟩:=ho.shape
 obtain⟨q0,q1,q2,q3,q4,q5,q6,q7,q8,q9,ah,aj,c,ak,al,am,an⟩:=hR
 simp only[B8,dx] at q0 q1 q2 q3 q4 q5 q6 q7 q8 q9 ah aj c ak al am an
 refine en 47 Tryz.func28 rfl<|sg<|L0<|du (mG M.code M.fail M.addr M.count M.value M.and_ M.or_ M.addr2 M.sub M.status M.events M.messages (.slice Aw M.words.length kw) (.slice Ab M.bits.length kb) (.slice Ad M.data.length kd) (.slice Ar M.recs.length kr) M.mei M.kind M.level M.more M.next (.slice Ao M.objects.length ko)) fun ch f ci d b=>Pl 2<|nt<|sq<|sg<|Pl 1<|L0<|aR d 1<|Pl 1<|nl<|?_
 refine tn<|cb ((M.fail != 0)) (fun a=>?_) (fun a=>?_)
 have ao:=av a
 refine sq<|sg<|Pl 2<|nt<|cb ((dir != 1)) (fun c=>?_) (fun c=>?_)
 have ap:=av c
 refine sg<|Pl 2<|nt<|rt<|tr<|tr<|rr (.tuple #[.slice none 0 0,.int .i64 1])<|?_
 have hs:dp dir M=none:=by
   unfold dp
   (try simp only[a,c,bs,if_true,if_false,decide_true,decide_false,reduceIte])
   all_goals rfl
 refine dM hs ?_
 exact⟨rfl,b⟩
 have ap:=ai c
 refine bz<|sg<|L0<|bZ d<|?_
 rcases hwr:kX M with _|lw
 have E:=jO (b6.old hM b)
 rw[hwr] at E
 refine L0<|Oc<|m1 E fun cj ar=>Pl 4<|nt<|rt<|tr<|rr (.tuple #[.slice none 0 0,.int .i64 1])<|?_
 have hs:dp dir M=none:=by
   unfold dp
   (try simp only[a,c,bs,if_true,if_false,decide_true,decide_false,hwr,reduceIte])
   all_goals rfl
 refine dM hs ?_
 exact⟨rfl,(aI b ar)⟩
 have F:=jO (b6.old hM b)
 rw[hwr] at F
 refine L0<|Oc<|ef F fun aw aA ck aB cl cm aD=>Pl 4<|nt<|rt<|tr<|rr (.tuple #[.slice aw lw.length aA,.int .i64 0])<|?_
 have hs:dp dir M=(some lw):=by
   unfold dp
   (try simp only[a,c,bs,if_true,if_false,decide_true,decide_false,hwr,reduceIte])
   all_goals rfl
 refine dM hs ?_
 exact⟨_,rfl,(bf.weaken aB b.size),(aI b aD)⟩
 have ao:=ai a
 refine bz<|sg<|Pl 1<|L0<|aR d 0<|?_
 rcases fW M.code with⟨hk,hkf⟩|⟨hk,hkf⟩|⟨hk,hkf⟩|⟨hk,hkf⟩|⟨hk,hkf⟩|⟨hk,hkf⟩
 have G:=eA (x:=M.code) (w:=f)
 rw[hkf] at G
 refine L0<|Oc<|m1 G fun cn aE=>Pl 3<|L0<|bK #[.nilFunc,.nilFunc] fun co cp aF aG aH=>L0<|b7 aG #[.func (.func 138) #[] #[],.func (.func 139) #[] #[]] fun cq aJ aK=>Pl 1<|nt<|sq<|sg<|Pl 2<|nt<|c0<|?_
 refine bz<|sg<|Pl 1<|L0<|aR aJ 1<|Pl 1<|?_
 have H:=aI aE (ud aH aK aF)
 have I:=ub H d
 refine L0<|bZ I<|?_
 have n:=aI b H
 rcases hwr:cO eN bQ dir M with _|lw
 have J:=i2 (dir:=dir) (b6.old hM n) hf (er hf dir).1
 rw[hwr] at J
 refine L0<|fH #[] #[] (args:=#[.int .i64 dir,.agg (mG M.code M.fail M.addr M.count M.value M.and_ M.or_ M.addr2 M.sub M.status M.events M.messages (.slice Aw M.words.length kw) (.slice Ab M.bits.length kb) (.slice Ad M.data.length kd) (.slice Ar M.recs.length kr) M.mei M.kind M.level M.more M.next (.slice Ao M.objects.length ko))])<|m1 J fun cr aL=>Pl 5<|nt<|sq<|sg<|Pl 7<|nt<|c1<|sg<|Pl 2<|nl<|?_
 refine tn<|rt<|tr<|rr (.tuple #[.slice none 0 0,.int .i64 1])<|?_
 have hs:dp dir M=none:=by
   unfold dp
   (try simp only[a,bs,if_true,if_false,decide_true,decide_false,hkf,fN,hwr,reduceIte])
   all_goals rfl
 refine dM hs ?_
 exact⟨rfl,(aI n aL)⟩
 have K:=i2 (dir:=dir) (b6.old hM n) hf (er hf dir).1
 rw[hwr] at K
 refine L0<|fH #[] #[] (args:=#[.int .i64 dir,.agg (mG M.code M.fail M.addr M.count M.value M.and_ M.or_ M.addr2 M.sub M.status M.events M.messages (.slice Aw M.words.length kw) (.slice Ab M.bits.length kb) (.slice Ad M.data.length kd) (.slice Ar M.recs.length kr) M.mei M.kind M.level M.more M.next (.slice Ao M.objects.length ko))])<|ef K fun ct cu cv aM cw cx L=>Pl 5<|nt<|sq<|sg<|Pl 7<|nt<|?_
 have s:=aI n L
 refine cb ((decide (253≤((lw.length:Nat) : Int)))) (fun g=>?_) (fun g=>?_)
 have aN:=of_decide_eq_true g
 refine sg<|Pl 2<|nt<|rt<|tr<|rr (.tuple #[.slice none 0 0,.int .i64 1])<|?_
 have hs:dp dir M=none:=by
   unfold dp
   (try simp only[a,g,bs,if_true,if_false,decide_true,decide_false,hkf,fN,hwr,reduceIte])
   all_goals rfl
 refine dM hs ?_
 exact⟨rfl,s⟩
 have aN:=of_decide_eq_false g
 refine bz<|sg<|Pl 1<|?_
 refine L0<|aR (ub L I) 0<|L0<|dv (m:=1) (e:=5) #[.int .u8 M.code] fun cy cz aO aQ t=>?_
 have N:=dK aO (xs:=[M.code]) (by as_aux_lemma=>kernel_rfl) (az (by omega) aZ) (by(try simp only[List.length_cons,List.length_nil]);omega) aQ
 refine Pl 1<|?_
 refine L0<|cQ bB (xs:=([M.code])) (ys:=lw) (.int .u8 0) 1 N ((ax aM t (fun x hx=>ay) (fun _ _ h=>h))).rd (by(try simp only[List.length_append,List.length_cons,List.length_nil,aC]);omega) t.size fun aS aT cA aU aW=>Pl 2<|nt<|rt<|rr (.tuple #[.slice aS (([M.code]++lw).length) aT,.int .i64 0])<|?_
 have hs:dp dir M=(some ([M.code]++lw)):=by
   unfold dp
   (try simp only[a,g,bs,if_true,if_false,decide_true,decide_false,hkf,fN,hwr,reduceIte])
   all_goals rfl
 refine dM hs ?_
 exact⟨_,rfl,(bf.weaken aU s.size),(aI s (ut t aW (au (aV N lr) aq)))⟩
 have O:=eA (x:=M.code) (w:=f)
 rw[hkf] at O
 refine L0<|Oc<|m1 O fun cB aX=>Pl 3<|L0<|bK #[.nilFunc,.nilFunc] fun cC cD aY b0 b1=>L0<|b7 b0 #[.func (.func 140) #[] #[],.func (.func 141) #[] #[]] fun cE b2 b3=>Pl 1<|nt<|sq<|sg<|Pl 2<|nt<|c0<|?_
 refine bz<|sg<|Pl 1<|L0<|aR b2 1<|Pl 1<|?_
 have P:=aI aX (ud b1 b3 aY)
 have Q:=ub P d
 refine L0<|bZ Q<|?_
 have o:=aI b P
 rcases hwr:cO ff bJ dir M with _|lw
 have R:=iE (dir:=dir) (b6.old hM o) hf (er hf dir).2.1
 rw[hwr] at R
 refine L0<|fH #[] #[] (args:=#[.int .i64 dir,.agg (mG M.code M.fail M.addr M.count M.value M.and_ M.or_ M.addr2 M.sub M.status M.events M.messages (.slice Aw M.words.length kw) (.slice Ab M.bits.length kb) (.slice Ad M.data.length kd) (.slice Ar M.recs.length kr) M.mei M.kind M.level M.more M.next (.slice Ao M.objects.length ko))])<|m1 R fun cF b4=>Pl 5<|nt<|sq<|sg<|Pl 7<|nt<|c1<|sg<|Pl 2<|nl<|?_
 refine tn<|rt<|tr<|rr (.tuple #[.slice none 0 0,.int .i64 1])<|?_
 have hs:dp dir M=none:=by
   unfold dp
   (try simp only[a,bs,if_true,if_false,decide_true,decide_false,hkf,fN,hwr,reduceIte])
   all_goals rfl
 refine dM hs ?_
 exact⟨rfl,(aI o b4)⟩
 have S:=iE (dir:=dir) (b6.old hM o) hf (er hf dir).2.1
 rw[hwr] at S
 refine L0<|fH #[] #[] (args:=#[.int .i64 dir,.agg (mG M.code M.fail M.addr M.count M.value M.and_ M.or_ M.addr2 M.sub M.status M.events M.messages (.slice Aw M.words.length kw) (.slice Ab M.bits.length kb) (.slice Ad M.data.length kd) (.slice Ar M.recs.length kr) M.mei M.kind M.level M.more M.next (.slice Ao M.objects.length ko))])<|ef S fun cG cH cI b5 cJ cK T=>Pl 5<|nt<|sq<|sg<|Pl 7<|nt<|?_
 have u:=aI o T
 refine cb ((decide (253≤((lw.length:Nat) : Int)))) (fun i=>?_) (fun i=>?_)
 have b8:=of_decide_eq_true i
 refine sg<|Pl 2<|nt<|rt<|tr<|rr (.tuple #[.slice none 0 0,.int .i64 1])<|?_
 have hs:dp dir M=none:=by
   unfold dp
   (try simp only[a,i,bs,if_true,if_false,decide_true,decide_false,hkf,fN,hwr,reduceIte])
   all_goals rfl
 refine dM hs ?_
 exact⟨rfl,u⟩
 have b8:=of_decide_eq_false i
 refine bz<|sg<|Pl 1<|?_
 refine L0<|aR (ub T Q) 0<|L0<|dv (m:=1) (e:=5) #[.int .u8 M.code] fun cL cM b9 ba v=>?_
 have U:=dK b9 (xs:=[M.code]) (by as_aux_lemma=>kernel_rfl) (az (by omega) aZ) (by(try simp only[List.length_cons,List.length_nil]);omega) ba
 refine Pl 1<|?_
 refine L0<|cQ bB (xs:=([M.code])) (ys:=lw) (.int .u8 0) 1 U ((ax b5 v (fun x hx=>ay) (fun _ _ h=>h))).rd (by(try simp only[List.length_append,List.length_cons,List.length_nil,aC]);omega) v.size fun bb bc cN bd be=>Pl 2<|nt<|rt<|rr (.tuple #[.slice bb (([M.code]++lw).length) bc,.int .i64 0])<|?_
 have hs:dp dir M=(some ([M.code]++lw)):=by
   unfold dp
   (try simp only[a,i,bs,if_true,if_false,decide_true,decide_false,hkf,fN,hwr,reduceIte])
   all_goals rfl
 refine dM hs ?_
 exact⟨_,rfl,(bf.weaken bd u.size),(aI u (ut v be (au (aV U lr) aq)))⟩
 have V:=eA (x:=M.code) (w:=f)
 rw[hkf] at V
 refine L0<|Oc<|m1 V fun cP bg=>Pl 3<|L0<|bK #[.nilFunc,.nilFunc] fun cR cS bh bi bj=>L0<|b7 bi #[.func (.func 142) #[] #[],.func (.func 143) #[] #[]] fun cU bk bl=>Pl 1<|nt<|sq<|sg<|Pl 2<|nt<|c0<|?_
 refine bz<|sg<|Pl 1<|L0<|aR bk 1<|Pl 1<|?_
 have W:=aI bg (ud bj bl bh)
 have X:=ub W d
 refine L0<|bZ X<|?_
 have p:=aI b W
 rcases hwr:cO fo bW dir M with _|lw
 have Y:=j0 (dir:=dir) (b6.old hM p) hf (er hf dir).2.2.1
 rw[hwr] at Y
 refine L0<|fH #[] #[] (args:=#[.int .i64 dir,.agg (mG M.code M.fail M.addr M.count M.value M.and_ M.or_ M.addr2 M.sub M.status M.events M.messages (.slice Aw M.words.length kw) (.slice Ab M.bits.length kb) (.slice Ad M.data.length kd) (.slice Ar M.recs.length kr) M.mei M.kind M.level M.more M.next (.slice Ao M.objects.length ko))])<|m1 Y fun cV bm=>Pl 5<|nt<|sq<|sg<|Pl 7<|nt<|c1<|sg<|Pl 2<|nl<|?_
 refine tn<|rt<|tr<|rr (.tuple #[.slice none 0 0,.int .i64 1])<|?_
 have hs:dp dir M=none:=by
   unfold dp
   (try simp only[a,bs,if_true,if_false,decide_true,decide_false,hkf,fN,hwr,reduceIte])
   all_goals rfl
 refine dM hs ?_
 exact⟨rfl,(aI p bm)⟩
 have Z:=j0 (dir:=dir) (b6.old hM p) hf (er hf dir).2.2.1
 rw[hwr] at Z
 refine L0<|fH #[] #[] (args:=#[.int .i64 dir,.agg (mG M.code M.fail M.addr M.count M.value M.and_ M.or_ M.addr2 M.sub M.status M.events M.messages (.slice Aw M.words.length kw) (.slice Ab M.bits.length kb) (.slice Ad M.data.length kd) (.slice Ar M.recs.length kr) M.mei M.kind M.level M.more M.next (.slice Ao M.objects.length ko))])<|ef Z fun cW cX cY bn cZ d0 a0=>Pl 5<|nt<|sq<|sg<|Pl 7<|nt<|?_
 have y:=aI p a0
 refine cb ((decide (253≤((lw.length:Nat) : Int)))) (fun j=>?_) (fun j=>?_)
 have bo:=of_decide_eq_true j
 refine sg<|Pl 2<|nt<|rt<|tr<|rr (.tuple #[.slice none 0 0,.int .i64 1])<|?_
 have hs:dp dir M=none:=by
   unfold dp
   (try simp only[a,j,bs,if_true,if_false,decide_true,decide_false,hkf,fN,hwr,reduceIte])
   all_goals rfl
 refine dM hs ?_
 exact⟨rfl,y⟩
 have bo:=of_decide_eq_false j
 refine bz<|sg<|Pl 1<|?_
 refine L0<|aR (ub a0 X) 0<|L0<|dv (m:=1) (e:=5) #[.int .u8 M.code] fun d1 d2 bp bq z=>?_
 have a1:=dK bp (xs:=[M.code]) (by as_aux_lemma=>kernel_rfl) (az (by omega) aZ) (by(try simp only[List.length_cons,List.length_nil]);omega) bq
 refine Pl 1<|?_
 refine L0<|cQ bB (xs:=([M.code])) (ys:=lw) (.int .u8 0) 1 a1 ((ax bn z (fun x hx=>ay) (fun _ _ h=>h))).rd (by(try simp only[List.length_append,List.length_cons,List.length_nil,aC]);omega) z.size fun br bt d3 bu bv=>Pl 2<|nt<|rt<|rr (.tuple #[.slice br (([M.code]++lw).length) bt,.int .i64 0])<|?_
 have hs:dp dir M=(some ([M.code]++lw)):=by
   unfold dp
   (try simp only[a,j,bs,if_true,if_false,decide_true,decide_false,hkf,fN,hwr,reduceIte])
   all_goals rfl
 refine dM hs ?_
 exact⟨_,rfl,(bf.weaken bu y.size),(aI y (ut z bv (au (aV a1 lr) aq)))⟩
 have a2:=eA (x:=M.code) (w:=f)
 rw[hkf] at a2
 refine L0<|Oc<|m1 a2 fun d4 bw=>Pl 3<|L0<|bK #[.nilFunc,.nilFunc] fun d5 d6 bx bA bC=>L0<|b7 bA #[.func (.func 144) #[] #[],.func (.func 145) #[] #[]] fun d7 bD bE=>Pl 1<|nt<|sq<|sg<|Pl 2<|nt<|c0<|?_
 refine bz<|sg<|Pl 1<|L0<|aR bD 1<|Pl 1<|?_
 have a3:=aI bw (ud bC bE bx)
 have a4:=ub a3 d
 refine L0<|bZ a4<|?_
 have q:=aI b a3
 rcases hwr:cO eW cT dir M with _|lw
 have a5:=ic (dir:=dir) (b6.old hM q) hf (er hf dir).2.2.2.2
 rw[hwr] at a5
 refine L0<|fH #[] #[] (args:=#[.int .i64 dir,.agg (mG M.code M.fail M.addr M.count M.value M.and_ M.or_ M.addr2 M.sub M.status M.events M.messages (.slice Aw M.words.length kw) (.slice Ab M.bits.length kb) (.slice Ad M.data.length kd) (.slice Ar M.recs.length kr) M.mei M.kind M.level M.more M.next (.slice Ao M.objects.length ko))])<|m1 a5 fun d9 bF=>Pl 5<|nt<|sq<|sg<|Pl 7<|nt<|c1<|sg<|Pl 2<|nl<|?_
 refine tn<|rt<|tr<|rr (.tuple #[.slice none 0 0,.int .i64 1])<|?_
 have hs:dp dir M=none:=by
   unfold dp
   (try simp only[a,bs,if_true,if_false,decide_true,decide_false,hkf,fN,hwr,reduceIte])
   all_goals rfl
 refine dM hs ?_
 exact⟨rfl,(aI q bF)⟩
 have a6:=ic (dir:=dir) (b6.old hM q) hf (er hf dir).2.2.2.2
 rw[hwr] at a6
 refine L0<|fH #[] #[] (args:=#[.int .i64 dir,.agg (mG M.code M.fail M.addr M.count M.value M.and_ M.or_ M.addr2 M.sub M.status M.events M.messages (.slice Aw M.words.length kw) (.slice Ab M.bits.length kb) (.slice Ad M.data.length kd) (.slice Ar M.recs.length kr) M.mei M.kind M.level M.more M.next (.slice Ao M.objects.length ko))])<|ef a6 fun da db dc bG dd de a7=>Pl 5<|nt<|sq<|sg<|Pl 7<|nt<|?_
 have A:=aI q a7
 refine cb ((decide (253≤((lw.length:Nat) : Int)))) (fun k=>?_) (fun k=>?_)
 have bH:=of_decide_eq_true k
 refine sg<|Pl 2<|nt<|rt<|tr<|rr (.tuple #[.slice none 0 0,.int .i64 1])<|?_
 have hs:dp dir M=none:=by
   unfold dp
   (try simp only[a,k,bs,if_true,if_false,decide_true,decide_false,hkf,fN,hwr,reduceIte])
   all_goals rfl
 refine dM hs ?_
 exact⟨rfl,A⟩
 have bH:=of_decide_eq_false k
 refine bz<|sg<|Pl 1<|?_
 refine L0<|aR (ub a7 a4) 0<|L0<|dv (m:=1) (e:=5) #[.int .u8 M.code] fun df dg bI bL B=>?_
 have a8:=dK bI (xs:=[M.code]) (by as_aux_lemma=>kernel_rfl) (az (by omega) aZ) (by(try simp only[List.length_cons,List.length_nil]);omega) bL
 refine Pl 1<|?_
 refine L0<|cQ bB (xs:=([M.code])) (ys:=lw) (.int .u8 0) 1 a8 ((ax bG B (fun x hx=>ay) (fun _ _ h=>h))).rd (by(try simp only[List.length_append,List.length_cons,List.length_nil,aC]);omega) B.size fun bM bN dh bO bR=>Pl 2<|nt<|rt<|rr (.tuple #[.slice bM (([M.code]++lw).length) bN,.int .i64 0])<|?_
 have hs:dp dir M=(some ([M.code]++lw)):=by
   unfold dp
   (try simp only[a,k,bs,if_true,if_false,decide_true,decide_false,hkf,fN,hwr,reduceIte])
   all_goals rfl
 refine dM hs ?_
 exact⟨_,rfl,(bf.weaken bO A.size),(aI A (ut B bR (au (aV a8 lr) aq)))⟩
 have a9:=eA (x:=M.code) (w:=f)
 rw[hkf] at a9
 refine L0<|Oc<|m1 a9 fun dj bS=>Pl 3<|L0<|bK #[.nilFunc,.nilFunc] fun dk dl bT bU bV=>L0<|b7 bU #[.func (.func 146) #[] #[],.func (.func 147) #[] #[]] fun dm bX bY=>Pl 1<|nt<|sq<|sg<|Pl 2<|nt<|c0<|?_
 refine bz<|sg<|Pl 1<|L0<|aR bX 1<|Pl 1<|?_
 have aa:=aI bS (ud bV bY bT)
 have ab:=ub aa d
 refine L0<|bZ ab<|?_
 have r:=aI b aa
 rcases hwr:cO fU di dir M with _|lw
 have ac:=jP (dir:=dir) (b6.old hM r) hf (er hf dir).2.2.2.1
 rw[hwr] at ac
 refine L0<|fH #[] #[] (args:=#[.int .i64 dir,.agg (mG M.code M.fail M.addr M.count M.value M.and_ M.or_ M.addr2 M.sub M.status M.events M.messages (.slice Aw M.words.length kw) (.slice Ab M.bits.length kb) (.slice Ad M.data.length kd) (.slice Ar M.recs.length kr) M.mei M.kind M.level M.more M.next (.slice Ao M.objects.length ko))])<|m1 ac fun dn c2=>Pl 5<|nt<|sq<|sg<|Pl 7<|nt<|c1<|sg<|Pl 2<|nl<|?_
 refine tn<|rt<|tr<|rr (.tuple #[.slice none 0 0,.int .i64 1])<|?_
 have hs:dp dir M=none:=by
   unfold dp
   (try simp only[a,bs,if_true,if_false,decide_true,decide_false,hkf,fN,hwr,reduceIte])
   all_goals rfl
 refine dM hs ?_
 exact⟨rfl,(aI r c2)⟩
 have ad:=jP (dir:=dir) (b6.old hM r) hf (er hf dir).2.2.2.1
 rw[hwr] at ad
 refine L0<|fH #[] #[] (args:=#[.int .i64 dir,.agg (mG M.code M.fail M.addr M.count M.value M.and_ M.or_ M.addr2 M.sub M.status M.events M.messages (.slice Aw M.words.length kw) (.slice Ab M.bits.length kb) (.slice Ad M.data.length kd) (.slice Ar M.recs.length kr) M.mei M.kind M.level M.more M.next (.slice Ao M.objects.length ko))])<|ef ad fun dq dr ds c3 dt dw ae=>Pl 5<|nt<|sq<|sg<|Pl 7<|nt<|?_
 have C:=aI r ae
 refine cb ((decide (253≤((lw.length:Nat) : Int)))) (fun l=>?_) (fun l=>?_)
 have c4:=of_decide_eq_true l
 refine sg<|Pl 2<|nt<|rt<|tr<|rr (.tuple #[.slice none 0 0,.int .i64 1])<|?_
 have hs:dp dir M=none:=by
   unfold dp
   (try simp only[a,l,bs,if_true,if_false,decide_true,decide_false,hkf,fN,hwr,reduceIte])
   all_goals rfl
 refine dM hs ?_
 exact⟨rfl,C⟩
 have c4:=of_decide_eq_false l
 refine bz<|sg<|Pl 1<|?_
 refine L0<|aR (ub ae ab) 0<|L0<|dv (m:=1) (e:=5) #[.int .u8 M.code] fun dy dz c5 c6 D=>?_
 have af:=dK c5 (xs:=[M.code]) (by as_aux_lemma=>kernel_rfl) (az (by omega) aZ) (by(try simp only[List.length_cons,List.length_nil]);omega) c6
 refine Pl 1<|?_
 refine L0<|cQ bB (xs:=([M.code])) (ys:=lw) (.int .u8 0) 1 af ((ax c3 D (fun x hx=>ay) (fun _ _ h=>h))).rd (by(try simp only[List.length_append,List.length_cons,List.length_nil,aC]);omega) D.size fun c7 c8 dA c9 ca=>Pl 2<|nt<|rt<|rr (.tuple #[.slice c7 (([M.code]++lw).length) c8,.int .i64 0])<|?_
 have hs:dp dir M=(some ([M.code]++lw)):=by
   unfold dp
   (try simp only[a,l,bs,if_true,if_false,decide_true,decide_false,hkf,fN,hwr,reduceIte])
   all_goals rfl
 refine dM hs ?_
 exact⟨_,rfl,(bf.weaken c9 C.size),(aI C (ut D ca (au (aV af lr) aq)))⟩
 have ag:=eA (x:=M.code) (w:=f)
 rw[hkf] at ag
 refine L0<|Oc<|m1 ag fun dB cc=>Pl 3<|L0<|bK #[.nilFunc,.nilFunc] fun dC dD cd ce cf=>L0<|b7 ce #[.nilFunc,.nilFunc] fun dE dF cg=>Pl 1<|nt<|sq<|sg<|Pl 2<|nt<|c1<|?_
 refine sg<|Pl 2<|nt<|rt<|tr<|rr (.tuple #[.slice none 0 0,.int .i64 1])<|?_
 have hs:dp dir M=none:=by
   unfold dp
   (try simp only[a,bs,if_true,if_false,decide_true,decide_false,hkf,fN,reduceIte])
   all_goals rfl
 refine dM hs ?_
 exact⟨rfl,(aI b (aI cc (ud cf cg cd)))⟩
open Go.RowKit
theorem gh{x y:aP × Int}(h:x=y){w:World}{e:Ending}{w':World}(k:dz y w e w') : dz x w e w':=by rw[h];exact k
def io:Nat→Int→List Int→aP × Int
  | 1,dir,b=>ag aD dir (b.getD 0 0) (b.drop 1)
  | 2,dir,b=>ag aH dir (b.getD 0 0) (b.drop 1)
  | 3,dir,b=>ag aM dir (b.getD 0 0) (b.drop 1)
  | 4,dir,b=>ag aY dir (b.getD 0 0) (b.drop 1)
  | 5,dir,b=>ag bF dir (b.getD 0 0) (b.drop 1)
  | _,_,_=>(aP.zero,4)
def dO (dir:Int)(b:List Int) : aP × Int :=
  if dir != 0&&dir != 1 then (aP.zero,1)
  else if (b.length:Int)==0 then (aP.zero,2)
  else if decide (253<(b.length:Int)) then (aP.zero,3)
  else if decide (128≤b.getD 0 0)&&dir==1 then ez b
  else io (iA (b.getD 0 0)) dir b
theorem mu{m:Md}{A:Option Addr}{cp:Nat}{b:List Int}{w:World}{dir:Int}(hsl:bi m w (.slice A b.length cp) b)(hb:b.length≤1048576) :
    Calls Tryz.prog 24 #[.int .i64 dir,.slice A b.length cp] w (dz (dO dir b) w):=by
 have hln:(b.length:Int)≤1048576:=by omega
 refine en 60 Tryz.func24 rfl<|sg<|L0<|bK mZ fun dj t h a f=>Pl 1<|nt<|sq<|bk<|sg<|Pl 3<|cu 3 [11] 14 (((dir != 0)&&(dir != 1))) (fun K a2=>?_) ?_
 refine bl 11 ((dir != 0)) (fun u=>?_) (fun u=>?_)
 have bZ:=av u
 exact Pl 3<|ce a2 (dir != 1) (by rw[u];rfl)
 have bZ:=ai u
 exact Pl 3<|ce a2 false (by rw[u];rfl)
 refine Pl 1<|nt<|cb (((dir != 0)&&(dir != 1))) (fun d=>?_) (fun d=>?_)
 have a3:=(aW d).1
 have a4:=(aW d).2
 have dk:=av a3
 have dl:=av a4
 refine sg<|Pl 1<|L0<|b7 a mZ fun dm c2 c3=>Pl 1<|nt<|rt<|br<|tr<|bL c2 (.int .i64 1)<|?_
 have hs:dO dir b=(aP.zero,1):=by
   unfold dO
   (try simp only[d,a3,a4,bs,if_true,if_false,decide_true,decide_false,io,reduceIte])
   all_goals rfl
 refine gh hs ?_
 exact cC (ud f c3 h)
 refine sg<|Pl 4<|nt<|cb ((((b.length:Nat) : Int)==0)) (fun e=>?_) (fun e=>?_)
 have c4:=am e
 refine sg<|Pl 1<|L0<|b7 a mZ fun dn c5 c6=>Pl 1<|nt<|rt<|br<|tr<|bL c5 (.int .i64 2)<|?_
 have hs:dO dir b=(aP.zero,2):=by
   unfold dO
   (try simp only[d,e,bs,if_true,if_false,decide_true,decide_false,io,reduceIte])
   all_goals rfl
 refine gh hs ?_
 exact cC (ud f c6 h)
 have c4:=ap e
 refine sg<|Pl 4<|nt<|cb ((decide (253<((b.length:Nat) : Int)))) (fun g=>?_) (fun g=>?_)
 have c7:=of_decide_eq_true g
 refine sg<|Pl 1<|L0<|b7 a mZ fun dp c8 c9=>Pl 1<|nt<|rt<|br<|tr<|bL c8 (.int .i64 3)<|?_
 have hs:dO dir b=(aP.zero,3):=by
   unfold dO
   (try simp only[d,e,g,bs,if_true,if_false,decide_true,decide_false,io,reduceIte])
   all_goals rfl
 refine gh hs ?_
 exact cC (ud f c9 h)
 have c7:=of_decide_eq_false g
 refine sg<|Pl 1<|?_
 have s:=bi.old hsl f
 refine fM (bi.at_ s 0 (by omega)) fun a5 a6 a7 a8 dq=>L0<|kj b.length 0 a7 (by omega)<|L0<|ec (p:=⟨a5,a6+0,none⟩) (v:=.int .u8 (b.getD 0 0)) a8<|Pl 2<|cu 3 [31] 34 (((decide (128≤(b.getD 0 0)))&&(dir==1))) (fun K a9=>?_) ?_
 refine bl 31 ((decide (128≤(b.getD 0 0)))) (fun y=>?_) (fun y=>?_)
 have ca:=of_decide_eq_true y
 exact Pl 3<|ce a9 (dir==1) (by rw[y];rfl)
 have ca:=of_decide_eq_false y
 exact Pl 3<|ce a9 false (by rw[y];rfl)
 refine Pl 1<|nt<|cb (((decide (128≤(b.getD 0 0)))&&(dir==1))) (fun i=>?_) (fun i=>?_)
 have aa:=(aW i).1
 have ab:=(aW i).2
 have dr:=of_decide_eq_true aa
 have ds:=am ab
 refine sg<|Pl 1<|L0<|Oc<|e2 (nY s (by omega)) fun cc dt z ac=>Pl 2<|?_
 have ad:=ub ac a
 refine L0<|b7 (hz:=(by rw[z.size];exact aO)) (hv:=z.size) (h1:=z.one) ad (cc) fun du cd ae=>Pl 1<|nt<|rt<|br<|tr<|dZ 22 z.size cd (.int .i64 (((ez b)).2))<|?_
 have hs:dO dir b=(ez b):=by
   unfold dO
   (try simp only[d,e,g,i,aa,ab,bs,if_true,if_false,decide_true,decide_false,io,reduceIte])
   all_goals rfl
 refine gh hs ?_
 exact⟨_,rfl,(b6.upd z ae (al (aQ ad (by decide)) aG)),(ud f (uz ac ae) h)⟩
 refine sk<|bn<|tn<|sg<|Pl 1<|L0<|kj b.length 0 a7 (by omega)<|L0<|ec (p:=⟨a5,a6+0,none⟩) (v:=.int .u8 (b.getD 0 0)) a8<|?_
 rcases fW (b.getD 0 0) with⟨hk,hkf⟩|⟨hk,hkf⟩|⟨hk,hkf⟩|⟨hk,hkf⟩|⟨hk,hkf⟩|⟨hk,hkf⟩
 have af:=eA (x:=(b.getD 0 0)) (w:=t)
 rw[hkf] at af
 refine L0<|Oc<|m1 af fun dv aj=>Pl 3<|L0<|bK #[.nilFunc,.nilFunc] fun cf dw an cg ch=>L0<|b7 cg #[.func (.func 138) #[] #[],.func (.func 139) #[] #[]] fun dx ci cj=>Pl 1<|nt<|sq<|sg<|Pl 2<|nt<|c0<|?_
 refine bz<|sq<|?_
 have ao:=aI aj (ud ch cj an)
 have aq:=bi.old s ao
 refine fM (bi.at_ aq 0 (by omega)) fun ck cl ar au dy=>Rg 13 (fun w'=>w'.cell? ⟨cf,0,none⟩=some (.func (.func 138) #[] #[])∧w'.cell? ⟨ck,cl+0,none⟩=some (.int .u8 (b.getD 0 0))) fun dA M=>?_
 have aw:=ub M ci
 refine bh ⟨(ah aw rfl),(uc M au)⟩ fun j=>Rt 0 j<|Rl 1 j (fun _ hs=>hs.1)<|Rt 2 j<|Rt 3 j<|oM 4 j b.length 0 0 rfl ar (by omega)<|Rl 5 j (fun _ hs=>hs.2)<|Rt 6 j<|nv (dD (P:=Tryz.prog) 22 5 1 Tryz.underlying22 rfl rfl A b.length cp 1 (by omega)) fun ax hrun108 cm=>Rr 7 j (.slice ax (b.length-1) (cp-1)) (fun _ _=>dQ (kl:=.i64) (k:=((1:Nat) : Int)) (A:=A) (n:=b.length) (c:=cp) rfl Tryz.underlying22 (by kernel_rfl) (by kernel_rfl) (hrun108 _ _))<|?_
 refine R0 8 rfl<|fH #[] #[] (args:=#[.int .i64 dir,.int .u8 (b.getD 0 0),.slice ax (b.length-1) (cp-1)])<|e2 (i6 (dir:=dir) (c:=(b.getD 0 0)) (b8 (by omega)) (cm _ _ _ _ _ (bi.old aq M)) (by(try simp only[List.length_drop]);omega)) fun cn dB B S=>?_
 have ay:=ub S aw
 have T:=aI M S
 refine bh ⟨(ah ay rfl),(uc T au)⟩ fun az=>Rt 9 az<|Rt 10 az<|?_
 have aA:=aI ao T
 have aB:=ub aA a
 refine R0 11 rfl<|b7 (hz:=(by rw[B.size];exact aO)) (hv:=B.size) (h1:=B.one) aB (cn) fun dC co C=>?_
 have dE:=uz T C
 have dF:=uz S C
 have aC:=ud f (uz aA C) h
 refine bh ⟨(ah (aT C (Ne.symm (nb (ak a) aj.size an)) ay) rfl),(cB (bi.old hsl aC) ar 0 (by omega))⟩ fun cq=>Rt 12 cq<|re<|tn<|rt<|dZ 22 B.size co (.int .i64 (((ag aD dir (b.getD 0 0) (b.drop 1))).2))<|?_
 have hs:dO dir b=(ag aD dir (b.getD 0 0) (b.drop 1)):=by
   unfold dO
   (try simp only[d,e,g,i,bs,if_true,if_false,decide_true,decide_false,hkf,io,reduceIte])
   all_goals rfl
 refine gh hs ?_
 exact⟨_,rfl,(b6.upd B C (al (aQ aB (by decide)) aG)),aC⟩
 have aE:=eA (x:=(b.getD 0 0)) (w:=t)
 rw[hkf] at aE
 refine L0<|Oc<|m1 aE fun dG aF=>Pl 3<|L0<|bK #[.nilFunc,.nilFunc] fun cr dH aJ cs ct=>L0<|b7 cs #[.func (.func 140) #[] #[],.func (.func 141) #[] #[]] fun dI cv cw=>Pl 1<|nt<|sq<|sg<|Pl 2<|nt<|c0<|?_
 refine bz<|sq<|?_
 have aK:=aI aF (ud ct cw aJ)
 have aL:=bi.old s aK
 refine fM (bi.at_ aL 0 (by omega)) fun cx cy aN aR dJ=>Rg 13 (fun w'=>w'.cell? ⟨cr,0,none⟩=some (.func (.func 140) #[] #[])∧w'.cell? ⟨cx,cy+0,none⟩=some (.int .u8 (b.getD 0 0))) fun dK N=>?_
 have aS:=ub N cv
 refine bh ⟨(ah aS rfl),(uc N aR)⟩ fun l=>Rt 0 l<|Rl 1 l (fun _ hs=>hs.1)<|Rt 2 l<|Rt 3 l<|oM 4 l b.length 0 0 rfl aN (by omega)<|Rl 5 l (fun _ hs=>hs.2)<|Rt 6 l<|nv (dD (P:=Tryz.prog) 22 5 1 Tryz.underlying22 rfl rfl A b.length cp 1 (by omega)) fun aU hrun188 cz=>Rr 7 l (.slice aU (b.length-1) (cp-1)) (fun _ _=>dQ (kl:=.i64) (k:=((1:Nat) : Int)) (A:=A) (n:=b.length) (c:=cp) rfl Tryz.underlying22 (by kernel_rfl) (by kernel_rfl) (hrun188 _ _))<|?_
 refine R0 8 rfl<|fH #[] #[] (args:=#[.int .i64 dir,.int .u8 (b.getD 0 0),.slice aU (b.length-1) (cp-1)])<|e2 (j5 (dir:=dir) (c:=(b.getD 0 0)) (b8 (by omega)) (cz _ _ _ _ _ (bi.old aL N)) (by(try simp only[List.length_drop]);omega)) fun cA dL D U=>?_
 have aV:=ub U aS
 have V:=aI N U
 refine bh ⟨(ah aV rfl),(uc V aR)⟩ fun aX=>Rt 9 aX<|Rt 10 aX<|?_
 have aZ:=aI aK V
 have b0:=ub aZ a
 refine R0 11 rfl<|b7 (hz:=(by rw[D.size];exact aO)) (hv:=D.size) (h1:=D.one) b0 (cA) fun dM cD E=>?_
 have dN:=uz V E
 have dP:=uz U E
 have b1:=ud f (uz aZ E) h
 refine bh ⟨(ah (aT E (Ne.symm (nb (ak a) aF.size aJ)) aV) rfl),(cB (bi.old hsl b1) aN 0 (by omega))⟩ fun cE=>Rt 12 cE<|re<|tn<|rt<|dZ 22 D.size cD (.int .i64 (((ag aH dir (b.getD 0 0) (b.drop 1))).2))<|?_
 have hs:dO dir b=(ag aH dir (b.getD 0 0) (b.drop 1)):=by
   unfold dO
   (try simp only[d,e,g,i,bs,if_true,if_false,decide_true,decide_false,hkf,io,reduceIte])
   all_goals rfl
 refine gh hs ?_
 exact⟨_,rfl,(b6.upd D E (al (aQ b0 (by decide)) aG)),b1⟩
 have b2:=eA (x:=(b.getD 0 0)) (w:=t)
 rw[hkf] at b2
 refine L0<|Oc<|m1 b2 fun dR b3=>Pl 3<|L0<|bK #[.nilFunc,.nilFunc] fun cF dS b4 cG cH=>L0<|b7 cG #[.func (.func 142) #[] #[],.func (.func 143) #[] #[]] fun dT cI cJ=>Pl 1<|nt<|sq<|sg<|Pl 2<|nt<|c0<|?_
 refine bz<|sq<|?_
 have b5:=aI b3 (ud cH cJ b4)
 have b9:=bi.old s b5
 refine fM (bi.at_ b9 0 (by omega)) fun cK cL ba bb dU=>Rg 13 (fun w'=>w'.cell? ⟨cF,0,none⟩=some (.func (.func 142) #[] #[])∧w'.cell? ⟨cK,cL+0,none⟩=some (.int .u8 (b.getD 0 0))) fun dV O=>?_
 have bc:=ub O cI
 refine bh ⟨(ah bc rfl),(uc O bb)⟩ fun o=>Rt 0 o<|Rl 1 o (fun _ hs=>hs.1)<|Rt 2 o<|Rt 3 o<|oM 4 o b.length 0 0 rfl ba (by omega)<|Rl 5 o (fun _ hs=>hs.2)<|Rt 6 o<|nv (dD (P:=Tryz.prog) 22 5 1 Tryz.underlying22 rfl rfl A b.length cp 1 (by omega)) fun bd hrun268 cM=>Rr 7 o (.slice bd (b.length-1) (cp-1)) (fun _ _=>dQ (kl:=.i64) (k:=((1:Nat) : Int)) (A:=A) (n:=b.length) (c:=cp) rfl Tryz.underlying22 (by kernel_rfl) (by kernel_rfl) (hrun268 _ _))<|?_
 refine R0 8 rfl<|fH #[] #[] (args:=#[.int .i64 dir,.int .u8 (b.getD 0 0),.slice bd (b.length-1) (cp-1)])<|e2 (j6 (dir:=dir) (c:=(b.getD 0 0)) (b8 (by omega)) (cM _ _ _ _ _ (bi.old b9 O)) (by(try simp only[List.length_drop]);omega)) fun cN dW F W=>?_
 have be:=ub W bc
 have X:=aI O W
 refine bh ⟨(ah be rfl),(uc X bb)⟩ fun bf=>Rt 9 bf<|Rt 10 bf<|?_
 have bg:=aI b5 X
 have bj:=ub bg a
 refine R0 11 rfl<|b7 (hz:=(by rw[F.size];exact aO)) (hv:=F.size) (h1:=F.one) bj (cN) fun dX cO G=>?_
 have dY:=uz X G
 have e0:=uz W G
 have bm:=ud f (uz bg G) h
 refine bh ⟨(ah (aT G (Ne.symm (nb (ak a) b3.size b4)) be) rfl),(cB (bi.old hsl bm) ba 0 (by omega))⟩ fun cP=>Rt 12 cP<|re<|tn<|rt<|dZ 22 F.size cO (.int .i64 (((ag aM dir (b.getD 0 0) (b.drop 1))).2))<|?_
 have hs:dO dir b=(ag aM dir (b.getD 0 0) (b.drop 1)):=by
   unfold dO
   (try simp only[d,e,g,i,bs,if_true,if_false,decide_true,decide_false,hkf,io,reduceIte])
   all_goals rfl
 refine gh hs ?_
 exact⟨_,rfl,(b6.upd F G (al (aQ bj (by decide)) aG)),bm⟩
 have bo:=eA (x:=(b.getD 0 0)) (w:=t)
 rw[hkf] at bo
 refine L0<|Oc<|m1 bo fun e1 bp=>Pl 3<|L0<|bK #[.nilFunc,.nilFunc] fun cQ e3 bq cR cS=>L0<|b7 cR #[.func (.func 144) #[] #[],.func (.func 145) #[] #[]] fun e4 cT cU=>Pl 1<|nt<|sq<|sg<|Pl 2<|nt<|c0<|?_
 refine bz<|sq<|?_
 have bt:=aI bp (ud cS cU bq)
 have bu:=bi.old s bt
 refine fM (bi.at_ bu 0 (by omega)) fun cV cW bv bw e5=>Rg 13 (fun w'=>w'.cell? ⟨cQ,0,none⟩=some (.func (.func 144) #[] #[])∧w'.cell? ⟨cV,cW+0,none⟩=some (.int .u8 (b.getD 0 0))) fun e6 Q=>?_
 have bx:=ub Q cT
 refine bh ⟨(ah bx rfl),(uc Q bw)⟩ fun q=>Rt 0 q<|Rl 1 q (fun _ hs=>hs.1)<|Rt 2 q<|Rt 3 q<|oM 4 q b.length 0 0 rfl bv (by omega)<|Rl 5 q (fun _ hs=>hs.2)<|Rt 6 q<|nv (dD (P:=Tryz.prog) 22 5 1 Tryz.underlying22 rfl rfl A b.length cp 1 (by omega)) fun bA hrun348 cX=>Rr 7 q (.slice bA (b.length-1) (cp-1)) (fun _ _=>dQ (kl:=.i64) (k:=((1:Nat) : Int)) (A:=A) (n:=b.length) (c:=cp) rfl Tryz.underlying22 (by kernel_rfl) (by kernel_rfl) (hrun348 _ _))<|?_
 refine R0 8 rfl<|fH #[] #[] (args:=#[.int .i64 dir,.int .u8 (b.getD 0 0),.slice bA (b.length-1) (cp-1)])<|e2 (ia (dir:=dir) (c:=(b.getD 0 0)) (b8 (by omega)) (cX _ _ _ _ _ (bi.old bu Q)) (by(try simp only[List.length_drop]);omega)) fun cY e7 H Y=>?_
 have bB:=ub Y bx
 have Z:=aI Q Y
 refine bh ⟨(ah bB rfl),(uc Z bw)⟩ fun bC=>Rt 9 bC<|Rt 10 bC<|?_
 have bD:=aI bt Z
 have bE:=ub bD a
 refine R0 11 rfl<|b7 (hz:=(by rw[H.size];exact aO)) (hv:=H.size) (h1:=H.one) bE (cY) fun e8 cZ I=>?_
 have e9:=uz Z I
 have ea:=uz Y I
 have bG:=ud f (uz bD I) h
 refine bh ⟨(ah (aT I (Ne.symm (nb (ak a) bp.size bq)) bB) rfl),(cB (bi.old hsl bG) bv 0 (by omega))⟩ fun d0=>Rt 12 d0<|re<|tn<|rt<|dZ 22 H.size cZ (.int .i64 (((ag aY dir (b.getD 0 0) (b.drop 1))).2))<|?_
 have hs:dO dir b=(ag aY dir (b.getD 0 0) (b.drop 1)):=by
   unfold dO
   (try simp only[d,e,g,i,bs,if_true,if_false,decide_true,decide_false,hkf,io,reduceIte])
   all_goals rfl
 refine gh hs ?_
 exact⟨_,rfl,(b6.upd H I (al (aQ bE (by decide)) aG)),bG⟩
 have bH:=eA (x:=(b.getD 0 0)) (w:=t)
 rw[hkf] at bH
 refine L0<|Oc<|m1 bH fun eb bI=>Pl 3<|L0<|bK #[.nilFunc,.nilFunc] fun d1 ed bJ d2 d3=>L0<|b7 d2 #[.func (.func 146) #[] #[],.func (.func 147) #[] #[]] fun ee d4 d5=>Pl 1<|nt<|sq<|sg<|Pl 2<|nt<|c0<|?_
 refine bz<|sq<|?_
 have bM:=aI bI (ud d3 d5 bJ)
 have bN:=bi.old s bM
 refine fM (bi.at_ bN 0 (by omega)) fun d6 d7 bO bP ef=>Rg 13 (fun w'=>w'.cell? ⟨d1,0,none⟩=some (.func (.func 146) #[] #[])∧w'.cell? ⟨d6,d7+0,none⟩=some (.int .u8 (b.getD 0 0))) fun eg R=>?_
 have bQ:=ub R d4
 refine bh ⟨(ah bQ rfl),(uc R bP)⟩ fun r=>Rt 0 r<|Rl 1 r (fun _ hs=>hs.1)<|Rt 2 r<|Rt 3 r<|oM 4 r b.length 0 0 rfl bO (by omega)<|Rl 5 r (fun _ hs=>hs.2)<|Rt 6 r<|nv (dD (P:=Tryz.prog) 22 5 1 Tryz.underlying22 rfl rfl A b.length cp 1 (by omega)) fun bR hrun428 d8=>Rr 7 r (.slice bR (b.length-1) (cp-1)) (fun _ _=>dQ (kl:=.i64) (k:=((1:Nat) : Int)) (A:=A) (n:=b.length) (c:=cp) rfl Tryz.underlying22 (by kernel_rfl) (by kernel_rfl) (hrun428 _ _))<|?_
 refine R0 8 rfl<|fH #[] #[] (args:=#[.int .i64 dir,.int .u8 (b.getD 0 0),.slice bR (b.length-1) (cp-1)])<|e2 (jK (dir:=dir) (c:=(b.getD 0 0)) (b8 (by omega)) (d8 _ _ _ _ _ (bi.old bN R)) (by(try simp only[List.length_drop]);omega)) fun d9 eh J a0=>?_
 have bS:=ub a0 bQ
 have a1:=aI R a0
 refine bh ⟨(ah bS rfl),(uc a1 bP)⟩ fun bT=>Rt 9 bT<|Rt 10 bT<|?_
 have bU:=aI bM a1
 have bV:=ub bU a
 refine R0 11 rfl<|b7 (hz:=(by rw[J.size];exact aO)) (hv:=J.size) (h1:=J.one) bV (d9) fun ei da L=>?_
 have ej:=uz a1 L
 have ek:=uz a0 L
 have bW:=ud f (uz bU L) h
 refine bh ⟨(ah (aT L (Ne.symm (nb (ak a) bI.size bJ)) bS) rfl),(cB (bi.old hsl bW) bO 0 (by omega))⟩ fun db=>Rt 12 db<|re<|tn<|rt<|dZ 22 J.size da (.int .i64 (((ag bF dir (b.getD 0 0) (b.drop 1))).2))<|?_
 have hs:dO dir b=(ag bF dir (b.getD 0 0) (b.drop 1)):=by
   unfold dO
   (try simp only[d,e,g,i,bs,if_true,if_false,decide_true,decide_false,hkf,io,reduceIte])
   all_goals rfl
 refine gh hs ?_
 exact⟨_,rfl,(b6.upd J L (al (aQ bV (by decide)) aG)),bW⟩
 have bX:=eA (x:=(b.getD 0 0)) (w:=t)
 rw[hkf] at bX
 refine L0<|Oc<|m1 bX fun el dc=>Pl 3<|L0<|bK #[.nilFunc,.nilFunc] fun em eo dd de df=>L0<|b7 de #[.nilFunc,.nilFunc] fun ep eq dg=>Pl 1<|nt<|sq<|sg<|Pl 2<|nt<|c1<|?_
 refine sg<|Pl 1<|?_
 have bY:=aI dc (ud df dg dd)
 refine L0<|b7 (ub bY a) mZ fun er dh di=>Pl 1<|nt<|rt<|tr<|bL dh (.int .i64 4)<|?_
 have hs:dO dir b=(aP.zero,4):=by
   unfold dO
   (try simp only[d,e,g,i,bs,if_true,if_false,decide_true,decide_false,hkf,io,reduceIte])
   all_goals rfl
 refine gh hs ?_
 exact cC (ud f (uz bY di) h)
theorem gV{m:Md}{v:Value}{b:List Int}{w:World}{dir:Int}(h:bi m w v b)(hb:b.length≤1048576) : Calls Tryz.prog 24 #[.int .i64 dir,v] w (dz (dO dir b) w):=by
  obtain⟨A,cp,rfl,_,_⟩:=h.shape
  exact mu h hb
end Go.Proofs.YtogbnemojakcpaaGreat
namespace Go.Proofs.YtogbnemojakcpaaGreat
def N1 (C:aa) : Prop:=C.e≠1
theorem N1.need{C:aa}{b:Bool}{x:Int}(hx:x≠1)(h:N1 C) : N1 (C.need b x):=by
  unfold N1 aa.need at *
  split
  · exact hx
  · exact h
theorem N1.bytesC{C:aa}{n:Int}(h:N1 C) : N1 (C.bytesC n):=by
  unfold aa.bytesC
  split
  · exact N1.need (by decide) h
  · exact h
theorem N1.wordsC{C:aa}{n:Int}(h:N1 C) : N1 (C.wordsC n):=by
  unfold aa.wordsC
  split<;>exact N1.bytesC h
theorem N1.recs{one:Int→aa→Int × aa × de}(ho:∀ s C,N1 C→N1 (one s C).2.1) : ∀ (n:Nat)(s:Int)(C:aa)(L:List de),N1 C→N1 (aN one n s C L).1
  | 0,_,_,_,h=>h
  | n+1,s,C,L,h=>by
    unfold aN
    split
    · split
      · exact ho s C h
      · exact N1.recs ho n _ _ _ (ho s C h)
    · exact h
theorem N1.endC{C:aa}(h:N1 C) : N1 C.endC:=by
  unfold aa.endC
  exact N1.need (by decide) h
end Go.Proofs.YtogbnemojakcpaaGreat
namespace Go.Proofs.YtogbnemojakcpaaGreat
end Go.Proofs.YtogbnemojakcpaaGreat
namespace Go.Proofs.YtogbnemojakcpaaGreat
open Go.RowKit
theorem oN{w w':World}(h:aE [] w w') : Below w.heap.size w w':=⟨h.os,h.tape,h.output,h.size,fun k hk=>h.block k hk (by simp)⟩
theorem oz{n:Int}(h:(Lit.int .u8 n).wf=true) : 0≤n∧n<256:=by
  have:=bounds_u8 h
  omega
open Go.RowKit
structure SL where
  aw:Option Addr
  kw:Nat
  ab:Option Addr
  kb:Nat
  ad:Option Addr
  kd:Nat
  ar:Option Addr
  kr:Nat
  ao:Option Addr
  ko:Nat
def s3 (M:aP)(x:SL) : Array Value:=mG M.code M.fail M.addr M.count M.value M.and_ M.or_ M.addr2 M.sub M.status M.events M.messages (.slice x.aw M.words.length x.kw) (.slice x.ab M.bits.length x.kb) (.slice x.ad M.data.length x.kd) (.slice x.ar M.recs.length x.kr) M.mei M.kind M.level M.more M.next (.slice x.ao M.objects.length x.ko)
theorem ph{m:Md}{w:World}{cs:Array Value}{M:aP}(h:b6 m w cs.toList M) : ∃ x,cs=s3 M x:=by
  obtain⟨vw,vb,vd,vr,vo,h0,hw,hb,hd,hr,ho,hR⟩:=h
  obtain⟨aw,kw,rfl,_,_⟩:=hw.shape
  obtain⟨ab,kb,rfl,_,_⟩:=hb.shape
  obtain⟨ad,kd,rfl,_,_⟩:=hd.shape
  obtain⟨ar,kr,rfl,_,_⟩:=hr.shape
  obtain⟨ao,ko,rfl,_,_⟩:=ho.shape
  refine⟨⟨aw,kw,ab,kb,ad,kd,ar,kr,ao,ko⟩,?_⟩
  apply Array.toList_inj.1
  rw[h0]
  rfl
theorem lD{m:Md}{v:Value}{b:List Int}{w:World}{dir:Int}{M:aP}{E:Int}(hX:dO dir b=(M,E))(h:bi m w v b)(hb:b.length≤1048576) : Calls Tryz.prog 24 #[.int .i64 dir,v] w (fun e w'=>∃ x,e = .returned (.tuple #[.agg (s3 M x),.int .i64 E])∧b6 true w' (s3 M x).toList M∧aE [] w w'):=by
  refine(gV h hb).mono ?_
  rintro e w' ⟨cs,rfl,h1,h2⟩
  rw[hX] at h1 ⊢
  obtain⟨x,rfl⟩:=ph h1
  exact⟨x,rfl,h1,h2⟩
end Go.Proofs.YtogbnemojakcpaaGreat
namespace Go.Proofs.YtogbnemojakcpaaGreat
def gQ (C:aa) : Prop:=∀ x,x∈C.l→0≤x∧x<256
theorem p4{C:aa}{ok:Bool}{x:Int}(hx:x≠0)(h:(C.need ok x).e=0) : C.e=0∧ok=true:=by
  unfold aa.need at h
  split at h
  · exact absurd h hx
  · rename_i hh
    refine⟨h,?_⟩
    cases ok
    · exact absurd ⟨h,rfl⟩ hh
    · rfl
theorem lN{C:aa}{n:Int}(h:(C.bytesC n).e=0) : C.e=0∧C.l=C.bytesR n++(C.bytesC n).l∧((C.bytesR n).length:Int)=n:=by
  unfold aa.bytesC at h ⊢
  unfold aa.bytesR
  split at h
  · exfalso
    unfold aa.need at h
    split at h
    · cases h
    · rename_i hh
      exact hh ⟨h,rfl⟩
  · rename_i hf
    rw[if_neg hf,if_neg hf]
    refine⟨h,(List.take_append_drop _ _).symm,?_⟩
    unfold aa.fails at hf
    simp only[Bool.or_eq_true,decide_eq_true_eq,not_or] at hf
    rw[List.length_take]
    omega
theorem iQ:∀ (l:List Int),l.length%2=0→(∀ x,x∈l→0≤x∧x<256)→be (cV l)=l
  | [],_,_=>rfl
  | [_],h,_=>by simp at h
  | a :: b :: r,h,hr=>by
    have ha:=hr a (by simp)
    have hb:=hr b (by simp)
    simp only[cV,be]
    rw[iQ r (by simp at h;omega) (fun x hx=>hr x (by simp[hx]))]
    congr 1
    · omega
    · congr 1
      omega
theorem rW{C:aa}{n:Int}(hr:gQ C)(h:(C.wordsC n).e=0) : C.e=0∧C.l=be (C.wordsR n)++(C.wordsC n).l∧((C.wordsR n).length:Int)=n:=by
  unfold aa.wordsC at h ⊢
  unfold aa.wordsR
  split at h
  · obtain⟨_,_,h3⟩:=lN h
    omega
  · rename_i hb
    rw[if_neg hb,if_neg hb]
    obtain⟨h1,h2,h3⟩:=lN h
    have h4:(C.bytesR (2*n)).length%2=0:=by omega
    have h5:∀ x,x∈C.bytesR (2*n)→0≤x∧x<256:=fun x hx=>hr x (by rw[h2];exact List.mem_append_left _ hx)
    unfold cH
    rw[if_pos h4]
    refine⟨h1,by rw[iQ _ h4 h5];exact h2,?_⟩
    rw[eI]
    omega
def mR (C:aa)(l:List Int)(C':aa) : Prop:=gQ C→gQ C'∧(C'.e=0→C.e=0∧C.l=l++C'.l)
theorem mR.trans{A B C:aa}{l m:List Int}(h:mR A l B)(k:mR B m C) : mR A (l++m) C:=fun hr=>by
  obtain⟨h1,h2⟩:=h hr
  obtain⟨k1,k2⟩:=k h1
  refine⟨k1,fun he=>?_⟩
  obtain⟨k3,k4⟩:=k2 he
  obtain⟨h3,h4⟩:=h2 k3
  exact⟨h3,by rw[h4,k4,List.append_assoc]⟩
theorem mR.refl(C:aa) : mR C [] C:=fun hr=>⟨hr,fun he=>⟨he,rfl⟩⟩
theorem mR.need{A C:aa}{l:List Int}{ok:Bool}{x:Int}(h:mR A l C)(hx:x≠0:=by decide) : mR A l (C.need ok x):=fun hr=>by
  obtain⟨h1,h2⟩:=h hr
  refine⟨fun y hy=>h1 y (by rwa [iI] at hy),fun he=>?_⟩
  rw[iI]
  exact h2 (p4 hx he).1
theorem mR.bytes{A C:aa}{l:List Int}(h:mR A l C)(n:Int) : mR A (l++C.bytesR n) (C.bytesC n):=h.trans fun hr=>⟨gz hr n,fun he=>⟨(lN he).1,(lN he).2.1⟩⟩
theorem mR.words{A C:aa}{l:List Int}(h:mR A l C)(n:Int) : mR A (l++be (C.wordsR n)) (C.wordsC n):=h.trans fun hr=>⟨cG hr n,fun he=>⟨(rW hr he).1,(rW hr he).2.1⟩⟩
theorem gy{C:aa}(hr:gQ C) : 0≤C.byteV∧C.byteV<256:=by
  unfold aa.byteV
  rw[List.getD_eq_getElem?_getD]
  cases h:(C.bytesR 1)[0]? with
  | none=>simp
  | some x =>
    have hm:x∈C.bytesR 1:=List.mem_of_getElem? h
    have:x∈C.l:=by
      unfold aa.bytesR at hm
      split at hm
      · cases hm
      · exact List.mem_of_mem_take hm
    exact hr x this
theorem rq:∀ n:Nat,n<256→(((if ((n:Int)/2 ^ 0%2==1) then 1 else 0)+(if ((n:Int)/2 ^ 1%2==1) then 2 else 0)+(if ((n:Int)/2 ^ 2%2==1) then 4 else 0)+(if ((n:Int)/2 ^ 3%2==1) then 8 else 0)+(if ((n:Int)/2 ^ 4%2==1) then 16 else 0)+(if ((n:Int)/2 ^ 5%2==1) then 32 else 0)+(if ((n:Int)/2 ^ 6%2==1) then 64 else 0)+(if ((n:Int)/2 ^ 7%2==1) then 128 else 0) : Nat) : Int)=n:=by decide +kernel
theorem jj{x:Int}(hx:0≤x∧x<256)(f:Nat→Bool)(hf:∀ i,i<8→f i=(x/2 ^ i%2==1)) :
    (((if f 0 then 1 else 0)+(if f 1 then 2 else 0)+(if f 2 then 4 else 0)+(if f 3 then 8 else 0)+(if f 4 then 16 else 0)+(if f 5 then 32 else 0)+(if f 6 then 64 else 0)+(if f 7 then 128 else 0) : Nat) : Int)=x:=by
  rw[hf 0 (by decide),hf 1 (by decide),hf 2 (by decide),hf 3 (by decide),hf 4 (by decide),hf 5 (by decide),hf 6 (by decide),hf 7 (by decide)]
  obtain⟨n,rfl⟩:=Int.eq_ofNat_of_zero_le hx.1
  exact rq n (by omega)
theorem lm{b:List Int}{n:Int}{l:List Bool}(hr:∀ x,x∈b→0≤x∧x<256)(h:bX b n=some l) : cF l=b:=by
  unfold bX at h
  split at h
  · rename_i hc
    split at h
    · rename_i hall
      injection h with h
      subst h
      have hlen:((List.range n.toNat).map (cv b)).length=n.toNat:=by simp
      have hm:((List.range n.toNat).map (cv b)).length=n:=by rw[hlen];omega
      unfold cF
      rw[hm,← hc.2]
      apply List.ext_getElem
      · simp
      intro j h1 h2
      simp only[List.getElem_map,List.getElem_range]
      have hj:j<b.length:=h2
      have hget:∀ i,i<8*b.length→((List.range n.toNat).map (cv b)).getD i false=cv b i:=fun i hi=>by
        rw[List.getD_eq_getElem?_getD,List.getElem?_map]
        by_cases hin:i<n.toNat
        · rw[List.getElem?_range hin];rfl
        · rw[List.getElem?_eq_none (by simpa using hin)]
          rw[List.all_eq_true] at hall
          have:=hall i (by simpa using hi)
          simp only[Bool.or_eq_true,decide_eq_true_eq,Bool.not_eq_true'] at this
          rcases this with h3|h3
          · omega
          · simp[h3]
      have hx:∀ k,k<8→cv b (8*j+k)=(b[j]/2 ^ k%2==1):=fun k hk=>by
        unfold cv
        rw[show(8*j+k)/8=j from by omega,show(8*j+k)%8=k from by omega,List.getD_eq_getElem?_getD,List.getElem?_eq_getElem hj]
        rfl
      unfold bS
      rw[show(8*j:Nat)=8*j+0 from rfl]
      simp only[hget _ (show 8*j+0<8*b.length by omega),hget _ (show 8*j+0+1<8*b.length by omega),hget _ (show 8*j+0+2<8*b.length by omega),hget _ (show 8*j+0+3<8*b.length by omega),hget _ (show 8*j+0+4<8*b.length by omega),hget _ (show 8*j+0+5<8*b.length by omega),hget _ (show 8*j+0+6<8*b.length by omega),hget _ (show 8*j+0+7<8*b.length by omega)]
      exact jj (hr _ (List.getElem_mem hj)) (fun k=>cv b (8*j+k)) hx
    · cases h
  · cases h
end Go.Proofs.YtogbnemojakcpaaGreat
namespace Go.Proofs.YtogbnemojakcpaaGreat
end Go.Proofs.YtogbnemojakcpaaGreat
namespace Go.Proofs.YtogbnemojakcpaaGreat
end Go.Proofs.YtogbnemojakcpaaGreat
namespace Go.Proofs.YtogbnemojakcpaaGreat
def Sh (C C':aa) : Prop:=C'.l.length≤C.l.length
theorem Sh.refl(C:aa) : Sh C C:=Nat.le_refl _
theorem Sh.bytes{A C:aa}(h:Sh A C){n:Int}:Sh A (C.bytesC n):=Nat.le_trans (gr C n) h
theorem Sh.words{A C:aa}(h:Sh A C){n:Int}:Sh A (C.wordsC n):=Nat.le_trans (ep C n) h
theorem Sh.need{A C:aa}(h:Sh A C){b:Bool}{e:Int}:Sh A (C.need b e):=by unfold Sh;rw[ea];exact h
end Go.Proofs.YtogbnemojakcpaaGreat
namespace Go.Proofs.YtogbnemojakcpaaGreat
def N4 (C:aa) : Prop:=C.e≠4
theorem N4.need{C:aa}{b:Bool}{x:Int}(hx:x≠4)(h:N4 C) : N4 (C.need b x):=by
  unfold N4 aa.need at *
  split
  · exact hx
  · exact h
theorem N4.bytesC{C:aa}{n:Int}(h:N4 C) : N4 (C.bytesC n):=by
  unfold aa.bytesC
  split
  · exact N4.need (by decide) h
  · exact h
theorem N4.wordsC{C:aa}{n:Int}(h:N4 C) : N4 (C.wordsC n):=by
  unfold aa.wordsC
  split<;>exact N4.bytesC h
theorem N4.recs{one:Int→aa→Int × aa × de}(ho:∀ s C,N4 C→N4 (one s C).2.1) : ∀ (n:Nat)(s:Int)(C:aa)(L:List de),N4 C→N4 (aN one n s C L).1
  | 0,_,_,_,h=>h
  | n+1,s,C,L,h=>by
    unfold aN
    split
    · split
      · exact ho s C h
      · exact N4.recs ho n _ _ _ (ho s C h)
    · exact h
theorem mj{x:Int}(h:x≠4) : bq x≠4:=by
  unfold bq
  split
  · decide
  · exact h
theorem qs{dir c:Int}{C:aa}{r:aa × aP}(hC:N4 C)(h:aD dir c C=some r) : N4 r.1:=by
  unfold aD at h
  repeat' split at h
  all_goals first | cases h | skip
  all_goals simp only[cD,co,cj,e8,bp,gW,dE,d6,jg,eV]
  all_goals repeat' first | with_reducible exact hC | with_reducible apply N4.bytesC | with_reducible apply N4.wordsC | (with_reducible refine N4.need (by decide) ?_)
theorem rJ{dir c:Int}{C:aa}{r:aa × aP}(hC:N4 C)(h:aH dir c C=some r) : N4 r.1:=by
  unfold aH at h
  repeat' split at h
  all_goals first | cases h | skip
  all_goals simp only[bI,bO,cP,cA,ck,cz,cy,gi,kG,kF,aS,np,cW,jH,p5,tC,sV]
  all_goals repeat' first | with_reducible exact hC | with_reducible apply N4.bytesC | with_reducible apply N4.wordsC | (with_reducible refine N4.need (by decide) ?_)
theorem qL{dir c:Int}{C:aa}{r:aa × aP}(hC:N4 C)(h:aM dir c C=some r) : N4 r.1:=by
  unfold aM dP bV at h
  repeat' split at h
  all_goals first | cases h | skip
  all_goals simp only[eD,i9,fO,gn,dq]
  all_goals repeat' first | with_reducible exact hC | with_reducible apply N4.bytesC | with_reducible apply N4.wordsC | (with_reducible refine N4.need (by decide) ?_)
theorem rA(s:Int)(C:aa)(h:N4 C) : N4 (cL s C).2.1:=by
  simp only[cL,eo,dt,gB,gC,l9]
  repeat' first | with_reducible exact h | with_reducible apply N4.bytesC | with_reducible apply N4.wordsC | (with_reducible refine N4.need (by decide) ?_)
theorem oV(s:Int)(C:aa)(h:N4 C) : N4 (bG s C).2.1:=by
  simp only[bG,et,gg,gj]
  repeat' first | with_reducible exact h | with_reducible apply N4.bytesC | with_reducible apply N4.wordsC | (with_reducible refine N4.need (by decide) ?_)
theorem qD(s:Int)(C:aa)(h:N4 C) : N4 (cJ s C).2.1:=by
  simp only[cJ,gM,lZ,dt,gB,gC,l9]
  repeat' first | with_reducible exact h | with_reducible apply N4.bytesC | with_reducible apply N4.wordsC | (with_reducible refine N4.need (by decide) ?_)
theorem hH{one:Int→aa→Int × aa × de}(ho:∀ s C,N4 C→N4 (one s C).2.1)(may:Int→Bool)(c:Int){C:aa}(hC:N4 C) : N4 (dF one may c C).1:=by
  unfold dF ji
  refine N4.need (mj (N4.recs ho _ _ _ _ ?_)) (N4.bytesC (N4.need (by decide) (N4.bytesC hC)))
  show(0:Int)≠4
  decide
theorem pv{dir c:Int}{C:aa}{r:aa × aP}(hC:N4 C)(h:aY dir c C=some r) : N4 r.1:=by
  unfold aY at h
  repeat' split at h
  all_goals first | cases h | skip
  · exact hH rA _ _ hC
  · exact hH oV _ _ hC
  · exact hH qD _ _ hC
theorem N4.endC{C:aa}(h:N4 C) : N4 C.endC:=by
  unfold aa.endC
  exact N4.need (by decide) h
theorem pT{form:Int→Int→aa→Option (aa × aP)}(hg:∀ {dir c:Int}{C:aa}{r:aa × aP},N4 C→form dir c C=some r→N4 r.1){dir c:Int}{b:List Int}(hd:dir=0∨dir=1){r:aa × aP}(hf:form dir c ⟨b,false,0⟩=some r) :
    (ag form dir c b).2≠4:=by
  unfold ag
  rw[if_pos hd,hf]
  have h0:N4 ⟨b,false,0⟩:=by show(0:Int)≠4;decide
  have g1:=hg h0 hf
  show(aF r.2 r.1).2≠4
  unfold aF
  split
  · exact(show ¬ (0:Int)=4 from by decide)
  · exact N4.endC g1
theorem lW{form:Int→Int→aa→Option (aa × aP)}{dir c:Int}{b:List Int}(hd:dir=0∨dir=1)(hf:form dir c ⟨b,false,0⟩=none) : ag form dir c b=(aP.zero,4):=by
  unfold ag
  rw[if_pos hd,hf]
def eB (dir:Int)(b:List Int) : aP × Int :=
  if (ag aD dir (b.getD 0 0) (b.drop 1)).2==4 then
    if (ag aH dir (b.getD 0 0) (b.drop 1)).2==4 then
      if (ag aM dir (b.getD 0 0) (b.drop 1)).2==4 then
        if (ag aY dir (b.getD 0 0) (b.drop 1)).2==4 then ag bF dir (b.getD 0 0) (b.drop 1)
        else ag aY dir (b.getD 0 0) (b.drop 1)
      else ag aM dir (b.getD 0 0) (b.drop 1)
    else ag aH dir (b.getD 0 0) (b.drop 1)
  else ag aD dir (b.getD 0 0) (b.drop 1)
theorem oL{dir:Int}{b:List Int}(hd:dir=0∨dir=1) : eB dir b=io (iA (b.getD 0 0)) dir b:=by
  have no:∀ (form:Int→Int→aa→Option (aa × aP)),form dir (b.getD 0 0) ⟨b.drop 1,false,0⟩=none→((ag form dir (b.getD 0 0) (b.drop 1)).2==4)=true:=fun f h=>by rw[lW hd h];rfl
  have ye:∀ (form:Int→Int→aa→Option (aa × aP)),(∀ {dir c:Int} {C:aa} {r:aa × aP},N4 C→form dir c C=some r→N4 r.1)→(form dir (b.getD 0 0) ⟨b.drop 1,false,0⟩).isSome=true→¬ ((ag form dir (b.getD 0 0) (b.drop 1)).2==4)=true:=fun form hg h=>by
    obtain⟨r,hr⟩:=Option.isSome_iff_exists.1 h
    have k:=pT (form:=form) (c:=b.getD 0 0) (fun hC h=>hg hC h) hd hr
    rw[beq_iff_eq]
    exact k
  unfold eB
  rcases fW (b.getD 0 0) with⟨hk,hf⟩|⟨hk,hf⟩|⟨hk,hf⟩|⟨hk,hf⟩|⟨hk,hf⟩|⟨hk,hf⟩<;>rw[hf]
  · rw[if_neg (ye aD (fun hC h=>qs hC h) (by rcases hd with rfl | rfl<;>rcases hk with h | h | h | h<;>rw[h]<;>rfl))]
    rfl
  · rw[if_pos (no aD (by rcases hk with h | h | h | h | h | h | h<;>rw[h]<;>rfl)),if_neg (ye aH (fun hC h=>rJ hC h) (by rcases hd with rfl | rfl<;>rcases hk with h | h | h | h | h | h | h<;>rw[h]<;>rfl))]
    rfl
  · rw[if_pos (no aD (by rcases hk with h | h | h | h | h<;>rw[h]<;>rfl)),if_pos (no aH (by rcases hk with h | h | h | h | h<;>rw[h]<;>rfl)),if_neg (ye aM (fun hC h=>qL hC h) (by rcases hd with rfl | rfl<;>rcases hk with h | h | h | h | h<;>rw[h]<;>rfl))]
    rfl
  · rw[if_pos (no aD (by rcases hk with h | h<;>rw[h]<;>rfl)),if_pos (no aH (by rcases hk with h | h<;>rw[h]<;>rfl)),if_pos (no aM (by rcases hk with h | h<;>rw[h]<;>rfl)),if_neg (ye aY (fun hC h=>pv hC h) (by rcases hd with rfl | rfl<;>rcases hk with h | h<;>rw[h]<;>rfl))]
    rfl
  · rw[if_pos (no aD (by rw[hk]<;>rfl)),if_pos (no aH (by rw[hk]<;>rfl)),if_pos (no aM (by rw[hk]<;>rfl)),if_pos (no aY (by rw[hk]<;>rfl))]
    rfl
  · have no0:∀ (form:Int→Int→aa→Option (aa × aP)),(∀ C,form dir (b.getD 0 0) C=none)→((ag form dir (b.getD 0 0) (b.drop 1)).2==4)=true:=fun f h=>no f (h _)
    have ne:∀ k:Int,¬ b.getD 0 0=k→(b.getD 0 0==k)=false:=fun k h=>by simpa using h
    obtain⟨z1,z2,z5,a,z3,z4,z6,d,e,g,i,z7,z8,j,l,m,n,o,p⟩:=hk
    rw[if_pos (no0 aD fun C=>by unfold aD;simp only[ne _ z1,ne _ z2,ne _ z5,ne _ a,Bool.or_false,Bool.false_eq_true,if_false]),if_pos (no0 aH fun C=>by unfold aH;simp only[ne _ z3,ne _ z4,ne _ z6,ne _ d,ne _ e,ne _ g,ne _ i,Bool.or_false,Bool.false_eq_true,if_false]),if_pos (no0 aM fun C=>by unfold aM;simp only[ne _ z7,ne _ z8,ne _ j,ne _ l,ne _ m,Bool.or_false,Bool.false_eq_true,if_false]),if_pos (no0 aY fun C=>by unfold aY;simp only[ne _ n,ne _ o,Bool.or_false,Bool.false_eq_true,if_false])]
    exact lW hd (by unfold bF;rw[if_pos (show(b.getD 0 0 != 43)=true from by rw[bne_iff_ne];exact p)])
def fd (dir:Int)(b:List Int) : aP × Int :=
  if dir != 0&&dir != 1 then (aP.zero,1)
  else if (b.length:Int)==0 then (aP.zero,2)
  else if decide (253<(b.length:Int)) then (aP.zero,3)
  else if decide (128≤b.getD 0 0)&&dir==1 then ez b
  else eB dir b
theorem eG(dir:Int)(b:List Int) : fd dir b=dO dir b:=by
  unfold fd dO
  split
  · rfl
  · rename_i hh
    have hd:dir=0∨dir=1:=by simp only[Bool.and_eq_true,bne_iff_ne,ne_eq] at hh;omega
    rw[oL hd]
open Go.RowKit
theorem it{P:Program}(t e:TypeId)(sz:Nat){i:TypeInfo}(ht:P.underlying t=some (.slice e))(hi:P.info? e=some i)(hsz:i.size=sz)(A:Option Addr)(n c:Nat){lo up:Int}(k h:Nat)(hlo:lo=(k:Int))(hup:up=(h:Int))(hk:k≤h)(hh:h≤n)(hc:n≤c) :
    ∃ A':Option Addr,(∀ (kl kh:IntKind) (W:World),(Instr.slice t (.slice A n c) (some (.int kl lo)) (some (.int kh up)) none).run P W = .ok (.slice A' (h-k) (c-k)) W) ∧
      ∀ {α:Type} (m:Md) (e':TypeId) (R:World→α→List Value→Prop) (w:World) (xs:List α),aK m e' sz R w (.slice A n c) xs→aK m e' sz R w (.slice A' (h-k) (c-k)) ((xs.take h).drop k):=by
  subst hlo hup
  exact sA t e sz ht hi hsz A n c k h hk hh hc
theorem fY{o:Oper}{ev:Operand→Value}{P:Program}{w:World}{t:TypeId}{x y z:Operand}{A:Option Addr}{n c:Nat}{kl kh:IntKind}{lo hi:Int}{v:Value}{e:TypeId}(ho:o.op = .slice t x (some y) (some z) none)(ht:P.underlying t=some (.slice e))(hx:ev x = .slice A n c)(hy:ev y = .int kl lo)(hz:ev z = .int kh hi)
    (hr:(Instr.slice t (.slice A n c) (some (.int kl lo)) (some (.int kh hi)) none).run P w = .ok v w) : (execOp ev o).run P w = .ok (.value v) w:=by
  have hu:(underlying t).run P w = .ok (.slice e) w:=run_underlying ht w
  unfold execOp
  simp only[ho,Option.map_some,Option.map_none,hx,hy,hz,Instr.sliceAt,Sem.run_bind,hu,hr,Result.andThen,Sem.run_pure]
open Go.RowKit
theorem oJ{xs:List Int}{k a b:Nat}(h:2*k+1<xs.length)(ha:a=2*k)(hb:b=2*k+1)(hr:∀ x,x∈xs→0≤x∧x<256) : cV (xs.drop (2*k))=[(((256*xs.getD a 0)%65536)+xs.getD b 0)%65536]++cV (xs.drop (2*(k+1))):=by
  subst ha hb
  rw[List.drop_eq_getElem_cons (show 2*k<xs.length by omega),List.drop_eq_getElem_cons h]
  have h1:=hr _ (List.getElem_mem (show 2*k<xs.length by omega))
  have h2:=hr _ (List.getElem_mem h)
  have e1:xs.getD (2*k) 0=xs[2*k]:=by rw[List.getD_eq_getElem?_getD,List.getElem?_eq_getElem (by omega)];rfl
  have e2:xs.getD (2*k+1) 0=xs[2*k+1]:=by rw[List.getD_eq_getElem?_getD,List.getElem?_eq_getElem h];rfl
  rw[e1,e2]
  show(xs[2*k]*256+xs[2*k+1]) :: cV (xs.drop (2*k+1+1))=_
  rw[show 2*k+1+1=2*(k+1) by omega,show((256*xs[2*k])%65536+xs[2*k+1])%65536=xs[2*k]*256+xs[2*k+1] by omega]
  rfl
theorem o9{xs L:List Int}{k:Nat}(h:L++cV (xs.drop (2*k))=cV xs)(h1:¬ 2*k+1<xs.length)(h2:xs.length%2=0) : L=cH xs:=by
  have hd:xs.drop (2*k)=[]:=List.drop_eq_nil_of_le (by omega)
  rw[hd] at h
  unfold cH
  rw[if_pos h2,← h]
  simp[cV]
theorem sR{m:Md}{A:Option Addr}{cp:Nat}{xs:List Int}{w:World}(h:bi m w (.slice A xs.length cp) xs)(hn:xs.length≤1048576) : Calls Tryz.prog 217 #[.slice A xs.length cp] w (oZ xs w):=by
 have hr:=bi.range h
 refine en 33 Tryz.func217 rfl<|sg<|Pl 1<|ng<|Pl 1<|nt<|sq<|sg<|?_
 refine Pl 2<|L0<|Oe (.int .i64 (Int.tmod ((xs.length:Nat) : Int) 2)) (.int .i64 (((xs.length:Nat) : Int)%2)) (congrArg (Value.int .i64) (Int.tmod_eq_emod_of_nonneg (by omega)))<|Pl 1<|nt<|cb (((((xs.length:Nat) : Int)%2)==1)) (fun f=>?_) (fun f=>?_)
 have y:=am f
 refine sg<|Pl 1<|nt<|rt<|tr<|rr (.slice none 0 0)<|?_
 have hs:cH xs=[]:=by unfold cH;rw[if_neg (by have:=am f;omega)]
 exact⟨_,rfl,by rw[hs];exact bf.nil ..,(aE.refl [] _)⟩
 have y:=ap f
 refine bz<|sq<|sg<|Pl 1<|nt<|bk<|?_
 refine jc (fun x=>[(0,.slice A xs.length cp),(2,.slice none 0 0),(3,.slice x.2.2.1 x.2.1.length x.2.2.2),(4,.int .i64 ((2*x.1:Nat) : Int))]) (fun(x:Nat × List Int × Option Addr × Nat) w'=>aE [] w w'∧ig w.heap.size w' (.slice x.2.2.1 x.2.1.length x.2.2.2) x.2.1∧(2*x.1≤xs.length)∧(x.2.1++cV (xs.drop (2*x.1))=cV xs)∧(x.2.1.length=x.1)) (fun x=>xs.length-2*x.1) (0,[],none,0) ⟨aE.refl _ _,(bf.nil w.heap.size _ _ pA _),(by(try dsimp only);omega),rfl,rfl⟩ ?_
 rintro⟨k,L,B,cq⟩ z ⟨g,C,D,E,F⟩
 refine jf [(0,.slice A xs.length cp),(2,.slice none 0 0),(3,.slice B L.length cq),(4,.int .i64 ((2*k:Nat) : Int))] ?_
 have j:ig w.heap.size z (.slice B L.length cq) L:=C
 have T:2*k≤xs.length:=D
 have U:L++cV (xs.drop (2*k))=cV xs:=E
 have V:L.length=k:=F
 have hL:L++cV (xs.drop (2*k))=cV xs:=by assumption
 refine sq<|sg<|Pl 1<|L0<|Oi (((2*k:Nat) : Int)+1)<|Pl 3<|nt<|cb ((decide ((((2*k:Nat) : Int)+1)<((xs.length:Nat) : Int)))) (fun l=>?_) (fun l=>?_)
 have G:=of_decide_eq_true l
 refine bz<|sq<|bk<|?_
 have o:=bi.old h g
 refine fM (bi.at_ o (2*k) (by omega)) fun H I p q W=>fM (bi.at_ o (((((2*k:Nat) : Int)+1)).toNat) (by omega)) fun J K r s X=>Rg 17 (fun w'=>w'.cell? ⟨H,I+2*k,none⟩=some (.int .u8 (xs.getD (2*k) 0))∧w'.cell? ⟨J,K+((((2*k:Nat) : Int)+1)).toNat,none⟩=some (.int .u8 (xs.getD (((((2*k:Nat) : Int)+1)).toNat) 0))) fun Y d=>bh ⟨(uc d q),(uc d s)⟩ fun c=>Rt 0 c<|Rt 1 c<|Rt 2 c<|oM 3 c xs.length (2*k) ((2*k:Nat) : Int) rfl p (by omega)<|Rl 4 c (fun _ hs=>hs.1)<|Rr 5 c (.int .u16 (xs.getD (2*k) 0)) (fun _ _=>cI (.int .u16 (IntKind.u16.wrap (xs.getD (2*k) 0))) (by kernel_rfl) (congrArg (Value.int .u16) (kN (by omega))))<|Rt 6 c<|Rt 7 c<|Rt 8 c<|Rr 9 c (.int .i64 (((2*k:Nat) : Int)+1)) (fun _ _=>cI (.int .i64 (IntKind.i64.wrap (((2*k:Nat) : Int)+1))) (by kernel_rfl) (congrArg (Value.int .i64) (IntWalk.i64_in _ (by omega))))<|?_
 refine oM 10 c xs.length (((((2*k:Nat) : Int)+1)).toNat) (((2*k:Nat) : Int)+1) (by omega) r (by omega)<|Rl 11 c (fun _ hs=>hs.2)<|Rr 12 c (.int .u16 (xs.getD (((((2*k:Nat) : Int)+1)).toNat) 0)) (fun _ _=>cI (.int .u16 (IntKind.u16.wrap (xs.getD (((((2*k:Nat) : Int)+1)).toNat) 0))) (by kernel_rfl) (congrArg (Value.int .u16) (kN (by omega))))<|Rt 13 c<|R0 14 rfl<|dv (m:=1) (e:=24) #[.int .u16 ((((256*(xs.getD (2*k) 0))%65536)+(xs.getD (((((2*k:Nat) : Int)+1)).toNat) 0))%65536)] fun Z a0 M N n=>?_
 have O:=dX M (xs:=[((((256*(xs.getD (2*k) 0))%65536)+(xs.getD (((((2*k:Nat) : Int)+1)).toNat) 0))%65536)]) (by as_aux_lemma=>kernel_rfl) (az (by omega) aZ) (by(try simp only[List.length_cons,List.length_nil]);omega) N
 have i:=aI d n
 refine bh ⟨(uc i q),(uc i s)⟩ fun a1=>?_
 refine R0 15 rfl<|cQ ns (xs:=L) (ys:=([((((256*(xs.getD (2*k) 0))%65536)+(xs.getD (((((2*k:Nat) : Int)+1)).toNat) 0))%65536)])) (.int .u16 0) 2 (ax j i (fun x hx=>ay) (fun _ _ h=>h)) (O).rd (by(try simp only[List.length_append,List.length_cons,List.length_nil,aC]);omega) (le (le g.size d.size) n.size) fun P Q a2 R t=>?_
 have a3:=ut (aE.mono (S':=(ob B++[])) i aq) t (au (fun x hx=>Or.inl (by simp[hx])) aq)
 have u:=ut (aI (aI g d) n) t (au (aV j lr) aq)
 have v:=bi.old h u
 exact bh ⟨(cB v p (2*k) (by omega)),(cB v r (((((2*k:Nat) : Int)+1)).toNat) (by omega))⟩ fun S=>Rt 16 S<|re<|bn<|tn<|go<|Pl 1<|L0<|Oi (((2*k:Nat) : Int)+2)<|Pl 1<|nl<|gf ((k+1),(L++[((((256*(xs.getD (2*k) 0))%65536)+(xs.getD (((((2*k:Nat) : Int)+1)).toNat) 0))%65536)]),P,Q) ⟨u,R,(by(try dsimp only);omega),(by(try dsimp only);rw[← hL,oJ (k:=k) (a:=2*k) (b:=(((2*k:Nat) : Int)+1).toNat) (by omega) rfl (by omega) hr,List.append_assoc]),(by(try dsimp only);simp only[List.length_append,List.length_cons,List.length_nil];omega)⟩ (by omega)
 have G:=of_decide_eq_false l
 refine xt<|tx<|tx<|bx<|tn<|sg<|Pl 2<|nt<|rt<|rr (.slice B L.length cq)<|?_
 have hs:L=cH xs:=o9 hL (by omega) (by omega)
 exact⟨_,rfl,by rw[← hs];exact j,g⟩
theorem rZ{m:Md}{v:Value}{xs:List Int}{w:World}(h:bi m w v xs)(hn:xs.length≤1048576) : Calls Tryz.prog 217 #[v] w (oZ xs w):=by
  obtain⟨A,cp,rfl,_,_⟩:=h.shape
  exact sR h hn
theorem nk{a n:Int}{w:World}(ha:0≤a∧a<65536)(hn : -1048576≤n∧n≤1048576) : Calls Tryz.prog 215 #[.int .u16 a,.int .i64 n] w (dh (.bool (dc a n)) w):=by
 refine en 16 Tryz.func215 rfl<|sg<|Pl 1<|nt<|sq<|sg<|Pl 3<|cu 3 [7] 10 (((decide (n<1))||(decide (65536<n)))) (fun K d=>?_) ?_
 refine bl 7 ((decide (n<1))) (fun b=>?_) (fun b=>?_)
 have e:=of_decide_eq_true b
 exact Pl 3<|ce d true (by rw[b];rfl)
 have e:=of_decide_eq_false b
 exact Pl 3<|ce d (decide (65536<n)) (by rw[b];rfl)
 refine nt<|cb (((decide (n<1))||(decide (65536<n)))) (fun c=>?_) (fun c=>?_)
 refine sg<|Pl 1<|nt<|rt<|tr<|rr (.bool false)<|?_
 have hq:=c
 have hs:dc a n=false:=by unfold dc;simp only[Bool.or_eq_true,decide_eq_true_eq] at hq;simp only[Bool.and_eq_false_iff,decide_eq_false_iff_not];omega
 rw[hs]
 exact⟨rfl,(aE.refl [] _)⟩
 have f:=(aJ c).1
 have g:=(aJ c).2
 have h:=of_decide_eq_false f
 have i:=of_decide_eq_false g
 refine bz<|sg<|Pl 1<|L0<|Oi a<|Pl 1<|L0<|Oi (a+n)<|Pl 2<|nt<|rt<|rr (.bool (decide ((a+n)≤65536)))<|?_
 have hs:dc a n=(decide ((a+n)≤65536)):=by unfold dc;rw[Bool.eq_iff_iff];simp only[Bool.and_eq_true,decide_eq_true_eq];omega
 rw[hs]
 exact⟨rfl,(aE.refl [] _)⟩
open Go.RowKit
def uq (A:Option Addr)(cp:Nat)(full:List Int)(k:Nat)(C:aa) : Array Value:=#[.slice A full.length cp,.int .i64 ((k:Nat) : Int),.bool C.sh,.int .i64 C.e]
structure RC (w0:World) (m:Md) (A:Option Addr) (cp:Nat) (full:List Int) (w:World) (g:Nat) (C:aa) : Prop where
  src:bi m w0 (.slice A full.length cp) full
  u:aE [] w0 w
  new:w0.heap.size≤g
  cell:∃ k:Nat,w.heap[g]? = some (.cells (uq A cp full k C) 159 (0,0))∧k≤full.length∧C.l=full.drop k
  len:full.length≤1048576
theorem RC.upd{w0:World}{m:Md}{A:Option Addr}{cp:Nat}{full:List Int}{w w':World}{g:Nat}{C:aa}{S:List Nat}(h:RC w0 m A cp full w g C)(hu:aE S w w')(hg:g∉S)(U:aE [] w0 w') : RC w0 m A cp full w' g C:=by
  obtain⟨h1,h2,h3,⟨k,h4,h5,h6⟩,h7⟩:=h
  exact⟨h1,U,h3,⟨k,hu.blk hg h4,h5,h6⟩,h7⟩
theorem RC.rd{w0:World}{m:Md}{A:Option Addr}{cp:Nat}{full:List Int}{w:World}{g:Nat}{C:aa}(h:RC w0 m A cp full w g C) : bi m w (.slice A full.length cp) full:=bi.old h.src h.u
theorem RC.rng{w0:World}{m:Md}{A:Option Addr}{cp:Nat}{full:List Int}{w:World}{g:Nat}{C:aa}(h:RC w0 m A cp full w g C) : ∀ x,x∈C.l→0≤x∧x<256:=fun x hx=>by
  obtain⟨k,_,_,h2⟩:=h.cell
  rw[h2] at hx
  exact bi.range h.src x (List.mem_of_mem_drop hx)
theorem rH(C:aa){ok:Bool}{x:Int}(h:(ok || (C.e != 0))=true) : C.need ok x=C:=by
  unfold aa.need
  rw[if_neg]
  rintro⟨h1,rfl⟩
  rw[h1] at h
  cases h
theorem qK(C:aa){ok:Bool}{x:Int}(h:(ok || (C.e != 0))=false) : C.need ok x = { C with e:=x }:=by
  simp only[Bool.or_eq_false_iff,bne_eq_false_iff_eq] at h
  unfold aa.need
  rw[if_pos ⟨h.2,h.1⟩]
def rY (w0:World)(m:Md)(A:Option Addr)(cp:Nat)(full:List Int)(g:Nat)(C:aa)(w:World)(e:Ending)(w':World) : Prop:=e = .returned (.tuple #[])∧RC w0 m A cp full w' g C∧aE [g] w w'
theorem aU{w0:World}{m:Md}{A:Option Addr}{cp:Nat}{full:List Int}{w:World}{g:Nat}{C:aa}(ok:Bool)(x:Int)(hC:RC w0 m A cp full w g C) :
    Calls Tryz.prog 152 #[.pointer (some ⟨g,0,none⟩),.bool ok,.int .i64 x] w (rY w0 m A cp full g (C.need ok x) w):=by
 obtain⟨hsrc,hU,hnew,⟨k,hB,hk,hl⟩,hlen⟩:=hC
 refine en 18 Tryz.func152 rfl<|sq<|sg<|Pl 2<|cu 6 [7] 13 ((ok || (C.e != 0))) (fun K c=>?_) ?_
 refine bl 7 (ok) (fun b=>?_) (fun b=>?_)
 exact Pl 6<|ce c true (by rw[b];rfl)
 exact Pl 3<|L1<|aR hB 3<|Pl 2<|ce c (C.e != 0) (by rw[b];rfl)
 refine nt<|cb ((ok || (C.e != 0))) (fun a=>?_) (fun a=>?_)
 refine rt<|tr<|rr (.tuple #[])<|?_
 rw[rH C a]
 exact⟨rfl,⟨hsrc,hU.trans' (aE.mono (S':=[g]) (aE.refl [] _) aq) (fun x hx=>.inr (by simp at hx;subst hx;exact hnew)),hnew,⟨k,hB,hk,hl⟩,hlen⟩,(aE.mono (S':=[g]) (aE.refl [] _) aq)⟩
 have i:=(aJ a).1
 have f:=(aJ a).2
 have j:=ai f
 refine bz<|go<|Pl 4<|L0<|bU hB 3 #[.slice A full.length cp,.int .i64 ((k:Nat) : Int),.bool C.sh,.int .i64 x] fun l h d=>nl<|rm (.tuple #[])<|?_
 rw[qK C a]
 exact⟨rfl,⟨hsrc,hU.trans' d (fun x hx=>.inr (by simp at hx;subst hx;exact hnew)),hnew,⟨k,h,hk,hl⟩,hlen⟩,d⟩
theorem gJ{C:aa}{full:List Int}{k:Nat}{n:Int}(hk:k≤full.length)(hl:C.l=full.drop k) : C.fails n=((C.sh || decide (n<0))||decide ((((full.length:Nat) : Int)-((k:Nat) : Int))<n)):=by
  unfold aa.fails
  rw[hl,List.length_drop,show((full.length-k:Nat) : Int)=((full.length:Nat) : Int)-((k:Nat) : Int) by omega]
def rf (w0:World)(m:Md)(A:Option Addr)(cp:Nat)(full:List Int)(g:Nat)(C:aa)(n:Int)(w:World)(e:Ending)(w':World) : Prop:=∃ A2 n2 c2,e = .returned (.slice A2 n2 c2)∧(∀ m' w'',bi m' w'' (.slice A full.length cp) full→bi m' w'' (.slice A2 n2 c2) (C.bytesR n))∧RC w0 m A cp full w' g (C.bytesC n)∧aE [g] w w'
theorem rk{l full:List Int}{k a b:Nat}(hl:l=full.drop k)(h:b=k+a) : l.drop a=full.drop b:=by
  rw[hl,List.drop_drop,h]
theorem mW{C:aa}{full:List Int}{k:Nat}{n:Int}(hk:k≤full.length)(hl:C.l=full.drop k)(hf:C.fails n=false)(a b:Nat)(ha:(a:Int)=k)(hb:(b:Int)=(k:Int)+n) : (full.take b).drop a=C.bytesR n:=by
  obtain rfl:a=k:=by omega
  unfold aa.bytesR
  rw[hf,hl,List.drop_take]
  show _=(full.drop a).take n.toNat
  rw[show b-a=n.toNat by omega]
theorem nc{w0:World}{m:Md}{A:Option Addr}{cp:Nat}{full:List Int}{w:World}{g:Nat}{C:aa}{n:Int}(hn : -1048576≤n∧n≤2097152)(hC:RC w0 m A cp full w g C) :
    Calls Tryz.prog 153 #[.pointer (some ⟨g,0,none⟩),.int .i64 n] w (rf w0 m A cp full g C n w):=by
 obtain⟨hsrc,hU,hnew,⟨k,hB,hk,hl⟩,hlen⟩:=hC
 have hcp:full.length≤cp:=by obtain⟨_,_,hv,h1,_⟩:=aK.shape hsrc;injection hv with _ _ h3;omega
 refine en 64 Tryz.func153 rfl<|sg<|Pl 1<|nt<|sq<|sq<|Rg 22 (fun w'=>w'.cell? ⟨g,2,none⟩=some (.bool C.sh)∧w'.cell? ⟨g,0,none⟩=some (.slice A full.length cp)∧w'.cell? ⟨g,1,none⟩=some (.int .i64 ((k:Nat) : Int))) fun a4 i=>?_
 have d:=ub i hB
 refine bh ⟨(ah d rfl),(ah d rfl),(ah d rfl)⟩ fun a=>Rt 0 a<|Rt 1 a<|Rt 2 a<|Rl 3 a (fun _ hs=>hs.1)<|Rt 4 a<|oS 9 (C.sh) (fun j=>?_) (fun j=>?_)
 refine Ro 5 a<|Ro 6 a<|Rt 7 a<|Rt 8 a<|Ro 9 a<|Ro 10 a<|Ro 11 a<|Ro 12 a<|Ro 13 a<|Ro 14 a<|Ro 15 a<|Ro 16 a<|Ro 17 a<|Ro 18 a<|?_
 refine Ro 19 a<|Ro 20 a<|Rt 21 a<|re<|tn<|c1<|sg<|Pl 3<|L0<|bU d 2 #[.slice A full.length cp,.int .i64 ((k:Nat) : Int),.bool true,.int .i64 C.e] fun a5 q D=>ng<|?_
 refine Pl 4<|L0<|aR q 0<|Pl 3<|L0<|bU q 1 #[.slice A full.length cp,.int .i64 ((full.length:Nat) : Int),.bool true,.int .i64 C.e] fun E F G=>ng<|Pl 1<|?_
 have r:=u1 (u1 (aE.mono (S':=[g]) i aq) D im) G im
 have H:RC w0 m A cp full E g { C with l:=[],sh:=true }:=⟨hsrc,hU.trans' r (fun x hx=>.inr (by simp at hx;subst hx;exact hnew)),hnew,⟨full.length,F,Nat.le_refl _,List.drop_length.symm⟩,hlen⟩
 refine L0<|Oc<|m2 (aU false 2 H) fun a6 I J=>ng<|Pl 1<|nt<|rt<|tr<|rr (.slice none 0 0)<|?_
 have hf:C.fails n=true:=by rw[gJ (n:=n) hk hl,j];rfl
 have e1:C.bytesR n=[]:=by unfold aa.bytesR;rw[hf];rfl
 have e2:C.bytesC n=aa.need { C with l:=[],sh:=true } false 2:=by unfold aa.bytesC;rw[hf];rfl
 exact⟨none,0,0,rfl,fun _ _ _=>by rw[e1];exact aK.nil ..,by rw[e2];exact I,(u1 r J im)⟩
 refine Rt 5 a<|Rt 6 a<|Rt 7 a<|Rt 8 a<|oS 13 ((decide (n<0))) (fun f=>?_) (fun f=>?_)
 have K:=of_decide_eq_true f
 refine Ro 9 a<|Ro 10 a<|Ro 11 a<|Ro 12 a<|Ro 13 a<|Ro 14 a<|Ro 15 a<|Ro 16 a<|Ro 17 a<|Ro 18 a<|Ro 19 a<|Ro 20 a<|Rt 21 a<|re<|?_
 refine tn<|c1<|sg<|Pl 3<|L0<|bU d 2 #[.slice A full.length cp,.int .i64 ((k:Nat) : Int),.bool true,.int .i64 C.e] fun a7 s L=>ng<|Pl 4<|L0<|aR s 0<|Pl 3<|L0<|bU s 1 #[.slice A full.length cp,.int .i64 ((full.length:Nat) : Int),.bool true,.int .i64 C.e] fun M N O=>?_
 refine ng<|Pl 1<|?_
 have t:=u1 (u1 (aE.mono (S':=[g]) i aq) L im) O im
 have Q:RC w0 m A cp full M g { C with l:=[],sh:=true }:=⟨hsrc,hU.trans' t (fun x hx=>.inr (by simp at hx;subst hx;exact hnew)),hnew,⟨full.length,N,Nat.le_refl _,List.drop_length.symm⟩,hlen⟩
 refine L0<|Oc<|m2 (aU false 2 Q) fun a8 R S=>ng<|Pl 1<|nt<|rt<|tr<|rr (.slice none 0 0)<|?_
 have hf:C.fails n=true:=by rw[gJ (n:=n) hk hl,j,f];rfl
 have e1:C.bytesR n=[]:=by unfold aa.bytesR;rw[hf];rfl
 have e2:C.bytesC n=aa.need { C with l:=[],sh:=true } false 2:=by unfold aa.bytesC;rw[hf];rfl
 exact⟨none,0,0,rfl,fun _ _ _=>by rw[e1];exact aK.nil ..,by rw[e2];exact R,(u1 t S im)⟩
 have K:=of_decide_eq_false f
 refine Rt 9 a<|Rt 10 a<|Rt 11 a<|Rt 12 a<|Rl 13 a (fun _ hs=>hs.2.1)<|Rt 14 a<|Rt 15 a<|Rt 16 a<|Rt 17 a<|Rl 18 a (fun _ hs=>hs.2.2)<|Rr 19 a (.int .i64 (((full.length:Nat) : Int)-((k:Nat) : Int))) (fun _ _=>cI (.int .i64 (IntKind.i64.wrap (((full.length:Nat) : Int)-((k:Nat) : Int)))) (by kernel_rfl) (congrArg (Value.int .i64) (IntWalk.i64_in _ (by omega))))<|Rt 20 a<|Rt 21 a<|re<|?_
 refine tn<|cb ((decide ((((full.length:Nat) : Int)-((k:Nat) : Int))<n))) (fun o=>?_) (fun o=>?_)
 have T:=of_decide_eq_true o
 refine sg<|Pl 3<|L0<|bU d 2 #[.slice A full.length cp,.int .i64 ((k:Nat) : Int),.bool true,.int .i64 C.e] fun a9 u U=>ng<|Pl 4<|L0<|aR u 0<|Pl 3<|L0<|bU u 1 #[.slice A full.length cp,.int .i64 ((full.length:Nat) : Int),.bool true,.int .i64 C.e] fun V W X=>nt<|?_
 refine sg<|Pl 1<|?_
 have v:=u1 (u1 (aE.mono (S':=[g]) i aq) U im) X im
 have Y:RC w0 m A cp full V g { C with l:=[],sh:=true }:=⟨hsrc,hU.trans' v (fun x hx=>.inr (by simp at hx;subst hx;exact hnew)),hnew,⟨full.length,W,Nat.le_refl _,List.drop_length.symm⟩,hlen⟩
 refine L0<|Oc<|m2 (aU false 2 Y) fun ab Z a0=>ng<|Pl 1<|nt<|rt<|tr<|rr (.slice none 0 0)<|?_
 have hf:C.fails n=true:=by rw[gJ (n:=n) hk hl,j,f,o];rfl
 have e1:C.bytesR n=[]:=by unfold aa.bytesR;rw[hf];rfl
 have e2:C.bytesC n=aa.need { C with l:=[],sh:=true } false 2:=by unfold aa.bytesC;rw[hf];rfl
 exact⟨none,0,0,rfl,fun _ _ _=>by rw[e1];exact aK.nil ..,by rw[e2];exact Z,(u1 v a0 im)⟩
 have T:=of_decide_eq_false o
 refine bz<|sg<|Pl 4<|L0<|aR d 1<|Pl 1<|L0<|Oi (((k:Nat) : Int)+n)<|Pl 2<|L0<|bU d 1 #[.slice A full.length cp,.int .i64 (((k:Nat) : Int)+n),.bool C.sh,.int .i64 C.e] fun ac a1 a2=>nt<|sq<|Rg 16 (fun w'=>w'.cell? ⟨g,0,none⟩=some (.slice A full.length cp)∧w'.cell? ⟨g,1,none⟩=some (.int .i64 (((k:Nat) : Int)+n))) fun ad y=>?_
 have p:=ub y a1
 refine bh ⟨(ah p rfl),(ah p rfl)⟩ fun b=>Rt 0 b<|Rt 1 b<|Rt 2 b<|Rl 3 b (fun _ hs=>hs.1)<|Rt 4 b<|Rt 5 b<|Rt 6 b<|Rl 7 b (fun _ hs=>hs.2)<|Rt 8 b<|Rr 9 b (.int .i64 ((((k:Nat) : Int)+n)-n)) (fun _ _=>cI (.int .i64 (IntKind.i64.wrap ((((k:Nat) : Int)+n)-n))) (by kernel_rfl) (congrArg (Value.int .i64) (IntWalk.i64_in _ (by omega))))<|Rt 10 b<|Rt 11 b<|Rt 12 b<|?_
 refine Rl 13 b (fun _ hs=>hs.2)<|nv (it (P:=Tryz.prog) 22 5 1 Tryz.underlying22 rfl rfl A full.length cp (lo:=((((k:Nat) : Int)+n)-n)) (up:=(((k:Nat) : Int)+n)) ((((((k:Nat) : Int)+n)-n)).toNat) (((((k:Nat) : Int)+n)).toNat) (by omega) (by omega) (by omega) (by omega) (by omega)) fun z hrun69 a3=>Rr 14 b (.slice z ((((((k:Nat) : Int)+n)).toNat)-((((((k:Nat) : Int)+n)-n)).toNat)) (cp-((((((k:Nat) : Int)+n)-n)).toNat))) (fun _ _=>fY (kl:=.i64) (kh:=.i64) (lo:=((((k:Nat) : Int)+n)-n)) (hi:=(((k:Nat) : Int)+n)) (A:=A) (n:=full.length) (c:=cp) rfl Tryz.underlying22 (by kernel_rfl) (by kernel_rfl) (by kernel_rfl) (hrun69 _ _ _))<|Rt 15 b<|re<|tn<|rt<|rr (.slice z ((((((k:Nat) : Int)+n)).toNat)-((((((k:Nat) : Int)+n)-n)).toNat)) (cp-((((((k:Nat) : Int)+n)-n)).toNat)))<|?_
 have hf:C.fails n=false:=by rw[gJ (n:=n) hk hl,j,f,o];rfl
 have B:=aI (u1 (aE.mono (S':=[g]) i aq) a2 im) y
 have e2:C.bytesC n = { C with l:=C.l.drop n.toNat }:=by unfold aa.bytesC;rw[hf];rfl
 exact⟨_,_,_,rfl,fun m' w'' h=>by have:=a3 m' _ _ w'' full h;rw[mW hk hl hf _ _ (by omega) (by omega)] at this;exact this,by rw[e2];exact⟨hsrc,hU.trans' B (fun x hx=>.inr (by simp at hx;subst hx;exact hnew)),hnew,⟨(((k:Nat) : Int)+n).toNat,(by unfold uq;rw[show((((((k:Nat) : Int)+n).toNat:Nat) : Int))=((k:Nat) : Int)+n by omega];exact p),by omega,rk hl (by omega)⟩,hlen⟩,B⟩
def qO (w0:World)(m:Md)(A:Option Addr)(cp:Nat)(full:List Int)(g:Nat)(C:aa)(n:Int)(w:World)(e:Ending)(w':World) : Prop:=∃ A2 c2,e = .returned (.slice A2 (C.bytesR n).length c2)∧(∀ m' w'',bi m' w'' (.slice A full.length cp) full→bi m' w'' (.slice A2 (C.bytesR n).length c2) (C.bytesR n))∧RC w0 m A cp full w' g (C.bytesC n)∧aE [g] w w'
theorem eQ{w0:World}{m:Md}{A:Option Addr}{cp:Nat}{full:List Int}{w:World}{g:Nat}{C:aa}{n:Int}(hn : -1048576≤n∧n≤2097152)(hC:RC w0 m A cp full w g C) : Calls Tryz.prog 153 #[.pointer (some ⟨g,0,none⟩),.int .i64 n] w (qO w0 m A cp full g C n w):=by
  refine(nc hn hC).mono ?_
  rintro e w' ⟨A2,n2,c2,rfl,h1,h2,h3⟩
  obtain⟨_,_,hv,_⟩:=aK.shape (h1 m w0 hC.src)
  injection hv with _ e2 _
  subst e2
  exact⟨A2,c2,rfl,h1,h2,h3⟩
theorem rB{full:List Int}{k:Nat}{C:aa}(hk:k≤full.length)(hl:C.l=full.drop k) : ((full.length:Nat) : Int)-((k:Nat) : Int)=((C.l.length:Nat) : Int):=by
  rw[hl,List.length_drop]
  omega
theorem gl{w0:World}{m:Md}{A:Option Addr}{cp:Nat}{full:List Int}{w:World}{g:Nat}{C:aa}(hC:RC w0 m A cp full w g C) :
    Calls Tryz.prog 161 #[.pointer (some ⟨g,0,none⟩)] w (dh (.int .i64 ((C.l.length:Nat) : Int)) w):=by
 obtain⟨hsrc,hU,hnew,⟨k,hB,hk,hl⟩,hlen⟩:=hC
 have hcp:full.length≤1048576:=hlen
 refine en 13 Tryz.func161 rfl<|sg<|Pl 1<|nt<|sq<|Rg 11 (fun w'=>w'.cell? ⟨g,0,none⟩=some (.slice A full.length cp)∧w'.cell? ⟨g,1,none⟩=some (.int .i64 ((k:Nat) : Int))) fun d b=>?_
 have c:=ub b hB
 refine bh ⟨(ah c rfl),(ah c rfl)⟩ fun a=>Rt 0 a<|Rt 1 a<|Rt 2 a<|Rl 3 a (fun _ hs=>hs.1)<|Rt 4 a<|Rt 5 a<|Rt 6 a<|Rt 7 a<|Rl 8 a (fun _ hs=>hs.2)<|Rr 9 a (.int .i64 (((full.length:Nat) : Int)-((k:Nat) : Int))) (fun _ _=>cI (.int .i64 (IntKind.i64.wrap (((full.length:Nat) : Int)-((k:Nat) : Int)))) (by kernel_rfl) (congrArg (Value.int .i64) (IntWalk.i64_in _ (by omega))))<|Rt 10 a<|re<|tn<|?_
 refine rt<|rr (.int .i64 (((full.length:Nat) : Int)-((k:Nat) : Int)))<|?_
 rw[rB hk hl]
 exact⟨rfl,b⟩
theorem dR{w0:World}{m:Md}{A:Option Addr}{cp:Nat}{full:List Int}{w:World}{g:Nat}{C:aa}(hC:RC w0 m A cp full w g C) :
    Calls Tryz.prog 157 #[.pointer (some ⟨g,0,none⟩)] w (rY w0 m A cp full g C.endC w):=by
 refine en 7 Tryz.func157 rfl<|go<|Pl 2<|L0<|Oc<|m1 (gl hC) fun e a=>?_
 have b:=RC.upd hC a ay (aE.step (RC.u hC) a)
 refine Pl 1<|L0<|Oc<|m2 (aU ((((C.l.length:Nat) : Int)==0)) 3 b) fun f c d=>nl<|rm (.tuple #[])<|?_
 exact⟨rfl,c,(u1 (aE.mono (S':=[g]) a aq) d im)⟩
theorem RC.clen{w0:World}{m:Md}{A:Option Addr}{cp:Nat}{full:List Int}{w:World}{g:Nat}{C:aa}(h:RC w0 m A cp full w g C) : C.l.length≤1048576:=by
  obtain⟨k,_,_,h2⟩:=h.cell
  have:=h.len
  rw[h2,List.length_drop]
  omega
theorem oh{C:aa}(h:((((C.bytesR 1).length:Nat) : Int)==0)=true) : C.byteV=0:=by
  have hz:C.bytesR 1=[]:=List.eq_nil_of_length_eq_zero (by have:=am h;omega)
  unfold aa.byteV
  rw[hz]
  rfl
def mi (w0:World)(m:Md)(A:Option Addr)(cp:Nat)(full:List Int)(g:Nat)(q:IntKind)(M x:Int)(C:aa)(w:World)(e:Ending)(w':World) : Prop:=e = .returned (.int q x)∧RC w0 m A cp full w' g C∧aE [g] w w'∧0≤x∧x<M
theorem dB{w0:World}{m:Md}{A:Option Addr}{cp:Nat}{full:List Int}{w:World}{g:Nat}{C:aa}(hC:RC w0 m A cp full w g C) :
    Calls Tryz.prog 151 #[.pointer (some ⟨g,0,none⟩)] w (mi w0 m A cp full g .u8 256 C.byteV (C.bytesC 1) w):=by
 refine en 12 Tryz.func151 rfl<|sg<|Pl 1<|ng<|Pl 1<|L0<|Oc<|md (eQ (n:=1) (by omega) hC) fun k l o d b c=>?_
 have q:=Nat.le_trans (aa.bytesR_le C 1) (RC.clen hC)
 refine Pl 1<|nt<|sq<|sg<|Pl 3<|nt<|cb (((((C.bytesR 1).length:Nat) : Int)==0)) (fun a=>?_) (fun a=>?_)
 have e:=am a
 refine sg<|Pl 1<|nt<|rt<|tr<|rr (.int .u8 0)<|?_
 exact⟨by rw[oh a],b,c,kp (RC.rng hC)⟩
 have e:=ap a
 refine bz<|sg<|Pl 1<|fM (bi.at_ (d _ _ (RC.rd b)) 0 (by omega)) fun f h i j r=>L0<|kj ((C.bytesR 1).length) 0 i (by omega)<|L0<|ec (p:=⟨f,h+0,none⟩) (v:=.int .u8 ((C.bytesR 1).getD 0 0)) j<|Pl 1<|nt<|rt<|rr (.int .u8 ((C.bytesR 1).getD 0 0))<|?_
 exact⟨rfl,b,c,kp (RC.rng hC)⟩
theorem oI{C:aa}{full:List Int}{k:Nat}{n:Int}(hk:k≤full.length)(hl:C.l=full.drop k)(h:(decide (n<0)||decide (((full.length:Nat) : Int)<n))=true) : C.wordsR n=cH (C.bytesR (-1))∧C.wordsC n=C.bytesC (-1):=by
  have hb:C.wbad n=true:=by
    unfold aa.wbad
    simp only[Bool.or_eq_true,decide_eq_true_eq] at h ⊢
    rw[hl,List.length_drop]
    omega
  have hf:C.fails (-1)=true:=by
    unfold aa.fails
    simp
  constructor
  · unfold aa.wordsR aa.bytesR
    rw[hb,hf]
    rfl
  · unfold aa.wordsC
    rw[hb]
    rfl
theorem qg{C:aa}{full:List Int}{k:Nat}{n:Int}(hk:k≤full.length)(hl:C.l=full.drop k)(h:(decide (n<0)||decide (((full.length:Nat) : Int)<n))=false) : C.wordsR n=cH (C.bytesR (n+n))∧C.wordsC n=C.bytesC (n+n):=by
  simp only[Bool.or_eq_false_iff,decide_eq_false_iff_not] at h
  by_cases hw:((C.l.length:Int)<n)
  · have hb:C.wbad n=true:=by
      unfold aa.wbad
      simp only[Bool.or_eq_true,decide_eq_true_eq]
      omega
    have hf:C.fails (-1)=true:=by
      unfold aa.fails
      simp
    have hf2:C.fails (n+n)=true:=by
      unfold aa.fails
      simp only[Bool.or_eq_true,decide_eq_true_eq]
      omega
    constructor
    · unfold aa.wordsR aa.bytesR
      rw[hb,hf2]
      rfl
    · unfold aa.wordsC
      rw[hb]
      unfold aa.bytesC
      rw[hf2,hf]
      rfl
  · have hb:C.wbad n=false:=by
      unfold aa.wbad
      simp only[Bool.or_eq_false_iff,decide_eq_false_iff_not]
      omega
    constructor
    · unfold aa.wordsR
      rw[hb,show 2*n=n+n by omega]
      rfl
    · unfold aa.wordsC
      rw[hb,show 2*n=n+n by omega]
      rfl
def ri (w0:World)(m:Md)(A:Option Addr)(cp:Nat)(full:List Int)(g:Nat)(C:aa)(n:Int)(w:World)(e:Ending)(w':World) : Prop:=∃ v,e = .returned v∧ig w.heap.size w' v (C.wordsR n)∧RC w0 m A cp full w' g (C.wordsC n)∧aE [g] w w'
theorem fa{w0:World}{m:Md}{A:Option Addr}{cp:Nat}{full:List Int}{w:World}{g:Nat}{C:aa}{n:Int}(hn : -1048576≤n∧n≤1048576)(hC:RC w0 m A cp full w g C) :
    Calls Tryz.prog 158 #[.pointer (some ⟨g,0,none⟩),.int .i64 n] w (ri w0 m A cp full g C n w):=by
 have hC0:=hC
 obtain⟨hsrc,hU,hnew,⟨k,hB,hk,hl⟩,hlen⟩:=hC0
 refine en 25 Tryz.func158 rfl<|sg<|Pl 1<|nt<|sq<|sg<|Pl 3<|cu 8 [7] 15 (((decide (n<0))||(decide (((full.length:Nat) : Int)<n)))) (fun K h=>?_) ?_
 refine bl 7 ((decide (n<0))) (fun a=>?_) (fun a=>?_)
 have l:=of_decide_eq_true a
 exact Pl 8<|ce h true (by rw[a];rfl)
 have l:=of_decide_eq_false a
 exact Pl 4<|L1<|aR hB 0<|Pl 3<|ce h (decide (((full.length:Nat) : Int)<n)) (by rw[a];rfl)
 refine nt<|cb (((decide (n<0))||(decide (((full.length:Nat) : Int)<n)))) (fun b=>?_) (fun b=>?_)
 refine sg<|Pl 1<|?_
 have o:=RC.upd hC (aE.refl [] _) ay (aE.step hC.u (aE.refl [] _))
 refine L0<|Oc<|md (eQ (n:=-1) (by omega) o) fun E F G p c i=>?_
 have H:=Nat.le_trans (aa.bytesR_le C (-1)) (RC.clen hC)
 refine L0<|Oc<|ef (rZ (p _ _ (RC.rd c)) (by omega)) fun q r I s J L d=>Pl 1<|nt<|rt<|tr<|rr (.slice q ((cH (C.bytesR (-1))).length) r)<|?_
 have hw:=oI hk hl b
 exact⟨_,rfl,by rw[hw.1];exact(bf.weaken s i.size),by rw[hw.2];exact(RC.upd c d ay (aE.step (RC.u c) d)),(aI i d)⟩
 have t:=(aJ b).1
 have v:=(aJ b).2
 have M:=of_decide_eq_false t
 have N:=of_decide_eq_false v
 refine bz<|sg<|Pl 3<|L0<|Oi (n+n)<|?_
 have x:=RC.upd hC (aE.refl [] _) ay (aE.step hC.u (aE.refl [] _))
 refine L0<|Oc<|md (eQ (n:=(n+n)) (by omega) x) fun O P Q y e j=>?_
 have R:=Nat.le_trans (aa.bytesR_le C (n+n)) (RC.clen hC)
 refine L0<|Oc<|ef (rZ (y _ _ (RC.rd e)) (by omega)) fun z B S D T U f=>Pl 1<|nt<|rt<|rr (.slice z ((cH (C.bytesR (n+n))).length) B)<|?_
 have hw:=qg hk hl b
 exact⟨_,rfl,by rw[hw.1];exact(bf.weaken D j.size),by rw[hw.2];exact(RC.upd e f ay (aE.step (RC.u e) f)),(aI j f)⟩
theorem nP{C:aa}(h:((((C.wordsR 1).length:Nat) : Int)==0)=true) : C.wordV=0:=by
  have hz:C.wordsR 1=[]:=List.eq_nil_of_length_eq_zero (by have:=am h;omega)
  unfold aa.wordV
  rw[hz]
  rfl
theorem cK{w0:World}{m:Md}{A:Option Addr}{cp:Nat}{full:List Int}{w:World}{g:Nat}{C:aa}(hC:RC w0 m A cp full w g C) :
    Calls Tryz.prog 154 #[.pointer (some ⟨g,0,none⟩)] w (mi w0 m A cp full g .u16 65536 C.wordV (C.wordsC 1) w):=by
 refine en 12 Tryz.func154 rfl<|sg<|Pl 1<|ng<|Pl 1<|L0<|Oc<|kY (fa (n:=1) (by omega) hC) fun k l o d q r b c=>Pl 1<|nt<|sq<|?_
 refine sg<|Pl 3<|nt<|cb (((((C.wordsR 1).length:Nat) : Int)==0)) (fun a=>?_) (fun a=>?_)
 have e:=am a
 refine sg<|Pl 1<|nt<|rt<|tr<|rr (.int .u16 0)<|?_
 exact⟨by rw[nP a],b,c,bR (RC.rng hC)⟩
 have e:=ap a
 refine bz<|sg<|Pl 1<|fM (dG.at_ (d).rd 0 (by omega)) fun f h i j s=>L0<|kj ((C.wordsR 1).length) 0 i (by omega)<|L0<|ec (p:=⟨f,h+0,none⟩) (v:=.int .u16 ((C.wordsR 1).getD 0 0)) j<|Pl 1<|nt<|rt<|rr (.int .u16 ((C.wordsR 1).getD 0 0))<|?_
 exact⟨rfl,b,c,bR (RC.rng hC)⟩
theorem eX{w0:World}{m:Md}{A:Option Addr}{cp:Nat}{full:List Int}{w:World}{g:Nat}{C:aa}{G:Prop}(h:RC w0 m A cp full w g C)(k:∀ x,C=x→RC w0 m A cp full w g x→G) : G:=k C rfl h
open Go.RowKit
theorem oA{x:Int}(hx:0≤x∧x<65536) : bM x=((decide (x≤4)||(decide (10≤x)&&decide (x≤18)))||x==20):=by
  unfold bM
  rw[Bool.eq_iff_iff]
  simp only[decide_eq_true_eq,List.mem_cons,List.not_mem_nil,or_false,Bool.or_eq_true,Bool.and_eq_true,beq_iff_eq]
  omega
theorem jv{x:Int}(hx:0≤x∧x<256) : cZ x=((((decide (1≤x)&&decide (x≤6))||x==8)||x==10)||x==11):=by
  unfold cZ
  rw[Bool.eq_iff_iff]
  simp only[decide_eq_true_eq,List.mem_cons,List.not_mem_nil,or_false,Bool.or_eq_true,Bool.and_eq_true,beq_iff_eq]
  omega
theorem tp{x:Int}{w:World}(hx:0≤x∧x<65536) : Calls Tryz.prog 160 #[.int .u16 x] w (dh (.bool (bM x)) w):=by
 refine en 17 Tryz.func160 rfl<|sg<|Pl 1<|ng<|Pl 3<|cu 7 [5] 12 (((decide (x≤4))||((decide (10≤x))&&(decide (x≤18))))) (fun K d=>?_) ?_
 refine bl 5 ((decide (x≤4))) (fun a=>?_) (fun a=>?_)
 have g:=of_decide_eq_true a
 exact Pl 7<|ce d true (by rw[a];rfl)
 have g:=of_decide_eq_false a
 refine Pl 3<|cu 3 [8] 11 (((decide (10≤x))&&(decide (x≤18)))) (fun K e=>?_) ?_
 refine bl 8 ((decide (10≤x))) (fun b=>?_) (fun b=>?_)
 have h:=of_decide_eq_true b
 exact Pl 3<|ce e (decide (x≤18)) (by rw[b];rfl)
 have h:=of_decide_eq_false b
 exact Pl 3<|ce e false (by rw[b];rfl)
 exact Pl 1<|ce d ((decide (10≤x))&&(decide (x≤18))) (by rw[a];rfl)
 refine Pl 1<|cu 3 [13] 16 ((((decide (x≤4))||((decide (10≤x))&&(decide (x≤18))))||(x==20))) (fun K f=>?_) ?_
 refine bl 13 (((decide (x≤4))||((decide (10≤x))&&(decide (x≤18))))) (fun c=>?_) (fun c=>?_)
 exact Pl 3<|ce f true (by rw[c];rfl)
 have i:=(aJ c).1
 have j:=(aJ c).2
 have k:=of_decide_eq_false i
 exact Pl 3<|ce f (x==20) (by rw[c];rfl)
 refine Pl 1<|nt<|rt<|rr (.bool (((decide (x≤4))||((decide (10≤x))&&(decide (x≤18))))||(x==20)))<|?_
 rw[oA hx]
 have hs:((decide (x≤4)||(decide (10≤x)&&decide (x≤18)))||x==20)=(((decide (x≤4))||((decide (10≤x))&&(decide (x≤18))))||(x==20)):=by(try simp only[Bool.true_or,Bool.false_or,Bool.true_and,Bool.false_and,Bool.or_true,Bool.or_false]);all_goals rfl
 rw[hs]
 exact⟨rfl,(aE.refl [] _)⟩
theorem pq{x:Int}{w:World}(hx:0≤x∧x<256) : Calls Tryz.prog 149 #[.int .u8 x] w (dh (.bool (cZ x)) w):=by
 refine en 21 Tryz.func149 rfl<|sg<|Pl 1<|ng<|Pl 3<|cu 3 [5] 8 (((decide (1≤x))&&(decide (x≤6)))) (fun K e=>?_) ?_
 refine bl 5 ((decide (1≤x))) (fun a=>?_) (fun a=>?_)
 have j:=of_decide_eq_true a
 exact Pl 3<|ce e (decide (x≤6)) (by rw[a];rfl)
 have j:=of_decide_eq_false a
 exact Pl 3<|ce e false (by rw[a];rfl)
 refine Pl 1<|cu 3 [9] 12 ((((decide (1≤x))&&(decide (x≤6)))||(x==8))) (fun K f=>?_) ?_
 refine bl 9 (((decide (1≤x))&&(decide (x≤6)))) (fun b=>?_) (fun b=>?_)
 have k:=(aW b).1
 have l:=(aW b).2
 have p:=of_decide_eq_true k
 have q:=of_decide_eq_true l
 exact Pl 3<|ce f true (by rw[b];rfl)
 exact Pl 3<|ce f (x==8) (by rw[b];rfl)
 refine Pl 1<|cu 3 [13] 16 (((((decide (1≤x))&&(decide (x≤6)))||(x==8))||(x==10))) (fun K g=>?_) ?_
 refine bl 13 ((((decide (1≤x))&&(decide (x≤6)))||(x==8))) (fun c=>?_) (fun c=>?_)
 exact Pl 3<|ce g true (by rw[c];rfl)
 have r:=(aJ c).1
 have m:=(aJ c).2
 have s:=ap m
 exact Pl 3<|ce g (x==10) (by rw[c];rfl)
 refine Pl 1<|cu 3 [17] 20 ((((((decide (1≤x))&&(decide (x≤6)))||(x==8))||(x==10))||(x==11))) (fun K h=>?_) ?_
 refine bl 17 (((((decide (1≤x))&&(decide (x≤6)))||(x==8))||(x==10))) (fun d=>?_) (fun d=>?_)
 exact Pl 3<|ce h true (by rw[d];rfl)
 have i:=(aJ d).1
 have n:=(aJ d).2
 have t:=(aJ i).1
 have o:=(aJ i).2
 have q16abp:=ap o
 have u:=ap n
 exact Pl 3<|ce h (x==11) (by rw[d];rfl)
 refine Pl 1<|nt<|rt<|rr (.bool (((((decide (1≤x))&&(decide (x≤6)))||(x==8))||(x==10))||(x==11)))<|?_
 rw[jv hx]
 have hs:((((decide (1≤x)&&decide (x≤6))||x==8)||x==10)||x==11)=(((((decide (1≤x))&&(decide (x≤6)))||(x==8))||(x==10))||(x==11)):=by(try simp only[Bool.true_or,Bool.false_or,Bool.true_and,Bool.false_and,Bool.or_true,Bool.or_false]);all_goals rfl
 rw[hs]
 exact⟨rfl,(aE.refl [] _)⟩
theorem ga{dir sub v:Int}:ee dir sub v=if sub==1 then (v==0 || v==65280) else if sub==3 then v%256==0 else if dir==1&&(sub==2 || (decide (11≤sub)&&decide (sub≤18))) then true else v==0:=by
  unfold ee
  by_cases h1:sub=1
  · subst h1
    rfl
  by_cases h3:sub=3
  · subst h3
    rfl
  have e1:(sub==1)=false:=by simpa using h1
  have e3:(sub==3)=false:=by simpa using h3
  rw[e1,e3,Bool.and_comm]
  rfl
theorem t6{dir sub v:Int}{w:World}(hv:0≤v∧v<65536) : Calls Tryz.prog 162 #[.int .i64 dir,.int .u16 sub,.int .u16 v] w (dh (.bool (ee dir sub v)) w):=by
 refine en 39 Tryz.func162 rfl<|sg<|Pl 1<|nt<|sq<|bk<|sg<|Pl 3<|nt<|cb ((sub==1)) (fun a=>?_) (fun a=>?_)
 have m:=am a
 refine sg<|Pl 3<|cu 3 [12] 15 (((v==0)||(v==65280))) (fun K h=>?_) ?_
 refine bl 12 ((v==0)) (fun c=>?_) (fun c=>?_)
 have n:=am c
 exact Pl 3<|ce h true (by rw[c];rfl)
 have n:=ap c
 exact Pl 3<|ce h (v==65280) (by rw[c];rfl)
 refine Pl 1<|nt<|rt<|br<|tr<|rr (.bool ((v==0)||(v==65280)))<|?_
 have hs:ee dir sub v=((v==0)||(v==65280)):=by
   rw[ga]
   (try simp only[a,bs,if_true,if_false,decide_true,decide_false,reduceIte])
   all_goals rfl
 rw[hs]
 exact⟨rfl,(aE.refl [] _)⟩
 have m:=ap a
 refine sg<|Pl 3<|nt<|cb ((sub==3)) (fun b=>?_) (fun b=>?_)
 have o:=am b
 refine sg<|Pl 1<|L0<|Oe (.int .u16 (Int.tmod v 256)) (.int .u16 (v%256)) (congrArg (Value.int .u16) (Int.tmod_eq_emod_of_nonneg (by omega)))<|Pl 2<|nt<|rt<|br<|tr<|rr (.bool ((v%256)==0))<|?_
 have hs:ee dir sub v=((v%256)==0):=by
   rw[ga]
   (try simp only[a,b,bs,if_true,if_false,decide_true,decide_false,reduceIte])
   all_goals rfl
 rw[hs]
 exact⟨rfl,(aE.refl [] _)⟩
 have o:=ap b
 refine sg<|Pl 3<|cu 11 [25] 36 (((dir==1)&&((sub==2)||((decide (11≤sub))&&(decide (sub≤18)))))) (fun K i=>?_) ?_
 refine bl 25 ((dir==1)) (fun d=>?_) (fun d=>?_)
 have p:=am d
 refine Pl 3<|cu 7 [28] 35 (((sub==2)||((decide (11≤sub))&&(decide (sub≤18))))) (fun K j=>?_) ?_
 refine bl 28 ((sub==2)) (fun e=>?_) (fun e=>?_)
 have q:=am e
 exact Pl 7<|ce j true (by rw[e];rfl)
 have q:=ap e
 refine Pl 3<|cu 3 [31] 34 (((decide (11≤sub))&&(decide (sub≤18)))) (fun K k=>?_) ?_
 refine bl 31 ((decide (11≤sub))) (fun f=>?_) (fun f=>?_)
 have r:=of_decide_eq_true f
 exact Pl 3<|ce k (decide (sub≤18)) (by rw[f];rfl)
 have r:=of_decide_eq_false f
 exact Pl 3<|ce k false (by rw[f];rfl)
 exact Pl 1<|ce j ((decide (11≤sub))&&(decide (sub≤18))) (by rw[e];rfl)
 exact Pl 1<|ce i ((sub==2)||((decide (11≤sub))&&(decide (sub≤18)))) (by rw[d];rfl)
 have p:=ap d
 exact Pl 11<|ce i false (by rw[d];rfl)
 refine Pl 1<|nt<|cb (((dir==1)&&((sub==2)||((decide (11≤sub))&&(decide (sub≤18)))))) (fun g=>?_) (fun g=>?_)
 have l:=(aW g).1
 have s:=(aW g).2
 have t:=am l
 refine sg<|Pl 1<|nt<|rt<|br<|tr<|rr (.bool true)<|?_
 have hs:ee dir sub v=true:=by
   rw[ga]
   (try simp only[a,b,g,l,s,bs,if_true,if_false,decide_true,decide_false,reduceIte])
   all_goals rfl
 rw[hs]
 exact⟨rfl,(aE.refl [] _)⟩
 refine sk<|bn<|tn<|sg<|Pl 3<|nt<|rt<|rr (.bool (v==0))<|?_
 have hs:ee dir sub v=(v==0):=by
   rw[ga]
   (try simp only[a,b,g,bs,if_true,if_false,decide_true,decide_false,reduceIte])
   all_goals rfl
 rw[hs]
 exact⟨rfl,(aE.refl [] _)⟩
end Go.Proofs.YtogbnemojakcpaaGreat
