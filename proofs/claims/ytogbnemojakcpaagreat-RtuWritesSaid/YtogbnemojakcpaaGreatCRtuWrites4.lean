/- Contracts of functions, part CRtuWrites4. -/
import Derived.Test.YtogbnemojakcpaaGreatCRtuWrites1
import Derived.Test.YtogbnemojakcpaaGreatCRtuWrites2
import Derived.Test.YtogbnemojakcpaaGreatCRtuWrites3
import Derived.OpenShut
import Derived.Below
import Derived.Laws.BitsAllLaws
import Derived.Laws.StructEq
set_option linter.unusedVariables false
set_option linter.unusedSimpArgs false
set_option maxRecDepth 100000
set_option maxHeartbeats 4000000
namespace Go.Proofs.YtogbnemojakcpaaGreat
open Go.RowKit
theorem dS{α:Type}(d:α)(xs:List α)(k:Nat)(h:k<xs.length) : xs.getD k d∈xs:=by
  simp[List.getD_eq_getElem?_getD,List.getElem?_eq_getElem h]
def eT:List Obj→List Int
  | []=>[]
  | o :: r=>([o.id,(o.value.length:Int)%256]++o.value)++eT r
theorem mQ(xs:List Obj)(k:Nat)(h:k<xs.length) : eT (xs.drop k)=([(xs.getD k ⟨0,[]⟩).id,((xs.getD k ⟨0,[]⟩).value.length:Int)%256]++(xs.getD k ⟨0,[]⟩).value)++eT (xs.drop (k+1)):=by
  rw[List.drop_eq_getElem_cons h]
  simp[eT,List.getD_eq_getElem?_getD,List.getElem?_eq_getElem h]
def cQ (dir:Int)(M:aO) : List Int :=
  if M.mei==13 then [M.mei]++M.data
  else if dir==0 then [M.mei,M.kind,M.next]
  else [M.mei,M.kind,M.level,M.more,M.next,(M.objects.length:Int)%256]++eT M.objects
theorem rL{m:Md}{cs:Array Value}{M:aO}{w:World}{dir:Int}(h:aH m w cs.toList M)(hf:bR M)(hd0:(dir==0)=true) : Calls Tryz.prog 214 #[.int .i64 dir,.agg cs] w (fO (cQ dir M) w):=by
 obtain⟨vw,vb,vd,vr,vo,h0,hw,hbt,hd,hr,ho,hR⟩:=h
 obtain rfl:cs=(bt M vw vb vd vr vo).toArray:=by apply Array.toList_inj.1;simpa using h0
 clear h0
 obtain⟨Aw,kw,rfl,_,_⟩:=hw.shape
 obtain⟨Ab,kb,rfl,_,_⟩:=hbt.shape
 obtain⟨Ad,kd,rfl,_,_⟩:=hd.shape
 obtain⟨Ar,kr,rfl,_,_⟩:=hr.shape
 obtain⟨Ao,ko,rfl,_,_⟩:=ho.shape
 obtain⟨q0,q1,q2,q3,q4,q5,q6,q7,q8,q9,i,j,k,l,n,o,p⟩:=hR
 simp only[B8,dr] at q0 q1 q2 q3 q4 q5 q6 q7 q8 q9 i j k l n o p
 have hf1:=hf.words
 have hf2:=hf.bits
 have hf3:=hf.data
 have hf4:=hf.recs
 have hf5:=hf.objects
 refine en 64 Tryz.func214 rfl<|sg<|L0<|dq (mG M.code M.fail M.addr M.count M.value M.and_ M.or_ M.addr2 M.sub M.status M.events M.messages (.slice Aw M.words.length kw) (.slice Ab M.bits.length kb) (.slice Ad M.data.length kd) (.slice Ar M.recs.length kr) M.mei M.kind M.level M.more M.next (.slice Ao M.objects.length ko)) fun D E F a b=>Pl 1<|nt<|sq<|bk<|sg<|Pl 1<|L0<|aN a 16<|Pl 2<|nl<|?_
 refine tn<|cb ((M.mei==13)) (fun c=>?_) (fun c=>?_)
 have q:=ah c
 refine sg<|Pl 1<|L0<|aN a 16<|L0<|cL (m:=1) (e:=5) #[.int .u8 M.mei] fun G H r s d=>?_
 have f:=cG r (xs:=[M.mei]) (by as_aux_lemma=>kernel_rfl) (au (by omega) aK) (by(try simp only[List.length_cons,List.length_nil]);omega) s
 refine Pl 1<|?_
 refine L0<|aN (ub d a) 14<|?_
 have g:=aD b d
 refine L0<|bS aZ (xs:=([M.mei])) (ys:=M.data) (.int .u8 0) 1 f (b9.old hd g) (by(try simp only[List.length_append,List.length_cons,List.length_nil,az]);omega) d.size fun t u I v x=>Pl 1<|nt<|rt<|br<|tr<|rr (.slice t (([M.mei]++M.data).length) u)<|?_
 have hs:cQ dir M=([M.mei]++M.data):=by
   unfold cQ
   (try simp only[hd0,c,bs,if_true,if_false,decide_true,decide_false,reduceIte])
   all_goals rfl
 rw[hs]
 exact⟨_,rfl,(aS.weaken v b.size),(ut g x (av (aP f b.size) ax))⟩
 have q:=ak c
 refine sg<|Pl 3<|nt<|ct hd0<|sg<|Pl 1<|L0<|aN a 16<|Pl 1<|L0<|aN a 17<|Pl 1<|L0<|aN a 20<|?_
 refine L0<|cL (m:=3) (e:=5) #[.int .u8 M.mei,.int .u8 M.kind,.int .u8 M.next] fun y J z A B=>?_
 have C:=cG z (xs:=[M.mei,M.kind,M.next]) (by as_aux_lemma=>kernel_rfl) (au (by omega) (au (by omega) (au (by omega) aK))) (by(try simp only[List.length_cons,List.length_nil]);omega) A
 refine Pl 1<|nt<|rt<|br<|tr<|rr (.slice (some ⟨y,0,none⟩) 3 3)<|?_
 have hs:cQ dir M=[M.mei,M.kind,M.next]:=by
   unfold cQ
   (try simp only[hd0,c,bs,if_true,if_false,decide_true,decide_false,reduceIte])
   all_goals rfl
 rw[hs]
 exact⟨_,rfl,(aS.weaken C b.size),(aD b B)⟩
theorem rG{m:Md}{cs:Array Value}{M:aO}{w:World}{dir:Int}(h:aH m w cs.toList M)(hf:bR M)(hd0:(dir==0)=false) : Calls Tryz.prog 214 #[.int .i64 dir,.agg cs] w (fO (cQ dir M) w):=by
 obtain⟨vw,vb,vd,vr,vo,h0,hw,hbt,hd,hr,ho,hR⟩:=h
 obtain rfl:cs=(bt M vw vb vd vr vo).toArray:=by apply Array.toList_inj.1;simpa using h0
 clear h0
 obtain⟨Aw,kw,rfl,_,_⟩:=hw.shape
 obtain⟨Ab,kb,rfl,_,_⟩:=hbt.shape
 obtain⟨Ad,kd,rfl,_,_⟩:=hd.shape
 obtain⟨Ar,kr,rfl,_,_⟩:=hr.shape
 obtain⟨Ao,ko,rfl,_,_⟩:=ho.shape
 obtain⟨q0,q1,q2,q3,q4,q5,q6,q7,q8,q9,O,P,Q,R,S,T,U⟩:=hR
 simp only[B8,dr] at q0 q1 q2 q3 q4 q5 q6 q7 q8 q9 O P Q R S T U
 have hf1:=hf.words
 have hf2:=hf.bits
 have hf3:=hf.data
 have hf4:=hf.recs
 have hf5:=hf.objects
 refine en 64 Tryz.func214 rfl<|sg<|L0<|dq (mG M.code M.fail M.addr M.count M.value M.and_ M.or_ M.addr2 M.sub M.status M.events M.messages (.slice Aw M.words.length kw) (.slice Ab M.bits.length kb) (.slice Ad M.data.length kd) (.slice Ar M.recs.length kr) M.mei M.kind M.level M.more M.next (.slice Ao M.objects.length ko)) fun aF r aG a c=>Pl 1<|nt<|sq<|bk<|sg<|Pl 1<|L0<|aN a 16<|Pl 2<|nl<|?_
 refine tn<|cb ((M.mei==13)) (fun d=>?_) (fun d=>?_)
 have V:=ah d
 refine sg<|Pl 1<|L0<|aN a 16<|L0<|cL (m:=1) (e:=5) #[.int .u8 M.mei] fun aI aJ W X s=>?_
 have E:=cG W (xs:=[M.mei]) (by as_aux_lemma=>kernel_rfl) (au (by omega) aK) (by(try simp only[List.length_cons,List.length_nil]);omega) X
 refine Pl 1<|?_
 refine L0<|aN (ub s a) 14<|?_
 have F:=aD c s
 refine L0<|bS aZ (xs:=([M.mei])) (ys:=M.data) (.int .u8 0) 1 E (b9.old hd F) (by(try simp only[List.length_append,List.length_cons,List.length_nil,az]);omega) s.size fun Y Z aL a0 a1=>Pl 1<|nt<|rt<|br<|tr<|rr (.slice Y (([M.mei]++M.data).length) Z)<|?_
 have hs:cQ dir M=([M.mei]++M.data):=by
   unfold cQ
   (try simp only[hd0,d,bs,if_true,if_false,decide_true,decide_false,reduceIte])
   all_goals rfl
 rw[hs]
 exact⟨_,rfl,(aS.weaken a0 c.size),(ut F a1 (av (aP E c.size) ax))⟩
 have V:=ak d
 refine sg<|Pl 3<|nt<|cf hd0<|sk<|bn<|tn<|sg<|Pl 1<|L0<|aN a 16<|Pl 1<|L0<|aN a 17<|?_
 refine Pl 1<|L0<|aN a 18<|Pl 1<|L0<|aN a 19<|Pl 1<|L0<|aN a 20<|Pl 1<|L0<|aN a 21<|Pl 2<|L0<|cL (m:=6) (e:=5) #[.int .u8 M.mei,.int .u8 M.kind,.int .u8 M.level,.int .u8 M.more,.int .u8 M.next,.int .u8 (((M.objects.length:Nat) : Int)%256)] fun a2 a3 a4 a5 j=>?_
 have a6:=cG a4 (xs:=[M.mei,M.kind,M.level,M.more,M.next,(((M.objects.length:Nat) : Int)%256)]) (by as_aux_lemma=>kernel_rfl) (au (by omega) (au (by omega) (au (by omega) (au (by omega) (au (by omega) (au (by omega) aK)))))) (by(try simp only[List.length_cons,List.length_nil]);omega) a5
 refine Pl 1<|nt<|sq<|sg<|Pl 1<|?_
 refine L0<|aN (ub j a) 21<|Pl 2<|nt<|bk<|?_
 refine iM (fun x=>[(4,.slice none 0 0),(5,.slice x.2.2.1 x.2.1.length x.2.2.2),(44,.slice Ao M.objects.length ko),(45,.int .i64 ((M.objects.length:Nat) : Int)),(46,.int .i64 ((x.1:Nat) : Int))]) (fun(x:Nat × List Int × Option Addr × Nat) w'=>aC [] r w'∧a3.heap.size≤w'.heap.size∧eG r.heap.size w' (.slice x.2.2.1 x.2.1.length x.2.2.2) x.2.1∧(x.1≤M.objects.length)∧(x.2.1++eT (M.objects.drop x.1)=([M.mei,M.kind,M.level,M.more,M.next,(((M.objects.length:Nat) : Int)%256)])++eT M.objects)∧(x.2.1.length≤16+x.1*1026)∧(6≤x.2.1.length)) (fun x=>M.objects.length-x.1) (0,[M.mei,M.kind,M.level,M.more,M.next,(((M.objects.length:Nat) : Int)%256)],some ⟨a2,0,none⟩,6) ⟨j,lr,a6,(by(try dsimp only);omega),rfl,(by(try dsimp only);(try simp only[List.length_cons,List.length_nil]);omega),(by(try dsimp only);(try simp only[List.length_cons,List.length_nil]);omega)⟩ ?_
 rintro⟨k,L,A,cp⟩ a7 ⟨G,t,a8,a9,aa,ab,ac⟩
 refine iL [(4,.slice none 0 0),(5,.slice A L.length cp),(44,.slice Ao M.objects.length ko),(45,.int .i64 ((M.objects.length:Nat) : Int)),(46,.int .i64 ((k:Nat) : Int))] ?_
 have f:eG r.heap.size a7 (.slice A L.length cp) L:=a8
 have aM:k≤M.objects.length:=a9
 have aQ:L++eT (M.objects.drop k)=([M.mei,M.kind,M.level,M.more,M.next,(((M.objects.length:Nat) : Int)%256)])++eT M.objects:=aa
 have aR:L.length≤16+k*1026:=ab
 have aT:6≤L.length:=ac
 have hL:L++eT (M.objects.drop k)=([M.mei,M.kind,M.level,M.more,M.next,(((M.objects.length:Nat) : Int)%256)])++eT M.objects:=by assumption
 have hv0:=fun(h:k<M.objects.length)=>hf.objv _ (dS ⟨0,[]⟩ M.objects k h)
 refine sg<|Pl 1<|nt<|sq<|?_
 have u:=aD c G
 refine cb ((decide (((k:Nat) : Int)<((M.objects.length:Nat) : Int)))) (fun l=>?_) (fun l=>?_)
 have ad:=of_decide_eq_true l
 refine bi<|sq<|bk<|sg<|kD (mS.elt ho k (by omega)) fun aU aV aW aX aY v y af ag ai b0 aj=>L0<|oH 2 M.objects.length k af (by omega)<|?_
 refine L0<|yI [.int .u8 ((M.objects.getD k ⟨0,[]⟩).id),.slice v ((M.objects.getD k ⟨0,[]⟩).value.length) y] (ub u ag) aj<|L0<|bH #[.int .u8 0,.slice none 0 0] fun H b1 I al n=>L0<|b7 al #[.int .u8 ((M.objects.getD k ⟨0,[]⟩).id),.slice v ((M.objects.getD k ⟨0,[]⟩).value.length) y] fun b2 am o=>nt<|Rg 13 (fun w'=>w'.cell? ⟨H,0,none⟩=some (.int .u8 ((M.objects.getD k ⟨0,[]⟩).id))∧w'.cell? ⟨H,1,none⟩=some (.slice v ((M.objects.getD k ⟨0,[]⟩).value.length) y)) fun b3 g=>?_
 have z:=ub g am
 refine bg ⟨(ae z rfl),(ae z rfl)⟩ fun b=>Rt 0 b<|Rt 1 b<|Rl 2 b (fun _ hs=>hs.1)<|Rt 3 b<|Rl 4 b (fun _ hs=>hs.2)<|Rt 5 b<|Rt 6 b<|Rt 9 b<|Rl 10 b (fun _ hs=>hs.2)<|R0 7 rfl<|cL (m:=2) (e:=5) #[.int .u8 ((M.objects.getD k ⟨0,[]⟩).id),.int .u8 ((((M.objects.getD k ⟨0,[]⟩).value.length:Nat) : Int)%256)] fun b4 b5 an ao i=>?_
 have ap:=cG an (xs:=[(M.objects.getD k ⟨0,[]⟩).id,((((M.objects.getD k ⟨0,[]⟩).value.length:Nat) : Int)%256)]) (by as_aux_lemma=>kernel_rfl) (au (by omega) (au (by omega) aK)) (by(try simp only[List.length_cons,List.length_nil]);omega) ao
 have B:=ub i z
 refine bg ⟨(ae B rfl),(ae B rfl)⟩ fun b6=>?_
 have J:=ud n (aD o (aD g i)) I
 refine R0 8 rfl<|bS aZ (xs:=L) (ys:=([(M.objects.getD k ⟨0,[]⟩).id,((((M.objects.getD k ⟨0,[]⟩).value.length:Nat) : Int)%256)])) (.int .u8 0) 1 (aq f J (fun x hx=>aA) (fun _ _ h=>h)) (ap).rd (by(try simp only[List.length_append,List.length_cons,List.length_nil,az]);omega) (le (le (le (le (le j.size t) n.size) o.size) g.size) i.size) fun ar b8 ba C p=>?_
 have q:=aC.blk p (bj (eK f lr I) aA) B
 refine bg ⟨(ae q rfl),(ae q rfl)⟩ fun bb=>?_
 have K:=ut (aC.mono (S':=(ob A++[])) J ax) p (av il ax)
 refine R0 11 rfl<|bS aZ (xs:=(L++[(M.objects.getD k ⟨0,[]⟩).id,((((M.objects.getD k ⟨0,[]⟩).value.length:Nat) : Int)%256)])) (ys:=((M.objects.getD k ⟨0,[]⟩).value)) (.int .u8 0) 1 C (b9.old ai (ut u K (av (aP f c.size) ax))) (by(try simp only[List.length_append,List.length_cons,List.length_nil,az]);omega) (le (le (le (le (le (le j.size t) n.size) o.size) g.size) i.size) p.size) fun aw ay bc aB D=>?_
 have N:=aC.blk D (bj (ec q C (by decide)) aA) q
 refine bg ⟨(ae N rfl),(ae N rfl)⟩ fun aE=>Rt 12 aE<|re<|bn<|tn<|go<|L0<|Oi (((k:Nat) : Int)+1)<|Pl 1<|nl<|?_
 exact gE ((k+1),((L++[(M.objects.getD k ⟨0,[]⟩).id,((((M.objects.getD k ⟨0,[]⟩).value.length:Nat) : Int)%256)])++(M.objects.getD k ⟨0,[]⟩).value),aw,ay) ⟨(ut G (ut (aC.mono (S':=(ob A++(ob ar++[]))) K (av il ax)) D (av il ax)) (av (aP f lr) (av (aP C lr) ax))),(le (le (le (le (le (le t n.size) o.size) g.size) i.size) p.size) D.size),aB,(by(try dsimp only);omega),(by(try dsimp only);rw[← hL,mQ  M.objects k (by omega)];simp only[List.append_assoc]),(by(try dsimp only);have hv:=hf.objv _ (dS ⟨0,[]⟩ M.objects k (by omega));(try simp only[List.length_append,List.length_cons,List.length_nil,az]);omega),(by(try dsimp only);(try simp only[List.length_append,List.length_cons,List.length_nil]);omega)⟩ (by omega)
 have ad:=of_decide_eq_false l
 refine xt<|tx<|tx<|bx<|tn<|sg<|Pl 2<|nt<|rt<|rr (.slice A L.length cp)<|?_
 have hk:k=M.objects.length:=by omega
 rw[hk,List.drop_length] at hL
 have hL2:L=([M.mei,M.kind,M.level,M.more,M.next,(((M.objects.length:Nat) : Int)%256)])++eT M.objects:=by rw[← hL];simp[eT]
 have hs:cQ dir M=L:=by
   rw[hL2]
   unfold cQ
   (try simp only[hd0,d,l,bs,if_true,if_false,decide_true,decide_false,reduceIte])
   all_goals rfl
 rw[hs]
 exact⟨_,rfl,(aS.weaken f c.size),u⟩
theorem v9{m:Md}{cs:Array Value}{M:aO}{w:World}{dir:Int}(h:aH m w cs.toList M)(hf:bR M) : Calls Tryz.prog 214 #[.int .i64 dir,.agg cs] w (fO (cQ dir M) w):=by
  rcases eA (dir==0) with h0|h0
  · exact rL h hf h0
  · exact rG h hf h0
open Go.RowKit
def jd (dir code:Int)(r:dc) : List Int:=(if code==20&&dir==1 then [(1+2*(r.words.length:Int))%256,6] else [6]++aJ [r.file,r.record,r.count])++aJ r.words
def cX (dir code:Int) : List dc→List Int
  | []=>[]
  | r :: rs=>jd dir code r++cX dir code rs
theorem fS(dir code:Int)(xs:List dc)(k:Nat)(h:k<xs.length) : cX dir code (xs.drop k)=jd dir code (xs.getD k ⟨0,0,0,[]⟩)++cX dir code (xs.drop (k+1)):=by
  rw[List.drop_eq_getElem_cons h]
  simp[cX,List.getD_eq_getElem?_getD,List.getElem?_eq_getElem h]
def cV (dir:Int)(M:aO) : List Int:=([0]++cX dir M.code M.recs).set 0 (((([0]++cX dir M.code M.recs).length:Int)-1)%256)
theorem rW{m:Md}{cs:Array Value}{M:aO}{w:World}{dir:Int}(h:aH m w cs.toList M)(hf:bR M) : Calls Tryz.prog 212 #[.int .i64 dir,.agg cs] w (fO (cV dir M) w):=by
 obtain⟨vw,vb,vd,vr,vo,h0,hw,hbt,hd,hr,ho,hR⟩:=h
 obtain rfl:cs=(bt M vw vb vd vr vo).toArray:=by apply Array.toList_inj.1;simpa using h0
 clear h0
 obtain⟨Aw,kw,rfl,_,_⟩:=hw.shape
 obtain⟨Ab,kb,rfl,_,_⟩:=hbt.shape
 obtain⟨Ad,kd,rfl,_,_⟩:=hd.shape
 obtain⟨Ar,kr,rfl,_,_⟩:=hr.shape
 obtain⟨Ao,ko,rfl,_,_⟩:=ho.shape
 obtain⟨q0,q1,q2,q3,q4,q5,q6,q7,q8,q9,bm,bo,bp,bq,br,bu,bv⟩:=hR
 simp only[B8,dr] at q0 q1 q2 q3 q4 q5 q6 q7 q8 q9 bm bo bp bq br bu bv
 have hf1:=hf.words
 have hf2:=hf.bits
 have hf3:=hf.data
 have hf4:=hf.recs
 have hf5:=hf.objects
 refine en 58 Tryz.func212 rfl<|sg<|L0<|dq (mG M.code M.fail M.addr M.count M.value M.and_ M.or_ M.addr2 M.sub M.status M.events M.messages (.slice Aw M.words.length kw) (.slice Ab M.bits.length kb) (.slice Ad M.data.length kd) (.slice Ar M.recs.length kr) M.mei M.kind M.level M.more M.next (.slice Ao M.objects.length ko)) fun ao ac cB ap l=>Pl 1<|ng<|L0<|cL (m:=1) (e:=5) #[.int .u8 0] fun bw bz bA bB g=>?_
 have bC:=cG bA (xs:=[0]) (by as_aux_lemma=>kernel_rfl) (au (by omega) aK) (by(try simp only[List.length_cons,List.length_nil]);omega) bB
 refine Pl 1<|nt<|sq<|sg<|Pl 1<|?_
 refine L0<|aN (ub g ap) 15<|Pl 2<|nt<|bk<|?_
 refine iM (fun x=>[(0,.int .i64 dir),(3,.pointer (some ⟨ao,0,none⟩)),(4,.slice none 0 0),(5,.slice x.2.2.1 x.2.1.length x.2.2.2),(10,.slice Ar M.recs.length kr),(11,.int .i64 ((M.recs.length:Nat) : Int)),(12,.int .i64 ((x.1:Nat) : Int))]) (fun(x:Nat × List Int × Option Addr × Nat) w'=>aC [] ac w'∧bz.heap.size≤w'.heap.size∧eG ac.heap.size w' (.slice x.2.2.1 x.2.1.length x.2.2.2) x.2.1∧(x.1≤M.recs.length)∧(x.2.1++cX dir M.code (M.recs.drop x.1)=([0])++cX dir M.code M.recs)∧(x.2.1.length≤16+x.1*2060)∧(1≤x.2.1.length)) (fun x=>M.recs.length-x.1) (0,[0],some ⟨bw,0,none⟩,1) ⟨g,lr,bC,(by(try dsimp only);omega),rfl,(by(try dsimp only);(try simp only[List.length_cons,List.length_nil]);omega),(by(try dsimp only);(try simp only[List.length_cons,List.length_nil]);omega)⟩ ?_
 rintro⟨k,L,A,cp⟩ bD ⟨ar,f,bE,bF,bG,bI,bJ⟩
 refine iL [(0,.int .i64 dir),(3,.pointer (some ⟨ao,0,none⟩)),(4,.slice none 0 0),(5,.slice A L.length cp),(10,.slice Ar M.recs.length kr),(11,.int .i64 ((M.recs.length:Nat) : Int)),(12,.int .i64 ((k:Nat) : Int))] ?_
 have a:eG ac.heap.size bD (.slice A L.length cp) L:=bE
 have cC:k≤M.recs.length:=bF
 have cD:L++cX dir M.code (M.recs.drop k)=([0])++cX dir M.code M.recs:=bG
 have cE:L.length≤16+k*2060:=bI
 have cF:1≤L.length:=bJ
 have hL:L++cX dir M.code (M.recs.drop k)=([0])++cX dir M.code M.recs:=by assumption
 have hv0:=fun(h:k<M.recs.length)=>hf.recw _ (dS ⟨0,0,0,[]⟩ M.recs k h)
 refine sg<|Pl 1<|nt<|sq<|?_
 have ad:=aD l ar
 refine cb ((decide (((k:Nat) : Int)<((M.recs.length:Nat) : Int)))) (fun n=>?_) (fun n=>?_)
 have bK:=of_decide_eq_true n
 refine bi<|sq<|bk<|sg<|kD (lJ.elt hr k (by omega)) fun cH cI cJ cK cM aw ay bL bM Q cN bN=>L0<|oH 4 M.recs.length k bL (by omega)<|?_
 refine L0<|yI [.int .u16 ((M.recs.getD k ⟨0,0,0,[]⟩).file),.int .u16 ((M.recs.getD k ⟨0,0,0,[]⟩).record),.int .u16 ((M.recs.getD k ⟨0,0,0,[]⟩).count),.slice aw ((M.recs.getD k ⟨0,0,0,[]⟩).words.length) ay] (ub ad bM) bN<|L0<|bH #[.int .u16 0,.int .u16 0,.int .u16 0,.slice none 0 0] fun af cO B bO b=>L0<|b7 bO #[.int .u16 ((M.recs.getD k ⟨0,0,0,[]⟩).file),.int .u16 ((M.recs.getD k ⟨0,0,0,[]⟩).record),.int .u16 ((M.recs.getD k ⟨0,0,0,[]⟩).count),.slice aw ((M.recs.getD k ⟨0,0,0,[]⟩).words.length) ay] fun cP ag c=>nt<|sq<|bk<|sg<|Pl 1<|?_
 have s:=ud b c B
 have C:=aD ar s
 refine L0<|aN (ub C ap) 0<|Pl 2<|cu 3 [32] 35 (((M.code==20)&&(dir==1))) (fun K aB=>?_) ?_
 refine bl 32 ((M.code==20)) (fun D=>?_) (fun D=>?_)
 have bP:=ah D
 exact Pl 3<|ce aB (dir==1) (by rw[D];rfl)
 have bP:=ak D
 exact Pl 3<|ce aB false (by rw[D];rfl)
 refine Pl 1<|nt<|?_
 have R:=aD ad s
 refine cb (((M.code==20)&&(dir==1))) (fun o=>?_) (fun o=>?_)
 have aE:=(aU o).1
 have aF:=(aU o).2
 have cQ:=ah aE
 have cR:=ah aF
 refine go<|Pl 2<|L0<|aN ag 3<|Pl 1<|L0<|Oi (2*(((M.recs.getD k ⟨0,0,0,[]⟩).words.length:Nat) : Int))<|L0<|Oi (1+(2*(((M.recs.getD k ⟨0,0,0,[]⟩).words.length:Nat) : Int)))<|Pl 1<|L0<|cL (m:=2) (e:=5) #[.int .u8 ((1+(2*(((M.recs.getD k ⟨0,0,0,[]⟩).words.length:Nat) : Int)))%256),.int .u8 6] fun cS cT bQ bU E=>?_
 have bV:=cG bQ (xs:=[((1+(2*(((M.recs.getD k ⟨0,0,0,[]⟩).words.length:Nat) : Int)))%256),6]) (by as_aux_lemma=>kernel_rfl) (au (by omega) (au (by omega) aK)) (by(try simp only[List.length_cons,List.length_nil]);omega) bU
 refine L0<|bS aZ (xs:=L) (ys:=([((1+(2*(((M.recs.getD k ⟨0,0,0,[]⟩).words.length:Nat) : Int)))%256),6])) (.int .u8 0) 1 (aq a (aD s E) (fun x hx=>aA) (fun _ _ h=>h)) (bV).rd (by(try simp only[List.length_append,List.length_cons,List.length_nil,az]);omega) (le (le (le (le g.size f) b.size) c.size) E.size) fun aG cU cW aI ai=>Pl 1<|nl<|bn<|tn<|go<|Pl 2<|?_
 have aj:=ut (aC.mono (S':=(ob A++[])) E ax) ai (av il ax)
 refine L0<|aN (aC.blk aj (bj (eK a lr B) aA) ag) 3<|?_
 refine L0<|Oc<|du (bT (xs:=(M.recs.getD k ⟨0,0,0,[]⟩).words) (dP.old Q (ut R aj (av (aP a l.size) ax))) (by(try simp only[List.length_cons,List.length_nil]);omega)) fun cY cZ d0 bW d1 d2 S=>?_
 refine L0<|bS aZ (xs:=(L++[((1+(2*(((M.recs.getD k ⟨0,0,0,[]⟩).words.length:Nat) : Int)))%256),6])) (ys:=(aJ ((M.recs.getD k ⟨0,0,0,[]⟩).words))) (.int .u8 0) 1 (aq aI S (fun x hx=>aA) (fun _ _ h=>h)) (bW).rd (by(try simp only[List.length_append,List.length_cons,List.length_nil,az]);omega) (le (le (le (le (le (le g.size f) b.size) c.size) E.size) ai.size) S.size) fun bX bY d3 bZ aL=>Pl 1<|nl<|bn<|tn<|go<|L0<|Oi (((k:Nat) : Int)+1)<|Pl 1<|nl<|?_
 exact gE ((k+1),((L++[((1+(2*(((M.recs.getD k ⟨0,0,0,[]⟩).words.length:Nat) : Int)))%256),6])++(aJ ((M.recs.getD k ⟨0,0,0,[]⟩).words))),bX,bY) ⟨(ut C (ut (aC.mono (S':=(ob A++(ob aG++[]))) aj (av il ax)) (ut (aC.mono (S':=(ob aG++[])) S ax) aL (av il ax)) (av il ax)) (av (aP a lr) (av (aP aI lr) ax))),(le (le (le (le (le (le f b.size) c.size) E.size) ai.size) S.size) aL.size),bZ,(by(try dsimp only);omega),(by(try dsimp only);rw[← hL,fS dir M.code M.recs k (by omega)];simp only[jd,n,o,aE,aF,bs,if_true,if_false,decide_true,decide_false,List.append_assoc]),(by(try dsimp only);have hv:=hf.recw _ (dS ⟨0,0,0,[]⟩ M.recs k (by omega));(try simp only[List.length_append,List.length_cons,List.length_nil,az]);omega),(by(try dsimp only);(try simp only[List.length_append,List.length_cons,List.length_nil]);omega)⟩ (by omega)
 refine Rg 13 (fun w'=>w'.cell? ⟨af,0,none⟩=some (.int .u16 ((M.recs.getD k ⟨0,0,0,[]⟩).file))∧w'.cell? ⟨af,1,none⟩=some (.int .u16 ((M.recs.getD k ⟨0,0,0,[]⟩).record))∧w'.cell? ⟨af,2,none⟩=some (.int .u16 ((M.recs.getD k ⟨0,0,0,[]⟩).count))) fun d4 d=>?_
 have F:=ub d ag
 refine bg ⟨(ae F rfl),(ae F rfl),(ae F rfl)⟩ fun p=>Rt 0 p<|Rt 3 p<|Rl 4 p (fun _ hs=>hs.1)<|Rt 5 p<|Rl 6 p (fun _ hs=>hs.2.1)<|Rt 7 p<|Rl 8 p (fun _ hs=>hs.2.2)<|?_
 refine R2 1 9 rfl rfl ?_ ?_
 refine  cL (m:=1) (e:=5) #[.int .u8 6] fun d5 d6 c0 c1 i=>?_
 have aM:=cG c0 (xs:=[6]) (by as_aux_lemma=>kernel_rfl) (au (by omega) aK) (by(try simp only[List.length_cons,List.length_nil]);omega) c1
 have G:=ub i F
 refine bg ⟨(ae G rfl),(ae G rfl),(ae G rfl)⟩ fun d7=>?_
 refine R2 2 9 rfl rfl ?_ ?_
 have aQ:=aD d i
 refine  bS aZ (xs:=L) (ys:=([6])) (.int .u8 0) 1 (aq a (aD s aQ) (fun x hx=>aA) (fun _ _ h=>h)) (aM).rd (by(try simp only[List.length_append,List.length_cons,List.length_nil,az]);omega) (le (le (le (le (le g.size f) b.size) c.size) d.size) i.size) fun T d8 d9 al H=>?_
 have U:=aC.blk H (bj (eK a lr B) aA) G
 refine bg ⟨(ae U rfl),(ae U rfl),(ae U rfl)⟩ fun da=>R0 9 rfl<|cL (m:=3) (e:=24) #[.int .u16 ((M.recs.getD k ⟨0,0,0,[]⟩).file),.int .u16 ((M.recs.getD k ⟨0,0,0,[]⟩).record),.int .u16 ((M.recs.getD k ⟨0,0,0,[]⟩).count)] fun db dc c2 c3 I=>?_
 have c4:=dK c2 (xs:=[(M.recs.getD k ⟨0,0,0,[]⟩).file,(M.recs.getD k ⟨0,0,0,[]⟩).record,(M.recs.getD k ⟨0,0,0,[]⟩).count]) (by as_aux_lemma=>kernel_rfl) (au (by omega) (au (by omega) (au (by omega) aK))) (by(try simp only[List.length_cons,List.length_nil]);omega) c3
 have V:=ub I U
 refine bg ⟨(ae V rfl),(ae V rfl),(ae V rfl)⟩ fun dd=>R0 10 rfl<|Oc<|du (bT (xs:=[(M.recs.getD k ⟨0,0,0,[]⟩).file,(M.recs.getD k ⟨0,0,0,[]⟩).record,(M.recs.getD k ⟨0,0,0,[]⟩).count]) (c4).rd (by(try simp only[List.length_cons,List.length_nil]);omega)) fun de df dg c5 dh di J=>?_
 have N:=ub J V
 refine bg ⟨(ae N rfl),(ae N rfl),(ae N rfl)⟩ fun dj=>?_
 have aR:=aD I J
 have aT:=aq al aR (fun x hx=>aA) (fun _ _ h=>h)
 refine R0 11 rfl<|bS aZ (xs:=(L++[6])) (ys:=(aJ ([(M.recs.getD k ⟨0,0,0,[]⟩).file,(M.recs.getD k ⟨0,0,0,[]⟩).record,(M.recs.getD k ⟨0,0,0,[]⟩).count]))) (.int .u8 0) 1 aT (c5).rd (by(try simp only[List.length_append,List.length_cons,List.length_nil,az]);omega) (le (le (le (le (le (le (le (le g.size f) b.size) c.size) d.size) i.size) H.size) I.size) J.size) fun aV dk dl aW W=>?_
 have X:=aC.blk W (bj (ec N aT (by decide)) aA) N
 refine bg ⟨(ae X rfl),(ae X rfl),(ae X rfl)⟩ fun c6=>Rt 12 c6<|re<|bn<|tn<|go<|Pl 2<|L0<|aN X 3<|?_
 have aX:=ut (aC.mono (S':=(ob A++(ob T++[]))) aQ ax) (ut (aC.mono (S':=(ob A++(ob T++[]))) H (av il ax)) (ut (aC.mono (S':=(ob T++[])) aR ax) W (av il ax)) (av il ax)) (av il (av il ax))
 refine L0<|Oc<|du (bT (xs:=(M.recs.getD k ⟨0,0,0,[]⟩).words) (dP.old Q (ut R aX (av (aP a l.size) (av (aP al l.size) ax)))) (by(try simp only[List.length_cons,List.length_nil]);omega)) fun dm dn dp c7 ds dt Y=>?_
 refine L0<|bS aZ (xs:=((L++[6])++(aJ ([(M.recs.getD k ⟨0,0,0,[]⟩).file,(M.recs.getD k ⟨0,0,0,[]⟩).record,(M.recs.getD k ⟨0,0,0,[]⟩).count])))) (ys:=(aJ ((M.recs.getD k ⟨0,0,0,[]⟩).words))) (.int .u8 0) 1 (aq aW Y (fun x hx=>aA) (fun _ _ h=>h)) (c7).rd (by(try simp only[List.length_append,List.length_cons,List.length_nil,az]);omega) (le (le (le (le (le (le (le (le (le (le g.size f) b.size) c.size) d.size) i.size) H.size) I.size) J.size) W.size) Y.size) fun c8 c9 dv ca aY=>Pl 1<|nl<|bn<|tn<|go<|L0<|Oi (((k:Nat) : Int)+1)<|Pl 1<|nl<|?_
 exact gE ((k+1),(((L++[6])++(aJ ([(M.recs.getD k ⟨0,0,0,[]⟩).file,(M.recs.getD k ⟨0,0,0,[]⟩).record,(M.recs.getD k ⟨0,0,0,[]⟩).count])))++(aJ ((M.recs.getD k ⟨0,0,0,[]⟩).words))),c8,c9) ⟨(ut C (ut (aC.mono (S':=(ob A++(ob T++(ob aV++[])))) aX (av il (av il ax))) (ut (aC.mono (S':=(ob aV++[])) Y ax) aY (av il ax)) (av il ax)) (av (aP a lr) (av (aP al lr) (av (aP aW lr) ax)))),(le (le (le (le (le (le (le (le (le (le f b.size) c.size) d.size) i.size) H.size) I.size) J.size) W.size) Y.size) aY.size),ca,(by(try dsimp only);omega),(by(try dsimp only);rw[← hL,fS dir M.code M.recs k (by omega)];simp only[jd,n,o,bs,if_true,if_false,decide_true,decide_false,List.append_assoc]),(by(try dsimp only);have hv:=hf.recw _ (dS ⟨0,0,0,[]⟩ M.recs k (by omega));(try simp only[List.length_append,List.length_cons,List.length_nil,az]);omega),(by(try dsimp only);(try simp only[List.length_append,List.length_cons,List.length_nil]);omega)⟩ (by omega)
 refine  cL (m:=3) (e:=24) #[.int .u16 ((M.recs.getD k ⟨0,0,0,[]⟩).file),.int .u16 ((M.recs.getD k ⟨0,0,0,[]⟩).record),.int .u16 ((M.recs.getD k ⟨0,0,0,[]⟩).count)] fun dw dx cc cd q=>?_
 have b0:=dK cc (xs:=[(M.recs.getD k ⟨0,0,0,[]⟩).file,(M.recs.getD k ⟨0,0,0,[]⟩).record,(M.recs.getD k ⟨0,0,0,[]⟩).count]) (by as_aux_lemma=>kernel_rfl) (au (by omega) (au (by omega) (au (by omega) aK))) (by(try simp only[List.length_cons,List.length_nil]);omega) cd
 have Z:=ub q G
 refine bg ⟨(ae Z rfl),(ae Z rfl),(ae Z rfl)⟩ fun dy=>?_
 have b1:=aD d (aD i q)
 refine R0 2 rfl<|bS aZ (xs:=L) (ys:=([6])) (.int .u8 0) 1 (aq a (aD s b1) (fun x hx=>aA) (fun _ _ h=>h)) ((aq aM q (fun x hx=>aA) (fun _ _ h=>h))).rd (by(try simp only[List.length_append,List.length_cons,List.length_nil,az]);omega) (le (le (le (le (le (le g.size f) b.size) c.size) d.size) i.size) q.size) fun a0 dz dA am t=>?_
 have a1:=aC.blk t (bj (eK a lr B) aA) Z
 refine bg ⟨(ae a1 rfl),(ae a1 rfl),(ae a1 rfl)⟩ fun dB=>?_
 refine R0 10 rfl<|Oc<|du (bT (xs:=[(M.recs.getD k ⟨0,0,0,[]⟩).file,(M.recs.getD k ⟨0,0,0,[]⟩).record,(M.recs.getD k ⟨0,0,0,[]⟩).count]) ((aq b0 t (fun x hx=>(bj ((iU b0 a (le (le (le b.size c.size) d.size) i.size)) x hx) aA)) (fun _ _ h=>h))).rd (by(try simp only[List.length_cons,List.length_nil]);omega)) fun dC dD dE cf dF dG u=>?_
 have O:=ub u a1
 refine bg ⟨(ae O rfl),(ae O rfl),(ae O rfl)⟩ fun dH=>?_
 have b2:=aq am u (fun x hx=>aA) (fun _ _ h=>h)
 refine R0 11 rfl<|bS aZ (xs:=(L++[6])) (ys:=(aJ ([(M.recs.getD k ⟨0,0,0,[]⟩).file,(M.recs.getD k ⟨0,0,0,[]⟩).record,(M.recs.getD k ⟨0,0,0,[]⟩).count]))) (.int .u8 0) 1 b2 (cf).rd (by(try simp only[List.length_append,List.length_cons,List.length_nil,az]);omega) (le (le (le (le (le (le (le (le g.size f) b.size) c.size) d.size) i.size) q.size) t.size) u.size) fun b3 dI dJ b4 a2=>?_
 have a3:=aC.blk a2 (bj (ec O b2 (by decide)) aA) O
 refine bg ⟨(ae a3 rfl),(ae a3 rfl),(ae a3 rfl)⟩ fun cg=>Rt 12 cg<|re<|bn<|tn<|go<|Pl 2<|L0<|aN a3 3<|?_
 have b5:=ut (aC.mono (S':=(ob A++(ob a0++[]))) b1 ax) (ut (aC.mono (S':=(ob A++(ob a0++[]))) t (av il ax)) (ut (aC.mono (S':=(ob a0++[])) u ax) a2 (av il ax)) (av il ax)) (av il (av il ax))
 refine L0<|Oc<|du (bT (xs:=(M.recs.getD k ⟨0,0,0,[]⟩).words) (dP.old Q (ut R b5 (av (aP a l.size) (av (aP am l.size) ax)))) (by(try simp only[List.length_cons,List.length_nil]);omega)) fun dL dM dN ch dO dQ a4=>?_
 refine L0<|bS aZ (xs:=((L++[6])++(aJ ([(M.recs.getD k ⟨0,0,0,[]⟩).file,(M.recs.getD k ⟨0,0,0,[]⟩).record,(M.recs.getD k ⟨0,0,0,[]⟩).count])))) (ys:=(aJ ((M.recs.getD k ⟨0,0,0,[]⟩).words))) (.int .u8 0) 1 (aq b4 a4 (fun x hx=>aA) (fun _ _ h=>h)) (ch).rd (by(try simp only[List.length_append,List.length_cons,List.length_nil,az]);omega) (le (le (le (le (le (le (le (le (le (le g.size f) b.size) c.size) d.size) i.size) q.size) t.size) u.size) a2.size) a4.size) fun ci cj dR ck b6=>Pl 1<|nl<|bn<|tn<|go<|L0<|Oi (((k:Nat) : Int)+1)<|Pl 1<|nl<|?_
 exact gE ((k+1),(((L++[6])++(aJ ([(M.recs.getD k ⟨0,0,0,[]⟩).file,(M.recs.getD k ⟨0,0,0,[]⟩).record,(M.recs.getD k ⟨0,0,0,[]⟩).count])))++(aJ ((M.recs.getD k ⟨0,0,0,[]⟩).words))),ci,cj) ⟨(ut C (ut (aC.mono (S':=(ob A++(ob a0++(ob b3++[])))) b5 (av il (av il ax))) (ut (aC.mono (S':=(ob b3++[])) a4 ax) b6 (av il ax)) (av il ax)) (av (aP a lr) (av (aP am lr) (av (aP b4 lr) ax)))),(le (le (le (le (le (le (le (le (le (le f b.size) c.size) d.size) i.size) q.size) t.size) u.size) a2.size) a4.size) b6.size),ck,(by(try dsimp only);omega),(by(try dsimp only);rw[← hL,fS dir M.code M.recs k (by omega)];simp only[jd,n,o,bs,if_true,if_false,decide_true,decide_false,List.append_assoc]),(by(try dsimp only);have hv:=hf.recw _ (dS ⟨0,0,0,[]⟩ M.recs k (by omega));(try simp only[List.length_append,List.length_cons,List.length_nil,az]);omega),(by(try dsimp only);(try simp only[List.length_append,List.length_cons,List.length_nil]);omega)⟩ (by omega)
 refine  cL (m:=3) (e:=24) #[.int .u16 ((M.recs.getD k ⟨0,0,0,[]⟩).file),.int .u16 ((M.recs.getD k ⟨0,0,0,[]⟩).record),.int .u16 ((M.recs.getD k ⟨0,0,0,[]⟩).count)] fun dT dU cl cm v=>?_
 have b8:=dK cl (xs:=[(M.recs.getD k ⟨0,0,0,[]⟩).file,(M.recs.getD k ⟨0,0,0,[]⟩).record,(M.recs.getD k ⟨0,0,0,[]⟩).count]) (by as_aux_lemma=>kernel_rfl) (au (by omega) (au (by omega) (au (by omega) aK))) (by(try simp only[List.length_cons,List.length_nil]);omega) cm
 have a5:=ub v F
 refine bg ⟨(ae a5 rfl),(ae a5 rfl),(ae a5 rfl)⟩ fun dV=>R0 1 rfl<|cL (m:=1) (e:=5) #[.int .u8 6] fun dW dX cn co r=>?_
 have cq:=cG cn (xs:=[6]) (by as_aux_lemma=>kernel_rfl) (au (by omega) aK) (by(try simp only[List.length_cons,List.length_nil]);omega) co
 have a6:=ub r a5
 refine bg ⟨(ae a6 rfl),(ae a6 rfl),(ae a6 rfl)⟩ fun dY=>?_
 have ba:=aD d (aD v r)
 refine R0 2 rfl<|bS aZ (xs:=L) (ys:=([6])) (.int .u8 0) 1 (aq a (aD s ba) (fun x hx=>aA) (fun _ _ h=>h)) (cq).rd (by(try simp only[List.length_append,List.length_cons,List.length_nil,az]);omega) (le (le (le (le (le (le g.size f) b.size) c.size) d.size) v.size) r.size) fun a7 dZ e0 an y=>?_
 have a8:=aC.blk y (bj (eK a lr B) aA) a6
 refine bg ⟨(ae a8 rfl),(ae a8 rfl),(ae a8 rfl)⟩ fun e1=>?_
 refine R0 10 rfl<|Oc<|du (bT (xs:=[(M.recs.getD k ⟨0,0,0,[]⟩).file,(M.recs.getD k ⟨0,0,0,[]⟩).record,(M.recs.getD k ⟨0,0,0,[]⟩).count]) ((aq b8 (ut (aC.mono (S':=(ob A++[])) r ax) y (av il ax)) (fun x hx=>(bj ((iU b8 a (le (le b.size c.size) d.size)) x hx) aA)) (fun _ _ h=>h))).rd (by(try simp only[List.length_cons,List.length_nil]);omega)) fun e2 e3 e4 cr e5 e6 z=>?_
 have P:=ub z a8
 refine bg ⟨(ae P rfl),(ae P rfl),(ae P rfl)⟩ fun e7=>?_
 have bb:=aq an z (fun x hx=>aA) (fun _ _ h=>h)
 refine R0 11 rfl<|bS aZ (xs:=(L++[6])) (ys:=(aJ ([(M.recs.getD k ⟨0,0,0,[]⟩).file,(M.recs.getD k ⟨0,0,0,[]⟩).record,(M.recs.getD k ⟨0,0,0,[]⟩).count]))) (.int .u8 0) 1 bb (cr).rd (by(try simp only[List.length_append,List.length_cons,List.length_nil,az]);omega) (le (le (le (le (le (le (le (le g.size f) b.size) c.size) d.size) v.size) r.size) y.size) z.size) fun bc e8 e9 bd a9=>?_
 have aa:=aC.blk a9 (bj (ec P bb (by decide)) aA) P
 refine bg ⟨(ae aa rfl),(ae aa rfl),(ae aa rfl)⟩ fun ct=>Rt 12 ct<|re<|bn<|tn<|go<|Pl 2<|L0<|aN aa 3<|?_
 have be:=ut (aC.mono (S':=(ob A++(ob a7++[]))) ba ax) (ut (aC.mono (S':=(ob A++(ob a7++[]))) y (av il ax)) (ut (aC.mono (S':=(ob a7++[])) z ax) a9 (av il ax)) (av il ax)) (av il (av il ax))
 refine L0<|Oc<|du (bT (xs:=(M.recs.getD k ⟨0,0,0,[]⟩).words) (dP.old Q (ut R be (av (aP a l.size) (av (aP an l.size) ax)))) (by(try simp only[List.length_cons,List.length_nil]);omega)) fun ea eb ed cv ee ef ab=>?_
 refine L0<|bS aZ (xs:=((L++[6])++(aJ ([(M.recs.getD k ⟨0,0,0,[]⟩).file,(M.recs.getD k ⟨0,0,0,[]⟩).record,(M.recs.getD k ⟨0,0,0,[]⟩).count])))) (ys:=(aJ ((M.recs.getD k ⟨0,0,0,[]⟩).words))) (.int .u8 0) 1 (aq bd ab (fun x hx=>aA) (fun _ _ h=>h)) (cv).rd (by(try simp only[List.length_append,List.length_cons,List.length_nil,az]);omega) (le (le (le (le (le (le (le (le (le (le g.size f) b.size) c.size) d.size) v.size) r.size) y.size) z.size) a9.size) ab.size) fun cw cx eg cy bf=>Pl 1<|nl<|bn<|tn<|go<|L0<|Oi (((k:Nat) : Int)+1)<|Pl 1<|nl<|?_
 exact gE ((k+1),(((L++[6])++(aJ ([(M.recs.getD k ⟨0,0,0,[]⟩).file,(M.recs.getD k ⟨0,0,0,[]⟩).record,(M.recs.getD k ⟨0,0,0,[]⟩).count])))++(aJ ((M.recs.getD k ⟨0,0,0,[]⟩).words))),cw,cx) ⟨(ut C (ut (aC.mono (S':=(ob A++(ob a7++(ob bc++[])))) be (av il (av il ax))) (ut (aC.mono (S':=(ob bc++[])) ab ax) bf (av il ax)) (av il ax)) (av (aP a lr) (av (aP an lr) (av (aP bd lr) ax)))),(le (le (le (le (le (le (le (le (le (le f b.size) c.size) d.size) v.size) r.size) y.size) z.size) a9.size) ab.size) bf.size),cy,(by(try dsimp only);omega),(by(try dsimp only);rw[← hL,fS dir M.code M.recs k (by omega)];simp only[jd,n,o,bs,if_true,if_false,decide_true,decide_false,List.append_assoc]),(by(try dsimp only);have hv:=hf.recw _ (dS ⟨0,0,0,[]⟩ M.recs k (by omega));(try simp only[List.length_append,List.length_cons,List.length_nil,az]);omega),(by(try dsimp only);(try simp only[List.length_append,List.length_cons,List.length_nil]);omega)⟩ (by omega)
 have bK:=of_decide_eq_false n
 refine xt<|tx<|tx<|bx<|tn<|sg<|Pl 3<|L0<|Oi (((L.length:Nat) : Int)-1)<|Pl 1<|gj (b9.at_ (a).rd 0 (by omega)) fun eh ei bh ej ek=>L0<|m0 L.length 0 bh (by omega)<|L0<|zO aZ (j:=0) a bh (by omega) ((((L.length:Nat) : Int)-1)%256) (fun _=>⟨rfl,by omega⟩) fun el cz cA=>nl<|?_
 refine tn<|sg<|Pl 2<|nt<|rt<|rr (.slice A L.length cp)<|?_
 have hk:k=M.recs.length:=by omega
 rw[hk,List.drop_length] at hL
 have hL2:[0]++cX dir M.code M.recs=L:=by rw[← hL];simp[cX]
 have hs:cV dir M=(L.set 0 ((((L.length:Nat) : Int)-1)%256)):=by unfold cV;rw[hL2]
 rw[hs]
 exact⟨_,rfl,(aS.weaken cz l.size),(ut ad cA (av (aP a l.size) ax))⟩
open Go.RowKit
theorem jg{parse:Int→Int→List Int→aO × Int}{lay:Int→aO→List Int}{dir E:Int}{M X:aO}(hX:parse dir M.code (lay dir M)=(X,E))(hE:(E != 0)=true) : bh parse lay dir M=none:=by
  unfold bh
  rw[hX,if_neg]
  intro h
  injection h with h1 h2
  rw[h2] at hE
  cases hE
theorem jc{parse:Int→Int→List Int→aO × Int}{lay:Int→aO→List Int}{dir E:Int}{M X:aO}(hX:parse dir M.code (lay dir M)=(X,E))(hE:decide (X=M)=false) : bh parse lay dir M=none:=by
  unfold bh
  rw[hX,if_neg]
  intro h
  injection h with h1 h2
  rw[h1] at hE
  simp at hE
theorem ia{parse:Int→Int→List Int→aO × Int}{lay:Int→aO→List Int}{dir E:Int}{M X:aO}(hX:parse dir M.code (lay dir M)=(X,E))(hE:(E != 0)=false)(h:decide (X=M)=true) : bh parse lay dir M=some (lay dir M):=by
  unfold bh
  have h1:X=M:=by simpa using h
  have h2:E=0:=by simpa using hE
  rw[hX,h1,h2,if_pos rfl]
theorem cn{x y:Option (List Int)}(h:x=y){w:World}{e:Ending}{w':World}(k:dw y w e w') : dw x w e w':=by rw[h];exact k
theorem ka{m:Md}{cs:Array Value}{M:aO}{w:World}{dir:Int}(h:aH m w cs.toList M)(hf:bR M)(hlen:(bL dir M).length≤1048576) : Calls Tryz.prog 139 #[.int .i64 dir,.agg cs] w (dw (bh fw bL dir M) w):=by
 have hM:=h
 obtain⟨vw,vb,vd,vr,vo,h0,hw,hbt,hd,hr,ho,hR⟩:=h
 obtain rfl:cs=(bt M vw vb vd vr vo).toArray:=by apply Array.toList_inj.1;simpa using h0
 clear h0
 obtain⟨Aw,kw,rfl,_,_⟩:=hw.shape
 obtain⟨Ab,kb,rfl,_,_⟩:=hbt.shape
 obtain⟨Ad,kd,rfl,_,_⟩:=hd.shape
 obtain⟨Ar,kr,rfl,_,_⟩:=hr.shape
 obtain⟨Ao,ko,rfl,_,_⟩:=ho.shape
 obtain⟨q0,q1,q2,q3,q4,q5,q6,q7,q8,q9,y,z,C,D,E,F,G⟩:=hR
 simp only[B8,dr] at q0 q1 q2 q3 q4 q5 q6 q7 q8 q9 y z C D E F G
 refine en 29 Tryz.func139 rfl<|sg<|L0<|dq (mG M.code M.fail M.addr M.count M.value M.and_ M.or_ M.addr2 M.sub M.status M.events M.messages (.slice Aw M.words.length kw) (.slice Ab M.bits.length kb) (.slice Ad M.data.length kd) (.slice Ar M.recs.length kr) M.mei M.kind M.level M.more M.next (.slice Ao M.objects.length ko)) fun V W X k g=>Pl 2<|ng<|Pl 1<|L0<|bM k<|?_
 have l:=aH.old hM g
 refine L0<|Oc<|du (sE (dir:=dir) l hf) fun H I J n Y Z o=>Pl 1<|ng<|Pl 2<|?_
 have p:=ub o k
 refine L0<|aN p 0<|Pl 1<|?_
 refine pr (fw dir M.code (bL dir M)) fun e K f=>?_
 have q:Calls _ _ _ _ (dW (fw dir M.code (bL dir M)) J):=jS (dir:=dir) (c:=M.code) q0 (n).rd hlen
 rw[f] at q
 refine L0<|Oc<|e2 (q) fun L a0 a N=>Pl 3<|L0<|bH mZ fun a1 a2 O P Q=>L0<|b7 (hz:=(by rw[a.size];exact aI)) (hv:=a.size) (h1:=a.one) P (L) fun a3 R S=>Pl 1<|nt<|sq<|sg<|Pl 3<|?_
 have r:=ud Q S O
 have i:=aD N r
 have s:=aD o i
 have t:=aD g s
 refine bl 22 ((K != 0)) (fun b=>?_) (fun b=>?_)
 have T:=ay b
 refine Pl 5<|nt<|c1<|sg<|Pl 2<|nt<|rt<|tr<|rr (.tuple #[.slice none 0 0,.int .i64 1])<|?_
 refine cn (jg f b) ?_
 exact⟨rfl,t⟩
 have T:=ag b
 refine L1<|bM (hz:=(by rw[a.size];exact aI)) R<|?_
 refine L1<|bM (ub i p)<|?_
 refine L1<|Oc<|m1 (gr (A:=e) (B:=M) (aH.upd a r aG) (aH.old l s)) fun a4 u=>Pl 2<|nt<|?_
 have v:=aD t u
 refine cb ((!(decide (e=M)))) (fun j=>?_) (fun j=>?_)
 have d:(decide (e=M))=false:=by simpa using j
 have U:=of_decide_eq_false d
 refine sg<|Pl 2<|nt<|rt<|tr<|rr (.tuple #[.slice none 0 0,.int .i64 1])<|?_
 refine cn (jc f d) ?_
 exact⟨rfl,v⟩
 have d:(decide (e=M))=true:=by simpa using j
 have U:=of_decide_eq_true d
 refine bi<|sg<|Pl 3<|nt<|rt<|rr (.tuple #[.slice H ((bL dir M).length) I,.int .i64 0])<|?_
 refine cn (ia f b d) ?_
 exact⟨_,rfl,(aS.weaken (aq n (aD i u) (fun x hx=>aA) (fun _ _ h=>h)) g.size),v⟩
theorem kZ{m:Md}{cs:Array Value}{M:aO}{w:World}{dir:Int}(h:aH m w cs.toList M)(hf:bR M)(hlen:(bF dir M).length≤1048576) : Calls Tryz.prog 141 #[.int .i64 dir,.agg cs] w (dw (bh gt bF dir M) w):=by
 have hM:=h
 obtain⟨vw,vb,vd,vr,vo,h0,hw,hbt,hd,hr,ho,hR⟩:=h
 obtain rfl:cs=(bt M vw vb vd vr vo).toArray:=by apply Array.toList_inj.1;simpa using h0
 clear h0
 obtain⟨Aw,kw,rfl,_,_⟩:=hw.shape
 obtain⟨Ab,kb,rfl,_,_⟩:=hbt.shape
 obtain⟨Ad,kd,rfl,_,_⟩:=hd.shape
 obtain⟨Ar,kr,rfl,_,_⟩:=hr.shape
 obtain⟨Ao,ko,rfl,_,_⟩:=ho.shape
 obtain⟨q0,q1,q2,q3,q4,q5,q6,q7,q8,q9,y,z,C,D,E,F,G⟩:=hR
 simp only[B8,dr] at q0 q1 q2 q3 q4 q5 q6 q7 q8 q9 y z C D E F G
 refine en 29 Tryz.func141 rfl<|sg<|L0<|dq (mG M.code M.fail M.addr M.count M.value M.and_ M.or_ M.addr2 M.sub M.status M.events M.messages (.slice Aw M.words.length kw) (.slice Ab M.bits.length kb) (.slice Ad M.data.length kd) (.slice Ar M.recs.length kr) M.mei M.kind M.level M.more M.next (.slice Ao M.objects.length ko)) fun V W X k g=>Pl 2<|ng<|Pl 1<|L0<|bM k<|?_
 have l:=aH.old hM g
 refine L0<|Oc<|du (uH (dir:=dir) l hf) fun H I J n Y Z o=>Pl 1<|ng<|Pl 2<|?_
 have p:=ub o k
 refine L0<|aN p 0<|Pl 1<|?_
 refine pr (gt dir M.code (bF dir M)) fun e K f=>?_
 have q:Calls _ _ _ _ (dW (gt dir M.code (bF dir M)) J):=lh (dir:=dir) (c:=M.code) q0 (n).rd hlen
 rw[f] at q
 refine L0<|Oc<|e2 (q) fun L a0 a N=>Pl 3<|L0<|bH mZ fun a1 a2 O P Q=>L0<|b7 (hz:=(by rw[a.size];exact aI)) (hv:=a.size) (h1:=a.one) P (L) fun a3 R S=>Pl 1<|nt<|sq<|sg<|Pl 3<|?_
 have r:=ud Q S O
 have i:=aD N r
 have s:=aD o i
 have t:=aD g s
 refine bl 22 ((K != 0)) (fun b=>?_) (fun b=>?_)
 have T:=ay b
 refine Pl 5<|nt<|c1<|sg<|Pl 2<|nt<|rt<|tr<|rr (.tuple #[.slice none 0 0,.int .i64 1])<|?_
 refine cn (jg f b) ?_
 exact⟨rfl,t⟩
 have T:=ag b
 refine L1<|bM (hz:=(by rw[a.size];exact aI)) R<|?_
 refine L1<|bM (ub i p)<|?_
 refine L1<|Oc<|m1 (gr (A:=e) (B:=M) (aH.upd a r aG) (aH.old l s)) fun a4 u=>Pl 2<|nt<|?_
 have v:=aD t u
 refine cb ((!(decide (e=M)))) (fun j=>?_) (fun j=>?_)
 have d:(decide (e=M))=false:=by simpa using j
 have U:=of_decide_eq_false d
 refine sg<|Pl 2<|nt<|rt<|tr<|rr (.tuple #[.slice none 0 0,.int .i64 1])<|?_
 refine cn (jc f d) ?_
 exact⟨rfl,v⟩
 have d:(decide (e=M))=true:=by simpa using j
 have U:=of_decide_eq_true d
 refine bi<|sg<|Pl 3<|nt<|rt<|rr (.tuple #[.slice H ((bF dir M).length) I,.int .i64 0])<|?_
 refine cn (ia f b d) ?_
 exact⟨_,rfl,(aS.weaken (aq n (aD i u) (fun x hx=>aA) (fun _ _ h=>h)) g.size),v⟩
theorem lA{m:Md}{cs:Array Value}{M:aO}{w:World}{dir:Int}(h:aH m w cs.toList M)(hf:bR M)(hlen:(bI dir M).length≤1048576) : Calls Tryz.prog 143 #[.int .i64 dir,.agg cs] w (dw (bh gz bI dir M) w):=by
 have hM:=h
 obtain⟨vw,vb,vd,vr,vo,h0,hw,hbt,hd,hr,ho,hR⟩:=h
 obtain rfl:cs=(bt M vw vb vd vr vo).toArray:=by apply Array.toList_inj.1;simpa using h0
 clear h0
 obtain⟨Aw,kw,rfl,_,_⟩:=hw.shape
 obtain⟨Ab,kb,rfl,_,_⟩:=hbt.shape
 obtain⟨Ad,kd,rfl,_,_⟩:=hd.shape
 obtain⟨Ar,kr,rfl,_,_⟩:=hr.shape
 obtain⟨Ao,ko,rfl,_,_⟩:=ho.shape
 obtain⟨q0,q1,q2,q3,q4,q5,q6,q7,q8,q9,y,z,C,D,E,F,G⟩:=hR
 simp only[B8,dr] at q0 q1 q2 q3 q4 q5 q6 q7 q8 q9 y z C D E F G
 refine en 29 Tryz.func143 rfl<|sg<|L0<|dq (mG M.code M.fail M.addr M.count M.value M.and_ M.or_ M.addr2 M.sub M.status M.events M.messages (.slice Aw M.words.length kw) (.slice Ab M.bits.length kb) (.slice Ad M.data.length kd) (.slice Ar M.recs.length kr) M.mei M.kind M.level M.more M.next (.slice Ao M.objects.length ko)) fun V W X k g=>Pl 2<|ng<|Pl 1<|L0<|bM k<|?_
 have l:=aH.old hM g
 refine L0<|Oc<|du (sW (dir:=dir) l hf) fun H I J n Y Z o=>Pl 1<|ng<|Pl 2<|?_
 have p:=ub o k
 refine L0<|aN p 0<|Pl 1<|?_
 refine pr (gz dir M.code (bI dir M)) fun e K f=>?_
 have q:Calls _ _ _ _ (dW (gz dir M.code (bI dir M)) J):=ll (dir:=dir) (c:=M.code) q0 (n).rd hlen
 rw[f] at q
 refine L0<|Oc<|e2 (q) fun L a0 a N=>Pl 3<|L0<|bH mZ fun a1 a2 O P Q=>L0<|b7 (hz:=(by rw[a.size];exact aI)) (hv:=a.size) (h1:=a.one) P (L) fun a3 R S=>Pl 1<|nt<|sq<|sg<|Pl 3<|?_
 have r:=ud Q S O
 have i:=aD N r
 have s:=aD o i
 have t:=aD g s
 refine bl 22 ((K != 0)) (fun b=>?_) (fun b=>?_)
 have T:=ay b
 refine Pl 5<|nt<|c1<|sg<|Pl 2<|nt<|rt<|tr<|rr (.tuple #[.slice none 0 0,.int .i64 1])<|?_
 refine cn (jg f b) ?_
 exact⟨rfl,t⟩
 have T:=ag b
 refine L1<|bM (hz:=(by rw[a.size];exact aI)) R<|?_
 refine L1<|bM (ub i p)<|?_
 refine L1<|Oc<|m1 (gr (A:=e) (B:=M) (aH.upd a r aG) (aH.old l s)) fun a4 u=>Pl 2<|nt<|?_
 have v:=aD t u
 refine cb ((!(decide (e=M)))) (fun j=>?_) (fun j=>?_)
 have d:(decide (e=M))=false:=by simpa using j
 have U:=of_decide_eq_false d
 refine sg<|Pl 2<|nt<|rt<|tr<|rr (.tuple #[.slice none 0 0,.int .i64 1])<|?_
 refine cn (jc f d) ?_
 exact⟨rfl,v⟩
 have d:(decide (e=M))=true:=by simpa using j
 have U:=of_decide_eq_true d
 refine bi<|sg<|Pl 3<|nt<|rt<|rr (.tuple #[.slice H ((bI dir M).length) I,.int .i64 0])<|?_
 refine cn (ia f b d) ?_
 exact⟨_,rfl,(aS.weaken (aq n (aD i u) (fun x hx=>aA) (fun _ _ h=>h)) g.size),v⟩
theorem mJ{m:Md}{cs:Array Value}{M:aO}{w:World}{dir:Int}(h:aH m w cs.toList M)(hf:bR M)(hlen:(cQ dir M).length≤1048576) : Calls Tryz.prog 147 #[.int .i64 dir,.agg cs] w (dw (bh ie cQ dir M) w):=by
 have hM:=h
 obtain⟨vw,vb,vd,vr,vo,h0,hw,hbt,hd,hr,ho,hR⟩:=h
 obtain rfl:cs=(bt M vw vb vd vr vo).toArray:=by apply Array.toList_inj.1;simpa using h0
 clear h0
 obtain⟨Aw,kw,rfl,_,_⟩:=hw.shape
 obtain⟨Ab,kb,rfl,_,_⟩:=hbt.shape
 obtain⟨Ad,kd,rfl,_,_⟩:=hd.shape
 obtain⟨Ar,kr,rfl,_,_⟩:=hr.shape
 obtain⟨Ao,ko,rfl,_,_⟩:=ho.shape
 obtain⟨q0,q1,q2,q3,q4,q5,q6,q7,q8,q9,y,z,C,D,E,F,G⟩:=hR
 simp only[B8,dr] at q0 q1 q2 q3 q4 q5 q6 q7 q8 q9 y z C D E F G
 refine en 29 Tryz.func147 rfl<|sg<|L0<|dq (mG M.code M.fail M.addr M.count M.value M.and_ M.or_ M.addr2 M.sub M.status M.events M.messages (.slice Aw M.words.length kw) (.slice Ab M.bits.length kb) (.slice Ad M.data.length kd) (.slice Ar M.recs.length kr) M.mei M.kind M.level M.more M.next (.slice Ao M.objects.length ko)) fun V W X k g=>Pl 2<|ng<|Pl 1<|L0<|bM k<|?_
 have l:=aH.old hM g
 refine L0<|Oc<|du (v9 (dir:=dir) l hf) fun H I J n Y Z o=>Pl 1<|ng<|Pl 2<|?_
 have p:=ub o k
 refine L0<|aN p 0<|Pl 1<|?_
 refine pr (ie dir M.code (cQ dir M)) fun e K f=>?_
 have q:Calls _ _ _ _ (dW (ie dir M.code (cQ dir M)) J):=mu (dir:=dir) (c:=M.code) q0 (n).rd hlen
 rw[f] at q
 refine L0<|Oc<|e2 (q) fun L a0 a N=>Pl 3<|L0<|bH mZ fun a1 a2 O P Q=>L0<|b7 (hz:=(by rw[a.size];exact aI)) (hv:=a.size) (h1:=a.one) P (L) fun a3 R S=>Pl 1<|nt<|sq<|sg<|Pl 3<|?_
 have r:=ud Q S O
 have i:=aD N r
 have s:=aD o i
 have t:=aD g s
 refine bl 22 ((K != 0)) (fun b=>?_) (fun b=>?_)
 have T:=ay b
 refine Pl 5<|nt<|c1<|sg<|Pl 2<|nt<|rt<|tr<|rr (.tuple #[.slice none 0 0,.int .i64 1])<|?_
 refine cn (jg f b) ?_
 exact⟨rfl,t⟩
 have T:=ag b
 refine L1<|bM (hz:=(by rw[a.size];exact aI)) R<|?_
 refine L1<|bM (ub i p)<|?_
 refine L1<|Oc<|m1 (gr (A:=e) (B:=M) (aH.upd a r aG) (aH.old l s)) fun a4 u=>Pl 2<|nt<|?_
 have v:=aD t u
 refine cb ((!(decide (e=M)))) (fun j=>?_) (fun j=>?_)
 have d:(decide (e=M))=false:=by simpa using j
 have U:=of_decide_eq_false d
 refine sg<|Pl 2<|nt<|rt<|tr<|rr (.tuple #[.slice none 0 0,.int .i64 1])<|?_
 refine cn (jc f d) ?_
 exact⟨rfl,v⟩
 have d:(decide (e=M))=true:=by simpa using j
 have U:=of_decide_eq_true d
 refine bi<|sg<|Pl 3<|nt<|rt<|rr (.tuple #[.slice H ((cQ dir M).length) I,.int .i64 0])<|?_
 refine cn (ia f b d) ?_
 exact⟨_,rfl,(aS.weaken (aq n (aD i u) (fun x hx=>aA) (fun _ _ h=>h)) g.size),v⟩
theorem jW{m:Md}{cs:Array Value}{M:aO}{w:World}{dir:Int}(h:aH m w cs.toList M)(hf:bR M)(hlen:(cV dir M).length≤1048576) : Calls Tryz.prog 145 #[.int .i64 dir,.agg cs] w (dw (bh fD cV dir M) w):=by
 have hM:=h
 obtain⟨vw,vb,vd,vr,vo,h0,hw,hbt,hd,hr,ho,hR⟩:=h
 obtain rfl:cs=(bt M vw vb vd vr vo).toArray:=by apply Array.toList_inj.1;simpa using h0
 clear h0
 obtain⟨Aw,kw,rfl,_,_⟩:=hw.shape
 obtain⟨Ab,kb,rfl,_,_⟩:=hbt.shape
 obtain⟨Ad,kd,rfl,_,_⟩:=hd.shape
 obtain⟨Ar,kr,rfl,_,_⟩:=hr.shape
 obtain⟨Ao,ko,rfl,_,_⟩:=ho.shape
 obtain⟨q0,q1,q2,q3,q4,q5,q6,q7,q8,q9,y,z,C,D,E,F,G⟩:=hR
 simp only[B8,dr] at q0 q1 q2 q3 q4 q5 q6 q7 q8 q9 y z C D E F G
 refine en 29 Tryz.func145 rfl<|sg<|L0<|dq (mG M.code M.fail M.addr M.count M.value M.and_ M.or_ M.addr2 M.sub M.status M.events M.messages (.slice Aw M.words.length kw) (.slice Ab M.bits.length kb) (.slice Ad M.data.length kd) (.slice Ar M.recs.length kr) M.mei M.kind M.level M.more M.next (.slice Ao M.objects.length ko)) fun V W X k g=>Pl 2<|ng<|Pl 1<|L0<|bM k<|?_
 have l:=aH.old hM g
 refine L0<|Oc<|du (rW (dir:=dir) l hf) fun H I J n Y Z o=>Pl 1<|ng<|Pl 2<|?_
 have p:=ub o k
 refine L0<|aN p 0<|Pl 1<|?_
 refine pr (fD dir M.code (cV dir M)) fun e K f=>?_
 have q:Calls _ _ _ _ (dW (fD dir M.code (cV dir M)) J):=kk (dir:=dir) (c:=M.code) q0 (n).rd hlen
 rw[f] at q
 refine L0<|Oc<|e2 (q) fun L a0 a N=>Pl 3<|L0<|bH mZ fun a1 a2 O P Q=>L0<|b7 (hz:=(by rw[a.size];exact aI)) (hv:=a.size) (h1:=a.one) P (L) fun a3 R S=>Pl 1<|nt<|sq<|sg<|Pl 3<|?_
 have r:=ud Q S O
 have i:=aD N r
 have s:=aD o i
 have t:=aD g s
 refine bl 22 ((K != 0)) (fun b=>?_) (fun b=>?_)
 have T:=ay b
 refine Pl 5<|nt<|c1<|sg<|Pl 2<|nt<|rt<|tr<|rr (.tuple #[.slice none 0 0,.int .i64 1])<|?_
 refine cn (jg f b) ?_
 exact⟨rfl,t⟩
 have T:=ag b
 refine L1<|bM (hz:=(by rw[a.size];exact aI)) R<|?_
 refine L1<|bM (ub i p)<|?_
 refine L1<|Oc<|m1 (gr (A:=e) (B:=M) (aH.upd a r aG) (aH.old l s)) fun a4 u=>Pl 2<|nt<|?_
 have v:=aD t u
 refine cb ((!(decide (e=M)))) (fun j=>?_) (fun j=>?_)
 have d:(decide (e=M))=false:=by simpa using j
 have U:=of_decide_eq_false d
 refine sg<|Pl 2<|nt<|rt<|tr<|rr (.tuple #[.slice none 0 0,.int .i64 1])<|?_
 refine cn (jc f d) ?_
 exact⟨rfl,v⟩
 have d:(decide (e=M))=true:=by simpa using j
 have U:=of_decide_eq_true d
 refine bi<|sg<|Pl 3<|nt<|rt<|rr (.tuple #[.slice H ((cV dir M).length) I,.int .i64 0])<|?_
 refine cn (ia f b d) ?_
 exact⟨_,rfl,(aS.weaken (aq n (aD i u) (fun x hx=>aA) (fun _ _ h=>h)) g.size),v⟩
open Go.RowKit
def gh:Nat→Int→aO→Option (List Int)
  | 1,dir,M=>bh fw bL dir M
  | 2,dir,M=>bh gt bF dir M
  | 3,dir,M=>bh gz bI dir M
  | 4,dir,M=>bh fD cV dir M
  | 5,dir,M=>bh ie cQ dir M
  | _,_,_=>none
def cz (dir:Int)(M:aO) : Option (List Int) :=
  if M.fail != 0 then (if dir != 1 then none else jM M)
  else match gh (iP M.code) dir M with
    | none=>none
    | some l=>if decide (253≤(l.length:Int)) then none else some ([M.code]++l)
theorem kV:∀ (L:List Obj),(∀ r,r∈L→r.value.length≤1024)→(eT L).length≤1026*L.length
  | [],_=>by simp[eT]
  | r :: L,h=>by
    have h1:=h r (by simp)
    have h2:=kV L fun x hx=>h x (by simp[hx])
    simp only[eT,List.length_append,List.length_cons,List.length_nil]
    omega
theorem l8(dir c:Int) : ∀ (L:List dc),(∀ r,r∈L→r.words.length≤1024)→(cX dir c L).length≤2064*L.length
  | [],_=>by simp[cX]
  | r :: L,h=>by
    have h1:=h r (by simp)
    have h2:=l8 dir c L fun x hx=>h x (by simp[hx])
    simp only[cX,jd]
    repeat' split
    all_goals simp only[List.length_append,List.length_cons,List.length_nil,az]
    all_goals omega
theorem eU{M:aO}(hf:bR M)(dir:Int) : (bL dir M).length≤1048576∧(bF dir M).length≤1048576∧(bI dir M).length≤1048576∧(cQ dir M).length≤1048576∧(cV dir M).length≤1048576:=by
  have hp:(bK M.bits).length≤1024:=by
    have:=hf.bits
    simp only[bK,List.length_map,List.length_range,dE]
    omega
  have h1:=hf.words
  have h2:=hf.data
  have h3:=hf.objects
  have h4:=kV M.objects hf.objv
  have h5:=l8 dir M.code M.recs hf.recw
  have h6:=hf.recs
  refine⟨?_,?_,?_,?_,?_⟩
  · unfold bL
    repeat' split
    all_goals simp only[List.length_append,List.length_cons,List.length_nil,az]
    all_goals omega
  · unfold bF
    repeat' split
    all_goals simp only[List.length_append,List.length_cons,List.length_nil,az]
    all_goals omega
  · unfold bI
    repeat' split
    all_goals simp only[List.length_append,List.length_cons,List.length_nil,az]
    all_goals omega
  · unfold cQ
    repeat' split
    all_goals simp only[List.length_append,List.length_cons,List.length_nil]
    all_goals omega
  · unfold cV
    simp only[List.length_set,List.length_append,List.length_cons,List.length_nil]
    omega
theorem mA{m:Md}{cs:Array Value}{M:aO}{w:World}{dir:Int}(h:aH m w cs.toList M)(hf:bR M) : Calls Tryz.prog 28 #[.int .i64 dir,.agg cs] w (dw (cz dir M) w):=by
 have hM:=h
 obtain⟨vw,vb,vd,vr,vo,h0,hw,hbt,hd,hr,ho,hR⟩:=h
 obtain rfl:cs=(bt M vw vb vd vr vo).toArray:=by apply Array.toList_inj.1;simpa using h0
 clear h0
 obtain⟨Aw,kw,rfl,_,_⟩:=hw.shape
 obtain⟨Ab,kb,rfl,_,_⟩:=hbt.shape
 obtain⟨Ad,kd,rfl,_,_⟩:=hd.shape
 obtain⟨Ar,kr,rfl,_,_⟩:=hr.shape
 obtain⟨Ao,ko,rfl,_,_⟩:=ho.shape
 obtain⟨q0,q1,q2,q3,q4,q5,q6,q7,q8,q9,ai,aj,c,ak,al,am,an⟩:=hR
 simp only[B8,dr] at q0 q1 q2 q3 q4 q5 q6 q7 q8 q9 ai aj c ak al am an
 refine en 47 Tryz.func28 rfl<|sg<|L0<|dq (mG M.code M.fail M.addr M.count M.value M.and_ M.or_ M.addr2 M.sub M.status M.events M.messages (.slice Aw M.words.length kw) (.slice Ab M.bits.length kb) (.slice Ad M.data.length kd) (.slice Ar M.recs.length kr) M.mei M.kind M.level M.more M.next (.slice Ao M.objects.length ko)) fun ck f cl d b=>Pl 2<|nt<|sq<|sg<|Pl 1<|L0<|aN d 1<|Pl 1<|nl<|?_
 refine tn<|cb ((M.fail != 0)) (fun a=>?_) (fun a=>?_)
 have ao:=ay a
 refine sq<|sg<|Pl 2<|nt<|cb ((dir != 1)) (fun c=>?_) (fun c=>?_)
 have ap:=ay c
 refine sg<|Pl 2<|nt<|rt<|tr<|tr<|rr (.tuple #[.slice none 0 0,.int .i64 1])<|?_
 have hs:cz dir M=none:=by
   unfold cz
   (try simp only[a,c,bs,if_true,if_false,decide_true,decide_false,reduceIte])
   all_goals rfl
 refine dQ hs ?_
 exact⟨rfl,b⟩
 have ap:=ag c
 refine bi<|sg<|L0<|bM d<|?_
 rcases hwr:jM M with _|lw
 have E:=mK (aH.old hM b)
 rw[hwr] at E
 refine L0<|Oc<|m1 E fun cm ar=>Pl 4<|nt<|rt<|tr<|rr (.tuple #[.slice none 0 0,.int .i64 1])<|?_
 have hs:cz dir M=none:=by
   unfold cz
   (try simp only[a,c,bs,if_true,if_false,decide_true,decide_false,hwr,reduceIte])
   all_goals rfl
 refine dQ hs ?_
 exact⟨rfl,(aD b ar)⟩
 have F:=mK (aH.old hM b)
 rw[hwr] at F
 refine L0<|Oc<|du F fun aw aB cn aC co cp aE=>Pl 4<|nt<|rt<|tr<|rr (.tuple #[.slice aw lw.length aB,.int .i64 0])<|?_
 have hs:cz dir M=(some lw):=by
   unfold cz
   (try simp only[a,c,bs,if_true,if_false,decide_true,decide_false,hwr,reduceIte])
   all_goals rfl
 refine dQ hs ?_
 exact⟨_,rfl,(aS.weaken aC b.size),(aD b aE)⟩
 have ao:=ag a
 refine bi<|sg<|Pl 1<|L0<|aN d 0<|?_
 rcases gA M.code with⟨hk,hkf⟩|⟨hk,hkf⟩|⟨hk,hkf⟩|⟨hk,hkf⟩|⟨hk,hkf⟩|⟨hk,hkf⟩
 have G:=fd (x:=M.code) (w:=f)
 rw[hkf] at G
 refine L0<|Oc<|m1 G fun cq aF=>Pl 3<|L0<|bH #[.nilFunc,.nilFunc] fun cr ct aG aI aJ=>L0<|b7 aI #[.func (.func 138) #[] #[],.func (.func 139) #[] #[]] fun cu aL aM=>Pl 1<|nt<|sq<|sg<|Pl 2<|nt<|c0<|?_
 refine bi<|sg<|Pl 1<|L0<|aN aL 1<|Pl 1<|?_
 have H:=aD aF (ud aJ aM aG)
 have I:=ub H d
 refine L0<|bM I<|?_
 have n:=aD b H
 rcases hwr:bh fw bL dir M with _|lw
 have J:=ka (dir:=dir) (aH.old hM n) hf (eU hf dir).1
 rw[hwr] at J
 refine L0<|i2 #[] #[] (args:=#[.int .i64 dir,.agg (mG M.code M.fail M.addr M.count M.value M.and_ M.or_ M.addr2 M.sub M.status M.events M.messages (.slice Aw M.words.length kw) (.slice Ab M.bits.length kb) (.slice Ad M.data.length kd) (.slice Ar M.recs.length kr) M.mei M.kind M.level M.more M.next (.slice Ao M.objects.length ko))])<|m1 J fun cv aQ=>Pl 5<|nt<|sq<|sg<|Pl 7<|nt<|c1<|sg<|Pl 2<|nl<|?_
 refine tn<|rt<|tr<|rr (.tuple #[.slice none 0 0,.int .i64 1])<|?_
 have hs:cz dir M=none:=by
   unfold cz
   (try simp only[a,bs,if_true,if_false,decide_true,decide_false,hkf,gh,hwr,reduceIte])
   all_goals rfl
 refine dQ hs ?_
 exact⟨rfl,(aD n aQ)⟩
 have K:=ka (dir:=dir) (aH.old hM n) hf (eU hf dir).1
 rw[hwr] at K
 refine L0<|i2 #[] #[] (args:=#[.int .i64 dir,.agg (mG M.code M.fail M.addr M.count M.value M.and_ M.or_ M.addr2 M.sub M.status M.events M.messages (.slice Aw M.words.length kw) (.slice Ab M.bits.length kb) (.slice Ad M.data.length kd) (.slice Ar M.recs.length kr) M.mei M.kind M.level M.more M.next (.slice Ao M.objects.length ko))])<|du K fun cw cx cy aR cA cB L=>Pl 5<|nt<|sq<|sg<|Pl 7<|nt<|?_
 have s:=aD n L
 refine cb ((decide (253≤((lw.length:Nat) : Int)))) (fun g=>?_) (fun g=>?_)
 have aT:=of_decide_eq_true g
 refine sg<|Pl 2<|nt<|rt<|tr<|rr (.tuple #[.slice none 0 0,.int .i64 1])<|?_
 have hs:cz dir M=none:=by
   unfold cz
   (try simp only[a,g,bs,if_true,if_false,decide_true,decide_false,hkf,gh,hwr,reduceIte])
   all_goals rfl
 refine dQ hs ?_
 exact⟨rfl,s⟩
 have aT:=of_decide_eq_false g
 refine bi<|sg<|Pl 1<|?_
 refine L0<|aN (ub L I) 0<|L0<|cL (m:=1) (e:=5) #[.int .u8 M.code] fun cC cD aU aV t=>?_
 have N:=cG aU (xs:=[M.code]) (by as_aux_lemma=>kernel_rfl) (au (by omega) aK) (by(try simp only[List.length_cons,List.length_nil]);omega) aV
 refine Pl 1<|?_
 refine L0<|bS aZ (xs:=([M.code])) (ys:=lw) (.int .u8 0) 1 N ((aq aR t (fun x hx=>aA) (fun _ _ h=>h))).rd (by(try simp only[List.length_append,List.length_cons,List.length_nil,az]);omega) t.size fun aW aX cE aY b0=>Pl 2<|nt<|rt<|rr (.tuple #[.slice aW (([M.code]++lw).length) aX,.int .i64 0])<|?_
 have hs:cz dir M=(some ([M.code]++lw)):=by
   unfold cz
   (try simp only[a,g,bs,if_true,if_false,decide_true,decide_false,hkf,gh,hwr,reduceIte])
   all_goals rfl
 refine dQ hs ?_
 exact⟨_,rfl,(aS.weaken aY s.size),(aD s (ut t b0 (av (aP N lr) ax)))⟩
 have O:=fd (x:=M.code) (w:=f)
 rw[hkf] at O
 refine L0<|Oc<|m1 O fun cF b1=>Pl 3<|L0<|bH #[.nilFunc,.nilFunc] fun cH cI b2 b3 b4=>L0<|b7 b3 #[.func (.func 140) #[] #[],.func (.func 141) #[] #[]] fun cJ b5 b6=>Pl 1<|nt<|sq<|sg<|Pl 2<|nt<|c0<|?_
 refine bi<|sg<|Pl 1<|L0<|aN b5 1<|Pl 1<|?_
 have P:=aD b1 (ud b4 b6 b2)
 have Q:=ub P d
 refine L0<|bM Q<|?_
 have o:=aD b P
 rcases hwr:bh gt bF dir M with _|lw
 have R:=kZ (dir:=dir) (aH.old hM o) hf (eU hf dir).2.1
 rw[hwr] at R
 refine L0<|i2 #[] #[] (args:=#[.int .i64 dir,.agg (mG M.code M.fail M.addr M.count M.value M.and_ M.or_ M.addr2 M.sub M.status M.events M.messages (.slice Aw M.words.length kw) (.slice Ab M.bits.length kb) (.slice Ad M.data.length kd) (.slice Ar M.recs.length kr) M.mei M.kind M.level M.more M.next (.slice Ao M.objects.length ko))])<|m1 R fun cK b8=>Pl 5<|nt<|sq<|sg<|Pl 7<|nt<|c1<|sg<|Pl 2<|nl<|?_
 refine tn<|rt<|tr<|rr (.tuple #[.slice none 0 0,.int .i64 1])<|?_
 have hs:cz dir M=none:=by
   unfold cz
   (try simp only[a,bs,if_true,if_false,decide_true,decide_false,hkf,gh,hwr,reduceIte])
   all_goals rfl
 refine dQ hs ?_
 exact⟨rfl,(aD o b8)⟩
 have S:=kZ (dir:=dir) (aH.old hM o) hf (eU hf dir).2.1
 rw[hwr] at S
 refine L0<|i2 #[] #[] (args:=#[.int .i64 dir,.agg (mG M.code M.fail M.addr M.count M.value M.and_ M.or_ M.addr2 M.sub M.status M.events M.messages (.slice Aw M.words.length kw) (.slice Ab M.bits.length kb) (.slice Ad M.data.length kd) (.slice Ar M.recs.length kr) M.mei M.kind M.level M.more M.next (.slice Ao M.objects.length ko))])<|du S fun cM cN cO b9 cP cR T=>Pl 5<|nt<|sq<|sg<|Pl 7<|nt<|?_
 have u:=aD o T
 refine cb ((decide (253≤((lw.length:Nat) : Int)))) (fun i=>?_) (fun i=>?_)
 have ba:=of_decide_eq_true i
 refine sg<|Pl 2<|nt<|rt<|tr<|rr (.tuple #[.slice none 0 0,.int .i64 1])<|?_
 have hs:cz dir M=none:=by
   unfold cz
   (try simp only[a,i,bs,if_true,if_false,decide_true,decide_false,hkf,gh,hwr,reduceIte])
   all_goals rfl
 refine dQ hs ?_
 exact⟨rfl,u⟩
 have ba:=of_decide_eq_false i
 refine bi<|sg<|Pl 1<|?_
 refine L0<|aN (ub T Q) 0<|L0<|cL (m:=1) (e:=5) #[.int .u8 M.code] fun cS cT bb bc v=>?_
 have U:=cG bb (xs:=[M.code]) (by as_aux_lemma=>kernel_rfl) (au (by omega) aK) (by(try simp only[List.length_cons,List.length_nil]);omega) bc
 refine Pl 1<|?_
 refine L0<|bS aZ (xs:=([M.code])) (ys:=lw) (.int .u8 0) 1 U ((aq b9 v (fun x hx=>aA) (fun _ _ h=>h))).rd (by(try simp only[List.length_append,List.length_cons,List.length_nil,az]);omega) v.size fun bd be cU bf bg=>Pl 2<|nt<|rt<|rr (.tuple #[.slice bd (([M.code]++lw).length) be,.int .i64 0])<|?_
 have hs:cz dir M=(some ([M.code]++lw)):=by
   unfold cz
   (try simp only[a,i,bs,if_true,if_false,decide_true,decide_false,hkf,gh,hwr,reduceIte])
   all_goals rfl
 refine dQ hs ?_
 exact⟨_,rfl,(aS.weaken bf u.size),(aD u (ut v bg (av (aP U lr) ax)))⟩
 have V:=fd (x:=M.code) (w:=f)
 rw[hkf] at V
 refine L0<|Oc<|m1 V fun cW bj=>Pl 3<|L0<|bH #[.nilFunc,.nilFunc] fun cX cY bk bl bm=>L0<|b7 bl #[.func (.func 142) #[] #[],.func (.func 143) #[] #[]] fun cZ bn bo=>Pl 1<|nt<|sq<|sg<|Pl 2<|nt<|c0<|?_
 refine bi<|sg<|Pl 1<|L0<|aN bn 1<|Pl 1<|?_
 have W:=aD bj (ud bm bo bk)
 have X:=ub W d
 refine L0<|bM X<|?_
 have p:=aD b W
 rcases hwr:bh gz bI dir M with _|lw
 have Y:=lA (dir:=dir) (aH.old hM p) hf (eU hf dir).2.2.1
 rw[hwr] at Y
 refine L0<|i2 #[] #[] (args:=#[.int .i64 dir,.agg (mG M.code M.fail M.addr M.count M.value M.and_ M.or_ M.addr2 M.sub M.status M.events M.messages (.slice Aw M.words.length kw) (.slice Ab M.bits.length kb) (.slice Ad M.data.length kd) (.slice Ar M.recs.length kr) M.mei M.kind M.level M.more M.next (.slice Ao M.objects.length ko))])<|m1 Y fun d0 bp=>Pl 5<|nt<|sq<|sg<|Pl 7<|nt<|c1<|sg<|Pl 2<|nl<|?_
 refine tn<|rt<|tr<|rr (.tuple #[.slice none 0 0,.int .i64 1])<|?_
 have hs:cz dir M=none:=by
   unfold cz
   (try simp only[a,bs,if_true,if_false,decide_true,decide_false,hkf,gh,hwr,reduceIte])
   all_goals rfl
 refine dQ hs ?_
 exact⟨rfl,(aD p bp)⟩
 have Z:=lA (dir:=dir) (aH.old hM p) hf (eU hf dir).2.2.1
 rw[hwr] at Z
 refine L0<|i2 #[] #[] (args:=#[.int .i64 dir,.agg (mG M.code M.fail M.addr M.count M.value M.and_ M.or_ M.addr2 M.sub M.status M.events M.messages (.slice Aw M.words.length kw) (.slice Ab M.bits.length kb) (.slice Ad M.data.length kd) (.slice Ar M.recs.length kr) M.mei M.kind M.level M.more M.next (.slice Ao M.objects.length ko))])<|du Z fun d1 d2 d3 bq d4 d5 a0=>Pl 5<|nt<|sq<|sg<|Pl 7<|nt<|?_
 have y:=aD p a0
 refine cb ((decide (253≤((lw.length:Nat) : Int)))) (fun j=>?_) (fun j=>?_)
 have br:=of_decide_eq_true j
 refine sg<|Pl 2<|nt<|rt<|tr<|rr (.tuple #[.slice none 0 0,.int .i64 1])<|?_
 have hs:cz dir M=none:=by
   unfold cz
   (try simp only[a,j,bs,if_true,if_false,decide_true,decide_false,hkf,gh,hwr,reduceIte])
   all_goals rfl
 refine dQ hs ?_
 exact⟨rfl,y⟩
 have br:=of_decide_eq_false j
 refine bi<|sg<|Pl 1<|?_
 refine L0<|aN (ub a0 X) 0<|L0<|cL (m:=1) (e:=5) #[.int .u8 M.code] fun d6 d7 bu bv z=>?_
 have a1:=cG bu (xs:=[M.code]) (by as_aux_lemma=>kernel_rfl) (au (by omega) aK) (by(try simp only[List.length_cons,List.length_nil]);omega) bv
 refine Pl 1<|?_
 refine L0<|bS aZ (xs:=([M.code])) (ys:=lw) (.int .u8 0) 1 a1 ((aq bq z (fun x hx=>aA) (fun _ _ h=>h))).rd (by(try simp only[List.length_append,List.length_cons,List.length_nil,az]);omega) z.size fun bw bx d8 bz bA=>Pl 2<|nt<|rt<|rr (.tuple #[.slice bw (([M.code]++lw).length) bx,.int .i64 0])<|?_
 have hs:cz dir M=(some ([M.code]++lw)):=by
   unfold cz
   (try simp only[a,j,bs,if_true,if_false,decide_true,decide_false,hkf,gh,hwr,reduceIte])
   all_goals rfl
 refine dQ hs ?_
 exact⟨_,rfl,(aS.weaken bz y.size),(aD y (ut z bA (av (aP a1 lr) ax)))⟩
 have a2:=fd (x:=M.code) (w:=f)
 rw[hkf] at a2
 refine L0<|Oc<|m1 a2 fun d9 bB=>Pl 3<|L0<|bH #[.nilFunc,.nilFunc] fun da db bC bD bE=>L0<|b7 bD #[.func (.func 144) #[] #[],.func (.func 145) #[] #[]] fun dc bG bJ=>Pl 1<|nt<|sq<|sg<|Pl 2<|nt<|c0<|?_
 refine bi<|sg<|Pl 1<|L0<|aN bG 1<|Pl 1<|?_
 have a3:=aD bB (ud bE bJ bC)
 have a4:=ub a3 d
 refine L0<|bM a4<|?_
 have q:=aD b a3
 rcases hwr:bh fD cV dir M with _|lw
 have a5:=jW (dir:=dir) (aH.old hM q) hf (eU hf dir).2.2.2.2
 rw[hwr] at a5
 refine L0<|i2 #[] #[] (args:=#[.int .i64 dir,.agg (mG M.code M.fail M.addr M.count M.value M.and_ M.or_ M.addr2 M.sub M.status M.events M.messages (.slice Aw M.words.length kw) (.slice Ab M.bits.length kb) (.slice Ad M.data.length kd) (.slice Ar M.recs.length kr) M.mei M.kind M.level M.more M.next (.slice Ao M.objects.length ko))])<|m1 a5 fun dd bK=>Pl 5<|nt<|sq<|sg<|Pl 7<|nt<|c1<|sg<|Pl 2<|nl<|?_
 refine tn<|rt<|tr<|rr (.tuple #[.slice none 0 0,.int .i64 1])<|?_
 have hs:cz dir M=none:=by
   unfold cz
   (try simp only[a,bs,if_true,if_false,decide_true,decide_false,hkf,gh,hwr,reduceIte])
   all_goals rfl
 refine dQ hs ?_
 exact⟨rfl,(aD q bK)⟩
 have a6:=jW (dir:=dir) (aH.old hM q) hf (eU hf dir).2.2.2.2
 rw[hwr] at a6
 refine L0<|i2 #[] #[] (args:=#[.int .i64 dir,.agg (mG M.code M.fail M.addr M.count M.value M.and_ M.or_ M.addr2 M.sub M.status M.events M.messages (.slice Aw M.words.length kw) (.slice Ab M.bits.length kb) (.slice Ad M.data.length kd) (.slice Ar M.recs.length kr) M.mei M.kind M.level M.more M.next (.slice Ao M.objects.length ko))])<|du a6 fun de df dg bN dh di a7=>Pl 5<|nt<|sq<|sg<|Pl 7<|nt<|?_
 have A:=aD q a7
 refine cb ((decide (253≤((lw.length:Nat) : Int)))) (fun k=>?_) (fun k=>?_)
 have bO:=of_decide_eq_true k
 refine sg<|Pl 2<|nt<|rt<|tr<|rr (.tuple #[.slice none 0 0,.int .i64 1])<|?_
 have hs:cz dir M=none:=by
   unfold cz
   (try simp only[a,k,bs,if_true,if_false,decide_true,decide_false,hkf,gh,hwr,reduceIte])
   all_goals rfl
 refine dQ hs ?_
 exact⟨rfl,A⟩
 have bO:=of_decide_eq_false k
 refine bi<|sg<|Pl 1<|?_
 refine L0<|aN (ub a7 a4) 0<|L0<|cL (m:=1) (e:=5) #[.int .u8 M.code] fun dj dk bP bQ B=>?_
 have a8:=cG bP (xs:=[M.code]) (by as_aux_lemma=>kernel_rfl) (au (by omega) aK) (by(try simp only[List.length_cons,List.length_nil]);omega) bQ
 refine Pl 1<|?_
 refine L0<|bS aZ (xs:=([M.code])) (ys:=lw) (.int .u8 0) 1 a8 ((aq bN B (fun x hx=>aA) (fun _ _ h=>h))).rd (by(try simp only[List.length_append,List.length_cons,List.length_nil,az]);omega) B.size fun bT bU dl bV bW=>Pl 2<|nt<|rt<|rr (.tuple #[.slice bT (([M.code]++lw).length) bU,.int .i64 0])<|?_
 have hs:cz dir M=(some ([M.code]++lw)):=by
   unfold cz
   (try simp only[a,k,bs,if_true,if_false,decide_true,decide_false,hkf,gh,hwr,reduceIte])
   all_goals rfl
 refine dQ hs ?_
 exact⟨_,rfl,(aS.weaken bV A.size),(aD A (ut B bW (av (aP a8 lr) ax)))⟩
 have a9:=fd (x:=M.code) (w:=f)
 rw[hkf] at a9
 refine L0<|Oc<|m1 a9 fun dm bX=>Pl 3<|L0<|bH #[.nilFunc,.nilFunc] fun dn dp bY bZ c2=>L0<|b7 bZ #[.func (.func 146) #[] #[],.func (.func 147) #[] #[]] fun ds c3 c4=>Pl 1<|nt<|sq<|sg<|Pl 2<|nt<|c0<|?_
 refine bi<|sg<|Pl 1<|L0<|aN c3 1<|Pl 1<|?_
 have aa:=aD bX (ud c2 c4 bY)
 have ab:=ub aa d
 refine L0<|bM ab<|?_
 have r:=aD b aa
 rcases hwr:bh ie cQ dir M with _|lw
 have ac:=mJ (dir:=dir) (aH.old hM r) hf (eU hf dir).2.2.2.1
 rw[hwr] at ac
 refine L0<|i2 #[] #[] (args:=#[.int .i64 dir,.agg (mG M.code M.fail M.addr M.count M.value M.and_ M.or_ M.addr2 M.sub M.status M.events M.messages (.slice Aw M.words.length kw) (.slice Ab M.bits.length kb) (.slice Ad M.data.length kd) (.slice Ar M.recs.length kr) M.mei M.kind M.level M.more M.next (.slice Ao M.objects.length ko))])<|m1 ac fun dt c5=>Pl 5<|nt<|sq<|sg<|Pl 7<|nt<|c1<|sg<|Pl 2<|nl<|?_
 refine tn<|rt<|tr<|rr (.tuple #[.slice none 0 0,.int .i64 1])<|?_
 have hs:cz dir M=none:=by
   unfold cz
   (try simp only[a,bs,if_true,if_false,decide_true,decide_false,hkf,gh,hwr,reduceIte])
   all_goals rfl
 refine dQ hs ?_
 exact⟨rfl,(aD r c5)⟩
 have ad:=mJ (dir:=dir) (aH.old hM r) hf (eU hf dir).2.2.2.1
 rw[hwr] at ad
 refine L0<|i2 #[] #[] (args:=#[.int .i64 dir,.agg (mG M.code M.fail M.addr M.count M.value M.and_ M.or_ M.addr2 M.sub M.status M.events M.messages (.slice Aw M.words.length kw) (.slice Ab M.bits.length kb) (.slice Ad M.data.length kd) (.slice Ar M.recs.length kr) M.mei M.kind M.level M.more M.next (.slice Ao M.objects.length ko))])<|du ad fun dv dx dy c6 dz dA ae=>Pl 5<|nt<|sq<|sg<|Pl 7<|nt<|?_
 have C:=aD r ae
 refine cb ((decide (253≤((lw.length:Nat) : Int)))) (fun l=>?_) (fun l=>?_)
 have c7:=of_decide_eq_true l
 refine sg<|Pl 2<|nt<|rt<|tr<|rr (.tuple #[.slice none 0 0,.int .i64 1])<|?_
 have hs:cz dir M=none:=by
   unfold cz
   (try simp only[a,l,bs,if_true,if_false,decide_true,decide_false,hkf,gh,hwr,reduceIte])
   all_goals rfl
 refine dQ hs ?_
 exact⟨rfl,C⟩
 have c7:=of_decide_eq_false l
 refine bi<|sg<|Pl 1<|?_
 refine L0<|aN (ub ae ab) 0<|L0<|cL (m:=1) (e:=5) #[.int .u8 M.code] fun dB dC c8 c9 D=>?_
 have af:=cG c8 (xs:=[M.code]) (by as_aux_lemma=>kernel_rfl) (au (by omega) aK) (by(try simp only[List.length_cons,List.length_nil]);omega) c9
 refine Pl 1<|?_
 refine L0<|bS aZ (xs:=([M.code])) (ys:=lw) (.int .u8 0) 1 af ((aq c6 D (fun x hx=>aA) (fun _ _ h=>h))).rd (by(try simp only[List.length_append,List.length_cons,List.length_nil,az]);omega) D.size fun ca cc dD cd ce=>Pl 2<|nt<|rt<|rr (.tuple #[.slice ca (([M.code]++lw).length) cc,.int .i64 0])<|?_
 have hs:cz dir M=(some ([M.code]++lw)):=by
   unfold cz
   (try simp only[a,l,bs,if_true,if_false,decide_true,decide_false,hkf,gh,hwr,reduceIte])
   all_goals rfl
 refine dQ hs ?_
 exact⟨_,rfl,(aS.weaken cd C.size),(aD C (ut D ce (av (aP af lr) ax)))⟩
 have ah:=fd (x:=M.code) (w:=f)
 rw[hkf] at ah
 refine L0<|Oc<|m1 ah fun dE cf=>Pl 3<|L0<|bH #[.nilFunc,.nilFunc] fun dF dG cg ch ci=>L0<|b7 ch #[.nilFunc,.nilFunc] fun dH dI cj=>Pl 1<|nt<|sq<|sg<|Pl 2<|nt<|c1<|?_
 refine sg<|Pl 2<|nt<|rt<|tr<|rr (.tuple #[.slice none 0 0,.int .i64 1])<|?_
 have hs:cz dir M=none:=by
   unfold cz
   (try simp only[a,bs,if_true,if_false,decide_true,decide_false,hkf,gh,reduceIte])
   all_goals rfl
 refine dQ hs ?_
 exact⟨rfl,(aD b (aD cf (ud ci cj cg)))⟩
open Go.RowKit
theorem iI{x y:aO × Int}(h:x=y){w:World}{e:Ending}{w':World}(k:dW y w e w') : dW x w e w':=by rw[h];exact k
def i7:Nat→Int→List Int→aO × Int
  | 1,dir,b=>ai aE dir (b.getD 0 0) (b.drop 1)
  | 2,dir,b=>ai aM dir (b.getD 0 0) (b.drop 1)
  | 3,dir,b=>ai aV dir (b.getD 0 0) (b.drop 1)
  | 4,dir,b=>ai aX dir (b.getD 0 0) (b.drop 1)
  | 5,dir,b=>ai bD dir (b.getD 0 0) (b.drop 1)
  | _,_,_=>(aO.zero,4)
def cC (dir:Int)(b:List Int) : aO × Int :=
  if dir != 0&&dir != 1 then (aO.zero,1)
  else if (b.length:Int)==0 then (aO.zero,2)
  else if decide (253<(b.length:Int)) then (aO.zero,3)
  else if decide (128≤b.getD 0 0)&&dir==1 then eb b
  else i7 (iP (b.getD 0 0)) dir b
theorem pG{m:Md}{A:Option Addr}{cp:Nat}{b:List Int}{w:World}{dir:Int}(hsl:b9 m w (.slice A b.length cp) b)(hb:b.length≤1048576) :
    Calls Tryz.prog 24 #[.int .i64 dir,.slice A b.length cp] w (dW (cC dir b) w):=by
 have hln:(b.length:Int)≤1048576:=by omega
 refine en 60 Tryz.func24 rfl<|sg<|L0<|bH mZ fun dk t h a f=>Pl 1<|nt<|sq<|bk<|sg<|Pl 3<|cu 3 [11] 14 (((dir != 0)&&(dir != 1))) (fun K a2=>?_) ?_
 refine bl 11 ((dir != 0)) (fun u=>?_) (fun u=>?_)
 have bZ:=ay u
 exact Pl 3<|ce a2 (dir != 1) (by rw[u];rfl)
 have bZ:=ag u
 exact Pl 3<|ce a2 false (by rw[u];rfl)
 refine Pl 1<|nt<|cb (((dir != 0)&&(dir != 1))) (fun d=>?_) (fun d=>?_)
 have a3:=(aU d).1
 have a4:=(aU d).2
 have dl:=ay a3
 have dm:=ay a4
 refine sg<|Pl 1<|L0<|b7 a mZ fun dn c2 c3=>Pl 1<|nt<|rt<|br<|tr<|bN c2 (.int .i64 1)<|?_
 have hs:cC dir b=(aO.zero,1):=by
   unfold cC
   (try simp only[d,a3,a4,bs,if_true,if_false,decide_true,decide_false,i7,reduceIte])
   all_goals rfl
 refine iI hs ?_
 exact cw (ud f c3 h)
 refine sg<|Pl 4<|nt<|cb ((((b.length:Nat) : Int)==0)) (fun e=>?_) (fun e=>?_)
 have c4:=ah e
 refine sg<|Pl 1<|L0<|b7 a mZ fun dp c5 c6=>Pl 1<|nt<|rt<|br<|tr<|bN c5 (.int .i64 2)<|?_
 have hs:cC dir b=(aO.zero,2):=by
   unfold cC
   (try simp only[d,e,bs,if_true,if_false,decide_true,decide_false,i7,reduceIte])
   all_goals rfl
 refine iI hs ?_
 exact cw (ud f c6 h)
 have c4:=ak e
 refine sg<|Pl 4<|nt<|cb ((decide (253<((b.length:Nat) : Int)))) (fun g=>?_) (fun g=>?_)
 have c7:=of_decide_eq_true g
 refine sg<|Pl 1<|L0<|b7 a mZ fun dq c8 c9=>Pl 1<|nt<|rt<|br<|tr<|bN c8 (.int .i64 3)<|?_
 have hs:cC dir b=(aO.zero,3):=by
   unfold cC
   (try simp only[d,e,g,bs,if_true,if_false,decide_true,decide_false,i7,reduceIte])
   all_goals rfl
 refine iI hs ?_
 exact cw (ud f c9 h)
 have c7:=of_decide_eq_false g
 refine sg<|Pl 1<|?_
 have s:=b9.old hsl f
 refine gj (b9.at_ s 0 (by omega)) fun a5 a6 a7 a8 dr=>L0<|m0 b.length 0 a7 (by omega)<|L0<|eq (p:=⟨a5,a6+0,none⟩) (v:=.int .u8 (b.getD 0 0)) a8<|Pl 2<|cu 3 [31] 34 (((decide (128≤(b.getD 0 0)))&&(dir==1))) (fun K a9=>?_) ?_
 refine bl 31 ((decide (128≤(b.getD 0 0)))) (fun y=>?_) (fun y=>?_)
 have ca:=of_decide_eq_true y
 exact Pl 3<|ce a9 (dir==1) (by rw[y];rfl)
 have ca:=of_decide_eq_false y
 exact Pl 3<|ce a9 false (by rw[y];rfl)
 refine Pl 1<|nt<|cb (((decide (128≤(b.getD 0 0)))&&(dir==1))) (fun i=>?_) (fun i=>?_)
 have aa:=(aU i).1
 have ab:=(aU i).2
 have ds:=of_decide_eq_true aa
 have dt:=ah ab
 refine sg<|Pl 1<|L0<|Oc<|e2 (rX s (by omega)) fun cc du z ac=>Pl 2<|?_
 have ad:=ub ac a
 refine L0<|b7 (hz:=(by rw[z.size];exact aI)) (hv:=z.size) (h1:=z.one) ad (cc) fun dv cd af=>Pl 1<|nt<|rt<|br<|tr<|eD 22 z.size cd (.int .i64 (((eb b)).2))<|?_
 have hs:cC dir b=(eb b):=by
   unfold cC
   (try simp only[d,e,g,i,aa,ab,bs,if_true,if_false,decide_true,decide_false,i7,reduceIte])
   all_goals rfl
 refine iI hs ?_
 exact⟨_,rfl,(aH.upd z af (ap (aT ad (by decide)) aG)),(ud f (uz ac af) h)⟩
 refine sk<|bn<|tn<|sg<|Pl 1<|L0<|m0 b.length 0 a7 (by omega)<|L0<|eq (p:=⟨a5,a6+0,none⟩) (v:=.int .u8 (b.getD 0 0)) a8<|?_
 rcases gA (b.getD 0 0) with⟨hk,hkf⟩|⟨hk,hkf⟩|⟨hk,hkf⟩|⟨hk,hkf⟩|⟨hk,hkf⟩|⟨hk,hkf⟩
 have aj:=fd (x:=(b.getD 0 0)) (w:=t)
 rw[hkf] at aj
 refine L0<|Oc<|m1 aj fun dw al=>Pl 3<|L0<|bH #[.nilFunc,.nilFunc] fun cf dx an cg ch=>L0<|b7 cg #[.func (.func 138) #[] #[],.func (.func 139) #[] #[]] fun dy ci cj=>Pl 1<|nt<|sq<|sg<|Pl 2<|nt<|c0<|?_
 refine bi<|sq<|?_
 have ao:=aD al (ud ch cj an)
 have aq:=b9.old s ao
 refine gj (b9.at_ aq 0 (by omega)) fun ck cl ar au dz=>Rg 13 (fun w'=>w'.cell? ⟨cf,0,none⟩=some (.func (.func 138) #[] #[])∧w'.cell? ⟨ck,cl+0,none⟩=some (.int .u8 (b.getD 0 0))) fun dA M=>?_
 have av:=ub M ci
 refine bg ⟨(ae av rfl),(uc M au)⟩ fun j=>Rt 0 j<|Rl 1 j (fun _ hs=>hs.1)<|Rt 2 j<|Rt 3 j<|oh 4 j b.length 0 0 rfl ar (by omega)<|Rl 5 j (fun _ hs=>hs.2)<|Rt 6 j<|nF (dR (P:=Tryz.prog) 22 5 1 Tryz.underlying22 rfl rfl A b.length cp 1 (by omega)) fun aw hrun108 cm=>Rr 7 j (.slice aw (b.length-1) (cp-1)) (fun _ _=>ef (kl:=.i64) (k:=((1:Nat) : Int)) (A:=A) (n:=b.length) (c:=cp) rfl Tryz.underlying22 (by kernel_rfl) (by kernel_rfl) (hrun108 _ _))<|?_
 refine R0 8 rfl<|i2 #[] #[] (args:=#[.int .i64 dir,.int .u8 (b.getD 0 0),.slice aw (b.length-1) (cp-1)])<|e2 (jS (dir:=dir) (c:=(b.getD 0 0)) (b8 (by omega)) (cm _ _ _ _ _ (b9.old aq M)) (by(try simp only[List.length_drop]);omega)) fun cn dB B S=>?_
 have ax:=ub S av
 have T:=aD M S
 refine bg ⟨(ae ax rfl),(uc T au)⟩ fun az=>Rt 9 az<|Rt 10 az<|?_
 have aA:=aD ao T
 have aB:=ub aA a
 refine R0 11 rfl<|b7 (hz:=(by rw[B.size];exact aI)) (hv:=B.size) (h1:=B.one) aB (cn) fun dC co C=>?_
 have dD:=uz T C
 have dE:=uz S C
 have aC:=ud f (uz aA C) h
 refine bg ⟨(ae (aW C (Ne.symm (nb (am a) al.size an)) ax) rfl),(cB (b9.old hsl aC) ar 0 (by omega))⟩ fun cq=>Rt 12 cq<|re<|tn<|rt<|eD 22 B.size co (.int .i64 (((ai aE dir (b.getD 0 0) (b.drop 1))).2))<|?_
 have hs:cC dir b=(ai aE dir (b.getD 0 0) (b.drop 1)):=by
   unfold cC
   (try simp only[d,e,g,i,bs,if_true,if_false,decide_true,decide_false,hkf,i7,reduceIte])
   all_goals rfl
 refine iI hs ?_
 exact⟨_,rfl,(aH.upd B C (ap (aT aB (by decide)) aG)),aC⟩
 have aF:=fd (x:=(b.getD 0 0)) (w:=t)
 rw[hkf] at aF
 refine L0<|Oc<|m1 aF fun dF aJ=>Pl 3<|L0<|bH #[.nilFunc,.nilFunc] fun cr dG aK cs ct=>L0<|b7 cs #[.func (.func 140) #[] #[],.func (.func 141) #[] #[]] fun dH cv cx=>Pl 1<|nt<|sq<|sg<|Pl 2<|nt<|c0<|?_
 refine bi<|sq<|?_
 have aL:=aD aJ (ud ct cx aK)
 have aN:=b9.old s aL
 refine gj (b9.at_ aN 0 (by omega)) fun cy cz aP aQ dI=>Rg 13 (fun w'=>w'.cell? ⟨cr,0,none⟩=some (.func (.func 140) #[] #[])∧w'.cell? ⟨cy,cz+0,none⟩=some (.int .u8 (b.getD 0 0))) fun dJ N=>?_
 have aR:=ub N cv
 refine bg ⟨(ae aR rfl),(uc N aQ)⟩ fun l=>Rt 0 l<|Rl 1 l (fun _ hs=>hs.1)<|Rt 2 l<|Rt 3 l<|oh 4 l b.length 0 0 rfl aP (by omega)<|Rl 5 l (fun _ hs=>hs.2)<|Rt 6 l<|nF (dR (P:=Tryz.prog) 22 5 1 Tryz.underlying22 rfl rfl A b.length cp 1 (by omega)) fun aS hrun188 cA=>Rr 7 l (.slice aS (b.length-1) (cp-1)) (fun _ _=>ef (kl:=.i64) (k:=((1:Nat) : Int)) (A:=A) (n:=b.length) (c:=cp) rfl Tryz.underlying22 (by kernel_rfl) (by kernel_rfl) (hrun188 _ _))<|?_
 refine R0 8 rfl<|i2 #[] #[] (args:=#[.int .i64 dir,.int .u8 (b.getD 0 0),.slice aS (b.length-1) (cp-1)])<|e2 (lh (dir:=dir) (c:=(b.getD 0 0)) (b8 (by omega)) (cA _ _ _ _ _ (b9.old aN N)) (by(try simp only[List.length_drop]);omega)) fun cD dK D U=>?_
 have aY:=ub U aR
 have V:=aD N U
 refine bg ⟨(ae aY rfl),(uc V aQ)⟩ fun aZ=>Rt 9 aZ<|Rt 10 aZ<|?_
 have b0:=aD aL V
 have b1:=ub b0 a
 refine R0 11 rfl<|b7 (hz:=(by rw[D.size];exact aI)) (hv:=D.size) (h1:=D.one) b1 (cD) fun dL cE E=>?_
 have dM:=uz V E
 have dN:=uz U E
 have b2:=ud f (uz b0 E) h
 refine bg ⟨(ae (aW E (Ne.symm (nb (am a) aJ.size aK)) aY) rfl),(cB (b9.old hsl b2) aP 0 (by omega))⟩ fun cF=>Rt 12 cF<|re<|tn<|rt<|eD 22 D.size cE (.int .i64 (((ai aM dir (b.getD 0 0) (b.drop 1))).2))<|?_
 have hs:cC dir b=(ai aM dir (b.getD 0 0) (b.drop 1)):=by
   unfold cC
   (try simp only[d,e,g,i,bs,if_true,if_false,decide_true,decide_false,hkf,i7,reduceIte])
   all_goals rfl
 refine iI hs ?_
 exact⟨_,rfl,(aH.upd D E (ap (aT b1 (by decide)) aG)),b2⟩
 have b3:=fd (x:=(b.getD 0 0)) (w:=t)
 rw[hkf] at b3
 refine L0<|Oc<|m1 b3 fun dO b4=>Pl 3<|L0<|bH #[.nilFunc,.nilFunc] fun cG dP b5 cH cI=>L0<|b7 cH #[.func (.func 142) #[] #[],.func (.func 143) #[] #[]] fun dQ cJ cK=>Pl 1<|nt<|sq<|sg<|Pl 2<|nt<|c0<|?_
 refine bi<|sq<|?_
 have b6:=aD b4 (ud cI cK b5)
 have ba:=b9.old s b6
 refine gj (b9.at_ ba 0 (by omega)) fun cL cM bb bc dS=>Rg 13 (fun w'=>w'.cell? ⟨cG,0,none⟩=some (.func (.func 142) #[] #[])∧w'.cell? ⟨cL,cM+0,none⟩=some (.int .u8 (b.getD 0 0))) fun dT O=>?_
 have bd:=ub O cJ
 refine bg ⟨(ae bd rfl),(uc O bc)⟩ fun o=>Rt 0 o<|Rl 1 o (fun _ hs=>hs.1)<|Rt 2 o<|Rt 3 o<|oh 4 o b.length 0 0 rfl bb (by omega)<|Rl 5 o (fun _ hs=>hs.2)<|Rt 6 o<|nF (dR (P:=Tryz.prog) 22 5 1 Tryz.underlying22 rfl rfl A b.length cp 1 (by omega)) fun be hrun268 cN=>Rr 7 o (.slice be (b.length-1) (cp-1)) (fun _ _=>ef (kl:=.i64) (k:=((1:Nat) : Int)) (A:=A) (n:=b.length) (c:=cp) rfl Tryz.underlying22 (by kernel_rfl) (by kernel_rfl) (hrun268 _ _))<|?_
 refine R0 8 rfl<|i2 #[] #[] (args:=#[.int .i64 dir,.int .u8 (b.getD 0 0),.slice be (b.length-1) (cp-1)])<|e2 (ll (dir:=dir) (c:=(b.getD 0 0)) (b8 (by omega)) (cN _ _ _ _ _ (b9.old ba O)) (by(try simp only[List.length_drop]);omega)) fun cO dU F W=>?_
 have bf:=ub W bd
 have X:=aD O W
 refine bg ⟨(ae bf rfl),(uc X bc)⟩ fun bh=>Rt 9 bh<|Rt 10 bh<|?_
 have bj:=aD b6 X
 have bm:=ub bj a
 refine R0 11 rfl<|b7 (hz:=(by rw[F.size];exact aI)) (hv:=F.size) (h1:=F.one) bm (cO) fun dV cP G=>?_
 have dX:=uz X G
 have dY:=uz W G
 have bo:=ud f (uz bj G) h
 refine bg ⟨(ae (aW G (Ne.symm (nb (am a) b4.size b5)) bf) rfl),(cB (b9.old hsl bo) bb 0 (by omega))⟩ fun cQ=>Rt 12 cQ<|re<|tn<|rt<|eD 22 F.size cP (.int .i64 (((ai aV dir (b.getD 0 0) (b.drop 1))).2))<|?_
 have hs:cC dir b=(ai aV dir (b.getD 0 0) (b.drop 1)):=by
   unfold cC
   (try simp only[d,e,g,i,bs,if_true,if_false,decide_true,decide_false,hkf,i7,reduceIte])
   all_goals rfl
 refine iI hs ?_
 exact⟨_,rfl,(aH.upd F G (ap (aT bm (by decide)) aG)),bo⟩
 have bp:=fd (x:=(b.getD 0 0)) (w:=t)
 rw[hkf] at bp
 refine L0<|Oc<|m1 bp fun dZ bq=>Pl 3<|L0<|bH #[.nilFunc,.nilFunc] fun cR e0 bt cS cT=>L0<|b7 cS #[.func (.func 144) #[] #[],.func (.func 145) #[] #[]] fun e1 cU cV=>Pl 1<|nt<|sq<|sg<|Pl 2<|nt<|c0<|?_
 refine bi<|sq<|?_
 have bu:=aD bq (ud cT cV bt)
 have bv:=b9.old s bu
 refine gj (b9.at_ bv 0 (by omega)) fun cW cX bw bx e3=>Rg 13 (fun w'=>w'.cell? ⟨cR,0,none⟩=some (.func (.func 144) #[] #[])∧w'.cell? ⟨cW,cX+0,none⟩=some (.int .u8 (b.getD 0 0))) fun e4 Q=>?_
 have bz:=ub Q cU
 refine bg ⟨(ae bz rfl),(uc Q bx)⟩ fun q=>Rt 0 q<|Rl 1 q (fun _ hs=>hs.1)<|Rt 2 q<|Rt 3 q<|oh 4 q b.length 0 0 rfl bw (by omega)<|Rl 5 q (fun _ hs=>hs.2)<|Rt 6 q<|nF (dR (P:=Tryz.prog) 22 5 1 Tryz.underlying22 rfl rfl A b.length cp 1 (by omega)) fun bA hrun348 cY=>Rr 7 q (.slice bA (b.length-1) (cp-1)) (fun _ _=>ef (kl:=.i64) (k:=((1:Nat) : Int)) (A:=A) (n:=b.length) (c:=cp) rfl Tryz.underlying22 (by kernel_rfl) (by kernel_rfl) (hrun348 _ _))<|?_
 refine R0 8 rfl<|i2 #[] #[] (args:=#[.int .i64 dir,.int .u8 (b.getD 0 0),.slice bA (b.length-1) (cp-1)])<|e2 (kk (dir:=dir) (c:=(b.getD 0 0)) (b8 (by omega)) (cY _ _ _ _ _ (b9.old bv Q)) (by(try simp only[List.length_drop]);omega)) fun cZ e5 H Y=>?_
 have bB:=ub Y bz
 have Z:=aD Q Y
 refine bg ⟨(ae bB rfl),(uc Z bx)⟩ fun bC=>Rt 9 bC<|Rt 10 bC<|?_
 have bE:=aD bu Z
 have bF:=ub bE a
 refine R0 11 rfl<|b7 (hz:=(by rw[H.size];exact aI)) (hv:=H.size) (h1:=H.one) bF (cZ) fun e6 d0 I=>?_
 have e7:=uz Z I
 have e8:=uz Y I
 have bG:=ud f (uz bE I) h
 refine bg ⟨(ae (aW I (Ne.symm (nb (am a) bq.size bt)) bB) rfl),(cB (b9.old hsl bG) bw 0 (by omega))⟩ fun d1=>Rt 12 d1<|re<|tn<|rt<|eD 22 H.size d0 (.int .i64 (((ai aX dir (b.getD 0 0) (b.drop 1))).2))<|?_
 have hs:cC dir b=(ai aX dir (b.getD 0 0) (b.drop 1)):=by
   unfold cC
   (try simp only[d,e,g,i,bs,if_true,if_false,decide_true,decide_false,hkf,i7,reduceIte])
   all_goals rfl
 refine iI hs ?_
 exact⟨_,rfl,(aH.upd H I (ap (aT bF (by decide)) aG)),bG⟩
 have bI:=fd (x:=(b.getD 0 0)) (w:=t)
 rw[hkf] at bI
 refine L0<|Oc<|m1 bI fun e9 bJ=>Pl 3<|L0<|bH #[.nilFunc,.nilFunc] fun d2 ea bK d3 d4=>L0<|b7 d3 #[.func (.func 146) #[] #[],.func (.func 147) #[] #[]] fun ec d5 d6=>Pl 1<|nt<|sq<|sg<|Pl 2<|nt<|c0<|?_
 refine bi<|sq<|?_
 have bL:=aD bJ (ud d4 d6 bK)
 have bM:=b9.old s bL
 refine gj (b9.at_ bM 0 (by omega)) fun d7 d8 bO bP ed=>Rg 13 (fun w'=>w'.cell? ⟨d2,0,none⟩=some (.func (.func 146) #[] #[])∧w'.cell? ⟨d7,d8+0,none⟩=some (.int .u8 (b.getD 0 0))) fun ee R=>?_
 have bQ:=ub R d5
 refine bg ⟨(ae bQ rfl),(uc R bP)⟩ fun r=>Rt 0 r<|Rl 1 r (fun _ hs=>hs.1)<|Rt 2 r<|Rt 3 r<|oh 4 r b.length 0 0 rfl bO (by omega)<|Rl 5 r (fun _ hs=>hs.2)<|Rt 6 r<|nF (dR (P:=Tryz.prog) 22 5 1 Tryz.underlying22 rfl rfl A b.length cp 1 (by omega)) fun bR hrun428 d9=>Rr 7 r (.slice bR (b.length-1) (cp-1)) (fun _ _=>ef (kl:=.i64) (k:=((1:Nat) : Int)) (A:=A) (n:=b.length) (c:=cp) rfl Tryz.underlying22 (by kernel_rfl) (by kernel_rfl) (hrun428 _ _))<|?_
 refine R0 8 rfl<|i2 #[] #[] (args:=#[.int .i64 dir,.int .u8 (b.getD 0 0),.slice bR (b.length-1) (cp-1)])<|e2 (mu (dir:=dir) (c:=(b.getD 0 0)) (b8 (by omega)) (d9 _ _ _ _ _ (b9.old bM R)) (by(try simp only[List.length_drop]);omega)) fun da eg J a0=>?_
 have bS:=ub a0 bQ
 have a1:=aD R a0
 refine bg ⟨(ae bS rfl),(uc a1 bP)⟩ fun bT=>Rt 9 bT<|Rt 10 bT<|?_
 have bU:=aD bL a1
 have bV:=ub bU a
 refine R0 11 rfl<|b7 (hz:=(by rw[J.size];exact aI)) (hv:=J.size) (h1:=J.one) bV (da) fun eh db L=>?_
 have ei:=uz a1 L
 have ej:=uz a0 L
 have bW:=ud f (uz bU L) h
 refine bg ⟨(ae (aW L (Ne.symm (nb (am a) bJ.size bK)) bS) rfl),(cB (b9.old hsl bW) bO 0 (by omega))⟩ fun dc=>Rt 12 dc<|re<|tn<|rt<|eD 22 J.size db (.int .i64 (((ai bD dir (b.getD 0 0) (b.drop 1))).2))<|?_
 have hs:cC dir b=(ai bD dir (b.getD 0 0) (b.drop 1)):=by
   unfold cC
   (try simp only[d,e,g,i,bs,if_true,if_false,decide_true,decide_false,hkf,i7,reduceIte])
   all_goals rfl
 refine iI hs ?_
 exact⟨_,rfl,(aH.upd J L (ap (aT bV (by decide)) aG)),bW⟩
 have bX:=fd (x:=(b.getD 0 0)) (w:=t)
 rw[hkf] at bX
 refine L0<|Oc<|m1 bX fun ek dd=>Pl 3<|L0<|bH #[.nilFunc,.nilFunc] fun el em de df dg=>L0<|b7 df #[.nilFunc,.nilFunc] fun eo ep dh=>Pl 1<|nt<|sq<|sg<|Pl 2<|nt<|c1<|?_
 refine sg<|Pl 1<|?_
 have bY:=aD dd (ud dg dh de)
 refine L0<|b7 (ub bY a) mZ fun er di dj=>Pl 1<|nt<|rt<|tr<|bN di (.int .i64 4)<|?_
 have hs:cC dir b=(aO.zero,4):=by
   unfold cC
   (try simp only[d,e,g,i,bs,if_true,if_false,decide_true,decide_false,hkf,i7,reduceIte])
   all_goals rfl
 refine iI hs ?_
 exact cw (ud f (uz bY dj) h)
theorem rF{m:Md}{v:Value}{b:List Int}{w:World}{dir:Int}(h:b9 m w v b)(hb:b.length≤1048576) : Calls Tryz.prog 24 #[.int .i64 dir,v] w (dW (cC dir b) w):=by
  obtain⟨A,cp,rfl,_,_⟩:=h.shape
  exact pG h hb
end Go.Proofs.YtogbnemojakcpaaGreat
namespace Go.Proofs.YtogbnemojakcpaaGreat
def N1 (C:aj) : Prop:=C.e≠1
theorem N1.need{C:aj}{b:Bool}{x:Int}(hx:x≠1)(h:N1 C) : N1 (C.need b x):=by
  unfold N1 aj.need at *
  split
  · exact hx
  · exact h
theorem N1.bytesC{C:aj}{n:Int}(h:N1 C) : N1 (C.bytesC n):=by
  unfold aj.bytesC
  split
  · exact N1.need (by decide) h
  · exact h
theorem N1.wordsC{C:aj}{n:Int}(h:N1 C) : N1 (C.wordsC n):=by
  unfold aj.wordsC
  split<;>exact N1.bytesC h
theorem N1.recs{one:Int→aj→Int × aj × dc}(ho:∀ s C,N1 C→N1 (one s C).2.1) : ∀ (n:Nat)(s:Int)(C:aj)(L:List dc),N1 C→N1 (aR one n s C L).1
  | 0,_,_,_,h=>h
  | n+1,s,C,L,h=>by
    unfold aR
    split
    · split
      · exact ho s C h
      · exact N1.recs ho n _ _ _ (ho s C h)
    · exact h
theorem N1.objs:∀ (n:Nat)(C:aj)(L:List Obj),N1 C→N1 (ed n C L).1
  | 0,_,_,h=>h
  | n+1,C,L,h=>N1.objs n _ _ (N1.bytesC (N1.bytesC (N1.bytesC h)))
theorem sd{x:Int}(h:x≠1) : bp x≠1:=by
  unfold bp
  split
  · decide
  · exact h
def sH (c:Int)(r:aj × aO) : Prop:=N1 r.1∧r.2.code=c∧r.2.fail=0
theorem pJ{dir c:Int}{C:aj}{r:aj × aO}(hC:N1 C)(h:aE dir c C=some r) : sH c r:=by
  unfold aE at h
  repeat' split at h
  all_goals first | cases h | skip
  all_goals refine⟨?_,rfl,rfl⟩
  all_goals simp only[dh,dg,d6,fR,bA,iX,fb,dJ,ph,gL]
  all_goals repeat' first | with_reducible exact hC | with_reducible apply N1.bytesC | with_reducible apply N1.wordsC | (with_reducible refine N1.need (by decide) ?_)
theorem rv{dir c:Int}{C:aj}{r:aj × aO}(hC:N1 C)(h:aM dir c C=some r) : sH c r:=by
  unfold aM at h
  repeat' split at h
  all_goals first | cases h | skip
  all_goals refine⟨?_,rfl,rfl⟩
  all_goals simp only[bZ,ck,dL,d7,cT,d8,cZ,kz,ij,gP,bG,jP,cO,fE,o9,v8,qX]
  all_goals repeat' first | with_reducible exact hC | with_reducible apply N1.bytesC | with_reducible apply N1.wordsC | (with_reducible refine N1.need (by decide) ?_)
theorem sb{dir c:Int}{C:aj}{r:aj × aO}(hC:N1 C)(h:aV dir c C=some r) : sH c r:=by
  unfold aV ea cm at h
  repeat' split at h
  all_goals first | cases h | skip
  all_goals refine⟨?_,rfl,rfl⟩
  all_goals simp only[eI,j9,fg,fK,dy]
  all_goals repeat' first | with_reducible exact hC | with_reducible apply N1.bytesC | with_reducible apply N1.wordsC | (with_reducible refine N1.need (by decide) ?_)
theorem tP{dir c:Int}{C:aj}{r:aj × aO}(hC:N1 C)(h:bD dir c C=some r) : sH c r:=by
  unfold bD at h
  repeat' split at h
  all_goals first | cases h | skip
  all_goals refine⟨?_,rfl,rfl⟩
  all_goals simp only[dx,fk,eh,dO,kA,kC,lZ,tQ]
  all_goals repeat' first | with_reducible exact hC | with_reducible apply N1.bytesC | with_reducible apply N1.wordsC | with_reducible apply N1.objs | (with_reducible refine N1.need (by decide) ?_)
theorem vO(s:Int)(C:aj)(h:N1 C) : N1 (cJ s C).2.1:=by
  simp only[cJ,ey,dt,i6,iE,lL]
  repeat' first | with_reducible exact h | with_reducible apply N1.bytesC | with_reducible apply N1.wordsC | (with_reducible refine N1.need (by decide) ?_)
theorem tc(s:Int)(C:aj)(h:N1 C) : N1 (bJ s C).2.1:=by
  simp only[bJ,eH,i1,fy]
  repeat' first | with_reducible exact h | with_reducible apply N1.bytesC | with_reducible apply N1.wordsC | (with_reducible refine N1.need (by decide) ?_)
theorem vj(s:Int)(C:aj)(h:N1 C) : N1 (cK s C).2.1:=by
  simp only[cK,iK,lV,dt,i6,iE,lL]
  repeat' first | with_reducible exact h | with_reducible apply N1.bytesC | with_reducible apply N1.wordsC | (with_reducible refine N1.need (by decide) ?_)
theorem jv{one:Int→aj→Int × aj × dc}(ho:∀ s C,N1 C→N1 (one s C).2.1)(may:Int→Bool)(c:Int){C:aj}(hC:N1 C) : N1 (dN one may c C).1:=by
  unfold dN ku
  refine N1.need (sd (N1.recs ho _ _ _ _ ?_)) (N1.bytesC (N1.need (by decide) (N1.bytesC hC)))
  show(0:Int)≠1
  decide
theorem pp{dir c:Int}{C:aj}{r:aj × aO}(hC:N1 C)(h:aX dir c C=some r) : sH c r:=by
  unfold aX at h
  repeat' split at h
  all_goals first | cases h | skip
  · exact⟨jv vO _ _ hC,rfl,rfl⟩
  · exact⟨jv tc _ _ hC,rfl,rfl⟩
  · exact⟨jv vj _ _ hC,rfl,rfl⟩
theorem N1.endC{C:aj}(h:N1 C) : N1 C.endC:=by
  unfold aj.endC
  exact N1.need (by decide) h
theorem fI{form:Int→Int→aj→Option (aj × aO)}(hg:∀ {dir c:Int}{C:aj}{r:aj × aO},N1 C→form dir c C=some r→sH c r){dir c:Int}{b:List Int}(hd:dir=0∨dir=1){M:aO}{E:Int}(h:ai form dir c b=(M,E)) :
    E≠1∧(E=0→M.code=c∧M.fail=0):=by
  unfold ai at h
  rw[if_pos hd] at h
  have h0:N1 ⟨b,false,0⟩:=by show(0:Int)≠1;decide
  split at h
  · injection h with h1 h2
    subst h1 h2
    exact⟨by decide,fun h=>by cases h⟩
  · rename_i r hr
    obtain⟨g1,g2,g3⟩:=hg h0 hr
    unfold b6 at h
    split at h
    · injection h with h1 h2
      subst h1 h2
      exact⟨by decide,fun _=>⟨g2,g3⟩⟩
    · rename_i hne
      injection h with h1 h2
      subst h1 h2
      exact⟨N1.endC g1,fun h=>absurd h hne⟩
end Go.Proofs.YtogbnemojakcpaaGreat
namespace Go.Proofs.YtogbnemojakcpaaGreat
theorem uY:∀ n:Nat,n<256→(dF (n:Int)=iW (n:Int))∧(iW (n:Int)=false→iP (n:Int)=0)∧(128≤n→iW (n:Int)=false):=by decide +kernel
theorem s0{x:Int}(h:0≤x∧x<256) : dF x=iW x∧(iW x=false→iP x=0)∧(128≤x→iW x=false):=by
  obtain⟨n,rfl⟩:=Int.eq_ofNat_of_zero_le h.1
  obtain⟨a,b,c⟩:=uY n (by omega)
  exact⟨a,b,fun h=>c (by omega)⟩
theorem sc{dir:Int}{b:List Int}(hd:dir=0∨dir=1){k:Nat}{M:aO}{E:Int}(h:i7 k dir b=(M,E)) : E≠1∧(E=0→M.code=b.getD 0 0∧M.fail=0):=by
  unfold i7 at h
  split at h
  · exact fI (fun hC h=>pJ hC h) hd h
  · exact fI (fun hC h=>rv hC h) hd h
  · exact fI (fun hC h=>sb hC h) hd h
  · exact fI (fun hC h=>pp hC h) hd h
  · exact fI (fun hC h=>tP hC h) hd h
  · injection h with h1 h2
    subst h1 h2
    exact⟨by decide,fun h=>by cases h⟩
theorem qE{b:List Int}{M:aO}(h:eb b=(M,0)) : M=gf ((b.getD 0 0-128)%256) (b.getD 1 0)∧128≤b.getD 0 0∧dF ((b.getD 0 0-128)%256)=true∧cD (b.getD 1 0)=true∧b.length=2:=by
  unfold eb at h
  split at h
  · cases h
  split at h
  · cases h
  split at h
  · cases h
  split at h
  · cases h
  split at h
  · cases h
  split at h
  · cases h
  injection h with h1 h2
  simp only[decide_eq_true_eq,Bool.not_eq_true',Bool.not_eq_true,beq_iff_eq,Bool.not_eq_false'] at *
  refine⟨h1.symm,by omega,by simp_all,by simp_all,by omega⟩
end Go.Proofs.YtogbnemojakcpaaGreat
namespace Go.Proofs.YtogbnemojakcpaaGreat
theorem de{parse:Int→Int→List Int→aO × Int}{lay:Int→aO→List Int}{dir:Int}{M:aO}{l:List Int}(h:bh parse lay dir M=some l) : parse dir M.code l=(M,0)∧l=lay dir M:=by
  unfold bh at h
  split at h
  · rename_i hh
    injection h with h
    subst h
    exact⟨hh,rfl⟩
  · cases h
theorem jL{k:Nat}{dir:Int}{M:aO}{l:List Int}(h:gh k dir M=some l) : k≠0∧i7 k dir ([M.code]++l)=(M,0):=by
  unfold gh at h
  split at h
  · exact⟨by decide,(de h).1⟩
  · exact⟨by decide,(de h).1⟩
  · exact⟨by decide,(de h).1⟩
  · exact⟨by decide,(de h).1⟩
  · exact⟨by decide,(de h).1⟩
  · cases h
theorem ri{M:aO}{l:List Int}(h:jM M=some l) : dF M.code=true∧cD M.fail=true∧M=gf M.code M.fail∧l=[(M.code+128)%256,M.fail]:=by
  unfold jM at h
  split at h
  · cases h
  split at h
  · cases h
  rename_i h1 h2
  injection h with h
  subst h
  have h3:fc M.code M.fail=true:=by
    cases hp:fc M.code M.fail
    · rw[hp] at h1;exact absurd rfl h1
    · rfl
  have h4:M=gf M.code M.fail:=by
    by_cases hm:M=gf M.code M.fail
    · exact hm
    · rw[decide_eq_false hm] at h2;exact absurd rfl h2
  unfold fc at h3
  obtain⟨h5,h6⟩:=gg h3
  exact⟨(gg h5).2,h6,h4,rfl⟩
theorem gw{dir:Int}{M:aO}{l:List Int}(hc:0≤M.code∧M.code<256)(h:cz dir M=some l) :
    (M.fail≠0∧dir=1∧dF M.code=true∧cD M.fail=true∧M=gf M.code M.fail∧l=[M.code+128,M.fail]∧M.code<128) ∨
    (M.fail=0∧iP M.code≠0∧M.code<128∧∃ l',gh (iP M.code) dir M=some l'∧l'.length<253∧l=[M.code]++l'):=by
  obtain⟨t1,t2,t3⟩:=s0 hc
  unfold cz at h
  split at h
  · rename_i hf
    split at h
    · cases h
    · rename_i hd
      obtain⟨h1,h2,h3,h4⟩:=ri h
      have h5:M.code<128:=by
        by_cases h6:128≤M.code
        · have:=t3 h6
          rw[← t1,h1] at this
          cases this
        · omega
      refine .inl ⟨by simpa using hf,by simpa using hd,h1,h2,h3,?_,h5⟩
      rw[h4]
      congr 1
      omega
  · rename_i hf
    split at h
    · cases h
    · rename_i l' hl
      split at h
      · cases h
      · rename_i hn
        injection h with h
        have hk:=(jL hl).1
        have h5:M.code<128:=by
          by_cases h6:128≤M.code
          · exact absurd (t2 (t3 h6)) hk
          · omega
        simp only[decide_eq_true_eq] at hn
        exact .inr ⟨by simpa using hf,hk,h5,l',hl,by omega,h.symm⟩
theorem th{dir:Int}{M:aO}{l:List Int}(hd:dir=0∨dir=1)(hc:0≤M.code∧M.code<256)(hf:0≤M.fail∧M.fail<256)(h:cz dir M=some l) : cC dir l=(M,0):=by
  have hdd:(dir != 0&&dir != 1)=false:=by rcases hd with rfl | rfl<;>rfl
  rcases gw hc h with⟨h1,rfl,h2,h3,h4,rfl,h5⟩|⟨h1,h2,h3,l',h4,h5,rfl⟩
  · have ha:decide (128≤M.code+128)=true:=by simp;omega
    have hb:(M.code+128-128)%256=M.code:=by omega
    have i6:decide (M.code+128<128)=false:=by simp;omega
    unfold cC
    simp only[List.length_cons,List.length_nil,List.getD_cons_zero,ha]
    show eb [M.code+128,M.fail]=(M,0)
    unfold eb
    simp only[List.length_cons,List.length_nil,List.getD_cons_zero,List.getD_cons_succ,hb,i6,h2,h3]
    show(gf M.code M.fail,(0:Int))=(M,0)
    rw[← h4]
  · have ha:(decide (128≤M.code)&&dir==1)=false:=by
      have:decide (128≤M.code)=false:=by simp;omega
      rw[this];rfl
    have hl0:(((([M.code]++l').length:Nat) : Int)==0)=false:=by
      simp only[List.length_append,List.length_cons,List.length_nil,beq_eq_false_iff_ne,ne_eq];omega
    have hl1:decide (253<((([M.code]++l').length:Nat) : Int))=false:=by
      simp only[List.length_append,List.length_cons,List.length_nil,decide_eq_false_iff_not];omega
    have hg:([M.code]++l').getD 0 0=M.code:=rfl
    unfold cC
    rw[hdd,hl0,hl1,hg,ha]
    exact(jL h4).2
theorem oZ{dir:Int}{M:aO}{l:List Int}(hc:0≤M.code∧M.code<256)(h:cz dir M=some l) : 0<l.length:=by
  rcases gw hc h with⟨_,_,_,_,_,rfl,_⟩|⟨_,_,_,l',_,_,rfl⟩<;>simp
theorem vx{dir:Int}{M:aO}{l:List Int}(hc:0≤M.code∧M.code<256)(h:cz dir M=some l) : l.length≤253:=by
  rcases gw hc h with⟨_,_,_,_,_,rfl,_⟩|⟨_,_,_,l',_,h2,rfl⟩
  · simp
  · simp only[List.length_append,List.length_cons,List.length_nil];omega
open Go.RowKit
theorem s3{w w':World}(h:aC [] w w') : Below w.heap.size w w':=⟨h.os,h.tape,h.output,h.size,fun k hk=>h.block k hk (by simp)⟩
theorem rV{n:Int}(h:(Lit.int .u8 n).wf=true) : 0≤n∧n<256:=by
  have:=bounds_u8 h
  omega
open Go.RowKit
structure SL where
  aw:Option Addr
  kw:Nat
  ab:Option Addr
  kb:Nat
  ad:Option Addr
  kd:Nat
  ar:Option Addr
  kr:Nat
  ao:Option Addr
  ko:Nat
def p6 (M:aO)(x:SL) : Array Value:=mG M.code M.fail M.addr M.count M.value M.and_ M.or_ M.addr2 M.sub M.status M.events M.messages (.slice x.aw M.words.length x.kw) (.slice x.ab M.bits.length x.kb) (.slice x.ad M.data.length x.kd) (.slice x.ar M.recs.length x.kr) M.mei M.kind M.level M.more M.next (.slice x.ao M.objects.length x.ko)
theorem qq{m:Md}{w:World}{cs:Array Value}{M:aO}(h:aH m w cs.toList M) : ∃ x,cs=p6 M x:=by
  obtain⟨vw,vb,vd,vr,vo,h0,hw,hb,hd,hr,ho,hR⟩:=h
  obtain⟨aw,kw,rfl,_,_⟩:=hw.shape
  obtain⟨ab,kb,rfl,_,_⟩:=hb.shape
  obtain⟨ad,kd,rfl,_,_⟩:=hd.shape
  obtain⟨ar,kr,rfl,_,_⟩:=hr.shape
  obtain⟨ao,ko,rfl,_,_⟩:=ho.shape
  refine⟨⟨aw,kw,ab,kb,ad,kd,ar,kr,ao,ko⟩,?_⟩
  apply Array.toList_inj.1
  rw[h0]
  rfl
theorem aH.rngs{m:Md}{w:World}{cs:Array Value}{M:aO}(h:aH m w cs.toList M) : (0≤M.code∧M.code<256)∧(0≤M.fail∧M.fail<256):=by
  obtain⟨vw,vb,vd,vr,vo,h0,hw,hb,hd,hr,ho,hR⟩:=h
  exact⟨hR.code,hR.fail⟩
open Go.RowKit
def nB:aO:={ aO.zero with code:=7 }
theorem yU(w:World) : aH true w (mC 7).toList nB:=⟨fQ,fQ,fQ,fQ,fQ,rfl,aL.nil ..,aL.nil ..,aL.nil ..,aL.nil ..,aL.nil ..,{ eR.zero with code:=(by decide:(0:Int)≤7∧(7:Int)<256) }⟩
theorem xl:bR nB:=⟨by decide,by decide,by decide,by decide,(fun r h=>nomatch h),by decide,(fun r h=>nomatch h)⟩
open Go.RowKit
structure ig where
  unit:Int
  tid:Int
  msg:aO
def ig.zero:ig:=⟨0,0,aO.zero⟩
def yu (m:Md)(w:World)(cs:Array Value)(F:ig) : Prop:=∃ c:Array Value,cs = #[.int .u8 F.unit,.int .u16 F.tid]++c∧aH m w c.toList F.msg∧B8 F.unit∧dr F.tid
def sU (res:ig × Int)(w:World)(e:Ending)(w':World) : Prop:=∃ cs,e = .returned (.tuple #[.agg cs,.int .i64 res.2])∧yu true w' cs res.1∧aC [] w w'
theorem mL{x y:ig × Int}(h:x=y){w:World}{e:Ending}{w':World}(k:sU y w e w') : sU x w e w':=by rw[h];exact k
def yt:Array Value:=#[.int .u8 0,.int .u16 0,.int .u8 0,.int .u8 0,.int .u16 0,.int .u16 0,.int .u16 0,.int .u16 0,.int .u16 0,.int .u16 0,.int .u16 0,.int .u16 0,.int .u16 0,.int .u16 0,.slice none 0 0,.slice none 0 0,.slice none 0 0,.slice none 0 0,.int .u8 0,.int .u8 0,.int .u8 0,.int .u8 0,.int .u8 0,.slice none 0 0]
theorem j0{x:Int}{w W:World}(hu:aC [] w W) : sU (ig.zero,x) w (.returned (.tuple #[.agg yt,.int .i64 x])) W:=⟨_,rfl,⟨ma,(by kernel_rfl),aH.zero ..,(show(0:Int)≤0∧(0:Int)<256 from by decide),(show(0:Int)≤0∧(0:Int)<65536 from by decide)⟩,hu⟩
def fC (u t:Int) : aO × Int→ig × Int
  | (M,E)=>if E != 0 then (ig.zero,E) else (⟨u,t,M⟩,0)
theorem ot{dir:Int}{M:aO}{l:List Int}(h:cz dir M=some l) : l.length≤253:=by
  unfold cz at h
  split at h
  · split at h
    · cases h
    · unfold jM at h
      split at h
      · cases h
      · split at h
        · cases h
        · injection h with h
          subst h
          simp only[List.length_cons,List.length_nil]
          omega
  · split at h
    · cases h
    · split at h
      · cases h
      · rename_i hl
        injection h with h
        subst h
        simp only[decide_eq_true_eq] at hl
        simp only[List.length_append,List.length_cons,List.length_nil]
        omega
open Go.RowKit
deriving instance DecidableEq for ig
def qe (u t:Int)(M:aO)(x:SL) : Array Value:=#[.int .u8 u,.int .u16 t,.int .u8 M.code,.int .u8 M.fail,.int .u16 M.addr,.int .u16 M.count,.int .u16 M.value,.int .u16 M.and_,.int .u16 M.or_,.int .u16 M.addr2,.int .u16 M.sub,.int .u16 M.status,.int .u16 M.events,.int .u16 M.messages,.slice x.aw M.words.length x.kw,.slice x.ab M.bits.length x.kb,.slice x.ad M.data.length x.kd,.slice x.ar M.recs.length x.kr,.int .u8 M.mei,.int .u8 M.kind,.int .u8 M.level,.int .u8 M.more,.int .u8 M.next,.slice x.ao M.objects.length x.ko]
theorem nG(u t:Int)(M:aO)(x:SL) : qe u t M x = #[.int .u8 u,.int .u16 t]++p6 M x:=by kernel_rfl
end Go.Proofs.YtogbnemojakcpaaGreat
namespace Go.Proofs.YtogbnemojakcpaaGreat
def j8 (x:Nat) : Nat:=(x/2) ^^^ (x%2*40961)
def ff:Nat→Nat→Nat
  | 0,x=>x
  | k+1,x=>j8 (ff k x)
def wd (i:Nat) : Nat:=ff 8 i
theorem vB{x:Nat}(h:x<65536) : j8 x<65536:=by
  unfold j8
  exact Nat.xor_lt_two_pow (n:=16) (by omega) (by omega)
theorem iv{x:Nat}(h:x<65536) : ∀ k,ff k x<65536
  | 0=>h
  | k+1=>vB (iv h k)
theorem rf{i:Nat}(h:i<256) : wd i<65536:=iv (by omega) 8
def ra (s c:Nat) : Nat:=(s/256) ^^^ wd ((s%256) ^^^ c)
theorem rc{a b:Nat}(ha:a<256)(hb:b<256) : a ^^^ b<256:=Nat.xor_lt_two_pow (n:=8) ha hb
theorem kQ{a b:Nat}(ha:a<65536)(hb:b<65536) : a ^^^ b<65536:=Nat.xor_lt_two_pow (n:=16) ha hb
theorem uw{s c:Nat}(hs:s<65536)(hc:c<256) : ra s c<65536:=kQ (by omega) (rf (rc (by omega) hc))
def xi (a b:Int) : Int:=((a.toNat ^^^ b.toNat:Nat) : Int)
theorem Aa{a b:Int}(ha:0≤a∧a<256)(hb:0≤b∧b<256) : 0≤xi a b∧xi a b<256:=by
  have:=rc (a:=a.toNat) (b:=b.toNat) (by omega) (by omega)
  unfold xi
  omega
theorem yr{a b:Int}(ha:0≤a∧a<65536)(hb:0≤b∧b<65536) : 0≤xi a b∧xi a b<65536:=by
  have:=kQ (a:=a.toNat) (b:=b.toNat) (by omega) (by omega)
  unfold xi
  omega
theorem vQ(n:Nat) : xi (((n:Nat) : Int)/2) ((((n:Nat) : Int)%2)*40961%65536)=((j8 n:Nat) : Int):=by
  unfold xi j8
  rw[show(((n:Nat) : Int)/2).toNat=n/2 from by omega,show((((n:Nat) : Int)%2)*40961%65536).toNat=n%2*40961 from by omega]
def kv (i:Int) : Int:=((wd i.toNat:Nat) : Int)
theorem ou{i:Int}(h:0≤i∧i<256) : 0≤kv i∧kv i<65536:=by
  have:=rf (i:=i.toNat) (by omega)
  unfold kv
  omega
def pY (s c:Int) : Int:=xi (s/256) (kv (xi (s%256) c))
theorem o7{s c:Int}(hs:0≤s∧s<65536)(hc:0≤c∧c<256) : pY s c=((ra s.toNat c.toNat:Nat) : Int):=by
  unfold pY kv xi ra
  rw[show(s/256).toNat=s.toNat/256 from by omega,show(s%256).toNat=s.toNat%256 from by omega]
  simp only[Int.toNat_natCast]
theorem nW{s c:Int}(hs:0≤s∧s<65536)(hc:0≤c∧c<256) : 0≤pY s c∧pY s c<65536:=by
  have:=uw (s:=s.toNat) (c:=c.toNat) (by omega) (by omega)
  rw[o7 hs hc]
  omega
def bU (s:Int)(b:List Int) : Int:=b.foldl pY s
theorem gD:∀ (b:List Int){s:Int},(0≤s∧s<65536)→(∀ x,x∈b→0≤x∧x<256)→0≤bU s b∧bU s b<65536
  | [],s,hs,_=>hs
  | c :: b,s,hs,hb=>gD b (nW hs (hb c (List.mem_cons_self ..))) fun x hx=>hb x (List.mem_cons_of_mem _ hx)
theorem uL(s:Int)(a b:List Int) : bU s (a++b)=bU (bU s a) b:=by unfold bU;rw[List.foldl_append]
def bW (s:Int) : List Int:=[s%256,s/256%256]
theorem iH(s:Int) : (bW s).length=2:=rfl
def dl (b:List Int) : Bool:=decide (2≤b.length)&&decide (bW (bU 65535 (b.take (b.length-2)))=b.drop (b.length-2))
open Go.RowKit
def zb (P:Program)(ty:TypeId) : Option (Nat × TypeId):=match P.underlying ty with | some (.array m e)=>some (m,e) | _=>none
theorem tH{P:Program}{ty e:TypeId}{m:Nat}(h:zb P ty=some (m,e)) : P.underlying ty=some (.array m e):=by
  unfold zb at h
  split at h
  · injection h with h
    injection h with h1 h2
    subst h1 h2
    assumption
  · cases h
theorem ss{P:Program}{w:World}{ev:Operand→Value}{o:Oper}{t e:TypeId}{x ix:Operand}{b off j m:Nat}{k:IntKind}{i:Int}(ho:o.op = .indexAddr t x ix)(ht:P.underlying t=some (.array m e))(hi:(P.info? e).map (·.size)=some 1)
    (hx:ev x = .pointer (some ⟨b,off,none⟩)) (hix:ev ix = .int k i) (hj:i=j) (hlt:j<m) : (execOp ev o).run P w = .ok (.value (.pointer (some ⟨b,off+j,none⟩))) w:=by
  subst hj
  obtain⟨i0,hi0,hs⟩:=Option.map_eq_some_iff.1 hi
  unfold execOp
  have h2:(0:Int)≤(j:Int)∧(j:Int)<(m:Int):=by omega
  simp[ho,hx,hix,Instr.indexAt,Instr.sureAddr,asIntOf,run_underlying ht,Result.andThen,h2,sizeOf,typeInfo,hi0,hs,iR,hlt]
section
variable {P:Program}{n:Nat}{D:List Deferred}{F:Fr}{w:World}{K:Fr→World→Prop}{Q:Exit→Act→World→Prop}{d:Option Tmp}{t:TypeId}{s:String}{af:Array Edge}{gu:Option (Nat × Bool)}
theorem zS{ty:TypeId}{x ix:Operand}{b off:Nat}(m j:Nat)(i:Int)(hj:i=j)(hlt:j<m)(h:K (pt d (.pointer (some ⟨b,off+j,none⟩)) F) w)
    (hx:fl F x=some (.pointer (some ⟨b,off,none⟩)):=by kernel_rfl) (hi:wa F ix=some i:=by kernel_rfl) (hs:((zb P ty).bind fun p=>(P.info? p.2).map fun q=>(p.1,q.size),gZ n d)=(some (m,1),true):=by kernel_rfl) : OG P ⟨d,.indexAddr ty x ix,t,s,af,gu⟩ n D F w K Q:=by
  simp only[Prod.mk.injEq] at hs
  obtain⟨hs,hd⟩:=hs
  obtain⟨k,hi⟩:=lB hi
  cases he:zb P ty with
  | none=>rw[he] at hs;simp at hs
  | some p =>
    obtain⟨m',e⟩:=p
    rw[he] at hs
    obtain⟨q,hq,h3⟩:=Option.map_eq_some_iff.1 (show(P.info? e).map (fun q=>(m',q.size))=some (m,1) from hs)
    injection h3 with h4 h5
    subst h4
    exact⟨fun a ha K' hK=>gR _ rfl (ss rfl (tH he) (by rw[hq];simp[h5]) (ha.ev hx) (ha.ev hi) hj hlt) (hK _ _ _ h (ha.put hd))⟩
end
theorem yH{a b:Int}(ha:0≤a∧a<256)(hb:0≤b∧b<256) : bits .xor .u8 a b=xi a b:=u8_xor a b ha.1 ha.2 hb.1 hb.2
theorem nj{a b:Int}(ha:0≤a∧a<65536)(hb:0≤b∧b<65536) : bits .xor .u16 a b=xi a b:=u16_xor a b ha.1 ha.2 hb.1 hb.2
theorem uB{a:Int}(ha:0≤a∧a<65536) : bits .and .u16 a 1=a%2:=by
  rw[u16_and a 1 ha.1 ha.2 (by omega) (by omega)]
  show((a.toNat &&& 1:Nat) : Int)=_
  rw[Nat.and_one_is_mod]
  omega
def i5 (k:Nat) : Array Value:=((List.range 256).map fun i=>if i<k then Value.int .u16 (kv i) else Value.int .u16 0).toArray
theorem ej(k:Nat) : (i5 k).size=256:=by simp[i5]
theorem oV(k:Nat) : (i5 k).all (·.oneCell')=true:=by
  unfold i5
  rw[List.all_toArray,List.all_eq_true]
  intro v hv
  rw[List.mem_map] at hv
  obtain⟨i,_,rfl⟩:=hv
  split<;>rfl
theorem tR{i k:Nat}(hk:k=8)(hi:i<256) : (i5 i).setIfInBounds i (.int .u16 ((ff k i:Nat) : Int))=i5 (i+1):=by
  subst hk
  unfold i5
  rw[List.setIfInBounds_toArray]
  congr 1
  apply List.ext_getElem?
  intro j
  rw[List.getElem?_set]
  by_cases hj:j<256
  · by_cases hij:i=j
    · subst hij
      simp[hi,kv,wd]
    · simp[hij,hj]
      congr 1
      simp only[eq_iff_iff]
      omega
  · rw[if_neg (by omega)]
    simp[hj]
theorem vn{i:Nat}(h:i<256) : (i5 256)[i]? = some (.int .u16 (kv i)):=by simp[i5,h]
def dT (s:Int)(b:List Int) : Nat→Int
  | 0=>s
  | k+1=>pY (dT s b k) (b.getD k 0)
theorem mH(s:Int)(b:List Int) : ∀ k,k≤b.length→dT s b k=bU s (b.take k)
  | 0,_=>by simp[dT,bU]
  | k+1,h=>by
    rw[List.take_succ_eq_append_getElem (by omega),uL,← mH s b k (by omega)]
    show pY _ (b.getD k 0)=_
    rw[List.getD_eq_getElem?_getD,List.getElem?_eq_getElem (by omega)]
    rfl
theorem pa{s:Int}{b:List Int}{k:Nat}(h:k=b.length) : dT s b k=bU s b:=by
  subst h
  rw[mH _ _ _ (Nat.le_refl _),List.take_length]
theorem jo{s:Int}{b:List Int}(hs:0≤s∧s<65536)(hb:∀ x,x∈b→0≤x∧x<256) : ∀ k,0≤dT s b k∧dT s b k<65536
  | 0=>hs
  | k+1=>nW (jo hs hb k) (ib (by omega) hb k)
theorem t9{i:Int}(h:0≤i) : kv ((i.toNat:Nat) : Int)=kv i:=by rw[Int.toNat_of_nonneg h]
open Go.RowKit
theorem wM{P:Program}(t e:TypeId)(sz:Nat){i:TypeInfo}(ht:P.underlying t=some (.slice e))(hi:P.info? e=some i)(hsz:i.size=sz)(A:Option Addr)(n c:Nat){k:Int}(h:Nat)(hk:k=(h:Int))(hh:h≤n)(hc:n≤c) :
    ∃ A':Option Addr,(∀ (kh:IntKind) (W:World),(Instr.slice t (.slice A n c) none (some (.int kh k)) none).run P W = .ok (.slice A' h c) W) ∧
      ∀ {α:Type} (m:Md) (e':TypeId) (R:World→α→List Value→Prop) (w:World) (xs:List α),aL m e' sz R w (.slice A n c) xs→aL m e' sz R w (.slice A' h c) (xs.take h):=by
  subst hk
  obtain⟨A',h1,h2⟩:=tw (P:=P) t e sz ht hi hsz A n c 0 h (Nat.zero_le _) hh hc
  refine⟨A',fun kh W=>?_,fun m e' R w xs hr=>by simpa using h2 m e' R w xs hr⟩
  have h3:=h1 .i64 kh W
  have hel:P.elem t=e:=by simp[Program.elem,ht]
  have hu:P.underlying t=some (.slice (P.elem t)):=by rw[hel];exact ht
  rw[run_slice_h W t A n c hu kh (h:Int) (Int.natCast_nonneg _) (by omega)]
  rw[run_slice_lh W t A n c hu .i64 kh (((0:Nat) : Int)) (h:Int) (Int.natCast_nonneg _) (by omega) (by omega)] at h3
  simpa using h3
theorem oU{o:Oper}{ev:Operand→Value}{P:Program}{w:World}{t:TypeId}{x y:Operand}{A:Option Addr}{n c:Nat}{kl:IntKind}{k:Int}{v:Value}{e:TypeId}(ho:o.op = .slice t x none (some y) none)(ht:P.underlying t=some (.slice e))(hx:ev x = .slice A n c)(hy:ev y = .int kl k)
    (hr:(Instr.slice t (.slice A n c) none (some (.int kl k)) none).run P w = .ok v w) : (execOp ev o).run P w = .ok (.value v) w:=by
  have hu:(underlying t).run P w = .ok (.slice e) w:=run_underlying ht w
  unfold execOp
  simp only[ho,Option.map_some,Option.map_none,hx,hy,Instr.sliceAt,Sem.run_bind,hu,hr,Result.andThen,Sem.run_pure]
theorem iz{P:Program}(t e:TypeId)(sz:Nat){i:TypeInfo}(ht:P.underlying t=some (.slice e))(hi:P.info? e=some i)(hsz:i.size=sz)(A:Option Addr)(n c:Nat){lo up:Int}(k h:Nat)(hlo:lo=(k:Int))(hup:up=(h:Int))(hk:k≤h)(hh:h≤n)(hc:n≤c) :
    ∃ A':Option Addr,(∀ (kl kh:IntKind) (W:World),(Instr.slice t (.slice A n c) (some (.int kl lo)) (some (.int kh up)) none).run P W = .ok (.slice A' (h-k) (c-k)) W) ∧
      ∀ {α:Type} (m:Md) (e':TypeId) (R:World→α→List Value→Prop) (w:World) (xs:List α),aL m e' sz R w (.slice A n c) xs→aL m e' sz R w (.slice A' (h-k) (c-k)) ((xs.take h).drop k):=by
  subst hlo hup
  exact tw t e sz ht hi hsz A n c k h hk hh hc
theorem ft{o:Oper}{ev:Operand→Value}{P:Program}{w:World}{t:TypeId}{x y z:Operand}{A:Option Addr}{n c:Nat}{kl kh:IntKind}{lo hi:Int}{v:Value}{e:TypeId}(ho:o.op = .slice t x (some y) (some z) none)(ht:P.underlying t=some (.slice e))(hx:ev x = .slice A n c)(hy:ev y = .int kl lo)(hz:ev z = .int kh hi)
    (hr:(Instr.slice t (.slice A n c) (some (.int kl lo)) (some (.int kh hi)) none).run P w = .ok v w) : (execOp ev o).run P w = .ok (.value v) w:=by
  have hu:(underlying t).run P w = .ok (.slice e) w:=run_underlying ht w
  unfold execOp
  simp only[ho,Option.map_some,Option.map_none,hx,hy,hz,Instr.sliceAt,Sem.run_bind,hu,hr,Result.andThen,Sem.run_pure]
theorem s7{P:Program}(t e:TypeId)(sz:Nat){i:TypeInfo}(ht:P.underlying t=some (.slice e))(hi:P.info? e=some i)(hsz:i.size=sz)(A:Option Addr)(n c:Nat){lo:Int}(k:Nat)(hlo:lo=(k:Int))(hk:k≤n) :
    ∃ A':Option Addr,(∀ (kl:IntKind) (W:World),(Instr.slice t (.slice A n c) (some (.int kl lo)) none none).run P W = .ok (.slice A' (n-k) (c-k)) W) ∧
      ∀ {α:Type} (m:Md) (e':TypeId) (R:World→α→List Value→Prop) (w:World) (xs:List α),aL m e' sz R w (.slice A n c) xs→aL m e' sz R w (.slice A' (n-k) (c-k)) (xs.drop k):=by
  subst hlo
  exact dR t e sz ht hi hsz A n c k hk
open Go.RowKit
theorem nh{w:World}:Calls Tryz.prog 228 #[] w (cY (.agg (i5 256)) w):=by
 refine en 23 Tryz.func228 rfl<|sg<|L0<|bH (i5 0) fun c G o p q=>ng<|L0<|bH (i5 0) fun a r s t u=>nt<|sq<|sg<|?_
 refine Pl 1<|nt<|bk<|?_
 refine iM (fun x=>[(0,.pointer (some ⟨c,0,none⟩)),(1,.pointer (some ⟨a,0,none⟩)),(4,.int .i64 ((x:Nat) : Int))]) (fun(x:Nat) w'=>aC [a] r w'∧w'.heap[a]? = some (.cells (i5 x) 233 (0,0))∧(x≤256)) (fun x=>256-x) 0 ⟨aC.refl _ _,t,(by(try dsimp only);omega)⟩ ?_
 rintro i g ⟨h,v,y⟩
 refine iL [(0,.pointer (some ⟨c,0,none⟩)),(1,.pointer (some ⟨a,0,none⟩)),(4,.int .i64 ((i:Nat) : Int))] ?_
 have j:g.heap[a]? = some (.cells (i5 i) 233 (0,0)):=v
 have H:i≤256:=y
 refine sg<|Pl 1<|nt<|sq<|?_
 have l:=ud u h s
 have m:=aD q l
 refine cb ((decide (((i:Nat) : Int)<256))) (fun e=>?_) (fun e=>?_)
 have z:=of_decide_eq_true e
 refine bi<|sq<|bk<|sg<|Pl 2<|ng<|Pl 1<|L0<|Oe (.int .u16 (IntKind.u16.wrap ((i:Nat) : Int))) (.int .u16 ((ff 0 i:Nat) : Int)) (congrArg (Value.int .u16) (jE (x:=((i:Nat) : Int)) (by omega)))<|Pl 1<|nl<|?_
 refine tn<|sq<|sg<|Pl 1<|nt<|bk<|?_
 refine iM (fun x=>[(0,.pointer (some ⟨c,0,none⟩)),(1,.pointer (some ⟨a,0,none⟩)),(2,.int .i64 ((i:Nat) : Int)),(3,.int .u16 ((ff x i:Nat) : Int)),(4,.int .i64 ((i:Nat) : Int)),(5,.bool (decide (((i:Nat) : Int)<256))),(6,.int .i64 ((i:Nat) : Int)),(7,.int .i64 ((i:Nat) : Int)),(8,.int .u16 ((ff 0 i:Nat) : Int)),(9,.int .i64 ((x:Nat) : Int))]) (fun(x:Nat) w'=>aC [] g w'∧(x≤8)) (fun x=>8-x) 0 ⟨aC.refl _ _,(by(try dsimp only);omega)⟩ ?_
 rintro k I ⟨d,A⟩
 refine iL [(0,.pointer (some ⟨c,0,none⟩)),(1,.pointer (some ⟨a,0,none⟩)),(2,.int .i64 ((i:Nat) : Int)),(3,.int .u16 ((ff k i:Nat) : Int)),(4,.int .i64 ((i:Nat) : Int)),(5,.bool (decide (((i:Nat) : Int)<256))),(6,.int .i64 ((i:Nat) : Int)),(7,.int .i64 ((i:Nat) : Int)),(8,.int .u16 ((ff 0 i:Nat) : Int)),(9,.int .i64 ((k:Nat) : Int))] ?_
 have J:k≤8:=A
 have K:=iv (x:=i) (by omega) k
 refine sg<|Pl 1<|nt<|sq<|?_
 have L:=aD m d
 refine cb ((decide (((k:Nat) : Int)<8))) (fun f=>?_) (fun f=>?_)
 have B:=of_decide_eq_true f
 refine bi<|sq<|bk<|go<|Pl 1<|L0<|Oe (.int .u16 (Int.fdiv ((ff k i:Nat) : Int) (2 ^ 1))) (.int .u16 (((ff k i:Nat) : Int)/2)) (congrArg (Value.int .u16) (nE _ _ _ (by decide)))<|Pl 1<|L0<|Oe (.int .u16 (bits .and .u16 ((ff k i:Nat) : Int) 1)) (.int .u16 (((ff k i:Nat) : Int)%2)) (congrArg (Value.int .u16) (uB (by omega)))<|Pl 1<|L0<|Oe (.int .u16 (bits .xor .u16 (((ff k i:Nat) : Int)/2) (((((ff k i:Nat) : Int)%2)*40961)%65536))) (.int .u16 ((ff (k+1) i:Nat) : Int)) (congrArg (Value.int .u16) ((nj (by omega) (by omega)).trans (vQ _)))<|Pl 1<|nl<|bn<|?_
 exact tn<|go<|L0<|Oi (((k:Nat) : Int)+1)<|Pl 1<|nl<|gE (k+1) ⟨d,(by(try dsimp only);omega)⟩ (by omega)
 have B:=of_decide_eq_false f
 refine xt<|tx<|tx<|bx<|tn<|go<|Pl 2<|L0<|zS (b:=a) (off:=0) 256 i ((i:Nat) : Int) rfl (by omega)<|?_
 refine L0<|bX (hl:=(by rw[ej];simp;omega)) (ub d j) (0+i) ((i5 i).setIfInBounds (0+i) (.int .u16 ((ff k i:Nat) : Int))) fun M C D=>?_
 have n:=C
 rw[Nat.zero_add,tR (by omega) (by omega)] at n
 refine nl<|bn<|tn<|go<|L0<|Oi (((i:Nat) : Int)+1)<|Pl 1<|nl<|?_
 exact gE (i+1) ⟨(u1 h (uz d D) im),n,(by(try dsimp only);omega)⟩ (by omega)
 have z:=of_decide_eq_false e
 refine xt<|tx<|tx<|bx<|tn<|sg<|L0<|bM (hz:=(by rw[ej];kernel_rfl)) j<|?_
 refine L0<|b7 (hz:=(by rw[ej];kernel_rfl)) (hv:=(by rw[ej,ej])) (h1:=(oV _)) (ub l p) ((i5 i)) fun N E F=>nt<|rt<|zo 256 (ej _) E<|?_
 have hi:i=256:=by omega
 subst hi
 exact⟨rfl,(ud m F o)⟩
theorem nC{m:Md}{A:Option Addr}{cp:Nat}{b:List Int}{w:World}{s:Int}(hsl:b9 m w (.slice A b.length cp) b)(hs:0≤s∧s<65536) :
    Calls Tryz.prog 180 #[.int .u16 s,.slice A b.length cp] w (cY (.int .u16 (bU s b)) w):=by
 have hln:=aL.len hsl
 have hb:=b9.range hsl
 refine en 26 Tryz.func180 rfl<|sg<|Pl 1<|ng<|L0<|Oc<|m1 (@nh w) fun D g=>L0<|bH (i5 0) fun c E h j l=>L0<|b7 (hz:=(by rw[ej];kernel_rfl)) (hv:=(by rw[ej,ej])) (h1:=(oV _)) j ((i5 256)) fun n o q=>nt<|sq<|?_
 refine sg<|Pl 3<|nt<|bk<|?_
 refine iM (fun x=>[(0,.int .u16 (dT s b x)),(4,.int .u16 0),(5,.pointer (some ⟨c,0,none⟩)),(9,.slice A b.length cp),(10,.int .i64 ((b.length:Nat) : Int)),(11,.int .i64 ((x:Nat) : Int))]) (fun(x:Nat) w'=>aC [] n w'∧(x≤b.length)∧(0≤dT s b x∧dT s b x<65536)) (fun x=>b.length-x) 0 ⟨aC.refl _ _,(by(try dsimp only);omega),hs⟩ ?_
 rintro k F ⟨d,r,t⟩
 refine iL [(0,.int .u16 (dT s b k)),(4,.int .u16 0),(5,.pointer (some ⟨c,0,none⟩)),(9,.slice A b.length cp),(10,.int .i64 ((b.length:Nat) : Int)),(11,.int .i64 ((k:Nat) : Int))] ?_
 have G:k≤b.length:=r
 have H:0≤dT s b k∧dT s b k<65536:=t
 refine sg<|Pl 1<|nt<|sq<|?_
 have f:=aD g (ud l (aD q d) h)
 refine cb ((decide (((k:Nat) : Int)<((b.length:Nat) : Int)))) (fun e=>?_) (fun e=>?_)
 have u:=of_decide_eq_true e
 refine bi<|sq<|bk<|sg<|?_
 refine gj (b9.at_ (b9.old hsl f) k (by omega)) fun y z B C I=>L0<|m0 b.length k B (by omega)<|L0<|eq (p:=⟨y,z+k,none⟩) (v:=.int .u8 (b.getD k 0)) C<|Pl 1<|nt<|go<|Pl 1<|L0<|Oe (.int .u16 (Int.fdiv (dT s b k) (2 ^ 8))) (.int .u16 ((dT s b k)/256)) (congrArg (Value.int .u16) (nE _ _ _ (by decide)))<|Pl 3<|?_
 have J:=Aa (a:=((dT s b k)%256)) (b:=(b.getD k 0)) (by omega) (by omega)
 refine L0<|Oe (.int .u8 (bits .xor .u8 ((dT s b k)%256) (b.getD k 0))) (.int .u8 (xi ((dT s b k)%256) (b.getD k 0))) (congrArg (Value.int .u8) (yH (by omega) (by omega)))<|L0<|zS (b:=c) (off:=0) 256 (((xi ((dT s b k)%256) (b.getD k 0))).toNat) (xi ((dT s b k)%256) (b.getD k 0)) (by omega) (by omega)<|?_
 have K:=ou (i:=(xi ((dT s b k)%256) (b.getD k 0))) (by omega)
 exact L0<|eq (p:=⟨c,0+((xi ((dT s b k)%256) (b.getD k 0))).toNat,none⟩) (v:=.int .u16 (kv ((xi ((dT s b k)%256) (b.getD k 0))))) (ae (ub d o) (by rw[Nat.zero_add,vn (by omega),t9 (by omega)]))<|L0<|Oe (.int .u16 (bits .xor .u16 ((dT s b k)/256) (kv (xi ((dT s b k)%256) (b.getD k 0))))) (.int .u16 (dT s b (k+1))) (congrArg (Value.int .u16) (nj (by omega) (ou (by omega))))<|Pl 1<|nl<|bn<|tn<|go<|L0<|Oi (((k:Nat) : Int)+1)<|Pl 1<|nl<|gE (k+1) ⟨d,(by(try dsimp only);omega),(jo hs hb _)⟩ (by omega)
 have u:=of_decide_eq_false e
 refine xt<|tx<|tx<|bx<|tn<|sg<|Pl 2<|nt<|rt<|rr (.int .u16 (dT s b k))<|?_
 have hk:dT s b k=bU s b:=pa (by omega)
 rw[hk]
 exact⟨rfl,f⟩
theorem oY{m:Md}{v:Value}{b:List Int}{w:World}(h:b9 m w v b) : Calls Tryz.prog 180 #[.int .u16 65535,v] w (cY (.int .u16 (bU 65535 b)) w):=by
  obtain⟨A,cp,rfl,_,_⟩:=h.shape
  exact nC h (by decide)
theorem ql{m:Md}{A:Option Addr}{cp:Nat}{b:List Int}{w:World}(hsl:b9 m w (.slice A b.length cp) b) :
    Calls Tryz.prog 119 #[.slice A b.length cp] w (cY (.int .u16 (bU 65535 b)) w):=by
 refine en 5 Tryz.func119 rfl<|sg<|Pl 1<|ng<|Pl 1<|L0<|Oc<|m1 (oY hsl) fun c a=>Pl 1<|nt<|rt<|?_
 refine rr (.int .u16 (bU 65535 b))<|?_
 exact⟨rfl,a⟩
theorem jz{m:Md}{v:Value}{b:List Int}{w:World}(h:b9 m w v b) : Calls Tryz.prog 119 #[v] w (cY (.int .u16 (bU 65535 b)) w):=by
  obtain⟨A,cp,rfl,_,_⟩:=h.shape
  exact ql h
theorem gO{w:World}{s:Int}(hs:0≤s∧s<65536) : Calls Tryz.prog 118 #[.int .u16 s] w (fun e w'=>∃ v,e = .returned v∧eG w.heap.size w' v (bW s)∧aC [] w w'):=by
 refine en 9 Tryz.func118 rfl<|sg<|Pl 1<|ng<|Pl 3<|L0<|Oe (.int .u16 (Int.fdiv s (2 ^ 8))) (.int .u16 (s/256)) (congrArg (Value.int .u16) (nE _ _ _ (by decide)))<|Pl 1<|L0<|cL (m:=2) (e:=5) #[.int .u8 (s%256),.int .u8 ((s/256)%256)] fun a g b c d=>?_
 have f:=cG b (xs:=[(s%256),((s/256)%256)]) (by as_aux_lemma=>kernel_rfl) (au (by omega) (au (by omega) aK)) (by(try simp only[List.length_cons,List.length_nil]);omega) c
 refine Pl 1<|nt<|rt<|rr (.slice (some ⟨a,0,none⟩) 2 2)<|?_
 exact⟨_,rfl,f,d⟩
theorem kJ{b:List Int}{n:Nat}(h:2≤b.length)(hn:n=b.length-2) : dl b=decide (bW (bU 65535 (b.take n))=b.drop n):=by
  subst hn
  unfold dl
  simp[h]
theorem vA{b:List Int}(h:b.length<2) : dl b=false:=by
  unfold dl
  simp
  omega
theorem pq{m:Md}{A:Option Addr}{cp:Nat}{b:List Int}{w:World}(hsl:b9 m w (.slice A b.length cp) b)(hb:b.length≤1048576)(hcp:b.length≤cp) :
    Calls Tryz.prog 116 #[.slice A b.length cp] w (cY (.bool (dl b)) w):=by
 have hc:=aL.len hsl
 refine en 22 Tryz.func116 rfl<|sg<|Pl 1<|ng<|Pl 2<|L0<|Oi (((b.length:Nat) : Int)-2)<|Pl 1<|nt<|sq<|?_
 refine Rg 16 (fun w'=>True) fun R f=>bg trivial fun d=>Rt 0 d<|Rt 1 d<|Rt 2 d<|ru 9 ((decide (0≤(((b.length:Nat) : Int)-2)))) (fun p=>?_) (fun p=>?_)
 have I:=of_decide_eq_true p
 refine Rt 3 d<|Rt 4 d<|nF (wM (P:=Tryz.prog) 22 5 1 Tryz.underlying22 rfl rfl A b.length cp (k:=(((b.length:Nat) : Int)-2)) (((((b.length:Nat) : Int)-2)).toNat) (by omega) (by omega) (by omega)) fun q hrun60 i=>Rr 5 d (.slice q (((((b.length:Nat) : Int)-2)).toNat) cp) (fun _ _=>oU (kl:=.i64) (k:=(((b.length:Nat) : Int)-2)) (A:=A) (n:=b.length) (c:=cp) rfl Tryz.underlying22 (by kernel_rfl) (by kernel_rfl) (hrun60 _ _))<|Rt 9 d<|Rt 10 d<|nF (s7 (P:=Tryz.prog) 22 5 1 Tryz.underlying22 rfl rfl A b.length cp (lo:=(((b.length:Nat) : Int)-2)) (((((b.length:Nat) : Int)-2)).toNat) (by omega) (by omega)) fun g hrun63 e=>Rr 11 d (.slice g (b.length-(((((b.length:Nat) : Int)-2)).toNat)) (cp-(((((b.length:Nat) : Int)-2)).toNat))) (fun _ _=>ef (kl:=.i64) (k:=(((b.length:Nat) : Int)-2)) (A:=A) (n:=b.length) (c:=cp) rfl Tryz.underlying22 (by kernel_rfl) (by kernel_rfl) (hrun63 _ _))<|?_
 refine R2 6 12 rfl rfl ?_ ?_
 have h:=b9.old hsl f
 refine  Oc (args:=#[.slice q (((((b.length:Nat) : Int)-2)).toNat) cp])<|m1 (jz (i _ _ _ _ _ h)) fun S j=>?_
 have T:=gD (b.take (((((b.length:Nat) : Int)-2)).toNat)) (s:=65535) (by decide) (b9.range (i _ _ _ _ _ h))
 refine bg trivial fun U=>?_
 refine R2 7 12 rfl rfl ?_ ?_
 refine  Oc<|du (gO (s:=(bU 65535 (b.take (((((b.length:Nat) : Int)-2)).toNat)))) (by omega)) fun x y V l W X z=>bg trivial fun Y=>?_
 refine R2 8 12 rfl rfl ?_ ?_
 refine  ju (.string (strOfNums (bW (bU 65535 (b.take (((((b.length:Nat) : Int)-2)).toNat)))))) (cP (A:=x) (n:=(bW (bU 65535 (b.take (((((b.length:Nat) : Int)-2)).toNat)))).length) (c:=y) rfl (by kernel_rfl) Tryz.underlying22 Tryz.underlying5 Tryz.underlying9 (l).rd)<|bg trivial fun Z=>?_
 have B:=aD j z
 have C:=b9.old h B
 refine R0 12 rfl<|ju (.string (strOfNums (b.drop (((((b.length:Nat) : Int)-2)).toNat)))) (cP (A:=g) (n:=(b.length-(((((b.length:Nat) : Int)-2)).toNat))) (c:=(cp-(((((b.length:Nat) : Int)-2)).toNat))) rfl (by kernel_rfl) Tryz.underlying22 Tryz.underlying5 Tryz.underlying9 (e _ _ _ _ _ C))<|bg trivial fun r=>Rr 13 r (.bool (decide ((bW (bU 65535 (b.take (((((b.length:Nat) : Int)-2)).toNat))))=(b.drop (((((b.length:Nat) : Int)-2)).toNat))))) (fun _ _=>fL (a:=(strOfNums (bW (bU 65535 (b.take (((((b.length:Nat) : Int)-2)).toNat)))))) (b:=(strOfNums (b.drop (((((b.length:Nat) : Int)-2)).toNat)))) rfl (by kernel_rfl) (by kernel_rfl) (iV (l).rd (e _ _ _ _ _ C)))<|Rt 14 r<|Rt 15 r<|re<|tn<|rt<|rr (.bool (decide ((bW (bU 65535 (b.take (((((b.length:Nat) : Int)-2)).toNat))))=(b.drop (((((b.length:Nat) : Int)-2)).toNat)))))<|?_
 have hs:dl b=(decide ((bW (bU 65535 (b.take (((((b.length:Nat) : Int)-2)).toNat))))=(b.drop (((((b.length:Nat) : Int)-2)).toNat)))):=(kJ (by omega) (by omega))
 rw[hs]
 exact⟨rfl,(aD f B)⟩
 have D:=aD j z
 have E:=b9.old h D
 refine  ju (.string (strOfNums (b.drop (((((b.length:Nat) : Int)-2)).toNat)))) (cP (A:=g) (n:=(b.length-(((((b.length:Nat) : Int)-2)).toNat))) (c:=(cp-(((((b.length:Nat) : Int)-2)).toNat))) rfl (by kernel_rfl) Tryz.underlying22 Tryz.underlying5 Tryz.underlying9 (e _ _ _ _ _ E))<|bg trivial fun a0=>R0 8 rfl<|ju (.string (strOfNums (bW (bU 65535 (b.take (((((b.length:Nat) : Int)-2)).toNat)))))) (cP (A:=x) (n:=(bW (bU 65535 (b.take (((((b.length:Nat) : Int)-2)).toNat)))).length) (c:=y) rfl (by kernel_rfl) Tryz.underlying22 Tryz.underlying5 Tryz.underlying9 (l).rd)<|bg trivial fun t=>Rr 13 t (.bool (decide ((bW (bU 65535 (b.take (((((b.length:Nat) : Int)-2)).toNat))))=(b.drop (((((b.length:Nat) : Int)-2)).toNat))))) (fun _ _=>fL (a:=(strOfNums (bW (bU 65535 (b.take (((((b.length:Nat) : Int)-2)).toNat)))))) (b:=(strOfNums (b.drop (((((b.length:Nat) : Int)-2)).toNat)))) rfl (by kernel_rfl) (by kernel_rfl) (iV (l).rd (e _ _ _ _ _ E)))<|Rt 14 t<|Rt 15 t<|re<|tn<|rt<|rr (.bool (decide ((bW (bU 65535 (b.take (((((b.length:Nat) : Int)-2)).toNat))))=(b.drop (((((b.length:Nat) : Int)-2)).toNat)))))<|?_
 have hs:dl b=(decide ((bW (bU 65535 (b.take (((((b.length:Nat) : Int)-2)).toNat))))=(b.drop (((((b.length:Nat) : Int)-2)).toNat)))):=(kJ (by omega) (by omega))
 rw[hs]
 exact⟨rfl,(aD f D)⟩
 have F:=b9.old h j
 refine  ju (.string (strOfNums (b.drop (((((b.length:Nat) : Int)-2)).toNat)))) (cP (A:=g) (n:=(b.length-(((((b.length:Nat) : Int)-2)).toNat))) (c:=(cp-(((((b.length:Nat) : Int)-2)).toNat))) rfl (by kernel_rfl) Tryz.underlying22 Tryz.underlying5 Tryz.underlying9 (e _ _ _ _ _ F))<|bg trivial fun a1=>R0 7 rfl<|Oc<|du (gO (s:=(bU 65535 (b.take (((((b.length:Nat) : Int)-2)).toNat)))) (by omega)) fun J K a2 G a3 a4 L=>bg trivial fun a5=>R0 8 rfl<|ju (.string (strOfNums (bW (bU 65535 (b.take (((((b.length:Nat) : Int)-2)).toNat)))))) (cP (A:=J) (n:=(bW (bU 65535 (b.take (((((b.length:Nat) : Int)-2)).toNat)))).length) (c:=K) rfl (by kernel_rfl) Tryz.underlying22 Tryz.underlying5 Tryz.underlying9 (G).rd)<|bg trivial fun u=>Rr 13 u (.bool (decide ((bW (bU 65535 (b.take (((((b.length:Nat) : Int)-2)).toNat))))=(b.drop (((((b.length:Nat) : Int)-2)).toNat))))) (fun _ _=>fL (a:=(strOfNums (bW (bU 65535 (b.take (((((b.length:Nat) : Int)-2)).toNat)))))) (b:=(strOfNums (b.drop (((((b.length:Nat) : Int)-2)).toNat)))) rfl (by kernel_rfl) (by kernel_rfl) (iV (G).rd (e _ _ _ _ _ F)))<|Rt 14 u<|Rt 15 u<|re<|tn<|rt<|rr (.bool (decide ((bW (bU 65535 (b.take (((((b.length:Nat) : Int)-2)).toNat))))=(b.drop (((((b.length:Nat) : Int)-2)).toNat)))))<|?_
 have hs:dl b=(decide ((bW (bU 65535 (b.take (((((b.length:Nat) : Int)-2)).toNat))))=(b.drop (((((b.length:Nat) : Int)-2)).toNat)))):=(kJ (by omega) (by omega))
 rw[hs]
 exact⟨rfl,(aD f (aD j L))⟩
 have o:=b9.old hsl f
 refine  ju (.string (strOfNums (b.drop (((((b.length:Nat) : Int)-2)).toNat)))) (cP (A:=g) (n:=(b.length-(((((b.length:Nat) : Int)-2)).toNat))) (c:=(cp-(((((b.length:Nat) : Int)-2)).toNat))) rfl (by kernel_rfl) Tryz.underlying22 Tryz.underlying5 Tryz.underlying9 (e _ _ _ _ _ o))<|bg trivial fun a6=>R0 6 rfl<|Oc (args:=#[.slice q (((((b.length:Nat) : Int)-2)).toNat) cp])<|m1 (jz (i _ _ _ _ _ o)) fun a7 M=>?_
 have a8:=gD (b.take (((((b.length:Nat) : Int)-2)).toNat)) (s:=65535) (by decide) (b9.range (i _ _ _ _ _ o))
 refine bg trivial fun a9=>R0 7 rfl<|Oc<|du (gO (s:=(bU 65535 (b.take (((((b.length:Nat) : Int)-2)).toNat)))) (by omega)) fun N O aa H ab ac Q=>bg trivial fun ad=>R0 8 rfl<|ju (.string (strOfNums (bW (bU 65535 (b.take (((((b.length:Nat) : Int)-2)).toNat)))))) (cP (A:=N) (n:=(bW (bU 65535 (b.take (((((b.length:Nat) : Int)-2)).toNat)))).length) (c:=O) rfl (by kernel_rfl) Tryz.underlying22 Tryz.underlying5 Tryz.underlying9 (H).rd)<|bg trivial fun v=>Rr 13 v (.bool (decide ((bW (bU 65535 (b.take (((((b.length:Nat) : Int)-2)).toNat))))=(b.drop (((((b.length:Nat) : Int)-2)).toNat))))) (fun _ _=>fL (a:=(strOfNums (bW (bU 65535 (b.take (((((b.length:Nat) : Int)-2)).toNat)))))) (b:=(strOfNums (b.drop (((((b.length:Nat) : Int)-2)).toNat)))) rfl (by kernel_rfl) (by kernel_rfl) (iV (H).rd (e _ _ _ _ _ o)))<|Rt 14 v<|Rt 15 v<|re<|tn<|rt<|rr (.bool (decide ((bW (bU 65535 (b.take (((((b.length:Nat) : Int)-2)).toNat))))=(b.drop (((((b.length:Nat) : Int)-2)).toNat)))))<|?_
 have hs:dl b=(decide ((bW (bU 65535 (b.take (((((b.length:Nat) : Int)-2)).toNat))))=(b.drop (((((b.length:Nat) : Int)-2)).toNat)))):=(kJ (by omega) (by omega))
 rw[hs]
 exact⟨rfl,(aD f (aD M Q))⟩
 have I:=of_decide_eq_false p
 refine Ro 3 d<|Ro 4 d<|Ro 5 d<|Ro 6 d<|Ro 7 d<|Ro 8 d<|Ro 9 d<|Ro 10 d<|Ro 11 d<|Ro 12 d<|Ro 13 d<|Rt 14 d<|Rt 15 d<|re<|?_
 refine tn<|rt<|rr (.bool false)<|?_
 have hs:dl b=false:=(vA (by omega))
 rw[hs]
 exact⟨rfl,f⟩
theorem sL{m:Md}{v:Value}{b:List Int}{w:World}(h:b9 m w v b)(hb:b.length≤1048576) : Calls Tryz.prog 116 #[v] w (cY (.bool (dl b)) w):=by
  obtain⟨A,cp,rfl,hc,_⟩:=h.shape
  exact pq h hb hc
open Go.RowKit
def fm (b:List Int) : List Int:=(b.take (b.length-2)).drop 1
theorem gW(b:List Int) : fm b=(b.take (((b.length:Nat) : Int)-2).toNat).drop 1:=by
  unfold fm
  rw[show(((b.length:Nat) : Int)-2).toNat=b.length-2 from by omega]
def dU (dir:Int)(b:List Int) : ig × Int :=
  if dir != 0&&dir != 1 then (ig.zero,1)
  else if decide ((b.length:Int)<4) then (ig.zero,2)
  else if decide (256<(b.length:Int)) then (ig.zero,3)
  else if !(dl b) then (ig.zero,10)
  else fC (b.getD 0 0) 0 (cC dir (fm b))
theorem pV{m:Md}{A:Option Addr}{cp:Nat}{b:List Int}{w:World}{dir:Int}(hsl:b9 m w (.slice A b.length cp) b)(hb:b.length≤1048576)(hcp:b.length≤cp) :
    Calls Tryz.prog 50 #[.int .i64 dir,.slice A b.length cp] w (sU (dU dir b) w):=by
 have hln:(b.length:Int)≤1048576:=by omega
 refine en 51 Tryz.func50 rfl<|sg<|L0<|bH #[.int .u8 0,.int .u16 0,.int .u8 0,.int .u8 0,.int .u16 0,.int .u16 0,.int .u16 0,.int .u16 0,.int .u16 0,.int .u16 0,.int .u16 0,.int .u16 0,.int .u16 0,.int .u16 0,.slice none 0 0,.slice none 0 0,.slice none 0 0,.slice none 0 0,.int .u8 0,.int .u8 0,.int .u8 0,.int .u8 0,.int .u8 0,.slice none 0 0] fun aV aX j e B=>Pl 1<|nt<|sq<|bk<|sg<|Pl 3<|cu 3 [11] 14 (((dir != 0)&&(dir != 1))) (fun K O=>?_) ?_
 refine bl 11 ((dir != 0)) (fun C=>?_) (fun C=>?_)
 have a7:=ay C
 exact Pl 3<|ce O (dir != 1) (by rw[C];rfl)
 have a7:=ag C
 exact Pl 3<|ce O false (by rw[C];rfl)
 refine Pl 1<|nt<|cb (((dir != 0)&&(dir != 1))) (fun d=>?_) (fun d=>?_)
 have Q:=(aU d).1
 have R:=(aU d).2
 have aY:=ay Q
 have aZ:=ay R
 refine sg<|Pl 1<|L0<|b7 e #[.int .u8 0,.int .u16 0,.int .u8 0,.int .u8 0,.int .u16 0,.int .u16 0,.int .u16 0,.int .u16 0,.int .u16 0,.int .u16 0,.int .u16 0,.int .u16 0,.int .u16 0,.int .u16 0,.slice none 0 0,.slice none 0 0,.slice none 0 0,.slice none 0 0,.int .u8 0,.int .u8 0,.int .u8 0,.int .u8 0,.int .u8 0,.slice none 0 0] fun b0 a8 a9=>Pl 1<|nt<|rt<|br<|tr<|bN a8 (.int .i64 1)<|?_
 have hs:dU dir b=(ig.zero,1):=by
   unfold dU
   (try simp only[d,Q,R,bs,if_true,if_false,decide_true,decide_false,fC,reduceIte])
   all_goals rfl
 refine mL hs ?_
 exact j0 (ud B a9 j)
 refine sg<|Pl 4<|nt<|cb ((decide (((b.length:Nat) : Int)<4))) (fun f=>?_) (fun f=>?_)
 have aa:=of_decide_eq_true f
 refine sg<|Pl 1<|L0<|b7 e #[.int .u8 0,.int .u16 0,.int .u8 0,.int .u8 0,.int .u16 0,.int .u16 0,.int .u16 0,.int .u16 0,.int .u16 0,.int .u16 0,.int .u16 0,.int .u16 0,.int .u16 0,.int .u16 0,.slice none 0 0,.slice none 0 0,.slice none 0 0,.slice none 0 0,.int .u8 0,.int .u8 0,.int .u8 0,.int .u8 0,.int .u8 0,.slice none 0 0] fun b1 ab ac=>Pl 1<|nt<|rt<|br<|tr<|bN ab (.int .i64 2)<|?_
 have hs:dU dir b=(ig.zero,2):=by
   unfold dU
   (try simp only[d,f,bs,if_true,if_false,decide_true,decide_false,fC,reduceIte])
   all_goals rfl
 refine mL hs ?_
 exact j0 (ud B ac j)
 have aa:=of_decide_eq_false f
 refine sg<|Pl 4<|nt<|cb ((decide (256<((b.length:Nat) : Int)))) (fun h=>?_) (fun h=>?_)
 have ad:=of_decide_eq_true h
 refine sg<|Pl 1<|L0<|b7 e #[.int .u8 0,.int .u16 0,.int .u8 0,.int .u8 0,.int .u16 0,.int .u16 0,.int .u16 0,.int .u16 0,.int .u16 0,.int .u16 0,.int .u16 0,.int .u16 0,.int .u16 0,.int .u16 0,.slice none 0 0,.slice none 0 0,.slice none 0 0,.slice none 0 0,.int .u8 0,.int .u8 0,.int .u8 0,.int .u8 0,.int .u8 0,.slice none 0 0] fun b2 ae af=>Pl 1<|nt<|rt<|br<|tr<|bN ae (.int .i64 3)<|?_
 have hs:dU dir b=(ig.zero,3):=by
   unfold dU
   (try simp only[d,f,h,bs,if_true,if_false,decide_true,decide_false,fC,reduceIte])
   all_goals rfl
 refine mL hs ?_
 exact j0 (ud B af j)
 have ad:=of_decide_eq_false h
 refine sg<|Pl 1<|?_
 have S:=b9.old hsl B
 refine L0<|Oc (args:=#[.slice A b.length cp])<|m1 (sL S (by omega)) fun ah i=>Pl 2<|nt<|?_
 have T:=aD B i
 refine cb ((!(dl b))) (fun k=>?_) (fun k=>?_)
 have G:(dl b)=false:=by simpa using k
 refine sg<|Pl 1<|?_
 refine L0<|b7 (ub i e) #[.int .u8 0,.int .u16 0,.int .u8 0,.int .u8 0,.int .u16 0,.int .u16 0,.int .u16 0,.int .u16 0,.int .u16 0,.int .u16 0,.int .u16 0,.int .u16 0,.int .u16 0,.int .u16 0,.slice none 0 0,.slice none 0 0,.slice none 0 0,.slice none 0 0,.int .u8 0,.int .u8 0,.int .u8 0,.int .u8 0,.int .u8 0,.slice none 0 0] fun b3 ai aj=>Pl 1<|nt<|rt<|br<|tr<|bN ai (.int .i64 10)<|?_
 have hs:dU dir b=(ig.zero,10):=by
   unfold dU
   (try simp only[d,f,h,k,G,bs,if_true,if_false,decide_true,decide_false,fC,reduceIte])
   all_goals rfl
 refine mL hs ?_
 exact j0 (ud T aj j)
 have G:(dl b)=true:=by simpa using k
 refine sk<|bn<|tn<|sg<|Pl 4<|L0<|Oi (((b.length:Nat) : Int)-2)<|nF (iz (P:=Tryz.prog) 22 5 1 Tryz.underlying22 rfl rfl A b.length cp (lo:=1) (up:=(((b.length:Nat) : Int)-2)) 1 (((((b.length:Nat) : Int)-2)).toNat) (by omega) (by omega) (by omega) (by omega) (by omega)) fun ak hrun43 al=>L0<|ju (.slice ak ((((((b.length:Nat) : Int)-2)).toNat)-1) (cp-1)) (ft (kl:=.i64) (kh:=.i64) (lo:=1) (hi:=(((b.length:Nat) : Int)-2)) (A:=A) (n:=b.length) (c:=cp) rfl Tryz.underlying22 (by kernel_rfl) (by kernel_rfl) (by kernel_rfl) (hrun43 _ _ _))<|?_
 obtain⟨a,D,L⟩ : ∃ M E,cC dir ((b.take (((((b.length:Nat) : Int)-2)).toNat)).drop 1)=(M,E):=⟨_,_,rfl⟩
 have U:=b9.old S i
 have V:=rF (dir:=dir) (w:=ah) (al _ _ _ _ _ U) (by rw[List.length_drop,List.length_take];omega)
 rw[L] at V
 refine L0<|Oc<|e2 V fun an b4 W N=>?_
 have ao:=W
 obtain⟨aq,ar,au,av,aw,ax,az,aA,aB,aC,aE,b5⟩:=ao
 obtain rfl:an=(bt a aq ar au av aw).toArray:=by apply Array.toList_inj.1;simpa using ax
 obtain⟨l,o,rfl,_,_⟩:=az.shape
 obtain⟨p,q,rfl,_,_⟩:=aA.shape
 obtain⟨r,s,rfl,_,_⟩:=aB.shape
 obtain⟨t,u,rfl,_,_⟩:=aC.shape
 obtain⟨v,y,rfl,_,_⟩:=aE.shape
 refine Pl 3<|L0<|bH mZ fun X b6 Y aF aI=>L0<|b7 aF (mG a.code a.fail a.addr a.count a.value a.and_ a.or_ a.addr2 a.sub a.status a.events a.messages (.slice l a.words.length o) (.slice p a.bits.length q) (.slice r a.data.length s) (.slice t a.recs.length u) a.mei a.kind a.level a.more a.next (.slice v a.objects.length y)) fun ba aJ aK=>Pl 1<|nt<|sq<|sg<|Pl 2<|nt<|?_
 have Z:=ud aI aK Y
 have H:=aD N Z
 have a0:=aD T H
 refine cb ((D != 0)) (fun F=>?_) (fun F=>?_)
 have aL:=ay F
 refine sg<|Pl 2<|?_
 refine L0<|b7 (ub (aD i H) e) #[.int .u8 0,.int .u16 0,.int .u8 0,.int .u8 0,.int .u16 0,.int .u16 0,.int .u16 0,.int .u16 0,.int .u16 0,.int .u16 0,.int .u16 0,.int .u16 0,.int .u16 0,.int .u16 0,.slice none 0 0,.slice none 0 0,.slice none 0 0,.slice none 0 0,.int .u8 0,.int .u8 0,.int .u8 0,.int .u8 0,.int .u8 0,.slice none 0 0] fun bb aM aN=>Pl 1<|nt<|rt<|tr<|bN aM (.int .i64 D)<|?_
 have hX2:cC dir (fm b)=(a,D):=(congrArg (cC dir) (gW b)).trans L
 have hs:dU dir b=(ig.zero,D):=by
   unfold dU
   (try simp only[d,f,h,k,G,F,bs,if_true,if_false,decide_true,decide_false,fC,hX2,reduceIte])
   all_goals rfl
 refine mL hs ?_
 exact j0 (ud a0 aN j)
 have aL:=ag F
 refine bi<|sq<|?_
 refine gj (b9.at_ (b9.old U H) 0 (by omega)) fun aO aP a1 aQ bc=>Rg 8 (fun w'=>w'.cell? ⟨aO,aP+0,none⟩=some (.int .u8 (b.getD 0 0))∧w'.heap[X]? = some (.cells (mG a.code a.fail a.addr a.count a.value a.and_ a.or_ a.addr2 a.sub a.status a.events a.messages (.slice l a.words.length o) (.slice p a.bits.length q) (.slice r a.data.length s) (.slice t a.recs.length u) a.mei a.kind a.level a.more a.next (.slice v a.objects.length y)) 30 (0,0))) fun bd I=>?_
 have a2:=ub I aJ
 refine bg ⟨(uc I aQ),a2⟩ fun z=>Rt 0 z<|oh 1 z b.length 0 0 rfl a1 (by omega)<|Rl 2 z (fun _ hs=>hs.1)<|Rt 3 z<|Rr 4 z (.agg (mG a.code a.fail a.addr a.count a.value a.and_ a.or_ a.addr2 a.sub a.status a.events a.messages (.slice l a.words.length o) (.slice p a.bits.length q) (.slice r a.data.length s) (.slice t a.recs.length u) a.mei a.kind a.level a.more a.next (.slice v a.objects.length y))) (fun w' hs=>l6 (g:=X) (off:=0) [.int .u8 a.code,.int .u8 a.fail,.int .u16 a.addr,.int .u16 a.count,.int .u16 a.value,.int .u16 a.and_,.int .u16 a.or_,.int .u16 a.addr2,.int .u16 a.sub,.int .u16 a.status,.int .u16 a.events,.int .u16 a.messages,.slice l a.words.length o,.slice p a.bits.length q,.slice r a.data.length s,.slice t a.recs.length u,.int .u8 a.mei,.int .u8 a.kind,.int .u8 a.level,.int .u8 a.more,.int .u8 a.next,.slice v a.objects.length y] rfl (by kernel_rfl) hs.2 (by kernel_rfl) (by kernel_rfl) rfl)<|Rt 5 z<|?_
 have a3:=aD H I
 have a4:=aD i a3
 refine R0 6 rfl<|b7 (ub a4 e) #[.int .u8 (b.getD 0 0),.int .u16 0,.int .u8 a.code,.int .u8 a.fail,.int .u16 a.addr,.int .u16 a.count,.int .u16 a.value,.int .u16 a.and_,.int .u16 a.or_,.int .u16 a.addr2,.int .u16 a.sub,.int .u16 a.status,.int .u16 a.events,.int .u16 a.messages,.slice l a.words.length o,.slice p a.bits.length q,.slice r a.data.length s,.slice t a.recs.length u,.int .u8 a.mei,.int .u8 a.kind,.int .u8 a.level,.int .u8 a.more,.int .u8 a.next,.slice v a.objects.length y] fun be aR J=>?_
 have a5:=uz I J
 have bf:=uz a3 J
 have bh:=uz a4 J
 have a6:=ud a0 a5 j
 refine bg ⟨(cB (b9.old hsl a6) a1 0 (by omega)),(aW J (Ne.symm (nb (am e) (le i.size N.size) Y)) a2)⟩ fun aS=>Rt 7 aS<|re<|tn<|rt<|bN aR (.int .i64 0)<|?_
 have hX2:cC dir (fm b)=(a,D):=(congrArg (cC dir) (gW b)).trans L
 have hs:dU dir b=(⟨(b.getD 0 0),0,a⟩,0):=by
   unfold dU
   (try simp only[d,f,h,k,G,F,bs,if_true,if_false,decide_true,decide_false,fC,hX2,reduceIte])
   all_goals rfl
 refine mL hs ?_
 exact⟨_,rfl,⟨#[.int .u8 a.code,.int .u8 a.fail,.int .u16 a.addr,.int .u16 a.count,.int .u16 a.value,.int .u16 a.and_,.int .u16 a.or_,.int .u16 a.addr2,.int .u16 a.sub,.int .u16 a.status,.int .u16 a.events,.int .u16 a.messages,.slice l a.words.length o,.slice p a.bits.length q,.slice r a.data.length s,.slice t a.recs.length u,.int .u8 a.mei,.int .u8 a.kind,.int .u8 a.level,.int .u8 a.more,.int .u8 a.next,.slice v a.objects.length y],(by as_aux_lemma=>kernel_rfl),(aH.upd W (uz Z a5) (ap (aT (ub (aD i N) e) (by decide)) aG)),b8 (x:=(b.getD 0 0)) (by omega),el (x:=0) (by omega)⟩,a6⟩
theorem sF{m:Md}{v:Value}{b:List Int}{w:World}{dir:Int}(h:b9 m w v b)(hb:b.length≤1048576) : Calls Tryz.prog 50 #[.int .i64 dir,v] w (sU (dU dir b) w):=by
  obtain⟨A,cp,rfl,hc,_⟩:=h.shape
  exact pV h hb hc
open Go.RowKit
theorem uV(a b c d:Int)(w:World) : (Op.equalIn 10000 42 (.agg #[.int .u8 a,.int .u16 b]) (.agg #[.int .u8 c,.int .u16 d])).run Tryz.prog w = .ok ((a==c)&&(b==d)) w:=by
  have hS:Tryz.prog.underlying 42=some (.struct (Tryz.prog.fieldsOf 42)):=by kernel_rfl
  have hp:Tryz.prog.stoodInHeld 42=false:=by kernel_rfl
  rw[show(10000:Nat)=9998+1+1 from rfl,run_equalIn_agg w (9998+1) 42 _ _ hS hp]
  simp only[Program.fieldsOf,Tryz.underlying42]
  have p0:∀ v:Int,(part 5 #[.int .u8 v,.int .u16 b] 0).run Tryz.prog w = .ok (.int .u8 v) w:=fun v=>by simp[part,isAgg,run_underlying Tryz.underlying5,Result.andThen]
  have p0':∀ v:Int,(part 5 #[.int .u8 v,.int .u16 d] 0).run Tryz.prog w = .ok (.int .u8 v) w:=fun v=>by simp[part,isAgg,run_underlying Tryz.underlying5,Result.andThen]
  have p1:∀ v u:Int,(part 24 #[.int .u8 u,.int .u16 v] 1).run Tryz.prog w = .ok (.int .u16 v) w:=fun v u=>by simp[part,isAgg,run_underlying Tryz.underlying24,Result.andThen]
  have e0:=run_equalIn_int (P:=Tryz.prog) w 9998 5 .u8 _ a c Tryz.underlying5
  have e1:=run_equalIn_int (P:=Tryz.prog) w 9998 24 .u16 _ b d Tryz.underlying24
  simp only[Op.eqFields,Sem.run_bind,p0,p0',p1,e0,e1,Result.andThen_ok,ne_eq,String.reduceEq,not_false_eq_true,if_true,Sem.run_ite]
  cases (a==c)<;>cases (b==d)<;>simp
theorem ln{ev:Operand→Value}{o:Oper}{x y:Operand}{t:TypeId}(a b c d:Int){v:Bool}{w:World}(ho:o.op = .binOp .neq 42 x y t)
    (hx:ev x = .agg #[.int .u8 a,.int .u16 b]) (hy:ev y = .agg #[.int .u8 c,.int .u16 d]) (hv:(!((a==c)&&(b==d)))=v) : (execOp ev o).run Tryz.prog w = .ok (.value (.bool v)) w:=by
  subst hv
  have hg:(eqGuard .neq 42 x y (.agg #[.int .u8 a,.int .u16 b]) (.agg #[.int .u8 c,.int .u16 d])).run Tryz.prog w = .ok () w:=run_eqGuard_agg w _ _ _ _ _ _ (by kernel_rfl)
  unfold execOp
  simp only[ho,hx,hy,Sem.run_bind,hg,Result.andThen_ok,run_neq_struct,uV,Sem.run_pure]
open Go.RowKit
def i8 (u:Int)(l:List Int) : List Int:=([u]++l)++bW (bU 65535 ([u]++l))
def fN (dir u t:Int)(M:aO) : Option (List Int) :=
  match cz dir M with
  | none=>none
  | some l=>if !((u==u)&&(t==0)) then none else some (i8 u l)
theorem jN{m:Md}{cs:Array Value}{M:aO}{w:World}{dir u t:Int}(h:aH m w cs.toList M)(hf:bR M)(hu:B8 u)(ht:dr t) : Calls Tryz.prog 52 #[.int .i64 dir,.agg (#[.int .u8 u,.int .u16 t]++cs)] w (dw (fN dir u t M) w):=by
 have hM:=h
 obtain⟨hu1,hu2⟩:=hu
 obtain⟨ht1,ht2⟩:=ht
 obtain⟨vw,vb,vd,vr,vo,h0,hw,hbt,hd,hr,ho,hR⟩:=h
 obtain rfl:cs=(bt M vw vb vd vr vo).toArray:=by apply Array.toList_inj.1;simpa using h0
 clear h0
 obtain⟨Aw,kw,rfl,_,_⟩:=hw.shape
 obtain⟨Ab,kb,rfl,_,_⟩:=hbt.shape
 obtain⟨Ad,kd,rfl,_,_⟩:=hd.shape
 obtain⟨Ar,kr,rfl,_,_⟩:=hr.shape
 obtain⟨Ao,ko,rfl,_,_⟩:=ho.shape
 obtain⟨q0,q1,q2,q3,q4,q5,q6,q7,q8,q9,B,C,D,E,F,G,H⟩:=hR
 simp only[B8,dr] at q0 q1 q2 q3 q4 q5 q6 q7 q8 q9 B C D E F G H
 refine en 38 Tryz.func52 rfl<|sg<|L0<|dq #[.int .u8 u,.int .u16 t,.int .u8 M.code,.int .u8 M.fail,.int .u16 M.addr,.int .u16 M.count,.int .u16 M.value,.int .u16 M.and_,.int .u16 M.or_,.int .u16 M.addr2,.int .u16 M.sub,.int .u16 M.status,.int .u16 M.events,.int .u16 M.messages,.slice Aw M.words.length kw,.slice Ab M.bits.length kb,.slice Ad M.data.length kd,.slice Ar M.recs.length kr,.int .u8 M.mei,.int .u8 M.kind,.int .u8 M.level,.int .u8 M.more,.int .u8 M.next,.slice Ao M.objects.length ko] fun U V W k c=>Pl 2<|ng<|Pl 2<|L0<|vL k 2 22<|?_
 rcases hwr:cz dir M with _|lw
 have l:=mA (dir:=dir) (aH.old hM c) hf
 rw[hwr] at l
 refine L0<|Oc<|m1 l fun X I=>Pl 5<|nt<|sq<|sg<|Pl 11<|nt<|c1<|sg<|Pl 2<|nl<|?_
 refine tn<|rt<|tr<|rr (.tuple #[.slice none 0 0,.int .i64 1])<|?_
 have hs:fN dir u t M=none:=by
   unfold fN
   (try simp only[hwr,bs,if_true,if_false,decide_true,decide_false,reduceIte])
   all_goals rfl
 refine dQ hs ?_
 exact⟨rfl,(aD c I)⟩
 have hlw:=ot hwr
 have n:=mA (dir:=dir) (aH.old hM c) hf
 rw[hwr] at n
 refine L0<|Oc<|du n fun Y Z a0 J a1 a2 o=>Pl 5<|nt<|sq<|sg<|Pl 4<|?_
 have g:=ub o k
 refine L1<|vL g 0 2<|Pl 2<|L1<|aN g 0<|Pl 1<|L1<|ju (.bool (!((u==u)&&(t==0)))) (ln u t u 0 rfl (by kernel_rfl) (by kernel_rfl) rfl)<|Pl 1<|nt<|?_
 have i:=aD c o
 refine cb ((!((u==u)&&(t==0)))) (fun a=>?_) (fun a=>?_)
 have b:((u==u)&&(t==0))=false:=by simpa using a
 refine sg<|Pl 2<|nt<|rt<|tr<|rr (.tuple #[.slice none 0 0,.int .i64 1])<|?_
 have hs:fN dir u t M=none:=by
   unfold fN
   (try simp only[hwr,a,b,bs,if_true,if_false,decide_true,decide_false,reduceIte])
   all_goals rfl
 refine dQ hs ?_
 exact⟨rfl,i⟩
 have b:((u==u)&&(t==0))=true:=by simpa using a
 have p:=(aU b).1
 have q:=(aU b).2
 have q33nap:=ah p
 have q33nbp:=ah q
 refine bi<|sg<|Pl 2<|L0<|aN g 0<|L0<|cL (m:=1) (e:=5) #[.int .u8 u] fun K a3 L N d=>?_
 have r:=cG L (xs:=[u]) (by as_aux_lemma=>kernel_rfl) (au (by omega) aK) (by(try simp only[List.length_cons,List.length_nil]);omega) N
 refine Pl 1<|?_
 refine L0<|bS aZ (xs:=([u])) (ys:=lw) (.int .u8 0) 1 r ((aq J d (fun x hx=>aA) (fun _ _ h=>h))).rd (by(try simp only[List.length_append,List.length_cons,List.length_nil,az,iH]);omega) d.size fun j O a4 f v=>Pl 1<|ng<|Pl 2<|L0<|Oc (args:=#[.slice j (([u]++lw).length) O])<|m1 (jz (f).rd) fun a5 y=>?_
 have a6:=gD ([u]++lw) (s:=65535) (by decide) (b9.range (f).rd)
 refine L0<|Oc<|du (gO (s:=(bU 65535 ([u]++lw))) (by omega)) fun a7 a8 a9 P aa ab z=>?_
 have A:=aD y z
 refine L0<|bS aZ (xs:=([u]++lw)) (ys:=(bW (bU 65535 ([u]++lw)))) (.int .u8 0) 1 (aq f A (fun x hx=>aA) (fun _ _ h=>h)) (P).rd (by(try simp only[List.length_append,List.length_cons,List.length_nil,az,iH]);omega) (le (le (le d.size v.size) y.size) z.size) fun Q R ac S T=>Pl 2<|nt<|rt<|rr (.tuple #[.slice Q ((([u]++lw)++(bW (bU 65535 ([u]++lw)))).length) R,.int .i64 0])<|?_
 have hs:fN dir u t M=(some (([u]++lw)++(bW (bU 65535 ([u]++lw))))):=by
   unfold fN
   (try simp only[hwr,a,b,p,q,bs,if_true,if_false,decide_true,decide_false,reduceIte])
   all_goals rfl
 refine dQ hs ?_
 exact⟨_,rfl,(aS.weaken S i.size),(aD i (ut d (ut (aC.mono (S':=(ob (some ⟨K,0,none⟩)++(ob j++[]))) v (av il ax)) (ut (aC.mono (S':=(ob j++[])) A ax) T (av il ax)) (av il ax)) (av (aP r lr) (av (aP f lr) ax))))⟩
open Go.RowKit
theorem oe{m:Md}{v:Value}{b:List Int}{w:World}{dir:Int}{F:ig}{E:Int}(hX:dU dir b=(F,E))(h:b9 m w v b)(hb:b.length≤1048576) : Calls Tryz.prog 50 #[.int .i64 dir,v] w (fun e w'=>∃ x,e = .returned (.tuple #[.agg (qe F.unit F.tid F.msg x),.int .i64 E])∧(aH true w' (p6 F.msg x).toList F.msg∧(0≤F.unit∧F.unit<256)∧(0≤F.tid∧F.tid<65536))∧aC [] w w'):=by
  refine(sF h hb).mono ?_
  rintro e w' ⟨cs,rfl,h1,h2⟩
  rw[hX] at h1 ⊢
  obtain⟨c,rfl,h3,h4,h5⟩:=h1
  obtain⟨x,rfl⟩:=qq h3
  exact⟨x,by rw[nG],⟨h3,h4,h5⟩,h2⟩
theorem p3{m:Md}{x:SL}{M:aO}{w:World}{dir u t:Int}(hX:fN dir u t M=none)(h:aH m w (p6 M x).toList M)(hf:bR M)(hu:0≤u∧u<256)(ht:0≤t∧t<65536) : Calls Tryz.prog 52 #[.int .i64 dir,.agg (qe u t M x)] w (fun e w'=>e = .returned (.tuple #[.slice none 0 0,.int .i64 1])∧aC [] w w'):=by
  have:=jN (dir:=dir) h hf hu ht
  rw[hX] at this
  rw[nG]
  exact this
theorem od{m:Md}{x:SL}{M:aO}{w:World}{dir u t:Int}{l:List Int}(hX:fN dir u t M=some l)(h:aH m w (p6 M x).toList M)(hf:bR M)(hu:0≤u∧u<256)(ht:0≤t∧t<65536) : Calls Tryz.prog 52 #[.int .i64 dir,.agg (qe u t M x)] w (fun e w'=>∃ v,e = .returned (.tuple #[v,.int .i64 0])∧eG w.heap.size w' v l∧aC [] w w'):=by
  have:=jN (dir:=dir) h hf hu ht
  rw[hX] at this
  rw[nG]
  exact this
open Go.RowKit
theorem yL:fN 0 1 0 nB=some [1,7,65,226]:=by decide +kernel
theorem yT:dU 0 [1,7,65,226]=(⟨1,0,nB⟩,0):=by decide +kernel
theorem yz{w:World}:Calls Tryz.prog 52 #[.int .i64 0,.agg #[.int .u8 1,.int .u16 0,.int .u8 7,.int .u8 0,.int .u16 0,.int .u16 0,.int .u16 0,.int .u16 0,.int .u16 0,.int .u16 0,.int .u16 0,.int .u16 0,.int .u16 0,.int .u16 0,.slice none 0 0,.slice none 0 0,.slice none 0 0,.slice none 0 0,.int .u8 0,.int .u8 0,.int .u8 0,.int .u8 0,.int .u8 0,.slice none 0 0]] w (fun e w'=>∃ v,e = .returned (.tuple #[v,.int .i64 0])∧eG w.heap.size w' v [1,7,65,226]∧aC [] w w'):=by
  have h:=jN (dir:=0) (u:=1) (t:=0) (yU w) xl (show(0:Int)≤1∧(1:Int)<256 from by decide) (show(0:Int)≤0∧(0:Int)<65536 from by decide)
  rw[yL] at h
  rw[show #[.int .u8 1,.int .u16 0,.int .u8 7,.int .u8 0,.int .u16 0,.int .u16 0,.int .u16 0,.int .u16 0,.int .u16 0,.int .u16 0,.int .u16 0,.int .u16 0,.int .u16 0,.int .u16 0,.slice none 0 0,.slice none 0 0,.slice none 0 0,.slice none 0 0,.int .u8 0,.int .u8 0,.int .u8 0,.int .u8 0,.int .u8 0,.slice none 0 0] = #[.int .u8 1,.int .u16 0]++mC 7 from by kernel_rfl]
  exact h
theorem vp{w:World}:Calls Tryz.prog 49 #[] w (cY (.bool true) w):=by
 refine en 40 Tryz.func49 rfl<|sg<|Pl 1<|ng<|Pl 3<|L0<|Oc<|du (@yz w) fun l m r e s t o=>Pl 5<|nt<|sq<|?_
 refine go<|Pl 1<|L0<|Oc<|e2 (oe yT (e).rd (by decide)) fun x19 u p d=>?_
 obtain⟨v,y,z⟩:=p
 refine Pl 3<|L0<|bH #[.int .u8 0,.int .u16 0,.int .u8 0,.int .u8 0,.int .u16 0,.int .u16 0,.int .u16 0,.int .u16 0,.int .u16 0,.int .u16 0,.int .u16 0,.int .u16 0,.int .u16 0,.int .u16 0,.slice none 0 0,.slice none 0 0,.slice none 0 0,.slice none 0 0,.int .u8 0,.int .u8 0,.int .u8 0,.int .u8 0,.int .u8 0,.slice none 0 0] fun B C f q g=>L0<|b7 q #[.int .u8 1,.int .u16 0,.int .u8 7,.int .u8 0,.int .u16 0,.int .u16 0,.int .u16 0,.int .u16 0,.int .u16 0,.int .u16 0,.int .u16 0,.int .u16 0,.int .u16 0,.int .u16 0,.slice x19.aw nB.words.length x19.kw,.slice x19.ab nB.bits.length x19.kb,.slice x19.ad nB.data.length x19.kd,.slice x19.ar nB.recs.length x19.kr,.int .u8 0,.int .u8 0,.int .u8 0,.int .u8 0,.int .u8 0,.slice x19.ao nB.objects.length x19.ko] fun D i j=>Pl 1<|ng<|Pl 8<|?_
 refine L1<|ju (.string (strOfNums ([1,7,65,226]))) (cP (A:=l) (n:=[1,7,65,226].length) (c:=m) rfl (by kernel_rfl) Tryz.underlying22 Tryz.underlying5 Tryz.underlying9 ((aq e (u1 (aD d g) j (ni d.size f)) (fun x hx=>aA) (fun _ _ h=>h))).rd)<|L1<|ju (.bool true) (fL (a:=(strOfNums ([1,7,65,226]))) (b:=⟨#[1,7,65,226]⟩) rfl (by kernel_rfl) (by kernel_rfl) (ws rfl (by decide)))<|Pl 4<|L1<|aN i 0<|Pl 5<|L1<|aN i 2<|Pl 3<|nt<|rt<|rr (.bool true)<|?_
 have k:=aD o d
 exact⟨rfl,(u1 (aD k g) j (ni k.size f))⟩
end Go.Proofs.YtogbnemojakcpaaGreat
namespace Go.Proofs.YtogbnemojakcpaaGreat
def eF (C:aj) : Prop:=∀ x,x∈C.l→0≤x∧x<256
theorem fZ{C:aj}{ok:Bool}{x:Int}(hx:x≠0)(h:(C.need ok x).e=0) : C.e=0∧ok=true:=by
  unfold aj.need at h
  split at h
  · exact absurd h hx
  · rename_i hh
    refine⟨h,?_⟩
    cases ok
    · exact absurd ⟨h,rfl⟩ hh
    · rfl
theorem gv{C:aj}{n:Int}(h:(C.bytesC n).e=0) : C.e=0∧C.l=C.bytesR n++(C.bytesC n).l∧((C.bytesR n).length:Int)=n:=by
  unfold aj.bytesC at h ⊢
  unfold aj.bytesR
  split at h
  · exfalso
    unfold aj.need at h
    split at h
    · cases h
    · rename_i hh
      exact hh ⟨h,rfl⟩
  · rename_i hf
    rw[if_neg hf,if_neg hf]
    refine⟨h,(List.take_append_drop _ _).symm,?_⟩
    unfold aj.fails at hf
    simp only[Bool.or_eq_true,decide_eq_true_eq,not_or] at hf
    rw[List.length_take]
    omega
theorem lz:∀ (l:List Int),l.length%2=0→(∀ x,x∈l→0≤x∧x<256)→aJ (di l)=l
  | [],_,_=>rfl
  | [_],h,_=>by simp at h
  | a :: b :: r,h,hr=>by
    have ha:=hr a (by simp)
    have hb:=hr b (by simp)
    simp only[di,aJ]
    rw[lz r (by simp at h;omega) (fun x hx=>hr x (by simp[hx]))]
    congr 1
    · omega
    · congr 1
      omega
theorem jX{C:aj}{n:Int}(hr:eF C)(h:(C.wordsC n).e=0) : C.e=0∧C.l=aJ (C.wordsR n)++(C.wordsC n).l∧((C.wordsR n).length:Int)=n:=by
  unfold aj.wordsC at h ⊢
  unfold aj.wordsR
  split at h
  · obtain⟨_,_,h3⟩:=gv h
    omega
  · rename_i hb
    rw[if_neg hb,if_neg hb]
    obtain⟨h1,h2,h3⟩:=gv h
    have h4:(C.bytesR (2*n)).length%2=0:=by omega
    have h5:∀ x,x∈C.bytesR (2*n)→0≤x∧x<256:=fun x hx=>hr x (by rw[h2];exact List.mem_append_left _ hx)
    unfold cI
    rw[if_pos h4]
    refine⟨h1,by rw[lz _ h4 h5];exact h2,?_⟩
    rw[fq]
    omega
def dk (C:aj)(l:List Int)(C':aj) : Prop:=eF C→eF C'∧(C'.e=0→C.e=0∧C.l=l++C'.l)
theorem dk.trans{A B C:aj}{l m:List Int}(h:dk A l B)(k:dk B m C) : dk A (l++m) C:=fun hr=>by
  obtain⟨h1,h2⟩:=h hr
  obtain⟨k1,k2⟩:=k h1
  refine⟨k1,fun he=>?_⟩
  obtain⟨k3,k4⟩:=k2 he
  obtain⟨h3,h4⟩:=h2 k3
  exact⟨h3,by rw[h4,k4,List.append_assoc]⟩
theorem dk.refl(C:aj) : dk C [] C:=fun hr=>⟨hr,fun he=>⟨he,rfl⟩⟩
theorem dk.need{A C:aj}{l:List Int}{ok:Bool}{x:Int}(h:dk A l C)(hx:x≠0:=by decide) : dk A l (C.need ok x):=fun hr=>by
  obtain⟨h1,h2⟩:=h hr
  refine⟨fun y hy=>h1 y (by rwa [jH] at hy),fun he=>?_⟩
  rw[jH]
  exact h2 (fZ hx he).1
theorem dk.bytes{A C:aj}{l:List Int}(h:dk A l C)(n:Int) : dk A (l++C.bytesR n) (C.bytesC n):=h.trans fun hr=>⟨gH hr n,fun he=>⟨(gv he).1,(gv he).2.1⟩⟩
theorem dk.words{A C:aj}{l:List Int}(h:dk A l C)(n:Int) : dk A (l++aJ (C.wordsR n)) (C.wordsC n):=h.trans fun hr=>⟨cA hr n,fun he=>⟨(jX hr he).1,(jX hr he).2.1⟩⟩
theorem tf{l:List Int}(h:(l.length:Int)=1) : l=[l.getD 0 0]:=by
  match l,h with
  | [a],_=>rfl
  | [],h=>simp at h
  | _ :: _ :: _,h=>simp at h;omega
theorem dk.byte{A C:aj}{l:List Int}(h:dk A l C) : dk A (l++[C.byteV]) (C.bytesC 1):=h.trans fun hr=>⟨gH hr 1,fun he=>by
  obtain⟨h1,h2,h3⟩:=gv he
  refine⟨h1,?_⟩
  have:=tf h3
  show C.l=[(C.bytesR 1).getD 0 0]++_
  rw[← this]
  exact h2⟩
theorem dk.word{A C:aj}{l:List Int}(h:dk A l C) : dk A (l++aJ [C.wordV]) (C.wordsC 1):=h.trans fun hr=>⟨cA hr 1,fun he=>by
  obtain⟨h1,h2,h3⟩:=jX hr he
  refine⟨h1,?_⟩
  have:=tf h3
  show C.l=aJ [(C.wordsR 1).getD 0 0]++_
  rw[← this]
  exact h2⟩
theorem dk.fin{A C:aj}{l:List Int}(h:dk A l C)(hr:eF A)(he:C.endC.e=0) : C.e=0∧A.l=l:=by
  unfold aj.endC at he
  obtain⟨h1,h2⟩:=fZ (by decide) he
  obtain⟨_,h3⟩:=(h hr).2 h1
  have:C.l=[]:=by
    simp only[beq_iff_eq] at h2
    exact List.eq_nil_of_length_eq_zero (by omega)
  exact⟨h1,by rw[h3,this,List.append_nil]⟩
theorem cR{C:aj}(hr:eF C) : 0≤C.byteV∧C.byteV<256:=by
  unfold aj.byteV
  rw[List.getD_eq_getElem?_getD]
  cases h:(C.bytesR 1)[0]? with
  | none=>simp
  | some x =>
    have hm:x∈C.bytesR 1:=List.mem_of_getElem? h
    have:x∈C.l:=by
      unfold aj.bytesR at hm
      split at hm
      · cases hm
      · exact List.mem_of_mem_take hm
    exact hr x this
theorem kR(C:aj)(most:Int) : dk C (aJ [C.wordV,(C.wordsC 1).wordV]) (bA C most):=by
  have:=(((dk.refl C).word).word)
  exact(this.need).need
theorem w6:∀ n:Nat,n<256→(((if ((n:Int)/2 ^ 0%2==1) then 1 else 0)+(if ((n:Int)/2 ^ 1%2==1) then 2 else 0)+(if ((n:Int)/2 ^ 2%2==1) then 4 else 0)+(if ((n:Int)/2 ^ 3%2==1) then 8 else 0)+(if ((n:Int)/2 ^ 4%2==1) then 16 else 0)+(if ((n:Int)/2 ^ 5%2==1) then 32 else 0)+(if ((n:Int)/2 ^ 6%2==1) then 64 else 0)+(if ((n:Int)/2 ^ 7%2==1) then 128 else 0) : Nat) : Int)=n:=by decide +kernel
theorem lW{x:Int}(hx:0≤x∧x<256)(f:Nat→Bool)(hf:∀ i,i<8→f i=(x/2 ^ i%2==1)) :
    (((if f 0 then 1 else 0)+(if f 1 then 2 else 0)+(if f 2 then 4 else 0)+(if f 3 then 8 else 0)+(if f 4 then 16 else 0)+(if f 5 then 32 else 0)+(if f 6 then 64 else 0)+(if f 7 then 128 else 0) : Nat) : Int)=x:=by
  rw[hf 0 (by decide),hf 1 (by decide),hf 2 (by decide),hf 3 (by decide),hf 4 (by decide),hf 5 (by decide),hf 6 (by decide),hf 7 (by decide)]
  obtain⟨n,rfl⟩:=Int.eq_ofNat_of_zero_le hx.1
  exact w6 n (by omega)
theorem jZ{b:List Int}{n:Int}{l:List Bool}(hr:∀ x,x∈b→0≤x∧x<256)(h:ci b n=some l) : bK l=b:=by
  unfold ci at h
  split at h
  · rename_i hc
    split at h
    · rename_i hall
      injection h with h
      subst h
      have hlen:((List.range n.toNat).map (cl b)).length=n.toNat:=by simp
      have hm:((List.range n.toNat).map (cl b)).length=n:=by rw[hlen];omega
      unfold bK
      rw[hm,← hc.2]
      apply List.ext_getElem
      · simp
      intro j h1 h2
      simp only[List.getElem_map,List.getElem_range]
      have hj:j<b.length:=h2
      have hget:∀ i,i<8*b.length→((List.range n.toNat).map (cl b)).getD i false=cl b i:=fun i hi=>by
        rw[List.getD_eq_getElem?_getD,List.getElem?_map]
        by_cases hin:i<n.toNat
        · rw[List.getElem?_range hin];rfl
        · rw[List.getElem?_eq_none (by simpa using hin)]
          rw[List.all_eq_true] at hall
          have:=hall i (by simpa using hi)
          simp only[Bool.or_eq_true,decide_eq_true_eq,Bool.not_eq_true'] at this
          rcases this with h3|h3
          · omega
          · simp[h3]
      have hx:∀ k,k<8→cl b (8*j+k)=(b[j]/2 ^ k%2==1):=fun k hk=>by
        unfold cl
        rw[show(8*j+k)/8=j from by omega,show(8*j+k)%8=k from by omega,List.getD_eq_getElem?_getD,List.getElem?_eq_getElem hj]
        rfl
      unfold bV
      rw[show(8*j:Nat)=8*j+0 from rfl]
      simp only[hget _ (show 8*j+0<8*b.length by omega),hget _ (show 8*j+0+1<8*b.length by omega),hget _ (show 8*j+0+2<8*b.length by omega),hget _ (show 8*j+0+3<8*b.length by omega),hget _ (show 8*j+0+4<8*b.length by omega),hget _ (show 8*j+0+5<8*b.length by omega),hget _ (show 8*j+0+6<8*b.length by omega),hget _ (show 8*j+0+7<8*b.length by omega)]
      exact lW (hr _ (List.getElem_mem hj)) (fun k=>cl b (8*j+k)) hx
    · cases h
  · cases h
end Go.Proofs.YtogbnemojakcpaaGreat
namespace Go.Proofs.YtogbnemojakcpaaGreat
theorem bQ{α β:Type}{p:α × β}{a:α}{b:β}(h:some p=some (a,b)) : p.1=a∧p.2=b:=by
  injection h with h
  rw[h]
  exact⟨rfl,rfl⟩
theorem qJ{C:aj}{most c:Int}(hr:eF C)(he:(dh most c C).1.endC.e=0) : aJ [C.wordV,(C.wordsC 1).wordV]=C.l:=((kR C most).fin hr he).2.symm
theorem uW{C:aj}{c:Int}(hr:eF C)(he:(dg c C).1.endC.e=0) : [(((dJ C).bytesR C.byteV).length:Int)%256]++(dJ C).bytesR C.byteV=C.l:=by
  have hbv:=cR hr
  have hE:dk C ([]++[C.byteV]++(dJ C).bytesR C.byteV) ((dJ C).bytesC C.byteV):=(((dk.refl C).byte).need).bytes _
  obtain⟨h1,h2⟩:=hE.fin hr he
  obtain⟨_,_,h3⟩:=gv h1
  rw[h2,h3,Int.emod_eq_of_lt hbv.1 hbv.2]
  rfl
theorem uQ{C:aj}{c:Int}(hr:eF C)(he:(d6 c C).1.endC.e=0) : aJ [C.wordV,(C.wordsC 1).wordV]=C.l:=by
  have hE:dk C ([]++aJ [C.wordV]++aJ [(C.wordsC 1).wordV]) (fb C):=(((dk.refl C).word).word).need
  rw[(hE.fin hr he).2]
  rfl
theorem xR{C:aj}{c:Int}(hr:eF C)(he:(fR c C).1.endC.e=0) : (aJ [C.wordV,(C.wordsC 1).wordV]++[((bK ((pf C).getD [])).length:Int)%256])++bK ((pf C).getD [])=C.l:=by
  have hE:dk C (aJ [C.wordV,(C.wordsC 1).wordV]++[(bA C 1968).byteV]++(gL C).bytesR (mI C)) (ph C):=(((((kR C 1968).byte).need).bytes _).need)
  obtain⟨h1,h2⟩:=hE.fin hr he
  obtain⟨h3,h4⟩:=fZ (by decide) h1
  obtain⟨_,_,h5⟩:=gv h3
  obtain⟨l,hl⟩:=Option.isSome_iff_exists.1 h4
  have hB:∀ x,x∈(gL C).bytesR (mI C)→0≤x∧x<256:=fun x hx=>hr x (by rw[h2];exact List.mem_append_right _ hx)
  have h6:bK l=(gL C).bytesR (mI C):=jZ hB hl
  have hk:0≤mI C∧mI C<256:=cR ((kR C 1968) hr).1
  rw[hl]
  show(aJ [C.wordV,(C.wordsC 1).wordV]++[((bK l).length:Int)%256])++bK l=C.l
  rw[h6,h2,h5,Int.emod_eq_of_lt hk.1 hk.2]
  rfl
theorem tj{dir c:Int}{C C':aj}{M:aO}(hd:dir=0∨dir=1)(hr:eF C)(h:aE dir c C=some (C',M))(he:C'.endC.e=0) : bL dir M=C.l:=by
  unfold aE at h
  split at h
  · rename_i hc
    simp only[Bool.or_eq_true,beq_iff_eq] at hc
    rcases hd with rfl|rfl
    · have h:some (dh 2000 c C)=some (C',M):=h
      obtain⟨rfl,rfl⟩:=bQ h
      rcases hc with rfl|rfl<;>exact qJ hr he
    · have h:some (dg c C)=some (C',M):=h
      obtain⟨rfl,rfl⟩:=bQ h
      rcases hc with rfl|rfl<;>exact uW hr he
  split at h
  · rename_i hc
    obtain rfl:c=5:=by simpa using hc
    obtain⟨rfl,rfl⟩:=bQ h
    exact uQ hr he
  split at h
  · rename_i hc
    obtain rfl:c=15:=by simpa using hc
    rcases hd with rfl|rfl
    · have h:some (fR 15 C)=some (C',M):=h
      obtain⟨rfl,rfl⟩:=bQ h
      exact xR hr he
    · have h:some (dh 1968 15 C)=some (C',M):=h
      obtain⟨rfl,rfl⟩:=bQ h
      exact qJ hr he
  · cases h
theorem it{A C:aj}{l:List Int}(h:dk A l C)(a most:Int) : dk A (l++aJ [C.wordV]) (bG C a most):=((h.word).need).need
theorem yq{n hi:Int}(h:i9 n hi=true) : n%2=0∧2≤n∧n≤hi:=by
  unfold i9 at h
  simp only[Bool.and_eq_true,decide_eq_true_eq,beq_iff_eq] at h
  exact⟨h.1.1,h.1.2,h.2⟩
theorem nQ{c:Int}{C:aj}(hr:eF C)(he:(ck c C).1.endC.e=0) : [(2*(((jP C).wordsR (C.byteV/2)).length:Int))%256]++aJ ((jP C).wordsR (C.byteV/2))=C.l:=by
  have hbv:=cR hr
  have hE0:dk C ([]++[C.byteV]) (jP C):=((dk.refl C).byte).need
  have hE:=hE0.words (C.byteV/2)
  obtain⟨h1,h2⟩:=hE.fin hr he
  obtain⟨h3,_,h5⟩:=jX (hE0 hr).1 h1
  obtain⟨h6,h7,h8⟩:=yq (fZ (by decide) h3).2
  rw[h2,h5,show(2*(C.byteV/2))%256=C.byteV from by omega]
  rfl
theorem ox{most c:Int}{C:aj}(hr:eF C)(he:(bZ most c C).1.endC.e=0) : aJ [C.wordV,(C.wordsC 1).wordV]=C.l:=by
  rw[((it (dk.refl C).word C.wordV most).fin hr he).2]
  rfl
theorem ve{c:Int}{C:aj}(hr:eF C)(he:(dL c C).1.endC.e=0) : aJ [C.wordV,(C.wordsC 1).wordV]=C.l:=by
  rw[(((dk.refl C).word).word.fin hr he).2]
  rfl
theorem ke{A C:aj}{l:List Int}(h:dk A l C)(n:Int) : dk A (l++[C.byteV]) (cO C n):=(h.byte).need
theorem tz{c:Int}{C:aj}(hr:eF C)(he:(d7 c C).1.endC.e=0) : (aJ [C.wordV,(C.wordsC 1).wordV]++[(2*(((ij C).wordsR (C.wordsC 1).wordV).length:Int))%256])++aJ ((ij C).wordsR (C.wordsC 1).wordV)=C.l:=by
  have hE0:dk C _ (bG (C.wordsC 1) C.wordV 123):=it (dk.refl C).word C.wordV 123
  have hE1:dk C _ (ij C):=ke hE0 (C.wordsC 1).wordV
  have hbv:=cR (hE0 hr).1
  obtain⟨h1,h2⟩:=(hE1.words (C.wordsC 1).wordV).fin hr he
  obtain⟨h3,_,h5⟩:=jX (hE1 hr).1 h1
  have h6:=(fZ (by decide) h3).2
  simp only[beq_iff_eq] at h6
  rw[h5,← h6,Int.emod_eq_of_lt hbv.1 hbv.2,h2]
  rfl
theorem uO{c:Int}{C:aj}(hr:eF C)(he:(cT c C).1.endC.e=0) : aJ [C.wordV,(C.wordsC 1).wordV,((C.wordsC 1).wordsC 1).wordV]=C.l:=by
  rw[(((dk.refl C).word).word.word.fin hr he).2]
  rfl
theorem tS{c:Int}{C:aj}(hr:eF C)(he:(d8 c C).1.endC.e=0) : (aJ [C.wordV,(C.wordsC 1).wordV,(bG (C.wordsC 1) C.wordV 125).wordV,(((gP C).wordsR (fE C).wordV).length:Int)%65536]++[(2*(((gP C).wordsR (fE C).wordV).length:Int))%256])++aJ ((gP C).wordsR (fE C).wordV)=C.l:=by
  have hE0:dk C _ (fE C):=(it (dk.refl C).word C.wordV 125).word
  have hE1:dk C _ (o9 C):=it hE0 (bG (C.wordsC 1) C.wordV 125).wordV 121
  have hE2:dk C _ (gP C):=ke hE1 (fE C).wordV
  have hbv:=cR (hE1 hr).1
  have hwv:0≤(fE C).wordV∧(fE C).wordV<65536:=bO (hE0 hr).1
  obtain⟨h1,h2⟩:=(hE2.words (fE C).wordV).fin hr he
  obtain⟨h3,_,h5⟩:=jX (hE2 hr).1 h1
  have h6:=(fZ (by decide) h3).2
  simp only[beq_iff_eq] at h6
  rw[h5,Int.emod_eq_of_lt hwv.1 hwv.2,← h6,Int.emod_eq_of_lt hbv.1 hbv.2,h2]
  rfl
theorem sP{c:Int}{C:aj}(hr:eF C)(he:(cZ c C).1.endC.e=0) : aJ [C.wordV]=C.l:=by
  rw[((dk.refl C).word.fin hr he).2]
  rfl
theorem yw{c:Int}{C:aj}(hr:eF C)(he:(kz c C).1.endC.e=0) : aJ [(2+2*(((v8 C).wordsR (qX C).wordV).length:Int))%65536,(((v8 C).wordsR (qX C).wordV).length:Int)%65536]++aJ ((v8 C).wordsR (qX C).wordV)=C.l:=by
  have hE0:dk C _ (qX C):=((dk.refl C).word).need
  have hE1:dk C _ (v8 C):=(hE0.word).need
  have hwc:0≤C.wordV∧C.wordV<65536:=bO hr
  have hwv:0≤(qX C).wordV∧(qX C).wordV<65536:=bO (hE0 hr).1
  obtain⟨h1,h2⟩:=(hE1.words (qX C).wordV).fin hr he
  obtain⟨h3,_,h5⟩:=jX (hE1 hr).1 h1
  have h6:=(fZ (by decide) h3).2
  simp only[beq_iff_eq] at h6
  rw[h5,h6,Int.emod_eq_of_lt hwv.1 hwv.2,Int.emod_eq_of_lt hwc.1 hwc.2,h2]
  rfl
theorem wn{dir c:Int}{C C':aj}{M:aO}(hd:dir=0∨dir=1)(hr:eF C)(h:aM dir c C=some (C',M))(he:C'.endC.e=0) : bF dir M=C.l:=by
  unfold aM at h
  split at h
  · rename_i hc
    simp only[Bool.or_eq_true,beq_iff_eq] at hc
    rcases hd with rfl|rfl
    · have h:some (bZ 125 c C)=some (C',M):=h
      obtain⟨rfl,rfl⟩:=bQ h
      rcases hc with rfl|rfl<;>exact ox hr he
    · have h:some (ck c C)=some (C',M):=h
      obtain⟨rfl,rfl⟩:=bQ h
      rcases hc with rfl|rfl<;>exact nQ hr he
  split at h
  · rename_i hc
    obtain rfl:c=6:=by simpa using hc
    obtain⟨rfl,rfl⟩:=bQ h
    rcases hd with rfl|rfl<;>exact ve hr he
  split at h
  · rename_i hc
    obtain rfl:c=16:=by simpa using hc
    rcases hd with rfl|rfl
    · have h:some (d7 16 C)=some (C',M):=h
      obtain⟨rfl,rfl⟩:=bQ h
      exact tz hr he
    · have h:some (bZ 123 16 C)=some (C',M):=h
      obtain⟨rfl,rfl⟩:=bQ h
      exact ox hr he
  split at h
  · rename_i hc
    obtain rfl:c=22:=by simpa using hc
    obtain⟨rfl,rfl⟩:=bQ h
    rcases hd with rfl|rfl<;>exact uO hr he
  split at h
  · rename_i hc
    obtain rfl:c=23:=by simpa using hc
    rcases hd with rfl|rfl
    · have h:some (d8 23 C)=some (C',M):=h
      obtain⟨rfl,rfl⟩:=bQ h
      exact tS hr he
    · have h:some (ck 23 C)=some (C',M):=h
      obtain⟨rfl,rfl⟩:=bQ h
      exact nQ hr he
  split at h
  · rename_i hc
    obtain rfl:c=24:=by simpa using hc
    rcases hd with rfl|rfl
    · have h:some (cZ 24 C)=some (C',M):=h
      obtain⟨rfl,rfl⟩:=bQ h
      exact sP hr he
    · have h:some (kz 24 C)=some (C',M):=h
      obtain⟨rfl,rfl⟩:=bQ h
      exact yw hr he
  · cases h
end Go.Proofs.YtogbnemojakcpaaGreat
namespace Go.Proofs.YtogbnemojakcpaaGreat
theorem dk.conv{A C:aj}{l l':List Int}(h:dk A l C)(k:eF A→eF C→C.e=0→l=l') : dk A l' C:=fun hr=>by
  obtain⟨h1,h2⟩:=h hr
  refine⟨h1,fun he=>?_⟩
  rw[← k hr h1 he]
  exact h2 he
theorem vV{dir c:Int}{C:aj}(hr:eF C)(he:(ea dir c C).1.endC.e=0) : aJ [(ea dir c C).2.sub]++aJ (ea dir c C).2.words=C.l:=by
  have hE0:dk C ([]++aJ [C.wordV]) (eI dir C):=((dk.refl C).word).need
  unfold ea at he ⊢
  split at he
  · rename_i hw
    rw[if_pos hw]
    exact(((hE0.words 1).need).fin hr he).2.symm
  · rename_i hw
    rw[if_neg hw]
    exact(((hE0.need).words _).fin hr he).2.symm
theorem o4(C:aj)(lo hi:Int) : dk C ([]++[C.byteV]) (fg C lo hi):=((dk.refl C).byte).need
theorem o3{A C:aj}{l:List Int}(h:dk A l C) : dk A (l++aJ [C.wordV]) (dy C):=(h.word).need
theorem xL{c:Int}{C:aj}(hc:c=7∨c=11∨c=12∨c=17)(hr:eF C)(he:(cm c C).1.endC.e=0) : bI 1 (cm c C).2=C.l:=by
  have hbv:=cR hr
  rcases hc with rfl|rfl|rfl|rfl
  · have he:(C.bytesC 1).endC.e=0:=he
    show[C.byteV%256]=C.l
    rw[Int.emod_eq_of_lt hbv.1 hbv.2,((dk.refl C).byte.fin hr he).2]
    rfl
  · have he:((dy C).wordsC 1).endC.e=0:=he
    show aJ [C.wordV,(dy C).wordV]=C.l
    rw[((o3 (dk.refl C)).word.fin hr he).2]
    rfl
  · have he:((fK C).bytesC (C.byteV-6)).endC.e=0:=he
    have hE:=(((o3 (o4 C 6 70)).word).word).bytes (C.byteV-6)
    obtain⟨h1,h2⟩:=hE.fin hr he
    obtain⟨_,_,h3⟩:=gv h1
    show([(6+(((fK C).bytesR (C.byteV-6)).length:Int))%256]++aJ [(fg C 6 70).wordV,(dy (fg C 6 70)).wordV,((dy (fg C 6 70)).wordsC 1).wordV])++(fK C).bytesR (C.byteV-6)=C.l
    have h4:(((fK C).bytesR (C.byteV-6)).length:Int)=C.byteV-6:=h3
    rw[h4,show(6+(C.byteV-6))%256=C.byteV from by omega,h2]
    rfl
  · have he:((fg C 1 251).bytesC C.byteV).endC.e=0:=he
    have hE:=(o4 C 1 251).bytes C.byteV
    obtain⟨h1,h2⟩:=hE.fin hr he
    obtain⟨_,_,h3⟩:=gv h1
    show[(((fg C 1 251).bytesR C.byteV).length:Int)%256]++(fg C 1 251).bytesR C.byteV=C.l
    rw[h3,Int.emod_eq_of_lt hbv.1 hbv.2,h2]
    rfl
theorem xB{c:Int}{C:aj}(hc:c=7∨c=11∨c=12∨c=17)(hr:eF C)(he:C.endC.e=0) : bI 0 { aO.zero with code:=c }=C.l:=by
  have h:=((dk.refl C).fin hr he).2
  rcases hc with rfl|rfl|rfl|rfl<;>exact h.symm
theorem vD{dir c:Int}{C C':aj}{M:aO}(hd:dir=0∨dir=1)(hr:eF C)(h:aV dir c C=some (C',M))(he:C'.endC.e=0) : bI dir M=C.l:=by
  unfold aV at h
  split at h
  · rename_i hc
    obtain rfl:c=8:=by simpa using hc
    obtain⟨rfl,rfl⟩:=bQ h
    have hco:(ea dir 8 C).2.code=8:=by unfold ea;split<;>rfl
    unfold bI
    rw[hco,if_pos (by rfl)]
    exact vV hr he
  split at h
  · rename_i hc
    simp only[Bool.or_eq_true,beq_iff_eq] at hc
    have hc:c=7∨c=11∨c=12∨c=17:=by omega
    rcases hd with rfl|rfl
    · have h:some (C,({ aO.zero with code:=c }:aO))=some (C',M):=h
      obtain⟨rfl,rfl⟩:=bQ h
      exact xB hc hr he
    · have h:some (cm c C)=some (C',M):=h
      obtain⟨rfl,rfl⟩:=bQ h
      exact xL hc hr he
  · cases h
theorem p7:∀ (n:Nat)(C:aj)(L:List Obj),∃ L',(ed n C L).2=L++L'∧L'.length=n∧dk C (eT L') (ed n C L).1
  | 0,C,L=>⟨[],by simp[ed],rfl,dk.refl C⟩
  | n+1,C,L=>by
    obtain⟨L',h1,h2,h3⟩:=p7 n (((C.bytesC 1).bytesC 1).bytesC (C.bytesC 1).byteV) (L++[⟨C.byteV,((C.bytesC 1).bytesC 1).bytesR (C.bytesC 1).byteV⟩])
    refine⟨⟨C.byteV,((C.bytesC 1).bytesC 1).bytesR (C.bytesC 1).byteV⟩ :: L',?_,by simp[h2],?_⟩
    · show(ed n _ _).2=_
      rw[h1]
      simp
    · have hE0:dk C _ ((C.bytesC 1).bytesC 1):=(dk.refl C).byte.byte
      have hE1:dk C (([C.byteV,((((C.bytesC 1).bytesC 1).bytesR (C.bytesC 1).byteV).length:Int)%256])++((C.bytesC 1).bytesC 1).bytesR (C.bytesC 1).byteV) (((C.bytesC 1).bytesC 1).bytesC (C.bytesC 1).byteV):=(hE0.bytes _).conv fun hr _ he=>by
        have hb:=cR ((dk.refl C).byte hr).1
        rw[(gv he).2.2,Int.emod_eq_of_lt hb.1 hb.2]
        rfl
      exact hE1.trans h3
theorem uo{c:Int}{C:aj}(hr:eF C)(he:(dO (dx C).byteV (eh C)).1.endC.e=0) : [C.byteV,(dx C).byteV,(eh C).byteV,(kA (eh C)).byteV,(kC (eh C)).byteV,((dO (dx C).byteV (eh C)).2.length:Int)%256]++eT (dO (dx C).byteV (eh C)).2=C.l:=by
  have hE0:dk C _ (dx C):=(dk.refl C).byte.need
  have hE1:dk C _ (eh C):=hE0.byte.need
  have hE2:dk C _ (kA (eh C)):=hE1.byte.need
  have hE3:dk C _ (kC (eh C)):=hE2.byte.need
  have hE4:dk C _ (lZ (eh C)):=hE3.byte.need
  have hE5:dk C _ (tQ (dx C).byteV (eh C)):=hE4.byte.need
  obtain⟨L',h1,h2,h3⟩:=p7 (lZ (eh C)).byteV.toNat (tQ (dx C).byteV (eh C)) []
  have hb:=cR (hE4 hr).1
  have h4:(dO (dx C).byteV (eh C)).2=L':=by unfold dO;rw[h1];rfl
  obtain⟨_,h5⟩:=(hE5.trans h3).fin hr he
  rw[h4,h2,show(((lZ (eh C)).byteV.toNat:Nat) : Int)%256=(lZ (eh C)).byteV from by omega,h5]
  rfl
theorem xV{dir c:Int}{C C':aj}{M:aO}(hd:dir=0∨dir=1)(hr:eF C)(h:bD dir c C=some (C',M))(he:C'.endC.e=0) : cQ dir M=C.l:=by
  have hE0:dk C _ (dx C):=(dk.refl C).byte.need
  unfold bD at h
  split at h
  · cases h
  split at h
  · rename_i hm
    obtain⟨rfl,rfl⟩:=bQ h
    have hE1:=(hE0.need (ok:=decide (((dx C).l.length:Int)≤251)) (x:=5)).bytes ((fk C).l.length:Int)
    obtain⟨_,h5⟩:=hE1.fin hr he
    unfold cQ
    rw[if_pos (show(C.byteV==13)=true from hm),h5]
    rfl
  rename_i hm
  split at h
  · rename_i hc
    obtain rfl:dir=1:=by simpa using hc
    obtain⟨rfl,rfl⟩:=bQ h
    unfold cQ
    rw[if_neg (show ¬ (C.byteV==13)=true from hm),if_neg (by decide)]
    exact uo (c:=c) hr he
  · rename_i hc
    obtain rfl:dir=0:=by
      rcases hd with rfl|rfl
      · rfl
      · exact absurd rfl hc
    obtain⟨rfl,rfl⟩:=bQ h
    have hE1:dk C _ (eh C):=hE0.byte.need
    obtain⟨_,h5⟩:=hE1.byte.fin hr he
    unfold cQ
    rw[if_neg (show ¬ (C.byteV==13)=true from hm),if_pos (by rfl),h5]
    rfl
theorem o5{one:Int→aj→Int × aj × dc}{dir code:Int}(hl:∀ s C,0<C.l.length→(one s C).2.1.l.length<C.l.length)(hE:∀ s C,dk C (jd dir code (one s C).2.2) (one s C).2.1) :
    ∀ (n:Nat) (s:Int) (C:aj) (L:List dc),C.l.length≤n→eF C→(aR one n s C L).1.e=0→∃ L',(aR one n s C L).2=L++L'∧C.l=cX dir code L'
  | 0,s,C,L,h,_,_=>⟨[],by simp[aR],by simpa [cX] using h⟩
  | n+1,s,C,L,h,hr,he=>by
    unfold aR at he ⊢
    split at he
    · rename_i hc
      rw[if_pos hc]
      simp only[Bool.and_eq_true,decide_eq_true_eq,beq_iff_eq] at hc
      have h1:=hl s C (by omega)
      obtain⟨h2,h3⟩:=hE s C hr
      split at he
      · rename_i hn
        rw[he] at hn
        cases hn
      · rename_i hn
        rw[if_neg hn]
        have h4:(one s C).2.1.e=0:=by simpa using hn
        obtain⟨L',h5,h6⟩:=o5 hl hE n (one s C).1 (one s C).2.1 (L++[(one s C).2.2]) (by omega) h2 he
        refine⟨(one s C).2.2 :: L',by rw[h5];simp,?_⟩
        rw[(h3 h4).2,h6]
        rfl
    · rename_i hc
      rw[if_neg hc]
      have he:C.e=0:=he
      refine⟨[],by simp,?_⟩
      have:C.l=[]:=by
        apply List.eq_nil_of_length_eq_zero
        simp only[he,Bool.and_eq_true,decide_eq_true_eq,beq_self_eq_true,and_true] at hc
        omega
      rw[this]
      rfl
theorem vh(C:aj) : dk C [6] (i6 C):=((dk.refl C).byte.need).conv fun hr _ he=>by
  have h:=(fZ (by decide) he).2
  simp only[beq_iff_eq] at h
  rw[h]
  rfl
theorem o8(C:aj) : dk C ([6]++aJ [(aQ C).file,(aQ C).record,(aQ C).count]) (dt C):=by
  have hE1:dk C _ (iE C):=(vh C).word.need
  have hE2:dk C _ (lL C):=hE1.word.need
  have hE3:dk C _ (dt C):=hE2.word.need
  exact hE3
theorem wv(s:Int)(C:aj) : dk C (jd 0 20 (cJ s C).2.2) (cJ s C).2.1:=by
  have h:dk C _ (ey s C):=(o8 C).need
  exact h.conv fun _ _ _=>rfl
theorem vX(dir s:Int)(C:aj) : dk C (jd dir 21 (cK s C).2.2) (cK s C).2.1:=by
  have h:dk C _ (lV C):=(o8 C).need
  exact(h.words (lL C).wordV).conv fun _ _ _=>rfl
theorem vi(s:Int)(C:aj) : dk C (jd 1 20 (bJ s C).2.2) (bJ s C).2.1:=by
  have hE1:dk C _ (i1 C):=(dk.refl C).byte.need
  have hE2:dk C _ (fy C):=hE1.byte.need
  refine(hE2.words (Int.tdiv (C.byteV-1) 2)).conv fun hr _ he=>?_
  obtain⟨h1,_,h2⟩:=jX (hE2 hr).1 he
  obtain⟨h3,h4⟩:=fZ (by decide) h1
  obtain⟨h5,h6⟩:=fZ (by decide) (gv h3).1
  have hb:=cR hr
  simp only[Bool.and_eq_true,decide_eq_true_eq,beq_iff_eq] at h4 h6
  have h7:(1+2*(((fy C).wordsR (Int.tdiv (C.byteV-1) 2)).length:Int))%256=C.byteV:=by
    rw[h2,Int.tdiv_eq_ediv_of_nonneg (by omega)]
    omega
  show _=[(1+2*(((fy C).wordsR (Int.tdiv (C.byteV-1) 2)).length:Int))%256,6]++aJ ((fy C).wordsR (Int.tdiv (C.byteV-1) 2))
  rw[h7,h4]
  rfl
theorem jx{one:Int→aj→Int × aj × dc}{dir code:Int}(hl:∀ s C,0<C.l.length→(one s C).2.1.l.length<C.l.length)(hE:∀ s C,dk C (jd dir code (one s C).2.2) (one s C).2.1){may:Int→Bool}{c:Int}{C:aj}(hr:eF C)
    (he:(dN one may c C).1.endC.e=0) : [((cX dir code (qA one may C).2).length:Int)%256]++cX dir code (qA one may C).2=C.l:=by
  have hE0:dk C _ (ku may C):=(dk.refl C).byte.need
  have hE1:=hE0.bytes C.byteV
  have hb:=cR hr
  unfold aj.endC at he
  obtain⟨h0,a⟩:=fZ (by decide) he
  unfold dN at h0 a
  have hw:bp (qA one may C).1.e≠0∨(qA one may C).1.e=0:=by
    by_cases hz:(qA one may C).1.e=0
    · exact Or.inr hz
    · left
      unfold bp
      split
      · decide
      · exact hz
  have h1:((ku may C).bytesC C.byteV).e=0∧(qA one may C).1.e=0:=by
    rcases hw with hw|hw
    · obtain⟨h2,h3⟩:=fZ hw h0
      exact⟨h2,by simpa using h3⟩
    · rw[hw] at h0
      refine⟨?_,hw⟩
      unfold aj.need at h0
      rw[if_neg (by rintro⟨_,hx⟩;cases hx)] at h0
      exact h0
  obtain⟨h2,h3,h4⟩:=gv h1.1
  have h5:((ku may C).bytesC C.byteV).l=[]:=by
    rw[jH] at a
    simp only[beq_iff_eq] at a
    exact List.eq_nil_of_length_eq_zero (by omega)
  have h6:C.l=[C.byteV]++(ku may C).bytesR C.byteV:=by
    rw[((hE1 hr).2 h1.1).2,h5]
    simp
  have hB:eF (uZ may C):=fun x hx=>hr x (by rw[h6];exact List.mem_append_right _ hx)
  obtain⟨L',h7,h8⟩:=o5 hl hE (uZ may C).l.length 0 (uZ may C) [] (Nat.le_refl _) hB h1.2
  have h9:(qA one may C).2=L':=by unfold qA;rw[h7];rfl
  have b:cX dir code L'=(ku may C).bytesR C.byteV:=h8.symm
  rw[h9,b,h4,Int.emod_eq_of_lt hb.1 hb.2,h6]
theorem jT(dir:Int)(M:aO) : cV dir M=[((cX dir M.code M.recs).length:Int)%256]++cX dir M.code M.recs:=by
  unfold cV
  simp
theorem tL{dir c:Int}{C C':aj}{M:aO}(hd:dir=0∨dir=1)(hr:eF C)(h:aX dir c C=some (C',M))(he:C'.endC.e=0) : cV dir M=C.l:=by
  rw[jT]
  unfold aX at h
  split at h
  · rename_i hc
    obtain rfl:c=20:=by simpa using hc
    rcases hd with rfl|rfl
    · have h:some (dN cJ fo 20 C)=some (C',M):=h
      obtain⟨rfl,rfl⟩:=bQ h
      exact jx nA wv hr he
    · have h:some (dN bJ fp 20 C)=some (C',M):=h
      obtain⟨rfl,rfl⟩:=bQ h
      exact jx jn vi hr he
  split at h
  · rename_i hc
    obtain rfl:c=21:=by simpa using hc
    obtain⟨rfl,rfl⟩:=bQ h
    exact jx nq (vX dir) hr he
  · cases h
theorem fB{form:Int→Int→aj→Option (aj × aO)}{lay:Int→aO→List Int}(hf:∀ {dir c:Int}{C C':aj}{M:aO},(dir=0∨dir=1)→eF C→form dir c C=some (C',M)→C'.endC.e=0→lay dir M=C.l)
    {dir c:Int} {b:List Int} {M:aO} (hd:dir=0∨dir=1) (hr:∀ x,x∈b→0≤x∧x<256) (h:ai form dir c b=(M,0)) : lay dir M=b:=by
  unfold ai at h
  rw[if_pos hd] at h
  split at h
  · cases h
  · rename_i r hr'
    unfold b6 at h
    split at h
    · rename_i he
      injection h with h
      obtain⟨C',M'⟩:=r
      have h:M'=M:=h
      subst h
      exact hf (C:=⟨b,false,0⟩) hd hr hr' he
    · rename_i he
      injection h with _ h
      exact absurd h he
theorem eM{parse:Int→Int→List Int→aO × Int}{lay:Int→aO→List Int}{dir:Int}{M:aO}{l:List Int}(h1:lay dir M=l)(h2:parse dir M.code l=(M,0)) : bh parse lay dir M=some l:=by
  unfold bh
  rw[h1,if_pos h2]
theorem wi{k:Nat}{dir:Int}{b:List Int}{M:aO}(hd:dir=0∨dir=1)(hr:∀ x,x∈b→0≤x∧x<256)(h:i7 k dir b=(M,0))(hc:M.code=b.getD 0 0) : gh k dir M=some (b.drop 1):=by
  have hr':∀ x,x∈b.drop 1→0≤x∧x<256:=fun x hx=>hr x (List.mem_of_mem_drop hx)
  unfold i7 at h
  split at h
  · exact eM (fB tj hd hr' h) (by rw[hc];exact h)
  · exact eM (fB wn hd hr' h) (by rw[hc];exact h)
  · exact eM (fB vD hd hr' h) (by rw[hc];exact h)
  · exact eM (fB tL hd hr' h) (by rw[hc];exact h)
  · exact eM (fB xV hd hr' h) (by rw[hc];exact h)
  · cases h
theorem oc{x:Int}(h:cD x=true) : (x != 0)=true:=by
  unfold cD at h
  simp only[decide_eq_true_eq,List.mem_cons,List.not_mem_nil,or_false] at h
  simp only[bne_iff_ne]
  omega
theorem s9{x:Int}(h:dF x=true) : 0<x∧x<128:=by
  unfold dF at h
  simp only[decide_eq_true_eq,List.mem_cons,List.not_mem_nil,or_false] at h
  omega
theorem oT{dir:Int}{b:List Int}{M:aO}(hd:dir=0∨dir=1)(hr:∀ x,x∈b→0≤x∧x<256)(h:cC dir b=(M,0)) : cz dir M=some b:=by
  unfold cC at h
  split at h
  · cases h
  split at h
  · cases h
  split at h
  · cases h
  rename_i h1 h2 h3
  simp only[beq_iff_eq] at h2
  simp only[decide_eq_true_eq] at h3
  obtain⟨x,t,rfl⟩ : ∃ x t,b=x :: t:=by
    cases b with
    | nil=>exact absurd rfl h2
    | cons x t=>exact⟨x,t,rfl⟩
  have hx:=hr x (by simp)
  split at h
  · rename_i hq
    simp only[Bool.and_eq_true,decide_eq_true_eq,beq_iff_eq] at hq
    obtain⟨rfl,k1,k2,k3,k4⟩:=qE h
    have k5:=s9 k2
    unfold cz
    rw[if_pos (show((gf _ ((x :: t).getD 1 0)).fail != 0)=true from oc k3)]
    rw[if_neg (by rw[hq.2];decide)]
    unfold jM
    have k6:fc (gf (((x :: t).getD 0 0-128)%256) ((x :: t).getD 1 0)).code (gf (((x :: t).getD 0 0-128)%256) ((x :: t).getD 1 0)).fail=true:=by
      show fc (((x :: t).getD 0 0-128)%256) ((x :: t).getD 1 0)=true
      unfold fc
      rw[k2,k3]
      have:(((x :: t).getD 0 0-128)%256 != 0)=true:=by simp only[bne_iff_ne];omega
      rw[this]
      rfl
    rw[k6]
    have k7:decide (gf (((x :: t).getD 0 0-128)%256) ((x :: t).getD 1 0)=gf (gf (((x :: t).getD 0 0-128)%256) ((x :: t).getD 1 0)).code (gf (((x :: t).getD 0 0-128)%256) ((x :: t).getD 1 0)).fail)=true:=decide_eq_true rfl
    rw[k7]
    show some [(((x-128)%256)+128)%256,(x :: t).getD 1 0]=some (x :: t)
    match t,k4 with
    | [y],_ =>
      rw[show(((x-128)%256)+128)%256=x from by omega]
      rfl
  · obtain⟨_,k1⟩:=sc hd h
    obtain⟨k2,k3⟩:=k1 rfl
    have k4:=wi hd hr h k2
    unfold cz
    rw[if_neg (by rw[k3];decide),k2,k4]
    show(if decide (253≤(t.length:Int))=true then none else some ([x]++t))=some (x :: t)
    rw[if_neg (by simp only[decide_eq_true_eq];simp only[List.length_cons] at h3;omega)]
    rfl
end Go.Proofs.YtogbnemojakcpaaGreat
namespace Go.Proofs.YtogbnemojakcpaaGreat
def Sh (C C':aj) : Prop:=C'.l.length≤C.l.length
theorem Sh.refl(C:aj) : Sh C C:=Nat.le_refl _
theorem Sh.bytes{A C:aj}(h:Sh A C){n:Int}:Sh A (C.bytesC n):=Nat.le_trans (iN C n) h
theorem Sh.words{A C:aj}(h:Sh A C){n:Int}:Sh A (C.wordsC n):=Nat.le_trans (eS C n) h
theorem Sh.need{A C:aj}(h:Sh A C){b:Bool}{e:Int}:Sh A (C.need b e):=by unfold Sh;rw[eC];exact h
open Go.RowKit
end Go.Proofs.YtogbnemojakcpaaGreat
namespace Go.Proofs.YtogbnemojakcpaaGreat
theorem fH(u:Int)(l:List Int) : (i8 u l).length=3+l.length:=by simp[i8,bW];omega
theorem jO{dir u t:Int}{M:aO}{b:List Int}(h:fN dir u t M=some b) : t=0∧∃ l,cz dir M=some l∧b=i8 u l∧l.length≤253:=by
  unfold fN at h
  split at h
  · cases h
  · rename_i l hl
    have hle:=ot hl
    split at h
    · cases h
    · rename_i ht
      injection h with h
      exact⟨by simpa using ht,l,hl,h.symm,hle⟩
theorem vE{dir u t:Int}{M:aO}{b:List Int}(hc:0≤M.code∧M.code<256)(h:fN dir u t M=some b) : 4≤b.length∧b.length≤256:=by
  obtain⟨_,l,h1,rfl,h2⟩:=jO h
  have:=oZ hc h1
  rw[fH]
  omega
theorem mi(u:Int)(l:List Int) : (i8 u l).take ((i8 u l).length-2)=[u]++l:=by
  rw[fH,show 3+l.length-2=([u]++l).length from by simp;omega]
  exact List.take_left' rfl
theorem rq(u:Int)(l:List Int) : (i8 u l).drop ((i8 u l).length-2)=bW (bU 65535 ([u]++l)):=by
  rw[fH,show 3+l.length-2=([u]++l).length from by simp;omega]
  exact List.drop_left' rfl
theorem vH(u:Int)(l:List Int) : dl (i8 u l)=true:=by
  unfold dl
  rw[mi,rq,fH]
  simp only[decide_true,Bool.and_true,decide_eq_true_eq]
  omega
theorem t6(u:Int)(l:List Int) : fm (i8 u l)=l:=by
  unfold fm
  rw[mi]
  rfl
theorem xI{dir u:Int}{l:List Int}(hd:dir=0∨dir=1)(h:0<l.length)(h2:l.length≤253) : dU dir (i8 u l)=fC u 0 (cC dir l):=by
  unfold dU
  rw[vH,t6]
  rw[if_neg (show ¬ (dir != 0&&dir != 1)=true by rcases hd with rfl | rfl<;>decide),if_neg (by rw[fH];simp only[decide_eq_true_eq];omega),if_neg (by rw[fH];simp only[decide_eq_true_eq];omega),if_neg (by decide)]
  rfl
theorem yf{dir u t:Int}{M:aO}{b:List Int}(hd:dir=0∨dir=1)(hc:0≤M.code∧M.code<256)(hf:0≤M.fail∧M.fail<256)(h:fN dir u t M=some b) : dU dir b=(⟨u,t,M⟩,0):=by
  obtain⟨rfl,l,h1,rfl,h2⟩:=jO h
  rw[xI hd (oZ hc h1) h2,th hd hc hf h1]
  rfl
theorem uC{b:List Int}(hl:3≤b.length)(h:dl b=true) : ∃ u l,b=i8 u l:=by
  unfold dl at h
  rw[Bool.and_eq_true,decide_eq_true_eq,decide_eq_true_eq] at h
  obtain⟨h1,h2⟩:=h
  cases hb:b.take (b.length-2) with
  | nil =>
    have:=congrArg List.length hb
    rw[List.length_take,List.length_nil] at this
    omega
  | cons u l =>
    refine⟨u,l,?_⟩
    conv=>lhs;rw[← List.take_append_drop (b.length-2) b,← h2,hb]
    rfl
theorem uR{dir:Int}{b:List Int}{F:ig}{E:Int}{r:Option (List Int)}(hd:dir=0∨dir=1)(hr:∀ x,x∈b→0≤x∧x<256)(h:dU dir b=(F,E))(hE:(E==0)=true)(hW:fN dir F.unit F.tid F.msg=r) : r=some b∧4≤b.length∧b.length≤256:=by
  obtain rfl:E=0:=by simpa using hE
  unfold dU at h
  split at h
  · cases h
  split at h
  · cases h
  split at h
  · cases h
  split at h
  · cases h
  rename_i h1 h2 h3 h4
  simp only[decide_eq_true_eq] at h2 h3
  have h4:dl b=true:=by simpa using h4
  obtain⟨u,l,rfl⟩:=uC (by omega) h4
  rw[t6] at h
  have h:fC u 0 (cC dir l)=(F,0):=h
  cases hp:cC dir l with
  | mk M E' =>
    rw[hp] at h
    have h:(if (E' != 0)=true then ((ig.zero,E') : ig × Int) else (⟨_,_,M⟩,0))=(F,0):=h
    split at h
    · rename_i h5
      injection h with _ h6
      subst h6
      cases h5
    · rename_i h5
      injection h with h6 _
      subst h6
      obtain rfl:E'=0:=by simpa using h5
      have h7:=oT hd (fun x hx=>hr x (by unfold i8;simp[hx])) hp
      rw[← hW]
      refine⟨?_,by omega,by omega⟩
      show fN dir u 0 M=_
      unfold fN
      rw[h7]
      simp
open Go.RowKit
theorem pS{m m':Md}{A B:Option Addr}{c d:Nat}{xs ys:List Int}{w:World}(h1:b9 m w (.slice A xs.length c) xs)(h2:b9 m' w (.slice B ys.length d) ys) :
    Calls Tryz.prog 30 #[.slice A xs.length c,.slice B ys.length d] w (cY (.bool (decide (xs=ys))) w):=by
 refine en 10 Tryz.func30 rfl<|sg<|Pl 1<|ng<|Pl 1<|L0<|ju (.string (strOfNums xs)) (cP (A:=A) (n:=xs.length) (c:=c) rfl (by kernel_rfl) Tryz.underlying22 Tryz.underlying5 Tryz.underlying9 h1)<|Pl 1<|L0<|ju (.string (strOfNums ys)) (cP (A:=B) (n:=ys.length) (c:=d) rfl (by kernel_rfl) Tryz.underlying22 Tryz.underlying5 Tryz.underlying9 h2)<|L0<|ju (.bool (decide (xs=ys))) (fL (a:=(strOfNums xs)) (b:=(strOfNums ys)) rfl (by kernel_rfl) (by kernel_rfl) (iV h1 h2))<|Pl 1<|nl<|?_
 refine tn<|rt<|rr (.bool (decide (xs=ys)))<|?_
 exact⟨rfl,(aC.refl [] _)⟩
theorem iA{m m':Md}{a b:Value}{xs ys:List Int}{w:World}(h1:b9 m w a xs)(h2:b9 m' w b ys) : Calls Tryz.prog 30 #[a,b] w (cY (.bool (decide (xs=ys))) w):=by
  obtain⟨A,c,rfl,_,_⟩:=h1.shape
  obtain⟨B,d,rfl,_,_⟩:=h2.shape
  exact pS h1 h2
open Go.RowKit
theorem gN{α:Type}{xs ys:List α}{k:Nat}(h:xs.take k=ys.take k)(h1:k=xs.length)(h2:xs.length=ys.length) : xs=ys:=by
  rw[List.take_of_length_le (by omega),List.take_of_length_le (by omega)] at h
  exact h
theorem m6{m m':Md}{A B:Option Addr}{c d:Nat}{xs ys:List Int}{w:World}(h1:dP m w (.slice A xs.length c) xs)(h2:dP m' w (.slice B ys.length d) ys) :
    Calls Tryz.prog 98 #[.slice A xs.length c,.slice B ys.length d] w (cY (.bool (decide (xs=ys))) w):=by
 have hz1:=aL.len h1
 have hz2:=aL.len h2
 refine en 26 Tryz.func98 rfl<|sg<|Pl 1<|nt<|sq<|sg<|Pl 5<|nt<|cb ((((xs.length:Nat) : Int)!=((ys.length:Nat) : Int))) (fun g=>?_) (fun g=>?_)
 have j:=ay g
 refine sg<|Pl 1<|nt<|rt<|tr<|rr (.bool false)<|?_
 have hs:decide (xs=ys)=false:=decide_eq_false (fun e=>by rw[e] at j;omega)
 rw[hs]
 exact⟨rfl,(aC.refl [] _)⟩
 have j:=ag g
 refine bi<|sq<|sg<|Pl 1<|nt<|bk<|?_
 refine iM (fun x=>[(0,.slice A xs.length c),(1,.slice B ys.length d),(5,.int .i64 ((x:Nat) : Int))]) (fun(x:Nat) w'=>aC [] w w'∧(xs.take x=ys.take x)∧(x≤xs.length)) (fun x=>xs.length-x) 0 ⟨aC.refl _ _,(by(try dsimp only);simp),(by(try dsimp only);omega)⟩ ?_
 rintro k E ⟨b,p,q⟩
 refine iL [(0,.slice A xs.length c),(1,.slice B ys.length d),(5,.int .i64 ((k:Nat) : Int))] ?_
 have l:xs.take k=ys.take k:=p
 have F:k≤xs.length:=q
 refine sq<|sg<|Pl 4<|nt<|cb ((decide (((k:Nat) : Int)<((xs.length:Nat) : Int)))) (fun h=>?_) (fun h=>?_)
 have r:=of_decide_eq_true h
 refine bi<|sq<|bk<|sq<|?_
 refine gj (dP.at_ (dP.old h1 b) k (by omega)) fun s t u v G=>?_
 refine gj (dP.at_ (dP.old h2 b) k (by omega)) fun y z C D H=>Rg 9 (fun w'=>w'.cell? ⟨s,t+k,none⟩=some (.int .u16 (xs.getD k 0))∧w'.cell? ⟨y,z+k,none⟩=some (.int .u16 (ys.getD k 0))) fun I i=>bg ⟨(uc i v),(uc i D)⟩ fun a=>Rt 0 a<|Rt 1 a<|oh 2 a xs.length k ((k:Nat) : Int) rfl u (by omega)<|Rl 3 a (fun _ hs=>hs.1)<|Rt 4 a<|Rt 5 a<|oh 6 a ys.length k ((k:Nat) : Int) rfl C (by omega)<|Rl 7 a (fun _ hs=>hs.2)<|Rt 8 a<|re<|tn<|?_
 have n:=aD b i
 refine cb (((xs.getD k 0)!=(ys.getD k 0))) (fun f=>?_) (fun f=>?_)
 have o:=ay f
 refine sg<|Pl 1<|nt<|rt<|br<|tr<|tr<|br<|tr<|rr (.bool false)<|?_
 have hs:decide (xs=ys)=false:=decide_eq_false (sJ (d:=0) k (by simpa using f))
 rw[hs]
 exact⟨rfl,n⟩
 have o:=ag f
 exact sk<|bn<|tn<|go<|Pl 1<|L0<|Oi (((k:Nat) : Int)+1)<|Pl 1<|nl<|gE (k+1) ⟨n,(ms (d:=0) (by omega) (by omega) l o),(by(try dsimp only);omega)⟩ (by omega)
 have r:=of_decide_eq_false h
 refine xt<|tx<|tx<|bx<|tn<|sg<|Pl 1<|nt<|rt<|rr (.bool true)<|?_
 have hs:decide (xs=ys)=true:=decide_eq_true (gN l (by omega) (by omega))
 rw[hs]
 exact⟨rfl,b⟩
theorem j6{m m':Md}{a b:Value}{xs ys:List Int}{w:World}(h1:dP m w a xs)(h2:dP m' w b ys) : Calls Tryz.prog 98 #[a,b] w (cY (.bool (decide (xs=ys))) w):=by
  obtain⟨A,c,rfl,_,_⟩:=h1.shape
  obtain⟨B,d,rfl,_,_⟩:=h2.shape
  exact m6 h1 h2
theorem m8{m m':Md}{A B:Option Addr}{c d:Nat}{xs ys:List Bool}{w:World}(h1:i4 m w (.slice A xs.length c) xs)(h2:i4 m' w (.slice B ys.length d) ys) :
    Calls Tryz.prog 99 #[.slice A xs.length c,.slice B ys.length d] w (cY (.bool (decide (xs=ys))) w):=by
 have hz1:=aL.len h1
 have hz2:=aL.len h2
 refine en 26 Tryz.func99 rfl<|sg<|Pl 1<|nt<|sq<|sg<|Pl 5<|nt<|cb ((((xs.length:Nat) : Int)!=((ys.length:Nat) : Int))) (fun f=>?_) (fun f=>?_)
 have j:=ay f
 refine sg<|Pl 1<|nt<|rt<|tr<|rr (.bool false)<|?_
 have hs:decide (xs=ys)=false:=decide_eq_false (fun e=>by rw[e] at j;omega)
 rw[hs]
 exact⟨rfl,(aC.refl [] _)⟩
 have j:=ag f
 refine bi<|sq<|sg<|Pl 1<|nt<|bk<|?_
 refine iM (fun x=>[(0,.slice A xs.length c),(1,.slice B ys.length d),(5,.int .i64 ((x:Nat) : Int))]) (fun(x:Nat) w'=>aC [] w w'∧(xs.take x=ys.take x)∧(x≤xs.length)) (fun x=>xs.length-x) 0 ⟨aC.refl _ _,(by(try dsimp only);simp),(by(try dsimp only);omega)⟩ ?_
 rintro k D ⟨b,o,p⟩
 refine iL [(0,.slice A xs.length c),(1,.slice B ys.length d),(5,.int .i64 ((k:Nat) : Int))] ?_
 have l:xs.take k=ys.take k:=o
 have E:k≤xs.length:=p
 refine sq<|sg<|Pl 4<|nt<|cb ((decide (((k:Nat) : Int)<((xs.length:Nat) : Int)))) (fun g=>?_) (fun g=>?_)
 have q:=of_decide_eq_true g
 refine bi<|sq<|bk<|sq<|?_
 refine zz (i4.at_ (i4.old h1 b) k (by omega)) fun r s t u=>?_
 refine zz (i4.at_ (i4.old h2 b) k (by omega)) fun v y z C=>Rg 9 (fun w'=>w'.cell? ⟨r,s+k,none⟩=some (.bool (xs.getD k false))∧w'.cell? ⟨v,y+k,none⟩=some (.bool (ys.getD k false))) fun F h=>bg ⟨(uc h u),(uc h C)⟩ fun a=>Rt 0 a<|Rt 1 a<|oh 2 a xs.length k ((k:Nat) : Int) rfl t (by omega)<|Rl 3 a (fun _ hs=>hs.1)<|Rt 4 a<|Rt 5 a<|oh 6 a ys.length k ((k:Nat) : Int) rfl z (by omega)<|Rl 7 a (fun _ hs=>hs.2)<|Rt 8 a<|re<|tn<|?_
 have n:=aD b h
 refine cb (((xs.getD k false)!=(ys.getD k false))) (fun i=>?_) (fun i=>?_)
 refine sg<|Pl 1<|nt<|rt<|br<|tr<|tr<|br<|tr<|rr (.bool false)<|?_
 have hs:decide (xs=ys)=false:=decide_eq_false (sJ (d:=false) k (by simpa using i))
 rw[hs]
 exact⟨rfl,n⟩
 exact sk<|bn<|tn<|go<|Pl 1<|L0<|Oi (((k:Nat) : Int)+1)<|Pl 1<|nl<|gE (k+1) ⟨n,(ms (d:=false) (by omega) (by omega) l (by simpa using i)),(by(try dsimp only);omega)⟩ (by omega)
 have q:=of_decide_eq_false g
 refine xt<|tx<|tx<|bx<|tn<|sg<|Pl 1<|nt<|rt<|rr (.bool true)<|?_
 have hs:decide (xs=ys)=true:=decide_eq_true (gN l (by omega) (by omega))
 rw[hs]
 exact⟨rfl,b⟩
theorem nK{m m':Md}{a b:Value}{xs ys:List Bool}{w:World}(h1:i4 m w a xs)(h2:i4 m' w b ys) : Calls Tryz.prog 99 #[a,b] w (cY (.bool (decide (xs=ys))) w):=by
  obtain⟨A,c,rfl,_,_⟩:=h1.shape
  obtain⟨B,d,rfl,_,_⟩:=h2.shape
  exact m8 h1 h2
open Go.RowKit
theorem qH{α:Type}{xs ys:List α}{d:α}{k:Nat}(h:xs.take k=ys.take k)(hk:k<xs.length)(hl:xs.length=ys.length)(he:xs.getD k d=ys.getD k d) : xs.take (k+1)=ys.take (k+1):=by
  have hk2:k<ys.length:=by omega
  rw[List.take_succ_eq_append_getElem hk,List.take_succ_eq_append_getElem hk2,h]
  rw[List.getD_eq_getElem?_getD,List.getElem?_eq_getElem hk,List.getD_eq_getElem?_getD,List.getElem?_eq_getElem (by omega)] at he
  simp only[Option.getD_some] at he
  rw[he]
theorem xC{a b:dc}(h:((((!(decide (a.words=b.words)))||(a.file != b.file))||(a.record != b.record))||(a.count != b.count))=false) : a=b:=by
  cases a
  cases b
  simp at h
  simp[h]
theorem xY{a b:Obj}(h:((!(decide (a.value=b.value)))||(a.id != b.id))=false) : a=b:=by
  cases a
  cases b
  simp at h
  simp[h]
theorem wH{a b:Obj}(h:(!(decide (a.value=b.value)))=false)(h2:(a.id != b.id)=false) : a=b:=xY (by rw[h,h2];rfl)
theorem mw{A B:aO}{f:aO→aO→Bool}(h:f A B=true)(hf:∀ M,f M M=false) : decide (A=B)=false:=decide_eq_false fun e=>by rw[e,hf] at h;cases h
theorem we{A B:aO}(h1:((((((((((((A.code != B.code)||(A.fail != B.fail))||(A.addr != B.addr))||(A.count != B.count))||(A.value != B.value))||(A.and_ != B.and_))||(A.or_ != B.or_))||(A.addr2 != B.addr2))||(A.sub != B.sub))||(A.status != B.status))||(A.events != B.events))||(A.messages != B.messages))=false)(h2:(((((A.mei != B.mei)||(A.kind != B.kind))||(A.level != B.level))||(A.more != B.more))||(A.next != B.next))=false)(h3:(((((!(decide (A.words=B.words)))||(!(decide (A.bits=B.bits))))||(!(decide (A.data=B.data))))||(((A.recs.length:Nat) : Int)!=((B.recs.length:Nat) : Int)))||(((A.objects.length:Nat) : Int)!=((B.objects.length:Nat) : Int)))=false)(hr:A.recs.length=B.recs.length→A.recs=B.recs)(ho:A.objects.length=B.objects.length→A.objects=B.objects) : A=B:=by
  cases A
  cases B
  simp only[Bool.or_eq_false_iff,bne_eq_false_iff_eq,Bool.not_eq_false',decide_eq_true_eq] at h1 h2 h3
  simp only at hr ho
  obtain⟨⟨⟨⟨⟨⟨⟨⟨⟨⟨⟨a1,a2⟩,a3⟩,a4⟩,a5⟩,a6⟩,a7⟩,a8⟩,a9⟩,a⟩,b⟩,c⟩:=h1
  obtain⟨⟨⟨⟨b1,b2⟩,b3⟩,b4⟩,b5⟩:=h2
  obtain⟨⟨⟨⟨d1,d2⟩,d3⟩,d4⟩,d5⟩:=h3
  have d4:=hr (by omega)
  have d5:=ho (by omega)
  subst a1 a2 a3 a4 a5 a6 a7 a8 a9 a b c b1 b2 b3 b4 b5 d1 d2 d3 d4 d5
  rfl
theorem dj{m m':Md}{pc qc:Array Value}{A B:aO}{w:World}(ha:aH m w pc.toList A)(hb:aH m' w qc.toList B) :
    Calls Tryz.prog 26 #[.agg pc,.agg qc] w (cY (.bool (decide (A=B))) w):=by
 have pM:=ha
 obtain⟨pvw,pvb,pvd,pvr,pvo,ph0,phw,phb,phd,phr,pho,pR⟩:=ha
 obtain rfl:pc=(bt A pvw pvb pvd pvr pvo).toArray:=by apply Array.toList_inj.1;simpa using ph0
 clear ph0
 obtain⟨pw,pkw,rfl,_,_⟩:=phw.shape
 obtain⟨pb,pkb,rfl,_,_⟩:=phb.shape
 obtain⟨pd,pkd,rfl,_,_⟩:=phd.shape
 obtain⟨pr,pkr,rfl,_,_⟩:=phr.shape
 obtain⟨po,pko,rfl,_,_⟩:=pho.shape
 have qM:=hb
 obtain⟨qvw,qvb,qvd,qvr,qvo,qh0,qhw,qhb,qhd,qhr,qho,qR⟩:=hb
 obtain rfl:qc=(bt B qvw qvb qvd qvr qvo).toArray:=by apply Array.toList_inj.1;simpa using qh0
 clear qh0
 obtain⟨qw,qkw,rfl,_,_⟩:=qhw.shape
 obtain⟨qb,qkb,rfl,_,_⟩:=qhb.shape
 obtain⟨qd,qkd,rfl,_,_⟩:=qhd.shape
 obtain⟨qr,qkr,rfl,_,_⟩:=qhr.shape
 obtain⟨qo,qko,rfl,_,_⟩:=qho.shape
 have hz1:=aL.len phr
 have hz2:=aL.len pho
 refine en 254 Tryz.func26 rfl<|sg<|L0<|dq (mG A.code A.fail A.addr A.count A.value A.and_ A.or_ A.addr2 A.sub A.status A.events A.messages (.slice pw A.words.length pkw) (.slice pb A.bits.length pkb) (.slice pd A.data.length pkd) (.slice pr A.recs.length pkr) A.mei A.kind A.level A.more A.next (.slice po A.objects.length pko)) fun i dK dL cf cg=>L0<|dq (mG B.code B.fail B.addr B.count B.value B.and_ B.or_ B.addr2 B.sub B.status B.events B.messages (.slice qw B.words.length qkw) (.slice qb B.bits.length qkb) (.slice qd B.data.length qkd) (.slice qr B.recs.length qkr) B.mei B.kind B.level B.more B.next (.slice qo B.objects.length qko)) fun l dM dN b az=>Pl 1<|nt<|sq<|sg<|Pl 1<|?_
 have c:=ub az cf
 refine L0<|aN c 0<|Pl 1<|L0<|aN b 0<|Pl 2<|cu 6 [19] 25 (((A.code != B.code)||(A.fail != B.fail))) (fun K aA=>?_) ?_
 refine bl 19 ((A.code != B.code)) (fun q=>?_) (fun q=>?_)
 have ch:=ay q
 exact Pl 6<|ce aA true (by rw[q];rfl)
 have ch:=ag q
 exact Pl 1<|L1<|aN c 1<|Pl 1<|L1<|aN b 1<|Pl 2<|ce aA (A.fail != B.fail) (by rw[q];rfl)
 refine Pl 1<|cu 6 [26] 32 ((((A.code != B.code)||(A.fail != B.fail))||(A.addr != B.addr))) (fun K aB=>?_) ?_
 refine bl 26 (((A.code != B.code)||(A.fail != B.fail))) (fun r=>?_) (fun r=>?_)
 exact Pl 6<|ce aB true (by rw[r];rfl)
 have ci:=(aF r).1
 have cj:=(aF r).2
 have dO:=ag ci
 have dQ:=ag cj
 exact Pl 1<|L1<|aN c 2<|Pl 1<|L1<|aN b 2<|Pl 2<|ce aB (A.addr != B.addr) (by rw[r];rfl)
 refine Pl 1<|cu 6 [33] 39 (((((A.code != B.code)||(A.fail != B.fail))||(A.addr != B.addr))||(A.count != B.count))) (fun K aE=>?_) ?_
 refine bl 33 ((((A.code != B.code)||(A.fail != B.fail))||(A.addr != B.addr))) (fun s=>?_) (fun s=>?_)
 exact Pl 6<|ce aE true (by rw[s];rfl)
 have aG:=(aF s).1
 have ck:=(aF s).2
 have cl:=(aF aG).1
 have cm:=(aF aG).2
 have q25aap:=ag cl
 have q25abp:=ag cm
 have dR:=ag ck
 exact Pl 1<|L1<|aN c 3<|Pl 1<|L1<|aN b 3<|Pl 2<|ce aE (A.count != B.count) (by rw[s];rfl)
 refine Pl 1<|cu 6 [40] 46 ((((((A.code != B.code)||(A.fail != B.fail))||(A.addr != B.addr))||(A.count != B.count))||(A.value != B.value))) (fun K aI=>?_) ?_
 refine bl 40 (((((A.code != B.code)||(A.fail != B.fail))||(A.addr != B.addr))||(A.count != B.count))) (fun t=>?_) (fun t=>?_)
 exact Pl 6<|ce aI true (by rw[t];rfl)
 have aJ:=(aF t).1
 have cn:=(aF t).2
 have aK:=(aF aJ).1
 have co:=(aF aJ).2
 have q27aaa:=(aF aK).1
 have q27aab:=(aF aK).2
 have q27aaap:=ag q27aaa
 have q27aabp:=ag q27aab
 have q27abp:=ag co
 have dS:=ag cn
 exact Pl 1<|L1<|aN c 4<|Pl 1<|L1<|aN b 4<|Pl 2<|ce aI (A.value != B.value) (by rw[t];rfl)
 refine Pl 1<|cu 6 [47] 53 (((((((A.code != B.code)||(A.fail != B.fail))||(A.addr != B.addr))||(A.count != B.count))||(A.value != B.value))||(A.and_ != B.and_))) (fun K aM=>?_) ?_
 refine bl 47 ((((((A.code != B.code)||(A.fail != B.fail))||(A.addr != B.addr))||(A.count != B.count))||(A.value != B.value))) (fun u=>?_) (fun u=>?_)
 exact Pl 6<|ce aM true (by rw[u];rfl)
 have aP:=(aF u).1
 have cp:=(aF u).2
 have aQ:=(aF aP).1
 have cq:=(aF aP).2
 have q29aaa:=(aF aQ).1
 have q29aab:=(aF aQ).2
 have q29aaaa:=(aF q29aaa).1
 have q29aaab:=(aF q29aaa).2
 have q29aaaap:=ag q29aaaa
 have q29aaabp:=ag q29aaab
 have q29aabp:=ag q29aab
 have q29abp:=ag cq
 have dT:=ag cp
 exact Pl 1<|L1<|aN c 5<|Pl 1<|L1<|aN b 5<|Pl 2<|ce aM (A.and_ != B.and_) (by rw[u];rfl)
 refine Pl 1<|cu 6 [54] 60 ((((((((A.code != B.code)||(A.fail != B.fail))||(A.addr != B.addr))||(A.count != B.count))||(A.value != B.value))||(A.and_ != B.and_))||(A.or_ != B.or_))) (fun K aR=>?_) ?_
 refine bl 54 (((((((A.code != B.code)||(A.fail != B.fail))||(A.addr != B.addr))||(A.count != B.count))||(A.value != B.value))||(A.and_ != B.and_))) (fun v=>?_) (fun v=>?_)
 exact Pl 6<|ce aR true (by rw[v];rfl)
 have aS:=(aF v).1
 have cr:=(aF v).2
 have aT:=(aF aS).1
 have cs:=(aF aS).2
 have q31aaa:=(aF aT).1
 have q31aab:=(aF aT).2
 have q31aaaa:=(aF q31aaa).1
 have q31aaab:=(aF q31aaa).2
 have q31aaaaa:=(aF q31aaaa).1
 have q31aaaab:=(aF q31aaaa).2
 have q31aaaaap:=ag q31aaaaa
 have q31aaaabp:=ag q31aaaab
 have q31aaabp:=ag q31aaab
 have q31aabp:=ag q31aab
 have q31abp:=ag cs
 have dU:=ag cr
 exact Pl 1<|L1<|aN c 6<|Pl 1<|L1<|aN b 6<|Pl 2<|ce aR (A.or_ != B.or_) (by rw[v];rfl)
 refine Pl 1<|cu 6 [61] 67 (((((((((A.code != B.code)||(A.fail != B.fail))||(A.addr != B.addr))||(A.count != B.count))||(A.value != B.value))||(A.and_ != B.and_))||(A.or_ != B.or_))||(A.addr2 != B.addr2))) (fun K aU=>?_) ?_
 refine bl 61 ((((((((A.code != B.code)||(A.fail != B.fail))||(A.addr != B.addr))||(A.count != B.count))||(A.value != B.value))||(A.and_ != B.and_))||(A.or_ != B.or_))) (fun z=>?_) (fun z=>?_)
 exact Pl 6<|ce aU true (by rw[z];rfl)
 have aV:=(aF z).1
 have ct:=(aF z).2
 have aW:=(aF aV).1
 have cv:=(aF aV).2
 have q33aaa:=(aF aW).1
 have q33aab:=(aF aW).2
 have q33aaaa:=(aF q33aaa).1
 have q33aaab:=(aF q33aaa).2
 have q33aaaaa:=(aF q33aaaa).1
 have q33aaaab:=(aF q33aaaa).2
 have q33aaaaaa:=(aF q33aaaaa).1
 have q33aaaaab:=(aF q33aaaaa).2
 have q33aaaaaap:=ag q33aaaaaa
 have q33aaaaabp:=ag q33aaaaab
 have q33aaaabp:=ag q33aaaab
 have q33aaabp:=ag q33aaab
 have q33aabp:=ag q33aab
 have q33abp:=ag cv
 have dV:=ag ct
 exact Pl 1<|L1<|aN c 7<|Pl 1<|L1<|aN b 7<|Pl 2<|ce aU (A.addr2 != B.addr2) (by rw[z];rfl)
 refine Pl 1<|cu 6 [68] 74 ((((((((((A.code != B.code)||(A.fail != B.fail))||(A.addr != B.addr))||(A.count != B.count))||(A.value != B.value))||(A.and_ != B.and_))||(A.or_ != B.or_))||(A.addr2 != B.addr2))||(A.sub != B.sub))) (fun K aX=>?_) ?_
 refine bl 68 (((((((((A.code != B.code)||(A.fail != B.fail))||(A.addr != B.addr))||(A.count != B.count))||(A.value != B.value))||(A.and_ != B.and_))||(A.or_ != B.or_))||(A.addr2 != B.addr2))) (fun C=>?_) (fun C=>?_)
 exact Pl 6<|ce aX true (by rw[C];rfl)
 have aY:=(aF C).1
 have cw:=(aF C).2
 have aZ:=(aF aY).1
 have cx:=(aF aY).2
 have q35aaa:=(aF aZ).1
 have q35aab:=(aF aZ).2
 have q35aaaa:=(aF q35aaa).1
 have q35aaab:=(aF q35aaa).2
 have q35aaaaa:=(aF q35aaaa).1
 have q35aaaab:=(aF q35aaaa).2
 have q35aaaaaa:=(aF q35aaaaa).1
 have q35aaaaab:=(aF q35aaaaa).2
 have q35aaaaaaa:=(aF q35aaaaaa).1
 have q35aaaaaab:=(aF q35aaaaaa).2
 have q35aaaaaaap:=ag q35aaaaaaa
 have q35aaaaaabp:=ag q35aaaaaab
 have q35aaaaabp:=ag q35aaaaab
 have q35aaaabp:=ag q35aaaab
 have q35aaabp:=ag q35aaab
 have q35aabp:=ag q35aab
 have q35abp:=ag cx
 have dW:=ag cw
 exact Pl 1<|L1<|aN c 8<|Pl 1<|L1<|aN b 8<|Pl 2<|ce aX (A.sub != B.sub) (by rw[C];rfl)
 refine Pl 1<|cu 6 [75] 81 (((((((((((A.code != B.code)||(A.fail != B.fail))||(A.addr != B.addr))||(A.count != B.count))||(A.value != B.value))||(A.and_ != B.and_))||(A.or_ != B.or_))||(A.addr2 != B.addr2))||(A.sub != B.sub))||(A.status != B.status))) (fun K b0=>?_) ?_
 refine bl 75 ((((((((((A.code != B.code)||(A.fail != B.fail))||(A.addr != B.addr))||(A.count != B.count))||(A.value != B.value))||(A.and_ != B.and_))||(A.or_ != B.or_))||(A.addr2 != B.addr2))||(A.sub != B.sub))) (fun D=>?_) (fun D=>?_)
 exact Pl 6<|ce b0 true (by rw[D];rfl)
 have b1:=(aF D).1
 have cy:=(aF D).2
 have b2:=(aF b1).1
 have cz:=(aF b1).2
 have q37aaa:=(aF b2).1
 have q37aab:=(aF b2).2
 have q37aaaa:=(aF q37aaa).1
 have q37aaab:=(aF q37aaa).2
 have q37aaaaa:=(aF q37aaaa).1
 have q37aaaab:=(aF q37aaaa).2
 have q37aaaaaa:=(aF q37aaaaa).1
 have q37aaaaab:=(aF q37aaaaa).2
 have q37aaaaaaa:=(aF q37aaaaaa).1
 have q37aaaaaab:=(aF q37aaaaaa).2
 have q37aaaaaaaa:=(aF q37aaaaaaa).1
 have q37aaaaaaab:=(aF q37aaaaaaa).2
 have q37aaaaaaaap:=ag q37aaaaaaaa
 have q37aaaaaaabp:=ag q37aaaaaaab
 have q37aaaaaabp:=ag q37aaaaaab
 have q37aaaaabp:=ag q37aaaaab
 have q37aaaabp:=ag q37aaaab
 have q37aaabp:=ag q37aaab
 have q37aabp:=ag q37aab
 have q37abp:=ag cz
 have dX:=ag cy
 exact Pl 1<|L1<|aN c 9<|Pl 1<|L1<|aN b 9<|Pl 2<|ce b0 (A.status != B.status) (by rw[D];rfl)
 refine Pl 1<|cu 6 [82] 88 ((((((((((((A.code != B.code)||(A.fail != B.fail))||(A.addr != B.addr))||(A.count != B.count))||(A.value != B.value))||(A.and_ != B.and_))||(A.or_ != B.or_))||(A.addr2 != B.addr2))||(A.sub != B.sub))||(A.status != B.status))||(A.events != B.events))) (fun K b3=>?_) ?_
 refine bl 82 (((((((((((A.code != B.code)||(A.fail != B.fail))||(A.addr != B.addr))||(A.count != B.count))||(A.value != B.value))||(A.and_ != B.and_))||(A.or_ != B.or_))||(A.addr2 != B.addr2))||(A.sub != B.sub))||(A.status != B.status))) (fun E=>?_) (fun E=>?_)
 exact Pl 6<|ce b3 true (by rw[E];rfl)
 have b4:=(aF E).1
 have cA:=(aF E).2
 have b5:=(aF b4).1
 have cB:=(aF b4).2
 have q39aaa:=(aF b5).1
 have q39aab:=(aF b5).2
 have q39aaaa:=(aF q39aaa).1
 have q39aaab:=(aF q39aaa).2
 have q39aaaaa:=(aF q39aaaa).1
 have q39aaaab:=(aF q39aaaa).2
 have q39aaaaaa:=(aF q39aaaaa).1
 have q39aaaaab:=(aF q39aaaaa).2
 have q39aaaaaaa:=(aF q39aaaaaa).1
 have q39aaaaaab:=(aF q39aaaaaa).2
 have q39aaaaaaaa:=(aF q39aaaaaaa).1
 have q39aaaaaaab:=(aF q39aaaaaaa).2
 have q39aaaaaaaaa:=(aF q39aaaaaaaa).1
 have q39aaaaaaaab:=(aF q39aaaaaaaa).2
 have q39aaaaaaaaap:=ag q39aaaaaaaaa
 have q39aaaaaaaabp:=ag q39aaaaaaaab
 have q39aaaaaaabp:=ag q39aaaaaaab
 have q39aaaaaabp:=ag q39aaaaaab
 have q39aaaaabp:=ag q39aaaaab
 have q39aaaabp:=ag q39aaaab
 have q39aaabp:=ag q39aaab
 have q39aabp:=ag q39aab
 have q39abp:=ag cB
 have dY:=ag cA
 exact Pl 1<|L1<|aN c 10<|Pl 1<|L1<|aN b 10<|Pl 2<|ce b3 (A.events != B.events) (by rw[E];rfl)
 refine Pl 1<|cu 6 [89] 95 (((((((((((((A.code != B.code)||(A.fail != B.fail))||(A.addr != B.addr))||(A.count != B.count))||(A.value != B.value))||(A.and_ != B.and_))||(A.or_ != B.or_))||(A.addr2 != B.addr2))||(A.sub != B.sub))||(A.status != B.status))||(A.events != B.events))||(A.messages != B.messages))) (fun K b6=>?_) ?_
 refine bl 89 ((((((((((((A.code != B.code)||(A.fail != B.fail))||(A.addr != B.addr))||(A.count != B.count))||(A.value != B.value))||(A.and_ != B.and_))||(A.or_ != B.or_))||(A.addr2 != B.addr2))||(A.sub != B.sub))||(A.status != B.status))||(A.events != B.events))) (fun F=>?_) (fun F=>?_)
 exact Pl 6<|ce b6 true (by rw[F];rfl)
 have b8:=(aF F).1
 have cC:=(aF F).2
 have ba:=(aF b8).1
 have cD:=(aF b8).2
 have q41aaa:=(aF ba).1
 have q41aab:=(aF ba).2
 have q41aaaa:=(aF q41aaa).1
 have q41aaab:=(aF q41aaa).2
 have q41aaaaa:=(aF q41aaaa).1
 have q41aaaab:=(aF q41aaaa).2
 have q41aaaaaa:=(aF q41aaaaa).1
 have q41aaaaab:=(aF q41aaaaa).2
 have q41aaaaaaa:=(aF q41aaaaaa).1
 have q41aaaaaab:=(aF q41aaaaaa).2
 have q41aaaaaaaa:=(aF q41aaaaaaa).1
 have q41aaaaaaab:=(aF q41aaaaaaa).2
 have q41aaaaaaaaa:=(aF q41aaaaaaaa).1
 have q41aaaaaaaab:=(aF q41aaaaaaaa).2
 have q41aaaaaaaaaa:=(aF q41aaaaaaaaa).1
 have q41aaaaaaaaab:=(aF q41aaaaaaaaa).2
 have q41aaaaaaaaaap:=ag q41aaaaaaaaaa
 have q41aaaaaaaaabp:=ag q41aaaaaaaaab
 have q41aaaaaaaabp:=ag q41aaaaaaaab
 have q41aaaaaaabp:=ag q41aaaaaaab
 have q41aaaaaabp:=ag q41aaaaaab
 have q41aaaaabp:=ag q41aaaaab
 have q41aaaabp:=ag q41aaaab
 have q41aaabp:=ag q41aaab
 have q41aabp:=ag q41aab
 have q41abp:=ag cD
 have dZ:=ag cC
 exact Pl 1<|L1<|aN c 11<|Pl 1<|L1<|aN b 11<|Pl 2<|ce b6 (A.messages != B.messages) (by rw[F];rfl)
 refine nt<|?_
 have G:=aD cg az
 refine cb (((((((((((((A.code != B.code)||(A.fail != B.fail))||(A.addr != B.addr))||(A.count != B.count))||(A.value != B.value))||(A.and_ != B.and_))||(A.or_ != B.or_))||(A.addr2 != B.addr2))||(A.sub != B.sub))||(A.status != B.status))||(A.events != B.events))||(A.messages != B.messages))) (fun H=>?_) (fun H=>?_)
 refine sg<|Pl 1<|nt<|rt<|tr<|rr (.bool false)<|?_
 have hs:decide (A=B)=false:=mw (f:=fun x y=>((((((((((((x.code != y.code)||(x.fail != y.fail))||(x.addr != y.addr))||(x.count != y.count))||(x.value != y.value))||(x.and_ != y.and_))||(x.or_ != y.or_))||(x.addr2 != y.addr2))||(x.sub != y.sub))||(x.status != y.status))||(x.events != y.events))||(x.messages != y.messages))) H (fun M=>by simp)
 rw[hs]
 exact⟨rfl,G⟩
 have bb:=(aF H).1
 have cE:=(aF H).2
 have bc:=(aF bb).1
 have cF:=(aF bb).2
 have q44aaa:=(aF bc).1
 have q44aab:=(aF bc).2
 have q44aaaa:=(aF q44aaa).1
 have q44aaab:=(aF q44aaa).2
 have q44aaaaa:=(aF q44aaaa).1
 have q44aaaab:=(aF q44aaaa).2
 have q44aaaaaa:=(aF q44aaaaa).1
 have q44aaaaab:=(aF q44aaaaa).2
 have q44aaaaaaa:=(aF q44aaaaaa).1
 have q44aaaaaab:=(aF q44aaaaaa).2
 have q44aaaaaaaa:=(aF q44aaaaaaa).1
 have q44aaaaaaab:=(aF q44aaaaaaa).2
 have q44aaaaaaaaa:=(aF q44aaaaaaaa).1
 have q44aaaaaaaab:=(aF q44aaaaaaaa).2
 have q44aaaaaaaaaa:=(aF q44aaaaaaaaa).1
 have q44aaaaaaaaab:=(aF q44aaaaaaaaa).2
 have q44aaaaaaaaaaa:=(aF q44aaaaaaaaaa).1
 have q44aaaaaaaaaab:=(aF q44aaaaaaaaaa).2
 have q44aaaaaaaaaaap:=ag q44aaaaaaaaaaa
 have q44aaaaaaaaaabp:=ag q44aaaaaaaaaab
 have q44aaaaaaaaabp:=ag q44aaaaaaaaab
 have q44aaaaaaaabp:=ag q44aaaaaaaab
 have q44aaaaaaabp:=ag q44aaaaaaab
 have q44aaaaaabp:=ag q44aaaaaab
 have q44aaaaabp:=ag q44aaaaab
 have q44aaaabp:=ag q44aaaab
 have q44aaabp:=ag q44aaab
 have q44aabp:=ag q44aab
 have q44abp:=ag cF
 have e0:=ag cE
 refine bi<|sq<|sg<|Pl 1<|L0<|aN c 16<|Pl 1<|L0<|aN b 16<|Pl 2<|cu 6 [101] 107 (((A.mei != B.mei)||(A.kind != B.kind))) (fun K bd=>?_) ?_
 refine bl 101 ((A.mei != B.mei)) (fun I=>?_) (fun I=>?_)
 have cG:=ay I
 exact Pl 6<|ce bd true (by rw[I];rfl)
 have cG:=ag I
 exact Pl 1<|L1<|aN c 17<|Pl 1<|L1<|aN b 17<|Pl 2<|ce bd (A.kind != B.kind) (by rw[I];rfl)
 refine Pl 1<|cu 6 [108] 114 ((((A.mei != B.mei)||(A.kind != B.kind))||(A.level != B.level))) (fun K be=>?_) ?_
 refine bl 108 (((A.mei != B.mei)||(A.kind != B.kind))) (fun J=>?_) (fun J=>?_)
 exact Pl 6<|ce be true (by rw[J];rfl)
 have cH:=(aF J).1
 have cI:=(aF J).2
 have e1:=ag cH
 have e2:=ag cI
 exact Pl 1<|L1<|aN c 18<|Pl 1<|L1<|aN b 18<|Pl 2<|ce be (A.level != B.level) (by rw[J];rfl)
 refine Pl 1<|cu 6 [115] 121 (((((A.mei != B.mei)||(A.kind != B.kind))||(A.level != B.level))||(A.more != B.more))) (fun K bf=>?_) ?_
 refine bl 115 ((((A.mei != B.mei)||(A.kind != B.kind))||(A.level != B.level))) (fun L=>?_) (fun L=>?_)
 exact Pl 6<|ce bf true (by rw[L];rfl)
 have bh:=(aF L).1
 have cJ:=(aF L).2
 have cK:=(aF bh).1
 have cL:=(aF bh).2
 have q49aap:=ag cK
 have q49abp:=ag cL
 have e3:=ag cJ
 exact Pl 1<|L1<|aN c 19<|Pl 1<|L1<|aN b 19<|Pl 2<|ce bf (A.more != B.more) (by rw[L];rfl)
 refine Pl 1<|cu 6 [122] 128 ((((((A.mei != B.mei)||(A.kind != B.kind))||(A.level != B.level))||(A.more != B.more))||(A.next != B.next))) (fun K bj=>?_) ?_
 refine bl 122 (((((A.mei != B.mei)||(A.kind != B.kind))||(A.level != B.level))||(A.more != B.more))) (fun N=>?_) (fun N=>?_)
 exact Pl 6<|ce bj true (by rw[N];rfl)
 have bm:=(aF N).1
 have cM:=(aF N).2
 have bo:=(aF bm).1
 have cN:=(aF bm).2
 have q51aaa:=(aF bo).1
 have q51aab:=(aF bo).2
 have q51aaap:=ag q51aaa
 have q51aabp:=ag q51aab
 have q51abp:=ag cN
 have e4:=ag cM
 exact Pl 1<|L1<|aN c 20<|Pl 1<|L1<|aN b 20<|Pl 2<|ce bj (A.next != B.next) (by rw[N];rfl)
 refine nt<|cb ((((((A.mei != B.mei)||(A.kind != B.kind))||(A.level != B.level))||(A.more != B.more))||(A.next != B.next))) (fun O=>?_) (fun O=>?_)
 refine sg<|Pl 1<|nt<|rt<|tr<|rr (.bool false)<|?_
 have hs:decide (A=B)=false:=mw (f:=fun x y=>(((((x.mei != y.mei)||(x.kind != y.kind))||(x.level != y.level))||(x.more != y.more))||(x.next != y.next))) O (fun M=>by simp)
 rw[hs]
 exact⟨rfl,G⟩
 have bp:=(aF O).1
 have cO:=(aF O).2
 have bq:=(aF bp).1
 have cP:=(aF bp).2
 have q53aaa:=(aF bq).1
 have q53aab:=(aF bq).2
 have q53aaaa:=(aF q53aaa).1
 have q53aaab:=(aF q53aaa).2
 have q53aaaap:=ag q53aaaa
 have q53aaabp:=ag q53aaab
 have q53aabp:=ag q53aab
 have q53abp:=ag cP
 have e5:=ag cO
 refine bi<|sg<|Pl 1<|L0<|aN c 12<|Pl 1<|L0<|aN b 12<|?_
 refine L0<|Oc<|m1 (j6 (dP.old phw G) (dP.old qhw G)) fun e6 aa=>Pl 1<|ng<|Pl 1<|?_
 have bs:=ub aa c
 refine L0<|aN bs 13<|Pl 1<|?_
 have bu:=ub aa b
 refine L0<|aN bu 13<|?_
 have ab:=aD G aa
 refine L0<|Oc<|m1 (nK (i4.old phb ab) (i4.old qhb ab)) fun e7 ac=>Pl 1<|ng<|Pl 1<|?_
 have a2:=ub ac bs
 refine L0<|aN a2 14<|Pl 1<|?_
 have P:=ub ac bu
 refine L0<|aN P 14<|?_
 have ad:=aD ab ac
 refine L0<|Oc<|m1 (iA (b9.old phd ad) (b9.old qhd ad)) fun cQ n=>Pl 1<|nt<|sq<|sg<|Pl 3<|cu 3 [146] 149 (((!(decide (A.words=B.words)))||(!(decide (A.bits=B.bits))))) (fun K bv=>?_) ?_
 refine bl 146 ((!(decide (A.words=B.words)))) (fun Q=>?_) (fun Q=>?_)
 have af:(decide (A.words=B.words))=false:=by simpa using Q
 have cR:=of_decide_eq_false af
 exact Pl 3<|ce bv true (by rw[Q];rfl)
 have af:(decide (A.words=B.words))=true:=by simpa using Q
 have cR:=of_decide_eq_true af
 exact Pl 3<|ce bv (!(decide (A.bits=B.bits))) (by rw[Q];rfl)
 refine Pl 1<|cu 3 [150] 153 ((((!(decide (A.words=B.words)))||(!(decide (A.bits=B.bits))))||(!(decide (A.data=B.data))))) (fun K bw=>?_) ?_
 refine bl 150 (((!(decide (A.words=B.words)))||(!(decide (A.bits=B.bits))))) (fun R=>?_) (fun R=>?_)
 exact Pl 3<|ce bw true (by rw[R];rfl)
 have cS:=(aF R).1
 have cT:=(aF R).2
 have cU:(decide (A.words=B.words))=true:=by simpa using cS
 have q74anp:=of_decide_eq_true cU
 have cV:(decide (A.bits=B.bits))=true:=by simpa using cT
 have q74bnp:=of_decide_eq_true cV
 exact Pl 3<|ce bw (!(decide (A.data=B.data))) (by rw[R];rfl)
 refine Pl 1<|cu 8 [154] 162 (((((!(decide (A.words=B.words)))||(!(decide (A.bits=B.bits))))||(!(decide (A.data=B.data))))||(((A.recs.length:Nat) : Int)!=((B.recs.length:Nat) : Int)))) (fun K bz=>?_) ?_
 refine bl 154 ((((!(decide (A.words=B.words)))||(!(decide (A.bits=B.bits))))||(!(decide (A.data=B.data))))) (fun S=>?_) (fun S=>?_)
 exact Pl 8<|ce bz true (by rw[S];rfl)
 have bA:=(aF S).1
 have cW:=(aF S).2
 have cX:=(aF bA).1
 have cZ:=(aF bA).2
 have q76aan:(decide (A.words=B.words))=true:=by simpa using cX
 have q76aanp:=of_decide_eq_true q76aan
 have q76abn:(decide (A.bits=B.bits))=true:=by simpa using cZ
 have q76abnp:=of_decide_eq_true q76abn
 have d0:(decide (A.data=B.data))=true:=by simpa using cW
 have q76bnp:=of_decide_eq_true d0
 refine Pl 1<|?_
 refine L1<|aN (ub n a2) 15<|Pl 2<|?_
 exact L1<|aN (ub n P) 15<|Pl 3<|ce bz (((A.recs.length:Nat) : Int)!=((B.recs.length:Nat) : Int)) (by rw[S];rfl)
 refine Pl 1<|cu 8 [163] 171 ((((((!(decide (A.words=B.words)))||(!(decide (A.bits=B.bits))))||(!(decide (A.data=B.data))))||(((A.recs.length:Nat) : Int)!=((B.recs.length:Nat) : Int)))||(((A.objects.length:Nat) : Int)!=((B.objects.length:Nat) : Int)))) (fun K bB=>?_) ?_
 refine bl 163 (((((!(decide (A.words=B.words)))||(!(decide (A.bits=B.bits))))||(!(decide (A.data=B.data))))||(((A.recs.length:Nat) : Int)!=((B.recs.length:Nat) : Int)))) (fun T=>?_) (fun T=>?_)
 exact Pl 8<|ce bB true (by rw[T];rfl)
 have bC:=(aF T).1
 have d1:=(aF T).2
 have bD:=(aF bC).1
 have d2:=(aF bC).2
 have q80aaa:=(aF bD).1
 have q80aab:=(aF bD).2
 have q80aaan:(decide (A.words=B.words))=true:=by simpa using q80aaa
 have q80aaanp:=of_decide_eq_true q80aaan
 have q80aabn:(decide (A.bits=B.bits))=true:=by simpa using q80aab
 have q80aabnp:=of_decide_eq_true q80aabn
 have q80abn:(decide (A.data=B.data))=true:=by simpa using d2
 have q80abnp:=of_decide_eq_true q80abn
 have e8:=ag d1
 refine Pl 1<|?_
 refine L1<|aN (ub n a2) 21<|Pl 2<|?_
 exact L1<|aN (ub n P) 21<|Pl 3<|ce bB (((A.objects.length:Nat) : Int)!=((B.objects.length:Nat) : Int)) (by rw[T];rfl)
 refine nt<|?_
 have bE:=aD ad n
 refine cb ((((((!(decide (A.words=B.words)))||(!(decide (A.bits=B.bits))))||(!(decide (A.data=B.data))))||(((A.recs.length:Nat) : Int)!=((B.recs.length:Nat) : Int)))||(((A.objects.length:Nat) : Int)!=((B.objects.length:Nat) : Int)))) (fun U=>?_) (fun U=>?_)
 refine sg<|Pl 1<|nt<|rt<|tr<|rr (.bool false)<|?_
 have hs:decide (A=B)=false:=mw (f:=fun x y=>(((((!(decide (x.words=y.words)))||(!(decide (x.bits=y.bits))))||(!(decide (x.data=y.data))))||(((x.recs.length:Nat) : Int)!=((y.recs.length:Nat) : Int)))||(((x.objects.length:Nat) : Int)!=((y.objects.length:Nat) : Int)))) U (fun M=>by simp)
 rw[hs]
 exact⟨rfl,bE⟩
 have bF:=(aF U).1
 have d3:=(aF U).2
 have bG:=(aF bF).1
 have d4:=(aF bF).2
 have q85aaa:=(aF bG).1
 have q85aab:=(aF bG).2
 have q85aaaa:=(aF q85aaa).1
 have q85aaab:=(aF q85aaa).2
 have q85aaaan:(decide (A.words=B.words))=true:=by simpa using q85aaaa
 have q85aaaanp:=of_decide_eq_true q85aaaan
 have q85aaabn:(decide (A.bits=B.bits))=true:=by simpa using q85aaab
 have q85aaabnp:=of_decide_eq_true q85aaabn
 have q85aabn:(decide (A.data=B.data))=true:=by simpa using q85aab
 have q85aabnp:=of_decide_eq_true q85aabn
 have q85abp:=ag d4
 have e9:=ag d3
 refine bi<|sq<|sg<|Pl 1<|nt<|bk<|?_
 refine iM (fun x=>[(2,.pointer (some ⟨i,0,none⟩)),(3,.pointer (some ⟨l,0,none⟩)),(8,.int .i64 ((x:Nat) : Int))]) (fun(x:Nat) w'=>aC [] cQ w'∧(A.recs.take x=B.recs.take x)∧(x≤A.recs.length)) (fun x=>A.recs.length-x) 0 ⟨aC.refl _ _,(by(try dsimp only);simp),(by(try dsimp only);omega)⟩ ?_
 rintro j d5 ⟨a3,d6,d7⟩
 refine iL [(2,.pointer (some ⟨i,0,none⟩)),(3,.pointer (some ⟨l,0,none⟩)),(8,.int .i64 ((j:Nat) : Int))] ?_
 have bI:A.recs.take j=B.recs.take j:=d6
 have ea:j≤A.recs.length:=d7
 refine sq<|sg<|Pl 2<|?_
 have a4:=aD n a3
 have ah:=ub a4 a2
 refine L0<|aN ah 15<|Pl 2<|nt<|?_
 have a5:=aD bE a3
 refine cb ((decide (((j:Nat) : Int)<((A.recs.length:Nat) : Int)))) (fun ai=>?_) (fun ai=>?_)
 have d8:=of_decide_eq_true ai
 refine bi<|sq<|bk<|sg<|Pl 1<|L0<|aN ah 15<|Pl 1<|kD (lJ.elt phr j (by omega)) fun eb ec ed ee ef bJ bK d9 da db eg dc=>L0<|oH 4 A.recs.length j d9 (by omega)<|?_
 refine L0<|yI [.int .u16 ((A.recs.getD j ⟨0,0,0,[]⟩).file),.int .u16 ((A.recs.getD j ⟨0,0,0,[]⟩).record),.int .u16 ((A.recs.getD j ⟨0,0,0,[]⟩).count),.slice bJ ((A.recs.getD j ⟨0,0,0,[]⟩).words.length) bK] (ub a5 da) dc<|L0<|bH #[.int .u16 0,.int .u16 0,.int .u16 0,.slice none 0 0] fun eh ei aj dd ak=>L0<|b7 dd #[.int .u16 ((A.recs.getD j ⟨0,0,0,[]⟩).file),.int .u16 ((A.recs.getD j ⟨0,0,0,[]⟩).record),.int .u16 ((A.recs.getD j ⟨0,0,0,[]⟩).count),.slice bJ ((A.recs.getD j ⟨0,0,0,[]⟩).words.length) bK] fun ej de al=>ng<|Pl 1<|?_
 refine L0<|aN (ub (u1 (aD a4 ak) al (ni a4.size aj)) P) 15<|Pl 1<|kD (lJ.elt qhr j (by omega)) fun ek el em eo ep bL bM df dg dh eq di=>L0<|oH 4 B.recs.length j df (by omega)<|?_
 have am:=u1 (aD a5 ak) al (ni a5.size aj)
 refine L0<|yI [.int .u16 ((B.recs.getD j ⟨0,0,0,[]⟩).file),.int .u16 ((B.recs.getD j ⟨0,0,0,[]⟩).record),.int .u16 ((B.recs.getD j ⟨0,0,0,[]⟩).count),.slice bL ((B.recs.getD j ⟨0,0,0,[]⟩).words.length) bM] (ub am dg) di<|L0<|bH #[.int .u16 0,.int .u16 0,.int .u16 0,.slice none 0 0] fun er es an dk ao=>L0<|b7 dk #[.int .u16 ((B.recs.getD j ⟨0,0,0,[]⟩).file),.int .u16 ((B.recs.getD j ⟨0,0,0,[]⟩).record),.int .u16 ((B.recs.getD j ⟨0,0,0,[]⟩).count),.slice bL ((B.recs.getD j ⟨0,0,0,[]⟩).words.length) bM] fun et a6 ap=>ng<|Pl 1<|?_
 have a7:=ub (u1 ao ap (nr an)) de
 refine L0<|aN a7 3<|Pl 1<|L0<|aN a6 3<|?_
 have aq:=u1 (aD am ao) ap (ni am.size an)
 refine L0<|Oc<|m1 (j6 (dP.old db aq) (dP.old dh aq)) fun eu h=>Pl 1<|ng<|Pl 3<|cu 6 [196] 202 (((!(decide ((A.recs.getD j ⟨0,0,0,[]⟩).words=(B.recs.getD j ⟨0,0,0,[]⟩).words)))||(((A.recs.getD j ⟨0,0,0,[]⟩).file)!=((B.recs.getD j ⟨0,0,0,[]⟩).file)))) (fun K bN=>?_) ?_
 refine bl 196 ((!(decide ((A.recs.getD j ⟨0,0,0,[]⟩).words=(B.recs.getD j ⟨0,0,0,[]⟩).words)))) (fun V=>?_) (fun V=>?_)
 have ar:(decide ((A.recs.getD j ⟨0,0,0,[]⟩).words=(B.recs.getD j ⟨0,0,0,[]⟩).words))=false:=by simpa using V
 have dl:=of_decide_eq_false ar
 exact Pl 6<|ce bN true (by rw[V];rfl)
 have ar:(decide ((A.recs.getD j ⟨0,0,0,[]⟩).words=(B.recs.getD j ⟨0,0,0,[]⟩).words))=true:=by simpa using V
 have dl:=of_decide_eq_true ar
 refine Pl 1<|?_
 refine L1<|aN (ub h a7) 0<|Pl 1<|?_
 exact L1<|aN (ub h a6) 0<|Pl 2<|ce bN (((A.recs.getD j ⟨0,0,0,[]⟩).file)!=((B.recs.getD j ⟨0,0,0,[]⟩).file)) (by rw[V];rfl)
 refine Pl 1<|cu 6 [203] 209 ((((!(decide ((A.recs.getD j ⟨0,0,0,[]⟩).words=(B.recs.getD j ⟨0,0,0,[]⟩).words)))||(((A.recs.getD j ⟨0,0,0,[]⟩).file)!=((B.recs.getD j ⟨0,0,0,[]⟩).file)))||(((A.recs.getD j ⟨0,0,0,[]⟩).record)!=((B.recs.getD j ⟨0,0,0,[]⟩).record)))) (fun K bO=>?_) ?_
 refine bl 203 (((!(decide ((A.recs.getD j ⟨0,0,0,[]⟩).words=(B.recs.getD j ⟨0,0,0,[]⟩).words)))||(((A.recs.getD j ⟨0,0,0,[]⟩).file)!=((B.recs.getD j ⟨0,0,0,[]⟩).file)))) (fun W=>?_) (fun W=>?_)
 exact Pl 6<|ce bO true (by rw[W];rfl)
 have dm:=(aF W).1
 have dn:=(aF W).2
 have dp:(decide ((A.recs.getD j ⟨0,0,0,[]⟩).words=(B.recs.getD j ⟨0,0,0,[]⟩).words))=true:=by simpa using dm
 have q156anp:=of_decide_eq_true dp
 have ev:=ag dn
 refine Pl 1<|?_
 refine L1<|aN (ub h a7) 1<|Pl 1<|?_
 exact L1<|aN (ub h a6) 1<|Pl 2<|ce bO (((A.recs.getD j ⟨0,0,0,[]⟩).record)!=((B.recs.getD j ⟨0,0,0,[]⟩).record)) (by rw[W];rfl)
 refine Pl 1<|cu 6 [210] 216 (((((!(decide ((A.recs.getD j ⟨0,0,0,[]⟩).words=(B.recs.getD j ⟨0,0,0,[]⟩).words)))||(((A.recs.getD j ⟨0,0,0,[]⟩).file)!=((B.recs.getD j ⟨0,0,0,[]⟩).file)))||(((A.recs.getD j ⟨0,0,0,[]⟩).record)!=((B.recs.getD j ⟨0,0,0,[]⟩).record)))||(((A.recs.getD j ⟨0,0,0,[]⟩).count)!=((B.recs.getD j ⟨0,0,0,[]⟩).count)))) (fun K bP=>?_) ?_
 refine bl 210 ((((!(decide ((A.recs.getD j ⟨0,0,0,[]⟩).words=(B.recs.getD j ⟨0,0,0,[]⟩).words)))||(((A.recs.getD j ⟨0,0,0,[]⟩).file)!=((B.recs.getD j ⟨0,0,0,[]⟩).file)))||(((A.recs.getD j ⟨0,0,0,[]⟩).record)!=((B.recs.getD j ⟨0,0,0,[]⟩).record)))) (fun X=>?_) (fun X=>?_)
 exact Pl 6<|ce bP true (by rw[X];rfl)
 have bQ:=(aF X).1
 have dr:=(aF X).2
 have ds:=(aF bQ).1
 have dt:=(aF bQ).2
 have q160aan:(decide ((A.recs.getD j ⟨0,0,0,[]⟩).words=(B.recs.getD j ⟨0,0,0,[]⟩).words))=true:=by simpa using ds
 have q160aanp:=of_decide_eq_true q160aan
 have q160abp:=ag dt
 have ew:=ag dr
 refine Pl 1<|?_
 refine L1<|aN (ub h a7) 2<|Pl 1<|?_
 exact L1<|aN (ub h a6) 2<|Pl 2<|ce bP (((A.recs.getD j ⟨0,0,0,[]⟩).count)!=((B.recs.getD j ⟨0,0,0,[]⟩).count)) (by rw[X];rfl)
 refine nt<|?_
 refine cb (((((!(decide ((A.recs.getD j ⟨0,0,0,[]⟩).words=(B.recs.getD j ⟨0,0,0,[]⟩).words)))||(((A.recs.getD j ⟨0,0,0,[]⟩).file)!=((B.recs.getD j ⟨0,0,0,[]⟩).file)))||(((A.recs.getD j ⟨0,0,0,[]⟩).record)!=((B.recs.getD j ⟨0,0,0,[]⟩).record)))||(((A.recs.getD j ⟨0,0,0,[]⟩).count)!=((B.recs.getD j ⟨0,0,0,[]⟩).count)))) (fun Y=>?_) (fun Y=>?_)
 refine sg<|Pl 1<|nt<|rt<|br<|tr<|tr<|br<|tr<|rr (.bool false)<|?_
 have hs:decide (A=B)=false:=mw (f:=fun x y=>((((!(decide ((x.recs.getD j ⟨0,0,0,[]⟩).words=(y.recs.getD j ⟨0,0,0,[]⟩).words)))||(((x.recs.getD j ⟨0,0,0,[]⟩).file)!=((y.recs.getD j ⟨0,0,0,[]⟩).file)))||(((x.recs.getD j ⟨0,0,0,[]⟩).record)!=((y.recs.getD j ⟨0,0,0,[]⟩).record)))||(((x.recs.getD j ⟨0,0,0,[]⟩).count)!=((y.recs.getD j ⟨0,0,0,[]⟩).count)))) Y (fun M=>by simp)
 rw[hs]
 exact⟨rfl,(aD aq h)⟩
 have bR:=(aF Y).1
 have du:=(aF Y).2
 have bS:=(aF bR).1
 have dv:=(aF bR).2
 have q165aaa:=(aF bS).1
 have q165aab:=(aF bS).2
 have q165aaan:(decide ((A.recs.getD j ⟨0,0,0,[]⟩).words=(B.recs.getD j ⟨0,0,0,[]⟩).words))=true:=by simpa using q165aaa
 have q165aaanp:=of_decide_eq_true q165aaan
 have q165aabp:=ag q165aab
 have q165abp:=ag dv
 have ex:=ag du
 refine sk<|bn<|tn<|go<|Pl 1<|L0<|Oi (((j:Nat) : Int)+1)<|Pl 1<|nl<|?_
 have bT:=u1 (aD a3 ak) al (ni a3.size aj)
 exact gE (j+1) ⟨(aD (u1 (aD bT ao) ap (ni bT.size an)) h),(qH (d:=⟨0,0,0,[]⟩) bI (by omega) (by omega) (xC Y)),(by(try dsimp only);omega)⟩ (by omega)
 have d8:=of_decide_eq_false ai
 refine xt<|tx<|tx<|bx<|tn<|sq<|sg<|Pl 1<|nt<|bk<|?_
 refine iM (fun x=>[(2,.pointer (some ⟨i,0,none⟩)),(3,.pointer (some ⟨l,0,none⟩)),(12,.int .i64 ((x:Nat) : Int))]) (fun(x:Nat) w'=>aC [] d5 w'∧(A.objects.take x=B.objects.take x)∧(x≤A.objects.length)) (fun x=>A.objects.length-x) 0 ⟨aC.refl _ _,(by(try dsimp only);simp),(by(try dsimp only);omega)⟩ ?_
 rintro k ey ⟨a8,dw,dx⟩
 refine iL [(2,.pointer (some ⟨i,0,none⟩)),(3,.pointer (some ⟨l,0,none⟩)),(12,.int .i64 ((k:Nat) : Int))] ?_
 have bU:A.objects.take k=B.objects.take k:=dw
 have ez:k≤A.objects.length:=dx
 refine sq<|sg<|Pl 2<|?_
 have bV:=ub a8 ah
 refine L0<|aN bV 21<|Pl 2<|nt<|?_
 have bW:=aD a5 a8
 refine cb ((decide (((k:Nat) : Int)<((A.objects.length:Nat) : Int)))) (fun au=>?_) (fun au=>?_)
 have dy:=of_decide_eq_true au
 refine bi<|sq<|bk<|sq<|kD (mS.elt pho k (by omega)) fun bX bY eA eB eC dz dA bZ dB dC eD av=>kD (mS.elt qho k (by omega)) fun c0 c2 eE eF eG dD dE c3 dF dG eH aw=>Rg 14 (fun w'=>w'.cell? ⟨i,21,none⟩=some (.slice po A.objects.length pko)∧w'.cell? ⟨bX,bY+k*2+1,none⟩=some (.slice dz ((A.objects.getD k ⟨0,[]⟩).value.length) dA)∧w'.cell? ⟨l,21,none⟩=some (.slice qo B.objects.length qko)∧w'.cell? ⟨c0,c2+k*2+1,none⟩=some (.slice dD ((B.objects.getD k ⟨0,[]⟩).value.length) dE)) fun eI a9=>?_
 have c4:=ub a9 bV
 have Z:=aD bW a9
 have c5:=ub Z dB
 have c6:=ub (aD (aD a4 a8) a9) P
 have c7:=ub Z dF
 refine bg ⟨(ae c4 rfl),(fM c5 av 1 rfl (by decide)),(ae c6 rfl),(fM c7 aw 1 rfl (by decide))⟩ fun g=>Rt 0 g<|Rl 1 g (fun _ hs=>hs.1)<|Rt 2 g<|Ri 3 g 2 A.objects.length k ((k:Nat) : Int) rfl bZ (by omega)<|Rt 4 g<|Rl 5 g (fun _ hs=>hs.2.1)<|Rt 6 g<|Rl 7 g (fun _ hs=>hs.2.2.1)<|Rt 8 g<|Ri 9 g 2 B.objects.length k ((k:Nat) : Int) rfl c3 (by omega)<|Rt 10 g<|Rl 11 g (fun _ hs=>hs.2.2.2)<|?_
 refine R0 12 rfl<|Oc<|m1 (iA (b9.old dC Z) (b9.old dG Z)) fun eJ o=>?_
 have c8:=ub o c4
 have c9:=ub o c5
 have ca:=ub o c6
 have cc:=ub o c7
 refine bg ⟨(ae c8 rfl),(fM c9 av 1 rfl (by decide)),(ae ca rfl),(fM cc aw 1 rfl (by decide))⟩ fun dH=>Rt 13 dH<|re<|tn<|sq<|Rg 17 (fun w'=>w'.cell? ⟨i,21,none⟩=some (.slice po A.objects.length pko)∧w'.cell? ⟨bX,bY+k*2+0,none⟩=some (.int .u8 ((A.objects.getD k ⟨0,[]⟩).id))∧w'.cell? ⟨l,21,none⟩=some (.slice qo B.objects.length qko)∧w'.cell? ⟨c0,c2+k*2+0,none⟩=some (.int .u8 ((B.objects.getD k ⟨0,[]⟩).id))) fun eK p=>?_
 refine bg ⟨(ae (ub p c8) rfl),(fM (ub p c9) av 0 rfl (by decide)),(ae (ub p ca) rfl),(fM (ub p cc) aw 0 rfl (by decide))⟩ fun a=>Rt 0 a<|Rt 1 a<|Rt 2 a<|?_
 have cd:=aD (aD Z o) p
 refine ru 239 ((!(decide ((A.objects.getD k ⟨0,[]⟩).value=(B.objects.getD k ⟨0,[]⟩).value)))) (fun a0=>?_) (fun a0=>?_)
 have ax:(decide ((A.objects.getD k ⟨0,[]⟩).value=(B.objects.getD k ⟨0,[]⟩).value))=false:=by simpa using a0
 have dI:=of_decide_eq_false ax
 refine Ro 3 a<|Ro 4 a<|Ro 5 a<|Ro 6 a<|Ro 7 a<|Ro 8 a<|Ro 9 a<|Ro 10 a<|Ro 11 a<|Ro 12 a<|Ro 13 a<|Ro 14 a<|Ro 15 a<|Rt 16 a<|?_
 refine re<|tn<|c1<|sg<|Pl 1<|nt<|rt<|br<|tr<|tr<|br<|tr<|?_
 refine rr (.bool false)<|?_
 have hs:decide (A=B)=false:=mw (f:=fun x y=>(!(decide ((x.objects.getD k ⟨0,[]⟩).value=(y.objects.getD k ⟨0,[]⟩).value)))) a0 (fun M=>by simp)
 rw[hs]
 exact⟨rfl,cd⟩
 have ax:(decide ((A.objects.getD k ⟨0,[]⟩).value=(B.objects.getD k ⟨0,[]⟩).value))=true:=by simpa using a0
 have dI:=of_decide_eq_true ax
 refine Rt 3 a<|Rl 4 a (fun _ hs=>hs.1)<|Rt 5 a<|Ri 6 a 2 A.objects.length k ((k:Nat) : Int) rfl bZ (by omega)<|Rt 7 a<|Rl 8 a (fun _ hs=>hs.2.1)<|Rt 9 a<|Rl 10 a (fun _ hs=>hs.2.2.1)<|Rt 11 a<|Ri 12 a 2 B.objects.length k ((k:Nat) : Int) rfl c3 (by omega)<|Rt 13 a<|Rl 14 a (fun _ hs=>hs.2.2.2)<|Rt 15 a<|Rt 16 a<|?_
 refine re<|tn<|cb ((((A.objects.getD k ⟨0,[]⟩).id)!=((B.objects.getD k ⟨0,[]⟩).id))) (fun a1=>?_) (fun a1=>?_)
 have dJ:=ay a1
 refine sg<|Pl 1<|nt<|rt<|br<|tr<|tr<|br<|tr<|rr (.bool false)<|?_
 have hs:decide (A=B)=false:=mw (f:=fun x y=>(((x.objects.getD k ⟨0,[]⟩).id)!=((y.objects.getD k ⟨0,[]⟩).id))) a1 (fun M=>by simp)
 rw[hs]
 exact⟨rfl,cd⟩
 have dJ:=ag a1
 refine sk<|bn<|tn<|go<|Pl 1<|L0<|Oi (((k:Nat) : Int)+1)<|Pl 1<|nl<|?_
 exact gE (k+1) ⟨(aD (aD (aD a8 a9) o) p),(qH (d:=⟨0,[]⟩) bU (by omega) (by omega) (wH a0 a1)),(by(try dsimp only);omega)⟩ (by omega)
 have dy:=of_decide_eq_false au
 refine xt<|tx<|tx<|bx<|tn<|sg<|Pl 1<|nt<|rt<|rr (.bool true)<|?_
 have hs:decide (A=B)=true:=decide_eq_true (we H O U (fun e=>gN bI (by omega) e) (fun e=>gN bU (by omega) e))
 rw[hs]
 exact⟨rfl,bW⟩
end Go.Proofs.YtogbnemojakcpaaGreat
namespace Go.Proofs.YtogbnemojakcpaaGreat
def N4 (C:aj) : Prop:=C.e≠4
theorem N4.need{C:aj}{b:Bool}{x:Int}(hx:x≠4)(h:N4 C) : N4 (C.need b x):=by
  unfold N4 aj.need at *
  split
  · exact hx
  · exact h
theorem N4.bytesC{C:aj}{n:Int}(h:N4 C) : N4 (C.bytesC n):=by
  unfold aj.bytesC
  split
  · exact N4.need (by decide) h
  · exact h
theorem N4.wordsC{C:aj}{n:Int}(h:N4 C) : N4 (C.wordsC n):=by
  unfold aj.wordsC
  split<;>exact N4.bytesC h
theorem N4.recs{one:Int→aj→Int × aj × dc}(ho:∀ s C,N4 C→N4 (one s C).2.1) : ∀ (n:Nat)(s:Int)(C:aj)(L:List dc),N4 C→N4 (aR one n s C L).1
  | 0,_,_,_,h=>h
  | n+1,s,C,L,h=>by
    unfold aR
    split
    · split
      · exact ho s C h
      · exact N4.recs ho n _ _ _ (ho s C h)
    · exact h
theorem N4.objs:∀ (n:Nat)(C:aj)(L:List Obj),N4 C→N4 (ed n C L).1
  | 0,_,_,h=>h
  | n+1,C,L,h=>N4.objs n _ _ (N4.bytesC (N4.bytesC (N4.bytesC h)))
theorem pu{x:Int}(h:x≠4) : bp x≠4:=by
  unfold bp
  split
  · decide
  · exact h
theorem uk{dir c:Int}{C:aj}{r:aj × aO}(hC:N4 C)(h:aE dir c C=some r) : N4 r.1:=by
  unfold aE at h
  repeat' split at h
  all_goals first | cases h | skip
  all_goals simp only[dh,dg,d6,fR,bA,iX,fb,dJ,ph,gL]
  all_goals repeat' first | with_reducible exact hC | with_reducible apply N4.bytesC | with_reducible apply N4.wordsC | (with_reducible refine N4.need (by decide) ?_)
theorem w9{dir c:Int}{C:aj}{r:aj × aO}(hC:N4 C)(h:aM dir c C=some r) : N4 r.1:=by
  unfold aM at h
  repeat' split at h
  all_goals first | cases h | skip
  all_goals simp only[bZ,ck,dL,d7,cT,d8,cZ,kz,ij,gP,bG,jP,cO,fE,o9,v8,qX]
  all_goals repeat' first | with_reducible exact hC | with_reducible apply N4.bytesC | with_reducible apply N4.wordsC | (with_reducible refine N4.need (by decide) ?_)
theorem wc{dir c:Int}{C:aj}{r:aj × aO}(hC:N4 C)(h:aV dir c C=some r) : N4 r.1:=by
  unfold aV ea cm at h
  repeat' split at h
  all_goals first | cases h | skip
  all_goals simp only[eI,j9,fg,fK,dy]
  all_goals repeat' first | with_reducible exact hC | with_reducible apply N4.bytesC | with_reducible apply N4.wordsC | (with_reducible refine N4.need (by decide) ?_)
theorem vc(s:Int)(C:aj)(h:N4 C) : N4 (cJ s C).2.1:=by
  simp only[cJ,ey,dt,i6,iE,lL]
  repeat' first | with_reducible exact h | with_reducible apply N4.bytesC | with_reducible apply N4.wordsC | (with_reducible refine N4.need (by decide) ?_)
theorem u6(s:Int)(C:aj)(h:N4 C) : N4 (bJ s C).2.1:=by
  simp only[bJ,eH,i1,fy]
  repeat' first | with_reducible exact h | with_reducible apply N4.bytesC | with_reducible apply N4.wordsC | (with_reducible refine N4.need (by decide) ?_)
theorem vg(s:Int)(C:aj)(h:N4 C) : N4 (cK s C).2.1:=by
  simp only[cK,iK,lV,dt,i6,iE,lL]
  repeat' first | with_reducible exact h | with_reducible apply N4.bytesC | with_reducible apply N4.wordsC | (with_reducible refine N4.need (by decide) ?_)
theorem jI{one:Int→aj→Int × aj × dc}(ho:∀ s C,N4 C→N4 (one s C).2.1)(may:Int→Bool)(c:Int){C:aj}(hC:N4 C) : N4 (dN one may c C).1:=by
  unfold dN ku
  refine N4.need (pu (N4.recs ho _ _ _ _ ?_)) (N4.bytesC (N4.need (by decide) (N4.bytesC hC)))
  show(0:Int)≠4
  decide
theorem tE{dir c:Int}{C:aj}{r:aj × aO}(hC:N4 C)(h:aX dir c C=some r) : N4 r.1:=by
  unfold aX at h
  repeat' split at h
  all_goals first | cases h | skip
  · exact jI vc _ _ hC
  · exact jI u6 _ _ hC
  · exact jI vg _ _ hC
theorem N4.endC{C:aj}(h:N4 C) : N4 C.endC:=by
  unfold aj.endC
  exact N4.need (by decide) h
theorem t8{form:Int→Int→aj→Option (aj × aO)}(hg:∀ {dir c:Int}{C:aj}{r:aj × aO},N4 C→form dir c C=some r→N4 r.1){dir c:Int}{b:List Int}(hd:dir=0∨dir=1){r:aj × aO}(hf:form dir c ⟨b,false,0⟩=some r) :
    (ai form dir c b).2≠4:=by
  unfold ai
  rw[if_pos hd,hf]
  have h0:N4 ⟨b,false,0⟩:=by show(0:Int)≠4;decide
  have g1:=hg h0 hf
  show(b6 r.2 r.1).2≠4
  unfold b6
  split
  · exact(show ¬ (0:Int)=4 from by decide)
  · exact N4.endC g1
theorem lG{form:Int→Int→aj→Option (aj × aO)}{dir c:Int}{b:List Int}(hd:dir=0∨dir=1)(hf:form dir c ⟨b,false,0⟩=none) : ai form dir c b=(aO.zero,4):=by
  unfold ai
  rw[if_pos hd,hf]
def fi (dir:Int)(b:List Int) : aO × Int :=
  if (ai aE dir (b.getD 0 0) (b.drop 1)).2==4 then
    if (ai aM dir (b.getD 0 0) (b.drop 1)).2==4 then
      if (ai aV dir (b.getD 0 0) (b.drop 1)).2==4 then
        if (ai aX dir (b.getD 0 0) (b.drop 1)).2==4 then ai bD dir (b.getD 0 0) (b.drop 1)
        else ai aX dir (b.getD 0 0) (b.drop 1)
      else ai aV dir (b.getD 0 0) (b.drop 1)
    else ai aM dir (b.getD 0 0) (b.drop 1)
  else ai aE dir (b.getD 0 0) (b.drop 1)
theorem rT{dir:Int}{b:List Int}(hd:dir=0∨dir=1) : fi dir b=i7 (iP (b.getD 0 0)) dir b:=by
  have no:∀ (form:Int→Int→aj→Option (aj × aO)),form dir (b.getD 0 0) ⟨b.drop 1,false,0⟩=none→((ai form dir (b.getD 0 0) (b.drop 1)).2==4)=true:=fun f h=>by rw[lG hd h];rfl
  have ye:∀ (form:Int→Int→aj→Option (aj × aO)),(∀ {dir c:Int} {C:aj} {r:aj × aO},N4 C→form dir c C=some r→N4 r.1)→(form dir (b.getD 0 0) ⟨b.drop 1,false,0⟩).isSome=true→¬ ((ai form dir (b.getD 0 0) (b.drop 1)).2==4)=true:=fun form hg h=>by
    obtain⟨r,hr⟩:=Option.isSome_iff_exists.1 h
    have k:=t8 (form:=form) (c:=b.getD 0 0) (fun hC h=>hg hC h) hd hr
    rw[beq_iff_eq]
    exact k
  unfold fi
  rcases gA (b.getD 0 0) with⟨hk,hf⟩|⟨hk,hf⟩|⟨hk,hf⟩|⟨hk,hf⟩|⟨hk,hf⟩|⟨hk,hf⟩<;>rw[hf]
  · rw[if_neg (ye aE (fun hC h=>uk hC h) (by rcases hd with rfl | rfl<;>rcases hk with h | h | h | h<;>rw[h]<;>rfl))]
    rfl
  · rw[if_pos (no aE (by rcases hk with h | h | h | h | h | h | h<;>rw[h]<;>rfl)),if_neg (ye aM (fun hC h=>w9 hC h) (by rcases hd with rfl | rfl<;>rcases hk with h | h | h | h | h | h | h<;>rw[h]<;>rfl))]
    rfl
  · rw[if_pos (no aE (by rcases hk with h | h | h | h | h<;>rw[h]<;>rfl)),if_pos (no aM (by rcases hk with h | h | h | h | h<;>rw[h]<;>rfl)),if_neg (ye aV (fun hC h=>wc hC h) (by rcases hd with rfl | rfl<;>rcases hk with h | h | h | h | h<;>rw[h]<;>rfl))]
    rfl
  · rw[if_pos (no aE (by rcases hk with h | h<;>rw[h]<;>rfl)),if_pos (no aM (by rcases hk with h | h<;>rw[h]<;>rfl)),if_pos (no aV (by rcases hk with h | h<;>rw[h]<;>rfl)),if_neg (ye aX (fun hC h=>tE hC h) (by rcases hd with rfl | rfl<;>rcases hk with h | h<;>rw[h]<;>rfl))]
    rfl
  · rw[if_pos (no aE (by rw[hk]<;>rfl)),if_pos (no aM (by rw[hk]<;>rfl)),if_pos (no aV (by rw[hk]<;>rfl)),if_pos (no aX (by rw[hk]<;>rfl))]
    rfl
  · have no0:∀ (form:Int→Int→aj→Option (aj × aO)),(∀ C,form dir (b.getD 0 0) C=none)→((ai form dir (b.getD 0 0) (b.drop 1)).2==4)=true:=fun f h=>no f (h _)
    have ne:∀ k:Int,¬ b.getD 0 0=k→(b.getD 0 0==k)=false:=fun k h=>by simpa using h
    obtain⟨z1,z2,z5,a,z3,z4,z6,d,e,g,i,z7,z8,j,l,m,n,o,p⟩:=hk
    rw[if_pos (no0 aE fun C=>by unfold aE;simp only[ne _ z1,ne _ z2,ne _ z5,ne _ a,Bool.or_false,Bool.false_eq_true,if_false]),if_pos (no0 aM fun C=>by unfold aM;simp only[ne _ z3,ne _ z4,ne _ z6,ne _ d,ne _ e,ne _ g,ne _ i,Bool.or_false,Bool.false_eq_true,if_false]),if_pos (no0 aV fun C=>by unfold aV;simp only[ne _ z7,ne _ z8,ne _ j,ne _ l,ne _ m,Bool.or_false,Bool.false_eq_true,if_false]),if_pos (no0 aX fun C=>by unfold aX;simp only[ne _ n,ne _ o,Bool.or_false,Bool.false_eq_true,if_false])]
    exact lG hd (by unfold bD;rw[if_pos (show(b.getD 0 0 != 43)=true from by rw[bne_iff_ne];exact p)])
def gi (dir:Int)(b:List Int) : aO × Int :=
  if dir != 0&&dir != 1 then (aO.zero,1)
  else if (b.length:Int)==0 then (aO.zero,2)
  else if decide (253<(b.length:Int)) then (aO.zero,3)
  else if decide (128≤b.getD 0 0)&&dir==1 then eb b
  else fi dir b
theorem fs(dir:Int)(b:List Int) : gi dir b=cC dir b:=by
  unfold gi cC
  split
  · rfl
  · rename_i hh
    have hd:dir=0∨dir=1:=by simp only[Bool.and_eq_true,bne_iff_ne,ne_eq] at hh;omega
    rw[rT hd]
open Go.RowKit
theorem rQ{xs:List Int}{k a b:Nat}(h:2*k+1<xs.length)(ha:a=2*k)(hb:b=2*k+1)(hr:∀ x,x∈xs→0≤x∧x<256) : di (xs.drop (2*k))=[(((256*xs.getD a 0)%65536)+xs.getD b 0)%65536]++di (xs.drop (2*(k+1))):=by
  subst ha hb
  rw[List.drop_eq_getElem_cons (show 2*k<xs.length by omega),List.drop_eq_getElem_cons h]
  have h1:=hr _ (List.getElem_mem (show 2*k<xs.length by omega))
  have h2:=hr _ (List.getElem_mem h)
  have e1:xs.getD (2*k) 0=xs[2*k]:=by rw[List.getD_eq_getElem?_getD,List.getElem?_eq_getElem (by omega)];rfl
  have e2:xs.getD (2*k+1) 0=xs[2*k+1]:=by rw[List.getD_eq_getElem?_getD,List.getElem?_eq_getElem h];rfl
  rw[e1,e2]
  show(xs[2*k]*256+xs[2*k+1]) :: di (xs.drop (2*k+1+1))=_
  rw[show 2*k+1+1=2*(k+1) by omega,show((256*xs[2*k])%65536+xs[2*k+1])%65536=xs[2*k]*256+xs[2*k+1] by omega]
  rfl
theorem sa{xs L:List Int}{k:Nat}(h:L++di (xs.drop (2*k))=di xs)(h1:¬ 2*k+1<xs.length)(h2:xs.length%2=0) : L=cI xs:=by
  have hd:xs.drop (2*k)=[]:=List.drop_eq_nil_of_le (by omega)
  rw[hd] at h
  unfold cI
  rw[if_pos h2,← h]
  simp[di]
theorem wY{m:Md}{A:Option Addr}{cp:Nat}{xs:List Int}{w:World}(h:b9 m w (.slice A xs.length cp) xs)(hn:xs.length≤1048576) : Calls Tryz.prog 217 #[.slice A xs.length cp] w (tN xs w):=by
 have hr:=b9.range h
 refine en 33 Tryz.func217 rfl<|sg<|Pl 1<|ng<|Pl 1<|nt<|sq<|sg<|?_
 refine Pl 2<|L0<|Oe (.int .i64 (Int.tmod ((xs.length:Nat) : Int) 2)) (.int .i64 (((xs.length:Nat) : Int)%2)) (congrArg (Value.int .i64) (Int.tmod_eq_emod_of_nonneg (by omega)))<|Pl 1<|nt<|cb (((((xs.length:Nat) : Int)%2)==1)) (fun f=>?_) (fun f=>?_)
 have y:=ah f
 refine sg<|Pl 1<|nt<|rt<|tr<|rr (.slice none 0 0)<|?_
 have hs:cI xs=[]:=by unfold cI;rw[if_neg (by have:=ah f;omega)]
 exact⟨_,rfl,by rw[hs];exact aS.nil ..,(aC.refl [] _)⟩
 have y:=ak f
 refine bi<|sq<|sg<|Pl 1<|nt<|bk<|?_
 refine iM (fun x=>[(0,.slice A xs.length cp),(2,.slice none 0 0),(3,.slice x.2.2.1 x.2.1.length x.2.2.2),(4,.int .i64 ((2*x.1:Nat) : Int))]) (fun(x:Nat × List Int × Option Addr × Nat) w'=>aC [] w w'∧ky w.heap.size w' (.slice x.2.2.1 x.2.1.length x.2.2.2) x.2.1∧(2*x.1≤xs.length)∧(x.2.1++di (xs.drop (2*x.1))=di xs)∧(x.2.1.length=x.1)) (fun x=>xs.length-2*x.1) (0,[],none,0) ⟨aC.refl _ _,(aS.nil w.heap.size _ _ sG _),(by(try dsimp only);omega),rfl,rfl⟩ ?_
 rintro⟨k,L,B,cq⟩ z ⟨g,C,D,E,F⟩
 refine iL [(0,.slice A xs.length cp),(2,.slice none 0 0),(3,.slice B L.length cq),(4,.int .i64 ((2*k:Nat) : Int))] ?_
 have j:ky w.heap.size z (.slice B L.length cq) L:=C
 have T:2*k≤xs.length:=D
 have U:L++di (xs.drop (2*k))=di xs:=E
 have V:L.length=k:=F
 have hL:L++di (xs.drop (2*k))=di xs:=by assumption
 refine sq<|sg<|Pl 1<|L0<|Oi (((2*k:Nat) : Int)+1)<|Pl 3<|nt<|cb ((decide ((((2*k:Nat) : Int)+1)<((xs.length:Nat) : Int)))) (fun l=>?_) (fun l=>?_)
 have G:=of_decide_eq_true l
 refine bi<|sq<|bk<|?_
 have o:=b9.old h g
 refine gj (b9.at_ o (2*k) (by omega)) fun H I p q W=>gj (b9.at_ o (((((2*k:Nat) : Int)+1)).toNat) (by omega)) fun J K r s X=>Rg 17 (fun w'=>w'.cell? ⟨H,I+2*k,none⟩=some (.int .u8 (xs.getD (2*k) 0))∧w'.cell? ⟨J,K+((((2*k:Nat) : Int)+1)).toNat,none⟩=some (.int .u8 (xs.getD (((((2*k:Nat) : Int)+1)).toNat) 0))) fun Y d=>bg ⟨(uc d q),(uc d s)⟩ fun c=>Rt 0 c<|Rt 1 c<|Rt 2 c<|oh 3 c xs.length (2*k) ((2*k:Nat) : Int) rfl p (by omega)<|Rl 4 c (fun _ hs=>hs.1)<|Rr 5 c (.int .u16 (xs.getD (2*k) 0)) (fun _ _=>cy (.int .u16 (IntKind.u16.wrap (xs.getD (2*k) 0))) (by kernel_rfl) (congrArg (Value.int .u16) (jE (by omega))))<|Rt 6 c<|Rt 7 c<|Rt 8 c<|Rr 9 c (.int .i64 (((2*k:Nat) : Int)+1)) (fun _ _=>cy (.int .i64 (IntKind.i64.wrap (((2*k:Nat) : Int)+1))) (by kernel_rfl) (congrArg (Value.int .i64) (IntWalk.i64_in _ (by omega))))<|?_
 refine oh 10 c xs.length (((((2*k:Nat) : Int)+1)).toNat) (((2*k:Nat) : Int)+1) (by omega) r (by omega)<|Rl 11 c (fun _ hs=>hs.2)<|Rr 12 c (.int .u16 (xs.getD (((((2*k:Nat) : Int)+1)).toNat) 0)) (fun _ _=>cy (.int .u16 (IntKind.u16.wrap (xs.getD (((((2*k:Nat) : Int)+1)).toNat) 0))) (by kernel_rfl) (congrArg (Value.int .u16) (jE (by omega))))<|Rt 13 c<|R0 14 rfl<|cL (m:=1) (e:=24) #[.int .u16 ((((256*(xs.getD (2*k) 0))%65536)+(xs.getD (((((2*k:Nat) : Int)+1)).toNat) 0))%65536)] fun Z a0 M N n=>?_
 have O:=dK M (xs:=[((((256*(xs.getD (2*k) 0))%65536)+(xs.getD (((((2*k:Nat) : Int)+1)).toNat) 0))%65536)]) (by as_aux_lemma=>kernel_rfl) (au (by omega) aK) (by(try simp only[List.length_cons,List.length_nil]);omega) N
 have i:=aD d n
 refine bg ⟨(uc i q),(uc i s)⟩ fun a1=>?_
 refine R0 15 rfl<|bS mX (xs:=L) (ys:=([((((256*(xs.getD (2*k) 0))%65536)+(xs.getD (((((2*k:Nat) : Int)+1)).toNat) 0))%65536)])) (.int .u16 0) 2 (aq j i (fun x hx=>aA) (fun _ _ h=>h)) (O).rd (by(try simp only[List.length_append,List.length_cons,List.length_nil,az]);omega) (le (le g.size d.size) n.size) fun P Q a2 R t=>?_
 have a3:=ut (aC.mono (S':=(ob B++[])) i ax) t (av (fun x hx=>Or.inl (by simp[hx])) ax)
 have u:=ut (aD (aD g d) n) t (av (aP j lr) ax)
 have v:=b9.old h u
 exact bg ⟨(cB v p (2*k) (by omega)),(cB v r (((((2*k:Nat) : Int)+1)).toNat) (by omega))⟩ fun S=>Rt 16 S<|re<|bn<|tn<|go<|Pl 1<|L0<|Oi (((2*k:Nat) : Int)+2)<|Pl 1<|nl<|gE ((k+1),(L++[((((256*(xs.getD (2*k) 0))%65536)+(xs.getD (((((2*k:Nat) : Int)+1)).toNat) 0))%65536)]),P,Q) ⟨u,R,(by(try dsimp only);omega),(by(try dsimp only);rw[← hL,rQ (k:=k) (a:=2*k) (b:=(((2*k:Nat) : Int)+1).toNat) (by omega) rfl (by omega) hr,List.append_assoc]),(by(try dsimp only);simp only[List.length_append,List.length_cons,List.length_nil];omega)⟩ (by omega)
 have G:=of_decide_eq_false l
 refine xt<|tx<|tx<|bx<|tn<|sg<|Pl 2<|nt<|rt<|rr (.slice B L.length cq)<|?_
 have hs:L=cI xs:=sa hL (by omega) (by omega)
 exact⟨_,rfl,by rw[← hs];exact j,g⟩
theorem wV{m:Md}{v:Value}{xs:List Int}{w:World}(h:b9 m w v xs)(hn:xs.length≤1048576) : Calls Tryz.prog 217 #[v] w (tN xs w):=by
  obtain⟨A,cp,rfl,_,_⟩:=h.shape
  exact wY h hn
theorem qY{a n:Int}{w:World}(ha:0≤a∧a<65536)(hn : -1048576≤n∧n≤1048576) : Calls Tryz.prog 215 #[.int .u16 a,.int .i64 n] w (cY (.bool (dv a n)) w):=by
 refine en 16 Tryz.func215 rfl<|sg<|Pl 1<|nt<|sq<|sg<|Pl 3<|cu 3 [7] 10 (((decide (n<1))||(decide (65536<n)))) (fun K d=>?_) ?_
 refine bl 7 ((decide (n<1))) (fun b=>?_) (fun b=>?_)
 have e:=of_decide_eq_true b
 exact Pl 3<|ce d true (by rw[b];rfl)
 have e:=of_decide_eq_false b
 exact Pl 3<|ce d (decide (65536<n)) (by rw[b];rfl)
 refine nt<|cb (((decide (n<1))||(decide (65536<n)))) (fun c=>?_) (fun c=>?_)
 refine sg<|Pl 1<|nt<|rt<|tr<|rr (.bool false)<|?_
 have hq:=c
 have hs:dv a n=false:=by unfold dv;simp only[Bool.or_eq_true,decide_eq_true_eq] at hq;simp only[Bool.and_eq_false_iff,decide_eq_false_iff_not];omega
 rw[hs]
 exact⟨rfl,(aC.refl [] _)⟩
 have f:=(aF c).1
 have g:=(aF c).2
 have h:=of_decide_eq_false f
 have i:=of_decide_eq_false g
 refine bi<|sg<|Pl 1<|L0<|Oi a<|Pl 1<|L0<|Oi (a+n)<|Pl 2<|nt<|rt<|rr (.bool (decide ((a+n)≤65536)))<|?_
 have hs:dv a n=(decide ((a+n)≤65536)):=by unfold dv;rw[Bool.eq_iff_iff];simp only[Bool.and_eq_true,decide_eq_true_eq];omega
 rw[hs]
 exact⟨rfl,(aC.refl [] _)⟩
end Go.Proofs.YtogbnemojakcpaaGreat
