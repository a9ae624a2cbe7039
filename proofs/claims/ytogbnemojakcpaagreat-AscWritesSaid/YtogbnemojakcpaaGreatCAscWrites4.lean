/- Contracts of functions, part CAscWrites4. -/
import Derived.Test.YtogbnemojakcpaaGreatCAscWrites1
import Derived.Test.YtogbnemojakcpaaGreatCAscWrites2
import Derived.Test.YtogbnemojakcpaaGreatCAscWrites3
import Derived.OpenShut
import Derived.Below
import Derived.Lib.ConvBytes
import Derived.Lib.OthersKept
import Derived.Laws.BitsAllLaws
import Derived.Shelf.Strings.Builder1
import Derived.Laws.StructEq
set_option linter.unusedVariables false
set_option linter.unusedSimpArgs false
set_option maxRecDepth 100000
set_option maxHeartbeats 4000000
namespace Go.Proofs.YtogbnemojakcpaaGreat
open Go.RowKit
theorem dV{α:Type}(d:α)(xs:List α)(k:Nat)(h:k<xs.length) : xs.getD k d∈xs:=by
  simp[List.getD_eq_getElem?_getD,List.getElem?_eq_getElem h]
def eX:List Obj→List Int
  | []=>[]
  | o :: r=>([o.id,(o.value.length:Int)%256]++o.value)++eX r
theorem mL(xs:List Obj)(k:Nat)(h:k<xs.length) : eX (xs.drop k)=([(xs.getD k ⟨0,[]⟩).id,((xs.getD k ⟨0,[]⟩).value.length:Int)%256]++(xs.getD k ⟨0,[]⟩).value)++eX (xs.drop (k+1)):=by
  rw[List.drop_eq_getElem_cons h]
  simp[eX,List.getD_eq_getElem?_getD,List.getElem?_eq_getElem h]
def cQ (dir:Int)(M:aP) : List Int :=
  if M.mei==13 then [M.mei]++M.data
  else if dir==0 then [M.mei,M.kind,M.next]
  else [M.mei,M.kind,M.level,M.more,M.next,(M.objects.length:Int)%256]++eX M.objects
theorem tt{m:Md}{cs:Array Value}{M:aP}{w:World}{dir:Int}(h:aH m w cs.toList M)(hf:bS M)(hd0:(dir==0)=true) : Calls Tryz.prog 214 #[.int .i64 dir,.agg cs] w (ik (cQ dir M) w):=by
 obtain⟨vw,vb,vd,vr,vo,h0,hw,hbt,hd,hr,ho,hR⟩:=h
 obtain rfl:cs=(bu M vw vb vd vr vo).toArray:=by apply Array.toList_inj.1;simpa using h0
 clear h0
 obtain⟨Aw,kw,rfl,_,_⟩:=hw.shape
 obtain⟨Ab,kb,rfl,_,_⟩:=hbt.shape
 obtain⟨Ad,kd,rfl,_,_⟩:=hd.shape
 obtain⟨Ar,kr,rfl,_,_⟩:=hr.shape
 obtain⟨Ao,ko,rfl,_,_⟩:=ho.shape
 obtain⟨q0,q1,q2,q3,q4,q5,q6,q7,q8,q9,i,j,k,l,n,o,p⟩:=hR
 simp only[B8,dp] at q0 q1 q2 q3 q4 q5 q6 q7 q8 q9 i j k l n o p
 have hf1:=hf.words
 have hf2:=hf.bits
 have hf3:=hf.data
 have hf4:=hf.recs
 have hf5:=hf.objects
 refine en 64 Tryz.func214 rfl<|sg<|L0<|dv (mG M.code M.fail M.addr M.count M.value M.and_ M.or_ M.addr2 M.sub M.status M.events M.messages (.slice Aw M.words.length kw) (.slice Ab M.bits.length kb) (.slice Ad M.data.length kd) (.slice Ar M.recs.length kr) M.mei M.kind M.level M.more M.next (.slice Ao M.objects.length ko)) fun D E F a b=>Pl 1<|nt<|sq<|bk<|sg<|Pl 1<|L0<|aO a 16<|Pl 2<|nl<|?_
 refine tn<|cb ((M.mei==13)) (fun c=>?_) (fun c=>?_)
 have q:=ah c
 refine sg<|Pl 1<|L0<|aO a 16<|L0<|cL (m:=1) (e:=5) #[.int .u8 M.mei] fun G H r s d=>?_
 have f:=cC r (xs:=[M.mei]) (by as_aux_lemma=>kernel_rfl) (au (by omega) aK) (by(try simp only[List.length_cons,List.length_nil]);omega) s
 refine Pl 1<|?_
 refine L0<|aO (ub d a) 14<|?_
 have g:=aD b d
 refine L0<|bR aZ (xs:=([M.mei])) (ys:=M.data) (.int .u8 0) 1 f (b9.old hd g) (by(try simp only[List.length_append,List.length_cons,List.length_nil,aA]);omega) d.size fun t u I v x=>Pl 1<|nt<|rt<|br<|tr<|rr (.slice t (([M.mei]++M.data).length) u)<|?_
 have hs:cQ dir M=([M.mei]++M.data):=by
   unfold cQ
   (try simp only[hd0,c,bs,if_true,if_false,decide_true,decide_false,reduceIte])
   all_goals rfl
 rw[hs]
 exact⟨_,rfl,(aS.weaken v b.size),(ut g x (av (aN f b.size) ay))⟩
 have q:=aj c
 refine sg<|Pl 3<|nt<|ct hd0<|sg<|Pl 1<|L0<|aO a 16<|Pl 1<|L0<|aO a 17<|Pl 1<|L0<|aO a 20<|?_
 refine L0<|cL (m:=3) (e:=5) #[.int .u8 M.mei,.int .u8 M.kind,.int .u8 M.next] fun y J z A B=>?_
 have C:=cC z (xs:=[M.mei,M.kind,M.next]) (by as_aux_lemma=>kernel_rfl) (au (by omega) (au (by omega) (au (by omega) aK))) (by(try simp only[List.length_cons,List.length_nil]);omega) A
 refine Pl 1<|nt<|rt<|br<|tr<|rr (.slice (some ⟨y,0,none⟩) 3 3)<|?_
 have hs:cQ dir M=[M.mei,M.kind,M.next]:=by
   unfold cQ
   (try simp only[hd0,c,bs,if_true,if_false,decide_true,decide_false,reduceIte])
   all_goals rfl
 rw[hs]
 exact⟨_,rfl,(aS.weaken C b.size),(aD b B)⟩
theorem sB{m:Md}{cs:Array Value}{M:aP}{w:World}{dir:Int}(h:aH m w cs.toList M)(hf:bS M)(hd0:(dir==0)=false) : Calls Tryz.prog 214 #[.int .i64 dir,.agg cs] w (ik (cQ dir M) w):=by
 obtain⟨vw,vb,vd,vr,vo,h0,hw,hbt,hd,hr,ho,hR⟩:=h
 obtain rfl:cs=(bu M vw vb vd vr vo).toArray:=by apply Array.toList_inj.1;simpa using h0
 clear h0
 obtain⟨Aw,kw,rfl,_,_⟩:=hw.shape
 obtain⟨Ab,kb,rfl,_,_⟩:=hbt.shape
 obtain⟨Ad,kd,rfl,_,_⟩:=hd.shape
 obtain⟨Ar,kr,rfl,_,_⟩:=hr.shape
 obtain⟨Ao,ko,rfl,_,_⟩:=ho.shape
 obtain⟨q0,q1,q2,q3,q4,q5,q6,q7,q8,q9,O,P,Q,R,S,T,U⟩:=hR
 simp only[B8,dp] at q0 q1 q2 q3 q4 q5 q6 q7 q8 q9 O P Q R S T U
 have hf1:=hf.words
 have hf2:=hf.bits
 have hf3:=hf.data
 have hf4:=hf.recs
 have hf5:=hf.objects
 refine en 64 Tryz.func214 rfl<|sg<|L0<|dv (mG M.code M.fail M.addr M.count M.value M.and_ M.or_ M.addr2 M.sub M.status M.events M.messages (.slice Aw M.words.length kw) (.slice Ab M.bits.length kb) (.slice Ad M.data.length kd) (.slice Ar M.recs.length kr) M.mei M.kind M.level M.more M.next (.slice Ao M.objects.length ko)) fun aF r aG a c=>Pl 1<|nt<|sq<|bk<|sg<|Pl 1<|L0<|aO a 16<|Pl 2<|nl<|?_
 refine tn<|cb ((M.mei==13)) (fun d=>?_) (fun d=>?_)
 have V:=ah d
 refine sg<|Pl 1<|L0<|aO a 16<|L0<|cL (m:=1) (e:=5) #[.int .u8 M.mei] fun aI aJ W X s=>?_
 have E:=cC W (xs:=[M.mei]) (by as_aux_lemma=>kernel_rfl) (au (by omega) aK) (by(try simp only[List.length_cons,List.length_nil]);omega) X
 refine Pl 1<|?_
 refine L0<|aO (ub s a) 14<|?_
 have F:=aD c s
 refine L0<|bR aZ (xs:=([M.mei])) (ys:=M.data) (.int .u8 0) 1 E (b9.old hd F) (by(try simp only[List.length_append,List.length_cons,List.length_nil,aA]);omega) s.size fun Y Z aL a0 a1=>Pl 1<|nt<|rt<|br<|tr<|rr (.slice Y (([M.mei]++M.data).length) Z)<|?_
 have hs:cQ dir M=([M.mei]++M.data):=by
   unfold cQ
   (try simp only[hd0,d,bs,if_true,if_false,decide_true,decide_false,reduceIte])
   all_goals rfl
 rw[hs]
 exact⟨_,rfl,(aS.weaken a0 c.size),(ut F a1 (av (aN E c.size) ay))⟩
 have V:=aj d
 refine sg<|Pl 3<|nt<|cf hd0<|sk<|bn<|tn<|sg<|Pl 1<|L0<|aO a 16<|Pl 1<|L0<|aO a 17<|?_
 refine Pl 1<|L0<|aO a 18<|Pl 1<|L0<|aO a 19<|Pl 1<|L0<|aO a 20<|Pl 1<|L0<|aO a 21<|Pl 2<|L0<|cL (m:=6) (e:=5) #[.int .u8 M.mei,.int .u8 M.kind,.int .u8 M.level,.int .u8 M.more,.int .u8 M.next,.int .u8 (((M.objects.length:Nat) : Int)%256)] fun a2 a3 a4 a5 j=>?_
 have a6:=cC a4 (xs:=[M.mei,M.kind,M.level,M.more,M.next,(((M.objects.length:Nat) : Int)%256)]) (by as_aux_lemma=>kernel_rfl) (au (by omega) (au (by omega) (au (by omega) (au (by omega) (au (by omega) (au (by omega) aK)))))) (by(try simp only[List.length_cons,List.length_nil]);omega) a5
 refine Pl 1<|nt<|sq<|sg<|Pl 1<|?_
 refine L0<|aO (ub j a) 21<|Pl 2<|nt<|bk<|?_
 refine iN (fun x=>[(4,.slice none 0 0),(5,.slice x.2.2.1 x.2.1.length x.2.2.2),(44,.slice Ao M.objects.length ko),(45,.int .i64 ((M.objects.length:Nat) : Int)),(46,.int .i64 ((x.1:Nat) : Int))]) (fun(x:Nat × List Int × Option Addr × Nat) w'=>aC [] r w'∧a3.heap.size≤w'.heap.size∧eB r.heap.size w' (.slice x.2.2.1 x.2.1.length x.2.2.2) x.2.1∧(x.1≤M.objects.length)∧(x.2.1++eX (M.objects.drop x.1)=([M.mei,M.kind,M.level,M.more,M.next,(((M.objects.length:Nat) : Int)%256)])++eX M.objects)∧(x.2.1.length≤16+x.1*1026)∧(6≤x.2.1.length)) (fun x=>M.objects.length-x.1) (0,[M.mei,M.kind,M.level,M.more,M.next,(((M.objects.length:Nat) : Int)%256)],some ⟨a2,0,none⟩,6) ⟨j,lr,a6,(by(try dsimp only);omega),rfl,(by(try dsimp only);(try simp only[List.length_cons,List.length_nil]);omega),(by(try dsimp only);(try simp only[List.length_cons,List.length_nil]);omega)⟩ ?_
 rintro⟨k,L,A,cp⟩ a7 ⟨G,t,a8,a9,aa,ab,ac⟩
 refine iy [(4,.slice none 0 0),(5,.slice A L.length cp),(44,.slice Ao M.objects.length ko),(45,.int .i64 ((M.objects.length:Nat) : Int)),(46,.int .i64 ((k:Nat) : Int))] ?_
 have f:eB r.heap.size a7 (.slice A L.length cp) L:=a8
 have aM:k≤M.objects.length:=a9
 have aQ:L++eX (M.objects.drop k)=([M.mei,M.kind,M.level,M.more,M.next,(((M.objects.length:Nat) : Int)%256)])++eX M.objects:=aa
 have aR:L.length≤16+k*1026:=ab
 have aT:6≤L.length:=ac
 have hL:L++eX (M.objects.drop k)=([M.mei,M.kind,M.level,M.more,M.next,(((M.objects.length:Nat) : Int)%256)])++eX M.objects:=by assumption
 have hv0:=fun(h:k<M.objects.length)=>hf.objv _ (dV ⟨0,[]⟩ M.objects k h)
 refine sg<|Pl 1<|nt<|sq<|?_
 have u:=aD c G
 refine cb ((decide (((k:Nat) : Int)<((M.objects.length:Nat) : Int)))) (fun l=>?_) (fun l=>?_)
 have ad:=of_decide_eq_true l
 refine bf<|sq<|bk<|sg<|kR (nv.elt ho k (by omega)) fun aU aV aW aX aY v y af ag ai b0 ak=>L0<|pm 2 M.objects.length k af (by omega)<|?_
 refine L0<|zG [.int .u8 ((M.objects.getD k ⟨0,[]⟩).id),.slice v ((M.objects.getD k ⟨0,[]⟩).value.length) y] (ub u ag) ak<|L0<|bH #[.int .u8 0,.slice none 0 0] fun H b1 I al n=>L0<|b7 al #[.int .u8 ((M.objects.getD k ⟨0,[]⟩).id),.slice v ((M.objects.getD k ⟨0,[]⟩).value.length) y] fun b2 am o=>nt<|Rg 13 (fun w'=>w'.cell? ⟨H,0,none⟩=some (.int .u8 ((M.objects.getD k ⟨0,[]⟩).id))∧w'.cell? ⟨H,1,none⟩=some (.slice v ((M.objects.getD k ⟨0,[]⟩).value.length) y)) fun b3 g=>?_
 have z:=ub g am
 refine bi ⟨(ae z rfl),(ae z rfl)⟩ fun b=>Rt 0 b<|Rt 1 b<|Rl 2 b (fun _ hs=>hs.1)<|Rt 3 b<|Rl 4 b (fun _ hs=>hs.2)<|Rt 5 b<|Rt 6 b<|Rt 9 b<|Rl 10 b (fun _ hs=>hs.2)<|R0 7 rfl<|cL (m:=2) (e:=5) #[.int .u8 ((M.objects.getD k ⟨0,[]⟩).id),.int .u8 ((((M.objects.getD k ⟨0,[]⟩).value.length:Nat) : Int)%256)] fun b4 b5 an ao i=>?_
 have aq:=cC an (xs:=[(M.objects.getD k ⟨0,[]⟩).id,((((M.objects.getD k ⟨0,[]⟩).value.length:Nat) : Int)%256)]) (by as_aux_lemma=>kernel_rfl) (au (by omega) (au (by omega) aK)) (by(try simp only[List.length_cons,List.length_nil]);omega) ao
 have B:=ub i z
 refine bi ⟨(ae B rfl),(ae B rfl)⟩ fun b6=>?_
 have J:=ud n (aD o (aD g i)) I
 refine R0 8 rfl<|bR aZ (xs:=L) (ys:=([(M.objects.getD k ⟨0,[]⟩).id,((((M.objects.getD k ⟨0,[]⟩).value.length:Nat) : Int)%256)])) (.int .u8 0) 1 (ap f J (fun x hx=>az) (fun _ _ h=>h)) (aq).rd (by(try simp only[List.length_append,List.length_cons,List.length_nil,aA]);omega) (le (le (le (le (le j.size t) n.size) o.size) g.size) i.size) fun ar b8 ba C p=>?_
 have q:=aC.blk p (bj (eS f lr I) az) B
 refine bi ⟨(ae q rfl),(ae q rfl)⟩ fun bb=>?_
 have K:=ut (aC.mono (S':=(ob A++[])) J ay) p (av il ay)
 refine R0 11 rfl<|bR aZ (xs:=(L++[(M.objects.getD k ⟨0,[]⟩).id,((((M.objects.getD k ⟨0,[]⟩).value.length:Nat) : Int)%256)])) (ys:=((M.objects.getD k ⟨0,[]⟩).value)) (.int .u8 0) 1 C (b9.old ai (ut u K (av (aN f c.size) ay))) (by(try simp only[List.length_append,List.length_cons,List.length_nil,aA]);omega) (le (le (le (le (le (le j.size t) n.size) o.size) g.size) i.size) p.size) fun aw ax bc aB D=>?_
 have N:=aC.blk D (bj (db q C (by decide)) az) q
 refine bi ⟨(ae N rfl),(ae N rfl)⟩ fun aE=>Rt 12 aE<|re<|bn<|tn<|go<|L0<|Oi (((k:Nat) : Int)+1)<|Pl 1<|nl<|?_
 exact gB ((k+1),((L++[(M.objects.getD k ⟨0,[]⟩).id,((((M.objects.getD k ⟨0,[]⟩).value.length:Nat) : Int)%256)])++(M.objects.getD k ⟨0,[]⟩).value),aw,ax) ⟨(ut G (ut (aC.mono (S':=(ob A++(ob ar++[]))) K (av il ay)) D (av il ay)) (av (aN f lr) (av (aN C lr) ay))),(le (le (le (le (le (le t n.size) o.size) g.size) i.size) p.size) D.size),aB,(by(try dsimp only);omega),(by(try dsimp only);rw[← hL,mL  M.objects k (by omega)];simp only[List.append_assoc]),(by(try dsimp only);have hv:=hf.objv _ (dV ⟨0,[]⟩ M.objects k (by omega));(try simp only[List.length_append,List.length_cons,List.length_nil,aA]);omega),(by(try dsimp only);(try simp only[List.length_append,List.length_cons,List.length_nil]);omega)⟩ (by omega)
 have ad:=of_decide_eq_false l
 refine xt<|tx<|tx<|bx<|tn<|sg<|Pl 2<|nt<|rt<|rr (.slice A L.length cp)<|?_
 have hk:k=M.objects.length:=by omega
 rw[hk,List.drop_length] at hL
 have hL2:L=([M.mei,M.kind,M.level,M.more,M.next,(((M.objects.length:Nat) : Int)%256)])++eX M.objects:=by rw[← hL];simp[eX]
 have hs:cQ dir M=L:=by
   rw[hL2]
   unfold cQ
   (try simp only[hd0,d,l,bs,if_true,if_false,decide_true,decide_false,reduceIte])
   all_goals rfl
 rw[hs]
 exact⟨_,rfl,(aS.weaken f c.size),u⟩
theorem w7{m:Md}{cs:Array Value}{M:aP}{w:World}{dir:Int}(h:aH m w cs.toList M)(hf:bS M) : Calls Tryz.prog 214 #[.int .i64 dir,.agg cs] w (ik (cQ dir M) w):=by
  rcases ej (dir==0) with h0|h0
  · exact tt h hf h0
  · exact sB h hf h0
open Go.RowKit
def jd (dir code:Int)(r:dj) : List Int:=(if code==20&&dir==1 then [(1+2*(r.words.length:Int))%256,6] else [6]++aJ [r.file,r.record,r.count])++aJ r.words
def cX (dir code:Int) : List dj→List Int
  | []=>[]
  | r :: rs=>jd dir code r++cX dir code rs
theorem gc(dir code:Int)(xs:List dj)(k:Nat)(h:k<xs.length) : cX dir code (xs.drop k)=jd dir code (xs.getD k ⟨0,0,0,[]⟩)++cX dir code (xs.drop (k+1)):=by
  rw[List.drop_eq_getElem_cons h]
  simp[cX,List.getD_eq_getElem?_getD,List.getElem?_eq_getElem h]
def cZ (dir:Int)(M:aP) : List Int:=([0]++cX dir M.code M.recs).set 0 (((([0]++cX dir M.code M.recs).length:Int)-1)%256)
theorem rY{m:Md}{cs:Array Value}{M:aP}{w:World}{dir:Int}(h:aH m w cs.toList M)(hf:bS M) : Calls Tryz.prog 212 #[.int .i64 dir,.agg cs] w (ik (cZ dir M) w):=by
 obtain⟨vw,vb,vd,vr,vo,h0,hw,hbt,hd,hr,ho,hR⟩:=h
 obtain rfl:cs=(bu M vw vb vd vr vo).toArray:=by apply Array.toList_inj.1;simpa using h0
 clear h0
 obtain⟨Aw,kw,rfl,_,_⟩:=hw.shape
 obtain⟨Ab,kb,rfl,_,_⟩:=hbt.shape
 obtain⟨Ad,kd,rfl,_,_⟩:=hd.shape
 obtain⟨Ar,kr,rfl,_,_⟩:=hr.shape
 obtain⟨Ao,ko,rfl,_,_⟩:=ho.shape
 obtain⟨q0,q1,q2,q3,q4,q5,q6,q7,q8,q9,bm,bo,bp,bq,br,bt,bv⟩:=hR
 simp only[B8,dp] at q0 q1 q2 q3 q4 q5 q6 q7 q8 q9 bm bo bp bq br bt bv
 have hf1:=hf.words
 have hf2:=hf.bits
 have hf3:=hf.data
 have hf4:=hf.recs
 have hf5:=hf.objects
 refine en 58 Tryz.func212 rfl<|sg<|L0<|dv (mG M.code M.fail M.addr M.count M.value M.and_ M.or_ M.addr2 M.sub M.status M.events M.messages (.slice Aw M.words.length kw) (.slice Ab M.bits.length kb) (.slice Ad M.data.length kd) (.slice Ar M.recs.length kr) M.mei M.kind M.level M.more M.next (.slice Ao M.objects.length ko)) fun ao ac cB aq l=>Pl 1<|ng<|L0<|cL (m:=1) (e:=5) #[.int .u8 0] fun bw bz bA bB g=>?_
 have bC:=cC bA (xs:=[0]) (by as_aux_lemma=>kernel_rfl) (au (by omega) aK) (by(try simp only[List.length_cons,List.length_nil]);omega) bB
 refine Pl 1<|nt<|sq<|sg<|Pl 1<|?_
 refine L0<|aO (ub g aq) 15<|Pl 2<|nt<|bk<|?_
 refine iN (fun x=>[(0,.int .i64 dir),(3,.pointer (some ⟨ao,0,none⟩)),(4,.slice none 0 0),(5,.slice x.2.2.1 x.2.1.length x.2.2.2),(10,.slice Ar M.recs.length kr),(11,.int .i64 ((M.recs.length:Nat) : Int)),(12,.int .i64 ((x.1:Nat) : Int))]) (fun(x:Nat × List Int × Option Addr × Nat) w'=>aC [] ac w'∧bz.heap.size≤w'.heap.size∧eB ac.heap.size w' (.slice x.2.2.1 x.2.1.length x.2.2.2) x.2.1∧(x.1≤M.recs.length)∧(x.2.1++cX dir M.code (M.recs.drop x.1)=([0])++cX dir M.code M.recs)∧(x.2.1.length≤16+x.1*2060)∧(1≤x.2.1.length)) (fun x=>M.recs.length-x.1) (0,[0],some ⟨bw,0,none⟩,1) ⟨g,lr,bC,(by(try dsimp only);omega),rfl,(by(try dsimp only);(try simp only[List.length_cons,List.length_nil]);omega),(by(try dsimp only);(try simp only[List.length_cons,List.length_nil]);omega)⟩ ?_
 rintro⟨k,L,A,cp⟩ bD ⟨ar,f,bE,bF,bG,bI,bJ⟩
 refine iy [(0,.int .i64 dir),(3,.pointer (some ⟨ao,0,none⟩)),(4,.slice none 0 0),(5,.slice A L.length cp),(10,.slice Ar M.recs.length kr),(11,.int .i64 ((M.recs.length:Nat) : Int)),(12,.int .i64 ((k:Nat) : Int))] ?_
 have a:eB ac.heap.size bD (.slice A L.length cp) L:=bE
 have cD:k≤M.recs.length:=bF
 have cE:L++cX dir M.code (M.recs.drop k)=([0])++cX dir M.code M.recs:=bG
 have cF:L.length≤16+k*2060:=bI
 have cG:1≤L.length:=bJ
 have hL:L++cX dir M.code (M.recs.drop k)=([0])++cX dir M.code M.recs:=by assumption
 have hv0:=fun(h:k<M.recs.length)=>hf.recw _ (dV ⟨0,0,0,[]⟩ M.recs k h)
 refine sg<|Pl 1<|nt<|sq<|?_
 have ad:=aD l ar
 refine cb ((decide (((k:Nat) : Int)<((M.recs.length:Nat) : Int)))) (fun n=>?_) (fun n=>?_)
 have bK:=of_decide_eq_true n
 refine bf<|sq<|bk<|sg<|kR (ma.elt hr k (by omega)) fun cH cI cJ cK cM aw ax bL bM Q cN bN=>L0<|pm 4 M.recs.length k bL (by omega)<|?_
 refine L0<|zG [.int .u16 ((M.recs.getD k ⟨0,0,0,[]⟩).file),.int .u16 ((M.recs.getD k ⟨0,0,0,[]⟩).record),.int .u16 ((M.recs.getD k ⟨0,0,0,[]⟩).count),.slice aw ((M.recs.getD k ⟨0,0,0,[]⟩).words.length) ax] (ub ad bM) bN<|L0<|bH #[.int .u16 0,.int .u16 0,.int .u16 0,.slice none 0 0] fun af cO B bO b=>L0<|b7 bO #[.int .u16 ((M.recs.getD k ⟨0,0,0,[]⟩).file),.int .u16 ((M.recs.getD k ⟨0,0,0,[]⟩).record),.int .u16 ((M.recs.getD k ⟨0,0,0,[]⟩).count),.slice aw ((M.recs.getD k ⟨0,0,0,[]⟩).words.length) ax] fun cP ag c=>nt<|sq<|bk<|sg<|Pl 1<|?_
 have s:=ud b c B
 have C:=aD ar s
 refine L0<|aO (ub C aq) 0<|Pl 2<|cu 3 [32] 35 (((M.code==20)&&(dir==1))) (fun K aB=>?_) ?_
 refine bl 32 ((M.code==20)) (fun D=>?_) (fun D=>?_)
 have bP:=ah D
 exact Pl 3<|ce aB (dir==1) (by rw[D];rfl)
 have bP:=aj D
 exact Pl 3<|ce aB false (by rw[D];rfl)
 refine Pl 1<|nt<|?_
 have R:=aD ad s
 refine cb (((M.code==20)&&(dir==1))) (fun o=>?_) (fun o=>?_)
 have aE:=(aT o).1
 have aF:=(aT o).2
 have cQ:=ah aE
 have cR:=ah aF
 refine go<|Pl 2<|L0<|aO ag 3<|Pl 1<|L0<|Oi (2*(((M.recs.getD k ⟨0,0,0,[]⟩).words.length:Nat) : Int))<|L0<|Oi (1+(2*(((M.recs.getD k ⟨0,0,0,[]⟩).words.length:Nat) : Int)))<|Pl 1<|L0<|cL (m:=2) (e:=5) #[.int .u8 ((1+(2*(((M.recs.getD k ⟨0,0,0,[]⟩).words.length:Nat) : Int)))%256),.int .u8 6] fun cS cT bQ bT E=>?_
 have bV:=cC bQ (xs:=[((1+(2*(((M.recs.getD k ⟨0,0,0,[]⟩).words.length:Nat) : Int)))%256),6]) (by as_aux_lemma=>kernel_rfl) (au (by omega) (au (by omega) aK)) (by(try simp only[List.length_cons,List.length_nil]);omega) bT
 refine L0<|bR aZ (xs:=L) (ys:=([((1+(2*(((M.recs.getD k ⟨0,0,0,[]⟩).words.length:Nat) : Int)))%256),6])) (.int .u8 0) 1 (ap a (aD s E) (fun x hx=>az) (fun _ _ h=>h)) (bV).rd (by(try simp only[List.length_append,List.length_cons,List.length_nil,aA]);omega) (le (le (le (le g.size f) b.size) c.size) E.size) fun aG cU cV aI ai=>Pl 1<|nl<|bn<|tn<|go<|Pl 2<|?_
 have ak:=ut (aC.mono (S':=(ob A++[])) E ay) ai (av il ay)
 refine L0<|aO (aC.blk ak (bj (eS a lr B) az) ag) 3<|?_
 refine L0<|Oc<|dG (bU (xs:=(M.recs.getD k ⟨0,0,0,[]⟩).words) (dU.old Q (ut R ak (av (aN a l.size) ay))) (by(try simp only[List.length_cons,List.length_nil]);omega)) fun cW cY d0 bW d1 d2 S=>?_
 refine L0<|bR aZ (xs:=(L++[((1+(2*(((M.recs.getD k ⟨0,0,0,[]⟩).words.length:Nat) : Int)))%256),6])) (ys:=(aJ ((M.recs.getD k ⟨0,0,0,[]⟩).words))) (.int .u8 0) 1 (ap aI S (fun x hx=>az) (fun _ _ h=>h)) (bW).rd (by(try simp only[List.length_append,List.length_cons,List.length_nil,aA]);omega) (le (le (le (le (le (le g.size f) b.size) c.size) E.size) ai.size) S.size) fun bX bY d3 bZ aL=>Pl 1<|nl<|bn<|tn<|go<|L0<|Oi (((k:Nat) : Int)+1)<|Pl 1<|nl<|?_
 exact gB ((k+1),((L++[((1+(2*(((M.recs.getD k ⟨0,0,0,[]⟩).words.length:Nat) : Int)))%256),6])++(aJ ((M.recs.getD k ⟨0,0,0,[]⟩).words))),bX,bY) ⟨(ut C (ut (aC.mono (S':=(ob A++(ob aG++[]))) ak (av il ay)) (ut (aC.mono (S':=(ob aG++[])) S ay) aL (av il ay)) (av il ay)) (av (aN a lr) (av (aN aI lr) ay))),(le (le (le (le (le (le f b.size) c.size) E.size) ai.size) S.size) aL.size),bZ,(by(try dsimp only);omega),(by(try dsimp only);rw[← hL,gc dir M.code M.recs k (by omega)];simp only[jd,n,o,aE,aF,bs,if_true,if_false,decide_true,decide_false,List.append_assoc]),(by(try dsimp only);have hv:=hf.recw _ (dV ⟨0,0,0,[]⟩ M.recs k (by omega));(try simp only[List.length_append,List.length_cons,List.length_nil,aA]);omega),(by(try dsimp only);(try simp only[List.length_append,List.length_cons,List.length_nil]);omega)⟩ (by omega)
 refine Rg 13 (fun w'=>w'.cell? ⟨af,0,none⟩=some (.int .u16 ((M.recs.getD k ⟨0,0,0,[]⟩).file))∧w'.cell? ⟨af,1,none⟩=some (.int .u16 ((M.recs.getD k ⟨0,0,0,[]⟩).record))∧w'.cell? ⟨af,2,none⟩=some (.int .u16 ((M.recs.getD k ⟨0,0,0,[]⟩).count))) fun d4 d=>?_
 have F:=ub d ag
 refine bi ⟨(ae F rfl),(ae F rfl),(ae F rfl)⟩ fun p=>Rt 0 p<|Rt 3 p<|Rl 4 p (fun _ hs=>hs.1)<|Rt 5 p<|Rl 6 p (fun _ hs=>hs.2.1)<|Rt 7 p<|Rl 8 p (fun _ hs=>hs.2.2)<|?_
 refine R2 1 9 rfl rfl ?_ ?_
 refine  cL (m:=1) (e:=5) #[.int .u8 6] fun d5 d6 c0 c1 i=>?_
 have aM:=cC c0 (xs:=[6]) (by as_aux_lemma=>kernel_rfl) (au (by omega) aK) (by(try simp only[List.length_cons,List.length_nil]);omega) c1
 have G:=ub i F
 refine bi ⟨(ae G rfl),(ae G rfl),(ae G rfl)⟩ fun d7=>?_
 refine R2 2 9 rfl rfl ?_ ?_
 have aQ:=aD d i
 refine  bR aZ (xs:=L) (ys:=([6])) (.int .u8 0) 1 (ap a (aD s aQ) (fun x hx=>az) (fun _ _ h=>h)) (aM).rd (by(try simp only[List.length_append,List.length_cons,List.length_nil,aA]);omega) (le (le (le (le (le g.size f) b.size) c.size) d.size) i.size) fun T d8 d9 al H=>?_
 have U:=aC.blk H (bj (eS a lr B) az) G
 refine bi ⟨(ae U rfl),(ae U rfl),(ae U rfl)⟩ fun da=>R0 9 rfl<|cL (m:=3) (e:=24) #[.int .u16 ((M.recs.getD k ⟨0,0,0,[]⟩).file),.int .u16 ((M.recs.getD k ⟨0,0,0,[]⟩).record),.int .u16 ((M.recs.getD k ⟨0,0,0,[]⟩).count)] fun dc dd c2 c3 I=>?_
 have c4:=dL c2 (xs:=[(M.recs.getD k ⟨0,0,0,[]⟩).file,(M.recs.getD k ⟨0,0,0,[]⟩).record,(M.recs.getD k ⟨0,0,0,[]⟩).count]) (by as_aux_lemma=>kernel_rfl) (au (by omega) (au (by omega) (au (by omega) aK))) (by(try simp only[List.length_cons,List.length_nil]);omega) c3
 have V:=ub I U
 refine bi ⟨(ae V rfl),(ae V rfl),(ae V rfl)⟩ fun de=>R0 10 rfl<|Oc<|dG (bU (xs:=[(M.recs.getD k ⟨0,0,0,[]⟩).file,(M.recs.getD k ⟨0,0,0,[]⟩).record,(M.recs.getD k ⟨0,0,0,[]⟩).count]) (c4).rd (by(try simp only[List.length_cons,List.length_nil]);omega)) fun df dg dh c5 di dj J=>?_
 have N:=ub J V
 refine bi ⟨(ae N rfl),(ae N rfl),(ae N rfl)⟩ fun dk=>?_
 have aR:=aD I J
 have aU:=ap al aR (fun x hx=>az) (fun _ _ h=>h)
 refine R0 11 rfl<|bR aZ (xs:=(L++[6])) (ys:=(aJ ([(M.recs.getD k ⟨0,0,0,[]⟩).file,(M.recs.getD k ⟨0,0,0,[]⟩).record,(M.recs.getD k ⟨0,0,0,[]⟩).count]))) (.int .u8 0) 1 aU (c5).rd (by(try simp only[List.length_append,List.length_cons,List.length_nil,aA]);omega) (le (le (le (le (le (le (le (le g.size f) b.size) c.size) d.size) i.size) H.size) I.size) J.size) fun aV dl dm aW W=>?_
 have X:=aC.blk W (bj (db N aU (by decide)) az) N
 refine bi ⟨(ae X rfl),(ae X rfl),(ae X rfl)⟩ fun c6=>Rt 12 c6<|re<|bn<|tn<|go<|Pl 2<|L0<|aO X 3<|?_
 have aX:=ut (aC.mono (S':=(ob A++(ob T++[]))) aQ ay) (ut (aC.mono (S':=(ob A++(ob T++[]))) H (av il ay)) (ut (aC.mono (S':=(ob T++[])) aR ay) W (av il ay)) (av il ay)) (av il (av il ay))
 refine L0<|Oc<|dG (bU (xs:=(M.recs.getD k ⟨0,0,0,[]⟩).words) (dU.old Q (ut R aX (av (aN a l.size) (av (aN al l.size) ay)))) (by(try simp only[List.length_cons,List.length_nil]);omega)) fun dn dq dr c7 ds dt Y=>?_
 refine L0<|bR aZ (xs:=((L++[6])++(aJ ([(M.recs.getD k ⟨0,0,0,[]⟩).file,(M.recs.getD k ⟨0,0,0,[]⟩).record,(M.recs.getD k ⟨0,0,0,[]⟩).count])))) (ys:=(aJ ((M.recs.getD k ⟨0,0,0,[]⟩).words))) (.int .u8 0) 1 (ap aW Y (fun x hx=>az) (fun _ _ h=>h)) (c7).rd (by(try simp only[List.length_append,List.length_cons,List.length_nil,aA]);omega) (le (le (le (le (le (le (le (le (le (le g.size f) b.size) c.size) d.size) i.size) H.size) I.size) J.size) W.size) Y.size) fun c8 c9 du ca aY=>Pl 1<|nl<|bn<|tn<|go<|L0<|Oi (((k:Nat) : Int)+1)<|Pl 1<|nl<|?_
 exact gB ((k+1),(((L++[6])++(aJ ([(M.recs.getD k ⟨0,0,0,[]⟩).file,(M.recs.getD k ⟨0,0,0,[]⟩).record,(M.recs.getD k ⟨0,0,0,[]⟩).count])))++(aJ ((M.recs.getD k ⟨0,0,0,[]⟩).words))),c8,c9) ⟨(ut C (ut (aC.mono (S':=(ob A++(ob T++(ob aV++[])))) aX (av il (av il ay))) (ut (aC.mono (S':=(ob aV++[])) Y ay) aY (av il ay)) (av il ay)) (av (aN a lr) (av (aN al lr) (av (aN aW lr) ay)))),(le (le (le (le (le (le (le (le (le (le f b.size) c.size) d.size) i.size) H.size) I.size) J.size) W.size) Y.size) aY.size),ca,(by(try dsimp only);omega),(by(try dsimp only);rw[← hL,gc dir M.code M.recs k (by omega)];simp only[jd,n,o,bs,if_true,if_false,decide_true,decide_false,List.append_assoc]),(by(try dsimp only);have hv:=hf.recw _ (dV ⟨0,0,0,[]⟩ M.recs k (by omega));(try simp only[List.length_append,List.length_cons,List.length_nil,aA]);omega),(by(try dsimp only);(try simp only[List.length_append,List.length_cons,List.length_nil]);omega)⟩ (by omega)
 refine  cL (m:=3) (e:=24) #[.int .u16 ((M.recs.getD k ⟨0,0,0,[]⟩).file),.int .u16 ((M.recs.getD k ⟨0,0,0,[]⟩).record),.int .u16 ((M.recs.getD k ⟨0,0,0,[]⟩).count)] fun dw dx cc cd q=>?_
 have b0:=dL cc (xs:=[(M.recs.getD k ⟨0,0,0,[]⟩).file,(M.recs.getD k ⟨0,0,0,[]⟩).record,(M.recs.getD k ⟨0,0,0,[]⟩).count]) (by as_aux_lemma=>kernel_rfl) (au (by omega) (au (by omega) (au (by omega) aK))) (by(try simp only[List.length_cons,List.length_nil]);omega) cd
 have Z:=ub q G
 refine bi ⟨(ae Z rfl),(ae Z rfl),(ae Z rfl)⟩ fun dy=>?_
 have b1:=aD d (aD i q)
 refine R0 2 rfl<|bR aZ (xs:=L) (ys:=([6])) (.int .u8 0) 1 (ap a (aD s b1) (fun x hx=>az) (fun _ _ h=>h)) ((ap aM q (fun x hx=>az) (fun _ _ h=>h))).rd (by(try simp only[List.length_append,List.length_cons,List.length_nil,aA]);omega) (le (le (le (le (le (le g.size f) b.size) c.size) d.size) i.size) q.size) fun a0 dz dA am t=>?_
 have a1:=aC.blk t (bj (eS a lr B) az) Z
 refine bi ⟨(ae a1 rfl),(ae a1 rfl),(ae a1 rfl)⟩ fun dB=>?_
 refine R0 10 rfl<|Oc<|dG (bU (xs:=[(M.recs.getD k ⟨0,0,0,[]⟩).file,(M.recs.getD k ⟨0,0,0,[]⟩).record,(M.recs.getD k ⟨0,0,0,[]⟩).count]) ((ap b0 t (fun x hx=>(bj ((iW b0 a (le (le (le b.size c.size) d.size) i.size)) x hx) az)) (fun _ _ h=>h))).rd (by(try simp only[List.length_cons,List.length_nil]);omega)) fun dC dD dE cf dF dH u=>?_
 have O:=ub u a1
 refine bi ⟨(ae O rfl),(ae O rfl),(ae O rfl)⟩ fun dI=>?_
 have b2:=ap am u (fun x hx=>az) (fun _ _ h=>h)
 refine R0 11 rfl<|bR aZ (xs:=(L++[6])) (ys:=(aJ ([(M.recs.getD k ⟨0,0,0,[]⟩).file,(M.recs.getD k ⟨0,0,0,[]⟩).record,(M.recs.getD k ⟨0,0,0,[]⟩).count]))) (.int .u8 0) 1 b2 (cf).rd (by(try simp only[List.length_append,List.length_cons,List.length_nil,aA]);omega) (le (le (le (le (le (le (le (le g.size f) b.size) c.size) d.size) i.size) q.size) t.size) u.size) fun b3 dJ dK b4 a2=>?_
 have a3:=aC.blk a2 (bj (db O b2 (by decide)) az) O
 refine bi ⟨(ae a3 rfl),(ae a3 rfl),(ae a3 rfl)⟩ fun cg=>Rt 12 cg<|re<|bn<|tn<|go<|Pl 2<|L0<|aO a3 3<|?_
 have b5:=ut (aC.mono (S':=(ob A++(ob a0++[]))) b1 ay) (ut (aC.mono (S':=(ob A++(ob a0++[]))) t (av il ay)) (ut (aC.mono (S':=(ob a0++[])) u ay) a2 (av il ay)) (av il ay)) (av il (av il ay))
 refine L0<|Oc<|dG (bU (xs:=(M.recs.getD k ⟨0,0,0,[]⟩).words) (dU.old Q (ut R b5 (av (aN a l.size) (av (aN am l.size) ay)))) (by(try simp only[List.length_cons,List.length_nil]);omega)) fun dM dN dO ch dP dQ a4=>?_
 refine L0<|bR aZ (xs:=((L++[6])++(aJ ([(M.recs.getD k ⟨0,0,0,[]⟩).file,(M.recs.getD k ⟨0,0,0,[]⟩).record,(M.recs.getD k ⟨0,0,0,[]⟩).count])))) (ys:=(aJ ((M.recs.getD k ⟨0,0,0,[]⟩).words))) (.int .u8 0) 1 (ap b4 a4 (fun x hx=>az) (fun _ _ h=>h)) (ch).rd (by(try simp only[List.length_append,List.length_cons,List.length_nil,aA]);omega) (le (le (le (le (le (le (le (le (le (le g.size f) b.size) c.size) d.size) i.size) q.size) t.size) u.size) a2.size) a4.size) fun ci cj dR ck b6=>Pl 1<|nl<|bn<|tn<|go<|L0<|Oi (((k:Nat) : Int)+1)<|Pl 1<|nl<|?_
 exact gB ((k+1),(((L++[6])++(aJ ([(M.recs.getD k ⟨0,0,0,[]⟩).file,(M.recs.getD k ⟨0,0,0,[]⟩).record,(M.recs.getD k ⟨0,0,0,[]⟩).count])))++(aJ ((M.recs.getD k ⟨0,0,0,[]⟩).words))),ci,cj) ⟨(ut C (ut (aC.mono (S':=(ob A++(ob a0++(ob b3++[])))) b5 (av il (av il ay))) (ut (aC.mono (S':=(ob b3++[])) a4 ay) b6 (av il ay)) (av il ay)) (av (aN a lr) (av (aN am lr) (av (aN b4 lr) ay)))),(le (le (le (le (le (le (le (le (le (le f b.size) c.size) d.size) i.size) q.size) t.size) u.size) a2.size) a4.size) b6.size),ck,(by(try dsimp only);omega),(by(try dsimp only);rw[← hL,gc dir M.code M.recs k (by omega)];simp only[jd,n,o,bs,if_true,if_false,decide_true,decide_false,List.append_assoc]),(by(try dsimp only);have hv:=hf.recw _ (dV ⟨0,0,0,[]⟩ M.recs k (by omega));(try simp only[List.length_append,List.length_cons,List.length_nil,aA]);omega),(by(try dsimp only);(try simp only[List.length_append,List.length_cons,List.length_nil]);omega)⟩ (by omega)
 refine  cL (m:=3) (e:=24) #[.int .u16 ((M.recs.getD k ⟨0,0,0,[]⟩).file),.int .u16 ((M.recs.getD k ⟨0,0,0,[]⟩).record),.int .u16 ((M.recs.getD k ⟨0,0,0,[]⟩).count)] fun dS dT cl cm v=>?_
 have b8:=dL cl (xs:=[(M.recs.getD k ⟨0,0,0,[]⟩).file,(M.recs.getD k ⟨0,0,0,[]⟩).record,(M.recs.getD k ⟨0,0,0,[]⟩).count]) (by as_aux_lemma=>kernel_rfl) (au (by omega) (au (by omega) (au (by omega) aK))) (by(try simp only[List.length_cons,List.length_nil]);omega) cm
 have a5:=ub v F
 refine bi ⟨(ae a5 rfl),(ae a5 rfl),(ae a5 rfl)⟩ fun dW=>R0 1 rfl<|cL (m:=1) (e:=5) #[.int .u8 6] fun dX dY cn co r=>?_
 have cq:=cC cn (xs:=[6]) (by as_aux_lemma=>kernel_rfl) (au (by omega) aK) (by(try simp only[List.length_cons,List.length_nil]);omega) co
 have a6:=ub r a5
 refine bi ⟨(ae a6 rfl),(ae a6 rfl),(ae a6 rfl)⟩ fun dZ=>?_
 have ba:=aD d (aD v r)
 refine R0 2 rfl<|bR aZ (xs:=L) (ys:=([6])) (.int .u8 0) 1 (ap a (aD s ba) (fun x hx=>az) (fun _ _ h=>h)) (cq).rd (by(try simp only[List.length_append,List.length_cons,List.length_nil,aA]);omega) (le (le (le (le (le (le g.size f) b.size) c.size) d.size) v.size) r.size) fun a7 e0 e1 an y=>?_
 have a8:=aC.blk y (bj (eS a lr B) az) a6
 refine bi ⟨(ae a8 rfl),(ae a8 rfl),(ae a8 rfl)⟩ fun e2=>?_
 refine R0 10 rfl<|Oc<|dG (bU (xs:=[(M.recs.getD k ⟨0,0,0,[]⟩).file,(M.recs.getD k ⟨0,0,0,[]⟩).record,(M.recs.getD k ⟨0,0,0,[]⟩).count]) ((ap b8 (ut (aC.mono (S':=(ob A++[])) r ay) y (av il ay)) (fun x hx=>(bj ((iW b8 a (le (le b.size c.size) d.size)) x hx) az)) (fun _ _ h=>h))).rd (by(try simp only[List.length_cons,List.length_nil]);omega)) fun e3 e4 e5 cr e6 e7 z=>?_
 have P:=ub z a8
 refine bi ⟨(ae P rfl),(ae P rfl),(ae P rfl)⟩ fun e8=>?_
 have bb:=ap an z (fun x hx=>az) (fun _ _ h=>h)
 refine R0 11 rfl<|bR aZ (xs:=(L++[6])) (ys:=(aJ ([(M.recs.getD k ⟨0,0,0,[]⟩).file,(M.recs.getD k ⟨0,0,0,[]⟩).record,(M.recs.getD k ⟨0,0,0,[]⟩).count]))) (.int .u8 0) 1 bb (cr).rd (by(try simp only[List.length_append,List.length_cons,List.length_nil,aA]);omega) (le (le (le (le (le (le (le (le g.size f) b.size) c.size) d.size) v.size) r.size) y.size) z.size) fun bc e9 ea bd a9=>?_
 have aa:=aC.blk a9 (bj (db P bb (by decide)) az) P
 refine bi ⟨(ae aa rfl),(ae aa rfl),(ae aa rfl)⟩ fun ct=>Rt 12 ct<|re<|bn<|tn<|go<|Pl 2<|L0<|aO aa 3<|?_
 have be:=ut (aC.mono (S':=(ob A++(ob a7++[]))) ba ay) (ut (aC.mono (S':=(ob A++(ob a7++[]))) y (av il ay)) (ut (aC.mono (S':=(ob a7++[])) z ay) a9 (av il ay)) (av il ay)) (av il (av il ay))
 refine L0<|Oc<|dG (bU (xs:=(M.recs.getD k ⟨0,0,0,[]⟩).words) (dU.old Q (ut R be (av (aN a l.size) (av (aN an l.size) ay)))) (by(try simp only[List.length_cons,List.length_nil]);omega)) fun eb ec ed cv ee ef ab=>?_
 refine L0<|bR aZ (xs:=((L++[6])++(aJ ([(M.recs.getD k ⟨0,0,0,[]⟩).file,(M.recs.getD k ⟨0,0,0,[]⟩).record,(M.recs.getD k ⟨0,0,0,[]⟩).count])))) (ys:=(aJ ((M.recs.getD k ⟨0,0,0,[]⟩).words))) (.int .u8 0) 1 (ap bd ab (fun x hx=>az) (fun _ _ h=>h)) (cv).rd (by(try simp only[List.length_append,List.length_cons,List.length_nil,aA]);omega) (le (le (le (le (le (le (le (le (le (le g.size f) b.size) c.size) d.size) v.size) r.size) y.size) z.size) a9.size) ab.size) fun cw cx eg cy bg=>Pl 1<|nl<|bn<|tn<|go<|L0<|Oi (((k:Nat) : Int)+1)<|Pl 1<|nl<|?_
 exact gB ((k+1),(((L++[6])++(aJ ([(M.recs.getD k ⟨0,0,0,[]⟩).file,(M.recs.getD k ⟨0,0,0,[]⟩).record,(M.recs.getD k ⟨0,0,0,[]⟩).count])))++(aJ ((M.recs.getD k ⟨0,0,0,[]⟩).words))),cw,cx) ⟨(ut C (ut (aC.mono (S':=(ob A++(ob a7++(ob bc++[])))) be (av il (av il ay))) (ut (aC.mono (S':=(ob bc++[])) ab ay) bg (av il ay)) (av il ay)) (av (aN a lr) (av (aN an lr) (av (aN bd lr) ay)))),(le (le (le (le (le (le (le (le (le (le f b.size) c.size) d.size) v.size) r.size) y.size) z.size) a9.size) ab.size) bg.size),cy,(by(try dsimp only);omega),(by(try dsimp only);rw[← hL,gc dir M.code M.recs k (by omega)];simp only[jd,n,o,bs,if_true,if_false,decide_true,decide_false,List.append_assoc]),(by(try dsimp only);have hv:=hf.recw _ (dV ⟨0,0,0,[]⟩ M.recs k (by omega));(try simp only[List.length_append,List.length_cons,List.length_nil,aA]);omega),(by(try dsimp only);(try simp only[List.length_append,List.length_cons,List.length_nil]);omega)⟩ (by omega)
 have bK:=of_decide_eq_false n
 refine xt<|tx<|tx<|bx<|tn<|sg<|Pl 3<|L0<|Oi (((L.length:Nat) : Int)-1)<|Pl 1<|gh (b9.at_ (a).rd 0 (by omega)) fun eh ei bh ej ek=>L0<|m8 L.length 0 bh (by omega)<|L0<|At aZ (j:=0) a bh (by omega) ((((L.length:Nat) : Int)-1)%256) (fun _=>⟨rfl,by omega⟩) fun el cz cA=>nl<|?_
 refine tn<|sg<|Pl 2<|nt<|rt<|rr (.slice A L.length cp)<|?_
 have hk:k=M.recs.length:=by omega
 rw[hk,List.drop_length] at hL
 have hL2:[0]++cX dir M.code M.recs=L:=by rw[← hL];simp[cX]
 have hs:cZ dir M=(L.set 0 ((((L.length:Nat) : Int)-1)%256)):=by unfold cZ;rw[hL2]
 rw[hs]
 exact⟨_,rfl,(aS.weaken cz l.size),(ut ad cA (av (aN a l.size) ay))⟩
open Go.RowKit
theorem jt{parse:Int→Int→List Int→aP × Int}{lay:Int→aP→List Int}{dir E:Int}{M X:aP}(hX:parse dir M.code (lay dir M)=(X,E))(hE:(E != 0)=true) : bh parse lay dir M=none:=by
  unfold bh
  rw[hX,if_neg]
  intro h
  injection h with h1 h2
  rw[h2] at hE
  cases hE
theorem jj{parse:Int→Int→List Int→aP × Int}{lay:Int→aP→List Int}{dir E:Int}{M X:aP}(hX:parse dir M.code (lay dir M)=(X,E))(hE:decide (X=M)=false) : bh parse lay dir M=none:=by
  unfold bh
  rw[hX,if_neg]
  intro h
  injection h with h1 h2
  rw[h1] at hE
  simp at hE
theorem it{parse:Int→Int→List Int→aP × Int}{lay:Int→aP→List Int}{dir E:Int}{M X:aP}(hX:parse dir M.code (lay dir M)=(X,E))(hE:(E != 0)=false)(h:decide (X=M)=true) : bh parse lay dir M=some (lay dir M):=by
  unfold bh
  have h1:X=M:=by simpa using h
  have h2:E=0:=by simpa using hE
  rw[hX,h1,h2,if_pos rfl]
theorem cw{x y:Option (List Int)}(h:x=y){w:World}{e:Ending}{w':World}(k:dZ y w e w') : dZ x w e w':=by rw[h];exact k
theorem ky{m:Md}{cs:Array Value}{M:aP}{w:World}{dir:Int}(h:aH m w cs.toList M)(hf:bS M)(hlen:(bM dir M).length≤1048576) : Calls Tryz.prog 139 #[.int .i64 dir,.agg cs] w (dZ (bh fV bM dir M) w):=by
 have hM:=h
 obtain⟨vw,vb,vd,vr,vo,h0,hw,hbt,hd,hr,ho,hR⟩:=h
 obtain rfl:cs=(bu M vw vb vd vr vo).toArray:=by apply Array.toList_inj.1;simpa using h0
 clear h0
 obtain⟨Aw,kw,rfl,_,_⟩:=hw.shape
 obtain⟨Ab,kb,rfl,_,_⟩:=hbt.shape
 obtain⟨Ad,kd,rfl,_,_⟩:=hd.shape
 obtain⟨Ar,kr,rfl,_,_⟩:=hr.shape
 obtain⟨Ao,ko,rfl,_,_⟩:=ho.shape
 obtain⟨q0,q1,q2,q3,q4,q5,q6,q7,q8,q9,y,z,C,D,E,F,G⟩:=hR
 simp only[B8,dp] at q0 q1 q2 q3 q4 q5 q6 q7 q8 q9 y z C D E F G
 refine en 29 Tryz.func139 rfl<|sg<|L0<|dv (mG M.code M.fail M.addr M.count M.value M.and_ M.or_ M.addr2 M.sub M.status M.events M.messages (.slice Aw M.words.length kw) (.slice Ab M.bits.length kb) (.slice Ad M.data.length kd) (.slice Ar M.recs.length kr) M.mei M.kind M.level M.more M.next (.slice Ao M.objects.length ko)) fun V W X k g=>Pl 2<|ng<|Pl 1<|L0<|bO k<|?_
 have l:=aH.old hM g
 refine L0<|Oc<|dG (tB (dir:=dir) l hf) fun H I J n Y Z o=>Pl 1<|ng<|Pl 2<|?_
 have p:=ub o k
 refine L0<|aO p 0<|Pl 1<|?_
 refine pr (fV dir M.code (bM dir M)) fun e K f=>?_
 have q:Calls _ _ _ _ (dX (fV dir M.code (bM dir M)) J):=ku (dir:=dir) (c:=M.code) q0 (n).rd hlen
 rw[f] at q
 refine L0<|Oc<|e2 (q) fun L a0 a N=>Pl 3<|L0<|bH mZ fun a1 a2 O P Q=>L0<|b7 (hz:=(by rw[a.size];exact aI)) (hv:=a.size) (h1:=a.one) P (L) fun a3 R S=>Pl 1<|nt<|sq<|sg<|Pl 3<|?_
 have r:=ud Q S O
 have i:=aD N r
 have s:=aD o i
 have t:=aD g s
 refine bl 22 ((K != 0)) (fun b=>?_) (fun b=>?_)
 have T:=ax b
 refine Pl 5<|nt<|c1<|sg<|Pl 2<|nt<|rt<|tr<|rr (.tuple #[.slice none 0 0,.int .i64 1])<|?_
 refine cw (jt f b) ?_
 exact⟨rfl,t⟩
 have T:=ag b
 refine L1<|bO (hz:=(by rw[a.size];exact aI)) R<|?_
 refine L1<|bO (ub i p)<|?_
 refine L1<|Oc<|m1 (gT (A:=e) (B:=M) (aH.upd a r aG) (aH.old l s)) fun a4 u=>Pl 2<|nt<|?_
 have v:=aD t u
 refine cb ((!(decide (e=M)))) (fun j=>?_) (fun j=>?_)
 have d:(decide (e=M))=false:=by simpa using j
 have U:=of_decide_eq_false d
 refine sg<|Pl 2<|nt<|rt<|tr<|rr (.tuple #[.slice none 0 0,.int .i64 1])<|?_
 refine cw (jj f d) ?_
 exact⟨rfl,v⟩
 have d:(decide (e=M))=true:=by simpa using j
 have U:=of_decide_eq_true d
 refine bf<|sg<|Pl 3<|nt<|rt<|rr (.tuple #[.slice H ((bM dir M).length) I,.int .i64 0])<|?_
 refine cw (it f b d) ?_
 exact⟨_,rfl,(aS.weaken (ap n (aD i u) (fun x hx=>az) (fun _ _ h=>h)) g.size),v⟩
theorem l0{m:Md}{cs:Array Value}{M:aP}{w:World}{dir:Int}(h:aH m w cs.toList M)(hf:bS M)(hlen:(bF dir M).length≤1048576) : Calls Tryz.prog 141 #[.int .i64 dir,.agg cs] w (dZ (bh gM bF dir M) w):=by
 have hM:=h
 obtain⟨vw,vb,vd,vr,vo,h0,hw,hbt,hd,hr,ho,hR⟩:=h
 obtain rfl:cs=(bu M vw vb vd vr vo).toArray:=by apply Array.toList_inj.1;simpa using h0
 clear h0
 obtain⟨Aw,kw,rfl,_,_⟩:=hw.shape
 obtain⟨Ab,kb,rfl,_,_⟩:=hbt.shape
 obtain⟨Ad,kd,rfl,_,_⟩:=hd.shape
 obtain⟨Ar,kr,rfl,_,_⟩:=hr.shape
 obtain⟨Ao,ko,rfl,_,_⟩:=ho.shape
 obtain⟨q0,q1,q2,q3,q4,q5,q6,q7,q8,q9,y,z,C,D,E,F,G⟩:=hR
 simp only[B8,dp] at q0 q1 q2 q3 q4 q5 q6 q7 q8 q9 y z C D E F G
 refine en 29 Tryz.func141 rfl<|sg<|L0<|dv (mG M.code M.fail M.addr M.count M.value M.and_ M.or_ M.addr2 M.sub M.status M.events M.messages (.slice Aw M.words.length kw) (.slice Ab M.bits.length kb) (.slice Ad M.data.length kd) (.slice Ar M.recs.length kr) M.mei M.kind M.level M.more M.next (.slice Ao M.objects.length ko)) fun V W X k g=>Pl 2<|ng<|Pl 1<|L0<|bO k<|?_
 have l:=aH.old hM g
 refine L0<|Oc<|dG (vR (dir:=dir) l hf) fun H I J n Y Z o=>Pl 1<|ng<|Pl 2<|?_
 have p:=ub o k
 refine L0<|aO p 0<|Pl 1<|?_
 refine pr (gM dir M.code (bF dir M)) fun e K f=>?_
 have q:Calls _ _ _ _ (dX (gM dir M.code (bF dir M)) J):=lg (dir:=dir) (c:=M.code) q0 (n).rd hlen
 rw[f] at q
 refine L0<|Oc<|e2 (q) fun L a0 a N=>Pl 3<|L0<|bH mZ fun a1 a2 O P Q=>L0<|b7 (hz:=(by rw[a.size];exact aI)) (hv:=a.size) (h1:=a.one) P (L) fun a3 R S=>Pl 1<|nt<|sq<|sg<|Pl 3<|?_
 have r:=ud Q S O
 have i:=aD N r
 have s:=aD o i
 have t:=aD g s
 refine bl 22 ((K != 0)) (fun b=>?_) (fun b=>?_)
 have T:=ax b
 refine Pl 5<|nt<|c1<|sg<|Pl 2<|nt<|rt<|tr<|rr (.tuple #[.slice none 0 0,.int .i64 1])<|?_
 refine cw (jt f b) ?_
 exact⟨rfl,t⟩
 have T:=ag b
 refine L1<|bO (hz:=(by rw[a.size];exact aI)) R<|?_
 refine L1<|bO (ub i p)<|?_
 refine L1<|Oc<|m1 (gT (A:=e) (B:=M) (aH.upd a r aG) (aH.old l s)) fun a4 u=>Pl 2<|nt<|?_
 have v:=aD t u
 refine cb ((!(decide (e=M)))) (fun j=>?_) (fun j=>?_)
 have d:(decide (e=M))=false:=by simpa using j
 have U:=of_decide_eq_false d
 refine sg<|Pl 2<|nt<|rt<|tr<|rr (.tuple #[.slice none 0 0,.int .i64 1])<|?_
 refine cw (jj f d) ?_
 exact⟨rfl,v⟩
 have d:(decide (e=M))=true:=by simpa using j
 have U:=of_decide_eq_true d
 refine bf<|sg<|Pl 3<|nt<|rt<|rr (.tuple #[.slice H ((bF dir M).length) I,.int .i64 0])<|?_
 refine cw (it f b d) ?_
 exact⟨_,rfl,(aS.weaken (ap n (aD i u) (fun x hx=>az) (fun _ _ h=>h)) g.size),v⟩
theorem lM{m:Md}{cs:Array Value}{M:aP}{w:World}{dir:Int}(h:aH m w cs.toList M)(hf:bS M)(hlen:(bI dir M).length≤1048576) : Calls Tryz.prog 143 #[.int .i64 dir,.agg cs] w (dZ (bh gP bI dir M) w):=by
 have hM:=h
 obtain⟨vw,vb,vd,vr,vo,h0,hw,hbt,hd,hr,ho,hR⟩:=h
 obtain rfl:cs=(bu M vw vb vd vr vo).toArray:=by apply Array.toList_inj.1;simpa using h0
 clear h0
 obtain⟨Aw,kw,rfl,_,_⟩:=hw.shape
 obtain⟨Ab,kb,rfl,_,_⟩:=hbt.shape
 obtain⟨Ad,kd,rfl,_,_⟩:=hd.shape
 obtain⟨Ar,kr,rfl,_,_⟩:=hr.shape
 obtain⟨Ao,ko,rfl,_,_⟩:=ho.shape
 obtain⟨q0,q1,q2,q3,q4,q5,q6,q7,q8,q9,y,z,C,D,E,F,G⟩:=hR
 simp only[B8,dp] at q0 q1 q2 q3 q4 q5 q6 q7 q8 q9 y z C D E F G
 refine en 29 Tryz.func143 rfl<|sg<|L0<|dv (mG M.code M.fail M.addr M.count M.value M.and_ M.or_ M.addr2 M.sub M.status M.events M.messages (.slice Aw M.words.length kw) (.slice Ab M.bits.length kb) (.slice Ad M.data.length kd) (.slice Ar M.recs.length kr) M.mei M.kind M.level M.more M.next (.slice Ao M.objects.length ko)) fun V W X k g=>Pl 2<|ng<|Pl 1<|L0<|bO k<|?_
 have l:=aH.old hM g
 refine L0<|Oc<|dG (ur (dir:=dir) l hf) fun H I J n Y Z o=>Pl 1<|ng<|Pl 2<|?_
 have p:=ub o k
 refine L0<|aO p 0<|Pl 1<|?_
 refine pr (gP dir M.code (bI dir M)) fun e K f=>?_
 have q:Calls _ _ _ _ (dX (gP dir M.code (bI dir M)) J):=lH (dir:=dir) (c:=M.code) q0 (n).rd hlen
 rw[f] at q
 refine L0<|Oc<|e2 (q) fun L a0 a N=>Pl 3<|L0<|bH mZ fun a1 a2 O P Q=>L0<|b7 (hz:=(by rw[a.size];exact aI)) (hv:=a.size) (h1:=a.one) P (L) fun a3 R S=>Pl 1<|nt<|sq<|sg<|Pl 3<|?_
 have r:=ud Q S O
 have i:=aD N r
 have s:=aD o i
 have t:=aD g s
 refine bl 22 ((K != 0)) (fun b=>?_) (fun b=>?_)
 have T:=ax b
 refine Pl 5<|nt<|c1<|sg<|Pl 2<|nt<|rt<|tr<|rr (.tuple #[.slice none 0 0,.int .i64 1])<|?_
 refine cw (jt f b) ?_
 exact⟨rfl,t⟩
 have T:=ag b
 refine L1<|bO (hz:=(by rw[a.size];exact aI)) R<|?_
 refine L1<|bO (ub i p)<|?_
 refine L1<|Oc<|m1 (gT (A:=e) (B:=M) (aH.upd a r aG) (aH.old l s)) fun a4 u=>Pl 2<|nt<|?_
 have v:=aD t u
 refine cb ((!(decide (e=M)))) (fun j=>?_) (fun j=>?_)
 have d:(decide (e=M))=false:=by simpa using j
 have U:=of_decide_eq_false d
 refine sg<|Pl 2<|nt<|rt<|tr<|rr (.tuple #[.slice none 0 0,.int .i64 1])<|?_
 refine cw (jj f d) ?_
 exact⟨rfl,v⟩
 have d:(decide (e=M))=true:=by simpa using j
 have U:=of_decide_eq_true d
 refine bf<|sg<|Pl 3<|nt<|rt<|rr (.tuple #[.slice H ((bI dir M).length) I,.int .i64 0])<|?_
 refine cw (it f b d) ?_
 exact⟨_,rfl,(aS.weaken (ap n (aD i u) (fun x hx=>az) (fun _ _ h=>h)) g.size),v⟩
theorem n7{m:Md}{cs:Array Value}{M:aP}{w:World}{dir:Int}(h:aH m w cs.toList M)(hf:bS M)(hlen:(cQ dir M).length≤1048576) : Calls Tryz.prog 147 #[.int .i64 dir,.agg cs] w (dZ (bh iw cQ dir M) w):=by
 have hM:=h
 obtain⟨vw,vb,vd,vr,vo,h0,hw,hbt,hd,hr,ho,hR⟩:=h
 obtain rfl:cs=(bu M vw vb vd vr vo).toArray:=by apply Array.toList_inj.1;simpa using h0
 clear h0
 obtain⟨Aw,kw,rfl,_,_⟩:=hw.shape
 obtain⟨Ab,kb,rfl,_,_⟩:=hbt.shape
 obtain⟨Ad,kd,rfl,_,_⟩:=hd.shape
 obtain⟨Ar,kr,rfl,_,_⟩:=hr.shape
 obtain⟨Ao,ko,rfl,_,_⟩:=ho.shape
 obtain⟨q0,q1,q2,q3,q4,q5,q6,q7,q8,q9,y,z,C,D,E,F,G⟩:=hR
 simp only[B8,dp] at q0 q1 q2 q3 q4 q5 q6 q7 q8 q9 y z C D E F G
 refine en 29 Tryz.func147 rfl<|sg<|L0<|dv (mG M.code M.fail M.addr M.count M.value M.and_ M.or_ M.addr2 M.sub M.status M.events M.messages (.slice Aw M.words.length kw) (.slice Ab M.bits.length kb) (.slice Ad M.data.length kd) (.slice Ar M.recs.length kr) M.mei M.kind M.level M.more M.next (.slice Ao M.objects.length ko)) fun V W X k g=>Pl 2<|ng<|Pl 1<|L0<|bO k<|?_
 have l:=aH.old hM g
 refine L0<|Oc<|dG (w7 (dir:=dir) l hf) fun H I J n Y Z o=>Pl 1<|ng<|Pl 2<|?_
 have p:=ub o k
 refine L0<|aO p 0<|Pl 1<|?_
 refine pr (iw dir M.code (cQ dir M)) fun e K f=>?_
 have q:Calls _ _ _ _ (dX (iw dir M.code (cQ dir M)) J):=nq (dir:=dir) (c:=M.code) q0 (n).rd hlen
 rw[f] at q
 refine L0<|Oc<|e2 (q) fun L a0 a N=>Pl 3<|L0<|bH mZ fun a1 a2 O P Q=>L0<|b7 (hz:=(by rw[a.size];exact aI)) (hv:=a.size) (h1:=a.one) P (L) fun a3 R S=>Pl 1<|nt<|sq<|sg<|Pl 3<|?_
 have r:=ud Q S O
 have i:=aD N r
 have s:=aD o i
 have t:=aD g s
 refine bl 22 ((K != 0)) (fun b=>?_) (fun b=>?_)
 have T:=ax b
 refine Pl 5<|nt<|c1<|sg<|Pl 2<|nt<|rt<|tr<|rr (.tuple #[.slice none 0 0,.int .i64 1])<|?_
 refine cw (jt f b) ?_
 exact⟨rfl,t⟩
 have T:=ag b
 refine L1<|bO (hz:=(by rw[a.size];exact aI)) R<|?_
 refine L1<|bO (ub i p)<|?_
 refine L1<|Oc<|m1 (gT (A:=e) (B:=M) (aH.upd a r aG) (aH.old l s)) fun a4 u=>Pl 2<|nt<|?_
 have v:=aD t u
 refine cb ((!(decide (e=M)))) (fun j=>?_) (fun j=>?_)
 have d:(decide (e=M))=false:=by simpa using j
 have U:=of_decide_eq_false d
 refine sg<|Pl 2<|nt<|rt<|tr<|rr (.tuple #[.slice none 0 0,.int .i64 1])<|?_
 refine cw (jj f d) ?_
 exact⟨rfl,v⟩
 have d:(decide (e=M))=true:=by simpa using j
 have U:=of_decide_eq_true d
 refine bf<|sg<|Pl 3<|nt<|rt<|rr (.tuple #[.slice H ((cQ dir M).length) I,.int .i64 0])<|?_
 refine cw (it f b d) ?_
 exact⟨_,rfl,(aS.weaken (ap n (aD i u) (fun x hx=>az) (fun _ _ h=>h)) g.size),v⟩
theorem kI{m:Md}{cs:Array Value}{M:aP}{w:World}{dir:Int}(h:aH m w cs.toList M)(hf:bS M)(hlen:(cZ dir M).length≤1048576) : Calls Tryz.prog 145 #[.int .i64 dir,.agg cs] w (dZ (bh fS cZ dir M) w):=by
 have hM:=h
 obtain⟨vw,vb,vd,vr,vo,h0,hw,hbt,hd,hr,ho,hR⟩:=h
 obtain rfl:cs=(bu M vw vb vd vr vo).toArray:=by apply Array.toList_inj.1;simpa using h0
 clear h0
 obtain⟨Aw,kw,rfl,_,_⟩:=hw.shape
 obtain⟨Ab,kb,rfl,_,_⟩:=hbt.shape
 obtain⟨Ad,kd,rfl,_,_⟩:=hd.shape
 obtain⟨Ar,kr,rfl,_,_⟩:=hr.shape
 obtain⟨Ao,ko,rfl,_,_⟩:=ho.shape
 obtain⟨q0,q1,q2,q3,q4,q5,q6,q7,q8,q9,y,z,C,D,E,F,G⟩:=hR
 simp only[B8,dp] at q0 q1 q2 q3 q4 q5 q6 q7 q8 q9 y z C D E F G
 refine en 29 Tryz.func145 rfl<|sg<|L0<|dv (mG M.code M.fail M.addr M.count M.value M.and_ M.or_ M.addr2 M.sub M.status M.events M.messages (.slice Aw M.words.length kw) (.slice Ab M.bits.length kb) (.slice Ad M.data.length kd) (.slice Ar M.recs.length kr) M.mei M.kind M.level M.more M.next (.slice Ao M.objects.length ko)) fun V W X k g=>Pl 2<|ng<|Pl 1<|L0<|bO k<|?_
 have l:=aH.old hM g
 refine L0<|Oc<|dG (rY (dir:=dir) l hf) fun H I J n Y Z o=>Pl 1<|ng<|Pl 2<|?_
 have p:=ub o k
 refine L0<|aO p 0<|Pl 1<|?_
 refine pr (fS dir M.code (cZ dir M)) fun e K f=>?_
 have q:Calls _ _ _ _ (dX (fS dir M.code (cZ dir M)) J):=kG (dir:=dir) (c:=M.code) q0 (n).rd hlen
 rw[f] at q
 refine L0<|Oc<|e2 (q) fun L a0 a N=>Pl 3<|L0<|bH mZ fun a1 a2 O P Q=>L0<|b7 (hz:=(by rw[a.size];exact aI)) (hv:=a.size) (h1:=a.one) P (L) fun a3 R S=>Pl 1<|nt<|sq<|sg<|Pl 3<|?_
 have r:=ud Q S O
 have i:=aD N r
 have s:=aD o i
 have t:=aD g s
 refine bl 22 ((K != 0)) (fun b=>?_) (fun b=>?_)
 have T:=ax b
 refine Pl 5<|nt<|c1<|sg<|Pl 2<|nt<|rt<|tr<|rr (.tuple #[.slice none 0 0,.int .i64 1])<|?_
 refine cw (jt f b) ?_
 exact⟨rfl,t⟩
 have T:=ag b
 refine L1<|bO (hz:=(by rw[a.size];exact aI)) R<|?_
 refine L1<|bO (ub i p)<|?_
 refine L1<|Oc<|m1 (gT (A:=e) (B:=M) (aH.upd a r aG) (aH.old l s)) fun a4 u=>Pl 2<|nt<|?_
 have v:=aD t u
 refine cb ((!(decide (e=M)))) (fun j=>?_) (fun j=>?_)
 have d:(decide (e=M))=false:=by simpa using j
 have U:=of_decide_eq_false d
 refine sg<|Pl 2<|nt<|rt<|tr<|rr (.tuple #[.slice none 0 0,.int .i64 1])<|?_
 refine cw (jj f d) ?_
 exact⟨rfl,v⟩
 have d:(decide (e=M))=true:=by simpa using j
 have U:=of_decide_eq_true d
 refine bf<|sg<|Pl 3<|nt<|rt<|rr (.tuple #[.slice H ((cZ dir M).length) I,.int .i64 0])<|?_
 refine cw (it f b d) ?_
 exact⟨_,rfl,(aS.weaken (ap n (aD i u) (fun x hx=>az) (fun _ _ h=>h)) g.size),v⟩
open Go.RowKit
def gx:Nat→Int→aP→Option (List Int)
  | 1,dir,M=>bh fV bM dir M
  | 2,dir,M=>bh gM bF dir M
  | 3,dir,M=>bh gP bI dir M
  | 4,dir,M=>bh fS cZ dir M
  | 5,dir,M=>bh iw cQ dir M
  | _,_,_=>none
def cv (dir:Int)(M:aP) : Option (List Int) :=
  if M.fail != 0 then (if dir != 1 then none else jO M)
  else match gx (iV M.code) dir M with
    | none=>none
    | some l=>if decide (253≤(l.length:Int)) then none else some ([M.code]++l)
theorem lA:∀ (L:List Obj),(∀ r,r∈L→r.value.length≤1024)→(eX L).length≤1026*L.length
  | [],_=>by simp[eX]
  | r :: L,h=>by
    have h1:=h r (by simp)
    have h2:=lA L fun x hx=>h x (by simp[hx])
    simp only[eX,List.length_append,List.length_cons,List.length_nil]
    omega
theorem lJ(dir c:Int) : ∀ (L:List dj),(∀ r,r∈L→r.words.length≤1024)→(cX dir c L).length≤2064*L.length
  | [],_=>by simp[cX]
  | r :: L,h=>by
    have h1:=h r (by simp)
    have h2:=lJ dir c L fun x hx=>h x (by simp[hx])
    simp only[cX,jd]
    repeat' split
    all_goals simp only[List.length_append,List.length_cons,List.length_nil,aA]
    all_goals omega
theorem ff{M:aP}(hf:bS M)(dir:Int) : (bM dir M).length≤1048576∧(bF dir M).length≤1048576∧(bI dir M).length≤1048576∧(cQ dir M).length≤1048576∧(cZ dir M).length≤1048576:=by
  have hp:(bL M.bits).length≤1024:=by
    have:=hf.bits
    simp only[bL,List.length_map,List.length_range,dH]
    omega
  have h1:=hf.words
  have h2:=hf.data
  have h3:=hf.objects
  have h4:=lA M.objects hf.objv
  have h5:=lJ dir M.code M.recs hf.recw
  have h6:=hf.recs
  refine⟨?_,?_,?_,?_,?_⟩
  · unfold bM
    repeat' split
    all_goals simp only[List.length_append,List.length_cons,List.length_nil,aA]
    all_goals omega
  · unfold bF
    repeat' split
    all_goals simp only[List.length_append,List.length_cons,List.length_nil,aA]
    all_goals omega
  · unfold bI
    repeat' split
    all_goals simp only[List.length_append,List.length_cons,List.length_nil,aA]
    all_goals omega
  · unfold cQ
    repeat' split
    all_goals simp only[List.length_append,List.length_cons,List.length_nil]
    all_goals omega
  · unfold cZ
    simp only[List.length_set,List.length_append,List.length_cons,List.length_nil]
    omega
theorem mK{m:Md}{cs:Array Value}{M:aP}{w:World}{dir:Int}(h:aH m w cs.toList M)(hf:bS M) : Calls Tryz.prog 28 #[.int .i64 dir,.agg cs] w (dZ (cv dir M) w):=by
 have hM:=h
 obtain⟨vw,vb,vd,vr,vo,h0,hw,hbt,hd,hr,ho,hR⟩:=h
 obtain rfl:cs=(bu M vw vb vd vr vo).toArray:=by apply Array.toList_inj.1;simpa using h0
 clear h0
 obtain⟨Aw,kw,rfl,_,_⟩:=hw.shape
 obtain⟨Ab,kb,rfl,_,_⟩:=hbt.shape
 obtain⟨Ad,kd,rfl,_,_⟩:=hd.shape
 obtain⟨Ar,kr,rfl,_,_⟩:=hr.shape
 obtain⟨Ao,ko,rfl,_,_⟩:=ho.shape
 obtain⟨q0,q1,q2,q3,q4,q5,q6,q7,q8,q9,ai,aj,c,ak,al,am,an⟩:=hR
 simp only[B8,dp] at q0 q1 q2 q3 q4 q5 q6 q7 q8 q9 ai aj c ak al am an
 refine en 47 Tryz.func28 rfl<|sg<|L0<|dv (mG M.code M.fail M.addr M.count M.value M.and_ M.or_ M.addr2 M.sub M.status M.events M.messages (.slice Aw M.words.length kw) (.slice Ab M.bits.length kb) (.slice Ad M.data.length kd) (.slice Ar M.recs.length kr) M.mei M.kind M.level M.more M.next (.slice Ao M.objects.length ko)) fun ck f cl d b=>Pl 2<|nt<|sq<|sg<|Pl 1<|L0<|aO d 1<|Pl 1<|nl<|?_
 refine tn<|cb ((M.fail != 0)) (fun a=>?_) (fun a=>?_)
 have ao:=ax a
 refine sq<|sg<|Pl 2<|nt<|cb ((dir != 1)) (fun c=>?_) (fun c=>?_)
 have aq:=ax c
 refine sg<|Pl 2<|nt<|rt<|tr<|tr<|rr (.tuple #[.slice none 0 0,.int .i64 1])<|?_
 have hs:cv dir M=none:=by
   unfold cv
   (try simp only[a,c,bs,if_true,if_false,decide_true,decide_false,reduceIte])
   all_goals rfl
 refine et hs ?_
 exact⟨rfl,b⟩
 have aq:=ag c
 refine bf<|sg<|L0<|bO d<|?_
 rcases hwr:jO M with _|lw
 have E:=mN (aH.old hM b)
 rw[hwr] at E
 refine L0<|Oc<|m1 E fun cm ar=>Pl 4<|nt<|rt<|tr<|rr (.tuple #[.slice none 0 0,.int .i64 1])<|?_
 have hs:cv dir M=none:=by
   unfold cv
   (try simp only[a,c,bs,if_true,if_false,decide_true,decide_false,hwr,reduceIte])
   all_goals rfl
 refine et hs ?_
 exact⟨rfl,(aD b ar)⟩
 have F:=mN (aH.old hM b)
 rw[hwr] at F
 refine L0<|Oc<|dG F fun aw aB cn aC co cp aE=>Pl 4<|nt<|rt<|tr<|rr (.tuple #[.slice aw lw.length aB,.int .i64 0])<|?_
 have hs:cv dir M=(some lw):=by
   unfold cv
   (try simp only[a,c,bs,if_true,if_false,decide_true,decide_false,hwr,reduceIte])
   all_goals rfl
 refine et hs ?_
 exact⟨_,rfl,(aS.weaken aC b.size),(aD b aE)⟩
 have ao:=ag a
 refine bf<|sg<|Pl 1<|L0<|aO d 0<|?_
 rcases gJ M.code with⟨hk,hkf⟩|⟨hk,hkf⟩|⟨hk,hkf⟩|⟨hk,hkf⟩|⟨hk,hkf⟩|⟨hk,hkf⟩
 have G:=fu (x:=M.code) (w:=f)
 rw[hkf] at G
 refine L0<|Oc<|m1 G fun cq aF=>Pl 3<|L0<|bH #[.nilFunc,.nilFunc] fun cr ct aG aI aJ=>L0<|b7 aI #[.func (.func 138) #[] #[],.func (.func 139) #[] #[]] fun cu aL aM=>Pl 1<|nt<|sq<|sg<|Pl 2<|nt<|c0<|?_
 refine bf<|sg<|Pl 1<|L0<|aO aL 1<|Pl 1<|?_
 have H:=aD aF (ud aJ aM aG)
 have I:=ub H d
 refine L0<|bO I<|?_
 have n:=aD b H
 rcases hwr:bh fV bM dir M with _|lw
 have J:=ky (dir:=dir) (aH.old hM n) hf (ff hf dir).1
 rw[hwr] at J
 refine L0<|i2 #[] #[] (args:=#[.int .i64 dir,.agg (mG M.code M.fail M.addr M.count M.value M.and_ M.or_ M.addr2 M.sub M.status M.events M.messages (.slice Aw M.words.length kw) (.slice Ab M.bits.length kb) (.slice Ad M.data.length kd) (.slice Ar M.recs.length kr) M.mei M.kind M.level M.more M.next (.slice Ao M.objects.length ko))])<|m1 J fun cw aQ=>Pl 5<|nt<|sq<|sg<|Pl 7<|nt<|c1<|sg<|Pl 2<|nl<|?_
 refine tn<|rt<|tr<|rr (.tuple #[.slice none 0 0,.int .i64 1])<|?_
 have hs:cv dir M=none:=by
   unfold cv
   (try simp only[a,bs,if_true,if_false,decide_true,decide_false,hkf,gx,hwr,reduceIte])
   all_goals rfl
 refine et hs ?_
 exact⟨rfl,(aD n aQ)⟩
 have K:=ky (dir:=dir) (aH.old hM n) hf (ff hf dir).1
 rw[hwr] at K
 refine L0<|i2 #[] #[] (args:=#[.int .i64 dir,.agg (mG M.code M.fail M.addr M.count M.value M.and_ M.or_ M.addr2 M.sub M.status M.events M.messages (.slice Aw M.words.length kw) (.slice Ab M.bits.length kb) (.slice Ad M.data.length kd) (.slice Ar M.recs.length kr) M.mei M.kind M.level M.more M.next (.slice Ao M.objects.length ko))])<|dG K fun cx cy cz aR cA cB L=>Pl 5<|nt<|sq<|sg<|Pl 7<|nt<|?_
 have s:=aD n L
 refine cb ((decide (253≤((lw.length:Nat) : Int)))) (fun g=>?_) (fun g=>?_)
 have aT:=of_decide_eq_true g
 refine sg<|Pl 2<|nt<|rt<|tr<|rr (.tuple #[.slice none 0 0,.int .i64 1])<|?_
 have hs:cv dir M=none:=by
   unfold cv
   (try simp only[a,g,bs,if_true,if_false,decide_true,decide_false,hkf,gx,hwr,reduceIte])
   all_goals rfl
 refine et hs ?_
 exact⟨rfl,s⟩
 have aT:=of_decide_eq_false g
 refine bf<|sg<|Pl 1<|?_
 refine L0<|aO (ub L I) 0<|L0<|cL (m:=1) (e:=5) #[.int .u8 M.code] fun cD cE aU aV t=>?_
 have N:=cC aU (xs:=[M.code]) (by as_aux_lemma=>kernel_rfl) (au (by omega) aK) (by(try simp only[List.length_cons,List.length_nil]);omega) aV
 refine Pl 1<|?_
 refine L0<|bR aZ (xs:=([M.code])) (ys:=lw) (.int .u8 0) 1 N ((ap aR t (fun x hx=>az) (fun _ _ h=>h))).rd (by(try simp only[List.length_append,List.length_cons,List.length_nil,aA]);omega) t.size fun aW aX cF aY b0=>Pl 2<|nt<|rt<|rr (.tuple #[.slice aW (([M.code]++lw).length) aX,.int .i64 0])<|?_
 have hs:cv dir M=(some ([M.code]++lw)):=by
   unfold cv
   (try simp only[a,g,bs,if_true,if_false,decide_true,decide_false,hkf,gx,hwr,reduceIte])
   all_goals rfl
 refine et hs ?_
 exact⟨_,rfl,(aS.weaken aY s.size),(aD s (ut t b0 (av (aN N lr) ay)))⟩
 have O:=fu (x:=M.code) (w:=f)
 rw[hkf] at O
 refine L0<|Oc<|m1 O fun cG b1=>Pl 3<|L0<|bH #[.nilFunc,.nilFunc] fun cH cI b2 b3 b4=>L0<|b7 b3 #[.func (.func 140) #[] #[],.func (.func 141) #[] #[]] fun cJ b5 b6=>Pl 1<|nt<|sq<|sg<|Pl 2<|nt<|c0<|?_
 refine bf<|sg<|Pl 1<|L0<|aO b5 1<|Pl 1<|?_
 have P:=aD b1 (ud b4 b6 b2)
 have Q:=ub P d
 refine L0<|bO Q<|?_
 have o:=aD b P
 rcases hwr:bh gM bF dir M with _|lw
 have R:=l0 (dir:=dir) (aH.old hM o) hf (ff hf dir).2.1
 rw[hwr] at R
 refine L0<|i2 #[] #[] (args:=#[.int .i64 dir,.agg (mG M.code M.fail M.addr M.count M.value M.and_ M.or_ M.addr2 M.sub M.status M.events M.messages (.slice Aw M.words.length kw) (.slice Ab M.bits.length kb) (.slice Ad M.data.length kd) (.slice Ar M.recs.length kr) M.mei M.kind M.level M.more M.next (.slice Ao M.objects.length ko))])<|m1 R fun cK b8=>Pl 5<|nt<|sq<|sg<|Pl 7<|nt<|c1<|sg<|Pl 2<|nl<|?_
 refine tn<|rt<|tr<|rr (.tuple #[.slice none 0 0,.int .i64 1])<|?_
 have hs:cv dir M=none:=by
   unfold cv
   (try simp only[a,bs,if_true,if_false,decide_true,decide_false,hkf,gx,hwr,reduceIte])
   all_goals rfl
 refine et hs ?_
 exact⟨rfl,(aD o b8)⟩
 have S:=l0 (dir:=dir) (aH.old hM o) hf (ff hf dir).2.1
 rw[hwr] at S
 refine L0<|i2 #[] #[] (args:=#[.int .i64 dir,.agg (mG M.code M.fail M.addr M.count M.value M.and_ M.or_ M.addr2 M.sub M.status M.events M.messages (.slice Aw M.words.length kw) (.slice Ab M.bits.length kb) (.slice Ad M.data.length kd) (.slice Ar M.recs.length kr) M.mei M.kind M.level M.more M.next (.slice Ao M.objects.length ko))])<|dG S fun cM cN cO b9 cP cR T=>Pl 5<|nt<|sq<|sg<|Pl 7<|nt<|?_
 have u:=aD o T
 refine cb ((decide (253≤((lw.length:Nat) : Int)))) (fun i=>?_) (fun i=>?_)
 have ba:=of_decide_eq_true i
 refine sg<|Pl 2<|nt<|rt<|tr<|rr (.tuple #[.slice none 0 0,.int .i64 1])<|?_
 have hs:cv dir M=none:=by
   unfold cv
   (try simp only[a,i,bs,if_true,if_false,decide_true,decide_false,hkf,gx,hwr,reduceIte])
   all_goals rfl
 refine et hs ?_
 exact⟨rfl,u⟩
 have ba:=of_decide_eq_false i
 refine bf<|sg<|Pl 1<|?_
 refine L0<|aO (ub T Q) 0<|L0<|cL (m:=1) (e:=5) #[.int .u8 M.code] fun cS cT bb bc v=>?_
 have U:=cC bb (xs:=[M.code]) (by as_aux_lemma=>kernel_rfl) (au (by omega) aK) (by(try simp only[List.length_cons,List.length_nil]);omega) bc
 refine Pl 1<|?_
 refine L0<|bR aZ (xs:=([M.code])) (ys:=lw) (.int .u8 0) 1 U ((ap b9 v (fun x hx=>az) (fun _ _ h=>h))).rd (by(try simp only[List.length_append,List.length_cons,List.length_nil,aA]);omega) v.size fun bd be cU bg bi=>Pl 2<|nt<|rt<|rr (.tuple #[.slice bd (([M.code]++lw).length) be,.int .i64 0])<|?_
 have hs:cv dir M=(some ([M.code]++lw)):=by
   unfold cv
   (try simp only[a,i,bs,if_true,if_false,decide_true,decide_false,hkf,gx,hwr,reduceIte])
   all_goals rfl
 refine et hs ?_
 exact⟨_,rfl,(aS.weaken bg u.size),(aD u (ut v bi (av (aN U lr) ay)))⟩
 have V:=fu (x:=M.code) (w:=f)
 rw[hkf] at V
 refine L0<|Oc<|m1 V fun cV bj=>Pl 3<|L0<|bH #[.nilFunc,.nilFunc] fun cW cX bk bl bm=>L0<|b7 bl #[.func (.func 142) #[] #[],.func (.func 143) #[] #[]] fun cY bn bo=>Pl 1<|nt<|sq<|sg<|Pl 2<|nt<|c0<|?_
 refine bf<|sg<|Pl 1<|L0<|aO bn 1<|Pl 1<|?_
 have W:=aD bj (ud bm bo bk)
 have X:=ub W d
 refine L0<|bO X<|?_
 have p:=aD b W
 rcases hwr:bh gP bI dir M with _|lw
 have Y:=lM (dir:=dir) (aH.old hM p) hf (ff hf dir).2.2.1
 rw[hwr] at Y
 refine L0<|i2 #[] #[] (args:=#[.int .i64 dir,.agg (mG M.code M.fail M.addr M.count M.value M.and_ M.or_ M.addr2 M.sub M.status M.events M.messages (.slice Aw M.words.length kw) (.slice Ab M.bits.length kb) (.slice Ad M.data.length kd) (.slice Ar M.recs.length kr) M.mei M.kind M.level M.more M.next (.slice Ao M.objects.length ko))])<|m1 Y fun d0 bp=>Pl 5<|nt<|sq<|sg<|Pl 7<|nt<|c1<|sg<|Pl 2<|nl<|?_
 refine tn<|rt<|tr<|rr (.tuple #[.slice none 0 0,.int .i64 1])<|?_
 have hs:cv dir M=none:=by
   unfold cv
   (try simp only[a,bs,if_true,if_false,decide_true,decide_false,hkf,gx,hwr,reduceIte])
   all_goals rfl
 refine et hs ?_
 exact⟨rfl,(aD p bp)⟩
 have Z:=lM (dir:=dir) (aH.old hM p) hf (ff hf dir).2.2.1
 rw[hwr] at Z
 refine L0<|i2 #[] #[] (args:=#[.int .i64 dir,.agg (mG M.code M.fail M.addr M.count M.value M.and_ M.or_ M.addr2 M.sub M.status M.events M.messages (.slice Aw M.words.length kw) (.slice Ab M.bits.length kb) (.slice Ad M.data.length kd) (.slice Ar M.recs.length kr) M.mei M.kind M.level M.more M.next (.slice Ao M.objects.length ko))])<|dG Z fun d1 d2 d3 bq d4 d5 a0=>Pl 5<|nt<|sq<|sg<|Pl 7<|nt<|?_
 have y:=aD p a0
 refine cb ((decide (253≤((lw.length:Nat) : Int)))) (fun j=>?_) (fun j=>?_)
 have br:=of_decide_eq_true j
 refine sg<|Pl 2<|nt<|rt<|tr<|rr (.tuple #[.slice none 0 0,.int .i64 1])<|?_
 have hs:cv dir M=none:=by
   unfold cv
   (try simp only[a,j,bs,if_true,if_false,decide_true,decide_false,hkf,gx,hwr,reduceIte])
   all_goals rfl
 refine et hs ?_
 exact⟨rfl,y⟩
 have br:=of_decide_eq_false j
 refine bf<|sg<|Pl 1<|?_
 refine L0<|aO (ub a0 X) 0<|L0<|cL (m:=1) (e:=5) #[.int .u8 M.code] fun d6 d7 bt bv z=>?_
 have a1:=cC bt (xs:=[M.code]) (by as_aux_lemma=>kernel_rfl) (au (by omega) aK) (by(try simp only[List.length_cons,List.length_nil]);omega) bv
 refine Pl 1<|?_
 refine L0<|bR aZ (xs:=([M.code])) (ys:=lw) (.int .u8 0) 1 a1 ((ap bq z (fun x hx=>az) (fun _ _ h=>h))).rd (by(try simp only[List.length_append,List.length_cons,List.length_nil,aA]);omega) z.size fun bw bx d8 bz bA=>Pl 2<|nt<|rt<|rr (.tuple #[.slice bw (([M.code]++lw).length) bx,.int .i64 0])<|?_
 have hs:cv dir M=(some ([M.code]++lw)):=by
   unfold cv
   (try simp only[a,j,bs,if_true,if_false,decide_true,decide_false,hkf,gx,hwr,reduceIte])
   all_goals rfl
 refine et hs ?_
 exact⟨_,rfl,(aS.weaken bz y.size),(aD y (ut z bA (av (aN a1 lr) ay)))⟩
 have a2:=fu (x:=M.code) (w:=f)
 rw[hkf] at a2
 refine L0<|Oc<|m1 a2 fun d9 bB=>Pl 3<|L0<|bH #[.nilFunc,.nilFunc] fun da db bC bD bE=>L0<|b7 bD #[.func (.func 144) #[] #[],.func (.func 145) #[] #[]] fun dc bG bJ=>Pl 1<|nt<|sq<|sg<|Pl 2<|nt<|c0<|?_
 refine bf<|sg<|Pl 1<|L0<|aO bG 1<|Pl 1<|?_
 have a3:=aD bB (ud bE bJ bC)
 have a4:=ub a3 d
 refine L0<|bO a4<|?_
 have q:=aD b a3
 rcases hwr:bh fS cZ dir M with _|lw
 have a5:=kI (dir:=dir) (aH.old hM q) hf (ff hf dir).2.2.2.2
 rw[hwr] at a5
 refine L0<|i2 #[] #[] (args:=#[.int .i64 dir,.agg (mG M.code M.fail M.addr M.count M.value M.and_ M.or_ M.addr2 M.sub M.status M.events M.messages (.slice Aw M.words.length kw) (.slice Ab M.bits.length kb) (.slice Ad M.data.length kd) (.slice Ar M.recs.length kr) M.mei M.kind M.level M.more M.next (.slice Ao M.objects.length ko))])<|m1 a5 fun dd bK=>Pl 5<|nt<|sq<|sg<|Pl 7<|nt<|c1<|sg<|Pl 2<|nl<|?_
 refine tn<|rt<|tr<|rr (.tuple #[.slice none 0 0,.int .i64 1])<|?_
 have hs:cv dir M=none:=by
   unfold cv
   (try simp only[a,bs,if_true,if_false,decide_true,decide_false,hkf,gx,hwr,reduceIte])
   all_goals rfl
 refine et hs ?_
 exact⟨rfl,(aD q bK)⟩
 have a6:=kI (dir:=dir) (aH.old hM q) hf (ff hf dir).2.2.2.2
 rw[hwr] at a6
 refine L0<|i2 #[] #[] (args:=#[.int .i64 dir,.agg (mG M.code M.fail M.addr M.count M.value M.and_ M.or_ M.addr2 M.sub M.status M.events M.messages (.slice Aw M.words.length kw) (.slice Ab M.bits.length kb) (.slice Ad M.data.length kd) (.slice Ar M.recs.length kr) M.mei M.kind M.level M.more M.next (.slice Ao M.objects.length ko))])<|dG a6 fun de df dg bL dh di a7=>Pl 5<|nt<|sq<|sg<|Pl 7<|nt<|?_
 have A:=aD q a7
 refine cb ((decide (253≤((lw.length:Nat) : Int)))) (fun k=>?_) (fun k=>?_)
 have bN:=of_decide_eq_true k
 refine sg<|Pl 2<|nt<|rt<|tr<|rr (.tuple #[.slice none 0 0,.int .i64 1])<|?_
 have hs:cv dir M=none:=by
   unfold cv
   (try simp only[a,k,bs,if_true,if_false,decide_true,decide_false,hkf,gx,hwr,reduceIte])
   all_goals rfl
 refine et hs ?_
 exact⟨rfl,A⟩
 have bN:=of_decide_eq_false k
 refine bf<|sg<|Pl 1<|?_
 refine L0<|aO (ub a7 a4) 0<|L0<|cL (m:=1) (e:=5) #[.int .u8 M.code] fun dj dk bP bQ B=>?_
 have a8:=cC bP (xs:=[M.code]) (by as_aux_lemma=>kernel_rfl) (au (by omega) aK) (by(try simp only[List.length_cons,List.length_nil]);omega) bQ
 refine Pl 1<|?_
 refine L0<|bR aZ (xs:=([M.code])) (ys:=lw) (.int .u8 0) 1 a8 ((ap bL B (fun x hx=>az) (fun _ _ h=>h))).rd (by(try simp only[List.length_append,List.length_cons,List.length_nil,aA]);omega) B.size fun bT bU dl bV bW=>Pl 2<|nt<|rt<|rr (.tuple #[.slice bT (([M.code]++lw).length) bU,.int .i64 0])<|?_
 have hs:cv dir M=(some ([M.code]++lw)):=by
   unfold cv
   (try simp only[a,k,bs,if_true,if_false,decide_true,decide_false,hkf,gx,hwr,reduceIte])
   all_goals rfl
 refine et hs ?_
 exact⟨_,rfl,(aS.weaken bV A.size),(aD A (ut B bW (av (aN a8 lr) ay)))⟩
 have a9:=fu (x:=M.code) (w:=f)
 rw[hkf] at a9
 refine L0<|Oc<|m1 a9 fun dm bX=>Pl 3<|L0<|bH #[.nilFunc,.nilFunc] fun dn dq bY bZ c2=>L0<|b7 bZ #[.func (.func 146) #[] #[],.func (.func 147) #[] #[]] fun dr c3 c4=>Pl 1<|nt<|sq<|sg<|Pl 2<|nt<|c0<|?_
 refine bf<|sg<|Pl 1<|L0<|aO c3 1<|Pl 1<|?_
 have aa:=aD bX (ud c2 c4 bY)
 have ab:=ub aa d
 refine L0<|bO ab<|?_
 have r:=aD b aa
 rcases hwr:bh iw cQ dir M with _|lw
 have ac:=n7 (dir:=dir) (aH.old hM r) hf (ff hf dir).2.2.2.1
 rw[hwr] at ac
 refine L0<|i2 #[] #[] (args:=#[.int .i64 dir,.agg (mG M.code M.fail M.addr M.count M.value M.and_ M.or_ M.addr2 M.sub M.status M.events M.messages (.slice Aw M.words.length kw) (.slice Ab M.bits.length kb) (.slice Ad M.data.length kd) (.slice Ar M.recs.length kr) M.mei M.kind M.level M.more M.next (.slice Ao M.objects.length ko))])<|m1 ac fun ds c5=>Pl 5<|nt<|sq<|sg<|Pl 7<|nt<|c1<|sg<|Pl 2<|nl<|?_
 refine tn<|rt<|tr<|rr (.tuple #[.slice none 0 0,.int .i64 1])<|?_
 have hs:cv dir M=none:=by
   unfold cv
   (try simp only[a,bs,if_true,if_false,decide_true,decide_false,hkf,gx,hwr,reduceIte])
   all_goals rfl
 refine et hs ?_
 exact⟨rfl,(aD r c5)⟩
 have ad:=n7 (dir:=dir) (aH.old hM r) hf (ff hf dir).2.2.2.1
 rw[hwr] at ad
 refine L0<|i2 #[] #[] (args:=#[.int .i64 dir,.agg (mG M.code M.fail M.addr M.count M.value M.and_ M.or_ M.addr2 M.sub M.status M.events M.messages (.slice Aw M.words.length kw) (.slice Ab M.bits.length kb) (.slice Ad M.data.length kd) (.slice Ar M.recs.length kr) M.mei M.kind M.level M.more M.next (.slice Ao M.objects.length ko))])<|dG ad fun dt du dw c6 dx dy ae=>Pl 5<|nt<|sq<|sg<|Pl 7<|nt<|?_
 have C:=aD r ae
 refine cb ((decide (253≤((lw.length:Nat) : Int)))) (fun l=>?_) (fun l=>?_)
 have c7:=of_decide_eq_true l
 refine sg<|Pl 2<|nt<|rt<|tr<|rr (.tuple #[.slice none 0 0,.int .i64 1])<|?_
 have hs:cv dir M=none:=by
   unfold cv
   (try simp only[a,l,bs,if_true,if_false,decide_true,decide_false,hkf,gx,hwr,reduceIte])
   all_goals rfl
 refine et hs ?_
 exact⟨rfl,C⟩
 have c7:=of_decide_eq_false l
 refine bf<|sg<|Pl 1<|?_
 refine L0<|aO (ub ae ab) 0<|L0<|cL (m:=1) (e:=5) #[.int .u8 M.code] fun dz dA c8 c9 D=>?_
 have af:=cC c8 (xs:=[M.code]) (by as_aux_lemma=>kernel_rfl) (au (by omega) aK) (by(try simp only[List.length_cons,List.length_nil]);omega) c9
 refine Pl 1<|?_
 refine L0<|bR aZ (xs:=([M.code])) (ys:=lw) (.int .u8 0) 1 af ((ap c6 D (fun x hx=>az) (fun _ _ h=>h))).rd (by(try simp only[List.length_append,List.length_cons,List.length_nil,aA]);omega) D.size fun ca cc dB cd ce=>Pl 2<|nt<|rt<|rr (.tuple #[.slice ca (([M.code]++lw).length) cc,.int .i64 0])<|?_
 have hs:cv dir M=(some ([M.code]++lw)):=by
   unfold cv
   (try simp only[a,l,bs,if_true,if_false,decide_true,decide_false,hkf,gx,hwr,reduceIte])
   all_goals rfl
 refine et hs ?_
 exact⟨_,rfl,(aS.weaken cd C.size),(aD C (ut D ce (av (aN af lr) ay)))⟩
 have ah:=fu (x:=M.code) (w:=f)
 rw[hkf] at ah
 refine L0<|Oc<|m1 ah fun dC cf=>Pl 3<|L0<|bH #[.nilFunc,.nilFunc] fun dD dE cg ch ci=>L0<|b7 ch #[.nilFunc,.nilFunc] fun dF dH cj=>Pl 1<|nt<|sq<|sg<|Pl 2<|nt<|c1<|?_
 refine sg<|Pl 2<|nt<|rt<|tr<|rr (.tuple #[.slice none 0 0,.int .i64 1])<|?_
 have hs:cv dir M=none:=by
   unfold cv
   (try simp only[a,bs,if_true,if_false,decide_true,decide_false,hkf,gx,reduceIte])
   all_goals rfl
 refine et hs ?_
 exact⟨rfl,(aD b (aD cf (ud ci cj cg)))⟩
open Go.RowKit
theorem iQ{x y:aP × Int}(h:x=y){w:World}{e:Ending}{w':World}(k:dX y w e w') : dX x w e w':=by rw[h];exact k
def io:Nat→Int→List Int→aP × Int
  | 1,dir,b=>ai aF dir (b.getD 0 0) (b.drop 1)
  | 2,dir,b=>ai aM dir (b.getD 0 0) (b.drop 1)
  | 3,dir,b=>ai aV dir (b.getD 0 0) (b.drop 1)
  | 4,dir,b=>ai aX dir (b.getD 0 0) (b.drop 1)
  | 5,dir,b=>ai bD dir (b.getD 0 0) (b.drop 1)
  | _,_,_=>(aP.zero,4)
def cH (dir:Int)(b:List Int) : aP × Int :=
  if dir != 0&&dir != 1 then (aP.zero,1)
  else if (b.length:Int)==0 then (aP.zero,2)
  else if decide (253<(b.length:Int)) then (aP.zero,3)
  else if decide (128≤b.getD 0 0)&&dir==1 then ee b
  else io (iV (b.getD 0 0)) dir b
theorem rl{m:Md}{A:Option Addr}{cp:Nat}{b:List Int}{w:World}{dir:Int}(hsl:b9 m w (.slice A b.length cp) b)(hb:b.length≤1048576) :
    Calls Tryz.prog 24 #[.int .i64 dir,.slice A b.length cp] w (dX (cH dir b) w):=by
 have hln:(b.length:Int)≤1048576:=by omega
 refine en 60 Tryz.func24 rfl<|sg<|L0<|bH mZ fun dk t h a f=>Pl 1<|nt<|sq<|bk<|sg<|Pl 3<|cu 3 [11] 14 (((dir != 0)&&(dir != 1))) (fun K a2=>?_) ?_
 refine bl 11 ((dir != 0)) (fun u=>?_) (fun u=>?_)
 have bZ:=ax u
 exact Pl 3<|ce a2 (dir != 1) (by rw[u];rfl)
 have bZ:=ag u
 exact Pl 3<|ce a2 false (by rw[u];rfl)
 refine Pl 1<|nt<|cb (((dir != 0)&&(dir != 1))) (fun d=>?_) (fun d=>?_)
 have a3:=(aT d).1
 have a4:=(aT d).2
 have dl:=ax a3
 have dm:=ax a4
 refine sg<|Pl 1<|L0<|b7 a mZ fun dn c2 c3=>Pl 1<|nt<|rt<|br<|tr<|bJ c2 (.int .i64 1)<|?_
 have hs:cH dir b=(aP.zero,1):=by
   unfold cH
   (try simp only[d,a3,a4,bs,if_true,if_false,decide_true,decide_false,io,reduceIte])
   all_goals rfl
 refine iQ hs ?_
 exact cA (ud f c3 h)
 refine sg<|Pl 4<|nt<|cb ((((b.length:Nat) : Int)==0)) (fun e=>?_) (fun e=>?_)
 have c4:=ah e
 refine sg<|Pl 1<|L0<|b7 a mZ fun dp c5 c6=>Pl 1<|nt<|rt<|br<|tr<|bJ c5 (.int .i64 2)<|?_
 have hs:cH dir b=(aP.zero,2):=by
   unfold cH
   (try simp only[d,e,bs,if_true,if_false,decide_true,decide_false,io,reduceIte])
   all_goals rfl
 refine iQ hs ?_
 exact cA (ud f c6 h)
 have c4:=aj e
 refine sg<|Pl 4<|nt<|cb ((decide (253<((b.length:Nat) : Int)))) (fun g=>?_) (fun g=>?_)
 have c7:=of_decide_eq_true g
 refine sg<|Pl 1<|L0<|b7 a mZ fun dq c8 c9=>Pl 1<|nt<|rt<|br<|tr<|bJ c8 (.int .i64 3)<|?_
 have hs:cH dir b=(aP.zero,3):=by
   unfold cH
   (try simp only[d,e,g,bs,if_true,if_false,decide_true,decide_false,io,reduceIte])
   all_goals rfl
 refine iQ hs ?_
 exact cA (ud f c9 h)
 have c7:=of_decide_eq_false g
 refine sg<|Pl 1<|?_
 have s:=b9.old hsl f
 refine gh (b9.at_ s 0 (by omega)) fun a5 a6 a7 a8 dr=>L0<|m8 b.length 0 a7 (by omega)<|L0<|ei (p:=⟨a5,a6+0,none⟩) (v:=.int .u8 (b.getD 0 0)) a8<|Pl 2<|cu 3 [31] 34 (((decide (128≤(b.getD 0 0)))&&(dir==1))) (fun K a9=>?_) ?_
 refine bl 31 ((decide (128≤(b.getD 0 0)))) (fun y=>?_) (fun y=>?_)
 have ca:=of_decide_eq_true y
 exact Pl 3<|ce a9 (dir==1) (by rw[y];rfl)
 have ca:=of_decide_eq_false y
 exact Pl 3<|ce a9 false (by rw[y];rfl)
 refine Pl 1<|nt<|cb (((decide (128≤(b.getD 0 0)))&&(dir==1))) (fun i=>?_) (fun i=>?_)
 have aa:=(aT i).1
 have ab:=(aT i).2
 have ds:=of_decide_eq_true aa
 have dt:=ah ab
 refine sg<|Pl 1<|L0<|Oc<|e2 (t6 s (by omega)) fun cc du z ac=>Pl 2<|?_
 have ad:=ub ac a
 refine L0<|b7 (hz:=(by rw[z.size];exact aI)) (hv:=z.size) (h1:=z.one) ad (cc) fun dv cd af=>Pl 1<|nt<|rt<|br<|tr<|eJ 22 z.size cd (.int .i64 (((ee b)).2))<|?_
 have hs:cH dir b=(ee b):=by
   unfold cH
   (try simp only[d,e,g,i,aa,ab,bs,if_true,if_false,decide_true,decide_false,io,reduceIte])
   all_goals rfl
 refine iQ hs ?_
 exact⟨_,rfl,(aH.upd z af (aq (aU ad (by decide)) aG)),(ud f (uz ac af) h)⟩
 refine sk<|bn<|tn<|sg<|Pl 1<|L0<|m8 b.length 0 a7 (by omega)<|L0<|ei (p:=⟨a5,a6+0,none⟩) (v:=.int .u8 (b.getD 0 0)) a8<|?_
 rcases gJ (b.getD 0 0) with⟨hk,hkf⟩|⟨hk,hkf⟩|⟨hk,hkf⟩|⟨hk,hkf⟩|⟨hk,hkf⟩|⟨hk,hkf⟩
 have ak:=fu (x:=(b.getD 0 0)) (w:=t)
 rw[hkf] at ak
 refine L0<|Oc<|m1 ak fun dw al=>Pl 3<|L0<|bH #[.nilFunc,.nilFunc] fun cf dx an cg ch=>L0<|b7 cg #[.func (.func 138) #[] #[],.func (.func 139) #[] #[]] fun dy ci cj=>Pl 1<|nt<|sq<|sg<|Pl 2<|nt<|c0<|?_
 refine bf<|sq<|?_
 have ao:=aD al (ud ch cj an)
 have ap:=b9.old s ao
 refine gh (b9.at_ ap 0 (by omega)) fun ck cl ar au dz=>Rg 13 (fun w'=>w'.cell? ⟨cf,0,none⟩=some (.func (.func 138) #[] #[])∧w'.cell? ⟨ck,cl+0,none⟩=some (.int .u8 (b.getD 0 0))) fun dA M=>?_
 have av:=ub M ci
 refine bi ⟨(ae av rfl),(uc M au)⟩ fun j=>Rt 0 j<|Rl 1 j (fun _ hs=>hs.1)<|Rt 2 j<|Rt 3 j<|nK 4 j b.length 0 0 rfl ar (by omega)<|Rl 5 j (fun _ hs=>hs.2)<|Rt 6 j<|oT (eh (P:=Tryz.prog) 22 5 1 Tryz.underlying22 rfl rfl A b.length cp 1 (by omega)) fun aw hrun108 cm=>Rr 7 j (.slice aw (b.length-1) (cp-1)) (fun _ _=>eD (kl:=.i64) (k:=((1:Nat) : Int)) (A:=A) (n:=b.length) (c:=cp) rfl Tryz.underlying22 (by kernel_rfl) (by kernel_rfl) (hrun108 _ _))<|?_
 refine R0 8 rfl<|i2 #[] #[] (args:=#[.int .i64 dir,.int .u8 (b.getD 0 0),.slice aw (b.length-1) (cp-1)])<|e2 (ku (dir:=dir) (c:=(b.getD 0 0)) (b8 (by omega)) (cm _ _ _ _ _ (b9.old ap M)) (by(try simp only[List.length_drop]);omega)) fun cn dB B S=>?_
 have ay:=ub S av
 have T:=aD M S
 refine bi ⟨(ae ay rfl),(uc T au)⟩ fun az=>Rt 9 az<|Rt 10 az<|?_
 have aA:=aD ao T
 have aB:=ub aA a
 refine R0 11 rfl<|b7 (hz:=(by rw[B.size];exact aI)) (hv:=B.size) (h1:=B.one) aB (cn) fun dC co C=>?_
 have dD:=uz T C
 have dE:=uz S C
 have aC:=ud f (uz aA C) h
 refine bi ⟨(ae (aW C (Ne.symm (nb (am a) al.size an)) ay) rfl),(cB (b9.old hsl aC) ar 0 (by omega))⟩ fun cq=>Rt 12 cq<|re<|tn<|rt<|eJ 22 B.size co (.int .i64 (((ai aF dir (b.getD 0 0) (b.drop 1))).2))<|?_
 have hs:cH dir b=(ai aF dir (b.getD 0 0) (b.drop 1)):=by
   unfold cH
   (try simp only[d,e,g,i,bs,if_true,if_false,decide_true,decide_false,hkf,io,reduceIte])
   all_goals rfl
 refine iQ hs ?_
 exact⟨_,rfl,(aH.upd B C (aq (aU aB (by decide)) aG)),aC⟩
 have aE:=fu (x:=(b.getD 0 0)) (w:=t)
 rw[hkf] at aE
 refine L0<|Oc<|m1 aE fun dF aJ=>Pl 3<|L0<|bH #[.nilFunc,.nilFunc] fun cr dG aK cs ct=>L0<|b7 cs #[.func (.func 140) #[] #[],.func (.func 141) #[] #[]] fun dH cv cw=>Pl 1<|nt<|sq<|sg<|Pl 2<|nt<|c0<|?_
 refine bf<|sq<|?_
 have aL:=aD aJ (ud ct cw aK)
 have aN:=b9.old s aL
 refine gh (b9.at_ aN 0 (by omega)) fun cx cy aO aQ dI=>Rg 13 (fun w'=>w'.cell? ⟨cr,0,none⟩=some (.func (.func 140) #[] #[])∧w'.cell? ⟨cx,cy+0,none⟩=some (.int .u8 (b.getD 0 0))) fun dJ N=>?_
 have aR:=ub N cv
 refine bi ⟨(ae aR rfl),(uc N aQ)⟩ fun l=>Rt 0 l<|Rl 1 l (fun _ hs=>hs.1)<|Rt 2 l<|Rt 3 l<|nK 4 l b.length 0 0 rfl aO (by omega)<|Rl 5 l (fun _ hs=>hs.2)<|Rt 6 l<|oT (eh (P:=Tryz.prog) 22 5 1 Tryz.underlying22 rfl rfl A b.length cp 1 (by omega)) fun aS hrun188 cz=>Rr 7 l (.slice aS (b.length-1) (cp-1)) (fun _ _=>eD (kl:=.i64) (k:=((1:Nat) : Int)) (A:=A) (n:=b.length) (c:=cp) rfl Tryz.underlying22 (by kernel_rfl) (by kernel_rfl) (hrun188 _ _))<|?_
 refine R0 8 rfl<|i2 #[] #[] (args:=#[.int .i64 dir,.int .u8 (b.getD 0 0),.slice aS (b.length-1) (cp-1)])<|e2 (lg (dir:=dir) (c:=(b.getD 0 0)) (b8 (by omega)) (cz _ _ _ _ _ (b9.old aN N)) (by(try simp only[List.length_drop]);omega)) fun cC dK D U=>?_
 have aY:=ub U aR
 have V:=aD N U
 refine bi ⟨(ae aY rfl),(uc V aQ)⟩ fun aZ=>Rt 9 aZ<|Rt 10 aZ<|?_
 have b0:=aD aL V
 have b1:=ub b0 a
 refine R0 11 rfl<|b7 (hz:=(by rw[D.size];exact aI)) (hv:=D.size) (h1:=D.one) b1 (cC) fun dL cD E=>?_
 have dM:=uz V E
 have dN:=uz U E
 have b2:=ud f (uz b0 E) h
 refine bi ⟨(ae (aW E (Ne.symm (nb (am a) aJ.size aK)) aY) rfl),(cB (b9.old hsl b2) aO 0 (by omega))⟩ fun cE=>Rt 12 cE<|re<|tn<|rt<|eJ 22 D.size cD (.int .i64 (((ai aM dir (b.getD 0 0) (b.drop 1))).2))<|?_
 have hs:cH dir b=(ai aM dir (b.getD 0 0) (b.drop 1)):=by
   unfold cH
   (try simp only[d,e,g,i,bs,if_true,if_false,decide_true,decide_false,hkf,io,reduceIte])
   all_goals rfl
 refine iQ hs ?_
 exact⟨_,rfl,(aH.upd D E (aq (aU b1 (by decide)) aG)),b2⟩
 have b3:=fu (x:=(b.getD 0 0)) (w:=t)
 rw[hkf] at b3
 refine L0<|Oc<|m1 b3 fun dO b4=>Pl 3<|L0<|bH #[.nilFunc,.nilFunc] fun cF dP b5 cG cI=>L0<|b7 cG #[.func (.func 142) #[] #[],.func (.func 143) #[] #[]] fun dQ cJ cK=>Pl 1<|nt<|sq<|sg<|Pl 2<|nt<|c0<|?_
 refine bf<|sq<|?_
 have b6:=aD b4 (ud cI cK b5)
 have ba:=b9.old s b6
 refine gh (b9.at_ ba 0 (by omega)) fun cL cM bb bc dR=>Rg 13 (fun w'=>w'.cell? ⟨cF,0,none⟩=some (.func (.func 142) #[] #[])∧w'.cell? ⟨cL,cM+0,none⟩=some (.int .u8 (b.getD 0 0))) fun dS O=>?_
 have bd:=ub O cJ
 refine bi ⟨(ae bd rfl),(uc O bc)⟩ fun o=>Rt 0 o<|Rl 1 o (fun _ hs=>hs.1)<|Rt 2 o<|Rt 3 o<|nK 4 o b.length 0 0 rfl bb (by omega)<|Rl 5 o (fun _ hs=>hs.2)<|Rt 6 o<|oT (eh (P:=Tryz.prog) 22 5 1 Tryz.underlying22 rfl rfl A b.length cp 1 (by omega)) fun be hrun268 cN=>Rr 7 o (.slice be (b.length-1) (cp-1)) (fun _ _=>eD (kl:=.i64) (k:=((1:Nat) : Int)) (A:=A) (n:=b.length) (c:=cp) rfl Tryz.underlying22 (by kernel_rfl) (by kernel_rfl) (hrun268 _ _))<|?_
 refine R0 8 rfl<|i2 #[] #[] (args:=#[.int .i64 dir,.int .u8 (b.getD 0 0),.slice be (b.length-1) (cp-1)])<|e2 (lH (dir:=dir) (c:=(b.getD 0 0)) (b8 (by omega)) (cN _ _ _ _ _ (b9.old ba O)) (by(try simp only[List.length_drop]);omega)) fun cO dT F W=>?_
 have bg:=ub W bd
 have X:=aD O W
 refine bi ⟨(ae bg rfl),(uc X bc)⟩ fun bh=>Rt 9 bh<|Rt 10 bh<|?_
 have bj:=aD b6 X
 have bm:=ub bj a
 refine R0 11 rfl<|b7 (hz:=(by rw[F.size];exact aI)) (hv:=F.size) (h1:=F.one) bm (cO) fun dU cP G=>?_
 have dV:=uz X G
 have dW:=uz W G
 have bo:=ud f (uz bj G) h
 refine bi ⟨(ae (aW G (Ne.symm (nb (am a) b4.size b5)) bg) rfl),(cB (b9.old hsl bo) bb 0 (by omega))⟩ fun cQ=>Rt 12 cQ<|re<|tn<|rt<|eJ 22 F.size cP (.int .i64 (((ai aV dir (b.getD 0 0) (b.drop 1))).2))<|?_
 have hs:cH dir b=(ai aV dir (b.getD 0 0) (b.drop 1)):=by
   unfold cH
   (try simp only[d,e,g,i,bs,if_true,if_false,decide_true,decide_false,hkf,io,reduceIte])
   all_goals rfl
 refine iQ hs ?_
 exact⟨_,rfl,(aH.upd F G (aq (aU bm (by decide)) aG)),bo⟩
 have bp:=fu (x:=(b.getD 0 0)) (w:=t)
 rw[hkf] at bp
 refine L0<|Oc<|m1 bp fun dY bq=>Pl 3<|L0<|bH #[.nilFunc,.nilFunc] fun cR dZ bt cS cT=>L0<|b7 cS #[.func (.func 144) #[] #[],.func (.func 145) #[] #[]] fun e0 cU cV=>Pl 1<|nt<|sq<|sg<|Pl 2<|nt<|c0<|?_
 refine bf<|sq<|?_
 have bu:=aD bq (ud cT cV bt)
 have bv:=b9.old s bu
 refine gh (b9.at_ bv 0 (by omega)) fun cW cX bw bx e1=>Rg 13 (fun w'=>w'.cell? ⟨cR,0,none⟩=some (.func (.func 144) #[] #[])∧w'.cell? ⟨cW,cX+0,none⟩=some (.int .u8 (b.getD 0 0))) fun e3 Q=>?_
 have bz:=ub Q cU
 refine bi ⟨(ae bz rfl),(uc Q bx)⟩ fun q=>Rt 0 q<|Rl 1 q (fun _ hs=>hs.1)<|Rt 2 q<|Rt 3 q<|nK 4 q b.length 0 0 rfl bw (by omega)<|Rl 5 q (fun _ hs=>hs.2)<|Rt 6 q<|oT (eh (P:=Tryz.prog) 22 5 1 Tryz.underlying22 rfl rfl A b.length cp 1 (by omega)) fun bA hrun348 cY=>Rr 7 q (.slice bA (b.length-1) (cp-1)) (fun _ _=>eD (kl:=.i64) (k:=((1:Nat) : Int)) (A:=A) (n:=b.length) (c:=cp) rfl Tryz.underlying22 (by kernel_rfl) (by kernel_rfl) (hrun348 _ _))<|?_
 refine R0 8 rfl<|i2 #[] #[] (args:=#[.int .i64 dir,.int .u8 (b.getD 0 0),.slice bA (b.length-1) (cp-1)])<|e2 (kG (dir:=dir) (c:=(b.getD 0 0)) (b8 (by omega)) (cY _ _ _ _ _ (b9.old bv Q)) (by(try simp only[List.length_drop]);omega)) fun cZ e4 H Y=>?_
 have bB:=ub Y bz
 have Z:=aD Q Y
 refine bi ⟨(ae bB rfl),(uc Z bx)⟩ fun bC=>Rt 9 bC<|Rt 10 bC<|?_
 have bE:=aD bu Z
 have bF:=ub bE a
 refine R0 11 rfl<|b7 (hz:=(by rw[H.size];exact aI)) (hv:=H.size) (h1:=H.one) bF (cZ) fun e5 d0 I=>?_
 have e6:=uz Z I
 have e7:=uz Y I
 have bG:=ud f (uz bE I) h
 refine bi ⟨(ae (aW I (Ne.symm (nb (am a) bq.size bt)) bB) rfl),(cB (b9.old hsl bG) bw 0 (by omega))⟩ fun d1=>Rt 12 d1<|re<|tn<|rt<|eJ 22 H.size d0 (.int .i64 (((ai aX dir (b.getD 0 0) (b.drop 1))).2))<|?_
 have hs:cH dir b=(ai aX dir (b.getD 0 0) (b.drop 1)):=by
   unfold cH
   (try simp only[d,e,g,i,bs,if_true,if_false,decide_true,decide_false,hkf,io,reduceIte])
   all_goals rfl
 refine iQ hs ?_
 exact⟨_,rfl,(aH.upd H I (aq (aU bF (by decide)) aG)),bG⟩
 have bI:=fu (x:=(b.getD 0 0)) (w:=t)
 rw[hkf] at bI
 refine L0<|Oc<|m1 bI fun e8 bK=>Pl 3<|L0<|bH #[.nilFunc,.nilFunc] fun d2 e9 bL d3 d4=>L0<|b7 d3 #[.func (.func 146) #[] #[],.func (.func 147) #[] #[]] fun ea d5 d6=>Pl 1<|nt<|sq<|sg<|Pl 2<|nt<|c0<|?_
 refine bf<|sq<|?_
 have bM:=aD bK (ud d4 d6 bL)
 have bN:=b9.old s bM
 refine gh (b9.at_ bN 0 (by omega)) fun d7 d8 bO bP eb=>Rg 13 (fun w'=>w'.cell? ⟨d2,0,none⟩=some (.func (.func 146) #[] #[])∧w'.cell? ⟨d7,d8+0,none⟩=some (.int .u8 (b.getD 0 0))) fun ec R=>?_
 have bQ:=ub R d5
 refine bi ⟨(ae bQ rfl),(uc R bP)⟩ fun r=>Rt 0 r<|Rl 1 r (fun _ hs=>hs.1)<|Rt 2 r<|Rt 3 r<|nK 4 r b.length 0 0 rfl bO (by omega)<|Rl 5 r (fun _ hs=>hs.2)<|Rt 6 r<|oT (eh (P:=Tryz.prog) 22 5 1 Tryz.underlying22 rfl rfl A b.length cp 1 (by omega)) fun bR hrun428 d9=>Rr 7 r (.slice bR (b.length-1) (cp-1)) (fun _ _=>eD (kl:=.i64) (k:=((1:Nat) : Int)) (A:=A) (n:=b.length) (c:=cp) rfl Tryz.underlying22 (by kernel_rfl) (by kernel_rfl) (hrun428 _ _))<|?_
 refine R0 8 rfl<|i2 #[] #[] (args:=#[.int .i64 dir,.int .u8 (b.getD 0 0),.slice bR (b.length-1) (cp-1)])<|e2 (nq (dir:=dir) (c:=(b.getD 0 0)) (b8 (by omega)) (d9 _ _ _ _ _ (b9.old bN R)) (by(try simp only[List.length_drop]);omega)) fun da ed J a0=>?_
 have bS:=ub a0 bQ
 have a1:=aD R a0
 refine bi ⟨(ae bS rfl),(uc a1 bP)⟩ fun bT=>Rt 9 bT<|Rt 10 bT<|?_
 have bU:=aD bM a1
 have bV:=ub bU a
 refine R0 11 rfl<|b7 (hz:=(by rw[J.size];exact aI)) (hv:=J.size) (h1:=J.one) bV (da) fun ef db L=>?_
 have eg:=uz a1 L
 have ej:=uz a0 L
 have bW:=ud f (uz bU L) h
 refine bi ⟨(ae (aW L (Ne.symm (nb (am a) bK.size bL)) bS) rfl),(cB (b9.old hsl bW) bO 0 (by omega))⟩ fun dc=>Rt 12 dc<|re<|tn<|rt<|eJ 22 J.size db (.int .i64 (((ai bD dir (b.getD 0 0) (b.drop 1))).2))<|?_
 have hs:cH dir b=(ai bD dir (b.getD 0 0) (b.drop 1)):=by
   unfold cH
   (try simp only[d,e,g,i,bs,if_true,if_false,decide_true,decide_false,hkf,io,reduceIte])
   all_goals rfl
 refine iQ hs ?_
 exact⟨_,rfl,(aH.upd J L (aq (aU bV (by decide)) aG)),bW⟩
 have bX:=fu (x:=(b.getD 0 0)) (w:=t)
 rw[hkf] at bX
 refine L0<|Oc<|m1 bX fun ek dd=>Pl 3<|L0<|bH #[.nilFunc,.nilFunc] fun el em de df dg=>L0<|b7 df #[.nilFunc,.nilFunc] fun eo ep dh=>Pl 1<|nt<|sq<|sg<|Pl 2<|nt<|c1<|?_
 refine sg<|Pl 1<|?_
 have bY:=aD dd (ud dg dh de)
 refine L0<|b7 (ub bY a) mZ fun eq di dj=>Pl 1<|nt<|rt<|tr<|bJ di (.int .i64 4)<|?_
 have hs:cH dir b=(aP.zero,4):=by
   unfold cH
   (try simp only[d,e,g,i,bs,if_true,if_false,decide_true,decide_false,hkf,io,reduceIte])
   all_goals rfl
 refine iQ hs ?_
 exact cA (ud f (uz bY dj) h)
theorem sZ{m:Md}{v:Value}{b:List Int}{w:World}{dir:Int}(h:b9 m w v b)(hb:b.length≤1048576) : Calls Tryz.prog 24 #[.int .i64 dir,v] w (dX (cH dir b) w):=by
  obtain⟨A,cp,rfl,_,_⟩:=h.shape
  exact rl h hb
end Go.Proofs.YtogbnemojakcpaaGreat
namespace Go.Proofs.YtogbnemojakcpaaGreat
def N1 (C:ak) : Prop:=C.e≠1
theorem N1.need{C:ak}{b:Bool}{x:Int}(hx:x≠1)(h:N1 C) : N1 (C.need b x):=by
  unfold N1 ak.need at *
  split
  · exact hx
  · exact h
theorem N1.bytesC{C:ak}{n:Int}(h:N1 C) : N1 (C.bytesC n):=by
  unfold ak.bytesC
  split
  · exact N1.need (by decide) h
  · exact h
theorem N1.wordsC{C:ak}{n:Int}(h:N1 C) : N1 (C.wordsC n):=by
  unfold ak.wordsC
  split<;>exact N1.bytesC h
theorem N1.recs{one:Int→ak→Int × ak × dj}(ho:∀ s C,N1 C→N1 (one s C).2.1) : ∀ (n:Nat)(s:Int)(C:ak)(L:List dj),N1 C→N1 (aR one n s C L).1
  | 0,_,_,_,h=>h
  | n+1,s,C,L,h=>by
    unfold aR
    split
    · split
      · exact ho s C h
      · exact N1.recs ho n _ _ _ (ho s C h)
    · exact h
theorem N1.objs:∀ (n:Nat)(C:ak)(L:List Obj),N1 C→N1 (eg n C L).1
  | 0,_,_,h=>h
  | n+1,C,L,h=>N1.objs n _ _ (N1.bytesC (N1.bytesC (N1.bytesC h)))
theorem s3{x:Int}(h:x≠1) : bp x≠1:=by
  unfold bp
  split
  · decide
  · exact h
def ta (c:Int)(r:ak × aP) : Prop:=N1 r.1∧r.2.code=c∧r.2.fail=0
theorem qm{dir c:Int}{C:ak}{r:ak × aP}(hC:N1 C)(h:aF dir c C=some r) : ta c r:=by
  unfold aF at h
  repeat' split at h
  all_goals first | cases h | skip
  all_goals refine⟨?_,rfl,rfl⟩
  all_goals simp only[dm,dh,d6,ga,bA,j7,fp,dR,pV,i7]
  all_goals repeat' first | with_reducible exact hC | with_reducible apply N1.bytesC | with_reducible apply N1.wordsC | (with_reducible refine N1.need (by decide) ?_)
theorem tp{dir c:Int}{C:ak}{r:ak × aP}(hC:N1 C)(h:aM dir c C=some r) : ta c r:=by
  unfold aM at h
  repeat' split at h
  all_goals first | cases h | skip
  all_goals refine⟨?_,rfl,rfl⟩
  all_goals simp only[bZ,cm,dN,d8,cS,d9,d7,kN,iq,gZ,bG,kv,cU,fI,pB,xw,rB]
  all_goals repeat' first | with_reducible exact hC | with_reducible apply N1.bytesC | with_reducible apply N1.wordsC | (with_reducible refine N1.need (by decide) ?_)
theorem sj{dir c:Int}{C:ak}{r:ak × aP}(hC:N1 C)(h:aV dir c C=some r) : ta c r:=by
  unfold aV ea cn at h
  repeat' split at h
  all_goals first | cases h | skip
  all_goals refine⟨?_,rfl,rfl⟩
  all_goals simp only[eP,ji,fv,fU,dA]
  all_goals repeat' first | with_reducible exact hC | with_reducible apply N1.bytesC | with_reducible apply N1.wordsC | (with_reducible refine N1.need (by decide) ?_)
theorem uF{dir c:Int}{C:ak}{r:ak × aP}(hC:N1 C)(h:bD dir c C=some r) : ta c r:=by
  unfold bD at h
  repeat' split at h
  all_goals first | cases h | skip
  all_goals refine⟨?_,rfl,rfl⟩
  all_goals simp only[dB,fF,ek,dT,kK,kL,mA,tV]
  all_goals repeat' first | with_reducible exact hC | with_reducible apply N1.bytesC | with_reducible apply N1.wordsC | with_reducible apply N1.objs | (with_reducible refine N1.need (by decide) ?_)
theorem xk(s:Int)(C:ak)(h:N1 C) : N1 (cK s C).2.1:=by
  simp only[cK,eH,dw,ig,iO,mc]
  repeat' first | with_reducible exact h | with_reducible apply N1.bytesC | with_reducible apply N1.wordsC | (with_reducible refine N1.need (by decide) ?_)
theorem uR(s:Int)(C:ak)(h:N1 C) : N1 (bK s C).2.1:=by
  simp only[bK,eN,ia,fM]
  repeat' first | with_reducible exact h | with_reducible apply N1.bytesC | with_reducible apply N1.wordsC | (with_reducible refine N1.need (by decide) ?_)
theorem wA(s:Int)(C:ak)(h:N1 C) : N1 (cM s C).2.1:=by
  simp only[cM,jb,mz,dw,ig,iO,mc]
  repeat' first | with_reducible exact h | with_reducible apply N1.bytesC | with_reducible apply N1.wordsC | (with_reducible refine N1.need (by decide) ?_)
theorem jK{one:Int→ak→Int × ak × dj}(ho:∀ s C,N1 C→N1 (one s C).2.1)(may:Int→Bool)(c:Int){C:ak}(hC:N1 C) : N1 (dK one may c C).1:=by
  unfold dK kM
  refine N1.need (s3 (N1.recs ho _ _ _ _ ?_)) (N1.bytesC (N1.need (by decide) (N1.bytesC hC)))
  show(0:Int)≠1
  decide
theorem pZ{dir c:Int}{C:ak}{r:ak × aP}(hC:N1 C)(h:aX dir c C=some r) : ta c r:=by
  unfold aX at h
  repeat' split at h
  all_goals first | cases h | skip
  · exact⟨jK xk _ _ hC,rfl,rfl⟩
  · exact⟨jK uR _ _ hC,rfl,rfl⟩
  · exact⟨jK wA _ _ hC,rfl,rfl⟩
theorem N1.endC{C:ak}(h:N1 C) : N1 C.endC:=by
  unfold ak.endC
  exact N1.need (by decide) h
theorem fP{form:Int→Int→ak→Option (ak × aP)}(hg:∀ {dir c:Int}{C:ak}{r:ak × aP},N1 C→form dir c C=some r→ta c r){dir c:Int}{b:List Int}(hd:dir=0∨dir=1){M:aP}{E:Int}(h:ai form dir c b=(M,E)) :
    E≠1∧(E=0→M.code=c∧M.fail=0):=by
  unfold ai at h
  rw[if_pos hd] at h
  have h0:N1 ⟨b,false,0⟩:=by show(0:Int)≠1;decide
  split at h
  · injection h with h1 h2
    subst h1 h2
    exact⟨by decide,fun h=>by cases h⟩
  · rename_i r hr
    obtain⟨g1,g2,g3⟩:=hg h0 hr
    unfold b6 at h
    split at h
    · injection h with h1 h2
      subst h1 h2
      exact⟨by decide,fun _=>⟨g2,g3⟩⟩
    · rename_i hne
      injection h with h1 h2
      subst h1 h2
      exact⟨N1.endC g1,fun h=>absurd h hne⟩
end Go.Proofs.YtogbnemojakcpaaGreat
namespace Go.Proofs.YtogbnemojakcpaaGreat
theorem uP:∀ n:Nat,n<256→(dJ (n:Int)=ja (n:Int))∧(ja (n:Int)=false→iV (n:Int)=0)∧(128≤n→ja (n:Int)=false):=by decide +kernel
theorem tc{x:Int}(h:0≤x∧x<256) : dJ x=ja x∧(ja x=false→iV x=0)∧(128≤x→ja x=false):=by
  obtain⟨n,rfl⟩:=Int.eq_ofNat_of_zero_le h.1
  obtain⟨a,b,c⟩:=uP n (by omega)
  exact⟨a,b,fun h=>c (by omega)⟩
theorem sG{dir:Int}{b:List Int}(hd:dir=0∨dir=1){k:Nat}{M:aP}{E:Int}(h:io k dir b=(M,E)) : E≠1∧(E=0→M.code=b.getD 0 0∧M.fail=0):=by
  unfold io at h
  split at h
  · exact fP (fun hC h=>qm hC h) hd h
  · exact fP (fun hC h=>tp hC h) hd h
  · exact fP (fun hC h=>sj hC h) hd h
  · exact fP (fun hC h=>pZ hC h) hd h
  · exact fP (fun hC h=>uF hC h) hd h
  · injection h with h1 h2
    subst h1 h2
    exact⟨by decide,fun h=>by cases h⟩
theorem rP{b:List Int}{M:aP}(h:ee b=(M,0)) : M=gv ((b.getD 0 0-128)%256) (b.getD 1 0)∧128≤b.getD 0 0∧dJ ((b.getD 0 0-128)%256)=true∧cF (b.getD 1 0)=true∧b.length=2:=by
  unfold ee at h
  split at h
  · cases h
  split at h
  · cases h
  split at h
  · cases h
  split at h
  · cases h
  split at h
  · cases h
  split at h
  · cases h
  injection h with h1 h2
  simp only[decide_eq_true_eq,Bool.not_eq_true',Bool.not_eq_true,beq_iff_eq,Bool.not_eq_false'] at *
  refine⟨h1.symm,by omega,by simp_all,by simp_all,by omega⟩
end Go.Proofs.YtogbnemojakcpaaGreat
namespace Go.Proofs.YtogbnemojakcpaaGreat
theorem dk{parse:Int→Int→List Int→aP × Int}{lay:Int→aP→List Int}{dir:Int}{M:aP}{l:List Int}(h:bh parse lay dir M=some l) : parse dir M.code l=(M,0)∧l=lay dir M:=by
  unfold bh at h
  split at h
  · rename_i hh
    injection h with h
    subst h
    exact⟨hh,rfl⟩
  · cases h
theorem jL{k:Nat}{dir:Int}{M:aP}{l:List Int}(h:gx k dir M=some l) : k≠0∧io k dir ([M.code]++l)=(M,0):=by
  unfold gx at h
  split at h
  · exact⟨by decide,(dk h).1⟩
  · exact⟨by decide,(dk h).1⟩
  · exact⟨by decide,(dk h).1⟩
  · exact⟨by decide,(dk h).1⟩
  · exact⟨by decide,(dk h).1⟩
  · cases h
theorem tD{M:aP}{l:List Int}(h:jO M=some l) : dJ M.code=true∧cF M.fail=true∧M=gv M.code M.fail∧l=[(M.code+128)%256,M.fail]:=by
  unfold jO at h
  split at h
  · cases h
  split at h
  · cases h
  rename_i h1 h2
  injection h with h
  subst h
  have h3:fj M.code M.fail=true:=by
    cases hp:fj M.code M.fail
    · rw[hp] at h1;exact absurd rfl h1
    · rfl
  have h4:M=gv M.code M.fail:=by
    by_cases hm:M=gv M.code M.fail
    · exact hm
    · rw[decide_eq_false hm] at h2;exact absurd rfl h2
  unfold fj at h3
  obtain⟨h5,h6⟩:=gA h3
  exact⟨(gA h5).2,h6,h4,rfl⟩
theorem gO{dir:Int}{M:aP}{l:List Int}(hc:0≤M.code∧M.code<256)(h:cv dir M=some l) :
    (M.fail≠0∧dir=1∧dJ M.code=true∧cF M.fail=true∧M=gv M.code M.fail∧l=[M.code+128,M.fail]∧M.code<128) ∨
    (M.fail=0∧iV M.code≠0∧M.code<128∧∃ l',gx (iV M.code) dir M=some l'∧l'.length<253∧l=[M.code]++l'):=by
  obtain⟨t1,t2,t3⟩:=tc hc
  unfold cv at h
  split at h
  · rename_i hf
    split at h
    · cases h
    · rename_i hd
      obtain⟨h1,h2,h3,h4⟩:=tD h
      have h5:M.code<128:=by
        by_cases h6:128≤M.code
        · have:=t3 h6
          rw[← t1,h1] at this
          cases this
        · omega
      refine .inl ⟨by simpa using hf,by simpa using hd,h1,h2,h3,?_,h5⟩
      rw[h4]
      congr 1
      omega
  · rename_i hf
    split at h
    · cases h
    · rename_i l' hl
      split at h
      · cases h
      · rename_i hn
        injection h with h
        have hk:=(jL hl).1
        have h5:M.code<128:=by
          by_cases h6:128≤M.code
          · exact absurd (t2 (t3 h6)) hk
          · omega
        simp only[decide_eq_true_eq] at hn
        exact .inr ⟨by simpa using hf,hk,h5,l',hl,by omega,h.symm⟩
theorem uJ{dir:Int}{M:aP}{l:List Int}(hd:dir=0∨dir=1)(hc:0≤M.code∧M.code<256)(hf:0≤M.fail∧M.fail<256)(h:cv dir M=some l) : cH dir l=(M,0):=by
  have hdd:(dir != 0&&dir != 1)=false:=by rcases hd with rfl | rfl<;>rfl
  rcases gO hc h with⟨h1,rfl,h2,h3,h4,rfl,h5⟩|⟨h1,h2,h3,l',h4,h5,rfl⟩
  · have ha:decide (128≤M.code+128)=true:=by simp;omega
    have hb:(M.code+128-128)%256=M.code:=by omega
    have ig:decide (M.code+128<128)=false:=by simp;omega
    unfold cH
    simp only[List.length_cons,List.length_nil,List.getD_cons_zero,ha]
    show ee [M.code+128,M.fail]=(M,0)
    unfold ee
    simp only[List.length_cons,List.length_nil,List.getD_cons_zero,List.getD_cons_succ,hb,ig,h2,h3]
    show(gv M.code M.fail,(0:Int))=(M,0)
    rw[← h4]
  · have ha:(decide (128≤M.code)&&dir==1)=false:=by
      have:decide (128≤M.code)=false:=by simp;omega
      rw[this];rfl
    have hl0:(((([M.code]++l').length:Nat) : Int)==0)=false:=by
      simp only[List.length_append,List.length_cons,List.length_nil,beq_eq_false_iff_ne,ne_eq];omega
    have hl1:decide (253<((([M.code]++l').length:Nat) : Int))=false:=by
      simp only[List.length_append,List.length_cons,List.length_nil,decide_eq_false_iff_not];omega
    have hg:([M.code]++l').getD 0 0=M.code:=rfl
    unfold cH
    rw[hdd,hl0,hl1,hg,ha]
    exact(jL h4).2
theorem pQ{dir:Int}{M:aP}{l:List Int}(hc:0≤M.code∧M.code<256)(h:cv dir M=some l) : 0<l.length:=by
  rcases gO hc h with⟨_,_,_,_,_,rfl,_⟩|⟨_,_,_,l',_,_,rfl⟩<;>simp
theorem wl{dir:Int}{M:aP}{l:List Int}(hc:0≤M.code∧M.code<256)(h:cv dir M=some l) : l.length≤253:=by
  rcases gO hc h with⟨_,_,_,_,_,rfl,_⟩|⟨_,_,_,l',_,h2,rfl⟩
  · simp
  · simp only[List.length_append,List.length_cons,List.length_nil];omega
open Go.RowKit
theorem se{w w':World}(h:aC [] w w') : Below w.heap.size w w':=⟨h.os,h.tape,h.output,h.size,fun k hk=>h.block k hk (by simp)⟩
theorem tE{n:Int}(h:(Lit.int .u8 n).wf=true) : 0≤n∧n<256:=by
  have:=bounds_u8 h
  omega
open Go.RowKit
structure SL where
  aw:Option Addr
  kw:Nat
  ab:Option Addr
  kb:Nat
  ad:Option Addr
  kd:Nat
  ar:Option Addr
  kr:Nat
  ao:Option Addr
  ko:Nat
def pA (M:aP)(x:SL) : Array Value:=mG M.code M.fail M.addr M.count M.value M.and_ M.or_ M.addr2 M.sub M.status M.events M.messages (.slice x.aw M.words.length x.kw) (.slice x.ab M.bits.length x.kb) (.slice x.ad M.data.length x.kd) (.slice x.ar M.recs.length x.kr) M.mei M.kind M.level M.more M.next (.slice x.ao M.objects.length x.ko)
theorem ot{m:Md}{w:World}{cs:Array Value}{M:aP}(h:aH m w cs.toList M) : ∃ x,cs=pA M x:=by
  obtain⟨vw,vb,vd,vr,vo,h0,hw,hb,hd,hr,ho,hR⟩:=h
  obtain⟨aw,kw,rfl,_,_⟩:=hw.shape
  obtain⟨ab,kb,rfl,_,_⟩:=hb.shape
  obtain⟨ad,kd,rfl,_,_⟩:=hd.shape
  obtain⟨ar,kr,rfl,_,_⟩:=hr.shape
  obtain⟨ao,ko,rfl,_,_⟩:=ho.shape
  refine⟨⟨aw,kw,ab,kb,ad,kd,ar,kr,ao,ko⟩,?_⟩
  apply Array.toList_inj.1
  rw[h0]
  rfl
theorem aH.rngs{m:Md}{w:World}{cs:Array Value}{M:aP}(h:aH m w cs.toList M) : (0≤M.code∧M.code<256)∧(0≤M.fail∧M.fail<256):=by
  obtain⟨vw,vb,vd,vr,vo,h0,hw,hb,hd,hr,ho,hR⟩:=h
  exact⟨hR.code,hR.fail⟩
open Go.RowKit
def o7:aP:={ aP.zero with code:=7 }
theorem zE(w:World) : aH true w (mC 7).toList o7:=⟨fZ,fZ,fZ,fZ,fZ,rfl,aL.nil ..,aL.nil ..,aL.nil ..,aL.nil ..,aL.nil ..,{ fb.zero with code:=(by decide:(0:Int)≤7∧(7:Int)<256) }⟩
theorem yh:bS o7:=⟨by decide,by decide,by decide,by decide,(fun r h=>nomatch h),by decide,(fun r h=>nomatch h)⟩
open Go.RowKit
structure fy where
  unit:Int
  tid:Int
  msg:aP
def fy.zero:fy:=⟨0,0,aP.zero⟩
def zY (m:Md)(w:World)(cs:Array Value)(F:fy) : Prop:=∃ c:Array Value,cs = #[.int .u8 F.unit,.int .u16 F.tid]++c∧aH m w c.toList F.msg∧B8 F.unit∧dp F.tid
def qW (res:fy × Int)(w:World)(e:Ending)(w':World) : Prop:=∃ cs,e = .returned (.tuple #[.agg cs,.int .i64 res.2])∧zY true w' cs res.1∧aC [] w w'
theorem eQ{x y:fy × Int}(h:x=y){w:World}{e:Ending}{w':World}(k:qW y w e w') : qW x w e w':=by rw[h];exact k
def AI:Array Value:=#[.int .u8 0,.int .u16 0,.int .u8 0,.int .u8 0,.int .u16 0,.int .u16 0,.int .u16 0,.int .u16 0,.int .u16 0,.int .u16 0,.int .u16 0,.int .u16 0,.int .u16 0,.int .u16 0,.slice none 0 0,.slice none 0 0,.slice none 0 0,.slice none 0 0,.int .u8 0,.int .u8 0,.int .u8 0,.int .u8 0,.int .u8 0,.slice none 0 0]
theorem dI{x:Int}{w W:World}(hu:aC [] w W) : qW (fy.zero,x) w (.returned (.tuple #[.agg AI,.int .i64 x])) W:=⟨_,rfl,⟨mn,(by kernel_rfl),aH.zero ..,(show(0:Int)≤0∧(0:Int)<256 from by decide),(show(0:Int)≤0∧(0:Int)<65536 from by decide)⟩,hu⟩
def eu (u t:Int) : aP × Int→fy × Int
  | (M,E)=>if E != 0 then (fy.zero,E) else (⟨u,t,M⟩,0)
theorem pN{dir:Int}{M:aP}{l:List Int}(h:cv dir M=some l) : l.length≤253:=by
  unfold cv at h
  split at h
  · split at h
    · cases h
    · unfold jO at h
      split at h
      · cases h
      · split at h
        · cases h
        · injection h with h
          subst h
          simp only[List.length_cons,List.length_nil]
          omega
  · split at h
    · cases h
    · split at h
      · cases h
      · rename_i hl
        injection h with h
        subst h
        simp only[decide_eq_true_eq] at hl
        simp only[List.length_append,List.length_cons,List.length_nil]
        omega
open Go.RowKit
deriving instance DecidableEq for fy
def rJ (u t:Int)(M:aP)(x:SL) : Array Value:=#[.int .u8 u,.int .u16 t,.int .u8 M.code,.int .u8 M.fail,.int .u16 M.addr,.int .u16 M.count,.int .u16 M.value,.int .u16 M.and_,.int .u16 M.or_,.int .u16 M.addr2,.int .u16 M.sub,.int .u16 M.status,.int .u16 M.events,.int .u16 M.messages,.slice x.aw M.words.length x.kw,.slice x.ab M.bits.length x.kb,.slice x.ad M.data.length x.kd,.slice x.ar M.recs.length x.kr,.int .u8 M.mei,.int .u8 M.kind,.int .u8 M.level,.int .u8 M.more,.int .u8 M.next,.slice x.ao M.objects.length x.ko]
theorem l7(u t:Int)(M:aP)(x:SL) : rJ u t M x = #[.int .u8 u,.int .u16 t]++pA M x:=by kernel_rfl
end Go.Proofs.YtogbnemojakcpaaGreat
namespace Go.Proofs.YtogbnemojakcpaaGreat
def fz (b:List Int) : Nat→Int
  | 0=>0
  | k+1=>(fz b k+b.getD k 0)%256
def p6 (b:List Int) : Int:=fz b b.length
def cg (b:List Int) : Int:=(0-p6 b)%256
def dS (b:List Int) : Bool:=decide (0<((b.length:Nat) : Int))&&(cg b==0)
theorem oQ(b:List Int) : ∀ k,0≤fz b k∧fz b k<256
  | 0=>by unfold fz;omega
  | k+1=>by unfold fz;omega
def da (n:Int) : Int:=if n<10 then 48+n else 55+n
def bV (c:Int) : Int:=if 48≤c∧c≤57 then c-48 else if 65≤c∧c≤70 then c-55 else -1
def cY:List Int→List Int
  | []=>[]
  | c :: b=>da (c/16) :: da (c%16) :: cY b
def bT:List Int→Option (List Int)
  | []=>some []
  | [_]=>none
  | a :: b :: r=>if bV a<0∨bV b<0 then none else (bT r).map fun l=>(16*bV a+bV b)%256 :: l
theorem gI{n:Int}(h:0≤n∧n<16) : 48≤da n∧da n≤70:=by unfold da;split<;>omega
theorem jZ{n:Int}(h:0≤n∧n<16) : bV (da n)=n:=by
  unfold da
  split<;>unfold bV
  · rw[if_pos (by omega)];omega
  · rw[if_neg (by omega),if_pos (by omega)];omega
theorem ke{c:Int}(h:0≤bV c) : da (bV c)=c∧bV c<16:=by
  unfold bV at h ⊢
  split at h
  · rename_i h1
    rw[if_pos h1]
    unfold da
    rw[if_pos (by omega)]
    omega
  · rename_i h1
    split at h
    · rename_i h2
      rw[if_neg h1,if_pos h2]
      unfold da
      rw[if_neg (by omega)]
      omega
    · omega
theorem jr(c:Int) : bV c<16∧-1≤bV c:=by unfold bV;split;omega;split<;>omega
theorem dy:∀ b:List Int,(cY b).length=2*b.length
  | []=>rfl
  | c :: b=>by simp only[cY,List.length_cons,dy b];omega
theorem pF:∀ a b:List Int,cY (a++b)=cY a++cY b
  | [],b=>rfl
  | c :: a,b=>by simp only[List.cons_append,cY,pF a b]
theorem mX:∀ b:List Int,(∀ x,x∈b→0≤x∧x<256)→bT (cY b)=some b
  | [],_=>rfl
  | c :: b,h=>by
    have hc:=h c (List.mem_cons_self ..)
    have h1:=jZ (n:=c/16) (by omega)
    have h2:=jZ (n:=c%16) (by omega)
    simp only[cY,bT]
    rw[h1,h2,if_neg (by omega),mX b fun x hx=>h x (List.mem_cons_of_mem _ hx),show(16*(c/16)+c%16)%256=c from by omega]
    rfl
theorem iX:∀ {s x:List Int},bT s=some x→s=cY x∧∀ y,y∈x→0≤y∧y<256
  | [],x,h=>by
    injection h with h
    subst h
    exact⟨rfl,fun y hy=>by cases hy⟩
  | [_],x,h=>by cases h
  | a :: b :: r,x,h=>by
    simp only[bT] at h
    split at h
    · cases h
    · rename_i hd
      cases hr:bT r with
      | none=>rw[hr] at h;cases h
      | some l =>
        rw[hr] at h
        injection h with h
        obtain⟨h1,h2⟩:=iX hr
        have ha:=ke (c:=a) (by omega)
        have hb:=ke (c:=b) (by omega)
        subst h
        refine⟨?_,fun y hy=>?_⟩
        · simp only[cY]
          rw[show(16*bV a+bV b)%256/16=bV a from by omega,show(16*bV a+bV b)%256%16=bV b from by omega,ha.1,hb.1,← h1]
        · rcases List.mem_cons.1 hy with rfl | hy
          · omega
          · exact h2 y hy
theorem rf{xs:List Int}{k:Nat}(h:2*k+1<xs.length)(ha:¬ bV (xs.getD (2*k) 0)<0)(hb:¬ bV (xs.getD (2*k+1) 0)<0) : bT (xs.drop (2*k))=(bT (xs.drop (2*(k+1)))).map fun l=>[(16*bV (xs.getD (2*k) 0)+bV (xs.getD (2*k+1) 0))%256]++l:=by
  have e1:xs.getD (2*k) 0=xs[2*k]:=by rw[List.getD_eq_getElem?_getD,List.getElem?_eq_getElem (by omega)];rfl
  have e2:xs.getD (2*k+1) 0=xs[2*k+1]:=by rw[List.getD_eq_getElem?_getD,List.getElem?_eq_getElem h];rfl
  rw[List.drop_eq_getElem_cons (show 2*k<xs.length by omega),List.drop_eq_getElem_cons h,← e1,← e2]
  simp only[bT]
  rw[if_neg (by omega),show 2*k+1+1=2*(k+1) by omega]
  rfl
theorem s4{xs:List Int}{k:Nat}(h:2*k+1<xs.length)(hd:bV (xs.getD (2*k) 0)<0∨bV (xs.getD (2*k+1) 0)<0) : bT (xs.drop (2*k))=none:=by
  have e1:xs.getD (2*k) 0=xs[2*k]:=by rw[List.getD_eq_getElem?_getD,List.getElem?_eq_getElem (by omega)];rfl
  have e2:xs.getD (2*k+1) 0=xs[2*k+1]:=by rw[List.getD_eq_getElem?_getD,List.getElem?_eq_getElem h];rfl
  rw[List.drop_eq_getElem_cons (show 2*k<xs.length by omega),List.drop_eq_getElem_cons h,← e1,← e2]
  simp only[bT]
  rw[if_pos hd]
theorem jY:∀ {xs:List Int},xs.length%2≠0→bT xs=none
  | [],h=>by simp at h
  | [_],_=>rfl
  | a :: b :: r,h=>by
    simp only[bT]
    split
    · rfl
    · rw[jY (by simp only[List.length_cons] at h;omega)]
      rfl
theorem jT{s x:List Int}(h:bT s=some x) : s.length=2*x.length:=by
  obtain⟨h1,_⟩:=iX h
  rw[h1,dy]
theorem mY{xs L:List Int}{k:Nat}(h:bT xs=(bT (xs.drop (2*k))).map fun l=>L++l)(h1:¬ 2*k<xs.length) : bT xs=some L:=by
  rw[List.drop_eq_nil_of_le (by omega)] at h
  rw[h]
  simp[bT]
theorem lC{xs L:List Int}{k:Nat}(h:bT xs=(bT (xs.drop (2*k))).map fun l=>L++l)(h2:2*k+1<xs.length)(ha:¬ bV (xs.getD (2*k) 0)<0)(hb:¬ bV (xs.getD (2*k+1) 0)<0) : bT xs=(bT (xs.drop (2*(k+1)))).map fun l=>(L++[(16*bV (xs.getD (2*k) 0)+bV (xs.getD (2*k+1) 0))%256])++l:=by
  rw[h,rf h2 ha hb]
  cases bT (xs.drop (2*(k+1))) with
  | none=>rfl
  | some l=>simp
theorem pf{xs L:List Int}{k:Nat}(h:bT xs=(bT (xs.drop (2*k))).map fun l=>L++l)(h2:2*k+1<xs.length)(hd:bV (xs.getD (2*k) 0)<0∨bV (xs.getD (2*k+1) 0)<0) : bT xs=none:=by
  rw[h,s4 h2 hd]
  rfl
theorem nC(b:List Int)(k:Nat)(h:k<b.length) : cY (b.take (k+1))=(cY (b.take k)++[da (b.getD k 0/16)])++[da (b.getD k 0%16)]:=by
  rw[List.take_succ_eq_append_getElem h,pF,List.getD_eq_getElem?_getD,List.getElem?_eq_getElem h]
  simp[cY]
open Go.RowKit
abbrev dc (xs:List Int) : Prop:=∀ x,x∈xs→0≤x∧x<256
theorem nN{x:Int}(h:0≤x∧x<256) : ((UInt8.ofNat x.toNat).toNat:Int)=x:=by
  simp only[UInt8.toNat_ofNat']
  omega
theorem iR{xs:List Int}{j:Nat}(hj:j<xs.length)(hs:j<(strOfNums xs).size) : (strOfNums xs)[j]=UInt8.ofNat (xs.getD j 0).toNat:=by
  show(strOfNums xs).data[j]=_
  simp[strOfNums,List.getD_eq_getElem?_getD,List.getElem?_eq_getElem hj]
theorem jf{P:Program}{w:World}{ev:Operand→Value}{o:Oper}{x ix:Operand}{t:TypeId}{xs:List Int}{k:IntKind}{i:Int}(j:Nat)(ho:o.op = .index t x ix)(ht:P.underlying t=some .string)(hx:ev x = .string (strOfNums xs))(hi:ev ix = .int k i)(hr:dc xs)(hj:i=(j:Int))(hlt:j<xs.length) : (execOp ev o).run P w = .ok (.value (.int .u8 (xs.getD j 0))) w:=by
  subst hj
  have hs:j<(strOfNums xs).size:=by rw[strOfNums_size];exact hlt
  have h:=run_index_string (P:=P) w t (strOfNums xs) k (j:Int) ht
  rw[dif_pos (by omega)] at h
  have hg:xs.getD j 0∈xs:=by
    rw[List.getD_eq_getElem?_getD,List.getElem?_eq_getElem hlt]
    exact List.getElem_mem hlt
  unfold execOp
  simp only[ho,hx,hi,Sem.run_bind,h,Result.andThen,Sem.run_pure]
  have e:((strOfNums xs)[((j:Nat) : Int).toNat]'(by simpa using hs))=UInt8.ofNat (xs.getD j 0).toNat:=by
    simp only[Int.toNat_natCast]
    exact iR hlt hs
  rw[e,nN (hr _ hg)]
theorem gn(xs:List Int)(a b:Nat)(hb:b≤xs.length) : (strOfNums xs).extract a b=strOfNums ((xs.take b).drop a):=by
  apply ByteArray.ext
  rw[ByteArray.data_extract]
  apply Array.toList_inj.1
  rw[Array.toList_extract]
  simp[strOfNums,List.extract,List.map_drop,List.map_take,List.drop_take]
theorem mQ{P:Program}{w:World}{ev:Operand→Value}{o:Oper}{x y:Operand}{t:TypeId}{xs:List Int}{k:IntKind}{i:Int}(j:Nat)(ho:o.op = .slice t x (some y) none none)(ht:P.underlying t=some .string)(hx:ev x = .string (strOfNums xs))(hy:ev y = .int k i)(hj:i=(j:Int))(hlt:j≤xs.length) : (execOp ev o).run P w = .ok (.value (.string (strOfNums (xs.drop j)))) w:=by
  subst hj
  have hu:(underlying t).run P w = .ok .string w:=run_underlying ht w
  have h:=run_slice_string_l (P:=P) w t (strOfNums xs) ht k (j:Int) (by omega) (by rw[strOfNums_size];omega)
  rw[strOfNums_size,gn _ _ _ (Nat.le_refl _),List.take_length,Int.toNat_natCast] at h
  unfold execOp
  simp only[ho,Option.map_some,Option.map_none,hx,hy,Instr.sliceAt,Sem.run_bind,hu,h,Result.andThen,Sem.run_pure]
theorem tH{P:Program}{w:World}{ev:Operand→Value}{o:Oper}{x y:Operand}{t:TypeId}{xs:List Int}{k:IntKind}{i:Int}(j:Nat)(ho:o.op = .slice t x none (some y) none)(ht:P.underlying t=some .string)(hx:ev x = .string (strOfNums xs))(hy:ev y = .int k i)(hj:i=(j:Int))(hlt:j≤xs.length) : (execOp ev o).run P w = .ok (.value (.string (strOfNums (xs.take j)))) w:=by
  subst hj
  have hu:(underlying t).run P w = .ok .string w:=run_underlying ht w
  have h:=run_slice_string_h (P:=P) w t (strOfNums xs) ht k (j:Int) (by omega) (by rw[strOfNums_size];omega)
  rw[Int.toNat_natCast,gn _ _ _ hlt,List.drop_zero] at h
  unfold execOp
  simp only[ho,Option.map_some,Option.map_none,hx,hy,Instr.sliceAt,Sem.run_bind,hu,h,Result.andThen,Sem.run_pure]
theorem mj(xs ys:List Int) : strOfNums xs++strOfNums ys=strOfNums (xs++ys):=by
  apply ByteArray.ext
  simp[strOfNums,ByteArray.data_append]
theorem iu{P:Program}{w:World}{ev:Operand→Value}{o:Oper}{x y:Operand}{t t':TypeId}{a b:ByteArray}{xs ys:List Int}(ho:o.op = .binOp .add t x y t')(hx:ev x = .string a)(hy:ev y = .string b)(ha:a=strOfNums xs)(hb:b=strOfNums ys)(hl:xs.length+ys.length≤1048576) : (execOp ev o).run P w = .ok (.value (.string (strOfNums (xs++ys)))) w:=by
  subst ha hb
  have hg:eqGuard .add t x y (.string (strOfNums xs)) (.string (strOfNums ys))=pure ():=rfl
  unfold execOp
  simp only[ho,hx,hy,hg,Sem.run_bind,Sem.run_pure,Result.andThen]
  have h:(binOp .add t (.string (strOfNums xs)) (.string (strOfNums ys))).run P w = .ok (.string (strOfNums (xs++ys))) w:=by
    show(Op.stringOp .add _ _).run P w=_
    unfold Op.stringOp
    rw[← mj]
    have:¬ ((((strOfNums xs).size+(strOfNums ys).size:Nat) : Int) > IntKind.i64.max):=by
      rw[strOfNums_size,strOfNums_size]
      show ¬ (((xs.length+ys.length:Nat) : Int) > 9223372036854775807)
      omega
    dsimp only
    rw[if_neg this]
    rfl
  rw[h]
theorem fT{xs ys:List Int}(h:dc xs)(k:dc ys) : dc (xs++ys):=fun x hx=>by
  rcases List.mem_append.1 hx with h1|h1
  · exact h x h1
  · exact k x h1
theorem kg{xs:List Int}(h:dc xs)(j:Nat) : dc (xs.drop j):=fun x hx=>h x (List.mem_of_mem_drop hx)
theorem mS{xs:List Int}(h:dc xs)(j:Nat) : dc (xs.take j):=fun x hx=>h x (List.mem_of_mem_take hx)
theorem wm{xs ys:List Int}(hx:dc xs)(hy:dc ys) : ((strOfNums xs).toList==(strOfNums ys).toList)=decide (xs=ys):=by
  have e:∀ zs:List Int,(strOfNums zs).toList=zs.map fun n=>UInt8.ofNat n.toNat:=fun zs=>by
    rw[ByteArray.toList_eq]
    rfl
  rw[e,e]
  by_cases h:xs=ys
  · subst h;simp
  · rw[decide_eq_false h,beq_eq_false_iff_ne]
    exact fun k=>h (jW xs ys hx hy k)
def fW (base:Nat)(w:World)(v:Value)(xs:List Int) : Prop:=∃ g cap cur n,v = .slice (some ⟨g,0,none⟩) xs.length cap∧base≤g∧w.heap[g]? = some (.cells cur 5 (n,n+1))∧xs.length≤n∧xs.length≤cap∧cap≤maxLen∧cur.toList.take xs.length=xs.map (Value.int .u8)∧dc xs
theorem fW.rd{base:Nat}{w:World}{v:Value}{xs:List Int}(h:fW base w v xs) : b9 true w v xs:=by
  obtain⟨g,cap,cur,n,rfl,hb,hh,h1,h2,h3,h4,h5⟩:=h
  refine⟨_,_,rfl,h2,h3,(fun hA=>by cases hA),fun hp=>⟨g,0,cur,_,_,rfl,hh,(fun _=>⟨rfl,Nat.zero_le _⟩),fun j x hj=>?_⟩⟩
  refine⟨[.int .u8 x],rfl,⟨rfl,h5 x (List.mem_of_getElem? hj)⟩,fun i u hi=>?_⟩
  cases i with
  | succ i=>simp at hi
  | zero =>
    have hi:Value.int .u8 x=u:=by simpa using hi
    subst hi
    have h6:(xs.map (Value.int .u8))[j]? = some (.int .u8 x):=by rw[List.getElem?_map,hj];rfl
    rw[← h4,List.getElem?_take] at h6
    split at h6
    · simpa using h6
    · cases h6
theorem fW.shape{base:Nat}{w:World}{v:Value}{xs:List Int}(h:fW base w v xs) : ∃ g cp,v = .slice (some ⟨g,0,none⟩) xs.length cp:=by
  obtain⟨g,cap,cur,n,hv,_⟩:=h
  exact⟨g,cap,hv⟩
theorem pv{P:Program}{w:World}{src dst e:TypeId}{xs:List Int}(hs:P.underlying src=some .string)(hd:P.underlying dst=some (.slice e))(he:P.underlying e=some (.int .u8))(hte:e=5)(hr:dc xs)(hl:xs.length≤1048576) :
    ∃ cp w',(convert src dst (.string (strOfNums xs))).run P w = .ok (.slice (some ⟨w.heap.size,0,none⟩) xs.length cp) w'∧fW w.heap.size w' (.slice (some ⟨w.heap.size,0,none⟩) xs.length cp) xs∧aC [] w w':=by
  subst hte
  have h:=Lib.run_convert_string_bytes (P:=P) w src dst _ (strOfNums xs) hs hd he
  rw[strOfNums_size] at h
  refine⟨_,_,h,⟨_,_,_,_,rfl,Nat.le_refl _,Lib.bytesWorld_at_new w _ (strOfNums xs),?_,?_,?_,?_,hr⟩,?_⟩
  · simp[Lib.bytesCells,strOfNums]
  · exact grownCap_ge ..
  · exact grownCap_le_maxLen _ _ _ _ (by unfold maxLen;omega)
  · simp only[Lib.bytesCells]
    rw[Array.toList_append,List.take_append_of_le_length (by simp[strOfNums])]
    rw[List.take_of_length_le (by simp[strOfNums])]
    simp only[strOfNums,Array.toList_map,List.map_map]
    apply List.map_congr_left
    intro x hx
    show Value.int .u8 _=_
    rw[nN (hr x hx)]
  · exact⟨rfl,rfl,rfl,by rw[Lib.bytesWorld_size];omega,fun k hk _=>Lib.bytesWorld_at_old w _ _ k hk⟩
section
variable {P:Program}{n:Nat}{D:List Deferred}{F:Fr}{w:World}{K:Fr→World→Prop}{Q:Exit→Act→World→Prop}{d:Option Tmp}{t:TypeId}{s:String}{af:Array Edge}{gu:Option (Nat × Bool)}
theorem nZ{a:Act}{o:Oper}{N:Option Tmp}{K:Act→World→Prop}{w1:World}(v:Value)(hN:o.dst=N)(hr:(execOp a.eval o).run P w = .ok (.value v) w1)(h:K (a.put N v) w1) : OW P o a w K Q:=by
  refine OW.mk ?_
  subst hN
  unfold Oper.wp
  rw[hr]
  exact h
theorem Bd{src dst:TypeId}{x:Operand}{xs:List Int}(hs:P.underlying src=some .string)(hd:P.underlying dst=some (.slice 5))(he:P.underlying 5=some (.int .u8))(hr:dc xs)(hl:xs.length≤1048576)
    (h:∀ A cp w',fW w.heap.size w' (.slice A xs.length cp) xs→aC [] w w'→K (pt d (.slice A xs.length cp) F) w') (hx:fq F x=some (.string (strOfNums xs)):=by kernel_rfl) (hk:gC n d=true:=by kernel_rfl) : OG P ⟨d,.convert src dst x,t,s,af,gu⟩ n D F w K Q:=by
  obtain⟨cp,w',h1,h2,h3⟩:=pv (P:=P) (w:=w) hs hd he rfl hr hl
  refine⟨fun a ha K' hK=>nZ _ rfl (w1:=w') ?_ (hK _ _ _ (h _ _ _ h2 h3) (ha.put hk))⟩
  have hx':=ha.ev hx
  unfold execOp
  simp only[hx',Sem.run_bind,h1,Result.andThen,Sem.run_pure]
theorem AX{ty:TypeId}{x:Operand}{sv:ByteArray}(hs:P.underlying ty=some .string)(h:∀ g w',w.heap.size≤g→w'.heap[g]? = some (.stringIter sv 0)→aC [] w w'→K (pt d (.pointer (some ⟨g,0,none⟩)) F) w')
    (hx:fq F x=some (.string sv):=by kernel_rfl) (hk:gC n d=true:=by kernel_rfl) : OG P ⟨d,.range ty x,t,s,af,gu⟩ n D F w K Q:=by
  refine⟨fun a ha K' hK=>nZ (.pointer (some ⟨w.heap.size,0,none⟩)) rfl (w1:=w.alloc (.stringIter sv 0)) ?_ (hK _ _ _ (h _ _ (Nat.le_refl _) (ep _ _) ((aC.refl _ _).alloc _)) (ha.put hk))⟩
  have hx':=ha.ev hx
  unfold execOp
  simp only[hx',Sem.run_bind,run_range_string w ty sv hs,Result.andThen,Sem.run_pure]
  rfl
theorem ti{xs:List Int}(hr:dc xs)(h0:0<xs.length) : ((((Utf8.decode (strOfNums xs) 0).1:Nat) : Int)=58↔xs.getD 0 0=58):=by
  have hs:0<(strOfNums xs).size:=by rw[strOfNums_size];exact h0
  have hm:xs.getD 0 0∈xs:=by
    rw[List.getD_eq_getElem?_getD,List.getElem?_eq_getElem h0]
    exact List.getElem_mem h0
  have hb:=hr _ hm
  have h1:((strOfNums xs).get! 0).toNat=(xs.getD 0 0).toNat:=by
    have e:(strOfNums xs).get! 0=(strOfNums xs)[0]:=by
      show(strOfNums xs).data[0]! = _
      rw[getElem!_pos (strOfNums xs).data 0 hs]
      rfl
    rw[e,iR h0 hs]
    simp only[UInt8.toNat_ofNat']
    omega
  unfold Utf8.decode
  simp only[Nat.zero_add,h1,Utf8.runeError]
  split
  · omega
  · split
    · split
      · rename_i h2 h3 h4;simp only;omega
      · simp only;omega
    · split
      · split
        · rename_i h2 h3 h4 h5;simp only[Bool.and_eq_true,decide_eq_true_eq] at h5;simp only;omega
        · simp only;omega
      · split
        · split
          · rename_i h2 h3 h4 h5 h6;simp only[Bool.and_eq_true,decide_eq_true_eq] at h6;simp only;omega
          · simp only;omega
        · simp only;omega
theorem Bs{x:Operand}{xs:List Int}{r:Nat}(hr:dc xs)(h0:0<xs.length)(B:w.heap[r]? = some (.stringIter (strOfNums xs) 0))(h:∀ c w',(c=58↔xs.getD 0 0=58)→aC [r] w w'→K (pt d (.tuple #[.bool true,.int .i64 0,.int .i32 c]) F) w')
    (hx:fq F x=some (.pointer (some ⟨r,0,none⟩)):=by kernel_rfl) (hk:gC n d=true:=by kernel_rfl) : OG P ⟨d,.next x true,t,s,af,gu⟩ n D F w K Q:=by
  have hlt:=am B
  have hrun:=Lib.run_next_any_at (P:=P) w r (strOfNums xs) 0 t B (by rw[strOfNums_size];exact h0)
  refine⟨fun a ha K' hK=>nZ _ rfl (w1:=w.iterAt r (strOfNums xs) (0+(Utf8.decode (strOfNums xs) 0).2)) ?_ (hK _ _ _ (h (((Utf8.decode (strOfNums xs) 0).1:Nat) : Int) _ (ti hr h0) ?_) (ha.put hk))⟩
  · have hx':=ha.ev hx
    unfold execOp
    simp only[hx',Sem.run_bind,hrun,Result.andThen,Sem.run_pure]
    rfl
  · refine⟨rfl,rfl,rfl,?_,fun k hk hn=>?_⟩
    · simp[World.iterAt]
    · have:r≠k:=fun e=>hn (by simp[e])
      simp[World.iterAt,Array.getElem?_setIfInBounds,this]
end
end Go.Proofs.YtogbnemojakcpaaGreat
namespace Go.Proofs.YtogbnemojakcpaaGreat
open Go.RowKit
def Ak (P:Program)(ty:TypeId) : Option (Nat × TypeId):=match P.underlying ty with | some (.array m e)=>some (m,e) | _=>none
theorem vv{P:Program}{ty e:TypeId}{m:Nat}(h:Ak P ty=some (m,e)) : P.underlying ty=some (.array m e):=by
  unfold Ak at h
  split at h
  · injection h with h
    injection h with h1 h2
    subst h1 h2
    assumption
  · cases h
theorem s8{P:Program}{w:World}{ev:Operand→Value}{o:Oper}{t e:TypeId}{x ix:Operand}{b off j m:Nat}{k:IntKind}{i:Int}(ho:o.op = .indexAddr t x ix)(ht:P.underlying t=some (.array m e))(hi:(P.info? e).map (·.size)=some 1)
    (hx:ev x = .pointer (some ⟨b,off,none⟩)) (hix:ev ix = .int k i) (hj:i=j) (hlt:j<m) : (execOp ev o).run P w = .ok (.value (.pointer (some ⟨b,off+j,none⟩))) w:=by
  subst hj
  obtain⟨i0,hi0,hs⟩:=Option.map_eq_some_iff.1 hi
  unfold execOp
  have h2:(0:Int)≤(j:Int)∧(j:Int)<(m:Int):=by omega
  simp[ho,hx,hix,Instr.indexAt,Instr.sureAddr,asIntOf,run_underlying ht,Result.andThen,h2,sizeOf,typeInfo,hi0,hs,iZ,hlt]
section
variable {P:Program}{n:Nat}{D:List Deferred}{F:Fr}{w:World}{K:Fr→World→Prop}{Q:Exit→Act→World→Prop}{d:Option Tmp}{t:TypeId}{s:String}{af:Array Edge}{gu:Option (Nat × Bool)}
theorem Bl{ty:TypeId}{x ix:Operand}{b off:Nat}(m j:Nat)(i:Int)(hj:i=j)(hlt:j<m)(h:K (pt d (.pointer (some ⟨b,off+j,none⟩)) F) w)
    (hx:fq F x=some (.pointer (some ⟨b,off,none⟩)):=by kernel_rfl) (hi:xn F ix=some i:=by kernel_rfl) (hs:((Ak P ty).bind fun p=>(P.info? p.2).map fun q=>(p.1,q.size),gC n d)=(some (m,1),true):=by kernel_rfl) : OG P ⟨d,.indexAddr ty x ix,t,s,af,gu⟩ n D F w K Q:=by
  simp only[Prod.mk.injEq] at hs
  obtain⟨hs,hd⟩:=hs
  obtain⟨k,hi⟩:=lP hi
  cases he:Ak P ty with
  | none=>rw[he] at hs;simp at hs
  | some p =>
    obtain⟨m',e⟩:=p
    rw[he] at hs
    obtain⟨q,hq,h3⟩:=Option.map_eq_some_iff.1 (show(P.info? e).map (fun q=>(m',q.size))=some (m,1) from hs)
    injection h3 with h4 h5
    subst h4
    exact⟨fun a ha K' hK=>gX _ rfl (s8 rfl (vv he) (by rw[hq];simp[h5]) (ha.ev hx) (ha.ev hi) hj hlt) (hK _ _ _ h (ha.put hd))⟩
end
open Go.RowKit
theorem xi{w:World}{g:Nat}{c s:Int}(hg:w.heap[g]? = some (.cells #[.int .u8 s] 5 (0,0))) : Calls Tryz.prog 191 #[.int .u8 c,.pointer (some ⟨g,0,none⟩)] w (fun e w'=>e = .returned (.tuple #[])∧w'.heap[g]? = some (.cells #[.int .u8 ((s+c)%256)] 5 (0,0))∧aC [g] w w'):=by
 refine en 6 Tryz.func191 rfl<|go<|L0<|aO hg 0<|Pl 2<|L0<|bX hg 0 #[.int .u8 ((s+c)%256)] fun d a b=>nl<|rm (.tuple #[])<|?_
 exact⟨rfl,a,b⟩
theorem sO{m:Md}{A:Option Addr}{cp:Nat}{b:List Int}{w0 w:World}{g:Nat}(hu0:aC [] w0 w)(hg0:w0.heap.size≤g)(hsl:b9 m w0 (.slice A b.length cp) b)(hg:w.heap[g]? = some (.cells #[.int .u8 (fz b 0)] 5 (0,0))) :
    Calls Tryz.prog 190 #[.slice A b.length cp,.func (.func 191) #[] #[.pointer (some ⟨g,0,none⟩)]] w (fun e w'=>e = .returned (.tuple #[])∧w'.heap[g]? = some (.cells #[.int .u8 (p6 b)] 5 (0,0))∧aC [] w0 w'∧w.heap.size≤w'.heap.size):=by
 have hln:=aL.len hsl
 refine en 16 Tryz.func190 rfl<|sg<|Pl 3<|nt<|bk<|?_
 refine iN (fun x=>[(1,.func (.func 191) #[] #[.pointer (some ⟨g,0,none⟩)]),(6,.slice A b.length cp),(7,.int .i64 ((b.length:Nat) : Int)),(8,.int .i64 ((x:Nat) : Int))]) (fun(x:Nat) w'=>aC [] w0 w'∧w.heap.size≤w'.heap.size∧w'.heap[g]? = some (.cells #[.int .u8 (fz b x)] 5 (0,0))∧(x≤b.length)) (fun x=>b.length-x) 0 ⟨hu0,lr,hg,(by(try dsimp only);omega)⟩ ?_
 rintro k j ⟨a,f,l,n⟩
 refine iy [(1,.func (.func 191) #[] #[.pointer (some ⟨g,0,none⟩)]),(6,.slice A b.length cp),(7,.int .i64 ((b.length:Nat) : Int)),(8,.int .i64 ((k:Nat) : Int))] ?_
 have h:j.heap[g]? = some (.cells #[.int .u8 (fz b k)] 5 (0,0)):=l
 have y:k≤b.length:=n
 refine sg<|Pl 1<|nt<|sq<|cb ((decide (((k:Nat) : Int)<((b.length:Nat) : Int)))) (fun d=>?_) (fun d=>?_)
 have o:=of_decide_eq_true d
 refine bf<|sq<|bk<|sg<|?_
 refine gh (b9.at_ (b9.old hsl a) k (by omega)) fun q r s t z=>L0<|m8 b.length k s (by omega)<|L0<|ei (p:=⟨q,r+k,none⟩) (v:=.int .u8 (b.getD k 0)) t<|Pl 1<|nt<|go<|Pl 2<|L0<|i2 #[] #[.pointer (some ⟨g,0,none⟩)] (args:=#[.int .u8 (b.getD k 0),.pointer (some ⟨g,0,none⟩)])<|m2 (xi (c:=(b.getD k 0)) h) fun B u i=>nl<|bn<|tn<|go<|L0<|Oi (((k:Nat) : Int)+1)<|?_
 refine Pl 1<|nl<|?_
 exact gB (k+1) ⟨(ud a i hg0),(le f i.size),u,(by(try dsimp only);omega)⟩ (by omega)
 have o:=of_decide_eq_false d
 refine xt<|tx<|tx<|bx<|rm (.tuple #[])<|?_
 have hk:k=b.length:=by omega
 subst hk
 exact⟨rfl,h,a,f⟩
theorem qU{m:Md}{A:Option Addr}{cp:Nat}{b:List Int}{w:World}(hsl:b9 m w (.slice A b.length cp) b) :
    Calls Tryz.prog 128 #[.slice A b.length cp] w (cG (.int .u8 (cg b)) w):=by
 refine en 9 Tryz.func128 rfl<|sg<|Pl 1<|ng<|L0<|bH #[.int .u8 0] fun h i a c d=>L0<|bX c 0 #[.int .u8 0] fun j dp e=>ng<|?_
 refine Pl 2<|?_
 refine L0<|Oc<|m3 (sO (ud d e a) a hsl dp) fun k f g l=>ng<|L0<|aO f 0<|Pl 2<|nt<|rt<|rr (.int .u8 ((0-(p6 b))%256))<|?_
 exact⟨rfl,g⟩
theorem n8{m:Md}{v:Value}{b:List Int}{w:World}(h:b9 m w v b) : Calls Tryz.prog 128 #[v] w (cG (.int .u8 (cg b)) w):=by
  obtain⟨A,cp,rfl,_,_⟩:=h.shape
  exact qU h
theorem qi{m:Md}{A:Option Addr}{cp:Nat}{b:List Int}{w:World}(hsl:b9 m w (.slice A b.length cp) b) :
    Calls Tryz.prog 124 #[.slice A b.length cp] w (cG (.bool (dS b)) w):=by
 refine en 11 Tryz.func124 rfl<|sg<|Pl 1<|ng<|Pl 4<|bl 6 ((decide (0<((b.length:Nat) : Int)))) (fun a=>?_) (fun a=>?_)
 have c:=of_decide_eq_true a
 refine Pl 1<|L1<|Oc (args:=#[.slice A b.length cp])<|m1 (n8 hsl) fun e d=>Pl 3<|nt<|rt<|rr (.bool ((cg b)==0))<|?_
 have hs:dS b=((cg b)==0):=by unfold dS;(try simp only[a,bs,if_true,if_false,decide_true,decide_false]);all_goals rfl
 rw[hs]
 exact⟨rfl,d⟩
 have c:=of_decide_eq_false a
 refine Pl 5<|nt<|rt<|rr (.bool false)<|?_
 have hs:dS b=false:=by unfold dS;(try simp only[a,bs,if_true,if_false,decide_true,decide_false]);all_goals rfl
 rw[hs]
 exact⟨rfl,(aC.refl [] _)⟩
theorem sA{m:Md}{v:Value}{b:List Int}{w:World}(h:b9 m w v b) : Calls Tryz.prog 124 #[v] w (cG (.bool (dS b)) w):=by
  obtain⟨A,cp,rfl,_,_⟩:=h.shape
  exact qi h
open Go.RowKit
theorem pI:∃ j,Tryz.prog.info? 182=some j∧j.size=2:=Option.map_eq_some_iff.1 (show(Tryz.prog.info? 182).map (·.size)=some 2 by kernel_rfl)
theorem nI(b:Nat)(w:World)(h0:w.cell? ⟨b,0,none⟩=some (.pointer none))(hsh:w.shape? b=some (182,2))(hfz:w.frozen? ⟨b,0,none⟩=false) :
    Calls Tryz.prog 230 #[.pointer (some ⟨b,0,none⟩)] w fun e w'=>e = .returned (.tuple #[])∧w'=w.setCell ⟨b,0,none⟩ (.pointer (some ⟨b,0,none⟩)):=by
  obtain⟨j,hj,hjs⟩:=pI
  go_enter Tryz.func230,Tryz.ntmps230
  go_wp2
  rw[Lib.run_to_unsafe w ⟨b,0,none⟩ Tryz.underlying180 Tryz.underlying243 hj (by rw[hjs];decide) hsh (Nat.zero_lt_succ 1)]
  simp only[Result.andThen]
  rw[Oper.upon_value]
  go_wp2
  rw[run_callFunc_extern Tryz.func261 (by kernel_rfl) (by kernel_rfl) (by kernel_rfl) (e:=Extern.AbiNoEscape.same) (by kernel_rfl)]
  rw[Lib.run_noEscape]
  simp only[Result.andThen]
  rw[Oper.upon_value]
  go_wp2
  rw[Lib.run_from_unsafe w ⟨b,0,none⟩ Tryz.underlying243 Tryz.underlying180 hj hsh (by kernel_rfl)]
  simp only[Result.andThen]
  rw[Oper.upon_value]
  go_wp2
  go_end0
  exact⟨rfl,rfl⟩
theorem pU(b:Nat)(w:World)(h0:w.cell? ⟨b,0,none⟩=some (.pointer (some ⟨b,0,none⟩))) :
    Calls Tryz.prog 230 #[.pointer (some ⟨b,0,none⟩)] w fun e w'=>e = .returned (.tuple #[])∧w'=w:=by
  obtain⟨j,hj,_⟩:=pI
  go_enter Tryz.func230,Tryz.ntmps230
  go_wp2
  rw[Lib.run_neq_ptr_same w _ Tryz.underlying180 hj]
  go_wp2
  go_end0
  exact⟨rfl,rfl⟩
theorem pY{w:World}{b:Nat}{p v:Value}(hp:p = .pointer none∨p = .pointer (some ⟨b,0,none⟩))(hb:w.heap[b]? = some (.cells #[p,v] 182 (0,0))) :
    Calls Tryz.prog 230 #[.pointer (some ⟨b,0,none⟩)] w fun e w'=>e = .returned (.tuple #[])∧w'.heap[b]? = some (.cells #[.pointer (some ⟨b,0,none⟩),v] 182 (0,0))∧aC [b] w w':=by
  have h0:w.cell? ⟨b,0,none⟩=some p:=(bt hb 0).trans rfl
  rcases hp with rfl|rfl
  · refine(nI b w h0 (by simp[World.shape?,hb]) (eY hb 0)).mono ?_
    rintro e w' ⟨rfl,rfl⟩
    exact⟨rfl,(gq hb 0 _).trans rfl,(aC.refl _ _).setCell (Or.inl (by simp)) _⟩
  · refine(pU b w h0).mono ?_
    rintro e w' ⟨rfl,rfl⟩
    exact⟨rfl,hb,aC.refl _ _⟩
def la:Array Value:=#[.int .u8 48,.int .u8 49,.int .u8 50,.int .u8 51,.int .u8 52,.int .u8 53,.int .u8 54,.int .u8 55,.int .u8 56,.int .u8 57,.int .u8 65,.int .u8 66,.int .u8 67,.int .u8 68,.int .u8 69,.int .u8 70]
theorem rL:∀ {j:Nat},j<16→la[j]? = some (.int .u8 (da (j:Int)))
  | 0,_ | 1,_ | 2,_ | 3,_ | 4,_ | 5,_ | 6,_ | 7,_ | 8,_ | 9,_ | 10,_ | 11,_ | 12,_ | 13,_ | 14,_ | 15,_=>rfl
  | n+16,h=>by omega
theorem p8{i:Int}(h:0≤i∧i<16) : la[i.toNat]? = some (.int .u8 (da i)):=by
  rw[rL (by omega),Int.toNat_of_nonneg h.1]
theorem vl{P:Program}{w:World}{ev:Operand→Value}{o:Oper}{x ix:Operand}{t e:TypeId}{k:IntKind}{i:Int}(j:Nat)(ho:o.op = .index t x ix)(ht:P.underlying t=some (.array 16 e))(hi:(P.info? e).map (·.size)=some 1)(hr:∀ w,(isAgg e).run P w = .ok false w)(hx:ev x = .agg la)(hy:ev ix = .int k i)(hj:i=(j:Int))(hlt:j<16) : (execOp ev o).run P w = .ok (.value (.int .u8 (da (j:Int)))) w:=by
  subst hj
  obtain⟨i0,hi0,hs⟩:=Option.map_eq_some_iff.1 hi
  have h:=rL hlt
  unfold execOp
  have h2:(0:Int)≤(j:Int)∧(j:Int)<16:=by omega
  simp[ho,hx,hy,Instr.index,asIntOf,run_underlying ht,Result.andThen,h2,sizeOf,typeInfo,hi0,hs,part,h,hr,hlt]
def xV (B b:Nat)(L:List Int)(w:World) : Prop:=∃ p A cp,w.heap[b]? = some (.cells #[p,.slice A L.length cp] 182 (0,0))∧(p = .pointer none∨p = .pointer (some ⟨b,0,none⟩))∧eB B w (.slice A L.length cp) L
theorem xV.new{B b:Nat}{w:World}(hb:w.heap[b]? = some (.cells #[.pointer none,.slice none 0 0] 182 (0,0))) : xV B b [] w:=⟨_,_,_,hb,.inl rfl,aS.nil ..⟩
def wD:Go.Shelf.Ren:=⟨fun | 169=>189 | n=>n,fun | 70=>180 | 9=>9 | 0=>0 | 72=>182 | 37=>22 | 127=>235 | 3=>3 | 5=>5 | n=>n,fun | n=>n⟩
theorem zI:Go.Proofs.Lays.n169 Tryz.prog wD:={
  mixed:=by kernel_rfl
  f169:=Tryz.func189.trans (congrArg some (by kernel_rfl))
  t0:=Tryz.underlying0
  a0:=Tryz.isAgg0
  z0:=Tryz.sizeOf0
  v0:=Tryz.zeroValue0
  t3:=Tryz.underlying3
  a3:=Tryz.isAgg3
  z3:=Tryz.sizeOf3
  v3:=Tryz.zeroValue3
  t9:=Tryz.underlying9
  a9:=Tryz.isAgg9
  z9:=Tryz.sizeOf9
  v9:=Tryz.zeroValue9
  t37:=Tryz.underlying22
  a37:=Tryz.isAgg22
  z37:=Tryz.sizeOf22
  v37:=Tryz.zeroValue22
  t70:=Tryz.underlying180
  a70:=Tryz.isAgg180
  z70:=Tryz.sizeOf180
  v70:=Tryz.zeroValue180
  t72:=Tryz.underlying182
  a72:=Tryz.isAgg182
  z72:=Tryz.sizeOf182
  v72:=Tryz.zeroValue182
  t127:=Tryz.underlying235
  a127:=Tryz.isAgg235
  z127:=Tryz.sizeOf235
  v127:=Tryz.zeroValue235 }
theorem yI:Builder.Extra Tryz.prog wD:={
  sizeBuilder:=by kernel_rfl
  liesBuilder:=by kernel_rfl
  t5:=Tryz.underlying5
  a5:=Tryz.isAgg5
  z5:=Tryz.sizeOf5
  v5:=Tryz.zeroValue5
  infoByte:=by kernel_rfl
  cellsByte:=by kernel_rfl
  sizeByte:=by kernel_rfl
  neB5:=by decide }
theorem tC{L:List Int}(h:dc L) : Lib.byteCells (L.map fun n=>UInt8.ofNat n.toNat)=L.map (Value.int .u8):=by
  unfold Lib.byteCells
  rw[List.map_map]
  apply List.map_congr_left
  intro x hx
  show Value.int .u8 _=_
  rw[nN (h x hx)]
theorem qA{w0 w:World}{b:Nat}{L:List Int}(hu:aC [] w0 w)(hg:w0.heap.size≤b)(h:xV w0.heap.size b L w)(hr:dc L) :
    Calls Tryz.prog 189 #[.pointer (some ⟨b,0,none⟩)] w fun e w'=>e = .returned (.string (strOfNums L))∧aC [] w0 w':=by
  obtain⟨p,A,cp,hb,hp,ho⟩:=h
  have h1:=fd (enc:=Value.int .u8) (fun _ _ _ h=>h.1) ho
  have h2:Lib.BuilderAt 182 5 w0.heap.size b p (Lib.byteCells (L.map fun n=>UInt8.ofNat n.toNat)) w:=by
    rw[tC hr]
    refine⟨hg,_,hb,by rw[List.length_map];exact h1,fun hq=>?_⟩
    rcases h1.2 with⟨hv,_⟩|⟨g',cap,cur,hv,_,hh,_⟩
    · rw[hv] at hq;cases hq
    · rw[hv] at hq
      have e:g'=b:=by simpa [Value.ownBlock] using hq
      subst e
      rw[hb] at hh
      injection hh with hh
      injection hh with _ h5 _
      exact absurd h5 (by decide)
  have h3:Lib.IsBuilder (wD.t 72) (wD.t 5) w0.heap.size b (Lib.byteCells (L.map fun n=>UInt8.ofNat n.toNat)) w:=by
    rcases hp with rfl|rfl
    · exact Or.inl h2
    · exact Or.inr h2
  refine(Any.Builder_String_any zI yI _ _ _ _ h3 hu.size).mono ?_
  rintro e w' ⟨rfl,hbel⟩
  exact⟨rfl,hu.os▸hbel.os,hu.tape▸hbel.tape,hu.output▸hbel.output,Nat.le_trans hu.size hbel.size,fun k hk hn=>(hbel.block k hk).trans (hu.block k hk hn)⟩
open Go.RowKit
theorem lY{w:World}:Calls Tryz.prog 187 #[] w (cG (.agg la) w):=by
 refine en 2 Tryz.func187 rfl<|sg<|L0<|bH #[.int .u8 0,.int .u8 0,.int .u8 0,.int .u8 0,.int .u8 0,.int .u8 0,.int .u8 0,.int .u8 0,.int .u8 0,.int .u8 0,.int .u8 0,.int .u8 0,.int .u8 0,.int .u8 0,.int .u8 0,.int .u8 0] fun e f a b c=>ng<|Pl 1<|L0<|b7 b #[.int .u8 48,.int .u8 49,.int .u8 50,.int .u8 51,.int .u8 52,.int .u8 53,.int .u8 54,.int .u8 55,.int .u8 56,.int .u8 57,.int .u8 65,.int .u8 66,.int .u8 67,.int .u8 68,.int .u8 69,.int .u8 70] fun g dp d=>nt<|rt<|yn dp<|?_
 exact⟨rfl,(ud c d a)⟩
theorem tP{c:Int}{n:Nat}(h:∀ j:Nat,j<n→da (j:Int)≠c)(q:(da ((n:Nat) : Int)==c)=false) : ∀ j:Nat,j<n+1→da (j:Int)≠c:=fun j hj=>by
  by_cases e:j=n
  · subst e;simpa using q
  · exact h j (by omega)
theorem yS{c:Int}{n:Nat}(hn:n<16)(q:(da ((n:Nat) : Int)==c)=true) : bV c=((n:Nat) : Int):=by
  have e:da ((n:Nat) : Int)=c:=by simpa using q
  rw[← e]
  exact jZ (by omega)
theorem uB{c:Int}{n:Nat}(hn:n=16)(h:∀ j:Nat,j<n→da (j:Int)≠c) : bV c = -1:=by
  by_cases e:0≤bV c
  · have h1:=ke e
    exact absurd (by rw[Int.toNat_of_nonneg e];exact h1.1) (h (bV c).toNat (by omega))
  · have:=jr c
    omega
theorem nB{w:World}{c:Int}(hc:0≤c∧c<256) : Calls Tryz.prog 184 #[.int .u8 c] w (cG (.int .i64 (bV c)) w):=by
 refine en 15 Tryz.func184 rfl<|sg<|Pl 1<|nt<|sq<|sg<|L0<|Oc<|m1 (@lY w) fun g h=>Pl 1<|nt<|bk<|?_
 refine iN (fun x=>[(0,.int .u8 c),(5,.agg la),(6,.int .i64 ((x:Nat) : Int))]) (fun(x:Nat) w'=>aC [] g w'∧(x≤16)∧(∀ j:Nat,j<x→da (j:Int)≠c)) (fun x=>16-x) 0 ⟨aC.refl _ _,(by(try dsimp only);omega),(fun j hj=>by omega)⟩ ?_
 rintro n q ⟨d,l,m⟩
 refine iy [(0,.int .u8 c),(5,.agg la),(6,.int .i64 ((n:Nat) : Int))] ?_
 have r:n≤16:=l
 have e:∀ j:Nat,j<n→da (j:Int)≠c:=m
 refine sg<|Pl 1<|nt<|sq<|?_
 have f:=aD h d
 refine cb ((decide (((n:Nat) : Int)<16))) (fun b=>?_) (fun b=>?_)
 have o:=of_decide_eq_true b
 refine bf<|sq<|bk<|sg<|Pl 1<|L0<|iP (.int .u8 (da ((n:Nat) : Int))) (vl (k:=.i64) (i:=((n:Nat) : Int)) n rfl Tryz.underlying183 (by kernel_rfl) Tryz.isAgg5 (by kernel_rfl) (by kernel_rfl) rfl (by omega))<|Pl 2<|ng<|Pl 3<|nl<|?_
 refine tn<|cb (((da ((n:Nat) : Int))==c)) (fun a=>?_) (fun a=>?_)
 have p:=ah a
 refine sg<|Pl 2<|nt<|rt<|br<|tr<|tr<|br<|tr<|rr (.int .i64 ((n:Nat) : Int))<|?_
 have hs:bV c=((n:Nat) : Int):=yS (by omega) a
 rw[hs]
 exact⟨rfl,f⟩
 have p:=aj a
 exact sk<|bn<|tn<|go<|L0<|Oi (((n:Nat) : Int)+1)<|Pl 1<|nl<|gB (n+1) ⟨d,(by(try dsimp only);omega),(tP e a)⟩ (by omega)
 have o:=of_decide_eq_false b
 refine xt<|tx<|tx<|bx<|tn<|sg<|Pl 1<|nt<|rt<|rr (.int .i64 (-1))<|?_
 have hs:bV c = -1:=uB (n:=n) (by omega) e
 rw[hs]
 exact⟨rfl,f⟩
theorem nm{w0 w:World}{b gd:Nat}{L:List Int}{c:Int}(hu0:aC [] w0 w)(hg0:w0.heap.size≤b)(hg1:w0.heap.size≤gd)(h:xV w0.heap.size b L w)(hd:w.heap[gd]? = some (.cells la 183 (0,0)))(hne:gd≠b)(hc:0≤c∧c<256)(hl:L.length≤1048576) :
    Calls Tryz.prog 188 #[.pointer (some ⟨b,0,none⟩),.int .u8 c] w (fun e w'=>e = .returned .nilIface∧xV w0.heap.size b (L++[c]) w'∧w'.heap[gd]? = some (.cells la 183 (0,0))∧aC [] w0 w'∧w.heap.size≤w'.heap.size):=by
 obtain⟨p,A,cp,hb,hp,ho⟩:=h
 refine en 17 Tryz.func188 rfl<|sg<|Pl 1<|ng<|Pl 1<|L0<|Oc<|m2 (pY hp hb) fun u a d=>ng<|?_
 refine Pl 4<|L0<|aO a 1<|Pl 1<|L0<|cL (m:=1) (e:=5) #[.int .u8 c] fun v y r dp f=>?_
 have s:=cC r (xs:=[c]) (by as_aux_lemma=>kernel_rfl) (au (by omega) aK) (by(try simp only[List.length_cons,List.length_nil]);omega) dp
 have i:=aD d f
 refine L0<|bR aZ (xs:=L) (ys:=([c])) (.int .u8 0) 1 (ap ho i (fun x hx=>(aa (fun e=>(db hb ho (by decide)) (e▸hx)) az)) (fun _ _ h=>h)) (s).rd (by(try simp only[List.length_append,List.length_cons,List.length_nil,aA]);omega) (le (le hu0.size d.size) f.size) fun j k z l n=>Pl 2<|?_
 have o:=aC.blk (ut (aC.mono (S':=(ob A++[])) f ay) n (av il ay)) (bj (db a (ap ho d (fun x hx=>(aa (fun e=>(db hb ho (by decide)) (e▸hx)) az)) (fun _ _ h=>h)) (by decide)) az) a
 refine L0<|bX o 1 #[.pointer (some ⟨b,0,none⟩),.slice j ((L++[c]).length) k] fun B t q=>ng<|Pl 1<|nt<|rt<|rr (.nilIface)<|?_
 have g:=ut (aC.mono (S':=(b :: (ob A++[]))) i (ac im ay)) (u1 (aC.mono (S':=(ob A++(b :: []))) n (av il ay)) q im) (av il (ac im ay))
 exact⟨rfl,⟨_,j,k,t,.inr rfl,(ap l q (fun x hx=>(aa (fun e=>(db o l (by decide)) (e▸hx)) az)) (fun _ _ h=>h))⟩,(aC.blk g (aa hne (bj (db hd ho (by decide)) az)) hd),(ut hu0 g (ac (nr hg0) (av (aN ho lr) ay))),g.size⟩
open Go.RowKit
theorem i4{P:Program}(t e:TypeId)(sz:Nat){i:TypeInfo}(ht:P.underlying t=some (.slice e))(hi:P.info? e=some i)(hsz:i.size=sz)(A:Option Addr)(n c:Nat){lo up:Int}(k h:Nat)(hlo:lo=(k:Int))(hup:up=(h:Int))(hk:k≤h)(hh:h≤n)(hc:n≤c) :
    ∃ A':Option Addr,(∀ (kl kh:IntKind) (W:World),(Instr.slice t (.slice A n c) (some (.int kl lo)) (some (.int kh up)) none).run P W = .ok (.slice A' (h-k) (c-k)) W) ∧
      ∀ {α:Type} (m:Md) (e':TypeId) (R:World→α→List Value→Prop) (w:World) (xs:List α),aL m e' sz R w (.slice A n c) xs→aL m e' sz R w (.slice A' (h-k) (c-k)) ((xs.take h).drop k):=by
  subst hlo hup
  exact za t e sz ht hi hsz A n c k h hk hh hc
theorem eZ{o:Oper}{ev:Operand→Value}{P:Program}{w:World}{t:TypeId}{x y z:Operand}{A:Option Addr}{n c:Nat}{kl kh:IntKind}{lo hi:Int}{v:Value}{e:TypeId}(ho:o.op = .slice t x (some y) (some z) none)(ht:P.underlying t=some (.slice e))(hx:ev x = .slice A n c)(hy:ev y = .int kl lo)(hz:ev z = .int kh hi)
    (hr:(Instr.slice t (.slice A n c) (some (.int kl lo)) (some (.int kh hi)) none).run P w = .ok v w) : (execOp ev o).run P w = .ok (.value v) w:=by
  have hu:(underlying t).run P w = .ok (.slice e) w:=run_underlying ht w
  unfold execOp
  simp only[ho,Option.map_some,Option.map_none,hx,hy,hz,Instr.sliceAt,Sem.run_bind,hu,hr,Result.andThen,Sem.run_pure]
open Go.RowKit
theorem iD{b:List Int}(h:dc b) : dc (cY b):=by
  induction b with
  | nil=>exact h
  | cons c b ih =>
    have hc:=h c (List.mem_cons_self ..)
    have h1:=gI (n:=c/16) (by omega)
    have h2:=gI (n:=c%16) (by omega)
    intro x hx
    rcases List.mem_cons.1 hx with rfl|hx
    · omega
    rcases List.mem_cons.1 hx with rfl|hx
    · omega
    · exact ih (fun y hy=>h y (List.mem_cons_of_mem _ hy)) x hx
theorem sm{m:Md}{A:Option Addr}{cp:Nat}{b:List Int}{w:World}(hsl:b9 m w (.slice A b.length cp) b)(hl:b.length≤1024) :
    Calls Tryz.prog 127 #[.slice A b.length cp] w (cG (.string (strOfNums (cY b))) w):=by
 have hb:=b9.range hsl
 refine en 26 Tryz.func127 rfl<|sg<|Pl 1<|ng<|L0<|bH #[.pointer none,.slice none 0 0] fun d y g l h=>ng<|L0<|Oc<|m1 (@lY y) fun X e=>?_
 refine L0<|bH #[.int .u8 0,.int .u8 0,.int .u8 0,.int .u8 0,.int .u8 0,.int .u8 0,.int .u8 0,.int .u8 0,.int .u8 0,.int .u8 0,.int .u8 0,.int .u8 0,.int .u8 0,.int .u8 0,.int .u8 0,.int .u8 0] fun a Y f z B=>L0<|b7 (hz:=(by kernel_rfl)) (hv:=rfl) (h1:=(by kernel_rfl)) z (la) fun C D E=>nt<|sq<|sg<|Pl 3<|nt<|bk<|?_
 have o:=aD e (ud B E f)
 have q:=nb (am l) e.size f
 refine iN (fun x=>[(2,.string ⟨#[]⟩),(3,.pointer (some ⟨d,0,none⟩)),(4,.pointer (some ⟨a,0,none⟩)),(8,.slice A b.length cp),(9,.int .i64 ((b.length:Nat) : Int)),(10,.int .i64 ((x:Nat) : Int))]) (fun(x:Nat) w'=>aC [] w w'∧C.heap.size≤w'.heap.size∧xV w.heap.size d (cY (b.take x)) w'∧w'.heap[a]? = some (.cells la 183 (0,0))∧(x≤b.length)) (fun x=>b.length-x) 0 ⟨(aD h o),lr,(by simpa [cY] using xV.new (ub o l)),D,(by(try dsimp only);omega)⟩ ?_
 rintro k r ⟨i,F,G,H,I⟩
 refine iy [(2,.string ⟨#[]⟩),(3,.pointer (some ⟨d,0,none⟩)),(4,.pointer (some ⟨a,0,none⟩)),(8,.slice A b.length cp),(9,.int .i64 ((b.length:Nat) : Int)),(10,.int .i64 ((k:Nat) : Int))] ?_
 have s:xV w.heap.size d (cY (b.take k)) r:=G
 have t:r.heap[a]? = some (.cells la 183 (0,0)):=H
 have Z:k≤b.length:=I
 refine sg<|Pl 1<|nt<|sq<|cb ((decide (((k:Nat) : Int)<((b.length:Nat) : Int)))) (fun j=>?_) (fun j=>?_)
 have J:=of_decide_eq_true j
 refine bf<|sq<|bk<|sg<|?_
 refine gh (b9.at_ (b9.old hsl i) k (by omega)) fun K L M N a0=>L0<|m8 b.length k M (by omega)<|L0<|ei (p:=⟨K,L+k,none⟩) (v:=.int .u8 (b.getD k 0)) N<|Pl 1<|ng<|Pl 1<|L0<|Oe (.int .u8 (Int.fdiv (b.getD k 0) (2 ^ 4))) (.int .u8 ((b.getD k 0)/16)) (congrArg (Value.int .u8) (xm _ _ _ (by decide)))<|L0<|Bl (b:=a) (off:=0) 16 ((((b.getD k 0)/16)).toNat) ((b.getD k 0)/16) (by omega) (by omega)<|?_
 have a1:=gI (n:=((b.getD k 0)/16)) (by omega)
 refine L0<|ei (p:=⟨a,0+(((b.getD k 0)/16)).toNat,none⟩) (v:=.int .u8 (da (((b.getD k 0)/16)))) (ae t (by rw[Nat.zero_add,p8 (by omega)]))<|L0<|Oc<|m4 (nm (c:=(da ((b.getD k 0)/16))) i g (Nat.le_trans (le h.size e.size) f) s t (Ne.symm q) (by omega) (by rw[dy,List.length_take];omega)) fun a2 O u P Q=>nt<|go<|Pl 1<|L0<|Oe (.int .u8 (Int.tmod (b.getD k 0) 16)) (.int .u8 ((b.getD k 0)%16)) (congrArg (Value.int .u8) (Int.tmod_eq_emod_of_nonneg (by omega)))<|L0<|Bl (b:=a) (off:=0) 16 ((((b.getD k 0)%16)).toNat) ((b.getD k 0)%16) (by omega) (by omega)<|?_
 have a3:=gI (n:=((b.getD k 0)%16)) (by omega)
 exact L0<|ei (p:=⟨a,0+(((b.getD k 0)%16)).toNat,none⟩) (v:=.int .u8 (da (((b.getD k 0)%16)))) (ae u (by rw[Nat.zero_add,p8 (by omega)]))<|L0<|Oc<|m4 (nm (c:=(da ((b.getD k 0)%16))) P g (Nat.le_trans (le h.size e.size) f) O u (Ne.symm q) (by omega) (by rw[List.length_append,dy,List.length_take];simp only[List.length_cons,List.length_nil];omega)) fun a4 R S T U=>nl<|bn<|tn<|go<|L0<|Oi (((k:Nat) : Int)+1)<|Pl 1<|nl<|gB (k+1) ⟨T,(le (le F Q) U),(by rw[nC _ _ (by omega)];exact R),S,(by(try dsimp only);omega)⟩ (by omega)
 have J:=of_decide_eq_false j
 refine xt<|tx<|tx<|bx<|tn<|sg<|?_
 have V:k=b.length:=by omega
 have hbl:=s
 rw[V,List.take_length] at hbl
 have hbr:dc (cY b):=iD hb
 refine L0<|Oc<|m1 (qA i g hbl hbr) fun a5 W=>Pl 1<|nt<|rt<|rr (.string (strOfNums (cY b)))<|?_
 exact⟨rfl,W⟩
theorem ux{m:Md}{v:Value}{b:List Int}{w:World}(h:b9 m w v b)(hl:b.length≤1024) : Calls Tryz.prog 127 #[v] w (cG (.string (strOfNums (cY b))) w):=by
  obtain⟨A,cp,rfl,_,_⟩:=h.shape
  exact sm h hl
def gw (xs:List Int)(w:World)(e:Ending)(w':World) : Prop:=match bT xs with
  | some l=>∃ v,e = .returned (.tuple #[v,.int .i64 0])∧eB w.heap.size w' v l∧aC [] w w'
  | none=>e = .returned (.tuple #[.slice none 0 0,.int .i64 11])∧aC [] w w'
theorem rI{xs l:List Int}{w w':World}{e:Ending}(h:bT xs=some l)(k:∃ v,e = .returned (.tuple #[v,.int .i64 0])∧eB w.heap.size w' v l∧aC [] w w') : gw xs w e w':=by
  unfold gw
  rw[h]
  exact k
theorem kW{xs:List Int}{w w':World}{e:Ending}(h:bT xs=none)(k:e = .returned (.tuple #[.slice none 0 0,.int .i64 11])∧aC [] w w') : gw xs w e w':=by
  unfold gw
  rw[h]
  exact k
theorem ny{xs:List Int}{w:World}(hr:dc xs)(hl:xs.length≤1048576) :
    Calls Tryz.prog 123 #[.string (strOfNums xs)] w (gw xs w):=by
 refine en 42 Tryz.func123 rfl<|sg<|Pl 2<|nt<|sq<|sg<|Pl 1<|L0<|Oe (.int .i64 (((strOfNums xs).size:Nat) : Int)) (.int .i64 ((xs.length:Nat) : Int)) (by rw[strOfNums_size])<|L0<|Oe (.int .i64 (Int.tmod ((xs.length:Nat) : Int) 2)) (.int .i64 (((xs.length:Nat) : Int)%2)) (congrArg (Value.int .i64) (Int.tmod_eq_emod_of_nonneg (by omega)))<|Pl 1<|nl<|?_
 refine tn<|cb (((((xs.length:Nat) : Int)%2)!=0)) (fun f=>?_) (fun f=>?_)
 have A:=ax f
 refine sg<|Pl 2<|nt<|rt<|tr<|rr (.tuple #[.slice none 0 0,.int .i64 11])<|?_
 have hs:bT xs=none:=jY (by omega)
 exact kW hs ⟨rfl,(aC.refl [] _)⟩
 have A:=ag f
 refine bf<|sg<|Pl 1<|nt<|sq<|sg<|Pl 1<|nt<|bk<|?_
 refine iN (fun x=>[(0,.string (strOfNums xs)),(4,.slice x.2.2.1 x.2.1.length x.2.2.2),(5,.int .i64 ((2*x.1:Nat) : Int))]) (fun(x:Nat × List Int × Option Addr × Nat) w'=>aC [] w w'∧eB w.heap.size w' (.slice x.2.2.1 x.2.1.length x.2.2.2) x.2.1∧(2*x.1≤xs.length)∧(bT xs=(bT (xs.drop (2*x.1))).map fun l=>x.2.1++l)∧(x.2.1.length=x.1)) (fun x=>xs.length-2*x.1) (0,[],none,0) ⟨aC.refl _ _,(aS.nil w.heap.size _ _ s9 _),(by(try dsimp only);omega),(by(try dsimp only);simp),(by(try dsimp only);rfl)⟩ ?_
 rintro⟨k,L,B,cq⟩ C ⟨g,D,E,F,G⟩
 refine iy [(0,.string (strOfNums xs)),(4,.slice B L.length cq),(5,.int .i64 ((2*k:Nat) : Int))] ?_
 have j:eB w.heap.size C (.slice B L.length cq) L:=D
 have U:2*k≤xs.length:=E
 have V:bT xs=(bT (xs.drop (2*k))).map fun l=>L++l:=F
 have W:L.length=k:=G
 have hL:bT xs=(bT (xs.drop (2*k))).map fun l=>L++l:=by assumption
 refine sq<|sg<|Pl 2<|L0<|Oe (.int .i64 (((strOfNums xs).size:Nat) : Int)) (.int .i64 ((xs.length:Nat) : Int)) (by rw[strOfNums_size])<|Pl 1<|nt<|cb ((decide (((2*k:Nat) : Int)<((xs.length:Nat) : Int)))) (fun n=>?_) (fun n=>?_)
 have H:=of_decide_eq_true n
 refine bf<|sq<|bk<|sq<|Rg 11 (fun w'=>True) fun X p=>bi trivial fun a=>Rt 0 a<|Rt 1 a<|Rr 2 a (.int .u8 (xs.getD (2*k) 0)) (fun _ _=>jf (xs:=xs) (k:=.i64) (i:=((2*k:Nat) : Int)) (2*k) rfl Tryz.underlying9 (by kernel_rfl) (by kernel_rfl) hr rfl (by omega))<|Rt 4 a<|Rt 5 a<|Rr 6 a (.int .i64 (((2*k:Nat) : Int)+1)) (fun _ _=>ch (.int .i64 (IntKind.i64.wrap (((2*k:Nat) : Int)+1))) (by kernel_rfl) (congrArg (Value.int .i64) (IntWalk.i64_in _ (by omega))))<|Rr 7 a (.int .u8 (xs.getD ((((2*k:Nat) : Int)+1)).toNat 0)) (fun _ _=>jf (xs:=xs) (k:=.i64) (i:=(((2*k:Nat) : Int)+1)) ((((2*k:Nat) : Int)+1)).toNat rfl Tryz.underlying9 (by kernel_rfl) (by kernel_rfl) hr (by omega) (by omega))<|?_
 have Y:=jr (xs.getD (2*k) 0)
 refine R0 3 rfl<|Oc<|m1 (nB (c:=(xs.getD (2*k) 0)) (w:=_) (fi (by omega) hr _)) fun Z r=>bi trivial fun a0=>?_
 have a1:=jr (xs.getD ((((2*k:Nat) : Int)+1)).toNat 0)
 refine R0 8 rfl<|Oc<|m1 (nB (c:=(xs.getD ((((2*k:Nat) : Int)+1)).toNat 0)) (w:=_) (fi (by omega) hr _)) fun a2 s=>bi trivial fun t=>Rt 9 t<|Rt 10 t<|re<|tn<|sq<|sg<|Pl 3<|cu 3 [29] 32 (((decide ((bV (xs.getD (2*k) 0))<0))||(decide ((bV (xs.getD ((((2*k:Nat) : Int)+1)).toNat 0))<0)))) (fun K u=>?_) ?_
 refine bl 29 ((decide ((bV (xs.getD (2*k) 0))<0))) (fun b=>?_) (fun b=>?_)
 have I:=of_decide_eq_true b
 exact Pl 3<|ce u true (by rw[b];rfl)
 have I:=of_decide_eq_false b
 exact Pl 3<|ce u (decide ((bV (xs.getD ((((2*k:Nat) : Int)+1)).toNat 0))<0)) (by rw[b];rfl)
 refine nt<|?_
 have v:=aD p (aD r s)
 have y:=aD g v
 refine cb (((decide ((bV (xs.getD (2*k) 0))<0))||(decide ((bV (xs.getD ((((2*k:Nat) : Int)+1)).toNat 0))<0)))) (fun d=>?_) (fun d=>?_)
 refine sg<|Pl 2<|nt<|rt<|tr<|br<|tr<|tr<|br<|tr<|rr (.tuple #[.slice none 0 0,.int .i64 11])<|?_
 have hs:bT xs=none:=pf (k:=k) hL (by omega) (by have q:=d;simp only[Bool.or_eq_true,decide_eq_true_eq] at q;rw[show 2*k+1=(((2*k:Nat) : Int)+1).toNat from by omega];exact q)
 exact kW hs ⟨rfl,y⟩
 have J:=(aE d).1
 have M:=(aE d).2
 have a3:=of_decide_eq_false J
 have a4:=of_decide_eq_false M
 refine bf<|go<|Pl 2<|L0<|Oi (16*(bV (xs.getD (2*k) 0)))<|Pl 1<|L0<|Oi ((16*(bV (xs.getD (2*k) 0)))+(bV (xs.getD ((((2*k:Nat) : Int)+1)).toNat 0)))<|Pl 1<|L0<|cL (m:=1) (e:=5) #[.int .u8 (((16*(bV (xs.getD (2*k) 0)))+(bV (xs.getD ((((2*k:Nat) : Int)+1)).toNat 0)))%256)] fun a5 a6 N O o=>?_
 have P:=cC N (xs:=[(((16*(bV (xs.getD (2*k) 0)))+(bV (xs.getD ((((2*k:Nat) : Int)+1)).toNat 0)))%256)]) (by as_aux_lemma=>kernel_rfl) (au (by omega) aK) (by(try simp only[List.length_cons,List.length_nil]);omega) O
 refine L0<|bR aZ (xs:=L) (ys:=([(((16*(bV (xs.getD (2*k) 0)))+(bV (xs.getD ((((2*k:Nat) : Int)+1)).toNat 0)))%256)])) (.int .u8 0) 1 (ap j (aD v o) (fun x hx=>az) (fun _ _ h=>h)) (P).rd (by(try simp only[List.length_append,List.length_cons,List.length_nil,aA]);omega) (le (le (le (le g.size p.size) r.size) s.size) o.size) fun Q R a7 S T=>Pl 1<|nl<|bn<|tn<|go<|Pl 1<|L0<|Oi (((2*k:Nat) : Int)+2)<|Pl 1<|nl<|?_
 have z:=lC (k:=k) hL (by omega) (by omega) (by rw[show 2*k+1=(((2*k:Nat) : Int)+1).toNat from by omega];omega)
 rw[show 2*k+1=(((2*k:Nat) : Int)+1).toNat from by omega] at z
 exact gB ((k+1),(L++[(((16*(bV (xs.getD (2*k) 0)))+(bV (xs.getD ((((2*k:Nat) : Int)+1)).toNat 0)))%256)]),Q,R) ⟨(ut y (ut (aC.mono (S':=(ob B++[])) o ay) T (av il ay)) (av (aN j lr) ay)),S,(by(try dsimp only);omega),z,(by(try dsimp only);simp only[List.length_append,List.length_cons,List.length_nil];omega)⟩ (by omega)
 have H:=of_decide_eq_false n
 refine xt<|tx<|tx<|bx<|tn<|sg<|Pl 3<|nt<|rt<|rr (.tuple #[.slice B L.length cq,.int .i64 0])<|?_
 have hs:bT xs=some L:=mY hL (by omega)
 exact rI hs ⟨_,rfl,j,g⟩
open Go.RowKit
def fD (xs:List Int) : Bool:=decide (2≤((xs.length:Nat) : Int))&&decide (xs.drop (((xs.length:Nat) : Int)-2).toNat=[13,10])
def gy (b:List Int) : Option (List Int):=if b.getD 0 0=58∧fD (b.drop 1)=true then some ((b.drop 1).take (b.length-3)) else none
theorem lv{xs:List Int}(h:fD xs=true) : 2≤xs.length:=by
  unfold fD at h
  simp only[Bool.and_eq_true,decide_eq_true_eq] at h
  omega
theorem jQ{b s:List Int}(h:gy b=some s) : b.getD 0 0=58∧fD (b.drop 1)=true∧s=(b.drop 1).take (b.length-3)∧3≤b.length:=by
  unfold gy at h
  split at h
  · rename_i hc
    injection h with h
    have:=lv hc.2
    rw[List.length_drop] at this
    exact⟨hc.1,hc.2,h.symm,by omega⟩
  · cases h
theorem pl{b s:List Int}(h:gy b=some s) : s.length=b.length-3:=by
  obtain⟨_,_,rfl,h3⟩:=jQ h
  rw[List.length_take,List.length_drop]
  omega
def o4 (xs:List Int)(w:World)(e:Ending)(w':World) : Prop:=match gy xs with
  | some l=>e = .returned (.tuple #[.string (strOfNums l),.bool true])∧aC [] w w'
  | none=>∃ s,e = .returned (.tuple #[.string s,.bool false])∧aC [] w w'
theorem lZ{xs:List Int}{w:World}(hr:dc xs)(hl:xs.length≤1048576) : Calls Tryz.prog 260 #[.string (strOfNums xs),.string ⟨#[13,10]⟩] w (cG (.bool (fD xs)) w):=by
 refine en 21 Tryz.func260 rfl<|sg<|Pl 1<|ng<|Pl 1<|L0<|Oe (.int .i64 (((strOfNums xs).size:Nat) : Int)) (.int .i64 ((xs.length:Nat) : Int)) (by rw[strOfNums_size])<|Pl 4<|bl 10 ((decide (2≤((xs.length:Nat) : Int)))) (fun c=>?_) (fun c=>?_)
 have d:=of_decide_eq_true c
 refine Pl 2<|L1<|Oe (.int .i64 (((strOfNums xs).size:Nat) : Int)) (.int .i64 ((xs.length:Nat) : Int)) (by rw[strOfNums_size])<|Pl 2<|L1<|Oi (((xs.length:Nat) : Int)-2)<|?_
 have e:dc (xs.drop ((((xs.length:Nat) : Int)-2)).toNat):=kg hr ((((xs.length:Nat) : Int)-2)).toNat
 refine L1<|iP (.string (strOfNums (xs.drop ((((xs.length:Nat) : Int)-2)).toNat))) (mQ (xs:=xs) (k:=.i64) (i:=(((xs.length:Nat) : Int)-2)) ((((xs.length:Nat) : Int)-2)).toNat rfl Tryz.underlying9 (by kernel_rfl) (by kernel_rfl) (by omega) (by omega))<|Pl 1<|L1<|iP (.bool (decide ((xs.drop ((((xs.length:Nat) : Int)-2)).toNat)=[13,10]))) (je (a:=(strOfNums (xs.drop ((((xs.length:Nat) : Int)-2)).toNat))) (b:=⟨#[13,10]⟩) rfl (by kernel_rfl) (by kernel_rfl) (wm (ys:=[13,10]) e (by decide)))<|Pl 2<|nt<|rt<|rr (.bool (decide ((xs.drop ((((xs.length:Nat) : Int)-2)).toNat)=[13,10])))<|?_
 have hs:fD xs=(decide ((xs.drop ((((xs.length:Nat) : Int)-2)).toNat)=[13,10])):=by unfold fD;(try simp only[c,bs,if_true,if_false,decide_true,decide_false]);all_goals rfl
 rw[hs]
 exact⟨rfl,(aC.refl [] _)⟩
 have d:=of_decide_eq_false c
 refine Pl 11<|nt<|rt<|rr (.bool false)<|?_
 have hs:fD xs=false:=by unfold fD;(try simp only[c,bs,if_true,if_false,decide_true,decide_false]);all_goals rfl
 rw[hs]
 exact⟨rfl,(aC.refl [] _)⟩
theorem sE{xs:List Int}{w:World}(hr:dc xs)(hl:xs.length≤1048576)(hq:fD xs=true) : Calls Tryz.prog 229 #[.string (strOfNums xs),.string ⟨#[13,10]⟩] w (cG (.tuple #[.string (strOfNums (xs.take (((xs.length:Nat) : Int)-2).toNat)),.bool true]) w):=by
 have hq2:=lv hq
 refine en 18 Tryz.func229 rfl<|sg<|Pl 2<|nt<|sq<|sg<|Pl 2<|L0<|Oc<|m1 (lZ (xs:=xs) (w:=_) hr (by omega)) fun c a=>Pl 1<|nt<|?_
 have b:(!(fD xs))=false:=by simp only[hq,Bool.not_true,Bool.not_false]
 refine cf b<|bf<|sg<|Pl 2<|L0<|Oe (.int .i64 (((strOfNums xs).size:Nat) : Int)) (.int .i64 ((xs.length:Nat) : Int)) (by rw[strOfNums_size])<|Pl 2<|L0<|Oi (((xs.length:Nat) : Int)-2)<|?_
 have d:dc (xs.take ((((xs.length:Nat) : Int)-2)).toNat):=mS hr ((((xs.length:Nat) : Int)-2)).toNat
 refine L0<|iP (.string (strOfNums (xs.take ((((xs.length:Nat) : Int)-2)).toNat))) (tH (xs:=xs) (k:=.i64) (i:=(((xs.length:Nat) : Int)-2)) ((((xs.length:Nat) : Int)-2)).toNat rfl Tryz.underlying9 (by kernel_rfl) (by kernel_rfl) (by omega) (by omega))<|Pl 2<|nt<|rt<|rr (.tuple #[.string (strOfNums (xs.take ((((xs.length:Nat) : Int)-2)).toNat)),.bool true])<|?_
 exact⟨rfl,a⟩
theorem v8{xs:List Int}{w:World}(hr:dc xs)(hl:xs.length≤1048576)(hq:fD xs=true) : Calls Tryz.prog 183 #[.string (strOfNums xs),.string ⟨#[13,10]⟩] w (cG (.tuple #[.string (strOfNums (xs.take (((xs.length:Nat) : Int)-2).toNat)),.bool true]) w):=by
 refine en 11 Tryz.func183 rfl<|sg<|Pl 2<|ng<|Pl 2<|L0<|Oc<|m1 (sE (xs:=xs) (w:=_) hr hl hq) fun b a=>Pl 4<|nt<|rt<|?_
 refine rr (.tuple #[.string (strOfNums (xs.take (((xs.length:Nat) : Int)-2).toNat)),.bool true])<|?_
 exact⟨rfl,a⟩
theorem t4{xs:List Int}{w:World}(hr:dc xs)(hl:xs.length≤1048576)(hq:fD xs=false) : Calls Tryz.prog 229 #[.string (strOfNums xs),.string ⟨#[13,10]⟩] w (cG (.tuple #[.string (strOfNums xs),.bool false]) w):=by
 refine en 18 Tryz.func229 rfl<|sg<|Pl 2<|nt<|sq<|sg<|Pl 2<|L0<|Oc<|m1 (lZ (xs:=xs) (w:=_) hr (by omega)) fun c a=>Pl 1<|nt<|?_
 have b:(!(fD xs))=true:=by simp only[hq,Bool.not_true,Bool.not_false]
 refine ct b<|sg<|Pl 3<|nt<|rt<|tr<|rr (.tuple #[.string (strOfNums xs),.bool false])<|?_
 exact⟨rfl,a⟩
theorem tM{xs:List Int}{w:World}(hr:dc xs)(hl:xs.length≤1048576)(hq:fD xs=false) : Calls Tryz.prog 183 #[.string (strOfNums xs),.string ⟨#[13,10]⟩] w (cG (.tuple #[.string (strOfNums xs),.bool false]) w):=by
 refine en 11 Tryz.func183 rfl<|sg<|Pl 2<|ng<|Pl 2<|L0<|Oc<|m1 (t4 (xs:=xs) (w:=_) hr hl hq) fun b a=>Pl 4<|nt<|rt<|?_
 refine rr (.tuple #[.string (strOfNums xs),.bool false])<|?_
 exact⟨rfl,a⟩
theorem tU{b:List Int}(h:b.getD 0 0=58)(k:fD (b.drop 1)=true) : gy b=some ((b.drop 1).take (b.length-3)):=if_pos ⟨h,k⟩
theorem wy{b:List Int}(h:¬ b.getD 0 0=58) : gy b=none:=if_neg fun k=>h k.1
theorem wI{b:List Int}(k:fD (b.drop 1)=false) : gy b=none:=if_neg fun h=>by rw[k] at h;cases h.2
theorem zj{b l:List Int}{w w':World}{e:Ending}(h:gy b=some l)(k:e = .returned (.tuple #[.string (strOfNums l),.bool true])∧aC [] w w') : o4 b w e w':=by
  unfold o4
  rw[h]
  exact k
theorem uS{b:List Int}{w w':World}{e:Ending}(h:gy b=none)(k:∃ s,e = .returned (.tuple #[.string s,.bool false])∧aC [] w w') : o4 b w e w':=by
  unfold o4
  rw[h]
  exact k
theorem lU{b:List Int}{w:World}(hr:dc b)(hl:b.length≤1048576)(h0:0<b.length) : Calls Tryz.prog 122 #[.string (strOfNums b)] w (o4 b w):=by
 refine en 18 Tryz.func122 rfl<|sg<|Pl 2<|nt<|sq<|sg<|Pl 1<|L0<|AX (sv:=strOfNums b) Tryz.underlying9 fun f m n o p=>nt<|bk<|?_
 refine iN (fun x=>[(0,.string (strOfNums b)),(7,.pointer (some ⟨f,0,none⟩))]) (fun(x:Unit) w'=>aC [] m w'∧(0≤0)) (fun x=>0) () ⟨aC.refl _ _,(by(try dsimp only);omega)⟩ ?_
 rintro z v ⟨g,q⟩
 refine iy [(0,.string (strOfNums b)),(7,.pointer (some ⟨f,0,none⟩))] ?_
 have y:0≤0:=q
 refine sg<|?_
 refine L0<|Bs hr (by omega) (ub g o) fun r A h s=>Pl 1<|nt<|sq<|c1<|bf<|bk<|sg<|Pl 2<|nt<|?_
 refine sq<|sg<|Pl 2<|nt<|?_
 have a:=ud p (uz g s) n
 refine cb ((r != 58)) (fun c=>?_) (fun c=>?_)
 have d:=ax c
 refine sg<|Pl 2<|nt<|rt<|tr<|br<|tr<|br<|tr<|rr (.tuple #[.string ⟨#[]⟩,.bool false])<|?_
 exact uS (wy fun e=>d (h.2 e)) ⟨_,rfl,a⟩
 have d:=ag c
 refine bf<|xt<|Bu<|tx<|bx<|tn<|sg<|Pl 1<|?_
 have j:dc (b.drop 1):=kg hr 1
 refine L0<|iP (.string (strOfNums (b.drop 1))) (mQ (xs:=b) (k:=.i64) (i:=1) 1 rfl Tryz.underlying9 (by kernel_rfl) (by kernel_rfl) rfl (by omega))<|?_
 rcases ej (fD (b.drop 1)) with hq|hq
 refine L0<|Oc<|m1 (v8 (xs:=(b.drop 1)) (w:=_) j (by rw[List.length_drop];omega) hq) fun B t=>Pl 4<|nt<|rt<|rr (.tuple #[.string (strOfNums ((b.drop 1).take ((((b.drop 1).length:Nat) : Int)-2).toNat)),.bool true])<|?_
 exact zj (l:=(b.drop 1).take (b.length-3)) (tU (h.1 d) hq) ⟨by rw[show b.length-3=((((b.drop 1).length:Nat) : Int)-2).toNat from by rw[List.length_drop];omega],(aD a t)⟩
 refine L0<|Oc<|m1 (tM (xs:=(b.drop 1)) (w:=_) j (by rw[List.length_drop];omega) hq) fun C u=>Pl 4<|nt<|rt<|rr (.tuple #[.string (strOfNums (b.drop 1)),.bool false])<|?_
 exact uS (wI hq) ⟨_,rfl,(aD a u)⟩
open Go.RowKit
theorem s6{b s:List Int}(hr:dc b)(h:gy b=some s) : dc s:=by
  obtain⟨_,_,rfl,_⟩:=jQ h
  exact mS (kg hr 1) _
theorem xr{b l:List Int}{w:World}(h:gy b=some l)(e:Ending)(w':World)(k:o4 b w e w') : e = .returned (.tuple #[.string (strOfNums l),.bool true])∧aC [] w w':=by
  unfold o4 at k
  rw[h] at k
  exact k
theorem xC{b:List Int}{w:World}(h:gy b=none)(e:Ending)(w':World)(k:o4 b w e w') : ∃ s,e = .returned (.tuple #[.string s,.bool false])∧aC [] w w':=by
  unfold o4 at k
  rw[h] at k
  exact k
theorem oZ{b l:List Int}{w:World}(h:bT b=some l)(e:Ending)(w':World)(k:gw b w e w') : ∃ v,e = .returned (.tuple #[v,.int .i64 0])∧eB w.heap.size w' v l∧aC [] w w':=by
  unfold gw at k
  rw[h] at k
  exact k
theorem pO{b:List Int}{w:World}(h:bT b=none)(e:Ending)(w':World)(k:gw b w e w') : e = .returned (.tuple #[.slice none 0 0,.int .i64 11])∧aC [] w w':=by
  unfold gw at k
  rw[h] at k
  exact k
def eq (x:List Int) : List Int:=(x.take (x.length-1)).drop 1
theorem j6(x:List Int) : eq x=(x.take (((x.length:Nat) : Int)-1).toNat).drop 1:=by
  unfold eq
  rw[show(((x.length:Nat) : Int)-1).toNat=x.length-1 from by omega]
def ex (dir:Int)(b:List Int) : fy × Int :=
  if dir != 0&&dir != 1 then (fy.zero,1)
  else if decide ((b.length:Int)<9) then (fy.zero,2)
  else if decide (513<(b.length:Int)) then (fy.zero,3)
  else match gy b with
    | none=>(fy.zero,12)
    | some s=>match bT s with
      | none=>(fy.zero,11)
      | some x=>if !(dS x) then (fy.zero,10) else eu (x.getD 0 0) 0 (cH dir (eq x))
theorem qS{m:Md}{A:Option Addr}{cp:Nat}{b:List Int}{w:World}{dir:Int}(hsl0:b9 m w (.slice A b.length cp) b)(hb:b.length≤1048576) :
    Calls Tryz.prog 60 #[.int .i64 dir,.slice A b.length cp] w (qW (ex dir b) w):=by
 have hln:(b.length:Int)≤1048576:=by omega
 have hr:dc b:=b9.range hsl0
 refine en 71 Tryz.func60 rfl<|sg<|L0<|bH #[.int .u8 0,.int .u16 0,.int .u8 0,.int .u8 0,.int .u16 0,.int .u16 0,.int .u16 0,.int .u16 0,.int .u16 0,.int .u16 0,.int .u16 0,.int .u16 0,.int .u16 0,.int .u16 0,.slice none 0 0,.slice none 0 0,.slice none 0 0,.slice none 0 0,.int .u8 0,.int .u8 0,.int .u8 0,.int .u8 0,.int .u8 0,.slice none 0 0] fun bw X k d o=>Pl 1<|nt<|sq<|bk<|sg<|Pl 3<|cu 3 [14] 17 (((dir != 0)&&(dir != 1))) (fun K Y=>?_) ?_
 refine bl 14 ((dir != 0)) (fun F=>?_) (fun F=>?_)
 have ak:=ax F
 exact Pl 3<|ce Y (dir != 1) (by rw[F];rfl)
 have ak:=ag F
 exact Pl 3<|ce Y false (by rw[F];rfl)
 refine Pl 1<|nt<|cb (((dir != 0)&&(dir != 1))) (fun f=>?_) (fun f=>?_)
 have Z:=(aT f).1
 have a0:=(aT f).2
 have bx:=ax Z
 have bz:=ax a0
 refine sg<|Pl 1<|L0<|b7 d #[.int .u8 0,.int .u16 0,.int .u8 0,.int .u8 0,.int .u16 0,.int .u16 0,.int .u16 0,.int .u16 0,.int .u16 0,.int .u16 0,.int .u16 0,.int .u16 0,.int .u16 0,.int .u16 0,.slice none 0 0,.slice none 0 0,.slice none 0 0,.slice none 0 0,.int .u8 0,.int .u8 0,.int .u8 0,.int .u8 0,.int .u8 0,.slice none 0 0] fun bA al an=>Pl 1<|nt<|rt<|br<|tr<|bJ al (.int .i64 1)<|?_
 have hs:ex dir b=(fy.zero,1):=by
   unfold ex
   (try simp only[f,Z,a0,bs,if_true,if_false,decide_true,decide_false,eu,reduceIte])
   all_goals rfl
 refine eQ hs ?_
 exact dI (ud o an k)
 refine sg<|Pl 4<|nt<|cb ((decide (((b.length:Nat) : Int)<9))) (fun i=>?_) (fun i=>?_)
 have ao:=of_decide_eq_true i
 refine sg<|Pl 1<|L0<|b7 d #[.int .u8 0,.int .u16 0,.int .u8 0,.int .u8 0,.int .u16 0,.int .u16 0,.int .u16 0,.int .u16 0,.int .u16 0,.int .u16 0,.int .u16 0,.int .u16 0,.int .u16 0,.int .u16 0,.slice none 0 0,.slice none 0 0,.slice none 0 0,.slice none 0 0,.int .u8 0,.int .u8 0,.int .u8 0,.int .u8 0,.int .u8 0,.slice none 0 0] fun bB ar au=>Pl 1<|nt<|rt<|br<|tr<|bJ ar (.int .i64 2)<|?_
 have hs:ex dir b=(fy.zero,2):=by
   unfold ex
   (try simp only[f,i,bs,if_true,if_false,decide_true,decide_false,eu,reduceIte])
   all_goals rfl
 refine eQ hs ?_
 exact dI (ud o au k)
 have ao:=of_decide_eq_false i
 refine sg<|Pl 4<|nt<|cb ((decide (513<((b.length:Nat) : Int)))) (fun j=>?_) (fun j=>?_)
 have av:=of_decide_eq_true j
 refine sg<|Pl 1<|L0<|b7 d #[.int .u8 0,.int .u16 0,.int .u8 0,.int .u8 0,.int .u16 0,.int .u16 0,.int .u16 0,.int .u16 0,.int .u16 0,.int .u16 0,.int .u16 0,.int .u16 0,.int .u16 0,.int .u16 0,.slice none 0 0,.slice none 0 0,.slice none 0 0,.slice none 0 0,.int .u8 0,.int .u8 0,.int .u8 0,.int .u8 0,.int .u8 0,.slice none 0 0] fun bC aw ay=>Pl 1<|nt<|rt<|br<|tr<|bJ aw (.int .i64 3)<|?_
 have hs:ex dir b=(fy.zero,3):=by
   unfold ex
   (try simp only[f,i,j,bs,if_true,if_false,decide_true,decide_false,eu,reduceIte])
   all_goals rfl
 refine eQ hs ?_
 exact dI (ud o ay k)
 have av:=of_decide_eq_false j
 refine sk<|bn<|tn<|sg<|Pl 1<|?_
 have Q:=b9.old hsl0 o
 refine L0<|iP (.string (strOfNums b)) (dW (A:=A) (n:=b.length) (c:=cp) rfl (by kernel_rfl) Tryz.underlying22 Tryz.underlying5 Tryz.underlying9 Q)<|?_
 rcases hds:gy b with _|sd
 have aA:=lU (w:=X) (b9.range Q) hb (by omega)
 have aC:=aA.mono (xC hds)
 refine L0<|Oc (args:=#[.string (strOfNums b)])<|e1 aC fun bD bE a1=>Pl 5<|nt<|sq<|sg<|Pl 2<|nt<|c1<|sg<|Pl 1<|?_
 refine L0<|b7 (ub a1 d) #[.int .u8 0,.int .u16 0,.int .u8 0,.int .u8 0,.int .u16 0,.int .u16 0,.int .u16 0,.int .u16 0,.int .u16 0,.int .u16 0,.int .u16 0,.int .u16 0,.int .u16 0,.int .u16 0,.slice none 0 0,.slice none 0 0,.slice none 0 0,.slice none 0 0,.int .u8 0,.int .u8 0,.int .u8 0,.int .u8 0,.int .u8 0,.slice none 0 0] fun bF aE aF=>Pl 1<|nt<|rt<|tr<|bJ aE (.int .i64 12)<|?_
 have hs:ex dir b=(fy.zero,12):=by
   unfold ex
   (try simp only[f,i,j,bs,if_true,if_false,decide_true,decide_false,eu,hds,reduceIte])
   all_goals rfl
 refine eQ hs ?_
 exact dI (ud o (uz a1 aF) k)
 have hsl:=pl hds
 have hsd:dc sd:=s6 hr hds
 have aI:=lU (w:=X) (b9.range Q) hb (by omega)
 have aJ:=aI.mono (xr hds)
 refine L0<|Oc (args:=#[.string (strOfNums b)])<|m1 aJ fun a2 l=>Pl 5<|nt<|sq<|sg<|Pl 2<|nt<|c0<|bf<|sq<|?_
 refine go<|Pl 1<|?_
 have a3:=aD o l
 rcases hth:bT sd with _|x
 have aK:=(ny (w:=a2) hsd (by omega)).mono (pO hth)
 refine L0<|Oc<|m1 aK fun bG a4=>Pl 5<|nt<|sq<|sg<|Pl 2<|nt<|c1<|sg<|Pl 2<|?_
 refine L0<|b7 (ub (aD l a4) d) #[.int .u8 0,.int .u16 0,.int .u8 0,.int .u8 0,.int .u16 0,.int .u16 0,.int .u16 0,.int .u16 0,.int .u16 0,.int .u16 0,.int .u16 0,.int .u16 0,.int .u16 0,.int .u16 0,.slice none 0 0,.slice none 0 0,.slice none 0 0,.slice none 0 0,.int .u8 0,.int .u8 0,.int .u8 0,.int .u8 0,.int .u8 0,.slice none 0 0] fun bI aL aM=>Pl 1<|nt<|rt<|tr<|bJ aL (.int .i64 11)<|?_
 have hs:ex dir b=(fy.zero,11):=by
   unfold ex
   (try simp only[f,i,j,bs,if_true,if_false,decide_true,decide_false,eu,hds,hth,reduceIte])
   all_goals rfl
 refine eQ hs ?_
 exact dI (ud a3 (uz a4 aM) k)
 have hxl:=jT hth
 have aN:=(ny (w:=a2) hsd (by omega)).mono (oZ hth)
 refine L0<|Oc<|dG aN fun R J bK S bL bM a5=>Pl 5<|nt<|sq<|sg<|Pl 2<|nt<|c0<|bf<|sq<|?_
 refine sg<|Pl 1<|L0<|Oc (args:=#[.slice R x.length J])<|m1 (sA (S).rd) fun aO T=>Pl 1<|nt<|?_
 have G:=aD a5 T
 have a6:=aD a3 G
 refine cb ((!(dS x))) (fun p=>?_) (fun p=>?_)
 have L:(dS x)=false:=by simpa using p
 refine sg<|Pl 1<|?_
 refine L0<|b7 (ub (aD l G) d) #[.int .u8 0,.int .u16 0,.int .u8 0,.int .u8 0,.int .u16 0,.int .u16 0,.int .u16 0,.int .u16 0,.int .u16 0,.int .u16 0,.int .u16 0,.int .u16 0,.int .u16 0,.int .u16 0,.slice none 0 0,.slice none 0 0,.slice none 0 0,.slice none 0 0,.int .u8 0,.int .u8 0,.int .u8 0,.int .u8 0,.int .u8 0,.slice none 0 0] fun bN aP aQ=>Pl 1<|nt<|rt<|tr<|bJ aP (.int .i64 10)<|?_
 have hs:ex dir b=(fy.zero,10):=by
   unfold ex
   (try simp only[f,i,j,p,L,bs,if_true,if_false,decide_true,decide_false,eu,hds,hth,reduceIte])
   all_goals rfl
 refine eQ hs ?_
 exact dI (ud a6 aQ k)
 have L:(dS x)=true:=by simpa using p
 refine bf<|sg<|Pl 4<|L0<|Oi (((x.length:Nat) : Int)-1)<|oT (i4 (P:=Tryz.prog) 22 5 1 Tryz.underlying22 rfl rfl R x.length J (lo:=1) (up:=(((x.length:Nat) : Int)-1)) 1 (((((x.length:Nat) : Int)-1)).toNat) (by omega) (by omega) (by omega) (by omega) (by omega)) fun aR hrun79 aS=>L0<|iP (.slice aR ((((((x.length:Nat) : Int)-1)).toNat)-1) (J-1)) (eZ (kl:=.i64) (kh:=.i64) (lo:=1) (hi:=(((x.length:Nat) : Int)-1)) (A:=R) (n:=x.length) (c:=J) rfl Tryz.underlying22 (by kernel_rfl) (by kernel_rfl) (by kernel_rfl) (hrun79 _ _ _))<|?_
 obtain⟨a,H,U⟩ : ∃ M E,cH dir ((x.take (((((x.length:Nat) : Int)-1)).toNat)).drop 1)=(M,E):=⟨_,_,rfl⟩
 have a7:=ap S T (fun x hx=>az) (fun _ _ h=>h)
 have a8:=sZ (dir:=dir) (w:=aO) (aS _ _ _ _ _ (a7).rd) (by rw[List.length_drop,List.length_take];omega)
 rw[U] at a8
 refine L0<|Oc<|e2 a8 fun aV bO a9 V=>?_
 have aX:=a9
 obtain⟨aY,aZ,b0,b1,b2,b3,b4,b5,b6,ba,bb,bP⟩:=aX
 obtain rfl:aV=(bu a aY aZ b0 b1 b2).toArray:=by apply Array.toList_inj.1;simpa using b3
 obtain⟨q,r,rfl,_,_⟩:=b4.shape
 obtain⟨s,t,rfl,_,_⟩:=b5.shape
 obtain⟨u,v,rfl,_,_⟩:=b6.shape
 obtain⟨y,z,rfl,_,_⟩:=ba.shape
 obtain⟨B,C,rfl,_,_⟩:=bb.shape
 refine Pl 3<|L0<|bH mZ fun ab bQ ac bc bd=>L0<|b7 bc (mG a.code a.fail a.addr a.count a.value a.and_ a.or_ a.addr2 a.sub a.status a.events a.messages (.slice q a.words.length r) (.slice s a.bits.length t) (.slice u a.data.length v) (.slice y a.recs.length z) a.mei a.kind a.level a.more a.next (.slice B a.objects.length C)) fun bR be bg=>Pl 1<|nt<|sq<|sg<|Pl 2<|nt<|?_
 have ad:=ud bd bg ac
 have N:=aD V ad
 have ae:=aD a6 N
 refine cb ((H != 0)) (fun I=>?_) (fun I=>?_)
 have bh:=ax I
 refine sg<|Pl 2<|?_
 refine L0<|b7 (ub (aD l (aD G N)) d) #[.int .u8 0,.int .u16 0,.int .u8 0,.int .u8 0,.int .u16 0,.int .u16 0,.int .u16 0,.int .u16 0,.int .u16 0,.int .u16 0,.int .u16 0,.int .u16 0,.int .u16 0,.int .u16 0,.slice none 0 0,.slice none 0 0,.slice none 0 0,.slice none 0 0,.int .u8 0,.int .u8 0,.int .u8 0,.int .u8 0,.int .u8 0,.slice none 0 0] fun bS bj bm=>Pl 1<|nt<|rt<|tr<|bJ bj (.int .i64 H)<|?_
 have hX2:cH dir (eq x)=(a,H):=(congrArg (cH dir) (j6 x)).trans U
 have hs:ex dir b=(fy.zero,H):=by
   unfold ex
   (try simp only[f,i,j,p,L,I,bs,if_true,if_false,decide_true,decide_false,eu,hds,hth,hX2,reduceIte])
   all_goals rfl
 refine eQ hs ?_
 exact dI (ud ae bm k)
 have bh:=ag I
 refine bf<|sq<|?_
 have af:=ap a7 N (fun x hx=>az) (fun _ _ h=>h)
 refine gh (b9.at_ (af).rd 0 (by omega)) fun bo bp ah bq bU=>Rg 8 (fun w'=>w'.cell? ⟨bo,bp+0,none⟩=some (.int .u8 (x.getD 0 0))∧w'.heap[ab]? = some (.cells (mG a.code a.fail a.addr a.count a.value a.and_ a.or_ a.addr2 a.sub a.status a.events a.messages (.slice q a.words.length r) (.slice s a.bits.length t) (.slice u a.data.length v) (.slice y a.recs.length z) a.mei a.kind a.level a.more a.next (.slice B a.objects.length C)) 30 (0,0))) fun bV O=>?_
 have ai:=ub O be
 refine bi ⟨(uc O bq),ai⟩ fun D=>Rt 0 D<|nK 1 D x.length 0 0 rfl ah (by omega)<|Rl 2 D (fun _ hs=>hs.1)<|Rt 3 D<|Rr 4 D (.agg (mG a.code a.fail a.addr a.count a.value a.and_ a.or_ a.addr2 a.sub a.status a.events a.messages (.slice q a.words.length r) (.slice s a.bits.length t) (.slice u a.data.length v) (.slice y a.recs.length z) a.mei a.kind a.level a.more a.next (.slice B a.objects.length C))) (fun w' hs=>m7 (g:=ab) (off:=0) [.int .u8 a.code,.int .u8 a.fail,.int .u16 a.addr,.int .u16 a.count,.int .u16 a.value,.int .u16 a.and_,.int .u16 a.or_,.int .u16 a.addr2,.int .u16 a.sub,.int .u16 a.status,.int .u16 a.events,.int .u16 a.messages,.slice q a.words.length r,.slice s a.bits.length t,.slice u a.data.length v,.slice y a.recs.length z,.int .u8 a.mei,.int .u8 a.kind,.int .u8 a.level,.int .u8 a.more,.int .u8 a.next,.slice B a.objects.length C] rfl (by kernel_rfl) hs.2 (by kernel_rfl) (by kernel_rfl) rfl)<|Rt 5 D<|?_
 refine R0 6 rfl<|b7 (ub (aD l (aD G (aD N O))) d) #[.int .u8 (x.getD 0 0),.int .u16 0,.int .u8 a.code,.int .u8 a.fail,.int .u16 a.addr,.int .u16 a.count,.int .u16 a.value,.int .u16 a.and_,.int .u16 a.or_,.int .u16 a.addr2,.int .u16 a.sub,.int .u16 a.status,.int .u16 a.events,.int .u16 a.messages,.slice q a.words.length r,.slice s a.bits.length t,.slice u a.data.length v,.slice y a.recs.length z,.int .u8 a.mei,.int .u8 a.kind,.int .u8 a.level,.int .u8 a.more,.int .u8 a.next,.slice B a.objects.length C] fun bW bt aj=>?_
 have W:=uz O aj
 refine bi ⟨(cB ((ap af W (fun x hx=>(aa (fun e=>(aB (am d) l.size S) (e▸hx)) az)) (fun _ _ h=>h))).rd ah 0 (by omega)),(aW aj (Ne.symm (nb (am d) (le (le (le l.size a5.size) T.size) V.size) ac)) ai)⟩ fun bv=>Rt 7 bv<|re<|tn<|rt<|bJ bt (.int .i64 0)<|?_
 have hX2:cH dir (eq x)=(a,H):=(congrArg (cH dir) (j6 x)).trans U
 have hs:ex dir b=(⟨(x.getD 0 0),0,a⟩,0):=by
   unfold ex
   (try simp only[f,i,j,p,L,I,bs,if_true,if_false,decide_true,decide_false,eu,hds,hth,hX2,reduceIte])
   all_goals rfl
 refine eQ hs ?_
 exact⟨_,rfl,⟨#[.int .u8 a.code,.int .u8 a.fail,.int .u16 a.addr,.int .u16 a.count,.int .u16 a.value,.int .u16 a.and_,.int .u16 a.or_,.int .u16 a.addr2,.int .u16 a.sub,.int .u16 a.status,.int .u16 a.events,.int .u16 a.messages,.slice q a.words.length r,.slice s a.bits.length t,.slice u a.data.length v,.slice y a.recs.length z,.int .u8 a.mei,.int .u8 a.kind,.int .u8 a.level,.int .u8 a.more,.int .u8 a.next,.slice B a.objects.length C],(by as_aux_lemma=>kernel_rfl),(aH.upd a9 (uz ad W) (aq (aU (ub (aD l (aD G V)) d) (by decide)) aG)),b8 (x:=(x.getD 0 0)) (by omega),ez (x:=0) (by omega)⟩,(ud ae W k)⟩
theorem tv{m:Md}{v:Value}{b:List Int}{w:World}{dir:Int}(h:b9 m w v b)(hb:b.length≤1048576) : Calls Tryz.prog 60 #[.int .i64 dir,v] w (qW (ex dir b) w):=by
  obtain⟨A,cp,rfl,_,_⟩:=h.shape
  exact qS h hb
open Go.RowKit
def lb (u:Int)(l:List Int) : List Int:=([58]++cY (([u]++l)++[cg ([u]++l)]))++[13,10]
def fK (dir u t:Int)(M:aP) : Option (List Int) :=
  match cv dir M with
  | none=>none
  | some l=>if t != 0 then none else some (lb u l)
def kV (res:Option (List Int))(w:World)(e:Ending)(w':World) : Prop :=
  match res with
  | some l=>∃ v,e = .returned (.tuple #[v,.int .i64 0])∧fW w.heap.size w' v l∧aC [] w w'
  | none=>e = .returned (.tuple #[.slice none 0 0,.int .i64 1])∧aC [] w w'
theorem jU{x y:Option (List Int)}(h:x=y){w:World}{e:Ending}{w':World}(k:kV y w e w') : kV x w e w':=by rw[h];exact k
theorem fW.weaken{base base':Nat}{w:World}{v:Value}{xs:List Int}(h:fW base w v xs)(k:base'≤base) : fW base' w v xs:=by
  obtain⟨g,cap,cur,n,h1,h2,h3⟩:=h
  exact⟨g,cap,cur,n,h1,Nat.le_trans k h2,h3⟩
theorem iH(b:List Int) : 0≤cg b∧cg b<256:=by unfold cg;omega
theorem jH{m:Md}{cs:Array Value}{M:aP}{w:World}{dir u t:Int}(h:aH m w cs.toList M)(hf:bS M)(hu:B8 u)(ht:dp t) : Calls Tryz.prog 62 #[.int .i64 dir,.agg (#[.int .u8 u,.int .u16 t]++cs)] w (kV (fK dir u t M) w):=by
 have hM:=h
 obtain⟨hu1,hu2⟩:=hu
 obtain⟨ht1,ht2⟩:=ht
 obtain⟨vw,vb,vd,vr,vo,h0,hw,hbt,hd,hr,ho,hR⟩:=h
 obtain rfl:cs=(bu M vw vb vd vr vo).toArray:=by apply Array.toList_inj.1;simpa using h0
 clear h0
 obtain⟨Aw,kw,rfl,_,_⟩:=hw.shape
 obtain⟨Ab,kb,rfl,_,_⟩:=hbt.shape
 obtain⟨Ad,kd,rfl,_,_⟩:=hd.shape
 obtain⟨Ar,kr,rfl,_,_⟩:=hr.shape
 obtain⟨Ao,ko,rfl,_,_⟩:=ho.shape
 obtain⟨q0,q1,q2,q3,q4,q5,q6,q7,q8,q9,B,C,D,E,F,G,H⟩:=hR
 simp only[B8,dp] at q0 q1 q2 q3 q4 q5 q6 q7 q8 q9 B C D E F G H
 refine en 39 Tryz.func62 rfl<|sg<|L0<|dv #[.int .u8 u,.int .u16 t,.int .u8 M.code,.int .u8 M.fail,.int .u16 M.addr,.int .u16 M.count,.int .u16 M.value,.int .u16 M.and_,.int .u16 M.or_,.int .u16 M.addr2,.int .u16 M.sub,.int .u16 M.status,.int .u16 M.events,.int .u16 M.messages,.slice Aw M.words.length kw,.slice Ab M.bits.length kb,.slice Ad M.data.length kd,.slice Ar M.recs.length kr,.int .u8 M.mei,.int .u8 M.kind,.int .u8 M.level,.int .u8 M.more,.int .u8 M.next,.slice Ao M.objects.length ko] fun a2 a3 a4 o c=>Pl 2<|ng<|Pl 2<|L0<|xT o 2 22<|?_
 rcases hwr:cv dir M with _|lw
 have p:=mK (dir:=dir) (aH.old hM c) hf
 rw[hwr] at p
 refine L0<|Oc<|m1 p fun a5 I=>Pl 5<|nt<|sq<|sg<|Pl 8<|nt<|c1<|sg<|Pl 2<|nl<|?_
 refine tn<|rt<|tr<|rr (.tuple #[.slice none 0 0,.int .i64 1])<|?_
 have hs:fK dir u t M=none:=by
   unfold fK
   (try simp only[hwr,bs,if_true,if_false,decide_true,decide_false,reduceIte])
   all_goals rfl
 refine jU hs ?_
 exact⟨rfl,(aD c I)⟩
 have hlw:=pN hwr
 have q:=mK (dir:=dir) (aH.old hM c) hf
 rw[hwr] at q
 refine L0<|Oc<|dG q fun a6 a7 a8 J a9 aa k=>Pl 5<|nt<|sq<|sg<|Pl 5<|?_
 have r:=ub k o
 refine L1<|aO r 1<|Pl 2<|nt<|?_
 have s:=aD c k
 refine cb ((t != 0)) (fun d=>?_) (fun d=>?_)
 have K:=ax d
 refine sg<|Pl 2<|nt<|rt<|tr<|rr (.tuple #[.slice none 0 0,.int .i64 1])<|?_
 have hs:fK dir u t M=none:=by
   unfold fK
   (try simp only[hwr,d,bs,if_true,if_false,decide_true,decide_false,reduceIte])
   all_goals rfl
 refine jU hs ?_
 exact⟨rfl,s⟩
 have K:=ag d
 refine bf<|sg<|Pl 2<|L0<|aO r 0<|L0<|cL (m:=1) (e:=5) #[.int .u8 u] fun L ab N O f=>?_
 have v:=cC N (xs:=[u]) (by as_aux_lemma=>kernel_rfl) (au (by omega) aK) (by(try simp only[List.length_cons,List.length_nil]);omega) O
 refine Pl 1<|?_
 refine L0<|bR aZ (xs:=([u])) (ys:=lw) (.int .u8 0) 1 v ((ap J f (fun x hx=>az) (fun _ _ h=>h))).rd (by(try simp only[List.length_append,List.length_cons,List.length_nil,aA]);omega) f.size fun g P ac l n=>Pl 1<|ng<|Pl 2<|L0<|Oc (args:=#[.slice g (([u]++lw).length) P])<|m1 (n8 (l).rd) fun ad i=>?_
 have ae:=iH ([u]++lw)
 refine L0<|cL (m:=1) (e:=5) #[.int .u8 (cg ([u]++lw))] fun af ah Q R j=>?_
 have S:=cC Q (xs:=[(cg ([u]++lw))]) (by as_aux_lemma=>kernel_rfl) (au (by omega) aK) (by(try simp only[List.length_cons,List.length_nil]);omega) R
 refine L0<|bR aZ (xs:=([u]++lw)) (ys:=([(cg ([u]++lw))])) (.int .u8 0) 1 (ap (ap l i (fun x hx=>az) (fun _ _ h=>h)) j (fun x hx=>az) (fun _ _ h=>h)) (S).rd (by(try simp only[List.length_append,List.length_cons,List.length_nil,aA]);omega) (le (le (le f.size n.size) i.size) j.size) fun T U ai y z=>L0<|Oc (args:=#[.slice T ((([u]++lw)++[(cg ([u]++lw))]).length) U])<|m1 (ux (y).rd (by simp only[List.length_append,List.length_cons,List.length_nil];omega)) fun aj A=>?_
 have V:dc (cY (([u]++lw)++[(cg ([u]++lw))])):=iD (b9.range (y).rd)
 have W:dc ([58]++(cY (([u]++lw)++[(cg ([u]++lw))]))):=fT (by decide) V
 refine L0<|iP (.string (strOfNums ([58]++(cY (([u]++lw)++[(cg ([u]++lw))]))))) (iu (a:=⟨#[58]⟩) (b:=(strOfNums (cY (([u]++lw)++[(cg ([u]++lw))])))) (xs:=([58])) (ys:=(cY (([u]++lw)++[(cg ([u]++lw))]))) rfl (by kernel_rfl) (by kernel_rfl) rfl rfl (by simp only[dy,List.length_append,List.length_cons,List.length_nil];omega))<|?_
 have X:dc (([58]++(cY (([u]++lw)++[(cg ([u]++lw))])))++[13,10]):=fT W (by decide)
 refine L0<|iP (.string (strOfNums (([58]++(cY (([u]++lw)++[(cg ([u]++lw))])))++[13,10]))) (iu (a:=(strOfNums ([58]++(cY (([u]++lw)++[(cg ([u]++lw))]))))) (b:=⟨#[13,10]⟩) (xs:=([58]++(cY (([u]++lw)++[(cg ([u]++lw))])))) (ys:=([13,10])) rfl (by kernel_rfl) (by kernel_rfl) rfl rfl (by simp only[dy,List.length_append,List.length_cons,List.length_nil];omega))<|L0<|Bd (xs:=(([58]++(cY (([u]++lw)++[(cg ([u]++lw))])))++[13,10])) Tryz.underlying9 Tryz.underlying22 Tryz.underlying5 X (by simp only[dy,List.length_append,List.length_cons,List.length_nil];omega) fun Y Z ak a0 a1=>Pl 2<|nt<|rt<|rr (.tuple #[.slice Y ((([58]++(cY (([u]++lw)++[(cg ([u]++lw))])))++[13,10]).length) Z,.int .i64 0])<|?_
 have hs:fK dir u t M=(some (([58]++(cY (([u]++lw)++[(cg ([u]++lw))])))++[13,10])):=by
   unfold fK
   (try simp only[hwr,d,bs,if_true,if_false,decide_true,decide_false,reduceIte])
   all_goals rfl
 refine jU hs ?_
 exact⟨_,rfl,a0.weaken (le (le (le (le (le (le (le c.size k.size) f.size) n.size) i.size) j.size) z.size) A.size),(aD s (ut f (ut (aC.mono (S':=(ob (some ⟨L,0,none⟩)++(ob g++[]))) n (av il ay)) (ut (aC.mono (S':=(ob g++[])) i ay) (ut (aC.mono (S':=(ob g++[])) j ay) (aD z (aD A a1)) (av il ay)) (av il ay)) (av il ay)) (av (aN v lr) (av (aN l lr) ay))))⟩
open Go.RowKit
theorem oN{m:Md}{v:Value}{b:List Int}{w:World}{dir:Int}{F:fy}{E:Int}(hX:ex dir b=(F,E))(h:b9 m w v b)(hb:b.length≤1048576) : Calls Tryz.prog 60 #[.int .i64 dir,v] w (fun e w'=>∃ x,e = .returned (.tuple #[.agg (rJ F.unit F.tid F.msg x),.int .i64 E])∧(aH true w' (pA F.msg x).toList F.msg∧(0≤F.unit∧F.unit<256)∧(0≤F.tid∧F.tid<65536))∧aC [] w w'):=by
  refine(tv h hb).mono ?_
  rintro e w' ⟨cs,rfl,h1,h2⟩
  rw[hX] at h1 ⊢
  obtain⟨c,rfl,h3,h4,h5⟩:=h1
  obtain⟨x,rfl⟩:=ot h3
  exact⟨x,by rw[l7],⟨h3,h4,h5⟩,h2⟩
theorem pP{m:Md}{x:SL}{M:aP}{w:World}{dir u t:Int}(hX:fK dir u t M=none)(h:aH m w (pA M x).toList M)(hf:bS M)(hu:0≤u∧u<256)(ht:0≤t∧t<65536) : Calls Tryz.prog 62 #[.int .i64 dir,.agg (rJ u t M x)] w (fun e w'=>e = .returned (.tuple #[.slice none 0 0,.int .i64 1])∧aC [] w w'):=by
  have:=jH (dir:=dir) h hf hu ht
  rw[hX] at this
  rw[l7]
  exact this
theorem pJ{m:Md}{x:SL}{M:aP}{w:World}{dir u t:Int}{l:List Int}(hX:fK dir u t M=some l)(h:aH m w (pA M x).toList M)(hf:bS M)(hu:0≤u∧u<256)(ht:0≤t∧t<65536) : Calls Tryz.prog 62 #[.int .i64 dir,.agg (rJ u t M x)] w (fun e w'=>∃ v,e = .returned (.tuple #[v,.int .i64 0])∧fW w.heap.size w' v l∧aC [] w w'):=by
  have:=jH (dir:=dir) h hf hu ht
  rw[hX] at this
  rw[l7]
  exact this
open Go.RowKit
theorem vf(a b c d:Int)(w:World) : (Op.equalIn 10000 42 (.agg #[.int .u8 a,.int .u16 b]) (.agg #[.int .u8 c,.int .u16 d])).run Tryz.prog w = .ok ((a==c)&&(b==d)) w:=by
  have hS:Tryz.prog.underlying 42=some (.struct (Tryz.prog.fieldsOf 42)):=by kernel_rfl
  have hp:Tryz.prog.stoodInHeld 42=false:=by kernel_rfl
  rw[show(10000:Nat)=9998+1+1 from rfl,run_equalIn_agg w (9998+1) 42 _ _ hS hp]
  simp only[Program.fieldsOf,Tryz.underlying42]
  have p0:∀ v:Int,(part 5 #[.int .u8 v,.int .u16 b] 0).run Tryz.prog w = .ok (.int .u8 v) w:=fun v=>by simp[part,isAgg,run_underlying Tryz.underlying5,Result.andThen]
  have p0':∀ v:Int,(part 5 #[.int .u8 v,.int .u16 d] 0).run Tryz.prog w = .ok (.int .u8 v) w:=fun v=>by simp[part,isAgg,run_underlying Tryz.underlying5,Result.andThen]
  have p1:∀ v u:Int,(part 24 #[.int .u8 u,.int .u16 v] 1).run Tryz.prog w = .ok (.int .u16 v) w:=fun v u=>by simp[part,isAgg,run_underlying Tryz.underlying24,Result.andThen]
  have e0:=run_equalIn_int (P:=Tryz.prog) w 9998 5 .u8 _ a c Tryz.underlying5
  have e1:=run_equalIn_int (P:=Tryz.prog) w 9998 24 .u16 _ b d Tryz.underlying24
  simp only[Op.eqFields,Sem.run_bind,p0,p0',p1,e0,e1,Result.andThen_ok,ne_eq,String.reduceEq,not_false_eq_true,if_true,Sem.run_ite]
  cases (a==c)<;>cases (b==d)<;>simp
theorem qP{ev:Operand→Value}{o:Oper}{x y:Operand}{t:TypeId}(a b c d:Int){v:Bool}{w:World}(ho:o.op = .binOp .neq 42 x y t)
    (hx:ev x = .agg #[.int .u8 a,.int .u16 b]) (hy:ev y = .agg #[.int .u8 c,.int .u16 d]) (hv:(!((a==c)&&(b==d)))=v) : (execOp ev o).run Tryz.prog w = .ok (.value (.bool v)) w:=by
  subst hv
  have hg:(eqGuard .neq 42 x y (.agg #[.int .u8 a,.int .u16 b]) (.agg #[.int .u8 c,.int .u16 d])).run Tryz.prog w = .ok () w:=run_eqGuard_agg w _ _ _ _ _ _ (by kernel_rfl)
  unfold execOp
  simp only[ho,hx,hy,Sem.run_bind,hg,Result.andThen_ok,run_neq_struct,vf,Sem.run_pure]
open Go.RowKit
theorem zT:fK 0 1 0 o7=some [58,48,49,48,55,70,56,13,10]:=by decide +kernel
theorem A9:ex 0 [58,48,49,48,55,70,56,13,10]=(⟨1,0,o7⟩,0):=by decide +kernel
theorem zK{w:World}:Calls Tryz.prog 62 #[.int .i64 0,.agg #[.int .u8 1,.int .u16 0,.int .u8 7,.int .u8 0,.int .u16 0,.int .u16 0,.int .u16 0,.int .u16 0,.int .u16 0,.int .u16 0,.int .u16 0,.int .u16 0,.int .u16 0,.int .u16 0,.slice none 0 0,.slice none 0 0,.slice none 0 0,.slice none 0 0,.int .u8 0,.int .u8 0,.int .u8 0,.int .u8 0,.int .u8 0,.slice none 0 0]] w (fun e w'=>∃ v,e = .returned (.tuple #[v,.int .i64 0])∧fW w.heap.size w' v [58,48,49,48,55,70,56,13,10]∧aC [] w w'):=by
  have h:=jH (dir:=0) (u:=1) (t:=0) (zE w) yh (show(0:Int)≤1∧(1:Int)<256 from by decide) (show(0:Int)≤0∧(0:Int)<65536 from by decide)
  rw[zT] at h
  rw[show #[.int .u8 1,.int .u16 0,.int .u8 7,.int .u8 0,.int .u16 0,.int .u16 0,.int .u16 0,.int .u16 0,.int .u16 0,.int .u16 0,.int .u16 0,.int .u16 0,.int .u16 0,.int .u16 0,.slice none 0 0,.slice none 0 0,.slice none 0 0,.slice none 0 0,.int .u8 0,.int .u8 0,.int .u8 0,.int .u8 0,.int .u8 0,.slice none 0 0] = #[.int .u8 1,.int .u16 0]++mC 7 from by kernel_rfl]
  exact h
theorem w6{w:World}:Calls Tryz.prog 59 #[] w (cG (.bool true) w):=by
 refine en 40 Tryz.func59 rfl<|sg<|Pl 1<|ng<|Pl 3<|L0<|Oc<|e2 (@zK w) fun t u d l=>?_
 rcases fW.shape d with⟨m,o,rfl⟩
 rcases aL.shape (d).rd with⟨_,_,e,p,q⟩
 injection e with _ _ e
 rw[← e] at p q
 refine Pl 5<|ng<|Pl 1<|L0<|Oc<|e2 (oN A9 (d).rd (by decide)) fun x19 v r f=>?_
 obtain⟨x,y,z⟩:=r
 refine Pl 3<|L0<|bH #[.int .u8 0,.int .u16 0,.int .u8 0,.int .u8 0,.int .u16 0,.int .u16 0,.int .u16 0,.int .u16 0,.int .u16 0,.int .u16 0,.int .u16 0,.int .u16 0,.int .u16 0,.int .u16 0,.slice none 0 0,.slice none 0 0,.slice none 0 0,.slice none 0 0,.int .u8 0,.int .u8 0,.int .u8 0,.int .u8 0,.int .u8 0,.slice none 0 0] fun B C g s h=>L0<|b7 s #[.int .u8 1,.int .u16 0,.int .u8 7,.int .u8 0,.int .u16 0,.int .u16 0,.int .u16 0,.int .u16 0,.int .u16 0,.int .u16 0,.int .u16 0,.int .u16 0,.int .u16 0,.int .u16 0,.slice x19.aw o7.words.length x19.kw,.slice x19.ab o7.bits.length x19.kb,.slice x19.ad o7.data.length x19.kd,.slice x19.ar o7.recs.length x19.kr,.int .u8 0,.int .u8 0,.int .u8 0,.int .u8 0,.int .u8 0,.slice x19.ao o7.objects.length x19.ko] fun D i j=>Pl 1<|ng<|Pl 8<|?_
 refine L1<|iP (.string (strOfNums ([58,48,49,48,55,70,56,13,10]))) (dW (A:=some ⟨m,0,none⟩) (n:=([58,48,49,48,55,70,56,13,10]).length) (c:=o) rfl (by kernel_rfl) Tryz.underlying22 Tryz.underlying5 Tryz.underlying9 (b9.upd' (d).rd (u1 (aD f h) j (ni f.size g)) aG))<|L1<|iP (.bool true) (je (a:=(strOfNums ([58,48,49,48,55,70,56,13,10]))) (b:=⟨#[58,48,49,48,55,70,56,13,10]⟩) rfl (by kernel_rfl) (by kernel_rfl) (wu rfl (by decide)))<|Pl 4<|L1<|aO i 0<|Pl 5<|L1<|aO i 2<|Pl 3<|nt<|rt<|rr (.bool true)<|?_
 have k:=aD l f
 exact⟨rfl,(u1 (aD k h) j (ni k.size g))⟩
end Go.Proofs.YtogbnemojakcpaaGreat
namespace Go.Proofs.YtogbnemojakcpaaGreat
def eM (C:ak) : Prop:=∀ x,x∈C.l→0≤x∧x<256
theorem gk{C:ak}{ok:Bool}{x:Int}(hx:x≠0)(h:(C.need ok x).e=0) : C.e=0∧ok=true:=by
  unfold ak.need at h
  split at h
  · exact absurd h hx
  · rename_i hh
    refine⟨h,?_⟩
    cases ok
    · exact absurd ⟨h,rfl⟩ hh
    · rfl
theorem gN{C:ak}{n:Int}(h:(C.bytesC n).e=0) : C.e=0∧C.l=C.bytesR n++(C.bytesC n).l∧((C.bytesR n).length:Int)=n:=by
  unfold ak.bytesC at h ⊢
  unfold ak.bytesR
  split at h
  · exfalso
    unfold ak.need at h
    split at h
    · cases h
    · rename_i hh
      exact hh ⟨h,rfl⟩
  · rename_i hf
    rw[if_neg hf,if_neg hf]
    refine⟨h,(List.take_append_drop _ _).symm,?_⟩
    unfold ak.fails at hf
    simp only[Bool.or_eq_true,decide_eq_true_eq,not_or] at hf
    rw[List.length_take]
    omega
theorem kZ:∀ (l:List Int),l.length%2=0→(∀ x,x∈l→0≤x∧x<256)→aJ (dl l)=l
  | [],_,_=>rfl
  | [_],h,_=>by simp at h
  | a :: b :: r,h,hr=>by
    have ha:=hr a (by simp)
    have hb:=hr b (by simp)
    simp only[dl,aJ]
    rw[kZ r (by simp at h;omega) (fun x hx=>hr x (by simp[hx]))]
    congr 1
    · omega
    · congr 1
      omega
theorem kk{C:ak}{n:Int}(hr:eM C)(h:(C.wordsC n).e=0) : C.e=0∧C.l=aJ (C.wordsR n)++(C.wordsC n).l∧((C.wordsR n).length:Int)=n:=by
  unfold ak.wordsC at h ⊢
  unfold ak.wordsR
  split at h
  · obtain⟨_,_,h3⟩:=gN h
    omega
  · rename_i hb
    rw[if_neg hb,if_neg hb]
    obtain⟨h1,h2,h3⟩:=gN h
    have h4:(C.bytesR (2*n)).length%2=0:=by omega
    have h5:∀ x,x∈C.bytesR (2*n)→0≤x∧x<256:=fun x hx=>hr x (by rw[h2];exact List.mem_append_left _ hx)
    unfold cI
    rw[if_pos h4]
    refine⟨h1,by rw[kZ _ h4 h5];exact h2,?_⟩
    rw[fB]
    omega
def dq (C:ak)(l:List Int)(C':ak) : Prop:=eM C→eM C'∧(C'.e=0→C.e=0∧C.l=l++C'.l)
theorem dq.trans{A B C:ak}{l m:List Int}(h:dq A l B)(k:dq B m C) : dq A (l++m) C:=fun hr=>by
  obtain⟨h1,h2⟩:=h hr
  obtain⟨k1,k2⟩:=k h1
  refine⟨k1,fun he=>?_⟩
  obtain⟨k3,k4⟩:=k2 he
  obtain⟨h3,h4⟩:=h2 k3
  exact⟨h3,by rw[h4,k4,List.append_assoc]⟩
theorem dq.refl(C:ak) : dq C [] C:=fun hr=>⟨hr,fun he=>⟨he,rfl⟩⟩
theorem dq.need{A C:ak}{l:List Int}{ok:Bool}{x:Int}(h:dq A l C)(hx:x≠0:=by decide) : dq A l (C.need ok x):=fun hr=>by
  obtain⟨h1,h2⟩:=h hr
  refine⟨fun y hy=>h1 y (by rwa [jS] at hy),fun he=>?_⟩
  rw[jS]
  exact h2 (gk hx he).1
theorem dq.bytes{A C:ak}{l:List Int}(h:dq A l C)(n:Int) : dq A (l++C.bytesR n) (C.bytesC n):=h.trans fun hr=>⟨i8 hr n,fun he=>⟨(gN he).1,(gN he).2.1⟩⟩
theorem dq.words{A C:ak}{l:List Int}(h:dq A l C)(n:Int) : dq A (l++aJ (C.wordsR n)) (C.wordsC n):=h.trans fun hr=>⟨cD hr n,fun he=>⟨(kk hr he).1,(kk hr he).2.1⟩⟩
theorem vq{l:List Int}(h:(l.length:Int)=1) : l=[l.getD 0 0]:=by
  match l,h with
  | [a],_=>rfl
  | [],h=>simp at h
  | _ :: _ :: _,h=>simp at h;omega
theorem dq.byte{A C:ak}{l:List Int}(h:dq A l C) : dq A (l++[C.byteV]) (C.bytesC 1):=h.trans fun hr=>⟨i8 hr 1,fun he=>by
  obtain⟨h1,h2,h3⟩:=gN he
  refine⟨h1,?_⟩
  have:=vq h3
  show C.l=[(C.bytesR 1).getD 0 0]++_
  rw[← this]
  exact h2⟩
theorem dq.word{A C:ak}{l:List Int}(h:dq A l C) : dq A (l++aJ [C.wordV]) (C.wordsC 1):=h.trans fun hr=>⟨cD hr 1,fun he=>by
  obtain⟨h1,h2,h3⟩:=kk hr he
  refine⟨h1,?_⟩
  have:=vq h3
  show C.l=aJ [(C.wordsR 1).getD 0 0]++_
  rw[← this]
  exact h2⟩
theorem dq.fin{A C:ak}{l:List Int}(h:dq A l C)(hr:eM A)(he:C.endC.e=0) : C.e=0∧A.l=l:=by
  unfold ak.endC at he
  obtain⟨h1,h2⟩:=gk (by decide) he
  obtain⟨_,h3⟩:=(h hr).2 h1
  have:C.l=[]:=by
    simp only[beq_iff_eq] at h2
    exact List.eq_nil_of_length_eq_zero (by omega)
  exact⟨h1,by rw[h3,this,List.append_nil]⟩
theorem cR{C:ak}(hr:eM C) : 0≤C.byteV∧C.byteV<256:=by
  unfold ak.byteV
  rw[List.getD_eq_getElem?_getD]
  cases h:(C.bytesR 1)[0]? with
  | none=>simp
  | some x =>
    have hm:x∈C.bytesR 1:=List.mem_of_getElem? h
    have:x∈C.l:=by
      unfold ak.bytesR at hm
      split at hm
      · cases hm
      · exact List.mem_of_mem_take hm
    exact hr x this
theorem lW(C:ak)(most:Int) : dq C (aJ [C.wordV,(C.wordsC 1).wordV]) (bA C most):=by
  have:=(((dq.refl C).word).word)
  exact(this.need).need
theorem xK:∀ n:Nat,n<256→(((if ((n:Int)/2 ^ 0%2==1) then 1 else 0)+(if ((n:Int)/2 ^ 1%2==1) then 2 else 0)+(if ((n:Int)/2 ^ 2%2==1) then 4 else 0)+(if ((n:Int)/2 ^ 3%2==1) then 8 else 0)+(if ((n:Int)/2 ^ 4%2==1) then 16 else 0)+(if ((n:Int)/2 ^ 5%2==1) then 32 else 0)+(if ((n:Int)/2 ^ 6%2==1) then 64 else 0)+(if ((n:Int)/2 ^ 7%2==1) then 128 else 0) : Nat) : Int)=n:=by decide +kernel
theorem mD{x:Int}(hx:0≤x∧x<256)(f:Nat→Bool)(hf:∀ i,i<8→f i=(x/2 ^ i%2==1)) :
    (((if f 0 then 1 else 0)+(if f 1 then 2 else 0)+(if f 2 then 4 else 0)+(if f 3 then 8 else 0)+(if f 4 then 16 else 0)+(if f 5 then 32 else 0)+(if f 6 then 64 else 0)+(if f 7 then 128 else 0) : Nat) : Int)=x:=by
  rw[hf 0 (by decide),hf 1 (by decide),hf 2 (by decide),hf 3 (by decide),hf 4 (by decide),hf 5 (by decide),hf 6 (by decide),hf 7 (by decide)]
  obtain⟨n,rfl⟩:=Int.eq_ofNat_of_zero_le hx.1
  exact xK n (by omega)
theorem kx{b:List Int}{n:Int}{l:List Bool}(hr:∀ x,x∈b→0≤x∧x<256)(h:cl b n=some l) : bL l=b:=by
  unfold cl at h
  split at h
  · rename_i hc
    split at h
    · rename_i hall
      injection h with h
      subst h
      have hlen:((List.range n.toNat).map (co b)).length=n.toNat:=by simp
      have hm:((List.range n.toNat).map (co b)).length=n:=by rw[hlen];omega
      unfold bL
      rw[hm,← hc.2]
      apply List.ext_getElem
      · simp
      intro j h1 h2
      simp only[List.getElem_map,List.getElem_range]
      have hj:j<b.length:=h2
      have hget:∀ i,i<8*b.length→((List.range n.toNat).map (co b)).getD i false=co b i:=fun i hi=>by
        rw[List.getD_eq_getElem?_getD,List.getElem?_map]
        by_cases hin:i<n.toNat
        · rw[List.getElem?_range hin];rfl
        · rw[List.getElem?_eq_none (by simpa using hin)]
          rw[List.all_eq_true] at hall
          have:=hall i (by simpa using hi)
          simp only[Bool.or_eq_true,decide_eq_true_eq,Bool.not_eq_true'] at this
          rcases this with h3|h3
          · omega
          · simp[h3]
      have hx:∀ k,k<8→co b (8*j+k)=(b[j]/2 ^ k%2==1):=fun k hk=>by
        unfold co
        rw[show(8*j+k)/8=j from by omega,show(8*j+k)%8=k from by omega,List.getD_eq_getElem?_getD,List.getElem?_eq_getElem hj]
        rfl
      unfold bW
      rw[show(8*j:Nat)=8*j+0 from rfl]
      simp only[hget _ (show 8*j+0<8*b.length by omega),hget _ (show 8*j+0+1<8*b.length by omega),hget _ (show 8*j+0+2<8*b.length by omega),hget _ (show 8*j+0+3<8*b.length by omega),hget _ (show 8*j+0+4<8*b.length by omega),hget _ (show 8*j+0+5<8*b.length by omega),hget _ (show 8*j+0+6<8*b.length by omega),hget _ (show 8*j+0+7<8*b.length by omega)]
      exact mD (hr _ (List.getElem_mem hj)) (fun k=>co b (8*j+k)) hx
    · cases h
  · cases h
end Go.Proofs.YtogbnemojakcpaaGreat
namespace Go.Proofs.YtogbnemojakcpaaGreat
theorem bQ{α β:Type}{p:α × β}{a:α}{b:β}(h:some p=some (a,b)) : p.1=a∧p.2=b:=by
  injection h with h
  rw[h]
  exact⟨rfl,rfl⟩
theorem rM{C:ak}{most c:Int}(hr:eM C)(he:(dm most c C).1.endC.e=0) : aJ [C.wordV,(C.wordsC 1).wordV]=C.l:=((lW C most).fin hr he).2.symm
theorem vU{C:ak}{c:Int}(hr:eM C)(he:(dh c C).1.endC.e=0) : [(((dR C).bytesR C.byteV).length:Int)%256]++(dR C).bytesR C.byteV=C.l:=by
  have hbv:=cR hr
  have hE:dq C ([]++[C.byteV]++(dR C).bytesR C.byteV) ((dR C).bytesC C.byteV):=(((dq.refl C).byte).need).bytes _
  obtain⟨h1,h2⟩:=hE.fin hr he
  obtain⟨_,_,h3⟩:=gN h1
  rw[h2,h3,Int.emod_eq_of_lt hbv.1 hbv.2]
  rfl
theorem tX{C:ak}{c:Int}(hr:eM C)(he:(d6 c C).1.endC.e=0) : aJ [C.wordV,(C.wordsC 1).wordV]=C.l:=by
  have hE:dq C ([]++aJ [C.wordV]++aJ [(C.wordsC 1).wordV]) (fp C):=(((dq.refl C).word).word).need
  rw[(hE.fin hr he).2]
  rfl
theorem yf{C:ak}{c:Int}(hr:eM C)(he:(ga c C).1.endC.e=0) : (aJ [C.wordV,(C.wordsC 1).wordV]++[((bL ((pX C).getD [])).length:Int)%256])++bL ((pX C).getD [])=C.l:=by
  have hE:dq C (aJ [C.wordV,(C.wordsC 1).wordV]++[(bA C 1968).byteV]++(i7 C).bytesR (nA C)) (pV C):=(((((lW C 1968).byte).need).bytes _).need)
  obtain⟨h1,h2⟩:=hE.fin hr he
  obtain⟨h3,h4⟩:=gk (by decide) h1
  obtain⟨_,_,h5⟩:=gN h3
  obtain⟨l,hl⟩:=Option.isSome_iff_exists.1 h4
  have hB:∀ x,x∈(i7 C).bytesR (nA C)→0≤x∧x<256:=fun x hx=>hr x (by rw[h2];exact List.mem_append_right _ hx)
  have h6:bL l=(i7 C).bytesR (nA C):=kx hB hl
  have hk:0≤nA C∧nA C<256:=cR ((lW C 1968) hr).1
  rw[hl]
  show(aJ [C.wordV,(C.wordsC 1).wordV]++[((bL l).length:Int)%256])++bL l=C.l
  rw[h6,h2,h5,Int.emod_eq_of_lt hk.1 hk.2]
  rfl
theorem tO{dir c:Int}{C C':ak}{M:aP}(hd:dir=0∨dir=1)(hr:eM C)(h:aF dir c C=some (C',M))(he:C'.endC.e=0) : bM dir M=C.l:=by
  unfold aF at h
  split at h
  · rename_i hc
    simp only[Bool.or_eq_true,beq_iff_eq] at hc
    rcases hd with rfl|rfl
    · have h:some (dm 2000 c C)=some (C',M):=h
      obtain⟨rfl,rfl⟩:=bQ h
      rcases hc with rfl|rfl<;>exact rM hr he
    · have h:some (dh c C)=some (C',M):=h
      obtain⟨rfl,rfl⟩:=bQ h
      rcases hc with rfl|rfl<;>exact vU hr he
  split at h
  · rename_i hc
    obtain rfl:c=5:=by simpa using hc
    obtain⟨rfl,rfl⟩:=bQ h
    exact tX hr he
  split at h
  · rename_i hc
    obtain rfl:c=15:=by simpa using hc
    rcases hd with rfl|rfl
    · have h:some (ga 15 C)=some (C',M):=h
      obtain⟨rfl,rfl⟩:=bQ h
      exact yf hr he
    · have h:some (dm 1968 15 C)=some (C',M):=h
      obtain⟨rfl,rfl⟩:=bQ h
      exact rM hr he
  · cases h
theorem iB{A C:ak}{l:List Int}(h:dq A l C)(a most:Int) : dq A (l++aJ [C.wordV]) (bG C a most):=((h.word).need).need
theorem zL{n hi:Int}(h:iv n hi=true) : n%2=0∧2≤n∧n≤hi:=by
  unfold iv at h
  simp only[Bool.and_eq_true,decide_eq_true_eq,beq_iff_eq] at h
  exact⟨h.1.1,h.1.2,h.2⟩
theorem p3{c:Int}{C:ak}(hr:eM C)(he:(cm c C).1.endC.e=0) : [(2*(((kv C).wordsR (C.byteV/2)).length:Int))%256]++aJ ((kv C).wordsR (C.byteV/2))=C.l:=by
  have hbv:=cR hr
  have hE0:dq C ([]++[C.byteV]) (kv C):=((dq.refl C).byte).need
  have hE:=hE0.words (C.byteV/2)
  obtain⟨h1,h2⟩:=hE.fin hr he
  obtain⟨h3,_,h5⟩:=kk (hE0 hr).1 h1
  obtain⟨h6,h7,h8⟩:=zL (gk (by decide) h3).2
  rw[h2,h5,show(2*(C.byteV/2))%256=C.byteV from by omega]
  rfl
theorem ox{most c:Int}{C:ak}(hr:eM C)(he:(bZ most c C).1.endC.e=0) : aJ [C.wordV,(C.wordsC 1).wordV]=C.l:=by
  rw[((iB (dq.refl C).word C.wordV most).fin hr he).2]
  rfl
theorem wg{c:Int}{C:ak}(hr:eM C)(he:(dN c C).1.endC.e=0) : aJ [C.wordV,(C.wordsC 1).wordV]=C.l:=by
  rw[(((dq.refl C).word).word.fin hr he).2]
  rfl
theorem kH{A C:ak}{l:List Int}(h:dq A l C)(n:Int) : dq A (l++[C.byteV]) (cU C n):=(h.byte).need
theorem vK{c:Int}{C:ak}(hr:eM C)(he:(d8 c C).1.endC.e=0) : (aJ [C.wordV,(C.wordsC 1).wordV]++[(2*(((iq C).wordsR (C.wordsC 1).wordV).length:Int))%256])++aJ ((iq C).wordsR (C.wordsC 1).wordV)=C.l:=by
  have hE0:dq C _ (bG (C.wordsC 1) C.wordV 123):=iB (dq.refl C).word C.wordV 123
  have hE1:dq C _ (iq C):=kH hE0 (C.wordsC 1).wordV
  have hbv:=cR (hE0 hr).1
  obtain⟨h1,h2⟩:=(hE1.words (C.wordsC 1).wordV).fin hr he
  obtain⟨h3,_,h5⟩:=kk (hE1 hr).1 h1
  have h6:=(gk (by decide) h3).2
  simp only[beq_iff_eq] at h6
  rw[h5,← h6,Int.emod_eq_of_lt hbv.1 hbv.2,h2]
  rfl
theorem uW{c:Int}{C:ak}(hr:eM C)(he:(cS c C).1.endC.e=0) : aJ [C.wordV,(C.wordsC 1).wordV,((C.wordsC 1).wordsC 1).wordV]=C.l:=by
  rw[(((dq.refl C).word).word.word.fin hr he).2]
  rfl
theorem v6{c:Int}{C:ak}(hr:eM C)(he:(d9 c C).1.endC.e=0) : (aJ [C.wordV,(C.wordsC 1).wordV,(bG (C.wordsC 1) C.wordV 125).wordV,(((gZ C).wordsR (fI C).wordV).length:Int)%65536]++[(2*(((gZ C).wordsR (fI C).wordV).length:Int))%256])++aJ ((gZ C).wordsR (fI C).wordV)=C.l:=by
  have hE0:dq C _ (fI C):=(iB (dq.refl C).word C.wordV 125).word
  have hE1:dq C _ (pB C):=iB hE0 (bG (C.wordsC 1) C.wordV 125).wordV 121
  have hE2:dq C _ (gZ C):=kH hE1 (fI C).wordV
  have hbv:=cR (hE1 hr).1
  have hwv:0≤(fI C).wordV∧(fI C).wordV<65536:=bN (hE0 hr).1
  obtain⟨h1,h2⟩:=(hE2.words (fI C).wordV).fin hr he
  obtain⟨h3,_,h5⟩:=kk (hE2 hr).1 h1
  have h6:=(gk (by decide) h3).2
  simp only[beq_iff_eq] at h6
  rw[h5,Int.emod_eq_of_lt hwv.1 hwv.2,← h6,Int.emod_eq_of_lt hbv.1 hbv.2,h2]
  rfl
theorem vJ{c:Int}{C:ak}(hr:eM C)(he:(d7 c C).1.endC.e=0) : aJ [C.wordV]=C.l:=by
  rw[((dq.refl C).word.fin hr he).2]
  rfl
theorem zJ{c:Int}{C:ak}(hr:eM C)(he:(kN c C).1.endC.e=0) : aJ [(2+2*(((xw C).wordsR (rB C).wordV).length:Int))%65536,(((xw C).wordsR (rB C).wordV).length:Int)%65536]++aJ ((xw C).wordsR (rB C).wordV)=C.l:=by
  have hE0:dq C _ (rB C):=((dq.refl C).word).need
  have hE1:dq C _ (xw C):=(hE0.word).need
  have hwc:0≤C.wordV∧C.wordV<65536:=bN hr
  have hwv:0≤(rB C).wordV∧(rB C).wordV<65536:=bN (hE0 hr).1
  obtain⟨h1,h2⟩:=(hE1.words (rB C).wordV).fin hr he
  obtain⟨h3,_,h5⟩:=kk (hE1 hr).1 h1
  have h6:=(gk (by decide) h3).2
  simp only[beq_iff_eq] at h6
  rw[h5,h6,Int.emod_eq_of_lt hwv.1 hwv.2,Int.emod_eq_of_lt hwc.1 hwc.2,h2]
  rfl
theorem xB{dir c:Int}{C C':ak}{M:aP}(hd:dir=0∨dir=1)(hr:eM C)(h:aM dir c C=some (C',M))(he:C'.endC.e=0) : bF dir M=C.l:=by
  unfold aM at h
  split at h
  · rename_i hc
    simp only[Bool.or_eq_true,beq_iff_eq] at hc
    rcases hd with rfl|rfl
    · have h:some (bZ 125 c C)=some (C',M):=h
      obtain⟨rfl,rfl⟩:=bQ h
      rcases hc with rfl|rfl<;>exact ox hr he
    · have h:some (cm c C)=some (C',M):=h
      obtain⟨rfl,rfl⟩:=bQ h
      rcases hc with rfl|rfl<;>exact p3 hr he
  split at h
  · rename_i hc
    obtain rfl:c=6:=by simpa using hc
    obtain⟨rfl,rfl⟩:=bQ h
    rcases hd with rfl|rfl<;>exact wg hr he
  split at h
  · rename_i hc
    obtain rfl:c=16:=by simpa using hc
    rcases hd with rfl|rfl
    · have h:some (d8 16 C)=some (C',M):=h
      obtain⟨rfl,rfl⟩:=bQ h
      exact vK hr he
    · have h:some (bZ 123 16 C)=some (C',M):=h
      obtain⟨rfl,rfl⟩:=bQ h
      exact ox hr he
  split at h
  · rename_i hc
    obtain rfl:c=22:=by simpa using hc
    obtain⟨rfl,rfl⟩:=bQ h
    rcases hd with rfl|rfl<;>exact uW hr he
  split at h
  · rename_i hc
    obtain rfl:c=23:=by simpa using hc
    rcases hd with rfl|rfl
    · have h:some (d9 23 C)=some (C',M):=h
      obtain⟨rfl,rfl⟩:=bQ h
      exact v6 hr he
    · have h:some (cm 23 C)=some (C',M):=h
      obtain⟨rfl,rfl⟩:=bQ h
      exact p3 hr he
  split at h
  · rename_i hc
    obtain rfl:c=24:=by simpa using hc
    rcases hd with rfl|rfl
    · have h:some (d7 24 C)=some (C',M):=h
      obtain⟨rfl,rfl⟩:=bQ h
      exact vJ hr he
    · have h:some (kN 24 C)=some (C',M):=h
      obtain⟨rfl,rfl⟩:=bQ h
      exact zJ hr he
  · cases h
end Go.Proofs.YtogbnemojakcpaaGreat
namespace Go.Proofs.YtogbnemojakcpaaGreat
theorem dq.conv{A C:ak}{l l':List Int}(h:dq A l C)(k:eM A→eM C→C.e=0→l=l') : dq A l' C:=fun hr=>by
  obtain⟨h1,h2⟩:=h hr
  refine⟨h1,fun he=>?_⟩
  rw[← k hr h1 he]
  exact h2 he
theorem xj{dir c:Int}{C:ak}(hr:eM C)(he:(ea dir c C).1.endC.e=0) : aJ [(ea dir c C).2.sub]++aJ (ea dir c C).2.words=C.l:=by
  have hE0:dq C ([]++aJ [C.wordV]) (eP dir C):=((dq.refl C).word).need
  unfold ea at he ⊢
  split at he
  · rename_i hw
    rw[if_pos hw]
    exact(((hE0.words 1).need).fin hr he).2.symm
  · rename_i hw
    rw[if_neg hw]
    exact(((hE0.need).words _).fin hr he).2.symm
theorem oR(C:ak)(lo hi:Int) : dq C ([]++[C.byteV]) (fv C lo hi):=((dq.refl C).byte).need
theorem oX{A C:ak}{l:List Int}(h:dq A l C) : dq A (l++aJ [C.wordV]) (dA C):=(h.word).need
theorem yg{c:Int}{C:ak}(hc:c=7∨c=11∨c=12∨c=17)(hr:eM C)(he:(cn c C).1.endC.e=0) : bI 1 (cn c C).2=C.l:=by
  have hbv:=cR hr
  rcases hc with rfl|rfl|rfl|rfl
  · have he:(C.bytesC 1).endC.e=0:=he
    show[C.byteV%256]=C.l
    rw[Int.emod_eq_of_lt hbv.1 hbv.2,((dq.refl C).byte.fin hr he).2]
    rfl
  · have he:((dA C).wordsC 1).endC.e=0:=he
    show aJ [C.wordV,(dA C).wordV]=C.l
    rw[((oX (dq.refl C)).word.fin hr he).2]
    rfl
  · have he:((fU C).bytesC (C.byteV-6)).endC.e=0:=he
    have hE:=(((oX (oR C 6 70)).word).word).bytes (C.byteV-6)
    obtain⟨h1,h2⟩:=hE.fin hr he
    obtain⟨_,_,h3⟩:=gN h1
    show([(6+(((fU C).bytesR (C.byteV-6)).length:Int))%256]++aJ [(fv C 6 70).wordV,(dA (fv C 6 70)).wordV,((dA (fv C 6 70)).wordsC 1).wordV])++(fU C).bytesR (C.byteV-6)=C.l
    have h4:(((fU C).bytesR (C.byteV-6)).length:Int)=C.byteV-6:=h3
    rw[h4,show(6+(C.byteV-6))%256=C.byteV from by omega,h2]
    rfl
  · have he:((fv C 1 251).bytesC C.byteV).endC.e=0:=he
    have hE:=(oR C 1 251).bytes C.byteV
    obtain⟨h1,h2⟩:=hE.fin hr he
    obtain⟨_,_,h3⟩:=gN h1
    show[(((fv C 1 251).bytesR C.byteV).length:Int)%256]++(fv C 1 251).bytesR C.byteV=C.l
    rw[h3,Int.emod_eq_of_lt hbv.1 hbv.2,h2]
    rfl
theorem yr{c:Int}{C:ak}(hc:c=7∨c=11∨c=12∨c=17)(hr:eM C)(he:C.endC.e=0) : bI 0 { aP.zero with code:=c }=C.l:=by
  have h:=((dq.refl C).fin hr he).2
  rcases hc with rfl|rfl|rfl|rfl<;>exact h.symm
theorem xH{dir c:Int}{C C':ak}{M:aP}(hd:dir=0∨dir=1)(hr:eM C)(h:aV dir c C=some (C',M))(he:C'.endC.e=0) : bI dir M=C.l:=by
  unfold aV at h
  split at h
  · rename_i hc
    obtain rfl:c=8:=by simpa using hc
    obtain⟨rfl,rfl⟩:=bQ h
    have hco:(ea dir 8 C).2.code=8:=by unfold ea;split<;>rfl
    unfold bI
    rw[hco,if_pos (by rfl)]
    exact xj hr he
  split at h
  · rename_i hc
    simp only[Bool.or_eq_true,beq_iff_eq] at hc
    have hc:c=7∨c=11∨c=12∨c=17:=by omega
    rcases hd with rfl|rfl
    · have h:some (C,({ aP.zero with code:=c }:aP))=some (C',M):=h
      obtain⟨rfl,rfl⟩:=bQ h
      exact yr hc hr he
    · have h:some (cn c C)=some (C',M):=h
      obtain⟨rfl,rfl⟩:=bQ h
      exact yg hc hr he
  · cases h
theorem oG:∀ (n:Nat)(C:ak)(L:List Obj),∃ L',(eg n C L).2=L++L'∧L'.length=n∧dq C (eX L') (eg n C L).1
  | 0,C,L=>⟨[],by simp[eg],rfl,dq.refl C⟩
  | n+1,C,L=>by
    obtain⟨L',h1,h2,h3⟩:=oG n (((C.bytesC 1).bytesC 1).bytesC (C.bytesC 1).byteV) (L++[⟨C.byteV,((C.bytesC 1).bytesC 1).bytesR (C.bytesC 1).byteV⟩])
    refine⟨⟨C.byteV,((C.bytesC 1).bytesC 1).bytesR (C.bytesC 1).byteV⟩ :: L',?_,by simp[h2],?_⟩
    · show(eg n _ _).2=_
      rw[h1]
      simp
    · have hE0:dq C _ ((C.bytesC 1).bytesC 1):=(dq.refl C).byte.byte
      have hE1:dq C (([C.byteV,((((C.bytesC 1).bytesC 1).bytesR (C.bytesC 1).byteV).length:Int)%256])++((C.bytesC 1).bytesC 1).bytesR (C.bytesC 1).byteV) (((C.bytesC 1).bytesC 1).bytesC (C.bytesC 1).byteV):=(hE0.bytes _).conv fun hr _ he=>by
        have hb:=cR ((dq.refl C).byte hr).1
        rw[(gN he).2.2,Int.emod_eq_of_lt hb.1 hb.2]
        rfl
      exact hE1.trans h3
theorem uD{c:Int}{C:ak}(hr:eM C)(he:(dT (dB C).byteV (ek C)).1.endC.e=0) : [C.byteV,(dB C).byteV,(ek C).byteV,(kK (ek C)).byteV,(kL (ek C)).byteV,((dT (dB C).byteV (ek C)).2.length:Int)%256]++eX (dT (dB C).byteV (ek C)).2=C.l:=by
  have hE0:dq C _ (dB C):=(dq.refl C).byte.need
  have hE1:dq C _ (ek C):=hE0.byte.need
  have hE2:dq C _ (kK (ek C)):=hE1.byte.need
  have hE3:dq C _ (kL (ek C)):=hE2.byte.need
  have hE4:dq C _ (mA (ek C)):=hE3.byte.need
  have hE5:dq C _ (tV (dB C).byteV (ek C)):=hE4.byte.need
  obtain⟨L',h1,h2,h3⟩:=oG (mA (ek C)).byteV.toNat (tV (dB C).byteV (ek C)) []
  have hb:=cR (hE4 hr).1
  have h4:(dT (dB C).byteV (ek C)).2=L':=by unfold dT;rw[h1];rfl
  obtain⟨_,h5⟩:=(hE5.trans h3).fin hr he
  rw[h4,h2,show(((mA (ek C)).byteV.toNat:Nat) : Int)%256=(mA (ek C)).byteV from by omega,h5]
  rfl
theorem yt{dir c:Int}{C C':ak}{M:aP}(hd:dir=0∨dir=1)(hr:eM C)(h:bD dir c C=some (C',M))(he:C'.endC.e=0) : cQ dir M=C.l:=by
  have hE0:dq C _ (dB C):=(dq.refl C).byte.need
  unfold bD at h
  split at h
  · cases h
  split at h
  · rename_i hm
    obtain⟨rfl,rfl⟩:=bQ h
    have hE1:=(hE0.need (ok:=decide (((dB C).l.length:Int)≤251)) (x:=5)).bytes ((fF C).l.length:Int)
    obtain⟨_,h5⟩:=hE1.fin hr he
    unfold cQ
    rw[if_pos (show(C.byteV==13)=true from hm),h5]
    rfl
  rename_i hm
  split at h
  · rename_i hc
    obtain rfl:dir=1:=by simpa using hc
    obtain⟨rfl,rfl⟩:=bQ h
    unfold cQ
    rw[if_neg (show ¬ (C.byteV==13)=true from hm),if_neg (by decide)]
    exact uD (c:=c) hr he
  · rename_i hc
    obtain rfl:dir=0:=by
      rcases hd with rfl|rfl
      · rfl
      · exact absurd rfl hc
    obtain⟨rfl,rfl⟩:=bQ h
    have hE1:dq C _ (ek C):=hE0.byte.need
    obtain⟨_,h5⟩:=hE1.byte.fin hr he
    unfold cQ
    rw[if_neg (show ¬ (C.byteV==13)=true from hm),if_pos (by rfl),h5]
    rfl
theorem pH{one:Int→ak→Int × ak × dj}{dir code:Int}(hl:∀ s C,0<C.l.length→(one s C).2.1.l.length<C.l.length)(hE:∀ s C,dq C (jd dir code (one s C).2.2) (one s C).2.1) :
    ∀ (n:Nat) (s:Int) (C:ak) (L:List dj),C.l.length≤n→eM C→(aR one n s C L).1.e=0→∃ L',(aR one n s C L).2=L++L'∧C.l=cX dir code L'
  | 0,s,C,L,h,_,_=>⟨[],by simp[aR],by simpa [cX] using h⟩
  | n+1,s,C,L,h,hr,he=>by
    unfold aR at he ⊢
    split at he
    · rename_i hc
      rw[if_pos hc]
      simp only[Bool.and_eq_true,decide_eq_true_eq,beq_iff_eq] at hc
      have h1:=hl s C (by omega)
      obtain⟨h2,h3⟩:=hE s C hr
      split at he
      · rename_i hn
        rw[he] at hn
        cases hn
      · rename_i hn
        rw[if_neg hn]
        have h4:(one s C).2.1.e=0:=by simpa using hn
        obtain⟨L',h5,h6⟩:=pH hl hE n (one s C).1 (one s C).2.1 (L++[(one s C).2.2]) (by omega) h2 he
        refine⟨(one s C).2.2 :: L',by rw[h5];simp,?_⟩
        rw[(h3 h4).2,h6]
        rfl
    · rename_i hc
      rw[if_neg hc]
      have he:C.e=0:=he
      refine⟨[],by simp,?_⟩
      have:C.l=[]:=by
        apply List.eq_nil_of_length_eq_zero
        simp only[he,Bool.and_eq_true,decide_eq_true_eq,beq_self_eq_true,and_true] at hc
        omega
      rw[this]
      rfl
theorem xa(C:ak) : dq C [6] (ig C):=((dq.refl C).byte.need).conv fun hr _ he=>by
  have h:=(gk (by decide) he).2
  simp only[beq_iff_eq] at h
  rw[h]
  rfl
theorem oY(C:ak) : dq C ([6]++aJ [(aQ C).file,(aQ C).record,(aQ C).count]) (dw C):=by
  have hE1:dq C _ (iO C):=(xa C).word.need
  have hE2:dq C _ (mc C):=hE1.word.need
  have hE3:dq C _ (dw C):=hE2.word.need
  exact hE3
theorem xf(s:Int)(C:ak) : dq C (jd 0 20 (cK s C).2.2) (cK s C).2.1:=by
  have h:dq C _ (eH s C):=(oY C).need
  exact h.conv fun _ _ _=>rfl
theorem wV(dir s:Int)(C:ak) : dq C (jd dir 21 (cM s C).2.2) (cM s C).2.1:=by
  have h:dq C _ (mz C):=(oY C).need
  exact(h.words (mc C).wordV).conv fun _ _ _=>rfl
theorem wM(s:Int)(C:ak) : dq C (jd 1 20 (bK s C).2.2) (bK s C).2.1:=by
  have hE1:dq C _ (ia C):=(dq.refl C).byte.need
  have hE2:dq C _ (fM C):=hE1.byte.need
  refine(hE2.words (Int.tdiv (C.byteV-1) 2)).conv fun hr _ he=>?_
  obtain⟨h1,_,h2⟩:=kk (hE2 hr).1 he
  obtain⟨h3,h4⟩:=gk (by decide) h1
  obtain⟨h5,h6⟩:=gk (by decide) (gN h3).1
  have hb:=cR hr
  simp only[Bool.and_eq_true,decide_eq_true_eq,beq_iff_eq] at h4 h6
  have h7:(1+2*(((fM C).wordsR (Int.tdiv (C.byteV-1) 2)).length:Int))%256=C.byteV:=by
    rw[h2,Int.tdiv_eq_ediv_of_nonneg (by omega)]
    omega
  show _=[(1+2*(((fM C).wordsR (Int.tdiv (C.byteV-1) 2)).length:Int))%256,6]++aJ ((fM C).wordsR (Int.tdiv (C.byteV-1) 2))
  rw[h7,h4]
  rfl
theorem jR{one:Int→ak→Int × ak × dj}{dir code:Int}(hl:∀ s C,0<C.l.length→(one s C).2.1.l.length<C.l.length)(hE:∀ s C,dq C (jd dir code (one s C).2.2) (one s C).2.1){may:Int→Bool}{c:Int}{C:ak}(hr:eM C)
    (he:(dK one may c C).1.endC.e=0) : [((cX dir code (qj one may C).2).length:Int)%256]++cX dir code (qj one may C).2=C.l:=by
  have hE0:dq C _ (kM may C):=(dq.refl C).byte.need
  have hE1:=hE0.bytes C.byteV
  have hb:=cR hr
  unfold ak.endC at he
  obtain⟨h0,a⟩:=gk (by decide) he
  unfold dK at h0 a
  have hw:bp (qj one may C).1.e≠0∨(qj one may C).1.e=0:=by
    by_cases hz:(qj one may C).1.e=0
    · exact Or.inr hz
    · left
      unfold bp
      split
      · decide
      · exact hz
  have h1:((kM may C).bytesC C.byteV).e=0∧(qj one may C).1.e=0:=by
    rcases hw with hw|hw
    · obtain⟨h2,h3⟩:=gk hw h0
      exact⟨h2,by simpa using h3⟩
    · rw[hw] at h0
      refine⟨?_,hw⟩
      unfold ak.need at h0
      rw[if_neg (by rintro⟨_,hx⟩;cases hx)] at h0
      exact h0
  obtain⟨h2,h3,h4⟩:=gN h1.1
  have h5:((kM may C).bytesC C.byteV).l=[]:=by
    rw[jS] at a
    simp only[beq_iff_eq] at a
    exact List.eq_nil_of_length_eq_zero (by omega)
  have h6:C.l=[C.byteV]++(kM may C).bytesR C.byteV:=by
    rw[((hE1 hr).2 h1.1).2,h5]
    simp
  have hB:eM (vX may C):=fun x hx=>hr x (by rw[h6];exact List.mem_append_right _ hx)
  obtain⟨L',h7,h8⟩:=pH hl hE (vX may C).l.length 0 (vX may C) [] (Nat.le_refl _) hB h1.2
  have h9:(qj one may C).2=L':=by unfold qj;rw[h7];rfl
  have b:cX dir code L'=(kM may C).bytesR C.byteV:=h8.symm
  rw[h9,b,h4,Int.emod_eq_of_lt hb.1 hb.2,h6]
theorem km(dir:Int)(M:aP) : cZ dir M=[((cX dir M.code M.recs).length:Int)%256]++cX dir M.code M.recs:=by
  unfold cZ
  simp
theorem vk{dir c:Int}{C C':ak}{M:aP}(hd:dir=0∨dir=1)(hr:eM C)(h:aX dir c C=some (C',M))(he:C'.endC.e=0) : cZ dir M=C.l:=by
  rw[km]
  unfold aX at h
  split at h
  · rename_i hc
    obtain rfl:c=20:=by simpa using hc
    rcases hd with rfl|rfl
    · have h:some (dK cK fC 20 C)=some (C',M):=h
      obtain⟨rfl,rfl⟩:=bQ h
      exact jR od xf hr he
    · have h:some (dK bK fA 20 C)=some (C',M):=h
      obtain⟨rfl,rfl⟩:=bQ h
      exact jR jm wM hr he
  split at h
  · rename_i hc
    obtain rfl:c=21:=by simpa using hc
    obtain⟨rfl,rfl⟩:=bQ h
    exact jR nG (wV dir) hr he
  · cases h
theorem fQ{form:Int→Int→ak→Option (ak × aP)}{lay:Int→aP→List Int}(hf:∀ {dir c:Int}{C C':ak}{M:aP},(dir=0∨dir=1)→eM C→form dir c C=some (C',M)→C'.endC.e=0→lay dir M=C.l)
    {dir c:Int} {b:List Int} {M:aP} (hd:dir=0∨dir=1) (hr:∀ x,x∈b→0≤x∧x<256) (h:ai form dir c b=(M,0)) : lay dir M=b:=by
  unfold ai at h
  rw[if_pos hd] at h
  split at h
  · cases h
  · rename_i r hr'
    unfold b6 at h
    split at h
    · rename_i he
      injection h with h
      obtain⟨C',M'⟩:=r
      have h:M'=M:=h
      subst h
      exact hf (C:=⟨b,false,0⟩) hd hr hr' he
    · rename_i he
      injection h with _ h
      exact absurd h he
theorem fc{parse:Int→Int→List Int→aP × Int}{lay:Int→aP→List Int}{dir:Int}{M:aP}{l:List Int}(h1:lay dir M=l)(h2:parse dir M.code l=(M,0)) : bh parse lay dir M=some l:=by
  unfold bh
  rw[h1,if_pos h2]
theorem xq{k:Nat}{dir:Int}{b:List Int}{M:aP}(hd:dir=0∨dir=1)(hr:∀ x,x∈b→0≤x∧x<256)(h:io k dir b=(M,0))(hc:M.code=b.getD 0 0) : gx k dir M=some (b.drop 1):=by
  have hr':∀ x,x∈b.drop 1→0≤x∧x<256:=fun x hx=>hr x (List.mem_of_mem_drop hx)
  unfold io at h
  split at h
  · exact fc (fQ tO hd hr' h) (by rw[hc];exact h)
  · exact fc (fQ xB hd hr' h) (by rw[hc];exact h)
  · exact fc (fQ xH hd hr' h) (by rw[hc];exact h)
  · exact fc (fQ vk hd hr' h) (by rw[hc];exact h)
  · exact fc (fQ yt hd hr' h) (by rw[hc];exact h)
  · cases h
theorem pS{x:Int}(h:cF x=true) : (x != 0)=true:=by
  unfold cF at h
  simp only[decide_eq_true_eq,List.mem_cons,List.not_mem_nil,or_false] at h
  simp only[bne_iff_ne]
  omega
theorem sQ{x:Int}(h:dJ x=true) : 0<x∧x<128:=by
  unfold dJ at h
  simp only[decide_eq_true_eq,List.mem_cons,List.not_mem_nil,or_false] at h
  omega
theorem pp{dir:Int}{b:List Int}{M:aP}(hd:dir=0∨dir=1)(hr:∀ x,x∈b→0≤x∧x<256)(h:cH dir b=(M,0)) : cv dir M=some b:=by
  unfold cH at h
  split at h
  · cases h
  split at h
  · cases h
  split at h
  · cases h
  rename_i h1 h2 h3
  simp only[beq_iff_eq] at h2
  simp only[decide_eq_true_eq] at h3
  obtain⟨x,t,rfl⟩ : ∃ x t,b=x :: t:=by
    cases b with
    | nil=>exact absurd rfl h2
    | cons x t=>exact⟨x,t,rfl⟩
  have hx:=hr x (by simp)
  split at h
  · rename_i hq
    simp only[Bool.and_eq_true,decide_eq_true_eq,beq_iff_eq] at hq
    obtain⟨rfl,k1,k2,k3,k4⟩:=rP h
    have k5:=sQ k2
    unfold cv
    rw[if_pos (show((gv _ ((x :: t).getD 1 0)).fail != 0)=true from pS k3)]
    rw[if_neg (by rw[hq.2];decide)]
    unfold jO
    have k6:fj (gv (((x :: t).getD 0 0-128)%256) ((x :: t).getD 1 0)).code (gv (((x :: t).getD 0 0-128)%256) ((x :: t).getD 1 0)).fail=true:=by
      show fj (((x :: t).getD 0 0-128)%256) ((x :: t).getD 1 0)=true
      unfold fj
      rw[k2,k3]
      have:(((x :: t).getD 0 0-128)%256 != 0)=true:=by simp only[bne_iff_ne];omega
      rw[this]
      rfl
    rw[k6]
    have k7:decide (gv (((x :: t).getD 0 0-128)%256) ((x :: t).getD 1 0)=gv (gv (((x :: t).getD 0 0-128)%256) ((x :: t).getD 1 0)).code (gv (((x :: t).getD 0 0-128)%256) ((x :: t).getD 1 0)).fail)=true:=decide_eq_true rfl
    rw[k7]
    show some [(((x-128)%256)+128)%256,(x :: t).getD 1 0]=some (x :: t)
    match t,k4 with
    | [y],_ =>
      rw[show(((x-128)%256)+128)%256=x from by omega]
      rfl
  · obtain⟨_,k1⟩:=sG hd h
    obtain⟨k2,k3⟩:=k1 rfl
    have k4:=xq hd hr h k2
    unfold cv
    rw[if_neg (by rw[k3];decide),k2,k4]
    show(if decide (253≤(t.length:Int))=true then none else some ([x]++t))=some (x :: t)
    rw[if_neg (by simp only[decide_eq_true_eq];simp only[List.length_cons] at h3;omega)]
    rfl
end Go.Proofs.YtogbnemojakcpaaGreat
namespace Go.Proofs.YtogbnemojakcpaaGreat
def Sh (C C':ak) : Prop:=C'.l.length≤C.l.length
theorem Sh.refl(C:ak) : Sh C C:=Nat.le_refl _
theorem Sh.bytes{A C:ak}(h:Sh A C){n:Int}:Sh A (C.bytesC n):=Nat.le_trans (j8 C n) h
theorem Sh.words{A C:ak}(h:Sh A C){n:Int}:Sh A (C.wordsC n):=Nat.le_trans (eT C n) h
theorem Sh.need{A C:ak}(h:Sh A C){b:Bool}{e:Int}:Sh A (C.need b e):=by unfold Sh;rw[eL];exact h
open Go.RowKit
open Go.RowKit
def ol (u:Int)(l:List Int) : List Int:=([u]++l)++[cg ([u]++l)]
theorem jy(u:Int)(l:List Int) : (ol u l).length=l.length+2:=by simp[ol]
theorem ri(u:Int)(l:List Int) : lb u l=([58]++cY (ol u l))++[13,10]:=rfl
theorem pG(u:Int)(l:List Int) : (lb u l).length=2*l.length+7:=by
  rw[ri]
  simp only[List.length_append,List.length_cons,List.length_nil,dy,jy]
  omega
theorem t7{u:Int}{l:List Int}(hu:0≤u∧u<256)(hl:dc l) : dc (ol u l):=by
  refine fT (fT ?_ hl) ?_
  · intro x hx;rw[List.mem_singleton] at hx;rw[hx];exact hu
  · intro x hx;rw[List.mem_singleton] at hx;rw[hx];exact iH _
theorem jN{dir u t:Int}{M:aP}{b:List Int}(h:fK dir u t M=some b) : t=0∧∃ l,cv dir M=some l∧b=lb u l∧l.length≤253:=by
  unfold fK at h
  split at h
  · cases h
  · rename_i l hl
    have hle:=pN hl
    split at h
    · cases h
    · rename_i ht
      injection h with h
      exact⟨by simpa using ht,l,hl,h.symm,hle⟩
theorem wG{dir u t:Int}{M:aP}{b:List Int}(hc:0≤M.code∧M.code<256)(h:fK dir u t M=some b) : 9≤b.length∧b.length≤513:=by
  obtain⟨_,l,h1,rfl,h2⟩:=jN h
  have:=pQ hc h1
  rw[pG]
  omega
theorem oW(s:List Int) : (([58]++s)++[13,10]).drop 1=s++[13,10]:=rfl
theorem wj(s:List Int) : fD (s++[13,10])=true:=by
  unfold fD
  have e:(((s++[13,10]).length:Nat) : Int)=(s.length:Int)+2:=by simp
  have e2:((s.length:Int)+2-2).toNat=s.length:=by omega
  rw[e,e2,List.drop_left' rfl]
  simp
  omega
theorem uy(s:List Int) : gy (([58]++s)++[13,10])=some s:=by
  rw[tU rfl (by rw[oW];exact wj s),oW]
  have e:(([58]++s)++[13,10]).length-3=s.length:=by simp
  rw[e,List.take_left' rfl]
theorem uk{b s:List Int}(h:gy b=some s) : b=([58]++s)++[13,10]:=by
  obtain⟨h1,h2,rfl,h3⟩:=jQ h
  cases b with
  | nil=>simp at h3
  | cons a r =>
    have ha:a=58:=h1
    subst ha
    have h2:fD r=true:=h2
    have h4:=lv h2
    unfold fD at h2
    simp only[Bool.and_eq_true,decide_eq_true_eq] at h2
    have h5:=h2.2
    rw[show(((r.length:Nat) : Int)-2).toNat=r.length-2 from by omega] at h5
    show 58 :: r=58 :: (r.take ((58 :: r).length-3)++[13,10])
    rw[show(58 :: r).length-3=r.length-2 from by simp only[List.length_cons];omega,← h5,List.take_append_drop]
theorem oA(a b:List Int) : ∀ k,k≤a.length→fz (a++b) k=fz a k
  | 0,_=>rfl
  | k+1,h=>by
    unfold fz
    rw[oA a b k (by omega),List.getD_eq_getElem?_getD,List.getD_eq_getElem?_getD,List.getElem?_append_left (by omega)]
theorem to(a:List Int)(c:Int) : p6 (a++[c])=(p6 a+c)%256:=by
  unfold p6
  have e:(a++[c]).length=a.length+1:=by simp
  rw[e]
  show(fz (a++[c]) a.length+(a++[c]).getD a.length 0)%256=_
  rw[oA a [c] _ (Nat.le_refl _)]
  simp
theorem ln{a:List Int}{c:Int}(hc:0≤c∧c<256) : dS (a++[c])=true↔c=cg a:=by
  have h:=oQ a a.length
  unfold dS cg
  rw[to]
  have hs:p6 a=fz a a.length:=rfl
  simp only[Bool.and_eq_true,decide_eq_true_eq,beq_iff_eq,List.length_append,List.length_cons,List.length_nil]
  constructor
  · intro k;omega
  · intro k;omega
theorem xl(u:Int)(l:List Int) : dS (ol u l)=true:=(ln (iH _)).2 rfl
theorem zo(u:Int)(l:List Int) : eq (ol u l)=l:=by
  unfold eq
  rw[jy,show l.length+2-1=([u]++l).length from by simp]
  unfold ol
  rw[List.take_left' rfl]
  rfl
theorem zq{dir:Int}{s:List Int}(hd:dir=0∨dir=1)(h:6≤s.length)(h2:s.length≤510) : ex dir (([58]++s)++[13,10])=match bT s with
      | none=>(fy.zero,11)
      | some x=>if !(dS x) then (fy.zero,10) else eu (x.getD 0 0) 0 (cH dir (eq x)):=by
  have hl:((([58]++s)++[13,10]).length:Int)=(s.length:Int)+3:=by simp;omega
  unfold ex
  rw[uy,hl]
  rw[if_neg (show ¬ (dir != 0&&dir != 1)=true by rcases hd with rfl | rfl<;>decide),if_neg (by simp only[decide_eq_true_eq];omega),if_neg (by simp only[decide_eq_true_eq];omega)]
  all_goals rfl
theorem yi{dir u:Int}{l:List Int}(hd:dir=0∨dir=1)(hu:0≤u∧u<256)(hb:dc l)(h:0<l.length)(h2:l.length≤253) : ex dir (lb u l)=eu u 0 (cH dir l):=by
  rw[ri,zq hd (by rw[dy,jy];omega) (by rw[dy,jy];omega),mX _ (t7 hu hb)]
  show(if !(dS (ol u l)) then _ else _)=_
  rw[xl,zo]
  rfl
theorem zi{dir u t:Int}{M:aP}{b:List Int}(hd:dir=0∨dir=1)(hu:0≤u∧u<256)(hc:0≤M.code∧M.code<256)(hf:0≤M.fail∧M.fail<256)(hb:∀ l,cv dir M=some l→dc l)(h:fK dir u t M=some b) : ex dir b=(⟨u,t,M⟩,0):=by
  obtain⟨rfl,l,h1,rfl,h2⟩:=jN h
  rw[yi hd hu (hb l h1) (pQ hc h1) h2,uJ hd hc hf h1]
  rfl
theorem xE{x:List Int}(h:2≤x.length)(hb:dc x)(k:dS x=true) : x=ol (x.getD 0 0) (eq x):=by
  have hne:x≠[]:=fun e=>by rw[e] at h;simp at h
  obtain⟨y,c,rfl⟩ : ∃ y c,x=y++[c]:=⟨x.dropLast,x.getLast hne,(List.dropLast_concat_getLast hne).symm⟩
  have hc:=hb c (by simp)
  have h1:=(ln hc).1 k
  cases y with
  | nil=>simp at h
  | cons u l =>
    have e:eq ((u :: l)++[c])=l:=by
      unfold eq
      rw[show((u :: l)++[c]).length-1=(u :: l).length from by simp,List.take_left' rfl]
      rfl
    rw[e]
    show(u :: l)++[c]=([u]++l)++[cg ([u]++l)]
    rw[h1]
    rfl
theorem uh{dir:Int}{b:List Int}{F:fy}{E:Int}{r:Option (List Int)}(hd:dir=0∨dir=1)(h:ex dir b=(F,E))(hE:(E==0)=true)(hW:fK dir F.unit F.tid F.msg=r) : r=some b∧9≤b.length∧b.length≤513:=by
  obtain rfl:E=0:=by simpa using hE
  unfold ex at h
  split at h
  · cases h
  split at h
  · cases h
  rename_i h2
  split at h
  · cases h
  rename_i h3
  simp only[decide_eq_true_eq] at h2 h3
  cases hs:gy b with
  | none=>rw[hs] at h;cases h
  | some s =>
  rw[hs] at h
  cases hx:bT s with
  | none=>dsimp only at h;rw[hx] at h;cases h
  | some x =>
  dsimp only at h
  rw[hx] at h
  dsimp only at h
  split at h
  · cases h
  rename_i h4
  have h4:dS x=true:=by simpa using h4
  have hl:=pl hs
  have hxl:=jT hx
  obtain⟨e1,e2⟩:=iX hx
  have hsh:=xE (by omega) e2 h4
  cases hp:cH dir (eq x) with
  | mk M E' =>
    rw[hp] at h
    have h:(if (E' != 0)=true then ((fy.zero,E') : fy × Int) else (⟨_,_,M⟩,0))=(F,0):=h
    split at h
    · rename_i h5
      injection h with _ h6
      subst h6
      cases h5
    · rename_i h5
      injection h with h6 _
      subst h6
      obtain rfl:E'=0:=by simpa using h5
      have h7:cv dir M=some (eq x):=pp hd (fun y hy=>e2 y (List.mem_of_mem_take (List.mem_of_mem_drop hy))) hp
      rw[← hW]
      refine⟨?_,by omega,by omega⟩
      show fK dir (x.getD 0 0) 0 M=_
      unfold fK
      rw[h7]
      show some (lb _ _)=_
      rw[ri,← hsh,← e1,← uk hs]
open Go.RowKit
open Go.RowKit
theorem ro{m m':Md}{A B:Option Addr}{c d:Nat}{xs ys:List Int}{w:World}(h1:b9 m w (.slice A xs.length c) xs)(h2:b9 m' w (.slice B ys.length d) ys) :
    Calls Tryz.prog 30 #[.slice A xs.length c,.slice B ys.length d] w (cG (.bool (decide (xs=ys))) w):=by
 refine en 10 Tryz.func30 rfl<|sg<|Pl 1<|ng<|Pl 1<|L0<|iP (.string (strOfNums xs)) (dW (A:=A) (n:=xs.length) (c:=c) rfl (by kernel_rfl) Tryz.underlying22 Tryz.underlying5 Tryz.underlying9 h1)<|Pl 1<|L0<|iP (.string (strOfNums ys)) (dW (A:=B) (n:=ys.length) (c:=d) rfl (by kernel_rfl) Tryz.underlying22 Tryz.underlying5 Tryz.underlying9 h2)<|L0<|iP (.bool (decide (xs=ys))) (je (a:=(strOfNums xs)) (b:=(strOfNums ys)) rfl (by kernel_rfl) (by kernel_rfl) (qX h1 h2))<|Pl 1<|nl<|?_
 refine tn<|rt<|rr (.bool (decide (xs=ys)))<|?_
 exact⟨rfl,(aC.refl [] _)⟩
theorem iA{m m':Md}{a b:Value}{xs ys:List Int}{w:World}(h1:b9 m w a xs)(h2:b9 m' w b ys) : Calls Tryz.prog 30 #[a,b] w (cG (.bool (decide (xs=ys))) w):=by
  obtain⟨A,c,rfl,_,_⟩:=h1.shape
  obtain⟨B,d,rfl,_,_⟩:=h2.shape
  exact ro h1 h2
open Go.RowKit
theorem i5{α:Type}{xs ys:List α}{k:Nat}(h:xs.take k=ys.take k)(h1:k=xs.length)(h2:xs.length=ys.length) : xs=ys:=by
  rw[List.take_of_length_le (by omega),List.take_of_length_le (by omega)] at h
  exact h
theorem ms{m m':Md}{A B:Option Addr}{c d:Nat}{xs ys:List Int}{w:World}(h1:dU m w (.slice A xs.length c) xs)(h2:dU m' w (.slice B ys.length d) ys) :
    Calls Tryz.prog 98 #[.slice A xs.length c,.slice B ys.length d] w (cG (.bool (decide (xs=ys))) w):=by
 have hz1:=aL.len h1
 have hz2:=aL.len h2
 refine en 26 Tryz.func98 rfl<|sg<|Pl 1<|nt<|sq<|sg<|Pl 5<|nt<|cb ((((xs.length:Nat) : Int)!=((ys.length:Nat) : Int))) (fun g=>?_) (fun g=>?_)
 have j:=ax g
 refine sg<|Pl 1<|nt<|rt<|tr<|rr (.bool false)<|?_
 have hs:decide (xs=ys)=false:=decide_eq_false (fun e=>by rw[e] at j;omega)
 rw[hs]
 exact⟨rfl,(aC.refl [] _)⟩
 have j:=ag g
 refine bf<|sq<|sg<|Pl 1<|nt<|bk<|?_
 refine iN (fun x=>[(0,.slice A xs.length c),(1,.slice B ys.length d),(5,.int .i64 ((x:Nat) : Int))]) (fun(x:Nat) w'=>aC [] w w'∧(xs.take x=ys.take x)∧(x≤xs.length)) (fun x=>xs.length-x) 0 ⟨aC.refl _ _,(by(try dsimp only);simp),(by(try dsimp only);omega)⟩ ?_
 rintro k E ⟨b,p,q⟩
 refine iy [(0,.slice A xs.length c),(1,.slice B ys.length d),(5,.int .i64 ((k:Nat) : Int))] ?_
 have l:xs.take k=ys.take k:=p
 have F:k≤xs.length:=q
 refine sq<|sg<|Pl 4<|nt<|cb ((decide (((k:Nat) : Int)<((xs.length:Nat) : Int)))) (fun h=>?_) (fun h=>?_)
 have r:=of_decide_eq_true h
 refine bf<|sq<|bk<|sq<|?_
 refine gh (dU.at_ (dU.old h1 b) k (by omega)) fun s t u v G=>?_
 refine gh (dU.at_ (dU.old h2 b) k (by omega)) fun y z C D H=>Rg 9 (fun w'=>w'.cell? ⟨s,t+k,none⟩=some (.int .u16 (xs.getD k 0))∧w'.cell? ⟨y,z+k,none⟩=some (.int .u16 (ys.getD k 0))) fun I i=>bi ⟨(uc i v),(uc i D)⟩ fun a=>Rt 0 a<|Rt 1 a<|nK 2 a xs.length k ((k:Nat) : Int) rfl u (by omega)<|Rl 3 a (fun _ hs=>hs.1)<|Rt 4 a<|Rt 5 a<|nK 6 a ys.length k ((k:Nat) : Int) rfl C (by omega)<|Rl 7 a (fun _ hs=>hs.2)<|Rt 8 a<|re<|tn<|?_
 have n:=aD b i
 refine cb (((xs.getD k 0)!=(ys.getD k 0))) (fun f=>?_) (fun f=>?_)
 have o:=ax f
 refine sg<|Pl 1<|nt<|rt<|br<|tr<|tr<|br<|tr<|rr (.bool false)<|?_
 have hs:decide (xs=ys)=false:=decide_eq_false (sU (d:=0) k (by simpa using f))
 rw[hs]
 exact⟨rfl,n⟩
 have o:=ag f
 exact sk<|bn<|tn<|go<|Pl 1<|L0<|Oi (((k:Nat) : Int)+1)<|Pl 1<|nl<|gB (k+1) ⟨n,(nf (d:=0) (by omega) (by omega) l o),(by(try dsimp only);omega)⟩ (by omega)
 have r:=of_decide_eq_false h
 refine xt<|tx<|tx<|bx<|tn<|sg<|Pl 1<|nt<|rt<|rr (.bool true)<|?_
 have hs:decide (xs=ys)=true:=decide_eq_true (i5 l (by omega) (by omega))
 rw[hs]
 exact⟨rfl,b⟩
theorem jC{m m':Md}{a b:Value}{xs ys:List Int}{w:World}(h1:dU m w a xs)(h2:dU m' w b ys) : Calls Tryz.prog 98 #[a,b] w (cG (.bool (decide (xs=ys))) w):=by
  obtain⟨A,c,rfl,_,_⟩:=h1.shape
  obtain⟨B,d,rfl,_,_⟩:=h2.shape
  exact ms h1 h2
theorem mE{m m':Md}{A B:Option Addr}{c d:Nat}{xs ys:List Bool}{w:World}(h1:ii m w (.slice A xs.length c) xs)(h2:ii m' w (.slice B ys.length d) ys) :
    Calls Tryz.prog 99 #[.slice A xs.length c,.slice B ys.length d] w (cG (.bool (decide (xs=ys))) w):=by
 have hz1:=aL.len h1
 have hz2:=aL.len h2
 refine en 26 Tryz.func99 rfl<|sg<|Pl 1<|nt<|sq<|sg<|Pl 5<|nt<|cb ((((xs.length:Nat) : Int)!=((ys.length:Nat) : Int))) (fun f=>?_) (fun f=>?_)
 have j:=ax f
 refine sg<|Pl 1<|nt<|rt<|tr<|rr (.bool false)<|?_
 have hs:decide (xs=ys)=false:=decide_eq_false (fun e=>by rw[e] at j;omega)
 rw[hs]
 exact⟨rfl,(aC.refl [] _)⟩
 have j:=ag f
 refine bf<|sq<|sg<|Pl 1<|nt<|bk<|?_
 refine iN (fun x=>[(0,.slice A xs.length c),(1,.slice B ys.length d),(5,.int .i64 ((x:Nat) : Int))]) (fun(x:Nat) w'=>aC [] w w'∧(xs.take x=ys.take x)∧(x≤xs.length)) (fun x=>xs.length-x) 0 ⟨aC.refl _ _,(by(try dsimp only);simp),(by(try dsimp only);omega)⟩ ?_
 rintro k D ⟨b,o,p⟩
 refine iy [(0,.slice A xs.length c),(1,.slice B ys.length d),(5,.int .i64 ((k:Nat) : Int))] ?_
 have l:xs.take k=ys.take k:=o
 have E:k≤xs.length:=p
 refine sq<|sg<|Pl 4<|nt<|cb ((decide (((k:Nat) : Int)<((xs.length:Nat) : Int)))) (fun g=>?_) (fun g=>?_)
 have q:=of_decide_eq_true g
 refine bf<|sq<|bk<|sq<|?_
 refine AC (ii.at_ (ii.old h1 b) k (by omega)) fun r s t u=>?_
 refine AC (ii.at_ (ii.old h2 b) k (by omega)) fun v y z C=>Rg 9 (fun w'=>w'.cell? ⟨r,s+k,none⟩=some (.bool (xs.getD k false))∧w'.cell? ⟨v,y+k,none⟩=some (.bool (ys.getD k false))) fun F h=>bi ⟨(uc h u),(uc h C)⟩ fun a=>Rt 0 a<|Rt 1 a<|nK 2 a xs.length k ((k:Nat) : Int) rfl t (by omega)<|Rl 3 a (fun _ hs=>hs.1)<|Rt 4 a<|Rt 5 a<|nK 6 a ys.length k ((k:Nat) : Int) rfl z (by omega)<|Rl 7 a (fun _ hs=>hs.2)<|Rt 8 a<|re<|tn<|?_
 have n:=aD b h
 refine cb (((xs.getD k false)!=(ys.getD k false))) (fun i=>?_) (fun i=>?_)
 refine sg<|Pl 1<|nt<|rt<|br<|tr<|tr<|br<|tr<|rr (.bool false)<|?_
 have hs:decide (xs=ys)=false:=decide_eq_false (sU (d:=false) k (by simpa using i))
 rw[hs]
 exact⟨rfl,n⟩
 exact sk<|bn<|tn<|go<|Pl 1<|L0<|Oi (((k:Nat) : Int)+1)<|Pl 1<|nl<|gB (k+1) ⟨n,(nf (d:=false) (by omega) (by omega) l (by simpa using i)),(by(try dsimp only);omega)⟩ (by omega)
 have q:=of_decide_eq_false g
 refine xt<|tx<|tx<|bx<|tn<|sg<|Pl 1<|nt<|rt<|rr (.bool true)<|?_
 have hs:decide (xs=ys)=true:=decide_eq_true (i5 l (by omega) (by omega))
 rw[hs]
 exact⟨rfl,b⟩
theorem nV{m m':Md}{a b:Value}{xs ys:List Bool}{w:World}(h1:ii m w a xs)(h2:ii m' w b ys) : Calls Tryz.prog 99 #[a,b] w (cG (.bool (decide (xs=ys))) w):=by
  obtain⟨A,c,rfl,_,_⟩:=h1.shape
  obtain⟨B,d,rfl,_,_⟩:=h2.shape
  exact mE h1 h2
end Go.Proofs.YtogbnemojakcpaaGreat
