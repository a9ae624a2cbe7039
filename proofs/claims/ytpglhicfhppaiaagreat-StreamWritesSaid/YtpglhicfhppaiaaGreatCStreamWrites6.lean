/- Contracts of functions, part CStreamWrites6. -/
import Derived.Test.YtpglhicfhppaiaaGreatCStreamWrites1
import Derived.Test.YtpglhicfhppaiaaGreatCStreamWrites2
import Derived.Test.YtpglhicfhppaiaaGreatCStreamWrites3
import Derived.Test.YtpglhicfhppaiaaGreatCStreamWrites4
import Derived.Test.YtpglhicfhppaiaaGreatCStreamWrites5
import Derived.Deep.Slices
import Derived.ChangeArms
import Derived.WideShapes
set_option linter.unusedVariables false
set_option linter.unusedSimpArgs false
set_option maxRecDepth 100000
set_option maxHeartbeats 4000000
namespace Go.Proofs.YtpglhicfhppaiaaGreat
open Go.RowKit
theorem ri{α:Type}{xs ys:List α}{d:α}{k:Nat}(h:xs.take k=ys.take k)(hk:k<xs.length)(hl:xs.length=ys.length)(he:xs.getD k d=ys.getD k d) : xs.take (k+1)=ys.take (k+1):=by
  have hk2:k<ys.length:=by omega
  rw[List.take_succ_eq_append_getElem hk,List.take_succ_eq_append_getElem hk2,h]
  rw[List.getD_eq_getElem?_getD,List.getElem?_eq_getElem hk,List.getD_eq_getElem?_getD,List.getElem?_eq_getElem (by omega)] at he
  simp only[Option.getD_some] at he
  rw[he]
theorem yH{a b:eq}(h:((((!(decide (a.words=b.words)))||(a.file != b.file))||(a.record != b.record))||(a.count != b.count))=false) : a=b:=by
  cases a
  cases b
  simp at h
  simp[h]
theorem yT{a b:Obj}(h:((!(decide (a.value=b.value)))||(a.id != b.id))=false) : a=b:=by
  cases a
  cases b
  simp at h
  simp[h]
theorem wx{a b:Obj}(h:(!(decide (a.value=b.value)))=false)(h2:(a.id != b.id)=false) : a=b:=yT (by rw[h,h2];rfl)
theorem ma{A B:aV}{f:aV→aV→Bool}(h:f A B=true)(hf:∀ M,f M M=false) : decide (A=B)=false:=decide_eq_false fun e=>by rw[e,hf] at h;cases h
theorem wF{A B:aV}(h1:((((((((((((A.code != B.code)||(A.fail != B.fail))||(A.addr != B.addr))||(A.count != B.count))||(A.value != B.value))||(A.and_ != B.and_))||(A.or_ != B.or_))||(A.addr2 != B.addr2))||(A.sub != B.sub))||(A.status != B.status))||(A.events != B.events))||(A.messages != B.messages))=false)(h2:(((((A.mei != B.mei)||(A.kind != B.kind))||(A.level != B.level))||(A.more != B.more))||(A.next != B.next))=false)(h3:(((((!(decide (A.words=B.words)))||(!(decide (A.bits=B.bits))))||(!(decide (A.data=B.data))))||(((A.recs.length:Nat) : Int)!=((B.recs.length:Nat) : Int)))||(((A.objects.length:Nat) : Int)!=((B.objects.length:Nat) : Int)))=false)(hr:A.recs.length=B.recs.length→A.recs=B.recs)(ho:A.objects.length=B.objects.length→A.objects=B.objects) : A=B:=by
  cases A
  cases B
  simp only[Bool.or_eq_false_iff,bne_eq_false_iff_eq,Bool.not_eq_false',decide_eq_true_eq] at h1 h2 h3
  simp only at hr ho
  obtain⟨⟨⟨⟨⟨⟨⟨⟨⟨⟨⟨a1,a2⟩,a3⟩,a4⟩,a5⟩,a6⟩,a7⟩,a8⟩,a9⟩,a⟩,b⟩,c⟩:=h1
  obtain⟨⟨⟨⟨b1,b2⟩,b3⟩,b4⟩,b5⟩:=h2
  obtain⟨⟨⟨⟨d1,d2⟩,d3⟩,d4⟩,d5⟩:=h3
  have d4:=hr (by omega)
  have d5:=ho (by omega)
  subst a1 a2 a3 a4 a5 a6 a7 a8 a9 a b c b1 b2 b3 b4 b5 d1 d2 d3 d4 d5
  rfl
theorem rZ{m m':Bool}{pc qc:Array Value}{A B:aV}{w:World}(ha:aF m w pc.toList A)(hb:aF m' w qc.toList B) :
    Calls Tryz.prog 22 #[.agg pc,.agg qc] w (bv (.bool (decide (A=B))) w):=by
 have pM:=ha
 obtain⟨pvw,pvb,pvd,pvr,pvo,ph0,phw,phb,phd,phr,pho,pR⟩:=ha
 obtain rfl:pc=(bt A pvw pvb pvd pvr pvo).toArray:=by apply Array.toList_inj.1;simpa using ph0
 clear ph0
 obtain⟨pw,pkw,rfl,_,_⟩:=phw.shape
 obtain⟨pb,pkb,rfl,_,_⟩:=phb.shape
 obtain⟨pd,pkd,rfl,_,_⟩:=phd.shape
 obtain⟨pr,pkr,rfl,_,_⟩:=phr.shape
 obtain⟨po,pko,rfl,_,_⟩:=pho.shape
 have qM:=hb
 obtain⟨qvw,qvb,qvd,qvr,qvo,qh0,qhw,qhb,qhd,qhr,qho,qR⟩:=hb
 obtain rfl:qc=(bt B qvw qvb qvd qvr qvo).toArray:=by apply Array.toList_inj.1;simpa using qh0
 clear qh0
 obtain⟨qw,qkw,rfl,_,_⟩:=qhw.shape
 obtain⟨qb,qkb,rfl,_,_⟩:=qhb.shape
 obtain⟨qd,qkd,rfl,_,_⟩:=qhd.shape
 obtain⟨qr,qkr,rfl,_,_⟩:=qhr.shape
 obtain⟨qo,qko,rfl,_,_⟩:=qho.shape
 have hz1:=aO.len phr
 have hz2:=aO.len pho
 refine en 254 Tryz.func22 rfl<|sg<|L0<|cz (mG A.code A.fail A.addr A.count A.value A.and_ A.or_ A.addr2 A.sub A.status A.events A.messages (.slice pw A.words.length pkw) (.slice pb A.bits.length pkb) (.slice pd A.data.length pkd) (.slice pr A.recs.length pkr) A.mei A.kind A.level A.more A.next (.slice po A.objects.length pko)) fun i dK dL cg ch=>L0<|cz (mG B.code B.fail B.addr B.count B.value B.and_ B.or_ B.addr2 B.sub B.status B.events B.messages (.slice qw B.words.length qkw) (.slice qb B.bits.length qkb) (.slice qd B.data.length qkd) (.slice qr B.recs.length qkr) B.mei B.kind B.level B.more B.next (.slice qo B.objects.length qko)) fun l dM dN b az=>Pl 1<|nt<|sq<|sg<|Pl 1<|?_
 have c:=ub az cg
 refine L0<|aN c 0<|Pl 1<|L0<|aN b 0<|Pl 2<|cu 6 [19] 25 (((A.code != B.code)||(A.fail != B.fail))) (fun K aB=>?_) ?_
 refine bl 19 ((A.code != B.code)) (fun q=>?_) (fun q=>?_)
 have ci:=aA q
 exact Pl 6<|ce aB true (by rw[q];rfl)
 have ci:=ai q
 exact Pl 1<|L1<|aN c 1<|Pl 1<|L1<|aN b 1<|Pl 2<|ce aB (A.fail != B.fail) (by rw[q];rfl)
 refine Pl 1<|cu 6 [26] 32 ((((A.code != B.code)||(A.fail != B.fail))||(A.addr != B.addr))) (fun K aC=>?_) ?_
 refine bl 26 (((A.code != B.code)||(A.fail != B.fail))) (fun r=>?_) (fun r=>?_)
 exact Pl 6<|ce aC true (by rw[r];rfl)
 have cj:=(aH r).1
 have ck:=(aH r).2
 have dO:=ai cj
 have dP:=ai ck
 exact Pl 1<|L1<|aN c 2<|Pl 1<|L1<|aN b 2<|Pl 2<|ce aC (A.addr != B.addr) (by rw[r];rfl)
 refine Pl 1<|cu 6 [33] 39 (((((A.code != B.code)||(A.fail != B.fail))||(A.addr != B.addr))||(A.count != B.count))) (fun K aD=>?_) ?_
 refine bl 33 ((((A.code != B.code)||(A.fail != B.fail))||(A.addr != B.addr))) (fun s=>?_) (fun s=>?_)
 exact Pl 6<|ce aD true (by rw[s];rfl)
 have aG:=(aH s).1
 have cl:=(aH s).2
 have cm:=(aH aG).1
 have cn:=(aH aG).2
 have q25aap:=ai cm
 have q25abp:=ai cn
 have dQ:=ai cl
 exact Pl 1<|L1<|aN c 3<|Pl 1<|L1<|aN b 3<|Pl 2<|ce aD (A.count != B.count) (by rw[s];rfl)
 refine Pl 1<|cu 6 [40] 46 ((((((A.code != B.code)||(A.fail != B.fail))||(A.addr != B.addr))||(A.count != B.count))||(A.value != B.value))) (fun K aI=>?_) ?_
 refine bl 40 (((((A.code != B.code)||(A.fail != B.fail))||(A.addr != B.addr))||(A.count != B.count))) (fun t=>?_) (fun t=>?_)
 exact Pl 6<|ce aI true (by rw[t];rfl)
 have aJ:=(aH t).1
 have co:=(aH t).2
 have aK:=(aH aJ).1
 have cp:=(aH aJ).2
 have q27aaa:=(aH aK).1
 have q27aab:=(aH aK).2
 have q27aaap:=ai q27aaa
 have q27aabp:=ai q27aab
 have q27abp:=ai cp
 have dR:=ai co
 exact Pl 1<|L1<|aN c 4<|Pl 1<|L1<|aN b 4<|Pl 2<|ce aI (A.value != B.value) (by rw[t];rfl)
 refine Pl 1<|cu 6 [47] 53 (((((((A.code != B.code)||(A.fail != B.fail))||(A.addr != B.addr))||(A.count != B.count))||(A.value != B.value))||(A.and_ != B.and_))) (fun K aL=>?_) ?_
 refine bl 47 ((((((A.code != B.code)||(A.fail != B.fail))||(A.addr != B.addr))||(A.count != B.count))||(A.value != B.value))) (fun u=>?_) (fun u=>?_)
 exact Pl 6<|ce aL true (by rw[u];rfl)
 have aM:=(aH u).1
 have cq:=(aH u).2
 have aP:=(aH aM).1
 have cr:=(aH aM).2
 have q29aaa:=(aH aP).1
 have q29aab:=(aH aP).2
 have q29aaaa:=(aH q29aaa).1
 have q29aaab:=(aH q29aaa).2
 have q29aaaap:=ai q29aaaa
 have q29aaabp:=ai q29aaab
 have q29aabp:=ai q29aab
 have q29abp:=ai cr
 have dS:=ai cq
 exact Pl 1<|L1<|aN c 5<|Pl 1<|L1<|aN b 5<|Pl 2<|ce aL (A.and_ != B.and_) (by rw[u];rfl)
 refine Pl 1<|cu 6 [54] 60 ((((((((A.code != B.code)||(A.fail != B.fail))||(A.addr != B.addr))||(A.count != B.count))||(A.value != B.value))||(A.and_ != B.and_))||(A.or_ != B.or_))) (fun K aR=>?_) ?_
 refine bl 54 (((((((A.code != B.code)||(A.fail != B.fail))||(A.addr != B.addr))||(A.count != B.count))||(A.value != B.value))||(A.and_ != B.and_))) (fun v=>?_) (fun v=>?_)
 exact Pl 6<|ce aR true (by rw[v];rfl)
 have aS:=(aH v).1
 have cs:=(aH v).2
 have aT:=(aH aS).1
 have ct:=(aH aS).2
 have q31aaa:=(aH aT).1
 have q31aab:=(aH aT).2
 have q31aaaa:=(aH q31aaa).1
 have q31aaab:=(aH q31aaa).2
 have q31aaaaa:=(aH q31aaaa).1
 have q31aaaab:=(aH q31aaaa).2
 have q31aaaaap:=ai q31aaaaa
 have q31aaaabp:=ai q31aaaab
 have q31aaabp:=ai q31aaab
 have q31aabp:=ai q31aab
 have q31abp:=ai ct
 have dT:=ai cs
 exact Pl 1<|L1<|aN c 6<|Pl 1<|L1<|aN b 6<|Pl 2<|ce aR (A.or_ != B.or_) (by rw[v];rfl)
 refine Pl 1<|cu 6 [61] 67 (((((((((A.code != B.code)||(A.fail != B.fail))||(A.addr != B.addr))||(A.count != B.count))||(A.value != B.value))||(A.and_ != B.and_))||(A.or_ != B.or_))||(A.addr2 != B.addr2))) (fun K aU=>?_) ?_
 refine bl 61 ((((((((A.code != B.code)||(A.fail != B.fail))||(A.addr != B.addr))||(A.count != B.count))||(A.value != B.value))||(A.and_ != B.and_))||(A.or_ != B.or_))) (fun z=>?_) (fun z=>?_)
 exact Pl 6<|ce aU true (by rw[z];rfl)
 have aW:=(aH z).1
 have cv:=(aH z).2
 have aX:=(aH aW).1
 have cw:=(aH aW).2
 have q33aaa:=(aH aX).1
 have q33aab:=(aH aX).2
 have q33aaaa:=(aH q33aaa).1
 have q33aaab:=(aH q33aaa).2
 have q33aaaaa:=(aH q33aaaa).1
 have q33aaaab:=(aH q33aaaa).2
 have q33aaaaaa:=(aH q33aaaaa).1
 have q33aaaaab:=(aH q33aaaaa).2
 have q33aaaaaap:=ai q33aaaaaa
 have q33aaaaabp:=ai q33aaaaab
 have q33aaaabp:=ai q33aaaab
 have q33aaabp:=ai q33aaab
 have q33aabp:=ai q33aab
 have q33abp:=ai cw
 have dU:=ai cv
 exact Pl 1<|L1<|aN c 7<|Pl 1<|L1<|aN b 7<|Pl 2<|ce aU (A.addr2 != B.addr2) (by rw[z];rfl)
 refine Pl 1<|cu 6 [68] 74 ((((((((((A.code != B.code)||(A.fail != B.fail))||(A.addr != B.addr))||(A.count != B.count))||(A.value != B.value))||(A.and_ != B.and_))||(A.or_ != B.or_))||(A.addr2 != B.addr2))||(A.sub != B.sub))) (fun K aY=>?_) ?_
 refine bl 68 (((((((((A.code != B.code)||(A.fail != B.fail))||(A.addr != B.addr))||(A.count != B.count))||(A.value != B.value))||(A.and_ != B.and_))||(A.or_ != B.or_))||(A.addr2 != B.addr2))) (fun C=>?_) (fun C=>?_)
 exact Pl 6<|ce aY true (by rw[C];rfl)
 have b0:=(aH C).1
 have cx:=(aH C).2
 have b1:=(aH b0).1
 have cy:=(aH b0).2
 have q35aaa:=(aH b1).1
 have q35aab:=(aH b1).2
 have q35aaaa:=(aH q35aaa).1
 have q35aaab:=(aH q35aaa).2
 have q35aaaaa:=(aH q35aaaa).1
 have q35aaaab:=(aH q35aaaa).2
 have q35aaaaaa:=(aH q35aaaaa).1
 have q35aaaaab:=(aH q35aaaaa).2
 have q35aaaaaaa:=(aH q35aaaaaa).1
 have q35aaaaaab:=(aH q35aaaaaa).2
 have q35aaaaaaap:=ai q35aaaaaaa
 have q35aaaaaabp:=ai q35aaaaaab
 have q35aaaaabp:=ai q35aaaaab
 have q35aaaabp:=ai q35aaaab
 have q35aaabp:=ai q35aaab
 have q35aabp:=ai q35aab
 have q35abp:=ai cy
 have dV:=ai cx
 exact Pl 1<|L1<|aN c 8<|Pl 1<|L1<|aN b 8<|Pl 2<|ce aY (A.sub != B.sub) (by rw[C];rfl)
 refine Pl 1<|cu 6 [75] 81 (((((((((((A.code != B.code)||(A.fail != B.fail))||(A.addr != B.addr))||(A.count != B.count))||(A.value != B.value))||(A.and_ != B.and_))||(A.or_ != B.or_))||(A.addr2 != B.addr2))||(A.sub != B.sub))||(A.status != B.status))) (fun K b2=>?_) ?_
 refine bl 75 ((((((((((A.code != B.code)||(A.fail != B.fail))||(A.addr != B.addr))||(A.count != B.count))||(A.value != B.value))||(A.and_ != B.and_))||(A.or_ != B.or_))||(A.addr2 != B.addr2))||(A.sub != B.sub))) (fun D=>?_) (fun D=>?_)
 exact Pl 6<|ce b2 true (by rw[D];rfl)
 have b3:=(aH D).1
 have cA:=(aH D).2
 have b4:=(aH b3).1
 have cB:=(aH b3).2
 have q37aaa:=(aH b4).1
 have q37aab:=(aH b4).2
 have q37aaaa:=(aH q37aaa).1
 have q37aaab:=(aH q37aaa).2
 have q37aaaaa:=(aH q37aaaa).1
 have q37aaaab:=(aH q37aaaa).2
 have q37aaaaaa:=(aH q37aaaaa).1
 have q37aaaaab:=(aH q37aaaaa).2
 have q37aaaaaaa:=(aH q37aaaaaa).1
 have q37aaaaaab:=(aH q37aaaaaa).2
 have q37aaaaaaaa:=(aH q37aaaaaaa).1
 have q37aaaaaaab:=(aH q37aaaaaaa).2
 have q37aaaaaaaap:=ai q37aaaaaaaa
 have q37aaaaaaabp:=ai q37aaaaaaab
 have q37aaaaaabp:=ai q37aaaaaab
 have q37aaaaabp:=ai q37aaaaab
 have q37aaaabp:=ai q37aaaab
 have q37aaabp:=ai q37aaab
 have q37aabp:=ai q37aab
 have q37abp:=ai cB
 have dW:=ai cA
 exact Pl 1<|L1<|aN c 9<|Pl 1<|L1<|aN b 9<|Pl 2<|ce b2 (A.status != B.status) (by rw[D];rfl)
 refine Pl 1<|cu 6 [82] 88 ((((((((((((A.code != B.code)||(A.fail != B.fail))||(A.addr != B.addr))||(A.count != B.count))||(A.value != B.value))||(A.and_ != B.and_))||(A.or_ != B.or_))||(A.addr2 != B.addr2))||(A.sub != B.sub))||(A.status != B.status))||(A.events != B.events))) (fun K b5=>?_) ?_
 refine bl 82 (((((((((((A.code != B.code)||(A.fail != B.fail))||(A.addr != B.addr))||(A.count != B.count))||(A.value != B.value))||(A.and_ != B.and_))||(A.or_ != B.or_))||(A.addr2 != B.addr2))||(A.sub != B.sub))||(A.status != B.status))) (fun E=>?_) (fun E=>?_)
 exact Pl 6<|ce b5 true (by rw[E];rfl)
 have b6:=(aH E).1
 have cC:=(aH E).2
 have b7:=(aH b6).1
 have cD:=(aH b6).2
 have q39aaa:=(aH b7).1
 have q39aab:=(aH b7).2
 have q39aaaa:=(aH q39aaa).1
 have q39aaab:=(aH q39aaa).2
 have q39aaaaa:=(aH q39aaaa).1
 have q39aaaab:=(aH q39aaaa).2
 have q39aaaaaa:=(aH q39aaaaa).1
 have q39aaaaab:=(aH q39aaaaa).2
 have q39aaaaaaa:=(aH q39aaaaaa).1
 have q39aaaaaab:=(aH q39aaaaaa).2
 have q39aaaaaaaa:=(aH q39aaaaaaa).1
 have q39aaaaaaab:=(aH q39aaaaaaa).2
 have q39aaaaaaaaa:=(aH q39aaaaaaaa).1
 have q39aaaaaaaab:=(aH q39aaaaaaaa).2
 have q39aaaaaaaaap:=ai q39aaaaaaaaa
 have q39aaaaaaaabp:=ai q39aaaaaaaab
 have q39aaaaaaabp:=ai q39aaaaaaab
 have q39aaaaaabp:=ai q39aaaaaab
 have q39aaaaabp:=ai q39aaaaab
 have q39aaaabp:=ai q39aaaab
 have q39aaabp:=ai q39aaab
 have q39aabp:=ai q39aab
 have q39abp:=ai cD
 have dX:=ai cC
 exact Pl 1<|L1<|aN c 10<|Pl 1<|L1<|aN b 10<|Pl 2<|ce b5 (A.events != B.events) (by rw[E];rfl)
 refine Pl 1<|cu 6 [89] 95 (((((((((((((A.code != B.code)||(A.fail != B.fail))||(A.addr != B.addr))||(A.count != B.count))||(A.value != B.value))||(A.and_ != B.and_))||(A.or_ != B.or_))||(A.addr2 != B.addr2))||(A.sub != B.sub))||(A.status != B.status))||(A.events != B.events))||(A.messages != B.messages))) (fun K b8=>?_) ?_
 refine bl 89 ((((((((((((A.code != B.code)||(A.fail != B.fail))||(A.addr != B.addr))||(A.count != B.count))||(A.value != B.value))||(A.and_ != B.and_))||(A.or_ != B.or_))||(A.addr2 != B.addr2))||(A.sub != B.sub))||(A.status != B.status))||(A.events != B.events))) (fun F=>?_) (fun F=>?_)
 exact Pl 6<|ce b8 true (by rw[F];rfl)
 have b9:=(aH F).1
 have cE:=(aH F).2
 have ba:=(aH b9).1
 have cF:=(aH b9).2
 have q41aaa:=(aH ba).1
 have q41aab:=(aH ba).2
 have q41aaaa:=(aH q41aaa).1
 have q41aaab:=(aH q41aaa).2
 have q41aaaaa:=(aH q41aaaa).1
 have q41aaaab:=(aH q41aaaa).2
 have q41aaaaaa:=(aH q41aaaaa).1
 have q41aaaaab:=(aH q41aaaaa).2
 have q41aaaaaaa:=(aH q41aaaaaa).1
 have q41aaaaaab:=(aH q41aaaaaa).2
 have q41aaaaaaaa:=(aH q41aaaaaaa).1
 have q41aaaaaaab:=(aH q41aaaaaaa).2
 have q41aaaaaaaaa:=(aH q41aaaaaaaa).1
 have q41aaaaaaaab:=(aH q41aaaaaaaa).2
 have q41aaaaaaaaaa:=(aH q41aaaaaaaaa).1
 have q41aaaaaaaaab:=(aH q41aaaaaaaaa).2
 have q41aaaaaaaaaap:=ai q41aaaaaaaaaa
 have q41aaaaaaaaabp:=ai q41aaaaaaaaab
 have q41aaaaaaaabp:=ai q41aaaaaaaab
 have q41aaaaaaabp:=ai q41aaaaaaab
 have q41aaaaaabp:=ai q41aaaaaab
 have q41aaaaabp:=ai q41aaaaab
 have q41aaaabp:=ai q41aaaab
 have q41aaabp:=ai q41aaab
 have q41aabp:=ai q41aab
 have q41abp:=ai cF
 have dY:=ai cE
 exact Pl 1<|L1<|aN c 11<|Pl 1<|L1<|aN b 11<|Pl 2<|ce b8 (A.messages != B.messages) (by rw[F];rfl)
 refine nt<|?_
 have G:=aE ch az
 refine cb (((((((((((((A.code != B.code)||(A.fail != B.fail))||(A.addr != B.addr))||(A.count != B.count))||(A.value != B.value))||(A.and_ != B.and_))||(A.or_ != B.or_))||(A.addr2 != B.addr2))||(A.sub != B.sub))||(A.status != B.status))||(A.events != B.events))||(A.messages != B.messages))) (fun H=>?_) (fun H=>?_)
 refine sg<|Pl 1<|nt<|rt<|tr<|rr (.bool false)<|?_
 have hs:decide (A=B)=false:=ma (f:=fun x y=>((((((((((((x.code != y.code)||(x.fail != y.fail))||(x.addr != y.addr))||(x.count != y.count))||(x.value != y.value))||(x.and_ != y.and_))||(x.or_ != y.or_))||(x.addr2 != y.addr2))||(x.sub != y.sub))||(x.status != y.status))||(x.events != y.events))||(x.messages != y.messages))) H (fun M=>by simp)
 rw[hs]
 exact⟨rfl,G⟩
 have bb:=(aH H).1
 have cG:=(aH H).2
 have bc:=(aH bb).1
 have cH:=(aH bb).2
 have q44aaa:=(aH bc).1
 have q44aab:=(aH bc).2
 have q44aaaa:=(aH q44aaa).1
 have q44aaab:=(aH q44aaa).2
 have q44aaaaa:=(aH q44aaaa).1
 have q44aaaab:=(aH q44aaaa).2
 have q44aaaaaa:=(aH q44aaaaa).1
 have q44aaaaab:=(aH q44aaaaa).2
 have q44aaaaaaa:=(aH q44aaaaaa).1
 have q44aaaaaab:=(aH q44aaaaaa).2
 have q44aaaaaaaa:=(aH q44aaaaaaa).1
 have q44aaaaaaab:=(aH q44aaaaaaa).2
 have q44aaaaaaaaa:=(aH q44aaaaaaaa).1
 have q44aaaaaaaab:=(aH q44aaaaaaaa).2
 have q44aaaaaaaaaa:=(aH q44aaaaaaaaa).1
 have q44aaaaaaaaab:=(aH q44aaaaaaaaa).2
 have q44aaaaaaaaaaa:=(aH q44aaaaaaaaaa).1
 have q44aaaaaaaaaab:=(aH q44aaaaaaaaaa).2
 have q44aaaaaaaaaaap:=ai q44aaaaaaaaaaa
 have q44aaaaaaaaaabp:=ai q44aaaaaaaaaab
 have q44aaaaaaaaabp:=ai q44aaaaaaaaab
 have q44aaaaaaaabp:=ai q44aaaaaaaab
 have q44aaaaaaabp:=ai q44aaaaaaab
 have q44aaaaaabp:=ai q44aaaaaab
 have q44aaaaabp:=ai q44aaaaab
 have q44aaaabp:=ai q44aaaab
 have q44aaabp:=ai q44aaab
 have q44aabp:=ai q44aab
 have q44abp:=ai cH
 have dZ:=ai cG
 refine bG<|sq<|sg<|Pl 1<|L0<|aN c 16<|Pl 1<|L0<|aN b 16<|Pl 2<|cu 6 [101] 107 (((A.mei != B.mei)||(A.kind != B.kind))) (fun K bd=>?_) ?_
 refine bl 101 ((A.mei != B.mei)) (fun I=>?_) (fun I=>?_)
 have cI:=aA I
 exact Pl 6<|ce bd true (by rw[I];rfl)
 have cI:=ai I
 exact Pl 1<|L1<|aN c 17<|Pl 1<|L1<|aN b 17<|Pl 2<|ce bd (A.kind != B.kind) (by rw[I];rfl)
 refine Pl 1<|cu 6 [108] 114 ((((A.mei != B.mei)||(A.kind != B.kind))||(A.level != B.level))) (fun K be=>?_) ?_
 refine bl 108 (((A.mei != B.mei)||(A.kind != B.kind))) (fun J=>?_) (fun J=>?_)
 exact Pl 6<|ce be true (by rw[J];rfl)
 have cJ:=(aH J).1
 have cK:=(aH J).2
 have e0:=ai cJ
 have e1:=ai cK
 exact Pl 1<|L1<|aN c 18<|Pl 1<|L1<|aN b 18<|Pl 2<|ce be (A.level != B.level) (by rw[J];rfl)
 refine Pl 1<|cu 6 [115] 121 (((((A.mei != B.mei)||(A.kind != B.kind))||(A.level != B.level))||(A.more != B.more))) (fun K bg=>?_) ?_
 refine bl 115 ((((A.mei != B.mei)||(A.kind != B.kind))||(A.level != B.level))) (fun L=>?_) (fun L=>?_)
 exact Pl 6<|ce bg true (by rw[L];rfl)
 have bh:=(aH L).1
 have cL:=(aH L).2
 have cM:=(aH bh).1
 have cN:=(aH bh).2
 have q49aap:=ai cM
 have q49abp:=ai cN
 have e2:=ai cL
 exact Pl 1<|L1<|aN c 19<|Pl 1<|L1<|aN b 19<|Pl 2<|ce bg (A.more != B.more) (by rw[L];rfl)
 refine Pl 1<|cu 6 [122] 128 ((((((A.mei != B.mei)||(A.kind != B.kind))||(A.level != B.level))||(A.more != B.more))||(A.next != B.next))) (fun K bi=>?_) ?_
 refine bl 122 (((((A.mei != B.mei)||(A.kind != B.kind))||(A.level != B.level))||(A.more != B.more))) (fun N=>?_) (fun N=>?_)
 exact Pl 6<|ce bi true (by rw[N];rfl)
 have bj:=(aH N).1
 have cO:=(aH N).2
 have bm:=(aH bj).1
 have cP:=(aH bj).2
 have q51aaa:=(aH bm).1
 have q51aab:=(aH bm).2
 have q51aaap:=ai q51aaa
 have q51aabp:=ai q51aab
 have q51abp:=ai cP
 have e3:=ai cO
 exact Pl 1<|L1<|aN c 20<|Pl 1<|L1<|aN b 20<|Pl 2<|ce bi (A.next != B.next) (by rw[N];rfl)
 refine nt<|cb ((((((A.mei != B.mei)||(A.kind != B.kind))||(A.level != B.level))||(A.more != B.more))||(A.next != B.next))) (fun O=>?_) (fun O=>?_)
 refine sg<|Pl 1<|nt<|rt<|tr<|rr (.bool false)<|?_
 have hs:decide (A=B)=false:=ma (f:=fun x y=>(((((x.mei != y.mei)||(x.kind != y.kind))||(x.level != y.level))||(x.more != y.more))||(x.next != y.next))) O (fun M=>by simp)
 rw[hs]
 exact⟨rfl,G⟩
 have bo:=(aH O).1
 have cQ:=(aH O).2
 have bp:=(aH bo).1
 have cR:=(aH bo).2
 have q53aaa:=(aH bp).1
 have q53aab:=(aH bp).2
 have q53aaaa:=(aH q53aaa).1
 have q53aaab:=(aH q53aaa).2
 have q53aaaap:=ai q53aaaa
 have q53aaabp:=ai q53aaab
 have q53aabp:=ai q53aab
 have q53abp:=ai cR
 have e4:=ai cQ
 refine bG<|sg<|Pl 1<|L0<|aN c 12<|Pl 1<|L0<|aN b 12<|?_
 refine L0<|Oc<|m1 (iN (dB.old phw G) (dB.old qhw G)) fun e5 ab=>Pl 1<|ng<|Pl 1<|?_
 have bq:=ub ab c
 refine L0<|aN bq 13<|Pl 1<|?_
 have bs:=ub ab b
 refine L0<|aN bs 13<|?_
 have ac:=aE G ab
 refine L0<|Oc<|m1 (mV (iq.old phb ac) (iq.old qhb ac)) fun e6 ad=>Pl 1<|ng<|Pl 1<|?_
 have a2:=ub ad bq
 refine L0<|aN a2 14<|Pl 1<|?_
 have P:=ub ad bs
 refine L0<|aN P 14<|?_
 have ae:=aE ac ad
 refine L0<|Oc<|m1 (lZ (aQ.old phd ae) (aQ.old qhd ae)) fun cS n=>Pl 1<|nt<|sq<|sg<|Pl 3<|cu 3 [146] 149 (((!(decide (A.words=B.words)))||(!(decide (A.bits=B.bits))))) (fun K bu=>?_) ?_
 refine bl 146 ((!(decide (A.words=B.words)))) (fun Q=>?_) (fun Q=>?_)
 have af:(decide (A.words=B.words))=false:=by simpa using Q
 have cT:=of_decide_eq_false af
 exact Pl 3<|ce bu true (by rw[Q];rfl)
 have af:(decide (A.words=B.words))=true:=by simpa using Q
 have cT:=of_decide_eq_true af
 exact Pl 3<|ce bu (!(decide (A.bits=B.bits))) (by rw[Q];rfl)
 refine Pl 1<|cu 3 [150] 153 ((((!(decide (A.words=B.words)))||(!(decide (A.bits=B.bits))))||(!(decide (A.data=B.data))))) (fun K bw=>?_) ?_
 refine bl 150 (((!(decide (A.words=B.words)))||(!(decide (A.bits=B.bits))))) (fun R=>?_) (fun R=>?_)
 exact Pl 3<|ce bw true (by rw[R];rfl)
 have cU:=(aH R).1
 have cV:=(aH R).2
 have cW:(decide (A.words=B.words))=true:=by simpa using cU
 have q74anp:=of_decide_eq_true cW
 have cX:(decide (A.bits=B.bits))=true:=by simpa using cV
 have q74bnp:=of_decide_eq_true cX
 exact Pl 3<|ce bw (!(decide (A.data=B.data))) (by rw[R];rfl)
 refine Pl 1<|cu 8 [154] 162 (((((!(decide (A.words=B.words)))||(!(decide (A.bits=B.bits))))||(!(decide (A.data=B.data))))||(((A.recs.length:Nat) : Int)!=((B.recs.length:Nat) : Int)))) (fun K bz=>?_) ?_
 refine bl 154 ((((!(decide (A.words=B.words)))||(!(decide (A.bits=B.bits))))||(!(decide (A.data=B.data))))) (fun S=>?_) (fun S=>?_)
 exact Pl 8<|ce bz true (by rw[S];rfl)
 have bA:=(aH S).1
 have cY:=(aH S).2
 have cZ:=(aH bA).1
 have d0:=(aH bA).2
 have q76aan:(decide (A.words=B.words))=true:=by simpa using cZ
 have q76aanp:=of_decide_eq_true q76aan
 have q76abn:(decide (A.bits=B.bits))=true:=by simpa using d0
 have q76abnp:=of_decide_eq_true q76abn
 have d1:(decide (A.data=B.data))=true:=by simpa using cY
 have q76bnp:=of_decide_eq_true d1
 refine Pl 1<|?_
 refine L1<|aN (ub n a2) 15<|Pl 2<|?_
 exact L1<|aN (ub n P) 15<|Pl 3<|ce bz (((A.recs.length:Nat) : Int)!=((B.recs.length:Nat) : Int)) (by rw[S];rfl)
 refine Pl 1<|cu 8 [163] 171 ((((((!(decide (A.words=B.words)))||(!(decide (A.bits=B.bits))))||(!(decide (A.data=B.data))))||(((A.recs.length:Nat) : Int)!=((B.recs.length:Nat) : Int)))||(((A.objects.length:Nat) : Int)!=((B.objects.length:Nat) : Int)))) (fun K bB=>?_) ?_
 refine bl 163 (((((!(decide (A.words=B.words)))||(!(decide (A.bits=B.bits))))||(!(decide (A.data=B.data))))||(((A.recs.length:Nat) : Int)!=((B.recs.length:Nat) : Int)))) (fun T=>?_) (fun T=>?_)
 exact Pl 8<|ce bB true (by rw[T];rfl)
 have bC:=(aH T).1
 have d2:=(aH T).2
 have bD:=(aH bC).1
 have d3:=(aH bC).2
 have q80aaa:=(aH bD).1
 have q80aab:=(aH bD).2
 have q80aaan:(decide (A.words=B.words))=true:=by simpa using q80aaa
 have q80aaanp:=of_decide_eq_true q80aaan
 have q80aabn:(decide (A.bits=B.bits))=true:=by simpa using q80aab
 have q80aabnp:=of_decide_eq_true q80aabn
 have q80abn:(decide (A.data=B.data))=true:=by simpa using d3
 have q80abnp:=of_decide_eq_true q80abn
 have e7:=ai d2
 refine Pl 1<|?_
 refine L1<|aN (ub n a2) 21<|Pl 2<|?_
 exact L1<|aN (ub n P) 21<|Pl 3<|ce bB (((A.objects.length:Nat) : Int)!=((B.objects.length:Nat) : Int)) (by rw[T];rfl)
 refine nt<|?_
 have bE:=aE ae n
 refine cb ((((((!(decide (A.words=B.words)))||(!(decide (A.bits=B.bits))))||(!(decide (A.data=B.data))))||(((A.recs.length:Nat) : Int)!=((B.recs.length:Nat) : Int)))||(((A.objects.length:Nat) : Int)!=((B.objects.length:Nat) : Int)))) (fun U=>?_) (fun U=>?_)
 refine sg<|Pl 1<|nt<|rt<|tr<|rr (.bool false)<|?_
 have hs:decide (A=B)=false:=ma (f:=fun x y=>(((((!(decide (x.words=y.words)))||(!(decide (x.bits=y.bits))))||(!(decide (x.data=y.data))))||(((x.recs.length:Nat) : Int)!=((y.recs.length:Nat) : Int)))||(((x.objects.length:Nat) : Int)!=((y.objects.length:Nat) : Int)))) U (fun M=>by simp)
 rw[hs]
 exact⟨rfl,bE⟩
 have bF:=(aH U).1
 have d4:=(aH U).2
 have bH:=(aH bF).1
 have d5:=(aH bF).2
 have q85aaa:=(aH bH).1
 have q85aab:=(aH bH).2
 have q85aaaa:=(aH q85aaa).1
 have q85aaab:=(aH q85aaa).2
 have q85aaaan:(decide (A.words=B.words))=true:=by simpa using q85aaaa
 have q85aaaanp:=of_decide_eq_true q85aaaan
 have q85aaabn:(decide (A.bits=B.bits))=true:=by simpa using q85aaab
 have q85aaabnp:=of_decide_eq_true q85aaabn
 have q85aabn:(decide (A.data=B.data))=true:=by simpa using q85aab
 have q85aabnp:=of_decide_eq_true q85aabn
 have q85abp:=ai d5
 have e8:=ai d4
 refine bG<|sq<|sg<|Pl 1<|nt<|bk<|?_
 refine ir (fun x=>[(2,.pointer (some ⟨i,0,none⟩)),(3,.pointer (some ⟨l,0,none⟩)),(8,.int .i64 ((x:Nat) : Int))]) (fun(x:Nat) w'=>ax [] cS w'∧(A.recs.take x=B.recs.take x)∧(x≤A.recs.length)) (fun x=>A.recs.length-x) 0 ⟨ax.refl _ _,(by(try dsimp only);simp),(by(try dsimp only);omega)⟩ ?_
 rintro j d6 ⟨a3,d7,d8⟩
 refine it [(2,.pointer (some ⟨i,0,none⟩)),(3,.pointer (some ⟨l,0,none⟩)),(8,.int .i64 ((j:Nat) : Int))] ?_
 have bJ:A.recs.take j=B.recs.take j:=d7
 have e9:j≤A.recs.length:=d8
 refine sq<|sg<|Pl 2<|?_
 have a4:=aE n a3
 have ag:=ub a4 a2
 refine L0<|aN ag 15<|Pl 2<|nt<|?_
 have a5:=aE bE a3
 refine cb ((decide (((j:Nat) : Int)<((A.recs.length:Nat) : Int)))) (fun ah=>?_) (fun ah=>?_)
 have d9:=of_decide_eq_true ah
 refine bG<|sq<|bk<|sg<|Pl 1<|L0<|aN ag 15<|Pl 1<|sL (lN.elt phr j (by omega)) fun ea eb ec ed ee bK bL da db dc ef dd=>L0<|ia 4 A.recs.length j da (by omega)<|?_
 refine L0<|uh [.int .u16 ((A.recs.getD j ⟨0,0,0,[]⟩).file),.int .u16 ((A.recs.getD j ⟨0,0,0,[]⟩).record),.int .u16 ((A.recs.getD j ⟨0,0,0,[]⟩).count),.slice bK ((A.recs.getD j ⟨0,0,0,[]⟩).words.length) bL] (ub a5 db) dd<|L0<|bI #[.int .u16 0,.int .u16 0,.int .u16 0,.slice none 0 0] fun eg eh aj de ak=>L0<|bf de #[.int .u16 ((A.recs.getD j ⟨0,0,0,[]⟩).file),.int .u16 ((A.recs.getD j ⟨0,0,0,[]⟩).record),.int .u16 ((A.recs.getD j ⟨0,0,0,[]⟩).count),.slice bK ((A.recs.getD j ⟨0,0,0,[]⟩).words.length) bL] fun ei df al=>ng<|Pl 1<|?_
 refine L0<|aN (ub (u1 (aE a4 ak) al (ni a4.size aj)) P) 15<|Pl 1<|sL (lN.elt qhr j (by omega)) fun ej ek el em eo bM bN dg dh di ep dj=>L0<|ia 4 B.recs.length j dg (by omega)<|?_
 have am:=u1 (aE a5 ak) al (ni a5.size aj)
 refine L0<|uh [.int .u16 ((B.recs.getD j ⟨0,0,0,[]⟩).file),.int .u16 ((B.recs.getD j ⟨0,0,0,[]⟩).record),.int .u16 ((B.recs.getD j ⟨0,0,0,[]⟩).count),.slice bM ((B.recs.getD j ⟨0,0,0,[]⟩).words.length) bN] (ub am dh) dj<|L0<|bI #[.int .u16 0,.int .u16 0,.int .u16 0,.slice none 0 0] fun eq es an dk ao=>L0<|bf dk #[.int .u16 ((B.recs.getD j ⟨0,0,0,[]⟩).file),.int .u16 ((B.recs.getD j ⟨0,0,0,[]⟩).record),.int .u16 ((B.recs.getD j ⟨0,0,0,[]⟩).count),.slice bM ((B.recs.getD j ⟨0,0,0,[]⟩).words.length) bN] fun et a6 ap=>ng<|Pl 1<|?_
 have a7:=ub (u1 ao ap (nr an)) df
 refine L0<|aN a7 3<|Pl 1<|L0<|aN a6 3<|?_
 have aq:=u1 (aE am ao) ap (ni am.size an)
 refine L0<|Oc<|m1 (iN (dB.old dc aq) (dB.old di aq)) fun eu h=>Pl 1<|ng<|Pl 3<|cu 6 [196] 202 (((!(decide ((A.recs.getD j ⟨0,0,0,[]⟩).words=(B.recs.getD j ⟨0,0,0,[]⟩).words)))||(((A.recs.getD j ⟨0,0,0,[]⟩).file)!=((B.recs.getD j ⟨0,0,0,[]⟩).file)))) (fun K bO=>?_) ?_
 refine bl 196 ((!(decide ((A.recs.getD j ⟨0,0,0,[]⟩).words=(B.recs.getD j ⟨0,0,0,[]⟩).words)))) (fun V=>?_) (fun V=>?_)
 have ar:(decide ((A.recs.getD j ⟨0,0,0,[]⟩).words=(B.recs.getD j ⟨0,0,0,[]⟩).words))=false:=by simpa using V
 have dl:=of_decide_eq_false ar
 exact Pl 6<|ce bO true (by rw[V];rfl)
 have ar:(decide ((A.recs.getD j ⟨0,0,0,[]⟩).words=(B.recs.getD j ⟨0,0,0,[]⟩).words))=true:=by simpa using V
 have dl:=of_decide_eq_true ar
 refine Pl 1<|?_
 refine L1<|aN (ub h a7) 0<|Pl 1<|?_
 exact L1<|aN (ub h a6) 0<|Pl 2<|ce bO (((A.recs.getD j ⟨0,0,0,[]⟩).file)!=((B.recs.getD j ⟨0,0,0,[]⟩).file)) (by rw[V];rfl)
 refine Pl 1<|cu 6 [203] 209 ((((!(decide ((A.recs.getD j ⟨0,0,0,[]⟩).words=(B.recs.getD j ⟨0,0,0,[]⟩).words)))||(((A.recs.getD j ⟨0,0,0,[]⟩).file)!=((B.recs.getD j ⟨0,0,0,[]⟩).file)))||(((A.recs.getD j ⟨0,0,0,[]⟩).record)!=((B.recs.getD j ⟨0,0,0,[]⟩).record)))) (fun K bP=>?_) ?_
 refine bl 203 (((!(decide ((A.recs.getD j ⟨0,0,0,[]⟩).words=(B.recs.getD j ⟨0,0,0,[]⟩).words)))||(((A.recs.getD j ⟨0,0,0,[]⟩).file)!=((B.recs.getD j ⟨0,0,0,[]⟩).file)))) (fun W=>?_) (fun W=>?_)
 exact Pl 6<|ce bP true (by rw[W];rfl)
 have dm:=(aH W).1
 have dn:=(aH W).2
 have dp:(decide ((A.recs.getD j ⟨0,0,0,[]⟩).words=(B.recs.getD j ⟨0,0,0,[]⟩).words))=true:=by simpa using dm
 have q156anp:=of_decide_eq_true dp
 have ev:=ai dn
 refine Pl 1<|?_
 refine L1<|aN (ub h a7) 1<|Pl 1<|?_
 exact L1<|aN (ub h a6) 1<|Pl 2<|ce bP (((A.recs.getD j ⟨0,0,0,[]⟩).record)!=((B.recs.getD j ⟨0,0,0,[]⟩).record)) (by rw[W];rfl)
 refine Pl 1<|cu 6 [210] 216 (((((!(decide ((A.recs.getD j ⟨0,0,0,[]⟩).words=(B.recs.getD j ⟨0,0,0,[]⟩).words)))||(((A.recs.getD j ⟨0,0,0,[]⟩).file)!=((B.recs.getD j ⟨0,0,0,[]⟩).file)))||(((A.recs.getD j ⟨0,0,0,[]⟩).record)!=((B.recs.getD j ⟨0,0,0,[]⟩).record)))||(((A.recs.getD j ⟨0,0,0,[]⟩).count)!=((B.recs.getD j ⟨0,0,0,[]⟩).count)))) (fun K bQ=>?_) ?_
 refine bl 210 ((((!(decide ((A.recs.getD j ⟨0,0,0,[]⟩).words=(B.recs.getD j ⟨0,0,0,[]⟩).words)))||(((A.recs.getD j ⟨0,0,0,[]⟩).file)!=((B.recs.getD j ⟨0,0,0,[]⟩).file)))||(((A.recs.getD j ⟨0,0,0,[]⟩).record)!=((B.recs.getD j ⟨0,0,0,[]⟩).record)))) (fun X=>?_) (fun X=>?_)
 exact Pl 6<|ce bQ true (by rw[X];rfl)
 have bR:=(aH X).1
 have dq:=(aH X).2
 have dr:=(aH bR).1
 have ds:=(aH bR).2
 have q160aan:(decide ((A.recs.getD j ⟨0,0,0,[]⟩).words=(B.recs.getD j ⟨0,0,0,[]⟩).words))=true:=by simpa using dr
 have q160aanp:=of_decide_eq_true q160aan
 have q160abp:=ai ds
 have ew:=ai dq
 refine Pl 1<|?_
 refine L1<|aN (ub h a7) 2<|Pl 1<|?_
 exact L1<|aN (ub h a6) 2<|Pl 2<|ce bQ (((A.recs.getD j ⟨0,0,0,[]⟩).count)!=((B.recs.getD j ⟨0,0,0,[]⟩).count)) (by rw[X];rfl)
 refine nt<|?_
 refine cb (((((!(decide ((A.recs.getD j ⟨0,0,0,[]⟩).words=(B.recs.getD j ⟨0,0,0,[]⟩).words)))||(((A.recs.getD j ⟨0,0,0,[]⟩).file)!=((B.recs.getD j ⟨0,0,0,[]⟩).file)))||(((A.recs.getD j ⟨0,0,0,[]⟩).record)!=((B.recs.getD j ⟨0,0,0,[]⟩).record)))||(((A.recs.getD j ⟨0,0,0,[]⟩).count)!=((B.recs.getD j ⟨0,0,0,[]⟩).count)))) (fun Y=>?_) (fun Y=>?_)
 refine sg<|Pl 1<|nt<|rt<|br<|tr<|tr<|br<|tr<|rr (.bool false)<|?_
 have hs:decide (A=B)=false:=ma (f:=fun x y=>((((!(decide ((x.recs.getD j ⟨0,0,0,[]⟩).words=(y.recs.getD j ⟨0,0,0,[]⟩).words)))||(((x.recs.getD j ⟨0,0,0,[]⟩).file)!=((y.recs.getD j ⟨0,0,0,[]⟩).file)))||(((x.recs.getD j ⟨0,0,0,[]⟩).record)!=((y.recs.getD j ⟨0,0,0,[]⟩).record)))||(((x.recs.getD j ⟨0,0,0,[]⟩).count)!=((y.recs.getD j ⟨0,0,0,[]⟩).count)))) Y (fun M=>by simp)
 rw[hs]
 exact⟨rfl,(aE aq h)⟩
 have bS:=(aH Y).1
 have dt:=(aH Y).2
 have bT:=(aH bS).1
 have du:=(aH bS).2
 have q165aaa:=(aH bT).1
 have q165aab:=(aH bT).2
 have q165aaan:(decide ((A.recs.getD j ⟨0,0,0,[]⟩).words=(B.recs.getD j ⟨0,0,0,[]⟩).words))=true:=by simpa using q165aaa
 have q165aaanp:=of_decide_eq_true q165aaan
 have q165aabp:=ai q165aab
 have q165abp:=ai du
 have ex:=ai dt
 refine sk<|bn<|tn<|go<|Pl 1<|L0<|Oi (((j:Nat) : Int)+1)<|Pl 1<|nl<|?_
 have bU:=u1 (aE a3 ak) al (ni a3.size aj)
 exact er (j+1) ⟨(aE (u1 (aE bU ao) ap (ni bU.size an)) h),(ri (d:=⟨0,0,0,[]⟩) bJ (by omega) (by omega) (yH Y)),(by(try dsimp only);omega)⟩ (by omega)
 have d9:=of_decide_eq_false ah
 refine xt<|tx<|tx<|bx<|tn<|sq<|sg<|Pl 1<|nt<|bk<|?_
 refine ir (fun x=>[(2,.pointer (some ⟨i,0,none⟩)),(3,.pointer (some ⟨l,0,none⟩)),(12,.int .i64 ((x:Nat) : Int))]) (fun(x:Nat) w'=>ax [] d6 w'∧(A.objects.take x=B.objects.take x)∧(x≤A.objects.length)) (fun x=>A.objects.length-x) 0 ⟨ax.refl _ _,(by(try dsimp only);simp),(by(try dsimp only);omega)⟩ ?_
 rintro k ey ⟨a8,dv,dw⟩
 refine it [(2,.pointer (some ⟨i,0,none⟩)),(3,.pointer (some ⟨l,0,none⟩)),(12,.int .i64 ((k:Nat) : Int))] ?_
 have bV:A.objects.take k=B.objects.take k:=dv
 have ez:k≤A.objects.length:=dw
 refine sq<|sg<|Pl 2<|?_
 have bW:=ub a8 ag
 refine L0<|aN bW 21<|Pl 2<|nt<|?_
 have bX:=aE a5 a8
 refine cb ((decide (((k:Nat) : Int)<((A.objects.length:Nat) : Int)))) (fun au=>?_) (fun au=>?_)
 have dx:=of_decide_eq_true au
 refine bG<|sq<|bk<|sq<|sL (mH.elt pho k (by omega)) fun bY bZ eA eB eC dy dz c0 dA dC eD av=>sL (mH.elt qho k (by omega)) fun c2 c3 eE eF eG dD dE c4 dF dG eH aw=>Rg 14 (fun w'=>w'.cell? ⟨i,21,none⟩=some (.slice po A.objects.length pko)∧w'.cell? ⟨bY,bZ+k*2+1,none⟩=some (.slice dy ((A.objects.getD k ⟨0,[]⟩).value.length) dz)∧w'.cell? ⟨l,21,none⟩=some (.slice qo B.objects.length qko)∧w'.cell? ⟨c2,c3+k*2+1,none⟩=some (.slice dD ((B.objects.getD k ⟨0,[]⟩).value.length) dE)) fun eI a9=>?_
 have c5:=ub a9 bW
 have Z:=aE bX a9
 have c6:=ub Z dA
 have c7:=ub (aE (aE a4 a8) a9) P
 have c8:=ub Z dF
 refine aZ ⟨(aa c5 rfl),(i3 c6 av 1 rfl (by decide)),(aa c7 rfl),(i3 c8 aw 1 rfl (by decide))⟩ fun g=>Rt 0 g<|Rl 1 g (fun _ hs=>hs.1)<|Rt 2 g<|Ri 3 g 2 A.objects.length k ((k:Nat) : Int) rfl c0 (by omega)<|Rt 4 g<|Rl 5 g (fun _ hs=>hs.2.1)<|Rt 6 g<|Rl 7 g (fun _ hs=>hs.2.2.1)<|Rt 8 g<|Ri 9 g 2 B.objects.length k ((k:Nat) : Int) rfl c4 (by omega)<|Rt 10 g<|Rl 11 g (fun _ hs=>hs.2.2.2)<|?_
 refine R0 12 rfl<|Oc<|m1 (lZ (aQ.old dC Z) (aQ.old dG Z)) fun eJ o=>?_
 have c9:=ub o c5
 have ca:=ub o c6
 have cc:=ub o c7
 have cd:=ub o c8
 refine aZ ⟨(aa c9 rfl),(i3 ca av 1 rfl (by decide)),(aa cc rfl),(i3 cd aw 1 rfl (by decide))⟩ fun dH=>Rt 13 dH<|re<|tn<|sq<|Rg 17 (fun w'=>w'.cell? ⟨i,21,none⟩=some (.slice po A.objects.length pko)∧w'.cell? ⟨bY,bZ+k*2+0,none⟩=some (.int .u8 ((A.objects.getD k ⟨0,[]⟩).id))∧w'.cell? ⟨l,21,none⟩=some (.slice qo B.objects.length qko)∧w'.cell? ⟨c2,c3+k*2+0,none⟩=some (.int .u8 ((B.objects.getD k ⟨0,[]⟩).id))) fun eK p=>?_
 refine aZ ⟨(aa (ub p c9) rfl),(i3 (ub p ca) av 0 rfl (by decide)),(aa (ub p cc) rfl),(i3 (ub p cd) aw 0 rfl (by decide))⟩ fun a=>Rt 0 a<|Rt 1 a<|Rt 2 a<|?_
 have cf:=aE (aE Z o) p
 refine u7 239 ((!(decide ((A.objects.getD k ⟨0,[]⟩).value=(B.objects.getD k ⟨0,[]⟩).value)))) (fun a0=>?_) (fun a0=>?_)
 have ay:(decide ((A.objects.getD k ⟨0,[]⟩).value=(B.objects.getD k ⟨0,[]⟩).value))=false:=by simpa using a0
 have dI:=of_decide_eq_false ay
 refine Ro 3 a<|Ro 4 a<|Ro 5 a<|Ro 6 a<|Ro 7 a<|Ro 8 a<|Ro 9 a<|Ro 10 a<|Ro 11 a<|Ro 12 a<|Ro 13 a<|Ro 14 a<|Ro 15 a<|Rt 16 a<|?_
 refine re<|tn<|c1<|sg<|Pl 1<|nt<|rt<|br<|tr<|tr<|br<|tr<|?_
 refine rr (.bool false)<|?_
 have hs:decide (A=B)=false:=ma (f:=fun x y=>(!(decide ((x.objects.getD k ⟨0,[]⟩).value=(y.objects.getD k ⟨0,[]⟩).value)))) a0 (fun M=>by simp)
 rw[hs]
 exact⟨rfl,cf⟩
 have ay:(decide ((A.objects.getD k ⟨0,[]⟩).value=(B.objects.getD k ⟨0,[]⟩).value))=true:=by simpa using a0
 have dI:=of_decide_eq_true ay
 refine Rt 3 a<|Rl 4 a (fun _ hs=>hs.1)<|Rt 5 a<|Ri 6 a 2 A.objects.length k ((k:Nat) : Int) rfl c0 (by omega)<|Rt 7 a<|Rl 8 a (fun _ hs=>hs.2.1)<|Rt 9 a<|Rl 10 a (fun _ hs=>hs.2.2.1)<|Rt 11 a<|Ri 12 a 2 B.objects.length k ((k:Nat) : Int) rfl c4 (by omega)<|Rt 13 a<|Rl 14 a (fun _ hs=>hs.2.2.2)<|Rt 15 a<|Rt 16 a<|?_
 refine re<|tn<|cb ((((A.objects.getD k ⟨0,[]⟩).id)!=((B.objects.getD k ⟨0,[]⟩).id))) (fun a1=>?_) (fun a1=>?_)
 have dJ:=aA a1
 refine sg<|Pl 1<|nt<|rt<|br<|tr<|tr<|br<|tr<|rr (.bool false)<|?_
 have hs:decide (A=B)=false:=ma (f:=fun x y=>(((x.objects.getD k ⟨0,[]⟩).id)!=((y.objects.getD k ⟨0,[]⟩).id))) a1 (fun M=>by simp)
 rw[hs]
 exact⟨rfl,cf⟩
 have dJ:=ai a1
 refine sk<|bn<|tn<|go<|Pl 1<|L0<|Oi (((k:Nat) : Int)+1)<|Pl 1<|nl<|?_
 exact er (k+1) ⟨(aE (aE (aE a8 a9) o) p),(ri (d:=⟨0,[]⟩) bV (by omega) (by omega) (wx a0 a1)),(by(try dsimp only);omega)⟩ (by omega)
 have dx:=of_decide_eq_false au
 refine xt<|tx<|tx<|bx<|tn<|sg<|Pl 1<|nt<|rt<|rr (.bool true)<|?_
 have hs:decide (A=B)=true:=decide_eq_true (wF H O U (fun e=>ga bJ (by omega) e) (fun e=>ga bV (by omega) e))
 rw[hs]
 exact⟨rfl,bX⟩
open Go.RowKit
deriving instance DecidableEq for Ev
theorem lG(A B:Ev) : (((A.e==B.e)&&((A.f.unit==B.f.unit)&&(A.f.tid==B.f.tid)))&&decide (A.f.msg=B.f.msg))=decide (A=B):=by
  rw[Bool.eq_iff_iff]
  simp only[Bool.and_eq_true,beq_iff_eq,decide_eq_true_eq]
  obtain⟨e,u,t,M⟩:=A
  obtain⟨e2,u2,t2,M2⟩:=B
  simp only[Ev.mk.injEq,aW.mk.injEq]
  constructor
  · rintro⟨⟨h1,h2,h3⟩,h4⟩;exact⟨h1,h2,h3,h4⟩
  · rintro⟨h1,h2,h3,h4⟩;exact⟨⟨h1,h2,h3⟩,h4⟩
theorem yI{xs ys:List Ev}{k:Nat}(hk:k<xs.length)(hl:xs.length=ys.length)(h:xs.take k=ys.take k)(he:xs.getD k (Ev.bad 0)=ys.getD k (Ev.bad 0)) : xs.take (k+1)=ys.take (k+1):=by
  exact ky hl hk h he
theorem xT{xs ys:List Ev}{k:Nat}(h:xs.take k=ys.take k)(h1:k=xs.length)(h2:xs.length=ys.length) : decide (xs=ys)=true:=by
  rw[List.take_of_length_le (by omega),List.take_of_length_le (by omega)] at h
  exact decide_eq_true h
theorem zH{xs ys:List Ev}(k:Nat)(h:decide (xs.getD k (Ev.bad 0)=ys.getD k (Ev.bad 0))=false) : decide (xs=ys)=false:=by
  rw[decide_eq_false_iff_not] at h ⊢
  exact fun e=>h (by rw[e])
theorem pa{m m':Bool}{A B:Ev}{sA sB:SL}{w:World}(hA:aF m w (gG A.f.msg sA).toList A.f.msg)(hB:aF m' w (gG B.f.msg sB).toList B.f.msg) : Calls Tryz.prog 45 #[.agg (mS A sA),.agg (mS B sB)] w (bv (.bool (decide (A=B))) w):=by
 refine en 28 Tryz.func45 rfl<|sg<|L0<|cz (mS ⟨A.e,A.f⟩ sA) fun s t u o p=>L0<|cz (mS ⟨B.e,B.f⟩ sB) fun v x y d i=>Pl 1<|ng<|Pl 1<|?_
 have g:=ub i o
 refine L0<|aN g 0<|Pl 1<|L0<|aN d 0<|Pl 2<|cu 8 [10] 18 (((A.e==B.e)&&((A.f.unit==B.f.unit)&&(A.f.tid==B.f.tid)))) (fun K j=>?_) ?_
 refine bl 10 ((A.e==B.e)) (fun a=>?_) (fun a=>?_)
 have q:=az a
 exact Pl 2<|L1<|vU g 1 2<|Pl 2<|L1<|vU d 1 2<|L1<|iv (.bool ((A.f.unit==B.f.unit)&&(A.f.tid==B.f.tid))) (qv A.f.unit A.f.tid B.f.unit B.f.tid rfl (by kernel_rfl) (by kernel_rfl) rfl)<|Pl 1<|ce j ((A.f.unit==B.f.unit)&&(A.f.tid==B.f.tid)) (by rw[a];rfl)
 have q:=aC a
 exact Pl 8<|ce j false (by rw[a];rfl)
 refine Pl 1<|?_
 have c:=aE p i
 refine bl 19 (((A.e==B.e)&&((A.f.unit==B.f.unit)&&(A.f.tid==B.f.tid)))) (fun b=>?_) (fun b=>?_)
 have k:=(bH b).1
 have h:=(bH b).2
 have z:=az k
 have l:=(bH h).1
 have n:=(bH h).2
 have q24bap:=az l
 have q24bbp:=az n
 refine Pl 2<|L1<|vU g 3 22<|Pl 2<|L1<|vU d 3 22<|?_
 refine L1<|Oc<|m1 (rZ (aF.old hA c) (aF.old hB c)) fun C r=>Pl 2<|nt<|rt<|rr (.bool (decide (A.f.msg=B.f.msg)))<|?_
 have hs:(decide (A.f.msg=B.f.msg))=decide (A=B):=by rw[← lG];simp only[b,k,h,l,n,bs,if_true,if_false,decide_true,decide_false,Bool.true_and,Bool.false_and,Bool.and_true,Bool.and_false]
 rw[hs]
 exact⟨rfl,(aE c r)⟩
 refine Pl 9<|nt<|rt<|rr (.bool false)<|?_
 have hs:false=decide (A=B):=by rw[← lG];simp only[b,bs,if_true,if_false,decide_true,decide_false,Bool.true_and,Bool.false_and,Bool.and_true,Bool.and_false]
 rw[hs]
 exact⟨rfl,c⟩
theorem lf{m m':Bool}{A B:Option Addr}{c d:Nat}{xs ys:List Ev}{w:World}(h1:od m w (.slice A xs.length c) xs)(h2:od m' w (.slice B ys.length d) ys) : Calls Tryz.prog 28 #[.slice A xs.length c,.slice B ys.length d] w (bv (.bool (decide (xs=ys))) w):=by
 have hz1:=aO.len h1
 have hz2:=aO.len h2
 refine en 27 Tryz.func28 rfl<|sg<|Pl 1<|nt<|sq<|sg<|Pl 5<|nt<|cb ((((xs.length:Nat) : Int)!=((ys.length:Nat) : Int))) (fun l=>?_) (fun l=>?_)
 have q:=aA l
 refine sg<|Pl 1<|nt<|rt<|tr<|rr (.bool false)<|?_
 have hs:decide (xs=ys)=false:=decide_eq_false (fun e=>by rw[e] at q;omega)
 rw[hs]
 exact⟨rfl,(ax.refl [] _)⟩
 have q:=ai l
 refine bG<|sq<|sg<|Pl 1<|nt<|bk<|?_
 refine ir (fun x=>[(0,.slice A xs.length c),(1,.slice B ys.length d),(5,.int .i64 ((x:Nat) : Int))]) (fun(x:Nat) w'=>ax [] w w'∧(xs.take x=ys.take x)∧(x≤xs.length)) (fun x=>xs.length-x) 0 ⟨ax.refl _ _,rfl,(by(try dsimp only);omega)⟩ ?_
 rintro k Y ⟨r,C,D⟩
 refine it [(0,.slice A xs.length c),(1,.slice B ys.length d),(5,.int .i64 ((k:Nat) : Int))] ?_
 have s:xs.take k=ys.take k:=C
 have Z:k≤xs.length:=D
 refine sq<|sg<|Pl 4<|nt<|cb ((decide (((k:Nat) : Int)<((xs.length:Nat) : Int)))) (fun n=>?_) (fun n=>?_)
 have E:=of_decide_eq_true n
 refine bG<|sq<|bk<|sq<|zb (od.elt h1 k (by omega) (Ev.bad 0)) fun t F G H I a J K L M=>zb (od.elt h2 k (by omega) (Ev.bad 0)) fun u N O P Q b R S T U=>Rg 10 (fun w'=>w'.heap[t]? = some (.cells G H I)∧w'.heap[u]? = some (.cells O P Q)) fun a0 V=>?_
 have i:=aE r V
 have v:=ub i K
 have y:=ub i S
 refine aZ ⟨v,y⟩ fun h=>Rt 0 h<|Rt 1 h<|Ri 2 h 25 xs.length k ((k:Nat) : Int) rfl J (by omega)<|Rr 3 h (.agg (mS ⟨(xs.getD k (Ev.bad 0)).e,(xs.getD k (Ev.bad 0)).f⟩ a)) (fun w' hs=>fM (g:=t) (off:=F+k*25) [.int .i64 ((xs.getD k (Ev.bad 0)).e),.int .u8 ((xs.getD k (Ev.bad 0)).f.unit),.int .u16 ((xs.getD k (Ev.bad 0)).f.tid),.int .u8 ((xs.getD k (Ev.bad 0)).f.msg.code),.int .u8 ((xs.getD k (Ev.bad 0)).f.msg.fail),.int .u16 ((xs.getD k (Ev.bad 0)).f.msg.addr),.int .u16 ((xs.getD k (Ev.bad 0)).f.msg.count),.int .u16 ((xs.getD k (Ev.bad 0)).f.msg.value),.int .u16 ((xs.getD k (Ev.bad 0)).f.msg.and_),.int .u16 ((xs.getD k (Ev.bad 0)).f.msg.or_),.int .u16 ((xs.getD k (Ev.bad 0)).f.msg.addr2),.int .u16 ((xs.getD k (Ev.bad 0)).f.msg.sub),.int .u16 ((xs.getD k (Ev.bad 0)).f.msg.status),.int .u16 ((xs.getD k (Ev.bad 0)).f.msg.events),.int .u16 ((xs.getD k (Ev.bad 0)).f.msg.messages),.slice a.aw ((xs.getD k (Ev.bad 0)).f.msg.words.length) a.kw,.slice a.ab ((xs.getD k (Ev.bad 0)).f.msg.bits.length) a.kb,.slice a.ad ((xs.getD k (Ev.bad 0)).f.msg.data.length) a.kd,.slice a.ar ((xs.getD k (Ev.bad 0)).f.msg.recs.length) a.kr,.int .u8 ((xs.getD k (Ev.bad 0)).f.msg.mei),.int .u8 ((xs.getD k (Ev.bad 0)).f.msg.kind),.int .u8 ((xs.getD k (Ev.bad 0)).f.msg.level),.int .u8 ((xs.getD k (Ev.bad 0)).f.msg.more),.int .u8 ((xs.getD k (Ev.bad 0)).f.msg.next),.slice a.ao ((xs.getD k (Ev.bad 0)).f.msg.objects.length) a.ko] rfl (by kernel_rfl) hs.1 (by kernel_rfl) (by kernel_rfl) M)<|Rt 4 h<|Rt 5 h<|Ri 6 h 25 ys.length k ((k:Nat) : Int) rfl R (by omega)<|Rr 7 h (.agg (mS ⟨(ys.getD k (Ev.bad 0)).e,(ys.getD k (Ev.bad 0)).f⟩ b)) (fun w' hs=>fM (g:=u) (off:=N+k*25) [.int .i64 ((ys.getD k (Ev.bad 0)).e),.int .u8 ((ys.getD k (Ev.bad 0)).f.unit),.int .u16 ((ys.getD k (Ev.bad 0)).f.tid),.int .u8 ((ys.getD k (Ev.bad 0)).f.msg.code),.int .u8 ((ys.getD k (Ev.bad 0)).f.msg.fail),.int .u16 ((ys.getD k (Ev.bad 0)).f.msg.addr),.int .u16 ((ys.getD k (Ev.bad 0)).f.msg.count),.int .u16 ((ys.getD k (Ev.bad 0)).f.msg.value),.int .u16 ((ys.getD k (Ev.bad 0)).f.msg.and_),.int .u16 ((ys.getD k (Ev.bad 0)).f.msg.or_),.int .u16 ((ys.getD k (Ev.bad 0)).f.msg.addr2),.int .u16 ((ys.getD k (Ev.bad 0)).f.msg.sub),.int .u16 ((ys.getD k (Ev.bad 0)).f.msg.status),.int .u16 ((ys.getD k (Ev.bad 0)).f.msg.events),.int .u16 ((ys.getD k (Ev.bad 0)).f.msg.messages),.slice b.aw ((ys.getD k (Ev.bad 0)).f.msg.words.length) b.kw,.slice b.ab ((ys.getD k (Ev.bad 0)).f.msg.bits.length) b.kb,.slice b.ad ((ys.getD k (Ev.bad 0)).f.msg.data.length) b.kd,.slice b.ar ((ys.getD k (Ev.bad 0)).f.msg.recs.length) b.kr,.int .u8 ((ys.getD k (Ev.bad 0)).f.msg.mei),.int .u8 ((ys.getD k (Ev.bad 0)).f.msg.kind),.int .u8 ((ys.getD k (Ev.bad 0)).f.msg.level),.int .u8 ((ys.getD k (Ev.bad 0)).f.msg.more),.int .u8 ((ys.getD k (Ev.bad 0)).f.msg.next),.slice b.ao ((ys.getD k (Ev.bad 0)).f.msg.objects.length) b.ko] rfl (by kernel_rfl) hs.2 (by kernel_rfl) (by kernel_rfl) U)<|?_
 refine R0 8 rfl<|Oc<|m1 (pa (A:=(xs.getD k (Ev.bad 0))) (B:=(ys.getD k (Ev.bad 0))) (aF.old (L.1) i) (aF.old (T.1) i)) fun a1 o=>?_
 refine aZ ⟨(ub o v),(ub o y)⟩ fun W=>Rt 9 W<|re<|tn<|?_
 have z:=aE i o
 refine cb ((!(decide ((xs.getD k (Ev.bad 0))=(ys.getD k (Ev.bad 0)))))) (fun p=>?_) (fun p=>?_)
 have j:(decide ((xs.getD k (Ev.bad 0))=(ys.getD k (Ev.bad 0))))=false:=by simpa using p
 have X:=of_decide_eq_false j
 refine sg<|Pl 1<|nt<|rt<|br<|tr<|tr<|br<|tr<|rr (.bool false)<|?_
 have hs:decide (xs=ys)=false:=zH k j
 rw[hs]
 exact⟨rfl,z⟩
 have j:(decide ((xs.getD k (Ev.bad 0))=(ys.getD k (Ev.bad 0))))=true:=by simpa using p
 have X:=of_decide_eq_true j
 exact sk<|bn<|tn<|go<|Pl 1<|L0<|Oi (((k:Nat) : Int)+1)<|Pl 1<|nl<|er (k+1) ⟨z,(yI (by omega) (by omega) s (of_decide_eq_true j)),(by(try dsimp only);omega)⟩ (by omega)
 have E:=of_decide_eq_false n
 refine xt<|tx<|tx<|bx<|tn<|sg<|Pl 1<|nt<|rt<|rr (.bool true)<|?_
 have hs:decide (xs=ys)=true:=xT s (by omega) (by omega)
 rw[hs]
 exact⟨rfl,r⟩
end Go.Proofs.YtpglhicfhppaiaaGreat
namespace Go.Proofs.YtpglhicfhppaiaaGreat
def zc (C:ap) : Prop:=∀ x,x∈C.l→0≤x∧x<256
theorem xA{C:ap}{ok:Bool}{x:Int}(hx:x≠0)(h:(C.need ok x).e=0) : C.e=0∧ok=true:=by
  unfold ap.need at h
  split at h
  · exact absurd h hx
  · rename_i hh
    refine⟨h,?_⟩
    cases ok
    · exact absurd ⟨h,rfl⟩ hh
    · rfl
theorem nY{C:ap}{n:Int}(h:(C.bytesC n).e=0) : C.e=0∧C.l=C.bytesR n++(C.bytesC n).l∧((C.bytesR n).length:Int)=n:=by
  unfold ap.bytesC at h ⊢
  unfold ap.bytesR
  split at h
  · exfalso
    unfold ap.need at h
    split at h
    · cases h
    · rename_i hh
      exact hh ⟨h,rfl⟩
  · rename_i hf
    rw[if_neg hf,if_neg hf]
    refine⟨h,(List.take_append_drop _ _).symm,?_⟩
    unfold ap.fails at hf
    simp only[Bool.or_eq_true,decide_eq_true_eq,not_or] at hf
    rw[List.length_take]
    omega
theorem kM:∀ (l:List Int),l.length%2=0→(∀ x,x∈l→0≤x∧x<256)→aP (dU l)=l
  | [],_,_=>rfl
  | [_],h,_=>by simp at h
  | a :: b :: r,h,hr=>by
    have ha:=hr a (by simp)
    have hb:=hr b (by simp)
    simp only[dU,aP]
    rw[kM r (by simp at h;omega) (fun x hx=>hr x (by simp[hx]))]
    congr 1
    · omega
    · congr 1
      omega
theorem xN{C:ap}{n:Int}(hr:zc C)(h:(C.wordsC n).e=0) : C.e=0∧C.l=aP (C.wordsR n)++(C.wordsC n).l∧((C.wordsR n).length:Int)=n:=by
  unfold ap.wordsC at h ⊢
  unfold ap.wordsR
  split at h
  · obtain⟨_,_,h3⟩:=nY h
    omega
  · rename_i hb
    rw[if_neg hb,if_neg hb]
    obtain⟨h1,h2,h3⟩:=nY h
    have h4:(C.bytesR (2*n)).length%2=0:=by omega
    have h5:∀ x,x∈C.bytesR (2*n)→0≤x∧x<256:=fun x hx=>hr x (by rw[h2];exact List.mem_append_left _ hx)
    unfold dH
    rw[if_pos h4]
    refine⟨h1,by rw[kM _ h4 h5];exact h2,?_⟩
    rw[eG]
    omega
def jT (C:ap)(l:List Int)(C':ap) : Prop:=zc C→zc C'∧(C'.e=0→C.e=0∧C.l=l++C'.l)
theorem jT.trans{A B C:ap}{l m:List Int}(h:jT A l B)(k:jT B m C) : jT A (l++m) C:=fun hr=>by
  obtain⟨h1,h2⟩:=h hr
  obtain⟨k1,k2⟩:=k h1
  refine⟨k1,fun he=>?_⟩
  obtain⟨k3,k4⟩:=k2 he
  obtain⟨h3,h4⟩:=h2 k3
  exact⟨h3,by rw[h4,k4,List.append_assoc]⟩
theorem jT.refl(C:ap) : jT C [] C:=fun hr=>⟨hr,fun he=>⟨he,rfl⟩⟩
theorem jT.need{A C:ap}{l:List Int}{ok:Bool}{x:Int}(h:jT A l C)(hx:x≠0:=by decide) : jT A l (C.need ok x):=fun hr=>by
  obtain⟨h1,h2⟩:=h hr
  refine⟨fun y hy=>h1 y (by rwa [pO] at hy),fun he=>?_⟩
  rw[pO]
  exact h2 (xA hx he).1
theorem jT.bytes{A C:ap}{l:List Int}(h:jT A l C)(n:Int) : jT A (l++C.bytesR n) (C.bytesC n):=h.trans fun hr=>⟨ip hr n,fun he=>⟨(nY he).1,(nY he).2.1⟩⟩
theorem jT.words{A C:ap}{l:List Int}(h:jT A l C)(n:Int) : jT A (l++aP (C.wordsR n)) (C.wordsC n):=h.trans fun hr=>⟨da hr n,fun he=>⟨(xN hr he).1,(xN hr he).2.1⟩⟩
theorem yR{l:List Int}(h:(l.length:Int)=1) : l=[l.getD 0 0]:=by
  match l,h with
  | [a],_=>rfl
  | [],h=>simp at h
  | _ :: _ :: _,h=>simp at h;omega
theorem jT.byte{A C:ap}{l:List Int}(h:jT A l C) : jT A (l++[C.byteV]) (C.bytesC 1):=h.trans fun hr=>⟨ip hr 1,fun he=>by
  obtain⟨h1,h2,h3⟩:=nY he
  refine⟨h1,?_⟩
  have:=yR h3
  show C.l=[(C.bytesR 1).getD 0 0]++_
  rw[← this]
  exact h2⟩
theorem jT.fin{A C:ap}{l:List Int}(h:jT A l C)(hr:zc A)(he:C.endC.e=0) : C.e=0∧A.l=l:=by
  unfold ap.endC at he
  obtain⟨h1,h2⟩:=xA (by decide) he
  obtain⟨_,h3⟩:=(h hr).2 h1
  have:C.l=[]:=by
    simp only[beq_iff_eq] at h2
    exact List.eq_nil_of_length_eq_zero (by omega)
  exact⟨h1,by rw[h3,this,List.append_nil]⟩
end Go.Proofs.YtpglhicfhppaiaaGreat
namespace Go.Proofs.YtpglhicfhppaiaaGreat
end Go.Proofs.YtpglhicfhppaiaaGreat
namespace Go.Proofs.YtpglhicfhppaiaaGreat
theorem jT.conv{A C:ap}{l l':List Int}(h:jT A l C)(k:zc A→zc C→C.e=0→l=l') : jT A l' C:=fun hr=>by
  obtain⟨h1,h2⟩:=h hr
  refine⟨h1,fun he=>?_⟩
  rw[← k hr h1 he]
  exact h2 he
end Go.Proofs.YtpglhicfhppaiaaGreat
namespace Go.Proofs.YtpglhicfhppaiaaGreat
def Sh (C C':ap) : Prop:=C'.l.length≤C.l.length
theorem Sh.refl(C:ap) : Sh C C:=Nat.le_refl _
theorem Sh.bytes{A C:ap}(h:Sh A C){n:Int}:Sh A (C.bytesC n):=Nat.le_trans (ij C n) h
theorem Sh.words{A C:ap}(h:Sh A C){n:Int}:Sh A (C.wordsC n):=Nat.le_trans (ep C n) h
theorem Sh.need{A C:ap}(h:Sh A C){b:Bool}{e:Int}:Sh A (C.need b e):=by unfold Sh;rw[dT];exact h
open Go.RowKit
theorem AN{a:Int}{r:List Int}(ha:0≤a∧a<65536) : (ap.mk (aP [a]++r) false 0).wordV=a∧(ap.mk (aP [a]++r) false 0).wordsC 1=⟨r,false,0⟩:=by
  have hb:(ap.mk (aP [a]++r) false 0).wbad 1=false:=by
    unfold ap.wbad
    simp only[aP,List.length_append,List.length_cons,List.length_nil,Bool.or_eq_false_iff,decide_eq_false_iff_not]
    omega
  have hf:(ap.mk (aP [a]++r) false 0).fails (2*1)=false:=by
    unfold ap.fails
    simp[aP]
    omega
  constructor
  · unfold ap.wordV ap.wordsR ap.bytesR
    rw[hb,hf]
    show(dH [a/256,a%256]).getD 0 0=a
    unfold dH
    rw[if_pos (by simp)]
    show a/256*256+a%256=a
    omega
  · unfold ap.wordsC ap.bytesC
    rw[hb,hf]
    rfl
end Go.Proofs.YtpglhicfhppaiaaGreat
namespace Go.Proofs.YtpglhicfhppaiaaGreat
theorem fK(u:Int)(l:List Int) : (jW u l).length=3+l.length:=by simp[jW,bQ];omega
theorem iZ{dir u t:Int}{M:aV}{b:List Int}(h:fX dir u t M=some b) : t=0∧∃ l,bY dir M=some l∧b=jW u l∧l.length≤253:=by
  unfold fX at h
  split at h
  · cases h
  · rename_i l hl
    have hle:=fH hl
    split at h
    · cases h
    · rename_i ht
      injection h with h
      exact⟨by simpa using ht,l,hl,h.symm,hle⟩
theorem qS{dir u t:Int}{M:aV}{b:List Int}(hc:0≤M.code∧M.code<256)(h:fX dir u t M=some b) : 4≤b.length∧b.length≤256:=by
  obtain⟨_,l,h1,rfl,h2⟩:=iZ h
  have:=eP hc h1
  rw[fK]
  omega
theorem lx(u:Int)(l:List Int) : (jW u l).take ((jW u l).length-2)=[u]++l:=by
  rw[fK,show 3+l.length-2=([u]++l).length from by simp;omega]
  exact List.take_left' rfl
theorem sw(u:Int)(l:List Int) : (jW u l).drop ((jW u l).length-2)=bQ (cw 65535 ([u]++l)):=by
  rw[fK,show 3+l.length-2=([u]++l).length from by simp;omega]
  exact List.drop_left' rfl
theorem vW(u:Int)(l:List Int) : ez (jW u l)=true:=by
  unfold ez
  rw[lx,sw,fK]
  simp only[decide_true,Bool.and_true,decide_eq_true_eq]
  omega
theorem xY(u:Int)(l:List Int) : fV (jW u l)=l:=by
  unfold fV
  rw[lx]
  rfl
theorem yG{dir u:Int}{l:List Int}(hd:dir=0∨dir=1)(h:0<l.length)(h2:l.length≤253) : eI dir (jW u l)=cT u 0 (cL dir l):=by
  unfold eI
  rw[vW,xY]
  rw[if_neg (show ¬ (dir != 0&&dir != 1)=true by rcases hd with rfl | rfl<;>decide),if_neg (by rw[fK];simp only[decide_eq_true_eq];omega),if_neg (by rw[fK];simp only[decide_eq_true_eq];omega),if_neg (by decide)]
  rfl
theorem za{dir u t:Int}{M:aV}{b:List Int}(hd:dir=0∨dir=1)(hc:0≤M.code∧M.code<256)(hf:0≤M.fail∧M.fail<256)(h:fX dir u t M=some b) : eI dir b=(⟨u,t,M⟩,0):=by
  obtain⟨rfl,l,h1,rfl,h2⟩:=iZ h
  rw[yG hd (eP hc h1) h2,qa hd hc hf h1]
  rfl
open Go.RowKit
theorem gL{m:Bool}{cs:Array Value}{M:aV}{w:World}{dir:Int}(h:aF m w cs.toList M)(hf:bp M)(l:List Int)(hX:bY dir M=some l) : cK l:=by
  obtain⟨e,w',_,hR,_⟩:=ec (dir:=dir) h hf []
  rw[hX] at hR
  obtain⟨v,_,ho,_⟩:=hR
  exact aQ.range ho.rd
def l8 (u:Int)(l:List Int) : List Int:=([u]++l)++[cS ([u]++l)]
theorem fG(u:Int)(l:List Int) : (l8 u l).length=l.length+2:=by simp[l8]
theorem mN(u:Int)(l:List Int) : tU u l=([58]++cY (l8 u l))++[13,10]:=rfl
theorem uE(u:Int)(l:List Int) : (tU u l).length=2*l.length+7:=by
  rw[mN]
  simp only[List.length_append,List.length_cons,List.length_nil,dc,fG]
  omega
theorem lL{u:Int}{l:List Int}(hu:0≤u∧u<256)(hl:cK l) : cK (l8 u l):=by
  refine iE (iE ?_ hl) ?_
  · intro x hx;rw[List.mem_singleton] at hx;rw[hx];exact hu
  · intro x hx;rw[List.mem_singleton] at hx;rw[hx];exact jd _
theorem gH{dir u t:Int}{M:aV}{b:List Int}(h:gi dir u t M=some b) : t=0∧∃ l,bY dir M=some l∧b=tU u l∧l.length≤253:=by
  unfold gi at h
  split at h
  · cases h
  · rename_i l hl
    have hle:=fH hl
    split at h
    · cases h
    · rename_i ht
      injection h with h
      exact⟨by simpa using ht,l,hl,h.symm,hle⟩
theorem xx{dir u t:Int}{M:aV}{b:List Int}(hc:0≤M.code∧M.code<256)(h:gi dir u t M=some b) : 9≤b.length∧b.length≤513:=by
  obtain⟨_,l,h1,rfl,h2⟩:=gH h
  have:=eP hc h1
  rw[uE]
  omega
theorem nD(s:List Int) : (([58]++s)++[13,10]).drop 1=s++[13,10]:=rfl
theorem vZ(s:List Int) : fw (s++[13,10])=true:=by
  unfold fw
  have e:(((s++[13,10]).length:Nat) : Int)=(s.length:Int)+2:=by simp
  have e2:((s.length:Int)+2-2).toNat=s.length:=by omega
  rw[e,e2,List.drop_left' rfl]
  simp
  omega
theorem uR(s:List Int) : i5 (([58]++s)++[13,10])=some s:=by
  rw[vg rfl (by rw[nD];exact vZ s),nD]
  have e:(([58]++s)++[13,10]).length-3=s.length:=by simp
  rw[e,List.take_left' rfl]
theorem oo(a b:List Int) : ∀ k,k≤a.length→iC (a++b) k=iC a k
  | 0,_=>rfl
  | k+1,h=>by
    unfold iC
    rw[oo a b k (by omega),List.getD_eq_getElem?_getD,List.getD_eq_getElem?_getD,List.getElem?_append_left (by omega)]
theorem sm(a:List Int)(c:Int) : pZ (a++[c])=(pZ a+c)%256:=by
  unfold pZ
  have e:(a++[c]).length=a.length+1:=by simp
  rw[e]
  show(iC (a++[c]) a.length+(a++[c]).getD a.length 0)%256=_
  rw[oo a [c] _ (Nat.le_refl _)]
  simp
theorem oS{a:List Int}{c:Int}(hc:0≤c∧c<256) : eR (a++[c])=true↔c=cS a:=by
  have h:=v7 a a.length
  unfold eR cS
  rw[sm]
  have hs:pZ a=iC a a.length:=rfl
  simp only[Bool.and_eq_true,decide_eq_true_eq,beq_iff_eq,List.length_append,List.length_cons,List.length_nil]
  constructor
  · intro k;omega
  · intro k;omega
theorem xo(u:Int)(l:List Int) : eR (l8 u l)=true:=(oS (jd _)).2 rfl
theorem xR(u:Int)(l:List Int) : fh (l8 u l)=l:=by
  unfold fh
  rw[fG,show l.length+2-1=([u]++l).length from by simp]
  unfold l8
  rw[List.take_left' rfl]
  rfl
theorem yf{dir:Int}{s:List Int}(hd:dir=0∨dir=1)(h:6≤s.length)(h2:s.length≤510) : dO dir (([58]++s)++[13,10])=match bV s with
      | none=>(aW.zero,11)
      | some x=>if !(eR x) then (aW.zero,10) else cT (x.getD 0 0) 0 (cL dir (fh x)):=by
  have hl:((([58]++s)++[13,10]).length:Int)=(s.length:Int)+3:=by simp;omega
  unfold dO
  rw[uR,hl]
  rw[if_neg (show ¬ (dir != 0&&dir != 1)=true by rcases hd with rfl | rfl<;>decide),if_neg (by simp only[decide_eq_true_eq];omega),if_neg (by simp only[decide_eq_true_eq];omega)]
  all_goals rfl
theorem xX{dir u:Int}{l:List Int}(hd:dir=0∨dir=1)(hu:0≤u∧u<256)(hb:cK l)(h:0<l.length)(h2:l.length≤253) : dO dir (tU u l)=cT u 0 (cL dir l):=by
  rw[mN,yf hd (by rw[dc,fG];omega) (by rw[dc,fG];omega),lU _ (lL hu hb)]
  show(if !(eR (l8 u l)) then _ else _)=_
  rw[xo,xR]
  rfl
theorem yD{dir u t:Int}{M:aV}{b:List Int}(hd:dir=0∨dir=1)(hu:0≤u∧u<256)(hc:0≤M.code∧M.code<256)(hf:0≤M.fail∧M.fail<256)(hb:∀ l,bY dir M=some l→cK l)(h:gi dir u t M=some b) : dO dir b=(⟨u,t,M⟩,0):=by
  obtain⟨rfl,l,h1,rfl,h2⟩:=gH h
  rw[xX hd hu (hb l h1) (eP hc h1) h2,qa hd hc hf h1]
  rfl
open Go.RowKit
end Go.Proofs.YtpglhicfhppaiaaGreat
namespace Go.Proofs.YtpglhicfhppaiaaGreat
def qq (t z n u:Int)(l:List Int) : List Int:=(aP [t,z,n]++[u])++l
theorem mz(t z n u:Int)(l:List Int) : (qq t z n u l).length=7+l.length:=by simp[qq,aP];omega
theorem Bv(u:Int)(l:List Int) : (ap.mk ([u]++l) false 0).byteV=u∧(ap.mk ([u]++l) false 0).bytesC 1=⟨l,false,0⟩:=by
  have hf:(ap.mk ([u]++l) false 0).fails 1=false:=by
    unfold ap.fails
    simp only[List.length_append,List.length_cons,List.length_nil,Bool.or_eq_false_iff,decide_eq_false_iff_not]
    refine⟨⟨trivial,?_⟩,?_⟩<;>omega
  constructor
  · unfold ap.byteV ap.bytesR
    rw[hf]
    rfl
  · unfold ap.bytesC
    rw[hf]
    rfl
theorem td(l:List Int) : (ap.mk l false 0).bytesR ((l.length:Nat) : Int)=l:=by
  have hf:(ap.mk l false 0).fails ((l.length:Nat) : Int)=false:=by
    unfold ap.fails
    simp only[Bool.or_eq_false_iff,decide_eq_false_iff_not]
    refine⟨⟨trivial,?_⟩,?_⟩<;>omega
  unfold ap.bytesR
  rw[hf]
  show l.take (l.length:Int).toNat=l
  rw[Int.toNat_natCast,List.take_length]
theorem ur{t z n u:Int}{l:List Int}(ht:0≤t∧t<65536)(hz:0≤z∧z<65536)(hn:0≤n∧n<65536) :
    (tC (qq t z n u l)).wordV=t∧(tB (qq t z n u l)).wordV=z∧(tF (qq t z n u l)).wordV=n∧(tE (qq t z n u l)).byteV=u∧kO (qq t z n u l)=l:=by
  have h1:=AN (r:=aP [z]++(aP [n]++([u]++l))) ht
  have h2:=AN (r:=aP [n]++([u]++l)) hz
  have h3:=AN (r:=[u]++l) hn
  have h4:=Bv u l
  have e0:tC (qq t z n u l)=⟨aP [t]++(aP [z]++(aP [n]++([u]++l))),false,0⟩:=by simp[tC,qq,aP]
  have e1:tB (qq t z n u l)=⟨aP [z]++(aP [n]++([u]++l)),false,0⟩:=by unfold tB;rw[e0];exact h1.2
  have e2:tF (qq t z n u l)=⟨aP [n]++([u]++l),false,0⟩:=by unfold tF;rw[e1];exact h2.2
  have e3:tE (qq t z n u l)=⟨[u]++l,false,0⟩:=by unfold tE;rw[e2];exact h3.2
  have e4:vj (qq t z n u l)=⟨l,false,0⟩:=by unfold vj;rw[e3];exact h4.2
  refine⟨by rw[e0];exact h1.1,by rw[e1];exact h2.1,by rw[e2];exact h3.1,by rw[e3];exact h4.1,?_⟩
  unfold kO
  rw[e4]
  exact td l
theorem vQ{dir t z n u:Int}{l:List Int}(hd:dir=0∨dir=1)(ht:0≤t∧t<65536)(hz:0≤z∧z<65536)(hn:0≤n∧n<65536) :
    cE dir (qq t z n u l)=if decide ((7+l.length:Int)<8) then (aW.zero,2) else if decide (260<(7+l.length:Int)) then (aW.zero,3) else if z != 0 then (aW.zero,13) else if n != (l.length:Int)+1 then (aW.zero,5) else cT u t (cL dir l):=by
  obtain⟨h0,h1,h2,h3,h4⟩:=ur (u:=u) (l:=l) ht hz hn
  unfold cE
  rw[h0,h1,h2,h3,h4,mz]
  rw[if_neg (show ¬ (dir != 0&&dir != 1)=true by rcases hd with rfl | rfl<;>decide)]
  rw[show((7+l.length:Nat) : Int)=7+(l.length:Int) by omega,show(7+(l.length:Int))-6=(l.length:Int)+1 by omega]
theorem fY{dir u t:Int}{M:aV}{b:List Int}(h:eb dir u t M=some b) : ∃ l,bY dir M=some l∧b=qq t 0 ((l.length:Int)+1) u l∧l.length≤253:=by
  unfold eb at h
  split at h
  · cases h
  · rename_i l hl
    have hle:=fH hl
    injection h with h
    refine⟨l,hl,?_,hle⟩
    rw[← h,Int.emod_eq_of_lt (by omega) (by omega)]
    rfl
theorem nj{dir u t:Int}{M:aV}{b:List Int}(hc:0≤M.code∧M.code<256)(h:eb dir u t M=some b) : 8≤b.length∧b.length≤260:=by
  obtain⟨l,h1,rfl,h2⟩:=fY h
  have:=eP hc h1
  rw[mz]
  omega
theorem vT{dir u t:Int}{M:aV}{b:List Int}(hd:dir=0∨dir=1)(hc:0≤M.code∧M.code<256)(hf:0≤M.fail∧M.fail<256)(ht:0≤t∧t<65536)(h:eb dir u t M=some b) : cE dir b=(⟨u,t,M⟩,0):=by
  obtain⟨l,h1,rfl,h2⟩:=fY h
  have h3:=eP hc h1
  rw[vQ hd ht (by decide) (by omega),qa hd hc hf h1]
  rw[if_neg (by simp only[decide_eq_true_eq];omega),if_neg (by simp only[decide_eq_true_eq];omega),if_neg (by decide),if_neg (by simp)]
  rfl
theorem s5{dir u t:Int}{M:aV}{b:List Int}(hc:0≤M.code∧M.code<256)(h:eb dir u t M=some b) : b.getD 6 0=u∧b.getD 2 0=0∧b.getD 3 0=0∧256*b.getD 4 0+b.getD 5 0=(b.length:Int)-6∧((M.fail != 0)=false→b.getD 7 0=M.code):=by
  obtain⟨l,h1,rfl,h2⟩:=fY h
  refine⟨rfl,rfl,rfl,?_,fun hf=>?_⟩
  · rw[mz]
    show 256*(((l.length:Int)+1)/256)+((l.length:Int)+1)%256=_
    omega
  · have:=uW hc h1 hf
    have h3:=eP hc h1
    cases l with
    | nil=>simp at h3
    | cons a r=>exact this
open Go.RowKit
theorem lQ{k dir u t:Int}{M:aV}{b:List Int}(h:jw k dir u t M=some b) : (k=0∨k=1∨k=2)∧(k≠2→t=0)∧∃ l,bY dir M=some l∧l.length≤253:=by
  revert h
  refine k4 k (fun e=>?_) (fun e=>?_) (fun e=>?_) (fun h0 h1 h2=>?_)
  · subst e;intro h;obtain⟨h1,l,h2,_,h3⟩:=iZ h;exact⟨.inl rfl,fun _=>h1,l,h2,h3⟩
  · subst e;intro h;obtain⟨h1,l,h2,_,h3⟩:=gH h;exact⟨.inr (.inl rfl),fun _=>h1,l,h2,h3⟩
  · subst e;intro h;obtain⟨l,h2,_,h3⟩:=fY h;exact⟨.inr (.inr rfl),fun h=>absurd rfl h,l,h2,h3⟩
  · rw[vf h0 h1 h2];intro h;cases h
theorem jH{k dir u t:Int}{M:aV}{b:List Int}(hc:0≤M.code∧M.code<256)(h:jw k dir u t M=some b) : 4≤b.length∧(b.length:Int)≤xd k∧b.length≤513:=by
  rcases(lQ h).1 with rfl|rfl|rfl
  · have:=qS hc h;show 4≤b.length∧(b.length:Int)≤256∧_;omega
  · have:=xx hc h;show 4≤b.length∧(b.length:Int)≤513∧_;omega
  · have:=nj hc h;show 4≤b.length∧(b.length:Int)≤260∧_;omega
end Go.Proofs.YtpglhicfhppaiaaGreat
namespace Go.Proofs.YtpglhicfhppaiaaGreat
theorem iO{S S2 S3:SA}{a b:List Int}{L L2:List Ev}(h:S.feed a=(S2,L))(hX:S2.feed b=(S3,L2)) : S.feed (a++b)=(S3,L++L2):=by
  have gen:∀ (b:List Int) (T:SA) (K:List Ev),b.foldl (fun(p:SA × List Ev) c=>((p.1.byte c).1,p.2++(p.1.byte c).2)) (T,K)=((T.feed b).1,K++(T.feed b).2):=by
    intro b
    induction b with
    | nil=>intro T K;simp[SA.feed]
    | cons c t ih =>
      intro T K
      unfold SA.feed
      rw[List.foldl_cons,List.foldl_cons,ih,ih]
      simp
  unfold SA.feed at h ⊢
  rw[List.foldl_append,h,gen,hX]
theorem jF{S:SA}{c:Int}:S.feed [c]=S.byte c:=by
  unfold SA.feed
  simp
theorem tN{h:List Int}{c:Int}(hc:c≠10) : eZ (h++[c]) [13,10]=false:=by
  unfold eZ
  rw[Bool.and_eq_false_iff]
  by_cases hl:2≤(h++[c]).length
  · refine .inr (decide_eq_false fun e=>hc ?_)
    have hn:((((h++[c]).length:Nat) : Int)-(([13,10] : List Int).length:Nat)).toNat=h.length-1:=by
      rw[List.length_append,List.length_cons,List.length_nil]
      show((((h.length+(0+1)) : Nat) : Int)-2).toNat=_
      omega
    rw[hn] at e
    have hl2:1≤h.length:=by rw[List.length_append,List.length_cons,List.length_nil] at hl;omega
    have h1:((h++[c]).drop (h.length-1))[1]? = some c:=by
      rw[List.getElem?_drop,List.getElem?_append_right (by omega)]
      rw[show h.length-1+1-h.length=0 by omega]
      rfl
    rw[e] at h1
    injection h1 with h1
    exact h1.symm
  · refine .inl (decide_eq_false ?_)
    show ¬ (2:Int)≤_
    omega
theorem lX{d:Int}{h:List Int}{c:Int}(h0:0<h.length)(hl:h.length<513)(a:c≠58)(b:c≠10) : (SA.mk d h).byte c=(SA.mk d (h++[c]),[]) :=
  vq (T:=SA.mk d h) (by rw[show(c==58)=false from beq_eq_false_iff_ne.2 a];rfl) (by rw[Bool.and_eq_false_iff];refine .inr (beq_eq_false_iff_ne.2 ?_);show((h.length:Nat) : Int)≠0;omega) (by refine decide_eq_false ?_;show ¬ (513:Int)<(((h++[c]).length:Nat) : Int);rw[List.length_append,List.length_cons,List.length_nil];omega) (tN b)
theorem qW{d:Int}:∀ (l h:List Int),0<h.length→h.length+l.length≤513→(∀ x,x∈l→x≠58∧x≠10)→(SA.mk d h).feed l=(SA.mk d (h++l),[])
  | [],h,_,_,_=>by rw[List.append_nil];rfl
  | c :: t,h,h0,hl,hx=>by
    have hc:=hx c (List.mem_cons_self ..)
    rw[List.length_cons] at hl
    have e:(SA.mk d h).feed [c]=(SA.mk d (h++[c]),[]):=by rw[jF];exact lX h0 (by omega) hc.1 hc.2
    have q:=iO e (qW (d:=d) t (h++[c]) (by rw[List.length_append];omega) (by rw[List.length_append,List.length_cons,List.length_nil];omega) (fun x hx'=>hx x (List.mem_cons_of_mem _ hx')))
    simpa using q
theorem xz{d:Int}{h:List Int}{F:aW}{E:Int}(h0:0<h.length)(hl:h.length+2≤513)(hP:dO d (h++[13,10])=(F,E)) : (SA.mk d h).feed [13,10]=(SA.mk d [],[Ev.mk E F]):=by
  have e:(SA.mk d h).feed [13]=(SA.mk d (h++[13]),[]):=by rw[jF];exact lX h0 (by omega) (by decide) (by decide)
  have e2:(SA.mk d (h++[13])).feed [10]=(SA.mk d [],[Ev.mk E F]):=by
    rw[jF]
    have ha:(h++[13])++[10]=h++[13,10]:=by simp
    refine v8 (T:=SA.mk d (h++[13])) (by simp) ?_ ?_ ?_ (by show dO d ((h++[13])++[10])=_;rw[ha];exact hP)
    · rw[Bool.and_eq_false_iff]
      refine .inr (beq_eq_false_iff_ne.2 ?_)
      show(((h++[13]).length:Nat) : Int)≠0
      rw[List.length_append,List.length_cons,List.length_nil]
      omega
    · refine decide_eq_false ?_
      show ¬ (513:Int)<((((h++[13])++[10]).length:Nat) : Int)
      rw[ha,List.length_append]
      show ¬ (513:Int)<((h.length+2:Nat) : Int)
      omega
    · show eZ ((h++[13])++[10]) [13,10]=true
      rw[ha]
      unfold eZ
      rw[Bool.and_eq_true]
      refine⟨decide_eq_true ?_,decide_eq_true ?_⟩
      · rw[List.length_append];show(2:Int)≤((h.length+2:Nat) : Int);omega
      · have hn:((((h++[13,10]).length:Nat) : Int)-(([13,10] : List Int).length:Nat)).toNat=h.length:=by
          rw[List.length_append]
          show(((h.length+2:Nat) : Int)-2).toNat=_
          omega
        rw[hn,List.drop_left]
  exact iO e e2
theorem wH{b:List Int}(h:cK b) : ∀ x,x∈cY b→x≠58∧x≠10:=by
  have hd:∀ n:Int,0≤n∧n<16→dI n≠58∧dI n≠10:=fun n hn=>by
    unfold dI
    split<;>omega
  induction b with
  | nil=>intro x hx;cases hx
  | cons c t ih =>
    have hc:=h c (List.mem_cons_self ..)
    have ht:cK t:=fun x hx=>h x (List.mem_cons_of_mem _ hx)
    intro x hx
    simp only[cY,List.mem_cons] at hx
    rcases hx with rfl|rfl|hx
    · exact hd _ (by omega)
    · exact hd _ (by omega)
    · exact ih ht x hx
end Go.Proofs.YtpglhicfhppaiaaGreat
namespace Go.Proofs.YtpglhicfhppaiaaGreat
theorem oh{b:List Int}{k:Nat}(hk:k<b.length) : b.take k++[b.getD k 0]=b.take (k+1):=by
  rw[List.take_succ_eq_append_getElem hk,List.getD_eq_getElem?_getD,List.getElem?_eq_getElem hk]
  rfl
theorem kq{b:List Int}{i k:Nat}(h:i<k) : (b.take k).getD i 0=b.getD i 0:=by
  rw[List.getD_eq_getElem?_getD,List.getD_eq_getElem?_getD,List.getElem?_take,if_pos h]
theorem nU{d s:Int}{b:List Int}{k:Nat}(h:6≤k) : (SM.mk d (b.take k) s).size=b.getD 4 0*256+b.getD 5 0:=by
  unfold SM.size
  rw[kq (by omega),kq (by omega)]
theorem uG{d:Int}{b:List Int}{k:Nat}(hl:(b.length:Int)=6+(b.getD 4 0*256+b.getD 5 0))(h1:2≤b.getD 4 0*256+b.getD 5 0)(h2:b.getD 4 0*256+b.getD 5 0≤254)(hk:k+1<b.length) :
    (SM.mk d (b.take k) 0).byte (b.getD k 0)=(SM.mk d (b.take (k+1)) 0,[]):=by
  have e:=uf (T:=SM.mk d (b.take k) 0) (c:=b.getD k 0) (show ¬ (0:Int)<0 by omega)
  simp only[oh (show k<b.length by omega)] at e
  refine e ?_
  have hlen:(b.take (k+1)).length=k+1:=by rw[List.length_take];omega
  unfold SM.nx
  by_cases h6:k+1<6
  · rw[if_pos (by show(b.take (k+1)).length<6;omega)]
  · rw[if_neg (by show ¬ (b.take (k+1)).length<6;omega),nU (by omega),if_neg (by omega),if_neg (by omega),if_neg (by show ¬ ((b.take (k+1)).length:Int)=_;omega)]
theorem rC{d:Int}{b:List Int}(hl:(b.length:Int)=6+(b.getD 4 0*256+b.getD 5 0))(h1:2≤b.getD 4 0*256+b.getD 5 0)(h2:b.getD 4 0*256+b.getD 5 0≤254) :
    ∀ k,k<b.length→(SM.mk d (b.take k) 0,[])=(SM.mk d [] 0).feed (b.take k)
  | 0,_=>rfl
  | k+1,hk=>by
    have ih:=rC (d:=d) hl h1 h2 k (by omega)
    exact jR (by omega) ih (uG hl h1 h2 hk)
theorem sO{d:Int}{b:List Int}{F:aW}{E:Int}(hl:(b.length:Int)=6+(b.getD 4 0*256+b.getD 5 0))(h1:2≤b.getD 4 0*256+b.getD 5 0)(h2:b.getD 4 0*256+b.getD 5 0≤254)(hP:cE d b=(F,E)) :
    (SM.mk d [] 0).feed b=(SM.mk d [] 0,[⟨E,F⟩]):=by
  obtain⟨k,hk⟩ : ∃ k,b.length=k+1:=⟨b.length-1,by omega⟩
  have ih:=rC (d:=d) hl h1 h2 k (by omega)
  have ht:b.take (k+1)=b:=List.take_of_length_le (by omega)
  have hx:(SM.mk d (b.take k) 0).byte (b.getD k 0)=(SM.mk d [] 0,[⟨E,F⟩]):=by
    have e:=tJ (T:=SM.mk d (b.take k) 0) (c:=b.getD k 0) (F:=F) (E:=E) (show ¬ (0:Int)<0 by omega)
    simp only[oh (show k<b.length by omega)] at e
    refine e ?_ (by rw[ht];exact hP)
    unfold SM.nx
    rw[if_neg (by show ¬ (b.take (k+1)).length<6;rw[ht];omega),nU (by omega),if_neg (by omega),if_neg (by omega),if_pos (by show((b.take (k+1)).length:Int)=_;rw[ht];omega)]
  have q:=iG (by omega) ih hx
  rw[ht] at q
  exact q.symm
theorem tw{dir u t:Int}{M:aV}{b:List Int}(hd:dir=0∨dir=1)(hM:(0≤M.code∧M.code<256)∧(0≤M.fail∧M.fail<256))(ht:0≤t∧t<65536)(h:eb dir u t M=some b) : (SM.mk dir [] 0).feed b=(SM.mk dir [] 0,[⟨0,⟨u,t,M⟩⟩]):=by
  obtain⟨_,_,_,h4,_⟩:=s5 hM.1 h
  have h5:=nj hM.1 h
  exact sO (by omega) (by omega) (by omega) (vT hd hM.1 hM.2 ht h)
open Go.RowKit
theorem tZ{d u t:Int}{M:aV}{b:List Int}(hd:d=0∨d=1)(hM:(0≤M.code∧M.code<256)∧(0≤M.fail∧M.fail<256))(hW:fX d u t M=some b) : (XS.r ⟨d,[],false⟩).take b true=(XS.r ⟨d,[],false⟩,[⟨0,⟨u,t,M⟩⟩]):=by
  have hl:=qS hM.1 hW
  have e1:(SS.mk d [] false).feed b=(SS.mk d b false,[]):=by
    unfold SS.feed
    rw[if_neg (by simp),if_pos (by rw[decide_eq_true_eq];show b.length≤256-0;omega)]
    simp
  show(XS.r ((SS.mk d [] false).feed b).1.tick.1,((SS.mk d [] false).feed b).2++((SS.mk d [] false).feed b).1.tick.2)=_
  rw[e1]
  show(XS.r ⟨d,[],false⟩,(if b.length=0 then ([] : List Ev) else [⟨(eI d b).2,(eI d b).1⟩]))=_
  rw[if_neg (by omega),za hd hM.1 hM.2 hW]
theorem tK{d u t:Int}{M:aV}{b:List Int}(hd:d=0∨d=1)(hu:0≤u∧u<256)(hM:(0≤M.code∧M.code<256)∧(0≤M.fail∧M.fail<256))(hb:∀ l,bY d M=some l→cK l)(h:gi d u t M=some b) : (SA.mk d []).feed b=(SA.mk d [],[⟨0,⟨u,t,M⟩⟩]):=by
  have hP:=yD hd hu hM.1 hM.2 hb h
  obtain⟨h0,l,h1,h2,h3⟩:=gH h
  have hx:=lL hu (hb l h1)
  rw[h2,mN] at hP
  rw[h2,mN]
  have g1:(SA.mk d []).feed [58]=(SA.mk d [58],[]):=by
    rw[jF]
    exact vq (T:=SA.mk d []) (by simp) (by simp) (by simp) (by simp[eZ])
  have g3:=qW (d:=d) (cY (l8 u l)) [58] (by decide) (by rw[dc,fG,List.length_cons,List.length_nil];omega) (wH hx)
  have g4:=xz (d:=d) (h:=[58]++cY (l8 u l)) (by simp) (by rw[List.length_append,dc,fG,List.length_cons,List.length_nil];omega) hP
  exact iO (iO g1 g3) g4
theorem gg{k d u t:Int}{M:aV}{b:List Int}(hd:d=0∨d=1)(hu:0≤u∧u<256)(ht:0≤t∧t<65536)(hM:(0≤M.code∧M.code<256)∧(0≤M.fail∧M.fail<256))(hb:∀ l,bY d M=some l→cK l)(h:jw k d u t M=some b) : (XS.zero k d).take b true=(XS.zero k d,[⟨0,⟨u,t,M⟩⟩]):=by
  rcases(lQ h).1 with rfl|rfl|rfl
  · exact tZ hd hM h
  · show(XS.a ((SA.mk d []).feed b).1,((SA.mk d []).feed b).2++[])=_
    rw[tK hd hu hM hb h]
    rfl
  · show(XS.m ((SM.mk d [] 0).feed b).1,((SM.mk d [] 0).feed b).2++[])=_
    rw[tw hd hM ht h]
    rfl
theorem gI{S0:XS}{ps:List Pc}{ws:List Ev}{b:List Int}{ev:Ev}(h:S0.run ps=(S0,ws))(ht:S0.take b true=(S0,[ev])) : S0.run (ps++[Pc.mk b true])=(S0,ws++[ev]):=by
  rw[mr,h,jK]
  show((S0.take b true).1,ws++(S0.take b true).2)=_
  rw[ht]
theorem iF(ps:List Pc)(b:List Int)(t:Bool) : fq (ps++[Pc.mk b t])=fq ps+b.length:=by
  unfold fq
  rw[List.map_append,kF]
  rfl
theorem lE(k d:Int) : (XS.zero k d).held=[]:=by
  unfold XS.zero
  cases k==0<;>cases k==1<;>rfl
theorem pcS.upd{m:Bool}{w w':World}{X:List Nat}(hu:ax X w w')(hs:bX m fA X w)(p:Pc)(cs:List Value)(h:oN m w p cs) : oN m w' p cs:=by
  obtain⟨v,h1,h2⟩:=h
  exact⟨v,h1,aQ.upd' h2 hu (hs.sub (by decide))⟩
theorem pcS.ones{m:Bool}{w:World}:∀ (x:Pc)(cs:List Value),oN m w x cs→∀ v,v∈cs→v.oneCell'=true:=fun x cs ⟨v,h1,h2⟩ u hu=>by
  rw[h1] at hu
  obtain⟨A,c,e,_⟩:=h2.shape
  rcases List.mem_cons.1 hu with e2|hu
  · rw[e2,e];rfl
  · rw[List.mem_singleton] at hu;rw[hu];rfl
def eF (w0 w:World)(x:Ev)(cs:List Value) : Prop:=mh false w0 x cs∧ax [] w0 w
theorem eF.upd{w0 w w':World}{X:List Nat}(hu:ax X w w')(hx:∀ x,x∈X→w0.heap.size≤x)(x:Ev)(cs:List Value)(h:eF w0 w x cs) : eF w0 w' x cs:=⟨h.1,ax.trans' h.2 hu (fun y hy=>.inr (hx y hy))⟩
theorem eF.ev{w0 w:World}(x:Ev)(cs:List Value)(h:eF w0 w x cs) : mh false w x cs:=mh.upd h.2 (bX.nil _ _ _) x cs h.1
theorem eF.ones{w0 w:World}:∀ (x:Ev)(cs:List Value),eF w0 w x cs→∀ v,v∈cs→v.oneCell'=true:=fun x cs h=>mh.ones x cs h.1
theorem aF.fls{m:Bool}{w:World}{cs:List Value}{M:aV}(h:aF m w cs M) : aF false w cs M:=by
  obtain⟨vw,vb,vd,vr,vo,h0,h1,h2,h3,h4,h5,h6⟩:=h
  exact⟨vw,vb,vd,vr,vo,h0,aO.any h1 fun _ _ q=>q,aO.any h2 fun _ _ q=>q,aO.any h3 fun _ _ q=>q,aO.any h4 fun r cs ⟨v,a,b,c⟩=>⟨v,a,aO.any b fun _ _ q=>q,c⟩,aO.any h5 fun r cs ⟨v,a,b,c⟩=>⟨v,a,aO.any b fun _ _ q=>q,c⟩,h6⟩
theorem eF.mk{m:Bool}{w0 w:World}{u t:Int}{M:aV}{s:SL}(h:aF m w0 (gG M s).toList M)(hu:0≤u∧u<256)(ht:0≤t∧t<65536)(k:ax [] w0 w) : eF w0 w (Ev.mk 0 ⟨u,t,M⟩) (mS ⟨0,⟨u,t,M⟩⟩ s).toList:=⟨⟨s,rfl,h.fls,hu,ht⟩,k⟩
theorem OwnU.any{w0 w:World}{base:Nat}{v:Value}{xs:List Ev}(h:aJ base 66 25 (eF w0) w v xs) : od false w v xs:=aO.any h.rd eF.ev
theorem rB{w0 w:World}{g:Nat}{cs:Array Value}{p:Pc}(hg:w0.heap.size≤g)(hb:w.heap[g]? = some (.cells cs 53 (0,0)))(h:oN true w p cs.toList) : aJ w0.heap.size 53 2 (oN true) w (.slice (some ⟨g,0,none⟩) 1 1) [p]:=by
  have hl:cs.toList.length=2:=by
    obtain⟨v,h1,_⟩:=h
    rw[h1]
    rfl
  refine⟨cs.toList,⟨hl,.inr ⟨g,1,cs,rfl,hg,hb,Nat.le_refl _,by unfold maxLen;omega,by simpa using hl,by rw[List.take_of_length_le];exact Nat.le_of_eq hl⟩⟩,fun j y hj=>?_⟩
  cases j with
  | succ j=>simp at hj
  | zero =>
    have hj:p=y:=by simpa using hj
    subst hj
    exact⟨cs.toList,hl,h,fun i u hi=>by simpa using hi⟩
theorem xu{wz w0 w:World}{g:Nat}{cs:Array Value}{p:Ev}(hg:w0.heap.size≤g)(hb:w.heap[g]? = some (.cells cs 66 (0,0)))(h:eF wz w p cs.toList) : aJ w0.heap.size 66 25 (eF wz) w (.slice (some ⟨g,0,none⟩) 1 1) [p]:=by
  have hl:cs.toList.length=25:=by
    obtain⟨⟨s,h1,_⟩,_⟩:=h
    rw[h1]
    rfl
  refine⟨cs.toList,⟨hl,.inr ⟨g,1,cs,rfl,hg,hb,Nat.le_refl _,by unfold maxLen;omega,by simpa using hl,by rw[List.take_of_length_le];exact Nat.le_of_eq hl⟩⟩,fun j y hj=>?_⟩
  cases j with
  | succ j=>simp at hj
  | zero =>
    have hj:p=y:=by simpa using hj
    subst hj
    exact⟨cs.toList,hl,h,fun i u hi=>by simpa using hi⟩
open Go.RowKit
theorem gn.shape{base:Nat}{w:World}{v:Value}{xs:List Int}(h:gn base w v xs) : ∃ A cp,v = .slice A xs.length cp∧aQ true w (.slice A xs.length cp) xs∧∀ x,x∈ob A→base≤x:=by
  obtain⟨h1,A,n,c,rfl,h2⟩:=h
  obtain⟨A',c',e,_,_⟩:=h1.shape
  injection e with e1 e2 e3
  subst e1 e2 e3
  exact⟨A,c,rfl,h1,h2⟩
open Go.RowKit
theorem jv{w:World}{fr:Int}{ans:Bool}(hfr:0≤fr∧fr<256){mF:Bool}{F:Option Addr}{cpF:Nat}{fs:List aW}(hF:uA mF w (.slice F fs.length cpF) fs) :
    Calls Tryz.prog 11 #[.int .u8 fr,.bool ans,.slice F fs.length cpF] w (bv (.bool true) w):=by
 have hzF:=aO.len hF
 refine en 87 Tryz.func11 rfl<|sg<|Pl 1<|ng<|L0<|Oc<|m1 (@vN _) fun bA o=>Pl 1<|nt<|sq<|sq<|?_
 refine go<|Pl 3<|nt<|cb ((decide (30<((fs.length:Nat) : Int)))) (fun ak=>?_) (fun ak=>?_)
 have cL:=of_decide_eq_true ak
 refine sg<|Pl 2<|nt<|rt<|tr<|rr (.bool true)<|?_
 exact⟨rfl,o⟩
 have cL:=of_decide_eq_false ak
 refine bG<|sg<|Pl 1<|nt<|sq<|sg<|Pl 1<|nt<|cb (ans) (fun cM=>?_) (fun cM=>?_)
 refine go<|Pl 1<|ng<|Pl 1<|L0<|Oe (.int .u8 (Int.tmod fr 3)) (.int .u8 (fr%3)) (congrArg (Value.int .u8) (Int.tmod_eq_emod_of_nonneg (by omega)))<|L0<|Oi (fr%3)<|Pl 1<|ng<|?_
 refine Pl 1<|ng<|Pl 1<|nt<|sq<|sg<|Pl 1<|nt<|?_
 refine bk<|?_
 refine ir (fun x=>[(2,.slice F fs.length cpF),(7,.bool true),(8,.int .i64 1),(9,.int .i64 (fr%3)),(10,.slice x.2.2.1 x.2.1.length x.2.2.2.1),(11,.slice x.2.2.2.2.2.1 x.2.2.2.2.1.length x.2.2.2.2.2.2),(12,.int .i64 ((x.1:Nat) : Int))]) (fun(x:Nat × List Pc × Option Addr × Nat × List Ev × Option Addr × Nat) w'=>ax [] w w'∧bA.heap.size≤w'.heap.size∧aJ w.heap.size 53 2 (oN true) w' (.slice x.2.2.1 x.2.1.length x.2.2.2.1) x.2.1∧aJ w.heap.size 66 25 (eF w) w' (.slice x.2.2.2.2.2.1 x.2.2.2.2.1.length x.2.2.2.2.2.2) x.2.2.2.2.1∧(x.1≤fs.length)∧(x.2.1.length≤x.1)∧(x.2.2.2.2.1.length≤x.1)∧(fq x.2.1≤600*x.1)∧(XS.run (XS.zero (fr%3) 1) x.2.1=(XS.zero (fr%3) 1,x.2.2.2.2.1))) (fun x=>fs.length-x.1) (0,[],none,0,[],none,0) ⟨o,lr,(aJ.nil w.heap.size _ _ (oN true) _),(aJ.nil w.heap.size _ _ (eF w) _),(by(try dsimp only);omega),(by(try dsimp only);exact Nat.le_refl _),(by(try dsimp only);exact Nat.le_refl _),(by(try dsimp only);exact Nat.zero_le _),rfl⟩ ?_
 rintro⟨k,ps,B,cq,ws,C,cr⟩ bB ⟨V,A,cN,cO,cP,cQ,cR,cS,cT⟩
 refine it [(2,.slice F fs.length cpF),(7,.bool true),(8,.int .i64 1),(9,.int .i64 (fr%3)),(10,.slice B ps.length cq),(11,.slice C ws.length cr),(12,.int .i64 ((k:Nat) : Int))] ?_
 have c:aJ w.heap.size 53 2 (oN true) bB (.slice B ps.length cq) ps:=cN
 have h:aJ w.heap.size 66 25 (eF w) bB (.slice C ws.length cr) ws:=cO
 have ej:k≤fs.length:=cP
 have ek:ps.length≤k:=cQ
 have el:ws.length≤k:=cR
 have em:fq ps≤600*k:=cS
 have E:XS.run (XS.zero (fr%3) 1) ps=(XS.zero (fr%3) 1,ws):=cT
 refine sq<|sg<|Pl 4<|nt<|cb ((decide (((k:Nat) : Int)<((fs.length:Nat) : Int)))) (fun al=>?_) (fun al=>?_)
 have cU:=of_decide_eq_true al
 refine bG<|sq<|bk<|sg<|Pl 2<|zb (uA.elt hF k (by(try simp only[List.length_set,List.length_append]);omega) aW.zero) fun eo ep eq es et a bD cV f bE=>?_
 have eu:=f.2
 refine L0<|ia 24 fs.length k bD (by(try simp only[List.length_set,List.length_append]);omega)<|Pl 1<|?_
 have bF:=ub V cV
 refine L0<|uh [.int .u8 ((fs.getD k aW.zero).msg.code),.int .u8 ((fs.getD k aW.zero).msg.fail),.int .u16 ((fs.getD k aW.zero).msg.addr),.int .u16 ((fs.getD k aW.zero).msg.count),.int .u16 ((fs.getD k aW.zero).msg.value),.int .u16 ((fs.getD k aW.zero).msg.and_),.int .u16 ((fs.getD k aW.zero).msg.or_),.int .u16 ((fs.getD k aW.zero).msg.addr2),.int .u16 ((fs.getD k aW.zero).msg.sub),.int .u16 ((fs.getD k aW.zero).msg.status),.int .u16 ((fs.getD k aW.zero).msg.events),.int .u16 ((fs.getD k aW.zero).msg.messages),.slice a.aw ((fs.getD k aW.zero).msg.words.length) a.kw,.slice a.ab ((fs.getD k aW.zero).msg.bits.length) a.kb,.slice a.ad ((fs.getD k aW.zero).msg.data.length) a.kd,.slice a.ar ((fs.getD k aW.zero).msg.recs.length) a.kr,.int .u8 ((fs.getD k aW.zero).msg.mei),.int .u8 ((fs.getD k aW.zero).msg.kind),.int .u8 ((fs.getD k aW.zero).msg.level),.int .u8 ((fs.getD k aW.zero).msg.more),.int .u8 ((fs.getD k aW.zero).msg.next),.slice a.ao ((fs.getD k aW.zero).msg.objects.length) a.ko] bF (tP (k:=2) (m:=22) bE (by kernel_rfl) (by decide))<|?_
 have am:=aF.old (f.1) V
 refine L0<|Oc<|m1 (rD am) fun ev j=>Pl 1<|nt<|sq<|sg<|Pl 2<|nt<|?_
 have an:=aE V j
 refine cb ((!(fa (fs.getD k aW.zero).msg))) (fun ap=>?_) (fun ap=>?_)
 have q:(fa (fs.getD k aW.zero).msg)=false:=by simpa using ap
 refine sg<|Pl 2<|nt<|rt<|tr<|br<|tr<|tr<|br<|tr<|rr (.bool true)<|?_
 exact⟨rfl,an⟩
 have q:(fa (fs.getD k aW.zero).msg)=true:=by simpa using ap
 refine bG<|sg<|Pl 2<|L0<|ia 24 fs.length k bD (by(try simp only[List.length_set,List.length_append]);omega)<|?_
 refine L0<|uh [.int .u8 ((fs.getD k aW.zero).unit),.int .u16 ((fs.getD k aW.zero).tid),.int .u8 ((fs.getD k aW.zero).msg.code),.int .u8 ((fs.getD k aW.zero).msg.fail),.int .u16 ((fs.getD k aW.zero).msg.addr),.int .u16 ((fs.getD k aW.zero).msg.count),.int .u16 ((fs.getD k aW.zero).msg.value),.int .u16 ((fs.getD k aW.zero).msg.and_),.int .u16 ((fs.getD k aW.zero).msg.or_),.int .u16 ((fs.getD k aW.zero).msg.addr2),.int .u16 ((fs.getD k aW.zero).msg.sub),.int .u16 ((fs.getD k aW.zero).msg.status),.int .u16 ((fs.getD k aW.zero).msg.events),.int .u16 ((fs.getD k aW.zero).msg.messages),.slice a.aw ((fs.getD k aW.zero).msg.words.length) a.kw,.slice a.ab ((fs.getD k aW.zero).msg.bits.length) a.kb,.slice a.ad ((fs.getD k aW.zero).msg.data.length) a.kd,.slice a.ar ((fs.getD k aW.zero).msg.recs.length) a.kr,.int .u8 ((fs.getD k aW.zero).msg.mei),.int .u8 ((fs.getD k aW.zero).msg.kind),.int .u8 ((fs.getD k aW.zero).msg.level),.int .u8 ((fs.getD k aW.zero).msg.more),.int .u8 ((fs.getD k aW.zero).msg.next),.slice a.ao ((fs.getD k aW.zero).msg.objects.length) a.ko] (ub j bF) bE<|L0<|bI xn fun ew ex G cW r=>L0<|bf cW (dZ ((fs.getD k aW.zero).unit) ((fs.getD k aW.zero).tid) ((fs.getD k aW.zero).msg) a) fun ey au t=>nt<|sq<|sg<|Pl 2<|nt<|?_
 have az:=ud r t G
 have aB:=aE an az
 refine cb (((fr%3)!=2)) (fun aC=>?_) (fun aC=>?_)
 have cX:=aA aC
 refine go<|Pl 2<|L0<|cn au 1 (dZ ((fs.getD k aW.zero).unit) 0 ((fs.getD k aW.zero).msg) a) fun ez bH H=>ng<|Pl 2<|L0<|bZ bH<|?_
 have W:=aE j (ud az H G)
 have aH:=aF.old am W
 have bJ:=ud aB H (le an.size G)
 refine wo (jw (fr%3) 1 ((fs.getD k aW.zero).unit) 0 ((fs.getD k aW.zero).msg)) (fun I=>?_) (fun X I=>?_)
 refine L0<|Oc<|m1 (fi aH (dh q) (by omega) (by omega) I) fun eA aK=>Pl 5<|ng<|Pl 2<|nt<|c0<|sk<|bn<|tn<|go<|?_
 refine Pl 1<|L0<|Oi (((k:Nat) : Int)+1)<|Pl 1<|nl<|?_
 have Y:=aE W aK
 exact er ((k+1),ps,B,cq,ws,C,cr) ⟨(aE bJ aK),(le (le (le (le (le A j.size) r.size) t.size) H.size) aK.size),(aj c Y (fun x hx=>ay) (pcS.upd Y aD)),(aj h Y (fun x hx=>ay) (eF.upd Y (fun x hx=>by cases hx))),(by(try dsimp only);omega),(by(try dsimp only);omega),(by(try dsimp only);omega),(by(try dsimp only);omega),(by(try dsimp only);exact E)⟩ (by omega)
 have eB:=jH (aH.rngs).1 I
 refine L0<|Oc<|e2 (fg aH (dh q) (by omega) (by omega) I) fun eC eD cY aL=>?_
 obtain⟨cZ,d0,rfl,d1,eE⟩:=gn.shape cY
 refine Pl 5<|ng<|Pl 2<|nt<|c1<|sg<|Pl 3<|L0<|cF (m:=1) (e:=53) #[.slice cZ X.length d0,.bool true] fun eG eH d2 d3 Z=>?_
 have d4:=rB (p:=Pc.mk X true) d2 d3 ⟨_,rfl,(aQ.upd' d1 Z aD)⟩
 have bK:=aE aL Z
 have aM:=aE W bK
 have bL:=aj c aM (fun x hx=>ay) (pcS.upd aM aD)
 refine L0<|fx (R:=oN true) (xs:=ps) (ys:=([Pc.mk X true])) (.agg #[.slice none 0 0,.bool false]) 2 32 bL (d4).rd pcS.ones (fun w' hv=>pcS.upd hv (bN (cg _ bL (by decide)) aD)) (by(try simp only[List.length_set,List.length_replicate,List.length_append,List.length_cons,List.length_nil,av]);omega) (le (le (le (le (le (le (le o.size A) j.size) r.size) t.size) H.size) aL.size) Z.size) fun d5 d6 eI bM aN eJ=>Pl 1<|nt<|go<|Pl 1<|?_
 have bO:=ut (ax.mono (S':=(ob B++[])) bK aq) aN (ag il aq)
 refine L0<|bZ (ax.blk bO (aG (ci c j.size G) ay) bH)<|Pl 1<|L0<|cF (m:=1) (e:=66) #[.int .i64 0,.int .u8 ((fs.getD k aW.zero).unit),.int .u16 0,.int .u8 ((fs.getD k aW.zero).msg.code),.int .u8 ((fs.getD k aW.zero).msg.fail),.int .u16 ((fs.getD k aW.zero).msg.addr),.int .u16 ((fs.getD k aW.zero).msg.count),.int .u16 ((fs.getD k aW.zero).msg.value),.int .u16 ((fs.getD k aW.zero).msg.and_),.int .u16 ((fs.getD k aW.zero).msg.or_),.int .u16 ((fs.getD k aW.zero).msg.addr2),.int .u16 ((fs.getD k aW.zero).msg.sub),.int .u16 ((fs.getD k aW.zero).msg.status),.int .u16 ((fs.getD k aW.zero).msg.events),.int .u16 ((fs.getD k aW.zero).msg.messages),.slice a.aw ((fs.getD k aW.zero).msg.words.length) a.kw,.slice a.ab ((fs.getD k aW.zero).msg.bits.length) a.kb,.slice a.ad ((fs.getD k aW.zero).msg.data.length) a.kd,.slice a.ar ((fs.getD k aW.zero).msg.recs.length) a.kr,.int .u8 ((fs.getD k aW.zero).msg.mei),.int .u8 ((fs.getD k aW.zero).msg.kind),.int .u8 ((fs.getD k aW.zero).msg.level),.int .u8 ((fs.getD k aW.zero).msg.more),.int .u8 ((fs.getD k aW.zero).msg.next),.slice a.ao ((fs.getD k aW.zero).msg.objects.length) a.ko] fun eK eL d7 d8 aP=>?_
 have bP:=aE bO aP
 have aR:=ut bJ bP (ag (aI c lr) aq)
 have d9:=xu (wz:=w) (p:=Ev.mk 0 ⟨(fs.getD k aW.zero).unit,0,(fs.getD k aW.zero).msg⟩) d7 d8 (eF.mk (s:=a) f.1 f.2.1 (by decide) aR)
 have bQ:=ut (ax.mono (S':=(ob B++[])) W aq) bP (ag il aq)
 have bR:=aj h bQ (fun x hx=>(aG ((bC h c (by decide)) x hx) ay)) (eF.upd bQ (ag (fun x hx=>Nat.le_trans lr (dA c x hx)) aq))
 refine L0<|fx (R:=eF w) (xs:=ws) (ys:=([Ev.mk 0 ⟨(fs.getD k aW.zero).unit,0,(fs.getD k aW.zero).msg⟩])) (.agg #[.int .i64 0,.int .u8 0,.int .u16 0,.int .u8 0,.int .u8 0,.int .u16 0,.int .u16 0,.int .u16 0,.int .u16 0,.int .u16 0,.int .u16 0,.int .u16 0,.int .u16 0,.int .u16 0,.int .u16 0,.slice none 0 0,.slice none 0 0,.slice none 0 0,.slice none 0 0,.int .u8 0,.int .u8 0,.int .u8 0,.int .u8 0,.int .u8 0,.slice none 0 0]) 25 168 bR (d9).rd eF.ones (fun w' hv=>eF.upd hv (ag (fun x hx=>Nat.le_trans lr (dA bR x hx)) aq)) (by(try simp only[List.length_set,List.length_replicate,List.length_append,List.length_cons,List.length_nil,av]);omega) aR.size fun da db eM dc aS eN=>Pl 1<|nl<|bn<|tn<|go<|Pl 1<|L0<|Oi (((k:Nat) : Int)+1)<|Pl 1<|nl<|?_
 have bS:=ut (ax.mono (S':=(ob C++[])) aP aq) aS (ag il aq)
 have bT:=ut (ax.mono (S':=(ob B++[])) aM aq) aN (ag il aq)
 have bU:=aj h bT (fun x hx=>(aG ((bC h c (by decide)) x hx) ay)) (eF.upd bT (ag (fun x hx=>Nat.le_trans lr (dA c x hx)) aq))
 exact er ((k+1),(ps++[Pc.mk X true]),d5,d6,(ws++[Ev.mk 0 ⟨(fs.getD k aW.zero).unit,0,(fs.getD k aW.zero).msg⟩]),da,db) ⟨(ut aR aS (ag (aI h lr) aq)),(le (le (le (le (le (le (le (le (le A j.size) r.size) t.size) H.size) aL.size) Z.size) aN.size) aP.size) aS.size),(aj bM bS (fun x hx=>(aG ((bC bM bU (by decide)) x hx) ay)) (pcS.upd bS (bN (cg _ bU (by decide)) aD))),dc,(by(try dsimp only);omega),(by(try dsimp only);rw[List.length_append];show _+1≤_;omega),(by(try dsimp only);rw[List.length_append];show _+1≤_;omega),(by(try dsimp only);rw[iF];omega),(by(try dsimp only);exact gI E (gg (show 1=0∨1=1 by decide) f.2.1 (by decide) (f.1).rngs (fun l hz=>gL f.1 (dh q) l hz) I))⟩ (by omega)
 have cX:=ai aC
 refine bG<|sg<|Pl 2<|L0<|bZ au<|?_
 have a0:=aE j az
 have aT:=aF.old am a0
 refine wo (jw (fr%3) 1 ((fs.getD k aW.zero).unit) ((fs.getD k aW.zero).tid) ((fs.getD k aW.zero).msg)) (fun J=>?_) (fun a1 J=>?_)
 refine L0<|Oc<|m1 (fi aT (dh q) (by omega) (by omega) J) fun eO aU=>Pl 5<|ng<|Pl 2<|nt<|c0<|sk<|bn<|tn<|go<|?_
 refine Pl 1<|L0<|Oi (((k:Nat) : Int)+1)<|Pl 1<|nl<|?_
 have a2:=aE a0 aU
 exact er ((k+1),ps,B,cq,ws,C,cr) ⟨(aE aB aU),(le (le (le (le A j.size) r.size) t.size) aU.size),(aj c a2 (fun x hx=>ay) (pcS.upd a2 aD)),(aj h a2 (fun x hx=>ay) (eF.upd a2 (fun x hx=>by cases hx))),(by(try dsimp only);omega),(by(try dsimp only);omega),(by(try dsimp only);omega),(by(try dsimp only);omega),(by(try dsimp only);exact E)⟩ (by omega)
 have eP:=jH (aT.rngs).1 J
 refine L0<|Oc<|e2 (fg aT (dh q) (by omega) (by omega) J) fun eQ eR dd aV=>?_
 obtain⟨de,df,rfl,dg,eS⟩:=gn.shape dd
 refine Pl 5<|ng<|Pl 2<|nt<|c1<|sg<|Pl 3<|L0<|cF (m:=1) (e:=53) #[.slice de a1.length df,.bool true] fun eT eU di dj a3=>?_
 have dk:=rB (p:=Pc.mk a1 true) di dj ⟨_,rfl,(aQ.upd' dg a3 aD)⟩
 have bV:=aE aV a3
 have aX:=aE a0 bV
 have bW:=aj c aX (fun x hx=>ay) (pcS.upd aX aD)
 refine L0<|fx (R:=oN true) (xs:=ps) (ys:=([Pc.mk a1 true])) (.agg #[.slice none 0 0,.bool false]) 2 32 bW (dk).rd pcS.ones (fun w' hv=>pcS.upd hv (bN (cg _ bW (by decide)) aD)) (by(try simp only[List.length_set,List.length_replicate,List.length_append,List.length_cons,List.length_nil,av]);omega) (le (le (le (le (le (le o.size A) j.size) r.size) t.size) aV.size) a3.size) fun dl dm eV bX aY eW=>Pl 1<|nt<|go<|Pl 1<|?_
 have bY:=ut (ax.mono (S':=(ob B++[])) bV aq) aY (ag il aq)
 refine L0<|bZ (ax.blk bY (aG (ci c j.size G) ay) au)<|Pl 1<|L0<|cF (m:=1) (e:=66) (mS ⟨0,(fs.getD k aW.zero)⟩ a) fun eX eY dn dp aZ=>?_
 have c2:=aE bY aZ
 have b0:=ut aB c2 (ag (aI c lr) aq)
 have dq:=xu (wz:=w) (p:=Ev.mk 0 ⟨(fs.getD k aW.zero).unit,(fs.getD k aW.zero).tid,(fs.getD k aW.zero).msg⟩) dn dp (eF.mk (s:=a) f.1 f.2.1 f.2.2 b0)
 have c3:=ut (ax.mono (S':=(ob B++[])) a0 aq) c2 (ag il aq)
 have c4:=aj h c3 (fun x hx=>(aG ((bC h c (by decide)) x hx) ay)) (eF.upd c3 (ag (fun x hx=>Nat.le_trans lr (dA c x hx)) aq))
 refine L0<|fx (R:=eF w) (xs:=ws) (ys:=([Ev.mk 0 ⟨(fs.getD k aW.zero).unit,(fs.getD k aW.zero).tid,(fs.getD k aW.zero).msg⟩])) (.agg #[.int .i64 0,.int .u8 0,.int .u16 0,.int .u8 0,.int .u8 0,.int .u16 0,.int .u16 0,.int .u16 0,.int .u16 0,.int .u16 0,.int .u16 0,.int .u16 0,.int .u16 0,.int .u16 0,.int .u16 0,.slice none 0 0,.slice none 0 0,.slice none 0 0,.slice none 0 0,.int .u8 0,.int .u8 0,.int .u8 0,.int .u8 0,.int .u8 0,.slice none 0 0]) 25 168 c4 (dq).rd eF.ones (fun w' hv=>eF.upd hv (ag (fun x hx=>Nat.le_trans lr (dA c4 x hx)) aq)) (by(try simp only[List.length_set,List.length_replicate,List.length_append,List.length_cons,List.length_nil,av]);omega) b0.size fun dr ds eZ dt b1 f0=>Pl 1<|nl<|bn<|tn<|go<|Pl 1<|L0<|Oi (((k:Nat) : Int)+1)<|Pl 1<|nl<|?_
 have c5:=ut (ax.mono (S':=(ob C++[])) aZ aq) b1 (ag il aq)
 have c6:=ut (ax.mono (S':=(ob B++[])) aX aq) aY (ag il aq)
 have c7:=aj h c6 (fun x hx=>(aG ((bC h c (by decide)) x hx) ay)) (eF.upd c6 (ag (fun x hx=>Nat.le_trans lr (dA c x hx)) aq))
 exact er ((k+1),(ps++[Pc.mk a1 true]),dl,dm,(ws++[Ev.mk 0 ⟨(fs.getD k aW.zero).unit,(fs.getD k aW.zero).tid,(fs.getD k aW.zero).msg⟩]),dr,ds) ⟨(ut b0 b1 (ag (aI h lr) aq)),(le (le (le (le (le (le (le (le A j.size) r.size) t.size) aV.size) a3.size) aY.size) aZ.size) b1.size),(aj bX c5 (fun x hx=>(aG ((bC bX c7 (by decide)) x hx) ay)) (pcS.upd c5 (bN (cg _ c7 (by decide)) aD))),dt,(by(try dsimp only);omega),(by(try dsimp only);rw[List.length_append];show _+1≤_;omega),(by(try dsimp only);rw[List.length_append];show _+1≤_;omega),(by(try dsimp only);rw[iF];omega),(by(try dsimp only);exact gI E (gg (show 1=0∨1=1 by decide) f.2.1 f.2.2 (f.1).rngs (fun l hz=>gL f.1 (dh q) l hz) J))⟩ (by omega)
 have cU:=of_decide_eq_false al
 refine xt<|tx<|tx<|bx<|tn<|sg<|Pl 3<|?_
 refine pr (XS.run (XS.zero (fr%3) 1) ps) fun a4 L c8=>?_
 refine L0<|Oc (args:=#[.int .i64 (fr%3),.int .i64 1,.slice B ps.length cq])<|dE (ja c8 (xP _) (show 1=0∨1=1 by decide) (c).rd (by omega) (by omega)) fun f1 f2 f3 du f4 f5 b2=>Pl 5<|ng<|Pl 4<|?_
 refine L1<|Oc<|m1 (lf (xs:=L) (ys:=ws) (du).rd (OwnU.any (aj h b2 (fun x hx=>ay) (eF.upd b2 (fun x hx=>by cases hx))))) fun f6 dv=>Pl 2<|cu 3 [83] 86 (((decide (L=ws))&&(((a4.held.length:Nat) : Int)==0))) (fun K c9=>?_) ?_
 refine bl 83 ((decide (L=ws))) (fun M=>?_) (fun M=>?_)
 have dw:=of_decide_eq_true M
 exact Pl 3<|ce c9 (((a4.held.length:Nat) : Int)==0) (by rw[M];rfl)
 have dw:=of_decide_eq_false M
 exact Pl 3<|ce c9 false (by rw[M];rfl)
 refine Pl 1<|nt<|rt<|rr (.bool ((decide (L=ws))&&(((a4.held.length:Nat) : Int)==0)))<|?_
 have hs:((decide (L=ws))&&(((a4.held.length:Nat) : Int)==0))=true:=by have z:=c8.symm.trans E;injection z with z1 z2;rw[z1,z2,lE];simp
 rw[hs]
 exact⟨rfl,(aE V (aE b2 dv))⟩
 refine bG<|sg<|Pl 1<|L0<|Oe (.int .u8 (Int.tmod fr 3)) (.int .u8 (fr%3)) (congrArg (Value.int .u8) (Int.tmod_eq_emod_of_nonneg (by omega)))<|L0<|Oi (fr%3)<|Pl 1<|ng<|Pl 1<|nl<|?_
 refine tn<|sg<|Pl 1<|nt<|sq<|sg<|Pl 1<|nt<|bk<|?_
 refine ir (fun x=>[(2,.slice F fs.length cpF),(7,.bool true),(8,.int .i64 0),(9,.int .i64 (fr%3)),(10,.slice x.2.2.1 x.2.1.length x.2.2.2.1),(11,.slice x.2.2.2.2.2.1 x.2.2.2.2.1.length x.2.2.2.2.2.2),(12,.int .i64 ((x.1:Nat) : Int))]) (fun(x:Nat × List Pc × Option Addr × Nat × List Ev × Option Addr × Nat) w'=>ax [] w w'∧bA.heap.size≤w'.heap.size∧aJ w.heap.size 53 2 (oN true) w' (.slice x.2.2.1 x.2.1.length x.2.2.2.1) x.2.1∧aJ w.heap.size 66 25 (eF w) w' (.slice x.2.2.2.2.2.1 x.2.2.2.2.1.length x.2.2.2.2.2.2) x.2.2.2.2.1∧(x.1≤fs.length)∧(x.2.1.length≤x.1)∧(x.2.2.2.2.1.length≤x.1)∧(fq x.2.1≤600*x.1)∧(XS.run (XS.zero (fr%3) 0) x.2.1=(XS.zero (fr%3) 0,x.2.2.2.2.1))) (fun x=>fs.length-x.1) (0,[],none,0,[],none,0) ⟨o,lr,(aJ.nil w.heap.size _ _ (oN true) _),(aJ.nil w.heap.size _ _ (eF w) _),(by(try dsimp only);omega),(by(try dsimp only);exact Nat.le_refl _),(by(try dsimp only);exact Nat.le_refl _),(by(try dsimp only);exact Nat.zero_le _),rfl⟩ ?_
 rintro⟨k,ps,B,cq,ws,C,cr⟩ ca ⟨a5,D,dx,dy,dz,dB,dC,dD,dF⟩
 refine it [(2,.slice F fs.length cpF),(7,.bool true),(8,.int .i64 0),(9,.int .i64 (fr%3)),(10,.slice B ps.length cq),(11,.slice C ws.length cr),(12,.int .i64 ((k:Nat) : Int))] ?_
 have d:aJ w.heap.size 53 2 (oN true) ca (.slice B ps.length cq) ps:=dx
 have i:aJ w.heap.size 66 25 (eF w) ca (.slice C ws.length cr) ws:=dy
 have f7:k≤fs.length:=dz
 have f8:ps.length≤k:=dB
 have f9:ws.length≤k:=dC
 have fb:fq ps≤600*k:=dD
 have N:XS.run (XS.zero (fr%3) 0) ps=(XS.zero (fr%3) 0,ws):=dF
 refine sq<|sg<|Pl 4<|nt<|cb ((decide (((k:Nat) : Int)<((fs.length:Nat) : Int)))) (fun b3=>?_) (fun b3=>?_)
 have dG:=of_decide_eq_true b3
 refine bG<|sq<|bk<|sg<|Pl 2<|zb (uA.elt hF k (by(try simp only[List.length_set,List.length_append]);omega) aW.zero) fun fc fd fe ff fh b cc dH g cd=>?_
 have fj:=g.2
 refine L0<|ia 24 fs.length k cc (by(try simp only[List.length_set,List.length_append]);omega)<|Pl 1<|?_
 have cf:=ub a5 dH
 refine L0<|uh [.int .u8 ((fs.getD k aW.zero).msg.code),.int .u8 ((fs.getD k aW.zero).msg.fail),.int .u16 ((fs.getD k aW.zero).msg.addr),.int .u16 ((fs.getD k aW.zero).msg.count),.int .u16 ((fs.getD k aW.zero).msg.value),.int .u16 ((fs.getD k aW.zero).msg.and_),.int .u16 ((fs.getD k aW.zero).msg.or_),.int .u16 ((fs.getD k aW.zero).msg.addr2),.int .u16 ((fs.getD k aW.zero).msg.sub),.int .u16 ((fs.getD k aW.zero).msg.status),.int .u16 ((fs.getD k aW.zero).msg.events),.int .u16 ((fs.getD k aW.zero).msg.messages),.slice b.aw ((fs.getD k aW.zero).msg.words.length) b.kw,.slice b.ab ((fs.getD k aW.zero).msg.bits.length) b.kb,.slice b.ad ((fs.getD k aW.zero).msg.data.length) b.kd,.slice b.ar ((fs.getD k aW.zero).msg.recs.length) b.kr,.int .u8 ((fs.getD k aW.zero).msg.mei),.int .u8 ((fs.getD k aW.zero).msg.kind),.int .u8 ((fs.getD k aW.zero).msg.level),.int .u8 ((fs.getD k aW.zero).msg.more),.int .u8 ((fs.getD k aW.zero).msg.next),.slice b.ao ((fs.getD k aW.zero).msg.objects.length) b.ko] cf (tP (k:=2) (m:=22) cd (by kernel_rfl) (by decide))<|?_
 have b4:=aF.old (g.1) a5
 refine L0<|Oc<|m1 (rD b4) fun fk n=>Pl 1<|nt<|sq<|sg<|Pl 2<|nt<|?_
 have b5:=aE a5 n
 refine cb ((!(fa (fs.getD k aW.zero).msg))) (fun b6=>?_) (fun b6=>?_)
 have u:(fa (fs.getD k aW.zero).msg)=false:=by simpa using b6
 refine sg<|Pl 2<|nt<|rt<|tr<|br<|tr<|tr<|br<|tr<|rr (.bool true)<|?_
 exact⟨rfl,b5⟩
 have u:(fa (fs.getD k aW.zero).msg)=true:=by simpa using b6
 refine bG<|sg<|Pl 2<|L0<|ia 24 fs.length k cc (by(try simp only[List.length_set,List.length_append]);omega)<|?_
 refine L0<|uh [.int .u8 ((fs.getD k aW.zero).unit),.int .u16 ((fs.getD k aW.zero).tid),.int .u8 ((fs.getD k aW.zero).msg.code),.int .u8 ((fs.getD k aW.zero).msg.fail),.int .u16 ((fs.getD k aW.zero).msg.addr),.int .u16 ((fs.getD k aW.zero).msg.count),.int .u16 ((fs.getD k aW.zero).msg.value),.int .u16 ((fs.getD k aW.zero).msg.and_),.int .u16 ((fs.getD k aW.zero).msg.or_),.int .u16 ((fs.getD k aW.zero).msg.addr2),.int .u16 ((fs.getD k aW.zero).msg.sub),.int .u16 ((fs.getD k aW.zero).msg.status),.int .u16 ((fs.getD k aW.zero).msg.events),.int .u16 ((fs.getD k aW.zero).msg.messages),.slice b.aw ((fs.getD k aW.zero).msg.words.length) b.kw,.slice b.ab ((fs.getD k aW.zero).msg.bits.length) b.kb,.slice b.ad ((fs.getD k aW.zero).msg.data.length) b.kd,.slice b.ar ((fs.getD k aW.zero).msg.recs.length) b.kr,.int .u8 ((fs.getD k aW.zero).msg.mei),.int .u8 ((fs.getD k aW.zero).msg.kind),.int .u8 ((fs.getD k aW.zero).msg.level),.int .u8 ((fs.getD k aW.zero).msg.more),.int .u8 ((fs.getD k aW.zero).msg.next),.slice b.ao ((fs.getD k aW.zero).msg.objects.length) b.ko] (ub n cf) cd<|L0<|bI xn fun fl fm O dI v=>L0<|bf dI (dZ ((fs.getD k aW.zero).unit) ((fs.getD k aW.zero).tid) ((fs.getD k aW.zero).msg) b) fun fn b7 y=>nt<|sq<|sg<|Pl 2<|nt<|?_
 have b8:=ud v y O
 have b9:=aE b5 b8
 refine cb (((fr%3)!=2)) (fun ba=>?_) (fun ba=>?_)
 have dJ:=aA ba
 refine go<|Pl 2<|L0<|cn b7 1 (dZ ((fs.getD k aW.zero).unit) 0 ((fs.getD k aW.zero).msg) b) fun fo ch P=>ng<|Pl 2<|L0<|bZ ch<|?_
 have a6:=aE n (ud b8 P O)
 have bb:=aF.old b4 a6
 have cj:=ud b9 P (le b5.size O)
 refine wo (jw (fr%3) 0 ((fs.getD k aW.zero).unit) 0 ((fs.getD k aW.zero).msg)) (fun Q=>?_) (fun a7 Q=>?_)
 refine L0<|Oc<|m1 (fi bb (dh u) (by omega) (by omega) Q) fun fp bc=>Pl 5<|ng<|Pl 2<|nt<|c0<|sk<|bn<|tn<|go<|?_
 refine Pl 1<|L0<|Oi (((k:Nat) : Int)+1)<|Pl 1<|nl<|?_
 have a8:=aE a6 bc
 exact er ((k+1),ps,B,cq,ws,C,cr) ⟨(aE cj bc),(le (le (le (le (le D n.size) v.size) y.size) P.size) bc.size),(aj d a8 (fun x hx=>ay) (pcS.upd a8 aD)),(aj i a8 (fun x hx=>ay) (eF.upd a8 (fun x hx=>by cases hx))),(by(try dsimp only);omega),(by(try dsimp only);omega),(by(try dsimp only);omega),(by(try dsimp only);omega),(by(try dsimp only);exact N)⟩ (by omega)
 have ft:=jH (bb.rngs).1 Q
 refine L0<|Oc<|e2 (fg bb (dh u) (by omega) (by omega) Q) fun fu fv dK bd=>?_
 obtain⟨dL,dM,rfl,dN,fw⟩:=gn.shape dK
 refine Pl 5<|ng<|Pl 2<|nt<|c1<|sg<|Pl 3<|L0<|cF (m:=1) (e:=53) #[.slice dL a7.length dM,.bool true] fun fy fz dO dP a9=>?_
 have dQ:=rB (p:=Pc.mk a7 true) dO dP ⟨_,rfl,(aQ.upd' dN a9 aD)⟩
 have ck:=aE bd a9
 have be:=aE a6 ck
 have cl:=aj d be (fun x hx=>ay) (pcS.upd be aD)
 refine L0<|fx (R:=oN true) (xs:=ps) (ys:=([Pc.mk a7 true])) (.agg #[.slice none 0 0,.bool false]) 2 32 cl (dQ).rd pcS.ones (fun w' hv=>pcS.upd hv (bN (cg _ cl (by decide)) aD)) (by(try simp only[List.length_set,List.length_replicate,List.length_append,List.length_cons,List.length_nil,av]);omega) (le (le (le (le (le (le (le o.size D) n.size) v.size) y.size) P.size) bd.size) a9.size) fun dR dS fA cm bg fB=>Pl 1<|nt<|go<|Pl 1<|?_
 have co:=ut (ax.mono (S':=(ob B++[])) ck aq) bg (ag il aq)
 refine L0<|bZ (ax.blk co (aG (ci d n.size O) ay) ch)<|Pl 1<|L0<|cF (m:=1) (e:=66) #[.int .i64 0,.int .u8 ((fs.getD k aW.zero).unit),.int .u16 0,.int .u8 ((fs.getD k aW.zero).msg.code),.int .u8 ((fs.getD k aW.zero).msg.fail),.int .u16 ((fs.getD k aW.zero).msg.addr),.int .u16 ((fs.getD k aW.zero).msg.count),.int .u16 ((fs.getD k aW.zero).msg.value),.int .u16 ((fs.getD k aW.zero).msg.and_),.int .u16 ((fs.getD k aW.zero).msg.or_),.int .u16 ((fs.getD k aW.zero).msg.addr2),.int .u16 ((fs.getD k aW.zero).msg.sub),.int .u16 ((fs.getD k aW.zero).msg.status),.int .u16 ((fs.getD k aW.zero).msg.events),.int .u16 ((fs.getD k aW.zero).msg.messages),.slice b.aw ((fs.getD k aW.zero).msg.words.length) b.kw,.slice b.ab ((fs.getD k aW.zero).msg.bits.length) b.kb,.slice b.ad ((fs.getD k aW.zero).msg.data.length) b.kd,.slice b.ar ((fs.getD k aW.zero).msg.recs.length) b.kr,.int .u8 ((fs.getD k aW.zero).msg.mei),.int .u8 ((fs.getD k aW.zero).msg.kind),.int .u8 ((fs.getD k aW.zero).msg.level),.int .u8 ((fs.getD k aW.zero).msg.more),.int .u8 ((fs.getD k aW.zero).msg.next),.slice b.ao ((fs.getD k aW.zero).msg.objects.length) b.ko] fun fC fD dT dU bh=>?_
 have cp:=aE co bh
 have bi:=ut cj cp (ag (aI d lr) aq)
 have dV:=xu (wz:=w) (p:=Ev.mk 0 ⟨(fs.getD k aW.zero).unit,0,(fs.getD k aW.zero).msg⟩) dT dU (eF.mk (s:=b) g.1 g.2.1 (by decide) bi)
 have cs:=ut (ax.mono (S':=(ob B++[])) a6 aq) cp (ag il aq)
 have ct:=aj i cs (fun x hx=>(aG ((bC i d (by decide)) x hx) ay)) (eF.upd cs (ag (fun x hx=>Nat.le_trans lr (dA d x hx)) aq))
 refine L0<|fx (R:=eF w) (xs:=ws) (ys:=([Ev.mk 0 ⟨(fs.getD k aW.zero).unit,0,(fs.getD k aW.zero).msg⟩])) (.agg #[.int .i64 0,.int .u8 0,.int .u16 0,.int .u8 0,.int .u8 0,.int .u16 0,.int .u16 0,.int .u16 0,.int .u16 0,.int .u16 0,.int .u16 0,.int .u16 0,.int .u16 0,.int .u16 0,.int .u16 0,.slice none 0 0,.slice none 0 0,.slice none 0 0,.slice none 0 0,.int .u8 0,.int .u8 0,.int .u8 0,.int .u8 0,.int .u8 0,.slice none 0 0]) 25 168 ct (dV).rd eF.ones (fun w' hv=>eF.upd hv (ag (fun x hx=>Nat.le_trans lr (dA ct x hx)) aq)) (by(try simp only[List.length_set,List.length_replicate,List.length_append,List.length_cons,List.length_nil,av]);omega) bi.size fun dW dX fE dY bj fF=>Pl 1<|nl<|bn<|tn<|go<|Pl 1<|L0<|Oi (((k:Nat) : Int)+1)<|Pl 1<|nl<|?_
 have cv:=ut (ax.mono (S':=(ob C++[])) bh aq) bj (ag il aq)
 have cw:=ut (ax.mono (S':=(ob B++[])) be aq) bg (ag il aq)
 have cx:=aj i cw (fun x hx=>(aG ((bC i d (by decide)) x hx) ay)) (eF.upd cw (ag (fun x hx=>Nat.le_trans lr (dA d x hx)) aq))
 exact er ((k+1),(ps++[Pc.mk a7 true]),dR,dS,(ws++[Ev.mk 0 ⟨(fs.getD k aW.zero).unit,0,(fs.getD k aW.zero).msg⟩]),dW,dX) ⟨(ut bi bj (ag (aI i lr) aq)),(le (le (le (le (le (le (le (le (le D n.size) v.size) y.size) P.size) bd.size) a9.size) bg.size) bh.size) bj.size),(aj cm cv (fun x hx=>(aG ((bC cm cx (by decide)) x hx) ay)) (pcS.upd cv (bN (cg _ cx (by decide)) aD))),dY,(by(try dsimp only);omega),(by(try dsimp only);rw[List.length_append];show _+1≤_;omega),(by(try dsimp only);rw[List.length_append];show _+1≤_;omega),(by(try dsimp only);rw[iF];omega),(by(try dsimp only);exact gI N (gg (show 0=0∨0=1 by decide) g.2.1 (by decide) (g.1).rngs (fun l hz=>gL g.1 (dh u) l hz) Q))⟩ (by omega)
 have dJ:=ai ba
 refine bG<|sg<|Pl 2<|L0<|bZ b7<|?_
 have aa:=aE n b8
 have bm:=aF.old b4 aa
 refine wo (jw (fr%3) 0 ((fs.getD k aW.zero).unit) ((fs.getD k aW.zero).tid) ((fs.getD k aW.zero).msg)) (fun S=>?_) (fun ac S=>?_)
 refine L0<|Oc<|m1 (fi bm (dh u) (by omega) (by omega) S) fun fG bo=>Pl 5<|ng<|Pl 2<|nt<|c0<|sk<|bn<|tn<|go<|?_
 refine Pl 1<|L0<|Oi (((k:Nat) : Int)+1)<|Pl 1<|nl<|?_
 have ae:=aE aa bo
 exact er ((k+1),ps,B,cq,ws,C,cr) ⟨(aE b9 bo),(le (le (le (le D n.size) v.size) y.size) bo.size),(aj d ae (fun x hx=>ay) (pcS.upd ae aD)),(aj i ae (fun x hx=>ay) (eF.upd ae (fun x hx=>by cases hx))),(by(try dsimp only);omega),(by(try dsimp only);omega),(by(try dsimp only);omega),(by(try dsimp only);omega),(by(try dsimp only);exact N)⟩ (by omega)
 have fH:=jH (bm.rngs).1 S
 refine L0<|Oc<|e2 (fg bm (dh u) (by omega) (by omega) S) fun fI fJ e0 bp=>?_
 obtain⟨e1,e3,rfl,e4,fK⟩:=gn.shape e0
 refine Pl 5<|ng<|Pl 2<|nt<|c1<|sg<|Pl 3<|L0<|cF (m:=1) (e:=53) #[.slice e1 ac.length e3,.bool true] fun fL fM e5 e6 af=>?_
 have e7:=rB (p:=Pc.mk ac true) e5 e6 ⟨_,rfl,(aQ.upd' e4 af aD)⟩
 have cy:=aE bp af
 have bq:=aE aa cy
 have cz:=aj d bq (fun x hx=>ay) (pcS.upd bq aD)
 refine L0<|fx (R:=oN true) (xs:=ps) (ys:=([Pc.mk ac true])) (.agg #[.slice none 0 0,.bool false]) 2 32 cz (e7).rd pcS.ones (fun w' hv=>pcS.upd hv (bN (cg _ cz (by decide)) aD)) (by(try simp only[List.length_set,List.length_replicate,List.length_append,List.length_cons,List.length_nil,av]);omega) (le (le (le (le (le (le o.size D) n.size) v.size) y.size) bp.size) af.size) fun e8 e9 fN cA bs fO=>Pl 1<|nt<|go<|Pl 1<|?_
 have cB:=ut (ax.mono (S':=(ob B++[])) cy aq) bs (ag il aq)
 refine L0<|bZ (ax.blk cB (aG (ci d n.size O) ay) b7)<|Pl 1<|L0<|cF (m:=1) (e:=66) (mS ⟨0,(fs.getD k aW.zero)⟩ b) fun fP fQ ea eb bt=>?_
 have cC:=aE cB bt
 have bu:=ut b9 cC (ag (aI d lr) aq)
 have ec:=xu (wz:=w) (p:=Ev.mk 0 ⟨(fs.getD k aW.zero).unit,(fs.getD k aW.zero).tid,(fs.getD k aW.zero).msg⟩) ea eb (eF.mk (s:=b) g.1 g.2.1 g.2.2 bu)
 have cD:=ut (ax.mono (S':=(ob B++[])) aa aq) cC (ag il aq)
 have cE:=aj i cD (fun x hx=>(aG ((bC i d (by decide)) x hx) ay)) (eF.upd cD (ag (fun x hx=>Nat.le_trans lr (dA d x hx)) aq))
 refine L0<|fx (R:=eF w) (xs:=ws) (ys:=([Ev.mk 0 ⟨(fs.getD k aW.zero).unit,(fs.getD k aW.zero).tid,(fs.getD k aW.zero).msg⟩])) (.agg #[.int .i64 0,.int .u8 0,.int .u16 0,.int .u8 0,.int .u8 0,.int .u16 0,.int .u16 0,.int .u16 0,.int .u16 0,.int .u16 0,.int .u16 0,.int .u16 0,.int .u16 0,.int .u16 0,.int .u16 0,.slice none 0 0,.slice none 0 0,.slice none 0 0,.slice none 0 0,.int .u8 0,.int .u8 0,.int .u8 0,.int .u8 0,.int .u8 0,.slice none 0 0]) 25 168 cE (ec).rd eF.ones (fun w' hv=>eF.upd hv (ag (fun x hx=>Nat.le_trans lr (dA cE x hx)) aq)) (by(try simp only[List.length_set,List.length_replicate,List.length_append,List.length_cons,List.length_nil,av]);omega) bu.size fun ed ee fR ef bw fS=>Pl 1<|nl<|bn<|tn<|go<|Pl 1<|L0<|Oi (((k:Nat) : Int)+1)<|Pl 1<|nl<|?_
 have cG:=ut (ax.mono (S':=(ob C++[])) bt aq) bw (ag il aq)
 have cH:=ut (ax.mono (S':=(ob B++[])) bq aq) bs (ag il aq)
 have cI:=aj i cH (fun x hx=>(aG ((bC i d (by decide)) x hx) ay)) (eF.upd cH (ag (fun x hx=>Nat.le_trans lr (dA d x hx)) aq))
 exact er ((k+1),(ps++[Pc.mk ac true]),e8,e9,(ws++[Ev.mk 0 ⟨(fs.getD k aW.zero).unit,(fs.getD k aW.zero).tid,(fs.getD k aW.zero).msg⟩]),ed,ee) ⟨(ut bu bw (ag (aI i lr) aq)),(le (le (le (le (le (le (le (le D n.size) v.size) y.size) bp.size) af.size) bs.size) bt.size) bw.size),(aj cA cG (fun x hx=>(aG ((bC cA cI (by decide)) x hx) ay)) (pcS.upd cG (bN (cg _ cI (by decide)) aD))),ef,(by(try dsimp only);omega),(by(try dsimp only);rw[List.length_append];show _+1≤_;omega),(by(try dsimp only);rw[List.length_append];show _+1≤_;omega),(by(try dsimp only);rw[iF];omega),(by(try dsimp only);exact gI N (gg (show 0=0∨0=1 by decide) g.2.1 g.2.2 (g.1).rngs (fun l hz=>gL g.1 (dh u) l hz) S))⟩ (by omega)
 have dG:=of_decide_eq_false b3
 refine xt<|tx<|tx<|bx<|tn<|sg<|Pl 3<|?_
 refine pr (XS.run (XS.zero (fr%3) 0) ps) fun ah T cJ=>?_
 refine L0<|Oc (args:=#[.int .i64 (fr%3),.int .i64 0,.slice B ps.length cq])<|dE (ja cJ (xP _) (show 0=0∨0=1 by decide) (d).rd (by omega) (by omega)) fun fT fU fV eg fW fX bz=>Pl 5<|ng<|Pl 4<|?_
 refine L1<|Oc<|m1 (lf (xs:=T) (ys:=ws) (eg).rd (OwnU.any (aj i bz (fun x hx=>ay) (eF.upd bz (fun x hx=>by cases hx))))) fun fY eh=>Pl 2<|cu 3 [83] 86 (((decide (T=ws))&&(((ah.held.length:Nat) : Int)==0))) (fun K cK=>?_) ?_
 refine bl 83 ((decide (T=ws))) (fun U=>?_) (fun U=>?_)
 have ei:=of_decide_eq_true U
 exact Pl 3<|ce cK (((ah.held.length:Nat) : Int)==0) (by rw[U];rfl)
 have ei:=of_decide_eq_false U
 exact Pl 3<|ce cK false (by rw[U];rfl)
 refine Pl 1<|nt<|rt<|rr (.bool ((decide (T=ws))&&(((ah.held.length:Nat) : Int)==0)))<|?_
 have hs:((decide (T=ws))&&(((ah.held.length:Nat) : Int)==0))=true:=by have z:=cJ.symm.trans N;injection z with z1 z2;rw[z1,z2,lE];simp
 rw[hs]
 exact⟨rfl,(aE a5 (aE bz eh))⟩
theorem iY{w:World}{fr:Int}{ans:Bool}(hfr:0≤fr∧fr<256){mF:Bool}{vF:Value}{fs:List aW}(hF:uA mF w vF fs) : Calls Tryz.prog 11 #[.int .u8 fr,.bool ans,vF] w (bv (.bool true) w):=by
  obtain⟨A0,cp0,rfl,_,_⟩:=hF.shape
  exact jv (fr:=fr) (ans:=ans) (hfr:=hfr)  hF
open Go.RowKit
section
variable {H:Type}{enc:TypeId × Value→H}{P:Program}{w:World}{base:Nat}{spare:Nat→Bool}{held:Bool}
theorem ot(b off:Nat)(sp:Option Nat)(n:Nat)(h:sp=none) : (⟨b,off,sp⟩ : Addr).add n=⟨b,off+n,none⟩:=ie b off n sp h
theorem tb{b off:Nat}{sp:Option Nat}{v:Value}(h:w.cell? ⟨b,off,sp⟩=some v) : sp=none:=by
  cases sp with
  | none=>rfl
  | some s =>
    unfold World.cell? at h
    simp at h
    split at h<;>cases h
theorem tR{α:Type}{Pd:DataW H→Prop}{R:World→α→List Value→Prop}{t e:TypeId}{sz fuel:Nat}{cs:List Value}{x:DataW H × List MemPlace}(ht:P.underlying t=some (.slice e))(hsz:P.cellsOf e=sz)(hp:0<sz)
    (hel:∀ n cs' y,cs'.length=sz→DataW.trod enc P w base spare held n e cs'=some y→Pd y.1→∃ x,R w x cs') (hP:∀ elems spare,x.1 = .slice elems spare→∀ d,d∈elems→Pd d) (h:DataW.trod enc P w base spare held fuel t cs=some x) : ∃ v xs,cs=[v]∧aO false e sz R w v xs:=by
  rcases Go.Deep.open_slice ht h with⟨rfl,_⟩|⟨a,len,cap,m,n,D,Pl,rfl,_,hl,hm,hmm,hxe,hx⟩
  · exact⟨_,[],rfl,aO.nil ..⟩
  have hlm:len≤m:=by rw[hmm];split<;>omega
  have key:∀ i:Fin len,∃ y:α × List Value,w.cells? base (a.add (i*sz)) sz=some y.2∧y.2.length=sz∧R w y.1 y.2:=fun i=>by
    obtain⟨cs',h1,h2⟩:=hx i (by omega)
    rw[hsz] at h1
    obtain⟨_,hlen,_⟩:=World.cells?_some h1
    obtain⟨y,hy⟩:=hel n cs' _ hlen h2 (hP _ _ (by rw[hxe]) _ (List.mem_map.2 ⟨i.1,List.mem_range.2 i.2,rfl⟩))
    exact⟨(y,cs'),h1,hlen,hy⟩
  obtain⟨f,hf⟩:=Classical.axiomOfChoice key
  refine⟨_,List.ofFn fun i=>(f i).1,rfl,some a,cap,by simp,by simpa using hl,hm,(fun h=>by cases h),fun hpos=>?_⟩
  have hpos':0<len:=by simpa using hpos
  obtain⟨b,off,sp⟩:=a
  have hsp:sp=none:=by
    obtain⟨h1,h2,_⟩:=hf ⟨0,hpos'⟩
    obtain⟨_,_,h3⟩:=World.cells?_some h1
    have h4:=h3 0 hp
    rw[List.getElem?_eq_getElem (by omega)] at h4
    cases sp with
    | none=>rfl
    | some s =>
      simp[Addr.add] at h4
      exact tb h4
  subst hsp
  have hc:∀ i:Fin len,∀ k u,(f i).2[k]? = some u→w.cell? ⟨b,off+i*sz+k,none⟩=some u:=fun i k u hu=>by
    obtain⟨h1,h2,_⟩:=hf i
    obtain⟨_,_,h3⟩:=World.cells?_some h1
    have hk:k<sz:=by have:=(List.getElem?_eq_some_iff.1 hu).1;omega
    have h4:=h3 k hk
    rw[ot _ _ _ _ rfl,ot _ _ _ _ rfl] at h4
    rw[h4,hu]
  have h0:∃ u,w.cell? ⟨b,off+0*sz+0,none⟩=some u:=by
    obtain⟨_,h2,_⟩:=hf ⟨0,hpos'⟩
    exact⟨_,hc ⟨0,hpos'⟩ 0 _ (List.getElem?_eq_getElem (by omega))⟩
  obtain⟨u,hu⟩:=h0
  unfold World.cell? at hu
  split at hu
  · rename_i cells t' fr hb
    refine⟨b,off,cells,t',fr,rfl,hb,fun h=>(by cases h),fun j y hj=>?_⟩
    have hjl:j<len:=by have:=(List.getElem?_eq_some_iff.1 hj).1;simpa using this
    have hy:(f ⟨j,hjl⟩).1=y:=by
      rw[List.getElem?_ofFn] at hj
      simpa [hjl] using hj
    obtain⟨_,h2,h3⟩:=hf ⟨j,hjl⟩
    refine⟨(f ⟨j,hjl⟩).2,h2,by rw[← hy];exact h3,fun i u hi=>?_⟩
    have:=hc ⟨j,hjl⟩ i u hi
    rw[b7 hb] at this
    exact this
  · cases hu
theorem gK{α:Type}{R:World→α→List Value→Prop}{t e:TypeId}{sz fuel:Nat}{cs:List Value}{x:DataW H × List MemPlace}(ht:P.underlying t=some (.slice e))(hsz:P.cellsOf e=sz)(hp:0<sz)
    (hel:∀ n cs' y,cs'.length=sz→DataW.trod enc P w base spare held n e cs'=some y→∃ x,R w x cs') (h:DataW.trod enc P w base spare held fuel t cs=some x) : ∃ v xs,cs=[v]∧aO false e sz R w v xs :=
  tR (Pd:=fun _=>True) ht hsz hp (fun n cs' y h1 h2 _=>hel n cs' y h1 h2) (fun _ _ _ _ _=>trivial) h
end
section
variable {H:Type}{enc:TypeId × Value→H}{w:World}{base:Nat}{spare:Nat→Bool}{held:Bool}{n:Nat}{y:DataW H × List MemPlace}
theorem ql{n:Int}(h:(Lit.int .u16 n).wf=true) : 0≤n∧n<65536:=by
  have:=bounds_u16 h
  omega
theorem hH{cs:List Value}(h:DataW.trod enc Tryz.prog w base spare held n 5 cs=some y) : ∃ x,n8 w x cs:=by
  obtain⟨k,rfl,_,hw⟩:=DataW.trod_int Tryz.underlying5 h
  exact⟨k,rfl,rP hw⟩
theorem dM{cs:List Value}(h:DataW.trod enc Tryz.prog w base spare held n 22 cs=some y) : ∃ x,vn w x cs:=by
  obtain⟨k,rfl,_,hw⟩:=DataW.trod_int Tryz.underlying22 h
  exact⟨k,rfl,ql hw⟩
theorem wl{cs:List Value}(h:DataW.trod enc Tryz.prog w base spare held n 4 cs=some y) : ∃ x,rg w x cs:=by
  obtain⟨k,rfl,_⟩:=DataW.trod_bool Tryz.underlying4 h
  exact⟨k,rfl⟩
theorem xJ{cs:List Value}(h:DataW.trod enc Tryz.prog w base spare held n 27 cs=some y) : ∃ v xs,cs=[v]∧aQ false w v xs:=gK Tryz.underlying27 (by kernel_rfl) (by decide) (fun _ _ _ _ h=>hH h) h
theorem uQ{cs:List Value}(h:DataW.trod enc Tryz.prog w base spare held n 25 cs=some y) : ∃ v xs,cs=[v]∧dB false w v xs:=gK Tryz.underlying25 (by kernel_rfl) (by decide) (fun _ _ _ _ h=>dM h) h
theorem wX{cs:List Value}(h:DataW.trod enc Tryz.prog w base spare held n 26 cs=some y) : ∃ v xs,cs=[v]∧iq false w v xs:=gK Tryz.underlying26 (by kernel_rfl) (by decide) (fun _ _ _ _ h=>wl h) h
end
open Go.RowKit
theorem dP{cs:List Value}{o:Nat}{v:Value}(h:(cs.drop o).take 1=[v]) : cs.drop o=v :: cs.drop (o+1):=by
  cases hd:cs.drop o with
  | nil=>rw[hd] at h;cases h
  | cons a l =>
    rw[hd] at h
    have h1:a=v:=by simpa using h
    rw[h1,← List.drop_drop,hd]
    rfl
theorem iP{cs:List Value}{n:Nat}(h:cs.length=n) : cs.drop n=[]:=by rw[← h];simp
section
variable {H:Type}{enc:TypeId × Value→H}{w:World}{base:Nat}{spare:Nat→Bool}{held:Bool}{n:Nat}{y:DataW H × List MemPlace}
theorem yx{cs:List Value}(h:DataW.trod enc Tryz.prog w base spare held n 83 cs=some y) : ∃ x,bA false w x cs:=by
  obtain⟨xs,m,rfl,_,hlen,hxs,hf⟩:=DataW.trod_struct Tryz.underlying83 h
  rw[show Tryz.prog.cellsOf 83=4 from by kernel_rfl] at hlen
  replace hxs:xs.length=4:=hxs.trans (by kernel_rfl)
  obtain⟨y0,g0⟩ : ∃ y,xs[0]? = some y:=⟨_,List.getElem?_eq_getElem (show 0<xs.length by omega)⟩
  have f0:DataW.trod enc Tryz.prog w base spare held m 22 ((cs.drop 0).take (Tryz.prog.cellsOf 22))=xs[0]?:=hf 0 _ rfl
  rw[g0] at f0
  rw[show Tryz.prog.cellsOf 22=1 from by kernel_rfl] at f0
  obtain⟨x0,e0,r0⟩:=dM f0
  obtain⟨y1,g1⟩ : ∃ y,xs[1]? = some y:=⟨_,List.getElem?_eq_getElem (show 1<xs.length by omega)⟩
  have f1:DataW.trod enc Tryz.prog w base spare held m 22 ((cs.drop 1).take (Tryz.prog.cellsOf 22))=xs[1]?:=hf 1 _ rfl
  rw[g1] at f1
  rw[show Tryz.prog.cellsOf 22=1 from by kernel_rfl] at f1
  obtain⟨x1,e1,r1⟩:=dM f1
  obtain⟨y2,g2⟩ : ∃ y,xs[2]? = some y:=⟨_,List.getElem?_eq_getElem (show 2<xs.length by omega)⟩
  have f2:DataW.trod enc Tryz.prog w base spare held m 22 ((cs.drop 2).take (Tryz.prog.cellsOf 22))=xs[2]?:=hf 2 _ rfl
  rw[g2] at f2
  rw[show Tryz.prog.cellsOf 22=1 from by kernel_rfl] at f2
  obtain⟨x2,e2,r2⟩:=dM f2
  obtain⟨y3,g3⟩ : ∃ y,xs[3]? = some y:=⟨_,List.getElem?_eq_getElem (show 3<xs.length by omega)⟩
  have f3:DataW.trod enc Tryz.prog w base spare held m 25 ((cs.drop 3).take (Tryz.prog.cellsOf 25))=xs[3]?:=hf 3 _ rfl
  rw[g3] at f3
  rw[show Tryz.prog.cellsOf 25=1 from by kernel_rfl] at f3
  obtain⟨v3,l3,e3,r3⟩:=uQ f3
  have hcs:cs=[.int .u16 x0,.int .u16 x1,.int .u16 x2,v3]:=by
    show cs.drop 0=_
    rw[dP e0,dP e1,dP e2,dP e3,iP hlen]
  subst hcs
  exact⟨⟨x0,x1,x2,l3⟩,_,rfl,r3,r0,r1,r2⟩
theorem yu{cs:List Value}(h:DataW.trod enc Tryz.prog w base spare held n 28 cs=some y) : ∃ v xs,cs=[v]∧lN false w v xs:=gK Tryz.underlying28 (by kernel_rfl) (by decide) (fun _ _ _ _ h=>yx h) h
theorem yB{cs:List Value}(h:DataW.trod enc Tryz.prog w base spare held n 85 cs=some y) : ∃ x,cD false w x cs:=by
  obtain⟨xs,m,rfl,_,hlen,hxs,hf⟩:=DataW.trod_struct Tryz.underlying85 h
  rw[show Tryz.prog.cellsOf 85=2 from by kernel_rfl] at hlen
  replace hxs:xs.length=2:=hxs.trans (by kernel_rfl)
  obtain⟨y0,g0⟩ : ∃ y,xs[0]? = some y:=⟨_,List.getElem?_eq_getElem (show 0<xs.length by omega)⟩
  have f0:DataW.trod enc Tryz.prog w base spare held m 5 ((cs.drop 0).take (Tryz.prog.cellsOf 5))=xs[0]?:=hf 0 _ rfl
  rw[g0] at f0
  rw[show Tryz.prog.cellsOf 5=1 from by kernel_rfl] at f0
  obtain⟨x0,e0,r0⟩:=hH f0
  obtain⟨y1,g1⟩ : ∃ y,xs[1]? = some y:=⟨_,List.getElem?_eq_getElem (show 1<xs.length by omega)⟩
  have f1:DataW.trod enc Tryz.prog w base spare held m 27 ((cs.drop 1).take (Tryz.prog.cellsOf 27))=xs[1]?:=hf 1 _ rfl
  rw[g1] at f1
  rw[show Tryz.prog.cellsOf 27=1 from by kernel_rfl] at f1
  obtain⟨v1,l1,e1,r1⟩:=xJ f1
  have hcs:cs=[.int .u8 x0,v1]:=by
    show cs.drop 0=_
    rw[dP e0,dP e1,iP hlen]
  subst hcs
  exact⟨⟨x0,l1⟩,_,rfl,r1,r0⟩
theorem yZ{cs:List Value}(h:DataW.trod enc Tryz.prog w base spare held n 29 cs=some y) : ∃ v xs,cs=[v]∧mH false w v xs:=gK Tryz.underlying29 (by kernel_rfl) (by decide) (fun _ _ _ _ h=>yB h) h
theorem v6{cs:List Value}(h:DataW.trod enc Tryz.prog w base spare held n 31 cs=some y) : ∃ M,aF false w cs M:=by
  obtain⟨xs,m,rfl,_,hlen,hxs,hf⟩:=DataW.trod_struct Tryz.underlying31 h
  rw[show Tryz.prog.cellsOf 31=22 from by kernel_rfl] at hlen
  replace hxs:xs.length=22:=hxs.trans (by kernel_rfl)
  obtain⟨y0,g0⟩ : ∃ y,xs[0]? = some y:=⟨_,List.getElem?_eq_getElem (show 0<xs.length by omega)⟩
  have f0:DataW.trod enc Tryz.prog w base spare held m 5 ((cs.drop 0).take (Tryz.prog.cellsOf 5))=xs[0]?:=hf 0 _ rfl
  rw[g0] at f0
  rw[show Tryz.prog.cellsOf 5=1 from by kernel_rfl] at f0
  obtain⟨x0,e0,r0⟩:=hH f0
  obtain⟨y1,g1⟩ : ∃ y,xs[1]? = some y:=⟨_,List.getElem?_eq_getElem (show 1<xs.length by omega)⟩
  have f1:DataW.trod enc Tryz.prog w base spare held m 5 ((cs.drop 1).take (Tryz.prog.cellsOf 5))=xs[1]?:=hf 1 _ rfl
  rw[g1] at f1
  rw[show Tryz.prog.cellsOf 5=1 from by kernel_rfl] at f1
  obtain⟨x1,e1,r1⟩:=hH f1
  obtain⟨y2,g2⟩ : ∃ y,xs[2]? = some y:=⟨_,List.getElem?_eq_getElem (show 2<xs.length by omega)⟩
  have f2:DataW.trod enc Tryz.prog w base spare held m 22 ((cs.drop 2).take (Tryz.prog.cellsOf 22))=xs[2]?:=hf 2 _ rfl
  rw[g2] at f2
  rw[show Tryz.prog.cellsOf 22=1 from by kernel_rfl] at f2
  obtain⟨x2,e2,r2⟩:=dM f2
  obtain⟨y3,g3⟩ : ∃ y,xs[3]? = some y:=⟨_,List.getElem?_eq_getElem (show 3<xs.length by omega)⟩
  have f3:DataW.trod enc Tryz.prog w base spare held m 22 ((cs.drop 3).take (Tryz.prog.cellsOf 22))=xs[3]?:=hf 3 _ rfl
  rw[g3] at f3
  rw[show Tryz.prog.cellsOf 22=1 from by kernel_rfl] at f3
  obtain⟨x3,e3,r3⟩:=dM f3
  obtain⟨y4,g4⟩ : ∃ y,xs[4]? = some y:=⟨_,List.getElem?_eq_getElem (show 4<xs.length by omega)⟩
  have f4:DataW.trod enc Tryz.prog w base spare held m 22 ((cs.drop 4).take (Tryz.prog.cellsOf 22))=xs[4]?:=hf 4 _ rfl
  rw[g4] at f4
  rw[show Tryz.prog.cellsOf 22=1 from by kernel_rfl] at f4
  obtain⟨x4,e4,r4⟩:=dM f4
  obtain⟨y5,g5⟩ : ∃ y,xs[5]? = some y:=⟨_,List.getElem?_eq_getElem (show 5<xs.length by omega)⟩
  have f5:DataW.trod enc Tryz.prog w base spare held m 22 ((cs.drop 5).take (Tryz.prog.cellsOf 22))=xs[5]?:=hf 5 _ rfl
  rw[g5] at f5
  rw[show Tryz.prog.cellsOf 22=1 from by kernel_rfl] at f5
  obtain⟨x5,e5,r5⟩:=dM f5
  obtain⟨y6,g6⟩ : ∃ y,xs[6]? = some y:=⟨_,List.getElem?_eq_getElem (show 6<xs.length by omega)⟩
  have f6:DataW.trod enc Tryz.prog w base spare held m 22 ((cs.drop 6).take (Tryz.prog.cellsOf 22))=xs[6]?:=hf 6 _ rfl
  rw[g6] at f6
  rw[show Tryz.prog.cellsOf 22=1 from by kernel_rfl] at f6
  obtain⟨x6,e6,r6⟩:=dM f6
  obtain⟨y7,g7⟩ : ∃ y,xs[7]? = some y:=⟨_,List.getElem?_eq_getElem (show 7<xs.length by omega)⟩
  have f7:DataW.trod enc Tryz.prog w base spare held m 22 ((cs.drop 7).take (Tryz.prog.cellsOf 22))=xs[7]?:=hf 7 _ rfl
  rw[g7] at f7
  rw[show Tryz.prog.cellsOf 22=1 from by kernel_rfl] at f7
  obtain⟨x7,e7,r7⟩:=dM f7
  obtain⟨y8,g8⟩ : ∃ y,xs[8]? = some y:=⟨_,List.getElem?_eq_getElem (show 8<xs.length by omega)⟩
  have f8:DataW.trod enc Tryz.prog w base spare held m 22 ((cs.drop 8).take (Tryz.prog.cellsOf 22))=xs[8]?:=hf 8 _ rfl
  rw[g8] at f8
  rw[show Tryz.prog.cellsOf 22=1 from by kernel_rfl] at f8
  obtain⟨x8,e8,r8⟩:=dM f8
  obtain⟨y9,g9⟩ : ∃ y,xs[9]? = some y:=⟨_,List.getElem?_eq_getElem (show 9<xs.length by omega)⟩
  have f9:DataW.trod enc Tryz.prog w base spare held m 22 ((cs.drop 9).take (Tryz.prog.cellsOf 22))=xs[9]?:=hf 9 _ rfl
  rw[g9] at f9
  rw[show Tryz.prog.cellsOf 22=1 from by kernel_rfl] at f9
  obtain⟨x9,e9,r9⟩:=dM f9
  obtain⟨ac,u⟩ : ∃ y,xs[10]? = some y:=⟨_,List.getElem?_eq_getElem (show 10<xs.length by omega)⟩
  have a:DataW.trod enc Tryz.prog w base spare held m 22 ((cs.drop 10).take (Tryz.prog.cellsOf 22))=xs[10]?:=hf 10 _ rfl
  rw[u] at a
  rw[show Tryz.prog.cellsOf 22=1 from by kernel_rfl] at a
  obtain⟨x10,v,x⟩:=dM a
  obtain⟨ad,z⟩ : ∃ y,xs[11]? = some y:=⟨_,List.getElem?_eq_getElem (show 11<xs.length by omega)⟩
  have b:DataW.trod enc Tryz.prog w base spare held m 22 ((cs.drop 11).take (Tryz.prog.cellsOf 22))=xs[11]?:=hf 11 _ rfl
  rw[z] at b
  rw[show Tryz.prog.cellsOf 22=1 from by kernel_rfl] at b
  obtain⟨x11,A,B⟩:=dM b
  obtain⟨ae,C⟩ : ∃ y,xs[12]? = some y:=⟨_,List.getElem?_eq_getElem (show 12<xs.length by omega)⟩
  have c:DataW.trod enc Tryz.prog w base spare held m 25 ((cs.drop 12).take (Tryz.prog.cellsOf 25))=xs[12]?:=hf 12 _ rfl
  rw[C] at c
  rw[show Tryz.prog.cellsOf 25=1 from by kernel_rfl] at c
  obtain⟨p,D,E,F⟩:=uQ c
  obtain⟨af,G⟩ : ∃ y,xs[13]? = some y:=⟨_,List.getElem?_eq_getElem (show 13<xs.length by omega)⟩
  have d:DataW.trod enc Tryz.prog w base spare held m 26 ((cs.drop 13).take (Tryz.prog.cellsOf 26))=xs[13]?:=hf 13 _ rfl
  rw[G] at d
  rw[show Tryz.prog.cellsOf 26=1 from by kernel_rfl] at d
  obtain⟨q,H,I,J⟩:=wX d
  obtain⟨ag,K⟩ : ∃ y,xs[14]? = some y:=⟨_,List.getElem?_eq_getElem (show 14<xs.length by omega)⟩
  have e:DataW.trod enc Tryz.prog w base spare held m 27 ((cs.drop 14).take (Tryz.prog.cellsOf 27))=xs[14]?:=hf 14 _ rfl
  rw[K] at e
  rw[show Tryz.prog.cellsOf 27=1 from by kernel_rfl] at e
  obtain⟨r,L,N,O⟩:=xJ e
  obtain⟨ah,P⟩ : ∃ y,xs[15]? = some y:=⟨_,List.getElem?_eq_getElem (show 15<xs.length by omega)⟩
  have f:DataW.trod enc Tryz.prog w base spare held m 28 ((cs.drop 15).take (Tryz.prog.cellsOf 28))=xs[15]?:=hf 15 _ rfl
  rw[P] at f
  rw[show Tryz.prog.cellsOf 28=1 from by kernel_rfl] at f
  obtain⟨s,Q,R,S⟩:=yu f
  obtain⟨ai,T⟩ : ∃ y,xs[16]? = some y:=⟨_,List.getElem?_eq_getElem (show 16<xs.length by omega)⟩
  have g:DataW.trod enc Tryz.prog w base spare held m 5 ((cs.drop 16).take (Tryz.prog.cellsOf 5))=xs[16]?:=hf 16 _ rfl
  rw[T] at g
  rw[show Tryz.prog.cellsOf 5=1 from by kernel_rfl] at g
  obtain⟨x16,U,V⟩:=hH g
  obtain⟨aj,W⟩ : ∃ y,xs[17]? = some y:=⟨_,List.getElem?_eq_getElem (show 17<xs.length by omega)⟩
  have i:DataW.trod enc Tryz.prog w base spare held m 5 ((cs.drop 17).take (Tryz.prog.cellsOf 5))=xs[17]?:=hf 17 _ rfl
  rw[W] at i
  rw[show Tryz.prog.cellsOf 5=1 from by kernel_rfl] at i
  obtain⟨x17,X,Y⟩:=hH i
  obtain⟨ak,Z⟩ : ∃ y,xs[18]? = some y:=⟨_,List.getElem?_eq_getElem (show 18<xs.length by omega)⟩
  have j:DataW.trod enc Tryz.prog w base spare held m 5 ((cs.drop 18).take (Tryz.prog.cellsOf 5))=xs[18]?:=hf 18 _ rfl
  rw[Z] at j
  rw[show Tryz.prog.cellsOf 5=1 from by kernel_rfl] at j
  obtain⟨x18,a0,a1⟩:=hH j
  obtain⟨al,a2⟩ : ∃ y,xs[19]? = some y:=⟨_,List.getElem?_eq_getElem (show 19<xs.length by omega)⟩
  have k:DataW.trod enc Tryz.prog w base spare held m 5 ((cs.drop 19).take (Tryz.prog.cellsOf 5))=xs[19]?:=hf 19 _ rfl
  rw[a2] at k
  rw[show Tryz.prog.cellsOf 5=1 from by kernel_rfl] at k
  obtain⟨x19,a3,a4⟩:=hH k
  obtain⟨am,a5⟩ : ∃ y,xs[20]? = some y:=⟨_,List.getElem?_eq_getElem (show 20<xs.length by omega)⟩
  have l:DataW.trod enc Tryz.prog w base spare held m 5 ((cs.drop 20).take (Tryz.prog.cellsOf 5))=xs[20]?:=hf 20 _ rfl
  rw[a5] at l
  rw[show Tryz.prog.cellsOf 5=1 from by kernel_rfl] at l
  obtain⟨x20,a6,a7⟩:=hH l
  obtain⟨an,a8⟩ : ∃ y,xs[21]? = some y:=⟨_,List.getElem?_eq_getElem (show 21<xs.length by omega)⟩
  have o:DataW.trod enc Tryz.prog w base spare held m 29 ((cs.drop 21).take (Tryz.prog.cellsOf 29))=xs[21]?:=hf 21 _ rfl
  rw[a8] at o
  rw[show Tryz.prog.cellsOf 29=1 from by kernel_rfl] at o
  obtain⟨t,a9,aa,ab⟩:=yZ o
  have hcs:cs=[.int .u8 x0,.int .u8 x1,.int .u16 x2,.int .u16 x3,.int .u16 x4,.int .u16 x5,.int .u16 x6,.int .u16 x7,.int .u16 x8,.int .u16 x9,.int .u16 x10,.int .u16 x11,p,q,r,s,.int .u8 x16,.int .u8 x17,.int .u8 x18,.int .u8 x19,.int .u8 x20,t]:=by
    show cs.drop 0=_
    rw[dP e0,dP e1,dP e2,dP e3,dP e4,dP e5,dP e6,dP e7,dP e8,dP e9,dP v,dP A,dP E,dP I,dP N,dP R,dP U,dP X,dP a0,dP a3,dP a6,dP aa,iP hlen]
  subst hcs
  exact⟨⟨x0,x1,x2,x3,x4,x5,x6,x7,x8,x9,x10,x11,D,H,L,Q,x16,x17,x18,x19,x20,a9⟩,p,q,r,s,t,rfl,F,J,O,S,ab,⟨r0,r1,r2,r3,r4,r5,r6,r7,r8,r9,x,B,V,Y,a1,a4,a7⟩⟩
end
open Go.RowKit
section
variable {H:Type}{enc:TypeId × Value→H}{w:World}{base:Nat}{spare:Nat→Bool}{held:Bool}{n:Nat}{y:DataW H × List MemPlace}
theorem so{cs:List Value}(h:DataW.trod enc Tryz.prog w base spare held n 24 cs=some y) : ∃ u t,cs=[.int .u8 u,.int .u16 t]∧(0≤u∧u<256)∧(0≤t∧t<65536):=by
  obtain⟨xs,m,rfl,_,hlen,hxs,hf⟩:=DataW.trod_struct Tryz.underlying24 h
  rw[show Tryz.prog.cellsOf 24=2 from by kernel_rfl] at hlen
  replace hxs:xs.length=2:=hxs.trans (by kernel_rfl)
  obtain⟨y0,g0⟩ : ∃ y,xs[0]? = some y:=⟨_,List.getElem?_eq_getElem (show 0<xs.length by omega)⟩
  have f0:DataW.trod enc Tryz.prog w base spare held m 5 ((cs.drop 0).take (Tryz.prog.cellsOf 5))=xs[0]?:=hf 0 _ rfl
  rw[g0] at f0
  rw[show Tryz.prog.cellsOf 5=1 from by kernel_rfl] at f0
  obtain⟨x0,e0,r0⟩:=hH f0
  obtain⟨y1,g1⟩ : ∃ y,xs[1]? = some y:=⟨_,List.getElem?_eq_getElem (show 1<xs.length by omega)⟩
  have f1:DataW.trod enc Tryz.prog w base spare held m 22 ((cs.drop 1).take (Tryz.prog.cellsOf 22))=xs[1]?:=hf 1 _ rfl
  rw[g1] at f1
  rw[show Tryz.prog.cellsOf 22=1 from by kernel_rfl] at f1
  obtain⟨x1,e1,r1⟩:=dM f1
  have hcs:cs=[.int .u8 x0,.int .u16 x1]:=by
    show cs.drop 0=_
    rw[dP e0,dP e1,iP hlen]
  exact⟨x0,x1,hcs,r0,r1⟩
theorem tT{cs:List Value}(h:DataW.trod enc Tryz.prog w base spare held n 33 cs=some y) : ∃ u t M c,cs=[.int .u8 u,.int .u16 t]++c∧aF false w c M∧(0≤u∧u<256)∧(0≤t∧t<65536):=by
  obtain⟨xs,m,rfl,_,hlen,hxs,hf⟩:=DataW.trod_struct Tryz.underlying33 h
  rw[show Tryz.prog.cellsOf 33=24 from by kernel_rfl] at hlen
  replace hxs:xs.length=2:=hxs.trans (by kernel_rfl)
  obtain⟨y0,g0⟩ : ∃ y,xs[0]? = some y:=⟨_,List.getElem?_eq_getElem (show 0<xs.length by omega)⟩
  have f0:DataW.trod enc Tryz.prog w base spare held m 24 ((cs.drop 0).take (Tryz.prog.cellsOf 24))=xs[0]?:=hf 0 _ rfl
  rw[g0] at f0
  rw[show Tryz.prog.cellsOf 24=2 from by kernel_rfl] at f0
  obtain⟨u,t,e0,hu,ht⟩:=so f0
  obtain⟨y1,g1⟩ : ∃ y,xs[1]? = some y:=⟨_,List.getElem?_eq_getElem (show 1<xs.length by omega)⟩
  have f1:DataW.trod enc Tryz.prog w base spare held m 31 ((cs.drop 2).take (Tryz.prog.cellsOf 31))=xs[1]?:=hf 1 _ rfl
  rw[g1] at f1
  rw[show Tryz.prog.cellsOf 31=22 from by kernel_rfl] at f1
  obtain⟨M,hM⟩:=v6 f1
  refine⟨u,t,M,(cs.drop 2).take 22,?_,hM,hu,ht⟩
  rw[← e0,List.take_of_length_le (show(cs.drop 2).length≤22 by rw[List.length_drop];omega)]
  exact(List.take_append_drop 2 cs).symm
end
end Go.Proofs.YtpglhicfhppaiaaGreat
namespace Go.Proofs.YtpglhicfhppaiaaGreat
open Go.WideShapes
section
variable {H:Type}{enc:TypeId × Value→H}{w:World}{base:Nat}{spare:Nat→Bool}{held:Bool}{n:Nat}{y:DataW H × List MemPlace}
theorem zp{cs:List Value}(h:DataW.trod enc Tryz.prog w base spare held n 33 cs=some y) : ∃ f,lu false w f cs:=by
  obtain⟨u,t,M,c,e0,hM,hu,ht⟩:=tT h
  obtain⟨x,hx⟩:=mt (cs:=c.toArray) (by simpa using hM)
  have hc:c=(gG M x).toList:=by rw[← hx]
  refine⟨⟨u,t,M⟩,x,?_,?_,hu,ht⟩
  · rw[e0,eB,hc]
    simp
  · rw[← hc]
    exact hM
theorem xl{cs:List Value}(h:DataW.trod enc Tryz.prog w base spare held n 68 cs=some y) : ∃ v xs,cs=[v]∧uA false w v xs :=
  gK (R:=lu false) Tryz.underlying68 (by kernel_rfl) (by decide) (fun _ _ _ _ h=>zp h) h
end
end Go.Proofs.YtpglhicfhppaiaaGreat
