/- Contracts of functions, part CStreamHolds6. -/
import Derived.Test.YtpglhicfhppaiaaGreatCStreamHolds1
import Derived.Test.YtpglhicfhppaiaaGreatCStreamHolds2
import Derived.Test.YtpglhicfhppaiaaGreatCStreamHolds3
import Derived.Test.YtpglhicfhppaiaaGreatCStreamHolds4
import Derived.Test.YtpglhicfhppaiaaGreatCStreamHolds5
import Derived.Deep.Slices
import Derived.ChangeArms
import Derived.WideShapes
import Derived.SizedLaws
set_option linter.unusedVariables false
set_option linter.unusedSimpArgs false
set_option maxRecDepth 100000
set_option maxHeartbeats 4000000
namespace Go.Proofs.YtpglhicfhppaiaaGreat
open Go.RowKit
theorem rH{α:Type}{xs ys:List α}{d:α}{k:Nat}(h:xs.take k=ys.take k)(hk:k<xs.length)(hl:xs.length=ys.length)(he:xs.getD k d=ys.getD k d) : xs.take (k+1)=ys.take (k+1):=by
  have hk2:k<ys.length:=by omega
  rw[List.take_succ_eq_append_getElem hk,List.take_succ_eq_append_getElem hk2,h]
  rw[List.getD_eq_getElem?_getD,List.getElem?_eq_getElem hk,List.getD_eq_getElem?_getD,List.getElem?_eq_getElem (by omega)] at he
  simp only[Option.getD_some] at he
  rw[he]
theorem zA{a b:dY}(h:((((!(decide (a.words=b.words)))||(a.file != b.file))||(a.record != b.record))||(a.count != b.count))=false) : a=b:=by
  cases a
  cases b
  simp at h
  simp[h]
theorem zn{a b:Obj}(h:((!(decide (a.value=b.value)))||(a.id != b.id))=false) : a=b:=by
  cases a
  cases b
  simp at h
  simp[h]
theorem xZ{a b:Obj}(h:(!(decide (a.value=b.value)))=false)(h2:(a.id != b.id)=false) : a=b:=zn (by rw[h,h2];rfl)
theorem mr{A B:aT}{f:aT→aT→Bool}(h:f A B=true)(hf:∀ M,f M M=false) : decide (A=B)=false:=decide_eq_false fun e=>by rw[e,hf] at h;cases h
theorem xR{A B:aT}(h1:((((((((((((A.code != B.code)||(A.fail != B.fail))||(A.addr != B.addr))||(A.count != B.count))||(A.value != B.value))||(A.and_ != B.and_))||(A.or_ != B.or_))||(A.addr2 != B.addr2))||(A.sub != B.sub))||(A.status != B.status))||(A.events != B.events))||(A.messages != B.messages))=false)(h2:(((((A.mei != B.mei)||(A.kind != B.kind))||(A.level != B.level))||(A.more != B.more))||(A.next != B.next))=false)(h3:(((((!(decide (A.words=B.words)))||(!(decide (A.bits=B.bits))))||(!(decide (A.data=B.data))))||(((A.recs.length:Nat) : Int)!=((B.recs.length:Nat) : Int)))||(((A.objects.length:Nat) : Int)!=((B.objects.length:Nat) : Int)))=false)(hr:A.recs.length=B.recs.length→A.recs=B.recs)(ho:A.objects.length=B.objects.length→A.objects=B.objects) : A=B:=by
  cases A
  cases B
  simp only[Bool.or_eq_false_iff,bne_eq_false_iff_eq,Bool.not_eq_false',decide_eq_true_eq] at h1 h2 h3
  simp only at hr ho
  obtain⟨⟨⟨⟨⟨⟨⟨⟨⟨⟨⟨a1,a2⟩,a3⟩,a4⟩,a5⟩,a6⟩,a7⟩,a8⟩,a9⟩,a⟩,b⟩,c⟩:=h1
  obtain⟨⟨⟨⟨b1,b2⟩,b3⟩,b4⟩,b5⟩:=h2
  obtain⟨⟨⟨⟨d1,d2⟩,d3⟩,d4⟩,d5⟩:=h3
  have d4:=hr (by omega)
  have d5:=ho (by omega)
  subst a1 a2 a3 a4 a5 a6 a7 a8 a9 a b c b1 b2 b3 b4 b5 d1 d2 d3 d4 d5
  rfl
theorem m0{m m':Bool}{pc qc:Array Value}{A B:aT}{w:World}(ha:aF m w pc.toList A)(hb:aF m' w qc.toList B) :
    Calls Tryz.prog 22 #[.agg pc,.agg qc] w (bv (.bool (decide (A=B))) w):=by
 have pM:=ha
 obtain⟨pvw,pvb,pvd,pvr,pvo,ph0,phw,phb,phd,phr,pho,pR⟩:=ha
 obtain rfl:pc=(bA A pvw pvb pvd pvr pvo).toArray:=by apply Array.toList_inj.1;simpa using ph0
 clear ph0
 obtain⟨pw,pkw,rfl,_,_⟩:=phw.shape
 obtain⟨pb,pkb,rfl,_,_⟩:=phb.shape
 obtain⟨pd,pkd,rfl,_,_⟩:=phd.shape
 obtain⟨pr,pkr,rfl,_,_⟩:=phr.shape
 obtain⟨po,pko,rfl,_,_⟩:=pho.shape
 have qM:=hb
 obtain⟨qvw,qvb,qvd,qvr,qvo,qh0,qhw,qhb,qhd,qhr,qho,qR⟩:=hb
 obtain rfl:qc=(bA B qvw qvb qvd qvr qvo).toArray:=by apply Array.toList_inj.1;simpa using qh0
 clear qh0
 obtain⟨qw,qkw,rfl,_,_⟩:=qhw.shape
 obtain⟨qb,qkb,rfl,_,_⟩:=qhb.shape
 obtain⟨qd,qkd,rfl,_,_⟩:=qhd.shape
 obtain⟨qr,qkr,rfl,_,_⟩:=qhr.shape
 obtain⟨qo,qko,rfl,_,_⟩:=qho.shape
 have hz1:=aR.len phr
 have hz2:=aR.len pho
 refine en 254 Tryz.func22 rfl<|sg<|L0<|cI (mG A.code A.fail A.addr A.count A.value A.and_ A.or_ A.addr2 A.sub A.status A.events A.messages (.slice pw A.words.length pkw) (.slice pb A.bits.length pkb) (.slice pd A.data.length pkd) (.slice pr A.recs.length pkr) A.mei A.kind A.level A.more A.next (.slice po A.objects.length pko)) fun i dJ dK cg ch=>L0<|cI (mG B.code B.fail B.addr B.count B.value B.and_ B.or_ B.addr2 B.sub B.status B.events B.messages (.slice qw B.words.length qkw) (.slice qb B.bits.length qkb) (.slice qd B.data.length qkd) (.slice qr B.recs.length qkr) B.mei B.kind B.level B.more B.next (.slice qo B.objects.length qko)) fun l dL dM b az=>Pl 1<|nt<|sq<|sg<|Pl 1<|?_
 have c:=ub az cg
 refine L0<|aP c 0<|Pl 1<|L0<|aP b 0<|Pl 2<|cu 6 [19] 25 (((A.code != B.code)||(A.fail != B.fail))) (fun K aA=>?_) ?_
 refine bl 19 ((A.code != B.code)) (fun q=>?_) (fun q=>?_)
 have ci:=aB q
 exact Pl 6<|ce aA true (by rw[q];rfl)
 have ci:=ah q
 exact Pl 1<|L1<|aP c 1<|Pl 1<|L1<|aP b 1<|Pl 2<|ce aA (A.fail != B.fail) (by rw[q];rfl)
 refine Pl 1<|cu 6 [26] 32 ((((A.code != B.code)||(A.fail != B.fail))||(A.addr != B.addr))) (fun K aC=>?_) ?_
 refine bl 26 (((A.code != B.code)||(A.fail != B.fail))) (fun r=>?_) (fun r=>?_)
 exact Pl 6<|ce aC true (by rw[r];rfl)
 have cj:=(aK r).1
 have ck:=(aK r).2
 have dN:=ah cj
 have dO:=ah ck
 exact Pl 1<|L1<|aP c 2<|Pl 1<|L1<|aP b 2<|Pl 2<|ce aC (A.addr != B.addr) (by rw[r];rfl)
 refine Pl 1<|cu 6 [33] 39 (((((A.code != B.code)||(A.fail != B.fail))||(A.addr != B.addr))||(A.count != B.count))) (fun K aE=>?_) ?_
 refine bl 33 ((((A.code != B.code)||(A.fail != B.fail))||(A.addr != B.addr))) (fun s=>?_) (fun s=>?_)
 exact Pl 6<|ce aE true (by rw[s];rfl)
 have aG:=(aK s).1
 have cl:=(aK s).2
 have cm:=(aK aG).1
 have cn:=(aK aG).2
 have q25aap:=ah cm
 have q25abp:=ah cn
 have dP:=ah cl
 exact Pl 1<|L1<|aP c 3<|Pl 1<|L1<|aP b 3<|Pl 2<|ce aE (A.count != B.count) (by rw[s];rfl)
 refine Pl 1<|cu 6 [40] 46 ((((((A.code != B.code)||(A.fail != B.fail))||(A.addr != B.addr))||(A.count != B.count))||(A.value != B.value))) (fun K aH=>?_) ?_
 refine bl 40 (((((A.code != B.code)||(A.fail != B.fail))||(A.addr != B.addr))||(A.count != B.count))) (fun t=>?_) (fun t=>?_)
 exact Pl 6<|ce aH true (by rw[t];rfl)
 have aI:=(aK t).1
 have co:=(aK t).2
 have aJ:=(aK aI).1
 have cp:=(aK aI).2
 have q27aaa:=(aK aJ).1
 have q27aab:=(aK aJ).2
 have q27aaap:=ah q27aaa
 have q27aabp:=ah q27aab
 have q27abp:=ah cp
 have dQ:=ah co
 exact Pl 1<|L1<|aP c 4<|Pl 1<|L1<|aP b 4<|Pl 2<|ce aH (A.value != B.value) (by rw[t];rfl)
 refine Pl 1<|cu 6 [47] 53 (((((((A.code != B.code)||(A.fail != B.fail))||(A.addr != B.addr))||(A.count != B.count))||(A.value != B.value))||(A.and_ != B.and_))) (fun K aL=>?_) ?_
 refine bl 47 ((((((A.code != B.code)||(A.fail != B.fail))||(A.addr != B.addr))||(A.count != B.count))||(A.value != B.value))) (fun u=>?_) (fun u=>?_)
 exact Pl 6<|ce aL true (by rw[u];rfl)
 have aM:=(aK u).1
 have cq:=(aK u).2
 have aN:=(aK aM).1
 have cr:=(aK aM).2
 have q29aaa:=(aK aN).1
 have q29aab:=(aK aN).2
 have q29aaaa:=(aK q29aaa).1
 have q29aaab:=(aK q29aaa).2
 have q29aaaap:=ah q29aaaa
 have q29aaabp:=ah q29aaab
 have q29aabp:=ah q29aab
 have q29abp:=ah cr
 have dR:=ah cq
 exact Pl 1<|L1<|aP c 5<|Pl 1<|L1<|aP b 5<|Pl 2<|ce aL (A.and_ != B.and_) (by rw[u];rfl)
 refine Pl 1<|cu 6 [54] 60 ((((((((A.code != B.code)||(A.fail != B.fail))||(A.addr != B.addr))||(A.count != B.count))||(A.value != B.value))||(A.and_ != B.and_))||(A.or_ != B.or_))) (fun K aO=>?_) ?_
 refine bl 54 (((((((A.code != B.code)||(A.fail != B.fail))||(A.addr != B.addr))||(A.count != B.count))||(A.value != B.value))||(A.and_ != B.and_))) (fun v=>?_) (fun v=>?_)
 exact Pl 6<|ce aO true (by rw[v];rfl)
 have aQ:=(aK v).1
 have cs:=(aK v).2
 have aU:=(aK aQ).1
 have ct:=(aK aQ).2
 have q31aaa:=(aK aU).1
 have q31aab:=(aK aU).2
 have q31aaaa:=(aK q31aaa).1
 have q31aaab:=(aK q31aaa).2
 have q31aaaaa:=(aK q31aaaa).1
 have q31aaaab:=(aK q31aaaa).2
 have q31aaaaap:=ah q31aaaaa
 have q31aaaabp:=ah q31aaaab
 have q31aaabp:=ah q31aaab
 have q31aabp:=ah q31aab
 have q31abp:=ah ct
 have dS:=ah cs
 exact Pl 1<|L1<|aP c 6<|Pl 1<|L1<|aP b 6<|Pl 2<|ce aO (A.or_ != B.or_) (by rw[v];rfl)
 refine Pl 1<|cu 6 [61] 67 (((((((((A.code != B.code)||(A.fail != B.fail))||(A.addr != B.addr))||(A.count != B.count))||(A.value != B.value))||(A.and_ != B.and_))||(A.or_ != B.or_))||(A.addr2 != B.addr2))) (fun K aV=>?_) ?_
 refine bl 61 ((((((((A.code != B.code)||(A.fail != B.fail))||(A.addr != B.addr))||(A.count != B.count))||(A.value != B.value))||(A.and_ != B.and_))||(A.or_ != B.or_))) (fun z=>?_) (fun z=>?_)
 exact Pl 6<|ce aV true (by rw[z];rfl)
 have aW:=(aK z).1
 have cv:=(aK z).2
 have aX:=(aK aW).1
 have cw:=(aK aW).2
 have q33aaa:=(aK aX).1
 have q33aab:=(aK aX).2
 have q33aaaa:=(aK q33aaa).1
 have q33aaab:=(aK q33aaa).2
 have q33aaaaa:=(aK q33aaaa).1
 have q33aaaab:=(aK q33aaaa).2
 have q33aaaaaa:=(aK q33aaaaa).1
 have q33aaaaab:=(aK q33aaaaa).2
 have q33aaaaaap:=ah q33aaaaaa
 have q33aaaaabp:=ah q33aaaaab
 have q33aaaabp:=ah q33aaaab
 have q33aaabp:=ah q33aaab
 have q33aabp:=ah q33aab
 have q33abp:=ah cw
 have dU:=ah cv
 exact Pl 1<|L1<|aP c 7<|Pl 1<|L1<|aP b 7<|Pl 2<|ce aV (A.addr2 != B.addr2) (by rw[z];rfl)
 refine Pl 1<|cu 6 [68] 74 ((((((((((A.code != B.code)||(A.fail != B.fail))||(A.addr != B.addr))||(A.count != B.count))||(A.value != B.value))||(A.and_ != B.and_))||(A.or_ != B.or_))||(A.addr2 != B.addr2))||(A.sub != B.sub))) (fun K aY=>?_) ?_
 refine bl 68 (((((((((A.code != B.code)||(A.fail != B.fail))||(A.addr != B.addr))||(A.count != B.count))||(A.value != B.value))||(A.and_ != B.and_))||(A.or_ != B.or_))||(A.addr2 != B.addr2))) (fun C=>?_) (fun C=>?_)
 exact Pl 6<|ce aY true (by rw[C];rfl)
 have b0:=(aK C).1
 have cx:=(aK C).2
 have b1:=(aK b0).1
 have cy:=(aK b0).2
 have q35aaa:=(aK b1).1
 have q35aab:=(aK b1).2
 have q35aaaa:=(aK q35aaa).1
 have q35aaab:=(aK q35aaa).2
 have q35aaaaa:=(aK q35aaaa).1
 have q35aaaab:=(aK q35aaaa).2
 have q35aaaaaa:=(aK q35aaaaa).1
 have q35aaaaab:=(aK q35aaaaa).2
 have q35aaaaaaa:=(aK q35aaaaaa).1
 have q35aaaaaab:=(aK q35aaaaaa).2
 have q35aaaaaaap:=ah q35aaaaaaa
 have q35aaaaaabp:=ah q35aaaaaab
 have q35aaaaabp:=ah q35aaaaab
 have q35aaaabp:=ah q35aaaab
 have q35aaabp:=ah q35aaab
 have q35aabp:=ah q35aab
 have q35abp:=ah cy
 have dV:=ah cx
 exact Pl 1<|L1<|aP c 8<|Pl 1<|L1<|aP b 8<|Pl 2<|ce aY (A.sub != B.sub) (by rw[C];rfl)
 refine Pl 1<|cu 6 [75] 81 (((((((((((A.code != B.code)||(A.fail != B.fail))||(A.addr != B.addr))||(A.count != B.count))||(A.value != B.value))||(A.and_ != B.and_))||(A.or_ != B.or_))||(A.addr2 != B.addr2))||(A.sub != B.sub))||(A.status != B.status))) (fun K b2=>?_) ?_
 refine bl 75 ((((((((((A.code != B.code)||(A.fail != B.fail))||(A.addr != B.addr))||(A.count != B.count))||(A.value != B.value))||(A.and_ != B.and_))||(A.or_ != B.or_))||(A.addr2 != B.addr2))||(A.sub != B.sub))) (fun D=>?_) (fun D=>?_)
 exact Pl 6<|ce b2 true (by rw[D];rfl)
 have b3:=(aK D).1
 have cz:=(aK D).2
 have b4:=(aK b3).1
 have cA:=(aK b3).2
 have q37aaa:=(aK b4).1
 have q37aab:=(aK b4).2
 have q37aaaa:=(aK q37aaa).1
 have q37aaab:=(aK q37aaa).2
 have q37aaaaa:=(aK q37aaaa).1
 have q37aaaab:=(aK q37aaaa).2
 have q37aaaaaa:=(aK q37aaaaa).1
 have q37aaaaab:=(aK q37aaaaa).2
 have q37aaaaaaa:=(aK q37aaaaaa).1
 have q37aaaaaab:=(aK q37aaaaaa).2
 have q37aaaaaaaa:=(aK q37aaaaaaa).1
 have q37aaaaaaab:=(aK q37aaaaaaa).2
 have q37aaaaaaaap:=ah q37aaaaaaaa
 have q37aaaaaaabp:=ah q37aaaaaaab
 have q37aaaaaabp:=ah q37aaaaaab
 have q37aaaaabp:=ah q37aaaaab
 have q37aaaabp:=ah q37aaaab
 have q37aaabp:=ah q37aaab
 have q37aabp:=ah q37aab
 have q37abp:=ah cA
 have dW:=ah cz
 exact Pl 1<|L1<|aP c 9<|Pl 1<|L1<|aP b 9<|Pl 2<|ce b2 (A.status != B.status) (by rw[D];rfl)
 refine Pl 1<|cu 6 [82] 88 ((((((((((((A.code != B.code)||(A.fail != B.fail))||(A.addr != B.addr))||(A.count != B.count))||(A.value != B.value))||(A.and_ != B.and_))||(A.or_ != B.or_))||(A.addr2 != B.addr2))||(A.sub != B.sub))||(A.status != B.status))||(A.events != B.events))) (fun K b5=>?_) ?_
 refine bl 82 (((((((((((A.code != B.code)||(A.fail != B.fail))||(A.addr != B.addr))||(A.count != B.count))||(A.value != B.value))||(A.and_ != B.and_))||(A.or_ != B.or_))||(A.addr2 != B.addr2))||(A.sub != B.sub))||(A.status != B.status))) (fun E=>?_) (fun E=>?_)
 exact Pl 6<|ce b5 true (by rw[E];rfl)
 have b6:=(aK E).1
 have cB:=(aK E).2
 have b7:=(aK b6).1
 have cC:=(aK b6).2
 have q39aaa:=(aK b7).1
 have q39aab:=(aK b7).2
 have q39aaaa:=(aK q39aaa).1
 have q39aaab:=(aK q39aaa).2
 have q39aaaaa:=(aK q39aaaa).1
 have q39aaaab:=(aK q39aaaa).2
 have q39aaaaaa:=(aK q39aaaaa).1
 have q39aaaaab:=(aK q39aaaaa).2
 have q39aaaaaaa:=(aK q39aaaaaa).1
 have q39aaaaaab:=(aK q39aaaaaa).2
 have q39aaaaaaaa:=(aK q39aaaaaaa).1
 have q39aaaaaaab:=(aK q39aaaaaaa).2
 have q39aaaaaaaaa:=(aK q39aaaaaaaa).1
 have q39aaaaaaaab:=(aK q39aaaaaaaa).2
 have q39aaaaaaaaap:=ah q39aaaaaaaaa
 have q39aaaaaaaabp:=ah q39aaaaaaaab
 have q39aaaaaaabp:=ah q39aaaaaaab
 have q39aaaaaabp:=ah q39aaaaaab
 have q39aaaaabp:=ah q39aaaaab
 have q39aaaabp:=ah q39aaaab
 have q39aaabp:=ah q39aaab
 have q39aabp:=ah q39aab
 have q39abp:=ah cC
 have dX:=ah cB
 exact Pl 1<|L1<|aP c 10<|Pl 1<|L1<|aP b 10<|Pl 2<|ce b5 (A.events != B.events) (by rw[E];rfl)
 refine Pl 1<|cu 6 [89] 95 (((((((((((((A.code != B.code)||(A.fail != B.fail))||(A.addr != B.addr))||(A.count != B.count))||(A.value != B.value))||(A.and_ != B.and_))||(A.or_ != B.or_))||(A.addr2 != B.addr2))||(A.sub != B.sub))||(A.status != B.status))||(A.events != B.events))||(A.messages != B.messages))) (fun K b8=>?_) ?_
 refine bl 89 ((((((((((((A.code != B.code)||(A.fail != B.fail))||(A.addr != B.addr))||(A.count != B.count))||(A.value != B.value))||(A.and_ != B.and_))||(A.or_ != B.or_))||(A.addr2 != B.addr2))||(A.sub != B.sub))||(A.status != B.status))||(A.events != B.events))) (fun F=>?_) (fun F=>?_)
 exact Pl 6<|ce b8 true (by rw[F];rfl)
 have b9:=(aK F).1
 have cD:=(aK F).2
 have ba:=(aK b9).1
 have cE:=(aK b9).2
 have q41aaa:=(aK ba).1
 have q41aab:=(aK ba).2
 have q41aaaa:=(aK q41aaa).1
 have q41aaab:=(aK q41aaa).2
 have q41aaaaa:=(aK q41aaaa).1
 have q41aaaab:=(aK q41aaaa).2
 have q41aaaaaa:=(aK q41aaaaa).1
 have q41aaaaab:=(aK q41aaaaa).2
 have q41aaaaaaa:=(aK q41aaaaaa).1
 have q41aaaaaab:=(aK q41aaaaaa).2
 have q41aaaaaaaa:=(aK q41aaaaaaa).1
 have q41aaaaaaab:=(aK q41aaaaaaa).2
 have q41aaaaaaaaa:=(aK q41aaaaaaaa).1
 have q41aaaaaaaab:=(aK q41aaaaaaaa).2
 have q41aaaaaaaaaa:=(aK q41aaaaaaaaa).1
 have q41aaaaaaaaab:=(aK q41aaaaaaaaa).2
 have q41aaaaaaaaaap:=ah q41aaaaaaaaaa
 have q41aaaaaaaaabp:=ah q41aaaaaaaaab
 have q41aaaaaaaabp:=ah q41aaaaaaaab
 have q41aaaaaaabp:=ah q41aaaaaaab
 have q41aaaaaabp:=ah q41aaaaaab
 have q41aaaaabp:=ah q41aaaaab
 have q41aaaabp:=ah q41aaaab
 have q41aaabp:=ah q41aaab
 have q41aabp:=ah q41aab
 have q41abp:=ah cE
 have dY:=ah cD
 exact Pl 1<|L1<|aP c 11<|Pl 1<|L1<|aP b 11<|Pl 2<|ce b8 (A.messages != B.messages) (by rw[F];rfl)
 refine nt<|?_
 have G:=aD ch az
 refine cb (((((((((((((A.code != B.code)||(A.fail != B.fail))||(A.addr != B.addr))||(A.count != B.count))||(A.value != B.value))||(A.and_ != B.and_))||(A.or_ != B.or_))||(A.addr2 != B.addr2))||(A.sub != B.sub))||(A.status != B.status))||(A.events != B.events))||(A.messages != B.messages))) (fun H=>?_) (fun H=>?_)
 refine sg<|Pl 1<|nt<|rt<|tr<|rr (.bool false)<|?_
 have hs:decide (A=B)=false:=mr (f:=fun x y=>((((((((((((x.code != y.code)||(x.fail != y.fail))||(x.addr != y.addr))||(x.count != y.count))||(x.value != y.value))||(x.and_ != y.and_))||(x.or_ != y.or_))||(x.addr2 != y.addr2))||(x.sub != y.sub))||(x.status != y.status))||(x.events != y.events))||(x.messages != y.messages))) H (fun M=>by simp)
 rw[hs]
 exact⟨rfl,G⟩
 have bb:=(aK H).1
 have cF:=(aK H).2
 have bc:=(aK bb).1
 have cG:=(aK bb).2
 have q44aaa:=(aK bc).1
 have q44aab:=(aK bc).2
 have q44aaaa:=(aK q44aaa).1
 have q44aaab:=(aK q44aaa).2
 have q44aaaaa:=(aK q44aaaa).1
 have q44aaaab:=(aK q44aaaa).2
 have q44aaaaaa:=(aK q44aaaaa).1
 have q44aaaaab:=(aK q44aaaaa).2
 have q44aaaaaaa:=(aK q44aaaaaa).1
 have q44aaaaaab:=(aK q44aaaaaa).2
 have q44aaaaaaaa:=(aK q44aaaaaaa).1
 have q44aaaaaaab:=(aK q44aaaaaaa).2
 have q44aaaaaaaaa:=(aK q44aaaaaaaa).1
 have q44aaaaaaaab:=(aK q44aaaaaaaa).2
 have q44aaaaaaaaaa:=(aK q44aaaaaaaaa).1
 have q44aaaaaaaaab:=(aK q44aaaaaaaaa).2
 have q44aaaaaaaaaaa:=(aK q44aaaaaaaaaa).1
 have q44aaaaaaaaaab:=(aK q44aaaaaaaaaa).2
 have q44aaaaaaaaaaap:=ah q44aaaaaaaaaaa
 have q44aaaaaaaaaabp:=ah q44aaaaaaaaaab
 have q44aaaaaaaaabp:=ah q44aaaaaaaaab
 have q44aaaaaaaabp:=ah q44aaaaaaaab
 have q44aaaaaaabp:=ah q44aaaaaaab
 have q44aaaaaabp:=ah q44aaaaaab
 have q44aaaaabp:=ah q44aaaaab
 have q44aaaabp:=ah q44aaaab
 have q44aaabp:=ah q44aaab
 have q44aabp:=ah q44aab
 have q44abp:=ah cG
 have dZ:=ah cF
 refine bK<|sq<|sg<|Pl 1<|L0<|aP c 16<|Pl 1<|L0<|aP b 16<|Pl 2<|cu 6 [101] 107 (((A.mei != B.mei)||(A.kind != B.kind))) (fun K bd=>?_) ?_
 refine bl 101 ((A.mei != B.mei)) (fun I=>?_) (fun I=>?_)
 have cH:=aB I
 exact Pl 6<|ce bd true (by rw[I];rfl)
 have cH:=ah I
 exact Pl 1<|L1<|aP c 17<|Pl 1<|L1<|aP b 17<|Pl 2<|ce bd (A.kind != B.kind) (by rw[I];rfl)
 refine Pl 1<|cu 6 [108] 114 ((((A.mei != B.mei)||(A.kind != B.kind))||(A.level != B.level))) (fun K be=>?_) ?_
 refine bl 108 (((A.mei != B.mei)||(A.kind != B.kind))) (fun J=>?_) (fun J=>?_)
 exact Pl 6<|ce be true (by rw[J];rfl)
 have cJ:=(aK J).1
 have cK:=(aK J).2
 have e0:=ah cJ
 have e1:=ah cK
 exact Pl 1<|L1<|aP c 18<|Pl 1<|L1<|aP b 18<|Pl 2<|ce be (A.level != B.level) (by rw[J];rfl)
 refine Pl 1<|cu 6 [115] 121 (((((A.mei != B.mei)||(A.kind != B.kind))||(A.level != B.level))||(A.more != B.more))) (fun K bf=>?_) ?_
 refine bl 115 ((((A.mei != B.mei)||(A.kind != B.kind))||(A.level != B.level))) (fun L=>?_) (fun L=>?_)
 exact Pl 6<|ce bf true (by rw[L];rfl)
 have bg:=(aK L).1
 have cL:=(aK L).2
 have cM:=(aK bg).1
 have cN:=(aK bg).2
 have q49aap:=ah cM
 have q49abp:=ah cN
 have e2:=ah cL
 exact Pl 1<|L1<|aP c 19<|Pl 1<|L1<|aP b 19<|Pl 2<|ce bf (A.more != B.more) (by rw[L];rfl)
 refine Pl 1<|cu 6 [122] 128 ((((((A.mei != B.mei)||(A.kind != B.kind))||(A.level != B.level))||(A.more != B.more))||(A.next != B.next))) (fun K bh=>?_) ?_
 refine bl 122 (((((A.mei != B.mei)||(A.kind != B.kind))||(A.level != B.level))||(A.more != B.more))) (fun N=>?_) (fun N=>?_)
 exact Pl 6<|ce bh true (by rw[N];rfl)
 have bj:=(aK N).1
 have cO:=(aK N).2
 have bm:=(aK bj).1
 have cP:=(aK bj).2
 have q51aaa:=(aK bm).1
 have q51aab:=(aK bm).2
 have q51aaap:=ah q51aaa
 have q51aabp:=ah q51aab
 have q51abp:=ah cP
 have e3:=ah cO
 exact Pl 1<|L1<|aP c 20<|Pl 1<|L1<|aP b 20<|Pl 2<|ce bh (A.next != B.next) (by rw[N];rfl)
 refine nt<|cb ((((((A.mei != B.mei)||(A.kind != B.kind))||(A.level != B.level))||(A.more != B.more))||(A.next != B.next))) (fun O=>?_) (fun O=>?_)
 refine sg<|Pl 1<|nt<|rt<|tr<|rr (.bool false)<|?_
 have hs:decide (A=B)=false:=mr (f:=fun x y=>(((((x.mei != y.mei)||(x.kind != y.kind))||(x.level != y.level))||(x.more != y.more))||(x.next != y.next))) O (fun M=>by simp)
 rw[hs]
 exact⟨rfl,G⟩
 have bo:=(aK O).1
 have cQ:=(aK O).2
 have bp:=(aK bo).1
 have cR:=(aK bo).2
 have q53aaa:=(aK bp).1
 have q53aab:=(aK bp).2
 have q53aaaa:=(aK q53aaa).1
 have q53aaab:=(aK q53aaa).2
 have q53aaaap:=ah q53aaaa
 have q53aaabp:=ah q53aaab
 have q53aabp:=ah q53aab
 have q53abp:=ah cR
 have e4:=ah cQ
 refine bK<|sg<|Pl 1<|L0<|aP c 12<|Pl 1<|L0<|aP b 12<|?_
 refine L0<|Oc<|m1 (iY (dT.old phw G) (dT.old qhw G)) fun e5 ab=>Pl 1<|ng<|Pl 1<|?_
 have bq:=ub ab c
 refine L0<|aP bq 13<|Pl 1<|?_
 have bs:=ub ab b
 refine L0<|aP bs 13<|?_
 have ac:=aD G ab
 refine L0<|Oc<|m1 (mB (iX.old phb ac) (iX.old qhb ac)) fun e6 ad=>Pl 1<|ng<|Pl 1<|?_
 have a2:=ub ad bq
 refine L0<|aP a2 14<|Pl 1<|?_
 have P:=ub ad bs
 refine L0<|aP P 14<|?_
 have ae:=aD ac ad
 refine L0<|Oc<|m1 (lB (aS.old phd ae) (aS.old qhd ae)) fun cS n=>Pl 1<|nt<|sq<|sg<|Pl 3<|cu 3 [146] 149 (((!(decide (A.words=B.words)))||(!(decide (A.bits=B.bits))))) (fun K bt=>?_) ?_
 refine bl 146 ((!(decide (A.words=B.words)))) (fun Q=>?_) (fun Q=>?_)
 have af:(decide (A.words=B.words))=false:=by simpa using Q
 have cT:=of_decide_eq_false af
 exact Pl 3<|ce bt true (by rw[Q];rfl)
 have af:(decide (A.words=B.words))=true:=by simpa using Q
 have cT:=of_decide_eq_true af
 exact Pl 3<|ce bt (!(decide (A.bits=B.bits))) (by rw[Q];rfl)
 refine Pl 1<|cu 3 [150] 153 ((((!(decide (A.words=B.words)))||(!(decide (A.bits=B.bits))))||(!(decide (A.data=B.data))))) (fun K bu=>?_) ?_
 refine bl 150 (((!(decide (A.words=B.words)))||(!(decide (A.bits=B.bits))))) (fun R=>?_) (fun R=>?_)
 exact Pl 3<|ce bu true (by rw[R];rfl)
 have cU:=(aK R).1
 have cV:=(aK R).2
 have cW:(decide (A.words=B.words))=true:=by simpa using cU
 have q74anp:=of_decide_eq_true cW
 have cX:(decide (A.bits=B.bits))=true:=by simpa using cV
 have q74bnp:=of_decide_eq_true cX
 exact Pl 3<|ce bu (!(decide (A.data=B.data))) (by rw[R];rfl)
 refine Pl 1<|cu 8 [154] 162 (((((!(decide (A.words=B.words)))||(!(decide (A.bits=B.bits))))||(!(decide (A.data=B.data))))||(((A.recs.length:Nat) : Int)!=((B.recs.length:Nat) : Int)))) (fun K bw=>?_) ?_
 refine bl 154 ((((!(decide (A.words=B.words)))||(!(decide (A.bits=B.bits))))||(!(decide (A.data=B.data))))) (fun S=>?_) (fun S=>?_)
 exact Pl 8<|ce bw true (by rw[S];rfl)
 have bz:=(aK S).1
 have cY:=(aK S).2
 have cZ:=(aK bz).1
 have d0:=(aK bz).2
 have q76aan:(decide (A.words=B.words))=true:=by simpa using cZ
 have q76aanp:=of_decide_eq_true q76aan
 have q76abn:(decide (A.bits=B.bits))=true:=by simpa using d0
 have q76abnp:=of_decide_eq_true q76abn
 have d1:(decide (A.data=B.data))=true:=by simpa using cY
 have q76bnp:=of_decide_eq_true d1
 refine Pl 1<|?_
 refine L1<|aP (ub n a2) 15<|Pl 2<|?_
 exact L1<|aP (ub n P) 15<|Pl 3<|ce bw (((A.recs.length:Nat) : Int)!=((B.recs.length:Nat) : Int)) (by rw[S];rfl)
 refine Pl 1<|cu 8 [163] 171 ((((((!(decide (A.words=B.words)))||(!(decide (A.bits=B.bits))))||(!(decide (A.data=B.data))))||(((A.recs.length:Nat) : Int)!=((B.recs.length:Nat) : Int)))||(((A.objects.length:Nat) : Int)!=((B.objects.length:Nat) : Int)))) (fun K bB=>?_) ?_
 refine bl 163 (((((!(decide (A.words=B.words)))||(!(decide (A.bits=B.bits))))||(!(decide (A.data=B.data))))||(((A.recs.length:Nat) : Int)!=((B.recs.length:Nat) : Int)))) (fun T=>?_) (fun T=>?_)
 exact Pl 8<|ce bB true (by rw[T];rfl)
 have bC:=(aK T).1
 have d2:=(aK T).2
 have bD:=(aK bC).1
 have d3:=(aK bC).2
 have q80aaa:=(aK bD).1
 have q80aab:=(aK bD).2
 have q80aaan:(decide (A.words=B.words))=true:=by simpa using q80aaa
 have q80aaanp:=of_decide_eq_true q80aaan
 have q80aabn:(decide (A.bits=B.bits))=true:=by simpa using q80aab
 have q80aabnp:=of_decide_eq_true q80aabn
 have q80abn:(decide (A.data=B.data))=true:=by simpa using d3
 have q80abnp:=of_decide_eq_true q80abn
 have e7:=ah d2
 refine Pl 1<|?_
 refine L1<|aP (ub n a2) 21<|Pl 2<|?_
 exact L1<|aP (ub n P) 21<|Pl 3<|ce bB (((A.objects.length:Nat) : Int)!=((B.objects.length:Nat) : Int)) (by rw[T];rfl)
 refine nt<|?_
 have bE:=aD ae n
 refine cb ((((((!(decide (A.words=B.words)))||(!(decide (A.bits=B.bits))))||(!(decide (A.data=B.data))))||(((A.recs.length:Nat) : Int)!=((B.recs.length:Nat) : Int)))||(((A.objects.length:Nat) : Int)!=((B.objects.length:Nat) : Int)))) (fun U=>?_) (fun U=>?_)
 refine sg<|Pl 1<|nt<|rt<|tr<|rr (.bool false)<|?_
 have hs:decide (A=B)=false:=mr (f:=fun x y=>(((((!(decide (x.words=y.words)))||(!(decide (x.bits=y.bits))))||(!(decide (x.data=y.data))))||(((x.recs.length:Nat) : Int)!=((y.recs.length:Nat) : Int)))||(((x.objects.length:Nat) : Int)!=((y.objects.length:Nat) : Int)))) U (fun M=>by simp)
 rw[hs]
 exact⟨rfl,bE⟩
 have bF:=(aK U).1
 have d4:=(aK U).2
 have bG:=(aK bF).1
 have d5:=(aK bF).2
 have q85aaa:=(aK bG).1
 have q85aab:=(aK bG).2
 have q85aaaa:=(aK q85aaa).1
 have q85aaab:=(aK q85aaa).2
 have q85aaaan:(decide (A.words=B.words))=true:=by simpa using q85aaaa
 have q85aaaanp:=of_decide_eq_true q85aaaan
 have q85aaabn:(decide (A.bits=B.bits))=true:=by simpa using q85aaab
 have q85aaabnp:=of_decide_eq_true q85aaabn
 have q85aabn:(decide (A.data=B.data))=true:=by simpa using q85aab
 have q85aabnp:=of_decide_eq_true q85aabn
 have q85abp:=ah d5
 have e8:=ah d4
 refine bK<|sq<|sg<|Pl 1<|nt<|bk<|?_
 refine ie (fun x=>[(2,.pointer (some ⟨i,0,none⟩)),(3,.pointer (some ⟨l,0,none⟩)),(8,.int .i64 ((x:Nat) : Int))]) (fun(x:Nat) w'=>ay [] cS w'∧(A.recs.take x=B.recs.take x)∧(x≤A.recs.length)) (fun x=>A.recs.length-x) 0 ⟨ay.refl _ _,(by(try dsimp only);simp),(by(try dsimp only);omega)⟩ ?_
 rintro j d6 ⟨a3,d7,d8⟩
 refine ik [(2,.pointer (some ⟨i,0,none⟩)),(3,.pointer (some ⟨l,0,none⟩)),(8,.int .i64 ((j:Nat) : Int))] ?_
 have bH:A.recs.take j=B.recs.take j:=d7
 have e9:j≤A.recs.length:=d8
 refine sq<|sg<|Pl 2<|?_
 have a4:=aD n a3
 have ag:=ub a4 a2
 refine L0<|aP ag 15<|Pl 2<|nt<|?_
 have a5:=aD bE a3
 refine cb ((decide (((j:Nat) : Int)<((A.recs.length:Nat) : Int)))) (fun ai=>?_) (fun ai=>?_)
 have d9:=of_decide_eq_true ai
 refine bK<|sq<|bk<|sg<|Pl 1<|L0<|aP ag 15<|Pl 1<|se (ns.elt phr j (by omega)) fun ea eb ec ed ee bI bJ da db dc ef dd=>L0<|jF 4 A.recs.length j da (by omega)<|?_
 refine L0<|wU [.int .u16 ((A.recs.getD j ⟨0,0,0,[]⟩).file),.int .u16 ((A.recs.getD j ⟨0,0,0,[]⟩).record),.int .u16 ((A.recs.getD j ⟨0,0,0,[]⟩).count),.slice bI ((A.recs.getD j ⟨0,0,0,[]⟩).words.length) bJ] (ub a5 db) dd<|L0<|bN #[.int .u16 0,.int .u16 0,.int .u16 0,.slice none 0 0] fun eg eh aj de ak=>L0<|bi de #[.int .u16 ((A.recs.getD j ⟨0,0,0,[]⟩).file),.int .u16 ((A.recs.getD j ⟨0,0,0,[]⟩).record),.int .u16 ((A.recs.getD j ⟨0,0,0,[]⟩).count),.slice bI ((A.recs.getD j ⟨0,0,0,[]⟩).words.length) bJ] fun ei df al=>ng<|Pl 1<|?_
 refine L0<|aP (ub (u1 (aD a4 ak) al (ni a4.size aj)) P) 15<|Pl 1<|se (ns.elt qhr j (by omega)) fun ej ek el em eo bL bM dg dh di ep dj=>L0<|jF 4 B.recs.length j dg (by omega)<|?_
 have am:=u1 (aD a5 ak) al (ni a5.size aj)
 refine L0<|wU [.int .u16 ((B.recs.getD j ⟨0,0,0,[]⟩).file),.int .u16 ((B.recs.getD j ⟨0,0,0,[]⟩).record),.int .u16 ((B.recs.getD j ⟨0,0,0,[]⟩).count),.slice bL ((B.recs.getD j ⟨0,0,0,[]⟩).words.length) bM] (ub am dh) dj<|L0<|bN #[.int .u16 0,.int .u16 0,.int .u16 0,.slice none 0 0] fun eq er an dk ao=>L0<|bi dk #[.int .u16 ((B.recs.getD j ⟨0,0,0,[]⟩).file),.int .u16 ((B.recs.getD j ⟨0,0,0,[]⟩).record),.int .u16 ((B.recs.getD j ⟨0,0,0,[]⟩).count),.slice bL ((B.recs.getD j ⟨0,0,0,[]⟩).words.length) bM] fun es a6 ap=>ng<|Pl 1<|?_
 have a7:=ub (u1 ao ap (nr an)) df
 refine L0<|aP a7 3<|Pl 1<|L0<|aP a6 3<|?_
 have aq:=u1 (aD am ao) ap (ni am.size an)
 refine L0<|Oc<|m1 (iY (dT.old dc aq) (dT.old di aq)) fun et h=>Pl 1<|ng<|Pl 3<|cu 6 [196] 202 (((!(decide ((A.recs.getD j ⟨0,0,0,[]⟩).words=(B.recs.getD j ⟨0,0,0,[]⟩).words)))||(((A.recs.getD j ⟨0,0,0,[]⟩).file)!=((B.recs.getD j ⟨0,0,0,[]⟩).file)))) (fun K bO=>?_) ?_
 refine bl 196 ((!(decide ((A.recs.getD j ⟨0,0,0,[]⟩).words=(B.recs.getD j ⟨0,0,0,[]⟩).words)))) (fun V=>?_) (fun V=>?_)
 have ar:(decide ((A.recs.getD j ⟨0,0,0,[]⟩).words=(B.recs.getD j ⟨0,0,0,[]⟩).words))=false:=by simpa using V
 have dl:=of_decide_eq_false ar
 exact Pl 6<|ce bO true (by rw[V];rfl)
 have ar:(decide ((A.recs.getD j ⟨0,0,0,[]⟩).words=(B.recs.getD j ⟨0,0,0,[]⟩).words))=true:=by simpa using V
 have dl:=of_decide_eq_true ar
 refine Pl 1<|?_
 refine L1<|aP (ub h a7) 0<|Pl 1<|?_
 exact L1<|aP (ub h a6) 0<|Pl 2<|ce bO (((A.recs.getD j ⟨0,0,0,[]⟩).file)!=((B.recs.getD j ⟨0,0,0,[]⟩).file)) (by rw[V];rfl)
 refine Pl 1<|cu 6 [203] 209 ((((!(decide ((A.recs.getD j ⟨0,0,0,[]⟩).words=(B.recs.getD j ⟨0,0,0,[]⟩).words)))||(((A.recs.getD j ⟨0,0,0,[]⟩).file)!=((B.recs.getD j ⟨0,0,0,[]⟩).file)))||(((A.recs.getD j ⟨0,0,0,[]⟩).record)!=((B.recs.getD j ⟨0,0,0,[]⟩).record)))) (fun K bP=>?_) ?_
 refine bl 203 (((!(decide ((A.recs.getD j ⟨0,0,0,[]⟩).words=(B.recs.getD j ⟨0,0,0,[]⟩).words)))||(((A.recs.getD j ⟨0,0,0,[]⟩).file)!=((B.recs.getD j ⟨0,0,0,[]⟩).file)))) (fun W=>?_) (fun W=>?_)
 exact Pl 6<|ce bP true (by rw[W];rfl)
 have dm:=(aK W).1
 have dn:=(aK W).2
 have dp:(decide ((A.recs.getD j ⟨0,0,0,[]⟩).words=(B.recs.getD j ⟨0,0,0,[]⟩).words))=true:=by simpa using dm
 have q156anp:=of_decide_eq_true dp
 have eu:=ah dn
 refine Pl 1<|?_
 refine L1<|aP (ub h a7) 1<|Pl 1<|?_
 exact L1<|aP (ub h a6) 1<|Pl 2<|ce bP (((A.recs.getD j ⟨0,0,0,[]⟩).record)!=((B.recs.getD j ⟨0,0,0,[]⟩).record)) (by rw[W];rfl)
 refine Pl 1<|cu 6 [210] 216 (((((!(decide ((A.recs.getD j ⟨0,0,0,[]⟩).words=(B.recs.getD j ⟨0,0,0,[]⟩).words)))||(((A.recs.getD j ⟨0,0,0,[]⟩).file)!=((B.recs.getD j ⟨0,0,0,[]⟩).file)))||(((A.recs.getD j ⟨0,0,0,[]⟩).record)!=((B.recs.getD j ⟨0,0,0,[]⟩).record)))||(((A.recs.getD j ⟨0,0,0,[]⟩).count)!=((B.recs.getD j ⟨0,0,0,[]⟩).count)))) (fun K bQ=>?_) ?_
 refine bl 210 ((((!(decide ((A.recs.getD j ⟨0,0,0,[]⟩).words=(B.recs.getD j ⟨0,0,0,[]⟩).words)))||(((A.recs.getD j ⟨0,0,0,[]⟩).file)!=((B.recs.getD j ⟨0,0,0,[]⟩).file)))||(((A.recs.getD j ⟨0,0,0,[]⟩).record)!=((B.recs.getD j ⟨0,0,0,[]⟩).record)))) (fun X=>?_) (fun X=>?_)
 exact Pl 6<|ce bQ true (by rw[X];rfl)
 have bR:=(aK X).1
 have dq:=(aK X).2
 have dr:=(aK bR).1
 have ds:=(aK bR).2
 have q160aan:(decide ((A.recs.getD j ⟨0,0,0,[]⟩).words=(B.recs.getD j ⟨0,0,0,[]⟩).words))=true:=by simpa using dr
 have q160aanp:=of_decide_eq_true q160aan
 have q160abp:=ah ds
 have ev:=ah dq
 refine Pl 1<|?_
 refine L1<|aP (ub h a7) 2<|Pl 1<|?_
 exact L1<|aP (ub h a6) 2<|Pl 2<|ce bQ (((A.recs.getD j ⟨0,0,0,[]⟩).count)!=((B.recs.getD j ⟨0,0,0,[]⟩).count)) (by rw[X];rfl)
 refine nt<|?_
 refine cb (((((!(decide ((A.recs.getD j ⟨0,0,0,[]⟩).words=(B.recs.getD j ⟨0,0,0,[]⟩).words)))||(((A.recs.getD j ⟨0,0,0,[]⟩).file)!=((B.recs.getD j ⟨0,0,0,[]⟩).file)))||(((A.recs.getD j ⟨0,0,0,[]⟩).record)!=((B.recs.getD j ⟨0,0,0,[]⟩).record)))||(((A.recs.getD j ⟨0,0,0,[]⟩).count)!=((B.recs.getD j ⟨0,0,0,[]⟩).count)))) (fun Y=>?_) (fun Y=>?_)
 refine sg<|Pl 1<|nt<|rt<|br<|tr<|tr<|br<|tr<|rr (.bool false)<|?_
 have hs:decide (A=B)=false:=mr (f:=fun x y=>((((!(decide ((x.recs.getD j ⟨0,0,0,[]⟩).words=(y.recs.getD j ⟨0,0,0,[]⟩).words)))||(((x.recs.getD j ⟨0,0,0,[]⟩).file)!=((y.recs.getD j ⟨0,0,0,[]⟩).file)))||(((x.recs.getD j ⟨0,0,0,[]⟩).record)!=((y.recs.getD j ⟨0,0,0,[]⟩).record)))||(((x.recs.getD j ⟨0,0,0,[]⟩).count)!=((y.recs.getD j ⟨0,0,0,[]⟩).count)))) Y (fun M=>by simp)
 rw[hs]
 exact⟨rfl,(aD aq h)⟩
 have bS:=(aK Y).1
 have dt:=(aK Y).2
 have bT:=(aK bS).1
 have du:=(aK bS).2
 have q165aaa:=(aK bT).1
 have q165aab:=(aK bT).2
 have q165aaan:(decide ((A.recs.getD j ⟨0,0,0,[]⟩).words=(B.recs.getD j ⟨0,0,0,[]⟩).words))=true:=by simpa using q165aaa
 have q165aaanp:=of_decide_eq_true q165aaan
 have q165aabp:=ah q165aab
 have q165abp:=ah du
 have ex:=ah dt
 refine sk<|bn<|tn<|go<|Pl 1<|L0<|Oi (((j:Nat) : Int)+1)<|Pl 1<|nl<|?_
 have bU:=u1 (aD a3 ak) al (ni a3.size aj)
 exact ew (j+1) ⟨(aD (u1 (aD bU ao) ap (ni bU.size an)) h),(rH (d:=⟨0,0,0,[]⟩) bH (by omega) (by omega) (zA Y)),(by(try dsimp only);omega)⟩ (by omega)
 have d9:=of_decide_eq_false ai
 refine xt<|tx<|tx<|bx<|tn<|sq<|sg<|Pl 1<|nt<|bk<|?_
 refine ie (fun x=>[(2,.pointer (some ⟨i,0,none⟩)),(3,.pointer (some ⟨l,0,none⟩)),(12,.int .i64 ((x:Nat) : Int))]) (fun(x:Nat) w'=>ay [] d6 w'∧(A.objects.take x=B.objects.take x)∧(x≤A.objects.length)) (fun x=>A.objects.length-x) 0 ⟨ay.refl _ _,(by(try dsimp only);simp),(by(try dsimp only);omega)⟩ ?_
 rintro k ey ⟨a8,dv,dw⟩
 refine ik [(2,.pointer (some ⟨i,0,none⟩)),(3,.pointer (some ⟨l,0,none⟩)),(12,.int .i64 ((k:Nat) : Int))] ?_
 have bV:A.objects.take k=B.objects.take k:=dv
 have ez:k≤A.objects.length:=dw
 refine sq<|sg<|Pl 2<|?_
 have bW:=ub a8 ag
 refine L0<|aP bW 21<|Pl 2<|nt<|?_
 have bX:=aD a5 a8
 refine cb ((decide (((k:Nat) : Int)<((A.objects.length:Nat) : Int)))) (fun au=>?_) (fun au=>?_)
 have dx:=of_decide_eq_true au
 refine bK<|sq<|bk<|sq<|se (nw.elt pho k (by omega)) fun bY bZ eA eB eC dy dz c0 dA dB eD av=>se (nw.elt qho k (by omega)) fun c2 c3 eE eF eG dC dD c4 dE dF eH aw=>Rg 14 (fun w'=>w'.cell? ⟨i,21,none⟩=some (.slice po A.objects.length pko)∧w'.cell? ⟨bY,bZ+k*2+1,none⟩=some (.slice dy ((A.objects.getD k ⟨0,[]⟩).value.length) dz)∧w'.cell? ⟨l,21,none⟩=some (.slice qo B.objects.length qko)∧w'.cell? ⟨c2,c3+k*2+1,none⟩=some (.slice dC ((B.objects.getD k ⟨0,[]⟩).value.length) dD)) fun eI a9=>?_
 have c5:=ub a9 bW
 have Z:=aD bX a9
 have c6:=ub Z dA
 have c7:=ub (aD (aD a4 a8) a9) P
 have c8:=ub Z dE
 refine aZ ⟨(aa c5 rfl),(eJ c6 av 1 rfl (by decide)),(aa c7 rfl),(eJ c8 aw 1 rfl (by decide))⟩ fun g=>Rt 0 g<|Rl 1 g (fun _ hs=>hs.1)<|Rt 2 g<|Ri 3 g 2 A.objects.length k ((k:Nat) : Int) rfl c0 (by omega)<|Rt 4 g<|Rl 5 g (fun _ hs=>hs.2.1)<|Rt 6 g<|Rl 7 g (fun _ hs=>hs.2.2.1)<|Rt 8 g<|Ri 9 g 2 B.objects.length k ((k:Nat) : Int) rfl c4 (by omega)<|Rt 10 g<|Rl 11 g (fun _ hs=>hs.2.2.2)<|?_
 refine R0 12 rfl<|Oc<|m1 (lB (aS.old dB Z) (aS.old dF Z)) fun eK o=>?_
 have c9:=ub o c5
 have ca:=ub o c6
 have cc:=ub o c7
 have cd:=ub o c8
 refine aZ ⟨(aa c9 rfl),(eJ ca av 1 rfl (by decide)),(aa cc rfl),(eJ cd aw 1 rfl (by decide))⟩ fun dG=>Rt 13 dG<|re<|tn<|sq<|Rg 17 (fun w'=>w'.cell? ⟨i,21,none⟩=some (.slice po A.objects.length pko)∧w'.cell? ⟨bY,bZ+k*2+0,none⟩=some (.int .u8 ((A.objects.getD k ⟨0,[]⟩).id))∧w'.cell? ⟨l,21,none⟩=some (.slice qo B.objects.length qko)∧w'.cell? ⟨c2,c3+k*2+0,none⟩=some (.int .u8 ((B.objects.getD k ⟨0,[]⟩).id))) fun eL p=>?_
 refine aZ ⟨(aa (ub p c9) rfl),(eJ (ub p ca) av 0 rfl (by decide)),(aa (ub p cc) rfl),(eJ (ub p cd) aw 0 rfl (by decide))⟩ fun a=>Rt 0 a<|Rt 1 a<|Rt 2 a<|?_
 have cf:=aD (aD Z o) p
 refine we 239 ((!(decide ((A.objects.getD k ⟨0,[]⟩).value=(B.objects.getD k ⟨0,[]⟩).value)))) (fun a0=>?_) (fun a0=>?_)
 have ax:(decide ((A.objects.getD k ⟨0,[]⟩).value=(B.objects.getD k ⟨0,[]⟩).value))=false:=by simpa using a0
 have dH:=of_decide_eq_false ax
 refine Ro 3 a<|Ro 4 a<|Ro 5 a<|Ro 6 a<|Ro 7 a<|Ro 8 a<|Ro 9 a<|Ro 10 a<|Ro 11 a<|Ro 12 a<|Ro 13 a<|Ro 14 a<|Ro 15 a<|Rt 16 a<|?_
 refine re<|tn<|c1<|sg<|Pl 1<|nt<|rt<|br<|tr<|tr<|br<|tr<|?_
 refine rr (.bool false)<|?_
 have hs:decide (A=B)=false:=mr (f:=fun x y=>(!(decide ((x.objects.getD k ⟨0,[]⟩).value=(y.objects.getD k ⟨0,[]⟩).value)))) a0 (fun M=>by simp)
 rw[hs]
 exact⟨rfl,cf⟩
 have ax:(decide ((A.objects.getD k ⟨0,[]⟩).value=(B.objects.getD k ⟨0,[]⟩).value))=true:=by simpa using a0
 have dH:=of_decide_eq_true ax
 refine Rt 3 a<|Rl 4 a (fun _ hs=>hs.1)<|Rt 5 a<|Ri 6 a 2 A.objects.length k ((k:Nat) : Int) rfl c0 (by omega)<|Rt 7 a<|Rl 8 a (fun _ hs=>hs.2.1)<|Rt 9 a<|Rl 10 a (fun _ hs=>hs.2.2.1)<|Rt 11 a<|Ri 12 a 2 B.objects.length k ((k:Nat) : Int) rfl c4 (by omega)<|Rt 13 a<|Rl 14 a (fun _ hs=>hs.2.2.2)<|Rt 15 a<|Rt 16 a<|?_
 refine re<|tn<|cb ((((A.objects.getD k ⟨0,[]⟩).id)!=((B.objects.getD k ⟨0,[]⟩).id))) (fun a1=>?_) (fun a1=>?_)
 have dI:=aB a1
 refine sg<|Pl 1<|nt<|rt<|br<|tr<|tr<|br<|tr<|rr (.bool false)<|?_
 have hs:decide (A=B)=false:=mr (f:=fun x y=>(((x.objects.getD k ⟨0,[]⟩).id)!=((y.objects.getD k ⟨0,[]⟩).id))) a1 (fun M=>by simp)
 rw[hs]
 exact⟨rfl,cf⟩
 have dI:=ah a1
 refine sk<|bn<|tn<|go<|Pl 1<|L0<|Oi (((k:Nat) : Int)+1)<|Pl 1<|nl<|?_
 exact ew (k+1) ⟨(aD (aD (aD a8 a9) o) p),(rH (d:=⟨0,[]⟩) bV (by omega) (by omega) (xZ a0 a1)),(by(try dsimp only);omega)⟩ (by omega)
 have dx:=of_decide_eq_false au
 refine xt<|tx<|tx<|bx<|tn<|sg<|Pl 1<|nt<|rt<|rr (.bool true)<|?_
 have hs:decide (A=B)=true:=decide_eq_true (xR H O U (fun e=>g9 bH (by omega) e) (fun e=>g9 bV (by omega) e))
 rw[hs]
 exact⟨rfl,bX⟩
open Go.RowKit
deriving instance DecidableEq for Ev
end Go.Proofs.YtpglhicfhppaiaaGreat
namespace Go.Proofs.YtpglhicfhppaiaaGreat
def fM (C:al) : Prop:=∀ x,x∈C.l→0≤x∧x<256
theorem eO{C:al}{ok:Bool}{x:Int}(hx:x≠0)(h:(C.need ok x).e=0) : C.e=0∧ok=true:=by
  unfold al.need at h
  split at h
  · exact absurd h hx
  · rename_i hh
    refine⟨h,?_⟩
    cases ok
    · exact absurd ⟨h,rfl⟩ hh
    · rfl
theorem fG{C:al}{n:Int}(h:(C.bytesC n).e=0) : C.e=0∧C.l=C.bytesR n++(C.bytesC n).l∧((C.bytesR n).length:Int)=n:=by
  unfold al.bytesC at h ⊢
  unfold al.bytesR
  split at h
  · exfalso
    unfold al.need at h
    split at h
    · cases h
    · rename_i hh
      exact hh ⟨h,rfl⟩
  · rename_i hf
    rw[if_neg hf,if_neg hf]
    refine⟨h,(List.take_append_drop _ _).symm,?_⟩
    unfold al.fails at hf
    simp only[Bool.or_eq_true,decide_eq_true_eq,not_or] at hf
    rw[List.length_take]
    omega
theorem kH:∀ (l:List Int),l.length%2=0→(∀ x,x∈l→0≤x∧x<256)→aG (ee l)=l
  | [],_,_=>rfl
  | [_],h,_=>by simp at h
  | a :: b :: r,h,hr=>by
    have ha:=hr a (by simp)
    have hb:=hr b (by simp)
    simp only[ee,aG]
    rw[kH r (by simp at h;omega) (fun x hx=>hr x (by simp[hx]))]
    congr 1
    · omega
    · congr 1
      omega
theorem iK{C:al}{n:Int}(hr:fM C)(h:(C.wordsC n).e=0) : C.e=0∧C.l=aG (C.wordsR n)++(C.wordsC n).l∧((C.wordsR n).length:Int)=n:=by
  unfold al.wordsC at h ⊢
  unfold al.wordsR
  split at h
  · obtain⟨_,_,h3⟩:=fG h
    omega
  · rename_i hb
    rw[if_neg hb,if_neg hb]
    obtain⟨h1,h2,h3⟩:=fG h
    have h4:(C.bytesR (2*n)).length%2=0:=by omega
    have h5:∀ x,x∈C.bytesR (2*n)→0≤x∧x<256:=fun x hx=>hr x (by rw[h2];exact List.mem_append_left _ hx)
    unfold dG
    rw[if_pos h4]
    refine⟨h1,by rw[kH _ h4 h5];exact h2,?_⟩
    rw[dZ]
    omega
def cA (C:al)(l:List Int)(C':al) : Prop:=fM C→fM C'∧(C'.e=0→C.e=0∧C.l=l++C'.l)
theorem cA.trans{A B C:al}{l m:List Int}(h:cA A l B)(k:cA B m C) : cA A (l++m) C:=fun hr=>by
  obtain⟨h1,h2⟩:=h hr
  obtain⟨k1,k2⟩:=k h1
  refine⟨k1,fun he=>?_⟩
  obtain⟨k3,k4⟩:=k2 he
  obtain⟨h3,h4⟩:=h2 k3
  exact⟨h3,by rw[h4,k4,List.append_assoc]⟩
theorem cA.refl(C:al) : cA C [] C:=fun hr=>⟨hr,fun he=>⟨he,rfl⟩⟩
theorem cA.need{A C:al}{l:List Int}{ok:Bool}{x:Int}(h:cA A l C)(hx:x≠0:=by decide) : cA A l (C.need ok x):=fun hr=>by
  obtain⟨h1,h2⟩:=h hr
  refine⟨fun y hy=>h1 y (by rwa [jm] at hy),fun he=>?_⟩
  rw[jm]
  exact h2 (eO hx he).1
theorem cA.bytes{A C:al}{l:List Int}(h:cA A l C)(n:Int) : cA A (l++C.bytesR n) (C.bytesC n):=h.trans fun hr=>⟨iy hr n,fun he=>⟨(fG he).1,(fG he).2.1⟩⟩
theorem cA.words{A C:al}{l:List Int}(h:cA A l C)(n:Int) : cA A (l++aG (C.wordsR n)) (C.wordsC n):=h.trans fun hr=>⟨d6 hr n,fun he=>⟨(iK hr he).1,(iK hr he).2.1⟩⟩
theorem uU{l:List Int}(h:(l.length:Int)=1) : l=[l.getD 0 0]:=by
  match l,h with
  | [a],_=>rfl
  | [],h=>simp at h
  | _ :: _ :: _,h=>simp at h;omega
theorem cA.byte{A C:al}{l:List Int}(h:cA A l C) : cA A (l++[C.byteV]) (C.bytesC 1):=h.trans fun hr=>⟨iy hr 1,fun he=>by
  obtain⟨h1,h2,h3⟩:=fG he
  refine⟨h1,?_⟩
  have:=uU h3
  show C.l=[(C.bytesR 1).getD 0 0]++_
  rw[← this]
  exact h2⟩
theorem cA.word{A C:al}{l:List Int}(h:cA A l C) : cA A (l++aG [C.wordV]) (C.wordsC 1):=h.trans fun hr=>⟨d6 hr 1,fun he=>by
  obtain⟨h1,h2,h3⟩:=iK hr he
  refine⟨h1,?_⟩
  have:=uU h3
  show C.l=aG [(C.wordsR 1).getD 0 0]++_
  rw[← this]
  exact h2⟩
theorem cA.fin{A C:al}{l:List Int}(h:cA A l C)(hr:fM A)(he:C.endC.e=0) : C.e=0∧A.l=l:=by
  unfold al.endC at he
  obtain⟨h1,h2⟩:=eO (by decide) he
  obtain⟨_,h3⟩:=(h hr).2 h1
  have:C.l=[]:=by
    simp only[beq_iff_eq] at h2
    exact List.eq_nil_of_length_eq_zero (by omega)
  exact⟨h1,by rw[h3,this,List.append_nil]⟩
theorem d7{C:al}(hr:fM C) : 0≤C.byteV∧C.byteV<256:=by
  unfold al.byteV
  rw[List.getD_eq_getElem?_getD]
  cases h:(C.bytesR 1)[0]? with
  | none=>simp
  | some x =>
    have hm:x∈C.bytesR 1:=List.mem_of_getElem? h
    have:x∈C.l:=by
      unfold al.bytesR at hm
      split at hm
      · cases hm
      · exact List.mem_of_mem_take hm
    exact hr x this
theorem kx(C:al)(most:Int) : cA C (aG [C.wordV,(C.wordsC 1).wordV]) (bX C most):=by
  have:=(((cA.refl C).word).word)
  exact(this.need).need
theorem wS:∀ n:Nat,n<256→(((if ((n:Int)/2 ^ 0%2==1) then 1 else 0)+(if ((n:Int)/2 ^ 1%2==1) then 2 else 0)+(if ((n:Int)/2 ^ 2%2==1) then 4 else 0)+(if ((n:Int)/2 ^ 3%2==1) then 8 else 0)+(if ((n:Int)/2 ^ 4%2==1) then 16 else 0)+(if ((n:Int)/2 ^ 5%2==1) then 32 else 0)+(if ((n:Int)/2 ^ 6%2==1) then 64 else 0)+(if ((n:Int)/2 ^ 7%2==1) then 128 else 0) : Nat) : Int)=n:=by decide +kernel
theorem ll{x:Int}(hx:0≤x∧x<256)(f:Nat→Bool)(hf:∀ i,i<8→f i=(x/2 ^ i%2==1)) :
    (((if f 0 then 1 else 0)+(if f 1 then 2 else 0)+(if f 2 then 4 else 0)+(if f 3 then 8 else 0)+(if f 4 then 16 else 0)+(if f 5 then 32 else 0)+(if f 6 then 64 else 0)+(if f 7 then 128 else 0) : Nat) : Int)=x:=by
  rw[hf 0 (by decide),hf 1 (by decide),hf 2 (by decide),hf 3 (by decide),hf 4 (by decide),hf 5 (by decide),hf 6 (by decide),hf 7 (by decide)]
  obtain⟨n,rfl⟩:=Int.eq_ofNat_of_zero_le hx.1
  exact wS n (by omega)
theorem p3{b:List Int}{n:Int}{l:List Bool}(hr:∀ x,x∈b→0≤x∧x<256)(h:cO b n=some l) : dy l=b:=by
  unfold cO at h
  split at h
  · rename_i hc
    split at h
    · rename_i hall
      injection h with h
      subst h
      have hlen:((List.range n.toNat).map (cG b)).length=n.toNat:=by simp
      have hm:((List.range n.toNat).map (cG b)).length=n:=by rw[hlen];omega
      unfold dy
      rw[hm,← hc.2]
      apply List.ext_getElem
      · simp
      intro j h1 h2
      simp only[List.getElem_map,List.getElem_range]
      have hj:j<b.length:=h2
      have hget:∀ i,i<8*b.length→((List.range n.toNat).map (cG b)).getD i false=cG b i:=fun i hi=>by
        rw[List.getD_eq_getElem?_getD,List.getElem?_map]
        by_cases hin:i<n.toNat
        · rw[List.getElem?_range hin];rfl
        · rw[List.getElem?_eq_none (by simpa using hin)]
          rw[List.all_eq_true] at hall
          have:=hall i (by simpa using hi)
          simp only[Bool.or_eq_true,decide_eq_true_eq,Bool.not_eq_true'] at this
          rcases this with h3|h3
          · omega
          · simp[h3]
      have hx:∀ k,k<8→cG b (8*j+k)=(b[j]/2 ^ k%2==1):=fun k hk=>by
        unfold cG
        rw[show(8*j+k)/8=j from by omega,show(8*j+k)%8=k from by omega,List.getD_eq_getElem?_getD,List.getElem?_eq_getElem hj]
        rfl
      unfold cS
      rw[show(8*j:Nat)=8*j+0 from rfl]
      simp only[hget _ (show 8*j+0<8*b.length by omega),hget _ (show 8*j+0+1<8*b.length by omega),hget _ (show 8*j+0+2<8*b.length by omega),hget _ (show 8*j+0+3<8*b.length by omega),hget _ (show 8*j+0+4<8*b.length by omega),hget _ (show 8*j+0+5<8*b.length by omega),hget _ (show 8*j+0+6<8*b.length by omega),hget _ (show 8*j+0+7<8*b.length by omega)]
      exact ll (hr _ (List.getElem_mem hj)) (fun k=>cG b (8*j+k)) hx
    · cases h
  · cases h
end Go.Proofs.YtpglhicfhppaiaaGreat
namespace Go.Proofs.YtpglhicfhppaiaaGreat
theorem bf{α β:Type}{p:α × β}{a:α}{b:β}(h:some p=some (a,b)) : p.1=a∧p.2=b:=by
  injection h with h
  rw[h]
  exact⟨rfl,rfl⟩
theorem rQ{C:al}{most c:Int}(hr:fM C)(he:(dk most c C).1.endC.e=0) : aG [C.wordV,(C.wordsC 1).wordV]=C.l:=((kx C most).fin hr he).2.symm
theorem wj{C:al}{c:Int}(hr:fM C)(he:(dS c C).1.endC.e=0) : [(((gL C).bytesR C.byteV).length:Int)%256]++(gL C).bytesR C.byteV=C.l:=by
  have hbv:=d7 hr
  have hE:cA C ([]++[C.byteV]++(gL C).bytesR C.byteV) ((gL C).bytesC C.byteV):=(((cA.refl C).byte).need).bytes _
  obtain⟨h1,h2⟩:=hE.fin hr he
  obtain⟨_,_,h3⟩:=fG h1
  rw[h2,h3,Int.emod_eq_of_lt hbv.1 hbv.2]
  rfl
theorem vV{C:al}{c:Int}(hr:fM C)(he:(dI c C).1.endC.e=0) : aG [C.wordV,(C.wordsC 1).wordV]=C.l:=by
  have hE:cA C ([]++aG [C.wordV]++aG [(C.wordsC 1).wordV]) (nT C):=(((cA.refl C).word).word).need
  rw[(hE.fin hr he).2]
  rfl
theorem yY{C:al}{c:Int}(hr:fM C)(he:(jG c C).1.endC.e=0) : (aG [C.wordV,(C.wordsC 1).wordV]++[((dy ((zy C).getD [])).length:Int)%256])++dy ((zy C).getD [])=C.l:=by
  have hE:cA C (aG [C.wordV,(C.wordsC 1).wordV]++[(bX C 1968).byteV]++(nL C).bytesR (wM C)) (AS C):=(((((kx C 1968).byte).need).bytes _).need)
  obtain⟨h1,h2⟩:=hE.fin hr he
  obtain⟨h3,h4⟩:=eO (by decide) h1
  obtain⟨_,_,h5⟩:=fG h3
  obtain⟨l,hl⟩:=Option.isSome_iff_exists.1 h4
  have hB:∀ x,x∈(nL C).bytesR (wM C)→0≤x∧x<256:=fun x hx=>hr x (by rw[h2];exact List.mem_append_right _ hx)
  have h6:dy l=(nL C).bytesR (wM C):=p3 hB hl
  have hk:0≤wM C∧wM C<256:=d7 ((kx C 1968) hr).1
  rw[hl]
  show(aG [C.wordV,(C.wordsC 1).wordV]++[((dy l).length:Int)%256])++dy l=C.l
  rw[h6,h2,h5,Int.emod_eq_of_lt hk.1 hk.2]
  rfl
theorem wl{dir c:Int}{C C':al}{M:aT}(hd:dir=0∨dir=1)(hr:fM C)(h:aN dir c C=some (C',M))(he:C'.endC.e=0) : bH dir M=C.l:=by
  unfold aN at h
  split at h
  · rename_i hc
    simp only[Bool.or_eq_true,beq_iff_eq] at hc
    rcases hd with rfl|rfl
    · have h:some (dk 2000 c C)=some (C',M):=h
      obtain⟨rfl,rfl⟩:=bf h
      rcases hc with rfl|rfl<;>exact rQ hr he
    · have h:some (dS c C)=some (C',M):=h
      obtain⟨rfl,rfl⟩:=bf h
      rcases hc with rfl|rfl<;>exact wj hr he
  split at h
  · rename_i hc
    obtain rfl:c=5:=by simpa using hc
    obtain⟨rfl,rfl⟩:=bf h
    exact vV hr he
  split at h
  · rename_i hc
    obtain rfl:c=15:=by simpa using hc
    rcases hd with rfl|rfl
    · have h:some (jG 15 C)=some (C',M):=h
      obtain⟨rfl,rfl⟩:=bf h
      exact yY hr he
    · have h:some (dk 1968 15 C)=some (C',M):=h
      obtain⟨rfl,rfl⟩:=bf h
      exact rQ hr he
  · cases h
theorem gV{A C:al}{l:List Int}(h:cA A l C)(a most:Int) : cA A (l++aG [C.wordV]) (bC C a most):=((h.word).need).need
theorem A7{n hi:Int}(h:ja n hi=true) : n%2=0∧2≤n∧n≤hi:=by
  unfold ja at h
  simp only[Bool.and_eq_true,decide_eq_true_eq,beq_iff_eq] at h
  exact⟨h.1.1,h.1.2,h.2⟩
theorem pa{c:Int}{C:al}(hr:fM C)(he:(dr c C).1.endC.e=0) : [(2*(((lb C).wordsR (C.byteV/2)).length:Int))%256]++aG ((lb C).wordsR (C.byteV/2))=C.l:=by
  have hbv:=d7 hr
  have hE0:cA C ([]++[C.byteV]) (lb C):=((cA.refl C).byte).need
  have hE:=hE0.words (C.byteV/2)
  obtain⟨h1,h2⟩:=hE.fin hr he
  obtain⟨h3,_,h5⟩:=iK (hE0 hr).1 h1
  obtain⟨h6,h7,h8⟩:=A7 (eO (by decide) h3).2
  rw[h2,h5,show(2*(C.byteV/2))%256=C.byteV from by omega]
  rfl
theorem pk{most c:Int}{C:al}(hr:fM C)(he:(cM most c C).1.endC.e=0) : aG [C.wordV,(C.wordsC 1).wordV]=C.l:=by
  rw[((gV (cA.refl C).word C.wordV most).fin hr he).2]
  rfl
theorem x5{c:Int}{C:al}(hr:fM C)(he:(fU c C).1.endC.e=0) : aG [C.wordV,(C.wordsC 1).wordV]=C.l:=by
  rw[(((cA.refl C).word).word.fin hr he).2]
  rfl
theorem ju{A C:al}{l:List Int}(h:cA A l C)(n:Int) : cA A (l++[C.byteV]) (cv C n):=(h.byte).need
theorem uP{c:Int}{C:al}(hr:fM C)(he:(eV c C).1.endC.e=0) : (aG [C.wordV,(C.wordsC 1).wordV]++[(2*(((iv C).wordsR (C.wordsC 1).wordV).length:Int))%256])++aG ((iv C).wordsR (C.wordsC 1).wordV)=C.l:=by
  have hE0:cA C _ (bC (C.wordsC 1) C.wordV 123):=gV (cA.refl C).word C.wordV 123
  have hE1:cA C _ (iv C):=ju hE0 (C.wordsC 1).wordV
  have hbv:=d7 (hE0 hr).1
  obtain⟨h1,h2⟩:=(hE1.words (C.wordsC 1).wordV).fin hr he
  obtain⟨h3,_,h5⟩:=iK (hE1 hr).1 h1
  have h6:=(eO (by decide) h3).2
  simp only[beq_iff_eq] at h6
  rw[h5,← h6,Int.emod_eq_of_lt hbv.1 hbv.2,h2]
  rfl
theorem w6{c:Int}{C:al}(hr:fM C)(he:(ey c C).1.endC.e=0) : aG [C.wordV,(C.wordsC 1).wordV,((C.wordsC 1).wordsC 1).wordV]=C.l:=by
  rw[(((cA.refl C).word).word.word.fin hr he).2]
  rfl
theorem uF{c:Int}{C:al}(hr:fM C)(he:(ff c C).1.endC.e=0) : (aG [C.wordV,(C.wordsC 1).wordV,(bC (C.wordsC 1) C.wordV 125).wordV,(((gR C).wordsR (fu C).wordV).length:Int)%65536]++[(2*(((gR C).wordsR (fu C).wordV).length:Int))%256])++aG ((gR C).wordsR (fu C).wordV)=C.l:=by
  have hE0:cA C _ (fu C):=(gV (cA.refl C).word C.wordV 125).word
  have hE1:cA C _ (rJ C):=gV hE0 (bC (C.wordsC 1) C.wordV 125).wordV 121
  have hE2:cA C _ (gR C):=ju hE1 (fu C).wordV
  have hbv:=d7 (hE1 hr).1
  have hwv:0≤(fu C).wordV∧(fu C).wordV<65536:=db (hE0 hr).1
  obtain⟨h1,h2⟩:=(hE2.words (fu C).wordV).fin hr he
  obtain⟨h3,_,h5⟩:=iK (hE2 hr).1 h1
  have h6:=(eO (by decide) h3).2
  simp only[beq_iff_eq] at h6
  rw[h5,Int.emod_eq_of_lt hwv.1 hwv.2,← h6,Int.emod_eq_of_lt hbv.1 hbv.2,h2]
  rfl
theorem vu{c:Int}{C:al}(hr:fM C)(he:(fa c C).1.endC.e=0) : aG [C.wordV]=C.l:=by
  rw[((cA.refl C).word.fin hr he).2]
  rfl
theorem zX{c:Int}{C:al}(hr:fM C)(he:(vx c C).1.endC.e=0) : aG [(2+2*(((yt C).wordsR (sL C).wordV).length:Int))%65536,(((yt C).wordsR (sL C).wordV).length:Int)%65536]++aG ((yt C).wordsR (sL C).wordV)=C.l:=by
  have hE0:cA C _ (sL C):=((cA.refl C).word).need
  have hE1:cA C _ (yt C):=(hE0.word).need
  have hwc:0≤C.wordV∧C.wordV<65536:=db hr
  have hwv:0≤(sL C).wordV∧(sL C).wordV<65536:=db (hE0 hr).1
  obtain⟨h1,h2⟩:=(hE1.words (sL C).wordV).fin hr he
  obtain⟨h3,_,h5⟩:=iK (hE1 hr).1 h1
  have h6:=(eO (by decide) h3).2
  simp only[beq_iff_eq] at h6
  rw[h5,h6,Int.emod_eq_of_lt hwv.1 hwv.2,Int.emod_eq_of_lt hwc.1 hwc.2,h2]
  rfl
theorem yj{dir c:Int}{C C':al}{M:aT}(hd:dir=0∨dir=1)(hr:fM C)(h:bG dir c C=some (C',M))(he:C'.endC.e=0) : bz dir M=C.l:=by
  unfold bG at h
  split at h
  · rename_i hc
    simp only[Bool.or_eq_true,beq_iff_eq] at hc
    rcases hd with rfl|rfl
    · have h:some (cM 125 c C)=some (C',M):=h
      obtain⟨rfl,rfl⟩:=bf h
      rcases hc with rfl|rfl<;>exact pk hr he
    · have h:some (dr c C)=some (C',M):=h
      obtain⟨rfl,rfl⟩:=bf h
      rcases hc with rfl|rfl<;>exact pa hr he
  split at h
  · rename_i hc
    obtain rfl:c=6:=by simpa using hc
    obtain⟨rfl,rfl⟩:=bf h
    rcases hd with rfl|rfl<;>exact x5 hr he
  split at h
  · rename_i hc
    obtain rfl:c=16:=by simpa using hc
    rcases hd with rfl|rfl
    · have h:some (eV 16 C)=some (C',M):=h
      obtain⟨rfl,rfl⟩:=bf h
      exact uP hr he
    · have h:some (cM 123 16 C)=some (C',M):=h
      obtain⟨rfl,rfl⟩:=bf h
      exact pk hr he
  split at h
  · rename_i hc
    obtain rfl:c=22:=by simpa using hc
    obtain⟨rfl,rfl⟩:=bf h
    rcases hd with rfl|rfl<;>exact w6 hr he
  split at h
  · rename_i hc
    obtain rfl:c=23:=by simpa using hc
    rcases hd with rfl|rfl
    · have h:some (ff 23 C)=some (C',M):=h
      obtain⟨rfl,rfl⟩:=bf h
      exact uF hr he
    · have h:some (dr 23 C)=some (C',M):=h
      obtain⟨rfl,rfl⟩:=bf h
      exact pa hr he
  split at h
  · rename_i hc
    obtain rfl:c=24:=by simpa using hc
    rcases hd with rfl|rfl
    · have h:some (fa 24 C)=some (C',M):=h
      obtain⟨rfl,rfl⟩:=bf h
      exact vu hr he
    · have h:some (vx 24 C)=some (C',M):=h
      obtain⟨rfl,rfl⟩:=bf h
      exact zX hr he
  · cases h
end Go.Proofs.YtpglhicfhppaiaaGreat
namespace Go.Proofs.YtpglhicfhppaiaaGreat
theorem cA.conv{A C:al}{l l':List Int}(h:cA A l C)(k:fM A→fM C→C.e=0→l=l') : cA A l' C:=fun hr=>by
  obtain⟨h1,h2⟩:=h hr
  refine⟨h1,fun he=>?_⟩
  rw[← k hr h1 he]
  exact h2 he
theorem xE{dir c:Int}{C:al}(hr:fM C)(he:(dx dir c C).1.endC.e=0) : aG [(dx dir c C).2.sub]++aG (dx dir c C).2.words=C.l:=by
  have hE0:cA C ([]++aG [C.wordV]) (fV dir C):=((cA.refl C).word).need
  unfold dx at he ⊢
  split at he
  · rename_i hw
    rw[if_pos hw]
    exact(((hE0.words 1).need).fin hr he).2.symm
  · rename_i hw
    rw[if_neg hw]
    exact(((hE0.need).words _).fin hr he).2.symm
theorem oC(C:al)(lo hi:Int) : cA C ([]++[C.byteV]) (fk C lo hi):=((cA.refl C).byte).need
theorem oV{A C:al}{l:List Int}(h:cA A l C) : cA A (l++aG [C.wordV]) (d8 C):=(h.word).need
theorem yG{c:Int}{C:al}(hc:c=7∨c=11∨c=12∨c=17)(hr:fM C)(he:(bD c C).1.endC.e=0) : bE 1 (bD c C).2=C.l:=by
  have hbv:=d7 hr
  rcases hc with rfl|rfl|rfl|rfl
  · have he:(C.bytesC 1).endC.e=0:=he
    show[C.byteV%256]=C.l
    rw[Int.emod_eq_of_lt hbv.1 hbv.2,((cA.refl C).byte.fin hr he).2]
    rfl
  · have he:((d8 C).wordsC 1).endC.e=0:=he
    show aG [C.wordV,(d8 C).wordV]=C.l
    rw[((oV (cA.refl C)).word.fin hr he).2]
    rfl
  · have he:((gl C).bytesC (C.byteV-6)).endC.e=0:=he
    have hE:=(((oV (oC C 6 70)).word).word).bytes (C.byteV-6)
    obtain⟨h1,h2⟩:=hE.fin hr he
    obtain⟨_,_,h3⟩:=fG h1
    show([(6+(((gl C).bytesR (C.byteV-6)).length:Int))%256]++aG [(fk C 6 70).wordV,(d8 (fk C 6 70)).wordV,((d8 (fk C 6 70)).wordsC 1).wordV])++(gl C).bytesR (C.byteV-6)=C.l
    have h4:(((gl C).bytesR (C.byteV-6)).length:Int)=C.byteV-6:=h3
    rw[h4,show(6+(C.byteV-6))%256=C.byteV from by omega,h2]
    rfl
  · have he:((fk C 1 251).bytesC C.byteV).endC.e=0:=he
    have hE:=(oC C 1 251).bytes C.byteV
    obtain⟨h1,h2⟩:=hE.fin hr he
    obtain⟨_,_,h3⟩:=fG h1
    show[(((fk C 1 251).bytesR C.byteV).length:Int)%256]++(fk C 1 251).bytesR C.byteV=C.l
    rw[h3,Int.emod_eq_of_lt hbv.1 hbv.2,h2]
    rfl
theorem zf{c:Int}{C:al}(hc:c=7∨c=11∨c=12∨c=17)(hr:fM C)(he:C.endC.e=0) : bE 0 { aT.zero with code:=c }=C.l:=by
  have h:=((cA.refl C).fin hr he).2
  rcases hc with rfl|rfl|rfl|rfl<;>exact h.symm
theorem xz{dir c:Int}{C C':al}{M:aT}(hd:dir=0∨dir=1)(hr:fM C)(h:aQ dir c C=some (C',M))(he:C'.endC.e=0) : bE dir M=C.l:=by
  unfold aQ at h
  split at h
  · rename_i hc
    obtain rfl:c=8:=by simpa using hc
    obtain⟨rfl,rfl⟩:=bf h
    have hco:(dx dir 8 C).2.code=8:=by unfold dx;split<;>rfl
    unfold bE
    rw[hco,if_pos (by rfl)]
    exact xE hr he
  split at h
  · rename_i hc
    simp only[Bool.or_eq_true,beq_iff_eq] at hc
    have hc:c=7∨c=11∨c=12∨c=17:=by omega
    rcases hd with rfl|rfl
    · have h:some (C,({ aT.zero with code:=c }:aT))=some (C',M):=h
      obtain⟨rfl,rfl⟩:=bf h
      exact zf hc hr he
    · have h:some (bD c C)=some (C',M):=h
      obtain⟨rfl,rfl⟩:=bf h
      exact yG hc hr he
  · cases h
theorem oO:∀ (n:Nat)(C:al)(L:List Obj),∃ L',(fw n C L).2=L++L'∧L'.length=n∧cA C (eN L') (fw n C L).1
  | 0,C,L=>⟨[],by simp[fw],rfl,cA.refl C⟩
  | n+1,C,L=>by
    obtain⟨L',h1,h2,h3⟩:=oO n (((C.bytesC 1).bytesC 1).bytesC (C.bytesC 1).byteV) (L++[⟨C.byteV,((C.bytesC 1).bytesC 1).bytesR (C.bytesC 1).byteV⟩])
    refine⟨⟨C.byteV,((C.bytesC 1).bytesC 1).bytesR (C.bytesC 1).byteV⟩ :: L',?_,by simp[h2],?_⟩
    · show(fw n _ _).2=_
      rw[h1]
      simp
    · have hE0:cA C _ ((C.bytesC 1).bytesC 1):=(cA.refl C).byte.byte
      have hE1:cA C (([C.byteV,((((C.bytesC 1).bytesC 1).bytesR (C.bytesC 1).byteV).length:Int)%256])++((C.bytesC 1).bytesC 1).bytesR (C.bytesC 1).byteV) (((C.bytesC 1).bytesC 1).bytesC (C.bytesC 1).byteV):=(hE0.bytes _).conv fun hr _ he=>by
        have hb:=d7 ((cA.refl C).byte hr).1
        rw[(fG he).2.2,Int.emod_eq_of_lt hb.1 hb.2]
        rfl
      exact hE1.trans h3
theorem vp{c:Int}{C:al}(hr:fM C)(he:(cP (dJ C).byteV (du C)).1.endC.e=0) : [C.byteV,(dJ C).byteV,(du C).byteV,(jV (du C)).byteV,(mN (du C)).byteV,((cP (dJ C).byteV (du C)).2.length:Int)%256]++eN (cP (dJ C).byteV (du C)).2=C.l:=by
  have hE0:cA C _ (dJ C):=(cA.refl C).byte.need
  have hE1:cA C _ (du C):=hE0.byte.need
  have hE2:cA C _ (jV (du C)):=hE1.byte.need
  have hE3:cA C _ (mN (du C)):=hE2.byte.need
  have hE4:cA C _ (oh (du C)):=hE3.byte.need
  have hE5:cA C _ (x8 (dJ C).byteV (du C)):=hE4.byte.need
  obtain⟨L',h1,h2,h3⟩:=oO (oh (du C)).byteV.toNat (x8 (dJ C).byteV (du C)) []
  have hb:=d7 (hE4 hr).1
  have h4:(cP (dJ C).byteV (du C)).2=L':=by unfold cP;rw[h1];rfl
  obtain⟨_,h5⟩:=(hE5.trans h3).fin hr he
  rw[h4,h2,show(((oh (du C)).byteV.toNat:Nat) : Int)%256=(oh (du C)).byteV from by omega,h5]
  rfl
theorem vk{dir c:Int}{C C':al}{M:aT}(hd:dir=0∨dir=1)(hr:fM C)(h:bu dir c C=some (C',M))(he:C'.endC.e=0) : cw dir M=C.l:=by
  have hE0:cA C _ (dJ C):=(cA.refl C).byte.need
  unfold bu at h
  split at h
  · cases h
  split at h
  · rename_i hm
    obtain⟨rfl,rfl⟩:=bf h
    have hE1:=(hE0.need (ok:=decide (((dJ C).l.length:Int)≤251)) (x:=5)).bytes ((gv C).l.length:Int)
    obtain⟨_,h5⟩:=hE1.fin hr he
    unfold cw
    rw[if_pos (show(C.byteV==13)=true from hm),h5]
    rfl
  rename_i hm
  split at h
  · rename_i hc
    obtain rfl:dir=1:=by simpa using hc
    obtain⟨rfl,rfl⟩:=bf h
    unfold cw
    rw[if_neg (show ¬ (C.byteV==13)=true from hm),if_neg (by decide)]
    exact vp (c:=c) hr he
  · rename_i hc
    obtain rfl:dir=0:=by
      rcases hd with rfl|rfl
      · rfl
      · exact absurd rfl hc
    obtain⟨rfl,rfl⟩:=bf h
    have hE1:cA C _ (du C):=hE0.byte.need
    obtain⟨_,h5⟩:=hE1.byte.fin hr he
    unfold cw
    rw[if_neg (show ¬ (C.byteV==13)=true from hm),if_pos (by rfl),h5]
    rfl
theorem nP{one:Int→al→Int × al × dY}{dir code:Int}(hl:∀ s C,0<C.l.length→(one s C).2.1.l.length<C.l.length)(hE:∀ s C,cA C (eA dir code (one s C).2.2) (one s C).2.1) :
    ∀ (n:Nat) (s:Int) (C:al) (L:List dY),C.l.length≤n→fM C→(bh one n s C L).1.e=0→∃ L',(bh one n s C L).2=L++L'∧C.l=bL dir code L'
  | 0,s,C,L,h,_,_=>⟨[],by simp[bh],by simpa [bL] using h⟩
  | n+1,s,C,L,h,hr,he=>by
    unfold bh at he ⊢
    split at he
    · rename_i hc
      rw[if_pos hc]
      simp only[Bool.and_eq_true,decide_eq_true_eq,beq_iff_eq] at hc
      have h1:=hl s C (by omega)
      obtain⟨h2,h3⟩:=hE s C hr
      split at he
      · rename_i hn
        rw[he] at hn
        cases hn
      · rename_i hn
        rw[if_neg hn]
        have h4:(one s C).2.1.e=0:=by simpa using hn
        obtain⟨L',h5,h6⟩:=nP hl hE n (one s C).1 (one s C).2.1 (L++[(one s C).2.2]) (by omega) h2 he
        refine⟨(one s C).2.2 :: L',by rw[h5];simp,?_⟩
        rw[(h3 h4).2,h6]
        rfl
    · rename_i hc
      rw[if_neg hc]
      have he:C.e=0:=he
      refine⟨[],by simp,?_⟩
      have:C.l=[]:=by
        apply List.eq_nil_of_length_eq_zero
        simp only[he,Bool.and_eq_true,decide_eq_true_eq,beq_self_eq_true,and_true] at hc
        omega
      rw[this]
      rfl
theorem xC(C:al) : cA C [6] (ru C):=((cA.refl C).byte.need).conv fun hr _ he=>by
  have h:=(eO (by decide) he).2
  simp only[beq_iff_eq] at h
  rw[h]
  rfl
theorem o5(C:al) : cA C ([6]++aG [(bq C).file,(bq C).record,(bq C).count]) (fJ C):=by
  have hE1:cA C _ (nq C):=(xC C).word.need
  have hE2:cA C _ (pm C):=hE1.word.need
  have hE3:cA C _ (fJ C):=hE2.word.need
  exact hE3
theorem rV(s:Int)(C:al) : cA C (eA 0 20 (eb s C).2.2) (eb s C).2.1:=by
  have h:cA C _ (eZ s C):=(o5 C).need
  exact h.conv fun _ _ _=>rfl
theorem s3(dir s:Int)(C:al) : cA C (eA dir 21 (ez s C).2.2) (ez s C).2.1:=by
  have h:cA C _ (qZ C):=(o5 C).need
  exact(h.words (pm C).wordV).conv fun _ _ _=>rfl
theorem rE(s:Int)(C:al) : cA C (eA 1 20 (cL s C).2.2) (cL s C).2.1:=by
  have hE1:cA C _ (jz C):=(cA.refl C).byte.need
  have hE2:cA C _ (fy C):=hE1.byte.need
  refine(hE2.words (Int.tdiv (C.byteV-1) 2)).conv fun hr _ he=>?_
  obtain⟨h1,_,h2⟩:=iK (hE2 hr).1 he
  obtain⟨h3,h4⟩:=eO (by decide) h1
  obtain⟨h5,h6⟩:=eO (by decide) (fG h3).1
  have hb:=d7 hr
  simp only[Bool.and_eq_true,decide_eq_true_eq,beq_iff_eq] at h4 h6
  have h7:(1+2*(((fy C).wordsR (Int.tdiv (C.byteV-1) 2)).length:Int))%256=C.byteV:=by
    rw[h2,Int.tdiv_eq_ediv_of_nonneg (by omega)]
    omega
  show _=[(1+2*(((fy C).wordsR (Int.tdiv (C.byteV-1) 2)).length:Int))%256,6]++aG ((fy C).wordsR (Int.tdiv (C.byteV-1) 2))
  rw[h7,h4]
  rfl
theorem gU{one:Int→al→Int × al × dY}{dir code:Int}(hl:∀ s C,0<C.l.length→(one s C).2.1.l.length<C.l.length)(hE:∀ s C,cA C (eA dir code (one s C).2.2) (one s C).2.1){may:Int→Bool}{c:Int}{C:al}(hr:fM C)
    (he:(dh one may c C).1.endC.e=0) : [((bL dir code (kk one may C).2).length:Int)%256]++bL dir code (kk one may C).2=C.l:=by
  have hE0:cA C _ (ox may C):=(cA.refl C).byte.need
  have hE1:=hE0.bytes C.byteV
  have hb:=d7 hr
  unfold al.endC at he
  obtain⟨h0,a⟩:=eO (by decide) he
  unfold dh at h0 a
  have hw:da (kk one may C).1.e≠0∨(kk one may C).1.e=0:=by
    by_cases hz:(kk one may C).1.e=0
    · exact Or.inr hz
    · left
      unfold da
      split
      · decide
      · exact hz
  have h1:((ox may C).bytesC C.byteV).e=0∧(kk one may C).1.e=0:=by
    rcases hw with hw|hw
    · obtain⟨h2,h3⟩:=eO hw h0
      exact⟨h2,by simpa using h3⟩
    · rw[hw] at h0
      refine⟨?_,hw⟩
      unfold al.need at h0
      rw[if_neg (by rintro⟨_,hx⟩;cases hx)] at h0
      exact h0
  obtain⟨h2,h3,h4⟩:=fG h1.1
  have h5:((ox may C).bytesC C.byteV).l=[]:=by
    rw[jm] at a
    simp only[beq_iff_eq] at a
    exact List.eq_nil_of_length_eq_zero (by omega)
  have h6:C.l=[C.byteV]++(ox may C).bytesR C.byteV:=by
    rw[((hE1 hr).2 h1.1).2,h5]
    simp
  have hB:fM (rA may C):=fun x hx=>hr x (by rw[h6];exact List.mem_append_right _ hx)
  obtain⟨L',h7,h8⟩:=nP hl hE (rA may C).l.length 0 (rA may C) [] (Nat.le_refl _) hB h1.2
  have h9:(kk one may C).2=L':=by unfold kk;rw[h7];rfl
  have b:bL dir code L'=(ox may C).bytesR C.byteV:=h8.symm
  rw[h9,b,h4,Int.emod_eq_of_lt hb.1 hb.2,h6]
theorem oA(dir:Int)(M:aT) : cc dir M=[((bL dir M.code M.recs).length:Int)%256]++bL dir M.code M.recs:=by
  unfold cc
  simp
theorem vM{dir c:Int}{C C':al}{M:aT}(hd:dir=0∨dir=1)(hr:fM C)(h:b6 dir c C=some (C',M))(he:C'.endC.e=0) : cc dir M=C.l:=by
  rw[oA]
  unfold b6 at h
  split at h
  · rename_i hc
    obtain rfl:c=20:=by simpa using hc
    rcases hd with rfl|rfl
    · have h:some (dh eb gz 20 C)=some (C',M):=h
      obtain⟨rfl,rfl⟩:=bf h
      exact gU mO rV hr he
    · have h:some (dh cL gB 20 C)=some (C',M):=h
      obtain⟨rfl,rfl⟩:=bf h
      exact gU km rE hr he
  split at h
  · rename_i hc
    obtain rfl:c=21:=by simpa using hc
    obtain⟨rfl,rfl⟩:=bf h
    exact gU mK (s3 dir) hr he
  · cases h
theorem eY{form:Int→Int→al→Option (al × aT)}{lay:Int→aT→List Int}(hf:∀ {dir c:Int}{C C':al}{M:aT},(dir=0∨dir=1)→fM C→form dir c C=some (C',M)→C'.endC.e=0→lay dir M=C.l)
    {dir c:Int} {b:List Int} {M:aT} (hd:dir=0∨dir=1) (hr:∀ x,x∈b→0≤x∧x<256) (h:aq form dir c b=(M,0)) : lay dir M=b:=by
  unfold aq at h
  rw[if_pos hd] at h
  split at h
  · cases h
  · rename_i r hr'
    unfold b7 at h
    split at h
    · rename_i he
      injection h with h
      obtain⟨C',M'⟩:=r
      have h:M'=M:=h
      subst h
      exact hf (C:=⟨b,false,0⟩) hd hr hr' he
    · rename_i he
      injection h with _ h
      exact absurd h he
theorem eU{parse:Int→Int→List Int→aT × Int}{lay:Int→aT→List Int}{dir:Int}{M:aT}{l:List Int}(h1:lay dir M=l)(h2:parse dir M.code l=(M,0)) : bW parse lay dir M=some l:=by
  unfold bW
  rw[h1,if_pos h2]
theorem y4{k:Nat}{dir:Int}{b:List Int}{M:aT}(hd:dir=0∨dir=1)(hr:∀ x,x∈b→0≤x∧x<256)(h:gy k dir b=(M,0))(hc:M.code=b.getD 0 0) : fB k dir M=some (b.drop 1):=by
  have hr':∀ x,x∈b.drop 1→0≤x∧x<256:=fun x hx=>hr x (List.mem_of_mem_drop hx)
  unfold gy at h
  split at h
  · exact eU (eY wl hd hr' h) (by rw[hc];exact h)
  · exact eU (eY yj hd hr' h) (by rw[hc];exact h)
  · exact eU (eY xz hd hr' h) (by rw[hc];exact h)
  · exact eU (eY vM hd hr' h) (by rw[hc];exact h)
  · exact eU (eY vk hd hr' h) (by rw[hc];exact h)
  · cases h
theorem vZ{x:Int}(h:di x=true) : (x != 0)=true:=by
  unfold di at h
  simp only[decide_eq_true_eq,List.mem_cons,List.not_mem_nil,or_false] at h
  simp only[bne_iff_ne]
  omega
theorem uf{x:Int}(h:dE x=true) : 0<x∧x<128:=by
  unfold dE at h
  simp only[decide_eq_true_eq,List.mem_cons,List.not_mem_nil,or_false] at h
  omega
theorem kD{dir:Int}{b:List Int}{M:aT}(hd:dir=0∨dir=1)(hr:∀ x,x∈b→0≤x∧x<256)(h:cy dir b=(M,0)) : ci dir M=some b:=by
  unfold cy at h
  split at h
  · cases h
  split at h
  · cases h
  split at h
  · cases h
  rename_i h1 h2 h3
  simp only[beq_iff_eq] at h2
  simp only[decide_eq_true_eq] at h3
  obtain⟨x,t,rfl⟩ : ∃ x t,b=x :: t:=by
    cases b with
    | nil=>exact absurd rfl h2
    | cons x t=>exact⟨x,t,rfl⟩
  have hx:=hr x (by simp)
  split at h
  · rename_i hq
    simp only[Bool.and_eq_true,decide_eq_true_eq,beq_iff_eq] at hq
    obtain⟨rfl,k1,k2,k3,k4⟩:=xY h
    have k5:=uf k2
    unfold ci
    rw[if_pos (show((gC _ ((x :: t).getD 1 0)).fail != 0)=true from vZ k3)]
    rw[if_neg (by rw[hq.2];decide)]
    unfold j3
    have k6:eG (gC (((x :: t).getD 0 0-128)%256) ((x :: t).getD 1 0)).code (gC (((x :: t).getD 0 0-128)%256) ((x :: t).getD 1 0)).fail=true:=by
      show eG (((x :: t).getD 0 0-128)%256) ((x :: t).getD 1 0)=true
      unfold eG
      rw[k2,k3]
      have:(((x :: t).getD 0 0-128)%256 != 0)=true:=by simp only[bne_iff_ne];omega
      rw[this]
      rfl
    rw[k6]
    have k7:decide (gC (((x :: t).getD 0 0-128)%256) ((x :: t).getD 1 0)=gC (gC (((x :: t).getD 0 0-128)%256) ((x :: t).getD 1 0)).code (gC (((x :: t).getD 0 0-128)%256) ((x :: t).getD 1 0)).fail)=true:=decide_eq_true rfl
    rw[k7]
    show some [(((x-128)%256)+128)%256,(x :: t).getD 1 0]=some (x :: t)
    match t,k4 with
    | [y],_ =>
      rw[show(((x-128)%256)+128)%256=x from by omega]
      rfl
  · obtain⟨_,k1⟩:=ul hd h
    obtain⟨k2,k3⟩:=k1 rfl
    have k4:=y4 hd hr h k2
    unfold ci
    rw[if_neg (by rw[k3];decide),k2,k4]
    show(if decide (253≤(t.length:Int))=true then none else some ([x]++t))=some (x :: t)
    rw[if_neg (by simp only[decide_eq_true_eq];simp only[List.length_cons] at h3;omega)]
    rfl
end Go.Proofs.YtpglhicfhppaiaaGreat
namespace Go.Proofs.YtpglhicfhppaiaaGreat
theorem jX(C:al)(n:Int) : (C.bytesR n).length≤C.l.length:=by
  unfold al.bytesR
  split
  · simp
  · rw[List.length_take];omega
theorem tk(C:al)(n:Int) : (C.wordsR n).length≤C.l.length:=by
  have h:=jX C (2*n)
  unfold al.wordsR
  split
  · simp
  · unfold dG
    split
    · rw[dZ];omega
    · simp
def Sh (C C':al) : Prop:=C'.l.length≤C.l.length
theorem Sh.refl(C:al) : Sh C C:=Nat.le_refl _
theorem Sh.bytes{A C:al}(h:Sh A C){n:Int}:Sh A (C.bytesC n):=Nat.le_trans (ij C n) h
theorem Sh.words{A C:al}(h:Sh A C){n:Int}:Sh A (C.wordsC n):=Nat.le_trans (eC C n) h
theorem Sh.need{A C:al}(h:Sh A C){b:Bool}{e:Int}:Sh A (C.need b e):=by unfold Sh;rw[ef];exact h
theorem Sh.bR{A C:al}(h:Sh A C)(n:Int){k:Nat}(hk:A.l.length≤k) : (C.bytesR n).length≤k:=Nat.le_trans (jX C n) (Nat.le_trans h hk)
theorem Sh.wR{A C:al}(h:Sh A C)(n:Int){k:Nat}(hk:A.l.length≤k) : (C.wordsR n).length≤k:=Nat.le_trans (tk C n) (Nat.le_trans h hk)
theorem eo{M:aT}(h1:M.words.length≤252)(h2:M.bits.length≤2016)(h3:M.data.length≤252)(h4:M.recs=[])(h5:M.objects=[]) : aW M :=
  ⟨by omega,by omega,by omega,by rw[h4];decide,(by rw[h4];exact fun r h=>nomatch h),by rw[h5];decide,(by rw[h5];exact fun r h=>nomatch h)⟩
theorem dn(M:aT)(h1:M.words=[])(h2:M.bits=[])(h3:M.data=[])(h4:M.recs=[])(h5:M.objects=[]) : aW M:=eo (by rw[h1];decide) (by rw[h2];decide) (by rw[h3];decide) h4 h5
theorem x3(C:al)(m:Int) : Sh C (bX C m):=((Sh.refl C).words.words.need).need
theorem jY{A C:al}(h:Sh A C)(a m:Int) : Sh A (bC C a m):=(h.words.need).need
theorem rg{b:List Int}{n:Int}{l:List Bool}(h:cO b n=some l) : l.length≤8*b.length:=by
  unfold cO at h
  split at h
  · rename_i hc
    split at h
    · injection h with h
      subst h
      have:=hc.2
      rw[List.length_map,List.length_range]
      unfold e8 at this
      split at this<;>omega
    · cases h
  · cases h
theorem tC{dir c:Int}{C C':al}{M:aT}(hl:C.l.length≤252)(h:aN dir c C=some (C',M)) : aW M:=by
  unfold aN at h
  repeat' split at h
  all_goals first | (cases h;done) | obtain⟨rfl,rfl⟩:=bf h
  · exact dn _ rfl rfl rfl rfl rfl
  · exact eo (Nat.zero_le _) (Nat.zero_le _) (((Sh.refl C).bytes.need).bR _ hl) rfl rfl
  · exact dn _ rfl rfl rfl rfl rfl
  · refine eo (Nat.zero_le _) ?_ (Nat.zero_le _) rfl rfl
    show((zy C).getD []).length≤2016
    cases hu:zy C with
    | none=>simp
    | some l =>
      have h1:=rg hu
      have h2:((nL C).bytesR (wM C)).length≤252:=((x3 C 1968).bytes.need).bR _ hl
      simp only[Option.getD_some]
      omega
  · exact dn _ rfl rfl rfl rfl rfl
theorem vc{dir c:Int}{C C':al}{M:aT}(hl:C.l.length≤252)(h:bG dir c C=some (C',M)) : aW M:=by
  unfold bG at h
  repeat' split at h
  all_goals first | (cases h;done) | obtain⟨rfl,rfl⟩:=bf h
  · exact dn _ rfl rfl rfl rfl rfl
  · exact eo (((Sh.refl C).bytes.need).wR _ hl) (Nat.zero_le _) (Nat.zero_le _) rfl rfl
  · exact dn _ rfl rfl rfl rfl rfl
  · exact eo (((jY (Sh.refl C).words _ _).bytes.need).wR _ hl) (Nat.zero_le _) (Nat.zero_le _) rfl rfl
  · exact dn _ rfl rfl rfl rfl rfl
  · exact dn _ rfl rfl rfl rfl rfl
  · exact eo (((jY (jY (Sh.refl C).words _ _).words _ _).bytes.need).wR _ hl) (Nat.zero_le _) (Nat.zero_le _) rfl rfl
  · exact eo (((Sh.refl C).bytes.need).wR _ hl) (Nat.zero_le _) (Nat.zero_le _) rfl rfl
  · exact dn _ rfl rfl rfl rfl rfl
  · exact eo ((((Sh.refl C).words.need).words.need).wR _ hl) (Nat.zero_le _) (Nat.zero_le _) rfl rfl
theorem wb{dir c:Int}{C C':al}{M:aT}(hl:C.l.length≤252)(h:aQ dir c C=some (C',M)) : aW M:=by
  unfold aQ at h
  repeat' split at h
  all_goals first | (cases h;done) | obtain⟨rfl,rfl⟩:=bf h
  · unfold dx
    split
    · exact eo (((Sh.refl C).words.need).wR _ hl) (Nat.zero_le _) (Nat.zero_le _) rfl rfl
    · exact eo (((Sh.refl C).words.need.need).wR _ hl) (Nat.zero_le _) (Nat.zero_le _) rfl rfl
  · unfold bD
    have h1:Sh C (fk C 6 70):=(Sh.refl C).bytes.need
    have h2:Sh C (d8 (fk C 6 70)):=h1.words.need
    repeat' split
    · exact dn _ rfl rfl rfl rfl rfl
    · exact dn _ rfl rfl rfl rfl rfl
    · exact eo (Nat.zero_le _) (Nat.zero_le _) (h2.words.words.bR _ hl) rfl rfl
    · exact eo (Nat.zero_le _) (Nat.zero_le _) (Sh.bR (C:=fk C 1 251) ((Sh.refl C).bytes.need) _ hl) rfl rfl
    · exact dn _ rfl rfl rfl rfl rfl
  · exact dn _ rfl rfl rfl rfl rfl
theorem o4:∀ (L:List Obj),2*L.length≤(eN L).length∧∀ o,o∈L→o.value.length≤(eN L).length
  | []=>⟨by simp[eN],fun o h=>nomatch h⟩
  | x :: L=>by
    obtain⟨h1,h2⟩:=o4 L
    have h3:(eN (x :: L)).length=2+x.value.length+(eN L).length:=by simp[eN];omega
    refine⟨by rw[h3,List.length_cons];omega,fun o ho=>?_⟩
    rcases List.mem_cons.1 ho with rfl|ho
    · omega
    · have:=h2 o ho
      omega
theorem wX{dir c:Int}{C C':al}{M:aT}(hd:dir=0∨dir=1)(hr:fM C)(hl:C.l.length≤252)(h:bu dir c C=some (C',M))(he:C'.endC.e=0) : aW M:=by
  have hb:=vk hd hr h he
  have hA:Sh C (dJ C):=(Sh.refl C).bytes.need
  unfold bu at h
  repeat' split at h
  all_goals first | (cases h;done) | obtain⟨rfl,rfl⟩:=bf h
  · exact eo (Nat.zero_le _) (Nat.zero_le _) (Sh.bR (C:=gv C) hA.need _ hl) rfl rfl
  · rename_i hm hc
    obtain rfl:dir=1:=by simpa using hc
    unfold cw at hb
    rw[if_neg (show ¬ (C.byteV==13)=true from hm),if_neg (by decide)] at hb
    have h1:=congrArg List.length hb
    rw[List.length_append] at h1
    obtain⟨h2,h3⟩:=o4 (cP (dJ C).byteV (du C)).2
    have h1:6+(eN (cP (dJ C).byteV (du C)).2).length=C.l.length:=h1
    refine⟨Nat.zero_le _,Nat.zero_le _,Nat.zero_le _,Nat.zero_le _,(fun r h=>nomatch h),?_,?_⟩
    · show(cP (dJ C).byteV (du C)).2.length≤128
      omega
    · intro o ho
      have:=h3 o ho
      omega
  · exact dn _ rfl rfl rfl rfl rfl
theorem kF{dir code:Int}:∀ (L:List dY),(∀ r,r∈L→4≤(eA dir code r).length)→4*L.length≤(bL dir code L).length∧∀ r,r∈L→r.words.length≤(bL dir code L).length
  | [],_=>⟨by simp[bL],fun o h=>nomatch h⟩
  | x :: L,h=>by
    obtain⟨h1,h2⟩:=kF L fun r hr=>h r (by simp[hr])
    have h3:(bL dir code (x :: L)).length=(eA dir code x).length+(bL dir code L).length:=by simp[bL]
    have h4:=h x (by simp)
    have h5:x.words.length≤(eA dir code x).length:=by
      have:=av x.words
      unfold eA
      rw[List.length_append]
      omega
    refine⟨by rw[h3,List.length_cons];omega,fun o ho=>?_⟩
    rcases List.mem_cons.1 ho with rfl|ho
    · omega
    · have:=h2 o ho
      omega
theorem nH{one:Int→al→Int × al × dY}{P:dY→Prop}{dir code:Int}(hE:∀ s C,cA C (eA dir code (one s C).2.2) (one s C).2.1)(hP:∀ s C,fM C→(one s C).2.1.e=0→P (one s C).2.2) :
    ∀ (n:Nat) (s:Int) (C:al) (L:List dY),fM C→(bh one n s C L).1.e=0→(∀ r,r∈L→P r)→∀ r,r∈(bh one n s C L).2→P r
  | 0,s,C,L,_,_,h=>h
  | n+1,s,C,L,hr,he,h=>by
    unfold bh at he ⊢
    split at he
    · rename_i hc
      rw[if_pos hc]
      split at he
      · rename_i hn
        rw[he] at hn
        cases hn
      · rename_i hn
        rw[if_neg hn]
        have h4:(one s C).2.1.e=0:=by simpa using hn
        exact nH hE hP n _ _ _ ((hE s C) hr).1 he fun r hr'=>by
          rcases List.mem_append.1 hr' with h5|h5
          · exact h r h5
          · rw[List.mem_singleton.1 h5]
            exact hP s C hr h4
    · rename_i hc
      rw[if_neg hc]
      exact h
theorem zi(s:Int)(C:al)(hr:fM C)(he:(cL s C).2.1.e=0) : 4≤(eA 1 20 (cL s C).2.2).length:=by
  have hE1:cA C _ (jz C):=(cA.refl C).byte.need
  have hE2:cA C _ (fy C):=hE1.byte.need
  obtain⟨h1,_,h2⟩:=iK (hE2 hr).1 (show((fy C).wordsC (Int.tdiv (C.byteV-1) 2)).e=0 from he)
  obtain⟨h3,_⟩:=eO (by decide) h1
  obtain⟨_,h6⟩:=eO (by decide) (fG h3).1
  simp only[Bool.and_eq_true,decide_eq_true_eq,beq_iff_eq] at h6
  rw[Int.tdiv_eq_ediv_of_nonneg (by omega)] at h2
  have h7:=av ((fy C).wordsR (Int.tdiv (C.byteV-1) 2))
  show 4≤([_,6]++aG ((fy C).wordsR (Int.tdiv (C.byteV-1) 2))).length
  rw[List.length_append,h7,Int.tdiv_eq_ediv_of_nonneg (by omega)]
  simp only[List.length_cons,List.length_nil]
  omega
theorem vD(dir code:Int)(r:dY)(h:(code==20&&dir==1)=false) : 4≤(eA dir code r).length:=by
  unfold eA
  rw[h]
  simp[aG]
theorem iw{one:Int→al→Int × al × dY}{dir code:Int}(hl:∀ s C,0<C.l.length→(one s C).2.1.l.length<C.l.length)(hE:∀ s C,cA C (eA dir code (one s C).2.2) (one s C).2.1)
    (hP:∀ s C,fM C→(one s C).2.1.e=0→4≤(eA dir code (one s C).2.2).length) {may:Int→Bool} {c:Int} {C:al} (hr:fM C) (hl':C.l.length≤252)
    (he:(dh one may c C).1.endC.e=0) : aW (dh one may c C).2:=by
  have hb:=gU hl hE hr he
  have h1:=congrArg List.length hb
  rw[List.length_append] at h1
  have h1:1+(bL dir code (kk one may C).2).length=C.l.length:=h1
  have h2:(kk one may C).1.e=0:=by
    unfold al.endC at he
    obtain⟨h0,_⟩:=eO (by decide) he
    unfold dh at h0
    by_cases hz:(kk one may C).1.e=0
    · exact hz
    · have hw:da (kk one may C).1.e≠0:=by
        unfold da
        split
        · decide
        · exact hz
      simpa using (eO hw h0).2
  have hB:fM (rA may C):=fun x hx=>hr x (by
    have h5:x∈(ox may C).l:=by
      have:x∈(ox may C).bytesR C.byteV:=hx
      unfold al.bytesR at this
      split at this
      · cases this
      · exact List.mem_of_mem_take this
    have h6:x∈(C.bytesC 1).l:=by unfold ox at h5;rwa [jm] at h5
    unfold al.bytesC at h6
    split at h6
    · rw[jm] at h6
      cases h6
    · exact List.mem_of_mem_drop h6)
  have h3:=nH (P:=fun r=>4≤(eA dir code r).length) hE hP (rA may C).l.length 0 (rA may C) [] hB h2 (fun r h=>nomatch h)
  obtain⟨h4,h5⟩:=kF (dir:=dir) (code:=code) (kk one may C).2 h3
  refine⟨Nat.zero_le _,Nat.zero_le _,Nat.zero_le _,?_,?_,Nat.zero_le _,(fun r h=>nomatch h)⟩
  · show(kk one may C).2.length≤64
    omega
  · intro r hr'
    have:=h5 r hr'
    omega
theorem tV{dir c:Int}{C C':al}{M:aT}(hd:dir=0∨dir=1)(hr:fM C)(hl:C.l.length≤252)(h:b6 dir c C=some (C',M))(he:C'.endC.e=0) : aW M:=by
  unfold b6 at h
  split at h
  · rename_i hc
    obtain rfl:c=20:=by simpa using hc
    rcases hd with rfl|rfl
    · have h:some (dh eb gz 20 C)=some (C',M):=h
      obtain⟨rfl,rfl⟩:=bf h
      exact iw mO rV (fun _ _ _ _=>vD _ _ _ rfl) hr hl he
    · have h:some (dh cL gB 20 C)=some (C',M):=h
      obtain⟨rfl,rfl⟩:=bf h
      exact iw km rE zi hr hl he
  split at h
  · rename_i hc
    obtain rfl:c=21:=by simpa using hc
    obtain⟨rfl,rfl⟩:=bf h
    exact iw mK (s3 dir) (fun _ _ _ _=>vD _ _ _ rfl) hr hl he
  · cases h
theorem dc:aW aT.zero:=dn _ rfl rfl rfl rfl rfl
theorem f7{form:Int→Int→al→Option (al × aT)}(hf:∀ {dir c:Int}{C C':al}{M:aT},(dir=0∨dir=1)→fM C→C.l.length≤252→form dir c C=some (C',M)→C'.endC.e=0→aW M)
    {dir c:Int} {b:List Int} {M:aT} {E:Int} (hr:∀ x,x∈b→0≤x∧x<256) (hl:b.length≤252) (h:aq form dir c b=(M,E)) : aW M∧(E≠0→M=aT.zero):=by
  unfold aq at h
  split at h
  · rename_i hd
    split at h
    · injection h with h1 h2
      subst h1 h2
      exact⟨dc,fun _=>rfl⟩
    · rename_i r hr'
      unfold b7 at h
      split at h
      · rename_i he
        injection h with h1 h2
        obtain⟨C',M'⟩:=r
        have h1:M'=M:=h1
        subst h1
        exact⟨hf (C:=⟨b,false,0⟩) hd hr hl hr' he,fun hE=>absurd h2.symm hE⟩
      · injection h with h1 h2
        subst h1
        exact⟨dc,fun _=>rfl⟩
  · injection h with h1 h2
    subst h1
    exact⟨dc,fun _=>rfl⟩
theorem vq{k:Nat}{dir:Int}{b:List Int}{M:aT}{E:Int}(hr:∀ x,x∈b→0≤x∧x<256)(hl:b.length≤253)(h:gy k dir b=(M,E)) : aW M∧(E≠0→M=aT.zero):=by
  have hr':∀ x,x∈b.drop 1→0≤x∧x<256:=fun x hx=>hr x (List.mem_of_mem_drop hx)
  have hl':(b.drop 1).length≤252:=by rw[List.length_drop];omega
  unfold gy at h
  split at h
  · exact f7 (fun _ _ hl h _=>tC hl h) hr' hl' h
  · exact f7 (fun _ _ hl h _=>vc hl h) hr' hl' h
  · exact f7 (fun _ _ hl h _=>wb hl h) hr' hl' h
  · exact f7 tV hr' hl' h
  · exact f7 wX hr' hl' h
  · injection h with h1 h2
    subst h1
    exact⟨dc,fun _=>rfl⟩
theorem vK{b:List Int}{M:aT}{E:Int}(h:eX b=(M,E)) : aW M∧(E≠0→M=aT.zero):=by
  unfold eX at h
  repeat' split at h
  all_goals (injection h with h1 h2;subst h1)
  all_goals first | exact⟨dc,fun _=>rfl⟩ | exact⟨dn _ rfl rfl rfl rfl rfl,fun hE=>absurd h2.symm hE⟩
theorem kJ{dir:Int}{b:List Int}{M:aT}{E:Int}(hr:∀ x,x∈b→0≤x∧x<256)(h:cy dir b=(M,E)) : aW M∧(E≠0→M=aT.zero):=by
  unfold cy at h
  split at h
  · injection h with h1 h2;subst h1;exact⟨dc,fun _=>rfl⟩
  split at h
  · injection h with h1 h2;subst h1;exact⟨dc,fun _=>rfl⟩
  split at h
  · injection h with h1 h2;subst h1;exact⟨dc,fun _=>rfl⟩
  rename_i h3
  simp only[decide_eq_true_eq] at h3
  split at h
  · exact vK h
  · exact vq hr (by omega) h
open Go.RowKit
theorem Bf{a:Int}{r:List Int}(ha:0≤a∧a<65536) : (al.mk (aG [a]++r) false 0).wordV=a∧(al.mk (aG [a]++r) false 0).wordsC 1=⟨r,false,0⟩:=by
  have hb:(al.mk (aG [a]++r) false 0).wbad 1=false:=by
    unfold al.wbad
    simp only[aG,List.length_append,List.length_cons,List.length_nil,Bool.or_eq_false_iff,decide_eq_false_iff_not]
    omega
  have hf:(al.mk (aG [a]++r) false 0).fails (2*1)=false:=by
    unfold al.fails
    simp[aG]
    omega
  constructor
  · unfold al.wordV al.wordsR al.bytesR
    rw[hb,hf]
    show(dG [a/256,a%256]).getD 0 0=a
    unfold dG
    rw[if_pos (by simp)]
    show a/256*256+a%256=a
    omega
  · unfold al.wordsC al.bytesC
    rw[hb,hf]
    rfl
end Go.Proofs.YtpglhicfhppaiaaGreat
namespace Go.Proofs.YtpglhicfhppaiaaGreat
theorem nZ(u:Int)(l:List Int) : (mt u l).length=3+l.length:=by simp[mt,bS];omega
theorem lK{dir u t:Int}{M:aT}{b:List Int}(h:fI dir u t M=some b) : t=0∧∃ l,ci dir M=some l∧b=mt u l∧l.length≤253:=by
  unfold fI at h
  split at h
  · cases h
  · rename_i l hl
    have hle:=fE hl
    split at h
    · cases h
    · rename_i ht
      injection h with h
      exact⟨by simpa using ht,l,hl,h.symm,hle⟩
theorem wQ{dir u t:Int}{M:aT}{b:List Int}(hc:0≤M.code∧M.code<256)(h:fI dir u t M=some b) : 4≤b.length∧b.length≤256:=by
  obtain⟨_,l,h1,rfl,h2⟩:=lK h
  have:=kp hc h1
  rw[nZ]
  omega
theorem sR(u:Int)(l:List Int) : (mt u l).take ((mt u l).length-2)=[u]++l:=by
  rw[nZ,show 3+l.length-2=([u]++l).length from by simp;omega]
  exact List.take_left' rfl
theorem zg(u:Int)(l:List Int) : fm (mt u l)=l:=by
  unfold fm
  rw[sR]
  rfl
theorem wh{b:List Int}(hl:3≤b.length)(h:ej b=true) : ∃ u l,b=mt u l:=by
  unfold ej at h
  rw[Bool.and_eq_true,decide_eq_true_eq,decide_eq_true_eq] at h
  obtain⟨h1,h2⟩:=h
  cases hb:b.take (b.length-2) with
  | nil =>
    have:=congrArg List.length hb
    rw[List.length_take,List.length_nil] at this
    omega
  | cons u l =>
    refine⟨u,l,?_⟩
    conv=>lhs;rw[← List.take_append_drop (b.length-2) b,← h2,hb]
    rfl
theorem wB{dir:Int}{b:List Int}{F:cm}{E:Int}(hr:∀ x,x∈b→0≤x∧x<256)(h:eQ dir b=(F,E)) : aW F.msg∧(E≠0→F=cm.zero):=by
  have hz:∀ k:Int,((cm.zero,k) : cm × Int)=(F,E)→aW F.msg∧(E≠0→F=cm.zero):=fun k h=>by
    injection h with h1 h2
    subst h1
    exact⟨dc,fun _=>rfl⟩
  unfold eQ at h
  split at h
  · exact hz _ h
  split at h
  · exact hz _ h
  split at h
  · exact hz _ h
  split at h
  · exact hz _ h
  cases hp:cy dir (fm b) with
  | mk M E' =>
    rw[hp] at h
    obtain⟨k1,k2⟩:=kJ (fun x hx=>hr x (List.mem_of_mem_take (List.mem_of_mem_drop hx))) hp
    have h:(if (E' != 0)=true then ((cm.zero,E') : cm × Int) else (⟨_,_,M⟩,0))=(F,E):=h
    split at h
    · exact hz _ h
    · injection h with h5 h6
      subst h5
      exact⟨k1,fun hE=>absurd h6.symm hE⟩
theorem vR{dir:Int}{b:List Int}{F:cm}{E:Int}{r:Option (List Int)}(hd:dir=0∨dir=1)(hr:∀ x,x∈b→0≤x∧x<256)(h:eQ dir b=(F,E))(hE:(E==0)=true)(hW:fI dir F.unit F.tid F.msg=r) : r=some b∧4≤b.length∧b.length≤256:=by
  obtain rfl:E=0:=by simpa using hE
  unfold eQ at h
  split at h
  · cases h
  split at h
  · cases h
  split at h
  · cases h
  split at h
  · cases h
  rename_i h1 h2 h3 h4
  simp only[decide_eq_true_eq] at h2 h3
  have h4:ej b=true:=by simpa using h4
  obtain⟨u,l,rfl⟩:=wh (by omega) h4
  rw[zg] at h
  have h:dj u 0 (cy dir l)=(F,0):=h
  cases hp:cy dir l with
  | mk M E' =>
    rw[hp] at h
    have h:(if (E' != 0)=true then ((cm.zero,E') : cm × Int) else (⟨_,_,M⟩,0))=(F,0):=h
    split at h
    · rename_i h5
      injection h with _ h6
      subst h6
      cases h5
    · rename_i h5
      injection h with h6 _
      subst h6
      obtain rfl:E'=0:=by simpa using h5
      have h7:=kD hd (fun x hx=>hr x (by unfold mt;simp[hx])) hp
      rw[← hW]
      refine⟨?_,by omega,by omega⟩
      show fI dir u 0 M=_
      unfold fI
      rw[h7]
      simp
open Go.RowKit
def yo (u:Int)(l:List Int) : List Int:=([u]++l)++[cY ([u]++l)]
theorem vh(u:Int)(l:List Int) : (yo u l).length=l.length+2:=by simp[yo]
theorem wu(u:Int)(l:List Int) : uL u l=([58]++dL (yo u l))++[13,10]:=rfl
theorem uG(u:Int)(l:List Int) : (uL u l).length=2*l.length+7:=by
  rw[wu]
  simp only[List.length_append,List.length_cons,List.length_nil,eI,vh]
  omega
theorem m9{dir u t:Int}{M:aT}{b:List Int}(h:fF dir u t M=some b) : t=0∧∃ l,ci dir M=some l∧b=uL u l∧l.length≤253:=by
  unfold fF at h
  split at h
  · cases h
  · rename_i l hl
    have hle:=fE hl
    split at h
    · cases h
    · rename_i ht
      injection h with h
      exact⟨by simpa using ht,l,hl,h.symm,hle⟩
theorem xu{dir u t:Int}{M:aT}{b:List Int}(hc:0≤M.code∧M.code<256)(h:fF dir u t M=some b) : 9≤b.length∧b.length≤513:=by
  obtain⟨_,l,h1,rfl,h2⟩:=m9 h
  have:=kp hc h1
  rw[uG]
  omega
theorem vz{b s:List Int}(h:hZ b=some s) : b=([58]++s)++[13,10]:=by
  obtain⟨h1,h2,rfl,h3⟩:=jc h
  cases b with
  | nil=>simp at h3
  | cons a r =>
    have ha:a=58:=h1
    subst ha
    have h2:fR r=true:=h2
    have h4:=kB h2
    unfold fR at h2
    simp only[Bool.and_eq_true,decide_eq_true_eq] at h2
    have h5:=h2.2
    rw[show(((r.length:Nat) : Int)-2).toNat=r.length-2 from by omega] at h5
    show 58 :: r=58 :: (r.take ((58 :: r).length-3)++[13,10])
    rw[show(58 :: r).length-3=r.length-2 from by simp only[List.length_cons];omega,← h5,List.take_append_drop]
theorem nD(a b:List Int) : ∀ k,k≤a.length→iU (a++b) k=iU a k
  | 0,_=>rfl
  | k+1,h=>by
    unfold iU
    rw[nD a b k (by omega),List.getD_eq_getElem?_getD,List.getD_eq_getElem?_getD,List.getElem?_append_left (by omega)]
theorem tY(a:List Int)(c:Int) : qW (a++[c])=(qW a+c)%256:=by
  unfold qW
  have e:(a++[c]).length=a.length+1:=by simp
  rw[e]
  show(iU (a++[c]) a.length+(a++[c]).getD a.length 0)%256=_
  rw[nD a [c] _ (Nat.le_refl _)]
  simp
theorem qP{a:List Int}{c:Int}(hc:0≤c∧c<256) : fo (a++[c])=true↔c=cY a:=by
  have h:=wL a a.length
  unfold fo cY
  rw[tY]
  have hs:qW a=iU a a.length:=rfl
  simp only[Bool.and_eq_true,decide_eq_true_eq,beq_iff_eq,List.length_append,List.length_cons,List.length_nil]
  constructor
  · intro k;omega
  · intro k;omega
theorem xg{x:List Int}(h:2≤x.length)(hb:dw x)(k:fo x=true) : x=yo (x.getD 0 0) (e7 x):=by
  have hne:x≠[]:=fun e=>by rw[e] at h;simp at h
  obtain⟨y,c,rfl⟩ : ∃ y c,x=y++[c]:=⟨x.dropLast,x.getLast hne,(List.dropLast_concat_getLast hne).symm⟩
  have hc:=hb c (by simp)
  have h1:=(qP hc).1 k
  cases y with
  | nil=>simp at h
  | cons u l =>
    have e:e7 ((u :: l)++[c])=l:=by
      unfold e7
      rw[show((u :: l)++[c]).length-1=(u :: l).length from by simp,List.take_left' rfl]
      rfl
    rw[e]
    show(u :: l)++[c]=([u]++l)++[cY ([u]++l)]
    rw[h1]
    rfl
theorem vU{dir:Int}{b:List Int}{F:cm}{E:Int}(h:ec dir b=(F,E)) : aW F.msg∧(E≠0→F=cm.zero):=by
  have hz:∀ k:Int,((cm.zero,k) : cm × Int)=(F,E)→aW F.msg∧(E≠0→F=cm.zero):=fun k h=>by
    injection h with h1 h2
    subst h1
    exact⟨dc,fun _=>rfl⟩
  unfold ec at h
  split at h
  · exact hz _ h
  split at h
  · exact hz _ h
  split at h
  · exact hz _ h
  split at h
  · exact hz _ h
  split at h
  · exact hz _ h
  rename_i s _ x hx
  split at h
  · exact hz _ h
  cases hp:cy dir (e7 x) with
  | mk M E' =>
    rw[hp] at h
    obtain⟨k1,k2⟩:=kJ (fun y hy=>(gk hx).2 y (List.mem_of_mem_take (List.mem_of_mem_drop hy))) hp
    have h:(if (E' != 0)=true then ((cm.zero,E') : cm × Int) else (⟨_,_,M⟩,0))=(F,E):=h
    split at h
    · exact hz _ h
    · injection h with h5 h6
      subst h5
      exact⟨k1,fun hE=>absurd h6.symm hE⟩
theorem vt{dir:Int}{b:List Int}{F:cm}{E:Int}{r:Option (List Int)}(hd:dir=0∨dir=1)(h:ec dir b=(F,E))(hE:(E==0)=true)(hW:fF dir F.unit F.tid F.msg=r) : r=some b∧9≤b.length∧b.length≤513:=by
  obtain rfl:E=0:=by simpa using hE
  unfold ec at h
  split at h
  · cases h
  split at h
  · cases h
  rename_i h2
  split at h
  · cases h
  rename_i h3
  simp only[decide_eq_true_eq] at h2 h3
  cases hs:hZ b with
  | none=>rw[hs] at h;cases h
  | some s =>
  rw[hs] at h
  cases hx:bY s with
  | none=>dsimp only at h;rw[hx] at h;cases h
  | some x =>
  dsimp only at h
  rw[hx] at h
  dsimp only at h
  split at h
  · cases h
  rename_i h4
  have h4:fo x=true:=by simpa using h4
  have hl:=oo hs
  have hxl:=mb hx
  obtain⟨e1,e2⟩:=gk hx
  have hsh:=xg (by omega) e2 h4
  cases hp:cy dir (e7 x) with
  | mk M E' =>
    rw[hp] at h
    have h:(if (E' != 0)=true then ((cm.zero,E') : cm × Int) else (⟨_,_,M⟩,0))=(F,0):=h
    split at h
    · rename_i h5
      injection h with _ h6
      subst h6
      cases h5
    · rename_i h5
      injection h with h6 _
      subst h6
      obtain rfl:E'=0:=by simpa using h5
      have h7:ci dir M=some (e7 x):=kD hd (fun y hy=>e2 y (List.mem_of_mem_take (List.mem_of_mem_drop hy))) hp
      rw[← hW]
      refine⟨?_,by omega,by omega⟩
      show fF dir (x.getD 0 0) 0 M=_
      unfold fF
      rw[h7]
      show some (uL _ _)=_
      rw[wu,← hsh,← e1,← vz hs]
open Go.RowKit
end Go.Proofs.YtpglhicfhppaiaaGreat
namespace Go.Proofs.YtpglhicfhppaiaaGreat
def nK (t z n u:Int)(l:List Int) : List Int:=(aG [t,z,n]++[u])++l
theorem mS(t z n u:Int)(l:List Int) : (nK t z n u l).length=7+l.length:=by simp[nK,aG];omega
theorem C8(u:Int)(l:List Int) : (al.mk ([u]++l) false 0).byteV=u∧(al.mk ([u]++l) false 0).bytesC 1=⟨l,false,0⟩:=by
  have hf:(al.mk ([u]++l) false 0).fails 1=false:=by
    unfold al.fails
    simp only[List.length_append,List.length_cons,List.length_nil,Bool.or_eq_false_iff,decide_eq_false_iff_not]
    refine⟨⟨trivial,?_⟩,?_⟩<;>omega
  constructor
  · unfold al.byteV al.bytesR
    rw[hf]
    rfl
  · unfold al.bytesC
    rw[hf]
    rfl
theorem tG(l:List Int) : (al.mk l false 0).bytesR ((l.length:Nat) : Int)=l:=by
  have hf:(al.mk l false 0).fails ((l.length:Nat) : Int)=false:=by
    unfold al.fails
    simp only[Bool.or_eq_false_iff,decide_eq_false_iff_not]
    refine⟨⟨trivial,?_⟩,?_⟩<;>omega
  unfold al.bytesR
  rw[hf]
  show l.take (l.length:Int).toNat=l
  rw[Int.toNat_natCast,List.take_length]
theorem ol{t z n u:Int}{l:List Int}(ht:0≤t∧t<65536)(hz:0≤z∧z<65536)(hn:0≤n∧n<65536) :
    (uw (nK t z n u l)).wordV=t∧(uA (nK t z n u l)).wordV=z∧(uC (nK t z n u l)).wordV=n∧(ux (nK t z n u l)).byteV=u∧kO (nK t z n u l)=l:=by
  have h1:=Bf (r:=aG [z]++(aG [n]++([u]++l))) ht
  have h2:=Bf (r:=aG [n]++([u]++l)) hz
  have h3:=Bf (r:=[u]++l) hn
  have h4:=C8 u l
  have e0:uw (nK t z n u l)=⟨aG [t]++(aG [z]++(aG [n]++([u]++l))),false,0⟩:=by simp[uw,nK,aG]
  have e1:uA (nK t z n u l)=⟨aG [z]++(aG [n]++([u]++l)),false,0⟩:=by unfold uA;rw[e0];exact h1.2
  have e2:uC (nK t z n u l)=⟨aG [n]++([u]++l),false,0⟩:=by unfold uC;rw[e1];exact h2.2
  have e3:ux (nK t z n u l)=⟨[u]++l,false,0⟩:=by unfold ux;rw[e2];exact h3.2
  have e4:wm (nK t z n u l)=⟨l,false,0⟩:=by unfold wm;rw[e3];exact h4.2
  refine⟨by rw[e0];exact h1.1,by rw[e1];exact h2.1,by rw[e2];exact h3.1,by rw[e3];exact h4.1,?_⟩
  unfold kO
  rw[e4]
  exact tG l
theorem wP{dir t z n u:Int}{l:List Int}(hd:dir=0∨dir=1)(ht:0≤t∧t<65536)(hz:0≤z∧z<65536)(hn:0≤n∧n<65536) :
    cn dir (nK t z n u l)=if decide ((7+l.length:Int)<8) then (cm.zero,2) else if decide (260<(7+l.length:Int)) then (cm.zero,3) else if z != 0 then (cm.zero,13) else if n != (l.length:Int)+1 then (cm.zero,5) else dj u t (cy dir l):=by
  obtain⟨h0,h1,h2,h3,h4⟩:=ol (u:=u) (l:=l) ht hz hn
  unfold cn
  rw[h0,h1,h2,h3,h4,mS]
  rw[if_neg (show ¬ (dir != 0&&dir != 1)=true by rcases hd with rfl | rfl<;>decide)]
  rw[show((7+l.length:Nat) : Int)=7+(l.length:Int) by omega,show(7+(l.length:Int))-6=(l.length:Int)+1 by omega]
theorem jZ{dir u t:Int}{M:aT}{b:List Int}(h:ei dir u t M=some b) : ∃ l,ci dir M=some l∧b=nK t 0 ((l.length:Int)+1) u l∧l.length≤253:=by
  unfold ei at h
  split at h
  · cases h
  · rename_i l hl
    have hle:=fE hl
    injection h with h
    refine⟨l,hl,?_,hle⟩
    rw[← h,Int.emod_eq_of_lt (by omega) (by omega)]
    rfl
theorem wc{dir u t:Int}{M:aT}{b:List Int}(hc:0≤M.code∧M.code<256)(h:ei dir u t M=some b) : 8≤b.length∧b.length≤260:=by
  obtain⟨l,h1,rfl,h2⟩:=jZ h
  have:=kp hc h1
  rw[mS]
  omega
theorem Ae{a b c d e f:Int}(ha:0≤a∧a<256)(hb:0≤b∧b<256)(hc:0≤c∧c<256)(hd:0≤d∧d<256)(he:0≤e∧e<256)(hf:0≤f∧f<256) : aG [a*256+b,c*256+d,e*256+f]=[a,b,c,d,e,f]:=by
  simp only[aG]
  congr 1
  · omega
  congr 1
  · omega
  congr 1
  · omega
  congr 1
  · omega
  congr 1
  · omega
  congr 1
  omega
theorem pj{b:List Int}(hr:∀ x,x∈b→0≤x∧x<256)(hl:8≤b.length) : ∃ t z n u l,b=nK t z n u l∧(0≤t∧t<65536)∧(0≤z∧z<65536)∧(0≤n∧n<65536)∧∀ x,x∈l→0≤x∧x<256:=by
  match b,hr,hl with
  | a0 :: a1 :: a2 :: a3 :: a4 :: a5 :: u :: l,hr,_ =>
    have h0:=hr a0 (by simp)
    have h1:=hr a1 (by simp)
    have h2:=hr a2 (by simp)
    have h3:=hr a3 (by simp)
    have h4:=hr a4 (by simp)
    have h5:=hr a5 (by simp)
    refine⟨a0*256+a1,a2*256+a3,a4*256+a5,u,l,?_,by omega,by omega,by omega,fun x hx=>hr x (by simp[hx])⟩
    unfold nK
    rw[Ae h0 h1 h2 h3 h4 h5]
    rfl
theorem ur{dir:Int}{b:List Int}{F:cm}{E:Int}(hr:∀ x,x∈b→0≤x∧x<256)(h:cn dir b=(F,E)) : aW F.msg∧(E≠0→F=cm.zero):=by
  have hz:∀ k:Int,((cm.zero,k) : cm × Int)=(F,E)→aW F.msg∧(E≠0→F=cm.zero):=fun k h=>by
    injection h with h1 h2
    subst h1
    exact⟨dc,fun _=>rfl⟩
  unfold cn at h
  split at h
  · exact hz _ h
  split at h
  · exact hz _ h
  split at h
  · exact hz _ h
  split at h
  · exact hz _ h
  split at h
  · exact hz _ h
  rename_i _ h8 _ _ _
  simp only[decide_eq_true_eq] at h8
  obtain⟨t,z,n,u,l,rfl,ht,hz',hn,hl⟩:=pj hr (by omega)
  obtain⟨h0,h1,h2,h3,h4⟩:=ol (u:=u) (l:=l) ht hz' hn
  rw[h4] at h
  cases hp:cy dir l with
  | mk M E' =>
    rw[hp] at h
    obtain⟨k1,k2⟩:=kJ hl hp
    have h:(if (E' != 0)=true then ((cm.zero,E') : cm × Int) else (⟨_,_,M⟩,0))=(F,E):=h
    split at h
    · exact hz _ h
    · injection h with h5 h6
      subst h5
      exact⟨k1,fun hE=>absurd h6.symm hE⟩
theorem u7{dir:Int}{b:List Int}{F:cm}{E:Int}{r:Option (List Int)}(hd:dir=0∨dir=1)(hr:∀ x,x∈b→0≤x∧x<256)(h:cn dir b=(F,E))(hE:(E==0)=true)(hW:ei dir F.unit F.tid F.msg=r) : r=some b∧8≤b.length∧b.length≤260:=by
  obtain rfl:E=0:=by simpa using hE
  by_cases h8:8≤b.length
  · obtain⟨t,z,n,u,l,rfl,ht,hz',hn,hl⟩:=pj hr h8
    rw[wP hd ht hz' hn] at h
    split at h
    · cases h
    split at h
    · cases h
    split at h
    · cases h
    split at h
    · cases h
    rename_i h1 h2 h3 h4
    simp only[decide_eq_true_eq] at h1 h2
    simp only[bne_iff_ne,ne_eq,Decidable.not_not] at h3 h4
    cases hp:cy dir l with
    | mk M E' =>
      rw[hp] at h
      have h:(if (E' != 0)=true then ((cm.zero,E') : cm × Int) else (⟨_,_,M⟩,0))=(F,0):=h
      split at h
      · rename_i h5
        injection h with _ h6
        subst h6
        cases h5
      · rename_i h5
        injection h with h6 _
        subst h6
        obtain rfl:E'=0:=by simpa using h5
        have h7:=kD hd hl hp
        rw[← hW]
        refine⟨?_,h8,by rw[mS];omega⟩
        show ei dir u t M=_
        unfold ei
        rw[h7]
        show some ((aG [t,0,((l.length:Int)+1)%65536]++[u])++l)=_
        rw[h3,h4,Int.emod_eq_of_lt (by omega) (by omega)]
        rfl
  · exfalso
    unfold cn at h
    split at h
    · cases h
    rw[if_pos (by simp only[decide_eq_true_eq];omega)] at h
    cases h
open Go.RowKit
theorem tX{k dir u t:Int}{M:aT}{b:List Int}(h:jj k dir u t M=some b) : (k=0∨k=1∨k=2)∧(k≠2→t=0)∧∃ l,ci dir M=some l∧l.length≤253:=by
  revert h
  refine k4 k (fun e=>?_) (fun e=>?_) (fun e=>?_) (fun h0 h1 h2=>?_)
  · subst e;intro h;obtain⟨h1,l,h2,_,h3⟩:=lK h;exact⟨.inl rfl,fun _=>h1,l,h2,h3⟩
  · subst e;intro h;obtain⟨h1,l,h2,_,h3⟩:=m9 h;exact⟨.inr (.inl rfl),fun _=>h1,l,h2,h3⟩
  · subst e;intro h;obtain⟨l,h2,_,h3⟩:=jZ h;exact⟨.inr (.inr rfl),fun h=>absurd rfl h,l,h2,h3⟩
  · rw[vX h0 h1 h2];intro h;cases h
theorem jI{k dir u t:Int}{M:aT}{b:List Int}(hc:0≤M.code∧M.code<256)(h:jj k dir u t M=some b) : 4≤b.length∧(b.length:Int)≤qA k∧b.length≤513:=by
  rcases(tX h).1 with rfl|rfl|rfl
  · have:=wQ hc h;show 4≤b.length∧(b.length:Int)≤256∧_;omega
  · have:=xu hc h;show 4≤b.length∧(b.length:Int)≤513∧_;omega
  · have:=wc hc h;show 4≤b.length∧(b.length:Int)≤260∧_;omega
theorem v8{k dir:Int}{b:List Int}{F:cm}{E:Int}(hr:∀ x,x∈b→0≤x∧x<256)(h:ky k dir b=(F,E)) : aW F.msg∧(E≠0→F=cm.zero):=by
  revert h
  refine k4 k (fun e=>?_) (fun e=>?_) (fun e=>?_) (fun h0 h1 h2=>?_)
  · subst e;exact wB hr
  · subst e;exact vU
  · subst e;exact ur hr
  · rw[vL h0 h1 h2];intro h;injection h with e1 e2;subst e1 e2;exact⟨dc,fun _=>rfl⟩
theorem uM{k dir:Int}{b:List Int}{F:cm}(hd:dir=0∨dir=1)(hr:∀ x,x∈b→0≤x∧x<256)(h:ky k dir b=(F,0)) : jj k dir F.unit F.tid F.msg=some b:=by
  revert h
  refine k4 k (fun e=>?_) (fun e=>?_) (fun e=>?_) (fun h0 h1 h2=>?_)
  · subst e;intro h;exact(vR hd hr h rfl rfl).1
  · subst e;intro h;exact(vt hd h rfl rfl).1
  · subst e;intro h;exact(u7 hd hr h rfl rfl).1
  · rw[vL h0 h1 h2];intro h;injection h with e1 e2;cases e2
open Go.RowKit
def XS.isK (k d:Int) : XS→Prop
  | .r S=>k=0∧S.dir=d
  | .a S=>k=1∧S.dir=d
  | .m S=>k=2∧S.dir=d
theorem nI{k d:Int}(hk:k=0∨k=1∨k=2) : (XS.zero k d).isK k d:=by
  rcases hk with rfl|rfl|rfl<;>exact⟨rfl,rfl⟩
def nJ (k d:Int)(x:Ev) : Prop:=aW x.f.msg∧(x.e≠0→x.f=cm.zero)∧(x.e=0→∃ l,jj k d x.f.unit x.f.tid x.f.msg=some l)
theorem gF{k d e:Int}(he:e≠0) : nJ k d (Ev.bad e):=⟨dc,fun _=>rfl,fun h=>absurd h he⟩
theorem ir{k d:Int}{b:List Int}(hd:d=0∨d=1)(hb:∀ x,x∈b→0≤x∧x<256) : nJ k d ⟨(ky k d b).2,(ky k d b).1⟩:=by
  have h:=v8 (k:=k) (dir:=d) (F:=(ky k d b).1) (E:=(ky k d b).2) hb rfl
  refine⟨h.1,h.2,fun h0=>⟨b,uM hd hb ?_⟩⟩
  show ky k d b=((ky k d b).1,0)
  rw[← show(ky k d b).2=0 from h0]
theorem pA{S:SA}{c d:Int}(hd:d=0∨d=1)(h:S.ok)(hc:0≤c∧c<256)(hS:S.dir=d) : (S.byte c).1.dir=d∧∀ x,x∈(S.byte c).2→nJ 1 d x:=by
  subst hS
  unfold SA.byte
  split
  · exact⟨rfl,fun x hx=>by rw[List.mem_singleton] at hx;rw[hx];exact gF (by decide)⟩
  split
  · exact⟨rfl,fun x hx=>by cases hx⟩
  unfold SA.tail
  split
  · exact⟨rfl,fun x hx=>by rw[List.mem_singleton] at hx;rw[hx];exact gF (by decide)⟩
  split
  · refine⟨rfl,fun x hx=>?_⟩
    rw[List.mem_singleton] at hx
    rw[hx]
    refine ir (k:=1) hd fun y hy=>?_
    rcases List.mem_append.1 hy with h1|h1
    · exact h.1 y h1
    · rw[List.mem_singleton] at h1;rw[h1];exact hc
  · exact⟨rfl,fun x hx=>by cases hx⟩
theorem kQ{d:Int}(hd:d=0∨d=1) : ∀ (b:List Int)(S:SA),S.ok→(∀ x,x∈b→0≤x∧x<256)→S.dir=d→(S.feed b).1.dir=d∧∀ x,x∈(S.feed b).2→nJ 1 d x
  | [],S,_,_,hS=>⟨hS,fun x hx=>by cases hx⟩
  | c :: t,S,h,hb,hS=>by
    have e:=oe S [c] t
    have e1:S.feed [c]=S.byte c:=by unfold SA.feed;simp
    have h1:=pA hd h (hb c (List.mem_cons_self ..)) hS
    have h2:=(SA.byte_ok (S2:=(S.byte c).1) (L2:=(S.byte c).2) h (hb c (List.mem_cons_self ..)) rfl).1
    have h3:=kQ hd t (S.byte c).1 h2 (fun x hx=>hb x (List.mem_cons_of_mem _ hx)) h1.1
    rw[show c :: t=[c]++t from rfl,e,e1]
    refine⟨h3.1,fun x hx=>?_⟩
    rcases List.mem_append.1 hx with hx|hx
    · exact h1.2 x hx
    · exact h3.2 x hx
theorem pQ{S:SM}{c d:Int}(hd:d=0∨d=1)(h:S.ok)(hc:0≤c∧c<256)(hS:S.dir=d) : (S.byte c).1.dir=d∧∀ x,x∈(S.byte c).2→nJ 2 d x:=by
  subst hS
  unfold SM.byte
  split
  · exact⟨rfl,fun x hx=>by cases hx⟩
  unfold SM.does
  split
  · exact⟨rfl,fun x hx=>by rw[List.mem_singleton] at hx;rw[hx];exact gF (by decide)⟩
  · exact⟨rfl,fun x hx=>by rw[List.mem_singleton] at hx;rw[hx];exact gF (by decide)⟩
  · refine⟨rfl,fun x hx=>?_⟩
    rw[List.mem_singleton] at hx
    rw[hx]
    refine ir (k:=2) hd fun y hy=>?_
    rcases List.mem_append.1 hy with h1|h1
    · exact h.2.1 y h1
    · rw[List.mem_singleton] at h1;rw[h1];exact hc
  · exact⟨rfl,fun x hx=>by cases hx⟩
theorem kP{d:Int}(hd:d=0∨d=1) : ∀ (b:List Int)(S:SM),S.ok→(∀ x,x∈b→0≤x∧x<256)→S.dir=d→(S.feed b).1.dir=d∧∀ x,x∈(S.feed b).2→nJ 2 d x
  | [],S,_,_,hS=>⟨hS,fun x hx=>by cases hx⟩
  | c :: t,S,h,hb,hS=>by
    have e:=pl S [c] t
    have e1:S.feed [c]=S.byte c:=by unfold SM.feed;simp
    have h1:=pQ hd h (hb c (List.mem_cons_self ..)) hS
    have h2:=(SM.byte_ok (S2:=(S.byte c).1) (L2:=(S.byte c).2) h (hb c (List.mem_cons_self ..)) rfl).1
    have h3:=kP hd t (S.byte c).1 h2 (fun x hx=>hb x (List.mem_cons_of_mem _ hx)) h1.1
    rw[show c :: t=[c]++t from rfl,e,e1]
    refine⟨h3.1,fun x hx=>?_⟩
    rcases List.mem_append.1 hx with hx|hx
    · exact h1.2 x hx
    · exact h3.2 x hx
theorem rI{n base s g c:Nat}{w:World}{A:Option Addr}{S S2:XS}{b:List Int}{t:Bool}{L:List Ev}{k d:Int}(hd:d=0∨d=1)(h:b9 n base w s g A c S)(hS:S.isK k d)(hb:∀ x,x∈b→0≤x∧x<256)(hX:S.take b t=(S2,L)) : S2.isK k d∧∀ x,x∈L→nJ k d x:=by
  have e1:S2=(S.take b t).1:=(congrArg Prod.fst hX).symm
  have e2:L=(S.take b t).2:=(congrArg Prod.snd hX).symm
  rw[e1,e2]
  have h:=h.2
  cases S with
  | r S =>
    obtain⟨rfl,hS⟩:=hS
    obtain⟨⟨cp,_,hr,_⟩,_⟩:=h
    have hh:=aS.range hr
    have hf:(S.feed b).1.dir=d∧(∀ x,x∈(S.feed b).1.held→0≤x∧x<256)∧∀ x,x∈(S.feed b).2→nJ 0 d x:=by
      unfold SS.feed
      split
      · exact⟨hS,hh,fun x hx=>by cases hx⟩
      split
      · refine⟨hS,fun x hx=>?_,fun x hx=>by cases hx⟩
        rcases List.mem_append.1 hx with hx|hx
        · exact hh x hx
        · exact hb x hx
      · exact⟨hS,(fun x hx=>by cases hx),fun x hx=>by rw[List.mem_singleton] at hx;rw[hx];exact gF (by decide)⟩
    cases t
    · exact⟨⟨rfl,hf.1⟩,hf.2.2⟩
    · refine⟨⟨rfl,hf.1⟩,fun x hx=>?_⟩
      rcases List.mem_append.1 hx with hx|hx
      · exact hf.2.2 x hx
      · have hx:x∈(S.feed b).1.tick.2:=hx
        unfold SS.tick at hx
        dsimp only at hx
        split at hx
        · cases hx
        · rw[List.mem_singleton] at hx
          rw[hx,hf.1]
          exact ir (k:=0) hd hf.2.1
  | a S =>
    obtain⟨rfl,hS⟩:=hS
    have hf:=kQ hd b S h.2.2.1 hb hS
    rw[m7 (S:=.a S) trivial b t false]
    exact⟨⟨rfl,hf.1⟩,hf.2⟩
  | m S =>
    obtain⟨rfl,hS⟩:=hS
    have hf:=kP hd b S h.2.2.1 hb hS
    rw[m7 (S:=.m S) trivial b t false]
    exact⟨⟨rfl,hf.1⟩,hf.2⟩
theorem s0{n base s g c:Nat}{w:World}{A:Option Addr}{S:XS}{k d:Int}(h:b9 n base w s g A c S)(hS:S.isK k d) : ((S.held.length:Nat) : Int)≤qA k:=by
  have h:=h.2
  cases S with
  | r S=>obtain⟨rfl,_⟩:=hS;have:=cF.le h;show((S.held.length:Nat) : Int)≤256;omega
  | a S=>obtain⟨rfl,_⟩:=hS;have:=SA.ok_le h.2.2.1;show((S.held.length:Nat) : Int)≤513;omega
  | m S=>obtain⟨rfl,_⟩:=hS;have:=SM.ok_le h.2.2.1;show((S.held.length:Nat) : Int)≤260;omega
theorem uI{L:List Ev}{j:Nat}(h:j<L.length) : L.getD j (Ev.bad 0)∈L:=by
  rw[List.getD_eq_getElem?_getD,List.getElem?_eq_getElem h]
  exact List.getElem_mem h
open Go.RowKit
theorem gD.shape{base:Nat}{w:World}{v:Value}{xs:List Int}(h:gD base w v xs) : ∃ A cp,v = .slice A xs.length cp∧aS true w (.slice A xs.length cp) xs∧∀ x,x∈ob A→base≤x:=by
  obtain⟨h1,A,n,c,rfl,h2⟩:=h
  obtain⟨A',c',e,_,_⟩:=h1.shape
  injection e with e1 e2 e3
  subst e1 e2 e3
  exact⟨A,c,rfl,h1,h2⟩
open Go.RowKit
theorem jS{w:World}{fr:Int}{ans:Bool}(hfr:0≤fr∧fr<256){mA:Bool}{A:Option Addr}{cpA:Nat}{ps:List Pc}(hA:jO mA w (.slice A ps.length cpA) ps)(hpb:∀ p,p∈ps→p.bytes.length≤140737488355328)(hpl:ps.length≤4398046511104) :
    Calls Tryz.prog 10 #[.int .u8 fr,.bool ans,.slice A ps.length cpA] w (bv (.bool true) w):=by
 have hzA:=aR.len hA
 refine en 106 Tryz.func10 rfl<|sg<|Pl 1<|ng<|L0<|Oc<|m1 (@yf _) fun e9 bZ=>Pl 1<|ng<|?_
 refine Pl 1<|?_
 refine L0<|Oc<|m1 (sW (jO.old hA bZ) hpb hpl) fun J cM=>Pl 1<|nt<|sq<|sg<|Pl 2<|nt<|?_
 have c:=aD bZ cM
 refine cb ((!(gt (ps.map Pc.bytes)))) (fun aM=>?_) (fun aM=>?_)
 have aN:(gt (ps.map Pc.bytes))=false:=by simpa using aM
 refine sg<|Pl 2<|nt<|rt<|tr<|rr (.bool true)<|?_
 exact⟨rfl,c⟩
 have aN:(gt (ps.map Pc.bytes))=true:=by simpa using aM
 refine bK<|sg<|Pl 1<|nt<|sq<|sg<|Pl 1<|nt<|cb (ans) (fun cN=>?_) (fun cN=>?_)
 refine go<|Pl 1<|ng<|Pl 1<|L0<|Oe (.int .u8 (Int.tmod fr 3)) (.int .u8 (fr%3)) (congrArg (Value.int .u8) (Int.tmod_eq_emod_of_nonneg (by omega)))<|L0<|Oi (fr%3)<|Pl 1<|ng<|?_
 refine Pl 2<|L0<|Oc (args:=#[.int .i64 (fr%3),.int .i64 1])<|Bn (mE (k:=(fr%3)) (d:=1) (rK _) (show 1=0∨1=1 by decide)) fun u c2 cO ea aO cP cQ=>Pl 1<|nt<|sq<|sg<|Pl 2<|nt<|c0<|bK<|?_
 refine sq<|sg<|Pl 1<|nt<|bk<|?_
 obtain⟨hf1,hf2⟩:=wF aN
 refine ie (fun x=>[(2,.slice A ps.length cpA),(7,.bool true),(9,.int .i64 1),(10,.int .i64 (fr%3)),(11,.pointer (some ⟨u,0,none⟩)),(12,.int .i64 ((x.1:Nat) : Int))]) (fun(x:Nat × XS × Option Addr × Nat × Nat) w'=>ay [] w w'∧cO.heap.size≤w'.heap.size∧b9 x.2.2.2.2 J.heap.size w' u c2 x.2.2.1 x.2.2.2.1 x.2.1∧(x.1≤ps.length)∧(x.2.1.isK (fr%3) 1)) (fun x=>ps.length-x.1) (0,(XS.zero (fr%3) 1),none,0,J.heap.size) ⟨(aD c cQ),lr,cP,(by(try dsimp only);omega),(by(try dsimp only);exact nI (rK _))⟩ ?_
 rintro⟨k,S,Ah,ch,n⟩ cR ⟨c3,cS,cT,cU,cV⟩
 refine ik [(2,.slice A ps.length cpA),(7,.bool true),(9,.int .i64 1),(10,.int .i64 (fr%3)),(11,.pointer (some ⟨u,0,none⟩)),(12,.int .i64 ((k:Nat) : Int))] ?_
 have aQ:b9 n J.heap.size cR u c2 Ah ch S:=cT
 have eb:k≤ps.length:=cU
 have cW:S.isK (fr%3) 1:=cV
 refine sq<|sg<|Pl 4<|nt<|cb ((decide (((k:Nat) : Int)<((ps.length:Nat) : Int)))) (fun aU=>?_) (fun aU=>?_)
 have cX:=of_decide_eq_true aU
 refine bK<|sq<|bk<|sq<|se (jO.elt hA k (by omega)) fun o r ec ed ee M N c4 aV aW ef a3=>Rg 14 (fun w'=>w'.cell? ⟨o,r+k*2+0,none⟩=some (.slice M ((ps.getD k Pc.z).bytes.length) N)∧w'.cell? ⟨o,r+k*2+1,none⟩=some (.bool ((ps.getD k Pc.z).tick))) fun eg aX=>?_
 have aY:=aD c3 aX
 have b0:=ub aY aV
 refine aZ ⟨(eJ b0 a3 0 rfl (by decide)),(eJ b0 a3 1 rfl (by decide))⟩ fun g=>Rt 0 g<|Rt 1 g<|Rt 2 g<|Ri 3 g 2 ps.length k ((k:Nat) : Int) rfl c4 (by omega)<|Rt 4 g<|Rl 5 g (fun _ hs=>hs.1)<|Rt 6 g<|Rt 7 g<|Ri 8 g 2 ps.length k ((k:Nat) : Int) rfl c4 (by omega)<|Rt 9 g<|Rl 10 g (fun _ hs=>hs.2)<|Rt 11 g<|?_
 have b1:=aS.old aW aY
 have hpart:=j2 (ps:=ps) (k:=k) (by omega)
 have a4:=b9.old aQ aX
 refine pr (XS.take S ((ps.getD k Pc.z).bytes) ((ps.getD k Pc.z).tick)) fun b2 a b3=>?_
 have eh:=b9.take_le a4 (aS.range b1) b3
 refine R0 12 rfl<|Oc (args:=#[.pointer (some ⟨u,0,none⟩),.agg #[.slice M ((ps.getD k Pc.z).bytes.length) N,.bool ((ps.getD k Pc.z).tick)]])<|?_
 refine(la b3 a4 b1 (jU (aR.low (aW)) (Nat.le_trans c.size aO)) (eE (aR.low (aW)) (b9.row a4) c.size) (by omega)).mono ?_
 rintro _ cY ⟨ei,cZ,d0,d1,rfl,d2,d3,ej,ek,b4⟩
 refine⟨_,rfl,?_⟩
 have c5:=d2
 obtain⟨a5,a6,rfl,el,em⟩:=aR.shape c5.rd
 have c6:=ay.blk b4 (ae (nb (am aV) c.size aO) (aH (aC (am aV) c.size (b9.row aQ)) az)) b0
 refine aZ ⟨(eJ c6 a3 0 rfl (by decide)),(eJ c6 a3 1 rfl (by decide))⟩ fun d4=>Rt 13 d4<|re<|tn<|sq<|sg<|Pl 1<|nt<|bk<|?_
 have b5:=rI (show 1=0∨1=1 by decide) a4 cW (aS.range b1) b3
 refine ie (fun x=>[(2,.slice A ps.length cpA),(7,.bool true),(9,.int .i64 1),(10,.int .i64 (fr%3)),(11,.pointer (some ⟨u,0,none⟩)),(12,.int .i64 ((k:Nat) : Int)),(13,.slice a5 a.length a6),(14,.int .i64 ((x:Nat) : Int)),(33,.int .i64 ((k:Nat) : Int)),(34,.slice A ps.length cpA),(35,.int .i64 ((ps.length:Nat) : Int)),(36,.bool (decide (((k:Nat) : Int)<((ps.length:Nat) : Int)))),(39,.pointer (some ⟨u,0,none⟩)),(40,.slice A ps.length cpA),(41,.int .i64 ((k:Nat) : Int)),(42,.pointer (some (⟨o,r+k*2,none⟩))),(43,.pointer (some (⟨o,r+k*2+0,none⟩))),(44,.slice M ((ps.getD k Pc.z).bytes.length) N),(45,.slice A ps.length cpA),(46,.int .i64 ((k:Nat) : Int)),(47,.pointer (some (⟨o,r+k*2,none⟩))),(48,.pointer (some (⟨o,r+k*2+1,none⟩))),(49,.bool ((ps.getD k Pc.z).tick)),(50,.agg #[.slice M ((ps.getD k Pc.z).bytes.length) N,.bool ((ps.getD k Pc.z).tick)]),(51,.slice a5 a.length a6)]) (fun(x:Nat) w'=>ay [] cY w'∧(x≤a.length)) (fun x=>a.length-x) 0 ⟨ay.refl _ _,(by(try dsimp only);omega)⟩ ?_
 rintro j eo ⟨v,d5⟩
 refine ik [(2,.slice A ps.length cpA),(7,.bool true),(9,.int .i64 1),(10,.int .i64 (fr%3)),(11,.pointer (some ⟨u,0,none⟩)),(12,.int .i64 ((k:Nat) : Int)),(13,.slice a5 a.length a6),(14,.int .i64 ((j:Nat) : Int)),(33,.int .i64 ((k:Nat) : Int)),(34,.slice A ps.length cpA),(35,.int .i64 ((ps.length:Nat) : Int)),(36,.bool (decide (((k:Nat) : Int)<((ps.length:Nat) : Int)))),(39,.pointer (some ⟨u,0,none⟩)),(40,.slice A ps.length cpA),(41,.int .i64 ((k:Nat) : Int)),(42,.pointer (some (⟨o,r+k*2,none⟩))),(43,.pointer (some (⟨o,r+k*2+0,none⟩))),(44,.slice M ((ps.getD k Pc.z).bytes.length) N),(45,.slice A ps.length cpA),(46,.int .i64 ((k:Nat) : Int)),(47,.pointer (some (⟨o,r+k*2,none⟩))),(48,.pointer (some (⟨o,r+k*2+1,none⟩))),(49,.bool ((ps.getD k Pc.z).tick)),(50,.agg #[.slice M ((ps.getD k Pc.z).bytes.length) N,.bool ((ps.getD k Pc.z).tick)]),(51,.slice a5 a.length a6)] ?_
 have ep:j≤a.length:=d5
 refine sq<|sg<|Pl 4<|nt<|?_
 have c7:=ut aY (aD b4 v) (ac (ni c.size aO) (ai (aI (b9.row aQ) c.size) au))
 refine cb ((decide (((j:Nat) : Int)<((a.length:Nat) : Int)))) (fun b6=>?_) (fun b6=>?_)
 have d6:=of_decide_eq_true b6
 refine bK<|sq<|bk<|sg<|Pl 2<|?_
 have D:=b5.2 _ (uI (L:=a) (j:=j) (by omega))
 refine AL (rZ.elt (dv.own (ak c5 v (fun x hx=>az) (fun x cs q=>bo.upd v bO q))).rd j (by omega) (Ev.bad 0)) fun eq er es et eu i d7 d8 c8 d9=>L0<|jF 25 a.length j d7 (by omega)<|L0<|wU [.int .i64 ((a.getD j (Ev.bad 0)).e),.int .u8 ((a.getD j (Ev.bad 0)).f.unit),.int .u16 ((a.getD j (Ev.bad 0)).f.tid),.int .u8 ((a.getD j (Ev.bad 0)).f.msg.code),.int .u8 ((a.getD j (Ev.bad 0)).f.msg.fail),.int .u16 ((a.getD j (Ev.bad 0)).f.msg.addr),.int .u16 ((a.getD j (Ev.bad 0)).f.msg.count),.int .u16 ((a.getD j (Ev.bad 0)).f.msg.value),.int .u16 ((a.getD j (Ev.bad 0)).f.msg.and_),.int .u16 ((a.getD j (Ev.bad 0)).f.msg.or_),.int .u16 ((a.getD j (Ev.bad 0)).f.msg.addr2),.int .u16 ((a.getD j (Ev.bad 0)).f.msg.sub),.int .u16 ((a.getD j (Ev.bad 0)).f.msg.status),.int .u16 ((a.getD j (Ev.bad 0)).f.msg.events),.int .u16 ((a.getD j (Ev.bad 0)).f.msg.messages),.slice i.aw ((a.getD j (Ev.bad 0)).f.msg.words.length) i.kw,.slice i.ab ((a.getD j (Ev.bad 0)).f.msg.bits.length) i.kb,.slice i.ad ((a.getD j (Ev.bad 0)).f.msg.data.length) i.kd,.slice i.ar ((a.getD j (Ev.bad 0)).f.msg.recs.length) i.kr,.int .u8 ((a.getD j (Ev.bad 0)).f.msg.mei),.int .u8 ((a.getD j (Ev.bad 0)).f.msg.kind),.int .u8 ((a.getD j (Ev.bad 0)).f.msg.level),.int .u8 ((a.getD j (Ev.bad 0)).f.msg.more),.int .u8 ((a.getD j (Ev.bad 0)).f.msg.next),.slice i.ao ((a.getD j (Ev.bad 0)).f.msg.objects.length) i.ko] d8 d9<|L0<|bN #[.int .i64 0,.int .u8 0,.int .u16 0,.int .u8 0,.int .u8 0,.int .u16 0,.int .u16 0,.int .u16 0,.int .u16 0,.int .u16 0,.int .u16 0,.int .u16 0,.int .u16 0,.int .u16 0,.int .u16 0,.slice none 0 0,.slice none 0 0,.slice none 0 0,.slice none 0 0,.int .u8 0,.int .u8 0,.int .u8 0,.int .u8 0,.int .u8 0,.slice none 0 0] fun ev ex da db dc=>L0<|bi db (uv ⟨(a.getD j (Ev.bad 0)).e,(a.getD j (Ev.bad 0)).f⟩ i) fun ey F dd=>nt<|sq<|sg<|Pl 1<|L0<|aP F 0<|Pl 2<|?_
 have G:=ud dc dd da
 have b7:=aD c7 G
 refine bl 65 ((((a.getD j (Ev.bad 0)).e)!=0)) (fun V=>?_) (fun V=>?_)
 have de:=aB V
 refine Pl 2<|L1<|sV F 1 2<|Pl 1<|L1<|iD (.bool (!((((a.getD j (Ev.bad 0)).f.unit)==0)&&(((a.getD j (Ev.bad 0)).f.tid)==0)))) (ib ((a.getD j (Ev.bad 0)).f.unit) ((a.getD j (Ev.bad 0)).f.tid) 0 0 rfl (by kernel_rfl) (by kernel_rfl) rfl)<|Pl 1<|bl 71 ((!((((a.getD j (Ev.bad 0)).f.unit)==0)&&(((a.getD j (Ev.bad 0)).f.tid)==0)))) (fun b8=>?_) (fun b8=>?_)
 have a7:((((a.getD j (Ev.bad 0)).f.unit)==0)&&(((a.getD j (Ev.bad 0)).f.tid)==0))=false:=by simpa only[Bool.not_eq_true',Bool.not_eq_false'] using b8
 refine Pl 8<|nt<|c1<|sg<|Pl 1<|nt<|rt<|tr<|br<|tr<|tr<|?_
 refine br<|tr<|br<|tr<|tr<|br<|tr<|rr (.bool false)<|?_
 have hs:false=true:=by have hz:=D.2.1 (bne_iff_ne.1 V);have q:=a7;rw[hz] at q;simp[cm.zero] at q
 rw[hs]
 exact⟨rfl,b7⟩
 have a7:((((a.getD j (Ev.bad 0)).f.unit)==0)&&(((a.getD j (Ev.bad 0)).f.tid)==0))=true:=by simpa only[Bool.not_eq_true',Bool.not_eq_false'] using b8
 have df:=(bM a7).1
 have dg:=(bM a7).2
 have q163nap:=ax df
 have q163nbp:=ax dg
 refine Pl 2<|L1<|sV F 3 22<|Pl 1<|?_
 have c9:=aF.upd (c8.1) G aE
 refine L1<|Oc<|m1 (m0 c9 (show aF true _ _ _ from(aF.zero true _))) fun ez W=>Pl 3<|nt<|?_
 have ca:=aD b7 W
 refine cb ((!(decide ((a.getD j (Ev.bad 0)).f.msg=aT.zero)))) (fun ba=>?_) (fun ba=>?_)
 have a8:(decide ((a.getD j (Ev.bad 0)).f.msg=aT.zero))=false:=by simpa using ba
 have dh:=of_decide_eq_false a8
 refine sg<|Pl 1<|nt<|rt<|tr<|br<|tr<|tr<|br<|tr<|br<|tr<|?_
 refine tr<|br<|tr<|rr (.bool false)<|?_
 have hs:false=true:=by have hz:=D.2.1 (bne_iff_ne.1 V);exact absurd (congrArg cm.msg hz) (of_decide_eq_false a8)
 rw[hs]
 exact⟨rfl,ca⟩
 have a8:(decide ((a.getD j (Ev.bad 0)).f.msg=aT.zero))=true:=by simpa using ba
 have dh:=of_decide_eq_true a8
 refine bK<|sg<|Pl 3<|?_
 have bb:=ub W F
 refine L0<|sV bb 1 24<|?_
 have bc:=aF.upd c9 W aE
 refine wo (jj (fr%3) 1 ((a.getD j (Ev.bad 0)).f.unit) ((a.getD j (Ev.bad 0)).f.tid) ((a.getD j (Ev.bad 0)).f.msg)) (fun O=>?_) (fun eA O=>?_)
 refine L0<|Oc<|m1 (fz bc D.1 (by omega) (by omega) O) fun eB bd=>Pl 5<|ng<|Pl 1<|?_
 refine L0<|aP (ub bd bb) 0<|Pl 2<|cu 3 [91] 94 ((((a.getD j (Ev.bad 0)).e)==0)) (fun K cc=>?_) ?_
 refine bl 91 ((((a.getD j (Ev.bad 0)).e)==0)) (fun X=>?_) (fun X=>?_)
 have di:=ax X
 exact Pl 3<|ce cc true X
 have di:=aA X
 exact Pl 3<|ce cc false X
 refine nt<|?_
 refine cb ((((a.getD j (Ev.bad 0)).e)==0)) (fun a9=>?_) (fun a9=>?_)
 have dj:=ax a9
 refine sg<|Pl 1<|nt<|rt<|br<|tr<|tr<|br<|tr<|br<|tr<|tr<|?_
 refine br<|tr<|rr (.bool false)<|?_
 have hs:false=true:=by obtain⟨l,hl⟩:=D.2.2 (eq_of_beq a9);rw[hl] at O;cases O
 rw[hs]
 exact⟨rfl,(aD ca bd)⟩
 have dj:=aA a9
 refine sk<|bn<|tn<|go<|Pl 1<|L0<|Oi (((j:Nat) : Int)+1)<|Pl 1<|nl<|?_
 exact ew (j+1) ⟨(aD v (aD G (aD W bd))),(by(try dsimp only);omega)⟩ (by omega)
 have eC:=jI (bc.rngs).1 O
 refine L0<|Oc<|e2 (fp bc D.1 (by omega) (by omega) O) fun eD eF dk cd=>?_
 obtain⟨eG,eH,rfl,eI,eK⟩:=gD.shape dk
 refine Pl 5<|ng<|Pl 1<|?_
 refine L0<|aP (ub cd bb) 0<|Pl 2<|cu 3 [91] 94 (false) (fun K cf=>?_) ?_
 refine bl 91 ((((a.getD j (Ev.bad 0)).e)==0)) (fun be=>?_) (fun be=>?_)
 have dl:=ax be
 exact Pl 3<|ce cf false rfl
 have dl:=aA be
 exact Pl 3<|ce cf false rfl
 refine nt<|c0<|sk<|bn<|tn<|go<|Pl 1<|L0<|Oi (((j:Nat) : Int)+1)<|Pl 1<|nl<|?_
 exact ew (j+1) ⟨(aD v (aD G (aD W cd))),(by(try dsimp only);omega)⟩ (by omega)
 have de:=ah V
 refine Pl 14<|nt<|c0<|bK<|sg<|Pl 3<|L0<|sV F 1 24<|?_
 have bf:=aF.upd (c8.1) G aE
 refine wo (jj (fr%3) 1 ((a.getD j (Ev.bad 0)).f.unit) ((a.getD j (Ev.bad 0)).f.tid) ((a.getD j (Ev.bad 0)).f.msg)) (fun P=>?_) (fun eL P=>?_)
 refine L0<|Oc<|m1 (fz bf D.1 (by omega) (by omega) P) fun eM bg=>Pl 5<|ng<|Pl 1<|?_
 refine L0<|aP (ub bg F) 0<|Pl 2<|cu 3 [91] 94 ((((a.getD j (Ev.bad 0)).e)==0)) (fun K cg=>?_) ?_
 refine bl 91 ((((a.getD j (Ev.bad 0)).e)==0)) (fun Y=>?_) (fun Y=>?_)
 have dm:=ax Y
 exact Pl 3<|ce cg true Y
 have dm:=aA Y
 exact Pl 3<|ce cg false Y
 refine nt<|?_
 refine cb ((((a.getD j (Ev.bad 0)).e)==0)) (fun aa=>?_) (fun aa=>?_)
 have dn:=ax aa
 refine sg<|Pl 1<|nt<|rt<|br<|tr<|tr<|br<|tr<|br<|tr<|tr<|?_
 refine br<|tr<|rr (.bool false)<|?_
 have hs:false=true:=by obtain⟨l,hl⟩:=D.2.2 (eq_of_beq aa);rw[hl] at P;cases P
 rw[hs]
 exact⟨rfl,(aD b7 bg)⟩
 have dn:=aA aa
 refine sk<|bn<|tn<|go<|Pl 1<|L0<|Oi (((j:Nat) : Int)+1)<|Pl 1<|nl<|?_
 exact ew (j+1) ⟨(aD v (aD G bg)),(by(try dsimp only);omega)⟩ (by omega)
 have eN:=jI (bf.rngs).1 P
 refine L0<|Oc<|e2 (fp bf D.1 (by omega) (by omega) P) fun eO eP dp ci=>?_
 obtain⟨eQ,eR,rfl,eS,eT⟩:=gD.shape dp
 refine Pl 5<|ng<|Pl 1<|?_
 refine L0<|aP (ub ci F) 0<|Pl 2<|cu 3 [91] 94 (false) (fun K cj=>?_) ?_
 refine bl 91 ((((a.getD j (Ev.bad 0)).e)==0)) (fun bh=>?_) (fun bh=>?_)
 have dq:=ax bh
 exact Pl 3<|ce cj false rfl
 have dq:=aA bh
 exact Pl 3<|ce cj false rfl
 refine nt<|c0<|sk<|bn<|tn<|go<|Pl 1<|L0<|Oi (((j:Nat) : Int)+1)<|Pl 1<|nl<|?_
 exact ew (j+1) ⟨(aD v (aD G ci)),(by(try dsimp only);omega)⟩ (by omega)
 have d6:=of_decide_eq_false b6
 refine xt<|tx<|tx<|bx<|tn<|sg<|Pl 1<|?_
 have ck:=b9.old d3 v
 refine L0<|Oc<|m1 (gE ck) fun eU bj=>Pl 2<|?_
 have cl:=aD c7 bj
 refine bl 98 ((decide (((b2.held.length:Nat) : Int)<0))) (fun af=>?_) (fun af=>?_)
 have dr:=of_decide_eq_true af
 refine Pl 6<|nt<|c1<|sg<|Pl 1<|nt<|rt<|br<|tr<|tr<|br<|?_
 refine tr<|rr (.bool false)<|?_
 have hs:false=true:=by have y:=of_decide_eq_true af;omega
 rw[hs]
 exact⟨rfl,cl⟩
 have dr:=of_decide_eq_false af
 refine Pl 1<|?_
 have bm:=b9.old ck bj
 refine L1<|Oc<|m1 (gE bm) fun eV cn=>Pl 1<|L1<|Oc<|m1 (gN (k:=(fr%3))) fun eW co=>Pl 2<|nt<|?_
 have bp:=aD cn co
 have cp:=aD cl bp
 refine cb ((decide ((qA (fr%3))<((b2.held.length:Nat) : Int)))) (fun ag=>?_) (fun ag=>?_)
 have ds:=of_decide_eq_true ag
 refine sg<|Pl 1<|nt<|rt<|br<|tr<|tr<|br<|tr<|rr (.bool false)<|?_
 have hs:false=true:=by have y:=of_decide_eq_true ag;have z:=s0 (b9.old bm bp) b5.1;omega
 rw[hs]
 exact⟨rfl,cp⟩
 have ds:=of_decide_eq_false ag
 refine sk<|bn<|tn<|go<|Pl 1<|L0<|Oi (((k:Nat) : Int)+1)<|Pl 1<|nl<|?_
 exact ew ((k+1),b2,cZ,d0,d1) ⟨cp,(le (le (le (le (le (le cS aX.size) b4.size) v.size) bj.size) cn.size) co.size),(b9.old bm bp),(by(try dsimp only);omega),(by(try dsimp only);exact b5.1)⟩ (by omega)
 have cX:=of_decide_eq_false aU
 refine xt<|tx<|tx<|bx<|tn<|sg<|Pl 2<|nt<|rt<|rr (.bool true)<|?_
 exact⟨rfl,c3⟩
 refine bK<|sg<|Pl 1<|L0<|Oe (.int .u8 (Int.tmod fr 3)) (.int .u8 (fr%3)) (congrArg (Value.int .u8) (Int.tmod_eq_emod_of_nonneg (by omega)))<|L0<|Oi (fr%3)<|Pl 1<|ng<|Pl 2<|L0<|Oc (args:=#[.int .i64 (fr%3),.int .i64 0])<|Bn (mE (k:=(fr%3)) (d:=0) (rK _) (show 0=0∨0=1 by decide)) fun B cq dt eX bq du dw=>?_
 refine Pl 1<|nt<|sq<|sg<|Pl 2<|nt<|c0<|bK<|sq<|sq<|?_
 refine go<|Pl 1<|nt<|bk<|?_
 obtain⟨hf1,hf2⟩:=wF aN
 refine ie (fun x=>[(2,.slice A ps.length cpA),(7,.bool true),(9,.int .i64 0),(10,.int .i64 (fr%3)),(11,.pointer (some ⟨B,0,none⟩)),(12,.int .i64 ((x.1:Nat) : Int))]) (fun(x:Nat × XS × Option Addr × Nat × Nat) w'=>ay [] w w'∧dt.heap.size≤w'.heap.size∧b9 x.2.2.2.2 J.heap.size w' B cq x.2.2.1 x.2.2.2.1 x.2.1∧(x.1≤ps.length)∧(x.2.1.isK (fr%3) 0)) (fun x=>ps.length-x.1) (0,(XS.zero (fr%3) 0),none,0,J.heap.size) ⟨(aD c dw),lr,du,(by(try dsimp only);omega),(by(try dsimp only);exact nI (rK _))⟩ ?_
 rintro⟨k,S,Ah,ch,n⟩ dx ⟨cr,dy,dz,dA,dB⟩
 refine ik [(2,.slice A ps.length cpA),(7,.bool true),(9,.int .i64 0),(10,.int .i64 (fr%3)),(11,.pointer (some ⟨B,0,none⟩)),(12,.int .i64 ((k:Nat) : Int))] ?_
 have bs:b9 n J.heap.size dx B cq Ah ch S:=dz
 have eY:k≤ps.length:=dA
 have dC:S.isK (fr%3) 0:=dB
 refine sq<|sg<|Pl 4<|nt<|cb ((decide (((k:Nat) : Int)<((ps.length:Nat) : Int)))) (fun bt=>?_) (fun bt=>?_)
 have dD:=of_decide_eq_true bt
 refine bK<|sq<|bk<|sq<|se (jO.elt hA k (by omega)) fun s t eZ f0 f1 Q R ct bu bw f2 aj=>Rg 14 (fun w'=>w'.cell? ⟨s,t+k*2+0,none⟩=some (.slice Q ((ps.getD k Pc.z).bytes.length) R)∧w'.cell? ⟨s,t+k*2+1,none⟩=some (.bool ((ps.getD k Pc.z).tick))) fun f3 bz=>?_
 have bA:=aD cr bz
 have bB:=ub bA bu
 refine aZ ⟨(eJ bB aj 0 rfl (by decide)),(eJ bB aj 1 rfl (by decide))⟩ fun h=>Rt 0 h<|Rt 1 h<|Rt 2 h<|Ri 3 h 2 ps.length k ((k:Nat) : Int) rfl ct (by omega)<|Rt 4 h<|Rl 5 h (fun _ hs=>hs.1)<|Rt 6 h<|Rt 7 h<|Ri 8 h 2 ps.length k ((k:Nat) : Int) rfl ct (by omega)<|Rt 9 h<|Rl 10 h (fun _ hs=>hs.2)<|Rt 11 h<|?_
 have bC:=aS.old bw bA
 have hpart:=j2 (ps:=ps) (k:=k) (by omega)
 have al:=b9.old bs bz
 refine pr (XS.take S ((ps.getD k Pc.z).bytes) ((ps.getD k Pc.z).tick)) fun bD b bE=>?_
 have f4:=b9.take_le al (aS.range bC) bE
 refine R0 12 rfl<|Oc (args:=#[.pointer (some ⟨B,0,none⟩),.agg #[.slice Q ((ps.getD k Pc.z).bytes.length) R,.bool ((ps.getD k Pc.z).tick)]])<|?_
 refine(la bE al bC (jU (aR.low (bw)) (Nat.le_trans c.size bq)) (eE (aR.low (bw)) (b9.row al) c.size) (by omega)).mono ?_
 rintro _ dE ⟨f5,dF,dG,dH,rfl,dI,dJ,f6,f7,bF⟩
 refine⟨_,rfl,?_⟩
 have cv:=dI
 obtain⟨an,ap,rfl,f8,f9⟩:=aR.shape cv.rd
 have cw:=ay.blk bF (ae (nb (am bu) c.size bq) (aH (aC (am bu) c.size (b9.row bs)) az)) bB
 refine aZ ⟨(eJ cw aj 0 rfl (by decide)),(eJ cw aj 1 rfl (by decide))⟩ fun dK=>Rt 13 dK<|re<|tn<|sq<|sg<|Pl 1<|nt<|bk<|?_
 have bG:=rI (show 0=0∨0=1 by decide) al dC (aS.range bC) bE
 refine ie (fun x=>[(2,.slice A ps.length cpA),(7,.bool true),(9,.int .i64 0),(10,.int .i64 (fr%3)),(11,.pointer (some ⟨B,0,none⟩)),(12,.int .i64 ((k:Nat) : Int)),(13,.slice an b.length ap),(14,.int .i64 ((x:Nat) : Int)),(33,.int .i64 ((k:Nat) : Int)),(34,.slice A ps.length cpA),(35,.int .i64 ((ps.length:Nat) : Int)),(36,.bool (decide (((k:Nat) : Int)<((ps.length:Nat) : Int)))),(39,.pointer (some ⟨B,0,none⟩)),(40,.slice A ps.length cpA),(41,.int .i64 ((k:Nat) : Int)),(42,.pointer (some (⟨s,t+k*2,none⟩))),(43,.pointer (some (⟨s,t+k*2+0,none⟩))),(44,.slice Q ((ps.getD k Pc.z).bytes.length) R),(45,.slice A ps.length cpA),(46,.int .i64 ((k:Nat) : Int)),(47,.pointer (some (⟨s,t+k*2,none⟩))),(48,.pointer (some (⟨s,t+k*2+1,none⟩))),(49,.bool ((ps.getD k Pc.z).tick)),(50,.agg #[.slice Q ((ps.getD k Pc.z).bytes.length) R,.bool ((ps.getD k Pc.z).tick)]),(51,.slice an b.length ap)]) (fun(x:Nat) w'=>ay [] dE w'∧(x≤b.length)) (fun x=>b.length-x) 0 ⟨ay.refl _ _,(by(try dsimp only);omega)⟩ ?_
 rintro j fa ⟨C,dL⟩
 refine ik [(2,.slice A ps.length cpA),(7,.bool true),(9,.int .i64 0),(10,.int .i64 (fr%3)),(11,.pointer (some ⟨B,0,none⟩)),(12,.int .i64 ((k:Nat) : Int)),(13,.slice an b.length ap),(14,.int .i64 ((j:Nat) : Int)),(33,.int .i64 ((k:Nat) : Int)),(34,.slice A ps.length cpA),(35,.int .i64 ((ps.length:Nat) : Int)),(36,.bool (decide (((k:Nat) : Int)<((ps.length:Nat) : Int)))),(39,.pointer (some ⟨B,0,none⟩)),(40,.slice A ps.length cpA),(41,.int .i64 ((k:Nat) : Int)),(42,.pointer (some (⟨s,t+k*2,none⟩))),(43,.pointer (some (⟨s,t+k*2+0,none⟩))),(44,.slice Q ((ps.getD k Pc.z).bytes.length) R),(45,.slice A ps.length cpA),(46,.int .i64 ((k:Nat) : Int)),(47,.pointer (some (⟨s,t+k*2,none⟩))),(48,.pointer (some (⟨s,t+k*2+1,none⟩))),(49,.bool ((ps.getD k Pc.z).tick)),(50,.agg #[.slice Q ((ps.getD k Pc.z).bytes.length) R,.bool ((ps.getD k Pc.z).tick)]),(51,.slice an b.length ap)] ?_
 have fb:j≤b.length:=dL
 refine sq<|sg<|Pl 4<|nt<|?_
 have cx:=ut bA (aD bF C) (ac (ni c.size bq) (ai (aI (b9.row bs) c.size) au))
 refine cb ((decide (((j:Nat) : Int)<((b.length:Nat) : Int)))) (fun bH=>?_) (fun bH=>?_)
 have dM:=of_decide_eq_true bH
 refine bK<|sq<|bk<|sg<|Pl 2<|?_
 have E:=bG.2 _ (uI (L:=b) (j:=j) (by omega))
 refine AL (rZ.elt (dv.own (ak cv C (fun x hx=>az) (fun x cs q=>bo.upd C bO q))).rd j (by omega) (Ev.bad 0)) fun fc fd fe ff fg m dN dO cy dP=>L0<|jF 25 b.length j dN (by omega)<|L0<|wU [.int .i64 ((b.getD j (Ev.bad 0)).e),.int .u8 ((b.getD j (Ev.bad 0)).f.unit),.int .u16 ((b.getD j (Ev.bad 0)).f.tid),.int .u8 ((b.getD j (Ev.bad 0)).f.msg.code),.int .u8 ((b.getD j (Ev.bad 0)).f.msg.fail),.int .u16 ((b.getD j (Ev.bad 0)).f.msg.addr),.int .u16 ((b.getD j (Ev.bad 0)).f.msg.count),.int .u16 ((b.getD j (Ev.bad 0)).f.msg.value),.int .u16 ((b.getD j (Ev.bad 0)).f.msg.and_),.int .u16 ((b.getD j (Ev.bad 0)).f.msg.or_),.int .u16 ((b.getD j (Ev.bad 0)).f.msg.addr2),.int .u16 ((b.getD j (Ev.bad 0)).f.msg.sub),.int .u16 ((b.getD j (Ev.bad 0)).f.msg.status),.int .u16 ((b.getD j (Ev.bad 0)).f.msg.events),.int .u16 ((b.getD j (Ev.bad 0)).f.msg.messages),.slice m.aw ((b.getD j (Ev.bad 0)).f.msg.words.length) m.kw,.slice m.ab ((b.getD j (Ev.bad 0)).f.msg.bits.length) m.kb,.slice m.ad ((b.getD j (Ev.bad 0)).f.msg.data.length) m.kd,.slice m.ar ((b.getD j (Ev.bad 0)).f.msg.recs.length) m.kr,.int .u8 ((b.getD j (Ev.bad 0)).f.msg.mei),.int .u8 ((b.getD j (Ev.bad 0)).f.msg.kind),.int .u8 ((b.getD j (Ev.bad 0)).f.msg.level),.int .u8 ((b.getD j (Ev.bad 0)).f.msg.more),.int .u8 ((b.getD j (Ev.bad 0)).f.msg.next),.slice m.ao ((b.getD j (Ev.bad 0)).f.msg.objects.length) m.ko] dO dP<|L0<|bN #[.int .i64 0,.int .u8 0,.int .u16 0,.int .u8 0,.int .u8 0,.int .u16 0,.int .u16 0,.int .u16 0,.int .u16 0,.int .u16 0,.int .u16 0,.int .u16 0,.int .u16 0,.int .u16 0,.int .u16 0,.slice none 0 0,.slice none 0 0,.slice none 0 0,.slice none 0 0,.int .u8 0,.int .u8 0,.int .u8 0,.int .u8 0,.int .u8 0,.slice none 0 0] fun fh fi dQ dR dS=>L0<|bi dR (uv ⟨(b.getD j (Ev.bad 0)).e,(b.getD j (Ev.bad 0)).f⟩ m) fun fj H dT=>nt<|sq<|sg<|Pl 1<|L0<|aP H 0<|Pl 2<|?_
 have I:=ud dS dT dQ
 have bI:=aD cx I
 refine bl 65 ((((b.getD j (Ev.bad 0)).e)!=0)) (fun Z=>?_) (fun Z=>?_)
 have dU:=aB Z
 refine Pl 2<|L1<|sV H 1 2<|Pl 1<|L1<|iD (.bool (!((((b.getD j (Ev.bad 0)).f.unit)==0)&&(((b.getD j (Ev.bad 0)).f.tid)==0)))) (ib ((b.getD j (Ev.bad 0)).f.unit) ((b.getD j (Ev.bad 0)).f.tid) 0 0 rfl (by kernel_rfl) (by kernel_rfl) rfl)<|Pl 1<|bl 71 ((!((((b.getD j (Ev.bad 0)).f.unit)==0)&&(((b.getD j (Ev.bad 0)).f.tid)==0)))) (fun bJ=>?_) (fun bJ=>?_)
 have aq:((((b.getD j (Ev.bad 0)).f.unit)==0)&&(((b.getD j (Ev.bad 0)).f.tid)==0))=false:=by simpa only[Bool.not_eq_true',Bool.not_eq_false'] using bJ
 refine Pl 8<|nt<|c1<|sg<|Pl 1<|nt<|rt<|tr<|br<|tr<|tr<|?_
 refine br<|tr<|br<|tr<|tr<|br<|tr<|rr (.bool false)<|?_
 have hs:false=true:=by have hz:=E.2.1 (bne_iff_ne.1 Z);have q:=aq;rw[hz] at q;simp[cm.zero] at q
 rw[hs]
 exact⟨rfl,bI⟩
 have aq:((((b.getD j (Ev.bad 0)).f.unit)==0)&&(((b.getD j (Ev.bad 0)).f.tid)==0))=true:=by simpa only[Bool.not_eq_true',Bool.not_eq_false'] using bJ
 have dV:=(bM aq).1
 have dW:=(bM aq).2
 have q386nap:=ax dV
 have q386nbp:=ax dW
 refine Pl 2<|L1<|sV H 3 22<|Pl 1<|?_
 have cz:=aF.upd (cy.1) I aE
 refine L1<|Oc<|m1 (m0 cz (show aF true _ _ _ from(aF.zero true _))) fun fk a0=>Pl 3<|nt<|?_
 have cA:=aD bI a0
 refine cb ((!(decide ((b.getD j (Ev.bad 0)).f.msg=aT.zero)))) (fun bL=>?_) (fun bL=>?_)
 have av:(decide ((b.getD j (Ev.bad 0)).f.msg=aT.zero))=false:=by simpa using bL
 have dX:=of_decide_eq_false av
 refine sg<|Pl 1<|nt<|rt<|tr<|br<|tr<|tr<|br<|tr<|br<|tr<|?_
 refine tr<|br<|tr<|rr (.bool false)<|?_
 have hs:false=true:=by have hz:=E.2.1 (bne_iff_ne.1 Z);exact absurd (congrArg cm.msg hz) (of_decide_eq_false av)
 rw[hs]
 exact⟨rfl,cA⟩
 have av:(decide ((b.getD j (Ev.bad 0)).f.msg=aT.zero))=true:=by simpa using bL
 have dX:=of_decide_eq_true av
 refine bK<|sg<|Pl 3<|?_
 have bP:=ub a0 H
 refine L0<|sV bP 1 24<|?_
 have bQ:=aF.upd cz a0 aE
 refine wo (jj (fr%3) 0 ((b.getD j (Ev.bad 0)).f.unit) ((b.getD j (Ev.bad 0)).f.tid) ((b.getD j (Ev.bad 0)).f.msg)) (fun T=>?_) (fun fl T=>?_)
 refine L0<|Oc<|m1 (fz bQ E.1 (by omega) (by omega) T) fun fm bR=>Pl 5<|ng<|Pl 1<|?_
 refine L0<|aP (ub bR bP) 0<|Pl 2<|cu 3 [91] 94 ((((b.getD j (Ev.bad 0)).e)==0)) (fun K cB=>?_) ?_
 refine bl 91 ((((b.getD j (Ev.bad 0)).e)==0)) (fun a1=>?_) (fun a1=>?_)
 have dY:=ax a1
 exact Pl 3<|ce cB true a1
 have dY:=aA a1
 exact Pl 3<|ce cB false a1
 refine nt<|?_
 refine cb ((((b.getD j (Ev.bad 0)).e)==0)) (fun aG=>?_) (fun aG=>?_)
 have dZ:=ax aG
 refine sg<|Pl 1<|nt<|rt<|br<|tr<|tr<|br<|tr<|br<|tr<|tr<|?_
 refine br<|tr<|rr (.bool false)<|?_
 have hs:false=true:=by obtain⟨l,hl⟩:=E.2.2 (eq_of_beq aG);rw[hl] at T;cases T
 rw[hs]
 exact⟨rfl,(aD cA bR)⟩
 have dZ:=aA aG
 refine sk<|bn<|tn<|go<|Pl 1<|L0<|Oi (((j:Nat) : Int)+1)<|Pl 1<|nl<|?_
 exact ew (j+1) ⟨(aD C (aD I (aD a0 bR))),(by(try dsimp only);omega)⟩ (by omega)
 have fn:=jI (bQ.rngs).1 T
 refine L0<|Oc<|e2 (fp bQ E.1 (by omega) (by omega) T) fun fo fq e0 cC=>?_
 obtain⟨fs,ft,rfl,fu,fv⟩:=gD.shape e0
 refine Pl 5<|ng<|Pl 1<|?_
 refine L0<|aP (ub cC bP) 0<|Pl 2<|cu 3 [91] 94 (false) (fun K cD=>?_) ?_
 refine bl 91 ((((b.getD j (Ev.bad 0)).e)==0)) (fun bS=>?_) (fun bS=>?_)
 have e1:=ax bS
 exact Pl 3<|ce cD false rfl
 have e1:=aA bS
 exact Pl 3<|ce cD false rfl
 refine nt<|c0<|sk<|bn<|tn<|go<|Pl 1<|L0<|Oi (((j:Nat) : Int)+1)<|Pl 1<|nl<|?_
 exact ew (j+1) ⟨(aD C (aD I (aD a0 cC))),(by(try dsimp only);omega)⟩ (by omega)
 have dU:=ah Z
 refine Pl 14<|nt<|c0<|bK<|sg<|Pl 3<|L0<|sV H 1 24<|?_
 have bT:=aF.upd (cy.1) I aE
 refine wo (jj (fr%3) 0 ((b.getD j (Ev.bad 0)).f.unit) ((b.getD j (Ev.bad 0)).f.tid) ((b.getD j (Ev.bad 0)).f.msg)) (fun U=>?_) (fun fw U=>?_)
 refine L0<|Oc<|m1 (fz bT E.1 (by omega) (by omega) U) fun fx bU=>Pl 5<|ng<|Pl 1<|?_
 refine L0<|aP (ub bU H) 0<|Pl 2<|cu 3 [91] 94 ((((b.getD j (Ev.bad 0)).e)==0)) (fun K cE=>?_) ?_
 refine bl 91 ((((b.getD j (Ev.bad 0)).e)==0)) (fun a2=>?_) (fun a2=>?_)
 have e3:=ax a2
 exact Pl 3<|ce cE true a2
 have e3:=aA a2
 exact Pl 3<|ce cE false a2
 refine nt<|?_
 refine cb ((((b.getD j (Ev.bad 0)).e)==0)) (fun aJ=>?_) (fun aJ=>?_)
 have e4:=ax aJ
 refine sg<|Pl 1<|nt<|rt<|br<|tr<|tr<|br<|tr<|br<|tr<|tr<|?_
 refine br<|tr<|rr (.bool false)<|?_
 have hs:false=true:=by obtain⟨l,hl⟩:=E.2.2 (eq_of_beq aJ);rw[hl] at U;cases U
 rw[hs]
 exact⟨rfl,(aD bI bU)⟩
 have e4:=aA aJ
 refine sk<|bn<|tn<|go<|Pl 1<|L0<|Oi (((j:Nat) : Int)+1)<|Pl 1<|nl<|?_
 exact ew (j+1) ⟨(aD C (aD I bU)),(by(try dsimp only);omega)⟩ (by omega)
 have fy:=jI (bT.rngs).1 U
 refine L0<|Oc<|e2 (fp bT E.1 (by omega) (by omega) U) fun fA fB e5 cF=>?_
 obtain⟨fC,fD,rfl,fE,fF⟩:=gD.shape e5
 refine Pl 5<|ng<|Pl 1<|?_
 refine L0<|aP (ub cF H) 0<|Pl 2<|cu 3 [91] 94 (false) (fun K cG=>?_) ?_
 refine bl 91 ((((b.getD j (Ev.bad 0)).e)==0)) (fun bV=>?_) (fun bV=>?_)
 have e6:=ax bV
 exact Pl 3<|ce cG false rfl
 have e6:=aA bV
 exact Pl 3<|ce cG false rfl
 refine nt<|c0<|sk<|bn<|tn<|go<|Pl 1<|L0<|Oi (((j:Nat) : Int)+1)<|Pl 1<|nl<|?_
 exact ew (j+1) ⟨(aD C (aD I cF)),(by(try dsimp only);omega)⟩ (by omega)
 have dM:=of_decide_eq_false bH
 refine xt<|tx<|tx<|bx<|tn<|sg<|Pl 1<|?_
 have cH:=b9.old dJ C
 refine L0<|Oc<|m1 (gE cH) fun fG bW=>Pl 2<|?_
 have cI:=aD cx bW
 refine bl 98 ((decide (((bD.held.length:Nat) : Int)<0))) (fun aK=>?_) (fun aK=>?_)
 have e7:=of_decide_eq_true aK
 refine Pl 6<|nt<|c1<|sg<|Pl 1<|nt<|rt<|br<|tr<|tr<|br<|?_
 refine tr<|rr (.bool false)<|?_
 have hs:false=true:=by have y:=of_decide_eq_true aK;omega
 rw[hs]
 exact⟨rfl,cI⟩
 have e7:=of_decide_eq_false aK
 refine Pl 1<|?_
 have bX:=b9.old cH bW
 refine L1<|Oc<|m1 (gE bX) fun fH cJ=>Pl 1<|L1<|Oc<|m1 (gN (k:=(fr%3))) fun fI cK=>Pl 2<|nt<|?_
 have bY:=aD cJ cK
 have cL:=aD cI bY
 refine cb ((decide ((qA (fr%3))<((bD.held.length:Nat) : Int)))) (fun aL=>?_) (fun aL=>?_)
 have e8:=of_decide_eq_true aL
 refine sg<|Pl 1<|nt<|rt<|br<|tr<|tr<|br<|tr<|rr (.bool false)<|?_
 have hs:false=true:=by have y:=of_decide_eq_true aL;have z:=s0 (b9.old bX bY) bG.1;omega
 rw[hs]
 exact⟨rfl,cL⟩
 have e8:=of_decide_eq_false aL
 refine sk<|bn<|tn<|go<|Pl 1<|L0<|Oi (((k:Nat) : Int)+1)<|Pl 1<|nl<|?_
 exact ew ((k+1),bD,dF,dG,dH) ⟨cL,(le (le (le (le (le (le dy bz.size) bF.size) C.size) bW.size) cJ.size) cK.size),(b9.old bX bY),(by(try dsimp only);omega),(by(try dsimp only);exact bG.1)⟩ (by omega)
 have dD:=of_decide_eq_false bt
 refine xt<|tx<|tx<|bx<|tn<|sg<|Pl 2<|nt<|rt<|rr (.bool true)<|?_
 exact⟨rfl,cr⟩
theorem jH{w:World}{fr:Int}{ans:Bool}(hfr:0≤fr∧fr<256){mA:Bool}{v:Value}{ps:List Pc}(hA:jO mA w v ps)(hpb:∀ p,p∈ps→p.bytes.length≤140737488355328)(hpl:ps.length≤4398046511104) : Calls Tryz.prog 10 #[.int .u8 fr,.bool ans,v] w (bv (.bool true) w):=by
  obtain⟨A0,cp0,rfl,_,_⟩:=hA.shape
  exact jS (fr:=fr) (ans:=ans) (hfr:=hfr) hA hpb hpl
open Go.RowKit
section
variable {H:Type}{enc:TypeId × Value→H}{P:Program}{w:World}{base:Nat}{spare:Nat→Bool}{held:Bool}
theorem nR(b off:Nat)(sp:Option Nat)(n:Nat)(h:sp=none) : (⟨b,off,sp⟩ : Addr).add n=⟨b,off+n,none⟩:=ic b off n sp h
theorem sS{b off:Nat}{sp:Option Nat}{v:Value}(h:w.cell? ⟨b,off,sp⟩=some v) : sp=none:=by
  cases sp with
  | none=>rfl
  | some s =>
    unfold World.cell? at h
    simp at h
    split at h<;>cases h
theorem nG{α:Type}{Pd:DataW H→Prop}{R:World→α→List Value→Prop}{t e:TypeId}{sz fuel:Nat}{cs:List Value}{x:DataW H × List MemPlace}(ht:P.underlying t=some (.slice e))(hsz:P.cellsOf e=sz)(hp:0<sz)
    (hel:∀ n cs' y,cs'.length=sz→DataW.trod enc P w base spare held n e cs'=some y→Pd y.1→∃ x,R w x cs') (hP:∀ elems spare,x.1 = .slice elems spare→∀ d,d∈elems→Pd d) (h:DataW.trod enc P w base spare held fuel t cs=some x) : ∃ v xs,cs=[v]∧aR false e sz R w v xs:=by
  rcases Go.Deep.open_slice ht h with⟨rfl,_⟩|⟨a,len,cap,m,n,D,Pl,rfl,_,hl,hm,hmm,hxe,hx⟩
  · exact⟨_,[],rfl,aR.nil ..⟩
  have hlm:len≤m:=by rw[hmm];split<;>omega
  have key:∀ i:Fin len,∃ y:α × List Value,w.cells? base (a.add (i*sz)) sz=some y.2∧y.2.length=sz∧R w y.1 y.2:=fun i=>by
    obtain⟨cs',h1,h2⟩:=hx i (by omega)
    rw[hsz] at h1
    obtain⟨_,hlen,_⟩:=World.cells?_some h1
    obtain⟨y,hy⟩:=hel n cs' _ hlen h2 (hP _ _ (by rw[hxe]) _ (List.mem_map.2 ⟨i.1,List.mem_range.2 i.2,rfl⟩))
    exact⟨(y,cs'),h1,hlen,hy⟩
  obtain⟨f,hf⟩:=Classical.axiomOfChoice key
  refine⟨_,List.ofFn fun i=>(f i).1,rfl,some a,cap,by simp,by simpa using hl,hm,(fun h=>by cases h),fun hpos=>?_⟩
  have hpos':0<len:=by simpa using hpos
  obtain⟨b,off,sp⟩:=a
  have hsp:sp=none:=by
    obtain⟨h1,h2,_⟩:=hf ⟨0,hpos'⟩
    obtain⟨_,_,h3⟩:=World.cells?_some h1
    have h4:=h3 0 hp
    rw[List.getElem?_eq_getElem (by omega)] at h4
    cases sp with
    | none=>rfl
    | some s =>
      simp[Addr.add] at h4
      exact sS h4
  subst hsp
  have hc:∀ i:Fin len,∀ k u,(f i).2[k]? = some u→w.cell? ⟨b,off+i*sz+k,none⟩=some u:=fun i k u hu=>by
    obtain⟨h1,h2,_⟩:=hf i
    obtain⟨_,_,h3⟩:=World.cells?_some h1
    have hk:k<sz:=by have:=(List.getElem?_eq_some_iff.1 hu).1;omega
    have h4:=h3 k hk
    rw[nR _ _ _ _ rfl,nR _ _ _ _ rfl] at h4
    rw[h4,hu]
  have h0:∃ u,w.cell? ⟨b,off+0*sz+0,none⟩=some u:=by
    obtain⟨_,h2,_⟩:=hf ⟨0,hpos'⟩
    exact⟨_,hc ⟨0,hpos'⟩ 0 _ (List.getElem?_eq_getElem (by omega))⟩
  obtain⟨u,hu⟩:=h0
  unfold World.cell? at hu
  split at hu
  · rename_i cells t' fr hb
    refine⟨b,off,cells,t',fr,rfl,hb,fun h=>(by cases h),fun j y hj=>?_⟩
    have hjl:j<len:=by have:=(List.getElem?_eq_some_iff.1 hj).1;simpa using this
    have hy:(f ⟨j,hjl⟩).1=y:=by
      rw[List.getElem?_ofFn] at hj
      simpa [hjl] using hj
    obtain⟨_,h2,h3⟩:=hf ⟨j,hjl⟩
    refine⟨(f ⟨j,hjl⟩).2,h2,by rw[← hy];exact h3,fun i u hi=>?_⟩
    have:=hc ⟨j,hjl⟩ i u hi
    rw[be hb] at this
    exact this
  · cases hu
theorem wO{α:Type}{R:World→α→List Value→Prop}{t e:TypeId}{sz fuel:Nat}{cs:List Value}{x:DataW H × List MemPlace}(ht:P.underlying t=some (.slice e))(hsz:P.cellsOf e=sz)(hp:0<sz)
    (hel:∀ n cs' y,cs'.length=sz→DataW.trod enc P w base spare held n e cs'=some y→∃ x,R w x cs') (h:DataW.trod enc P w base spare held fuel t cs=some x) : ∃ v xs,cs=[v]∧aR false e sz R w v xs :=
  nG (Pd:=fun _=>True) ht hsz hp (fun n cs' y h1 h2 _=>hel n cs' y h1 h2) (fun _ _ _ _ _=>trivial) h
end
section
variable {H:Type}{enc:TypeId × Value→H}{w:World}{base:Nat}{spare:Nat→Bool}{held:Bool}{n:Nat}{y:DataW H × List MemPlace}
theorem As{cs:List Value}(h:DataW.trod enc Tryz.prog w base spare held n 5 cs=some y) : ∃ x,np w x cs:=by
  obtain⟨k,rfl,_,hw⟩:=DataW.trod_int Tryz.underlying5 h
  exact⟨k,rfl,tp hw⟩
theorem yk{cs:List Value}(h:DataW.trod enc Tryz.prog w base spare held n 4 cs=some y) : ∃ x,sb w x cs:=by
  obtain⟨k,rfl,_⟩:=DataW.trod_bool Tryz.underlying4 h
  exact⟨k,rfl⟩
theorem Aa{cs:List Value}(h:DataW.trod enc Tryz.prog w base spare held n 27 cs=some y) : ∃ v xs,cs=[v]∧aS false w v xs:=wO Tryz.underlying27 (by kernel_rfl) (by decide) (fun _ _ _ _ h=>As h) h
end
open Go.RowKit
theorem Am{cs:List Value}{o:Nat}{v:Value}(h:(cs.drop o).take 1=[v]) : cs.drop o=v :: cs.drop (o+1):=by
  cases hd:cs.drop o with
  | nil=>rw[hd] at h;cases h
  | cons a l =>
    rw[hd] at h
    have h1:a=v:=by simpa using h
    rw[h1,← List.drop_drop,hd]
    rfl
theorem vy{cs:List Value}{n:Nat}(h:cs.length=n) : cs.drop n=[]:=by rw[← h];simp
section
variable {H:Type}{enc:TypeId × Value→H}{w:World}{base:Nat}{spare:Nat→Bool}{held:Bool}{n:Nat}{y:DataW H × List MemPlace}
end
end Go.Proofs.YtpglhicfhppaiaaGreat
namespace Go.Proofs.YtpglhicfhppaiaaGreat
open Go.WideShapes
def C7 (w:World)(b:List Int)(cs:List Value) : Prop:=∃ v,cs=[v]∧aS false w v b∧b.length≤140737488355328
section
variable {H:Type}{enc:TypeId × Value→H}{w:World}{base:Nat}{spare:Nat→Bool}{held:Bool}{n:Nat}{y:DataW H × List MemPlace}
theorem yP{cs:List Value}(h:DataW.trod enc Tryz.prog w base spare held n 27 cs=some y)(hp:∀ e2 s2,y.1 = .slice e2 s2→e2.length≤140737488355328) : ∃ b,C7 w b cs:=by
  obtain⟨v,xs,hc,hr⟩:=Aa h
  refine⟨xs,v,hc,hr,?_⟩
  obtain⟨A,c,hv,_,_⟩:=hr.shape
  rcases DataW.trod_slice Tryz.underlying27 h with⟨h1,_⟩|⟨a,len,cap,elems,rest,m,_,h1,h2,_,_,_,h3,_⟩
  · rw[hc] at h1
    simp only[List.cons.injEq,and_true] at h1
    rw[h1] at hv
    injection hv with _ h4 _
    omega
  · rw[hc] at h1
    simp only[List.cons.injEq,and_true] at h1
    rw[h1] at hv
    injection hv with _ h4 _
    have:=hp _ _ (by rw[h2])
    rw[List.length_map] at this
    omega
end
theorem gI{H:Type}{P:Program}{e:TypeId}{d:DataW H}{k:Nat}(hk:k∈d.weights P e) : ∀ {l:List (DataW H)},d∈l→k∈DataW.weightsAll P e l
  | [],h=>by cases h
  | x :: r,h=>by
    simp only[DataW.weightsAll,List.mem_append]
    rcases List.mem_cons.1 h with rfl|h
    · exact .inl hk
    · exact .inr (gI hk h)
end Go.Proofs.YtpglhicfhppaiaaGreat
namespace Go.Proofs.YtpglhicfhppaiaaGreat
open Go.WideShapes
theorem aR.ety{α:Type}{e e':TypeId}{sz:Nat}{R:World→α→List Value→Prop}{w:World}{v:Value}{xs:List α}(h:aR false e sz R w v xs) : aR false e' sz R w v xs:=by
  obtain⟨A,c,hv,h1,h2,h0,h3⟩:=h
  exact⟨A,c,hv,h1,h2,h0,fun hp=>by
    obtain⟨b,off,cells,t,fr,hA,hb,_,hx⟩:=h3 hp
    exact⟨b,off,cells,t,fr,hA,hb,(fun e=>by cases e),hx⟩⟩
def BT (w:World)(p:Pc)(cs:List Value) : Prop:=∃ v,cs=[v,.bool p.tick]∧aS false w v p.bytes∧p.bytes.length≤140737488355328
section
variable {H:Type}{enc:TypeId × Value→H}{w:World}{base:Nat}{spare:Nat→Bool}{held:Bool}{n:Nat}{y:DataW H × List MemPlace}
theorem yl{cs:List Value}(h:DataW.trod enc Tryz.prog w base spare held n 52 cs=some y)(hp:∀ l,y.1 = .agg l→∀ e2 s2,l[0]? = some (.slice e2 s2)→e2.length≤140737488355328) : ∃ p,BT w p cs:=by
  obtain⟨xs,m,rfl,hy,hlen,hxs,hf⟩:=DataW.trod_struct Tryz.underlying52 h
  rw[show Tryz.prog.cellsOf 52=2 from by kernel_rfl] at hlen
  replace hxs:xs.length=2:=hxs.trans (by kernel_rfl)
  obtain⟨y0,g0⟩ : ∃ y,xs[0]? = some y:=⟨_,List.getElem?_eq_getElem (show 0<xs.length by omega)⟩
  have f0:DataW.trod enc Tryz.prog w base spare held m 27 ((cs.drop 0).take (Tryz.prog.cellsOf 27))=xs[0]?:=hf 0 _ rfl
  rw[g0] at f0
  rw[show Tryz.prog.cellsOf 27=1 from by kernel_rfl] at f0
  obtain⟨b,v,e0,r0,r1⟩:=yP f0 fun e2 s2 he=>hp _ (by rw[hy]) e2 s2 (by rw[List.getElem?_map,g0];exact congrArg some he)
  obtain⟨y1,g1⟩ : ∃ y,xs[1]? = some y:=⟨_,List.getElem?_eq_getElem (show 1<xs.length by omega)⟩
  have f1:DataW.trod enc Tryz.prog w base spare held m 4 ((cs.drop 1).take (Tryz.prog.cellsOf 4))=xs[1]?:=hf 1 _ rfl
  rw[g1] at f1
  rw[show Tryz.prog.cellsOf 4=1 from by kernel_rfl] at f1
  obtain⟨t,e1⟩:=yk f1
  have e1:(cs.drop 1).take 1=[.bool t]:=e1
  have hcs:cs=[v,.bool t]:=by
    show cs.drop 0=_
    rw[Am e0,Am e1,vy hlen]
  exact⟨⟨b,t⟩,v,hcs,r0,r1⟩
theorem xL{cs:List Value}(h:DataW.trod enc Tryz.prog w base spare held n 48 cs=some y)(hp:∀ elems sp,y.1 = .slice elems sp→(∀ d,d∈elems→∀ l,d = .agg l→∀ e2 s2,l[0]? = some (.slice e2 s2)→e2.length≤140737488355328)∧elems.length≤4398046511104) :
    ∃ v ps,cs=[v]∧jO false w v ps∧(∀ p,p∈ps→p.bytes.length≤140737488355328)∧ps.length≤4398046511104:=by
  obtain⟨v,xs,hc,hr⟩:=nG (R:=BT) (sz:=2) (Pd:=fun d=>∀ l,d = .agg l→∀ e2 s2,l[0]? = some (.slice e2 s2)→e2.length≤140737488355328) Tryz.underlying48 (by kernel_rfl) (by decide) (fun _ _ _ _ h hp=>yl h hp) (fun elems sp he=>(hp elems sp he).1) h
  refine⟨v,xs,hc,aR.ety (aR.any (R':=BP false) hr (fun _ _ ⟨v,h1,h2,_⟩=>⟨v,h1,h2⟩)),fun x hx=>?_,?_⟩
  · obtain⟨A,c,rfl,_,_⟩:=hr.shape
    obtain⟨j,hj⟩:=List.getElem?_of_mem hx
    have hl:=(List.getElem?_eq_some_iff.1 hj).1
    obtain⟨_,_,_,_,_,_,_,_,_,⟨_,_,_,h4⟩,_⟩:=aR.elt hr Pc.z j hl
    rw[List.getD_eq_getElem?_getD,hj] at h4
    exact h4
  · obtain⟨A,c,hv,_,_⟩:=hr.shape
    rcases DataW.trod_slice Tryz.underlying48 h with⟨h1,_⟩|⟨a,len,cap,elems,rest,m,_,h1,h2,_,_,_,h3,_⟩
    · rw[hc] at h1
      simp only[List.cons.injEq,and_true] at h1
      rw[h1] at hv
      injection hv with _ h4 _
      omega
    · rw[hc] at h1
      simp only[List.cons.injEq,and_true] at h1
      rw[h1] at hv
      injection hv with _ h4 _
      have:=(hp _ _ (by rw[h2])).2
      rw[List.length_map] at this
      omega
end
theorem xO{H:Type}{ts:List TypeId}{ds:List (DataW H)}(h:(DataW.weightsEach Tryz.prog ts ds).all (·≤reachBytes)=true){j:Nat}{d:DataW H}(ht:ts[j]? = some 48)(hd:ds[j]? = some d) :
    ∀ elems sp,d = .slice elems sp→(∀ d2,d2∈elems→∀ l,d2 = .agg l→∀ e2 s2,l[0]? = some (.slice e2 s2)→e2.length≤140737488355328)∧elems.length≤4398046511104:=by
  rintro elems sp rfl
  refine⟨?_,?_⟩
  · rintro d2 hm l rfl e2 s2 h3
    obtain⟨r,rfl⟩ : ∃ r,l = .slice e2 s2 :: r:=by
      cases l with
      | nil=>cases h3
      | cons x r=>exact⟨r,by rw[List.getElem?_cons_zero] at h3;injection h3 with h3;rw[h3]⟩
    have hw:(e2.length+s2.length)*Tryz.prog.bytesOf 5∈(DataW.slice elems sp).weights Tryz.prog 48:=by
      simp only[DataW.weights,Tryz.underlying48,List.mem_cons,List.mem_append]
      refine .inr (.inl (gI ?_ hm))
      simp only[DataW.weights,Tryz.underlying52,List.map_cons,List.map_nil,DataW.weightsEach,List.mem_append]
      refine .inl ?_
      simp only[DataW.weights,Tryz.underlying27,List.mem_cons]
      exact .inl trivial
    have h2:=List.all_eq_true.1 h _ (DataW.weights_mem_each ht hd _ hw)
    have h3:(e2.length+s2.length)*Tryz.prog.bytesOf 5≤reachBytes:=by simpa using h2
    rw[show Tryz.prog.bytesOf 5=1 from by kernel_rfl] at h3
    have h4:reachBytes<2 ^ 47:=reachBytes_lt
    omega
  · have h2:=sized_slice h ht hd Tryz.underlying48
    rw[show Tryz.prog.bytesOf 52=32 from by kernel_rfl] at h2
    have h4:reachBytes<2 ^ 47:=reachBytes_lt
    omega
end Go.Proofs.YtpglhicfhppaiaaGreat
