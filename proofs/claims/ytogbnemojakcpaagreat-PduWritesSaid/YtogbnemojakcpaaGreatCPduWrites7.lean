/- Contracts of functions, part CPduWrites7. -/
import Derived.Test.YtogbnemojakcpaaGreatCPduWrites1
import Derived.Test.YtogbnemojakcpaaGreatCPduWrites2
import Derived.Test.YtogbnemojakcpaaGreatCPduWrites3
import Derived.Test.YtogbnemojakcpaaGreatCPduWrites4
import Derived.Test.YtogbnemojakcpaaGreatCPduWrites5
import Derived.Test.YtogbnemojakcpaaGreatCPduWrites6
import Derived.Deep.Slices
import Derived.ChangeArms
import Derived.WideShapes
set_option linter.unusedVariables false
set_option linter.unusedSimpArgs false
set_option maxRecDepth 100000
set_option maxHeartbeats 4000000
namespace Go.Proofs.YtogbnemojakcpaaGreat
open Go.RowKit
theorem pz{α:Type}{xs ys:List α}{d:α}{k:Nat}(h:xs.take k=ys.take k)(hk:k<xs.length)(hl:xs.length=ys.length)(he:xs.getD k d=ys.getD k d) : xs.take (k+1)=ys.take (k+1):=by
  have hk2:k<ys.length:=by omega
  rw[List.take_succ_eq_append_getElem hk,List.take_succ_eq_append_getElem hk2,h]
  rw[List.getD_eq_getElem?_getD,List.getElem?_eq_getElem hk,List.getD_eq_getElem?_getD,List.getElem?_eq_getElem (by omega)] at he
  simp only[Option.getD_some] at he
  rw[he]
theorem vE{a b:dt}(h:((((!(decide (a.words=b.words)))||(a.file != b.file))||(a.record != b.record))||(a.count != b.count))=false) : a=b:=by
  cases a
  cases b
  simp at h
  simp[h]
theorem vS{a b:Obj}(h:((!(decide (a.value=b.value)))||(a.id != b.id))=false) : a=b:=by
  cases a
  cases b
  simp at h
  simp[h]
theorem uw{a b:Obj}(h:(!(decide (a.value=b.value)))=false)(h2:(a.id != b.id)=false) : a=b:=vS (by rw[h,h2];rfl)
theorem lR{A B:aQ}{f:aQ→aQ→Bool}(h:f A B=true)(hf:∀ M,f M M=false) : decide (A=B)=false:=decide_eq_false fun e=>by rw[e,hf] at h;cases h
theorem tb{A B:aQ}(h1:((((((((((((A.code != B.code)||(A.fail != B.fail))||(A.addr != B.addr))||(A.count != B.count))||(A.value != B.value))||(A.and_ != B.and_))||(A.or_ != B.or_))||(A.addr2 != B.addr2))||(A.sub != B.sub))||(A.status != B.status))||(A.events != B.events))||(A.messages != B.messages))=false)(h2:(((((A.mei != B.mei)||(A.kind != B.kind))||(A.level != B.level))||(A.more != B.more))||(A.next != B.next))=false)(h3:(((((!(decide (A.words=B.words)))||(!(decide (A.bits=B.bits))))||(!(decide (A.data=B.data))))||(((A.recs.length:Nat) : Int)!=((B.recs.length:Nat) : Int)))||(((A.objects.length:Nat) : Int)!=((B.objects.length:Nat) : Int)))=false)(hr:A.recs.length=B.recs.length→A.recs=B.recs)(ho:A.objects.length=B.objects.length→A.objects=B.objects) : A=B:=by
  cases A
  cases B
  simp only[Bool.or_eq_false_iff,bne_eq_false_iff_eq,Bool.not_eq_false',decide_eq_true_eq] at h1 h2 h3
  simp only at hr ho
  obtain⟨⟨⟨⟨⟨⟨⟨⟨⟨⟨⟨a1,a2⟩,a3⟩,a4⟩,a5⟩,a6⟩,a7⟩,a8⟩,a9⟩,a⟩,b⟩,c⟩:=h1
  obtain⟨⟨⟨⟨b1,b2⟩,b3⟩,b4⟩,b5⟩:=h2
  obtain⟨⟨⟨⟨d1,d2⟩,d3⟩,d4⟩,d5⟩:=h3
  have d4:=hr (by omega)
  have d5:=ho (by omega)
  subst a1 a2 a3 a4 a5 a6 a7 a8 a9 a b c b1 b2 b3 b4 b5 d1 d2 d3 d4 d5
  rfl
theorem dG{m m':Md}{pc qc:Array Value}{A B:aQ}{w:World}(ha:aO m w pc.toList A)(hb:aO m' w qc.toList B) :
    Calls Tryz.prog 26 #[.agg pc,.agg qc] w (dM (.bool (decide (A=B))) w):=by
 have pM:=ha
 obtain⟨pvw,pvb,pvd,pvr,pvo,ph0,phw,phb,phd,phr,pho,pR⟩:=ha
 obtain rfl:pc=(bu A pvw pvb pvd pvr pvo).toArray:=by apply Array.toList_inj.1;simpa using ph0
 clear ph0
 obtain⟨pw,pkw,rfl,_,_⟩:=phw.shape
 obtain⟨pb,pkb,rfl,_,_⟩:=phb.shape
 obtain⟨pd,pkd,rfl,_,_⟩:=phd.shape
 obtain⟨pr,pkr,rfl,_,_⟩:=phr.shape
 obtain⟨po,pko,rfl,_,_⟩:=pho.shape
 have qM:=hb
 obtain⟨qvw,qvb,qvd,qvr,qvo,qh0,qhw,qhb,qhd,qhr,qho,qR⟩:=hb
 obtain rfl:qc=(bu B qvw qvb qvd qvr qvo).toArray:=by apply Array.toList_inj.1;simpa using qh0
 clear qh0
 obtain⟨qw,qkw,rfl,_,_⟩:=qhw.shape
 obtain⟨qb,qkb,rfl,_,_⟩:=qhb.shape
 obtain⟨qd,qkd,rfl,_,_⟩:=qhd.shape
 obtain⟨qr,qkr,rfl,_,_⟩:=qhr.shape
 obtain⟨qo,qko,rfl,_,_⟩:=qho.shape
 have hz1:=aS.len phr
 have hz2:=aS.len pho
 refine en 254 Tryz.func26 rfl<|sg<|L0<|dC (mG A.code A.fail A.addr A.count A.value A.and_ A.or_ A.addr2 A.sub A.status A.events A.messages (.slice pw A.words.length pkw) (.slice pb A.bits.length pkb) (.slice pd A.data.length pkd) (.slice pr A.recs.length pkr) A.mei A.kind A.level A.more A.next (.slice po A.objects.length pko)) fun i dJ dK cf cg=>L0<|dC (mG B.code B.fail B.addr B.count B.value B.and_ B.or_ B.addr2 B.sub B.status B.events B.messages (.slice qw B.words.length qkw) (.slice qb B.bits.length qkb) (.slice qd B.data.length qkd) (.slice qr B.recs.length qkr) B.mei B.kind B.level B.more B.next (.slice qo B.objects.length qko)) fun l dL dO b ay=>Pl 1<|nt<|sq<|sg<|Pl 1<|?_
 have c:=ub ay cf
 refine L0<|aP c 0<|Pl 1<|L0<|aP b 0<|Pl 2<|cu 6 [19] 25 (((A.code != B.code)||(A.fail != B.fail))) (fun K aA=>?_) ?_
 refine bl 19 ((A.code != B.code)) (fun q=>?_) (fun q=>?_)
 have ch:=az q
 exact Pl 6<|ce aA true (by rw[q];rfl)
 have ch:=aj q
 exact Pl 1<|L1<|aP c 1<|Pl 1<|L1<|aP b 1<|Pl 2<|ce aA (A.fail != B.fail) (by rw[q];rfl)
 refine Pl 1<|cu 6 [26] 32 ((((A.code != B.code)||(A.fail != B.fail))||(A.addr != B.addr))) (fun K aB=>?_) ?_
 refine bl 26 (((A.code != B.code)||(A.fail != B.fail))) (fun r=>?_) (fun r=>?_)
 exact Pl 6<|ce aB true (by rw[r];rfl)
 have ci:=(aI r).1
 have cj:=(aI r).2
 have dP:=aj ci
 have dQ:=aj cj
 exact Pl 1<|L1<|aP c 2<|Pl 1<|L1<|aP b 2<|Pl 2<|ce aB (A.addr != B.addr) (by rw[r];rfl)
 refine Pl 1<|cu 6 [33] 39 (((((A.code != B.code)||(A.fail != B.fail))||(A.addr != B.addr))||(A.count != B.count))) (fun K aC=>?_) ?_
 refine bl 33 ((((A.code != B.code)||(A.fail != B.fail))||(A.addr != B.addr))) (fun s=>?_) (fun s=>?_)
 exact Pl 6<|ce aC true (by rw[s];rfl)
 have aD:=(aI s).1
 have ck:=(aI s).2
 have cl:=(aI aD).1
 have cm:=(aI aD).2
 have q25aap:=aj cl
 have q25abp:=aj cm
 have dR:=aj ck
 exact Pl 1<|L1<|aP c 3<|Pl 1<|L1<|aP b 3<|Pl 2<|ce aC (A.count != B.count) (by rw[s];rfl)
 refine Pl 1<|cu 6 [40] 46 ((((((A.code != B.code)||(A.fail != B.fail))||(A.addr != B.addr))||(A.count != B.count))||(A.value != B.value))) (fun K aF=>?_) ?_
 refine bl 40 (((((A.code != B.code)||(A.fail != B.fail))||(A.addr != B.addr))||(A.count != B.count))) (fun t=>?_) (fun t=>?_)
 exact Pl 6<|ce aF true (by rw[t];rfl)
 have aH:=(aI t).1
 have cn:=(aI t).2
 have aJ:=(aI aH).1
 have co:=(aI aH).2
 have q27aaa:=(aI aJ).1
 have q27aab:=(aI aJ).2
 have q27aaap:=aj q27aaa
 have q27aabp:=aj q27aab
 have q27abp:=aj co
 have dS:=aj cn
 exact Pl 1<|L1<|aP c 4<|Pl 1<|L1<|aP b 4<|Pl 2<|ce aF (A.value != B.value) (by rw[t];rfl)
 refine Pl 1<|cu 6 [47] 53 (((((((A.code != B.code)||(A.fail != B.fail))||(A.addr != B.addr))||(A.count != B.count))||(A.value != B.value))||(A.and_ != B.and_))) (fun K aK=>?_) ?_
 refine bl 47 ((((((A.code != B.code)||(A.fail != B.fail))||(A.addr != B.addr))||(A.count != B.count))||(A.value != B.value))) (fun u=>?_) (fun u=>?_)
 exact Pl 6<|ce aK true (by rw[u];rfl)
 have aL:=(aI u).1
 have cp:=(aI u).2
 have aM:=(aI aL).1
 have cq:=(aI aL).2
 have q29aaa:=(aI aM).1
 have q29aab:=(aI aM).2
 have q29aaaa:=(aI q29aaa).1
 have q29aaab:=(aI q29aaa).2
 have q29aaaap:=aj q29aaaa
 have q29aaabp:=aj q29aaab
 have q29aabp:=aj q29aab
 have q29abp:=aj cq
 have dT:=aj cp
 exact Pl 1<|L1<|aP c 5<|Pl 1<|L1<|aP b 5<|Pl 2<|ce aK (A.and_ != B.and_) (by rw[u];rfl)
 refine Pl 1<|cu 6 [54] 60 ((((((((A.code != B.code)||(A.fail != B.fail))||(A.addr != B.addr))||(A.count != B.count))||(A.value != B.value))||(A.and_ != B.and_))||(A.or_ != B.or_))) (fun K aN=>?_) ?_
 refine bl 54 (((((((A.code != B.code)||(A.fail != B.fail))||(A.addr != B.addr))||(A.count != B.count))||(A.value != B.value))||(A.and_ != B.and_))) (fun v=>?_) (fun v=>?_)
 exact Pl 6<|ce aN true (by rw[v];rfl)
 have aR:=(aI v).1
 have cr:=(aI v).2
 have aT:=(aI aR).1
 have cs:=(aI aR).2
 have q31aaa:=(aI aT).1
 have q31aab:=(aI aT).2
 have q31aaaa:=(aI q31aaa).1
 have q31aaab:=(aI q31aaa).2
 have q31aaaaa:=(aI q31aaaa).1
 have q31aaaab:=(aI q31aaaa).2
 have q31aaaaap:=aj q31aaaaa
 have q31aaaabp:=aj q31aaaab
 have q31aaabp:=aj q31aaab
 have q31aabp:=aj q31aab
 have q31abp:=aj cs
 have dU:=aj cr
 exact Pl 1<|L1<|aP c 6<|Pl 1<|L1<|aP b 6<|Pl 2<|ce aN (A.or_ != B.or_) (by rw[v];rfl)
 refine Pl 1<|cu 6 [61] 67 (((((((((A.code != B.code)||(A.fail != B.fail))||(A.addr != B.addr))||(A.count != B.count))||(A.value != B.value))||(A.and_ != B.and_))||(A.or_ != B.or_))||(A.addr2 != B.addr2))) (fun K aU=>?_) ?_
 refine bl 61 ((((((((A.code != B.code)||(A.fail != B.fail))||(A.addr != B.addr))||(A.count != B.count))||(A.value != B.value))||(A.and_ != B.and_))||(A.or_ != B.or_))) (fun z=>?_) (fun z=>?_)
 exact Pl 6<|ce aU true (by rw[z];rfl)
 have aV:=(aI z).1
 have ct:=(aI z).2
 have aW:=(aI aV).1
 have cv:=(aI aV).2
 have q33aaa:=(aI aW).1
 have q33aab:=(aI aW).2
 have q33aaaa:=(aI q33aaa).1
 have q33aaab:=(aI q33aaa).2
 have q33aaaaa:=(aI q33aaaa).1
 have q33aaaab:=(aI q33aaaa).2
 have q33aaaaaa:=(aI q33aaaaa).1
 have q33aaaaab:=(aI q33aaaaa).2
 have q33aaaaaap:=aj q33aaaaaa
 have q33aaaaabp:=aj q33aaaaab
 have q33aaaabp:=aj q33aaaab
 have q33aaabp:=aj q33aaab
 have q33aabp:=aj q33aab
 have q33abp:=aj cv
 have dV:=aj ct
 exact Pl 1<|L1<|aP c 7<|Pl 1<|L1<|aP b 7<|Pl 2<|ce aU (A.addr2 != B.addr2) (by rw[z];rfl)
 refine Pl 1<|cu 6 [68] 74 ((((((((((A.code != B.code)||(A.fail != B.fail))||(A.addr != B.addr))||(A.count != B.count))||(A.value != B.value))||(A.and_ != B.and_))||(A.or_ != B.or_))||(A.addr2 != B.addr2))||(A.sub != B.sub))) (fun K aX=>?_) ?_
 refine bl 68 (((((((((A.code != B.code)||(A.fail != B.fail))||(A.addr != B.addr))||(A.count != B.count))||(A.value != B.value))||(A.and_ != B.and_))||(A.or_ != B.or_))||(A.addr2 != B.addr2))) (fun C=>?_) (fun C=>?_)
 exact Pl 6<|ce aX true (by rw[C];rfl)
 have aY:=(aI C).1
 have cw:=(aI C).2
 have aZ:=(aI aY).1
 have cx:=(aI aY).2
 have q35aaa:=(aI aZ).1
 have q35aab:=(aI aZ).2
 have q35aaaa:=(aI q35aaa).1
 have q35aaab:=(aI q35aaa).2
 have q35aaaaa:=(aI q35aaaa).1
 have q35aaaab:=(aI q35aaaa).2
 have q35aaaaaa:=(aI q35aaaaa).1
 have q35aaaaab:=(aI q35aaaaa).2
 have q35aaaaaaa:=(aI q35aaaaaa).1
 have q35aaaaaab:=(aI q35aaaaaa).2
 have q35aaaaaaap:=aj q35aaaaaaa
 have q35aaaaaabp:=aj q35aaaaaab
 have q35aaaaabp:=aj q35aaaaab
 have q35aaaabp:=aj q35aaaab
 have q35aaabp:=aj q35aaab
 have q35aabp:=aj q35aab
 have q35abp:=aj cx
 have dW:=aj cw
 exact Pl 1<|L1<|aP c 8<|Pl 1<|L1<|aP b 8<|Pl 2<|ce aX (A.sub != B.sub) (by rw[C];rfl)
 refine Pl 1<|cu 6 [75] 81 (((((((((((A.code != B.code)||(A.fail != B.fail))||(A.addr != B.addr))||(A.count != B.count))||(A.value != B.value))||(A.and_ != B.and_))||(A.or_ != B.or_))||(A.addr2 != B.addr2))||(A.sub != B.sub))||(A.status != B.status))) (fun K b0=>?_) ?_
 refine bl 75 ((((((((((A.code != B.code)||(A.fail != B.fail))||(A.addr != B.addr))||(A.count != B.count))||(A.value != B.value))||(A.and_ != B.and_))||(A.or_ != B.or_))||(A.addr2 != B.addr2))||(A.sub != B.sub))) (fun D=>?_) (fun D=>?_)
 exact Pl 6<|ce b0 true (by rw[D];rfl)
 have b1:=(aI D).1
 have cy:=(aI D).2
 have b2:=(aI b1).1
 have cz:=(aI b1).2
 have q37aaa:=(aI b2).1
 have q37aab:=(aI b2).2
 have q37aaaa:=(aI q37aaa).1
 have q37aaab:=(aI q37aaa).2
 have q37aaaaa:=(aI q37aaaa).1
 have q37aaaab:=(aI q37aaaa).2
 have q37aaaaaa:=(aI q37aaaaa).1
 have q37aaaaab:=(aI q37aaaaa).2
 have q37aaaaaaa:=(aI q37aaaaaa).1
 have q37aaaaaab:=(aI q37aaaaaa).2
 have q37aaaaaaaa:=(aI q37aaaaaaa).1
 have q37aaaaaaab:=(aI q37aaaaaaa).2
 have q37aaaaaaaap:=aj q37aaaaaaaa
 have q37aaaaaaabp:=aj q37aaaaaaab
 have q37aaaaaabp:=aj q37aaaaaab
 have q37aaaaabp:=aj q37aaaaab
 have q37aaaabp:=aj q37aaaab
 have q37aaabp:=aj q37aaab
 have q37aabp:=aj q37aab
 have q37abp:=aj cz
 have dX:=aj cy
 exact Pl 1<|L1<|aP c 9<|Pl 1<|L1<|aP b 9<|Pl 2<|ce b0 (A.status != B.status) (by rw[D];rfl)
 refine Pl 1<|cu 6 [82] 88 ((((((((((((A.code != B.code)||(A.fail != B.fail))||(A.addr != B.addr))||(A.count != B.count))||(A.value != B.value))||(A.and_ != B.and_))||(A.or_ != B.or_))||(A.addr2 != B.addr2))||(A.sub != B.sub))||(A.status != B.status))||(A.events != B.events))) (fun K b3=>?_) ?_
 refine bl 82 (((((((((((A.code != B.code)||(A.fail != B.fail))||(A.addr != B.addr))||(A.count != B.count))||(A.value != B.value))||(A.and_ != B.and_))||(A.or_ != B.or_))||(A.addr2 != B.addr2))||(A.sub != B.sub))||(A.status != B.status))) (fun E=>?_) (fun E=>?_)
 exact Pl 6<|ce b3 true (by rw[E];rfl)
 have b4:=(aI E).1
 have cA:=(aI E).2
 have b5:=(aI b4).1
 have cB:=(aI b4).2
 have q39aaa:=(aI b5).1
 have q39aab:=(aI b5).2
 have q39aaaa:=(aI q39aaa).1
 have q39aaab:=(aI q39aaa).2
 have q39aaaaa:=(aI q39aaaa).1
 have q39aaaab:=(aI q39aaaa).2
 have q39aaaaaa:=(aI q39aaaaa).1
 have q39aaaaab:=(aI q39aaaaa).2
 have q39aaaaaaa:=(aI q39aaaaaa).1
 have q39aaaaaab:=(aI q39aaaaaa).2
 have q39aaaaaaaa:=(aI q39aaaaaaa).1
 have q39aaaaaaab:=(aI q39aaaaaaa).2
 have q39aaaaaaaaa:=(aI q39aaaaaaaa).1
 have q39aaaaaaaab:=(aI q39aaaaaaaa).2
 have q39aaaaaaaaap:=aj q39aaaaaaaaa
 have q39aaaaaaaabp:=aj q39aaaaaaaab
 have q39aaaaaaabp:=aj q39aaaaaaab
 have q39aaaaaabp:=aj q39aaaaaab
 have q39aaaaabp:=aj q39aaaaab
 have q39aaaabp:=aj q39aaaab
 have q39aaabp:=aj q39aaab
 have q39aabp:=aj q39aab
 have q39abp:=aj cB
 have dY:=aj cA
 exact Pl 1<|L1<|aP c 10<|Pl 1<|L1<|aP b 10<|Pl 2<|ce b3 (A.events != B.events) (by rw[E];rfl)
 refine Pl 1<|cu 6 [89] 95 (((((((((((((A.code != B.code)||(A.fail != B.fail))||(A.addr != B.addr))||(A.count != B.count))||(A.value != B.value))||(A.and_ != B.and_))||(A.or_ != B.or_))||(A.addr2 != B.addr2))||(A.sub != B.sub))||(A.status != B.status))||(A.events != B.events))||(A.messages != B.messages))) (fun K b6=>?_) ?_
 refine bl 89 ((((((((((((A.code != B.code)||(A.fail != B.fail))||(A.addr != B.addr))||(A.count != B.count))||(A.value != B.value))||(A.and_ != B.and_))||(A.or_ != B.or_))||(A.addr2 != B.addr2))||(A.sub != B.sub))||(A.status != B.status))||(A.events != B.events))) (fun F=>?_) (fun F=>?_)
 exact Pl 6<|ce b6 true (by rw[F];rfl)
 have b7:=(aI F).1
 have cC:=(aI F).2
 have b8:=(aI b7).1
 have cD:=(aI b7).2
 have q41aaa:=(aI b8).1
 have q41aab:=(aI b8).2
 have q41aaaa:=(aI q41aaa).1
 have q41aaab:=(aI q41aaa).2
 have q41aaaaa:=(aI q41aaaa).1
 have q41aaaab:=(aI q41aaaa).2
 have q41aaaaaa:=(aI q41aaaaa).1
 have q41aaaaab:=(aI q41aaaaa).2
 have q41aaaaaaa:=(aI q41aaaaaa).1
 have q41aaaaaab:=(aI q41aaaaaa).2
 have q41aaaaaaaa:=(aI q41aaaaaaa).1
 have q41aaaaaaab:=(aI q41aaaaaaa).2
 have q41aaaaaaaaa:=(aI q41aaaaaaaa).1
 have q41aaaaaaaab:=(aI q41aaaaaaaa).2
 have q41aaaaaaaaaa:=(aI q41aaaaaaaaa).1
 have q41aaaaaaaaab:=(aI q41aaaaaaaaa).2
 have q41aaaaaaaaaap:=aj q41aaaaaaaaaa
 have q41aaaaaaaaabp:=aj q41aaaaaaaaab
 have q41aaaaaaaabp:=aj q41aaaaaaaab
 have q41aaaaaaabp:=aj q41aaaaaaab
 have q41aaaaaabp:=aj q41aaaaaab
 have q41aaaaabp:=aj q41aaaaab
 have q41aaaabp:=aj q41aaaab
 have q41aaabp:=aj q41aaab
 have q41aabp:=aj q41aab
 have q41abp:=aj cD
 have dZ:=aj cC
 exact Pl 1<|L1<|aP c 11<|Pl 1<|L1<|aP b 11<|Pl 2<|ce b6 (A.messages != B.messages) (by rw[F];rfl)
 refine nt<|?_
 have G:=aG cg ay
 refine cb (((((((((((((A.code != B.code)||(A.fail != B.fail))||(A.addr != B.addr))||(A.count != B.count))||(A.value != B.value))||(A.and_ != B.and_))||(A.or_ != B.or_))||(A.addr2 != B.addr2))||(A.sub != B.sub))||(A.status != B.status))||(A.events != B.events))||(A.messages != B.messages))) (fun H=>?_) (fun H=>?_)
 refine sg<|Pl 1<|nt<|rt<|tr<|rr (.bool false)<|?_
 have hs:decide (A=B)=false:=lR (f:=fun x y=>((((((((((((x.code != y.code)||(x.fail != y.fail))||(x.addr != y.addr))||(x.count != y.count))||(x.value != y.value))||(x.and_ != y.and_))||(x.or_ != y.or_))||(x.addr2 != y.addr2))||(x.sub != y.sub))||(x.status != y.status))||(x.events != y.events))||(x.messages != y.messages))) H (fun M=>by simp)
 rw[hs]
 exact⟨rfl,G⟩
 have b9:=(aI H).1
 have cE:=(aI H).2
 have ba:=(aI b9).1
 have cF:=(aI b9).2
 have q44aaa:=(aI ba).1
 have q44aab:=(aI ba).2
 have q44aaaa:=(aI q44aaa).1
 have q44aaab:=(aI q44aaa).2
 have q44aaaaa:=(aI q44aaaa).1
 have q44aaaab:=(aI q44aaaa).2
 have q44aaaaaa:=(aI q44aaaaa).1
 have q44aaaaab:=(aI q44aaaaa).2
 have q44aaaaaaa:=(aI q44aaaaaa).1
 have q44aaaaaab:=(aI q44aaaaaa).2
 have q44aaaaaaaa:=(aI q44aaaaaaa).1
 have q44aaaaaaab:=(aI q44aaaaaaa).2
 have q44aaaaaaaaa:=(aI q44aaaaaaaa).1
 have q44aaaaaaaab:=(aI q44aaaaaaaa).2
 have q44aaaaaaaaaa:=(aI q44aaaaaaaaa).1
 have q44aaaaaaaaab:=(aI q44aaaaaaaaa).2
 have q44aaaaaaaaaaa:=(aI q44aaaaaaaaaa).1
 have q44aaaaaaaaaab:=(aI q44aaaaaaaaaa).2
 have q44aaaaaaaaaaap:=aj q44aaaaaaaaaaa
 have q44aaaaaaaaaabp:=aj q44aaaaaaaaaab
 have q44aaaaaaaaabp:=aj q44aaaaaaaaab
 have q44aaaaaaaabp:=aj q44aaaaaaaab
 have q44aaaaaaabp:=aj q44aaaaaaab
 have q44aaaaaabp:=aj q44aaaaaab
 have q44aaaaabp:=aj q44aaaaab
 have q44aaaabp:=aj q44aaaab
 have q44aaabp:=aj q44aaab
 have q44aabp:=aj q44aab
 have q44abp:=aj cF
 have e0:=aj cE
 refine bp<|sq<|sg<|Pl 1<|L0<|aP c 16<|Pl 1<|L0<|aP b 16<|Pl 2<|cu 6 [101] 107 (((A.mei != B.mei)||(A.kind != B.kind))) (fun K bb=>?_) ?_
 refine bl 101 ((A.mei != B.mei)) (fun I=>?_) (fun I=>?_)
 have cG:=az I
 exact Pl 6<|ce bb true (by rw[I];rfl)
 have cG:=aj I
 exact Pl 1<|L1<|aP c 17<|Pl 1<|L1<|aP b 17<|Pl 2<|ce bb (A.kind != B.kind) (by rw[I];rfl)
 refine Pl 1<|cu 6 [108] 114 ((((A.mei != B.mei)||(A.kind != B.kind))||(A.level != B.level))) (fun K bc=>?_) ?_
 refine bl 108 (((A.mei != B.mei)||(A.kind != B.kind))) (fun J=>?_) (fun J=>?_)
 exact Pl 6<|ce bc true (by rw[J];rfl)
 have cH:=(aI J).1
 have cI:=(aI J).2
 have e1:=aj cH
 have e2:=aj cI
 exact Pl 1<|L1<|aP c 18<|Pl 1<|L1<|aP b 18<|Pl 2<|ce bc (A.level != B.level) (by rw[J];rfl)
 refine Pl 1<|cu 6 [115] 121 (((((A.mei != B.mei)||(A.kind != B.kind))||(A.level != B.level))||(A.more != B.more))) (fun K bd=>?_) ?_
 refine bl 115 ((((A.mei != B.mei)||(A.kind != B.kind))||(A.level != B.level))) (fun L=>?_) (fun L=>?_)
 exact Pl 6<|ce bd true (by rw[L];rfl)
 have bf:=(aI L).1
 have cJ:=(aI L).2
 have cK:=(aI bf).1
 have cL:=(aI bf).2
 have q49aap:=aj cK
 have q49abp:=aj cL
 have e3:=aj cJ
 exact Pl 1<|L1<|aP c 19<|Pl 1<|L1<|aP b 19<|Pl 2<|ce bd (A.more != B.more) (by rw[L];rfl)
 refine Pl 1<|cu 6 [122] 128 ((((((A.mei != B.mei)||(A.kind != B.kind))||(A.level != B.level))||(A.more != B.more))||(A.next != B.next))) (fun K bg=>?_) ?_
 refine bl 122 (((((A.mei != B.mei)||(A.kind != B.kind))||(A.level != B.level))||(A.more != B.more))) (fun N=>?_) (fun N=>?_)
 exact Pl 6<|ce bg true (by rw[N];rfl)
 have bh:=(aI N).1
 have cM:=(aI N).2
 have bj:=(aI bh).1
 have cN:=(aI bh).2
 have q51aaa:=(aI bj).1
 have q51aab:=(aI bj).2
 have q51aaap:=aj q51aaa
 have q51aabp:=aj q51aab
 have q51abp:=aj cN
 have e4:=aj cM
 exact Pl 1<|L1<|aP c 20<|Pl 1<|L1<|aP b 20<|Pl 2<|ce bg (A.next != B.next) (by rw[N];rfl)
 refine nt<|cb ((((((A.mei != B.mei)||(A.kind != B.kind))||(A.level != B.level))||(A.more != B.more))||(A.next != B.next))) (fun O=>?_) (fun O=>?_)
 refine sg<|Pl 1<|nt<|rt<|tr<|rr (.bool false)<|?_
 have hs:decide (A=B)=false:=lR (f:=fun x y=>(((((x.mei != y.mei)||(x.kind != y.kind))||(x.level != y.level))||(x.more != y.more))||(x.next != y.next))) O (fun M=>by simp)
 rw[hs]
 exact⟨rfl,G⟩
 have bm:=(aI O).1
 have cO:=(aI O).2
 have bq:=(aI bm).1
 have cP:=(aI bm).2
 have q53aaa:=(aI bq).1
 have q53aab:=(aI bq).2
 have q53aaaa:=(aI q53aaa).1
 have q53aaab:=(aI q53aaa).2
 have q53aaaap:=aj q53aaaa
 have q53aaabp:=aj q53aaab
 have q53aabp:=aj q53aab
 have q53abp:=aj cP
 have e5:=aj cO
 refine bp<|sg<|Pl 1<|L0<|aP c 12<|Pl 1<|L0<|aP b 12<|?_
 refine L0<|Oc<|m1 (iC (dN.old phw G) (dN.old qhw G)) fun e6 aa=>Pl 1<|ng<|Pl 1<|?_
 have bs:=ub aa c
 refine L0<|aP bs 13<|Pl 1<|?_
 have bt:=ub aa b
 refine L0<|aP bt 13<|?_
 have ab:=aG G aa
 refine L0<|Oc<|m1 (mH (gQ.old phb ab) (gQ.old qhb ab)) fun e7 ac=>Pl 1<|ng<|Pl 1<|?_
 have a2:=ub ac bs
 refine L0<|aP a2 14<|Pl 1<|?_
 have P:=ub ac bt
 refine L0<|aP P 14<|?_
 have ad:=aG ab ac
 refine L0<|Oc<|m1 (i7 (bo.old phd ad) (bo.old qhd ad)) fun cQ n=>Pl 1<|nt<|sq<|sg<|Pl 3<|cu 3 [146] 149 (((!(decide (A.words=B.words)))||(!(decide (A.bits=B.bits))))) (fun K bv=>?_) ?_
 refine bl 146 ((!(decide (A.words=B.words)))) (fun Q=>?_) (fun Q=>?_)
 have ae:(decide (A.words=B.words))=false:=by simpa using Q
 have cR:=of_decide_eq_false ae
 exact Pl 3<|ce bv true (by rw[Q];rfl)
 have ae:(decide (A.words=B.words))=true:=by simpa using Q
 have cR:=of_decide_eq_true ae
 exact Pl 3<|ce bv (!(decide (A.bits=B.bits))) (by rw[Q];rfl)
 refine Pl 1<|cu 3 [150] 153 ((((!(decide (A.words=B.words)))||(!(decide (A.bits=B.bits))))||(!(decide (A.data=B.data))))) (fun K bw=>?_) ?_
 refine bl 150 (((!(decide (A.words=B.words)))||(!(decide (A.bits=B.bits))))) (fun R=>?_) (fun R=>?_)
 exact Pl 3<|ce bw true (by rw[R];rfl)
 have cS:=(aI R).1
 have cT:=(aI R).2
 have cU:(decide (A.words=B.words))=true:=by simpa using cS
 have q74anp:=of_decide_eq_true cU
 have cV:(decide (A.bits=B.bits))=true:=by simpa using cT
 have q74bnp:=of_decide_eq_true cV
 exact Pl 3<|ce bw (!(decide (A.data=B.data))) (by rw[R];rfl)
 refine Pl 1<|cu 8 [154] 162 (((((!(decide (A.words=B.words)))||(!(decide (A.bits=B.bits))))||(!(decide (A.data=B.data))))||(((A.recs.length:Nat) : Int)!=((B.recs.length:Nat) : Int)))) (fun K bz=>?_) ?_
 refine bl 154 ((((!(decide (A.words=B.words)))||(!(decide (A.bits=B.bits))))||(!(decide (A.data=B.data))))) (fun S=>?_) (fun S=>?_)
 exact Pl 8<|ce bz true (by rw[S];rfl)
 have bA:=(aI S).1
 have cW:=(aI S).2
 have cX:=(aI bA).1
 have cY:=(aI bA).2
 have q76aan:(decide (A.words=B.words))=true:=by simpa using cX
 have q76aanp:=of_decide_eq_true q76aan
 have q76abn:(decide (A.bits=B.bits))=true:=by simpa using cY
 have q76abnp:=of_decide_eq_true q76abn
 have cZ:(decide (A.data=B.data))=true:=by simpa using cW
 have q76bnp:=of_decide_eq_true cZ
 refine Pl 1<|?_
 refine L1<|aP (ub n a2) 15<|Pl 2<|?_
 exact L1<|aP (ub n P) 15<|Pl 3<|ce bz (((A.recs.length:Nat) : Int)!=((B.recs.length:Nat) : Int)) (by rw[S];rfl)
 refine Pl 1<|cu 8 [163] 171 ((((((!(decide (A.words=B.words)))||(!(decide (A.bits=B.bits))))||(!(decide (A.data=B.data))))||(((A.recs.length:Nat) : Int)!=((B.recs.length:Nat) : Int)))||(((A.objects.length:Nat) : Int)!=((B.objects.length:Nat) : Int)))) (fun K bB=>?_) ?_
 refine bl 163 (((((!(decide (A.words=B.words)))||(!(decide (A.bits=B.bits))))||(!(decide (A.data=B.data))))||(((A.recs.length:Nat) : Int)!=((B.recs.length:Nat) : Int)))) (fun T=>?_) (fun T=>?_)
 exact Pl 8<|ce bB true (by rw[T];rfl)
 have bC:=(aI T).1
 have d0:=(aI T).2
 have bD:=(aI bC).1
 have d1:=(aI bC).2
 have q80aaa:=(aI bD).1
 have q80aab:=(aI bD).2
 have q80aaan:(decide (A.words=B.words))=true:=by simpa using q80aaa
 have q80aaanp:=of_decide_eq_true q80aaan
 have q80aabn:(decide (A.bits=B.bits))=true:=by simpa using q80aab
 have q80aabnp:=of_decide_eq_true q80aabn
 have q80abn:(decide (A.data=B.data))=true:=by simpa using d1
 have q80abnp:=of_decide_eq_true q80abn
 have e8:=aj d0
 refine Pl 1<|?_
 refine L1<|aP (ub n a2) 21<|Pl 2<|?_
 exact L1<|aP (ub n P) 21<|Pl 3<|ce bB (((A.objects.length:Nat) : Int)!=((B.objects.length:Nat) : Int)) (by rw[T];rfl)
 refine nt<|?_
 have bE:=aG ad n
 refine cb ((((((!(decide (A.words=B.words)))||(!(decide (A.bits=B.bits))))||(!(decide (A.data=B.data))))||(((A.recs.length:Nat) : Int)!=((B.recs.length:Nat) : Int)))||(((A.objects.length:Nat) : Int)!=((B.objects.length:Nat) : Int)))) (fun U=>?_) (fun U=>?_)
 refine sg<|Pl 1<|nt<|rt<|tr<|rr (.bool false)<|?_
 have hs:decide (A=B)=false:=lR (f:=fun x y=>(((((!(decide (x.words=y.words)))||(!(decide (x.bits=y.bits))))||(!(decide (x.data=y.data))))||(((x.recs.length:Nat) : Int)!=((y.recs.length:Nat) : Int)))||(((x.objects.length:Nat) : Int)!=((y.objects.length:Nat) : Int)))) U (fun M=>by simp)
 rw[hs]
 exact⟨rfl,bE⟩
 have bF:=(aI U).1
 have d2:=(aI U).2
 have bG:=(aI bF).1
 have d3:=(aI bF).2
 have q85aaa:=(aI bG).1
 have q85aab:=(aI bG).2
 have q85aaaa:=(aI q85aaa).1
 have q85aaab:=(aI q85aaa).2
 have q85aaaan:(decide (A.words=B.words))=true:=by simpa using q85aaaa
 have q85aaaanp:=of_decide_eq_true q85aaaan
 have q85aaabn:(decide (A.bits=B.bits))=true:=by simpa using q85aaab
 have q85aaabnp:=of_decide_eq_true q85aaabn
 have q85aabn:(decide (A.data=B.data))=true:=by simpa using q85aab
 have q85aabnp:=of_decide_eq_true q85aabn
 have q85abp:=aj d3
 have e9:=aj d2
 refine bp<|sq<|sg<|Pl 1<|nt<|bk<|?_
 refine jf (fun x=>[(2,.pointer (some ⟨i,0,none⟩)),(3,.pointer (some ⟨l,0,none⟩)),(8,.int .i64 ((x:Nat) : Int))]) (fun(x:Nat) w'=>aE [] cQ w'∧(A.recs.take x=B.recs.take x)∧(x≤A.recs.length)) (fun x=>A.recs.length-x) 0 ⟨aE.refl _ _,(by(try dsimp only);simp),(by(try dsimp only);omega)⟩ ?_
 rintro j d4 ⟨a3,d5,d6⟩
 refine jj [(2,.pointer (some ⟨i,0,none⟩)),(3,.pointer (some ⟨l,0,none⟩)),(8,.int .i64 ((j:Nat) : Int))] ?_
 have bH:A.recs.take j=B.recs.take j:=d5
 have ea:j≤A.recs.length:=d6
 refine sq<|sg<|Pl 2<|?_
 have a4:=aG n a3
 have af:=ub a4 a2
 refine L0<|aP af 15<|Pl 2<|nt<|?_
 have a5:=aG bE a3
 refine cb ((decide (((j:Nat) : Int)<((A.recs.length:Nat) : Int)))) (fun ag=>?_) (fun ag=>?_)
 have d7:=of_decide_eq_true ag
 refine bp<|sq<|bk<|sg<|Pl 1<|L0<|aP af 15<|Pl 1<|iY (kf.elt phr j (by omega)) fun eb ec ed ee ef bI bJ d8 d9 da eg db=>L0<|mA 4 A.recs.length j d8 (by omega)<|?_
 refine L0<|w7 [.int .u16 ((A.recs.getD j ⟨0,0,0,[]⟩).file),.int .u16 ((A.recs.getD j ⟨0,0,0,[]⟩).record),.int .u16 ((A.recs.getD j ⟨0,0,0,[]⟩).count),.slice bI ((A.recs.getD j ⟨0,0,0,[]⟩).words.length) bJ] (ub a5 d9) db<|L0<|bQ #[.int .u16 0,.int .u16 0,.int .u16 0,.slice none 0 0] fun eh ei ai dc ak=>L0<|be dc #[.int .u16 ((A.recs.getD j ⟨0,0,0,[]⟩).file),.int .u16 ((A.recs.getD j ⟨0,0,0,[]⟩).record),.int .u16 ((A.recs.getD j ⟨0,0,0,[]⟩).count),.slice bI ((A.recs.getD j ⟨0,0,0,[]⟩).words.length) bJ] fun ej dd al=>ng<|Pl 1<|?_
 refine L0<|aP (ub (u1 (aG a4 ak) al (ni a4.size ai)) P) 15<|Pl 1<|iY (kf.elt qhr j (by omega)) fun ek el em eo ep bK bL de df dg eq dh=>L0<|mA 4 B.recs.length j de (by omega)<|?_
 have am:=u1 (aG a5 ak) al (ni a5.size ai)
 refine L0<|w7 [.int .u16 ((B.recs.getD j ⟨0,0,0,[]⟩).file),.int .u16 ((B.recs.getD j ⟨0,0,0,[]⟩).record),.int .u16 ((B.recs.getD j ⟨0,0,0,[]⟩).count),.slice bK ((B.recs.getD j ⟨0,0,0,[]⟩).words.length) bL] (ub am df) dh<|L0<|bQ #[.int .u16 0,.int .u16 0,.int .u16 0,.slice none 0 0] fun er es an di ao=>L0<|be di #[.int .u16 ((B.recs.getD j ⟨0,0,0,[]⟩).file),.int .u16 ((B.recs.getD j ⟨0,0,0,[]⟩).record),.int .u16 ((B.recs.getD j ⟨0,0,0,[]⟩).count),.slice bK ((B.recs.getD j ⟨0,0,0,[]⟩).words.length) bL] fun et a6 ap=>ng<|Pl 1<|?_
 have a7:=ub (u1 ao ap (nr an)) dd
 refine L0<|aP a7 3<|Pl 1<|L0<|aP a6 3<|?_
 have aq:=u1 (aG am ao) ap (ni am.size an)
 refine L0<|Oc<|m1 (iC (dN.old da aq) (dN.old dg aq)) fun eu h=>Pl 1<|ng<|Pl 3<|cu 6 [196] 202 (((!(decide ((A.recs.getD j ⟨0,0,0,[]⟩).words=(B.recs.getD j ⟨0,0,0,[]⟩).words)))||(((A.recs.getD j ⟨0,0,0,[]⟩).file)!=((B.recs.getD j ⟨0,0,0,[]⟩).file)))) (fun K bM=>?_) ?_
 refine bl 196 ((!(decide ((A.recs.getD j ⟨0,0,0,[]⟩).words=(B.recs.getD j ⟨0,0,0,[]⟩).words)))) (fun V=>?_) (fun V=>?_)
 have ar:(decide ((A.recs.getD j ⟨0,0,0,[]⟩).words=(B.recs.getD j ⟨0,0,0,[]⟩).words))=false:=by simpa using V
 have dj:=of_decide_eq_false ar
 exact Pl 6<|ce bM true (by rw[V];rfl)
 have ar:(decide ((A.recs.getD j ⟨0,0,0,[]⟩).words=(B.recs.getD j ⟨0,0,0,[]⟩).words))=true:=by simpa using V
 have dj:=of_decide_eq_true ar
 refine Pl 1<|?_
 refine L1<|aP (ub h a7) 0<|Pl 1<|?_
 exact L1<|aP (ub h a6) 0<|Pl 2<|ce bM (((A.recs.getD j ⟨0,0,0,[]⟩).file)!=((B.recs.getD j ⟨0,0,0,[]⟩).file)) (by rw[V];rfl)
 refine Pl 1<|cu 6 [203] 209 ((((!(decide ((A.recs.getD j ⟨0,0,0,[]⟩).words=(B.recs.getD j ⟨0,0,0,[]⟩).words)))||(((A.recs.getD j ⟨0,0,0,[]⟩).file)!=((B.recs.getD j ⟨0,0,0,[]⟩).file)))||(((A.recs.getD j ⟨0,0,0,[]⟩).record)!=((B.recs.getD j ⟨0,0,0,[]⟩).record)))) (fun K bN=>?_) ?_
 refine bl 203 (((!(decide ((A.recs.getD j ⟨0,0,0,[]⟩).words=(B.recs.getD j ⟨0,0,0,[]⟩).words)))||(((A.recs.getD j ⟨0,0,0,[]⟩).file)!=((B.recs.getD j ⟨0,0,0,[]⟩).file)))) (fun W=>?_) (fun W=>?_)
 exact Pl 6<|ce bN true (by rw[W];rfl)
 have dk:=(aI W).1
 have dl:=(aI W).2
 have dm:(decide ((A.recs.getD j ⟨0,0,0,[]⟩).words=(B.recs.getD j ⟨0,0,0,[]⟩).words))=true:=by simpa using dk
 have q156anp:=of_decide_eq_true dm
 have ev:=aj dl
 refine Pl 1<|?_
 refine L1<|aP (ub h a7) 1<|Pl 1<|?_
 exact L1<|aP (ub h a6) 1<|Pl 2<|ce bN (((A.recs.getD j ⟨0,0,0,[]⟩).record)!=((B.recs.getD j ⟨0,0,0,[]⟩).record)) (by rw[W];rfl)
 refine Pl 1<|cu 6 [210] 216 (((((!(decide ((A.recs.getD j ⟨0,0,0,[]⟩).words=(B.recs.getD j ⟨0,0,0,[]⟩).words)))||(((A.recs.getD j ⟨0,0,0,[]⟩).file)!=((B.recs.getD j ⟨0,0,0,[]⟩).file)))||(((A.recs.getD j ⟨0,0,0,[]⟩).record)!=((B.recs.getD j ⟨0,0,0,[]⟩).record)))||(((A.recs.getD j ⟨0,0,0,[]⟩).count)!=((B.recs.getD j ⟨0,0,0,[]⟩).count)))) (fun K bO=>?_) ?_
 refine bl 210 ((((!(decide ((A.recs.getD j ⟨0,0,0,[]⟩).words=(B.recs.getD j ⟨0,0,0,[]⟩).words)))||(((A.recs.getD j ⟨0,0,0,[]⟩).file)!=((B.recs.getD j ⟨0,0,0,[]⟩).file)))||(((A.recs.getD j ⟨0,0,0,[]⟩).record)!=((B.recs.getD j ⟨0,0,0,[]⟩).record)))) (fun X=>?_) (fun X=>?_)
 exact Pl 6<|ce bO true (by rw[X];rfl)
 have bP:=(aI X).1
 have dn:=(aI X).2
 have dp:=(aI bP).1
 have dq:=(aI bP).2
 have q160aan:(decide ((A.recs.getD j ⟨0,0,0,[]⟩).words=(B.recs.getD j ⟨0,0,0,[]⟩).words))=true:=by simpa using dp
 have q160aanp:=of_decide_eq_true q160aan
 have q160abp:=aj dq
 have ew:=aj dn
 refine Pl 1<|?_
 refine L1<|aP (ub h a7) 2<|Pl 1<|?_
 exact L1<|aP (ub h a6) 2<|Pl 2<|ce bO (((A.recs.getD j ⟨0,0,0,[]⟩).count)!=((B.recs.getD j ⟨0,0,0,[]⟩).count)) (by rw[X];rfl)
 refine nt<|?_
 refine cb (((((!(decide ((A.recs.getD j ⟨0,0,0,[]⟩).words=(B.recs.getD j ⟨0,0,0,[]⟩).words)))||(((A.recs.getD j ⟨0,0,0,[]⟩).file)!=((B.recs.getD j ⟨0,0,0,[]⟩).file)))||(((A.recs.getD j ⟨0,0,0,[]⟩).record)!=((B.recs.getD j ⟨0,0,0,[]⟩).record)))||(((A.recs.getD j ⟨0,0,0,[]⟩).count)!=((B.recs.getD j ⟨0,0,0,[]⟩).count)))) (fun Y=>?_) (fun Y=>?_)
 refine sg<|Pl 1<|nt<|rt<|br<|tr<|tr<|br<|tr<|rr (.bool false)<|?_
 have hs:decide (A=B)=false:=lR (f:=fun x y=>((((!(decide ((x.recs.getD j ⟨0,0,0,[]⟩).words=(y.recs.getD j ⟨0,0,0,[]⟩).words)))||(((x.recs.getD j ⟨0,0,0,[]⟩).file)!=((y.recs.getD j ⟨0,0,0,[]⟩).file)))||(((x.recs.getD j ⟨0,0,0,[]⟩).record)!=((y.recs.getD j ⟨0,0,0,[]⟩).record)))||(((x.recs.getD j ⟨0,0,0,[]⟩).count)!=((y.recs.getD j ⟨0,0,0,[]⟩).count)))) Y (fun M=>by simp)
 rw[hs]
 exact⟨rfl,(aG aq h)⟩
 have bR:=(aI Y).1
 have dr:=(aI Y).2
 have bS:=(aI bR).1
 have ds:=(aI bR).2
 have q165aaa:=(aI bS).1
 have q165aab:=(aI bS).2
 have q165aaan:(decide ((A.recs.getD j ⟨0,0,0,[]⟩).words=(B.recs.getD j ⟨0,0,0,[]⟩).words))=true:=by simpa using q165aaa
 have q165aaanp:=of_decide_eq_true q165aaan
 have q165aabp:=aj q165aab
 have q165abp:=aj ds
 have ex:=aj dr
 refine sk<|bn<|tn<|go<|Pl 1<|L0<|Oi (((j:Nat) : Int)+1)<|Pl 1<|nl<|?_
 have bT:=u1 (aG a3 ak) al (ni a3.size ai)
 exact gM (j+1) ⟨(aG (u1 (aG bT ao) ap (ni bT.size an)) h),(pz (d:=⟨0,0,0,[]⟩) bH (by omega) (by omega) (vE Y)),(by(try dsimp only);omega)⟩ (by omega)
 have d7:=of_decide_eq_false ag
 refine xt<|tx<|tx<|bx<|tn<|sq<|sg<|Pl 1<|nt<|bk<|?_
 refine jf (fun x=>[(2,.pointer (some ⟨i,0,none⟩)),(3,.pointer (some ⟨l,0,none⟩)),(12,.int .i64 ((x:Nat) : Int))]) (fun(x:Nat) w'=>aE [] d4 w'∧(A.objects.take x=B.objects.take x)∧(x≤A.objects.length)) (fun x=>A.objects.length-x) 0 ⟨aE.refl _ _,(by(try dsimp only);simp),(by(try dsimp only);omega)⟩ ?_
 rintro k ey ⟨a8,dt,du⟩
 refine jj [(2,.pointer (some ⟨i,0,none⟩)),(3,.pointer (some ⟨l,0,none⟩)),(12,.int .i64 ((k:Nat) : Int))] ?_
 have bU:A.objects.take k=B.objects.take k:=dt
 have ez:k≤A.objects.length:=du
 refine sq<|sg<|Pl 2<|?_
 have bV:=ub a8 af
 refine L0<|aP bV 21<|Pl 2<|nt<|?_
 have bW:=aG a5 a8
 refine cb ((decide (((k:Nat) : Int)<((A.objects.length:Nat) : Int)))) (fun au=>?_) (fun au=>?_)
 have dv:=of_decide_eq_true au
 refine bp<|sq<|bk<|sq<|iY (m9.elt pho k (by omega)) fun bX bY eA eB eC dw dx bZ dy dz eD av=>iY (m9.elt qho k (by omega)) fun c0 c2 eE eF eG dA dB c3 dD dE eH aw=>Rg 14 (fun w'=>w'.cell? ⟨i,21,none⟩=some (.slice po A.objects.length pko)∧w'.cell? ⟨bX,bY+k*2+1,none⟩=some (.slice dw ((A.objects.getD k ⟨0,[]⟩).value.length) dx)∧w'.cell? ⟨l,21,none⟩=some (.slice qo B.objects.length qko)∧w'.cell? ⟨c0,c2+k*2+1,none⟩=some (.slice dA ((B.objects.getD k ⟨0,[]⟩).value.length) dB)) fun eI a9=>?_
 have c4:=ub a9 bV
 have Z:=aG bW a9
 have c5:=ub Z dy
 have c6:=ub (aG (aG a4 a8) a9) P
 have c7:=ub Z dD
 refine bi ⟨(ah c4 rfl),(fC c5 av 1 rfl (by decide)),(ah c6 rfl),(fC c7 aw 1 rfl (by decide))⟩ fun g=>Rt 0 g<|Rl 1 g (fun _ hs=>hs.1)<|Rt 2 g<|Ri 3 g 2 A.objects.length k ((k:Nat) : Int) rfl bZ (by omega)<|Rt 4 g<|Rl 5 g (fun _ hs=>hs.2.1)<|Rt 6 g<|Rl 7 g (fun _ hs=>hs.2.2.1)<|Rt 8 g<|Ri 9 g 2 B.objects.length k ((k:Nat) : Int) rfl c3 (by omega)<|Rt 10 g<|Rl 11 g (fun _ hs=>hs.2.2.2)<|?_
 refine R0 12 rfl<|Oc<|m1 (i7 (bo.old dz Z) (bo.old dE Z)) fun eJ o=>?_
 have c8:=ub o c4
 have c9:=ub o c5
 have ca:=ub o c6
 have cc:=ub o c7
 refine bi ⟨(ah c8 rfl),(fC c9 av 1 rfl (by decide)),(ah ca rfl),(fC cc aw 1 rfl (by decide))⟩ fun dF=>Rt 13 dF<|re<|tn<|sq<|Rg 17 (fun w'=>w'.cell? ⟨i,21,none⟩=some (.slice po A.objects.length pko)∧w'.cell? ⟨bX,bY+k*2+0,none⟩=some (.int .u8 ((A.objects.getD k ⟨0,[]⟩).id))∧w'.cell? ⟨l,21,none⟩=some (.slice qo B.objects.length qko)∧w'.cell? ⟨c0,c2+k*2+0,none⟩=some (.int .u8 ((B.objects.getD k ⟨0,[]⟩).id))) fun eK p=>?_
 refine bi ⟨(ah (ub p c8) rfl),(fC (ub p c9) av 0 rfl (by decide)),(ah (ub p ca) rfl),(fC (ub p cc) aw 0 rfl (by decide))⟩ fun a=>Rt 0 a<|Rt 1 a<|Rt 2 a<|?_
 have cd:=aG (aG Z o) p
 refine rj 239 ((!(decide ((A.objects.getD k ⟨0,[]⟩).value=(B.objects.getD k ⟨0,[]⟩).value)))) (fun a0=>?_) (fun a0=>?_)
 have ax:(decide ((A.objects.getD k ⟨0,[]⟩).value=(B.objects.getD k ⟨0,[]⟩).value))=false:=by simpa using a0
 have dH:=of_decide_eq_false ax
 refine Ro 3 a<|Ro 4 a<|Ro 5 a<|Ro 6 a<|Ro 7 a<|Ro 8 a<|Ro 9 a<|Ro 10 a<|Ro 11 a<|Ro 12 a<|Ro 13 a<|Ro 14 a<|Ro 15 a<|Rt 16 a<|?_
 refine re<|tn<|c1<|sg<|Pl 1<|nt<|rt<|br<|tr<|tr<|br<|tr<|?_
 refine rr (.bool false)<|?_
 have hs:decide (A=B)=false:=lR (f:=fun x y=>(!(decide ((x.objects.getD k ⟨0,[]⟩).value=(y.objects.getD k ⟨0,[]⟩).value)))) a0 (fun M=>by simp)
 rw[hs]
 exact⟨rfl,cd⟩
 have ax:(decide ((A.objects.getD k ⟨0,[]⟩).value=(B.objects.getD k ⟨0,[]⟩).value))=true:=by simpa using a0
 have dH:=of_decide_eq_true ax
 refine Rt 3 a<|Rl 4 a (fun _ hs=>hs.1)<|Rt 5 a<|Ri 6 a 2 A.objects.length k ((k:Nat) : Int) rfl bZ (by omega)<|Rt 7 a<|Rl 8 a (fun _ hs=>hs.2.1)<|Rt 9 a<|Rl 10 a (fun _ hs=>hs.2.2.1)<|Rt 11 a<|Ri 12 a 2 B.objects.length k ((k:Nat) : Int) rfl c3 (by omega)<|Rt 13 a<|Rl 14 a (fun _ hs=>hs.2.2.2)<|Rt 15 a<|Rt 16 a<|?_
 refine re<|tn<|cb ((((A.objects.getD k ⟨0,[]⟩).id)!=((B.objects.getD k ⟨0,[]⟩).id))) (fun a1=>?_) (fun a1=>?_)
 have dI:=az a1
 refine sg<|Pl 1<|nt<|rt<|br<|tr<|tr<|br<|tr<|rr (.bool false)<|?_
 have hs:decide (A=B)=false:=lR (f:=fun x y=>(((x.objects.getD k ⟨0,[]⟩).id)!=((y.objects.getD k ⟨0,[]⟩).id))) a1 (fun M=>by simp)
 rw[hs]
 exact⟨rfl,cd⟩
 have dI:=aj a1
 refine sk<|bn<|tn<|go<|Pl 1<|L0<|Oi (((k:Nat) : Int)+1)<|Pl 1<|nl<|?_
 exact gM (k+1) ⟨(aG (aG (aG a8 a9) o) p),(pz (d:=⟨0,[]⟩) bU (by omega) (by omega) (uw a0 a1)),(by(try dsimp only);omega)⟩ (by omega)
 have dv:=of_decide_eq_false au
 refine xt<|tx<|tx<|bx<|tn<|sg<|Pl 1<|nt<|rt<|rr (.bool true)<|?_
 have hs:decide (A=B)=true:=decide_eq_true (tb H O U (fun e=>gK bH (by omega) e) (fun e=>gK bU (by omega) e))
 rw[hs]
 exact⟨rfl,bW⟩
open Go.RowKit
theorem i4{parse:Int→Int→List Int→aQ × Int}{lay:Int→aQ→List Int}{dir E:Int}{M X:aQ}(hX:parse dir M.code (lay dir M)=(X,E))(hE:((E != 0)||(!(decide (X=M))))=true) : bj parse lay dir M=none:=by
  unfold bj
  rw[hX,if_neg]
  intro h
  injection h with h1 h2
  rw[h1,h2] at hE
  simp at hE
theorem jt(dir c:Int) : ∀ (L:List dt),(∀ r,r∈L→r.words.length≤1024)→(dr dir c L).length≤2064*L.length
  | [],_=>by simp[dr]
  | r :: L,h=>by
    have h1:=h r (by simp)
    have h2:=jt dir c L fun x hx=>h x (by simp[hx])
    simp only[dr,ki]
    repeat' split
    all_goals simp only[List.length_append,List.length_cons,List.length_nil,ay]
    all_goals omega
theorem gj{M:aQ}(hf:bU M)(dir:Int) : (d9 dir M).length≤1048000∧(bZ dir M).length≤1048000∧(dS dir M).length≤1048000∧(fa dir M).length≤1048000∧(eg dir M).length≤1048000:=by
  have hp:(bO M.bits).length≤1024:=by
    have:=hf.bits
    simp only[bO,List.length_map,List.length_range,dL]
    omega
  have h1:=hf.words
  have h2:=hf.data
  have h3:=hf.objects
  have h4:=kX M.objects hf.objv
  have h5:=jt dir M.code M.recs hf.recw
  have h6:=hf.recs
  refine⟨?_,?_,?_,?_,?_⟩
  · unfold d9
    repeat' split
    all_goals simp only[List.length_append,List.length_cons,List.length_nil,ay]
    all_goals omega
  · unfold bZ
    repeat' split
    all_goals simp only[List.length_append,List.length_cons,List.length_nil,ay]
    all_goals omega
  · unfold dS
    repeat' split
    all_goals simp only[List.length_append,List.length_cons,List.length_nil,ay]
    all_goals omega
  · unfold fa
    repeat' split
    all_goals simp only[List.length_append,List.length_cons,List.length_nil]
    all_goals omega
  · unfold eg
    simp only[List.length_append,List.length_cons,List.length_nil]
    omega
theorem iH{m:Md}{cs:Array Value}{M:aQ}{w:World}{dir:Int}(h:aO m w cs.toList M)(hf:bU M) : Calls Tryz.prog 102 #[.int .i64 dir,.agg cs] w (dZ (bj (ag aC) d9 dir M) w):=by
 have hM:=h
 have hlen:=(gj hf dir).1
 obtain⟨vw,vb,vd,vr,vo,h0,hw,hbt,hd,hr,ho,hR⟩:=h
 obtain rfl:cs=(bu M vw vb vd vr vo).toArray:=by apply Array.toList_inj.1;simpa using h0
 clear h0
 obtain⟨Aw,kw,rfl,_,_⟩:=hw.shape
 obtain⟨Ab,kb,rfl,_,_⟩:=hbt.shape
 obtain⟨Ad,kd,rfl,_,_⟩:=hd.shape
 obtain⟨Ar,kr,rfl,_,_⟩:=hr.shape
 obtain⟨Ao,ko,rfl,_,_⟩:=ho.shape
 obtain⟨q0,q1,q2,q3,q4,q5,q6,q7,q8,q9,E,F,G,H,I,J,L⟩:=hR
 simp only[B8,dF] at q0 q1 q2 q3 q4 q5 q6 q7 q8 q9 E F G H I J L
 refine en 31 Tryz.func102 rfl<|sg<|L0<|dC (mG M.code M.fail M.addr M.count M.value M.and_ M.or_ M.addr2 M.sub M.status M.events M.messages (.slice Aw M.words.length kw) (.slice Ab M.bits.length kb) (.slice Ad M.data.length kd) (.slice Ar M.recs.length kr) M.mei M.kind M.level M.more M.next (.slice Ao M.objects.length ko)) fun Z a0 a1 k f=>Pl 2<|ng<|Pl 1<|L0<|bP k<|?_
 have l:=aO.old hM f
 refine L0<|Oc<|dk (ol (dir:=dir) l hf) fun N O P n a2 a3 o=>Pl 1<|ng<|Pl 2<|?_
 have p:=ub o k
 refine L0<|aP p 0<|Pl 1<|?_
 refine pr (ag aC dir M.code (d9 dir M)) fun a g i=>?_
 have q:Calls _ _ _ _ (cK _ _ (ag aC dir M.code (d9 dir M)) P):=iP (dir:=dir) (c:=M.code) q0 (n).rd (by omega)
 rw[i] at q
 refine L0<|Oc<|e2 (q) fun Q a4 R r=>?_
 have s:=aq n r (fun x hx=>aA) (fun _ _ h=>h)
 have b:=dg.rdt R (s).rd
 refine Pl 3<|L0<|bQ mZ fun a5 a6 S T U=>L0<|be (hz:=(by rw[b.size];exact aN)) (hv:=b.size) (h1:=b.one) T (Q) fun a7 V W=>Pl 1<|ng<|L0<|bP (hz:=(by rw[b.size];exact aN)) V<|?_
 have j:=ud U W S
 have t:=aG r j
 refine L0<|bP (ub t p)<|?_
 have u:=aG o t
 refine L0<|Oc<|m1 (dG (A:=a) (B:=M) (aO.upd b j aK) (aO.old l u)) fun a8 v=>Pl 1<|nt<|sq<|sg<|Pl 3<|cu 3 [26] 29 (((g != 0)||(!(decide (a=M))))) (fun K y=>?_) ?_
 refine bl 26 ((g != 0)) (fun d=>?_) (fun d=>?_)
 have X:=az d
 exact Pl 3<|ce y true (by rw[d];rfl)
 have X:=aj d
 exact Pl 3<|ce y (!(decide (a=M))) (by rw[d];rfl)
 refine nt<|?_
 have z:=aG f (aG u v)
 refine cb (((g != 0)||(!(decide (a=M))))) (fun e=>?_) (fun e=>?_)
 refine sg<|Pl 2<|nt<|rt<|tr<|rr (.tuple #[.slice none 0 0,.int .i64 1])<|?_
 refine cL (i4 i e) ?_
 exact⟨rfl,z⟩
 have C:=(aI e).1
 have Y:=(aI e).2
 have a9:=aj C
 have D:(decide (a=M))=true:=by simpa using Y
 have q56bnp:=of_decide_eq_true D
 refine bp<|sg<|Pl 3<|nt<|rt<|rr (.tuple #[.slice N ((d9 dir M).length) O,.int .i64 0])<|?_
 refine cL (hZ i C D) ?_
 exact⟨_,rfl,(aV.weaken (aq s (aG j v) (fun x hx=>aA) (fun _ _ h=>h)) f.size),z⟩
theorem jx{m:Md}{cs:Array Value}{M:aQ}{w:World}{dir:Int}(h:aO m w cs.toList M)(hf:bU M) : Calls Tryz.prog 103 #[.int .i64 dir,.agg cs] w (dZ (bj (ag aH) bZ dir M) w):=by
 have hM:=h
 have hlen:=(gj hf dir).2.1
 obtain⟨vw,vb,vd,vr,vo,h0,hw,hbt,hd,hr,ho,hR⟩:=h
 obtain rfl:cs=(bu M vw vb vd vr vo).toArray:=by apply Array.toList_inj.1;simpa using h0
 clear h0
 obtain⟨Aw,kw,rfl,_,_⟩:=hw.shape
 obtain⟨Ab,kb,rfl,_,_⟩:=hbt.shape
 obtain⟨Ad,kd,rfl,_,_⟩:=hd.shape
 obtain⟨Ar,kr,rfl,_,_⟩:=hr.shape
 obtain⟨Ao,ko,rfl,_,_⟩:=ho.shape
 obtain⟨q0,q1,q2,q3,q4,q5,q6,q7,q8,q9,E,F,G,H,I,J,L⟩:=hR
 simp only[B8,dF] at q0 q1 q2 q3 q4 q5 q6 q7 q8 q9 E F G H I J L
 refine en 31 Tryz.func103 rfl<|sg<|L0<|dC (mG M.code M.fail M.addr M.count M.value M.and_ M.or_ M.addr2 M.sub M.status M.events M.messages (.slice Aw M.words.length kw) (.slice Ab M.bits.length kb) (.slice Ad M.data.length kd) (.slice Ar M.recs.length kr) M.mei M.kind M.level M.more M.next (.slice Ao M.objects.length ko)) fun Z a0 a1 k f=>Pl 2<|ng<|Pl 1<|L0<|bP k<|?_
 have l:=aO.old hM f
 refine L0<|Oc<|dk (qW (dir:=dir) l hf) fun N O P n a2 a3 o=>Pl 1<|ng<|Pl 2<|?_
 have p:=ub o k
 refine L0<|aP p 0<|Pl 1<|?_
 refine pr (ag aH dir M.code (bZ dir M)) fun a g i=>?_
 have q:Calls _ _ _ _ (cK _ _ (ag aH dir M.code (bZ dir M)) P):=js (dir:=dir) (c:=M.code) q0 (n).rd (by omega)
 rw[i] at q
 refine L0<|Oc<|e2 (q) fun Q a4 R r=>?_
 have s:=aq n r (fun x hx=>aA) (fun _ _ h=>h)
 have b:=dg.rdt R (s).rd
 refine Pl 3<|L0<|bQ mZ fun a5 a6 S T U=>L0<|be (hz:=(by rw[b.size];exact aN)) (hv:=b.size) (h1:=b.one) T (Q) fun a7 V W=>Pl 1<|ng<|L0<|bP (hz:=(by rw[b.size];exact aN)) V<|?_
 have j:=ud U W S
 have t:=aG r j
 refine L0<|bP (ub t p)<|?_
 have u:=aG o t
 refine L0<|Oc<|m1 (dG (A:=a) (B:=M) (aO.upd b j aK) (aO.old l u)) fun a8 v=>Pl 1<|nt<|sq<|sg<|Pl 3<|cu 3 [26] 29 (((g != 0)||(!(decide (a=M))))) (fun K y=>?_) ?_
 refine bl 26 ((g != 0)) (fun d=>?_) (fun d=>?_)
 have X:=az d
 exact Pl 3<|ce y true (by rw[d];rfl)
 have X:=aj d
 exact Pl 3<|ce y (!(decide (a=M))) (by rw[d];rfl)
 refine nt<|?_
 have z:=aG f (aG u v)
 refine cb (((g != 0)||(!(decide (a=M))))) (fun e=>?_) (fun e=>?_)
 refine sg<|Pl 2<|nt<|rt<|tr<|rr (.tuple #[.slice none 0 0,.int .i64 1])<|?_
 refine cL (i4 i e) ?_
 exact⟨rfl,z⟩
 have C:=(aI e).1
 have Y:=(aI e).2
 have a9:=aj C
 have D:(decide (a=M))=true:=by simpa using Y
 have q56bnp:=of_decide_eq_true D
 refine bp<|sg<|Pl 3<|nt<|rt<|rr (.tuple #[.slice N ((bZ dir M).length) O,.int .i64 0])<|?_
 refine cL (hZ i C D) ?_
 exact⟨_,rfl,(aV.weaken (aq s (aG j v) (fun x hx=>aA) (fun _ _ h=>h)) f.size),z⟩
theorem jD{m:Md}{cs:Array Value}{M:aQ}{w:World}{dir:Int}(h:aO m w cs.toList M)(hf:bU M) : Calls Tryz.prog 104 #[.int .i64 dir,.agg cs] w (dZ (bj (ag aR) dS dir M) w):=by
 have hM:=h
 have hlen:=(gj hf dir).2.2.1
 obtain⟨vw,vb,vd,vr,vo,h0,hw,hbt,hd,hr,ho,hR⟩:=h
 obtain rfl:cs=(bu M vw vb vd vr vo).toArray:=by apply Array.toList_inj.1;simpa using h0
 clear h0
 obtain⟨Aw,kw,rfl,_,_⟩:=hw.shape
 obtain⟨Ab,kb,rfl,_,_⟩:=hbt.shape
 obtain⟨Ad,kd,rfl,_,_⟩:=hd.shape
 obtain⟨Ar,kr,rfl,_,_⟩:=hr.shape
 obtain⟨Ao,ko,rfl,_,_⟩:=ho.shape
 obtain⟨q0,q1,q2,q3,q4,q5,q6,q7,q8,q9,E,F,G,H,I,J,L⟩:=hR
 simp only[B8,dF] at q0 q1 q2 q3 q4 q5 q6 q7 q8 q9 E F G H I J L
 refine en 31 Tryz.func104 rfl<|sg<|L0<|dC (mG M.code M.fail M.addr M.count M.value M.and_ M.or_ M.addr2 M.sub M.status M.events M.messages (.slice Aw M.words.length kw) (.slice Ab M.bits.length kb) (.slice Ad M.data.length kd) (.slice Ar M.recs.length kr) M.mei M.kind M.level M.more M.next (.slice Ao M.objects.length ko)) fun Z a0 a1 k f=>Pl 2<|ng<|Pl 1<|L0<|bP k<|?_
 have l:=aO.old hM f
 refine L0<|Oc<|dk (qt (dir:=dir) l hf) fun N O P n a2 a3 o=>Pl 1<|ng<|Pl 2<|?_
 have p:=ub o k
 refine L0<|aP p 0<|Pl 1<|?_
 refine pr (ag aR dir M.code (dS dir M)) fun a g i=>?_
 have q:Calls _ _ _ _ (cK _ _ (ag aR dir M.code (dS dir M)) P):=jJ (dir:=dir) (c:=M.code) q0 (n).rd (by omega)
 rw[i] at q
 refine L0<|Oc<|e2 (q) fun Q a4 R r=>?_
 have s:=aq n r (fun x hx=>aA) (fun _ _ h=>h)
 have b:=dg.rdt R (s).rd
 refine Pl 3<|L0<|bQ mZ fun a5 a6 S T U=>L0<|be (hz:=(by rw[b.size];exact aN)) (hv:=b.size) (h1:=b.one) T (Q) fun a7 V W=>Pl 1<|ng<|L0<|bP (hz:=(by rw[b.size];exact aN)) V<|?_
 have j:=ud U W S
 have t:=aG r j
 refine L0<|bP (ub t p)<|?_
 have u:=aG o t
 refine L0<|Oc<|m1 (dG (A:=a) (B:=M) (aO.upd b j aK) (aO.old l u)) fun a8 v=>Pl 1<|nt<|sq<|sg<|Pl 3<|cu 3 [26] 29 (((g != 0)||(!(decide (a=M))))) (fun K y=>?_) ?_
 refine bl 26 ((g != 0)) (fun d=>?_) (fun d=>?_)
 have X:=az d
 exact Pl 3<|ce y true (by rw[d];rfl)
 have X:=aj d
 exact Pl 3<|ce y (!(decide (a=M))) (by rw[d];rfl)
 refine nt<|?_
 have z:=aG f (aG u v)
 refine cb (((g != 0)||(!(decide (a=M))))) (fun e=>?_) (fun e=>?_)
 refine sg<|Pl 2<|nt<|rt<|tr<|rr (.tuple #[.slice none 0 0,.int .i64 1])<|?_
 refine cL (i4 i e) ?_
 exact⟨rfl,z⟩
 have C:=(aI e).1
 have Y:=(aI e).2
 have a9:=aj C
 have D:(decide (a=M))=true:=by simpa using Y
 have q56bnp:=of_decide_eq_true D
 refine bp<|sg<|Pl 3<|nt<|rt<|rr (.tuple #[.slice N ((dS dir M).length) O,.int .i64 0])<|?_
 refine cL (hZ i C D) ?_
 exact⟨_,rfl,(aV.weaken (aq s (aG j v) (fun x hx=>aA) (fun _ _ h=>h)) f.size),z⟩
theorem iQ{m:Md}{cs:Array Value}{M:aQ}{w:World}{dir:Int}(h:aO m w cs.toList M)(hf:bU M) : Calls Tryz.prog 105 #[.int .i64 dir,.agg cs] w (dZ (bj (ag aW) eg dir M) w):=by
 have hM:=h
 have hlen:=(gj hf dir).2.2.2.2
 obtain⟨vw,vb,vd,vr,vo,h0,hw,hbt,hd,hr,ho,hR⟩:=h
 obtain rfl:cs=(bu M vw vb vd vr vo).toArray:=by apply Array.toList_inj.1;simpa using h0
 clear h0
 obtain⟨Aw,kw,rfl,_,_⟩:=hw.shape
 obtain⟨Ab,kb,rfl,_,_⟩:=hbt.shape
 obtain⟨Ad,kd,rfl,_,_⟩:=hd.shape
 obtain⟨Ar,kr,rfl,_,_⟩:=hr.shape
 obtain⟨Ao,ko,rfl,_,_⟩:=ho.shape
 obtain⟨q0,q1,q2,q3,q4,q5,q6,q7,q8,q9,E,F,G,H,I,J,L⟩:=hR
 simp only[B8,dF] at q0 q1 q2 q3 q4 q5 q6 q7 q8 q9 E F G H I J L
 refine en 31 Tryz.func105 rfl<|sg<|L0<|dC (mG M.code M.fail M.addr M.count M.value M.and_ M.or_ M.addr2 M.sub M.status M.events M.messages (.slice Aw M.words.length kw) (.slice Ab M.bits.length kb) (.slice Ad M.data.length kd) (.slice Ar M.recs.length kr) M.mei M.kind M.level M.more M.next (.slice Ao M.objects.length ko)) fun Z a0 a1 k f=>Pl 2<|ng<|Pl 1<|L0<|bP k<|?_
 have l:=aO.old hM f
 refine L0<|Oc<|dk (mY (dir:=dir) l hf) fun N O P n a2 a3 o=>Pl 1<|ng<|Pl 2<|?_
 have p:=ub o k
 refine L0<|aP p 0<|Pl 1<|?_
 refine pr (ag aW dir M.code (eg dir M)) fun a g i=>?_
 have q:Calls _ _ _ _ (cK _ _ (ag aW dir M.code (eg dir M)) P):=iM (dir:=dir) (c:=M.code) q0 (n).rd (by omega)
 rw[i] at q
 refine L0<|Oc<|e2 (q) fun Q a4 R r=>?_
 have s:=aq n r (fun x hx=>aA) (fun _ _ h=>h)
 have b:=dg.rdt R (s).rd
 refine Pl 3<|L0<|bQ mZ fun a5 a6 S T U=>L0<|be (hz:=(by rw[b.size];exact aN)) (hv:=b.size) (h1:=b.one) T (Q) fun a7 V W=>Pl 1<|ng<|L0<|bP (hz:=(by rw[b.size];exact aN)) V<|?_
 have j:=ud U W S
 have t:=aG r j
 refine L0<|bP (ub t p)<|?_
 have u:=aG o t
 refine L0<|Oc<|m1 (dG (A:=a) (B:=M) (aO.upd b j aK) (aO.old l u)) fun a8 v=>Pl 1<|nt<|sq<|sg<|Pl 3<|cu 3 [26] 29 (((g != 0)||(!(decide (a=M))))) (fun K y=>?_) ?_
 refine bl 26 ((g != 0)) (fun d=>?_) (fun d=>?_)
 have X:=az d
 exact Pl 3<|ce y true (by rw[d];rfl)
 have X:=aj d
 exact Pl 3<|ce y (!(decide (a=M))) (by rw[d];rfl)
 refine nt<|?_
 have z:=aG f (aG u v)
 refine cb (((g != 0)||(!(decide (a=M))))) (fun e=>?_) (fun e=>?_)
 refine sg<|Pl 2<|nt<|rt<|tr<|rr (.tuple #[.slice none 0 0,.int .i64 1])<|?_
 refine cL (i4 i e) ?_
 exact⟨rfl,z⟩
 have C:=(aI e).1
 have Y:=(aI e).2
 have a9:=aj C
 have D:(decide (a=M))=true:=by simpa using Y
 have q56bnp:=of_decide_eq_true D
 refine bp<|sg<|Pl 3<|nt<|rt<|rr (.tuple #[.slice N ((eg dir M).length) O,.int .i64 0])<|?_
 refine cL (hZ i C D) ?_
 exact⟨_,rfl,(aV.weaken (aq s (aG j v) (fun x hx=>aA) (fun _ _ h=>h)) f.size),z⟩
theorem ky{m:Md}{cs:Array Value}{M:aQ}{w:World}{dir:Int}(h:aO m w cs.toList M)(hf:bU M) : Calls Tryz.prog 106 #[.int .i64 dir,.agg cs] w (dZ (bj (ag bz) fa dir M) w):=by
 have hM:=h
 have hlen:=(gj hf dir).2.2.2.1
 obtain⟨vw,vb,vd,vr,vo,h0,hw,hbt,hd,hr,ho,hR⟩:=h
 obtain rfl:cs=(bu M vw vb vd vr vo).toArray:=by apply Array.toList_inj.1;simpa using h0
 clear h0
 obtain⟨Aw,kw,rfl,_,_⟩:=hw.shape
 obtain⟨Ab,kb,rfl,_,_⟩:=hbt.shape
 obtain⟨Ad,kd,rfl,_,_⟩:=hd.shape
 obtain⟨Ar,kr,rfl,_,_⟩:=hr.shape
 obtain⟨Ao,ko,rfl,_,_⟩:=ho.shape
 obtain⟨q0,q1,q2,q3,q4,q5,q6,q7,q8,q9,E,F,G,H,I,J,L⟩:=hR
 simp only[B8,dF] at q0 q1 q2 q3 q4 q5 q6 q7 q8 q9 E F G H I J L
 refine en 31 Tryz.func106 rfl<|sg<|L0<|dC (mG M.code M.fail M.addr M.count M.value M.and_ M.or_ M.addr2 M.sub M.status M.events M.messages (.slice Aw M.words.length kw) (.slice Ab M.bits.length kb) (.slice Ad M.data.length kd) (.slice Ar M.recs.length kr) M.mei M.kind M.level M.more M.next (.slice Ao M.objects.length ko)) fun Z a0 a1 k f=>Pl 2<|ng<|Pl 1<|L0<|bP k<|?_
 have l:=aO.old hM f
 refine L0<|Oc<|dk (ra (dir:=dir) l hf) fun N O P n a2 a3 o=>Pl 1<|ng<|Pl 2<|?_
 have p:=ub o k
 refine L0<|aP p 0<|Pl 1<|?_
 refine pr (ag bz dir M.code (fa dir M)) fun a g i=>?_
 have q:Calls _ _ _ _ (cK _ _ (ag bz dir M.code (fa dir M)) P):=jZ (dir:=dir) (c:=M.code) q0 (n).rd (by omega)
 rw[i] at q
 refine L0<|Oc<|e2 (q) fun Q a4 R r=>?_
 have s:=aq n r (fun x hx=>aA) (fun _ _ h=>h)
 have b:=dg.rdt R (s).rd
 refine Pl 3<|L0<|bQ mZ fun a5 a6 S T U=>L0<|be (hz:=(by rw[b.size];exact aN)) (hv:=b.size) (h1:=b.one) T (Q) fun a7 V W=>Pl 1<|ng<|L0<|bP (hz:=(by rw[b.size];exact aN)) V<|?_
 have j:=ud U W S
 have t:=aG r j
 refine L0<|bP (ub t p)<|?_
 have u:=aG o t
 refine L0<|Oc<|m1 (dG (A:=a) (B:=M) (aO.upd b j aK) (aO.old l u)) fun a8 v=>Pl 1<|nt<|sq<|sg<|Pl 3<|cu 3 [26] 29 (((g != 0)||(!(decide (a=M))))) (fun K y=>?_) ?_
 refine bl 26 ((g != 0)) (fun d=>?_) (fun d=>?_)
 have X:=az d
 exact Pl 3<|ce y true (by rw[d];rfl)
 have X:=aj d
 exact Pl 3<|ce y (!(decide (a=M))) (by rw[d];rfl)
 refine nt<|?_
 have z:=aG f (aG u v)
 refine cb (((g != 0)||(!(decide (a=M))))) (fun e=>?_) (fun e=>?_)
 refine sg<|Pl 2<|nt<|rt<|tr<|rr (.tuple #[.slice none 0 0,.int .i64 1])<|?_
 refine cL (i4 i e) ?_
 exact⟨rfl,z⟩
 have C:=(aI e).1
 have Y:=(aI e).2
 have a9:=aj C
 have D:(decide (a=M))=true:=by simpa using Y
 have q56bnp:=of_decide_eq_true D
 refine bp<|sg<|Pl 3<|nt<|rt<|rr (.tuple #[.slice N ((fa dir M).length) O,.int .i64 0])<|?_
 refine cL (hZ i C D) ?_
 exact⟨_,rfl,(aV.weaken (aq s (aG j v) (fun x hx=>aA) (fun _ _ h=>h)) f.size),z⟩
def nv (M:aQ) : List Int:=[(M.code+128)%256,M.fail]
def fo (M:aQ) : Option (List Int):=if decide (128≤M.code) then none else bj (fun _ _ b=>ee b) (fun _ M=>nv M) 0 M
theorem kU{m:Md}{cs:Array Value}{M:aQ}{w:World}(h:aO m w cs.toList M) : Calls Tryz.prog 101 #[.agg cs] w (dZ (fo M) w):=by
 have hM:=h
 obtain⟨vw,vb,vd,vr,vo,h0,hw,hbt,hd,hr,ho,hR⟩:=h
 obtain rfl:cs=(bu M vw vb vd vr vo).toArray:=by apply Array.toList_inj.1;simpa using h0
 clear h0
 obtain⟨Aw,kw,rfl,_,_⟩:=hw.shape
 obtain⟨Ab,kb,rfl,_,_⟩:=hbt.shape
 obtain⟨Ad,kd,rfl,_,_⟩:=hd.shape
 obtain⟨Ar,kr,rfl,_,_⟩:=hr.shape
 obtain⟨Ao,ko,rfl,_,_⟩:=ho.shape
 obtain⟨q0,q1,q2,q3,q4,q5,q6,q7,q8,q9,D,E,F,G,H,I,J⟩:=hR
 simp only[B8,dF] at q0 q1 q2 q3 q4 q5 q6 q7 q8 q9 D E F G H I J
 refine en 32 Tryz.func101 rfl<|sg<|L0<|dC (mG M.code M.fail M.addr M.count M.value M.and_ M.or_ M.addr2 M.sub M.status M.events M.messages (.slice Aw M.words.length kw) (.slice Ab M.bits.length kb) (.slice Ad M.data.length kd) (.slice Ar M.recs.length kr) M.mei M.kind M.level M.more M.next (.slice Ao M.objects.length ko)) fun a1 a2 a3 g j=>Pl 2<|nt<|sq<|sg<|Pl 1<|L0<|aP g 0<|Pl 1<|nl<|?_
 refine tn<|cb ((decide (128≤M.code))) (fun a=>?_) (fun a=>?_)
 have L:=of_decide_eq_true a
 refine sg<|Pl 2<|nt<|rt<|tr<|rr (.tuple #[.slice none 0 0,.int .i64 1])<|?_
 refine cL (show fo M=none by unfold fo;rw[a];rfl) ?_
 exact⟨rfl,j⟩
 have L:=of_decide_eq_false a
 refine bp<|sg<|Pl 1<|L0<|aP g 0<|Pl 2<|L0<|aP g 1<|L0<|cO (m:=2) (e:=5) #[.int .u8 ((M.code+128)%256),.int .u8 M.fail] fun N O P Q R=>?_
 have o:=cN P (xs:=[((M.code+128)%256),M.fail]) (by as_aux_lemma=>kernel_rfl) (al (by omega) (al (by omega) aJ)) (by(try simp only[List.length_cons,List.length_nil]);omega) Q
 refine Pl 1<|ng<|Pl 1<|?_
 have a4:nv M=[((M.code+128)%256),M.fail]:=rfl
 refine pr (ee (nv M)) fun c k l=>?_
 have p:Calls _ _ _ _ (cK _ _ (ee (nv M)) O):=ka (o).rd (show(2:Nat)≤1048576 from by decide)
 rw[l] at p
 refine L0<|Oc<|e2 (p) fun S a5 T q=>?_
 have r:=aq o q (fun x hx=>aA) (fun _ _ h=>h)
 have d:=dg.rdt T (r).rd
 refine Pl 3<|L0<|bQ mZ fun a6 a7 U V W=>L0<|be (hz:=(by rw[d.size];exact aN)) (hv:=d.size) (h1:=d.one) V (S) fun a8 X Y=>Pl 1<|ng<|L0<|bP (hz:=(by rw[d.size];exact aN)) X<|?_
 have n:=ud W Y U
 have s:=aG R (aG q n)
 refine L0<|bP (ub s g)<|?_
 have t:=aG j s
 refine L0<|Oc<|m1 (dG (A:=c) (B:=M) (aO.upd d n aK) (aO.old hM t)) fun a9 u=>Pl 1<|nt<|sq<|sg<|Pl 3<|cu 3 [27] 30 (((k != 0)||(!(decide (c=M))))) (fun K v=>?_) ?_
 refine bl 27 ((k != 0)) (fun f=>?_) (fun f=>?_)
 have Z:=az f
 exact Pl 3<|ce v true (by rw[f];rfl)
 have Z:=aj f
 exact Pl 3<|ce v (!(decide (c=M))) (by rw[f];rfl)
 refine nt<|?_
 have y:=aG t u
 refine cb (((k != 0)||(!(decide (c=M))))) (fun i=>?_) (fun i=>?_)
 refine sg<|Pl 2<|nt<|rt<|tr<|rr (.tuple #[.slice none 0 0,.int .i64 1])<|?_
 refine cL (show fo M=bj (fun _ _ b=>ee b) (fun _ M=>nv M) 0 M by unfold fo;rw[a];rfl) ?_
 refine cL (i4 l i) ?_
 exact⟨rfl,y⟩
 have z:=(aI i).1
 have a0:=(aI i).2
 have aa:=aj z
 have C:(decide (c=M))=true:=by simpa using a0
 have q53bnp:=of_decide_eq_true C
 refine bp<|sg<|Pl 3<|nt<|rt<|rr (.tuple #[.slice (some ⟨N,0,none⟩) 2 2,.int .i64 0])<|?_
 refine cL (show fo M=bj (fun _ _ b=>ee b) (fun _ M=>nv M) 0 M by unfold fo;rw[a];rfl) ?_
 refine cL (hZ l z C) ?_
 exact⟨_,rfl,(aV.weaken (aq r (aG n u) (fun x hx=>aA) (fun _ _ h=>h)) j.size),y⟩
end Go.Proofs.YtogbnemojakcpaaGreat
namespace Go.Proofs.YtogbnemojakcpaaGreat
theorem qx{dir:Int}{M:aQ}(hd:dir=0∨dir=1)(hc:M.code=1∨M.code=2∨M.code=5∨M.code=15) : d9 dir M=bN dir M:=by
  unfold d9 bN
  rcases hd with rfl|rfl<;>rcases hc with h|h|h|h<;>rw[h]<;>rfl
theorem s9{dir:Int}{M:aQ}(hd:dir=0∨dir=1)(hc:M.code=3∨M.code=4∨M.code=6∨M.code=16∨M.code=22∨M.code=23∨M.code=24) : bZ dir M=bK dir M:=by
  unfold bZ bK
  rw[show 2*(M.words.length:Int)+2=2+2*(M.words.length:Int) from by omega]
  rcases hd with rfl|rfl<;>rcases hc with h|h|h|h|h|h|h<;>rw[h]<;>rfl
theorem rJ{dir:Int}{M:aQ}(hd:dir=0∨dir=1) : dS dir M=bM dir M:=by
  unfold dS bM
  rw[show(M.data.length:Int)+6=6+(M.data.length:Int) from by omega]
  rfl
theorem sd{dir:Int}{M:aQ}:fa dir M=da dir M:=by
  unfold fa da
  split
  · rename_i h
    rw[ae h]
  · rfl
theorem kO(dir c:Int) : ∀ L:List dt,dr dir c L=cF dir c L
  | []=>rfl
  | r :: L=>by
    show ki dir c r++dr dir c L=gS dir c r++cF dir c L
    rw[kO dir c L]
    unfold ki gS
    rw[show 2*(r.words.length:Int)+1=1+2*(r.words.length:Int) from by omega]
theorem oW{dir:Int}{M:aQ}:eg dir M=cI dir M:=by
  rw[jH]
  unfold eg
  rw[kO]
def el (dir:Int)(M:aQ) : Option (List Int) :=
  match bj (ag aC) d9 dir M with
  | some l=>some l
  | none=>match bj (ag aH) bZ dir M with
    | some l=>some l
    | none=>match bj (ag aR) dS dir M with
      | some l=>some l
      | none=>match bj (ag aW) eg dir M with
        | some l=>some l
        | none=>bj (ag bz) fa dir M
def dx (dir:Int)(M:aQ) : Option (List Int) :=
  match fo M with
  | some l=>some l
  | none=>match el dir M with
    | some l=>some ([M.code]++l)
    | none=>none
theorem wT{form:Int→Int→ai→Option (ai × aQ)}{B:Int→aQ→List Int}{dir:Int}{M:aQ}(hd:dir=0∨dir=1)(hf:∀ C,form dir M.code C=none) : bj (ag form) B dir M=none:=by
  cases h:bj (ag form) B dir M with
  | none=>rfl
  | some l =>
    have h1:=(dp h).1
    rw[jY hd (hf _)] at h1
    injection h1 with _ h2
    cases h2
theorem nh{parse:Int→Int→List Int→aQ × Int}{B lay:Int→aQ→List Int}{dir:Int}{M:aQ}{l:List Int}(h:bj parse lay dir M=some l)(he:B dir M=lay dir M) : bj parse B dir M=some l:=by
  unfold bj at h ⊢
  rw[he]
  exact h
theorem n9{dir:Int}{M:aQ}{l:List Int}(hc:0≤M.code∧M.code<256)(h:cX dir M=some l) : dir=0∨dir=1:=by
  rcases ic hc h with⟨_,rfl,_⟩|⟨_,hk,_,l',h4,_⟩
  · exact .inr rfl
  · by_cases hd:dir=0∨dir=1
    · exact hd
    · have h5:=(jc h4).2
      exfalso
      have no:∀ form b,ag form dir (([M.code]++l').getD 0 0) b=(M,0)→False:=fun form b hp=>by
        unfold ag at hp
        rw[if_neg hd] at hp
        injection hp with _ h2
        cases h2
      unfold gU at h5
      split at h5
      · exact no _ _ h5
      · exact no _ _ h5
      · exact no _ _ h5
      · exact no _ _ h5
      · exact no _ _ h5
      · injection h5 with _ h2
        cases h2
theorem pA{dir:Int}{M:aQ}{l:List Int}(hc:0≤M.code∧M.code<256)(hf:0≤M.fail∧M.fail<256)(h:cX dir M=some l) : dx dir M=some l:=by
  have hd:=n9 hc h
  rcases ic hc h with⟨h1,rfl,h2,h3,h4,rfl,h5⟩|⟨h1,h2,h3,l',h4,h5,rfl⟩
  · have k:fo M=some [M.code+128,M.fail]:=by
      unfold fo
      rw[if_neg (by simp only[decide_eq_true_eq];omega)]
      have hb:nv M=[M.code+128,M.fail]:=by unfold nv;rw[show(M.code+128)%256=M.code+128 from by omega]
      refine eQ hb ?_
      have hb:(M.code+128-128)%256=M.code:=by omega
      have ew:decide (M.code+128<128)=false:=by simp;omega
      show ee [M.code+128,M.fail]=(M,0)
      unfold ee
      simp only[List.length_cons,List.length_nil,List.getD_cons_zero,List.getD_cons_succ,hb,ew,h2,h3]
      show(fU M.code M.fail,(0:Int))=(M,0)
      rw[← h4]
    unfold dx
    rw[k]
  · have k:fo M=none:=by
      cases hw:fo M with
      | none=>rfl
      | some l2 =>
        unfold fo at hw
        split at hw
        · cases hw
        · have h6:=(dp hw).1
          obtain⟨h7,_,_,h8,_⟩:=pC h6
          have h9:=nc h8
          have a:M.fail=l2.getD 1 0:=by rw[h7];rfl
          rw[← a,h1] at h9
          cases h9
    have no:∀ (form:Int→Int→ai→Option (ai × aQ)) (B:Int→aQ→List Int),(∀ C,form dir M.code C=none)→bj (ag form) B dir M=none:=fun form B hf=>wT hd hf
    have kc:el dir M=some l':=by
      unfold el
      rcases gl M.code with⟨hk,hf⟩|⟨hk,hf⟩|⟨hk,hf⟩|⟨hk,hf⟩|⟨hk,hf⟩|⟨hk,hf⟩<;>rw[hf] at h4
      · have h4:bj (ag aC) bN dir M=some l':=h4
        rw[nh h4 (qx hd hk)]
      · have h4:bj (ag aH) bK dir M=some l':=h4
        rw[no aC _ (fun C=>by rcases hk with h | h | h | h | h | h | h<;>rw[h]<;>rfl),nh h4 (s9 hd hk)]
      · have h4:bj (ag aR) bM dir M=some l':=h4
        rw[no aC _ (fun C=>by rcases hk with h | h | h | h | h<;>rw[h]<;>rfl),no aH _ (fun C=>by rcases hk with h | h | h | h | h<;>rw[h]<;>rfl),nh h4 (rJ hd)]
      · have h4:bj (ag aW) cI dir M=some l':=h4
        rw[no aC _ (fun C=>by rcases hk with h | h<;>rw[h]<;>rfl),no aH _ (fun C=>by rcases hk with h | h<;>rw[h]<;>rfl),no aR _ (fun C=>by rcases hk with h | h<;>rw[h]<;>rfl),nh h4 oW]
      · have h4:bj (ag bz) da dir M=some l':=h4
        rw[no aC _ (fun C=>by rw[hk]<;>rfl),no aH _ (fun C=>by rw[hk]<;>rfl),no aR _ (fun C=>by rw[hk]<;>rfl),no aW _ (fun C=>by rw[hk]<;>rfl),nh h4 sd]
      · exact absurd hf h2
    unfold dx
    rw[k,kc]
theorem rl{dir:Int}{b:List Int}{M:aQ}(h:dn dir b=(M,0)) : dir=0∨dir=1:=by
  unfold dn at h
  split at h
  · injection h with _ h
    cases h
  · rename_i hh
    simp only[Bool.and_eq_true,bne_iff_ne,ne_eq] at hh
    omega
theorem pW{dir:Int}{M:aQ}(hc:0≤M.code∧M.code<256)(hf:0≤M.fail∧M.fail<256)(hk:dx dir M=none) : cX dir M=none:=by
  cases h:cX dir M with
  | none=>rfl
  | some l=>rw[pA hc hf h] at hk;cases hk
theorem gi{dir E:Int}{M X:aQ}{b:List Int}(hc:0≤M.code∧M.code<256)(hf:0≤M.fail∧M.fail<256)(hk:dx dir M=some b)(hX:dn dir b=(X,E))(hE:((E != 0)||(!(decide (X=M))))=true) : cX dir M=none:=by
  cases h:cX dir M with
  | none=>rfl
  | some l =>
    rw[pA hc hf h] at hk
    injection hk with hk
    subst hk
    rw[vF (n9 hc h) hc hf h] at hX
    injection hX with h1 h2
    subst h1 h2
    simp at hE
theorem i2{dir E:Int}{M X:aQ}{b:List Int}(hr:∀ x,x∈b→0≤x∧x<256)(hX:dn dir b=(X,E))(hE:(E != 0)=false)(h:decide (X=M)=true) : cX dir M=some b:=by
  have h1:X=M:=by simpa using h
  have h2:E=0:=by simpa using hE
  subst h1 h2
  exact rL (rl hX) hr hX
open Go.RowKit
theorem so{p:Int→Int→List Int→aQ × Int}{B:Int→aQ→List Int}{dir:Int}{M:aQ}{l:List Int}(h:bj p B dir M=some l)(hB:(B dir M).length≤1048000) : l.length≤1048000:=by
  rw[(dp h).2]
  exact hB
theorem rI{M:aQ}{l:List Int}(h:fo M=some l) : l.length≤1048000:=by
  unfold fo at h
  split at h
  · cases h
  · rw[(dp h).2]
    exact(show 2≤1048000 from by decide)
theorem kZ{m:Md}{cs:Array Value}{M:aQ}{w:World}{dir:Int}(h:aO m w cs.toList M)(hf:bU M) : Calls Tryz.prog 29 #[.int .i64 dir,.agg cs] w (dZ (cX dir M) w):=by
 have hM:=h
 obtain⟨db,dc,dd,de,df⟩:=gj hf dir
 obtain⟨vw,vb,vd,vr,vo,h0,hw,hbt,hd,hr,ho,hR⟩:=h
 obtain rfl:cs=(bu M vw vb vd vr vo).toArray:=by apply Array.toList_inj.1;simpa using h0
 clear h0
 obtain⟨Aw,kw,rfl,_,_⟩:=hw.shape
 obtain⟨Ab,kb,rfl,_,_⟩:=hbt.shape
 obtain⟨Ad,kd,rfl,_,_⟩:=hd.shape
 obtain⟨Ar,kr,rfl,_,_⟩:=hr.shape
 obtain⟨Ao,ko,rfl,_,_⟩:=ho.shape
 obtain⟨q0,q1,q2,q3,q4,q5,q6,q7,q8,q9,dh,di,dj,dl,dm,dp,dq⟩:=hR
 simp only[B8,dF] at q0 q1 q2 q3 q4 q5 q6 q7 q8 q9 dh di dj dl dm dp dq
 refine en 79 Tryz.func29 rfl<|sg<|L0<|dC (mG M.code M.fail M.addr M.count M.value M.and_ M.or_ M.addr2 M.sub M.status M.events M.messages (.slice Aw M.words.length kw) (.slice Ab M.bits.length kb) (.slice Ad M.data.length kd) (.slice Ar M.recs.length kr) M.mei M.kind M.level M.more M.next (.slice Ao M.objects.length ko)) fun fb fc fd Z d=>Pl 2<|ng<|L0<|bP Z<|?_
 rcases a:fo M with _|r
 have a0:=aO.old hM d
 have b4:=kU a0
 rw[a] at b4
 refine L0<|Oc<|m1 b4 fun fe g=>Pl 5<|nt<|sq<|sg<|Pl 2<|nt<|c1<|sg<|Pl 1<|?_
 have a1:=ub g Z
 refine L0<|bP a1<|?_
 have b5:=aG d g
 rcases b:bj (ag aC) d9 dir M with _|k
 have a2:=aO.old a0 g
 have b6:=iH (dir:=dir) a2 hf
 rw[b] at b6
 refine L0<|Oc<|m1 b6 fun ff i=>Pl 5<|nt<|sq<|sg<|Pl 2<|nt<|c1<|go<|Pl 1<|?_
 have a3:=ub i a1
 refine L0<|bP a3<|?_
 have b7:=aG b5 i
 rcases c:bj (ag aH) bZ dir M with _|l
 have a4:=aO.old a2 i
 have b8:=jx (dir:=dir) a4 hf
 rw[c] at b8
 refine L0<|Oc<|m1 b8 fun fg n=>Pl 5<|nt<|sq<|sg<|Pl 2<|nt<|c1<|go<|Pl 1<|?_
 have a5:=ub n a3
 refine L0<|bP a5<|?_
 have b9:=aG b7 n
 rcases f:bj (ag aR) dS dir M with _|o
 have a6:=aO.old a4 n
 have ba:=jD (dir:=dir) a6 hf
 rw[f] at ba
 refine L0<|Oc<|m1 ba fun fh s=>Pl 5<|nt<|sq<|sg<|Pl 2<|nt<|c1<|go<|Pl 1<|?_
 have a7:=ub s a5
 refine L0<|bP a7<|?_
 have bb:=aG b9 s
 rcases j:bj (ag aW) eg dir M with _|p
 have a8:=aO.old a6 s
 have bc:=iQ (dir:=dir) a8 hf
 rw[j] at bc
 refine L0<|Oc<|m1 bc fun fi u=>Pl 5<|nt<|sq<|sg<|Pl 2<|nt<|c1<|go<|Pl 1<|?_
 have a9:=ub u a7
 refine L0<|bP a9<|?_
 have bd:=aG bb u
 rcases t:bj (ag bz) fa dir M with _|q
 have bf:=ky (dir:=dir) (aO.old a8 u) hf
 rw[t] at bf
 refine L0<|Oc<|m1 bf fun fj bg=>Pl 5<|nt<|go<|Pl 1<|?_
 refine L0<|aP (ub bg a9) 0<|L0<|cO (m:=1) (e:=5) #[.int .u8 M.code] fun fk fl dr ds bh=>?_
 have bi:=cN dr (xs:=[M.code]) (by as_aux_lemma=>kernel_rfl) (al (by omega) aJ) (by(try simp only[List.length_cons,List.length_nil]);omega) ds
 refine Pl 1<|L0<|bG aX (xs:=([M.code])) (ys:=([])) (.int .u8 0) 1 bi (aS.nil true 5 _ _ _) (by(try simp only[List.length_append,List.length_cons,List.length_nil,ay]);omega) bh.size fun fm fn fp fq dt=>Pl 1<|nt<|sq<|sg<|Pl 2<|nt<|c1<|sg<|?_
 refine Pl 2<|nt<|rt<|tr<|rr (.tuple #[.slice none 0 0,.int .i64 1])<|?_
 have hk:dx dir M=none:=by unfold dx el;simp only[a,b,c,f,j,t]
 refine cL (pW q0 q1 hk) ?_
 exact⟨rfl,(aG bd (aG bg (ut bh dt (am (aM bi lr) av))))⟩
 have bk:=aO.old a8 u
 have bm:=ky (dir:=dir) bk hf
 rw[t] at bm
 refine L0<|Oc<|dk bm fun fr fs ft du fu fv aa=>?_
 have fw:q.length≤1048000:=so t de
 refine Pl 5<|nt<|go<|Pl 1<|?_
 have bn:=ub aa a9
 refine L0<|aP bn 0<|L0<|cO (m:=1) (e:=5) #[.int .u8 M.code] fun fx fy dv dw ab=>?_
 have bq:=cN dv (xs:=[M.code]) (by as_aux_lemma=>kernel_rfl) (al (by omega) aJ) (by(try simp only[List.length_cons,List.length_nil]);omega) dw
 refine Pl 1<|?_
 refine L0<|bG aX (xs:=([M.code])) (ys:=q) (.int .u8 0) 1 bq ((aq du ab (fun x hx=>aA) (fun _ _ h=>h))).rd (by(try simp only[List.length_append,List.length_cons,List.length_nil,ay]);omega) ab.size fun dy dz dA br dB=>Pl 1<|nt<|sq<|sg<|Pl 2<|nt<|c0<|bp<|sq<|?_
 refine go<|Pl 2<|?_
 refine pr (dn dir ([M.code]++q)) fun v ac ad=>?_
 have bs:Calls _ _ _ _ (cK _ _ (dn dir ([M.code]++q)) dA):=eR (dir:=dir) (br).rd (by(try simp only[List.length_append,List.length_cons,List.length_nil]);omega)
 rw[ad] at bs
 refine L0<|Oc<|e2 (bs) fun dD fz dE bt=>?_
 have bv:=aq br bt (fun x hx=>aA) (fun _ _ h=>h)
 have y:=dg.rdt dE (bv).rd
 refine Pl 3<|L0<|bQ mZ fun fA fB dH dI dJ=>L0<|be (hz:=(by rw[y.size];exact aN)) (hv:=y.size) (h1:=y.one) dI (dD) fun fC dK dL=>Pl 1<|ng<|L0<|bP (hz:=(by rw[y.size];exact aN)) dK<|?_
 have ae:=ud dJ dL dH
 have bw:=ut ab (aG dB (aG bt ae)) (am (aM bq lr) av)
 refine L0<|bP (ub bw bn)<|?_
 have bx:=aG aa bw
 refine L0<|Oc<|m1 (dG (A:=v) (B:=M) (aO.upd y ae aK) (aO.old bk bx)) fun fD bA=>Pl 1<|nt<|sq<|sg<|Pl 3<|cu 3 [74] 77 (((ac != 0)||(!(decide (v=M))))) (fun K bB=>?_) ?_
 refine bl 74 ((ac != 0)) (fun z=>?_) (fun z=>?_)
 have dM:=az z
 exact Pl 3<|ce bB true (by rw[z];rfl)
 have dM:=aj z
 exact Pl 3<|ce bB (!(decide (v=M))) (by rw[z];rfl)
 refine nt<|?_
 have bC:=aG bd (aG bx bA)
 refine cb (((ac != 0)||(!(decide (v=M))))) (fun T=>?_) (fun T=>?_)
 refine sg<|Pl 2<|nt<|rt<|tr<|rr (.tuple #[.slice none 0 0,.int .i64 1])<|?_
 have hk:dx dir M=some ([M.code]++q):=by unfold dx el;simp only[a,b,c,f,j,t]
 refine cL (gi q0 q1 hk ad T) ?_
 exact⟨rfl,bC⟩
 have bD:=(aI T).1
 have dN:=(aI T).2
 have fE:=aj bD
 have bE:(decide (v=M))=true:=by simpa using dN
 have q120bnp:=of_decide_eq_true bE
 refine bp<|sg<|Pl 3<|nt<|rt<|rr (.tuple #[.slice dy (([M.code]++q).length) dz,.int .i64 0])<|?_
 have hk:dx dir M=some ([M.code]++q):=by unfold dx el;simp only[a,b,c,f,j,t]
 have bF:=aq bv (aG ae bA) (fun x hx=>aA) (fun _ _ h=>h)
 refine cL (i2 (bo.range (bF).rd) ad bD bE) ?_
 exact⟨_,rfl,(aV.weaken bF (le (le (le (le (le (le d.size g.size) i.size) n.size) s.size) u.size) aa.size)),bC⟩
 have bH:=aO.old a6 s
 have bI:=iQ (dir:=dir) bH hf
 rw[j] at bI
 refine L0<|Oc<|dk bI fun fF fG fH dO fI fJ af=>?_
 have fK:p.length≤1048000:=so j df
 refine Pl 5<|nt<|sq<|sg<|Pl 2<|nt<|c0<|bp<|go<|Pl 1<|?_
 have bJ:=ub af a7
 refine L0<|aP bJ 0<|L0<|cO (m:=1) (e:=5) #[.int .u8 M.code] fun fL fM dP dQ ah=>?_
 have bK:=cN dP (xs:=[M.code]) (by as_aux_lemma=>kernel_rfl) (al (by omega) aJ) (by(try simp only[List.length_cons,List.length_nil]);omega) dQ
 refine Pl 1<|?_
 refine L0<|bG aX (xs:=([M.code])) (ys:=p) (.int .u8 0) 1 bK ((aq dO ah (fun x hx=>aA) (fun _ _ h=>h))).rd (by(try simp only[List.length_append,List.length_cons,List.length_nil,ay]);omega) ah.size fun dR dT dU bL dV=>Pl 1<|nt<|sq<|sg<|Pl 2<|nt<|c0<|bp<|sq<|?_
 refine go<|Pl 2<|?_
 refine pr (dn dir ([M.code]++p)) fun C ai ak=>?_
 have bM:Calls _ _ _ _ (cK _ _ (dn dir ([M.code]++p)) dU):=eR (dir:=dir) (bL).rd (by(try simp only[List.length_append,List.length_cons,List.length_nil]);omega)
 rw[ak] at bM
 refine L0<|Oc<|e2 (bM) fun dW fN dX bN=>?_
 have bO:=aq bL bN (fun x hx=>aA) (fun _ _ h=>h)
 have D:=dg.rdt dX (bO).rd
 refine Pl 3<|L0<|bQ mZ fun fO fP dY e0 e1=>L0<|be (hz:=(by rw[D.size];exact aN)) (hv:=D.size) (h1:=D.one) e0 (dW) fun fQ e3 e4=>Pl 1<|ng<|L0<|bP (hz:=(by rw[D.size];exact aN)) e3<|?_
 have an:=ud e1 e4 dY
 have bR:=ut ah (aG dV (aG bN an)) (am (aM bK lr) av)
 refine L0<|bP (ub bR bJ)<|?_
 have bS:=aG af bR
 refine L0<|Oc<|m1 (dG (A:=C) (B:=M) (aO.upd D an aK) (aO.old bH bS)) fun fR bT=>Pl 1<|nt<|sq<|sg<|Pl 3<|cu 3 [74] 77 (((ai != 0)||(!(decide (C=M))))) (fun K bV=>?_) ?_
 refine bl 74 ((ai != 0)) (fun E=>?_) (fun E=>?_)
 have e5:=az E
 exact Pl 3<|ce bV true (by rw[E];rfl)
 have e5:=aj E
 exact Pl 3<|ce bV (!(decide (C=M))) (by rw[E];rfl)
 refine nt<|?_
 have bW:=aG bb (aG bS bT)
 refine cb (((ai != 0)||(!(decide (C=M))))) (fun U=>?_) (fun U=>?_)
 refine sg<|Pl 2<|nt<|rt<|tr<|rr (.tuple #[.slice none 0 0,.int .i64 1])<|?_
 have hk:dx dir M=some ([M.code]++p):=by unfold dx el;simp only[a,b,c,f,j]
 refine cL (gi q0 q1 hk ak U) ?_
 exact⟨rfl,bW⟩
 have bX:=(aI U).1
 have e6:=(aI U).2
 have fS:=aj bX
 have bY:(decide (C=M))=true:=by simpa using e6
 have q179bnp:=of_decide_eq_true bY
 refine bp<|sg<|Pl 3<|nt<|rt<|rr (.tuple #[.slice dR (([M.code]++p).length) dT,.int .i64 0])<|?_
 have hk:dx dir M=some ([M.code]++p):=by unfold dx el;simp only[a,b,c,f,j]
 have c2:=aq bO (aG an bT) (fun x hx=>aA) (fun _ _ h=>h)
 refine cL (i2 (bo.range (c2).rd) ak bX bY) ?_
 exact⟨_,rfl,(aV.weaken c2 (le (le (le (le (le d.size g.size) i.size) n.size) s.size) af.size)),bW⟩
 have c3:=aO.old a4 n
 have c4:=jD (dir:=dir) c3 hf
 rw[f] at c4
 refine L0<|Oc<|dk c4 fun fT fU fV e7 fW fX ao=>?_
 have fY:o.length≤1048000:=so f dd
 refine Pl 5<|nt<|sq<|sg<|Pl 2<|nt<|c0<|bp<|sq<|sq<|?_
 refine go<|Pl 2<|nt<|c0<|bp<|go<|Pl 1<|?_
 have c5:=ub ao a5
 refine L0<|aP c5 0<|L0<|cO (m:=1) (e:=5) #[.int .u8 M.code] fun fZ g0 e8 e9 ap=>?_
 have c6:=cN e8 (xs:=[M.code]) (by as_aux_lemma=>kernel_rfl) (al (by omega) aJ) (by(try simp only[List.length_cons,List.length_nil]);omega) e9
 refine Pl 1<|?_
 refine L0<|bG aX (xs:=([M.code])) (ys:=o) (.int .u8 0) 1 c6 ((aq e7 ap (fun x hx=>aA) (fun _ _ h=>h))).rd (by(try simp only[List.length_append,List.length_cons,List.length_nil,ay]);omega) ap.size fun ea eb ec c7 ed=>Pl 1<|nt<|sq<|sg<|Pl 2<|nt<|c0<|bp<|sq<|?_
 refine go<|Pl 2<|?_
 refine pr (dn dir ([M.code]++o)) fun F ar au=>?_
 have c8:Calls _ _ _ _ (cK _ _ (dn dir ([M.code]++o)) ec):=eR (dir:=dir) (c7).rd (by(try simp only[List.length_append,List.length_cons,List.length_nil]);omega)
 rw[au] at c8
 refine L0<|Oc<|e2 (c8) fun ee g1 ef c9=>?_
 have ca:=aq c7 c9 (fun x hx=>aA) (fun _ _ h=>h)
 have G:=dg.rdt ef (ca).rd
 refine Pl 3<|L0<|bQ mZ fun g2 g3 eh ei ej=>L0<|be (hz:=(by rw[G.size];exact aN)) (hv:=G.size) (h1:=G.one) ei (ee) fun g4 ek em=>Pl 1<|ng<|L0<|bP (hz:=(by rw[G.size];exact aN)) ek<|?_
 have aw:=ud ej em eh
 have cc:=ut ap (aG ed (aG c9 aw)) (am (aM c6 lr) av)
 refine L0<|bP (ub cc c5)<|?_
 have cd:=aG ao cc
 refine L0<|Oc<|m1 (dG (A:=F) (B:=M) (aO.upd G aw aK) (aO.old c3 cd)) fun g5 cf=>Pl 1<|nt<|sq<|sg<|Pl 3<|cu 3 [74] 77 (((ar != 0)||(!(decide (F=M))))) (fun K cg=>?_) ?_
 refine bl 74 ((ar != 0)) (fun H=>?_) (fun H=>?_)
 have eo:=az H
 exact Pl 3<|ce cg true (by rw[H];rfl)
 have eo:=aj H
 exact Pl 3<|ce cg (!(decide (F=M))) (by rw[H];rfl)
 refine nt<|?_
 have ch:=aG b9 (aG cd cf)
 refine cb (((ar != 0)||(!(decide (F=M))))) (fun V=>?_) (fun V=>?_)
 refine sg<|Pl 2<|nt<|rt<|tr<|rr (.tuple #[.slice none 0 0,.int .i64 1])<|?_
 have hk:dx dir M=some ([M.code]++o):=by unfold dx el;simp only[a,b,c,f]
 refine cL (gi q0 q1 hk au V) ?_
 exact⟨rfl,ch⟩
 have ci:=(aI V).1
 have ep:=(aI V).2
 have g6:=aj ci
 have cj:(decide (F=M))=true:=by simpa using ep
 have q238bnp:=of_decide_eq_true cj
 refine bp<|sg<|Pl 3<|nt<|rt<|rr (.tuple #[.slice ea (([M.code]++o).length) eb,.int .i64 0])<|?_
 have hk:dx dir M=some ([M.code]++o):=by unfold dx el;simp only[a,b,c,f]
 have ck:=aq ca (aG aw cf) (fun x hx=>aA) (fun _ _ h=>h)
 refine cL (i2 (bo.range (ck).rd) au ci cj) ?_
 exact⟨_,rfl,(aV.weaken ck (le (le (le (le d.size g.size) i.size) n.size) ao.size)),ch⟩
 have cl:=aO.old a2 i
 have cm:=jx (dir:=dir) cl hf
 rw[c] at cm
 refine L0<|Oc<|dk cm fun g7 g8 g9 eq ga gb ax=>?_
 have gc:l.length≤1048000:=so c dc
 refine Pl 5<|nt<|sq<|sg<|Pl 2<|nt<|c0<|bp<|sq<|sq<|?_
 refine go<|Pl 2<|nt<|c0<|bp<|sq<|sg<|Pl 2<|nt<|c0<|?_
 refine bp<|go<|Pl 1<|?_
 have cn:=ub ax a3
 refine L0<|aP cn 0<|L0<|cO (m:=1) (e:=5) #[.int .u8 M.code] fun gd ge er es aB=>?_
 have co:=cN er (xs:=[M.code]) (by as_aux_lemma=>kernel_rfl) (al (by omega) aJ) (by(try simp only[List.length_cons,List.length_nil]);omega) es
 refine Pl 1<|?_
 refine L0<|bG aX (xs:=([M.code])) (ys:=l) (.int .u8 0) 1 co ((aq eq aB (fun x hx=>aA) (fun _ _ h=>h))).rd (by(try simp only[List.length_append,List.length_cons,List.length_nil,ay]);omega) aB.size fun et eu ev cp ew=>Pl 1<|nt<|sq<|sg<|Pl 2<|nt<|c0<|bp<|sq<|?_
 refine go<|Pl 2<|?_
 refine pr (dn dir ([M.code]++l)) fun I aD aE=>?_
 have cq:Calls _ _ _ _ (cK _ _ (dn dir ([M.code]++l)) ev):=eR (dir:=dir) (cp).rd (by(try simp only[List.length_append,List.length_cons,List.length_nil]);omega)
 rw[aE] at cq
 refine L0<|Oc<|e2 (cq) fun ex gf ey cr=>?_
 have ct:=aq cp cr (fun x hx=>aA) (fun _ _ h=>h)
 have J:=dg.rdt ey (ct).rd
 refine Pl 3<|L0<|bQ mZ fun gg gh ez eA eB=>L0<|be (hz:=(by rw[J.size];exact aN)) (hv:=J.size) (h1:=J.one) eA (ex) fun gk eC eD=>Pl 1<|ng<|L0<|bP (hz:=(by rw[J.size];exact aN)) eC<|?_
 have aF:=ud eB eD ez
 have cv:=ut aB (aG ew (aG cr aF)) (am (aM co lr) av)
 refine L0<|bP (ub cv cn)<|?_
 have cw:=aG ax cv
 refine L0<|Oc<|m1 (dG (A:=I) (B:=M) (aO.upd J aF aK) (aO.old cl cw)) fun gl cx=>Pl 1<|nt<|sq<|sg<|Pl 3<|cu 3 [74] 77 (((aD != 0)||(!(decide (I=M))))) (fun K cy=>?_) ?_
 refine bl 74 ((aD != 0)) (fun L=>?_) (fun L=>?_)
 have eE:=az L
 exact Pl 3<|ce cy true (by rw[L];rfl)
 have eE:=aj L
 exact Pl 3<|ce cy (!(decide (I=M))) (by rw[L];rfl)
 refine nt<|?_
 have cz:=aG b7 (aG cw cx)
 refine cb (((aD != 0)||(!(decide (I=M))))) (fun W=>?_) (fun W=>?_)
 refine sg<|Pl 2<|nt<|rt<|tr<|rr (.tuple #[.slice none 0 0,.int .i64 1])<|?_
 have hk:dx dir M=some ([M.code]++l):=by unfold dx el;simp only[a,b,c]
 refine cL (gi q0 q1 hk aE W) ?_
 exact⟨rfl,cz⟩
 have cA:=(aI W).1
 have eF:=(aI W).2
 have gm:=aj cA
 have cB:(decide (I=M))=true:=by simpa using eF
 have q297bnp:=of_decide_eq_true cB
 refine bp<|sg<|Pl 3<|nt<|rt<|rr (.tuple #[.slice et (([M.code]++l).length) eu,.int .i64 0])<|?_
 have hk:dx dir M=some ([M.code]++l):=by unfold dx el;simp only[a,b,c]
 have cC:=aq ct (aG aF cx) (fun x hx=>aA) (fun _ _ h=>h)
 refine cL (i2 (bo.range (cC).rd) aE cA cB) ?_
 exact⟨_,rfl,(aV.weaken cC (le (le (le d.size g.size) i.size) ax.size)),cz⟩
 have cD:=aO.old a0 g
 have cE:=iH (dir:=dir) cD hf
 rw[b] at cE
 refine L0<|Oc<|dk cE fun gn gp gq eG gr gs aL=>?_
 have gt:k.length≤1048000:=so b db
 refine Pl 5<|nt<|sq<|sg<|Pl 2<|nt<|c0<|bp<|sq<|sq<|?_
 refine go<|Pl 2<|nt<|c0<|bp<|sq<|sg<|Pl 2<|nt<|c0<|?_
 refine bp<|sq<|sg<|Pl 2<|nt<|c0<|bp<|go<|Pl 1<|?_
 have cF:=ub aL a1
 refine L0<|aP cF 0<|L0<|cO (m:=1) (e:=5) #[.int .u8 M.code] fun gu gv eH eI aT=>?_
 have cG:=cN eH (xs:=[M.code]) (by as_aux_lemma=>kernel_rfl) (al (by omega) aJ) (by(try simp only[List.length_cons,List.length_nil]);omega) eI
 refine Pl 1<|?_
 refine L0<|bG aX (xs:=([M.code])) (ys:=k) (.int .u8 0) 1 cG ((aq eG aT (fun x hx=>aA) (fun _ _ h=>h))).rd (by(try simp only[List.length_append,List.length_cons,List.length_nil,ay]);omega) aT.size fun eJ eK eL cH eM=>Pl 1<|nt<|sq<|sg<|Pl 2<|nt<|c0<|bp<|sq<|?_
 refine go<|Pl 2<|?_
 refine pr (dn dir ([M.code]++k)) fun N aU aY=>?_
 have cI:Calls _ _ _ _ (cK _ _ (dn dir ([M.code]++k)) eL):=eR (dir:=dir) (cH).rd (by(try simp only[List.length_append,List.length_cons,List.length_nil]);omega)
 rw[aY] at cI
 refine L0<|Oc<|e2 (cI) fun eN gw eO cJ=>?_
 have cM:=aq cH cJ (fun x hx=>aA) (fun _ _ h=>h)
 have O:=dg.rdt eO (cM).rd
 refine Pl 3<|L0<|bQ mZ fun gx gy eP eQ eS=>L0<|be (hz:=(by rw[O.size];exact aN)) (hv:=O.size) (h1:=O.one) eQ (eN) fun gz eT eU=>Pl 1<|ng<|L0<|bP (hz:=(by rw[O.size];exact aN)) eT<|?_
 have aZ:=ud eS eU eP
 have cP:=ut aT (aG eM (aG cJ aZ)) (am (aM cG lr) av)
 refine L0<|bP (ub cP cF)<|?_
 have cQ:=aG aL cP
 refine L0<|Oc<|m1 (dG (A:=N) (B:=M) (aO.upd O aZ aK) (aO.old cD cQ)) fun gA cR=>Pl 1<|nt<|sq<|sg<|Pl 3<|cu 3 [74] 77 (((aU != 0)||(!(decide (N=M))))) (fun K cS=>?_) ?_
 refine bl 74 ((aU != 0)) (fun P=>?_) (fun P=>?_)
 have eV:=az P
 exact Pl 3<|ce cS true (by rw[P];rfl)
 have eV:=aj P
 exact Pl 3<|ce cS (!(decide (N=M))) (by rw[P];rfl)
 refine nt<|?_
 have cT:=aG b5 (aG cQ cR)
 refine cb (((aU != 0)||(!(decide (N=M))))) (fun X=>?_) (fun X=>?_)
 refine sg<|Pl 2<|nt<|rt<|tr<|rr (.tuple #[.slice none 0 0,.int .i64 1])<|?_
 have hk:dx dir M=some ([M.code]++k):=by unfold dx el;simp only[a,b]
 refine cL (gi q0 q1 hk aY X) ?_
 exact⟨rfl,cT⟩
 have cU:=(aI X).1
 have eW:=(aI X).2
 have gB:=aj cU
 have cV:(decide (N=M))=true:=by simpa using eW
 have q356bnp:=of_decide_eq_true cV
 refine bp<|sg<|Pl 3<|nt<|rt<|rr (.tuple #[.slice eJ (([M.code]++k).length) eK,.int .i64 0])<|?_
 have hk:dx dir M=some ([M.code]++k):=by unfold dx el;simp only[a,b]
 have cW:=aq cM (aG aZ cR) (fun x hx=>aA) (fun _ _ h=>h)
 refine cL (i2 (bo.range (cW).rd) aY cU cV) ?_
 exact⟨_,rfl,(aV.weaken cW (le (le d.size g.size) aL.size)),cT⟩
 have cY:=aO.old hM d
 have cZ:=kU cY
 rw[a] at cZ
 refine L0<|Oc<|dk cZ fun eX eY eZ d0 gC gD f0=>?_
 have gE:r.length≤1048000:=rI a
 refine Pl 5<|nt<|sq<|sg<|Pl 2<|nt<|c0<|bp<|sq<|sq<|?_
 refine go<|Pl 2<|nt<|c0<|bp<|sg<|Pl 2<|?_
 refine pr (dn dir r) fun Q b0 b1=>?_
 have d1:Calls _ _ _ _ (cK _ _ (dn dir r) eZ):=eR (dir:=dir) (d0).rd (by(try simp only[List.length_append,List.length_cons,List.length_nil]);omega)
 rw[b1] at d1
 refine L0<|Oc<|e2 (d1) fun f1 gF f2 d2=>?_
 have d3:=aq d0 d2 (fun x hx=>aA) (fun _ _ h=>h)
 have R:=dg.rdt f2 (d3).rd
 refine Pl 3<|L0<|bQ mZ fun gG gH f3 f4 f5=>L0<|be (hz:=(by rw[R.size];exact aN)) (hv:=R.size) (h1:=R.one) f4 (f1) fun gI f6 f7=>Pl 1<|ng<|L0<|bP (hz:=(by rw[R.size];exact aN)) f6<|?_
 have b2:=ud f5 f7 f3
 have b3:=aG f0 (aG d2 b2)
 refine L0<|bP (ub b3 Z)<|?_
 refine L0<|Oc<|m1 (dG (A:=Q) (B:=M) (aO.upd R b2 aK) (aO.old cY b3)) fun gJ d4=>Pl 1<|nt<|sq<|sg<|Pl 3<|cu 3 [74] 77 (((b0 != 0)||(!(decide (Q=M))))) (fun K d5=>?_) ?_
 refine bl 74 ((b0 != 0)) (fun S=>?_) (fun S=>?_)
 have f8:=az S
 exact Pl 3<|ce d5 true (by rw[S];rfl)
 have f8:=aj S
 exact Pl 3<|ce d5 (!(decide (Q=M))) (by rw[S];rfl)
 refine nt<|?_
 have d6:=aG d (aG b3 d4)
 refine cb (((b0 != 0)||(!(decide (Q=M))))) (fun Y=>?_) (fun Y=>?_)
 refine sg<|Pl 2<|nt<|rt<|tr<|rr (.tuple #[.slice none 0 0,.int .i64 1])<|?_
 have hk:dx dir M=some r:=by unfold dx el;simp only[a]
 refine cL (gi q0 q1 hk b1 Y) ?_
 exact⟨rfl,d6⟩
 have d7:=(aI Y).1
 have f9:=(aI Y).2
 have gK:=aj d7
 have d8:(decide (Q=M))=true:=by simpa using f9
 have q400bnp:=of_decide_eq_true d8
 refine bp<|sg<|Pl 3<|nt<|rt<|rr (.tuple #[.slice eX r.length eY,.int .i64 0])<|?_
 have hk:dx dir M=some r:=by unfold dx el;simp only[a]
 have da:=aq d3 (aG b2 d4) (fun x hx=>aA) (fun _ _ h=>h)
 refine cL (i2 (bo.range (da).rd) b1 d7 d8) ?_
 exact⟨_,rfl,(aV.weaken da d.size),d6⟩
open Go.RowKit
def mB:aQ:={ aQ.zero with code:=3,addr:=107,count:=3 }
def ow:aQ:={ aQ.zero with code:=3,fail:=2 }
theorem xO:dn 0 [3,0,107,0,3]=(mB,0):=by decide +kernel
theorem xL:dn 1 [131,2]=(ow,0):=by decide +kernel
theorem xK:cX 0 mB=some [3,0,107,0,3]:=by decide +kernel
theorem ws:bU mB:=⟨by decide,by decide,by decide,by decide,(fun r h=>nomatch h),by decide,(fun r h=>nomatch h)⟩
theorem tF{w:World}:Calls Tryz.prog 23 #[] w (dM (.bool true) w):=by
 refine en 62 Tryz.func23 rfl<|sg<|Pl 1<|ng<|L0<|cO (m:=5) (e:=5) #[.int .u8 3,.int .u8 0,.int .u8 107,.int .u8 0,.int .u8 3] fun aI C D E F=>?_
 have G:=cN D (xs:=[3,0,107,0,3]) (by as_aux_lemma=>kernel_rfl) (al (by omega) (al (by omega) (al (by omega) (al (by omega) (al (by omega) aJ))))) (by(try simp only[List.length_cons,List.length_nil]);omega) E
 have l:=lK (dir:=0) (w:=C) (G).rd (by decide)
 rw[xO] at l
 refine L0<|Oc<|e2 l fun H aL o I=>?_
 have J:=o
 obtain⟨K,L,M,N,O,P,Q,R,S,T,U,aM⟩:=J
 obtain rfl:H=(bu mB K L M N O).toArray:=by apply Array.toList_inj.1;simpa using P
 obtain⟨V,W,rfl,_,_⟩:=Q.shape
 obtain⟨X,Y,rfl,_,_⟩:=R.shape
 obtain⟨Z,a0,rfl,_,_⟩:=S.shape
 obtain⟨a1,a2,rfl,_,_⟩:=T.shape
 obtain⟨a3,a4,rfl,_,_⟩:=U.shape
 refine Pl 3<|L0<|bQ mZ fun aN aQ p a5 q=>L0<|be a5 (mG 3 0 107 3 0 0 0 0 0 0 0 0 (.slice V mB.words.length W) (.slice X mB.bits.length Y) (.slice Z mB.data.length a0) (.slice a1 mB.recs.length a2) 0 0 0 0 0 (.slice a3 mB.objects.length a4)) fun aR a6 r=>Pl 1<|ng<|L0<|cO (m:=2) (e:=5) #[.int .u8 131,.int .u8 2] fun aS a7 a8 a9 d=>?_
 have aa:=cN a8 (xs:=[131,2]) (by as_aux_lemma=>kernel_rfl) (al (by omega) (al (by omega) aJ)) (by(try simp only[List.length_cons,List.length_nil]);omega) a9
 have s:=lK (dir:=1) (w:=a7) (aa).rd (by decide)
 rw[xL] at s
 refine L0<|Oc<|e2 s fun ab aT ac f=>?_
 have ad:=ac
 obtain⟨ae,af,ag,ah,ai,aj,ak,am,an,ao,ap,aU⟩:=ad
 obtain rfl:ab=(bu ow ae af ag ah ai).toArray:=by apply Array.toList_inj.1;simpa using aj
 obtain⟨aq,ar,rfl,_,_⟩:=ak.shape
 obtain⟨au,av,rfl,_,_⟩:=am.shape
 obtain⟨aw,ax,rfl,_,_⟩:=an.shape
 obtain⟨ay,az,rfl,_,_⟩:=ao.shape
 obtain⟨aA,aB,rfl,_,_⟩:=ap.shape
 refine Pl 3<|L0<|bQ mZ fun aV aW g aC h=>L0<|be aC (mG 3 2 0 0 0 0 0 0 0 0 0 0 (.slice aq ow.words.length ar) (.slice au ow.bits.length av) (.slice aw ow.data.length ax) (.slice ay ow.recs.length az) 0 0 0 0 0 (.slice aA ow.objects.length aB)) fun aX aD i=>Pl 1<|ng<|?_
 have t:=aG d f
 have u:=ub (u1 (aG t h) i (ni t.size g)) a6
 refine L0<|bP u<|?_
 have v:=aG (aG (u1 q r (nr p)) d) f
 have x:=j9 (dir:=0) (aO.upd o (u1 (aG v h) i (ni v.size g)) aK) ws
 rw[xK] at x
 refine L0<|Oc<|dk x fun aE aF aY aH aZ b0 j=>Pl 5<|ng<|Pl 4<|?_
 have k:=ub j u
 refine L1<|aP k 0<|Pl 4<|L1<|aP k 2<|Pl 4<|L1<|aP k 3<|Pl 8<|?_
 have y:=ub j aD
 refine L1<|aP y 0<|Pl 4<|L1<|aP y 1<|Pl 8<|L1<|oo (.string (strOfNums ([3,0,107,0,3]))) (eW (A:=aE) (n:=[3,0,107,0,3].length) (c:=aF) rfl (by kernel_rfl) Tryz.underlying22 Tryz.underlying5 Tryz.underlying9 (aH).rd)<|L1<|oo (.bool true) (kY (a:=(strOfNums ([3,0,107,0,3]))) (b:=⟨#[3,0,107,0,3]⟩) rfl (by kernel_rfl) (by kernel_rfl) (ul rfl (by decide)))<|Pl 2<|nt<|rt<|rr (.bool true)<|?_
 have z:=aG F I
 have B:=aG (aG (u1 (aG z q) r (ni z.size p)) d) f
 exact⟨rfl,(aG (u1 (aG B h) i (ni B.size g)) j)⟩
open Go.RowKit
theorem mS{m:Md}{cs:Array Value}{M:aQ}{w:World}{dir:Int}(hX:cX dir M=none)(h:aO m w cs.toList M)(hf:bU M) : Calls Tryz.prog 29 #[.int .i64 dir,.agg cs] w (fun e w'=>e = .returned (.tuple #[.slice none 0 0,.int .i64 1])∧aE [] w w'):=by
  have:=kZ (dir:=dir) h hf
  rw[hX] at this
  exact this
theorem ms{m:Md}{cs:Array Value}{M:aQ}{w:World}{dir:Int}{l:List Int}(hX:cX dir M=some l)(h:aO m w cs.toList M)(hf:bU M) : Calls Tryz.prog 29 #[.int .i64 dir,.agg cs] w (fun e w'=>∃ v,e = .returned (.tuple #[v,.int .i64 0])∧eY w.heap.size w' v l∧aE [] w w'):=by
  have:=kZ (dir:=dir) h hf
  rw[hX] at this
  exact this
theorem mF{w:World}{dir:Int}{mM:Md}{M:aQ}{cM:Array Value}(hM:aO mM w cM.toList M) :
    Calls Tryz.prog 4 #[.int .i64 dir,.agg cM] w (dM (.bool true) w):=by
 obtain⟨xM,rfl⟩:=vA hM
 have hRM:=hM.rngs
 obtain⟨hcM,hdM⟩:=hRM
 refine en 40 Tryz.func4 rfl<|sg<|L0<|dC (xI M xM) fun D E F q r=>Pl 1<|ng<|L0<|Oc<|m1 (@tF _) fun G l=>Pl 1<|nt<|sq<|?_
 refine go<|?_
 have m:=ub l q
 refine L0<|bP m<|?_
 have n:=aG r l
 have o:=aO.old hM n
 refine L0<|Oc<|m1 (ug o) fun H e=>Pl 1<|nt<|sq<|sg<|Pl 2<|nt<|?_
 have f:=aG n e
 refine cb ((!(gJ M))) (fun g=>?_) (fun g=>?_)
 have c:(gJ M)=false:=by simpa using g
 refine sg<|Pl 2<|nt<|rt<|tr<|rr (.bool true)<|?_
 exact⟨rfl,f⟩
 have c:(gJ M)=true:=by simpa using g
 refine bp<|sg<|Pl 1<|?_
 have i:=ub e m
 refine L0<|bP i<|?_
 have d:=aO.old o e
 refine wo (cX dir M) (fun b=>?_) (fun a b=>?_)
 refine L0<|Oc<|m1 (o6 b d (iU c)) fun I j=>Pl 5<|ng<|Pl 1<|?_
 refine L0<|bP (ub j i)<|?_
 refine L0<|Oc<|m1 (mS b (aO.old d j) (iU c)) fun J s=>Pl 5<|ng<|Pl 9<|L1<|Oc (args:=#[.slice none 0 0,.slice none 0 0])<|m1 (i7 (xs:=([] : List Int)) (ys:=[]) (aS.nil true _ _ _ _) (aS.nil true _ _ _ _)) fun K t=>Pl 2<|nt<|rt<|rr (.bool (decide (([] : List Int)=[])))<|?_
 have hs:(decide (([] : List Int)=[]))=true:=by simp
 rw[hs]
 exact⟨rfl,(aG f (aG j (aG s t)))⟩
 have L:=tq (d.rngs).1 b
 refine L0<|Oc<|dk (mW b d (iU c)) fun u v N y O P k=>Pl 5<|ng<|Pl 1<|?_
 refine L0<|bP (ub k i)<|?_
 refine L0<|Oc<|dk (ms b (aO.old d k) (iU c)) fun z A Q B R S p=>Pl 5<|ng<|Pl 9<|?_
 refine L1<|Oc (args:=#[.slice u a.length v,.slice z a.length A])<|m1 (i7 (xs:=a) (ys:=a) ((aq y p (fun x hx=>aA) (fun _ _ h=>h))).rd (B).rd) fun T C=>Pl 2<|nt<|rt<|rr (.bool (decide (a=a)))<|?_
 have hs:(decide (a=a))=true:=by simp
 rw[hs]
 exact⟨rfl,(aG f (aG k (aG p C)))⟩
open Go.RowKit
section
variable {H:Type}{enc:TypeId × Value→H}{P:Program}{w:World}{base:Nat}{spare:Nat→Bool}{held:Bool}
theorem nG(b off:Nat)(sp:Option Nat)(n:Nat)(h:sp=none) : (⟨b,off,sp⟩ : Addr).add n=⟨b,off+n,none⟩:=jb b off n sp h
theorem qZ{b off:Nat}{sp:Option Nat}{v:Value}(h:w.cell? ⟨b,off,sp⟩=some v) : sp=none:=by
  cases sp with
  | none=>rfl
  | some s =>
    unfold World.cell? at h
    simp at h
    split at h<;>cases h
theorem sm{α:Type}{Pd:DataW H→Prop}{R:World→α→List Value→Prop}{t e:TypeId}{sz fuel:Nat}{cs:List Value}{x:DataW H × List MemPlace}(ht:P.underlying t=some (.slice e))(hsz:P.cellsOf e=sz)(hp:0<sz)
    (hel:∀ n cs' y,cs'.length=sz→DataW.trod enc P w base spare held n e cs'=some y→Pd y.1→∃ x,R w x cs') (hP:∀ elems spare,x.1 = .slice elems spare→∀ d,d∈elems→Pd d) (h:DataW.trod enc P w base spare held fuel t cs=some x) : ∃ v xs,cs=[v]∧aS false e sz R w v xs:=by
  rcases Go.Deep.open_slice ht h with⟨rfl,_⟩|⟨a,len,cap,m,n,D,Pl,rfl,_,hl,hm,hmm,hxe,hx⟩
  · exact⟨_,[],rfl,aS.nil ..⟩
  have hlm:len≤m:=by rw[hmm];split<;>omega
  have key:∀ i:Fin len,∃ y:α × List Value,w.cells? base (a.add (i*sz)) sz=some y.2∧y.2.length=sz∧R w y.1 y.2:=fun i=>by
    obtain⟨cs',h1,h2⟩:=hx i (by omega)
    rw[hsz] at h1
    obtain⟨_,hlen,_⟩:=World.cells?_some h1
    obtain⟨y,hy⟩:=hel n cs' _ hlen h2 (hP _ _ (by rw[hxe]) _ (List.mem_map.2 ⟨i.1,List.mem_range.2 i.2,rfl⟩))
    exact⟨(y,cs'),h1,hlen,hy⟩
  obtain⟨f,hf⟩:=Classical.axiomOfChoice key
  refine⟨_,List.ofFn fun i=>(f i).1,rfl,some a,cap,by simp,by simpa using hl,hm,(fun h=>by cases h),fun hpos=>?_⟩
  have hpos':0<len:=by simpa using hpos
  obtain⟨b,off,sp⟩:=a
  have hsp:sp=none:=by
    obtain⟨h1,h2,_⟩:=hf ⟨0,hpos'⟩
    obtain⟨_,_,h3⟩:=World.cells?_some h1
    have h4:=h3 0 hp
    rw[List.getElem?_eq_getElem (by omega)] at h4
    cases sp with
    | none=>rfl
    | some s =>
      simp[Addr.add] at h4
      exact qZ h4
  subst hsp
  have hc:∀ i:Fin len,∀ k u,(f i).2[k]? = some u→w.cell? ⟨b,off+i*sz+k,none⟩=some u:=fun i k u hu=>by
    obtain⟨h1,h2,_⟩:=hf i
    obtain⟨_,_,h3⟩:=World.cells?_some h1
    have hk:k<sz:=by have:=(List.getElem?_eq_some_iff.1 hu).1;omega
    have h4:=h3 k hk
    rw[nG _ _ _ _ rfl,nG _ _ _ _ rfl] at h4
    rw[h4,hu]
  have h0:∃ u,w.cell? ⟨b,off+0*sz+0,none⟩=some u:=by
    obtain⟨_,h2,_⟩:=hf ⟨0,hpos'⟩
    exact⟨_,hc ⟨0,hpos'⟩ 0 _ (List.getElem?_eq_getElem (by omega))⟩
  obtain⟨u,hu⟩:=h0
  unfold World.cell? at hu
  split at hu
  · rename_i cells t' fr hb
    refine⟨b,off,cells,t',fr,rfl,hb,fun h=>(by cases h),fun j y hj=>?_⟩
    have hjl:j<len:=by have:=(List.getElem?_eq_some_iff.1 hj).1;simpa using this
    have hy:(f ⟨j,hjl⟩).1=y:=by
      rw[List.getElem?_ofFn] at hj
      simpa [hjl] using hj
    obtain⟨_,h2,h3⟩:=hf ⟨j,hjl⟩
    refine⟨(f ⟨j,hjl⟩).2,h2,by rw[← hy];exact h3,fun i u hi=>?_⟩
    have:=hc ⟨j,hjl⟩ i u hi
    rw[bB hb] at this
    exact this
  · cases hu
theorem iT{α:Type}{R:World→α→List Value→Prop}{t e:TypeId}{sz fuel:Nat}{cs:List Value}{x:DataW H × List MemPlace}(ht:P.underlying t=some (.slice e))(hsz:P.cellsOf e=sz)(hp:0<sz)
    (hel:∀ n cs' y,cs'.length=sz→DataW.trod enc P w base spare held n e cs'=some y→∃ x,R w x cs') (h:DataW.trod enc P w base spare held fuel t cs=some x) : ∃ v xs,cs=[v]∧aS false e sz R w v xs :=
  sm (Pd:=fun _=>True) ht hsz hp (fun n cs' y h1 h2 _=>hel n cs' y h1 h2) (fun _ _ _ _ _=>trivial) h
end
section
variable {H:Type}{enc:TypeId × Value→H}{w:World}{base:Nat}{spare:Nat→Bool}{held:Bool}{n:Nat}{y:DataW H × List MemPlace}
theorem oJ{n:Int}(h:(Lit.int .u16 n).wf=true) : 0≤n∧n<65536:=by
  have:=bounds_u16 h
  omega
theorem iJ{cs:List Value}(h:DataW.trod enc Tryz.prog w base spare held n 5 cs=some y) : ∃ x,rN w x cs:=by
  obtain⟨k,rfl,_,hw⟩:=DataW.trod_int Tryz.underlying5 h
  exact⟨k,rfl,qj hw⟩
theorem eH{cs:List Value}(h:DataW.trod enc Tryz.prog w base spare held n 24 cs=some y) : ∃ x,qg w x cs:=by
  obtain⟨k,rfl,_,hw⟩:=DataW.trod_int Tryz.underlying24 h
  exact⟨k,rfl,oJ hw⟩
theorem tv{cs:List Value}(h:DataW.trod enc Tryz.prog w base spare held n 4 cs=some y) : ∃ x,lH w x cs:=by
  obtain⟨k,rfl,_⟩:=DataW.trod_bool Tryz.underlying4 h
  exact⟨k,rfl⟩
theorem uE{cs:List Value}(h:DataW.trod enc Tryz.prog w base spare held n 22 cs=some y) : ∃ v xs,cs=[v]∧bo false w v xs:=iT Tryz.underlying22 (by kernel_rfl) (by decide) (fun _ _ _ _ h=>iJ h) h
theorem s8{cs:List Value}(h:DataW.trod enc Tryz.prog w base spare held n 25 cs=some y) : ∃ v xs,cs=[v]∧dN false w v xs:=iT Tryz.underlying25 (by kernel_rfl) (by decide) (fun _ _ _ _ h=>eH h) h
theorem u0{cs:List Value}(h:DataW.trod enc Tryz.prog w base spare held n 26 cs=some y) : ∃ v xs,cs=[v]∧gQ false w v xs:=iT Tryz.underlying26 (by kernel_rfl) (by decide) (fun _ _ _ _ h=>tv h) h
end
open Go.RowKit
theorem eI{cs:List Value}{o:Nat}{v:Value}(h:(cs.drop o).take 1=[v]) : cs.drop o=v :: cs.drop (o+1):=by
  cases hd:cs.drop o with
  | nil=>rw[hd] at h;cases h
  | cons a l =>
    rw[hd] at h
    have h1:a=v:=by simpa using h
    rw[h1,← List.drop_drop,hd]
    rfl
theorem kW{cs:List Value}{n:Nat}(h:cs.length=n) : cs.drop n=[]:=by rw[← h];simp
section
variable {H:Type}{enc:TypeId × Value→H}{w:World}{base:Nat}{spare:Nat→Bool}{held:Bool}{n:Nat}{y:DataW H × List MemPlace}
theorem vq{cs:List Value}(h:DataW.trod enc Tryz.prog w base spare held n 109 cs=some y) : ∃ x,bv false w x cs:=by
  obtain⟨xs,m,rfl,_,hlen,hxs,hf⟩:=DataW.trod_struct Tryz.underlying109 h
  rw[show Tryz.prog.cellsOf 109=4 from by kernel_rfl] at hlen
  replace hxs:xs.length=4:=hxs.trans (by kernel_rfl)
  obtain⟨y0,g0⟩ : ∃ y,xs[0]? = some y:=⟨_,List.getElem?_eq_getElem (show 0<xs.length by omega)⟩
  have f0:DataW.trod enc Tryz.prog w base spare held m 24 ((cs.drop 0).take (Tryz.prog.cellsOf 24))=xs[0]?:=hf 0 _ rfl
  rw[g0] at f0
  rw[show Tryz.prog.cellsOf 24=1 from by kernel_rfl] at f0
  obtain⟨x0,e0,r0⟩:=eH f0
  obtain⟨y1,g1⟩ : ∃ y,xs[1]? = some y:=⟨_,List.getElem?_eq_getElem (show 1<xs.length by omega)⟩
  have f1:DataW.trod enc Tryz.prog w base spare held m 24 ((cs.drop 1).take (Tryz.prog.cellsOf 24))=xs[1]?:=hf 1 _ rfl
  rw[g1] at f1
  rw[show Tryz.prog.cellsOf 24=1 from by kernel_rfl] at f1
  obtain⟨x1,e1,r1⟩:=eH f1
  obtain⟨y2,g2⟩ : ∃ y,xs[2]? = some y:=⟨_,List.getElem?_eq_getElem (show 2<xs.length by omega)⟩
  have f2:DataW.trod enc Tryz.prog w base spare held m 24 ((cs.drop 2).take (Tryz.prog.cellsOf 24))=xs[2]?:=hf 2 _ rfl
  rw[g2] at f2
  rw[show Tryz.prog.cellsOf 24=1 from by kernel_rfl] at f2
  obtain⟨x2,e2,r2⟩:=eH f2
  obtain⟨y3,g3⟩ : ∃ y,xs[3]? = some y:=⟨_,List.getElem?_eq_getElem (show 3<xs.length by omega)⟩
  have f3:DataW.trod enc Tryz.prog w base spare held m 25 ((cs.drop 3).take (Tryz.prog.cellsOf 25))=xs[3]?:=hf 3 _ rfl
  rw[g3] at f3
  rw[show Tryz.prog.cellsOf 25=1 from by kernel_rfl] at f3
  obtain⟨v3,l3,e3,r3⟩:=s8 f3
  have hcs:cs=[.int .u16 x0,.int .u16 x1,.int .u16 x2,v3]:=by
    show cs.drop 0=_
    rw[eI e0,eI e1,eI e2,eI e3,kW hlen]
  subst hcs
  exact⟨⟨x0,x1,x2,l3⟩,_,rfl,r3,r0,r1,r2⟩
theorem vC{cs:List Value}(h:DataW.trod enc Tryz.prog w base spare held n 27 cs=some y) : ∃ v xs,cs=[v]∧kf false w v xs:=iT Tryz.underlying27 (by kernel_rfl) (by decide) (fun _ _ _ _ h=>vq h) h
theorem vL{cs:List Value}(h:DataW.trod enc Tryz.prog w base spare held n 111 cs=some y) : ∃ x,dq false w x cs:=by
  obtain⟨xs,m,rfl,_,hlen,hxs,hf⟩:=DataW.trod_struct Tryz.underlying111 h
  rw[show Tryz.prog.cellsOf 111=2 from by kernel_rfl] at hlen
  replace hxs:xs.length=2:=hxs.trans (by kernel_rfl)
  obtain⟨y0,g0⟩ : ∃ y,xs[0]? = some y:=⟨_,List.getElem?_eq_getElem (show 0<xs.length by omega)⟩
  have f0:DataW.trod enc Tryz.prog w base spare held m 5 ((cs.drop 0).take (Tryz.prog.cellsOf 5))=xs[0]?:=hf 0 _ rfl
  rw[g0] at f0
  rw[show Tryz.prog.cellsOf 5=1 from by kernel_rfl] at f0
  obtain⟨x0,e0,r0⟩:=iJ f0
  obtain⟨y1,g1⟩ : ∃ y,xs[1]? = some y:=⟨_,List.getElem?_eq_getElem (show 1<xs.length by omega)⟩
  have f1:DataW.trod enc Tryz.prog w base spare held m 22 ((cs.drop 1).take (Tryz.prog.cellsOf 22))=xs[1]?:=hf 1 _ rfl
  rw[g1] at f1
  rw[show Tryz.prog.cellsOf 22=1 from by kernel_rfl] at f1
  obtain⟨v1,l1,e1,r1⟩:=uE f1
  have hcs:cs=[.int .u8 x0,v1]:=by
    show cs.drop 0=_
    rw[eI e0,eI e1,kW hlen]
  subst hcs
  exact⟨⟨x0,l1⟩,_,rfl,r1,r0⟩
theorem vg{cs:List Value}(h:DataW.trod enc Tryz.prog w base spare held n 28 cs=some y) : ∃ v xs,cs=[v]∧m9 false w v xs:=iT Tryz.underlying28 (by kernel_rfl) (by decide) (fun _ _ _ _ h=>vL h) h
theorem sD{cs:List Value}(h:DataW.trod enc Tryz.prog w base spare held n 30 cs=some y) : ∃ M,aO false w cs M:=by
  obtain⟨xs,m,rfl,_,hlen,hxs,hf⟩:=DataW.trod_struct Tryz.underlying30 h
  rw[show Tryz.prog.cellsOf 30=22 from by kernel_rfl] at hlen
  replace hxs:xs.length=22:=hxs.trans (by kernel_rfl)
  obtain⟨y0,g0⟩ : ∃ y,xs[0]? = some y:=⟨_,List.getElem?_eq_getElem (show 0<xs.length by omega)⟩
  have f0:DataW.trod enc Tryz.prog w base spare held m 5 ((cs.drop 0).take (Tryz.prog.cellsOf 5))=xs[0]?:=hf 0 _ rfl
  rw[g0] at f0
  rw[show Tryz.prog.cellsOf 5=1 from by kernel_rfl] at f0
  obtain⟨x0,e0,r0⟩:=iJ f0
  obtain⟨y1,g1⟩ : ∃ y,xs[1]? = some y:=⟨_,List.getElem?_eq_getElem (show 1<xs.length by omega)⟩
  have f1:DataW.trod enc Tryz.prog w base spare held m 5 ((cs.drop 1).take (Tryz.prog.cellsOf 5))=xs[1]?:=hf 1 _ rfl
  rw[g1] at f1
  rw[show Tryz.prog.cellsOf 5=1 from by kernel_rfl] at f1
  obtain⟨x1,e1,r1⟩:=iJ f1
  obtain⟨y2,g2⟩ : ∃ y,xs[2]? = some y:=⟨_,List.getElem?_eq_getElem (show 2<xs.length by omega)⟩
  have f2:DataW.trod enc Tryz.prog w base spare held m 24 ((cs.drop 2).take (Tryz.prog.cellsOf 24))=xs[2]?:=hf 2 _ rfl
  rw[g2] at f2
  rw[show Tryz.prog.cellsOf 24=1 from by kernel_rfl] at f2
  obtain⟨x2,e2,r2⟩:=eH f2
  obtain⟨y3,g3⟩ : ∃ y,xs[3]? = some y:=⟨_,List.getElem?_eq_getElem (show 3<xs.length by omega)⟩
  have f3:DataW.trod enc Tryz.prog w base spare held m 24 ((cs.drop 3).take (Tryz.prog.cellsOf 24))=xs[3]?:=hf 3 _ rfl
  rw[g3] at f3
  rw[show Tryz.prog.cellsOf 24=1 from by kernel_rfl] at f3
  obtain⟨x3,e3,r3⟩:=eH f3
  obtain⟨y4,g4⟩ : ∃ y,xs[4]? = some y:=⟨_,List.getElem?_eq_getElem (show 4<xs.length by omega)⟩
  have f4:DataW.trod enc Tryz.prog w base spare held m 24 ((cs.drop 4).take (Tryz.prog.cellsOf 24))=xs[4]?:=hf 4 _ rfl
  rw[g4] at f4
  rw[show Tryz.prog.cellsOf 24=1 from by kernel_rfl] at f4
  obtain⟨x4,e4,r4⟩:=eH f4
  obtain⟨y5,g5⟩ : ∃ y,xs[5]? = some y:=⟨_,List.getElem?_eq_getElem (show 5<xs.length by omega)⟩
  have f5:DataW.trod enc Tryz.prog w base spare held m 24 ((cs.drop 5).take (Tryz.prog.cellsOf 24))=xs[5]?:=hf 5 _ rfl
  rw[g5] at f5
  rw[show Tryz.prog.cellsOf 24=1 from by kernel_rfl] at f5
  obtain⟨x5,e5,r5⟩:=eH f5
  obtain⟨y6,g6⟩ : ∃ y,xs[6]? = some y:=⟨_,List.getElem?_eq_getElem (show 6<xs.length by omega)⟩
  have f6:DataW.trod enc Tryz.prog w base spare held m 24 ((cs.drop 6).take (Tryz.prog.cellsOf 24))=xs[6]?:=hf 6 _ rfl
  rw[g6] at f6
  rw[show Tryz.prog.cellsOf 24=1 from by kernel_rfl] at f6
  obtain⟨x6,e6,r6⟩:=eH f6
  obtain⟨y7,g7⟩ : ∃ y,xs[7]? = some y:=⟨_,List.getElem?_eq_getElem (show 7<xs.length by omega)⟩
  have f7:DataW.trod enc Tryz.prog w base spare held m 24 ((cs.drop 7).take (Tryz.prog.cellsOf 24))=xs[7]?:=hf 7 _ rfl
  rw[g7] at f7
  rw[show Tryz.prog.cellsOf 24=1 from by kernel_rfl] at f7
  obtain⟨x7,e7,r7⟩:=eH f7
  obtain⟨y8,g8⟩ : ∃ y,xs[8]? = some y:=⟨_,List.getElem?_eq_getElem (show 8<xs.length by omega)⟩
  have f8:DataW.trod enc Tryz.prog w base spare held m 24 ((cs.drop 8).take (Tryz.prog.cellsOf 24))=xs[8]?:=hf 8 _ rfl
  rw[g8] at f8
  rw[show Tryz.prog.cellsOf 24=1 from by kernel_rfl] at f8
  obtain⟨x8,e8,r8⟩:=eH f8
  obtain⟨y9,g9⟩ : ∃ y,xs[9]? = some y:=⟨_,List.getElem?_eq_getElem (show 9<xs.length by omega)⟩
  have f9:DataW.trod enc Tryz.prog w base spare held m 24 ((cs.drop 9).take (Tryz.prog.cellsOf 24))=xs[9]?:=hf 9 _ rfl
  rw[g9] at f9
  rw[show Tryz.prog.cellsOf 24=1 from by kernel_rfl] at f9
  obtain⟨x9,e9,r9⟩:=eH f9
  obtain⟨ac,u⟩ : ∃ y,xs[10]? = some y:=⟨_,List.getElem?_eq_getElem (show 10<xs.length by omega)⟩
  have a:DataW.trod enc Tryz.prog w base spare held m 24 ((cs.drop 10).take (Tryz.prog.cellsOf 24))=xs[10]?:=hf 10 _ rfl
  rw[u] at a
  rw[show Tryz.prog.cellsOf 24=1 from by kernel_rfl] at a
  obtain⟨x10,v,x⟩:=eH a
  obtain⟨ad,z⟩ : ∃ y,xs[11]? = some y:=⟨_,List.getElem?_eq_getElem (show 11<xs.length by omega)⟩
  have b:DataW.trod enc Tryz.prog w base spare held m 24 ((cs.drop 11).take (Tryz.prog.cellsOf 24))=xs[11]?:=hf 11 _ rfl
  rw[z] at b
  rw[show Tryz.prog.cellsOf 24=1 from by kernel_rfl] at b
  obtain⟨x11,A,B⟩:=eH b
  obtain⟨ae,C⟩ : ∃ y,xs[12]? = some y:=⟨_,List.getElem?_eq_getElem (show 12<xs.length by omega)⟩
  have c:DataW.trod enc Tryz.prog w base spare held m 25 ((cs.drop 12).take (Tryz.prog.cellsOf 25))=xs[12]?:=hf 12 _ rfl
  rw[C] at c
  rw[show Tryz.prog.cellsOf 25=1 from by kernel_rfl] at c
  obtain⟨p,D,E,F⟩:=s8 c
  obtain⟨af,G⟩ : ∃ y,xs[13]? = some y:=⟨_,List.getElem?_eq_getElem (show 13<xs.length by omega)⟩
  have d:DataW.trod enc Tryz.prog w base spare held m 26 ((cs.drop 13).take (Tryz.prog.cellsOf 26))=xs[13]?:=hf 13 _ rfl
  rw[G] at d
  rw[show Tryz.prog.cellsOf 26=1 from by kernel_rfl] at d
  obtain⟨q,H,I,J⟩:=u0 d
  obtain⟨ag,K⟩ : ∃ y,xs[14]? = some y:=⟨_,List.getElem?_eq_getElem (show 14<xs.length by omega)⟩
  have e:DataW.trod enc Tryz.prog w base spare held m 22 ((cs.drop 14).take (Tryz.prog.cellsOf 22))=xs[14]?:=hf 14 _ rfl
  rw[K] at e
  rw[show Tryz.prog.cellsOf 22=1 from by kernel_rfl] at e
  obtain⟨r,L,N,O⟩:=uE e
  obtain⟨ah,P⟩ : ∃ y,xs[15]? = some y:=⟨_,List.getElem?_eq_getElem (show 15<xs.length by omega)⟩
  have f:DataW.trod enc Tryz.prog w base spare held m 27 ((cs.drop 15).take (Tryz.prog.cellsOf 27))=xs[15]?:=hf 15 _ rfl
  rw[P] at f
  rw[show Tryz.prog.cellsOf 27=1 from by kernel_rfl] at f
  obtain⟨s,Q,R,S⟩:=vC f
  obtain⟨ai,T⟩ : ∃ y,xs[16]? = some y:=⟨_,List.getElem?_eq_getElem (show 16<xs.length by omega)⟩
  have g:DataW.trod enc Tryz.prog w base spare held m 5 ((cs.drop 16).take (Tryz.prog.cellsOf 5))=xs[16]?:=hf 16 _ rfl
  rw[T] at g
  rw[show Tryz.prog.cellsOf 5=1 from by kernel_rfl] at g
  obtain⟨x16,U,V⟩:=iJ g
  obtain⟨aj,W⟩ : ∃ y,xs[17]? = some y:=⟨_,List.getElem?_eq_getElem (show 17<xs.length by omega)⟩
  have i:DataW.trod enc Tryz.prog w base spare held m 5 ((cs.drop 17).take (Tryz.prog.cellsOf 5))=xs[17]?:=hf 17 _ rfl
  rw[W] at i
  rw[show Tryz.prog.cellsOf 5=1 from by kernel_rfl] at i
  obtain⟨x17,X,Y⟩:=iJ i
  obtain⟨ak,Z⟩ : ∃ y,xs[18]? = some y:=⟨_,List.getElem?_eq_getElem (show 18<xs.length by omega)⟩
  have j:DataW.trod enc Tryz.prog w base spare held m 5 ((cs.drop 18).take (Tryz.prog.cellsOf 5))=xs[18]?:=hf 18 _ rfl
  rw[Z] at j
  rw[show Tryz.prog.cellsOf 5=1 from by kernel_rfl] at j
  obtain⟨x18,a0,a1⟩:=iJ j
  obtain⟨al,a2⟩ : ∃ y,xs[19]? = some y:=⟨_,List.getElem?_eq_getElem (show 19<xs.length by omega)⟩
  have k:DataW.trod enc Tryz.prog w base spare held m 5 ((cs.drop 19).take (Tryz.prog.cellsOf 5))=xs[19]?:=hf 19 _ rfl
  rw[a2] at k
  rw[show Tryz.prog.cellsOf 5=1 from by kernel_rfl] at k
  obtain⟨x19,a3,a4⟩:=iJ k
  obtain⟨am,a5⟩ : ∃ y,xs[20]? = some y:=⟨_,List.getElem?_eq_getElem (show 20<xs.length by omega)⟩
  have l:DataW.trod enc Tryz.prog w base spare held m 5 ((cs.drop 20).take (Tryz.prog.cellsOf 5))=xs[20]?:=hf 20 _ rfl
  rw[a5] at l
  rw[show Tryz.prog.cellsOf 5=1 from by kernel_rfl] at l
  obtain⟨x20,a6,a7⟩:=iJ l
  obtain⟨an,a8⟩ : ∃ y,xs[21]? = some y:=⟨_,List.getElem?_eq_getElem (show 21<xs.length by omega)⟩
  have o:DataW.trod enc Tryz.prog w base spare held m 28 ((cs.drop 21).take (Tryz.prog.cellsOf 28))=xs[21]?:=hf 21 _ rfl
  rw[a8] at o
  rw[show Tryz.prog.cellsOf 28=1 from by kernel_rfl] at o
  obtain⟨t,a9,aa,ab⟩:=vg o
  have hcs:cs=[.int .u8 x0,.int .u8 x1,.int .u16 x2,.int .u16 x3,.int .u16 x4,.int .u16 x5,.int .u16 x6,.int .u16 x7,.int .u16 x8,.int .u16 x9,.int .u16 x10,.int .u16 x11,p,q,r,s,.int .u8 x16,.int .u8 x17,.int .u8 x18,.int .u8 x19,.int .u8 x20,t]:=by
    show cs.drop 0=_
    rw[eI e0,eI e1,eI e2,eI e3,eI e4,eI e5,eI e6,eI e7,eI e8,eI e9,eI v,eI A,eI E,eI I,eI N,eI R,eI U,eI X,eI a0,eI a3,eI a6,eI aa,kW hlen]
  subst hcs
  exact⟨⟨x0,x1,x2,x3,x4,x5,x6,x7,x8,x9,x10,x11,D,H,L,Q,x16,x17,x18,x19,x20,a9⟩,p,q,r,s,t,rfl,F,J,O,S,ab,⟨r0,r1,r2,r3,r4,r5,r6,r7,r8,r9,x,B,V,Y,a1,a4,a7⟩⟩
open Go.WideShapes in
theorem tX{v:Value}{d:DataW H}{p:List MemPlace}(hv:∃ b0,Value.okWide Tryz.prog w .any b0 30 v)(h:DataW.Trod enc Tryz.prog w base spare held 30 v d p) : ∃ cs M,v = .agg cs∧aO false w cs.toList M:=by
  obtain⟨b0,hv⟩:=hv
  obtain⟨cs,rfl,hsz⟩:=okWide_struct Tryz.underlying30 hv
  obtain⟨fuel,hf⟩:=h
  obtain⟨M,hM⟩:=sD hf
  exact⟨cs,M,rfl,hM⟩
end
end Go.Proofs.YtogbnemojakcpaaGreat
