/- Contracts of functions, part CStreamCuts5. -/
import Derived.Test.YtpglhicfhppaiaaGreatCStreamCuts1
import Derived.Test.YtpglhicfhppaiaaGreatCStreamCuts2
import Derived.Test.YtpglhicfhppaiaaGreatCStreamCuts3
import Derived.Test.YtpglhicfhppaiaaGreatCStreamCuts4
import Derived.Deep.Slices
import Derived.ChangeArms
import Derived.WideShapes
import Derived.SizedLaws
set_option linter.unusedVariables false
set_option linter.unusedSimpArgs false
set_option maxRecDepth 100000
set_option maxHeartbeats 4000000
namespace Go.Proofs.YtpglhicfhppaiaaGreat
open Go.RowKit
theorem mM{α:Type}{xs ys:List α}{d:α}{k:Nat}(h:xs.take k=ys.take k)(hk:k<xs.length)(hl:xs.length=ys.length)(he:xs.getD k d=ys.getD k d) : xs.take (k+1)=ys.take (k+1):=by
  have hk2:k<ys.length:=by omega
  rw[List.take_succ_eq_append_getElem hk,List.take_succ_eq_append_getElem hk2,h]
  rw[List.getD_eq_getElem?_getD,List.getElem?_eq_getElem hk,List.getD_eq_getElem?_getD,List.getElem?_eq_getElem (by omega)] at he
  simp only[Option.getD_some] at he
  rw[he]
theorem sL{a b:dJ}(h:((((!(decide (a.words=b.words)))||(a.file != b.file))||(a.record != b.record))||(a.count != b.count))=false) : a=b:=by
  cases a
  cases b
  simp at h
  simp[h]
theorem sS{a b:Obj}(h:((!(decide (a.value=b.value)))||(a.id != b.id))=false) : a=b:=by
  cases a
  cases b
  simp at h
  simp[h]
theorem rk{a b:Obj}(h:(!(decide (a.value=b.value)))=false)(h2:(a.id != b.id)=false) : a=b:=sS (by rw[h,h2];rfl)
theorem iU{A B:bf}{f:bf→bf→Bool}(h:f A B=true)(hf:∀ M,f M M=false) : decide (A=B)=false:=decide_eq_false fun e=>by rw[e,hf] at h;cases h
theorem rI{A B:bf}(h1:((((((((((((A.code != B.code)||(A.fail != B.fail))||(A.addr != B.addr))||(A.count != B.count))||(A.value != B.value))||(A.and_ != B.and_))||(A.or_ != B.or_))||(A.addr2 != B.addr2))||(A.sub != B.sub))||(A.status != B.status))||(A.events != B.events))||(A.messages != B.messages))=false)(h2:(((((A.mei != B.mei)||(A.kind != B.kind))||(A.level != B.level))||(A.more != B.more))||(A.next != B.next))=false)(h3:(((((!(decide (A.words=B.words)))||(!(decide (A.bits=B.bits))))||(!(decide (A.data=B.data))))||(((A.recs.length:Nat) : Int)!=((B.recs.length:Nat) : Int)))||(((A.objects.length:Nat) : Int)!=((B.objects.length:Nat) : Int)))=false)(hr:A.recs.length=B.recs.length→A.recs=B.recs)(ho:A.objects.length=B.objects.length→A.objects=B.objects) : A=B:=by
  cases A
  cases B
  simp only[Bool.or_eq_false_iff,bne_eq_false_iff_eq,Bool.not_eq_false',decide_eq_true_eq] at h1 h2 h3
  simp only at hr ho
  obtain⟨⟨⟨⟨⟨⟨⟨⟨⟨⟨⟨a1,a2⟩,a3⟩,a4⟩,a5⟩,a6⟩,a7⟩,a8⟩,a9⟩,a⟩,b⟩,c⟩:=h1
  obtain⟨⟨⟨⟨b1,b2⟩,b3⟩,b4⟩,b5⟩:=h2
  obtain⟨⟨⟨⟨d1,d2⟩,d3⟩,d4⟩,d5⟩:=h3
  have d4:=hr (by omega)
  have d5:=ho (by omega)
  subst a1 a2 a3 a4 a5 a6 a7 a8 a9 a b c b1 b2 b3 b4 b5 d1 d2 d3 d4 d5
  rfl
theorem mY{m m':Bool}{pc qc:Array Value}{A B:bf}{w:World}(ha:aU m w pc.toList A)(hb:aU m' w qc.toList B) :
    Calls Tryz.prog 22 #[.agg pc,.agg qc] w (bg (.bool (decide (A=B))) w):=by
 have pM:=ha
 obtain⟨pvw,pvb,pvd,pvr,pvo,ph0,phw,phb,phd,phr,pho,pR⟩:=ha
 obtain rfl:pc=(dA A pvw pvb pvd pvr pvo).toArray:=by apply Array.toList_inj.1;simpa using ph0
 clear ph0
 obtain⟨pw,pkw,rfl,_,_⟩:=phw.shape
 obtain⟨pb,pkb,rfl,_,_⟩:=phb.shape
 obtain⟨pd,pkd,rfl,_,_⟩:=phd.shape
 obtain⟨pr,pkr,rfl,_,_⟩:=phr.shape
 obtain⟨po,pko,rfl,_,_⟩:=pho.shape
 have qM:=hb
 obtain⟨qvw,qvb,qvd,qvr,qvo,qh0,qhw,qhb,qhd,qhr,qho,qR⟩:=hb
 obtain rfl:qc=(dA B qvw qvb qvd qvr qvo).toArray:=by apply Array.toList_inj.1;simpa using qh0
 clear qh0
 obtain⟨qw,qkw,rfl,_,_⟩:=qhw.shape
 obtain⟨qb,qkb,rfl,_,_⟩:=qhb.shape
 obtain⟨qd,qkd,rfl,_,_⟩:=qhd.shape
 obtain⟨qr,qkr,rfl,_,_⟩:=qhr.shape
 obtain⟨qo,qko,rfl,_,_⟩:=qho.shape
 have hz1:=aG.len phr
 have hz2:=aG.len pho
 refine en 254 Tryz.func22 rfl<|sg<|L0<|cP (mG A.code A.fail A.addr A.count A.value A.and_ A.or_ A.addr2 A.sub A.status A.events A.messages (.slice pw A.words.length pkw) (.slice pb A.bits.length pkb) (.slice pd A.data.length pkd) (.slice pr A.recs.length pkr) A.mei A.kind A.level A.more A.next (.slice po A.objects.length pko)) fun i dL dM cf cg=>L0<|cP (mG B.code B.fail B.addr B.count B.value B.and_ B.or_ B.addr2 B.sub B.status B.events B.messages (.slice qw B.words.length qkw) (.slice qb B.bits.length qkb) (.slice qd B.data.length qkd) (.slice qr B.recs.length qkr) B.mei B.kind B.level B.more B.next (.slice qo B.objects.length qko)) fun l dN dO b aA=>Pl 1<|nt<|sq<|sg<|Pl 1<|?_
 have c:=ub aA cf
 refine L0<|aR c 0<|Pl 1<|L0<|aR b 0<|Pl 2<|cu 6 [19] 25 (((A.code != B.code)||(A.fail != B.fail))) (fun K aB=>?_) ?_
 refine bl 19 ((A.code != B.code)) (fun q=>?_) (fun q=>?_)
 have ch:=ax q
 exact Pl 6<|ce aB true (by rw[q];rfl)
 have ch:=ag q
 exact Pl 1<|L1<|aR c 1<|Pl 1<|L1<|aR b 1<|Pl 2<|ce aB (A.fail != B.fail) (by rw[q];rfl)
 refine Pl 1<|cu 6 [26] 32 ((((A.code != B.code)||(A.fail != B.fail))||(A.addr != B.addr))) (fun K aD=>?_) ?_
 refine bl 26 (((A.code != B.code)||(A.fail != B.fail))) (fun r=>?_) (fun r=>?_)
 exact Pl 6<|ce aD true (by rw[r];rfl)
 have ci:=(aC r).1
 have cj:=(aC r).2
 have dP:=ag ci
 have dQ:=ag cj
 exact Pl 1<|L1<|aR c 2<|Pl 1<|L1<|aR b 2<|Pl 2<|ce aD (A.addr != B.addr) (by rw[r];rfl)
 refine Pl 1<|cu 6 [33] 39 (((((A.code != B.code)||(A.fail != B.fail))||(A.addr != B.addr))||(A.count != B.count))) (fun K aF=>?_) ?_
 refine bl 33 ((((A.code != B.code)||(A.fail != B.fail))||(A.addr != B.addr))) (fun s=>?_) (fun s=>?_)
 exact Pl 6<|ce aF true (by rw[s];rfl)
 have aH:=(aC s).1
 have ck:=(aC s).2
 have cl:=(aC aH).1
 have cm:=(aC aH).2
 have q25aap:=ag cl
 have q25abp:=ag cm
 have dR:=ag ck
 exact Pl 1<|L1<|aR c 3<|Pl 1<|L1<|aR b 3<|Pl 2<|ce aF (A.count != B.count) (by rw[s];rfl)
 refine Pl 1<|cu 6 [40] 46 ((((((A.code != B.code)||(A.fail != B.fail))||(A.addr != B.addr))||(A.count != B.count))||(A.value != B.value))) (fun K aI=>?_) ?_
 refine bl 40 (((((A.code != B.code)||(A.fail != B.fail))||(A.addr != B.addr))||(A.count != B.count))) (fun t=>?_) (fun t=>?_)
 exact Pl 6<|ce aI true (by rw[t];rfl)
 have aJ:=(aC t).1
 have cn:=(aC t).2
 have aK:=(aC aJ).1
 have co:=(aC aJ).2
 have q27aaa:=(aC aK).1
 have q27aab:=(aC aK).2
 have q27aaap:=ag q27aaa
 have q27aabp:=ag q27aab
 have q27abp:=ag co
 have dS:=ag cn
 exact Pl 1<|L1<|aR c 4<|Pl 1<|L1<|aR b 4<|Pl 2<|ce aI (A.value != B.value) (by rw[t];rfl)
 refine Pl 1<|cu 6 [47] 53 (((((((A.code != B.code)||(A.fail != B.fail))||(A.addr != B.addr))||(A.count != B.count))||(A.value != B.value))||(A.and_ != B.and_))) (fun K aM=>?_) ?_
 refine bl 47 ((((((A.code != B.code)||(A.fail != B.fail))||(A.addr != B.addr))||(A.count != B.count))||(A.value != B.value))) (fun u=>?_) (fun u=>?_)
 exact Pl 6<|ce aM true (by rw[u];rfl)
 have aN:=(aC u).1
 have cp:=(aC u).2
 have aO:=(aC aN).1
 have cq:=(aC aN).2
 have q29aaa:=(aC aO).1
 have q29aab:=(aC aO).2
 have q29aaaa:=(aC q29aaa).1
 have q29aaab:=(aC q29aaa).2
 have q29aaaap:=ag q29aaaa
 have q29aaabp:=ag q29aaab
 have q29aabp:=ag q29aab
 have q29abp:=ag cq
 have dT:=ag cp
 exact Pl 1<|L1<|aR c 5<|Pl 1<|L1<|aR b 5<|Pl 2<|ce aM (A.and_ != B.and_) (by rw[u];rfl)
 refine Pl 1<|cu 6 [54] 60 ((((((((A.code != B.code)||(A.fail != B.fail))||(A.addr != B.addr))||(A.count != B.count))||(A.value != B.value))||(A.and_ != B.and_))||(A.or_ != B.or_))) (fun K aP=>?_) ?_
 refine bl 54 (((((((A.code != B.code)||(A.fail != B.fail))||(A.addr != B.addr))||(A.count != B.count))||(A.value != B.value))||(A.and_ != B.and_))) (fun v=>?_) (fun v=>?_)
 exact Pl 6<|ce aP true (by rw[v];rfl)
 have aQ:=(aC v).1
 have cr:=(aC v).2
 have aS:=(aC aQ).1
 have cs:=(aC aQ).2
 have q31aaa:=(aC aS).1
 have q31aab:=(aC aS).2
 have q31aaaa:=(aC q31aaa).1
 have q31aaab:=(aC q31aaa).2
 have q31aaaaa:=(aC q31aaaa).1
 have q31aaaab:=(aC q31aaaa).2
 have q31aaaaap:=ag q31aaaaa
 have q31aaaabp:=ag q31aaaab
 have q31aaabp:=ag q31aaab
 have q31aabp:=ag q31aab
 have q31abp:=ag cs
 have dU:=ag cr
 exact Pl 1<|L1<|aR c 6<|Pl 1<|L1<|aR b 6<|Pl 2<|ce aP (A.or_ != B.or_) (by rw[v];rfl)
 refine Pl 1<|cu 6 [61] 67 (((((((((A.code != B.code)||(A.fail != B.fail))||(A.addr != B.addr))||(A.count != B.count))||(A.value != B.value))||(A.and_ != B.and_))||(A.or_ != B.or_))||(A.addr2 != B.addr2))) (fun K aT=>?_) ?_
 refine bl 61 ((((((((A.code != B.code)||(A.fail != B.fail))||(A.addr != B.addr))||(A.count != B.count))||(A.value != B.value))||(A.and_ != B.and_))||(A.or_ != B.or_))) (fun z=>?_) (fun z=>?_)
 exact Pl 6<|ce aT true (by rw[z];rfl)
 have aV:=(aC z).1
 have ct:=(aC z).2
 have aW:=(aC aV).1
 have cv:=(aC aV).2
 have q33aaa:=(aC aW).1
 have q33aab:=(aC aW).2
 have q33aaaa:=(aC q33aaa).1
 have q33aaab:=(aC q33aaa).2
 have q33aaaaa:=(aC q33aaaa).1
 have q33aaaab:=(aC q33aaaa).2
 have q33aaaaaa:=(aC q33aaaaa).1
 have q33aaaaab:=(aC q33aaaaa).2
 have q33aaaaaap:=ag q33aaaaaa
 have q33aaaaabp:=ag q33aaaaab
 have q33aaaabp:=ag q33aaaab
 have q33aaabp:=ag q33aaab
 have q33aabp:=ag q33aab
 have q33abp:=ag cv
 have dV:=ag ct
 exact Pl 1<|L1<|aR c 7<|Pl 1<|L1<|aR b 7<|Pl 2<|ce aT (A.addr2 != B.addr2) (by rw[z];rfl)
 refine Pl 1<|cu 6 [68] 74 ((((((((((A.code != B.code)||(A.fail != B.fail))||(A.addr != B.addr))||(A.count != B.count))||(A.value != B.value))||(A.and_ != B.and_))||(A.or_ != B.or_))||(A.addr2 != B.addr2))||(A.sub != B.sub))) (fun K aX=>?_) ?_
 refine bl 68 (((((((((A.code != B.code)||(A.fail != B.fail))||(A.addr != B.addr))||(A.count != B.count))||(A.value != B.value))||(A.and_ != B.and_))||(A.or_ != B.or_))||(A.addr2 != B.addr2))) (fun C=>?_) (fun C=>?_)
 exact Pl 6<|ce aX true (by rw[C];rfl)
 have aY:=(aC C).1
 have cw:=(aC C).2
 have aZ:=(aC aY).1
 have cx:=(aC aY).2
 have q35aaa:=(aC aZ).1
 have q35aab:=(aC aZ).2
 have q35aaaa:=(aC q35aaa).1
 have q35aaab:=(aC q35aaa).2
 have q35aaaaa:=(aC q35aaaa).1
 have q35aaaab:=(aC q35aaaa).2
 have q35aaaaaa:=(aC q35aaaaa).1
 have q35aaaaab:=(aC q35aaaaa).2
 have q35aaaaaaa:=(aC q35aaaaaa).1
 have q35aaaaaab:=(aC q35aaaaaa).2
 have q35aaaaaaap:=ag q35aaaaaaa
 have q35aaaaaabp:=ag q35aaaaaab
 have q35aaaaabp:=ag q35aaaaab
 have q35aaaabp:=ag q35aaaab
 have q35aaabp:=ag q35aaab
 have q35aabp:=ag q35aab
 have q35abp:=ag cx
 have dX:=ag cw
 exact Pl 1<|L1<|aR c 8<|Pl 1<|L1<|aR b 8<|Pl 2<|ce aX (A.sub != B.sub) (by rw[C];rfl)
 refine Pl 1<|cu 6 [75] 81 (((((((((((A.code != B.code)||(A.fail != B.fail))||(A.addr != B.addr))||(A.count != B.count))||(A.value != B.value))||(A.and_ != B.and_))||(A.or_ != B.or_))||(A.addr2 != B.addr2))||(A.sub != B.sub))||(A.status != B.status))) (fun K b0=>?_) ?_
 refine bl 75 ((((((((((A.code != B.code)||(A.fail != B.fail))||(A.addr != B.addr))||(A.count != B.count))||(A.value != B.value))||(A.and_ != B.and_))||(A.or_ != B.or_))||(A.addr2 != B.addr2))||(A.sub != B.sub))) (fun D=>?_) (fun D=>?_)
 exact Pl 6<|ce b0 true (by rw[D];rfl)
 have b1:=(aC D).1
 have cz:=(aC D).2
 have b2:=(aC b1).1
 have cA:=(aC b1).2
 have q37aaa:=(aC b2).1
 have q37aab:=(aC b2).2
 have q37aaaa:=(aC q37aaa).1
 have q37aaab:=(aC q37aaa).2
 have q37aaaaa:=(aC q37aaaa).1
 have q37aaaab:=(aC q37aaaa).2
 have q37aaaaaa:=(aC q37aaaaa).1
 have q37aaaaab:=(aC q37aaaaa).2
 have q37aaaaaaa:=(aC q37aaaaaa).1
 have q37aaaaaab:=(aC q37aaaaaa).2
 have q37aaaaaaaa:=(aC q37aaaaaaa).1
 have q37aaaaaaab:=(aC q37aaaaaaa).2
 have q37aaaaaaaap:=ag q37aaaaaaaa
 have q37aaaaaaabp:=ag q37aaaaaaab
 have q37aaaaaabp:=ag q37aaaaaab
 have q37aaaaabp:=ag q37aaaaab
 have q37aaaabp:=ag q37aaaab
 have q37aaabp:=ag q37aaab
 have q37aabp:=ag q37aab
 have q37abp:=ag cA
 have dZ:=ag cz
 exact Pl 1<|L1<|aR c 9<|Pl 1<|L1<|aR b 9<|Pl 2<|ce b0 (A.status != B.status) (by rw[D];rfl)
 refine Pl 1<|cu 6 [82] 88 ((((((((((((A.code != B.code)||(A.fail != B.fail))||(A.addr != B.addr))||(A.count != B.count))||(A.value != B.value))||(A.and_ != B.and_))||(A.or_ != B.or_))||(A.addr2 != B.addr2))||(A.sub != B.sub))||(A.status != B.status))||(A.events != B.events))) (fun K b3=>?_) ?_
 refine bl 82 (((((((((((A.code != B.code)||(A.fail != B.fail))||(A.addr != B.addr))||(A.count != B.count))||(A.value != B.value))||(A.and_ != B.and_))||(A.or_ != B.or_))||(A.addr2 != B.addr2))||(A.sub != B.sub))||(A.status != B.status))) (fun E=>?_) (fun E=>?_)
 exact Pl 6<|ce b3 true (by rw[E];rfl)
 have b4:=(aC E).1
 have cB:=(aC E).2
 have b5:=(aC b4).1
 have cC:=(aC b4).2
 have q39aaa:=(aC b5).1
 have q39aab:=(aC b5).2
 have q39aaaa:=(aC q39aaa).1
 have q39aaab:=(aC q39aaa).2
 have q39aaaaa:=(aC q39aaaa).1
 have q39aaaab:=(aC q39aaaa).2
 have q39aaaaaa:=(aC q39aaaaa).1
 have q39aaaaab:=(aC q39aaaaa).2
 have q39aaaaaaa:=(aC q39aaaaaa).1
 have q39aaaaaab:=(aC q39aaaaaa).2
 have q39aaaaaaaa:=(aC q39aaaaaaa).1
 have q39aaaaaaab:=(aC q39aaaaaaa).2
 have q39aaaaaaaaa:=(aC q39aaaaaaaa).1
 have q39aaaaaaaab:=(aC q39aaaaaaaa).2
 have q39aaaaaaaaap:=ag q39aaaaaaaaa
 have q39aaaaaaaabp:=ag q39aaaaaaaab
 have q39aaaaaaabp:=ag q39aaaaaaab
 have q39aaaaaabp:=ag q39aaaaaab
 have q39aaaaabp:=ag q39aaaaab
 have q39aaaabp:=ag q39aaaab
 have q39aaabp:=ag q39aaab
 have q39aabp:=ag q39aab
 have q39abp:=ag cC
 have e0:=ag cB
 exact Pl 1<|L1<|aR c 10<|Pl 1<|L1<|aR b 10<|Pl 2<|ce b3 (A.events != B.events) (by rw[E];rfl)
 refine Pl 1<|cu 6 [89] 95 (((((((((((((A.code != B.code)||(A.fail != B.fail))||(A.addr != B.addr))||(A.count != B.count))||(A.value != B.value))||(A.and_ != B.and_))||(A.or_ != B.or_))||(A.addr2 != B.addr2))||(A.sub != B.sub))||(A.status != B.status))||(A.events != B.events))||(A.messages != B.messages))) (fun K b7=>?_) ?_
 refine bl 89 ((((((((((((A.code != B.code)||(A.fail != B.fail))||(A.addr != B.addr))||(A.count != B.count))||(A.value != B.value))||(A.and_ != B.and_))||(A.or_ != B.or_))||(A.addr2 != B.addr2))||(A.sub != B.sub))||(A.status != B.status))||(A.events != B.events))) (fun F=>?_) (fun F=>?_)
 exact Pl 6<|ce b7 true (by rw[F];rfl)
 have b8:=(aC F).1
 have cD:=(aC F).2
 have ba:=(aC b8).1
 have cE:=(aC b8).2
 have q41aaa:=(aC ba).1
 have q41aab:=(aC ba).2
 have q41aaaa:=(aC q41aaa).1
 have q41aaab:=(aC q41aaa).2
 have q41aaaaa:=(aC q41aaaa).1
 have q41aaaab:=(aC q41aaaa).2
 have q41aaaaaa:=(aC q41aaaaa).1
 have q41aaaaab:=(aC q41aaaaa).2
 have q41aaaaaaa:=(aC q41aaaaaa).1
 have q41aaaaaab:=(aC q41aaaaaa).2
 have q41aaaaaaaa:=(aC q41aaaaaaa).1
 have q41aaaaaaab:=(aC q41aaaaaaa).2
 have q41aaaaaaaaa:=(aC q41aaaaaaaa).1
 have q41aaaaaaaab:=(aC q41aaaaaaaa).2
 have q41aaaaaaaaaa:=(aC q41aaaaaaaaa).1
 have q41aaaaaaaaab:=(aC q41aaaaaaaaa).2
 have q41aaaaaaaaaap:=ag q41aaaaaaaaaa
 have q41aaaaaaaaabp:=ag q41aaaaaaaaab
 have q41aaaaaaaabp:=ag q41aaaaaaaab
 have q41aaaaaaabp:=ag q41aaaaaaab
 have q41aaaaaabp:=ag q41aaaaaab
 have q41aaaaabp:=ag q41aaaaab
 have q41aaaabp:=ag q41aaaab
 have q41aaabp:=ag q41aaab
 have q41aabp:=ag q41aab
 have q41abp:=ag cE
 have e1:=ag cD
 exact Pl 1<|L1<|aR c 11<|Pl 1<|L1<|aR b 11<|Pl 2<|ce b7 (A.messages != B.messages) (by rw[F];rfl)
 refine nt<|?_
 have G:=aE cg aA
 refine cb (((((((((((((A.code != B.code)||(A.fail != B.fail))||(A.addr != B.addr))||(A.count != B.count))||(A.value != B.value))||(A.and_ != B.and_))||(A.or_ != B.or_))||(A.addr2 != B.addr2))||(A.sub != B.sub))||(A.status != B.status))||(A.events != B.events))||(A.messages != B.messages))) (fun H=>?_) (fun H=>?_)
 refine sg<|Pl 1<|nt<|rt<|tr<|rr (.bool false)<|?_
 have hs:decide (A=B)=false:=iU (f:=fun x y=>((((((((((((x.code != y.code)||(x.fail != y.fail))||(x.addr != y.addr))||(x.count != y.count))||(x.value != y.value))||(x.and_ != y.and_))||(x.or_ != y.or_))||(x.addr2 != y.addr2))||(x.sub != y.sub))||(x.status != y.status))||(x.events != y.events))||(x.messages != y.messages))) H (fun M=>by simp)
 rw[hs]
 exact⟨rfl,G⟩
 have bb:=(aC H).1
 have cF:=(aC H).2
 have bc:=(aC bb).1
 have cG:=(aC bb).2
 have q44aaa:=(aC bc).1
 have q44aab:=(aC bc).2
 have q44aaaa:=(aC q44aaa).1
 have q44aaab:=(aC q44aaa).2
 have q44aaaaa:=(aC q44aaaa).1
 have q44aaaab:=(aC q44aaaa).2
 have q44aaaaaa:=(aC q44aaaaa).1
 have q44aaaaab:=(aC q44aaaaa).2
 have q44aaaaaaa:=(aC q44aaaaaa).1
 have q44aaaaaab:=(aC q44aaaaaa).2
 have q44aaaaaaaa:=(aC q44aaaaaaa).1
 have q44aaaaaaab:=(aC q44aaaaaaa).2
 have q44aaaaaaaaa:=(aC q44aaaaaaaa).1
 have q44aaaaaaaab:=(aC q44aaaaaaaa).2
 have q44aaaaaaaaaa:=(aC q44aaaaaaaaa).1
 have q44aaaaaaaaab:=(aC q44aaaaaaaaa).2
 have q44aaaaaaaaaaa:=(aC q44aaaaaaaaaa).1
 have q44aaaaaaaaaab:=(aC q44aaaaaaaaaa).2
 have q44aaaaaaaaaaap:=ag q44aaaaaaaaaaa
 have q44aaaaaaaaaabp:=ag q44aaaaaaaaaab
 have q44aaaaaaaaabp:=ag q44aaaaaaaaab
 have q44aaaaaaaabp:=ag q44aaaaaaaab
 have q44aaaaaaabp:=ag q44aaaaaaab
 have q44aaaaaabp:=ag q44aaaaaab
 have q44aaaaabp:=ag q44aaaaab
 have q44aaaabp:=ag q44aaaab
 have q44aaabp:=ag q44aaab
 have q44aabp:=ag q44aab
 have q44abp:=ag cG
 have e2:=ag cF
 refine bD<|sq<|sg<|Pl 1<|L0<|aR c 16<|Pl 1<|L0<|aR b 16<|Pl 2<|cu 6 [101] 107 (((A.mei != B.mei)||(A.kind != B.kind))) (fun K bd=>?_) ?_
 refine bl 101 ((A.mei != B.mei)) (fun I=>?_) (fun I=>?_)
 have cH:=ax I
 exact Pl 6<|ce bd true (by rw[I];rfl)
 have cH:=ag I
 exact Pl 1<|L1<|aR c 17<|Pl 1<|L1<|aR b 17<|Pl 2<|ce bd (A.kind != B.kind) (by rw[I];rfl)
 refine Pl 1<|cu 6 [108] 114 ((((A.mei != B.mei)||(A.kind != B.kind))||(A.level != B.level))) (fun K be=>?_) ?_
 refine bl 108 (((A.mei != B.mei)||(A.kind != B.kind))) (fun J=>?_) (fun J=>?_)
 exact Pl 6<|ce be true (by rw[J];rfl)
 have cI:=(aC J).1
 have cJ:=(aC J).2
 have e3:=ag cI
 have e4:=ag cJ
 exact Pl 1<|L1<|aR c 18<|Pl 1<|L1<|aR b 18<|Pl 2<|ce be (A.level != B.level) (by rw[J];rfl)
 refine Pl 1<|cu 6 [115] 121 (((((A.mei != B.mei)||(A.kind != B.kind))||(A.level != B.level))||(A.more != B.more))) (fun K bh=>?_) ?_
 refine bl 115 ((((A.mei != B.mei)||(A.kind != B.kind))||(A.level != B.level))) (fun L=>?_) (fun L=>?_)
 exact Pl 6<|ce bh true (by rw[L];rfl)
 have bi:=(aC L).1
 have cK:=(aC L).2
 have cL:=(aC bi).1
 have cM:=(aC bi).2
 have q49aap:=ag cL
 have q49abp:=ag cM
 have e5:=ag cK
 exact Pl 1<|L1<|aR c 19<|Pl 1<|L1<|aR b 19<|Pl 2<|ce bh (A.more != B.more) (by rw[L];rfl)
 refine Pl 1<|cu 6 [122] 128 ((((((A.mei != B.mei)||(A.kind != B.kind))||(A.level != B.level))||(A.more != B.more))||(A.next != B.next))) (fun K bj=>?_) ?_
 refine bl 122 (((((A.mei != B.mei)||(A.kind != B.kind))||(A.level != B.level))||(A.more != B.more))) (fun N=>?_) (fun N=>?_)
 exact Pl 6<|ce bj true (by rw[N];rfl)
 have bm:=(aC N).1
 have cN:=(aC N).2
 have bo:=(aC bm).1
 have cO:=(aC bm).2
 have q51aaa:=(aC bo).1
 have q51aab:=(aC bo).2
 have q51aaap:=ag q51aaa
 have q51aabp:=ag q51aab
 have q51abp:=ag cO
 have e6:=ag cN
 exact Pl 1<|L1<|aR c 20<|Pl 1<|L1<|aR b 20<|Pl 2<|ce bj (A.next != B.next) (by rw[N];rfl)
 refine nt<|cb ((((((A.mei != B.mei)||(A.kind != B.kind))||(A.level != B.level))||(A.more != B.more))||(A.next != B.next))) (fun O=>?_) (fun O=>?_)
 refine sg<|Pl 1<|nt<|rt<|tr<|rr (.bool false)<|?_
 have hs:decide (A=B)=false:=iU (f:=fun x y=>(((((x.mei != y.mei)||(x.kind != y.kind))||(x.level != y.level))||(x.more != y.more))||(x.next != y.next))) O (fun M=>by simp)
 rw[hs]
 exact⟨rfl,G⟩
 have bp:=(aC O).1
 have cQ:=(aC O).2
 have bq:=(aC bp).1
 have cR:=(aC bp).2
 have q53aaa:=(aC bq).1
 have q53aab:=(aC bq).2
 have q53aaaa:=(aC q53aaa).1
 have q53aaab:=(aC q53aaa).2
 have q53aaaap:=ag q53aaaa
 have q53aaabp:=ag q53aaab
 have q53aabp:=ag q53aab
 have q53abp:=ag cR
 have e7:=ag cQ
 refine bD<|sg<|Pl 1<|L0<|aR c 12<|Pl 1<|L0<|aR b 12<|?_
 refine L0<|Oc<|m1 (fj (dr.old phw G) (dr.old qhw G)) fun e8 aa=>Pl 1<|ng<|Pl 1<|?_
 have bs:=ub aa c
 refine L0<|aR bs 13<|Pl 1<|?_
 have bt:=ub aa b
 refine L0<|aR bt 13<|?_
 have ab:=aE G aa
 refine L0<|Oc<|m1 (jn (iQ.old phb ab) (iQ.old qhb ab)) fun e9 ac=>Pl 1<|ng<|Pl 1<|?_
 have a2:=ub ac bs
 refine L0<|aR a2 14<|Pl 1<|?_
 have P:=ub ac bt
 refine L0<|aR P 14<|?_
 have ad:=aE ab ac
 refine L0<|Oc<|m1 (iJ (aL.old phd ad) (aL.old qhd ad)) fun cS n=>Pl 1<|nt<|sq<|sg<|Pl 3<|cu 3 [146] 149 (((!(decide (A.words=B.words)))||(!(decide (A.bits=B.bits))))) (fun K bu=>?_) ?_
 refine bl 146 ((!(decide (A.words=B.words)))) (fun Q=>?_) (fun Q=>?_)
 have ae:(decide (A.words=B.words))=false:=by simpa using Q
 have cT:=of_decide_eq_false ae
 exact Pl 3<|ce bu true (by rw[Q];rfl)
 have ae:(decide (A.words=B.words))=true:=by simpa using Q
 have cT:=of_decide_eq_true ae
 exact Pl 3<|ce bu (!(decide (A.bits=B.bits))) (by rw[Q];rfl)
 refine Pl 1<|cu 3 [150] 153 ((((!(decide (A.words=B.words)))||(!(decide (A.bits=B.bits))))||(!(decide (A.data=B.data))))) (fun K bv=>?_) ?_
 refine bl 150 (((!(decide (A.words=B.words)))||(!(decide (A.bits=B.bits))))) (fun R=>?_) (fun R=>?_)
 exact Pl 3<|ce bv true (by rw[R];rfl)
 have cU:=(aC R).1
 have cV:=(aC R).2
 have cW:(decide (A.words=B.words))=true:=by simpa using cU
 have q74anp:=of_decide_eq_true cW
 have cX:(decide (A.bits=B.bits))=true:=by simpa using cV
 have q74bnp:=of_decide_eq_true cX
 exact Pl 3<|ce bv (!(decide (A.data=B.data))) (by rw[R];rfl)
 refine Pl 1<|cu 8 [154] 162 (((((!(decide (A.words=B.words)))||(!(decide (A.bits=B.bits))))||(!(decide (A.data=B.data))))||(((A.recs.length:Nat) : Int)!=((B.recs.length:Nat) : Int)))) (fun K bw=>?_) ?_
 refine bl 154 ((((!(decide (A.words=B.words)))||(!(decide (A.bits=B.bits))))||(!(decide (A.data=B.data))))) (fun S=>?_) (fun S=>?_)
 exact Pl 8<|ce bw true (by rw[S];rfl)
 have bA:=(aC S).1
 have cY:=(aC S).2
 have cZ:=(aC bA).1
 have d0:=(aC bA).2
 have q76aan:(decide (A.words=B.words))=true:=by simpa using cZ
 have q76aanp:=of_decide_eq_true q76aan
 have q76abn:(decide (A.bits=B.bits))=true:=by simpa using d0
 have q76abnp:=of_decide_eq_true q76abn
 have d1:(decide (A.data=B.data))=true:=by simpa using cY
 have q76bnp:=of_decide_eq_true d1
 refine Pl 1<|?_
 refine L1<|aR (ub n a2) 15<|Pl 2<|?_
 exact L1<|aR (ub n P) 15<|Pl 3<|ce bw (((A.recs.length:Nat) : Int)!=((B.recs.length:Nat) : Int)) (by rw[S];rfl)
 refine Pl 1<|cu 8 [163] 171 ((((((!(decide (A.words=B.words)))||(!(decide (A.bits=B.bits))))||(!(decide (A.data=B.data))))||(((A.recs.length:Nat) : Int)!=((B.recs.length:Nat) : Int)))||(((A.objects.length:Nat) : Int)!=((B.objects.length:Nat) : Int)))) (fun K bB=>?_) ?_
 refine bl 163 (((((!(decide (A.words=B.words)))||(!(decide (A.bits=B.bits))))||(!(decide (A.data=B.data))))||(((A.recs.length:Nat) : Int)!=((B.recs.length:Nat) : Int)))) (fun T=>?_) (fun T=>?_)
 exact Pl 8<|ce bB true (by rw[T];rfl)
 have bC:=(aC T).1
 have d2:=(aC T).2
 have bE:=(aC bC).1
 have d3:=(aC bC).2
 have q80aaa:=(aC bE).1
 have q80aab:=(aC bE).2
 have q80aaan:(decide (A.words=B.words))=true:=by simpa using q80aaa
 have q80aaanp:=of_decide_eq_true q80aaan
 have q80aabn:(decide (A.bits=B.bits))=true:=by simpa using q80aab
 have q80aabnp:=of_decide_eq_true q80aabn
 have q80abn:(decide (A.data=B.data))=true:=by simpa using d3
 have q80abnp:=of_decide_eq_true q80abn
 have ea:=ag d2
 refine Pl 1<|?_
 refine L1<|aR (ub n a2) 21<|Pl 2<|?_
 exact L1<|aR (ub n P) 21<|Pl 3<|ce bB (((A.objects.length:Nat) : Int)!=((B.objects.length:Nat) : Int)) (by rw[T];rfl)
 refine nt<|?_
 have bF:=aE ad n
 refine cb ((((((!(decide (A.words=B.words)))||(!(decide (A.bits=B.bits))))||(!(decide (A.data=B.data))))||(((A.recs.length:Nat) : Int)!=((B.recs.length:Nat) : Int)))||(((A.objects.length:Nat) : Int)!=((B.objects.length:Nat) : Int)))) (fun U=>?_) (fun U=>?_)
 refine sg<|Pl 1<|nt<|rt<|tr<|rr (.bool false)<|?_
 have hs:decide (A=B)=false:=iU (f:=fun x y=>(((((!(decide (x.words=y.words)))||(!(decide (x.bits=y.bits))))||(!(decide (x.data=y.data))))||(((x.recs.length:Nat) : Int)!=((y.recs.length:Nat) : Int)))||(((x.objects.length:Nat) : Int)!=((y.objects.length:Nat) : Int)))) U (fun M=>by simp)
 rw[hs]
 exact⟨rfl,bF⟩
 have bG:=(aC U).1
 have d4:=(aC U).2
 have bH:=(aC bG).1
 have d5:=(aC bG).2
 have q85aaa:=(aC bH).1
 have q85aab:=(aC bH).2
 have q85aaaa:=(aC q85aaa).1
 have q85aaab:=(aC q85aaa).2
 have q85aaaan:(decide (A.words=B.words))=true:=by simpa using q85aaaa
 have q85aaaanp:=of_decide_eq_true q85aaaan
 have q85aaabn:(decide (A.bits=B.bits))=true:=by simpa using q85aaab
 have q85aaabnp:=of_decide_eq_true q85aaabn
 have q85aabn:(decide (A.data=B.data))=true:=by simpa using q85aab
 have q85aabnp:=of_decide_eq_true q85aabn
 have q85abp:=ag d5
 have eb:=ag d4
 refine bD<|sq<|sg<|Pl 1<|nt<|bk<|?_
 refine g7 (fun x=>[(2,.pointer (some ⟨i,0,none⟩)),(3,.pointer (some ⟨l,0,none⟩)),(8,.int .i64 ((x:Nat) : Int))]) (fun(x:Nat) w'=>aq [] cS w'∧(A.recs.take x=B.recs.take x)∧(x≤A.recs.length)) (fun x=>A.recs.length-x) 0 ⟨aq.refl _ _,(by(try dsimp only);simp),(by(try dsimp only);omega)⟩ ?_
 rintro j d6 ⟨a3,d7,d8⟩
 refine fZ [(2,.pointer (some ⟨i,0,none⟩)),(3,.pointer (some ⟨l,0,none⟩)),(8,.int .i64 ((j:Nat) : Int))] ?_
 have bI:A.recs.take j=B.recs.take j:=d7
 have ec:j≤A.recs.length:=d8
 refine sq<|sg<|Pl 2<|?_
 have a4:=aE n a3
 have af:=ub a4 a2
 refine L0<|aR af 15<|Pl 2<|nt<|?_
 have a5:=aE bF a3
 refine cb ((decide (((j:Nat) : Int)<((A.recs.length:Nat) : Int)))) (fun ah=>?_) (fun ah=>?_)
 have d9:=of_decide_eq_true ah
 refine bD<|sq<|bk<|sg<|Pl 1<|L0<|aR af 15<|Pl 1<|ow (ox.elt phr j (by omega)) fun ed ee ef eg eh bJ bK da db dc ei dd=>L0<|ji 4 A.recs.length j da (by omega)<|?_
 refine L0<|ul [.int .u16 ((A.recs.getD j ⟨0,0,0,[]⟩).file),.int .u16 ((A.recs.getD j ⟨0,0,0,[]⟩).record),.int .u16 ((A.recs.getD j ⟨0,0,0,[]⟩).count),.slice bJ ((A.recs.getD j ⟨0,0,0,[]⟩).words.length) bK] (ub a5 db) dd<|L0<|bz #[.int .u16 0,.int .u16 0,.int .u16 0,.slice none 0 0] fun ej ek aj de ak=>L0<|b6 de #[.int .u16 ((A.recs.getD j ⟨0,0,0,[]⟩).file),.int .u16 ((A.recs.getD j ⟨0,0,0,[]⟩).record),.int .u16 ((A.recs.getD j ⟨0,0,0,[]⟩).count),.slice bJ ((A.recs.getD j ⟨0,0,0,[]⟩).words.length) bK] fun el df al=>ng<|Pl 1<|?_
 refine L0<|aR (ub (u1 (aE a4 ak) al (ni a4.size aj)) P) 15<|Pl 1<|ow (ox.elt qhr j (by omega)) fun em eo ep eq er bL bM dg dh di es dj=>L0<|ji 4 B.recs.length j dg (by omega)<|?_
 have am:=u1 (aE a5 ak) al (ni a5.size aj)
 refine L0<|ul [.int .u16 ((B.recs.getD j ⟨0,0,0,[]⟩).file),.int .u16 ((B.recs.getD j ⟨0,0,0,[]⟩).record),.int .u16 ((B.recs.getD j ⟨0,0,0,[]⟩).count),.slice bL ((B.recs.getD j ⟨0,0,0,[]⟩).words.length) bM] (ub am dh) dj<|L0<|bz #[.int .u16 0,.int .u16 0,.int .u16 0,.slice none 0 0] fun et eu an dk ao=>L0<|b6 dk #[.int .u16 ((B.recs.getD j ⟨0,0,0,[]⟩).file),.int .u16 ((B.recs.getD j ⟨0,0,0,[]⟩).record),.int .u16 ((B.recs.getD j ⟨0,0,0,[]⟩).count),.slice bL ((B.recs.getD j ⟨0,0,0,[]⟩).words.length) bM] fun ev a6 ap=>ng<|Pl 1<|?_
 have a7:=ub (u1 ao ap (nr an)) df
 refine L0<|aR a7 3<|Pl 1<|L0<|aR a6 3<|?_
 have ar:=u1 (aE am ao) ap (ni am.size an)
 refine L0<|Oc<|m1 (fj (dr.old dc ar) (dr.old di ar)) fun ew h=>Pl 1<|ng<|Pl 3<|cu 6 [196] 202 (((!(decide ((A.recs.getD j ⟨0,0,0,[]⟩).words=(B.recs.getD j ⟨0,0,0,[]⟩).words)))||(((A.recs.getD j ⟨0,0,0,[]⟩).file)!=((B.recs.getD j ⟨0,0,0,[]⟩).file)))) (fun K bN=>?_) ?_
 refine bl 196 ((!(decide ((A.recs.getD j ⟨0,0,0,[]⟩).words=(B.recs.getD j ⟨0,0,0,[]⟩).words)))) (fun V=>?_) (fun V=>?_)
 have au:(decide ((A.recs.getD j ⟨0,0,0,[]⟩).words=(B.recs.getD j ⟨0,0,0,[]⟩).words))=false:=by simpa using V
 have dl:=of_decide_eq_false au
 exact Pl 6<|ce bN true (by rw[V];rfl)
 have au:(decide ((A.recs.getD j ⟨0,0,0,[]⟩).words=(B.recs.getD j ⟨0,0,0,[]⟩).words))=true:=by simpa using V
 have dl:=of_decide_eq_true au
 refine Pl 1<|?_
 refine L1<|aR (ub h a7) 0<|Pl 1<|?_
 exact L1<|aR (ub h a6) 0<|Pl 2<|ce bN (((A.recs.getD j ⟨0,0,0,[]⟩).file)!=((B.recs.getD j ⟨0,0,0,[]⟩).file)) (by rw[V];rfl)
 refine Pl 1<|cu 6 [203] 209 ((((!(decide ((A.recs.getD j ⟨0,0,0,[]⟩).words=(B.recs.getD j ⟨0,0,0,[]⟩).words)))||(((A.recs.getD j ⟨0,0,0,[]⟩).file)!=((B.recs.getD j ⟨0,0,0,[]⟩).file)))||(((A.recs.getD j ⟨0,0,0,[]⟩).record)!=((B.recs.getD j ⟨0,0,0,[]⟩).record)))) (fun K bO=>?_) ?_
 refine bl 203 (((!(decide ((A.recs.getD j ⟨0,0,0,[]⟩).words=(B.recs.getD j ⟨0,0,0,[]⟩).words)))||(((A.recs.getD j ⟨0,0,0,[]⟩).file)!=((B.recs.getD j ⟨0,0,0,[]⟩).file)))) (fun W=>?_) (fun W=>?_)
 exact Pl 6<|ce bO true (by rw[W];rfl)
 have dm:=(aC W).1
 have dn:=(aC W).2
 have dp:(decide ((A.recs.getD j ⟨0,0,0,[]⟩).words=(B.recs.getD j ⟨0,0,0,[]⟩).words))=true:=by simpa using dm
 have q156anp:=of_decide_eq_true dp
 have ex:=ag dn
 refine Pl 1<|?_
 refine L1<|aR (ub h a7) 1<|Pl 1<|?_
 exact L1<|aR (ub h a6) 1<|Pl 2<|ce bO (((A.recs.getD j ⟨0,0,0,[]⟩).record)!=((B.recs.getD j ⟨0,0,0,[]⟩).record)) (by rw[W];rfl)
 refine Pl 1<|cu 6 [210] 216 (((((!(decide ((A.recs.getD j ⟨0,0,0,[]⟩).words=(B.recs.getD j ⟨0,0,0,[]⟩).words)))||(((A.recs.getD j ⟨0,0,0,[]⟩).file)!=((B.recs.getD j ⟨0,0,0,[]⟩).file)))||(((A.recs.getD j ⟨0,0,0,[]⟩).record)!=((B.recs.getD j ⟨0,0,0,[]⟩).record)))||(((A.recs.getD j ⟨0,0,0,[]⟩).count)!=((B.recs.getD j ⟨0,0,0,[]⟩).count)))) (fun K bP=>?_) ?_
 refine bl 210 ((((!(decide ((A.recs.getD j ⟨0,0,0,[]⟩).words=(B.recs.getD j ⟨0,0,0,[]⟩).words)))||(((A.recs.getD j ⟨0,0,0,[]⟩).file)!=((B.recs.getD j ⟨0,0,0,[]⟩).file)))||(((A.recs.getD j ⟨0,0,0,[]⟩).record)!=((B.recs.getD j ⟨0,0,0,[]⟩).record)))) (fun X=>?_) (fun X=>?_)
 exact Pl 6<|ce bP true (by rw[X];rfl)
 have bQ:=(aC X).1
 have dq:=(aC X).2
 have ds:=(aC bQ).1
 have dt:=(aC bQ).2
 have q160aan:(decide ((A.recs.getD j ⟨0,0,0,[]⟩).words=(B.recs.getD j ⟨0,0,0,[]⟩).words))=true:=by simpa using ds
 have q160aanp:=of_decide_eq_true q160aan
 have q160abp:=ag dt
 have ey:=ag dq
 refine Pl 1<|?_
 refine L1<|aR (ub h a7) 2<|Pl 1<|?_
 exact L1<|aR (ub h a6) 2<|Pl 2<|ce bP (((A.recs.getD j ⟨0,0,0,[]⟩).count)!=((B.recs.getD j ⟨0,0,0,[]⟩).count)) (by rw[X];rfl)
 refine nt<|?_
 refine cb (((((!(decide ((A.recs.getD j ⟨0,0,0,[]⟩).words=(B.recs.getD j ⟨0,0,0,[]⟩).words)))||(((A.recs.getD j ⟨0,0,0,[]⟩).file)!=((B.recs.getD j ⟨0,0,0,[]⟩).file)))||(((A.recs.getD j ⟨0,0,0,[]⟩).record)!=((B.recs.getD j ⟨0,0,0,[]⟩).record)))||(((A.recs.getD j ⟨0,0,0,[]⟩).count)!=((B.recs.getD j ⟨0,0,0,[]⟩).count)))) (fun Y=>?_) (fun Y=>?_)
 refine sg<|Pl 1<|nt<|rt<|br<|tr<|tr<|br<|tr<|rr (.bool false)<|?_
 have hs:decide (A=B)=false:=iU (f:=fun x y=>((((!(decide ((x.recs.getD j ⟨0,0,0,[]⟩).words=(y.recs.getD j ⟨0,0,0,[]⟩).words)))||(((x.recs.getD j ⟨0,0,0,[]⟩).file)!=((y.recs.getD j ⟨0,0,0,[]⟩).file)))||(((x.recs.getD j ⟨0,0,0,[]⟩).record)!=((y.recs.getD j ⟨0,0,0,[]⟩).record)))||(((x.recs.getD j ⟨0,0,0,[]⟩).count)!=((y.recs.getD j ⟨0,0,0,[]⟩).count)))) Y (fun M=>by simp)
 rw[hs]
 exact⟨rfl,(aE ar h)⟩
 have bR:=(aC Y).1
 have du:=(aC Y).2
 have bS:=(aC bR).1
 have dv:=(aC bR).2
 have q165aaa:=(aC bS).1
 have q165aab:=(aC bS).2
 have q165aaan:(decide ((A.recs.getD j ⟨0,0,0,[]⟩).words=(B.recs.getD j ⟨0,0,0,[]⟩).words))=true:=by simpa using q165aaa
 have q165aaanp:=of_decide_eq_true q165aaan
 have q165aabp:=ag q165aab
 have q165abp:=ag dv
 have ez:=ag du
 refine sk<|bn<|tn<|go<|Pl 1<|L0<|Oi (((j:Nat) : Int)+1)<|Pl 1<|nl<|?_
 have bT:=u1 (aE a3 ak) al (ni a3.size aj)
 exact dY (j+1) ⟨(aE (u1 (aE bT ao) ap (ni bT.size an)) h),(mM (d:=⟨0,0,0,[]⟩) bI (by omega) (by omega) (sL Y)),(by(try dsimp only);omega)⟩ (by omega)
 have d9:=of_decide_eq_false ah
 refine xt<|tx<|tx<|bx<|tn<|sq<|sg<|Pl 1<|nt<|bk<|?_
 refine g7 (fun x=>[(2,.pointer (some ⟨i,0,none⟩)),(3,.pointer (some ⟨l,0,none⟩)),(12,.int .i64 ((x:Nat) : Int))]) (fun(x:Nat) w'=>aq [] d6 w'∧(A.objects.take x=B.objects.take x)∧(x≤A.objects.length)) (fun x=>A.objects.length-x) 0 ⟨aq.refl _ _,(by(try dsimp only);simp),(by(try dsimp only);omega)⟩ ?_
 rintro k eA ⟨a8,dw,dx⟩
 refine fZ [(2,.pointer (some ⟨i,0,none⟩)),(3,.pointer (some ⟨l,0,none⟩)),(12,.int .i64 ((k:Nat) : Int))] ?_
 have bU:A.objects.take k=B.objects.take k:=dw
 have eB:k≤A.objects.length:=dx
 refine sq<|sg<|Pl 2<|?_
 have bV:=ub a8 af
 refine L0<|aR bV 21<|Pl 2<|nt<|?_
 have bW:=aE a5 a8
 refine cb ((decide (((k:Nat) : Int)<((A.objects.length:Nat) : Int)))) (fun av=>?_) (fun av=>?_)
 have dy:=of_decide_eq_true av
 refine bD<|sq<|bk<|sq<|ow (ot.elt pho k (by omega)) fun bX bY eC eD eE dz dB bZ dC dD eF aw=>ow (ot.elt qho k (by omega)) fun c0 c2 eG eH eI dE dF c3 dG dH eJ ay=>Rg 14 (fun w'=>w'.cell? ⟨i,21,none⟩=some (.slice po A.objects.length pko)∧w'.cell? ⟨bX,bY+k*2+1,none⟩=some (.slice dz ((A.objects.getD k ⟨0,[]⟩).value.length) dB)∧w'.cell? ⟨l,21,none⟩=some (.slice qo B.objects.length qko)∧w'.cell? ⟨c0,c2+k*2+1,none⟩=some (.slice dE ((B.objects.getD k ⟨0,[]⟩).value.length) dF)) fun eK a9=>?_
 have c4:=ub a9 bV
 have Z:=aE bW a9
 have c5:=ub Z dC
 have c6:=ub (aE (aE a4 a8) a9) P
 have c7:=ub Z dG
 refine b9 ⟨(ai c4 rfl),(cy c5 aw 1 rfl (by decide)),(ai c6 rfl),(cy c7 ay 1 rfl (by decide))⟩ fun g=>Rt 0 g<|Rl 1 g (fun _ hs=>hs.1)<|Rt 2 g<|Ri 3 g 2 A.objects.length k ((k:Nat) : Int) rfl bZ (by omega)<|Rt 4 g<|Rl 5 g (fun _ hs=>hs.2.1)<|Rt 6 g<|Rl 7 g (fun _ hs=>hs.2.2.1)<|Rt 8 g<|Ri 9 g 2 B.objects.length k ((k:Nat) : Int) rfl c3 (by omega)<|Rt 10 g<|Rl 11 g (fun _ hs=>hs.2.2.2)<|?_
 refine R0 12 rfl<|Oc<|m1 (iJ (aL.old dD Z) (aL.old dH Z)) fun eL o=>?_
 have c8:=ub o c4
 have c9:=ub o c5
 have ca:=ub o c6
 have cc:=ub o c7
 refine b9 ⟨(ai c8 rfl),(cy c9 aw 1 rfl (by decide)),(ai ca rfl),(cy cc ay 1 rfl (by decide))⟩ fun dI=>Rt 13 dI<|re<|tn<|sq<|Rg 17 (fun w'=>w'.cell? ⟨i,21,none⟩=some (.slice po A.objects.length pko)∧w'.cell? ⟨bX,bY+k*2+0,none⟩=some (.int .u8 ((A.objects.getD k ⟨0,[]⟩).id))∧w'.cell? ⟨l,21,none⟩=some (.slice qo B.objects.length qko)∧w'.cell? ⟨c0,c2+k*2+0,none⟩=some (.int .u8 ((B.objects.getD k ⟨0,[]⟩).id))) fun eM p=>?_
 refine b9 ⟨(ai (ub p c8) rfl),(cy (ub p c9) aw 0 rfl (by decide)),(ai (ub p ca) rfl),(cy (ub p cc) ay 0 rfl (by decide))⟩ fun a=>Rt 0 a<|Rt 1 a<|Rt 2 a<|?_
 have cd:=aE (aE Z o) p
 refine tT 239 ((!(decide ((A.objects.getD k ⟨0,[]⟩).value=(B.objects.getD k ⟨0,[]⟩).value)))) (fun a0=>?_) (fun a0=>?_)
 have az:(decide ((A.objects.getD k ⟨0,[]⟩).value=(B.objects.getD k ⟨0,[]⟩).value))=false:=by simpa using a0
 have dJ:=of_decide_eq_false az
 refine Ro 3 a<|Ro 4 a<|Ro 5 a<|Ro 6 a<|Ro 7 a<|Ro 8 a<|Ro 9 a<|Ro 10 a<|Ro 11 a<|Ro 12 a<|Ro 13 a<|Ro 14 a<|Ro 15 a<|Rt 16 a<|?_
 refine re<|tn<|c1<|sg<|Pl 1<|nt<|rt<|br<|tr<|tr<|br<|tr<|?_
 refine rr (.bool false)<|?_
 have hs:decide (A=B)=false:=iU (f:=fun x y=>(!(decide ((x.objects.getD k ⟨0,[]⟩).value=(y.objects.getD k ⟨0,[]⟩).value)))) a0 (fun M=>by simp)
 rw[hs]
 exact⟨rfl,cd⟩
 have az:(decide ((A.objects.getD k ⟨0,[]⟩).value=(B.objects.getD k ⟨0,[]⟩).value))=true:=by simpa using a0
 have dJ:=of_decide_eq_true az
 refine Rt 3 a<|Rl 4 a (fun _ hs=>hs.1)<|Rt 5 a<|Ri 6 a 2 A.objects.length k ((k:Nat) : Int) rfl bZ (by omega)<|Rt 7 a<|Rl 8 a (fun _ hs=>hs.2.1)<|Rt 9 a<|Rl 10 a (fun _ hs=>hs.2.2.1)<|Rt 11 a<|Ri 12 a 2 B.objects.length k ((k:Nat) : Int) rfl c3 (by omega)<|Rt 13 a<|Rl 14 a (fun _ hs=>hs.2.2.2)<|Rt 15 a<|Rt 16 a<|?_
 refine re<|tn<|cb ((((A.objects.getD k ⟨0,[]⟩).id)!=((B.objects.getD k ⟨0,[]⟩).id))) (fun a1=>?_) (fun a1=>?_)
 have dK:=ax a1
 refine sg<|Pl 1<|nt<|rt<|br<|tr<|tr<|br<|tr<|rr (.bool false)<|?_
 have hs:decide (A=B)=false:=iU (f:=fun x y=>(((x.objects.getD k ⟨0,[]⟩).id)!=((y.objects.getD k ⟨0,[]⟩).id))) a1 (fun M=>by simp)
 rw[hs]
 exact⟨rfl,cd⟩
 have dK:=ag a1
 refine sk<|bn<|tn<|go<|Pl 1<|L0<|Oi (((k:Nat) : Int)+1)<|Pl 1<|nl<|?_
 exact dY (k+1) ⟨(aE (aE (aE a8 a9) o) p),(mM (d:=⟨0,[]⟩) bU (by omega) (by omega) (rk a0 a1)),(by(try dsimp only);omega)⟩ (by omega)
 have dy:=of_decide_eq_false av
 refine xt<|tx<|tx<|bx<|tn<|sg<|Pl 1<|nt<|rt<|rr (.bool true)<|?_
 have hs:decide (A=B)=true:=decide_eq_true (rI H O U (fun e=>dW bI (by omega) e) (fun e=>dW bU (by omega) e))
 rw[hs]
 exact⟨rfl,bW⟩
open Go.RowKit
deriving instance DecidableEq for Ev
theorem ip(A B:Ev) : (((A.e==B.e)&&((A.f.unit==B.f.unit)&&(A.f.tid==B.f.tid)))&&decide (A.f.msg=B.f.msg))=decide (A=B):=by
  rw[Bool.eq_iff_iff]
  simp only[Bool.and_eq_true,beq_iff_eq,decide_eq_true_eq]
  obtain⟨e,u,t,M⟩:=A
  obtain⟨e2,u2,t2,M2⟩:=B
  simp only[Ev.mk.injEq,cK.mk.injEq]
  constructor
  · rintro⟨⟨h1,h2,h3⟩,h4⟩;exact⟨h1,h2,h3,h4⟩
  · rintro⟨h1,h2,h3,h4⟩;exact⟨⟨h1,h2,h3⟩,h4⟩
theorem sQ{xs ys:List Ev}{k:Nat}(hk:k<xs.length)(hl:xs.length=ys.length)(h:xs.take k=ys.take k)(he:xs.getD k (Ev.bad 0)=ys.getD k (Ev.bad 0)) : xs.take (k+1)=ys.take (k+1):=by
  exact oX hl hk h he
theorem so{xs ys:List Ev}{k:Nat}(h:xs.take k=ys.take k)(h1:k=xs.length)(h2:xs.length=ys.length) : decide (xs=ys)=true:=by
  rw[List.take_of_length_le (by omega),List.take_of_length_le (by omega)] at h
  exact decide_eq_true h
theorem tV{xs ys:List Ev}(k:Nat)(h:decide (xs.getD k (Ev.bad 0)=ys.getD k (Ev.bad 0))=false) : decide (xs=ys)=false:=by
  rw[decide_eq_false_iff_not] at h ⊢
  exact fun e=>h (by rw[e])
theorem m5{m m':Bool}{A B:Ev}{sA sB:SL}{w:World}(hA:aU m w (oy A.f.msg sA).toList A.f.msg)(hB:aU m' w (oy B.f.msg sB).toList B.f.msg) : Calls Tryz.prog 45 #[.agg (kN A sA),.agg (kN B sB)] w (bg (.bool (decide (A=B))) w):=by
 refine en 28 Tryz.func45 rfl<|sg<|L0<|cP (kN ⟨A.e,A.f⟩ sA) fun s t u o p=>L0<|cP (kN ⟨B.e,B.f⟩ sB) fun v x y d i=>Pl 1<|ng<|Pl 1<|?_
 have g:=ub i o
 refine L0<|aR g 0<|Pl 1<|L0<|aR d 0<|Pl 2<|cu 8 [10] 18 (((A.e==B.e)&&((A.f.unit==B.f.unit)&&(A.f.tid==B.f.tid)))) (fun K j=>?_) ?_
 refine bl 10 ((A.e==B.e)) (fun a=>?_) (fun a=>?_)
 have q:=aA a
 exact Pl 2<|L1<|u4 g 1 2<|Pl 2<|L1<|u4 d 1 2<|L1<|fN (.bool ((A.f.unit==B.f.unit)&&(A.f.tid==B.f.tid))) (lm A.f.unit A.f.tid B.f.unit B.f.tid rfl (by kernel_rfl) (by kernel_rfl) rfl)<|Pl 1<|ce j ((A.f.unit==B.f.unit)&&(A.f.tid==B.f.tid)) (by rw[a];rfl)
 have q:=aH a
 exact Pl 8<|ce j false (by rw[a];rfl)
 refine Pl 1<|?_
 have c:=aE p i
 refine bl 19 (((A.e==B.e)&&((A.f.unit==B.f.unit)&&(A.f.tid==B.f.tid)))) (fun b=>?_) (fun b=>?_)
 have k:=(bM b).1
 have h:=(bM b).2
 have z:=aA k
 have l:=(bM h).1
 have n:=(bM h).2
 have q24bap:=aA l
 have q24bbp:=aA n
 refine Pl 2<|L1<|u4 g 3 22<|Pl 2<|L1<|u4 d 3 22<|?_
 refine L1<|Oc<|m1 (mY (aU.old hA c) (aU.old hB c)) fun C r=>Pl 2<|nt<|rt<|rr (.bool (decide (A.f.msg=B.f.msg)))<|?_
 have hs:(decide (A.f.msg=B.f.msg))=decide (A=B):=by rw[← ip];simp only[b,k,h,l,n,bs,if_true,if_false,decide_true,decide_false,Bool.true_and,Bool.false_and,Bool.and_true,Bool.and_false]
 rw[hs]
 exact⟨rfl,(aE c r)⟩
 refine Pl 9<|nt<|rt<|rr (.bool false)<|?_
 have hs:false=decide (A=B):=by rw[← ip];simp only[b,bs,if_true,if_false,decide_true,decide_false,Bool.true_and,Bool.false_and,Bool.and_true,Bool.and_false]
 rw[hs]
 exact⟨rfl,c⟩
theorem iK{m m':Bool}{A B:Option Addr}{c d:Nat}{xs ys:List Ev}{w:World}(h1:kP m w (.slice A xs.length c) xs)(h2:kP m' w (.slice B ys.length d) ys) : Calls Tryz.prog 28 #[.slice A xs.length c,.slice B ys.length d] w (bg (.bool (decide (xs=ys))) w):=by
 have hz1:=aG.len h1
 have hz2:=aG.len h2
 refine en 27 Tryz.func28 rfl<|sg<|Pl 1<|nt<|sq<|sg<|Pl 5<|nt<|cb ((((xs.length:Nat) : Int)!=((ys.length:Nat) : Int))) (fun l=>?_) (fun l=>?_)
 have q:=ax l
 refine sg<|Pl 1<|nt<|rt<|tr<|rr (.bool false)<|?_
 have hs:decide (xs=ys)=false:=decide_eq_false (fun e=>by rw[e] at q;omega)
 rw[hs]
 exact⟨rfl,(aq.refl [] _)⟩
 have q:=ag l
 refine bD<|sq<|sg<|Pl 1<|nt<|bk<|?_
 refine g7 (fun x=>[(0,.slice A xs.length c),(1,.slice B ys.length d),(5,.int .i64 ((x:Nat) : Int))]) (fun(x:Nat) w'=>aq [] w w'∧(xs.take x=ys.take x)∧(x≤xs.length)) (fun x=>xs.length-x) 0 ⟨aq.refl _ _,rfl,(by(try dsimp only);omega)⟩ ?_
 rintro k Y ⟨r,C,D⟩
 refine fZ [(0,.slice A xs.length c),(1,.slice B ys.length d),(5,.int .i64 ((k:Nat) : Int))] ?_
 have s:xs.take k=ys.take k:=C
 have Z:k≤xs.length:=D
 refine sq<|sg<|Pl 4<|nt<|cb ((decide (((k:Nat) : Int)<((xs.length:Nat) : Int)))) (fun n=>?_) (fun n=>?_)
 have E:=of_decide_eq_true n
 refine bD<|sq<|bk<|sq<|ug (kP.elt h1 k (by omega) (Ev.bad 0)) fun t F G H I a J K L M=>ug (kP.elt h2 k (by omega) (Ev.bad 0)) fun u N O P Q b R S T U=>Rg 10 (fun w'=>w'.heap[t]? = some (.cells G H I)∧w'.heap[u]? = some (.cells O P Q)) fun a0 V=>?_
 have i:=aE r V
 have v:=ub i K
 have y:=ub i S
 refine b9 ⟨v,y⟩ fun h=>Rt 0 h<|Rt 1 h<|Ri 2 h 25 xs.length k ((k:Nat) : Int) rfl J (by omega)<|Rr 3 h (.agg (kN ⟨(xs.getD k (Ev.bad 0)).e,(xs.getD k (Ev.bad 0)).f⟩ a)) (fun w' hs=>mz (g:=t) (off:=F+k*25) [.int .i64 ((xs.getD k (Ev.bad 0)).e),.int .u8 ((xs.getD k (Ev.bad 0)).f.unit),.int .u16 ((xs.getD k (Ev.bad 0)).f.tid),.int .u8 ((xs.getD k (Ev.bad 0)).f.msg.code),.int .u8 ((xs.getD k (Ev.bad 0)).f.msg.fail),.int .u16 ((xs.getD k (Ev.bad 0)).f.msg.addr),.int .u16 ((xs.getD k (Ev.bad 0)).f.msg.count),.int .u16 ((xs.getD k (Ev.bad 0)).f.msg.value),.int .u16 ((xs.getD k (Ev.bad 0)).f.msg.and_),.int .u16 ((xs.getD k (Ev.bad 0)).f.msg.or_),.int .u16 ((xs.getD k (Ev.bad 0)).f.msg.addr2),.int .u16 ((xs.getD k (Ev.bad 0)).f.msg.sub),.int .u16 ((xs.getD k (Ev.bad 0)).f.msg.status),.int .u16 ((xs.getD k (Ev.bad 0)).f.msg.events),.int .u16 ((xs.getD k (Ev.bad 0)).f.msg.messages),.slice a.aw ((xs.getD k (Ev.bad 0)).f.msg.words.length) a.kw,.slice a.ab ((xs.getD k (Ev.bad 0)).f.msg.bits.length) a.kb,.slice a.ad ((xs.getD k (Ev.bad 0)).f.msg.data.length) a.kd,.slice a.ar ((xs.getD k (Ev.bad 0)).f.msg.recs.length) a.kr,.int .u8 ((xs.getD k (Ev.bad 0)).f.msg.mei),.int .u8 ((xs.getD k (Ev.bad 0)).f.msg.kind),.int .u8 ((xs.getD k (Ev.bad 0)).f.msg.level),.int .u8 ((xs.getD k (Ev.bad 0)).f.msg.more),.int .u8 ((xs.getD k (Ev.bad 0)).f.msg.next),.slice a.ao ((xs.getD k (Ev.bad 0)).f.msg.objects.length) a.ko] rfl (by kernel_rfl) hs.1 (by kernel_rfl) (by kernel_rfl) M)<|Rt 4 h<|Rt 5 h<|Ri 6 h 25 ys.length k ((k:Nat) : Int) rfl R (by omega)<|Rr 7 h (.agg (kN ⟨(ys.getD k (Ev.bad 0)).e,(ys.getD k (Ev.bad 0)).f⟩ b)) (fun w' hs=>mz (g:=u) (off:=N+k*25) [.int .i64 ((ys.getD k (Ev.bad 0)).e),.int .u8 ((ys.getD k (Ev.bad 0)).f.unit),.int .u16 ((ys.getD k (Ev.bad 0)).f.tid),.int .u8 ((ys.getD k (Ev.bad 0)).f.msg.code),.int .u8 ((ys.getD k (Ev.bad 0)).f.msg.fail),.int .u16 ((ys.getD k (Ev.bad 0)).f.msg.addr),.int .u16 ((ys.getD k (Ev.bad 0)).f.msg.count),.int .u16 ((ys.getD k (Ev.bad 0)).f.msg.value),.int .u16 ((ys.getD k (Ev.bad 0)).f.msg.and_),.int .u16 ((ys.getD k (Ev.bad 0)).f.msg.or_),.int .u16 ((ys.getD k (Ev.bad 0)).f.msg.addr2),.int .u16 ((ys.getD k (Ev.bad 0)).f.msg.sub),.int .u16 ((ys.getD k (Ev.bad 0)).f.msg.status),.int .u16 ((ys.getD k (Ev.bad 0)).f.msg.events),.int .u16 ((ys.getD k (Ev.bad 0)).f.msg.messages),.slice b.aw ((ys.getD k (Ev.bad 0)).f.msg.words.length) b.kw,.slice b.ab ((ys.getD k (Ev.bad 0)).f.msg.bits.length) b.kb,.slice b.ad ((ys.getD k (Ev.bad 0)).f.msg.data.length) b.kd,.slice b.ar ((ys.getD k (Ev.bad 0)).f.msg.recs.length) b.kr,.int .u8 ((ys.getD k (Ev.bad 0)).f.msg.mei),.int .u8 ((ys.getD k (Ev.bad 0)).f.msg.kind),.int .u8 ((ys.getD k (Ev.bad 0)).f.msg.level),.int .u8 ((ys.getD k (Ev.bad 0)).f.msg.more),.int .u8 ((ys.getD k (Ev.bad 0)).f.msg.next),.slice b.ao ((ys.getD k (Ev.bad 0)).f.msg.objects.length) b.ko] rfl (by kernel_rfl) hs.2 (by kernel_rfl) (by kernel_rfl) U)<|?_
 refine R0 8 rfl<|Oc<|m1 (m5 (A:=(xs.getD k (Ev.bad 0))) (B:=(ys.getD k (Ev.bad 0))) (aU.old (L.1) i) (aU.old (T.1) i)) fun a1 o=>?_
 refine b9 ⟨(ub o v),(ub o y)⟩ fun W=>Rt 9 W<|re<|tn<|?_
 have z:=aE i o
 refine cb ((!(decide ((xs.getD k (Ev.bad 0))=(ys.getD k (Ev.bad 0)))))) (fun p=>?_) (fun p=>?_)
 have j:(decide ((xs.getD k (Ev.bad 0))=(ys.getD k (Ev.bad 0))))=false:=by simpa using p
 have X:=of_decide_eq_false j
 refine sg<|Pl 1<|nt<|rt<|br<|tr<|tr<|br<|tr<|rr (.bool false)<|?_
 have hs:decide (xs=ys)=false:=tV k j
 rw[hs]
 exact⟨rfl,z⟩
 have j:(decide ((xs.getD k (Ev.bad 0))=(ys.getD k (Ev.bad 0))))=true:=by simpa using p
 have X:=of_decide_eq_true j
 exact sk<|bn<|tn<|go<|Pl 1<|L0<|Oi (((k:Nat) : Int)+1)<|Pl 1<|nl<|dY (k+1) ⟨z,(sQ (by omega) (by omega) s (of_decide_eq_true j)),(by(try dsimp only);omega)⟩ (by omega)
 have E:=of_decide_eq_false n
 refine xt<|tx<|tx<|bx<|tn<|sg<|Pl 1<|nt<|rt<|rr (.bool true)<|?_
 have hs:decide (xs=ys)=true:=so s (by omega) (by omega)
 rw[hs]
 exact⟨rfl,r⟩
open Go.RowKit
theorem ny{n:Nat}{A:Option Addr}{cp:Nat}{ps:List Pc}{w:World}(h:aG false 53 2 (eJ n) w (.slice A ps.length cp) ps)(hn:n≤w.heap.size)(hps:ps.length≤1048576) : Calls Tryz.prog 27 #[.slice A ps.length cp] w (fun e w'=>∃ v,e = .returned v∧fb n w.heap.size w' v ps∧aq [] w w'):=by
 have hz:=aG.len h
 refine en 26 Tryz.func27 rfl<|sg<|Pl 1<|ng<|Pl 1<|nt<|sq<|sg<|?_
 refine Pl 1<|nt<|bk<|?_
 refine g7 (fun x=>[(0,.slice A ps.length cp),(2,.slice none 0 0),(3,.slice x.2.2.1 x.2.1.length x.2.2.2),(4,.int .i64 ((x.1:Nat) : Int))]) (fun(x:Nat × List Pc × Option Addr × Nat) w'=>aq [] w w'∧aN w.heap.size 53 2 (eJ n) w' (.slice x.2.2.1 x.2.1.length x.2.2.2) x.2.1∧(x.1≤ps.length)∧(x.2.1.length≤x.1)∧(x.2.1=ps.take x.1)) (fun x=>ps.length-x.1) (0,[],none,0) ⟨aq.refl _ _,(aN.nil w.heap.size _ _ (eJ n) _),(by(try dsimp only);omega),(by(try dsimp only);exact Nat.le_refl _),rfl⟩ ?_
 rintro⟨k,L,B,cq⟩ I ⟨l,J,K,M,N⟩
 refine fZ [(0,.slice A ps.length cp),(2,.slice none 0 0),(3,.slice B L.length cq),(4,.int .i64 ((k:Nat) : Int))] ?_
 have c:aN w.heap.size 53 2 (eJ n) I (.slice B L.length cq) L:=J
 have X:k≤ps.length:=K
 have Y:L.length≤k:=M
 have o:L=ps.take k:=N
 refine sq<|sg<|Pl 4<|nt<|cb ((decide (((k:Nat) : Int)<((ps.length:Nat) : Int)))) (fun d=>?_) (fun d=>?_)
 have O:=of_decide_eq_true d
 refine bD<|sq<|bk<|ow (RdPn.elt h k (by omega)) fun q r Z a0 a1 s t u y P a2 b=>Rg 15 (fun w'=>w'.cell? ⟨q,r+k*2+0,none⟩=some (.slice s ((ps.getD k Pc.z).bytes.length) t)∧w'.cell? ⟨q,r+k*2+1,none⟩=some (.bool ((ps.getD k Pc.z).tick))) fun a3 C=>?_
 have D:=aE l C
 have f:=ub D y
 refine b9 ⟨(cy f b 0 rfl (by decide)),(cy f b 1 rfl (by decide))⟩ fun a=>Rt 0 a<|Rt 1 a<|Rt 2 a<|Ri 3 a 2 ps.length k ((k:Nat) : Int) rfl u (by omega)<|Rt 4 a<|Rl 5 a (fun _ hs=>hs.1)<|Rt 6 a<|Rt 7 a<|Ri 8 a 2 ps.length k ((k:Nat) : Int) rfl u (by omega)<|Rt 9 a<|Rl 10 a (fun _ hs=>hs.2)<|Rt 11 a<|R0 12 rfl<|eS (m:=1) (e:=53) #[.slice s ((ps.getD k Pc.z).bytes.length) t,.bool ((ps.getD k Pc.z).tick)] fun a4 a5 Q R g=>?_
 have i:=aE D g
 have S:=uI (n:=n) (p:=(Pc.mk ((ps.getD k Pc.z).bytes) ((ps.getD k Pc.z).tick))) Q R (⟨_,rfl,gc.upd i (fun x hx=>by cases hx) P⟩)
 have j:=ub g f
 refine b9 ⟨(cy j b 0 rfl (by decide)),(cy j b 1 rfl (by decide))⟩ fun a6=>?_
 have E:=aE C g
 have F:=am c E (fun x hx=>ay) (eJ.upd E (fun x hx=>by cases hx))
 refine R0 13 rfl<|ff (xs:=L) (ys:=([Pc.mk ((ps.getD k Pc.z).bytes) ((ps.getD k Pc.z).tick)])) (.agg #[.slice none 0 0,.bool false]) 2 32 F (S).rd eJ.ones (fun w' hv=>eJ.upd hv (au (fun x hx=>Nat.le_trans hn (Nat.le_trans lr (dU F x hx))) av)) (by(try simp only[List.length_append,List.length_cons,List.length_nil,aS]);omega) i.size fun T U a7 V G a8=>?_
 have H:=aq.blk G (aM (ap (aj y) lr c) ay) j
 refine b9 ⟨(cy H b 0 rfl (by decide)),(cy H b 1 rfl (by decide))⟩ fun W=>Rt 14 W<|re<|bn<|tn<|go<|Pl 1<|L0<|Oi (((k:Nat) : Int)+1)<|Pl 1<|nl<|?_
 exact dY ((k+1),(L++[Pc.mk ((ps.getD k Pc.z).bytes) ((ps.getD k Pc.z).tick)]),T,U) ⟨(ut i G (au (bH c lr) av)),V,(by(try dsimp only);omega),(by(try dsimp only);simp only[List.length_append,List.length_cons,List.length_nil];omega),(by(try dsimp only);exact qV o (by omega))⟩ (by omega)
 have O:=of_decide_eq_false d
 refine xt<|tx<|tx<|bx<|tn<|sg<|Pl 2<|nt<|rt<|rr (.slice B L.length cq)<|?_
 have hs:L=ps:=by rw[o,List.take_of_length_le (by omega)]
 exact⟨_,rfl,by rw[← hs];exact c,l⟩
theorem fx{n:Nat}{v:Value}{ps:List Pc}{w:World}(h:aG false 53 2 (eJ n) w v ps)(hn:n≤w.heap.size)(hps:ps.length≤1048576) : Calls Tryz.prog 27 #[v] w (fun e w'=>∃ v,e = .returned v∧fb n w.heap.size w' v ps∧aq [] w w'):=by
  obtain⟨A,cp,rfl,_,_⟩:=h.shape
  exact ny h hn hps
open Go.RowKit
theorem i9{w:World}{fr at_:Int}{ans:Bool}(hfr:0≤fr∧fr<256)(hat:0≤at_∧at_<256){mA:Bool}{A:Option Addr}{cpA:Nat}{ps:List Pc}(hA:gf mA w (.slice A ps.length cpA) ps)(hpb:∀ p,p∈ps→p.bytes.length≤140737488355328)(hpl:ps.length≤4398046511104) :
    Calls Tryz.prog 7 #[.int .u8 fr,.bool ans,.slice A ps.length cpA,.int .u8 at_] w (bg (.bool true) w):=by
 have hzA:=aG.len hA
 refine en 91 Tryz.func7 rfl<|sg<|Pl 1<|ng<|L0<|Oc<|m1 (@rq _) fun bR a5=>Pl 1<|ng<|?_
 refine Pl 1<|?_
 refine L0<|Oc<|m1 (o9 (gf.old hA a5) hpb hpl) fun a6 aR=>Pl 1<|nt<|sq<|sg<|Pl 2<|nt<|?_
 have N:=aE a5 aR
 refine cb ((!(ej (ps.map Pc.bytes)))) (fun O=>?_) (fun O=>?_)
 have Q:(ej (ps.map Pc.bytes))=false:=by simpa using O
 refine sg<|Pl 2<|nt<|rt<|tr<|rr (.bool true)<|?_
 exact⟨rfl,N⟩
 have Q:(ej (ps.map Pc.bytes))=true:=by simpa using O
 refine bD<|sg<|Pl 1<|nt<|sq<|sg<|Pl 1<|nt<|cb (ans) (fun aT=>?_) (fun aT=>?_)
 refine go<|Pl 1<|ng<|Pl 1<|nt<|sq<|sg<|Pl 1<|nl<|?_
 refine tn<|bk<|?_
 obtain⟨hf1,hf2⟩:=pB Q
 refine g7 (fun x=>[(0,.int .u8 fr),(2,.slice A ps.length cpA),(3,.int .u8 at_),(8,.bool false),(9,.bool true),(11,.int .i64 1),(12,.slice x.2.2.1 x.2.1.length x.2.2.2),(13,.int .i64 ((x.1:Nat) : Int))]) (fun(x:Nat × List Pc × Option Addr × Nat) w'=>aq [] w w'∧a6.heap.size≤w'.heap.size∧fb w.heap.size w.heap.size w' (.slice x.2.2.1 x.2.1.length x.2.2.2) x.2.1∧(x.1≤ps.length)∧(x.2.1.length≤3*x.1)∧(x.2.1=(ps.take x.1).flatMap (gi at_))) (fun x=>ps.length-x.1) (0,[],none,0) ⟨N,lr,(aN.nil w.heap.size _ _ (eJ w.heap.size) _),(by(try dsimp only);omega),(by(try dsimp only);exact Nat.le_refl _),rfl⟩ ?_
 rintro⟨k,Lc,B,cq⟩ aU ⟨h,aV,aW,aX,aY,aZ⟩
 refine fZ [(0,.int .u8 fr),(2,.slice A ps.length cpA),(3,.int .u8 at_),(8,.bool false),(9,.bool true),(11,.int .i64 1),(12,.slice B Lc.length cq),(13,.int .i64 ((k:Nat) : Int))] ?_
 have C:fb w.heap.size w.heap.size aU (.slice B Lc.length cq) Lc:=aW
 have bS:k≤ps.length:=aX
 have bT:Lc.length≤3*k:=aY
 have a7:Lc=(ps.take k).flatMap (gi at_):=aZ
 refine sq<|sg<|Pl 4<|nt<|cb ((decide (((k:Nat) : Int)<((ps.length:Nat) : Int)))) (fun R=>?_) (fun R=>?_)
 have b0:=of_decide_eq_true R
 refine bD<|sq<|bk<|sg<|Pl 2<|ow (gf.elt hA k (by omega)) fun a8 a9 bU bV bW i d aa ab ac bX D=>?_
 have hpart:=fO (ps:=ps) (k:=k) (by omega)
 refine L0<|ji 2 ps.length k aa (by omega)<|Pl 1<|?_
 have ad:=ub h ab
 refine L0<|iX (p:=⟨a8,a9+k*2+0,none⟩) (v:=.slice i ((ps.getD k Pc.z).bytes.length) d) (cy ad D 0 rfl (by decide))<|Pl 1<|ng<|Pl 1<|L0<|Oi at_<|Pl 2<|L0<|Oi ((((ps.getD k Pc.z).bytes.length:Nat) : Int)+1)<|?_
 have bY:=mF (x:=at_) (y:=((((ps.getD k Pc.z).bytes.length:Nat) : Int)+1)) (by omega)
 refine L0<|fN (.int .i64 (at_%((((ps.getD k Pc.z).bytes.length:Nat) : Int)+1))) (mE rfl (by kernel_rfl) (by kernel_rfl) (by omega) (by omega))<|Pl 1<|nt<|Rg 18 (fun w'=>w'.cell? ⟨a8,a9+k*2+1,none⟩=some (.bool ((ps.getD k Pc.z).tick))) fun bZ S=>?_
 have ae:=ub S ad
 refine b9 (cy ae D 1 rfl (by decide)) fun a=>Rt 0 a<|Rt 1 a<|Rt 2 a<|kV (mv (P:=Tryz.prog) 27 5 1 Tryz.underlying27 rfl rfl i ((ps.getD k Pc.z).bytes.length) d (k:=(at_%((((ps.getD k Pc.z).bytes.length:Nat) : Int)+1))) (((at_%((((ps.getD k Pc.z).bytes.length:Nat) : Int)+1))).toNat) (by omega) (by omega) (by omega)) fun af hrun89 b1=>Rr 3 a (.slice af (((at_%((((ps.getD k Pc.z).bytes.length:Nat) : Int)+1))).toNat) d) (fun _ _=>fq (kl:=.i64) (k:=(at_%((((ps.getD k Pc.z).bytes.length:Nat) : Int)+1))) (A:=i) (n:=(ps.getD k Pc.z).bytes.length) (c:=d) rfl Tryz.underlying27 (by kernel_rfl) (by kernel_rfl) (hrun89 _ _))<|Rt 4 a<|Rt 5 a<|Rt 6 a<|Rt 7 a<|kV (eK (P:=Tryz.prog) 27 5 1 Tryz.underlying27 rfl rfl i ((ps.getD k Pc.z).bytes.length) d (lo:=(at_%((((ps.getD k Pc.z).bytes.length:Nat) : Int)+1))) (((at_%((((ps.getD k Pc.z).bytes.length:Nat) : Int)+1))).toNat) (by omega) (by omega)) fun ag hrun92 b2=>Rr 8 a (.slice ag (((ps.getD k Pc.z).bytes.length)-(((at_%((((ps.getD k Pc.z).bytes.length:Nat) : Int)+1))).toNat)) (d-(((at_%((((ps.getD k Pc.z).bytes.length:Nat) : Int)+1))).toNat))) (fun _ _=>cV (kl:=.i64) (k:=(at_%((((ps.getD k Pc.z).bytes.length:Nat) : Int)+1))) (A:=i) (n:=(ps.getD k Pc.z).bytes.length) (c:=d) rfl Tryz.underlying27 (by kernel_rfl) (by kernel_rfl) (hrun92 _ _))<|Rt 9 a<|Rt 10 a<|?_
 refine Ri 11 a 2 ps.length k ((k:Nat) : Int) rfl aa (by omega)<|Rt 12 a<|Rl 13 a (fun _ hs=>hs)<|Rt 14 a<|R0 15 rfl<|eS (m:=3) (e:=53) #[.slice af (((at_%((((ps.getD k Pc.z).bytes.length:Nat) : Int)+1))).toNat) d,.bool false,.slice none 0 0,.bool false,.slice ag (((ps.getD k Pc.z).bytes.length)-(((at_%((((ps.getD k Pc.z).bytes.length:Nat) : Int)+1))).toNat)) (d-(((at_%((((ps.getD k Pc.z).bytes.length:Nat) : Int)+1))).toNat)),.bool ((ps.getD k Pc.z).tick)] fun c0 c1 b3 b4 T=>?_
 have U:=aE S T
 have E:=aE h U
 have b5:=rU (n:=w.heap.size) (p0:=(Pc.mk (((ps.getD k Pc.z).bytes).take (((at_%((((ps.getD k Pc.z).bytes.length:Nat) : Int)+1))).toNat)) false)) (p1:=(Pc.mk [] false)) (p2:=(Pc.mk (((ps.getD k Pc.z).bytes).drop (((at_%((((ps.getD k Pc.z).bytes.length:Nat) : Int)+1))).toNat)) ((ps.getD k Pc.z).tick))) b3 b4 (⟨_,rfl,gc.upd E (fun x hx=>by cases hx) (gc.of ((b1 _ _ _ _ _ ac)))⟩) (⟨_,rfl,gc.nil⟩) (⟨_,rfl,gc.upd E (fun x hx=>by cases hx) (gc.of ((b2 _ _ _ _ _ ac)))⟩)
 have ah:=ub T ae
 refine b9 (cy ah D 1 rfl (by decide)) fun c2=>?_
 have ai:=am C U (fun x hx=>ay) (eJ.upd U (fun x hx=>by cases hx))
 refine R0 16 rfl<|ff (xs:=Lc) (ys:=([Pc.mk (((ps.getD k Pc.z).bytes).take (((at_%((((ps.getD k Pc.z).bytes.length:Nat) : Int)+1))).toNat)) false,Pc.mk [] false,Pc.mk (((ps.getD k Pc.z).bytes).drop (((at_%((((ps.getD k Pc.z).bytes.length:Nat) : Int)+1))).toNat)) ((ps.getD k Pc.z).tick)])) (.agg #[.slice none 0 0,.bool false]) 2 32 ai (b5).rd eJ.ones (fun w' hv=>eJ.upd hv (au (fun x hx=>Nat.le_trans lr (dU ai x hx)) av)) (by(try simp only[List.length_append,List.length_cons,List.length_nil,aS]);omega) E.size fun b6 b7 c3 b8 V c4=>?_
 refine b9 (cy (aq.blk V (aM (ap (aj ab) lr C) ay) ah) D 1 rfl (by decide)) fun ba=>Rt 17 ba<|re<|bn<|tn<|go<|Pl 1<|L0<|Oi (((k:Nat) : Int)+1)<|Pl 1<|nl<|?_
 exact dY ((k+1),(Lc++[Pc.mk (((ps.getD k Pc.z).bytes).take (((at_%((((ps.getD k Pc.z).bytes.length:Nat) : Int)+1))).toNat)) false,Pc.mk [] false,Pc.mk (((ps.getD k Pc.z).bytes).drop (((at_%((((ps.getD k Pc.z).bytes.length:Nat) : Int)+1))).toNat)) ((ps.getD k Pc.z).tick)]),b6,b7) ⟨(ut E V (au (bH C lr) av)),(le (le (le aV S.size) T.size) V.size),b8,(by(try dsimp only);omega),(by(try dsimp only);simp only[List.length_append,List.length_cons,List.length_nil];omega),(by(try dsimp only);exact iD (f:=gi at_) (by omega) a7)⟩ (by omega)
 have b0:=of_decide_eq_false R
 refine xt<|tx<|tx<|bx<|tn<|sg<|Pl 1<|L0<|Oe (.int .u8 (Int.tmod fr 3)) (.int .u8 (fr%3)) (congrArg (Value.int .u8) (Int.tmod_eq_emod_of_nonneg (by omega)))<|L0<|Oi (fr%3)<|Pl 2<|L0<|Oc<|e2 (fx (RdPn.old (gf.n hA) h) h.size (by omega)) fun c5 c6 bb bc=>?_
 have ak:=fb.any bb
 obtain⟨bd,be,rfl,c7,c8⟩:=aG.shape ak
 refine pr (XS.run (XS.zero (fr%3) 1) ps) fun F j al=>?_
 refine L0<|Oc (args:=#[.int .i64 (fr%3),.int .i64 1,.slice bd ps.length be])<|pu (dR al (mL _) (show 1=0∨1=1 by decide) ak (by omega) (by omega)) fun c9 ca cc bf cd cf bh=>Pl 5<|ng<|Pl 1<|L0<|Oe (.int .u8 (Int.tmod fr 3)) (.int .u8 (fr%3)) (congrArg (Value.int .u8) (Int.tmod_eq_emod_of_nonneg (by omega)))<|L0<|Oi (fr%3)<|Pl 2<|?_
 refine pr (XS.run (XS.zero (fr%3) 1) Lc) fun G l an=>?_
 have hLc:Lc=ps.flatMap (gi at_):=by rw[a7,List.take_of_length_le (by omega)]
 have W:=aE bc bh
 refine L0<|Oc (args:=#[.int .i64 (fr%3),.int .i64 1,.slice B Lc.length cq])<|pu (dR an (mL _) (show 1=0∨1=1 by decide) (fb.any (am C W (fun x hx=>ay) (eJ.upd W (fun x hx=>by cases hx)))) (by omega) (by rw[hLc,gR (km at_)];omega)) fun cg ch ci bi cj ck X=>Pl 5<|ng<|Pl 4<|?_
 refine L1<|Oc<|m1 (iK (xs:=j) (ys:=l) ((am bf X (fun x hx=>ay) (kz.upd X az))).rd (bi).rd) fun cl bj=>Pl 2<|cu 4 [86] 90 (((decide (j=l))&&(((F.held.length:Nat) : Int)==((G.held.length:Nat) : Int)))) (fun K ao=>?_) ?_
 refine bl 86 ((decide (j=l))) (fun o=>?_) (fun o=>?_)
 have bm:=of_decide_eq_true o
 exact Pl 4<|ce ao (((F.held.length:Nat) : Int)==((G.held.length:Nat) : Int)) (by rw[o];rfl)
 have bm:=of_decide_eq_false o
 exact Pl 4<|ce ao false (by rw[o];rfl)
 refine Pl 1<|nt<|rt<|rr (.bool ((decide (j=l))&&(((F.held.length:Nat) : Int)==((G.held.length:Nat) : Int))))<|?_
 have hs:((decide (j=l))&&(((F.held.length:Nat) : Int)==((G.held.length:Nat) : Int)))=true:=by have z:=an;rw[hLc,hM (jY at_),al] at z;injection z with z1 z2;rw[z1,z2];simp
 rw[hs]
 exact⟨rfl,(aE h (aE W (aE X bj)))⟩
 refine bD<|sg<|Pl 1<|nt<|sq<|sg<|Pl 1<|nt<|bk<|?_
 obtain⟨hf1,hf2⟩:=pB Q
 refine g7 (fun x=>[(0,.int .u8 fr),(2,.slice A ps.length cpA),(3,.int .u8 at_),(8,.bool false),(9,.bool true),(11,.int .i64 0),(12,.slice x.2.2.1 x.2.1.length x.2.2.2),(13,.int .i64 ((x.1:Nat) : Int))]) (fun(x:Nat × List Pc × Option Addr × Nat) w'=>aq [] w w'∧a6.heap.size≤w'.heap.size∧fb w.heap.size w.heap.size w' (.slice x.2.2.1 x.2.1.length x.2.2.2) x.2.1∧(x.1≤ps.length)∧(x.2.1.length≤3*x.1)∧(x.2.1=(ps.take x.1).flatMap (gi at_))) (fun x=>ps.length-x.1) (0,[],none,0) ⟨N,lr,(aN.nil w.heap.size _ _ (eJ w.heap.size) _),(by(try dsimp only);omega),(by(try dsimp only);exact Nat.le_refl _),rfl⟩ ?_
 rintro⟨k,Lc,B,cq⟩ bo ⟨q,bp,bq,br,bs,bt⟩
 refine fZ [(0,.int .u8 fr),(2,.slice A ps.length cpA),(3,.int .u8 at_),(8,.bool false),(9,.bool true),(11,.int .i64 0),(12,.slice B Lc.length cq),(13,.int .i64 ((k:Nat) : Int))] ?_
 have H:fb w.heap.size w.heap.size bo (.slice B Lc.length cq) Lc:=bq
 have cm:k≤ps.length:=br
 have cn:Lc.length≤3*k:=bs
 have ar:Lc=(ps.take k).flatMap (gi at_):=bt
 refine sq<|sg<|Pl 4<|nt<|cb ((decide (((k:Nat) : Int)<((ps.length:Nat) : Int)))) (fun Y=>?_) (fun Y=>?_)
 have bu:=of_decide_eq_true Y
 refine bD<|sq<|bk<|sg<|Pl 2<|ow (gf.elt hA k (by omega)) fun aw ax co cp cr r g aA aB aC cs I=>?_
 have hpart:=fO (ps:=ps) (k:=k) (by omega)
 refine L0<|ji 2 ps.length k aA (by omega)<|Pl 1<|?_
 have aD:=ub q aB
 refine L0<|iX (p:=⟨aw,ax+k*2+0,none⟩) (v:=.slice r ((ps.getD k Pc.z).bytes.length) g) (cy aD I 0 rfl (by decide))<|Pl 1<|ng<|Pl 1<|L0<|Oi at_<|Pl 2<|L0<|Oi ((((ps.getD k Pc.z).bytes.length:Nat) : Int)+1)<|?_
 have ct:=mF (x:=at_) (y:=((((ps.getD k Pc.z).bytes.length:Nat) : Int)+1)) (by omega)
 refine L0<|fN (.int .i64 (at_%((((ps.getD k Pc.z).bytes.length:Nat) : Int)+1))) (mE rfl (by kernel_rfl) (by kernel_rfl) (by omega) (by omega))<|Pl 1<|nt<|Rg 18 (fun w'=>w'.cell? ⟨aw,ax+k*2+1,none⟩=some (.bool ((ps.getD k Pc.z).tick))) fun cv Z=>?_
 have aF:=ub Z aD
 refine b9 (cy aF I 1 rfl (by decide)) fun b=>Rt 0 b<|Rt 1 b<|Rt 2 b<|kV (mv (P:=Tryz.prog) 27 5 1 Tryz.underlying27 rfl rfl r ((ps.getD k Pc.z).bytes.length) g (k:=(at_%((((ps.getD k Pc.z).bytes.length:Nat) : Int)+1))) (((at_%((((ps.getD k Pc.z).bytes.length:Nat) : Int)+1))).toNat) (by omega) (by omega) (by omega)) fun aH hrun228 bv=>Rr 3 b (.slice aH (((at_%((((ps.getD k Pc.z).bytes.length:Nat) : Int)+1))).toNat) g) (fun _ _=>fq (kl:=.i64) (k:=(at_%((((ps.getD k Pc.z).bytes.length:Nat) : Int)+1))) (A:=r) (n:=(ps.getD k Pc.z).bytes.length) (c:=g) rfl Tryz.underlying27 (by kernel_rfl) (by kernel_rfl) (hrun228 _ _))<|Rt 4 b<|Rt 5 b<|Rt 6 b<|Rt 7 b<|kV (eK (P:=Tryz.prog) 27 5 1 Tryz.underlying27 rfl rfl r ((ps.getD k Pc.z).bytes.length) g (lo:=(at_%((((ps.getD k Pc.z).bytes.length:Nat) : Int)+1))) (((at_%((((ps.getD k Pc.z).bytes.length:Nat) : Int)+1))).toNat) (by omega) (by omega)) fun aI hrun231 bw=>Rr 8 b (.slice aI (((ps.getD k Pc.z).bytes.length)-(((at_%((((ps.getD k Pc.z).bytes.length:Nat) : Int)+1))).toNat)) (g-(((at_%((((ps.getD k Pc.z).bytes.length:Nat) : Int)+1))).toNat))) (fun _ _=>cV (kl:=.i64) (k:=(at_%((((ps.getD k Pc.z).bytes.length:Nat) : Int)+1))) (A:=r) (n:=(ps.getD k Pc.z).bytes.length) (c:=g) rfl Tryz.underlying27 (by kernel_rfl) (by kernel_rfl) (hrun231 _ _))<|Rt 9 b<|Rt 10 b<|?_
 refine Ri 11 b 2 ps.length k ((k:Nat) : Int) rfl aA (by omega)<|Rt 12 b<|Rl 13 b (fun _ hs=>hs)<|Rt 14 b<|R0 15 rfl<|eS (m:=3) (e:=53) #[.slice aH (((at_%((((ps.getD k Pc.z).bytes.length:Nat) : Int)+1))).toNat) g,.bool false,.slice none 0 0,.bool false,.slice aI (((ps.getD k Pc.z).bytes.length)-(((at_%((((ps.getD k Pc.z).bytes.length:Nat) : Int)+1))).toNat)) (g-(((at_%((((ps.getD k Pc.z).bytes.length:Nat) : Int)+1))).toNat)),.bool ((ps.getD k Pc.z).tick)] fun cw cx bz bA a0=>?_
 have a1:=aE Z a0
 have J:=aE q a1
 have bB:=rU (n:=w.heap.size) (p0:=(Pc.mk (((ps.getD k Pc.z).bytes).take (((at_%((((ps.getD k Pc.z).bytes.length:Nat) : Int)+1))).toNat)) false)) (p1:=(Pc.mk [] false)) (p2:=(Pc.mk (((ps.getD k Pc.z).bytes).drop (((at_%((((ps.getD k Pc.z).bytes.length:Nat) : Int)+1))).toNat)) ((ps.getD k Pc.z).tick))) bz bA (⟨_,rfl,gc.upd J (fun x hx=>by cases hx) (gc.of ((bv _ _ _ _ _ aC)))⟩) (⟨_,rfl,gc.nil⟩) (⟨_,rfl,gc.upd J (fun x hx=>by cases hx) (gc.of ((bw _ _ _ _ _ aC)))⟩)
 have aJ:=ub a0 aF
 refine b9 (cy aJ I 1 rfl (by decide)) fun cz=>?_
 have aK:=am H a1 (fun x hx=>ay) (eJ.upd a1 (fun x hx=>by cases hx))
 refine R0 16 rfl<|ff (xs:=Lc) (ys:=([Pc.mk (((ps.getD k Pc.z).bytes).take (((at_%((((ps.getD k Pc.z).bytes.length:Nat) : Int)+1))).toNat)) false,Pc.mk [] false,Pc.mk (((ps.getD k Pc.z).bytes).drop (((at_%((((ps.getD k Pc.z).bytes.length:Nat) : Int)+1))).toNat)) ((ps.getD k Pc.z).tick)])) (.agg #[.slice none 0 0,.bool false]) 2 32 aK (bB).rd eJ.ones (fun w' hv=>eJ.upd hv (au (fun x hx=>Nat.le_trans lr (dU aK x hx)) av)) (by(try simp only[List.length_append,List.length_cons,List.length_nil,aS]);omega) J.size fun bC bE cA bF a2 cB=>?_
 refine b9 (cy (aq.blk a2 (aM (ap (aj aB) lr H) ay) aJ) I 1 rfl (by decide)) fun bG=>Rt 17 bG<|re<|bn<|tn<|go<|Pl 1<|L0<|Oi (((k:Nat) : Int)+1)<|Pl 1<|nl<|?_
 exact dY ((k+1),(Lc++[Pc.mk (((ps.getD k Pc.z).bytes).take (((at_%((((ps.getD k Pc.z).bytes.length:Nat) : Int)+1))).toNat)) false,Pc.mk [] false,Pc.mk (((ps.getD k Pc.z).bytes).drop (((at_%((((ps.getD k Pc.z).bytes.length:Nat) : Int)+1))).toNat)) ((ps.getD k Pc.z).tick)]),bC,bE) ⟨(ut J a2 (au (bH H lr) av)),(le (le (le bp Z.size) a0.size) a2.size),bF,(by(try dsimp only);omega),(by(try dsimp only);simp only[List.length_append,List.length_cons,List.length_nil];omega),(by(try dsimp only);exact iD (f:=gi at_) (by omega) ar)⟩ (by omega)
 have bu:=of_decide_eq_false Y
 refine xt<|tx<|tx<|bx<|tn<|sg<|Pl 1<|L0<|Oe (.int .u8 (Int.tmod fr 3)) (.int .u8 (fr%3)) (congrArg (Value.int .u8) (Int.tmod_eq_emod_of_nonneg (by omega)))<|L0<|Oi (fr%3)<|Pl 2<|L0<|Oc<|e2 (fx (RdPn.old (gf.n hA) q) q.size (by omega)) fun cC cD bI bJ=>?_
 have aL:=fb.any bI
 obtain⟨bK,bL,rfl,cE,cF⟩:=aG.shape aL
 refine pr (XS.run (XS.zero (fr%3) 0) ps) fun L s aO=>?_
 refine L0<|Oc (args:=#[.int .i64 (fr%3),.int .i64 0,.slice bK ps.length bL])<|pu (dR aO (mL _) (show 0=0∨0=1 by decide) aL (by omega) (by omega)) fun cG cH cI bM cJ cK bN=>Pl 5<|ng<|Pl 1<|L0<|Oe (.int .u8 (Int.tmod fr 3)) (.int .u8 (fr%3)) (congrArg (Value.int .u8) (Int.tmod_eq_emod_of_nonneg (by omega)))<|L0<|Oi (fr%3)<|Pl 2<|?_
 refine pr (XS.run (XS.zero (fr%3) 0) Lc) fun M t aP=>?_
 have hLc:Lc=ps.flatMap (gi at_):=by rw[ar,List.take_of_length_le (by omega)]
 have a3:=aE bJ bN
 refine L0<|Oc (args:=#[.int .i64 (fr%3),.int .i64 0,.slice B Lc.length cq])<|pu (dR aP (mL _) (show 0=0∨0=1 by decide) (fb.any (am H a3 (fun x hx=>ay) (eJ.upd a3 (fun x hx=>by cases hx)))) (by omega) (by rw[hLc,gR (km at_)];omega)) fun cL cM cN bO cO cP a4=>Pl 5<|ng<|Pl 4<|?_
 refine L1<|Oc<|m1 (iK (xs:=s) (ys:=t) ((am bM a4 (fun x hx=>ay) (kz.upd a4 az))).rd (bO).rd) fun cQ bP=>Pl 2<|cu 4 [86] 90 (((decide (s=t))&&(((L.held.length:Nat) : Int)==((M.held.length:Nat) : Int)))) (fun K aQ=>?_) ?_
 refine bl 86 ((decide (s=t))) (fun u=>?_) (fun u=>?_)
 have bQ:=of_decide_eq_true u
 exact Pl 4<|ce aQ (((L.held.length:Nat) : Int)==((M.held.length:Nat) : Int)) (by rw[u];rfl)
 have bQ:=of_decide_eq_false u
 exact Pl 4<|ce aQ false (by rw[u];rfl)
 refine Pl 1<|nt<|rt<|rr (.bool ((decide (s=t))&&(((L.held.length:Nat) : Int)==((M.held.length:Nat) : Int))))<|?_
 have hs:((decide (s=t))&&(((L.held.length:Nat) : Int)==((M.held.length:Nat) : Int)))=true:=by have z:=aP;rw[hLc,hM (jY at_),aO] at z;injection z with z1 z2;rw[z1,z2];simp
 rw[hs]
 exact⟨rfl,(aE q (aE a3 (aE a4 bP)))⟩
theorem gN{w:World}{fr at_:Int}{ans:Bool}(hfr:0≤fr∧fr<256)(hat:0≤at_∧at_<256){mA:Bool}{v:Value}{ps:List Pc}(hA:gf mA w v ps)(hpb:∀ p,p∈ps→p.bytes.length≤140737488355328)(hpl:ps.length≤4398046511104) : Calls Tryz.prog 7 #[.int .u8 fr,.bool ans,v,.int .u8 at_] w (bg (.bool true) w):=by
  obtain⟨A0,cp0,rfl,_,_⟩:=hA.shape
  exact i9 (ans:=ans) (hfr:=hfr) (hat:=hat) hA hpb hpl
open Go.RowKit
section
variable {H:Type}{enc:TypeId × Value→H}{P:Program}{w:World}{base:Nat}{spare:Nat→Bool}{held:Bool}
theorem kx(b off:Nat)(sp:Option Nat)(n:Nat)(h:sp=none) : (⟨b,off,sp⟩ : Addr).add n=⟨b,off+n,none⟩:=fc b off n sp h
theorem nU{b off:Nat}{sp:Option Nat}{v:Value}(h:w.cell? ⟨b,off,sp⟩=some v) : sp=none:=by
  cases sp with
  | none=>rfl
  | some s =>
    unfold World.cell? at h
    simp at h
    split at h<;>cases h
theorem jP{α:Type}{Pd:DataW H→Prop}{R:World→α→List Value→Prop}{t e:TypeId}{sz fuel:Nat}{cs:List Value}{x:DataW H × List MemPlace}(ht:P.underlying t=some (.slice e))(hsz:P.cellsOf e=sz)(hp:0<sz)
    (hel:∀ n cs' y,cs'.length=sz→DataW.trod enc P w base spare held n e cs'=some y→Pd y.1→∃ x,R w x cs') (hP:∀ elems spare,x.1 = .slice elems spare→∀ d,d∈elems→Pd d) (h:DataW.trod enc P w base spare held fuel t cs=some x) : ∃ v xs,cs=[v]∧aG false e sz R w v xs:=by
  rcases Go.Deep.open_slice ht h with⟨rfl,_⟩|⟨a,len,cap,m,n,D,Pl,rfl,_,hl,hm,hmm,hxe,hx⟩
  · exact⟨_,[],rfl,aG.nil ..⟩
  have hlm:len≤m:=by rw[hmm];split<;>omega
  have key:∀ i:Fin len,∃ y:α × List Value,w.cells? base (a.add (i*sz)) sz=some y.2∧y.2.length=sz∧R w y.1 y.2:=fun i=>by
    obtain⟨cs',h1,h2⟩:=hx i (by omega)
    rw[hsz] at h1
    obtain⟨_,hlen,_⟩:=World.cells?_some h1
    obtain⟨y,hy⟩:=hel n cs' _ hlen h2 (hP _ _ (by rw[hxe]) _ (List.mem_map.2 ⟨i.1,List.mem_range.2 i.2,rfl⟩))
    exact⟨(y,cs'),h1,hlen,hy⟩
  obtain⟨f,hf⟩:=Classical.axiomOfChoice key
  refine⟨_,List.ofFn fun i=>(f i).1,rfl,some a,cap,by simp,by simpa using hl,hm,(fun h=>by cases h),fun hpos=>?_⟩
  have hpos':0<len:=by simpa using hpos
  obtain⟨b,off,sp⟩:=a
  have hsp:sp=none:=by
    obtain⟨h1,h2,_⟩:=hf ⟨0,hpos'⟩
    obtain⟨_,_,h3⟩:=World.cells?_some h1
    have h4:=h3 0 hp
    rw[List.getElem?_eq_getElem (by omega)] at h4
    cases sp with
    | none=>rfl
    | some s =>
      simp[Addr.add] at h4
      exact nU h4
  subst hsp
  have hc:∀ i:Fin len,∀ k u,(f i).2[k]? = some u→w.cell? ⟨b,off+i*sz+k,none⟩=some u:=fun i k u hu=>by
    obtain⟨h1,h2,_⟩:=hf i
    obtain⟨_,_,h3⟩:=World.cells?_some h1
    have hk:k<sz:=by have:=(List.getElem?_eq_some_iff.1 hu).1;omega
    have h4:=h3 k hk
    rw[kx _ _ _ _ rfl,kx _ _ _ _ rfl] at h4
    rw[h4,hu]
  have h0:∃ u,w.cell? ⟨b,off+0*sz+0,none⟩=some u:=by
    obtain⟨_,h2,_⟩:=hf ⟨0,hpos'⟩
    exact⟨_,hc ⟨0,hpos'⟩ 0 _ (List.getElem?_eq_getElem (by omega))⟩
  obtain⟨u,hu⟩:=h0
  unfold World.cell? at hu
  split at hu
  · rename_i cells t' fr hb
    refine⟨b,off,cells,t',fr,rfl,hb,fun h=>(by cases h),fun j y hj=>?_⟩
    have hjl:j<len:=by have:=(List.getElem?_eq_some_iff.1 hj).1;simpa using this
    have hy:(f ⟨j,hjl⟩).1=y:=by
      rw[List.getElem?_ofFn] at hj
      simpa [hjl] using hj
    obtain⟨_,h2,h3⟩:=hf ⟨j,hjl⟩
    refine⟨(f ⟨j,hjl⟩).2,h2,by rw[← hy];exact h3,fun i u hi=>?_⟩
    have:=hc ⟨j,hjl⟩ i u hi
    rw[bG hb] at this
    exact this
  · cases hu
theorem rh{α:Type}{R:World→α→List Value→Prop}{t e:TypeId}{sz fuel:Nat}{cs:List Value}{x:DataW H × List MemPlace}(ht:P.underlying t=some (.slice e))(hsz:P.cellsOf e=sz)(hp:0<sz)
    (hel:∀ n cs' y,cs'.length=sz→DataW.trod enc P w base spare held n e cs'=some y→∃ x,R w x cs') (h:DataW.trod enc P w base spare held fuel t cs=some x) : ∃ v xs,cs=[v]∧aG false e sz R w v xs :=
  jP (Pd:=fun _=>True) ht hsz hp (fun n cs' y h1 h2 _=>hel n cs' y h1 h2) (fun _ _ _ _ _=>trivial) h
end
section
variable {H:Type}{enc:TypeId × Value→H}{w:World}{base:Nat}{spare:Nat→Bool}{held:Bool}{n:Nat}{y:DataW H × List MemPlace}
theorem tR{cs:List Value}(h:DataW.trod enc Tryz.prog w base spare held n 5 cs=some y) : ∃ x,kO w x cs:=by
  obtain⟨k,rfl,_,hw⟩:=DataW.trod_int Tryz.underlying5 h
  exact⟨k,rfl,nq hw⟩
theorem rG{cs:List Value}(h:DataW.trod enc Tryz.prog w base spare held n 4 cs=some y) : ∃ x,mw w x cs:=by
  obtain⟨k,rfl,_⟩:=DataW.trod_bool Tryz.underlying4 h
  exact⟨k,rfl⟩
theorem tD{cs:List Value}(h:DataW.trod enc Tryz.prog w base spare held n 27 cs=some y) : ∃ v xs,cs=[v]∧aL false w v xs:=rh Tryz.underlying27 (by kernel_rfl) (by decide) (fun _ _ _ _ h=>tR h) h
end
open Go.RowKit
theorem tB{cs:List Value}{o:Nat}{v:Value}(h:(cs.drop o).take 1=[v]) : cs.drop o=v :: cs.drop (o+1):=by
  cases hd:cs.drop o with
  | nil=>rw[hd] at h;cases h
  | cons a l =>
    rw[hd] at h
    have h1:a=v:=by simpa using h
    rw[h1,← List.drop_drop,hd]
    rfl
theorem pS{cs:List Value}{n:Nat}(h:cs.length=n) : cs.drop n=[]:=by rw[← h];simp
section
variable {H:Type}{enc:TypeId × Value→H}{w:World}{base:Nat}{spare:Nat→Bool}{held:Bool}{n:Nat}{y:DataW H × List MemPlace}
end
end Go.Proofs.YtpglhicfhppaiaaGreat
namespace Go.Proofs.YtpglhicfhppaiaaGreat
open Go.WideShapes
def vZ (w:World)(b:List Int)(cs:List Value) : Prop:=∃ v,cs=[v]∧aL false w v b∧b.length≤140737488355328
section
variable {H:Type}{enc:TypeId × Value→H}{w:World}{base:Nat}{spare:Nat→Bool}{held:Bool}{n:Nat}{y:DataW H × List MemPlace}
theorem sR{cs:List Value}(h:DataW.trod enc Tryz.prog w base spare held n 27 cs=some y)(hp:∀ e2 s2,y.1 = .slice e2 s2→e2.length≤140737488355328) : ∃ b,vZ w b cs:=by
  obtain⟨v,xs,hc,hr⟩:=tD h
  refine⟨xs,v,hc,hr,?_⟩
  obtain⟨A,c,hv,_,_⟩:=hr.shape
  rcases DataW.trod_slice Tryz.underlying27 h with⟨h1,_⟩|⟨a,len,cap,elems,rest,m,_,h1,h2,_,_,_,h3,_⟩
  · rw[hc] at h1
    simp only[List.cons.injEq,and_true] at h1
    rw[h1] at hv
    injection hv with _ h4 _
    omega
  · rw[hc] at h1
    simp only[List.cons.injEq,and_true] at h1
    rw[h1] at hv
    injection hv with _ h4 _
    have:=hp _ _ (by rw[h2])
    rw[List.length_map] at this
    omega
end
theorem eA{H:Type}{P:Program}{e:TypeId}{d:DataW H}{k:Nat}(hk:k∈d.weights P e) : ∀ {l:List (DataW H)},d∈l→k∈DataW.weightsAll P e l
  | [],h=>by cases h
  | x :: r,h=>by
    simp only[DataW.weightsAll,List.mem_append]
    rcases List.mem_cons.1 h with rfl|h
    · exact .inl hk
    · exact .inr (eA hk h)
end Go.Proofs.YtpglhicfhppaiaaGreat
namespace Go.Proofs.YtpglhicfhppaiaaGreat
open Go.WideShapes
theorem aG.ety{α:Type}{e e':TypeId}{sz:Nat}{R:World→α→List Value→Prop}{w:World}{v:Value}{xs:List α}(h:aG false e sz R w v xs) : aG false e' sz R w v xs:=by
  obtain⟨A,c,hv,h1,h2,h0,h3⟩:=h
  exact⟨A,c,hv,h1,h2,h0,fun hp=>by
    obtain⟨b,off,cells,t,fr,hA,hb,_,hx⟩:=h3 hp
    exact⟨b,off,cells,t,fr,hA,hb,(fun e=>by cases e),hx⟩⟩
def vn (w:World)(p:Pc)(cs:List Value) : Prop:=∃ v,cs=[v,.bool p.tick]∧aL false w v p.bytes∧p.bytes.length≤140737488355328
section
variable {H:Type}{enc:TypeId × Value→H}{w:World}{base:Nat}{spare:Nat→Bool}{held:Bool}{n:Nat}{y:DataW H × List MemPlace}
theorem qY{cs:List Value}(h:DataW.trod enc Tryz.prog w base spare held n 52 cs=some y)(hp:∀ l,y.1 = .agg l→∀ e2 s2,l[0]? = some (.slice e2 s2)→e2.length≤140737488355328) : ∃ p,vn w p cs:=by
  obtain⟨xs,m,rfl,hy,hlen,hxs,hf⟩:=DataW.trod_struct Tryz.underlying52 h
  rw[show Tryz.prog.cellsOf 52=2 from by kernel_rfl] at hlen
  replace hxs:xs.length=2:=hxs.trans (by kernel_rfl)
  obtain⟨y0,g0⟩ : ∃ y,xs[0]? = some y:=⟨_,List.getElem?_eq_getElem (show 0<xs.length by omega)⟩
  have f0:DataW.trod enc Tryz.prog w base spare held m 27 ((cs.drop 0).take (Tryz.prog.cellsOf 27))=xs[0]?:=hf 0 _ rfl
  rw[g0] at f0
  rw[show Tryz.prog.cellsOf 27=1 from by kernel_rfl] at f0
  obtain⟨b,v,e0,r0,r1⟩:=sR f0 fun e2 s2 he=>hp _ (by rw[hy]) e2 s2 (by rw[List.getElem?_map,g0];exact congrArg some he)
  obtain⟨y1,g1⟩ : ∃ y,xs[1]? = some y:=⟨_,List.getElem?_eq_getElem (show 1<xs.length by omega)⟩
  have f1:DataW.trod enc Tryz.prog w base spare held m 4 ((cs.drop 1).take (Tryz.prog.cellsOf 4))=xs[1]?:=hf 1 _ rfl
  rw[g1] at f1
  rw[show Tryz.prog.cellsOf 4=1 from by kernel_rfl] at f1
  obtain⟨t,e1⟩:=rG f1
  have e1:(cs.drop 1).take 1=[.bool t]:=e1
  have hcs:cs=[v,.bool t]:=by
    show cs.drop 0=_
    rw[tB e0,tB e1,pS hlen]
  exact⟨⟨b,t⟩,v,hcs,r0,r1⟩
theorem ri{cs:List Value}(h:DataW.trod enc Tryz.prog w base spare held n 48 cs=some y)(hp:∀ elems sp,y.1 = .slice elems sp→(∀ d,d∈elems→∀ l,d = .agg l→∀ e2 s2,l[0]? = some (.slice e2 s2)→e2.length≤140737488355328)∧elems.length≤4398046511104) :
    ∃ v ps,cs=[v]∧gf false w v ps∧(∀ p,p∈ps→p.bytes.length≤140737488355328)∧ps.length≤4398046511104:=by
  obtain⟨v,xs,hc,hr⟩:=jP (R:=vn) (sz:=2) (Pd:=fun d=>∀ l,d = .agg l→∀ e2 s2,l[0]? = some (.slice e2 s2)→e2.length≤140737488355328) Tryz.underlying48 (by kernel_rfl) (by decide) (fun _ _ _ _ h hp=>qY h hp) (fun elems sp he=>(hp elems sp he).1) h
  refine⟨v,xs,hc,aG.ety (aG.any (R':=vt false) hr (fun _ _ ⟨v,h1,h2,_⟩=>⟨v,h1,h2⟩)),fun x hx=>?_,?_⟩
  · obtain⟨A,c,rfl,_,_⟩:=hr.shape
    obtain⟨j,hj⟩:=List.getElem?_of_mem hx
    have hl:=(List.getElem?_eq_some_iff.1 hj).1
    obtain⟨_,_,_,_,_,_,_,_,_,⟨_,_,_,h4⟩,_⟩:=aG.elt hr Pc.z j hl
    rw[List.getD_eq_getElem?_getD,hj] at h4
    exact h4
  · obtain⟨A,c,hv,_,_⟩:=hr.shape
    rcases DataW.trod_slice Tryz.underlying48 h with⟨h1,_⟩|⟨a,len,cap,elems,rest,m,_,h1,h2,_,_,_,h3,_⟩
    · rw[hc] at h1
      simp only[List.cons.injEq,and_true] at h1
      rw[h1] at hv
      injection hv with _ h4 _
      omega
    · rw[hc] at h1
      simp only[List.cons.injEq,and_true] at h1
      rw[h1] at hv
      injection hv with _ h4 _
      have:=(hp _ _ (by rw[h2])).2
      rw[List.length_map] at this
      omega
end
theorem r7{H:Type}{ts:List TypeId}{ds:List (DataW H)}(h:(DataW.weightsEach Tryz.prog ts ds).all (·≤reachBytes)=true){j:Nat}{d:DataW H}(ht:ts[j]? = some 48)(hd:ds[j]? = some d) :
    ∀ elems sp,d = .slice elems sp→(∀ d2,d2∈elems→∀ l,d2 = .agg l→∀ e2 s2,l[0]? = some (.slice e2 s2)→e2.length≤140737488355328)∧elems.length≤4398046511104:=by
  rintro elems sp rfl
  refine⟨?_,?_⟩
  · rintro d2 hm l rfl e2 s2 h3
    obtain⟨r,rfl⟩ : ∃ r,l = .slice e2 s2 :: r:=by
      cases l with
      | nil=>cases h3
      | cons x r=>exact⟨r,by rw[List.getElem?_cons_zero] at h3;injection h3 with h3;rw[h3]⟩
    have hw:(e2.length+s2.length)*Tryz.prog.bytesOf 5∈(DataW.slice elems sp).weights Tryz.prog 48:=by
      simp only[DataW.weights,Tryz.underlying48,List.mem_cons,List.mem_append]
      refine .inr (.inl (eA ?_ hm))
      simp only[DataW.weights,Tryz.underlying52,List.map_cons,List.map_nil,DataW.weightsEach,List.mem_append]
      refine .inl ?_
      simp only[DataW.weights,Tryz.underlying27,List.mem_cons]
      exact .inl trivial
    have h2:=List.all_eq_true.1 h _ (DataW.weights_mem_each ht hd _ hw)
    have h3:(e2.length+s2.length)*Tryz.prog.bytesOf 5≤reachBytes:=by simpa using h2
    rw[show Tryz.prog.bytesOf 5=1 from by kernel_rfl] at h3
    have h4:reachBytes<2 ^ 47:=reachBytes_lt
    omega
  · have h2:=sized_slice h ht hd Tryz.underlying48
    rw[show Tryz.prog.bytesOf 52=32 from by kernel_rfl] at h2
    have h4:reachBytes<2 ^ 47:=reachBytes_lt
    omega
end Go.Proofs.YtpglhicfhppaiaaGreat
