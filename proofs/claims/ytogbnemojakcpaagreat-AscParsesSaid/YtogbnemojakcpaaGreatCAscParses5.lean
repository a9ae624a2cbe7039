/- Contracts of functions, part CAscParses5. -/
import Derived.Test.YtogbnemojakcpaaGreatCAscParses1
import Derived.Test.YtogbnemojakcpaaGreatCAscParses2
import Derived.Test.YtogbnemojakcpaaGreatCAscParses3
import Derived.Test.YtogbnemojakcpaaGreatCAscParses4
set_option linter.unusedVariables false
set_option linter.unusedSimpArgs false
set_option maxRecDepth 100000
set_option maxHeartbeats 4000000
namespace Go.Proofs.YtogbnemojakcpaaGreat
open Go.RowKit
theorem oV{α:Type}{xs ys:List α}{d:α}{k:Nat}(h:xs.take k=ys.take k)(hk:k<xs.length)(hl:xs.length=ys.length)(he:xs.getD k d=ys.getD k d) : xs.take (k+1)=ys.take (k+1):=by
  have hk2:k<ys.length:=by omega
  rw[List.take_succ_eq_append_getElem hk,List.take_succ_eq_append_getElem hk2,h]
  rw[List.getD_eq_getElem?_getD,List.getElem?_eq_getElem hk,List.getD_eq_getElem?_getD,List.getElem?_eq_getElem (by omega)] at he
  simp only[Option.getD_some] at he
  rw[he]
theorem ve{a b:dl}(h:((((!(decide (a.words=b.words)))||(a.file != b.file))||(a.record != b.record))||(a.count != b.count))=false) : a=b:=by
  cases a
  cases b
  simp at h
  simp[h]
theorem uH{a b:Obj}(h:((!(decide (a.value=b.value)))||(a.id != b.id))=false) : a=b:=by
  cases a
  cases b
  simp at h
  simp[h]
theorem sY{a b:Obj}(h:(!(decide (a.value=b.value)))=false)(h2:(a.id != b.id)=false) : a=b:=uH (by rw[h,h2];rfl)
theorem kO{A B:aP}{f:aP→aP→Bool}(h:f A B=true)(hf:∀ M,f M M=false) : decide (A=B)=false:=decide_eq_false fun e=>by rw[e,hf] at h;cases h
theorem tX{A B:aP}(h1:((((((((((((A.code != B.code)||(A.fail != B.fail))||(A.addr != B.addr))||(A.count != B.count))||(A.value != B.value))||(A.and_ != B.and_))||(A.or_ != B.or_))||(A.addr2 != B.addr2))||(A.sub != B.sub))||(A.status != B.status))||(A.events != B.events))||(A.messages != B.messages))=false)(h2:(((((A.mei != B.mei)||(A.kind != B.kind))||(A.level != B.level))||(A.more != B.more))||(A.next != B.next))=false)(h3:(((((!(decide (A.words=B.words)))||(!(decide (A.bits=B.bits))))||(!(decide (A.data=B.data))))||(((A.recs.length:Nat) : Int)!=((B.recs.length:Nat) : Int)))||(((A.objects.length:Nat) : Int)!=((B.objects.length:Nat) : Int)))=false)(hr:A.recs.length=B.recs.length→A.recs=B.recs)(ho:A.objects.length=B.objects.length→A.objects=B.objects) : A=B:=by
  cases A
  cases B
  simp only[Bool.or_eq_false_iff,bne_eq_false_iff_eq,Bool.not_eq_false',decide_eq_true_eq] at h1 h2 h3
  simp only at hr ho
  obtain⟨⟨⟨⟨⟨⟨⟨⟨⟨⟨⟨a1,a2⟩,a3⟩,a4⟩,a5⟩,a6⟩,a7⟩,a8⟩,a9⟩,a⟩,b⟩,c⟩:=h1
  obtain⟨⟨⟨⟨b1,b2⟩,b3⟩,b4⟩,b5⟩:=h2
  obtain⟨⟨⟨⟨d1,d2⟩,d3⟩,d4⟩,d5⟩:=h3
  have d4:=hr (by omega)
  have d5:=ho (by omega)
  subst a1 a2 a3 a4 a5 a6 a7 a8 a9 a b c b1 b2 b3 b4 b5 d1 d2 d3 d4 d5
  rfl
theorem pp{m m':Md}{pc qc:Array Value}{A B:aP}{w:World}(ha:aW m w pc.toList A)(hb:aW m' w qc.toList B) :
    Calls Tryz.prog 26 #[.agg pc,.agg qc] w (cL (.bool (decide (A=B))) w):=by
 have pM:=ha
 obtain⟨pvw,pvb,pvd,pvr,pvo,ph0,phw,phb,phd,phr,pho,pR⟩:=ha
 obtain rfl:pc=(bQ A pvw pvb pvd pvr pvo).toArray:=by apply Array.toList_inj.1;simpa using ph0
 clear ph0
 obtain⟨pw,pkw,rfl,_,_⟩:=phw.shape
 obtain⟨pb,pkb,rfl,_,_⟩:=phb.shape
 obtain⟨pd,pkd,rfl,_,_⟩:=phd.shape
 obtain⟨pr,pkr,rfl,_,_⟩:=phr.shape
 obtain⟨po,pko,rfl,_,_⟩:=pho.shape
 have qM:=hb
 obtain⟨qvw,qvb,qvd,qvr,qvo,qh0,qhw,qhb,qhd,qhr,qho,qR⟩:=hb
 obtain rfl:qc=(bQ B qvw qvb qvd qvr qvo).toArray:=by apply Array.toList_inj.1;simpa using qh0
 clear qh0
 obtain⟨qw,qkw,rfl,_,_⟩:=qhw.shape
 obtain⟨qb,qkb,rfl,_,_⟩:=qhb.shape
 obtain⟨qd,qkd,rfl,_,_⟩:=qhd.shape
 obtain⟨qr,qkr,rfl,_,_⟩:=qhr.shape
 obtain⟨qo,qko,rfl,_,_⟩:=qho.shape
 have hz1:=aK.len phr
 have hz2:=aK.len pho
 refine en 254 Tryz.func26 rfl<|sg<|L0<|dz (mG A.code A.fail A.addr A.count A.value A.and_ A.or_ A.addr2 A.sub A.status A.events A.messages (.slice pw A.words.length pkw) (.slice pb A.bits.length pkb) (.slice pd A.data.length pkd) (.slice pr A.recs.length pkr) A.mei A.kind A.level A.more A.next (.slice po A.objects.length pko)) fun i dJ dK cf cg=>L0<|dz (mG B.code B.fail B.addr B.count B.value B.and_ B.or_ B.addr2 B.sub B.status B.events B.messages (.slice qw B.words.length qkw) (.slice qb B.bits.length qkb) (.slice qd B.data.length qkd) (.slice qr B.recs.length qkr) B.mei B.kind B.level B.more B.next (.slice qo B.objects.length qko)) fun l dL dM b az=>Pl 1<|nt<|sq<|sg<|Pl 1<|?_
 have c:=ub az cf
 refine L0<|aR c 0<|Pl 1<|L0<|aR b 0<|Pl 2<|cu 6 [19] 25 (((A.code != B.code)||(A.fail != B.fail))) (fun K aA=>?_) ?_
 refine bl 19 ((A.code != B.code)) (fun q=>?_) (fun q=>?_)
 have ch:=au q
 exact Pl 6<|ce aA true (by rw[q];rfl)
 have ch:=ai q
 exact Pl 1<|L1<|aR c 1<|Pl 1<|L1<|aR b 1<|Pl 2<|ce aA (A.fail != B.fail) (by rw[q];rfl)
 refine Pl 1<|cu 6 [26] 32 ((((A.code != B.code)||(A.fail != B.fail))||(A.addr != B.addr))) (fun K aB=>?_) ?_
 refine bl 26 (((A.code != B.code)||(A.fail != B.fail))) (fun r=>?_) (fun r=>?_)
 exact Pl 6<|ce aB true (by rw[r];rfl)
 have ci:=(aJ r).1
 have cj:=(aJ r).2
 have dO:=ai ci
 have dP:=ai cj
 exact Pl 1<|L1<|aR c 2<|Pl 1<|L1<|aR b 2<|Pl 2<|ce aB (A.addr != B.addr) (by rw[r];rfl)
 refine Pl 1<|cu 6 [33] 39 (((((A.code != B.code)||(A.fail != B.fail))||(A.addr != B.addr))||(A.count != B.count))) (fun K aC=>?_) ?_
 refine bl 33 ((((A.code != B.code)||(A.fail != B.fail))||(A.addr != B.addr))) (fun s=>?_) (fun s=>?_)
 exact Pl 6<|ce aC true (by rw[s];rfl)
 have aE:=(aJ s).1
 have ck:=(aJ s).2
 have cl:=(aJ aE).1
 have cm:=(aJ aE).2
 have q25aap:=ai cl
 have q25abp:=ai cm
 have dQ:=ai ck
 exact Pl 1<|L1<|aR c 3<|Pl 1<|L1<|aR b 3<|Pl 2<|ce aC (A.count != B.count) (by rw[s];rfl)
 refine Pl 1<|cu 6 [40] 46 ((((((A.code != B.code)||(A.fail != B.fail))||(A.addr != B.addr))||(A.count != B.count))||(A.value != B.value))) (fun K aF=>?_) ?_
 refine bl 40 (((((A.code != B.code)||(A.fail != B.fail))||(A.addr != B.addr))||(A.count != B.count))) (fun t=>?_) (fun t=>?_)
 exact Pl 6<|ce aF true (by rw[t];rfl)
 have aG:=(aJ t).1
 have cn:=(aJ t).2
 have aI:=(aJ aG).1
 have co:=(aJ aG).2
 have q27aaa:=(aJ aI).1
 have q27aab:=(aJ aI).2
 have q27aaap:=ai q27aaa
 have q27aabp:=ai q27aab
 have q27abp:=ai co
 have dR:=ai cn
 exact Pl 1<|L1<|aR c 4<|Pl 1<|L1<|aR b 4<|Pl 2<|ce aF (A.value != B.value) (by rw[t];rfl)
 refine Pl 1<|cu 6 [47] 53 (((((((A.code != B.code)||(A.fail != B.fail))||(A.addr != B.addr))||(A.count != B.count))||(A.value != B.value))||(A.and_ != B.and_))) (fun K aL=>?_) ?_
 refine bl 47 ((((((A.code != B.code)||(A.fail != B.fail))||(A.addr != B.addr))||(A.count != B.count))||(A.value != B.value))) (fun u=>?_) (fun u=>?_)
 exact Pl 6<|ce aL true (by rw[u];rfl)
 have aM:=(aJ u).1
 have cp:=(aJ u).2
 have aN:=(aJ aM).1
 have cq:=(aJ aM).2
 have q29aaa:=(aJ aN).1
 have q29aab:=(aJ aN).2
 have q29aaaa:=(aJ q29aaa).1
 have q29aaab:=(aJ q29aaa).2
 have q29aaaap:=ai q29aaaa
 have q29aaabp:=ai q29aaab
 have q29aabp:=ai q29aab
 have q29abp:=ai cq
 have dS:=ai cp
 exact Pl 1<|L1<|aR c 5<|Pl 1<|L1<|aR b 5<|Pl 2<|ce aL (A.and_ != B.and_) (by rw[u];rfl)
 refine Pl 1<|cu 6 [54] 60 ((((((((A.code != B.code)||(A.fail != B.fail))||(A.addr != B.addr))||(A.count != B.count))||(A.value != B.value))||(A.and_ != B.and_))||(A.or_ != B.or_))) (fun K aO=>?_) ?_
 refine bl 54 (((((((A.code != B.code)||(A.fail != B.fail))||(A.addr != B.addr))||(A.count != B.count))||(A.value != B.value))||(A.and_ != B.and_))) (fun v=>?_) (fun v=>?_)
 exact Pl 6<|ce aO true (by rw[v];rfl)
 have aQ:=(aJ v).1
 have cr:=(aJ v).2
 have aS:=(aJ aQ).1
 have cs:=(aJ aQ).2
 have q31aaa:=(aJ aS).1
 have q31aab:=(aJ aS).2
 have q31aaaa:=(aJ q31aaa).1
 have q31aaab:=(aJ q31aaa).2
 have q31aaaaa:=(aJ q31aaaa).1
 have q31aaaab:=(aJ q31aaaa).2
 have q31aaaaap:=ai q31aaaaa
 have q31aaaabp:=ai q31aaaab
 have q31aaabp:=ai q31aaab
 have q31aabp:=ai q31aab
 have q31abp:=ai cs
 have dT:=ai cr
 exact Pl 1<|L1<|aR c 6<|Pl 1<|L1<|aR b 6<|Pl 2<|ce aO (A.or_ != B.or_) (by rw[v];rfl)
 refine Pl 1<|cu 6 [61] 67 (((((((((A.code != B.code)||(A.fail != B.fail))||(A.addr != B.addr))||(A.count != B.count))||(A.value != B.value))||(A.and_ != B.and_))||(A.or_ != B.or_))||(A.addr2 != B.addr2))) (fun K aT=>?_) ?_
 refine bl 61 ((((((((A.code != B.code)||(A.fail != B.fail))||(A.addr != B.addr))||(A.count != B.count))||(A.value != B.value))||(A.and_ != B.and_))||(A.or_ != B.or_))) (fun z=>?_) (fun z=>?_)
 exact Pl 6<|ce aT true (by rw[z];rfl)
 have aU:=(aJ z).1
 have ct:=(aJ z).2
 have aV:=(aJ aU).1
 have cv:=(aJ aU).2
 have q33aaa:=(aJ aV).1
 have q33aab:=(aJ aV).2
 have q33aaaa:=(aJ q33aaa).1
 have q33aaab:=(aJ q33aaa).2
 have q33aaaaa:=(aJ q33aaaa).1
 have q33aaaab:=(aJ q33aaaa).2
 have q33aaaaaa:=(aJ q33aaaaa).1
 have q33aaaaab:=(aJ q33aaaaa).2
 have q33aaaaaap:=ai q33aaaaaa
 have q33aaaaabp:=ai q33aaaaab
 have q33aaaabp:=ai q33aaaab
 have q33aaabp:=ai q33aaab
 have q33aabp:=ai q33aab
 have q33abp:=ai cv
 have dU:=ai ct
 exact Pl 1<|L1<|aR c 7<|Pl 1<|L1<|aR b 7<|Pl 2<|ce aT (A.addr2 != B.addr2) (by rw[z];rfl)
 refine Pl 1<|cu 6 [68] 74 ((((((((((A.code != B.code)||(A.fail != B.fail))||(A.addr != B.addr))||(A.count != B.count))||(A.value != B.value))||(A.and_ != B.and_))||(A.or_ != B.or_))||(A.addr2 != B.addr2))||(A.sub != B.sub))) (fun K aX=>?_) ?_
 refine bl 68 (((((((((A.code != B.code)||(A.fail != B.fail))||(A.addr != B.addr))||(A.count != B.count))||(A.value != B.value))||(A.and_ != B.and_))||(A.or_ != B.or_))||(A.addr2 != B.addr2))) (fun C=>?_) (fun C=>?_)
 exact Pl 6<|ce aX true (by rw[C];rfl)
 have aY:=(aJ C).1
 have cw:=(aJ C).2
 have aZ:=(aJ aY).1
 have cx:=(aJ aY).2
 have q35aaa:=(aJ aZ).1
 have q35aab:=(aJ aZ).2
 have q35aaaa:=(aJ q35aaa).1
 have q35aaab:=(aJ q35aaa).2
 have q35aaaaa:=(aJ q35aaaa).1
 have q35aaaab:=(aJ q35aaaa).2
 have q35aaaaaa:=(aJ q35aaaaa).1
 have q35aaaaab:=(aJ q35aaaaa).2
 have q35aaaaaaa:=(aJ q35aaaaaa).1
 have q35aaaaaab:=(aJ q35aaaaaa).2
 have q35aaaaaaap:=ai q35aaaaaaa
 have q35aaaaaabp:=ai q35aaaaaab
 have q35aaaaabp:=ai q35aaaaab
 have q35aaaabp:=ai q35aaaab
 have q35aaabp:=ai q35aaab
 have q35aabp:=ai q35aab
 have q35abp:=ai cx
 have dV:=ai cw
 exact Pl 1<|L1<|aR c 8<|Pl 1<|L1<|aR b 8<|Pl 2<|ce aX (A.sub != B.sub) (by rw[C];rfl)
 refine Pl 1<|cu 6 [75] 81 (((((((((((A.code != B.code)||(A.fail != B.fail))||(A.addr != B.addr))||(A.count != B.count))||(A.value != B.value))||(A.and_ != B.and_))||(A.or_ != B.or_))||(A.addr2 != B.addr2))||(A.sub != B.sub))||(A.status != B.status))) (fun K b0=>?_) ?_
 refine bl 75 ((((((((((A.code != B.code)||(A.fail != B.fail))||(A.addr != B.addr))||(A.count != B.count))||(A.value != B.value))||(A.and_ != B.and_))||(A.or_ != B.or_))||(A.addr2 != B.addr2))||(A.sub != B.sub))) (fun D=>?_) (fun D=>?_)
 exact Pl 6<|ce b0 true (by rw[D];rfl)
 have b1:=(aJ D).1
 have cy:=(aJ D).2
 have b2:=(aJ b1).1
 have cz:=(aJ b1).2
 have q37aaa:=(aJ b2).1
 have q37aab:=(aJ b2).2
 have q37aaaa:=(aJ q37aaa).1
 have q37aaab:=(aJ q37aaa).2
 have q37aaaaa:=(aJ q37aaaa).1
 have q37aaaab:=(aJ q37aaaa).2
 have q37aaaaaa:=(aJ q37aaaaa).1
 have q37aaaaab:=(aJ q37aaaaa).2
 have q37aaaaaaa:=(aJ q37aaaaaa).1
 have q37aaaaaab:=(aJ q37aaaaaa).2
 have q37aaaaaaaa:=(aJ q37aaaaaaa).1
 have q37aaaaaaab:=(aJ q37aaaaaaa).2
 have q37aaaaaaaap:=ai q37aaaaaaaa
 have q37aaaaaaabp:=ai q37aaaaaaab
 have q37aaaaaabp:=ai q37aaaaaab
 have q37aaaaabp:=ai q37aaaaab
 have q37aaaabp:=ai q37aaaab
 have q37aaabp:=ai q37aaab
 have q37aabp:=ai q37aab
 have q37abp:=ai cz
 have dW:=ai cy
 exact Pl 1<|L1<|aR c 9<|Pl 1<|L1<|aR b 9<|Pl 2<|ce b0 (A.status != B.status) (by rw[D];rfl)
 refine Pl 1<|cu 6 [82] 88 ((((((((((((A.code != B.code)||(A.fail != B.fail))||(A.addr != B.addr))||(A.count != B.count))||(A.value != B.value))||(A.and_ != B.and_))||(A.or_ != B.or_))||(A.addr2 != B.addr2))||(A.sub != B.sub))||(A.status != B.status))||(A.events != B.events))) (fun K b3=>?_) ?_
 refine bl 82 (((((((((((A.code != B.code)||(A.fail != B.fail))||(A.addr != B.addr))||(A.count != B.count))||(A.value != B.value))||(A.and_ != B.and_))||(A.or_ != B.or_))||(A.addr2 != B.addr2))||(A.sub != B.sub))||(A.status != B.status))) (fun E=>?_) (fun E=>?_)
 exact Pl 6<|ce b3 true (by rw[E];rfl)
 have b4:=(aJ E).1
 have cA:=(aJ E).2
 have b5:=(aJ b4).1
 have cB:=(aJ b4).2
 have q39aaa:=(aJ b5).1
 have q39aab:=(aJ b5).2
 have q39aaaa:=(aJ q39aaa).1
 have q39aaab:=(aJ q39aaa).2
 have q39aaaaa:=(aJ q39aaaa).1
 have q39aaaab:=(aJ q39aaaa).2
 have q39aaaaaa:=(aJ q39aaaaa).1
 have q39aaaaab:=(aJ q39aaaaa).2
 have q39aaaaaaa:=(aJ q39aaaaaa).1
 have q39aaaaaab:=(aJ q39aaaaaa).2
 have q39aaaaaaaa:=(aJ q39aaaaaaa).1
 have q39aaaaaaab:=(aJ q39aaaaaaa).2
 have q39aaaaaaaaa:=(aJ q39aaaaaaaa).1
 have q39aaaaaaaab:=(aJ q39aaaaaaaa).2
 have q39aaaaaaaaap:=ai q39aaaaaaaaa
 have q39aaaaaaaabp:=ai q39aaaaaaaab
 have q39aaaaaaabp:=ai q39aaaaaaab
 have q39aaaaaabp:=ai q39aaaaaab
 have q39aaaaabp:=ai q39aaaaab
 have q39aaaabp:=ai q39aaaab
 have q39aaabp:=ai q39aaab
 have q39aabp:=ai q39aab
 have q39abp:=ai cB
 have dX:=ai cA
 exact Pl 1<|L1<|aR c 10<|Pl 1<|L1<|aR b 10<|Pl 2<|ce b3 (A.events != B.events) (by rw[E];rfl)
 refine Pl 1<|cu 6 [89] 95 (((((((((((((A.code != B.code)||(A.fail != B.fail))||(A.addr != B.addr))||(A.count != B.count))||(A.value != B.value))||(A.and_ != B.and_))||(A.or_ != B.or_))||(A.addr2 != B.addr2))||(A.sub != B.sub))||(A.status != B.status))||(A.events != B.events))||(A.messages != B.messages))) (fun K b7=>?_) ?_
 refine bl 89 ((((((((((((A.code != B.code)||(A.fail != B.fail))||(A.addr != B.addr))||(A.count != B.count))||(A.value != B.value))||(A.and_ != B.and_))||(A.or_ != B.or_))||(A.addr2 != B.addr2))||(A.sub != B.sub))||(A.status != B.status))||(A.events != B.events))) (fun F=>?_) (fun F=>?_)
 exact Pl 6<|ce b7 true (by rw[F];rfl)
 have b8:=(aJ F).1
 have cC:=(aJ F).2
 have ba:=(aJ b8).1
 have cD:=(aJ b8).2
 have q41aaa:=(aJ ba).1
 have q41aab:=(aJ ba).2
 have q41aaaa:=(aJ q41aaa).1
 have q41aaab:=(aJ q41aaa).2
 have q41aaaaa:=(aJ q41aaaa).1
 have q41aaaab:=(aJ q41aaaa).2
 have q41aaaaaa:=(aJ q41aaaaa).1
 have q41aaaaab:=(aJ q41aaaaa).2
 have q41aaaaaaa:=(aJ q41aaaaaa).1
 have q41aaaaaab:=(aJ q41aaaaaa).2
 have q41aaaaaaaa:=(aJ q41aaaaaaa).1
 have q41aaaaaaab:=(aJ q41aaaaaaa).2
 have q41aaaaaaaaa:=(aJ q41aaaaaaaa).1
 have q41aaaaaaaab:=(aJ q41aaaaaaaa).2
 have q41aaaaaaaaaa:=(aJ q41aaaaaaaaa).1
 have q41aaaaaaaaab:=(aJ q41aaaaaaaaa).2
 have q41aaaaaaaaaap:=ai q41aaaaaaaaaa
 have q41aaaaaaaaabp:=ai q41aaaaaaaaab
 have q41aaaaaaaabp:=ai q41aaaaaaaab
 have q41aaaaaaabp:=ai q41aaaaaaab
 have q41aaaaaabp:=ai q41aaaaaab
 have q41aaaaabp:=ai q41aaaaab
 have q41aaaabp:=ai q41aaaab
 have q41aaabp:=ai q41aaab
 have q41aabp:=ai q41aab
 have q41abp:=ai cD
 have dY:=ai cC
 exact Pl 1<|L1<|aR c 11<|Pl 1<|L1<|aR b 11<|Pl 2<|ce b7 (A.messages != B.messages) (by rw[F];rfl)
 refine nt<|?_
 have G:=aH cg az
 refine cb (((((((((((((A.code != B.code)||(A.fail != B.fail))||(A.addr != B.addr))||(A.count != B.count))||(A.value != B.value))||(A.and_ != B.and_))||(A.or_ != B.or_))||(A.addr2 != B.addr2))||(A.sub != B.sub))||(A.status != B.status))||(A.events != B.events))||(A.messages != B.messages))) (fun H=>?_) (fun H=>?_)
 refine sg<|Pl 1<|nt<|rt<|tr<|rr (.bool false)<|?_
 have hs:decide (A=B)=false:=kO (f:=fun x y=>((((((((((((x.code != y.code)||(x.fail != y.fail))||(x.addr != y.addr))||(x.count != y.count))||(x.value != y.value))||(x.and_ != y.and_))||(x.or_ != y.or_))||(x.addr2 != y.addr2))||(x.sub != y.sub))||(x.status != y.status))||(x.events != y.events))||(x.messages != y.messages))) H (fun M=>by simp)
 rw[hs]
 exact⟨rfl,G⟩
 have bb:=(aJ H).1
 have cE:=(aJ H).2
 have bc:=(aJ bb).1
 have cF:=(aJ bb).2
 have q44aaa:=(aJ bc).1
 have q44aab:=(aJ bc).2
 have q44aaaa:=(aJ q44aaa).1
 have q44aaab:=(aJ q44aaa).2
 have q44aaaaa:=(aJ q44aaaa).1
 have q44aaaab:=(aJ q44aaaa).2
 have q44aaaaaa:=(aJ q44aaaaa).1
 have q44aaaaab:=(aJ q44aaaaa).2
 have q44aaaaaaa:=(aJ q44aaaaaa).1
 have q44aaaaaab:=(aJ q44aaaaaa).2
 have q44aaaaaaaa:=(aJ q44aaaaaaa).1
 have q44aaaaaaab:=(aJ q44aaaaaaa).2
 have q44aaaaaaaaa:=(aJ q44aaaaaaaa).1
 have q44aaaaaaaab:=(aJ q44aaaaaaaa).2
 have q44aaaaaaaaaa:=(aJ q44aaaaaaaaa).1
 have q44aaaaaaaaab:=(aJ q44aaaaaaaaa).2
 have q44aaaaaaaaaaa:=(aJ q44aaaaaaaaaa).1
 have q44aaaaaaaaaab:=(aJ q44aaaaaaaaaa).2
 have q44aaaaaaaaaaap:=ai q44aaaaaaaaaaa
 have q44aaaaaaaaaabp:=ai q44aaaaaaaaaab
 have q44aaaaaaaaabp:=ai q44aaaaaaaaab
 have q44aaaaaaaabp:=ai q44aaaaaaaab
 have q44aaaaaaabp:=ai q44aaaaaaab
 have q44aaaaaabp:=ai q44aaaaaab
 have q44aaaaabp:=ai q44aaaaab
 have q44aaaabp:=ai q44aaaab
 have q44aaabp:=ai q44aaab
 have q44aabp:=ai q44aab
 have q44abp:=ai cF
 have dZ:=ai cE
 refine bo<|sq<|sg<|Pl 1<|L0<|aR c 16<|Pl 1<|L0<|aR b 16<|Pl 2<|cu 6 [101] 107 (((A.mei != B.mei)||(A.kind != B.kind))) (fun K bd=>?_) ?_
 refine bl 101 ((A.mei != B.mei)) (fun I=>?_) (fun I=>?_)
 have cG:=au I
 exact Pl 6<|ce bd true (by rw[I];rfl)
 have cG:=ai I
 exact Pl 1<|L1<|aR c 17<|Pl 1<|L1<|aR b 17<|Pl 2<|ce bd (A.kind != B.kind) (by rw[I];rfl)
 refine Pl 1<|cu 6 [108] 114 ((((A.mei != B.mei)||(A.kind != B.kind))||(A.level != B.level))) (fun K be=>?_) ?_
 refine bl 108 (((A.mei != B.mei)||(A.kind != B.kind))) (fun J=>?_) (fun J=>?_)
 exact Pl 6<|ce be true (by rw[J];rfl)
 have cH:=(aJ J).1
 have cI:=(aJ J).2
 have e0:=ai cH
 have e1:=ai cI
 exact Pl 1<|L1<|aR c 18<|Pl 1<|L1<|aR b 18<|Pl 2<|ce be (A.level != B.level) (by rw[J];rfl)
 refine Pl 1<|cu 6 [115] 121 (((((A.mei != B.mei)||(A.kind != B.kind))||(A.level != B.level))||(A.more != B.more))) (fun K bf=>?_) ?_
 refine bl 115 ((((A.mei != B.mei)||(A.kind != B.kind))||(A.level != B.level))) (fun L=>?_) (fun L=>?_)
 exact Pl 6<|ce bf true (by rw[L];rfl)
 have bg:=(aJ L).1
 have cJ:=(aJ L).2
 have cK:=(aJ bg).1
 have cM:=(aJ bg).2
 have q49aap:=ai cK
 have q49abp:=ai cM
 have e2:=ai cJ
 exact Pl 1<|L1<|aR c 19<|Pl 1<|L1<|aR b 19<|Pl 2<|ce bf (A.more != B.more) (by rw[L];rfl)
 refine Pl 1<|cu 6 [122] 128 ((((((A.mei != B.mei)||(A.kind != B.kind))||(A.level != B.level))||(A.more != B.more))||(A.next != B.next))) (fun K bi=>?_) ?_
 refine bl 122 (((((A.mei != B.mei)||(A.kind != B.kind))||(A.level != B.level))||(A.more != B.more))) (fun N=>?_) (fun N=>?_)
 exact Pl 6<|ce bi true (by rw[N];rfl)
 have bj:=(aJ N).1
 have cN:=(aJ N).2
 have bm:=(aJ bj).1
 have cO:=(aJ bj).2
 have q51aaa:=(aJ bm).1
 have q51aab:=(aJ bm).2
 have q51aaap:=ai q51aaa
 have q51aabp:=ai q51aab
 have q51abp:=ai cO
 have e3:=ai cN
 exact Pl 1<|L1<|aR c 20<|Pl 1<|L1<|aR b 20<|Pl 2<|ce bi (A.next != B.next) (by rw[N];rfl)
 refine nt<|cb ((((((A.mei != B.mei)||(A.kind != B.kind))||(A.level != B.level))||(A.more != B.more))||(A.next != B.next))) (fun O=>?_) (fun O=>?_)
 refine sg<|Pl 1<|nt<|rt<|tr<|rr (.bool false)<|?_
 have hs:decide (A=B)=false:=kO (f:=fun x y=>(((((x.mei != y.mei)||(x.kind != y.kind))||(x.level != y.level))||(x.more != y.more))||(x.next != y.next))) O (fun M=>by simp)
 rw[hs]
 exact⟨rfl,G⟩
 have bp:=(aJ O).1
 have cP:=(aJ O).2
 have bq:=(aJ bp).1
 have cQ:=(aJ bp).2
 have q53aaa:=(aJ bq).1
 have q53aab:=(aJ bq).2
 have q53aaaa:=(aJ q53aaa).1
 have q53aaab:=(aJ q53aaa).2
 have q53aaaap:=ai q53aaaa
 have q53aaabp:=ai q53aaab
 have q53aabp:=ai q53aab
 have q53abp:=ai cQ
 have e4:=ai cP
 refine bo<|sg<|Pl 1<|L0<|aR c 12<|Pl 1<|L0<|aR b 12<|?_
 refine L0<|Oc<|m1 (i7 (dN.old phw G) (dN.old qhw G)) fun e5 aa=>Pl 1<|ng<|Pl 1<|?_
 have bs:=ub aa c
 refine L0<|aR bs 13<|Pl 1<|?_
 have bt:=ub aa b
 refine L0<|aR bt 13<|?_
 have ab:=aH G aa
 refine L0<|Oc<|m1 (m6 (gq.old phb ab) (gq.old qhb ab)) fun e6 ac=>Pl 1<|ng<|Pl 1<|?_
 have a2:=ub ac bs
 refine L0<|aR a2 14<|Pl 1<|?_
 have P:=ub ac bt
 refine L0<|aR P 14<|?_
 have ad:=aH ab ac
 refine L0<|Oc<|m1 (l9 (b9.old phd ad) (b9.old qhd ad)) fun cR n=>Pl 1<|nt<|sq<|sg<|Pl 3<|cu 3 [146] 149 (((!(decide (A.words=B.words)))||(!(decide (A.bits=B.bits))))) (fun K bu=>?_) ?_
 refine bl 146 ((!(decide (A.words=B.words)))) (fun Q=>?_) (fun Q=>?_)
 have ae:(decide (A.words=B.words))=false:=by simpa using Q
 have cS:=of_decide_eq_false ae
 exact Pl 3<|ce bu true (by rw[Q];rfl)
 have ae:(decide (A.words=B.words))=true:=by simpa using Q
 have cS:=of_decide_eq_true ae
 exact Pl 3<|ce bu (!(decide (A.bits=B.bits))) (by rw[Q];rfl)
 refine Pl 1<|cu 3 [150] 153 ((((!(decide (A.words=B.words)))||(!(decide (A.bits=B.bits))))||(!(decide (A.data=B.data))))) (fun K bv=>?_) ?_
 refine bl 150 (((!(decide (A.words=B.words)))||(!(decide (A.bits=B.bits))))) (fun R=>?_) (fun R=>?_)
 exact Pl 3<|ce bv true (by rw[R];rfl)
 have cT:=(aJ R).1
 have cU:=(aJ R).2
 have cV:(decide (A.words=B.words))=true:=by simpa using cT
 have q74anp:=of_decide_eq_true cV
 have cW:(decide (A.bits=B.bits))=true:=by simpa using cU
 have q74bnp:=of_decide_eq_true cW
 exact Pl 3<|ce bv (!(decide (A.data=B.data))) (by rw[R];rfl)
 refine Pl 1<|cu 8 [154] 162 (((((!(decide (A.words=B.words)))||(!(decide (A.bits=B.bits))))||(!(decide (A.data=B.data))))||(((A.recs.length:Nat) : Int)!=((B.recs.length:Nat) : Int)))) (fun K bw=>?_) ?_
 refine bl 154 ((((!(decide (A.words=B.words)))||(!(decide (A.bits=B.bits))))||(!(decide (A.data=B.data))))) (fun S=>?_) (fun S=>?_)
 exact Pl 8<|ce bw true (by rw[S];rfl)
 have bz:=(aJ S).1
 have cX:=(aJ S).2
 have cY:=(aJ bz).1
 have cZ:=(aJ bz).2
 have q76aan:(decide (A.words=B.words))=true:=by simpa using cY
 have q76aanp:=of_decide_eq_true q76aan
 have q76abn:(decide (A.bits=B.bits))=true:=by simpa using cZ
 have q76abnp:=of_decide_eq_true q76abn
 have d0:(decide (A.data=B.data))=true:=by simpa using cX
 have q76bnp:=of_decide_eq_true d0
 refine Pl 1<|?_
 refine L1<|aR (ub n a2) 15<|Pl 2<|?_
 exact L1<|aR (ub n P) 15<|Pl 3<|ce bw (((A.recs.length:Nat) : Int)!=((B.recs.length:Nat) : Int)) (by rw[S];rfl)
 refine Pl 1<|cu 8 [163] 171 ((((((!(decide (A.words=B.words)))||(!(decide (A.bits=B.bits))))||(!(decide (A.data=B.data))))||(((A.recs.length:Nat) : Int)!=((B.recs.length:Nat) : Int)))||(((A.objects.length:Nat) : Int)!=((B.objects.length:Nat) : Int)))) (fun K bA=>?_) ?_
 refine bl 163 (((((!(decide (A.words=B.words)))||(!(decide (A.bits=B.bits))))||(!(decide (A.data=B.data))))||(((A.recs.length:Nat) : Int)!=((B.recs.length:Nat) : Int)))) (fun T=>?_) (fun T=>?_)
 exact Pl 8<|ce bA true (by rw[T];rfl)
 have bB:=(aJ T).1
 have d1:=(aJ T).2
 have bC:=(aJ bB).1
 have d2:=(aJ bB).2
 have q80aaa:=(aJ bC).1
 have q80aab:=(aJ bC).2
 have q80aaan:(decide (A.words=B.words))=true:=by simpa using q80aaa
 have q80aaanp:=of_decide_eq_true q80aaan
 have q80aabn:(decide (A.bits=B.bits))=true:=by simpa using q80aab
 have q80aabnp:=of_decide_eq_true q80aabn
 have q80abn:(decide (A.data=B.data))=true:=by simpa using d2
 have q80abnp:=of_decide_eq_true q80abn
 have e7:=ai d1
 refine Pl 1<|?_
 refine L1<|aR (ub n a2) 21<|Pl 2<|?_
 exact L1<|aR (ub n P) 21<|Pl 3<|ce bA (((A.objects.length:Nat) : Int)!=((B.objects.length:Nat) : Int)) (by rw[T];rfl)
 refine nt<|?_
 have bD:=aH ad n
 refine cb ((((((!(decide (A.words=B.words)))||(!(decide (A.bits=B.bits))))||(!(decide (A.data=B.data))))||(((A.recs.length:Nat) : Int)!=((B.recs.length:Nat) : Int)))||(((A.objects.length:Nat) : Int)!=((B.objects.length:Nat) : Int)))) (fun U=>?_) (fun U=>?_)
 refine sg<|Pl 1<|nt<|rt<|tr<|rr (.bool false)<|?_
 have hs:decide (A=B)=false:=kO (f:=fun x y=>(((((!(decide (x.words=y.words)))||(!(decide (x.bits=y.bits))))||(!(decide (x.data=y.data))))||(((x.recs.length:Nat) : Int)!=((y.recs.length:Nat) : Int)))||(((x.objects.length:Nat) : Int)!=((y.objects.length:Nat) : Int)))) U (fun M=>by simp)
 rw[hs]
 exact⟨rfl,bD⟩
 have bE:=(aJ U).1
 have d3:=(aJ U).2
 have bF:=(aJ bE).1
 have d4:=(aJ bE).2
 have q85aaa:=(aJ bF).1
 have q85aab:=(aJ bF).2
 have q85aaaa:=(aJ q85aaa).1
 have q85aaab:=(aJ q85aaa).2
 have q85aaaan:(decide (A.words=B.words))=true:=by simpa using q85aaaa
 have q85aaaanp:=of_decide_eq_true q85aaaan
 have q85aaabn:(decide (A.bits=B.bits))=true:=by simpa using q85aaab
 have q85aaabnp:=of_decide_eq_true q85aaabn
 have q85aabn:(decide (A.data=B.data))=true:=by simpa using q85aab
 have q85aabnp:=of_decide_eq_true q85aabn
 have q85abp:=ai d4
 have e8:=ai d3
 refine bo<|sq<|sg<|Pl 1<|nt<|bk<|?_
 refine i1 (fun x=>[(2,.pointer (some ⟨i,0,none⟩)),(3,.pointer (some ⟨l,0,none⟩)),(8,.int .i64 ((x:Nat) : Int))]) (fun(x:Nat) w'=>aD [] cR w'∧(A.recs.take x=B.recs.take x)∧(x≤A.recs.length)) (fun x=>A.recs.length-x) 0 ⟨aD.refl _ _,(by(try dsimp only);simp),(by(try dsimp only);omega)⟩ ?_
 rintro j d5 ⟨a3,d6,d7⟩
 refine iq [(2,.pointer (some ⟨i,0,none⟩)),(3,.pointer (some ⟨l,0,none⟩)),(8,.int .i64 ((j:Nat) : Int))] ?_
 have bG:A.recs.take j=B.recs.take j:=d6
 have e9:j≤A.recs.length:=d7
 refine sq<|sg<|Pl 2<|?_
 have a4:=aH n a3
 have af:=ub a4 a2
 refine L0<|aR af 15<|Pl 2<|nt<|?_
 have a5:=aH bD a3
 refine cb ((decide (((j:Nat) : Int)<((A.recs.length:Nat) : Int)))) (fun ah=>?_) (fun ah=>?_)
 have d8:=of_decide_eq_true ah
 refine bo<|sq<|bk<|sg<|Pl 1<|L0<|aR af 15<|Pl 1<|j7 (l7.elt phr j (by omega)) fun ea eb ec ed ee bH bJ d9 da db ef dc=>L0<|rV 4 A.recs.length j d9 (by omega)<|?_
 refine L0<|w7 [.int .u16 ((A.recs.getD j ⟨0,0,0,[]⟩).file),.int .u16 ((A.recs.getD j ⟨0,0,0,[]⟩).record),.int .u16 ((A.recs.getD j ⟨0,0,0,[]⟩).count),.slice bH ((A.recs.getD j ⟨0,0,0,[]⟩).words.length) bJ] (ub a5 da) dc<|L0<|bI #[.int .u16 0,.int .u16 0,.int .u16 0,.slice none 0 0] fun eg eh aj dd ak=>L0<|b6 dd #[.int .u16 ((A.recs.getD j ⟨0,0,0,[]⟩).file),.int .u16 ((A.recs.getD j ⟨0,0,0,[]⟩).record),.int .u16 ((A.recs.getD j ⟨0,0,0,[]⟩).count),.slice bH ((A.recs.getD j ⟨0,0,0,[]⟩).words.length) bJ] fun ei de al=>ng<|Pl 1<|?_
 refine L0<|aR (ub (u1 (aH a4 ak) al (ni a4.size aj)) P) 15<|Pl 1<|j7 (l7.elt qhr j (by omega)) fun ej ek el em eo bK bL df dg dh ep di=>L0<|rV 4 B.recs.length j df (by omega)<|?_
 have am:=u1 (aH a5 ak) al (ni a5.size aj)
 refine L0<|w7 [.int .u16 ((B.recs.getD j ⟨0,0,0,[]⟩).file),.int .u16 ((B.recs.getD j ⟨0,0,0,[]⟩).record),.int .u16 ((B.recs.getD j ⟨0,0,0,[]⟩).count),.slice bK ((B.recs.getD j ⟨0,0,0,[]⟩).words.length) bL] (ub am dg) di<|L0<|bI #[.int .u16 0,.int .u16 0,.int .u16 0,.slice none 0 0] fun eq er an dj ao=>L0<|b6 dj #[.int .u16 ((B.recs.getD j ⟨0,0,0,[]⟩).file),.int .u16 ((B.recs.getD j ⟨0,0,0,[]⟩).record),.int .u16 ((B.recs.getD j ⟨0,0,0,[]⟩).count),.slice bK ((B.recs.getD j ⟨0,0,0,[]⟩).words.length) bL] fun es a6 ap=>ng<|Pl 1<|?_
 have a7:=ub (u1 ao ap (nr an)) de
 refine L0<|aR a7 3<|Pl 1<|L0<|aR a6 3<|?_
 have aq:=u1 (aH am ao) ap (ni am.size an)
 refine L0<|Oc<|m1 (i7 (dN.old db aq) (dN.old dh aq)) fun et h=>Pl 1<|ng<|Pl 3<|cu 6 [196] 202 (((!(decide ((A.recs.getD j ⟨0,0,0,[]⟩).words=(B.recs.getD j ⟨0,0,0,[]⟩).words)))||(((A.recs.getD j ⟨0,0,0,[]⟩).file)!=((B.recs.getD j ⟨0,0,0,[]⟩).file)))) (fun K bM=>?_) ?_
 refine bl 196 ((!(decide ((A.recs.getD j ⟨0,0,0,[]⟩).words=(B.recs.getD j ⟨0,0,0,[]⟩).words)))) (fun V=>?_) (fun V=>?_)
 have ar:(decide ((A.recs.getD j ⟨0,0,0,[]⟩).words=(B.recs.getD j ⟨0,0,0,[]⟩).words))=false:=by simpa using V
 have dk:=of_decide_eq_false ar
 exact Pl 6<|ce bM true (by rw[V];rfl)
 have ar:(decide ((A.recs.getD j ⟨0,0,0,[]⟩).words=(B.recs.getD j ⟨0,0,0,[]⟩).words))=true:=by simpa using V
 have dk:=of_decide_eq_true ar
 refine Pl 1<|?_
 refine L1<|aR (ub h a7) 0<|Pl 1<|?_
 exact L1<|aR (ub h a6) 0<|Pl 2<|ce bM (((A.recs.getD j ⟨0,0,0,[]⟩).file)!=((B.recs.getD j ⟨0,0,0,[]⟩).file)) (by rw[V];rfl)
 refine Pl 1<|cu 6 [203] 209 ((((!(decide ((A.recs.getD j ⟨0,0,0,[]⟩).words=(B.recs.getD j ⟨0,0,0,[]⟩).words)))||(((A.recs.getD j ⟨0,0,0,[]⟩).file)!=((B.recs.getD j ⟨0,0,0,[]⟩).file)))||(((A.recs.getD j ⟨0,0,0,[]⟩).record)!=((B.recs.getD j ⟨0,0,0,[]⟩).record)))) (fun K bN=>?_) ?_
 refine bl 203 (((!(decide ((A.recs.getD j ⟨0,0,0,[]⟩).words=(B.recs.getD j ⟨0,0,0,[]⟩).words)))||(((A.recs.getD j ⟨0,0,0,[]⟩).file)!=((B.recs.getD j ⟨0,0,0,[]⟩).file)))) (fun W=>?_) (fun W=>?_)
 exact Pl 6<|ce bN true (by rw[W];rfl)
 have dl:=(aJ W).1
 have dm:=(aJ W).2
 have dn:(decide ((A.recs.getD j ⟨0,0,0,[]⟩).words=(B.recs.getD j ⟨0,0,0,[]⟩).words))=true:=by simpa using dl
 have q156anp:=of_decide_eq_true dn
 have eu:=ai dm
 refine Pl 1<|?_
 refine L1<|aR (ub h a7) 1<|Pl 1<|?_
 exact L1<|aR (ub h a6) 1<|Pl 2<|ce bN (((A.recs.getD j ⟨0,0,0,[]⟩).record)!=((B.recs.getD j ⟨0,0,0,[]⟩).record)) (by rw[W];rfl)
 refine Pl 1<|cu 6 [210] 216 (((((!(decide ((A.recs.getD j ⟨0,0,0,[]⟩).words=(B.recs.getD j ⟨0,0,0,[]⟩).words)))||(((A.recs.getD j ⟨0,0,0,[]⟩).file)!=((B.recs.getD j ⟨0,0,0,[]⟩).file)))||(((A.recs.getD j ⟨0,0,0,[]⟩).record)!=((B.recs.getD j ⟨0,0,0,[]⟩).record)))||(((A.recs.getD j ⟨0,0,0,[]⟩).count)!=((B.recs.getD j ⟨0,0,0,[]⟩).count)))) (fun K bO=>?_) ?_
 refine bl 210 ((((!(decide ((A.recs.getD j ⟨0,0,0,[]⟩).words=(B.recs.getD j ⟨0,0,0,[]⟩).words)))||(((A.recs.getD j ⟨0,0,0,[]⟩).file)!=((B.recs.getD j ⟨0,0,0,[]⟩).file)))||(((A.recs.getD j ⟨0,0,0,[]⟩).record)!=((B.recs.getD j ⟨0,0,0,[]⟩).record)))) (fun X=>?_) (fun X=>?_)
 exact Pl 6<|ce bO true (by rw[X];rfl)
 have bP:=(aJ X).1
 have dp:=(aJ X).2
 have dq:=(aJ bP).1
 have dr:=(aJ bP).2
 have q160aan:(decide ((A.recs.getD j ⟨0,0,0,[]⟩).words=(B.recs.getD j ⟨0,0,0,[]⟩).words))=true:=by simpa using dq
 have q160aanp:=of_decide_eq_true q160aan
 have q160abp:=ai dr
 have ev:=ai dp
 refine Pl 1<|?_
 refine L1<|aR (ub h a7) 2<|Pl 1<|?_
 exact L1<|aR (ub h a6) 2<|Pl 2<|ce bO (((A.recs.getD j ⟨0,0,0,[]⟩).count)!=((B.recs.getD j ⟨0,0,0,[]⟩).count)) (by rw[X];rfl)
 refine nt<|?_
 refine cb (((((!(decide ((A.recs.getD j ⟨0,0,0,[]⟩).words=(B.recs.getD j ⟨0,0,0,[]⟩).words)))||(((A.recs.getD j ⟨0,0,0,[]⟩).file)!=((B.recs.getD j ⟨0,0,0,[]⟩).file)))||(((A.recs.getD j ⟨0,0,0,[]⟩).record)!=((B.recs.getD j ⟨0,0,0,[]⟩).record)))||(((A.recs.getD j ⟨0,0,0,[]⟩).count)!=((B.recs.getD j ⟨0,0,0,[]⟩).count)))) (fun Y=>?_) (fun Y=>?_)
 refine sg<|Pl 1<|nt<|rt<|br<|tr<|tr<|br<|tr<|rr (.bool false)<|?_
 have hs:decide (A=B)=false:=kO (f:=fun x y=>((((!(decide ((x.recs.getD j ⟨0,0,0,[]⟩).words=(y.recs.getD j ⟨0,0,0,[]⟩).words)))||(((x.recs.getD j ⟨0,0,0,[]⟩).file)!=((y.recs.getD j ⟨0,0,0,[]⟩).file)))||(((x.recs.getD j ⟨0,0,0,[]⟩).record)!=((y.recs.getD j ⟨0,0,0,[]⟩).record)))||(((x.recs.getD j ⟨0,0,0,[]⟩).count)!=((y.recs.getD j ⟨0,0,0,[]⟩).count)))) Y (fun M=>by simp)
 rw[hs]
 exact⟨rfl,(aH aq h)⟩
 have bR:=(aJ Y).1
 have ds:=(aJ Y).2
 have bS:=(aJ bR).1
 have dt:=(aJ bR).2
 have q165aaa:=(aJ bS).1
 have q165aab:=(aJ bS).2
 have q165aaan:(decide ((A.recs.getD j ⟨0,0,0,[]⟩).words=(B.recs.getD j ⟨0,0,0,[]⟩).words))=true:=by simpa using q165aaa
 have q165aaanp:=of_decide_eq_true q165aaan
 have q165aabp:=ai q165aab
 have q165abp:=ai dt
 have ew:=ai ds
 refine sk<|bn<|tn<|go<|Pl 1<|L0<|Oi (((j:Nat) : Int)+1)<|Pl 1<|nl<|?_
 have bT:=u1 (aH a3 ak) al (ni a3.size aj)
 exact ga (j+1) ⟨(aH (u1 (aH bT ao) ap (ni bT.size an)) h),(oV (d:=⟨0,0,0,[]⟩) bG (by omega) (by omega) (ve Y)),(by(try dsimp only);omega)⟩ (by omega)
 have d8:=of_decide_eq_false ah
 refine xt<|tx<|tx<|bx<|tn<|sq<|sg<|Pl 1<|nt<|bk<|?_
 refine i1 (fun x=>[(2,.pointer (some ⟨i,0,none⟩)),(3,.pointer (some ⟨l,0,none⟩)),(12,.int .i64 ((x:Nat) : Int))]) (fun(x:Nat) w'=>aD [] d5 w'∧(A.objects.take x=B.objects.take x)∧(x≤A.objects.length)) (fun x=>A.objects.length-x) 0 ⟨aD.refl _ _,(by(try dsimp only);simp),(by(try dsimp only);omega)⟩ ?_
 rintro k ex ⟨a8,du,dv⟩
 refine iq [(2,.pointer (some ⟨i,0,none⟩)),(3,.pointer (some ⟨l,0,none⟩)),(12,.int .i64 ((k:Nat) : Int))] ?_
 have bU:A.objects.take k=B.objects.take k:=du
 have ey:k≤A.objects.length:=dv
 refine sq<|sg<|Pl 2<|?_
 have bV:=ub a8 af
 refine L0<|aR bV 21<|Pl 2<|nt<|?_
 have bW:=aH a5 a8
 refine cb ((decide (((k:Nat) : Int)<((A.objects.length:Nat) : Int)))) (fun av=>?_) (fun av=>?_)
 have dw:=of_decide_eq_true av
 refine bo<|sq<|bk<|sq<|j7 (nv.elt pho k (by omega)) fun bX bY ez eA eB dx dy bZ dA dB eC aw=>j7 (nv.elt qho k (by omega)) fun c0 c2 eD eE eF dC dD c3 dE dF eG ax=>Rg 14 (fun w'=>w'.cell? ⟨i,21,none⟩=some (.slice po A.objects.length pko)∧w'.cell? ⟨bX,bY+k*2+1,none⟩=some (.slice dx ((A.objects.getD k ⟨0,[]⟩).value.length) dy)∧w'.cell? ⟨l,21,none⟩=some (.slice qo B.objects.length qko)∧w'.cell? ⟨c0,c2+k*2+1,none⟩=some (.slice dC ((B.objects.getD k ⟨0,[]⟩).value.length) dD)) fun eH a9=>?_
 have c4:=ub a9 bV
 have Z:=aH bW a9
 have c5:=ub Z dA
 have c6:=ub (aH (aH a4 a8) a9) P
 have c7:=ub Z dE
 refine bh ⟨(ag c4 rfl),(kP c5 aw 1 rfl (by decide)),(ag c6 rfl),(kP c7 ax 1 rfl (by decide))⟩ fun g=>Rt 0 g<|Rl 1 g (fun _ hs=>hs.1)<|Rt 2 g<|Ri 3 g 2 A.objects.length k ((k:Nat) : Int) rfl bZ (by omega)<|Rt 4 g<|Rl 5 g (fun _ hs=>hs.2.1)<|Rt 6 g<|Rl 7 g (fun _ hs=>hs.2.2.1)<|Rt 8 g<|Ri 9 g 2 B.objects.length k ((k:Nat) : Int) rfl c3 (by omega)<|Rt 10 g<|Rl 11 g (fun _ hs=>hs.2.2.2)<|?_
 refine R0 12 rfl<|Oc<|m1 (l9 (b9.old dB Z) (b9.old dF Z)) fun eI o=>?_
 have c8:=ub o c4
 have c9:=ub o c5
 have ca:=ub o c6
 have cc:=ub o c7
 refine bh ⟨(ag c8 rfl),(kP c9 aw 1 rfl (by decide)),(ag ca rfl),(kP cc ax 1 rfl (by decide))⟩ fun dG=>Rt 13 dG<|re<|tn<|sq<|Rg 17 (fun w'=>w'.cell? ⟨i,21,none⟩=some (.slice po A.objects.length pko)∧w'.cell? ⟨bX,bY+k*2+0,none⟩=some (.int .u8 ((A.objects.getD k ⟨0,[]⟩).id))∧w'.cell? ⟨l,21,none⟩=some (.slice qo B.objects.length qko)∧w'.cell? ⟨c0,c2+k*2+0,none⟩=some (.int .u8 ((B.objects.getD k ⟨0,[]⟩).id))) fun eJ p=>?_
 refine bh ⟨(ag (ub p c8) rfl),(kP (ub p c9) aw 0 rfl (by decide)),(ag (ub p ca) rfl),(kP (ub p cc) ax 0 rfl (by decide))⟩ fun a=>Rt 0 a<|Rt 1 a<|Rt 2 a<|?_
 have cd:=aH (aH Z o) p
 refine qX 239 ((!(decide ((A.objects.getD k ⟨0,[]⟩).value=(B.objects.getD k ⟨0,[]⟩).value)))) (fun a0=>?_) (fun a0=>?_)
 have ay:(decide ((A.objects.getD k ⟨0,[]⟩).value=(B.objects.getD k ⟨0,[]⟩).value))=false:=by simpa using a0
 have dH:=of_decide_eq_false ay
 refine Ro 3 a<|Ro 4 a<|Ro 5 a<|Ro 6 a<|Ro 7 a<|Ro 8 a<|Ro 9 a<|Ro 10 a<|Ro 11 a<|Ro 12 a<|Ro 13 a<|Ro 14 a<|Ro 15 a<|Rt 16 a<|?_
 refine re<|tn<|c1<|sg<|Pl 1<|nt<|rt<|br<|tr<|tr<|br<|tr<|?_
 refine rr (.bool false)<|?_
 have hs:decide (A=B)=false:=kO (f:=fun x y=>(!(decide ((x.objects.getD k ⟨0,[]⟩).value=(y.objects.getD k ⟨0,[]⟩).value)))) a0 (fun M=>by simp)
 rw[hs]
 exact⟨rfl,cd⟩
 have ay:(decide ((A.objects.getD k ⟨0,[]⟩).value=(B.objects.getD k ⟨0,[]⟩).value))=true:=by simpa using a0
 have dH:=of_decide_eq_true ay
 refine Rt 3 a<|Rl 4 a (fun _ hs=>hs.1)<|Rt 5 a<|Ri 6 a 2 A.objects.length k ((k:Nat) : Int) rfl bZ (by omega)<|Rt 7 a<|Rl 8 a (fun _ hs=>hs.2.1)<|Rt 9 a<|Rl 10 a (fun _ hs=>hs.2.2.1)<|Rt 11 a<|Ri 12 a 2 B.objects.length k ((k:Nat) : Int) rfl c3 (by omega)<|Rt 13 a<|Rl 14 a (fun _ hs=>hs.2.2.2)<|Rt 15 a<|Rt 16 a<|?_
 refine re<|tn<|cb ((((A.objects.getD k ⟨0,[]⟩).id)!=((B.objects.getD k ⟨0,[]⟩).id))) (fun a1=>?_) (fun a1=>?_)
 have dI:=au a1
 refine sg<|Pl 1<|nt<|rt<|br<|tr<|tr<|br<|tr<|rr (.bool false)<|?_
 have hs:decide (A=B)=false:=kO (f:=fun x y=>(((x.objects.getD k ⟨0,[]⟩).id)!=((y.objects.getD k ⟨0,[]⟩).id))) a1 (fun M=>by simp)
 rw[hs]
 exact⟨rfl,cd⟩
 have dI:=ai a1
 refine sk<|bn<|tn<|go<|Pl 1<|L0<|Oi (((k:Nat) : Int)+1)<|Pl 1<|nl<|?_
 exact ga (k+1) ⟨(aH (aH (aH a8 a9) o) p),(oV (d:=⟨0,[]⟩) bU (by omega) (by omega) (sY a0 a1)),(by(try dsimp only);omega)⟩ (by omega)
 have dw:=of_decide_eq_false av
 refine xt<|tx<|tx<|bx<|tn<|sg<|Pl 1<|nt<|rt<|rr (.bool true)<|?_
 have hs:decide (A=B)=true:=decide_eq_true (tX H O U (fun e=>fR bG (by omega) e) (fun e=>fR bU (by omega) e))
 rw[hs]
 exact⟨rfl,bW⟩
end Go.Proofs.YtogbnemojakcpaaGreat
namespace Go.Proofs.YtogbnemojakcpaaGreat
def N4 (C:ah) : Prop:=C.e≠4
theorem N4.need{C:ah}{b:Bool}{x:Int}(hx:x≠4)(h:N4 C) : N4 (C.need b x):=by
  unfold N4 ah.need at *
  split
  · exact hx
  · exact h
theorem N4.bytesC{C:ah}{n:Int}(h:N4 C) : N4 (C.bytesC n):=by
  unfold ah.bytesC
  split
  · exact N4.need (by decide) h
  · exact h
theorem N4.wordsC{C:ah}{n:Int}(h:N4 C) : N4 (C.wordsC n):=by
  unfold ah.wordsC
  split<;>exact N4.bytesC h
theorem N4.recs{one:Int→ah→Int × ah × dl}(ho:∀ s C,N4 C→N4 (one s C).2.1) : ∀ (n:Nat)(s:Int)(C:ah)(L:List dl),N4 C→N4 (aN one n s C L).1
  | 0,_,_,_,h=>h
  | n+1,s,C,L,h=>by
    unfold aN
    split
    · split
      · exact ho s C h
      · exact N4.recs ho n _ _ _ (ho s C h)
    · exact h
theorem o0{x:Int}(h:x≠4) : bp x≠4:=by
  unfold bp
  split
  · decide
  · exact h
theorem rb{dir c:Int}{C:ah}{r:ah × aP}(hC:N4 C)(h:aE dir c C=some r) : N4 r.1:=by
  unfold aE at h
  repeat' split at h
  all_goals first | cases h | skip
  all_goals simp only[cE,cv,ck,eo,bA,iw,dK,d8,jV,fh]
  all_goals repeat' first | with_reducible exact hC | with_reducible apply N4.bytesC | with_reducible apply N4.wordsC | (with_reducible refine N4.need (by decide) ?_)
theorem tH{dir c:Int}{C:ah}{r:ah × aP}(hC:N4 C)(h:aI dir c C=some r) : N4 r.1:=by
  unfold aI at h
  repeat' split at h
  all_goals first | cases h | skip
  all_goals simp only[bK,bO,cT,cC,cm,cA,cy,gN,mg,mh,bJ,p7,d7,kV,rL,wA,vJ]
  all_goals repeat' first | with_reducible exact hC | with_reducible apply N4.bytesC | with_reducible apply N4.wordsC | (with_reducible refine N4.need (by decide) ?_)
theorem tK{dir c:Int}{C:ah}{r:ah × aP}(hC:N4 C)(h:aM dir c C=some r) : N4 r.1:=by
  unfold aM e8 bX at h
  repeat' split at h
  all_goals first | cases h | skip
  all_goals simp only[eY,iK,gr,gH,dv]
  all_goals repeat' first | with_reducible exact hC | with_reducible apply N4.bytesC | with_reducible apply N4.wordsC | (with_reducible refine N4.need (by decide) ?_)
theorem uf(s:Int)(C:ah)(h:N4 C) : N4 (cM s C).2.1:=by
  simp only[cM,eC,dy,hH,hY,mj]
  repeat' first | with_reducible exact h | with_reducible apply N4.bytesC | with_reducible apply N4.wordsC | (with_reducible refine N4.need (by decide) ?_)
theorem rF(s:Int)(C:ah)(h:N4 C) : N4 (bG s C).2.1:=by
  simp only[bG,eK,gL,gJ]
  repeat' first | with_reducible exact h | with_reducible apply N4.bytesC | with_reducible apply N4.wordsC | (with_reducible refine N4.need (by decide) ?_)
theorem tB(s:Int)(C:ah)(h:N4 C) : N4 (cN s C).2.1:=by
  simp only[cN,ib,mu,dy,hH,hY,mj]
  repeat' first | with_reducible exact h | with_reducible apply N4.bytesC | with_reducible apply N4.wordsC | (with_reducible refine N4.need (by decide) ?_)
theorem iz{one:Int→ah→Int × ah × dl}(ho:∀ s C,N4 C→N4 (one s C).2.1)(may:Int→Bool)(c:Int){C:ah}(hC:N4 C) : N4 (dJ one may c C).1:=by
  unfold dJ jX
  refine N4.need (o0 (N4.recs ho _ _ _ _ ?_)) (N4.bytesC (N4.need (by decide) (N4.bytesC hC)))
  show(0:Int)≠4
  decide
theorem sD{dir c:Int}{C:ah}{r:ah × aP}(hC:N4 C)(h:aZ dir c C=some r) : N4 r.1:=by
  unfold aZ at h
  repeat' split at h
  all_goals first | cases h | skip
  · exact iz uf _ _ hC
  · exact iz rF _ _ hC
  · exact iz tB _ _ hC
theorem N4.endC{C:ah}(h:N4 C) : N4 C.endC:=by
  unfold ah.endC
  exact N4.need (by decide) h
theorem rY{form:Int→Int→ah→Option (ah × aP)}(hg:∀ {dir c:Int}{C:ah}{r:ah × aP},N4 C→form dir c C=some r→N4 r.1){dir c:Int}{b:List Int}(hd:dir=0∨dir=1){r:ah × aP}(hf:form dir c ⟨b,false,0⟩=some r) :
    (ae form dir c b).2≠4:=by
  unfold ae
  rw[if_pos hd,hf]
  have h0:N4 ⟨b,false,0⟩:=by show(0:Int)≠4;decide
  have g1:=hg h0 hf
  show(aF r.2 r.1).2≠4
  unfold aF
  split
  · exact(show ¬ (0:Int)=4 from by decide)
  · exact N4.endC g1
theorem mX{form:Int→Int→ah→Option (ah × aP)}{dir c:Int}{b:List Int}(hd:dir=0∨dir=1)(hf:form dir c ⟨b,false,0⟩=none) : ae form dir c b=(aP.zero,4):=by
  unfold ae
  rw[if_pos hd,hf]
def eU (dir:Int)(b:List Int) : aP × Int :=
  if (ae aE dir (b.getD 0 0) (b.drop 1)).2==4 then
    if (ae aI dir (b.getD 0 0) (b.drop 1)).2==4 then
      if (ae aM dir (b.getD 0 0) (b.drop 1)).2==4 then
        if (ae aZ dir (b.getD 0 0) (b.drop 1)).2==4 then ae bE dir (b.getD 0 0) (b.drop 1)
        else ae aZ dir (b.getD 0 0) (b.drop 1)
      else ae aM dir (b.getD 0 0) (b.drop 1)
    else ae aI dir (b.getD 0 0) (b.drop 1)
  else ae aE dir (b.getD 0 0) (b.drop 1)
theorem qD{dir:Int}{b:List Int}(hd:dir=0∨dir=1) : eU dir b=iW (jR (b.getD 0 0)) dir b:=by
  have no:∀ (form:Int→Int→ah→Option (ah × aP)),form dir (b.getD 0 0) ⟨b.drop 1,false,0⟩=none→((ae form dir (b.getD 0 0) (b.drop 1)).2==4)=true:=fun f h=>by rw[mX hd h];rfl
  have ye:∀ (form:Int→Int→ah→Option (ah × aP)),(∀ {dir c:Int} {C:ah} {r:ah × aP},N4 C→form dir c C=some r→N4 r.1)→(form dir (b.getD 0 0) ⟨b.drop 1,false,0⟩).isSome=true→¬ ((ae form dir (b.getD 0 0) (b.drop 1)).2==4)=true:=fun form hg h=>by
    obtain⟨r,hr⟩:=Option.isSome_iff_exists.1 h
    have k:=rY (form:=form) (c:=b.getD 0 0) (fun hC h=>hg hC h) hd hr
    rw[beq_iff_eq]
    exact k
  unfold eU
  rcases gA (b.getD 0 0) with⟨hk,hf⟩|⟨hk,hf⟩|⟨hk,hf⟩|⟨hk,hf⟩|⟨hk,hf⟩|⟨hk,hf⟩<;>rw[hf]
  · rw[if_neg (ye aE (fun hC h=>rb hC h) (by rcases hd with rfl | rfl<;>rcases hk with h | h | h | h<;>rw[h]<;>rfl))]
    rfl
  · rw[if_pos (no aE (by rcases hk with h | h | h | h | h | h | h<;>rw[h]<;>rfl)),if_neg (ye aI (fun hC h=>tH hC h) (by rcases hd with rfl | rfl<;>rcases hk with h | h | h | h | h | h | h<;>rw[h]<;>rfl))]
    rfl
  · rw[if_pos (no aE (by rcases hk with h | h | h | h | h<;>rw[h]<;>rfl)),if_pos (no aI (by rcases hk with h | h | h | h | h<;>rw[h]<;>rfl)),if_neg (ye aM (fun hC h=>tK hC h) (by rcases hd with rfl | rfl<;>rcases hk with h | h | h | h | h<;>rw[h]<;>rfl))]
    rfl
  · rw[if_pos (no aE (by rcases hk with h | h<;>rw[h]<;>rfl)),if_pos (no aI (by rcases hk with h | h<;>rw[h]<;>rfl)),if_pos (no aM (by rcases hk with h | h<;>rw[h]<;>rfl)),if_neg (ye aZ (fun hC h=>sD hC h) (by rcases hd with rfl | rfl<;>rcases hk with h | h<;>rw[h]<;>rfl))]
    rfl
  · rw[if_pos (no aE (by rw[hk]<;>rfl)),if_pos (no aI (by rw[hk]<;>rfl)),if_pos (no aM (by rw[hk]<;>rfl)),if_pos (no aZ (by rw[hk]<;>rfl))]
    rfl
  · have no0:∀ (form:Int→Int→ah→Option (ah × aP)),(∀ C,form dir (b.getD 0 0) C=none)→((ae form dir (b.getD 0 0) (b.drop 1)).2==4)=true:=fun f h=>no f (h _)
    have ne:∀ k:Int,¬ b.getD 0 0=k→(b.getD 0 0==k)=false:=fun k h=>by simpa using h
    obtain⟨z1,z2,z5,a,z3,z4,z6,d,e,g,i,z7,z8,j,l,m,n,o,p⟩:=hk
    rw[if_pos (no0 aE fun C=>by unfold aE;simp only[ne _ z1,ne _ z2,ne _ z5,ne _ a,Bool.or_false,Bool.false_eq_true,if_false]),if_pos (no0 aI fun C=>by unfold aI;simp only[ne _ z3,ne _ z4,ne _ z6,ne _ d,ne _ e,ne _ g,ne _ i,Bool.or_false,Bool.false_eq_true,if_false]),if_pos (no0 aM fun C=>by unfold aM;simp only[ne _ z7,ne _ z8,ne _ j,ne _ l,ne _ m,Bool.or_false,Bool.false_eq_true,if_false]),if_pos (no0 aZ fun C=>by unfold aZ;simp only[ne _ n,ne _ o,Bool.or_false,Bool.false_eq_true,if_false])]
    exact mX hd (by unfold bE;rw[if_pos (show(b.getD 0 0 != 43)=true from by rw[bne_iff_ne];exact p)])
def fM (dir:Int)(b:List Int) : aP × Int :=
  if dir != 0&&dir != 1 then (aP.zero,1)
  else if (b.length:Int)==0 then (aP.zero,2)
  else if decide (253<(b.length:Int)) then (aP.zero,3)
  else if decide (128≤b.getD 0 0)&&dir==1 then eR b
  else eU dir b
theorem eZ(dir:Int)(b:List Int) : fM dir b=dM dir b:=by
  unfold fM dM
  split
  · rfl
  · rename_i hh
    have hd:dir=0∨dir=1:=by simp only[Bool.and_eq_true,bne_iff_ne,ne_eq] at hh;omega
    rw[qD hd]
open Go.RowKit
theorem qf{xs:List Int}{k a b:Nat}(h:2*k+1<xs.length)(ha:a=2*k)(hb:b=2*k+1)(hr:∀ x,x∈xs→0≤x∧x<256) : cZ (xs.drop (2*k))=[(((256*xs.getD a 0)%65536)+xs.getD b 0)%65536]++cZ (xs.drop (2*(k+1))):=by
  subst ha hb
  rw[List.drop_eq_getElem_cons (show 2*k<xs.length by omega),List.drop_eq_getElem_cons h]
  have h1:=hr _ (List.getElem_mem (show 2*k<xs.length by omega))
  have h2:=hr _ (List.getElem_mem h)
  have e1:xs.getD (2*k) 0=xs[2*k]:=by rw[List.getD_eq_getElem?_getD,List.getElem?_eq_getElem (by omega)];rfl
  have e2:xs.getD (2*k+1) 0=xs[2*k+1]:=by rw[List.getD_eq_getElem?_getD,List.getElem?_eq_getElem h];rfl
  rw[e1,e2]
  show(xs[2*k]*256+xs[2*k+1]) :: cZ (xs.drop (2*k+1+1))=_
  rw[show 2*k+1+1=2*(k+1) by omega,show((256*xs[2*k])%65536+xs[2*k+1])%65536=xs[2*k]*256+xs[2*k+1] by omega]
  rfl
theorem qN{xs L:List Int}{k:Nat}(h:L++cZ (xs.drop (2*k))=cZ xs)(h1:¬ 2*k+1<xs.length)(h2:xs.length%2=0) : L=cH xs:=by
  have hd:xs.drop (2*k)=[]:=List.drop_eq_nil_of_le (by omega)
  rw[hd] at h
  unfold cH
  rw[if_pos h2,← h]
  simp[cZ]
theorem uS{m:Md}{A:Option Addr}{cp:Nat}{xs:List Int}{w:World}(h:b9 m w (.slice A xs.length cp) xs)(hn:xs.length≤1048576) : Calls Tryz.prog 217 #[.slice A xs.length cp] w (sN xs w):=by
 have hr:=b9.range h
 refine en 33 Tryz.func217 rfl<|sg<|Pl 1<|ng<|Pl 1<|nt<|sq<|sg<|?_
 refine Pl 2<|L0<|Oe (.int .i64 (Int.tmod ((xs.length:Nat) : Int) 2)) (.int .i64 (((xs.length:Nat) : Int)%2)) (congrArg (Value.int .i64) (Int.tmod_eq_emod_of_nonneg (by omega)))<|Pl 1<|nt<|cb (((((xs.length:Nat) : Int)%2)==1)) (fun f=>?_) (fun f=>?_)
 have y:=al f
 refine sg<|Pl 1<|nt<|rt<|tr<|rr (.slice none 0 0)<|?_
 have hs:cH xs=[]:=by unfold cH;rw[if_neg (by have:=al f;omega)]
 exact⟨_,rfl,by rw[hs];exact be.nil ..,(aD.refl [] _)⟩
 have y:=ap f
 refine bo<|sq<|sg<|Pl 1<|nt<|bk<|?_
 refine i1 (fun x=>[(0,.slice A xs.length cp),(2,.slice none 0 0),(3,.slice x.2.2.1 x.2.1.length x.2.2.2),(4,.int .i64 ((2*x.1:Nat) : Int))]) (fun(x:Nat × List Int × Option Addr × Nat) w'=>aD [] w w'∧iX w.heap.size w' (.slice x.2.2.1 x.2.1.length x.2.2.2) x.2.1∧(2*x.1≤xs.length)∧(x.2.1++cZ (xs.drop (2*x.1))=cZ xs)∧(x.2.1.length=x.1)) (fun x=>xs.length-2*x.1) (0,[],none,0) ⟨aD.refl _ _,(be.nil w.heap.size _ _ sr _),(by(try dsimp only);omega),rfl,rfl⟩ ?_
 rintro⟨k,L,B,cq⟩ z ⟨g,C,D,E,F⟩
 refine iq [(0,.slice A xs.length cp),(2,.slice none 0 0),(3,.slice B L.length cq),(4,.int .i64 ((2*k:Nat) : Int))] ?_
 have j:iX w.heap.size z (.slice B L.length cq) L:=C
 have T:2*k≤xs.length:=D
 have U:L++cZ (xs.drop (2*k))=cZ xs:=E
 have V:L.length=k:=F
 have hL:L++cZ (xs.drop (2*k))=cZ xs:=by assumption
 refine sq<|sg<|Pl 1<|L0<|Oi (((2*k:Nat) : Int)+1)<|Pl 3<|nt<|cb ((decide ((((2*k:Nat) : Int)+1)<((xs.length:Nat) : Int)))) (fun l=>?_) (fun l=>?_)
 have G:=of_decide_eq_true l
 refine bo<|sq<|bk<|?_
 have o:=b9.old h g
 refine fy (b9.at_ o (2*k) (by omega)) fun H I p q W=>fy (b9.at_ o (((((2*k:Nat) : Int)+1)).toNat) (by omega)) fun J K r s X=>Rg 17 (fun w'=>w'.cell? ⟨H,I+2*k,none⟩=some (.int .u8 (xs.getD (2*k) 0))∧w'.cell? ⟨J,K+((((2*k:Nat) : Int)+1)).toNat,none⟩=some (.int .u8 (xs.getD (((((2*k:Nat) : Int)+1)).toNat) 0))) fun Y d=>bh ⟨(uc d q),(uc d s)⟩ fun c=>Rt 0 c<|Rt 1 c<|Rt 2 c<|nU 3 c xs.length (2*k) ((2*k:Nat) : Int) rfl p (by omega)<|Rl 4 c (fun _ hs=>hs.1)<|Rr 5 c (.int .u16 (xs.getD (2*k) 0)) (fun _ _=>cJ (.int .u16 (IntKind.u16.wrap (xs.getD (2*k) 0))) (by kernel_rfl) (congrArg (Value.int .u16) (lW (by omega))))<|Rt 6 c<|Rt 7 c<|Rt 8 c<|Rr 9 c (.int .i64 (((2*k:Nat) : Int)+1)) (fun _ _=>cJ (.int .i64 (IntKind.i64.wrap (((2*k:Nat) : Int)+1))) (by kernel_rfl) (congrArg (Value.int .i64) (IntWalk.i64_in _ (by omega))))<|?_
 refine nU 10 c xs.length (((((2*k:Nat) : Int)+1)).toNat) (((2*k:Nat) : Int)+1) (by omega) r (by omega)<|Rl 11 c (fun _ hs=>hs.2)<|Rr 12 c (.int .u16 (xs.getD (((((2*k:Nat) : Int)+1)).toNat) 0)) (fun _ _=>cJ (.int .u16 (IntKind.u16.wrap (xs.getD (((((2*k:Nat) : Int)+1)).toNat) 0))) (by kernel_rfl) (congrArg (Value.int .u16) (lW (by omega))))<|Rt 13 c<|R0 14 rfl<|dx (m:=1) (e:=24) #[.int .u16 ((((256*(xs.getD (2*k) 0))%65536)+(xs.getD (((((2*k:Nat) : Int)+1)).toNat) 0))%65536)] fun Z a0 M N n=>?_
 have O:=ee M (xs:=[((((256*(xs.getD (2*k) 0))%65536)+(xs.getD (((((2*k:Nat) : Int)+1)).toNat) 0))%65536)]) (by as_aux_lemma=>kernel_rfl) (az (by omega) aX) (by(try simp only[List.length_cons,List.length_nil]);omega) N
 have i:=aH d n
 refine bh ⟨(uc i q),(uc i s)⟩ fun a1=>?_
 refine R0 15 rfl<|cK oX (xs:=L) (ys:=([((((256*(xs.getD (2*k) 0))%65536)+(xs.getD (((((2*k:Nat) : Int)+1)).toNat) 0))%65536)])) (.int .u16 0) 2 (ax j i (fun x hx=>ay) (fun _ _ h=>h)) (O).rd (by(try simp only[List.length_append,List.length_cons,List.length_nil,aB]);omega) (le (le g.size d.size) n.size) fun P Q a2 R t=>?_
 have a3:=ut (aD.mono (S':=(ob B++[])) i aq) t (av (fun x hx=>Or.inl (by simp[hx])) aq)
 have u:=ut (aH (aH g d) n) t (av (aT j lr) aq)
 have v:=b9.old h u
 exact bh ⟨(cB v p (2*k) (by omega)),(cB v r (((((2*k:Nat) : Int)+1)).toNat) (by omega))⟩ fun S=>Rt 16 S<|re<|bn<|tn<|go<|Pl 1<|L0<|Oi (((2*k:Nat) : Int)+2)<|Pl 1<|nl<|ga ((k+1),(L++[((((256*(xs.getD (2*k) 0))%65536)+(xs.getD (((((2*k:Nat) : Int)+1)).toNat) 0))%65536)]),P,Q) ⟨u,R,(by(try dsimp only);omega),(by(try dsimp only);rw[← hL,qf (k:=k) (a:=2*k) (b:=(((2*k:Nat) : Int)+1).toNat) (by omega) rfl (by omega) hr,List.append_assoc]),(by(try dsimp only);simp only[List.length_append,List.length_cons,List.length_nil];omega)⟩ (by omega)
 have G:=of_decide_eq_false l
 refine xt<|tx<|tx<|bx<|tn<|sg<|Pl 2<|nt<|rt<|rr (.slice B L.length cq)<|?_
 have hs:L=cH xs:=qN hL (by omega) (by omega)
 exact⟨_,rfl,by rw[← hs];exact j,g⟩
theorem uC{m:Md}{v:Value}{xs:List Int}{w:World}(h:b9 m w v xs)(hn:xs.length≤1048576) : Calls Tryz.prog 217 #[v] w (sN xs w):=by
  obtain⟨A,cp,rfl,_,_⟩:=h.shape
  exact uS h hn
theorem oT{a n:Int}{w:World}(ha:0≤a∧a<65536)(hn : -1048576≤n∧n≤1048576) : Calls Tryz.prog 215 #[.int .u16 a,.int .i64 n] w (cL (.bool (dh a n)) w):=by
 refine en 16 Tryz.func215 rfl<|sg<|Pl 1<|nt<|sq<|sg<|Pl 3<|cu 3 [7] 10 (((decide (n<1))||(decide (65536<n)))) (fun K d=>?_) ?_
 refine bl 7 ((decide (n<1))) (fun b=>?_) (fun b=>?_)
 have e:=of_decide_eq_true b
 exact Pl 3<|ce d true (by rw[b];rfl)
 have e:=of_decide_eq_false b
 exact Pl 3<|ce d (decide (65536<n)) (by rw[b];rfl)
 refine nt<|cb (((decide (n<1))||(decide (65536<n)))) (fun c=>?_) (fun c=>?_)
 refine sg<|Pl 1<|nt<|rt<|tr<|rr (.bool false)<|?_
 have hq:=c
 have hs:dh a n=false:=by unfold dh;simp only[Bool.or_eq_true,decide_eq_true_eq] at hq;simp only[Bool.and_eq_false_iff,decide_eq_false_iff_not];omega
 rw[hs]
 exact⟨rfl,(aD.refl [] _)⟩
 have f:=(aJ c).1
 have g:=(aJ c).2
 have h:=of_decide_eq_false f
 have i:=of_decide_eq_false g
 refine bo<|sg<|Pl 1<|L0<|Oi a<|Pl 1<|L0<|Oi (a+n)<|Pl 2<|nt<|rt<|rr (.bool (decide ((a+n)≤65536)))<|?_
 have hs:dh a n=(decide ((a+n)≤65536)):=by unfold dh;rw[Bool.eq_iff_iff];simp only[Bool.and_eq_true,decide_eq_true_eq];omega
 rw[hs]
 exact⟨rfl,(aD.refl [] _)⟩
open Go.RowKit
def xo (A:Option Addr)(cp:Nat)(full:List Int)(k:Nat)(C:ah) : Array Value:=#[.slice A full.length cp,.int .i64 ((k:Nat) : Int),.bool C.sh,.int .i64 C.e]
structure RC (w0:World) (m:Md) (A:Option Addr) (cp:Nat) (full:List Int) (w:World) (g:Nat) (C:ah) : Prop where
  src:b9 m w0 (.slice A full.length cp) full
  u:aD [] w0 w
  new:w0.heap.size≤g
  cell:∃ k:Nat,w.heap[g]? = some (.cells (xo A cp full k C) 159 (0,0))∧k≤full.length∧C.l=full.drop k
  len:full.length≤1048576
theorem RC.upd{w0:World}{m:Md}{A:Option Addr}{cp:Nat}{full:List Int}{w w':World}{g:Nat}{C:ah}{S:List Nat}(h:RC w0 m A cp full w g C)(hu:aD S w w')(hg:g∉S)(U:aD [] w0 w') : RC w0 m A cp full w' g C:=by
  obtain⟨h1,h2,h3,⟨k,h4,h5,h6⟩,h7⟩:=h
  exact⟨h1,U,h3,⟨k,hu.blk hg h4,h5,h6⟩,h7⟩
theorem RC.rd{w0:World}{m:Md}{A:Option Addr}{cp:Nat}{full:List Int}{w:World}{g:Nat}{C:ah}(h:RC w0 m A cp full w g C) : b9 m w (.slice A full.length cp) full:=b9.old h.src h.u
theorem RC.rng{w0:World}{m:Md}{A:Option Addr}{cp:Nat}{full:List Int}{w:World}{g:Nat}{C:ah}(h:RC w0 m A cp full w g C) : ∀ x,x∈C.l→0≤x∧x<256:=fun x hx=>by
  obtain⟨k,_,_,h2⟩:=h.cell
  rw[h2] at hx
  exact b9.range h.src x (List.mem_of_mem_drop hx)
theorem tg(C:ah){ok:Bool}{x:Int}(h:(ok || (C.e != 0))=true) : C.need ok x=C:=by
  unfold ah.need
  rw[if_neg]
  rintro⟨h1,rfl⟩
  rw[h1] at h
  cases h
theorem tI(C:ah){ok:Bool}{x:Int}(h:(ok || (C.e != 0))=false) : C.need ok x = { C with e:=x }:=by
  simp only[Bool.or_eq_false_iff,bne_eq_false_iff_eq] at h
  unfold ah.need
  rw[if_pos ⟨h.2,h.1⟩]
def ur (w0:World)(m:Md)(A:Option Addr)(cp:Nat)(full:List Int)(g:Nat)(C:ah)(w:World)(e:Ending)(w':World) : Prop:=e = .returned (.tuple #[])∧RC w0 m A cp full w' g C∧aD [g] w w'
theorem aV{w0:World}{m:Md}{A:Option Addr}{cp:Nat}{full:List Int}{w:World}{g:Nat}{C:ah}(ok:Bool)(x:Int)(hC:RC w0 m A cp full w g C) :
    Calls Tryz.prog 152 #[.pointer (some ⟨g,0,none⟩),.bool ok,.int .i64 x] w (ur w0 m A cp full g (C.need ok x) w):=by
 obtain⟨hsrc,hU,hnew,⟨k,hB,hk,hl⟩,hlen⟩:=hC
 refine en 18 Tryz.func152 rfl<|sq<|sg<|Pl 2<|cu 6 [7] 13 ((ok || (C.e != 0))) (fun K c=>?_) ?_
 refine bl 7 (ok) (fun b=>?_) (fun b=>?_)
 exact Pl 6<|ce c true (by rw[b];rfl)
 exact Pl 3<|L1<|aR hB 3<|Pl 2<|ce c (C.e != 0) (by rw[b];rfl)
 refine nt<|cb ((ok || (C.e != 0))) (fun a=>?_) (fun a=>?_)
 refine rt<|tr<|rr (.tuple #[])<|?_
 rw[tg C a]
 exact⟨rfl,⟨hsrc,hU.trans' (aD.mono (S':=[g]) (aD.refl [] _) aq) (fun x hx=>.inr (by simp at hx;subst hx;exact hnew)),hnew,⟨k,hB,hk,hl⟩,hlen⟩,(aD.mono (S':=[g]) (aD.refl [] _) aq)⟩
 have i:=(aJ a).1
 have f:=(aJ a).2
 have j:=ai f
 refine bo<|go<|Pl 4<|L0<|bT hB 3 #[.slice A full.length cp,.int .i64 ((k:Nat) : Int),.bool C.sh,.int .i64 x] fun l h d=>nl<|rm (.tuple #[])<|?_
 rw[tI C a]
 exact⟨rfl,⟨hsrc,hU.trans' d (fun x hx=>.inr (by simp at hx;subst hx;exact hnew)),hnew,⟨k,h,hk,hl⟩,hlen⟩,d⟩
theorem i8{C:ah}{full:List Int}{k:Nat}{n:Int}(hk:k≤full.length)(hl:C.l=full.drop k) : C.fails n=((C.sh || decide (n<0))||decide ((((full.length:Nat) : Int)-((k:Nat) : Int))<n)):=by
  unfold ah.fails
  rw[hl,List.length_drop,show((full.length-k:Nat) : Int)=((full.length:Nat) : Int)-((k:Nat) : Int) by omega]
def u6 (w0:World)(m:Md)(A:Option Addr)(cp:Nat)(full:List Int)(g:Nat)(C:ah)(n:Int)(w:World)(e:Ending)(w':World) : Prop:=∃ A2 n2 c2,e = .returned (.slice A2 n2 c2)∧(∀ m' w'',b9 m' w'' (.slice A full.length cp) full→b9 m' w'' (.slice A2 n2 c2) (C.bytesR n))∧RC w0 m A cp full w' g (C.bytesC n)∧aD [g] w w'
theorem tM{l full:List Int}{k a b:Nat}(hl:l=full.drop k)(h:b=k+a) : l.drop a=full.drop b:=by
  rw[hl,List.drop_drop,h]
theorem nP{C:ah}{full:List Int}{k:Nat}{n:Int}(hk:k≤full.length)(hl:C.l=full.drop k)(hf:C.fails n=false)(a b:Nat)(ha:(a:Int)=k)(hb:(b:Int)=(k:Int)+n) : (full.take b).drop a=C.bytesR n:=by
  obtain rfl:a=k:=by omega
  unfold ah.bytesR
  rw[hf,hl,List.drop_take]
  show _=(full.drop a).take n.toNat
  rw[show b-a=n.toNat by omega]
theorem oH{w0:World}{m:Md}{A:Option Addr}{cp:Nat}{full:List Int}{w:World}{g:Nat}{C:ah}{n:Int}(hn : -1048576≤n∧n≤2097152)(hC:RC w0 m A cp full w g C) :
    Calls Tryz.prog 153 #[.pointer (some ⟨g,0,none⟩),.int .i64 n] w (u6 w0 m A cp full g C n w):=by
 obtain⟨hsrc,hU,hnew,⟨k,hB,hk,hl⟩,hlen⟩:=hC
 have hcp:full.length≤cp:=by obtain⟨_,_,hv,h1,_⟩:=aK.shape hsrc;injection hv with _ _ h3;omega
 refine en 64 Tryz.func153 rfl<|sg<|Pl 1<|nt<|sq<|sq<|Rg 22 (fun w'=>w'.cell? ⟨g,2,none⟩=some (.bool C.sh)∧w'.cell? ⟨g,0,none⟩=some (.slice A full.length cp)∧w'.cell? ⟨g,1,none⟩=some (.int .i64 ((k:Nat) : Int))) fun a4 i=>?_
 have d:=ub i hB
 refine bh ⟨(ag d rfl),(ag d rfl),(ag d rfl)⟩ fun a=>Rt 0 a<|Rt 1 a<|Rt 2 a<|Rl 3 a (fun _ hs=>hs.1)<|Rt 4 a<|qX 9 (C.sh) (fun j=>?_) (fun j=>?_)
 refine Ro 5 a<|Ro 6 a<|Rt 7 a<|Rt 8 a<|Ro 9 a<|Ro 10 a<|Ro 11 a<|Ro 12 a<|Ro 13 a<|Ro 14 a<|Ro 15 a<|Ro 16 a<|Ro 17 a<|Ro 18 a<|?_
 refine Ro 19 a<|Ro 20 a<|Rt 21 a<|re<|tn<|c1<|sg<|Pl 3<|L0<|bT d 2 #[.slice A full.length cp,.int .i64 ((k:Nat) : Int),.bool true,.int .i64 C.e] fun a5 q D=>ng<|?_
 refine Pl 4<|L0<|aR q 0<|Pl 3<|L0<|bT q 1 #[.slice A full.length cp,.int .i64 ((full.length:Nat) : Int),.bool true,.int .i64 C.e] fun E F G=>ng<|Pl 1<|?_
 have r:=u1 (u1 (aD.mono (S':=[g]) i aq) D im) G im
 have H:RC w0 m A cp full E g { C with l:=[],sh:=true }:=⟨hsrc,hU.trans' r (fun x hx=>.inr (by simp at hx;subst hx;exact hnew)),hnew,⟨full.length,F,Nat.le_refl _,List.drop_length.symm⟩,hlen⟩
 refine L0<|Oc<|m2 (aV false 2 H) fun a6 I J=>ng<|Pl 1<|nt<|rt<|tr<|rr (.slice none 0 0)<|?_
 have hf:C.fails n=true:=by rw[i8 (n:=n) hk hl,j];rfl
 have e1:C.bytesR n=[]:=by unfold ah.bytesR;rw[hf];rfl
 have e2:C.bytesC n=ah.need { C with l:=[],sh:=true } false 2:=by unfold ah.bytesC;rw[hf];rfl
 exact⟨none,0,0,rfl,fun _ _ _=>by rw[e1];exact aK.nil ..,by rw[e2];exact I,(u1 r J im)⟩
 refine Rt 5 a<|Rt 6 a<|Rt 7 a<|Rt 8 a<|qX 13 ((decide (n<0))) (fun f=>?_) (fun f=>?_)
 have K:=of_decide_eq_true f
 refine Ro 9 a<|Ro 10 a<|Ro 11 a<|Ro 12 a<|Ro 13 a<|Ro 14 a<|Ro 15 a<|Ro 16 a<|Ro 17 a<|Ro 18 a<|Ro 19 a<|Ro 20 a<|Rt 21 a<|re<|?_
 refine tn<|c1<|sg<|Pl 3<|L0<|bT d 2 #[.slice A full.length cp,.int .i64 ((k:Nat) : Int),.bool true,.int .i64 C.e] fun a7 s L=>ng<|Pl 4<|L0<|aR s 0<|Pl 3<|L0<|bT s 1 #[.slice A full.length cp,.int .i64 ((full.length:Nat) : Int),.bool true,.int .i64 C.e] fun M N O=>?_
 refine ng<|Pl 1<|?_
 have t:=u1 (u1 (aD.mono (S':=[g]) i aq) L im) O im
 have Q:RC w0 m A cp full M g { C with l:=[],sh:=true }:=⟨hsrc,hU.trans' t (fun x hx=>.inr (by simp at hx;subst hx;exact hnew)),hnew,⟨full.length,N,Nat.le_refl _,List.drop_length.symm⟩,hlen⟩
 refine L0<|Oc<|m2 (aV false 2 Q) fun a8 R S=>ng<|Pl 1<|nt<|rt<|tr<|rr (.slice none 0 0)<|?_
 have hf:C.fails n=true:=by rw[i8 (n:=n) hk hl,j,f];rfl
 have e1:C.bytesR n=[]:=by unfold ah.bytesR;rw[hf];rfl
 have e2:C.bytesC n=ah.need { C with l:=[],sh:=true } false 2:=by unfold ah.bytesC;rw[hf];rfl
 exact⟨none,0,0,rfl,fun _ _ _=>by rw[e1];exact aK.nil ..,by rw[e2];exact R,(u1 t S im)⟩
 have K:=of_decide_eq_false f
 refine Rt 9 a<|Rt 10 a<|Rt 11 a<|Rt 12 a<|Rl 13 a (fun _ hs=>hs.2.1)<|Rt 14 a<|Rt 15 a<|Rt 16 a<|Rt 17 a<|Rl 18 a (fun _ hs=>hs.2.2)<|Rr 19 a (.int .i64 (((full.length:Nat) : Int)-((k:Nat) : Int))) (fun _ _=>cJ (.int .i64 (IntKind.i64.wrap (((full.length:Nat) : Int)-((k:Nat) : Int)))) (by kernel_rfl) (congrArg (Value.int .i64) (IntWalk.i64_in _ (by omega))))<|Rt 20 a<|Rt 21 a<|re<|?_
 refine tn<|cb ((decide ((((full.length:Nat) : Int)-((k:Nat) : Int))<n))) (fun o=>?_) (fun o=>?_)
 have T:=of_decide_eq_true o
 refine sg<|Pl 3<|L0<|bT d 2 #[.slice A full.length cp,.int .i64 ((k:Nat) : Int),.bool true,.int .i64 C.e] fun a9 u U=>ng<|Pl 4<|L0<|aR u 0<|Pl 3<|L0<|bT u 1 #[.slice A full.length cp,.int .i64 ((full.length:Nat) : Int),.bool true,.int .i64 C.e] fun V W X=>nt<|?_
 refine sg<|Pl 1<|?_
 have v:=u1 (u1 (aD.mono (S':=[g]) i aq) U im) X im
 have Y:RC w0 m A cp full V g { C with l:=[],sh:=true }:=⟨hsrc,hU.trans' v (fun x hx=>.inr (by simp at hx;subst hx;exact hnew)),hnew,⟨full.length,W,Nat.le_refl _,List.drop_length.symm⟩,hlen⟩
 refine L0<|Oc<|m2 (aV false 2 Y) fun aa Z a0=>ng<|Pl 1<|nt<|rt<|tr<|rr (.slice none 0 0)<|?_
 have hf:C.fails n=true:=by rw[i8 (n:=n) hk hl,j,f,o];rfl
 have e1:C.bytesR n=[]:=by unfold ah.bytesR;rw[hf];rfl
 have e2:C.bytesC n=ah.need { C with l:=[],sh:=true } false 2:=by unfold ah.bytesC;rw[hf];rfl
 exact⟨none,0,0,rfl,fun _ _ _=>by rw[e1];exact aK.nil ..,by rw[e2];exact Z,(u1 v a0 im)⟩
 have T:=of_decide_eq_false o
 refine bo<|sg<|Pl 4<|L0<|aR d 1<|Pl 1<|L0<|Oi (((k:Nat) : Int)+n)<|Pl 2<|L0<|bT d 1 #[.slice A full.length cp,.int .i64 (((k:Nat) : Int)+n),.bool C.sh,.int .i64 C.e] fun ab a1 a2=>nt<|sq<|Rg 16 (fun w'=>w'.cell? ⟨g,0,none⟩=some (.slice A full.length cp)∧w'.cell? ⟨g,1,none⟩=some (.int .i64 (((k:Nat) : Int)+n))) fun ac y=>?_
 have p:=ub y a1
 refine bh ⟨(ag p rfl),(ag p rfl)⟩ fun b=>Rt 0 b<|Rt 1 b<|Rt 2 b<|Rl 3 b (fun _ hs=>hs.1)<|Rt 4 b<|Rt 5 b<|Rt 6 b<|Rl 7 b (fun _ hs=>hs.2)<|Rt 8 b<|Rr 9 b (.int .i64 ((((k:Nat) : Int)+n)-n)) (fun _ _=>cJ (.int .i64 (IntKind.i64.wrap ((((k:Nat) : Int)+n)-n))) (by kernel_rfl) (congrArg (Value.int .i64) (IntWalk.i64_in _ (by omega))))<|Rt 10 b<|Rt 11 b<|Rt 12 b<|?_
 refine Rl 13 b (fun _ hs=>hs.2)<|mM (g8 (P:=Tryz.prog) 22 5 1 Tryz.underlying22 rfl rfl A full.length cp (lo:=((((k:Nat) : Int)+n)-n)) (up:=(((k:Nat) : Int)+n)) ((((((k:Nat) : Int)+n)-n)).toNat) (((((k:Nat) : Int)+n)).toNat) (by omega) (by omega) (by omega) (by omega) (by omega)) fun z hrun69 a3=>Rr 14 b (.slice z ((((((k:Nat) : Int)+n)).toNat)-((((((k:Nat) : Int)+n)-n)).toNat)) (cp-((((((k:Nat) : Int)+n)-n)).toNat))) (fun _ _=>eB (kl:=.i64) (kh:=.i64) (lo:=((((k:Nat) : Int)+n)-n)) (hi:=(((k:Nat) : Int)+n)) (A:=A) (n:=full.length) (c:=cp) rfl Tryz.underlying22 (by kernel_rfl) (by kernel_rfl) (by kernel_rfl) (hrun69 _ _ _))<|Rt 15 b<|re<|tn<|rt<|rr (.slice z ((((((k:Nat) : Int)+n)).toNat)-((((((k:Nat) : Int)+n)-n)).toNat)) (cp-((((((k:Nat) : Int)+n)-n)).toNat)))<|?_
 have hf:C.fails n=false:=by rw[i8 (n:=n) hk hl,j,f,o];rfl
 have B:=aH (u1 (aD.mono (S':=[g]) i aq) a2 im) y
 have e2:C.bytesC n = { C with l:=C.l.drop n.toNat }:=by unfold ah.bytesC;rw[hf];rfl
 exact⟨_,_,_,rfl,fun m' w'' h=>by have:=a3 m' _ _ w'' full h;rw[nP hk hl hf _ _ (by omega) (by omega)] at this;exact this,by rw[e2];exact⟨hsrc,hU.trans' B (fun x hx=>.inr (by simp at hx;subst hx;exact hnew)),hnew,⟨(((k:Nat) : Int)+n).toNat,(by unfold xo;rw[show((((((k:Nat) : Int)+n).toNat:Nat) : Int))=((k:Nat) : Int)+n by omega];exact p),by omega,tM hl (by omega)⟩,hlen⟩,B⟩
def tk (w0:World)(m:Md)(A:Option Addr)(cp:Nat)(full:List Int)(g:Nat)(C:ah)(n:Int)(w:World)(e:Ending)(w':World) : Prop:=∃ A2 c2,e = .returned (.slice A2 (C.bytesR n).length c2)∧(∀ m' w'',b9 m' w'' (.slice A full.length cp) full→b9 m' w'' (.slice A2 (C.bytesR n).length c2) (C.bytesR n))∧RC w0 m A cp full w' g (C.bytesC n)∧aD [g] w w'
theorem fc{w0:World}{m:Md}{A:Option Addr}{cp:Nat}{full:List Int}{w:World}{g:Nat}{C:ah}{n:Int}(hn : -1048576≤n∧n≤2097152)(hC:RC w0 m A cp full w g C) : Calls Tryz.prog 153 #[.pointer (some ⟨g,0,none⟩),.int .i64 n] w (tk w0 m A cp full g C n w):=by
  refine(oH hn hC).mono ?_
  rintro e w' ⟨A2,n2,c2,rfl,h1,h2,h3⟩
  obtain⟨_,_,hv,_⟩:=aK.shape (h1 m w0 hC.src)
  injection hv with _ e2 _
  subst e2
  exact⟨A2,c2,rfl,h1,h2,h3⟩
theorem uh{full:List Int}{k:Nat}{C:ah}(hk:k≤full.length)(hl:C.l=full.drop k) : ((full.length:Nat) : Int)-((k:Nat) : Int)=((C.l.length:Nat) : Int):=by
  rw[hl,List.length_drop]
  omega
theorem gO{w0:World}{m:Md}{A:Option Addr}{cp:Nat}{full:List Int}{w:World}{g:Nat}{C:ah}(hC:RC w0 m A cp full w g C) :
    Calls Tryz.prog 161 #[.pointer (some ⟨g,0,none⟩)] w (cL (.int .i64 ((C.l.length:Nat) : Int)) w):=by
 obtain⟨hsrc,hU,hnew,⟨k,hB,hk,hl⟩,hlen⟩:=hC
 have hcp:full.length≤1048576:=hlen
 refine en 13 Tryz.func161 rfl<|sg<|Pl 1<|nt<|sq<|Rg 11 (fun w'=>w'.cell? ⟨g,0,none⟩=some (.slice A full.length cp)∧w'.cell? ⟨g,1,none⟩=some (.int .i64 ((k:Nat) : Int))) fun d b=>?_
 have c:=ub b hB
 refine bh ⟨(ag c rfl),(ag c rfl)⟩ fun a=>Rt 0 a<|Rt 1 a<|Rt 2 a<|Rl 3 a (fun _ hs=>hs.1)<|Rt 4 a<|Rt 5 a<|Rt 6 a<|Rt 7 a<|Rl 8 a (fun _ hs=>hs.2)<|Rr 9 a (.int .i64 (((full.length:Nat) : Int)-((k:Nat) : Int))) (fun _ _=>cJ (.int .i64 (IntKind.i64.wrap (((full.length:Nat) : Int)-((k:Nat) : Int)))) (by kernel_rfl) (congrArg (Value.int .i64) (IntWalk.i64_in _ (by omega))))<|Rt 10 a<|re<|tn<|?_
 refine rt<|rr (.int .i64 (((full.length:Nat) : Int)-((k:Nat) : Int)))<|?_
 rw[uh hk hl]
 exact⟨rfl,b⟩
theorem dX{w0:World}{m:Md}{A:Option Addr}{cp:Nat}{full:List Int}{w:World}{g:Nat}{C:ah}(hC:RC w0 m A cp full w g C) :
    Calls Tryz.prog 157 #[.pointer (some ⟨g,0,none⟩)] w (ur w0 m A cp full g C.endC w):=by
 refine en 7 Tryz.func157 rfl<|go<|Pl 2<|L0<|Oc<|m1 (gO hC) fun e a=>?_
 have b:=RC.upd hC a ay (aD.step (RC.u hC) a)
 refine Pl 1<|L0<|Oc<|m2 (aV ((((C.l.length:Nat) : Int)==0)) 3 b) fun f c d=>nl<|rm (.tuple #[])<|?_
 exact⟨rfl,c,(u1 (aD.mono (S':=[g]) a aq) d im)⟩
theorem RC.clen{w0:World}{m:Md}{A:Option Addr}{cp:Nat}{full:List Int}{w:World}{g:Nat}{C:ah}(h:RC w0 m A cp full w g C) : C.l.length≤1048576:=by
  obtain⟨k,_,_,h2⟩:=h.cell
  have:=h.len
  rw[h2,List.length_drop]
  omega
theorem qQ{C:ah}(h:((((C.bytesR 1).length:Nat) : Int)==0)=true) : C.byteV=0:=by
  have hz:C.bytesR 1=[]:=List.eq_nil_of_length_eq_zero (by have:=al h;omega)
  unfold ah.byteV
  rw[hz]
  rfl
def oN (w0:World)(m:Md)(A:Option Addr)(cp:Nat)(full:List Int)(g:Nat)(q:IntKind)(M x:Int)(C:ah)(w:World)(e:Ending)(w':World) : Prop:=e = .returned (.int q x)∧RC w0 m A cp full w' g C∧aD [g] w w'∧0≤x∧x<M
theorem dG{w0:World}{m:Md}{A:Option Addr}{cp:Nat}{full:List Int}{w:World}{g:Nat}{C:ah}(hC:RC w0 m A cp full w g C) :
    Calls Tryz.prog 151 #[.pointer (some ⟨g,0,none⟩)] w (oN w0 m A cp full g .u8 256 C.byteV (C.bytesC 1) w):=by
 refine en 12 Tryz.func151 rfl<|sg<|Pl 1<|ng<|Pl 1<|L0<|Oc<|nJ (fc (n:=1) (by omega) hC) fun k l o d b c=>?_
 have q:=Nat.le_trans (ah.bytesR_le C 1) (RC.clen hC)
 refine Pl 1<|nt<|sq<|sg<|Pl 3<|nt<|cb (((((C.bytesR 1).length:Nat) : Int)==0)) (fun a=>?_) (fun a=>?_)
 have e:=al a
 refine sg<|Pl 1<|nt<|rt<|tr<|rr (.int .u8 0)<|?_
 exact⟨by rw[qQ a],b,c,kU (RC.rng hC)⟩
 have e:=ap a
 refine bo<|sg<|Pl 1<|fy (b9.at_ (d _ _ (RC.rd b)) 0 (by omega)) fun f h i j r=>L0<|jb ((C.bytesR 1).length) 0 i (by omega)<|L0<|dU (p:=⟨f,h+0,none⟩) (v:=.int .u8 ((C.bytesR 1).getD 0 0)) j<|Pl 1<|nt<|rt<|rr (.int .u8 ((C.bytesR 1).getD 0 0))<|?_
 exact⟨rfl,b,c,kU (RC.rng hC)⟩
theorem pK{C:ah}{full:List Int}{k:Nat}{n:Int}(hk:k≤full.length)(hl:C.l=full.drop k)(h:(decide (n<0)||decide (((full.length:Nat) : Int)<n))=true) : C.wordsR n=cH (C.bytesR (-1))∧C.wordsC n=C.bytesC (-1):=by
  have hb:C.wbad n=true:=by
    unfold ah.wbad
    simp only[Bool.or_eq_true,decide_eq_true_eq] at h ⊢
    rw[hl,List.length_drop]
    omega
  have hf:C.fails (-1)=true:=by
    unfold ah.fails
    simp
  constructor
  · unfold ah.wordsR ah.bytesR
    rw[hb,hf]
    rfl
  · unfold ah.wordsC
    rw[hb]
    rfl
theorem rG{C:ah}{full:List Int}{k:Nat}{n:Int}(hk:k≤full.length)(hl:C.l=full.drop k)(h:(decide (n<0)||decide (((full.length:Nat) : Int)<n))=false) : C.wordsR n=cH (C.bytesR (n+n))∧C.wordsC n=C.bytesC (n+n):=by
  simp only[Bool.or_eq_false_iff,decide_eq_false_iff_not] at h
  by_cases hw:((C.l.length:Int)<n)
  · have hb:C.wbad n=true:=by
      unfold ah.wbad
      simp only[Bool.or_eq_true,decide_eq_true_eq]
      omega
    have hf:C.fails (-1)=true:=by
      unfold ah.fails
      simp
    have hf2:C.fails (n+n)=true:=by
      unfold ah.fails
      simp only[Bool.or_eq_true,decide_eq_true_eq]
      omega
    constructor
    · unfold ah.wordsR ah.bytesR
      rw[hb,hf2]
      rfl
    · unfold ah.wordsC
      rw[hb]
      unfold ah.bytesC
      rw[hf2,hf]
      rfl
  · have hb:C.wbad n=false:=by
      unfold ah.wbad
      simp only[Bool.or_eq_false_iff,decide_eq_false_iff_not]
      omega
    constructor
    · unfold ah.wordsR
      rw[hb,show 2*n=n+n by omega]
      rfl
    · unfold ah.wordsC
      rw[hb,show 2*n=n+n by omega]
      rfl
def t8 (w0:World)(m:Md)(A:Option Addr)(cp:Nat)(full:List Int)(g:Nat)(C:ah)(n:Int)(w:World)(e:Ending)(w':World) : Prop:=∃ v,e = .returned v∧iX w.heap.size w' v (C.wordsR n)∧RC w0 m A cp full w' g (C.wordsC n)∧aD [g] w w'
theorem fw{w0:World}{m:Md}{A:Option Addr}{cp:Nat}{full:List Int}{w:World}{g:Nat}{C:ah}{n:Int}(hn : -1048576≤n∧n≤1048576)(hC:RC w0 m A cp full w g C) :
    Calls Tryz.prog 158 #[.pointer (some ⟨g,0,none⟩),.int .i64 n] w (t8 w0 m A cp full g C n w):=by
 have hC0:=hC
 obtain⟨hsrc,hU,hnew,⟨k,hB,hk,hl⟩,hlen⟩:=hC0
 refine en 25 Tryz.func158 rfl<|sg<|Pl 1<|nt<|sq<|sg<|Pl 3<|cu 8 [7] 15 (((decide (n<0))||(decide (((full.length:Nat) : Int)<n)))) (fun K h=>?_) ?_
 refine bl 7 ((decide (n<0))) (fun a=>?_) (fun a=>?_)
 have l:=of_decide_eq_true a
 exact Pl 8<|ce h true (by rw[a];rfl)
 have l:=of_decide_eq_false a
 exact Pl 4<|L1<|aR hB 0<|Pl 3<|ce h (decide (((full.length:Nat) : Int)<n)) (by rw[a];rfl)
 refine nt<|cb (((decide (n<0))||(decide (((full.length:Nat) : Int)<n)))) (fun b=>?_) (fun b=>?_)
 refine sg<|Pl 1<|?_
 have o:=RC.upd hC (aD.refl [] _) ay (aD.step hC.u (aD.refl [] _))
 refine L0<|Oc<|nJ (fc (n:=-1) (by omega) o) fun E F G p c i=>?_
 have H:=Nat.le_trans (ah.bytesR_le C (-1)) (RC.clen hC)
 refine L0<|Oc<|ep (uC (p _ _ (RC.rd c)) (by omega)) fun q r I s J L d=>Pl 1<|nt<|rt<|tr<|rr (.slice q ((cH (C.bytesR (-1))).length) r)<|?_
 have hw:=pK hk hl b
 exact⟨_,rfl,by rw[hw.1];exact(be.weaken s i.size),by rw[hw.2];exact(RC.upd c d ay (aD.step (RC.u c) d)),(aH i d)⟩
 have t:=(aJ b).1
 have v:=(aJ b).2
 have M:=of_decide_eq_false t
 have N:=of_decide_eq_false v
 refine bo<|sg<|Pl 3<|L0<|Oi (n+n)<|?_
 have x:=RC.upd hC (aD.refl [] _) ay (aD.step hC.u (aD.refl [] _))
 refine L0<|Oc<|nJ (fc (n:=(n+n)) (by omega) x) fun O P Q y e j=>?_
 have R:=Nat.le_trans (ah.bytesR_le C (n+n)) (RC.clen hC)
 refine L0<|Oc<|ep (uC (y _ _ (RC.rd e)) (by omega)) fun z B S D T U f=>Pl 1<|nt<|rt<|rr (.slice z ((cH (C.bytesR (n+n))).length) B)<|?_
 have hw:=rG hk hl b
 exact⟨_,rfl,by rw[hw.1];exact(be.weaken D j.size),by rw[hw.2];exact(RC.upd e f ay (aD.step (RC.u e) f)),(aH j f)⟩
theorem qU{C:ah}(h:((((C.wordsR 1).length:Nat) : Int)==0)=true) : C.wordV=0:=by
  have hz:C.wordsR 1=[]:=List.eq_nil_of_length_eq_zero (by have:=al h;omega)
  unfold ah.wordV
  rw[hz]
  rfl
theorem cO{w0:World}{m:Md}{A:Option Addr}{cp:Nat}{full:List Int}{w:World}{g:Nat}{C:ah}(hC:RC w0 m A cp full w g C) :
    Calls Tryz.prog 154 #[.pointer (some ⟨g,0,none⟩)] w (oN w0 m A cp full g .u16 65536 C.wordV (C.wordsC 1) w):=by
 refine en 12 Tryz.func154 rfl<|sg<|Pl 1<|ng<|Pl 1<|L0<|Oc<|lS (fw (n:=1) (by omega) hC) fun k l o d q r b c=>Pl 1<|nt<|sq<|?_
 refine sg<|Pl 3<|nt<|cb (((((C.wordsR 1).length:Nat) : Int)==0)) (fun a=>?_) (fun a=>?_)
 have e:=al a
 refine sg<|Pl 1<|nt<|rt<|tr<|rr (.int .u16 0)<|?_
 exact⟨by rw[qU a],b,c,bR (RC.rng hC)⟩
 have e:=ap a
 refine bo<|sg<|Pl 1<|fy (dN.at_ (d).rd 0 (by omega)) fun f h i j s=>L0<|jb ((C.wordsR 1).length) 0 i (by omega)<|L0<|dU (p:=⟨f,h+0,none⟩) (v:=.int .u16 ((C.wordsR 1).getD 0 0)) j<|Pl 1<|nt<|rt<|rr (.int .u16 ((C.wordsR 1).getD 0 0))<|?_
 exact⟨rfl,b,c,bR (RC.rng hC)⟩
theorem fj{w0:World}{m:Md}{A:Option Addr}{cp:Nat}{full:List Int}{w:World}{g:Nat}{C:ah}{G:Prop}(h:RC w0 m A cp full w g C)(k:∀ x,C=x→RC w0 m A cp full w g x→G) : G:=k C rfl h
open Go.RowKit
theorem qH{x:Int}(hx:0≤x∧x<65536) : dZ x=((decide (x≤4)||(decide (10≤x)&&decide (x≤18)))||x==20):=by
  unfold dZ
  rw[Bool.eq_iff_iff]
  simp only[decide_eq_true_eq,List.mem_cons,List.not_mem_nil,or_false,Bool.or_eq_true,Bool.and_eq_true,beq_iff_eq]
  omega
theorem ke{x:Int}(hx:0≤x∧x<256) : da x=((((decide (1≤x)&&decide (x≤6))||x==8)||x==10)||x==11):=by
  unfold da
  rw[Bool.eq_iff_iff]
  simp only[decide_eq_true_eq,List.mem_cons,List.not_mem_nil,or_false,Bool.or_eq_true,Bool.and_eq_true,beq_iff_eq]
  omega
theorem wn{x:Int}{w:World}(hx:0≤x∧x<65536) : Calls Tryz.prog 160 #[.int .u16 x] w (cL (.bool (dZ x)) w):=by
 refine en 17 Tryz.func160 rfl<|sg<|Pl 1<|ng<|Pl 3<|cu 7 [5] 12 (((decide (x≤4))||((decide (10≤x))&&(decide (x≤18))))) (fun K d=>?_) ?_
 refine bl 5 ((decide (x≤4))) (fun a=>?_) (fun a=>?_)
 have g:=of_decide_eq_true a
 exact Pl 7<|ce d true (by rw[a];rfl)
 have g:=of_decide_eq_false a
 refine Pl 3<|cu 3 [8] 11 (((decide (10≤x))&&(decide (x≤18)))) (fun K e=>?_) ?_
 refine bl 8 ((decide (10≤x))) (fun b=>?_) (fun b=>?_)
 have h:=of_decide_eq_true b
 exact Pl 3<|ce e (decide (x≤18)) (by rw[b];rfl)
 have h:=of_decide_eq_false b
 exact Pl 3<|ce e false (by rw[b];rfl)
 exact Pl 1<|ce d ((decide (10≤x))&&(decide (x≤18))) (by rw[a];rfl)
 refine Pl 1<|cu 3 [13] 16 ((((decide (x≤4))||((decide (10≤x))&&(decide (x≤18))))||(x==20))) (fun K f=>?_) ?_
 refine bl 13 (((decide (x≤4))||((decide (10≤x))&&(decide (x≤18))))) (fun c=>?_) (fun c=>?_)
 exact Pl 3<|ce f true (by rw[c];rfl)
 have i:=(aJ c).1
 have j:=(aJ c).2
 have k:=of_decide_eq_false i
 exact Pl 3<|ce f (x==20) (by rw[c];rfl)
 refine Pl 1<|nt<|rt<|rr (.bool (((decide (x≤4))||((decide (10≤x))&&(decide (x≤18))))||(x==20)))<|?_
 rw[qH hx]
 have hs:((decide (x≤4)||(decide (10≤x)&&decide (x≤18)))||x==20)=(((decide (x≤4))||((decide (10≤x))&&(decide (x≤18))))||(x==20)):=by(try simp only[Bool.true_or,Bool.false_or,Bool.true_and,Bool.false_and,Bool.or_true,Bool.or_false]);all_goals rfl
 rw[hs]
 exact⟨rfl,(aD.refl [] _)⟩
theorem rU{x:Int}{w:World}(hx:0≤x∧x<256) : Calls Tryz.prog 149 #[.int .u8 x] w (cL (.bool (da x)) w):=by
 refine en 21 Tryz.func149 rfl<|sg<|Pl 1<|ng<|Pl 3<|cu 3 [5] 8 (((decide (1≤x))&&(decide (x≤6)))) (fun K e=>?_) ?_
 refine bl 5 ((decide (1≤x))) (fun a=>?_) (fun a=>?_)
 have j:=of_decide_eq_true a
 exact Pl 3<|ce e (decide (x≤6)) (by rw[a];rfl)
 have j:=of_decide_eq_false a
 exact Pl 3<|ce e false (by rw[a];rfl)
 refine Pl 1<|cu 3 [9] 12 ((((decide (1≤x))&&(decide (x≤6)))||(x==8))) (fun K f=>?_) ?_
 refine bl 9 (((decide (1≤x))&&(decide (x≤6)))) (fun b=>?_) (fun b=>?_)
 have k:=(aS b).1
 have l:=(aS b).2
 have p:=of_decide_eq_true k
 have q:=of_decide_eq_true l
 exact Pl 3<|ce f true (by rw[b];rfl)
 exact Pl 3<|ce f (x==8) (by rw[b];rfl)
 refine Pl 1<|cu 3 [13] 16 (((((decide (1≤x))&&(decide (x≤6)))||(x==8))||(x==10))) (fun K g=>?_) ?_
 refine bl 13 ((((decide (1≤x))&&(decide (x≤6)))||(x==8))) (fun c=>?_) (fun c=>?_)
 exact Pl 3<|ce g true (by rw[c];rfl)
 have r:=(aJ c).1
 have m:=(aJ c).2
 have s:=ap m
 exact Pl 3<|ce g (x==10) (by rw[c];rfl)
 refine Pl 1<|cu 3 [17] 20 ((((((decide (1≤x))&&(decide (x≤6)))||(x==8))||(x==10))||(x==11))) (fun K h=>?_) ?_
 refine bl 17 (((((decide (1≤x))&&(decide (x≤6)))||(x==8))||(x==10))) (fun d=>?_) (fun d=>?_)
 exact Pl 3<|ce h true (by rw[d];rfl)
 have i:=(aJ d).1
 have n:=(aJ d).2
 have t:=(aJ i).1
 have o:=(aJ i).2
 have q16abp:=ap o
 have u:=ap n
 exact Pl 3<|ce h (x==11) (by rw[d];rfl)
 refine Pl 1<|nt<|rt<|rr (.bool (((((decide (1≤x))&&(decide (x≤6)))||(x==8))||(x==10))||(x==11)))<|?_
 rw[ke hx]
 have hs:((((decide (1≤x)&&decide (x≤6))||x==8)||x==10)||x==11)=(((((decide (1≤x))&&(decide (x≤6)))||(x==8))||(x==10))||(x==11)):=by(try simp only[Bool.true_or,Bool.false_or,Bool.true_and,Bool.false_and,Bool.or_true,Bool.or_false]);all_goals rfl
 rw[hs]
 exact⟨rfl,(aD.refl [] _)⟩
theorem gF{dir sub v:Int}:eQ dir sub v=if sub==1 then (v==0 || v==65280) else if sub==3 then v%256==0 else if dir==1&&(sub==2 || (decide (11≤sub)&&decide (sub≤18))) then true else v==0:=by
  unfold eQ
  by_cases h1:sub=1
  · subst h1
    rfl
  by_cases h3:sub=3
  · subst h3
    rfl
  have e1:(sub==1)=false:=by simpa using h1
  have e3:(sub==3)=false:=by simpa using h3
  rw[e1,e3,Bool.and_comm]
  rfl
theorem wb{dir sub v:Int}{w:World}(hv:0≤v∧v<65536) : Calls Tryz.prog 162 #[.int .i64 dir,.int .u16 sub,.int .u16 v] w (cL (.bool (eQ dir sub v)) w):=by
 refine en 39 Tryz.func162 rfl<|sg<|Pl 1<|nt<|sq<|bk<|sg<|Pl 3<|nt<|cb ((sub==1)) (fun a=>?_) (fun a=>?_)
 have m:=al a
 refine sg<|Pl 3<|cu 3 [12] 15 (((v==0)||(v==65280))) (fun K h=>?_) ?_
 refine bl 12 ((v==0)) (fun c=>?_) (fun c=>?_)
 have n:=al c
 exact Pl 3<|ce h true (by rw[c];rfl)
 have n:=ap c
 exact Pl 3<|ce h (v==65280) (by rw[c];rfl)
 refine Pl 1<|nt<|rt<|br<|tr<|rr (.bool ((v==0)||(v==65280)))<|?_
 have hs:eQ dir sub v=((v==0)||(v==65280)):=by
   rw[gF]
   (try simp only[a,bs,if_true,if_false,decide_true,decide_false,reduceIte])
   all_goals rfl
 rw[hs]
 exact⟨rfl,(aD.refl [] _)⟩
 have m:=ap a
 refine sg<|Pl 3<|nt<|cb ((sub==3)) (fun b=>?_) (fun b=>?_)
 have o:=al b
 refine sg<|Pl 1<|L0<|Oe (.int .u16 (Int.tmod v 256)) (.int .u16 (v%256)) (congrArg (Value.int .u16) (Int.tmod_eq_emod_of_nonneg (by omega)))<|Pl 2<|nt<|rt<|br<|tr<|rr (.bool ((v%256)==0))<|?_
 have hs:eQ dir sub v=((v%256)==0):=by
   rw[gF]
   (try simp only[a,b,bs,if_true,if_false,decide_true,decide_false,reduceIte])
   all_goals rfl
 rw[hs]
 exact⟨rfl,(aD.refl [] _)⟩
 have o:=ap b
 refine sg<|Pl 3<|cu 11 [25] 36 (((dir==1)&&((sub==2)||((decide (11≤sub))&&(decide (sub≤18)))))) (fun K i=>?_) ?_
 refine bl 25 ((dir==1)) (fun d=>?_) (fun d=>?_)
 have p:=al d
 refine Pl 3<|cu 7 [28] 35 (((sub==2)||((decide (11≤sub))&&(decide (sub≤18))))) (fun K j=>?_) ?_
 refine bl 28 ((sub==2)) (fun e=>?_) (fun e=>?_)
 have q:=al e
 exact Pl 7<|ce j true (by rw[e];rfl)
 have q:=ap e
 refine Pl 3<|cu 3 [31] 34 (((decide (11≤sub))&&(decide (sub≤18)))) (fun K k=>?_) ?_
 refine bl 31 ((decide (11≤sub))) (fun f=>?_) (fun f=>?_)
 have r:=of_decide_eq_true f
 exact Pl 3<|ce k (decide (sub≤18)) (by rw[f];rfl)
 have r:=of_decide_eq_false f
 exact Pl 3<|ce k false (by rw[f];rfl)
 exact Pl 1<|ce j ((decide (11≤sub))&&(decide (sub≤18))) (by rw[e];rfl)
 exact Pl 1<|ce i ((sub==2)||((decide (11≤sub))&&(decide (sub≤18)))) (by rw[d];rfl)
 have p:=ap d
 exact Pl 11<|ce i false (by rw[d];rfl)
 refine Pl 1<|nt<|cb (((dir==1)&&((sub==2)||((decide (11≤sub))&&(decide (sub≤18)))))) (fun g=>?_) (fun g=>?_)
 have l:=(aS g).1
 have s:=(aS g).2
 have t:=al l
 refine sg<|Pl 1<|nt<|rt<|br<|tr<|rr (.bool true)<|?_
 have hs:eQ dir sub v=true:=by
   rw[gF]
   (try simp only[a,b,g,l,s,bs,if_true,if_false,decide_true,decide_false,reduceIte])
   all_goals rfl
 rw[hs]
 exact⟨rfl,(aD.refl [] _)⟩
 refine sk<|bn<|tn<|sg<|Pl 3<|nt<|rt<|rr (.bool (v==0))<|?_
 have hs:eQ dir sub v=(v==0):=by
   rw[gF]
   (try simp only[a,b,g,bs,if_true,if_false,decide_true,decide_false,reduceIte])
   all_goals rfl
 rw[hs]
 exact⟨rfl,(aD.refl [] _)⟩
open Go.RowKit
theorem RC.lt{w0:World}{m:Md}{A:Option Addr}{cp:Nat}{full:List Int}{w:World}{g:Nat}{C:ah}(h:RC w0 m A cp full w g C) : g<w.heap.size:=by
  obtain⟨k,h1,_⟩:=h.cell
  exact ak h1
theorem RC.fld{w0:World}{m:Md}{A:Option Addr}{cp:Nat}{full:List Int}{w:World}{g:Nat}{C:ah}(h:RC w0 m A cp full w g C) : w.cell? ⟨g,3,none⟩=some (.int .i64 C.e):=by
  obtain⟨k,h1,_⟩:=h.cell
  rw[bu h1]
  rfl
theorem nH{c:Int}{C:ah}(h:(((c==3)||(c==4))||(c==23))=true) : aI 1 c C=some (bO c C):=by
  unfold aI
  by_cases h1:(c==3 || c==4)=true
  · rw[if_pos h1]
    rfl
  · rw[if_neg h1]
    have h2:c=23:=by
      simp only[Bool.or_eq_true,beq_iff_eq] at h h1
      omega
    subst h2
    rfl
theorem j0{n m:Int}:((n%2==0&&decide (0<n))&&decide (n≤m))=iF n m:=by
  unfold iF
  rw[Bool.eq_iff_iff]
  simp only[Bool.and_eq_true,decide_eq_true_eq,beq_iff_eq]
  omega
theorem iY{a k:Int}:(a==2*k+2)=(2+2*k==a):=by
  rw[Bool.eq_iff_iff]
  simp only[beq_iff_eq]
  omega
theorem dk{x:Int}:decide (0<x)=decide (1≤x):=by
  rw[Bool.eq_iff_iff]
  simp only[decide_eq_true_eq]
  omega
theorem jC{w0:World}{m:Md}{A:Option Addr}{cp:Nat}{full:List Int}{w:World}{g:Nat}{C:ah}{a most:Int}(ha:0≤a∧a<65536)(hC:RC w0 m A cp full w g C) :
    Calls Tryz.prog 159 #[.pointer (some ⟨g,0,none⟩),.int .u16 a,.int .i64 most] w (oN w0 m A cp full g .i64 65536 C.wordV (bJ C a most) w):=by
 have hrng:=bR (RC.rng hC)
 refine en 26 Tryz.func159 rfl<|sg<|Pl 1<|ng<|Pl 1<|L0<|Oc<|m3 (cO hC) fun r f h s=>L0<|Oi C.wordV<|Pl 1<|nt<|?_
 refine sg<|Pl 4<|cu 4 [14] 18 (((decide (0<C.wordV))&&(decide (C.wordV≤most)))) (fun K d=>?_) ?_
 refine bl 14 ((decide (0<C.wordV))) (fun b=>?_) (fun b=>?_)
 have i:=of_decide_eq_true b
 exact Pl 4<|ce d (decide (C.wordV≤most)) (by rw[b];rfl)
 have i:=of_decide_eq_false b
 exact Pl 4<|ce d false (by rw[b];rfl)
 refine L0<|Oc<|m2 (aV (((decide (0<C.wordV))&&(decide (C.wordV≤most)))) 5 f) fun j k l=>?_
 refine fj k fun x19 o e=>?_
 refine ng<|Pl 3<|L0<|Oc<|m1 (oT (a:=a) (n:=C.wordV) (w:=j) (by omega) (by omega)) fun t c=>?_
 refine L0<|Oc<|m2 (aV ((dh a C.wordV)) 7 (RC.upd e c ay (aD.step (RC.u e) c))) fun v p q=>ng<|Pl 2<|nt<|rt<|rr (.int .i64 C.wordV)<|?_
 subst o
 have e1:bJ C a most=((C.wordsC 1).need (decide (0<C.wordV)&&decide (C.wordV≤most)) 5).need (dh a C.wordV) 7:=by unfold bJ;rw[← dk]
 rw[e1]
 exact⟨rfl,p,(u1 h (u1 l (uz c q) im) im),hrng⟩
theorem aK.upd0{α:Type}{m:Md}{e:TypeId}{sz:Nat}{R R':World→α→List Value→Prop}{w:World}{v:Value}{xs:List α}(h:aK m e sz R w v xs)(hR:∀ x cs,R w x cs→R' w x cs) : aK m e sz R' w v xs:=by
  obtain⟨A,c,rfl,h1,h2,h0,h3⟩:=h
  refine⟨A,c,rfl,h1,h2,h0,fun hp=>?_⟩
  obtain⟨b,off,cells,t,fr,rfl,hb,ht,hx⟩:=h3 hp
  exact⟨b,off,cells,t,fr,rfl,hb,ht,fun j x hj=>by obtain⟨cs,hl,hr,hc⟩:=hx j x hj;exact⟨cs,hl,hR _ _ hr,hc⟩⟩
def nn (v0:Value)(b:List Int)(w:World)(o:Obj)(cs:List Value) : Prop:=∃ A n c,cs=[.int .u8 o.id,.slice A n c]∧(∀ m' w',b9 m' w' v0 b→b9 m' w' (.slice A n c) o.value)∧B8 o.id
theorem nn.ones{v0:Value}{b:List Int}{w:World}(x:Obj)(cs:List Value)(h:nn v0 b w x cs) : ∀ v,v∈cs→v.oneCell'=true:=by
  obtain⟨A,n,c,rfl,h2,_⟩:=h
  intro u hu
  simp at hu
  rcases hu with rfl|rfl<;>rfl
def di (v0:Value)(b:List Int)(w:World)(cs:List Value)(M:aP) : Prop :=
  ∃ vw vb vd vr vo,cs=bQ M vw vb vd vr vo∧dN true w vw M.words∧gq true w vb M.bits∧(∀ m' w',b9 m' w' v0 b→b9 m' w' vd M.data)∧l7 true w vr M.recs∧aK true 111 2 (nn v0 b) w vo M.objects∧eT M
theorem di.rd{v0:Value}{b:List Int}{m:Md}{w:World}{cs:List Value}{M:aP}(h:di v0 b w cs M)(hb:b9 m w v0 b) : aW false w cs M:=by
  obtain⟨vw,vb,vd,vr,vo,h0,h1,h2,h3,h4,h5,h6⟩:=h
  exact⟨vw,vb,vd,vr,vo,h0,aK.any h1 fun _ _ q=>q,aK.any h2 fun _ _ q=>q,aK.any (h3 _ _ hb) fun _ _ q=>q,aK.any h4 fun r cs ⟨v,a,b,c⟩=>⟨v,a,aK.any b fun _ _ q=>q,c⟩,aK.any h5 fun r cs ⟨A,n,k,a,b,c⟩=>⟨_,a,aK.any (b _ _ hb) fun _ _ q=>q,c⟩,h6⟩
theorem di.rdt{v0:Value}{b:List Int}{w:World}{cs:List Value}{M:aP}(h:di v0 b w cs M)(hb:b9 true w v0 b) : aW true w cs M:=by
  obtain⟨vw,vb,vd,vr,vo,h0,h1,h2,h3,h4,h5,h6⟩:=h
  exact⟨vw,vb,vd,vr,vo,h0,h1,h2,h3 _ _ hb,h4,aK.upd0 h5 fun r cs ⟨A,n,k,a,b,c⟩=>⟨_,a,b _ _ hb,c⟩,h6⟩
theorem di.sub{v0 v1:Value}{b b1:List Int}{w:World}{cs:List Value}{M:aP}(h:di v1 b1 w cs M)(hv:∀ m' w',b9 m' w' v0 b→b9 m' w' v1 b1) : di v0 b w cs M:=by
  obtain⟨vw,vb,vd,vr,vo,h0,h1,h2,h3,h4,h5,h6⟩:=h
  exact⟨vw,vb,vd,vr,vo,h0,h1,h2,fun m' w' q=>h3 _ _ (hv _ _ q),h4,aK.upd0 h5 fun r cs ⟨A,n,k,a,b,c⟩=>⟨A,n,k,a,fun m' w' q=>b _ _ (hv _ _ q),c⟩,h6⟩
theorem di.upd{v0:Value}{b:List Int}{w w':World}{cs:List Value}{M:aP}{S:List Nat}(h:di v0 b w cs M)(hu:aD S w w')(hs:cW true lq S w) : di v0 b w' cs M:=by
  obtain⟨vw,vb,vd,vr,vo,h0,h1,h2,h3,h4,h5,h6⟩:=h
  exact⟨vw,vb,vd,vr,vo,h0,dN.upd' h1 hu (hs.sub (by decide)),gq.upd' h2 hu (hs.sub (by decide)),h3,l7.upd' h4 hu hs,aK.upd h5 hu (hs.sub (by decide)) (fun _ _ q=>q),h6⟩
theorem di.zero(v0:Value)(b:List Int)(w:World) : di v0 b w ky.toList aP.zero:=by
  obtain⟨vw,vb,vd,vr,vo,h0,h1,h2,h3,h4,h5,h6⟩:=aW.zero true w
  exact⟨_,_,_,_,_,rfl,aK.nil ..,aK.nil ..,(fun _ _ _=>aK.nil ..),aK.nil ..,aK.nil ..,h6⟩
theorem di.size{v0:Value}{b:List Int}{w:World}{cs:Array Value}{M:aP}(h:di v0 b w cs.toList M) : cs.size=22:=by
  obtain⟨vw,vb,vd,vr,vo,h0,_⟩:=h
  rw[← Array.length_toList,h0]
  rfl
theorem di.one{v0:Value}{b:List Int}{w w2:World}{m:Md}{cs:Array Value}{M:aP}(h:di v0 b w cs.toList M)(hb:b9 m w2 v0 b) : cs.all (·.oneCell')=true:=by
  obtain⟨vw,vb,vd,vr,vo,h0,h1,h2,h3,h4,h5,h6⟩:=h
  rw[← Array.all_toList,h0]
  obtain⟨_,_,rfl,_⟩:=h1
  obtain⟨_,_,rfl,_⟩:=h2
  obtain⟨_,_,rfl,_⟩:=h3 _ _ hb
  obtain⟨_,_,rfl,_⟩:=h4
  obtain⟨_,_,rfl,_⟩:=h5
  rfl
def d9 (v0:Value)(b:List Int)(res:aP × Int)(w:World)(e:Ending)(w':World) : Prop:=∃ cs,e = .returned (.tuple #[.agg cs,.int .i64 res.2])∧di v0 b w' cs.toList res.1∧aD [] w w'
theorem bj{v0:Value}{b:List Int}{M:aP}{c:ah}{w W:World}{cs:Array Value}(h0:c.endC.e=0)(h:di v0 b W cs.toList M)(hu:aD [] w W) : d9 v0 b (aF M c) w (.returned (.tuple #[.agg cs,.int .i64 0])) W:=by
  unfold aF
  rw[if_pos h0]
  exact⟨cs,rfl,h,hu⟩
theorem bg{v0:Value}{b:List Int}{M:aP}{c:ah}{w W:World}(h0:¬ c.endC.e=0)(hu:aD [] w W) : d9 v0 b (aF M c) w (.returned (.tuple #[.agg ky,.int .i64 c.endC.e])) W:=by
  unfold aF
  rw[if_neg h0]
  exact⟨ky,rfl,di.zero ..,hu⟩
theorem bv{v0:Value}{b:List Int}{x:Int}{w W:World}(hu:aD [] w W) : d9 v0 b (aP.zero,x) w (.returned (.tuple #[.agg ky,.int .i64 x])) W:=⟨ky,rfl,di.zero ..,hu⟩
theorem kk{m:Md}{A:Option Addr}{cp:Nat}{b:List Int}{w:World}{c:Int}(hcode:B8 c)(hsl:b9 m w (.slice A b.length cp) b)(hb:b.length≤1048576) :
    Calls Tryz.prog 94 #[.int .i64 0,.int .u8 c,.slice A b.length cp] w (d9 (.slice A b.length cp) b (ae aI 0 c b) w):=by
 obtain⟨hcode1,hcode2⟩:=hcode
 have hln:(b.length:Int)≤1048576:=by omega
 refine en 221 Tryz.func94 rfl<|sg<|L0<|bI mZ fun eH eI t k f=>Pl 1<|nt<|sq<|sg<|Pl 6<|nt<|c0<|?_
 refine bo<|sg<|Pl 2<|L0<|dz #[.slice A b.length cp,.int .i64 0,.bool false,.int .i64 0] fun l eJ d o i=>Pl 1<|ng<|Pl 2<|L0<|bI mZ fun eK eL g a8 H=>L0<|b6 a8 (mC c) fun a6 a7 y=>?_
 refine nt<|sq<|bk<|sg<|Pl 15<|nt<|c0<|sg<|Pl 3<|cu 3 [68] 71 (((c==3)||(c==4))) (fun K bQ=>?_) ?_
 refine bl 68 ((c==3)) (fun a9=>?_) (fun a9=>?_)
 have dq:=al a9
 exact Pl 3<|ce bQ true (by rw[a9];rfl)
 have dq:=ap a9
 exact Pl 3<|ce bQ (c==4) (by rw[a9];rfl)
 refine Pl 1<|nt<|?_
 have a0:=ud H y g
 have r:=aH i a0
 have z:=aH f r
 refine cb (((c==3)||(c==4))) (fun q=>?_) (fun q=>?_)
 refine sg<|Pl 1<|?_
 have dr:RC w _ A cp b a6 l (ah.mk b false 0):=⟨hsl,z,(Nat.le_trans f.size d),⟨0,(ub a0 o),Nat.zero_le _,rfl⟩,by omega⟩
 refine L0<|Oc<|m3 (cO dr) fun eM ds bR eN=>Pl 1<|?_
 have ab:=nb (ak o) lr g
 refine L0<|bT (aU bR (Ne.symm ab) a7) 2 (mG c 0 ((ah.mk b false 0).wordV) 0 0 0 0 0 0 0 0 0 nS nS nS nS 0 0 0 0 0 nS) fun eO bS bU=>nt<|go<|Pl 2<|L0<|aR bS 2<|?_
 have b3:=us bR bU
 have bV:=ut z b3 (ac (ni f.size d) (ac (ni (le f.size i.size) g) aq))
 refine L0<|Oc<|m3 (jC (a:=(ah.mk b false 0).wordV) (most:=125) (by omega) (RC.upd ds bU (aa ab ay) bV)) fun eP dt bW eQ=>?_
 refine fj dt fun x52 bX du=>?_
 refine L0<|vF (((ah.mk b false 0).wordsC 1).wordV)<|Pl 1<|?_
 refine L0<|bT (aU bW (Ne.symm ab) bS) 3 (mG c 0 ((ah.mk b false 0).wordV) (((ah.mk b false 0).wordsC 1).wordV) 0 0 0 0 0 0 0 0 nS nS nS nS 0 0 0 0 0 nS) fun eR dv bY=>nl<|bn<|tn<|sg<|Pl 1<|?_
 have b4:=us bW bY
 have c2:=ut bV b4 (ac (ni f.size d) (ac (ni (le f.size i.size) g) aq))
 refine L0<|Oc<|m2 (dX (RC.upd du bY (aa ab ay) c2)) fun eS b5 aN=>nt<|sq<|sg<|Pl 3<|L0<|dU (p:=⟨l,3,none⟩) (v:=.int .i64 x52.endC.e) (RC.fld b5)<|Pl 1<|nt<|?_
 have c3:=ud c2 aN (le f.size d)
 refine cb ((x52.endC.e != 0)) (fun ad=>?_) (fun ad=>?_)
 have b7:=au ad
 refine sq<|Rg 7 (fun w'=>w'.cell? ⟨l,3,none⟩=some (.int .i64 x52.endC.e)) fun eT aO=>?_
 have c4:=RC.upd b5 aO ay (aD.step (RC.u b5) aO)
 refine bh (RC.fld c4) fun af=>Rt 0 af<|Rt 1 af<|Rt 2 af<|Rt 3 af<|Rl 4 af (fun _ hs=>hs)<|?_
 refine R0 5 rfl<|b6 (ub (ut r (ut b3 (u1 b4 (aH aN aO) im) (ac im (ac im aq))) (ac (nr d) (ac (ni i.size g) aq))) k) mZ fun eU dw c5=>?_
 have c6:=ud c3 (uz aO c5) t
 refine bh (RC.fld (RC.upd c4 c5 (aa (Ne.symm (nb (ak k) lr d)) ay) c6)) fun dx=>Rt 6 dx<|re<|tn<|rt<|tr<|bF dw (.int .i64 x52.endC.e)<|?_
 have hs:ae aI 0 c b=aF (aP.mk c 0 ((ah.mk b false 0).wordV) (((ah.mk b false 0).wordsC 1).wordV) 0 0 0 0 0 0 0 0 [] [] [] [] 0 0 0 0 0 []) x52:=by
   subst bX
   unfold ae aI bK bO cT cC cm cA cy gN
   (try simp only[q,ad,bs,if_true,if_false,decide_true,decide_false,eq_self,true_or,or_true,or_false,false_or,if_true,if_false,ch,cg,cc,bZ,reduceIte,j0,iY])
   all_goals rfl
 rw[hs]
 exact bg b7 c6
 have b7:=ai ad
 refine bo<|sg<|?_
 refine L0<|cl (aU aN (Ne.symm ab) dv)<|?_
 refine L0<|b6 (ub (ut r (ut b3 (u1 b4 aN im) (ac im (ac im aq))) (ac (nr d) (ac (ni i.size g) aq))) k) (mG c 0 ((ah.mk b false 0).wordV) (((ah.mk b false 0).wordsC 1).wordV) 0 0 0 0 0 0 0 0 nS nS nS nS 0 0 0 0 0 nS) fun eV dy dA=>Pl 1<|nt<|rt<|bF dy (.int .i64 0)<|?_
 have hs:ae aI 0 c b=aF (aP.mk c 0 ((ah.mk b false 0).wordV) (((ah.mk b false 0).wordsC 1).wordV) 0 0 0 0 0 0 0 0 [] [] [] [] 0 0 0 0 0 []) x52:=by
   subst bX
   unfold ae aI bK bO cT cC cm cA cy gN
   (try simp only[q,ad,bs,if_true,if_false,decide_true,decide_false,eq_self,true_or,or_true,or_false,false_or,if_true,if_false,ch,cg,cc,bZ,reduceIte,j0,iY])
   all_goals rfl
 rw[hs]
 exact bj b7 ⟨_,_,_,_,_,rfl,aK.nil ..,aK.nil ..,(fun _ _ _=>aK.nil ..),aK.nil ..,aK.nil ..,⟨(b8 (x:=c) (by omega)),(b8 (x:=0) (by omega)),(aC (x:=(ah.mk b false 0).wordV) (by omega)),(aC (x:=((ah.mk b false 0).wordsC 1).wordV) (by omega)),(aC (x:=0) (by omega)),(aC (x:=0) (by omega)),(aC (x:=0) (by omega)),(aC (x:=0) (by omega)),(aC (x:=0) (by omega)),(aC (x:=0) (by omega)),(aC (x:=0) (by omega)),(aC (x:=0) (by omega)),(b8 (x:=0) (by omega)),(b8 (x:=0) (by omega)),(b8 (x:=0) (by omega)),(b8 (x:=0) (by omega)),(b8 (x:=0) (by omega))⟩⟩ (ud c3 dA t)
 have B:=(aJ q).1
 have C:=(aJ q).2
 have eW:=ap B
 have eX:=ap C
 refine sg<|Pl 3<|nt<|cb ((c==6)) (fun s=>?_) (fun s=>?_)
 have dB:=al s
 refine sg<|Pl 1<|?_
 have dC:RC w _ A cp b a6 l (ah.mk b false 0):=⟨hsl,z,(Nat.le_trans f.size d),⟨0,(ub a0 o),Nat.zero_le _,rfl⟩,by omega⟩
 refine L0<|Oc<|m3 (cO dC) fun eY dD c7 eZ=>Pl 1<|?_
 have ag:=nb (ak o) lr g
 refine L0<|bT (aU c7 (Ne.symm ag) a7) 2 (mG c 0 ((ah.mk b false 0).wordV) 0 0 0 0 0 0 0 0 0 nS nS nS nS 0 0 0 0 0 nS) fun f0 dE c8=>nt<|go<|Pl 1<|?_
 have ba:=us c7 c8
 have c9:=ut z ba (ac (ni f.size d) (ac (ni (le f.size i.size) g) aq))
 refine L0<|Oc<|m3 (cO (RC.upd dD c8 (aa ag ay) c9)) fun f1 dF ca f2=>Pl 1<|?_
 refine L0<|bT (aU ca (Ne.symm ag) dE) 4 (mG c 0 ((ah.mk b false 0).wordV) 0 (((ah.mk b false 0).wordsC 1).wordV) 0 0 0 0 0 0 0 nS nS nS nS 0 0 0 0 0 nS) fun f3 dH cd=>nl<|bn<|tn<|sg<|Pl 1<|?_
 have bb:=us ca cd
 have ci:=ut c9 bb (ac (ni f.size d) (ac (ni (le f.size i.size) g) aq))
 refine L0<|Oc<|m2 (dX (RC.upd dF cd (aa ag ay) ci)) fun f4 bc aQ=>nt<|sq<|sg<|Pl 3<|L0<|dU (p:=⟨l,3,none⟩) (v:=.int .i64 (((((ah.mk b false 0).wordsC 1).wordsC 1).endC).e)) (RC.fld bc)<|Pl 1<|nt<|?_
 have cj:=ud ci aQ (le f.size d)
 refine cb (((((((ah.mk b false 0).wordsC 1).wordsC 1).endC).e)!=0)) (fun aj=>?_) (fun aj=>?_)
 have bd:=au aj
 refine sq<|Rg 7 (fun w'=>w'.cell? ⟨l,3,none⟩=some (.int .i64 (((((ah.mk b false 0).wordsC 1).wordsC 1).endC).e))) fun f5 aS=>?_
 have ck:=RC.upd bc aS ay (aD.step (RC.u bc) aS)
 refine bh (RC.fld ck) fun am=>Rt 0 am<|Rt 1 am<|Rt 2 am<|Rt 3 am<|Rl 4 am (fun _ hs=>hs)<|?_
 refine R0 5 rfl<|b6 (ub (ut r (ut ba (u1 bb (aH aQ aS) im) (ac im (ac im aq))) (ac (nr d) (ac (ni i.size g) aq))) k) mZ fun f6 dI cn=>?_
 have co:=ud cj (uz aS cn) t
 refine bh (RC.fld (RC.upd ck cn (aa (Ne.symm (nb (ak k) lr d)) ay) co)) fun dJ=>Rt 6 dJ<|re<|tn<|rt<|tr<|bF dI (.int .i64 (((((ah.mk b false 0).wordsC 1).wordsC 1).endC).e))<|?_
 have hs:ae aI 0 c b=aF (aP.mk c 0 ((ah.mk b false 0).wordV) 0 (((ah.mk b false 0).wordsC 1).wordV) 0 0 0 0 0 0 0 [] [] [] [] 0 0 0 0 0 []) (((ah.mk b false 0).wordsC 1).wordsC 1):=by
   unfold ae aI bK bO cT cC cm cA cy gN
   (try simp only[q,B,C,s,aj,bs,if_true,if_false,decide_true,decide_false,eq_self,true_or,or_true,or_false,false_or,if_true,if_false,ch,cg,cc,bZ,reduceIte,j0,iY])
   all_goals rfl
 rw[hs]
 exact bg bd co
 have bd:=ai aj
 refine bo<|sg<|?_
 refine L0<|cl (aU aQ (Ne.symm ag) dH)<|?_
 refine L0<|b6 (ub (ut r (ut ba (u1 bb aQ im) (ac im (ac im aq))) (ac (nr d) (ac (ni i.size g) aq))) k) (mG c 0 ((ah.mk b false 0).wordV) 0 (((ah.mk b false 0).wordsC 1).wordV) 0 0 0 0 0 0 0 nS nS nS nS 0 0 0 0 0 nS) fun f7 dK dL=>Pl 1<|nt<|rt<|bF dK (.int .i64 0)<|?_
 have hs:ae aI 0 c b=aF (aP.mk c 0 ((ah.mk b false 0).wordV) 0 (((ah.mk b false 0).wordsC 1).wordV) 0 0 0 0 0 0 0 [] [] [] [] 0 0 0 0 0 []) (((ah.mk b false 0).wordsC 1).wordsC 1):=by
   unfold ae aI bK bO cT cC cm cA cy gN
   (try simp only[q,B,C,s,aj,bs,if_true,if_false,decide_true,decide_false,eq_self,true_or,or_true,or_false,false_or,if_true,if_false,ch,cg,cc,bZ,reduceIte,j0,iY])
   all_goals rfl
 rw[hs]
 exact bj bd ⟨_,_,_,_,_,rfl,aK.nil ..,aK.nil ..,(fun _ _ _=>aK.nil ..),aK.nil ..,aK.nil ..,⟨(b8 (x:=c) (by omega)),(b8 (x:=0) (by omega)),(aC (x:=(ah.mk b false 0).wordV) (by omega)),(aC (x:=0) (by omega)),(aC (x:=((ah.mk b false 0).wordsC 1).wordV) (by omega)),(aC (x:=0) (by omega)),(aC (x:=0) (by omega)),(aC (x:=0) (by omega)),(aC (x:=0) (by omega)),(aC (x:=0) (by omega)),(aC (x:=0) (by omega)),(aC (x:=0) (by omega)),(b8 (x:=0) (by omega)),(b8 (x:=0) (by omega)),(b8 (x:=0) (by omega)),(b8 (x:=0) (by omega)),(b8 (x:=0) (by omega))⟩⟩ (ud cj dL t)
 have dB:=ap s
 refine sg<|Pl 3<|nt<|cb ((c==16)) (fun D=>?_) (fun D=>?_)
 have dM:=al D
 refine sg<|Pl 1<|?_
 have dN:RC w _ A cp b a6 l (ah.mk b false 0):=⟨hsl,z,(Nat.le_trans f.size d),⟨0,(ub a0 o),Nat.zero_le _,rfl⟩,by omega⟩
 refine L0<|Oc<|m3 (cO dN) fun f8 dO L f9=>Pl 1<|?_
 have I:=nb (ak o) lr g
 refine L0<|bT (aU L (Ne.symm I) a7) 2 (mG c 0 ((ah.mk b false 0).wordV) 0 0 0 0 0 0 0 0 0 nS nS nS nS 0 0 0 0 0 nS) fun fa cq M=>ng<|Pl 2<|L0<|aR cq 2<|?_
 have be:=us L M
 have cr:=ut z be (ac (ni f.size d) (ac (ni (le f.size i.size) g) aq))
 refine L0<|Oc<|m3 (jC (a:=(ah.mk b false 0).wordV) (most:=123) (by omega) (RC.upd dO M (aa I ay) cr)) fun fb dP N fc=>?_
 refine fj dP fun cs ct dQ=>?_
 refine L0<|vF (((ah.mk b false 0).wordsC 1).wordV)<|Pl 1<|?_
 refine L0<|bT (aU N (Ne.symm I) cq) 3 (mG c 0 ((ah.mk b false 0).wordV) (((ah.mk b false 0).wordsC 1).wordV) 0 0 0 0 0 0 0 0 nS nS nS nS 0 0 0 0 0 nS) fun fd dR O=>ng<|Pl 2<|nt<|c1<|sg<|Pl 1<|?_
 have bf:=us N O
 have cv:=ut cr bf (ac (ni f.size d) (ac (ni (le f.size i.size) g) aq))
 refine L0<|Oc<|m3 (dG (RC.upd dQ O (aa I ay) cv)) fun fe dS P ff=>L0<|Oi cs.byteV<|Pl 1<|ng<|Pl 3<|?_
 have cw:=aU P (Ne.symm I) dR
 refine L0<|aR cw 3<|L0<|Oi (((ah.mk b false 0).wordsC 1).wordV)<|L0<|Oi (2*(((ah.mk b false 0).wordsC 1).wordV))<|Pl 1<|L0<|Oc<|m2 (aV ((cs.byteV==(2*(((ah.mk b false 0).wordsC 1).wordV)))) 5 dS) fun fg dT Q=>?_
 refine fj dT fun E cx dV=>?_
 refine nt<|go<|Pl 2<|?_
 have cz:=aU Q (Ne.symm I) cw
 refine L0<|aR cz 3<|L0<|Oi (((ah.mk b false 0).wordsC 1).wordV)<|L0<|Oc<|lS (fw (n:=((ah.mk b false 0).wordsC 1).wordV) (by omega) dV) fun cB cD fh R fi fk dW cE=>Pl 1<|?_
 refine L0<|bT (aU cE (Ne.symm I) cz) 12 (mG c 0 ((ah.mk b false 0).wordV) (((ah.mk b false 0).wordsC 1).wordV) 0 0 0 0 0 0 0 0 (.slice cB ((E.wordsR (((ah.mk b false 0).wordsC 1).wordV)).length) cD) nS nS nS 0 0 0 0 0 nS) fun fl dY aT=>nl<|bn<|tn<|sg<|Pl 1<|?_
 have bi:=ui P (ui Q (us cE aT))
 have cF:=ut cv bi (ac (ni f.size d) (ac (ni (le f.size i.size) g) aq))
 refine L0<|Oc<|m2 (dX (RC.upd dW aT (aa I ay) cF)) fun fm bm an=>nt<|sq<|sg<|Pl 3<|L0<|dU (p:=⟨l,3,none⟩) (v:=.int .i64 (((E.wordsC (((ah.mk b false 0).wordsC 1).wordV)).endC).e)) (RC.fld bm)<|Pl 1<|nt<|?_
 have cG:=ud cF an (le f.size d)
 refine cb (((((E.wordsC (((ah.mk b false 0).wordsC 1).wordV)).endC).e)!=0)) (fun ao=>?_) (fun ao=>?_)
 have bp:=au ao
 refine sq<|Rg 7 (fun w'=>w'.cell? ⟨l,3,none⟩=some (.int .i64 (((E.wordsC (((ah.mk b false 0).wordsC 1).wordV)).endC).e))) fun fn aW=>?_
 have cH:=RC.upd bm aW ay (aD.step (RC.u bm) aW)
 refine bh (RC.fld cH) fun ar=>Rt 0 ar<|Rt 1 ar<|Rt 2 ar<|Rt 3 ar<|Rl 4 ar (fun _ hs=>hs)<|?_
 have cI:=aH an aW
 refine R0 5 rfl<|b6 (ub (ut r (ut be (ut bf (u1 bi cI im) (ac im (ac im aq))) (ac im (ac im aq))) (ac (nr d) (ac (ni i.size g) aq))) k) mZ fun fo dZ bq=>?_
 have cJ:=ud cG (uz aW bq) t
 refine bh (RC.fld (RC.upd cH bq (aa (Ne.symm (nb (ak k) lr d)) ay) cJ)) fun e0=>Rt 6 e0<|re<|tn<|rt<|tr<|bF dZ (.int .i64 (((E.wordsC (((ah.mk b false 0).wordsC 1).wordV)).endC).e))<|?_
 have fp:=ax R (us aT (us cI bq)) (fun x hx=>(aa (fun e=>(aA (ak a8) (le (le (le (le (le (le y.size L.size) M.size) N.size) O.size) P.size) Q.size) R) (e▸hx)) (aa (fun e=>(aA (ak o) (le (le (le (le (le (le (le H.size y.size) L.size) M.size) N.size) O.size) P.size) Q.size) R) (e▸hx)) (aa (fun e=>(aA (ak k) (le (le (le (le (le (le (le (le i.size H.size) y.size) L.size) M.size) N.size) O.size) P.size) Q.size) R) (e▸hx)) ay)))) (fun _ _ h=>h)
 have hs:ae aI 0 c b=aF (aP.mk c 0 ((ah.mk b false 0).wordV) (((ah.mk b false 0).wordsC 1).wordV) 0 0 0 0 0 0 0 0 (E.wordsR (((ah.mk b false 0).wordsC 1).wordV)) [] [] [] 0 0 0 0 0 []) (E.wordsC (((ah.mk b false 0).wordsC 1).wordV)):=by
   subst cx ct
   unfold ae aI bK bO cT cC cm cA cy gN
   (try simp only[q,B,C,s,D,ao,bs,if_true,if_false,decide_true,decide_false,eq_self,true_or,or_true,or_false,false_or,if_true,if_false,ch,cg,cc,bZ,reduceIte,j0,iY])
   all_goals rfl
 rw[hs]
 exact bg bp cJ
 have bp:=ai ao
 refine bo<|sg<|?_
 refine L0<|cl (aU an (Ne.symm I) dY)<|?_
 refine L0<|b6 (ub (ut r (ut be (ut bf (u1 bi an im) (ac im (ac im aq))) (ac im (ac im aq))) (ac (nr d) (ac (ni i.size g) aq))) k) (mG c 0 ((ah.mk b false 0).wordV) (((ah.mk b false 0).wordsC 1).wordV) 0 0 0 0 0 0 0 0 (.slice cB ((E.wordsR (((ah.mk b false 0).wordsC 1).wordV)).length) cD) nS nS nS 0 0 0 0 0 nS) fun fq e1 cK=>Pl 1<|nt<|rt<|bF e1 (.int .i64 0)<|?_
 have hs:ae aI 0 c b=aF (aP.mk c 0 ((ah.mk b false 0).wordV) (((ah.mk b false 0).wordsC 1).wordV) 0 0 0 0 0 0 0 0 (E.wordsR (((ah.mk b false 0).wordsC 1).wordV)) [] [] [] 0 0 0 0 0 []) (E.wordsC (((ah.mk b false 0).wordsC 1).wordV)):=by
   subst cx ct
   unfold ae aI bK bO cT cC cm cA cy gN
   (try simp only[q,B,C,s,D,ao,bs,if_true,if_false,decide_true,decide_false,eq_self,true_or,or_true,or_false,false_or,if_true,if_false,ch,cg,cc,bZ,reduceIte,j0,iY])
   all_goals rfl
 rw[hs]
 exact bj bp ⟨_,_,_,_,_,rfl,((ax R (us aT (us an cK)) (fun x hx=>(aa (fun e=>(aA (ak a8) (le (le (le (le (le (le y.size L.size) M.size) N.size) O.size) P.size) Q.size) R) (e▸hx)) (aa (fun e=>(aA (ak o) (le (le (le (le (le (le (le H.size y.size) L.size) M.size) N.size) O.size) P.size) Q.size) R) (e▸hx)) (aa (fun e=>(aA (ak k) (le (le (le (le (le (le (le (le i.size H.size) y.size) L.size) M.size) N.size) O.size) P.size) Q.size) R) (e▸hx)) ay)))) (fun _ _ h=>h))).rd,aK.nil ..,(fun _ _ _=>aK.nil ..),aK.nil ..,aK.nil ..,⟨(b8 (x:=c) (by omega)),(b8 (x:=0) (by omega)),(aC (x:=(ah.mk b false 0).wordV) (by omega)),(aC (x:=((ah.mk b false 0).wordsC 1).wordV) (by omega)),(aC (x:=0) (by omega)),(aC (x:=0) (by omega)),(aC (x:=0) (by omega)),(aC (x:=0) (by omega)),(aC (x:=0) (by omega)),(aC (x:=0) (by omega)),(aC (x:=0) (by omega)),(aC (x:=0) (by omega)),(b8 (x:=0) (by omega)),(b8 (x:=0) (by omega)),(b8 (x:=0) (by omega)),(b8 (x:=0) (by omega)),(b8 (x:=0) (by omega))⟩⟩ (ud cG cK t)
 have dM:=ap D
 refine sg<|Pl 3<|nt<|cb ((c==22)) (fun F=>?_) (fun F=>?_)
 have e2:=al F
 refine sg<|Pl 1<|?_
 have e3:RC w _ A cp b a6 l (ah.mk b false 0):=⟨hsl,z,(Nat.le_trans f.size d),⟨0,(ub a0 o),Nat.zero_le _,rfl⟩,by omega⟩
 refine L0<|Oc<|m3 (cO e3) fun fr e4 cL fs=>Pl 1<|?_
 have a1:=nb (ak o) lr g
 refine L0<|bT (aU cL (Ne.symm a1) a7) 2 (mG c 0 ((ah.mk b false 0).wordV) 0 0 0 0 0 0 0 0 0 nS nS nS nS 0 0 0 0 0 nS) fun ft e5 cM=>ng<|Pl 1<|?_
 have bt:=us cL cM
 have cN:=ut z bt (ac (ni f.size d) (ac (ni (le f.size i.size) g) aq))
 refine L0<|Oc<|m3 (cO (RC.upd e4 cM (aa a1 ay) cN)) fun fu e6 cP fv=>Pl 1<|?_
 refine L0<|bT (aU cP (Ne.symm a1) e5) 5 (mG c 0 ((ah.mk b false 0).wordV) 0 0 (((ah.mk b false 0).wordsC 1).wordV) 0 0 0 0 0 0 nS nS nS nS 0 0 0 0 0 nS) fun fx e7 cQ=>nt<|go<|Pl 1<|?_
 have bu:=us cP cQ
 have cR:=ut cN bu (ac (ni f.size d) (ac (ni (le f.size i.size) g) aq))
 refine L0<|Oc<|m3 (cO (RC.upd e6 cQ (aa a1 ay) cR)) fun fy e8 cS fz=>Pl 1<|?_
 refine L0<|bT (aU cS (Ne.symm a1) e7) 6 (mG c 0 ((ah.mk b false 0).wordV) 0 0 (((ah.mk b false 0).wordsC 1).wordV) ((((ah.mk b false 0).wordsC 1).wordsC 1).wordV) 0 0 0 0 0 nS nS nS nS 0 0 0 0 0 nS) fun fA e9 cU=>nl<|bn<|tn<|sg<|Pl 1<|?_
 have bw:=us cS cU
 have cV:=ut cR bw (ac (ni f.size d) (ac (ni (le f.size i.size) g) aq))
 refine L0<|Oc<|m2 (dX (RC.upd e8 cU (aa a1 ay) cV)) fun fB bx aX=>nt<|sq<|sg<|Pl 3<|L0<|dU (p:=⟨l,3,none⟩) (v:=.int .i64 ((((((ah.mk b false 0).wordsC 1).wordsC 1).wordsC 1).endC).e)) (RC.fld bx)<|Pl 1<|nt<|?_
 have cW:=ud cV aX (le f.size d)
 refine cb ((((((((ah.mk b false 0).wordsC 1).wordsC 1).wordsC 1).endC).e)!=0)) (fun av=>?_) (fun av=>?_)
 have bz:=au av
 refine sq<|Rg 7 (fun w'=>w'.cell? ⟨l,3,none⟩=some (.int .i64 ((((((ah.mk b false 0).wordsC 1).wordsC 1).wordsC 1).endC).e))) fun fC aY=>?_
 have cX:=RC.upd bx aY ay (aD.step (RC.u bx) aY)
 refine bh (RC.fld cX) fun aw=>Rt 0 aw<|Rt 1 aw<|Rt 2 aw<|Rt 3 aw<|Rl 4 aw (fun _ hs=>hs)<|?_
 refine R0 5 rfl<|b6 (ub (ut r (ut bt (ut bu (u1 bw (aH aX aY) im) (ac im (ac im aq))) (ac im (ac im aq))) (ac (nr d) (ac (ni i.size g) aq))) k) mZ fun fD ea cY=>?_
 have cZ:=ud cW (uz aY cY) t
 refine bh (RC.fld (RC.upd cX cY (aa (Ne.symm (nb (ak k) lr d)) ay) cZ)) fun eb=>Rt 6 eb<|re<|tn<|rt<|tr<|bF ea (.int .i64 ((((((ah.mk b false 0).wordsC 1).wordsC 1).wordsC 1).endC).e))<|?_
 have hs:ae aI 0 c b=aF (aP.mk c 0 ((ah.mk b false 0).wordV) 0 0 (((ah.mk b false 0).wordsC 1).wordV) ((((ah.mk b false 0).wordsC 1).wordsC 1).wordV) 0 0 0 0 0 [] [] [] [] 0 0 0 0 0 []) ((((ah.mk b false 0).wordsC 1).wordsC 1).wordsC 1):=by
   unfold ae aI bK bO cT cC cm cA cy gN
   (try simp only[q,B,C,s,D,F,av,bs,if_true,if_false,decide_true,decide_false,eq_self,true_or,or_true,or_false,false_or,if_true,if_false,ch,cg,cc,bZ,reduceIte,j0,iY])
   all_goals rfl
 rw[hs]
 exact bg bz cZ
 have bz:=ai av
 refine bo<|sg<|?_
 refine L0<|cl (aU aX (Ne.symm a1) e9)<|?_
 refine L0<|b6 (ub (ut r (ut bt (ut bu (u1 bw aX im) (ac im (ac im aq))) (ac im (ac im aq))) (ac (nr d) (ac (ni i.size g) aq))) k) (mG c 0 ((ah.mk b false 0).wordV) 0 0 (((ah.mk b false 0).wordsC 1).wordV) ((((ah.mk b false 0).wordsC 1).wordsC 1).wordV) 0 0 0 0 0 nS nS nS nS 0 0 0 0 0 nS) fun fE ec ed=>Pl 1<|nt<|rt<|bF ec (.int .i64 0)<|?_
 have hs:ae aI 0 c b=aF (aP.mk c 0 ((ah.mk b false 0).wordV) 0 0 (((ah.mk b false 0).wordsC 1).wordV) ((((ah.mk b false 0).wordsC 1).wordsC 1).wordV) 0 0 0 0 0 [] [] [] [] 0 0 0 0 0 []) ((((ah.mk b false 0).wordsC 1).wordsC 1).wordsC 1):=by
   unfold ae aI bK bO cT cC cm cA cy gN
   (try simp only[q,B,C,s,D,F,av,bs,if_true,if_false,decide_true,decide_false,eq_self,true_or,or_true,or_false,false_or,if_true,if_false,ch,cg,cc,bZ,reduceIte,j0,iY])
   all_goals rfl
 rw[hs]
 exact bj bz ⟨_,_,_,_,_,rfl,aK.nil ..,aK.nil ..,(fun _ _ _=>aK.nil ..),aK.nil ..,aK.nil ..,⟨(b8 (x:=c) (by omega)),(b8 (x:=0) (by omega)),(aC (x:=(ah.mk b false 0).wordV) (by omega)),(aC (x:=0) (by omega)),(aC (x:=0) (by omega)),(aC (x:=((ah.mk b false 0).wordsC 1).wordV) (by omega)),(aC (x:=(((ah.mk b false 0).wordsC 1).wordsC 1).wordV) (by omega)),(aC (x:=0) (by omega)),(aC (x:=0) (by omega)),(aC (x:=0) (by omega)),(aC (x:=0) (by omega)),(aC (x:=0) (by omega)),(b8 (x:=0) (by omega)),(b8 (x:=0) (by omega)),(b8 (x:=0) (by omega)),(b8 (x:=0) (by omega)),(b8 (x:=0) (by omega))⟩⟩ (ud cW ed t)
 have e2:=ap F
 refine sg<|Pl 3<|nt<|cb ((c==23)) (fun S=>?_) (fun S=>?_)
 have ee:=al S
 refine sg<|Pl 1<|?_
 have ef:RC w _ A cp b a6 l (ah.mk b false 0):=⟨hsl,z,(Nat.le_trans f.size d),⟨0,(ub a0 o),Nat.zero_le _,rfl⟩,by omega⟩
 refine L0<|Oc<|m3 (cO ef) fun fF eg T fG=>Pl 1<|?_
 have J:=nb (ak o) lr g
 refine L0<|bT (aU T (Ne.symm J) a7) 2 (mG c 0 ((ah.mk b false 0).wordV) 0 0 0 0 0 0 0 0 0 nS nS nS nS 0 0 0 0 0 nS) fun fH d0 U=>ng<|Pl 2<|L0<|aR d0 2<|?_
 have bA:=us T U
 have d1:=ut z bA (ac (ni f.size d) (ac (ni (le f.size i.size) g) aq))
 refine L0<|Oc<|m3 (jC (a:=(ah.mk b false 0).wordV) (most:=125) (by omega) (RC.upd eg U (aa J ay) d1)) fun fI eh V fJ=>?_
 refine fj eh fun j d2 ei=>?_
 refine L0<|vF (((ah.mk b false 0).wordsC 1).wordV)<|Pl 1<|?_
 refine L0<|bT (aU V (Ne.symm J) d0) 3 (mG c 0 ((ah.mk b false 0).wordV) (((ah.mk b false 0).wordsC 1).wordV) 0 0 0 0 0 0 0 0 nS nS nS nS 0 0 0 0 0 nS) fun fK ej W=>ng<|Pl 1<|?_
 have bB:=us V W
 have d3:=ut d1 bB (ac (ni f.size d) (ac (ni (le f.size i.size) g) aq))
 refine L0<|Oc<|m3 (cO (RC.upd ei W (aa J ay) d3)) fun fL ek X fM=>Pl 1<|?_
 refine L0<|bT (aU X (Ne.symm J) ej) 7 (mG c 0 ((ah.mk b false 0).wordV) (((ah.mk b false 0).wordsC 1).wordV) 0 0 0 j.wordV 0 0 0 0 nS nS nS nS 0 0 0 0 0 nS) fun fN d4 Y=>ng<|Pl 2<|L0<|aR d4 7<|?_
 have bC:=us X Y
 have d5:=ut d3 bC (ac (ni f.size d) (ac (ni (le f.size i.size) g) aq))
 refine L0<|Oc<|m3 (jC (a:=j.wordV) (most:=121) (by omega) (RC.upd ek Y (aa J ay) d5)) fun fO el a2 fP=>Pl 1<|ng<|Pl 1<|L0<|Oc<|m3 (dG el) fun fQ em a3 fR=>L0<|Oi ((bJ (j.wordsC 1) j.wordV 121).byteV)<|Pl 1<|ng<|?_
 refine Pl 3<|L0<|Oi (2*((j.wordsC 1).wordV))<|Pl 1<|L0<|Oc<|m2 (aV ((((bJ (j.wordsC 1) j.wordV 121).byteV)==(2*((j.wordsC 1).wordV)))) 5 em) fun fS eo a4=>?_
 refine fj eo fun G d6 ep=>?_
 refine nt<|go<|Pl 2<|L0<|Oc<|lS (fw (n:=(j.wordsC 1).wordV) (by omega) ep) fun d7 d8 fT Z fU fV eq er=>Pl 1<|?_
 have da:=u1 a2 (u1 a3 (u1 a4 er im) im) im
 refine L0<|bT (aU da (Ne.symm J) d4) 12 (mG c 0 ((ah.mk b false 0).wordV) (((ah.mk b false 0).wordsC 1).wordV) 0 0 0 j.wordV 0 0 0 0 (.slice d7 ((G.wordsR ((j.wordsC 1).wordV)).length) d8) nS nS nS 0 0 0 0 0 nS) fun fW es aZ=>nl<|bn<|tn<|sg<|Pl 1<|?_
 have bD:=us da aZ
 have db:=ut d5 bD (ac (ni f.size d) (ac (ni (le f.size i.size) g) aq))
 refine L0<|Oc<|m2 (dX (RC.upd eq aZ (aa J ay) db)) fun fX bE az=>nt<|sq<|sg<|Pl 3<|L0<|dU (p:=⟨l,3,none⟩) (v:=.int .i64 (((G.wordsC ((j.wordsC 1).wordV)).endC).e)) (RC.fld bE)<|Pl 1<|nt<|?_
 have dc:=ud db az (le f.size d)
 refine cb (((((G.wordsC ((j.wordsC 1).wordV)).endC).e)!=0)) (fun aB=>?_) (fun aB=>?_)
 have bG:=au aB
 refine sq<|Rg 7 (fun w'=>w'.cell? ⟨l,3,none⟩=some (.int .i64 (((G.wordsC ((j.wordsC 1).wordV)).endC).e))) fun fY b0=>?_
 have dd:=RC.upd bE b0 ay (aD.step (RC.u bE) b0)
 refine bh (RC.fld dd) fun aE=>Rt 0 aE<|Rt 1 aE<|Rt 2 aE<|Rt 3 aE<|Rl 4 aE (fun _ hs=>hs)<|?_
 have de:=aH az b0
 refine R0 5 rfl<|b6 (ub (ut r (ut bA (ut bB (ut bC (u1 bD de im) (ac im (ac im aq))) (ac im (ac im aq))) (ac im (ac im aq))) (ac (nr d) (ac (ni i.size g) aq))) k) mZ fun fZ et bH=>?_
 have df:=ud dc (uz b0 bH) t
 refine bh (RC.fld (RC.upd dd bH (aa (Ne.symm (nb (ak k) lr d)) ay) df)) fun eu=>Rt 6 eu<|re<|tn<|rt<|tr<|bF et (.int .i64 (((G.wordsC ((j.wordsC 1).wordV)).endC).e))<|?_
 have g0:=ax Z (us aZ (us de bH)) (fun x hx=>(aa (fun e=>(aA (ak a8) (le (le (le (le (le (le (le (le (le y.size T.size) U.size) V.size) W.size) X.size) Y.size) a2.size) a3.size) a4.size) Z) (e▸hx)) (aa (fun e=>(aA (ak o) (le (le (le (le (le (le (le (le (le (le H.size y.size) T.size) U.size) V.size) W.size) X.size) Y.size) a2.size) a3.size) a4.size) Z) (e▸hx)) (aa (fun e=>(aA (ak k) (le (le (le (le (le (le (le (le (le (le (le i.size H.size) y.size) T.size) U.size) V.size) W.size) X.size) Y.size) a2.size) a3.size) a4.size) Z) (e▸hx)) ay)))) (fun _ _ h=>h)
 have hs:ae aI 0 c b=aF (aP.mk c 0 ((ah.mk b false 0).wordV) (((ah.mk b false 0).wordsC 1).wordV) 0 0 0 j.wordV 0 0 0 0 (G.wordsR ((j.wordsC 1).wordV)) [] [] [] 0 0 0 0 0 []) (G.wordsC ((j.wordsC 1).wordV)):=by
   subst d6 d2
   unfold ae aI bK bO cT cC cm cA cy gN
   (try simp only[q,B,C,s,D,F,S,aB,bs,if_true,if_false,decide_true,decide_false,eq_self,true_or,or_true,or_false,false_or,if_true,if_false,ch,cg,cc,bZ,reduceIte,j0,iY])
   all_goals rfl
 rw[hs]
 exact bg bG df
 have bG:=ai aB
 refine bo<|sg<|?_
 refine L0<|cl (aU az (Ne.symm J) es)<|?_
 refine L0<|b6 (ub (ut r (ut bA (ut bB (ut bC (u1 bD az im) (ac im (ac im aq))) (ac im (ac im aq))) (ac im (ac im aq))) (ac (nr d) (ac (ni i.size g) aq))) k) (mG c 0 ((ah.mk b false 0).wordV) (((ah.mk b false 0).wordsC 1).wordV) 0 0 0 j.wordV 0 0 0 0 (.slice d7 ((G.wordsR ((j.wordsC 1).wordV)).length) d8) nS nS nS 0 0 0 0 0 nS) fun g1 ev dg=>Pl 1<|nt<|rt<|bF ev (.int .i64 0)<|?_
 have hs:ae aI 0 c b=aF (aP.mk c 0 ((ah.mk b false 0).wordV) (((ah.mk b false 0).wordsC 1).wordV) 0 0 0 j.wordV 0 0 0 0 (G.wordsR ((j.wordsC 1).wordV)) [] [] [] 0 0 0 0 0 []) (G.wordsC ((j.wordsC 1).wordV)):=by
   subst d6 d2
   unfold ae aI bK bO cT cC cm cA cy gN
   (try simp only[q,B,C,s,D,F,S,aB,bs,if_true,if_false,decide_true,decide_false,eq_self,true_or,or_true,or_false,false_or,if_true,if_false,ch,cg,cc,bZ,reduceIte,j0,iY])
   all_goals rfl
 rw[hs]
 exact bj bG ⟨_,_,_,_,_,rfl,((ax Z (us aZ (us az dg)) (fun x hx=>(aa (fun e=>(aA (ak a8) (le (le (le (le (le (le (le (le (le y.size T.size) U.size) V.size) W.size) X.size) Y.size) a2.size) a3.size) a4.size) Z) (e▸hx)) (aa (fun e=>(aA (ak o) (le (le (le (le (le (le (le (le (le (le H.size y.size) T.size) U.size) V.size) W.size) X.size) Y.size) a2.size) a3.size) a4.size) Z) (e▸hx)) (aa (fun e=>(aA (ak k) (le (le (le (le (le (le (le (le (le (le (le i.size H.size) y.size) T.size) U.size) V.size) W.size) X.size) Y.size) a2.size) a3.size) a4.size) Z) (e▸hx)) ay)))) (fun _ _ h=>h))).rd,aK.nil ..,(fun _ _ _=>aK.nil ..),aK.nil ..,aK.nil ..,⟨(b8 (x:=c) (by omega)),(b8 (x:=0) (by omega)),(aC (x:=(ah.mk b false 0).wordV) (by omega)),(aC (x:=((ah.mk b false 0).wordsC 1).wordV) (by omega)),(aC (x:=0) (by omega)),(aC (x:=0) (by omega)),(aC (x:=0) (by omega)),(aC (x:=j.wordV) (by omega)),(aC (x:=0) (by omega)),(aC (x:=0) (by omega)),(aC (x:=0) (by omega)),(aC (x:=0) (by omega)),(b8 (x:=0) (by omega)),(b8 (x:=0) (by omega)),(b8 (x:=0) (by omega)),(b8 (x:=0) (by omega)),(b8 (x:=0) (by omega))⟩⟩ (ud dc dg t)
 have ee:=ap S
 refine sg<|Pl 3<|cu 3 [168] 171 ((c==24)) (fun K dh=>?_) ?_
 refine bl 168 ((c==24)) (fun aG=>?_) (fun aG=>?_)
 have ew:=al aG
 exact Pl 3<|ce dh true aG
 have ew:=ap aG
 exact Pl 3<|ce dh false aG
 refine Pl 1<|nt<|cb ((c==24)) (fun a5=>?_) (fun a5=>?_)
 have ex:=al a5
 refine go<|Pl 1<|?_
 have ey:RC w _ A cp b a6 l (ah.mk b false 0):=⟨hsl,z,(Nat.le_trans f.size d),⟨0,(ub a0 o),Nat.zero_le _,rfl⟩,by omega⟩
 refine L0<|Oc<|m3 (cO ey) fun g2 ez di g3=>Pl 1<|?_
 have bL:=nb (ak o) lr g
 refine L0<|bT (aU di (Ne.symm bL) a7) 2 (mG c 0 ((ah.mk b false 0).wordV) 0 0 0 0 0 0 0 0 0 nS nS nS nS 0 0 0 0 0 nS) fun g4 eA dj=>nl<|bn<|tn<|sg<|Pl 1<|?_
 have bM:=us di dj
 have dk:=ut z bM (ac (ni f.size d) (ac (ni (le f.size i.size) g) aq))
 refine L0<|Oc<|m2 (dX (RC.upd ez dj (aa bL ay) dk)) fun g5 bN b1=>nt<|sq<|sg<|Pl 3<|L0<|dU (p:=⟨l,3,none⟩) (v:=.int .i64 ((((ah.mk b false 0).wordsC 1).endC).e)) (RC.fld bN)<|Pl 1<|nt<|?_
 have dl:=ud dk b1 (le f.size d)
 refine cb ((((((ah.mk b false 0).wordsC 1).endC).e)!=0)) (fun aL=>?_) (fun aL=>?_)
 have bP:=au aL
 refine sq<|Rg 7 (fun w'=>w'.cell? ⟨l,3,none⟩=some (.int .i64 ((((ah.mk b false 0).wordsC 1).endC).e))) fun g6 b2=>?_
 have dm:=RC.upd bN b2 ay (aD.step (RC.u bN) b2)
 refine bh (RC.fld dm) fun aM=>Rt 0 aM<|Rt 1 aM<|Rt 2 aM<|Rt 3 aM<|Rl 4 aM (fun _ hs=>hs)<|?_
 refine R0 5 rfl<|b6 (ub (ut r (u1 bM (aH b1 b2) im) (ac (nr d) (ac (ni i.size g) aq))) k) mZ fun g7 eB dn=>?_
 have dp:=ud dl (uz b2 dn) t
 refine bh (RC.fld (RC.upd dm dn (aa (Ne.symm (nb (ak k) lr d)) ay) dp)) fun eC=>Rt 6 eC<|re<|tn<|rt<|tr<|bF eB (.int .i64 ((((ah.mk b false 0).wordsC 1).endC).e))<|?_
 have hs:ae aI 0 c b=aF (aP.mk c 0 ((ah.mk b false 0).wordV) 0 0 0 0 0 0 0 0 0 [] [] [] [] 0 0 0 0 0 []) ((ah.mk b false 0).wordsC 1):=by
   unfold ae aI bK bO cT cC cm cA cy gN
   (try simp only[q,B,C,s,D,F,S,a5,aL,bs,if_true,if_false,decide_true,decide_false,eq_self,true_or,or_true,or_false,false_or,if_true,if_false,ch,cg,cc,bZ,reduceIte,j0,iY])
   all_goals rfl
 rw[hs]
 exact bg bP dp
 have bP:=ai aL
 refine bo<|sg<|?_
 refine L0<|cl (aU b1 (Ne.symm bL) eA)<|?_
 refine L0<|b6 (ub (ut r (u1 bM b1 im) (ac (nr d) (ac (ni i.size g) aq))) k) (mG c 0 ((ah.mk b false 0).wordV) 0 0 0 0 0 0 0 0 0 nS nS nS nS 0 0 0 0 0 nS) fun g8 eD eE=>Pl 1<|nt<|rt<|bF eD (.int .i64 0)<|?_
 have hs:ae aI 0 c b=aF (aP.mk c 0 ((ah.mk b false 0).wordV) 0 0 0 0 0 0 0 0 0 [] [] [] [] 0 0 0 0 0 []) ((ah.mk b false 0).wordsC 1):=by
   unfold ae aI bK bO cT cC cm cA cy gN
   (try simp only[q,B,C,s,D,F,S,a5,aL,bs,if_true,if_false,decide_true,decide_false,eq_self,true_or,or_true,or_false,false_or,if_true,if_false,ch,cg,cc,bZ,reduceIte,j0,iY])
   all_goals rfl
 rw[hs]
 exact bj bP ⟨_,_,_,_,_,rfl,aK.nil ..,aK.nil ..,(fun _ _ _=>aK.nil ..),aK.nil ..,aK.nil ..,⟨(b8 (x:=c) (by omega)),(b8 (x:=0) (by omega)),(aC (x:=(ah.mk b false 0).wordV) (by omega)),(aC (x:=0) (by omega)),(aC (x:=0) (by omega)),(aC (x:=0) (by omega)),(aC (x:=0) (by omega)),(aC (x:=0) (by omega)),(aC (x:=0) (by omega)),(aC (x:=0) (by omega)),(aC (x:=0) (by omega)),(aC (x:=0) (by omega)),(b8 (x:=0) (by omega)),(b8 (x:=0) (by omega)),(b8 (x:=0) (by omega)),(b8 (x:=0) (by omega)),(b8 (x:=0) (by omega))⟩⟩ (ud dl eE t)
 have ex:=ap a5
 refine sg<|Pl 3<|nt<|cf a5<|sg<|Pl 1<|?_
 refine L0<|b6 (ub r k) mZ fun g9 eF eG=>Pl 1<|nt<|rt<|br<|tr<|bF eF (.int .i64 4)<|?_
 have hs:ae aI 0 c b=(aP.zero,4):=by
   unfold ae aI bK bO cT cC cm cA cy gN
   (try simp only[q,B,C,s,D,F,S,a5,bs,if_true,if_false,decide_true,decide_false,eq_self,true_or,or_true,or_false,false_or,if_true,if_false,ch,cg,cc,bZ,reduceIte,j0,iY])
   all_goals rfl
 rw[hs]
 exact bv (ud z eG t)
theorem kg{m:Md}{A:Option Addr}{cp:Nat}{b:List Int}{w:World}{c:Int}(hcode:B8 c)(hsl:b9 m w (.slice A b.length cp) b)(hb:b.length≤1048576) :
    Calls Tryz.prog 94 #[.int .i64 1,.int .u8 c,.slice A b.length cp] w (d9 (.slice A b.length cp) b (ae aI 1 c b) w):=by
 obtain⟨hcode1,hcode2⟩:=hcode
 have hln:(b.length:Int)≤1048576:=by omega
 refine en 221 Tryz.func94 rfl<|sg<|L0<|bI mZ fun e5 e6 y j f=>Pl 1<|nt<|sq<|sg<|Pl 6<|nt<|c0<|?_
 refine bo<|sg<|Pl 2<|L0<|dz #[.slice A b.length cp,.int .i64 0,.bool false,.int .i64 0] fun l e7 d q i=>Pl 1<|ng<|Pl 2<|L0<|bI mZ fun e8 e9 g W H=>L0<|b6 W (mC c) fun X Y r=>?_
 refine nt<|sq<|bk<|sg<|Pl 6<|cu 3 [35] 38 (((c==3)||(c==4))) (fun K bu=>?_) ?_
 refine bl 35 ((c==3)) (fun Z=>?_) (fun Z=>?_)
 have cS:=al Z
 exact Pl 3<|ce bu true (by rw[Z];rfl)
 have cS:=ap Z
 exact Pl 3<|ce bu (c==4) (by rw[Z];rfl)
 refine Pl 1<|cu 3 [39] 42 ((((c==3)||(c==4))||(c==23))) (fun K bw=>?_) ?_
 refine bl 39 (((c==3)||(c==4))) (fun a0=>?_) (fun a0=>?_)
 exact Pl 3<|ce bw true (by rw[a0];rfl)
 have cU:=(aJ a0).1
 have cV:=(aJ a0).2
 have ea:=ap cU
 have eb:=ap cV
 exact Pl 3<|ce bw (c==23) (by rw[a0];rfl)
 refine Pl 2<|nt<|?_
 have T:=ud H r g
 have s:=aH i T
 have z:=aH f s
 refine cb ((((c==3)||(c==4))||(c==23))) (fun k=>?_) (fun k=>?_)
 refine sg<|Pl 1<|?_
 have cW:RC w _ A cp b X l (ah.mk b false 0):=⟨hsl,z,(Nat.le_trans f.size d),⟨0,(ub T q),Nat.zero_le _,rfl⟩,by omega⟩
 refine L0<|Oc<|m3 (dG cW) fun ec cX M ed=>L0<|Oi ((ah.mk b false 0).byteV)<|Pl 1<|ng<|Pl 2<|L0<|Oe (.int .i64 (Int.tmod ((ah.mk b false 0).byteV) 2)) (.int .i64 (((ah.mk b false 0).byteV)%2)) (congrArg (Value.int .i64) (Int.tmod_eq_emod_of_nonneg (by omega)))<|Pl 2<|cu 3 [51] 54 ((((((ah.mk b false 0).byteV)%2)==0)&&(decide (0<((ah.mk b false 0).byteV))))) (fun K bx=>?_) ?_
 refine bl 51 (((((ah.mk b false 0).byteV)%2)==0)) (fun a1=>?_) (fun a1=>?_)
 have cY:=al a1
 exact Pl 3<|ce bx (decide (0<((ah.mk b false 0).byteV))) (by rw[a1];rfl)
 have cY:=ap a1
 exact Pl 3<|ce bx false (by rw[a1];rfl)
 refine Pl 1<|cu 3 [55] 58 (((((((ah.mk b false 0).byteV)%2)==0)&&(decide (0<((ah.mk b false 0).byteV))))&&(decide (((ah.mk b false 0).byteV)≤250)))) (fun K bz=>?_) ?_
 refine bl 55 ((((((ah.mk b false 0).byteV)%2)==0)&&(decide (0<((ah.mk b false 0).byteV))))) (fun a2=>?_) (fun a2=>?_)
 have cZ:=(aS a2).1
 have d0:=(aS a2).2
 have ee:=al cZ
 have ef:=of_decide_eq_true d0
 exact Pl 3<|ce bz (decide (((ah.mk b false 0).byteV)≤250)) (by rw[a2];rfl)
 exact Pl 3<|ce bz false (by rw[a2];rfl)
 refine L0<|Oc<|m2 (aV (((((((ah.mk b false 0).byteV)%2)==0)&&(decide (0<((ah.mk b false 0).byteV))))&&(decide (((ah.mk b false 0).byteV)≤250)))) 5 cX) fun eg d1 N=>?_
 refine fj d1 fun x49 bA d2=>?_
 refine nt<|go<|Pl 2<|L0<|Oe (.int .i64 (IntKind.i64.wrap (Int.tdiv ((ah.mk b false 0).byteV) 2))) (.int .i64 (((ah.mk b false 0).byteV)/2)) (congrArg (Value.int .i64) (fp (by omega) (by omega)))<|L0<|Oc<|lS (fw (n:=(((ah.mk b false 0).byteV)/2)) (by omega) d2) fun bB bC eh I ei ej d3 d4=>Pl 1<|?_
 have bD:=u1 M (u1 N d4 im) im
 have aQ:=nb (ak q) lr g
 refine L0<|bT (aU bD (Ne.symm aQ) Y) 12 (mG c 0 0 0 0 0 0 0 0 0 0 0 (.slice bB ((x49.wordsR (((ah.mk b false 0).byteV)/2)).length) bC) nS nS nS 0 0 0 0 0 nS) fun ek d5 av=>nl<|bn<|tn<|sg<|Pl 1<|?_
 have aT:=us bD av
 have bE:=ut z aT (ac (ni f.size d) (ac (ni (le f.size i.size) g) aq))
 refine L0<|Oc<|m2 (dX (RC.upd d3 av (aa aQ ay) bE)) fun el aW a3=>nt<|sq<|sg<|Pl 3<|L0<|dU (p:=⟨l,3,none⟩) (v:=.int .i64 (((x49.wordsC (((ah.mk b false 0).byteV)/2)).endC).e)) (RC.fld aW)<|Pl 1<|nt<|?_
 have bG:=ud bE a3 (le f.size d)
 refine cb (((((x49.wordsC (((ah.mk b false 0).byteV)/2)).endC).e)!=0)) (fun a4=>?_) (fun a4=>?_)
 have aX:=au a4
 refine sq<|Rg 7 (fun w'=>w'.cell? ⟨l,3,none⟩=some (.int .i64 (((x49.wordsC (((ah.mk b false 0).byteV)/2)).endC).e))) fun em aw=>?_
 have bH:=RC.upd aW aw ay (aD.step (RC.u aW) aw)
 refine bh (RC.fld bH) fun a5=>Rt 0 a5<|Rt 1 a5<|Rt 2 a5<|Rt 3 a5<|Rl 4 a5 (fun _ hs=>hs)<|?_
 have bJ:=aH a3 aw
 refine R0 5 rfl<|b6 (ub (ut s (u1 aT bJ im) (ac (nr d) (ac (ni i.size g) aq))) j) mZ fun eo d6 aY=>?_
 have bL:=ud bG (uz aw aY) y
 refine bh (RC.fld (RC.upd bH aY (aa (Ne.symm (nb (ak j) lr d)) ay) bL)) fun d7=>Rt 6 d7<|re<|tn<|rt<|tr<|bF d6 (.int .i64 (((x49.wordsC (((ah.mk b false 0).byteV)/2)).endC).e))<|?_
 have ep:=ax I (us av (us bJ aY)) (fun x hx=>(aa (fun e=>(aA (ak W) (le (le r.size M.size) N.size) I) (e▸hx)) (aa (fun e=>(aA (ak q) (le (le (le H.size r.size) M.size) N.size) I) (e▸hx)) (aa (fun e=>(aA (ak j) (le (le (le (le i.size H.size) r.size) M.size) N.size) I) (e▸hx)) ay)))) (fun _ _ h=>h)
 have hs:ae aI 1 c b=aF (aP.mk c 0 0 0 0 0 0 0 0 0 0 0 (x49.wordsR (((ah.mk b false 0).byteV)/2)) [] [] [] 0 0 0 0 0 []) (x49.wordsC (((ah.mk b false 0).byteV)/2)):=by
   subst bA
   unfold ae
   (try simp only[k,a4,bs,if_true,if_false,decide_true,decide_false,eq_self,true_or,or_true,or_false,false_or,if_true,if_false,ch,cg,cc,bZ,reduceIte,j0,iY,nH k])
   all_goals rfl
 rw[hs]
 exact bg aX bL
 have aX:=ai a4
 refine bo<|sg<|?_
 refine L0<|cl (aU a3 (Ne.symm aQ) d5)<|?_
 refine L0<|b6 (ub (ut s (u1 aT a3 im) (ac (nr d) (ac (ni i.size g) aq))) j) (mG c 0 0 0 0 0 0 0 0 0 0 0 (.slice bB ((x49.wordsR (((ah.mk b false 0).byteV)/2)).length) bC) nS nS nS 0 0 0 0 0 nS) fun eq d8 bM=>Pl 1<|nt<|rt<|bF d8 (.int .i64 0)<|?_
 have hs:ae aI 1 c b=aF (aP.mk c 0 0 0 0 0 0 0 0 0 0 0 (x49.wordsR (((ah.mk b false 0).byteV)/2)) [] [] [] 0 0 0 0 0 []) (x49.wordsC (((ah.mk b false 0).byteV)/2)):=by
   subst bA
   unfold ae
   (try simp only[k,a4,bs,if_true,if_false,decide_true,decide_false,eq_self,true_or,or_true,or_false,false_or,if_true,if_false,ch,cg,cc,bZ,reduceIte,j0,iY,nH k])
   all_goals rfl
 rw[hs]
 exact bj aX ⟨_,_,_,_,_,rfl,((ax I (us av (us a3 bM)) (fun x hx=>(aa (fun e=>(aA (ak W) (le (le r.size M.size) N.size) I) (e▸hx)) (aa (fun e=>(aA (ak q) (le (le (le H.size r.size) M.size) N.size) I) (e▸hx)) (aa (fun e=>(aA (ak j) (le (le (le (le i.size H.size) r.size) M.size) N.size) I) (e▸hx)) ay)))) (fun _ _ h=>h))).rd,aK.nil ..,(fun _ _ _=>aK.nil ..),aK.nil ..,aK.nil ..,⟨(b8 (x:=c) (by omega)),(b8 (x:=0) (by omega)),(aC (x:=0) (by omega)),(aC (x:=0) (by omega)),(aC (x:=0) (by omega)),(aC (x:=0) (by omega)),(aC (x:=0) (by omega)),(aC (x:=0) (by omega)),(aC (x:=0) (by omega)),(aC (x:=0) (by omega)),(aC (x:=0) (by omega)),(aC (x:=0) (by omega)),(b8 (x:=0) (by omega)),(b8 (x:=0) (by omega)),(b8 (x:=0) (by omega)),(b8 (x:=0) (by omega)),(b8 (x:=0) (by omega))⟩⟩ (ud bG bM y)
 have B:=(aJ k).1
 have C:=(aJ k).2
 have D:=(aJ B).1
 have E:=(aJ B).2
 have q35aap:=ap D
 have q35abp:=ap E
 have er:=ap C
 refine sg<|Pl 3<|sy 68 D<|Pl 4<|nt<|cf E<|sg<|Pl 3<|nt<|cb ((c==6)) (fun t=>?_) (fun t=>?_)
 have da:=al t
 refine sg<|Pl 1<|?_
 have db:RC w _ A cp b X l (ah.mk b false 0):=⟨hsl,z,(Nat.le_trans f.size d),⟨0,(ub T q),Nat.zero_le _,rfl⟩,by omega⟩
 refine L0<|Oc<|m3 (cO db) fun es dc bN et=>Pl 1<|?_
 have a6:=nb (ak q) lr g
 refine L0<|bT (aU bN (Ne.symm a6) Y) 2 (mG c 0 ((ah.mk b false 0).wordV) 0 0 0 0 0 0 0 0 0 nS nS nS nS 0 0 0 0 0 nS) fun eu dd bP=>nt<|go<|Pl 1<|?_
 have aZ:=us bN bP
 have bQ:=ut z aZ (ac (ni f.size d) (ac (ni (le f.size i.size) g) aq))
 refine L0<|Oc<|m3 (cO (RC.upd dc bP (aa a6 ay) bQ)) fun ev de bR ew=>Pl 1<|?_
 refine L0<|bT (aU bR (Ne.symm a6) dd) 4 (mG c 0 ((ah.mk b false 0).wordV) 0 (((ah.mk b false 0).wordsC 1).wordV) 0 0 0 0 0 0 0 nS nS nS nS 0 0 0 0 0 nS) fun ex df bS=>nl<|bn<|tn<|sg<|Pl 1<|?_
 have b0:=us bR bS
 have bU:=ut bQ b0 (ac (ni f.size d) (ac (ni (le f.size i.size) g) aq))
 refine L0<|Oc<|m2 (dX (RC.upd de bS (aa a6 ay) bU)) fun ey b1 az=>nt<|sq<|sg<|Pl 3<|L0<|dU (p:=⟨l,3,none⟩) (v:=.int .i64 (((((ah.mk b false 0).wordsC 1).wordsC 1).endC).e)) (RC.fld b1)<|Pl 1<|nt<|?_
 have bV:=ud bU az (le f.size d)
 refine cb (((((((ah.mk b false 0).wordsC 1).wordsC 1).endC).e)!=0)) (fun a7=>?_) (fun a7=>?_)
 have b2:=au a7
 refine sq<|Rg 7 (fun w'=>w'.cell? ⟨l,3,none⟩=some (.int .i64 (((((ah.mk b false 0).wordsC 1).wordsC 1).endC).e))) fun ez aB=>?_
 have bW:=RC.upd b1 aB ay (aD.step (RC.u b1) aB)
 refine bh (RC.fld bW) fun a8=>Rt 0 a8<|Rt 1 a8<|Rt 2 a8<|Rt 3 a8<|Rl 4 a8 (fun _ hs=>hs)<|?_
 refine R0 5 rfl<|b6 (ub (ut s (ut aZ (u1 b0 (aH az aB) im) (ac im (ac im aq))) (ac (nr d) (ac (ni i.size g) aq))) j) mZ fun eA dg bX=>?_
 have bY:=ud bV (uz aB bX) y
 refine bh (RC.fld (RC.upd bW bX (aa (Ne.symm (nb (ak j) lr d)) ay) bY)) fun dh=>Rt 6 dh<|re<|tn<|rt<|tr<|bF dg (.int .i64 (((((ah.mk b false 0).wordsC 1).wordsC 1).endC).e))<|?_
 have hs:ae aI 1 c b=aF (aP.mk c 0 ((ah.mk b false 0).wordV) 0 (((ah.mk b false 0).wordsC 1).wordV) 0 0 0 0 0 0 0 [] [] [] [] 0 0 0 0 0 []) (((ah.mk b false 0).wordsC 1).wordsC 1):=by
   unfold ae aI bK bO cT cC cm cA cy gN
   (try simp only[k,B,D,E,C,t,a7,bs,if_true,if_false,decide_true,decide_false,eq_self,true_or,or_true,or_false,false_or,if_true,if_false,ch,cg,cc,bZ,reduceIte,j0,iY])
   all_goals rfl
 rw[hs]
 exact bg b2 bY
 have b2:=ai a7
 refine bo<|sg<|?_
 refine L0<|cl (aU az (Ne.symm a6) df)<|?_
 refine L0<|b6 (ub (ut s (ut aZ (u1 b0 az im) (ac im (ac im aq))) (ac (nr d) (ac (ni i.size g) aq))) j) (mG c 0 ((ah.mk b false 0).wordV) 0 (((ah.mk b false 0).wordsC 1).wordV) 0 0 0 0 0 0 0 nS nS nS nS 0 0 0 0 0 nS) fun eB di dj=>Pl 1<|nt<|rt<|bF di (.int .i64 0)<|?_
 have hs:ae aI 1 c b=aF (aP.mk c 0 ((ah.mk b false 0).wordV) 0 (((ah.mk b false 0).wordsC 1).wordV) 0 0 0 0 0 0 0 [] [] [] [] 0 0 0 0 0 []) (((ah.mk b false 0).wordsC 1).wordsC 1):=by
   unfold ae aI bK bO cT cC cm cA cy gN
   (try simp only[k,B,D,E,C,t,a7,bs,if_true,if_false,decide_true,decide_false,eq_self,true_or,or_true,or_false,false_or,if_true,if_false,ch,cg,cc,bZ,reduceIte,j0,iY])
   all_goals rfl
 rw[hs]
 exact bj b2 ⟨_,_,_,_,_,rfl,aK.nil ..,aK.nil ..,(fun _ _ _=>aK.nil ..),aK.nil ..,aK.nil ..,⟨(b8 (x:=c) (by omega)),(b8 (x:=0) (by omega)),(aC (x:=(ah.mk b false 0).wordV) (by omega)),(aC (x:=0) (by omega)),(aC (x:=((ah.mk b false 0).wordsC 1).wordV) (by omega)),(aC (x:=0) (by omega)),(aC (x:=0) (by omega)),(aC (x:=0) (by omega)),(aC (x:=0) (by omega)),(aC (x:=0) (by omega)),(aC (x:=0) (by omega)),(aC (x:=0) (by omega)),(b8 (x:=0) (by omega)),(b8 (x:=0) (by omega)),(b8 (x:=0) (by omega)),(b8 (x:=0) (by omega)),(b8 (x:=0) (by omega))⟩⟩ (ud bV dj y)
 have da:=ap t
 refine sg<|Pl 3<|nt<|cb ((c==16)) (fun F=>?_) (fun F=>?_)
 have dk:=al F
 refine sg<|Pl 1<|?_
 have dl:RC w _ A cp b X l (ah.mk b false 0):=⟨hsl,z,(Nat.le_trans f.size d),⟨0,(ub T q),Nat.zero_le _,rfl⟩,by omega⟩
 refine L0<|Oc<|m3 (cO dl) fun eC dm c1 eD=>Pl 1<|?_
 have a9:=nb (ak q) lr g
 refine L0<|bT (aU c1 (Ne.symm a9) Y) 2 (mG c 0 ((ah.mk b false 0).wordV) 0 0 0 0 0 0 0 0 0 nS nS nS nS 0 0 0 0 0 nS) fun eE c2 c3=>ng<|Pl 2<|L0<|aR c2 2<|?_
 have b3:=us c1 c3
 have c4:=ut z b3 (ac (ni f.size d) (ac (ni (le f.size i.size) g) aq))
 refine L0<|Oc<|m3 (jC (a:=(ah.mk b false 0).wordV) (most:=123) (by omega) (RC.upd dm c3 (aa a9 ay) c4)) fun eF dn c5 eG=>?_
 refine fj dn fun U c6 dp=>?_
 refine L0<|vF (((ah.mk b false 0).wordsC 1).wordV)<|Pl 1<|?_
 refine L0<|bT (aU c5 (Ne.symm a9) c2) 3 (mG c 0 ((ah.mk b false 0).wordV) (((ah.mk b false 0).wordsC 1).wordV) 0 0 0 0 0 0 0 0 nS nS nS nS 0 0 0 0 0 nS) fun eH dq c7=>ng<|Pl 2<|nt<|c0<|sk<|bn<|tn<|sg<|?_
 refine Pl 1<|?_
 have b4:=us c5 c7
 have c8:=ut c4 b4 (ac (ni f.size d) (ac (ni (le f.size i.size) g) aq))
 refine L0<|Oc<|m2 (dX (RC.upd dp c7 (aa a9 ay) c8)) fun eI b5 aE=>nt<|sq<|sg<|Pl 3<|L0<|dU (p:=⟨l,3,none⟩) (v:=.int .i64 U.endC.e) (RC.fld b5)<|Pl 1<|nt<|?_
 have c9:=ud c8 aE (le f.size d)
 refine cb ((U.endC.e != 0)) (fun ab=>?_) (fun ab=>?_)
 have b7:=au ab
 refine sq<|Rg 7 (fun w'=>w'.cell? ⟨l,3,none⟩=some (.int .i64 U.endC.e)) fun eJ aG=>?_
 have ca:=RC.upd b5 aG ay (aD.step (RC.u b5) aG)
 refine bh (RC.fld ca) fun ad=>Rt 0 ad<|Rt 1 ad<|Rt 2 ad<|Rt 3 ad<|Rl 4 ad (fun _ hs=>hs)<|?_
 refine R0 5 rfl<|b6 (ub (ut s (ut b3 (u1 b4 (aH aE aG) im) (ac im (ac im aq))) (ac (nr d) (ac (ni i.size g) aq))) j) mZ fun eK dr cd=>?_
 have ci:=ud c9 (uz aG cd) y
 refine bh (RC.fld (RC.upd ca cd (aa (Ne.symm (nb (ak j) lr d)) ay) ci)) fun ds=>Rt 6 ds<|re<|tn<|rt<|tr<|bF dr (.int .i64 U.endC.e)<|?_
 have hs:ae aI 1 c b=aF (aP.mk c 0 ((ah.mk b false 0).wordV) (((ah.mk b false 0).wordsC 1).wordV) 0 0 0 0 0 0 0 0 [] [] [] [] 0 0 0 0 0 []) U:=by
   subst c6
   unfold ae aI bK bO cT cC cm cA cy gN
   (try simp only[k,B,D,E,C,t,F,ab,bs,if_true,if_false,decide_true,decide_false,eq_self,true_or,or_true,or_false,false_or,if_true,if_false,ch,cg,cc,bZ,reduceIte,j0,iY])
   all_goals rfl
 rw[hs]
 exact bg b7 ci
 have b7:=ai ab
 refine bo<|sg<|?_
 refine L0<|cl (aU aE (Ne.symm a9) dq)<|?_
 refine L0<|b6 (ub (ut s (ut b3 (u1 b4 aE im) (ac im (ac im aq))) (ac (nr d) (ac (ni i.size g) aq))) j) (mG c 0 ((ah.mk b false 0).wordV) (((ah.mk b false 0).wordsC 1).wordV) 0 0 0 0 0 0 0 0 nS nS nS nS 0 0 0 0 0 nS) fun eL dt du=>Pl 1<|nt<|rt<|bF dt (.int .i64 0)<|?_
 have hs:ae aI 1 c b=aF (aP.mk c 0 ((ah.mk b false 0).wordV) (((ah.mk b false 0).wordsC 1).wordV) 0 0 0 0 0 0 0 0 [] [] [] [] 0 0 0 0 0 []) U:=by
   subst c6
   unfold ae aI bK bO cT cC cm cA cy gN
   (try simp only[k,B,D,E,C,t,F,ab,bs,if_true,if_false,decide_true,decide_false,eq_self,true_or,or_true,or_false,false_or,if_true,if_false,ch,cg,cc,bZ,reduceIte,j0,iY])
   all_goals rfl
 rw[hs]
 exact bj b7 ⟨_,_,_,_,_,rfl,aK.nil ..,aK.nil ..,(fun _ _ _=>aK.nil ..),aK.nil ..,aK.nil ..,⟨(b8 (x:=c) (by omega)),(b8 (x:=0) (by omega)),(aC (x:=(ah.mk b false 0).wordV) (by omega)),(aC (x:=((ah.mk b false 0).wordsC 1).wordV) (by omega)),(aC (x:=0) (by omega)),(aC (x:=0) (by omega)),(aC (x:=0) (by omega)),(aC (x:=0) (by omega)),(aC (x:=0) (by omega)),(aC (x:=0) (by omega)),(aC (x:=0) (by omega)),(aC (x:=0) (by omega)),(b8 (x:=0) (by omega)),(b8 (x:=0) (by omega)),(b8 (x:=0) (by omega)),(b8 (x:=0) (by omega)),(b8 (x:=0) (by omega))⟩⟩ (ud c9 du y)
 have dk:=ap F
 refine sg<|Pl 3<|nt<|cb ((c==22)) (fun J=>?_) (fun J=>?_)
 have dv:=al J
 refine sg<|Pl 1<|?_
 have dw:RC w _ A cp b X l (ah.mk b false 0):=⟨hsl,z,(Nat.le_trans f.size d),⟨0,(ub T q),Nat.zero_le _,rfl⟩,by omega⟩
 refine L0<|Oc<|m3 (cO dw) fun eM dx cj eN=>Pl 1<|?_
 have O:=nb (ak q) lr g
 refine L0<|bT (aU cj (Ne.symm O) Y) 2 (mG c 0 ((ah.mk b false 0).wordV) 0 0 0 0 0 0 0 0 0 nS nS nS nS 0 0 0 0 0 nS) fun eO dy ck=>ng<|Pl 1<|?_
 have ba:=us cj ck
 have cn:=ut z ba (ac (ni f.size d) (ac (ni (le f.size i.size) g) aq))
 refine L0<|Oc<|m3 (cO (RC.upd dx ck (aa O ay) cn)) fun eP dA co eQ=>Pl 1<|?_
 refine L0<|bT (aU co (Ne.symm O) dy) 5 (mG c 0 ((ah.mk b false 0).wordV) 0 0 (((ah.mk b false 0).wordsC 1).wordV) 0 0 0 0 0 0 nS nS nS nS 0 0 0 0 0 nS) fun eR dB cq=>nt<|go<|Pl 1<|?_
 have bb:=us co cq
 have cr:=ut cn bb (ac (ni f.size d) (ac (ni (le f.size i.size) g) aq))
 refine L0<|Oc<|m3 (cO (RC.upd dA cq (aa O ay) cr)) fun eS dC cs eT=>Pl 1<|?_
 refine L0<|bT (aU cs (Ne.symm O) dB) 6 (mG c 0 ((ah.mk b false 0).wordV) 0 0 (((ah.mk b false 0).wordsC 1).wordV) ((((ah.mk b false 0).wordsC 1).wordsC 1).wordV) 0 0 0 0 0 nS nS nS nS 0 0 0 0 0 nS) fun eU dD ct=>nl<|bn<|tn<|sg<|Pl 1<|?_
 have bc:=us cs ct
 have cv:=ut cr bc (ac (ni f.size d) (ac (ni (le f.size i.size) g) aq))
 refine L0<|Oc<|m2 (dX (RC.upd dC ct (aa O ay) cv)) fun eV bd aL=>nt<|sq<|sg<|Pl 3<|L0<|dU (p:=⟨l,3,none⟩) (v:=.int .i64 ((((((ah.mk b false 0).wordsC 1).wordsC 1).wordsC 1).endC).e)) (RC.fld bd)<|Pl 1<|nt<|?_
 have cw:=ud cv aL (le f.size d)
 refine cb ((((((((ah.mk b false 0).wordsC 1).wordsC 1).wordsC 1).endC).e)!=0)) (fun af=>?_) (fun af=>?_)
 have be:=au af
 refine sq<|Rg 7 (fun w'=>w'.cell? ⟨l,3,none⟩=some (.int .i64 ((((((ah.mk b false 0).wordsC 1).wordsC 1).wordsC 1).endC).e))) fun eW aM=>?_
 have cx:=RC.upd bd aM ay (aD.step (RC.u bd) aM)
 refine bh (RC.fld cx) fun ag=>Rt 0 ag<|Rt 1 ag<|Rt 2 ag<|Rt 3 ag<|Rl 4 ag (fun _ hs=>hs)<|?_
 refine R0 5 rfl<|b6 (ub (ut s (ut ba (ut bb (u1 bc (aH aL aM) im) (ac im (ac im aq))) (ac im (ac im aq))) (ac (nr d) (ac (ni i.size g) aq))) j) mZ fun eX dE cz=>?_
 have cB:=ud cw (uz aM cz) y
 refine bh (RC.fld (RC.upd cx cz (aa (Ne.symm (nb (ak j) lr d)) ay) cB)) fun dF=>Rt 6 dF<|re<|tn<|rt<|tr<|bF dE (.int .i64 ((((((ah.mk b false 0).wordsC 1).wordsC 1).wordsC 1).endC).e))<|?_
 have hs:ae aI 1 c b=aF (aP.mk c 0 ((ah.mk b false 0).wordV) 0 0 (((ah.mk b false 0).wordsC 1).wordV) ((((ah.mk b false 0).wordsC 1).wordsC 1).wordV) 0 0 0 0 0 [] [] [] [] 0 0 0 0 0 []) ((((ah.mk b false 0).wordsC 1).wordsC 1).wordsC 1):=by
   unfold ae aI bK bO cT cC cm cA cy gN
   (try simp only[k,B,D,E,C,t,F,J,af,bs,if_true,if_false,decide_true,decide_false,eq_self,true_or,or_true,or_false,false_or,if_true,if_false,ch,cg,cc,bZ,reduceIte,j0,iY])
   all_goals rfl
 rw[hs]
 exact bg be cB
 have be:=ai af
 refine bo<|sg<|?_
 refine L0<|cl (aU aL (Ne.symm O) dD)<|?_
 refine L0<|b6 (ub (ut s (ut ba (ut bb (u1 bc aL im) (ac im (ac im aq))) (ac im (ac im aq))) (ac (nr d) (ac (ni i.size g) aq))) j) (mG c 0 ((ah.mk b false 0).wordV) 0 0 (((ah.mk b false 0).wordsC 1).wordV) ((((ah.mk b false 0).wordsC 1).wordsC 1).wordV) 0 0 0 0 0 nS nS nS nS 0 0 0 0 0 nS) fun eY dH dI=>Pl 1<|nt<|rt<|bF dH (.int .i64 0)<|?_
 have hs:ae aI 1 c b=aF (aP.mk c 0 ((ah.mk b false 0).wordV) 0 0 (((ah.mk b false 0).wordsC 1).wordV) ((((ah.mk b false 0).wordsC 1).wordsC 1).wordV) 0 0 0 0 0 [] [] [] [] 0 0 0 0 0 []) ((((ah.mk b false 0).wordsC 1).wordsC 1).wordsC 1):=by
   unfold ae aI bK bO cT cC cm cA cy gN
   (try simp only[k,B,D,E,C,t,F,J,af,bs,if_true,if_false,decide_true,decide_false,eq_self,true_or,or_true,or_false,false_or,if_true,if_false,ch,cg,cc,bZ,reduceIte,j0,iY])
   all_goals rfl
 rw[hs]
 exact bj be ⟨_,_,_,_,_,rfl,aK.nil ..,aK.nil ..,(fun _ _ _=>aK.nil ..),aK.nil ..,aK.nil ..,⟨(b8 (x:=c) (by omega)),(b8 (x:=0) (by omega)),(aC (x:=(ah.mk b false 0).wordV) (by omega)),(aC (x:=0) (by omega)),(aC (x:=0) (by omega)),(aC (x:=((ah.mk b false 0).wordsC 1).wordV) (by omega)),(aC (x:=(((ah.mk b false 0).wordsC 1).wordsC 1).wordV) (by omega)),(aC (x:=0) (by omega)),(aC (x:=0) (by omega)),(aC (x:=0) (by omega)),(aC (x:=0) (by omega)),(aC (x:=0) (by omega)),(b8 (x:=0) (by omega)),(b8 (x:=0) (by omega)),(b8 (x:=0) (by omega)),(b8 (x:=0) (by omega)),(b8 (x:=0) (by omega))⟩⟩ (ud cw dI y)
 have dv:=ap J
 refine sg<|Pl 3<|nt<|cf C<|sg<|Pl 3<|cu 3 [168] 171 (false) (fun K cD=>?_) ?_
 refine bl 168 ((c==24)) (fun bf=>?_) (fun bf=>?_)
 have dJ:=al bf
 exact Pl 3<|ce cD false rfl
 have dJ:=ap bf
 exact Pl 3<|ce cD false rfl
 refine Pl 1<|nt<|c0<|sg<|Pl 3<|nt<|cb ((c==24)) (fun V=>?_) (fun V=>?_)
 have dK:=al V
 refine sg<|Pl 1<|?_
 have dL:RC w _ A cp b X l (ah.mk b false 0):=⟨hsl,z,(Nat.le_trans f.size d),⟨0,(ub T q),Nat.zero_le _,rfl⟩,by omega⟩
 refine L0<|Oc<|m3 (cO dL) fun eZ dM P f0=>L0<|Oi ((ah.mk b false 0).wordV)<|Pl 1<|ng<|Pl 2<|L0<|Oe (.int .i64 (Int.tmod ((ah.mk b false 0).wordV) 2)) (.int .i64 (((ah.mk b false 0).wordV)%2)) (congrArg (Value.int .i64) (Int.tmod_eq_emod_of_nonneg (by omega)))<|Pl 2<|cu 3 [185] 188 ((((((ah.mk b false 0).wordV)%2)==0)&&(decide (2≤((ah.mk b false 0).wordV))))) (fun K cE=>?_) ?_
 refine bl 185 (((((ah.mk b false 0).wordV)%2)==0)) (fun aj=>?_) (fun aj=>?_)
 have dN:=al aj
 exact Pl 3<|ce cE (decide (2≤((ah.mk b false 0).wordV))) (by rw[aj];rfl)
 have dN:=ap aj
 exact Pl 3<|ce cE false (by rw[aj];rfl)
 refine Pl 1<|cu 3 [189] 192 (((((((ah.mk b false 0).wordV)%2)==0)&&(decide (2≤((ah.mk b false 0).wordV))))&&(decide (((ah.mk b false 0).wordV)≤64)))) (fun K cF=>?_) ?_
 refine bl 189 ((((((ah.mk b false 0).wordV)%2)==0)&&(decide (2≤((ah.mk b false 0).wordV))))) (fun am=>?_) (fun am=>?_)
 have dO:=(aS am).1
 have dP:=(aS am).2
 have f1:=al dO
 have f2:=of_decide_eq_true dP
 exact Pl 3<|ce cF (decide (((ah.mk b false 0).wordV)≤64)) (by rw[am];rfl)
 exact Pl 3<|ce cF false (by rw[am];rfl)
 refine L0<|Oc<|m2 (aV (((((((ah.mk b false 0).wordV)%2)==0)&&(decide (2≤((ah.mk b false 0).wordV))))&&(decide (((ah.mk b false 0).wordV)≤64)))) 5 dM) fun f3 dQ Q=>?_
 refine fj dQ fun o cG dR=>?_
 refine ng<|Pl 1<|L0<|Oc<|m3 (cO dR) fun f4 dS R f5=>L0<|Oi o.wordV<|Pl 1<|ng<|Pl 3<|L0<|Oi (2*o.wordV)<|?_
 refine L0<|Oi ((2*o.wordV)+2)<|Pl 1<|L0<|Oc<|m2 (aV ((((ah.mk b false 0).wordV)==((2*o.wordV)+2))) 5 dS) fun f6 dT S=>?_
 refine fj dT fun G cH dV=>?_
 refine nt<|go<|Pl 2<|L0<|Oc<|lS (fw (n:=o.wordV) (by omega) dV) fun cI cJ f7 L f8 f9 dW dY=>Pl 1<|?_
 have cK:=u1 P (u1 Q (u1 R (u1 S dY im) im) im) im
 have bi:=nb (ak q) lr g
 refine L0<|bT (aU cK (Ne.symm bi) Y) 12 (mG c 0 0 0 0 0 0 0 0 0 0 0 (.slice cI ((G.wordsR o.wordV).length) cJ) nS nS nS 0 0 0 0 0 nS) fun fa dZ aN=>nl<|bn<|tn<|sg<|Pl 1<|?_
 have bm:=us cK aN
 have cL:=ut z bm (ac (ni f.size d) (ac (ni (le f.size i.size) g) aq))
 refine L0<|Oc<|m2 (dX (RC.upd dW aN (aa bi ay) cL)) fun fb bp an=>nt<|sq<|sg<|Pl 3<|L0<|dU (p:=⟨l,3,none⟩) (v:=.int .i64 (((G.wordsC o.wordV).endC).e)) (RC.fld bp)<|Pl 1<|nt<|?_
 have cM:=ud cL an (le f.size d)
 refine cb (((((G.wordsC o.wordV).endC).e)!=0)) (fun ao=>?_) (fun ao=>?_)
 have bq:=au ao
 refine sq<|Rg 7 (fun w'=>w'.cell? ⟨l,3,none⟩=some (.int .i64 (((G.wordsC o.wordV).endC).e))) fun fc aO=>?_
 have cN:=RC.upd bp aO ay (aD.step (RC.u bp) aO)
 refine bh (RC.fld cN) fun ar=>Rt 0 ar<|Rt 1 ar<|Rt 2 ar<|Rt 3 ar<|Rl 4 ar (fun _ hs=>hs)<|?_
 have cP:=aH an aO
 refine R0 5 rfl<|b6 (ub (ut s (u1 bm cP im) (ac (nr d) (ac (ni i.size g) aq))) j) mZ fun fd e0 bt=>?_
 have cQ:=ud cM (uz aO bt) y
 refine bh (RC.fld (RC.upd cN bt (aa (Ne.symm (nb (ak j) lr d)) ay) cQ)) fun e1=>Rt 6 e1<|re<|tn<|rt<|tr<|bF e0 (.int .i64 (((G.wordsC o.wordV).endC).e))<|?_
 have fe:=ax L (us aN (us cP bt)) (fun x hx=>(aa (fun e=>(aA (ak W) (le (le (le (le r.size P.size) Q.size) R.size) S.size) L) (e▸hx)) (aa (fun e=>(aA (ak q) (le (le (le (le (le H.size r.size) P.size) Q.size) R.size) S.size) L) (e▸hx)) (aa (fun e=>(aA (ak j) (le (le (le (le (le (le i.size H.size) r.size) P.size) Q.size) R.size) S.size) L) (e▸hx)) ay)))) (fun _ _ h=>h)
 have hs:ae aI 1 c b=aF (aP.mk c 0 0 0 0 0 0 0 0 0 0 0 (G.wordsR o.wordV) [] [] [] 0 0 0 0 0 []) (G.wordsC o.wordV):=by
   subst cH cG
   unfold ae aI bK bO cT cC cm cA cy gN
   (try simp only[k,B,D,E,C,t,F,J,V,ao,bs,if_true,if_false,decide_true,decide_false,eq_self,true_or,or_true,or_false,false_or,if_true,if_false,ch,cg,cc,bZ,reduceIte,j0,iY])
   all_goals rfl
 rw[hs]
 exact bg bq cQ
 have bq:=ai ao
 refine bo<|sg<|?_
 refine L0<|cl (aU an (Ne.symm bi) dZ)<|?_
 refine L0<|b6 (ub (ut s (u1 bm an im) (ac (nr d) (ac (ni i.size g) aq))) j) (mG c 0 0 0 0 0 0 0 0 0 0 0 (.slice cI ((G.wordsR o.wordV).length) cJ) nS nS nS 0 0 0 0 0 nS) fun ff e2 cR=>Pl 1<|nt<|rt<|bF e2 (.int .i64 0)<|?_
 have hs:ae aI 1 c b=aF (aP.mk c 0 0 0 0 0 0 0 0 0 0 0 (G.wordsR o.wordV) [] [] [] 0 0 0 0 0 []) (G.wordsC o.wordV):=by
   subst cH cG
   unfold ae aI bK bO cT cC cm cA cy gN
   (try simp only[k,B,D,E,C,t,F,J,V,ao,bs,if_true,if_false,decide_true,decide_false,eq_self,true_or,or_true,or_false,false_or,if_true,if_false,ch,cg,cc,bZ,reduceIte,j0,iY])
   all_goals rfl
 rw[hs]
 exact bj bq ⟨_,_,_,_,_,rfl,((ax L (us aN (us an cR)) (fun x hx=>(aa (fun e=>(aA (ak W) (le (le (le (le r.size P.size) Q.size) R.size) S.size) L) (e▸hx)) (aa (fun e=>(aA (ak q) (le (le (le (le (le H.size r.size) P.size) Q.size) R.size) S.size) L) (e▸hx)) (aa (fun e=>(aA (ak j) (le (le (le (le (le (le i.size H.size) r.size) P.size) Q.size) R.size) S.size) L) (e▸hx)) ay)))) (fun _ _ h=>h))).rd,aK.nil ..,(fun _ _ _=>aK.nil ..),aK.nil ..,aK.nil ..,⟨(b8 (x:=c) (by omega)),(b8 (x:=0) (by omega)),(aC (x:=0) (by omega)),(aC (x:=0) (by omega)),(aC (x:=0) (by omega)),(aC (x:=0) (by omega)),(aC (x:=0) (by omega)),(aC (x:=0) (by omega)),(aC (x:=0) (by omega)),(aC (x:=0) (by omega)),(aC (x:=0) (by omega)),(aC (x:=0) (by omega)),(b8 (x:=0) (by omega)),(b8 (x:=0) (by omega)),(b8 (x:=0) (by omega)),(b8 (x:=0) (by omega)),(b8 (x:=0) (by omega))⟩⟩ (ud cM cR y)
 have dK:=ap V
 refine sg<|Pl 1<|?_
 refine L0<|b6 (ub s j) mZ fun fg e3 e4=>Pl 1<|nt<|rt<|br<|tr<|bF e3 (.int .i64 4)<|?_
 have hs:ae aI 1 c b=(aP.zero,4):=by
   unfold ae aI bK bO cT cC cm cA cy gN
   (try simp only[k,B,D,E,C,t,F,J,V,bs,if_true,if_false,decide_true,decide_false,eq_self,true_or,or_true,or_false,false_or,if_true,if_false,ch,cg,cc,bZ,reduceIte,j0,iY])
   all_goals rfl
 rw[hs]
 exact bv (ud z e4 y)
theorem kH{m:Md}{A:Option Addr}{cp:Nat}{b:List Int}{w:World}{dir c:Int}(hcode:B8 c)(hsl:b9 m w (.slice A b.length cp) b)(hb:b.length≤1048576)(hd:¬ (dir=0∨dir=1)) :
    Calls Tryz.prog 94 #[.int .i64 dir,.int .u8 c,.slice A b.length cp] w (d9 (.slice A b.length cp) b (ae aI dir c b) w):=by
 obtain⟨hcode1,hcode2⟩:=hcode
 have hln:(b.length:Int)≤1048576:=by omega
 have e0:(dir != 0)=true:=by simp;omega
 have e1:(dir != 1)=true:=by simp;omega
 refine en 221 Tryz.func94 rfl<|sg<|L0<|bI mZ fun g h a d e=>Pl 1<|nt<|sq<|sg<|Pl 3<|sy 18 e0<|Pl 3<|nl<|?_
 refine tn<|ct e1<|sg<|Pl 1<|L0<|b6 d mZ fun i dm f=>Pl 1<|nt<|rt<|tr<|bF dm (.int .i64 1)<|?_
 have hs:ae aI dir c b=(aP.zero,1):=by
   unfold ae aI bK bO cT cC cm cA cy gN
   (try simp only[e0,e1,bs,if_true,if_false,decide_true,decide_false,eq_self,true_or,or_true,or_false,false_or,if_true,if_false,ch,cg,cc,bZ,reduceIte,hd,j0,iY])
   all_goals rfl
 rw[hs]
 exact bv (ud e f a)
open Go.RowKit
def ew (dir:Int)(C:ah) : ah:=(C.wordsC 1).need (dZ C.wordV&&((C.wordV != 4)||(dir==0))) 8
theorem fA{C:ah}:ew 0 C=(C.wordsC 1).need (dZ C.wordV) 8:=by
  unfold ew
  rw[show((0:Int)==0)=true from rfl,Bool.or_true,Bool.and_true]
theorem fx{C:ah}:ew 1 C=(C.wordsC 1).need (dZ C.wordV&&(C.wordV != 4)) 8:=by
  unfold ew
  rw[show((1:Int)==0)=false from rfl,Bool.or_false]
def cV (dir c:Int)(C:ah) : ah × aP :=
  if C.wordV==0 then ((iK (ew dir C)).wordsC (((ew dir C).l.length:Int)/2),{ aP.zero with code:=c,sub:=C.wordV,words:=(iK (ew dir C)).wordsR (((ew dir C).l.length:Int)/2) })
  else (((ew dir C).wordsC 1).need (eQ dir C.wordV (ew dir C).wordV) 6,{ aP.zero with code:=c,sub:=C.wordV,words:=[(ew dir C).wordV] })
def co (c:Int)(C:ah) : ah × aP :=
  if c==7 then (C.bytesC 1,{ aP.zero with code:=c,value:=C.byteV })
  else if c==11 then ((dv C).wordsC 1,{ aP.zero with code:=c,status:=C.wordV,events:=(dv C).wordV })
  else if c==12 then ((gH C).bytesC (C.byteV-6),{ aP.zero with code:=c,status:=(gr C 6 70).wordV,events:=(dv (gr C 6 70)).wordV,messages:=((dv (gr C 6 70)).wordsC 1).wordV,data:=(gH C).bytesR (C.byteV-6) })
  else ((gr C 1 251).bytesC C.byteV,{ aP.zero with code:=c,data:=(gr C 1 251).bytesR C.byteV })
def aY (dir c:Int)(C:ah) : Option (ah × aP) :=
  if ((((c != 7)&&(c != 8))&&(c != 11))&&(c != 12))&&(c != 17) then none
  else if c==8 then some (cV dir c C)
  else if dir==0 then some (C,{ aP.zero with code:=c })
  else some (co c C)
theorem kz{m:Md}{A:Option Addr}{cp:Nat}{b:List Int}{w:World}{c:Int}(hcode:B8 c)(hsl:b9 m w (.slice A b.length cp) b)(hb:b.length≤1048576) :
    Calls Tryz.prog 95 #[.int .i64 0,.int .u8 c,.slice A b.length cp] w (d9 (.slice A b.length cp) b (ae aY 0 c b) w):=by
 obtain⟨hcode1,hcode2⟩:=hcode
 have hln:(b.length:Int)≤1048576:=by omega
 refine en 197 Tryz.func95 rfl<|sg<|L0<|bI mZ fun cP cQ I g i=>Pl 1<|nt<|sq<|sg<|Pl 6<|nt<|c0<|?_
 refine bo<|sq<|sg<|Pl 3<|cu 3 [24] 27 (((c != 7)&&(c != 8))) (fun K aT=>?_) ?_
 refine bl 24 ((c != 7)) (fun P=>?_) (fun P=>?_)
 have bW:=au P
 exact Pl 3<|ce aT (c != 8) (by rw[P];rfl)
 have bW:=ai P
 exact Pl 3<|ce aT false (by rw[P];rfl)
 refine Pl 1<|cu 3 [28] 31 ((((c != 7)&&(c != 8))&&(c != 11))) (fun K aW=>?_) ?_
 refine bl 28 (((c != 7)&&(c != 8))) (fun Q=>?_) (fun Q=>?_)
 have bX:=(aS Q).1
 have bY:=(aS Q).2
 have cR:=au bX
 have cS:=au bY
 exact Pl 3<|ce aW (c != 11) (by rw[Q];rfl)
 exact Pl 3<|ce aW false (by rw[Q];rfl)
 refine Pl 1<|cu 3 [32] 35 (((((c != 7)&&(c != 8))&&(c != 11))&&(c != 12))) (fun K aZ=>?_) ?_
 refine bl 32 ((((c != 7)&&(c != 8))&&(c != 11))) (fun R=>?_) (fun R=>?_)
 have b0:=(aS R).1
 have c2:=(aS R).2
 have c3:=(aS b0).1
 have c4:=(aS b0).2
 have q19aap:=au c3
 have q19abp:=au c4
 have cT:=au c2
 exact Pl 3<|ce aZ (c != 12) (by rw[R];rfl)
 exact Pl 3<|ce aZ false (by rw[R];rfl)
 refine Pl 1<|cu 3 [36] 39 ((((((c != 7)&&(c != 8))&&(c != 11))&&(c != 12))&&(c != 17))) (fun K b1=>?_) ?_
 refine bl 36 (((((c != 7)&&(c != 8))&&(c != 11))&&(c != 12))) (fun S=>?_) (fun S=>?_)
 have b2:=(aS S).1
 have c5:=(aS S).2
 have b3:=(aS b2).1
 have c6:=(aS b2).2
 have q21aaa:=(aS b3).1
 have q21aab:=(aS b3).2
 have q21aaap:=au q21aaa
 have q21aabp:=au q21aab
 have q21abp:=au c6
 have cU:=au c5
 exact Pl 3<|ce b1 (c != 17) (by rw[S];rfl)
 exact Pl 3<|ce b1 false (by rw[S];rfl)
 refine nt<|cb ((((((c != 7)&&(c != 8))&&(c != 11))&&(c != 12))&&(c != 17))) (fun r=>?_) (fun r=>?_)
 have aj:=(aS r).1
 have b4:=(aS r).2
 have am:=(aS aj).1
 have b5:=(aS aj).2
 have q23aaa:=(aS am).1
 have q23aab:=(aS am).2
 have q23aaaa:=(aS q23aaa).1
 have q23aaab:=(aS q23aaa).2
 have q23aaaap:=au q23aaaa
 have q23aaabp:=au q23aaab
 have q23aabp:=au q23aab
 have q23abp:=au b5
 have cW:=au b4
 refine sg<|Pl 1<|L0<|b6 g mZ fun cX c7 c8=>Pl 1<|nt<|rt<|tr<|bF c7 (.int .i64 4)<|?_
 have hs:ae aY 0 c b=(aP.zero,4):=by
   unfold ae aY cV co
   (try simp only[r,aj,am,q23aaa,q23aaaa,q23aaab,q23aab,b5,b4,bs,if_true,if_false,decide_true,decide_false,eq_self,true_or,or_true,or_false,false_or,if_true,if_false,ch,cg,cc,bZ,reduceIte,fA,fx])
   all_goals rfl
 rw[hs]
 exact bv (ud i c8 I)
 refine bo<|sg<|Pl 2<|L0<|dz #[.slice A b.length cp,.int .i64 0,.bool false,.int .i64 0] fun D cY a E q=>Pl 1<|ng<|Pl 2<|L0<|bI mZ fun cZ d0 s T y=>L0<|b6 T (mC c) fun b7 ba k=>?_
 refine nt<|sq<|bk<|sg<|Pl 3<|nt<|?_
 have an:=ud y k s
 have J:=aH q an
 have a6:=aH i J
 refine cb ((c==8)) (fun z=>?_) (fun z=>?_)
 have c9:=al z
 refine sg<|Pl 1<|?_
 have ca:RC w _ A cp b b7 D (ah.mk b false 0):=⟨hsl,a6,(Nat.le_trans i.size a),⟨0,(ub an E),Nat.zero_le _,rfl⟩,by omega⟩
 refine L0<|Oc<|m3 (cO ca) fun d1 cd j d2=>Pl 1<|?_
 have t:=nb (ak E) lr s
 refine L0<|bT (aU j (Ne.symm t) ba) 8 (mG c 0 0 0 0 0 0 0 ((ah.mk b false 0).wordV) 0 0 0 nS nS nS nS 0 0 0 0 0 nS) fun cf ao o=>ng<|Pl 1<|L0<|aR ao 8<|L0<|Oc<|m1 (wn (x:=(ah.mk b false 0).wordV) (w:=cf) (by omega)) fun d3 f=>Pl 1<|ng<|Pl 3<|cu 8 [72] 80 ((dZ ((ah.mk b false 0).wordV))) (fun K bb=>?_) ?_
 refine bl 72 ((dZ ((ah.mk b false 0).wordV))) (fun ar=>?_) (fun ar=>?_)
 refine Pl 1<|?_
 refine L1<|aR (ub f ao) 8<|Pl 2<|cu 3 [76] 79 (true) (fun K bc=>?_) ?_
 refine bl 76 ((((ah.mk b false 0).wordV)!=4)) (fun av=>?_) (fun av=>?_)
 have ci:=au av
 exact Pl 3<|ce bc true rfl
 have ci:=ai av
 exact Pl 3<|ce bc true rfl
 exact Pl 1<|ce bb true ar
 exact Pl 8<|ce bb false ar
 have bd:=aH o f
 have U:=us j bd
 have be:=ut a6 U (ac (ni i.size a) (ac (ni (le i.size q.size) s) aq))
 refine L0<|Oc<|m2 (aV ((dZ ((ah.mk b false 0).wordV))) 8 (RC.upd cd bd (aa t ay) be)) fun d4 cj d=>?_
 refine fj cj fun x70 a7 V=>?_
 refine nt<|sq<|sg<|Pl 1<|?_
 have aw:=aU (uz f d) (Ne.symm t) ao
 refine L0<|aR aw 8<|Pl 1<|nt<|?_
 have bf:=ud be d (le i.size a)
 refine cb ((((ah.mk b false 0).wordV)==0)) (fun L=>?_) (fun L=>?_)
 have ck:=al L
 refine sg<|Pl 1<|L0<|Oc<|m1 (gO V) fun d5 B=>?_
 have d6:=RC.clen V
 refine Pl 1<|ng<|Pl 2<|L0<|Oe (.int .i64 (Int.tmod ((x70.l.length:Nat) : Int) 2)) (.int .i64 (((x70.l.length:Nat) : Int)%2)) (congrArg (Value.int .i64) (Int.tmod_eq_emod_of_nonneg (by omega)))<|Pl 2<|cu 3 [91] 94 ((((((x70.l.length:Nat) : Int)%2)==0)&&(decide (2≤((x70.l.length:Nat) : Int))))) (fun K bi=>?_) ?_
 refine bl 91 (((((x70.l.length:Nat) : Int)%2)==0)) (fun W=>?_) (fun W=>?_)
 have cm:=al W
 exact Pl 3<|ce bi (decide (2≤((x70.l.length:Nat) : Int))) (by rw[W];rfl)
 have cm:=ap W
 exact Pl 3<|ce bi false (by rw[W];rfl)
 refine Pl 1<|cu 3 [95] 98 (((((((x70.l.length:Nat) : Int)%2)==0)&&(decide (2≤((x70.l.length:Nat) : Int))))&&(decide (((x70.l.length:Nat) : Int)≤250)))) (fun K bm=>?_) ?_
 refine bl 95 ((((((x70.l.length:Nat) : Int)%2)==0)&&(decide (2≤((x70.l.length:Nat) : Int))))) (fun X=>?_) (fun X=>?_)
 have cn:=(aS X).1
 have cq:=(aS X).2
 have d7:=al cn
 have d8:=of_decide_eq_true cq
 exact Pl 3<|ce bm (decide (((x70.l.length:Nat) : Int)≤250)) (by rw[X];rfl)
 exact Pl 3<|ce bm false (by rw[X];rfl)
 refine L0<|Oc<|m2 (aV (((((((x70.l.length:Nat) : Int)%2)==0)&&(decide (2≤((x70.l.length:Nat) : Int))))&&(decide (((x70.l.length:Nat) : Int)≤250)))) 5 (RC.upd V B ay (aD.step (RC.u V) B))) fun da cr M=>?_
 refine fj cr fun x88 bp cs=>?_
 refine ng<|Pl 2<|L0<|Oe (.int .i64 (IntKind.i64.wrap (Int.tdiv ((x70.l.length:Nat) : Int) 2))) (.int .i64 (((x70.l.length:Nat) : Int)/2)) (congrArg (Value.int .i64) (fp (by omega) (by omega)))<|L0<|Oc<|lS (fw (n:=(((x70.l.length:Nat) : Int)/2)) (by omega) cs) fun bq br db F dc dd ct cv=>Pl 1<|?_
 have bt:=uz B (u1 M cv im)
 refine L0<|bT (aU bt (Ne.symm t) aw) 12 (mG c 0 0 0 0 0 0 0 ((ah.mk b false 0).wordV) 0 0 0 (.slice bq ((x88.wordsR (((x70.l.length:Nat) : Int)/2)).length) br) nS nS nS 0 0 0 0 0 nS) fun de cw a8=>nt<|xt<|tx<|bx<|tn<|sg<|Pl 1<|?_
 have aB:=us bt a8
 have bu:=ut bf aB (ac (ni i.size a) (ac (ni (le i.size q.size) s) aq))
 refine L0<|Oc<|m2 (dX (RC.upd ct a8 (aa t ay) bu)) fun df aE Y=>nt<|sq<|sg<|Pl 3<|L0<|dU (p:=⟨D,3,none⟩) (v:=.int .i64 (((x88.wordsC (((x70.l.length:Nat) : Int)/2)).endC).e)) (RC.fld aE)<|Pl 1<|nt<|?_
 have bw:=ud bu Y (le i.size a)
 refine cb (((((x88.wordsC (((x70.l.length:Nat) : Int)/2)).endC).e)!=0)) (fun Z=>?_) (fun Z=>?_)
 have aG:=au Z
 refine sq<|Rg 7 (fun w'=>w'.cell? ⟨D,3,none⟩=some (.int .i64 (((x88.wordsC (((x70.l.length:Nat) : Int)/2)).endC).e))) fun dg a9=>?_
 have bz:=RC.upd aE a9 ay (aD.step (RC.u aE) a9)
 refine bh (RC.fld bz) fun a0=>Rt 0 a0<|Rt 1 a0<|Rt 2 a0<|Rt 3 a0<|Rl 4 a0 (fun _ hs=>hs)<|?_
 have bA:=aH Y a9
 refine R0 5 rfl<|b6 (ub (ut J (ut U (ui d (u1 aB bA im)) (ac im (ac im aq))) (ac (nr a) (ac (ni q.size s) aq))) g) mZ fun dh cx aI=>?_
 have bB:=ud bw (uz a9 aI) I
 refine bh (RC.fld (RC.upd bz aI (aa (Ne.symm (nb (ak g) lr a)) ay) bB)) fun cy=>Rt 6 cy<|re<|tn<|rt<|tr<|bF cx (.int .i64 (((x88.wordsC (((x70.l.length:Nat) : Int)/2)).endC).e))<|?_
 have di:=ax F (us a8 (us bA aI)) (fun x hx=>(aa (fun e=>(aA (ak T) (le (le (le (le (le (le k.size j.size) o.size) f.size) d.size) B.size) M.size) F) (e▸hx)) (aa (fun e=>(aA (ak E) (le (le (le (le (le (le (le y.size k.size) j.size) o.size) f.size) d.size) B.size) M.size) F) (e▸hx)) (aa (fun e=>(aA (ak g) (le (le (le (le (le (le (le (le q.size y.size) k.size) j.size) o.size) f.size) d.size) B.size) M.size) F) (e▸hx)) ay)))) (fun _ _ h=>h)
 have hs:ae aY 0 c b=aF (aP.mk c 0 0 0 0 0 0 0 ((ah.mk b false 0).wordV) 0 0 0 (x88.wordsR (((x70.l.length:Nat) : Int)/2)) [] [] [] 0 0 0 0 0 []) (x88.wordsC (((x70.l.length:Nat) : Int)/2)):=by
   subst bp a7
   unfold ae aY cV co
   (try simp only[r,z,L,Z,bs,if_true,if_false,decide_true,decide_false,eq_self,true_or,or_true,or_false,false_or,if_true,if_false,ch,cg,cc,bZ,reduceIte,fA,fx])
   all_goals rfl
 rw[hs]
 exact bg aG bB
 have aG:=ai Z
 refine bo<|sg<|?_
 refine L0<|cl (aU Y (Ne.symm t) cw)<|?_
 refine L0<|b6 (ub (ut J (ut U (ui d (u1 aB Y im)) (ac im (ac im aq))) (ac (nr a) (ac (ni q.size s) aq))) g) (mG c 0 0 0 0 0 0 0 ((ah.mk b false 0).wordV) 0 0 0 (.slice bq ((x88.wordsR (((x70.l.length:Nat) : Int)/2)).length) br) nS nS nS 0 0 0 0 0 nS) fun dj cz bC=>Pl 1<|nt<|rt<|bF cz (.int .i64 0)<|?_
 have hs:ae aY 0 c b=aF (aP.mk c 0 0 0 0 0 0 0 ((ah.mk b false 0).wordV) 0 0 0 (x88.wordsR (((x70.l.length:Nat) : Int)/2)) [] [] [] 0 0 0 0 0 []) (x88.wordsC (((x70.l.length:Nat) : Int)/2)):=by
   subst bp a7
   unfold ae aY cV co
   (try simp only[r,z,L,Z,bs,if_true,if_false,decide_true,decide_false,eq_self,true_or,or_true,or_false,false_or,if_true,if_false,ch,cg,cc,bZ,reduceIte,fA,fx])
   all_goals rfl
 rw[hs]
 exact bj aG ⟨_,_,_,_,_,rfl,((ax F (us a8 (us Y bC)) (fun x hx=>(aa (fun e=>(aA (ak T) (le (le (le (le (le (le k.size j.size) o.size) f.size) d.size) B.size) M.size) F) (e▸hx)) (aa (fun e=>(aA (ak E) (le (le (le (le (le (le (le y.size k.size) j.size) o.size) f.size) d.size) B.size) M.size) F) (e▸hx)) (aa (fun e=>(aA (ak g) (le (le (le (le (le (le (le (le q.size y.size) k.size) j.size) o.size) f.size) d.size) B.size) M.size) F) (e▸hx)) ay)))) (fun _ _ h=>h))).rd,aK.nil ..,(fun _ _ _=>aK.nil ..),aK.nil ..,aK.nil ..,⟨(b8 (x:=c) (by omega)),(b8 (x:=0) (by omega)),(aC (x:=0) (by omega)),(aC (x:=0) (by omega)),(aC (x:=0) (by omega)),(aC (x:=0) (by omega)),(aC (x:=0) (by omega)),(aC (x:=0) (by omega)),(aC (x:=(ah.mk b false 0).wordV) (by omega)),(aC (x:=0) (by omega)),(aC (x:=0) (by omega)),(aC (x:=0) (by omega)),(b8 (x:=0) (by omega)),(b8 (x:=0) (by omega)),(b8 (x:=0) (by omega)),(b8 (x:=0) (by omega)),(b8 (x:=0) (by omega))⟩⟩ (ud bw bC I)
 have ck:=ap L
 refine bo<|sg<|Pl 1<|L0<|Oc<|m3 (cO V) fun cA bD G dk=>Pl 1<|ng<|Pl 3<|?_
 have bE:=aU G (Ne.symm t) aw
 refine L0<|aR bE 8<|Pl 1<|L0<|Oc<|m1 (wb (dir:=0) (sub:=(ah.mk b false 0).wordV) (v:=x70.wordV) (w:=cA) (by omega)) fun dl C=>?_
 refine L0<|Oc<|m2 (aV ((eQ 0 ((ah.mk b false 0).wordV) x70.wordV)) 6 (RC.upd bD C ay (aD.step (RC.u bD) C))) fun dm cB N=>?_
 refine fj cB fun O bG cC=>?_
 refine nt<|go<|Pl 1<|L0<|dx (m:=1) (e:=24) #[.int .u16 x70.wordV] fun bH dn cD cE bJ=>?_
 have H:=ee cD (xs:=[x70.wordV]) (by as_aux_lemma=>kernel_rfl) (az (by omega) aX) (by(try simp only[List.length_cons,List.length_nil]);omega) cE
 refine Pl 1<|?_
 have bK:=uz C (aH N bJ)
 refine L0<|bT (aU bK (Ne.symm t) bE) 12 (mG c 0 0 0 0 0 0 0 ((ah.mk b false 0).wordV) 0 0 0 (.slice (some ⟨bH,0,none⟩) 1 1) nS nS nS 0 0 0 0 0 nS) fun dp cF ab=>nl<|bn<|tn<|sg<|Pl 1<|?_
 have aJ:=ui G (us bK ab)
 have bL:=ut bf aJ (ac (ni i.size a) (ac (ni (le i.size q.size) s) aq))
 refine L0<|Oc<|m2 (dX (RC.upd cC (uz bJ ab) (aa t ay) bL)) fun dq aL a1=>nt<|sq<|sg<|Pl 3<|L0<|dU (p:=⟨D,3,none⟩) (v:=.int .i64 O.endC.e) (RC.fld aL)<|Pl 1<|nt<|?_
 have bM:=ud bL a1 (le i.size a)
 refine cb ((O.endC.e != 0)) (fun a2=>?_) (fun a2=>?_)
 have aM:=au a2
 refine sq<|Rg 7 (fun w'=>w'.cell? ⟨D,3,none⟩=some (.int .i64 O.endC.e)) fun dr ad=>?_
 have bN:=RC.upd aL ad ay (aD.step (RC.u aL) ad)
 refine bh (RC.fld bN) fun a3=>Rt 0 a3<|Rt 1 a3<|Rt 2 a3<|Rt 3 a3<|Rl 4 a3 (fun _ hs=>hs)<|?_
 have bO:=aH a1 ad
 refine R0 5 rfl<|b6 (ub (ut J (ut U (ui d (u1 aJ bO im)) (ac im (ac im aq))) (ac (nr a) (ac (ni q.size s) aq))) g) mZ fun ds cG aN=>?_
 have bP:=ud bM (uz ad aN) I
 refine bh (RC.fld (RC.upd bN aN (aa (Ne.symm (nb (ak g) lr a)) ay) bP)) fun cH=>Rt 6 cH<|re<|tn<|rt<|tr<|bF cG (.int .i64 O.endC.e)<|?_
 have dt:=ax H (us ab (us bO aN)) (fun x hx=>(aa (fun e=>(aA (ak T) (le (le (le (le (le (le (le k.size j.size) o.size) f.size) d.size) G.size) C.size) N.size) H) (e▸hx)) (aa (fun e=>(aA (ak E) (le (le (le (le (le (le (le (le y.size k.size) j.size) o.size) f.size) d.size) G.size) C.size) N.size) H) (e▸hx)) (aa (fun e=>(aA (ak g) (le (le (le (le (le (le (le (le (le q.size y.size) k.size) j.size) o.size) f.size) d.size) G.size) C.size) N.size) H) (e▸hx)) ay)))) (fun _ _ h=>h)
 have hs:ae aY 0 c b=aF (aP.mk c 0 0 0 0 0 0 0 ((ah.mk b false 0).wordV) 0 0 0 [x70.wordV] [] [] [] 0 0 0 0 0 []) O:=by
   subst bG a7
   unfold ae aY cV co
   (try simp only[r,z,L,a2,bs,if_true,if_false,decide_true,decide_false,eq_self,true_or,or_true,or_false,false_or,if_true,if_false,ch,cg,cc,bZ,reduceIte,fA,fx])
   all_goals rfl
 rw[hs]
 exact bg aM bP
 have aM:=ai a2
 refine bo<|sg<|?_
 refine L0<|cl (aU a1 (Ne.symm t) cF)<|?_
 refine L0<|b6 (ub (ut J (ut U (ui d (u1 aJ a1 im)) (ac im (ac im aq))) (ac (nr a) (ac (ni q.size s) aq))) g) (mG c 0 0 0 0 0 0 0 ((ah.mk b false 0).wordV) 0 0 0 (.slice (some ⟨bH,0,none⟩) 1 1) nS nS nS 0 0 0 0 0 nS) fun du cI bQ=>Pl 1<|nt<|rt<|bF cI (.int .i64 0)<|?_
 have hs:ae aY 0 c b=aF (aP.mk c 0 0 0 0 0 0 0 ((ah.mk b false 0).wordV) 0 0 0 [x70.wordV] [] [] [] 0 0 0 0 0 []) O:=by
   subst bG a7
   unfold ae aY cV co
   (try simp only[r,z,L,a2,bs,if_true,if_false,decide_true,decide_false,eq_self,true_or,or_true,or_false,false_or,if_true,if_false,ch,cg,cc,bZ,reduceIte,fA,fx])
   all_goals rfl
 rw[hs]
 exact bj aM ⟨_,_,_,_,_,rfl,((ax H (us ab (us a1 bQ)) (fun x hx=>(aa (fun e=>(aA (ak T) (le (le (le (le (le (le (le k.size j.size) o.size) f.size) d.size) G.size) C.size) N.size) H) (e▸hx)) (aa (fun e=>(aA (ak E) (le (le (le (le (le (le (le (le y.size k.size) j.size) o.size) f.size) d.size) G.size) C.size) N.size) H) (e▸hx)) (aa (fun e=>(aA (ak g) (le (le (le (le (le (le (le (le (le q.size y.size) k.size) j.size) o.size) f.size) d.size) G.size) C.size) N.size) H) (e▸hx)) ay)))) (fun _ _ h=>h))).rd,aK.nil ..,(fun _ _ _=>aK.nil ..),aK.nil ..,aK.nil ..,⟨(b8 (x:=c) (by omega)),(b8 (x:=0) (by omega)),(aC (x:=0) (by omega)),(aC (x:=0) (by omega)),(aC (x:=0) (by omega)),(aC (x:=0) (by omega)),(aC (x:=0) (by omega)),(aC (x:=0) (by omega)),(aC (x:=(ah.mk b false 0).wordV) (by omega)),(aC (x:=0) (by omega)),(aC (x:=0) (by omega)),(aC (x:=0) (by omega)),(b8 (x:=0) (by omega)),(b8 (x:=0) (by omega)),(b8 (x:=0) (by omega)),(b8 (x:=0) (by omega)),(b8 (x:=0) (by omega))⟩⟩ (ud bM bQ I)
 have c9:=ap z
 refine sg<|Pl 3<|nt<|c1<|sk<|bn<|tn<|sg<|Pl 1<|?_
 have cJ:RC w _ A cp b b7 D (ah.mk b false 0):=⟨hsl,a6,(Nat.le_trans i.size a),⟨0,(ub an E),Nat.zero_le _,rfl⟩,by omega⟩
 refine L0<|Oc<|m2 (dX cJ) fun dv aO af=>nt<|sq<|sg<|Pl 3<|L0<|dU (p:=⟨D,3,none⟩) (v:=.int .i64 (((ah.mk b false 0).endC).e)) (RC.fld aO)<|Pl 1<|nt<|?_
 have bR:=ud a6 af (le i.size a)
 refine cb (((((ah.mk b false 0).endC).e)!=0)) (fun a4=>?_) (fun a4=>?_)
 have aQ:=au a4
 refine sq<|Rg 7 (fun w'=>w'.cell? ⟨D,3,none⟩=some (.int .i64 (((ah.mk b false 0).endC).e))) fun dw ag=>?_
 have bS:=RC.upd aO ag ay (aD.step (RC.u aO) ag)
 refine bh (RC.fld bS) fun a5=>Rt 0 a5<|Rt 1 a5<|Rt 2 a5<|Rt 3 a5<|Rl 4 a5 (fun _ hs=>hs)<|?_
 refine R0 5 rfl<|b6 (ub (ud J (aH af ag) a) g) mZ fun dy cK bU=>?_
 have bV:=ud bR (uz ag bU) I
 refine bh (RC.fld (RC.upd bS bU (aa (Ne.symm (nb (ak g) lr a)) ay) bV)) fun cL=>Rt 6 cL<|re<|tn<|rt<|tr<|bF cK (.int .i64 (((ah.mk b false 0).endC).e))<|?_
 have hs:ae aY 0 c b=aF (aP.mk c 0 0 0 0 0 0 0 0 0 0 0 [] [] [] [] 0 0 0 0 0 []) (ah.mk b false 0):=by
   unfold ae aY cV co
   (try simp only[r,z,a4,bs,if_true,if_false,decide_true,decide_false,eq_self,true_or,or_true,or_false,false_or,if_true,if_false,ch,cg,cc,bZ,reduceIte,fA,fx])
   all_goals rfl
 rw[hs]
 exact bg aQ bV
 have aQ:=ai a4
 refine bo<|sg<|?_
 refine L0<|cl (aU af (Ne.symm (nb (ak E) lr s)) ba)<|?_
 refine L0<|b6 (ub (ud J af a) g) (mC c) fun dA cM cN=>Pl 1<|nt<|rt<|bF cM (.int .i64 0)<|?_
 have hs:ae aY 0 c b=aF (aP.mk c 0 0 0 0 0 0 0 0 0 0 0 [] [] [] [] 0 0 0 0 0 []) (ah.mk b false 0):=by
   unfold ae aY cV co
   (try simp only[r,z,a4,bs,if_true,if_false,decide_true,decide_false,eq_self,true_or,or_true,or_false,false_or,if_true,if_false,ch,cg,cc,bZ,reduceIte,fA,fx])
   all_goals rfl
 rw[hs]
 exact bj aQ ⟨_,_,_,_,_,rfl,aK.nil ..,aK.nil ..,(fun _ _ _=>aK.nil ..),aK.nil ..,aK.nil ..,⟨(b8 (x:=c) (by omega)),(b8 (x:=0) (by omega)),(aC (x:=0) (by omega)),(aC (x:=0) (by omega)),(aC (x:=0) (by omega)),(aC (x:=0) (by omega)),(aC (x:=0) (by omega)),(aC (x:=0) (by omega)),(aC (x:=0) (by omega)),(aC (x:=0) (by omega)),(aC (x:=0) (by omega)),(aC (x:=0) (by omega)),(b8 (x:=0) (by omega)),(b8 (x:=0) (by omega)),(b8 (x:=0) (by omega)),(b8 (x:=0) (by omega)),(b8 (x:=0) (by omega))⟩⟩ (ud bR cN I)
theorem kq{m:Md}{A:Option Addr}{cp:Nat}{b:List Int}{w:World}{c:Int}(hcode:B8 c)(hsl:b9 m w (.slice A b.length cp) b)(hb:b.length≤1048576) :
    Calls Tryz.prog 95 #[.int .i64 1,.int .u8 c,.slice A b.length cp] w (d9 (.slice A b.length cp) b (ae aY 1 c b) w):=by
 obtain⟨hcode1,hcode2⟩:=hcode
 have hln:(b.length:Int)≤1048576:=by omega
 refine en 197 Tryz.func95 rfl<|sg<|L0<|bI mZ fun fy fz B i d=>Pl 1<|nt<|sq<|sg<|Pl 6<|nt<|c0<|?_
 refine bo<|sq<|sg<|Pl 3<|cu 3 [24] 27 (((c != 7)&&(c != 8))) (fun K bY=>?_) ?_
 refine bl 24 ((c != 7)) (fun a0=>?_) (fun a0=>?_)
 have dL:=au a0
 exact Pl 3<|ce bY (c != 8) (by rw[a0];rfl)
 have dL:=ai a0
 exact Pl 3<|ce bY false (by rw[a0];rfl)
 refine Pl 1<|cu 3 [28] 31 ((((c != 7)&&(c != 8))&&(c != 11))) (fun K c1=>?_) ?_
 refine bl 28 (((c != 7)&&(c != 8))) (fun a1=>?_) (fun a1=>?_)
 have dM:=(aS a1).1
 have dN:=(aS a1).2
 have fB:=au dM
 have fC:=au dN
 exact Pl 3<|ce c1 (c != 11) (by rw[a1];rfl)
 exact Pl 3<|ce c1 false (by rw[a1];rfl)
 refine Pl 1<|cu 3 [32] 35 (((((c != 7)&&(c != 8))&&(c != 11))&&(c != 12))) (fun K c2=>?_) ?_
 refine bl 32 ((((c != 7)&&(c != 8))&&(c != 11))) (fun a2=>?_) (fun a2=>?_)
 have c3:=(aS a2).1
 have dO:=(aS a2).2
 have dP:=(aS c3).1
 have dQ:=(aS c3).2
 have q19aap:=au dP
 have q19abp:=au dQ
 have fD:=au dO
 exact Pl 3<|ce c2 (c != 12) (by rw[a2];rfl)
 exact Pl 3<|ce c2 false (by rw[a2];rfl)
 refine Pl 1<|cu 3 [36] 39 ((((((c != 7)&&(c != 8))&&(c != 11))&&(c != 12))&&(c != 17))) (fun K c4=>?_) ?_
 refine bl 36 (((((c != 7)&&(c != 8))&&(c != 11))&&(c != 12))) (fun a3=>?_) (fun a3=>?_)
 have c5:=(aS a3).1
 have dR:=(aS a3).2
 have c6:=(aS c5).1
 have dS:=(aS c5).2
 have q21aaa:=(aS c6).1
 have q21aab:=(aS c6).2
 have q21aaap:=au q21aaa
 have q21aabp:=au q21aab
 have q21abp:=au dS
 have fE:=au dR
 exact Pl 3<|ce c4 (c != 17) (by rw[a3];rfl)
 exact Pl 3<|ce c4 false (by rw[a3];rfl)
 refine nt<|cb ((((((c != 7)&&(c != 8))&&(c != 11))&&(c != 12))&&(c != 17))) (fun q=>?_) (fun q=>?_)
 have bd:=(aS q).1
 have c7:=(aS q).2
 have be:=(aS bd).1
 have c8:=(aS bd).2
 have q23aaa:=(aS be).1
 have q23aab:=(aS be).2
 have q23aaaa:=(aS q23aaa).1
 have q23aaab:=(aS q23aaa).2
 have q23aaaap:=au q23aaaa
 have q23aaabp:=au q23aaab
 have q23aabp:=au q23aab
 have q23abp:=au c8
 have fF:=au c7
 refine sg<|Pl 1<|L0<|b6 i mZ fun fG dT dV=>Pl 1<|nt<|rt<|tr<|bF dT (.int .i64 4)<|?_
 have hs:ae aY 1 c b=(aP.zero,4):=by
   unfold ae aY cV co
   (try simp only[q,bd,be,q23aaa,q23aaaa,q23aaab,q23aab,c8,c7,bs,if_true,if_false,decide_true,decide_false,eq_self,true_or,or_true,or_false,false_or,if_true,if_false,ch,cg,cc,bZ,reduceIte,fA,fx])
   all_goals rfl
 rw[hs]
 exact bv (ud d dV B)
 refine bo<|sg<|Pl 2<|L0<|dz #[.slice A b.length cp,.int .i64 0,.bool false,.int .i64 0] fun o fH a t g=>Pl 1<|ng<|Pl 2<|L0<|bI mZ fun fI fJ f a4 L=>L0<|b6 a4 (mC c) fun a5 a6 C=>?_
 refine nt<|sq<|bk<|sg<|Pl 3<|nt<|?_
 have X:=ud L C f
 have D:=aH g X
 have I:=aH d D
 refine cb ((c==8)) (fun r=>?_) (fun r=>?_)
 have dW:=al r
 refine sg<|Pl 1<|?_
 have dY:RC w _ A cp b a5 o (ah.mk b false 0):=⟨hsl,I,(Nat.le_trans d.size a),⟨0,(ub X t),Nat.zero_le _,rfl⟩,by omega⟩
 refine L0<|Oc<|m3 (cO dY) fun fK e0 y fL=>Pl 1<|?_
 have J:=nb (ak t) lr f
 refine L0<|bT (aU y (Ne.symm J) a6) 8 (mG c 0 0 0 0 0 0 0 ((ah.mk b false 0).wordV) 0 0 0 nS nS nS nS 0 0 0 0 0 nS) fun e1 bf E=>ng<|Pl 1<|L0<|aR bf 8<|L0<|Oc<|m1 (wn (x:=(ah.mk b false 0).wordV) (w:=e1) (by omega)) fun fM s=>Pl 1<|ng<|Pl 3<|cu 8 [72] 80 (((dZ ((ah.mk b false 0).wordV))&&(((ah.mk b false 0).wordV)!=4))) (fun K c9=>?_) ?_
 refine bl 72 ((dZ ((ah.mk b false 0).wordV))) (fun bi=>?_) (fun bi=>?_)
 refine Pl 1<|?_
 refine L1<|aR (ub s bf) 8<|Pl 2<|cu 3 [76] 79 ((((ah.mk b false 0).wordV)!=4)) (fun K ca=>?_) ?_
 refine bl 76 ((((ah.mk b false 0).wordV)!=4)) (fun a7=>?_) (fun a7=>?_)
 have e2:=au a7
 exact Pl 3<|ce ca true a7
 have e2:=ai a7
 exact Pl 3<|ce ca false a7
 exact Pl 1<|ce c9 (((ah.mk b false 0).wordV)!=4) (by rw[bi];rfl)
 exact Pl 8<|ce c9 false (by rw[bi];rfl)
 have cd:=aH E s
 have a8:=us y cd
 have cf:=ut I a8 (ac (ni d.size a) (ac (ni (le d.size g.size) f) aq))
 refine L0<|Oc<|m2 (aV (((dZ ((ah.mk b false 0).wordV))&&(((ah.mk b false 0).wordV)!=4))) 8 (RC.upd e0 cd (aa J ay) cf)) fun fN e3 j=>?_
 refine fj e3 fun x70 aT a9=>?_
 refine nt<|sq<|sg<|Pl 1<|?_
 have bm:=aU (uz s j) (Ne.symm J) bf
 refine L0<|aR bm 8<|Pl 1<|nt<|?_
 have ci:=ud cf j (le d.size a)
 refine cb ((((ah.mk b false 0).wordV)==0)) (fun T=>?_) (fun T=>?_)
 have e4:=al T
 refine sg<|Pl 1<|L0<|Oc<|m1 (gO a9) fun fO M=>?_
 have fP:=RC.clen a9
 refine Pl 1<|ng<|Pl 2<|L0<|Oe (.int .i64 (Int.tmod ((x70.l.length:Nat) : Int) 2)) (.int .i64 (((x70.l.length:Nat) : Int)%2)) (congrArg (Value.int .i64) (Int.tmod_eq_emod_of_nonneg (by omega)))<|Pl 2<|cu 3 [91] 94 ((((((x70.l.length:Nat) : Int)%2)==0)&&(decide (2≤((x70.l.length:Nat) : Int))))) (fun K cj=>?_) ?_
 refine bl 91 (((((x70.l.length:Nat) : Int)%2)==0)) (fun ab=>?_) (fun ab=>?_)
 have e5:=al ab
 exact Pl 3<|ce cj (decide (2≤((x70.l.length:Nat) : Int))) (by rw[ab];rfl)
 have e5:=ap ab
 exact Pl 3<|ce cj false (by rw[ab];rfl)
 refine Pl 1<|cu 3 [95] 98 (((((((x70.l.length:Nat) : Int)%2)==0)&&(decide (2≤((x70.l.length:Nat) : Int))))&&(decide (((x70.l.length:Nat) : Int)≤250)))) (fun K ck=>?_) ?_
 refine bl 95 ((((((x70.l.length:Nat) : Int)%2)==0)&&(decide (2≤((x70.l.length:Nat) : Int))))) (fun ad=>?_) (fun ad=>?_)
 have e6:=(aS ad).1
 have e7:=(aS ad).2
 have fQ:=al e6
 have fR:=of_decide_eq_true e7
 exact Pl 3<|ce ck (decide (((x70.l.length:Nat) : Int)≤250)) (by rw[ad];rfl)
 exact Pl 3<|ce ck false (by rw[ad];rfl)
 refine L0<|Oc<|m2 (aV (((((((x70.l.length:Nat) : Int)%2)==0)&&(decide (2≤((x70.l.length:Nat) : Int))))&&(decide (((x70.l.length:Nat) : Int)≤250)))) 5 (RC.upd a9 M ay (aD.step (RC.u a9) M))) fun fS e8 U=>?_
 refine fj e8 fun x88 cm e9=>?_
 refine ng<|Pl 2<|L0<|Oe (.int .i64 (IntKind.i64.wrap (Int.tdiv ((x70.l.length:Nat) : Int) 2))) (.int .i64 (((x70.l.length:Nat) : Int)/2)) (congrArg (Value.int .i64) (fp (by omega) (by omega)))<|L0<|Oc<|lS (fw (n:=(((x70.l.length:Nat) : Int)/2)) (by omega) e9) fun cn cq fT Q fU fV ea eb=>Pl 1<|?_
 have cr:=uz M (u1 U eb im)
 refine L0<|bT (aU cr (Ne.symm J) bm) 12 (mG c 0 0 0 0 0 0 0 ((ah.mk b false 0).wordV) 0 0 0 (.slice cn ((x88.wordsR (((x70.l.length:Nat) : Int)/2)).length) cq) nS nS nS 0 0 0 0 0 nS) fun fW ec aW=>nt<|xt<|tx<|bx<|tn<|sg<|Pl 1<|?_
 have bp:=us cr aW
 have cs:=ut ci bp (ac (ni d.size a) (ac (ni (le d.size g.size) f) aq))
 refine L0<|Oc<|m2 (dX (RC.upd ea aW (aa J ay) cs)) fun fX bq af=>nt<|sq<|sg<|Pl 3<|L0<|dU (p:=⟨o,3,none⟩) (v:=.int .i64 (((x88.wordsC (((x70.l.length:Nat) : Int)/2)).endC).e)) (RC.fld bq)<|Pl 1<|nt<|?_
 have ct:=ud cs af (le d.size a)
 refine cb (((((x88.wordsC (((x70.l.length:Nat) : Int)/2)).endC).e)!=0)) (fun ag=>?_) (fun ag=>?_)
 have br:=au ag
 refine sq<|Rg 7 (fun w'=>w'.cell? ⟨o,3,none⟩=some (.int .i64 (((x88.wordsC (((x70.l.length:Nat) : Int)/2)).endC).e))) fun fY aZ=>?_
 have cv:=RC.upd bq aZ ay (aD.step (RC.u bq) aZ)
 refine bh (RC.fld cv) fun aj=>Rt 0 aj<|Rt 1 aj<|Rt 2 aj<|Rt 3 aj<|Rl 4 aj (fun _ hs=>hs)<|?_
 have cw:=aH af aZ
 refine R0 5 rfl<|b6 (ub (ut D (ut a8 (ui j (u1 bp cw im)) (ac im (ac im aq))) (ac (nr a) (ac (ni g.size f) aq))) i) mZ fun fZ ed bt=>?_
 have cx:=ud ct (uz aZ bt) B
 refine bh (RC.fld (RC.upd cv bt (aa (Ne.symm (nb (ak i) lr a)) ay) cx)) fun ef=>Rt 6 ef<|re<|tn<|rt<|tr<|bF ed (.int .i64 (((x88.wordsC (((x70.l.length:Nat) : Int)/2)).endC).e))<|?_
 have g0:=ax Q (us aW (us cw bt)) (fun x hx=>(aa (fun e=>(aA (ak a4) (le (le (le (le (le (le C.size y.size) E.size) s.size) j.size) M.size) U.size) Q) (e▸hx)) (aa (fun e=>(aA (ak t) (le (le (le (le (le (le (le L.size C.size) y.size) E.size) s.size) j.size) M.size) U.size) Q) (e▸hx)) (aa (fun e=>(aA (ak i) (le (le (le (le (le (le (le (le g.size L.size) C.size) y.size) E.size) s.size) j.size) M.size) U.size) Q) (e▸hx)) ay)))) (fun _ _ h=>h)
 have hs:ae aY 1 c b=aF (aP.mk c 0 0 0 0 0 0 0 ((ah.mk b false 0).wordV) 0 0 0 (x88.wordsR (((x70.l.length:Nat) : Int)/2)) [] [] [] 0 0 0 0 0 []) (x88.wordsC (((x70.l.length:Nat) : Int)/2)):=by
   subst cm aT
   unfold ae aY cV co
   (try simp only[q,r,T,ag,bs,if_true,if_false,decide_true,decide_false,eq_self,true_or,or_true,or_false,false_or,if_true,if_false,ch,cg,cc,bZ,reduceIte,fA,fx])
   all_goals rfl
 rw[hs]
 exact bg br cx
 have br:=ai ag
 refine bo<|sg<|?_
 refine L0<|cl (aU af (Ne.symm J) ec)<|?_
 refine L0<|b6 (ub (ut D (ut a8 (ui j (u1 bp af im)) (ac im (ac im aq))) (ac (nr a) (ac (ni g.size f) aq))) i) (mG c 0 0 0 0 0 0 0 ((ah.mk b false 0).wordV) 0 0 0 (.slice cn ((x88.wordsR (((x70.l.length:Nat) : Int)/2)).length) cq) nS nS nS 0 0 0 0 0 nS) fun g1 eg cy=>Pl 1<|nt<|rt<|bF eg (.int .i64 0)<|?_
 have hs:ae aY 1 c b=aF (aP.mk c 0 0 0 0 0 0 0 ((ah.mk b false 0).wordV) 0 0 0 (x88.wordsR (((x70.l.length:Nat) : Int)/2)) [] [] [] 0 0 0 0 0 []) (x88.wordsC (((x70.l.length:Nat) : Int)/2)):=by
   subst cm aT
   unfold ae aY cV co
   (try simp only[q,r,T,ag,bs,if_true,if_false,decide_true,decide_false,eq_self,true_or,or_true,or_false,false_or,if_true,if_false,ch,cg,cc,bZ,reduceIte,fA,fx])
   all_goals rfl
 rw[hs]
 exact bj br ⟨_,_,_,_,_,rfl,((ax Q (us aW (us af cy)) (fun x hx=>(aa (fun e=>(aA (ak a4) (le (le (le (le (le (le C.size y.size) E.size) s.size) j.size) M.size) U.size) Q) (e▸hx)) (aa (fun e=>(aA (ak t) (le (le (le (le (le (le (le L.size C.size) y.size) E.size) s.size) j.size) M.size) U.size) Q) (e▸hx)) (aa (fun e=>(aA (ak i) (le (le (le (le (le (le (le (le g.size L.size) C.size) y.size) E.size) s.size) j.size) M.size) U.size) Q) (e▸hx)) ay)))) (fun _ _ h=>h))).rd,aK.nil ..,(fun _ _ _=>aK.nil ..),aK.nil ..,aK.nil ..,⟨(b8 (x:=c) (by omega)),(b8 (x:=0) (by omega)),(aC (x:=0) (by omega)),(aC (x:=0) (by omega)),(aC (x:=0) (by omega)),(aC (x:=0) (by omega)),(aC (x:=0) (by omega)),(aC (x:=0) (by omega)),(aC (x:=(ah.mk b false 0).wordV) (by omega)),(aC (x:=0) (by omega)),(aC (x:=0) (by omega)),(aC (x:=0) (by omega)),(b8 (x:=0) (by omega)),(b8 (x:=0) (by omega)),(b8 (x:=0) (by omega)),(b8 (x:=0) (by omega)),(b8 (x:=0) (by omega))⟩⟩ (ud ct cy B)
 have e4:=ap T
 refine bo<|sg<|Pl 1<|L0<|Oc<|m3 (cO a9) fun eh cz R g2=>Pl 1<|ng<|Pl 3<|?_
 have cA:=aU R (Ne.symm J) bm
 refine L0<|aR cA 8<|Pl 1<|L0<|Oc<|m1 (wb (dir:=1) (sub:=(ah.mk b false 0).wordV) (v:=x70.wordV) (w:=eh) (by omega)) fun g3 N=>?_
 refine L0<|Oc<|m2 (aV ((eQ 1 ((ah.mk b false 0).wordV) x70.wordV)) 6 (RC.upd cz N ay (aD.step (RC.u cz) N))) fun g4 ei V=>?_
 refine fj ei fun Y cB ej=>?_
 refine nt<|go<|Pl 1<|L0<|dx (m:=1) (e:=24) #[.int .u16 x70.wordV] fun cC g5 ek el cD=>?_
 have S:=ee ek (xs:=[x70.wordV]) (by as_aux_lemma=>kernel_rfl) (az (by omega) aX) (by(try simp only[List.length_cons,List.length_nil]);omega) el
 refine Pl 1<|?_
 have cE:=uz N (aH V cD)
 refine L0<|bT (aU cE (Ne.symm J) cA) 12 (mG c 0 0 0 0 0 0 0 ((ah.mk b false 0).wordV) 0 0 0 (.slice (some ⟨cC,0,none⟩) 1 1) nS nS nS 0 0 0 0 0 nS) fun g6 em b0=>nl<|bn<|tn<|sg<|Pl 1<|?_
 have bu:=ui R (us cE b0)
 have cF:=ut ci bu (ac (ni d.size a) (ac (ni (le d.size g.size) f) aq))
 refine L0<|Oc<|m2 (dX (RC.upd ej (uz cD b0) (aa J ay) cF)) fun g7 bw am=>nt<|sq<|sg<|Pl 3<|L0<|dU (p:=⟨o,3,none⟩) (v:=.int .i64 Y.endC.e) (RC.fld bw)<|Pl 1<|nt<|?_
 have cG:=ud cF am (le d.size a)
 refine cb ((Y.endC.e != 0)) (fun an=>?_) (fun an=>?_)
 have bz:=au an
 refine sq<|Rg 7 (fun w'=>w'.cell? ⟨o,3,none⟩=some (.int .i64 Y.endC.e)) fun g8 b1=>?_
 have cH:=RC.upd bw b1 ay (aD.step (RC.u bw) b1)
 refine bh (RC.fld cH) fun ao=>Rt 0 ao<|Rt 1 ao<|Rt 2 ao<|Rt 3 ao<|Rl 4 ao (fun _ hs=>hs)<|?_
 have cI:=aH am b1
 refine R0 5 rfl<|b6 (ub (ut D (ut a8 (ui j (u1 bu cI im)) (ac im (ac im aq))) (ac (nr a) (ac (ni g.size f) aq))) i) mZ fun g9 eo bA=>?_
 have cJ:=ud cG (uz b1 bA) B
 refine bh (RC.fld (RC.upd cH bA (aa (Ne.symm (nb (ak i) lr a)) ay) cJ)) fun ep=>Rt 6 ep<|re<|tn<|rt<|tr<|bF eo (.int .i64 Y.endC.e)<|?_
 have ga:=ax S (us b0 (us cI bA)) (fun x hx=>(aa (fun e=>(aA (ak a4) (le (le (le (le (le (le (le C.size y.size) E.size) s.size) j.size) R.size) N.size) V.size) S) (e▸hx)) (aa (fun e=>(aA (ak t) (le (le (le (le (le (le (le (le L.size C.size) y.size) E.size) s.size) j.size) R.size) N.size) V.size) S) (e▸hx)) (aa (fun e=>(aA (ak i) (le (le (le (le (le (le (le (le (le g.size L.size) C.size) y.size) E.size) s.size) j.size) R.size) N.size) V.size) S) (e▸hx)) ay)))) (fun _ _ h=>h)
 have hs:ae aY 1 c b=aF (aP.mk c 0 0 0 0 0 0 0 ((ah.mk b false 0).wordV) 0 0 0 [x70.wordV] [] [] [] 0 0 0 0 0 []) Y:=by
   subst cB aT
   unfold ae aY cV co
   (try simp only[q,r,T,an,bs,if_true,if_false,decide_true,decide_false,eq_self,true_or,or_true,or_false,false_or,if_true,if_false,ch,cg,cc,bZ,reduceIte,fA,fx])
   all_goals rfl
 rw[hs]
 exact bg bz cJ
 have bz:=ai an
 refine bo<|sg<|?_
 refine L0<|cl (aU am (Ne.symm J) em)<|?_
 refine L0<|b6 (ub (ut D (ut a8 (ui j (u1 bu am im)) (ac im (ac im aq))) (ac (nr a) (ac (ni g.size f) aq))) i) (mG c 0 0 0 0 0 0 0 ((ah.mk b false 0).wordV) 0 0 0 (.slice (some ⟨cC,0,none⟩) 1 1) nS nS nS 0 0 0 0 0 nS) fun gb eq cK=>Pl 1<|nt<|rt<|bF eq (.int .i64 0)<|?_
 have hs:ae aY 1 c b=aF (aP.mk c 0 0 0 0 0 0 0 ((ah.mk b false 0).wordV) 0 0 0 [x70.wordV] [] [] [] 0 0 0 0 0 []) Y:=by
   subst cB aT
   unfold ae aY cV co
   (try simp only[q,r,T,an,bs,if_true,if_false,decide_true,decide_false,eq_self,true_or,or_true,or_false,false_or,if_true,if_false,ch,cg,cc,bZ,reduceIte,fA,fx])
   all_goals rfl
 rw[hs]
 exact bj bz ⟨_,_,_,_,_,rfl,((ax S (us b0 (us am cK)) (fun x hx=>(aa (fun e=>(aA (ak a4) (le (le (le (le (le (le (le C.size y.size) E.size) s.size) j.size) R.size) N.size) V.size) S) (e▸hx)) (aa (fun e=>(aA (ak t) (le (le (le (le (le (le (le (le L.size C.size) y.size) E.size) s.size) j.size) R.size) N.size) V.size) S) (e▸hx)) (aa (fun e=>(aA (ak i) (le (le (le (le (le (le (le (le (le g.size L.size) C.size) y.size) E.size) s.size) j.size) R.size) N.size) V.size) S) (e▸hx)) ay)))) (fun _ _ h=>h))).rd,aK.nil ..,(fun _ _ _=>aK.nil ..),aK.nil ..,aK.nil ..,⟨(b8 (x:=c) (by omega)),(b8 (x:=0) (by omega)),(aC (x:=0) (by omega)),(aC (x:=0) (by omega)),(aC (x:=0) (by omega)),(aC (x:=0) (by omega)),(aC (x:=0) (by omega)),(aC (x:=0) (by omega)),(aC (x:=(ah.mk b false 0).wordV) (by omega)),(aC (x:=0) (by omega)),(aC (x:=0) (by omega)),(aC (x:=0) (by omega)),(b8 (x:=0) (by omega)),(b8 (x:=0) (by omega)),(b8 (x:=0) (by omega)),(b8 (x:=0) (by omega)),(b8 (x:=0) (by omega))⟩⟩ (ud cG cK B)
 have dW:=ap r
 refine sg<|Pl 3<|nt<|c0<|sg<|Pl 3<|nt<|cb ((c==7)) (fun F=>?_) (fun F=>?_)
 have er:=al F
 refine go<|Pl 1<|?_
 have es:RC w _ A cp b a5 o (ah.mk b false 0):=⟨hsl,I,(Nat.le_trans d.size a),⟨0,(ub X t),Nat.zero_le _,rfl⟩,by omega⟩
 refine L0<|Oc<|m3 (dG es) fun gc et cL gd=>L0<|vF ((ah.mk b false 0).byteV)<|Pl 1<|?_
 have bB:=nb (ak t) lr f
 refine L0<|bT (aU cL (Ne.symm bB) a6) 4 (mG c 0 0 0 ((ah.mk b false 0).byteV) 0 0 0 0 0 0 0 nS nS nS nS 0 0 0 0 0 nS) fun ge eu cM=>nl<|bn<|tn<|sg<|Pl 1<|?_
 have bC:=us cL cM
 have cN:=ut I bC (ac (ni d.size a) (ac (ni (le d.size g.size) f) aq))
 refine L0<|Oc<|m2 (dX (RC.upd et cM (aa bB ay) cN)) fun gf bD b2=>nt<|sq<|sg<|Pl 3<|L0<|dU (p:=⟨o,3,none⟩) (v:=.int .i64 ((((ah.mk b false 0).bytesC 1).endC).e)) (RC.fld bD)<|Pl 1<|nt<|?_
 have cP:=ud cN b2 (le d.size a)
 refine cb ((((((ah.mk b false 0).bytesC 1).endC).e)!=0)) (fun ar=>?_) (fun ar=>?_)
 have bE:=au ar
 refine sq<|Rg 7 (fun w'=>w'.cell? ⟨o,3,none⟩=some (.int .i64 ((((ah.mk b false 0).bytesC 1).endC).e))) fun gg b3=>?_
 have cQ:=RC.upd bD b3 ay (aD.step (RC.u bD) b3)
 refine bh (RC.fld cQ) fun av=>Rt 0 av<|Rt 1 av<|Rt 2 av<|Rt 3 av<|Rl 4 av (fun _ hs=>hs)<|?_
 refine R0 5 rfl<|b6 (ub (ut D (u1 bC (aH b2 b3) im) (ac (nr a) (ac (ni g.size f) aq))) i) mZ fun gh ev cR=>?_
 have cS:=ud cP (uz b3 cR) B
 refine bh (RC.fld (RC.upd cQ cR (aa (Ne.symm (nb (ak i) lr a)) ay) cS)) fun ew=>Rt 6 ew<|re<|tn<|rt<|tr<|bF ev (.int .i64 ((((ah.mk b false 0).bytesC 1).endC).e))<|?_
 have hs:ae aY 1 c b=aF (aP.mk c 0 0 0 ((ah.mk b false 0).byteV) 0 0 0 0 0 0 0 [] [] [] [] 0 0 0 0 0 []) ((ah.mk b false 0).bytesC 1):=by
   unfold ae aY cV co
   (try simp only[q,r,F,ar,bs,if_true,if_false,decide_true,decide_false,eq_self,true_or,or_true,or_false,false_or,if_true,if_false,ch,cg,cc,bZ,reduceIte,fA,fx])
   all_goals rfl
 rw[hs]
 exact bg bE cS
 have bE:=ai ar
 refine bo<|sg<|?_
 refine L0<|cl (aU b2 (Ne.symm bB) eu)<|?_
 refine L0<|b6 (ub (ut D (u1 bC b2 im) (ac (nr a) (ac (ni g.size f) aq))) i) (mG c 0 0 0 ((ah.mk b false 0).byteV) 0 0 0 0 0 0 0 nS nS nS nS 0 0 0 0 0 nS) fun gi ex ey=>Pl 1<|nt<|rt<|bF ex (.int .i64 0)<|?_
 have hs:ae aY 1 c b=aF (aP.mk c 0 0 0 ((ah.mk b false 0).byteV) 0 0 0 0 0 0 0 [] [] [] [] 0 0 0 0 0 []) ((ah.mk b false 0).bytesC 1):=by
   unfold ae aY cV co
   (try simp only[q,r,F,ar,bs,if_true,if_false,decide_true,decide_false,eq_self,true_or,or_true,or_false,false_or,if_true,if_false,ch,cg,cc,bZ,reduceIte,fA,fx])
   all_goals rfl
 rw[hs]
 exact bj bE ⟨_,_,_,_,_,rfl,aK.nil ..,aK.nil ..,(fun _ _ _=>aK.nil ..),aK.nil ..,aK.nil ..,⟨(b8 (x:=c) (by omega)),(b8 (x:=0) (by omega)),(aC (x:=0) (by omega)),(aC (x:=0) (by omega)),(aC (x:=(ah.mk b false 0).byteV) (by omega)),(aC (x:=0) (by omega)),(aC (x:=0) (by omega)),(aC (x:=0) (by omega)),(aC (x:=0) (by omega)),(aC (x:=0) (by omega)),(aC (x:=0) (by omega)),(aC (x:=0) (by omega)),(b8 (x:=0) (by omega)),(b8 (x:=0) (by omega)),(b8 (x:=0) (by omega)),(b8 (x:=0) (by omega)),(b8 (x:=0) (by omega))⟩⟩ (ud cP ey B)
 have er:=ap F
 refine sg<|Pl 3<|nt<|cb ((c==11)) (fun O=>?_) (fun O=>?_)
 have ez:=al O
 refine sg<|Pl 1<|?_
 have eA:RC w _ A cp b a5 o (ah.mk b false 0):=⟨hsl,I,(Nat.le_trans d.size a),⟨0,(ub X t),Nat.zero_le _,rfl⟩,by omega⟩
 refine L0<|Oc<|m3 (cO eA) fun gj eB cT gk=>Pl 1<|?_
 have aw:=nb (ak t) lr f
 refine L0<|bT (aU cT (Ne.symm aw) a6) 9 (mG c 0 0 0 0 0 0 0 0 ((ah.mk b false 0).wordV) 0 0 nS nS nS nS 0 0 0 0 0 nS) fun gl bG cU=>ng<|Pl 2<|L0<|aR bG 9<|Pl 2<|cu 4 [137] 141 (((((ah.mk b false 0).wordV)==0)||(((ah.mk b false 0).wordV)==65535))) (fun K cW=>?_) ?_
 refine bl 137 ((((ah.mk b false 0).wordV)==0)) (fun aB=>?_) (fun aB=>?_)
 have eC:=al aB
 exact Pl 4<|ce cW true (by rw[aB];rfl)
 have eC:=ap aB
 exact Pl 1<|L1<|aR bG 9<|Pl 2<|ce cW (((ah.mk b false 0).wordV)==65535) (by rw[aB];rfl)
 have bH:=us cT cU
 have cX:=ut I bH (ac (ni d.size a) (ac (ni (le d.size g.size) f) aq))
 refine L0<|Oc<|m2 (aV (((((ah.mk b false 0).wordV)==0)||(((ah.mk b false 0).wordV)==65535))) 6 (RC.upd eB cU (aa aw ay) cX)) fun gm eD eE=>?_
 refine fj eD fun G cY eF=>?_
 refine nt<|go<|Pl 1<|L0<|Oc<|m3 (cO eF) fun gn eG eH gp=>Pl 1<|?_
 have cZ:=u1 eE eH im
 refine L0<|bT (aU cZ (Ne.symm aw) bG) 10 (mG c 0 0 0 0 0 0 0 0 ((ah.mk b false 0).wordV) G.wordV 0 nS nS nS nS 0 0 0 0 0 nS) fun gq eI d0=>nl<|bn<|tn<|sg<|Pl 1<|?_
 have bJ:=us cZ d0
 have d1:=ut cX bJ (ac (ni d.size a) (ac (ni (le d.size g.size) f) aq))
 refine L0<|Oc<|m2 (dX (RC.upd eG d0 (aa aw ay) d1)) fun gr bK b4=>nt<|sq<|sg<|Pl 3<|L0<|dU (p:=⟨o,3,none⟩) (v:=.int .i64 (((G.wordsC 1).endC).e)) (RC.fld bK)<|Pl 1<|nt<|?_
 have d2:=ud d1 b4 (le d.size a)
 refine cb (((((G.wordsC 1).endC).e)!=0)) (fun aE=>?_) (fun aE=>?_)
 have bL:=au aE
 refine sq<|Rg 7 (fun w'=>w'.cell? ⟨o,3,none⟩=some (.int .i64 (((G.wordsC 1).endC).e))) fun gs b5=>?_
 have d3:=RC.upd bK b5 ay (aD.step (RC.u bK) b5)
 refine bh (RC.fld d3) fun aG=>Rt 0 aG<|Rt 1 aG<|Rt 2 aG<|Rt 3 aG<|Rl 4 aG (fun _ hs=>hs)<|?_
 refine R0 5 rfl<|b6 (ub (ut D (ut bH (u1 bJ (aH b4 b5) im) (ac im (ac im aq))) (ac (nr a) (ac (ni g.size f) aq))) i) mZ fun gt eJ d4=>?_
 have d5:=ud d2 (uz b5 d4) B
 refine bh (RC.fld (RC.upd d3 d4 (aa (Ne.symm (nb (ak i) lr a)) ay) d5)) fun eK=>Rt 6 eK<|re<|tn<|rt<|tr<|bF eJ (.int .i64 (((G.wordsC 1).endC).e))<|?_
 have hs:ae aY 1 c b=aF (aP.mk c 0 0 0 0 0 0 0 0 ((ah.mk b false 0).wordV) G.wordV 0 [] [] [] [] 0 0 0 0 0 []) (G.wordsC 1):=by
   subst cY
   unfold ae aY cV co
   (try simp only[q,r,F,O,aE,bs,if_true,if_false,decide_true,decide_false,eq_self,true_or,or_true,or_false,false_or,if_true,if_false,ch,cg,cc,bZ,reduceIte,fA,fx])
   all_goals rfl
 rw[hs]
 exact bg bL d5
 have bL:=ai aE
 refine bo<|sg<|?_
 refine L0<|cl (aU b4 (Ne.symm aw) eI)<|?_
 refine L0<|b6 (ub (ut D (ut bH (u1 bJ b4 im) (ac im (ac im aq))) (ac (nr a) (ac (ni g.size f) aq))) i) (mG c 0 0 0 0 0 0 0 0 ((ah.mk b false 0).wordV) G.wordV 0 nS nS nS nS 0 0 0 0 0 nS) fun gu eL eM=>Pl 1<|nt<|rt<|bF eL (.int .i64 0)<|?_
 have hs:ae aY 1 c b=aF (aP.mk c 0 0 0 0 0 0 0 0 ((ah.mk b false 0).wordV) G.wordV 0 [] [] [] [] 0 0 0 0 0 []) (G.wordsC 1):=by
   subst cY
   unfold ae aY cV co
   (try simp only[q,r,F,O,aE,bs,if_true,if_false,decide_true,decide_false,eq_self,true_or,or_true,or_false,false_or,if_true,if_false,ch,cg,cc,bZ,reduceIte,fA,fx])
   all_goals rfl
 rw[hs]
 exact bj bL ⟨_,_,_,_,_,rfl,aK.nil ..,aK.nil ..,(fun _ _ _=>aK.nil ..),aK.nil ..,aK.nil ..,⟨(b8 (x:=c) (by omega)),(b8 (x:=0) (by omega)),(aC (x:=0) (by omega)),(aC (x:=0) (by omega)),(aC (x:=0) (by omega)),(aC (x:=0) (by omega)),(aC (x:=0) (by omega)),(aC (x:=0) (by omega)),(aC (x:=0) (by omega)),(aC (x:=(ah.mk b false 0).wordV) (by omega)),(aC (x:=G.wordV) (by omega)),(aC (x:=0) (by omega)),(b8 (x:=0) (by omega)),(b8 (x:=0) (by omega)),(b8 (x:=0) (by omega)),(b8 (x:=0) (by omega)),(b8 (x:=0) (by omega))⟩⟩ (ud d2 eM B)
 have ez:=ap O
 refine sg<|Pl 3<|nt<|cb ((c==12)) (fun W=>?_) (fun W=>?_)
 have eN:=al W
 refine sg<|Pl 1<|?_
 have eO:RC w _ A cp b a5 o (ah.mk b false 0):=⟨hsl,I,(Nat.le_trans d.size a),⟨0,(ub X t),Nat.zero_le _,rfl⟩,by omega⟩
 refine L0<|Oc<|m3 (dG eO) fun gv eP eR gw=>L0<|Oi ((ah.mk b false 0).byteV)<|Pl 1<|ng<|Pl 4<|cu 3 [155] 158 (((decide (6≤((ah.mk b false 0).byteV)))&&(decide (((ah.mk b false 0).byteV)≤70)))) (fun K d6=>?_) ?_
 refine bl 155 ((decide (6≤((ah.mk b false 0).byteV)))) (fun aI=>?_) (fun aI=>?_)
 have eS:=of_decide_eq_true aI
 exact Pl 3<|ce d6 (decide (((ah.mk b false 0).byteV)≤70)) (by rw[aI];rfl)
 have eS:=of_decide_eq_false aI
 exact Pl 3<|ce d6 false (by rw[aI];rfl)
 refine L0<|Oc<|m2 (aV (((decide (6≤((ah.mk b false 0).byteV)))&&(decide (((ah.mk b false 0).byteV)≤70)))) 5 eP) fun gx eT eU=>?_
 refine fj eT fun z d7 eV=>?_
 refine ng<|Pl 1<|L0<|Oc<|m3 (cO eV) fun gy eW eX gz=>Pl 1<|?_
 have d8:=u1 eR (u1 eU eX im) im
 have P:=nb (ak t) lr f
 refine L0<|bT (aU d8 (Ne.symm P) a6) 9 (mG c 0 0 0 0 0 0 0 0 z.wordV 0 0 nS nS nS nS 0 0 0 0 0 nS) fun gA bM da=>ng<|Pl 2<|L0<|aR bM 9<|Pl 2<|cu 4 [167] 171 (((z.wordV==0)||(z.wordV==65535))) (fun K db=>?_) ?_
 refine bl 167 ((z.wordV==0)) (fun aJ=>?_) (fun aJ=>?_)
 have eY:=al aJ
 exact Pl 4<|ce db true (by rw[aJ];rfl)
 have eY:=ap aJ
 exact Pl 1<|L1<|aR bM 9<|Pl 2<|ce db (z.wordV==65535) (by rw[aJ];rfl)
 have bN:=us d8 da
 have dc:=ut I bN (ac (ni d.size a) (ac (ni (le d.size g.size) f) aq))
 refine L0<|Oc<|m2 (aV (((z.wordV==0)||(z.wordV==65535))) 6 (RC.upd eW da (aa P ay) dc)) fun gB eZ f0=>?_
 refine fj eZ fun k dd f1=>?_
 refine ng<|Pl 1<|L0<|Oc<|m3 (cO f1) fun gC f2 f3 gD=>Pl 1<|?_
 have de:=u1 f0 f3 im
 refine L0<|bT (aU de (Ne.symm P) bM) 10 (mG c 0 0 0 0 0 0 0 0 z.wordV k.wordV 0 nS nS nS nS 0 0 0 0 0 nS) fun gE f4 df=>ng<|Pl 1<|?_
 have bO:=us de df
 have dg:=ut dc bO (ac (ni d.size a) (ac (ni (le d.size g.size) f) aq))
 refine L0<|Oc<|m3 (cO (RC.upd f2 df (aa P ay) dg)) fun gF f5 dh gG=>Pl 1<|?_
 refine L0<|bT (aU dh (Ne.symm P) f4) 11 (mG c 0 0 0 0 0 0 0 0 z.wordV k.wordV ((k.wordsC 1).wordV) nS nS nS nS 0 0 0 0 0 nS) fun gH f6 di=>nt<|go<|Pl 2<|L0<|Oi (((ah.mk b false 0).byteV)-6)<|?_
 have bP:=us dh di
 have dj:=ut dg bP (ac (ni d.size a) (ac (ni (le d.size g.size) f) aq))
 have dk:=RC.upd f5 di (aa P ay) dj
 refine L0<|Oc<|nJ (fc (n:=(((ah.mk b false 0).byteV)-6)) (by omega) dk) fun dl dm gI f7 f8 dn=>?_
 have gJ:=Nat.le_trans (ah.bytesR_le ((k.wordsC 1).wordsC 1) (((ah.mk b false 0).byteV)-6)) (RC.clen dk)
 refine fj f8 fun Z dp f9=>?_
 refine Pl 1<|?_
 refine L0<|bT (aU dn (Ne.symm P) f6) 14 (mG c 0 0 0 0 0 0 0 0 z.wordV k.wordV ((k.wordsC 1).wordV) nS nS (.slice dl ((((k.wordsC 1).wordsC 1).bytesR (((ah.mk b false 0).byteV)-6)).length) dm) nS 0 0 0 0 0 nS) fun gK fa dq=>nl<|bn<|tn<|sg<|Pl 1<|?_
 have bQ:=us dn dq
 have dr:=ut dj bQ (ac (ni d.size a) (ac (ni (le d.size g.size) f) aq))
 refine L0<|Oc<|m2 (dX (RC.upd f9 dq (aa P ay) dr)) fun gL bR b7=>nt<|sq<|sg<|Pl 3<|L0<|dU (p:=⟨o,3,none⟩) (v:=.int .i64 Z.endC.e) (RC.fld bR)<|Pl 1<|nt<|?_
 have ds:=ud dr b7 (le d.size a)
 refine cb ((Z.endC.e != 0)) (fun aL=>?_) (fun aL=>?_)
 have bS:=au aL
 refine sq<|Rg 7 (fun w'=>w'.cell? ⟨o,3,none⟩=some (.int .i64 Z.endC.e)) fun gM ba=>?_
 have dt:=RC.upd bR ba ay (aD.step (RC.u bR) ba)
 refine bh (RC.fld dt) fun aM=>Rt 0 aM<|Rt 1 aM<|Rt 2 aM<|Rt 3 aM<|Rl 4 aM (fun _ hs=>hs)<|?_
 refine R0 5 rfl<|b6 (ub (ut D (ut bN (ut bO (ut bP (u1 bQ (aH b7 ba) im) (ac im (ac im aq))) (ac im (ac im aq))) (ac im (ac im aq))) (ac (nr a) (ac (ni g.size f) aq))) i) mZ fun gN fb du=>?_
 have dv:=ud ds (uz ba du) B
 refine bh (RC.fld (RC.upd dt du (aa (Ne.symm (nb (ak i) lr a)) ay) dv)) fun fd=>Rt 6 fd<|re<|tn<|rt<|tr<|bF fb (.int .i64 Z.endC.e)<|?_
 have hs:ae aY 1 c b=aF (aP.mk c 0 0 0 0 0 0 0 0 z.wordV k.wordV ((k.wordsC 1).wordV) [] [] (((k.wordsC 1).wordsC 1).bytesR (((ah.mk b false 0).byteV)-6)) [] 0 0 0 0 0 []) Z:=by
   subst dp dd d7
   unfold ae aY cV co
   (try simp only[q,r,F,O,W,aL,bs,if_true,if_false,decide_true,decide_false,eq_self,true_or,or_true,or_false,false_or,if_true,if_false,ch,cg,cc,bZ,reduceIte,fA,fx])
   all_goals rfl
 rw[hs]
 exact bg bS dv
 have bS:=ai aL
 refine bo<|sg<|?_
 refine L0<|cl (aU b7 (Ne.symm P) fa)<|?_
 refine L0<|b6 (ub (ut D (ut bN (ut bO (ut bP (u1 bQ b7 im) (ac im (ac im aq))) (ac im (ac im aq))) (ac im (ac im aq))) (ac (nr a) (ac (ni g.size f) aq))) i) (mG c 0 0 0 0 0 0 0 0 z.wordV k.wordV ((k.wordsC 1).wordV) nS nS (.slice dl ((((k.wordsC 1).wordsC 1).bytesR (((ah.mk b false 0).byteV)-6)).length) dm) nS 0 0 0 0 0 nS) fun gP fe ff=>Pl 1<|nt<|rt<|bF fe (.int .i64 0)<|?_
 have hs:ae aY 1 c b=aF (aP.mk c 0 0 0 0 0 0 0 0 z.wordV k.wordV ((k.wordsC 1).wordV) [] [] (((k.wordsC 1).wordsC 1).bytesR (((ah.mk b false 0).byteV)-6)) [] 0 0 0 0 0 []) Z:=by
   subst dp dd d7
   unfold ae aY cV co
   (try simp only[q,r,F,O,W,aL,bs,if_true,if_false,decide_true,decide_false,eq_self,true_or,or_true,or_false,false_or,if_true,if_false,ch,cg,cc,bZ,reduceIte,fA,fx])
   all_goals rfl
 rw[hs]
 exact bj bS ⟨_,_,_,_,_,rfl,aK.nil ..,aK.nil ..,f7,aK.nil ..,aK.nil ..,⟨(b8 (x:=c) (by omega)),(b8 (x:=0) (by omega)),(aC (x:=0) (by omega)),(aC (x:=0) (by omega)),(aC (x:=0) (by omega)),(aC (x:=0) (by omega)),(aC (x:=0) (by omega)),(aC (x:=0) (by omega)),(aC (x:=0) (by omega)),(aC (x:=z.wordV) (by omega)),(aC (x:=k.wordV) (by omega)),(aC (x:=(k.wordsC 1).wordV) (by omega)),(b8 (x:=0) (by omega)),(b8 (x:=0) (by omega)),(b8 (x:=0) (by omega)),(b8 (x:=0) (by omega)),(b8 (x:=0) (by omega))⟩⟩ (ud ds ff B)
 have eN:=ap W
 refine sg<|Pl 1<|?_
 have fg:RC w _ A cp b a5 o (ah.mk b false 0):=⟨hsl,I,(Nat.le_trans d.size a),⟨0,(ub X t),Nat.zero_le _,rfl⟩,by omega⟩
 refine L0<|Oc<|m3 (dG fg) fun gQ fh fi gR=>L0<|Oi ((ah.mk b false 0).byteV)<|Pl 1<|ng<|Pl 4<|cu 3 [52] 55 (((decide (1≤((ah.mk b false 0).byteV)))&&(decide (((ah.mk b false 0).byteV)≤251)))) (fun K dw=>?_) ?_
 refine bl 52 ((decide (1≤((ah.mk b false 0).byteV)))) (fun aN=>?_) (fun aN=>?_)
 have fk:=of_decide_eq_true aN
 exact Pl 3<|ce dw (decide (((ah.mk b false 0).byteV)≤251)) (by rw[aN];rfl)
 have fk:=of_decide_eq_false aN
 exact Pl 3<|ce dw false (by rw[aN];rfl)
 refine L0<|Oc<|m2 (aV (((decide (1≤((ah.mk b false 0).byteV)))&&(decide (((ah.mk b false 0).byteV)≤251)))) 5 fh) fun gS fl fm=>?_
 refine fj fl fun H dy dA=>?_
 refine nt<|go<|Pl 2<|L0<|Oc<|nJ (fc (n:=(ah.mk b false 0).byteV) (by omega) dA) fun dB dC gT fn fo fq=>?_
 have gU:=Nat.le_trans (ah.bytesR_le H ((ah.mk b false 0).byteV)) (RC.clen dA)
 refine Pl 1<|?_
 have dD:=u1 fi (u1 fm fq im) im
 have bU:=nb (ak t) lr f
 refine L0<|bT (aU dD (Ne.symm bU) a6) 14 (mG c 0 0 0 0 0 0 0 0 0 0 0 nS nS (.slice dB ((H.bytesR ((ah.mk b false 0).byteV)).length) dC) nS 0 0 0 0 0 nS) fun gV fr dE=>nl<|bn<|tn<|sg<|Pl 1<|?_
 have bV:=us dD dE
 have dF:=ut I bV (ac (ni d.size a) (ac (ni (le d.size g.size) f) aq))
 refine L0<|Oc<|m2 (dX (RC.upd fo dE (aa bU ay) dF)) fun gW bW bb=>nt<|sq<|sg<|Pl 3<|L0<|dU (p:=⟨o,3,none⟩) (v:=.int .i64 (((H.bytesC ((ah.mk b false 0).byteV)).endC).e)) (RC.fld bW)<|Pl 1<|nt<|?_
 have dH:=ud dF bb (le d.size a)
 refine cb (((((H.bytesC ((ah.mk b false 0).byteV)).endC).e)!=0)) (fun aO=>?_) (fun aO=>?_)
 have bX:=au aO
 refine sq<|Rg 7 (fun w'=>w'.cell? ⟨o,3,none⟩=some (.int .i64 (((H.bytesC ((ah.mk b false 0).byteV)).endC).e))) fun gX bc=>?_
 have dI:=RC.upd bW bc ay (aD.step (RC.u bW) bc)
 refine bh (RC.fld dI) fun aQ=>Rt 0 aQ<|Rt 1 aQ<|Rt 2 aQ<|Rt 3 aQ<|Rl 4 aQ (fun _ hs=>hs)<|?_
 refine R0 5 rfl<|b6 (ub (ut D (u1 bV (aH bb bc) im) (ac (nr a) (ac (ni g.size f) aq))) i) mZ fun gY fs dJ=>?_
 have dK:=ud dH (uz bc dJ) B
 refine bh (RC.fld (RC.upd dI dJ (aa (Ne.symm (nb (ak i) lr a)) ay) dK)) fun ft=>Rt 6 ft<|re<|tn<|rt<|tr<|bF fs (.int .i64 (((H.bytesC ((ah.mk b false 0).byteV)).endC).e))<|?_
 have hs:ae aY 1 c b=aF (aP.mk c 0 0 0 0 0 0 0 0 0 0 0 [] [] (H.bytesR ((ah.mk b false 0).byteV)) [] 0 0 0 0 0 []) (H.bytesC ((ah.mk b false 0).byteV)):=by
   subst dy
   unfold ae aY cV co
   (try simp only[q,r,F,O,W,aO,bs,if_true,if_false,decide_true,decide_false,eq_self,true_or,or_true,or_false,false_or,if_true,if_false,ch,cg,cc,bZ,reduceIte,fA,fx])
   all_goals rfl
 rw[hs]
 exact bg bX dK
 have bX:=ai aO
 refine bo<|sg<|?_
 refine L0<|cl (aU bb (Ne.symm bU) fr)<|?_
 refine L0<|b6 (ub (ut D (u1 bV bb im) (ac (nr a) (ac (ni g.size f) aq))) i) (mG c 0 0 0 0 0 0 0 0 0 0 0 nS nS (.slice dB ((H.bytesR ((ah.mk b false 0).byteV)).length) dC) nS 0 0 0 0 0 nS) fun gZ fu fv=>Pl 1<|nt<|rt<|bF fu (.int .i64 0)<|?_
 have hs:ae aY 1 c b=aF (aP.mk c 0 0 0 0 0 0 0 0 0 0 0 [] [] (H.bytesR ((ah.mk b false 0).byteV)) [] 0 0 0 0 0 []) (H.bytesC ((ah.mk b false 0).byteV)):=by
   subst dy
   unfold ae aY cV co
   (try simp only[q,r,F,O,W,aO,bs,if_true,if_false,decide_true,decide_false,eq_self,true_or,or_true,or_false,false_or,if_true,if_false,ch,cg,cc,bZ,reduceIte,fA,fx])
   all_goals rfl
 rw[hs]
 exact bj bX ⟨_,_,_,_,_,rfl,aK.nil ..,aK.nil ..,fn,aK.nil ..,aK.nil ..,⟨(b8 (x:=c) (by omega)),(b8 (x:=0) (by omega)),(aC (x:=0) (by omega)),(aC (x:=0) (by omega)),(aC (x:=0) (by omega)),(aC (x:=0) (by omega)),(aC (x:=0) (by omega)),(aC (x:=0) (by omega)),(aC (x:=0) (by omega)),(aC (x:=0) (by omega)),(aC (x:=0) (by omega)),(aC (x:=0) (by omega)),(b8 (x:=0) (by omega)),(b8 (x:=0) (by omega)),(b8 (x:=0) (by omega)),(b8 (x:=0) (by omega)),(b8 (x:=0) (by omega))⟩⟩ (ud dH fv B)
theorem kC{m:Md}{A:Option Addr}{cp:Nat}{b:List Int}{w:World}{dir c:Int}(hcode:B8 c)(hsl:b9 m w (.slice A b.length cp) b)(hb:b.length≤1048576)(hd:¬ (dir=0∨dir=1)) :
    Calls Tryz.prog 95 #[.int .i64 dir,.int .u8 c,.slice A b.length cp] w (d9 (.slice A b.length cp) b (ae aY dir c b) w):=by
 obtain⟨hcode1,hcode2⟩:=hcode
 have hln:(b.length:Int)≤1048576:=by omega
 have e0:(dir != 0)=true:=by simp;omega
 have e1:(dir != 1)=true:=by simp;omega
 refine en 197 Tryz.func95 rfl<|sg<|L0<|bI mZ fun g h a d e=>Pl 1<|nt<|sq<|sg<|Pl 3<|sy 17 e0<|Pl 3<|nl<|?_
 refine tn<|ct e1<|sg<|Pl 1<|L0<|b6 d mZ fun i dm f=>Pl 1<|nt<|rt<|tr<|bF dm (.int .i64 1)<|?_
 have hs:ae aY dir c b=(aP.zero,1):=by
   unfold ae aY cV co
   (try simp only[e0,e1,bs,if_true,if_false,decide_true,decide_false,eq_self,true_or,or_true,or_false,false_or,if_true,if_false,ch,cg,cc,bZ,reduceIte,hd,fA,fx])
   all_goals rfl
 rw[hs]
 exact bv (ud e f a)
open Go.RowKit
theorem dS{C:ah}{ok:Bool}{x:Int}(h:C.e≠0) : C.need ok x=C:=by
  unfold ah.need
  rw[if_neg fun k=>h k.1]
theorem eJ{C:ah}{n:Int}(h:C.fails n=true) : (C.bytesC n).e≠0:=by
  unfold ah.bytesC
  rw[if_pos h]
  unfold ah.need
  split
  · exact(show(2:Int)≠0 from by decide)
  · rename_i k
    intro e
    exact k ⟨e,rfl⟩
theorem mb{C:ah}(h:(C.wordsR 1).length≠1) : (C.wordsC 1).e≠0:=by
  unfold ah.wordsR at h
  unfold ah.wordsC
  split
  · exact eJ (by unfold ah.fails;simp)
  · rename_i hb
    rw[if_neg hb] at h
    by_cases hf:C.fails (2*1)=true
    · exact eJ hf
    · exfalso
      apply h
      unfold ah.bytesR
      rw[if_neg hf]
      unfold ah.fails at hf
      simp only[Bool.or_eq_true,decide_eq_true_eq,not_or] at hf
      rcases e:C.l with _|⟨a,_|⟨b,t⟩⟩
      · rw[e] at hf;simp at hf
      · rw[e] at hf;simp at hf
      · show(cH [a,b]).length=1
        unfold cH
        rw[if_pos (by simp)]
        simp[cZ]
theorem oB{C:ah}(h:(C.wordsR 1).length=1) : [C.wordV]=C.wordsR 1:=by
  unfold ah.wordV
  rcases e:C.wordsR 1 with _|⟨a,_|⟨b,t⟩⟩
  · rw[e] at h;simp at h
  · rfl
  · rw[e] at h;simp at h
theorem qB{M M':aP}{C:ah}(h:C.e≠0) : aF M C=aF M' C:=by
  unfold aF
  have e:C.endC.e≠0:=by unfold ah.endC;rw[dS h];exact h
  rw[if_neg e,if_neg e]
theorem qz(dir:Int)(C:ah) : ew dir C=eY dir C:=by
  unfold ew eY
  rw[Bool.or_comm]
theorem pC(dir c:Int)(C:ah) : aF (cV dir c C).2 (cV dir c C).1=aF (e8 dir c C).2 (e8 dir c C).1:=by
  unfold cV e8
  rw[qz]
  by_cases h0:C.wordV=0
  · rw[h0,if_pos (show((0:Int)==0)=true from rfl),if_neg (show ¬ ((0:Int)!=0)=true from by decide)]
  · rw[if_neg (by simpa using h0),if_pos (by simpa using h0)]
    by_cases h1:((eY dir C).wordsR 1).length=1
    · rw[oB h1,show((((eY dir C).wordsR 1).length:Int)==1)=true from by rw[h1];rfl,Bool.true_and]
      rfl
    · have k:=mb h1
      dsimp only
      rw[dS k,dS k]
      exact qB k
theorem kv{f f':Int→Int→ah→Option (ah × aP)}{dir c:Int}{b:List Int}(h:∀ C,(dir=0∨dir=1)→(f dir c C=none∧f' dir c C=none)∨∃ r r',f dir c C=some r∧f' dir c C=some r'∧aF r.2 r.1=aF r'.2 r'.1) : ae f dir c b=ae f' dir c b:=by
  unfold ae
  split
  · rename_i hd
    rcases h ⟨b,false,0⟩ hd with⟨h1,h2⟩|⟨r,r',h1,h2,h3⟩
    · rw[h1,h2]
    · rw[h1,h2];exact h3
  · rfl
theorem m7(dir c:Int)(b:List Int) : ae aY dir c b=ae aM dir c b:=by
  refine kv fun C hd=>?_
  unfold aY aM
  by_cases h8:c=8
  · subst h8
    exact .inr ⟨_,_,rfl,rfl,pC dir 8 C⟩
  · by_cases h:c=7∨c=11∨c=12∨c=17
    · refine .inr ?_
      rw[if_neg (show ¬ (((((c != 7)&&(c != 8))&&(c != 11))&&(c != 12))&&(c != 17))=true from by rcases h with rfl | rfl | rfl | rfl<;>decide),if_neg (show ¬ (c==8)=true from by simpa using h8),if_neg (show ¬ (c==8)=true from by simpa using h8),if_pos (show(c==7 || c==11 || c==12 || c==17)=true from by rcases h with rfl | rfl | rfl | rfl<;>decide)]
      rcases hd with rfl|rfl
      · exact⟨_,_,rfl,rfl,rfl⟩
      · refine⟨_,_,rfl,rfl,?_⟩
        rcases h with rfl|rfl|rfl|rfl<;>rfl
    · refine .inl ?_
      rw[if_pos (show(((((c != 7)&&(c != 8))&&(c != 11))&&(c != 12))&&(c != 17))=true from by simp;omega),if_neg (show ¬ (c==8)=true from by simpa using h8),if_neg (show ¬ (c==7 || c==11 || c==12 || c==17)=true from by simp;omega)]
      exact⟨rfl,rfl⟩
end Go.Proofs.YtogbnemojakcpaaGreat
namespace Go.Proofs.YtogbnemojakcpaaGreat
def ia (C:ah) : Prop:=∀ x,x∈C.l→0≤x∧x<256
theorem s0{C:ah}{ok:Bool}{x:Int}(hx:x≠0)(h:(C.need ok x).e=0) : C.e=0∧ok=true:=by
  unfold ah.need at h
  split at h
  · exact absurd h hx
  · rename_i hh
    refine⟨h,?_⟩
    cases ok
    · exact absurd ⟨h,rfl⟩ hh
    · rfl
theorem nz{C:ah}{n:Int}(h:(C.bytesC n).e=0) : C.e=0∧C.l=C.bytesR n++(C.bytesC n).l∧((C.bytesR n).length:Int)=n:=by
  unfold ah.bytesC at h ⊢
  unfold ah.bytesR
  split at h
  · exfalso
    unfold ah.need at h
    split at h
    · cases h
    · rename_i hh
      exact hh ⟨h,rfl⟩
  · rename_i hf
    rw[if_neg hf,if_neg hf]
    refine⟨h,(List.take_append_drop _ _).symm,?_⟩
    unfold ah.fails at hf
    simp only[Bool.or_eq_true,decide_eq_true_eq,not_or] at hf
    rw[List.length_take]
    omega
theorem jn:∀ (l:List Int),l.length%2=0→(∀ x,x∈l→0≤x∧x<256)→bf (cZ l)=l
  | [],_,_=>rfl
  | [_],h,_=>by simp at h
  | a :: b :: r,h,hr=>by
    have ha:=hr a (by simp)
    have hb:=hr b (by simp)
    simp only[cZ,bf]
    rw[jn r (by simp at h;omega) (fun x hx=>hr x (by simp[hx]))]
    congr 1
    · omega
    · congr 1
      omega
theorem uw{C:ah}{n:Int}(hr:ia C)(h:(C.wordsC n).e=0) : C.e=0∧C.l=bf (C.wordsR n)++(C.wordsC n).l∧((C.wordsR n).length:Int)=n:=by
  unfold ah.wordsC at h ⊢
  unfold ah.wordsR
  split at h
  · obtain⟨_,_,h3⟩:=nz h
    omega
  · rename_i hb
    rw[if_neg hb,if_neg hb]
    obtain⟨h1,h2,h3⟩:=nz h
    have h4:(C.bytesR (2*n)).length%2=0:=by omega
    have h5:∀ x,x∈C.bytesR (2*n)→0≤x∧x<256:=fun x hx=>hr x (by rw[h2];exact List.mem_append_left _ hx)
    unfold cH
    rw[if_pos h4]
    refine⟨h1,by rw[jn _ h4 h5];exact h2,?_⟩
    rw[f6]
    omega
def o8 (C:ah)(l:List Int)(C':ah) : Prop:=ia C→ia C'∧(C'.e=0→C.e=0∧C.l=l++C'.l)
theorem o8.trans{A B C:ah}{l m:List Int}(h:o8 A l B)(k:o8 B m C) : o8 A (l++m) C:=fun hr=>by
  obtain⟨h1,h2⟩:=h hr
  obtain⟨k1,k2⟩:=k h1
  refine⟨k1,fun he=>?_⟩
  obtain⟨k3,k4⟩:=k2 he
  obtain⟨h3,h4⟩:=h2 k3
  exact⟨h3,by rw[h4,k4,List.append_assoc]⟩
theorem o8.refl(C:ah) : o8 C [] C:=fun hr=>⟨hr,fun he=>⟨he,rfl⟩⟩
theorem o8.need{A C:ah}{l:List Int}{ok:Bool}{x:Int}(h:o8 A l C)(hx:x≠0:=by decide) : o8 A l (C.need ok x):=fun hr=>by
  obtain⟨h1,h2⟩:=h hr
  refine⟨fun y hy=>h1 y (by rwa [jr] at hy),fun he=>?_⟩
  rw[jr]
  exact h2 (s0 hx he).1
theorem o8.bytes{A C:ah}{l:List Int}(h:o8 A l C)(n:Int) : o8 A (l++C.bytesR n) (C.bytesC n):=h.trans fun hr=>⟨gY hr n,fun he=>⟨(nz he).1,(nz he).2.1⟩⟩
theorem o8.words{A C:ah}{l:List Int}(h:o8 A l C)(n:Int) : o8 A (l++bf (C.wordsR n)) (C.wordsC n):=h.trans fun hr=>⟨cI hr n,fun he=>⟨(uw hr he).1,(uw hr he).2.1⟩⟩
theorem gX{C:ah}(hr:ia C) : 0≤C.byteV∧C.byteV<256:=by
  unfold ah.byteV
  rw[List.getD_eq_getElem?_getD]
  cases h:(C.bytesR 1)[0]? with
  | none=>simp
  | some x =>
    have hm:x∈C.bytesR 1:=List.mem_of_getElem? h
    have:x∈C.l:=by
      unfold ah.bytesR at hm
      split at hm
      · cases hm
      · exact List.mem_of_mem_take hm
    exact hr x this
theorem uk:∀ n:Nat,n<256→(((if ((n:Int)/2 ^ 0%2==1) then 1 else 0)+(if ((n:Int)/2 ^ 1%2==1) then 2 else 0)+(if ((n:Int)/2 ^ 2%2==1) then 4 else 0)+(if ((n:Int)/2 ^ 3%2==1) then 8 else 0)+(if ((n:Int)/2 ^ 4%2==1) then 16 else 0)+(if ((n:Int)/2 ^ 5%2==1) then 32 else 0)+(if ((n:Int)/2 ^ 6%2==1) then 64 else 0)+(if ((n:Int)/2 ^ 7%2==1) then 128 else 0) : Nat) : Int)=n:=by decide +kernel
theorem ki{x:Int}(hx:0≤x∧x<256)(f:Nat→Bool)(hf:∀ i,i<8→f i=(x/2 ^ i%2==1)) :
    (((if f 0 then 1 else 0)+(if f 1 then 2 else 0)+(if f 2 then 4 else 0)+(if f 3 then 8 else 0)+(if f 4 then 16 else 0)+(if f 5 then 32 else 0)+(if f 6 then 64 else 0)+(if f 7 then 128 else 0) : Nat) : Int)=x:=by
  rw[hf 0 (by decide),hf 1 (by decide),hf 2 (by decide),hf 3 (by decide),hf 4 (by decide),hf 5 (by decide),hf 6 (by decide),hf 7 (by decide)]
  obtain⟨n,rfl⟩:=Int.eq_ofNat_of_zero_le hx.1
  exact uk n (by omega)
theorem mz{b:List Int}{n:Int}{l:List Bool}(hr:∀ x,x∈b→0≤x∧x<256)(h:ci b n=some l) : cF l=b:=by
  unfold ci at h
  split at h
  · rename_i hc
    split at h
    · rename_i hall
      injection h with h
      subst h
      have hlen:((List.range n.toNat).map (cw b)).length=n.toNat:=by simp
      have hm:((List.range n.toNat).map (cw b)).length=n:=by rw[hlen];omega
      unfold cF
      rw[hm,← hc.2]
      apply List.ext_getElem
      · simp
      intro j h1 h2
      simp only[List.getElem_map,List.getElem_range]
      have hj:j<b.length:=h2
      have hget:∀ i,i<8*b.length→((List.range n.toNat).map (cw b)).getD i false=cw b i:=fun i hi=>by
        rw[List.getD_eq_getElem?_getD,List.getElem?_map]
        by_cases hin:i<n.toNat
        · rw[List.getElem?_range hin];rfl
        · rw[List.getElem?_eq_none (by simpa using hin)]
          rw[List.all_eq_true] at hall
          have:=hall i (by simpa using hi)
          simp only[Bool.or_eq_true,decide_eq_true_eq,Bool.not_eq_true'] at this
          rcases this with h3|h3
          · omega
          · simp[h3]
      have hx:∀ k,k<8→cw b (8*j+k)=(b[j]/2 ^ k%2==1):=fun k hk=>by
        unfold cw
        rw[show(8*j+k)/8=j from by omega,show(8*j+k)%8=k from by omega,List.getD_eq_getElem?_getD,List.getElem?_eq_getElem hj]
        rfl
      unfold bS
      rw[show(8*j:Nat)=8*j+0 from rfl]
      simp only[hget _ (show 8*j+0<8*b.length by omega),hget _ (show 8*j+0+1<8*b.length by omega),hget _ (show 8*j+0+2<8*b.length by omega),hget _ (show 8*j+0+3<8*b.length by omega),hget _ (show 8*j+0+4<8*b.length by omega),hget _ (show 8*j+0+5<8*b.length by omega),hget _ (show 8*j+0+6<8*b.length by omega),hget _ (show 8*j+0+7<8*b.length by omega)]
      exact ki (hr _ (List.getElem_mem hj)) (fun k=>cw b (8*j+k)) hx
    · cases h
  · cases h
end Go.Proofs.YtogbnemojakcpaaGreat
namespace Go.Proofs.YtogbnemojakcpaaGreat
end Go.Proofs.YtogbnemojakcpaaGreat
namespace Go.Proofs.YtogbnemojakcpaaGreat
end Go.Proofs.YtogbnemojakcpaaGreat
namespace Go.Proofs.YtogbnemojakcpaaGreat
def Sh (C C':ah) : Prop:=C'.l.length≤C.l.length
theorem Sh.refl(C:ah) : Sh C C:=Nat.le_refl _
theorem Sh.bytes{A C:ah}(h:Sh A C){n:Int}:Sh A (C.bytesC n):=Nat.le_trans (gU C n) h
theorem Sh.words{A C:ah}(h:Sh A C){n:Int}:Sh A (C.wordsC n):=Nat.le_trans (ez C n) h
theorem Sh.need{A C:ah}(h:Sh A C){b:Bool}{e:Int}:Sh A (C.need b e):=by unfold Sh;rw[eq];exact h
open Go.RowKit
theorem mi{n:Int}:du n=if n<1 then 0 else n/8+(if 0<n%8 then 1 else 0):=by
  unfold du
  split
  · rfl
  · split<;>omega
theorem jz(l:List Bool)(j:Nat) : bS (l.take (8*j)) j=0:=by
  have h:=kM l (8*j)
  rw[show 8*j/8=j from by omega,show 8*j%8=0 from by omega] at h
  omega
theorem iy{l:List Bool}{j t:Nat}(ht:t<8) : bS (l.take (8*j+t+1)) j=bS (l.take (8*j+t)) j+if l.getD (8*j+t) false=true then 2 ^ t else 0:=by
  rw[gv,show(8*j+t)/8=j from by omega,show(8*j+t)%8=t from by omega]
  simp
theorem pv{l:List Bool}{j t:Nat}(h:t=8∨l.length≤8*j+t) : bS (l.take (8*j+t)) j=bS l j:=by
  rcases h with rfl|h
  · unfold bS
    simp only[gz]
    simp
  · rw[List.take_of_length_le h]
theorem sb{l:List Bool}{j:Nat}(h1:l.length≤8*j)(h2:8*j<l.length+8) : (List.range j).map (fun i=>(bS l i:Int))=cF l:=by
  unfold cF
  rw[show(du l.length).toNat=j from by unfold du;split<;>omega]
theorem pL(l:List Bool) : ((cF l).length:Int)=du l.length:=by
  unfold cF
  rw[List.length_map,List.length_range]
  unfold du
  split<;>omega
theorem wK:∀ x0 x1 x2 x3 x4 x5 x6 x7:Bool,∀ t:Fin 8,(((((if x0=true then 1 else 0)+(if x1=true then 2 else 0)+(if x2=true then 4 else 0)+(if x3=true then 8 else 0)+(if x4=true then 16 else 0)+(if x5=true then 32 else 0)+(if x6=true then 64 else 0)+(if x7=true then 128 else 0) : Nat) : Int)/2 ^ t.val%2==1)=[x0,x1,x2,x3,x4,x5,x6,x7].getD t.val false):=by decide +kernel
theorem vC{l:List Bool}{j t:Nat}(ht:t<8) : ((bS l j:Int)/2 ^ t%2==1)=l.getD (8*j+t) false:=by
  have h:=wK (l.getD (8*j) false) (l.getD (8*j+1) false) (l.getD (8*j+2) false) (l.getD (8*j+3) false) (l.getD (8*j+4) false) (l.getD (8*j+5) false) (l.getD (8*j+6) false) (l.getD (8*j+7) false) ⟨t,ht⟩
  refine h.trans ?_
  rcases t with _|_|_|_|_|_|_|_|t
  case succ.succ.succ.succ.succ.succ.succ.succ=>omega
  all_goals rfl
theorem mv(l:List Bool) : ci (cF l) (l.length:Int)=some ((List.range l.length).map (cw (cF l))):=by
  have hl:=pL l
  unfold ci
  rw[if_pos ⟨by omega,hl⟩,if_pos,show((l.length:Int)).toNat=l.length from by omega]
  rw[List.all_eq_true]
  intro i hi
  have hi:i<8*(cF l).length:=by simpa using hi
  simp only[Bool.or_eq_true,decide_eq_true_eq,Bool.not_eq_true']
  by_cases h:(i:Int)<l.length
  · exact .inl h
  · refine .inr ?_
    have hj:i/8<(cF l).length:=by omega
    unfold cw
    have e:(cF l).getD (i/8) 0=(bS l (i/8) : Int):=by
      have hj2:i/8<(du (l.length:Int)).toNat:=by omega
      unfold cF
      rw[List.getD_eq_getElem?_getD,List.getElem?_map,List.getElem?_range hj2]
      rfl
    rw[e,vC (Nat.mod_lt _ (by decide)),show 8*(i/8)+i%8=i from by omega,List.getD_eq_getElem?_getD,List.getElem?_eq_none (by omega)]
    rfl
theorem ns{b:List Int}{n:Int}(hr:∀ x,x∈b→0≤x∧x<256)(h0:0≤n) : ci b n=if cF ((List.range n.toNat).map (cw b))=b then some ((List.range n.toNat).map (cw b)) else none:=by
  by_cases h:cF ((List.range n.toNat).map (cw b))=b
  · rw[if_pos h]
    have k:=mv ((List.range n.toNat).map (cw b))
    rw[h,List.length_map,List.length_range,show((n.toNat:Nat) : Int)=n from by omega] at k
    exact k
  · rw[if_neg h]
    cases e:ci b n with
    | none=>rfl
    | some l =>
      exfalso
      have k:=mz hr e
      unfold ci at e
      split at e
      · split at e
        · injection e with e;rw[e] at h;exact h k
        · cases e
      · cases e
open Go.RowKit
theorem wa{n:Int}{w:World}(hn : -1048576≤n∧n≤1048576) : Calls Tryz.prog 155 #[.int .i64 n] w (cL (.int .i64 (du n)) w):=by
 refine en 14 Tryz.func155 rfl<|sg<|Pl 1<|nt<|sq<|sg<|Pl 2<|nt<|cb ((decide (n<1))) (fun a=>?_) (fun a=>?_)
 have c:=of_decide_eq_true a
 refine sg<|Pl 1<|nt<|rt<|tr<|rr (.int .i64 0)<|?_
 have hs:du n=0:=by rw[mi];split<;>(try split)<;>omega
 rw[hs]
 exact⟨rfl,(aD.refl [] _)⟩
 have c:=of_decide_eq_false a
 refine bo<|sg<|Pl 1<|L0<|Oe (.int .i64 (IntKind.i64.wrap (Int.tdiv n 8))) (.int .i64 (n/8)) (congrArg (Value.int .i64) (fp (by omega) (by omega)))<|Pl 1<|nt<|sq<|sg<|Pl 1<|L0<|Oe (.int .i64 (Int.tmod n 8)) (.int .i64 (n%8)) (congrArg (Value.int .i64) (Int.tmod_eq_emod_of_nonneg (by omega)))<|?_
 refine Pl 1<|nt<|cb ((decide (0<(n%8)))) (fun b=>?_) (fun b=>?_)
 have d:=of_decide_eq_true b
 refine go<|Pl 1<|L0<|Oi ((n/8)+1)<|Pl 1<|ng<|Pl 2<|nt<|rt<|rr (.int .i64 ((n/8)+1))<|?_
 have hs:du n=((n/8)+1):=by rw[mi];split<;>(try split)<;>omega
 rw[hs]
 exact⟨rfl,(aD.refl [] _)⟩
 have d:=of_decide_eq_false b
 refine bo<|sg<|Pl 2<|nt<|rt<|rr (.int .i64 (n/8))<|?_
 have hs:du n=(n/8):=by rw[mi];split<;>(try split)<;>omega
 rw[hs]
 exact⟨rfl,(aD.refl [] _)⟩
theorem p8(l:List Bool)(j t:Nat)(ht:t≤8) : bS (l.take (8*j+t)) j<2 ^ t:=by
  induction t with
  | zero=>rw[Nat.add_zero,jz];decide
  | succ t ih =>
    have h:=ih (by omega)
    rw[← Nat.add_assoc,iy (by omega),Nat.pow_succ]
    split<;>omega
theorem ss{t:Nat}(ht:t≤8) : 2 ^ t≤256:=by
  rcases t with _|_|_|_|_|_|_|_|_|t
  case succ.succ.succ.succ.succ.succ.succ.succ.succ=>omega
  all_goals decide
theorem pS{l:List Bool}{j:Nat}(h1:¬ 8*j<l.length)(h2:8*j<l.length+8) : (List.range j).map (fun i=>(bS l i:Int))=cF l:=sb (by omega) h2
theorem s3{l:List Bool}{j t:Nat}{c:Int}(hc:c=(bS (l.take (8*j+t)) j:Int))(ht:t≤8)(h:t=8∨l.length≤8*j+t) : c%256=(bS l j:Int):=by
  have h1:=p8 l j t ht
  have h2:=ss ht
  rw[pv h] at hc h1
  omega
theorem vi{m:Md}{A:Option Addr}{cp:Nat}{l:List Bool}{w:World}(h:gq m w (.slice A l.length cp) l)(hn:l.length≤1048576) : Calls Tryz.prog 216 #[.slice A l.length cp] w (s9 l w):=by
 refine en 42 Tryz.func216 rfl<|sg<|Pl 1<|ng<|Pl 1<|nt<|sq<|sg<|?_
 refine Pl 1<|nt<|bk<|?_
 refine i1 (fun x=>[(0,.slice A l.length cp),(2,.slice none 0 0),(3,.slice x.2.2.1 x.2.1.length x.2.2.2),(4,.int .i64 ((8*x.1:Nat) : Int))]) (fun(x:Nat × List Int × Option Addr × Nat) w'=>aD [] w w'∧eG w.heap.size w' (.slice x.2.2.1 x.2.1.length x.2.2.2) x.2.1∧(8*x.1<l.length+8)∧(x.2.1=(List.range x.1).map (fun i=>(bS l i:Int)))) (fun x=>l.length+8-8*x.1) (0,[],none,0) ⟨aD.refl _ _,(be.nil w.heap.size _ _ sF _),(by(try dsimp only);omega),rfl⟩ ?_
 rintro⟨j,L,B,cq⟩ r ⟨f,z,C,D⟩
 refine iq [(0,.slice A l.length cp),(2,.slice none 0 0),(3,.slice B L.length cq),(4,.int .i64 ((8*j:Nat) : Int))] ?_
 have g:eG w.heap.size r (.slice B L.length cq) L:=z
 have Z:8*j<l.length+8:=C
 have k:L=(List.range j).map (fun i=>(bS l i:Int)):=D
 have hLn:L.length=j:=by rw[k,List.length_map,List.length_range]
 refine sq<|sg<|Pl 4<|nt<|cb ((decide (((8*j:Nat) : Int)<((l.length:Nat) : Int)))) (fun n=>?_) (fun n=>?_)
 have E:=of_decide_eq_true n
 refine bo<|sq<|bk<|sg<|Pl 1<|ng<|Pl 1<|nt<|?_
 refine sq<|sg<|Pl 2<|nt<|bk<|?_
 refine i1 (fun x=>[(0,.slice A l.length cp),(2,.slice none 0 0),(3,.slice B L.length cq),(4,.int .i64 ((8*j:Nat) : Int)),(5,.int .i64 x.2.1),(6,.int .i64 x.2.2),(7,.int .i64 ((8*j+x.1:Nat) : Int)),(8,.int .i64 ((8*j:Nat) : Int)),(9,.slice A l.length cp),(10,.int .i64 ((l.length:Nat) : Int)),(11,.bool (decide (((8*j:Nat) : Int)<((l.length:Nat) : Int)))),(14,.int .i64 ((8*j:Nat) : Int))]) (fun(x:Nat × Int × Int) w'=>aD [] r w'∧(x.1≤8)∧(x.2.1=(bS (l.take (8*j+x.1)) j:Int))∧(x.2.2=((2 ^ x.1:Nat) : Int))) (fun x=>8-x.1) (0,0,1) ⟨aD.refl _ _,(by(try dsimp only);omega),(by(try dsimp only);rw[Nat.add_zero,jz];rfl),rfl⟩ ?_
 rintro⟨t,c,u⟩ a0 ⟨a,F,G,H⟩
 refine iq [(0,.slice A l.length cp),(2,.slice none 0 0),(3,.slice B L.length cq),(4,.int .i64 ((8*j:Nat) : Int)),(5,.int .i64 c),(6,.int .i64 u),(7,.int .i64 ((8*j+t:Nat) : Int)),(8,.int .i64 ((8*j:Nat) : Int)),(9,.slice A l.length cp),(10,.int .i64 ((l.length:Nat) : Int)),(11,.bool (decide (((8*j:Nat) : Int)<((l.length:Nat) : Int)))),(14,.int .i64 ((8*j:Nat) : Int))] ?_
 have a1:t≤8:=F
 have I:c=(bS (l.take (8*j+t)) j:Int):=G
 have a2:u=((2 ^ t:Nat) : Int):=H
 have hpl:=p8 l j t (by omega)
 have hpp:=ss (t:=t) (by omega)
 refine sq<|sg<|Pl 5<|cu 5 [19] 24 (((decide (((8*j+t:Nat) : Int)<((l.length:Nat) : Int)))&&(decide (((8*j+t:Nat) : Int)<(((8*j:Nat) : Int)+8))))) (fun K s=>?_) ?_
 refine bl 19 ((decide (((8*j+t:Nat) : Int)<((l.length:Nat) : Int)))) (fun b=>?_) (fun b=>?_)
 have J:=of_decide_eq_true b
 exact Pl 2<|L1<|Oi (((8*j:Nat) : Int)+8)<|Pl 2<|ce s (decide (((8*j+t:Nat) : Int)<(((8*j:Nat) : Int)+8))) (by rw[b];rfl)
 have J:=of_decide_eq_false b
 exact Pl 5<|ce s false (by rw[b];rfl)
 refine nt<|?_
 have y:=aH f a
 refine cb (((decide (((8*j+t:Nat) : Int)<((l.length:Nat) : Int)))&&(decide (((8*j+t:Nat) : Int)<(((8*j:Nat) : Int)+8))))) (fun d=>?_) (fun d=>?_)
 have M:=(aS d).1
 have N:=(aS d).2
 have a3:=of_decide_eq_true M
 have a4:=of_decide_eq_true N
 refine bo<|sq<|bk<|sq<|sg<|Pl 2<|?_
 refine xj (gq.at_ (gq.old h y) (8*j+t) (by omega)) fun O P Q R=>L0<|jb l.length (8*j+t) Q (by omega)<|L0<|dU (p:=⟨O,P+(8*j+t),none⟩) (v:=.bool (l.getD (8*j+t) false)) R<|nt<|cb ((l.getD (8*j+t) false)) (fun o=>?_) (fun o=>?_)
 refine go<|Pl 2<|L0<|Oi (c+u)<|Pl 1<|nt<|go<|Pl 1<|L0<|Oi (2*u)<|Pl 1<|nl<|bn<|tn<|go<|?_
 exact Pl 1<|L0<|Oi (((8*j+t:Nat) : Int)+1)<|Pl 1<|nl<|ga ((t+1),(c+u),(2*u)) ⟨a,(by(try dsimp only);omega),(by(try dsimp only);rw[← Nat.add_assoc,iy (by omega),if_pos o];omega),(by(try dsimp only);rw[Nat.pow_succ];omega)⟩ (by omega)
 refine bo<|go<|Pl 1<|L0<|Oi (2*u)<|Pl 1<|nl<|bn<|tn<|go<|Pl 1<|L0<|Oi (((8*j+t:Nat) : Int)+1)<|Pl 1<|nl<|?_
 exact ga ((t+1),c,(2*u)) ⟨a,(by(try dsimp only);omega),(by(try dsimp only);rw[← Nat.add_assoc,iy (by omega),if_neg (by rw[o];decide)];omega),(by(try dsimp only);rw[Nat.pow_succ];omega)⟩ (by omega)
 refine xt<|tx<|tx<|bx<|tn<|go<|Pl 3<|L0<|dx (m:=1) (e:=5) #[.int .u8 (c%256)] fun a5 a6 S T q=>?_
 have U:=dF S (xs:=[(c%256)]) (by as_aux_lemma=>kernel_rfl) (az (by omega) aX) (by(try simp only[List.length_cons,List.length_nil]);omega) T
 refine L0<|cK bt (xs:=L) (ys:=([(c%256)])) (.int .u8 0) 1 (ax g (aH a q) (fun x hx=>ay) (fun _ _ h=>h)) (U).rd (by(try simp only[List.length_append,List.length_cons,List.length_nil,aB]);omega) (le (le f.size a.size) q.size) fun V W a7 X Y=>Pl 1<|nl<|bn<|tn<|go<|Pl 1<|L0<|Oi (((8*j:Nat) : Int)+8)<|Pl 1<|nl<|?_
 exact ga ((j+1),(L++[(c%256)]),V,W) ⟨(ut y (ut (aD.mono (S':=(ob B++[])) q aq) Y (av il aq)) (av (aT g lr) aq)),X,(by(try dsimp only);omega),(by(try dsimp only);rw[k,List.range_succ,List.map_append];show _++[_]=_++[_];rw[s3 I (by omega) (by have hq:=d;simp only[Bool.and_eq_false_iff,decide_eq_false_iff_not] at hq;omega)])⟩ (by omega)
 have E:=of_decide_eq_false n
 refine xt<|tx<|tx<|bx<|tn<|sg<|Pl 2<|nt<|rt<|rr (.slice B L.length cq)<|?_
 have hs:L=cF l:=by rw[k];exact pS (by omega) (by omega)
 exact⟨_,rfl,by rw[← hs];exact g,f⟩
theorem vZ{m:Md}{v:Value}{l:List Bool}{w:World}(h:gq m w v l)(hn:l.length≤1048576) : Calls Tryz.prog 216 #[v] w (s9 l w):=by
  obtain⟨A,c,rfl,_,_⟩:=h.shape
  exact vi h hn
theorem sP{P:Program}{w:World}{ev:Operand→Value}{o:Oper}{x y:Operand}{t t':TypeId}{a b:ByteArray}{v:Bool}(ho:o.op = .binOp .neq t x y t')(hx:ev x = .string a)(hy:ev y = .string b)(hv:(a.toList==b.toList)=v) : (execOp ev o).run P w = .ok (.value (.bool !v)) w:=by
  have hg:eqGuard .neq t x y (.string a) (.string b)=pure ():=rfl
  unfold execOp
  simp only[ho,hx,hy,hg,binOp_string_neq,Sem.run_bind,Sem.run_pure,Result.andThen,hv]
theorem wH{w0 w:World}{g:Nat}{cs:Array Value}{xs:List Bool}(hg:w0.heap.size≤g)(hcs:cs=(xs.map Value.bool).toArray)(hl:xs.length≤4194304)(hb:w.heap[g]? = some (.cells cs 4 (0,0))) :
    tT w0.heap.size w (.slice (some ⟨g,0,none⟩) xs.length xs.length) xs:=uJ (enc:=Value.bool) hg hcs (fun x h=>rfl) hl hb
theorem qn{x c:Int}{k:Nat}(h:c=x/2 ^ k) : c/2=x/2 ^ (k+1):=by
  rw[h,Int.ediv_ediv_of_nonneg (Int.le_of_lt (Int.pow_pos (by decide))),Int.pow_succ]
theorem sK{x c:Int}(hx:0≤x∧x<256){k:Nat}(h:c=x/2 ^ k) : 0≤c∧c<256:=by
  have h1:(1:Int)≤2 ^ k:=Int.pow_pos (by decide)
  subst h
  exact⟨Int.ediv_nonneg hx.1 (by omega),Int.lt_of_le_of_lt (Int.ediv_le_self _ hx.1) hx.2⟩
theorem qG{l:List Int}{i:Nat}(h:i<l.length) : l.getD i 0∈l:=by
  rw[List.getD_eq_getElem?_getD,List.getElem?_eq_getElem h]
  exact List.getElem_mem h
theorem rg{m:Md}{A:Option Addr}{cp:Nat}{b:List Int}{n:Int}{w:World}(h:b9 m w (.slice A b.length cp) b)(hl:b.length≤1048576)(hn : -1048576≤n∧n≤1048576) : Calls Tryz.prog 156 #[.slice A b.length cp,.int .i64 n] w (fu b n w):=by
 have hb:=b9.range h
 refine en 51 Tryz.func156 rfl<|sg<|Pl 2<|nt<|sq<|sg<|Pl 3<|cu 6 [12] 18 (((decide (n<0))||(decide ((8*((b.length:Nat) : Int))<n)))) (fun K H=>?_) ?_
 refine bl 12 ((decide (n<0))) (fun d=>?_) (fun d=>?_)
 have R:=of_decide_eq_true d
 exact Pl 6<|ce H true (by rw[d];rfl)
 have R:=of_decide_eq_false d
 exact Pl 3<|L1<|Oi (8*((b.length:Nat) : Int))<|Pl 2<|ce H (decide ((8*((b.length:Nat) : Int))<n)) (by rw[d];rfl)
 refine nt<|cb (((decide (n<0))||(decide ((8*((b.length:Nat) : Int))<n)))) (fun g=>?_) (fun g=>?_)
 refine sg<|Pl 2<|nt<|rt<|tr<|rr (.tuple #[.slice none 0 0,.bool false])<|?_
 have hq:=g
 have hs:ci b n=none:=by unfold ci;rw[if_neg];rintro⟨h1,h2⟩;simp only[Bool.or_eq_true,decide_eq_true_eq] at hq;rw[mi] at h2;split at h2<;>(try split at h2)<;>omega
 exact eO hs (aD.refl [] _)
 have S:=(aJ g).1
 have T:=(aJ g).2
 have ae:=of_decide_eq_false S
 have af:=of_decide_eq_false T
 refine bo<|sg<|Pl 1<|nt<|sq<|sg<|Pl 1<|nt<|bk<|?_
 refine i1 (fun x=>[(0,.slice A b.length cp),(1,.int .i64 n),(4,.slice none 0 0),(5,.bool false),(6,.slice x.2.2.1 x.2.1.length x.2.2.2),(7,.int .i64 ((x.1:Nat) : Int))]) (fun(x:Nat × List Bool × Option Addr × Nat) w'=>aD [] w w'∧tT w.heap.size w' (.slice x.2.2.1 x.2.1.length x.2.2.2) x.2.1∧(((x.1:Nat) : Int)≤n)∧(x.2.1=(List.range x.1).map (cw b))) (fun x=>n.toNat-x.1) (0,[],none,0) ⟨aD.refl _ _,(be.nil w.heap.size _ _ n7 _),(by(try dsimp only);omega),rfl⟩ ?_
 rintro⟨i,L,B,cq⟩ I ⟨j,U,V,W⟩
 refine iq [(0,.slice A b.length cp),(1,.int .i64 n),(4,.slice none 0 0),(5,.bool false),(6,.slice B L.length cq),(7,.int .i64 ((i:Nat) : Int))] ?_
 have r:tT w.heap.size I (.slice B L.length cq) L:=U
 have ag:((i:Nat) : Int)≤n:=V
 have o:L=(List.range i).map (cw b):=W
 have hLn:L.length=i:=by rw[o,List.length_map,List.length_range]
 have hi8:(((i:Nat) : Int)/8).toNat=i/8:=by omega
 refine sq<|sg<|Pl 3<|nt<|cb ((decide (((i:Nat) : Int)<n))) (fun s=>?_) (fun s=>?_)
 have X:=of_decide_eq_true s
 refine bo<|sq<|bk<|sg<|Pl 2<|L0<|Oe (.int .i64 (IntKind.i64.wrap (Int.tdiv ((i:Nat) : Int) 8))) (.int .i64 (((i:Nat) : Int)/8)) (congrArg (Value.int .i64) (fp (by omega) (by omega)))<|?_
 refine fy (b9.at_ (b9.old h j) (((((i:Nat) : Int)/8)).toNat) (by omega)) fun t u Y Z ah=>L0<|u4 b.length (((((i:Nat) : Int)/8)).toNat) (((i:Nat) : Int)/8) (by omega) Y (by omega)<|L0<|dU (p:=⟨t,u+(((((i:Nat) : Int)/8)).toNat),none⟩) (v:=.int .u8 (b.getD (((((i:Nat) : Int)/8)).toNat) 0)) Z<|L0<|Oi (b.getD (((((i:Nat) : Int)/8)).toNat) 0)<|Pl 1<|nt<|sq<|sg<|Pl 1<|nt<|bk<|?_
 refine i1 (fun x=>[(0,.slice A b.length cp),(1,.int .i64 n),(4,.slice none 0 0),(5,.bool false),(6,.slice B L.length cq),(7,.int .i64 ((i:Nat) : Int)),(8,.int .i64 x.2),(9,.int .i64 ((x.1:Nat) : Int)),(19,.int .i64 ((i:Nat) : Int)),(20,.int .i64 n),(21,.bool (decide (((i:Nat) : Int)<n))),(24,.slice A b.length cp),(25,.int .i64 ((i:Nat) : Int)),(26,.int .i64 (((i:Nat) : Int)/8)),(27,.pointer (some (⟨t,u+(((((i:Nat) : Int)/8)).toNat),none⟩))),(28,.int .u8 (b.getD (((((i:Nat) : Int)/8)).toNat) 0)),(29,.int .i64 (b.getD (((((i:Nat) : Int)/8)).toNat) 0))]) (fun(x:Nat × Int) w'=>aD [] I w'∧(x.1≤i%8)∧(x.2=b.getD (i/8) 0/2 ^ x.1)) (fun x=>8-x.1) (0,(b.getD (((((i:Nat) : Int)/8)).toNat) 0)) ⟨aD.refl _ _,(by(try dsimp only);omega),(by(try dsimp only);rw[hi8,Int.pow_zero,Int.ediv_one])⟩ ?_
 rintro⟨k,c⟩ ai ⟨q,a0,a1⟩
 refine iq [(0,.slice A b.length cp),(1,.int .i64 n),(4,.slice none 0 0),(5,.bool false),(6,.slice B L.length cq),(7,.int .i64 ((i:Nat) : Int)),(8,.int .i64 c),(9,.int .i64 ((k:Nat) : Int)),(19,.int .i64 ((i:Nat) : Int)),(20,.int .i64 n),(21,.bool (decide (((i:Nat) : Int)<n))),(24,.slice A b.length cp),(25,.int .i64 ((i:Nat) : Int)),(26,.int .i64 (((i:Nat) : Int)/8)),(27,.pointer (some (⟨t,u+(((((i:Nat) : Int)/8)).toNat),none⟩))),(28,.int .u8 (b.getD (((((i:Nat) : Int)/8)).toNat) 0)),(29,.int .i64 (b.getD (((((i:Nat) : Int)/8)).toNat) 0))] ?_
 have aj:k≤i%8:=a0
 have y:c=b.getD (i/8) 0/2 ^ k:=a1
 have hcr:=sK (hb _ (qG (l:=b) (i:=i/8) (by omega))) y
 refine sq<|sg<|Pl 2<|L0<|Oe (.int .i64 (Int.tmod ((i:Nat) : Int) 8)) (.int .i64 (((i:Nat) : Int)%8)) (congrArg (Value.int .i64) (Int.tmod_eq_emod_of_nonneg (by omega)))<|Pl 1<|nt<|?_
 refine cb ((decide (((k:Nat) : Int)<(((i:Nat) : Int)%8)))) (fun z=>?_) (fun z=>?_)
 have a2:=of_decide_eq_true z
 refine bo<|sq<|bk<|go<|Pl 1<|L0<|Oe (.int .i64 (IntKind.i64.wrap (Int.tdiv c 2))) (.int .i64 (c/2)) (congrArg (Value.int .i64) (fp (by omega) (by omega)))<|Pl 1<|nl<|bn<|tn<|go<|Pl 1<|L0<|Oi (((k:Nat) : Int)+1)<|?_
 exact Pl 1<|nl<|ga ((k+1),(c/2)) ⟨q,(by(try dsimp only);omega),qn y⟩ (by omega)
 have a2:=of_decide_eq_false z
 refine xt<|tx<|tx<|bx<|tn<|go<|Pl 2<|L0<|Oe (.int .i64 (Int.tmod c 2)) (.int .i64 (c%2)) (congrArg (Value.int .i64) (Int.tmod_eq_emod_of_nonneg (by omega)))<|Pl 1<|L0<|dx (m:=1) (e:=4) #[.bool ((c%2)==1)] fun ak al a3 a4 C=>?_
 have a5:=wH a3 (xs:=[((c%2)==1)]) (by as_aux_lemma=>kernel_rfl)  (by(try simp only[List.length_cons,List.length_nil]);omega) a4
 refine L0<|cK rP (xs:=L) (ys:=([((c%2)==1)])) (.bool false) 1 (ax r (aH q C) (fun x hx=>ay) (fun _ _ h=>h)) (a5).rd (by(try simp only[List.length_append,List.length_cons,List.length_nil,aB]);omega) (le (le j.size q.size) C.size) fun a6 a7 am a8 a9=>Pl 1<|nl<|bn<|tn<|go<|Pl 1<|L0<|Oi (((i:Nat) : Int)+1)<|Pl 1<|nl<|?_
 exact ga ((i+1),(L++[((c%2)==1)]),a6,a7) ⟨(ut (aH j q) (ut (aD.mono (S':=(ob B++[])) C aq) a9 (av il aq)) (av (aT r lr) aq)),a8,(by(try dsimp only);omega),(by(try dsimp only);rw[o,List.range_succ,List.map_append];show _++[_]=_++[cw b i];unfold cw;rw[y,show k=i%8 from by omega])⟩ (by omega)
 have X:=of_decide_eq_false s
 refine xt<|tx<|tx<|bx<|tn<|sq<|sq<|Rg 6 (fun w'=>b9 false w' (.slice A b.length cp) b) fun an J=>?_
 have M:=aH j J
 have D:=b9.old h M
 refine bh (aK.any D (fun _ _ h=>h)) fun E=>Rt 0 E<|Rt 3 E<|Rr 4 E (.string (strOfNums b)) (fun _ hs=>dQ (A:=A) (n:=b.length) (c:=cp) rfl (by kernel_rfl) Tryz.underlying22 Tryz.underlying5 Tryz.underlying9 hs)<|?_
 have N:=ax r J (fun x hx=>ay) (fun _ _ h=>h)
 refine R0 1 rfl<|Oc<|ep (vZ (N).rd (by omega)) fun aa ab ao O ap ar F=>?_
 have P:=b9.old D F
 refine bh (aK.any P (fun _ _ h=>h)) fun au=>R0 2 rfl<|hZ (.string (strOfNums (cF L))) (dQ (A:=aa) (n:=(cF L).length) (c:=ab) rfl (by kernel_rfl) Tryz.underlying22 Tryz.underlying5 Tryz.underlying9 (O).rd)<|bh (aK.any P (fun _ _ h=>h)) fun ac=>Rr 5 ac (.bool (!(decide ((cF L)=b)))) (fun _ _=>sP (a:=(strOfNums (cF L))) (b:=(strOfNums b)) rfl (by kernel_rfl) (by kernel_rfl) (o4 (O).rd D))<|re<|tn<|?_
 have Q:=aH M F
 refine cb ((!(decide ((cF L)=b)))) (fun f=>?_) (fun f=>?_)
 have G:(decide ((cF L)=b))=false:=by simpa using f
 have ad:=of_decide_eq_false G
 refine sg<|Pl 2<|nt<|rt<|tr<|rr (.tuple #[.slice none 0 0,.bool false])<|?_
 have hL:L=(List.range n.toNat).map (cw b):=by rw[o,show i=n.toNat from by omega]
 have hu:=ns (n:=n) hb (by omega)
 rw[if_neg (by rw[← hL];simpa using f)] at hu
 exact eO hu Q
 have G:(decide ((cF L)=b))=true:=by simpa using f
 have ad:=of_decide_eq_true G
 refine bo<|sg<|Pl 3<|nt<|rt<|rr (.tuple #[.slice B L.length cq,.bool true])<|?_
 have hL:L=(List.range n.toNat).map (cw b):=by rw[o,show i=n.toNat from by omega]
 have hu:=ns (n:=n) hb (by omega)
 rw[if_pos (by rw[← hL];simpa using f),← hL] at hu
 exact⟨_,by rw[hu];rfl,by rw[hu];exact(ax N F (fun x hx=>ay) (fun _ _ h=>h)),Q⟩
theorem tV{m:Md}{v:Value}{b:List Int}{n:Int}{w:World}(h:b9 m w v b)(hl:b.length≤1048576)(hn : -1048576≤n∧n≤1048576) : Calls Tryz.prog 156 #[v,.int .i64 n] w (fu b n w):=by
  obtain⟨A,c,rfl,_,_⟩:=h.shape
  exact rg h hl hn
end Go.Proofs.YtogbnemojakcpaaGreat
