/- Contracts of functions, part CAscWrites5. -/
import Derived.Test.YtogbnemojakcpaaGreatCAscWrites1
import Derived.Test.YtogbnemojakcpaaGreatCAscWrites2
import Derived.Test.YtogbnemojakcpaaGreatCAscWrites3
import Derived.Test.YtogbnemojakcpaaGreatCAscWrites4
set_option linter.unusedVariables false
set_option linter.unusedSimpArgs false
set_option maxRecDepth 100000
set_option maxHeartbeats 4000000
namespace Go.Proofs.YtogbnemojakcpaaGreat
open Go.RowKit
theorem rV{α:Type}{xs ys:List α}{d:α}{k:Nat}(h:xs.take k=ys.take k)(hk:k<xs.length)(hl:xs.length=ys.length)(he:xs.getD k d=ys.getD k d) : xs.take (k+1)=ys.take (k+1):=by
  have hk2:k<ys.length:=by omega
  rw[List.take_succ_eq_append_getElem hk,List.take_succ_eq_append_getElem hk2,h]
  rw[List.getD_eq_getElem?_getD,List.getElem?_eq_getElem hk,List.getD_eq_getElem?_getD,List.getElem?_eq_getElem (by omega)] at he
  simp only[Option.getD_some] at he
  rw[he]
theorem yZ{a b:dj}(h:((((!(decide (a.words=b.words)))||(a.file != b.file))||(a.record != b.record))||(a.count != b.count))=false) : a=b:=by
  cases a
  cases b
  simp at h
  simp[h]
theorem yP{a b:Obj}(h:((!(decide (a.value=b.value)))||(a.id != b.id))=false) : a=b:=by
  cases a
  cases b
  simp at h
  simp[h]
theorem xI{a b:Obj}(h:(!(decide (a.value=b.value)))=false)(h2:(a.id != b.id)=false) : a=b:=yP (by rw[h,h2];rfl)
theorem n0{A B:aP}{f:aP→aP→Bool}(h:f A B=true)(hf:∀ M,f M M=false) : decide (A=B)=false:=decide_eq_false fun e=>by rw[e,hf] at h;cases h
theorem xp{A B:aP}(h1:((((((((((((A.code != B.code)||(A.fail != B.fail))||(A.addr != B.addr))||(A.count != B.count))||(A.value != B.value))||(A.and_ != B.and_))||(A.or_ != B.or_))||(A.addr2 != B.addr2))||(A.sub != B.sub))||(A.status != B.status))||(A.events != B.events))||(A.messages != B.messages))=false)(h2:(((((A.mei != B.mei)||(A.kind != B.kind))||(A.level != B.level))||(A.more != B.more))||(A.next != B.next))=false)(h3:(((((!(decide (A.words=B.words)))||(!(decide (A.bits=B.bits))))||(!(decide (A.data=B.data))))||(((A.recs.length:Nat) : Int)!=((B.recs.length:Nat) : Int)))||(((A.objects.length:Nat) : Int)!=((B.objects.length:Nat) : Int)))=false)(hr:A.recs.length=B.recs.length→A.recs=B.recs)(ho:A.objects.length=B.objects.length→A.objects=B.objects) : A=B:=by
  cases A
  cases B
  simp only[Bool.or_eq_false_iff,bne_eq_false_iff_eq,Bool.not_eq_false',decide_eq_true_eq] at h1 h2 h3
  simp only at hr ho
  obtain⟨⟨⟨⟨⟨⟨⟨⟨⟨⟨⟨a1,a2⟩,a3⟩,a4⟩,a5⟩,a6⟩,a7⟩,a8⟩,a9⟩,a⟩,b⟩,c⟩:=h1
  obtain⟨⟨⟨⟨b1,b2⟩,b3⟩,b4⟩,b5⟩:=h2
  obtain⟨⟨⟨⟨d1,d2⟩,d3⟩,d4⟩,d5⟩:=h3
  have d4:=hr (by omega)
  have d5:=ho (by omega)
  subst a1 a2 a3 a4 a5 a6 a7 a8 a9 a b c b1 b2 b3 b4 b5 d1 d2 d3 d4 d5
  rfl
theorem dn{m m':Md}{pc qc:Array Value}{A B:aP}{w:World}(ha:aH m w pc.toList A)(hb:aH m' w qc.toList B) :
    Calls Tryz.prog 26 #[.agg pc,.agg qc] w (cG (.bool (decide (A=B))) w):=by
 have pM:=ha
 obtain⟨pvw,pvb,pvd,pvr,pvo,ph0,phw,phb,phd,phr,pho,pR⟩:=ha
 obtain rfl:pc=(bu A pvw pvb pvd pvr pvo).toArray:=by apply Array.toList_inj.1;simpa using ph0
 clear ph0
 obtain⟨pw,pkw,rfl,_,_⟩:=phw.shape
 obtain⟨pb,pkb,rfl,_,_⟩:=phb.shape
 obtain⟨pd,pkd,rfl,_,_⟩:=phd.shape
 obtain⟨pr,pkr,rfl,_,_⟩:=phr.shape
 obtain⟨po,pko,rfl,_,_⟩:=pho.shape
 have qM:=hb
 obtain⟨qvw,qvb,qvd,qvr,qvo,qh0,qhw,qhb,qhd,qhr,qho,qR⟩:=hb
 obtain rfl:qc=(bu B qvw qvb qvd qvr qvo).toArray:=by apply Array.toList_inj.1;simpa using qh0
 clear qh0
 obtain⟨qw,qkw,rfl,_,_⟩:=qhw.shape
 obtain⟨qb,qkb,rfl,_,_⟩:=qhb.shape
 obtain⟨qd,qkd,rfl,_,_⟩:=qhd.shape
 obtain⟨qr,qkr,rfl,_,_⟩:=qhr.shape
 obtain⟨qo,qko,rfl,_,_⟩:=qho.shape
 have hz1:=aL.len phr
 have hz2:=aL.len pho
 refine en 254 Tryz.func26 rfl<|sg<|L0<|dv (mG A.code A.fail A.addr A.count A.value A.and_ A.or_ A.addr2 A.sub A.status A.events A.messages (.slice pw A.words.length pkw) (.slice pb A.bits.length pkb) (.slice pd A.data.length pkd) (.slice pr A.recs.length pkr) A.mei A.kind A.level A.more A.next (.slice po A.objects.length pko)) fun i dK dL cf cg=>L0<|dv (mG B.code B.fail B.addr B.count B.value B.and_ B.or_ B.addr2 B.sub B.status B.events B.messages (.slice qw B.words.length qkw) (.slice qb B.bits.length qkb) (.slice qd B.data.length qkd) (.slice qr B.recs.length qkr) B.mei B.kind B.level B.more B.next (.slice qo B.objects.length qko)) fun l dM dN b az=>Pl 1<|nt<|sq<|sg<|Pl 1<|?_
 have c:=ub az cf
 refine L0<|aO c 0<|Pl 1<|L0<|aO b 0<|Pl 2<|cu 6 [19] 25 (((A.code != B.code)||(A.fail != B.fail))) (fun K aA=>?_) ?_
 refine bl 19 ((A.code != B.code)) (fun q=>?_) (fun q=>?_)
 have ch:=ax q
 exact Pl 6<|ce aA true (by rw[q];rfl)
 have ch:=ag q
 exact Pl 1<|L1<|aO c 1<|Pl 1<|L1<|aO b 1<|Pl 2<|ce aA (A.fail != B.fail) (by rw[q];rfl)
 refine Pl 1<|cu 6 [26] 32 ((((A.code != B.code)||(A.fail != B.fail))||(A.addr != B.addr))) (fun K aB=>?_) ?_
 refine bl 26 (((A.code != B.code)||(A.fail != B.fail))) (fun r=>?_) (fun r=>?_)
 exact Pl 6<|ce aB true (by rw[r];rfl)
 have ci:=(aE r).1
 have cj:=(aE r).2
 have dO:=ag ci
 have dP:=ag cj
 exact Pl 1<|L1<|aO c 2<|Pl 1<|L1<|aO b 2<|Pl 2<|ce aB (A.addr != B.addr) (by rw[r];rfl)
 refine Pl 1<|cu 6 [33] 39 (((((A.code != B.code)||(A.fail != B.fail))||(A.addr != B.addr))||(A.count != B.count))) (fun K aF=>?_) ?_
 refine bl 33 ((((A.code != B.code)||(A.fail != B.fail))||(A.addr != B.addr))) (fun s=>?_) (fun s=>?_)
 exact Pl 6<|ce aF true (by rw[s];rfl)
 have aG:=(aE s).1
 have ck:=(aE s).2
 have cl:=(aE aG).1
 have cm:=(aE aG).2
 have q25aap:=ag cl
 have q25abp:=ag cm
 have dQ:=ag ck
 exact Pl 1<|L1<|aO c 3<|Pl 1<|L1<|aO b 3<|Pl 2<|ce aF (A.count != B.count) (by rw[s];rfl)
 refine Pl 1<|cu 6 [40] 46 ((((((A.code != B.code)||(A.fail != B.fail))||(A.addr != B.addr))||(A.count != B.count))||(A.value != B.value))) (fun K aI=>?_) ?_
 refine bl 40 (((((A.code != B.code)||(A.fail != B.fail))||(A.addr != B.addr))||(A.count != B.count))) (fun t=>?_) (fun t=>?_)
 exact Pl 6<|ce aI true (by rw[t];rfl)
 have aJ:=(aE t).1
 have cn:=(aE t).2
 have aK:=(aE aJ).1
 have co:=(aE aJ).2
 have q27aaa:=(aE aK).1
 have q27aab:=(aE aK).2
 have q27aaap:=ag q27aaa
 have q27aabp:=ag q27aab
 have q27abp:=ag co
 have dR:=ag cn
 exact Pl 1<|L1<|aO c 4<|Pl 1<|L1<|aO b 4<|Pl 2<|ce aI (A.value != B.value) (by rw[t];rfl)
 refine Pl 1<|cu 6 [47] 53 (((((((A.code != B.code)||(A.fail != B.fail))||(A.addr != B.addr))||(A.count != B.count))||(A.value != B.value))||(A.and_ != B.and_))) (fun K aM=>?_) ?_
 refine bl 47 ((((((A.code != B.code)||(A.fail != B.fail))||(A.addr != B.addr))||(A.count != B.count))||(A.value != B.value))) (fun u=>?_) (fun u=>?_)
 exact Pl 6<|ce aM true (by rw[u];rfl)
 have aN:=(aE u).1
 have cp:=(aE u).2
 have aQ:=(aE aN).1
 have cq:=(aE aN).2
 have q29aaa:=(aE aQ).1
 have q29aab:=(aE aQ).2
 have q29aaaa:=(aE q29aaa).1
 have q29aaab:=(aE q29aaa).2
 have q29aaaap:=ag q29aaaa
 have q29aaabp:=ag q29aaab
 have q29aabp:=ag q29aab
 have q29abp:=ag cq
 have dS:=ag cp
 exact Pl 1<|L1<|aO c 5<|Pl 1<|L1<|aO b 5<|Pl 2<|ce aM (A.and_ != B.and_) (by rw[u];rfl)
 refine Pl 1<|cu 6 [54] 60 ((((((((A.code != B.code)||(A.fail != B.fail))||(A.addr != B.addr))||(A.count != B.count))||(A.value != B.value))||(A.and_ != B.and_))||(A.or_ != B.or_))) (fun K aR=>?_) ?_
 refine bl 54 (((((((A.code != B.code)||(A.fail != B.fail))||(A.addr != B.addr))||(A.count != B.count))||(A.value != B.value))||(A.and_ != B.and_))) (fun v=>?_) (fun v=>?_)
 exact Pl 6<|ce aR true (by rw[v];rfl)
 have aS:=(aE v).1
 have cr:=(aE v).2
 have aT:=(aE aS).1
 have cs:=(aE aS).2
 have q31aaa:=(aE aT).1
 have q31aab:=(aE aT).2
 have q31aaaa:=(aE q31aaa).1
 have q31aaab:=(aE q31aaa).2
 have q31aaaaa:=(aE q31aaaa).1
 have q31aaaab:=(aE q31aaaa).2
 have q31aaaaap:=ag q31aaaaa
 have q31aaaabp:=ag q31aaaab
 have q31aaabp:=ag q31aaab
 have q31aabp:=ag q31aab
 have q31abp:=ag cs
 have dT:=ag cr
 exact Pl 1<|L1<|aO c 6<|Pl 1<|L1<|aO b 6<|Pl 2<|ce aR (A.or_ != B.or_) (by rw[v];rfl)
 refine Pl 1<|cu 6 [61] 67 (((((((((A.code != B.code)||(A.fail != B.fail))||(A.addr != B.addr))||(A.count != B.count))||(A.value != B.value))||(A.and_ != B.and_))||(A.or_ != B.or_))||(A.addr2 != B.addr2))) (fun K aU=>?_) ?_
 refine bl 61 ((((((((A.code != B.code)||(A.fail != B.fail))||(A.addr != B.addr))||(A.count != B.count))||(A.value != B.value))||(A.and_ != B.and_))||(A.or_ != B.or_))) (fun z=>?_) (fun z=>?_)
 exact Pl 6<|ce aU true (by rw[z];rfl)
 have aV:=(aE z).1
 have ct:=(aE z).2
 have aW:=(aE aV).1
 have cv:=(aE aV).2
 have q33aaa:=(aE aW).1
 have q33aab:=(aE aW).2
 have q33aaaa:=(aE q33aaa).1
 have q33aaab:=(aE q33aaa).2
 have q33aaaaa:=(aE q33aaaa).1
 have q33aaaab:=(aE q33aaaa).2
 have q33aaaaaa:=(aE q33aaaaa).1
 have q33aaaaab:=(aE q33aaaaa).2
 have q33aaaaaap:=ag q33aaaaaa
 have q33aaaaabp:=ag q33aaaaab
 have q33aaaabp:=ag q33aaaab
 have q33aaabp:=ag q33aaab
 have q33aabp:=ag q33aab
 have q33abp:=ag cv
 have dV:=ag ct
 exact Pl 1<|L1<|aO c 7<|Pl 1<|L1<|aO b 7<|Pl 2<|ce aU (A.addr2 != B.addr2) (by rw[z];rfl)
 refine Pl 1<|cu 6 [68] 74 ((((((((((A.code != B.code)||(A.fail != B.fail))||(A.addr != B.addr))||(A.count != B.count))||(A.value != B.value))||(A.and_ != B.and_))||(A.or_ != B.or_))||(A.addr2 != B.addr2))||(A.sub != B.sub))) (fun K aX=>?_) ?_
 refine bl 68 (((((((((A.code != B.code)||(A.fail != B.fail))||(A.addr != B.addr))||(A.count != B.count))||(A.value != B.value))||(A.and_ != B.and_))||(A.or_ != B.or_))||(A.addr2 != B.addr2))) (fun C=>?_) (fun C=>?_)
 exact Pl 6<|ce aX true (by rw[C];rfl)
 have aY:=(aE C).1
 have cw:=(aE C).2
 have aZ:=(aE aY).1
 have cx:=(aE aY).2
 have q35aaa:=(aE aZ).1
 have q35aab:=(aE aZ).2
 have q35aaaa:=(aE q35aaa).1
 have q35aaab:=(aE q35aaa).2
 have q35aaaaa:=(aE q35aaaa).1
 have q35aaaab:=(aE q35aaaa).2
 have q35aaaaaa:=(aE q35aaaaa).1
 have q35aaaaab:=(aE q35aaaaa).2
 have q35aaaaaaa:=(aE q35aaaaaa).1
 have q35aaaaaab:=(aE q35aaaaaa).2
 have q35aaaaaaap:=ag q35aaaaaaa
 have q35aaaaaabp:=ag q35aaaaaab
 have q35aaaaabp:=ag q35aaaaab
 have q35aaaabp:=ag q35aaaab
 have q35aaabp:=ag q35aaab
 have q35aabp:=ag q35aab
 have q35abp:=ag cx
 have dW:=ag cw
 exact Pl 1<|L1<|aO c 8<|Pl 1<|L1<|aO b 8<|Pl 2<|ce aX (A.sub != B.sub) (by rw[C];rfl)
 refine Pl 1<|cu 6 [75] 81 (((((((((((A.code != B.code)||(A.fail != B.fail))||(A.addr != B.addr))||(A.count != B.count))||(A.value != B.value))||(A.and_ != B.and_))||(A.or_ != B.or_))||(A.addr2 != B.addr2))||(A.sub != B.sub))||(A.status != B.status))) (fun K b0=>?_) ?_
 refine bl 75 ((((((((((A.code != B.code)||(A.fail != B.fail))||(A.addr != B.addr))||(A.count != B.count))||(A.value != B.value))||(A.and_ != B.and_))||(A.or_ != B.or_))||(A.addr2 != B.addr2))||(A.sub != B.sub))) (fun D=>?_) (fun D=>?_)
 exact Pl 6<|ce b0 true (by rw[D];rfl)
 have b1:=(aE D).1
 have cy:=(aE D).2
 have b2:=(aE b1).1
 have cz:=(aE b1).2
 have q37aaa:=(aE b2).1
 have q37aab:=(aE b2).2
 have q37aaaa:=(aE q37aaa).1
 have q37aaab:=(aE q37aaa).2
 have q37aaaaa:=(aE q37aaaa).1
 have q37aaaab:=(aE q37aaaa).2
 have q37aaaaaa:=(aE q37aaaaa).1
 have q37aaaaab:=(aE q37aaaaa).2
 have q37aaaaaaa:=(aE q37aaaaaa).1
 have q37aaaaaab:=(aE q37aaaaaa).2
 have q37aaaaaaaa:=(aE q37aaaaaaa).1
 have q37aaaaaaab:=(aE q37aaaaaaa).2
 have q37aaaaaaaap:=ag q37aaaaaaaa
 have q37aaaaaaabp:=ag q37aaaaaaab
 have q37aaaaaabp:=ag q37aaaaaab
 have q37aaaaabp:=ag q37aaaaab
 have q37aaaabp:=ag q37aaaab
 have q37aaabp:=ag q37aaab
 have q37aabp:=ag q37aab
 have q37abp:=ag cz
 have dX:=ag cy
 exact Pl 1<|L1<|aO c 9<|Pl 1<|L1<|aO b 9<|Pl 2<|ce b0 (A.status != B.status) (by rw[D];rfl)
 refine Pl 1<|cu 6 [82] 88 ((((((((((((A.code != B.code)||(A.fail != B.fail))||(A.addr != B.addr))||(A.count != B.count))||(A.value != B.value))||(A.and_ != B.and_))||(A.or_ != B.or_))||(A.addr2 != B.addr2))||(A.sub != B.sub))||(A.status != B.status))||(A.events != B.events))) (fun K b3=>?_) ?_
 refine bl 82 (((((((((((A.code != B.code)||(A.fail != B.fail))||(A.addr != B.addr))||(A.count != B.count))||(A.value != B.value))||(A.and_ != B.and_))||(A.or_ != B.or_))||(A.addr2 != B.addr2))||(A.sub != B.sub))||(A.status != B.status))) (fun E=>?_) (fun E=>?_)
 exact Pl 6<|ce b3 true (by rw[E];rfl)
 have b4:=(aE E).1
 have cA:=(aE E).2
 have b5:=(aE b4).1
 have cB:=(aE b4).2
 have q39aaa:=(aE b5).1
 have q39aab:=(aE b5).2
 have q39aaaa:=(aE q39aaa).1
 have q39aaab:=(aE q39aaa).2
 have q39aaaaa:=(aE q39aaaa).1
 have q39aaaab:=(aE q39aaaa).2
 have q39aaaaaa:=(aE q39aaaaa).1
 have q39aaaaab:=(aE q39aaaaa).2
 have q39aaaaaaa:=(aE q39aaaaaa).1
 have q39aaaaaab:=(aE q39aaaaaa).2
 have q39aaaaaaaa:=(aE q39aaaaaaa).1
 have q39aaaaaaab:=(aE q39aaaaaaa).2
 have q39aaaaaaaaa:=(aE q39aaaaaaaa).1
 have q39aaaaaaaab:=(aE q39aaaaaaaa).2
 have q39aaaaaaaaap:=ag q39aaaaaaaaa
 have q39aaaaaaaabp:=ag q39aaaaaaaab
 have q39aaaaaaabp:=ag q39aaaaaaab
 have q39aaaaaabp:=ag q39aaaaaab
 have q39aaaaabp:=ag q39aaaaab
 have q39aaaabp:=ag q39aaaab
 have q39aaabp:=ag q39aaab
 have q39aabp:=ag q39aab
 have q39abp:=ag cB
 have dY:=ag cA
 exact Pl 1<|L1<|aO c 10<|Pl 1<|L1<|aO b 10<|Pl 2<|ce b3 (A.events != B.events) (by rw[E];rfl)
 refine Pl 1<|cu 6 [89] 95 (((((((((((((A.code != B.code)||(A.fail != B.fail))||(A.addr != B.addr))||(A.count != B.count))||(A.value != B.value))||(A.and_ != B.and_))||(A.or_ != B.or_))||(A.addr2 != B.addr2))||(A.sub != B.sub))||(A.status != B.status))||(A.events != B.events))||(A.messages != B.messages))) (fun K b6=>?_) ?_
 refine bl 89 ((((((((((((A.code != B.code)||(A.fail != B.fail))||(A.addr != B.addr))||(A.count != B.count))||(A.value != B.value))||(A.and_ != B.and_))||(A.or_ != B.or_))||(A.addr2 != B.addr2))||(A.sub != B.sub))||(A.status != B.status))||(A.events != B.events))) (fun F=>?_) (fun F=>?_)
 exact Pl 6<|ce b6 true (by rw[F];rfl)
 have b8:=(aE F).1
 have cC:=(aE F).2
 have ba:=(aE b8).1
 have cD:=(aE b8).2
 have q41aaa:=(aE ba).1
 have q41aab:=(aE ba).2
 have q41aaaa:=(aE q41aaa).1
 have q41aaab:=(aE q41aaa).2
 have q41aaaaa:=(aE q41aaaa).1
 have q41aaaab:=(aE q41aaaa).2
 have q41aaaaaa:=(aE q41aaaaa).1
 have q41aaaaab:=(aE q41aaaaa).2
 have q41aaaaaaa:=(aE q41aaaaaa).1
 have q41aaaaaab:=(aE q41aaaaaa).2
 have q41aaaaaaaa:=(aE q41aaaaaaa).1
 have q41aaaaaaab:=(aE q41aaaaaaa).2
 have q41aaaaaaaaa:=(aE q41aaaaaaaa).1
 have q41aaaaaaaab:=(aE q41aaaaaaaa).2
 have q41aaaaaaaaaa:=(aE q41aaaaaaaaa).1
 have q41aaaaaaaaab:=(aE q41aaaaaaaaa).2
 have q41aaaaaaaaaap:=ag q41aaaaaaaaaa
 have q41aaaaaaaaabp:=ag q41aaaaaaaaab
 have q41aaaaaaaabp:=ag q41aaaaaaaab
 have q41aaaaaaabp:=ag q41aaaaaaab
 have q41aaaaaabp:=ag q41aaaaaab
 have q41aaaaabp:=ag q41aaaaab
 have q41aaaabp:=ag q41aaaab
 have q41aaabp:=ag q41aaab
 have q41aabp:=ag q41aab
 have q41abp:=ag cD
 have dZ:=ag cC
 exact Pl 1<|L1<|aO c 11<|Pl 1<|L1<|aO b 11<|Pl 2<|ce b6 (A.messages != B.messages) (by rw[F];rfl)
 refine nt<|?_
 have G:=aD cg az
 refine cb (((((((((((((A.code != B.code)||(A.fail != B.fail))||(A.addr != B.addr))||(A.count != B.count))||(A.value != B.value))||(A.and_ != B.and_))||(A.or_ != B.or_))||(A.addr2 != B.addr2))||(A.sub != B.sub))||(A.status != B.status))||(A.events != B.events))||(A.messages != B.messages))) (fun H=>?_) (fun H=>?_)
 refine sg<|Pl 1<|nt<|rt<|tr<|rr (.bool false)<|?_
 have hs:decide (A=B)=false:=n0 (f:=fun x y=>((((((((((((x.code != y.code)||(x.fail != y.fail))||(x.addr != y.addr))||(x.count != y.count))||(x.value != y.value))||(x.and_ != y.and_))||(x.or_ != y.or_))||(x.addr2 != y.addr2))||(x.sub != y.sub))||(x.status != y.status))||(x.events != y.events))||(x.messages != y.messages))) H (fun M=>by simp)
 rw[hs]
 exact⟨rfl,G⟩
 have bb:=(aE H).1
 have cE:=(aE H).2
 have bc:=(aE bb).1
 have cF:=(aE bb).2
 have q44aaa:=(aE bc).1
 have q44aab:=(aE bc).2
 have q44aaaa:=(aE q44aaa).1
 have q44aaab:=(aE q44aaa).2
 have q44aaaaa:=(aE q44aaaa).1
 have q44aaaab:=(aE q44aaaa).2
 have q44aaaaaa:=(aE q44aaaaa).1
 have q44aaaaab:=(aE q44aaaaa).2
 have q44aaaaaaa:=(aE q44aaaaaa).1
 have q44aaaaaab:=(aE q44aaaaaa).2
 have q44aaaaaaaa:=(aE q44aaaaaaa).1
 have q44aaaaaaab:=(aE q44aaaaaaa).2
 have q44aaaaaaaaa:=(aE q44aaaaaaaa).1
 have q44aaaaaaaab:=(aE q44aaaaaaaa).2
 have q44aaaaaaaaaa:=(aE q44aaaaaaaaa).1
 have q44aaaaaaaaab:=(aE q44aaaaaaaaa).2
 have q44aaaaaaaaaaa:=(aE q44aaaaaaaaaa).1
 have q44aaaaaaaaaab:=(aE q44aaaaaaaaaa).2
 have q44aaaaaaaaaaap:=ag q44aaaaaaaaaaa
 have q44aaaaaaaaaabp:=ag q44aaaaaaaaaab
 have q44aaaaaaaaabp:=ag q44aaaaaaaaab
 have q44aaaaaaaabp:=ag q44aaaaaaaab
 have q44aaaaaaabp:=ag q44aaaaaaab
 have q44aaaaaabp:=ag q44aaaaaab
 have q44aaaaabp:=ag q44aaaaab
 have q44aaaabp:=ag q44aaaab
 have q44aaabp:=ag q44aaab
 have q44aabp:=ag q44aab
 have q44abp:=ag cF
 have e0:=ag cE
 refine bf<|sq<|sg<|Pl 1<|L0<|aO c 16<|Pl 1<|L0<|aO b 16<|Pl 2<|cu 6 [101] 107 (((A.mei != B.mei)||(A.kind != B.kind))) (fun K bd=>?_) ?_
 refine bl 101 ((A.mei != B.mei)) (fun I=>?_) (fun I=>?_)
 have cH:=ax I
 exact Pl 6<|ce bd true (by rw[I];rfl)
 have cH:=ag I
 exact Pl 1<|L1<|aO c 17<|Pl 1<|L1<|aO b 17<|Pl 2<|ce bd (A.kind != B.kind) (by rw[I];rfl)
 refine Pl 1<|cu 6 [108] 114 ((((A.mei != B.mei)||(A.kind != B.kind))||(A.level != B.level))) (fun K be=>?_) ?_
 refine bl 108 (((A.mei != B.mei)||(A.kind != B.kind))) (fun J=>?_) (fun J=>?_)
 exact Pl 6<|ce be true (by rw[J];rfl)
 have cI:=(aE J).1
 have cJ:=(aE J).2
 have e1:=ag cI
 have e2:=ag cJ
 exact Pl 1<|L1<|aO c 18<|Pl 1<|L1<|aO b 18<|Pl 2<|ce be (A.level != B.level) (by rw[J];rfl)
 refine Pl 1<|cu 6 [115] 121 (((((A.mei != B.mei)||(A.kind != B.kind))||(A.level != B.level))||(A.more != B.more))) (fun K bg=>?_) ?_
 refine bl 115 ((((A.mei != B.mei)||(A.kind != B.kind))||(A.level != B.level))) (fun L=>?_) (fun L=>?_)
 exact Pl 6<|ce bg true (by rw[L];rfl)
 have bh:=(aE L).1
 have cK:=(aE L).2
 have cL:=(aE bh).1
 have cM:=(aE bh).2
 have q49aap:=ag cL
 have q49abp:=ag cM
 have e3:=ag cK
 exact Pl 1<|L1<|aO c 19<|Pl 1<|L1<|aO b 19<|Pl 2<|ce bg (A.more != B.more) (by rw[L];rfl)
 refine Pl 1<|cu 6 [122] 128 ((((((A.mei != B.mei)||(A.kind != B.kind))||(A.level != B.level))||(A.more != B.more))||(A.next != B.next))) (fun K bj=>?_) ?_
 refine bl 122 (((((A.mei != B.mei)||(A.kind != B.kind))||(A.level != B.level))||(A.more != B.more))) (fun N=>?_) (fun N=>?_)
 exact Pl 6<|ce bj true (by rw[N];rfl)
 have bm:=(aE N).1
 have cN:=(aE N).2
 have bo:=(aE bm).1
 have cO:=(aE bm).2
 have q51aaa:=(aE bo).1
 have q51aab:=(aE bo).2
 have q51aaap:=ag q51aaa
 have q51aabp:=ag q51aab
 have q51abp:=ag cO
 have e4:=ag cN
 exact Pl 1<|L1<|aO c 20<|Pl 1<|L1<|aO b 20<|Pl 2<|ce bj (A.next != B.next) (by rw[N];rfl)
 refine nt<|cb ((((((A.mei != B.mei)||(A.kind != B.kind))||(A.level != B.level))||(A.more != B.more))||(A.next != B.next))) (fun O=>?_) (fun O=>?_)
 refine sg<|Pl 1<|nt<|rt<|tr<|rr (.bool false)<|?_
 have hs:decide (A=B)=false:=n0 (f:=fun x y=>(((((x.mei != y.mei)||(x.kind != y.kind))||(x.level != y.level))||(x.more != y.more))||(x.next != y.next))) O (fun M=>by simp)
 rw[hs]
 exact⟨rfl,G⟩
 have bp:=(aE O).1
 have cP:=(aE O).2
 have bq:=(aE bp).1
 have cQ:=(aE bp).2
 have q53aaa:=(aE bq).1
 have q53aab:=(aE bq).2
 have q53aaaa:=(aE q53aaa).1
 have q53aaab:=(aE q53aaa).2
 have q53aaaap:=ag q53aaaa
 have q53aaabp:=ag q53aaab
 have q53aabp:=ag q53aab
 have q53abp:=ag cQ
 have e5:=ag cP
 refine bf<|sg<|Pl 1<|L0<|aO c 12<|Pl 1<|L0<|aO b 12<|?_
 refine L0<|Oc<|m1 (jC (dU.old phw G) (dU.old qhw G)) fun e6 aa=>Pl 1<|ng<|Pl 1<|?_
 have bs:=ub aa c
 refine L0<|aO bs 13<|Pl 1<|?_
 have bt:=ub aa b
 refine L0<|aO bt 13<|?_
 have ab:=aD G aa
 refine L0<|Oc<|m1 (nV (ii.old phb ab) (ii.old qhb ab)) fun e7 ac=>Pl 1<|ng<|Pl 1<|?_
 have a2:=ub ac bs
 refine L0<|aO a2 14<|Pl 1<|?_
 have P:=ub ac bt
 refine L0<|aO P 14<|?_
 have ad:=aD ab ac
 refine L0<|Oc<|m1 (iA (b9.old phd ad) (b9.old qhd ad)) fun cR n=>Pl 1<|nt<|sq<|sg<|Pl 3<|cu 3 [146] 149 (((!(decide (A.words=B.words)))||(!(decide (A.bits=B.bits))))) (fun K bv=>?_) ?_
 refine bl 146 ((!(decide (A.words=B.words)))) (fun Q=>?_) (fun Q=>?_)
 have af:(decide (A.words=B.words))=false:=by simpa using Q
 have cS:=of_decide_eq_false af
 exact Pl 3<|ce bv true (by rw[Q];rfl)
 have af:(decide (A.words=B.words))=true:=by simpa using Q
 have cS:=of_decide_eq_true af
 exact Pl 3<|ce bv (!(decide (A.bits=B.bits))) (by rw[Q];rfl)
 refine Pl 1<|cu 3 [150] 153 ((((!(decide (A.words=B.words)))||(!(decide (A.bits=B.bits))))||(!(decide (A.data=B.data))))) (fun K bw=>?_) ?_
 refine bl 150 (((!(decide (A.words=B.words)))||(!(decide (A.bits=B.bits))))) (fun R=>?_) (fun R=>?_)
 exact Pl 3<|ce bw true (by rw[R];rfl)
 have cT:=(aE R).1
 have cU:=(aE R).2
 have cV:(decide (A.words=B.words))=true:=by simpa using cT
 have q74anp:=of_decide_eq_true cV
 have cW:(decide (A.bits=B.bits))=true:=by simpa using cU
 have q74bnp:=of_decide_eq_true cW
 exact Pl 3<|ce bw (!(decide (A.data=B.data))) (by rw[R];rfl)
 refine Pl 1<|cu 8 [154] 162 (((((!(decide (A.words=B.words)))||(!(decide (A.bits=B.bits))))||(!(decide (A.data=B.data))))||(((A.recs.length:Nat) : Int)!=((B.recs.length:Nat) : Int)))) (fun K bz=>?_) ?_
 refine bl 154 ((((!(decide (A.words=B.words)))||(!(decide (A.bits=B.bits))))||(!(decide (A.data=B.data))))) (fun S=>?_) (fun S=>?_)
 exact Pl 8<|ce bz true (by rw[S];rfl)
 have bA:=(aE S).1
 have cX:=(aE S).2
 have cY:=(aE bA).1
 have cZ:=(aE bA).2
 have q76aan:(decide (A.words=B.words))=true:=by simpa using cY
 have q76aanp:=of_decide_eq_true q76aan
 have q76abn:(decide (A.bits=B.bits))=true:=by simpa using cZ
 have q76abnp:=of_decide_eq_true q76abn
 have d0:(decide (A.data=B.data))=true:=by simpa using cX
 have q76bnp:=of_decide_eq_true d0
 refine Pl 1<|?_
 refine L1<|aO (ub n a2) 15<|Pl 2<|?_
 exact L1<|aO (ub n P) 15<|Pl 3<|ce bz (((A.recs.length:Nat) : Int)!=((B.recs.length:Nat) : Int)) (by rw[S];rfl)
 refine Pl 1<|cu 8 [163] 171 ((((((!(decide (A.words=B.words)))||(!(decide (A.bits=B.bits))))||(!(decide (A.data=B.data))))||(((A.recs.length:Nat) : Int)!=((B.recs.length:Nat) : Int)))||(((A.objects.length:Nat) : Int)!=((B.objects.length:Nat) : Int)))) (fun K bB=>?_) ?_
 refine bl 163 (((((!(decide (A.words=B.words)))||(!(decide (A.bits=B.bits))))||(!(decide (A.data=B.data))))||(((A.recs.length:Nat) : Int)!=((B.recs.length:Nat) : Int)))) (fun T=>?_) (fun T=>?_)
 exact Pl 8<|ce bB true (by rw[T];rfl)
 have bC:=(aE T).1
 have d1:=(aE T).2
 have bD:=(aE bC).1
 have d2:=(aE bC).2
 have q80aaa:=(aE bD).1
 have q80aab:=(aE bD).2
 have q80aaan:(decide (A.words=B.words))=true:=by simpa using q80aaa
 have q80aaanp:=of_decide_eq_true q80aaan
 have q80aabn:(decide (A.bits=B.bits))=true:=by simpa using q80aab
 have q80aabnp:=of_decide_eq_true q80aabn
 have q80abn:(decide (A.data=B.data))=true:=by simpa using d2
 have q80abnp:=of_decide_eq_true q80abn
 have e8:=ag d1
 refine Pl 1<|?_
 refine L1<|aO (ub n a2) 21<|Pl 2<|?_
 exact L1<|aO (ub n P) 21<|Pl 3<|ce bB (((A.objects.length:Nat) : Int)!=((B.objects.length:Nat) : Int)) (by rw[T];rfl)
 refine nt<|?_
 have bE:=aD ad n
 refine cb ((((((!(decide (A.words=B.words)))||(!(decide (A.bits=B.bits))))||(!(decide (A.data=B.data))))||(((A.recs.length:Nat) : Int)!=((B.recs.length:Nat) : Int)))||(((A.objects.length:Nat) : Int)!=((B.objects.length:Nat) : Int)))) (fun U=>?_) (fun U=>?_)
 refine sg<|Pl 1<|nt<|rt<|tr<|rr (.bool false)<|?_
 have hs:decide (A=B)=false:=n0 (f:=fun x y=>(((((!(decide (x.words=y.words)))||(!(decide (x.bits=y.bits))))||(!(decide (x.data=y.data))))||(((x.recs.length:Nat) : Int)!=((y.recs.length:Nat) : Int)))||(((x.objects.length:Nat) : Int)!=((y.objects.length:Nat) : Int)))) U (fun M=>by simp)
 rw[hs]
 exact⟨rfl,bE⟩
 have bF:=(aE U).1
 have d3:=(aE U).2
 have bG:=(aE bF).1
 have d4:=(aE bF).2
 have q85aaa:=(aE bG).1
 have q85aab:=(aE bG).2
 have q85aaaa:=(aE q85aaa).1
 have q85aaab:=(aE q85aaa).2
 have q85aaaan:(decide (A.words=B.words))=true:=by simpa using q85aaaa
 have q85aaaanp:=of_decide_eq_true q85aaaan
 have q85aaabn:(decide (A.bits=B.bits))=true:=by simpa using q85aaab
 have q85aaabnp:=of_decide_eq_true q85aaabn
 have q85aabn:(decide (A.data=B.data))=true:=by simpa using q85aab
 have q85aabnp:=of_decide_eq_true q85aabn
 have q85abp:=ag d4
 have e9:=ag d3
 refine bf<|sq<|sg<|Pl 1<|nt<|bk<|?_
 refine iN (fun x=>[(2,.pointer (some ⟨i,0,none⟩)),(3,.pointer (some ⟨l,0,none⟩)),(8,.int .i64 ((x:Nat) : Int))]) (fun(x:Nat) w'=>aC [] cR w'∧(A.recs.take x=B.recs.take x)∧(x≤A.recs.length)) (fun x=>A.recs.length-x) 0 ⟨aC.refl _ _,(by(try dsimp only);simp),(by(try dsimp only);omega)⟩ ?_
 rintro j d5 ⟨a3,d6,d7⟩
 refine iy [(2,.pointer (some ⟨i,0,none⟩)),(3,.pointer (some ⟨l,0,none⟩)),(8,.int .i64 ((j:Nat) : Int))] ?_
 have bI:A.recs.take j=B.recs.take j:=d6
 have ea:j≤A.recs.length:=d7
 refine sq<|sg<|Pl 2<|?_
 have a4:=aD n a3
 have ah:=ub a4 a2
 refine L0<|aO ah 15<|Pl 2<|nt<|?_
 have a5:=aD bE a3
 refine cb ((decide (((j:Nat) : Int)<((A.recs.length:Nat) : Int)))) (fun ai=>?_) (fun ai=>?_)
 have d8:=of_decide_eq_true ai
 refine bf<|sq<|bk<|sg<|Pl 1<|L0<|aO ah 15<|Pl 1<|kR (ma.elt phr j (by omega)) fun eb ec ed ee ef bJ bK d9 da db eg dc=>L0<|pm 4 A.recs.length j d9 (by omega)<|?_
 refine L0<|zG [.int .u16 ((A.recs.getD j ⟨0,0,0,[]⟩).file),.int .u16 ((A.recs.getD j ⟨0,0,0,[]⟩).record),.int .u16 ((A.recs.getD j ⟨0,0,0,[]⟩).count),.slice bJ ((A.recs.getD j ⟨0,0,0,[]⟩).words.length) bK] (ub a5 da) dc<|L0<|bH #[.int .u16 0,.int .u16 0,.int .u16 0,.slice none 0 0] fun eh ei aj dd ak=>L0<|b7 dd #[.int .u16 ((A.recs.getD j ⟨0,0,0,[]⟩).file),.int .u16 ((A.recs.getD j ⟨0,0,0,[]⟩).record),.int .u16 ((A.recs.getD j ⟨0,0,0,[]⟩).count),.slice bJ ((A.recs.getD j ⟨0,0,0,[]⟩).words.length) bK] fun ej de al=>ng<|Pl 1<|?_
 refine L0<|aO (ub (u1 (aD a4 ak) al (ni a4.size aj)) P) 15<|Pl 1<|kR (ma.elt qhr j (by omega)) fun ek el em eo ep bL bM df dg dh eq di=>L0<|pm 4 B.recs.length j df (by omega)<|?_
 have am:=u1 (aD a5 ak) al (ni a5.size aj)
 refine L0<|zG [.int .u16 ((B.recs.getD j ⟨0,0,0,[]⟩).file),.int .u16 ((B.recs.getD j ⟨0,0,0,[]⟩).record),.int .u16 ((B.recs.getD j ⟨0,0,0,[]⟩).count),.slice bL ((B.recs.getD j ⟨0,0,0,[]⟩).words.length) bM] (ub am dg) di<|L0<|bH #[.int .u16 0,.int .u16 0,.int .u16 0,.slice none 0 0] fun er es an dj ao=>L0<|b7 dj #[.int .u16 ((B.recs.getD j ⟨0,0,0,[]⟩).file),.int .u16 ((B.recs.getD j ⟨0,0,0,[]⟩).record),.int .u16 ((B.recs.getD j ⟨0,0,0,[]⟩).count),.slice bL ((B.recs.getD j ⟨0,0,0,[]⟩).words.length) bM] fun et a6 ap=>ng<|Pl 1<|?_
 have a7:=ub (u1 ao ap (nr an)) de
 refine L0<|aO a7 3<|Pl 1<|L0<|aO a6 3<|?_
 have aq:=u1 (aD am ao) ap (ni am.size an)
 refine L0<|Oc<|m1 (jC (dU.old db aq) (dU.old dh aq)) fun eu h=>Pl 1<|ng<|Pl 3<|cu 6 [196] 202 (((!(decide ((A.recs.getD j ⟨0,0,0,[]⟩).words=(B.recs.getD j ⟨0,0,0,[]⟩).words)))||(((A.recs.getD j ⟨0,0,0,[]⟩).file)!=((B.recs.getD j ⟨0,0,0,[]⟩).file)))) (fun K bN=>?_) ?_
 refine bl 196 ((!(decide ((A.recs.getD j ⟨0,0,0,[]⟩).words=(B.recs.getD j ⟨0,0,0,[]⟩).words)))) (fun V=>?_) (fun V=>?_)
 have ar:(decide ((A.recs.getD j ⟨0,0,0,[]⟩).words=(B.recs.getD j ⟨0,0,0,[]⟩).words))=false:=by simpa using V
 have dk:=of_decide_eq_false ar
 exact Pl 6<|ce bN true (by rw[V];rfl)
 have ar:(decide ((A.recs.getD j ⟨0,0,0,[]⟩).words=(B.recs.getD j ⟨0,0,0,[]⟩).words))=true:=by simpa using V
 have dk:=of_decide_eq_true ar
 refine Pl 1<|?_
 refine L1<|aO (ub h a7) 0<|Pl 1<|?_
 exact L1<|aO (ub h a6) 0<|Pl 2<|ce bN (((A.recs.getD j ⟨0,0,0,[]⟩).file)!=((B.recs.getD j ⟨0,0,0,[]⟩).file)) (by rw[V];rfl)
 refine Pl 1<|cu 6 [203] 209 ((((!(decide ((A.recs.getD j ⟨0,0,0,[]⟩).words=(B.recs.getD j ⟨0,0,0,[]⟩).words)))||(((A.recs.getD j ⟨0,0,0,[]⟩).file)!=((B.recs.getD j ⟨0,0,0,[]⟩).file)))||(((A.recs.getD j ⟨0,0,0,[]⟩).record)!=((B.recs.getD j ⟨0,0,0,[]⟩).record)))) (fun K bO=>?_) ?_
 refine bl 203 (((!(decide ((A.recs.getD j ⟨0,0,0,[]⟩).words=(B.recs.getD j ⟨0,0,0,[]⟩).words)))||(((A.recs.getD j ⟨0,0,0,[]⟩).file)!=((B.recs.getD j ⟨0,0,0,[]⟩).file)))) (fun W=>?_) (fun W=>?_)
 exact Pl 6<|ce bO true (by rw[W];rfl)
 have dl:=(aE W).1
 have dm:=(aE W).2
 have dp:(decide ((A.recs.getD j ⟨0,0,0,[]⟩).words=(B.recs.getD j ⟨0,0,0,[]⟩).words))=true:=by simpa using dl
 have q156anp:=of_decide_eq_true dp
 have ev:=ag dm
 refine Pl 1<|?_
 refine L1<|aO (ub h a7) 1<|Pl 1<|?_
 exact L1<|aO (ub h a6) 1<|Pl 2<|ce bO (((A.recs.getD j ⟨0,0,0,[]⟩).record)!=((B.recs.getD j ⟨0,0,0,[]⟩).record)) (by rw[W];rfl)
 refine Pl 1<|cu 6 [210] 216 (((((!(decide ((A.recs.getD j ⟨0,0,0,[]⟩).words=(B.recs.getD j ⟨0,0,0,[]⟩).words)))||(((A.recs.getD j ⟨0,0,0,[]⟩).file)!=((B.recs.getD j ⟨0,0,0,[]⟩).file)))||(((A.recs.getD j ⟨0,0,0,[]⟩).record)!=((B.recs.getD j ⟨0,0,0,[]⟩).record)))||(((A.recs.getD j ⟨0,0,0,[]⟩).count)!=((B.recs.getD j ⟨0,0,0,[]⟩).count)))) (fun K bP=>?_) ?_
 refine bl 210 ((((!(decide ((A.recs.getD j ⟨0,0,0,[]⟩).words=(B.recs.getD j ⟨0,0,0,[]⟩).words)))||(((A.recs.getD j ⟨0,0,0,[]⟩).file)!=((B.recs.getD j ⟨0,0,0,[]⟩).file)))||(((A.recs.getD j ⟨0,0,0,[]⟩).record)!=((B.recs.getD j ⟨0,0,0,[]⟩).record)))) (fun X=>?_) (fun X=>?_)
 exact Pl 6<|ce bP true (by rw[X];rfl)
 have bQ:=(aE X).1
 have dq:=(aE X).2
 have dr:=(aE bQ).1
 have ds:=(aE bQ).2
 have q160aan:(decide ((A.recs.getD j ⟨0,0,0,[]⟩).words=(B.recs.getD j ⟨0,0,0,[]⟩).words))=true:=by simpa using dr
 have q160aanp:=of_decide_eq_true q160aan
 have q160abp:=ag ds
 have ew:=ag dq
 refine Pl 1<|?_
 refine L1<|aO (ub h a7) 2<|Pl 1<|?_
 exact L1<|aO (ub h a6) 2<|Pl 2<|ce bP (((A.recs.getD j ⟨0,0,0,[]⟩).count)!=((B.recs.getD j ⟨0,0,0,[]⟩).count)) (by rw[X];rfl)
 refine nt<|?_
 refine cb (((((!(decide ((A.recs.getD j ⟨0,0,0,[]⟩).words=(B.recs.getD j ⟨0,0,0,[]⟩).words)))||(((A.recs.getD j ⟨0,0,0,[]⟩).file)!=((B.recs.getD j ⟨0,0,0,[]⟩).file)))||(((A.recs.getD j ⟨0,0,0,[]⟩).record)!=((B.recs.getD j ⟨0,0,0,[]⟩).record)))||(((A.recs.getD j ⟨0,0,0,[]⟩).count)!=((B.recs.getD j ⟨0,0,0,[]⟩).count)))) (fun Y=>?_) (fun Y=>?_)
 refine sg<|Pl 1<|nt<|rt<|br<|tr<|tr<|br<|tr<|rr (.bool false)<|?_
 have hs:decide (A=B)=false:=n0 (f:=fun x y=>((((!(decide ((x.recs.getD j ⟨0,0,0,[]⟩).words=(y.recs.getD j ⟨0,0,0,[]⟩).words)))||(((x.recs.getD j ⟨0,0,0,[]⟩).file)!=((y.recs.getD j ⟨0,0,0,[]⟩).file)))||(((x.recs.getD j ⟨0,0,0,[]⟩).record)!=((y.recs.getD j ⟨0,0,0,[]⟩).record)))||(((x.recs.getD j ⟨0,0,0,[]⟩).count)!=((y.recs.getD j ⟨0,0,0,[]⟩).count)))) Y (fun M=>by simp)
 rw[hs]
 exact⟨rfl,(aD aq h)⟩
 have bR:=(aE Y).1
 have dt:=(aE Y).2
 have bS:=(aE bR).1
 have du:=(aE bR).2
 have q165aaa:=(aE bS).1
 have q165aab:=(aE bS).2
 have q165aaan:(decide ((A.recs.getD j ⟨0,0,0,[]⟩).words=(B.recs.getD j ⟨0,0,0,[]⟩).words))=true:=by simpa using q165aaa
 have q165aaanp:=of_decide_eq_true q165aaan
 have q165aabp:=ag q165aab
 have q165abp:=ag du
 have ex:=ag dt
 refine sk<|bn<|tn<|go<|Pl 1<|L0<|Oi (((j:Nat) : Int)+1)<|Pl 1<|nl<|?_
 have bT:=u1 (aD a3 ak) al (ni a3.size aj)
 exact gB (j+1) ⟨(aD (u1 (aD bT ao) ap (ni bT.size an)) h),(rV (d:=⟨0,0,0,[]⟩) bI (by omega) (by omega) (yZ Y)),(by(try dsimp only);omega)⟩ (by omega)
 have d8:=of_decide_eq_false ai
 refine xt<|tx<|tx<|bx<|tn<|sq<|sg<|Pl 1<|nt<|bk<|?_
 refine iN (fun x=>[(2,.pointer (some ⟨i,0,none⟩)),(3,.pointer (some ⟨l,0,none⟩)),(12,.int .i64 ((x:Nat) : Int))]) (fun(x:Nat) w'=>aC [] d5 w'∧(A.objects.take x=B.objects.take x)∧(x≤A.objects.length)) (fun x=>A.objects.length-x) 0 ⟨aC.refl _ _,(by(try dsimp only);simp),(by(try dsimp only);omega)⟩ ?_
 rintro k ey ⟨a8,dw,dx⟩
 refine iy [(2,.pointer (some ⟨i,0,none⟩)),(3,.pointer (some ⟨l,0,none⟩)),(12,.int .i64 ((k:Nat) : Int))] ?_
 have bU:A.objects.take k=B.objects.take k:=dw
 have ez:k≤A.objects.length:=dx
 refine sq<|sg<|Pl 2<|?_
 have bV:=ub a8 ah
 refine L0<|aO bV 21<|Pl 2<|nt<|?_
 have bW:=aD a5 a8
 refine cb ((decide (((k:Nat) : Int)<((A.objects.length:Nat) : Int)))) (fun au=>?_) (fun au=>?_)
 have dy:=of_decide_eq_true au
 refine bf<|sq<|bk<|sq<|kR (nv.elt pho k (by omega)) fun bX bY eA eB eC dz dA bZ dB dC eD av=>kR (nv.elt qho k (by omega)) fun c0 c2 eE eF eG dD dE c3 dF dG eH aw=>Rg 14 (fun w'=>w'.cell? ⟨i,21,none⟩=some (.slice po A.objects.length pko)∧w'.cell? ⟨bX,bY+k*2+1,none⟩=some (.slice dz ((A.objects.getD k ⟨0,[]⟩).value.length) dA)∧w'.cell? ⟨l,21,none⟩=some (.slice qo B.objects.length qko)∧w'.cell? ⟨c0,c2+k*2+1,none⟩=some (.slice dD ((B.objects.getD k ⟨0,[]⟩).value.length) dE)) fun eI a9=>?_
 have c4:=ub a9 bV
 have Z:=aD bW a9
 have c5:=ub Z dB
 have c6:=ub (aD (aD a4 a8) a9) P
 have c7:=ub Z dF
 refine bi ⟨(ae c4 rfl),(fN c5 av 1 rfl (by decide)),(ae c6 rfl),(fN c7 aw 1 rfl (by decide))⟩ fun g=>Rt 0 g<|Rl 1 g (fun _ hs=>hs.1)<|Rt 2 g<|Ri 3 g 2 A.objects.length k ((k:Nat) : Int) rfl bZ (by omega)<|Rt 4 g<|Rl 5 g (fun _ hs=>hs.2.1)<|Rt 6 g<|Rl 7 g (fun _ hs=>hs.2.2.1)<|Rt 8 g<|Ri 9 g 2 B.objects.length k ((k:Nat) : Int) rfl c3 (by omega)<|Rt 10 g<|Rl 11 g (fun _ hs=>hs.2.2.2)<|?_
 refine R0 12 rfl<|Oc<|m1 (iA (b9.old dC Z) (b9.old dG Z)) fun eJ o=>?_
 have c8:=ub o c4
 have c9:=ub o c5
 have ca:=ub o c6
 have cc:=ub o c7
 refine bi ⟨(ae c8 rfl),(fN c9 av 1 rfl (by decide)),(ae ca rfl),(fN cc aw 1 rfl (by decide))⟩ fun dH=>Rt 13 dH<|re<|tn<|sq<|Rg 17 (fun w'=>w'.cell? ⟨i,21,none⟩=some (.slice po A.objects.length pko)∧w'.cell? ⟨bX,bY+k*2+0,none⟩=some (.int .u8 ((A.objects.getD k ⟨0,[]⟩).id))∧w'.cell? ⟨l,21,none⟩=some (.slice qo B.objects.length qko)∧w'.cell? ⟨c0,c2+k*2+0,none⟩=some (.int .u8 ((B.objects.getD k ⟨0,[]⟩).id))) fun eK p=>?_
 refine bi ⟨(ae (ub p c8) rfl),(fN (ub p c9) av 0 rfl (by decide)),(ae (ub p ca) rfl),(fN (ub p cc) aw 0 rfl (by decide))⟩ fun a=>Rt 0 a<|Rt 1 a<|Rt 2 a<|?_
 have cd:=aD (aD Z o) p
 refine tJ 239 ((!(decide ((A.objects.getD k ⟨0,[]⟩).value=(B.objects.getD k ⟨0,[]⟩).value)))) (fun a0=>?_) (fun a0=>?_)
 have ay:(decide ((A.objects.getD k ⟨0,[]⟩).value=(B.objects.getD k ⟨0,[]⟩).value))=false:=by simpa using a0
 have dI:=of_decide_eq_false ay
 refine Ro 3 a<|Ro 4 a<|Ro 5 a<|Ro 6 a<|Ro 7 a<|Ro 8 a<|Ro 9 a<|Ro 10 a<|Ro 11 a<|Ro 12 a<|Ro 13 a<|Ro 14 a<|Ro 15 a<|Rt 16 a<|?_
 refine re<|tn<|c1<|sg<|Pl 1<|nt<|rt<|br<|tr<|tr<|br<|tr<|?_
 refine rr (.bool false)<|?_
 have hs:decide (A=B)=false:=n0 (f:=fun x y=>(!(decide ((x.objects.getD k ⟨0,[]⟩).value=(y.objects.getD k ⟨0,[]⟩).value)))) a0 (fun M=>by simp)
 rw[hs]
 exact⟨rfl,cd⟩
 have ay:(decide ((A.objects.getD k ⟨0,[]⟩).value=(B.objects.getD k ⟨0,[]⟩).value))=true:=by simpa using a0
 have dI:=of_decide_eq_true ay
 refine Rt 3 a<|Rl 4 a (fun _ hs=>hs.1)<|Rt 5 a<|Ri 6 a 2 A.objects.length k ((k:Nat) : Int) rfl bZ (by omega)<|Rt 7 a<|Rl 8 a (fun _ hs=>hs.2.1)<|Rt 9 a<|Rl 10 a (fun _ hs=>hs.2.2.1)<|Rt 11 a<|Ri 12 a 2 B.objects.length k ((k:Nat) : Int) rfl c3 (by omega)<|Rt 13 a<|Rl 14 a (fun _ hs=>hs.2.2.2)<|Rt 15 a<|Rt 16 a<|?_
 refine re<|tn<|cb ((((A.objects.getD k ⟨0,[]⟩).id)!=((B.objects.getD k ⟨0,[]⟩).id))) (fun a1=>?_) (fun a1=>?_)
 have dJ:=ax a1
 refine sg<|Pl 1<|nt<|rt<|br<|tr<|tr<|br<|tr<|rr (.bool false)<|?_
 have hs:decide (A=B)=false:=n0 (f:=fun x y=>(((x.objects.getD k ⟨0,[]⟩).id)!=((y.objects.getD k ⟨0,[]⟩).id))) a1 (fun M=>by simp)
 rw[hs]
 exact⟨rfl,cd⟩
 have dJ:=ag a1
 refine sk<|bn<|tn<|go<|Pl 1<|L0<|Oi (((k:Nat) : Int)+1)<|Pl 1<|nl<|?_
 exact gB (k+1) ⟨(aD (aD (aD a8 a9) o) p),(rV (d:=⟨0,[]⟩) bU (by omega) (by omega) (xI a0 a1)),(by(try dsimp only);omega)⟩ (by omega)
 have dy:=of_decide_eq_false au
 refine xt<|tx<|tx<|bx<|tn<|sg<|Pl 1<|nt<|rt<|rr (.bool true)<|?_
 have hs:decide (A=B)=true:=decide_eq_true (xp H O U (fun e=>i5 bI (by omega) e) (fun e=>i5 bU (by omega) e))
 rw[hs]
 exact⟨rfl,bW⟩
end Go.Proofs.YtogbnemojakcpaaGreat
namespace Go.Proofs.YtogbnemojakcpaaGreat
def N4 (C:ak) : Prop:=C.e≠4
theorem N4.need{C:ak}{b:Bool}{x:Int}(hx:x≠4)(h:N4 C) : N4 (C.need b x):=by
  unfold N4 ak.need at *
  split
  · exact hx
  · exact h
theorem N4.bytesC{C:ak}{n:Int}(h:N4 C) : N4 (C.bytesC n):=by
  unfold ak.bytesC
  split
  · exact N4.need (by decide) h
  · exact h
theorem N4.wordsC{C:ak}{n:Int}(h:N4 C) : N4 (C.wordsC n):=by
  unfold ak.wordsC
  split<;>exact N4.bytesC h
theorem N4.recs{one:Int→ak→Int × ak × dj}(ho:∀ s C,N4 C→N4 (one s C).2.1) : ∀ (n:Nat)(s:Int)(C:ak)(L:List dj),N4 C→N4 (aR one n s C L).1
  | 0,_,_,_,h=>h
  | n+1,s,C,L,h=>by
    unfold aR
    split
    · split
      · exact ho s C h
      · exact N4.recs ho n _ _ _ (ho s C h)
    · exact h
theorem N4.objs:∀ (n:Nat)(C:ak)(L:List Obj),N4 C→N4 (eg n C L).1
  | 0,_,_,h=>h
  | n+1,C,L,h=>N4.objs n _ _ (N4.bytesC (N4.bytesC (N4.bytesC h)))
theorem ra{x:Int}(h:x≠4) : bp x≠4:=by
  unfold bp
  split
  · decide
  · exact h
theorem vG{dir c:Int}{C:ak}{r:ak × aP}(hC:N4 C)(h:aF dir c C=some r) : N4 r.1:=by
  unfold aF at h
  repeat' split at h
  all_goals first | cases h | skip
  all_goals simp only[dm,dh,d6,ga,bA,j7,fp,dR,pV,i7]
  all_goals repeat' first | with_reducible exact hC | with_reducible apply N4.bytesC | with_reducible apply N4.wordsC | (with_reducible refine N4.need (by decide) ?_)
theorem wh{dir c:Int}{C:ak}{r:ak × aP}(hC:N4 C)(h:aM dir c C=some r) : N4 r.1:=by
  unfold aM at h
  repeat' split at h
  all_goals first | cases h | skip
  all_goals simp only[bZ,cm,dN,d8,cS,d9,d7,kN,iq,gZ,bG,kv,cU,fI,pB,xw,rB]
  all_goals repeat' first | with_reducible exact hC | with_reducible apply N4.bytesC | with_reducible apply N4.wordsC | (with_reducible refine N4.need (by decide) ?_)
theorem wP{dir c:Int}{C:ak}{r:ak × aP}(hC:N4 C)(h:aV dir c C=some r) : N4 r.1:=by
  unfold aV ea cn at h
  repeat' split at h
  all_goals first | cases h | skip
  all_goals simp only[eP,ji,fv,fU,dA]
  all_goals repeat' first | with_reducible exact hC | with_reducible apply N4.bytesC | with_reducible apply N4.wordsC | (with_reducible refine N4.need (by decide) ?_)
theorem wN(s:Int)(C:ak)(h:N4 C) : N4 (cK s C).2.1:=by
  simp only[cK,eH,dw,ig,iO,mc]
  repeat' first | with_reducible exact h | with_reducible apply N4.bytesC | with_reducible apply N4.wordsC | (with_reducible refine N4.need (by decide) ?_)
theorem vy(s:Int)(C:ak)(h:N4 C) : N4 (bK s C).2.1:=by
  simp only[bK,eN,ia,fM]
  repeat' first | with_reducible exact h | with_reducible apply N4.bytesC | with_reducible apply N4.wordsC | (with_reducible refine N4.need (by decide) ?_)
theorem wv(s:Int)(C:ak)(h:N4 C) : N4 (cM s C).2.1:=by
  simp only[cM,jb,mz,dw,ig,iO,mc]
  repeat' first | with_reducible exact h | with_reducible apply N4.bytesC | with_reducible apply N4.wordsC | (with_reducible refine N4.need (by decide) ?_)
theorem jJ{one:Int→ak→Int × ak × dj}(ho:∀ s C,N4 C→N4 (one s C).2.1)(may:Int→Bool)(c:Int){C:ak}(hC:N4 C) : N4 (dK one may c C).1:=by
  unfold dK kM
  refine N4.need (ra (N4.recs ho _ _ _ _ ?_)) (N4.bytesC (N4.need (by decide) (N4.bytesC hC)))
  show(0:Int)≠4
  decide
theorem u7{dir c:Int}{C:ak}{r:ak × aP}(hC:N4 C)(h:aX dir c C=some r) : N4 r.1:=by
  unfold aX at h
  repeat' split at h
  all_goals first | cases h | skip
  · exact jJ wN _ _ hC
  · exact jJ vy _ _ hC
  · exact jJ wv _ _ hC
theorem N4.endC{C:ak}(h:N4 C) : N4 C.endC:=by
  unfold ak.endC
  exact N4.need (by decide) h
theorem vM{form:Int→Int→ak→Option (ak × aP)}(hg:∀ {dir c:Int}{C:ak}{r:ak × aP},N4 C→form dir c C=some r→N4 r.1){dir c:Int}{b:List Int}(hd:dir=0∨dir=1){r:ak × aP}(hf:form dir c ⟨b,false,0⟩=some r) :
    (ai form dir c b).2≠4:=by
  unfold ai
  rw[if_pos hd,hf]
  have h0:N4 ⟨b,false,0⟩:=by show(0:Int)≠4;decide
  have g1:=hg h0 hf
  show(b6 r.2 r.1).2≠4
  unfold b6
  split
  · exact(show ¬ (0:Int)=4 from by decide)
  · exact N4.endC g1
theorem ls{form:Int→Int→ak→Option (ak × aP)}{dir c:Int}{b:List Int}(hd:dir=0∨dir=1)(hf:form dir c ⟨b,false,0⟩=none) : ai form dir c b=(aP.zero,4):=by
  unfold ai
  rw[if_pos hd,hf]
def ft (dir:Int)(b:List Int) : aP × Int :=
  if (ai aF dir (b.getD 0 0) (b.drop 1)).2==4 then
    if (ai aM dir (b.getD 0 0) (b.drop 1)).2==4 then
      if (ai aV dir (b.getD 0 0) (b.drop 1)).2==4 then
        if (ai aX dir (b.getD 0 0) (b.drop 1)).2==4 then ai bD dir (b.getD 0 0) (b.drop 1)
        else ai aX dir (b.getD 0 0) (b.drop 1)
      else ai aV dir (b.getD 0 0) (b.drop 1)
    else ai aM dir (b.getD 0 0) (b.drop 1)
  else ai aF dir (b.getD 0 0) (b.drop 1)
theorem sK{dir:Int}{b:List Int}(hd:dir=0∨dir=1) : ft dir b=io (iV (b.getD 0 0)) dir b:=by
  have no:∀ (form:Int→Int→ak→Option (ak × aP)),form dir (b.getD 0 0) ⟨b.drop 1,false,0⟩=none→((ai form dir (b.getD 0 0) (b.drop 1)).2==4)=true:=fun f h=>by rw[ls hd h];rfl
  have ye:∀ (form:Int→Int→ak→Option (ak × aP)),(∀ {dir c:Int} {C:ak} {r:ak × aP},N4 C→form dir c C=some r→N4 r.1)→(form dir (b.getD 0 0) ⟨b.drop 1,false,0⟩).isSome=true→¬ ((ai form dir (b.getD 0 0) (b.drop 1)).2==4)=true:=fun form hg h=>by
    obtain⟨r,hr⟩:=Option.isSome_iff_exists.1 h
    have k:=vM (form:=form) (c:=b.getD 0 0) (fun hC h=>hg hC h) hd hr
    rw[beq_iff_eq]
    exact k
  unfold ft
  rcases gJ (b.getD 0 0) with⟨hk,hf⟩|⟨hk,hf⟩|⟨hk,hf⟩|⟨hk,hf⟩|⟨hk,hf⟩|⟨hk,hf⟩<;>rw[hf]
  · rw[if_neg (ye aF (fun hC h=>vG hC h) (by rcases hd with rfl | rfl<;>rcases hk with h | h | h | h<;>rw[h]<;>rfl))]
    rfl
  · rw[if_pos (no aF (by rcases hk with h | h | h | h | h | h | h<;>rw[h]<;>rfl)),if_neg (ye aM (fun hC h=>wh hC h) (by rcases hd with rfl | rfl<;>rcases hk with h | h | h | h | h | h | h<;>rw[h]<;>rfl))]
    rfl
  · rw[if_pos (no aF (by rcases hk with h | h | h | h | h<;>rw[h]<;>rfl)),if_pos (no aM (by rcases hk with h | h | h | h | h<;>rw[h]<;>rfl)),if_neg (ye aV (fun hC h=>wP hC h) (by rcases hd with rfl | rfl<;>rcases hk with h | h | h | h | h<;>rw[h]<;>rfl))]
    rfl
  · rw[if_pos (no aF (by rcases hk with h | h<;>rw[h]<;>rfl)),if_pos (no aM (by rcases hk with h | h<;>rw[h]<;>rfl)),if_pos (no aV (by rcases hk with h | h<;>rw[h]<;>rfl)),if_neg (ye aX (fun hC h=>u7 hC h) (by rcases hd with rfl | rfl<;>rcases hk with h | h<;>rw[h]<;>rfl))]
    rfl
  · rw[if_pos (no aF (by rw[hk]<;>rfl)),if_pos (no aM (by rw[hk]<;>rfl)),if_pos (no aV (by rw[hk]<;>rfl)),if_pos (no aX (by rw[hk]<;>rfl))]
    rfl
  · have no0:∀ (form:Int→Int→ak→Option (ak × aP)),(∀ C,form dir (b.getD 0 0) C=none)→((ai form dir (b.getD 0 0) (b.drop 1)).2==4)=true:=fun f h=>no f (h _)
    have ne:∀ k:Int,¬ b.getD 0 0=k→(b.getD 0 0==k)=false:=fun k h=>by simpa using h
    obtain⟨z1,z2,z5,a,z3,z4,z6,d,e,g,i,z7,z8,j,l,m,n,o,p⟩:=hk
    rw[if_pos (no0 aF fun C=>by unfold aF;simp only[ne _ z1,ne _ z2,ne _ z5,ne _ a,Bool.or_false,Bool.false_eq_true,if_false]),if_pos (no0 aM fun C=>by unfold aM;simp only[ne _ z3,ne _ z4,ne _ z6,ne _ d,ne _ e,ne _ g,ne _ i,Bool.or_false,Bool.false_eq_true,if_false]),if_pos (no0 aV fun C=>by unfold aV;simp only[ne _ z7,ne _ z8,ne _ j,ne _ l,ne _ m,Bool.or_false,Bool.false_eq_true,if_false]),if_pos (no0 aX fun C=>by unfold aX;simp only[ne _ n,ne _ o,Bool.or_false,Bool.false_eq_true,if_false])]
    exact ls hd (by unfold bD;rw[if_pos (show(b.getD 0 0 != 43)=true from by rw[bne_iff_ne];exact p)])
def gG (dir:Int)(b:List Int) : aP × Int :=
  if dir != 0&&dir != 1 then (aP.zero,1)
  else if (b.length:Int)==0 then (aP.zero,2)
  else if decide (253<(b.length:Int)) then (aP.zero,3)
  else if decide (128≤b.getD 0 0)&&dir==1 then ee b
  else ft dir b
theorem fE(dir:Int)(b:List Int) : gG dir b=cH dir b:=by
  unfold gG cH
  split
  · rfl
  · rename_i hh
    have hd:dir=0∨dir=1:=by simp only[Bool.and_eq_true,bne_iff_ne,ne_eq] at hh;omega
    rw[sK hd]
open Go.RowKit
theorem sL{xs:List Int}{k a b:Nat}(h:2*k+1<xs.length)(ha:a=2*k)(hb:b=2*k+1)(hr:∀ x,x∈xs→0≤x∧x<256) : dl (xs.drop (2*k))=[(((256*xs.getD a 0)%65536)+xs.getD b 0)%65536]++dl (xs.drop (2*(k+1))):=by
  subst ha hb
  rw[List.drop_eq_getElem_cons (show 2*k<xs.length by omega),List.drop_eq_getElem_cons h]
  have h1:=hr _ (List.getElem_mem (show 2*k<xs.length by omega))
  have h2:=hr _ (List.getElem_mem h)
  have e1:xs.getD (2*k) 0=xs[2*k]:=by rw[List.getD_eq_getElem?_getD,List.getElem?_eq_getElem (by omega)];rfl
  have e2:xs.getD (2*k+1) 0=xs[2*k+1]:=by rw[List.getD_eq_getElem?_getD,List.getElem?_eq_getElem h];rfl
  rw[e1,e2]
  show(xs[2*k]*256+xs[2*k+1]) :: dl (xs.drop (2*k+1+1))=_
  rw[show 2*k+1+1=2*(k+1) by omega,show((256*xs[2*k])%65536+xs[2*k+1])%65536=xs[2*k]*256+xs[2*k+1] by omega]
  rfl
theorem tg{xs L:List Int}{k:Nat}(h:L++dl (xs.drop (2*k))=dl xs)(h1:¬ 2*k+1<xs.length)(h2:xs.length%2=0) : L=cI xs:=by
  have hd:xs.drop (2*k)=[]:=List.drop_eq_nil_of_le (by omega)
  rw[hd] at h
  unfold cI
  rw[if_pos h2,← h]
  simp[dl]
theorem zh{m:Md}{A:Option Addr}{cp:Nat}{xs:List Int}{w:World}(h:b9 m w (.slice A xs.length cp) xs)(hn:xs.length≤1048576) : Calls Tryz.prog 217 #[.slice A xs.length cp] w (ul xs w):=by
 have hr:=b9.range h
 refine en 33 Tryz.func217 rfl<|sg<|Pl 1<|ng<|Pl 1<|nt<|sq<|sg<|?_
 refine Pl 2<|L0<|Oe (.int .i64 (Int.tmod ((xs.length:Nat) : Int) 2)) (.int .i64 (((xs.length:Nat) : Int)%2)) (congrArg (Value.int .i64) (Int.tmod_eq_emod_of_nonneg (by omega)))<|Pl 1<|nt<|cb (((((xs.length:Nat) : Int)%2)==1)) (fun f=>?_) (fun f=>?_)
 have y:=ah f
 refine sg<|Pl 1<|nt<|rt<|tr<|rr (.slice none 0 0)<|?_
 have hs:cI xs=[]:=by unfold cI;rw[if_neg (by have:=ah f;omega)]
 exact⟨_,rfl,by rw[hs];exact aS.nil ..,(aC.refl [] _)⟩
 have y:=aj f
 refine bf<|sq<|sg<|Pl 1<|nt<|bk<|?_
 refine iN (fun x=>[(0,.slice A xs.length cp),(2,.slice none 0 0),(3,.slice x.2.2.1 x.2.1.length x.2.2.2),(4,.int .i64 ((2*x.1:Nat) : Int))]) (fun(x:Nat × List Int × Option Addr × Nat) w'=>aC [] w w'∧kQ w.heap.size w' (.slice x.2.2.1 x.2.1.length x.2.2.2) x.2.1∧(2*x.1≤xs.length)∧(x.2.1++dl (xs.drop (2*x.1))=dl xs)∧(x.2.1.length=x.1)) (fun x=>xs.length-2*x.1) (0,[],none,0) ⟨aC.refl _ _,(aS.nil w.heap.size _ _ t8 _),(by(try dsimp only);omega),rfl,rfl⟩ ?_
 rintro⟨k,L,B,cq⟩ z ⟨g,C,D,E,F⟩
 refine iy [(0,.slice A xs.length cp),(2,.slice none 0 0),(3,.slice B L.length cq),(4,.int .i64 ((2*k:Nat) : Int))] ?_
 have j:kQ w.heap.size z (.slice B L.length cq) L:=C
 have T:2*k≤xs.length:=D
 have U:L++dl (xs.drop (2*k))=dl xs:=E
 have V:L.length=k:=F
 have hL:L++dl (xs.drop (2*k))=dl xs:=by assumption
 refine sq<|sg<|Pl 1<|L0<|Oi (((2*k:Nat) : Int)+1)<|Pl 3<|nt<|cb ((decide ((((2*k:Nat) : Int)+1)<((xs.length:Nat) : Int)))) (fun l=>?_) (fun l=>?_)
 have G:=of_decide_eq_true l
 refine bf<|sq<|bk<|?_
 have o:=b9.old h g
 refine gh (b9.at_ o (2*k) (by omega)) fun H I p q W=>gh (b9.at_ o (((((2*k:Nat) : Int)+1)).toNat) (by omega)) fun J K r s X=>Rg 17 (fun w'=>w'.cell? ⟨H,I+2*k,none⟩=some (.int .u8 (xs.getD (2*k) 0))∧w'.cell? ⟨J,K+((((2*k:Nat) : Int)+1)).toNat,none⟩=some (.int .u8 (xs.getD (((((2*k:Nat) : Int)+1)).toNat) 0))) fun Y d=>bi ⟨(uc d q),(uc d s)⟩ fun c=>Rt 0 c<|Rt 1 c<|Rt 2 c<|nK 3 c xs.length (2*k) ((2*k:Nat) : Int) rfl p (by omega)<|Rl 4 c (fun _ hs=>hs.1)<|Rr 5 c (.int .u16 (xs.getD (2*k) 0)) (fun _ _=>ch (.int .u16 (IntKind.u16.wrap (xs.getD (2*k) 0))) (by kernel_rfl) (congrArg (Value.int .u16) (kY (by omega))))<|Rt 6 c<|Rt 7 c<|Rt 8 c<|Rr 9 c (.int .i64 (((2*k:Nat) : Int)+1)) (fun _ _=>ch (.int .i64 (IntKind.i64.wrap (((2*k:Nat) : Int)+1))) (by kernel_rfl) (congrArg (Value.int .i64) (IntWalk.i64_in _ (by omega))))<|?_
 refine nK 10 c xs.length (((((2*k:Nat) : Int)+1)).toNat) (((2*k:Nat) : Int)+1) (by omega) r (by omega)<|Rl 11 c (fun _ hs=>hs.2)<|Rr 12 c (.int .u16 (xs.getD (((((2*k:Nat) : Int)+1)).toNat) 0)) (fun _ _=>ch (.int .u16 (IntKind.u16.wrap (xs.getD (((((2*k:Nat) : Int)+1)).toNat) 0))) (by kernel_rfl) (congrArg (Value.int .u16) (kY (by omega))))<|Rt 13 c<|R0 14 rfl<|cL (m:=1) (e:=24) #[.int .u16 ((((256*(xs.getD (2*k) 0))%65536)+(xs.getD (((((2*k:Nat) : Int)+1)).toNat) 0))%65536)] fun Z a0 M N n=>?_
 have O:=dL M (xs:=[((((256*(xs.getD (2*k) 0))%65536)+(xs.getD (((((2*k:Nat) : Int)+1)).toNat) 0))%65536)]) (by as_aux_lemma=>kernel_rfl) (au (by omega) aK) (by(try simp only[List.length_cons,List.length_nil]);omega) N
 have i:=aD d n
 refine bi ⟨(uc i q),(uc i s)⟩ fun a1=>?_
 refine R0 15 rfl<|bR og (xs:=L) (ys:=([((((256*(xs.getD (2*k) 0))%65536)+(xs.getD (((((2*k:Nat) : Int)+1)).toNat) 0))%65536)])) (.int .u16 0) 2 (ap j i (fun x hx=>az) (fun _ _ h=>h)) (O).rd (by(try simp only[List.length_append,List.length_cons,List.length_nil,aA]);omega) (le (le g.size d.size) n.size) fun P Q a2 R t=>?_
 have a3:=ut (aC.mono (S':=(ob B++[])) i ay) t (av (fun x hx=>Or.inl (by simp[hx])) ay)
 have u:=ut (aD (aD g d) n) t (av (aN j lr) ay)
 have v:=b9.old h u
 exact bi ⟨(cB v p (2*k) (by omega)),(cB v r (((((2*k:Nat) : Int)+1)).toNat) (by omega))⟩ fun S=>Rt 16 S<|re<|bn<|tn<|go<|Pl 1<|L0<|Oi (((2*k:Nat) : Int)+2)<|Pl 1<|nl<|gB ((k+1),(L++[((((256*(xs.getD (2*k) 0))%65536)+(xs.getD (((((2*k:Nat) : Int)+1)).toNat) 0))%65536)]),P,Q) ⟨u,R,(by(try dsimp only);omega),(by(try dsimp only);rw[← hL,sL (k:=k) (a:=2*k) (b:=(((2*k:Nat) : Int)+1).toNat) (by omega) rfl (by omega) hr,List.append_assoc]),(by(try dsimp only);simp only[List.length_append,List.length_cons,List.length_nil];omega)⟩ (by omega)
 have G:=of_decide_eq_false l
 refine xt<|tx<|tx<|bx<|tn<|sg<|Pl 2<|nt<|rt<|rr (.slice B L.length cq)<|?_
 have hs:L=cI xs:=tg hL (by omega) (by omega)
 exact⟨_,rfl,by rw[← hs];exact j,g⟩
theorem xY{m:Md}{v:Value}{xs:List Int}{w:World}(h:b9 m w v xs)(hn:xs.length≤1048576) : Calls Tryz.prog 217 #[v] w (ul xs w):=by
  obtain⟨A,cp,rfl,_,_⟩:=h.shape
  exact zh h hn
theorem rE{a n:Int}{w:World}(ha:0≤a∧a<65536)(hn : -1048576≤n∧n≤1048576) : Calls Tryz.prog 215 #[.int .u16 a,.int .i64 n] w (cG (.bool (dx a n)) w):=by
 refine en 16 Tryz.func215 rfl<|sg<|Pl 1<|nt<|sq<|sg<|Pl 3<|cu 3 [7] 10 (((decide (n<1))||(decide (65536<n)))) (fun K d=>?_) ?_
 refine bl 7 ((decide (n<1))) (fun b=>?_) (fun b=>?_)
 have e:=of_decide_eq_true b
 exact Pl 3<|ce d true (by rw[b];rfl)
 have e:=of_decide_eq_false b
 exact Pl 3<|ce d (decide (65536<n)) (by rw[b];rfl)
 refine nt<|cb (((decide (n<1))||(decide (65536<n)))) (fun c=>?_) (fun c=>?_)
 refine sg<|Pl 1<|nt<|rt<|tr<|rr (.bool false)<|?_
 have hq:=c
 have hs:dx a n=false:=by unfold dx;simp only[Bool.or_eq_true,decide_eq_true_eq] at hq;simp only[Bool.and_eq_false_iff,decide_eq_false_iff_not];omega
 rw[hs]
 exact⟨rfl,(aC.refl [] _)⟩
 have f:=(aE c).1
 have g:=(aE c).2
 have h:=of_decide_eq_false f
 have i:=of_decide_eq_false g
 refine bf<|sg<|Pl 1<|L0<|Oi a<|Pl 1<|L0<|Oi (a+n)<|Pl 2<|nt<|rt<|rr (.bool (decide ((a+n)≤65536)))<|?_
 have hs:dx a n=(decide ((a+n)≤65536)):=by unfold dx;rw[Bool.eq_iff_iff];simp only[Bool.and_eq_true,decide_eq_true_eq];omega
 rw[hs]
 exact⟨rfl,(aC.refl [] _)⟩
open Go.RowKit
def Bg (A:Option Addr)(cp:Nat)(full:List Int)(k:Nat)(C:ak) : Array Value:=#[.slice A full.length cp,.int .i64 ((k:Nat) : Int),.bool C.sh,.int .i64 C.e]
structure RC (w0:World) (m:Md) (A:Option Addr) (cp:Nat) (full:List Int) (w:World) (g:Nat) (C:ak) : Prop where
  src:b9 m w0 (.slice A full.length cp) full
  u:aC [] w0 w
  new:w0.heap.size≤g
  cell:∃ k:Nat,w.heap[g]? = some (.cells (Bg A cp full k C) 159 (0,0))∧k≤full.length∧C.l=full.drop k
  len:full.length≤1048576
theorem RC.upd{w0:World}{m:Md}{A:Option Addr}{cp:Nat}{full:List Int}{w w':World}{g:Nat}{C:ak}{S:List Nat}(h:RC w0 m A cp full w g C)(hu:aC S w w')(hg:g∉S)(U:aC [] w0 w') : RC w0 m A cp full w' g C:=by
  obtain⟨h1,h2,h3,⟨k,h4,h5,h6⟩,h7⟩:=h
  exact⟨h1,U,h3,⟨k,hu.blk hg h4,h5,h6⟩,h7⟩
theorem RC.rd{w0:World}{m:Md}{A:Option Addr}{cp:Nat}{full:List Int}{w:World}{g:Nat}{C:ak}(h:RC w0 m A cp full w g C) : b9 m w (.slice A full.length cp) full:=b9.old h.src h.u
theorem RC.rng{w0:World}{m:Md}{A:Option Addr}{cp:Nat}{full:List Int}{w:World}{g:Nat}{C:ak}(h:RC w0 m A cp full w g C) : ∀ x,x∈C.l→0≤x∧x<256:=fun x hx=>by
  obtain⟨k,_,_,h2⟩:=h.cell
  rw[h2] at hx
  exact b9.range h.src x (List.mem_of_mem_drop hx)
theorem wB(C:ak){ok:Bool}{x:Int}(h:(ok || (C.e != 0))=true) : C.need ok x=C:=by
  unfold ak.need
  rw[if_neg]
  rintro⟨h1,rfl⟩
  rw[h1] at h
  cases h
theorem wC(C:ak){ok:Bool}{x:Int}(h:(ok || (C.e != 0))=false) : C.need ok x = { C with e:=x }:=by
  simp only[Bool.or_eq_false_iff,bne_eq_false_iff_eq] at h
  unfold ak.need
  rw[if_pos ⟨h.2,h.1⟩]
def yc (w0:World)(m:Md)(A:Option Addr)(cp:Nat)(full:List Int)(g:Nat)(C:ak)(w:World)(e:Ending)(w':World) : Prop:=e = .returned (.tuple #[])∧RC w0 m A cp full w' g C∧aC [g] w w'
theorem aY{w0:World}{m:Md}{A:Option Addr}{cp:Nat}{full:List Int}{w:World}{g:Nat}{C:ak}(ok:Bool)(x:Int)(hC:RC w0 m A cp full w g C) :
    Calls Tryz.prog 152 #[.pointer (some ⟨g,0,none⟩),.bool ok,.int .i64 x] w (yc w0 m A cp full g (C.need ok x) w):=by
 obtain⟨hsrc,hU,hnew,⟨k,hB,hk,hl⟩,hlen⟩:=hC
 refine en 18 Tryz.func152 rfl<|sq<|sg<|Pl 2<|cu 6 [7] 13 ((ok || (C.e != 0))) (fun K c=>?_) ?_
 refine bl 7 (ok) (fun b=>?_) (fun b=>?_)
 exact Pl 6<|ce c true (by rw[b];rfl)
 exact Pl 3<|L1<|aO hB 3<|Pl 2<|ce c (C.e != 0) (by rw[b];rfl)
 refine nt<|cb ((ok || (C.e != 0))) (fun a=>?_) (fun a=>?_)
 refine rt<|tr<|rr (.tuple #[])<|?_
 rw[wB C a]
 exact⟨rfl,⟨hsrc,hU.trans' (aC.mono (S':=[g]) (aC.refl [] _) ay) (fun x hx=>.inr (by simp at hx;subst hx;exact hnew)),hnew,⟨k,hB,hk,hl⟩,hlen⟩,(aC.mono (S':=[g]) (aC.refl [] _) ay)⟩
 have i:=(aE a).1
 have f:=(aE a).2
 have j:=ag f
 refine bf<|go<|Pl 4<|L0<|bX hB 3 #[.slice A full.length cp,.int .i64 ((k:Nat) : Int),.bool C.sh,.int .i64 x] fun l h d=>nl<|rm (.tuple #[])<|?_
 rw[wC C a]
 exact⟨rfl,⟨hsrc,hU.trans' d (fun x hx=>.inr (by simp at hx;subst hx;exact hnew)),hnew,⟨k,h,hk,hl⟩,hlen⟩,d⟩
theorem jq{C:ak}{full:List Int}{k:Nat}{n:Int}(hk:k≤full.length)(hl:C.l=full.drop k) : C.fails n=((C.sh || decide (n<0))||decide ((((full.length:Nat) : Int)-((k:Nat) : Int))<n)):=by
  unfold ak.fails
  rw[hl,List.length_drop,show((full.length-k:Nat) : Int)=((full.length:Nat) : Int)-((k:Nat) : Int) by omega]
def xg (w0:World)(m:Md)(A:Option Addr)(cp:Nat)(full:List Int)(g:Nat)(C:ak)(n:Int)(w:World)(e:Ending)(w':World) : Prop:=∃ A2 n2 c2,e = .returned (.slice A2 n2 c2)∧(∀ m' w'',b9 m' w'' (.slice A full.length cp) full→b9 m' w'' (.slice A2 n2 c2) (C.bytesR n))∧RC w0 m A cp full w' g (C.bytesC n)∧aC [g] w w'
theorem wR{l full:List Int}{k a b:Nat}(hl:l=full.drop k)(h:b=k+a) : l.drop a=full.drop b:=by
  rw[hl,List.drop_drop,h]
theorem qV{C:ak}{full:List Int}{k:Nat}{n:Int}(hk:k≤full.length)(hl:C.l=full.drop k)(hf:C.fails n=false)(a b:Nat)(ha:(a:Int)=k)(hb:(b:Int)=(k:Int)+n) : (full.take b).drop a=C.bytesR n:=by
  obtain rfl:a=k:=by omega
  unfold ak.bytesR
  rw[hf,hl,List.drop_take]
  show _=(full.drop a).take n.toNat
  rw[show b-a=n.toNat by omega]
theorem qE{w0:World}{m:Md}{A:Option Addr}{cp:Nat}{full:List Int}{w:World}{g:Nat}{C:ak}{n:Int}(hn : -1048576≤n∧n≤2097152)(hC:RC w0 m A cp full w g C) :
    Calls Tryz.prog 153 #[.pointer (some ⟨g,0,none⟩),.int .i64 n] w (xg w0 m A cp full g C n w):=by
 obtain⟨hsrc,hU,hnew,⟨k,hB,hk,hl⟩,hlen⟩:=hC
 have hcp:full.length≤cp:=by obtain⟨_,_,hv,h1,_⟩:=aL.shape hsrc;injection hv with _ _ h3;omega
 refine en 64 Tryz.func153 rfl<|sg<|Pl 1<|nt<|sq<|sq<|Rg 22 (fun w'=>w'.cell? ⟨g,2,none⟩=some (.bool C.sh)∧w'.cell? ⟨g,0,none⟩=some (.slice A full.length cp)∧w'.cell? ⟨g,1,none⟩=some (.int .i64 ((k:Nat) : Int))) fun a4 i=>?_
 have d:=ub i hB
 refine bi ⟨(ae d rfl),(ae d rfl),(ae d rfl)⟩ fun a=>Rt 0 a<|Rt 1 a<|Rt 2 a<|Rl 3 a (fun _ hs=>hs.1)<|Rt 4 a<|tJ 9 (C.sh) (fun j=>?_) (fun j=>?_)
 refine Ro 5 a<|Ro 6 a<|Rt 7 a<|Rt 8 a<|Ro 9 a<|Ro 10 a<|Ro 11 a<|Ro 12 a<|Ro 13 a<|Ro 14 a<|Ro 15 a<|Ro 16 a<|Ro 17 a<|Ro 18 a<|?_
 refine Ro 19 a<|Ro 20 a<|Rt 21 a<|re<|tn<|c1<|sg<|Pl 3<|L0<|bX d 2 #[.slice A full.length cp,.int .i64 ((k:Nat) : Int),.bool true,.int .i64 C.e] fun a5 q D=>ng<|?_
 refine Pl 4<|L0<|aO q 0<|Pl 3<|L0<|bX q 1 #[.slice A full.length cp,.int .i64 ((full.length:Nat) : Int),.bool true,.int .i64 C.e] fun E F G=>ng<|Pl 1<|?_
 have r:=u1 (u1 (aC.mono (S':=[g]) i ay) D im) G im
 have H:RC w0 m A cp full E g { C with l:=[],sh:=true }:=⟨hsrc,hU.trans' r (fun x hx=>.inr (by simp at hx;subst hx;exact hnew)),hnew,⟨full.length,F,Nat.le_refl _,List.drop_length.symm⟩,hlen⟩
 refine L0<|Oc<|m2 (aY false 2 H) fun a6 I J=>ng<|Pl 1<|nt<|rt<|tr<|rr (.slice none 0 0)<|?_
 have hf:C.fails n=true:=by rw[jq (n:=n) hk hl,j];rfl
 have e1:C.bytesR n=[]:=by unfold ak.bytesR;rw[hf];rfl
 have e2:C.bytesC n=ak.need { C with l:=[],sh:=true } false 2:=by unfold ak.bytesC;rw[hf];rfl
 exact⟨none,0,0,rfl,fun _ _ _=>by rw[e1];exact aL.nil ..,by rw[e2];exact I,(u1 r J im)⟩
 refine Rt 5 a<|Rt 6 a<|Rt 7 a<|Rt 8 a<|tJ 13 ((decide (n<0))) (fun f=>?_) (fun f=>?_)
 have K:=of_decide_eq_true f
 refine Ro 9 a<|Ro 10 a<|Ro 11 a<|Ro 12 a<|Ro 13 a<|Ro 14 a<|Ro 15 a<|Ro 16 a<|Ro 17 a<|Ro 18 a<|Ro 19 a<|Ro 20 a<|Rt 21 a<|re<|?_
 refine tn<|c1<|sg<|Pl 3<|L0<|bX d 2 #[.slice A full.length cp,.int .i64 ((k:Nat) : Int),.bool true,.int .i64 C.e] fun a7 s L=>ng<|Pl 4<|L0<|aO s 0<|Pl 3<|L0<|bX s 1 #[.slice A full.length cp,.int .i64 ((full.length:Nat) : Int),.bool true,.int .i64 C.e] fun M N O=>?_
 refine ng<|Pl 1<|?_
 have t:=u1 (u1 (aC.mono (S':=[g]) i ay) L im) O im
 have Q:RC w0 m A cp full M g { C with l:=[],sh:=true }:=⟨hsrc,hU.trans' t (fun x hx=>.inr (by simp at hx;subst hx;exact hnew)),hnew,⟨full.length,N,Nat.le_refl _,List.drop_length.symm⟩,hlen⟩
 refine L0<|Oc<|m2 (aY false 2 Q) fun a8 R S=>ng<|Pl 1<|nt<|rt<|tr<|rr (.slice none 0 0)<|?_
 have hf:C.fails n=true:=by rw[jq (n:=n) hk hl,j,f];rfl
 have e1:C.bytesR n=[]:=by unfold ak.bytesR;rw[hf];rfl
 have e2:C.bytesC n=ak.need { C with l:=[],sh:=true } false 2:=by unfold ak.bytesC;rw[hf];rfl
 exact⟨none,0,0,rfl,fun _ _ _=>by rw[e1];exact aL.nil ..,by rw[e2];exact R,(u1 t S im)⟩
 have K:=of_decide_eq_false f
 refine Rt 9 a<|Rt 10 a<|Rt 11 a<|Rt 12 a<|Rl 13 a (fun _ hs=>hs.2.1)<|Rt 14 a<|Rt 15 a<|Rt 16 a<|Rt 17 a<|Rl 18 a (fun _ hs=>hs.2.2)<|Rr 19 a (.int .i64 (((full.length:Nat) : Int)-((k:Nat) : Int))) (fun _ _=>ch (.int .i64 (IntKind.i64.wrap (((full.length:Nat) : Int)-((k:Nat) : Int)))) (by kernel_rfl) (congrArg (Value.int .i64) (IntWalk.i64_in _ (by omega))))<|Rt 20 a<|Rt 21 a<|re<|?_
 refine tn<|cb ((decide ((((full.length:Nat) : Int)-((k:Nat) : Int))<n))) (fun o=>?_) (fun o=>?_)
 have T:=of_decide_eq_true o
 refine sg<|Pl 3<|L0<|bX d 2 #[.slice A full.length cp,.int .i64 ((k:Nat) : Int),.bool true,.int .i64 C.e] fun a9 u U=>ng<|Pl 4<|L0<|aO u 0<|Pl 3<|L0<|bX u 1 #[.slice A full.length cp,.int .i64 ((full.length:Nat) : Int),.bool true,.int .i64 C.e] fun V W X=>nt<|?_
 refine sg<|Pl 1<|?_
 have v:=u1 (u1 (aC.mono (S':=[g]) i ay) U im) X im
 have Y:RC w0 m A cp full V g { C with l:=[],sh:=true }:=⟨hsrc,hU.trans' v (fun x hx=>.inr (by simp at hx;subst hx;exact hnew)),hnew,⟨full.length,W,Nat.le_refl _,List.drop_length.symm⟩,hlen⟩
 refine L0<|Oc<|m2 (aY false 2 Y) fun aa Z a0=>ng<|Pl 1<|nt<|rt<|tr<|rr (.slice none 0 0)<|?_
 have hf:C.fails n=true:=by rw[jq (n:=n) hk hl,j,f,o];rfl
 have e1:C.bytesR n=[]:=by unfold ak.bytesR;rw[hf];rfl
 have e2:C.bytesC n=ak.need { C with l:=[],sh:=true } false 2:=by unfold ak.bytesC;rw[hf];rfl
 exact⟨none,0,0,rfl,fun _ _ _=>by rw[e1];exact aL.nil ..,by rw[e2];exact Z,(u1 v a0 im)⟩
 have T:=of_decide_eq_false o
 refine bf<|sg<|Pl 4<|L0<|aO d 1<|Pl 1<|L0<|Oi (((k:Nat) : Int)+n)<|Pl 2<|L0<|bX d 1 #[.slice A full.length cp,.int .i64 (((k:Nat) : Int)+n),.bool C.sh,.int .i64 C.e] fun ab a1 a2=>nt<|sq<|Rg 16 (fun w'=>w'.cell? ⟨g,0,none⟩=some (.slice A full.length cp)∧w'.cell? ⟨g,1,none⟩=some (.int .i64 (((k:Nat) : Int)+n))) fun ac y=>?_
 have p:=ub y a1
 refine bi ⟨(ae p rfl),(ae p rfl)⟩ fun b=>Rt 0 b<|Rt 1 b<|Rt 2 b<|Rl 3 b (fun _ hs=>hs.1)<|Rt 4 b<|Rt 5 b<|Rt 6 b<|Rl 7 b (fun _ hs=>hs.2)<|Rt 8 b<|Rr 9 b (.int .i64 ((((k:Nat) : Int)+n)-n)) (fun _ _=>ch (.int .i64 (IntKind.i64.wrap ((((k:Nat) : Int)+n)-n))) (by kernel_rfl) (congrArg (Value.int .i64) (IntWalk.i64_in _ (by omega))))<|Rt 10 b<|Rt 11 b<|Rt 12 b<|?_
 refine Rl 13 b (fun _ hs=>hs.2)<|oT (i4 (P:=Tryz.prog) 22 5 1 Tryz.underlying22 rfl rfl A full.length cp (lo:=((((k:Nat) : Int)+n)-n)) (up:=(((k:Nat) : Int)+n)) ((((((k:Nat) : Int)+n)-n)).toNat) (((((k:Nat) : Int)+n)).toNat) (by omega) (by omega) (by omega) (by omega) (by omega)) fun z hrun69 a3=>Rr 14 b (.slice z ((((((k:Nat) : Int)+n)).toNat)-((((((k:Nat) : Int)+n)-n)).toNat)) (cp-((((((k:Nat) : Int)+n)-n)).toNat))) (fun _ _=>eZ (kl:=.i64) (kh:=.i64) (lo:=((((k:Nat) : Int)+n)-n)) (hi:=(((k:Nat) : Int)+n)) (A:=A) (n:=full.length) (c:=cp) rfl Tryz.underlying22 (by kernel_rfl) (by kernel_rfl) (by kernel_rfl) (hrun69 _ _ _))<|Rt 15 b<|re<|tn<|rt<|rr (.slice z ((((((k:Nat) : Int)+n)).toNat)-((((((k:Nat) : Int)+n)-n)).toNat)) (cp-((((((k:Nat) : Int)+n)-n)).toNat)))<|?_
 have hf:C.fails n=false:=by rw[jq (n:=n) hk hl,j,f,o];rfl
 have B:=aD (u1 (aC.mono (S':=[g]) i ay) a2 im) y
 have e2:C.bytesC n = { C with l:=C.l.drop n.toNat }:=by unfold ak.bytesC;rw[hf];rfl
 exact⟨_,_,_,rfl,fun m' w'' h=>by have:=a3 m' _ _ w'' full h;rw[qV hk hl hf _ _ (by omega) (by omega)] at this;exact this,by rw[e2];exact⟨hsrc,hU.trans' B (fun x hx=>.inr (by simp at hx;subst hx;exact hnew)),hnew,⟨(((k:Nat) : Int)+n).toNat,(by unfold Bg;rw[show((((((k:Nat) : Int)+n).toNat:Nat) : Int))=((k:Nat) : Int)+n by omega];exact p),by omega,wR hl (by omega)⟩,hlen⟩,B⟩
def wn (w0:World)(m:Md)(A:Option Addr)(cp:Nat)(full:List Int)(g:Nat)(C:ak)(n:Int)(w:World)(e:Ending)(w':World) : Prop:=∃ A2 c2,e = .returned (.slice A2 (C.bytesR n).length c2)∧(∀ m' w'',b9 m' w'' (.slice A full.length cp) full→b9 m' w'' (.slice A2 (C.bytesR n).length c2) (C.bytesR n))∧RC w0 m A cp full w' g (C.bytesC n)∧aC [g] w w'
theorem fJ{w0:World}{m:Md}{A:Option Addr}{cp:Nat}{full:List Int}{w:World}{g:Nat}{C:ak}{n:Int}(hn : -1048576≤n∧n≤2097152)(hC:RC w0 m A cp full w g C) : Calls Tryz.prog 153 #[.pointer (some ⟨g,0,none⟩),.int .i64 n] w (wn w0 m A cp full g C n w):=by
  refine(qE hn hC).mono ?_
  rintro e w' ⟨A2,n2,c2,rfl,h1,h2,h3⟩
  obtain⟨_,_,hv,_⟩:=aL.shape (h1 m w0 hC.src)
  injection hv with _ e2 _
  subst e2
  exact⟨A2,c2,rfl,h1,h2,h3⟩
theorem wx{full:List Int}{k:Nat}{C:ak}(hk:k≤full.length)(hl:C.l=full.drop k) : ((full.length:Nat) : Int)-((k:Nat) : Int)=((C.l.length:Nat) : Int):=by
  rw[hl,List.length_drop]
  omega
theorem iU{w0:World}{m:Md}{A:Option Addr}{cp:Nat}{full:List Int}{w:World}{g:Nat}{C:ak}(hC:RC w0 m A cp full w g C) :
    Calls Tryz.prog 161 #[.pointer (some ⟨g,0,none⟩)] w (cG (.int .i64 ((C.l.length:Nat) : Int)) w):=by
 obtain⟨hsrc,hU,hnew,⟨k,hB,hk,hl⟩,hlen⟩:=hC
 have hcp:full.length≤1048576:=hlen
 refine en 13 Tryz.func161 rfl<|sg<|Pl 1<|nt<|sq<|Rg 11 (fun w'=>w'.cell? ⟨g,0,none⟩=some (.slice A full.length cp)∧w'.cell? ⟨g,1,none⟩=some (.int .i64 ((k:Nat) : Int))) fun d b=>?_
 have c:=ub b hB
 refine bi ⟨(ae c rfl),(ae c rfl)⟩ fun a=>Rt 0 a<|Rt 1 a<|Rt 2 a<|Rl 3 a (fun _ hs=>hs.1)<|Rt 4 a<|Rt 5 a<|Rt 6 a<|Rt 7 a<|Rl 8 a (fun _ hs=>hs.2)<|Rr 9 a (.int .i64 (((full.length:Nat) : Int)-((k:Nat) : Int))) (fun _ _=>ch (.int .i64 (IntKind.i64.wrap (((full.length:Nat) : Int)-((k:Nat) : Int)))) (by kernel_rfl) (congrArg (Value.int .i64) (IntWalk.i64_in _ (by omega))))<|Rt 10 a<|re<|tn<|?_
 refine rt<|rr (.int .i64 (((full.length:Nat) : Int)-((k:Nat) : Int)))<|?_
 rw[wx hk hl]
 exact⟨rfl,b⟩
theorem eE{w0:World}{m:Md}{A:Option Addr}{cp:Nat}{full:List Int}{w:World}{g:Nat}{C:ak}(hC:RC w0 m A cp full w g C) :
    Calls Tryz.prog 157 #[.pointer (some ⟨g,0,none⟩)] w (yc w0 m A cp full g C.endC w):=by
 refine en 7 Tryz.func157 rfl<|go<|Pl 2<|L0<|Oc<|m1 (iU hC) fun e a=>?_
 have b:=RC.upd hC a az (aC.step (RC.u hC) a)
 refine Pl 1<|L0<|Oc<|m2 (aY ((((C.l.length:Nat) : Int)==0)) 3 b) fun f c d=>nl<|rm (.tuple #[])<|?_
 exact⟨rfl,c,(u1 (aC.mono (S':=[g]) a ay) d im)⟩
theorem RC.clen{w0:World}{m:Md}{A:Option Addr}{cp:Nat}{full:List Int}{w:World}{g:Nat}{C:ak}(h:RC w0 m A cp full w g C) : C.l.length≤1048576:=by
  obtain⟨k,_,_,h2⟩:=h.cell
  have:=h.len
  rw[h2,List.length_drop]
  omega
theorem si{C:ak}(h:((((C.bytesR 1).length:Nat) : Int)==0)=true) : C.byteV=0:=by
  have hz:C.bytesR 1=[]:=List.eq_nil_of_length_eq_zero (by have:=ah h;omega)
  unfold ak.byteV
  rw[hz]
  rfl
def qg (w0:World)(m:Md)(A:Option Addr)(cp:Nat)(full:List Int)(g:Nat)(q:IntKind)(M x:Int)(C:ak)(w:World)(e:Ending)(w':World) : Prop:=e = .returned (.int q x)∧RC w0 m A cp full w' g C∧aC [g] w w'∧0≤x∧x<M
theorem ed{w0:World}{m:Md}{A:Option Addr}{cp:Nat}{full:List Int}{w:World}{g:Nat}{C:ak}(hC:RC w0 m A cp full w g C) :
    Calls Tryz.prog 151 #[.pointer (some ⟨g,0,none⟩)] w (qg w0 m A cp full g .u8 256 C.byteV (C.bytesC 1) w):=by
 refine en 12 Tryz.func151 rfl<|sg<|Pl 1<|ng<|Pl 1<|L0<|Oc<|pW (fJ (n:=1) (by omega) hC) fun k l o d b c=>?_
 have q:=Nat.le_trans (ak.bytesR_le C 1) (RC.clen hC)
 refine Pl 1<|nt<|sq<|sg<|Pl 3<|nt<|cb (((((C.bytesR 1).length:Nat) : Int)==0)) (fun a=>?_) (fun a=>?_)
 have e:=ah a
 refine sg<|Pl 1<|nt<|rt<|tr<|rr (.int .u8 0)<|?_
 exact⟨by rw[si a],b,c,mV (RC.rng hC)⟩
 have e:=aj a
 refine bf<|sg<|Pl 1<|gh (b9.at_ (d _ _ (RC.rd b)) 0 (by omega)) fun f h i j r=>L0<|m8 ((C.bytesR 1).length) 0 i (by omega)<|L0<|ei (p:=⟨f,h+0,none⟩) (v:=.int .u8 ((C.bytesR 1).getD 0 0)) j<|Pl 1<|nt<|rt<|rr (.int .u8 ((C.bytesR 1).getD 0 0))<|?_
 exact⟨rfl,b,c,mV (RC.rng hC)⟩
theorem s0{C:ak}{full:List Int}{k:Nat}{n:Int}(hk:k≤full.length)(hl:C.l=full.drop k)(h:(decide (n<0)||decide (((full.length:Nat) : Int)<n))=true) : C.wordsR n=cI (C.bytesR (-1))∧C.wordsC n=C.bytesC (-1):=by
  have hb:C.wbad n=true:=by
    unfold ak.wbad
    simp only[Bool.or_eq_true,decide_eq_true_eq] at h ⊢
    rw[hl,List.length_drop]
    omega
  have hf:C.fails (-1)=true:=by
    unfold ak.fails
    simp
  constructor
  · unfold ak.wordsR ak.bytesR
    rw[hb,hf]
    rfl
  · unfold ak.wordsC
    rw[hb]
    rfl
theorem tY{C:ak}{full:List Int}{k:Nat}{n:Int}(hk:k≤full.length)(hl:C.l=full.drop k)(h:(decide (n<0)||decide (((full.length:Nat) : Int)<n))=false) : C.wordsR n=cI (C.bytesR (n+n))∧C.wordsC n=C.bytesC (n+n):=by
  simp only[Bool.or_eq_false_iff,decide_eq_false_iff_not] at h
  by_cases hw:((C.l.length:Int)<n)
  · have hb:C.wbad n=true:=by
      unfold ak.wbad
      simp only[Bool.or_eq_true,decide_eq_true_eq]
      omega
    have hf:C.fails (-1)=true:=by
      unfold ak.fails
      simp
    have hf2:C.fails (n+n)=true:=by
      unfold ak.fails
      simp only[Bool.or_eq_true,decide_eq_true_eq]
      omega
    constructor
    · unfold ak.wordsR ak.bytesR
      rw[hb,hf2]
      rfl
    · unfold ak.wordsC
      rw[hb]
      unfold ak.bytesC
      rw[hf2,hf]
      rfl
  · have hb:C.wbad n=false:=by
      unfold ak.wbad
      simp only[Bool.or_eq_false_iff,decide_eq_false_iff_not]
      omega
    constructor
    · unfold ak.wordsR
      rw[hb,show 2*n=n+n by omega]
      rfl
    · unfold ak.wordsC
      rw[hb,show 2*n=n+n by omega]
      rfl
def ww (w0:World)(m:Md)(A:Option Addr)(cp:Nat)(full:List Int)(g:Nat)(C:ak)(n:Int)(w:World)(e:Ending)(w':World) : Prop:=∃ v,e = .returned v∧kQ w.heap.size w' v (C.wordsR n)∧RC w0 m A cp full w' g (C.wordsC n)∧aC [g] w w'
theorem gz{w0:World}{m:Md}{A:Option Addr}{cp:Nat}{full:List Int}{w:World}{g:Nat}{C:ak}{n:Int}(hn : -1048576≤n∧n≤1048576)(hC:RC w0 m A cp full w g C) :
    Calls Tryz.prog 158 #[.pointer (some ⟨g,0,none⟩),.int .i64 n] w (ww w0 m A cp full g C n w):=by
 have hC0:=hC
 obtain⟨hsrc,hU,hnew,⟨k,hB,hk,hl⟩,hlen⟩:=hC0
 refine en 25 Tryz.func158 rfl<|sg<|Pl 1<|nt<|sq<|sg<|Pl 3<|cu 8 [7] 15 (((decide (n<0))||(decide (((full.length:Nat) : Int)<n)))) (fun K h=>?_) ?_
 refine bl 7 ((decide (n<0))) (fun a=>?_) (fun a=>?_)
 have l:=of_decide_eq_true a
 exact Pl 8<|ce h true (by rw[a];rfl)
 have l:=of_decide_eq_false a
 exact Pl 4<|L1<|aO hB 0<|Pl 3<|ce h (decide (((full.length:Nat) : Int)<n)) (by rw[a];rfl)
 refine nt<|cb (((decide (n<0))||(decide (((full.length:Nat) : Int)<n)))) (fun b=>?_) (fun b=>?_)
 refine sg<|Pl 1<|?_
 have o:=RC.upd hC (aC.refl [] _) az (aC.step hC.u (aC.refl [] _))
 refine L0<|Oc<|pW (fJ (n:=-1) (by omega) o) fun E F G p c i=>?_
 have H:=Nat.le_trans (ak.bytesR_le C (-1)) (RC.clen hC)
 refine L0<|Oc<|dG (xY (p _ _ (RC.rd c)) (by omega)) fun q r I s J L d=>Pl 1<|nt<|rt<|tr<|rr (.slice q ((cI (C.bytesR (-1))).length) r)<|?_
 have hw:=s0 hk hl b
 exact⟨_,rfl,by rw[hw.1];exact(aS.weaken s i.size),by rw[hw.2];exact(RC.upd c d az (aC.step (RC.u c) d)),(aD i d)⟩
 have t:=(aE b).1
 have v:=(aE b).2
 have M:=of_decide_eq_false t
 have N:=of_decide_eq_false v
 refine bf<|sg<|Pl 3<|L0<|Oi (n+n)<|?_
 have x:=RC.upd hC (aC.refl [] _) az (aC.step hC.u (aC.refl [] _))
 refine L0<|Oc<|pW (fJ (n:=(n+n)) (by omega) x) fun O P Q y e j=>?_
 have R:=Nat.le_trans (ak.bytesR_le C (n+n)) (RC.clen hC)
 refine L0<|Oc<|dG (xY (y _ _ (RC.rd e)) (by omega)) fun z B S D T U f=>Pl 1<|nt<|rt<|rr (.slice z ((cI (C.bytesR (n+n))).length) B)<|?_
 have hw:=tY hk hl b
 exact⟨_,rfl,by rw[hw.1];exact(aS.weaken D j.size),by rw[hw.2];exact(RC.upd e f az (aC.step (RC.u e) f)),(aD j f)⟩
theorem tu{C:ak}(h:((((C.wordsR 1).length:Nat) : Int)==0)=true) : C.wordV=0:=by
  have hz:C.wordsR 1=[]:=List.eq_nil_of_length_eq_zero (by have:=ah h;omega)
  unfold ak.wordV
  rw[hz]
  rfl
theorem cO{w0:World}{m:Md}{A:Option Addr}{cp:Nat}{full:List Int}{w:World}{g:Nat}{C:ak}(hC:RC w0 m A cp full w g C) :
    Calls Tryz.prog 154 #[.pointer (some ⟨g,0,none⟩)] w (qg w0 m A cp full g .u16 65536 C.wordV (C.wordsC 1) w):=by
 refine en 12 Tryz.func154 rfl<|sg<|Pl 1<|ng<|Pl 1<|L0<|Oc<|nW (gz (n:=1) (by omega) hC) fun k l o d q r b c=>Pl 1<|nt<|sq<|?_
 refine sg<|Pl 3<|nt<|cb (((((C.wordsR 1).length:Nat) : Int)==0)) (fun a=>?_) (fun a=>?_)
 have e:=ah a
 refine sg<|Pl 1<|nt<|rt<|tr<|rr (.int .u16 0)<|?_
 exact⟨by rw[tu a],b,c,bN (RC.rng hC)⟩
 have e:=aj a
 refine bf<|sg<|Pl 1<|gh (dU.at_ (d).rd 0 (by omega)) fun f h i j s=>L0<|m8 ((C.wordsR 1).length) 0 i (by omega)<|L0<|ei (p:=⟨f,h+0,none⟩) (v:=.int .u16 ((C.wordsR 1).getD 0 0)) j<|Pl 1<|nt<|rt<|rr (.int .u16 ((C.wordsR 1).getD 0 0))<|?_
 exact⟨rfl,b,c,bN (RC.rng hC)⟩
theorem fY{w0:World}{m:Md}{A:Option Addr}{cp:Nat}{full:List Int}{w:World}{g:Nat}{C:ak}{G:Prop}(h:RC w0 m A cp full w g C)(k:∀ x,C=x→RC w0 m A cp full w g x→G) : G:=k C rfl h
open Go.RowKit
theorem sH{x:Int}(hx:0≤x∧x<65536) : eA x=((decide (x≤4)||(decide (10≤x)&&decide (x≤18)))||x==20):=by
  unfold eA
  rw[Bool.eq_iff_iff]
  simp only[decide_eq_true_eq,List.mem_cons,List.not_mem_nil,or_false,Bool.or_eq_true,Bool.and_eq_true,beq_iff_eq]
  omega
theorem mI{x:Int}(hx:0≤x∧x<256) : cF x=((((decide (1≤x)&&decide (x≤6))||x==8)||x==10)||x==11):=by
  unfold cF
  rw[Bool.eq_iff_iff]
  simp only[decide_eq_true_eq,List.mem_cons,List.not_mem_nil,or_false,Bool.or_eq_true,Bool.and_eq_true,beq_iff_eq]
  omega
theorem A7{x:Int}{w:World}(hx:0≤x∧x<65536) : Calls Tryz.prog 160 #[.int .u16 x] w (cG (.bool (eA x)) w):=by
 refine en 17 Tryz.func160 rfl<|sg<|Pl 1<|ng<|Pl 3<|cu 7 [5] 12 (((decide (x≤4))||((decide (10≤x))&&(decide (x≤18))))) (fun K d=>?_) ?_
 refine bl 5 ((decide (x≤4))) (fun a=>?_) (fun a=>?_)
 have g:=of_decide_eq_true a
 exact Pl 7<|ce d true (by rw[a];rfl)
 have g:=of_decide_eq_false a
 refine Pl 3<|cu 3 [8] 11 (((decide (10≤x))&&(decide (x≤18)))) (fun K e=>?_) ?_
 refine bl 8 ((decide (10≤x))) (fun b=>?_) (fun b=>?_)
 have h:=of_decide_eq_true b
 exact Pl 3<|ce e (decide (x≤18)) (by rw[b];rfl)
 have h:=of_decide_eq_false b
 exact Pl 3<|ce e false (by rw[b];rfl)
 exact Pl 1<|ce d ((decide (10≤x))&&(decide (x≤18))) (by rw[a];rfl)
 refine Pl 1<|cu 3 [13] 16 ((((decide (x≤4))||((decide (10≤x))&&(decide (x≤18))))||(x==20))) (fun K f=>?_) ?_
 refine bl 13 (((decide (x≤4))||((decide (10≤x))&&(decide (x≤18))))) (fun c=>?_) (fun c=>?_)
 exact Pl 3<|ce f true (by rw[c];rfl)
 have i:=(aE c).1
 have j:=(aE c).2
 have k:=of_decide_eq_false i
 exact Pl 3<|ce f (x==20) (by rw[c];rfl)
 refine Pl 1<|nt<|rt<|rr (.bool (((decide (x≤4))||((decide (10≤x))&&(decide (x≤18))))||(x==20)))<|?_
 rw[sH hx]
 have hs:((decide (x≤4)||(decide (10≤x)&&decide (x≤18)))||x==20)=(((decide (x≤4))||((decide (10≤x))&&(decide (x≤18))))||(x==20)):=by(try simp only[Bool.true_or,Bool.false_or,Bool.true_and,Bool.false_and,Bool.or_true,Bool.or_false]);all_goals rfl
 rw[hs]
 exact⟨rfl,(aC.refl [] _)⟩
theorem uZ{x:Int}{w:World}(hx:0≤x∧x<256) : Calls Tryz.prog 149 #[.int .u8 x] w (cG (.bool (cF x)) w):=by
 refine en 21 Tryz.func149 rfl<|sg<|Pl 1<|ng<|Pl 3<|cu 3 [5] 8 (((decide (1≤x))&&(decide (x≤6)))) (fun K e=>?_) ?_
 refine bl 5 ((decide (1≤x))) (fun a=>?_) (fun a=>?_)
 have j:=of_decide_eq_true a
 exact Pl 3<|ce e (decide (x≤6)) (by rw[a];rfl)
 have j:=of_decide_eq_false a
 exact Pl 3<|ce e false (by rw[a];rfl)
 refine Pl 1<|cu 3 [9] 12 ((((decide (1≤x))&&(decide (x≤6)))||(x==8))) (fun K f=>?_) ?_
 refine bl 9 (((decide (1≤x))&&(decide (x≤6)))) (fun b=>?_) (fun b=>?_)
 have k:=(aT b).1
 have l:=(aT b).2
 have p:=of_decide_eq_true k
 have q:=of_decide_eq_true l
 exact Pl 3<|ce f true (by rw[b];rfl)
 exact Pl 3<|ce f (x==8) (by rw[b];rfl)
 refine Pl 1<|cu 3 [13] 16 (((((decide (1≤x))&&(decide (x≤6)))||(x==8))||(x==10))) (fun K g=>?_) ?_
 refine bl 13 ((((decide (1≤x))&&(decide (x≤6)))||(x==8))) (fun c=>?_) (fun c=>?_)
 exact Pl 3<|ce g true (by rw[c];rfl)
 have r:=(aE c).1
 have m:=(aE c).2
 have s:=aj m
 exact Pl 3<|ce g (x==10) (by rw[c];rfl)
 refine Pl 1<|cu 3 [17] 20 ((((((decide (1≤x))&&(decide (x≤6)))||(x==8))||(x==10))||(x==11))) (fun K h=>?_) ?_
 refine bl 17 (((((decide (1≤x))&&(decide (x≤6)))||(x==8))||(x==10))) (fun d=>?_) (fun d=>?_)
 exact Pl 3<|ce h true (by rw[d];rfl)
 have i:=(aE d).1
 have n:=(aE d).2
 have t:=(aE i).1
 have o:=(aE i).2
 have q16abp:=aj o
 have u:=aj n
 exact Pl 3<|ce h (x==11) (by rw[d];rfl)
 refine Pl 1<|nt<|rt<|rr (.bool (((((decide (1≤x))&&(decide (x≤6)))||(x==8))||(x==10))||(x==11)))<|?_
 rw[mI hx]
 have hs:((((decide (1≤x)&&decide (x≤6))||x==8)||x==10)||x==11)=(((((decide (1≤x))&&(decide (x≤6)))||(x==8))||(x==10))||(x==11)):=by(try simp only[Bool.true_or,Bool.false_or,Bool.true_and,Bool.false_and,Bool.or_true,Bool.or_false]);all_goals rfl
 rw[hs]
 exact⟨rfl,(aC.refl [] _)⟩
theorem iM{dir sub v:Int}:fs dir sub v=if sub==1 then (v==0 || v==65280) else if sub==3 then v%256==0 else if dir==1&&(sub==2 || (decide (11≤sub)&&decide (sub≤18))) then true else v==0:=by
  unfold fs
  by_cases h1:sub=1
  · subst h1
    rfl
  by_cases h3:sub=3
  · subst h3
    rfl
  have e1:(sub==1)=false:=by simpa using h1
  have e3:(sub==3)=false:=by simpa using h3
  rw[e1,e3,Bool.and_comm]
  rfl
theorem zX{dir sub v:Int}{w:World}(hv:0≤v∧v<65536) : Calls Tryz.prog 162 #[.int .i64 dir,.int .u16 sub,.int .u16 v] w (cG (.bool (fs dir sub v)) w):=by
 refine en 39 Tryz.func162 rfl<|sg<|Pl 1<|nt<|sq<|bk<|sg<|Pl 3<|nt<|cb ((sub==1)) (fun a=>?_) (fun a=>?_)
 have m:=ah a
 refine sg<|Pl 3<|cu 3 [12] 15 (((v==0)||(v==65280))) (fun K h=>?_) ?_
 refine bl 12 ((v==0)) (fun c=>?_) (fun c=>?_)
 have n:=ah c
 exact Pl 3<|ce h true (by rw[c];rfl)
 have n:=aj c
 exact Pl 3<|ce h (v==65280) (by rw[c];rfl)
 refine Pl 1<|nt<|rt<|br<|tr<|rr (.bool ((v==0)||(v==65280)))<|?_
 have hs:fs dir sub v=((v==0)||(v==65280)):=by
   rw[iM]
   (try simp only[a,bs,if_true,if_false,decide_true,decide_false,reduceIte])
   all_goals rfl
 rw[hs]
 exact⟨rfl,(aC.refl [] _)⟩
 have m:=aj a
 refine sg<|Pl 3<|nt<|cb ((sub==3)) (fun b=>?_) (fun b=>?_)
 have o:=ah b
 refine sg<|Pl 1<|L0<|Oe (.int .u16 (Int.tmod v 256)) (.int .u16 (v%256)) (congrArg (Value.int .u16) (Int.tmod_eq_emod_of_nonneg (by omega)))<|Pl 2<|nt<|rt<|br<|tr<|rr (.bool ((v%256)==0))<|?_
 have hs:fs dir sub v=((v%256)==0):=by
   rw[iM]
   (try simp only[a,b,bs,if_true,if_false,decide_true,decide_false,reduceIte])
   all_goals rfl
 rw[hs]
 exact⟨rfl,(aC.refl [] _)⟩
 have o:=aj b
 refine sg<|Pl 3<|cu 11 [25] 36 (((dir==1)&&((sub==2)||((decide (11≤sub))&&(decide (sub≤18)))))) (fun K i=>?_) ?_
 refine bl 25 ((dir==1)) (fun d=>?_) (fun d=>?_)
 have p:=ah d
 refine Pl 3<|cu 7 [28] 35 (((sub==2)||((decide (11≤sub))&&(decide (sub≤18))))) (fun K j=>?_) ?_
 refine bl 28 ((sub==2)) (fun e=>?_) (fun e=>?_)
 have q:=ah e
 exact Pl 7<|ce j true (by rw[e];rfl)
 have q:=aj e
 refine Pl 3<|cu 3 [31] 34 (((decide (11≤sub))&&(decide (sub≤18)))) (fun K k=>?_) ?_
 refine bl 31 ((decide (11≤sub))) (fun f=>?_) (fun f=>?_)
 have r:=of_decide_eq_true f
 exact Pl 3<|ce k (decide (sub≤18)) (by rw[f];rfl)
 have r:=of_decide_eq_false f
 exact Pl 3<|ce k false (by rw[f];rfl)
 exact Pl 1<|ce j ((decide (11≤sub))&&(decide (sub≤18))) (by rw[e];rfl)
 exact Pl 1<|ce i ((sub==2)||((decide (11≤sub))&&(decide (sub≤18)))) (by rw[d];rfl)
 have p:=aj d
 exact Pl 11<|ce i false (by rw[d];rfl)
 refine Pl 1<|nt<|cb (((dir==1)&&((sub==2)||((decide (11≤sub))&&(decide (sub≤18)))))) (fun g=>?_) (fun g=>?_)
 have l:=(aT g).1
 have s:=(aT g).2
 have t:=ah l
 refine sg<|Pl 1<|nt<|rt<|br<|tr<|rr (.bool true)<|?_
 have hs:fs dir sub v=true:=by
   rw[iM]
   (try simp only[a,b,g,l,s,bs,if_true,if_false,decide_true,decide_false,reduceIte])
   all_goals rfl
 rw[hs]
 exact⟨rfl,(aC.refl [] _)⟩
 refine sk<|bn<|tn<|sg<|Pl 3<|nt<|rt<|rr (.bool (v==0))<|?_
 have hs:fs dir sub v=(v==0):=by
   rw[iM]
   (try simp only[a,b,g,bs,if_true,if_false,decide_true,decide_false,reduceIte])
   all_goals rfl
 rw[hs]
 exact⟨rfl,(aC.refl [] _)⟩
open Go.RowKit
theorem RC.lt{w0:World}{m:Md}{A:Option Addr}{cp:Nat}{full:List Int}{w:World}{g:Nat}{C:ak}(h:RC w0 m A cp full w g C) : g<w.heap.size:=by
  obtain⟨k,h1,_⟩:=h.cell
  exact am h1
theorem RC.fld{w0:World}{m:Md}{A:Option Addr}{cp:Nat}{full:List Int}{w:World}{g:Nat}{C:ak}(h:RC w0 m A cp full w g C) : w.cell? ⟨g,3,none⟩=some (.int .i64 C.e):=by
  obtain⟨k,h1,_⟩:=h.cell
  rw[bt h1]
  rfl
theorem u4{c:Int}{C:ak}(h:(((c==3)||(c==4))||(c==23))=true) : aM 1 c C=some (cm c C):=by
  unfold aM
  by_cases h1:(c==3 || c==4)=true
  · rw[if_pos h1]
    rfl
  · rw[if_neg h1]
    have h2:c=23:=by
      simp only[Bool.or_eq_true,beq_iff_eq] at h h1
      omega
    subst h2
    rfl
theorem rF{n m:Int}:((n%2==0&&decide (0<n))&&decide (n≤m))=iv n m:=by
  unfold iv
  rw[Bool.eq_iff_iff]
  simp only[Bool.and_eq_true,decide_eq_true_eq,beq_iff_eq]
  omega
theorem rW{a k:Int}:(a==2*k+2)=(2+2*k==a):=by
  rw[Bool.eq_iff_iff]
  simp only[beq_iff_eq]
  omega
theorem fa{x:Int}:decide (0<x)=decide (1≤x):=by
  rw[Bool.eq_iff_iff]
  simp only[decide_eq_true_eq]
  omega
theorem l9{w0:World}{m:Md}{A:Option Addr}{cp:Nat}{full:List Int}{w:World}{g:Nat}{C:ak}{a most:Int}(ha:0≤a∧a<65536)(hC:RC w0 m A cp full w g C) :
    Calls Tryz.prog 159 #[.pointer (some ⟨g,0,none⟩),.int .u16 a,.int .i64 most] w (qg w0 m A cp full g .i64 65536 C.wordV (bG C a most) w):=by
 have hrng:=bN (RC.rng hC)
 refine en 26 Tryz.func159 rfl<|sg<|Pl 1<|ng<|Pl 1<|L0<|Oc<|m3 (cO hC) fun r f h s=>L0<|Oi C.wordV<|Pl 1<|nt<|?_
 refine sg<|Pl 4<|cu 4 [14] 18 (((decide (0<C.wordV))&&(decide (C.wordV≤most)))) (fun K d=>?_) ?_
 refine bl 14 ((decide (0<C.wordV))) (fun b=>?_) (fun b=>?_)
 have i:=of_decide_eq_true b
 exact Pl 4<|ce d (decide (C.wordV≤most)) (by rw[b];rfl)
 have i:=of_decide_eq_false b
 exact Pl 4<|ce d false (by rw[b];rfl)
 refine L0<|Oc<|m2 (aY (((decide (0<C.wordV))&&(decide (C.wordV≤most)))) 5 f) fun j k l=>?_
 refine fY k fun x19 o e=>?_
 refine ng<|Pl 3<|L0<|Oc<|m1 (rE (a:=a) (n:=C.wordV) (w:=j) (by omega) (by omega)) fun t c=>?_
 refine L0<|Oc<|m2 (aY ((dx a C.wordV)) 7 (RC.upd e c az (aC.step (RC.u e) c))) fun v p q=>ng<|Pl 2<|nt<|rt<|rr (.int .i64 C.wordV)<|?_
 subst o
 have e1:bG C a most=((C.wordsC 1).need (decide (0<C.wordV)&&decide (C.wordV≤most)) 5).need (dx a C.wordV) 7:=by unfold bG;rw[← fa]
 rw[e1]
 exact⟨rfl,p,(u1 h (u1 l (uz c q) im) im),hrng⟩
theorem aL.upd0{α:Type}{m:Md}{e:TypeId}{sz:Nat}{R R':World→α→List Value→Prop}{w:World}{v:Value}{xs:List α}(h:aL m e sz R w v xs)(hR:∀ x cs,R w x cs→R' w x cs) : aL m e sz R' w v xs:=by
  obtain⟨A,c,rfl,h1,h2,h0,h3⟩:=h
  refine⟨A,c,rfl,h1,h2,h0,fun hp=>?_⟩
  obtain⟨b,off,cells,t,fr,rfl,hb,ht,hx⟩:=h3 hp
  exact⟨b,off,cells,t,fr,rfl,hb,ht,fun j x hj=>by obtain⟨cs,hl,hr,hc⟩:=hx j x hj;exact⟨cs,hl,hR _ _ hr,hc⟩⟩
def pi (v0:Value)(b:List Int)(w:World)(o:Obj)(cs:List Value) : Prop:=∃ A n c,cs=[.int .u8 o.id,.slice A n c]∧(∀ m' w',b9 m' w' v0 b→b9 m' w' (.slice A n c) o.value)∧B8 o.id
theorem pi.ones{v0:Value}{b:List Int}{w:World}(x:Obj)(cs:List Value)(h:pi v0 b w x cs) : ∀ v,v∈cs→v.oneCell'=true:=by
  obtain⟨A,n,c,rfl,h2,_⟩:=h
  intro u hu
  simp at hu
  rcases hu with rfl|rfl<;>rfl
def cN (v0:Value)(b:List Int)(w:World)(cs:List Value)(M:aP) : Prop :=
  ∃ vw vb vd vr vo,cs=bu M vw vb vd vr vo∧dU true w vw M.words∧ii true w vb M.bits∧(∀ m' w',b9 m' w' v0 b→b9 m' w' vd M.data)∧ma true w vr M.recs∧aL true 111 2 (pi v0 b) w vo M.objects∧fb M
theorem cN.rd{v0:Value}{b:List Int}{m:Md}{w:World}{cs:List Value}{M:aP}(h:cN v0 b w cs M)(hb:b9 m w v0 b) : aH false w cs M:=by
  obtain⟨vw,vb,vd,vr,vo,h0,h1,h2,h3,h4,h5,h6⟩:=h
  exact⟨vw,vb,vd,vr,vo,h0,aL.any h1 fun _ _ q=>q,aL.any h2 fun _ _ q=>q,aL.any (h3 _ _ hb) fun _ _ q=>q,aL.any h4 fun r cs ⟨v,a,b,c⟩=>⟨v,a,aL.any b fun _ _ q=>q,c⟩,aL.any h5 fun r cs ⟨A,n,k,a,b,c⟩=>⟨_,a,aL.any (b _ _ hb) fun _ _ q=>q,c⟩,h6⟩
theorem cN.rdt{v0:Value}{b:List Int}{w:World}{cs:List Value}{M:aP}(h:cN v0 b w cs M)(hb:b9 true w v0 b) : aH true w cs M:=by
  obtain⟨vw,vb,vd,vr,vo,h0,h1,h2,h3,h4,h5,h6⟩:=h
  exact⟨vw,vb,vd,vr,vo,h0,h1,h2,h3 _ _ hb,h4,aL.upd0 h5 fun r cs ⟨A,n,k,a,b,c⟩=>⟨_,a,b _ _ hb,c⟩,h6⟩
theorem cN.sub{v0 v1:Value}{b b1:List Int}{w:World}{cs:List Value}{M:aP}(h:cN v1 b1 w cs M)(hv:∀ m' w',b9 m' w' v0 b→b9 m' w' v1 b1) : cN v0 b w cs M:=by
  obtain⟨vw,vb,vd,vr,vo,h0,h1,h2,h3,h4,h5,h6⟩:=h
  exact⟨vw,vb,vd,vr,vo,h0,h1,h2,fun m' w' q=>h3 _ _ (hv _ _ q),h4,aL.upd0 h5 fun r cs ⟨A,n,k,a,b,c⟩=>⟨A,n,k,a,fun m' w' q=>b _ _ (hv _ _ q),c⟩,h6⟩
theorem cN.upd{v0:Value}{b:List Int}{w w':World}{cs:List Value}{M:aP}{S:List Nat}(h:cN v0 b w cs M)(hu:aC S w w')(hs:de true mJ S w) : cN v0 b w' cs M:=by
  obtain⟨vw,vb,vd,vr,vo,h0,h1,h2,h3,h4,h5,h6⟩:=h
  exact⟨vw,vb,vd,vr,vo,h0,dU.upd' h1 hu (hs.sub (by decide)),ii.upd' h2 hu (hs.sub (by decide)),h3,ma.upd' h4 hu hs,aL.upd h5 hu (hs.sub (by decide)) (fun _ _ q=>q),h6⟩
theorem cN.zero(v0:Value)(b:List Int)(w:World) : cN v0 b w mn.toList aP.zero:=by
  obtain⟨vw,vb,vd,vr,vo,h0,h1,h2,h3,h4,h5,h6⟩:=aH.zero true w
  exact⟨_,_,_,_,_,rfl,aL.nil ..,aL.nil ..,(fun _ _ _=>aL.nil ..),aL.nil ..,aL.nil ..,h6⟩
theorem cN.size{v0:Value}{b:List Int}{w:World}{cs:Array Value}{M:aP}(h:cN v0 b w cs.toList M) : cs.size=22:=by
  obtain⟨vw,vb,vd,vr,vo,h0,_⟩:=h
  rw[← Array.length_toList,h0]
  rfl
theorem cN.one{v0:Value}{b:List Int}{w w2:World}{m:Md}{cs:Array Value}{M:aP}(h:cN v0 b w cs.toList M)(hb:b9 m w2 v0 b) : cs.all (·.oneCell')=true:=by
  obtain⟨vw,vb,vd,vr,vo,h0,h1,h2,h3,h4,h5,h6⟩:=h
  rw[← Array.all_toList,h0]
  obtain⟨_,_,rfl,_⟩:=h1
  obtain⟨_,_,rfl,_⟩:=h2
  obtain⟨_,_,rfl,_⟩:=h3 _ _ hb
  obtain⟨_,_,rfl,_⟩:=h4
  obtain⟨_,_,rfl,_⟩:=h5
  rfl
def cy (v0:Value)(b:List Int)(res:aP × Int)(w:World)(e:Ending)(w':World) : Prop:=∃ cs,e = .returned (.tuple #[.agg cs,.int .i64 res.2])∧cN v0 b w' cs.toList res.1∧aC [] w w'
theorem bo{v0:Value}{b:List Int}{M:aP}{c:ak}{w W:World}{cs:Array Value}(h0:c.endC.e=0)(h:cN v0 b W cs.toList M)(hu:aC [] w W) : cy v0 b (b6 M c) w (.returned (.tuple #[.agg cs,.int .i64 0])) W:=by
  unfold b6
  rw[if_pos h0]
  exact⟨cs,rfl,h,hu⟩
theorem bg{v0:Value}{b:List Int}{M:aP}{c:ak}{w W:World}(h0:¬ c.endC.e=0)(hu:aC [] w W) : cy v0 b (b6 M c) w (.returned (.tuple #[.agg mn,.int .i64 c.endC.e])) W:=by
  unfold b6
  rw[if_neg h0]
  exact⟨mn,rfl,cN.zero ..,hu⟩
theorem bv{v0:Value}{b:List Int}{x:Int}{w W:World}(hu:aC [] w W) : cy v0 b (aP.zero,x) w (.returned (.tuple #[.agg mn,.int .i64 x])) W:=⟨mn,rfl,cN.zero ..,hu⟩
theorem mv{m:Md}{A:Option Addr}{cp:Nat}{b:List Int}{w:World}{c:Int}(hcode:B8 c)(hsl:b9 m w (.slice A b.length cp) b)(hb:b.length≤1048576) :
    Calls Tryz.prog 94 #[.int .i64 0,.int .u8 c,.slice A b.length cp] w (cy (.slice A b.length cp) b (ai aM 0 c b) w):=by
 obtain⟨hcode1,hcode2⟩:=hcode
 have hln:(b.length:Int)≤1048576:=by omega
 refine en 221 Tryz.func94 rfl<|sg<|L0<|bH mZ fun eG eH r j f=>Pl 1<|nt<|sq<|sg<|Pl 6<|nt<|c0<|?_
 refine bf<|sg<|Pl 2<|L0<|dv #[.slice A b.length cp,.int .i64 0,.bool false,.int .i64 0] fun l eI d o i=>Pl 1<|ng<|Pl 2<|L0<|bH mZ fun eJ eK g a8 z=>L0<|b7 a8 (mC c) fun a4 a5 s=>?_
 refine nt<|sq<|bk<|sg<|Pl 15<|nt<|c0<|sg<|Pl 3<|cu 3 [68] 71 (((c==3)||(c==4))) (fun K bM=>?_) ?_
 refine bl 68 ((c==3)) (fun a9=>?_) (fun a9=>?_)
 have de:=ah a9
 exact Pl 3<|ce bM true (by rw[a9];rfl)
 have de:=aj a9
 exact Pl 3<|ce bM (c==4) (by rw[a9];rfl)
 refine Pl 1<|nt<|?_
 have W:=ud z s g
 have q:=aD i W
 have t:=aD f q
 refine cb (((c==3)||(c==4))) (fun y=>?_) (fun y=>?_)
 refine sg<|Pl 1<|?_
 have df:RC w _ A cp b a4 l (ak.mk b false 0):=⟨hsl,t,(Nat.le_trans f.size d),⟨0,(ub W o),Nat.zero_le _,rfl⟩,by omega⟩
 refine L0<|Oc<|m3 (cO df) fun eL dg bN eM=>Pl 1<|?_
 have ab:=nb (am o) lr g
 refine L0<|bX (aW bN (Ne.symm ab) a5) 2 (mG c 0 ((ak.mk b false 0).wordV) 0 0 0 0 0 0 0 0 0 nS nS nS nS 0 0 0 0 0 nS) fun eN bP bQ=>nt<|go<|Pl 2<|L0<|aO bP 2<|?_
 have aT:=us bN bQ
 have bR:=ut t aT (ac (ni f.size d) (ac (ni (le f.size i.size) g) ay))
 refine L0<|Oc<|m3 (l9 (a:=(ak.mk b false 0).wordV) (most:=125) (by omega) (RC.upd dg bQ (aa ab az) bR)) fun eO dh bS eP=>?_
 refine fY dh fun x52 di dj=>?_
 refine L0<|zw (((ak.mk b false 0).wordsC 1).wordV)<|Pl 1<|?_
 refine L0<|bX (aW bS (Ne.symm ab) bP) 3 (mG c 0 ((ak.mk b false 0).wordV) (((ak.mk b false 0).wordsC 1).wordV) 0 0 0 0 0 0 0 0 nS nS nS nS 0 0 0 0 0 nS) fun eQ dk bT=>nl<|bn<|tn<|sg<|Pl 1<|?_
 have aU:=us bS bT
 have bU:=ut bR aU (ac (ni f.size d) (ac (ni (le f.size i.size) g) ay))
 refine L0<|Oc<|m2 (eE (RC.upd dj bT (aa ab az) bU)) fun eR aV aw=>nt<|sq<|sg<|Pl 3<|L0<|ei (p:=⟨l,3,none⟩) (v:=.int .i64 x52.endC.e) (RC.fld aV)<|Pl 1<|nt<|?_
 have bV:=ud bU aw (le f.size d)
 have hs:ai aM 0 c b=b6 (aP.mk c 0 ((ak.mk b false 0).wordV) (((ak.mk b false 0).wordsC 1).wordV) 0 0 0 0 0 0 0 0 [] [] [] [] 0 0 0 0 0 []) x52:=by
   subst di
   unfold ai aM bZ cm dN d8 cS d9 d7 kN
   (try simp only[y,bs,if_true,if_false,decide_true,decide_false,eq_self,true_or,or_true,or_false,false_or,if_true,if_false,dE,dC,dD,dF,reduceIte,rF,rW])
   all_goals rfl
 refine cb ((x52.endC.e != 0)) (fun aX=>?_) (fun aX=>?_)
 have aZ:=ax aX
 refine sq<|Rg 7 (fun w'=>w'.cell? ⟨l,3,none⟩=some (.int .i64 x52.endC.e)) fun eS aA=>?_
 have bW:=RC.upd aV aA az (aC.step (RC.u aV) aA)
 refine bi (RC.fld bW) fun ad=>Rt 0 ad<|Rt 1 ad<|Rt 2 ad<|Rt 3 ad<|Rl 4 ad (fun _ hs=>hs)<|?_
 refine R0 5 rfl<|b7 (ub (ut q (ut aT (u1 aU (aD aw aA) im) (ac im (ac im ay))) (ac (nr d) (ac (ni i.size g) ay))) j) mZ fun eT dl bY=>?_
 have c2:=ud bV (uz aA bY) r
 refine bi (RC.fld (RC.upd bW bY (aa (Ne.symm (nb (am j) lr d)) az) c2)) fun dm=>Rt 6 dm<|re<|tn<|rt<|tr<|bJ dl (.int .i64 x52.endC.e)<|?_
 rw[hs]
 exact bg aZ c2
 have aZ:=ag aX
 refine bf<|sg<|?_
 refine L0<|bO (aW aw (Ne.symm ab) dk)<|?_
 refine L0<|b7 (ub (ut q (ut aT (u1 aU aw im) (ac im (ac im ay))) (ac (nr d) (ac (ni i.size g) ay))) j) (mG c 0 ((ak.mk b false 0).wordV) (((ak.mk b false 0).wordsC 1).wordV) 0 0 0 0 0 0 0 0 nS nS nS nS 0 0 0 0 0 nS) fun eU dn dp=>Pl 1<|nt<|rt<|bJ dn (.int .i64 0)<|?_
 rw[hs]
 exact bo aZ ⟨_,_,_,_,_,rfl,aL.nil ..,aL.nil ..,(fun _ _ _=>aL.nil ..),aL.nil ..,aL.nil ..,(cj (by omega))⟩ (ud bV dp r)
 have X:=(aE y).1
 have Y:=(aE y).2
 have eV:=aj X
 have eW:=aj Y
 refine sg<|Pl 3<|nt<|cb ((c==6)) (fun B=>?_) (fun B=>?_)
 have dq:=ah B
 refine sg<|Pl 1<|?_
 have dr:RC w _ A cp b a4 l (ak.mk b false 0):=⟨hsl,t,(Nat.le_trans f.size d),⟨0,(ub W o),Nat.zero_le _,rfl⟩,by omega⟩
 refine L0<|Oc<|m3 (cO dr) fun eX ds c3 eY=>Pl 1<|?_
 have ae:=nb (am o) lr g
 refine L0<|bX (aW c3 (Ne.symm ae) a5) 2 (mG c 0 ((ak.mk b false 0).wordV) 0 0 0 0 0 0 0 0 0 nS nS nS nS 0 0 0 0 0 nS) fun eZ dt c4=>nt<|go<|Pl 1<|?_
 have b0:=us c3 c4
 have c5:=ut t b0 (ac (ni f.size d) (ac (ni (le f.size i.size) g) ay))
 refine L0<|Oc<|m3 (cO (RC.upd ds c4 (aa ae az) c5)) fun f0 du c6 f1=>Pl 1<|?_
 refine L0<|bX (aW c6 (Ne.symm ae) dt) 4 (mG c 0 ((ak.mk b false 0).wordV) 0 (((ak.mk b false 0).wordsC 1).wordV) 0 0 0 0 0 0 0 nS nS nS nS 0 0 0 0 0 nS) fun f2 dw c7=>nl<|bn<|tn<|sg<|Pl 1<|?_
 have b1:=us c6 c7
 have c8:=ut c5 b1 (ac (ni f.size d) (ac (ni (le f.size i.size) g) ay))
 refine L0<|Oc<|m2 (eE (RC.upd du c7 (aa ae az) c8)) fun f3 b2 aF=>nt<|sq<|sg<|Pl 3<|L0<|ei (p:=⟨l,3,none⟩) (v:=.int .i64 (((((ak.mk b false 0).wordsC 1).wordsC 1).endC).e)) (RC.fld b2)<|Pl 1<|nt<|?_
 have c9:=ud c8 aF (le f.size d)
 have hs:ai aM 0 c b=b6 (aP.mk c 0 ((ak.mk b false 0).wordV) 0 (((ak.mk b false 0).wordsC 1).wordV) 0 0 0 0 0 0 0 [] [] [] [] 0 0 0 0 0 []) (((ak.mk b false 0).wordsC 1).wordsC 1):=by
   unfold ai aM bZ cm dN d8 cS d9 d7 kN
   (try simp only[y,X,Y,B,bs,if_true,if_false,decide_true,decide_false,eq_self,true_or,or_true,or_false,false_or,if_true,if_false,dE,dC,dD,dF,reduceIte,rF,rW])
   all_goals rfl
 refine cb (((((((ak.mk b false 0).wordsC 1).wordsC 1).endC).e)!=0)) (fun b3=>?_) (fun b3=>?_)
 have b4:=ax b3
 refine sq<|Rg 7 (fun w'=>w'.cell? ⟨l,3,none⟩=some (.int .i64 (((((ak.mk b false 0).wordsC 1).wordsC 1).endC).e))) fun f4 aG=>?_
 have ca:=RC.upd b2 aG az (aC.step (RC.u b2) aG)
 refine bi (RC.fld ca) fun af=>Rt 0 af<|Rt 1 af<|Rt 2 af<|Rt 3 af<|Rl 4 af (fun _ hs=>hs)<|?_
 refine R0 5 rfl<|b7 (ub (ut q (ut b0 (u1 b1 (aD aF aG) im) (ac im (ac im ay))) (ac (nr d) (ac (ni i.size g) ay))) j) mZ fun f5 dx cc=>?_
 have cd:=ud c9 (uz aG cc) r
 refine bi (RC.fld (RC.upd ca cc (aa (Ne.symm (nb (am j) lr d)) az) cd)) fun dy=>Rt 6 dy<|re<|tn<|rt<|tr<|bJ dx (.int .i64 (((((ak.mk b false 0).wordsC 1).wordsC 1).endC).e))<|?_
 rw[hs]
 exact bg b4 cd
 have b4:=ag b3
 refine bf<|sg<|?_
 refine L0<|bO (aW aF (Ne.symm ae) dw)<|?_
 refine L0<|b7 (ub (ut q (ut b0 (u1 b1 aF im) (ac im (ac im ay))) (ac (nr d) (ac (ni i.size g) ay))) j) (mG c 0 ((ak.mk b false 0).wordV) 0 (((ak.mk b false 0).wordsC 1).wordV) 0 0 0 0 0 0 0 nS nS nS nS 0 0 0 0 0 nS) fun f6 dz dA=>Pl 1<|nt<|rt<|bJ dz (.int .i64 0)<|?_
 rw[hs]
 exact bo b4 ⟨_,_,_,_,_,rfl,aL.nil ..,aL.nil ..,(fun _ _ _=>aL.nil ..),aL.nil ..,aL.nil ..,(cj (by omega))⟩ (ud c9 dA r)
 have dq:=aj B
 refine sg<|Pl 3<|nt<|cb ((c==16)) (fun E=>?_) (fun E=>?_)
 have dB:=ah E
 refine sg<|Pl 1<|?_
 have dG:RC w _ A cp b a4 l (ak.mk b false 0):=⟨hsl,t,(Nat.le_trans f.size d),⟨0,(ub W o),Nat.zero_le _,rfl⟩,by omega⟩
 refine L0<|Oc<|m3 (cO dG) fun f7 dH F f8=>Pl 1<|?_
 have C:=nb (am o) lr g
 refine L0<|bX (aW F (Ne.symm C) a5) 2 (mG c 0 ((ak.mk b false 0).wordV) 0 0 0 0 0 0 0 0 0 nS nS nS nS 0 0 0 0 0 nS) fun f9 cg G=>ng<|Pl 2<|L0<|aO cg 2<|?_
 have b5:=us F G
 have ch:=ut t b5 (ac (ni f.size d) (ac (ni (le f.size i.size) g) ay))
 refine L0<|Oc<|m3 (l9 (a:=(ak.mk b false 0).wordV) (most:=123) (by omega) (RC.upd dH G (aa C az) ch)) fun fa dI H fb=>?_
 refine fY dI fun ci dJ dK=>?_
 refine L0<|zw (((ak.mk b false 0).wordsC 1).wordV)<|Pl 1<|?_
 refine L0<|bX (aW H (Ne.symm C) cg) 3 (mG c 0 ((ak.mk b false 0).wordV) (((ak.mk b false 0).wordsC 1).wordV) 0 0 0 0 0 0 0 0 nS nS nS nS 0 0 0 0 0 nS) fun fc dL I=>ng<|Pl 2<|nt<|c1<|sg<|Pl 1<|?_
 have b8:=us H I
 have ck:=ut ch b8 (ac (ni f.size d) (ac (ni (le f.size i.size) g) ay))
 refine L0<|Oc<|m3 (ed (RC.upd dK I (aa C az) ck)) fun fd dM J fe=>L0<|Oi ci.byteV<|Pl 1<|ng<|Pl 3<|?_
 have cl:=aW J (Ne.symm C) dL
 refine L0<|aO cl 3<|L0<|Oi (((ak.mk b false 0).wordsC 1).wordV)<|L0<|Oi (2*(((ak.mk b false 0).wordsC 1).wordV))<|Pl 1<|L0<|Oc<|m2 (aY ((ci.byteV==(2*(((ak.mk b false 0).wordsC 1).wordV)))) 5 dM) fun ff dO L=>?_
 refine fY dO fun M dP dQ=>?_
 refine nt<|go<|Pl 2<|?_
 have cn:=aW L (Ne.symm C) cl
 refine L0<|aO cn 3<|L0<|Oi (((ak.mk b false 0).wordsC 1).wordV)<|L0<|Oc<|nW (gz (n:=((ak.mk b false 0).wordsC 1).wordV) (by omega) dQ) fun co cq fg N fh fi dR cr=>Pl 1<|?_
 refine L0<|bX (aW cr (Ne.symm C) cn) 12 (mG c 0 ((ak.mk b false 0).wordV) (((ak.mk b false 0).wordsC 1).wordV) 0 0 0 0 0 0 0 0 (.slice co ((M.wordsR (((ak.mk b false 0).wordsC 1).wordV)).length) cq) nS nS nS 0 0 0 0 0 nS) fun fj dS aH=>nl<|bn<|tn<|sg<|Pl 1<|?_
 have ba:=ui J (ui L (us cr aH))
 have cs:=ut ck ba (ac (ni f.size d) (ac (ni (le f.size i.size) g) ay))
 refine L0<|Oc<|m2 (eE (RC.upd dR aH (aa C az) cs)) fun fk bb al=>nt<|sq<|sg<|Pl 3<|L0<|ei (p:=⟨l,3,none⟩) (v:=.int .i64 (((M.wordsC (((ak.mk b false 0).wordsC 1).wordV)).endC).e)) (RC.fld bb)<|Pl 1<|nt<|?_
 have ct:=ud cs al (le f.size d)
 have hs:ai aM 0 c b=b6 (aP.mk c 0 ((ak.mk b false 0).wordV) (((ak.mk b false 0).wordsC 1).wordV) 0 0 0 0 0 0 0 0 (M.wordsR (((ak.mk b false 0).wordsC 1).wordV)) [] [] [] 0 0 0 0 0 []) (M.wordsC (((ak.mk b false 0).wordsC 1).wordV)):=by
   subst dP dJ
   unfold ai aM bZ cm dN d8 cS d9 d7 kN
   (try simp only[y,X,Y,B,E,bs,if_true,if_false,decide_true,decide_false,eq_self,true_or,or_true,or_false,false_or,if_true,if_false,dE,dC,dD,dF,reduceIte,rF,rW])
   all_goals rfl
 refine cb (((((M.wordsC (((ak.mk b false 0).wordsC 1).wordV)).endC).e)!=0)) (fun bc=>?_) (fun bc=>?_)
 have bd:=ax bc
 refine sq<|Rg 7 (fun w'=>w'.cell? ⟨l,3,none⟩=some (.int .i64 (((M.wordsC (((ak.mk b false 0).wordsC 1).wordV)).endC).e))) fun fl aI=>?_
 have cv:=RC.upd bb aI az (aC.step (RC.u bb) aI)
 refine bi (RC.fld cv) fun an=>Rt 0 an<|Rt 1 an<|Rt 2 an<|Rt 3 an<|Rl 4 an (fun _ hs=>hs)<|?_
 have cw:=aD al aI
 refine R0 5 rfl<|b7 (ub (ut q (ut b5 (ut b8 (u1 ba cw im) (ac im (ac im ay))) (ac im (ac im ay))) (ac (nr d) (ac (ni i.size g) ay))) j) mZ fun fm dT be=>?_
 have cx:=ud ct (uz aI be) r
 refine bi (RC.fld (RC.upd cv be (aa (Ne.symm (nb (am j) lr d)) az) cx)) fun dU=>Rt 6 dU<|re<|tn<|rt<|tr<|bJ dT (.int .i64 (((M.wordsC (((ak.mk b false 0).wordsC 1).wordV)).endC).e))<|?_
 have fn:=ap N (us aH (us cw be)) (fun x hx=>(aa (fun e=>(aB (am a8) (le (le (le (le (le (le s.size F.size) G.size) H.size) I.size) J.size) L.size) N) (e▸hx)) (aa (fun e=>(aB (am o) (le (le (le (le (le (le (le z.size s.size) F.size) G.size) H.size) I.size) J.size) L.size) N) (e▸hx)) (aa (fun e=>(aB (am j) (le (le (le (le (le (le (le (le i.size z.size) s.size) F.size) G.size) H.size) I.size) J.size) L.size) N) (e▸hx)) az)))) (fun _ _ h=>h)
 rw[hs]
 exact bg bd cx
 have bd:=ag bc
 refine bf<|sg<|?_
 refine L0<|bO (aW al (Ne.symm C) dS)<|?_
 refine L0<|b7 (ub (ut q (ut b5 (ut b8 (u1 ba al im) (ac im (ac im ay))) (ac im (ac im ay))) (ac (nr d) (ac (ni i.size g) ay))) j) (mG c 0 ((ak.mk b false 0).wordV) (((ak.mk b false 0).wordsC 1).wordV) 0 0 0 0 0 0 0 0 (.slice co ((M.wordsR (((ak.mk b false 0).wordsC 1).wordV)).length) cq) nS nS nS 0 0 0 0 0 nS) fun fo dV cz=>Pl 1<|nt<|rt<|bJ dV (.int .i64 0)<|?_
 rw[hs]
 exact bo bd ⟨_,_,_,_,_,rfl,((ap N (us aH (us al cz)) (fun x hx=>(aa (fun e=>(aB (am a8) (le (le (le (le (le (le s.size F.size) G.size) H.size) I.size) J.size) L.size) N) (e▸hx)) (aa (fun e=>(aB (am o) (le (le (le (le (le (le (le z.size s.size) F.size) G.size) H.size) I.size) J.size) L.size) N) (e▸hx)) (aa (fun e=>(aB (am j) (le (le (le (le (le (le (le (le i.size z.size) s.size) F.size) G.size) H.size) I.size) J.size) L.size) N) (e▸hx)) az)))) (fun _ _ h=>h))).rd,aL.nil ..,(fun _ _ _=>aL.nil ..),aL.nil ..,aL.nil ..,(cj (by omega))⟩ (ud ct cz r)
 have dB:=aj E
 refine sg<|Pl 3<|nt<|cb ((c==22)) (fun Z=>?_) (fun Z=>?_)
 have dW:=ah Z
 refine sg<|Pl 1<|?_
 have dX:RC w _ A cp b a4 l (ak.mk b false 0):=⟨hsl,t,(Nat.le_trans f.size d),⟨0,(ub W o),Nat.zero_le _,rfl⟩,by omega⟩
 refine L0<|Oc<|m3 (cO dX) fun fp dY cA fq=>Pl 1<|?_
 have a0:=nb (am o) lr g
 refine L0<|bX (aW cA (Ne.symm a0) a5) 2 (mG c 0 ((ak.mk b false 0).wordV) 0 0 0 0 0 0 0 0 0 nS nS nS nS 0 0 0 0 0 nS) fun fr dZ cB=>ng<|Pl 1<|?_
 have bh:=us cA cB
 have cC:=ut t bh (ac (ni f.size d) (ac (ni (le f.size i.size) g) ay))
 refine L0<|Oc<|m3 (cO (RC.upd dY cB (aa a0 az) cC)) fun fs e0 cD ft=>Pl 1<|?_
 refine L0<|bX (aW cD (Ne.symm a0) dZ) 5 (mG c 0 ((ak.mk b false 0).wordV) 0 0 (((ak.mk b false 0).wordsC 1).wordV) 0 0 0 0 0 0 nS nS nS nS 0 0 0 0 0 nS) fun fu e1 cE=>nt<|go<|Pl 1<|?_
 have bj:=us cD cE
 have cF:=ut cC bj (ac (ni f.size d) (ac (ni (le f.size i.size) g) ay))
 refine L0<|Oc<|m3 (cO (RC.upd e0 cE (aa a0 az) cF)) fun fv e2 cG fw=>Pl 1<|?_
 refine L0<|bX (aW cG (Ne.symm a0) e1) 6 (mG c 0 ((ak.mk b false 0).wordV) 0 0 (((ak.mk b false 0).wordsC 1).wordV) ((((ak.mk b false 0).wordsC 1).wordsC 1).wordV) 0 0 0 0 0 nS nS nS nS 0 0 0 0 0 nS) fun fx e3 cH=>nl<|bn<|tn<|sg<|Pl 1<|?_
 have bm:=us cG cH
 have cI:=ut cF bm (ac (ni f.size d) (ac (ni (le f.size i.size) g) ay))
 refine L0<|Oc<|m2 (eE (RC.upd e2 cH (aa a0 az) cI)) fun fy bp aJ=>nt<|sq<|sg<|Pl 3<|L0<|ei (p:=⟨l,3,none⟩) (v:=.int .i64 ((((((ak.mk b false 0).wordsC 1).wordsC 1).wordsC 1).endC).e)) (RC.fld bp)<|Pl 1<|nt<|?_
 have cJ:=ud cI aJ (le f.size d)
 have hs:ai aM 0 c b=b6 (aP.mk c 0 ((ak.mk b false 0).wordV) 0 0 (((ak.mk b false 0).wordsC 1).wordV) ((((ak.mk b false 0).wordsC 1).wordsC 1).wordV) 0 0 0 0 0 [] [] [] [] 0 0 0 0 0 []) ((((ak.mk b false 0).wordsC 1).wordsC 1).wordsC 1):=by
   unfold ai aM bZ cm dN d8 cS d9 d7 kN
   (try simp only[y,X,Y,B,E,Z,bs,if_true,if_false,decide_true,decide_false,eq_self,true_or,or_true,or_false,false_or,if_true,if_false,dE,dC,dD,dF,reduceIte,rF,rW])
   all_goals rfl
 refine cb ((((((((ak.mk b false 0).wordsC 1).wordsC 1).wordsC 1).endC).e)!=0)) (fun bq=>?_) (fun bq=>?_)
 have bt:=ax bq
 refine sq<|Rg 7 (fun w'=>w'.cell? ⟨l,3,none⟩=some (.int .i64 ((((((ak.mk b false 0).wordsC 1).wordsC 1).wordsC 1).endC).e))) fun fz aK=>?_
 have cK:=RC.upd bp aK az (aC.step (RC.u bp) aK)
 refine bi (RC.fld cK) fun ao=>Rt 0 ao<|Rt 1 ao<|Rt 2 ao<|Rt 3 ao<|Rl 4 ao (fun _ hs=>hs)<|?_
 refine R0 5 rfl<|b7 (ub (ut q (ut bh (ut bj (u1 bm (aD aJ aK) im) (ac im (ac im ay))) (ac im (ac im ay))) (ac (nr d) (ac (ni i.size g) ay))) j) mZ fun fA e4 cL=>?_
 have cM:=ud cJ (uz aK cL) r
 refine bi (RC.fld (RC.upd cK cL (aa (Ne.symm (nb (am j) lr d)) az) cM)) fun e5=>Rt 6 e5<|re<|tn<|rt<|tr<|bJ e4 (.int .i64 ((((((ak.mk b false 0).wordsC 1).wordsC 1).wordsC 1).endC).e))<|?_
 rw[hs]
 exact bg bt cM
 have bt:=ag bq
 refine bf<|sg<|?_
 refine L0<|bO (aW aJ (Ne.symm a0) e3)<|?_
 refine L0<|b7 (ub (ut q (ut bh (ut bj (u1 bm aJ im) (ac im (ac im ay))) (ac im (ac im ay))) (ac (nr d) (ac (ni i.size g) ay))) j) (mG c 0 ((ak.mk b false 0).wordV) 0 0 (((ak.mk b false 0).wordsC 1).wordV) ((((ak.mk b false 0).wordsC 1).wordsC 1).wordV) 0 0 0 0 0 nS nS nS nS 0 0 0 0 0 nS) fun fB e6 e7=>Pl 1<|nt<|rt<|bJ e6 (.int .i64 0)<|?_
 rw[hs]
 exact bo bt ⟨_,_,_,_,_,rfl,aL.nil ..,aL.nil ..,(fun _ _ _=>aL.nil ..),aL.nil ..,aL.nil ..,(cj (by omega))⟩ (ud cJ e7 r)
 have dW:=aj Z
 refine sg<|Pl 3<|nt<|cb ((c==23)) (fun a6=>?_) (fun a6=>?_)
 have e8:=ah a6
 refine sg<|Pl 1<|?_
 have e9:RC w _ A cp b a4 l (ak.mk b false 0):=⟨hsl,t,(Nat.le_trans f.size d),⟨0,(ub W o),Nat.zero_le _,rfl⟩,by omega⟩
 refine L0<|Oc<|m3 (cO e9) fun fC ea O fD=>Pl 1<|?_
 have D:=nb (am o) lr g
 refine L0<|bX (aW O (Ne.symm D) a5) 2 (mG c 0 ((ak.mk b false 0).wordV) 0 0 0 0 0 0 0 0 0 nS nS nS nS 0 0 0 0 0 nS) fun fE cN P=>ng<|Pl 2<|L0<|aO cN 2<|?_
 have bu:=us O P
 have cP:=ut t bu (ac (ni f.size d) (ac (ni (le f.size i.size) g) ay))
 refine L0<|Oc<|m3 (l9 (a:=(ak.mk b false 0).wordV) (most:=125) (by omega) (RC.upd ea P (aa D az) cP)) fun fF eb Q fG=>?_
 refine fY eb fun k ec ee=>?_
 refine L0<|zw (((ak.mk b false 0).wordsC 1).wordV)<|Pl 1<|?_
 refine L0<|bX (aW Q (Ne.symm D) cN) 3 (mG c 0 ((ak.mk b false 0).wordV) (((ak.mk b false 0).wordsC 1).wordV) 0 0 0 0 0 0 0 0 nS nS nS nS 0 0 0 0 0 nS) fun fH ef R=>ng<|Pl 1<|?_
 have bw:=us Q R
 have cQ:=ut cP bw (ac (ni f.size d) (ac (ni (le f.size i.size) g) ay))
 refine L0<|Oc<|m3 (cO (RC.upd ee R (aa D az) cQ)) fun fI eg S fJ=>Pl 1<|?_
 refine L0<|bX (aW S (Ne.symm D) ef) 7 (mG c 0 ((ak.mk b false 0).wordV) (((ak.mk b false 0).wordsC 1).wordV) 0 0 0 k.wordV 0 0 0 0 nS nS nS nS 0 0 0 0 0 nS) fun fK cR T=>ng<|Pl 2<|L0<|aO cR 7<|?_
 have bx:=us S T
 have cT:=ut cQ bx (ac (ni f.size d) (ac (ni (le f.size i.size) g) ay))
 refine L0<|Oc<|m3 (l9 (a:=k.wordV) (most:=121) (by omega) (RC.upd eg T (aa D az) cT)) fun fL eh a1 fM=>Pl 1<|ng<|Pl 1<|L0<|Oc<|m3 (ed eh) fun fN ej a2 fO=>L0<|Oi ((bG (k.wordsC 1) k.wordV 121).byteV)<|Pl 1<|ng<|?_
 refine Pl 3<|L0<|Oi (2*((k.wordsC 1).wordV))<|Pl 1<|L0<|Oc<|m2 (aY ((((bG (k.wordsC 1) k.wordV 121).byteV)==(2*((k.wordsC 1).wordV)))) 5 ej) fun fP ek a3=>?_
 refine fY ek fun U el em=>?_
 refine nt<|go<|Pl 2<|L0<|Oc<|nW (gz (n:=(k.wordsC 1).wordV) (by omega) em) fun cU cV fQ V fR fS eo ep=>Pl 1<|?_
 have cW:=u1 a1 (u1 a2 (u1 a3 ep im) im) im
 refine L0<|bX (aW cW (Ne.symm D) cR) 12 (mG c 0 ((ak.mk b false 0).wordV) (((ak.mk b false 0).wordsC 1).wordV) 0 0 0 k.wordV 0 0 0 0 (.slice cU ((U.wordsR ((k.wordsC 1).wordV)).length) cV) nS nS nS 0 0 0 0 0 nS) fun fT eq aN=>nl<|bn<|tn<|sg<|Pl 1<|?_
 have bz:=us cW aN
 have cX:=ut cT bz (ac (ni f.size d) (ac (ni (le f.size i.size) g) ay))
 refine L0<|Oc<|m2 (eE (RC.upd eo aN (aa D az) cX)) fun fU bA aq=>nt<|sq<|sg<|Pl 3<|L0<|ei (p:=⟨l,3,none⟩) (v:=.int .i64 (((U.wordsC ((k.wordsC 1).wordV)).endC).e)) (RC.fld bA)<|Pl 1<|nt<|?_
 have cY:=ud cX aq (le f.size d)
 have hs:ai aM 0 c b=b6 (aP.mk c 0 ((ak.mk b false 0).wordV) (((ak.mk b false 0).wordsC 1).wordV) 0 0 0 k.wordV 0 0 0 0 (U.wordsR ((k.wordsC 1).wordV)) [] [] [] 0 0 0 0 0 []) (U.wordsC ((k.wordsC 1).wordV)):=by
   subst el ec
   unfold ai aM bZ cm dN d8 cS d9 d7 kN
   (try simp only[y,X,Y,B,E,Z,a6,bs,if_true,if_false,decide_true,decide_false,eq_self,true_or,or_true,or_false,false_or,if_true,if_false,dE,dC,dD,dF,reduceIte,rF,rW])
   all_goals rfl
 refine cb (((((U.wordsC ((k.wordsC 1).wordV)).endC).e)!=0)) (fun bB=>?_) (fun bB=>?_)
 have bC:=ax bB
 refine sq<|Rg 7 (fun w'=>w'.cell? ⟨l,3,none⟩=some (.int .i64 (((U.wordsC ((k.wordsC 1).wordV)).endC).e))) fun fV aQ=>?_
 have cZ:=RC.upd bA aQ az (aC.step (RC.u bA) aQ)
 refine bi (RC.fld cZ) fun ar=>Rt 0 ar<|Rt 1 ar<|Rt 2 ar<|Rt 3 ar<|Rl 4 ar (fun _ hs=>hs)<|?_
 have d0:=aD aq aQ
 refine R0 5 rfl<|b7 (ub (ut q (ut bu (ut bw (ut bx (u1 bz d0 im) (ac im (ac im ay))) (ac im (ac im ay))) (ac im (ac im ay))) (ac (nr d) (ac (ni i.size g) ay))) j) mZ fun fW er bD=>?_
 have d1:=ud cY (uz aQ bD) r
 refine bi (RC.fld (RC.upd cZ bD (aa (Ne.symm (nb (am j) lr d)) az) d1)) fun es=>Rt 6 es<|re<|tn<|rt<|tr<|bJ er (.int .i64 (((U.wordsC ((k.wordsC 1).wordV)).endC).e))<|?_
 have fX:=ap V (us aN (us d0 bD)) (fun x hx=>(aa (fun e=>(aB (am a8) (le (le (le (le (le (le (le (le (le s.size O.size) P.size) Q.size) R.size) S.size) T.size) a1.size) a2.size) a3.size) V) (e▸hx)) (aa (fun e=>(aB (am o) (le (le (le (le (le (le (le (le (le (le z.size s.size) O.size) P.size) Q.size) R.size) S.size) T.size) a1.size) a2.size) a3.size) V) (e▸hx)) (aa (fun e=>(aB (am j) (le (le (le (le (le (le (le (le (le (le (le i.size z.size) s.size) O.size) P.size) Q.size) R.size) S.size) T.size) a1.size) a2.size) a3.size) V) (e▸hx)) az)))) (fun _ _ h=>h)
 rw[hs]
 exact bg bC d1
 have bC:=ag bB
 refine bf<|sg<|?_
 refine L0<|bO (aW aq (Ne.symm D) eq)<|?_
 refine L0<|b7 (ub (ut q (ut bu (ut bw (ut bx (u1 bz aq im) (ac im (ac im ay))) (ac im (ac im ay))) (ac im (ac im ay))) (ac (nr d) (ac (ni i.size g) ay))) j) (mG c 0 ((ak.mk b false 0).wordV) (((ak.mk b false 0).wordsC 1).wordV) 0 0 0 k.wordV 0 0 0 0 (.slice cU ((U.wordsR ((k.wordsC 1).wordV)).length) cV) nS nS nS 0 0 0 0 0 nS) fun fZ et d2=>Pl 1<|nt<|rt<|bJ et (.int .i64 0)<|?_
 rw[hs]
 exact bo bC ⟨_,_,_,_,_,rfl,((ap V (us aN (us aq d2)) (fun x hx=>(aa (fun e=>(aB (am a8) (le (le (le (le (le (le (le (le (le s.size O.size) P.size) Q.size) R.size) S.size) T.size) a1.size) a2.size) a3.size) V) (e▸hx)) (aa (fun e=>(aB (am o) (le (le (le (le (le (le (le (le (le (le z.size s.size) O.size) P.size) Q.size) R.size) S.size) T.size) a1.size) a2.size) a3.size) V) (e▸hx)) (aa (fun e=>(aB (am j) (le (le (le (le (le (le (le (le (le (le (le i.size z.size) s.size) O.size) P.size) Q.size) R.size) S.size) T.size) a1.size) a2.size) a3.size) V) (e▸hx)) az)))) (fun _ _ h=>h))).rd,aL.nil ..,(fun _ _ _=>aL.nil ..),aL.nil ..,aL.nil ..,(cj (by omega))⟩ (ud cY d2 r)
 have e8:=aj a6
 refine sg<|Pl 3<|cu 3 [168] 171 ((c==24)) (fun K d3=>?_) ?_
 refine bl 168 ((c==24)) (fun au=>?_) (fun au=>?_)
 have eu:=ah au
 exact Pl 3<|ce d3 true au
 have eu:=aj au
 exact Pl 3<|ce d3 false au
 refine Pl 1<|nt<|cb ((c==24)) (fun a7=>?_) (fun a7=>?_)
 have ev:=ah a7
 refine go<|Pl 1<|?_
 have ew:RC w _ A cp b a4 l (ak.mk b false 0):=⟨hsl,t,(Nat.le_trans f.size d),⟨0,(ub W o),Nat.zero_le _,rfl⟩,by omega⟩
 refine L0<|Oc<|m3 (cO ew) fun g0 ex d4 g1=>Pl 1<|?_
 have bE:=nb (am o) lr g
 refine L0<|bX (aW d4 (Ne.symm bE) a5) 2 (mG c 0 ((ak.mk b false 0).wordV) 0 0 0 0 0 0 0 0 0 nS nS nS nS 0 0 0 0 0 nS) fun g2 ey d5=>nl<|bn<|tn<|sg<|Pl 1<|?_
 have bF:=us d4 d5
 have d6:=ut t bF (ac (ni f.size d) (ac (ni (le f.size i.size) g) ay))
 refine L0<|Oc<|m2 (eE (RC.upd ex d5 (aa bE az) d6)) fun g3 bI aR=>nt<|sq<|sg<|Pl 3<|L0<|ei (p:=⟨l,3,none⟩) (v:=.int .i64 ((((ak.mk b false 0).wordsC 1).endC).e)) (RC.fld bI)<|Pl 1<|nt<|?_
 have da:=ud d6 aR (le f.size d)
 have hs:ai aM 0 c b=b6 (aP.mk c 0 ((ak.mk b false 0).wordV) 0 0 0 0 0 0 0 0 0 [] [] [] [] 0 0 0 0 0 []) ((ak.mk b false 0).wordsC 1):=by
   unfold ai aM bZ cm dN d8 cS d9 d7 kN
   (try simp only[y,X,Y,B,E,Z,a6,a7,bs,if_true,if_false,decide_true,decide_false,eq_self,true_or,or_true,or_false,false_or,if_true,if_false,dE,dC,dD,dF,reduceIte,rF,rW])
   all_goals rfl
 refine cb ((((((ak.mk b false 0).wordsC 1).endC).e)!=0)) (fun bK=>?_) (fun bK=>?_)
 have bL:=ax bK
 refine sq<|Rg 7 (fun w'=>w'.cell? ⟨l,3,none⟩=some (.int .i64 ((((ak.mk b false 0).wordsC 1).endC).e))) fun g4 aS=>?_
 have db:=RC.upd bI aS az (aC.step (RC.u bI) aS)
 refine bi (RC.fld db) fun av=>Rt 0 av<|Rt 1 av<|Rt 2 av<|Rt 3 av<|Rl 4 av (fun _ hs=>hs)<|?_
 refine R0 5 rfl<|b7 (ub (ut q (u1 bF (aD aR aS) im) (ac (nr d) (ac (ni i.size g) ay))) j) mZ fun g5 ez dc=>?_
 have dd:=ud da (uz aS dc) r
 refine bi (RC.fld (RC.upd db dc (aa (Ne.symm (nb (am j) lr d)) az) dd)) fun eA=>Rt 6 eA<|re<|tn<|rt<|tr<|bJ ez (.int .i64 ((((ak.mk b false 0).wordsC 1).endC).e))<|?_
 rw[hs]
 exact bg bL dd
 have bL:=ag bK
 refine bf<|sg<|?_
 refine L0<|bO (aW aR (Ne.symm bE) ey)<|?_
 refine L0<|b7 (ub (ut q (u1 bF aR im) (ac (nr d) (ac (ni i.size g) ay))) j) (mG c 0 ((ak.mk b false 0).wordV) 0 0 0 0 0 0 0 0 0 nS nS nS nS 0 0 0 0 0 nS) fun g6 eB eC=>Pl 1<|nt<|rt<|bJ eB (.int .i64 0)<|?_
 rw[hs]
 exact bo bL ⟨_,_,_,_,_,rfl,aL.nil ..,aL.nil ..,(fun _ _ _=>aL.nil ..),aL.nil ..,aL.nil ..,(cj (by omega))⟩ (ud da eC r)
 have ev:=aj a7
 refine sg<|Pl 3<|nt<|cf a7<|sg<|Pl 1<|?_
 refine L0<|b7 (ub q j) mZ fun g7 eD eF=>Pl 1<|nt<|rt<|br<|tr<|bJ eD (.int .i64 4)<|?_
 have hs:ai aM 0 c b=(aP.zero,4):=by
   unfold ai aM bZ cm dN d8 cS d9 d7 kN
   (try simp only[y,X,Y,B,E,Z,a6,a7,bs,if_true,if_false,decide_true,decide_false,eq_self,true_or,or_true,or_false,false_or,if_true,if_false,dE,dC,dD,dF,reduceIte,rF,rW])
   all_goals rfl
 rw[hs]
 exact bv (ud t eF r)
theorem mu{m:Md}{A:Option Addr}{cp:Nat}{b:List Int}{w:World}{c:Int}(hcode:B8 c)(hsl:b9 m w (.slice A b.length cp) b)(hb:b.length≤1048576) :
    Calls Tryz.prog 94 #[.int .i64 1,.int .u8 c,.slice A b.length cp] w (cy (.slice A b.length cp) b (ai aM 1 c b) w):=by
 obtain⟨hcode1,hcode2⟩:=hcode
 have hln:(b.length:Int)≤1048576:=by omega
 refine en 221 Tryz.func94 rfl<|sg<|L0<|bH mZ fun e1 e2 s j f=>Pl 1<|nt<|sq<|sg<|Pl 6<|nt<|c0<|?_
 refine bf<|sg<|Pl 2<|L0<|dv #[.slice A b.length cp,.int .i64 0,.bool false,.int .i64 0] fun k e3 d l i=>Pl 1<|ng<|Pl 2<|L0<|bH mZ fun e4 e5 g U z=>L0<|b7 U (mC c) fun V W o=>?_
 refine nt<|sq<|bk<|sg<|Pl 6<|cu 3 [35] 38 (((c==3)||(c==4))) (fun K bq=>?_) ?_
 refine bl 35 ((c==3)) (fun X=>?_) (fun X=>?_)
 have cF:=ah X
 exact Pl 3<|ce bq true (by rw[X];rfl)
 have cF:=aj X
 exact Pl 3<|ce bq (c==4) (by rw[X];rfl)
 refine Pl 1<|cu 3 [39] 42 ((((c==3)||(c==4))||(c==23))) (fun K bt=>?_) ?_
 refine bl 39 (((c==3)||(c==4))) (fun Y=>?_) (fun Y=>?_)
 exact Pl 3<|ce bt true (by rw[Y];rfl)
 have cG:=(aE Y).1
 have cH:=(aE Y).2
 have e6:=aj cG
 have e7:=aj cH
 exact Pl 3<|ce bt (c==23) (by rw[Y];rfl)
 refine Pl 2<|nt<|?_
 have S:=ud z o g
 have r:=aD i S
 have t:=aD f r
 refine cb ((((c==3)||(c==4))||(c==23))) (fun y=>?_) (fun y=>?_)
 refine sg<|Pl 1<|?_
 have cI:RC w _ A cp b V k (ak.mk b false 0):=⟨hsl,t,(Nat.le_trans f.size d),⟨0,(ub S l),Nat.zero_le _,rfl⟩,by omega⟩
 refine L0<|Oc<|m3 (ed cI) fun e8 cJ F e9=>L0<|Oi ((ak.mk b false 0).byteV)<|Pl 1<|ng<|Pl 2<|L0<|Oe (.int .i64 (Int.tmod ((ak.mk b false 0).byteV) 2)) (.int .i64 (((ak.mk b false 0).byteV)%2)) (congrArg (Value.int .i64) (Int.tmod_eq_emod_of_nonneg (by omega)))<|Pl 2<|cu 3 [51] 54 ((((((ak.mk b false 0).byteV)%2)==0)&&(decide (0<((ak.mk b false 0).byteV))))) (fun K bu=>?_) ?_
 refine bl 51 (((((ak.mk b false 0).byteV)%2)==0)) (fun Z=>?_) (fun Z=>?_)
 have cK:=ah Z
 exact Pl 3<|ce bu (decide (0<((ak.mk b false 0).byteV))) (by rw[Z];rfl)
 have cK:=aj Z
 exact Pl 3<|ce bu false (by rw[Z];rfl)
 refine Pl 1<|cu 3 [55] 58 (((((((ak.mk b false 0).byteV)%2)==0)&&(decide (0<((ak.mk b false 0).byteV))))&&(decide (((ak.mk b false 0).byteV)≤250)))) (fun K bw=>?_) ?_
 refine bl 55 ((((((ak.mk b false 0).byteV)%2)==0)&&(decide (0<((ak.mk b false 0).byteV))))) (fun a0=>?_) (fun a0=>?_)
 have cL:=(aT a0).1
 have cM:=(aT a0).2
 have ea:=ah cL
 have eb:=of_decide_eq_true cM
 exact Pl 3<|ce bw (decide (((ak.mk b false 0).byteV)≤250)) (by rw[a0];rfl)
 exact Pl 3<|ce bw false (by rw[a0];rfl)
 refine L0<|Oc<|m2 (aY (((((((ak.mk b false 0).byteV)%2)==0)&&(decide (0<((ak.mk b false 0).byteV))))&&(decide (((ak.mk b false 0).byteV)≤250)))) 5 cJ) fun ec cN G=>?_
 refine fY cN fun x49 cP cQ=>?_
 refine nt<|go<|Pl 2<|L0<|Oe (.int .i64 (IntKind.i64.wrap (Int.tdiv ((ak.mk b false 0).byteV) 2))) (.int .i64 (((ak.mk b false 0).byteV)/2)) (congrArg (Value.int .i64) (gi (by omega) (by omega)))<|L0<|Oc<|nW (gz (n:=(((ak.mk b false 0).byteV)/2)) (by omega) cQ) fun bx bz ee B ef eg cR cT=>Pl 1<|?_
 have bA:=u1 F (u1 G cT im) im
 have aG:=nb (am l) lr g
 refine L0<|bX (aW bA (Ne.symm aG) W) 12 (mG c 0 0 0 0 0 0 0 0 0 0 0 (.slice bx ((x49.wordsR (((ak.mk b false 0).byteV)/2)).length) bz) nS nS nS 0 0 0 0 0 nS) fun eh cU al=>nl<|bn<|tn<|sg<|Pl 1<|?_
 have aH:=us bA al
 have bB:=ut t aH (ac (ni f.size d) (ac (ni (le f.size i.size) g) ay))
 refine L0<|Oc<|m2 (eE (RC.upd cR al (aa aG az) bB)) fun ej aI a1=>nt<|sq<|sg<|Pl 3<|L0<|ei (p:=⟨k,3,none⟩) (v:=.int .i64 (((x49.wordsC (((ak.mk b false 0).byteV)/2)).endC).e)) (RC.fld aI)<|Pl 1<|nt<|?_
 have bC:=ud bB a1 (le f.size d)
 have hs:ai aM 1 c b=b6 (aP.mk c 0 0 0 0 0 0 0 0 0 0 0 (x49.wordsR (((ak.mk b false 0).byteV)/2)) [] [] [] 0 0 0 0 0 []) (x49.wordsC (((ak.mk b false 0).byteV)/2)):=by
   subst cP
   unfold ai
   (try simp only[y,bs,if_true,if_false,decide_true,decide_false,eq_self,true_or,or_true,or_false,false_or,if_true,if_false,dE,dC,dD,dF,reduceIte,rF,rW,u4 y])
   all_goals rfl
 refine cb (((((x49.wordsC (((ak.mk b false 0).byteV)/2)).endC).e)!=0)) (fun aJ=>?_) (fun aJ=>?_)
 have aK:=ax aJ
 refine sq<|Rg 7 (fun w'=>w'.cell? ⟨k,3,none⟩=some (.int .i64 (((x49.wordsC (((ak.mk b false 0).byteV)/2)).endC).e))) fun ek an=>?_
 have bD:=RC.upd aI an az (aC.step (RC.u aI) an)
 refine bi (RC.fld bD) fun a2=>Rt 0 a2<|Rt 1 a2<|Rt 2 a2<|Rt 3 a2<|Rl 4 a2 (fun _ hs=>hs)<|?_
 have bE:=aD a1 an
 refine R0 5 rfl<|b7 (ub (ut r (u1 aH bE im) (ac (nr d) (ac (ni i.size g) ay))) j) mZ fun el cV aN=>?_
 have bF:=ud bC (uz an aN) s
 refine bi (RC.fld (RC.upd bD aN (aa (Ne.symm (nb (am j) lr d)) az) bF)) fun cW=>Rt 6 cW<|re<|tn<|rt<|tr<|bJ cV (.int .i64 (((x49.wordsC (((ak.mk b false 0).byteV)/2)).endC).e))<|?_
 have em:=ap B (us al (us bE aN)) (fun x hx=>(aa (fun e=>(aB (am U) (le (le o.size F.size) G.size) B) (e▸hx)) (aa (fun e=>(aB (am l) (le (le (le z.size o.size) F.size) G.size) B) (e▸hx)) (aa (fun e=>(aB (am j) (le (le (le (le i.size z.size) o.size) F.size) G.size) B) (e▸hx)) az)))) (fun _ _ h=>h)
 rw[hs]
 exact bg aK bF
 have aK:=ag aJ
 refine bf<|sg<|?_
 refine L0<|bO (aW a1 (Ne.symm aG) cU)<|?_
 refine L0<|b7 (ub (ut r (u1 aH a1 im) (ac (nr d) (ac (ni i.size g) ay))) j) (mG c 0 0 0 0 0 0 0 0 0 0 0 (.slice bx ((x49.wordsR (((ak.mk b false 0).byteV)/2)).length) bz) nS nS nS 0 0 0 0 0 nS) fun eo cX bG=>Pl 1<|nt<|rt<|bJ cX (.int .i64 0)<|?_
 rw[hs]
 exact bo aK ⟨_,_,_,_,_,rfl,((ap B (us al (us a1 bG)) (fun x hx=>(aa (fun e=>(aB (am U) (le (le o.size F.size) G.size) B) (e▸hx)) (aa (fun e=>(aB (am l) (le (le (le z.size o.size) F.size) G.size) B) (e▸hx)) (aa (fun e=>(aB (am j) (le (le (le (le i.size z.size) o.size) F.size) G.size) B) (e▸hx)) az)))) (fun _ _ h=>h))).rd,aL.nil ..,(fun _ _ _=>aL.nil ..),aL.nil ..,aL.nil ..,(cj (by omega))⟩ (ud bC bG s)
 have H:=(aE y).1
 have I:=(aE y).2
 have J:=(aE H).1
 have L:=(aE H).2
 have q35aap:=aj J
 have q35abp:=aj L
 have ep:=aj I
 refine sg<|Pl 3<|sy 68 J<|Pl 4<|nt<|cf L<|sg<|Pl 3<|nt<|cb ((c==6)) (fun C=>?_) (fun C=>?_)
 have cY:=ah C
 refine sg<|Pl 1<|?_
 have cZ:RC w _ A cp b V k (ak.mk b false 0):=⟨hsl,t,(Nat.le_trans f.size d),⟨0,(ub S l),Nat.zero_le _,rfl⟩,by omega⟩
 refine L0<|Oc<|m3 (cO cZ) fun eq d0 bI er=>Pl 1<|?_
 have a3:=nb (am l) lr g
 refine L0<|bX (aW bI (Ne.symm a3) W) 2 (mG c 0 ((ak.mk b false 0).wordV) 0 0 0 0 0 0 0 0 0 nS nS nS nS 0 0 0 0 0 nS) fun es d1 bK=>nt<|go<|Pl 1<|?_
 have aQ:=us bI bK
 have bL:=ut t aQ (ac (ni f.size d) (ac (ni (le f.size i.size) g) ay))
 refine L0<|Oc<|m3 (cO (RC.upd d0 bK (aa a3 az) bL)) fun et d2 bM eu=>Pl 1<|?_
 refine L0<|bX (aW bM (Ne.symm a3) d1) 4 (mG c 0 ((ak.mk b false 0).wordV) 0 (((ak.mk b false 0).wordsC 1).wordV) 0 0 0 0 0 0 0 nS nS nS nS 0 0 0 0 0 nS) fun ev d3 bN=>nl<|bn<|tn<|sg<|Pl 1<|?_
 have aR:=us bM bN
 have bP:=ut bL aR (ac (ni f.size d) (ac (ni (le f.size i.size) g) ay))
 refine L0<|Oc<|m2 (eE (RC.upd d2 bN (aa a3 az) bP)) fun ew aS ao=>nt<|sq<|sg<|Pl 3<|L0<|ei (p:=⟨k,3,none⟩) (v:=.int .i64 (((((ak.mk b false 0).wordsC 1).wordsC 1).endC).e)) (RC.fld aS)<|Pl 1<|nt<|?_
 have bQ:=ud bP ao (le f.size d)
 have hs:ai aM 1 c b=b6 (aP.mk c 0 ((ak.mk b false 0).wordV) 0 (((ak.mk b false 0).wordsC 1).wordV) 0 0 0 0 0 0 0 [] [] [] [] 0 0 0 0 0 []) (((ak.mk b false 0).wordsC 1).wordsC 1):=by
   unfold ai aM bZ cm dN d8 cS d9 d7 kN
   (try simp only[y,H,J,L,I,C,bs,if_true,if_false,decide_true,decide_false,eq_self,true_or,or_true,or_false,false_or,if_true,if_false,dE,dC,dD,dF,reduceIte,rF,rW])
   all_goals rfl
 refine cb (((((((ak.mk b false 0).wordsC 1).wordsC 1).endC).e)!=0)) (fun aU=>?_) (fun aU=>?_)
 have aV:=ax aU
 refine sq<|Rg 7 (fun w'=>w'.cell? ⟨k,3,none⟩=some (.int .i64 (((((ak.mk b false 0).wordsC 1).wordsC 1).endC).e))) fun ex aq=>?_
 have bR:=RC.upd aS aq az (aC.step (RC.u aS) aq)
 refine bi (RC.fld bR) fun a4=>Rt 0 a4<|Rt 1 a4<|Rt 2 a4<|Rt 3 a4<|Rl 4 a4 (fun _ hs=>hs)<|?_
 refine R0 5 rfl<|b7 (ub (ut r (ut aQ (u1 aR (aD ao aq) im) (ac im (ac im ay))) (ac (nr d) (ac (ni i.size g) ay))) j) mZ fun ey d4 bS=>?_
 have bT:=ud bQ (uz aq bS) s
 refine bi (RC.fld (RC.upd bR bS (aa (Ne.symm (nb (am j) lr d)) az) bT)) fun d5=>Rt 6 d5<|re<|tn<|rt<|tr<|bJ d4 (.int .i64 (((((ak.mk b false 0).wordsC 1).wordsC 1).endC).e))<|?_
 rw[hs]
 exact bg aV bT
 have aV:=ag aU
 refine bf<|sg<|?_
 refine L0<|bO (aW ao (Ne.symm a3) d3)<|?_
 refine L0<|b7 (ub (ut r (ut aQ (u1 aR ao im) (ac im (ac im ay))) (ac (nr d) (ac (ni i.size g) ay))) j) (mG c 0 ((ak.mk b false 0).wordV) 0 (((ak.mk b false 0).wordsC 1).wordV) 0 0 0 0 0 0 0 nS nS nS nS 0 0 0 0 0 nS) fun ez d6 da=>Pl 1<|nt<|rt<|bJ d6 (.int .i64 0)<|?_
 rw[hs]
 exact bo aV ⟨_,_,_,_,_,rfl,aL.nil ..,aL.nil ..,(fun _ _ _=>aL.nil ..),aL.nil ..,aL.nil ..,(cj (by omega))⟩ (ud bQ da s)
 have cY:=aj C
 refine sg<|Pl 3<|nt<|cb ((c==16)) (fun M=>?_) (fun M=>?_)
 have db:=ah M
 refine sg<|Pl 1<|?_
 have dc:RC w _ A cp b V k (ak.mk b false 0):=⟨hsl,t,(Nat.le_trans f.size d),⟨0,(ub S l),Nat.zero_le _,rfl⟩,by omega⟩
 refine L0<|Oc<|m3 (cO dc) fun eA dd bU eB=>Pl 1<|?_
 have a5:=nb (am l) lr g
 refine L0<|bX (aW bU (Ne.symm a5) W) 2 (mG c 0 ((ak.mk b false 0).wordV) 0 0 0 0 0 0 0 0 0 nS nS nS nS 0 0 0 0 0 nS) fun eC bV bW=>ng<|Pl 2<|L0<|aO bV 2<|?_
 have aX:=us bU bW
 have bY:=ut t aX (ac (ni f.size d) (ac (ni (le f.size i.size) g) ay))
 refine L0<|Oc<|m3 (l9 (a:=(ak.mk b false 0).wordV) (most:=123) (by omega) (RC.upd dd bW (aa a5 az) bY)) fun eD de c1 eF=>?_
 refine fY de fun a6 df dg=>?_
 refine L0<|zw (((ak.mk b false 0).wordsC 1).wordV)<|Pl 1<|?_
 refine L0<|bX (aW c1 (Ne.symm a5) bV) 3 (mG c 0 ((ak.mk b false 0).wordV) (((ak.mk b false 0).wordsC 1).wordV) 0 0 0 0 0 0 0 0 nS nS nS nS 0 0 0 0 0 nS) fun eG dh c2=>ng<|Pl 2<|nt<|c0<|sk<|bn<|tn<|sg<|?_
 refine Pl 1<|?_
 have aZ:=us c1 c2
 have c3:=ut bY aZ (ac (ni f.size d) (ac (ni (le f.size i.size) g) ay))
 refine L0<|Oc<|m2 (eE (RC.upd dg c2 (aa a5 az) c3)) fun eH b0 ar=>nt<|sq<|sg<|Pl 3<|L0<|ei (p:=⟨k,3,none⟩) (v:=.int .i64 a6.endC.e) (RC.fld b0)<|Pl 1<|nt<|?_
 have c4:=ud c3 ar (le f.size d)
 have hs:ai aM 1 c b=b6 (aP.mk c 0 ((ak.mk b false 0).wordV) (((ak.mk b false 0).wordsC 1).wordV) 0 0 0 0 0 0 0 0 [] [] [] [] 0 0 0 0 0 []) a6:=by
   subst df
   unfold ai aM bZ cm dN d8 cS d9 d7 kN
   (try simp only[y,H,J,L,I,C,M,bs,if_true,if_false,decide_true,decide_false,eq_self,true_or,or_true,or_false,false_or,if_true,if_false,dE,dC,dD,dF,reduceIte,rF,rW])
   all_goals rfl
 refine cb ((a6.endC.e != 0)) (fun b1=>?_) (fun b1=>?_)
 have b2:=ax b1
 refine sq<|Rg 7 (fun w'=>w'.cell? ⟨k,3,none⟩=some (.int .i64 a6.endC.e)) fun eI au=>?_
 have c5:=RC.upd b0 au az (aC.step (RC.u b0) au)
 refine bi (RC.fld c5) fun a7=>Rt 0 a7<|Rt 1 a7<|Rt 2 a7<|Rt 3 a7<|Rl 4 a7 (fun _ hs=>hs)<|?_
 refine R0 5 rfl<|b7 (ub (ut r (ut aX (u1 aZ (aD ar au) im) (ac im (ac im ay))) (ac (nr d) (ac (ni i.size g) ay))) j) mZ fun eJ di c6=>?_
 have c7:=ud c4 (uz au c6) s
 refine bi (RC.fld (RC.upd c5 c6 (aa (Ne.symm (nb (am j) lr d)) az) c7)) fun dj=>Rt 6 dj<|re<|tn<|rt<|tr<|bJ di (.int .i64 a6.endC.e)<|?_
 rw[hs]
 exact bg b2 c7
 have b2:=ag b1
 refine bf<|sg<|?_
 refine L0<|bO (aW ar (Ne.symm a5) dh)<|?_
 refine L0<|b7 (ub (ut r (ut aX (u1 aZ ar im) (ac im (ac im ay))) (ac (nr d) (ac (ni i.size g) ay))) j) (mG c 0 ((ak.mk b false 0).wordV) (((ak.mk b false 0).wordsC 1).wordV) 0 0 0 0 0 0 0 0 nS nS nS nS 0 0 0 0 0 nS) fun eK dk dl=>Pl 1<|nt<|rt<|bJ dk (.int .i64 0)<|?_
 rw[hs]
 exact bo b2 ⟨_,_,_,_,_,rfl,aL.nil ..,aL.nil ..,(fun _ _ _=>aL.nil ..),aL.nil ..,aL.nil ..,(cj (by omega))⟩ (ud c4 dl s)
 have db:=aj M
 refine sg<|Pl 3<|nt<|cb ((c==22)) (fun T=>?_) (fun T=>?_)
 have dm:=ah T
 refine sg<|Pl 1<|?_
 have dn:RC w _ A cp b V k (ak.mk b false 0):=⟨hsl,t,(Nat.le_trans f.size d),⟨0,(ub S l),Nat.zero_le _,rfl⟩,by omega⟩
 refine L0<|Oc<|m3 (cO dn) fun eL dp c8 eM=>Pl 1<|?_
 have N:=nb (am l) lr g
 refine L0<|bX (aW c8 (Ne.symm N) W) 2 (mG c 0 ((ak.mk b false 0).wordV) 0 0 0 0 0 0 0 0 0 nS nS nS nS 0 0 0 0 0 nS) fun eN dq c9=>ng<|Pl 1<|?_
 have b3:=us c8 c9
 have ca:=ut t b3 (ac (ni f.size d) (ac (ni (le f.size i.size) g) ay))
 refine L0<|Oc<|m3 (cO (RC.upd dp c9 (aa N az) ca)) fun eO dr cc eP=>Pl 1<|?_
 refine L0<|bX (aW cc (Ne.symm N) dq) 5 (mG c 0 ((ak.mk b false 0).wordV) 0 0 (((ak.mk b false 0).wordsC 1).wordV) 0 0 0 0 0 0 nS nS nS nS 0 0 0 0 0 nS) fun eQ ds cd=>nt<|go<|Pl 1<|?_
 have b4:=us cc cd
 have cg:=ut ca b4 (ac (ni f.size d) (ac (ni (le f.size i.size) g) ay))
 refine L0<|Oc<|m3 (cO (RC.upd dr cd (aa N az) cg)) fun eR dt ch eS=>Pl 1<|?_
 refine L0<|bX (aW ch (Ne.symm N) ds) 6 (mG c 0 ((ak.mk b false 0).wordV) 0 0 (((ak.mk b false 0).wordsC 1).wordV) ((((ak.mk b false 0).wordsC 1).wordsC 1).wordV) 0 0 0 0 0 nS nS nS nS 0 0 0 0 0 nS) fun eT du ci=>nl<|bn<|tn<|sg<|Pl 1<|?_
 have b5:=us ch ci
 have ck:=ut cg b5 (ac (ni f.size d) (ac (ni (le f.size i.size) g) ay))
 refine L0<|Oc<|m2 (eE (RC.upd dt ci (aa N az) ck)) fun eU b8 av=>nt<|sq<|sg<|Pl 3<|L0<|ei (p:=⟨k,3,none⟩) (v:=.int .i64 ((((((ak.mk b false 0).wordsC 1).wordsC 1).wordsC 1).endC).e)) (RC.fld b8)<|Pl 1<|nt<|?_
 have cl:=ud ck av (le f.size d)
 have hs:ai aM 1 c b=b6 (aP.mk c 0 ((ak.mk b false 0).wordV) 0 0 (((ak.mk b false 0).wordsC 1).wordV) ((((ak.mk b false 0).wordsC 1).wordsC 1).wordV) 0 0 0 0 0 [] [] [] [] 0 0 0 0 0 []) ((((ak.mk b false 0).wordsC 1).wordsC 1).wordsC 1):=by
   unfold ai aM bZ cm dN d8 cS d9 d7 kN
   (try simp only[y,H,J,L,I,C,M,T,bs,if_true,if_false,decide_true,decide_false,eq_self,true_or,or_true,or_false,false_or,if_true,if_false,dE,dC,dD,dF,reduceIte,rF,rW])
   all_goals rfl
 refine cb ((((((((ak.mk b false 0).wordsC 1).wordsC 1).wordsC 1).endC).e)!=0)) (fun ba=>?_) (fun ba=>?_)
 have bb:=ax ba
 refine sq<|Rg 7 (fun w'=>w'.cell? ⟨k,3,none⟩=some (.int .i64 ((((((ak.mk b false 0).wordsC 1).wordsC 1).wordsC 1).endC).e))) fun eV aw=>?_
 have cn:=RC.upd b8 aw az (aC.step (RC.u b8) aw)
 refine bi (RC.fld cn) fun a8=>Rt 0 a8<|Rt 1 a8<|Rt 2 a8<|Rt 3 a8<|Rl 4 a8 (fun _ hs=>hs)<|?_
 refine R0 5 rfl<|b7 (ub (ut r (ut b3 (ut b4 (u1 b5 (aD av aw) im) (ac im (ac im ay))) (ac im (ac im ay))) (ac (nr d) (ac (ni i.size g) ay))) j) mZ fun eW dw co=>?_
 have cq:=ud cl (uz aw co) s
 refine bi (RC.fld (RC.upd cn co (aa (Ne.symm (nb (am j) lr d)) az) cq)) fun dx=>Rt 6 dx<|re<|tn<|rt<|tr<|bJ dw (.int .i64 ((((((ak.mk b false 0).wordsC 1).wordsC 1).wordsC 1).endC).e))<|?_
 rw[hs]
 exact bg bb cq
 have bb:=ag ba
 refine bf<|sg<|?_
 refine L0<|bO (aW av (Ne.symm N) du)<|?_
 refine L0<|b7 (ub (ut r (ut b3 (ut b4 (u1 b5 av im) (ac im (ac im ay))) (ac im (ac im ay))) (ac (nr d) (ac (ni i.size g) ay))) j) (mG c 0 ((ak.mk b false 0).wordV) 0 0 (((ak.mk b false 0).wordsC 1).wordV) ((((ak.mk b false 0).wordsC 1).wordsC 1).wordV) 0 0 0 0 0 nS nS nS nS 0 0 0 0 0 nS) fun eX dy dz=>Pl 1<|nt<|rt<|bJ dy (.int .i64 0)<|?_
 rw[hs]
 exact bo bb ⟨_,_,_,_,_,rfl,aL.nil ..,aL.nil ..,(fun _ _ _=>aL.nil ..),aL.nil ..,aL.nil ..,(cj (by omega))⟩ (ud cl dz s)
 have dm:=aj T
 refine sg<|Pl 3<|nt<|cf I<|sg<|Pl 3<|cu 3 [168] 171 (false) (fun K cr=>?_) ?_
 refine bl 168 ((c==24)) (fun bc=>?_) (fun bc=>?_)
 have dA:=ah bc
 exact Pl 3<|ce cr false rfl
 have dA:=aj bc
 exact Pl 3<|ce cr false rfl
 refine Pl 1<|nt<|c0<|sg<|Pl 3<|nt<|cb ((c==24)) (fun a9=>?_) (fun a9=>?_)
 have dB:=ah a9
 refine sg<|Pl 1<|?_
 have dG:RC w _ A cp b V k (ak.mk b false 0):=⟨hsl,t,(Nat.le_trans f.size d),⟨0,(ub S l),Nat.zero_le _,rfl⟩,by omega⟩
 refine L0<|Oc<|m3 (cO dG) fun eY dH O eZ=>L0<|Oi ((ak.mk b false 0).wordV)<|Pl 1<|ng<|Pl 2<|L0<|Oe (.int .i64 (Int.tmod ((ak.mk b false 0).wordV) 2)) (.int .i64 (((ak.mk b false 0).wordV)%2)) (congrArg (Value.int .i64) (Int.tmod_eq_emod_of_nonneg (by omega)))<|Pl 2<|cu 3 [185] 188 ((((((ak.mk b false 0).wordV)%2)==0)&&(decide (2≤((ak.mk b false 0).wordV))))) (fun K cs=>?_) ?_
 refine bl 185 (((((ak.mk b false 0).wordV)%2)==0)) (fun ab=>?_) (fun ab=>?_)
 have dI:=ah ab
 exact Pl 3<|ce cs (decide (2≤((ak.mk b false 0).wordV))) (by rw[ab];rfl)
 have dI:=aj ab
 exact Pl 3<|ce cs false (by rw[ab];rfl)
 refine Pl 1<|cu 3 [189] 192 (((((((ak.mk b false 0).wordV)%2)==0)&&(decide (2≤((ak.mk b false 0).wordV))))&&(decide (((ak.mk b false 0).wordV)≤64)))) (fun K ct=>?_) ?_
 refine bl 189 ((((((ak.mk b false 0).wordV)%2)==0)&&(decide (2≤((ak.mk b false 0).wordV))))) (fun ad=>?_) (fun ad=>?_)
 have dJ:=(aT ad).1
 have dK:=(aT ad).2
 have f0:=ah dJ
 have f1:=of_decide_eq_true dK
 exact Pl 3<|ce ct (decide (((ak.mk b false 0).wordV)≤64)) (by rw[ad];rfl)
 exact Pl 3<|ce ct false (by rw[ad];rfl)
 refine L0<|Oc<|m2 (aY (((((((ak.mk b false 0).wordV)%2)==0)&&(decide (2≤((ak.mk b false 0).wordV))))&&(decide (((ak.mk b false 0).wordV)≤64)))) 5 dH) fun f2 dL P=>?_
 refine fY dL fun q dM dO=>?_
 refine ng<|Pl 1<|L0<|Oc<|m3 (cO dO) fun f3 dP Q f4=>L0<|Oi q.wordV<|Pl 1<|ng<|Pl 3<|L0<|Oi (2*q.wordV)<|?_
 refine L0<|Oi ((2*q.wordV)+2)<|Pl 1<|L0<|Oc<|m2 (aY ((((ak.mk b false 0).wordV)==((2*q.wordV)+2))) 5 dP) fun f5 dQ R=>?_
 refine fY dQ fun D dR dS=>?_
 refine nt<|go<|Pl 2<|L0<|Oc<|nW (gz (n:=q.wordV) (by omega) dS) fun cv cw f6 E f7 f8 dT dU=>Pl 1<|?_
 have cx:=u1 O (u1 P (u1 Q (u1 R dU im) im) im) im
 have bd:=nb (am l) lr g
 refine L0<|bX (aW cx (Ne.symm bd) W) 12 (mG c 0 0 0 0 0 0 0 0 0 0 0 (.slice cv ((D.wordsR q.wordV).length) cw) nS nS nS 0 0 0 0 0 nS) fun f9 dV aA=>nl<|bn<|tn<|sg<|Pl 1<|?_
 have be:=us cx aA
 have cz:=ut t be (ac (ni f.size d) (ac (ni (le f.size i.size) g) ay))
 refine L0<|Oc<|m2 (eE (RC.upd dT aA (aa bd az) cz)) fun fa bh ae=>nt<|sq<|sg<|Pl 3<|L0<|ei (p:=⟨k,3,none⟩) (v:=.int .i64 (((D.wordsC q.wordV).endC).e)) (RC.fld bh)<|Pl 1<|nt<|?_
 have cA:=ud cz ae (le f.size d)
 have hs:ai aM 1 c b=b6 (aP.mk c 0 0 0 0 0 0 0 0 0 0 0 (D.wordsR q.wordV) [] [] [] 0 0 0 0 0 []) (D.wordsC q.wordV):=by
   subst dR dM
   unfold ai aM bZ cm dN d8 cS d9 d7 kN
   (try simp only[y,H,J,L,I,C,M,T,a9,bs,if_true,if_false,decide_true,decide_false,eq_self,true_or,or_true,or_false,false_or,if_true,if_false,dE,dC,dD,dF,reduceIte,rF,rW])
   all_goals rfl
 refine cb (((((D.wordsC q.wordV).endC).e)!=0)) (fun bj=>?_) (fun bj=>?_)
 have bm:=ax bj
 refine sq<|Rg 7 (fun w'=>w'.cell? ⟨k,3,none⟩=some (.int .i64 (((D.wordsC q.wordV).endC).e))) fun fb aF=>?_
 have cB:=RC.upd bh aF az (aC.step (RC.u bh) aF)
 refine bi (RC.fld cB) fun af=>Rt 0 af<|Rt 1 af<|Rt 2 af<|Rt 3 af<|Rl 4 af (fun _ hs=>hs)<|?_
 have cC:=aD ae aF
 refine R0 5 rfl<|b7 (ub (ut r (u1 be cC im) (ac (nr d) (ac (ni i.size g) ay))) j) mZ fun fc dW bp=>?_
 have cD:=ud cA (uz aF bp) s
 refine bi (RC.fld (RC.upd cB bp (aa (Ne.symm (nb (am j) lr d)) az) cD)) fun dX=>Rt 6 dX<|re<|tn<|rt<|tr<|bJ dW (.int .i64 (((D.wordsC q.wordV).endC).e))<|?_
 have fd:=ap E (us aA (us cC bp)) (fun x hx=>(aa (fun e=>(aB (am U) (le (le (le (le o.size O.size) P.size) Q.size) R.size) E) (e▸hx)) (aa (fun e=>(aB (am l) (le (le (le (le (le z.size o.size) O.size) P.size) Q.size) R.size) E) (e▸hx)) (aa (fun e=>(aB (am j) (le (le (le (le (le (le i.size z.size) o.size) O.size) P.size) Q.size) R.size) E) (e▸hx)) az)))) (fun _ _ h=>h)
 rw[hs]
 exact bg bm cD
 have bm:=ag bj
 refine bf<|sg<|?_
 refine L0<|bO (aW ae (Ne.symm bd) dV)<|?_
 refine L0<|b7 (ub (ut r (u1 be ae im) (ac (nr d) (ac (ni i.size g) ay))) j) (mG c 0 0 0 0 0 0 0 0 0 0 0 (.slice cv ((D.wordsR q.wordV).length) cw) nS nS nS 0 0 0 0 0 nS) fun fe dY cE=>Pl 1<|nt<|rt<|bJ dY (.int .i64 0)<|?_
 rw[hs]
 exact bo bm ⟨_,_,_,_,_,rfl,((ap E (us aA (us ae cE)) (fun x hx=>(aa (fun e=>(aB (am U) (le (le (le (le o.size O.size) P.size) Q.size) R.size) E) (e▸hx)) (aa (fun e=>(aB (am l) (le (le (le (le (le z.size o.size) O.size) P.size) Q.size) R.size) E) (e▸hx)) (aa (fun e=>(aB (am j) (le (le (le (le (le (le i.size z.size) o.size) O.size) P.size) Q.size) R.size) E) (e▸hx)) az)))) (fun _ _ h=>h))).rd,aL.nil ..,(fun _ _ _=>aL.nil ..),aL.nil ..,aL.nil ..,(cj (by omega))⟩ (ud cA cE s)
 have dB:=aj a9
 refine sg<|Pl 1<|?_
 refine L0<|b7 (ub r j) mZ fun ff dZ e0=>Pl 1<|nt<|rt<|br<|tr<|bJ dZ (.int .i64 4)<|?_
 have hs:ai aM 1 c b=(aP.zero,4):=by
   unfold ai aM bZ cm dN d8 cS d9 d7 kN
   (try simp only[y,H,J,L,I,C,M,T,a9,bs,if_true,if_false,decide_true,decide_false,eq_self,true_or,or_true,or_false,false_or,if_true,if_false,dE,dC,dD,dF,reduceIte,rF,rW])
   all_goals rfl
 rw[hs]
 exact bv (ud t e0 s)
theorem mr{m:Md}{A:Option Addr}{cp:Nat}{b:List Int}{w:World}{dir c:Int}(hcode:B8 c)(hsl:b9 m w (.slice A b.length cp) b)(hb:b.length≤1048576)(hd:¬ (dir=0∨dir=1)) :
    Calls Tryz.prog 94 #[.int .i64 dir,.int .u8 c,.slice A b.length cp] w (cy (.slice A b.length cp) b (ai aM dir c b) w):=by
 obtain⟨hcode1,hcode2⟩:=hcode
 have hln:(b.length:Int)≤1048576:=by omega
 have e0:(dir != 0)=true:=by simp;omega
 have e1:(dir != 1)=true:=by simp;omega
 refine en 221 Tryz.func94 rfl<|sg<|L0<|bH mZ fun g h a d e=>Pl 1<|nt<|sq<|sg<|Pl 3<|sy 18 e0<|Pl 3<|nl<|?_
 refine tn<|ct e1<|sg<|Pl 1<|L0<|b7 d mZ fun i dp f=>Pl 1<|nt<|rt<|tr<|bJ dp (.int .i64 1)<|?_
 have hs:ai aM dir c b=(aP.zero,1):=by
   unfold ai aM bZ cm dN d8 cS d9 d7 kN
   (try simp only[e0,e1,bs,if_true,if_false,decide_true,decide_false,eq_self,true_or,or_true,or_false,false_or,if_true,if_false,dE,dC,dD,dF,reduceIte,hd,rF,rW])
   all_goals rfl
 rw[hs]
 exact bv (ud e f a)
open Go.RowKit
def eV (dir:Int)(C:ak) : ak:=(C.wordsC 1).need (eA C.wordV&&((C.wordV != 4)||(dir==0))) 8
theorem kO{C:ak}:eV 0 C=(C.wordsC 1).need (eA C.wordV) 8:=by
  unfold eV
  rw[show((0:Int)==0)=true from rfl,Bool.or_true,Bool.and_true]
theorem kJ{C:ak}:eV 1 C=(C.wordsC 1).need (eA C.wordV&&(C.wordV != 4)) 8:=by
  unfold eV
  rw[show((1:Int)==0)=false from rfl,Bool.or_false]
def ew (dir c:Int)(C:ak) : ak × aP :=
  if C.wordV==0 then ((ji (eV dir C)).wordsC (((eV dir C).l.length:Int)/2),{ aP.zero with code:=c,sub:=C.wordV,words:=(ji (eV dir C)).wordsR (((eV dir C).l.length:Int)/2) })
  else (((eV dir C).wordsC 1).need (fs dir C.wordV (eV dir C).wordV) 6,{ aP.zero with code:=c,sub:=C.wordV,words:=[(eV dir C).wordV] })
def dP (c:Int)(C:ak) : ak × aP :=
  if c==7 then (C.bytesC 1,{ aP.zero with code:=c,value:=C.byteV })
  else if c==11 then ((dA C).wordsC 1,{ aP.zero with code:=c,status:=C.wordV,events:=(dA C).wordV })
  else if c==12 then ((fU C).bytesC (C.byteV-6),{ aP.zero with code:=c,status:=(fv C 6 70).wordV,events:=(dA (fv C 6 70)).wordV,messages:=((dA (fv C 6 70)).wordsC 1).wordV,data:=(fU C).bytesR (C.byteV-6) })
  else ((fv C 1 251).bytesC C.byteV,{ aP.zero with code:=c,data:=(fv C 1 251).bytesR C.byteV })
def bB (dir c:Int)(C:ak) : Option (ak × aP) :=
  if ((((c != 7)&&(c != 8))&&(c != 11))&&(c != 12))&&(c != 17) then none
  else if c==8 then some (ew dir c C)
  else if dir==0 then some (C,{ aP.zero with code:=c })
  else some (dP c C)
theorem mh{m:Md}{A:Option Addr}{cp:Nat}{b:List Int}{w:World}{c:Int}(hcode:B8 c)(hsl:b9 m w (.slice A b.length cp) b)(hb:b.length≤1048576) :
    Calls Tryz.prog 95 #[.int .i64 0,.int .u8 c,.slice A b.length cp] w (cy (.slice A b.length cp) b (ai bB 0 c b) w):=by
 obtain⟨hcode1,hcode2⟩:=hcode
 have hln:(b.length:Int)≤1048576:=by omega
 refine en 197 Tryz.func95 rfl<|sg<|L0<|bH mZ fun cJ cK G g i=>Pl 1<|nt<|sq<|sg<|Pl 6<|nt<|c0<|?_
 refine bf<|sq<|sg<|Pl 3<|cu 3 [24] 27 (((c != 7)&&(c != 8))) (fun K aQ=>?_) ?_
 refine bl 24 ((c != 7)) (fun N=>?_) (fun N=>?_)
 have bS:=ax N
 exact Pl 3<|ce aQ (c != 8) (by rw[N];rfl)
 have bS:=ag N
 exact Pl 3<|ce aQ false (by rw[N];rfl)
 refine Pl 1<|cu 3 [28] 31 ((((c != 7)&&(c != 8))&&(c != 11))) (fun K aR=>?_) ?_
 refine bl 28 (((c != 7)&&(c != 8))) (fun O=>?_) (fun O=>?_)
 have bT:=(aT O).1
 have bU:=(aT O).2
 have cM:=ax bT
 have cN:=ax bU
 exact Pl 3<|ce aR (c != 11) (by rw[O];rfl)
 exact Pl 3<|ce aR false (by rw[O];rfl)
 refine Pl 1<|cu 3 [32] 35 (((((c != 7)&&(c != 8))&&(c != 11))&&(c != 12))) (fun K aS=>?_) ?_
 refine bl 32 ((((c != 7)&&(c != 8))&&(c != 11))) (fun P=>?_) (fun P=>?_)
 have aU:=(aT P).1
 have bV:=(aT P).2
 have bW:=(aT aU).1
 have bY:=(aT aU).2
 have q19aap:=ax bW
 have q19abp:=ax bY
 have cP:=ax bV
 exact Pl 3<|ce aS (c != 12) (by rw[P];rfl)
 exact Pl 3<|ce aS false (by rw[P];rfl)
 refine Pl 1<|cu 3 [36] 39 ((((((c != 7)&&(c != 8))&&(c != 11))&&(c != 12))&&(c != 17))) (fun K aV=>?_) ?_
 refine bl 36 (((((c != 7)&&(c != 8))&&(c != 11))&&(c != 12))) (fun Q=>?_) (fun Q=>?_)
 have aX:=(aT Q).1
 have bZ:=(aT Q).2
 have aZ:=(aT aX).1
 have c2:=(aT aX).2
 have q21aaa:=(aT aZ).1
 have q21aab:=(aT aZ).2
 have q21aaap:=ax q21aaa
 have q21aabp:=ax q21aab
 have q21abp:=ax c2
 have cQ:=ax bZ
 exact Pl 3<|ce aV (c != 17) (by rw[Q];rfl)
 exact Pl 3<|ce aV false (by rw[Q];rfl)
 refine nt<|cb ((((((c != 7)&&(c != 8))&&(c != 11))&&(c != 12))&&(c != 17))) (fun H=>?_) (fun H=>?_)
 have ab:=(aT H).1
 have b0:=(aT H).2
 have ad:=(aT ab).1
 have b1:=(aT ab).2
 have q23aaa:=(aT ad).1
 have q23aab:=(aT ad).2
 have q23aaaa:=(aT q23aaa).1
 have q23aaab:=(aT q23aaa).2
 have q23aaaap:=ax q23aaaa
 have q23aaabp:=ax q23aaab
 have q23aabp:=ax q23aab
 have q23abp:=ax b1
 have cR:=ax b0
 refine sg<|Pl 1<|L0<|b7 g mZ fun cS c3 c4=>Pl 1<|nt<|rt<|tr<|bJ c3 (.int .i64 4)<|?_
 have hs:ai bB 0 c b=(aP.zero,4):=by
   unfold ai bB ew dP
   (try simp only[H,ab,ad,q23aaa,q23aaaa,q23aaab,q23aab,b1,b0,bs,if_true,if_false,decide_true,decide_false,eq_self,true_or,or_true,or_false,false_or,if_true,if_false,dE,dC,dD,dF,reduceIte,kO,kJ])
   all_goals rfl
 rw[hs]
 exact bv (ud i c4 G)
 refine bf<|sg<|Pl 2<|L0<|dv #[.slice A b.length cp,.int .i64 0,.bool false,.int .i64 0] fun B cT a C q=>Pl 1<|ng<|Pl 2<|L0<|bH mZ fun cU cV r R t=>L0<|b7 R (mC c) fun b2 b3 k=>?_
 refine nt<|sq<|bk<|sg<|Pl 3<|nt<|?_
 have ae:=ud t k r
 have I:=aD q ae
 have a3:=aD i I
 refine cb ((c==8)) (fun M=>?_) (fun M=>?_)
 have c5:=ah M
 refine sg<|Pl 1<|?_
 have c6:RC w _ A cp b b2 B (ak.mk b false 0):=⟨hsl,a3,(Nat.le_trans i.size a),⟨0,(ub ae C),Nat.zero_le _,rfl⟩,by omega⟩
 refine L0<|Oc<|m3 (cO c6) fun cW c7 j cX=>Pl 1<|?_
 have s:=nb (am C) lr r
 refine L0<|bX (aW j (Ne.symm s) b3) 8 (mG c 0 0 0 0 0 0 0 ((ak.mk b false 0).wordV) 0 0 0 nS nS nS nS 0 0 0 0 0 nS) fun c8 af o=>ng<|Pl 1<|L0<|aO af 8<|L0<|Oc<|m1 (A7 (x:=(ak.mk b false 0).wordV) (w:=c8) (by omega)) fun cY f=>Pl 1<|ng<|Pl 3<|cu 8 [72] 80 ((eA ((ak.mk b false 0).wordV))) (fun K b4=>?_) ?_
 refine bl 72 ((eA ((ak.mk b false 0).wordV))) (fun al=>?_) (fun al=>?_)
 refine Pl 1<|?_
 refine L1<|aO (ub f af) 8<|Pl 2<|cu 3 [76] 79 (true) (fun K b5=>?_) ?_
 refine bl 76 ((((ak.mk b false 0).wordV)!=4)) (fun an=>?_) (fun an=>?_)
 have c9:=ax an
 exact Pl 3<|ce b5 true rfl
 have c9:=ag an
 exact Pl 3<|ce b5 true rfl
 exact Pl 1<|ce b4 true al
 exact Pl 8<|ce b4 false al
 have b8:=aD o f
 have S:=us j b8
 have ba:=ut a3 S (ac (ni i.size a) (ac (ni (le i.size q.size) r) ay))
 refine L0<|Oc<|m2 (aY ((eA ((ak.mk b false 0).wordV))) 8 (RC.upd c7 b8 (aa s az) ba)) fun cZ ca d=>?_
 refine fY ca fun x70 bb T=>?_
 refine nt<|sq<|sg<|Pl 1<|?_
 have ao:=aW (uz f d) (Ne.symm s) af
 refine L0<|aO ao 8<|Pl 1<|nt<|?_
 have bc:=ud ba d (le i.size a)
 refine cb ((((ak.mk b false 0).wordV)==0)) (fun U=>?_) (fun U=>?_)
 have cc:=ah U
 refine sg<|Pl 1<|L0<|Oc<|m1 (iU T) fun d0 y=>?_
 have d1:=RC.clen T
 refine Pl 1<|ng<|Pl 2<|L0<|Oe (.int .i64 (Int.tmod ((x70.l.length:Nat) : Int) 2)) (.int .i64 (((x70.l.length:Nat) : Int)%2)) (congrArg (Value.int .i64) (Int.tmod_eq_emod_of_nonneg (by omega)))<|Pl 2<|cu 3 [91] 94 ((((((x70.l.length:Nat) : Int)%2)==0)&&(decide (2≤((x70.l.length:Nat) : Int))))) (fun K bd=>?_) ?_
 refine bl 91 (((((x70.l.length:Nat) : Int)%2)==0)) (fun V=>?_) (fun V=>?_)
 have cd:=ah V
 exact Pl 3<|ce bd (decide (2≤((x70.l.length:Nat) : Int))) (by rw[V];rfl)
 have cd:=aj V
 exact Pl 3<|ce bd false (by rw[V];rfl)
 refine Pl 1<|cu 3 [95] 98 (((((((x70.l.length:Nat) : Int)%2)==0)&&(decide (2≤((x70.l.length:Nat) : Int))))&&(decide (((x70.l.length:Nat) : Int)≤250)))) (fun K be=>?_) ?_
 refine bl 95 ((((((x70.l.length:Nat) : Int)%2)==0)&&(decide (2≤((x70.l.length:Nat) : Int))))) (fun W=>?_) (fun W=>?_)
 have cf:=(aT W).1
 have cg:=(aT W).2
 have d2:=ah cf
 have d3:=of_decide_eq_true cg
 exact Pl 3<|ce be (decide (((x70.l.length:Nat) : Int)≤250)) (by rw[W];rfl)
 exact Pl 3<|ce be false (by rw[W];rfl)
 refine L0<|Oc<|m2 (aY (((((((x70.l.length:Nat) : Int)%2)==0)&&(decide (2≤((x70.l.length:Nat) : Int))))&&(decide (((x70.l.length:Nat) : Int)≤250)))) 5 (RC.upd T y az (aC.step (RC.u T) y))) fun d4 ch J=>?_
 refine fY ch fun x88 ci ck=>?_
 refine ng<|Pl 2<|L0<|Oe (.int .i64 (IntKind.i64.wrap (Int.tdiv ((x70.l.length:Nat) : Int) 2))) (.int .i64 (((x70.l.length:Nat) : Int)/2)) (congrArg (Value.int .i64) (gi (by omega) (by omega)))<|L0<|Oc<|nW (gz (n:=(((x70.l.length:Nat) : Int)/2)) (by omega) ck) fun bh bj d5 D d6 d7 cl cm=>Pl 1<|?_
 have bm:=uz y (u1 J cm im)
 refine L0<|bX (aW bm (Ne.symm s) ao) 12 (mG c 0 0 0 0 0 0 0 ((ak.mk b false 0).wordV) 0 0 0 (.slice bh ((x88.wordsR (((x70.l.length:Nat) : Int)/2)).length) bj) nS nS nS 0 0 0 0 0 nS) fun d8 cn a4=>nt<|xt<|tx<|bx<|tn<|sg<|Pl 1<|?_
 have aq:=us bm a4
 have bp:=ut bc aq (ac (ni i.size a) (ac (ni (le i.size q.size) r) ay))
 refine L0<|Oc<|m2 (eE (RC.upd cl a4 (aa s az) bp)) fun d9 ar X=>nt<|sq<|sg<|Pl 3<|L0<|ei (p:=⟨B,3,none⟩) (v:=.int .i64 (((x88.wordsC (((x70.l.length:Nat) : Int)/2)).endC).e)) (RC.fld ar)<|Pl 1<|nt<|?_
 have bq:=ud bp X (le i.size a)
 have hs:ai bB 0 c b=b6 (aP.mk c 0 0 0 0 0 0 0 ((ak.mk b false 0).wordV) 0 0 0 (x88.wordsR (((x70.l.length:Nat) : Int)/2)) [] [] [] 0 0 0 0 0 []) (x88.wordsC (((x70.l.length:Nat) : Int)/2)):=by
   subst ci bb
   unfold ai bB ew dP
   (try simp only[H,M,U,bs,if_true,if_false,decide_true,decide_false,eq_self,true_or,or_true,or_false,false_or,if_true,if_false,dE,dC,dD,dF,reduceIte,kO,kJ])
   all_goals rfl
 refine cb (((((x88.wordsC (((x70.l.length:Nat) : Int)/2)).endC).e)!=0)) (fun av=>?_) (fun av=>?_)
 have aw:=ax av
 refine sq<|Rg 7 (fun w'=>w'.cell? ⟨B,3,none⟩=some (.int .i64 (((x88.wordsC (((x70.l.length:Nat) : Int)/2)).endC).e))) fun da a5=>?_
 have br:=RC.upd ar a5 az (aC.step (RC.u ar) a5)
 refine bi (RC.fld br) fun Y=>Rt 0 Y<|Rt 1 Y<|Rt 2 Y<|Rt 3 Y<|Rl 4 Y (fun _ hs=>hs)<|?_
 have bt:=aD X a5
 refine R0 5 rfl<|b7 (ub (ut I (ut S (ui d (u1 aq bt im)) (ac im (ac im ay))) (ac (nr a) (ac (ni q.size r) ay))) g) mZ fun db co aA=>?_
 have bu:=ud bq (uz a5 aA) G
 refine bi (RC.fld (RC.upd br aA (aa (Ne.symm (nb (am g) lr a)) az) bu)) fun cq=>Rt 6 cq<|re<|tn<|rt<|tr<|bJ co (.int .i64 (((x88.wordsC (((x70.l.length:Nat) : Int)/2)).endC).e))<|?_
 have dc:=ap D (us a4 (us bt aA)) (fun x hx=>(aa (fun e=>(aB (am R) (le (le (le (le (le (le k.size j.size) o.size) f.size) d.size) y.size) J.size) D) (e▸hx)) (aa (fun e=>(aB (am C) (le (le (le (le (le (le (le t.size k.size) j.size) o.size) f.size) d.size) y.size) J.size) D) (e▸hx)) (aa (fun e=>(aB (am g) (le (le (le (le (le (le (le (le q.size t.size) k.size) j.size) o.size) f.size) d.size) y.size) J.size) D) (e▸hx)) az)))) (fun _ _ h=>h)
 rw[hs]
 exact bg aw bu
 have aw:=ag av
 refine bf<|sg<|?_
 refine L0<|bO (aW X (Ne.symm s) cn)<|?_
 refine L0<|b7 (ub (ut I (ut S (ui d (u1 aq X im)) (ac im (ac im ay))) (ac (nr a) (ac (ni q.size r) ay))) g) (mG c 0 0 0 0 0 0 0 ((ak.mk b false 0).wordV) 0 0 0 (.slice bh ((x88.wordsR (((x70.l.length:Nat) : Int)/2)).length) bj) nS nS nS 0 0 0 0 0 nS) fun dd cr bw=>Pl 1<|nt<|rt<|bJ cr (.int .i64 0)<|?_
 rw[hs]
 exact bo aw ⟨_,_,_,_,_,rfl,((ap D (us a4 (us X bw)) (fun x hx=>(aa (fun e=>(aB (am R) (le (le (le (le (le (le k.size j.size) o.size) f.size) d.size) y.size) J.size) D) (e▸hx)) (aa (fun e=>(aB (am C) (le (le (le (le (le (le (le t.size k.size) j.size) o.size) f.size) d.size) y.size) J.size) D) (e▸hx)) (aa (fun e=>(aB (am g) (le (le (le (le (le (le (le (le q.size t.size) k.size) j.size) o.size) f.size) d.size) y.size) J.size) D) (e▸hx)) az)))) (fun _ _ h=>h))).rd,aL.nil ..,(fun _ _ _=>aL.nil ..),aL.nil ..,aL.nil ..,(cj (by omega))⟩ (ud bq bw G)
 have cc:=aj U
 refine bf<|sg<|Pl 1<|L0<|Oc<|m3 (cO T) fun cs bz E de=>Pl 1<|ng<|Pl 3<|?_
 have bA:=aW E (Ne.symm s) ao
 refine L0<|aO bA 8<|Pl 1<|L0<|Oc<|m1 (zX (dir:=0) (sub:=(ak.mk b false 0).wordV) (v:=x70.wordV) (w:=cs) (by omega)) fun df z=>?_
 refine L0<|Oc<|m2 (aY ((fs 0 ((ak.mk b false 0).wordV) x70.wordV)) 6 (RC.upd bz z az (aC.step (RC.u bz) z))) fun dg ct L=>?_
 refine fY ct fun Z cv cw=>?_
 refine nt<|go<|Pl 1<|L0<|cL (m:=1) (e:=24) #[.int .u16 x70.wordV] fun bC dh cx cz bD=>?_
 have F:=dL cx (xs:=[x70.wordV]) (by as_aux_lemma=>kernel_rfl) (au (by omega) aK) (by(try simp only[List.length_cons,List.length_nil]);omega) cz
 refine Pl 1<|?_
 have bE:=uz z (aD L bD)
 refine L0<|bX (aW bE (Ne.symm s) bA) 12 (mG c 0 0 0 0 0 0 0 ((ak.mk b false 0).wordV) 0 0 0 (.slice (some ⟨bC,0,none⟩) 1 1) nS nS nS 0 0 0 0 0 nS) fun di cA a6=>nl<|bn<|tn<|sg<|Pl 1<|?_
 have aE:=ui E (us bE a6)
 have bF:=ut bc aE (ac (ni i.size a) (ac (ni (le i.size q.size) r) ay))
 refine L0<|Oc<|m2 (eE (RC.upd cw (uz bD a6) (aa s az) bF)) fun dj aF a0=>nt<|sq<|sg<|Pl 3<|L0<|ei (p:=⟨B,3,none⟩) (v:=.int .i64 Z.endC.e) (RC.fld aF)<|Pl 1<|nt<|?_
 have bG:=ud bF a0 (le i.size a)
 have hs:ai bB 0 c b=b6 (aP.mk c 0 0 0 0 0 0 0 ((ak.mk b false 0).wordV) 0 0 0 [x70.wordV] [] [] [] 0 0 0 0 0 []) Z:=by
   subst cv bb
   unfold ai bB ew dP
   (try simp only[H,M,U,bs,if_true,if_false,decide_true,decide_false,eq_self,true_or,or_true,or_false,false_or,if_true,if_false,dE,dC,dD,dF,reduceIte,kO,kJ])
   all_goals rfl
 refine cb ((Z.endC.e != 0)) (fun aG=>?_) (fun aG=>?_)
 have aH:=ax aG
 refine sq<|Rg 7 (fun w'=>w'.cell? ⟨B,3,none⟩=some (.int .i64 Z.endC.e)) fun dk a7=>?_
 have bI:=RC.upd aF a7 az (aC.step (RC.u aF) a7)
 refine bi (RC.fld bI) fun a1=>Rt 0 a1<|Rt 1 a1<|Rt 2 a1<|Rt 3 a1<|Rl 4 a1 (fun _ hs=>hs)<|?_
 have bK:=aD a0 a7
 refine R0 5 rfl<|b7 (ub (ut I (ut S (ui d (u1 aE bK im)) (ac im (ac im ay))) (ac (nr a) (ac (ni q.size r) ay))) g) mZ fun dl cB aI=>?_
 have bL:=ud bG (uz a7 aI) G
 refine bi (RC.fld (RC.upd bI aI (aa (Ne.symm (nb (am g) lr a)) az) bL)) fun cC=>Rt 6 cC<|re<|tn<|rt<|tr<|bJ cB (.int .i64 Z.endC.e)<|?_
 have dm:=ap F (us a6 (us bK aI)) (fun x hx=>(aa (fun e=>(aB (am R) (le (le (le (le (le (le (le k.size j.size) o.size) f.size) d.size) E.size) z.size) L.size) F) (e▸hx)) (aa (fun e=>(aB (am C) (le (le (le (le (le (le (le (le t.size k.size) j.size) o.size) f.size) d.size) E.size) z.size) L.size) F) (e▸hx)) (aa (fun e=>(aB (am g) (le (le (le (le (le (le (le (le (le q.size t.size) k.size) j.size) o.size) f.size) d.size) E.size) z.size) L.size) F) (e▸hx)) az)))) (fun _ _ h=>h)
 rw[hs]
 exact bg aH bL
 have aH:=ag aG
 refine bf<|sg<|?_
 refine L0<|bO (aW a0 (Ne.symm s) cA)<|?_
 refine L0<|b7 (ub (ut I (ut S (ui d (u1 aE a0 im)) (ac im (ac im ay))) (ac (nr a) (ac (ni q.size r) ay))) g) (mG c 0 0 0 0 0 0 0 ((ak.mk b false 0).wordV) 0 0 0 (.slice (some ⟨bC,0,none⟩) 1 1) nS nS nS 0 0 0 0 0 nS) fun dn cD bM=>Pl 1<|nt<|rt<|bJ cD (.int .i64 0)<|?_
 rw[hs]
 exact bo aH ⟨_,_,_,_,_,rfl,((ap F (us a6 (us a0 bM)) (fun x hx=>(aa (fun e=>(aB (am R) (le (le (le (le (le (le (le k.size j.size) o.size) f.size) d.size) E.size) z.size) L.size) F) (e▸hx)) (aa (fun e=>(aB (am C) (le (le (le (le (le (le (le (le t.size k.size) j.size) o.size) f.size) d.size) E.size) z.size) L.size) F) (e▸hx)) (aa (fun e=>(aB (am g) (le (le (le (le (le (le (le (le (le q.size t.size) k.size) j.size) o.size) f.size) d.size) E.size) z.size) L.size) F) (e▸hx)) az)))) (fun _ _ h=>h))).rd,aL.nil ..,(fun _ _ _=>aL.nil ..),aL.nil ..,aL.nil ..,(cj (by omega))⟩ (ud bG bM G)
 have c5:=aj M
 refine sg<|Pl 3<|nt<|c1<|sk<|bn<|tn<|sg<|Pl 1<|?_
 have cE:RC w _ A cp b b2 B (ak.mk b false 0):=⟨hsl,a3,(Nat.le_trans i.size a),⟨0,(ub ae C),Nat.zero_le _,rfl⟩,by omega⟩
 refine L0<|Oc<|m2 (eE cE) fun dp aJ a8=>nt<|sq<|sg<|Pl 3<|L0<|ei (p:=⟨B,3,none⟩) (v:=.int .i64 (((ak.mk b false 0).endC).e)) (RC.fld aJ)<|Pl 1<|nt<|?_
 have bN:=ud a3 a8 (le i.size a)
 have hs:ai bB 0 c b=b6 (aP.mk c 0 0 0 0 0 0 0 0 0 0 0 [] [] [] [] 0 0 0 0 0 []) (ak.mk b false 0):=by
   unfold ai bB ew dP
   (try simp only[H,M,bs,if_true,if_false,decide_true,decide_false,eq_self,true_or,or_true,or_false,false_or,if_true,if_false,dE,dC,dD,dF,reduceIte,kO,kJ])
   all_goals rfl
 refine cb (((((ak.mk b false 0).endC).e)!=0)) (fun aM=>?_) (fun aM=>?_)
 have aN:=ax aM
 refine sq<|Rg 7 (fun w'=>w'.cell? ⟨B,3,none⟩=some (.int .i64 (((ak.mk b false 0).endC).e))) fun dq a9=>?_
 have bP:=RC.upd aJ a9 az (aC.step (RC.u aJ) a9)
 refine bi (RC.fld bP) fun a2=>Rt 0 a2<|Rt 1 a2<|Rt 2 a2<|Rt 3 a2<|Rl 4 a2 (fun _ hs=>hs)<|?_
 refine R0 5 rfl<|b7 (ub (ud I (aD a8 a9) a) g) mZ fun dr cF bQ=>?_
 have bR:=ud bN (uz a9 bQ) G
 refine bi (RC.fld (RC.upd bP bQ (aa (Ne.symm (nb (am g) lr a)) az) bR)) fun cG=>Rt 6 cG<|re<|tn<|rt<|tr<|bJ cF (.int .i64 (((ak.mk b false 0).endC).e))<|?_
 rw[hs]
 exact bg aN bR
 have aN:=ag aM
 refine bf<|sg<|?_
 refine L0<|bO (aW a8 (Ne.symm (nb (am C) lr r)) b3)<|?_
 refine L0<|b7 (ub (ud I a8 a) g) (mC c) fun ds cH cI=>Pl 1<|nt<|rt<|bJ cH (.int .i64 0)<|?_
 rw[hs]
 exact bo aN ⟨_,_,_,_,_,rfl,aL.nil ..,aL.nil ..,(fun _ _ _=>aL.nil ..),aL.nil ..,aL.nil ..,(cj (by omega))⟩ (ud bN cI G)
theorem mB{m:Md}{A:Option Addr}{cp:Nat}{b:List Int}{w:World}{c:Int}(hcode:B8 c)(hsl:b9 m w (.slice A b.length cp) b)(hb:b.length≤1048576) :
    Calls Tryz.prog 95 #[.int .i64 1,.int .u8 c,.slice A b.length cp] w (cy (.slice A b.length cp) b (ai bB 1 c b) w):=by
 obtain⟨hcode1,hcode2⟩:=hcode
 have hln:(b.length:Int)≤1048576:=by omega
 refine en 197 Tryz.func95 rfl<|sg<|L0<|bH mZ fun fr ft s i d=>Pl 1<|nt<|sq<|sg<|Pl 6<|nt<|c0<|?_
 refine bf<|sq<|sg<|Pl 3<|cu 3 [24] 27 (((c != 7)&&(c != 8))) (fun K bV=>?_) ?_
 refine bl 24 ((c != 7)) (fun W=>?_) (fun W=>?_)
 have dw:=ax W
 exact Pl 3<|ce bV (c != 8) (by rw[W];rfl)
 have dw:=ag W
 exact Pl 3<|ce bV false (by rw[W];rfl)
 refine Pl 1<|cu 3 [28] 31 ((((c != 7)&&(c != 8))&&(c != 11))) (fun K bW=>?_) ?_
 refine bl 28 (((c != 7)&&(c != 8))) (fun X=>?_) (fun X=>?_)
 have dx:=(aT X).1
 have dy:=(aT X).2
 have fu:=ax dx
 have fv:=ax dy
 exact Pl 3<|ce bW (c != 11) (by rw[X];rfl)
 exact Pl 3<|ce bW false (by rw[X];rfl)
 refine Pl 1<|cu 3 [32] 35 (((((c != 7)&&(c != 8))&&(c != 11))&&(c != 12))) (fun K bY=>?_) ?_
 refine bl 32 ((((c != 7)&&(c != 8))&&(c != 11))) (fun Y=>?_) (fun Y=>?_)
 have bZ:=(aT Y).1
 have dz:=(aT Y).2
 have dA:=(aT bZ).1
 have dB:=(aT bZ).2
 have q19aap:=ax dA
 have q19abp:=ax dB
 have fw:=ax dz
 exact Pl 3<|ce bY (c != 12) (by rw[Y];rfl)
 exact Pl 3<|ce bY false (by rw[Y];rfl)
 refine Pl 1<|cu 3 [36] 39 ((((((c != 7)&&(c != 8))&&(c != 11))&&(c != 12))&&(c != 17))) (fun K c1=>?_) ?_
 refine bl 36 (((((c != 7)&&(c != 8))&&(c != 11))&&(c != 12))) (fun Z=>?_) (fun Z=>?_)
 have c2:=(aT Z).1
 have dG:=(aT Z).2
 have c3:=(aT c2).1
 have dH:=(aT c2).2
 have q21aaa:=(aT c3).1
 have q21aab:=(aT c3).2
 have q21aaap:=ax q21aaa
 have q21aabp:=ax q21aab
 have q21abp:=ax dH
 have fx:=ax dG
 exact Pl 3<|ce c1 (c != 17) (by rw[Z];rfl)
 exact Pl 3<|ce c1 false (by rw[Z];rfl)
 refine nt<|cb ((((((c != 7)&&(c != 8))&&(c != 11))&&(c != 12))&&(c != 17))) (fun D=>?_) (fun D=>?_)
 have b0:=(aT D).1
 have c4:=(aT D).2
 have b1:=(aT b0).1
 have c5:=(aT b0).2
 have q23aaa:=(aT b1).1
 have q23aab:=(aT b1).2
 have q23aaaa:=(aT q23aaa).1
 have q23aaab:=(aT q23aaa).2
 have q23aaaap:=ax q23aaaa
 have q23aaabp:=ax q23aaab
 have q23aabp:=ax q23aab
 have q23abp:=ax c5
 have fy:=ax c4
 refine sg<|Pl 1<|L0<|b7 i mZ fun fz dI dJ=>Pl 1<|nt<|rt<|tr<|bJ dI (.int .i64 4)<|?_
 have hs:ai bB 1 c b=(aP.zero,4):=by
   unfold ai bB ew dP
   (try simp only[D,b0,b1,q23aaa,q23aaaa,q23aaab,q23aab,c5,c4,bs,if_true,if_false,decide_true,decide_false,eq_self,true_or,or_true,or_false,false_or,if_true,if_false,dE,dC,dD,dF,reduceIte,kO,kJ])
   all_goals rfl
 rw[hs]
 exact bv (ud d dJ s)
 refine bf<|sg<|Pl 2<|L0<|dv #[.slice A b.length cp,.int .i64 0,.bool false,.int .i64 0] fun k fA a q g=>Pl 1<|ng<|Pl 2<|L0<|bH mZ fun fB fC f a0 G=>L0<|b7 a0 (mC c) fun a1 a2 t=>?_
 refine nt<|sq<|bk<|sg<|Pl 3<|nt<|?_
 have U:=ud G t f
 have y:=aD g U
 have E:=aD d y
 refine cb ((c==8)) (fun H=>?_) (fun H=>?_)
 have dK:=ah H
 refine sg<|Pl 1<|?_
 have dM:RC w _ A cp b a1 k (ak.mk b false 0):=⟨hsl,E,(Nat.le_trans d.size a),⟨0,(ub U q),Nat.zero_le _,rfl⟩,by omega⟩
 refine L0<|Oc<|m3 (cO dM) fun fD dN r fE=>Pl 1<|?_
 have F:=nb (am q) lr f
 refine L0<|bX (aW r (Ne.symm F) a2) 8 (mG c 0 0 0 0 0 0 0 ((ak.mk b false 0).wordV) 0 0 0 nS nS nS nS 0 0 0 0 0 nS) fun dO b2 z=>ng<|Pl 1<|L0<|aO b2 8<|L0<|Oc<|m1 (A7 (x:=(ak.mk b false 0).wordV) (w:=dO) (by omega)) fun fF o=>Pl 1<|ng<|Pl 3<|cu 8 [72] 80 (((eA ((ak.mk b false 0).wordV))&&(((ak.mk b false 0).wordV)!=4))) (fun K c6=>?_) ?_
 refine bl 72 ((eA ((ak.mk b false 0).wordV))) (fun b3=>?_) (fun b3=>?_)
 refine Pl 1<|?_
 refine L1<|aO (ub o b2) 8<|Pl 2<|cu 3 [76] 79 ((((ak.mk b false 0).wordV)!=4)) (fun K c7=>?_) ?_
 refine bl 76 ((((ak.mk b false 0).wordV)!=4)) (fun a3=>?_) (fun a3=>?_)
 have dQ:=ax a3
 exact Pl 3<|ce c7 true a3
 have dQ:=ag a3
 exact Pl 3<|ce c7 false a3
 exact Pl 1<|ce c6 (((ak.mk b false 0).wordV)!=4) (by rw[b3];rfl)
 exact Pl 8<|ce c6 false (by rw[b3];rfl)
 have c8:=aD z o
 have a4:=us r c8
 have c9:=ut E a4 (ac (ni d.size a) (ac (ni (le d.size g.size) f) ay))
 refine L0<|Oc<|m2 (aY (((eA ((ak.mk b false 0).wordV))&&(((ak.mk b false 0).wordV)!=4))) 8 (RC.upd dN c8 (aa F az) c9)) fun fG dR j=>?_
 refine fY dR fun x70 ca a5=>?_
 refine nt<|sq<|sg<|Pl 1<|?_
 have b4:=aW (uz o j) (Ne.symm F) b2
 refine L0<|aO b4 8<|Pl 1<|nt<|?_
 have cc:=ud c9 j (le d.size a)
 refine cb ((((ak.mk b false 0).wordV)==0)) (fun a6=>?_) (fun a6=>?_)
 have dS:=ah a6
 refine sg<|Pl 1<|L0<|Oc<|m1 (iU a5) fun fH I=>?_
 have fI:=RC.clen a5
 refine Pl 1<|ng<|Pl 2<|L0<|Oe (.int .i64 (Int.tmod ((x70.l.length:Nat) : Int) 2)) (.int .i64 (((x70.l.length:Nat) : Int)%2)) (congrArg (Value.int .i64) (Int.tmod_eq_emod_of_nonneg (by omega)))<|Pl 2<|cu 3 [91] 94 ((((((x70.l.length:Nat) : Int)%2)==0)&&(decide (2≤((x70.l.length:Nat) : Int))))) (fun K cd=>?_) ?_
 refine bl 91 (((((x70.l.length:Nat) : Int)%2)==0)) (fun a7=>?_) (fun a7=>?_)
 have dT:=ah a7
 exact Pl 3<|ce cd (decide (2≤((x70.l.length:Nat) : Int))) (by rw[a7];rfl)
 have dT:=aj a7
 exact Pl 3<|ce cd false (by rw[a7];rfl)
 refine Pl 1<|cu 3 [95] 98 (((((((x70.l.length:Nat) : Int)%2)==0)&&(decide (2≤((x70.l.length:Nat) : Int))))&&(decide (((x70.l.length:Nat) : Int)≤250)))) (fun K cf=>?_) ?_
 refine bl 95 ((((((x70.l.length:Nat) : Int)%2)==0)&&(decide (2≤((x70.l.length:Nat) : Int))))) (fun a8=>?_) (fun a8=>?_)
 have dU:=(aT a8).1
 have dV:=(aT a8).2
 have fK:=ah dU
 have fL:=of_decide_eq_true dV
 exact Pl 3<|ce cf (decide (((x70.l.length:Nat) : Int)≤250)) (by rw[a8];rfl)
 exact Pl 3<|ce cf false (by rw[a8];rfl)
 refine L0<|Oc<|m2 (aY (((((((x70.l.length:Nat) : Int)%2)==0)&&(decide (2≤((x70.l.length:Nat) : Int))))&&(decide (((x70.l.length:Nat) : Int)≤250)))) 5 (RC.upd a5 I az (aC.step (RC.u a5) I))) fun fM dW R=>?_
 refine fY dW fun x88 dX dY=>?_
 refine ng<|Pl 2<|L0<|Oe (.int .i64 (IntKind.i64.wrap (Int.tdiv ((x70.l.length:Nat) : Int) 2))) (.int .i64 (((x70.l.length:Nat) : Int)/2)) (congrArg (Value.int .i64) (gi (by omega) (by omega)))<|L0<|Oc<|nW (gz (n:=(((x70.l.length:Nat) : Int)/2)) (by omega) dY) fun cg ch fN N fO fP dZ e0=>Pl 1<|?_
 have ci:=uz I (u1 R e0 im)
 refine L0<|bX (aW ci (Ne.symm F) b4) 12 (mG c 0 0 0 0 0 0 0 ((ak.mk b false 0).wordV) 0 0 0 (.slice cg ((x88.wordsR (((x70.l.length:Nat) : Int)/2)).length) ch) nS nS nS 0 0 0 0 0 nS) fun fQ e1 aH=>nt<|xt<|tx<|bx<|tn<|sg<|Pl 1<|?_
 have b5:=us ci aH
 have ck:=ut cc b5 (ac (ni d.size a) (ac (ni (le d.size g.size) f) ay))
 refine L0<|Oc<|m2 (eE (RC.upd dZ aH (aa F az) ck)) fun fR b8 a9=>nt<|sq<|sg<|Pl 3<|L0<|ei (p:=⟨k,3,none⟩) (v:=.int .i64 (((x88.wordsC (((x70.l.length:Nat) : Int)/2)).endC).e)) (RC.fld b8)<|Pl 1<|nt<|?_
 have cl:=ud ck a9 (le d.size a)
 have hs:ai bB 1 c b=b6 (aP.mk c 0 0 0 0 0 0 0 ((ak.mk b false 0).wordV) 0 0 0 (x88.wordsR (((x70.l.length:Nat) : Int)/2)) [] [] [] 0 0 0 0 0 []) (x88.wordsC (((x70.l.length:Nat) : Int)/2)):=by
   subst dX ca
   unfold ai bB ew dP
   (try simp only[D,H,a6,bs,if_true,if_false,decide_true,decide_false,eq_self,true_or,or_true,or_false,false_or,if_true,if_false,dE,dC,dD,dF,reduceIte,kO,kJ])
   all_goals rfl
 refine cb (((((x88.wordsC (((x70.l.length:Nat) : Int)/2)).endC).e)!=0)) (fun ba=>?_) (fun ba=>?_)
 have bb:=ax ba
 refine sq<|Rg 7 (fun w'=>w'.cell? ⟨k,3,none⟩=some (.int .i64 (((x88.wordsC (((x70.l.length:Nat) : Int)/2)).endC).e))) fun fS aI=>?_
 have cm:=RC.upd b8 aI az (aC.step (RC.u b8) aI)
 refine bi (RC.fld cm) fun ab=>Rt 0 ab<|Rt 1 ab<|Rt 2 ab<|Rt 3 ab<|Rl 4 ab (fun _ hs=>hs)<|?_
 have cn:=aD a9 aI
 refine R0 5 rfl<|b7 (ub (ut y (ut a4 (ui j (u1 b5 cn im)) (ac im (ac im ay))) (ac (nr a) (ac (ni g.size f) ay))) i) mZ fun fT e2 bc=>?_
 have co:=ud cl (uz aI bc) s
 refine bi (RC.fld (RC.upd cm bc (aa (Ne.symm (nb (am i) lr a)) az) co)) fun e3=>Rt 6 e3<|re<|tn<|rt<|tr<|bJ e2 (.int .i64 (((x88.wordsC (((x70.l.length:Nat) : Int)/2)).endC).e))<|?_
 have fU:=ap N (us aH (us cn bc)) (fun x hx=>(aa (fun e=>(aB (am a0) (le (le (le (le (le (le t.size r.size) z.size) o.size) j.size) I.size) R.size) N) (e▸hx)) (aa (fun e=>(aB (am q) (le (le (le (le (le (le (le G.size t.size) r.size) z.size) o.size) j.size) I.size) R.size) N) (e▸hx)) (aa (fun e=>(aB (am i) (le (le (le (le (le (le (le (le g.size G.size) t.size) r.size) z.size) o.size) j.size) I.size) R.size) N) (e▸hx)) az)))) (fun _ _ h=>h)
 rw[hs]
 exact bg bb co
 have bb:=ag ba
 refine bf<|sg<|?_
 refine L0<|bO (aW a9 (Ne.symm F) e1)<|?_
 refine L0<|b7 (ub (ut y (ut a4 (ui j (u1 b5 a9 im)) (ac im (ac im ay))) (ac (nr a) (ac (ni g.size f) ay))) i) (mG c 0 0 0 0 0 0 0 ((ak.mk b false 0).wordV) 0 0 0 (.slice cg ((x88.wordsR (((x70.l.length:Nat) : Int)/2)).length) ch) nS nS nS 0 0 0 0 0 nS) fun fV e4 cq=>Pl 1<|nt<|rt<|bJ e4 (.int .i64 0)<|?_
 rw[hs]
 exact bo bb ⟨_,_,_,_,_,rfl,((ap N (us aH (us a9 cq)) (fun x hx=>(aa (fun e=>(aB (am a0) (le (le (le (le (le (le t.size r.size) z.size) o.size) j.size) I.size) R.size) N) (e▸hx)) (aa (fun e=>(aB (am q) (le (le (le (le (le (le (le G.size t.size) r.size) z.size) o.size) j.size) I.size) R.size) N) (e▸hx)) (aa (fun e=>(aB (am i) (le (le (le (le (le (le (le (le g.size G.size) t.size) r.size) z.size) o.size) j.size) I.size) R.size) N) (e▸hx)) az)))) (fun _ _ h=>h))).rd,aL.nil ..,(fun _ _ _=>aL.nil ..),aL.nil ..,aL.nil ..,(cj (by omega))⟩ (ud cl cq s)
 have dS:=aj a6
 refine bf<|sg<|Pl 1<|L0<|Oc<|m3 (cO a5) fun e5 cr O fW=>Pl 1<|ng<|Pl 3<|?_
 have cs:=aW O (Ne.symm F) b4
 refine L0<|aO cs 8<|Pl 1<|L0<|Oc<|m1 (zX (dir:=1) (sub:=(ak.mk b false 0).wordV) (v:=x70.wordV) (w:=e5) (by omega)) fun fX J=>?_
 refine L0<|Oc<|m2 (aY ((fs 1 ((ak.mk b false 0).wordV) x70.wordV)) 6 (RC.upd cr J az (aC.step (RC.u cr) J))) fun fZ e6 S=>?_
 refine fY e6 fun ad e7 e8=>?_
 refine nt<|go<|Pl 1<|L0<|cL (m:=1) (e:=24) #[.int .u16 x70.wordV] fun ct g0 e9 ea cv=>?_
 have P:=dL e9 (xs:=[x70.wordV]) (by as_aux_lemma=>kernel_rfl) (au (by omega) aK) (by(try simp only[List.length_cons,List.length_nil]);omega) ea
 refine Pl 1<|?_
 have cw:=uz J (aD S cv)
 refine L0<|bX (aW cw (Ne.symm F) cs) 12 (mG c 0 0 0 0 0 0 0 ((ak.mk b false 0).wordV) 0 0 0 (.slice (some ⟨ct,0,none⟩) 1 1) nS nS nS 0 0 0 0 0 nS) fun g1 eb aJ=>nl<|bn<|tn<|sg<|Pl 1<|?_
 have bd:=ui O (us cw aJ)
 have cx:=ut cc bd (ac (ni d.size a) (ac (ni (le d.size g.size) f) ay))
 refine L0<|Oc<|m2 (eE (RC.upd e8 (uz cv aJ) (aa F az) cx)) fun g2 be ae=>nt<|sq<|sg<|Pl 3<|L0<|ei (p:=⟨k,3,none⟩) (v:=.int .i64 ad.endC.e) (RC.fld be)<|Pl 1<|nt<|?_
 have cz:=ud cx ae (le d.size a)
 have hs:ai bB 1 c b=b6 (aP.mk c 0 0 0 0 0 0 0 ((ak.mk b false 0).wordV) 0 0 0 [x70.wordV] [] [] [] 0 0 0 0 0 []) ad:=by
   subst e7 ca
   unfold ai bB ew dP
   (try simp only[D,H,a6,bs,if_true,if_false,decide_true,decide_false,eq_self,true_or,or_true,or_false,false_or,if_true,if_false,dE,dC,dD,dF,reduceIte,kO,kJ])
   all_goals rfl
 refine cb ((ad.endC.e != 0)) (fun bh=>?_) (fun bh=>?_)
 have bj:=ax bh
 refine sq<|Rg 7 (fun w'=>w'.cell? ⟨k,3,none⟩=some (.int .i64 ad.endC.e)) fun g3 aM=>?_
 have cA:=RC.upd be aM az (aC.step (RC.u be) aM)
 refine bi (RC.fld cA) fun af=>Rt 0 af<|Rt 1 af<|Rt 2 af<|Rt 3 af<|Rl 4 af (fun _ hs=>hs)<|?_
 have cB:=aD ae aM
 refine R0 5 rfl<|b7 (ub (ut y (ut a4 (ui j (u1 bd cB im)) (ac im (ac im ay))) (ac (nr a) (ac (ni g.size f) ay))) i) mZ fun g4 ec bm=>?_
 have cC:=ud cz (uz aM bm) s
 refine bi (RC.fld (RC.upd cA bm (aa (Ne.symm (nb (am i) lr a)) az) cC)) fun ee=>Rt 6 ee<|re<|tn<|rt<|tr<|bJ ec (.int .i64 ad.endC.e)<|?_
 have g5:=ap P (us aJ (us cB bm)) (fun x hx=>(aa (fun e=>(aB (am a0) (le (le (le (le (le (le (le t.size r.size) z.size) o.size) j.size) O.size) J.size) S.size) P) (e▸hx)) (aa (fun e=>(aB (am q) (le (le (le (le (le (le (le (le G.size t.size) r.size) z.size) o.size) j.size) O.size) J.size) S.size) P) (e▸hx)) (aa (fun e=>(aB (am i) (le (le (le (le (le (le (le (le (le g.size G.size) t.size) r.size) z.size) o.size) j.size) O.size) J.size) S.size) P) (e▸hx)) az)))) (fun _ _ h=>h)
 rw[hs]
 exact bg bj cC
 have bj:=ag bh
 refine bf<|sg<|?_
 refine L0<|bO (aW ae (Ne.symm F) eb)<|?_
 refine L0<|b7 (ub (ut y (ut a4 (ui j (u1 bd ae im)) (ac im (ac im ay))) (ac (nr a) (ac (ni g.size f) ay))) i) (mG c 0 0 0 0 0 0 0 ((ak.mk b false 0).wordV) 0 0 0 (.slice (some ⟨ct,0,none⟩) 1 1) nS nS nS 0 0 0 0 0 nS) fun g6 ef cD=>Pl 1<|nt<|rt<|bJ ef (.int .i64 0)<|?_
 rw[hs]
 exact bo bj ⟨_,_,_,_,_,rfl,((ap P (us aJ (us ae cD)) (fun x hx=>(aa (fun e=>(aB (am a0) (le (le (le (le (le (le (le t.size r.size) z.size) o.size) j.size) O.size) J.size) S.size) P) (e▸hx)) (aa (fun e=>(aB (am q) (le (le (le (le (le (le (le (le G.size t.size) r.size) z.size) o.size) j.size) O.size) J.size) S.size) P) (e▸hx)) (aa (fun e=>(aB (am i) (le (le (le (le (le (le (le (le (le g.size G.size) t.size) r.size) z.size) o.size) j.size) O.size) J.size) S.size) P) (e▸hx)) az)))) (fun _ _ h=>h))).rd,aL.nil ..,(fun _ _ _=>aL.nil ..),aL.nil ..,aL.nil ..,(cj (by omega))⟩ (ud cz cD s)
 have dK:=aj H
 refine sg<|Pl 3<|nt<|c0<|sg<|Pl 3<|nt<|cb ((c==7)) (fun T=>?_) (fun T=>?_)
 have eg:=ah T
 refine go<|Pl 1<|?_
 have eh:RC w _ A cp b a1 k (ak.mk b false 0):=⟨hsl,E,(Nat.le_trans d.size a),⟨0,(ub U q),Nat.zero_le _,rfl⟩,by omega⟩
 refine L0<|Oc<|m3 (ed eh) fun g7 ej cE g8=>L0<|zw ((ak.mk b false 0).byteV)<|Pl 1<|?_
 have bp:=nb (am q) lr f
 refine L0<|bX (aW cE (Ne.symm bp) a2) 4 (mG c 0 0 0 ((ak.mk b false 0).byteV) 0 0 0 0 0 0 0 nS nS nS nS 0 0 0 0 0 nS) fun g9 ek cF=>nl<|bn<|tn<|sg<|Pl 1<|?_
 have bq:=us cE cF
 have cG:=ut E bq (ac (ni d.size a) (ac (ni (le d.size g.size) f) ay))
 refine L0<|Oc<|m2 (eE (RC.upd ej cF (aa bp az) cG)) fun ga br aN=>nt<|sq<|sg<|Pl 3<|L0<|ei (p:=⟨k,3,none⟩) (v:=.int .i64 ((((ak.mk b false 0).bytesC 1).endC).e)) (RC.fld br)<|Pl 1<|nt<|?_
 have cH:=ud cG aN (le d.size a)
 have hs:ai bB 1 c b=b6 (aP.mk c 0 0 0 ((ak.mk b false 0).byteV) 0 0 0 0 0 0 0 [] [] [] [] 0 0 0 0 0 []) ((ak.mk b false 0).bytesC 1):=by
   unfold ai bB ew dP
   (try simp only[D,H,T,bs,if_true,if_false,decide_true,decide_false,eq_self,true_or,or_true,or_false,false_or,if_true,if_false,dE,dC,dD,dF,reduceIte,kO,kJ])
   all_goals rfl
 refine cb ((((((ak.mk b false 0).bytesC 1).endC).e)!=0)) (fun bt=>?_) (fun bt=>?_)
 have bu:=ax bt
 refine sq<|Rg 7 (fun w'=>w'.cell? ⟨k,3,none⟩=some (.int .i64 ((((ak.mk b false 0).bytesC 1).endC).e))) fun gb aQ=>?_
 have cI:=RC.upd br aQ az (aC.step (RC.u br) aQ)
 refine bi (RC.fld cI) fun al=>Rt 0 al<|Rt 1 al<|Rt 2 al<|Rt 3 al<|Rl 4 al (fun _ hs=>hs)<|?_
 refine R0 5 rfl<|b7 (ub (ut y (u1 bq (aD aN aQ) im) (ac (nr a) (ac (ni g.size f) ay))) i) mZ fun gc el cJ=>?_
 have cK:=ud cH (uz aQ cJ) s
 refine bi (RC.fld (RC.upd cI cJ (aa (Ne.symm (nb (am i) lr a)) az) cK)) fun em=>Rt 6 em<|re<|tn<|rt<|tr<|bJ el (.int .i64 ((((ak.mk b false 0).bytesC 1).endC).e))<|?_
 rw[hs]
 exact bg bu cK
 have bu:=ag bt
 refine bf<|sg<|?_
 refine L0<|bO (aW aN (Ne.symm bp) ek)<|?_
 refine L0<|b7 (ub (ut y (u1 bq aN im) (ac (nr a) (ac (ni g.size f) ay))) i) (mG c 0 0 0 ((ak.mk b false 0).byteV) 0 0 0 0 0 0 0 nS nS nS nS 0 0 0 0 0 nS) fun gd eo ep=>Pl 1<|nt<|rt<|bJ eo (.int .i64 0)<|?_
 rw[hs]
 exact bo bu ⟨_,_,_,_,_,rfl,aL.nil ..,aL.nil ..,(fun _ _ _=>aL.nil ..),aL.nil ..,aL.nil ..,(cj (by omega))⟩ (ud cH ep s)
 have eg:=aj T
 refine sg<|Pl 3<|nt<|cb ((c==11)) (fun V=>?_) (fun V=>?_)
 have eq:=ah V
 refine sg<|Pl 1<|?_
 have er:RC w _ A cp b a1 k (ak.mk b false 0):=⟨hsl,E,(Nat.le_trans d.size a),⟨0,(ub U q),Nat.zero_le _,rfl⟩,by omega⟩
 refine L0<|Oc<|m3 (cO er) fun ge es cM gf=>Pl 1<|?_
 have an:=nb (am q) lr f
 refine L0<|bX (aW cM (Ne.symm an) a2) 9 (mG c 0 0 0 0 0 0 0 0 ((ak.mk b false 0).wordV) 0 0 nS nS nS nS 0 0 0 0 0 nS) fun gg bw cN=>ng<|Pl 2<|L0<|aO bw 9<|Pl 2<|cu 4 [137] 141 (((((ak.mk b false 0).wordV)==0)||(((ak.mk b false 0).wordV)==65535))) (fun K cP=>?_) ?_
 refine bl 137 ((((ak.mk b false 0).wordV)==0)) (fun ao=>?_) (fun ao=>?_)
 have et:=ah ao
 exact Pl 4<|ce cP true (by rw[ao];rfl)
 have et:=aj ao
 exact Pl 1<|L1<|aO bw 9<|Pl 2<|ce cP (((ak.mk b false 0).wordV)==65535) (by rw[ao];rfl)
 have bz:=us cM cN
 have cQ:=ut E bz (ac (ni d.size a) (ac (ni (le d.size g.size) f) ay))
 refine L0<|Oc<|m2 (aY (((((ak.mk b false 0).wordV)==0)||(((ak.mk b false 0).wordV)==65535))) 6 (RC.upd es cN (aa an az) cQ)) fun gh eu ev=>?_
 refine fY eu fun Q ex ey=>?_
 refine nt<|go<|Pl 1<|L0<|Oc<|m3 (cO ey) fun gj ez eB gk=>Pl 1<|?_
 have cR:=u1 ev eB im
 refine L0<|bX (aW cR (Ne.symm an) bw) 10 (mG c 0 0 0 0 0 0 0 0 ((ak.mk b false 0).wordV) Q.wordV 0 nS nS nS nS 0 0 0 0 0 nS) fun gl eC cS=>nl<|bn<|tn<|sg<|Pl 1<|?_
 have bA:=us cR cS
 have cT:=ut cQ bA (ac (ni d.size a) (ac (ni (le d.size g.size) f) ay))
 refine L0<|Oc<|m2 (eE (RC.upd ez cS (aa an az) cT)) fun gm bC aR=>nt<|sq<|sg<|Pl 3<|L0<|ei (p:=⟨k,3,none⟩) (v:=.int .i64 (((Q.wordsC 1).endC).e)) (RC.fld bC)<|Pl 1<|nt<|?_
 have cU:=ud cT aR (le d.size a)
 have hs:ai bB 1 c b=b6 (aP.mk c 0 0 0 0 0 0 0 0 ((ak.mk b false 0).wordV) Q.wordV 0 [] [] [] [] 0 0 0 0 0 []) (Q.wordsC 1):=by
   subst ex
   unfold ai bB ew dP
   (try simp only[D,H,T,V,bs,if_true,if_false,decide_true,decide_false,eq_self,true_or,or_true,or_false,false_or,if_true,if_false,dE,dC,dD,dF,reduceIte,kO,kJ])
   all_goals rfl
 refine cb (((((Q.wordsC 1).endC).e)!=0)) (fun bD=>?_) (fun bD=>?_)
 have bE:=ax bD
 refine sq<|Rg 7 (fun w'=>w'.cell? ⟨k,3,none⟩=some (.int .i64 (((Q.wordsC 1).endC).e))) fun gn aS=>?_
 have cV:=RC.upd bC aS az (aC.step (RC.u bC) aS)
 refine bi (RC.fld cV) fun aq=>Rt 0 aq<|Rt 1 aq<|Rt 2 aq<|Rt 3 aq<|Rl 4 aq (fun _ hs=>hs)<|?_
 refine R0 5 rfl<|b7 (ub (ut y (ut bz (u1 bA (aD aR aS) im) (ac im (ac im ay))) (ac (nr a) (ac (ni g.size f) ay))) i) mZ fun gp eD cW=>?_
 have cX:=ud cU (uz aS cW) s
 refine bi (RC.fld (RC.upd cV cW (aa (Ne.symm (nb (am i) lr a)) az) cX)) fun eF=>Rt 6 eF<|re<|tn<|rt<|tr<|bJ eD (.int .i64 (((Q.wordsC 1).endC).e))<|?_
 rw[hs]
 exact bg bE cX
 have bE:=ag bD
 refine bf<|sg<|?_
 refine L0<|bO (aW aR (Ne.symm an) eC)<|?_
 refine L0<|b7 (ub (ut y (ut bz (u1 bA aR im) (ac im (ac im ay))) (ac (nr a) (ac (ni g.size f) ay))) i) (mG c 0 0 0 0 0 0 0 0 ((ak.mk b false 0).wordV) Q.wordV 0 nS nS nS nS 0 0 0 0 0 nS) fun gq eG eH=>Pl 1<|nt<|rt<|bJ eG (.int .i64 0)<|?_
 rw[hs]
 exact bo bE ⟨_,_,_,_,_,rfl,aL.nil ..,aL.nil ..,(fun _ _ _=>aL.nil ..),aL.nil ..,aL.nil ..,(cj (by omega))⟩ (ud cU eH s)
 have eq:=aj V
 refine sg<|Pl 3<|nt<|cb ((c==12)) (fun ar=>?_) (fun ar=>?_)
 have eI:=ah ar
 refine sg<|Pl 1<|?_
 have eJ:RC w _ A cp b a1 k (ak.mk b false 0):=⟨hsl,E,(Nat.le_trans d.size a),⟨0,(ub U q),Nat.zero_le _,rfl⟩,by omega⟩
 refine L0<|Oc<|m3 (ed eJ) fun gr eK eL gs=>L0<|Oi ((ak.mk b false 0).byteV)<|Pl 1<|ng<|Pl 4<|cu 3 [155] 158 (((decide (6≤((ak.mk b false 0).byteV)))&&(decide (((ak.mk b false 0).byteV)≤70)))) (fun K cY=>?_) ?_
 refine bl 155 ((decide (6≤((ak.mk b false 0).byteV)))) (fun av=>?_) (fun av=>?_)
 have eM:=of_decide_eq_true av
 exact Pl 3<|ce cY (decide (((ak.mk b false 0).byteV)≤70)) (by rw[av];rfl)
 have eM:=of_decide_eq_false av
 exact Pl 3<|ce cY false (by rw[av];rfl)
 refine L0<|Oc<|m2 (aY (((decide (6≤((ak.mk b false 0).byteV)))&&(decide (((ak.mk b false 0).byteV)≤70)))) 5 eK) fun gt eN eO=>?_
 refine fY eN fun C eP eQ=>?_
 refine ng<|Pl 1<|L0<|Oc<|m3 (cO eQ) fun gu eR eS gv=>Pl 1<|?_
 have cZ:=u1 eL (u1 eO eS im) im
 have L:=nb (am q) lr f
 refine L0<|bX (aW cZ (Ne.symm L) a2) 9 (mG c 0 0 0 0 0 0 0 0 C.wordV 0 0 nS nS nS nS 0 0 0 0 0 nS) fun gw bF d0=>ng<|Pl 2<|L0<|aO bF 9<|Pl 2<|cu 4 [167] 171 (((C.wordV==0)||(C.wordV==65535))) (fun K d1=>?_) ?_
 refine bl 167 ((C.wordV==0)) (fun aw=>?_) (fun aw=>?_)
 have eT:=ah aw
 exact Pl 4<|ce d1 true (by rw[aw];rfl)
 have eT:=aj aw
 exact Pl 1<|L1<|aO bF 9<|Pl 2<|ce d1 (C.wordV==65535) (by rw[aw];rfl)
 have bG:=us cZ d0
 have d2:=ut E bG (ac (ni d.size a) (ac (ni (le d.size g.size) f) ay))
 refine L0<|Oc<|m2 (aY (((C.wordV==0)||(C.wordV==65535))) 6 (RC.upd eR d0 (aa L az) d2)) fun gx eU eV=>?_
 refine fY eU fun B eW eX=>?_
 refine ng<|Pl 1<|L0<|Oc<|m3 (cO eX) fun gy eY eZ gA=>Pl 1<|?_
 have d3:=u1 eV eZ im
 refine L0<|bX (aW d3 (Ne.symm L) bF) 10 (mG c 0 0 0 0 0 0 0 0 C.wordV B.wordV 0 nS nS nS nS 0 0 0 0 0 nS) fun gB f0 d4=>ng<|Pl 1<|?_
 have bI:=us d3 d4
 have d5:=ut d2 bI (ac (ni d.size a) (ac (ni (le d.size g.size) f) ay))
 refine L0<|Oc<|m3 (cO (RC.upd eY d4 (aa L az) d5)) fun gC f1 d6 gD=>Pl 1<|?_
 refine L0<|bX (aW d6 (Ne.symm L) f0) 11 (mG c 0 0 0 0 0 0 0 0 C.wordV B.wordV ((B.wordsC 1).wordV) nS nS nS nS 0 0 0 0 0 nS) fun gE f2 d7=>nt<|go<|Pl 2<|L0<|Oi (((ak.mk b false 0).byteV)-6)<|?_
 have bK:=us d6 d7
 have d8:=ut d5 bK (ac (ni d.size a) (ac (ni (le d.size g.size) f) ay))
 have d9:=RC.upd f1 d7 (aa L az) d8
 refine L0<|Oc<|pW (fJ (n:=(((ak.mk b false 0).byteV)-6)) (by omega) d9) fun da db gF f3 f4 dc=>?_
 have gG:=Nat.le_trans (ak.bytesR_le ((B.wordsC 1).wordsC 1) (((ak.mk b false 0).byteV)-6)) (RC.clen d9)
 refine fY f4 fun aA f5 f6=>?_
 refine Pl 1<|?_
 refine L0<|bX (aW dc (Ne.symm L) f2) 14 (mG c 0 0 0 0 0 0 0 0 C.wordV B.wordV ((B.wordsC 1).wordV) nS nS (.slice da ((((B.wordsC 1).wordsC 1).bytesR (((ak.mk b false 0).byteV)-6)).length) db) nS 0 0 0 0 0 nS) fun gH f7 dd=>nl<|bn<|tn<|sg<|Pl 1<|?_
 have bL:=us dc dd
 have de:=ut d8 bL (ac (ni d.size a) (ac (ni (le d.size g.size) f) ay))
 refine L0<|Oc<|m2 (eE (RC.upd f6 dd (aa L az) de)) fun gI bM aU=>nt<|sq<|sg<|Pl 3<|L0<|ei (p:=⟨k,3,none⟩) (v:=.int .i64 aA.endC.e) (RC.fld bM)<|Pl 1<|nt<|?_
 have df:=ud de aU (le d.size a)
 have hs:ai bB 1 c b=b6 (aP.mk c 0 0 0 0 0 0 0 0 C.wordV B.wordV ((B.wordsC 1).wordV) [] [] (((B.wordsC 1).wordsC 1).bytesR (((ak.mk b false 0).byteV)-6)) [] 0 0 0 0 0 []) aA:=by
   subst f5 eW eP
   unfold ai bB ew dP
   (try simp only[D,H,T,V,ar,bs,if_true,if_false,decide_true,decide_false,eq_self,true_or,or_true,or_false,false_or,if_true,if_false,dE,dC,dD,dF,reduceIte,kO,kJ])
   all_goals rfl
 refine cb ((aA.endC.e != 0)) (fun bN=>?_) (fun bN=>?_)
 have bP:=ax bN
 refine sq<|Rg 7 (fun w'=>w'.cell? ⟨k,3,none⟩=some (.int .i64 aA.endC.e)) fun gJ aV=>?_
 have dg:=RC.upd bM aV az (aC.step (RC.u bM) aV)
 refine bi (RC.fld dg) fun aE=>Rt 0 aE<|Rt 1 aE<|Rt 2 aE<|Rt 3 aE<|Rl 4 aE (fun _ hs=>hs)<|?_
 refine R0 5 rfl<|b7 (ub (ut y (ut bG (ut bI (ut bK (u1 bL (aD aU aV) im) (ac im (ac im ay))) (ac im (ac im ay))) (ac im (ac im ay))) (ac (nr a) (ac (ni g.size f) ay))) i) mZ fun gK f8 dh=>?_
 have di:=ud df (uz aV dh) s
 refine bi (RC.fld (RC.upd dg dh (aa (Ne.symm (nb (am i) lr a)) az) di)) fun f9=>Rt 6 f9<|re<|tn<|rt<|tr<|bJ f8 (.int .i64 aA.endC.e)<|?_
 rw[hs]
 exact bg bP di
 have bP:=ag bN
 refine bf<|sg<|?_
 refine L0<|bO (aW aU (Ne.symm L) f7)<|?_
 refine L0<|b7 (ub (ut y (ut bG (ut bI (ut bK (u1 bL aU im) (ac im (ac im ay))) (ac im (ac im ay))) (ac im (ac im ay))) (ac (nr a) (ac (ni g.size f) ay))) i) (mG c 0 0 0 0 0 0 0 0 C.wordV B.wordV ((B.wordsC 1).wordV) nS nS (.slice da ((((B.wordsC 1).wordsC 1).bytesR (((ak.mk b false 0).byteV)-6)).length) db) nS 0 0 0 0 0 nS) fun gL fa fb=>Pl 1<|nt<|rt<|bJ fa (.int .i64 0)<|?_
 rw[hs]
 exact bo bP ⟨_,_,_,_,_,rfl,aL.nil ..,aL.nil ..,f3,aL.nil ..,aL.nil ..,(cj (by omega))⟩ (ud df fb s)
 have eI:=aj ar
 refine sg<|Pl 1<|?_
 have fc:RC w _ A cp b a1 k (ak.mk b false 0):=⟨hsl,E,(Nat.le_trans d.size a),⟨0,(ub U q),Nat.zero_le _,rfl⟩,by omega⟩
 refine L0<|Oc<|m3 (ed fc) fun gM fd fe gN=>L0<|Oi ((ak.mk b false 0).byteV)<|Pl 1<|ng<|Pl 4<|cu 3 [52] 55 (((decide (1≤((ak.mk b false 0).byteV)))&&(decide (((ak.mk b false 0).byteV)≤251)))) (fun K dj=>?_) ?_
 refine bl 52 ((decide (1≤((ak.mk b false 0).byteV)))) (fun aF=>?_) (fun aF=>?_)
 have ff:=of_decide_eq_true aF
 exact Pl 3<|ce dj (decide (((ak.mk b false 0).byteV)≤251)) (by rw[aF];rfl)
 have ff:=of_decide_eq_false aF
 exact Pl 3<|ce dj false (by rw[aF];rfl)
 refine L0<|Oc<|m2 (aY (((decide (1≤((ak.mk b false 0).byteV)))&&(decide (((ak.mk b false 0).byteV)≤251)))) 5 fd) fun gO fg fh=>?_
 refine fY fg fun M fi dk=>?_
 refine nt<|go<|Pl 2<|L0<|Oc<|pW (fJ (n:=(ak.mk b false 0).byteV) (by omega) dk) fun dl dm gP fj fk fl=>?_
 have gQ:=Nat.le_trans (ak.bytesR_le M ((ak.mk b false 0).byteV)) (RC.clen dk)
 refine Pl 1<|?_
 have dn:=u1 fe (u1 fh fl im) im
 have bQ:=nb (am q) lr f
 refine L0<|bX (aW dn (Ne.symm bQ) a2) 14 (mG c 0 0 0 0 0 0 0 0 0 0 0 nS nS (.slice dl ((M.bytesR ((ak.mk b false 0).byteV)).length) dm) nS 0 0 0 0 0 nS) fun gR fm dp=>nl<|bn<|tn<|sg<|Pl 1<|?_
 have bR:=us dn dp
 have dq:=ut E bR (ac (ni d.size a) (ac (ni (le d.size g.size) f) ay))
 refine L0<|Oc<|m2 (eE (RC.upd fk dp (aa bQ az) dq)) fun gS bS aX=>nt<|sq<|sg<|Pl 3<|L0<|ei (p:=⟨k,3,none⟩) (v:=.int .i64 (((M.bytesC ((ak.mk b false 0).byteV)).endC).e)) (RC.fld bS)<|Pl 1<|nt<|?_
 have dr:=ud dq aX (le d.size a)
 have hs:ai bB 1 c b=b6 (aP.mk c 0 0 0 0 0 0 0 0 0 0 0 [] [] (M.bytesR ((ak.mk b false 0).byteV)) [] 0 0 0 0 0 []) (M.bytesC ((ak.mk b false 0).byteV)):=by
   subst fi
   unfold ai bB ew dP
   (try simp only[D,H,T,V,ar,bs,if_true,if_false,decide_true,decide_false,eq_self,true_or,or_true,or_false,false_or,if_true,if_false,dE,dC,dD,dF,reduceIte,kO,kJ])
   all_goals rfl
 refine cb (((((M.bytesC ((ak.mk b false 0).byteV)).endC).e)!=0)) (fun bT=>?_) (fun bT=>?_)
 have bU:=ax bT
 refine sq<|Rg 7 (fun w'=>w'.cell? ⟨k,3,none⟩=some (.int .i64 (((M.bytesC ((ak.mk b false 0).byteV)).endC).e))) fun gT aZ=>?_
 have ds:=RC.upd bS aZ az (aC.step (RC.u bS) aZ)
 refine bi (RC.fld ds) fun aG=>Rt 0 aG<|Rt 1 aG<|Rt 2 aG<|Rt 3 aG<|Rl 4 aG (fun _ hs=>hs)<|?_
 refine R0 5 rfl<|b7 (ub (ut y (u1 bR (aD aX aZ) im) (ac (nr a) (ac (ni g.size f) ay))) i) mZ fun gU fn dt=>?_
 have du:=ud dr (uz aZ dt) s
 refine bi (RC.fld (RC.upd ds dt (aa (Ne.symm (nb (am i) lr a)) az) du)) fun fo=>Rt 6 fo<|re<|tn<|rt<|tr<|bJ fn (.int .i64 (((M.bytesC ((ak.mk b false 0).byteV)).endC).e))<|?_
 rw[hs]
 exact bg bU du
 have bU:=ag bT
 refine bf<|sg<|?_
 refine L0<|bO (aW aX (Ne.symm bQ) fm)<|?_
 refine L0<|b7 (ub (ut y (u1 bR aX im) (ac (nr a) (ac (ni g.size f) ay))) i) (mG c 0 0 0 0 0 0 0 0 0 0 0 nS nS (.slice dl ((M.bytesR ((ak.mk b false 0).byteV)).length) dm) nS 0 0 0 0 0 nS) fun gV fp fq=>Pl 1<|nt<|rt<|bJ fp (.int .i64 0)<|?_
 rw[hs]
 exact bo bU ⟨_,_,_,_,_,rfl,aL.nil ..,aL.nil ..,fj,aL.nil ..,aL.nil ..,(cj (by omega))⟩ (ud dr fq s)
theorem mf{m:Md}{A:Option Addr}{cp:Nat}{b:List Int}{w:World}{dir c:Int}(hcode:B8 c)(hsl:b9 m w (.slice A b.length cp) b)(hb:b.length≤1048576)(hd:¬ (dir=0∨dir=1)) :
    Calls Tryz.prog 95 #[.int .i64 dir,.int .u8 c,.slice A b.length cp] w (cy (.slice A b.length cp) b (ai bB dir c b) w):=by
 obtain⟨hcode1,hcode2⟩:=hcode
 have hln:(b.length:Int)≤1048576:=by omega
 have e0:(dir != 0)=true:=by simp;omega
 have e1:(dir != 1)=true:=by simp;omega
 refine en 197 Tryz.func95 rfl<|sg<|L0<|bH mZ fun g h a d e=>Pl 1<|nt<|sq<|sg<|Pl 3<|sy 17 e0<|Pl 3<|nl<|?_
 refine tn<|ct e1<|sg<|Pl 1<|L0<|b7 d mZ fun i dp f=>Pl 1<|nt<|rt<|tr<|bJ dp (.int .i64 1)<|?_
 have hs:ai bB dir c b=(aP.zero,1):=by
   unfold ai bB ew dP
   (try simp only[e0,e1,bs,if_true,if_false,decide_true,decide_false,eq_self,true_or,or_true,or_false,false_or,if_true,if_false,dE,dC,dD,dF,reduceIte,hd,kO,kJ])
   all_goals rfl
 rw[hs]
 exact bv (ud e f a)
open Go.RowKit
theorem el{C:ak}{ok:Bool}{x:Int}(h:C.e≠0) : C.need ok x=C:=by
  unfold ak.need
  rw[if_neg fun k=>h k.1]
theorem fo{C:ak}{n:Int}(h:C.fails n=true) : (C.bytesC n).e≠0:=by
  unfold ak.bytesC
  rw[if_pos h]
  unfold ak.need
  split
  · exact(show(2:Int)≠0 from by decide)
  · rename_i k
    intro e
    exact k ⟨e,rfl⟩
theorem oa{C:ak}(h:(C.wordsR 1).length≠1) : (C.wordsC 1).e≠0:=by
  unfold ak.wordsR at h
  unfold ak.wordsC
  split
  · exact fo (by unfold ak.fails;simp)
  · rename_i hb
    rw[if_neg hb] at h
    by_cases hf:C.fails (2*1)=true
    · exact fo hf
    · exfalso
      apply h
      unfold ak.bytesR
      rw[if_neg hf]
      unfold ak.fails at hf
      simp only[Bool.or_eq_true,decide_eq_true_eq,not_or] at hf
      rcases e:C.l with _|⟨a,_|⟨b,t⟩⟩
      · rw[e] at hf;simp at hf
      · rw[e] at hf;simp at hf
      · show(cI [a,b]).length=1
        unfold cI
        rw[if_pos (by simp)]
        simp[dl]
theorem qs{C:ak}(h:(C.wordsR 1).length=1) : [C.wordV]=C.wordsR 1:=by
  unfold ak.wordV
  rcases e:C.wordsR 1 with _|⟨a,_|⟨b,t⟩⟩
  · rw[e] at h;simp at h
  · rfl
  · rw[e] at h;simp at h
theorem sn{M M':aP}{C:ak}(h:C.e≠0) : b6 M C=b6 M' C:=by
  unfold b6
  have e:C.endC.e≠0:=by unfold ak.endC;rw[el h];exact h
  rw[if_neg e,if_neg e]
theorem sf(dir:Int)(C:ak) : eV dir C=eP dir C:=by
  unfold eV eP
  rw[Bool.or_comm]
theorem sX(dir c:Int)(C:ak) : b6 (ew dir c C).2 (ew dir c C).1=b6 (ea dir c C).2 (ea dir c C).1:=by
  unfold ew ea
  rw[sf]
  by_cases h0:C.wordV=0
  · rw[h0,if_pos (show((0:Int)==0)=true from rfl),if_neg (show ¬ ((0:Int)!=0)=true from by decide)]
  · rw[if_neg (by simpa using h0),if_pos (by simpa using h0)]
    by_cases h1:((eP dir C).wordsR 1).length=1
    · rw[qs h1,show((((eP dir C).wordsR 1).length:Int)==1)=true from by rw[h1];rfl,Bool.true_and]
      rfl
    · have k:=oa h1
      dsimp only
      rw[el k,el k]
      exact sn k
theorem mp{f f':Int→Int→ak→Option (ak × aP)}{dir c:Int}{b:List Int}(h:∀ C,(dir=0∨dir=1)→(f dir c C=none∧f' dir c C=none)∨∃ r r',f dir c C=some r∧f' dir c C=some r'∧b6 r.2 r.1=b6 r'.2 r'.1) : ai f dir c b=ai f' dir c b:=by
  unfold ai
  split
  · rename_i hd
    rcases h ⟨b,false,0⟩ hd with⟨h1,h2⟩|⟨r,r',h1,h2,h3⟩
    · rw[h1,h2]
    · rw[h1,h2];exact h3
  · rfl
theorem nH(dir c:Int)(b:List Int) : ai bB dir c b=ai aV dir c b:=by
  refine mp fun C hd=>?_
  unfold bB aV
  by_cases h8:c=8
  · subst h8
    exact .inr ⟨_,_,rfl,rfl,sX dir 8 C⟩
  · by_cases h:c=7∨c=11∨c=12∨c=17
    · refine .inr ?_
      rw[if_neg (show ¬ (((((c != 7)&&(c != 8))&&(c != 11))&&(c != 12))&&(c != 17))=true from by rcases h with rfl | rfl | rfl | rfl<;>decide),if_neg (show ¬ (c==8)=true from by simpa using h8),if_neg (show ¬ (c==8)=true from by simpa using h8),if_pos (show(c==7 || c==11 || c==12 || c==17)=true from by rcases h with rfl | rfl | rfl | rfl<;>decide)]
      rcases hd with rfl|rfl
      · exact⟨_,_,rfl,rfl,rfl⟩
      · refine⟨_,_,rfl,rfl,?_⟩
        rcases h with rfl|rfl|rfl|rfl<;>rfl
    · refine .inl ?_
      rw[if_pos (show(((((c != 7)&&(c != 8))&&(c != 11))&&(c != 12))&&(c != 17))=true from by simp;omega),if_neg (show ¬ (c==8)=true from by simpa using h8),if_neg (show ¬ (c==7 || c==11 || c==12 || c==17)=true from by simp;omega)]
      exact⟨rfl,rfl⟩
open Go.RowKit
theorem oh{n:Int}:dH n=if n<1 then 0 else n/8+(if 0<n%8 then 1 else 0):=by
  unfold dH
  split
  · rfl
  · split<;>omega
theorem lQ(l:List Bool)(j:Nat) : bW (l.take (8*j)) j=0:=by
  have h:=n9 l (8*j)
  rw[show 8*j/8=j from by omega,show 8*j%8=0 from by omega] at h
  omega
theorem kf{l:List Bool}{j t:Nat}(ht:t<8) : bW (l.take (8*j+t+1)) j=bW (l.take (8*j+t)) j+if l.getD (8*j+t) false=true then 2 ^ t else 0:=by
  rw[ir,show(8*j+t)/8=j from by omega,show(8*j+t)%8=t from by omega]
  simp
theorem tA{l:List Bool}{j t:Nat}(h:t=8∨l.length≤8*j+t) : bW (l.take (8*j+t)) j=bW l j:=by
  rcases h with rfl|h
  · unfold bW
    simp only[iK]
    simp
  · rw[List.take_of_length_le h]
theorem uo{l:List Bool}{j:Nat}(h1:l.length≤8*j)(h2:8*j<l.length+8) : (List.range j).map (fun i=>(bW l i:Int))=bL l:=by
  unfold bL
  rw[show(dH l.length).toNat=j from by unfold dH;split<;>omega]
theorem sc(l:List Bool) : ((bL l).length:Int)=dH l.length:=by
  unfold bL
  rw[List.length_map,List.length_range]
  unfold dH
  split<;>omega
theorem AH:∀ x0 x1 x2 x3 x4 x5 x6 x7:Bool,∀ t:Fin 8,(((((if x0=true then 1 else 0)+(if x1=true then 2 else 0)+(if x2=true then 4 else 0)+(if x3=true then 8 else 0)+(if x4=true then 16 else 0)+(if x5=true then 32 else 0)+(if x6=true then 64 else 0)+(if x7=true then 128 else 0) : Nat) : Int)/2 ^ t.val%2==1)=[x0,x1,x2,x3,x4,x5,x6,x7].getD t.val false):=by decide +kernel
theorem yJ{l:List Bool}{j t:Nat}(ht:t<8) : ((bW l j:Int)/2 ^ t%2==1)=l.getD (8*j+t) false:=by
  have h:=AH (l.getD (8*j) false) (l.getD (8*j+1) false) (l.getD (8*j+2) false) (l.getD (8*j+3) false) (l.getD (8*j+4) false) (l.getD (8*j+5) false) (l.getD (8*j+6) false) (l.getD (8*j+7) false) ⟨t,ht⟩
  refine h.trans ?_
  rcases t with _|_|_|_|_|_|_|_|t
  case succ.succ.succ.succ.succ.succ.succ.succ=>omega
  all_goals rfl
theorem oM(l:List Bool) : cl (bL l) (l.length:Int)=some ((List.range l.length).map (co (bL l))):=by
  have hl:=sc l
  unfold cl
  rw[if_pos ⟨by omega,hl⟩,if_pos,show((l.length:Int)).toNat=l.length from by omega]
  rw[List.all_eq_true]
  intro i hi
  have hi:i<8*(bL l).length:=by simpa using hi
  simp only[Bool.or_eq_true,decide_eq_true_eq,Bool.not_eq_true']
  by_cases h:(i:Int)<l.length
  · exact .inl h
  · refine .inr ?_
    have hj:i/8<(bL l).length:=by omega
    unfold co
    have e:(bL l).getD (i/8) 0=(bW l (i/8) : Int):=by
      have hj2:i/8<(dH (l.length:Int)).toNat:=by omega
      unfold bL
      rw[List.getD_eq_getElem?_getD,List.getElem?_map,List.getElem?_range hj2]
      rfl
    rw[e,yJ (Nat.mod_lt _ (by decide)),show 8*(i/8)+i%8=i from by omega,List.getD_eq_getElem?_getD,List.getElem?_eq_none (by omega)]
    rfl
theorem pg{b:List Int}{n:Int}(hr:∀ x,x∈b→0≤x∧x<256)(h0:0≤n) : cl b n=if bL ((List.range n.toNat).map (co b))=b then some ((List.range n.toNat).map (co b)) else none:=by
  by_cases h:bL ((List.range n.toNat).map (co b))=b
  · rw[if_pos h]
    have k:=oM ((List.range n.toNat).map (co b))
    rw[h,List.length_map,List.length_range,show((n.toNat:Nat) : Int)=n from by omega] at k
    exact k
  · rw[if_neg h]
    cases e:cl b n with
    | none=>rfl
    | some l =>
      exfalso
      have k:=kx hr e
      unfold cl at e
      split at e
      · split at e
        · injection e with e;rw[e] at h;exact h k
        · cases e
      · cases e
open Go.RowKit
theorem Aa{n:Int}{w:World}(hn : -1048576≤n∧n≤1048576) : Calls Tryz.prog 155 #[.int .i64 n] w (cG (.int .i64 (dH n)) w):=by
 refine en 14 Tryz.func155 rfl<|sg<|Pl 1<|nt<|sq<|sg<|Pl 2<|nt<|cb ((decide (n<1))) (fun a=>?_) (fun a=>?_)
 have c:=of_decide_eq_true a
 refine sg<|Pl 1<|nt<|rt<|tr<|rr (.int .i64 0)<|?_
 have hs:dH n=0:=by rw[oh];split<;>(try split)<;>omega
 rw[hs]
 exact⟨rfl,(aC.refl [] _)⟩
 have c:=of_decide_eq_false a
 refine bf<|sg<|Pl 1<|L0<|Oe (.int .i64 (IntKind.i64.wrap (Int.tdiv n 8))) (.int .i64 (n/8)) (congrArg (Value.int .i64) (gi (by omega) (by omega)))<|Pl 1<|nt<|sq<|sg<|Pl 1<|L0<|Oe (.int .i64 (Int.tmod n 8)) (.int .i64 (n%8)) (congrArg (Value.int .i64) (Int.tmod_eq_emod_of_nonneg (by omega)))<|?_
 refine Pl 1<|nt<|cb ((decide (0<(n%8)))) (fun b=>?_) (fun b=>?_)
 have d:=of_decide_eq_true b
 refine go<|Pl 1<|L0<|Oi ((n/8)+1)<|Pl 1<|ng<|Pl 2<|nt<|rt<|rr (.int .i64 ((n/8)+1))<|?_
 have hs:dH n=((n/8)+1):=by rw[oh];split<;>(try split)<;>omega
 rw[hs]
 exact⟨rfl,(aC.refl [] _)⟩
 have d:=of_decide_eq_false b
 refine bf<|sg<|Pl 2<|nt<|rt<|rr (.int .i64 (n/8))<|?_
 have hs:dH n=(n/8):=by rw[oh];split<;>(try split)<;>omega
 rw[hs]
 exact⟨rfl,(aC.refl [] _)⟩
theorem rX(l:List Bool)(j t:Nat)(ht:t≤8) : bW (l.take (8*j+t)) j<2 ^ t:=by
  induction t with
  | zero=>rw[Nat.add_zero,lQ];decide
  | succ t ih =>
    have h:=ih (by omega)
    rw[← Nat.add_assoc,kf (by omega),Nat.pow_succ]
    split<;>omega
theorem uT{t:Nat}(ht:t≤8) : 2 ^ t≤256:=by
  rcases t with _|_|_|_|_|_|_|_|_|t
  case succ.succ.succ.succ.succ.succ.succ.succ.succ=>omega
  all_goals decide
theorem so{l:List Bool}{j:Nat}(h1:¬ 8*j<l.length)(h2:8*j<l.length+8) : (List.range j).map (fun i=>(bW l i:Int))=bL l:=uo (by omega) h2
theorem vF{l:List Bool}{j t:Nat}{c:Int}(hc:c=(bW (l.take (8*j+t)) j:Int))(ht:t≤8)(h:t=8∨l.length≤8*j+t) : c%256=(bW l j:Int):=by
  have h1:=rX l j t ht
  have h2:=uT ht
  rw[tA h] at hc h1
  omega
theorem yQ{m:Md}{A:Option Addr}{cp:Nat}{l:List Bool}{w:World}(h:ii m w (.slice A l.length cp) l)(hn:l.length≤1048576) : Calls Tryz.prog 216 #[.slice A l.length cp] w (uj l w):=by
 refine en 42 Tryz.func216 rfl<|sg<|Pl 1<|ng<|Pl 1<|nt<|sq<|sg<|?_
 refine Pl 1<|nt<|bk<|?_
 refine iN (fun x=>[(0,.slice A l.length cp),(2,.slice none 0 0),(3,.slice x.2.2.1 x.2.1.length x.2.2.2),(4,.int .i64 ((8*x.1:Nat) : Int))]) (fun(x:Nat × List Int × Option Addr × Nat) w'=>aC [] w w'∧eB w.heap.size w' (.slice x.2.2.1 x.2.1.length x.2.2.2) x.2.1∧(8*x.1<l.length+8)∧(x.2.1=(List.range x.1).map (fun i=>(bW l i:Int)))) (fun x=>l.length+8-8*x.1) (0,[],none,0) ⟨aC.refl _ _,(aS.nil w.heap.size _ _ s9 _),(by(try dsimp only);omega),rfl⟩ ?_
 rintro⟨j,L,B,cq⟩ r ⟨f,z,C,D⟩
 refine iy [(0,.slice A l.length cp),(2,.slice none 0 0),(3,.slice B L.length cq),(4,.int .i64 ((8*j:Nat) : Int))] ?_
 have g:eB w.heap.size r (.slice B L.length cq) L:=z
 have Z:8*j<l.length+8:=C
 have k:L=(List.range j).map (fun i=>(bW l i:Int)):=D
 have hLn:L.length=j:=by rw[k,List.length_map,List.length_range]
 refine sq<|sg<|Pl 4<|nt<|cb ((decide (((8*j:Nat) : Int)<((l.length:Nat) : Int)))) (fun n=>?_) (fun n=>?_)
 have E:=of_decide_eq_true n
 refine bf<|sq<|bk<|sg<|Pl 1<|ng<|Pl 1<|nt<|?_
 refine sq<|sg<|Pl 2<|nt<|bk<|?_
 refine iN (fun x=>[(0,.slice A l.length cp),(2,.slice none 0 0),(3,.slice B L.length cq),(4,.int .i64 ((8*j:Nat) : Int)),(5,.int .i64 x.2.1),(6,.int .i64 x.2.2),(7,.int .i64 ((8*j+x.1:Nat) : Int)),(8,.int .i64 ((8*j:Nat) : Int)),(9,.slice A l.length cp),(10,.int .i64 ((l.length:Nat) : Int)),(11,.bool (decide (((8*j:Nat) : Int)<((l.length:Nat) : Int)))),(14,.int .i64 ((8*j:Nat) : Int))]) (fun(x:Nat × Int × Int) w'=>aC [] r w'∧(x.1≤8)∧(x.2.1=(bW (l.take (8*j+x.1)) j:Int))∧(x.2.2=((2 ^ x.1:Nat) : Int))) (fun x=>8-x.1) (0,0,1) ⟨aC.refl _ _,(by(try dsimp only);omega),(by(try dsimp only);rw[Nat.add_zero,lQ];rfl),rfl⟩ ?_
 rintro⟨t,c,u⟩ a0 ⟨a,F,G,H⟩
 refine iy [(0,.slice A l.length cp),(2,.slice none 0 0),(3,.slice B L.length cq),(4,.int .i64 ((8*j:Nat) : Int)),(5,.int .i64 c),(6,.int .i64 u),(7,.int .i64 ((8*j+t:Nat) : Int)),(8,.int .i64 ((8*j:Nat) : Int)),(9,.slice A l.length cp),(10,.int .i64 ((l.length:Nat) : Int)),(11,.bool (decide (((8*j:Nat) : Int)<((l.length:Nat) : Int)))),(14,.int .i64 ((8*j:Nat) : Int))] ?_
 have a1:t≤8:=F
 have I:c=(bW (l.take (8*j+t)) j:Int):=G
 have a2:u=((2 ^ t:Nat) : Int):=H
 have hpl:=rX l j t (by omega)
 have hpp:=uT (t:=t) (by omega)
 refine sq<|sg<|Pl 5<|cu 5 [19] 24 (((decide (((8*j+t:Nat) : Int)<((l.length:Nat) : Int)))&&(decide (((8*j+t:Nat) : Int)<(((8*j:Nat) : Int)+8))))) (fun K s=>?_) ?_
 refine bl 19 ((decide (((8*j+t:Nat) : Int)<((l.length:Nat) : Int)))) (fun b=>?_) (fun b=>?_)
 have J:=of_decide_eq_true b
 exact Pl 2<|L1<|Oi (((8*j:Nat) : Int)+8)<|Pl 2<|ce s (decide (((8*j+t:Nat) : Int)<(((8*j:Nat) : Int)+8))) (by rw[b];rfl)
 have J:=of_decide_eq_false b
 exact Pl 5<|ce s false (by rw[b];rfl)
 refine nt<|?_
 have y:=aD f a
 refine cb (((decide (((8*j+t:Nat) : Int)<((l.length:Nat) : Int)))&&(decide (((8*j+t:Nat) : Int)<(((8*j:Nat) : Int)+8))))) (fun d=>?_) (fun d=>?_)
 have M:=(aT d).1
 have N:=(aT d).2
 have a3:=of_decide_eq_true M
 have a4:=of_decide_eq_true N
 refine bf<|sq<|bk<|sq<|sg<|Pl 2<|?_
 refine AC (ii.at_ (ii.old h y) (8*j+t) (by omega)) fun O P Q R=>L0<|m8 l.length (8*j+t) Q (by omega)<|L0<|ei (p:=⟨O,P+(8*j+t),none⟩) (v:=.bool (l.getD (8*j+t) false)) R<|nt<|cb ((l.getD (8*j+t) false)) (fun o=>?_) (fun o=>?_)
 refine go<|Pl 2<|L0<|Oi (c+u)<|Pl 1<|nt<|go<|Pl 1<|L0<|Oi (2*u)<|Pl 1<|nl<|bn<|tn<|go<|?_
 exact Pl 1<|L0<|Oi (((8*j+t:Nat) : Int)+1)<|Pl 1<|nl<|gB ((t+1),(c+u),(2*u)) ⟨a,(by(try dsimp only);omega),(by(try dsimp only);rw[← Nat.add_assoc,kf (by omega),if_pos o];omega),(by(try dsimp only);rw[Nat.pow_succ];omega)⟩ (by omega)
 refine bf<|go<|Pl 1<|L0<|Oi (2*u)<|Pl 1<|nl<|bn<|tn<|go<|Pl 1<|L0<|Oi (((8*j+t:Nat) : Int)+1)<|Pl 1<|nl<|?_
 exact gB ((t+1),c,(2*u)) ⟨a,(by(try dsimp only);omega),(by(try dsimp only);rw[← Nat.add_assoc,kf (by omega),if_neg (by rw[o];decide)];omega),(by(try dsimp only);rw[Nat.pow_succ];omega)⟩ (by omega)
 refine xt<|tx<|tx<|bx<|tn<|go<|Pl 3<|L0<|cL (m:=1) (e:=5) #[.int .u8 (c%256)] fun a5 a6 S T q=>?_
 have U:=cC S (xs:=[(c%256)]) (by as_aux_lemma=>kernel_rfl) (au (by omega) aK) (by(try simp only[List.length_cons,List.length_nil]);omega) T
 refine L0<|bR aZ (xs:=L) (ys:=([(c%256)])) (.int .u8 0) 1 (ap g (aD a q) (fun x hx=>az) (fun _ _ h=>h)) (U).rd (by(try simp only[List.length_append,List.length_cons,List.length_nil,aA]);omega) (le (le f.size a.size) q.size) fun V W a7 X Y=>Pl 1<|nl<|bn<|tn<|go<|Pl 1<|L0<|Oi (((8*j:Nat) : Int)+8)<|Pl 1<|nl<|?_
 exact gB ((j+1),(L++[(c%256)]),V,W) ⟨(ut y (ut (aC.mono (S':=(ob B++[])) q ay) Y (av il ay)) (av (aN g lr) ay)),X,(by(try dsimp only);omega),(by(try dsimp only);rw[k,List.range_succ,List.map_append];show _++[_]=_++[_];rw[vF I (by omega) (by have hq:=d;simp only[Bool.and_eq_false_iff,decide_eq_false_iff_not] at hq;omega)])⟩ (by omega)
 have E:=of_decide_eq_false n
 refine xt<|tx<|tx<|bx<|tn<|sg<|Pl 2<|nt<|rt<|rr (.slice B L.length cq)<|?_
 have hs:L=bL l:=by rw[k];exact so (by omega) (by omega)
 exact⟨_,rfl,by rw[← hs];exact g,f⟩
theorem xW{m:Md}{v:Value}{l:List Bool}{w:World}(h:ii m w v l)(hn:l.length≤1048576) : Calls Tryz.prog 216 #[v] w (uj l w):=by
  obtain⟨A,c,rfl,_,_⟩:=h.shape
  exact yQ h hn
theorem uG{P:Program}{w:World}{ev:Operand→Value}{o:Oper}{x y:Operand}{t t':TypeId}{a b:ByteArray}{v:Bool}(ho:o.op = .binOp .neq t x y t')(hx:ev x = .string a)(hy:ev y = .string b)(hv:(a.toList==b.toList)=v) : (execOp ev o).run P w = .ok (.value (.bool !v)) w:=by
  have hg:eqGuard .neq t x y (.string a) (.string b)=pure ():=rfl
  unfold execOp
  simp only[ho,hx,hy,hg,binOp_string_neq,Sem.run_bind,Sem.run_pure,Result.andThen,hv]
theorem Aq{w0 w:World}{g:Nat}{cs:Array Value}{xs:List Bool}(hg:w0.heap.size≤g)(hcs:cs=(xs.map Value.bool).toArray)(hl:xs.length≤4194304)(hb:w.heap[g]? = some (.cells cs 4 (0,0))) :
    wJ w0.heap.size w (.slice (some ⟨g,0,none⟩) xs.length xs.length) xs:=yW (enc:=Value.bool) hg hcs (fun x h=>rfl) hl hb
theorem sr{x c:Int}{k:Nat}(h:c=x/2 ^ k) : c/2=x/2 ^ (k+1):=by
  rw[h,Int.ediv_ediv_of_nonneg (Int.le_of_lt (Int.pow_pos (by decide))),Int.pow_succ]
theorem ve{x c:Int}(hx:0≤x∧x<256){k:Nat}(h:c=x/2 ^ k) : 0≤c∧c<256:=by
  have h1:(1:Int)≤2 ^ k:=Int.pow_pos (by decide)
  subst h
  exact⟨Int.ediv_nonneg hx.1 (by omega),Int.lt_of_le_of_lt (Int.ediv_le_self _ hx.1) hx.2⟩
theorem tI{l:List Int}{i:Nat}(h:i<l.length) : l.getD i 0∈l:=by
  rw[List.getD_eq_getElem?_getD,List.getElem?_eq_getElem h]
  exact List.getElem_mem h
theorem tS{m:Md}{A:Option Addr}{cp:Nat}{b:List Int}{n:Int}{w:World}(h:b9 m w (.slice A b.length cp) b)(hl:b.length≤1048576)(hn : -1048576≤n∧n≤1048576) : Calls Tryz.prog 156 #[.slice A b.length cp,.int .i64 n] w (gl b n w):=by
 have hb:=b9.range h
 refine en 51 Tryz.func156 rfl<|sg<|Pl 2<|nt<|sq<|sg<|Pl 3<|cu 6 [12] 18 (((decide (n<0))||(decide ((8*((b.length:Nat) : Int))<n)))) (fun K H=>?_) ?_
 refine bl 12 ((decide (n<0))) (fun d=>?_) (fun d=>?_)
 have R:=of_decide_eq_true d
 exact Pl 6<|ce H true (by rw[d];rfl)
 have R:=of_decide_eq_false d
 exact Pl 3<|L1<|Oi (8*((b.length:Nat) : Int))<|Pl 2<|ce H (decide ((8*((b.length:Nat) : Int))<n)) (by rw[d];rfl)
 refine nt<|cb (((decide (n<0))||(decide ((8*((b.length:Nat) : Int))<n)))) (fun g=>?_) (fun g=>?_)
 refine sg<|Pl 2<|nt<|rt<|tr<|rr (.tuple #[.slice none 0 0,.bool false])<|?_
 have hq:=g
 have hs:cl b n=none:=by unfold cl;rw[if_neg];rintro⟨h1,h2⟩;simp only[Bool.or_eq_true,decide_eq_true_eq] at hq;rw[oh] at h2;split at h2<;>(try split at h2)<;>omega
 exact fm hs (aC.refl [] _)
 have S:=(aE g).1
 have T:=(aE g).2
 have ae:=of_decide_eq_false S
 have af:=of_decide_eq_false T
 refine bf<|sg<|Pl 1<|nt<|sq<|sg<|Pl 1<|nt<|bk<|?_
 refine iN (fun x=>[(0,.slice A b.length cp),(1,.int .i64 n),(4,.slice none 0 0),(5,.bool false),(6,.slice x.2.2.1 x.2.1.length x.2.2.2),(7,.int .i64 ((x.1:Nat) : Int))]) (fun(x:Nat × List Bool × Option Addr × Nat) w'=>aC [] w w'∧wJ w.heap.size w' (.slice x.2.2.1 x.2.1.length x.2.2.2) x.2.1∧(((x.1:Nat) : Int)≤n)∧(x.2.1=(List.range x.1).map (co b))) (fun x=>n.toNat-x.1) (0,[],none,0) ⟨aC.refl _ _,(aS.nil w.heap.size _ _ mT _),(by(try dsimp only);omega),rfl⟩ ?_
 rintro⟨i,L,B,cq⟩ I ⟨j,U,V,W⟩
 refine iy [(0,.slice A b.length cp),(1,.int .i64 n),(4,.slice none 0 0),(5,.bool false),(6,.slice B L.length cq),(7,.int .i64 ((i:Nat) : Int))] ?_
 have r:wJ w.heap.size I (.slice B L.length cq) L:=U
 have ag:((i:Nat) : Int)≤n:=V
 have o:L=(List.range i).map (co b):=W
 have hLn:L.length=i:=by rw[o,List.length_map,List.length_range]
 have hi8:(((i:Nat) : Int)/8).toNat=i/8:=by omega
 refine sq<|sg<|Pl 3<|nt<|cb ((decide (((i:Nat) : Int)<n))) (fun s=>?_) (fun s=>?_)
 have X:=of_decide_eq_true s
 refine bf<|sq<|bk<|sg<|Pl 2<|L0<|Oe (.int .i64 (IntKind.i64.wrap (Int.tdiv ((i:Nat) : Int) 8))) (.int .i64 (((i:Nat) : Int)/8)) (congrArg (Value.int .i64) (gi (by omega) (by omega)))<|?_
 refine gh (b9.at_ (b9.old h j) (((((i:Nat) : Int)/8)).toNat) (by omega)) fun t u Y Z ah=>L0<|wi b.length (((((i:Nat) : Int)/8)).toNat) (((i:Nat) : Int)/8) (by omega) Y (by omega)<|L0<|ei (p:=⟨t,u+(((((i:Nat) : Int)/8)).toNat),none⟩) (v:=.int .u8 (b.getD (((((i:Nat) : Int)/8)).toNat) 0)) Z<|L0<|Oi (b.getD (((((i:Nat) : Int)/8)).toNat) 0)<|Pl 1<|nt<|sq<|sg<|Pl 1<|nt<|bk<|?_
 refine iN (fun x=>[(0,.slice A b.length cp),(1,.int .i64 n),(4,.slice none 0 0),(5,.bool false),(6,.slice B L.length cq),(7,.int .i64 ((i:Nat) : Int)),(8,.int .i64 x.2),(9,.int .i64 ((x.1:Nat) : Int)),(19,.int .i64 ((i:Nat) : Int)),(20,.int .i64 n),(21,.bool (decide (((i:Nat) : Int)<n))),(24,.slice A b.length cp),(25,.int .i64 ((i:Nat) : Int)),(26,.int .i64 (((i:Nat) : Int)/8)),(27,.pointer (some (⟨t,u+(((((i:Nat) : Int)/8)).toNat),none⟩))),(28,.int .u8 (b.getD (((((i:Nat) : Int)/8)).toNat) 0)),(29,.int .i64 (b.getD (((((i:Nat) : Int)/8)).toNat) 0))]) (fun(x:Nat × Int) w'=>aC [] I w'∧(x.1≤i%8)∧(x.2=b.getD (i/8) 0/2 ^ x.1)) (fun x=>8-x.1) (0,(b.getD (((((i:Nat) : Int)/8)).toNat) 0)) ⟨aC.refl _ _,(by(try dsimp only);omega),(by(try dsimp only);rw[hi8,Int.pow_zero,Int.ediv_one])⟩ ?_
 rintro⟨k,c⟩ ai ⟨q,a0,a1⟩
 refine iy [(0,.slice A b.length cp),(1,.int .i64 n),(4,.slice none 0 0),(5,.bool false),(6,.slice B L.length cq),(7,.int .i64 ((i:Nat) : Int)),(8,.int .i64 c),(9,.int .i64 ((k:Nat) : Int)),(19,.int .i64 ((i:Nat) : Int)),(20,.int .i64 n),(21,.bool (decide (((i:Nat) : Int)<n))),(24,.slice A b.length cp),(25,.int .i64 ((i:Nat) : Int)),(26,.int .i64 (((i:Nat) : Int)/8)),(27,.pointer (some (⟨t,u+(((((i:Nat) : Int)/8)).toNat),none⟩))),(28,.int .u8 (b.getD (((((i:Nat) : Int)/8)).toNat) 0)),(29,.int .i64 (b.getD (((((i:Nat) : Int)/8)).toNat) 0))] ?_
 have aj:k≤i%8:=a0
 have y:c=b.getD (i/8) 0/2 ^ k:=a1
 have hcr:=ve (hb _ (tI (l:=b) (i:=i/8) (by omega))) y
 refine sq<|sg<|Pl 2<|L0<|Oe (.int .i64 (Int.tmod ((i:Nat) : Int) 8)) (.int .i64 (((i:Nat) : Int)%8)) (congrArg (Value.int .i64) (Int.tmod_eq_emod_of_nonneg (by omega)))<|Pl 1<|nt<|?_
 refine cb ((decide (((k:Nat) : Int)<(((i:Nat) : Int)%8)))) (fun z=>?_) (fun z=>?_)
 have a2:=of_decide_eq_true z
 refine bf<|sq<|bk<|go<|Pl 1<|L0<|Oe (.int .i64 (IntKind.i64.wrap (Int.tdiv c 2))) (.int .i64 (c/2)) (congrArg (Value.int .i64) (gi (by omega) (by omega)))<|Pl 1<|nl<|bn<|tn<|go<|Pl 1<|L0<|Oi (((k:Nat) : Int)+1)<|?_
 exact Pl 1<|nl<|gB ((k+1),(c/2)) ⟨q,(by(try dsimp only);omega),sr y⟩ (by omega)
 have a2:=of_decide_eq_false z
 refine xt<|tx<|tx<|bx<|tn<|go<|Pl 2<|L0<|Oe (.int .i64 (Int.tmod c 2)) (.int .i64 (c%2)) (congrArg (Value.int .i64) (Int.tmod_eq_emod_of_nonneg (by omega)))<|Pl 1<|L0<|cL (m:=1) (e:=4) #[.bool ((c%2)==1)] fun ak al a3 a4 C=>?_
 have a5:=Aq a3 (xs:=[((c%2)==1)]) (by as_aux_lemma=>kernel_rfl)  (by(try simp only[List.length_cons,List.length_nil]);omega) a4
 refine L0<|bR uf (xs:=L) (ys:=([((c%2)==1)])) (.bool false) 1 (ap r (aD q C) (fun x hx=>az) (fun _ _ h=>h)) (a5).rd (by(try simp only[List.length_append,List.length_cons,List.length_nil,aA]);omega) (le (le j.size q.size) C.size) fun a6 a7 am a8 a9=>Pl 1<|nl<|bn<|tn<|go<|Pl 1<|L0<|Oi (((i:Nat) : Int)+1)<|Pl 1<|nl<|?_
 exact gB ((i+1),(L++[((c%2)==1)]),a6,a7) ⟨(ut (aD j q) (ut (aC.mono (S':=(ob B++[])) C ay) a9 (av il ay)) (av (aN r lr) ay)),a8,(by(try dsimp only);omega),(by(try dsimp only);rw[o,List.range_succ,List.map_append];show _++[_]=_++[co b i];unfold co;rw[y,show k=i%8 from by omega])⟩ (by omega)
 have X:=of_decide_eq_false s
 refine xt<|tx<|tx<|bx<|tn<|sq<|sq<|Rg 6 (fun w'=>b9 false w' (.slice A b.length cp) b) fun an J=>?_
 have M:=aD j J
 have D:=b9.old h M
 refine bi (aL.any D (fun _ _ h=>h)) fun E=>Rt 0 E<|Rt 3 E<|Rr 4 E (.string (strOfNums b)) (fun _ hs=>dW (A:=A) (n:=b.length) (c:=cp) rfl (by kernel_rfl) Tryz.underlying22 Tryz.underlying5 Tryz.underlying9 hs)<|?_
 have N:=ap r J (fun x hx=>az) (fun _ _ h=>h)
 refine R0 1 rfl<|Oc<|dG (xW (N).rd (by omega)) fun aa ab ao O aq ar F=>?_
 have P:=b9.old D F
 refine bi (aL.any P (fun _ _ h=>h)) fun au=>R0 2 rfl<|iP (.string (strOfNums (bL L))) (dW (A:=aa) (n:=(bL L).length) (c:=ab) rfl (by kernel_rfl) Tryz.underlying22 Tryz.underlying5 Tryz.underlying9 (O).rd)<|bi (aL.any P (fun _ _ h=>h)) fun ac=>Rr 5 ac (.bool (!(decide ((bL L)=b)))) (fun _ _=>uG (a:=(strOfNums (bL L))) (b:=(strOfNums b)) rfl (by kernel_rfl) (by kernel_rfl) (qX (O).rd D))<|re<|tn<|?_
 have Q:=aD M F
 refine cb ((!(decide ((bL L)=b)))) (fun f=>?_) (fun f=>?_)
 have G:(decide ((bL L)=b))=false:=by simpa using f
 have ad:=of_decide_eq_false G
 refine sg<|Pl 2<|nt<|rt<|tr<|rr (.tuple #[.slice none 0 0,.bool false])<|?_
 have hL:L=(List.range n.toNat).map (co b):=by rw[o,show i=n.toNat from by omega]
 have hu:=pg (n:=n) hb (by omega)
 rw[if_neg (by rw[← hL];simpa using f)] at hu
 exact fm hu Q
 have G:(decide ((bL L)=b))=true:=by simpa using f
 have ad:=of_decide_eq_true G
 refine bf<|sg<|Pl 3<|nt<|rt<|rr (.tuple #[.slice B L.length cq,.bool true])<|?_
 have hL:L=(List.range n.toNat).map (co b):=by rw[o,show i=n.toNat from by omega]
 have hu:=pg (n:=n) hb (by omega)
 rw[if_pos (by rw[← hL];simpa using f),← hL] at hu
 exact⟨_,by rw[hu];rfl,by rw[hu];exact(ap N F (fun x hx=>az) (fun _ _ h=>h)),Q⟩
theorem wc{m:Md}{v:Value}{b:List Int}{n:Int}{w:World}(h:b9 m w v b)(hl:b.length≤1048576)(hn : -1048576≤n∧n≤1048576) : Calls Tryz.prog 156 #[v,.int .i64 n] w (gl b n w):=by
  obtain⟨A,c,rfl,_,_⟩:=h.shape
  exact tS h hl hn
open Go.RowKit
def wb (w0:World)(m:Md)(A:Option Addr)(cp:Nat)(full:List Int)(g gm:Nat)(C':ak)(cs:Array Value)(w:World)(e:Ending)(w':World) : Prop:=e = .returned (.tuple #[])∧RC w0 m A cp full w' g C'∧w'.heap[gm]? = some (.cells cs 30 (0,0))∧aC [g,gm] w w'
theorem oc{w0:World}{m:Md}{A:Option Addr}{cp:Nat}{full:List Int}{w:World}{g gm:Nat}{c:Int}{C:ak}{most:Int}(hcode:B8 c)(hC:RC w0 m A cp full w g C)(hm:w.heap[gm]? = some (.cells (mC c) 30 (0,0)))(hgm:w0.heap.size≤gm)(hne:g≠gm) :
    Calls Tryz.prog 150 #[.pointer (some ⟨g,0,none⟩),.pointer (some ⟨gm,0,none⟩),.int .i64 most] w (wb w0 m A cp full g gm (bA C most) (mG c 0 C.wordV (C.wordsC 1).wordV 0 0 0 0 0 0 0 0 nS nS nS nS 0 0 0 0 0 nS) w):=by
 obtain⟨hcode1,hcode2⟩:=hcode
 have hrng:=bN (RC.rng hC)
 refine en 39 Tryz.func150 rfl<|sg<|Pl 2<|L0<|Oc<|m3 (cO hC) fun G t e H=>Pl 2<|?_
 refine L0<|bX (aW e (Ne.symm hne) hm) 2 (mG c 0 C.wordV 0 0 0 0 0 0 0 0 0 nS nS nS nS 0 0 0 0 0 nS) fun I dp f=>ng<|Pl 2<|?_
 have h:=us e f
 refine L0<|Oc<|m3 (cO (RC.upd t f (aa hne az) (hC.u.trans' h (fun x hx=>.inr (by simp at hx;rcases hx with rfl | rfl;exact hC.new;exact hgm))))) fun J v i L=>Pl 2<|?_
 refine L0<|bX (aW i (Ne.symm hne) dp) 3 (mG c 0 C.wordV ((C.wordsC 1).wordV) 0 0 0 0 0 0 0 0 nS nS nS nS 0 0 0 0 0 nS) fun M j k=>ng<|Pl 3<|L0<|aO j 3<|L0<|Oi ((C.wordsC 1).wordV)<|Pl 1<|ng<|Pl 4<|cu 4 [25] 29 (((decide (0<((C.wordsC 1).wordV)))&&(decide (((C.wordsC 1).wordV)≤most)))) (fun K l=>?_) ?_
 refine bl 25 ((decide (0<((C.wordsC 1).wordV)))) (fun b=>?_) (fun b=>?_)
 have y:=of_decide_eq_true b
 exact Pl 4<|ce l (decide (((C.wordsC 1).wordV)≤most)) (by rw[b];rfl)
 have y:=of_decide_eq_false b
 exact Pl 4<|ce l false (by rw[b];rfl)
 have o:=ut h (us i k) (ac im (ac im ay))
 refine L0<|Oc<|m2 (aY (((decide (0<((C.wordsC 1).wordV)))&&(decide (((C.wordsC 1).wordV)≤most)))) 5 (RC.upd v k (aa hne az) (hC.u.trans' o (fun x hx=>.inr (by simp at hx;rcases hx with rfl | rfl;exact hC.new;exact hgm))))) fun z B p=>?_
 refine fY B fun x36 D q=>?_
 refine nt<|go<|Pl 4<|?_
 have r:=aW p (Ne.symm hne) j
 refine L0<|aO r 2<|Pl 1<|L0<|Oc<|m1 (rE (a:=C.wordV) (n:=(C.wordsC 1).wordV) (w:=z) (by omega) (by omega)) fun N d=>?_
 refine L0<|Oc<|m2 (aY ((dx C.wordV ((C.wordsC 1).wordV))) 7 (RC.upd q d az (aC.step (RC.u q) d))) fun O E F=>nl<|rm (.tuple #[])<|?_
 subst D
 have hs:bA C most=((((C.wordsC 1).wordsC 1).need ((decide (0<((C.wordsC 1).wordV)))&&(decide (((C.wordsC 1).wordV)≤most))) 5).need (dx C.wordV ((C.wordsC 1).wordV)) 7):=by
   unfold bA j7
   (try simp only[bs,if_true,if_false,decide_true,decide_false,fa,reduceIte])
   all_goals rfl
 rw[hs]
 have s:=uz d F
 exact⟨rfl,E,(aW s (Ne.symm hne) r),(u1 o (u1 p s im) im)⟩
theorem lh{m:Md}{A:Option Addr}{cp:Nat}{b:List Int}{w:World}{c:Int}(hcode:B8 c)(hsl:b9 m w (.slice A b.length cp) b)(hb:b.length≤1048576) :
    Calls Tryz.prog 93 #[.int .i64 0,.int .u8 c,.slice A b.length cp] w (cy (.slice A b.length cp) b (ai aF 0 c b) w):=by
 obtain⟨hcode1,hcode2⟩:=hcode
 have hln:(b.length:Int)≤1048576:=by omega
 refine en 113 Tryz.func93 rfl<|sg<|L0<|bH mZ fun aS cW o i f=>Pl 1<|nt<|sq<|sg<|Pl 6<|nt<|c0<|?_
 refine bf<|sg<|Pl 2<|L0<|dv #[.slice A b.length cp,.int .i64 0,.bool false,.int .i64 0] fun j cX a k g=>Pl 1<|ng<|Pl 2<|L0<|bH mZ fun a6 cY d a7 J=>L0<|b7 a7 (mC c) fun Y Z C=>?_
 refine nt<|sq<|sg<|Pl 1<|nt<|bk<|sq<|sg<|Pl 2<|nl<|?_
 refine tn<|?_
 have L:=ud J C d
 have l:=aD g L
 have q:=aD f l
 refine cb ((c==1)) (fun r=>?_) (fun r=>?_)
 have bV:=ah r
 refine bf<|ct r<|sq<|sg<|Pl 2<|nt<|c1<|sg<|Pl 1<|?_
 have a8:RC w _ A cp b Y j (ak.mk b false 0):=⟨hsl,q,(Nat.le_trans f.size a),⟨0,(ub L k),Nat.zero_le _,rfl⟩,by omega⟩
 have aT:=nb (am k) lr d
 refine L0<|Oc<|m3 (oc (most:=2000) (b8 (by omega)) a8 Z (Nat.le_trans (le f.size g.size) d) aT) fun cZ bW bY bZ=>?_
 have d0:=bN (RC.rng a8)
 have d1:=bN (c:=(ak.mk b false 0).wordsC 1) (cD (RC.rng a8) 1)
 refine nt<|xt<|tx<|bx<|tn<|sg<|Pl 1<|L0<|Oc<|m2 (eE bW) fun d2 a9 aU=>nt<|sq<|sq<|?_
 refine go<|Pl 3<|L0<|ei (p:=⟨j,3,none⟩) (v:=.int .i64 (((bA (ak.mk b false 0) 2000).endC).e)) (RC.fld a9)<|Pl 1<|nt<|?_
 have ab:=u1 bZ aU im
 have aV:=ut q ab (ac (ni f.size a) (ac (ni (le f.size g.size) d) ay))
 have hs:ai aF 0 c b=b6 (aP.mk c 0 ((ak.mk b false 0).wordV) (((ak.mk b false 0).wordsC 1).wordV) 0 0 0 0 0 0 0 0 [] [] [] [] 0 0 0 0 0 []) (bA (ak.mk b false 0) 2000):=by
   unfold ai aF dm dh d6 ga pV i7 pX nA qk dR fp
   (try simp only[r,bs,if_true,if_false,decide_true,decide_false,eq_self,true_or,or_true,or_false,false_or,if_true,if_false,dE,dC,dD,dF,reduceIte,fa])
   all_goals rfl
 refine cb (((((bA (ak.mk b false 0) 2000).endC).e)!=0)) (fun ad=>?_) (fun ad=>?_)
 have af:=ax ad
 refine sq<|Rg 7 (fun w'=>w'.cell? ⟨j,3,none⟩=some (.int .i64 (((bA (ak.mk b false 0) 2000).endC).e))) fun d3 a0=>?_
 have aX:=RC.upd a9 a0 az (aC.step (RC.u a9) a0)
 refine bi (RC.fld aX) fun M=>Rt 0 M<|Rt 1 M<|Rt 2 M<|Rt 3 M<|Rl 4 M (fun _ hs=>hs)<|?_
 refine R0 5 rfl<|b7 (ub (ut l (aD ab a0) (ac (nr a) (ac (ni g.size d) ay))) i) mZ fun d4 c2 aZ=>?_
 have b0:=ud aV (uz a0 aZ) o
 refine bi (RC.fld (RC.upd aX aZ (aa (Ne.symm (nb (am i) lr a)) az) b0)) fun c3=>Rt 6 c3<|re<|tn<|rt<|tr<|bJ c2 (.int .i64 (((bA (ak.mk b false 0) 2000).endC).e))<|?_
 rw[hs]
 exact bg af b0
 have af:=ag ad
 refine bf<|sg<|?_
 refine L0<|bO (aW aU (Ne.symm aT) bY)<|?_
 refine L0<|b7 (ub (ut l ab (ac (nr a) (ac (ni g.size d) ay))) i) (mG c 0 ((ak.mk b false 0).wordV) (((ak.mk b false 0).wordsC 1).wordV) 0 0 0 0 0 0 0 0 nS nS nS nS 0 0 0 0 0 nS) fun d5 c4 c5=>Pl 1<|nt<|rt<|bJ c4 (.int .i64 0)<|?_
 rw[hs]
 exact bo af ⟨_,_,_,_,_,rfl,aL.nil ..,aL.nil ..,(fun _ _ _=>aL.nil ..),aL.nil ..,aL.nil ..,(cj (by omega))⟩ (ud aV c5 o)
 have bV:=aj r
 refine go<|Pl 2<|nt<|cb ((c==2)) (fun D=>?_) (fun D=>?_)
 have c6:=ah D
 refine sq<|sg<|Pl 2<|nt<|c1<|sg<|Pl 1<|?_
 have al:RC w _ A cp b Y j (ak.mk b false 0):=⟨hsl,q,(Nat.le_trans f.size a),⟨0,(ub L k),Nat.zero_le _,rfl⟩,by omega⟩
 have b1:=nb (am k) lr d
 refine L0<|Oc<|m3 (oc (most:=2000) (b8 (by omega)) al Z (Nat.le_trans (le f.size g.size) d) b1) fun d7 c7 c8 c9=>?_
 have d8:=bN (RC.rng al)
 have d9:=bN (c:=(ak.mk b false 0).wordsC 1) (cD (RC.rng al) 1)
 refine nt<|xt<|tx<|bx<|tn<|sg<|Pl 1<|L0<|Oc<|m2 (eE c7) fun da an b2=>nt<|sq<|sq<|?_
 refine go<|Pl 3<|L0<|ei (p:=⟨j,3,none⟩) (v:=.int .i64 (((bA (ak.mk b false 0) 2000).endC).e)) (RC.fld an)<|Pl 1<|nt<|?_
 have ao:=u1 c9 b2 im
 have b3:=ut q ao (ac (ni f.size a) (ac (ni (le f.size g.size) d) ay))
 have hs:ai aF 0 c b=b6 (aP.mk c 0 ((ak.mk b false 0).wordV) (((ak.mk b false 0).wordsC 1).wordV) 0 0 0 0 0 0 0 0 [] [] [] [] 0 0 0 0 0 []) (bA (ak.mk b false 0) 2000):=by
   unfold ai aF dm dh d6 ga pV i7 pX nA qk dR fp
   (try simp only[r,D,bs,if_true,if_false,decide_true,decide_false,eq_self,true_or,or_true,or_false,false_or,if_true,if_false,dE,dC,dD,dF,reduceIte,fa])
   all_goals rfl
 refine cb (((((bA (ak.mk b false 0) 2000).endC).e)!=0)) (fun aq=>?_) (fun aq=>?_)
 have ar:=ax aq
 refine sq<|Rg 7 (fun w'=>w'.cell? ⟨j,3,none⟩=some (.int .i64 (((bA (ak.mk b false 0) 2000).endC).e))) fun db a1=>?_
 have b4:=RC.upd an a1 az (aC.step (RC.u an) a1)
 refine bi (RC.fld b4) fun N=>Rt 0 N<|Rt 1 N<|Rt 2 N<|Rt 3 N<|Rl 4 N (fun _ hs=>hs)<|?_
 refine R0 5 rfl<|b7 (ub (ut l (aD ao a1) (ac (nr a) (ac (ni g.size d) ay))) i) mZ fun dc ca b5=>?_
 have ba:=ud b3 (uz a1 b5) o
 refine bi (RC.fld (RC.upd b4 b5 (aa (Ne.symm (nb (am i) lr a)) az) ba)) fun cc=>Rt 6 cc<|re<|tn<|rt<|tr<|bJ ca (.int .i64 (((bA (ak.mk b false 0) 2000).endC).e))<|?_
 rw[hs]
 exact bg ar ba
 have ar:=ag aq
 refine bf<|sg<|?_
 refine L0<|bO (aW b2 (Ne.symm b1) c8)<|?_
 refine L0<|b7 (ub (ut l ao (ac (nr a) (ac (ni g.size d) ay))) i) (mG c 0 ((ak.mk b false 0).wordV) (((ak.mk b false 0).wordsC 1).wordV) 0 0 0 0 0 0 0 0 nS nS nS nS 0 0 0 0 0 nS) fun dd cd cf=>Pl 1<|nt<|rt<|bJ cd (.int .i64 0)<|?_
 rw[hs]
 exact bo ar ⟨_,_,_,_,_,rfl,aL.nil ..,aL.nil ..,(fun _ _ _=>aL.nil ..),aL.nil ..,aL.nil ..,(cj (by omega))⟩ (ud b3 cf o)
 have c6:=aj D
 refine sg<|Pl 2<|nt<|cb ((c==5)) (fun H=>?_) (fun H=>?_)
 have cg:=ah H
 refine sg<|Pl 1<|?_
 have ci:RC w _ A cp b Y j (ak.mk b false 0):=⟨hsl,q,(Nat.le_trans f.size a),⟨0,(ub L k),Nat.zero_le _,rfl⟩,by omega⟩
 refine L0<|Oc<|m3 (cO ci) fun de ck bb df=>Pl 1<|?_
 have O:=nb (am k) lr d
 refine L0<|bX (aW bb (Ne.symm O) Z) 2 (mG c 0 ((ak.mk b false 0).wordV) 0 0 0 0 0 0 0 0 0 nS nS nS nS 0 0 0 0 0 nS) fun dg cm bc=>ng<|Pl 1<|?_
 have au:=us bb bc
 have bd:=ut q au (ac (ni f.size a) (ac (ni (le f.size g.size) d) ay))
 refine L0<|Oc<|m3 (cO (RC.upd ck bc (aa O az) bd)) fun di cn be dj=>Pl 1<|?_
 refine L0<|bX (aW be (Ne.symm O) cm) 4 (mG c 0 ((ak.mk b false 0).wordV) 0 (((ak.mk b false 0).wordsC 1).wordV) 0 0 0 0 0 0 0 nS nS nS nS 0 0 0 0 0 nS) fun dk av bh=>nt<|go<|Pl 2<|L0<|aO av 4<|Pl 2<|cu 4 [62] 66 ((((((ak.mk b false 0).wordsC 1).wordV)==0)||((((ak.mk b false 0).wordsC 1).wordV)==65280))) (fun K bj=>?_) ?_
 refine bl 62 (((((ak.mk b false 0).wordsC 1).wordV)==0)) (fun P=>?_) (fun P=>?_)
 have co:=ah P
 exact Pl 4<|ce bj true (by rw[P];rfl)
 have co:=aj P
 exact Pl 1<|L1<|aO av 4<|Pl 2<|ce bj ((((ak.mk b false 0).wordsC 1).wordV)==65280) (by rw[P];rfl)
 have aw:=us be bh
 have bm:=ut bd aw (ac (ni f.size a) (ac (ni (le f.size g.size) d) ay))
 refine L0<|Oc<|m2 (aY ((((((ak.mk b false 0).wordsC 1).wordV)==0)||((((ak.mk b false 0).wordsC 1).wordV)==65280))) 6 (RC.upd cn bh (aa O az) bm)) fun dl cq cr=>?_
 refine fY cq fun Q cs cv=>?_
 refine nl<|bn<|tn<|sg<|Pl 1<|L0<|Oc<|m2 (eE cv) fun dn aA cw=>nt<|sq<|sg<|Pl 3<|L0<|ei (p:=⟨j,3,none⟩) (v:=.int .i64 Q.endC.e) (RC.fld aA)<|?_
 refine Pl 1<|nt<|?_
 have a2:=u1 cr cw im
 have bp:=ud bm a2 (le f.size a)
 have hs:ai aF 0 c b=b6 (aP.mk c 0 ((ak.mk b false 0).wordV) 0 (((ak.mk b false 0).wordsC 1).wordV) 0 0 0 0 0 0 0 [] [] [] [] 0 0 0 0 0 []) Q:=by
   subst cs
   unfold ai aF dm dh d6 ga pV i7 pX nA qk dR fp
   (try simp only[r,D,H,bs,if_true,if_false,decide_true,decide_false,eq_self,true_or,or_true,or_false,false_or,if_true,if_false,dE,dC,dD,dF,reduceIte,fa])
   all_goals rfl
 refine cb ((Q.endC.e != 0)) (fun aE=>?_) (fun aE=>?_)
 have aG:=ax aE
 refine sq<|Rg 7 (fun w'=>w'.cell? ⟨j,3,none⟩=some (.int .i64 Q.endC.e)) fun dp a3=>?_
 have bq:=RC.upd aA a3 az (aC.step (RC.u aA) a3)
 refine bi (RC.fld bq) fun R=>Rt 0 R<|Rt 1 R<|Rt 2 R<|Rt 3 R<|Rl 4 R (fun _ hs=>hs)<|?_
 refine R0 5 rfl<|b7 (ub (ut l (ut au (u1 aw (aD a2 a3) im) (ac im (ac im ay))) (ac (nr a) (ac (ni g.size d) ay))) i) mZ fun dq cx bt=>?_
 have bu:=ud bp (uz a3 bt) o
 refine bi (RC.fld (RC.upd bq bt (aa (Ne.symm (nb (am i) lr a)) az) bu)) fun cz=>Rt 6 cz<|re<|tn<|rt<|tr<|bJ cx (.int .i64 Q.endC.e)<|?_
 rw[hs]
 exact bg aG bu
 have aG:=ag aE
 refine bf<|sg<|?_
 refine L0<|bO (aW a2 (Ne.symm O) av)<|?_
 refine L0<|b7 (ub (ut l (ut au (u1 aw a2 im) (ac im (ac im ay))) (ac (nr a) (ac (ni g.size d) ay))) i) (mG c 0 ((ak.mk b false 0).wordV) 0 (((ak.mk b false 0).wordsC 1).wordV) 0 0 0 0 0 0 0 nS nS nS nS 0 0 0 0 0 nS) fun dr cA cB=>Pl 1<|nt<|rt<|bJ cA (.int .i64 0)<|?_
 rw[hs]
 exact bo aG ⟨_,_,_,_,_,rfl,aL.nil ..,aL.nil ..,(fun _ _ _=>aL.nil ..),aL.nil ..,aL.nil ..,(cj (by omega))⟩ (ud bp cB o)
 have cg:=aj H
 refine sg<|Pl 2<|nt<|cb ((c==15)) (fun S=>?_) (fun S=>?_)
 have cC:=ah S
 refine sg<|Pl 1<|?_
 have aH:RC w _ A cp b Y j (ak.mk b false 0):=⟨hsl,q,(Nat.le_trans f.size a),⟨0,(ub L k),Nat.zero_le _,rfl⟩,by omega⟩
 have E:=nb (am k) lr d
 refine L0<|Oc<|m3 (oc (most:=1968) (b8 (by omega)) aH Z (Nat.le_trans (le f.size g.size) d) E) fun ds cE cF F=>?_
 have dt:=bN (RC.rng aH)
 have du:=bN (c:=(ak.mk b false 0).wordsC 1) (cD (RC.rng aH) 1)
 refine nt<|sq<|sg<|Pl 2<|nt<|c0<|bf<|sg<|Pl 1<|L0<|Oc<|m3 (ed cE) fun cG bw y dw=>?_
 refine L0<|Oi ((bA (ak.mk b false 0) 1968).byteV)<|Pl 1<|ng<|Pl 3<|?_
 have bz:=aW y (Ne.symm E) cF
 refine L0<|aO bz 3<|L0<|Oi (((ak.mk b false 0).wordsC 1).wordV)<|L0<|Oc<|m1 (Aa (n:=((ak.mk b false 0).wordsC 1).wordV) (w:=cG) (by omega)) fun dx s=>Pl 1<|?_
 refine L0<|Oc<|m2 (aY ((((bA (ak.mk b false 0) 1968).byteV)==(dH (((ak.mk b false 0).wordsC 1).wordV)))) 5 (RC.upd bw s az (aC.step (RC.u bw) s))) fun dy cH G=>?_
 refine fY cH fun I cI bB=>?_
 refine nt<|sq<|Rg 12 (fun w'=>w'.cell? ⟨a6,3,none⟩=some (.int .u16 (((ak.mk b false 0).wordsC 1).wordV))) fun dz t=>?_
 have bC:=uz s (aD G t)
 have bD:=aW bC (Ne.symm E) bz
 refine bi (ae bD rfl) fun T=>Rt 0 T<|Rt 1 T<|Rt 3 T<|Rl 4 T (fun _ hs=>hs)<|Rr 5 T (.int .i64 (((ak.mk b false 0).wordsC 1).wordV)) (fun _ _=>ch (.int .i64 (IntKind.i64.wrap (((ak.mk b false 0).wordsC 1).wordV))) (by kernel_rfl) (congrArg (Value.int .i64) (i64_in (by omega))))<|?_
 have bE:=RC.upd bB t az (aC.step (RC.u bB) t)
 refine R0 2 rfl<|Oc<|pW (fJ (n:=(bA (ak.mk b false 0) 1968).byteV) (by omega) bE) fun cJ cK dA cL aI z=>?_
 have dB:=Nat.le_trans (ak.bytesR_le I ((bA (ak.mk b false 0) 1968).byteV)) (RC.clen bE)
 have bF:=aW z (Ne.symm E) bD
 refine bi (ae bF rfl) fun dI=>R0 6 rfl<|Oc (args:=#[.slice cJ ((I.bytesR ((bA (ak.mk b false 0) 1968).byteV)).length) cK,.int .i64 (((ak.mk b false 0).wordsC 1).wordV)])<|dG (wc (n:=((ak.mk b false 0).wordsC 1).wordV) (cL _ _ (RC.rd aI)) (by omega) (by omega)) fun bG bI dJ B dK dL a4=>?_
 have bK:=ub a4 bF
 refine bi (ae bK rfl) fun U=>Rt 7 U<|Rt 8 U<|Rt 9 U<|Rt 10 U<|Rt 11 U<|re<|tn<|sg<|Pl 2<|?_
 refine L0<|Oc<|m2 (aY ((cl (I.bytesR ((bA (ak.mk b false 0) 1968).byteV)) (((ak.mk b false 0).wordsC 1).wordV)).isSome) 6 (RC.upd aI a4 az (aC.step (RC.u aI) a4))) fun dM cM bL=>?_
 refine fY cM fun V cN cP=>?_
 refine nt<|go<|Pl 2<|?_
 refine L0<|bX (aW bL (Ne.symm E) bK) 13 (mG c 0 ((ak.mk b false 0).wordV) (((ak.mk b false 0).wordsC 1).wordV) 0 0 0 0 0 0 0 0 nS (.slice bG (((cl (I.bytesR ((bA (ak.mk b false 0) 1968).byteV)) (((ak.mk b false 0).wordsC 1).wordV)).getD []).length) bI) nS nS 0 0 0 0 0 nS) fun dN cQ bM=>nl<|bn<|tn<|sg<|Pl 1<|?_
 have aJ:=us bL bM
 have aK:=ut F (ui y (ui bC (ui z (uz a4 aJ)))) (ac im (ac im ay))
 have bP:=ut q aK (ac (ni f.size a) (ac (ni (le f.size g.size) d) ay))
 refine L0<|Oc<|m2 (eE (RC.upd cP bM (aa E az) bP)) fun dO aM W=>nt<|sq<|sg<|Pl 3<|L0<|ei (p:=⟨j,3,none⟩) (v:=.int .i64 V.endC.e) (RC.fld aM)<|Pl 1<|nt<|?_
 have bQ:=ud bP W (le f.size a)
 have hs:ai aF 0 c b=b6 (aP.mk c 0 ((ak.mk b false 0).wordV) (((ak.mk b false 0).wordsC 1).wordV) 0 0 0 0 0 0 0 0 [] ((cl (I.bytesR ((bA (ak.mk b false 0) 1968).byteV)) (((ak.mk b false 0).wordsC 1).wordV)).getD []) [] [] 0 0 0 0 0 []) V:=by
   subst cN cI
   unfold ai aF dm dh d6 ga pV i7 pX nA qk dR fp
   (try simp only[r,D,H,S,bs,if_true,if_false,decide_true,decide_false,eq_self,true_or,or_true,or_false,false_or,if_true,if_false,dE,dC,dD,dF,reduceIte,fa])
   all_goals rfl
 refine cb ((V.endC.e != 0)) (fun aN=>?_) (fun aN=>?_)
 have aQ:=ax aN
 refine sq<|Rg 7 (fun w'=>w'.cell? ⟨j,3,none⟩=some (.int .i64 V.endC.e)) fun dP a5=>?_
 have bR:=RC.upd aM a5 az (aC.step (RC.u aM) a5)
 refine bi (RC.fld bR) fun X=>Rt 0 X<|Rt 1 X<|Rt 2 X<|Rt 3 X<|Rl 4 X (fun _ hs=>hs)<|?_
 have bS:=aD W a5
 refine R0 5 rfl<|b7 (ub (ut l (u1 aK bS im) (ac (nr a) (ac (ni g.size d) ay))) i) mZ fun dQ cR aR=>?_
 have bT:=ud bQ (uz a5 aR) o
 refine bi (RC.fld (RC.upd bR aR (aa (Ne.symm (nb (am i) lr a)) az) bT)) fun cS=>Rt 6 cS<|re<|tn<|rt<|tr<|bJ cR (.int .i64 V.endC.e)<|?_
 have dS:=ap B (ut (aC.mono (S':=[j,a6,aS]) aJ (ac im (ac im ay))) (us bS aR) (ac im (ac im ay))) (fun x hx=>(aa (fun e=>(aB (am k) (le (le (le (le (le (le (le J.size C.size) F.size) y.size) s.size) G.size) t.size) z.size) B) (e▸hx)) (aa (fun e=>(aB (am a7) (le (le (le (le (le (le C.size F.size) y.size) s.size) G.size) t.size) z.size) B) (e▸hx)) (aa (fun e=>(aB (am i) (le (le (le (le (le (le (le (le g.size J.size) C.size) F.size) y.size) s.size) G.size) t.size) z.size) B) (e▸hx)) az)))) (fun _ _ h=>h)
 rw[hs]
 exact bg aQ bT
 have aQ:=ag aN
 refine bf<|sg<|?_
 refine L0<|bO (aW W (Ne.symm E) cQ)<|?_
 refine L0<|b7 (ub (ut l (u1 aK W im) (ac (nr a) (ac (ni g.size d) ay))) i) (mG c 0 ((ak.mk b false 0).wordV) (((ak.mk b false 0).wordsC 1).wordV) 0 0 0 0 0 0 0 0 nS (.slice bG (((cl (I.bytesR ((bA (ak.mk b false 0) 1968).byteV)) (((ak.mk b false 0).wordsC 1).wordV)).getD []).length) bI) nS nS 0 0 0 0 0 nS) fun dT cT bU=>Pl 1<|nt<|rt<|bJ cT (.int .i64 0)<|?_
 rw[hs]
 exact bo aQ ⟨_,_,_,_,_,rfl,aL.nil ..,((ap B (ut (aC.mono (S':=[j,a6,aS]) aJ (ac im (ac im ay))) (us W bU) (ac im (ac im ay))) (fun x hx=>(aa (fun e=>(aB (am k) (le (le (le (le (le (le (le J.size C.size) F.size) y.size) s.size) G.size) t.size) z.size) B) (e▸hx)) (aa (fun e=>(aB (am a7) (le (le (le (le (le (le C.size F.size) y.size) s.size) G.size) t.size) z.size) B) (e▸hx)) (aa (fun e=>(aB (am i) (le (le (le (le (le (le (le (le g.size J.size) C.size) F.size) y.size) s.size) G.size) t.size) z.size) B) (e▸hx)) az)))) (fun _ _ h=>h))).rd,(fun _ _ _=>aL.nil ..),aL.nil ..,aL.nil ..,(cj (by omega))⟩ (ud bQ bU o)
 have cC:=aj S
 refine sg<|Pl 1<|?_
 refine L0<|b7 (ub l i) mZ fun dU cU cV=>Pl 1<|nt<|rt<|br<|tr<|bJ cU (.int .i64 4)<|?_
 have hs:ai aF 0 c b=(aP.zero,4):=by
   unfold ai aF dm dh d6 ga pV i7 pX nA qk dR fp
   (try simp only[r,D,H,S,bs,if_true,if_false,decide_true,decide_false,eq_self,true_or,or_true,or_false,false_or,if_true,if_false,dE,dC,dD,dF,reduceIte,fa])
   all_goals rfl
 rw[hs]
 exact bv (ud q cV o)
theorem lq{m:Md}{A:Option Addr}{cp:Nat}{b:List Int}{w:World}{c:Int}(hcode:B8 c)(hsl:b9 m w (.slice A b.length cp) b)(hb:b.length≤1048576) :
    Calls Tryz.prog 93 #[.int .i64 1,.int .u8 c,.slice A b.length cp] w (cy (.slice A b.length cp) b (ai aF 1 c b) w):=by
 obtain⟨hcode1,hcode2⟩:=hcode
 have hln:(b.length:Int)≤1048576:=by omega
 refine en 113 Tryz.func93 rfl<|sg<|L0<|bH mZ fun cG cH k h d=>Pl 1<|nt<|sq<|sg<|Pl 6<|nt<|c0<|?_
 refine bf<|sg<|Pl 2<|L0<|dv #[.slice A b.length cp,.int .i64 0,.bool false,.int .i64 0] fun i cI a r g=>Pl 1<|ng<|Pl 2<|L0<|bH mZ fun cJ cK f bj bm=>L0<|b7 bj (mC c) fun J L bp=>?_
 refine nt<|sq<|sg<|Pl 1<|nt<|bk<|sq<|sg<|Pl 2<|nl<|?_
 refine tn<|?_
 have x:=ud bm bp f
 have j:=aD g x
 have l:=aD d j
 refine cb ((c==1)) (fun o=>?_) (fun o=>?_)
 have bq:=ah o
 refine bf<|ct o<|sq<|sg<|Pl 2<|nt<|c0<|bf<|sg<|?_
 refine Pl 1<|?_
 have bt:RC w _ A cp b J i (ak.mk b false 0):=⟨hsl,l,(Nat.le_trans d.size a),⟨0,(ub x r),Nat.zero_le _,rfl⟩,by omega⟩
 refine L0<|Oc<|m3 (ed bt) fun cL bu bw cM=>L0<|Oi ((ak.mk b false 0).byteV)<|Pl 1<|ng<|Pl 4<|cu 3 [41] 44 (((decide (0<((ak.mk b false 0).byteV)))&&(decide (((ak.mk b false 0).byteV)≤250)))) (fun K al=>?_) ?_
 refine bl 41 ((decide (0<((ak.mk b false 0).byteV)))) (fun y=>?_) (fun y=>?_)
 have bz:=of_decide_eq_true y
 exact Pl 3<|ce al (decide (((ak.mk b false 0).byteV)≤250)) (by rw[y];rfl)
 have bz:=of_decide_eq_false y
 exact Pl 3<|ce al false (by rw[y];rfl)
 refine L0<|Oc<|m2 (aY (((decide (0<((ak.mk b false 0).byteV)))&&(decide (((ak.mk b false 0).byteV)≤250)))) 5 bu) fun cN bB bC=>?_
 refine fY bB fun x43 bD an=>?_
 refine nt<|go<|Pl 2<|L0<|Oc<|pW (fJ (n:=(ak.mk b false 0).byteV) (by omega) an) fun ao ap cP bE bF bG=>?_
 have cQ:=Nat.le_trans (ak.bytesR_le x43 ((ak.mk b false 0).byteV)) (RC.clen an)
 refine Pl 1<|?_
 have aq:=u1 bw (u1 bC bG im) im
 have T:=nb (am r) lr f
 refine L0<|bX (aW aq (Ne.symm T) L) 14 (mG c 0 0 0 0 0 0 0 0 0 0 0 nS nS (.slice ao ((x43.bytesR ((ak.mk b false 0).byteV)).length) ap) nS 0 0 0 0 0 nS) fun cR bI ar=>nl<|bn<|tn<|sg<|Pl 1<|?_
 have U:=us aq ar
 have au:=ut l U (ac (ni d.size a) (ac (ni (le d.size g.size) f) ay))
 refine L0<|Oc<|m2 (eE (RC.upd bF ar (aa T az) au)) fun cS V M=>nt<|sq<|sg<|Pl 3<|L0<|ei (p:=⟨i,3,none⟩) (v:=.int .i64 (((x43.bytesC ((ak.mk b false 0).byteV)).endC).e)) (RC.fld V)<|Pl 1<|nt<|?_
 have av:=ud au M (le d.size a)
 have hs:ai aF 1 c b=b6 (aP.mk c 0 0 0 0 0 0 0 0 0 0 0 [] [] (x43.bytesR ((ak.mk b false 0).byteV)) [] 0 0 0 0 0 []) (x43.bytesC ((ak.mk b false 0).byteV)):=by
   subst bD
   unfold ai aF dm dh d6 ga pV i7 pX nA qk dR fp
   (try simp only[o,bs,if_true,if_false,decide_true,decide_false,eq_self,true_or,or_true,or_false,false_or,if_true,if_false,dE,dC,dD,dF,reduceIte,fa])
   all_goals rfl
 refine cb (((((x43.bytesC ((ak.mk b false 0).byteV)).endC).e)!=0)) (fun W=>?_) (fun W=>?_)
 have X:=ax W
 refine sq<|Rg 7 (fun w'=>w'.cell? ⟨i,3,none⟩=some (.int .i64 (((x43.bytesC ((ak.mk b false 0).byteV)).endC).e))) fun cT N=>?_
 have aw:=RC.upd V N az (aC.step (RC.u V) N)
 refine bi (RC.fld aw) fun z=>Rt 0 z<|Rt 1 z<|Rt 2 z<|Rt 3 z<|Rl 4 z (fun _ hs=>hs)<|?_
 refine R0 5 rfl<|b7 (ub (ut j (u1 U (aD M N) im) (ac (nr a) (ac (ni g.size f) ay))) h) mZ fun cU bK aA=>?_
 have aB:=ud av (uz N aA) k
 refine bi (RC.fld (RC.upd aw aA (aa (Ne.symm (nb (am h) lr a)) az) aB)) fun bL=>Rt 6 bL<|re<|tn<|rt<|tr<|bJ bK (.int .i64 (((x43.bytesC ((ak.mk b false 0).byteV)).endC).e))<|?_
 rw[hs]
 exact bg X aB
 have X:=ag W
 refine bf<|sg<|?_
 refine L0<|bO (aW M (Ne.symm T) bI)<|?_
 refine L0<|b7 (ub (ut j (u1 U M im) (ac (nr a) (ac (ni g.size f) ay))) h) (mG c 0 0 0 0 0 0 0 0 0 0 0 nS nS (.slice ao ((x43.bytesR ((ak.mk b false 0).byteV)).length) ap) nS 0 0 0 0 0 nS) fun cV bM bP=>Pl 1<|nt<|rt<|bJ bM (.int .i64 0)<|?_
 rw[hs]
 exact bo X ⟨_,_,_,_,_,rfl,aL.nil ..,aL.nil ..,bE,aL.nil ..,aL.nil ..,(cj (by omega))⟩ (ud av bP k)
 have bq:=aj o
 refine go<|Pl 2<|nt<|cb ((c==2)) (fun s=>?_) (fun s=>?_)
 have bQ:=ah s
 refine sq<|sg<|Pl 2<|nt<|c0<|bf<|sg<|Pl 1<|?_
 have bR:RC w _ A cp b J i (ak.mk b false 0):=⟨hsl,l,(Nat.le_trans d.size a),⟨0,(ub x r),Nat.zero_le _,rfl⟩,by omega⟩
 refine L0<|Oc<|m3 (ed bR) fun cW bS bT cX=>L0<|Oi ((ak.mk b false 0).byteV)<|Pl 1<|ng<|Pl 4<|cu 3 [41] 44 (((decide (0<((ak.mk b false 0).byteV)))&&(decide (((ak.mk b false 0).byteV)≤250)))) (fun K aE=>?_) ?_
 refine bl 41 ((decide (0<((ak.mk b false 0).byteV)))) (fun B=>?_) (fun B=>?_)
 have bU:=of_decide_eq_true B
 exact Pl 3<|ce aE (decide (((ak.mk b false 0).byteV)≤250)) (by rw[B];rfl)
 have bU:=of_decide_eq_false B
 exact Pl 3<|ce aE false (by rw[B];rfl)
 refine L0<|Oc<|m2 (aY (((decide (0<((ak.mk b false 0).byteV)))&&(decide (((ak.mk b false 0).byteV)≤250)))) 5 bS) fun cY bV bW=>?_
 refine fY bV fun q bY aG=>?_
 refine nt<|go<|Pl 2<|L0<|Oc<|pW (fJ (n:=(ak.mk b false 0).byteV) (by omega) aG) fun aH aI cZ bZ c2 c3=>?_
 have d0:=Nat.le_trans (ak.bytesR_le q ((ak.mk b false 0).byteV)) (RC.clen aG)
 refine Pl 1<|?_
 have aJ:=u1 bT (u1 bW c3 im) im
 have Y:=nb (am r) lr f
 refine L0<|bX (aW aJ (Ne.symm Y) L) 14 (mG c 0 0 0 0 0 0 0 0 0 0 0 nS nS (.slice aH ((q.bytesR ((ak.mk b false 0).byteV)).length) aI) nS 0 0 0 0 0 nS) fun d1 c4 aK=>nl<|bn<|tn<|sg<|Pl 1<|?_
 have Z:=us aJ aK
 have aM:=ut l Z (ac (ni d.size a) (ac (ni (le d.size g.size) f) ay))
 refine L0<|Oc<|m2 (eE (RC.upd c2 aK (aa Y az) aM)) fun d2 a0 O=>nt<|sq<|sg<|Pl 3<|L0<|ei (p:=⟨i,3,none⟩) (v:=.int .i64 (((q.bytesC ((ak.mk b false 0).byteV)).endC).e)) (RC.fld a0)<|Pl 1<|nt<|?_
 have aN:=ud aM O (le d.size a)
 have hs:ai aF 1 c b=b6 (aP.mk c 0 0 0 0 0 0 0 0 0 0 0 [] [] (q.bytesR ((ak.mk b false 0).byteV)) [] 0 0 0 0 0 []) (q.bytesC ((ak.mk b false 0).byteV)):=by
   subst bY
   unfold ai aF dm dh d6 ga pV i7 pX nA qk dR fp
   (try simp only[o,s,bs,if_true,if_false,decide_true,decide_false,eq_self,true_or,or_true,or_false,false_or,if_true,if_false,dE,dC,dD,dF,reduceIte,fa])
   all_goals rfl
 refine cb (((((q.bytesC ((ak.mk b false 0).byteV)).endC).e)!=0)) (fun a1=>?_) (fun a1=>?_)
 have a2:=ax a1
 refine sq<|Rg 7 (fun w'=>w'.cell? ⟨i,3,none⟩=some (.int .i64 (((q.bytesC ((ak.mk b false 0).byteV)).endC).e))) fun d3 P=>?_
 have aQ:=RC.upd a0 P az (aC.step (RC.u a0) P)
 refine bi (RC.fld aQ) fun C=>Rt 0 C<|Rt 1 C<|Rt 2 C<|Rt 3 C<|Rl 4 C (fun _ hs=>hs)<|?_
 refine R0 5 rfl<|b7 (ub (ut j (u1 Z (aD O P) im) (ac (nr a) (ac (ni g.size f) ay))) h) mZ fun d4 c5 aR=>?_
 have aS:=ud aN (uz P aR) k
 refine bi (RC.fld (RC.upd aQ aR (aa (Ne.symm (nb (am h) lr a)) az) aS)) fun c6=>Rt 6 c6<|re<|tn<|rt<|tr<|bJ c5 (.int .i64 (((q.bytesC ((ak.mk b false 0).byteV)).endC).e))<|?_
 rw[hs]
 exact bg a2 aS
 have a2:=ag a1
 refine bf<|sg<|?_
 refine L0<|bO (aW O (Ne.symm Y) c4)<|?_
 refine L0<|b7 (ub (ut j (u1 Z O im) (ac (nr a) (ac (ni g.size f) ay))) h) (mG c 0 0 0 0 0 0 0 0 0 0 0 nS nS (.slice aH ((q.bytesR ((ak.mk b false 0).byteV)).length) aI) nS 0 0 0 0 0 nS) fun d5 c7 c8=>Pl 1<|nt<|rt<|bJ c7 (.int .i64 0)<|?_
 rw[hs]
 exact bo a2 ⟨_,_,_,_,_,rfl,aL.nil ..,aL.nil ..,bZ,aL.nil ..,aL.nil ..,(cj (by omega))⟩ (ud aN c8 k)
 have bQ:=aj s
 refine sg<|Pl 2<|nt<|cb ((c==5)) (fun t=>?_) (fun t=>?_)
 have c9:=ah t
 refine sg<|Pl 1<|?_
 have ca:RC w _ A cp b J i (ak.mk b false 0):=⟨hsl,l,(Nat.le_trans d.size a),⟨0,(ub x r),Nat.zero_le _,rfl⟩,by omega⟩
 refine L0<|Oc<|m3 (cO ca) fun d7 cc aT d8=>Pl 1<|?_
 have D:=nb (am r) lr f
 refine L0<|bX (aW aT (Ne.symm D) L) 2 (mG c 0 ((ak.mk b false 0).wordV) 0 0 0 0 0 0 0 0 0 nS nS nS nS 0 0 0 0 0 nS) fun d9 cd aU=>ng<|Pl 1<|?_
 have a3:=us aT aU
 have aV:=ut l a3 (ac (ni d.size a) (ac (ni (le d.size g.size) f) ay))
 refine L0<|Oc<|m3 (cO (RC.upd cc aU (aa D az) aV)) fun da cf aX db=>Pl 1<|?_
 refine L0<|bX (aW aX (Ne.symm D) cd) 4 (mG c 0 ((ak.mk b false 0).wordV) 0 (((ak.mk b false 0).wordsC 1).wordV) 0 0 0 0 0 0 0 nS nS nS nS 0 0 0 0 0 nS) fun dc a4 aZ=>nt<|go<|Pl 2<|L0<|aO a4 4<|Pl 2<|cu 4 [62] 66 ((((((ak.mk b false 0).wordsC 1).wordV)==0)||((((ak.mk b false 0).wordsC 1).wordV)==65280))) (fun K b0=>?_) ?_
 refine bl 62 (((((ak.mk b false 0).wordsC 1).wordV)==0)) (fun E=>?_) (fun E=>?_)
 have cg:=ah E
 exact Pl 4<|ce b0 true (by rw[E];rfl)
 have cg:=aj E
 exact Pl 1<|L1<|aO a4 4<|Pl 2<|ce b0 ((((ak.mk b false 0).wordsC 1).wordV)==65280) (by rw[E];rfl)
 have a5:=us aX aZ
 have b1:=ut aV a5 (ac (ni d.size a) (ac (ni (le d.size g.size) f) ay))
 refine L0<|Oc<|m2 (aY ((((((ak.mk b false 0).wordsC 1).wordV)==0)||((((ak.mk b false 0).wordsC 1).wordV)==65280))) 6 (RC.upd cf aZ (aa D az) b1)) fun dd ch ci=>?_
 refine fY ch fun F ck cl=>?_
 refine nl<|bn<|tn<|sg<|Pl 1<|L0<|Oc<|m2 (eE cl) fun de a6 cm=>nt<|sq<|sg<|Pl 3<|L0<|ei (p:=⟨i,3,none⟩) (v:=.int .i64 F.endC.e) (RC.fld a6)<|?_
 refine Pl 1<|nt<|?_
 have Q:=u1 ci cm im
 have b2:=ud b1 Q (le d.size a)
 have hs:ai aF 1 c b=b6 (aP.mk c 0 ((ak.mk b false 0).wordV) 0 (((ak.mk b false 0).wordsC 1).wordV) 0 0 0 0 0 0 0 [] [] [] [] 0 0 0 0 0 []) F:=by
   subst ck
   unfold ai aF dm dh d6 ga pV i7 pX nA qk dR fp
   (try simp only[o,s,t,bs,if_true,if_false,decide_true,decide_false,eq_self,true_or,or_true,or_false,false_or,if_true,if_false,dE,dC,dD,dF,reduceIte,fa])
   all_goals rfl
 refine cb ((F.endC.e != 0)) (fun a7=>?_) (fun a7=>?_)
 have a8:=ax a7
 refine sq<|Rg 7 (fun w'=>w'.cell? ⟨i,3,none⟩=some (.int .i64 F.endC.e)) fun df R=>?_
 have b3:=RC.upd a6 R az (aC.step (RC.u a6) R)
 refine bi (RC.fld b3) fun G=>Rt 0 G<|Rt 1 G<|Rt 2 G<|Rt 3 G<|Rl 4 G (fun _ hs=>hs)<|?_
 refine R0 5 rfl<|b7 (ub (ut j (ut a3 (u1 a5 (aD Q R) im) (ac im (ac im ay))) (ac (nr a) (ac (ni g.size f) ay))) h) mZ fun dg cn b4=>?_
 have b5:=ud b2 (uz R b4) k
 refine bi (RC.fld (RC.upd b3 b4 (aa (Ne.symm (nb (am h) lr a)) az) b5)) fun co=>Rt 6 co<|re<|tn<|rt<|tr<|bJ cn (.int .i64 F.endC.e)<|?_
 rw[hs]
 exact bg a8 b5
 have a8:=ag a7
 refine bf<|sg<|?_
 refine L0<|bO (aW Q (Ne.symm D) a4)<|?_
 refine L0<|b7 (ub (ut j (ut a3 (u1 a5 Q im) (ac im (ac im ay))) (ac (nr a) (ac (ni g.size f) ay))) h) (mG c 0 ((ak.mk b false 0).wordV) 0 (((ak.mk b false 0).wordsC 1).wordV) 0 0 0 0 0 0 0 nS nS nS nS 0 0 0 0 0 nS) fun di cq cr=>Pl 1<|nt<|rt<|bJ cq (.int .i64 0)<|?_
 rw[hs]
 exact bo a8 ⟨_,_,_,_,_,rfl,aL.nil ..,aL.nil ..,(fun _ _ _=>aL.nil ..),aL.nil ..,aL.nil ..,(cj (by omega))⟩ (ud b2 cr k)
 have c9:=aj t
 refine sg<|Pl 2<|nt<|cb ((c==15)) (fun H=>?_) (fun H=>?_)
 have cs:=ah H
 refine sg<|Pl 1<|?_
 have a9:RC w _ A cp b J i (ak.mk b false 0):=⟨hsl,l,(Nat.le_trans d.size a),⟨0,(ub x r),Nat.zero_le _,rfl⟩,by omega⟩
 have ba:=nb (am r) lr f
 refine L0<|Oc<|m3 (oc (most:=1968) (b8 (by omega)) a9 L (Nat.le_trans (le d.size g.size) f) ba) fun dj cv cw cx=>?_
 have dk:=bN (RC.rng a9)
 have dl:=bN (c:=(ak.mk b false 0).wordsC 1) (cD (RC.rng a9) 1)
 refine nt<|sq<|sg<|Pl 2<|nt<|c1<|xt<|tx<|bx<|tn<|sq<|?_
 refine go<|Pl 1<|L0<|Oc<|m2 (eE cv) fun dn ab bb=>nt<|sq<|sg<|Pl 3<|L0<|ei (p:=⟨i,3,none⟩) (v:=.int .i64 (((bA (ak.mk b false 0) 1968).endC).e)) (RC.fld ab)<|Pl 1<|nt<|?_
 have ad:=u1 cx bb im
 have bc:=ut l ad (ac (ni d.size a) (ac (ni (le d.size g.size) f) ay))
 have hs:ai aF 1 c b=b6 (aP.mk c 0 ((ak.mk b false 0).wordV) (((ak.mk b false 0).wordsC 1).wordV) 0 0 0 0 0 0 0 0 [] [] [] [] 0 0 0 0 0 []) (bA (ak.mk b false 0) 1968):=by
   unfold ai aF dm dh d6 ga pV i7 pX nA qk dR fp
   (try simp only[o,s,t,H,bs,if_true,if_false,decide_true,decide_false,eq_self,true_or,or_true,or_false,false_or,if_true,if_false,dE,dC,dD,dF,reduceIte,fa])
   all_goals rfl
 refine cb (((((bA (ak.mk b false 0) 1968).endC).e)!=0)) (fun ae=>?_) (fun ae=>?_)
 have af:=ax ae
 refine sq<|Rg 7 (fun w'=>w'.cell? ⟨i,3,none⟩=some (.int .i64 (((bA (ak.mk b false 0) 1968).endC).e))) fun dp S=>?_
 have bd:=RC.upd ab S az (aC.step (RC.u ab) S)
 refine bi (RC.fld bd) fun I=>Rt 0 I<|Rt 1 I<|Rt 2 I<|Rt 3 I<|Rl 4 I (fun _ hs=>hs)<|?_
 refine R0 5 rfl<|b7 (ub (ut j (aD ad S) (ac (nr a) (ac (ni g.size f) ay))) h) mZ fun dq cz be=>?_
 have bh:=ud bc (uz S be) k
 refine bi (RC.fld (RC.upd bd be (aa (Ne.symm (nb (am h) lr a)) az) bh)) fun cA=>Rt 6 cA<|re<|tn<|rt<|tr<|bJ cz (.int .i64 (((bA (ak.mk b false 0) 1968).endC).e))<|?_
 rw[hs]
 exact bg af bh
 have af:=ag ae
 refine bf<|sg<|?_
 refine L0<|bO (aW bb (Ne.symm ba) cw)<|?_
 refine L0<|b7 (ub (ut j ad (ac (nr a) (ac (ni g.size f) ay))) h) (mG c 0 ((ak.mk b false 0).wordV) (((ak.mk b false 0).wordsC 1).wordV) 0 0 0 0 0 0 0 0 nS nS nS nS 0 0 0 0 0 nS) fun dr cB cC=>Pl 1<|nt<|rt<|bJ cB (.int .i64 0)<|?_
 rw[hs]
 exact bo af ⟨_,_,_,_,_,rfl,aL.nil ..,aL.nil ..,(fun _ _ _=>aL.nil ..),aL.nil ..,aL.nil ..,(cj (by omega))⟩ (ud bc cC k)
 have cs:=aj H
 refine sg<|Pl 1<|?_
 refine L0<|b7 (ub j h) mZ fun ds cE cF=>Pl 1<|nt<|rt<|br<|tr<|bJ cE (.int .i64 4)<|?_
 have hs:ai aF 1 c b=(aP.zero,4):=by
   unfold ai aF dm dh d6 ga pV i7 pX nA qk dR fp
   (try simp only[o,s,t,H,bs,if_true,if_false,decide_true,decide_false,eq_self,true_or,or_true,or_false,false_or,if_true,if_false,dE,dC,dD,dF,reduceIte,fa])
   all_goals rfl
 rw[hs]
 exact bv (ud l cF k)
theorem l6{m:Md}{A:Option Addr}{cp:Nat}{b:List Int}{w:World}{dir c:Int}(hcode:B8 c)(hsl:b9 m w (.slice A b.length cp) b)(hb:b.length≤1048576)(hd:¬ (dir=0∨dir=1)) :
    Calls Tryz.prog 93 #[.int .i64 dir,.int .u8 c,.slice A b.length cp] w (cy (.slice A b.length cp) b (ai aF dir c b) w):=by
 obtain⟨hcode1,hcode2⟩:=hcode
 have hln:(b.length:Int)≤1048576:=by omega
 have e0:(dir != 0)=true:=by simp;omega
 have e1:(dir != 1)=true:=by simp;omega
 refine en 113 Tryz.func93 rfl<|sg<|L0<|bH mZ fun g h a d e=>Pl 1<|nt<|sq<|sg<|Pl 3<|sy 16 e0<|Pl 3<|nl<|?_
 refine tn<|ct e1<|sg<|Pl 1<|L0<|b7 d mZ fun i dp f=>Pl 1<|nt<|rt<|tr<|bJ dp (.int .i64 1)<|?_
 have hs:ai aF dir c b=(aP.zero,1):=by
   unfold ai aF dm dh d6 ga pV i7 pX nA qk dR fp
   (try simp only[e0,e1,bs,if_true,if_false,decide_true,decide_false,eq_self,true_or,or_true,or_false,false_or,if_true,if_false,dE,dC,dD,dF,reduceIte,hd,fa])
   all_goals rfl
 rw[hs]
 exact bv (ud e f a)
end Go.Proofs.YtogbnemojakcpaaGreat
