/- Contracts of functions, part CAduTurns5. -/
import Derived.Test.YtdkhbcefkfgbdaaGreatCAduTurns1
import Derived.Test.YtdkhbcefkfgbdaaGreatCAduTurns2
import Derived.Test.YtdkhbcefkfgbdaaGreatCAduTurns3
import Derived.Test.YtdkhbcefkfgbdaaGreatCAduTurns4
set_option linter.unusedVariables false
set_option linter.unusedSimpArgs false
set_option maxRecDepth 100000
set_option maxHeartbeats 4000000
namespace Go.Proofs.YtdkhbcefkfgbdaaGreat
open Go.RowKit
variable {A:Option Addr}{B M:aT}{C:ai}{W w w0:World}{a c dir n x:Int}{b full xs:List Int}{cp g j k t:Nat}{cs:List Value}{l:List Bool}{m:Md}{ok:Bool}{one:Int→ai→Int × ai × dt}{r:ai × aT}{v v0:Value}
theorem uP{α:Type}{xs ys:List α}{d:α}  (h:xs.take k=ys.take k)(hk:k<xs.length)(hl:xs.length=ys.length)(he:xs.getD k d=ys.getD k d) : xs.take (k+1)=ys.take (k+1):=by
  have hk2:k<ys.length:=by omega
  rw[List.take_succ_eq_append_getElem hk,List.take_succ_eq_append_getElem hk2,h]
  rw[List.getD_eq_getElem?_getD,List.getElem?_eq_getElem hk,List.getD_eq_getElem?_getD,List.getElem?_eq_getElem (by omega)] at he
  simp only[Option.getD_some] at he
  rw[he]
theorem CM{a b:dt}(h:((((!(decide (a.words=b.words)))||(a.file != b.file))||(a.record != b.record))||(a.count != b.count))=false) : a=b:=by
  cases a
  cases b
  simp at h
  simp[h]
theorem CT{a b:Obj}(h:((!(decide (a.value=b.value)))||(a.id != b.id))=false) : a=b:=by
  cases a
  cases b
  simp at h
  simp[h]
theorem BZ{a b:Obj}(h:(!(decide (a.value=b.value)))=false)(h2:(a.id != b.id)=false) : a=b:=CT (by rw[h,h2];rfl)
theorem pC{A:aT}{f:aT→aT→Bool}(h:f A B=true)(hf:∀ M,f M M=false) : decide (A=B)=false:=decide_eq_false fun e=>by rw[e,hf] at h;cases h
theorem Am{A:aT}(h1:((((((((((((A.code != B.code)||(A.fail != B.fail))||(A.addr != B.addr))||(A.count != B.count))||(A.value != B.value))||(A.and_ != B.and_))||(A.or_ != B.or_))||(A.addr2 != B.addr2))||(A.sub != B.sub))||(A.status != B.status))||(A.events != B.events))||(A.messages != B.messages))=false)(h2:(((((A.mei != B.mei)||(A.kind != B.kind))||(A.level != B.level))||(A.more != B.more))||(A.next != B.next))=false)(h3:(((((!(decide (A.words=B.words)))||(!(decide (A.bits=B.bits))))||(!(decide (A.data=B.data))))||(((A.recs.length:Nat) : Int)!=((B.recs.length:Nat) : Int)))||(((A.objects.length:Nat) : Int)!=((B.objects.length:Nat) : Int)))=false)(hr:A.recs.length=B.recs.length→A.recs=B.recs)(ho:A.objects.length=B.objects.length→A.objects=B.objects) : A=B:=by
  cases A
  cases B
  simp only[Bool.or_eq_false_iff,bne_eq_false_iff_eq,Bool.not_eq_false',decide_eq_true_eq] at h1 h2 h3
  simp only at hr ho
  obtain⟨⟨⟨⟨⟨⟨⟨⟨⟨⟨⟨a1,a2⟩,a3⟩,a4⟩,a5⟩,a6⟩,a7⟩,a8⟩,a9⟩,a⟩,b⟩,c⟩:=h1
  obtain⟨⟨⟨⟨b1,b2⟩,b3⟩,b4⟩,b5⟩:=h2
  obtain⟨⟨⟨⟨d1,d2⟩,d3⟩,d4⟩,d5⟩:=h3
  have d4:=hr (by omega)
  have d5:=ho (by omega)
  subst a1 a2 a3 a4 a5 a6 a7 a8 a9 a b c b1 b2 b3 b4 b5 d1 d2 d3 d4 d5
  rfl
theorem dj{m':Md}{pc qc:Array Value}{A:aT}  (ha:aI m w pc.toList A)(hb:aI m' w qc.toList B) :
    Calls Tryz.prog 40 #[.agg pc,.agg qc] w (cc (.bool (decide (A=B))) w):=by
 have pM:=ha
 obtain⟨pvw,pvb,pvd,pvr,pvo,ph0,phw,phb,phd,phr,pho,pR⟩:=ha
 obtain rfl:pc=(eC A pvw pvb pvd pvr pvo).toArray:=by apply Array.toList_inj.1;simpa using ph0
 clear ph0
 obtain⟨pw,pkw,rfl,_,_⟩:=phw.shape
 obtain⟨pb,pkb,rfl,_,_⟩:=phb.shape
 obtain⟨pd,pkd,rfl,_,_⟩:=phd.shape
 obtain⟨pr,pkr,rfl,_,_⟩:=phr.shape
 obtain⟨po,pko,rfl,_,_⟩:=pho.shape
 have qM:=hb
 obtain⟨qvw,qvb,qvd,qvr,qvo,qh0,qhw,qhb,qhd,qhr,qho,qR⟩:=hb
 obtain rfl:qc=(eC B qvw qvb qvd qvr qvo).toArray:=by apply Array.toList_inj.1;simpa using qh0
 clear qh0
 obtain⟨qw,qkw,rfl,_,_⟩:=qhw.shape
 obtain⟨qb,qkb,rfl,_,_⟩:=qhb.shape
 obtain⟨qd,qkd,rfl,_,_⟩:=qhd.shape
 obtain⟨qr,qkr,rfl,_,_⟩:=qhr.shape
 obtain⟨qo,qko,rfl,_,_⟩:=qho.shape
 have hz1:=aS.len phr
 have hz2:=aS.len pho
 refine en 254 Tryz.func40 rfl<|sg<|L0<|da (mG A.code A.fail A.addr A.count A.value A.and_ A.or_ A.addr2 A.sub A.status A.events A.messages (.slice pw A.words.length pkw) (.slice pb A.bits.length pkb) (.slice pd A.data.length pkd) (.slice pr A.recs.length pkr) A.mei A.kind A.level A.more A.next (.slice po A.objects.length pko)) fun i cT cU bU bV=>L0<|da (mG B.code B.fail B.addr B.count B.value B.and_ B.or_ B.addr2 B.sub B.status B.events B.messages (.slice qw B.words.length qkw) (.slice qb B.bits.length qkb) (.slice qd B.data.length qkd) (.slice qr B.recs.length qkr) B.mei B.kind B.level B.more B.next (.slice qo B.objects.length qko)) fun l cV cW b aC=>ah 1<|sq<|ak 1<|?_
 have c:=ub aC bU
 refine aE c 0<|Pl 1<|aE b 0<|Pl 2<|cu 6 [19] 25 (((A.code != B.code)||(A.fail != B.fail))) (fun K aF=>?_) ?_
 refine bl 19 ((A.code != B.code)) (fun q=>?_) (fun q=>?_)
 have bW:=az q
 exact Pl 6<|ce aF true (by rw[q];rfl)
 have bW:=aA q
 exact Pl 1<|L1<|dX c 1<|Pl 1<|L1<|dX b 1<|Pl 2<|ce aF (A.fail != B.fail) (by rw[q];rfl)
 refine Pl 1<|cu 6 [26] 32 ((((A.code != B.code)||(A.fail != B.fail))||(A.addr != B.addr))) (fun K aL=>?_) ?_
 refine bl 26 (((A.code != B.code)||(A.fail != B.fail))) (fun V=>?_) (fun V=>?_)
 exact Pl 6<|ce aL true (by rw[V];rfl)
 exact Pl 1<|L1<|dX c 2<|Pl 1<|L1<|dX b 2<|Pl 2<|ce aL (A.addr != B.addr) (by rw[V];rfl)
 refine Pl 1<|cu 6 [33] 39 (((((A.code != B.code)||(A.fail != B.fail))||(A.addr != B.addr))||(A.count != B.count))) (fun K aN=>?_) ?_
 refine bl 33 ((((A.code != B.code)||(A.fail != B.fail))||(A.addr != B.addr))) (fun W=>?_) (fun W=>?_)
 exact Pl 6<|ce aN true (by rw[W];rfl)
 exact Pl 1<|L1<|dX c 3<|Pl 1<|L1<|dX b 3<|Pl 2<|ce aN (A.count != B.count) (by rw[W];rfl)
 refine Pl 1<|cu 6 [40] 46 ((((((A.code != B.code)||(A.fail != B.fail))||(A.addr != B.addr))||(A.count != B.count))||(A.value != B.value))) (fun K aO=>?_) ?_
 refine bl 40 (((((A.code != B.code)||(A.fail != B.fail))||(A.addr != B.addr))||(A.count != B.count))) (fun X=>?_) (fun X=>?_)
 exact Pl 6<|ce aO true (by rw[X];rfl)
 exact Pl 1<|L1<|dX c 4<|Pl 1<|L1<|dX b 4<|Pl 2<|ce aO (A.value != B.value) (by rw[X];rfl)
 refine Pl 1<|cu 6 [47] 53 (((((((A.code != B.code)||(A.fail != B.fail))||(A.addr != B.addr))||(A.count != B.count))||(A.value != B.value))||(A.and_ != B.and_))) (fun K aP=>?_) ?_
 refine bl 47 ((((((A.code != B.code)||(A.fail != B.fail))||(A.addr != B.addr))||(A.count != B.count))||(A.value != B.value))) (fun Y=>?_) (fun Y=>?_)
 exact Pl 6<|ce aP true (by rw[Y];rfl)
 exact Pl 1<|L1<|dX c 5<|Pl 1<|L1<|dX b 5<|Pl 2<|ce aP (A.and_ != B.and_) (by rw[Y];rfl)
 refine Pl 1<|cu 6 [54] 60 ((((((((A.code != B.code)||(A.fail != B.fail))||(A.addr != B.addr))||(A.count != B.count))||(A.value != B.value))||(A.and_ != B.and_))||(A.or_ != B.or_))) (fun K aQ=>?_) ?_
 refine bl 54 (((((((A.code != B.code)||(A.fail != B.fail))||(A.addr != B.addr))||(A.count != B.count))||(A.value != B.value))||(A.and_ != B.and_))) (fun Z=>?_) (fun Z=>?_)
 exact Pl 6<|ce aQ true (by rw[Z];rfl)
 exact Pl 1<|L1<|dX c 6<|Pl 1<|L1<|dX b 6<|Pl 2<|ce aQ (A.or_ != B.or_) (by rw[Z];rfl)
 refine Pl 1<|cu 6 [61] 67 (((((((((A.code != B.code)||(A.fail != B.fail))||(A.addr != B.addr))||(A.count != B.count))||(A.value != B.value))||(A.and_ != B.and_))||(A.or_ != B.or_))||(A.addr2 != B.addr2))) (fun K aR=>?_) ?_
 refine bl 61 ((((((((A.code != B.code)||(A.fail != B.fail))||(A.addr != B.addr))||(A.count != B.count))||(A.value != B.value))||(A.and_ != B.and_))||(A.or_ != B.or_))) (fun a0=>?_) (fun a0=>?_)
 exact Pl 6<|ce aR true (by rw[a0];rfl)
 exact Pl 1<|L1<|dX c 7<|Pl 1<|L1<|dX b 7<|Pl 2<|ce aR (A.addr2 != B.addr2) (by rw[a0];rfl)
 refine Pl 1<|cu 6 [68] 74 ((((((((((A.code != B.code)||(A.fail != B.fail))||(A.addr != B.addr))||(A.count != B.count))||(A.value != B.value))||(A.and_ != B.and_))||(A.or_ != B.or_))||(A.addr2 != B.addr2))||(A.sub != B.sub))) (fun K aU=>?_) ?_
 refine bl 68 (((((((((A.code != B.code)||(A.fail != B.fail))||(A.addr != B.addr))||(A.count != B.count))||(A.value != B.value))||(A.and_ != B.and_))||(A.or_ != B.or_))||(A.addr2 != B.addr2))) (fun a1=>?_) (fun a1=>?_)
 exact Pl 6<|ce aU true (by rw[a1];rfl)
 exact Pl 1<|L1<|dX c 8<|Pl 1<|L1<|dX b 8<|Pl 2<|ce aU (A.sub != B.sub) (by rw[a1];rfl)
 refine Pl 1<|cu 6 [75] 81 (((((((((((A.code != B.code)||(A.fail != B.fail))||(A.addr != B.addr))||(A.count != B.count))||(A.value != B.value))||(A.and_ != B.and_))||(A.or_ != B.or_))||(A.addr2 != B.addr2))||(A.sub != B.sub))||(A.status != B.status))) (fun K aW=>?_) ?_
 refine bl 75 ((((((((((A.code != B.code)||(A.fail != B.fail))||(A.addr != B.addr))||(A.count != B.count))||(A.value != B.value))||(A.and_ != B.and_))||(A.or_ != B.or_))||(A.addr2 != B.addr2))||(A.sub != B.sub))) (fun a2=>?_) (fun a2=>?_)
 exact Pl 6<|ce aW true (by rw[a2];rfl)
 exact Pl 1<|L1<|dX c 9<|Pl 1<|L1<|dX b 9<|Pl 2<|ce aW (A.status != B.status) (by rw[a2];rfl)
 refine Pl 1<|cu 6 [82] 88 ((((((((((((A.code != B.code)||(A.fail != B.fail))||(A.addr != B.addr))||(A.count != B.count))||(A.value != B.value))||(A.and_ != B.and_))||(A.or_ != B.or_))||(A.addr2 != B.addr2))||(A.sub != B.sub))||(A.status != B.status))||(A.events != B.events))) (fun K aY=>?_) ?_
 refine bl 82 (((((((((((A.code != B.code)||(A.fail != B.fail))||(A.addr != B.addr))||(A.count != B.count))||(A.value != B.value))||(A.and_ != B.and_))||(A.or_ != B.or_))||(A.addr2 != B.addr2))||(A.sub != B.sub))||(A.status != B.status))) (fun a3=>?_) (fun a3=>?_)
 exact Pl 6<|ce aY true (by rw[a3];rfl)
 exact Pl 1<|L1<|dX c 10<|Pl 1<|L1<|dX b 10<|Pl 2<|ce aY (A.events != B.events) (by rw[a3];rfl)
 refine Pl 1<|cu 6 [89] 95 (((((((((((((A.code != B.code)||(A.fail != B.fail))||(A.addr != B.addr))||(A.count != B.count))||(A.value != B.value))||(A.and_ != B.and_))||(A.or_ != B.or_))||(A.addr2 != B.addr2))||(A.sub != B.sub))||(A.status != B.status))||(A.events != B.events))||(A.messages != B.messages))) (fun K aZ=>?_) ?_
 refine bl 89 ((((((((((((A.code != B.code)||(A.fail != B.fail))||(A.addr != B.addr))||(A.count != B.count))||(A.value != B.value))||(A.and_ != B.and_))||(A.or_ != B.or_))||(A.addr2 != B.addr2))||(A.sub != B.sub))||(A.status != B.status))||(A.events != B.events))) (fun a4=>?_) (fun a4=>?_)
 exact Pl 6<|ce aZ true (by rw[a4];rfl)
 exact Pl 1<|L1<|dX c 11<|Pl 1<|L1<|dX b 11<|Pl 2<|ce aZ (A.messages != B.messages) (by rw[a4];rfl)
 refine nt<|?_
 have r:=aJ bV aC
 refine cb (((((((((((((A.code != B.code)||(A.fail != B.fail))||(A.addr != B.addr))||(A.count != B.count))||(A.value != B.value))||(A.and_ != B.and_))||(A.or_ != B.or_))||(A.addr2 != B.addr2))||(A.sub != B.sub))||(A.status != B.status))||(A.events != B.events))||(A.messages != B.messages))) (fun a5=>?_) (fun a5=>?_)
 refine aD 1<|aV<|rr (.bool false)<|?_
 have hs:decide (A=B)=false:=pC (f:=fun x y=>((((((((((((x.code != y.code)||(x.fail != y.fail))||(x.addr != y.addr))||(x.count != y.count))||(x.value != y.value))||(x.and_ != y.and_))||(x.or_ != y.or_))||(x.addr2 != y.addr2))||(x.sub != y.sub))||(x.status != y.status))||(x.events != y.events))||(x.messages != y.messages))) a5 (fun M=>by simp)
 rw[hs]
 exact⟨rfl,r⟩
 refine bo<|sq<|ak 1<|aE c 16<|Pl 1<|aE b 16<|Pl 2<|cu 6 [101] 107 (((A.mei != B.mei)||(A.kind != B.kind))) (fun K b0=>?_) ?_
 refine bl 101 ((A.mei != B.mei)) (fun s=>?_) (fun s=>?_)
 have bX:=az s
 exact Pl 6<|ce b0 true (by rw[s];rfl)
 have bX:=aA s
 exact Pl 1<|L1<|dX c 17<|Pl 1<|L1<|dX b 17<|Pl 2<|ce b0 (A.kind != B.kind) (by rw[s];rfl)
 refine Pl 1<|cu 6 [108] 114 ((((A.mei != B.mei)||(A.kind != B.kind))||(A.level != B.level))) (fun K b1=>?_) ?_
 refine bl 108 (((A.mei != B.mei)||(A.kind != B.kind))) (fun a6=>?_) (fun a6=>?_)
 exact Pl 6<|ce b1 true (by rw[a6];rfl)
 exact Pl 1<|L1<|dX c 18<|Pl 1<|L1<|dX b 18<|Pl 2<|ce b1 (A.level != B.level) (by rw[a6];rfl)
 refine Pl 1<|cu 6 [115] 121 (((((A.mei != B.mei)||(A.kind != B.kind))||(A.level != B.level))||(A.more != B.more))) (fun K b2=>?_) ?_
 refine bl 115 ((((A.mei != B.mei)||(A.kind != B.kind))||(A.level != B.level))) (fun a7=>?_) (fun a7=>?_)
 exact Pl 6<|ce b2 true (by rw[a7];rfl)
 exact Pl 1<|L1<|dX c 19<|Pl 1<|L1<|dX b 19<|Pl 2<|ce b2 (A.more != B.more) (by rw[a7];rfl)
 refine Pl 1<|cu 6 [122] 128 ((((((A.mei != B.mei)||(A.kind != B.kind))||(A.level != B.level))||(A.more != B.more))||(A.next != B.next))) (fun K b3=>?_) ?_
 refine bl 122 (((((A.mei != B.mei)||(A.kind != B.kind))||(A.level != B.level))||(A.more != B.more))) (fun a8=>?_) (fun a8=>?_)
 exact Pl 6<|ce b3 true (by rw[a8];rfl)
 exact Pl 1<|L1<|dX c 20<|Pl 1<|L1<|dX b 20<|Pl 2<|ce b3 (A.next != B.next) (by rw[a8];rfl)
 refine nt<|cb ((((((A.mei != B.mei)||(A.kind != B.kind))||(A.level != B.level))||(A.more != B.more))||(A.next != B.next))) (fun a9=>?_) (fun a9=>?_)
 refine aD 1<|aV<|rr (.bool false)<|?_
 have hs:decide (A=B)=false:=pC (f:=fun x y=>(((((x.mei != y.mei)||(x.kind != y.kind))||(x.level != y.level))||(x.more != y.more))||(x.next != y.next))) a9 (fun M=>by simp)
 rw[hs]
 exact⟨rfl,r⟩
 refine bo<|ak 1<|aE c 12<|Pl 1<|aE b 12<|?_
 refine ay<|m1 (ky (eG.old phw r) (eG.old qhw r)) fun cX aa=>Pl 1<|aM 1<|?_
 have b4:=ub aa c
 refine aE b4 13<|Pl 1<|?_
 have b5:=ub aa b
 refine aE b5 13<|?_
 have ab:=aJ r aa
 refine ay<|m1 (qy (jb.old phb ab) (jb.old qhb ab)) fun cY ac=>Pl 1<|aM 1<|?_
 have N:=ub ac b4
 refine aE N 14<|Pl 1<|?_
 have t:=ub ac b5
 refine aE t 14<|?_
 have ad:=aJ ab ac
 refine ay<|m1 (jL (aX.old phd ad) (aX.old qhd ad)) fun bY n=>ah 1<|sq<|ak 3<|cu 3 [146] 149 (((!(decide (A.words=B.words)))||(!(decide (A.bits=B.bits))))) (fun K b6=>?_) ?_
 refine bl 146 ((!(decide (A.words=B.words)))) (fun u=>?_) (fun u=>?_)
 have af:(decide (A.words=B.words))=false:=by simpa using u
 have bZ:=of_decide_eq_false af
 exact Pl 3<|ce b6 true (by rw[u];rfl)
 have af:(decide (A.words=B.words))=true:=by simpa using u
 have bZ:=of_decide_eq_true af
 exact Pl 3<|ce b6 (!(decide (A.bits=B.bits))) (by rw[u];rfl)
 refine Pl 1<|cu 3 [150] 153 ((((!(decide (A.words=B.words)))||(!(decide (A.bits=B.bits))))||(!(decide (A.data=B.data))))) (fun K b7=>?_) ?_
 refine bl 150 (((!(decide (A.words=B.words)))||(!(decide (A.bits=B.bits))))) (fun v=>?_) (fun v=>?_)
 exact Pl 3<|ce b7 true (by rw[v];rfl)
 have c0:=(bT v).1
 have c2:=(bT v).2
 have c3:(decide (A.words=B.words))=true:=by simpa using c0
 have q74anp:=of_decide_eq_true c3
 have c4:(decide (A.bits=B.bits))=true:=by simpa using c2
 have q74bnp:=of_decide_eq_true c4
 exact Pl 3<|ce b7 (!(decide (A.data=B.data))) (by rw[v];rfl)
 refine Pl 1<|cu 8 [154] 162 (((((!(decide (A.words=B.words)))||(!(decide (A.bits=B.bits))))||(!(decide (A.data=B.data))))||(((A.recs.length:Nat) : Int)!=((B.recs.length:Nat) : Int)))) (fun K b8=>?_) ?_
 refine bl 154 ((((!(decide (A.words=B.words)))||(!(decide (A.bits=B.bits))))||(!(decide (A.data=B.data))))) (fun z=>?_) (fun z=>?_)
 exact Pl 8<|ce b8 true (by rw[z];rfl)
 have b9:=(bT z).1
 have c5:=(bT z).2
 have c6:=(bT b9).1
 have c7:=(bT b9).2
 have q76aan:(decide (A.words=B.words))=true:=by simpa using c6
 have q76aanp:=of_decide_eq_true q76aan
 have q76abn:(decide (A.bits=B.bits))=true:=by simpa using c7
 have q76abnp:=of_decide_eq_true q76abn
 have c8:(decide (A.data=B.data))=true:=by simpa using c5
 have q76bnp:=of_decide_eq_true c8
 refine Pl 1<|?_
 refine L1<|dX (ub n N) 15<|Pl 2<|?_
 exact L1<|dX (ub n t) 15<|Pl 3<|ce b8 (((A.recs.length:Nat) : Int)!=((B.recs.length:Nat) : Int)) (by rw[z];rfl)
 refine Pl 1<|cu 8 [163] 171 ((((((!(decide (A.words=B.words)))||(!(decide (A.bits=B.bits))))||(!(decide (A.data=B.data))))||(((A.recs.length:Nat) : Int)!=((B.recs.length:Nat) : Int)))||(((A.objects.length:Nat) : Int)!=((B.objects.length:Nat) : Int)))) (fun K ba=>?_) ?_
 refine bl 163 (((((!(decide (A.words=B.words)))||(!(decide (A.bits=B.bits))))||(!(decide (A.data=B.data))))||(((A.recs.length:Nat) : Int)!=((B.recs.length:Nat) : Int)))) (fun C=>?_) (fun C=>?_)
 exact Pl 8<|ce ba true (by rw[C];rfl)
 have bb:=(bT C).1
 have c9:=(bT C).2
 have bc:=(bT bb).1
 have ca:=(bT bb).2
 have q80aaa:=(bT bc).1
 have q80aab:=(bT bc).2
 have q80aaan:(decide (A.words=B.words))=true:=by simpa using q80aaa
 have q80aaanp:=of_decide_eq_true q80aaan
 have q80aabn:(decide (A.bits=B.bits))=true:=by simpa using q80aab
 have q80aabnp:=of_decide_eq_true q80aabn
 have q80abn:(decide (A.data=B.data))=true:=by simpa using ca
 have q80abnp:=of_decide_eq_true q80abn
 have cZ:=aA c9
 refine Pl 1<|?_
 refine L1<|dX (ub n N) 21<|Pl 2<|?_
 exact L1<|dX (ub n t) 21<|Pl 3<|ce ba (((A.objects.length:Nat) : Int)!=((B.objects.length:Nat) : Int)) (by rw[C];rfl)
 refine nt<|?_
 have bd:=aJ ad n
 refine cb ((((((!(decide (A.words=B.words)))||(!(decide (A.bits=B.bits))))||(!(decide (A.data=B.data))))||(((A.recs.length:Nat) : Int)!=((B.recs.length:Nat) : Int)))||(((A.objects.length:Nat) : Int)!=((B.objects.length:Nat) : Int)))) (fun D=>?_) (fun D=>?_)
 refine aD 1<|aV<|rr (.bool false)<|?_
 have hs:decide (A=B)=false:=pC (f:=fun x y=>(((((!(decide (x.words=y.words)))||(!(decide (x.bits=y.bits))))||(!(decide (x.data=y.data))))||(((x.recs.length:Nat) : Int)!=((y.recs.length:Nat) : Int)))||(((x.objects.length:Nat) : Int)!=((y.objects.length:Nat) : Int)))) D (fun M=>by simp)
 rw[hs]
 exact⟨rfl,bd⟩
 have be:=(bT D).1
 have cd:=(bT D).2
 have bf:=(bT be).1
 have cf:=(bT be).2
 have q85aaa:=(bT bf).1
 have q85aab:=(bT bf).2
 have q85aaaa:=(bT q85aaa).1
 have q85aaab:=(bT q85aaa).2
 have q85aaaan:(decide (A.words=B.words))=true:=by simpa using q85aaaa
 have q85aaaanp:=of_decide_eq_true q85aaaan
 have q85aaabn:(decide (A.bits=B.bits))=true:=by simpa using q85aaab
 have q85aaabnp:=of_decide_eq_true q85aaabn
 have q85aabn:(decide (A.data=B.data))=true:=by simpa using q85aab
 have q85aabnp:=of_decide_eq_true q85aabn
 have q85abp:=aA cf
 have d0:=aA cd
 refine bo<|sq<|aD 1<|bk<|?_
 refine je (fun x=>[(2,vP i 0),(3,vP l 0),(8,vI ((x:Nat) : Int))]) (fun(x:Nat) w'=>aH [] bY w'∧(A.recs.take x=B.recs.take x)∧(x≤A.recs.length)) (fun x=>A.recs.length-x) 0 ⟨aH.refl _ _,(by(try dsimp only);simp),(by(try dsimp only);omega)⟩ ?_
 rintro j cg ⟨O,ch,ci⟩
 refine ji [(2,vP i 0),(3,vP l 0),(8,vI ((j:Nat) : Int))] ?_
 have bg:A.recs.take j=B.recs.take j:=ch
 have d1:j≤A.recs.length:=ci
 refine sq<|ak 2<|?_
 have P:=aJ n O
 have ag:=ub P N
 refine aE ag 15<|ah 2<|?_
 have Q:=aJ bd O
 refine cb ((decide (((j:Nat) : Int)<((A.recs.length:Nat) : Int)))) (fun ai=>?_) (fun ai=>?_)
 have cj:=of_decide_eq_true ai
 refine bo<|sq<|bk<|ak 1<|aE ag 15<|Pl 1<|nD (oA.elt phr j (by omega)) fun d2 d3 d4 d5 d6 bh bi ck cl cm d7 cn=>L0<|wn 4 A.recs.length j ck (by omega)<|?_
 refine L0<|Dx [vW ((A.recs.getD j ⟨0,0,0,[]⟩).file),vW ((A.recs.getD j ⟨0,0,0,[]⟩).record),vW ((A.recs.getD j ⟨0,0,0,[]⟩).count),.slice bh ((A.recs.getD j ⟨0,0,0,[]⟩).words.length) bi] (ub Q cl) cn<|aK #[vW 0,vW 0,vW 0,nS] fun d8 d9 aj co al=>aG co #[vW ((A.recs.getD j ⟨0,0,0,[]⟩).file),vW ((A.recs.getD j ⟨0,0,0,[]⟩).record),vW ((A.recs.getD j ⟨0,0,0,[]⟩).count),.slice bh ((A.recs.getD j ⟨0,0,0,[]⟩).words.length) bi] fun db cp am=>aM 1<|?_
 refine aE (ub (u1 (aJ P al) am (ni P.size aj)) t) 15<|Pl 1<|nD (oA.elt qhr j (by omega)) fun dc dd de df dg bj bm cq cr cs dh ct=>L0<|wn 4 B.recs.length j cq (by omega)<|?_
 have an:=u1 (aJ Q al) am (ni Q.size aj)
 refine L0<|Dx [vW ((B.recs.getD j ⟨0,0,0,[]⟩).file),vW ((B.recs.getD j ⟨0,0,0,[]⟩).record),vW ((B.recs.getD j ⟨0,0,0,[]⟩).count),.slice bj ((B.recs.getD j ⟨0,0,0,[]⟩).words.length) bm] (ub an cr) ct<|aK #[vW 0,vW 0,vW 0,nS] fun di dk ao cv ap=>aG cv #[vW ((B.recs.getD j ⟨0,0,0,[]⟩).file),vW ((B.recs.getD j ⟨0,0,0,[]⟩).record),vW ((B.recs.getD j ⟨0,0,0,[]⟩).count),.slice bj ((B.recs.getD j ⟨0,0,0,[]⟩).words.length) bm] fun dl R aq=>aM 1<|?_
 have S:=ub (u1 ap aq (nr ao)) cp
 refine aE S 3<|Pl 1<|aE R 3<|?_
 have ar:=u1 (aJ an ap) aq (ni an.size ao)
 refine ay<|m1 (ky (eG.old cm ar) (eG.old cs ar)) fun dm h=>Pl 1<|aM 3<|cu 6 [196] 202 (((!(decide ((A.recs.getD j ⟨0,0,0,[]⟩).words=(B.recs.getD j ⟨0,0,0,[]⟩).words)))||(((A.recs.getD j ⟨0,0,0,[]⟩).file)!=((B.recs.getD j ⟨0,0,0,[]⟩).file)))) (fun K bs=>?_) ?_
 refine bl 196 ((!(decide ((A.recs.getD j ⟨0,0,0,[]⟩).words=(B.recs.getD j ⟨0,0,0,[]⟩).words)))) (fun E=>?_) (fun E=>?_)
 have au:(decide ((A.recs.getD j ⟨0,0,0,[]⟩).words=(B.recs.getD j ⟨0,0,0,[]⟩).words))=false:=by simpa using E
 have cw:=of_decide_eq_false au
 exact Pl 6<|ce bs true (by rw[E];rfl)
 have au:(decide ((A.recs.getD j ⟨0,0,0,[]⟩).words=(B.recs.getD j ⟨0,0,0,[]⟩).words))=true:=by simpa using E
 have cw:=of_decide_eq_true au
 refine Pl 1<|?_
 refine L1<|dX (ub h S) 0<|Pl 1<|?_
 exact L1<|dX (ub h R) 0<|Pl 2<|ce bs (((A.recs.getD j ⟨0,0,0,[]⟩).file)!=((B.recs.getD j ⟨0,0,0,[]⟩).file)) (by rw[E];rfl)
 refine Pl 1<|cu 6 [203] 209 ((((!(decide ((A.recs.getD j ⟨0,0,0,[]⟩).words=(B.recs.getD j ⟨0,0,0,[]⟩).words)))||(((A.recs.getD j ⟨0,0,0,[]⟩).file)!=((B.recs.getD j ⟨0,0,0,[]⟩).file)))||(((A.recs.getD j ⟨0,0,0,[]⟩).record)!=((B.recs.getD j ⟨0,0,0,[]⟩).record)))) (fun K bt=>?_) ?_
 refine bl 203 (((!(decide ((A.recs.getD j ⟨0,0,0,[]⟩).words=(B.recs.getD j ⟨0,0,0,[]⟩).words)))||(((A.recs.getD j ⟨0,0,0,[]⟩).file)!=((B.recs.getD j ⟨0,0,0,[]⟩).file)))) (fun F=>?_) (fun F=>?_)
 exact Pl 6<|ce bt true (by rw[F];rfl)
 have cx:=(bT F).1
 have cy:=(bT F).2
 have cz:(decide ((A.recs.getD j ⟨0,0,0,[]⟩).words=(B.recs.getD j ⟨0,0,0,[]⟩).words))=true:=by simpa using cx
 have q156anp:=of_decide_eq_true cz
 have dn:=aA cy
 refine Pl 1<|?_
 refine L1<|dX (ub h S) 1<|Pl 1<|?_
 exact L1<|dX (ub h R) 1<|Pl 2<|ce bt (((A.recs.getD j ⟨0,0,0,[]⟩).record)!=((B.recs.getD j ⟨0,0,0,[]⟩).record)) (by rw[F];rfl)
 refine Pl 1<|cu 6 [210] 216 (((((!(decide ((A.recs.getD j ⟨0,0,0,[]⟩).words=(B.recs.getD j ⟨0,0,0,[]⟩).words)))||(((A.recs.getD j ⟨0,0,0,[]⟩).file)!=((B.recs.getD j ⟨0,0,0,[]⟩).file)))||(((A.recs.getD j ⟨0,0,0,[]⟩).record)!=((B.recs.getD j ⟨0,0,0,[]⟩).record)))||(((A.recs.getD j ⟨0,0,0,[]⟩).count)!=((B.recs.getD j ⟨0,0,0,[]⟩).count)))) (fun K bu=>?_) ?_
 refine bl 210 ((((!(decide ((A.recs.getD j ⟨0,0,0,[]⟩).words=(B.recs.getD j ⟨0,0,0,[]⟩).words)))||(((A.recs.getD j ⟨0,0,0,[]⟩).file)!=((B.recs.getD j ⟨0,0,0,[]⟩).file)))||(((A.recs.getD j ⟨0,0,0,[]⟩).record)!=((B.recs.getD j ⟨0,0,0,[]⟩).record)))) (fun G=>?_) (fun G=>?_)
 exact Pl 6<|ce bu true (by rw[G];rfl)
 have bv:=(bT G).1
 have cA:=(bT G).2
 have cB:=(bT bv).1
 have cC:=(bT bv).2
 have q160aan:(decide ((A.recs.getD j ⟨0,0,0,[]⟩).words=(B.recs.getD j ⟨0,0,0,[]⟩).words))=true:=by simpa using cB
 have q160aanp:=of_decide_eq_true q160aan
 have q160abp:=aA cC
 have dp:=aA cA
 refine Pl 1<|?_
 refine L1<|dX (ub h S) 2<|Pl 1<|?_
 exact L1<|dX (ub h R) 2<|Pl 2<|ce bu (((A.recs.getD j ⟨0,0,0,[]⟩).count)!=((B.recs.getD j ⟨0,0,0,[]⟩).count)) (by rw[G];rfl)
 refine nt<|?_
 refine cb (((((!(decide ((A.recs.getD j ⟨0,0,0,[]⟩).words=(B.recs.getD j ⟨0,0,0,[]⟩).words)))||(((A.recs.getD j ⟨0,0,0,[]⟩).file)!=((B.recs.getD j ⟨0,0,0,[]⟩).file)))||(((A.recs.getD j ⟨0,0,0,[]⟩).record)!=((B.recs.getD j ⟨0,0,0,[]⟩).record)))||(((A.recs.getD j ⟨0,0,0,[]⟩).count)!=((B.recs.getD j ⟨0,0,0,[]⟩).count)))) (fun H=>?_) (fun H=>?_)
 refine aD 1<|rt<|br<|tr<|tr<|br<|tr<|rr (.bool false)<|?_
 have hs:decide (A=B)=false:=pC (f:=fun x y=>((((!(decide ((x.recs.getD j ⟨0,0,0,[]⟩).words=(y.recs.getD j ⟨0,0,0,[]⟩).words)))||(((x.recs.getD j ⟨0,0,0,[]⟩).file)!=((y.recs.getD j ⟨0,0,0,[]⟩).file)))||(((x.recs.getD j ⟨0,0,0,[]⟩).record)!=((y.recs.getD j ⟨0,0,0,[]⟩).record)))||(((x.recs.getD j ⟨0,0,0,[]⟩).count)!=((y.recs.getD j ⟨0,0,0,[]⟩).count)))) H (fun M=>by simp)
 rw[hs]
 exact⟨rfl,(aJ ar h)⟩
 have bw:=(bT H).1
 have cD:=(bT H).2
 have bz:=(bT bw).1
 have cE:=(bT bw).2
 have q165aaa:=(bT bz).1
 have q165aab:=(bT bz).2
 have q165aaan:(decide ((A.recs.getD j ⟨0,0,0,[]⟩).words=(B.recs.getD j ⟨0,0,0,[]⟩).words))=true:=by simpa using q165aaa
 have q165aaanp:=of_decide_eq_true q165aaan
 have q165aabp:=aA q165aab
 have q165abp:=aA cE
 have dq:=aA cD
 refine sk<|bn<|tn<|go<|Pl 1<|bq (((j:Nat) : Int)+1)<|Pl 1<|nl<|?_
 have bA:=u1 (aJ O al) am (ni O.size aj)
 exact gL (j+1) ⟨(aJ (u1 (aJ bA ap) aq (ni bA.size ao)) h),(uP (d:=⟨0,0,0,[]⟩) bg (by omega) (by omega) (CM H)),(by(try dsimp only);omega)⟩ (by omega)
 have cj:=of_decide_eq_false ai
 refine xt<|tx<|tx<|bx<|tn<|sq<|aD 1<|bk<|?_
 refine je (fun x=>[(2,vP i 0),(3,vP l 0),(12,vI ((x:Nat) : Int))]) (fun(x:Nat) w'=>aH [] cg w'∧(A.objects.take x=B.objects.take x)∧(x≤A.objects.length)) (fun x=>A.objects.length-x) 0 ⟨aH.refl _ _,(by(try dsimp only);simp),(by(try dsimp only);omega)⟩ ?_
 rintro k dr ⟨T,cF,cG⟩
 refine ji [(2,vP i 0),(3,vP l 0),(12,vI ((k:Nat) : Int))] ?_
 have bB:A.objects.take k=B.objects.take k:=cF
 have ds:k≤A.objects.length:=cG
 refine sq<|ak 2<|?_
 have bC:=ub T ag
 refine aE bC 21<|ah 2<|?_
 have bD:=aJ Q T
 refine cb ((decide (((k:Nat) : Int)<((A.objects.length:Nat) : Int)))) (fun av=>?_) (fun av=>?_)
 have cH:=of_decide_eq_true av
 refine bo<|sq<|bk<|sq<|nD (qA.elt pho k (by omega)) fun bE bF dt du dv cI cJ bG cK cL dw aw=>nD (qA.elt qho k (by omega)) fun bH bI dx dy dz cM cN bJ cO cP dA ax=>Rg 14 (fun w'=>w'.cell? ⟨i,21,none⟩=some (.slice po A.objects.length pko)∧w'.cell? ⟨bE,bF+k*2+1,none⟩=some (.slice cI ((A.objects.getD k ⟨0,[]⟩).value.length) cJ)∧w'.cell? ⟨l,21,none⟩=some (.slice qo B.objects.length qko)∧w'.cell? ⟨bH,bI+k*2+1,none⟩=some (.slice cM ((B.objects.getD k ⟨0,[]⟩).value.length) cN)) fun dB U=>?_
 have bK:=ub U bC
 have I:=aJ bD U
 have bL:=ub I cK
 have bM:=ub (aJ (aJ P T) U) t
 have bN:=ub I cO
 refine bp ⟨(ae bK rfl),(iw bL aw 1 rfl (by decide)),(ae bM rfl),(iw bN ax 1 rfl (by decide))⟩ fun g=>Rt 0 g<|Rl 1 g (fun _ hs=>hs.1)<|Rt 2 g<|Ri 3 g 2 A.objects.length k ((k:Nat) : Int) rfl bG (by omega)<|Rt 4 g<|Rl 5 g (fun _ hs=>hs.2.1)<|Rt 6 g<|Rl 7 g (fun _ hs=>hs.2.2.1)<|Rt 8 g<|Ri 9 g 2 B.objects.length k ((k:Nat) : Int) rfl bJ (by omega)<|Rt 10 g<|Rl 11 g (fun _ hs=>hs.2.2.2)<|?_
 refine R0 12 rfl<|Oc<|m1 (jL (aX.old cL I) (aX.old cP I)) fun dC o=>?_
 have bO:=ub o bK
 have bP:=ub o bL
 have bQ:=ub o bM
 have bR:=ub o bN
 refine bp ⟨(ae bO rfl),(iw bP aw 1 rfl (by decide)),(ae bQ rfl),(iw bR ax 1 rfl (by decide))⟩ fun cQ=>Rt 13 cQ<|re<|tn<|sq<|Rg 17 (fun w'=>w'.cell? ⟨i,21,none⟩=some (.slice po A.objects.length pko)∧w'.cell? ⟨bE,bF+k*2+0,none⟩=some (vB ((A.objects.getD k ⟨0,[]⟩).id))∧w'.cell? ⟨l,21,none⟩=some (.slice qo B.objects.length qko)∧w'.cell? ⟨bH,bI+k*2+0,none⟩=some (vB ((B.objects.getD k ⟨0,[]⟩).id))) fun dD p=>?_
 refine bp ⟨(ae (ub p bO) rfl),(iw (ub p bP) aw 0 rfl (by decide)),(ae (ub p bQ) rfl),(iw (ub p bR) ax 0 rfl (by decide))⟩ fun a=>Rt 0 a<|Rt 1 a<|Rt 2 a<|?_
 have bS:=aJ (aJ I o) p
 refine vp 239 ((!(decide ((A.objects.getD k ⟨0,[]⟩).value=(B.objects.getD k ⟨0,[]⟩).value)))) (fun J=>?_) (fun J=>?_)
 have aB:(decide ((A.objects.getD k ⟨0,[]⟩).value=(B.objects.getD k ⟨0,[]⟩).value))=false:=by simpa using J
 have cR:=of_decide_eq_false aB
 refine Ro 3 a<|Ro 4 a<|Ro 5 a<|Ro 6 a<|Ro 7 a<|Ro 8 a<|Ro 9 a<|Ro 10 a<|Ro 11 a<|Ro 12 a<|Ro 13 a<|Ro 14 a<|Ro 15 a<|Rt 16 a<|?_
 refine re<|tn<|c1<|aD 1<|rt<|br<|tr<|tr<|br<|tr<|?_
 refine rr (.bool false)<|?_
 have hs:decide (A=B)=false:=pC (f:=fun x y=>(!(decide ((x.objects.getD k ⟨0,[]⟩).value=(y.objects.getD k ⟨0,[]⟩).value)))) J (fun M=>by simp)
 rw[hs]
 exact⟨rfl,bS⟩
 have aB:(decide ((A.objects.getD k ⟨0,[]⟩).value=(B.objects.getD k ⟨0,[]⟩).value))=true:=by simpa using J
 have cR:=of_decide_eq_true aB
 refine Rt 3 a<|Rl 4 a (fun _ hs=>hs.1)<|Rt 5 a<|Ri 6 a 2 A.objects.length k ((k:Nat) : Int) rfl bG (by omega)<|Rt 7 a<|Rl 8 a (fun _ hs=>hs.2.1)<|Rt 9 a<|Rl 10 a (fun _ hs=>hs.2.2.1)<|Rt 11 a<|Ri 12 a 2 B.objects.length k ((k:Nat) : Int) rfl bJ (by omega)<|Rt 13 a<|Rl 14 a (fun _ hs=>hs.2.2.2)<|Rt 15 a<|Rt 16 a<|?_
 refine re<|tn<|cb ((((A.objects.getD k ⟨0,[]⟩).id)!=((B.objects.getD k ⟨0,[]⟩).id))) (fun L=>?_) (fun L=>?_)
 have cS:=az L
 refine aD 1<|rt<|br<|tr<|tr<|br<|tr<|rr (.bool false)<|?_
 have hs:decide (A=B)=false:=pC (f:=fun x y=>(((x.objects.getD k ⟨0,[]⟩).id)!=((y.objects.getD k ⟨0,[]⟩).id))) L (fun M=>by simp)
 rw[hs]
 exact⟨rfl,bS⟩
 have cS:=aA L
 refine sk<|bn<|tn<|go<|Pl 1<|bq (((k:Nat) : Int)+1)<|Pl 1<|nl<|?_
 exact gL (k+1) ⟨(aJ (aJ (aJ T U) o) p),(uP (d:=⟨0,[]⟩) bB (by omega) (by omega) (BZ J L)),(by(try dsimp only);omega)⟩ (by omega)
 have cH:=of_decide_eq_false av
 refine xt<|tx<|tx<|bx<|tn<|aD 1<|rt<|rr (.bool true)<|?_
 have hs:decide (A=B)=true:=decide_eq_true (Am a5 a9 D (fun e=>iW bg (by omega) e) (fun e=>iW bB (by omega) e))
 rw[hs]
 exact⟨rfl,bD⟩
end Go.Proofs.YtdkhbcefkfgbdaaGreat
namespace Go.Proofs.YtdkhbcefkfgbdaaGreat
def N4 (C:ai) : Prop:=C.e≠4
theorem N4.need{b:Bool}  (hx:x≠4)(h:N4 C) : N4 (C.need b x):=by
  unfold N4 ai.need at *
  split
  · exact hx
  · exact h
theorem N4.bytesC(h:N4 C) : N4 (C.bytesC n):=by
  unfold ai.bytesC
  split
  · exact N4.need (by decide) h
  · exact h
theorem N4.wordsC(h:N4 C) : N4 (C.wordsC n):=by
  unfold ai.wordsC
  split<;>exact N4.bytesC h
theorem N4.recs(ho:∀ s C,N4 C→N4 (one s C).2.1) : ∀ (n:Nat)(s:Int)(C:ai)(L:List dt),N4 C→N4 (aZ one n s C L).1
  | 0,_,_,_,h=>h
  | n+1,s,C,L,h=>by
    unfold aZ
    split
    · split
      · exact ho s C h
      · exact N4.recs ho n _ _ _ (ho s C h)
    · exact h
theorem N4.objs:∀ (n:Nat)(C:ai)(L:List Obj),N4 C→N4 (eR n C L).1
  | 0,_,_,h=>h
  | n+1,C,L,h=>N4.objs n _ _ (N4.bytesC (N4.bytesC (N4.bytesC h)))
theorem tX(h:x≠4) : bD x≠4:=by
  unfold bD
  split
  · decide
  · exact h
theorem zU(hC:N4 C)(h:aO dir c C=some r) : N4 r.1:=by
  unfold aO at h
  repeat' split at h
  all_goals first | cases h | skip
  all_goals simp only[eL,eu,ed,iP,bY,kj,fX,eh,sV,iE]
  all_goals repeat' first | with_reducible exact hC | with_reducible apply N4.bytesC | with_reducible apply N4.wordsC | (with_reducible refine N4.need (by decide) ?_)
theorem Ay(hC:N4 C)(h:aW dir c C=some r) : N4 r.1:=by
  unfold aW at h
  repeat' split at h
  all_goals first | cases h | skip
  all_goals simp only[cz,cO,ei,dr,dh,dv,dx,mp,jj,iU,bN,m7,di,gK,rS,AW,uQ]
  all_goals repeat' first | with_reducible exact hC | with_reducible apply N4.bytesC | with_reducible apply N4.wordsC | (with_reducible refine N4.need (by decide) ?_)
theorem B7(hC:N4 C)(h:bf dir c C=some r) : N4 r.1:=by
  unfold bf eE cI at h
  repeat' split at h
  all_goals first | cases h | skip
  all_goals simp only[fu,kU,fs,gI,dZ]
  all_goals repeat' first | with_reducible exact hC | with_reducible apply N4.bytesC | with_reducible apply N4.wordsC | (with_reducible refine N4.need (by decide) ?_)
theorem BU(s:Int)(C:ai)(h:N4 C) : N4 (dm s C).2.1:=by
  simp only[dm,ff,dY,jf,jP,o0]
  repeat' first | with_reducible exact h | with_reducible apply N4.bytesC | with_reducible apply N4.wordsC | (with_reducible refine N4.need (by decide) ?_)
theorem yO(s:Int)(C:ai)(h:N4 C) : N4 (bX s C).2.1:=by
  simp only[bX,fx,iv,fj]
  repeat' first | with_reducible exact h | with_reducible apply N4.bytesC | with_reducible apply N4.wordsC | (with_reducible refine N4.need (by decide) ?_)
theorem AX(s:Int)(C:ai)(h:N4 C) : N4 (du s C).2.1:=by
  simp only[du,ke,oo,dY,jf,jP,o0]
  repeat' first | with_reducible exact h | with_reducible apply N4.bytesC | with_reducible apply N4.wordsC | (with_reducible refine N4.need (by decide) ?_)
theorem lb(ho:∀ s C,N4 C→N4 (one s C).2.1)(may:Int→Bool)(c:Int)  (hC:N4 C) : N4 (dw one may c C).1:=by
  unfold dw l8
  refine N4.need (tX (N4.recs ho _ _ _ _ ?_)) (N4.bytesC (N4.need (by decide) (N4.bytesC hC)))
  show(0:Int)≠4
  decide
theorem xY(hC:N4 C)(h:bh dir c C=some r) : N4 r.1:=by
  unfold bh at h
  repeat' split at h
  all_goals first | cases h | skip
  · exact lb BU _ _ hC
  · exact lb yO _ _ hC
  · exact lb AX _ _ hC
theorem N4.endC(h:N4 C) : N4 C.endC:=by
  unfold ai.endC
  exact N4.need (by decide) h
theorem yQ{form:Int→Int→ai→Option (ai × aT)}(hg:∀ {dir c:Int}{C:ai}{r:ai × aT},N4 C→form dir c C=some r→N4 r.1)   (hd:dir=0∨dir=1)  (hf:form dir c ⟨b,false,0⟩=some r) :
    (aj form dir c b).2≠4:=by
  unfold aj
  rw[if_pos hd,hf]
  have h0:N4 ⟨b,false,0⟩:=by show(0:Int)≠4;decide
  have g1:=hg h0 hf
  show(bt r.2 r.1).2≠4
  unfold bt
  split
  · exact(show ¬ (0:Int)=4 from by decide)
  · exact N4.endC g1
theorem nk{form:Int→Int→ai→Option (ai × aT)}   (hd:dir=0∨dir=1)(hf:form dir c ⟨b,false,0⟩=none) : aj form dir c b=(aT.zero,4):=by
  unfold aj
  rw[if_pos hd,hf]
def gf (dir:Int)(b:List Int) : aT × Int :=
  if (aj aO dir (b.getD 0 0) (b.drop 1)).2==4 then
    if (aj aW dir (b.getD 0 0) (b.drop 1)).2==4 then
      if (aj bf dir (b.getD 0 0) (b.drop 1)).2==4 then
        if (aj bh dir (b.getD 0 0) (b.drop 1)).2==4 then aj bP dir (b.getD 0 0) (b.drop 1)
        else aj bh dir (b.getD 0 0) (b.drop 1)
      else aj bf dir (b.getD 0 0) (b.drop 1)
    else aj aW dir (b.getD 0 0) (b.drop 1)
  else aj aO dir (b.getD 0 0) (b.drop 1)
theorem vS(hd:dir=0∨dir=1) : gf dir b=ic (ki (b.getD 0 0)) dir b:=by
  have no:∀ (form:Int→Int→ai→Option (ai × aT)),form dir (b.getD 0 0) ⟨b.drop 1,false,0⟩=none→((aj form dir (b.getD 0 0) (b.drop 1)).2==4)=true:=fun f h=>by rw[nk hd h];rfl
  have ye:∀ (form:Int→Int→ai→Option (ai × aT)),(∀ {dir c:Int} {C:ai} {r:ai × aT},N4 C→form dir c C=some r→N4 r.1)→(form dir (b.getD 0 0) ⟨b.drop 1,false,0⟩).isSome=true→¬ ((aj form dir (b.getD 0 0) (b.drop 1)).2==4)=true:=fun form hg h=>by
    obtain⟨r,hr⟩:=Option.isSome_iff_exists.1 h
    have k:=yQ (form:=form) (c:=b.getD 0 0) (fun hC h=>hg hC h) hd hr
    rw[beq_iff_eq]
    exact k
  unfold gf
  rcases iC (b.getD 0 0) with⟨hk,hf⟩|⟨hk,hf⟩|⟨hk,hf⟩|⟨hk,hf⟩|⟨hk,hf⟩|⟨hk,hf⟩<;>rw[hf]
  · rw[if_neg (ye aO (fun hC h=>zU hC h) (by rcases hd with rfl | rfl<;>rcases hk with h | h | h | h<;>rw[h]<;>rfl))]
    rfl
  · rw[if_pos (no aO (by rcases hk with h | h | h | h | h | h | h<;>rw[h]<;>rfl)),if_neg (ye aW (fun hC h=>Ay hC h) (by rcases hd with rfl | rfl<;>rcases hk with h | h | h | h | h | h | h<;>rw[h]<;>rfl))]
    rfl
  · rw[if_pos (no aO (by rcases hk with h | h | h | h | h<;>rw[h]<;>rfl)),if_pos (no aW (by rcases hk with h | h | h | h | h<;>rw[h]<;>rfl)),if_neg (ye bf (fun hC h=>B7 hC h) (by rcases hd with rfl | rfl<;>rcases hk with h | h | h | h | h<;>rw[h]<;>rfl))]
    rfl
  · rw[if_pos (no aO (by rcases hk with h | h<;>rw[h]<;>rfl)),if_pos (no aW (by rcases hk with h | h<;>rw[h]<;>rfl)),if_pos (no bf (by rcases hk with h | h<;>rw[h]<;>rfl)),if_neg (ye bh (fun hC h=>xY hC h) (by rcases hd with rfl | rfl<;>rcases hk with h | h<;>rw[h]<;>rfl))]
    rfl
  · rw[if_pos (no aO (by rw[hk]<;>rfl)),if_pos (no aW (by rw[hk]<;>rfl)),if_pos (no bf (by rw[hk]<;>rfl)),if_pos (no bh (by rw[hk]<;>rfl))]
    rfl
  · have no0:∀ (form:Int→Int→ai→Option (ai × aT)),(∀ C,form dir (b.getD 0 0) C=none)→((aj form dir (b.getD 0 0) (b.drop 1)).2==4)=true:=fun f h=>no f (h _)
    have ne:∀ k:Int,¬ b.getD 0 0=k→(b.getD 0 0==k)=false:=fun k h=>by simpa using h
    obtain⟨z1,z2,z5,a,z3,z4,z6,d,e,g,i,z7,z8,j,l,m,n,o,p⟩:=hk
    rw[if_pos (no0 aO fun C=>by unfold aO;simp only[ne _ z1,ne _ z2,ne _ z5,ne _ a,Bool.or_false,Bool.false_eq_true,if_false]),if_pos (no0 aW fun C=>by unfold aW;simp only[ne _ z3,ne _ z4,ne _ z6,ne _ d,ne _ e,ne _ g,ne _ i,Bool.or_false,Bool.false_eq_true,if_false]),if_pos (no0 bf fun C=>by unfold bf;simp only[ne _ z7,ne _ z8,ne _ j,ne _ l,ne _ m,Bool.or_false,Bool.false_eq_true,if_false]),if_pos (no0 bh fun C=>by unfold bh;simp only[ne _ n,ne _ o,Bool.or_false,Bool.false_eq_true,if_false])]
    exact nk hd (by unfold bP;rw[if_pos (show(b.getD 0 0 != 43)=true from by rw[bne_iff_ne];exact p)])
def iu (dir:Int)(b:List Int) : aT × Int :=
  if dir != 0&&dir != 1 then (aT.zero,1)
  else if (b.length:Int)==0 then (aT.zero,2)
  else if decide (253<(b.length:Int)) then (aT.zero,3)
  else if decide (128≤b.getD 0 0)&&dir==1 then fg b
  else gf dir b
theorem gi(dir:Int)(b:List Int) : iu dir b=cw dir b:=by
  unfold iu cw
  split
  · rfl
  · rename_i hh
    have hd:dir=0∨dir=1:=by simp only[Bool.and_eq_true,bne_iff_ne,ne_eq] at hh;omega
    rw[vS hd]
open Go.RowKit
theorem xe{a b:Nat}(h:2*k+1<xs.length)(ha:a=2*k)(hb:b=2*k+1)(hr:∀ x,x∈xs→0≤x∧x<256) : dG (xs.drop (2*k))=[(((256*xs.getD a 0)%65536)+xs.getD b 0)%65536]++dG (xs.drop (2*(k+1))):=by
  subst ha hb
  rw[List.drop_eq_getElem_cons (show 2*k<xs.length by omega),List.drop_eq_getElem_cons h]
  have h1:=hr _ (List.getElem_mem (show 2*k<xs.length by omega))
  have h2:=hr _ (List.getElem_mem h)
  have e1:xs.getD (2*k) 0=xs[2*k]:=by rw[List.getD_eq_getElem?_getD,List.getElem?_eq_getElem (by omega)];rfl
  have e2:xs.getD (2*k+1) 0=xs[2*k+1]:=by rw[List.getD_eq_getElem?_getD,List.getElem?_eq_getElem h];rfl
  rw[e1,e2]
  show(xs[2*k]*256+xs[2*k+1]) :: dG (xs.drop (2*k+1+1))=_
  rw[show 2*k+1+1=2*(k+1) by omega,show((256*xs[2*k])%65536+xs[2*k+1])%65536=xs[2*k]*256+xs[2*k+1] by omega]
  rfl
theorem wi{L:List Int}  (h:L++dG (xs.drop (2*k))=dG xs)(h1:¬ 2*k+1<xs.length)(h2:xs.length%2=0) : L=cD xs:=by
  have hd:xs.drop (2*k)=[]:=List.drop_eq_nil_of_le (by omega)
  rw[hd] at h
  unfold cD
  rw[if_pos h2,← h]
  simp[dG]
theorem Da(h:aX m w (.slice A xs.length cp) xs)(hn:xs.length≤1048576) : Calls Tryz.prog 224 #[.slice A xs.length cp] w (yt xs w):=by
 have hr:=aX.range h
 refine en 33 Tryz.func224 rfl<|ak 1<|cN 1<|sq<|ak 2<|L0<|Oe (vI (Int.tmod (xs.length:Int) 2)) (vI ((xs.length:Int)%2)) (congrArg (Value.int .i64) (Int.tmod_eq_emod_of_nonneg (by omega)))<|ah 1<|cb ((((xs.length:Int)%2)==1)) (fun f=>?_) (fun f=>?_)
 have v:=ag f
 refine aD 1<|aV<|rr nS<|?_
 have hs:cD xs=[]:=by unfold cD;rw[if_neg (by have:=ag f;omega)]
 exact⟨_,rfl,by rw[hs];exact b7.nil ..,(aH.refl [] _)⟩
 have v:=am f
 refine bo<|sq<|aD 1<|bk<|je (fun x=>[(0,.slice A xs.length cp),(2,nS),(3,.slice x.2.2.1 x.2.1.length x.2.2.2),(4,vI ((2*x.1:Nat) : Int))]) (fun(x:Nat × List Int × Option Addr × Nat) w'=>aH [] w w'∧mg w.heap.size w' (.slice x.2.2.1 x.2.1.length x.2.2.2) x.2.1∧(2*x.1≤xs.length)∧(x.2.1++dG (xs.drop (2*x.1))=dG xs)∧(x.2.1.length=x.1)) (fun x=>xs.length-2*x.1) (0,[],none,0) ⟨aH.refl _ _,(b7.nil w.heap.size _ _ yC _),(by(try dsimp only);omega),rfl,rfl⟩ ?_
 rintro⟨k,L,B,cq⟩ y ⟨g,z,C,D,E⟩
 refine ji [(0,.slice A xs.length cp),(2,nS),(3,.slice B L.length cq),(4,vI ((2*k:Nat) : Int))] ?_
 have i:mg w.heap.size y (.slice B L.length cq) L:=z
 have T:2*k≤xs.length:=C
 have U:L++dG (xs.drop (2*k))=dG xs:=D
 have V:L.length=k:=E
 have hL:L++dG (xs.drop (2*k))=dG xs:=by assumption
 refine sq<|ak 1<|bq (((2*k:Nat) : Int)+1)<|ah 3<|cb ((decide ((((2*k:Nat) : Int)+1)<(xs.length:Int)))) (fun j=>?_) (fun j=>?_)
 have F:=of_decide_eq_true j
 refine bo<|sq<|bk<|?_
 have o:=aX.old h g
 refine ft (aX.at_ o (2*k) (by omega)) fun G H p q W=>ft (aX.at_ o (((((2*k:Nat) : Int)+1)).toNat) (by omega)) fun I J r s X=>Rg 17 (fun w'=>w'.cell? ⟨G,H+2*k,none⟩=some (vB (xs.getD (2*k) 0))∧w'.cell? ⟨I,J+((((2*k:Nat) : Int)+1)).toNat,none⟩=some (vB (xs.getD (((((2*k:Nat) : Int)+1)).toNat) 0))) fun Y d=>bp ⟨(uc d q),(uc d s)⟩ fun c=>Rt 0 c<|Rt 1 c<|Rt 2 c<|lL 3 c xs.length (2*k) ((2*k:Nat) : Int) rfl p (by omega)<|Rl 4 c (fun _ hs=>hs.1)<|Rr 5 c (vW (xs.getD (2*k) 0)) (fun _ _=>bW (vW (IntKind.u16.wrap (xs.getD (2*k) 0))) (by kernel_rfl) (congrArg (Value.int .u16) (jm (by omega))))<|Rt 6 c<|Rt 7 c<|Rt 8 c<|Rr 9 c (vI (((2*k:Nat) : Int)+1)) (fun _ _=>bW (vI (IntKind.i64.wrap (((2*k:Nat) : Int)+1))) (by kernel_rfl) (congrArg (Value.int .i64) (IntWalk.i64_in _ (by omega))))<|lL 10 c xs.length (((((2*k:Nat) : Int)+1)).toNat) (((2*k:Nat) : Int)+1) (by omega) r (by omega)<|Rl 11 c (fun _ hs=>hs.2)<|Rr 12 c (vW (xs.getD (((((2*k:Nat) : Int)+1)).toNat) 0)) (fun _ _=>bW (vW (IntKind.u16.wrap (xs.getD (((((2*k:Nat) : Int)+1)).toNat) 0))) (by kernel_rfl) (congrArg (Value.int .u16) (jm (by omega))))<|Rt 13 c<|R0 14 rfl<|d9 (m:=1) (e:=37) #[vW ((((256*(xs.getD (2*k) 0))%65536)+(xs.getD (((((2*k:Nat) : Int)+1)).toNat) 0))%65536)] fun Z a0 K M l=>?_
 have N:=eJ K (xs:=[((((256*(xs.getD (2*k) 0))%65536)+(xs.getD (((((2*k:Nat) : Int)+1)).toNat) 0))%65536)]) (by as_aux_lemma=>kernel_rfl) (ap (by omega) aR) (by(try simp only[List.length_cons,List.length_nil]);omega) M
 have n:=aJ d l
 refine bp ⟨(uc n q),(uc n s)⟩ fun a1=>?_
 refine R0 15 rfl<|bS pU (xs:=L) (ys:=([((((256*(xs.getD (2*k) 0))%65536)+(xs.getD (((((2*k:Nat) : Int)+1)).toNat) 0))%65536)])) (vW 0) 2 (ax i n (fun x hx=>aF) (fun _ _ h=>h)) (N).rd (by(try simp only[bV,aB]);omega) (le (le g.size d.size) l.size) fun O P a2 Q R=>?_
 have t:=ut (aJ (aJ g d) l) R (aq (aU i lr) aC)
 have u:=aX.old h t
 exact bp ⟨(cB u p (2*k) (by omega)),(cB u r (((((2*k:Nat) : Int)+1)).toNat) (by omega))⟩ fun S=>Rt 16 S<|re<|bn<|tn<|go<|Pl 1<|bq (((2*k:Nat) : Int)+2)<|Pl 1<|nl<|gL ((k+1),(L++[((((256*(xs.getD (2*k) 0))%65536)+(xs.getD (((((2*k:Nat) : Int)+1)).toNat) 0))%65536)]),O,P) ⟨t,Q,(by(try dsimp only);omega),(by(try dsimp only);rw[← hL,xe (k:=k) (a:=2*k) (b:=(((2*k:Nat) : Int)+1).toNat) (by omega) rfl (by omega) hr,List.append_assoc]),(by(try dsimp only);simp only[bV];omega)⟩ (by omega)
 have F:=of_decide_eq_false j
 refine xt<|tx<|tx<|bx<|tn<|aD 2<|rt<|rr (.slice B L.length cq)<|?_
 have hs:L=cD xs:=wi hL (by omega) (by omega)
 exact⟨_,rfl,by rw[← hs];exact i,g⟩
theorem Ci(h:aX m w v xs)(hn:xs.length≤1048576) : Calls Tryz.prog 224 #[v] w (yt xs w):=by
  obtain⟨A,cp,rfl,_,_⟩:=h.shape
  exact Da h hn
theorem uI(ha:0≤a∧a<65536)(hn : -1048576≤n∧n≤1048576) : Calls Tryz.prog 222 #[vW a,vI n] w (cc (.bool (ee a n)) w):=by
 refine en 16 Tryz.func222 rfl<|aD 1<|sq<|ak 3<|cu 3 [7] 10 (((decide (n<1))||(decide (65536<n)))) (fun K d=>?_) ?_
 refine bl 7 ((decide (n<1))) (fun b=>?_) (fun b=>?_)
 have e:=of_decide_eq_true b
 exact Pl 3<|ce d true (by rw[b];rfl)
 have e:=of_decide_eq_false b
 exact Pl 3<|ce d (decide (65536<n)) (by rw[b];rfl)
 refine nt<|cb (((decide (n<1))||(decide (65536<n)))) (fun c=>?_) (fun c=>?_)
 refine aD 1<|aV<|rr (.bool false)<|?_
 have hq:=c
 have hs:ee a n=false:=by unfold ee;simp only[Bool.or_eq_true,decide_eq_true_eq] at hq;simp only[Bool.and_eq_false_iff,decide_eq_false_iff_not];omega
 rw[hs]
 exact⟨rfl,(aH.refl [] _)⟩
 have f:=(bT c).1
 have g:=(bT c).2
 have h:=of_decide_eq_false f
 have i:=of_decide_eq_false g
 refine bo<|ak 1<|bq a<|Pl 1<|bq (a+n)<|ah 2<|rt<|rr (.bool (decide ((a+n)≤65536)))<|?_
 have hs:ee a n=(decide ((a+n)≤65536)):=by unfold ee;rw[Bool.eq_iff_iff];simp only[Bool.and_eq_true,decide_eq_true_eq];omega
 rw[hs]
 exact⟨rfl,(aH.refl [] _)⟩
open Go.RowKit
def ER (A:Option Addr)(cp:Nat)(full:List Int)(k:Nat)(C:ai) : Array Value:=#[.slice A full.length cp,.int .i64 ((k:Nat) : Int),.bool C.sh,.int .i64 C.e]
structure RC (w0:World) (m:Md) (A:Option Addr) (cp:Nat) (full:List Int) (w:World) (g:Nat) (C:ai) : Prop where
  src:aX m w0 (.slice A full.length cp) full
  u:aH [] w0 w
  new:w0.heap.size≤g
  cell:∃ k:Nat,w.heap[g]? = some (.cells (ER A cp full k C) 194 (0,0))∧k≤full.length∧C.l=full.drop k
  len:full.length≤1048576
theorem RC.upd{w':World}   {S:List Nat}(h:RC w0 m A cp full w g C)(hu:aH S w w')(hg:g∉S)(U:aH [] w0 w') : RC w0 m A cp full w' g C:=by
  obtain⟨h1,h2,h3,⟨k,h4,h5,h6⟩,h7⟩:=h
  exact⟨h1,U,h3,⟨k,hu.blk hg h4,h5,h6⟩,h7⟩
theorem RC.rd(h:RC w0 m A cp full w g C) : aX m w (.slice A full.length cp) full:=aX.old h.src h.u
theorem RC.rng(h:RC w0 m A cp full w g C) : ∀ x,x∈C.l→0≤x∧x<256:=fun x hx=>by
  obtain⟨k,_,_,h2⟩:=h.cell
  rw[h2] at hx
  exact aX.range h.src x (List.mem_of_mem_drop hx)
theorem BQ(C:ai)   (h:(ok || (C.e != 0))=true) : C.need ok x=C:=by
  unfold ai.need
  rw[if_neg]
  rintro⟨h1,rfl⟩
  rw[h1] at h
  cases h
theorem Bk(C:ai)   (h:(ok || (C.e != 0))=false) : C.need ok x = { C with e:=x }:=by
  simp only[Bool.or_eq_false_iff,bne_eq_false_iff_eq] at h
  unfold ai.need
  rw[if_pos ⟨h.2,h.1⟩]
def Cc (w0:World)(m:Md)(A:Option Addr)(cp:Nat)(full:List Int)(g:Nat)(C:ai)(w:World)(e:Ending)(w':World) : Prop:=e = .returned (.tuple #[])∧RC w0 m A cp full w' g C∧aH [g] w w'
theorem bg(ok:Bool)(x:Int)(hC:RC w0 m A cp full w g C) :
    Calls Tryz.prog 168 #[vP g 0,.bool ok,vI x] w (Cc w0 m A cp full g (C.need ok x) w):=by
 obtain⟨hsrc,hU,hnew,⟨k,hB,hk,hl⟩,hlen⟩:=hC
 refine en 18 Tryz.func168 rfl<|sq<|ak 2<|cu 6 [7] 13 ((ok || (C.e != 0))) (fun K c=>?_) ?_
 refine bl 7 (ok) (fun b=>?_) (fun b=>?_)
 exact Pl 6<|ce c true (by rw[b];rfl)
 exact Pl 3<|L1<|dX hB 3<|Pl 2<|ce c (C.e != 0) (by rw[b];rfl)
 refine nt<|cb ((ok || (C.e != 0))) (fun a=>?_) (fun a=>?_)
 refine aV<|rr (.tuple #[])<|?_
 rw[BQ C a]
 exact⟨rfl,⟨hsrc,hU.trans' (aH.mono (S':=[g]) (aH.refl [] _) aC) (fun x hx=>.inr (by simp at hx;subst hx;exact hnew)),hnew,⟨k,hB,hk,hl⟩,hlen⟩,(aH.mono (S':=[g]) (aH.refl [] _) aC)⟩
 have i:=(bT a).1
 have f:=(bT a).2
 have j:=aA f
 refine bo<|go<|Pl 4<|L0<|cm hB 3 #[.slice A full.length cp,vI (k:Int),.bool C.sh,vI x] fun l h d=>nl<|rm (.tuple #[])<|?_
 rw[Bk C a]
 exact⟨rfl,⟨hsrc,hU.trans' d (fun x hx=>.inr (by simp at hx;subst hx;exact hnew)),hnew,⟨k,h,hk,hl⟩,hlen⟩,d⟩
theorem kD(hk:k≤full.length)(hl:C.l=full.drop k) : C.fails n=((C.sh || decide (n<0))||decide ((((full.length:Nat) : Int)-((k:Nat) : Int))<n)):=by
  unfold ai.fails
  rw[hl,List.length_drop,show((full.length-k:Nat) : Int)=((full.length:Nat) : Int)-((k:Nat) : Int) by omega]
def An (w0:World)(m:Md)(A:Option Addr)(cp:Nat)(full:List Int)(g:Nat)(C:ai)(n:Int)(w:World)(e:Ending)(w':World) : Prop:=∃ A2 n2 c2,e = .returned (.slice A2 n2 c2)∧(∀ m' w'',aX m' w'' (.slice A full.length cp) full→aX m' w'' (.slice A2 n2 c2) (C.bytesR n))∧RC w0 m A cp full w' g (C.bytesC n)∧aH [g] w w'
theorem A9{l:List Int}{a b:Nat}(hl:l=full.drop k)(h:b=k+a) : l.drop a=full.drop b:=by
  rw[hl,List.drop_drop,h]
theorem tC(hk:k≤full.length)(hl:C.l=full.drop k)(hf:C.fails n=false)(a b:Nat)(ha:(a:Int)=k)(hb:(b:Int)=(k:Int)+n) : (full.take b).drop a=C.bytesR n:=by
  obtain rfl:a=k:=by omega
  unfold ai.bytesR
  rw[hf,hl,List.drop_take]
  show _=(full.drop a).take n.toNat
  rw[show b-a=n.toNat by omega]
theorem tQ(hn : -1048576≤n∧n≤2097152)(hC:RC w0 m A cp full w g C) :
    Calls Tryz.prog 169 #[vP g 0,vI n] w (An w0 m A cp full g C n w):=by
 obtain⟨hsrc,hU,hnew,⟨k,hB,hk,hl⟩,hlen⟩:=hC
 have hcp:full.length≤cp:=by obtain⟨_,_,hv,h1,_⟩:=aS.shape hsrc;injection hv with _ _ h3;omega
 refine en 64 Tryz.func169 rfl<|aD 1<|sq<|sq<|Rg 22 (fun w'=>w'.cell? ⟨g,2,none⟩=some (.bool C.sh)∧w'.cell? ⟨g,0,none⟩=some (.slice A full.length cp)∧w'.cell? ⟨g,1,none⟩=some (vI (k:Int))) fun a4 i=>?_
 have d:=ub i hB
 refine bp ⟨(ae d rfl),(ae d rfl),(ae d rfl)⟩ fun a=>Rt 0 a<|Rt 1 a<|Rt 2 a<|Rl 3 a (fun _ hs=>hs.1)<|Rt 4 a<|vp 9 (C.sh) (fun j=>?_) (fun j=>?_)
 refine Ro 5 a<|Ro 6 a<|Rt 7 a<|Rt 8 a<|Ro 9 a<|Ro 10 a<|Ro 11 a<|Ro 12 a<|Ro 13 a<|Ro 14 a<|Ro 15 a<|Ro 16 a<|Ro 17 a<|Ro 18 a<|Ro 19 a<|Ro 20 a<|Rt 21 a<|re<|tn<|c1<|ak 3<|L0<|cm d 2 #[.slice A full.length cp,vI (k:Int),.bool true,vI C.e] fun a5 q D=>aM 4<|aE q 0<|Pl 3<|L0<|cm q 1 #[.slice A full.length cp,vI (full.length:Int),.bool true,vI C.e] fun E F G=>aM 1<|?_
 have r:=u1 (u1 (aH.mono (S':=[g]) i aC) D im) G im
 have H:RC w0 m A cp full E g { C with l:=[],sh:=true }:=⟨hsrc,hU.trans' r (fun x hx=>.inr (by simp at hx;subst hx;exact hnew)),hnew,⟨full.length,F,Nat.le_refl _,List.drop_length.symm⟩,hlen⟩
 refine ay<|m2 (bg false 2 H) fun a6 I J=>cN 1<|aV<|rr nS<|?_
 have hf:C.fails n=true:=by rw[kD (n:=n) hk hl,j];rfl
 have e1:C.bytesR n=[]:=by unfold ai.bytesR;rw[hf];rfl
 have e2:C.bytesC n=ai.need { C with l:=[],sh:=true } false 2:=by unfold ai.bytesC;rw[hf];rfl
 exact⟨none,0,0,rfl,fun _ _ _=>by rw[e1];exact aS.nil ..,by rw[e2];exact I,(u1 r J im)⟩
 refine Rt 5 a<|Rt 6 a<|Rt 7 a<|Rt 8 a<|vp 13 ((decide (n<0))) (fun f=>?_) (fun f=>?_)
 have K:=of_decide_eq_true f
 refine Ro 9 a<|Ro 10 a<|Ro 11 a<|Ro 12 a<|Ro 13 a<|Ro 14 a<|Ro 15 a<|Ro 16 a<|Ro 17 a<|Ro 18 a<|Ro 19 a<|Ro 20 a<|Rt 21 a<|re<|tn<|c1<|ak 3<|L0<|cm d 2 #[.slice A full.length cp,vI (k:Int),.bool true,vI C.e] fun a7 s L=>aM 4<|aE s 0<|Pl 3<|L0<|cm s 1 #[.slice A full.length cp,vI (full.length:Int),.bool true,vI C.e] fun M N O=>?_
 refine aM 1<|?_
 have t:=u1 (u1 (aH.mono (S':=[g]) i aC) L im) O im
 have Q:RC w0 m A cp full M g { C with l:=[],sh:=true }:=⟨hsrc,hU.trans' t (fun x hx=>.inr (by simp at hx;subst hx;exact hnew)),hnew,⟨full.length,N,Nat.le_refl _,List.drop_length.symm⟩,hlen⟩
 refine ay<|m2 (bg false 2 Q) fun a8 R S=>cN 1<|aV<|rr nS<|?_
 have hf:C.fails n=true:=by rw[kD (n:=n) hk hl,j,f];rfl
 have e1:C.bytesR n=[]:=by unfold ai.bytesR;rw[hf];rfl
 have e2:C.bytesC n=ai.need { C with l:=[],sh:=true } false 2:=by unfold ai.bytesC;rw[hf];rfl
 exact⟨none,0,0,rfl,fun _ _ _=>by rw[e1];exact aS.nil ..,by rw[e2];exact R,(u1 t S im)⟩
 have K:=of_decide_eq_false f
 refine Rt 9 a<|Rt 10 a<|Rt 11 a<|Rt 12 a<|Rl 13 a (fun _ hs=>hs.2.1)<|Rt 14 a<|Rt 15 a<|Rt 16 a<|Rt 17 a<|Rl 18 a (fun _ hs=>hs.2.2)<|Rr 19 a (vI ((full.length:Int)-(k:Int))) (fun _ _=>bW (vI (IntKind.i64.wrap ((full.length:Int)-(k:Int)))) (by kernel_rfl) (congrArg (Value.int .i64) (IntWalk.i64_in _ (by omega))))<|Rt 20 a<|Rt 21 a<|re<|tn<|cb ((decide (((full.length:Int)-(k:Int))<n))) (fun o=>?_) (fun o=>?_)
 have T:=of_decide_eq_true o
 refine ak 3<|L0<|cm d 2 #[.slice A full.length cp,vI (k:Int),.bool true,vI C.e] fun a9 u U=>aM 4<|aE u 0<|Pl 3<|L0<|cm u 1 #[.slice A full.length cp,vI (full.length:Int),.bool true,vI C.e] fun V W X=>nt<|ak 1<|?_
 have v:=u1 (u1 (aH.mono (S':=[g]) i aC) U im) X im
 have Y:RC w0 m A cp full V g { C with l:=[],sh:=true }:=⟨hsrc,hU.trans' v (fun x hx=>.inr (by simp at hx;subst hx;exact hnew)),hnew,⟨full.length,W,Nat.le_refl _,List.drop_length.symm⟩,hlen⟩
 refine ay<|m2 (bg false 2 Y) fun aa Z a0=>cN 1<|aV<|rr nS<|?_
 have hf:C.fails n=true:=by rw[kD (n:=n) hk hl,j,f,o];rfl
 have e1:C.bytesR n=[]:=by unfold ai.bytesR;rw[hf];rfl
 have e2:C.bytesC n=ai.need { C with l:=[],sh:=true } false 2:=by unfold ai.bytesC;rw[hf];rfl
 exact⟨none,0,0,rfl,fun _ _ _=>by rw[e1];exact aS.nil ..,by rw[e2];exact Z,(u1 v a0 im)⟩
 have T:=of_decide_eq_false o
 refine bo<|ak 4<|aE d 1<|Pl 1<|bq ((k:Int)+n)<|Pl 2<|L0<|cm d 1 #[.slice A full.length cp,vI ((k:Int)+n),.bool C.sh,vI C.e] fun ab a1 a2=>nt<|sq<|Rg 16 (fun w'=>w'.cell? ⟨g,0,none⟩=some (.slice A full.length cp)∧w'.cell? ⟨g,1,none⟩=some (vI ((k:Int)+n))) fun ac y=>?_
 have p:=ub y a1
 refine bp ⟨(ae p rfl),(ae p rfl)⟩ fun b=>Rt 0 b<|Rt 1 b<|Rt 2 b<|Rl 3 b (fun _ hs=>hs.1)<|Rt 4 b<|Rt 5 b<|Rt 6 b<|Rl 7 b (fun _ hs=>hs.2)<|Rt 8 b<|Rr 9 b (vI (((k:Int)+n)-n)) (fun _ _=>bW (vI (IntKind.i64.wrap (((k:Int)+n)-n))) (by kernel_rfl) (congrArg (Value.int .i64) (IntWalk.i64_in _ (by omega))))<|Rt 10 b<|Rt 11 b<|Rt 12 b<|Rl 13 b (fun _ hs=>hs.2)<|mT (gh (P:=Tryz.prog) 27 5 1 Tryz.underlying27 rfl rfl A full.length cp (lo:=(((k:Int)+n)-n)) (up:=((k:Int)+n)) (((((k:Int)+n)-n)).toNat) ((((k:Int)+n)).toNat) (by omega) (by omega) (by omega) (by omega) (by omega)) fun z hrun69 a3=>Rr 14 b (.slice z (((((k:Int)+n)).toNat)-(((((k:Int)+n)-n)).toNat)) (cp-(((((k:Int)+n)-n)).toNat))) (fun _ _=>eY (kl:=.i64) (kh:=.i64) (lo:=(((k:Int)+n)-n)) (hi:=((k:Int)+n)) (A:=A) (n:=full.length) (c:=cp) rfl Tryz.underlying27 (by kernel_rfl) (by kernel_rfl) (by kernel_rfl) (hrun69 _ _ _))<|Rt 15 b<|re<|tn<|rt<|rr (.slice z (((((k:Int)+n)).toNat)-(((((k:Int)+n)-n)).toNat)) (cp-(((((k:Int)+n)-n)).toNat)))<|?_
 have hf:C.fails n=false:=by rw[kD (n:=n) hk hl,j,f,o];rfl
 have B:=aJ (u1 (aH.mono (S':=[g]) i aC) a2 im) y
 have e2:C.bytesC n = { C with l:=C.l.drop n.toNat }:=by unfold ai.bytesC;rw[hf];rfl
 exact⟨_,_,_,rfl,fun m' w'' h=>by have:=a3 m' _ _ w'' full h;rw[tC hk hl hf _ _ (by omega) (by omega)] at this;exact this,by rw[e2];exact⟨hsrc,hU.trans' B (fun x hx=>.inr (by simp at hx;subst hx;exact hnew)),hnew,⟨((k:Int)+n).toNat,(by unfold ER;rw[show(((((k:Int)+n).toNat:Nat) : Int))=(k:Int)+n by omega];exact p),by omega,A9 hl (by omega)⟩,hlen⟩,B⟩
def Aa (w0:World)(m:Md)(A:Option Addr)(cp:Nat)(full:List Int)(g:Nat)(C:ai)(n:Int)(w:World)(e:Ending)(w':World) : Prop:=∃ A2 c2,e = .returned (.slice A2 (C.bytesR n).length c2)∧(∀ m' w'',aX m' w'' (.slice A full.length cp) full→aX m' w'' (.slice A2 (C.bytesR n).length c2) (C.bytesR n))∧RC w0 m A cp full w' g (C.bytesC n)∧aH [g] w w'
theorem gB(hn : -1048576≤n∧n≤2097152)(hC:RC w0 m A cp full w g C) : Calls Tryz.prog 169 #[.pointer (some ⟨g,0,none⟩),.int .i64 n] w (Aa w0 m A cp full g C n w):=by
  refine(tQ hn hC).mono ?_
  rintro e w' ⟨A2,n2,c2,rfl,h1,h2,h3⟩
  obtain⟨_,_,hv,_⟩:=aS.shape (h1 m w0 hC.src)
  injection hv with _ e2 _
  subst e2
  exact⟨A2,c2,rfl,h1,h2,h3⟩
theorem AP(hk:k≤full.length)(hl:C.l=full.drop k) : ((full.length:Nat) : Int)-((k:Nat) : Int)=((C.l.length:Nat) : Int):=by
  rw[hl,List.length_drop]
  omega
theorem jS(hC:RC w0 m A cp full w g C) :
    Calls Tryz.prog 177 #[vP g 0] w (cc (vI (C.l.length:Int)) w):=by
 obtain⟨hsrc,hU,hnew,⟨k,hB,hk,hl⟩,hlen⟩:=hC
 have hcp:full.length≤1048576:=hlen
 refine en 13 Tryz.func177 rfl<|aD 1<|sq<|Rg 11 (fun w'=>w'.cell? ⟨g,0,none⟩=some (.slice A full.length cp)∧w'.cell? ⟨g,1,none⟩=some (vI (k:Int))) fun d b=>?_
 have c:=ub b hB
 refine bp ⟨(ae c rfl),(ae c rfl)⟩ fun a=>Rt 0 a<|Rt 1 a<|Rt 2 a<|Rl 3 a (fun _ hs=>hs.1)<|Rt 4 a<|Rt 5 a<|Rt 6 a<|Rt 7 a<|Rl 8 a (fun _ hs=>hs.2)<|Rr 9 a (vI ((full.length:Int)-(k:Int))) (fun _ _=>bW (vI (IntKind.i64.wrap ((full.length:Int)-(k:Int)))) (by kernel_rfl) (congrArg (Value.int .i64) (IntWalk.i64_in _ (by omega))))<|Rt 10 a<|re<|tn<|rt<|rr (vI ((full.length:Int)-(k:Int)))<|?_
 rw[AP hk hl]
 exact⟨rfl,b⟩
theorem fb(hC:RC w0 m A cp full w g C) :
    Calls Tryz.prog 173 #[vP g 0] w (Cc w0 m A cp full g C.endC w):=by
 refine en 7 Tryz.func173 rfl<|go<|Pl 2<|ay<|m1 (jS hC) fun e a=>?_
 have b:=RC.upd hC a aF (aH.step (RC.u hC) a)
 refine Pl 1<|ay<|m2 (bg (((C.l.length:Int)==0)) 3 b) fun f c d=>nl<|rm (.tuple #[])<|?_
 exact⟨rfl,c,(u1 (aH.mono (S':=[g]) a aC) d im)⟩
theorem RC.clen(h:RC w0 m A cp full w g C) : C.l.length≤1048576:=by
  obtain⟨k,_,_,h2⟩:=h.cell
  have:=h.len
  rw[h2,List.length_drop]
  omega
theorem xy(h:((((C.bytesR 1).length:Nat) : Int)==0)=true) : C.byteV=0:=by
  have hz:C.bytesR 1=[]:=List.eq_nil_of_length_eq_zero (by have:=ag h;omega)
  unfold ai.byteV
  rw[hz]
  rfl
def u9 (w0:World)(m:Md)(A:Option Addr)(cp:Nat)(full:List Int)(g:Nat)(q:IntKind)(M x:Int)(C:ai)(w:World)(e:Ending)(w':World) : Prop:=e = .returned (.int q x)∧RC w0 m A cp full w' g C∧aH [g] w w'∧0≤x∧x<M
theorem eN(hC:RC w0 m A cp full w g C) :
    Calls Tryz.prog 167 #[vP g 0] w (u9 w0 m A cp full g .u8 256 C.byteV (C.bytesC 1) w):=by
 refine en 12 Tryz.func167 rfl<|ak 1<|aM 1<|ay<|sW (gB (n:=1) (by omega) hC) fun k l o d b c=>?_
 have q:=Nat.le_trans (ai.bytesR_le C 1) (RC.clen hC)
 refine ah 1<|sq<|aD 3<|cb ((((C.bytesR 1).length:Int)==0)) (fun a=>?_) (fun a=>?_)
 have e:=ag a
 exact aD 1<|aV<|rr (vB 0)<|⟨by rw[xy a],b,c,pn (RC.rng hC)⟩
 have e:=am a
 exact bo<|ak 1<|ft (aX.at_ (d _ _ (RC.rd b)) 0 (by omega)) fun f h i j r=>L0<|l9 ((C.bytesR 1).length) 0 i (by omega)<|L0<|eH (p:=⟨f,h+0,none⟩) (v:=vB ((C.bytesR 1).getD 0 0)) j<|ah 1<|rt<|rr (vB ((C.bytesR 1).getD 0 0))<|⟨rfl,b,c,pn (RC.rng hC)⟩
theorem vV(hk:k≤full.length)(hl:C.l=full.drop k)(h:(decide (n<0)||decide (((full.length:Nat) : Int)<n))=true) : C.wordsR n=cD (C.bytesR (-1))∧C.wordsC n=C.bytesC (-1):=by
  have hb:C.wbad n=true:=by
    unfold ai.wbad
    simp only[Bool.or_eq_true,decide_eq_true_eq] at h ⊢
    rw[hl,List.length_drop]
    omega
  have hf:C.fails (-1)=true:=by
    unfold ai.fails
    simp
  constructor
  · unfold ai.wordsR ai.bytesR
    rw[hb,hf]
    rfl
  · unfold ai.wordsC
    rw[hb]
    rfl
theorem zn(hk:k≤full.length)(hl:C.l=full.drop k)(h:(decide (n<0)||decide (((full.length:Nat) : Int)<n))=false) : C.wordsR n=cD (C.bytesR (n+n))∧C.wordsC n=C.bytesC (n+n):=by
  simp only[Bool.or_eq_false_iff,decide_eq_false_iff_not] at h
  by_cases hw:((C.l.length:Int)<n)
  · have hb:C.wbad n=true:=by
      unfold ai.wbad
      simp only[Bool.or_eq_true,decide_eq_true_eq]
      omega
    have hf:C.fails (-1)=true:=by
      unfold ai.fails
      simp
    have hf2:C.fails (n+n)=true:=by
      unfold ai.fails
      simp only[Bool.or_eq_true,decide_eq_true_eq]
      omega
    constructor
    · unfold ai.wordsR ai.bytesR
      rw[hb,hf2]
      rfl
    · unfold ai.wordsC
      rw[hb]
      unfold ai.bytesC
      rw[hf2,hf]
      rfl
  · have hb:C.wbad n=false:=by
      unfold ai.wbad
      simp only[Bool.or_eq_false_iff,decide_eq_false_iff_not]
      omega
    constructor
    · unfold ai.wordsR
      rw[hb,show 2*n=n+n by omega]
      rfl
    · unfold ai.wordsC
      rw[hb,show 2*n=n+n by omega]
      rfl
def AL (w0:World)(m:Md)(A:Option Addr)(cp:Nat)(full:List Int)(g:Nat)(C:ai)(n:Int)(w:World)(e:Ending)(w':World) : Prop:=∃ v,e = .returned v∧mg w.heap.size w' v (C.wordsR n)∧RC w0 m A cp full w' g (C.wordsC n)∧aH [g] w w'
theorem i7(hn : -1048576≤n∧n≤1048576)(hC:RC w0 m A cp full w g C) :
    Calls Tryz.prog 174 #[vP g 0,vI n] w (AL w0 m A cp full g C n w):=by
 have hC0:=hC
 obtain⟨hsrc,hU,hnew,⟨k,hB,hk,hl⟩,hlen⟩:=hC0
 refine en 25 Tryz.func174 rfl<|aD 1<|sq<|ak 3<|cu 8 [7] 15 (((decide (n<0))||(decide ((full.length:Int)<n)))) (fun K h=>?_) ?_
 refine bl 7 ((decide (n<0))) (fun a=>?_) (fun a=>?_)
 have l:=of_decide_eq_true a
 exact Pl 8<|ce h true (by rw[a];rfl)
 have l:=of_decide_eq_false a
 exact Pl 4<|L1<|dX hB 0<|Pl 3<|ce h (decide ((full.length:Int)<n)) (by rw[a];rfl)
 refine nt<|cb (((decide (n<0))||(decide ((full.length:Int)<n)))) (fun b=>?_) (fun b=>?_)
 refine ak 1<|?_
 have o:=RC.upd hC (aH.refl [] _) aF (aH.step hC.u (aH.refl [] _))
 refine ay<|sW (gB (n:=-1) (by omega) o) fun E F G p c i=>?_
 have H:=Nat.le_trans (ai.bytesR_le C (-1)) (RC.clen hC)
 refine ay<|e9 (Ci (p _ _ (RC.rd c)) (by omega)) fun q r I s J L d=>ah 1<|aV<|rr (.slice q ((cD (C.bytesR (-1))).length) r)<|?_
 have hw:=vV hk hl b
 exact⟨_,rfl,by rw[hw.1];exact(b7.weaken s i.size),by rw[hw.2];exact(RC.upd c d aF (aH.step (RC.u c) d)),(aJ i d)⟩
 have t:=(bT b).1
 have v:=(bT b).2
 have M:=of_decide_eq_false t
 have N:=of_decide_eq_false v
 refine bo<|ak 3<|bq (n+n)<|?_
 have x:=RC.upd hC (aH.refl [] _) aF (aH.step hC.u (aH.refl [] _))
 refine ay<|sW (gB (n:=(n+n)) (by omega) x) fun O P Q y e j=>?_
 have R:=Nat.le_trans (ai.bytesR_le C (n+n)) (RC.clen hC)
 refine ay<|e9 (Ci (y _ _ (RC.rd e)) (by omega)) fun z B S D T U f=>ah 1<|rt<|rr (.slice z ((cD (C.bytesR (n+n))).length) B)<|?_
 have hw:=zn hk hl b
 exact⟨_,rfl,by rw[hw.1];exact(b7.weaken D j.size),by rw[hw.2];exact(RC.upd e f aF (aH.step (RC.u e) f)),(aJ j f)⟩
theorem wW(h:((((C.wordsR 1).length:Nat) : Int)==0)=true) : C.wordV=0:=by
  have hz:C.wordsR 1=[]:=List.eq_nil_of_length_eq_zero (by have:=ag h;omega)
  unfold ai.wordV
  rw[hz]
  rfl
theorem de(hC:RC w0 m A cp full w g C) :
    Calls Tryz.prog 170 #[vP g 0] w (u9 w0 m A cp full g .u16 65536 C.wordV (C.wordsC 1) w):=by
 refine en 12 Tryz.func170 rfl<|ak 1<|aM 1<|ay<|qH (i7 (n:=1) (by omega) hC) fun k l o d q r b c=>ah 1<|sq<|aD 3<|cb ((((C.wordsR 1).length:Int)==0)) (fun a=>?_) (fun a=>?_)
 have e:=ag a
 exact aD 1<|aV<|rr (vW 0)<|⟨by rw[wW a],b,c,bU (RC.rng hC)⟩
 have e:=am a
 exact bo<|ak 1<|ft (eG.at_ (d).rd 0 (by omega)) fun f h i j s=>L0<|l9 ((C.wordsR 1).length) 0 i (by omega)<|L0<|eH (p:=⟨f,h+0,none⟩) (v:=vW ((C.wordsR 1).getD 0 0)) j<|ah 1<|rt<|rr (vW ((C.wordsR 1).getD 0 0))<|⟨rfl,b,c,bU (RC.rng hC)⟩
theorem gM{G:Prop}(h:RC w0 m A cp full w g C)(k:∀ x,C=x→RC w0 m A cp full w g x→G) : G:=k C rfl h
open Go.RowKit
theorem wA(hx:0≤x∧x<65536) : fc x=((decide (x≤4)||(decide (10≤x)&&decide (x≤18)))||x==20):=by
  unfold fc
  rw[Bool.eq_iff_iff]
  simp only[decide_eq_true_eq,List.mem_cons,List.not_mem_nil,or_false,Bool.or_eq_true,Bool.and_eq_true,beq_iff_eq]
  omega
theorem od(hx:0≤x∧x<256) : d8 x=((((decide (1≤x)&&decide (x≤6))||x==8)||x==10)||x==11):=by
  unfold d8
  rw[Bool.eq_iff_iff]
  simp only[decide_eq_true_eq,List.mem_cons,List.not_mem_nil,or_false,Bool.or_eq_true,Bool.and_eq_true,beq_iff_eq]
  omega
theorem DA(hx:0≤x∧x<65536) : Calls Tryz.prog 176 #[vW x] w (cc (.bool (fc x)) w):=by
 refine en 17 Tryz.func176 rfl<|ak 1<|aM 3<|cu 7 [5] 12 (((decide (x≤4))||((decide (10≤x))&&(decide (x≤18))))) (fun K d=>?_) ?_
 refine bl 5 ((decide (x≤4))) (fun a=>?_) (fun a=>?_)
 have g:=of_decide_eq_true a
 exact Pl 7<|ce d true (by rw[a];rfl)
 have g:=of_decide_eq_false a
 refine Pl 3<|cu 3 [8] 11 (((decide (10≤x))&&(decide (x≤18)))) (fun K e=>?_) ?_
 refine bl 8 ((decide (10≤x))) (fun b=>?_) (fun b=>?_)
 have h:=of_decide_eq_true b
 exact Pl 3<|ce e (decide (x≤18)) (by rw[b];rfl)
 have h:=of_decide_eq_false b
 exact Pl 3<|ce e false (by rw[b];rfl)
 exact Pl 1<|ce d ((decide (10≤x))&&(decide (x≤18))) (by rw[a];rfl)
 refine Pl 1<|cu 3 [13] 16 ((((decide (x≤4))||((decide (10≤x))&&(decide (x≤18))))||(x==20))) (fun K f=>?_) ?_
 refine bl 13 (((decide (x≤4))||((decide (10≤x))&&(decide (x≤18))))) (fun c=>?_) (fun c=>?_)
 exact Pl 3<|ce f true (by rw[c];rfl)
 exact Pl 3<|ce f (x==20) (by rw[c];rfl)
 refine ah 1<|rt<|rr (.bool (((decide (x≤4))||((decide (10≤x))&&(decide (x≤18))))||(x==20)))<|?_
 rw[wA hx]
 have hs:((decide (x≤4)||(decide (10≤x)&&decide (x≤18)))||x==20)=(((decide (x≤4))||((decide (10≤x))&&(decide (x≤18))))||(x==20)):=by(try simp only[Bool.true_or,Bool.false_or,Bool.true_and,Bool.false_and,Bool.or_true,Bool.or_false]);all_goals rfl
 rw[hs]
 exact⟨rfl,(aH.refl [] _)⟩
theorem za(hx:0≤x∧x<256) : Calls Tryz.prog 165 #[vB x] w (cc (.bool (d8 x)) w):=by
 refine en 21 Tryz.func165 rfl<|ak 1<|aM 3<|cu 3 [5] 8 (((decide (1≤x))&&(decide (x≤6)))) (fun K e=>?_) ?_
 refine bl 5 ((decide (1≤x))) (fun a=>?_) (fun a=>?_)
 have i:=of_decide_eq_true a
 exact Pl 3<|ce e (decide (x≤6)) (by rw[a];rfl)
 have i:=of_decide_eq_false a
 exact Pl 3<|ce e false (by rw[a];rfl)
 refine Pl 1<|cu 3 [9] 12 ((((decide (1≤x))&&(decide (x≤6)))||(x==8))) (fun K f=>?_) ?_
 refine bl 9 (((decide (1≤x))&&(decide (x≤6)))) (fun b=>?_) (fun b=>?_)
 exact Pl 3<|ce f true (by rw[b];rfl)
 exact Pl 3<|ce f (x==8) (by rw[b];rfl)
 refine Pl 1<|cu 3 [13] 16 (((((decide (1≤x))&&(decide (x≤6)))||(x==8))||(x==10))) (fun K g=>?_) ?_
 refine bl 13 ((((decide (1≤x))&&(decide (x≤6)))||(x==8))) (fun c=>?_) (fun c=>?_)
 exact Pl 3<|ce g true (by rw[c];rfl)
 exact Pl 3<|ce g (x==10) (by rw[c];rfl)
 refine Pl 1<|cu 3 [17] 20 ((((((decide (1≤x))&&(decide (x≤6)))||(x==8))||(x==10))||(x==11))) (fun K h=>?_) ?_
 refine bl 17 (((((decide (1≤x))&&(decide (x≤6)))||(x==8))||(x==10))) (fun d=>?_) (fun d=>?_)
 exact Pl 3<|ce h true (by rw[d];rfl)
 exact Pl 3<|ce h (x==11) (by rw[d];rfl)
 refine ah 1<|rt<|rr (.bool (((((decide (1≤x))&&(decide (x≤6)))||(x==8))||(x==10))||(x==11)))<|?_
 rw[od hx]
 have hs:((((decide (1≤x)&&decide (x≤6))||x==8)||x==10)||x==11)=(((((decide (1≤x))&&(decide (x≤6)))||(x==8))||(x==10))||(x==11)):=by(try simp only[Bool.true_or,Bool.false_or,Bool.true_and,Bool.false_and,Bool.or_true,Bool.or_false]);all_goals rfl
 rw[hs]
 exact⟨rfl,(aH.refl [] _)⟩
theorem jz{sub v:Int}:i4 dir sub v=if sub==1 then (v==0 || v==65280) else if sub==3 then v%256==0 else if dir==1&&(sub==2 || (decide (11≤sub)&&decide (sub≤18))) then true else v==0:=by
  unfold i4
  by_cases h1:sub=1
  · subst h1
    rfl
  by_cases h3:sub=3
  · subst h3
    rfl
  have e1:(sub==1)=false:=by simpa using h1
  have e3:(sub==3)=false:=by simpa using h3
  rw[e1,e3,Bool.and_comm]
  rfl
theorem Dr{sub v:Int}  (hv:0≤v∧v<65536) : Calls Tryz.prog 178 #[vI dir,vW sub,vW v] w (cc (.bool (i4 dir sub v)) w):=by
 refine en 39 Tryz.func178 rfl<|aD 1<|sq<|bk<|aD 3<|cb ((sub==1)) (fun a=>?_) (fun a=>?_)
 have l:=ag a
 refine ak 3<|cu 3 [12] 15 (((v==0)||(v==65280))) (fun K h=>?_) ?_
 refine bl 12 ((v==0)) (fun c=>?_) (fun c=>?_)
 have m:=ag c
 exact Pl 3<|ce h true (by rw[c];rfl)
 have m:=am c
 exact Pl 3<|ce h (v==65280) (by rw[c];rfl)
 refine ah 1<|rt<|br<|tr<|rr (.bool ((v==0)||(v==65280)))<|?_
 have hs:i4 dir sub v=((v==0)||(v==65280)):=by
   rw[jz]
   (try simp only[a,bj,reduceIte])
   all_goals rfl
 rw[hs]
 exact⟨rfl,(aH.refl [] _)⟩
 have l:=am a
 refine aD 3<|cb ((sub==3)) (fun b=>?_) (fun b=>?_)
 have n:=ag b
 refine ak 1<|L0<|Oe (vW (Int.tmod v 256)) (vW (v%256)) (congrArg (Value.int .u16) (Int.tmod_eq_emod_of_nonneg (by omega)))<|ah 2<|rt<|br<|tr<|rr (.bool ((v%256)==0))<|?_
 have hs:i4 dir sub v=((v%256)==0):=by
   rw[jz]
   (try simp only[a,b,bj,reduceIte])
   all_goals rfl
 rw[hs]
 exact⟨rfl,(aH.refl [] _)⟩
 have n:=am b
 refine ak 3<|cu 11 [25] 36 (((dir==1)&&((sub==2)||((decide (11≤sub))&&(decide (sub≤18)))))) (fun K i=>?_) ?_
 refine bl 25 ((dir==1)) (fun d=>?_) (fun d=>?_)
 have o:=ag d
 refine Pl 3<|cu 7 [28] 35 (((sub==2)||((decide (11≤sub))&&(decide (sub≤18))))) (fun K j=>?_) ?_
 refine bl 28 ((sub==2)) (fun e=>?_) (fun e=>?_)
 have p:=ag e
 exact Pl 7<|ce j true (by rw[e];rfl)
 have p:=am e
 refine Pl 3<|cu 3 [31] 34 (((decide (11≤sub))&&(decide (sub≤18)))) (fun K k=>?_) ?_
 refine bl 31 ((decide (11≤sub))) (fun f=>?_) (fun f=>?_)
 have q:=of_decide_eq_true f
 exact Pl 3<|ce k (decide (sub≤18)) (by rw[f];rfl)
 have q:=of_decide_eq_false f
 exact Pl 3<|ce k false (by rw[f];rfl)
 exact Pl 1<|ce j ((decide (11≤sub))&&(decide (sub≤18))) (by rw[e];rfl)
 exact Pl 1<|ce i ((sub==2)||((decide (11≤sub))&&(decide (sub≤18)))) (by rw[d];rfl)
 have o:=am d
 exact Pl 11<|ce i false (by rw[d];rfl)
 refine ah 1<|cb (((dir==1)&&((sub==2)||((decide (11≤sub))&&(decide (sub≤18)))))) (fun g=>?_) (fun g=>?_)
 have r:=(bB g).1
 have s:=(bB g).2
 refine aD 1<|rt<|br<|tr<|rr (.bool true)<|?_
 have hs:i4 dir sub v=true:=by
   rw[jz]
   (try simp only[a,b,g,r,s,bj,reduceIte])
   all_goals rfl
 rw[hs]
 exact⟨rfl,(aH.refl [] _)⟩
 refine sk<|bn<|tn<|aD 3<|rt<|rr (.bool (v==0))<|?_
 have hs:i4 dir sub v=(v==0):=by
   rw[jz]
   (try simp only[a,b,g,bj,reduceIte])
   all_goals rfl
 rw[hs]
 exact⟨rfl,(aH.refl [] _)⟩
open Go.RowKit
theorem RC.lt(h:RC w0 m A cp full w g C) : g<w.heap.size:=by
  obtain⟨k,h1,_⟩:=h.cell
  exact au h1
theorem RC.fld(h:RC w0 m A cp full w g C) : w.cell? ⟨g,3,none⟩=some (.int .i64 C.e):=by
  obtain⟨k,h1,_⟩:=h.cell
  rw[bF h1]
  rfl
theorem zO(h:(((c==3)||(c==4))||(c==23))=true) : aW 1 c C=some (cO c C):=by
  unfold aW
  by_cases h1:(c==3 || c==4)=true
  · rw[if_pos h1]
    rfl
  · rw[if_neg h1]
    have h2:c=23:=by
      simp only[Bool.or_eq_true,beq_iff_eq] at h h1
      omega
    subst h2
    rfl
theorem uA{m:Int}:((n%2==0&&decide (0<n))&&decide (n≤m))=jt n m:=by
  unfold jt
  rw[Bool.eq_iff_iff]
  simp only[Bool.and_eq_true,decide_eq_true_eq,beq_iff_eq]
  omega
theorem uR{k:Int}:(a==2*k+2)=(2+2*k==a):=by
  rw[Bool.eq_iff_iff]
  simp only[beq_iff_eq]
  omega
theorem fK:decide (0<x)=decide (1≤x):=by
  rw[Bool.eq_iff_iff]
  simp only[decide_eq_true_eq]
  omega
theorem nM{most:Int}(ha:0≤a∧a<65536)(hC:RC w0 m A cp full w g C) :
    Calls Tryz.prog 175 #[vP g 0,vW a,vI most] w (u9 w0 m A cp full g .i64 65536 C.wordV (bN C a most) w):=by
 have hrng:=bU (RC.rng hC)
 refine en 26 Tryz.func175 rfl<|ak 1<|aM 1<|ay<|m3 (de hC) fun r f h s=>bq C.wordV<|ah 1<|ak 4<|cu 4 [14] 18 (((decide (0<C.wordV))&&(decide (C.wordV≤most)))) (fun K d=>?_) ?_
 refine bl 14 ((decide (0<C.wordV))) (fun b=>?_) (fun b=>?_)
 have i:=of_decide_eq_true b
 exact Pl 4<|ce d (decide (C.wordV≤most)) (by rw[b];rfl)
 have i:=of_decide_eq_false b
 exact Pl 4<|ce d false (by rw[b];rfl)
 refine ay<|m2 (bg (((decide (0<C.wordV))&&(decide (C.wordV≤most)))) 5 f) fun j k l=>?_
 refine gM k fun x19 o e=>?_
 refine aM 3<|ay<|m1 (uI (a:=a) (n:=C.wordV) (w:=j) (by omega) (by omega)) fun t c=>?_
 refine ay<|m2 (bg ((ee a C.wordV)) 7 (RC.upd e c aF (aH.step (RC.u e) c))) fun v p q=>cN 2<|rt<|rr (vI C.wordV)<|?_
 subst o
 have e1:bN C a most=((C.wordsC 1).need (decide (0<C.wordV)&&decide (C.wordV≤most)) 5).need (ee a C.wordV) 7:=by unfold bN;rw[← fK]
 rw[e1]
 exact⟨rfl,p,(u1 h (u1 l (uz c q) im) im),hrng⟩
theorem aS.upd0{α:Type}  {e:TypeId}{sz:Nat}{R R':World→α→List Value→Prop}   {xs:List α}(h:aS m e sz R w v xs)(hR:∀ x cs,R w x cs→R' w x cs) : aS m e sz R' w v xs:=by
  obtain⟨A,c,rfl,h1,h2,h0,h3⟩:=h
  refine⟨A,c,rfl,h1,h2,h0,fun hp=>?_⟩
  obtain⟨b,off,cells,t,fr,rfl,hb,ht,hx⟩:=h3 hp
  exact⟨b,off,cells,t,fr,rfl,hb,ht,fun j x hj=>by obtain⟨cs,hl,hr,hc⟩:=hx j x hj;exact⟨cs,hl,hR _ _ hr,hc⟩⟩
def rJ (v0:Value)(b:List Int)(w:World)(o:Obj)(cs:List Value) : Prop:=∃ A n c,cs=[.int .u8 o.id,.slice A n c]∧(∀ m' w',aX m' w' v0 b→aX m' w' (.slice A n c) o.value)∧B8 o.id
theorem rJ.ones(x:Obj)(cs:List Value)(h:rJ v0 b w x cs) : ∀ v,v∈cs→v.oneCell'=true:=by
  obtain⟨A,n,c,rfl,h2,_⟩:=h
  intro u hu
  simp at hu
  rcases hu with rfl|rfl<;>rfl
def cG (v0:Value)(b:List Int)(w:World)(cs:List Value)(M:aT) : Prop :=
  ∃ vw vb vd vr vo,cs=eC M vw vb vd vr vo∧eG true w vw M.words∧jb true w vb M.bits∧(∀ m' w',aX m' w' v0 b→aX m' w' vd M.data)∧oA true w vr M.recs∧aS true 100 2 (rJ v0 b) w vo M.objects∧ga M
theorem cG.rd(h:cG v0 b w cs M)(hb:aX m w v0 b) : aI false w cs M:=by
  obtain⟨vw,vb,vd,vr,vo,h0,h1,h2,h3,h4,h5,h6⟩:=h
  exact⟨vw,vb,vd,vr,vo,h0,aS.any h1 fun _ _ q=>q,aS.any h2 fun _ _ q=>q,aS.any (h3 _ _ hb) fun _ _ q=>q,aS.any h4 fun r cs ⟨v,a,b,c⟩=>⟨v,a,aS.any b fun _ _ q=>q,c⟩,aS.any h5 fun r cs ⟨A,n,k,a,b,c⟩=>⟨_,a,aS.any (b _ _ hb) fun _ _ q=>q,c⟩,h6⟩
theorem cG.rdt(h:cG v0 b w cs M)(hb:aX true w v0 b) : aI true w cs M:=by
  obtain⟨vw,vb,vd,vr,vo,h0,h1,h2,h3,h4,h5,h6⟩:=h
  exact⟨vw,vb,vd,vr,vo,h0,h1,h2,h3 _ _ hb,h4,aS.upd0 h5 fun r cs ⟨A,n,k,a,b,c⟩=>⟨_,a,b _ _ hb,c⟩,h6⟩
theorem cG.sub{v1:Value}{b1:List Int}    (h:cG v1 b1 w cs M)(hv:∀ m' w',aX m' w' v0 b→aX m' w' v1 b1) : cG v0 b w cs M:=by
  obtain⟨vw,vb,vd,vr,vo,h0,h1,h2,h3,h4,h5,h6⟩:=h
  exact⟨vw,vb,vd,vr,vo,h0,h1,h2,fun m' w' q=>h3 _ _ (hv _ _ q),h4,aS.upd0 h5 fun r cs ⟨A,n,k,a,b,c⟩=>⟨A,n,k,a,fun m' w' q=>b _ _ (hv _ _ q),c⟩,h6⟩
theorem cG.upd{w':World}   {S:List Nat}(h:cG v0 b w cs M)(hu:aH S w w')(hs:dC true oJ S w) : cG v0 b w' cs M:=by
  obtain⟨vw,vb,vd,vr,vo,h0,h1,h2,h3,h4,h5,h6⟩:=h
  exact⟨vw,vb,vd,vr,vo,h0,eG.upd' h1 hu (hs.sub (by decide)),jb.upd' h2 hu (hs.sub (by decide)),h3,oA.upd' h4 hu hs,aS.upd h5 hu (hs.sub (by decide)) (fun _ _ q=>q),h6⟩
theorem cG.zero(v0:Value)(b:List Int)(w:World) : cG v0 b w oD.toList aT.zero:=by
  obtain⟨vw,vb,vd,vr,vo,h0,h1,h2,h3,h4,h5,h6⟩:=aI.zero true w
  exact⟨_,_,_,_,_,rfl,aS.nil ..,aS.nil ..,(fun _ _ _=>aS.nil ..),aS.nil ..,aS.nil ..,h6⟩
theorem cG.size{cs:Array Value}  (h:cG v0 b w cs.toList M) : cs.size=22:=by
  obtain⟨vw,vb,vd,vr,vo,h0,_⟩:=h
  rw[← Array.length_toList,h0]
  rfl
theorem cG.one{w2:World}  {cs:Array Value}  (h:cG v0 b w cs.toList M)(hb:aX m w2 v0 b) : cs.all (·.oneCell')=true:=by
  obtain⟨vw,vb,vd,vr,vo,h0,h1,h2,h3,h4,h5,h6⟩:=h
  rw[← Array.all_toList,h0]
  obtain⟨_,_,rfl,_⟩:=h1
  obtain⟨_,_,rfl,_⟩:=h2
  obtain⟨_,_,rfl,_⟩:=h3 _ _ hb
  obtain⟨_,_,rfl,_⟩:=h4
  obtain⟨_,_,rfl,_⟩:=h5
  rfl
def cV (v0:Value)(b:List Int)(res:aT × Int)(w:World)(e:Ending)(w':World) : Prop:=∃ cs,e = .returned (.tuple #[.agg cs,.int .i64 res.2])∧cG v0 b w' cs.toList res.1∧aH [] w w'
theorem bE{c:ai}  {cs:Array Value}(h0:c.endC.e=0)(h:cG v0 b W cs.toList M)(hu:aH [] w W) : cV v0 b (bt M c) w (.returned (.tuple #[.agg cs,.int .i64 0])) W:=by
  unfold bt
  rw[if_pos h0]
  exact⟨cs,rfl,h,hu⟩
theorem bv{c:ai}  (h0:¬ c.endC.e=0)(hu:aH [] w W) : cV v0 b (bt M c) w (.returned (.tuple #[.agg oD,.int .i64 c.endC.e])) W:=by
  unfold bt
  rw[if_neg h0]
  exact⟨oD,rfl,cG.zero ..,hu⟩
theorem bG(hu:aH [] w W) : cV v0 b (aT.zero,x) w (.returned (.tuple #[.agg oD,.int .i64 x])) W:=⟨oD,rfl,cG.zero ..,hu⟩
theorem ow(hcode:B8 c)(hsl:aX m w (.slice A b.length cp) b)(hb:b.length≤1048576) :
    Calls Tryz.prog 110 #[vI 0,vB c,.slice A b.length cp] w (cV (.slice A b.length cp) b (aj aW 0 c b) w):=by
 obtain⟨hcode1,hcode2⟩:=hcode
 have hln:(b.length:Int)≤1048576:=by omega
 refine en 221 Tryz.func110 rfl<|sg<|aK mZ fun eM eO r j f=>ah 1<|sq<|aD 6<|c0<|bo<|ak 2<|L0<|da #[.slice A b.length cp,vI 0,.bool false,vI 0] fun l eP d o i=>Pl 1<|aM 2<|aK mZ fun eQ eR g aY Q=>aG aY (mC c) fun J L F=>?_
 refine nt<|sq<|bk<|aD 15<|c0<|ak 3<|cu 3 [68] 71 (((c==3)||(c==4))) (fun K bR=>?_) ?_
 refine bl 68 ((c==3)) (fun R=>?_) (fun R=>?_)
 have dj:=ag R
 exact Pl 3<|ce bR true (by rw[R];rfl)
 have dj:=am R
 exact Pl 3<|ce bR (c==4) (by rw[R];rfl)
 refine ah 1<|?_
 have G:=ud Q F g
 have q:=aJ i G
 have s:=aJ f q
 refine cb (((c==3)||(c==4))) (fun t=>?_) (fun t=>?_)
 refine ak 1<|?_
 have dk:RC w _ A cp b J l (ai.mk b false 0):=⟨hsl,s,(Nat.le_trans f.size d),⟨0,(ub G o),Nat.zero_le _,rfl⟩,by omega⟩
 refine ay<|m3 (de dk) fun eS dl bS eT=>Pl 1<|?_
 have S:=nb (au o) lr g
 refine L0<|cm (be bS (Ne.symm S) L) 2 (mG c 0 ((ai.mk b false 0).wordV) 0 0 0 0 0 0 0 0 0 nS nS nS nS 0 0 0 0 0 nS) fun eU bU bV=>nt<|go<|Pl 2<|aE bU 2<|?_
 have aZ:=us bS bV
 have bW:=ut s aZ (ac (ni f.size d) (ac (ni (le f.size i.size) g) aC))
 refine ay<|m3 (nM (a:=(ai.mk b false 0).wordV) (most:=125) (by omega) (RC.upd dl bV (aa S aF) bW)) fun eV dm bX eW=>?_
 refine gM dm fun x52 dn dp=>?_
 refine L0<|CS (((ai.mk b false 0).wordsC 1).wordV)<|Pl 1<|?_
 refine L0<|cm (be bX (Ne.symm S) bU) 3 (mG c 0 ((ai.mk b false 0).wordV) (((ai.mk b false 0).wordsC 1).wordV) 0 0 0 0 0 0 0 0 nS nS nS nS 0 0 0 0 0 nS) fun eX dq bY=>nl<|bn<|tn<|ak 1<|?_
 have b0:=us bX bY
 have bZ:=ut bW b0 (ac (ni f.size d) (ac (ni (le f.size i.size) g) aC))
 refine ay<|m2 (fb (RC.upd dp bY (aa S aF) bZ)) fun eY b1 an=>nt<|sq<|ak 3<|L0<|eH (p:=⟨l,3,none⟩) (v:=vI x52.endC.e) (RC.fld b1)<|ah 1<|?_
 have c2:=ud bZ an (le f.size d)
 have hs:aj aW 0 c b=bt (aT.mk c 0 ((ai.mk b false 0).wordV) (((ai.mk b false 0).wordsC 1).wordV) 0 0 0 0 0 0 0 0 [] [] [] [] 0 0 0 0 0 []) x52:=by
   subst dn
   unfold aj aW cz cO ei dr dh dv dx mp
   (try simp only[t,bj,dQ,dU,dW,dT,dR,reduceIte,uA,uR])
   all_goals rfl
 refine cb ((x52.endC.e != 0)) (fun b2=>?_) (fun b2=>?_)
 have b3:=az b2
 refine sq<|Rg 7 (fun w'=>w'.cell? ⟨l,3,none⟩=some (vI x52.endC.e)) fun eZ ao=>?_
 have c3:=RC.upd b1 ao aF (aH.step (RC.u b1) ao)
 refine bp (RC.fld c3) fun T=>Rt 0 T<|Rt 1 T<|Rt 2 T<|Rt 3 T<|Rl 4 T (fun _ hs=>hs)<|?_
 refine R0 5 rfl<|gk (ub (ut q (ut aZ (u1 b0 (aJ an ao) im) (ac im (ac im aC))) (ac (nr d) (ac (ni i.size g) aC))) j) mZ fun f0 ds c4=>?_
 have c5:=ud c2 (uz ao c4) r
 refine bp (RC.fld (RC.upd c3 c4 (aa (Ne.symm (nb (au j) lr d)) aF) c5)) fun dt=>Rt 6 dt<|re<|tn<|aV<|bH ds (vI x52.endC.e)<|?_
 rw[hs]
 exact bv b3 c5
 have b3:=aA b2
 refine bo<|sg<|?_
 refine L0<|bO (be an (Ne.symm S) dq)<|?_
 refine aG (ub (ut q (ut aZ (u1 b0 an im) (ac im (ac im aC))) (ac (nr d) (ac (ni i.size g) aC))) j) (mG c 0 ((ai.mk b false 0).wordV) (((ai.mk b false 0).wordsC 1).wordV) 0 0 0 0 0 0 0 0 nS nS nS nS 0 0 0 0 0 nS) fun f1 du dw=>ah 1<|rt<|bH du (vI 0)<|?_
 rw[hs]
 exact bE b3 ⟨_,_,_,_,_,rfl,aS.nil ..,aS.nil ..,(fun _ _ _=>aS.nil ..),aS.nil ..,aS.nil ..,(cY (by omega))⟩ (ud c2 dw r)
 have M:=(bT t).1
 have N:=(bT t).2
 refine aD 3<|cb ((c==6)) (fun y=>?_) (fun y=>?_)
 have dy:=ag y
 refine ak 1<|?_
 have dz:RC w _ A cp b J l (ai.mk b false 0):=⟨hsl,s,(Nat.le_trans f.size d),⟨0,(ub G o),Nat.zero_le _,rfl⟩,by omega⟩
 refine ay<|m3 (de dz) fun f2 dA c6 f3=>Pl 1<|?_
 have U:=nb (au o) lr g
 refine L0<|cm (be c6 (Ne.symm U) L) 2 (mG c 0 ((ai.mk b false 0).wordV) 0 0 0 0 0 0 0 0 0 nS nS nS nS 0 0 0 0 0 nS) fun f4 dB c7=>nt<|go<|Pl 1<|?_
 have b4:=us c6 c7
 have c8:=ut s b4 (ac (ni f.size d) (ac (ni (le f.size i.size) g) aC))
 refine ay<|m3 (de (RC.upd dA c7 (aa U aF) c8)) fun f5 dC c9 f6=>Pl 1<|?_
 refine L0<|cm (be c9 (Ne.symm U) dB) 4 (mG c 0 ((ai.mk b false 0).wordV) 0 (((ai.mk b false 0).wordsC 1).wordV) 0 0 0 0 0 0 0 nS nS nS nS 0 0 0 0 0 nS) fun f7 dD ca=>nl<|bn<|tn<|ak 1<|?_
 have b5:=us c9 ca
 have cc:=ut c8 b5 (ac (ni f.size d) (ac (ni (le f.size i.size) g) aC))
 refine ay<|m2 (fb (RC.upd dC ca (aa U aF) cc)) fun f8 b6 ap=>nt<|sq<|ak 3<|L0<|eH (p:=⟨l,3,none⟩) (v:=vI (((((ai.mk b false 0).wordsC 1).wordsC 1).endC).e)) (RC.fld b6)<|ah 1<|?_
 have cd:=ud cc ap (le f.size d)
 have hs:aj aW 0 c b=bt (aT.mk c 0 ((ai.mk b false 0).wordV) 0 (((ai.mk b false 0).wordsC 1).wordV) 0 0 0 0 0 0 0 [] [] [] [] 0 0 0 0 0 []) (((ai.mk b false 0).wordsC 1).wordsC 1):=by
   unfold aj aW cz cO ei dr dh dv dx mp
   (try simp only[t,M,N,y,bj,dQ,dU,dW,dT,dR,reduceIte,uA,uR])
   all_goals rfl
 refine cb (((((((ai.mk b false 0).wordsC 1).wordsC 1).endC).e)!=0)) (fun b7=>?_) (fun b7=>?_)
 have b8:=az b7
 refine sq<|Rg 7 (fun w'=>w'.cell? ⟨l,3,none⟩=some (vI (((((ai.mk b false 0).wordsC 1).wordsC 1).endC).e))) fun f9 aq=>?_
 have cg:=RC.upd b6 aq aF (aH.step (RC.u b6) aq)
 refine bp (RC.fld cg) fun V=>Rt 0 V<|Rt 1 V<|Rt 2 V<|Rt 3 V<|Rl 4 V (fun _ hs=>hs)<|?_
 refine R0 5 rfl<|gk (ub (ut q (ut b4 (u1 b5 (aJ ap aq) im) (ac im (ac im aC))) (ac (nr d) (ac (ni i.size g) aC))) j) mZ fun fa dE ch=>?_
 have ci:=ud cd (uz aq ch) r
 refine bp (RC.fld (RC.upd cg ch (aa (Ne.symm (nb (au j) lr d)) aF) ci)) fun dF=>Rt 6 dF<|re<|tn<|aV<|bH dE (vI (((((ai.mk b false 0).wordsC 1).wordsC 1).endC).e))<|?_
 rw[hs]
 exact bv b8 ci
 have b8:=aA b7
 refine bo<|sg<|?_
 refine L0<|bO (be ap (Ne.symm U) dD)<|?_
 refine aG (ub (ut q (ut b4 (u1 b5 ap im) (ac im (ac im aC))) (ac (nr d) (ac (ni i.size g) aC))) j) (mG c 0 ((ai.mk b false 0).wordV) 0 (((ai.mk b false 0).wordsC 1).wordV) 0 0 0 0 0 0 0 nS nS nS nS 0 0 0 0 0 nS) fun fc dG dH=>ah 1<|rt<|bH dG (vI 0)<|?_
 rw[hs]
 exact bE b8 ⟨_,_,_,_,_,rfl,aS.nil ..,aS.nil ..,(fun _ _ _=>aS.nil ..),aS.nil ..,aS.nil ..,(cY (by omega))⟩ (ud cd dH r)
 have dy:=am y
 refine aD 3<|cb ((c==16)) (fun C=>?_) (fun C=>?_)
 have dI:=ag C
 refine ak 1<|?_
 have dJ:RC w _ A cp b J l (ai.mk b false 0):=⟨hsl,s,(Nat.le_trans f.size d),⟨0,(ub G o),Nat.zero_le _,rfl⟩,by omega⟩
 refine ay<|m3 (de dJ) fun fd dK W fe=>Pl 1<|?_
 have z:=nb (au o) lr g
 refine L0<|cm (be W (Ne.symm z) L) 2 (mG c 0 ((ai.mk b false 0).wordV) 0 0 0 0 0 0 0 0 0 nS nS nS nS 0 0 0 0 0 nS) fun ff cj X=>aM 2<|aE cj 2<|?_
 have b9:=us W X
 have ck:=ut s b9 (ac (ni f.size d) (ac (ni (le f.size i.size) g) aC))
 refine ay<|m3 (nM (a:=(ai.mk b false 0).wordV) (most:=123) (by omega) (RC.upd dK X (aa z aF) ck)) fun fg dL Y fh=>?_
 refine gM dL fun cl dM dN=>?_
 refine L0<|CS (((ai.mk b false 0).wordsC 1).wordV)<|Pl 1<|?_
 refine L0<|cm (be Y (Ne.symm z) cj) 3 (mG c 0 ((ai.mk b false 0).wordV) (((ai.mk b false 0).wordsC 1).wordV) 0 0 0 0 0 0 0 0 nS nS nS nS 0 0 0 0 0 nS) fun fi dO Z=>cN 2<|c1<|ak 1<|?_
 have ba:=us Y Z
 have cn:=ut ck ba (ac (ni f.size d) (ac (ni (le f.size i.size) g) aC))
 refine ay<|m3 (eN (RC.upd dN Z (aa z aF) cn)) fun fj dP a0 fk=>bq cl.byteV<|Pl 1<|aM 3<|?_
 have co:=be a0 (Ne.symm z) dO
 refine aE co 3<|bq (((ai.mk b false 0).wordsC 1).wordV)<|bq (2*(((ai.mk b false 0).wordsC 1).wordV))<|Pl 1<|ay<|m2 (bg ((cl.byteV==(2*(((ai.mk b false 0).wordsC 1).wordV)))) 5 dP) fun fl dS a1=>?_
 refine gM dS fun D dV dX=>?_
 refine nt<|go<|Pl 2<|?_
 have cq:=be a1 (Ne.symm z) co
 refine aE cq 3<|bq (((ai.mk b false 0).wordsC 1).wordV)<|ay<|qH (i7 (n:=((ai.mk b false 0).wordsC 1).wordV) (by omega) dX) fun cr cs fm ar fn fo dY ct=>Pl 1<|?_
 refine L0<|cm (be ct (Ne.symm z) cq) 12 (mG c 0 ((ai.mk b false 0).wordV) (((ai.mk b false 0).wordsC 1).wordV) 0 0 0 0 0 0 0 0 (.slice cr ((D.wordsR (((ai.mk b false 0).wordsC 1).wordV)).length) cs) nS nS nS 0 0 0 0 0 nS) fun fp dZ bb=>nl<|bn<|tn<|ak 1<|?_
 have bc:=ui a0 (ui a1 (us ct bb))
 have cv:=ut cn bc (ac (ni f.size d) (ac (ni (le f.size i.size) g) aC))
 refine ay<|m2 (fb (RC.upd dY bb (aa z aF) cv)) fun fq bd a2=>nt<|sq<|ak 3<|L0<|eH (p:=⟨l,3,none⟩) (v:=vI (((D.wordsC (((ai.mk b false 0).wordsC 1).wordV)).endC).e)) (RC.fld bd)<|ah 1<|?_
 have cw:=ud cv a2 (le f.size d)
 have hs:aj aW 0 c b=bt (aT.mk c 0 ((ai.mk b false 0).wordV) (((ai.mk b false 0).wordsC 1).wordV) 0 0 0 0 0 0 0 0 (D.wordsR (((ai.mk b false 0).wordsC 1).wordV)) [] [] [] 0 0 0 0 0 []) (D.wordsC (((ai.mk b false 0).wordsC 1).wordV)):=by
   subst dV dM
   unfold aj aW cz cO ei dr dh dv dx mp
   (try simp only[t,M,N,y,C,bj,dQ,dU,dW,dT,dR,reduceIte,uA,uR])
   all_goals rfl
 refine cb (((((D.wordsC (((ai.mk b false 0).wordsC 1).wordV)).endC).e)!=0)) (fun bf=>?_) (fun bf=>?_)
 have bh:=az bf
 refine sq<|Rg 7 (fun w'=>w'.cell? ⟨l,3,none⟩=some (vI (((D.wordsC (((ai.mk b false 0).wordsC 1).wordV)).endC).e))) fun fr av=>?_
 have cx:=RC.upd bd av aF (aH.step (RC.u bd) av)
 refine bp (RC.fld cx) fun a3=>Rt 0 a3<|Rt 1 a3<|Rt 2 a3<|Rt 3 a3<|Rl 4 a3 (fun _ hs=>hs)<|?_
 refine R0 5 rfl<|gk (ub (ut q (ut b9 (ut ba (u1 bc (aJ a2 av) im) (ac im (ac im aC))) (ac im (ac im aC))) (ac (nr d) (ac (ni i.size g) aC))) j) mZ fun fs e0 cy=>?_
 have cA:=ud cw (uz av cy) r
 refine bp (RC.fld (RC.upd cx cy (aa (Ne.symm (nb (au j) lr d)) aF) cA)) fun e1=>Rt 6 e1<|re<|tn<|aV<|bH e0 (vI (((D.wordsC (((ai.mk b false 0).wordsC 1).wordV)).endC).e))<|?_
 rw[hs]
 exact bv bh cA
 have bh:=aA bf
 refine bo<|sg<|?_
 refine L0<|bO (be a2 (Ne.symm z) dZ)<|?_
 refine aG (ub (ut q (ut b9 (ut ba (u1 bc a2 im) (ac im (ac im aC))) (ac im (ac im aC))) (ac (nr d) (ac (ni i.size g) aC))) j) (mG c 0 ((ai.mk b false 0).wordV) (((ai.mk b false 0).wordsC 1).wordV) 0 0 0 0 0 0 0 0 (.slice cr ((D.wordsR (((ai.mk b false 0).wordsC 1).wordV)).length) cs) nS nS nS 0 0 0 0 0 nS) fun ft e2 cB=>ah 1<|rt<|bH e2 (vI 0)<|?_
 rw[hs]
 exact bE bh ⟨_,_,_,_,_,rfl,((ax ar (us bb (us a2 cB)) (fun x hx=>(aa (fun e=>(aL (au aY) (le (le (le (le (le (le F.size W.size) X.size) Y.size) Z.size) a0.size) a1.size) ar) (e▸hx)) (aa (fun e=>(aL (au o) (le (le (le (le (le (le (le Q.size F.size) W.size) X.size) Y.size) Z.size) a0.size) a1.size) ar) (e▸hx)) (aa (fun e=>(aL (au j) (le (le (le (le (le (le (le (le i.size Q.size) F.size) W.size) X.size) Y.size) Z.size) a0.size) a1.size) ar) (e▸hx)) aF)))) (fun _ _ h=>h))).rd,aS.nil ..,(fun _ _ _=>aS.nil ..),aS.nil ..,aS.nil ..,(cY (by omega))⟩ (ud cw cB r)
 have dI:=am C
 refine aD 3<|cb ((c==22)) (fun H=>?_) (fun H=>?_)
 have e3:=ag H
 refine ak 1<|?_
 have e4:RC w _ A cp b J l (ai.mk b false 0):=⟨hsl,s,(Nat.le_trans f.size d),⟨0,(ub G o),Nat.zero_le _,rfl⟩,by omega⟩
 refine ay<|m3 (de e4) fun fu e5 cD fv=>Pl 1<|?_
 have I:=nb (au o) lr g
 refine L0<|cm (be cD (Ne.symm I) L) 2 (mG c 0 ((ai.mk b false 0).wordV) 0 0 0 0 0 0 0 0 0 nS nS nS nS 0 0 0 0 0 nS) fun fw e6 cE=>aM 1<|?_
 have bi:=us cD cE
 have cF:=ut s bi (ac (ni f.size d) (ac (ni (le f.size i.size) g) aC))
 refine ay<|m3 (de (RC.upd e5 cE (aa I aF) cF)) fun fx e7 cG fy=>Pl 1<|?_
 refine L0<|cm (be cG (Ne.symm I) e6) 5 (mG c 0 ((ai.mk b false 0).wordV) 0 0 (((ai.mk b false 0).wordsC 1).wordV) 0 0 0 0 0 0 nS nS nS nS 0 0 0 0 0 nS) fun fz e8 cH=>nt<|go<|Pl 1<|?_
 have bm:=us cG cH
 have cI:=ut cF bm (ac (ni f.size d) (ac (ni (le f.size i.size) g) aC))
 refine ay<|m3 (de (RC.upd e7 cH (aa I aF) cI)) fun fA e9 cJ fB=>Pl 1<|?_
 refine L0<|cm (be cJ (Ne.symm I) e8) 6 (mG c 0 ((ai.mk b false 0).wordV) 0 0 (((ai.mk b false 0).wordsC 1).wordV) ((((ai.mk b false 0).wordsC 1).wordsC 1).wordV) 0 0 0 0 0 nS nS nS nS 0 0 0 0 0 nS) fun fC ea cK=>nl<|bn<|tn<|ak 1<|?_
 have bs:=us cJ cK
 have cL:=ut cI bs (ac (ni f.size d) (ac (ni (le f.size i.size) g) aC))
 refine ay<|m2 (fb (RC.upd e9 cK (aa I aF) cL)) fun fD bu aw=>nt<|sq<|ak 3<|L0<|eH (p:=⟨l,3,none⟩) (v:=vI ((((((ai.mk b false 0).wordsC 1).wordsC 1).wordsC 1).endC).e)) (RC.fld bu)<|ah 1<|?_
 have cM:=ud cL aw (le f.size d)
 have hs:aj aW 0 c b=bt (aT.mk c 0 ((ai.mk b false 0).wordV) 0 0 (((ai.mk b false 0).wordsC 1).wordV) ((((ai.mk b false 0).wordsC 1).wordsC 1).wordV) 0 0 0 0 0 [] [] [] [] 0 0 0 0 0 []) ((((ai.mk b false 0).wordsC 1).wordsC 1).wordsC 1):=by
   unfold aj aW cz cO ei dr dh dv dx mp
   (try simp only[t,M,N,y,C,H,bj,dQ,dU,dW,dT,dR,reduceIte,uA,uR])
   all_goals rfl
 refine cb ((((((((ai.mk b false 0).wordsC 1).wordsC 1).wordsC 1).endC).e)!=0)) (fun bw=>?_) (fun bw=>?_)
 have bx:=az bw
 refine sq<|Rg 7 (fun w'=>w'.cell? ⟨l,3,none⟩=some (vI ((((((ai.mk b false 0).wordsC 1).wordsC 1).wordsC 1).endC).e))) fun fE aB=>?_
 have cP:=RC.upd bu aB aF (aH.step (RC.u bu) aB)
 refine bp (RC.fld cP) fun a4=>Rt 0 a4<|Rt 1 a4<|Rt 2 a4<|Rt 3 a4<|Rl 4 a4 (fun _ hs=>hs)<|?_
 refine R0 5 rfl<|gk (ub (ut q (ut bi (ut bm (u1 bs (aJ aw aB) im) (ac im (ac im aC))) (ac im (ac im aC))) (ac (nr d) (ac (ni i.size g) aC))) j) mZ fun fF eb cQ=>?_
 have cR:=ud cM (uz aB cQ) r
 refine bp (RC.fld (RC.upd cP cQ (aa (Ne.symm (nb (au j) lr d)) aF) cR)) fun ec=>Rt 6 ec<|re<|tn<|aV<|bH eb (vI ((((((ai.mk b false 0).wordsC 1).wordsC 1).wordsC 1).endC).e))<|?_
 rw[hs]
 exact bv bx cR
 have bx:=aA bw
 refine bo<|sg<|?_
 refine L0<|bO (be aw (Ne.symm I) ea)<|?_
 refine aG (ub (ut q (ut bi (ut bm (u1 bs aw im) (ac im (ac im aC))) (ac im (ac im aC))) (ac (nr d) (ac (ni i.size g) aC))) j) (mG c 0 ((ai.mk b false 0).wordV) 0 0 (((ai.mk b false 0).wordsC 1).wordV) ((((ai.mk b false 0).wordsC 1).wordsC 1).wordV) 0 0 0 0 0 nS nS nS nS 0 0 0 0 0 nS) fun fG ed ee=>ah 1<|rt<|bH ed (vI 0)<|?_
 rw[hs]
 exact bE bx ⟨_,_,_,_,_,rfl,aS.nil ..,aS.nil ..,(fun _ _ _=>aS.nil ..),aS.nil ..,aS.nil ..,(cY (by omega))⟩ (ud cM ee r)
 have e3:=am H
 refine aD 3<|cb ((c==23)) (fun O=>?_) (fun O=>?_)
 have ef:=ag O
 refine ak 1<|?_
 have eg:RC w _ A cp b J l (ai.mk b false 0):=⟨hsl,s,(Nat.le_trans f.size d),⟨0,(ub G o),Nat.zero_le _,rfl⟩,by omega⟩
 refine ay<|m3 (de eg) fun fH eh a5 fI=>Pl 1<|?_
 have B:=nb (au o) lr g
 refine L0<|cm (be a5 (Ne.symm B) L) 2 (mG c 0 ((ai.mk b false 0).wordV) 0 0 0 0 0 0 0 0 0 nS nS nS nS 0 0 0 0 0 nS) fun fJ cS a6=>aM 2<|aE cS 2<|?_
 have bz:=us a5 a6
 have cT:=ut s bz (ac (ni f.size d) (ac (ni (le f.size i.size) g) aC))
 refine ay<|m3 (nM (a:=(ai.mk b false 0).wordV) (most:=125) (by omega) (RC.upd eh a6 (aa B aF) cT)) fun fK ej a7 fL=>?_
 refine gM ej fun k ek el=>?_
 refine L0<|CS (((ai.mk b false 0).wordsC 1).wordV)<|Pl 1<|?_
 refine L0<|cm (be a7 (Ne.symm B) cS) 3 (mG c 0 ((ai.mk b false 0).wordV) (((ai.mk b false 0).wordsC 1).wordV) 0 0 0 0 0 0 0 0 nS nS nS nS 0 0 0 0 0 nS) fun fM em a8=>aM 1<|?_
 have bA:=us a7 a8
 have cU:=ut cT bA (ac (ni f.size d) (ac (ni (le f.size i.size) g) aC))
 refine ay<|m3 (de (RC.upd el a8 (aa B aF) cU)) fun fN eo a9 fO=>Pl 1<|?_
 refine L0<|cm (be a9 (Ne.symm B) em) 7 (mG c 0 ((ai.mk b false 0).wordV) (((ai.mk b false 0).wordsC 1).wordV) 0 0 0 k.wordV 0 0 0 0 nS nS nS nS 0 0 0 0 0 nS) fun fP cW ab=>aM 2<|aE cW 7<|?_
 have bB:=us a9 ab
 have cX:=ut cU bB (ac (ni f.size d) (ac (ni (le f.size i.size) g) aC))
 refine ay<|m3 (nM (a:=k.wordV) (most:=121) (by omega) (RC.upd eo ab (aa B aF) cX)) fun fQ ep aI fR=>Pl 1<|aM 1<|ay<|m3 (eN ep) fun fS eq aN fT=>bq ((bN (k.wordsC 1) k.wordV 121).byteV)<|Pl 1<|aM 3<|bq (2*((k.wordsC 1).wordV))<|Pl 1<|ay<|m2 (bg ((((bN (k.wordsC 1) k.wordV 121).byteV)==(2*((k.wordsC 1).wordV)))) 5 eq) fun fU er aO=>?_
 refine gM er fun E es et=>?_
 refine nt<|go<|Pl 2<|ay<|qH (i7 (n:=(k.wordsC 1).wordV) (by omega) et) fun cZ d0 fV aP fW fX eu ev=>Pl 1<|?_
 have d1:=u1 aI (u1 aN (u1 aO ev im) im) im
 refine L0<|cm (be d1 (Ne.symm B) cW) 12 (mG c 0 ((ai.mk b false 0).wordV) (((ai.mk b false 0).wordsC 1).wordV) 0 0 0 k.wordV 0 0 0 0 (.slice cZ ((E.wordsR ((k.wordsC 1).wordV)).length) d0) nS nS nS 0 0 0 0 0 nS) fun fY ew bC=>nl<|bn<|tn<|ak 1<|?_
 have bD:=us d1 bC
 have d2:=ut cX bD (ac (ni f.size d) (ac (ni (le f.size i.size) g) aC))
 refine ay<|m2 (fb (RC.upd eu bC (aa B aF) d2)) fun fZ bF ad=>nt<|sq<|ak 3<|L0<|eH (p:=⟨l,3,none⟩) (v:=vI (((E.wordsC ((k.wordsC 1).wordV)).endC).e)) (RC.fld bF)<|ah 1<|?_
 have d3:=ud d2 ad (le f.size d)
 have hs:aj aW 0 c b=bt (aT.mk c 0 ((ai.mk b false 0).wordV) (((ai.mk b false 0).wordsC 1).wordV) 0 0 0 k.wordV 0 0 0 0 (E.wordsR ((k.wordsC 1).wordV)) [] [] [] 0 0 0 0 0 []) (E.wordsC ((k.wordsC 1).wordV)):=by
   subst es ek
   unfold aj aW cz cO ei dr dh dv dx mp
   (try simp only[t,M,N,y,C,H,O,bj,dQ,dU,dW,dT,dR,reduceIte,uA,uR])
   all_goals rfl
 refine cb (((((E.wordsC ((k.wordsC 1).wordV)).endC).e)!=0)) (fun bI=>?_) (fun bI=>?_)
 have bJ:=az bI
 refine sq<|Rg 7 (fun w'=>w'.cell? ⟨l,3,none⟩=some (vI (((E.wordsC ((k.wordsC 1).wordV)).endC).e))) fun g0 aQ=>?_
 have d4:=RC.upd bF aQ aF (aH.step (RC.u bF) aQ)
 refine bp (RC.fld d4) fun ae=>Rt 0 ae<|Rt 1 ae<|Rt 2 ae<|Rt 3 ae<|Rl 4 ae (fun _ hs=>hs)<|?_
 refine R0 5 rfl<|gk (ub (ut q (ut bz (ut bA (ut bB (u1 bD (aJ ad aQ) im) (ac im (ac im aC))) (ac im (ac im aC))) (ac im (ac im aC))) (ac (nr d) (ac (ni i.size g) aC))) j) mZ fun g1 ex d5=>?_
 have d6:=ud d3 (uz aQ d5) r
 refine bp (RC.fld (RC.upd d4 d5 (aa (Ne.symm (nb (au j) lr d)) aF) d6)) fun ey=>Rt 6 ey<|re<|tn<|aV<|bH ex (vI (((E.wordsC ((k.wordsC 1).wordV)).endC).e))<|?_
 rw[hs]
 exact bv bJ d6
 have bJ:=aA bI
 refine bo<|sg<|?_
 refine L0<|bO (be ad (Ne.symm B) ew)<|?_
 refine aG (ub (ut q (ut bz (ut bA (ut bB (u1 bD ad im) (ac im (ac im aC))) (ac im (ac im aC))) (ac im (ac im aC))) (ac (nr d) (ac (ni i.size g) aC))) j) (mG c 0 ((ai.mk b false 0).wordV) (((ai.mk b false 0).wordsC 1).wordV) 0 0 0 k.wordV 0 0 0 0 (.slice cZ ((E.wordsR ((k.wordsC 1).wordV)).length) d0) nS nS nS 0 0 0 0 0 nS) fun g2 ez d7=>ah 1<|rt<|bH ez (vI 0)<|?_
 rw[hs]
 exact bE bJ ⟨_,_,_,_,_,rfl,((ax aP (us bC (us ad d7)) (fun x hx=>(aa (fun e=>(aL (au aY) (le (le (le (le (le (le (le (le (le F.size a5.size) a6.size) a7.size) a8.size) a9.size) ab.size) aI.size) aN.size) aO.size) aP) (e▸hx)) (aa (fun e=>(aL (au o) (le (le (le (le (le (le (le (le (le (le Q.size F.size) a5.size) a6.size) a7.size) a8.size) a9.size) ab.size) aI.size) aN.size) aO.size) aP) (e▸hx)) (aa (fun e=>(aL (au j) (le (le (le (le (le (le (le (le (le (le (le i.size Q.size) F.size) a5.size) a6.size) a7.size) a8.size) a9.size) ab.size) aI.size) aN.size) aO.size) aP) (e▸hx)) aF)))) (fun _ _ h=>h))).rd,aS.nil ..,(fun _ _ _=>aS.nil ..),aS.nil ..,aS.nil ..,(cY (by omega))⟩ (ud d3 d7 r)
 have ef:=am O
 refine ak 3<|cu 3 [168] 171 ((c==24)) (fun K d8=>?_) ?_
 refine bl 168 ((c==24)) (fun af=>?_) (fun af=>?_)
 have eA:=ag af
 exact Pl 3<|ce d8 true af
 have eA:=am af
 exact Pl 3<|ce d8 false af
 refine ah 1<|cb ((c==24)) (fun P=>?_) (fun P=>?_)
 have eB:=ag P
 refine go<|Pl 1<|?_
 have eC:RC w _ A cp b J l (ai.mk b false 0):=⟨hsl,s,(Nat.le_trans f.size d),⟨0,(ub G o),Nat.zero_le _,rfl⟩,by omega⟩
 refine ay<|m3 (de eC) fun g3 eD d9 g4=>Pl 1<|?_
 have bK:=nb (au o) lr g
 refine L0<|cm (be d9 (Ne.symm bK) L) 2 (mG c 0 ((ai.mk b false 0).wordV) 0 0 0 0 0 0 0 0 0 nS nS nS nS 0 0 0 0 0 nS) fun g5 eE db=>nl<|bn<|tn<|ak 1<|?_
 have bL:=us d9 db
 have dc:=ut s bL (ac (ni f.size d) (ac (ni (le f.size i.size) g) aC))
 refine ay<|m2 (fb (RC.upd eD db (aa bK aF) dc)) fun g6 bM aR=>nt<|sq<|ak 3<|L0<|eH (p:=⟨l,3,none⟩) (v:=vI ((((ai.mk b false 0).wordsC 1).endC).e)) (RC.fld bM)<|ah 1<|?_
 have dd:=ud dc aR (le f.size d)
 have hs:aj aW 0 c b=bt (aT.mk c 0 ((ai.mk b false 0).wordV) 0 0 0 0 0 0 0 0 0 [] [] [] [] 0 0 0 0 0 []) ((ai.mk b false 0).wordsC 1):=by
   unfold aj aW cz cO ei dr dh dv dx mp
   (try simp only[t,M,N,y,C,H,O,P,bj,dQ,dU,dW,dT,dR,reduceIte,uA,uR])
   all_goals rfl
 refine cb ((((((ai.mk b false 0).wordsC 1).endC).e)!=0)) (fun bP=>?_) (fun bP=>?_)
 have bQ:=az bP
 refine sq<|Rg 7 (fun w'=>w'.cell? ⟨l,3,none⟩=some (vI ((((ai.mk b false 0).wordsC 1).endC).e))) fun g7 aU=>?_
 have df:=RC.upd bM aU aF (aH.step (RC.u bM) aU)
 refine bp (RC.fld df) fun al=>Rt 0 al<|Rt 1 al<|Rt 2 al<|Rt 3 al<|Rl 4 al (fun _ hs=>hs)<|?_
 refine R0 5 rfl<|gk (ub (ut q (u1 bL (aJ aR aU) im) (ac (nr d) (ac (ni i.size g) aC))) j) mZ fun g8 eF dg=>?_
 have di:=ud dd (uz aU dg) r
 refine bp (RC.fld (RC.upd df dg (aa (Ne.symm (nb (au j) lr d)) aF) di)) fun eG=>Rt 6 eG<|re<|tn<|aV<|bH eF (vI ((((ai.mk b false 0).wordsC 1).endC).e))<|?_
 rw[hs]
 exact bv bQ di
 have bQ:=aA bP
 refine bo<|sg<|?_
 refine L0<|bO (be aR (Ne.symm bK) eE)<|?_
 refine aG (ub (ut q (u1 bL aR im) (ac (nr d) (ac (ni i.size g) aC))) j) (mG c 0 ((ai.mk b false 0).wordV) 0 0 0 0 0 0 0 0 0 nS nS nS nS 0 0 0 0 0 nS) fun g9 eI eJ=>ah 1<|rt<|bH eI (vI 0)<|?_
 rw[hs]
 exact bE bQ ⟨_,_,_,_,_,rfl,aS.nil ..,aS.nil ..,(fun _ _ _=>aS.nil ..),aS.nil ..,aS.nil ..,(cY (by omega))⟩ (ud dd eJ r)
 have eB:=am P
 refine aD 3<|cf P<|ak 1<|?_
 refine aG (ub q j) mZ fun ga eK eL=>ah 1<|rt<|br<|tr<|bH eK (vI 4)<|?_
 exact cC (by unfold aj aW cz cO ei dr dh dv dx mp;(try simp only[t,M,N,y,C,H,O,P,bj,dQ,dU,dW,dT,dR,reduceIte,uA,uR])<;>rfl) (bG (ud s eL r))
theorem o7(hcode:B8 c)(hsl:aX m w (.slice A b.length cp) b)(hb:b.length≤1048576) :
    Calls Tryz.prog 110 #[vI 1,vB c,.slice A b.length cp] w (cV (.slice A b.length cp) b (aj aW 1 c b) w):=by
 obtain⟨hcode1,hcode2⟩:=hcode
 have hln:(b.length:Int)≤1048576:=by omega
 refine en 221 Tryz.func110 rfl<|sg<|aK mZ fun e1 e2 r j f=>ah 1<|sq<|aD 6<|c0<|bo<|ak 2<|L0<|da #[.slice A b.length cp,vI 0,.bool false,vI 0] fun k e3 d o i=>Pl 1<|aM 2<|aK mZ fun e4 e5 g aq L=>aG aq (mC c) fun M N B=>?_
 refine nt<|sq<|bk<|ak 6<|cu 3 [35] 38 (((c==3)||(c==4))) (fun K bu=>?_) ?_
 refine bl 35 ((c==3)) (fun O=>?_) (fun O=>?_)
 have cH:=ag O
 exact Pl 3<|ce bu true (by rw[O];rfl)
 have cH:=am O
 exact Pl 3<|ce bu (c==4) (by rw[O];rfl)
 refine Pl 1<|cu 3 [39] 42 ((((c==3)||(c==4))||(c==23))) (fun K bw=>?_) ?_
 refine bl 39 (((c==3)||(c==4))) (fun ar=>?_) (fun ar=>?_)
 exact Pl 3<|ce bw true (by rw[ar];rfl)
 exact Pl 3<|ce bw (c==23) (by rw[ar];rfl)
 refine ah 2<|?_
 have F:=ud L B g
 have q:=aJ i F
 have s:=aJ f q
 refine cb ((((c==3)||(c==4))||(c==23))) (fun t=>?_) (fun t=>?_)
 refine ak 1<|?_
 have cI:RC w _ A cp b M k (ai.mk b false 0):=⟨hsl,s,(Nat.le_trans f.size d),⟨0,(ub F o),Nat.zero_le _,rfl⟩,by omega⟩
 refine ay<|m3 (eN cI) fun e6 cJ a2 e7=>bq ((ai.mk b false 0).byteV)<|Pl 1<|aM 2<|L0<|Oe (vI (Int.tmod ((ai.mk b false 0).byteV) 2)) (vI (((ai.mk b false 0).byteV)%2)) (congrArg (Value.int .i64) (Int.tmod_eq_emod_of_nonneg (by omega)))<|Pl 2<|cu 3 [51] 54 ((((((ai.mk b false 0).byteV)%2)==0)&&(decide (0<((ai.mk b false 0).byteV))))) (fun K bx=>?_) ?_
 refine bl 51 (((((ai.mk b false 0).byteV)%2)==0)) (fun P=>?_) (fun P=>?_)
 have cK:=ag P
 exact Pl 3<|ce bx (decide (0<((ai.mk b false 0).byteV))) (by rw[P];rfl)
 have cK:=am P
 exact Pl 3<|ce bx false (by rw[P];rfl)
 refine Pl 1<|cu 3 [55] 58 (((((((ai.mk b false 0).byteV)%2)==0)&&(decide (0<((ai.mk b false 0).byteV))))&&(decide (((ai.mk b false 0).byteV)≤250)))) (fun K bz=>?_) ?_
 refine bl 55 ((((((ai.mk b false 0).byteV)%2)==0)&&(decide (0<((ai.mk b false 0).byteV))))) (fun av=>?_) (fun av=>?_)
 exact Pl 3<|ce bz (decide (((ai.mk b false 0).byteV)≤250)) (by rw[av];rfl)
 exact Pl 3<|ce bz false (by rw[av];rfl)
 refine ay<|m2 (bg (((((((ai.mk b false 0).byteV)%2)==0)&&(decide (0<((ai.mk b false 0).byteV))))&&(decide (((ai.mk b false 0).byteV)≤250)))) 5 cJ) fun e8 cL a3=>?_
 refine gM cL fun x49 cM cP=>?_
 refine nt<|go<|Pl 2<|L0<|Oe (vI (IntKind.i64.wrap (Int.tdiv ((ai.mk b false 0).byteV) 2))) (vI (((ai.mk b false 0).byteV)/2)) (congrArg (Value.int .i64) (gX (by omega) (by omega)))<|ay<|qH (i7 (n:=(((ai.mk b false 0).byteV)/2)) (by omega) cP) fun bA bB e9 a4 ea eb cQ cR=>Pl 1<|?_
 have bC:=u1 a2 (u1 a3 cR im) im
 have aw:=nb (au o) lr g
 refine L0<|cm (be bC (Ne.symm aw) N) 12 (mG c 0 0 0 0 0 0 0 0 0 0 0 (.slice bA ((x49.wordsR (((ai.mk b false 0).byteV)/2)).length) bB) nS nS nS 0 0 0 0 0 nS) fun ec cS aB=>nl<|bn<|tn<|ak 1<|?_
 have aI:=us bC aB
 have bD:=ut s aI (ac (ni f.size d) (ac (ni (le f.size i.size) g) aC))
 refine ay<|m2 (fb (RC.upd cQ aB (aa aw aF) bD)) fun ed aN Q=>nt<|sq<|ak 3<|L0<|eH (p:=⟨k,3,none⟩) (v:=vI (((x49.wordsC (((ai.mk b false 0).byteV)/2)).endC).e)) (RC.fld aN)<|ah 1<|?_
 have bF:=ud bD Q (le f.size d)
 have hs:aj aW 1 c b=bt (aT.mk c 0 0 0 0 0 0 0 0 0 0 0 (x49.wordsR (((ai.mk b false 0).byteV)/2)) [] [] [] 0 0 0 0 0 []) (x49.wordsC (((ai.mk b false 0).byteV)/2)):=by
   subst cM
   unfold aj
   (try simp only[t,bj,dQ,dU,dW,dT,dR,reduceIte,uA,uR,zO t])
   all_goals rfl
 refine cb (((((x49.wordsC (((ai.mk b false 0).byteV)/2)).endC).e)!=0)) (fun aO=>?_) (fun aO=>?_)
 have aP:=az aO
 refine sq<|Rg 7 (fun w'=>w'.cell? ⟨k,3,none⟩=some (vI (((x49.wordsC (((ai.mk b false 0).byteV)/2)).endC).e))) fun ee a5=>?_
 have bI:=RC.upd aN a5 aF (aH.step (RC.u aN) a5)
 refine bp (RC.fld bI) fun R=>Rt 0 R<|Rt 1 R<|Rt 2 R<|Rt 3 R<|Rl 4 R (fun _ hs=>hs)<|?_
 refine R0 5 rfl<|gk (ub (ut q (u1 aI (aJ Q a5) im) (ac (nr d) (ac (ni i.size g) aC))) j) mZ fun ef cT bJ=>?_
 have bK:=ud bF (uz a5 bJ) r
 refine bp (RC.fld (RC.upd bI bJ (aa (Ne.symm (nb (au j) lr d)) aF) bK)) fun cU=>Rt 6 cU<|re<|tn<|aV<|bH cT (vI (((x49.wordsC (((ai.mk b false 0).byteV)/2)).endC).e))<|?_
 rw[hs]
 exact bv aP bK
 have aP:=aA aO
 refine bo<|sg<|?_
 refine L0<|bO (be Q (Ne.symm aw) cS)<|?_
 refine aG (ub (ut q (u1 aI Q im) (ac (nr d) (ac (ni i.size g) aC))) j) (mG c 0 0 0 0 0 0 0 0 0 0 0 (.slice bA ((x49.wordsR (((ai.mk b false 0).byteV)/2)).length) bB) nS nS nS 0 0 0 0 0 nS) fun eg cW bL=>ah 1<|rt<|bH cW (vI 0)<|?_
 rw[hs]
 exact bE aP ⟨_,_,_,_,_,rfl,((ax a4 (us aB (us Q bL)) (fun x hx=>(aa (fun e=>(aL (au aq) (le (le B.size a2.size) a3.size) a4) (e▸hx)) (aa (fun e=>(aL (au o) (le (le (le L.size B.size) a2.size) a3.size) a4) (e▸hx)) (aa (fun e=>(aL (au j) (le (le (le (le i.size L.size) B.size) a2.size) a3.size) a4) (e▸hx)) aF)))) (fun _ _ h=>h))).rd,aS.nil ..,(fun _ _ _=>aS.nil ..),aS.nil ..,aS.nil ..,(cY (by omega))⟩ (ud bF bL r)
 have C:=(bT t).1
 have G:=(bT t).2
 have H:=(bT C).1
 have I:=(bT C).2
 refine ak 3<|sy 68 H<|ah 4<|cf I<|aD 3<|cb ((c==6)) (fun y=>?_) (fun y=>?_)
 have cX:=ag y
 refine ak 1<|?_
 have cZ:RC w _ A cp b M k (ai.mk b false 0):=⟨hsl,s,(Nat.le_trans f.size d),⟨0,(ub F o),Nat.zero_le _,rfl⟩,by omega⟩
 refine ay<|m3 (de cZ) fun eh d0 bM ej=>Pl 1<|?_
 have S:=nb (au o) lr g
 refine L0<|cm (be bM (Ne.symm S) N) 2 (mG c 0 ((ai.mk b false 0).wordV) 0 0 0 0 0 0 0 0 0 nS nS nS nS 0 0 0 0 0 nS) fun ek d1 bN=>nt<|go<|Pl 1<|?_
 have aQ:=us bM bN
 have bP:=ut s aQ (ac (ni f.size d) (ac (ni (le f.size i.size) g) aC))
 refine ay<|m3 (de (RC.upd d0 bN (aa S aF) bP)) fun el d2 bQ em=>Pl 1<|?_
 refine L0<|cm (be bQ (Ne.symm S) d1) 4 (mG c 0 ((ai.mk b false 0).wordV) 0 (((ai.mk b false 0).wordsC 1).wordV) 0 0 0 0 0 0 0 nS nS nS nS 0 0 0 0 0 nS) fun eo d3 bR=>nl<|bn<|tn<|ak 1<|?_
 have aR:=us bQ bR
 have bS:=ut bP aR (ac (ni f.size d) (ac (ni (le f.size i.size) g) aC))
 refine ay<|m2 (fb (RC.upd d2 bR (aa S aF) bS)) fun ep aU a6=>nt<|sq<|ak 3<|L0<|eH (p:=⟨k,3,none⟩) (v:=vI (((((ai.mk b false 0).wordsC 1).wordsC 1).endC).e)) (RC.fld aU)<|ah 1<|?_
 have bU:=ud bS a6 (le f.size d)
 have hs:aj aW 1 c b=bt (aT.mk c 0 ((ai.mk b false 0).wordV) 0 (((ai.mk b false 0).wordsC 1).wordV) 0 0 0 0 0 0 0 [] [] [] [] 0 0 0 0 0 []) (((ai.mk b false 0).wordsC 1).wordsC 1):=by
   unfold aj aW cz cO ei dr dh dv dx mp
   (try simp only[t,C,H,I,G,y,bj,dQ,dU,dW,dT,dR,reduceIte,uA,uR])
   all_goals rfl
 refine cb (((((((ai.mk b false 0).wordsC 1).wordsC 1).endC).e)!=0)) (fun aY=>?_) (fun aY=>?_)
 have aZ:=az aY
 refine sq<|Rg 7 (fun w'=>w'.cell? ⟨k,3,none⟩=some (vI (((((ai.mk b false 0).wordsC 1).wordsC 1).endC).e))) fun eq a7=>?_
 have bV:=RC.upd aU a7 aF (aH.step (RC.u aU) a7)
 refine bp (RC.fld bV) fun T=>Rt 0 T<|Rt 1 T<|Rt 2 T<|Rt 3 T<|Rl 4 T (fun _ hs=>hs)<|?_
 refine R0 5 rfl<|gk (ub (ut q (ut aQ (u1 aR (aJ a6 a7) im) (ac im (ac im aC))) (ac (nr d) (ac (ni i.size g) aC))) j) mZ fun er d4 bW=>?_
 have bX:=ud bU (uz a7 bW) r
 refine bp (RC.fld (RC.upd bV bW (aa (Ne.symm (nb (au j) lr d)) aF) bX)) fun d5=>Rt 6 d5<|re<|tn<|aV<|bH d4 (vI (((((ai.mk b false 0).wordsC 1).wordsC 1).endC).e))<|?_
 rw[hs]
 exact bv aZ bX
 have aZ:=aA aY
 refine bo<|sg<|?_
 refine L0<|bO (be a6 (Ne.symm S) d3)<|?_
 refine aG (ub (ut q (ut aQ (u1 aR a6 im) (ac im (ac im aC))) (ac (nr d) (ac (ni i.size g) aC))) j) (mG c 0 ((ai.mk b false 0).wordV) 0 (((ai.mk b false 0).wordsC 1).wordV) 0 0 0 0 0 0 0 nS nS nS nS 0 0 0 0 0 nS) fun es d6 d7=>ah 1<|rt<|bH d6 (vI 0)<|?_
 rw[hs]
 exact bE aZ ⟨_,_,_,_,_,rfl,aS.nil ..,aS.nil ..,(fun _ _ _=>aS.nil ..),aS.nil ..,aS.nil ..,(cY (by omega))⟩ (ud bU d7 r)
 have cX:=am y
 refine aD 3<|cb ((c==16)) (fun D=>?_) (fun D=>?_)
 have d8:=ag D
 refine ak 1<|?_
 have d9:RC w _ A cp b M k (ai.mk b false 0):=⟨hsl,s,(Nat.le_trans f.size d),⟨0,(ub F o),Nat.zero_le _,rfl⟩,by omega⟩
 refine ay<|m3 (de d9) fun et db bY eu=>Pl 1<|?_
 have U:=nb (au o) lr g
 refine L0<|cm (be bY (Ne.symm U) N) 2 (mG c 0 ((ai.mk b false 0).wordV) 0 0 0 0 0 0 0 0 0 nS nS nS nS 0 0 0 0 0 nS) fun ev bZ c1=>aM 2<|aE bZ 2<|?_
 have b0:=us bY c1
 have c2:=ut s b0 (ac (ni f.size d) (ac (ni (le f.size i.size) g) aC))
 refine ay<|m3 (nM (a:=(ai.mk b false 0).wordV) (most:=123) (by omega) (RC.upd db c1 (aa U aF) c2)) fun ew dc c3 ex=>?_
 refine gM dc fun V dd df=>?_
 refine L0<|CS (((ai.mk b false 0).wordsC 1).wordV)<|Pl 1<|?_
 refine L0<|cm (be c3 (Ne.symm U) bZ) 3 (mG c 0 ((ai.mk b false 0).wordV) (((ai.mk b false 0).wordsC 1).wordV) 0 0 0 0 0 0 0 0 nS nS nS nS 0 0 0 0 0 nS) fun ey dg c4=>cN 2<|c0<|sk<|bn<|tn<|ak 1<|?_
 have b1:=us c3 c4
 have c5:=ut c2 b1 (ac (ni f.size d) (ac (ni (le f.size i.size) g) aC))
 refine ay<|m2 (fb (RC.upd df c4 (aa U aF) c5)) fun ez b2 a8=>nt<|sq<|ak 3<|L0<|eH (p:=⟨k,3,none⟩) (v:=vI V.endC.e) (RC.fld b2)<|ah 1<|?_
 have c6:=ud c5 a8 (le f.size d)
 have hs:aj aW 1 c b=bt (aT.mk c 0 ((ai.mk b false 0).wordV) (((ai.mk b false 0).wordsC 1).wordV) 0 0 0 0 0 0 0 0 [] [] [] [] 0 0 0 0 0 []) V:=by
   subst dd
   unfold aj aW cz cO ei dr dh dv dx mp
   (try simp only[t,C,H,I,G,y,D,bj,dQ,dU,dW,dT,dR,reduceIte,uA,uR])
   all_goals rfl
 refine cb ((V.endC.e != 0)) (fun b3=>?_) (fun b3=>?_)
 have b4:=az b3
 refine sq<|Rg 7 (fun w'=>w'.cell? ⟨k,3,none⟩=some (vI V.endC.e)) fun eA a9=>?_
 have c7:=RC.upd b2 a9 aF (aH.step (RC.u b2) a9)
 refine bp (RC.fld c7) fun W=>Rt 0 W<|Rt 1 W<|Rt 2 W<|Rt 3 W<|Rl 4 W (fun _ hs=>hs)<|?_
 refine R0 5 rfl<|gk (ub (ut q (ut b0 (u1 b1 (aJ a8 a9) im) (ac im (ac im aC))) (ac (nr d) (ac (ni i.size g) aC))) j) mZ fun eB di c8=>?_
 have c9:=ud c6 (uz a9 c8) r
 refine bp (RC.fld (RC.upd c7 c8 (aa (Ne.symm (nb (au j) lr d)) aF) c9)) fun dj=>Rt 6 dj<|re<|tn<|aV<|bH di (vI V.endC.e)<|?_
 rw[hs]
 exact bv b4 c9
 have b4:=aA b3
 refine bo<|sg<|?_
 refine L0<|bO (be a8 (Ne.symm U) dg)<|?_
 refine aG (ub (ut q (ut b0 (u1 b1 a8 im) (ac im (ac im aC))) (ac (nr d) (ac (ni i.size g) aC))) j) (mG c 0 ((ai.mk b false 0).wordV) (((ai.mk b false 0).wordsC 1).wordV) 0 0 0 0 0 0 0 0 nS nS nS nS 0 0 0 0 0 nS) fun eC dk dl=>ah 1<|rt<|bH dk (vI 0)<|?_
 rw[hs]
 exact bE b4 ⟨_,_,_,_,_,rfl,aS.nil ..,aS.nil ..,(fun _ _ _=>aS.nil ..),aS.nil ..,aS.nil ..,(cY (by omega))⟩ (ud c6 dl r)
 have d8:=am D
 refine aD 3<|cb ((c==22)) (fun J=>?_) (fun J=>?_)
 have dm:=ag J
 refine ak 1<|?_
 have dn:RC w _ A cp b M k (ai.mk b false 0):=⟨hsl,s,(Nat.le_trans f.size d),⟨0,(ub F o),Nat.zero_le _,rfl⟩,by omega⟩
 refine ay<|m3 (de dn) fun eD dp ca eE=>Pl 1<|?_
 have E:=nb (au o) lr g
 refine L0<|cm (be ca (Ne.symm E) N) 2 (mG c 0 ((ai.mk b false 0).wordV) 0 0 0 0 0 0 0 0 0 nS nS nS nS 0 0 0 0 0 nS) fun eF dq cc=>aM 1<|?_
 have b5:=us ca cc
 have cd:=ut s b5 (ac (ni f.size d) (ac (ni (le f.size i.size) g) aC))
 refine ay<|m3 (de (RC.upd dp cc (aa E aF) cd)) fun eG ds cg eI=>Pl 1<|?_
 refine L0<|cm (be cg (Ne.symm E) dq) 5 (mG c 0 ((ai.mk b false 0).wordV) 0 0 (((ai.mk b false 0).wordsC 1).wordV) 0 0 0 0 0 0 nS nS nS nS 0 0 0 0 0 nS) fun eJ dt ch=>nt<|go<|Pl 1<|?_
 have b6:=us cg ch
 have ci:=ut cd b6 (ac (ni f.size d) (ac (ni (le f.size i.size) g) aC))
 refine ay<|m3 (de (RC.upd ds ch (aa E aF) ci)) fun eK du cj eL=>Pl 1<|?_
 refine L0<|cm (be cj (Ne.symm E) dt) 6 (mG c 0 ((ai.mk b false 0).wordV) 0 0 (((ai.mk b false 0).wordsC 1).wordV) ((((ai.mk b false 0).wordsC 1).wordsC 1).wordV) 0 0 0 0 0 nS nS nS nS 0 0 0 0 0 nS) fun eM dw ck=>nl<|bn<|tn<|ak 1<|?_
 have b7:=us cj ck
 have cl:=ut ci b7 (ac (ni f.size d) (ac (ni (le f.size i.size) g) aC))
 refine ay<|m2 (fb (RC.upd du ck (aa E aF) cl)) fun eO b8 ab=>nt<|sq<|ak 3<|L0<|eH (p:=⟨k,3,none⟩) (v:=vI ((((((ai.mk b false 0).wordsC 1).wordsC 1).wordsC 1).endC).e)) (RC.fld b8)<|ah 1<|?_
 have cn:=ud cl ab (le f.size d)
 have hs:aj aW 1 c b=bt (aT.mk c 0 ((ai.mk b false 0).wordV) 0 0 (((ai.mk b false 0).wordsC 1).wordV) ((((ai.mk b false 0).wordsC 1).wordsC 1).wordV) 0 0 0 0 0 [] [] [] [] 0 0 0 0 0 []) ((((ai.mk b false 0).wordsC 1).wordsC 1).wordsC 1):=by
   unfold aj aW cz cO ei dr dh dv dx mp
   (try simp only[t,C,H,I,G,y,D,J,bj,dQ,dU,dW,dT,dR,reduceIte,uA,uR])
   all_goals rfl
 refine cb ((((((((ai.mk b false 0).wordsC 1).wordsC 1).wordsC 1).endC).e)!=0)) (fun b9=>?_) (fun b9=>?_)
 have ba:=az b9
 refine sq<|Rg 7 (fun w'=>w'.cell? ⟨k,3,none⟩=some (vI ((((((ai.mk b false 0).wordsC 1).wordsC 1).wordsC 1).endC).e))) fun eP ad=>?_
 have co:=RC.upd b8 ad aF (aH.step (RC.u b8) ad)
 refine bp (RC.fld co) fun X=>Rt 0 X<|Rt 1 X<|Rt 2 X<|Rt 3 X<|Rl 4 X (fun _ hs=>hs)<|?_
 refine R0 5 rfl<|gk (ub (ut q (ut b5 (ut b6 (u1 b7 (aJ ab ad) im) (ac im (ac im aC))) (ac im (ac im aC))) (ac (nr d) (ac (ni i.size g) aC))) j) mZ fun eQ dy cq=>?_
 have cr:=ud cn (uz ad cq) r
 refine bp (RC.fld (RC.upd co cq (aa (Ne.symm (nb (au j) lr d)) aF) cr)) fun dz=>Rt 6 dz<|re<|tn<|aV<|bH dy (vI ((((((ai.mk b false 0).wordsC 1).wordsC 1).wordsC 1).endC).e))<|?_
 rw[hs]
 exact bv ba cr
 have ba:=aA b9
 refine bo<|sg<|?_
 refine L0<|bO (be ab (Ne.symm E) dw)<|?_
 refine aG (ub (ut q (ut b5 (ut b6 (u1 b7 ab im) (ac im (ac im aC))) (ac im (ac im aC))) (ac (nr d) (ac (ni i.size g) aC))) j) (mG c 0 ((ai.mk b false 0).wordV) 0 0 (((ai.mk b false 0).wordsC 1).wordV) ((((ai.mk b false 0).wordsC 1).wordsC 1).wordV) 0 0 0 0 0 nS nS nS nS 0 0 0 0 0 nS) fun eR dA dB=>ah 1<|rt<|bH dA (vI 0)<|?_
 rw[hs]
 exact bE ba ⟨_,_,_,_,_,rfl,aS.nil ..,aS.nil ..,(fun _ _ _=>aS.nil ..),aS.nil ..,aS.nil ..,(cY (by omega))⟩ (ud cn dB r)
 have dm:=am J
 refine aD 3<|cf G<|ak 3<|cu 3 [168] 171 (false) (fun K cs=>?_) ?_
 refine bl 168 ((c==24)) (fun bb=>?_) (fun bb=>?_)
 have dC:=ag bb
 exact Pl 3<|ce cs false rfl
 have dC:=am bb
 exact Pl 3<|ce cs false rfl
 refine ah 1<|c0<|aD 3<|cb ((c==24)) (fun Y=>?_) (fun Y=>?_)
 have dD:=ag Y
 refine ak 1<|?_
 have dE:RC w _ A cp b M k (ai.mk b false 0):=⟨hsl,s,(Nat.le_trans f.size d),⟨0,(ub F o),Nat.zero_le _,rfl⟩,by omega⟩
 refine ay<|m3 (de dE) fun eS dF ae eT=>bq ((ai.mk b false 0).wordV)<|Pl 1<|aM 2<|L0<|Oe (vI (Int.tmod ((ai.mk b false 0).wordV) 2)) (vI (((ai.mk b false 0).wordV)%2)) (congrArg (Value.int .i64) (Int.tmod_eq_emod_of_nonneg (by omega)))<|Pl 2<|cu 3 [185] 188 ((((((ai.mk b false 0).wordV)%2)==0)&&(decide (2≤((ai.mk b false 0).wordV))))) (fun K ct=>?_) ?_
 refine bl 185 (((((ai.mk b false 0).wordV)%2)==0)) (fun Z=>?_) (fun Z=>?_)
 have dG:=ag Z
 exact Pl 3<|ce ct (decide (2≤((ai.mk b false 0).wordV))) (by rw[Z];rfl)
 have dG:=am Z
 exact Pl 3<|ce ct false (by rw[Z];rfl)
 refine Pl 1<|cu 3 [189] 192 (((((((ai.mk b false 0).wordV)%2)==0)&&(decide (2≤((ai.mk b false 0).wordV))))&&(decide (((ai.mk b false 0).wordV)≤64)))) (fun K cv=>?_) ?_
 refine bl 189 ((((((ai.mk b false 0).wordV)%2)==0)&&(decide (2≤((ai.mk b false 0).wordV))))) (fun bc=>?_) (fun bc=>?_)
 exact Pl 3<|ce cv (decide (((ai.mk b false 0).wordV)≤64)) (by rw[bc];rfl)
 exact Pl 3<|ce cv false (by rw[bc];rfl)
 refine ay<|m2 (bg (((((((ai.mk b false 0).wordV)%2)==0)&&(decide (2≤((ai.mk b false 0).wordV))))&&(decide (((ai.mk b false 0).wordV)≤64)))) 5 dF) fun eU dH af=>?_
 refine gM dH fun l dI dJ=>?_
 refine aM 1<|ay<|m3 (de dJ) fun eV dK al eW=>bq l.wordV<|Pl 1<|aM 3<|bq (2*l.wordV)<|bq ((2*l.wordV)+2)<|Pl 1<|ay<|m2 (bg ((((ai.mk b false 0).wordV)==((2*l.wordV)+2))) 5 dK) fun eX dL an=>?_
 refine gM dL fun z dM dN=>?_
 refine nt<|go<|Pl 2<|ay<|qH (i7 (n:=l.wordV) (by omega) dN) fun cw cx eY ao eZ f0 dO dP=>Pl 1<|?_
 have cy:=u1 ae (u1 af (u1 al (u1 an dP im) im) im) im
 have bd:=nb (au o) lr g
 refine L0<|cm (be cy (Ne.symm bd) N) 12 (mG c 0 0 0 0 0 0 0 0 0 0 0 (.slice cw ((z.wordsR l.wordV).length) cx) nS nS nS 0 0 0 0 0 nS) fun f1 dS bf=>nl<|bn<|tn<|ak 1<|?_
 have bh:=us cy bf
 have cA:=ut s bh (ac (ni f.size d) (ac (ni (le f.size i.size) g) aC))
 refine ay<|m2 (fb (RC.upd dO bf (aa bd aF) cA)) fun f2 bi a0=>nt<|sq<|ak 3<|L0<|eH (p:=⟨k,3,none⟩) (v:=vI (((z.wordsC l.wordV).endC).e)) (RC.fld bi)<|ah 1<|?_
 have cB:=ud cA a0 (le f.size d)
 have hs:aj aW 1 c b=bt (aT.mk c 0 0 0 0 0 0 0 0 0 0 0 (z.wordsR l.wordV) [] [] [] 0 0 0 0 0 []) (z.wordsC l.wordV):=by
   subst dM dI
   unfold aj aW cz cO ei dr dh dv dx mp
   (try simp only[t,C,H,I,G,y,D,J,Y,bj,dQ,dU,dW,dT,dR,reduceIte,uA,uR])
   all_goals rfl
 refine cb (((((z.wordsC l.wordV).endC).e)!=0)) (fun bm=>?_) (fun bm=>?_)
 have bs:=az bm
 refine sq<|Rg 7 (fun w'=>w'.cell? ⟨k,3,none⟩=some (vI (((z.wordsC l.wordV).endC).e))) fun f3 ap=>?_
 have cD:=RC.upd bi ap aF (aH.step (RC.u bi) ap)
 refine bp (RC.fld cD) fun a1=>Rt 0 a1<|Rt 1 a1<|Rt 2 a1<|Rt 3 a1<|Rl 4 a1 (fun _ hs=>hs)<|?_
 refine R0 5 rfl<|gk (ub (ut q (u1 bh (aJ a0 ap) im) (ac (nr d) (ac (ni i.size g) aC))) j) mZ fun f4 dV cE=>?_
 have cF:=ud cB (uz ap cE) r
 refine bp (RC.fld (RC.upd cD cE (aa (Ne.symm (nb (au j) lr d)) aF) cF)) fun dX=>Rt 6 dX<|re<|tn<|aV<|bH dV (vI (((z.wordsC l.wordV).endC).e))<|?_
 rw[hs]
 exact bv bs cF
 have bs:=aA bm
 refine bo<|sg<|?_
 refine L0<|bO (be a0 (Ne.symm bd) dS)<|?_
 refine aG (ub (ut q (u1 bh a0 im) (ac (nr d) (ac (ni i.size g) aC))) j) (mG c 0 0 0 0 0 0 0 0 0 0 0 (.slice cw ((z.wordsR l.wordV).length) cx) nS nS nS 0 0 0 0 0 nS) fun f5 dY cG=>ah 1<|rt<|bH dY (vI 0)<|?_
 rw[hs]
 exact bE bs ⟨_,_,_,_,_,rfl,((ax ao (us bf (us a0 cG)) (fun x hx=>(aa (fun e=>(aL (au aq) (le (le (le (le B.size ae.size) af.size) al.size) an.size) ao) (e▸hx)) (aa (fun e=>(aL (au o) (le (le (le (le (le L.size B.size) ae.size) af.size) al.size) an.size) ao) (e▸hx)) (aa (fun e=>(aL (au j) (le (le (le (le (le (le i.size L.size) B.size) ae.size) af.size) al.size) an.size) ao) (e▸hx)) aF)))) (fun _ _ h=>h))).rd,aS.nil ..,(fun _ _ _=>aS.nil ..),aS.nil ..,aS.nil ..,(cY (by omega))⟩ (ud cB cG r)
 have dD:=am Y
 refine ak 1<|?_
 refine aG (ub q j) mZ fun f6 dZ e0=>ah 1<|rt<|br<|tr<|bH dZ (vI 4)<|?_
 exact cC (by unfold aj aW cz cO ei dr dh dv dx mp;(try simp only[t,C,H,I,G,y,D,J,Y,bj,dQ,dU,dW,dT,dR,reduceIte,uA,uR])<;>rfl) (bG (ud s e0 r))
theorem oe(hcode:B8 c)(hsl:aX m w (.slice A b.length cp) b)(hb:b.length≤1048576)(hd:¬ (dir=0∨dir=1)) :
    Calls Tryz.prog 110 #[vI dir,vB c,.slice A b.length cp] w (cV (.slice A b.length cp) b (aj aW dir c b) w):=by
 obtain⟨hcode1,hcode2⟩:=hcode
 have hln:(b.length:Int)≤1048576:=by omega
 have e0:(dir != 0)=true:=by simp;omega
 have e1:(dir != 1)=true:=by simp;omega
 refine en 221 Tryz.func110 rfl<|sg<|aK mZ fun g h a d e=>ah 1<|sq<|ak 3<|sy 18 e0<|Pl 3<|nl<|tn<|ct e1<|ak 1<|aG d mZ fun i eP f=>ah 1<|aV<|bH eP (vI 1)<|?_
 exact cC (by unfold aj aW cz cO ei dr dh dv dx mp;(try simp only[e0,e1,bj,dQ,dU,dW,dT,dR,reduceIte,hd,uA,uR])<;>rfl) (bG (ud e f a))
open Go.RowKit
def fI (dir:Int)(C:ai) : ai:=(C.wordsC 1).need (fc C.wordV&&((C.wordV != 4)||(dir==0))) 8
theorem mf:fI 0 C=(C.wordsC 1).need (fc C.wordV) 8:=by
  unfold fI
  rw[show((0:Int)==0)=true from rfl,Bool.or_true,Bool.and_true]
theorem mc:fI 1 C=(C.wordsC 1).need (fc C.wordV&&(C.wordV != 4)) 8:=by
  unfold fI
  rw[show((1:Int)==0)=false from rfl,Bool.or_false]
def f7 (dir c:Int)(C:ai) : ai × aT :=
  if C.wordV==0 then ((kU (fI dir C)).wordsC (((fI dir C).l.length:Int)/2),{ aT.zero with code:=c,sub:=C.wordV,words:=(kU (fI dir C)).wordsR (((fI dir C).l.length:Int)/2) })
  else (((fI dir C).wordsC 1).need (i4 dir C.wordV (fI dir C).wordV) 6,{ aT.zero with code:=c,sub:=C.wordV,words:=[(fI dir C).wordV] })
def el (c:Int)(C:ai) : ai × aT :=
  if c==7 then (C.bytesC 1,{ aT.zero with code:=c,value:=C.byteV })
  else if c==11 then ((dZ C).wordsC 1,{ aT.zero with code:=c,status:=C.wordV,events:=(dZ C).wordV })
  else if c==12 then ((gI C).bytesC (C.byteV-6),{ aT.zero with code:=c,status:=(fs C 6 70).wordV,events:=(dZ (fs C 6 70)).wordV,messages:=((dZ (fs C 6 70)).wordsC 1).wordV,data:=(gI C).bytesR (C.byteV-6) })
  else ((fs C 1 251).bytesC C.byteV,{ aT.zero with code:=c,data:=(fs C 1 251).bytesR C.byteV })
def bQ (dir c:Int)(C:ai) : Option (ai × aT) :=
  if ((((c != 7)&&(c != 8))&&(c != 11))&&(c != 12))&&(c != 17) then none
  else if c==8 then some (f7 dir c C)
  else if dir==0 then some (C,{ aT.zero with code:=c })
  else some (el c C)
theorem o6(hcode:B8 c)(hsl:aX m w (.slice A b.length cp) b)(hb:b.length≤1048576) :
    Calls Tryz.prog 111 #[vI 0,vB c,.slice A b.length cp] w (cV (.slice A b.length cp) b (aj bQ 0 c b) w):=by
 obtain⟨hcode1,hcode2⟩:=hcode
 have hln:(b.length:Int)≤1048576:=by omega
 refine en 197 Tryz.func111 rfl<|sg<|aK mZ fun cz cA s f d=>ah 1<|sq<|aD 6<|c0<|bo<|sq<|ak 3<|cu 3 [24] 27 (((c != 7)&&(c != 8))) (fun K aW=>?_) ?_
 refine bl 24 ((c != 7)) (fun G=>?_) (fun G=>?_)
 have bR:=az G
 exact Pl 3<|ce aW (c != 8) (by rw[G];rfl)
 have bR:=aA G
 exact Pl 3<|ce aW false (by rw[G];rfl)
 refine Pl 1<|cu 3 [28] 31 ((((c != 7)&&(c != 8))&&(c != 11))) (fun K aY=>?_) ?_
 refine bl 28 (((c != 7)&&(c != 8))) (fun a3=>?_) (fun a3=>?_)
 exact Pl 3<|ce aY (c != 11) (by rw[a3];rfl)
 exact Pl 3<|ce aY false (by rw[a3];rfl)
 refine Pl 1<|cu 3 [32] 35 (((((c != 7)&&(c != 8))&&(c != 11))&&(c != 12))) (fun K aZ=>?_) ?_
 refine bl 32 ((((c != 7)&&(c != 8))&&(c != 11))) (fun a4=>?_) (fun a4=>?_)
 exact Pl 3<|ce aZ (c != 12) (by rw[a4];rfl)
 exact Pl 3<|ce aZ false (by rw[a4];rfl)
 refine Pl 1<|cu 3 [36] 39 ((((((c != 7)&&(c != 8))&&(c != 11))&&(c != 12))&&(c != 17))) (fun K b0=>?_) ?_
 refine bl 36 (((((c != 7)&&(c != 8))&&(c != 11))&&(c != 12))) (fun a5=>?_) (fun a5=>?_)
 exact Pl 3<|ce b0 (c != 17) (by rw[a5];rfl)
 exact Pl 3<|ce b0 false (by rw[a5];rfl)
 refine nt<|cb ((((((c != 7)&&(c != 8))&&(c != 11))&&(c != 12))&&(c != 17))) (fun t=>?_) (fun t=>?_)
 have a6:=(bB t).1
 have bS:=(bB t).2
 have a7:=(bB a6).1
 have bT:=(bB a6).2
 have q23aaa:=(bB a7).1
 have q23aab:=(bB a7).2
 have q23aaaa:=(bB q23aaa).1
 have q23aaab:=(bB q23aaa).2
 refine ak 1<|aG f mZ fun cB bU bV=>ah 1<|aV<|bH bU (vI 4)<|?_
 exact cC (by unfold aj bQ f7 el;(try simp only[t,a6,a7,q23aaa,q23aaaa,q23aaab,q23aab,bT,bS,bj,dQ,dU,dW,dT,dR,reduceIte,mf,mc])<;>rfl) (bG (ud d bV s))
 refine bo<|ak 2<|L0<|da #[.slice A b.length cp,vI 0,.bool false,vI 0] fun q cD a C i=>Pl 1<|aM 2<|aK mZ fun cE cF j a8 H=>aG a8 (mC c) fun b1 b2 y=>?_
 refine nt<|sq<|bk<|aD 3<|?_
 have a9:=ud H y j
 have z:=aJ i a9
 have U:=aJ d z
 refine cb ((c==8)) (fun D=>?_) (fun D=>?_)
 have bW:=ag D
 refine ak 1<|?_
 have bX:RC w _ A cp b b1 q (ai.mk b false 0):=⟨hsl,U,(Nat.le_trans d.size a),⟨0,(ub a9 C),Nat.zero_le _,rfl⟩,by omega⟩
 refine ay<|m3 (de bX) fun cG bY r cH=>Pl 1<|?_
 have k:=nb (au C) lr j
 refine L0<|cm (be r (Ne.symm k) b2) 8 (mG c 0 0 0 0 0 0 0 ((ai.mk b false 0).wordV) 0 0 0 nS nS nS nS 0 0 0 0 0 nS) fun bZ ab B=>aM 1<|aE ab 8<|ay<|m1 (DA (x:=(ai.mk b false 0).wordV) (w:=bZ) (by omega)) fun cI o=>Pl 1<|aM 3<|cu 8 [72] 80 ((fc ((ai.mk b false 0).wordV))) (fun K b3=>?_) ?_
 refine bl 72 ((fc ((ai.mk b false 0).wordV))) (fun ad=>?_) (fun ad=>?_)
 refine Pl 1<|?_
 refine L1<|dX (ub o ab) 8<|Pl 2<|cu 3 [76] 79 (true) (fun K b4=>?_) ?_
 refine bl 76 ((((ai.mk b false 0).wordV)!=4)) (fun ae=>?_) (fun ae=>?_)
 have c2:=az ae
 exact Pl 3<|ce b4 true rfl
 have c2:=aA ae
 exact Pl 3<|ce b4 true rfl
 exact Pl 1<|ce b3 true ad
 exact Pl 8<|ce b3 false ad
 have b5:=aJ B o
 have I:=us r b5
 have b6:=ut U I (ac (ni d.size a) (ac (ni (le d.size i.size) j) aC))
 refine ay<|m2 (bg ((fc ((ai.mk b false 0).wordV))) 8 (RC.upd bY b5 (aa k aF) b6)) fun cJ c3 g=>?_
 refine gM c3 fun x70 b7 J=>?_
 refine nt<|sq<|ak 1<|?_
 have af:=be (uz o g) (Ne.symm k) ab
 refine aE af 8<|ah 1<|?_
 have b8:=ud b6 g (le d.size a)
 refine cb ((((ai.mk b false 0).wordV)==0)) (fun L=>?_) (fun L=>?_)
 have c4:=ag L
 refine ak 1<|ay<|m1 (jS J) fun cK E=>?_
 have cL:=RC.clen J
 refine Pl 1<|aM 2<|L0<|Oe (vI (Int.tmod (x70.l.length:Int) 2)) (vI ((x70.l.length:Int)%2)) (congrArg (Value.int .i64) (Int.tmod_eq_emod_of_nonneg (by omega)))<|Pl 2<|cu 3 [91] 94 (((((x70.l.length:Int)%2)==0)&&(decide (2≤(x70.l.length:Int))))) (fun K b9=>?_) ?_
 refine bl 91 ((((x70.l.length:Int)%2)==0)) (fun M=>?_) (fun M=>?_)
 have c5:=ag M
 exact Pl 3<|ce b9 (decide (2≤(x70.l.length:Int))) (by rw[M];rfl)
 have c5:=am M
 exact Pl 3<|ce b9 false (by rw[M];rfl)
 refine Pl 1<|cu 3 [95] 98 ((((((x70.l.length:Int)%2)==0)&&(decide (2≤(x70.l.length:Int))))&&(decide ((x70.l.length:Int)≤250)))) (fun K ba=>?_) ?_
 refine bl 95 (((((x70.l.length:Int)%2)==0)&&(decide (2≤(x70.l.length:Int))))) (fun al=>?_) (fun al=>?_)
 exact Pl 3<|ce ba (decide ((x70.l.length:Int)≤250)) (by rw[al];rfl)
 exact Pl 3<|ce ba false (by rw[al];rfl)
 refine ay<|m2 (bg ((((((x70.l.length:Int)%2)==0)&&(decide (2≤(x70.l.length:Int))))&&(decide ((x70.l.length:Int)≤250)))) 5 (RC.upd J E aF (aH.step (RC.u J) E))) fun cM c6 V=>?_
 refine gM c6 fun x88 c7 c8=>?_
 refine aM 2<|L0<|Oe (vI (IntKind.i64.wrap (Int.tdiv (x70.l.length:Int) 2))) (vI ((x70.l.length:Int)/2)) (congrArg (Value.int .i64) (gX (by omega) (by omega)))<|ay<|qH (i7 (n:=((x70.l.length:Int)/2)) (by omega) c8) fun bb bc cN W cO cP c9 ca=>Pl 1<|?_
 have bd:=uz E (u1 V ca im)
 refine L0<|cm (be bd (Ne.symm k) af) 12 (mG c 0 0 0 0 0 0 0 ((ai.mk b false 0).wordV) 0 0 0 (.slice bb ((x88.wordsR ((x70.l.length:Int)/2)).length) bc) nS nS nS 0 0 0 0 0 nS) fun cQ cc an=>nt<|xt<|tx<|bx<|tn<|ak 1<|?_
 have ao:=us bd an
 have bf:=ut b8 ao (ac (ni d.size a) (ac (ni (le d.size i.size) j) aC))
 refine ay<|m2 (fb (RC.upd c9 an (aa k aF) bf)) fun cR aq N=>nt<|sq<|ak 3<|L0<|eH (p:=⟨q,3,none⟩) (v:=vI (((x88.wordsC ((x70.l.length:Int)/2)).endC).e)) (RC.fld aq)<|ah 1<|?_
 have bh:=ud bf N (le d.size a)
 have hs:aj bQ 0 c b=bt (aT.mk c 0 0 0 0 0 0 0 ((ai.mk b false 0).wordV) 0 0 0 (x88.wordsR ((x70.l.length:Int)/2)) [] [] [] 0 0 0 0 0 []) (x88.wordsC ((x70.l.length:Int)/2)):=by
   subst c7 b7
   unfold aj bQ f7 el
   (try simp only[t,D,L,bj,dQ,dU,dW,dT,dR,reduceIte,mf,mc])
   all_goals rfl
 refine cb (((((x88.wordsC ((x70.l.length:Int)/2)).endC).e)!=0)) (fun ar=>?_) (fun ar=>?_)
 have av:=az ar
 refine sq<|Rg 7 (fun w'=>w'.cell? ⟨q,3,none⟩=some (vI (((x88.wordsC ((x70.l.length:Int)/2)).endC).e))) fun cS X=>?_
 have bi:=RC.upd aq X aF (aH.step (RC.u aq) X)
 refine bp (RC.fld bi) fun O=>Rt 0 O<|Rt 1 O<|Rt 2 O<|Rt 3 O<|Rl 4 O (fun _ hs=>hs)<|?_
 refine R0 5 rfl<|gk (ub (ut z (ut I (ui g (u1 ao (aJ N X) im)) (ac im (ac im aC))) (ac (nr a) (ac (ni i.size j) aC))) f) mZ fun cT cd bm=>?_
 have bq:=ud bh (uz X bm) s
 refine bp (RC.fld (RC.upd bi bm (aa (Ne.symm (nb (au f) lr a)) aF) bq)) fun cf=>Rt 6 cf<|re<|tn<|aV<|bH cd (vI (((x88.wordsC ((x70.l.length:Int)/2)).endC).e))<|?_
 rw[hs]
 exact bv av bq
 have av:=aA ar
 refine bo<|sg<|?_
 refine L0<|bO (be N (Ne.symm k) cc)<|?_
 refine aG (ub (ut z (ut I (ui g (u1 ao N im)) (ac im (ac im aC))) (ac (nr a) (ac (ni i.size j) aC))) f) (mG c 0 0 0 0 0 0 0 ((ai.mk b false 0).wordV) 0 0 0 (.slice bb ((x88.wordsR ((x70.l.length:Int)/2)).length) bc) nS nS nS 0 0 0 0 0 nS) fun cU cg br=>ah 1<|rt<|bH cg (vI 0)<|?_
 rw[hs]
 exact bE av ⟨_,_,_,_,_,rfl,((ax W (us an (us N br)) (fun x hx=>(aa (fun e=>(aL (au a8) (le (le (le (le (le (le y.size r.size) B.size) o.size) g.size) E.size) V.size) W) (e▸hx)) (aa (fun e=>(aL (au C) (le (le (le (le (le (le (le H.size y.size) r.size) B.size) o.size) g.size) E.size) V.size) W) (e▸hx)) (aa (fun e=>(aL (au f) (le (le (le (le (le (le (le (le i.size H.size) y.size) r.size) B.size) o.size) g.size) E.size) V.size) W) (e▸hx)) aF)))) (fun _ _ h=>h))).rd,aS.nil ..,(fun _ _ _=>aS.nil ..),aS.nil ..,aS.nil ..,(cY (by omega))⟩ (ud bh br s)
 have c4:=am L
 refine bo<|ak 1<|ay<|m3 (de J) fun ch bs P cW=>Pl 1<|aM 3<|?_
 have bu:=be P (Ne.symm k) af
 refine aE bu 8<|Pl 1<|ay<|m1 (Dr (dir:=0) (sub:=(ai.mk b false 0).wordV) (v:=x70.wordV) (w:=ch) (by omega)) fun cX F=>?_
 refine ay<|m2 (bg ((i4 0 ((ai.mk b false 0).wordV) x70.wordV)) 6 (RC.upd bs F aF (aH.step (RC.u bs) F))) fun cZ ci Y=>?_
 refine gM ci fun Q cj ck=>?_
 refine nt<|go<|Pl 1<|L0<|d9 (m:=1) (e:=37) #[vW x70.wordV] fun bw d0 cl cn bz=>?_
 have Z:=eJ cl (xs:=[x70.wordV]) (by as_aux_lemma=>kernel_rfl) (ap (by omega) aR) (by(try simp only[List.length_cons,List.length_nil]);omega) cn
 refine Pl 1<|?_
 have bA:=uz F (aJ Y bz)
 refine L0<|cm (be bA (Ne.symm k) bu) 12 (mG c 0 0 0 0 0 0 0 ((ai.mk b false 0).wordV) 0 0 0 (.slice (some ⟨bw,0,none⟩) 1 1) nS nS nS 0 0 0 0 0 nS) fun d1 co aw=>nl<|bn<|tn<|ak 1<|?_
 have aB:=ui P (us bA aw)
 have bC:=ut b8 aB (ac (ni d.size a) (ac (ni (le d.size i.size) j) aC))
 refine ay<|m2 (fb (RC.upd ck (uz bz aw) (aa k aF) bC)) fun d2 aI R=>nt<|sq<|ak 3<|L0<|eH (p:=⟨q,3,none⟩) (v:=vI Q.endC.e) (RC.fld aI)<|ah 1<|?_
 have bD:=ud bC R (le d.size a)
 have hs:aj bQ 0 c b=bt (aT.mk c 0 0 0 0 0 0 0 ((ai.mk b false 0).wordV) 0 0 0 [x70.wordV] [] [] [] 0 0 0 0 0 []) Q:=by
   subst cj b7
   unfold aj bQ f7 el
   (try simp only[t,D,L,bj,dQ,dU,dW,dT,dR,reduceIte,mf,mc])
   all_goals rfl
 refine cb ((Q.endC.e != 0)) (fun aN=>?_) (fun aN=>?_)
 have aO:=az aN
 refine sq<|Rg 7 (fun w'=>w'.cell? ⟨q,3,none⟩=some (vI Q.endC.e)) fun d3 a0=>?_
 have bF:=RC.upd aI a0 aF (aH.step (RC.u aI) a0)
 refine bp (RC.fld bF) fun S=>Rt 0 S<|Rt 1 S<|Rt 2 S<|Rt 3 S<|Rl 4 S (fun _ hs=>hs)<|?_
 refine R0 5 rfl<|gk (ub (ut z (ut I (ui g (u1 aB (aJ R a0) im)) (ac im (ac im aC))) (ac (nr a) (ac (ni i.size j) aC))) f) mZ fun d4 cq bI=>?_
 have bJ:=ud bD (uz a0 bI) s
 refine bp (RC.fld (RC.upd bF bI (aa (Ne.symm (nb (au f) lr a)) aF) bJ)) fun cr=>Rt 6 cr<|re<|tn<|aV<|bH cq (vI Q.endC.e)<|?_
 rw[hs]
 exact bv aO bJ
 have aO:=aA aN
 refine bo<|sg<|?_
 refine L0<|bO (be R (Ne.symm k) co)<|?_
 refine aG (ub (ut z (ut I (ui g (u1 aB R im)) (ac im (ac im aC))) (ac (nr a) (ac (ni i.size j) aC))) f) (mG c 0 0 0 0 0 0 0 ((ai.mk b false 0).wordV) 0 0 0 (.slice (some ⟨bw,0,none⟩) 1 1) nS nS nS 0 0 0 0 0 nS) fun d5 cs bK=>ah 1<|rt<|bH cs (vI 0)<|?_
 rw[hs]
 exact bE aO ⟨_,_,_,_,_,rfl,((ax Z (us aw (us R bK)) (fun x hx=>(aa (fun e=>(aL (au a8) (le (le (le (le (le (le (le y.size r.size) B.size) o.size) g.size) P.size) F.size) Y.size) Z) (e▸hx)) (aa (fun e=>(aL (au C) (le (le (le (le (le (le (le (le H.size y.size) r.size) B.size) o.size) g.size) P.size) F.size) Y.size) Z) (e▸hx)) (aa (fun e=>(aL (au f) (le (le (le (le (le (le (le (le (le i.size H.size) y.size) r.size) B.size) o.size) g.size) P.size) F.size) Y.size) Z) (e▸hx)) aF)))) (fun _ _ h=>h))).rd,aS.nil ..,(fun _ _ _=>aS.nil ..),aS.nil ..,aS.nil ..,(cY (by omega))⟩ (ud bD bK s)
 have bW:=am D
 refine aD 3<|c1<|sk<|bn<|tn<|ak 1<|?_
 have ct:RC w _ A cp b b1 q (ai.mk b false 0):=⟨hsl,U,(Nat.le_trans d.size a),⟨0,(ub a9 C),Nat.zero_le _,rfl⟩,by omega⟩
 refine ay<|m2 (fb ct) fun d6 aP a1=>nt<|sq<|ak 3<|L0<|eH (p:=⟨q,3,none⟩) (v:=vI (((ai.mk b false 0).endC).e)) (RC.fld aP)<|ah 1<|?_
 have bL:=ud U a1 (le d.size a)
 have hs:aj bQ 0 c b=bt (aT.mk c 0 0 0 0 0 0 0 0 0 0 0 [] [] [] [] 0 0 0 0 0 []) (ai.mk b false 0):=by
   unfold aj bQ f7 el
   (try simp only[t,D,bj,dQ,dU,dW,dT,dR,reduceIte,mf,mc])
   all_goals rfl
 refine cb (((((ai.mk b false 0).endC).e)!=0)) (fun aQ=>?_) (fun aQ=>?_)
 have aU:=az aQ
 refine sq<|Rg 7 (fun w'=>w'.cell? ⟨q,3,none⟩=some (vI (((ai.mk b false 0).endC).e))) fun d7 a2=>?_
 have bM:=RC.upd aP a2 aF (aH.step (RC.u aP) a2)
 refine bp (RC.fld bM) fun T=>Rt 0 T<|Rt 1 T<|Rt 2 T<|Rt 3 T<|Rl 4 T (fun _ hs=>hs)<|?_
 refine R0 5 rfl<|gk (ub (ud z (aJ a1 a2) a) f) mZ fun d8 cv bN=>?_
 have bP:=ud bL (uz a2 bN) s
 refine bp (RC.fld (RC.upd bM bN (aa (Ne.symm (nb (au f) lr a)) aF) bP)) fun cw=>Rt 6 cw<|re<|tn<|aV<|bH cv (vI (((ai.mk b false 0).endC).e))<|?_
 rw[hs]
 exact bv aU bP
 have aU:=aA aQ
 refine bo<|sg<|?_
 refine L0<|bO (be a1 (Ne.symm (nb (au C) lr j)) b2)<|?_
 refine aG (ub (ud z a1 a) f) (mC c) fun db cx cy=>ah 1<|rt<|bH cx (vI 0)<|?_
 rw[hs]
 exact bE aU ⟨_,_,_,_,_,rfl,aS.nil ..,aS.nil ..,(fun _ _ _=>aS.nil ..),aS.nil ..,aS.nil ..,(cY (by omega))⟩ (ud bL cy s)
theorem oq(hcode:B8 c)(hsl:aX m w (.slice A b.length cp) b)(hb:b.length≤1048576) :
    Calls Tryz.prog 111 #[vI 1,vB c,.slice A b.length cp] w (cV (.slice A b.length cp) b (aj bQ 1 c b) w):=by
 obtain⟨hcode1,hcode2⟩:=hcode
 have hln:(b.length:Int)≤1048576:=by omega
 refine en 197 Tryz.func111 rfl<|sg<|aK mZ fun fn fo k i d=>ah 1<|sq<|aD 6<|c0<|bo<|sq<|ak 3<|cu 3 [24] 27 (((c != 7)&&(c != 8))) (fun K c1=>?_) ?_
 refine bl 24 ((c != 7)) (fun Q=>?_) (fun Q=>?_)
 have dx:=az Q
 exact Pl 3<|ce c1 (c != 8) (by rw[Q];rfl)
 have dx:=aA Q
 exact Pl 3<|ce c1 false (by rw[Q];rfl)
 refine Pl 1<|cu 3 [28] 31 ((((c != 7)&&(c != 8))&&(c != 11))) (fun K c2=>?_) ?_
 refine bl 28 (((c != 7)&&(c != 8))) (fun aZ=>?_) (fun aZ=>?_)
 exact Pl 3<|ce c2 (c != 11) (by rw[aZ];rfl)
 exact Pl 3<|ce c2 false (by rw[aZ];rfl)
 refine Pl 1<|cu 3 [32] 35 (((((c != 7)&&(c != 8))&&(c != 11))&&(c != 12))) (fun K c3=>?_) ?_
 refine bl 32 ((((c != 7)&&(c != 8))&&(c != 11))) (fun b0=>?_) (fun b0=>?_)
 exact Pl 3<|ce c3 (c != 12) (by rw[b0];rfl)
 exact Pl 3<|ce c3 false (by rw[b0];rfl)
 refine Pl 1<|cu 3 [36] 39 ((((((c != 7)&&(c != 8))&&(c != 11))&&(c != 12))&&(c != 17))) (fun K c4=>?_) ?_
 refine bl 36 (((((c != 7)&&(c != 8))&&(c != 11))&&(c != 12))) (fun b1=>?_) (fun b1=>?_)
 exact Pl 3<|ce c4 (c != 17) (by rw[b1];rfl)
 exact Pl 3<|ce c4 false (by rw[b1];rfl)
 refine nt<|cb ((((((c != 7)&&(c != 8))&&(c != 11))&&(c != 12))&&(c != 17))) (fun y=>?_) (fun y=>?_)
 have b2:=(bB y).1
 have dy:=(bB y).2
 have b3:=(bB b2).1
 have dz:=(bB b2).2
 have q23aaa:=(bB b3).1
 have q23aab:=(bB b3).2
 have q23aaaa:=(bB q23aaa).1
 have q23aaab:=(bB q23aaa).2
 refine ak 1<|aG i mZ fun fp dA dB=>ah 1<|aV<|bH dA (vI 4)<|?_
 exact cC (by unfold aj bQ f7 el;(try simp only[y,b2,b3,q23aaa,q23aaaa,q23aaab,q23aab,dz,dy,bj,dQ,dU,dW,dT,dR,reduceIte,mf,mc])<;>rfl) (bG (ud d dB k))
 refine bo<|ak 2<|L0<|da #[.slice A b.length cp,vI 0,.bool false,vI 0] fun j fq a r g=>Pl 1<|aM 2<|aK mZ fun fr fs f b4 R=>aG b4 (mC c) fun S T I=>?_
 refine nt<|sq<|bk<|aD 3<|?_
 have M:=ud R I f
 have o:=aJ g M
 have z:=aJ d o
 refine cb ((c==8)) (fun C=>?_) (fun C=>?_)
 have dC:=ag C
 refine ak 1<|?_
 have dD:RC w _ A cp b S j (ai.mk b false 0):=⟨hsl,z,(Nat.le_trans d.size a),⟨0,(ub M r),Nat.zero_le _,rfl⟩,by omega⟩
 refine ay<|m3 (de dD) fun ft dE G fu=>Pl 1<|?_
 have B:=nb (au r) lr f
 refine L0<|cm (be G (Ne.symm B) T) 8 (mG c 0 0 0 0 0 0 0 ((ai.mk b false 0).wordV) 0 0 0 nS nS nS nS 0 0 0 0 0 nS) fun dF b5 J=>aM 1<|aE b5 8<|ay<|m1 (DA (x:=(ai.mk b false 0).wordV) (w:=dF) (by omega)) fun fv D=>Pl 1<|aM 3<|cu 8 [72] 80 (((fc ((ai.mk b false 0).wordV))&&(((ai.mk b false 0).wordV)!=4))) (fun K c5=>?_) ?_
 refine bl 72 ((fc ((ai.mk b false 0).wordV))) (fun b6=>?_) (fun b6=>?_)
 refine Pl 1<|?_
 refine L1<|dX (ub D b5) 8<|Pl 2<|cu 3 [76] 79 ((((ai.mk b false 0).wordV)!=4)) (fun K c6=>?_) ?_
 refine bl 76 ((((ai.mk b false 0).wordV)!=4)) (fun U=>?_) (fun U=>?_)
 have dG:=az U
 exact Pl 3<|ce c6 true U
 have dG:=aA U
 exact Pl 3<|ce c6 false U
 exact Pl 1<|ce c5 (((ai.mk b false 0).wordV)!=4) (by rw[b6];rfl)
 exact Pl 8<|ce c5 false (by rw[b6];rfl)
 have c7:=aJ J D
 have V:=us G c7
 have c8:=ut z V (ac (ni d.size a) (ac (ni (le d.size g.size) f) aC))
 refine ay<|m2 (bg (((fc ((ai.mk b false 0).wordV))&&(((ai.mk b false 0).wordV)!=4))) 8 (RC.upd dE c7 (aa B aF) c8)) fun fw dH s=>?_
 refine gM dH fun x70 c9 W=>?_
 refine nt<|sq<|ak 1<|?_
 have b7:=be (uz D s) (Ne.symm B) b5
 refine aE b7 8<|ah 1<|?_
 have ca:=ud c8 s (le d.size a)
 refine cb ((((ai.mk b false 0).wordV)==0)) (fun X=>?_) (fun X=>?_)
 have dI:=ag X
 refine ak 1<|ay<|m1 (jS W) fun fx N=>?_
 have fy:=RC.clen W
 refine Pl 1<|aM 2<|L0<|Oe (vI (Int.tmod (x70.l.length:Int) 2)) (vI ((x70.l.length:Int)%2)) (congrArg (Value.int .i64) (Int.tmod_eq_emod_of_nonneg (by omega)))<|Pl 2<|cu 3 [91] 94 (((((x70.l.length:Int)%2)==0)&&(decide (2≤(x70.l.length:Int))))) (fun K cc=>?_) ?_
 refine bl 91 ((((x70.l.length:Int)%2)==0)) (fun Y=>?_) (fun Y=>?_)
 have dJ:=ag Y
 exact Pl 3<|ce cc (decide (2≤(x70.l.length:Int))) (by rw[Y];rfl)
 have dJ:=am Y
 exact Pl 3<|ce cc false (by rw[Y];rfl)
 refine Pl 1<|cu 3 [95] 98 ((((((x70.l.length:Int)%2)==0)&&(decide (2≤(x70.l.length:Int))))&&(decide ((x70.l.length:Int)≤250)))) (fun K cd=>?_) ?_
 refine bl 95 (((((x70.l.length:Int)%2)==0)&&(decide (2≤(x70.l.length:Int))))) (fun b8=>?_) (fun b8=>?_)
 exact Pl 3<|ce cd (decide ((x70.l.length:Int)≤250)) (by rw[b8];rfl)
 exact Pl 3<|ce cd false (by rw[b8];rfl)
 refine ay<|m2 (bg ((((((x70.l.length:Int)%2)==0)&&(decide (2≤(x70.l.length:Int))))&&(decide ((x70.l.length:Int)≤250)))) 5 (RC.upd W N aF (aH.step (RC.u W) N))) fun fz dK ao=>?_
 refine gM dK fun x88 dL dM=>?_
 refine aM 2<|L0<|Oe (vI (IntKind.i64.wrap (Int.tdiv (x70.l.length:Int) 2))) (vI ((x70.l.length:Int)/2)) (congrArg (Value.int .i64) (gX (by omega) (by omega)))<|ay<|qH (i7 (n:=((x70.l.length:Int)/2)) (by omega) dM) fun cf cg fA aq fB fC dN dO=>Pl 1<|?_
 have ch:=uz N (u1 ao dO im)
 refine L0<|cm (be ch (Ne.symm B) b7) 12 (mG c 0 0 0 0 0 0 0 ((ai.mk b false 0).wordV) 0 0 0 (.slice cf ((x88.wordsR ((x70.l.length:Int)/2)).length) cg) nS nS nS 0 0 0 0 0 nS) fun fD dP b9=>nt<|xt<|tx<|bx<|tn<|ak 1<|?_
 have ba:=us ch b9
 have ci:=ut ca ba (ac (ni d.size a) (ac (ni (le d.size g.size) f) aC))
 refine ay<|m2 (fb (RC.upd dN b9 (aa B aF) ci)) fun fE bb Z=>nt<|sq<|ak 3<|L0<|eH (p:=⟨j,3,none⟩) (v:=vI (((x88.wordsC ((x70.l.length:Int)/2)).endC).e)) (RC.fld bb)<|ah 1<|?_
 have cj:=ud ci Z (le d.size a)
 have hs:aj bQ 1 c b=bt (aT.mk c 0 0 0 0 0 0 0 ((ai.mk b false 0).wordV) 0 0 0 (x88.wordsR ((x70.l.length:Int)/2)) [] [] [] 0 0 0 0 0 []) (x88.wordsC ((x70.l.length:Int)/2)):=by
   subst dL c9
   unfold aj bQ f7 el
   (try simp only[y,C,X,bj,dQ,dU,dW,dT,dR,reduceIte,mf,mc])
   all_goals rfl
 refine cb (((((x88.wordsC ((x70.l.length:Int)/2)).endC).e)!=0)) (fun bc=>?_) (fun bc=>?_)
 have bd:=az bc
 refine sq<|Rg 7 (fun w'=>w'.cell? ⟨j,3,none⟩=some (vI (((x88.wordsC ((x70.l.length:Int)/2)).endC).e))) fun fF ar=>?_
 have ck:=RC.upd bb ar aF (aH.step (RC.u bb) ar)
 refine bp (RC.fld ck) fun a0=>Rt 0 a0<|Rt 1 a0<|Rt 2 a0<|Rt 3 a0<|Rl 4 a0 (fun _ hs=>hs)<|?_
 refine R0 5 rfl<|gk (ub (ut o (ut V (ui s (u1 ba (aJ Z ar) im)) (ac im (ac im aC))) (ac (nr a) (ac (ni g.size f) aC))) i) mZ fun fG dS cl=>?_
 have cn:=ud cj (uz ar cl) k
 refine bp (RC.fld (RC.upd ck cl (aa (Ne.symm (nb (au i) lr a)) aF) cn)) fun dV=>Rt 6 dV<|re<|tn<|aV<|bH dS (vI (((x88.wordsC ((x70.l.length:Int)/2)).endC).e))<|?_
 rw[hs]
 exact bv bd cn
 have bd:=aA bc
 refine bo<|sg<|?_
 refine L0<|bO (be Z (Ne.symm B) dP)<|?_
 refine aG (ub (ut o (ut V (ui s (u1 ba Z im)) (ac im (ac im aC))) (ac (nr a) (ac (ni g.size f) aC))) i) (mG c 0 0 0 0 0 0 0 ((ai.mk b false 0).wordV) 0 0 0 (.slice cf ((x88.wordsR ((x70.l.length:Int)/2)).length) cg) nS nS nS 0 0 0 0 0 nS) fun fH dY co=>ah 1<|rt<|bH dY (vI 0)<|?_
 rw[hs]
 exact bE bd ⟨_,_,_,_,_,rfl,((ax aq (us b9 (us Z co)) (fun x hx=>(aa (fun e=>(aL (au b4) (le (le (le (le (le (le I.size G.size) J.size) D.size) s.size) N.size) ao.size) aq) (e▸hx)) (aa (fun e=>(aL (au r) (le (le (le (le (le (le (le R.size I.size) G.size) J.size) D.size) s.size) N.size) ao.size) aq) (e▸hx)) (aa (fun e=>(aL (au i) (le (le (le (le (le (le (le (le g.size R.size) I.size) G.size) J.size) D.size) s.size) N.size) ao.size) aq) (e▸hx)) aF)))) (fun _ _ h=>h))).rd,aS.nil ..,(fun _ _ _=>aS.nil ..),aS.nil ..,aS.nil ..,(cY (by omega))⟩ (ud cj co k)
 have dI:=am X
 refine bo<|ak 1<|ay<|m3 (de W) fun dZ cq a1 fI=>Pl 1<|aM 3<|?_
 have cr:=be a1 (Ne.symm B) b7
 refine aE cr 8<|Pl 1<|ay<|m1 (Dr (dir:=1) (sub:=(ai.mk b false 0).wordV) (v:=x70.wordV) (w:=dZ) (by omega)) fun fJ O=>?_
 refine ay<|m2 (bg ((i4 1 ((ai.mk b false 0).wordV) x70.wordV)) 6 (RC.upd cq O aF (aH.step (RC.u cq) O))) fun fK e0 av=>?_
 refine gM e0 fun a2 e1 e2=>?_
 refine nt<|go<|Pl 1<|L0<|d9 (m:=1) (e:=37) #[vW x70.wordV] fun cs fL e3 e4 ct=>?_
 have aw:=eJ e3 (xs:=[x70.wordV]) (by as_aux_lemma=>kernel_rfl) (ap (by omega) aR) (by(try simp only[List.length_cons,List.length_nil]);omega) e4
 refine Pl 1<|?_
 have cv:=uz O (aJ av ct)
 refine L0<|cm (be cv (Ne.symm B) cr) 12 (mG c 0 0 0 0 0 0 0 ((ai.mk b false 0).wordV) 0 0 0 (.slice (some ⟨cs,0,none⟩) 1 1) nS nS nS 0 0 0 0 0 nS) fun fM e5 bf=>nl<|bn<|tn<|ak 1<|?_
 have bh:=ui a1 (us cv bf)
 have cw:=ut ca bh (ac (ni d.size a) (ac (ni (le d.size g.size) f) aC))
 refine ay<|m2 (fb (RC.upd e2 (uz ct bf) (aa B aF) cw)) fun fN bi a3=>nt<|sq<|ak 3<|L0<|eH (p:=⟨j,3,none⟩) (v:=vI a2.endC.e) (RC.fld bi)<|ah 1<|?_
 have cx:=ud cw a3 (le d.size a)
 have hs:aj bQ 1 c b=bt (aT.mk c 0 0 0 0 0 0 0 ((ai.mk b false 0).wordV) 0 0 0 [x70.wordV] [] [] [] 0 0 0 0 0 []) a2:=by
   subst e1 c9
   unfold aj bQ f7 el
   (try simp only[y,C,X,bj,dQ,dU,dW,dT,dR,reduceIte,mf,mc])
   all_goals rfl
 refine cb ((a2.endC.e != 0)) (fun bm=>?_) (fun bm=>?_)
 have br:=az bm
 refine sq<|Rg 7 (fun w'=>w'.cell? ⟨j,3,none⟩=some (vI a2.endC.e)) fun fO aB=>?_
 have cy:=RC.upd bi aB aF (aH.step (RC.u bi) aB)
 refine bp (RC.fld cy) fun a4=>Rt 0 a4<|Rt 1 a4<|Rt 2 a4<|Rt 3 a4<|Rl 4 a4 (fun _ hs=>hs)<|?_
 refine R0 5 rfl<|gk (ub (ut o (ut V (ui s (u1 bh (aJ a3 aB) im)) (ac im (ac im aC))) (ac (nr a) (ac (ni g.size f) aC))) i) mZ fun fP e6 cz=>?_
 have cA:=ud cx (uz aB cz) k
 refine bp (RC.fld (RC.upd cy cz (aa (Ne.symm (nb (au i) lr a)) aF) cA)) fun e7=>Rt 6 e7<|re<|tn<|aV<|bH e6 (vI a2.endC.e)<|?_
 rw[hs]
 exact bv br cA
 have br:=aA bm
 refine bo<|sg<|?_
 refine L0<|bO (be a3 (Ne.symm B) e5)<|?_
 refine aG (ub (ut o (ut V (ui s (u1 bh a3 im)) (ac im (ac im aC))) (ac (nr a) (ac (ni g.size f) aC))) i) (mG c 0 0 0 0 0 0 0 ((ai.mk b false 0).wordV) 0 0 0 (.slice (some ⟨cs,0,none⟩) 1 1) nS nS nS 0 0 0 0 0 nS) fun fQ e8 cB=>ah 1<|rt<|bH e8 (vI 0)<|?_
 rw[hs]
 exact bE br ⟨_,_,_,_,_,rfl,((ax aw (us bf (us a3 cB)) (fun x hx=>(aa (fun e=>(aL (au b4) (le (le (le (le (le (le (le I.size G.size) J.size) D.size) s.size) a1.size) O.size) av.size) aw) (e▸hx)) (aa (fun e=>(aL (au r) (le (le (le (le (le (le (le (le R.size I.size) G.size) J.size) D.size) s.size) a1.size) O.size) av.size) aw) (e▸hx)) (aa (fun e=>(aL (au i) (le (le (le (le (le (le (le (le (le g.size R.size) I.size) G.size) J.size) D.size) s.size) a1.size) O.size) av.size) aw) (e▸hx)) aF)))) (fun _ _ h=>h))).rd,aS.nil ..,(fun _ _ _=>aS.nil ..),aS.nil ..,aS.nil ..,(cY (by omega))⟩ (ud cx cB k)
 have dC:=am C
 refine aD 3<|c0<|aD 3<|cb ((c==7)) (fun L=>?_) (fun L=>?_)
 have e9:=ag L
 refine go<|Pl 1<|?_
 have ea:RC w _ A cp b S j (ai.mk b false 0):=⟨hsl,z,(Nat.le_trans d.size a),⟨0,(ub M r),Nat.zero_le _,rfl⟩,by omega⟩
 refine ay<|m3 (eN ea) fun fR eb cD fS=>L0<|CS ((ai.mk b false 0).byteV)<|Pl 1<|?_
 have bs:=nb (au r) lr f
 refine L0<|cm (be cD (Ne.symm bs) T) 4 (mG c 0 0 0 ((ai.mk b false 0).byteV) 0 0 0 0 0 0 0 nS nS nS nS 0 0 0 0 0 nS) fun fT ec cE=>nl<|bn<|tn<|ak 1<|?_
 have bu:=us cD cE
 have cF:=ut z bu (ac (ni d.size a) (ac (ni (le d.size g.size) f) aC))
 refine ay<|m2 (fb (RC.upd eb cE (aa bs aF) cF)) fun fU bw aI=>nt<|sq<|ak 3<|L0<|eH (p:=⟨j,3,none⟩) (v:=vI ((((ai.mk b false 0).bytesC 1).endC).e)) (RC.fld bw)<|ah 1<|?_
 have cG:=ud cF aI (le d.size a)
 have hs:aj bQ 1 c b=bt (aT.mk c 0 0 0 ((ai.mk b false 0).byteV) 0 0 0 0 0 0 0 [] [] [] [] 0 0 0 0 0 []) ((ai.mk b false 0).bytesC 1):=by
   unfold aj bQ f7 el
   (try simp only[y,C,L,bj,dQ,dU,dW,dT,dR,reduceIte,mf,mc])
   all_goals rfl
 refine cb ((((((ai.mk b false 0).bytesC 1).endC).e)!=0)) (fun bz=>?_) (fun bz=>?_)
 have bA:=az bz
 refine sq<|Rg 7 (fun w'=>w'.cell? ⟨j,3,none⟩=some (vI ((((ai.mk b false 0).bytesC 1).endC).e))) fun fV aN=>?_
 have cH:=RC.upd bw aN aF (aH.step (RC.u bw) aN)
 refine bp (RC.fld cH) fun a5=>Rt 0 a5<|Rt 1 a5<|Rt 2 a5<|Rt 3 a5<|Rl 4 a5 (fun _ hs=>hs)<|?_
 refine R0 5 rfl<|gk (ub (ut o (u1 bu (aJ aI aN) im) (ac (nr a) (ac (ni g.size f) aC))) i) mZ fun fW ed cI=>?_
 have cJ:=ud cG (uz aN cI) k
 refine bp (RC.fld (RC.upd cH cI (aa (Ne.symm (nb (au i) lr a)) aF) cJ)) fun ee=>Rt 6 ee<|re<|tn<|aV<|bH ed (vI ((((ai.mk b false 0).bytesC 1).endC).e))<|?_
 rw[hs]
 exact bv bA cJ
 have bA:=aA bz
 refine bo<|sg<|?_
 refine L0<|bO (be aI (Ne.symm bs) ec)<|?_
 refine aG (ub (ut o (u1 bu aI im) (ac (nr a) (ac (ni g.size f) aC))) i) (mG c 0 0 0 ((ai.mk b false 0).byteV) 0 0 0 0 0 0 0 nS nS nS nS 0 0 0 0 0 nS) fun fX ef eg=>ah 1<|rt<|bH ef (vI 0)<|?_
 rw[hs]
 exact bE bA ⟨_,_,_,_,_,rfl,aS.nil ..,aS.nil ..,(fun _ _ _=>aS.nil ..),aS.nil ..,aS.nil ..,(cY (by omega))⟩ (ud cG eg k)
 have e9:=am L
 refine aD 3<|cb ((c==11)) (fun P=>?_) (fun P=>?_)
 have eh:=ag P
 refine ak 1<|?_
 have ei:RC w _ A cp b S j (ai.mk b false 0):=⟨hsl,z,(Nat.le_trans d.size a),⟨0,(ub M r),Nat.zero_le _,rfl⟩,by omega⟩
 refine ay<|m3 (de ei) fun fY ej cK fZ=>Pl 1<|?_
 have a6:=nb (au r) lr f
 refine L0<|cm (be cK (Ne.symm a6) T) 9 (mG c 0 0 0 0 0 0 0 0 ((ai.mk b false 0).wordV) 0 0 nS nS nS nS 0 0 0 0 0 nS) fun g0 bC cL=>aM 2<|aE bC 9<|Pl 2<|cu 4 [137] 141 (((((ai.mk b false 0).wordV)==0)||(((ai.mk b false 0).wordV)==65535))) (fun K cM=>?_) ?_
 refine bl 137 ((((ai.mk b false 0).wordV)==0)) (fun a7=>?_) (fun a7=>?_)
 have ek:=ag a7
 exact Pl 4<|ce cM true (by rw[a7];rfl)
 have ek:=am a7
 exact Pl 1<|L1<|dX bC 9<|Pl 2<|ce cM (((ai.mk b false 0).wordV)==65535) (by rw[a7];rfl)
 have bD:=us cK cL
 have cN:=ut z bD (ac (ni d.size a) (ac (ni (le d.size g.size) f) aC))
 refine ay<|m2 (bg (((((ai.mk b false 0).wordV)==0)||(((ai.mk b false 0).wordV)==65535))) 6 (RC.upd ej cL (aa a6 aF) cN)) fun g1 em eo=>?_
 refine gM em fun H ep eq=>?_
 refine nt<|go<|Pl 1<|ay<|m3 (de eq) fun g2 er es g3=>Pl 1<|?_
 have cO:=u1 eo es im
 refine L0<|cm (be cO (Ne.symm a6) bC) 10 (mG c 0 0 0 0 0 0 0 0 ((ai.mk b false 0).wordV) H.wordV 0 nS nS nS nS 0 0 0 0 0 nS) fun g4 et cP=>nl<|bn<|tn<|ak 1<|?_
 have bF:=us cO cP
 have cQ:=ut cN bF (ac (ni d.size a) (ac (ni (le d.size g.size) f) aC))
 refine ay<|m2 (fb (RC.upd er cP (aa a6 aF) cQ)) fun g5 bI aO=>nt<|sq<|ak 3<|L0<|eH (p:=⟨j,3,none⟩) (v:=vI (((H.wordsC 1).endC).e)) (RC.fld bI)<|ah 1<|?_
 have cR:=ud cQ aO (le d.size a)
 have hs:aj bQ 1 c b=bt (aT.mk c 0 0 0 0 0 0 0 0 ((ai.mk b false 0).wordV) H.wordV 0 [] [] [] [] 0 0 0 0 0 []) (H.wordsC 1):=by
   subst ep
   unfold aj bQ f7 el
   (try simp only[y,C,L,P,bj,dQ,dU,dW,dT,dR,reduceIte,mf,mc])
   all_goals rfl
 refine cb (((((H.wordsC 1).endC).e)!=0)) (fun bJ=>?_) (fun bJ=>?_)
 have bK:=az bJ
 refine sq<|Rg 7 (fun w'=>w'.cell? ⟨j,3,none⟩=some (vI (((H.wordsC 1).endC).e))) fun g6 aP=>?_
 have cS:=RC.upd bI aP aF (aH.step (RC.u bI) aP)
 refine bp (RC.fld cS) fun a8=>Rt 0 a8<|Rt 1 a8<|Rt 2 a8<|Rt 3 a8<|Rl 4 a8 (fun _ hs=>hs)<|?_
 refine R0 5 rfl<|gk (ub (ut o (ut bD (u1 bF (aJ aO aP) im) (ac im (ac im aC))) (ac (nr a) (ac (ni g.size f) aC))) i) mZ fun g7 eu cT=>?_
 have cU:=ud cR (uz aP cT) k
 refine bp (RC.fld (RC.upd cS cT (aa (Ne.symm (nb (au i) lr a)) aF) cU)) fun ev=>Rt 6 ev<|re<|tn<|aV<|bH eu (vI (((H.wordsC 1).endC).e))<|?_
 rw[hs]
 exact bv bK cU
 have bK:=aA bJ
 refine bo<|sg<|?_
 refine L0<|bO (be aO (Ne.symm a6) et)<|?_
 refine aG (ub (ut o (ut bD (u1 bF aO im) (ac im (ac im aC))) (ac (nr a) (ac (ni g.size f) aC))) i) (mG c 0 0 0 0 0 0 0 0 ((ai.mk b false 0).wordV) H.wordV 0 nS nS nS nS 0 0 0 0 0 nS) fun g8 ew ex=>ah 1<|rt<|bH ew (vI 0)<|?_
 rw[hs]
 exact bE bK ⟨_,_,_,_,_,rfl,aS.nil ..,aS.nil ..,(fun _ _ _=>aS.nil ..),aS.nil ..,aS.nil ..,(cY (by omega))⟩ (ud cR ex k)
 have eh:=am P
 refine aD 3<|cb ((c==12)) (fun a9=>?_) (fun a9=>?_)
 have ey:=ag a9
 refine ak 1<|?_
 have ez:RC w _ A cp b S j (ai.mk b false 0):=⟨hsl,z,(Nat.le_trans d.size a),⟨0,(ub M r),Nat.zero_le _,rfl⟩,by omega⟩
 refine ay<|m3 (eN ez) fun g9 eA eB ga=>bq ((ai.mk b false 0).byteV)<|Pl 1<|aM 4<|cu 3 [155] 158 (((decide (6≤((ai.mk b false 0).byteV)))&&(decide (((ai.mk b false 0).byteV)≤70)))) (fun K cW=>?_) ?_
 refine bl 155 ((decide (6≤((ai.mk b false 0).byteV)))) (fun ab=>?_) (fun ab=>?_)
 have eC:=of_decide_eq_true ab
 exact Pl 3<|ce cW (decide (((ai.mk b false 0).byteV)≤70)) (by rw[ab];rfl)
 have eC:=of_decide_eq_false ab
 exact Pl 3<|ce cW false (by rw[ab];rfl)
 refine ay<|m2 (bg (((decide (6≤((ai.mk b false 0).byteV)))&&(decide (((ai.mk b false 0).byteV)≤70)))) 5 eA) fun gb eD eE=>?_
 refine gM eD fun t eF eG=>?_
 refine aM 1<|ay<|m3 (de eG) fun gc eI eK gd=>Pl 1<|?_
 have cX:=u1 eB (u1 eE eK im) im
 have E:=nb (au r) lr f
 refine L0<|cm (be cX (Ne.symm E) T) 9 (mG c 0 0 0 0 0 0 0 0 t.wordV 0 0 nS nS nS nS 0 0 0 0 0 nS) fun ge bL cZ=>aM 2<|aE bL 9<|Pl 2<|cu 4 [167] 171 (((t.wordV==0)||(t.wordV==65535))) (fun K d0=>?_) ?_
 refine bl 167 ((t.wordV==0)) (fun ad=>?_) (fun ad=>?_)
 have eL:=ag ad
 exact Pl 4<|ce d0 true (by rw[ad];rfl)
 have eL:=am ad
 exact Pl 1<|L1<|dX bL 9<|Pl 2<|ce d0 (t.wordV==65535) (by rw[ad];rfl)
 have bM:=us cX cZ
 have d1:=ut z bM (ac (ni d.size a) (ac (ni (le d.size g.size) f) aC))
 refine ay<|m2 (bg (((t.wordV==0)||(t.wordV==65535))) 6 (RC.upd eI cZ (aa E aF) d1)) fun gf eM eO=>?_
 refine gM eM fun q eP eQ=>?_
 refine aM 1<|ay<|m3 (de eQ) fun gg eR eS gh=>Pl 1<|?_
 have d2:=u1 eO eS im
 refine L0<|cm (be d2 (Ne.symm E) bL) 10 (mG c 0 0 0 0 0 0 0 0 t.wordV q.wordV 0 nS nS nS nS 0 0 0 0 0 nS) fun gi eT d3=>aM 1<|?_
 have bN:=us d2 d3
 have d4:=ut d1 bN (ac (ni d.size a) (ac (ni (le d.size g.size) f) aC))
 refine ay<|m3 (de (RC.upd eR d3 (aa E aF) d4)) fun gj eU d5 gl=>Pl 1<|?_
 refine L0<|cm (be d5 (Ne.symm E) eT) 11 (mG c 0 0 0 0 0 0 0 0 t.wordV q.wordV ((q.wordsC 1).wordV) nS nS nS nS 0 0 0 0 0 nS) fun gm eV d6=>nt<|go<|Pl 2<|bq (((ai.mk b false 0).byteV)-6)<|?_
 have bP:=us d5 d6
 have d7:=ut d4 bP (ac (ni d.size a) (ac (ni (le d.size g.size) f) aC))
 have d8:=RC.upd eU d6 (aa E aF) d7
 refine ay<|sW (gB (n:=(((ai.mk b false 0).byteV)-6)) (by omega) d8) fun db dc gn eW eX dd=>?_
 have gp:=Nat.le_trans (ai.bytesR_le ((q.wordsC 1).wordsC 1) (((ai.mk b false 0).byteV)-6)) (RC.clen d8)
 refine gM eX fun ae eY eZ=>?_
 refine Pl 1<|?_
 refine L0<|cm (be dd (Ne.symm E) eV) 14 (mG c 0 0 0 0 0 0 0 0 t.wordV q.wordV ((q.wordsC 1).wordV) nS nS (.slice db ((((q.wordsC 1).wordsC 1).bytesR (((ai.mk b false 0).byteV)-6)).length) dc) nS 0 0 0 0 0 nS) fun gq f0 df=>nl<|bn<|tn<|ak 1<|?_
 have bR:=us dd df
 have dg:=ut d7 bR (ac (ni d.size a) (ac (ni (le d.size g.size) f) aC))
 refine ay<|m2 (fb (RC.upd eZ df (aa E aF) dg)) fun gr bS aQ=>nt<|sq<|ak 3<|L0<|eH (p:=⟨j,3,none⟩) (v:=vI ae.endC.e) (RC.fld bS)<|ah 1<|?_
 have dh:=ud dg aQ (le d.size a)
 have hs:aj bQ 1 c b=bt (aT.mk c 0 0 0 0 0 0 0 0 t.wordV q.wordV ((q.wordsC 1).wordV) [] [] (((q.wordsC 1).wordsC 1).bytesR (((ai.mk b false 0).byteV)-6)) [] 0 0 0 0 0 []) ae:=by
   subst eY eP eF
   unfold aj bQ f7 el
   (try simp only[y,C,L,P,a9,bj,dQ,dU,dW,dT,dR,reduceIte,mf,mc])
   all_goals rfl
 refine cb ((ae.endC.e != 0)) (fun bT=>?_) (fun bT=>?_)
 have bU:=az bT
 refine sq<|Rg 7 (fun w'=>w'.cell? ⟨j,3,none⟩=some (vI ae.endC.e)) fun gs aU=>?_
 have di:=RC.upd bS aU aF (aH.step (RC.u bS) aU)
 refine bp (RC.fld di) fun af=>Rt 0 af<|Rt 1 af<|Rt 2 af<|Rt 3 af<|Rl 4 af (fun _ hs=>hs)<|?_
 refine R0 5 rfl<|gk (ub (ut o (ut bM (ut bN (ut bP (u1 bR (aJ aQ aU) im) (ac im (ac im aC))) (ac im (ac im aC))) (ac im (ac im aC))) (ac (nr a) (ac (ni g.size f) aC))) i) mZ fun gt f1 dj=>?_
 have dk:=ud dh (uz aU dj) k
 refine bp (RC.fld (RC.upd di dj (aa (Ne.symm (nb (au i) lr a)) aF) dk)) fun f2=>Rt 6 f2<|re<|tn<|aV<|bH f1 (vI ae.endC.e)<|?_
 rw[hs]
 exact bv bU dk
 have bU:=aA bT
 refine bo<|sg<|?_
 refine L0<|bO (be aQ (Ne.symm E) f0)<|?_
 refine aG (ub (ut o (ut bM (ut bN (ut bP (u1 bR aQ im) (ac im (ac im aC))) (ac im (ac im aC))) (ac im (ac im aC))) (ac (nr a) (ac (ni g.size f) aC))) i) (mG c 0 0 0 0 0 0 0 0 t.wordV q.wordV ((q.wordsC 1).wordV) nS nS (.slice db ((((q.wordsC 1).wordsC 1).bytesR (((ai.mk b false 0).byteV)-6)).length) dc) nS 0 0 0 0 0 nS) fun gu f3 f4=>ah 1<|rt<|bH f3 (vI 0)<|?_
 rw[hs]
 exact bE bU ⟨_,_,_,_,_,rfl,aS.nil ..,aS.nil ..,eW,aS.nil ..,aS.nil ..,(cY (by omega))⟩ (ud dh f4 k)
 have ey:=am a9
 refine ak 1<|?_
 have f5:RC w _ A cp b S j (ai.mk b false 0):=⟨hsl,z,(Nat.le_trans d.size a),⟨0,(ub M r),Nat.zero_le _,rfl⟩,by omega⟩
 refine ay<|m3 (eN f5) fun gv f6 f8 gw=>bq ((ai.mk b false 0).byteV)<|Pl 1<|aM 4<|cu 3 [52] 55 (((decide (1≤((ai.mk b false 0).byteV)))&&(decide (((ai.mk b false 0).byteV)≤251)))) (fun K dl=>?_) ?_
 refine bl 52 ((decide (1≤((ai.mk b false 0).byteV)))) (fun al=>?_) (fun al=>?_)
 have f9:=of_decide_eq_true al
 exact Pl 3<|ce dl (decide (((ai.mk b false 0).byteV)≤251)) (by rw[al];rfl)
 have f9:=of_decide_eq_false al
 exact Pl 3<|ce dl false (by rw[al];rfl)
 refine ay<|m2 (bg (((decide (1≤((ai.mk b false 0).byteV)))&&(decide (((ai.mk b false 0).byteV)≤251)))) 5 f6) fun gx fa fd=>?_
 refine gM fa fun F fe dm=>?_
 refine nt<|go<|Pl 2<|ay<|sW (gB (n:=(ai.mk b false 0).byteV) (by omega) dm) fun dn dp gy ff fg fh=>?_
 have gz:=Nat.le_trans (ai.bytesR_le F ((ai.mk b false 0).byteV)) (RC.clen dm)
 refine Pl 1<|?_
 have dq:=u1 f8 (u1 fd fh im) im
 have bV:=nb (au r) lr f
 refine L0<|cm (be dq (Ne.symm bV) T) 14 (mG c 0 0 0 0 0 0 0 0 0 0 0 nS nS (.slice dn ((F.bytesR ((ai.mk b false 0).byteV)).length) dp) nS 0 0 0 0 0 nS) fun gA fi dr=>nl<|bn<|tn<|ak 1<|?_
 have bW:=us dq dr
 have ds:=ut z bW (ac (ni d.size a) (ac (ni (le d.size g.size) f) aC))
 refine ay<|m2 (fb (RC.upd fg dr (aa bV aF) ds)) fun gC bX aW=>nt<|sq<|ak 3<|L0<|eH (p:=⟨j,3,none⟩) (v:=vI (((F.bytesC ((ai.mk b false 0).byteV)).endC).e)) (RC.fld bX)<|ah 1<|?_
 have dt:=ud ds aW (le d.size a)
 have hs:aj bQ 1 c b=bt (aT.mk c 0 0 0 0 0 0 0 0 0 0 0 [] [] (F.bytesR ((ai.mk b false 0).byteV)) [] 0 0 0 0 0 []) (F.bytesC ((ai.mk b false 0).byteV)):=by
   subst fe
   unfold aj bQ f7 el
   (try simp only[y,C,L,P,a9,bj,dQ,dU,dW,dT,dR,reduceIte,mf,mc])
   all_goals rfl
 refine cb (((((F.bytesC ((ai.mk b false 0).byteV)).endC).e)!=0)) (fun bY=>?_) (fun bY=>?_)
 have bZ:=az bY
 refine sq<|Rg 7 (fun w'=>w'.cell? ⟨j,3,none⟩=some (vI (((F.bytesC ((ai.mk b false 0).byteV)).endC).e))) fun gD aY=>?_
 have du:=RC.upd bX aY aF (aH.step (RC.u bX) aY)
 refine bp (RC.fld du) fun an=>Rt 0 an<|Rt 1 an<|Rt 2 an<|Rt 3 an<|Rl 4 an (fun _ hs=>hs)<|?_
 refine R0 5 rfl<|gk (ub (ut o (u1 bW (aJ aW aY) im) (ac (nr a) (ac (ni g.size f) aC))) i) mZ fun gE fj dv=>?_
 have dw:=ud dt (uz aY dv) k
 refine bp (RC.fld (RC.upd du dv (aa (Ne.symm (nb (au i) lr a)) aF) dw)) fun fk=>Rt 6 fk<|re<|tn<|aV<|bH fj (vI (((F.bytesC ((ai.mk b false 0).byteV)).endC).e))<|?_
 rw[hs]
 exact bv bZ dw
 have bZ:=aA bY
 refine bo<|sg<|?_
 refine L0<|bO (be aW (Ne.symm bV) fi)<|?_
 refine aG (ub (ut o (u1 bW aW im) (ac (nr a) (ac (ni g.size f) aC))) i) (mG c 0 0 0 0 0 0 0 0 0 0 0 nS nS (.slice dn ((F.bytesR ((ai.mk b false 0).byteV)).length) dp) nS 0 0 0 0 0 nS) fun gF fl fm=>ah 1<|rt<|bH fl (vI 0)<|?_
 rw[hs]
 exact bE bZ ⟨_,_,_,_,_,rfl,aS.nil ..,aS.nil ..,ff,aS.nil ..,aS.nil ..,(cY (by omega))⟩ (ud dt fm k)
theorem oG(hcode:B8 c)(hsl:aX m w (.slice A b.length cp) b)(hb:b.length≤1048576)(hd:¬ (dir=0∨dir=1)) :
    Calls Tryz.prog 111 #[vI dir,vB c,.slice A b.length cp] w (cV (.slice A b.length cp) b (aj bQ dir c b) w):=by
 obtain⟨hcode1,hcode2⟩:=hcode
 have hln:(b.length:Int)≤1048576:=by omega
 have e0:(dir != 0)=true:=by simp;omega
 have e1:(dir != 1)=true:=by simp;omega
 refine en 197 Tryz.func111 rfl<|sg<|aK mZ fun g h a d e=>ah 1<|sq<|ak 3<|sy 17 e0<|Pl 3<|nl<|tn<|ct e1<|ak 1<|aG d mZ fun i eP f=>ah 1<|aV<|bH eP (vI 1)<|?_
 exact cC (by unfold aj bQ f7 el;(try simp only[e0,e1,bj,dQ,dU,dW,dT,dR,reduceIte,hd,mf,mc])<;>rfl) (bG (ud e f a))
open Go.RowKit
theorem eV(h:C.e≠0) : C.need ok x=C:=by
  unfold ai.need
  rw[if_neg fun k=>h k.1]
theorem fT(h:C.fails n=true) : (C.bytesC n).e≠0:=by
  unfold ai.bytesC
  rw[if_pos h]
  unfold ai.need
  split
  · exact(show(2:Int)≠0 from by decide)
  · rename_i k
    intro e
    exact k ⟨e,rfl⟩
theorem pX(h:(C.wordsR 1).length≠1) : (C.wordsC 1).e≠0:=by
  unfold ai.wordsR at h
  unfold ai.wordsC
  split
  · exact fT (by unfold ai.fails;simp)
  · rename_i hb
    rw[if_neg hb] at h
    by_cases hf:C.fails (2*1)=true
    · exact fT hf
    · exfalso
      apply h
      unfold ai.bytesR
      rw[if_neg hf]
      unfold ai.fails at hf
      simp only[Bool.or_eq_true,decide_eq_true_eq,not_or] at hf
      rcases e:C.l with _|⟨a,_|⟨b,t⟩⟩
      · rw[e] at hf;simp at hf
      · rw[e] at hf;simp at hf
      · show(cD [a,b]).length=1
        unfold cD
        rw[if_pos (by simp)]
        simp[dG]
theorem u0(h:(C.wordsR 1).length=1) : [C.wordV]=C.wordsR 1:=by
  unfold ai.wordV
  rcases e:C.wordsR 1 with _|⟨a,_|⟨b,t⟩⟩
  · rw[e] at h;simp at h
  · rfl
  · rw[e] at h;simp at h
theorem vt{M':aT}  (h:C.e≠0) : bt M C=bt M' C:=by
  unfold bt
  have e:C.endC.e≠0:=by unfold ai.endC;rw[eV h];exact h
  rw[if_neg e,if_neg e]
theorem xq(dir:Int)(C:ai) : fI dir C=fu dir C:=by
  unfold fI fu
  rw[Bool.or_comm]
theorem wg(dir c:Int)(C:ai) : bt (f7 dir c C).2 (f7 dir c C).1=bt (eE dir c C).2 (eE dir c C).1:=by
  unfold f7 eE
  rw[xq]
  by_cases h0:C.wordV=0
  · rw[h0,if_pos (show((0:Int)==0)=true from rfl),if_neg (show ¬ ((0:Int)!=0)=true from by decide)]
  · rw[if_neg (by simpa using h0),if_pos (by simpa using h0)]
    by_cases h1:((fu dir C).wordsR 1).length=1
    · rw[u0 h1,show((((fu dir C).wordsR 1).length:Int)==1)=true from by rw[h1];rfl,Bool.true_and]
      rfl
    · have k:=pX h1
      dsimp only
      rw[eV k,eV k]
      exact vt k
theorem oF{f f':Int→Int→ai→Option (ai × aT)}   (h:∀ C,(dir=0∨dir=1)→(f dir c C=none∧f' dir c C=none)∨∃ r r',f dir c C=some r∧f' dir c C=some r'∧bt r.2 r.1=bt r'.2 r'.1) : aj f dir c b=aj f' dir c b:=by
  unfold aj
  split
  · rename_i hd
    rcases h ⟨b,false,0⟩ hd with⟨h1,h2⟩|⟨r,r',h1,h2,h3⟩
    · rw[h1,h2]
    · rw[h1,h2];exact h3
  · rfl
theorem pS(dir c:Int)(b:List Int) : aj bQ dir c b=aj bf dir c b:=by
  refine oF fun C hd=>?_
  unfold bQ bf
  by_cases h8:c=8
  · subst h8
    exact .inr ⟨_,_,rfl,rfl,wg dir 8 C⟩
  · by_cases h:c=7∨c=11∨c=12∨c=17
    · refine .inr ?_
      rw[if_neg (show ¬ (((((c != 7)&&(c != 8))&&(c != 11))&&(c != 12))&&(c != 17))=true from by rcases h with rfl | rfl | rfl | rfl<;>decide),if_neg (show ¬ (c==8)=true from by simpa using h8),if_neg (show ¬ (c==8)=true from by simpa using h8),if_pos (show(c==7 || c==11 || c==12 || c==17)=true from by rcases h with rfl | rfl | rfl | rfl<;>decide)]
      rcases hd with rfl|rfl
      · exact⟨_,_,rfl,rfl,rfl⟩
      · refine⟨_,_,rfl,rfl,?_⟩
        rcases h with rfl|rfl|rfl|rfl<;>rfl
    · refine .inl ?_
      rw[if_pos (show(((((c != 7)&&(c != 8))&&(c != 11))&&(c != 12))&&(c != 17))=true from by simp;omega),if_neg (show ¬ (c==8)=true from by simpa using h8),if_neg (show ¬ (c==7 || c==11 || c==12 || c==17)=true from by simp;omega)]
      exact⟨rfl,rfl⟩
open Go.RowKit
theorem pF:eo n=if n<1 then 0 else n/8+(if 0<n%8 then 1 else 0):=by
  unfold eo
  split
  · rfl
  · split<;>omega
theorem nu(l:List Bool)(j:Nat) : cv (l.take (8*j)) j=0:=by
  have h:=oT l (8*j)
  rw[show 8*j/8=j from by omega,show 8*j%8=0 from by omega] at h
  omega
theorem lC(ht:t<8) : cv (l.take (8*j+t+1)) j=cv (l.take (8*j+t)) j+if l.getD (8*j+t) false=true then 2 ^ t else 0:=by
  rw[js,show(8*j+t)/8=j from by omega,show(8*j+t)%8=t from by omega]
  simp
theorem xl(h:t=8∨l.length≤8*j+t) : cv (l.take (8*j+t)) j=cv l j:=by
  rcases h with rfl|h
  · unfold cv
    simp only[jw]
    simp
  · rw[List.take_of_length_le h]
theorem yr(h1:l.length≤8*j)(h2:8*j<l.length+8) : (List.range j).map (fun i=>(cv l i:Int))=bZ l:=by
  unfold bZ
  rw[show(eo l.length).toNat=j from by unfold eo;split<;>omega]
theorem wd(l:List Bool) : ((bZ l).length:Int)=eo l.length:=by
  unfold bZ
  rw[List.length_map,List.length_range]
  unfold eo
  split<;>omega
theorem EF:∀ x0 x1 x2 x3 x4 x5 x6 x7:Bool,∀ t:Fin 8,(((((if x0=true then 1 else 0)+(if x1=true then 2 else 0)+(if x2=true then 4 else 0)+(if x3=true then 8 else 0)+(if x4=true then 16 else 0)+(if x5=true then 32 else 0)+(if x6=true then 64 else 0)+(if x7=true then 128 else 0) : Nat) : Int)/2 ^ t.val%2==1)=[x0,x1,x2,x3,x4,x5,x6,x7].getD t.val false):=by decide +kernel
theorem Df(ht:t<8) : ((cv l j:Int)/2 ^ t%2==1)=l.getD (8*j+t) false:=by
  have h:=EF (l.getD (8*j) false) (l.getD (8*j+1) false) (l.getD (8*j+2) false) (l.getD (8*j+3) false) (l.getD (8*j+4) false) (l.getD (8*j+5) false) (l.getD (8*j+6) false) (l.getD (8*j+7) false) ⟨t,ht⟩
  refine h.trans ?_
  rcases t with _|_|_|_|_|_|_|_|t
  case succ.succ.succ.succ.succ.succ.succ.succ=>omega
  all_goals rfl
theorem sS(l:List Bool) : cK (bZ l) (l.length:Int)=some ((List.range l.length).map (cQ (bZ l))):=by
  have hl:=wd l
  unfold cK
  rw[if_pos ⟨by omega,hl⟩,if_pos,show((l.length:Int)).toNat=l.length from by omega]
  rw[List.all_eq_true]
  intro i hi
  have hi:i<8*(bZ l).length:=by simpa using hi
  simp only[Bool.or_eq_true,decide_eq_true_eq,Bool.not_eq_true']
  by_cases h:(i:Int)<l.length
  · exact .inl h
  · refine .inr ?_
    have hj:i/8<(bZ l).length:=by omega
    unfold cQ
    have e:(bZ l).getD (i/8) 0=(cv l (i/8) : Int):=by
      have hj2:i/8<(eo (l.length:Int)).toNat:=by omega
      unfold bZ
      rw[List.getD_eq_getElem?_getD,List.getElem?_map,List.getElem?_range hj2]
      rfl
    rw[e,Df (Nat.mod_lt _ (by decide)),show 8*(i/8)+i%8=i from by omega,List.getD_eq_getElem?_getD,List.getElem?_eq_none (by omega)]
    rfl
theorem rX(hr:∀ x,x∈b→0≤x∧x<256)(h0:0≤n) : cK b n=if bZ ((List.range n.toNat).map (cQ b))=b then some ((List.range n.toNat).map (cQ b)) else none:=by
  by_cases h:bZ ((List.range n.toNat).map (cQ b))=b
  · rw[if_pos h]
    have k:=sS ((List.range n.toNat).map (cQ b))
    rw[h,List.length_map,List.length_range,show((n.toNat:Nat) : Int)=n from by omega] at k
    exact k
  · rw[if_neg h]
    cases e:cK b n with
    | none=>rfl
    | some l =>
      exfalso
      have k:=lS hr e
      unfold cK at e
      split at e
      · split at e
        · injection e with e;rw[e] at h;exact h k
        · cases e
      · cases e
open Go.RowKit
theorem DF(hn : -1048576≤n∧n≤1048576) : Calls Tryz.prog 171 #[vI n] w (cc (vI (eo n)) w):=by
 refine en 14 Tryz.func171 rfl<|aD 1<|sq<|aD 2<|cb ((decide (n<1))) (fun a=>?_) (fun a=>?_)
 have c:=of_decide_eq_true a
 refine aD 1<|aV<|rr (vI 0)<|?_
 have hs:eo n=0:=by rw[pF];split<;>(try split)<;>omega
 rw[hs]
 exact⟨rfl,(aH.refl [] _)⟩
 have c:=of_decide_eq_false a
 refine bo<|ak 1<|L0<|Oe (vI (IntKind.i64.wrap (Int.tdiv n 8))) (vI (n/8)) (congrArg (Value.int .i64) (gX (by omega) (by omega)))<|ah 1<|sq<|ak 1<|L0<|Oe (vI (Int.tmod n 8)) (vI (n%8)) (congrArg (Value.int .i64) (Int.tmod_eq_emod_of_nonneg (by omega)))<|ah 1<|cb ((decide (0<(n%8)))) (fun b=>?_) (fun b=>?_)
 have d:=of_decide_eq_true b
 refine go<|Pl 1<|bq ((n/8)+1)<|Pl 1<|cN 2<|rt<|rr (vI ((n/8)+1))<|?_
 have hs:eo n=((n/8)+1):=by rw[pF];split<;>(try split)<;>omega
 rw[hs]
 exact⟨rfl,(aH.refl [] _)⟩
 have d:=of_decide_eq_false b
 refine bo<|aD 2<|rt<|rr (vI (n/8))<|?_
 have hs:eo n=(n/8):=by rw[pF];split<;>(try split)<;>omega
 rw[hs]
 exact⟨rfl,(aH.refl [] _)⟩
theorem v4(l:List Bool)(j t:Nat)(ht:t≤8) : cv (l.take (8*j+t)) j<2 ^ t:=by
  induction t with
  | zero=>rw[Nat.add_zero,nu];decide
  | succ t ih =>
    have h:=ih (by omega)
    rw[← Nat.add_assoc,lC (by omega),Nat.pow_succ]
    split<;>omega
theorem zt(ht:t≤8) : 2 ^ t≤256:=by
  rcases t with _|_|_|_|_|_|_|_|_|t
  case succ.succ.succ.succ.succ.succ.succ.succ.succ=>omega
  all_goals decide
theorem xm(h1:¬ 8*j<l.length)(h2:8*j<l.length+8) : (List.range j).map (fun i=>(cv l i:Int))=bZ l:=yr (by omega) h2
theorem zj(hc:c=(cv (l.take (8*j+t)) j:Int))(ht:t≤8)(h:t=8∨l.length≤8*j+t) : c%256=(cv l j:Int):=by
  have h1:=v4 l j t ht
  have h2:=zt ht
  rw[xl h] at hc h1
  omega
theorem Cy(h:jb m w (.slice A l.length cp) l)(hn:l.length≤1048576) : Calls Tryz.prog 223 #[.slice A l.length cp] w (xG l w):=by
 refine en 42 Tryz.func223 rfl<|ak 1<|cN 1<|sq<|aD 1<|bk<|je (fun x=>[(0,.slice A l.length cp),(2,nS),(3,.slice x.2.2.1 x.2.1.length x.2.2.2),(4,vI ((8*x.1:Nat) : Int))]) (fun(x:Nat × List Int × Option Addr × Nat) w'=>aH [] w w'∧eB w.heap.size w' (.slice x.2.2.1 x.2.1.length x.2.2.2) x.2.1∧(8*x.1<l.length+8)∧(x.2.1=(List.range x.1).map (fun i=>(cv l i:Int)))) (fun x=>l.length+8-8*x.1) (0,[],none,0) ⟨aH.refl _ _,(b7.nil w.heap.size _ _ wy _),(by(try dsimp only);omega),rfl⟩ ?_
 rintro⟨j,L,B,cq⟩ r ⟨f,z,C,D⟩
 refine ji [(0,.slice A l.length cp),(2,nS),(3,.slice B L.length cq),(4,vI ((8*j:Nat) : Int))] ?_
 have g:eB w.heap.size r (.slice B L.length cq) L:=z
 have Z:8*j<l.length+8:=C
 have k:L=(List.range j).map (fun i=>(cv l i:Int)):=D
 have hLn:L.length=j:=by rw[k,List.length_map,List.length_range]
 refine sq<|aD 4<|cb ((decide (((8*j:Nat) : Int)<(l.length:Int)))) (fun n=>?_) (fun n=>?_)
 have E:=of_decide_eq_true n
 refine bo<|sq<|bk<|ak 1<|cN 1<|sq<|aD 2<|bk<|je (fun x=>[(0,.slice A l.length cp),(2,nS),(3,.slice B L.length cq),(4,vI ((8*j:Nat) : Int)),(5,vI x.2.1),(6,vI x.2.2),(7,vI ((8*j+x.1:Nat) : Int)),(8,vI ((8*j:Nat) : Int)),(9,.slice A l.length cp),(10,vI (l.length:Int)),(11,.bool (decide (((8*j:Nat) : Int)<(l.length:Int)))),(14,vI ((8*j:Nat) : Int))]) (fun(x:Nat × Int × Int) w'=>aH [] r w'∧(x.1≤8)∧(x.2.1=(cv (l.take (8*j+x.1)) j:Int))∧(x.2.2=((2 ^ x.1:Nat) : Int))) (fun x=>8-x.1) (0,0,1) ⟨aH.refl _ _,(by(try dsimp only);omega),(by(try dsimp only);rw[Nat.add_zero,nu];rfl),rfl⟩ ?_
 rintro⟨t,c,u⟩ a0 ⟨a,F,G,H⟩
 refine ji [(0,.slice A l.length cp),(2,nS),(3,.slice B L.length cq),(4,vI ((8*j:Nat) : Int)),(5,vI c),(6,vI u),(7,vI ((8*j+t:Nat) : Int)),(8,vI ((8*j:Nat) : Int)),(9,.slice A l.length cp),(10,vI (l.length:Int)),(11,.bool (decide (((8*j:Nat) : Int)<(l.length:Int)))),(14,vI ((8*j:Nat) : Int))] ?_
 have a1:t≤8:=F
 have I:c=(cv (l.take (8*j+t)) j:Int):=G
 have a2:u=((2 ^ t:Nat) : Int):=H
 have hpl:=v4 l j t (by omega)
 have hpp:=zt (t:=t) (by omega)
 refine sq<|ak 5<|cu 5 [19] 24 (((decide (((8*j+t:Nat) : Int)<(l.length:Int)))&&(decide (((8*j+t:Nat) : Int)<(((8*j:Nat) : Int)+8))))) (fun K s=>?_) ?_
 refine bl 19 ((decide (((8*j+t:Nat) : Int)<(l.length:Int)))) (fun b=>?_) (fun b=>?_)
 have J:=of_decide_eq_true b
 exact Pl 2<|L1<|Oi (((8*j:Nat) : Int)+8)<|Pl 2<|ce s (decide (((8*j+t:Nat) : Int)<(((8*j:Nat) : Int)+8))) (by rw[b];rfl)
 have J:=of_decide_eq_false b
 exact Pl 5<|ce s false (by rw[b];rfl)
 refine nt<|?_
 have y:=aJ f a
 refine cb (((decide (((8*j+t:Nat) : Int)<(l.length:Int)))&&(decide (((8*j+t:Nat) : Int)<(((8*j:Nat) : Int)+8))))) (fun d=>?_) (fun d=>?_)
 have M:=(bB d).1
 have N:=(bB d).2
 have a3:=of_decide_eq_true M
 have a4:=of_decide_eq_true N
 refine bo<|sq<|bk<|sq<|ak 2<|?_
 refine EN (jb.at_ (jb.old h y) (8*j+t) (by omega)) fun O P Q R=>L0<|l9 l.length (8*j+t) Q (by omega)<|L0<|eH (p:=⟨O,P+(8*j+t),none⟩) (v:=.bool (l.getD (8*j+t) false)) R<|nt<|cb ((l.getD (8*j+t) false)) (fun o=>?_) (fun o=>?_)
 exact go<|Pl 2<|bq (c+u)<|ah 1<|go<|Pl 1<|bq (2*u)<|Pl 1<|nl<|bn<|tn<|go<|Pl 1<|bq (((8*j+t:Nat) : Int)+1)<|Pl 1<|nl<|gL ((t+1),(c+u),(2*u)) ⟨a,(by(try dsimp only);omega),(by(try dsimp only);rw[← Nat.add_assoc,lC (by omega),if_pos o];omega),(by(try dsimp only);rw[Nat.pow_succ];omega)⟩ (by omega)
 exact bo<|go<|Pl 1<|bq (2*u)<|Pl 1<|nl<|bn<|tn<|go<|Pl 1<|bq (((8*j+t:Nat) : Int)+1)<|Pl 1<|nl<|gL ((t+1),c,(2*u)) ⟨a,(by(try dsimp only);omega),(by(try dsimp only);rw[← Nat.add_assoc,lC (by omega),if_neg (by rw[o];decide)];omega),(by(try dsimp only);rw[Nat.pow_succ];omega)⟩ (by omega)
 refine xt<|tx<|tx<|bx<|tn<|go<|Pl 3<|L0<|d9 (m:=1) (e:=5) #[vB (c%256)] fun a5 a6 S T q=>?_
 have U:=cL S (xs:=[(c%256)]) (by as_aux_lemma=>kernel_rfl) (ap (by omega) aR) (by(try simp only[List.length_cons,List.length_nil]);omega) T
 refine L0<|bS b9 (xs:=L) (ys:=([(c%256)])) (vB 0) 1 (ax g (aJ a q) (fun x hx=>aF) (fun _ _ h=>h)) (U).rd (by(try simp only[bV,aB]);omega) (le (le f.size a.size) q.size) fun V W a7 X Y=>Pl 1<|nl<|bn<|tn<|go<|Pl 1<|bq (((8*j:Nat) : Int)+8)<|Pl 1<|nl<|?_
 exact gL ((j+1),(L++[(c%256)]),V,W) ⟨(ut y (ut (aH.mono (S':=(ob B++[])) q aC) Y (aq il aC)) (aq (aU g lr) aC)),X,(by(try dsimp only);omega),(by(try dsimp only);rw[k,List.range_succ,List.map_append];show _++[_]=_++[_];rw[zj I (by omega) (by have hq:=d;simp only[Bool.and_eq_false_iff,decide_eq_false_iff_not] at hq;omega)])⟩ (by omega)
 have E:=of_decide_eq_false n
 refine xt<|tx<|tx<|bx<|tn<|aD 2<|rt<|rr (.slice B L.length cq)<|?_
 have hs:L=bZ l:=by rw[k];exact xm (by omega) (by omega)
 exact⟨_,rfl,by rw[← hs];exact g,f⟩
theorem Ce(h:jb m w v l)(hn:l.length≤1048576) : Calls Tryz.prog 223 #[v] w (xG l w):=by
  obtain⟨A,c,rfl,_,_⟩:=h.shape
  exact Cy h hn
theorem xE{P:Program}  {ev:Operand→Value}{o:Oper}{x y:Operand}{t t':TypeId}{a b:ByteArray}{v:Bool}(ho:o.op = .binOp .neq t x y t')(hx:ev x = .string a)(hy:ev y = .string b)(hv:(a.toList==b.toList)=v) : (execOp ev o).run P w = .ok (.value (.bool !v)) w:=by
  have hg:eqGuard .neq t x y (.string a) (.string b)=pure ():=rfl
  unfold execOp
  simp only[ho,hx,hy,hg,binOp_string_neq,Sem.run_bind,Sem.run_pure,Result.andThen,hv]
theorem Eb{cs:Array Value}{xs:List Bool}(hg:w0.heap.size≤g)(hcs:cs=(xs.map Value.bool).toArray)(hl:xs.length≤4194304)(hb:w.heap[g]? = some (.cells cs 4 (0,0))) :
    Bm w0.heap.size w (.slice (some ⟨g,0,none⟩) xs.length xs.length) xs:=Db (enc:=Value.bool) hg hcs (fun x h=>rfl) hl hb
theorem xo(h:c=x/2 ^ k) : c/2=x/2 ^ (k+1):=by
  rw[h,Int.ediv_ediv_of_nonneg (Int.le_of_lt (Int.pow_pos (by decide))),Int.pow_succ]
theorem yY(hx:0≤x∧x<256)  (h:c=x/2 ^ k) : 0≤c∧c<256:=by
  have h1:(1:Int)≤2 ^ k:=Int.pow_pos (by decide)
  subst h
  exact⟨Int.ediv_nonneg hx.1 (by omega),Int.lt_of_le_of_lt (Int.ediv_le_self _ hx.1) hx.2⟩
theorem vF{l:List Int}{i:Nat}(h:i<l.length) : l.getD i 0∈l:=by
  rw[List.getD_eq_getElem?_getD,List.getElem?_eq_getElem h]
  exact List.getElem_mem h
theorem yH(h:aX m w (.slice A b.length cp) b)(hl:b.length≤1048576)(hn : -1048576≤n∧n≤1048576) : Calls Tryz.prog 172 #[.slice A b.length cp,vI n] w (gT b n w):=by
 have hb:=aX.range h
 refine en 51 Tryz.func172 rfl<|aD 2<|sq<|ak 3<|cu 6 [12] 18 (((decide (n<0))||(decide ((8*(b.length:Int))<n)))) (fun K H=>?_) ?_
 refine bl 12 ((decide (n<0))) (fun d=>?_) (fun d=>?_)
 have R:=of_decide_eq_true d
 exact Pl 6<|ce H true (by rw[d];rfl)
 have R:=of_decide_eq_false d
 exact Pl 3<|L1<|Oi (8*(b.length:Int))<|Pl 2<|ce H (decide ((8*(b.length:Int))<n)) (by rw[d];rfl)
 refine nt<|cb (((decide (n<0))||(decide ((8*(b.length:Int))<n)))) (fun g=>?_) (fun g=>?_)
 refine aD 2<|aV<|rr (.tuple #[nS,.bool false])<|?_
 have hq:=g
 have hs:cK b n=none:=by unfold cK;rw[if_neg];rintro⟨h1,h2⟩;simp only[Bool.or_eq_true,decide_eq_true_eq] at hq;rw[pF] at h2;split at h2<;>(try split at h2)<;>omega
 exact fS hs (aH.refl [] _)
 have S:=(bT g).1
 have T:=(bT g).2
 have ae:=of_decide_eq_false S
 have af:=of_decide_eq_false T
 refine bo<|aD 1<|sq<|aD 1<|bk<|je (fun x=>[(0,.slice A b.length cp),(1,vI n),(4,nS),(5,.bool false),(6,.slice x.2.2.1 x.2.1.length x.2.2.2),(7,vI (x.1:Int))]) (fun(x:Nat × List Bool × Option Addr × Nat) w'=>aH [] w w'∧Bm w.heap.size w' (.slice x.2.2.1 x.2.1.length x.2.2.2) x.2.1∧((x.1:Int)≤n)∧(x.2.1=(List.range x.1).map (cQ b))) (fun x=>n.toNat-x.1) (0,[],none,0) ⟨aH.refl _ _,(b7.nil w.heap.size _ _ sF _),(by(try dsimp only);omega),rfl⟩ ?_
 rintro⟨i,L,B,cq⟩ I ⟨j,U,V,W⟩
 refine ji [(0,.slice A b.length cp),(1,vI n),(4,nS),(5,.bool false),(6,.slice B L.length cq),(7,vI (i:Int))] ?_
 have r:Bm w.heap.size I (.slice B L.length cq) L:=U
 have ag:(i:Int)≤n:=V
 have o:L=(List.range i).map (cQ b):=W
 have hLn:L.length=i:=by rw[o,List.length_map,List.length_range]
 have hi8:((i:Int)/8).toNat=i/8:=by omega
 refine sq<|aD 3<|cb ((decide ((i:Int)<n))) (fun s=>?_) (fun s=>?_)
 have X:=of_decide_eq_true s
 refine bo<|sq<|bk<|ak 2<|L0<|Oe (vI (IntKind.i64.wrap (Int.tdiv (i:Int) 8))) (vI ((i:Int)/8)) (congrArg (Value.int .i64) (gX (by omega) (by omega)))<|?_
 refine ft (aX.at_ (aX.old h j) ((((i:Int)/8)).toNat) (by omega)) fun t u Y Z ai=>L0<|vN b.length ((((i:Int)/8)).toNat) ((i:Int)/8) (by omega) Y (by omega)<|L0<|eH (p:=⟨t,u+((((i:Int)/8)).toNat),none⟩) (v:=vB (b.getD ((((i:Int)/8)).toNat) 0)) Z<|bq (b.getD ((((i:Int)/8)).toNat) 0)<|ah 1<|sq<|aD 1<|bk<|je (fun x=>[(0,.slice A b.length cp),(1,vI n),(4,nS),(5,.bool false),(6,.slice B L.length cq),(7,vI (i:Int)),(8,vI x.2),(9,vI (x.1:Int)),(19,vI (i:Int)),(20,vI n),(21,.bool (decide ((i:Int)<n))),(24,.slice A b.length cp),(25,vI (i:Int)),(26,vI ((i:Int)/8)),(27,.pointer (some (⟨t,u+((((i:Int)/8)).toNat),none⟩))),(28,vB (b.getD ((((i:Int)/8)).toNat) 0)),(29,vI (b.getD ((((i:Int)/8)).toNat) 0))]) (fun(x:Nat × Int) w'=>aH [] I w'∧(x.1≤i%8)∧(x.2=b.getD (i/8) 0/2 ^ x.1)) (fun x=>8-x.1) (0,(b.getD ((((i:Int)/8)).toNat) 0)) ⟨aH.refl _ _,(by(try dsimp only);omega),(by(try dsimp only);rw[hi8,Int.pow_zero,Int.ediv_one])⟩ ?_
 rintro⟨k,c⟩ aj ⟨q,a0,a1⟩
 refine ji [(0,.slice A b.length cp),(1,vI n),(4,nS),(5,.bool false),(6,.slice B L.length cq),(7,vI (i:Int)),(8,vI c),(9,vI (k:Int)),(19,vI (i:Int)),(20,vI n),(21,.bool (decide ((i:Int)<n))),(24,.slice A b.length cp),(25,vI (i:Int)),(26,vI ((i:Int)/8)),(27,.pointer (some (⟨t,u+((((i:Int)/8)).toNat),none⟩))),(28,vB (b.getD ((((i:Int)/8)).toNat) 0)),(29,vI (b.getD ((((i:Int)/8)).toNat) 0))] ?_
 have al:k≤i%8:=a0
 have y:c=b.getD (i/8) 0/2 ^ k:=a1
 have hcr:=yY (hb _ (vF (l:=b) (i:=i/8) (by omega))) y
 refine sq<|ak 2<|L0<|Oe (vI (Int.tmod (i:Int) 8)) (vI ((i:Int)%8)) (congrArg (Value.int .i64) (Int.tmod_eq_emod_of_nonneg (by omega)))<|ah 1<|?_
 refine cb ((decide ((k:Int)<((i:Int)%8)))) (fun z=>?_) (fun z=>?_)
 have a2:=of_decide_eq_true z
 exact bo<|sq<|bk<|go<|Pl 1<|L0<|Oe (vI (IntKind.i64.wrap (Int.tdiv c 2))) (vI (c/2)) (congrArg (Value.int .i64) (gX (by omega) (by omega)))<|Pl 1<|nl<|bn<|tn<|go<|Pl 1<|bq ((k:Int)+1)<|Pl 1<|nl<|gL ((k+1),(c/2)) ⟨q,(by(try dsimp only);omega),xo y⟩ (by omega)
 have a2:=of_decide_eq_false z
 refine xt<|tx<|tx<|bx<|tn<|go<|Pl 2<|L0<|Oe (vI (Int.tmod c 2)) (vI (c%2)) (congrArg (Value.int .i64) (Int.tmod_eq_emod_of_nonneg (by omega)))<|Pl 1<|L0<|d9 (m:=1) (e:=4) #[.bool ((c%2)==1)] fun am an a3 a4 C=>?_
 have a5:=Eb a3 (xs:=[((c%2)==1)]) (by as_aux_lemma=>kernel_rfl)  (by(try simp only[List.length_cons,List.length_nil]);omega) a4
 refine L0<|bS zJ (xs:=L) (ys:=([((c%2)==1)])) (.bool false) 1 (ax r (aJ q C) (fun x hx=>aF) (fun _ _ h=>h)) (a5).rd (by(try simp only[bV,aB]);omega) (le (le j.size q.size) C.size) fun a6 a7 ao a8 a9=>Pl 1<|nl<|bn<|tn<|go<|Pl 1<|bq ((i:Int)+1)<|Pl 1<|nl<|?_
 exact gL ((i+1),(L++[((c%2)==1)]),a6,a7) ⟨(ut (aJ j q) (ut (aH.mono (S':=(ob B++[])) C aC) a9 (aq il aC)) (aq (aU r lr) aC)),a8,(by(try dsimp only);omega),(by(try dsimp only);rw[o,List.range_succ,List.map_append];show _++[_]=_++[cQ b i];unfold cQ;rw[y,show k=i%8 from by omega])⟩ (by omega)
 have X:=of_decide_eq_false s
 refine xt<|tx<|tx<|bx<|tn<|sq<|sq<|Rg 6 (fun w'=>aX false w' (.slice A b.length cp) b) fun ap J=>?_
 have M:=aJ j J
 have D:=aX.old h M
 refine bp (aS.any D (fun _ _ h=>h)) fun E=>Rt 0 E<|Rt 3 E<|Rr 4 E (.string (strOfNums b)) (fun _ hs=>cS (A:=A) (n:=b.length) (c:=cp) rfl (by kernel_rfl) Tryz.underlying27 Tryz.underlying5 Tryz.underlying9 hs)<|?_
 have N:=ax r J (fun x hx=>aF) (fun _ _ h=>h)
 refine R0 1 rfl<|Oc<|e9 (Ce (N).rd (by omega)) fun aa ab ar O au av F=>?_
 have P:=aX.old D F
 refine bp (aS.any P (fun _ _ h=>h)) fun aw=>R0 2 rfl<|gt (.string (strOfNums (bZ L))) (cS (A:=aa) (n:=(bZ L).length) (c:=ab) rfl (by kernel_rfl) Tryz.underlying27 Tryz.underlying5 Tryz.underlying9 (O).rd)<|bp (aS.any P (fun _ _ h=>h)) fun ac=>Rr 5 ac (.bool (!(decide ((bZ L)=b)))) (fun _ _=>xE (a:=(strOfNums (bZ L))) (b:=(strOfNums b)) rfl (by kernel_rfl) (by kernel_rfl) (jX (O).rd D))<|re<|tn<|?_
 have Q:=aJ M F
 refine cb ((!(decide ((bZ L)=b)))) (fun f=>?_) (fun f=>?_)
 have G:(decide ((bZ L)=b))=false:=by simpa using f
 have ad:=of_decide_eq_false G
 refine aD 2<|aV<|rr (.tuple #[nS,.bool false])<|?_
 have hL:L=(List.range n.toNat).map (cQ b):=by rw[o,show i=n.toNat from by omega]
 have hu:=rX (n:=n) hb (by omega)
 rw[if_neg (by rw[← hL];simpa using f)] at hu
 exact fS hu Q
 have G:(decide ((bZ L)=b))=true:=by simpa using f
 have ad:=of_decide_eq_true G
 refine bo<|aD 3<|rt<|rr (.tuple #[.slice B L.length cq,.bool true])<|?_
 have hL:L=(List.range n.toNat).map (cQ b):=by rw[o,show i=n.toNat from by omega]
 have hu:=rX (n:=n) hb (by omega)
 rw[if_pos (by rw[← hL];simpa using f),← hL] at hu
 exact⟨_,by rw[hu];rfl,by rw[hu];exact(ax N F (fun x hx=>aF) (fun _ _ h=>h)),Q⟩
theorem Bf(h:aX m w v b)(hl:b.length≤1048576)(hn : -1048576≤n∧n≤1048576) : Calls Tryz.prog 172 #[v,.int .i64 n] w (gT b n w):=by
  obtain⟨A,c,rfl,_,_⟩:=h.shape
  exact yH h hl hn
open Go.RowKit
def Bu (w0:World)(m:Md)(A:Option Addr)(cp:Nat)(full:List Int)(g gm:Nat)(C':ai)(cs:Array Value)(w:World)(e:Ending)(w':World) : Prop:=e = .returned (.tuple #[])∧RC w0 m A cp full w' g C'∧w'.heap[gm]? = some (.cells cs 45 (0,0))∧aH [g,gm] w w'
theorem pJ{gm:Nat}   {most:Int}(hcode:B8 c)(hC:RC w0 m A cp full w g C)(hm:w.heap[gm]? = some (.cells (mC c) 45 (0,0)))(hgm:w0.heap.size≤gm)(hne:g≠gm) :
    Calls Tryz.prog 166 #[vP g 0,vP gm 0,vI most] w (Bu w0 m A cp full g gm (bY C most) (mG c 0 C.wordV (C.wordsC 1).wordV 0 0 0 0 0 0 0 0 nS nS nS nS 0 0 0 0 0 nS) w):=by
 obtain⟨hcode1,hcode2⟩:=hcode
 have hrng:=bU (RC.rng hC)
 refine en 39 Tryz.func166 rfl<|ak 2<|ay<|m3 (de hC) fun G t e H=>Pl 2<|?_
 refine L0<|cm (be e (Ne.symm hne) hm) 2 (mG c 0 C.wordV 0 0 0 0 0 0 0 0 0 nS nS nS nS 0 0 0 0 0 nS) fun I eP f=>aM 2<|?_
 have h:=us e f
 refine ay<|m3 (de (RC.upd t f (aa hne aF) (hC.u.trans' h (fun x hx=>.inr (by simp at hx;rcases hx with rfl | rfl;exact hC.new;exact hgm))))) fun J v i L=>Pl 2<|?_
 refine L0<|cm (be i (Ne.symm hne) eP) 3 (mG c 0 C.wordV ((C.wordsC 1).wordV) 0 0 0 0 0 0 0 0 nS nS nS nS 0 0 0 0 0 nS) fun M j k=>aM 3<|aE j 3<|bq ((C.wordsC 1).wordV)<|Pl 1<|aM 4<|cu 4 [25] 29 (((decide (0<((C.wordsC 1).wordV)))&&(decide (((C.wordsC 1).wordV)≤most)))) (fun K l=>?_) ?_
 refine bl 25 ((decide (0<((C.wordsC 1).wordV)))) (fun b=>?_) (fun b=>?_)
 have y:=of_decide_eq_true b
 exact Pl 4<|ce l (decide (((C.wordsC 1).wordV)≤most)) (by rw[b];rfl)
 have y:=of_decide_eq_false b
 exact Pl 4<|ce l false (by rw[b];rfl)
 have o:=ut h (us i k) (ac im (ac im aC))
 refine ay<|m2 (bg (((decide (0<((C.wordsC 1).wordV)))&&(decide (((C.wordsC 1).wordV)≤most)))) 5 (RC.upd v k (aa hne aF) (hC.u.trans' o (fun x hx=>.inr (by simp at hx;rcases hx with rfl | rfl;exact hC.new;exact hgm))))) fun z B p=>?_
 refine gM B fun x36 D q=>?_
 refine nt<|go<|Pl 4<|?_
 have r:=be p (Ne.symm hne) j
 refine aE r 2<|Pl 1<|ay<|m1 (uI (a:=C.wordV) (n:=(C.wordsC 1).wordV) (w:=z) (by omega) (by omega)) fun N d=>?_
 refine ay<|m2 (bg ((ee C.wordV ((C.wordsC 1).wordV))) 7 (RC.upd q d aF (aH.step (RC.u q) d))) fun O E F=>nl<|rm (.tuple #[])<|?_
 subst D
 have hs:bY C most=((((C.wordsC 1).wordsC 1).need ((decide (0<((C.wordsC 1).wordV)))&&(decide (((C.wordsC 1).wordV)≤most))) 5).need (ee C.wordV ((C.wordsC 1).wordV)) 7):=by
   unfold bY kj
   (try simp only[bj,fK,reduceIte])
   all_goals rfl
 rw[hs]
 have s:=uz d F
 exact⟨rfl,E,(be s (Ne.symm hne) r),(u1 o (u1 p s im) im)⟩
theorem n7(hcode:B8 c)(hsl:aX m w (.slice A b.length cp) b)(hb:b.length≤1048576) :
    Calls Tryz.prog 109 #[vI 0,vB c,.slice A b.length cp] w (cV (.slice A b.length cp) b (aj aO 0 c b) w):=by
 obtain⟨hcode1,hcode2⟩:=hcode
 have hln:(b.length:Int)≤1048576:=by omega
 refine en 113 Tryz.func109 rfl<|sg<|aK mZ fun c3 d1 l i f=>ah 1<|sq<|aD 6<|c0<|bo<|ak 2<|L0<|da #[.slice A b.length cp,vI 0,.bool false,vI 0] fun j d2 a o g=>Pl 1<|aM 2<|aK mZ fun aW d3 d aY a5=>aG aY (mC c) fun T U V=>?_
 refine nt<|sq<|aD 1<|bk<|sq<|ak 2<|nl<|tn<|?_
 have D:=ud a5 V d
 have k:=aJ g D
 have q:=aJ f k
 refine cb ((c==1)) (fun r=>?_) (fun r=>?_)
 have c4:=ag r
 refine bo<|ct r<|sq<|aD 2<|c1<|ak 1<|?_
 have a6:RC w _ A cp b T j (ai.mk b false 0):=⟨hsl,q,(Nat.le_trans f.size a),⟨0,(ub D o),Nat.zero_le _,rfl⟩,by omega⟩
 have aZ:=nb (au o) lr d
 refine ay<|m3 (pJ (most:=2000) (b8 (by omega)) a6 U (Nat.le_trans (le f.size g.size) d) aZ) fun d4 c5 c6 c7=>?_
 have d5:=bU (RC.rng a6)
 have d6:=bU (c:=(ai.mk b false 0).wordsC 1) (d7 (RC.rng a6) 1)
 refine nt<|xt<|tx<|bx<|tn<|ak 1<|ay<|m2 (fb c5) fun d8 a7 b0=>nt<|sq<|sq<|go<|Pl 3<|L0<|eH (p:=⟨j,3,none⟩) (v:=vI (((bY (ai.mk b false 0) 2000).endC).e)) (RC.fld a7)<|ah 1<|?_
 have a8:=u1 c7 b0 im
 have b1:=ut q a8 (ac (ni f.size a) (ac (ni (le f.size g.size) d) aC))
 have hs:aj aO 0 c b=bt (aT.mk c 0 ((ai.mk b false 0).wordV) (((ai.mk b false 0).wordsC 1).wordV) 0 0 0 0 0 0 0 0 [] [] [] [] 0 0 0 0 0 []) (bY (ai.mk b false 0) 2000):=by
   unfold aj aO eL eu ed iP sV iE qJ oH tN eh fX
   (try simp only[r,bj,dQ,dU,dW,dT,dR,reduceIte,fK])
   all_goals rfl
 refine cb (((((bY (ai.mk b false 0) 2000).endC).e)!=0)) (fun a9=>?_) (fun a9=>?_)
 have ab:=az a9
 refine sq<|Rg 7 (fun w'=>w'.cell? ⟨j,3,none⟩=some (vI (((bY (ai.mk b false 0) 2000).endC).e))) fun d9 W=>?_
 have b2:=RC.upd a7 W aF (aH.step (RC.u a7) W)
 refine bp (RC.fld b2) fun E=>Rt 0 E<|Rt 1 E<|Rt 2 E<|Rt 3 E<|Rl 4 E (fun _ hs=>hs)<|?_
 refine R0 5 rfl<|gk (ub (ut k (aJ a8 W) (ac (nr a) (ac (ni g.size d) aC))) i) mZ fun db c8 b3=>?_
 have b4:=ud b1 (uz W b3) l
 refine bp (RC.fld (RC.upd b2 b3 (aa (Ne.symm (nb (au i) lr a)) aF) b4)) fun c9=>Rt 6 c9<|re<|tn<|aV<|bH c8 (vI (((bY (ai.mk b false 0) 2000).endC).e))<|?_
 rw[hs]
 exact bv ab b4
 have ab:=aA a9
 refine bo<|sg<|?_
 refine L0<|bO (be b0 (Ne.symm aZ) c6)<|?_
 refine aG (ub (ut k a8 (ac (nr a) (ac (ni g.size d) aC))) i) (mG c 0 ((ai.mk b false 0).wordV) (((ai.mk b false 0).wordsC 1).wordV) 0 0 0 0 0 0 0 0 nS nS nS nS 0 0 0 0 0 nS) fun dc ca cc=>ah 1<|rt<|bH ca (vI 0)<|?_
 rw[hs]
 exact bE ab ⟨_,_,_,_,_,rfl,aS.nil ..,aS.nil ..,(fun _ _ _=>aS.nil ..),aS.nil ..,aS.nil ..,(cY (by omega))⟩ (ud b1 cc l)
 have c4:=am r
 refine go<|ah 2<|cb ((c==2)) (fun s=>?_) (fun s=>?_)
 have cd:=ag s
 refine sq<|aD 2<|c1<|ak 1<|?_
 have ad:RC w _ A cp b T j (ai.mk b false 0):=⟨hsl,q,(Nat.le_trans f.size a),⟨0,(ub D o),Nat.zero_le _,rfl⟩,by omega⟩
 have b5:=nb (au o) lr d
 refine ay<|m3 (pJ (most:=2000) (b8 (by omega)) ad U (Nat.le_trans (le f.size g.size) d) b5) fun dd cf cg ch=>?_
 have df:=bU (RC.rng ad)
 have dg:=bU (c:=(ai.mk b false 0).wordsC 1) (d7 (RC.rng ad) 1)
 refine nt<|xt<|tx<|bx<|tn<|ak 1<|ay<|m2 (fb cf) fun dh af b6=>nt<|sq<|sq<|go<|Pl 3<|L0<|eH (p:=⟨j,3,none⟩) (v:=vI (((bY (ai.mk b false 0) 2000).endC).e)) (RC.fld af)<|ah 1<|?_
 have al:=u1 ch b6 im
 have b7:=ut q al (ac (ni f.size a) (ac (ni (le f.size g.size) d) aC))
 have hs:aj aO 0 c b=bt (aT.mk c 0 ((ai.mk b false 0).wordV) (((ai.mk b false 0).wordsC 1).wordV) 0 0 0 0 0 0 0 0 [] [] [] [] 0 0 0 0 0 []) (bY (ai.mk b false 0) 2000):=by
   unfold aj aO eL eu ed iP sV iE qJ oH tN eh fX
   (try simp only[r,s,bj,dQ,dU,dW,dT,dR,reduceIte,fK])
   all_goals rfl
 refine cb (((((bY (ai.mk b false 0) 2000).endC).e)!=0)) (fun an=>?_) (fun an=>?_)
 have ao:=az an
 refine sq<|Rg 7 (fun w'=>w'.cell? ⟨j,3,none⟩=some (vI (((bY (ai.mk b false 0) 2000).endC).e))) fun di X=>?_
 have b9:=RC.upd af X aF (aH.step (RC.u af) X)
 refine bp (RC.fld b9) fun F=>Rt 0 F<|Rt 1 F<|Rt 2 F<|Rt 3 F<|Rl 4 F (fun _ hs=>hs)<|?_
 refine R0 5 rfl<|gk (ub (ut k (aJ al X) (ac (nr a) (ac (ni g.size d) aC))) i) mZ fun dj ci ba=>?_
 have bb:=ud b7 (uz X ba) l
 refine bp (RC.fld (RC.upd b9 ba (aa (Ne.symm (nb (au i) lr a)) aF) bb)) fun cj=>Rt 6 cj<|re<|tn<|aV<|bH ci (vI (((bY (ai.mk b false 0) 2000).endC).e))<|?_
 rw[hs]
 exact bv ao bb
 have ao:=aA an
 refine bo<|sg<|?_
 refine L0<|bO (be b6 (Ne.symm b5) cg)<|?_
 refine aG (ub (ut k al (ac (nr a) (ac (ni g.size d) aC))) i) (mG c 0 ((ai.mk b false 0).wordV) (((ai.mk b false 0).wordsC 1).wordV) 0 0 0 0 0 0 0 0 nS nS nS nS 0 0 0 0 0 nS) fun dk ck cl=>ah 1<|rt<|bH ck (vI 0)<|?_
 rw[hs]
 exact bE ao ⟨_,_,_,_,_,rfl,aS.nil ..,aS.nil ..,(fun _ _ _=>aS.nil ..),aS.nil ..,aS.nil ..,(cY (by omega))⟩ (ud b7 cl l)
 have cd:=am s
 refine aD 2<|cb ((c==5)) (fun y=>?_) (fun y=>?_)
 have cn:=ag y
 refine ak 1<|?_
 have co:RC w _ A cp b T j (ai.mk b false 0):=⟨hsl,q,(Nat.le_trans f.size a),⟨0,(ub D o),Nat.zero_le _,rfl⟩,by omega⟩
 refine ay<|m3 (de co) fun dl cq bc dm=>Pl 1<|?_
 have G:=nb (au o) lr d
 refine L0<|cm (be bc (Ne.symm G) U) 2 (mG c 0 ((ai.mk b false 0).wordV) 0 0 0 0 0 0 0 0 0 nS nS nS nS 0 0 0 0 0 nS) fun dn cr bd=>aM 1<|?_
 have ap:=us bc bd
 have bf:=ut q ap (ac (ni f.size a) (ac (ni (le f.size g.size) d) aC))
 refine ay<|m3 (de (RC.upd cq bd (aa G aF) bf)) fun dp cs bh dq=>Pl 1<|?_
 refine L0<|cm (be bh (Ne.symm G) cr) 4 (mG c 0 ((ai.mk b false 0).wordV) 0 (((ai.mk b false 0).wordsC 1).wordV) 0 0 0 0 0 0 0 nS nS nS nS 0 0 0 0 0 nS) fun dr aq bi=>nt<|go<|Pl 2<|aE aq 4<|Pl 2<|cu 4 [62] 66 ((((((ai.mk b false 0).wordsC 1).wordV)==0)||((((ai.mk b false 0).wordsC 1).wordV)==65280))) (fun K bm=>?_) ?_
 refine bl 62 (((((ai.mk b false 0).wordsC 1).wordV)==0)) (fun H=>?_) (fun H=>?_)
 have cv:=ag H
 exact Pl 4<|ce bm true (by rw[H];rfl)
 have cv:=am H
 exact Pl 1<|L1<|dX aq 4<|Pl 2<|ce bm ((((ai.mk b false 0).wordsC 1).wordV)==65280) (by rw[H];rfl)
 have ar:=us bh bi
 have bs:=ut bf ar (ac (ni f.size a) (ac (ni (le f.size g.size) d) aC))
 refine ay<|m2 (bg ((((((ai.mk b false 0).wordsC 1).wordV)==0)||((((ai.mk b false 0).wordsC 1).wordV)==65280))) 6 (RC.upd cs bi (aa G aF) bs)) fun ds cw cx=>?_
 refine gM cw fun I cy cz=>?_
 refine nl<|bn<|tn<|ak 1<|ay<|m2 (fb cz) fun dt av cA=>nt<|sq<|ak 3<|L0<|eH (p:=⟨j,3,none⟩) (v:=vI I.endC.e) (RC.fld av)<|ah 1<|?_
 have Y:=u1 cx cA im
 have bu:=ud bs Y (le f.size a)
 have hs:aj aO 0 c b=bt (aT.mk c 0 ((ai.mk b false 0).wordV) 0 (((ai.mk b false 0).wordsC 1).wordV) 0 0 0 0 0 0 0 [] [] [] [] 0 0 0 0 0 []) I:=by
   subst cy
   unfold aj aO eL eu ed iP sV iE qJ oH tN eh fX
   (try simp only[r,s,y,bj,dQ,dU,dW,dT,dR,reduceIte,fK])
   all_goals rfl
 refine cb ((I.endC.e != 0)) (fun aw=>?_) (fun aw=>?_)
 have aB:=az aw
 refine sq<|Rg 7 (fun w'=>w'.cell? ⟨j,3,none⟩=some (vI I.endC.e)) fun du Z=>?_
 have bw:=RC.upd av Z aF (aH.step (RC.u av) Z)
 refine bp (RC.fld bw) fun J=>Rt 0 J<|Rt 1 J<|Rt 2 J<|Rt 3 J<|Rl 4 J (fun _ hs=>hs)<|?_
 refine R0 5 rfl<|gk (ub (ut k (ut ap (u1 ar (aJ Y Z) im) (ac im (ac im aC))) (ac (nr a) (ac (ni g.size d) aC))) i) mZ fun dv cB bz=>?_
 have bA:=ud bu (uz Z bz) l
 refine bp (RC.fld (RC.upd bw bz (aa (Ne.symm (nb (au i) lr a)) aF) bA)) fun cD=>Rt 6 cD<|re<|tn<|aV<|bH cB (vI I.endC.e)<|?_
 rw[hs]
 exact bv aB bA
 have aB:=aA aw
 refine bo<|sg<|?_
 refine L0<|bO (be Y (Ne.symm G) aq)<|?_
 refine aG (ub (ut k (ut ap (u1 ar Y im) (ac im (ac im aC))) (ac (nr a) (ac (ni g.size d) aC))) i) (mG c 0 ((ai.mk b false 0).wordV) 0 (((ai.mk b false 0).wordsC 1).wordV) 0 0 0 0 0 0 0 nS nS nS nS 0 0 0 0 0 nS) fun dw cE cF=>ah 1<|rt<|bH cE (vI 0)<|?_
 rw[hs]
 exact bE aB ⟨_,_,_,_,_,rfl,aS.nil ..,aS.nil ..,(fun _ _ _=>aS.nil ..),aS.nil ..,aS.nil ..,(cY (by omega))⟩ (ud bu cF l)
 have cn:=am y
 refine aD 2<|cb ((c==15)) (fun L=>?_) (fun L=>?_)
 have cG:=ag L
 refine ak 1<|?_
 have aI:RC w _ A cp b T j (ai.mk b false 0):=⟨hsl,q,(Nat.le_trans f.size a),⟨0,(ub D o),Nat.zero_le _,rfl⟩,by omega⟩
 have t:=nb (au o) lr d
 refine ay<|m3 (pJ (most:=1968) (b8 (by omega)) aI U (Nat.le_trans (le f.size g.size) d) t) fun dx cH cI a0=>?_
 have dy:=bU (RC.rng aI)
 have dz:=bU (c:=(ai.mk b false 0).wordsC 1) (d7 (RC.rng aI) 1)
 refine nt<|sq<|aD 2<|c0<|bo<|ak 1<|ay<|m3 (eN cH) fun cJ bB M dA=>?_
 refine bq ((bY (ai.mk b false 0) 1968).byteV)<|Pl 1<|aM 3<|?_
 have bC:=be M (Ne.symm t) cI
 refine aE bC 3<|bq (((ai.mk b false 0).wordsC 1).wordV)<|ay<|m1 (DF (n:=((ai.mk b false 0).wordsC 1).wordV) (w:=cJ) (by omega)) fun dB z=>Pl 1<|?_
 refine ay<|m2 (bg ((((bY (ai.mk b false 0) 1968).byteV)==(eo (((ai.mk b false 0).wordsC 1).wordV)))) 5 (RC.upd bB z aF (aH.step (RC.u bB) z))) fun dC cL a1=>?_
 refine gM cL fun B cM bD=>?_
 refine nt<|sq<|Rg 12 (fun w'=>w'.cell? ⟨aW,3,none⟩=some (vW (((ai.mk b false 0).wordsC 1).wordV))) fun dD C=>?_
 have bF:=uz z (aJ a1 C)
 have bI:=be bF (Ne.symm t) bC
 refine bp (ae bI rfl) fun N=>Rt 0 N<|Rt 1 N<|Rt 3 N<|Rl 4 N (fun _ hs=>hs)<|Rr 5 N (vI (((ai.mk b false 0).wordsC 1).wordV)) (fun _ _=>bW (vI (IntKind.i64.wrap (((ai.mk b false 0).wordsC 1).wordV))) (by kernel_rfl) (congrArg (Value.int .i64) (i64_in (by omega))))<|?_
 have bJ:=RC.upd bD C aF (aH.step (RC.u bD) C)
 refine R0 2 rfl<|Oc<|sW (gB (n:=(bY (ai.mk b false 0) 1968).byteV) (by omega) bJ) fun cN cO dE cP aN O=>?_
 have dF:=Nat.le_trans (ai.bytesR_le B ((bY (ai.mk b false 0) 1968).byteV)) (RC.clen bJ)
 have bK:=be O (Ne.symm t) bI
 refine bp (ae bK rfl) fun dG=>R0 6 rfl<|Oc (args:=#[.slice cN ((B.bytesR ((bY (ai.mk b false 0) 1968).byteV)).length) cO,vI (((ai.mk b false 0).wordsC 1).wordV)])<|e9 (Bf (n:=((ai.mk b false 0).wordsC 1).wordV) (cP _ _ (RC.rd aN)) (by omega) (by omega)) fun bL bM dH a2 dI dJ a3=>?_
 have bN:=ub a3 bK
 refine bp (ae bN rfl) fun P=>Rt 7 P<|Rt 8 P<|Rt 9 P<|Rt 10 P<|Rt 11 P<|re<|tn<|ak 2<|?_
 refine ay<|m2 (bg ((cK (B.bytesR ((bY (ai.mk b false 0) 1968).byteV)) (((ai.mk b false 0).wordsC 1).wordV)).isSome) 6 (RC.upd aN a3 aF (aH.step (RC.u aN) a3))) fun dK cQ bP=>?_
 refine gM cQ fun Q cR cS=>?_
 refine nt<|go<|Pl 2<|?_
 refine L0<|cm (be bP (Ne.symm t) bN) 13 (mG c 0 ((ai.mk b false 0).wordV) (((ai.mk b false 0).wordsC 1).wordV) 0 0 0 0 0 0 0 0 nS (.slice bL (((cK (B.bytesR ((bY (ai.mk b false 0) 1968).byteV)) (((ai.mk b false 0).wordsC 1).wordV)).getD []).length) bM) nS nS 0 0 0 0 0 nS) fun dL cT bQ=>nl<|bn<|tn<|ak 1<|?_
 have bR:=us bP bQ
 have aP:=ut a0 (ui M (ui bF (ui O (uz a3 bR)))) (ac im (ac im aC))
 have bS:=ut q aP (ac (ni f.size a) (ac (ni (le f.size g.size) d) aC))
 refine ay<|m2 (fb (RC.upd cS bQ (aa t aF) bS)) fun dM aQ R=>nt<|sq<|ak 3<|L0<|eH (p:=⟨j,3,none⟩) (v:=vI Q.endC.e) (RC.fld aQ)<|ah 1<|?_
 have bT:=ud bS R (le f.size a)
 have hs:aj aO 0 c b=bt (aT.mk c 0 ((ai.mk b false 0).wordV) (((ai.mk b false 0).wordsC 1).wordV) 0 0 0 0 0 0 0 0 [] ((cK (B.bytesR ((bY (ai.mk b false 0) 1968).byteV)) (((ai.mk b false 0).wordsC 1).wordV)).getD []) [] [] 0 0 0 0 0 []) Q:=by
   subst cR cM
   unfold aj aO eL eu ed iP sV iE qJ oH tN eh fX
   (try simp only[r,s,y,L,bj,dQ,dU,dW,dT,dR,reduceIte,fK])
   all_goals rfl
 refine cb ((Q.endC.e != 0)) (fun aR=>?_) (fun aR=>?_)
 have aU:=az aR
 refine sq<|Rg 7 (fun w'=>w'.cell? ⟨j,3,none⟩=some (vI Q.endC.e)) fun dN a4=>?_
 have bV:=RC.upd aQ a4 aF (aH.step (RC.u aQ) a4)
 refine bp (RC.fld bV) fun S=>Rt 0 S<|Rt 1 S<|Rt 2 S<|Rt 3 S<|Rl 4 S (fun _ hs=>hs)<|?_
 refine R0 5 rfl<|gk (ub (ut k (u1 aP (aJ R a4) im) (ac (nr a) (ac (ni g.size d) aC))) i) mZ fun dO cU bX=>?_
 have bZ:=ud bT (uz a4 bX) l
 refine bp (RC.fld (RC.upd bV bX (aa (Ne.symm (nb (au i) lr a)) aF) bZ)) fun cW=>Rt 6 cW<|re<|tn<|aV<|bH cU (vI Q.endC.e)<|?_
 rw[hs]
 exact bv aU bZ
 have aU:=aA aR
 refine bo<|sg<|?_
 refine L0<|bO (be R (Ne.symm t) cT)<|?_
 refine aG (ub (ut k (u1 aP R im) (ac (nr a) (ac (ni g.size d) aC))) i) (mG c 0 ((ai.mk b false 0).wordV) (((ai.mk b false 0).wordsC 1).wordV) 0 0 0 0 0 0 0 0 nS (.slice bL (((cK (B.bytesR ((bY (ai.mk b false 0) 1968).byteV)) (((ai.mk b false 0).wordsC 1).wordV)).getD []).length) bM) nS nS 0 0 0 0 0 nS) fun dP cX c2=>ah 1<|rt<|bH cX (vI 0)<|?_
 rw[hs]
 exact bE aU ⟨_,_,_,_,_,rfl,aS.nil ..,((ax a2 (ut (aH.mono (S':=[j,aW,c3]) bR (ac im (ac im aC))) (us R c2) (ac im (ac im aC))) (fun x hx=>(aa (fun e=>(aL (au o) (le (le (le (le (le (le (le a5.size V.size) a0.size) M.size) z.size) a1.size) C.size) O.size) a2) (e▸hx)) (aa (fun e=>(aL (au aY) (le (le (le (le (le (le V.size a0.size) M.size) z.size) a1.size) C.size) O.size) a2) (e▸hx)) (aa (fun e=>(aL (au i) (le (le (le (le (le (le (le (le g.size a5.size) V.size) a0.size) M.size) z.size) a1.size) C.size) O.size) a2) (e▸hx)) aF)))) (fun _ _ h=>h))).rd,(fun _ _ _=>aS.nil ..),aS.nil ..,aS.nil ..,(cY (by omega))⟩ (ud bT c2 l)
 have cG:=am L
 refine ak 1<|?_
 refine aG (ub k i) mZ fun dS cZ d0=>ah 1<|rt<|br<|tr<|bH cZ (vI 4)<|?_
 exact cC (by unfold aj aO eL eu ed iP sV iE qJ oH tN eh fX;(try simp only[r,s,y,L,bj,dQ,dU,dW,dT,dR,reduceIte,fK])<;>rfl) (bG (ud q d0 l))
theorem nE(hcode:B8 c)(hsl:aX m w (.slice A b.length cp) b)(hb:b.length≤1048576) :
    Calls Tryz.prog 109 #[vI 1,vB c,.slice A b.length cp] w (cV (.slice A b.length cp) b (aj aO 1 c b) w):=by
 obtain⟨hcode1,hcode2⟩:=hcode
 have hln:(b.length:Int)≤1048576:=by omega
 refine en 113 Tryz.func109 rfl<|sg<|aK mZ fun cL cM k h d=>ah 1<|sq<|aD 6<|c0<|bo<|ak 2<|L0<|da #[.slice A b.length cp,vI 0,.bool false,vI 0] fun i cN a r g=>Pl 1<|aM 2<|aK mZ fun cO cP f bw bz=>aG bw (mC c) fun J L bA=>?_
 refine nt<|sq<|aD 1<|bk<|sq<|ak 2<|nl<|tn<|?_
 have x:=ud bz bA f
 have j:=aJ g x
 have l:=aJ d j
 refine cb ((c==1)) (fun o=>?_) (fun o=>?_)
 have bB:=ag o
 refine bo<|ct o<|sq<|aD 2<|c0<|bo<|ak 1<|?_
 have bC:RC w _ A cp b J i (ai.mk b false 0):=⟨hsl,l,(Nat.le_trans d.size a),⟨0,(ub x r),Nat.zero_le _,rfl⟩,by omega⟩
 refine ay<|m3 (eN bC) fun cQ bD bF cR=>bq ((ai.mk b false 0).byteV)<|Pl 1<|aM 4<|cu 3 [41] 44 (((decide (0<((ai.mk b false 0).byteV)))&&(decide (((ai.mk b false 0).byteV)≤250)))) (fun K al=>?_) ?_
 refine bl 41 ((decide (0<((ai.mk b false 0).byteV)))) (fun y=>?_) (fun y=>?_)
 have bI:=of_decide_eq_true y
 exact Pl 3<|ce al (decide (((ai.mk b false 0).byteV)≤250)) (by rw[y];rfl)
 have bI:=of_decide_eq_false y
 exact Pl 3<|ce al false (by rw[y];rfl)
 refine ay<|m2 (bg (((decide (0<((ai.mk b false 0).byteV)))&&(decide (((ai.mk b false 0).byteV)≤250)))) 5 bD) fun cS bJ bK=>?_
 refine gM bJ fun x43 bL an=>?_
 refine nt<|go<|Pl 2<|ay<|sW (gB (n:=(ai.mk b false 0).byteV) (by omega) an) fun ao ap cT bM bN bP=>?_
 have cU:=Nat.le_trans (ai.bytesR_le x43 ((ai.mk b false 0).byteV)) (RC.clen an)
 refine Pl 1<|?_
 have aq:=u1 bF (u1 bK bP im) im
 have T:=nb (au r) lr f
 refine L0<|cm (be aq (Ne.symm T) L) 14 (mG c 0 0 0 0 0 0 0 0 0 0 0 nS nS (.slice ao ((x43.bytesR ((ai.mk b false 0).byteV)).length) ap) nS 0 0 0 0 0 nS) fun cW bQ ar=>nl<|bn<|tn<|ak 1<|?_
 have U:=us aq ar
 have av:=ut l U (ac (ni d.size a) (ac (ni (le d.size g.size) f) aC))
 refine ay<|m2 (fb (RC.upd bN ar (aa T aF) av)) fun cX V M=>nt<|sq<|ak 3<|L0<|eH (p:=⟨i,3,none⟩) (v:=vI (((x43.bytesC ((ai.mk b false 0).byteV)).endC).e)) (RC.fld V)<|ah 1<|?_
 have aw:=ud av M (le d.size a)
 have hs:aj aO 1 c b=bt (aT.mk c 0 0 0 0 0 0 0 0 0 0 0 [] [] (x43.bytesR ((ai.mk b false 0).byteV)) [] 0 0 0 0 0 []) (x43.bytesC ((ai.mk b false 0).byteV)):=by
   subst bL
   unfold aj aO eL eu ed iP sV iE qJ oH tN eh fX
   (try simp only[o,bj,dQ,dU,dW,dT,dR,reduceIte,fK])
   all_goals rfl
 refine cb (((((x43.bytesC ((ai.mk b false 0).byteV)).endC).e)!=0)) (fun W=>?_) (fun W=>?_)
 have X:=az W
 refine sq<|Rg 7 (fun w'=>w'.cell? ⟨i,3,none⟩=some (vI (((x43.bytesC ((ai.mk b false 0).byteV)).endC).e))) fun cZ N=>?_
 have ax:=RC.upd V N aF (aH.step (RC.u V) N)
 refine bp (RC.fld ax) fun z=>Rt 0 z<|Rt 1 z<|Rt 2 z<|Rt 3 z<|Rl 4 z (fun _ hs=>hs)<|?_
 refine R0 5 rfl<|gk (ub (ut j (u1 U (aJ M N) im) (ac (nr a) (ac (ni g.size f) aC))) h) mZ fun d0 bR aB=>?_
 have aI:=ud aw (uz N aB) k
 refine bp (RC.fld (RC.upd ax aB (aa (Ne.symm (nb (au h) lr a)) aF) aI)) fun bS=>Rt 6 bS<|re<|tn<|aV<|bH bR (vI (((x43.bytesC ((ai.mk b false 0).byteV)).endC).e))<|?_
 rw[hs]
 exact bv X aI
 have X:=aA W
 refine bo<|sg<|?_
 refine L0<|bO (be M (Ne.symm T) bQ)<|?_
 refine aG (ub (ut j (u1 U M im) (ac (nr a) (ac (ni g.size f) aC))) h) (mG c 0 0 0 0 0 0 0 0 0 0 0 nS nS (.slice ao ((x43.bytesR ((ai.mk b false 0).byteV)).length) ap) nS 0 0 0 0 0 nS) fun d1 bT bV=>ah 1<|rt<|bH bT (vI 0)<|?_
 rw[hs]
 exact bE X ⟨_,_,_,_,_,rfl,aS.nil ..,aS.nil ..,bM,aS.nil ..,aS.nil ..,(cY (by omega))⟩ (ud aw bV k)
 have bB:=am o
 refine go<|ah 2<|cb ((c==2)) (fun s=>?_) (fun s=>?_)
 have bW:=ag s
 refine sq<|aD 2<|c0<|bo<|ak 1<|?_
 have bX:RC w _ A cp b J i (ai.mk b false 0):=⟨hsl,l,(Nat.le_trans d.size a),⟨0,(ub x r),Nat.zero_le _,rfl⟩,by omega⟩
 refine ay<|m3 (eN bX) fun d2 bZ c2 d3=>bq ((ai.mk b false 0).byteV)<|Pl 1<|aM 4<|cu 3 [41] 44 (((decide (0<((ai.mk b false 0).byteV)))&&(decide (((ai.mk b false 0).byteV)≤250)))) (fun K aL=>?_) ?_
 refine bl 41 ((decide (0<((ai.mk b false 0).byteV)))) (fun B=>?_) (fun B=>?_)
 have c3:=of_decide_eq_true B
 exact Pl 3<|ce aL (decide (((ai.mk b false 0).byteV)≤250)) (by rw[B];rfl)
 have c3:=of_decide_eq_false B
 exact Pl 3<|ce aL false (by rw[B];rfl)
 refine ay<|m2 (bg (((decide (0<((ai.mk b false 0).byteV)))&&(decide (((ai.mk b false 0).byteV)≤250)))) 5 bZ) fun d4 c4 c5=>?_
 refine gM c4 fun q c6 aN=>?_
 refine nt<|go<|Pl 2<|ay<|sW (gB (n:=(ai.mk b false 0).byteV) (by omega) aN) fun aP aQ d5 c7 c8 c9=>?_
 have d6:=Nat.le_trans (ai.bytesR_le q ((ai.mk b false 0).byteV)) (RC.clen aN)
 refine Pl 1<|?_
 have aR:=u1 c2 (u1 c5 c9 im) im
 have Y:=nb (au r) lr f
 refine L0<|cm (be aR (Ne.symm Y) L) 14 (mG c 0 0 0 0 0 0 0 0 0 0 0 nS nS (.slice aP ((q.bytesR ((ai.mk b false 0).byteV)).length) aQ) nS 0 0 0 0 0 nS) fun d8 ca aU=>nl<|bn<|tn<|ak 1<|?_
 have Z:=us aR aU
 have aW:=ut l Z (ac (ni d.size a) (ac (ni (le d.size g.size) f) aC))
 refine ay<|m2 (fb (RC.upd c8 aU (aa Y aF) aW)) fun d9 a0 O=>nt<|sq<|ak 3<|L0<|eH (p:=⟨i,3,none⟩) (v:=vI (((q.bytesC ((ai.mk b false 0).byteV)).endC).e)) (RC.fld a0)<|ah 1<|?_
 have aY:=ud aW O (le d.size a)
 have hs:aj aO 1 c b=bt (aT.mk c 0 0 0 0 0 0 0 0 0 0 0 [] [] (q.bytesR ((ai.mk b false 0).byteV)) [] 0 0 0 0 0 []) (q.bytesC ((ai.mk b false 0).byteV)):=by
   subst c6
   unfold aj aO eL eu ed iP sV iE qJ oH tN eh fX
   (try simp only[o,s,bj,dQ,dU,dW,dT,dR,reduceIte,fK])
   all_goals rfl
 refine cb (((((q.bytesC ((ai.mk b false 0).byteV)).endC).e)!=0)) (fun a1=>?_) (fun a1=>?_)
 have a2:=az a1
 refine sq<|Rg 7 (fun w'=>w'.cell? ⟨i,3,none⟩=some (vI (((q.bytesC ((ai.mk b false 0).byteV)).endC).e))) fun db P=>?_
 have aZ:=RC.upd a0 P aF (aH.step (RC.u a0) P)
 refine bp (RC.fld aZ) fun C=>Rt 0 C<|Rt 1 C<|Rt 2 C<|Rt 3 C<|Rl 4 C (fun _ hs=>hs)<|?_
 refine R0 5 rfl<|gk (ub (ut j (u1 Z (aJ O P) im) (ac (nr a) (ac (ni g.size f) aC))) h) mZ fun dc cc b0=>?_
 have b1:=ud aY (uz P b0) k
 refine bp (RC.fld (RC.upd aZ b0 (aa (Ne.symm (nb (au h) lr a)) aF) b1)) fun cd=>Rt 6 cd<|re<|tn<|aV<|bH cc (vI (((q.bytesC ((ai.mk b false 0).byteV)).endC).e))<|?_
 rw[hs]
 exact bv a2 b1
 have a2:=aA a1
 refine bo<|sg<|?_
 refine L0<|bO (be O (Ne.symm Y) ca)<|?_
 refine aG (ub (ut j (u1 Z O im) (ac (nr a) (ac (ni g.size f) aC))) h) (mG c 0 0 0 0 0 0 0 0 0 0 0 nS nS (.slice aP ((q.bytesR ((ai.mk b false 0).byteV)).length) aQ) nS 0 0 0 0 0 nS) fun dd cf cg=>ah 1<|rt<|bH cf (vI 0)<|?_
 rw[hs]
 exact bE a2 ⟨_,_,_,_,_,rfl,aS.nil ..,aS.nil ..,c7,aS.nil ..,aS.nil ..,(cY (by omega))⟩ (ud aY cg k)
 have bW:=am s
 refine aD 2<|cb ((c==5)) (fun t=>?_) (fun t=>?_)
 have ch:=ag t
 refine ak 1<|?_
 have ci:RC w _ A cp b J i (ai.mk b false 0):=⟨hsl,l,(Nat.le_trans d.size a),⟨0,(ub x r),Nat.zero_le _,rfl⟩,by omega⟩
 refine ay<|m3 (de ci) fun df cj b2 dg=>Pl 1<|?_
 have D:=nb (au r) lr f
 refine L0<|cm (be b2 (Ne.symm D) L) 2 (mG c 0 ((ai.mk b false 0).wordV) 0 0 0 0 0 0 0 0 0 nS nS nS nS 0 0 0 0 0 nS) fun dh ck b3=>aM 1<|?_
 have a3:=us b2 b3
 have b4:=ut l a3 (ac (ni d.size a) (ac (ni (le d.size g.size) f) aC))
 refine ay<|m3 (de (RC.upd cj b3 (aa D aF) b4)) fun di cl b5 dj=>Pl 1<|?_
 refine L0<|cm (be b5 (Ne.symm D) ck) 4 (mG c 0 ((ai.mk b false 0).wordV) 0 (((ai.mk b false 0).wordsC 1).wordV) 0 0 0 0 0 0 0 nS nS nS nS 0 0 0 0 0 nS) fun dk a4 b6=>nt<|go<|Pl 2<|aE a4 4<|Pl 2<|cu 4 [62] 66 ((((((ai.mk b false 0).wordsC 1).wordV)==0)||((((ai.mk b false 0).wordsC 1).wordV)==65280))) (fun K b7=>?_) ?_
 refine bl 62 (((((ai.mk b false 0).wordsC 1).wordV)==0)) (fun E=>?_) (fun E=>?_)
 have cn:=ag E
 exact Pl 4<|ce b7 true (by rw[E];rfl)
 have cn:=am E
 exact Pl 1<|L1<|dX a4 4<|Pl 2<|ce b7 ((((ai.mk b false 0).wordsC 1).wordV)==65280) (by rw[E];rfl)
 have a5:=us b5 b6
 have b9:=ut b4 a5 (ac (ni d.size a) (ac (ni (le d.size g.size) f) aC))
 refine ay<|m2 (bg ((((((ai.mk b false 0).wordsC 1).wordV)==0)||((((ai.mk b false 0).wordsC 1).wordV)==65280))) 6 (RC.upd cl b6 (aa D aF) b9)) fun dl co cq=>?_
 refine gM co fun F cr cs=>?_
 refine nl<|bn<|tn<|ak 1<|ay<|m2 (fb cs) fun dm a6 cv=>nt<|sq<|ak 3<|L0<|eH (p:=⟨i,3,none⟩) (v:=vI F.endC.e) (RC.fld a6)<|ah 1<|?_
 have Q:=u1 cq cv im
 have ba:=ud b9 Q (le d.size a)
 have hs:aj aO 1 c b=bt (aT.mk c 0 ((ai.mk b false 0).wordV) 0 (((ai.mk b false 0).wordsC 1).wordV) 0 0 0 0 0 0 0 [] [] [] [] 0 0 0 0 0 []) F:=by
   subst cr
   unfold aj aO eL eu ed iP sV iE qJ oH tN eh fX
   (try simp only[o,s,t,bj,dQ,dU,dW,dT,dR,reduceIte,fK])
   all_goals rfl
 refine cb ((F.endC.e != 0)) (fun a7=>?_) (fun a7=>?_)
 have a8:=az a7
 refine sq<|Rg 7 (fun w'=>w'.cell? ⟨i,3,none⟩=some (vI F.endC.e)) fun dn R=>?_
 have bb:=RC.upd a6 R aF (aH.step (RC.u a6) R)
 refine bp (RC.fld bb) fun G=>Rt 0 G<|Rt 1 G<|Rt 2 G<|Rt 3 G<|Rl 4 G (fun _ hs=>hs)<|?_
 refine R0 5 rfl<|gk (ub (ut j (ut a3 (u1 a5 (aJ Q R) im) (ac im (ac im aC))) (ac (nr a) (ac (ni g.size f) aC))) h) mZ fun dp cw bc=>?_
 have bd:=ud ba (uz R bc) k
 refine bp (RC.fld (RC.upd bb bc (aa (Ne.symm (nb (au h) lr a)) aF) bd)) fun cx=>Rt 6 cx<|re<|tn<|aV<|bH cw (vI F.endC.e)<|?_
 rw[hs]
 exact bv a8 bd
 have a8:=aA a7
 refine bo<|sg<|?_
 refine L0<|bO (be Q (Ne.symm D) a4)<|?_
 refine aG (ub (ut j (ut a3 (u1 a5 Q im) (ac im (ac im aC))) (ac (nr a) (ac (ni g.size f) aC))) h) (mG c 0 ((ai.mk b false 0).wordV) 0 (((ai.mk b false 0).wordsC 1).wordV) 0 0 0 0 0 0 0 nS nS nS nS 0 0 0 0 0 nS) fun dq cy cz=>ah 1<|rt<|bH cy (vI 0)<|?_
 rw[hs]
 exact bE a8 ⟨_,_,_,_,_,rfl,aS.nil ..,aS.nil ..,(fun _ _ _=>aS.nil ..),aS.nil ..,aS.nil ..,(cY (by omega))⟩ (ud ba cz k)
 have ch:=am t
 refine aD 2<|cb ((c==15)) (fun H=>?_) (fun H=>?_)
 have cA:=ag H
 refine ak 1<|?_
 have a9:RC w _ A cp b J i (ai.mk b false 0):=⟨hsl,l,(Nat.le_trans d.size a),⟨0,(ub x r),Nat.zero_le _,rfl⟩,by omega⟩
 have bf:=nb (au r) lr f
 refine ay<|m3 (pJ (most:=1968) (b8 (by omega)) a9 L (Nat.le_trans (le d.size g.size) f) bf) fun dr cB cD cE=>?_
 have ds:=bU (RC.rng a9)
 have dt:=bU (c:=(ai.mk b false 0).wordsC 1) (d7 (RC.rng a9) 1)
 refine nt<|sq<|aD 2<|c1<|xt<|tx<|bx<|tn<|sq<|go<|Pl 1<|ay<|m2 (fb cB) fun du ab bh=>nt<|sq<|ak 3<|L0<|eH (p:=⟨i,3,none⟩) (v:=vI (((bY (ai.mk b false 0) 1968).endC).e)) (RC.fld ab)<|ah 1<|?_
 have ad:=u1 cE bh im
 have bi:=ut l ad (ac (ni d.size a) (ac (ni (le d.size g.size) f) aC))
 have hs:aj aO 1 c b=bt (aT.mk c 0 ((ai.mk b false 0).wordV) (((ai.mk b false 0).wordsC 1).wordV) 0 0 0 0 0 0 0 0 [] [] [] [] 0 0 0 0 0 []) (bY (ai.mk b false 0) 1968):=by
   unfold aj aO eL eu ed iP sV iE qJ oH tN eh fX
   (try simp only[o,s,t,H,bj,dQ,dU,dW,dT,dR,reduceIte,fK])
   all_goals rfl
 refine cb (((((bY (ai.mk b false 0) 1968).endC).e)!=0)) (fun ae=>?_) (fun ae=>?_)
 have af:=az ae
 refine sq<|Rg 7 (fun w'=>w'.cell? ⟨i,3,none⟩=some (vI (((bY (ai.mk b false 0) 1968).endC).e))) fun dv S=>?_
 have bm:=RC.upd ab S aF (aH.step (RC.u ab) S)
 refine bp (RC.fld bm) fun I=>Rt 0 I<|Rt 1 I<|Rt 2 I<|Rt 3 I<|Rl 4 I (fun _ hs=>hs)<|?_
 refine R0 5 rfl<|gk (ub (ut j (aJ ad S) (ac (nr a) (ac (ni g.size f) aC))) h) mZ fun dw cF bs=>?_
 have bu:=ud bi (uz S bs) k
 refine bp (RC.fld (RC.upd bm bs (aa (Ne.symm (nb (au h) lr a)) aF) bu)) fun cG=>Rt 6 cG<|re<|tn<|aV<|bH cF (vI (((bY (ai.mk b false 0) 1968).endC).e))<|?_
 rw[hs]
 exact bv af bu
 have af:=aA ae
 refine bo<|sg<|?_
 refine L0<|bO (be bh (Ne.symm bf) cD)<|?_
 refine aG (ub (ut j ad (ac (nr a) (ac (ni g.size f) aC))) h) (mG c 0 ((ai.mk b false 0).wordV) (((ai.mk b false 0).wordsC 1).wordV) 0 0 0 0 0 0 0 0 nS nS nS nS 0 0 0 0 0 nS) fun dx cH cI=>ah 1<|rt<|bH cH (vI 0)<|?_
 rw[hs]
 exact bE af ⟨_,_,_,_,_,rfl,aS.nil ..,aS.nil ..,(fun _ _ _=>aS.nil ..),aS.nil ..,aS.nil ..,(cY (by omega))⟩ (ud bi cI k)
 have cA:=am H
 refine ak 1<|?_
 refine aG (ub j h) mZ fun dy cJ cK=>ah 1<|rt<|br<|tr<|bH cJ (vI 4)<|?_
 exact cC (by unfold aj aO eL eu ed iP sV iE qJ oH tN eh fX;(try simp only[o,s,t,H,bj,dQ,dU,dW,dT,dR,reduceIte,fK])<;>rfl) (bG (ud l cK k))
theorem mL(hcode:B8 c)(hsl:aX m w (.slice A b.length cp) b)(hb:b.length≤1048576)(hd:¬ (dir=0∨dir=1)) :
    Calls Tryz.prog 109 #[vI dir,vB c,.slice A b.length cp] w (cV (.slice A b.length cp) b (aj aO dir c b) w):=by
 obtain⟨hcode1,hcode2⟩:=hcode
 have hln:(b.length:Int)≤1048576:=by omega
 have e0:(dir != 0)=true:=by simp;omega
 have e1:(dir != 1)=true:=by simp;omega
 refine en 113 Tryz.func109 rfl<|sg<|aK mZ fun g h a d e=>ah 1<|sq<|ak 3<|sy 16 e0<|Pl 3<|nl<|tn<|ct e1<|ak 1<|aG d mZ fun i eP f=>ah 1<|aV<|bH eP (vI 1)<|?_
 exact cC (by unfold aj aO eL eu ed iP sV iE qJ oH tN eh fX;(try simp only[e0,e1,bj,dQ,dU,dW,dT,dR,reduceIte,hd,fK])<;>rfl) (bG (ud e f a))
open Go.RowKit
theorem ju(h:fa C){b:Bool}  : fa (C.need b x):=fun y hy=>h y (by rwa [jn] at hy)
theorem jH(h:fa C)  : fa (C.bytesC n):=iY h n
theorem pm(h:fa C)  : fa (C.wordsC n):=d7 h n
theorem Af(C:ai)(x:Int) : (C.bytesC 1).need (!(C.bytesC 1).sh) x=C.bytesC 1:=by
  by_cases hf:C.fails 1=true
  · exact eV (fT hf)
  · have h:(C.bytesC 1).sh=false:=by
      unfold ai.bytesC
      rw[if_neg hf]
      unfold ai.fails at hf
      simp only[Bool.or_eq_true,decide_eq_true_eq,not_or] at hf
      show C.sh=false
      simpa using hf.1.1
    rw[h]
    unfold ai.need
    rw[if_neg (by rintro⟨_,h⟩;cases h)]
theorem zk{v:Int}(h:0≤v) : decide (0<v)=(v != 0):=by
  rw[Bool.eq_iff_iff]
  simp only[decide_eq_true_eq,bne_iff_ne,ne_eq]
  omega
def E8 (C:ai) : ai:=((C.bytesC 1).need (!(C.bytesC 1).sh) 5).need (C.byteV==6) 9
def DV (C:ai) : ai:=((E8 C).wordsC 1).need (decide (0<(E8 C).wordV)) 6
def DY (C:ai) : ai:=((DV C).wordsC 1).need (decide ((DV C).wordV≤9999)) 7
def zx (C:ai) : ai:=((DY C).wordsC 1).need (decide (0<(DY C).wordV)) 5
theorem yf(C:ai) : E8 C=jf C:=by unfold E8 jf;rw[Af]
theorem uG(h:fa C) : fa (jf C):=ju (jH h)
theorem zT(h:fa C) : DV C=jP C:=by unfold DV jP;rw[yf,zk (bU (uG h)).1]
theorem BE(h:fa C) : fa (jP C):=ju (pm (uG h))
theorem ze(h:fa C) : DY C=o0 C:=by unfold DY o0;rw[zT h]
theorem A7(h:fa C) : fa (o0 C):=ju (pm (BE h))
theorem xu(h:fa C) : zx C=dY C:=by unfold zx dY;rw[ze h,zk (bU (A7 h)).1]
theorem CV(h:C.e≠0) : C.endC=C:=by unfold ai.endC;exact eV h
theorem yF(h:b.length≠0) : (ai.mk b false 0).byteV=b.getD 0 0∧(ai.mk b false 0).bytesC 1=⟨b.drop 1,false,0⟩:=by
  have hf:¬ (ai.mk b false 0).fails 1=true:=by
    unfold ai.fails
    simp only[Bool.or_eq_true,decide_eq_true_eq,not_or]
    exact⟨⟨by decide,by decide⟩,by omega⟩
  constructor
  · unfold ai.byteV ai.bytesR
    rw[if_neg hf]
    rcases b with _|⟨x,t⟩
    · exact absurd rfl h
    · rfl
  · unfold ai.bytesC
    rw[if_neg hf]
    rfl
def dk (b:List Int)(n:Int) : List Int:=(b.take (n+1).toNat).drop 1
def ek (one:Int→ai→Int × ai × dt)(c:Int)(b:List Int) : aT × Int :=
  if (aZ one (dk b (b.getD 0 0)).length 0 ⟨dk b (b.getD 0 0),false,0⟩ []).1.e != 0 then (aT.zero,bD (aZ one (dk b (b.getD 0 0)).length 0 ⟨dk b (b.getD 0 0),false,0⟩ []).1.e)
  else if decide (b.getD 0 0+1<(b.length:Int)) then (aT.zero,3)
  else ({ aT.zero with code:=c,recs:=(aZ one (dk b (b.getD 0 0)).length 0 ⟨dk b (b.getD 0 0),false,0⟩ []).2 },0)
def dl (one:Int→ai→Int × ai × dt)(may:Int→Bool)(c:Int)(b:List Int) : aT × Int :=
  if (b.length:Int)==0 then (aT.zero,2)
  else if !(may (b.getD 0 0)) then (aT.zero,5)
  else if decide ((b.length:Int)<b.getD 0 0+1) then (aT.zero,2)
  else ek one c b
theorem my(h:C.e≠0) : bt M C=(aT.zero,C.e):=by
  unfold bt
  rw[CV h,if_neg h]
theorem ll{may:Int→Bool}   (hr:∀ x,x∈b→0≤x∧x<256) : bt (dw one may c ⟨b,false,0⟩).2 (dw one may c ⟨b,false,0⟩).1=dl one may c b:=by
  unfold dl
  by_cases h0:b.length=0
  · rw[if_pos (by rw[beq_iff_eq];omega)]
    obtain rfl:=List.eq_nil_of_length_eq_zero h0
    have e1:(l8 may ⟨[],false,0⟩).e=2:=by
      unfold l8
      rw[eV (fT (by decide))]
      rfl
    have e2:((l8 may ⟨[],false,0⟩).bytesC (ai.mk [] false 0).byteV).e=2:=by
      have hs:(l8 may ⟨[],false,0⟩).sh=true:=by
        unfold l8
        rw[eV (fT (by decide))]
        rfl
      unfold ai.bytesC
      rw[if_pos (by unfold ai.fails;rw[hs];rfl),eV (by show(l8 may ⟨[],false,0⟩).e≠0;rw[e1];decide)]
      exact e1
    unfold dw
    dsimp only
    rw[eV (by rw[e2];decide),my (by rw[e2];decide),e2]
  rw[if_neg (by rw[beq_iff_eq];omega)]
  obtain⟨e1,e2⟩:=yF h0
  have hn:0≤b.getD 0 0∧b.getD 0 0<256:=by
    rcases b with _|⟨x,t⟩
    · exact absurd rfl h0
    · exact hr x (by simp)
  by_cases hm:may (b.getD 0 0)=true
  · rw[if_neg (by rw[hm];decide)]
    have e3:l8 may ⟨b,false,0⟩=⟨b.drop 1,false,0⟩:=by
      unfold l8
      rw[e1,e2,hm]
      rfl
    by_cases hs:(b.length:Int)<b.getD 0 0+1
    · rw[if_pos (by simpa using hs)]
      have hf:(ai.mk (b.drop 1) false 0).fails (b.getD 0 0)=true:=by
        unfold ai.fails
        simp only[Bool.or_eq_true,decide_eq_true_eq,List.length_drop]
        exact .inr (by omega)
      have e4:(l8 may ⟨b,false,0⟩).bytesC (ai.mk b false 0).byteV=⟨[],true,2⟩:=by
        rw[e1,e3]
        unfold ai.bytesC
        rw[if_pos hf]
        rfl
      unfold dw
      dsimp only
      rw[e4,eV (by decide),my (by decide)]
    · rw[if_neg (by simpa using hs)]
      have hf:¬ (ai.mk (b.drop 1) false 0).fails (b.getD 0 0)=true:=by
        unfold ai.fails
        simp only[Bool.or_eq_true,decide_eq_true_eq,List.length_drop,not_or]
        exact⟨⟨by decide,by omega⟩,by omega⟩
      have e4:(l8 may ⟨b,false,0⟩).bytesC (ai.mk b false 0).byteV=⟨(b.drop 1).drop (b.getD 0 0).toNat,false,0⟩:=by
        rw[e1,e3]
        unfold ai.bytesC
        rw[if_neg hf]
      have e5:ww may ⟨b,false,0⟩=⟨dk b (b.getD 0 0),false,0⟩:=by
        unfold ww dk
        rw[e1,e3]
        unfold ai.bytesR
        rw[if_neg hf,show(b.getD 0 0+1).toNat=1+(b.getD 0 0).toNat from by omega,List.drop_take]
        rw[show 1+(b.getD 0 0).toNat-1=(b.getD 0 0).toNat from by omega]
      unfold dw ek oB
      dsimp only
      rw[e4,e5]
      by_cases hz:(aZ one (dk b (b.getD 0 0)).length 0 ⟨dk b (b.getD 0 0),false,0⟩ []).1.e=0
      · rw[hz,if_neg (by decide)]
        have e6:(ai.mk ((b.drop 1).drop (b.getD 0 0).toNat) false 0).need ((0:Int)==0) (bD 0)=⟨(b.drop 1).drop (b.getD 0 0).toNat,false,0⟩:=rfl
        rw[e6]
        by_cases hl:b.getD 0 0+1<(b.length:Int)
        · rw[if_pos (by simpa using hl)]
          have e7:(ai.mk ((b.drop 1).drop (b.getD 0 0).toNat) false 0).endC=⟨(b.drop 1).drop (b.getD 0 0).toNat,false,3⟩:=by
            unfold ai.endC ai.need
            rw[if_pos ⟨rfl,by rw[beq_eq_false_iff_ne];simp only[List.length_drop];omega⟩]
          unfold bt
          rw[e7,if_neg (show ¬ (3:Int)=0 from by decide)]
        · rw[if_neg (by simpa using hl)]
          have e7:(ai.mk ((b.drop 1).drop (b.getD 0 0).toNat) false 0).endC=⟨(b.drop 1).drop (b.getD 0 0).toNat,false,0⟩:=by
            unfold ai.endC ai.need
            rw[if_neg (by rintro⟨_,h⟩;rw[beq_eq_false_iff_ne] at h;simp only[List.length_drop] at h;omega)]
          unfold bt
          rw[e7,if_pos rfl]
      · rw[if_pos (by simpa using hz)]
        have hw:bD (aZ one (dk b (b.getD 0 0)).length 0 ⟨dk b (b.getD 0 0),false,0⟩ []).1.e≠0:=by
          unfold bD
          split
          · decide
          · exact hz
        have e6:(ai.mk ((b.drop 1).drop (b.getD 0 0).toNat) false 0).need ((aZ one (dk b (b.getD 0 0)).length 0 ⟨dk b (b.getD 0 0),false,0⟩ []).1.e==0) (bD (aZ one (dk b (b.getD 0 0)).length 0 ⟨dk b (b.getD 0 0),false,0⟩ []).1.e)=⟨(b.drop 1).drop (b.getD 0 0).toNat,false,bD (aZ one (dk b (b.getD 0 0)).length 0 ⟨dk b (b.getD 0 0),false,0⟩ []).1.e⟩:=by
          unfold ai.need
          rw[if_pos ⟨rfl,by simpa using hz⟩]
        rw[e6,my hw]
  · have hm:may (b.getD 0 0)=false:=by simpa using hm
    rw[if_pos (by rw[hm];rfl)]
    have e3:l8 may ⟨b,false,0⟩=⟨b.drop 1,false,5⟩:=by
      unfold l8
      rw[e1,e2,hm]
      rfl
    have e4:((l8 may ⟨b,false,0⟩).bytesC (ai.mk b false 0).byteV).e=5:=by
      rw[e3]
      unfold ai.bytesC
      split
      · rfl
      · rfl
    unfold dw
    dsimp only
    rw[eV (by rw[e4];decide),my (by rw[e4];decide),e4]
theorem th(hr:∀ x,x∈b→0≤x∧x<256) : aj bh 0 20 b=dl dm j0 20 b:=ll hr
theorem tI(hr:∀ x,x∈b→0≤x∧x<256) : aj bh 1 20 b=dl bX iN 20 b:=ll hr
theorem xL(hd:dir=0∨dir=1)(hr:∀ x,x∈b→0≤x∧x<256) : aj bh dir 21 b=dl du jv 21 b:=by
  unfold aj
  rw[if_pos hd]
  exact ll hr
theorem Bv:∀ n:Nat,n<256→(decide (1≤(n:Int)%128)&&decide ((n:Int)%128≤3))=cA (n:Int):=by decide +kernel
theorem Du(h:0≤x∧x<256) : (decide (1≤x%128)&&decide (x%128≤3))=cA x:=by
  obtain⟨n,rfl⟩:=Int.eq_ofNat_of_zero_le h.1
  exact Bv n (by omega)
theorem CK:(decide (0<x)&&decide (x<5))=(decide (1≤x)&&decide (x≤4)):=by
  rw[Bool.eq_iff_iff]
  simp only[Bool.and_eq_true,decide_eq_true_eq]
  omega
def fW (C:ai) : ai:=((dI C).bytesC 1).need (decide (0<(dI C).byteV)&&decide ((dI C).byteV<5)) 6
theorem zv(C:ai) : fW C=eK C:=by unfold fW eK;rw[CK]
def gP (C:ai) : ai:=(C.bytesC 1).need (decide (1≤C.byteV%128)&&decide (C.byteV%128≤3)) 6
def ja (C:ai) : ai:=((gP C).bytesC 1).need ((gP C).byteV==0 || (gP C).byteV==255) 6
def j8 (C:ai) : ai:=((ja C).bytesC 1).need ((ja C).byteV==0 || (gP C).byteV==255) 6
def kL (kd:Int)(C:ai) : ai:=((j8 C).bytesC 1).need ((j8 C).byteV==1 || kd != 4) 5
def eS (kd:Int)(C:ai) : ai × List Obj:=eR (j8 C).byteV.toNat (kL kd C) []
theorem nF(h:fa C) : gP C=md C:=by unfold gP md;rw[Du (dg h)]
theorem s4(h:fa C) : ja C=ma C:=by unfold ja ma;rw[nF h]
theorem zS(h:fa C) : j8 C=o9 C:=by
  unfold j8 o9
  rw[s4 h,nF h]
  by_cases e:((ma C).bytesC 1).e=0
  · have h1:=(gY e).1
    unfold ma at h1
    have h2:=(fw (by decide) h1).2
    congr 1
    rw[Bool.eq_iff_iff]
    simp only[Bool.or_eq_true,beq_iff_eq,bne_iff_ne,ne_eq] at h2 ⊢
    omega
  · rw[eV e,eV e]
theorem s5{kd:Int}  (h:fa C) : eS kd C=dV kd C:=by
  unfold eS dV kL zF
  rw[zS h,Bool.or_comm]
def dA (dir c:Int)(C:ai) : Option (ai × aT) :=
  if c != 43 then none
  else if C.byteV==13 then some ((g9 C).bytesC ((dI C).l.length:Int),{ aT.zero with code:=43,mei:=C.byteV,data:=(g9 C).bytesR ((dI C).l.length:Int) })
  else if dir==0 then some ((fW C).bytesC 1,{ aT.zero with code:=43,mei:=C.byteV,kind:=(dI C).byteV,next:=(fW C).byteV })
  else some ((eS (dI C).byteV (fW C)).1,{ aT.zero with code:=43,mei:=C.byteV,kind:=(dI C).byteV,level:=(fW C).byteV,more:=(gP (fW C)).byteV,next:=(ja (fW C)).byteV,objects:=(eS (dI C).byteV (fW C)).2 })
theorem rh(hr:∀ x,x∈b→0≤x∧x<256) : aj dA dir c b=aj bP dir c b:=by
  unfold aj
  split
  · rename_i hd
    unfold dA bP
    by_cases hc:c=43
    · subst hc
      have hD:fa (fW ⟨b,false,0⟩):=ju (jH (ju (jH (C:=⟨b,false,0⟩) hr)))
      have hl:(g9 ⟨b,false,0⟩).l.length=(dI ⟨b,false,0⟩).l.length:=by unfold g9;rw[jn]
      rw[if_neg (show ¬ (((43:Int)!=43)=true) from by decide),if_neg (show ¬ (((43:Int)!=43)=true) from by decide),nF hD,s4 hD,s5 hD,zv,hl]
      rcases hd with rfl|rfl
      · rw[if_pos (show((0:Int)==0)=true from rfl),if_neg (show ¬ ((0:Int)==1)=true from by decide)]
      · rw[if_neg (show ¬ ((1:Int)==0)=true from by decide),if_pos (show((1:Int)==1)=true from rfl)]
    · rw[if_pos (by simpa using hc),if_pos (by simpa using hc)]
  · rfl
end Go.Proofs.YtdkhbcefkfgbdaaGreat
