/- Contracts of functions, part CStreamTicks5. -/
import Derived.Test.YtpglhicfhppaiaaGreatCStreamTicks1
import Derived.Test.YtpglhicfhppaiaaGreatCStreamTicks2
import Derived.Test.YtpglhicfhppaiaaGreatCStreamTicks3
import Derived.Test.YtpglhicfhppaiaaGreatCStreamTicks4
import Derived.Deep.Slices
import Derived.ChangeArms
import Derived.WideShapes
import Derived.SizedLaws
set_option linter.unusedVariables false
set_option linter.unusedSimpArgs false
set_option maxRecDepth 100000
set_option maxHeartbeats 4000000
namespace Go.Proofs.YtpglhicfhppaiaaGreat
open Go.RowKit
deriving instance DecidableEq for Ev
theorem iL(A B:Ev) : (((A.e==B.e)&&((A.f.unit==B.f.unit)&&(A.f.tid==B.f.tid)))&&decide (A.f.msg=B.f.msg))=decide (A=B):=by
  rw[Bool.eq_iff_iff]
  simp only[Bool.and_eq_true,beq_iff_eq,decide_eq_true_eq]
  obtain⟨e,u,t,M⟩:=A
  obtain⟨e2,u2,t2,M2⟩:=B
  simp only[Ev.mk.injEq,cT.mk.injEq]
  constructor
  · rintro⟨⟨h1,h2,h3⟩,h4⟩;exact⟨h1,h2,h3,h4⟩
  · rintro⟨h1,h2,h3,h4⟩;exact⟨⟨h1,h2,h3⟩,h4⟩
theorem rS{xs ys:List Ev}{k:Nat}(hk:k<xs.length)(hl:xs.length=ys.length)(h:xs.take k=ys.take k)(he:xs.getD k (Ev.bad 0)=ys.getD k (Ev.bad 0)) : xs.take (k+1)=ys.take (k+1):=by
  exact oT hl hk h he
theorem so{xs ys:List Ev}{k:Nat}(h:xs.take k=ys.take k)(h1:k=xs.length)(h2:xs.length=ys.length) : decide (xs=ys)=true:=by
  rw[List.take_of_length_le (by omega),List.take_of_length_le (by omega)] at h
  exact decide_eq_true h
theorem tN{xs ys:List Ev}(k:Nat)(h:decide (xs.getD k (Ev.bad 0)=ys.getD k (Ev.bad 0))=false) : decide (xs=ys)=false:=by
  rw[decide_eq_false_iff_not] at h ⊢
  exact fun e=>h (by rw[e])
theorem ln{m m':Bool}{A B:Ev}{sA sB:SL}{w:World}(hA:aU m w (ol A.f.msg sA).toList A.f.msg)(hB:aU m' w (ol B.f.msg sB).toList B.f.msg) : Calls Tryz.prog 45 #[.agg (kS A sA),.agg (kS B sB)] w (bg (.bool (decide (A=B))) w):=by
 refine en 28 Tryz.func45 rfl<|sg<|L0<|cW (kS ⟨A.e,A.f⟩ sA) fun s t u o p=>L0<|cW (kS ⟨B.e,B.f⟩ sB) fun v x y d i=>Pl 1<|ng<|Pl 1<|?_
 have g:=ub i o
 refine L0<|aR g 0<|Pl 1<|L0<|aR d 0<|Pl 2<|cu 8 [10] 18 (((A.e==B.e)&&((A.f.unit==B.f.unit)&&(A.f.tid==B.f.tid)))) (fun K j=>?_) ?_
 refine bl 10 ((A.e==B.e)) (fun a=>?_) (fun a=>?_)
 have q:=aA a
 exact Pl 2<|L1<|tK g 1 2<|Pl 2<|L1<|tK d 1 2<|L1<|gw (.bool ((A.f.unit==B.f.unit)&&(A.f.tid==B.f.tid))) (kT A.f.unit A.f.tid B.f.unit B.f.tid rfl (by kernel_rfl) (by kernel_rfl) rfl)<|Pl 1<|ce j ((A.f.unit==B.f.unit)&&(A.f.tid==B.f.tid)) (by rw[a];rfl)
 have q:=aG a
 exact Pl 8<|ce j false (by rw[a];rfl)
 refine Pl 1<|?_
 have c:=aE p i
 refine bl 19 (((A.e==B.e)&&((A.f.unit==B.f.unit)&&(A.f.tid==B.f.tid)))) (fun b=>?_) (fun b=>?_)
 have k:=(bM b).1
 have h:=(bM b).2
 have z:=aA k
 have l:=(bM h).1
 have n:=(bM h).2
 have q24bap:=aA l
 have q24bbp:=aA n
 refine Pl 2<|L1<|tK g 3 22<|Pl 2<|L1<|tK d 3 22<|?_
 refine L1<|Oc<|m1 (nL (aU.old hA c) (aU.old hB c)) fun C r=>Pl 2<|nt<|rt<|rr (.bool (decide (A.f.msg=B.f.msg)))<|?_
 have hs:(decide (A.f.msg=B.f.msg))=decide (A=B):=by rw[← iL];simp only[b,k,h,l,n,bs,if_true,if_false,decide_true,decide_false,Bool.true_and,Bool.false_and,Bool.and_true,Bool.and_false]
 rw[hs]
 exact⟨rfl,(aE c r)⟩
 refine Pl 9<|nt<|rt<|rr (.bool false)<|?_
 have hs:false=decide (A=B):=by rw[← iL];simp only[b,bs,if_true,if_false,decide_true,decide_false,Bool.true_and,Bool.false_and,Bool.and_true,Bool.and_false]
 rw[hs]
 exact⟨rfl,c⟩
theorem f5{m m':Bool}{A B:Option Addr}{c d:Nat}{xs ys:List Ev}{w:World}(h1:kP m w (.slice A xs.length c) xs)(h2:kP m' w (.slice B ys.length d) ys) : Calls Tryz.prog 28 #[.slice A xs.length c,.slice B ys.length d] w (bg (.bool (decide (xs=ys))) w):=by
 have hz1:=aH.len h1
 have hz2:=aH.len h2
 refine en 27 Tryz.func28 rfl<|sg<|Pl 1<|nt<|sq<|sg<|Pl 5<|nt<|cb ((((xs.length:Nat) : Int)!=((ys.length:Nat) : Int))) (fun l=>?_) (fun l=>?_)
 have q:=ay l
 refine sg<|Pl 1<|nt<|rt<|tr<|rr (.bool false)<|?_
 have hs:decide (xs=ys)=false:=decide_eq_false (fun e=>by rw[e] at q;omega)
 rw[hs]
 exact⟨rfl,(au.refl [] _)⟩
 have q:=ag l
 refine bB<|sq<|sg<|Pl 1<|nt<|bk<|?_
 refine fR (fun x=>[(0,.slice A xs.length c),(1,.slice B ys.length d),(5,.int .i64 ((x:Nat) : Int))]) (fun(x:Nat) w'=>au [] w w'∧(xs.take x=ys.take x)∧(x≤xs.length)) (fun x=>xs.length-x) 0 ⟨au.refl _ _,rfl,(by(try dsimp only);omega)⟩ ?_
 rintro k Y ⟨r,C,D⟩
 refine fz [(0,.slice A xs.length c),(1,.slice B ys.length d),(5,.int .i64 ((k:Nat) : Int))] ?_
 have s:xs.take k=ys.take k:=C
 have Z:k≤xs.length:=D
 refine sq<|sg<|Pl 4<|nt<|cb ((decide (((k:Nat) : Int)<((xs.length:Nat) : Int)))) (fun n=>?_) (fun n=>?_)
 have E:=of_decide_eq_true n
 refine bB<|sq<|bk<|sq<|tU (kP.elt h1 k (by omega) (Ev.bad 0)) fun t F G H I a J K L M=>tU (kP.elt h2 k (by omega) (Ev.bad 0)) fun u N O P Q b R S T U=>Rg 10 (fun w'=>w'.heap[t]? = some (.cells G H I)∧w'.heap[u]? = some (.cells O P Q)) fun a0 V=>?_
 have i:=aE r V
 have v:=ub i K
 have y:=ub i S
 refine be ⟨v,y⟩ fun h=>Rt 0 h<|Rt 1 h<|Ri 2 h 25 xs.length k ((k:Nat) : Int) rfl J (by omega)<|Rr 3 h (.agg (kS ⟨(xs.getD k (Ev.bad 0)).e,(xs.getD k (Ev.bad 0)).f⟩ a)) (fun w' hs=>mp (g:=t) (off:=F+k*25) [.int .i64 ((xs.getD k (Ev.bad 0)).e),.int .u8 ((xs.getD k (Ev.bad 0)).f.unit),.int .u16 ((xs.getD k (Ev.bad 0)).f.tid),.int .u8 ((xs.getD k (Ev.bad 0)).f.msg.code),.int .u8 ((xs.getD k (Ev.bad 0)).f.msg.fail),.int .u16 ((xs.getD k (Ev.bad 0)).f.msg.addr),.int .u16 ((xs.getD k (Ev.bad 0)).f.msg.count),.int .u16 ((xs.getD k (Ev.bad 0)).f.msg.value),.int .u16 ((xs.getD k (Ev.bad 0)).f.msg.and_),.int .u16 ((xs.getD k (Ev.bad 0)).f.msg.or_),.int .u16 ((xs.getD k (Ev.bad 0)).f.msg.addr2),.int .u16 ((xs.getD k (Ev.bad 0)).f.msg.sub),.int .u16 ((xs.getD k (Ev.bad 0)).f.msg.status),.int .u16 ((xs.getD k (Ev.bad 0)).f.msg.events),.int .u16 ((xs.getD k (Ev.bad 0)).f.msg.messages),.slice a.aw ((xs.getD k (Ev.bad 0)).f.msg.words.length) a.kw,.slice a.ab ((xs.getD k (Ev.bad 0)).f.msg.bits.length) a.kb,.slice a.ad ((xs.getD k (Ev.bad 0)).f.msg.data.length) a.kd,.slice a.ar ((xs.getD k (Ev.bad 0)).f.msg.recs.length) a.kr,.int .u8 ((xs.getD k (Ev.bad 0)).f.msg.mei),.int .u8 ((xs.getD k (Ev.bad 0)).f.msg.kind),.int .u8 ((xs.getD k (Ev.bad 0)).f.msg.level),.int .u8 ((xs.getD k (Ev.bad 0)).f.msg.more),.int .u8 ((xs.getD k (Ev.bad 0)).f.msg.next),.slice a.ao ((xs.getD k (Ev.bad 0)).f.msg.objects.length) a.ko] rfl (by kernel_rfl) hs.1 (by kernel_rfl) (by kernel_rfl) M)<|Rt 4 h<|Rt 5 h<|Ri 6 h 25 ys.length k ((k:Nat) : Int) rfl R (by omega)<|Rr 7 h (.agg (kS ⟨(ys.getD k (Ev.bad 0)).e,(ys.getD k (Ev.bad 0)).f⟩ b)) (fun w' hs=>mp (g:=u) (off:=N+k*25) [.int .i64 ((ys.getD k (Ev.bad 0)).e),.int .u8 ((ys.getD k (Ev.bad 0)).f.unit),.int .u16 ((ys.getD k (Ev.bad 0)).f.tid),.int .u8 ((ys.getD k (Ev.bad 0)).f.msg.code),.int .u8 ((ys.getD k (Ev.bad 0)).f.msg.fail),.int .u16 ((ys.getD k (Ev.bad 0)).f.msg.addr),.int .u16 ((ys.getD k (Ev.bad 0)).f.msg.count),.int .u16 ((ys.getD k (Ev.bad 0)).f.msg.value),.int .u16 ((ys.getD k (Ev.bad 0)).f.msg.and_),.int .u16 ((ys.getD k (Ev.bad 0)).f.msg.or_),.int .u16 ((ys.getD k (Ev.bad 0)).f.msg.addr2),.int .u16 ((ys.getD k (Ev.bad 0)).f.msg.sub),.int .u16 ((ys.getD k (Ev.bad 0)).f.msg.status),.int .u16 ((ys.getD k (Ev.bad 0)).f.msg.events),.int .u16 ((ys.getD k (Ev.bad 0)).f.msg.messages),.slice b.aw ((ys.getD k (Ev.bad 0)).f.msg.words.length) b.kw,.slice b.ab ((ys.getD k (Ev.bad 0)).f.msg.bits.length) b.kb,.slice b.ad ((ys.getD k (Ev.bad 0)).f.msg.data.length) b.kd,.slice b.ar ((ys.getD k (Ev.bad 0)).f.msg.recs.length) b.kr,.int .u8 ((ys.getD k (Ev.bad 0)).f.msg.mei),.int .u8 ((ys.getD k (Ev.bad 0)).f.msg.kind),.int .u8 ((ys.getD k (Ev.bad 0)).f.msg.level),.int .u8 ((ys.getD k (Ev.bad 0)).f.msg.more),.int .u8 ((ys.getD k (Ev.bad 0)).f.msg.next),.slice b.ao ((ys.getD k (Ev.bad 0)).f.msg.objects.length) b.ko] rfl (by kernel_rfl) hs.2 (by kernel_rfl) (by kernel_rfl) U)<|?_
 refine R0 8 rfl<|Oc<|m1 (ln (A:=(xs.getD k (Ev.bad 0))) (B:=(ys.getD k (Ev.bad 0))) (aU.old (L.1) i) (aU.old (T.1) i)) fun a1 o=>?_
 refine be ⟨(ub o v),(ub o y)⟩ fun W=>Rt 9 W<|re<|tn<|?_
 have z:=aE i o
 refine cb ((!(decide ((xs.getD k (Ev.bad 0))=(ys.getD k (Ev.bad 0)))))) (fun p=>?_) (fun p=>?_)
 have j:(decide ((xs.getD k (Ev.bad 0))=(ys.getD k (Ev.bad 0))))=false:=by simpa using p
 have X:=of_decide_eq_false j
 refine sg<|Pl 1<|nt<|rt<|br<|tr<|tr<|br<|tr<|rr (.bool false)<|?_
 have hs:decide (xs=ys)=false:=tN k j
 rw[hs]
 exact⟨rfl,z⟩
 have j:(decide ((xs.getD k (Ev.bad 0))=(ys.getD k (Ev.bad 0))))=true:=by simpa using p
 have X:=of_decide_eq_true j
 exact sk<|bn<|tn<|go<|Pl 1<|L0<|Oi (((k:Nat) : Int)+1)<|Pl 1<|nl<|dZ (k+1) ⟨z,(rS (by omega) (by omega) s (of_decide_eq_true j)),(by(try dsimp only);omega)⟩ (by omega)
 have E:=of_decide_eq_false n
 refine xt<|tx<|tx<|bx<|tn<|sg<|Pl 1<|nt<|rt<|rr (.bool true)<|?_
 have hs:decide (xs=ys)=true:=so s (by omega) (by omega)
 rw[hs]
 exact⟨rfl,r⟩
open Go.RowKit
theorem nZ{n:Nat}{A:Option Addr}{cp:Nat}{ps:List Pc}{w:World}(h:aH false 53 2 (eD n) w (.slice A ps.length cp) ps)(hn:n≤w.heap.size)(hps:ps.length≤1048576) : Calls Tryz.prog 27 #[.slice A ps.length cp] w (fun e w'=>∃ v,e = .returned v∧ci n w.heap.size w' v ps∧au [] w w'):=by
 have hz:=aH.len h
 refine en 26 Tryz.func27 rfl<|sg<|Pl 1<|ng<|Pl 1<|nt<|sq<|sg<|?_
 refine Pl 1<|nt<|bk<|?_
 refine fR (fun x=>[(0,.slice A ps.length cp),(2,.slice none 0 0),(3,.slice x.2.2.1 x.2.1.length x.2.2.2),(4,.int .i64 ((x.1:Nat) : Int))]) (fun(x:Nat × List Pc × Option Addr × Nat) w'=>au [] w w'∧aN w.heap.size 53 2 (eD n) w' (.slice x.2.2.1 x.2.1.length x.2.2.2) x.2.1∧(x.1≤ps.length)∧(x.2.1.length≤x.1)∧(x.2.1=ps.take x.1)) (fun x=>ps.length-x.1) (0,[],none,0) ⟨au.refl _ _,(aN.nil w.heap.size _ _ (eD n) _),(by(try dsimp only);omega),(by(try dsimp only);exact Nat.le_refl _),rfl⟩ ?_
 rintro⟨k,L,B,cq⟩ I ⟨l,J,K,M,N⟩
 refine fz [(0,.slice A ps.length cp),(2,.slice none 0 0),(3,.slice B L.length cq),(4,.int .i64 ((k:Nat) : Int))] ?_
 have c:aN w.heap.size 53 2 (eD n) I (.slice B L.length cq) L:=J
 have X:k≤ps.length:=K
 have Y:L.length≤k:=M
 have o:L=ps.take k:=N
 refine sq<|sg<|Pl 4<|nt<|cb ((decide (((k:Nat) : Int)<((ps.length:Nat) : Int)))) (fun d=>?_) (fun d=>?_)
 have O:=of_decide_eq_true d
 refine bB<|sq<|bk<|jA (RdPn.elt h k (by omega)) fun q r Z a0 a1 s t u y P a2 b=>Rg 15 (fun w'=>w'.cell? ⟨q,r+k*2+0,none⟩=some (.slice s ((ps.getD k Pc.z).bytes.length) t)∧w'.cell? ⟨q,r+k*2+1,none⟩=some (.bool ((ps.getD k Pc.z).tick))) fun a3 C=>?_
 have D:=aE l C
 have f:=ub D y
 refine be ⟨(dC f b 0 rfl (by decide)),(dC f b 1 rfl (by decide))⟩ fun a=>Rt 0 a<|Rt 1 a<|Rt 2 a<|Ri 3 a 2 ps.length k ((k:Nat) : Int) rfl u (by omega)<|Rt 4 a<|Rl 5 a (fun _ hs=>hs.1)<|Rt 6 a<|Rt 7 a<|Ri 8 a 2 ps.length k ((k:Nat) : Int) rfl u (by omega)<|Rt 9 a<|Rl 10 a (fun _ hs=>hs.2)<|Rt 11 a<|R0 12 rfl<|fk (m:=1) (e:=53) #[.slice s ((ps.getD k Pc.z).bytes.length) t,.bool ((ps.getD k Pc.z).tick)] fun a4 a5 Q R g=>?_
 have i:=aE D g
 have S:=uP (n:=n) (p:=(Pc.mk ((ps.getD k Pc.z).bytes) ((ps.getD k Pc.z).tick))) Q R (⟨_,rfl,km.upd i (fun x hx=>by cases hx) P⟩)
 have j:=ub g f
 refine be ⟨(dC j b 0 rfl (by decide)),(dC j b 1 rfl (by decide))⟩ fun a6=>?_
 have E:=aE C g
 have F:=am c E (fun x hx=>ax) (eD.upd E (fun x hx=>by cases hx))
 refine R0 13 rfl<|ge (xs:=L) (ys:=([Pc.mk ((ps.getD k Pc.z).bytes) ((ps.getD k Pc.z).tick)])) (.agg #[.slice none 0 0,.bool false]) 2 32 F (S).rd eD.ones (fun w' hv=>eD.upd hv (ap (fun x hx=>Nat.le_trans hn (Nat.le_trans lr (cS F x hx))) av)) (by(try simp only[List.length_append,List.length_cons,List.length_nil,aT]);omega) i.size fun T U a7 V G a8=>?_
 have H:=au.blk G (aK (aq (aj y) lr c) ax) j
 refine be ⟨(dC H b 0 rfl (by decide)),(dC H b 1 rfl (by decide))⟩ fun W=>Rt 14 W<|re<|bn<|tn<|go<|Pl 1<|L0<|Oi (((k:Nat) : Int)+1)<|Pl 1<|nl<|?_
 exact dZ ((k+1),(L++[Pc.mk ((ps.getD k Pc.z).bytes) ((ps.getD k Pc.z).tick)]),T,U) ⟨(ut i G (ap (bt c lr) av)),V,(by(try dsimp only);omega),(by(try dsimp only);simp only[List.length_append,List.length_cons,List.length_nil];omega),(by(try dsimp only);exact r3 o (by omega))⟩ (by omega)
 have O:=of_decide_eq_false d
 refine xt<|tx<|tx<|bx<|tn<|sg<|Pl 2<|nt<|rt<|rr (.slice B L.length cq)<|?_
 have hs:L=ps:=by rw[o,List.take_of_length_le (by omega)]
 exact⟨_,rfl,by rw[← hs];exact c,l⟩
theorem c8{n:Nat}{v:Value}{ps:List Pc}{w:World}(h:aH false 53 2 (eD n) w v ps)(hn:n≤w.heap.size)(hps:ps.length≤1048576) : Calls Tryz.prog 27 #[v] w (fun e w'=>∃ v,e = .returned v∧ci n w.heap.size w' v ps∧au [] w w'):=by
  obtain⟨A,cp,rfl,_,_⟩:=h.shape
  exact nZ h hn hps
open Go.RowKit
theorem bP{b:Bool}{ps:List Pc}{L:List Pc}{k:Nat}(hl:L.length=ps.length)(hL:L.map Pc.bytes=ps.map Pc.bytes) : (L.set k (Pc.mk (L.getD k Pc.z).bytes b)).length=ps.length∧(L.set k (Pc.mk (L.getD k Pc.z).bytes b)).map Pc.bytes=ps.map Pc.bytes:=by
  refine⟨by rw[List.length_set];exact hl,?_⟩
  rw[List.map_set,← hL]
  apply List.ext_getElem?
  intro i
  by_cases h:k=i
  · subst h
    by_cases hk:k<L.length
    · rw[List.getElem?_set_self (by rw[List.length_map];exact hk),List.getElem?_map,List.getElem?_eq_getElem hk,List.getD_eq_getElem?_getD,List.getElem?_eq_getElem hk]
      rfl
    · rw[List.getElem?_eq_none (by rw[List.length_set,List.length_map];omega),List.getElem?_eq_none (by rw[List.length_map];omega)]
  · rw[List.getElem?_set_ne h]
theorem dS{a b:List Pc}(h:a.map Pc.bytes=b.map Pc.bytes) : eC a=eC b:=by unfold eC;rw[h]
theorem gM{w:World}{net ans:Bool}{mA:Bool}{A:Option Addr}{cpA:Nat}{ps:List Pc}(hA:ew mA w (.slice A ps.length cpA) ps)(hpb:∀ p,p∈ps→p.bytes.length≤140737488355328)(hpl:ps.length≤4398046511104) :
    Calls Tryz.prog 8 #[.bool net,.bool ans,.slice A ps.length cpA] w (bg (.bool true) w):=by
 have hzA:=aH.len hA
 refine en 69 Tryz.func8 rfl<|sg<|Pl 1<|ng<|L0<|Oc<|m1 (@rD _) fun d8 aV=>Pl 1<|ng<|?_
 refine Pl 1<|?_
 refine L0<|Oc<|m1 (nK (ew.old hA aV) hpb hpl) fun b bR=>Pl 1<|nt<|sq<|sg<|Pl 2<|nt<|?_
 have a:=aE aV bR
 refine cb ((!(ey (ps.map Pc.bytes)))) (fun ar=>?_) (fun ar=>?_)
 have s:(ey (ps.map Pc.bytes))=false:=by simpa using ar
 refine sg<|Pl 2<|nt<|rt<|tr<|rr (.bool true)<|?_
 exact⟨rfl,a⟩
 have s:(ey (ps.map Pc.bytes))=true:=by simpa using ar
 refine bB<|sg<|Pl 1<|nt<|sq<|sg<|Pl 1<|nt<|cb (ans) (fun bS=>?_) (fun bS=>?_)
 refine go<|Pl 1<|ng<|Pl 1<|nt<|sq<|sg<|Pl 1<|nl<|?_
 refine tn<|cb (net) (fun bT=>?_) (fun bT=>?_)
 refine go<|Pl 1<|ng<|Pl 1<|L0<|Oc<|gH (c8 (RdPn.old (ew.n hA) a) a.size (by have y:=(dn (by assumption)).1;omega)) fun c t aW u d9 da bU=>Pl 1<|ng<|Pl 1<|?_
 have d:=aE a bU
 refine L0<|Oc<|gH (c8 (RdPn.old (ew.n hA) d) d.size (by have y:=(dn (by assumption)).1;omega)) fun e v bV B db dc aw=>Pl 1<|nt<|sq<|sg<|Pl 1<|nt<|bk<|?_
 obtain⟨hf1,hf2⟩:=dn s
 refine fR (fun x=>[(2,.slice A ps.length cpA),(6,.bool false),(7,.bool true),(9,.int .i64 1),(10,.int .i64 2),(11,.slice c ps.length t),(12,.slice e ps.length v),(13,.int .i64 ((x.1:Nat) : Int))]) (fun(x:Nat × List Pc × List Pc) w'=>au [] w w'∧bV.heap.size≤w'.heap.size∧ci w.heap.size b.heap.size w' (.slice c ps.length t) x.2.1∧ci w.heap.size aW.heap.size w' (.slice e ps.length v) x.2.2∧(x.1≤ps.length)∧(x.2.1.length=ps.length)∧(x.2.1.map Pc.bytes=ps.map Pc.bytes)∧(x.2.2.length=ps.length)∧(x.2.2.map Pc.bytes=ps.map Pc.bytes)) (fun x=>ps.length-x.1) (0,ps,ps) ⟨(aE d aw),lr,(am u aw (fun x hx=>ax) (eD.upd aw (fun x hx=>by cases hx))),B,(by(try dsimp only);omega),rfl,rfl,rfl,rfl⟩ ?_
 rintro⟨k,Q1,Q2⟩ aX ⟨aY,bW,bX,bY,bZ,c0,c1,c2,c3⟩
 refine fz [(2,.slice A ps.length cpA),(6,.bool false),(7,.bool true),(9,.int .i64 1),(10,.int .i64 2),(11,.slice c ps.length t),(12,.slice e ps.length v),(13,.int .i64 ((k:Nat) : Int))] ?_
 have ay:ci w.heap.size b.heap.size aX (.slice c ps.length t) Q1:=bX
 have aZ:ci w.heap.size aW.heap.size aX (.slice e ps.length v) Q2:=bY
 have dd:k≤ps.length:=bZ
 have b0:Q1.length=ps.length:=c0
 have a1:Q1.map Pc.bytes=ps.map Pc.bytes:=c1
 have b1:Q2.length=ps.length:=c2
 have a2:Q2.map Pc.bytes=ps.map Pc.bytes:=c3
 refine sq<|sg<|Pl 4<|nt<|cb ((decide (((k:Nat) : Int)<((ps.length:Nat) : Int)))) (fun aA=>?_) (fun aA=>?_)
 have c4:=of_decide_eq_true aA
 refine bB<|sq<|bk<|sg<|Pl 2<|jA (ew.elt (ci.any ay) k (by omega)) fun de df dg dh di dj dk b2 dl dm dp dq=>L0<|fq 2 ps.length k b2 (by omega)<|Pl 1<|L0<|jX ay a.size b2 (j:=k) (by omega) false fun dr c5 a3=>nt<|go<|?_
 refine Pl 2<|?_
 have b3:=am aZ a3 (fun x hx=>(aK ((ep B u lr) x hx) ax)) (eD.upd a3 (ap (fun x hx=>Nat.le_trans a.size (cS u x hx)) av))
 refine jA (ew.elt (ci.any b3) k (by omega)) fun ds dt du dv dw dx dy b4 dz dA dB dC=>L0<|fq 2 ps.length k b4 (by omega)<|Pl 1<|L0<|jX b3 d.size b4 (j:=k) (by omega) true fun dD c6 a4=>nl<|bn<|tn<|go<|Pl 1<|L0<|Oi (((k:Nat) : Int)+1)<|Pl 1<|nl<|?_
 exact dZ ((k+1),(Q1.set k (Pc.mk (Q1.getD k Pc.z).bytes false)),(Q2.set k (Pc.mk (Q2.getD k Pc.z).bytes true))) ⟨(ut aY (ut (au.mono (S':=(ob c++(ob e++[]))) a3 (ap il av)) a4 (ap il av)) (ap (bt u a.size) (ap (bt B d.size) av))),(le (le bW a3.size) a4.size),(am c5 a4 (fun x hx=>(aK ((fO u lr B) x hx) ax)) (eD.upd a4 (ap (fun x hx=>Nat.le_trans d.size (cS B x hx)) av))),c6,(by(try dsimp only);omega),(by(try dsimp only);exact(bP b0 a1).1),(by(try dsimp only);exact(bP b0 a1).2),(by(try dsimp only);exact(bP b1 a2).1),(by(try dsimp only);exact(bP b1 a2).2)⟩ (by omega)
 have c4:=of_decide_eq_false aA
 refine xt<|tx<|tx<|bx<|tn<|sg<|Pl 3<|?_
 refine pr (XS.run (XS.zero 2 1) Q1) fun a5 C b5=>?_
 refine L0<|Oc (args:=#[.int .i64 2,.int .i64 1,.slice c ps.length t])<|gH (cL b5 (show 2=0∨2=1∨2=2 by decide) (show 1=0∨1=1 by decide) (ci.any ay) (by omega) (by rw[dS a1];omega)) fun dE dF dG c7 dH dI aB=>Pl 5<|ng<|Pl 3<|?_
 refine pr (XS.run (XS.zero 2 1) Q2) fun a6 D b6=>?_
 refine L0<|Oc (args:=#[.int .i64 2,.int .i64 1,.slice e ps.length v])<|gH (cL b6 (show 2=0∨2=1∨2=2 by decide) (show 1=0∨1=1 by decide) (ci.any (am aZ aB (fun x hx=>ax) (eD.upd aB (fun x hx=>by cases hx)))) (by omega) (by rw[dS a2];omega)) fun dJ dK dL c9 dM dN aC=>Pl 5<|ng<|Pl 4<|?_
 refine L1<|Oc<|m1 (f5 (xs:=C) (ys:=D) ((am c7 aC (fun x hx=>ax) (j4.upd aC az))).rd (c9).rd) fun dO ca=>Pl 2<|cu 4 [64] 68 (((decide (C=D))&&(((a5.held.length:Nat) : Int)==((a6.held.length:Nat) : Int)))) (fun K b7=>?_) ?_
 refine bl 64 ((decide (C=D))) (fun E=>?_) (fun E=>?_)
 have cc:=of_decide_eq_true E
 exact Pl 4<|ce b7 (((a5.held.length:Nat) : Int)==((a6.held.length:Nat) : Int)) (by rw[E];rfl)
 have cc:=of_decide_eq_false E
 exact Pl 4<|ce b7 false (by rw[E];rfl)
 refine Pl 1<|nt<|rt<|rr (.bool ((decide (C=D))&&(((a5.held.length:Nat) : Int)==((a6.held.length:Nat) : Int))))<|?_
 have hs:((decide (C=D))&&(((a5.held.length:Nat) : Int)==((a6.held.length:Nat) : Int)))=true:=by have z:=eH Q1 Q2 (XS.zero 2 1) trivial (a1.trans a2.symm);rw[b5,b6] at z;injection z with z1 z2;rw[z1,z2];simp
 rw[hs]
 exact⟨rfl,(aE aY (aE aB (aE aC ca)))⟩
 refine bB<|sg<|Pl 1<|L0<|Oc<|gH (c8 (RdPn.old (ew.n hA) a) a.size (by have y:=(dn (by assumption)).1;omega)) fun f F b8 G dP dQ cd=>Pl 1<|ng<|Pl 1<|?_
 have g:=aE a cd
 refine L0<|Oc<|gH (c8 (RdPn.old (ew.n hA) g) g.size (by have y:=(dn (by assumption)).1;omega)) fun h H cf I dR dT aD=>Pl 1<|nt<|sq<|sg<|Pl 1<|nt<|bk<|?_
 obtain⟨hf1,hf2⟩:=dn s
 refine fR (fun x=>[(2,.slice A ps.length cpA),(6,.bool false),(7,.bool true),(9,.int .i64 1),(10,.int .i64 1),(11,.slice f ps.length F),(12,.slice h ps.length H),(13,.int .i64 ((x.1:Nat) : Int))]) (fun(x:Nat × List Pc × List Pc) w'=>au [] w w'∧cf.heap.size≤w'.heap.size∧ci w.heap.size b.heap.size w' (.slice f ps.length F) x.2.1∧ci w.heap.size b8.heap.size w' (.slice h ps.length H) x.2.2∧(x.1≤ps.length)∧(x.2.1.length=ps.length)∧(x.2.1.map Pc.bytes=ps.map Pc.bytes)∧(x.2.2.length=ps.length)∧(x.2.2.map Pc.bytes=ps.map Pc.bytes)) (fun x=>ps.length-x.1) (0,ps,ps) ⟨(aE g aD),lr,(am G aD (fun x hx=>ax) (eD.upd aD (fun x hx=>by cases hx))),I,(by(try dsimp only);omega),rfl,rfl,rfl,rfl⟩ ?_
 rintro⟨k,Q1,Q2⟩ b9 ⟨ba,cg,ch,cj,ck,cl,cm,cn,co⟩
 refine fz [(2,.slice A ps.length cpA),(6,.bool false),(7,.bool true),(9,.int .i64 1),(10,.int .i64 1),(11,.slice f ps.length F),(12,.slice h ps.length H),(13,.int .i64 ((k:Nat) : Int))] ?_
 have aF:ci w.heap.size b.heap.size b9 (.slice f ps.length F) Q1:=ch
 have bb:ci w.heap.size b8.heap.size b9 (.slice h ps.length H) Q2:=cj
 have dU:k≤ps.length:=ck
 have bc:Q1.length=ps.length:=cl
 have a7:Q1.map Pc.bytes=ps.map Pc.bytes:=cm
 have bd:Q2.length=ps.length:=cn
 have a8:Q2.map Pc.bytes=ps.map Pc.bytes:=co
 refine sq<|sg<|Pl 4<|nt<|cb ((decide (((k:Nat) : Int)<((ps.length:Nat) : Int)))) (fun aG=>?_) (fun aG=>?_)
 have cp:=of_decide_eq_true aG
 refine bB<|sq<|bk<|sg<|Pl 2<|jA (ew.elt (ci.any aF) k (by omega)) fun dV dW dX dY e0 e1 e2 be e3 e4 e5 e6=>L0<|fq 2 ps.length k be (by omega)<|Pl 1<|L0<|jX aF a.size be (j:=k) (by omega) false fun e7 cq a9=>nt<|go<|?_
 refine Pl 2<|?_
 have bf:=am bb a9 (fun x hx=>(aK ((ep I G lr) x hx) ax)) (eD.upd a9 (ap (fun x hx=>Nat.le_trans a.size (cS G x hx)) av))
 refine jA (ew.elt (ci.any bf) k (by omega)) fun e8 e9 ea eb ec ed ee bh ef eg eh ei=>L0<|fq 2 ps.length k bh (by omega)<|Pl 1<|L0<|jX bf g.size bh (j:=k) (by omega) true fun ej cr aa=>nl<|bn<|tn<|go<|Pl 1<|L0<|Oi (((k:Nat) : Int)+1)<|Pl 1<|nl<|?_
 exact dZ ((k+1),(Q1.set k (Pc.mk (Q1.getD k Pc.z).bytes false)),(Q2.set k (Pc.mk (Q2.getD k Pc.z).bytes true))) ⟨(ut ba (ut (au.mono (S':=(ob f++(ob h++[]))) a9 (ap il av)) aa (ap il av)) (ap (bt G a.size) (ap (bt I g.size) av))),(le (le cg a9.size) aa.size),(am cq aa (fun x hx=>(aK ((fO G lr I) x hx) ax)) (eD.upd aa (ap (fun x hx=>Nat.le_trans g.size (cS I x hx)) av))),cr,(by(try dsimp only);omega),(by(try dsimp only);exact(bP bc a7).1),(by(try dsimp only);exact(bP bc a7).2),(by(try dsimp only);exact(bP bd a8).1),(by(try dsimp only);exact(bP bd a8).2)⟩ (by omega)
 have cp:=of_decide_eq_false aG
 refine xt<|tx<|tx<|bx<|tn<|sg<|Pl 3<|?_
 refine pr (XS.run (XS.zero 1 1) Q1) fun ab J bi=>?_
 refine L0<|Oc (args:=#[.int .i64 1,.int .i64 1,.slice f ps.length F])<|gH (cL bi (show 1=0∨1=1∨1=2 by decide) (show 1=0∨1=1 by decide) (ci.any aF) (by omega) (by rw[dS a7];omega)) fun ek el em cs eo eq aI=>Pl 5<|ng<|Pl 3<|?_
 refine pr (XS.run (XS.zero 1 1) Q2) fun ac L bj=>?_
 refine L0<|Oc (args:=#[.int .i64 1,.int .i64 1,.slice h ps.length H])<|gH (cL bj (show 1=0∨1=1∨1=2 by decide) (show 1=0∨1=1 by decide) (ci.any (am bb aI (fun x hx=>ax) (eD.upd aI (fun x hx=>by cases hx)))) (by omega) (by rw[dS a8];omega)) fun er es et ct eu ev aJ=>Pl 5<|ng<|Pl 4<|?_
 refine L1<|Oc<|m1 (f5 (xs:=J) (ys:=L) ((am cs aJ (fun x hx=>ax) (j4.upd aJ az))).rd (ct).rd) fun ex cv=>Pl 2<|cu 4 [64] 68 (((decide (J=L))&&(((ab.held.length:Nat) : Int)==((ac.held.length:Nat) : Int)))) (fun K bm=>?_) ?_
 refine bl 64 ((decide (J=L))) (fun M=>?_) (fun M=>?_)
 have cw:=of_decide_eq_true M
 exact Pl 4<|ce bm (((ab.held.length:Nat) : Int)==((ac.held.length:Nat) : Int)) (by rw[M];rfl)
 have cw:=of_decide_eq_false M
 exact Pl 4<|ce bm false (by rw[M];rfl)
 refine Pl 1<|nt<|rt<|rr (.bool ((decide (J=L))&&(((ab.held.length:Nat) : Int)==((ac.held.length:Nat) : Int))))<|?_
 have hs:((decide (J=L))&&(((ab.held.length:Nat) : Int)==((ac.held.length:Nat) : Int)))=true:=by have z:=eH Q1 Q2 (XS.zero 1 1) trivial (a7.trans a8.symm);rw[bi,bj] at z;injection z with z1 z2;rw[z1,z2];simp
 rw[hs]
 exact⟨rfl,(aE ba (aE aI (aE aJ cv)))⟩
 refine bB<|sg<|Pl 1<|nt<|sq<|sg<|Pl 1<|nt<|cb (net) (fun cx=>?_) (fun cx=>?_)
 refine go<|Pl 1<|ng<|Pl 1<|L0<|Oc<|gH (c8 (RdPn.old (ew.n hA) a) a.size (by have y:=(dn (by assumption)).1;omega)) fun i N bo O ez eA cy=>Pl 1<|ng<|Pl 1<|?_
 have l:=aE a cy
 refine L0<|Oc<|gH (c8 (RdPn.old (ew.n hA) l) l.size (by have y:=(dn (by assumption)).1;omega)) fun m P cz Q eB eC aL=>Pl 1<|nt<|sq<|sg<|Pl 1<|nt<|bk<|?_
 obtain⟨hf1,hf2⟩:=dn s
 refine fR (fun x=>[(2,.slice A ps.length cpA),(6,.bool false),(7,.bool true),(9,.int .i64 0),(10,.int .i64 2),(11,.slice i ps.length N),(12,.slice m ps.length P),(13,.int .i64 ((x.1:Nat) : Int))]) (fun(x:Nat × List Pc × List Pc) w'=>au [] w w'∧cz.heap.size≤w'.heap.size∧ci w.heap.size b.heap.size w' (.slice i ps.length N) x.2.1∧ci w.heap.size bo.heap.size w' (.slice m ps.length P) x.2.2∧(x.1≤ps.length)∧(x.2.1.length=ps.length)∧(x.2.1.map Pc.bytes=ps.map Pc.bytes)∧(x.2.2.length=ps.length)∧(x.2.2.map Pc.bytes=ps.map Pc.bytes)) (fun x=>ps.length-x.1) (0,ps,ps) ⟨(aE l aL),lr,(am O aL (fun x hx=>ax) (eD.upd aL (fun x hx=>by cases hx))),Q,(by(try dsimp only);omega),rfl,rfl,rfl,rfl⟩ ?_
 rintro⟨k,Q1,Q2⟩ bp ⟨bq,cA,cB,cC,cD,cE,cF,cG,cH⟩
 refine fz [(2,.slice A ps.length cpA),(6,.bool false),(7,.bool true),(9,.int .i64 0),(10,.int .i64 2),(11,.slice i ps.length N),(12,.slice m ps.length P),(13,.int .i64 ((k:Nat) : Int))] ?_
 have aM:ci w.heap.size b.heap.size bp (.slice i ps.length N) Q1:=cB
 have br:ci w.heap.size bo.heap.size bp (.slice m ps.length P) Q2:=cC
 have eE:k≤ps.length:=cD
 have bs:Q1.length=ps.length:=cE
 have ad:Q1.map Pc.bytes=ps.map Pc.bytes:=cF
 have bu:Q2.length=ps.length:=cG
 have ae:Q2.map Pc.bytes=ps.map Pc.bytes:=cH
 refine sq<|sg<|Pl 4<|nt<|cb ((decide (((k:Nat) : Int)<((ps.length:Nat) : Int)))) (fun aN=>?_) (fun aN=>?_)
 have cI:=of_decide_eq_true aN
 refine bB<|sq<|bk<|sg<|Pl 2<|jA (ew.elt (ci.any aM) k (by omega)) fun eF eG eI eJ eK eL eM bv eN eO eP eQ=>L0<|fq 2 ps.length k bv (by omega)<|Pl 1<|L0<|jX aM a.size bv (j:=k) (by omega) false fun eR cJ af=>nt<|go<|?_
 refine Pl 2<|?_
 have bw:=am br af (fun x hx=>(aK ((ep Q O lr) x hx) ax)) (eD.upd af (ap (fun x hx=>Nat.le_trans a.size (cS O x hx)) av))
 refine jA (ew.elt (ci.any bw) k (by omega)) fun eS eT eU eV eW eX eY bz eZ f0 f1 f2=>L0<|fq 2 ps.length k bz (by omega)<|Pl 1<|L0<|jX bw l.size bz (j:=k) (by omega) true fun f3 cK ag=>nl<|bn<|tn<|go<|Pl 1<|L0<|Oi (((k:Nat) : Int)+1)<|Pl 1<|nl<|?_
 exact dZ ((k+1),(Q1.set k (Pc.mk (Q1.getD k Pc.z).bytes false)),(Q2.set k (Pc.mk (Q2.getD k Pc.z).bytes true))) ⟨(ut bq (ut (au.mono (S':=(ob i++(ob m++[]))) af (ap il av)) ag (ap il av)) (ap (bt O a.size) (ap (bt Q l.size) av))),(le (le cA af.size) ag.size),(am cJ ag (fun x hx=>(aK ((fO O lr Q) x hx) ax)) (eD.upd ag (ap (fun x hx=>Nat.le_trans l.size (cS Q x hx)) av))),cK,(by(try dsimp only);omega),(by(try dsimp only);exact(bP bs ad).1),(by(try dsimp only);exact(bP bs ad).2),(by(try dsimp only);exact(bP bu ae).1),(by(try dsimp only);exact(bP bu ae).2)⟩ (by omega)
 have cI:=of_decide_eq_false aN
 refine xt<|tx<|tx<|bx<|tn<|sg<|Pl 3<|?_
 refine pr (XS.run (XS.zero 2 0) Q1) fun ah R bA=>?_
 refine L0<|Oc (args:=#[.int .i64 2,.int .i64 0,.slice i ps.length N])<|gH (cL bA (show 2=0∨2=1∨2=2 by decide) (show 0=0∨0=1 by decide) (ci.any aM) (by omega) (by rw[dS ad];omega)) fun f4 f6 f7 cM f8 f9 aO=>Pl 5<|ng<|Pl 3<|?_
 refine pr (XS.run (XS.zero 2 0) Q2) fun ai S bC=>?_
 refine L0<|Oc (args:=#[.int .i64 2,.int .i64 0,.slice m ps.length P])<|gH (cL bC (show 2=0∨2=1∨2=2 by decide) (show 0=0∨0=1 by decide) (ci.any (am br aO (fun x hx=>ax) (eD.upd aO (fun x hx=>by cases hx)))) (by omega) (by rw[dS ae];omega)) fun fa fb fc cN fd fe aP=>Pl 5<|ng<|Pl 4<|?_
 refine L1<|Oc<|m1 (f5 (xs:=R) (ys:=S) ((am cM aP (fun x hx=>ax) (j4.upd aP az))).rd (cN).rd) fun ff cO=>Pl 2<|cu 4 [64] 68 (((decide (R=S))&&(((ah.held.length:Nat) : Int)==((ai.held.length:Nat) : Int)))) (fun K bD=>?_) ?_
 refine bl 64 ((decide (R=S))) (fun T=>?_) (fun T=>?_)
 have cP:=of_decide_eq_true T
 exact Pl 4<|ce bD (((ah.held.length:Nat) : Int)==((ai.held.length:Nat) : Int)) (by rw[T];rfl)
 have cP:=of_decide_eq_false T
 exact Pl 4<|ce bD false (by rw[T];rfl)
 refine Pl 1<|nt<|rt<|rr (.bool ((decide (R=S))&&(((ah.held.length:Nat) : Int)==((ai.held.length:Nat) : Int))))<|?_
 have hs:((decide (R=S))&&(((ah.held.length:Nat) : Int)==((ai.held.length:Nat) : Int)))=true:=by have z:=eH Q1 Q2 (XS.zero 2 0) trivial (ad.trans ae.symm);rw[bA,bC] at z;injection z with z1 z2;rw[z1,z2];simp
 rw[hs]
 exact⟨rfl,(aE bq (aE aO (aE aP cO)))⟩
 refine bB<|sg<|Pl 1<|L0<|Oc<|gH (c8 (RdPn.old (ew.n hA) a) a.size (by have y:=(dn (by assumption)).1;omega)) fun o U bE V fg fh cQ=>Pl 1<|ng<|Pl 1<|?_
 have q:=aE a cQ
 refine L0<|Oc<|gH (c8 (RdPn.old (ew.n hA) q) q.size (by have y:=(dn (by assumption)).1;omega)) fun r W cR X fi fj aQ=>Pl 1<|nt<|sq<|sg<|Pl 1<|nt<|bk<|?_
 obtain⟨hf1,hf2⟩:=dn s
 refine fR (fun x=>[(2,.slice A ps.length cpA),(6,.bool false),(7,.bool true),(9,.int .i64 0),(10,.int .i64 1),(11,.slice o ps.length U),(12,.slice r ps.length W),(13,.int .i64 ((x.1:Nat) : Int))]) (fun(x:Nat × List Pc × List Pc) w'=>au [] w w'∧cR.heap.size≤w'.heap.size∧ci w.heap.size b.heap.size w' (.slice o ps.length U) x.2.1∧ci w.heap.size bE.heap.size w' (.slice r ps.length W) x.2.2∧(x.1≤ps.length)∧(x.2.1.length=ps.length)∧(x.2.1.map Pc.bytes=ps.map Pc.bytes)∧(x.2.2.length=ps.length)∧(x.2.2.map Pc.bytes=ps.map Pc.bytes)) (fun x=>ps.length-x.1) (0,ps,ps) ⟨(aE q aQ),lr,(am V aQ (fun x hx=>ax) (eD.upd aQ (fun x hx=>by cases hx))),X,(by(try dsimp only);omega),rfl,rfl,rfl,rfl⟩ ?_
 rintro⟨k,Q1,Q2⟩ bF ⟨bG,cT,cU,cV,cW,cX,cY,cZ,d0⟩
 refine fz [(2,.slice A ps.length cpA),(6,.bool false),(7,.bool true),(9,.int .i64 0),(10,.int .i64 1),(11,.slice o ps.length U),(12,.slice r ps.length W),(13,.int .i64 ((k:Nat) : Int))] ?_
 have aR:ci w.heap.size b.heap.size bF (.slice o ps.length U) Q1:=cU
 have bH:ci w.heap.size bE.heap.size bF (.slice r ps.length W) Q2:=cV
 have fk:k≤ps.length:=cW
 have bI:Q1.length=ps.length:=cX
 have aj:Q1.map Pc.bytes=ps.map Pc.bytes:=cY
 have bJ:Q2.length=ps.length:=cZ
 have ak:Q2.map Pc.bytes=ps.map Pc.bytes:=d0
 refine sq<|sg<|Pl 4<|nt<|cb ((decide (((k:Nat) : Int)<((ps.length:Nat) : Int)))) (fun aS=>?_) (fun aS=>?_)
 have d1:=of_decide_eq_true aS
 refine bB<|sq<|bk<|sg<|Pl 2<|jA (ew.elt (ci.any aR) k (by omega)) fun fl fm fn fo fp fr fs bK ft fu fv fw=>L0<|fq 2 ps.length k bK (by omega)<|Pl 1<|L0<|jX aR a.size bK (j:=k) (by omega) false fun fx d2 al=>nt<|go<|?_
 refine Pl 2<|?_
 have bL:=am bH al (fun x hx=>(aK ((ep X V lr) x hx) ax)) (eD.upd al (ap (fun x hx=>Nat.le_trans a.size (cS V x hx)) av))
 refine jA (ew.elt (ci.any bL) k (by omega)) fun fy fA fB fC fD fE fF bM fG fH fI fJ=>L0<|fq 2 ps.length k bM (by omega)<|Pl 1<|L0<|jX bL q.size bM (j:=k) (by omega) true fun fK d3 an=>nl<|bn<|tn<|go<|Pl 1<|L0<|Oi (((k:Nat) : Int)+1)<|Pl 1<|nl<|?_
 exact dZ ((k+1),(Q1.set k (Pc.mk (Q1.getD k Pc.z).bytes false)),(Q2.set k (Pc.mk (Q2.getD k Pc.z).bytes true))) ⟨(ut bG (ut (au.mono (S':=(ob o++(ob r++[]))) al (ap il av)) an (ap il av)) (ap (bt V a.size) (ap (bt X q.size) av))),(le (le cT al.size) an.size),(am d2 an (fun x hx=>(aK ((fO V lr X) x hx) ax)) (eD.upd an (ap (fun x hx=>Nat.le_trans q.size (cS X x hx)) av))),d3,(by(try dsimp only);omega),(by(try dsimp only);exact(bP bI aj).1),(by(try dsimp only);exact(bP bI aj).2),(by(try dsimp only);exact(bP bJ ak).1),(by(try dsimp only);exact(bP bJ ak).2)⟩ (by omega)
 have d1:=of_decide_eq_false aS
 refine xt<|tx<|tx<|bx<|tn<|sg<|Pl 3<|?_
 refine pr (XS.run (XS.zero 1 0) Q1) fun ao Y bN=>?_
 refine L0<|Oc (args:=#[.int .i64 1,.int .i64 0,.slice o ps.length U])<|gH (cL bN (show 1=0∨1=1∨1=2 by decide) (show 0=0∨0=1 by decide) (ci.any aR) (by omega) (by rw[dS aj];omega)) fun fL fM fN d4 fP fQ aT=>Pl 5<|ng<|Pl 3<|?_
 refine pr (XS.run (XS.zero 1 0) Q2) fun aq Z bO=>?_
 refine L0<|Oc (args:=#[.int .i64 1,.int .i64 0,.slice r ps.length W])<|gH (cL bO (show 1=0∨1=1∨1=2 by decide) (show 0=0∨0=1 by decide) (ci.any (am bH aT (fun x hx=>ax) (eD.upd aT (fun x hx=>by cases hx)))) (by omega) (by rw[dS ak];omega)) fun fS fT fU d5 fV fW aU=>Pl 5<|ng<|Pl 4<|?_
 refine L1<|Oc<|m1 (f5 (xs:=Y) (ys:=Z) ((am d4 aU (fun x hx=>ax) (j4.upd aU az))).rd (d5).rd) fun fX d6=>Pl 2<|cu 4 [64] 68 (((decide (Y=Z))&&(((ao.held.length:Nat) : Int)==((aq.held.length:Nat) : Int)))) (fun K bQ=>?_) ?_
 refine bl 64 ((decide (Y=Z))) (fun a0=>?_) (fun a0=>?_)
 have d7:=of_decide_eq_true a0
 exact Pl 4<|ce bQ (((ao.held.length:Nat) : Int)==((aq.held.length:Nat) : Int)) (by rw[a0];rfl)
 have d7:=of_decide_eq_false a0
 exact Pl 4<|ce bQ false (by rw[a0];rfl)
 refine Pl 1<|nt<|rt<|rr (.bool ((decide (Y=Z))&&(((ao.held.length:Nat) : Int)==((aq.held.length:Nat) : Int))))<|?_
 have hs:((decide (Y=Z))&&(((ao.held.length:Nat) : Int)==((aq.held.length:Nat) : Int)))=true:=by have z:=eH Q1 Q2 (XS.zero 1 0) trivial (aj.trans ak.symm);rw[bN,bO] at z;injection z with z1 z2;rw[z1,z2];simp
 rw[hs]
 exact⟨rfl,(aE bG (aE aT (aE aU d6)))⟩
theorem gt{w:World}{net ans:Bool}{mA:Bool}{v:Value}{ps:List Pc}(hA:ew mA w v ps)(hpb:∀ p,p∈ps→p.bytes.length≤140737488355328)(hpl:ps.length≤4398046511104) : Calls Tryz.prog 8 #[.bool net,.bool ans,v] w (bg (.bool true) w):=by
  obtain⟨A0,cp0,rfl,_,_⟩:=hA.shape
  exact gM hA hpb hpl
open Go.RowKit
section
variable {H:Type}{enc:TypeId × Value→H}{P:Program}{w:World}{base:Nat}{spare:Nat→Bool}{held:Bool}
theorem jK(b off:Nat)(sp:Option Nat)(n:Nat)(h:sp=none) : (⟨b,off,sp⟩ : Addr).add n=⟨b,off+n,none⟩:=fp b off n sp h
theorem nu{b off:Nat}{sp:Option Nat}{v:Value}(h:w.cell? ⟨b,off,sp⟩=some v) : sp=none:=by
  cases sp with
  | none=>rfl
  | some s =>
    unfold World.cell? at h
    simp at h
    split at h<;>cases h
theorem jL{α:Type}{Pd:DataW H→Prop}{R:World→α→List Value→Prop}{t e:TypeId}{sz fuel:Nat}{cs:List Value}{x:DataW H × List MemPlace}(ht:P.underlying t=some (.slice e))(hsz:P.cellsOf e=sz)(hp:0<sz)
    (hel:∀ n cs' y,cs'.length=sz→DataW.trod enc P w base spare held n e cs'=some y→Pd y.1→∃ x,R w x cs') (hP:∀ elems spare,x.1 = .slice elems spare→∀ d,d∈elems→Pd d) (h:DataW.trod enc P w base spare held fuel t cs=some x) : ∃ v xs,cs=[v]∧aH false e sz R w v xs:=by
  rcases Go.Deep.open_slice ht h with⟨rfl,_⟩|⟨a,len,cap,m,n,D,Pl,rfl,_,hl,hm,hmm,hxe,hx⟩
  · exact⟨_,[],rfl,aH.nil ..⟩
  have hlm:len≤m:=by rw[hmm];split<;>omega
  have key:∀ i:Fin len,∃ y:α × List Value,w.cells? base (a.add (i*sz)) sz=some y.2∧y.2.length=sz∧R w y.1 y.2:=fun i=>by
    obtain⟨cs',h1,h2⟩:=hx i (by omega)
    rw[hsz] at h1
    obtain⟨_,hlen,_⟩:=World.cells?_some h1
    obtain⟨y,hy⟩:=hel n cs' _ hlen h2 (hP _ _ (by rw[hxe]) _ (List.mem_map.2 ⟨i.1,List.mem_range.2 i.2,rfl⟩))
    exact⟨(y,cs'),h1,hlen,hy⟩
  obtain⟨f,hf⟩:=Classical.axiomOfChoice key
  refine⟨_,List.ofFn fun i=>(f i).1,rfl,some a,cap,by simp,by simpa using hl,hm,(fun h=>by cases h),fun hpos=>?_⟩
  have hpos':0<len:=by simpa using hpos
  obtain⟨b,off,sp⟩:=a
  have hsp:sp=none:=by
    obtain⟨h1,h2,_⟩:=hf ⟨0,hpos'⟩
    obtain⟨_,_,h3⟩:=World.cells?_some h1
    have h4:=h3 0 hp
    rw[List.getElem?_eq_getElem (by omega)] at h4
    cases sp with
    | none=>rfl
    | some s =>
      simp[Addr.add] at h4
      exact nu h4
  subst hsp
  have hc:∀ i:Fin len,∀ k u,(f i).2[k]? = some u→w.cell? ⟨b,off+i*sz+k,none⟩=some u:=fun i k u hu=>by
    obtain⟨h1,h2,_⟩:=hf i
    obtain⟨_,_,h3⟩:=World.cells?_some h1
    have hk:k<sz:=by have:=(List.getElem?_eq_some_iff.1 hu).1;omega
    have h4:=h3 k hk
    rw[jK _ _ _ _ rfl,jK _ _ _ _ rfl] at h4
    rw[h4,hu]
  have h0:∃ u,w.cell? ⟨b,off+0*sz+0,none⟩=some u:=by
    obtain⟨_,h2,_⟩:=hf ⟨0,hpos'⟩
    exact⟨_,hc ⟨0,hpos'⟩ 0 _ (List.getElem?_eq_getElem (by omega))⟩
  obtain⟨u,hu⟩:=h0
  unfold World.cell? at hu
  split at hu
  · rename_i cells t' fr hb
    refine⟨b,off,cells,t',fr,rfl,hb,fun h=>(by cases h),fun j y hj=>?_⟩
    have hjl:j<len:=by have:=(List.getElem?_eq_some_iff.1 hj).1;simpa using this
    have hy:(f ⟨j,hjl⟩).1=y:=by
      rw[List.getElem?_ofFn] at hj
      simpa [hjl] using hj
    obtain⟨_,h2,h3⟩:=hf ⟨j,hjl⟩
    refine⟨(f ⟨j,hjl⟩).2,h2,by rw[← hy];exact h3,fun i u hi=>?_⟩
    have:=hc ⟨j,hjl⟩ i u hi
    rw[bF hb] at this
    exact this
  · cases hu
theorem r8{α:Type}{R:World→α→List Value→Prop}{t e:TypeId}{sz fuel:Nat}{cs:List Value}{x:DataW H × List MemPlace}(ht:P.underlying t=some (.slice e))(hsz:P.cellsOf e=sz)(hp:0<sz)
    (hel:∀ n cs' y,cs'.length=sz→DataW.trod enc P w base spare held n e cs'=some y→∃ x,R w x cs') (h:DataW.trod enc P w base spare held fuel t cs=some x) : ∃ v xs,cs=[v]∧aH false e sz R w v xs :=
  jL (Pd:=fun _=>True) ht hsz hp (fun n cs' y h1 h2 _=>hel n cs' y h1 h2) (fun _ _ _ _ _=>trivial) h
end
section
variable {H:Type}{enc:TypeId × Value→H}{w:World}{base:Nat}{spare:Nat→Bool}{held:Bool}{n:Nat}{y:DataW H × List MemPlace}
theorem tp{cs:List Value}(h:DataW.trod enc Tryz.prog w base spare held n 5 cs=some y) : ∃ x,kQ w x cs:=by
  obtain⟨k,rfl,_,hw⟩:=DataW.trod_int Tryz.underlying5 h
  exact⟨k,rfl,nN hw⟩
theorem ru{cs:List Value}(h:DataW.trod enc Tryz.prog w base spare held n 4 cs=some y) : ∃ x,ms w x cs:=by
  obtain⟨k,rfl,_⟩:=DataW.trod_bool Tryz.underlying4 h
  exact⟨k,rfl⟩
theorem tw{cs:List Value}(h:DataW.trod enc Tryz.prog w base spare held n 27 cs=some y) : ∃ v xs,cs=[v]∧aM false w v xs:=r8 Tryz.underlying27 (by kernel_rfl) (by decide) (fun _ _ _ _ h=>tp h) h
end
open Go.RowKit
theorem tt{cs:List Value}{o:Nat}{v:Value}(h:(cs.drop o).take 1=[v]) : cs.drop o=v :: cs.drop (o+1):=by
  cases hd:cs.drop o with
  | nil=>rw[hd] at h;cases h
  | cons a l =>
    rw[hd] at h
    have h1:a=v:=by simpa using h
    rw[h1,← List.drop_drop,hd]
    rfl
theorem oE{cs:List Value}{n:Nat}(h:cs.length=n) : cs.drop n=[]:=by rw[← h];simp
section
variable {H:Type}{enc:TypeId × Value→H}{w:World}{base:Nat}{spare:Nat→Bool}{held:Bool}{n:Nat}{y:DataW H × List MemPlace}
end
end Go.Proofs.YtpglhicfhppaiaaGreat
namespace Go.Proofs.YtpglhicfhppaiaaGreat
open Go.WideShapes
def vC (w:World)(b:List Int)(cs:List Value) : Prop:=∃ v,cs=[v]∧aM false w v b∧b.length≤140737488355328
section
variable {H:Type}{enc:TypeId × Value→H}{w:World}{base:Nat}{spare:Nat→Bool}{held:Bool}{n:Nat}{y:DataW H × List MemPlace}
theorem s9{cs:List Value}(h:DataW.trod enc Tryz.prog w base spare held n 27 cs=some y)(hp:∀ e2 s2,y.1 = .slice e2 s2→e2.length≤140737488355328) : ∃ b,vC w b cs:=by
  obtain⟨v,xs,hc,hr⟩:=tw h
  refine⟨xs,v,hc,hr,?_⟩
  obtain⟨A,c,hv,_,_⟩:=hr.shape
  rcases DataW.trod_slice Tryz.underlying27 h with⟨h1,_⟩|⟨a,len,cap,elems,rest,m,_,h1,h2,_,_,_,h3,_⟩
  · rw[hc] at h1
    simp only[List.cons.injEq,and_true] at h1
    rw[h1] at hv
    injection hv with _ h4 _
    omega
  · rw[hc] at h1
    simp only[List.cons.injEq,and_true] at h1
    rw[h1] at hv
    injection hv with _ h4 _
    have:=hp _ _ (by rw[h2])
    rw[List.length_map] at this
    omega
end
theorem eJ{H:Type}{P:Program}{e:TypeId}{d:DataW H}{k:Nat}(hk:k∈d.weights P e) : ∀ {l:List (DataW H)},d∈l→k∈DataW.weightsAll P e l
  | [],h=>by cases h
  | x :: r,h=>by
    simp only[DataW.weightsAll,List.mem_append]
    rcases List.mem_cons.1 h with rfl|h
    · exact .inl hk
    · exact .inr (eJ hk h)
end Go.Proofs.YtpglhicfhppaiaaGreat
namespace Go.Proofs.YtpglhicfhppaiaaGreat
open Go.WideShapes
theorem aH.ety{α:Type}{e e':TypeId}{sz:Nat}{R:World→α→List Value→Prop}{w:World}{v:Value}{xs:List α}(h:aH false e sz R w v xs) : aH false e' sz R w v xs:=by
  obtain⟨A,c,hv,h1,h2,h0,h3⟩:=h
  exact⟨A,c,hv,h1,h2,h0,fun hp=>by
    obtain⟨b,off,cells,t,fr,hA,hb,_,hx⟩:=h3 hp
    exact⟨b,off,cells,t,fr,hA,hb,(fun e=>by cases e),hx⟩⟩
def va (w:World)(p:Pc)(cs:List Value) : Prop:=∃ v,cs=[v,.bool p.tick]∧aM false w v p.bytes∧p.bytes.length≤140737488355328
section
variable {H:Type}{enc:TypeId × Value→H}{w:World}{base:Nat}{spare:Nat→Bool}{held:Bool}{n:Nat}{y:DataW H × List MemPlace}
theorem q6{cs:List Value}(h:DataW.trod enc Tryz.prog w base spare held n 52 cs=some y)(hp:∀ l,y.1 = .agg l→∀ e2 s2,l[0]? = some (.slice e2 s2)→e2.length≤140737488355328) : ∃ p,va w p cs:=by
  obtain⟨xs,m,rfl,hy,hlen,hxs,hf⟩:=DataW.trod_struct Tryz.underlying52 h
  rw[show Tryz.prog.cellsOf 52=2 from by kernel_rfl] at hlen
  replace hxs:xs.length=2:=hxs.trans (by kernel_rfl)
  obtain⟨y0,g0⟩ : ∃ y,xs[0]? = some y:=⟨_,List.getElem?_eq_getElem (show 0<xs.length by omega)⟩
  have f0:DataW.trod enc Tryz.prog w base spare held m 27 ((cs.drop 0).take (Tryz.prog.cellsOf 27))=xs[0]?:=hf 0 _ rfl
  rw[g0] at f0
  rw[show Tryz.prog.cellsOf 27=1 from by kernel_rfl] at f0
  obtain⟨b,v,e0,r0,r1⟩:=s9 f0 fun e2 s2 he=>hp _ (by rw[hy]) e2 s2 (by rw[List.getElem?_map,g0];exact congrArg some he)
  obtain⟨y1,g1⟩ : ∃ y,xs[1]? = some y:=⟨_,List.getElem?_eq_getElem (show 1<xs.length by omega)⟩
  have f1:DataW.trod enc Tryz.prog w base spare held m 4 ((cs.drop 1).take (Tryz.prog.cellsOf 4))=xs[1]?:=hf 1 _ rfl
  rw[g1] at f1
  rw[show Tryz.prog.cellsOf 4=1 from by kernel_rfl] at f1
  obtain⟨t,e1⟩:=ru f1
  have e1:(cs.drop 1).take 1=[.bool t]:=e1
  have hcs:cs=[v,.bool t]:=by
    show cs.drop 0=_
    rw[tt e0,tt e1,oE hlen]
  exact⟨⟨b,t⟩,v,hcs,r0,r1⟩
theorem r5{cs:List Value}(h:DataW.trod enc Tryz.prog w base spare held n 48 cs=some y)(hp:∀ elems sp,y.1 = .slice elems sp→(∀ d,d∈elems→∀ l,d = .agg l→∀ e2 s2,l[0]? = some (.slice e2 s2)→e2.length≤140737488355328)∧elems.length≤4398046511104) :
    ∃ v ps,cs=[v]∧ew false w v ps∧(∀ p,p∈ps→p.bytes.length≤140737488355328)∧ps.length≤4398046511104:=by
  obtain⟨v,xs,hc,hr⟩:=jL (R:=va) (sz:=2) (Pd:=fun d=>∀ l,d = .agg l→∀ e2 s2,l[0]? = some (.slice e2 s2)→e2.length≤140737488355328) Tryz.underlying48 (by kernel_rfl) (by decide) (fun _ _ _ _ h hp=>q6 h hp) (fun elems sp he=>(hp elems sp he).1) h
  refine⟨v,xs,hc,aH.ety (aH.any (R':=vc false) hr (fun _ _ ⟨v,h1,h2,_⟩=>⟨v,h1,h2⟩)),fun x hx=>?_,?_⟩
  · obtain⟨A,c,rfl,_,_⟩:=hr.shape
    obtain⟨j,hj⟩:=List.getElem?_of_mem hx
    have hl:=(List.getElem?_eq_some_iff.1 hj).1
    obtain⟨_,_,_,_,_,_,_,_,_,⟨_,_,_,h4⟩,_⟩:=aH.elt hr Pc.z j hl
    rw[List.getD_eq_getElem?_getD,hj] at h4
    exact h4
  · obtain⟨A,c,hv,_,_⟩:=hr.shape
    rcases DataW.trod_slice Tryz.underlying48 h with⟨h1,_⟩|⟨a,len,cap,elems,rest,m,_,h1,h2,_,_,_,h3,_⟩
    · rw[hc] at h1
      simp only[List.cons.injEq,and_true] at h1
      rw[h1] at hv
      injection hv with _ h4 _
      omega
    · rw[hc] at h1
      simp only[List.cons.injEq,and_true] at h1
      rw[h1] at hv
      injection hv with _ h4 _
      have:=(hp _ _ (by rw[h2])).2
      rw[List.length_map] at this
      omega
end
theorem rA{H:Type}{ts:List TypeId}{ds:List (DataW H)}(h:(DataW.weightsEach Tryz.prog ts ds).all (·≤reachBytes)=true){j:Nat}{d:DataW H}(ht:ts[j]? = some 48)(hd:ds[j]? = some d) :
    ∀ elems sp,d = .slice elems sp→(∀ d2,d2∈elems→∀ l,d2 = .agg l→∀ e2 s2,l[0]? = some (.slice e2 s2)→e2.length≤140737488355328)∧elems.length≤4398046511104:=by
  rintro elems sp rfl
  refine⟨?_,?_⟩
  · rintro d2 hm l rfl e2 s2 h3
    obtain⟨r,rfl⟩ : ∃ r,l = .slice e2 s2 :: r:=by
      cases l with
      | nil=>cases h3
      | cons x r=>exact⟨r,by rw[List.getElem?_cons_zero] at h3;injection h3 with h3;rw[h3]⟩
    have hw:(e2.length+s2.length)*Tryz.prog.bytesOf 5∈(DataW.slice elems sp).weights Tryz.prog 48:=by
      simp only[DataW.weights,Tryz.underlying48,List.mem_cons,List.mem_append]
      refine .inr (.inl (eJ ?_ hm))
      simp only[DataW.weights,Tryz.underlying52,List.map_cons,List.map_nil,DataW.weightsEach,List.mem_append]
      refine .inl ?_
      simp only[DataW.weights,Tryz.underlying27,List.mem_cons]
      exact .inl trivial
    have h2:=List.all_eq_true.1 h _ (DataW.weights_mem_each ht hd _ hw)
    have h3:(e2.length+s2.length)*Tryz.prog.bytesOf 5≤reachBytes:=by simpa using h2
    rw[show Tryz.prog.bytesOf 5=1 from by kernel_rfl] at h3
    have h4:reachBytes<2 ^ 47:=reachBytes_lt
    omega
  · have h2:=sized_slice h ht hd Tryz.underlying48
    rw[show Tryz.prog.bytesOf 52=32 from by kernel_rfl] at h2
    have h4:reachBytes<2 ^ 47:=reachBytes_lt
    omega
end Go.Proofs.YtpglhicfhppaiaaGreat
