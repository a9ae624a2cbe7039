/- Contracts of functions, part CStreamParts5. -/
import Derived.Test.YtpglhicfhppaiaaGreatCStreamParts1
import Derived.Test.YtpglhicfhppaiaaGreatCStreamParts2
import Derived.Test.YtpglhicfhppaiaaGreatCStreamParts3
import Derived.Test.YtpglhicfhppaiaaGreatCStreamParts4
import Derived.Deep.Slices
import Derived.ChangeArms
import Derived.WideShapes
import Derived.SizedLaws
set_option linter.unusedVariables false
set_option linter.unusedSimpArgs false
set_option maxRecDepth 100000
set_option maxHeartbeats 4000000
namespace Go.Proofs.YtpglhicfhppaiaaGreat
open Go.RowKit
deriving instance DecidableEq for Ev
theorem ir(A B:Ev) : (((A.e==B.e)&&((A.f.unit==B.f.unit)&&(A.f.tid==B.f.tid)))&&decide (A.f.msg=B.f.msg))=decide (A=B):=by
  rw[Bool.eq_iff_iff]
  simp only[Bool.and_eq_true,beq_iff_eq,decide_eq_true_eq]
  obtain⟨e,u,t,M⟩:=A
  obtain⟨e2,u2,t2,M2⟩:=B
  simp only[Ev.mk.injEq,cN.mk.injEq]
  constructor
  · rintro⟨⟨h1,h2,h3⟩,h4⟩;exact⟨h1,h2,h3,h4⟩
  · rintro⟨h1,h2,h3,h4⟩;exact⟨⟨h1,h2,h3⟩,h4⟩
theorem sF{xs ys:List Ev}{k:Nat}(hk:k<xs.length)(hl:xs.length=ys.length)(h:xs.take k=ys.take k)(he:xs.getD k (Ev.bad 0)=ys.getD k (Ev.bad 0)) : xs.take (k+1)=ys.take (k+1):=by
  exact pu hl hk h he
theorem s9{xs ys:List Ev}{k:Nat}(h:xs.take k=ys.take k)(h1:k=xs.length)(h2:xs.length=ys.length) : decide (xs=ys)=true:=by
  rw[List.take_of_length_le (by omega),List.take_of_length_le (by omega)] at h
  exact decide_eq_true h
theorem tH{xs ys:List Ev}(k:Nat)(h:decide (xs.getD k (Ev.bad 0)=ys.getD k (Ev.bad 0))=false) : decide (xs=ys)=false:=by
  rw[decide_eq_false_iff_not] at h ⊢
  exact fun e=>h (by rw[e])
theorem l6{m m':Bool}{A B:Ev}{sA sB:SL}{w:World}(hA:aX m w (og A.f.msg sA).toList A.f.msg)(hB:aX m' w (og B.f.msg sB).toList B.f.msg) : Calls Tryz.prog 45 #[.agg (kM A sA),.agg (kM B sB)] w (bi (.bool (decide (A=B))) w):=by
 refine en 28 Tryz.func45 rfl<|sg<|L0<|cS (kM ⟨A.e,A.f⟩ sA) fun s t u o p=>L0<|cS (kM ⟨B.e,B.f⟩ sB) fun v x y d i=>Pl 1<|ng<|Pl 1<|?_
 have g:=ub i o
 refine L0<|aU g 0<|Pl 1<|L0<|aU d 0<|Pl 2<|cu 8 [10] 18 (((A.e==B.e)&&((A.f.unit==B.f.unit)&&(A.f.tid==B.f.tid)))) (fun K j=>?_) ?_
 refine bl 10 ((A.e==B.e)) (fun a=>?_) (fun a=>?_)
 have q:=aB a
 exact Pl 2<|L1<|tI g 1 2<|Pl 2<|L1<|tI d 1 2<|L1<|fw (.bool ((A.f.unit==B.f.unit)&&(A.f.tid==B.f.tid))) (lf A.f.unit A.f.tid B.f.unit B.f.tid rfl (by kernel_rfl) (by kernel_rfl) rfl)<|Pl 1<|ce j ((A.f.unit==B.f.unit)&&(A.f.tid==B.f.tid)) (by rw[a];rfl)
 have q:=aH a
 exact Pl 8<|ce j false (by rw[a];rfl)
 refine Pl 1<|?_
 have c:=aG p i
 refine bl 19 (((A.e==B.e)&&((A.f.unit==B.f.unit)&&(A.f.tid==B.f.tid)))) (fun b=>?_) (fun b=>?_)
 have k:=(bQ b).1
 have h:=(bQ b).2
 have z:=aB k
 have l:=(bQ h).1
 have n:=(bQ h).2
 have q24bap:=aB l
 have q24bbp:=aB n
 refine Pl 2<|L1<|tI g 3 22<|Pl 2<|L1<|tI d 3 22<|?_
 refine L1<|Oc<|m1 (nV (aX.old hA c) (aX.old hB c)) fun C r=>Pl 2<|nt<|rt<|rr (.bool (decide (A.f.msg=B.f.msg)))<|?_
 have hs:(decide (A.f.msg=B.f.msg))=decide (A=B):=by rw[← ir];simp only[b,k,h,l,n,bs,if_true,if_false,decide_true,decide_false,Bool.true_and,Bool.false_and,Bool.and_true,Bool.and_false]
 rw[hs]
 exact⟨rfl,(aG c r)⟩
 refine Pl 9<|nt<|rt<|rr (.bool false)<|?_
 have hs:false=decide (A=B):=by rw[← ir];simp only[b,bs,if_true,if_false,decide_true,decide_false,Bool.true_and,Bool.false_and,Bool.and_true,Bool.and_false]
 rw[hs]
 exact⟨rfl,c⟩
theorem f5{m m':Bool}{A B:Option Addr}{c d:Nat}{xs ys:List Ev}{w:World}(h1:kK m w (.slice A xs.length c) xs)(h2:kK m' w (.slice B ys.length d) ys) : Calls Tryz.prog 28 #[.slice A xs.length c,.slice B ys.length d] w (bi (.bool (decide (xs=ys))) w):=by
 have hz1:=aI.len h1
 have hz2:=aI.len h2
 refine en 27 Tryz.func28 rfl<|sg<|Pl 1<|nt<|sq<|sg<|Pl 5<|nt<|cb ((((xs.length:Nat) : Int)!=((ys.length:Nat) : Int))) (fun l=>?_) (fun l=>?_)
 have q:=ay l
 refine sg<|Pl 1<|nt<|rt<|tr<|rr (.bool false)<|?_
 have hs:decide (xs=ys)=false:=decide_eq_false (fun e=>by rw[e] at q;omega)
 rw[hs]
 exact⟨rfl,(ax.refl [] _)⟩
 have q:=ag l
 refine bC<|sq<|sg<|Pl 1<|nt<|bk<|?_
 refine fR (fun x=>[(0,.slice A xs.length c),(1,.slice B ys.length d),(5,.int .i64 ((x:Nat) : Int))]) (fun(x:Nat) w'=>ax [] w w'∧(xs.take x=ys.take x)∧(x≤xs.length)) (fun x=>xs.length-x) 0 ⟨ax.refl _ _,rfl,(by(try dsimp only);omega)⟩ ?_
 rintro k Y ⟨r,C,D⟩
 refine ge [(0,.slice A xs.length c),(1,.slice B ys.length d),(5,.int .i64 ((k:Nat) : Int))] ?_
 have s:xs.take k=ys.take k:=C
 have Z:k≤xs.length:=D
 refine sq<|sg<|Pl 4<|nt<|cb ((decide (((k:Nat) : Int)<((xs.length:Nat) : Int)))) (fun n=>?_) (fun n=>?_)
 have E:=of_decide_eq_true n
 refine bC<|sq<|bk<|sq<|tN (kK.elt h1 k (by omega) (Ev.bad 0)) fun t F G H I a J K L M=>tN (kK.elt h2 k (by omega) (Ev.bad 0)) fun u N O P Q b R S T U=>Rg 10 (fun w'=>w'.heap[t]? = some (.cells G H I)∧w'.heap[u]? = some (.cells O P Q)) fun a0 V=>?_
 have i:=aG r V
 have v:=ub i K
 have y:=ub i S
 refine bg ⟨v,y⟩ fun h=>Rt 0 h<|Rt 1 h<|Ri 2 h 25 xs.length k ((k:Nat) : Int) rfl J (by omega)<|Rr 3 h (.agg (kM ⟨(xs.getD k (Ev.bad 0)).e,(xs.getD k (Ev.bad 0)).f⟩ a)) (fun w' hs=>ma (g:=t) (off:=F+k*25) [.int .i64 ((xs.getD k (Ev.bad 0)).e),.int .u8 ((xs.getD k (Ev.bad 0)).f.unit),.int .u16 ((xs.getD k (Ev.bad 0)).f.tid),.int .u8 ((xs.getD k (Ev.bad 0)).f.msg.code),.int .u8 ((xs.getD k (Ev.bad 0)).f.msg.fail),.int .u16 ((xs.getD k (Ev.bad 0)).f.msg.addr),.int .u16 ((xs.getD k (Ev.bad 0)).f.msg.count),.int .u16 ((xs.getD k (Ev.bad 0)).f.msg.value),.int .u16 ((xs.getD k (Ev.bad 0)).f.msg.and_),.int .u16 ((xs.getD k (Ev.bad 0)).f.msg.or_),.int .u16 ((xs.getD k (Ev.bad 0)).f.msg.addr2),.int .u16 ((xs.getD k (Ev.bad 0)).f.msg.sub),.int .u16 ((xs.getD k (Ev.bad 0)).f.msg.status),.int .u16 ((xs.getD k (Ev.bad 0)).f.msg.events),.int .u16 ((xs.getD k (Ev.bad 0)).f.msg.messages),.slice a.aw ((xs.getD k (Ev.bad 0)).f.msg.words.length) a.kw,.slice a.ab ((xs.getD k (Ev.bad 0)).f.msg.bits.length) a.kb,.slice a.ad ((xs.getD k (Ev.bad 0)).f.msg.data.length) a.kd,.slice a.ar ((xs.getD k (Ev.bad 0)).f.msg.recs.length) a.kr,.int .u8 ((xs.getD k (Ev.bad 0)).f.msg.mei),.int .u8 ((xs.getD k (Ev.bad 0)).f.msg.kind),.int .u8 ((xs.getD k (Ev.bad 0)).f.msg.level),.int .u8 ((xs.getD k (Ev.bad 0)).f.msg.more),.int .u8 ((xs.getD k (Ev.bad 0)).f.msg.next),.slice a.ao ((xs.getD k (Ev.bad 0)).f.msg.objects.length) a.ko] rfl (by kernel_rfl) hs.1 (by kernel_rfl) (by kernel_rfl) M)<|Rt 4 h<|Rt 5 h<|Ri 6 h 25 ys.length k ((k:Nat) : Int) rfl R (by omega)<|Rr 7 h (.agg (kM ⟨(ys.getD k (Ev.bad 0)).e,(ys.getD k (Ev.bad 0)).f⟩ b)) (fun w' hs=>ma (g:=u) (off:=N+k*25) [.int .i64 ((ys.getD k (Ev.bad 0)).e),.int .u8 ((ys.getD k (Ev.bad 0)).f.unit),.int .u16 ((ys.getD k (Ev.bad 0)).f.tid),.int .u8 ((ys.getD k (Ev.bad 0)).f.msg.code),.int .u8 ((ys.getD k (Ev.bad 0)).f.msg.fail),.int .u16 ((ys.getD k (Ev.bad 0)).f.msg.addr),.int .u16 ((ys.getD k (Ev.bad 0)).f.msg.count),.int .u16 ((ys.getD k (Ev.bad 0)).f.msg.value),.int .u16 ((ys.getD k (Ev.bad 0)).f.msg.and_),.int .u16 ((ys.getD k (Ev.bad 0)).f.msg.or_),.int .u16 ((ys.getD k (Ev.bad 0)).f.msg.addr2),.int .u16 ((ys.getD k (Ev.bad 0)).f.msg.sub),.int .u16 ((ys.getD k (Ev.bad 0)).f.msg.status),.int .u16 ((ys.getD k (Ev.bad 0)).f.msg.events),.int .u16 ((ys.getD k (Ev.bad 0)).f.msg.messages),.slice b.aw ((ys.getD k (Ev.bad 0)).f.msg.words.length) b.kw,.slice b.ab ((ys.getD k (Ev.bad 0)).f.msg.bits.length) b.kb,.slice b.ad ((ys.getD k (Ev.bad 0)).f.msg.data.length) b.kd,.slice b.ar ((ys.getD k (Ev.bad 0)).f.msg.recs.length) b.kr,.int .u8 ((ys.getD k (Ev.bad 0)).f.msg.mei),.int .u8 ((ys.getD k (Ev.bad 0)).f.msg.kind),.int .u8 ((ys.getD k (Ev.bad 0)).f.msg.level),.int .u8 ((ys.getD k (Ev.bad 0)).f.msg.more),.int .u8 ((ys.getD k (Ev.bad 0)).f.msg.next),.slice b.ao ((ys.getD k (Ev.bad 0)).f.msg.objects.length) b.ko] rfl (by kernel_rfl) hs.2 (by kernel_rfl) (by kernel_rfl) U)<|?_
 refine R0 8 rfl<|Oc<|m1 (l6 (A:=(xs.getD k (Ev.bad 0))) (B:=(ys.getD k (Ev.bad 0))) (aX.old (L.1) i) (aX.old (T.1) i)) fun a1 o=>?_
 refine bg ⟨(ub o v),(ub o y)⟩ fun W=>Rt 9 W<|re<|tn<|?_
 have z:=aG i o
 refine cb ((!(decide ((xs.getD k (Ev.bad 0))=(ys.getD k (Ev.bad 0)))))) (fun p=>?_) (fun p=>?_)
 have j:(decide ((xs.getD k (Ev.bad 0))=(ys.getD k (Ev.bad 0))))=false:=by simpa using p
 have X:=of_decide_eq_false j
 refine sg<|Pl 1<|nt<|rt<|br<|tr<|tr<|br<|tr<|rr (.bool false)<|?_
 have hs:decide (xs=ys)=false:=tH k j
 rw[hs]
 exact⟨rfl,z⟩
 have j:(decide ((xs.getD k (Ev.bad 0))=(ys.getD k (Ev.bad 0))))=true:=by simpa using p
 have X:=of_decide_eq_true j
 exact sk<|bn<|tn<|go<|Pl 1<|L0<|Oi (((k:Nat) : Int)+1)<|Pl 1<|nl<|dY (k+1) ⟨z,(sF (by omega) (by omega) s (of_decide_eq_true j)),(by(try dsimp only);omega)⟩ (by omega)
 have E:=of_decide_eq_false n
 refine xt<|tx<|tx<|bx<|tn<|sg<|Pl 1<|nt<|rt<|rr (.bool true)<|?_
 have hs:decide (xs=ys)=true:=s9 s (by omega) (by omega)
 rw[hs]
 exact⟨rfl,r⟩
open Go.RowKit
theorem mO{n:Nat}{A:Option Addr}{cp:Nat}{ps:List Pc}{w:World}(h:aI false 53 2 (iq n) w (.slice A ps.length cp) ps)(hn:n≤w.heap.size)(hps:ps.length≤1048576) : Calls Tryz.prog 27 #[.slice A ps.length cp] w (fun e w'=>∃ v,e = .returned v∧jb n w.heap.size w' v ps∧ax [] w w'):=by
 have hz:=aI.len h
 refine en 26 Tryz.func27 rfl<|sg<|Pl 1<|ng<|Pl 1<|nt<|sq<|sg<|?_
 refine Pl 1<|nt<|bk<|?_
 refine fR (fun x=>[(0,.slice A ps.length cp),(2,.slice none 0 0),(3,.slice x.2.2.1 x.2.1.length x.2.2.2),(4,.int .i64 ((x.1:Nat) : Int))]) (fun(x:Nat × List Pc × Option Addr × Nat) w'=>ax [] w w'∧aO w.heap.size 53 2 (iq n) w' (.slice x.2.2.1 x.2.1.length x.2.2.2) x.2.1∧(x.1≤ps.length)∧(x.2.1.length≤x.1)∧(x.2.1=ps.take x.1)) (fun x=>ps.length-x.1) (0,[],none,0) ⟨ax.refl _ _,(aO.nil w.heap.size _ _ (iq n) _),(by(try dsimp only);omega),(by(try dsimp only);exact Nat.le_refl _),rfl⟩ ?_
 rintro⟨k,L,B,cq⟩ I ⟨l,J,K,M,N⟩
 refine ge [(0,.slice A ps.length cp),(2,.slice none 0 0),(3,.slice B L.length cq),(4,.int .i64 ((k:Nat) : Int))] ?_
 have c:aO w.heap.size 53 2 (iq n) I (.slice B L.length cq) L:=J
 have X:k≤ps.length:=K
 have Y:L.length≤k:=M
 have o:L=ps.take k:=N
 refine sq<|sg<|Pl 4<|nt<|cb ((decide (((k:Nat) : Int)<((ps.length:Nat) : Int)))) (fun d=>?_) (fun d=>?_)
 have O:=of_decide_eq_true d
 refine bC<|sq<|bk<|mB (RdPn.elt h k (by omega)) fun q r Z a0 a1 s t u y P a2 b=>Rg 15 (fun w'=>w'.cell? ⟨q,r+k*2+0,none⟩=some (.slice s ((ps.getD k Pc.z).bytes.length) t)∧w'.cell? ⟨q,r+k*2+1,none⟩=some (.bool ((ps.getD k Pc.z).tick))) fun a3 C=>?_
 have D:=aG l C
 have f:=ub D y
 refine bg ⟨(bK f b 0 rfl (by decide)),(bK f b 1 rfl (by decide))⟩ fun a=>Rt 0 a<|Rt 1 a<|Rt 2 a<|Ri 3 a 2 ps.length k ((k:Nat) : Int) rfl u (by omega)<|Rt 4 a<|Rl 5 a (fun _ hs=>hs.1)<|Rt 6 a<|Rt 7 a<|Ri 8 a 2 ps.length k ((k:Nat) : Int) rfl u (by omega)<|Rt 9 a<|Rl 10 a (fun _ hs=>hs.2)<|Rt 11 a<|R0 12 rfl<|fg (m:=1) (e:=53) #[.slice s ((ps.getD k Pc.z).bytes.length) t,.bool ((ps.getD k Pc.z).tick)] fun a4 a5 Q R g=>?_
 have i:=aG D g
 have S:=uM (n:=n) (p:=(Pc.mk ((ps.getD k Pc.z).bytes) ((ps.getD k Pc.z).tick))) Q R (⟨_,rfl,kJ.upd i (fun x hx=>by cases hx) P⟩)
 have j:=ub g f
 refine bg ⟨(bK j b 0 rfl (by decide)),(bK j b 1 rfl (by decide))⟩ fun a6=>?_
 have E:=aG C g
 have F:=am c E (fun x hx=>av) (iq.upd E (fun x hx=>by cases hx))
 refine R0 13 rfl<|eE (xs:=L) (ys:=([Pc.mk ((ps.getD k Pc.z).bytes) ((ps.getD k Pc.z).tick)])) (.agg #[.slice none 0 0,.bool false]) 2 32 F (S).rd iq.ones (fun w' hv=>iq.upd hv (aq (fun x hx=>Nat.le_trans hn (Nat.le_trans lr (eu F x hx))) au)) (by(try simp only[List.length_append,List.length_cons,List.length_nil,aR]);omega) i.size fun T U a7 V G a8=>?_
 have H:=ax.blk G (aA (ap (ai y) lr c) av) j
 refine bg ⟨(bK H b 0 rfl (by decide)),(bK H b 1 rfl (by decide))⟩ fun W=>Rt 14 W<|re<|bn<|tn<|go<|Pl 1<|L0<|Oi (((k:Nat) : Int)+1)<|Pl 1<|nl<|?_
 exact dY ((k+1),(L++[Pc.mk ((ps.getD k Pc.z).bytes) ((ps.getD k Pc.z).tick)]),T,U) ⟨(ut i G (aq (bv c lr) au)),V,(by(try dsimp only);omega),(by(try dsimp only);simp only[List.length_append,List.length_cons,List.length_nil];omega),(by(try dsimp only);exact rj o (by omega))⟩ (by omega)
 have O:=of_decide_eq_false d
 refine xt<|tx<|tx<|bx<|tn<|sg<|Pl 2<|nt<|rt<|rr (.slice B L.length cq)<|?_
 have hs:L=ps:=by rw[o,List.take_of_length_le (by omega)]
 exact⟨_,rfl,by rw[← hs];exact c,l⟩
theorem du{n:Nat}{v:Value}{ps:List Pc}{w:World}(h:aI false 53 2 (iq n) w v ps)(hn:n≤w.heap.size)(hps:ps.length≤1048576) : Calls Tryz.prog 27 #[v] w (fun e w'=>∃ v,e = .returned v∧jb n w.heap.size w' v ps∧ax [] w w'):=by
  obtain⟨A,cp,rfl,_,_⟩:=h.shape
  exact mO h hn hps
open Go.RowKit
theorem aC.raise{n n' base s g c:Nat}{w:World}{S:XS}(h:aC n base w s g none c S)(hn:n'≤w.heap.size) : aC n' base w s g none c S:=by
  refine⟨h.1,?_⟩
  have k:=h.2
  cases S with
  | r S=>exact⟨k.1,k.2.1,hn,bM,k.2.2.2.2⟩
  | a S=>exact⟨k.1,k.2.1,k.2.2.1,hn,bM,k.2.2.2.2.2⟩
  | m S=>exact⟨k.1,k.2.1,k.2.2.1,hn,bM,k.2.2.2.2.2⟩
theorem gN{w:World}{fr at_:Int}{ans:Bool}(hfr:0≤fr∧fr<256)(hat:0≤at_∧at_<256){mA:Bool}{A:Option Addr}{cpA:Nat}{ps:List Pc}(hA:fu mA w (.slice A ps.length cpA) ps)(hpb:∀ p,p∈ps→p.bytes.length≤140737488355328)(hpl:ps.length≤4398046511104) :
    Calls Tryz.prog 9 #[.int .u8 fr,.bool ans,.slice A ps.length cpA,.int .u8 at_] w (bi (.bool true) w):=by
 have hzA:=aI.len hA
 have hcA:=aI.cap hA
 refine en 108 Tryz.func9 rfl<|sg<|Pl 1<|ng<|L0<|Oc<|m1 (@qz _) fun fp f=>Pl 1<|ng<|?_
 refine Pl 1<|?_
 refine L0<|Oc<|m1 (od (fu.old hA f) hpb hpl) fun fq g=>Pl 1<|nt<|sq<|sg<|Pl 2<|nt<|?_
 have N:=aG f g
 refine cb ((!(ey (ps.map Pc.bytes)))) (fun bj=>?_) (fun bj=>?_)
 have bm:(ey (ps.map Pc.bytes))=false:=by simpa using bj
 refine sg<|Pl 2<|nt<|rt<|tr<|rr (.bool true)<|?_
 exact⟨rfl,N⟩
 have bm:(ey (ps.map Pc.bytes))=true:=by simpa using bj
 refine bC<|sg<|Pl 1<|nt<|sq<|sg<|Pl 1<|nt<|cb (ans) (fun dO=>?_) (fun dO=>?_)
 refine go<|Pl 1<|ng<|Pl 1<|L0<|Oe (.int .u8 (Int.tmod fr 3)) (.int .u8 (fr%3)) (congrArg (Value.int .u8) (Int.tmod_eq_emod_of_nonneg (by omega)))<|L0<|Oi (fr%3)<|Pl 1<|ng<|?_
 refine Pl 3<|L0<|Oc<|e2 (du (RdPn.old (fu.n hA) N) N.size (by have y:=(ga (by assumption)).1;(try rw[List.length_take]);omega)) fun fs cy dP j=>?_
 have cz:=jb.any dP
 obtain⟨dQ,dR,rfl,ft,fv⟩:=aI.shape cz
 refine pr (XS.run (XS.zero (fr%3) 1) ps) fun aw K bo=>?_
 obtain⟨hf1,hf2⟩:=ga bm
 refine L0<|Oc (args:=#[.int .i64 (fr%3),.int .i64 1,.slice dQ ps.length dR])<|oB (dV bo (iU _) (show 1=0∨1=1 by decide) cz (by omega) (by omega)) fun aD aE cA dS fx fy l=>Pl 5<|ng<|Pl 2<|L0<|Oc (args:=#[.int .i64 (fr%3),.int .i64 1])<|uy (jq (k:=(fr%3)) (d:=1) (iU _) (show 1=0∨1=1 by decide)) fun V E fz fA W F cB=>Pl 1<|nt<|sq<|sg<|?_
 refine Pl 2<|nt<|c0<|bC<|sg<|Pl 1<|L0<|Oi at_<|Pl 2<|L0<|Oi (((ps.length:Nat) : Int)+1)<|?_
 have fB:=mn (x:=at_) (y:=(((ps.length:Nat) : Int)+1)) (by omega)
 refine L0<|fw (.int .i64 (at_%(((ps.length:Nat) : Int)+1))) (ml rfl (by kernel_rfl) (by kernel_rfl) (by omega) (by omega))<|Pl 1<|ng<|Pl 4<|o0 (mw (P:=Tryz.prog) 48 52 2 Tryz.underlying48 rfl rfl A ps.length cpA (k:=(at_%(((ps.length:Nat) : Int)+1))) (((at_%(((ps.length:Nat) : Int)+1))).toNat) (by omega) (by omega) (by omega)) fun dT hrun48 dX=>L0<|fw (.slice dT (((at_%(((ps.length:Nat) : Int)+1))).toNat) cpA) (fK (kl:=.i64) (k:=(at_%(((ps.length:Nat) : Int)+1))) (A:=A) (n:=ps.length) (c:=cpA) rfl Tryz.underlying48 (by kernel_rfl) (by kernel_rfl) (hrun48 _ _))<|?_
 have bp:=aG N (aG j (aG l cB))
 refine L0<|Oc<|e2 (du (RdPn.old (fu.n (dX _ _ _ _ _ hA)) bp) bp.size (by have y:=(ga (by assumption)).1;(try rw[List.length_take]);omega)) fun fC cC e0 bq=>?_
 have cD:=jb.any e0
 obtain⟨e1,e3,rfl,fD,fE⟩:=aI.shape cD
 refine pr (XS.run (XS.zero (fr%3) 1) (ps.take (((at_%(((ps.length:Nat) : Int)+1))).toNat))) fun bs C bt=>?_
 refine L0<|Oc (args:=#[.int .i64 (fr%3),.int .i64 1,.slice e1 ((ps.take (((at_%(((ps.length:Nat) : Int)+1))).toNat)).length) e3])<|oB (dV bt (iU _) (show 1=0∨1=1 by decide) cD (by rw[List.length_take];omega) (by have y:=iN (ps:=ps) (((at_%(((ps.length:Nat) : Int)+1))).toNat);omega)) fun aF aJ m e4 fF fG e5=>Pl 5<|ng<|Pl 1<|nt<|sq<|sg<|Pl 1<|nl<|?_
 refine tn<|bk<|?_
 have G:=aG bq e5
 have e6:=aC.raise (aC.old F G) (Nat.le_refl m.heap.size)
 have cE:=aG cB G
 have bu:=dZ.low (am dS cE (fun x hx=>av) (jD.upd cE az))
 have bw:=dZ.low e4
 have a7:=aG bp G
 refine fR (fun x=>[(2,.slice A ps.length cpA),(9,.bool true),(13,.slice aD K.length aE),(14,.int .i64 ((aw.held.length:Nat) : Int)),(15,.pointer (some ⟨V,0,none⟩)),(16,.int .i64 (at_%(((ps.length:Nat) : Int)+1))),(17,.slice aF C.length aJ),(18,.int .i64 ((bs.held.length:Nat) : Int)),(19,.slice x.2.2.2.2.2.1 x.2.2.1.length x.2.2.2.2.2.2.1),(20,.int .i64 ((x.1:Nat) : Int))]) (fun(x:Nat × XS × List Ev × Option Addr × Nat × Option Addr × Nat × Nat) w'=>ax [] w w'∧m.heap.size≤w'.heap.size∧aC x.2.2.2.2.2.2.2 cA.heap.size w' V E x.2.2.2.1 x.2.2.2.2.1 x.2.1∧bH x.2.2.2.2.2.2.2 m.heap.size w' (.slice x.2.2.2.2.2.1 x.2.2.1.length x.2.2.2.2.2.2.1) x.2.2.1∧bH m.heap.size cy.heap.size w' (.slice aD K.length aE) K∧bH m.heap.size cC.heap.size w' (.slice aF C.length aJ) C∧(x.1≤ps.length)∧((x.2.1,x.2.2.1)=XS.run (XS.zero (fr%3) 1) (ps.take x.1))∧(x.2.2.1.length≤dl (ps.take x.1)+2*x.1)∧(m.heap.size≤x.2.2.2.2.2.2.2)) (fun x=>ps.length-x.1) (0,(XS.zero (fr%3) 1),[],none,0,none,0,m.heap.size) ⟨a7,lr,e6,(aO.nil m.heap.size _ _ (aP m.heap.size) _),bu,bw,(by(try dsimp only);omega),rfl,(by(try dsimp only);exact Nat.zero_le _),(by(try dsimp only);exact Nat.le_refl _)⟩ ?_
 rintro⟨k,S,L,Ah,ch,Bq,cq,n⟩ aK ⟨bz,aL,e7,e8,e9,ea,eb,ec,ed,ee⟩
 refine ge [(2,.slice A ps.length cpA),(9,.bool true),(13,.slice aD K.length aE),(14,.int .i64 ((aw.held.length:Nat) : Int)),(15,.pointer (some ⟨V,0,none⟩)),(16,.int .i64 (at_%(((ps.length:Nat) : Int)+1))),(17,.slice aF C.length aJ),(18,.int .i64 ((bs.held.length:Nat) : Int)),(19,.slice Bq L.length cq),(20,.int .i64 ((k:Nat) : Int))] ?_
 have a:aC n cA.heap.size aK V E Ah ch S:=e7
 have h:bH n m.heap.size aK (.slice Bq L.length cq) L:=e8
 have O:bH m.heap.size cy.heap.size aK (.slice aD K.length aE) K:=e9
 have Q:bH m.heap.size cC.heap.size aK (.slice aF C.length aJ) C:=ea
 have fH:k≤ps.length:=eb
 have X:(S,L)=XS.run (XS.zero (fr%3) 1) (ps.take k):=ec
 have fI:L.length≤dl (ps.take k)+2*k:=ed
 have Y:m.heap.size≤n:=ee
 refine sq<|sg<|Pl 4<|nt<|cb ((decide (((k:Nat) : Int)<((ps.length:Nat) : Int)))) (fun bA=>?_) (fun bA=>?_)
 have ef:=of_decide_eq_true bA
 refine bC<|sq<|bk<|sq<|sg<|Pl 4<|bl 69 ((((k:Nat) : Int)==(at_%(((ps.length:Nat) : Int)+1)))) (fun bB=>?_) (fun bB=>?_)
 have eg:=aB bB
 refine Pl 2<|L1<|Oc<|m1 (f5 (xs:=L) (ys:=C) (bH.own h).rd (bH.own Q).rd) fun fJ a8=>Pl 2<|?_
 have cF:=aG bz a8
 refine bl 74 ((!(decide (L=C)))) (fun bD=>?_) (fun bD=>?_)
 have aM:(decide (L=C))=false:=by simpa using bD
 have eh:=of_decide_eq_false aM
 refine Pl 6<|nt<|c1<|sg<|Pl 1<|nt<|rt<|tr<|br<|tr<|tr<|?_
 refine br<|tr<|rr (.bool false)<|?_
 have hs:false=true:=by have z:=X;rw[show k=(((at_%(((ps.length:Nat) : Int)+1))).toNat) from by omega,bt] at z;injection z with z1 z2;have q:=aM;rw[z2] at q;simp at q
 rw[hs]
 exact⟨rfl,cF⟩
 have aM:(decide (L=C))=true:=by simpa using bD
 have eh:=of_decide_eq_true aM
 refine Pl 1<|?_
 have cG:=aC.old a a8
 refine L1<|Oc<|m1 (eM cG) fun fL aQ=>Pl 4<|nt<|?_
 have cH:=aG cF aQ
 refine cb ((((S.held.length:Nat) : Int)!=((bs.held.length:Nat) : Int))) (fun aS=>?_) (fun aS=>?_)
 have ei:=ay aS
 refine sg<|Pl 1<|nt<|rt<|tr<|br<|tr<|tr<|br<|tr<|rr (.bool false)<|?_
 have hs:false=true:=by have z:=X;rw[show k=(((at_%(((ps.length:Nat) : Int)+1))).toNat) from by omega,bt] at z;injection z with z1 z2;have q:=aS;rw[z1] at q;simp at q
 rw[hs]
 exact⟨rfl,cH⟩
 have ei:=ag aS
 refine bC<|mB (fu.elt hA k (by omega)) fun cI cJ fM fN fO cK cM cN aT bE fP Z=>Rg 16 (fun w'=>w'.cell? ⟨cI,cJ+k*2+0,none⟩=some (.slice cK ((ps.getD k Pc.z).bytes.length) cM)∧w'.cell? ⟨cI,cJ+k*2+1,none⟩=some (.bool ((ps.getD k Pc.z).tick))) fun fQ aU=>?_
 have bF:=aG cH aU
 have bG:=ub bF aT
 refine bg ⟨(bK bG Z 0 rfl (by decide)),(bK bG Z 1 rfl (by decide))⟩ fun o=>Rt 0 o<|Rt 1 o<|Rt 2 o<|Rt 3 o<|Ri 4 o 2 ps.length k ((k:Nat) : Int) rfl cN (by omega)<|Rt 5 o<|Rl 6 o (fun _ hs=>hs.1)<|Rt 7 o<|Rt 8 o<|Ri 9 o 2 ps.length k ((k:Nat) : Int) rfl cN (by omega)<|Rt 10 o<|Rl 11 o (fun _ hs=>hs.2)<|Rt 12 o<|?_
 have cO:=aN.old bE bF
 have hpart:=dU (ps:=ps) (k:=k) (by omega)
 have cP:=aG aQ aU
 have bI:=aC.old cG cP
 refine pr (XS.take S ((ps.getD k Pc.z).bytes) ((ps.getD k Pc.z).tick)) fun ej cQ bJ=>?_
 have fS:=aC.take_le bI (aN.range cO) bJ
 refine R0 13 rfl<|Oc (args:=#[.pointer (some ⟨V,0,none⟩),.agg #[.slice cK ((ps.getD k Pc.z).bytes.length) cM,.bool ((ps.getD k Pc.z).tick)]])<|?_
 refine(eU bJ bI cO (eN (aI.low (bE)) (Nat.le_trans (le (le (le f.size g.size) j.size) l.size) W)) (cT (aI.low (bE)) (aC.row bI) (le (le (le f.size g.size) j.size) l.size)) (by omega)).mono ?_
 rintro _ fT ⟨fU,ek,el,cR,rfl,em,bL,fV,cS,a9⟩
 refine⟨_,rfl,?_⟩
 have cU:=em
 obtain⟨fW,fX,rfl,fY,fZ⟩:=aI.shape cU.rd
 have bM:=ax.blk a9 (aa (nb (ai aT) (le (le (le f.size g.size) j.size) l.size) W) (aA (ap (ai aT) (le (le (le f.size g.size) j.size) l.size) (aC.row a)) av)) bG
 refine bg ⟨(bK bM Z 0 rfl (by decide)),(bK bM Z 1 rfl (by decide))⟩ fun g0=>?_
 have bN:=ut (ax.mono (S':=(E :: (ob Ah++[]))) a8 au) (ut (ax.mono (S':=(E :: (ob Ah++[]))) cP au) a9 (ac im (aq il au))) (ac im (aq il au))
 have bO:=am h bN (fun x hx=>(aa (fun e=>(ap (aC.glt F) G.size h) (e▸hx)) (aA ((aY h (aC.row a) (by decide)) x hx) av))) (fun x cs q=>aP.upd bN (dW a (cv (cV (Nat.le_refl _) (aC.low a)) aW)) q)
 refine R0 14 rfl<|eE (R:=aP cR) (xs:=L) (ys:=cQ) (.agg #[.int .i64 0,.int .u8 0,.int .u16 0,.int .u8 0,.int .u8 0,.int .u16 0,.int .u16 0,.int .u16 0,.int .u16 0,.int .u16 0,.int .u16 0,.int .u16 0,.int .u16 0,.int .u16 0,.int .u16 0,.slice none 0 0,.slice none 0 0,.slice none 0 0,.slice none 0 0,.int .u8 0,.int .u8 0,.int .u8 0,.int .u8 0,.int .u8 0,.slice none 0 0]) 25 168 (bH.up cS (aC.nle bL) bO) (cU).rd aP.ones (fun w' hv x cs q=>aP.upd hv (cL bO (by decide) aW) q) (by(try simp only[List.length_append,List.length_cons,List.length_nil,aR]);omega) (le (le (le (le aL a8.size) aQ.size) aU.size) a9.size) fun eo ep g1 eq ab g2=>?_
 have cW:=ax.blk ab (aA (ap (ai aT) a7.size h) av) bM
 refine bg ⟨(bK cW Z 0 rfl (by decide)),(bK cW Z 1 rfl (by decide))⟩ fun er=>Rt 15 er<|re<|bn<|tn<|go<|Pl 1<|L0<|Oi (((k:Nat) : Int)+1)<|Pl 1<|nl<|?_
 have aV:=ut (ax.mono (S':=(E :: (ob Ah++(ob Bq++[])))) bN (ac im (aq il au))) ab (aq il au)
 exact dY ((k+1),ej,(L++cQ),ek,el,eo,ep,cR) ⟨(ut bF (ut (ax.mono (S':=(E :: (ob Ah++(ob Bq++[])))) a9 (ac im (aq il au))) ab (aq il au)) (ac (ni (le (le (le f.size g.size) j.size) l.size) W) (aq (bv (aC.row a) (le (le (le f.size g.size) j.size) l.size)) (aq (bv h a7.size) au)))),(le (le (le (le (le aL a8.size) aQ.size) aU.size) a9.size) ab.size),(aC.upd bL ab (aA (ap (aC.lt F) G.size h) av) (aA (ap (aC.glt F) G.size h) av) (fun x hx=>(aA ((aY (aC.row bL) bO (by decide)) x hx) av))),eq,(am O aV (fun x hx=>(aa (fun e=>(aC.gx a O (by decide)) (e▸hx)) (aA ((aY O (aC.row a) (by decide)) x hx) (aA ((dj bu lr h) x hx) av)))) (fun x cs q=>aP.upd aV (dW a (cv (cV Y (aC.low a)) (cL h (by decide) aW))) q)),(am Q aV (fun x hx=>(aa (fun e=>(ap (aC.glt F) bq.size Q) (e▸hx)) (aA ((aY Q (aC.row a) (by decide)) x hx) (aA ((dj bw lr h) x hx) av)))) (fun x cs q=>aP.upd aV (dW a (cv (cV Y (aC.low a)) (cL h (by decide) aW))) q)),(by(try dsimp only);omega),(by(try dsimp only);exact eI (by omega) X bJ),(by(try dsimp only);have y:=dw (ps:=ps) (k:=k) (by omega);simp only[List.length_append];omega),(by(try dsimp only);exact Nat.le_trans Y cS)⟩ (by omega)
 have eg:=aH bB
 refine Pl 11<|nt<|c0<|bC<|mB (fu.elt hA k (by omega)) fun cX cY g3 g4 g5 cZ d0 d1 aX bP g6 a0=>Rg 16 (fun w'=>w'.cell? ⟨cX,cY+k*2+0,none⟩=some (.slice cZ ((ps.getD k Pc.z).bytes.length) d0)∧w'.cell? ⟨cX,cY+k*2+1,none⟩=some (.bool ((ps.getD k Pc.z).tick))) fun g7 ad=>?_
 have bQ:=aG bz ad
 have bR:=ub bQ aX
 refine bg ⟨(bK bR a0 0 rfl (by decide)),(bK bR a0 1 rfl (by decide))⟩ fun r=>Rt 0 r<|Rt 1 r<|Rt 2 r<|Rt 3 r<|Ri 4 r 2 ps.length k ((k:Nat) : Int) rfl d1 (by omega)<|Rt 5 r<|Rl 6 r (fun _ hs=>hs.1)<|Rt 7 r<|Rt 8 r<|Ri 9 r 2 ps.length k ((k:Nat) : Int) rfl d1 (by omega)<|Rt 10 r<|Rl 11 r (fun _ hs=>hs.2)<|Rt 12 r<|?_
 have d2:=aN.old bP bQ
 have hpart:=dU (ps:=ps) (k:=k) (by omega)
 have bS:=aC.old a ad
 refine pr (XS.take S ((ps.getD k Pc.z).bytes) ((ps.getD k Pc.z).tick)) fun es d3 bT=>?_
 have g8:=aC.take_le bS (aN.range d2) bT
 refine R0 13 rfl<|Oc (args:=#[.pointer (some ⟨V,0,none⟩),.agg #[.slice cZ ((ps.getD k Pc.z).bytes.length) d0,.bool ((ps.getD k Pc.z).tick)]])<|?_
 refine(eU bT bS d2 (eN (aI.low (bP)) (Nat.le_trans (le (le (le f.size g.size) j.size) l.size) W)) (cT (aI.low (bP)) (aC.row bS) (le (le (le f.size g.size) j.size) l.size)) (by omega)).mono ?_
 rintro _ g9 ⟨gb,et,eu,d4,rfl,ev,bU,gc,d5,ae⟩
 refine⟨_,rfl,?_⟩
 have d6:=ev
 obtain⟨gd,gf,rfl,gg,gh⟩:=aI.shape d6.rd
 have bV:=ax.blk ae (aa (nb (ai aX) (le (le (le f.size g.size) j.size) l.size) W) (aA (ap (ai aX) (le (le (le f.size g.size) j.size) l.size) (aC.row a)) av)) bR
 refine bg ⟨(bK bV a0 0 rfl (by decide)),(bK bV a0 1 rfl (by decide))⟩ fun gi=>?_
 have bW:=ut (ax.mono (S':=(E :: (ob Ah++[]))) ad au) ae (ac im (aq il au))
 have bX:=am h bW (fun x hx=>(aa (fun e=>(ap (aC.glt F) G.size h) (e▸hx)) (aA ((aY h (aC.row a) (by decide)) x hx) av))) (fun x cs q=>aP.upd bW (dW a (cv (cV (Nat.le_refl _) (aC.low a)) aW)) q)
 refine R0 14 rfl<|eE (R:=aP d4) (xs:=L) (ys:=d3) (.agg #[.int .i64 0,.int .u8 0,.int .u16 0,.int .u8 0,.int .u8 0,.int .u16 0,.int .u16 0,.int .u16 0,.int .u16 0,.int .u16 0,.int .u16 0,.int .u16 0,.int .u16 0,.int .u16 0,.int .u16 0,.slice none 0 0,.slice none 0 0,.slice none 0 0,.slice none 0 0,.int .u8 0,.int .u8 0,.int .u8 0,.int .u8 0,.int .u8 0,.slice none 0 0]) 25 168 (bH.up d5 (aC.nle bU) bX) (d6).rd aP.ones (fun w' hv x cs q=>aP.upd hv (cL bX (by decide) aW) q) (by(try simp only[List.length_append,List.length_cons,List.length_nil,aR]);omega) (le (le aL ad.size) ae.size) fun ew ex gj ez af gk=>?_
 have d7:=ax.blk af (aA (ap (ai aX) a7.size h) av) bV
 refine bg ⟨(bK d7 a0 0 rfl (by decide)),(bK d7 a0 1 rfl (by decide))⟩ fun eA=>Rt 15 eA<|re<|bn<|tn<|go<|Pl 1<|L0<|Oi (((k:Nat) : Int)+1)<|Pl 1<|nl<|?_
 have aZ:=ut (ax.mono (S':=(E :: (ob Ah++(ob Bq++[])))) bW (ac im (aq il au))) af (aq il au)
 exact dY ((k+1),es,(L++d3),et,eu,ew,ex,d4) ⟨(ut bQ (ut (ax.mono (S':=(E :: (ob Ah++(ob Bq++[])))) ae (ac im (aq il au))) af (aq il au)) (ac (ni (le (le (le f.size g.size) j.size) l.size) W) (aq (bv (aC.row a) (le (le (le f.size g.size) j.size) l.size)) (aq (bv h a7.size) au)))),(le (le (le aL ad.size) ae.size) af.size),(aC.upd bU af (aA (ap (aC.lt F) G.size h) av) (aA (ap (aC.glt F) G.size h) av) (fun x hx=>(aA ((aY (aC.row bU) bX (by decide)) x hx) av))),ez,(am O aZ (fun x hx=>(aa (fun e=>(aC.gx a O (by decide)) (e▸hx)) (aA ((aY O (aC.row a) (by decide)) x hx) (aA ((dj bu lr h) x hx) av)))) (fun x cs q=>aP.upd aZ (dW a (cv (cV Y (aC.low a)) (cL h (by decide) aW))) q)),(am Q aZ (fun x hx=>(aa (fun e=>(ap (aC.glt F) bq.size Q) (e▸hx)) (aA ((aY Q (aC.row a) (by decide)) x hx) (aA ((dj bw lr h) x hx) av)))) (fun x cs q=>aP.upd aZ (dW a (cv (cV Y (aC.low a)) (cL h (by decide) aW))) q)),(by(try dsimp only);omega),(by(try dsimp only);exact eI (by omega) X bT),(by(try dsimp only);have y:=dw (ps:=ps) (k:=k) (by omega);simp only[List.length_append];omega),(by(try dsimp only);exact Nat.le_trans Y d5)⟩ (by omega)
 have ef:=of_decide_eq_false bA
 refine xt<|tx<|tx<|bx<|tn<|sg<|Pl 4<|L1<|Oc<|m1 (f5 (xs:=L) (ys:=K) (bH.own h).rd (bH.own O).rd) fun gl d8=>Pl 2<|?_
 have d9:=aG bz d8
 refine bl 102 ((decide (L=K))) (fun b0=>?_) (fun b0=>?_)
 have eB:=of_decide_eq_true b0
 refine Pl 1<|?_
 refine L1<|Oc<|m1 (eM (aC.old a d8)) fun gm eC=>Pl 4<|nt<|rt<|rr (.bool (((S.held.length:Nat) : Int)==((aw.held.length:Nat) : Int)))<|?_
 have hs:(((S.held.length:Nat) : Int)==((aw.held.length:Nat) : Int))=true:=by have z:=X;rw[List.take_of_length_le (by omega),bo] at z;injection z with z1 z2;(try rw[z1]);(try rw[z2]);simp
 rw[hs]
 exact⟨rfl,(aG d9 eC)⟩
 have eB:=of_decide_eq_false b0
 refine Pl 6<|nt<|rt<|rr (.bool false)<|?_
 have hs:false=true:=by have z:=X;rw[List.take_of_length_le (by omega),bo] at z;injection z with z1 z2;have q:=b0;rw[z2] at q;simp at q
 rw[hs]
 exact⟨rfl,d9⟩
 refine bC<|sg<|Pl 1<|L0<|Oe (.int .u8 (Int.tmod fr 3)) (.int .u8 (fr%3)) (congrArg (Value.int .u8) (Int.tmod_eq_emod_of_nonneg (by omega)))<|L0<|Oi (fr%3)<|Pl 1<|ng<|Pl 3<|L0<|Oc<|e2 (du (RdPn.old (fu.n hA) N) N.size (by have y:=(ga (by assumption)).1;(try rw[List.length_take]);omega)) fun gn da eD s=>?_
 have db:=jb.any eD
 obtain⟨eF,eG,rfl,gp,gq⟩:=aI.shape db
 refine pr (XS.run (XS.zero (fr%3) 0) ps) fun b1 M bY=>?_
 obtain⟨hf1,hf2⟩:=ga bm
 refine L0<|Oc (args:=#[.int .i64 (fr%3),.int .i64 0,.slice eF ps.length eG])<|oB (dV bY (iU _) (show 0=0∨0=1 by decide) db (by omega) (by omega)) fun b2 b3 dc eH gr gs t=>Pl 5<|ng<|Pl 2<|L0<|Oc (args:=#[.int .i64 (fr%3),.int .i64 0])<|uy (jq (k:=(fr%3)) (d:=0) (iU _) (show 0=0∨0=1 by decide)) fun a1 H gt gu a2 I dd=>Pl 1<|nt<|sq<|sg<|?_
 refine Pl 2<|nt<|c0<|bC<|sg<|Pl 1<|L0<|Oi at_<|Pl 2<|L0<|Oi (((ps.length:Nat) : Int)+1)<|?_
 have gv:=mn (x:=at_) (y:=(((ps.length:Nat) : Int)+1)) (by omega)
 refine L0<|fw (.int .i64 (at_%(((ps.length:Nat) : Int)+1))) (ml rfl (by kernel_rfl) (by kernel_rfl) (by omega) (by omega))<|Pl 1<|ng<|Pl 4<|o0 (mw (P:=Tryz.prog) 48 52 2 Tryz.underlying48 rfl rfl A ps.length cpA (k:=(at_%(((ps.length:Nat) : Int)+1))) (((at_%(((ps.length:Nat) : Int)+1))).toNat) (by omega) (by omega) (by omega)) fun eJ hrun404 eK=>L0<|fw (.slice eJ (((at_%(((ps.length:Nat) : Int)+1))).toNat) cpA) (fK (kl:=.i64) (k:=(at_%(((ps.length:Nat) : Int)+1))) (A:=A) (n:=ps.length) (c:=cpA) rfl Tryz.underlying48 (by kernel_rfl) (by kernel_rfl) (hrun404 _ _))<|?_
 have bZ:=aG N (aG s (aG t dd))
 refine L0<|Oc<|e2 (du (RdPn.old (fu.n (eK _ _ _ _ _ hA)) bZ) bZ.size (by have y:=(ga (by assumption)).1;(try rw[List.length_take]);omega)) fun gw de eL c2=>?_
 have df:=jb.any eL
 obtain⟨eO,eP,rfl,gy,gz⟩:=aI.shape df
 refine pr (XS.run (XS.zero (fr%3) 0) (ps.take (((at_%(((ps.length:Nat) : Int)+1))).toNat))) fun c3 D c4=>?_
 refine L0<|Oc (args:=#[.int .i64 (fr%3),.int .i64 0,.slice eO ((ps.take (((at_%(((ps.length:Nat) : Int)+1))).toNat)).length) eP])<|oB (dV c4 (iU _) (show 0=0∨0=1 by decide) df (by rw[List.length_take];omega) (by have y:=iN (ps:=ps) (((at_%(((ps.length:Nat) : Int)+1))).toNat);omega)) fun b4 b5 u eQ gA gB eR=>Pl 5<|ng<|Pl 1<|nt<|sq<|sg<|Pl 1<|nl<|?_
 refine tn<|bk<|?_
 have J:=aG c2 eR
 have eS:=aC.raise (aC.old I J) (Nat.le_refl u.heap.size)
 have dg:=aG dd J
 have c5:=dZ.low (am eH dg (fun x hx=>av) (jD.upd dg az))
 have c6:=dZ.low eQ
 have ah:=aG bZ J
 refine fR (fun x=>[(2,.slice A ps.length cpA),(9,.bool true),(13,.slice b2 M.length b3),(14,.int .i64 ((b1.held.length:Nat) : Int)),(15,.pointer (some ⟨a1,0,none⟩)),(16,.int .i64 (at_%(((ps.length:Nat) : Int)+1))),(17,.slice b4 D.length b5),(18,.int .i64 ((c3.held.length:Nat) : Int)),(19,.slice x.2.2.2.2.2.1 x.2.2.1.length x.2.2.2.2.2.2.1),(20,.int .i64 ((x.1:Nat) : Int))]) (fun(x:Nat × XS × List Ev × Option Addr × Nat × Option Addr × Nat × Nat) w'=>ax [] w w'∧u.heap.size≤w'.heap.size∧aC x.2.2.2.2.2.2.2 dc.heap.size w' a1 H x.2.2.2.1 x.2.2.2.2.1 x.2.1∧bH x.2.2.2.2.2.2.2 u.heap.size w' (.slice x.2.2.2.2.2.1 x.2.2.1.length x.2.2.2.2.2.2.1) x.2.2.1∧bH u.heap.size da.heap.size w' (.slice b2 M.length b3) M∧bH u.heap.size de.heap.size w' (.slice b4 D.length b5) D∧(x.1≤ps.length)∧((x.2.1,x.2.2.1)=XS.run (XS.zero (fr%3) 0) (ps.take x.1))∧(x.2.2.1.length≤dl (ps.take x.1)+2*x.1)∧(u.heap.size≤x.2.2.2.2.2.2.2)) (fun x=>ps.length-x.1) (0,(XS.zero (fr%3) 0),[],none,0,none,0,u.heap.size) ⟨ah,lr,eS,(aO.nil u.heap.size _ _ (aP u.heap.size) _),c5,c6,(by(try dsimp only);omega),rfl,(by(try dsimp only);exact Nat.zero_le _),(by(try dsimp only);exact Nat.le_refl _)⟩ ?_
 rintro⟨k,S,L,Ah,ch,Bq,cq,n⟩ b6 ⟨c7,b7,eT,eV,eW,eX,eY,eZ,f0,f1⟩
 refine ge [(2,.slice A ps.length cpA),(9,.bool true),(13,.slice b2 M.length b3),(14,.int .i64 ((b1.held.length:Nat) : Int)),(15,.pointer (some ⟨a1,0,none⟩)),(16,.int .i64 (at_%(((ps.length:Nat) : Int)+1))),(17,.slice b4 D.length b5),(18,.int .i64 ((c3.held.length:Nat) : Int)),(19,.slice Bq L.length cq),(20,.int .i64 ((k:Nat) : Int))] ?_
 have b:aC n dc.heap.size b6 a1 H Ah ch S:=eT
 have i:bH n u.heap.size b6 (.slice Bq L.length cq) L:=eV
 have T:bH u.heap.size da.heap.size b6 (.slice b2 M.length b3) M:=eW
 have U:bH u.heap.size de.heap.size b6 (.slice b4 D.length b5) D:=eX
 have gC:k≤ps.length:=eY
 have a3:(S,L)=XS.run (XS.zero (fr%3) 0) (ps.take k):=eZ
 have gD:L.length≤dl (ps.take k)+2*k:=f0
 have a4:u.heap.size≤n:=f1
 refine sq<|sg<|Pl 4<|nt<|cb ((decide (((k:Nat) : Int)<((ps.length:Nat) : Int)))) (fun c8=>?_) (fun c8=>?_)
 have f2:=of_decide_eq_true c8
 refine bC<|sq<|bk<|sq<|sg<|Pl 4<|bl 69 ((((k:Nat) : Int)==(at_%(((ps.length:Nat) : Int)+1)))) (fun c9=>?_) (fun c9=>?_)
 have f3:=aB c9
 refine Pl 2<|L1<|Oc<|m1 (f5 (xs:=L) (ys:=D) (bH.own i).rd (bH.own U).rd) fun gE aj=>Pl 2<|?_
 have dh:=aG c7 aj
 refine bl 74 ((!(decide (L=D)))) (fun ca=>?_) (fun ca=>?_)
 have b8:(decide (L=D))=false:=by simpa using ca
 have f4:=of_decide_eq_false b8
 refine Pl 6<|nt<|c1<|sg<|Pl 1<|nt<|rt<|tr<|br<|tr<|tr<|?_
 refine br<|tr<|rr (.bool false)<|?_
 have hs:false=true:=by have z:=a3;rw[show k=(((at_%(((ps.length:Nat) : Int)+1))).toNat) from by omega,c4] at z;injection z with z1 z2;have q:=b8;rw[z2] at q;simp at q
 rw[hs]
 exact⟨rfl,dh⟩
 have b8:(decide (L=D))=true:=by simpa using ca
 have f4:=of_decide_eq_true b8
 refine Pl 1<|?_
 have di:=aC.old b aj
 refine L1<|Oc<|m1 (eM di) fun gF b9=>Pl 4<|nt<|?_
 have dk:=aG dh b9
 refine cb ((((S.held.length:Nat) : Int)!=((c3.held.length:Nat) : Int))) (fun ba=>?_) (fun ba=>?_)
 have f6:=ay ba
 refine sg<|Pl 1<|nt<|rt<|tr<|br<|tr<|tr<|br<|tr<|rr (.bool false)<|?_
 have hs:false=true:=by have z:=a3;rw[show k=(((at_%(((ps.length:Nat) : Int)+1))).toNat) from by omega,c4] at z;injection z with z1 z2;have q:=ba;rw[z1] at q;simp at q
 rw[hs]
 exact⟨rfl,dk⟩
 have f6:=ag ba
 refine bC<|mB (fu.elt hA k (by omega)) fun dm dn gG gH gI dp dq dr bb cc gJ a5=>Rg 16 (fun w'=>w'.cell? ⟨dm,dn+k*2+0,none⟩=some (.slice dp ((ps.getD k Pc.z).bytes.length) dq)∧w'.cell? ⟨dm,dn+k*2+1,none⟩=some (.bool ((ps.getD k Pc.z).tick))) fun gK bc=>?_
 have cd:=aG dk bc
 have ce:=ub cd bb
 refine bg ⟨(bK ce a5 0 rfl (by decide)),(bK ce a5 1 rfl (by decide))⟩ fun v=>Rt 0 v<|Rt 1 v<|Rt 2 v<|Rt 3 v<|Ri 4 v 2 ps.length k ((k:Nat) : Int) rfl dr (by omega)<|Rt 5 v<|Rl 6 v (fun _ hs=>hs.1)<|Rt 7 v<|Rt 8 v<|Ri 9 v 2 ps.length k ((k:Nat) : Int) rfl dr (by omega)<|Rt 10 v<|Rl 11 v (fun _ hs=>hs.2)<|Rt 12 v<|?_
 have ds:=aN.old cc cd
 have hpart:=dU (ps:=ps) (k:=k) (by omega)
 have dt:=aG b9 bc
 have cf:=aC.old di dt
 refine pr (XS.take S ((ps.getD k Pc.z).bytes) ((ps.getD k Pc.z).tick)) fun f7 dv cg=>?_
 have gL:=aC.take_le cf (aN.range ds) cg
 refine R0 13 rfl<|Oc (args:=#[.pointer (some ⟨a1,0,none⟩),.agg #[.slice dp ((ps.getD k Pc.z).bytes.length) dq,.bool ((ps.getD k Pc.z).tick)]])<|?_
 refine(eU cg cf ds (eN (aI.low (cc)) (Nat.le_trans (le (le (le f.size g.size) s.size) t.size) a2)) (cT (aI.low (cc)) (aC.row cf) (le (le (le f.size g.size) s.size) t.size)) (by omega)).mono ?_
 rintro _ gM ⟨gO,f8,f9,dx,rfl,fa,ci,gP,dy,ak⟩
 refine⟨_,rfl,?_⟩
 have dz:=fa
 obtain⟨gQ,gR,rfl,gS,gT⟩:=aI.shape dz.rd
 have cj:=ax.blk ak (aa (nb (ai bb) (le (le (le f.size g.size) s.size) t.size) a2) (aA (ap (ai bb) (le (le (le f.size g.size) s.size) t.size) (aC.row b)) av)) ce
 refine bg ⟨(bK cj a5 0 rfl (by decide)),(bK cj a5 1 rfl (by decide))⟩ fun gU=>?_
 have ck:=ut (ax.mono (S':=(H :: (ob Ah++[]))) aj au) (ut (ax.mono (S':=(H :: (ob Ah++[]))) dt au) ak (ac im (aq il au))) (ac im (aq il au))
 have cl:=am i ck (fun x hx=>(aa (fun e=>(ap (aC.glt I) J.size i) (e▸hx)) (aA ((aY i (aC.row b) (by decide)) x hx) av))) (fun x cs q=>aP.upd ck (dW b (cv (cV (Nat.le_refl _) (aC.low b)) aW)) q)
 refine R0 14 rfl<|eE (R:=aP dx) (xs:=L) (ys:=dv) (.agg #[.int .i64 0,.int .u8 0,.int .u16 0,.int .u8 0,.int .u8 0,.int .u16 0,.int .u16 0,.int .u16 0,.int .u16 0,.int .u16 0,.int .u16 0,.int .u16 0,.int .u16 0,.int .u16 0,.int .u16 0,.slice none 0 0,.slice none 0 0,.slice none 0 0,.slice none 0 0,.int .u8 0,.int .u8 0,.int .u8 0,.int .u8 0,.int .u8 0,.slice none 0 0]) 25 168 (bH.up dy (aC.nle ci) cl) (dz).rd aP.ones (fun w' hv x cs q=>aP.upd hv (cL cl (by decide) aW) q) (by(try simp only[List.length_append,List.length_cons,List.length_nil,aR]);omega) (le (le (le (le b7 aj.size) b9.size) bc.size) ak.size) fun fb fc gV fd al gW=>?_
 have dA:=ax.blk al (aA (ap (ai bb) ah.size i) av) cj
 refine bg ⟨(bK dA a5 0 rfl (by decide)),(bK dA a5 1 rfl (by decide))⟩ fun fe=>Rt 15 fe<|re<|bn<|tn<|go<|Pl 1<|L0<|Oi (((k:Nat) : Int)+1)<|Pl 1<|nl<|?_
 have bd:=ut (ax.mono (S':=(H :: (ob Ah++(ob Bq++[])))) ck (ac im (aq il au))) al (aq il au)
 exact dY ((k+1),f7,(L++dv),f8,f9,fb,fc,dx) ⟨(ut cd (ut (ax.mono (S':=(H :: (ob Ah++(ob Bq++[])))) ak (ac im (aq il au))) al (aq il au)) (ac (ni (le (le (le f.size g.size) s.size) t.size) a2) (aq (bv (aC.row b) (le (le (le f.size g.size) s.size) t.size)) (aq (bv i ah.size) au)))),(le (le (le (le (le b7 aj.size) b9.size) bc.size) ak.size) al.size),(aC.upd ci al (aA (ap (aC.lt I) J.size i) av) (aA (ap (aC.glt I) J.size i) av) (fun x hx=>(aA ((aY (aC.row ci) cl (by decide)) x hx) av))),fd,(am T bd (fun x hx=>(aa (fun e=>(aC.gx b T (by decide)) (e▸hx)) (aA ((aY T (aC.row b) (by decide)) x hx) (aA ((dj c5 lr i) x hx) av)))) (fun x cs q=>aP.upd bd (dW b (cv (cV a4 (aC.low b)) (cL i (by decide) aW))) q)),(am U bd (fun x hx=>(aa (fun e=>(ap (aC.glt I) c2.size U) (e▸hx)) (aA ((aY U (aC.row b) (by decide)) x hx) (aA ((dj c6 lr i) x hx) av)))) (fun x cs q=>aP.upd bd (dW b (cv (cV a4 (aC.low b)) (cL i (by decide) aW))) q)),(by(try dsimp only);omega),(by(try dsimp only);exact eI (by omega) a3 cg),(by(try dsimp only);have y:=dw (ps:=ps) (k:=k) (by omega);simp only[List.length_append];omega),(by(try dsimp only);exact Nat.le_trans a4 dy)⟩ (by omega)
 have f3:=aH c9
 refine Pl 11<|nt<|c0<|bC<|mB (fu.elt hA k (by omega)) fun dB dC gX gY gZ dD dE dF be cm h0 a6=>Rg 16 (fun w'=>w'.cell? ⟨dB,dC+k*2+0,none⟩=some (.slice dD ((ps.getD k Pc.z).bytes.length) dE)∧w'.cell? ⟨dB,dC+k*2+1,none⟩=some (.bool ((ps.getD k Pc.z).tick))) fun h1 an=>?_
 have cn:=aG c7 an
 have co:=ub cn be
 refine bg ⟨(bK co a6 0 rfl (by decide)),(bK co a6 1 rfl (by decide))⟩ fun B=>Rt 0 B<|Rt 1 B<|Rt 2 B<|Rt 3 B<|Ri 4 B 2 ps.length k ((k:Nat) : Int) rfl dF (by omega)<|Rt 5 B<|Rl 6 B (fun _ hs=>hs.1)<|Rt 7 B<|Rt 8 B<|Ri 9 B 2 ps.length k ((k:Nat) : Int) rfl dF (by omega)<|Rt 10 B<|Rl 11 B (fun _ hs=>hs.2)<|Rt 12 B<|?_
 have dG:=aN.old cm cn
 have hpart:=dU (ps:=ps) (k:=k) (by omega)
 have cp:=aC.old b an
 refine pr (XS.take S ((ps.getD k Pc.z).bytes) ((ps.getD k Pc.z).tick)) fun ff dH cr=>?_
 have h2:=aC.take_le cp (aN.range dG) cr
 refine R0 13 rfl<|Oc (args:=#[.pointer (some ⟨a1,0,none⟩),.agg #[.slice dD ((ps.getD k Pc.z).bytes.length) dE,.bool ((ps.getD k Pc.z).tick)]])<|?_
 refine(eU cr cp dG (eN (aI.low (cm)) (Nat.le_trans (le (le (le f.size g.size) s.size) t.size) a2)) (cT (aI.low (cm)) (aC.row cp) (le (le (le f.size g.size) s.size) t.size)) (by omega)).mono ?_
 rintro _ h3 ⟨h4,fg,fh,dI,rfl,fi,ct,h5,dJ,ao⟩
 refine⟨_,rfl,?_⟩
 have dK:=fi
 obtain⟨h6,h7,rfl,h8,h9⟩:=aI.shape dK.rd
 have cu:=ax.blk ao (aa (nb (ai be) (le (le (le f.size g.size) s.size) t.size) a2) (aA (ap (ai be) (le (le (le f.size g.size) s.size) t.size) (aC.row b)) av)) co
 refine bg ⟨(bK cu a6 0 rfl (by decide)),(bK cu a6 1 rfl (by decide))⟩ fun ha=>?_
 have cw:=ut (ax.mono (S':=(H :: (ob Ah++[]))) an au) ao (ac im (aq il au))
 have cx:=am i cw (fun x hx=>(aa (fun e=>(ap (aC.glt I) J.size i) (e▸hx)) (aA ((aY i (aC.row b) (by decide)) x hx) av))) (fun x cs q=>aP.upd cw (dW b (cv (cV (Nat.le_refl _) (aC.low b)) aW)) q)
 refine R0 14 rfl<|eE (R:=aP dI) (xs:=L) (ys:=dH) (.agg #[.int .i64 0,.int .u8 0,.int .u16 0,.int .u8 0,.int .u8 0,.int .u16 0,.int .u16 0,.int .u16 0,.int .u16 0,.int .u16 0,.int .u16 0,.int .u16 0,.int .u16 0,.int .u16 0,.int .u16 0,.slice none 0 0,.slice none 0 0,.slice none 0 0,.slice none 0 0,.int .u8 0,.int .u8 0,.int .u8 0,.int .u8 0,.int .u8 0,.slice none 0 0]) 25 168 (bH.up dJ (aC.nle ct) cx) (dK).rd aP.ones (fun w' hv x cs q=>aP.upd hv (cL cx (by decide) aW) q) (by(try simp only[List.length_append,List.length_cons,List.length_nil,aR]);omega) (le (le b7 an.size) ao.size) fun fj fk hb fl ar hc=>?_
 have dL:=ax.blk ar (aA (ap (ai be) ah.size i) av) cu
 refine bg ⟨(bK dL a6 0 rfl (by decide)),(bK dL a6 1 rfl (by decide))⟩ fun fm=>Rt 15 fm<|re<|bn<|tn<|go<|Pl 1<|L0<|Oi (((k:Nat) : Int)+1)<|Pl 1<|nl<|?_
 have bf:=ut (ax.mono (S':=(H :: (ob Ah++(ob Bq++[])))) cw (ac im (aq il au))) ar (aq il au)
 exact dY ((k+1),ff,(L++dH),fg,fh,fj,fk,dI) ⟨(ut cn (ut (ax.mono (S':=(H :: (ob Ah++(ob Bq++[])))) ao (ac im (aq il au))) ar (aq il au)) (ac (ni (le (le (le f.size g.size) s.size) t.size) a2) (aq (bv (aC.row b) (le (le (le f.size g.size) s.size) t.size)) (aq (bv i ah.size) au)))),(le (le (le b7 an.size) ao.size) ar.size),(aC.upd ct ar (aA (ap (aC.lt I) J.size i) av) (aA (ap (aC.glt I) J.size i) av) (fun x hx=>(aA ((aY (aC.row ct) cx (by decide)) x hx) av))),fl,(am T bf (fun x hx=>(aa (fun e=>(aC.gx b T (by decide)) (e▸hx)) (aA ((aY T (aC.row b) (by decide)) x hx) (aA ((dj c5 lr i) x hx) av)))) (fun x cs q=>aP.upd bf (dW b (cv (cV a4 (aC.low b)) (cL i (by decide) aW))) q)),(am U bf (fun x hx=>(aa (fun e=>(ap (aC.glt I) c2.size U) (e▸hx)) (aA ((aY U (aC.row b) (by decide)) x hx) (aA ((dj c6 lr i) x hx) av)))) (fun x cs q=>aP.upd bf (dW b (cv (cV a4 (aC.low b)) (cL i (by decide) aW))) q)),(by(try dsimp only);omega),(by(try dsimp only);exact eI (by omega) a3 cr),(by(try dsimp only);have y:=dw (ps:=ps) (k:=k) (by omega);simp only[List.length_append];omega),(by(try dsimp only);exact Nat.le_trans a4 dJ)⟩ (by omega)
 have f2:=of_decide_eq_false c8
 refine xt<|tx<|tx<|bx<|tn<|sg<|Pl 4<|L1<|Oc<|m1 (f5 (xs:=L) (ys:=M) (bH.own i).rd (bH.own T).rd) fun hd dM=>Pl 2<|?_
 have dN:=aG c7 dM
 refine bl 102 ((decide (L=M))) (fun bh=>?_) (fun bh=>?_)
 have fn:=of_decide_eq_true bh
 refine Pl 1<|?_
 refine L1<|Oc<|m1 (eM (aC.old b dM)) fun he fo=>Pl 4<|nt<|rt<|rr (.bool (((S.held.length:Nat) : Int)==((b1.held.length:Nat) : Int)))<|?_
 have hs:(((S.held.length:Nat) : Int)==((b1.held.length:Nat) : Int))=true:=by have z:=a3;rw[List.take_of_length_le (by omega),bY] at z;injection z with z1 z2;(try rw[z1]);(try rw[z2]);simp
 rw[hs]
 exact⟨rfl,(aG dN fo)⟩
 have fn:=of_decide_eq_false bh
 refine Pl 6<|nt<|rt<|rr (.bool false)<|?_
 have hs:false=true:=by have z:=a3;rw[List.take_of_length_le (by omega),bY] at z;injection z with z1 z2;have q:=bh;rw[z2] at q;simp at q
 rw[hs]
 exact⟨rfl,dN⟩
theorem gt{w:World}{fr at_:Int}{ans:Bool}(hfr:0≤fr∧fr<256)(hat:0≤at_∧at_<256){mA:Bool}{v:Value}{ps:List Pc}(hA:fu mA w v ps)(hpb:∀ p,p∈ps→p.bytes.length≤140737488355328)(hpl:ps.length≤4398046511104) : Calls Tryz.prog 9 #[.int .u8 fr,.bool ans,v,.int .u8 at_] w (bi (.bool true) w):=by
  obtain⟨A0,cp0,rfl,_,_⟩:=hA.shape
  exact gN (ans:=ans) (hfr:=hfr) (hat:=hat) hA hpb hpl
open Go.RowKit
section
variable {H:Type}{enc:TypeId × Value→H}{P:Program}{w:World}{base:Nat}{spare:Nat→Bool}{held:Bool}
theorem kF(b off:Nat)(sp:Option Nat)(n:Nat)(h:sp=none) : (⟨b,off,sp⟩ : Addr).add n=⟨b,off+n,none⟩:=fl b off n sp h
theorem nY{b off:Nat}{sp:Option Nat}{v:Value}(h:w.cell? ⟨b,off,sp⟩=some v) : sp=none:=by
  cases sp with
  | none=>rfl
  | some s =>
    unfold World.cell? at h
    simp at h
    split at h<;>cases h
theorem jS{α:Type}{Pd:DataW H→Prop}{R:World→α→List Value→Prop}{t e:TypeId}{sz fuel:Nat}{cs:List Value}{x:DataW H × List MemPlace}(ht:P.underlying t=some (.slice e))(hsz:P.cellsOf e=sz)(hp:0<sz)
    (hel:∀ n cs' y,cs'.length=sz→DataW.trod enc P w base spare held n e cs'=some y→Pd y.1→∃ x,R w x cs') (hP:∀ elems spare,x.1 = .slice elems spare→∀ d,d∈elems→Pd d) (h:DataW.trod enc P w base spare held fuel t cs=some x) : ∃ v xs,cs=[v]∧aI false e sz R w v xs:=by
  rcases Go.Deep.open_slice ht h with⟨rfl,_⟩|⟨a,len,cap,m,n,D,Pl,rfl,_,hl,hm,hmm,hxe,hx⟩
  · exact⟨_,[],rfl,aI.nil ..⟩
  have hlm:len≤m:=by rw[hmm];split<;>omega
  have key:∀ i:Fin len,∃ y:α × List Value,w.cells? base (a.add (i*sz)) sz=some y.2∧y.2.length=sz∧R w y.1 y.2:=fun i=>by
    obtain⟨cs',h1,h2⟩:=hx i (by omega)
    rw[hsz] at h1
    obtain⟨_,hlen,_⟩:=World.cells?_some h1
    obtain⟨y,hy⟩:=hel n cs' _ hlen h2 (hP _ _ (by rw[hxe]) _ (List.mem_map.2 ⟨i.1,List.mem_range.2 i.2,rfl⟩))
    exact⟨(y,cs'),h1,hlen,hy⟩
  obtain⟨f,hf⟩:=Classical.axiomOfChoice key
  refine⟨_,List.ofFn fun i=>(f i).1,rfl,some a,cap,by simp,by simpa using hl,hm,(fun h=>by cases h),fun hpos=>?_⟩
  have hpos':0<len:=by simpa using hpos
  obtain⟨b,off,sp⟩:=a
  have hsp:sp=none:=by
    obtain⟨h1,h2,_⟩:=hf ⟨0,hpos'⟩
    obtain⟨_,_,h3⟩:=World.cells?_some h1
    have h4:=h3 0 hp
    rw[List.getElem?_eq_getElem (by omega)] at h4
    cases sp with
    | none=>rfl
    | some s =>
      simp[Addr.add] at h4
      exact nY h4
  subst hsp
  have hc:∀ i:Fin len,∀ k u,(f i).2[k]? = some u→w.cell? ⟨b,off+i*sz+k,none⟩=some u:=fun i k u hu=>by
    obtain⟨h1,h2,_⟩:=hf i
    obtain⟨_,_,h3⟩:=World.cells?_some h1
    have hk:k<sz:=by have:=(List.getElem?_eq_some_iff.1 hu).1;omega
    have h4:=h3 k hk
    rw[kF _ _ _ _ rfl,kF _ _ _ _ rfl] at h4
    rw[h4,hu]
  have h0:∃ u,w.cell? ⟨b,off+0*sz+0,none⟩=some u:=by
    obtain⟨_,h2,_⟩:=hf ⟨0,hpos'⟩
    exact⟨_,hc ⟨0,hpos'⟩ 0 _ (List.getElem?_eq_getElem (by omega))⟩
  obtain⟨u,hu⟩:=h0
  unfold World.cell? at hu
  split at hu
  · rename_i cells t' fr hb
    refine⟨b,off,cells,t',fr,rfl,hb,fun h=>(by cases h),fun j y hj=>?_⟩
    have hjl:j<len:=by have:=(List.getElem?_eq_some_iff.1 hj).1;simpa using this
    have hy:(f ⟨j,hjl⟩).1=y:=by
      rw[List.getElem?_ofFn] at hj
      simpa [hjl] using hj
    obtain⟨_,h2,h3⟩:=hf ⟨j,hjl⟩
    refine⟨(f ⟨j,hjl⟩).2,h2,by rw[← hy];exact h3,fun i u hi=>?_⟩
    have:=hc ⟨j,hjl⟩ i u hi
    rw[bJ hb] at this
    exact this
  · cases hu
theorem pY{α:Type}{R:World→α→List Value→Prop}{t e:TypeId}{sz fuel:Nat}{cs:List Value}{x:DataW H × List MemPlace}(ht:P.underlying t=some (.slice e))(hsz:P.cellsOf e=sz)(hp:0<sz)
    (hel:∀ n cs' y,cs'.length=sz→DataW.trod enc P w base spare held n e cs'=some y→∃ x,R w x cs') (h:DataW.trod enc P w base spare held fuel t cs=some x) : ∃ v xs,cs=[v]∧aI false e sz R w v xs :=
  jS (Pd:=fun _=>True) ht hsz hp (fun n cs' y h1 h2 _=>hel n cs' y h1 h2) (fun _ _ _ _ _=>trivial) h
end
section
variable {H:Type}{enc:TypeId × Value→H}{w:World}{base:Nat}{spare:Nat→Bool}{held:Bool}{n:Nat}{y:DataW H × List MemPlace}
theorem t7{cs:List Value}(h:DataW.trod enc Tryz.prog w base spare held n 5 cs=some y) : ∃ x,kL w x cs:=by
  obtain⟨k,rfl,_,hw⟩:=DataW.trod_int Tryz.underlying5 h
  exact⟨k,rfl,n7 hw⟩
theorem ro{cs:List Value}(h:DataW.trod enc Tryz.prog w base spare held n 4 cs=some y) : ∃ x,mz w x cs:=by
  obtain⟨k,rfl,_⟩:=DataW.trod_bool Tryz.underlying4 h
  exact⟨k,rfl⟩
theorem tB{cs:List Value}(h:DataW.trod enc Tryz.prog w base spare held n 27 cs=some y) : ∃ v xs,cs=[v]∧aN false w v xs:=pY Tryz.underlying27 (by kernel_rfl) (by decide) (fun _ _ _ _ h=>t7 h) h
end
open Go.RowKit
theorem tF{cs:List Value}{o:Nat}{v:Value}(h:(cs.drop o).take 1=[v]) : cs.drop o=v :: cs.drop (o+1):=by
  cases hd:cs.drop o with
  | nil=>rw[hd] at h;cases h
  | cons a l =>
    rw[hd] at h
    have h1:a=v:=by simpa using h
    rw[h1,← List.drop_drop,hd]
    rfl
theorem pD{cs:List Value}{n:Nat}(h:cs.length=n) : cs.drop n=[]:=by rw[← h];simp
section
variable {H:Type}{enc:TypeId × Value→H}{w:World}{base:Nat}{spare:Nat→Bool}{held:Bool}{n:Nat}{y:DataW H × List MemPlace}
end
end Go.Proofs.YtpglhicfhppaiaaGreat
namespace Go.Proofs.YtpglhicfhppaiaaGreat
open Go.WideShapes
def vz (w:World)(b:List Int)(cs:List Value) : Prop:=∃ v,cs=[v]∧aN false w v b∧b.length≤140737488355328
section
variable {H:Type}{enc:TypeId × Value→H}{w:World}{base:Nat}{spare:Nat→Bool}{held:Bool}{n:Nat}{y:DataW H × List MemPlace}
theorem s5{cs:List Value}(h:DataW.trod enc Tryz.prog w base spare held n 27 cs=some y)(hp:∀ e2 s2,y.1 = .slice e2 s2→e2.length≤140737488355328) : ∃ b,vz w b cs:=by
  obtain⟨v,xs,hc,hr⟩:=tB h
  refine⟨xs,v,hc,hr,?_⟩
  obtain⟨A,c,hv,_,_⟩:=hr.shape
  rcases DataW.trod_slice Tryz.underlying27 h with⟨h1,_⟩|⟨a,len,cap,elems,rest,m,_,h1,h2,_,_,_,h3,_⟩
  · rw[hc] at h1
    simp only[List.cons.injEq,and_true] at h1
    rw[h1] at hv
    injection hv with _ h4 _
    omega
  · rw[hc] at h1
    simp only[List.cons.injEq,and_true] at h1
    rw[h1] at hv
    injection hv with _ h4 _
    have:=hp _ _ (by rw[h2])
    rw[List.length_map] at this
    omega
end
theorem eG{H:Type}{P:Program}{e:TypeId}{d:DataW H}{k:Nat}(hk:k∈d.weights P e) : ∀ {l:List (DataW H)},d∈l→k∈DataW.weightsAll P e l
  | [],h=>by cases h
  | x :: r,h=>by
    simp only[DataW.weightsAll,List.mem_append]
    rcases List.mem_cons.1 h with rfl|h
    · exact .inl hk
    · exact .inr (eG hk h)
end Go.Proofs.YtpglhicfhppaiaaGreat
namespace Go.Proofs.YtpglhicfhppaiaaGreat
open Go.WideShapes
theorem aI.ety{α:Type}{e e':TypeId}{sz:Nat}{R:World→α→List Value→Prop}{w:World}{v:Value}{xs:List α}(h:aI false e sz R w v xs) : aI false e' sz R w v xs:=by
  obtain⟨A,c,hv,h1,h2,h0,h3⟩:=h
  exact⟨A,c,hv,h1,h2,h0,fun hp=>by
    obtain⟨b,off,cells,t,fr,hA,hb,_,hx⟩:=h3 hp
    exact⟨b,off,cells,t,fr,hA,hb,(fun e=>by cases e),hx⟩⟩
def v6 (w:World)(p:Pc)(cs:List Value) : Prop:=∃ v,cs=[v,.bool p.tick]∧aN false w v p.bytes∧p.bytes.length≤140737488355328
section
variable {H:Type}{enc:TypeId × Value→H}{w:World}{base:Nat}{spare:Nat→Bool}{held:Bool}{n:Nat}{y:DataW H × List MemPlace}
theorem ri{cs:List Value}(h:DataW.trod enc Tryz.prog w base spare held n 52 cs=some y)(hp:∀ l,y.1 = .agg l→∀ e2 s2,l[0]? = some (.slice e2 s2)→e2.length≤140737488355328) : ∃ p,v6 w p cs:=by
  obtain⟨xs,m,rfl,hy,hlen,hxs,hf⟩:=DataW.trod_struct Tryz.underlying52 h
  rw[show Tryz.prog.cellsOf 52=2 from by kernel_rfl] at hlen
  replace hxs:xs.length=2:=hxs.trans (by kernel_rfl)
  obtain⟨y0,g0⟩ : ∃ y,xs[0]? = some y:=⟨_,List.getElem?_eq_getElem (show 0<xs.length by omega)⟩
  have f0:DataW.trod enc Tryz.prog w base spare held m 27 ((cs.drop 0).take (Tryz.prog.cellsOf 27))=xs[0]?:=hf 0 _ rfl
  rw[g0] at f0
  rw[show Tryz.prog.cellsOf 27=1 from by kernel_rfl] at f0
  obtain⟨b,v,e0,r0,r1⟩:=s5 f0 fun e2 s2 he=>hp _ (by rw[hy]) e2 s2 (by rw[List.getElem?_map,g0];exact congrArg some he)
  obtain⟨y1,g1⟩ : ∃ y,xs[1]? = some y:=⟨_,List.getElem?_eq_getElem (show 1<xs.length by omega)⟩
  have f1:DataW.trod enc Tryz.prog w base spare held m 4 ((cs.drop 1).take (Tryz.prog.cellsOf 4))=xs[1]?:=hf 1 _ rfl
  rw[g1] at f1
  rw[show Tryz.prog.cellsOf 4=1 from by kernel_rfl] at f1
  obtain⟨t,e1⟩:=ro f1
  have e1:(cs.drop 1).take 1=[.bool t]:=e1
  have hcs:cs=[v,.bool t]:=by
    show cs.drop 0=_
    rw[tF e0,tF e1,pD hlen]
  exact⟨⟨b,t⟩,v,hcs,r0,r1⟩
theorem qe{cs:List Value}(h:DataW.trod enc Tryz.prog w base spare held n 48 cs=some y)(hp:∀ elems sp,y.1 = .slice elems sp→(∀ d,d∈elems→∀ l,d = .agg l→∀ e2 s2,l[0]? = some (.slice e2 s2)→e2.length≤140737488355328)∧elems.length≤4398046511104) :
    ∃ v ps,cs=[v]∧fu false w v ps∧(∀ p,p∈ps→p.bytes.length≤140737488355328)∧ps.length≤4398046511104:=by
  obtain⟨v,xs,hc,hr⟩:=jS (R:=v6) (sz:=2) (Pd:=fun d=>∀ l,d = .agg l→∀ e2 s2,l[0]? = some (.slice e2 s2)→e2.length≤140737488355328) Tryz.underlying48 (by kernel_rfl) (by decide) (fun _ _ _ _ h hp=>ri h hp) (fun elems sp he=>(hp elems sp he).1) h
  refine⟨v,xs,hc,aI.ety (aI.any (R':=vh false) hr (fun _ _ ⟨v,h1,h2,_⟩=>⟨v,h1,h2⟩)),fun x hx=>?_,?_⟩
  · obtain⟨A,c,rfl,_,_⟩:=hr.shape
    obtain⟨j,hj⟩:=List.getElem?_of_mem hx
    have hl:=(List.getElem?_eq_some_iff.1 hj).1
    obtain⟨_,_,_,_,_,_,_,_,_,⟨_,_,_,h4⟩,_⟩:=aI.elt hr Pc.z j hl
    rw[List.getD_eq_getElem?_getD,hj] at h4
    exact h4
  · obtain⟨A,c,hv,_,_⟩:=hr.shape
    rcases DataW.trod_slice Tryz.underlying48 h with⟨h1,_⟩|⟨a,len,cap,elems,rest,m,_,h1,h2,_,_,_,h3,_⟩
    · rw[hc] at h1
      simp only[List.cons.injEq,and_true] at h1
      rw[h1] at hv
      injection hv with _ h4 _
      omega
    · rw[hc] at h1
      simp only[List.cons.injEq,and_true] at h1
      rw[h1] at hv
      injection hv with _ h4 _
      have:=(hp _ _ (by rw[h2])).2
      rw[List.length_map] at this
      omega
end
theorem pW{H:Type}{ts:List TypeId}{ds:List (DataW H)}(h:(DataW.weightsEach Tryz.prog ts ds).all (·≤reachBytes)=true){j:Nat}{d:DataW H}(ht:ts[j]? = some 48)(hd:ds[j]? = some d) :
    ∀ elems sp,d = .slice elems sp→(∀ d2,d2∈elems→∀ l,d2 = .agg l→∀ e2 s2,l[0]? = some (.slice e2 s2)→e2.length≤140737488355328)∧elems.length≤4398046511104:=by
  rintro elems sp rfl
  refine⟨?_,?_⟩
  · rintro d2 hm l rfl e2 s2 h3
    obtain⟨r,rfl⟩ : ∃ r,l = .slice e2 s2 :: r:=by
      cases l with
      | nil=>cases h3
      | cons x r=>exact⟨r,by rw[List.getElem?_cons_zero] at h3;injection h3 with h3;rw[h3]⟩
    have hw:(e2.length+s2.length)*Tryz.prog.bytesOf 5∈(DataW.slice elems sp).weights Tryz.prog 48:=by
      simp only[DataW.weights,Tryz.underlying48,List.mem_cons,List.mem_append]
      refine .inr (.inl (eG ?_ hm))
      simp only[DataW.weights,Tryz.underlying52,List.map_cons,List.map_nil,DataW.weightsEach,List.mem_append]
      refine .inl ?_
      simp only[DataW.weights,Tryz.underlying27,List.mem_cons]
      exact .inl trivial
    have h2:=List.all_eq_true.1 h _ (DataW.weights_mem_each ht hd _ hw)
    have h3:(e2.length+s2.length)*Tryz.prog.bytesOf 5≤reachBytes:=by simpa using h2
    rw[show Tryz.prog.bytesOf 5=1 from by kernel_rfl] at h3
    have h4:reachBytes<2 ^ 47:=reachBytes_lt
    omega
  · have h2:=sized_slice h ht hd Tryz.underlying48
    rw[show Tryz.prog.bytesOf 52=32 from by kernel_rfl] at h2
    have h4:reachBytes<2 ^ 47:=reachBytes_lt
    omega
end Go.Proofs.YtpglhicfhppaiaaGreat
