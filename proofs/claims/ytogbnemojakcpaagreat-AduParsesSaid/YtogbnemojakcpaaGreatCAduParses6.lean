/- Contracts of functions, part CAduParses6. -/
import Derived.Test.YtogbnemojakcpaaGreatCAduParses1
import Derived.Test.YtogbnemojakcpaaGreatCAduParses2
import Derived.Test.YtogbnemojakcpaaGreatCAduParses3
import Derived.Test.YtogbnemojakcpaaGreatCAduParses4
import Derived.Test.YtogbnemojakcpaaGreatCAduParses5
set_option linter.unusedVariables false
set_option linter.unusedSimpArgs false
set_option maxRecDepth 100000
set_option maxHeartbeats 4000000
namespace Go.Proofs.YtogbnemojakcpaaGreat
open Go.RowKit
theorem y4{n:Int}{w:World}(hn : -1048576≤n∧n≤1048576) : Calls Tryz.prog 155 #[.int .i64 n] w (bP (.int .i64 (dC n)) w):=by
 refine en 14 Tryz.func155 rfl<|sg<|Pl 1<|nt<|sq<|sg<|Pl 2<|nt<|cb ((decide (n<1))) (fun a=>?_) (fun a=>?_)
 have c:=of_decide_eq_true a
 refine sg<|Pl 1<|nt<|rt<|tr<|rr (.int .i64 0)<|?_
 have hs:dC n=0:=by rw[mL];split<;>(try split)<;>omega
 rw[hs]
 exact⟨rfl,(aD.refl [] _)⟩
 have c:=of_decide_eq_false a
 refine bi<|sg<|Pl 1<|L0<|Oe (.int .i64 (IntKind.i64.wrap (Int.tdiv n 8))) (.int .i64 (n/8)) (congrArg (Value.int .i64) (fA (by omega) (by omega)))<|Pl 1<|nt<|sq<|sg<|Pl 1<|L0<|Oe (.int .i64 (Int.tmod n 8)) (.int .i64 (n%8)) (congrArg (Value.int .i64) (Int.tmod_eq_emod_of_nonneg (by omega)))<|?_
 refine Pl 1<|nt<|cb ((decide (0<(n%8)))) (fun b=>?_) (fun b=>?_)
 have d:=of_decide_eq_true b
 refine go<|Pl 1<|L0<|Oi ((n/8)+1)<|Pl 1<|ng<|Pl 2<|nt<|rt<|rr (.int .i64 ((n/8)+1))<|?_
 have hs:dC n=((n/8)+1):=by rw[mL];split<;>(try split)<;>omega
 rw[hs]
 exact⟨rfl,(aD.refl [] _)⟩
 have d:=of_decide_eq_false b
 refine bi<|sg<|Pl 2<|nt<|rt<|rr (.int .i64 (n/8))<|?_
 have hs:dC n=(n/8):=by rw[mL];split<;>(try split)<;>omega
 rw[hs]
 exact⟨rfl,(aD.refl [] _)⟩
theorem qm(l:List Bool)(j t:Nat)(ht:t≤8) : bV (l.take (8*j+t)) j<2 ^ t:=by
  induction t with
  | zero=>rw[Nat.add_zero,kx];decide
  | succ t ih =>
    have h:=ih (by omega)
    rw[← Nat.add_assoc,j0 (by omega),Nat.pow_succ]
    split<;>omega
theorem uo{t:Nat}(ht:t≤8) : 2 ^ t≤256:=by
  rcases t with _|_|_|_|_|_|_|_|_|t
  case succ.succ.succ.succ.succ.succ.succ.succ.succ=>omega
  all_goals decide
theorem qZ{l:List Bool}{j:Nat}(h1:¬ 8*j<l.length)(h2:8*j<l.length+8) : (List.range j).map (fun i=>(bV l i:Int))=cM l:=sZ (by omega) h2
theorem sT{l:List Bool}{j t:Nat}{c:Int}(hc:c=(bV (l.take (8*j+t)) j:Int))(ht:t≤8)(h:t=8∨l.length≤8*j+t) : c%256=(bV l j:Int):=by
  have h1:=qm l j t ht
  have h2:=uo ht
  rw[sI h] at hc h1
  omega
theorem xj{m:Md}{A:Option Addr}{cp:Nat}{l:List Bool}{w:World}(h:gI m w (.slice A l.length cp) l)(hn:l.length≤1048576) : Calls Tryz.prog 216 #[.slice A l.length cp] w (tk l w):=by
 refine en 42 Tryz.func216 rfl<|sg<|Pl 1<|ng<|Pl 1<|nt<|sq<|sg<|?_
 refine Pl 1<|nt<|bk<|?_
 refine hY (fun x=>[(0,.slice A l.length cp),(2,.slice none 0 0),(3,.slice x.2.2.1 x.2.1.length x.2.2.2),(4,.int .i64 ((8*x.1:Nat) : Int))]) (fun(x:Nat × List Int × Option Addr × Nat) w'=>aD [] w w'∧eq w.heap.size w' (.slice x.2.2.1 x.2.1.length x.2.2.2) x.2.1∧(8*x.1<l.length+8)∧(x.2.1=(List.range x.1).map (fun i=>(bV l i:Int)))) (fun x=>l.length+8-8*x.1) (0,[],none,0) ⟨aD.refl _ _,(be.nil w.heap.size _ _ u7 _),(by(try dsimp only);omega),rfl⟩ ?_
 rintro⟨j,L,B,cq⟩ r ⟨f,z,C,D⟩
 refine i1 [(0,.slice A l.length cp),(2,.slice none 0 0),(3,.slice B L.length cq),(4,.int .i64 ((8*j:Nat) : Int))] ?_
 have g:eq w.heap.size r (.slice B L.length cq) L:=z
 have Z:8*j<l.length+8:=C
 have k:L=(List.range j).map (fun i=>(bV l i:Int)):=D
 have hLn:L.length=j:=by rw[k,List.length_map,List.length_range]
 refine sq<|sg<|Pl 4<|nt<|cb ((decide (((8*j:Nat) : Int)<((l.length:Nat) : Int)))) (fun n=>?_) (fun n=>?_)
 have E:=of_decide_eq_true n
 refine bi<|sq<|bk<|sg<|Pl 1<|ng<|Pl 1<|nt<|?_
 refine sq<|sg<|Pl 2<|nt<|bk<|?_
 refine hY (fun x=>[(0,.slice A l.length cp),(2,.slice none 0 0),(3,.slice B L.length cq),(4,.int .i64 ((8*j:Nat) : Int)),(5,.int .i64 x.2.1),(6,.int .i64 x.2.2),(7,.int .i64 ((8*j+x.1:Nat) : Int)),(8,.int .i64 ((8*j:Nat) : Int)),(9,.slice A l.length cp),(10,.int .i64 ((l.length:Nat) : Int)),(11,.bool (decide (((8*j:Nat) : Int)<((l.length:Nat) : Int)))),(14,.int .i64 ((8*j:Nat) : Int))]) (fun(x:Nat × Int × Int) w'=>aD [] r w'∧(x.1≤8)∧(x.2.1=(bV (l.take (8*j+x.1)) j:Int))∧(x.2.2=((2 ^ x.1:Nat) : Int))) (fun x=>8-x.1) (0,0,1) ⟨aD.refl _ _,(by(try dsimp only);omega),(by(try dsimp only);rw[Nat.add_zero,kx];rfl),rfl⟩ ?_
 rintro⟨t,c,u⟩ a0 ⟨a,F,G,H⟩
 refine i1 [(0,.slice A l.length cp),(2,.slice none 0 0),(3,.slice B L.length cq),(4,.int .i64 ((8*j:Nat) : Int)),(5,.int .i64 c),(6,.int .i64 u),(7,.int .i64 ((8*j+t:Nat) : Int)),(8,.int .i64 ((8*j:Nat) : Int)),(9,.slice A l.length cp),(10,.int .i64 ((l.length:Nat) : Int)),(11,.bool (decide (((8*j:Nat) : Int)<((l.length:Nat) : Int)))),(14,.int .i64 ((8*j:Nat) : Int))] ?_
 have a1:t≤8:=F
 have I:c=(bV (l.take (8*j+t)) j:Int):=G
 have a2:u=((2 ^ t:Nat) : Int):=H
 have hpl:=qm l j t (by omega)
 have hpp:=uo (t:=t) (by omega)
 refine sq<|sg<|Pl 5<|cu 5 [19] 24 (((decide (((8*j+t:Nat) : Int)<((l.length:Nat) : Int)))&&(decide (((8*j+t:Nat) : Int)<(((8*j:Nat) : Int)+8))))) (fun K s=>?_) ?_
 refine bl 19 ((decide (((8*j+t:Nat) : Int)<((l.length:Nat) : Int)))) (fun b=>?_) (fun b=>?_)
 have J:=of_decide_eq_true b
 exact Pl 2<|L1<|Oi (((8*j:Nat) : Int)+8)<|Pl 2<|ce s (decide (((8*j+t:Nat) : Int)<(((8*j:Nat) : Int)+8))) (by rw[b];rfl)
 have J:=of_decide_eq_false b
 exact Pl 5<|ce s false (by rw[b];rfl)
 refine nt<|?_
 have y:=aF f a
 refine cb (((decide (((8*j+t:Nat) : Int)<((l.length:Nat) : Int)))&&(decide (((8*j+t:Nat) : Int)<(((8*j:Nat) : Int)+8))))) (fun d=>?_) (fun d=>?_)
 have M:=(aR d).1
 have N:=(aR d).2
 have a3:=of_decide_eq_true M
 have a4:=of_decide_eq_true N
 refine bi<|sq<|bk<|sq<|sg<|Pl 2<|?_
 refine yI (gI.at_ (gI.old h y) (8*j+t) (by omega)) fun O P Q R=>L0<|iZ l.length (8*j+t) Q (by omega)<|L0<|dY (p:=⟨O,P+(8*j+t),none⟩) (v:=.bool (l.getD (8*j+t) false)) R<|nt<|cb ((l.getD (8*j+t) false)) (fun o=>?_) (fun o=>?_)
 refine go<|Pl 2<|L0<|Oi (c+u)<|Pl 1<|nt<|go<|Pl 1<|L0<|Oi (2*u)<|Pl 1<|nl<|bn<|tn<|go<|?_
 exact Pl 1<|L0<|Oi (((8*j+t:Nat) : Int)+1)<|Pl 1<|nl<|fF ((t+1),(c+u),(2*u)) ⟨a,(by(try dsimp only);omega),(by(try dsimp only);rw[← Nat.add_assoc,j0 (by omega),if_pos o];omega),(by(try dsimp only);rw[Nat.pow_succ];omega)⟩ (by omega)
 refine bi<|go<|Pl 1<|L0<|Oi (2*u)<|Pl 1<|nl<|bn<|tn<|go<|Pl 1<|L0<|Oi (((8*j+t:Nat) : Int)+1)<|Pl 1<|nl<|?_
 exact fF ((t+1),c,(2*u)) ⟨a,(by(try dsimp only);omega),(by(try dsimp only);rw[← Nat.add_assoc,j0 (by omega),if_neg (by rw[o];decide)];omega),(by(try dsimp only);rw[Nat.pow_succ];omega)⟩ (by omega)
 refine xt<|tx<|tx<|bx<|tn<|go<|Pl 3<|L0<|dD (m:=1) (e:=5) #[.int .u8 (c%256)] fun a5 a6 S T q=>?_
 have U:=dR S (xs:=[(c%256)]) (by as_aux_lemma=>kernel_rfl) (az (by omega) aZ) (by(try simp only[List.length_cons,List.length_nil]);omega) T
 refine L0<|cR bt (xs:=L) (ys:=([(c%256)])) (.int .u8 0) 1 (ax g (aF a q) (fun x hx=>ay) (fun _ _ h=>h)) (U).rd (by(try simp only[List.length_append,List.length_cons,List.length_nil,aC]);omega) (le (le f.size a.size) q.size) fun V W a7 X Y=>Pl 1<|nl<|bn<|tn<|go<|Pl 1<|L0<|Oi (((8*j:Nat) : Int)+8)<|Pl 1<|nl<|?_
 exact fF ((j+1),(L++[(c%256)]),V,W) ⟨(ut y (ut (aD.mono (S':=(ob B++[])) q au) Y (av il au)) (av (aV g lr) au)),X,(by(try dsimp only);omega),(by(try dsimp only);rw[k,List.range_succ,List.map_append];show _++[_]=_++[_];rw[sT I (by omega) (by have hq:=d;simp only[Bool.and_eq_false_iff,decide_eq_false_iff_not] at hq;omega)])⟩ (by omega)
 have E:=of_decide_eq_false n
 refine xt<|tx<|tx<|bx<|tn<|sg<|Pl 2<|nt<|rt<|rr (.slice B L.length cq)<|?_
 have hs:L=cM l:=by rw[k];exact qZ (by omega) (by omega)
 exact⟨_,rfl,by rw[← hs];exact g,f⟩
theorem xW{m:Md}{v:Value}{l:List Bool}{w:World}(h:gI m w v l)(hn:l.length≤1048576) : Calls Tryz.prog 216 #[v] w (tk l w):=by
  obtain⟨A,c,rfl,_,_⟩:=h.shape
  exact xj h hn
theorem t4{P:Program}{w:World}{ev:Operand→Value}{o:Oper}{x y:Operand}{t t':TypeId}{a b:ByteArray}{v:Bool}(ho:o.op = .binOp .neq t x y t')(hx:ev x = .string a)(hy:ev y = .string b)(hv:(a.toList==b.toList)=v) : (execOp ev o).run P w = .ok (.value (.bool !v)) w:=by
  have hg:eqGuard .neq t x y (.string a) (.string b)=pure ():=rfl
  unfold execOp
  simp only[ho,hx,hy,hg,binOp_string_neq,Sem.run_bind,Sem.run_pure,Result.andThen,hv]
theorem yM{w0 w:World}{g:Nat}{cs:Array Value}{xs:List Bool}(hg:w0.heap.size≤g)(hcs:cs=(xs.map Value.bool).toArray)(hl:xs.length≤4194304)(hb:w.heap[g]? = some (.cells cs 4 (0,0))) :
    wb w0.heap.size w (.slice (some ⟨g,0,none⟩) xs.length xs.length) xs:=xp (enc:=Value.bool) hg hcs (fun x h=>rfl) hl hb
theorem rz{x c:Int}{k:Nat}(h:c=x/2 ^ k) : c/2=x/2 ^ (k+1):=by
  rw[h,Int.ediv_ediv_of_nonneg (Int.le_of_lt (Int.pow_pos (by decide))),Int.pow_succ]
theorem tK{x c:Int}(hx:0≤x∧x<256){k:Nat}(h:c=x/2 ^ k) : 0≤c∧c<256:=by
  have h1:(1:Int)≤2 ^ k:=Int.pow_pos (by decide)
  subst h
  exact⟨Int.ediv_nonneg hx.1 (by omega),Int.lt_of_le_of_lt (Int.ediv_le_self _ hx.1) hx.2⟩
theorem rQ{l:List Int}{i:Nat}(h:i<l.length) : l.getD i 0∈l:=by
  rw[List.getD_eq_getElem?_getD,List.getElem?_eq_getElem h]
  exact List.getElem_mem h
theorem sR{m:Md}{A:Option Addr}{cp:Nat}{b:List Int}{n:Int}{w:World}(h:aT m w (.slice A b.length cp) b)(hl:b.length≤1048576)(hn : -1048576≤n∧n≤1048576) : Calls Tryz.prog 156 #[.slice A b.length cp,.int .i64 n] w (fz b n w):=by
 have hb:=aT.range h
 refine en 51 Tryz.func156 rfl<|sg<|Pl 2<|nt<|sq<|sg<|Pl 3<|cu 6 [12] 18 (((decide (n<0))||(decide ((8*((b.length:Nat) : Int))<n)))) (fun K H=>?_) ?_
 refine bl 12 ((decide (n<0))) (fun d=>?_) (fun d=>?_)
 have R:=of_decide_eq_true d
 exact Pl 6<|ce H true (by rw[d];rfl)
 have R:=of_decide_eq_false d
 exact Pl 3<|L1<|Oi (8*((b.length:Nat) : Int))<|Pl 2<|ce H (decide ((8*((b.length:Nat) : Int))<n)) (by rw[d];rfl)
 refine nt<|cb (((decide (n<0))||(decide ((8*((b.length:Nat) : Int))<n)))) (fun g=>?_) (fun g=>?_)
 refine sg<|Pl 2<|nt<|rt<|tr<|rr (.tuple #[.slice none 0 0,.bool false])<|?_
 have hq:=g
 have hs:cn b n=none:=by unfold cn;rw[if_neg];rintro⟨h1,h2⟩;simp only[Bool.or_eq_true,decide_eq_true_eq] at hq;rw[mL] at h2;split at h2<;>(try split at h2)<;>omega
 exact eR hs (aD.refl [] _)
 have S:=(aJ g).1
 have T:=(aJ g).2
 have ae:=of_decide_eq_false S
 have af:=of_decide_eq_false T
 refine bi<|sg<|Pl 1<|nt<|sq<|sg<|Pl 1<|nt<|bk<|?_
 refine hY (fun x=>[(0,.slice A b.length cp),(1,.int .i64 n),(4,.slice none 0 0),(5,.bool false),(6,.slice x.2.2.1 x.2.1.length x.2.2.2),(7,.int .i64 ((x.1:Nat) : Int))]) (fun(x:Nat × List Bool × Option Addr × Nat) w'=>aD [] w w'∧wb w.heap.size w' (.slice x.2.2.1 x.2.1.length x.2.2.2) x.2.1∧(((x.1:Nat) : Int)≤n)∧(x.2.1=(List.range x.1).map (cC b))) (fun x=>n.toNat-x.1) (0,[],none,0) ⟨aD.refl _ _,(be.nil w.heap.size _ _ od _),(by(try dsimp only);omega),rfl⟩ ?_
 rintro⟨i,L,B,cq⟩ I ⟨j,U,V,W⟩
 refine i1 [(0,.slice A b.length cp),(1,.int .i64 n),(4,.slice none 0 0),(5,.bool false),(6,.slice B L.length cq),(7,.int .i64 ((i:Nat) : Int))] ?_
 have r:wb w.heap.size I (.slice B L.length cq) L:=U
 have ag:((i:Nat) : Int)≤n:=V
 have o:L=(List.range i).map (cC b):=W
 have hLn:L.length=i:=by rw[o,List.length_map,List.length_range]
 have hi8:(((i:Nat) : Int)/8).toNat=i/8:=by omega
 refine sq<|sg<|Pl 3<|nt<|cb ((decide (((i:Nat) : Int)<n))) (fun s=>?_) (fun s=>?_)
 have X:=of_decide_eq_true s
 refine bi<|sq<|bk<|sg<|Pl 2<|L0<|Oe (.int .i64 (IntKind.i64.wrap (Int.tdiv ((i:Nat) : Int) 8))) (.int .i64 (((i:Nat) : Int)/8)) (congrArg (Value.int .i64) (fA (by omega) (by omega)))<|?_
 refine eJ (aT.at_ (aT.old h j) (((((i:Nat) : Int)/8)).toNat) (by omega)) fun t u Y Z ah=>L0<|sA b.length (((((i:Nat) : Int)/8)).toNat) (((i:Nat) : Int)/8) (by omega) Y (by omega)<|L0<|dY (p:=⟨t,u+(((((i:Nat) : Int)/8)).toNat),none⟩) (v:=.int .u8 (b.getD (((((i:Nat) : Int)/8)).toNat) 0)) Z<|L0<|Oi (b.getD (((((i:Nat) : Int)/8)).toNat) 0)<|Pl 1<|nt<|sq<|sg<|Pl 1<|nt<|bk<|?_
 refine hY (fun x=>[(0,.slice A b.length cp),(1,.int .i64 n),(4,.slice none 0 0),(5,.bool false),(6,.slice B L.length cq),(7,.int .i64 ((i:Nat) : Int)),(8,.int .i64 x.2),(9,.int .i64 ((x.1:Nat) : Int)),(19,.int .i64 ((i:Nat) : Int)),(20,.int .i64 n),(21,.bool (decide (((i:Nat) : Int)<n))),(24,.slice A b.length cp),(25,.int .i64 ((i:Nat) : Int)),(26,.int .i64 (((i:Nat) : Int)/8)),(27,.pointer (some (⟨t,u+(((((i:Nat) : Int)/8)).toNat),none⟩))),(28,.int .u8 (b.getD (((((i:Nat) : Int)/8)).toNat) 0)),(29,.int .i64 (b.getD (((((i:Nat) : Int)/8)).toNat) 0))]) (fun(x:Nat × Int) w'=>aD [] I w'∧(x.1≤i%8)∧(x.2=b.getD (i/8) 0/2 ^ x.1)) (fun x=>8-x.1) (0,(b.getD (((((i:Nat) : Int)/8)).toNat) 0)) ⟨aD.refl _ _,(by(try dsimp only);omega),(by(try dsimp only);rw[hi8,Int.pow_zero,Int.ediv_one])⟩ ?_
 rintro⟨k,c⟩ ai ⟨q,a0,a1⟩
 refine i1 [(0,.slice A b.length cp),(1,.int .i64 n),(4,.slice none 0 0),(5,.bool false),(6,.slice B L.length cq),(7,.int .i64 ((i:Nat) : Int)),(8,.int .i64 c),(9,.int .i64 ((k:Nat) : Int)),(19,.int .i64 ((i:Nat) : Int)),(20,.int .i64 n),(21,.bool (decide (((i:Nat) : Int)<n))),(24,.slice A b.length cp),(25,.int .i64 ((i:Nat) : Int)),(26,.int .i64 (((i:Nat) : Int)/8)),(27,.pointer (some (⟨t,u+(((((i:Nat) : Int)/8)).toNat),none⟩))),(28,.int .u8 (b.getD (((((i:Nat) : Int)/8)).toNat) 0)),(29,.int .i64 (b.getD (((((i:Nat) : Int)/8)).toNat) 0))] ?_
 have aj:k≤i%8:=a0
 have y:c=b.getD (i/8) 0/2 ^ k:=a1
 have hcr:=tK (hb _ (rQ (l:=b) (i:=i/8) (by omega))) y
 refine sq<|sg<|Pl 2<|L0<|Oe (.int .i64 (Int.tmod ((i:Nat) : Int) 8)) (.int .i64 (((i:Nat) : Int)%8)) (congrArg (Value.int .i64) (Int.tmod_eq_emod_of_nonneg (by omega)))<|Pl 1<|nt<|?_
 refine cb ((decide (((k:Nat) : Int)<(((i:Nat) : Int)%8)))) (fun z=>?_) (fun z=>?_)
 have a2:=of_decide_eq_true z
 refine bi<|sq<|bk<|go<|Pl 1<|L0<|Oe (.int .i64 (IntKind.i64.wrap (Int.tdiv c 2))) (.int .i64 (c/2)) (congrArg (Value.int .i64) (fA (by omega) (by omega)))<|Pl 1<|nl<|bn<|tn<|go<|Pl 1<|L0<|Oi (((k:Nat) : Int)+1)<|?_
 exact Pl 1<|nl<|fF ((k+1),(c/2)) ⟨q,(by(try dsimp only);omega),rz y⟩ (by omega)
 have a2:=of_decide_eq_false z
 refine xt<|tx<|tx<|bx<|tn<|go<|Pl 2<|L0<|Oe (.int .i64 (Int.tmod c 2)) (.int .i64 (c%2)) (congrArg (Value.int .i64) (Int.tmod_eq_emod_of_nonneg (by omega)))<|Pl 1<|L0<|dD (m:=1) (e:=4) #[.bool ((c%2)==1)] fun ak al a3 a4 C=>?_
 have a5:=yM a3 (xs:=[((c%2)==1)]) (by as_aux_lemma=>kernel_rfl)  (by(try simp only[List.length_cons,List.length_nil]);omega) a4
 refine L0<|cR tF (xs:=L) (ys:=([((c%2)==1)])) (.bool false) 1 (ax r (aF q C) (fun x hx=>ay) (fun _ _ h=>h)) (a5).rd (by(try simp only[List.length_append,List.length_cons,List.length_nil,aC]);omega) (le (le j.size q.size) C.size) fun a6 a7 am a8 a9=>Pl 1<|nl<|bn<|tn<|go<|Pl 1<|L0<|Oi (((i:Nat) : Int)+1)<|Pl 1<|nl<|?_
 exact fF ((i+1),(L++[((c%2)==1)]),a6,a7) ⟨(ut (aF j q) (ut (aD.mono (S':=(ob B++[])) C au) a9 (av il au)) (av (aV r lr) au)),a8,(by(try dsimp only);omega),(by(try dsimp only);rw[o,List.range_succ,List.map_append];show _++[_]=_++[cC b i];unfold cC;rw[y,show k=i%8 from by omega])⟩ (by omega)
 have X:=of_decide_eq_false s
 refine xt<|tx<|tx<|bx<|tn<|sq<|sq<|Rg 6 (fun w'=>aT false w' (.slice A b.length cp) b) fun an J=>?_
 have M:=aF j J
 have D:=aT.old h M
 refine bg (aK.any D (fun _ _ h=>h)) fun E=>Rt 0 E<|Rt 3 E<|Rr 4 E (.string (strOfNums b)) (fun _ hs=>cL (A:=A) (n:=b.length) (c:=cp) rfl (by kernel_rfl) Tryz.underlying22 Tryz.underlying5 Tryz.underlying9 hs)<|?_
 have N:=ax r J (fun x hx=>ay) (fun _ _ h=>h)
 refine R0 1 rfl<|Oc<|ej (xW (N).rd (by omega)) fun aa ab ao O ap aq F=>?_
 have P:=aT.old D F
 refine bg (aK.any P (fun _ _ h=>h)) fun ar=>R0 2 rfl<|g9 (.string (strOfNums (cM L))) (cL (A:=aa) (n:=(cM L).length) (c:=ab) rfl (by kernel_rfl) Tryz.underlying22 Tryz.underlying5 Tryz.underlying9 (O).rd)<|bg (aK.any P (fun _ _ h=>h)) fun ac=>Rr 5 ac (.bool (!(decide ((cM L)=b)))) (fun _ _=>t4 (a:=(strOfNums (cM L))) (b:=(strOfNums b)) rfl (by kernel_rfl) (by kernel_rfl) (iv (O).rd D))<|re<|tn<|?_
 have Q:=aF M F
 refine cb ((!(decide ((cM L)=b)))) (fun f=>?_) (fun f=>?_)
 have G:(decide ((cM L)=b))=false:=by simpa using f
 have ad:=of_decide_eq_false G
 refine sg<|Pl 2<|nt<|rt<|tr<|rr (.tuple #[.slice none 0 0,.bool false])<|?_
 have hL:L=(List.range n.toNat).map (cC b):=by rw[o,show i=n.toNat from by omega]
 have hu:=oA (n:=n) hb (by omega)
 rw[if_neg (by rw[← hL];simpa using f)] at hu
 exact eR hu Q
 have G:(decide ((cM L)=b))=true:=by simpa using f
 have ad:=of_decide_eq_true G
 refine bi<|sg<|Pl 3<|nt<|rt<|rr (.tuple #[.slice B L.length cq,.bool true])<|?_
 have hL:L=(List.range n.toNat).map (cC b):=by rw[o,show i=n.toNat from by omega]
 have hu:=oA (n:=n) hb (by omega)
 rw[if_pos (by rw[← hL];simpa using f),← hL] at hu
 exact⟨_,by rw[hu];rfl,by rw[hu];exact(ax N F (fun x hx=>ay) (fun _ _ h=>h)),Q⟩
theorem vh{m:Md}{v:Value}{b:List Int}{n:Int}{w:World}(h:aT m w v b)(hl:b.length≤1048576)(hn : -1048576≤n∧n≤1048576) : Calls Tryz.prog 156 #[v,.int .i64 n] w (fz b n w):=by
  obtain⟨A,c,rfl,_,_⟩:=h.shape
  exact sR h hl hn
open Go.RowKit
def wl (w0:World)(m:Md)(A:Option Addr)(cp:Nat)(full:List Int)(g gm:Nat)(C':ah)(cs:Array Value)(w:World)(e:Ending)(w':World) : Prop:=e = .returned (.tuple #[])∧RC w0 m A cp full w' g C'∧w'.heap[gm]? = some (.cells cs 30 (0,0))∧aD [g,gm] w w'
theorem mz{w0:World}{m:Md}{A:Option Addr}{cp:Nat}{full:List Int}{w:World}{g gm:Nat}{c:Int}{C:ah}{most:Int}(hcode:B8 c)(hC:RC w0 m A cp full w g C)(hm:w.heap[gm]? = some (.cells (mC c) 30 (0,0)))(hgm:w0.heap.size≤gm)(hne:g≠gm) :
    Calls Tryz.prog 150 #[.pointer (some ⟨g,0,none⟩),.pointer (some ⟨gm,0,none⟩),.int .i64 most] w (wl w0 m A cp full g gm (bB C most) (mG c 0 C.wordV (C.wordsC 1).wordV 0 0 0 0 0 0 0 0 nS nS nS nS 0 0 0 0 0 nS) w):=by
 obtain⟨hcode1,hcode2⟩:=hcode
 have hrng:=bU (RC.rng hC)
 refine en 39 Tryz.func150 rfl<|sg<|Pl 2<|L0<|Oc<|m3 (cV hC) fun G t e H=>Pl 2<|?_
 refine L0<|bX (aX e (Ne.symm hne) hm) 2 (mG c 0 C.wordV 0 0 0 0 0 0 0 0 0 nS nS nS nS 0 0 0 0 0 nS) fun I dx f=>ng<|Pl 2<|?_
 have h:=us e f
 refine L0<|Oc<|m3 (cV (RC.upd t f (aa hne ay) (hC.u.trans' h (fun x hx=>.inr (by simp at hx;rcases hx with rfl | rfl;exact hC.new;exact hgm))))) fun J v i L=>Pl 2<|?_
 refine L0<|bX (aX i (Ne.symm hne) dx) 3 (mG c 0 C.wordV ((C.wordsC 1).wordV) 0 0 0 0 0 0 0 0 nS nS nS nS 0 0 0 0 0 nS) fun M j k=>ng<|Pl 3<|L0<|aU j 3<|L0<|Oi ((C.wordsC 1).wordV)<|Pl 1<|ng<|Pl 4<|cu 4 [25] 29 (((decide (0<((C.wordsC 1).wordV)))&&(decide (((C.wordsC 1).wordV)≤most)))) (fun K l=>?_) ?_
 refine bl 25 ((decide (0<((C.wordsC 1).wordV)))) (fun b=>?_) (fun b=>?_)
 have y:=of_decide_eq_true b
 exact Pl 4<|ce l (decide (((C.wordsC 1).wordV)≤most)) (by rw[b];rfl)
 have y:=of_decide_eq_false b
 exact Pl 4<|ce l false (by rw[b];rfl)
 have o:=ut h (us i k) (ac im (ac im au))
 refine L0<|Oc<|m2 (aY (((decide (0<((C.wordsC 1).wordV)))&&(decide (((C.wordsC 1).wordV)≤most)))) 5 (RC.upd v k (aa hne ay) (hC.u.trans' o (fun x hx=>.inr (by simp at hx;rcases hx with rfl | rfl;exact hC.new;exact hgm))))) fun z B p=>?_
 refine fw B fun x36 D q=>?_
 refine nt<|go<|Pl 4<|?_
 have r:=aX p (Ne.symm hne) j
 refine L0<|aU r 2<|Pl 1<|L0<|Oc<|m1 (qy (a:=C.wordV) (n:=(C.wordsC 1).wordV) (w:=z) (by omega) (by omega)) fun N d=>?_
 refine L0<|Oc<|m2 (aY ((dp C.wordV ((C.wordsC 1).wordV))) 7 (RC.upd q d ay (aD.step (RC.u q) d))) fun O E F=>nl<|rm (.tuple #[])<|?_
 subst D
 have hs:bB C most=((((C.wordsC 1).wordsC 1).need ((decide (0<((C.wordsC 1).wordV)))&&(decide (((C.wordsC 1).wordV)≤most))) 5).need (dp C.wordV ((C.wordsC 1).wordV)) 7):=by
   unfold bB jd
   (try simp only[bs,if_true,if_false,decide_true,decide_false,du,reduceIte])
   all_goals rfl
 rw[hs]
 have s:=uz d F
 exact⟨rfl,E,(aX s (Ne.symm hne) r),(u1 o (u1 p s im) im)⟩
theorem kn{m:Md}{A:Option Addr}{cp:Nat}{b:List Int}{w:World}{c:Int}(hcode:B8 c)(hsl:aT m w (.slice A b.length cp) b)(hb:b.length≤1048576) :
    Calls Tryz.prog 93 #[.int .i64 0,.int .u8 c,.slice A b.length cp] w (dk (.slice A b.length cp) b (ae aE 0 c b) w):=by
 obtain⟨hcode1,hcode2⟩:=hcode
 have hln:(b.length:Int)≤1048576:=by omega
 refine en 113 Tryz.func93 rfl<|sg<|L0<|bE mZ fun aV d2 r i f=>Pl 1<|nt<|sq<|sg<|Pl 6<|nt<|c0<|?_
 refine bi<|sg<|Pl 2<|L0<|dq #[.slice A b.length cp,.int .i64 0,.bool false,.int .i64 0] fun j d3 a l g=>Pl 1<|ng<|Pl 2<|L0<|bE mZ fun ab d4 d ad N=>L0<|aW ad (mC c) fun a2 a3 E=>?_
 refine nt<|sq<|sg<|Pl 1<|nt<|bk<|sq<|sg<|Pl 2<|nl<|?_
 refine tn<|?_
 have O:=ud N E d
 have o:=aF g O
 have s:=aF f o
 refine cb ((c==1)) (fun k=>?_) (fun k=>?_)
 have bZ:=al k
 refine bi<|ct k<|sq<|sg<|Pl 2<|nt<|c1<|sg<|Pl 1<|?_
 have af:RC w _ A cp b a2 j (ah.mk b false 0):=⟨hsl,s,(Nat.le_trans f.size a),⟨0,(ub O l),Nat.zero_le _,rfl⟩,by omega⟩
 have aZ:=nb (am l) lr d
 refine L0<|Oc<|m3 (mz (most:=2000) (b8 (by omega)) af a3 (Nat.le_trans (le f.size g.size) d) aZ) fun d5 c2 c3 c4=>?_
 have d6:=bU (RC.rng af)
 have d7:=bU (c:=(ah.mk b false 0).wordsC 1) (cN (RC.rng af) 1)
 refine nt<|xt<|tx<|bx<|tn<|sg<|Pl 1<|L0<|Oc<|m2 (eh c2) fun d8 aj b0=>nt<|sq<|sq<|?_
 refine go<|Pl 3<|L0<|dY (p:=⟨j,3,none⟩) (v:=.int .i64 (((bB (ah.mk b false 0) 2000).endC).e)) (RC.fld aj)<|Pl 1<|nt<|?_
 have ak:=u1 c4 b0 im
 have b1:=ut s ak (ac (ni f.size a) (ac (ni (le f.size g.size) d) au))
 refine cb (((((bB (ah.mk b false 0) 2000).endC).e)!=0)) (fun P=>?_) (fun P=>?_)
 have an:=aq P
 refine sq<|Rg 7 (fun w'=>w'.cell? ⟨j,3,none⟩=some (.int .i64 (((bB (ah.mk b false 0) 2000).endC).e))) fun d9 a4=>?_
 have b2:=RC.upd aj a4 ay (aD.step (RC.u aj) a4)
 refine bg (RC.fld b2) fun Q=>Rt 0 Q<|Rt 1 Q<|Rt 2 Q<|Rt 3 Q<|Rl 4 Q (fun _ hs=>hs)<|?_
 refine R0 5 rfl<|aW (ub (ut o (aF ak a4) (ac (nr a) (ac (ni g.size d) au))) i) mZ fun da c5 b3=>?_
 have b4:=ud b1 (uz a4 b3) r
 refine bg (RC.fld (RC.upd b2 b3 (aa (Ne.symm (nb (am i) lr a)) ay) b4)) fun c6=>Rt 6 c6<|re<|tn<|rt<|tr<|bz c5 (.int .i64 (((bB (ah.mk b false 0) 2000).endC).e))<|?_
 have hs:ae aE 0 c b=aH (aQ.mk c 0 ((ah.mk b false 0).wordV) (((ah.mk b false 0).wordsC 1).wordV) 0 0 0 0 0 0 0 0 [] [] [] [] 0 0 0 0 0 []) (bB (ah.mk b false 0) 2000):=by
   unfold ae aE cK cA cv eC kR fo kS kq kE dl dZ
   (try simp only[k,P,bs,if_true,if_false,decide_true,decide_false,eq_self,true_or,or_true,or_false,false_or,if_true,if_false,cl,cj,cm,ck,reduceIte,du])
   all_goals rfl
 rw[hs]
 exact bh an b4
 have an:=ai P
 refine bi<|sg<|?_
 refine L0<|ci (aX b0 (Ne.symm aZ) c3)<|?_
 refine L0<|aW (ub (ut o ak (ac (nr a) (ac (ni g.size d) au))) i) (mG c 0 ((ah.mk b false 0).wordV) (((ah.mk b false 0).wordsC 1).wordV) 0 0 0 0 0 0 0 0 nS nS nS nS 0 0 0 0 0 nS) fun db c7 c8=>Pl 1<|nt<|rt<|bz c7 (.int .i64 0)<|?_
 have hs:ae aE 0 c b=aH (aQ.mk c 0 ((ah.mk b false 0).wordV) (((ah.mk b false 0).wordsC 1).wordV) 0 0 0 0 0 0 0 0 [] [] [] [] 0 0 0 0 0 []) (bB (ah.mk b false 0) 2000):=by
   unfold ae aE cK cA cv eC kR fo kS kq kE dl dZ
   (try simp only[k,P,bs,if_true,if_false,decide_true,decide_false,eq_self,true_or,or_true,or_false,false_or,if_true,if_false,cl,cj,cm,ck,reduceIte,du])
   all_goals rfl
 rw[hs]
 exact bo an ⟨_,_,_,_,_,rfl,aK.nil ..,aK.nil ..,(fun _ _ _=>aK.nil ..),aK.nil ..,aK.nil ..,⟨(b8 (x:=c) (by omega)),(b8 (x:=0) (by omega)),(aB (x:=(ah.mk b false 0).wordV) (by omega)),(aB (x:=((ah.mk b false 0).wordsC 1).wordV) (by omega)),(aB (x:=0) (by omega)),(aB (x:=0) (by omega)),(aB (x:=0) (by omega)),(aB (x:=0) (by omega)),(aB (x:=0) (by omega)),(aB (x:=0) (by omega)),(aB (x:=0) (by omega)),(aB (x:=0) (by omega)),(b8 (x:=0) (by omega)),(b8 (x:=0) (by omega)),(b8 (x:=0) (by omega)),(b8 (x:=0) (by omega)),(b8 (x:=0) (by omega))⟩⟩ (ud b1 c8 r)
 have bZ:=ap k
 refine go<|Pl 2<|nt<|cb ((c==2)) (fun q=>?_) (fun q=>?_)
 have c9:=al q
 refine sq<|sg<|Pl 2<|nt<|c1<|sg<|Pl 1<|?_
 have ao:RC w _ A cp b a2 j (ah.mk b false 0):=⟨hsl,s,(Nat.le_trans f.size a),⟨0,(ub O l),Nat.zero_le _,rfl⟩,by omega⟩
 have b5:=nb (am l) lr d
 refine L0<|Oc<|m3 (mz (most:=2000) (b8 (by omega)) ao a3 (Nat.le_trans (le f.size g.size) d) b5) fun dc ca cc cd=>?_
 have dd:=bU (RC.rng ao)
 have de:=bU (c:=(ah.mk b false 0).wordsC 1) (cN (RC.rng ao) 1)
 refine nt<|xt<|tx<|bx<|tn<|sg<|Pl 1<|L0<|Oc<|m2 (eh ca) fun df ar b6=>nt<|sq<|sq<|?_
 refine go<|Pl 3<|L0<|dY (p:=⟨j,3,none⟩) (v:=.int .i64 (((bB (ah.mk b false 0) 2000).endC).e)) (RC.fld ar)<|Pl 1<|nt<|?_
 have av:=u1 cd b6 im
 have b7:=ut s av (ac (ni f.size a) (ac (ni (le f.size g.size) d) au))
 refine cb (((((bB (ah.mk b false 0) 2000).endC).e)!=0)) (fun R=>?_) (fun R=>?_)
 have aw:=aq R
 refine sq<|Rg 7 (fun w'=>w'.cell? ⟨j,3,none⟩=some (.int .i64 (((bB (ah.mk b false 0) 2000).endC).e))) fun dg a5=>?_
 have b9:=RC.upd ar a5 ay (aD.step (RC.u ar) a5)
 refine bg (RC.fld b9) fun S=>Rt 0 S<|Rt 1 S<|Rt 2 S<|Rt 3 S<|Rl 4 S (fun _ hs=>hs)<|?_
 refine R0 5 rfl<|aW (ub (ut o (aF av a5) (ac (nr a) (ac (ni g.size d) au))) i) mZ fun dh cf ba=>?_
 have bb:=ud b7 (uz a5 ba) r
 refine bg (RC.fld (RC.upd b9 ba (aa (Ne.symm (nb (am i) lr a)) ay) bb)) fun ch=>Rt 6 ch<|re<|tn<|rt<|tr<|bz cf (.int .i64 (((bB (ah.mk b false 0) 2000).endC).e))<|?_
 have hs:ae aE 0 c b=aH (aQ.mk c 0 ((ah.mk b false 0).wordV) (((ah.mk b false 0).wordsC 1).wordV) 0 0 0 0 0 0 0 0 [] [] [] [] 0 0 0 0 0 []) (bB (ah.mk b false 0) 2000):=by
   unfold ae aE cK cA cv eC kR fo kS kq kE dl dZ
   (try simp only[k,q,R,bs,if_true,if_false,decide_true,decide_false,eq_self,true_or,or_true,or_false,false_or,if_true,if_false,cl,cj,cm,ck,reduceIte,du])
   all_goals rfl
 rw[hs]
 exact bh aw bb
 have aw:=ai R
 refine bi<|sg<|?_
 refine L0<|ci (aX b6 (Ne.symm b5) cc)<|?_
 refine L0<|aW (ub (ut o av (ac (nr a) (ac (ni g.size d) au))) i) (mG c 0 ((ah.mk b false 0).wordV) (((ah.mk b false 0).wordsC 1).wordV) 0 0 0 0 0 0 0 0 nS nS nS nS 0 0 0 0 0 nS) fun di co cq=>Pl 1<|nt<|rt<|bz co (.int .i64 0)<|?_
 have hs:ae aE 0 c b=aH (aQ.mk c 0 ((ah.mk b false 0).wordV) (((ah.mk b false 0).wordsC 1).wordV) 0 0 0 0 0 0 0 0 [] [] [] [] 0 0 0 0 0 []) (bB (ah.mk b false 0) 2000):=by
   unfold ae aE cK cA cv eC kR fo kS kq kE dl dZ
   (try simp only[k,q,R,bs,if_true,if_false,decide_true,decide_false,eq_self,true_or,or_true,or_false,false_or,if_true,if_false,cl,cj,cm,ck,reduceIte,du])
   all_goals rfl
 rw[hs]
 exact bo aw ⟨_,_,_,_,_,rfl,aK.nil ..,aK.nil ..,(fun _ _ _=>aK.nil ..),aK.nil ..,aK.nil ..,⟨(b8 (x:=c) (by omega)),(b8 (x:=0) (by omega)),(aB (x:=(ah.mk b false 0).wordV) (by omega)),(aB (x:=((ah.mk b false 0).wordsC 1).wordV) (by omega)),(aB (x:=0) (by omega)),(aB (x:=0) (by omega)),(aB (x:=0) (by omega)),(aB (x:=0) (by omega)),(aB (x:=0) (by omega)),(aB (x:=0) (by omega)),(aB (x:=0) (by omega)),(aB (x:=0) (by omega)),(b8 (x:=0) (by omega)),(b8 (x:=0) (by omega)),(b8 (x:=0) (by omega)),(b8 (x:=0) (by omega)),(b8 (x:=0) (by omega))⟩⟩ (ud b7 cq r)
 have c9:=ap q
 refine sg<|Pl 2<|nt<|cb ((c==5)) (fun z=>?_) (fun z=>?_)
 have cr:=al z
 refine sg<|Pl 1<|?_
 have cs:RC w _ A cp b a2 j (ah.mk b false 0):=⟨hsl,s,(Nat.le_trans f.size a),⟨0,(ub O l),Nat.zero_le _,rfl⟩,by omega⟩
 refine L0<|Oc<|m3 (cV cs) fun dj cw bc dm=>Pl 1<|?_
 have T:=nb (am l) lr d
 refine L0<|bX (aX bc (Ne.symm T) a3) 2 (mG c 0 ((ah.mk b false 0).wordV) 0 0 0 0 0 0 0 0 0 nS nS nS nS 0 0 0 0 0 nS) fun dn cx bd=>ng<|Pl 1<|?_
 have az:=us bc bd
 have be:=ut s az (ac (ni f.size a) (ac (ni (le f.size g.size) d) au))
 refine L0<|Oc<|m3 (cV (RC.upd cw bd (aa T ay) be)) fun dp cy bf dr=>Pl 1<|?_
 refine L0<|bX (aX bf (Ne.symm T) cx) 4 (mG c 0 ((ah.mk b false 0).wordV) 0 (((ah.mk b false 0).wordsC 1).wordV) 0 0 0 0 0 0 0 nS nS nS nS 0 0 0 0 0 nS) fun ds aC bj=>nt<|go<|Pl 2<|L0<|aU aC 4<|Pl 2<|cu 4 [62] 66 ((((((ah.mk b false 0).wordsC 1).wordV)==0)||((((ah.mk b false 0).wordsC 1).wordV)==65280))) (fun K bm=>?_) ?_
 refine bl 62 (((((ah.mk b false 0).wordsC 1).wordV)==0)) (fun U=>?_) (fun U=>?_)
 have cz:=al U
 exact Pl 4<|ce bm true (by rw[U];rfl)
 have cz:=ap U
 exact Pl 1<|L1<|aU aC 4<|Pl 2<|ce bm ((((ah.mk b false 0).wordsC 1).wordV)==65280) (by rw[U];rfl)
 have aG:=us bf bj
 have bp:=ut be aG (ac (ni f.size a) (ac (ni (le f.size g.size) d) au))
 refine L0<|Oc<|m2 (aY ((((((ah.mk b false 0).wordsC 1).wordV)==0)||((((ah.mk b false 0).wordsC 1).wordV)==65280))) 6 (RC.upd cy bj (aa T ay) bp)) fun dt cB cC=>?_
 refine fw cB fun J bq cD=>?_
 refine nl<|bn<|tn<|sg<|Pl 1<|L0<|Oc<|m2 (eh cD) fun dv aI cE=>nt<|sq<|sg<|Pl 3<|L0<|dY (p:=⟨j,3,none⟩) (v:=.int .i64 J.endC.e) (RC.fld aI)<|?_
 refine Pl 1<|nt<|?_
 have a6:=u1 cC cE im
 have bt:=ud bp a6 (le f.size a)
 refine cb ((J.endC.e != 0)) (fun V=>?_) (fun V=>?_)
 have aJ:=aq V
 refine sq<|Rg 7 (fun w'=>w'.cell? ⟨j,3,none⟩=some (.int .i64 J.endC.e)) fun dw a7=>?_
 have bv:=RC.upd aI a7 ay (aD.step (RC.u aI) a7)
 refine bg (RC.fld bv) fun W=>Rt 0 W<|Rt 1 W<|Rt 2 W<|Rt 3 W<|Rl 4 W (fun _ hs=>hs)<|?_
 refine R0 5 rfl<|aW (ub (ut o (ut az (u1 aG (aF a6 a7) im) (ac im (ac im au))) (ac (nr a) (ac (ni g.size d) au))) i) mZ fun dx cF bw=>?_
 have bA:=ud bt (uz a7 bw) r
 refine bg (RC.fld (RC.upd bv bw (aa (Ne.symm (nb (am i) lr a)) ay) bA)) fun cG=>Rt 6 cG<|re<|tn<|rt<|tr<|bz cF (.int .i64 J.endC.e)<|?_
 have hs:ae aE 0 c b=aH (aQ.mk c 0 ((ah.mk b false 0).wordV) 0 (((ah.mk b false 0).wordsC 1).wordV) 0 0 0 0 0 0 0 [] [] [] [] 0 0 0 0 0 []) J:=by
   subst bq
   unfold ae aE cK cA cv eC kR fo kS kq kE dl dZ
   (try simp only[k,q,z,V,bs,if_true,if_false,decide_true,decide_false,eq_self,true_or,or_true,or_false,false_or,if_true,if_false,cl,cj,cm,ck,reduceIte,du])
   all_goals rfl
 rw[hs]
 exact bh aJ bA
 have aJ:=ai V
 refine bi<|sg<|?_
 refine L0<|ci (aX a6 (Ne.symm T) aC)<|?_
 refine L0<|aW (ub (ut o (ut az (u1 aG a6 im) (ac im (ac im au))) (ac (nr a) (ac (ni g.size d) au))) i) (mG c 0 ((ah.mk b false 0).wordV) 0 (((ah.mk b false 0).wordsC 1).wordV) 0 0 0 0 0 0 0 nS nS nS nS 0 0 0 0 0 nS) fun dy cH cI=>Pl 1<|nt<|rt<|bz cH (.int .i64 0)<|?_
 have hs:ae aE 0 c b=aH (aQ.mk c 0 ((ah.mk b false 0).wordV) 0 (((ah.mk b false 0).wordsC 1).wordV) 0 0 0 0 0 0 0 [] [] [] [] 0 0 0 0 0 []) J:=by
   subst bq
   unfold ae aE cK cA cv eC kR fo kS kq kE dl dZ
   (try simp only[k,q,z,V,bs,if_true,if_false,decide_true,decide_false,eq_self,true_or,or_true,or_false,false_or,if_true,if_false,cl,cj,cm,ck,reduceIte,du])
   all_goals rfl
 rw[hs]
 exact bo aJ ⟨_,_,_,_,_,rfl,aK.nil ..,aK.nil ..,(fun _ _ _=>aK.nil ..),aK.nil ..,aK.nil ..,⟨(b8 (x:=c) (by omega)),(b8 (x:=0) (by omega)),(aB (x:=(ah.mk b false 0).wordV) (by omega)),(aB (x:=0) (by omega)),(aB (x:=((ah.mk b false 0).wordsC 1).wordV) (by omega)),(aB (x:=0) (by omega)),(aB (x:=0) (by omega)),(aB (x:=0) (by omega)),(aB (x:=0) (by omega)),(aB (x:=0) (by omega)),(aB (x:=0) (by omega)),(aB (x:=0) (by omega)),(b8 (x:=0) (by omega)),(b8 (x:=0) (by omega)),(b8 (x:=0) (by omega)),(b8 (x:=0) (by omega)),(b8 (x:=0) (by omega))⟩⟩ (ud bt cI r)
 have cr:=ap z
 refine sg<|Pl 2<|nt<|cb ((c==15)) (fun L=>?_) (fun L=>?_)
 have cJ:=al L
 refine sg<|Pl 1<|?_
 have aL:RC w _ A cp b a2 j (ah.mk b false 0):=⟨hsl,s,(Nat.le_trans f.size a),⟨0,(ub O l),Nat.zero_le _,rfl⟩,by omega⟩
 have F:=nb (am l) lr d
 refine L0<|Oc<|m3 (mz (most:=1968) (b8 (by omega)) aL a3 (Nat.le_trans (le f.size g.size) d) F) fun dz cL cM G=>?_
 have dA:=bU (RC.rng aL)
 have dB:=bU (c:=(ah.mk b false 0).wordsC 1) (cN (RC.rng aL) 1)
 refine nt<|sq<|sg<|Pl 2<|nt<|c0<|bi<|sg<|Pl 1<|L0<|Oc<|m3 (dU cL) fun cO bC B dD=>?_
 refine L0<|Oi ((bB (ah.mk b false 0) 1968).byteV)<|Pl 1<|ng<|Pl 3<|?_
 have bD:=aX B (Ne.symm F) cM
 refine L0<|aU bD 3<|L0<|Oi (((ah.mk b false 0).wordsC 1).wordV)<|L0<|Oc<|m1 (y4 (n:=((ah.mk b false 0).wordsC 1).wordV) (w:=cO) (by omega)) fun dE t=>Pl 1<|?_
 refine L0<|Oc<|m2 (aY ((((bB (ah.mk b false 0) 1968).byteV)==(dC (((ah.mk b false 0).wordsC 1).wordV)))) 5 (RC.upd bC t ay (aD.step (RC.u bC) t))) fun dF cP H=>?_
 refine fw cP fun I bF bG=>?_
 refine nt<|sq<|Rg 12 (fun w'=>w'.cell? ⟨ab,3,none⟩=some (.int .u16 (((ah.mk b false 0).wordsC 1).wordV))) fun dG y=>?_
 have bH:=uz t (aF H y)
 have bI:=aX bH (Ne.symm F) bD
 refine bg (ag bI rfl) fun X=>Rt 0 X<|Rt 1 X<|Rt 3 X<|Rl 4 X (fun _ hs=>hs)<|Rr 5 X (.int .i64 (((ah.mk b false 0).wordsC 1).wordV)) (fun _ _=>cg (.int .i64 (IntKind.i64.wrap (((ah.mk b false 0).wordsC 1).wordV))) (by kernel_rfl) (congrArg (Value.int .i64) (i64_in (by omega))))<|?_
 have bJ:=RC.upd bG y ay (aD.step (RC.u bG) y)
 refine R0 2 rfl<|Oc<|oO (fu (n:=(bB (ah.mk b false 0) 1968).byteV) (by omega) bJ) fun cQ cR dH cS aM C=>?_
 have dI:=Nat.le_trans (ah.bytesR_le I ((bB (ah.mk b false 0) 1968).byteV)) (RC.clen bJ)
 have bK:=aX C (Ne.symm F) bI
 refine bg (ag bK rfl) fun dJ=>R0 6 rfl<|Oc (args:=#[.slice cQ ((I.bytesR ((bB (ah.mk b false 0) 1968).byteV)).length) cR,.int .i64 (((ah.mk b false 0).wordsC 1).wordV)])<|ej (vh (n:=((ah.mk b false 0).wordsC 1).wordV) (cS _ _ (RC.rd aM)) (by omega) (by omega)) fun bL bM dK D dL dM a8=>?_
 have bN:=ub a8 bK
 refine bg (ag bN rfl) fun Y=>Rt 7 Y<|Rt 8 Y<|Rt 9 Y<|Rt 10 Y<|Rt 11 Y<|re<|tn<|sg<|Pl 2<|?_
 refine L0<|Oc<|m2 (aY ((cn (I.bytesR ((bB (ah.mk b false 0) 1968).byteV)) (((ah.mk b false 0).wordsC 1).wordV)).isSome) 6 (RC.upd aM a8 ay (aD.step (RC.u aM) a8))) fun dN cT bO=>?_
 refine fw cT fun M bP cU=>?_
 refine nt<|go<|Pl 2<|?_
 refine L0<|bX (aX bO (Ne.symm F) bN) 13 (mG c 0 ((ah.mk b false 0).wordV) (((ah.mk b false 0).wordsC 1).wordV) 0 0 0 0 0 0 0 0 nS (.slice bL (((cn (I.bytesR ((bB (ah.mk b false 0) 1968).byteV)) (((ah.mk b false 0).wordsC 1).wordV)).getD []).length) bM) nS nS 0 0 0 0 0 nS) fun dO cW bQ=>nl<|bn<|tn<|sg<|Pl 1<|?_
 have aN:=us bO bQ
 have aO:=ut G (ui B (ui bH (ui C (uz a8 aN)))) (ac im (ac im au))
 have bR:=ut s aO (ac (ni f.size a) (ac (ni (le f.size g.size) d) au))
 refine L0<|Oc<|m2 (eh (RC.upd cU bQ (aa F ay) bR)) fun dP aP Z=>nt<|sq<|sg<|Pl 3<|L0<|dY (p:=⟨j,3,none⟩) (v:=.int .i64 M.endC.e) (RC.fld aP)<|Pl 1<|nt<|?_
 have bS:=ud bR Z (le f.size a)
 refine cb ((M.endC.e != 0)) (fun a0=>?_) (fun a0=>?_)
 have aR:=aq a0
 refine sq<|Rg 7 (fun w'=>w'.cell? ⟨j,3,none⟩=some (.int .i64 M.endC.e)) fun dQ a9=>?_
 have bT:=RC.upd aP a9 ay (aD.step (RC.u aP) a9)
 refine bg (RC.fld bT) fun a1=>Rt 0 a1<|Rt 1 a1<|Rt 2 a1<|Rt 3 a1<|Rl 4 a1 (fun _ hs=>hs)<|?_
 have bV:=aF Z a9
 refine R0 5 rfl<|aW (ub (ut o (u1 aO bV im) (ac (nr a) (ac (ni g.size d) au))) i) mZ fun dR cX aS=>?_
 have bW:=ud bS (uz a9 aS) r
 refine bg (RC.fld (RC.upd bT aS (aa (Ne.symm (nb (am i) lr a)) ay) bW)) fun cY=>Rt 6 cY<|re<|tn<|rt<|tr<|bz cX (.int .i64 M.endC.e)<|?_
 have dS:=ax D (ut (aD.mono (S':=[j,ab,aV]) aN (ac im (ac im au))) (us bV aS) (ac im (ac im au))) (fun x hx=>(aa (fun e=>(aA (am l) (le (le (le (le (le (le (le N.size E.size) G.size) B.size) t.size) H.size) y.size) C.size) D) (e▸hx)) (aa (fun e=>(aA (am ad) (le (le (le (le (le (le E.size G.size) B.size) t.size) H.size) y.size) C.size) D) (e▸hx)) (aa (fun e=>(aA (am i) (le (le (le (le (le (le (le (le g.size N.size) E.size) G.size) B.size) t.size) H.size) y.size) C.size) D) (e▸hx)) ay)))) (fun _ _ h=>h)
 have hs:ae aE 0 c b=aH (aQ.mk c 0 ((ah.mk b false 0).wordV) (((ah.mk b false 0).wordsC 1).wordV) 0 0 0 0 0 0 0 0 [] ((cn (I.bytesR ((bB (ah.mk b false 0) 1968).byteV)) (((ah.mk b false 0).wordsC 1).wordV)).getD []) [] [] 0 0 0 0 0 []) M:=by
   subst bP bF
   unfold ae aE cK cA cv eC kR fo kS kq kE dl dZ
   (try simp only[k,q,z,L,a0,bs,if_true,if_false,decide_true,decide_false,eq_self,true_or,or_true,or_false,false_or,if_true,if_false,cl,cj,cm,ck,reduceIte,du])
   all_goals rfl
 rw[hs]
 exact bh aR bW
 have aR:=ai a0
 refine bi<|sg<|?_
 refine L0<|ci (aX Z (Ne.symm F) cW)<|?_
 refine L0<|aW (ub (ut o (u1 aO Z im) (ac (nr a) (ac (ni g.size d) au))) i) (mG c 0 ((ah.mk b false 0).wordV) (((ah.mk b false 0).wordsC 1).wordV) 0 0 0 0 0 0 0 0 nS (.slice bL (((cn (I.bytesR ((bB (ah.mk b false 0) 1968).byteV)) (((ah.mk b false 0).wordsC 1).wordV)).getD []).length) bM) nS nS 0 0 0 0 0 nS) fun dT cZ bY=>Pl 1<|nt<|rt<|bz cZ (.int .i64 0)<|?_
 have hs:ae aE 0 c b=aH (aQ.mk c 0 ((ah.mk b false 0).wordV) (((ah.mk b false 0).wordsC 1).wordV) 0 0 0 0 0 0 0 0 [] ((cn (I.bytesR ((bB (ah.mk b false 0) 1968).byteV)) (((ah.mk b false 0).wordsC 1).wordV)).getD []) [] [] 0 0 0 0 0 []) M:=by
   subst bP bF
   unfold ae aE cK cA cv eC kR fo kS kq kE dl dZ
   (try simp only[k,q,z,L,a0,bs,if_true,if_false,decide_true,decide_false,eq_self,true_or,or_true,or_false,false_or,if_true,if_false,cl,cj,cm,ck,reduceIte,du])
   all_goals rfl
 rw[hs]
 exact bo aR ⟨_,_,_,_,_,rfl,aK.nil ..,((ax D (ut (aD.mono (S':=[j,ab,aV]) aN (ac im (ac im au))) (us Z bY) (ac im (ac im au))) (fun x hx=>(aa (fun e=>(aA (am l) (le (le (le (le (le (le (le N.size E.size) G.size) B.size) t.size) H.size) y.size) C.size) D) (e▸hx)) (aa (fun e=>(aA (am ad) (le (le (le (le (le (le E.size G.size) B.size) t.size) H.size) y.size) C.size) D) (e▸hx)) (aa (fun e=>(aA (am i) (le (le (le (le (le (le (le (le g.size N.size) E.size) G.size) B.size) t.size) H.size) y.size) C.size) D) (e▸hx)) ay)))) (fun _ _ h=>h))).rd,(fun _ _ _=>aK.nil ..),aK.nil ..,aK.nil ..,⟨(b8 (x:=c) (by omega)),(b8 (x:=0) (by omega)),(aB (x:=(ah.mk b false 0).wordV) (by omega)),(aB (x:=((ah.mk b false 0).wordsC 1).wordV) (by omega)),(aB (x:=0) (by omega)),(aB (x:=0) (by omega)),(aB (x:=0) (by omega)),(aB (x:=0) (by omega)),(aB (x:=0) (by omega)),(aB (x:=0) (by omega)),(aB (x:=0) (by omega)),(aB (x:=0) (by omega)),(b8 (x:=0) (by omega)),(b8 (x:=0) (by omega)),(b8 (x:=0) (by omega)),(b8 (x:=0) (by omega)),(b8 (x:=0) (by omega))⟩⟩ (ud bS bY r)
 have cJ:=ap L
 refine sg<|Pl 1<|?_
 refine L0<|aW (ub o i) mZ fun dV d0 d1=>Pl 1<|nt<|rt<|br<|tr<|bz d0 (.int .i64 4)<|?_
 have hs:ae aE 0 c b=(aQ.zero,4):=by
   unfold ae aE cK cA cv eC kR fo kS kq kE dl dZ
   (try simp only[k,q,z,L,bs,if_true,if_false,decide_true,decide_false,eq_self,true_or,or_true,or_false,false_or,if_true,if_false,cl,cj,cm,ck,reduceIte,du])
   all_goals rfl
 rw[hs]
 exact bu (ud s d1 r)
theorem jY{m:Md}{A:Option Addr}{cp:Nat}{b:List Int}{w:World}{c:Int}(hcode:B8 c)(hsl:aT m w (.slice A b.length cp) b)(hb:b.length≤1048576) :
    Calls Tryz.prog 93 #[.int .i64 1,.int .u8 c,.slice A b.length cp] w (dk (.slice A b.length cp) b (ae aE 1 c b) w):=by
 obtain⟨hcode1,hcode2⟩:=hcode
 have hln:(b.length:Int)≤1048576:=by omega
 refine en 113 Tryz.func93 rfl<|sg<|L0<|bE mZ fun cM cO q h d=>Pl 1<|nt<|sq<|sg<|Pl 6<|nt<|c0<|?_
 refine bi<|sg<|Pl 2<|L0<|dq #[.slice A b.length cp,.int .i64 0,.bool false,.int .i64 0] fun j cP a s g=>Pl 1<|ng<|Pl 2<|L0<|bE mZ fun cQ cR f bv bw=>L0<|aW bv (mC c) fun P Q bA=>?_
 refine nt<|sq<|sg<|Pl 1<|nt<|bk<|sq<|sg<|Pl 2<|nl<|?_
 refine tn<|?_
 have B:=ud bw bA f
 have l:=aF g B
 have r:=aF d l
 refine cb ((c==1)) (fun i=>?_) (fun i=>?_)
 have bC:=al i
 refine bi<|ct i<|sq<|sg<|Pl 2<|nt<|c0<|bi<|sg<|?_
 refine Pl 1<|?_
 have bD:RC w _ A cp b P j (ah.mk b false 0):=⟨hsl,r,(Nat.le_trans d.size a),⟨0,(ub B s),Nat.zero_le _,rfl⟩,by omega⟩
 refine L0<|Oc<|m3 (dU bD) fun cS bF bG cT=>L0<|Oi ((ah.mk b false 0).byteV)<|Pl 1<|ng<|Pl 4<|cu 3 [41] 44 (((decide (0<((ah.mk b false 0).byteV)))&&(decide (((ah.mk b false 0).byteV)≤250)))) (fun K ak=>?_) ?_
 refine bl 41 ((decide (0<((ah.mk b false 0).byteV)))) (fun C=>?_) (fun C=>?_)
 have bH:=of_decide_eq_true C
 exact Pl 3<|ce ak (decide (((ah.mk b false 0).byteV)≤250)) (by rw[C];rfl)
 have bH:=of_decide_eq_false C
 exact Pl 3<|ce ak false (by rw[C];rfl)
 refine L0<|Oc<|m2 (aY (((decide (0<((ah.mk b false 0).byteV)))&&(decide (((ah.mk b false 0).byteV)≤250)))) 5 bF) fun cU bI bJ=>?_
 refine fw bI fun x43 an ao=>?_
 refine nt<|go<|Pl 2<|L0<|Oc<|oO (fu (n:=(ah.mk b false 0).byteV) (by omega) ao) fun ar av cW bK bL bM=>?_
 have cX:=Nat.le_trans (ah.bytesR_le x43 ((ah.mk b false 0).byteV)) (RC.clen ao)
 refine Pl 1<|?_
 have aw:=u1 bG (u1 bJ bM im) im
 have Y:=nb (am s) lr f
 refine L0<|bX (aX aw (Ne.symm Y) Q) 14 (mG c 0 0 0 0 0 0 0 0 0 0 0 nS nS (.slice ar ((x43.bytesR ((ah.mk b false 0).byteV)).length) av) nS 0 0 0 0 0 nS) fun cY bN ax=>nl<|bn<|tn<|sg<|Pl 1<|?_
 have Z:=us aw ax
 have az:=ut r Z (ac (ni d.size a) (ac (ni (le d.size g.size) f) au))
 refine L0<|Oc<|m2 (eh (RC.upd bL ax (aa Y ay) az)) fun cZ a0 R=>nt<|sq<|sg<|Pl 3<|L0<|dY (p:=⟨j,3,none⟩) (v:=.int .i64 (((x43.bytesC ((ah.mk b false 0).byteV)).endC).e)) (RC.fld a0)<|Pl 1<|nt<|?_
 have aA:=ud az R (le d.size a)
 refine cb (((((x43.bytesC ((ah.mk b false 0).byteV)).endC).e)!=0)) (fun D=>?_) (fun D=>?_)
 have a1:=aq D
 refine sq<|Rg 7 (fun w'=>w'.cell? ⟨j,3,none⟩=some (.int .i64 (((x43.bytesC ((ah.mk b false 0).byteV)).endC).e))) fun d0 S=>?_
 have aC:=RC.upd a0 S ay (aD.step (RC.u a0) S)
 refine bg (RC.fld aC) fun E=>Rt 0 E<|Rt 1 E<|Rt 2 E<|Rt 3 E<|Rl 4 E (fun _ hs=>hs)<|?_
 refine R0 5 rfl<|aW (ub (ut l (u1 Z (aF R S) im) (ac (nr a) (ac (ni g.size f) au))) h) mZ fun d1 bO aG=>?_
 have aI:=ud aA (uz S aG) q
 refine bg (RC.fld (RC.upd aC aG (aa (Ne.symm (nb (am h) lr a)) ay) aI)) fun bP=>Rt 6 bP<|re<|tn<|rt<|tr<|bz bO (.int .i64 (((x43.bytesC ((ah.mk b false 0).byteV)).endC).e))<|?_
 have hs:ae aE 1 c b=aH (aQ.mk c 0 0 0 0 0 0 0 0 0 0 0 [] [] (x43.bytesR ((ah.mk b false 0).byteV)) [] 0 0 0 0 0 []) (x43.bytesC ((ah.mk b false 0).byteV)):=by
   subst an
   unfold ae aE cK cA cv eC kR fo kS kq kE dl dZ
   (try simp only[i,D,bs,if_true,if_false,decide_true,decide_false,eq_self,true_or,or_true,or_false,false_or,if_true,if_false,cl,cj,cm,ck,reduceIte,du])
   all_goals rfl
 rw[hs]
 exact bh a1 aI
 have a1:=ai D
 refine bi<|sg<|?_
 refine L0<|ci (aX R (Ne.symm Y) bN)<|?_
 refine L0<|aW (ub (ut l (u1 Z R im) (ac (nr a) (ac (ni g.size f) au))) h) (mG c 0 0 0 0 0 0 0 0 0 0 0 nS nS (.slice ar ((x43.bytesR ((ah.mk b false 0).byteV)).length) av) nS 0 0 0 0 0 nS) fun d2 bQ bR=>Pl 1<|nt<|rt<|bz bQ (.int .i64 0)<|?_
 have hs:ae aE 1 c b=aH (aQ.mk c 0 0 0 0 0 0 0 0 0 0 0 [] [] (x43.bytesR ((ah.mk b false 0).byteV)) [] 0 0 0 0 0 []) (x43.bytesC ((ah.mk b false 0).byteV)):=by
   subst an
   unfold ae aE cK cA cv eC kR fo kS kq kE dl dZ
   (try simp only[i,D,bs,if_true,if_false,decide_true,decide_false,eq_self,true_or,or_true,or_false,false_or,if_true,if_false,cl,cj,cm,ck,reduceIte,du])
   all_goals rfl
 rw[hs]
 exact bo a1 ⟨_,_,_,_,_,rfl,aK.nil ..,aK.nil ..,bK,aK.nil ..,aK.nil ..,⟨(b8 (x:=c) (by omega)),(b8 (x:=0) (by omega)),(aB (x:=0) (by omega)),(aB (x:=0) (by omega)),(aB (x:=0) (by omega)),(aB (x:=0) (by omega)),(aB (x:=0) (by omega)),(aB (x:=0) (by omega)),(aB (x:=0) (by omega)),(aB (x:=0) (by omega)),(aB (x:=0) (by omega)),(aB (x:=0) (by omega)),(b8 (x:=0) (by omega)),(b8 (x:=0) (by omega)),(b8 (x:=0) (by omega)),(b8 (x:=0) (by omega)),(b8 (x:=0) (by omega))⟩⟩ (ud aA bR q)
 have bC:=ap i
 refine go<|Pl 2<|nt<|cb ((c==2)) (fun o=>?_) (fun o=>?_)
 have bS:=al o
 refine sq<|sg<|Pl 2<|nt<|c0<|bi<|sg<|Pl 1<|?_
 have bT:RC w _ A cp b P j (ah.mk b false 0):=⟨hsl,r,(Nat.le_trans d.size a),⟨0,(ub B s),Nat.zero_le _,rfl⟩,by omega⟩
 refine L0<|Oc<|m3 (dU bT) fun d3 bV bW d4=>L0<|Oi ((ah.mk b false 0).byteV)<|Pl 1<|ng<|Pl 4<|cu 3 [41] 44 (((decide (0<((ah.mk b false 0).byteV)))&&(decide (((ah.mk b false 0).byteV)≤250)))) (fun K aJ=>?_) ?_
 refine bl 41 ((decide (0<((ah.mk b false 0).byteV)))) (fun F=>?_) (fun F=>?_)
 have bY:=of_decide_eq_true F
 exact Pl 3<|ce aJ (decide (((ah.mk b false 0).byteV)≤250)) (by rw[F];rfl)
 have bY:=of_decide_eq_false F
 exact Pl 3<|ce aJ false (by rw[F];rfl)
 refine L0<|Oc<|m2 (aY (((decide (0<((ah.mk b false 0).byteV)))&&(decide (((ah.mk b false 0).byteV)≤250)))) 5 bV) fun d5 bZ c2=>?_
 refine fw bZ fun k aL aM=>?_
 refine nt<|go<|Pl 2<|L0<|Oc<|oO (fu (n:=(ah.mk b false 0).byteV) (by omega) aM) fun aN aO d6 c3 c4 c5=>?_
 have d7:=Nat.le_trans (ah.bytesR_le k ((ah.mk b false 0).byteV)) (RC.clen aM)
 refine Pl 1<|?_
 have aP:=u1 bW (u1 c2 c5 im) im
 have a2:=nb (am s) lr f
 refine L0<|bX (aX aP (Ne.symm a2) Q) 14 (mG c 0 0 0 0 0 0 0 0 0 0 0 nS nS (.slice aN ((k.bytesR ((ah.mk b false 0).byteV)).length) aO) nS 0 0 0 0 0 nS) fun d8 c6 aR=>nl<|bn<|tn<|sg<|Pl 1<|?_
 have a3:=us aP aR
 have aS:=ut r a3 (ac (ni d.size a) (ac (ni (le d.size g.size) f) au))
 refine L0<|Oc<|m2 (eh (RC.upd c4 aR (aa a2 ay) aS)) fun d9 a4 T=>nt<|sq<|sg<|Pl 3<|L0<|dY (p:=⟨j,3,none⟩) (v:=.int .i64 (((k.bytesC ((ah.mk b false 0).byteV)).endC).e)) (RC.fld a4)<|Pl 1<|nt<|?_
 have aV:=ud aS T (le d.size a)
 refine cb (((((k.bytesC ((ah.mk b false 0).byteV)).endC).e)!=0)) (fun G=>?_) (fun G=>?_)
 have a5:=aq G
 refine sq<|Rg 7 (fun w'=>w'.cell? ⟨j,3,none⟩=some (.int .i64 (((k.bytesC ((ah.mk b false 0).byteV)).endC).e))) fun da U=>?_
 have aZ:=RC.upd a4 U ay (aD.step (RC.u a4) U)
 refine bg (RC.fld aZ) fun H=>Rt 0 H<|Rt 1 H<|Rt 2 H<|Rt 3 H<|Rl 4 H (fun _ hs=>hs)<|?_
 refine R0 5 rfl<|aW (ub (ut l (u1 a3 (aF T U) im) (ac (nr a) (ac (ni g.size f) au))) h) mZ fun db c7 b0=>?_
 have b1:=ud aV (uz U b0) q
 refine bg (RC.fld (RC.upd aZ b0 (aa (Ne.symm (nb (am h) lr a)) ay) b1)) fun c8=>Rt 6 c8<|re<|tn<|rt<|tr<|bz c7 (.int .i64 (((k.bytesC ((ah.mk b false 0).byteV)).endC).e))<|?_
 have hs:ae aE 1 c b=aH (aQ.mk c 0 0 0 0 0 0 0 0 0 0 0 [] [] (k.bytesR ((ah.mk b false 0).byteV)) [] 0 0 0 0 0 []) (k.bytesC ((ah.mk b false 0).byteV)):=by
   subst aL
   unfold ae aE cK cA cv eC kR fo kS kq kE dl dZ
   (try simp only[i,o,G,bs,if_true,if_false,decide_true,decide_false,eq_self,true_or,or_true,or_false,false_or,if_true,if_false,cl,cj,cm,ck,reduceIte,du])
   all_goals rfl
 rw[hs]
 exact bh a5 b1
 have a5:=ai G
 refine bi<|sg<|?_
 refine L0<|ci (aX T (Ne.symm a2) c6)<|?_
 refine L0<|aW (ub (ut l (u1 a3 T im) (ac (nr a) (ac (ni g.size f) au))) h) (mG c 0 0 0 0 0 0 0 0 0 0 0 nS nS (.slice aN ((k.bytesR ((ah.mk b false 0).byteV)).length) aO) nS 0 0 0 0 0 nS) fun dc c9 ca=>Pl 1<|nt<|rt<|bz c9 (.int .i64 0)<|?_
 have hs:ae aE 1 c b=aH (aQ.mk c 0 0 0 0 0 0 0 0 0 0 0 [] [] (k.bytesR ((ah.mk b false 0).byteV)) [] 0 0 0 0 0 []) (k.bytesC ((ah.mk b false 0).byteV)):=by
   subst aL
   unfold ae aE cK cA cv eC kR fo kS kq kE dl dZ
   (try simp only[i,o,G,bs,if_true,if_false,decide_true,decide_false,eq_self,true_or,or_true,or_false,false_or,if_true,if_false,cl,cj,cm,ck,reduceIte,du])
   all_goals rfl
 rw[hs]
 exact bo a5 ⟨_,_,_,_,_,rfl,aK.nil ..,aK.nil ..,c3,aK.nil ..,aK.nil ..,⟨(b8 (x:=c) (by omega)),(b8 (x:=0) (by omega)),(aB (x:=0) (by omega)),(aB (x:=0) (by omega)),(aB (x:=0) (by omega)),(aB (x:=0) (by omega)),(aB (x:=0) (by omega)),(aB (x:=0) (by omega)),(aB (x:=0) (by omega)),(aB (x:=0) (by omega)),(aB (x:=0) (by omega)),(aB (x:=0) (by omega)),(b8 (x:=0) (by omega)),(b8 (x:=0) (by omega)),(b8 (x:=0) (by omega)),(b8 (x:=0) (by omega)),(b8 (x:=0) (by omega))⟩⟩ (ud aV ca q)
 have bS:=ap o
 refine sg<|Pl 2<|nt<|cb ((c==5)) (fun t=>?_) (fun t=>?_)
 have cc:=al t
 refine sg<|Pl 1<|?_
 have cd:RC w _ A cp b P j (ah.mk b false 0):=⟨hsl,r,(Nat.le_trans d.size a),⟨0,(ub B s),Nat.zero_le _,rfl⟩,by omega⟩
 refine L0<|Oc<|m3 (cV cd) fun dd cf b2 de=>Pl 1<|?_
 have I:=nb (am s) lr f
 refine L0<|bX (aX b2 (Ne.symm I) Q) 2 (mG c 0 ((ah.mk b false 0).wordV) 0 0 0 0 0 0 0 0 0 nS nS nS nS 0 0 0 0 0 nS) fun df cg b3=>ng<|Pl 1<|?_
 have a6:=us b2 b3
 have b4:=ut r a6 (ac (ni d.size a) (ac (ni (le d.size g.size) f) au))
 refine L0<|Oc<|m3 (cV (RC.upd cf b3 (aa I ay) b4)) fun dg ch b5 dh=>Pl 1<|?_
 refine L0<|bX (aX b5 (Ne.symm I) cg) 4 (mG c 0 ((ah.mk b false 0).wordV) 0 (((ah.mk b false 0).wordsC 1).wordV) 0 0 0 0 0 0 0 nS nS nS nS 0 0 0 0 0 nS) fun di a7 b6=>nt<|go<|Pl 2<|L0<|aU a7 4<|Pl 2<|cu 4 [62] 66 ((((((ah.mk b false 0).wordsC 1).wordV)==0)||((((ah.mk b false 0).wordsC 1).wordV)==65280))) (fun K b7=>?_) ?_
 refine bl 62 (((((ah.mk b false 0).wordsC 1).wordV)==0)) (fun J=>?_) (fun J=>?_)
 have cn:=al J
 exact Pl 4<|ce b7 true (by rw[J];rfl)
 have cn:=ap J
 exact Pl 1<|L1<|aU a7 4<|Pl 2<|ce b7 ((((ah.mk b false 0).wordsC 1).wordV)==65280) (by rw[J];rfl)
 have a8:=us b5 b6
 have b9:=ut b4 a8 (ac (ni d.size a) (ac (ni (le d.size g.size) f) au))
 refine L0<|Oc<|m2 (aY ((((((ah.mk b false 0).wordsC 1).wordV)==0)||((((ah.mk b false 0).wordsC 1).wordV)==65280))) 6 (RC.upd ch b6 (aa I ay) b9)) fun dj co cq=>?_
 refine fw co fun y ba cr=>?_
 refine nl<|bn<|tn<|sg<|Pl 1<|L0<|Oc<|m2 (eh cr) fun dm a9 cs=>nt<|sq<|sg<|Pl 3<|L0<|dY (p:=⟨j,3,none⟩) (v:=.int .i64 y.endC.e) (RC.fld a9)<|?_
 refine Pl 1<|nt<|?_
 have V:=u1 cq cs im
 have bb:=ud b9 V (le d.size a)
 refine cb ((y.endC.e != 0)) (fun L=>?_) (fun L=>?_)
 have ab:=aq L
 refine sq<|Rg 7 (fun w'=>w'.cell? ⟨j,3,none⟩=some (.int .i64 y.endC.e)) fun dn W=>?_
 have bc:=RC.upd a9 W ay (aD.step (RC.u a9) W)
 refine bg (RC.fld bc) fun M=>Rt 0 M<|Rt 1 M<|Rt 2 M<|Rt 3 M<|Rl 4 M (fun _ hs=>hs)<|?_
 refine R0 5 rfl<|aW (ub (ut l (ut a6 (u1 a8 (aF V W) im) (ac im (ac im au))) (ac (nr a) (ac (ni g.size f) au))) h) mZ fun dp cw bd=>?_
 have be:=ud bb (uz W bd) q
 refine bg (RC.fld (RC.upd bc bd (aa (Ne.symm (nb (am h) lr a)) ay) be)) fun cx=>Rt 6 cx<|re<|tn<|rt<|tr<|bz cw (.int .i64 y.endC.e)<|?_
 have hs:ae aE 1 c b=aH (aQ.mk c 0 ((ah.mk b false 0).wordV) 0 (((ah.mk b false 0).wordsC 1).wordV) 0 0 0 0 0 0 0 [] [] [] [] 0 0 0 0 0 []) y:=by
   subst ba
   unfold ae aE cK cA cv eC kR fo kS kq kE dl dZ
   (try simp only[i,o,t,L,bs,if_true,if_false,decide_true,decide_false,eq_self,true_or,or_true,or_false,false_or,if_true,if_false,cl,cj,cm,ck,reduceIte,du])
   all_goals rfl
 rw[hs]
 exact bh ab be
 have ab:=ai L
 refine bi<|sg<|?_
 refine L0<|ci (aX V (Ne.symm I) a7)<|?_
 refine L0<|aW (ub (ut l (ut a6 (u1 a8 V im) (ac im (ac im au))) (ac (nr a) (ac (ni g.size f) au))) h) (mG c 0 ((ah.mk b false 0).wordV) 0 (((ah.mk b false 0).wordsC 1).wordV) 0 0 0 0 0 0 0 nS nS nS nS 0 0 0 0 0 nS) fun dr cy cz=>Pl 1<|nt<|rt<|bz cy (.int .i64 0)<|?_
 have hs:ae aE 1 c b=aH (aQ.mk c 0 ((ah.mk b false 0).wordV) 0 (((ah.mk b false 0).wordsC 1).wordV) 0 0 0 0 0 0 0 [] [] [] [] 0 0 0 0 0 []) y:=by
   subst ba
   unfold ae aE cK cA cv eC kR fo kS kq kE dl dZ
   (try simp only[i,o,t,L,bs,if_true,if_false,decide_true,decide_false,eq_self,true_or,or_true,or_false,false_or,if_true,if_false,cl,cj,cm,ck,reduceIte,du])
   all_goals rfl
 rw[hs]
 exact bo ab ⟨_,_,_,_,_,rfl,aK.nil ..,aK.nil ..,(fun _ _ _=>aK.nil ..),aK.nil ..,aK.nil ..,⟨(b8 (x:=c) (by omega)),(b8 (x:=0) (by omega)),(aB (x:=(ah.mk b false 0).wordV) (by omega)),(aB (x:=0) (by omega)),(aB (x:=((ah.mk b false 0).wordsC 1).wordV) (by omega)),(aB (x:=0) (by omega)),(aB (x:=0) (by omega)),(aB (x:=0) (by omega)),(aB (x:=0) (by omega)),(aB (x:=0) (by omega)),(aB (x:=0) (by omega)),(aB (x:=0) (by omega)),(b8 (x:=0) (by omega)),(b8 (x:=0) (by omega)),(b8 (x:=0) (by omega)),(b8 (x:=0) (by omega)),(b8 (x:=0) (by omega))⟩⟩ (ud bb cz q)
 have cc:=ap t
 refine sg<|Pl 2<|nt<|cb ((c==15)) (fun z=>?_) (fun z=>?_)
 have cB:=al z
 refine sg<|Pl 1<|?_
 have ad:RC w _ A cp b P j (ah.mk b false 0):=⟨hsl,r,(Nat.le_trans d.size a),⟨0,(ub B s),Nat.zero_le _,rfl⟩,by omega⟩
 have bf:=nb (am s) lr f
 refine L0<|Oc<|m3 (mz (most:=1968) (b8 (by omega)) ad Q (Nat.le_trans (le d.size g.size) f) bf) fun ds cC cD cE=>?_
 have dt:=bU (RC.rng ad)
 have dv:=bU (c:=(ah.mk b false 0).wordsC 1) (cN (RC.rng ad) 1)
 refine nt<|sq<|sg<|Pl 2<|nt<|c1<|xt<|tx<|bx<|tn<|sq<|?_
 refine go<|Pl 1<|L0<|Oc<|m2 (eh cC) fun dw af bj=>nt<|sq<|sg<|Pl 3<|L0<|dY (p:=⟨j,3,none⟩) (v:=.int .i64 (((bB (ah.mk b false 0) 1968).endC).e)) (RC.fld af)<|Pl 1<|nt<|?_
 have ag:=u1 cE bj im
 have bm:=ut r ag (ac (ni d.size a) (ac (ni (le d.size g.size) f) au))
 refine cb (((((bB (ah.mk b false 0) 1968).endC).e)!=0)) (fun N=>?_) (fun N=>?_)
 have aj:=aq N
 refine sq<|Rg 7 (fun w'=>w'.cell? ⟨j,3,none⟩=some (.int .i64 (((bB (ah.mk b false 0) 1968).endC).e))) fun dx X=>?_
 have bp:=RC.upd af X ay (aD.step (RC.u af) X)
 refine bg (RC.fld bp) fun O=>Rt 0 O<|Rt 1 O<|Rt 2 O<|Rt 3 O<|Rl 4 O (fun _ hs=>hs)<|?_
 refine R0 5 rfl<|aW (ub (ut l (aF ag X) (ac (nr a) (ac (ni g.size f) au))) h) mZ fun dy cF bq=>?_
 have bt:=ud bm (uz X bq) q
 refine bg (RC.fld (RC.upd bp bq (aa (Ne.symm (nb (am h) lr a)) ay) bt)) fun cG=>Rt 6 cG<|re<|tn<|rt<|tr<|bz cF (.int .i64 (((bB (ah.mk b false 0) 1968).endC).e))<|?_
 have hs:ae aE 1 c b=aH (aQ.mk c 0 ((ah.mk b false 0).wordV) (((ah.mk b false 0).wordsC 1).wordV) 0 0 0 0 0 0 0 0 [] [] [] [] 0 0 0 0 0 []) (bB (ah.mk b false 0) 1968):=by
   unfold ae aE cK cA cv eC kR fo kS kq kE dl dZ
   (try simp only[i,o,t,z,N,bs,if_true,if_false,decide_true,decide_false,eq_self,true_or,or_true,or_false,false_or,if_true,if_false,cl,cj,cm,ck,reduceIte,du])
   all_goals rfl
 rw[hs]
 exact bh aj bt
 have aj:=ai N
 refine bi<|sg<|?_
 refine L0<|ci (aX bj (Ne.symm bf) cD)<|?_
 refine L0<|aW (ub (ut l ag (ac (nr a) (ac (ni g.size f) au))) h) (mG c 0 ((ah.mk b false 0).wordV) (((ah.mk b false 0).wordsC 1).wordV) 0 0 0 0 0 0 0 0 nS nS nS nS 0 0 0 0 0 nS) fun dz cH cI=>Pl 1<|nt<|rt<|bz cH (.int .i64 0)<|?_
 have hs:ae aE 1 c b=aH (aQ.mk c 0 ((ah.mk b false 0).wordV) (((ah.mk b false 0).wordsC 1).wordV) 0 0 0 0 0 0 0 0 [] [] [] [] 0 0 0 0 0 []) (bB (ah.mk b false 0) 1968):=by
   unfold ae aE cK cA cv eC kR fo kS kq kE dl dZ
   (try simp only[i,o,t,z,N,bs,if_true,if_false,decide_true,decide_false,eq_self,true_or,or_true,or_false,false_or,if_true,if_false,cl,cj,cm,ck,reduceIte,du])
   all_goals rfl
 rw[hs]
 exact bo aj ⟨_,_,_,_,_,rfl,aK.nil ..,aK.nil ..,(fun _ _ _=>aK.nil ..),aK.nil ..,aK.nil ..,⟨(b8 (x:=c) (by omega)),(b8 (x:=0) (by omega)),(aB (x:=(ah.mk b false 0).wordV) (by omega)),(aB (x:=((ah.mk b false 0).wordsC 1).wordV) (by omega)),(aB (x:=0) (by omega)),(aB (x:=0) (by omega)),(aB (x:=0) (by omega)),(aB (x:=0) (by omega)),(aB (x:=0) (by omega)),(aB (x:=0) (by omega)),(aB (x:=0) (by omega)),(aB (x:=0) (by omega)),(b8 (x:=0) (by omega)),(b8 (x:=0) (by omega)),(b8 (x:=0) (by omega)),(b8 (x:=0) (by omega)),(b8 (x:=0) (by omega))⟩⟩ (ud bm cI q)
 have cB:=ap z
 refine sg<|Pl 1<|?_
 refine L0<|aW (ub l h) mZ fun dA cJ cL=>Pl 1<|nt<|rt<|br<|tr<|bz cJ (.int .i64 4)<|?_
 have hs:ae aE 1 c b=(aQ.zero,4):=by
   unfold ae aE cK cA cv eC kR fo kS kq kE dl dZ
   (try simp only[i,o,t,z,bs,if_true,if_false,decide_true,decide_false,eq_self,true_or,or_true,or_false,false_or,if_true,if_false,cl,cj,cm,ck,reduceIte,du])
   all_goals rfl
 rw[hs]
 exact bu (ud r cL q)
theorem kp{m:Md}{A:Option Addr}{cp:Nat}{b:List Int}{w:World}{dir c:Int}(hcode:B8 c)(hsl:aT m w (.slice A b.length cp) b)(hb:b.length≤1048576)(hd:¬ (dir=0∨dir=1)) :
    Calls Tryz.prog 93 #[.int .i64 dir,.int .u8 c,.slice A b.length cp] w (dk (.slice A b.length cp) b (ae aE dir c b) w):=by
 obtain⟨hcode1,hcode2⟩:=hcode
 have hln:(b.length:Int)≤1048576:=by omega
 have e0:(dir != 0)=true:=by simp;omega
 have e1:(dir != 1)=true:=by simp;omega
 refine en 113 Tryz.func93 rfl<|sg<|L0<|bE mZ fun g h a d e=>Pl 1<|nt<|sq<|sg<|Pl 3<|sy 16 e0<|Pl 3<|nl<|?_
 refine tn<|ct e1<|sg<|Pl 1<|L0<|aW d mZ fun i dx f=>Pl 1<|nt<|rt<|tr<|bz dx (.int .i64 1)<|?_
 have hs:ae aE dir c b=(aQ.zero,1):=by
   unfold ae aE cK cA cv eC kR fo kS kq kE dl dZ
   (try simp only[e0,e1,bs,if_true,if_false,decide_true,decide_false,eq_self,true_or,or_true,or_false,false_or,if_true,if_false,cl,cj,cm,ck,reduceIte,hd,du])
   all_goals rfl
 rw[hs]
 exact bu (ud e f a)
open Go.RowKit
theorem gK{C:ah}(h:iR C){b:Bool}{x:Int}:iR (C.need b x):=fun y hy=>h y (by rwa [kM] at hy)
theorem gX{C:ah}(h:iR C){n:Int}:iR (C.bytesC n):=ij h n
theorem mc{C:ah}(h:iR C){n:Int}:iR (C.wordsC n):=cN h n
theorem vf(C:ah)(x:Int) : (C.bytesC 1).need (!(C.bytesC 1).sh) x=C.bytesC 1:=by
  by_cases hf:C.fails 1=true
  · exact ee (eV hf)
  · have h:(C.bytesC 1).sh=false:=by
      unfold ah.bytesC
      rw[if_neg hf]
      unfold ah.fails at hf
      simp only[Bool.or_eq_true,decide_eq_true_eq,not_or] at hf
      show C.sh=false
      simpa using hf.1.1
    rw[h]
    unfold ah.need
    rw[if_neg (by rintro⟨_,h⟩;cases h)]
theorem uh{v:Int}(h:0≤v) : decide (0<v)=(v != 0):=by
  rw[Bool.eq_iff_iff]
  simp only[decide_eq_true_eq,bne_iff_ne,ne_eq]
  omega
def yw (C:ah) : ah:=((C.bytesC 1).need (!(C.bytesC 1).sh) 5).need (C.byteV==6) 9
def yu (C:ah) : ah:=((yw C).wordsC 1).need (decide (0<(yw C).wordV)) 6
def yo (C:ah) : ah:=((yu C).wordsC 1).need (decide ((yu C).wordV≤9999)) 7
def sO (C:ah) : ah:=((yo C).wordsC 1).need (decide (0<(yo C).wordV)) 5
theorem tP(C:ah) : yw C=iw C:=by unfold yw iw;rw[vf]
theorem qL{C:ah}(h:iR C) : iR (iw C):=gK (gX h)
theorem u4{C:ah}(h:iR C) : yu C=iy C:=by unfold yu iy;rw[tP,uh (bU (qL h)).1]
theorem vR{C:ah}(h:iR C) : iR (iy C):=gK (mc (qL h))
theorem tu{C:ah}(h:iR C) : yo C=nk C:=by unfold yo nk;rw[u4 h]
theorem vH{C:ah}(h:iR C) : iR (nk C):=gK (mc (vR h))
theorem sl{C:ah}(h:iR C) : sO C=dF C:=by unfold sO dF;rw[tu h,uh (bU (vH h)).1]
theorem xn{C:ah}(h:C.e≠0) : C.endC=C:=by unfold ah.endC;exact ee h
theorem t1{b:List Int}(h:b.length≠0) : (ah.mk b false 0).byteV=b.getD 0 0∧(ah.mk b false 0).bytesC 1=⟨b.drop 1,false,0⟩:=by
  have hf:¬ (ah.mk b false 0).fails 1=true:=by
    unfold ah.fails
    simp only[Bool.or_eq_true,decide_eq_true_eq,not_or]
    exact⟨⟨by decide,by decide⟩,by omega⟩
  constructor
  · unfold ah.byteV ah.bytesR
    rw[if_neg hf]
    rcases b with _|⟨x,t⟩
    · exact absurd rfl h
    · rfl
  · unfold ah.bytesC
    rw[if_neg hf]
    rfl
def cX (b:List Int)(n:Int) : List Int:=(b.take (n+1).toNat).drop 1
def dz (one:Int→ah→Int × ah × dt)(c:Int)(b:List Int) : aQ × Int :=
  if (aP one (cX b (b.getD 0 0)).length 0 ⟨cX b (b.getD 0 0),false,0⟩ []).1.e != 0 then (aQ.zero,bp (aP one (cX b (b.getD 0 0)).length 0 ⟨cX b (b.getD 0 0),false,0⟩ []).1.e)
  else if decide (b.getD 0 0+1<(b.length:Int)) then (aQ.zero,3)
  else ({ aQ.zero with code:=c,recs:=(aP one (cX b (b.getD 0 0)).length 0 ⟨cX b (b.getD 0 0),false,0⟩ []).2 },0)
def bI (one:Int→ah→Int × ah × dt)(may:Int→Bool)(c:Int)(b:List Int) : aQ × Int :=
  if (b.length:Int)==0 then (aQ.zero,2)
  else if !(may (b.getD 0 0)) then (aQ.zero,5)
  else if decide ((b.length:Int)<b.getD 0 0+1) then (aQ.zero,2)
  else dz one c b
theorem jL{M:aQ}{C:ah}(h:C.e≠0) : aH M C=(aQ.zero,C.e):=by
  unfold aH
  rw[xn h,if_neg h]
theorem jj{one:Int→ah→Int × ah × dt}{may:Int→Bool}{c:Int}{b:List Int}(hr:∀ x,x∈b→0≤x∧x<256) : aH (dX one may c ⟨b,false,0⟩).2 (dX one may c ⟨b,false,0⟩).1=bI one may c b:=by
  unfold bI
  by_cases h0:b.length=0
  · rw[if_pos (by rw[beq_iff_eq];omega)]
    obtain rfl:=List.eq_nil_of_length_eq_zero h0
    have e1:(kV may ⟨[],false,0⟩).e=2:=by
      unfold kV
      rw[ee (eV (by decide))]
      rfl
    have e2:((kV may ⟨[],false,0⟩).bytesC (ah.mk [] false 0).byteV).e=2:=by
      have hs:(kV may ⟨[],false,0⟩).sh=true:=by
        unfold kV
        rw[ee (eV (by decide))]
        rfl
      unfold ah.bytesC
      rw[if_pos (by unfold ah.fails;rw[hs];rfl),ee (by show(kV may ⟨[],false,0⟩).e≠0;rw[e1];decide)]
      exact e1
    unfold dX
    dsimp only
    rw[ee (by rw[e2];decide),jL (by rw[e2];decide),e2]
  rw[if_neg (by rw[beq_iff_eq];omega)]
  obtain⟨e1,e2⟩:=t1 h0
  have hn:0≤b.getD 0 0∧b.getD 0 0<256:=by
    rcases b with _|⟨x,t⟩
    · exact absurd rfl h0
    · exact hr x (by simp)
  by_cases hm:may (b.getD 0 0)=true
  · rw[if_neg (by rw[hm];decide)]
    have e3:kV may ⟨b,false,0⟩=⟨b.drop 1,false,0⟩:=by
      unfold kV
      rw[e1,e2,hm]
      rfl
    by_cases hs:(b.length:Int)<b.getD 0 0+1
    · rw[if_pos (by simpa using hs)]
      have hf:(ah.mk (b.drop 1) false 0).fails (b.getD 0 0)=true:=by
        unfold ah.fails
        simp only[Bool.or_eq_true,decide_eq_true_eq,List.length_drop]
        exact .inr (by omega)
      have e4:(kV may ⟨b,false,0⟩).bytesC (ah.mk b false 0).byteV=⟨[],true,2⟩:=by
        rw[e1,e3]
        unfold ah.bytesC
        rw[if_pos hf]
        rfl
      unfold dX
      dsimp only
      rw[e4,ee (by decide),jL (by decide)]
    · rw[if_neg (by simpa using hs)]
      have hf:¬ (ah.mk (b.drop 1) false 0).fails (b.getD 0 0)=true:=by
        unfold ah.fails
        simp only[Bool.or_eq_true,decide_eq_true_eq,List.length_drop,not_or]
        exact⟨⟨by decide,by omega⟩,by omega⟩
      have e4:(kV may ⟨b,false,0⟩).bytesC (ah.mk b false 0).byteV=⟨(b.drop 1).drop (b.getD 0 0).toNat,false,0⟩:=by
        rw[e1,e3]
        unfold ah.bytesC
        rw[if_neg hf]
      have e5:uL may ⟨b,false,0⟩=⟨cX b (b.getD 0 0),false,0⟩:=by
        unfold uL cX
        rw[e1,e3]
        unfold ah.bytesR
        rw[if_neg hf,show(b.getD 0 0+1).toNat=1+(b.getD 0 0).toNat from by omega,List.drop_take]
        rw[show 1+(b.getD 0 0).toNat-1=(b.getD 0 0).toNat from by omega]
      unfold dX dz uO
      dsimp only
      rw[e4,e5]
      by_cases hz:(aP one (cX b (b.getD 0 0)).length 0 ⟨cX b (b.getD 0 0),false,0⟩ []).1.e=0
      · rw[hz,if_neg (by decide)]
        have e6:(ah.mk ((b.drop 1).drop (b.getD 0 0).toNat) false 0).need ((0:Int)==0) (bp 0)=⟨(b.drop 1).drop (b.getD 0 0).toNat,false,0⟩:=rfl
        rw[e6]
        by_cases hl:b.getD 0 0+1<(b.length:Int)
        · rw[if_pos (by simpa using hl)]
          have e7:(ah.mk ((b.drop 1).drop (b.getD 0 0).toNat) false 0).endC=⟨(b.drop 1).drop (b.getD 0 0).toNat,false,3⟩:=by
            unfold ah.endC ah.need
            rw[if_pos ⟨rfl,by rw[beq_eq_false_iff_ne];simp only[List.length_drop];omega⟩]
          unfold aH
          rw[e7,if_neg (show ¬ (3:Int)=0 from by decide)]
        · rw[if_neg (by simpa using hl)]
          have e7:(ah.mk ((b.drop 1).drop (b.getD 0 0).toNat) false 0).endC=⟨(b.drop 1).drop (b.getD 0 0).toNat,false,0⟩:=by
            unfold ah.endC ah.need
            rw[if_neg (by rintro⟨_,h⟩;rw[beq_eq_false_iff_ne] at h;simp only[List.length_drop] at h;omega)]
          unfold aH
          rw[e7,if_pos rfl]
      · rw[if_pos (by simpa using hz)]
        have hw:bp (aP one (cX b (b.getD 0 0)).length 0 ⟨cX b (b.getD 0 0),false,0⟩ []).1.e≠0:=by
          unfold bp
          split
          · decide
          · exact hz
        have e6:(ah.mk ((b.drop 1).drop (b.getD 0 0).toNat) false 0).need ((aP one (cX b (b.getD 0 0)).length 0 ⟨cX b (b.getD 0 0),false,0⟩ []).1.e==0) (bp (aP one (cX b (b.getD 0 0)).length 0 ⟨cX b (b.getD 0 0),false,0⟩ []).1.e)=⟨(b.drop 1).drop (b.getD 0 0).toNat,false,bp (aP one (cX b (b.getD 0 0)).length 0 ⟨cX b (b.getD 0 0),false,0⟩ []).1.e⟩:=by
          unfold ah.need
          rw[if_pos ⟨rfl,by simpa using hz⟩]
        rw[e6,jL hw]
  · have hm:may (b.getD 0 0)=false:=by simpa using hm
    rw[if_pos (by rw[hm];rfl)]
    have e3:kV may ⟨b,false,0⟩=⟨b.drop 1,false,5⟩:=by
      unfold kV
      rw[e1,e2,hm]
      rfl
    have e4:((kV may ⟨b,false,0⟩).bytesC (ah.mk b false 0).byteV).e=5:=by
      rw[e3]
      unfold ah.bytesC
      split
      · rfl
      · rfl
    unfold dX
    dsimp only
    rw[ee (by rw[e4];decide),jL (by rw[e4];decide),e4]
theorem qg{b:List Int}(hr:∀ x,x∈b→0≤x∧x<256) : ae b7 0 20 b=bI cU eo 20 b:=jj hr
theorem pZ{b:List Int}(hr:∀ x,x∈b→0≤x∧x<256) : ae b7 1 20 b=bI bH er 20 b:=jj hr
theorem tU{dir:Int}{b:List Int}(hd:dir=0∨dir=1)(hr:∀ x,x∈b→0≤x∧x<256) : ae b7 dir 21 b=bI cT ep 21 b:=by
  unfold ae
  rw[if_pos hd]
  exact jj hr
theorem vT:∀ n:Nat,n<256→(decide (1≤(n:Int)%128)&&decide ((n:Int)%128≤3))=ch (n:Int):=by decide +kernel
theorem yj{x:Int}(h:0≤x∧x<256) : (decide (1≤x%128)&&decide (x%128≤3))=ch x:=by
  obtain⟨n,rfl⟩:=Int.eq_ofNat_of_zero_le h.1
  exact vT n (by omega)
theorem xf{x:Int}:(decide (0<x)&&decide (x<5))=(decide (1≤x)&&decide (x≤4)):=by
  rw[Bool.eq_iff_iff]
  simp only[Bool.and_eq_true,decide_eq_true_eq]
  omega
def ei (C:ah) : ah:=((dB C).bytesC 1).need (decide (0<(dB C).byteV)&&decide ((dB C).byteV<5)) 6
theorem ua(C:ah) : ei C=fP C:=by unfold ei fP;rw[xf]
def eG (C:ah) : ah:=(C.bytesC 1).need (decide (1≤C.byteV%128)&&decide (C.byteV%128≤3)) 6
def fc (C:ah) : ah:=((eG C).bytesC 1).need ((eG C).byteV==0 || (eG C).byteV==255) 6
def fb (C:ah) : ah:=((fc C).bytesC 1).need ((fc C).byteV==0 || (eG C).byteV==255) 6
def fX (kd:Int)(C:ah) : ah:=((fb C).bytesC 1).need ((fb C).byteV==1 || kd != 4) 5
def dj (kd:Int)(C:ah) : ah × List Obj:=eA (fb C).byteV.toNat (fX kd C) []
theorem kQ{C:ah}(h:iR C) : eG C=ls C:=by unfold eG ls;rw[yj (it h)]
theorem nV{C:ah}(h:iR C) : fc C=l9 C:=by unfold fc l9;rw[kQ h]
theorem uj{C:ah}(h:iR C) : fb C=tT C:=by
  unfold fb tT
  rw[nV h,kQ h]
  by_cases e:((l9 C).bytesC 1).e=0
  · have h1:=(oD e).1
    unfold l9 at h1
    have h2:=(uI (by decide) h1).2
    congr 1
    rw[Bool.eq_iff_iff]
    simp only[Bool.or_eq_true,beq_iff_eq,bne_iff_ne,ne_eq] at h2 ⊢
    omega
  · rw[ee e,ee e]
theorem nG{kd:Int}{C:ah}(h:iR C) : dj kd C=eB kd C:=by
  unfold dj eB fX y6
  rw[uj h,Bool.or_comm]
def bN (dir c:Int)(C:ah) : Option (ah × aQ) :=
  if c != 43 then none
  else if C.byteV==13 then some ((el C).bytesC ((dB C).l.length:Int),{ aQ.zero with code:=43,mei:=C.byteV,data:=(el C).bytesR ((dB C).l.length:Int) })
  else if dir==0 then some ((ei C).bytesC 1,{ aQ.zero with code:=43,mei:=C.byteV,kind:=(dB C).byteV,next:=(ei C).byteV })
  else some ((dj (dB C).byteV (ei C)).1,{ aQ.zero with code:=43,mei:=C.byteV,kind:=(dB C).byteV,level:=(ei C).byteV,more:=(eG (ei C)).byteV,next:=(fc (ei C)).byteV,objects:=(dj (dB C).byteV (ei C)).2 })
theorem nX{dir c:Int}{b:List Int}(hr:∀ x,x∈b→0≤x∧x<256) : ae bN dir c b=ae bG dir c b:=by
  unfold ae
  split
  · rename_i hd
    unfold bN bG
    by_cases hc:c=43
    · subst hc
      have hD:iR (ei ⟨b,false,0⟩):=gK (gX (gK (gX (C:=⟨b,false,0⟩) hr)))
      have hl:(el ⟨b,false,0⟩).l.length=(dB ⟨b,false,0⟩).l.length:=by unfold el;rw[kM]
      rw[if_neg (show ¬ (((43:Int)!=43)=true) from by decide),if_neg (show ¬ (((43:Int)!=43)=true) from by decide),kQ hD,nV hD,nG hD,ua,hl]
      rcases hd with rfl|rfl
      · rw[if_pos (show((0:Int)==0)=true from rfl),if_neg (show ¬ ((0:Int)==1)=true from by decide)]
      · rw[if_neg (show ¬ ((1:Int)==0)=true from by decide),if_pos (show((1:Int)==1)=true from rfl)]
    · rw[if_pos (by simpa using hc),if_pos (by simpa using hc)]
  · rfl
open Go.RowKit
theorem RC.safe{w0:World}{m:Md}{A:Option Addr}{cp:Nat}{full:List Int}{w:World}{g:Nat}{C:ah}(h:RC w0 m A cp full w g C)(D:List TypeId)(hD:159∉D) : db true D [g] w:=by
  obtain⟨k,h1,_⟩:=h.cell
  exact db.one h1 hD
theorem RC.nrow{α:Type}{base sz n c:Nat}{e:TypeId}{R:World→α→List Value→Prop}{B:Option Addr}{xs:List α}{w0:World}{m:Md}{A:Option Addr}{cp:Nat}{full:List Int}{w:World}{g:Nat}{C:ah}(h:RC w0 m A cp full w g C)(ho:be base e sz R w (.slice B n c) xs)(ht:(159==e)=false) : g∉ob B:=by
  obtain⟨k,h1,_⟩:=h.cell
  exact dw h1 ho ht
theorem RC.fld2{w0:World}{m:Md}{A:Option Addr}{cp:Nat}{full:List Int}{w:World}{g:Nat}{C:ah}(h:RC w0 m A cp full w g C) : w.cell? ⟨g,2,none⟩=some (.bool C.sh):=by
  obtain⟨k,h1,_⟩:=h.cell
  rw[bv h1]
  rfl
def wI (w0:World)(m:Md)(A:Option Addr)(cp:Nat)(full:List Int)(g:Nat)(C':ah)(r:dt)(w:World)(e:Ending)(w':World) : Prop:=e = .returned (.agg #[.int .u16 r.file,.int .u16 r.record,.int .u16 r.count,.slice none 0 0])∧dx r.file∧dx r.record∧dx r.count∧RC w0 m A cp full w' g C'∧aD [g] w w'
theorem lF{x:Int}(h : -1≤x∧x≤255) : 0≤Int.tdiv x 2∧Int.tdiv x 2≤127:=by
  by_cases h0:x = -1
  · subst h0;decide
  · rw[Int.tdiv_eq_ediv_of_nonneg (by omega)]
    omega
theorem gV{one:Int→ah→Int × ah × dt}{n:Nat}{s:Int}{C:ah}{L:List dt}{R:ah × List dt}(h3:(C.e=0∧C.l.length≤n∧aP one n s C L=R)∨(C.e≠0∧R.1=C))(hc:0<C.l.length)(he:C.e=0)(hlt:(one s C).2.1.l.length<C.l.length) :
    ((one s C).2.1.e=0∧(one s C).2.1.l.length≤n-1∧aP one (n-1) (one s C).1 (one s C).2.1 (L++[(one s C).2.2])=R)∨((one s C).2.1.e≠0∧R.1=(one s C).2.1):=by
  rcases h3 with⟨_,hn,hR⟩|⟨h,_⟩
  · obtain⟨k,rfl⟩ : ∃ k,n=k+1:=⟨n-1,by omega⟩
    unfold aP at hR
    rw[if_pos (by rw[he];simpa using hc)] at hR
    by_cases hz:(one s C).2.1.e=0
    · rw[if_neg (by rw[hz];decide)] at hR
      exact .inl ⟨hz,by omega,hR⟩
    · rw[if_pos (by simpa using hz)] at hR
      exact .inr ⟨hz,by rw[← hR]⟩
  · exact absurd he h
theorem fi{one:Int→ah→Int × ah × dt}{n:Nat}{s:Int}{C:ah}{L:List dt}{R:ah × List dt}(h3:(C.e=0∧C.l.length≤n∧aP one n s C L=R)∨(C.e≠0∧R.1=C))(hq:(decide (0<((C.l.length:Nat) : Int))&&C.e==0)=false) : R.1.e=C.e∧(C.e=0→R.2=L):=by
  rcases h3 with⟨he,hn,hR⟩|⟨h,h2⟩
  · rw[gy one n s C L hq] at hR
    rw[← hR]
    exact⟨rfl,fun _=>rfl⟩
  · rw[h2]
    exact⟨rfl,fun h3=>absurd h3 h⟩
def fG (R:ah × List dt)(w:World)(e:Ending)(w':World) : Prop:=∃ A2 n2 c2,e = .returned (.tuple #[.slice A2 n2 c2,.int .i64 (bp R.1.e)])∧(bp R.1.e=0→be w.heap.size 109 4 (bq true) w' (.slice A2 n2 c2) R.2)∧aD [] w w'
theorem jU{f:FuncId}{args:Array Value}{R:ah × List dt}{w:World}(h:Calls Tryz.prog f args w (fG R w))(h0:bp R.1.e=0) : Calls Tryz.prog f args w (fun e w'=>∃ v,e = .returned (.tuple #[v,.int .i64 0])∧be w.heap.size 109 4 (bq true) w' v R.2∧aD [] w w'):=by
  refine h.mono ?_
  rintro e w' ⟨A2,n2,c2,rfl,h1,h2⟩
  exact⟨_,by rw[h0],h1 h0,h2⟩
theorem j6{f:FuncId}{args:Array Value}{R:ah × List dt}{w:World}(h:Calls Tryz.prog f args w (fG R w)) : Calls Tryz.prog f args w (fun e w'=>∃ A2 n2 c2,e = .returned (.tuple #[.slice A2 n2 c2,.int .i64 (bp R.1.e)])∧aD [] w w'):=by
  refine h.mono ?_
  rintro e w' ⟨A2,n2,c2,rfl,h1,h2⟩
  exact⟨A2,n2,c2,rfl,h2⟩
theorem wE{w0:World}{m:Md}{A:Option Addr}{cp:Nat}{full:List Int}{w:World}{g:Nat}{C:ah}(hC:RC w0 m A cp full w g C) : Calls Tryz.prog 218 #[.pointer (some ⟨g,0,none⟩)] w (wI w0 m A cp full g (dF C) (aN C) w):=by
 have hr:iR C:=RC.rng hC
 refine en 42 Tryz.func218 rfl<|sg<|L0<|bE #[.int .u16 0,.int .u16 0,.int .u16 0,.slice none 0 0] fun N O b i a=>ng<|Pl 1<|?_
 refine L0<|Oc<|m3 (dU (RC.upd hC a ay (aD.step (RC.u hC) a))) fun P c j Q=>Pl 1<|ng<|Pl 4<|L0<|dY (p:=⟨g,2,none⟩) (v:=.bool ((C.bytesC 1).sh)) (RC.fld2 c)<|Pl 1<|L0<|Oc<|m2 (aY ((!((C.bytesC 1).sh))) 5 c) fun R k l=>ng<|?_
 refine Pl 3<|L0<|Oc<|m2 (aY ((C.byteV==6)) 9 k) fun S n o=>?_
 refine fw n fun x26 q r=>?_
 refine ng<|Pl 1<|L0<|Oc<|m3 (cV r) fun T s t U=>Pl 1<|ng<|Pl 3<|L0<|Oc<|m2 (aY ((decide (0<x26.wordV))) 6 s) fun V y z=>nl<|?_
 refine tn<|sg<|Pl 1<|L0<|Oc<|m3 (cV y) fun W B D X=>Pl 1<|ng<|Pl 3<|L0<|Oc<|m2 (aY ((decide ((((x26.wordsC 1).need (decide (0<x26.wordV)) 6).wordV)≤9999))) 7 B) fun Y E F=>?_
 refine fw E fun x43 G H=>?_
 refine ng<|Pl 1<|L0<|Oc<|m3 (cV H) fun Z I J a0=>Pl 1<|ng<|Pl 3<|L0<|Oc<|m2 (aY ((decide (0<x43.wordV))) 5 I) fun a1 K L=>nl<|?_
 refine tn<|sg<|Pl 4<|?_
 have d:=u1 j (u1 l (u1 o (u1 t (u1 z (u1 D (u1 F (u1 J L im) im) im) im) im) im) im) im
 have e:=nb (RC.lt hC) lr b
 refine L0<|aW (aX d (Ne.symm e) i) #[.int .u16 x26.wordV,.int .u16 (((x26.wordsC 1).need (decide (0<x26.wordV)) 6).wordV),.int .u16 x43.wordV,.slice none 0 0] fun a2 M f=>nt<|rt<|xD M<|?_
 subst G q
 have e1:dF C=(((((((((C.bytesC 1).need (!((C.bytesC 1).sh)) 5).need (C.byteV==6) 9).wordsC 1).need (decide (0<(((C.bytesC 1).need (!((C.bytesC 1).sh)) 5).need (C.byteV==6) 9).wordV)) 6).wordsC 1).need (decide (((((((C.bytesC 1).need (!((C.bytesC 1).sh)) 5).need (C.byteV==6) 9).wordsC 1).need (decide (0<(((C.bytesC 1).need (!((C.bytesC 1).sh)) 5).need (C.byteV==6) 9).wordV)) 6).wordV)≤9999)) 7).wordsC 1).need (decide (0<(((((((C.bytesC 1).need (!((C.bytesC 1).sh)) 5).need (C.byteV==6) 9).wordsC 1).need (decide (0<(((C.bytesC 1).need (!((C.bytesC 1).sh)) 5).need (C.byteV==6) 9).wordV)) 6).wordsC 1).need (decide (((((((C.bytesC 1).need (!((C.bytesC 1).sh)) 5).need (C.byteV==6) 9).wordsC 1).need (decide (0<(((C.bytesC 1).need (!((C.bytesC 1).sh)) 5).need (C.byteV==6) 9).wordV)) 6).wordV)≤9999)) 7).wordV)) 5):=by rw[← sl hr];rfl
 have e2:(aN C).file=(((C.bytesC 1).need (!((C.bytesC 1).sh)) 5).need (C.byteV==6) 9).wordV:=by show(iw C).wordV=_;rw[← tP];rfl
 have e3:(aN C).record=(((((C.bytesC 1).need (!((C.bytesC 1).sh)) 5).need (C.byteV==6) 9).wordsC 1).need (decide (0<(((C.bytesC 1).need (!((C.bytesC 1).sh)) 5).need (C.byteV==6) 9).wordV)) 6).wordV:=by show(iy C).wordV=_;rw[← u4 hr];rfl
 have e4:(aN C).count=(((((((C.bytesC 1).need (!((C.bytesC 1).sh)) 5).need (C.byteV==6) 9).wordsC 1).need (decide (0<(((C.bytesC 1).need (!((C.bytesC 1).sh)) 5).need (C.byteV==6) 9).wordV)) 6).wordsC 1).need (decide (((((((C.bytesC 1).need (!((C.bytesC 1).sh)) 5).need (C.byteV==6) 9).wordsC 1).need (decide (0<(((C.bytesC 1).need (!((C.bytesC 1).sh)) 5).need (C.byteV==6) 9).wordV)) 6).wordV)≤9999)) 7).wordV:=by show(nk C).wordV=_;rw[← tu hr];rfl
 have h:=ue a (us d f) b
 unfold wI
 rw[e1,e2,e3,e4]
 exact⟨rfl,aB (by omega),aB (by omega),aB (by omega),(RC.upd K f (aa e ay) (hC.u.trans' h (fun x hx=>.inr (by simp at hx;subst hx;exact hC.new)))),h⟩
theorem ur{m:Md}{A:Option Addr}{cp:Nat}{b:List Int}{w:World}(hsl:aT m w (.slice A b.length cp) b)(hb:b.length≤1048576) :
    Calls Tryz.prog 163 #[.int .i64 0,.int .u8 20,.slice A b.length cp] w (fG (aP cU b.length 0 ⟨b,false,0⟩ []) w):=by
 have hln:(b.length:Int)≤1048576:=by omega
 refine en 108 Tryz.func163 rfl<|sg<|Pl 2<|ng<|Pl 2<|L0<|dq #[.slice A b.length cp,.int .i64 0,.bool false,.int .i64 0] fun d U E a8 F=>Pl 1<|nt<|sq<|?_
 refine go<|Pl 1<|ng<|Pl 1<|nt<|sq<|bk<|?_
 have V:RC w _ A cp b U d (ah.mk b false 0):=⟨hsl,F,E,⟨0,a8,Nat.zero_le _,rfl⟩,by omega⟩
 refine hY (fun x=>[(0,.int .i64 0),(1,.int .u8 20),(6,.slice none 0 0),(7,.int .i64 0),(8,.pointer (some ⟨d,0,none⟩)),(9,.slice x.2.2.2.1 x.2.2.1.length x.2.2.2.2.1),(10,.int .i64 x.2.2.2.2.2)]) (fun(x:Nat × ah × List dt × Option Addr × Nat × Int) w'=>aD [] w w'∧U.heap.size≤w'.heap.size∧RC w m A cp b w' d x.2.1∧be w.heap.size 109 4 (bq true) w' (.slice x.2.2.2.1 x.2.2.1.length x.2.2.2.2.1) x.2.2.1∧(0≤x.2.2.2.2.2)∧(x.2.1.e=0→x.2.2.2.2.2≤245)∧(x.2.2.1.length+x.2.1.l.length≤b.length)∧((x.2.1.e=0∧x.2.1.l.length≤x.1∧aP cU x.1 x.2.2.2.2.2 x.2.1 x.2.2.1=aP cU b.length 0 ⟨b,false,0⟩ [])∨(x.2.1.e≠0∧(aP cU b.length 0 ⟨b,false,0⟩ []).1=x.2.1))) (fun x=>x.2.1.l.length) (b.length,(ah.mk b false 0),[],none,0,0) ⟨F,lr,V,(be.nil w.heap.size _ _ (bq true) _),(by(try dsimp only);omega),(fun _=>(show(0:Int)≤245 from by decide)),(by(try dsimp only);simp),.inl ⟨rfl,Nat.le_refl _,rfl⟩⟩ ?_
 rintro⟨n,C,L,B,cq,s⟩ W ⟨a9,G,ab,ad,ae,af,ag,ai⟩
 refine i1 [(0,.int .i64 0),(1,.int .u8 20),(6,.slice none 0 0),(7,.int .i64 0),(8,.pointer (some ⟨d,0,none⟩)),(9,.slice B L.length cq),(10,.int .i64 s)] ?_
 have a:RC w m A cp b W d C:=ab
 have hlC:=RC.clen a
 have hrC:iR C:=RC.rng a
 have i:be w.heap.size 109 4 (bq true) W (.slice B L.length cq) L:=ad
 have aO:0≤s:=ae
 have aQ:C.e=0→s≤245:=af
 have aS:L.length+C.l.length≤b.length:=ag
 have H:(C.e=0∧C.l.length≤n∧aP cU n s C L=aP cU b.length 0 ⟨b,false,0⟩ [])∨(C.e≠0∧(aP cU b.length 0 ⟨b,false,0⟩ []).1=C):=ai
 refine sq<|sg<|Pl 1<|L0<|Oc<|m1 (i7 a) fun aZ c=>?_
 have b0:=RC.clen a
 refine Pl 2<|cu 6 [20] 26 (((decide (0<((C.l.length:Nat) : Int)))&&(C.e==0))) (fun K X=>?_) ?_
 refine bl 20 ((decide (0<((C.l.length:Nat) : Int)))) (fun j=>?_) (fun j=>?_)
 have aj:=of_decide_eq_true j
 refine Pl 3<|?_
 exact L1<|dY (p:=⟨d,3,none⟩) (v:=.int .i64 C.e) (RC.fld (RC.upd a c ay (aD.step (RC.u a) c)))<|Pl 2<|ce X (C.e==0) (by rw[j];rfl)
 have aj:=of_decide_eq_false j
 exact Pl 6<|ce X false (by rw[j];rfl)
 refine nt<|?_
 have I:=aF a9 c
 refine cb (((decide (0<((C.l.length:Nat) : Int)))&&(C.e==0))) (fun f=>?_) (fun f=>?_)
 have J:=(aR f).1
 have M:=(aR f).2
 have b1:=of_decide_eq_true J
 have b2:=al M
 refine bi<|bk<|sg<|Pl 1<|L0<|bE #[.int .u16 0,.int .u16 0,.int .u16 0,.slice none 0 0] fun b3 b4 k am N=>L0<|aW am #[.int .u16 0,.int .u16 0,.int .u16 0,.slice none 0 0] fun b5 an O=>nt<|sq<|sg<|Pl 6<|nl<|?_
 refine tn<|c0<|sg<|Pl 1<|?_
 have Y:=ud N O k
 have r:=aF c Y
 refine L0<|Oc<|m5 (wE (RC.upd a r ay (aD.step (RC.u a) r))) fun b6 ao aq ar aw t=>?_
 obtain⟨b7,b8⟩:=ao
 obtain⟨b9,ba⟩:=aq
 obtain⟨bb,bc⟩:=ar
 have P:=nb (RC.lt V) (le G c.size) k
 refine L0<|aW (aX t (Ne.symm P) an) #[.int .u16 ((aN C).file),.int .u16 ((aN C).record),.int .u16 ((aN C).count),.slice none 0 0] fun bd Z y=>ng<|Pl 2<|nt<|c0<|sg<|Pl 1<|L0<|Oi (s+2)<|Pl 1<|L0<|aU Z 2<|?_
 refine L0<|Oi ((aN C).count)<|L0<|Oi (2*((aN C).count))<|L0<|Oi ((s+2)+(2*((aN C).count)))<|Pl 1<|nt<|go<|Pl 3<|?_
 have Q:=us t y
 have a0:=ud I (ue Y Q k) E
 refine L0<|Oc<|m2 (aY ((decide (((s+2)+(2*((aN C).count)))≤245))) 5 (RC.upd aw y (aa P ay) a0)) fun bf az o=>?_
 refine fw az fun x68 aA a1=>?_
 refine nt<|go<|Pl 1<|?_
 refine L0<|ci (aX o (Ne.symm P) Z)<|L0<|dD (m:=1) (e:=109) #[.int .u16 ((aN C).file),.int .u16 ((aN C).record),.int .u16 ((aN C).count),.slice none 0 0] fun bh bm bo aE z=>?_
 have aH:=jC (R:=bq true) (x:=(dt.mk ((aN C).file) ((aN C).record) ((aN C).count) ([]))) aE rfl ⟨_,rfl,(aK.nil true _ _ _ _),aB (x:=(aN C).file) (by omega),aB (x:=(aN C).record) (by omega),aB (x:=(aN C).count) (by omega)⟩
 have a2:=aF o z
 have a3:=ue r (u1 Q a2 im) (le c.size k)
 have a4:=ax i a3 (fun x hx=>(aa (fun e=>(RC.nrow a i (by decide)) (e▸hx)) ay)) (bq.upd16 a3 (ak (RC.safe a _ (by decide)) aG))
 refine L0<|gC (xs:=L) (ys:=([(dt.mk ((aN C).file) ((aN C).record) ((aN C).count) ([]))])) (.agg #[.int .u16 0,.int .u16 0,.int .u16 0,.slice none 0 0]) 4 32 a4 aH (by simp) bq.ones (fun w' hv=>bq.upd16 hv (cS (dn _ a4 (by decide)) aG)) (by(try simp only[List.length_append,List.length_cons,List.length_nil,aC]);omega) (le (le (le (le (le (le (le (le F.size G) c.size) N.size) O.size) t.size) y.size) o.size) z.size) fun aI aJ br aL S=>Pl 1<|nl<|bn<|?_
 subst aA
 have hC2:(cU s C).2.1=((dF C).need (decide (((s+2)+(2*((aN C).count)))≤245)) 5):=by show eH s C=_;(try simp only[eH,et,← Int.add_assoc,f,J,M,bs,if_true,if_false,decide_true,decide_false]);all_goals rfl
 have hM2:[(cU s C).2.2]=[(dt.mk ((aN C).file) ((aN C).record) ((aN C).count) ([]))]:=by show[aN C]=_;(try simp only[eH,et,← Int.add_assoc,f,J,M,bs,if_true,if_false,decide_true,decide_false]);all_goals rfl
 have hS2:(cU s C).1=((s+2)+(2*((aN C).count))):=by(try (show et s C=_));(try simp only[et,← Int.add_assoc]);all_goals rfl
 have hlt:=qQ s C (by omega)
 have h9:=gV (one:=cU) H (by omega) (by omega) hlt
 rw[hC2,hM2,hS2] at h9
 rw[hC2] at hlt
 have a5:=ut a0 (ut (aD.mono (S':=(d :: (ob B++[]))) a2 (ac im au)) S (av il au)) (ac (nr E) (av (aV i lr) au))
 have a6:=ue r (u1 Q o im) (le c.size k)
 exact fF ((n-1),((dF C).need (decide (((s+2)+(2*((aN C).count)))≤245)) 5),(L++[(dt.mk ((aN C).file) ((aN C).record) ((aN C).count) ([]))]),aI,aJ,((s+2)+(2*((aN C).count)))) ⟨a5,(le (le (le (le (le (le (le (le G c.size) N.size) O.size) t.size) y.size) o.size) z.size) S.size),(RC.upd a1 (ut (aD.mono (S':=(ob B++[])) z au) S (av il au)) (bj (RC.nrow a1 (ax i a6 (fun x hx=>(aa (fun e=>(RC.nrow a i (by decide)) (e▸hx)) ay)) (bq.upd16 a6 (ak (RC.safe a _ (by decide)) aG))) (by decide)) ay) a5),aL,(by(try dsimp only);omega),(by(try dsimp only);intro he;have hk:=(uI (by decide) he).2;simp only[decide_eq_true_eq] at hk;omega),(by(try dsimp only);simp only[List.length_append,List.length_cons,List.length_nil];omega),h9⟩ (by omega)
 refine xt<|tx<|tx<|bx<|tn<|sq<|sg<|Pl 3<|?_
 have T:=RC.upd a c ay (aD.step (RC.u a) c)
 refine L0<|dY (p:=⟨d,3,none⟩) (v:=.int .i64 C.e) (RC.fld T)<|Pl 1<|nt<|cb ((C.e==2)) (fun q=>?_) (fun q=>?_)
 have aM:=al q
 refine sg<|Pl 2<|nt<|rt<|tr<|rr (.tuple #[.slice none 0 0,.int .i64 5])<|?_
 obtain⟨iw,iy⟩:=fi H f
 have hw:bp (aP cU b.length 0 ⟨b,false,0⟩ []).1.e=5:=by unfold bp;rw[iw,if_pos q]
 refine⟨none,0,0,by rw[hw],fun h=>absurd (hw.symm.trans h) (by decide),I⟩
 have aM:=ap q
 refine bi<|sq<|Rg 7 (fun w'=>w'.cell? ⟨d,3,none⟩=some (.int .i64 C.e)) fun bt D=>?_
 refine bg (RC.fld (RC.upd T D ay (aD.step (RC.u T) D))) fun g=>Rt 0 g<|Rt 1 g<|Rt 2 g<|Rt 3 g<|Rl 4 g (fun _ hs=>hs)<|Rt 5 g<|Rt 6 g<|re<|tn<|rt<|rr (.tuple #[.slice B L.length cq,.int .i64 C.e])<|?_
 obtain⟨iw,iy⟩:=fi H f
 have hw:bp (aP cU b.length 0 ⟨b,false,0⟩ []).1.e=C.e:=by unfold bp;rw[iw,if_neg (by rw[q];decide)]
 have a7:=aF c D
 refine⟨_,_,_,by rw[hw],fun h=>by rw[iy (hw.symm.trans h)];exact(ax i a7 (fun x hx=>ay) (bq.upd16 a7 aG)),(aF I D)⟩
theorem tf{m:Md}{A:Option Addr}{cp:Nat}{b:List Int}{w:World}(hsl:aT m w (.slice A b.length cp) b)(hb:b.length≤1048576) :
    Calls Tryz.prog 163 #[.int .i64 1,.int .u8 20,.slice A b.length cp] w (fG (aP bH b.length 0 ⟨b,false,0⟩ []) w):=by
 have hln:(b.length:Int)≤1048576:=by omega
 refine en 108 Tryz.func163 rfl<|sg<|Pl 2<|ng<|Pl 2<|L0<|dq #[.slice A b.length cp,.int .i64 0,.bool false,.int .i64 0] fun f ag M ba N=>Pl 1<|nt<|sq<|?_
 refine go<|Pl 1<|ng<|Pl 1<|nt<|sq<|bk<|?_
 have Z:RC w _ A cp b ag f (ah.mk b false 0):=⟨hsl,N,M,⟨0,ba,Nat.zero_le _,rfl⟩,by omega⟩
 refine hY (fun x=>[(0,.int .i64 1),(1,.int .u8 20),(6,.slice none 0 0),(7,.int .i64 0),(8,.pointer (some ⟨f,0,none⟩)),(9,.slice x.2.2.2.1 x.2.2.1.length x.2.2.2.2.1),(10,.int .i64 x.2.2.2.2.2)]) (fun(x:Nat × ah × List dt × Option Addr × Nat × Int) w'=>aD [] w w'∧ag.heap.size≤w'.heap.size∧RC w m A cp b w' f x.2.1∧be w.heap.size 109 4 (bq true) w' (.slice x.2.2.2.1 x.2.2.1.length x.2.2.2.2.1) x.2.2.1∧(0≤x.2.2.2.2.2)∧(x.2.1.e=0→x.2.2.2.2.2≤245)∧(x.2.2.1.length+x.2.1.l.length≤b.length)∧((x.2.1.e=0∧x.2.1.l.length≤x.1∧aP bH x.1 x.2.2.2.2.2 x.2.1 x.2.2.1=aP bH b.length 0 ⟨b,false,0⟩ [])∨(x.2.1.e≠0∧(aP bH b.length 0 ⟨b,false,0⟩ []).1=x.2.1))) (fun x=>x.2.1.l.length) (b.length,(ah.mk b false 0),[],none,0,0) ⟨N,lr,Z,(be.nil w.heap.size _ _ (bq true) _),(by(try dsimp only);omega),(fun _=>(show(0:Int)≤245 from by decide)),(by(try dsimp only);simp),.inl ⟨rfl,Nat.le_refl _,rfl⟩⟩ ?_
 rintro⟨n,C,L,B,cq,s⟩ ai ⟨bb,r,bc,bd,bf,bh,bm,bo⟩
 refine i1 [(0,.int .i64 1),(1,.int .u8 20),(6,.slice none 0 0),(7,.int .i64 0),(8,.pointer (some ⟨f,0,none⟩)),(9,.slice B L.length cq),(10,.int .i64 s)] ?_
 have a:RC w m A cp b ai f C:=bc
 have hlC:=RC.clen a
 have hrC:iR C:=RC.rng a
 have d:be w.heap.size 109 4 (bq true) ai (.slice B L.length cq) L:=bd
 have bY:0≤s:=bf
 have bZ:C.e=0→s≤245:=bh
 have c0:L.length+C.l.length≤b.length:=bm
 have O:(C.e=0∧C.l.length≤n∧aP bH n s C L=aP bH b.length 0 ⟨b,false,0⟩ [])∨(C.e≠0∧(aP bH b.length 0 ⟨b,false,0⟩ []).1=C):=bo
 refine sq<|sg<|Pl 1<|L0<|Oc<|m1 (i7 a) fun c2 c=>?_
 have c3:=RC.clen a
 refine Pl 2<|cu 6 [20] 26 (((decide (0<((C.l.length:Nat) : Int)))&&(C.e==0))) (fun K aj=>?_) ?_
 refine bl 20 ((decide (0<((C.l.length:Nat) : Int)))) (fun z=>?_) (fun z=>?_)
 have br:=of_decide_eq_true z
 refine Pl 3<|?_
 exact L1<|dY (p:=⟨f,3,none⟩) (v:=.int .i64 C.e) (RC.fld (RC.upd a c ay (aD.step (RC.u a) c)))<|Pl 2<|ce aj (C.e==0) (by rw[z];rfl)
 have br:=of_decide_eq_false z
 exact Pl 6<|ce aj false (by rw[z];rfl)
 refine nt<|?_
 have D:=aF bb c
 refine cb (((decide (0<((C.l.length:Nat) : Int)))&&(C.e==0))) (fun g=>?_) (fun g=>?_)
 have E:=(aR g).1
 have F:=(aR g).2
 have c4:=of_decide_eq_true E
 have c5:=al F
 refine bi<|bk<|sg<|Pl 1<|L0<|bE #[.int .u16 0,.int .u16 0,.int .u16 0,.slice none 0 0] fun P c6 j a0 G=>L0<|aW a0 #[.int .u16 0,.int .u16 0,.int .u16 0,.slice none 0 0] fun c7 an k=>nt<|sq<|sg<|Pl 6<|nl<|?_
 refine tn<|c1<|sg<|Pl 1<|?_
 have ao:=ud G k j
 have t:=aF c ao
 refine L0<|Oc<|m3 (dU (RC.upd a t ay (aD.step (RC.u a) t))) fun c8 H i c9=>L0<|Oi C.byteV<|Pl 1<|ng<|Pl 2<|L0<|Oe (.int .i64 (Int.tmod C.byteV 2)) (.int .i64 (C.byteV%2)) (congrArg (Value.int .i64) (Int.tmod_eq_emod_of_nonneg (by omega)))<|Pl 2<|cu 3 [41] 44 ((((C.byteV%2)==1)&&(decide (3≤C.byteV)))) (fun K aq=>?_) ?_
 refine bl 41 (((C.byteV%2)==1)) (fun I=>?_) (fun I=>?_)
 have bt:=al I
 exact Pl 3<|ce aq (decide (3≤C.byteV)) (by rw[I];rfl)
 have bt:=ap I
 exact Pl 3<|ce aq false (by rw[I];rfl)
 refine Pl 1<|?_
 have ar:=ud D (uz ao i) M
 refine bl 45 ((((C.byteV%2)==1)&&(decide (3≤C.byteV)))) (fun o=>?_) (fun o=>?_)
 have a1:=(aR o).1
 have a2:=(aR o).2
 have ca:=al a1
 have cc:=of_decide_eq_true a2
 refine Pl 2<|L1<|Oc<|m1 (i7 H) fun cd y=>?_
 have cf:=RC.clen H
 refine Pl 2<|?_
 refine L0<|Oc<|m2 (aY ((decide (C.byteV≤(((C.bytesC 1).l.length:Nat) : Int)))) 5 (RC.upd H y ay (aD.step (RC.u H) y))) fun cg bu Q=>?_
 refine fw bu fun x66 bv bw=>?_
 refine ng<|Pl 1<|L0<|Oc<|m3 (dU bw) fun ch bz S cj=>Pl 1<|ng<|Pl 3<|L0<|Oc<|m2 (aY ((x66.byteV==6)) 9 bz) fun ck bA T=>nl<|?_
 refine tn<|go<|Pl 2<|L0<|Oi (C.byteV-1)<|?_
 have cl:=lF (x:=(C.byteV-1)) (by omega)
 refine L0<|Oe (.int .i64 (IntKind.i64.wrap (Int.tdiv (C.byteV-1) 2))) (.int .i64 (Int.tdiv (C.byteV-1) 2)) (congrArg (Value.int .i64) (kf (by omega) (by omega)))<|L0<|Oc<|mF (fK (n:=(Int.tdiv (C.byteV-1) 2)) (by omega) bA) fun aw az cm aE cn co bB a3=>?_
 refine fw bB fun x82 bC aH=>?_
 refine Pl 1<|?_
 have aI:=uz y (u1 Q (u1 S (u1 T a3 im) im) im)
 have a4:=u1 i aI im
 have aJ:=nb (RC.lt Z) (le r c.size) j
 refine L0<|bX (aX a4 (Ne.symm aJ) an) 3 #[.int .u16 0,.int .u16 0,.int .u16 0,.slice aw ((((x66.bytesC 1).need (x66.byteV==6) 9).wordsR (Int.tdiv (C.byteV-1) 2)).length) az] fun cr bD a5=>nt<|go<|Pl 1<|L0<|ci bD<|L0<|dD (m:=1) (e:=109) #[.int .u16 0,.int .u16 0,.int .u16 0,.slice aw ((((x66.bytesC 1).need (x66.byteV==6) 9).wordsR (Int.tdiv (C.byteV-1) 2)).length) az] fun cs ct cv bF a6=>?_
 have a7:=aF a5 a6
 have bG:=jC (R:=bq true) (x:=(dt.mk 0 0 0 (((x66.bytesC 1).need (x66.byteV==6) 9).wordsR (Int.tdiv (C.byteV-1) 2)))) bF rfl ⟨_,rfl,((ax aE a7 (fun x hx=>(aa (fun e=>(aA (am a0) (le (le (le (le (le k.size i.size) y.size) Q.size) S.size) T.size) aE) (e▸hx)) ay)) (fun _ _ h=>h))).rd,aB (x:=0) (by omega),aB (x:=0) (by omega),aB (x:=0) (by omega)⟩
 have aK:=ue t (us a4 a7) (le c.size j)
 have aL:=ax d aK (fun x hx=>(aa (fun e=>(RC.nrow a d (by decide)) (e▸hx)) ay)) (bq.upd16 aK (ak (RC.safe a _ (by decide)) aG))
 refine L0<|gC (xs:=L) (ys:=([(dt.mk 0 0 0 (((x66.bytesC 1).need (x66.byteV==6) 9).wordsR (Int.tdiv (C.byteV-1) 2)))])) (.agg #[.int .u16 0,.int .u16 0,.int .u16 0,.slice none 0 0]) 4 32 aL bG (by simp) bq.ones (fun w' hv=>bq.upd16 hv (cS (dn _ aL (by decide)) aG)) (by(try simp only[List.length_append,List.length_cons,List.length_nil,aC]);omega) (le (le (le (le (le (le (le (le (le (le (le (le N.size r) c.size) G.size) k.size) i.size) y.size) Q.size) S.size) T.size) a3.size) a5.size) a6.size) fun bI bJ cw bK aM=>Pl 1<|nl<|bn<|?_
 subst bC bv
 have hC2:(bH s C).2.1=(((((C.bytesC 1).need (decide (C.byteV≤(((C.bytesC 1).l.length:Nat) : Int))) 5).bytesC 1).need (((C.bytesC 1).need (decide (C.byteV≤(((C.bytesC 1).l.length:Nat) : Int))) 5).byteV==6) 9).wordsC (Int.tdiv (C.byteV-1) 2)):=by show eW C=_;(try simp only[eW,eF,ib,i6,g,E,F,o,a1,a2,bs,if_true,if_false,decide_true,decide_false]);all_goals rfl
 have hM2:[(bH s C).2.2]=[(dt.mk 0 0 0 (((((C.bytesC 1).need (decide (C.byteV≤(((C.bytesC 1).l.length:Nat) : Int))) 5).bytesC 1).need (((C.bytesC 1).need (decide (C.byteV≤(((C.bytesC 1).l.length:Nat) : Int))) 5).byteV==6) 9).wordsR (Int.tdiv (C.byteV-1) 2)))]:=by show[eF C]=_;(try simp only[eW,eF,ib,i6,g,E,F,o,a1,a2,bs,if_true,if_false,decide_true,decide_false]);all_goals rfl
 have hS2:(bH s C).1=s:=by(try (show s=_));(try simp only[et,← Int.add_assoc]);all_goals rfl
 have hlt:=kz s C (by omega)
 have h9:=gV (one:=bH) O (by omega) (by omega) hlt
 rw[hC2,hM2,hS2] at h9
 rw[hC2] at hlt
 have aN:=ut (aD.mono (S':=(P :: (ob B++[]))) a7 (ac im au)) aM (av il au)
 have aO:=ut ar (ut (aD.mono (S':=(f :: (P :: (ob B++[])))) aI (ac im au)) aN (ac im (av il au))) (ac (nr M) (ac (ni D.size j) (av (aV d lr) au)))
 have aQ:=uz t a4
 exact fF ((n-1),(((((C.bytesC 1).need (decide (C.byteV≤(((C.bytesC 1).l.length:Nat) : Int))) 5).bytesC 1).need (((C.bytesC 1).need (decide (C.byteV≤(((C.bytesC 1).l.length:Nat) : Int))) 5).byteV==6) 9).wordsC (Int.tdiv (C.byteV-1) 2)),(L++[(dt.mk 0 0 0 (((((C.bytesC 1).need (decide (C.byteV≤(((C.bytesC 1).l.length:Nat) : Int))) 5).bytesC 1).need (((C.bytesC 1).need (decide (C.byteV≤(((C.bytesC 1).l.length:Nat) : Int))) 5).byteV==6) 9).wordsR (Int.tdiv (C.byteV-1) 2)))]),bI,bJ,s) ⟨aO,(le (le (le (le (le (le (le (le (le (le (le (le r c.size) G.size) k.size) i.size) y.size) Q.size) S.size) T.size) a3.size) a5.size) a6.size) aM.size),(RC.upd aH aN (aa aJ (bj (RC.nrow aH (ax d aQ (fun x hx=>(aa (fun e=>(RC.nrow a d (by decide)) (e▸hx)) ay)) (bq.upd16 aQ (ak (RC.safe a _ (by decide)) aG))) (by decide)) ay)) aO),bK,(by(try dsimp only);omega),(by(try dsimp only);intro he;omega),(by(try dsimp only);simp only[List.length_append,List.length_cons,List.length_nil];omega),h9⟩ (by omega)
 refine Pl 5<|L0<|Oc<|m2 (aY (false) 5 H) fun cx bL U=>ng<|Pl 1<|L0<|Oc<|m3 (dU bL) fun cy bM V cz=>Pl 1<|ng<|Pl 3<|L0<|Oc<|m2 (aY (((((C.bytesC 1).need false 5).byteV)==6)) 9 bM) fun cA bN W=>?_
 refine fw bN fun X bO bP=>?_
 refine nt<|go<|Pl 2<|L0<|Oi (C.byteV-1)<|?_
 have cB:=lF (x:=(C.byteV-1)) (by omega)
 refine L0<|Oe (.int .i64 (IntKind.i64.wrap (Int.tdiv (C.byteV-1) 2))) (.int .i64 (Int.tdiv (C.byteV-1) 2)) (congrArg (Value.int .i64) (kf (by omega) (by omega)))<|L0<|Oc<|mF (fK (n:=(Int.tdiv (C.byteV-1) 2)) (by omega) bP) fun aS aU cC aZ cD cE b0 a8=>Pl 1<|?_
 have b1:=u1 U (u1 V (u1 W a8 im) im) im
 have a9:=u1 i b1 im
 have b2:=nb (RC.lt Z) (le r c.size) j
 refine L0<|bX (aX a9 (Ne.symm b2) an) 3 #[.int .u16 0,.int .u16 0,.int .u16 0,.slice aS ((X.wordsR (Int.tdiv (C.byteV-1) 2)).length) aU] fun cF bQ ab=>nt<|go<|Pl 1<|L0<|ci bQ<|L0<|dD (m:=1) (e:=109) #[.int .u16 0,.int .u16 0,.int .u16 0,.slice aS ((X.wordsR (Int.tdiv (C.byteV-1) 2)).length) aU] fun cG cH cI bR ad=>?_
 have ae:=aF ab ad
 have bS:=jC (R:=bq true) (x:=(dt.mk 0 0 0 (X.wordsR (Int.tdiv (C.byteV-1) 2)))) bR rfl ⟨_,rfl,((ax aZ ae (fun x hx=>(aa (fun e=>(aA (am a0) (le (le (le (le k.size i.size) U.size) V.size) W.size) aZ) (e▸hx)) ay)) (fun _ _ h=>h))).rd,aB (x:=0) (by omega),aB (x:=0) (by omega),aB (x:=0) (by omega)⟩
 have b3:=ue t (us a9 ae) (le c.size j)
 have b4:=ax d b3 (fun x hx=>(aa (fun e=>(RC.nrow a d (by decide)) (e▸hx)) ay)) (bq.upd16 b3 (ak (RC.safe a _ (by decide)) aG))
 refine L0<|gC (xs:=L) (ys:=([(dt.mk 0 0 0 (X.wordsR (Int.tdiv (C.byteV-1) 2)))])) (.agg #[.int .u16 0,.int .u16 0,.int .u16 0,.slice none 0 0]) 4 32 b4 bS (by simp) bq.ones (fun w' hv=>bq.upd16 hv (cS (dn _ b4 (by decide)) aG)) (by(try simp only[List.length_append,List.length_cons,List.length_nil,aC]);omega) (le (le (le (le (le (le (le (le (le (le (le N.size r) c.size) G.size) k.size) i.size) U.size) V.size) W.size) a8.size) ab.size) ad.size) fun bT bU cJ bV b5=>Pl 1<|nl<|bn<|?_
 subst bO
 have hC2:(bH s C).2.1=(((((C.bytesC 1).need false 5).bytesC 1).need ((((C.bytesC 1).need false 5).byteV)==6) 9).wordsC (Int.tdiv (C.byteV-1) 2)):=by show eW C=_;(try simp only[eW,eF,ib,i6,g,E,F,o,bs,if_true,if_false,decide_true,decide_false]);all_goals rfl
 have hM2:[(bH s C).2.2]=[(dt.mk 0 0 0 (((((C.bytesC 1).need false 5).bytesC 1).need ((((C.bytesC 1).need false 5).byteV)==6) 9).wordsR (Int.tdiv (C.byteV-1) 2)))]:=by show[eF C]=_;(try simp only[eW,eF,ib,i6,g,E,F,o,bs,if_true,if_false,decide_true,decide_false]);all_goals rfl
 have hS2:(bH s C).1=s:=by(try (show s=_));(try simp only[et,← Int.add_assoc]);all_goals rfl
 have hlt:=kz s C (by omega)
 have h9:=gV (one:=bH) O (by omega) (by omega) hlt
 rw[hC2,hM2,hS2] at h9
 rw[hC2] at hlt
 have b6:=ut (aD.mono (S':=(P :: (ob B++[]))) ae (ac im au)) b5 (av il au)
 have b7:=ut ar (ut (aD.mono (S':=(f :: (P :: (ob B++[])))) b1 (ac im au)) b6 (ac im (av il au))) (ac (nr M) (ac (ni D.size j) (av (aV d lr) au)))
 have b8:=uz t a9
 exact fF ((n-1),(((((C.bytesC 1).need false 5).bytesC 1).need ((((C.bytesC 1).need false 5).byteV)==6) 9).wordsC (Int.tdiv (C.byteV-1) 2)),(L++[(dt.mk 0 0 0 (((((C.bytesC 1).need false 5).bytesC 1).need ((((C.bytesC 1).need false 5).byteV)==6) 9).wordsR (Int.tdiv (C.byteV-1) 2)))]),bT,bU,s) ⟨b7,(le (le (le (le (le (le (le (le (le (le (le r c.size) G.size) k.size) i.size) U.size) V.size) W.size) a8.size) ab.size) ad.size) b5.size),(RC.upd b0 b6 (aa b2 (bj (RC.nrow b0 (ax d b8 (fun x hx=>(aa (fun e=>(RC.nrow a d (by decide)) (e▸hx)) ay)) (bq.upd16 b8 (ak (RC.safe a _ (by decide)) aG))) (by decide)) ay)) b7),bV,(by(try dsimp only);omega),(by(try dsimp only);intro he;omega),(by(try dsimp only);simp only[List.length_append,List.length_cons,List.length_nil];omega),h9⟩ (by omega)
 refine xt<|tx<|tx<|bx<|tn<|sq<|sg<|Pl 3<|?_
 have af:=RC.upd a c ay (aD.step (RC.u a) c)
 refine L0<|dY (p:=⟨f,3,none⟩) (v:=.int .i64 C.e) (RC.fld af)<|Pl 1<|nt<|cb ((C.e==2)) (fun J=>?_) (fun J=>?_)
 have bW:=al J
 refine sg<|Pl 2<|nt<|rt<|tr<|rr (.tuple #[.slice none 0 0,.int .i64 5])<|?_
 obtain⟨iw,iy⟩:=fi O g
 have hw:bp (aP bH b.length 0 ⟨b,false,0⟩ []).1.e=5:=by unfold bp;rw[iw,if_pos J]
 refine⟨none,0,0,by rw[hw],fun h=>absurd (hw.symm.trans h) (by decide),D⟩
 have bW:=ap J
 refine bi<|sq<|Rg 7 (fun w'=>w'.cell? ⟨f,3,none⟩=some (.int .i64 C.e)) fun cK Y=>?_
 refine bg (RC.fld (RC.upd af Y ay (aD.step (RC.u af) Y))) fun q=>Rt 0 q<|Rt 1 q<|Rt 2 q<|Rt 3 q<|Rl 4 q (fun _ hs=>hs)<|Rt 5 q<|Rt 6 q<|re<|tn<|rt<|rr (.tuple #[.slice B L.length cq,.int .i64 C.e])<|?_
 obtain⟨iw,iy⟩:=fi O g
 have hw:bp (aP bH b.length 0 ⟨b,false,0⟩ []).1.e=C.e:=by unfold bp;rw[iw,if_neg (by rw[J];decide)]
 have b9:=aF c Y
 refine⟨_,_,_,by rw[hw],fun h=>by rw[iy (hw.symm.trans h)];exact(ax d b9 (fun x hx=>ay) (bq.upd16 b9 aG)),(aF D Y)⟩
theorem t6{m:Md}{A:Option Addr}{cp:Nat}{b:List Int}{w:World}{dir:Int}(hsl:aT m w (.slice A b.length cp) b)(hb:b.length≤1048576) :
    Calls Tryz.prog 163 #[.int .i64 dir,.int .u8 21,.slice A b.length cp] w (fG (aP cT b.length 0 ⟨b,false,0⟩ []) w):=by
 have hln:(b.length:Int)≤1048576:=by omega
 refine en 108 Tryz.func163 rfl<|sg<|Pl 2<|ng<|Pl 2<|L0<|dq #[.slice A b.length cp,.int .i64 0,.bool false,.int .i64 0] fun d a3 N aH O=>Pl 1<|nt<|sq<|?_
 refine go<|Pl 1<|ng<|Pl 1<|nt<|sq<|bk<|?_
 have a4:RC w _ A cp b a3 d (ah.mk b false 0):=⟨hsl,O,N,⟨0,aH,Nat.zero_le _,rfl⟩,by omega⟩
 refine hY (fun x=>[(0,.int .i64 dir),(1,.int .u8 21),(6,.slice none 0 0),(7,.int .i64 0),(8,.pointer (some ⟨d,0,none⟩)),(9,.slice x.2.2.2.1 x.2.2.1.length x.2.2.2.2.1),(10,.int .i64 x.2.2.2.2.2)]) (fun(x:Nat × ah × List dt × Option Addr × Nat × Int) w'=>aD [] w w'∧a3.heap.size≤w'.heap.size∧RC w m A cp b w' d x.2.1∧be w.heap.size 109 4 (bq true) w' (.slice x.2.2.2.1 x.2.2.1.length x.2.2.2.2.1) x.2.2.1∧(0≤x.2.2.2.2.2)∧(x.2.1.e=0→x.2.2.2.2.2≤245)∧(x.2.2.1.length+x.2.1.l.length≤b.length)∧((x.2.1.e=0∧x.2.1.l.length≤x.1∧aP cT x.1 x.2.2.2.2.2 x.2.1 x.2.2.1=aP cT b.length 0 ⟨b,false,0⟩ [])∨(x.2.1.e≠0∧(aP cT b.length 0 ⟨b,false,0⟩ []).1=x.2.1))) (fun x=>x.2.1.l.length) (b.length,(ah.mk b false 0),[],none,0,0) ⟨O,lr,a4,(be.nil w.heap.size _ _ (bq true) _),(by(try dsimp only);omega),(fun _=>(show(0:Int)≤245 from by decide)),(by(try dsimp only);simp),.inl ⟨rfl,Nat.le_refl _,rfl⟩⟩ ?_
 rintro⟨n,C,L,B,cq,s⟩ a5 ⟨aI,P,aJ,aK,aL,aM,aO,aQ⟩
 refine i1 [(0,.int .i64 dir),(1,.int .u8 21),(6,.slice none 0 0),(7,.int .i64 0),(8,.pointer (some ⟨d,0,none⟩)),(9,.slice B L.length cq),(10,.int .i64 s)] ?_
 have a:RC w m A cp b a5 d C:=aJ
 have hlC:=RC.clen a
 have hrC:iR C:=RC.rng a
 have j:be w.heap.size 109 4 (bq true) a5 (.slice B L.length cq) L:=aK
 have bm:0≤s:=aL
 have bo:C.e=0→s≤245:=aM
 have br:L.length+C.l.length≤b.length:=aO
 have Q:(C.e=0∧C.l.length≤n∧aP cT n s C L=aP cT b.length 0 ⟨b,false,0⟩ [])∨(C.e≠0∧(aP cT b.length 0 ⟨b,false,0⟩ []).1=C):=aQ
 refine sq<|sg<|Pl 1<|L0<|Oc<|m1 (i7 a) fun bt c=>?_
 have bu:=RC.clen a
 refine Pl 2<|cu 6 [20] 26 (((decide (0<((C.l.length:Nat) : Int)))&&(C.e==0))) (fun K a6=>?_) ?_
 refine bl 20 ((decide (0<((C.l.length:Nat) : Int)))) (fun r=>?_) (fun r=>?_)
 have aS:=of_decide_eq_true r
 refine Pl 3<|?_
 exact L1<|dY (p:=⟨d,3,none⟩) (v:=.int .i64 C.e) (RC.fld (RC.upd a c ay (aD.step (RC.u a) c)))<|Pl 2<|ce a6 (C.e==0) (by rw[r];rfl)
 have aS:=of_decide_eq_false r
 exact Pl 6<|ce a6 false (by rw[r];rfl)
 refine nt<|?_
 have F:=aF aI c
 refine cb (((decide (0<((C.l.length:Nat) : Int)))&&(C.e==0))) (fun g=>?_) (fun g=>?_)
 have S:=(aR g).1
 have T:=(aR g).2
 have bv:=of_decide_eq_true S
 have bw:=al T
 refine bi<|bk<|sg<|Pl 1<|L0<|bE #[.int .u16 0,.int .u16 0,.int .u16 0,.slice none 0 0] fun U bz k a7 V=>L0<|aW a7 #[.int .u16 0,.int .u16 0,.int .u16 0,.slice none 0 0] fun bA aZ G=>nt<|sq<|sg<|Pl 6<|nl<|?_
 refine tn<|c0<|sg<|Pl 1<|?_
 have a8:=ud V G k
 have H:=aF c a8
 refine L0<|Oc<|m5 (wE (RC.upd a H ay (aD.step (RC.u a) H))) fun bB b0 b1 b2 b3 t=>?_
 obtain⟨bC,bD⟩:=b0
 obtain⟨bF,bG⟩:=b1
 obtain⟨bH,bI⟩:=b2
 have y:=nb (RC.lt a4) (le P c.size) k
 refine L0<|aW (aX t (Ne.symm y) aZ) #[.int .u16 ((aN C).file),.int .u16 ((aN C).record),.int .u16 ((aN C).count),.slice none 0 0] fun bJ b4 I=>ng<|Pl 2<|nt<|c1<|sq<|Rg 9 (fun w'=>w'.cell? ⟨U,2,none⟩=some (.int .u16 ((aN C).count))) fun bK z=>?_
 have a9:=ub z b4
 refine bg (ag a9 rfl) fun o=>Rt 0 o<|Rt 1 o<|Rl 2 o (fun _ hs=>hs)<|Rr 3 o (.int .i64 ((aN C).count)) (fun _ _=>cg (.int .i64 (IntKind.i64.wrap ((aN C).count))) (by kernel_rfl) (congrArg (Value.int .i64) (i64_in (by omega))))<|Rr 4 o (.int .i64 (2*((aN C).count))) (fun _ _=>cg (.int .i64 (IntKind.i64.wrap (2*((aN C).count)))) (by kernel_rfl) (congrArg (Value.int .i64) (IntWalk.i64_in _ (by omega))))<|Rt 5 o<|?_
 have ab:=aF I z
 have W:=us t ab
 have ad:=ud F (ue a8 W k) N
 have J:=RC.upd b3 ab (aa y ay) ad
 refine R0 6 rfl<|Oc<|m1 (i7 J) fun bL f=>?_
 have bM:=RC.clen J
 have ae:=ub f a9
 refine bg (ag ae rfl) fun b5=>Rt 7 b5<|?_
 refine R0 8 rfl<|Oc<|m2 (aY ((decide ((2*((aN C).count))≤(((dF C).l.length:Nat) : Int)))) 5 (RC.upd J f ay (aD.step (RC.u J) f))) fun bN b6 q=>?_
 refine fw b6 fun x93 b7 b8=>?_
 have X:=aX q (Ne.symm y) ae
 refine bg (ag X rfl) fun bO=>re<|tn<|go<|Pl 2<|L0<|aU X 2<|L0<|Oi ((aN C).count)<|L0<|Oc<|mF (fK (n:=(aN C).count) (by omega) b8) fun af ai bP aj bQ bR an D=>Pl 1<|?_
 refine L0<|bX (aX D (Ne.symm y) X) 3 #[.int .u16 ((aN C).file),.int .u16 ((aN C).record),.int .u16 ((aN C).count),.slice af ((x93.wordsR ((aN C).count)).length) ai] fun bS b9 Y=>nt<|go<|Pl 1<|L0<|ci b9<|L0<|dD (m:=1) (e:=109) #[.int .u16 ((aN C).file),.int .u16 ((aN C).record),.int .u16 ((aN C).count),.slice af ((x93.wordsR ((aN C).count)).length) ai] fun bT bU bV ba Z=>?_
 have a0:=aF Y Z
 have bb:=jC (R:=bq true) (x:=(dt.mk ((aN C).file) ((aN C).record) ((aN C).count) (x93.wordsR ((aN C).count)))) ba rfl ⟨_,rfl,((ax aj a0 (fun x hx=>(aa (fun e=>(aA (am a7) (le (le (le (le (le G.size t.size) I.size) z.size) f.size) q.size) aj) (e▸hx)) ay)) (fun _ _ h=>h))).rd,aB (x:=(aN C).file) (by omega),aB (x:=(aN C).record) (by omega),aB (x:=(aN C).count) (by omega)⟩
 have ao:=uz f (ui q (us D a0))
 have aq:=ue H (ut W ao (ac im (ac im au))) (le c.size k)
 have ar:=ax j aq (fun x hx=>(aa (fun e=>(RC.nrow a j (by decide)) (e▸hx)) ay)) (bq.upd16 aq (ak (RC.safe a _ (by decide)) aG))
 refine L0<|gC (xs:=L) (ys:=([(dt.mk ((aN C).file) ((aN C).record) ((aN C).count) (x93.wordsR ((aN C).count)))])) (.agg #[.int .u16 0,.int .u16 0,.int .u16 0,.slice none 0 0]) 4 32 ar bb (by simp) bq.ones (fun w' hv=>bq.upd16 hv (cS (dn _ ar (by decide)) aG)) (by(try simp only[List.length_append,List.length_cons,List.length_nil,aC]);omega) (le (le (le (le (le (le (le (le (le (le (le (le O.size P) c.size) V.size) G.size) t.size) I.size) z.size) f.size) q.size) D.size) Y.size) Z.size) fun bc bd bW bf a1=>Pl 1<|nl<|bn<|?_
 subst b7
 have hC2:(cT s C).2.1=(((dF C).need (decide ((2*((aN C).count))≤(((dF C).l.length:Nat) : Int))) 5).wordsC ((aN C).count)):=by show iS C=_;(try simp only[iS,iq,nR,g,S,T,bs,if_true,if_false,decide_true,decide_false]);all_goals rfl
 have hM2:[(cT s C).2.2]=[(dt.mk ((aN C).file) ((aN C).record) ((aN C).count) (((dF C).need (decide ((2*((aN C).count))≤(((dF C).l.length:Nat) : Int))) 5).wordsR ((aN C).count)))]:=by show[iq C]=_;(try simp only[iS,iq,nR,g,S,T,bs,if_true,if_false,decide_true,decide_false]);all_goals rfl
 have hS2:(cT s C).1=s:=by(try (show s=_));(try simp only[et,← Int.add_assoc]);all_goals rfl
 have hlt:=qs s C (by omega)
 have h9:=gV (one:=cT) Q (by omega) (by omega) hlt
 rw[hC2,hM2,hS2] at h9
 rw[hC2] at hlt
 have aw:=ut ad (ut (aD.mono (S':=(d :: (U :: (ob B++[])))) ao (ac im (ac im au))) a1 (av il au)) (ac (nr N) (ac (ni F.size k) (av (aV j lr) au)))
 have az:=ue H (u1 W (uz f (u1 q D im)) im) (le c.size k)
 exact fF ((n-1),(((dF C).need (decide ((2*((aN C).count))≤(((dF C).l.length:Nat) : Int))) 5).wordsC ((aN C).count)),(L++[(dt.mk ((aN C).file) ((aN C).record) ((aN C).count) (((dF C).need (decide ((2*((aN C).count))≤(((dF C).l.length:Nat) : Int))) 5).wordsR ((aN C).count)))]),bc,bd,s) ⟨aw,(le (le (le (le (le (le (le (le (le (le (le (le P c.size) V.size) G.size) t.size) I.size) z.size) f.size) q.size) D.size) Y.size) Z.size) a1.size),(RC.upd an (ut (aD.mono (S':=(U :: (ob B++[]))) a0 (ac im au)) a1 (av il au)) (aa y (bj (RC.nrow an (ax j az (fun x hx=>(aa (fun e=>(RC.nrow a j (by decide)) (e▸hx)) ay)) (bq.upd16 az (ak (RC.safe a _ (by decide)) aG))) (by decide)) ay)) aw),bf,(by(try dsimp only);omega),(by(try dsimp only);intro he;omega),(by(try dsimp only);simp only[List.length_append,List.length_cons,List.length_nil];omega),h9⟩ (by omega)
 refine xt<|tx<|tx<|bx<|tn<|sq<|sg<|Pl 3<|?_
 have a2:=RC.upd a c ay (aD.step (RC.u a) c)
 refine L0<|dY (p:=⟨d,3,none⟩) (v:=.int .i64 C.e) (RC.fld a2)<|Pl 1<|nt<|cb ((C.e==2)) (fun E=>?_) (fun E=>?_)
 have bh:=al E
 refine sg<|Pl 2<|nt<|rt<|tr<|rr (.tuple #[.slice none 0 0,.int .i64 5])<|?_
 obtain⟨iw,iy⟩:=fi Q g
 have hw:bp (aP cT b.length 0 ⟨b,false,0⟩ []).1.e=5:=by unfold bp;rw[iw,if_pos E]
 refine⟨none,0,0,by rw[hw],fun h=>absurd (hw.symm.trans h) (by decide),F⟩
 have bh:=ap E
 refine bi<|sq<|Rg 7 (fun w'=>w'.cell? ⟨d,3,none⟩=some (.int .i64 C.e)) fun bY M=>?_
 refine bg (RC.fld (RC.upd a2 M ay (aD.step (RC.u a2) M))) fun i=>Rt 0 i<|Rt 1 i<|Rt 2 i<|Rt 3 i<|Rl 4 i (fun _ hs=>hs)<|Rt 5 i<|Rt 6 i<|re<|tn<|rt<|rr (.tuple #[.slice B L.length cq,.int .i64 C.e])<|?_
 obtain⟨iw,iy⟩:=fi Q g
 have hw:bp (aP cT b.length 0 ⟨b,false,0⟩ []).1.e=C.e:=by unfold bp;rw[iw,if_neg (by rw[E];decide)]
 have aE:=aF c M
 refine⟨_,_,_,by rw[hw],fun h=>by rw[iy (hw.symm.trans h)];exact(ax j aE (fun x hx=>ay) (bq.upd16 aE aG)),(aF F M)⟩
theorem lW{m:Md}{v:Value}{b:List Int}{w:World}(h:aT m w v b)(hb:b.length≤1048576) :
    Calls Tryz.prog 163 #[.int .i64 0,.int .u8 20,v] w (fG (aP cU b.length 0 ⟨b,false,0⟩ []) w):=by
  obtain⟨A,cp,rfl,_,_⟩:=h.shape
  exact ur h hb
theorem lP{m:Md}{v:Value}{b:List Int}{w:World}(h:aT m w v b)(hb:b.length≤1048576) :
    Calls Tryz.prog 163 #[.int .i64 1,.int .u8 20,v] w (fG (aP bH b.length 0 ⟨b,false,0⟩ []) w):=by
  obtain⟨A,cp,rfl,_,_⟩:=h.shape
  exact tf h hb
theorem lI{m:Md}{v:Value}{b:List Int}{w:World}{dir:Int}(h:aT m w v b)(hb:b.length≤1048576) :
    Calls Tryz.prog 163 #[.int .i64 dir,.int .u8 21,v] w (fG (aP cT b.length 0 ⟨b,false,0⟩ []) w):=by
  obtain⟨A,cp,rfl,_,_⟩:=h.shape
  exact t6 h hb
open Go.RowKit
theorem fS{x:Int}(h:bp x=0) : x=0:=by
  unfold bp at h
  split at h
  · cases h
  · exact h
theorem ji{x:Int}(h:¬ bp x=0) : (x != 0)=true:=by
  rw[bne_iff_ne]
  rintro rfl
  exact h rfl
theorem gD:((0:Int)!=0)=false:=rfl
theorem sY{m:Md}{A:Option Addr}{cp:Nat}{b:List Int}{w:World}(hsl:aT m w (.slice A b.length cp) b)(hb:b.length≤1048576) :
    Calls Tryz.prog 96 #[.int .i64 0,.int .u8 20,.slice A b.length cp] w (dk (.slice A b.length cp) b (bI cU eo 20 b) w):=by
 have hln:(b.length:Int)≤1048576:=by omega
 have hcp:b.length≤cp:=by obtain⟨_,_,hv,h1,_⟩:=aK.shape hsl;injection hv with _ _ h3;omega
 have hrb:=aT.range hsl
 refine en 101 Tryz.func96 rfl<|sg<|L0<|bE mZ fun a9 ab i g j=>Pl 1<|nt<|sq<|sg<|Pl 6<|nt<|c0<|?_
 refine bi<|sq<|sg<|Pl 6<|nt<|c0<|bi<|sq<|sg<|?_
 refine Pl 3<|nt<|cb ((((b.length:Nat) : Int)==0)) (fun a=>?_) (fun a=>?_)
 have J:=al a
 refine sg<|Pl 1<|L0<|aW g mZ fun ac L M=>Pl 1<|nt<|rt<|tr<|bz L (.int .i64 2)<|?_
 have hs:bI cU eo 20 b=(aQ.zero,2):=by
   unfold bI dz cX eo
   (try simp only[a,bs,if_true,if_false,decide_true,decide_false,gD,reduceIte])
   all_goals rfl
 rw[hs]
 exact bu (ud j M i)
 have J:=ap a
 refine bi<|sg<|Pl 1<|?_
 have t:=aT.old hsl j
 refine eJ (aT.at_ t 0 (by omega)) fun N O Q R ad=>L0<|iZ b.length 0 Q (by omega)<|L0<|dY (p:=⟨N,O+0,none⟩) (v:=.int .u8 (b.getD 0 0)) R<|L0<|Oi (b.getD 0 0)<|Pl 1<|ng<|Pl 3<|cu 3 [36] 39 (((decide (9≤(b.getD 0 0)))&&(decide ((b.getD 0 0)≤251)))) (fun K C=>?_) ?_
 refine bl 36 ((decide (9≤(b.getD 0 0)))) (fun l=>?_) (fun l=>?_)
 have S:=of_decide_eq_true l
 exact Pl 3<|ce C (decide ((b.getD 0 0)≤251)) (by rw[l];rfl)
 have S:=of_decide_eq_false l
 exact Pl 3<|ce C false (by rw[l];rfl)
 refine Pl 1<|nt<|sq<|sg<|Pl 6<|nt<|c1<|go<|Pl 3<|cu 3 [48] 51 (((decide (7≤(b.getD 0 0)))&&(decide ((b.getD 0 0)≤245)))) (fun K D=>?_) ?_
 refine bl 48 ((decide (7≤(b.getD 0 0)))) (fun o=>?_) (fun o=>?_)
 have T:=of_decide_eq_true o
 exact Pl 3<|ce D (decide ((b.getD 0 0)≤245)) (by rw[o];rfl)
 have T:=of_decide_eq_false o
 exact Pl 3<|ce D false (by rw[o];rfl)
 refine Pl 1<|cu 4 [52] 56 ((((decide (7≤(b.getD 0 0)))&&(decide ((b.getD 0 0)≤245)))&&(((b.getD 0 0)%7)==0))) (fun K E=>?_) ?_
 refine bl 52 (((decide (7≤(b.getD 0 0)))&&(decide ((b.getD 0 0)≤245)))) (fun q=>?_) (fun q=>?_)
 have U:=(aR q).1
 have V:=(aR q).2
 have ae:=of_decide_eq_true U
 have af:=of_decide_eq_true V
 exact Pl 1<|L1<|Oe (.int .i64 (Int.tmod (b.getD 0 0) 7)) (.int .i64 ((b.getD 0 0)%7)) (congrArg (Value.int .i64) (Int.tmod_eq_emod_of_nonneg (by omega)))<|Pl 2<|ce E (((b.getD 0 0)%7)==0) (by rw[q];rfl)
 exact Pl 4<|ce E false (by rw[q];rfl)
 refine Pl 1<|nt<|sq<|sg<|Pl 6<|nt<|c0<|bi<|sq<|sq<|?_
 refine go<|Pl 2<|nt<|cb ((!(((decide (7≤(b.getD 0 0)))&&(decide ((b.getD 0 0)≤245)))&&(((b.getD 0 0)%7)==0)))) (fun d=>?_) (fun d=>?_)
 have f:(((decide (7≤(b.getD 0 0)))&&(decide ((b.getD 0 0)≤245)))&&(((b.getD 0 0)%7)==0))=false:=by simpa only[Bool.not_eq_true',Bool.not_eq_false'] using d
 refine sg<|Pl 1<|L0<|aW g mZ fun ag W X=>Pl 1<|nt<|rt<|tr<|bz W (.int .i64 5)<|?_
 have hs:bI cU eo 20 b=(aQ.zero,5):=by
   unfold bI dz cX eo
   (try simp only[a,d,f,bs,if_true,if_false,decide_true,decide_false,gD,reduceIte])
   all_goals rfl
 rw[hs]
 exact bu (ud j X i)
 have f:(((decide (7≤(b.getD 0 0)))&&(decide ((b.getD 0 0)≤245)))&&(((b.getD 0 0)%7)==0))=true:=by simpa only[Bool.not_eq_true',Bool.not_eq_false'] using d
 have k:=(aR f).1
 have r:=(aR f).2
 have q32naa:=(aR k).1
 have q32nab:=(aR k).2
 have q32naap:=of_decide_eq_true q32naa
 have q32nabp:=of_decide_eq_true q32nab
 have q32nbp:=al r
 refine bi<|sq<|sg<|Pl 3<|L0<|Oi ((b.getD 0 0)+1)<|Pl 1<|nt<|cb ((decide (((b.length:Nat) : Int)<((b.getD 0 0)+1)))) (fun h=>?_) (fun h=>?_)
 have Y:=of_decide_eq_true h
 refine sg<|Pl 1<|L0<|aW g mZ fun ah Z a0=>Pl 1<|nt<|rt<|tr<|bz Z (.int .i64 2)<|?_
 have hs:bI cU eo 20 b=(aQ.zero,2):=by
   unfold bI dz cX eo
   (try simp only[a,d,f,k,q32naa,q32nab,r,h,bs,if_true,if_false,decide_true,decide_false,gD,reduceIte])
   all_goals rfl
 rw[hs]
 exact bu (ud j a0 i)
 have Y:=of_decide_eq_false h
 refine bi<|sg<|Pl 4<|L0<|Oi ((b.getD 0 0)+1)<|jW (fg (P:=Tryz.prog) 22 5 1 Tryz.underlying22 rfl rfl A b.length cp (lo:=1) (up:=((b.getD 0 0)+1)) 1 ((((b.getD 0 0)+1)).toNat) (by omega) (by omega) (by omega) (by omega) (by omega)) fun u hrun43 F=>L0<|g9 (.slice u (((((b.getD 0 0)+1)).toNat)-1) (cp-1)) (ec (kl:=.i64) (kh:=.i64) (lo:=1) (hi:=((b.getD 0 0)+1)) (A:=A) (n:=b.length) (c:=cp) rfl Tryz.underlying22 (by kernel_rfl) (by kernel_rfl) (by kernel_rfl) (hrun43 _ _ _))<|?_
 by_cases hE:bp (aP cU (((b.take ((((b.getD 0 0)+1)).toNat)).drop 1)).length 0 ⟨((b.take ((((b.getD 0 0)+1)).toNat)).drop 1),false,0⟩ []).1.e=0
 refine L0<|Oc (args:=#[.int .i64 0,.int .u8 20,.slice u (((((b.getD 0 0)+1)).toNat)-1) (cp-1)])<|e2 (jU (lW (F _ _ _ _ _ t) (by rw[List.length_drop,List.length_take];omega)) hE) fun ai aj y z=>?_
 obtain⟨a1,a2,rfl,an,ao⟩:=aK.shape y.rd
 refine Pl 5<|nt<|sq<|sg<|Pl 2<|nt<|c0<|bi<|sq<|sq<|?_
 refine go<|Pl 3<|L0<|Oi ((b.getD 0 0)+1)<|Pl 1<|nt<|?_
 have G:=aF j z
 refine cb ((decide (((b.getD 0 0)+1)<((b.length:Nat) : Int)))) (fun s=>?_) (fun s=>?_)
 have a3:=of_decide_eq_true s
 refine sg<|Pl 1<|?_
 refine L0<|aW (ub z g) mZ fun aq a4 a5=>Pl 1<|nt<|rt<|tr<|bz a4 (.int .i64 3)<|?_
 have hE0:(aP cU (((b.take ((((b.getD 0 0)+1)).toNat)).drop 1)).length 0 ⟨((b.take ((((b.getD 0 0)+1)).toNat)).drop 1),false,0⟩ []).1.e=0:=fS hE
 have hs:bI cU eo 20 b=(aQ.zero,3):=by
   unfold bI dz cX eo
   (try simp only[a,d,f,k,q32naa,q32nab,r,h,s,bs,if_true,if_false,decide_true,decide_false,hE0,gD,reduceIte])
   all_goals rfl
 rw[hs]
 exact bu (ud G a5 i)
 have a3:=of_decide_eq_false s
 refine bi<|sg<|Pl 3<|?_
 have H:=ub z g
 refine L0<|aW H (mG 20 0 0 0 0 0 0 0 0 0 0 0 nS nS nS (.slice a1 ((aP cU (((b.take ((((b.getD 0 0)+1)).toNat)).drop 1)).length 0 ⟨((b.take ((((b.getD 0 0)+1)).toNat)).drop 1),false,0⟩ []).2.length) a2) 0 0 0 0 0 nS) fun ar a6 B=>Pl 1<|nt<|rt<|bz a6 (.int .i64 0)<|?_
 have hE0:(aP cU (((b.take ((((b.getD 0 0)+1)).toNat)).drop 1)).length 0 ⟨((b.take ((((b.getD 0 0)+1)).toNat)).drop 1),false,0⟩ []).1.e=0:=fS hE
 have hs:bI cU eo 20 b=((aQ.mk 20 0 0 0 0 0 0 0 0 0 0 0 [] [] [] (aP cU (((b.take ((((b.getD 0 0)+1)).toNat)).drop 1)).length 0 ⟨((b.take ((((b.getD 0 0)+1)).toNat)).drop 1),false,0⟩ []).2 0 0 0 0 0 []),0):=by
   unfold bI dz cX eo
   (try simp only[a,d,f,k,q32naa,q32nab,r,h,s,bs,if_true,if_false,decide_true,decide_false,hE0,gD,reduceIte])
   all_goals rfl
 rw[hs]
 exact⟨_,rfl,⟨_,_,_,_,_,rfl,aK.nil ..,aK.nil ..,(fun _ _ _=>aK.nil ..),((ax y B (fun x hx=>(aa (fun e=>(aA (am g) lr y) (e▸hx)) ay)) (bq.upd16 B (ak (aM H (by decide)) aG)))).rd,aK.nil ..,⟨(b8 (x:=20) (by omega)),(b8 (x:=0) (by omega)),(aB (x:=0) (by omega)),(aB (x:=0) (by omega)),(aB (x:=0) (by omega)),(aB (x:=0) (by omega)),(aB (x:=0) (by omega)),(aB (x:=0) (by omega)),(aB (x:=0) (by omega)),(aB (x:=0) (by omega)),(aB (x:=0) (by omega)),(aB (x:=0) (by omega)),(b8 (x:=0) (by omega)),(b8 (x:=0) (by omega)),(b8 (x:=0) (by omega)),(b8 (x:=0) (by omega)),(b8 (x:=0) (by omega))⟩⟩,(ud G B i)⟩
 refine L0<|Oc (args:=#[.int .i64 0,.int .u8 20,.slice u (((((b.getD 0 0)+1)).toNat)-1) (cp-1)])<|?_
 refine(j6 (lW (F _ _ _ _ _ t) (by rw[List.length_drop,List.length_take];omega))).mono ?_
 rintro _ au ⟨av,aw,az,rfl,I⟩
 refine⟨_,rfl,?_⟩
 have hE1:(bp (aP cU (((b.take ((((b.getD 0 0)+1)).toNat)).drop 1)).length 0 ⟨((b.take ((((b.getD 0 0)+1)).toNat)).drop 1),false,0⟩ []).1.e != 0)=true:=by simpa using hE
 refine Pl 5<|nt<|sq<|sg<|Pl 2<|nt<|ct hE1<|sg<|Pl 2<|?_
 refine L0<|aW (ub I g) mZ fun aC a7 a8=>Pl 1<|nt<|rt<|tr<|bz a7 (.int .i64 (bp (aP cU (((b.take ((((b.getD 0 0)+1)).toNat)).drop 1)).length 0 ⟨((b.take ((((b.getD 0 0)+1)).toNat)).drop 1),false,0⟩ []).1.e))<|?_
 have hE3:((aP cU (((b.take ((((b.getD 0 0)+1)).toNat)).drop 1)).length 0 ⟨((b.take ((((b.getD 0 0)+1)).toNat)).drop 1),false,0⟩ []).1.e != 0)=true:=ji hE
 have hs:bI cU eo 20 b=(aQ.zero,bp (aP cU (((b.take ((((b.getD 0 0)+1)).toNat)).drop 1)).length 0 ⟨((b.take ((((b.getD 0 0)+1)).toNat)).drop 1),false,0⟩ []).1.e):=by
   unfold bI dz cX eo
   (try simp only[a,d,f,k,q32naa,q32nab,r,h,hE1,bs,if_true,if_false,decide_true,decide_false,hE3,gD,reduceIte])
   all_goals rfl
 rw[hs]
 exact bu (ud j (uz I a8) i)
theorem um{m:Md}{A:Option Addr}{cp:Nat}{b:List Int}{w:World}(hsl:aT m w (.slice A b.length cp) b)(hb:b.length≤1048576) :
    Calls Tryz.prog 96 #[.int .i64 1,.int .u8 20,.slice A b.length cp] w (dk (.slice A b.length cp) b (bI bH er 20 b) w):=by
 have hln:(b.length:Int)≤1048576:=by omega
 have hcp:b.length≤cp:=by obtain⟨_,_,hv,h1,_⟩:=aK.shape hsl;injection hv with _ _ h3;omega
 have hrb:=aT.range hsl
 refine en 101 Tryz.func96 rfl<|sg<|L0<|bE mZ fun a5 a6 i g j=>Pl 1<|nt<|sq<|sg<|Pl 6<|nt<|c0<|?_
 refine bi<|sq<|sg<|Pl 6<|nt<|c0<|bi<|sq<|sg<|?_
 refine Pl 3<|nt<|cb ((((b.length:Nat) : Int)==0)) (fun a=>?_) (fun a=>?_)
 have H:=al a
 refine sg<|Pl 1<|L0<|aW g mZ fun a7 I J=>Pl 1<|nt<|rt<|tr<|bz I (.int .i64 2)<|?_
 have hs:bI bH er 20 b=(aQ.zero,2):=by
   unfold bI dz cX er
   (try simp only[a,bs,if_true,if_false,decide_true,decide_false,gD,reduceIte])
   all_goals rfl
 rw[hs]
 exact bu (ud j J i)
 have H:=ap a
 refine bi<|sg<|Pl 1<|?_
 have s:=aT.old hsl j
 refine eJ (aT.at_ s 0 (by omega)) fun L M N O a8=>L0<|iZ b.length 0 N (by omega)<|L0<|dY (p:=⟨L,M+0,none⟩) (v:=.int .u8 (b.getD 0 0)) O<|L0<|Oi (b.getD 0 0)<|Pl 1<|ng<|Pl 3<|cu 3 [36] 39 (((decide (9≤(b.getD 0 0)))&&(decide ((b.getD 0 0)≤251)))) (fun K B=>?_) ?_
 refine bl 36 ((decide (9≤(b.getD 0 0)))) (fun k=>?_) (fun k=>?_)
 have Q:=of_decide_eq_true k
 exact Pl 3<|ce B (decide ((b.getD 0 0)≤251)) (by rw[k];rfl)
 have Q:=of_decide_eq_false k
 exact Pl 3<|ce B false (by rw[k];rfl)
 refine Pl 1<|nt<|sq<|sg<|Pl 6<|nt<|c0<|bi<|sq<|sq<|?_
 refine go<|Pl 6<|nt<|c1<|go<|Pl 3<|cu 3 [65] 68 (((decide (4≤(b.getD 0 0)))&&(decide ((b.getD 0 0)≤245)))) (fun K C=>?_) ?_
 refine bl 65 ((decide (4≤(b.getD 0 0)))) (fun l=>?_) (fun l=>?_)
 have R:=of_decide_eq_true l
 exact Pl 3<|ce C (decide ((b.getD 0 0)≤245)) (by rw[l];rfl)
 have R:=of_decide_eq_false l
 exact Pl 3<|ce C false (by rw[l];rfl)
 refine Pl 1<|nt<|sq<|sg<|Pl 2<|nt<|cb ((!((decide (4≤(b.getD 0 0)))&&(decide ((b.getD 0 0)≤245))))) (fun d=>?_) (fun d=>?_)
 have f:((decide (4≤(b.getD 0 0)))&&(decide ((b.getD 0 0)≤245)))=false:=by simpa only[Bool.not_eq_true',Bool.not_eq_false'] using d
 refine sg<|Pl 1<|L0<|aW g mZ fun a9 S T=>Pl 1<|nt<|rt<|tr<|bz S (.int .i64 5)<|?_
 have hs:bI bH er 20 b=(aQ.zero,5):=by
   unfold bI dz cX er
   (try simp only[a,d,f,bs,if_true,if_false,decide_true,decide_false,gD,reduceIte])
   all_goals rfl
 rw[hs]
 exact bu (ud j T i)
 have f:((decide (4≤(b.getD 0 0)))&&(decide ((b.getD 0 0)≤245)))=true:=by simpa only[Bool.not_eq_true',Bool.not_eq_false'] using d
 have o:=(aR f).1
 have q:=(aR f).2
 have q30nap:=of_decide_eq_true o
 have q30nbp:=of_decide_eq_true q
 refine bi<|sq<|sg<|Pl 3<|L0<|Oi ((b.getD 0 0)+1)<|Pl 1<|nt<|cb ((decide (((b.length:Nat) : Int)<((b.getD 0 0)+1)))) (fun h=>?_) (fun h=>?_)
 have U:=of_decide_eq_true h
 refine sg<|Pl 1<|L0<|aW g mZ fun ab V W=>Pl 1<|nt<|rt<|tr<|bz V (.int .i64 2)<|?_
 have hs:bI bH er 20 b=(aQ.zero,2):=by
   unfold bI dz cX er
   (try simp only[a,d,f,o,q,h,bs,if_true,if_false,decide_true,decide_false,gD,reduceIte])
   all_goals rfl
 rw[hs]
 exact bu (ud j W i)
 have U:=of_decide_eq_false h
 refine bi<|sg<|Pl 4<|L0<|Oi ((b.getD 0 0)+1)<|jW (fg (P:=Tryz.prog) 22 5 1 Tryz.underlying22 rfl rfl A b.length cp (lo:=1) (up:=((b.getD 0 0)+1)) 1 ((((b.getD 0 0)+1)).toNat) (by omega) (by omega) (by omega) (by omega) (by omega)) fun t hrun41 D=>L0<|g9 (.slice t (((((b.getD 0 0)+1)).toNat)-1) (cp-1)) (ec (kl:=.i64) (kh:=.i64) (lo:=1) (hi:=((b.getD 0 0)+1)) (A:=A) (n:=b.length) (c:=cp) rfl Tryz.underlying22 (by kernel_rfl) (by kernel_rfl) (by kernel_rfl) (hrun41 _ _ _))<|?_
 by_cases hE:bp (aP bH (((b.take ((((b.getD 0 0)+1)).toNat)).drop 1)).length 0 ⟨((b.take ((((b.getD 0 0)+1)).toNat)).drop 1),false,0⟩ []).1.e=0
 refine L0<|Oc (args:=#[.int .i64 1,.int .u8 20,.slice t (((((b.getD 0 0)+1)).toNat)-1) (cp-1)])<|e2 (jU (lP (D _ _ _ _ _ s) (by rw[List.length_drop,List.length_take];omega)) hE) fun ac ad u y=>?_
 obtain⟨X,Y,rfl,ae,af⟩:=aK.shape u.rd
 refine Pl 5<|nt<|sq<|sg<|Pl 2<|nt<|c0<|bi<|sq<|sq<|?_
 refine go<|Pl 3<|L0<|Oi ((b.getD 0 0)+1)<|Pl 1<|nt<|?_
 have E:=aF j y
 refine cb ((decide (((b.getD 0 0)+1)<((b.length:Nat) : Int)))) (fun r=>?_) (fun r=>?_)
 have Z:=of_decide_eq_true r
 refine sg<|Pl 1<|?_
 refine L0<|aW (ub y g) mZ fun ag a0 a1=>Pl 1<|nt<|rt<|tr<|bz a0 (.int .i64 3)<|?_
 have hE0:(aP bH (((b.take ((((b.getD 0 0)+1)).toNat)).drop 1)).length 0 ⟨((b.take ((((b.getD 0 0)+1)).toNat)).drop 1),false,0⟩ []).1.e=0:=fS hE
 have hs:bI bH er 20 b=(aQ.zero,3):=by
   unfold bI dz cX er
   (try simp only[a,d,f,o,q,h,r,bs,if_true,if_false,decide_true,decide_false,hE0,gD,reduceIte])
   all_goals rfl
 rw[hs]
 exact bu (ud E a1 i)
 have Z:=of_decide_eq_false r
 refine bi<|sg<|Pl 3<|?_
 have F:=ub y g
 refine L0<|aW F (mG 20 0 0 0 0 0 0 0 0 0 0 0 nS nS nS (.slice X ((aP bH (((b.take ((((b.getD 0 0)+1)).toNat)).drop 1)).length 0 ⟨((b.take ((((b.getD 0 0)+1)).toNat)).drop 1),false,0⟩ []).2.length) Y) 0 0 0 0 0 nS) fun ah a2 z=>Pl 1<|nt<|rt<|bz a2 (.int .i64 0)<|?_
 have hE0:(aP bH (((b.take ((((b.getD 0 0)+1)).toNat)).drop 1)).length 0 ⟨((b.take ((((b.getD 0 0)+1)).toNat)).drop 1),false,0⟩ []).1.e=0:=fS hE
 have hs:bI bH er 20 b=((aQ.mk 20 0 0 0 0 0 0 0 0 0 0 0 [] [] [] (aP bH (((b.take ((((b.getD 0 0)+1)).toNat)).drop 1)).length 0 ⟨((b.take ((((b.getD 0 0)+1)).toNat)).drop 1),false,0⟩ []).2 0 0 0 0 0 []),0):=by
   unfold bI dz cX er
   (try simp only[a,d,f,o,q,h,r,bs,if_true,if_false,decide_true,decide_false,hE0,gD,reduceIte])
   all_goals rfl
 rw[hs]
 exact⟨_,rfl,⟨_,_,_,_,_,rfl,aK.nil ..,aK.nil ..,(fun _ _ _=>aK.nil ..),((ax u z (fun x hx=>(aa (fun e=>(aA (am g) lr u) (e▸hx)) ay)) (bq.upd16 z (ak (aM F (by decide)) aG)))).rd,aK.nil ..,⟨(b8 (x:=20) (by omega)),(b8 (x:=0) (by omega)),(aB (x:=0) (by omega)),(aB (x:=0) (by omega)),(aB (x:=0) (by omega)),(aB (x:=0) (by omega)),(aB (x:=0) (by omega)),(aB (x:=0) (by omega)),(aB (x:=0) (by omega)),(aB (x:=0) (by omega)),(aB (x:=0) (by omega)),(aB (x:=0) (by omega)),(b8 (x:=0) (by omega)),(b8 (x:=0) (by omega)),(b8 (x:=0) (by omega)),(b8 (x:=0) (by omega)),(b8 (x:=0) (by omega))⟩⟩,(ud E z i)⟩
 refine L0<|Oc (args:=#[.int .i64 1,.int .u8 20,.slice t (((((b.getD 0 0)+1)).toNat)-1) (cp-1)])<|?_
 refine(j6 (lP (D _ _ _ _ _ s) (by rw[List.length_drop,List.length_take];omega))).mono ?_
 rintro _ ai ⟨aj,an,ao,rfl,G⟩
 refine⟨_,rfl,?_⟩
 have hE1:(bp (aP bH (((b.take ((((b.getD 0 0)+1)).toNat)).drop 1)).length 0 ⟨((b.take ((((b.getD 0 0)+1)).toNat)).drop 1),false,0⟩ []).1.e != 0)=true:=by simpa using hE
 refine Pl 5<|nt<|sq<|sg<|Pl 2<|nt<|ct hE1<|sg<|Pl 2<|?_
 refine L0<|aW (ub G g) mZ fun aq a3 a4=>Pl 1<|nt<|rt<|tr<|bz a3 (.int .i64 (bp (aP bH (((b.take ((((b.getD 0 0)+1)).toNat)).drop 1)).length 0 ⟨((b.take ((((b.getD 0 0)+1)).toNat)).drop 1),false,0⟩ []).1.e))<|?_
 have hE3:((aP bH (((b.take ((((b.getD 0 0)+1)).toNat)).drop 1)).length 0 ⟨((b.take ((((b.getD 0 0)+1)).toNat)).drop 1),false,0⟩ []).1.e != 0)=true:=ji hE
 have hs:bI bH er 20 b=(aQ.zero,bp (aP bH (((b.take ((((b.getD 0 0)+1)).toNat)).drop 1)).length 0 ⟨((b.take ((((b.getD 0 0)+1)).toNat)).drop 1),false,0⟩ []).1.e):=by
   unfold bI dz cX er
   (try simp only[a,d,f,o,q,h,hE1,bs,if_true,if_false,decide_true,decide_false,hE3,gD,reduceIte])
   all_goals rfl
 rw[hs]
 exact bu (ud j (uz G a4) i)
theorem tX{m:Md}{A:Option Addr}{cp:Nat}{b:List Int}{w:World}{dir:Int}(hd:dir=0∨dir=1)(hsl:aT m w (.slice A b.length cp) b)(hb:b.length≤1048576) :
    Calls Tryz.prog 96 #[.int .i64 dir,.int .u8 21,.slice A b.length cp] w (dk (.slice A b.length cp) b (bI cT ep 21 b) w):=by
 have hln:(b.length:Int)≤1048576:=by omega
 have hcp:b.length≤cp:=by obtain⟨_,_,hv,h1,_⟩:=aK.shape hsl;injection hv with _ _ h3;omega
 have hrb:=aT.range hsl
 have g:((dir != 0)&&(dir != 1))=false:=by rcases hd with rfl | rfl<;>rfl
 refine en 101 Tryz.func96 rfl<|sg<|L0<|bE mZ fun a6 a7 j h k=>Pl 1<|nt<|sq<|sg<|Pl 3<|cu 3 [14] 17 (((dir != 0)&&(dir != 1))) (fun K C=>?_) ?_
 refine bl 14 ((dir != 0)) (fun l=>?_) (fun l=>?_)
 have I:=aq l
 exact Pl 3<|ce C (dir != 1) (by rw[l];rfl)
 have I:=ai l
 exact Pl 3<|ce C false (by rw[l];rfl)
 refine nt<|cf g<|bi<|sq<|sg<|Pl 6<|nt<|c0<|bi<|?_
 refine sq<|sg<|Pl 3<|nt<|cb ((((b.length:Nat) : Int)==0)) (fun a=>?_) (fun a=>?_)
 have J:=al a
 refine sg<|Pl 1<|L0<|aW h mZ fun a8 L M=>Pl 1<|nt<|rt<|tr<|bz L (.int .i64 2)<|?_
 have hs:bI cT ep 21 b=(aQ.zero,2):=by
   unfold bI dz cX ep
   (try simp only[g,a,bs,if_true,if_false,decide_true,decide_false,gD,reduceIte])
   all_goals rfl
 rw[hs]
 exact bu (ud k M j)
 have J:=ap a
 refine bi<|sg<|Pl 1<|?_
 have t:=aT.old hsl k
 refine eJ (aT.at_ t 0 (by omega)) fun N O Q R a9=>L0<|iZ b.length 0 Q (by omega)<|L0<|dY (p:=⟨N,O+0,none⟩) (v:=.int .u8 (b.getD 0 0)) R<|L0<|Oi (b.getD 0 0)<|Pl 1<|ng<|Pl 3<|cu 3 [36] 39 (((decide (9≤(b.getD 0 0)))&&(decide ((b.getD 0 0)≤251)))) (fun K D=>?_) ?_
 refine bl 36 ((decide (9≤(b.getD 0 0)))) (fun o=>?_) (fun o=>?_)
 have S:=of_decide_eq_true o
 exact Pl 3<|ce D (decide ((b.getD 0 0)≤251)) (by rw[o];rfl)
 have S:=of_decide_eq_false o
 exact Pl 3<|ce D false (by rw[o];rfl)
 refine Pl 1<|nt<|sq<|sg<|Pl 6<|nt<|c0<|bi<|sq<|sq<|?_
 refine go<|Pl 6<|nt<|c0<|bi<|sq<|sg<|Pl 2<|nt<|cb ((!((decide (9≤(b.getD 0 0)))&&(decide ((b.getD 0 0)≤251))))) (fun d=>?_) (fun d=>?_)
 have f:((decide (9≤(b.getD 0 0)))&&(decide ((b.getD 0 0)≤251)))=false:=by simpa only[Bool.not_eq_true',Bool.not_eq_false'] using d
 refine sg<|Pl 1<|L0<|aW h mZ fun ab T U=>Pl 1<|nt<|rt<|tr<|bz T (.int .i64 5)<|?_
 have hs:bI cT ep 21 b=(aQ.zero,5):=by
   unfold bI dz cX ep
   (try simp only[g,a,d,f,bs,if_true,if_false,decide_true,decide_false,gD,reduceIte])
   all_goals rfl
 rw[hs]
 exact bu (ud k U j)
 have f:((decide (9≤(b.getD 0 0)))&&(decide ((b.getD 0 0)≤251)))=true:=by simpa only[Bool.not_eq_true',Bool.not_eq_false'] using d
 have q:=(aR f).1
 have r:=(aR f).2
 have q30nap:=of_decide_eq_true q
 have q30nbp:=of_decide_eq_true r
 refine bi<|sq<|sg<|Pl 3<|L0<|Oi ((b.getD 0 0)+1)<|Pl 1<|nt<|cb ((decide (((b.length:Nat) : Int)<((b.getD 0 0)+1)))) (fun i=>?_) (fun i=>?_)
 have V:=of_decide_eq_true i
 refine sg<|Pl 1<|L0<|aW h mZ fun ac W X=>Pl 1<|nt<|rt<|tr<|bz W (.int .i64 2)<|?_
 have hs:bI cT ep 21 b=(aQ.zero,2):=by
   unfold bI dz cX ep
   (try simp only[g,a,d,f,q,r,i,bs,if_true,if_false,decide_true,decide_false,gD,reduceIte])
   all_goals rfl
 rw[hs]
 exact bu (ud k X j)
 have V:=of_decide_eq_false i
 refine bi<|sg<|Pl 4<|L0<|Oi ((b.getD 0 0)+1)<|jW (fg (P:=Tryz.prog) 22 5 1 Tryz.underlying22 rfl rfl A b.length cp (lo:=1) (up:=((b.getD 0 0)+1)) 1 ((((b.getD 0 0)+1)).toNat) (by omega) (by omega) (by omega) (by omega) (by omega)) fun u hrun41 E=>L0<|g9 (.slice u (((((b.getD 0 0)+1)).toNat)-1) (cp-1)) (ec (kl:=.i64) (kh:=.i64) (lo:=1) (hi:=((b.getD 0 0)+1)) (A:=A) (n:=b.length) (c:=cp) rfl Tryz.underlying22 (by kernel_rfl) (by kernel_rfl) (by kernel_rfl) (hrun41 _ _ _))<|?_
 by_cases hE:bp (aP cT (((b.take ((((b.getD 0 0)+1)).toNat)).drop 1)).length 0 ⟨((b.take ((((b.getD 0 0)+1)).toNat)).drop 1),false,0⟩ []).1.e=0
 refine L0<|Oc (args:=#[.int .i64 dir,.int .u8 21,.slice u (((((b.getD 0 0)+1)).toNat)-1) (cp-1)])<|e2 (jU (lI (E _ _ _ _ _ t) (by rw[List.length_drop,List.length_take];omega)) hE) fun ad ae y z=>?_
 obtain⟨Y,Z,rfl,af,ag⟩:=aK.shape y.rd
 refine Pl 5<|nt<|sq<|sg<|Pl 2<|nt<|c0<|bi<|sq<|sq<|?_
 refine go<|Pl 3<|L0<|Oi ((b.getD 0 0)+1)<|Pl 1<|nt<|?_
 have F:=aF k z
 refine cb ((decide (((b.getD 0 0)+1)<((b.length:Nat) : Int)))) (fun s=>?_) (fun s=>?_)
 have a0:=of_decide_eq_true s
 refine sg<|Pl 1<|?_
 refine L0<|aW (ub z h) mZ fun ah a1 a2=>Pl 1<|nt<|rt<|tr<|bz a1 (.int .i64 3)<|?_
 have hE0:(aP cT (((b.take ((((b.getD 0 0)+1)).toNat)).drop 1)).length 0 ⟨((b.take ((((b.getD 0 0)+1)).toNat)).drop 1),false,0⟩ []).1.e=0:=fS hE
 have hs:bI cT ep 21 b=(aQ.zero,3):=by
   unfold bI dz cX ep
   (try simp only[g,a,d,f,q,r,i,s,bs,if_true,if_false,decide_true,decide_false,hE0,gD,reduceIte])
   all_goals rfl
 rw[hs]
 exact bu (ud F a2 j)
 have a0:=of_decide_eq_false s
 refine bi<|sg<|Pl 3<|?_
 have G:=ub z h
 refine L0<|aW G (mG 21 0 0 0 0 0 0 0 0 0 0 0 nS nS nS (.slice Y ((aP cT (((b.take ((((b.getD 0 0)+1)).toNat)).drop 1)).length 0 ⟨((b.take ((((b.getD 0 0)+1)).toNat)).drop 1),false,0⟩ []).2.length) Z) 0 0 0 0 0 nS) fun aj a3 B=>Pl 1<|nt<|rt<|bz a3 (.int .i64 0)<|?_
 have hE0:(aP cT (((b.take ((((b.getD 0 0)+1)).toNat)).drop 1)).length 0 ⟨((b.take ((((b.getD 0 0)+1)).toNat)).drop 1),false,0⟩ []).1.e=0:=fS hE
 have hs:bI cT ep 21 b=((aQ.mk 21 0 0 0 0 0 0 0 0 0 0 0 [] [] [] (aP cT (((b.take ((((b.getD 0 0)+1)).toNat)).drop 1)).length 0 ⟨((b.take ((((b.getD 0 0)+1)).toNat)).drop 1),false,0⟩ []).2 0 0 0 0 0 []),0):=by
   unfold bI dz cX ep
   (try simp only[g,a,d,f,q,r,i,s,bs,if_true,if_false,decide_true,decide_false,hE0,gD,reduceIte])
   all_goals rfl
 rw[hs]
 exact⟨_,rfl,⟨_,_,_,_,_,rfl,aK.nil ..,aK.nil ..,(fun _ _ _=>aK.nil ..),((ax y B (fun x hx=>(aa (fun e=>(aA (am h) lr y) (e▸hx)) ay)) (bq.upd16 B (ak (aM G (by decide)) aG)))).rd,aK.nil ..,⟨(b8 (x:=21) (by omega)),(b8 (x:=0) (by omega)),(aB (x:=0) (by omega)),(aB (x:=0) (by omega)),(aB (x:=0) (by omega)),(aB (x:=0) (by omega)),(aB (x:=0) (by omega)),(aB (x:=0) (by omega)),(aB (x:=0) (by omega)),(aB (x:=0) (by omega)),(aB (x:=0) (by omega)),(aB (x:=0) (by omega)),(b8 (x:=0) (by omega)),(b8 (x:=0) (by omega)),(b8 (x:=0) (by omega)),(b8 (x:=0) (by omega)),(b8 (x:=0) (by omega))⟩⟩,(ud F B j)⟩
 refine L0<|Oc (args:=#[.int .i64 dir,.int .u8 21,.slice u (((((b.getD 0 0)+1)).toNat)-1) (cp-1)])<|?_
 refine(j6 (lI (E _ _ _ _ _ t) (by rw[List.length_drop,List.length_take];omega))).mono ?_
 rintro _ an ⟨ao,ar,au,rfl,H⟩
 refine⟨_,rfl,?_⟩
 have hE1:(bp (aP cT (((b.take ((((b.getD 0 0)+1)).toNat)).drop 1)).length 0 ⟨((b.take ((((b.getD 0 0)+1)).toNat)).drop 1),false,0⟩ []).1.e != 0)=true:=by simpa using hE
 refine Pl 5<|nt<|sq<|sg<|Pl 2<|nt<|ct hE1<|sg<|Pl 2<|?_
 refine L0<|aW (ub H h) mZ fun av a4 a5=>Pl 1<|nt<|rt<|tr<|bz a4 (.int .i64 (bp (aP cT (((b.take ((((b.getD 0 0)+1)).toNat)).drop 1)).length 0 ⟨((b.take ((((b.getD 0 0)+1)).toNat)).drop 1),false,0⟩ []).1.e))<|?_
 have hE3:((aP cT (((b.take ((((b.getD 0 0)+1)).toNat)).drop 1)).length 0 ⟨((b.take ((((b.getD 0 0)+1)).toNat)).drop 1),false,0⟩ []).1.e != 0)=true:=ji hE
 have hs:bI cT ep 21 b=(aQ.zero,bp (aP cT (((b.take ((((b.getD 0 0)+1)).toNat)).drop 1)).length 0 ⟨((b.take ((((b.getD 0 0)+1)).toNat)).drop 1),false,0⟩ []).1.e):=by
   unfold bI dz cX ep
   (try simp only[g,a,d,f,q,r,i,hE1,bs,if_true,if_false,decide_true,decide_false,hE3,gD,reduceIte])
   all_goals rfl
 rw[hs]
 exact bu (ud k (uz H a5) j)
theorem rV{A:Option Addr}{cp:Nat}{b:List Int}{w:World}{dir c:Int}(hd:dir=0∨dir=1)(hc:¬ c=20∧¬ c=21) :
    Calls Tryz.prog 96 #[.int .i64 dir,.int .u8 c,.slice A b.length cp] w (dk (.slice A b.length cp) b (aQ.zero,4) w):=by
 have g:((dir != 0)&&(dir != 1))=false:=by rcases hd with rfl | rfl<;>rfl
 have e2:((c != 20)&&(c != 21))=true:=by simp[hc.1,hc.2]
 refine en 101 Tryz.func96 rfl<|sg<|L0<|bE mZ fun o p h i j=>Pl 1<|nt<|sq<|sg<|Pl 3<|cu 3 [14] 17 (((dir != 0)&&(dir != 1))) (fun K e=>?_) ?_
 refine bl 14 ((dir != 0)) (fun a=>?_) (fun a=>?_)
 have k:=aq a
 exact Pl 3<|ce e (dir != 1) (by rw[a];rfl)
 have k:=ai a
 exact Pl 3<|ce e false (by rw[a];rfl)
 refine nt<|cf g<|bi<|sq<|sg<|Pl 3<|cu 3 [21] 24 (((c != 20)&&(c != 21))) (fun K f=>?_) ?_
 refine bl 21 ((c != 20)) (fun d=>?_) (fun d=>?_)
 have l:=aq d
 exact Pl 3<|ce f (c != 21) (by rw[d];rfl)
 have l:=ai d
 exact Pl 3<|ce f false (by rw[d];rfl)
 refine nt<|ct e2<|sg<|Pl 1<|L0<|aW i mZ fun q m n=>Pl 1<|nt<|rt<|tr<|bz m (.int .i64 4)<|?_
 exact bu (ud j n h)
theorem t5{A:Option Addr}{cp:Nat}{b:List Int}{w:World}{dir c:Int}(hd:¬ (dir=0∨dir=1)) :
    Calls Tryz.prog 96 #[.int .i64 dir,.int .u8 c,.slice A b.length cp] w (dk (.slice A b.length cp) b (aQ.zero,1) w):=by
 have e:((dir != 0)&&(dir != 1))=true:=by simp;omega
 refine en 101 Tryz.func96 rfl<|sg<|L0<|bE mZ fun l m f g h=>Pl 1<|nt<|sq<|sg<|Pl 3<|cu 3 [14] 17 (((dir != 0)&&(dir != 1))) (fun K d=>?_) ?_
 refine bl 14 ((dir != 0)) (fun a=>?_) (fun a=>?_)
 have i:=aq a
 exact Pl 3<|ce d (dir != 1) (by rw[a];rfl)
 have i:=ai a
 exact Pl 3<|ce d false (by rw[a];rfl)
 refine nt<|ct e<|sg<|Pl 1<|L0<|aW g mZ fun n j k=>Pl 1<|nt<|rt<|tr<|bz j (.int .i64 1)<|?_
 exact bu (ud h k f)
theorem oV{dir c:Int}{b:List Int}(hd:dir=0∨dir=1)(hc:¬ c=20∧¬ c=21) : ae b7 dir c b=(aQ.zero,4):=by
  unfold ae b7
  rw[if_pos hd,if_neg (by simpa using hc.1),if_neg (by simpa using hc.2)]
theorem rE{form:Int→Int→ah→Option (ah × aQ)}{dir c:Int}{b:List Int}(hd:¬ (dir=0∨dir=1)) : ae form dir c b=(aQ.zero,1):=by
  unfold ae
  rw[if_neg hd]
theorem mH{m:Md}{v:Value}{b:List Int}{w:World}{dir c:Int}(hc:B8 c)(h:aT m w v b)(hb:b.length≤1048576) :
    Calls Tryz.prog 96 #[.int .i64 dir,.int .u8 c,v] w (dk v b (ae b7 dir c b) w):=by
  have hr:=aT.range h
  obtain⟨A,cp,rfl,_,_⟩:=h.shape
  by_cases hd:dir=0∨dir=1
  · by_cases a:c=20
    · subst a
      rcases hd with rfl|rfl
      · rw[qg hr];exact sY h hb
      · rw[pZ hr];exact um h hb
    · by_cases d:c=21
      · subst d
        rw[tU hd hr];exact tX hd h hb
      · rw[oV hd ⟨a,d⟩];exact rV hd ⟨a,d⟩
  · rw[rE hd];exact t5 hd
open Go.RowKit
theorem tb{k i:Nat}{C:ah}{L:List Obj}{R:ah × List Obj}(h:eA (k-i) C L=R)(hk:k-i=0) : R=(C,L):=by
  rw[hk] at h
  exact h.symm
theorem lu{m:Md}{A:Option Addr}{cp:Nat}{b:List Int}{w:World}{c:Int}(hcode:B8 c)(hsl:aT m w (.slice A b.length cp) b)(hb:b.length≤1048576) :
    Calls Tryz.prog 97 #[.int .i64 0,.int .u8 c,.slice A b.length cp] w (dk (.slice A b.length cp) b (ae bN 0 c b) w):=by
 obtain⟨hcode1,hcode2⟩:=hcode
 have hln:(b.length:Int)≤1048576:=by omega
 refine en 176 Tryz.func97 rfl<|sg<|L0<|bE mZ fun bC bD r k a=>Pl 1<|nt<|sq<|sg<|Pl 6<|nt<|c0<|?_
 refine bi<|sq<|sg<|Pl 2<|nt<|cb ((c != 43)) (fun j=>?_) (fun j=>?_)
 have aL:=aq j
 refine sg<|Pl 1<|L0<|aW k mZ fun bF aM aN=>Pl 1<|nt<|rt<|tr<|bz aM (.int .i64 4)<|?_
 have hs:ae bN 0 c b=(aQ.zero,4):=by
   unfold ae bN dj fX fb fc eG ei el dB
   (try simp only[j,bs,if_true,if_false,decide_true,decide_false,eq_self,true_or,or_true,or_false,false_or,if_true,if_false,cl,cj,cm,ck,reduceIte])
   all_goals rfl
 rw[hs]
 exact bu (ud a aN r)
 have aL:=ai j
 refine bi<|sg<|Pl 2<|L0<|dq #[.slice A b.length cp,.int .i64 0,.bool false,.int .i64 0] fun s bG d Y i=>Pl 1<|ng<|Pl 1<|L0<|bE mZ fun bH bI h aO aP=>L0<|aW aO (mC 43) fun aR aS aV=>?_
 refine ng<|Pl 1<|?_
 have Z:=ud aP aV h
 have t:=aF i Z
 have a0:=aF a t
 have aZ:RC w _ A cp b aR s (ah.mk b false 0):=⟨hsl,a0,(Nat.le_trans a.size d),⟨0,(ub Z Y),Nat.zero_le _,rfl⟩,by omega⟩
 refine L0<|Oc<|m3 (dU aZ) fun bJ b0 a1 bK=>Pl 1<|?_
 have f:=nb (am Y) lr h
 refine L0<|bX (aX a1 (Ne.symm f) aS) 16 (mG 43 0 0 0 0 0 0 0 0 0 0 0 nS nS nS nS ((ah.mk b false 0).byteV) 0 0 0 0 nS) fun bL N a2=>ng<|Pl 2<|L0<|aU N 16<|Pl 2<|cu 4 [38] 42 (((((ah.mk b false 0).byteV)==13)||(((ah.mk b false 0).byteV)==14))) (fun K a3=>?_) ?_
 refine bl 38 ((((ah.mk b false 0).byteV)==13)) (fun y=>?_) (fun y=>?_)
 have b1:=al y
 exact Pl 4<|ce a3 true (by rw[y];rfl)
 have b1:=ap y
 exact Pl 1<|L1<|aU N 16<|Pl 2<|ce a3 (((ah.mk b false 0).byteV)==14) (by rw[y];rfl)
 have z:=us a1 a2
 have a4:=ut a0 z (ac (ni a.size d) (ac (ni (le a.size i.size) h) au))
 refine L0<|Oc<|m2 (aY (((((ah.mk b false 0).byteV)==13)||(((ah.mk b false 0).byteV)==14))) 8 (RC.upd b0 a2 (aa f ay) a4)) fun bM b2 q=>?_
 refine fw b2 fun x55 H B=>?_
 refine nt<|sq<|bk<|sg<|Pl 1<|?_
 have O:=aX q (Ne.symm f) N
 refine L0<|aU O 16<|Pl 2<|nt<|?_
 have a5:=ud a4 q (le a.size d)
 refine cb ((((ah.mk b false 0).byteV)==13)) (fun o=>?_) (fun o=>?_)
 have b3:=al o
 refine sg<|Pl 1<|L0<|Oc<|m1 (i7 B) fun bO P=>?_
 have bP:=RC.clen B
 refine Pl 1<|ng<|Pl 3<|?_
 refine L0<|Oc<|m2 (aY ((decide (((x55.l.length:Nat) : Int)≤251))) 5 (RC.upd B P ay (aD.step (RC.u B) P))) fun bQ a6 b4=>nt<|go<|Pl 2<|L0<|Oc<|oO (fu (n:=((x55.l.length:Nat) : Int)) (by omega) a6) fun a7 a8 bR b5 b6 b7=>?_
 have bS:=Nat.le_trans (ah.bytesR_le (x55.need (decide (((x55.l.length:Nat) : Int)≤251)) 5) ((x55.l.length:Nat) : Int)) (RC.clen a6)
 refine fw b6 fun jG a9 b9=>?_
 refine Pl 1<|?_
 have ab:=uz P (u1 b4 b7 im)
 refine L0<|bX (aX ab (Ne.symm f) O) 14 (mG 43 0 0 0 0 0 0 0 0 0 0 0 nS nS (.slice a7 (((x55.need (decide (((x55.l.length:Nat) : Int)≤251)) 5).bytesR ((x55.l.length:Nat) : Int)).length) a8) nS ((ah.mk b false 0).byteV) 0 0 0 0 nS) fun bT ba ad=>nl<|bn<|tn<|sg<|Pl 1<|?_
 have Q:=us ab ad
 have af:=ut a5 Q (ac (ni a.size d) (ac (ni (le a.size i.size) h) au))
 refine L0<|Oc<|m2 (eh (RC.upd b9 ad (aa f ay) af)) fun bU R I=>nt<|sq<|sg<|Pl 3<|L0<|dY (p:=⟨s,3,none⟩) (v:=.int .i64 jG.endC.e) (RC.fld R)<|Pl 1<|nt<|?_
 have ag:=ud af I (le a.size d)
 refine cb ((jG.endC.e != 0)) (fun C=>?_) (fun C=>?_)
 have S:=aq C
 refine sq<|Rg 7 (fun w'=>w'.cell? ⟨s,3,none⟩=some (.int .i64 jG.endC.e)) fun bV J=>?_
 have aj:=RC.upd R J ay (aD.step (RC.u R) J)
 refine bg (RC.fld aj) fun D=>Rt 0 D<|Rt 1 D<|Rt 2 D<|Rt 3 D<|Rl 4 D (fun _ hs=>hs)<|?_
 refine R0 5 rfl<|aW (ub (ut t (ut z (ui q (u1 Q (aF I J) im)) (ac im (ac im au))) (ac (nr d) (ac (ni i.size h) au))) k) mZ fun bW bb ak=>?_
 have an:=ud ag (uz J ak) r
 refine bg (RC.fld (RC.upd aj ak (aa (Ne.symm (nb (am k) lr d)) ay) an)) fun bc=>Rt 6 bc<|re<|tn<|rt<|tr<|bz bb (.int .i64 jG.endC.e)<|?_
 have hs:ae bN 0 c b=aH (aQ.mk 43 0 0 0 0 0 0 0 0 0 0 0 [] [] ((x55.need (decide (((x55.l.length:Nat) : Int)≤251)) 5).bytesR ((x55.l.length:Nat) : Int)) [] ((ah.mk b false 0).byteV) 0 0 0 0 []) jG:=by
   subst a9 H
   unfold ae bN dj fX fb fc eG ei el dB
   (try simp only[j,o,C,bs,if_true,if_false,decide_true,decide_false,eq_self,true_or,or_true,or_false,false_or,if_true,if_false,cl,cj,cm,ck,reduceIte])
   all_goals rfl
 rw[hs]
 exact bh S an
 have S:=ai C
 refine bi<|sg<|?_
 refine L0<|ci (aX I (Ne.symm f) ba)<|?_
 refine L0<|aW (ub (ut t (ut z (ui q (u1 Q I im)) (ac im (ac im au))) (ac (nr d) (ac (ni i.size h) au))) k) (mG 43 0 0 0 0 0 0 0 0 0 0 0 nS nS (.slice a7 (((x55.need (decide (((x55.l.length:Nat) : Int)≤251)) 5).bytesR ((x55.l.length:Nat) : Int)).length) a8) nS ((ah.mk b false 0).byteV) 0 0 0 0 nS) fun bY bd be=>Pl 1<|nt<|rt<|bz bd (.int .i64 0)<|?_
 have hs:ae bN 0 c b=aH (aQ.mk 43 0 0 0 0 0 0 0 0 0 0 0 [] [] ((x55.need (decide (((x55.l.length:Nat) : Int)≤251)) 5).bytesR ((x55.l.length:Nat) : Int)) [] ((ah.mk b false 0).byteV) 0 0 0 0 []) jG:=by
   subst a9 H
   unfold ae bN dj fX fb fc eG ei el dB
   (try simp only[j,o,C,bs,if_true,if_false,decide_true,decide_false,eq_self,true_or,or_true,or_false,false_or,if_true,if_false,cl,cj,cm,ck,reduceIte])
   all_goals rfl
 rw[hs]
 exact bo S ⟨_,_,_,_,_,rfl,aK.nil ..,aK.nil ..,b5,aK.nil ..,aK.nil ..,⟨(b8 (x:=43) (by omega)),(b8 (x:=0) (by omega)),(aB (x:=0) (by omega)),(aB (x:=0) (by omega)),(aB (x:=0) (by omega)),(aB (x:=0) (by omega)),(aB (x:=0) (by omega)),(aB (x:=0) (by omega)),(aB (x:=0) (by omega)),(aB (x:=0) (by omega)),(aB (x:=0) (by omega)),(aB (x:=0) (by omega)),(b8 (x:=(ah.mk b false 0).byteV) (by omega)),(b8 (x:=0) (by omega)),(b8 (x:=0) (by omega)),(b8 (x:=0) (by omega)),(b8 (x:=0) (by omega))⟩⟩ (ud ag be r)
 have b3:=ap o
 refine sg<|Pl 3<|nt<|c1<|sg<|Pl 1<|L0<|Oc<|m3 (dU B) fun bZ bf ao c2=>Pl 1<|?_
 refine L0<|bX (aX ao (Ne.symm f) O) 17 (mG 43 0 0 0 0 0 0 0 0 0 0 0 nS nS nS nS ((ah.mk b false 0).byteV) x55.byteV 0 0 0 nS) fun c3 T ar=>ng<|Pl 2<|L0<|aU T 17<|Pl 2<|cu 4 [154] 158 (((decide (0<x55.byteV))&&(decide (x55.byteV<5)))) (fun K av=>?_) ?_
 refine bl 154 ((decide (0<x55.byteV))) (fun E=>?_) (fun E=>?_)
 have bj:=of_decide_eq_true E
 exact Pl 1<|L1<|aU T 17<|Pl 2<|ce av (decide (x55.byteV<5)) (by rw[E];rfl)
 have bj:=of_decide_eq_false E
 exact Pl 4<|ce av false (by rw[E];rfl)
 have U:=us ao ar
 have aw:=ut a5 U (ac (ni a.size d) (ac (ni (le a.size i.size) h) au))
 refine L0<|Oc<|m2 (aY (((decide (0<x55.byteV))&&(decide (x55.byteV<5)))) 6 (RC.upd bf ar (aa f ay) aw)) fun c4 bm bp=>?_
 refine fw bm fun g ax bq=>?_
 refine nt<|go<|Pl 1<|L0<|Oc<|m3 (dU bq) fun c5 br bt c6=>Pl 1<|?_
 have az:=u1 bp bt im
 refine L0<|bX (aX az (Ne.symm f) T) 20 (mG 43 0 0 0 0 0 0 0 0 0 0 0 nS nS nS nS ((ah.mk b false 0).byteV) x55.byteV 0 0 g.byteV nS) fun c7 bv aA=>nl<|bn<|tn<|sg<|Pl 1<|?_
 have V:=us az aA
 have aC:=ut aw V (ac (ni a.size d) (ac (ni (le a.size i.size) h) au))
 refine L0<|Oc<|m2 (eh (RC.upd br aA (aa f ay) aC)) fun c8 W L=>nt<|sq<|sg<|Pl 3<|L0<|dY (p:=⟨s,3,none⟩) (v:=.int .i64 (((g.bytesC 1).endC).e)) (RC.fld W)<|Pl 1<|nt<|?_
 have aE:=ud aC L (le a.size d)
 refine cb (((((g.bytesC 1).endC).e)!=0)) (fun F=>?_) (fun F=>?_)
 have X:=aq F
 refine sq<|Rg 7 (fun w'=>w'.cell? ⟨s,3,none⟩=some (.int .i64 (((g.bytesC 1).endC).e))) fun c9 M=>?_
 have aG:=RC.upd W M ay (aD.step (RC.u W) M)
 refine bg (RC.fld aG) fun G=>Rt 0 G<|Rt 1 G<|Rt 2 G<|Rt 3 G<|Rl 4 G (fun _ hs=>hs)<|?_
 refine R0 5 rfl<|aW (ub (ut t (ut z (ui q (ut U (u1 V (aF L M) im) (ac im (ac im au)))) (ac im (ac im au))) (ac (nr d) (ac (ni i.size h) au))) k) mZ fun ca bw aI=>?_
 have aJ:=ud aE (uz M aI) r
 refine bg (RC.fld (RC.upd aG aI (aa (Ne.symm (nb (am k) lr d)) ay) aJ)) fun bx=>Rt 6 bx<|re<|tn<|rt<|tr<|bz bw (.int .i64 (((g.bytesC 1).endC).e))<|?_
 have hs:ae bN 0 c b=aH (aQ.mk 43 0 0 0 0 0 0 0 0 0 0 0 [] [] [] [] ((ah.mk b false 0).byteV) x55.byteV 0 0 g.byteV []) (g.bytesC 1):=by
   subst ax H
   unfold ae bN dj fX fb fc eG ei el dB
   (try simp only[j,o,F,bs,if_true,if_false,decide_true,decide_false,eq_self,true_or,or_true,or_false,false_or,if_true,if_false,cl,cj,cm,ck,reduceIte])
   all_goals rfl
 rw[hs]
 exact bh X aJ
 have X:=ai F
 refine bi<|sg<|?_
 refine L0<|ci (aX L (Ne.symm f) bv)<|?_
 refine L0<|aW (ub (ut t (ut z (ui q (ut U (u1 V L im) (ac im (ac im au)))) (ac im (ac im au))) (ac (nr d) (ac (ni i.size h) au))) k) (mG 43 0 0 0 0 0 0 0 0 0 0 0 nS nS nS nS ((ah.mk b false 0).byteV) x55.byteV 0 0 g.byteV nS) fun cc bA bB=>Pl 1<|nt<|rt<|bz bA (.int .i64 0)<|?_
 have hs:ae bN 0 c b=aH (aQ.mk 43 0 0 0 0 0 0 0 0 0 0 0 [] [] [] [] ((ah.mk b false 0).byteV) x55.byteV 0 0 g.byteV []) (g.bytesC 1):=by
   subst ax H
   unfold ae bN dj fX fb fc eG ei el dB
   (try simp only[j,o,F,bs,if_true,if_false,decide_true,decide_false,eq_self,true_or,or_true,or_false,false_or,if_true,if_false,cl,cj,cm,ck,reduceIte])
   all_goals rfl
 rw[hs]
 exact bo X ⟨_,_,_,_,_,rfl,aK.nil ..,aK.nil ..,(fun _ _ _=>aK.nil ..),aK.nil ..,aK.nil ..,⟨(b8 (x:=43) (by omega)),(b8 (x:=0) (by omega)),(aB (x:=0) (by omega)),(aB (x:=0) (by omega)),(aB (x:=0) (by omega)),(aB (x:=0) (by omega)),(aB (x:=0) (by omega)),(aB (x:=0) (by omega)),(aB (x:=0) (by omega)),(aB (x:=0) (by omega)),(aB (x:=0) (by omega)),(aB (x:=0) (by omega)),(b8 (x:=(ah.mk b false 0).byteV) (by omega)),(b8 (x:=x55.byteV) (by omega)),(b8 (x:=0) (by omega)),(b8 (x:=0) (by omega)),(b8 (x:=g.byteV) (by omega))⟩⟩ (ud aE bB r)
theorem lb{m:Md}{A:Option Addr}{cp:Nat}{b:List Int}{w:World}{c:Int}(hcode:B8 c)(hsl:aT m w (.slice A b.length cp) b)(hb:b.length≤1048576) :
    Calls Tryz.prog 97 #[.int .i64 1,.int .u8 c,.slice A b.length cp] w (dk (.slice A b.length cp) b (ae bN 1 c b) w):=by
 obtain⟨hcode1,hcode2⟩:=hcode
 have hln:(b.length:Int)≤1048576:=by omega
 refine en 176 Tryz.func97 rfl<|sg<|L0<|bE mZ fun a1 dK M y a=>Pl 1<|nt<|sq<|sg<|Pl 6<|nt<|c0<|?_
 refine bi<|sq<|sg<|Pl 2<|nt<|cb ((c != 43)) (fun z=>?_) (fun z=>?_)
 have cF:=aq z
 refine sg<|Pl 1<|L0<|aW y mZ fun dL cG cH=>Pl 1<|nt<|rt<|tr<|bz cG (.int .i64 4)<|?_
 have hs:ae bN 1 c b=(aQ.zero,4):=by
   unfold ae bN dj fX fb fc eG ei el dB
   (try simp only[z,bs,if_true,if_false,decide_true,decide_false,eq_self,true_or,or_true,or_false,false_or,if_true,if_false,cl,cj,cm,ck,reduceIte])
   all_goals rfl
 rw[hs]
 exact bu (ud a cH M)
 have cF:=ai z
 refine bi<|sg<|Pl 2<|L0<|dq #[.slice A b.length cp,.int .i64 0,.bool false,.int .i64 0] fun t dM f b4 o=>Pl 1<|ng<|Pl 1<|L0<|bE mZ fun G dN q cI b5=>L0<|aW cI (mC 43) fun cJ cK b6=>?_
 refine ng<|Pl 1<|?_
 have b7:=ud b5 b6 q
 have a2:=aF o b7
 have b9:=aF a a2
 have cL:RC w _ A cp b cJ t (ah.mk b false 0):=⟨hsl,b9,(Nat.le_trans a.size f),⟨0,(ub b7 b4),Nat.zero_le _,rfl⟩,by omega⟩
 refine L0<|Oc<|m3 (dU cL) fun dO cM ab dP=>Pl 1<|?_
 have g:=nb (am b4) lr q
 refine L0<|bX (aX ab (Ne.symm g) cK) 16 (mG 43 0 0 0 0 0 0 0 0 0 0 0 nS nS nS nS ((ah.mk b false 0).byteV) 0 0 0 0 nS) fun dQ ad af=>ng<|Pl 2<|L0<|aU ad 16<|Pl 2<|cu 4 [38] 42 (((((ah.mk b false 0).byteV)==13)||(((ah.mk b false 0).byteV)==14))) (fun K ba=>?_) ?_
 refine bl 38 ((((ah.mk b false 0).byteV)==13)) (fun N=>?_) (fun N=>?_)
 have cN:=al N
 exact Pl 4<|ce ba true (by rw[N];rfl)
 have cN:=ap N
 exact Pl 1<|L1<|aU ad 16<|Pl 2<|ce ba (((ah.mk b false 0).byteV)==14) (by rw[N];rfl)
 have a3:=us ab af
 have bb:=ut b9 a3 (ac (ni a.size f) (ac (ni (le a.size o.size) q) au))
 refine L0<|Oc<|m2 (aY (((((ah.mk b false 0).byteV)==13)||(((ah.mk b false 0).byteV)==14))) 8 (RC.upd cM af (aa g ay) bb)) fun dR cO H=>?_
 refine fw cO fun x55 a4 O=>?_
 refine nt<|sq<|bk<|sg<|Pl 1<|?_
 have ag:=aX H (Ne.symm g) ad
 refine L0<|aU ag 16<|Pl 2<|nt<|?_
 have bc:=ud bb H (le a.size f)
 refine cb ((((ah.mk b false 0).byteV)==13)) (fun E=>?_) (fun E=>?_)
 have cP:=al E
 refine sg<|Pl 1<|L0<|Oc<|m1 (i7 O) fun dS aj=>?_
 have dT:=RC.clen O
 refine Pl 1<|ng<|Pl 3<|?_
 refine L0<|Oc<|m2 (aY ((decide (((x55.l.length:Nat) : Int)≤251))) 5 (RC.upd O aj ay (aD.step (RC.u O) aj))) fun dV bd cQ=>nt<|go<|Pl 2<|L0<|Oc<|oO (fu (n:=((x55.l.length:Nat) : Int)) (by omega) bd) fun bf bm dW cR cS cT=>?_
 have dX:=Nat.le_trans (ah.bytesR_le (x55.need (decide (((x55.l.length:Nat) : Int)≤251)) 5) ((x55.l.length:Nat) : Int)) (RC.clen bd)
 refine fw cS fun jG bp cU=>?_
 refine Pl 1<|?_
 have bq:=uz aj (u1 cQ cT im)
 refine L0<|bX (aX bq (Ne.symm g) ag) 14 (mG 43 0 0 0 0 0 0 0 0 0 0 0 nS nS (.slice bf (((x55.need (decide (((x55.l.length:Nat) : Int)≤251)) 5).bytesR ((x55.l.length:Nat) : Int)).length) bm) nS ((ah.mk b false 0).byteV) 0 0 0 0 nS) fun dZ cV br=>nl<|bn<|tn<|sg<|Pl 1<|?_
 have ak:=us bq br
 have bt:=ut bc ak (ac (ni a.size f) (ac (ni (le a.size o.size) q) au))
 refine L0<|Oc<|m2 (eh (RC.upd cU br (aa g ay) bt)) fun e0 an a5=>nt<|sq<|sg<|Pl 3<|L0<|dY (p:=⟨t,3,none⟩) (v:=.int .i64 jG.endC.e) (RC.fld an)<|Pl 1<|nt<|?_
 have bv:=ud bt a5 (le a.size f)
 refine cb ((jG.endC.e != 0)) (fun P=>?_) (fun P=>?_)
 have ao:=aq P
 refine sq<|Rg 7 (fun w'=>w'.cell? ⟨t,3,none⟩=some (.int .i64 jG.endC.e)) fun e1 a6=>?_
 have bw:=RC.upd an a6 ay (aD.step (RC.u an) a6)
 refine bg (RC.fld bw) fun Q=>Rt 0 Q<|Rt 1 Q<|Rt 2 Q<|Rt 3 Q<|Rl 4 Q (fun _ hs=>hs)<|?_
 refine R0 5 rfl<|aW (ub (ut a2 (ut a3 (ui H (u1 ak (aF a5 a6) im)) (ac im (ac im au))) (ac (nr f) (ac (ni o.size q) au))) y) mZ fun e2 cW bA=>?_
 have bB:=ud bv (uz a6 bA) M
 refine bg (RC.fld (RC.upd bw bA (aa (Ne.symm (nb (am y) lr f)) ay) bB)) fun cX=>Rt 6 cX<|re<|tn<|rt<|tr<|bz cW (.int .i64 jG.endC.e)<|?_
 have hs:ae bN 1 c b=aH (aQ.mk 43 0 0 0 0 0 0 0 0 0 0 0 [] [] ((x55.need (decide (((x55.l.length:Nat) : Int)≤251)) 5).bytesR ((x55.l.length:Nat) : Int)) [] ((ah.mk b false 0).byteV) 0 0 0 0 []) jG:=by
   subst bp a4
   unfold ae bN dj fX fb fc eG ei el dB
   (try simp only[z,E,P,bs,if_true,if_false,decide_true,decide_false,eq_self,true_or,or_true,or_false,false_or,if_true,if_false,cl,cj,cm,ck,reduceIte])
   all_goals rfl
 rw[hs]
 exact bh ao bB
 have ao:=ai P
 refine bi<|sg<|?_
 refine L0<|ci (aX a5 (Ne.symm g) cV)<|?_
 refine L0<|aW (ub (ut a2 (ut a3 (ui H (u1 ak a5 im)) (ac im (ac im au))) (ac (nr f) (ac (ni o.size q) au))) y) (mG 43 0 0 0 0 0 0 0 0 0 0 0 nS nS (.slice bf (((x55.need (decide (((x55.l.length:Nat) : Int)≤251)) 5).bytesR ((x55.l.length:Nat) : Int)).length) bm) nS ((ah.mk b false 0).byteV) 0 0 0 0 nS) fun e3 cY cZ=>Pl 1<|nt<|rt<|bz cY (.int .i64 0)<|?_
 have hs:ae bN 1 c b=aH (aQ.mk 43 0 0 0 0 0 0 0 0 0 0 0 [] [] ((x55.need (decide (((x55.l.length:Nat) : Int)≤251)) 5).bytesR ((x55.l.length:Nat) : Int)) [] ((ah.mk b false 0).byteV) 0 0 0 0 []) jG:=by
   subst bp a4
   unfold ae bN dj fX fb fc eG ei el dB
   (try simp only[z,E,P,bs,if_true,if_false,decide_true,decide_false,eq_self,true_or,or_true,or_false,false_or,if_true,if_false,cl,cj,cm,ck,reduceIte])
   all_goals rfl
 rw[hs]
 exact bo ao ⟨_,_,_,_,_,rfl,aK.nil ..,aK.nil ..,cR,aK.nil ..,aK.nil ..,⟨(b8 (x:=43) (by omega)),(b8 (x:=0) (by omega)),(aB (x:=0) (by omega)),(aB (x:=0) (by omega)),(aB (x:=0) (by omega)),(aB (x:=0) (by omega)),(aB (x:=0) (by omega)),(aB (x:=0) (by omega)),(aB (x:=0) (by omega)),(aB (x:=0) (by omega)),(aB (x:=0) (by omega)),(aB (x:=0) (by omega)),(b8 (x:=(ah.mk b false 0).byteV) (by omega)),(b8 (x:=0) (by omega)),(b8 (x:=0) (by omega)),(b8 (x:=0) (by omega)),(b8 (x:=0) (by omega))⟩⟩ (ud bv cZ M)
 have cP:=ap E
 refine sg<|Pl 3<|nt<|c0<|sg<|Pl 1<|L0<|Oc<|m3 (dU O) fun e4 d0 ar e5=>Pl 1<|?_
 refine L0<|bX (aX ar (Ne.symm g) ag) 17 (mG 43 0 0 0 0 0 0 0 0 0 0 0 nS nS nS nS ((ah.mk b false 0).byteV) x55.byteV 0 0 0 nS) fun e6 aw az=>ng<|Pl 2<|L0<|aU aw 17<|Pl 2<|cu 4 [51] 55 (((decide (0<x55.byteV))&&(decide (x55.byteV<5)))) (fun K bC=>?_) ?_
 refine bl 51 ((decide (0<x55.byteV))) (fun S=>?_) (fun S=>?_)
 have d1:=of_decide_eq_true S
 exact Pl 1<|L1<|aU aw 17<|Pl 2<|ce bC (decide (x55.byteV<5)) (by rw[S];rfl)
 have d1:=of_decide_eq_false S
 exact Pl 4<|ce bC false (by rw[S];rfl)
 have bD:=us ar az
 have bF:=ut bc bD (ac (ni a.size f) (ac (ni (le a.size o.size) q) au))
 refine L0<|Oc<|m2 (aY (((decide (0<x55.byteV))&&(decide (x55.byteV<5)))) 6 (RC.upd d0 az (aa g ay) bF)) fun e7 d2 bG=>?_
 refine fw d2 fun j bH d3=>?_
 refine ng<|Pl 1<|L0<|Oc<|m3 (dU d3) fun e8 d4 bI e9=>Pl 1<|?_
 have bJ:=u1 bG bI im
 refine L0<|bX (aX bJ (Ne.symm g) aw) 18 (mG 43 0 0 0 0 0 0 0 0 0 0 0 nS nS nS nS ((ah.mk b false 0).byteV) x55.byteV j.byteV 0 0 nS) fun ea bK aA=>ng<|Pl 1<|L0<|aU bK 18<|L0<|Oe (.int .u8 (Int.tmod j.byteV 128)) (.int .u8 (j.byteV%128)) (congrArg (Value.int .u8) (Int.tmod_eq_emod_of_nonneg (by omega)))<|Pl 1<|ng<|Pl 4<|cu 3 [66] 69 (((decide (1≤(j.byteV%128)))&&(decide ((j.byteV%128)≤3)))) (fun K bL=>?_) ?_
 refine bl 66 ((decide (1≤(j.byteV%128)))) (fun T=>?_) (fun T=>?_)
 have d5:=of_decide_eq_true T
 exact Pl 3<|ce bL (decide ((j.byteV%128)≤3)) (by rw[T];rfl)
 have d5:=of_decide_eq_false T
 exact Pl 3<|ce bL false (by rw[T];rfl)
 have bM:=us bJ aA
 have bO:=ut bF bM (ac (ni a.size f) (ac (ni (le a.size o.size) q) au))
 refine L0<|Oc<|m2 (aY (((decide (1≤(j.byteV%128)))&&(decide ((j.byteV%128)≤3)))) 6 (RC.upd d4 aA (aa g ay) bO)) fun eb d6 bP=>?_
 refine fw d6 fun k bQ d7=>?_
 refine ng<|Pl 1<|L0<|Oc<|m3 (dU d7) fun ec d8 bR ed=>Pl 1<|?_
 have bS:=u1 bP bR im
 refine L0<|bX (aX bS (Ne.symm g) bK) 19 (mG 43 0 0 0 0 0 0 0 0 0 0 0 nS nS nS nS ((ah.mk b false 0).byteV) x55.byteV j.byteV k.byteV 0 nS) fun ee aE aG=>ng<|Pl 2<|L0<|aU aE 19<|Pl 2<|cu 4 [78] 82 (((k.byteV==0)||(k.byteV==255))) (fun K bT=>?_) ?_
 refine bl 78 ((k.byteV==0)) (fun U=>?_) (fun U=>?_)
 have d9:=al U
 exact Pl 4<|ce bT true (by rw[U];rfl)
 have d9:=ap U
 exact Pl 1<|L1<|aU aE 19<|Pl 2<|ce bT (k.byteV==255) (by rw[U];rfl)
 have bU:=us bS aG
 have bV:=ut bO bU (ac (ni a.size f) (ac (ni (le a.size o.size) q) au))
 refine L0<|Oc<|m2 (aY (((k.byteV==0)||(k.byteV==255))) 6 (RC.upd d8 aG (aa g ay) bV)) fun ef da bW=>?_
 refine fw da fun s bY db=>?_
 refine ng<|Pl 1<|L0<|Oc<|m3 (dU db) fun eg dc bZ ej=>Pl 1<|?_
 have c1:=u1 bW bZ im
 refine L0<|bX (aX c1 (Ne.symm g) aE) 20 (mG 43 0 0 0 0 0 0 0 0 0 0 0 nS nS nS nS ((ah.mk b false 0).byteV) x55.byteV j.byteV k.byteV s.byteV nS) fun ek a7 aI=>ng<|Pl 2<|L0<|aU a7 20<|Pl 2<|cu 4 [91] 95 (((s.byteV==0)||(k.byteV==255))) (fun K c2=>?_) ?_
 refine bl 91 ((s.byteV==0)) (fun V=>?_) (fun V=>?_)
 have dd:=al V
 exact Pl 4<|ce c2 true (by rw[V];rfl)
 have dd:=ap V
 exact Pl 1<|L1<|aU a7 19<|Pl 2<|ce c2 (k.byteV==255) (by rw[V];rfl)
 have c3:=us c1 aI
 have c4:=ut bV c3 (ac (ni a.size f) (ac (ni (le a.size o.size) q) au))
 refine L0<|Oc<|m2 (aY (((s.byteV==0)||(k.byteV==255))) 6 (RC.upd dc aI (aa g ay) c4)) fun em de aJ=>?_
 refine fw de fun d c5 df=>?_
 refine ng<|Pl 1<|L0<|Oc<|m3 (dU df) fun eo dg aL ep=>L0<|Oi d.byteV<|Pl 1<|ng<|Pl 4<|cu 4 [103] 107 (((d.byteV==1)||(x55.byteV != 4))) (fun K c6=>?_) ?_
 refine bl 103 ((d.byteV==1)) (fun W=>?_) (fun W=>?_)
 have dh:=al W
 exact Pl 4<|ce c6 true (by rw[W];rfl)
 have dh:=ap W
 refine Pl 1<|?_
 exact L1<|aU (aX (u1 aJ aL im) (Ne.symm g) a7) 17<|Pl 2<|ce c6 (x55.byteV != 4) (by rw[W];rfl)
 refine L0<|Oc<|m2 (aY (((d.byteV==1)||(x55.byteV != 4))) 5 dg) fun di dl c7=>?_
 refine fw dl fun F c8 dm=>?_
 refine ng<|Pl 1<|nt<|bk<|?_
 have hKr:0≤d.byteV∧d.byteV<256:=by omega
 have aM:=u1 aJ (u1 aL c7 im) im
 refine hY (fun x=>[(6,.pointer (some ⟨a1,0,none⟩)),(7,.int .i64 0),(8,.pointer (some ⟨t,0,none⟩)),(9,.pointer (some ⟨G,0,none⟩)),(12,.int .i64 d.byteV),(13,.int .i64 ((x.1:Nat) : Int))]) (fun(x:Nat × ah × List Obj × Option Addr × Nat) w'=>aD [] w w'∧di.heap.size≤w'.heap.size∧w'.heap[a1]? = some (.cells mZ 30 (0,0))∧RC w m A cp b w' t x.2.1∧w'.heap[G]? = some (.cells (mG 43 0 0 0 0 0 0 0 0 0 0 0 nS nS nS nS ((ah.mk b false 0).byteV) x55.byteV j.byteV k.byteV s.byteV (.slice x.2.2.2.1 x.2.2.1.length x.2.2.2.2)) 30 (0,0))∧be w.heap.size 111 2 (oo (.slice A b.length cp) b) w' (.slice x.2.2.2.1 x.2.2.1.length x.2.2.2.2) x.2.2.1∧(x.1≤d.byteV.toNat)∧(x.2.2.1.length=x.1)∧(eA (d.byteV.toNat-x.1) x.2.1 x.2.2.1=eA d.byteV.toNat F [])) (fun x=>d.byteV.toNat-x.1) (0,F,[],none,0) ⟨(ud c4 aM (le a.size f)),lr,(ub (ut a2 (ut a3 (ui H (ut bD (ut bM (ut bU (u1 c3 aM im) (ac im (ac im au))) (ac im (ac im au))) (ac im (ac im au)))) (ac im (ac im au))) (ac (nr f) (ac (ni o.size q) au))) y),dm,(aX aM (Ne.symm g) a7),(be.nil w.heap.size _ _ (oo (.slice A b.length cp) b) _),(by(try dsimp only);omega),rfl,rfl⟩ ?_
 rintro⟨i,C,L,B,cq⟩ a8 ⟨c9,ca,dn,dp,dr,ds,dt,du,dv⟩
 refine i1 [(6,.pointer (some ⟨a1,0,none⟩)),(7,.int .i64 0),(8,.pointer (some ⟨t,0,none⟩)),(9,.pointer (some ⟨G,0,none⟩)),(12,.int .i64 d.byteV),(13,.int .i64 ((i:Nat) : Int))] ?_
 have I:a8.heap[a1]? = some (.cells mZ 30 (0,0)):=dn
 have D:RC w m A cp b a8 t C:=dp
 have hlC:=RC.clen D
 have hrC:iR C:=RC.rng D
 have hbv:=it hrC
 have hbv2:=it (gX hrC (n:=1))
 have cc:a8.heap[G]? = some (.cells (mG 43 0 0 0 0 0 0 0 0 0 0 0 nS nS nS nS ((ah.mk b false 0).byteV) x55.byteV j.byteV k.byteV s.byteV (.slice B L.length cq)) 30 (0,0)):=dr
 have r:be w.heap.size 111 2 (oo (.slice A b.length cp) b) a8 (.slice B L.length cq) L:=ds
 have eq:i≤d.byteV.toNat:=dt
 have er:L.length=i:=du
 have cd:eA (d.byteV.toNat-i) C L=eA d.byteV.toNat F []:=dv
 refine sq<|sg<|Pl 3<|nt<|cb ((decide (((i:Nat) : Int)<d.byteV))) (fun X=>?_) (fun X=>?_)
 have dx:=of_decide_eq_true X
 refine bi<|sq<|bk<|sg<|Pl 1<|L0<|Oc<|m3 (dU D) fun es dy aN et=>Pl 1<|ng<|Pl 1<|L0<|Oc<|m3 (dU dy) fun eu cf aO ev=>?_
 refine L0<|Oi ((C.bytesC 1).byteV)<|Pl 1<|ng<|Pl 2<|L0<|Oc<|oO (fu (n:=(C.bytesC 1).byteV) (by omega) cf) fun dz dA ew dC cg aP=>?_
 have ex:=Nat.le_trans (ah.bytesR_le ((C.bytesC 1).bytesC 1) ((C.bytesC 1).byteV)) (RC.clen cf)
 refine Pl 1<|nt<|go<|Pl 1<|?_
 have aR:=u1 aN (u1 aO aP im) im
 have aS:=aX aR (Ne.symm g) cc
 refine L0<|aU aS 21<|Pl 3<|L0<|dD (m:=1) (e:=111) #[.int .u8 C.byteV,.slice dz ((((C.bytesC 1).bytesC 1).bytesR ((C.bytesC 1).byteV)).length) dA] fun ey ez eB dE J=>?_
 have ch:=RC.upd cg J ay (aD.step (RC.u cg) J)
 have dF:=jC (R:=oo (.slice A b.length cp) b) (x:=(Obj.mk C.byteV (((C.bytesC 1).bytesC 1).bytesR ((C.bytesC 1).byteV)))) dE rfl ⟨_,_,_,rfl,dC,b8 (x:=C.byteV) (by omega)⟩
 have cn:=aF aR J
 have co:=ax r cn (fun x hx=>(aa (fun e=>(RC.nrow D r (by decide)) (e▸hx)) ay)) (fun _ _ h=>h)
 refine L0<|gC (xs:=L) (ys:=([(Obj.mk C.byteV (((C.bytesC 1).bytesC 1).bytesR ((C.bytesC 1).byteV)))])) (.agg #[.int .u8 0,.slice none 0 0]) 2 32 co dF (by simp) oo.ones (fun _ _ _ _ h=>h) (by(try simp only[List.length_append,List.length_cons,List.length_nil,aC]);omega) (le (le (le (le (le (le (le (le (le (le (le (le (le (le (le (le (le (le (le (le (le (le (le (le (le a.size o.size) b5.size) b6.size) ab.size) af.size) H.size) ar.size) az.size) bG.size) bI.size) aA.size) bP.size) bR.size) aG.size) bW.size) bZ.size) aI.size) aJ.size) aL.size) c7.size) ca) aN.size) aO.size) aP.size) J.size) fun cr cs eC ct aZ=>Pl 1<|?_
 have cv:=aD.blk (ut (aD.mono (S':=(ob B++[])) J au) aZ (av il au)) (bj (dw aS (ax r aR (fun x hx=>(aa (fun e=>(RC.nrow D r (by decide)) (e▸hx)) ay)) (fun _ _ h=>h)) (by decide)) ay) aS
 refine L0<|bX cv 21 (mG 43 0 0 0 0 0 0 0 0 0 0 0 nS nS nS nS ((ah.mk b false 0).byteV) x55.byteV j.byteV k.byteV s.byteV (.slice cr ((L++[(Obj.mk C.byteV (((C.bytesC 1).bytesC 1).bytesR ((C.bytesC 1).byteV)))]).length) cs)) fun eD dG b0=>nl<|bn<|tn<|go<|Pl 1<|L0<|Oi (((i:Nat) : Int)+1)<|Pl 1<|nl<|?_
 have cw:=u1 (aD.mono (S':=(ob B++(G :: []))) aZ (av il au)) b0 im
 have cx:=ut (aD.mono (S':=(t :: (ob B++(G :: [])))) cn (ac im au)) cw (av il (ac im au))
 have cy:=ut c9 cx (ac (ni a.size f) (av (aV r lr) (ac (ni (le a.size o.size) q) au)))
 exact fF ((i+1),(((C.bytesC 1).bytesC 1).bytesC ((C.bytesC 1).byteV)),(L++[(Obj.mk C.byteV (((C.bytesC 1).bytesC 1).bytesR ((C.bytesC 1).byteV)))]),cr,cs) ⟨cy,(le (le (le (le (le (le ca aN.size) aO.size) aP.size) J.size) aZ.size) b0.size),(aD.blk cx (aa (nb (am y) lr f) (bj (dw I r (by decide)) (aa (nb (am y) o.size q) ay))) I),(RC.upd ch cw (bj (RC.nrow ch co (by decide)) (aa g ay)) cy),dG,(ax ct b0 (fun x hx=>(aa (fun e=>(dw cv ct (by decide)) (e▸hx)) ay)) (fun _ _ h=>h)),(by(try dsimp only);omega),(by(try dsimp only);simp only[List.length_append,List.length_cons,List.length_nil];omega),(by(try dsimp only);rw[← cd,show d.byteV.toNat-i=(d.byteV.toNat-(i+1))+1 from by omega];rfl)⟩ (by omega)
 have dx:=of_decide_eq_false X
 refine xt<|tx<|tx<|bx<|bn<|tn<|sg<|Pl 1<|?_
 have hR:=tb cd (by omega)
 refine L0<|Oc<|m2 (eh D) fun eE b1 Y=>nt<|sq<|sg<|Pl 3<|L0<|dY (p:=⟨t,3,none⟩) (v:=.int .i64 C.endC.e) (RC.fld b1)<|Pl 1<|nt<|?_
 have cz:=ud c9 Y (le a.size f)
 refine cb ((C.endC.e != 0)) (fun Z=>?_) (fun Z=>?_)
 have b2:=aq Z
 refine sq<|Rg 7 (fun w'=>w'.cell? ⟨t,3,none⟩=some (.int .i64 C.endC.e)) fun eF a9=>?_
 have cA:=RC.upd b1 a9 ay (aD.step (RC.u b1) a9)
 refine bg (RC.fld cA) fun a0=>Rt 0 a0<|Rt 1 a0<|Rt 2 a0<|Rt 3 a0<|Rl 4 a0 (fun _ hs=>hs)<|?_
 have cB:=aF Y a9
 have cC:=nb (am y) lr f
 refine R0 5 rfl<|aW (aX cB cC I) mZ fun eH dH b3=>?_
 have cD:=ud cz (uz a9 b3) M
 refine bg (RC.fld (RC.upd cA b3 (aa (Ne.symm cC) ay) cD)) fun dI=>Rt 6 dI<|re<|tn<|rt<|tr<|bz dH (.int .i64 C.endC.e)<|?_
 have eI:=ax r (us cB b3) (fun x hx=>(aa (fun e=>(RC.nrow D r (by decide)) (e▸hx)) (aa (fun e=>(dw I r (by decide)) (e▸hx)) ay))) (fun _ _ h=>h)
 have hs:ae bN 1 c b=aH (aQ.mk 43 0 0 0 0 0 0 0 0 0 0 0 [] [] [] [] ((ah.mk b false 0).byteV) x55.byteV j.byteV k.byteV s.byteV (eA d.byteV.toNat F []).2) (eA d.byteV.toNat F []).1:=by
   subst c8 c5 bY bQ bH a4
   unfold ae bN dj fX fb fc eG ei el dB
   (try simp only[z,E,X,Z,bs,if_true,if_false,decide_true,decide_false,eq_self,true_or,or_true,or_false,false_or,if_true,if_false,cl,cj,cm,ck,reduceIte])
   all_goals rfl
 rw[hR] at hs
 rw[hs]
 exact bh b2 cD
 have b2:=ai Z
 refine bi<|sg<|?_
 refine L0<|ci (aX Y (Ne.symm g) cc)<|?_
 refine L0<|aW (aX Y (nb (am y) lr f) I) (mG 43 0 0 0 0 0 0 0 0 0 0 0 nS nS nS nS ((ah.mk b false 0).byteV) x55.byteV j.byteV k.byteV s.byteV (.slice B L.length cq)) fun eJ dJ cE=>Pl 1<|nt<|rt<|bz dJ (.int .i64 0)<|?_
 have hs:ae bN 1 c b=aH (aQ.mk 43 0 0 0 0 0 0 0 0 0 0 0 [] [] [] [] ((ah.mk b false 0).byteV) x55.byteV j.byteV k.byteV s.byteV (eA d.byteV.toNat F []).2) (eA d.byteV.toNat F []).1:=by
   subst c8 c5 bY bQ bH a4
   unfold ae bN dj fX fb fc eG ei el dB
   (try simp only[z,E,X,Z,bs,if_true,if_false,decide_true,decide_false,eq_self,true_or,or_true,or_false,false_or,if_true,if_false,cl,cj,cm,ck,reduceIte])
   all_goals rfl
 rw[hR] at hs
 rw[hs]
 exact bo b2 ⟨_,_,_,_,_,rfl,aK.nil ..,aK.nil ..,(fun _ _ _=>aK.nil ..),aK.nil ..,((ax r (us Y cE) (fun x hx=>(aa (fun e=>(RC.nrow D r (by decide)) (e▸hx)) (aa (fun e=>(dw I r (by decide)) (e▸hx)) ay))) (fun _ _ h=>h))).rd,⟨(b8 (x:=43) (by omega)),(b8 (x:=0) (by omega)),(aB (x:=0) (by omega)),(aB (x:=0) (by omega)),(aB (x:=0) (by omega)),(aB (x:=0) (by omega)),(aB (x:=0) (by omega)),(aB (x:=0) (by omega)),(aB (x:=0) (by omega)),(aB (x:=0) (by omega)),(aB (x:=0) (by omega)),(aB (x:=0) (by omega)),(b8 (x:=(ah.mk b false 0).byteV) (by omega)),(b8 (x:=x55.byteV) (by omega)),(b8 (x:=j.byteV) (by omega)),(b8 (x:=k.byteV) (by omega)),(b8 (x:=s.byteV) (by omega))⟩⟩ (ud cz cE M)
theorem lA{m:Md}{A:Option Addr}{cp:Nat}{b:List Int}{w:World}{dir c:Int}(hcode:B8 c)(hsl:aT m w (.slice A b.length cp) b)(hb:b.length≤1048576)(hd:¬ (dir=0∨dir=1)) :
    Calls Tryz.prog 97 #[.int .i64 dir,.int .u8 c,.slice A b.length cp] w (dk (.slice A b.length cp) b (ae bN dir c b) w):=by
 obtain⟨hcode1,hcode2⟩:=hcode
 have hln:(b.length:Int)≤1048576:=by omega
 have e0:(dir != 0)=true:=by simp;omega
 have e1:(dir != 1)=true:=by simp;omega
 refine en 176 Tryz.func97 rfl<|sg<|L0<|bE mZ fun g h a d e=>Pl 1<|nt<|sq<|sg<|Pl 3<|sy 19 e0<|Pl 3<|nl<|?_
 refine tn<|ct e1<|sg<|Pl 1<|L0<|aW d mZ fun i dx f=>Pl 1<|nt<|rt<|tr<|bz dx (.int .i64 1)<|?_
 have hs:ae bN dir c b=(aQ.zero,1):=by
   unfold ae bN dj fX fb fc eG ei el dB
   (try simp only[e0,e1,bs,if_true,if_false,decide_true,decide_false,eq_self,true_or,or_true,or_false,false_or,if_true,if_false,cl,cj,cm,ck,reduceIte,hd])
   all_goals rfl
 rw[hs]
 exact bu (ud e f a)
theorem pL{m:Md}{v:Value}{b:List Int}{w:World}{dir c:Int}(hc:B8 c)(h:aT m w v b)(hb:b.length≤1048576) :
    Calls Tryz.prog 97 #[.int .i64 dir,.int .u8 c,v] w (dk v b (ae bG dir c b) w):=by
  rw[← nX (aT.range h)]
  obtain⟨A,cp,rfl,_,_⟩:=h.shape
  by_cases h0:dir=0
  · subst h0;exact lu hc h hb
  by_cases h1:dir=1
  · subst h1;exact lb hc h hb
  exact lA hc h hb (by omega)
open Go.RowKit
theorem u5{x:Int}{w:World}:Calls Tryz.prog 148 #[.int .u8 x] w (bP (.bool (n8 x)) w):=by
 refine en 37 Tryz.func148 rfl<|sg<|Pl 1<|ng<|Pl 3<|cu 3 [5] 8 (((decide (1≤x))&&(decide (x≤8)))) (fun K i=>?_) ?_
 refine bl 5 ((decide (1≤x))) (fun a=>?_) (fun a=>?_)
 have v:=of_decide_eq_true a
 exact Pl 3<|ce i (decide (x≤8)) (by rw[a];rfl)
 have v:=of_decide_eq_false a
 exact Pl 3<|ce i false (by rw[a];rfl)
 refine Pl 1<|cu 3 [9] 12 ((((decide (1≤x))&&(decide (x≤8)))||(x==11))) (fun K j=>?_) ?_
 refine bl 9 (((decide (1≤x))&&(decide (x≤8)))) (fun b=>?_) (fun b=>?_)
 have y:=(aR b).1
 have z:=(aR b).2
 have G:=of_decide_eq_true y
 have H:=of_decide_eq_true z
 exact Pl 3<|ce j true (by rw[b];rfl)
 exact Pl 3<|ce j (x==11) (by rw[b];rfl)
 refine Pl 1<|cu 3 [13] 16 (((((decide (1≤x))&&(decide (x≤8)))||(x==11))||(x==12))) (fun K k=>?_) ?_
 refine bl 13 ((((decide (1≤x))&&(decide (x≤8)))||(x==11))) (fun c=>?_) (fun c=>?_)
 exact Pl 3<|ce k true (by rw[c];rfl)
 have I:=(aJ c).1
 have A:=(aJ c).2
 have J:=ap A
 exact Pl 3<|ce k (x==12) (by rw[c];rfl)
 refine Pl 1<|cu 7 [17] 24 ((((((decide (1≤x))&&(decide (x≤8)))||(x==11))||(x==12))||((decide (15≤x))&&(decide (x≤17))))) (fun K l=>?_) ?_
 refine bl 17 (((((decide (1≤x))&&(decide (x≤8)))||(x==11))||(x==12))) (fun d=>?_) (fun d=>?_)
 exact Pl 7<|ce l true (by rw[d];rfl)
 have m:=(aJ d).1
 have B:=(aJ d).2
 have L:=(aJ m).1
 have C:=(aJ m).2
 have q16abp:=ap C
 have M:=ap B
 refine Pl 3<|cu 3 [20] 23 (((decide (15≤x))&&(decide (x≤17)))) (fun K n=>?_) ?_
 refine bl 20 ((decide (15≤x))) (fun e=>?_) (fun e=>?_)
 have D:=of_decide_eq_true e
 exact Pl 3<|ce n (decide (x≤17)) (by rw[e];rfl)
 have D:=of_decide_eq_false e
 exact Pl 3<|ce n false (by rw[e];rfl)
 exact Pl 1<|ce l ((decide (15≤x))&&(decide (x≤17))) (by rw[d];rfl)
 refine Pl 1<|cu 7 [25] 32 (((((((decide (1≤x))&&(decide (x≤8)))||(x==11))||(x==12))||((decide (15≤x))&&(decide (x≤17))))||((decide (20≤x))&&(decide (x≤24))))) (fun K o=>?_) ?_
 refine bl 25 ((((((decide (1≤x))&&(decide (x≤8)))||(x==11))||(x==12))||((decide (15≤x))&&(decide (x≤17))))) (fun f=>?_) (fun f=>?_)
 exact Pl 7<|ce o true (by rw[f];rfl)
 have p:=(aJ f).1
 have N:=(aJ f).2
 have q:=(aJ p).1
 have E:=(aJ p).2
 have q20aaa:=(aJ q).1
 have q20aab:=(aJ q).2
 have q20aabp:=ap q20aab
 have q20abp:=ap E
 refine Pl 3<|cu 3 [28] 31 (((decide (20≤x))&&(decide (x≤24)))) (fun K r=>?_) ?_
 refine bl 28 ((decide (20≤x))) (fun g=>?_) (fun g=>?_)
 have F:=of_decide_eq_true g
 exact Pl 3<|ce r (decide (x≤24)) (by rw[g];rfl)
 have F:=of_decide_eq_false g
 exact Pl 3<|ce r false (by rw[g];rfl)
 exact Pl 1<|ce o ((decide (20≤x))&&(decide (x≤24))) (by rw[f];rfl)
 refine Pl 1<|cu 3 [33] 36 ((((((((decide (1≤x))&&(decide (x≤8)))||(x==11))||(x==12))||((decide (15≤x))&&(decide (x≤17))))||((decide (20≤x))&&(decide (x≤24))))||(x==43))) (fun K s=>?_) ?_
 refine bl 33 (((((((decide (1≤x))&&(decide (x≤8)))||(x==11))||(x==12))||((decide (15≤x))&&(decide (x≤17))))||((decide (20≤x))&&(decide (x≤24))))) (fun h=>?_) (fun h=>?_)
 exact Pl 3<|ce s true (by rw[h];rfl)
 have t:=(aJ h).1
 have O:=(aJ h).2
 have u:=(aJ t).1
 have P:=(aJ t).2
 have q24aaa:=(aJ u).1
 have q24aab:=(aJ u).2
 have q24aaaa:=(aJ q24aaa).1
 have q24aaab:=(aJ q24aaa).2
 have q24aaabp:=ap q24aaab
 have q24aabp:=ap q24aab
 exact Pl 3<|ce s (x==43) (by rw[h];rfl)
 refine Pl 1<|nt<|rt<|rr (.bool (((((((decide (1≤x))&&(decide (x≤8)))||(x==11))||(x==12))||((decide (15≤x))&&(decide (x≤17))))||((decide (20≤x))&&(decide (x≤24))))||(x==43)))<|?_
 have hs:n8 x=(((((((decide (1≤x))&&(decide (x≤8)))||(x==11))||(x==12))||((decide (15≤x))&&(decide (x≤17))))||((decide (20≤x))&&(decide (x≤24))))||(x==43)):=by
   unfold n8
   (try simp only[bs,if_true,if_false,decide_true,decide_false])
 rw[hs]
 exact⟨rfl,(aD.refl [] _)⟩
open Go.RowKit
def eX (b:List Int) : aQ × Int :=
  if decide ((b.length:Int)<1) then (aQ.zero,2)
  else if decide (b.getD 0 0-128<0) then (aQ.zero,4)
  else if !(n8 ((b.getD 0 0-128)%256)) then (aQ.zero,4)
  else if decide ((b.length:Int)<2) then (aQ.zero,2)
  else if !(di (b.getD 1 0)) then (aQ.zero,6)
  else if decide (2<(b.length:Int)) then (aQ.zero,3)
  else (qa ((b.getD 0 0-128)%256) (b.getD 1 0),0)
theorem xC{x:Int}:n8 x=fh x:=by
  unfold n8 fh
  rw[Bool.eq_iff_iff]
  simp only[decide_eq_true_eq,List.mem_cons,List.not_mem_nil,or_false,Bool.or_eq_true,Bool.and_eq_true,beq_iff_eq]
  omega
theorem sN(b:List Int) : eX b=f8 b:=by
  unfold eX f8
  rw[xC,show decide ((b.length:Int)<1)=((b.length:Int)==0) from by rw[Bool.eq_iff_iff];simp only[decide_eq_true_eq,beq_iff_eq];omega,show decide (b.getD 0 0-128<0)=decide (b.getD 0 0<128) from by rw[Bool.eq_iff_iff];simp only[decide_eq_true_eq];omega]
  by_cases h:b.length=0
  · rw[show((b.length:Int)==0)=true from by rw[beq_iff_eq];omega];rfl
  · rw[show decide ((b.length:Int)<2)=((b.length:Int)==1) from by rw[Bool.eq_iff_iff];simp only[decide_eq_true_eq,beq_iff_eq];omega]
theorem ox{m:Md}{A:Option Addr}{cp:Nat}{b:List Int}{w:World}(hsl:aT m w (.slice A b.length cp) b)(hb:b.length≤1048576) :
    Calls Tryz.prog 92 #[.slice A b.length cp] w (dk (.slice A b.length cp) b (eX b) w):=by
 have hln:(b.length:Int)≤1048576:=by omega
 refine en 46 Tryz.func92 rfl<|sg<|L0<|bE mZ fun a2 a3 e f n=>Pl 1<|nt<|sq<|sg<|Pl 3<|nt<|cb ((decide (((b.length:Nat) : Int)<1))) (fun a=>?_) (fun a=>?_)
 have u:=of_decide_eq_true a
 refine sg<|Pl 1<|L0<|aW f mZ fun a4 y z=>Pl 1<|nt<|rt<|tr<|bz y (.int .i64 2)<|?_
 have hs:eX b=(aQ.zero,2):=by
   unfold eX
   (try simp only[a,bs,if_true,if_false,decide_true,decide_false,Bool.not_eq_true,reduceIte])
   all_goals rfl
 rw[hs]
 exact bu (ud n z e)
 have u:=of_decide_eq_false a
 refine bi<|sg<|Pl 1<|?_
 have s:=aT.old hsl n
 refine eJ (aT.at_ s 0 (by omega)) fun B C D E a5=>L0<|iZ b.length 0 D (by omega)<|L0<|dY (p:=⟨B,C+0,none⟩) (v:=.int .u8 (b.getD 0 0)) E<|L0<|Oi (b.getD 0 0)<|L0<|Oi ((b.getD 0 0)-128)<|Pl 1<|nt<|sq<|sg<|Pl 2<|nt<|?_
 refine cb ((decide (((b.getD 0 0)-128)<0))) (fun c=>?_) (fun c=>?_)
 have F:=of_decide_eq_true c
 refine sg<|Pl 1<|L0<|aW f mZ fun a6 G H=>Pl 1<|nt<|rt<|tr<|bz G (.int .i64 4)<|?_
 have hs:eX b=(aQ.zero,4):=by
   unfold eX
   (try simp only[a,c,bs,if_true,if_false,decide_true,decide_false,Bool.not_eq_true,reduceIte])
   all_goals rfl
 rw[hs]
 exact bu (ud n H e)
 have F:=of_decide_eq_false c
 refine bi<|sg<|Pl 2<|L0<|Oc<|m1 (u5 (x:=(((b.getD 0 0)-128)%256))) fun a7 g=>Pl 1<|nt<|sq<|sg<|Pl 2<|nl<|?_
 refine tn<|?_
 have q:=aF n g
 refine cb ((!(n8 (((b.getD 0 0)-128)%256)))) (fun d=>?_) (fun d=>?_)
 have i:(n8 (((b.getD 0 0)-128)%256))=false:=by simpa using d
 refine sg<|Pl 1<|?_
 refine L0<|aW (ub g f) mZ fun a8 I J=>Pl 1<|nt<|rt<|tr<|bz I (.int .i64 4)<|?_
 have hs:eX b=(aQ.zero,4):=by
   unfold eX
   (try simp only[a,c,d,i,bs,if_true,if_false,decide_true,decide_false,Bool.not_eq_true,reduceIte])
   all_goals rfl
 rw[hs]
 exact bu (ud q J e)
 have i:(n8 (((b.getD 0 0)-128)%256))=true:=by simpa using d
 refine bi<|sq<|sg<|Pl 3<|nt<|cb ((decide (((b.length:Nat) : Int)<2))) (fun h=>?_) (fun h=>?_)
 have K:=of_decide_eq_true h
 refine sg<|Pl 1<|?_
 refine L0<|aW (ub g f) mZ fun a9 L M=>Pl 1<|nt<|rt<|tr<|bz L (.int .i64 2)<|?_
 have hs:eX b=(aQ.zero,2):=by
   unfold eX
   (try simp only[a,c,d,i,h,bs,if_true,if_false,decide_true,decide_false,Bool.not_eq_true,reduceIte])
   all_goals rfl
 rw[hs]
 exact bu (ud q M e)
 have K:=of_decide_eq_false h
 refine bi<|sg<|Pl 1<|?_
 have t:=aT.old s g
 refine eJ (aT.at_ t 1 (by omega)) fun N O P Q aa=>L0<|iZ b.length 1 P (by omega)<|L0<|dY (p:=⟨N,O+1,none⟩) (v:=.int .u8 (b.getD 1 0)) Q<|L0<|Oc<|m1 (tt (x:=(b.getD 1 0)) (by omega)) fun ab k=>Pl 1<|nt<|sq<|sg<|Pl 2<|nt<|?_
 have r:=aF q k
 refine cb ((!(di (b.getD 1 0)))) (fun j=>?_) (fun j=>?_)
 have o:(di (b.getD 1 0))=false:=by simpa using j
 refine sg<|Pl 1<|?_
 refine L0<|aW (ub (aF g k) f) mZ fun ac R S=>Pl 1<|nt<|rt<|tr<|bz R (.int .i64 6)<|?_
 have hs:eX b=(aQ.zero,6):=by
   unfold eX
   (try simp only[a,c,d,i,h,j,o,bs,if_true,if_false,decide_true,decide_false,Bool.not_eq_true,reduceIte])
   all_goals rfl
 rw[hs]
 exact bu (ud r S e)
 have o:(di (b.getD 1 0))=true:=by simpa using j
 refine bi<|sq<|sg<|Pl 3<|nt<|cb ((decide (2<((b.length:Nat) : Int)))) (fun l=>?_) (fun l=>?_)
 have T:=of_decide_eq_true l
 refine sg<|Pl 1<|?_
 refine L0<|aW (ub (aF g k) f) mZ fun ad U V=>Pl 1<|nt<|rt<|tr<|bz U (.int .i64 3)<|?_
 have hs:eX b=(aQ.zero,3):=by
   unfold eX
   (try simp only[a,c,d,i,h,j,o,l,bs,if_true,if_false,decide_true,decide_false,Bool.not_eq_true,reduceIte])
   all_goals rfl
 rw[hs]
 exact bu (ud r V e)
 have T:=of_decide_eq_false l
 refine bi<|sg<|Pl 3<|?_
 refine eJ (aT.at_ (aT.old t k) 1 (by omega)) fun W X Y Z ae=>L0<|iZ b.length 1 Y (by omega)<|L0<|dY (p:=⟨W,X+1,none⟩) (v:=.int .u8 (b.getD 1 0)) Z<|Pl 1<|?_
 refine L0<|aW (ub (aF g k) f) (mG (((b.getD 0 0)-128)%256) (b.getD 1 0) 0 0 0 0 0 0 0 0 0 0 nS nS nS nS 0 0 0 0 0 nS) fun af a0 a1=>Pl 1<|nt<|rt<|bz a0 (.int .i64 0)<|?_
 have hs:eX b=((aQ.mk (((b.getD 0 0)-128)%256) (b.getD 1 0) 0 0 0 0 0 0 0 0 0 0 [] [] [] [] 0 0 0 0 0 []),0):=by
   unfold eX
   (try simp only[a,c,d,i,h,j,o,l,bs,if_true,if_false,decide_true,decide_false,Bool.not_eq_true,reduceIte])
   all_goals rfl
 rw[hs]
 exact⟨_,rfl,⟨_,_,_,_,_,rfl,aK.nil ..,aK.nil ..,(fun _ _ _=>aK.nil ..),aK.nil ..,aK.nil ..,⟨(b8 (x:=(((b.getD 0 0)-128)%256)) (by omega)),(b8 (x:=(b.getD 1 0)) (by omega)),(aB (x:=0) (by omega)),(aB (x:=0) (by omega)),(aB (x:=0) (by omega)),(aB (x:=0) (by omega)),(aB (x:=0) (by omega)),(aB (x:=0) (by omega)),(aB (x:=0) (by omega)),(aB (x:=0) (by omega)),(aB (x:=0) (by omega)),(aB (x:=0) (by omega)),(b8 (x:=0) (by omega)),(b8 (x:=0) (by omega)),(b8 (x:=0) (by omega)),(b8 (x:=0) (by omega)),(b8 (x:=0) (by omega))⟩⟩,(ud r a1 e)⟩
theorem pW{m:Md}{v:Value}{b:List Int}{w:World}(h:aT m w v b)(hb:b.length≤1048576) : Calls Tryz.prog 92 #[v] w (dk v b (f8 b) w):=by
  obtain⟨A,cp,rfl,_,_⟩:=h.shape
  rw[← sN]
  exact ox h hb
open Go.RowKit
theorem ga{x y:aQ × Int}(h:x=y){w:World}{e:Ending}{w':World}{v0:Value}{b:List Int}(k:dk v0 b y w e w') : dk v0 b x w e w':=by rw[h];exact k
theorem mN{m:Md}{v:Value}{b:List Int}{w:World}{dir c:Int}(hc:B8 c)(h:aT m w v b)(hb:b.length≤1048576) :
    Calls Tryz.prog 93 #[.int .i64 dir,.int .u8 c,v] w (dk v b (ae aE dir c b) w):=by
  obtain⟨A,cp,rfl,_,_⟩:=h.shape
  by_cases h0:dir=0
  · subst h0;exact kn hc h hb
  by_cases h1:dir=1
  · subst h1;exact jY hc h hb
  exact kp hc h hb (by omega)
theorem nz{m:Md}{v:Value}{b:List Int}{w:World}{dir c:Int}(hc:B8 c)(h:aT m w v b)(hb:b.length≤1048576) :
    Calls Tryz.prog 94 #[.int .i64 dir,.int .u8 c,v] w (dk v b (ae aI dir c b) w):=by
  obtain⟨A,cp,rfl,_,_⟩:=h.shape
  by_cases h0:dir=0
  · subst h0;exact l6 hc h hb
  by_cases h1:dir=1
  · subst h1;exact ld hc h hb
  exact lx hc h hb (by omega)
theorem oF{m:Md}{v:Value}{b:List Int}{w:World}{dir c:Int}(hc:B8 c)(h:aT m w v b)(hb:b.length≤1048576) :
    Calls Tryz.prog 95 #[.int .i64 dir,.int .u8 c,v] w (dk v b (ae aO dir c b) w):=by
  obtain⟨A,cp,rfl,_,_⟩:=h.shape
  rw[← mT]
  by_cases h0:dir=0
  · subst h0;exact ln hc h hb
  by_cases h1:dir=1
  · subst h1;exact lf hc h hb
  exact lg hc h hb (by omega)
theorem oE{m:Md}{A:Option Addr}{cp:Nat}{b:List Int}{w:World}{dir:Int}(hsl:aT m w (.slice A b.length cp) b)(hb:b.length≤1048576) :
    Calls Tryz.prog 25 #[.int .i64 dir,.slice A b.length cp] w (dk (.slice A b.length cp) b (cZ dir b) w):=by
 have hln:(b.length:Int)≤1048576:=by omega
 refine en 87 Tryz.func25 rfl<|sg<|L0<|bE mZ fun bN bO u d i=>Pl 1<|nt<|sq<|sg<|Pl 3<|cu 3 [11] 14 (((dir != 0)&&(dir != 1))) (fun K W=>?_) ?_
 refine bl 11 ((dir != 0)) (fun F=>?_) (fun F=>?_)
 have b0:=aq F
 exact Pl 3<|ce W (dir != 1) (by rw[F];rfl)
 have b0:=ai F
 exact Pl 3<|ce W false (by rw[F];rfl)
 refine nt<|cb (((dir != 0)&&(dir != 1))) (fun f=>?_) (fun f=>?_)
 have X:=(aR f).1
 have Y:=(aR f).2
 have bP:=aq X
 have bQ:=aq Y
 refine sg<|Pl 1<|L0<|aW d mZ fun bR b1 b2=>Pl 1<|nt<|rt<|tr<|bz b1 (.int .i64 1)<|?_
 have hs:fW dir b=(aQ.zero,1):=by
   unfold fW
   (try simp only[f,X,Y,bs,if_true,if_false,decide_true,decide_false,f5,reduceIte])
   all_goals rfl
 rw[← fe]
 refine ga hs ?_
 exact bu (ud i b2 u)
 refine bi<|sq<|sg<|Pl 3<|nt<|cb ((((b.length:Nat) : Int)==0)) (fun g=>?_) (fun g=>?_)
 have b3:=al g
 refine sg<|Pl 1<|L0<|aW d mZ fun bS b4 b5=>Pl 1<|nt<|rt<|tr<|bz b4 (.int .i64 2)<|?_
 have hs:fW dir b=(aQ.zero,2):=by
   unfold fW
   (try simp only[f,g,bs,if_true,if_false,decide_true,decide_false,f5,reduceIte])
   all_goals rfl
 rw[← fe]
 refine ga hs ?_
 exact bu (ud i b5 u)
 have b3:=ap g
 refine bi<|sq<|sg<|Pl 3<|nt<|cb ((decide (253<((b.length:Nat) : Int)))) (fun j=>?_) (fun j=>?_)
 have b6:=of_decide_eq_true j
 refine sg<|Pl 1<|L0<|aW d mZ fun bT b9 ba=>Pl 1<|nt<|rt<|tr<|bz b9 (.int .i64 3)<|?_
 have hs:fW dir b=(aQ.zero,3):=by
   unfold fW
   (try simp only[f,g,j,bs,if_true,if_false,decide_true,decide_false,f5,reduceIte])
   all_goals rfl
 rw[← fe]
 refine ga hs ?_
 exact bu (ud i ba u)
 have b6:=of_decide_eq_false j
 refine bi<|sg<|Pl 1<|?_
 have G:=aT.old hsl i
 refine eJ (aT.at_ G 0 (by omega)) fun bb bc bd be bU=>L0<|iZ b.length 0 bd (by omega)<|L0<|dY (p:=⟨bb,bc+0,none⟩) (v:=.int .u8 (b.getD 0 0)) be<|Pl 1<|nt<|sq<|sg<|Pl 3<|cu 3 [29] 32 (((decide (128≤(b.getD 0 0)))&&(dir==1))) (fun K Z=>?_) ?_
 refine bl 29 ((decide (128≤(b.getD 0 0)))) (fun H=>?_) (fun H=>?_)
 have bf:=of_decide_eq_true H
 exact Pl 3<|ce Z (dir==1) (by rw[H];rfl)
 have bf:=of_decide_eq_false H
 exact Pl 3<|ce Z false (by rw[H];rfl)
 refine nt<|cb (((decide (128≤(b.getD 0 0)))&&(dir==1))) (fun x=>?_) (fun x=>?_)
 have a0:=(aR x).1
 have a1:=(aR x).2
 have bV:=of_decide_eq_true a0
 have bW:=al a1
 refine sg<|Pl 1<|L0<|Oc<|e2 (pW G (by omega)) fun bg bX I S=>?_
 refine Pl 2<|?_
 have a2:=ub S d
 refine L0<|aW (hz:=(by rw[I.size];exact aS)) (hv:=I.size) (h1:=(cP.one I (aT.old G S))) a2 (bg) fun bY bh a3=>Pl 1<|nt<|rt<|tr<|eu 22 I.size bh (.int .i64 (((f8 b)).2))<|?_
 have hs:fW dir b=(f8 b):=by
   unfold fW
   (try simp only[f,g,j,x,a0,a1,bs,if_true,if_false,decide_true,decide_false,f5,reduceIte])
   all_goals rfl
 rw[← fe]
 refine ga hs ?_
 exact⟨_,rfl,(cP.upd I a3 (ak (aM a2 (by decide)) aG)),(ud i (uz S a3) u)⟩
 refine bi<|sg<|Pl 3<|jW (dv (P:=Tryz.prog) 22 5 1 Tryz.underlying22 rfl rfl A b.length cp 1 (by omega)) fun bj hrun54 a4=>L0<|g9 (.slice bj (b.length-1) (cp-1)) (dM (kl:=.i64) (k:=((1:Nat) : Int)) (A:=A) (n:=b.length) (c:=cp) rfl Tryz.underlying22 (by kernel_rfl) (by kernel_rfl) (hrun54 _ _))<|L0<|Oc<|e2 (mN (dir:=dir) (c:=(b.getD 0 0)) (b8 (by omega)) (a4 _ _ _ _ _ G) (by(try simp only[List.length_drop]);omega)) fun a5 bZ bk e=>?_
 have L:=aT.old G e
 have l:=cP.sub bk (fun m' w' q=>(a4 _ _ _ _ _ q))
 refine Pl 3<|L0<|bE mZ fun c0 c1 a bm bn=>L0<|aW (hz:=(by rw[l.size];exact aS)) (hv:=l.size) (h1:=(cP.one l hsl)) bm (a5) fun c2 a6 bo=>Pl 1<|nt<|sq<|sg<|Pl 2<|nt<|?_
 have M:=ud bn bo a
 have o:=aF e M
 have a7:=aF i o
 refine cb (((((ae aE dir (b.getD 0 0) (b.drop 1))).2)==4)) (fun h=>?_) (fun h=>?_)
 have bp:=al h
 refine go<|Pl 3<|jW (dv (P:=Tryz.prog) 22 5 1 Tryz.underlying22 rfl rfl A b.length cp 1 (by omega)) fun bq hrun75 a8=>L0<|g9 (.slice bq (b.length-1) (cp-1)) (dM (kl:=.i64) (k:=((1:Nat) : Int)) (A:=A) (n:=b.length) (c:=cp) rfl Tryz.underlying22 (by kernel_rfl) (by kernel_rfl) (hrun75 _ _))<|?_
 have a9:=aT.old L M
 refine L0<|Oc<|e2 (nz (dir:=dir) (c:=(b.getD 0 0)) (b8 (by omega)) (a8 _ _ _ _ _ a9) (by(try simp only[List.length_drop]);omega)) fun aa c3 br N=>?_
 have c4:=aT.old a9 N
 have r:=cP.sub br (fun m' w' q=>(a8 _ _ _ _ _ q))
 refine Pl 3<|?_
 have ab:=ub N a6
 refine L0<|aW (hz:=(by rw[r.size];exact aS)) (hv:=(Eq.trans r.size (Eq.symm l.size))) (h1:=(cP.one r hsl)) ab (aa) fun c5 ad T=>Pl 1<|nt<|sq<|sg<|Pl 2<|nt<|?_
 have D:=uz N T
 have af:=ud a7 D (le (le i.size e.size) a)
 refine cb (((((ae aI dir (b.getD 0 0) (b.drop 1))).2)==4)) (fun y=>?_) (fun y=>?_)
 have bt:=al y
 refine go<|Pl 3<|jW (dv (P:=Tryz.prog) 22 5 1 Tryz.underlying22 rfl rfl A b.length cp 1 (by omega)) fun bv hrun92 ag=>L0<|g9 (.slice bv (b.length-1) (cp-1)) (dM (kl:=.i64) (k:=((1:Nat) : Int)) (A:=A) (n:=b.length) (c:=cp) rfl Tryz.underlying22 (by kernel_rfl) (by kernel_rfl) (hrun92 _ _))<|?_
 have ah:=ud M D a
 have aj:=aT.old L ah
 refine L0<|Oc<|e2 (oF (dir:=dir) (c:=(b.getD 0 0)) (b8 (by omega)) (ag _ _ _ _ _ aj) (by(try simp only[List.length_drop]);omega)) fun am c6 bw O=>?_
 have c7:=aT.old aj O
 have s:=cP.sub bw (fun m' w' q=>(ag _ _ _ _ _ q))
 refine Pl 3<|?_
 have an:=ub O ad
 refine L0<|aW (hz:=(by rw[s.size];exact aS)) (hv:=(Eq.trans s.size (Eq.symm r.size))) (h1:=(cP.one s hsl)) an (am) fun c8 ao U=>Pl 1<|nt<|sq<|sg<|Pl 2<|nt<|?_
 have E:=uz O U
 have ar:=ud af E (le (le i.size e.size) a)
 refine cb (((((ae aO dir (b.getD 0 0) (b.drop 1))).2)==4)) (fun B=>?_) (fun B=>?_)
 have bx:=al B
 refine go<|Pl 3<|jW (dv (P:=Tryz.prog) 22 5 1 Tryz.underlying22 rfl rfl A b.length cp 1 (by omega)) fun bA hrun110 av=>L0<|g9 (.slice bA (b.length-1) (cp-1)) (dM (kl:=.i64) (k:=((1:Nat) : Int)) (A:=A) (n:=b.length) (c:=cp) rfl Tryz.underlying22 (by kernel_rfl) (by kernel_rfl) (hrun110 _ _))<|?_
 have V:=u1 D E im
 have aw:=ud ah E a
 have ax:=aT.old L aw
 refine L0<|Oc<|e2 (mH (dir:=dir) (c:=(b.getD 0 0)) (b8 (by omega)) (av _ _ _ _ _ ax) (by(try simp only[List.length_drop]);omega)) fun ay c9 bB Q=>?_
 have ca:=aT.old ax Q
 have t:=cP.sub bB (fun m' w' q=>(av _ _ _ _ _ q))
 refine Pl 3<|?_
 have az:=ub Q ao
 refine L0<|aW (hz:=(by rw[t.size];exact aS)) (hv:=(Eq.trans t.size (Eq.symm s.size))) (h1:=(cP.one t hsl)) az (ay) fun cc aA aB=>Pl 1<|nt<|sq<|sg<|Pl 2<|nt<|?_
 have C:=uz Q aB
 have aC:=ud ar C (le (le i.size e.size) a)
 refine cb (((((ae b7 dir (b.getD 0 0) (b.drop 1))).2)==4)) (fun J=>?_) (fun J=>?_)
 have bC:=al J
 refine go<|Pl 3<|jW (dv (P:=Tryz.prog) 22 5 1 Tryz.underlying22 rfl rfl A b.length cp 1 (by omega)) fun bD hrun130 aD=>L0<|g9 (.slice bD (b.length-1) (cp-1)) (dM (kl:=.i64) (k:=((1:Nat) : Int)) (A:=A) (n:=b.length) (c:=cp) rfl Tryz.underlying22 (by kernel_rfl) (by kernel_rfl) (hrun130 _ _))<|?_
 have cd:=u1 U C im
 have cg:=u1 E C im
 have ch:=u1 (u1 T E im) C im
 have aH:=u1 V C im
 have aJ:=aT.old L (ud aw C a)
 refine L0<|Oc<|e2 (pL (dir:=dir) (c:=(b.getD 0 0)) (b8 (by omega)) (aD _ _ _ _ _ aJ) (by(try simp only[List.length_drop]);omega)) fun aK cj bF R=>?_
 have ck:=aT.old aJ R
 have z:=cP.sub bF (fun m' w' q=>(aD _ _ _ _ _ q))
 refine Pl 3<|?_
 have aL:=ub R aA
 refine L0<|aW (hz:=(by rw[z.size];exact aS)) (hv:=(Eq.trans z.size (Eq.symm t.size))) (h1:=(cP.one z hsl)) aL (aK) fun cl bH aN=>Pl 1<|ng<|L0<|ci (hz:=(by rw[z.size];exact aS)) bH<|Pl 1<|?_
 have aP:=uz R aN
 refine L0<|aW (hz:=(by rw[z.size];exact aS)) (hv:=z.size) (h1:=(cP.one z hsl)) (ub (ud o (u1 aH aP im) (le e.size a)) d) (aK) fun cm bI aU=>Pl 1<|nt<|rt<|eu 22 z.size bI (.int .i64 (((ae bG dir (b.getD 0 0) (b.drop 1))).2))<|?_
 have hs:fW dir b=(ae bG dir (b.getD 0 0) (b.drop 1)):=by
   unfold fW
   (try simp only[f,g,j,x,h,y,B,J,bs,if_true,if_false,decide_true,decide_false,f5,reduceIte])
   all_goals rfl
 rw[← fe]
 refine ga hs ?_
 exact⟨_,rfl,(cP.upd z (us aN aU) (ak (aM aL (by decide)) (ak (aM (ub (ud o (aF aH R) (le e.size a)) d) (by decide)) aG))),(ut aC (us aP aU) (ac (ni (le i.size e.size) a) (ac (nr u) au)))⟩
 have bC:=ap J
 refine bi<|sg<|L0<|ci (hz:=(by rw[t.size];exact aS)) aA<|Pl 1<|?_
 refine L0<|aW (hz:=(by rw[t.size];exact aS)) (hv:=t.size) (h1:=(cP.one t hsl)) (ub (ud o (u1 V C im) (le e.size a)) d) (ay) fun cn bJ aV=>Pl 1<|nt<|rt<|eu 22 t.size bJ (.int .i64 (((ae b7 dir (b.getD 0 0) (b.drop 1))).2))<|?_
 have hs:fW dir b=(ae b7 dir (b.getD 0 0) (b.drop 1)):=by
   unfold fW
   (try simp only[f,g,j,x,h,y,B,J,bs,if_true,if_false,decide_true,decide_false,f5,reduceIte])
   all_goals rfl
 rw[← fe]
 refine ga hs ?_
 exact⟨_,rfl,(cP.upd t (us aB aV) (ak (aM az (by decide)) (ak (aM (ub (ud o (aF V Q) (le e.size a)) d) (by decide)) aG))),(ud aC aV u)⟩
 have bx:=ap B
 refine bi<|sq<|sg<|Pl 2<|nt<|cf B<|bi<|sg<|L0<|ci (hz:=(by rw[s.size];exact aS)) ao<|?_
 refine Pl 1<|?_
 refine L0<|aW (hz:=(by rw[s.size];exact aS)) (hv:=s.size) (h1:=(cP.one s hsl)) (ub (ud o (u1 D E im) (le e.size a)) d) (am) fun co bK aX=>Pl 1<|nt<|rt<|eu 22 s.size bK (.int .i64 (((ae aO dir (b.getD 0 0) (b.drop 1))).2))<|?_
 have hs:fW dir b=(ae aO dir (b.getD 0 0) (b.drop 1)):=by
   unfold fW
   (try simp only[f,g,j,x,h,y,B,bs,if_true,if_false,decide_true,decide_false,f5,reduceIte])
   all_goals rfl
 rw[← fe]
 refine ga hs ?_
 exact⟨_,rfl,(cP.upd s (us U aX) (ak (aM an (by decide)) (ak (aM (ub (ud o (aF D O) (le e.size a)) d) (by decide)) aG))),(ud ar aX u)⟩
 have bt:=ap y
 refine bi<|sq<|sg<|Pl 2<|nt<|cf y<|bi<|sq<|sg<|?_
 refine Pl 2<|nt<|cf y<|bi<|sg<|L0<|ci (hz:=(by rw[r.size];exact aS)) ad<|Pl 1<|?_
 refine L0<|aW (hz:=(by rw[r.size];exact aS)) (hv:=r.size) (h1:=(cP.one r hsl)) (ub (ud o D (le e.size a)) d) (aa) fun cq bL aY=>Pl 1<|nt<|rt<|eu 22 r.size bL (.int .i64 (((ae aI dir (b.getD 0 0) (b.drop 1))).2))<|?_
 have hs:fW dir b=(ae aI dir (b.getD 0 0) (b.drop 1)):=by
   unfold fW
   (try simp only[f,g,j,x,h,y,bs,if_true,if_false,decide_true,decide_false,f5,reduceIte])
   all_goals rfl
 rw[← fe]
 refine ga hs ?_
 exact⟨_,rfl,(cP.upd r (us T aY) (ak (aM ab (by decide)) (ak (aM (ub (aF o N) d) (by decide)) aG))),(ud af aY u)⟩
 have bp:=ap h
 refine bi<|sq<|sg<|Pl 2<|nt<|cf h<|bi<|sq<|sg<|?_
 refine Pl 2<|nt<|cf h<|bi<|sq<|sg<|Pl 2<|nt<|cf h<|sk<|?_
 refine tn<|sg<|L0<|ci (hz:=(by rw[l.size];exact aS)) a6<|Pl 1<|?_
 refine L0<|aW (hz:=(by rw[l.size];exact aS)) (hv:=l.size) (h1:=(cP.one l hsl)) (ub o d) (a5) fun cr bM aZ=>Pl 1<|nt<|rt<|eu 22 l.size bM (.int .i64 (((ae aE dir (b.getD 0 0) (b.drop 1))).2))<|?_
 have hs:fW dir b=(ae aE dir (b.getD 0 0) (b.drop 1)):=by
   unfold fW
   (try simp only[f,g,j,x,h,bs,if_true,if_false,decide_true,decide_false,f5,reduceIte])
   all_goals rfl
 rw[← fe]
 refine ga hs ?_
 exact⟨_,rfl,(cP.upd l (uz M aZ) (ak (aM (ub e d) (by decide)) aG)),(ud a7 aZ u)⟩
theorem qf{m:Md}{v:Value}{b:List Int}{w:World}{dir:Int}(h:aT m w v b)(hb:b.length≤1048576) : Calls Tryz.prog 25 #[.int .i64 dir,v] w (dk v b (cZ dir b) w):=by
  obtain⟨A,cp,rfl,_,_⟩:=h.shape
  exact oE h hb
open Go.RowKit
def jR (v0:Value)(b:List Int)(res:d7 × Int)(w:World)(e:Ending)(w':World) : Prop:=∃ x,e = .returned (.tuple #[.agg (fD res.1.unit res.1.tid res.1.msg x),.int .i64 res.2])∧(cP v0 b w' (gF res.1.msg x).toList res.1.msg∧(0≤res.1.unit∧res.1.unit<256)∧(0≤res.1.tid∧res.1.tid<65536))∧aD [] w w'
theorem ex{x y:d7 × Int}(h:x=y){w:World}{e:Ending}{w':World}{v0:Value}{b:List Int}(k:jR v0 b y w e w') : jR v0 b x w e w':=by rw[h];exact k
def zw:SL:=⟨none,0,none,0,none,0,none,0,none,0⟩
theorem dL{v0:Value}{b:List Int}{x:Int}{w W:World}(hu:aD [] w W) : jR v0 b (d7.zero,x) w (.returned (.tuple #[.agg jc,.int .i64 x])) W:=⟨zw,(by kernel_rfl),⟨cP.zero v0 b W,(show(0:Int)≤0∧(0:Int)<256 from by decide),(show(0:Int)≤0∧(0:Int)<65536 from by decide)⟩,hu⟩
theorem gn{m:Md}{v:Value}{b:List Int}{w:World}{dir:Int}{M:aQ}{E:Int}(hX:cZ dir b=(M,E))(h:aT m w v b)(hb:b.length≤1048576) : Calls Tryz.prog 25 #[.int .i64 dir,v] w (fun e w'=>∃ x,e = .returned (.tuple #[.agg (gF M x),.int .i64 E])∧cP v b w' (gF M x).toList M∧aD [] w w'):=by
  refine(qf h hb).mono ?_
  rintro e w' ⟨cs,rfl,h1,h2⟩
  rw[hX] at h1 ⊢
  obtain⟨x,rfl⟩:=jZ (h1.rd (aT.old h h2))
  exact⟨x,rfl,h1,h2⟩
end Go.Proofs.YtogbnemojakcpaaGreat
namespace Go.Proofs.YtogbnemojakcpaaGreat
theorem qU(a b k:Nat) : (a ^^^ b)/2 ^ k=(a/2 ^ k) ^^^ (b/2 ^ k):=by
  rw[← Nat.shiftRight_eq_div_pow,Nat.shiftRight_xor_distrib,Nat.shiftRight_eq_div_pow,Nat.shiftRight_eq_div_pow]
theorem u0(x z:Nat) : iL (x ^^^ 2*z)=iL x ^^^ z:=by
  unfold iL
  have h1:(x ^^^ 2*z)/2=(x/2) ^^^ z:=by
    have:=qU x (2*z) 1
    rw[show(2:Nat) ^ 1=2 from rfl] at this
    rw[this,show 2*z/2=z from by omega]
  have h2:(x ^^^ 2*z)%2=x%2:=by
    have:=Nat.xor_mod_two_pow (a:=x) (b:=2*z) (n:=1)
    rw[show(2:Nat) ^ 1=2 from rfl] at this
    rw[this,show 2*z%2=0 from by omega,Nat.xor_zero]
  rw[h1,h2,Nat.xor_assoc,Nat.xor_comm z,← Nat.xor_assoc]
theorem nA(x:Nat) : ∀ (k h:Nat),fa k (x ^^^ 2 ^ k*h)=fa k x ^^^ h
  | 0,h=>by show x ^^^ 2 ^ 0*h=x ^^^ h;rw[Nat.pow_zero,Nat.one_mul]
  | k+1,h=>by
    show iL (fa k (x ^^^ 2 ^ (k+1)*h))=iL (fa k x) ^^^ h
    rw[Nat.pow_succ,Nat.mul_assoc,nA x k (2*h),u0]
theorem ti(s:Nat) : (s%256) ^^^ (2 ^ 8*(s/256))=s:=by
  have h1:=Nat.xor_mod_two_pow (a:=s%256) (b:=2 ^ 8*(s/256)) (n:=8)
  have h2:=qU (s%256) (2 ^ 8*(s/256)) 8
  rw[show(2:Nat) ^ 8=256 from rfl] at *
  rw[show 256*(s/256)%256=0 from by omega,Nat.xor_zero] at h1
  rw[show s%256/256=0 from by omega,Nat.zero_xor] at h2
  omega
theorem pC(s c:Nat) : fa 8 (s ^^^ c)=qC s c:=by
  have h:=nA ((s%256) ^^^ c) 8 (s/256)
  rw[Nat.xor_assoc,Nat.xor_comm c,← Nat.xor_assoc,ti] at h
  rw[h,Nat.xor_comm]
  rfl
theorem oz{n:Nat}(hn:n<65536) : (if n%2=1 then (n/2) ^^^ 40961 else n/2)=iL n:=by
  unfold iL
  split
  · rename_i h;rw[h]
  · rename_i h;rw[show n%2=0 from by omega,Nat.zero_mul,Nat.xor_zero]
open Go.RowKit
theorem tC{c:Int}{n:Nat}(h:c=(n:Int))(hn:n<65536)(q:(c%2==1)=true) : xi (c/2) 40961=((iL n:Nat) : Int):=by
  have q2:c%2=1:=by simpa using q
  rw[← oz hn,if_pos (by omega)]
  unfold xi
  rw[show(c/2).toNat=n/2 from by omega]
  rfl
theorem tG{c:Int}{n:Nat}(h:c=(n:Int))(hn:n<65536)(q:(c%2==1)=false) : c/2=((iL n:Nat) : Int):=by
  have q2:¬ c%2=1:=by simpa using q
  rw[← oz hn,if_neg (by omega)]
  omega
theorem qY{s:Int}{b:List Int}{i:Nat}(hs:0≤dN s b i∧dN s b i<65536)(hb:0≤b.getD i 0∧b.getD i 0<256){c:Int}(h:c=((fa 8 ((dN s b i).toNat ^^^ (b.getD i 0).toNat) : Nat) : Int)) : c=dN s b (i+1):=by
  rw[h,pC,← nI hs hb]
  rfl
theorem vc{a c:Int}(ha:0≤a∧a<65536)(hc:0≤c∧c<256) : a.toNat ^^^ c.toNat<65536:=jS (by omega) (by omega)
theorem ru{l:List Int}{i:Nat}(h:i<l.length) : l.getD i 0∈l:=by
  rw[List.getD_eq_getElem?_getD,List.getElem?_eq_getElem h]
  exact List.getElem_mem h
theorem xe{m:Md}{A:Option Addr}{cp:Nat}{b:List Int}{w:World}{s:Int}(hsl:aT m w (.slice A b.length cp) b)(hs:0≤s∧s<65536) :
    Calls Tryz.prog 179 #[.int .u16 s,.slice A b.length cp] w (bP (.int .u16 (cW s b)) w):=by
 have hln:=aK.len hsl
 have hb:=aT.range hsl
 refine en 34 Tryz.func179 rfl<|sg<|Pl 1<|nt<|sq<|sg<|Pl 1<|nt<|bk<|?_
 refine hY (fun x=>[(0,.int .u16 x.2),(1,.slice A b.length cp),(4,.int .u16 0),(5,.int .i64 ((x.1:Nat) : Int))]) (fun(x:Nat × Int) w'=>aD [] w w'∧(x.1≤b.length)∧(x.2=dN s b x.1)∧(0≤x.2∧x.2<65536)) (fun x=>b.length-x.1) (0,s) ⟨aD.refl _ _,(by(try dsimp only);omega),rfl,hs⟩ ?_
 rintro⟨i,c⟩ r ⟨f,t,u,y⟩
 refine i1 [(0,.int .u16 c),(1,.slice A b.length cp),(4,.int .u16 0),(5,.int .i64 ((i:Nat) : Int))] ?_
 have H:i≤b.length:=t
 have q:c=dN s b i:=u
 have I:0≤c∧c<65536:=y
 have hcr:0≤dN s b i∧dN s b i<65536:=iT hs hb _
 refine sq<|sg<|Pl 4<|nt<|cb ((decide (((i:Nat) : Int)<((b.length:Nat) : Int)))) (fun g=>?_) (fun g=>?_)
 have z:=of_decide_eq_true g
 refine bi<|sq<|bk<|sg<|Pl 3<|?_
 refine eJ (aT.at_ (aT.old hsl f) i (by omega)) fun h j B C J=>L0<|iZ b.length i B (by omega)<|L0<|dY (p:=⟨h,j+i,none⟩) (v:=.int .u8 (b.getD i 0)) C<|L0<|xo (b.getD i 0)<|?_
 have K:=xX (a:=c) (b:=(b.getD i 0)) (by omega) (by omega)
 refine L0<|Oe (.int .u16 (bits .xor .u16 c (b.getD i 0))) (.int .u16 (xi c (b.getD i 0))) (congrArg (Value.int .u16) (nh (by omega) (by omega)))<|Pl 1<|ng<|Pl 1<|nt<|bk<|?_
 have hbr:0≤b.getD i 0∧b.getD i 0<256:=hb _ (ru (by omega))
 have hxl:=vc hcr hbr
 refine hY (fun x=>[(0,.int .u16 x.2),(1,.slice A b.length cp),(4,.int .u16 0),(5,.int .i64 ((i:Nat) : Int)),(6,.int .i64 ((x.1:Nat) : Int)),(8,.int .i64 ((i:Nat) : Int)),(9,.slice A b.length cp),(10,.int .i64 ((b.length:Nat) : Int)),(11,.bool (decide (((i:Nat) : Int)<((b.length:Nat) : Int)))),(14,.int .u16 c),(15,.slice A b.length cp),(16,.int .i64 ((i:Nat) : Int)),(17,.pointer (some (⟨h,j+i,none⟩))),(18,.int .u8 (b.getD i 0)),(19,.int .u16 (b.getD i 0)),(20,.int .u16 (xi c (b.getD i 0)))]) (fun(x:Nat × Int) w'=>aD [] r w'∧(x.1≤8)∧(x.2=((fa x.1 ((dN s b i).toNat ^^^ (b.getD i 0).toNat) : Nat) : Int))) (fun x=>8-x.1) (0,(xi c (b.getD i 0))) ⟨aD.refl _ _,(by(try dsimp only);omega),(by(try dsimp only);rw[q];rfl)⟩ ?_
 rintro⟨k,d⟩ L ⟨l,D,E⟩
 refine i1 [(0,.int .u16 d),(1,.slice A b.length cp),(4,.int .u16 0),(5,.int .i64 ((i:Nat) : Int)),(6,.int .i64 ((k:Nat) : Int)),(8,.int .i64 ((i:Nat) : Int)),(9,.slice A b.length cp),(10,.int .i64 ((b.length:Nat) : Int)),(11,.bool (decide (((i:Nat) : Int)<((b.length:Nat) : Int)))),(14,.int .u16 c),(15,.slice A b.length cp),(16,.int .i64 ((i:Nat) : Int)),(17,.pointer (some (⟨h,j+i,none⟩))),(18,.int .u8 (b.getD i 0)),(19,.int .u16 (b.getD i 0)),(20,.int .u16 (xi c (b.getD i 0)))] ?_
 have M:k≤8:=D
 have n:d=((fa k ((dN s b i).toNat ^^^ (b.getD i 0).toNat) : Nat) : Int):=E
 have hkl:=gS hxl k
 refine sq<|sg<|Pl 2<|nt<|?_
 refine cb ((decide (((k:Nat) : Int)<8))) (fun o=>?_) (fun o=>?_)
 have F:=of_decide_eq_true o
 refine bi<|sq<|bk<|sg<|Pl 1<|L0<|Oe (.int .u16 (Int.tmod d 2)) (.int .u16 (d%2)) (congrArg (Value.int .u16) (Int.tmod_eq_emod_of_nonneg (by omega)))<|Pl 2<|ng<|Pl 1<|L0<|Oe (.int .u16 (IntKind.u16.wrap (Int.tdiv d 2))) (.int .u16 (d/2)) (congrArg (Value.int .u16) (qj (by omega) (by omega)))<|?_
 refine Pl 1<|ng<|Pl 1<|nt<|cb (((d%2)==1)) (fun e=>?_) (fun e=>?_)
 have G:=al e
 refine go<|Pl 1<|?_
 have N:=xX (a:=(d/2)) (b:=40961) (by omega) (by omega)
 exact L0<|Oe (.int .u16 (bits .xor .u16 (d/2) 40961)) (.int .u16 (xi (d/2) 40961)) (congrArg (Value.int .u16) (nh (by omega) (by omega)))<|Pl 1<|nl<|bn<|tn<|go<|Pl 1<|L0<|Oi (((k:Nat) : Int)+1)<|Pl 1<|nl<|fF ((k+1),(xi (d/2) 40961)) ⟨l,(by(try dsimp only);omega),(tC n (gS hxl k) e)⟩ (by omega)
 have G:=ap e
 exact sk<|bn<|tn<|go<|Pl 1<|L0<|Oi (((k:Nat) : Int)+1)<|Pl 1<|nl<|fF ((k+1),(d/2)) ⟨l,(by(try dsimp only);omega),(tG n (gS hxl k) e)⟩ (by omega)
 have F:=of_decide_eq_false o
 refine xt<|tx<|tx<|bx<|bn<|tn<|go<|Pl 1<|L0<|Oi (((i:Nat) : Int)+1)<|Pl 1<|nl<|?_
 have hc8:d=dN s b (i+1):=qY hcr hbr (by rw[n,show k=8 from by omega])
 exact fF ((i+1),d) ⟨(aF f l),(by(try dsimp only);omega),hc8,(by(try dsimp only);rw[hc8];exact iT hs hb _)⟩ (by omega)
 have z:=of_decide_eq_false g
 refine xt<|tx<|tx<|bx<|tn<|sg<|Pl 2<|nt<|rt<|rr (.int .u16 c)<|?_
 have hk:c=cW s b:=by rw[q];exact oN (by omega)
 rw[← hk]
 exact⟨rfl,f⟩
theorem xT{m:Md}{v:Value}{b:List Int}{w:World}(h:aT m w v b) : Calls Tryz.prog 179 #[.int .u16 65535,v] w (bP (.int .u16 (cW 65535 b)) w):=by
  obtain⟨A,cp,rfl,_,_⟩:=h.shape
  exact xe h (by decide)
theorem qI{b:List Int}(h:2≤b.length)(hb:∀ x,x∈b→0≤x∧x<256) : dI b=((b.getD (((b.length:Nat) : Int)-2).toNat 0==(cW 65535 (b.take (((b.length:Nat) : Int)-2).toNat)%256)%256)&&(b.getD (((b.length:Nat) : Int)-1).toNat 0==(cW 65535 (b.take (((b.length:Nat) : Int)-2).toNat)/256)%256)):=by
  unfold dI cQ
  rw[decide_eq_true h,Bool.true_and,show(((b.length:Nat) : Int)-2).toNat=b.length-2 from by omega,show(((b.length:Nat) : Int)-1).toNat=b.length-2+1 from by omega]
  have e:b.drop (b.length-2)=[b.getD (b.length-2) 0,b.getD (b.length-2+1) 0]:=by
    apply List.ext_getElem
    · simp;omega
    · intro i h1 h2
      simp only[List.length_cons,List.length_nil] at h2
      rw[List.getElem_drop]
      rcases i with _|_|i
      · simp[List.getD_eq_getElem?_getD,List.getElem?_eq_getElem (show b.length-2<b.length by omega)]
      · simp[List.getD_eq_getElem?_getD,List.getElem?_eq_getElem (show b.length-2+1<b.length by omega)]
      · omega
  rw[e,Bool.eq_iff_iff]
  simp only[decide_eq_true_eq,List.cons.injEq,and_true,Bool.and_eq_true,beq_iff_eq]
  constructor
  · rintro⟨h1,h2⟩
    exact⟨by rw[← h1];omega,by rw[← h2]⟩
  · rintro⟨h1,h2⟩
    exact⟨by rw[h1];omega,by rw[h2]⟩
theorem yV{m:Md}{A:Option Addr}{cp:Nat}{b:List Int}{w:World}(hsl:aT m w (.slice A b.length cp) b)(hl:b.length≤1048576)(hcp:b.length≤cp) :
    Calls Tryz.prog 117 #[.slice A b.length cp] w (bP (.bool (dI b)) w):=by
 have hln:=aK.len hsl
 have hb:=aT.range hsl
 refine en 34 Tryz.func117 rfl<|sg<|Pl 1<|ng<|Pl 3<|nt<|sq<|sg<|?_
 refine Pl 2<|nt<|cb ((decide (((b.length:Nat) : Int)<2))) (fun a=>?_) (fun a=>?_)
 have i:=of_decide_eq_true a
 refine sg<|Pl 1<|nt<|rt<|tr<|rr (.bool false)<|?_
 have hs:dI b=false:=by unfold dI;rw[decide_eq_false (by omega)];rfl
 rw[hs]
 exact⟨rfl,(aD.refl [] _)⟩
 have i:=of_decide_eq_false a
 refine bi<|sg<|Pl 2<|L0<|Oi (((b.length:Nat) : Int)-2)<|jW (wy (P:=Tryz.prog) 22 5 1 Tryz.underlying22 rfl rfl A b.length cp (k:=(((b.length:Nat) : Int)-2)) (((((b.length:Nat) : Int)-2)).toNat) (by omega) (by omega) (by omega)) fun f hrun12 g=>L0<|g9 (.slice f (((((b.length:Nat) : Int)-2)).toNat) cp) (nB (kl:=.i64) (k:=(((b.length:Nat) : Int)-2)) (A:=A) (n:=b.length) (c:=cp) rfl Tryz.underlying22 (by kernel_rfl) (by kernel_rfl) (hrun12 _ _))<|L0<|Oc (args:=#[.int .u16 65535,.slice f (((((b.length:Nat) : Int)-2)).toNat) cp])<|m1 (xT (g _ _ _ _ _ hsl)) fun z e=>?_
 have B:=iD (b.take (((((b.length:Nat) : Int)-2)).toNat)) (s:=65535) (by decide) (aT.range (g _ _ _ _ _ hsl))
 refine Pl 1<|ng<|Pl 2<|L0<|Oi (((b.length:Nat) : Int)-2)<|?_
 have h:=aT.old hsl e
 refine eJ (aT.at_ h (((((b.length:Nat) : Int)-2)).toNat) (by omega)) fun j l o q C=>L0<|sA b.length (((((b.length:Nat) : Int)-2)).toNat) (((b.length:Nat) : Int)-2) (by omega) o (by omega)<|L0<|dY (p:=⟨j,l+(((((b.length:Nat) : Int)-2)).toNat),none⟩) (v:=.int .u8 (b.getD (((((b.length:Nat) : Int)-2)).toNat) 0)) q<|Pl 1<|L0<|Oe (.int .u16 (Int.tmod (cW 65535 (b.take (((((b.length:Nat) : Int)-2)).toNat))) 256)) (.int .u16 ((cW 65535 (b.take (((((b.length:Nat) : Int)-2)).toNat)))%256)) (congrArg (Value.int .u16) (Int.tmod_eq_emod_of_nonneg (by omega)))<|Pl 3<|bl 23 (((b.getD (((((b.length:Nat) : Int)-2)).toNat) 0)==(((cW 65535 (b.take (((((b.length:Nat) : Int)-2)).toNat)))%256)%256))) (fun d=>?_) (fun d=>?_)
 have r:=al d
 refine Pl 2<|L1<|Oi (((b.length:Nat) : Int)-1)<|eJ (aT.at_ h (((((b.length:Nat) : Int)-1)).toNat) (by omega)) fun t u x y D=>L1<|sA b.length (((((b.length:Nat) : Int)-1)).toNat) (((b.length:Nat) : Int)-1) (by omega) x (by omega)<|L1<|dY (p:=⟨t,u+(((((b.length:Nat) : Int)-1)).toNat),none⟩) (v:=.int .u8 (b.getD (((((b.length:Nat) : Int)-1)).toNat) 0)) y<|Pl 1<|L1<|Oe (.int .u16 (IntKind.u16.wrap (Int.tdiv (cW 65535 (b.take (((((b.length:Nat) : Int)-2)).toNat))) 256))) (.int .u16 ((cW 65535 (b.take (((((b.length:Nat) : Int)-2)).toNat)))/256)) (congrArg (Value.int .u16) (qj (by omega) (by omega)))<|Pl 4<|nt<|rt<|rr (.bool ((b.getD (((((b.length:Nat) : Int)-1)).toNat) 0)==(((cW 65535 (b.take (((((b.length:Nat) : Int)-2)).toNat)))/256)%256)))<|?_
 have hs:dI b=((b.getD (((((b.length:Nat) : Int)-1)).toNat) 0)==(((cW 65535 (b.take (((((b.length:Nat) : Int)-2)).toNat)))/256)%256)):=by rw[qI (by omega) hb];(try simp only[a,d,bs,if_true,if_false,decide_true,decide_false]);all_goals rfl
 rw[hs]
 exact⟨rfl,e⟩
 have r:=ap d
 refine Pl 11<|nt<|rt<|rr (.bool false)<|?_
 have hs:dI b=false:=by rw[qI (by omega) hb];(try simp only[a,d,bs,if_true,if_false,decide_true,decide_false]);all_goals rfl
 rw[hs]
 exact⟨rfl,e⟩
theorem zz{m:Md}{v:Value}{b:List Int}{w:World}(h:aT m w v b)(hb:b.length≤1048576) : Calls Tryz.prog 117 #[v] w (bP (.bool (dI b)) w):=by
  obtain⟨A,cp,rfl,hc,_⟩:=h.shape
  exact yV h hb hc
open Go.RowKit
theorem oc{m:Md}{A:Option Addr}{cp:Nat}{b:List Int}{w:World}{dir:Int}(hsl:aT m w (.slice A b.length cp) b)(hb:b.length≤1048576)(hcp:b.length≤cp) :
    Calls Tryz.prog 51 #[.int .i64 dir,.slice A b.length cp] w (jR (.slice A b.length cp) b (dW dir b) w):=by
 have hln:(b.length:Int)≤1048576:=by omega
 have hrb:=aT.range hsl
 refine en 49 Tryz.func51 rfl<|sg<|L0<|bE #[.int .u8 0,.int .u16 0,.int .u8 0,.int .u8 0,.int .u16 0,.int .u16 0,.int .u16 0,.int .u16 0,.int .u16 0,.int .u16 0,.int .u16 0,.int .u16 0,.int .u16 0,.int .u16 0,.slice none 0 0,.slice none 0 0,.slice none 0 0,.slice none 0 0,.int .u8 0,.int .u8 0,.int .u8 0,.int .u8 0,.int .u8 0,.slice none 0 0] fun av ax j e o=>Pl 1<|ng<|Pl 3<|nt<|sq<|sq<|?_
 refine go<|Pl 3<|cu 3 [14] 17 (((dir != 0)&&(dir != 1))) (fun K C=>?_) ?_
 refine bl 14 ((dir != 0)) (fun p=>?_) (fun p=>?_)
 have V:=aq p
 exact Pl 3<|ce C (dir != 1) (by rw[p];rfl)
 have V:=ai p
 exact Pl 3<|ce C false (by rw[p];rfl)
 refine nt<|cb (((dir != 0)&&(dir != 1))) (fun d=>?_) (fun d=>?_)
 have D:=(aR d).1
 have E:=(aR d).2
 have ay:=aq D
 have az:=aq E
 refine sg<|Pl 1<|L0<|aW e #[.int .u8 0,.int .u16 0,.int .u8 0,.int .u8 0,.int .u16 0,.int .u16 0,.int .u16 0,.int .u16 0,.int .u16 0,.int .u16 0,.int .u16 0,.int .u16 0,.int .u16 0,.int .u16 0,.slice none 0 0,.slice none 0 0,.slice none 0 0,.slice none 0 0,.int .u8 0,.int .u8 0,.int .u8 0,.int .u8 0,.int .u8 0,.slice none 0 0] fun aA W X=>Pl 1<|nt<|rt<|tr<|bz W (.int .i64 1)<|?_
 have hs:dW dir b=(d7.zero,1):=by
   unfold dW
   (try simp only[d,D,E,bs,if_true,if_false,decide_true,decide_false,bY,reduceIte])
   all_goals rfl
 refine ex hs ?_
 exact dL (ud o X j)
 refine bi<|sq<|sg<|Pl 2<|nt<|cb ((decide (((b.length:Nat) : Int)<4))) (fun f=>?_) (fun f=>?_)
 have Y:=of_decide_eq_true f
 refine sg<|Pl 1<|L0<|aW e #[.int .u8 0,.int .u16 0,.int .u8 0,.int .u8 0,.int .u16 0,.int .u16 0,.int .u16 0,.int .u16 0,.int .u16 0,.int .u16 0,.int .u16 0,.int .u16 0,.int .u16 0,.int .u16 0,.slice none 0 0,.slice none 0 0,.slice none 0 0,.slice none 0 0,.int .u8 0,.int .u8 0,.int .u8 0,.int .u8 0,.int .u8 0,.slice none 0 0] fun aC Z a0=>Pl 1<|nt<|rt<|tr<|bz Z (.int .i64 2)<|?_
 have hs:dW dir b=(d7.zero,2):=by
   unfold dW
   (try simp only[d,f,bs,if_true,if_false,decide_true,decide_false,bY,reduceIte])
   all_goals rfl
 refine ex hs ?_
 exact dL (ud o a0 j)
 have Y:=of_decide_eq_false f
 refine bi<|sq<|sg<|Pl 2<|nt<|cb ((decide (256<((b.length:Nat) : Int)))) (fun h=>?_) (fun h=>?_)
 have a1:=of_decide_eq_true h
 refine sg<|Pl 1<|L0<|aW e #[.int .u8 0,.int .u16 0,.int .u8 0,.int .u8 0,.int .u16 0,.int .u16 0,.int .u16 0,.int .u16 0,.int .u16 0,.int .u16 0,.int .u16 0,.int .u16 0,.int .u16 0,.int .u16 0,.slice none 0 0,.slice none 0 0,.slice none 0 0,.slice none 0 0,.int .u8 0,.int .u8 0,.int .u8 0,.int .u8 0,.int .u8 0,.slice none 0 0] fun aD a2 a3=>Pl 1<|nt<|rt<|tr<|bz a2 (.int .i64 3)<|?_
 have hs:dW dir b=(d7.zero,3):=by
   unfold dW
   (try simp only[d,f,h,bs,if_true,if_false,decide_true,decide_false,bY,reduceIte])
   all_goals rfl
 refine ex hs ?_
 exact dL (ud o a3 j)
 have a1:=of_decide_eq_false h
 refine bi<|sg<|Pl 1<|?_
 have F:=aT.old hsl o
 refine L0<|Oc (args:=#[.slice A b.length cp])<|m1 (zz F (by omega)) fun aE i=>Pl 1<|nt<|sq<|sg<|Pl 2<|nt<|?_
 have G:=aF o i
 refine cb ((!(dI b))) (fun k=>?_) (fun k=>?_)
 have t:(dI b)=false:=by simpa using k
 refine sg<|Pl 1<|?_
 refine L0<|aW (ub i e) #[.int .u8 0,.int .u16 0,.int .u8 0,.int .u8 0,.int .u16 0,.int .u16 0,.int .u16 0,.int .u16 0,.int .u16 0,.int .u16 0,.int .u16 0,.int .u16 0,.int .u16 0,.int .u16 0,.slice none 0 0,.slice none 0 0,.slice none 0 0,.slice none 0 0,.int .u8 0,.int .u8 0,.int .u8 0,.int .u8 0,.int .u8 0,.slice none 0 0] fun aH a4 a5=>Pl 1<|nt<|rt<|tr<|bz a4 (.int .i64 10)<|?_
 have hs:dW dir b=(d7.zero,10):=by
   unfold dW
   (try simp only[d,f,h,k,t,bs,if_true,if_false,decide_true,decide_false,bY,reduceIte])
   all_goals rfl
 refine ex hs ?_
 exact dL (ud G a5 j)
 have t:(dI b)=true:=by simpa using k
 refine bi<|sg<|Pl 3<|L0<|Oi (((b.length:Nat) : Int)-2)<|jW (fg (P:=Tryz.prog) 22 5 1 Tryz.underlying22 rfl rfl A b.length cp (lo:=1) (up:=(((b.length:Nat) : Int)-2)) 1 (((((b.length:Nat) : Int)-2)).toNat) (by omega) (by omega) (by omega) (by omega) (by omega)) fun a6 hrun43 H=>L0<|g9 (.slice a6 ((((((b.length:Nat) : Int)-2)).toNat)-1) (cp-1)) (ec (kl:=.i64) (kh:=.i64) (lo:=1) (hi:=(((b.length:Nat) : Int)-2)) (A:=A) (n:=b.length) (c:=cp) rfl Tryz.underlying22 (by kernel_rfl) (by kernel_rfl) (by kernel_rfl) (hrun43 _ _ _))<|?_
 have I:=aT.old F i
 refine pr (cZ dir ((b.take (((((b.length:Nat) : Int)-2)).toNat)).drop 1)) fun a r z=>?_
 refine L0<|Oc<|e2 (gn z (H _ _ _ _ _ I) (by rw[List.length_drop,List.length_take];omega)) fun x49 aI a7 B=>?_
 have a8:=cP.sub a7 (fun m' w' q=>(H _ _ _ _ _ q))
 refine Pl 3<|L0<|bE mZ fun J aJ L a9 aa=>L0<|aW a9 (gF a x49) fun aK ac ae=>Pl 1<|nt<|sq<|sg<|Pl 2<|nt<|?_
 have M:=ud aa ae L
 have u:=aF B M
 have N:=aF G u
 refine cb ((r != 0)) (fun s=>?_) (fun s=>?_)
 have af:=aq s
 refine sg<|Pl 2<|?_
 refine L0<|aW (ub (aF i u) e) #[.int .u8 0,.int .u16 0,.int .u8 0,.int .u8 0,.int .u16 0,.int .u16 0,.int .u16 0,.int .u16 0,.int .u16 0,.int .u16 0,.int .u16 0,.int .u16 0,.int .u16 0,.int .u16 0,.slice none 0 0,.slice none 0 0,.slice none 0 0,.slice none 0 0,.int .u8 0,.int .u8 0,.int .u8 0,.int .u8 0,.int .u8 0,.slice none 0 0] fun aL ag ah=>Pl 1<|nt<|rt<|tr<|bz ag (.int .i64 r)<|?_
 have hX2:cZ dir (gl b)=(a,r):=(congrArg (cZ dir) (gt b)).trans z
 have hs:dW dir b=(d7.zero,r):=by
   unfold dW
   (try simp only[d,f,h,k,t,s,bs,if_true,if_false,decide_true,decide_false,bY,hX2,reduceIte])
   all_goals rfl
 refine ex hs ?_
 exact dL (ud N ah j)
 have af:=ai s
 refine bi<|sq<|?_
 refine eJ (aT.at_ (aT.old I u) 0 (by omega)) fun aj al O an aN=>Rg 8 (fun w'=>w'.cell? ⟨aj,al+0,none⟩=some (.int .u8 (b.getD 0 0))∧w'.heap[J]? = some (.cells (gF a x49) 30 (0,0))) fun aO v=>?_
 have Q:=ub v ac
 refine bg ⟨(uc v an),Q⟩ fun l=>Rt 0 l<|kU 1 l b.length 0 0 rfl O (by omega)<|Rl 2 l (fun _ hs=>hs.1)<|Rt 3 l<|Rr 4 l (.agg (gF a x49)) (fun w' hs=>gM (g:=J) (off:=0) [.int .u8 a.code,.int .u8 a.fail,.int .u16 a.addr,.int .u16 a.count,.int .u16 a.value,.int .u16 a.and_,.int .u16 a.or_,.int .u16 a.addr2,.int .u16 a.sub,.int .u16 a.status,.int .u16 a.events,.int .u16 a.messages,.slice x49.aw a.words.length x49.kw,.slice x49.ab a.bits.length x49.kb,.slice x49.ad a.data.length x49.kd,.slice x49.ar a.recs.length x49.kr,.int .u8 a.mei,.int .u8 a.kind,.int .u8 a.level,.int .u8 a.more,.int .u8 a.next,.slice x49.ao a.objects.length x49.ko] rfl (by kernel_rfl) hs.2 (by kernel_rfl) (by kernel_rfl) rfl)<|Rt 5 l<|?_
 have R:=aF u v
 have S:=aF i R
 refine R0 6 rfl<|aW (ub S e) (fD (b.getD 0 0) 0 a x49) fun aP ap y=>?_
 have T:=uz v y
 have aQ:=uz R y
 have aS:=uz S y
 have U:=ud N T j
 refine bg ⟨(cB (aT.old hsl U) O 0 (by omega)),(aX y (Ne.symm (nb (am e) (le i.size B.size) L)) Q)⟩ fun au=>Rt 7 au<|re<|tn<|rt<|bz ap (.int .i64 0)<|?_
 have hX2:cZ dir (gl b)=(a,r):=(congrArg (cZ dir) (gt b)).trans z
 have hs:dW dir b=(⟨(b.getD 0 0),0,a⟩,0):=by
   unfold dW
   (try simp only[d,f,h,k,t,s,bs,if_true,if_false,decide_true,decide_false,bY,hX2,reduceIte])
   all_goals rfl
 refine ex hs ?_
 exact⟨x49,rfl,⟨(cP.upd a8 (uz M T) (ak (aM (ub (aF i B) e) (by decide)) aG)),b8 (x:=(b.getD 0 0)) (by omega),aB (x:=0) (by omega)⟩,U⟩
theorem qh{m:Md}{v:Value}{b:List Int}{w:World}{dir:Int}(h:aT m w v b)(hb:b.length≤1048576) : Calls Tryz.prog 51 #[.int .i64 dir,v] w (jR v b (dW dir b) w):=by
  obtain⟨A,cp,rfl,hc,_⟩:=h.shape
  exact oc h hb hc
theorem mV{m:Md}{v:Value}{b:List Int}{w:World}{dir:Int}{F:d7}{E:Int}(hX:dW dir b=(F,E))(h:aT m w v b)(hb:b.length≤1048576) : Calls Tryz.prog 51 #[.int .i64 dir,v] w (fun e w'=>∃ x,e = .returned (.tuple #[.agg (fD F.unit F.tid F.msg x),.int .i64 E])∧(cP v b w' (gF F.msg x).toList F.msg∧(0≤F.unit∧F.unit<256)∧(0≤F.tid∧F.tid<65536))∧aD [] w w'):=by
  refine(qh h hb).mono ?_
  rintro e w' ⟨x,rfl,h1,h2⟩
  rw[hX] at h1 ⊢
  exact⟨x,rfl,h1,h2⟩
open Go.RowKit
theorem gW(a c:Int)(t:List Int) : (ah.mk (a :: c :: t) false 0).wordV=a*256+c∧(ah.mk (a :: c :: t) false 0).wordsC 1=⟨t,false,0⟩:=by
  have hb:¬ (ah.mk (a :: c :: t) false 0).wbad 1=true:=by
    unfold ah.wbad
    simp only[Bool.or_eq_true,decide_eq_true_eq,List.length_cons,not_or]
    omega
  have hf:¬ (ah.mk (a :: c :: t) false 0).fails (2*1)=true:=by
    unfold ah.fails
    simp only[Bool.or_eq_true,decide_eq_true_eq,List.length_cons,not_or]
    exact⟨⟨by decide,by decide⟩,by omega⟩
  constructor
  · unfold ah.wordV ah.wordsR ah.bytesR
    rw[if_neg hb,if_neg hf]
    show(cG [a,c]).getD 0 0=_
    unfold cG
    rw[if_pos (by simp)]
    rfl
  · unfold ah.wordsC ah.bytesC
    rw[if_neg hb,if_neg hf]
    rfl
theorem qB(a:Int)(t:List Int) : (ah.mk (a :: t) false 0).byteV=a∧(ah.mk (a :: t) false 0).bytesC 1=⟨t,false,0⟩:=t1 (b:=a :: t) (by simp)
theorem rl(t:List Int) : (ah.mk t false 0).bytesR ((t.length:Nat) : Int)=t:=by
  have hf:¬ (ah.mk t false 0).fails ((t.length:Nat) : Int)=true:=by
    unfold ah.fails
    simp only[Bool.or_eq_true,decide_eq_true_eq,not_or]
    exact⟨⟨by decide,by omega⟩,by omega⟩
  unfold ah.bytesR
  rw[if_neg hf]
  simp
def eE (dir:Int)(b:List Int) : d7 × Int :=
  if dir != 0&&dir != 1 then (d7.zero,1)
  else if decide ((b.length:Int)<8) then (d7.zero,2)
  else if decide (260<(b.length:Int)) then (d7.zero,3)
  else if (b.getD 2 0 != 0)||(b.getD 3 0 != 0) then (d7.zero,13)
  else if ((256*b.getD 4 0)+b.getD 5 0)!=(b.length:Int)-6 then (d7.zero,5)
  else bY (b.getD 6 0) ((((256*b.getD 0 0)%65536)+b.getD 1 0)%65536) (cZ dir (b.drop 7))
theorem eU{dir:Int}{b:List Int}(hr:∀ x,x∈b→0≤x∧x<256) : eE dir b=dH dir b:=by
  unfold eE dH
  split
  · rfl
  split
  · rfl
  rename_i hl
  split
  · rfl
  obtain⟨a0,a1,a2,a3,a4,a5,a6,t,rfl⟩ : ∃ a0 a1 a2 a3 a4 a5 a6 t,b=a0 :: a1 :: a2 :: a3 :: a4 :: a5 :: a6 :: t:=by
    rcases b with _|⟨a0,_|⟨a1,_|⟨a2,_|⟨a3,_|⟨a4,_|⟨a5,_|⟨a6,t⟩⟩⟩⟩⟩⟩⟩
    case cons.cons.cons.cons.cons.cons.cons=>exact⟨_,_,_,_,_,_,_,_,rfl⟩
    all_goals simp at hl
  have h0:=hr a0 (by simp)
  have h1:=hr a1 (by simp)
  have h2:=hr a2 (by simp)
  have h3:=hr a3 (by simp)
  have h4:=hr a4 (by simp)
  have h5:=hr a5 (by simp)
  have e1:uM (a0 :: a1 :: a2 :: a3 :: a4 :: a5 :: a6 :: t)=⟨a2 :: a3 :: a4 :: a5 :: a6 :: t,false,0⟩:=(gW _ _ _).2
  have e2:u6 (a0 :: a1 :: a2 :: a3 :: a4 :: a5 :: a6 :: t)=⟨a4 :: a5 :: a6 :: t,false,0⟩:=by unfold u6;rw[e1];exact(gW _ _ _).2
  have e3:th (a0 :: a1 :: a2 :: a3 :: a4 :: a5 :: a6 :: t)=⟨a6 :: t,false,0⟩:=by unfold th;rw[e2];exact(gW _ _ _).2
  have e4:tN (a0 :: a1 :: a2 :: a3 :: a4 :: a5 :: a6 :: t)=⟨t,false,0⟩:=by unfold tN;rw[e3];exact(qB _ _).2
  have v0:(uJ (a0 :: a1 :: a2 :: a3 :: a4 :: a5 :: a6 :: t)).wordV=a0*256+a1:=(gW _ _ _).1
  unfold nf
  rw[e1,e2,e3,e4,v0,(gW _ _ _).1,(gW _ _ _).1,(qB _ _).1,rl]
  show(if (a2 != 0)||(a3 != 0) then _ else if ((256*a4)+a5)!=_ then _ else bY a6 ((((256*a0)%65536)+a1)%65536) (cZ dir t))=_
  rw[show((a2 != 0)||(a3 != 0))=(a2*256+a3 != 0) from by rw[Bool.eq_iff_iff];simp only[Bool.or_eq_true,bne_iff_ne,ne_eq];omega,show(256*a4)+a5=a4*256+a5 from by omega,show(((256*a0)%65536)+a1)%65536=a0*256+a1 from by omega]
def fx (dir:Int)(b:List Int) : d7 × Int :=
  if dir != 0&&dir != 1 then (d7.zero,1)
  else if decide ((b.length:Int)<9) then (d7.zero,2)
  else if decide (513<(b.length:Int)) then (d7.zero,3)
  else if ((b.getD 0 0 != 58)||(b.getD ((b.length:Int)-2).toNat 0 != 13))||(b.getD ((b.length:Int)-1).toNat 0 != 10) then (d7.zero,12)
  else match bW ((b.take ((b.length:Int)-2).toNat).drop 1) with
    | none=>(d7.zero,11)
    | some x=>if !(ez x) then (d7.zero,10) else bY (x.getD 0 0) 0 (cZ dir ((x.take ((x.length:Int)-1).toNat).drop 1))
theorem ve{b:List Int}(h:3≤b.length) : fO (b.drop 1)=((b.getD ((b.length:Int)-2).toNat 0==13)&&(b.getD ((b.length:Int)-1).toNat 0==10)):=by
  unfold fO
  rw[show((((b.drop 1).length:Nat) : Int)-2).toNat=b.length-3 from by simp only[List.length_drop];omega,List.drop_drop,show 1+(b.length-3)=b.length-2 from by omega,show((b.length:Int)-2).toNat=b.length-2 from by omega,show((b.length:Int)-1).toNat=b.length-2+1 from by omega,decide_eq_true (show 2≤(((b.drop 1).length:Nat) : Int) from by simp only[List.length_drop];omega),Bool.true_and]
  have e:b.drop (b.length-2)=[b.getD (b.length-2) 0,b.getD (b.length-2+1) 0]:=by
    apply List.ext_getElem
    · simp;omega
    · intro i h1 h2
      simp only[List.length_cons,List.length_nil] at h2
      rw[List.getElem_drop]
      rcases i with _|_|i
      · simp[List.getD_eq_getElem?_getD,List.getElem?_eq_getElem (show b.length-2<b.length by omega)]
      · simp[List.getD_eq_getElem?_getD,List.getElem?_eq_getElem (show b.length-2+1<b.length by omega)]
      · omega
  rw[e,Bool.eq_iff_iff]
  simp only[decide_eq_true_eq,List.cons.injEq,and_true,Bool.and_eq_true,beq_iff_eq]
theorem eP{dir:Int}{b:List Int}:fx dir b=eD dir b:=by
  unfold fx eD
  split
  · rfl
  split
  · rfl
  rename_i hl
  have hl:9≤b.length:=by
    have:=of_decide_eq_false (by simpa using hl:decide ((b.length:Int)<9)=false)
    omega
  split
  · rfl
  have h2:=ve (b:=b) (by omega)
  by_cases hc:(((b.getD 0 0 != 58)||(b.getD ((b.length:Int)-2).toNat 0 != 13))||(b.getD ((b.length:Int)-1).toNat 0 != 10))=true
  · rw[if_pos hc]
    have hd:gE b=none:=by
      unfold gE
      rw[if_neg]
      rintro⟨k1,k2⟩
      rw[h2] at k2
      simp only[Bool.or_eq_true,bne_iff_ne,ne_eq,Bool.and_eq_true,beq_iff_eq] at hc k2
      rcases hc with(hc|hc) | hc
      · exact hc k1
      · exact hc k2.1
      · exact hc k2.2
    rw[hd]
  · rw[if_neg hc]
    simp only[Bool.or_eq_true,bne_iff_ne,ne_eq,not_or,Decidable.not_not] at hc
    have hd:gE b=some ((b.take ((b.length:Int)-2).toNat).drop 1):=by
      unfold gE
      rw[if_pos ⟨hc.1.1,by rw[h2,hc.1.2,hc.2];rfl⟩,List.drop_take,show((b.length:Int)-2).toNat-1=b.length-3 from by omega]
    rw[hd]
    dsimp only
    cases bW ((b.take ((b.length:Int)-2).toNat).drop 1) with
    | none=>rfl
    | some x=>dsimp only;rw[ik]
open Go.RowKit
theorem lh.old{base:Nat}{w w':World}{v:Value}{xs:List Int}(h:lh base w v xs)(hu:aD [] w w') : lh base w' v xs:=by
  obtain⟨g,cap,cur,n,h1,h2,h3,h4⟩:=h
  exact⟨g,cap,cur,n,h1,h2,hu.blk (by simp) h3,h4⟩
section
variable {P:Program}{n:Nat}{D:List Deferred}{F:Fr}{w:World}{K:Fr→World→Prop}{Q:Exit→Act→World→Prop}{d:Option Tmp}{t:TypeId}{s:String}{af:Array Edge}{gu:Option (Nat × Bool)}
end
open Go.RowKit
theorem tW{w:World}{c:Int}(hc:0≤c∧c<256) : Calls Tryz.prog 185 #[.int .u8 c] w (bP (.int .i64 (bO c)) w):=by
 refine en 23 Tryz.func185 rfl<|sg<|Pl 1<|nt<|sq<|bk<|sg<|Pl 3<|cu 3 [6] 9 (((decide (48≤c))&&(decide (c≤57)))) (fun K f=>?_) ?_
 refine bl 6 ((decide (48≤c))) (fun a=>?_) (fun a=>?_)
 have h:=of_decide_eq_true a
 exact Pl 3<|ce f (decide (c≤57)) (by rw[a];rfl)
 have h:=of_decide_eq_false a
 exact Pl 3<|ce f false (by rw[a];rfl)
 refine Pl 1<|nt<|cb (((decide (48≤c))&&(decide (c≤57)))) (fun d=>?_) (fun d=>?_)
 have i:=(aR d).1
 have j:=(aR d).2
 have n:=of_decide_eq_true i
 have o:=of_decide_eq_true j
 refine sg<|Pl 1<|L0<|Oi c<|L0<|Oi (c-48)<|Pl 1<|nt<|rt<|br<|tr<|rr (.int .i64 (c-48))<|?_
 have hs:bO c=(c-48):=by unfold bO;(try simp only[Bool.and_eq_true,decide_eq_true_eq,Bool.and_eq_false_iff,decide_eq_false_iff_not] at *);(repeat' split)<;>omega
 rw[hs]
 exact⟨rfl,(aD.refl [] _)⟩
 refine sg<|Pl 3<|cu 3 [16] 19 (((decide (65≤c))&&(decide (c≤70)))) (fun K g=>?_) ?_
 refine bl 16 ((decide (65≤c))) (fun b=>?_) (fun b=>?_)
 have k:=of_decide_eq_true b
 exact Pl 3<|ce g (decide (c≤70)) (by rw[b];rfl)
 have k:=of_decide_eq_false b
 exact Pl 3<|ce g false (by rw[b];rfl)
 refine Pl 1<|nt<|cb (((decide (65≤c))&&(decide (c≤70)))) (fun e=>?_) (fun e=>?_)
 have l:=(aR e).1
 have m:=(aR e).2
 have p:=of_decide_eq_true l
 have q:=of_decide_eq_true m
 refine sg<|Pl 1<|L0<|Oi c<|L0<|Oi (c-55)<|Pl 1<|nt<|rt<|br<|tr<|rr (.int .i64 (c-55))<|?_
 have hs:bO c=(c-55):=by unfold bO;(try simp only[Bool.and_eq_true,decide_eq_true_eq,Bool.and_eq_false_iff,decide_eq_false_iff_not] at *);(repeat' split)<;>omega
 rw[hs]
 exact⟨rfl,(aD.refl [] _)⟩
 refine sk<|bn<|tn<|sg<|Pl 1<|nt<|rt<|rr (.int .i64 (-1))<|?_
 have hs:bO c = -1:=by unfold bO;(try simp only[Bool.and_eq_true,decide_eq_true_eq,Bool.and_eq_false_iff,decide_eq_false_iff_not] at *);(repeat' split)<;>omega
 rw[hs]
 exact⟨rfl,(aD.refl [] _)⟩
theorem qn(c:Int) : -1≤bO c:=by
  unfold bO
  (repeat' split)<;>omega
theorem tg{xs:List Int}{w:World}(hr:eS xs)(hl:xs.length≤1048576) :
    Calls Tryz.prog 125 #[.string (strOfNums xs)] w (fL xs w):=by
 refine en 43 Tryz.func125 rfl<|sg<|Pl 2<|nt<|sq<|sg<|Pl 1<|L0<|Oe (.int .i64 (((strOfNums xs).size:Nat) : Int)) (.int .i64 ((xs.length:Nat) : Int)) (by rw[strOfNums_size])<|L0<|Oe (.int .i64 (Int.tmod ((xs.length:Nat) : Int) 2)) (.int .i64 (((xs.length:Nat) : Int)%2)) (congrArg (Value.int .i64) (Int.tmod_eq_emod_of_nonneg (by omega)))<|Pl 1<|nl<|?_
 refine tn<|cb (((((xs.length:Nat) : Int)%2)==1)) (fun d=>?_) (fun d=>?_)
 have v:=al d
 refine sg<|Pl 2<|nt<|rt<|tr<|rr (.tuple #[.slice none 0 0,.int .i64 11])<|?_
 have hs:bW xs=none:=jb (by omega)
 exact jJ hs ⟨rfl,(aD.refl [] _)⟩
 have v:=ap d
 refine bi<|sg<|Pl 1<|nt<|sq<|sg<|Pl 1<|nt<|bk<|?_
 refine hY (fun x=>[(0,.string (strOfNums xs)),(4,.slice x.2.2.1 x.2.1.length x.2.2.2),(5,.int .i64 ((2*x.1:Nat) : Int))]) (fun(x:Nat × List Int × Option Addr × Nat) w'=>aD [] w w'∧eq w.heap.size w' (.slice x.2.2.1 x.2.1.length x.2.2.2) x.2.1∧(2*x.1≤xs.length)∧(bW xs=(bW (xs.drop (2*x.1))).map fun l=>x.2.1++l)∧(x.2.1.length=x.1)) (fun x=>xs.length-2*x.1) (0,[],none,0) ⟨aD.refl _ _,(be.nil w.heap.size _ _ u7 _),(by(try dsimp only);omega),(by(try dsimp only);simp),(by(try dsimp only);rfl)⟩ ?_
 rintro⟨k,L,B,cq⟩ y ⟨f,z,A,C,D⟩
 refine i1 [(0,.string (strOfNums xs)),(4,.slice B L.length cq),(5,.int .i64 ((2*k:Nat) : Int))] ?_
 have g:eq w.heap.size y (.slice B L.length cq) L:=z
 have R:2*k≤xs.length:=A
 have S:bW xs=(bW (xs.drop (2*k))).map fun l=>L++l:=C
 have T:L.length=k:=D
 have hL:bW xs=(bW (xs.drop (2*k))).map fun l=>L++l:=by assumption
 refine sq<|sg<|Pl 1<|L0<|Oi (((2*k:Nat) : Int)+1)<|Pl 1<|L0<|Oe (.int .i64 (((strOfNums xs).size:Nat) : Int)) (.int .i64 ((xs.length:Nat) : Int)) (by rw[strOfNums_size])<|Pl 1<|nt<|cb ((decide ((((2*k:Nat) : Int)+1)<((xs.length:Nat) : Int)))) (fun j=>?_) (fun j=>?_)
 have E:=of_decide_eq_true j
 refine bi<|sq<|bk<|sg<|Pl 2<|L0<|g9 (.int .u8 (xs.getD (2*k) 0)) (iC (xs:=xs) (k:=.i64) (i:=((2*k:Nat) : Int)) (2*k) rfl Tryz.underlying9 (by kernel_rfl) (by kernel_rfl) hr rfl (by omega))<|?_
 have U:=iP (xs.getD (2*k) 0)
 have V:=qn (xs.getD (2*k) 0)
 refine L0<|Oc<|m1 (tW (c:=(xs.getD (2*k) 0)) (w:=_) (ew (by omega) hr _)) fun W o=>Pl 1<|ng<|Pl 2<|L0<|Oi (((2*k:Nat) : Int)+1)<|L0<|g9 (.int .u8 (xs.getD ((((2*k:Nat) : Int)+1)).toNat 0)) (iC (xs:=xs) (k:=.i64) (i:=(((2*k:Nat) : Int)+1)) ((((2*k:Nat) : Int)+1)).toNat rfl Tryz.underlying9 (by kernel_rfl) (by kernel_rfl) hr (by omega) (by omega))<|?_
 have X:=iP (xs.getD ((((2*k:Nat) : Int)+1)).toNat 0)
 have Y:=qn (xs.getD ((((2*k:Nat) : Int)+1)).toNat 0)
 refine L0<|Oc<|m1 (tW (c:=(xs.getD ((((2*k:Nat) : Int)+1)).toNat 0)) (w:=_) (ew (by omega) hr _)) fun Z p=>Pl 1<|nt<|sq<|sg<|Pl 3<|cu 3 [30] 33 ((((bO (xs.getD (2*k) 0))==(-1))||((bO (xs.getD ((((2*k:Nat) : Int)+1)).toNat 0))==(-1)))) (fun K r=>?_) ?_
 refine bl 30 (((bO (xs.getD (2*k) 0))==(-1))) (fun a=>?_) (fun a=>?_)
 have F:=al a
 exact Pl 3<|ce r true (by rw[a];rfl)
 have F:=ap a
 exact Pl 3<|ce r ((bO (xs.getD ((((2*k:Nat) : Int)+1)).toNat 0))==(-1)) (by rw[a];rfl)
 refine nt<|?_
 have s:=aF o p
 have t:=aF f s
 refine cb ((((bO (xs.getD (2*k) 0))==(-1))||((bO (xs.getD ((((2*k:Nat) : Int)+1)).toNat 0))==(-1)))) (fun b=>?_) (fun b=>?_)
 refine sg<|Pl 2<|nt<|rt<|tr<|br<|tr<|tr<|br<|tr<|rr (.tuple #[.slice none 0 0,.int .i64 11])<|?_
 have hs:bW xs=none:=ns (k:=k) hL (by omega) (by have q:=b;simp only[Bool.or_eq_true,beq_iff_eq] at q;rw[show 2*k+1=(((2*k:Nat) : Int)+1).toNat from by omega];omega)
 exact jJ hs ⟨rfl,t⟩
 have G:=(aJ b).1
 have H:=(aJ b).2
 have a0:=ap G
 have a1:=ap H
 refine bi<|go<|Pl 2<|L0<|Oi (16*(bO (xs.getD (2*k) 0)))<|Pl 1<|L0<|Oi ((16*(bO (xs.getD (2*k) 0)))+(bO (xs.getD ((((2*k:Nat) : Int)+1)).toNat 0)))<|Pl 1<|L0<|dD (m:=1) (e:=5) #[.int .u8 (((16*(bO (xs.getD (2*k) 0)))+(bO (xs.getD ((((2*k:Nat) : Int)+1)).toNat 0)))%256)] fun a2 a3 I J n=>?_
 have M:=dR I (xs:=[(((16*(bO (xs.getD (2*k) 0)))+(bO (xs.getD ((((2*k:Nat) : Int)+1)).toNat 0)))%256)]) (by as_aux_lemma=>kernel_rfl) (az (by omega) aZ) (by(try simp only[List.length_cons,List.length_nil]);omega) J
 refine L0<|cR bt (xs:=L) (ys:=([(((16*(bO (xs.getD (2*k) 0)))+(bO (xs.getD ((((2*k:Nat) : Int)+1)).toNat 0)))%256)])) (.int .u8 0) 1 (ax g (aF s n) (fun x hx=>ay) (fun _ _ h=>h)) (M).rd (by(try simp only[List.length_append,List.length_cons,List.length_nil,aC]);omega) (le (le (le f.size o.size) p.size) n.size) fun N O a4 P Q=>Pl 1<|nl<|bn<|tn<|go<|Pl 1<|L0<|Oi (((2*k:Nat) : Int)+2)<|Pl 1<|nl<|?_
 have u:=kN (k:=k) hL (by omega) (by omega) (by rw[show 2*k+1=(((2*k:Nat) : Int)+1).toNat from by omega];omega)
 rw[show 2*k+1=(((2*k:Nat) : Int)+1).toNat from by omega] at u
 exact fF ((k+1),(L++[(((16*(bO (xs.getD (2*k) 0)))+(bO (xs.getD ((((2*k:Nat) : Int)+1)).toNat 0)))%256)]),N,O) ⟨(ut t (ut (aD.mono (S':=(ob B++[])) n au) Q (av il au)) (av (aV g lr) au)),P,(by(try dsimp only);omega),u,(by(try dsimp only);simp only[List.length_append,List.length_cons,List.length_nil];omega)⟩ (by omega)
 have E:=of_decide_eq_false j
 refine xt<|tx<|tx<|bx<|tn<|sg<|Pl 3<|nt<|rt<|rr (.tuple #[.slice B L.length cq,.int .i64 0])<|?_
 have hs:bW xs=some L:=lL hL (by omega)
 exact qt hs ⟨_,rfl,g,f⟩
theorem vY{m:Md}{A:Option Addr}{cp:Nat}{b:List Int}{w:World}(hsl:aT m w (.slice A b.length cp) b) :
    Calls Tryz.prog 186 #[.slice A b.length cp] w (bP (.int .u8 (ia b)) w):=by
 have hln:=aK.len hsl
 have hb:=aT.range hsl
 refine en 23 Tryz.func186 rfl<|sg<|Pl 1<|ng<|Pl 1<|nt<|sq<|sg<|?_
 refine Pl 1<|nt<|bk<|?_
 refine hY (fun x=>[(0,.slice A b.length cp),(2,.int .u8 0),(3,.int .i64 (gw b x)),(4,.int .i64 ((x:Nat) : Int))]) (fun(x:Nat) w'=>aD [] w w'∧(x≤b.length)) (fun x=>b.length-x) 0 ⟨aD.refl _ _,(by(try dsimp only);omega)⟩ ?_
 rintro k j ⟨a,d⟩
 refine i1 [(0,.slice A b.length cp),(2,.int .u8 0),(3,.int .i64 (gw b k)),(4,.int .i64 ((k:Nat) : Int))] ?_
 have l:k≤b.length:=d
 have hlr:=ug b k
 refine sq<|sg<|Pl 4<|nt<|cb ((decide (((k:Nat) : Int)<((b.length:Nat) : Int)))) (fun c=>?_) (fun c=>?_)
 have e:=of_decide_eq_true c
 refine bi<|sq<|bk<|go<|Pl 3<|?_
 refine eJ (aT.at_ (aT.old hsl a) k (by omega)) fun f g h i n=>L0<|iZ b.length k h (by omega)<|L0<|dY (p:=⟨f,g+k,none⟩) (v:=.int .u8 (b.getD k 0)) i<|L0<|Oi (b.getD k 0)<|L0<|Oi ((gw b k)+(b.getD k 0))<|L0<|Oe (.int .i64 (Int.tmod ((gw b k)+(b.getD k 0)) 256)) (.int .i64 (((gw b k)+(b.getD k 0))%256)) (congrArg (Value.int .i64) (Int.tmod_eq_emod_of_nonneg (by omega)))<|Pl 1<|nl<|bn<|tn<|go<|Pl 1<|L0<|Oi (((k:Nat) : Int)+1)<|Pl 1<|nl<|?_
 exact fF (k+1) ⟨a,(by(try dsimp only);omega)⟩ (by omega)
 have e:=of_decide_eq_false c
 refine xt<|tx<|tx<|bx<|tn<|sg<|Pl 1<|L0<|Oi (256-(gw b k))<|L0<|Oe (.int .i64 (Int.tmod (256-(gw b k)) 256)) (.int .i64 ((256-(gw b k))%256)) (congrArg (Value.int .i64) (Int.tmod_eq_emod_of_nonneg (by omega)))<|Pl 2<|nt<|rt<|?_
 refine rr (.int .u8 (((256-(gw b k))%256)%256))<|?_
 have hk:k=b.length:=by omega
 subst hk
 have hs:ia b=(((256-(gw b b.length))%256)%256):=by unfold ia uZ;omega
 rw[hs]
 exact⟨rfl,a⟩
theorem vy{m:Md}{A:Option Addr}{cp:Nat}{b:List Int}{w:World}(hsl:aT m w (.slice A b.length cp) b) :
    Calls Tryz.prog 126 #[.slice A b.length cp] w (bP (.bool (ez b)) w):=by
 have hln:=aK.len hsl
 refine en 9 Tryz.func126 rfl<|sg<|Pl 1<|nt<|sq<|sg<|Pl 3<|nt<|cb ((((b.length:Nat) : Int)==0)) (fun a=>?_) (fun a=>?_)
 have c:=al a
 refine sg<|Pl 1<|nt<|rt<|tr<|rr (.bool false)<|?_
 have hs:ez b=false:=by unfold ez;rw[decide_eq_false (by omega)];rfl
 rw[hs]
 exact⟨rfl,(aD.refl [] _)⟩
 have c:=ap a
 refine bi<|sg<|Pl 1<|L0<|Oc (args:=#[.slice A b.length cp])<|m1 (vY hsl) fun e d=>Pl 2<|nt<|rt<|rr (.bool ((ia b)==0))<|?_
 have hs:ez b=((ia b)==0):=by unfold ez;rw[decide_eq_true (by omega)];rfl
 rw[hs]
 exact⟨rfl,d⟩
open Go.RowKit
theorem nF{m:Md}{A:Option Addr}{cp:Nat}{b:List Int}{w:World}{dir:Int}(hsl:aT m w (.slice A b.length cp) b)(hb:b.length≤1048576)(hcp:b.length≤cp) :
    Calls Tryz.prog 61 #[.int .i64 dir,.slice A b.length cp] w (jO (eD dir b) w):=by
 have hln:(b.length:Int)≤1048576:=by omega
 have hr:eS b:=aT.range hsl
 refine en 86 Tryz.func61 rfl<|sg<|L0<|bE #[.int .u8 0,.int .u16 0,.int .u8 0,.int .u8 0,.int .u16 0,.int .u16 0,.int .u16 0,.int .u16 0,.int .u16 0,.int .u16 0,.int .u16 0,.int .u16 0,.int .u16 0,.int .u16 0,.slice none 0 0,.slice none 0 0,.slice none 0 0,.slice none 0 0,.int .u8 0,.int .u8 0,.int .u8 0,.int .u8 0,.int .u8 0,.slice none 0 0] fun bq S l f q=>Pl 1<|ng<|Pl 3<|nt<|sq<|sq<|?_
 refine go<|Pl 3<|cu 3 [16] 19 (((dir != 0)&&(dir != 1))) (fun K T=>?_) ?_
 refine bl 16 ((dir != 0)) (fun z=>?_) (fun z=>?_)
 have ac:=aq z
 exact Pl 3<|ce T (dir != 1) (by rw[z];rfl)
 have ac:=ai z
 exact Pl 3<|ce T false (by rw[z];rfl)
 refine nt<|cb (((dir != 0)&&(dir != 1))) (fun i=>?_) (fun i=>?_)
 have U:=(aR i).1
 have V:=(aR i).2
 have br:=aq U
 have bt:=aq V
 refine sg<|Pl 1<|L0<|aW f #[.int .u8 0,.int .u16 0,.int .u8 0,.int .u8 0,.int .u16 0,.int .u16 0,.int .u16 0,.int .u16 0,.int .u16 0,.int .u16 0,.int .u16 0,.int .u16 0,.int .u16 0,.int .u16 0,.slice none 0 0,.slice none 0 0,.slice none 0 0,.slice none 0 0,.int .u8 0,.int .u8 0,.int .u8 0,.int .u8 0,.int .u8 0,.slice none 0 0] fun bu ae af=>Pl 1<|nt<|rt<|tr<|bz ae (.int .i64 1)<|?_
 have hs:fx dir b=(d7.zero,1):=by
   unfold fx
   (try simp only[i,U,V,bs,if_true,if_false,decide_true,decide_false,bY,reduceIte])
   all_goals rfl
 rw[← eP]
 refine dh hs ?_
 exact cw (ud q af l)
 refine bi<|sq<|sg<|Pl 2<|nt<|cb ((decide (((b.length:Nat) : Int)<9))) (fun j=>?_) (fun j=>?_)
 have ag:=of_decide_eq_true j
 refine sg<|Pl 1<|L0<|aW f #[.int .u8 0,.int .u16 0,.int .u8 0,.int .u8 0,.int .u16 0,.int .u16 0,.int .u16 0,.int .u16 0,.int .u16 0,.int .u16 0,.int .u16 0,.int .u16 0,.int .u16 0,.int .u16 0,.slice none 0 0,.slice none 0 0,.slice none 0 0,.slice none 0 0,.int .u8 0,.int .u8 0,.int .u8 0,.int .u8 0,.int .u8 0,.slice none 0 0] fun bv ah aj=>Pl 1<|nt<|rt<|tr<|bz ah (.int .i64 2)<|?_
 have hs:fx dir b=(d7.zero,2):=by
   unfold fx
   (try simp only[i,j,bs,if_true,if_false,decide_true,decide_false,bY,reduceIte])
   all_goals rfl
 rw[← eP]
 refine dh hs ?_
 exact cw (ud q aj l)
 have ag:=of_decide_eq_false j
 refine bi<|sq<|sg<|Pl 2<|nt<|cb ((decide (513<((b.length:Nat) : Int)))) (fun k=>?_) (fun k=>?_)
 have al:=of_decide_eq_true k
 refine sg<|Pl 1<|L0<|aW f #[.int .u8 0,.int .u16 0,.int .u8 0,.int .u8 0,.int .u16 0,.int .u16 0,.int .u16 0,.int .u16 0,.int .u16 0,.int .u16 0,.int .u16 0,.int .u16 0,.int .u16 0,.int .u16 0,.slice none 0 0,.slice none 0 0,.slice none 0 0,.slice none 0 0,.int .u8 0,.int .u8 0,.int .u8 0,.int .u8 0,.int .u8 0,.slice none 0 0] fun bw an ap=>Pl 1<|nt<|rt<|tr<|bz an (.int .i64 3)<|?_
 have hs:fx dir b=(d7.zero,3):=by
   unfold fx
   (try simp only[i,j,k,bs,if_true,if_false,decide_true,decide_false,bY,reduceIte])
   all_goals rfl
 rw[← eP]
 refine dh hs ?_
 exact cw (ud q ap l)
 have al:=of_decide_eq_false k
 refine bi<|sq<|sg<|Pl 1<|?_
 have t:=aT.old hsl q
 refine eJ (aT.at_ t 0 (by omega)) fun au av az aC bx=>L0<|iZ b.length 0 az (by omega)<|L0<|dY (p:=⟨au,av+0,none⟩) (v:=.int .u8 (b.getD 0 0)) aC<|Pl 2<|bl 31 (((b.getD 0 0)!=58)) (fun o=>?_) (fun o=>?_)
 have aD:=aq o
 refine Pl 15<|nt<|c1<|sg<|Pl 1<|L0<|aW f #[.int .u8 0,.int .u16 0,.int .u8 0,.int .u8 0,.int .u16 0,.int .u16 0,.int .u16 0,.int .u16 0,.int .u16 0,.int .u16 0,.int .u16 0,.int .u16 0,.int .u16 0,.int .u16 0,.slice none 0 0,.slice none 0 0,.slice none 0 0,.slice none 0 0,.int .u8 0,.int .u8 0,.int .u8 0,.int .u8 0,.int .u8 0,.slice none 0 0] fun bA aE aH=>Pl 1<|nt<|rt<|tr<|bz aE (.int .i64 12)<|?_
 have hs:fx dir b=(d7.zero,12):=by
   unfold fx
   (try simp only[i,j,k,o,bs,if_true,if_false,decide_true,decide_false,bY,reduceIte])
   all_goals rfl
 rw[← eP]
 refine dh hs ?_
 exact cw (ud q aH l)
 have aD:=ai o
 refine Pl 2<|L1<|Oi (((b.length:Nat) : Int)-2)<|eJ (aT.at_ t (((((b.length:Nat) : Int)-2)).toNat) (by omega)) fun aI aJ aK aN bB=>L1<|sA b.length (((((b.length:Nat) : Int)-2)).toNat) (((b.length:Nat) : Int)-2) (by omega) aK (by omega)<|L1<|dY (p:=⟨aI,aJ+(((((b.length:Nat) : Int)-2)).toNat),none⟩) (v:=.int .u8 (b.getD (((((b.length:Nat) : Int)-2)).toNat) 0)) aN<|Pl 3<|bl 39 (((b.getD (((((b.length:Nat) : Int)-2)).toNat) 0)!=13)) (fun r=>?_) (fun r=>?_)
 have aO:=aq r
 refine Pl 7<|nt<|c1<|sg<|Pl 1<|L0<|aW f #[.int .u8 0,.int .u16 0,.int .u8 0,.int .u8 0,.int .u16 0,.int .u16 0,.int .u16 0,.int .u16 0,.int .u16 0,.int .u16 0,.int .u16 0,.int .u16 0,.int .u16 0,.int .u16 0,.slice none 0 0,.slice none 0 0,.slice none 0 0,.slice none 0 0,.int .u8 0,.int .u8 0,.int .u8 0,.int .u8 0,.int .u8 0,.slice none 0 0] fun bC aP aQ=>Pl 1<|nt<|rt<|tr<|bz aP (.int .i64 12)<|?_
 have hs:fx dir b=(d7.zero,12):=by
   unfold fx
   (try simp only[i,j,k,o,r,bs,if_true,if_false,decide_true,decide_false,bY,reduceIte])
   all_goals rfl
 rw[← eP]
 refine dh hs ?_
 exact cw (ud q aQ l)
 have aO:=ai r
 refine Pl 2<|L1<|Oi (((b.length:Nat) : Int)-1)<|eJ (aT.at_ t (((((b.length:Nat) : Int)-1)).toNat) (by omega)) fun aS aU aV aY bD=>L1<|sA b.length (((((b.length:Nat) : Int)-1)).toNat) (((b.length:Nat) : Int)-1) (by omega) aV (by omega)<|L1<|dY (p:=⟨aS,aU+(((((b.length:Nat) : Int)-1)).toNat),none⟩) (v:=.int .u8 (b.getD (((((b.length:Nat) : Int)-1)).toNat) 0)) aY<|Pl 2<|nt<|cb (((b.getD (((((b.length:Nat) : Int)-1)).toNat) 0)!=10)) (fun s=>?_) (fun s=>?_)
 have aZ:=aq s
 refine sg<|Pl 1<|L0<|aW f #[.int .u8 0,.int .u16 0,.int .u8 0,.int .u8 0,.int .u16 0,.int .u16 0,.int .u16 0,.int .u16 0,.int .u16 0,.int .u16 0,.int .u16 0,.int .u16 0,.int .u16 0,.int .u16 0,.slice none 0 0,.slice none 0 0,.slice none 0 0,.slice none 0 0,.int .u8 0,.int .u8 0,.int .u8 0,.int .u8 0,.int .u8 0,.slice none 0 0] fun bF b0 b1=>Pl 1<|nt<|rt<|tr<|bz b0 (.int .i64 12)<|?_
 have hs:fx dir b=(d7.zero,12):=by
   unfold fx
   (try simp only[i,j,k,o,r,s,bs,if_true,if_false,decide_true,decide_false,bY,reduceIte])
   all_goals rfl
 rw[← eP]
 refine dh hs ?_
 exact cw (ud q b1 l)
 have aZ:=ai s
 refine bi<|sg<|Pl 2<|L0<|Oi (((b.length:Nat) : Int)-2)<|jW (fg (P:=Tryz.prog) 22 5 1 Tryz.underlying22 rfl rfl A b.length cp (lo:=1) (up:=(((b.length:Nat) : Int)-2)) 1 (((((b.length:Nat) : Int)-2)).toNat) (by omega) (by omega) (by omega) (by omega) (by omega)) fun W hrun64 H=>L0<|g9 (.slice W ((((((b.length:Nat) : Int)-2)).toNat)-1) (cp-1)) (ec (kl:=.i64) (kh:=.i64) (lo:=1) (hi:=(((b.length:Nat) : Int)-2)) (A:=A) (n:=b.length) (c:=cp) rfl Tryz.underlying22 (by kernel_rfl) (by kernel_rfl) (by kernel_rfl) (hrun64 _ _ _))<|L0<|g9 (.string (strOfNums ((b.take (((((b.length:Nat) : Int)-2)).toNat)).drop 1))) (cL (A:=W) (n:=((((((b.length:Nat) : Int)-2)).toNat)-1)) (c:=(cp-1)) rfl (by kernel_rfl) Tryz.underlying22 Tryz.underlying5 Tryz.underlying9 (H _ _ _ _ _ t))<|?_
 rcases hth:bW ((b.take (((((b.length:Nat) : Int)-2)).toNat)).drop 1) with _|x
 have b2:=(tg (w:=S) (aT.range (H _ _ _ _ _ t)) (by rw[List.length_drop,List.length_take];omega)).mono (oa hth)
 refine L0<|Oc<|m1 b2 fun bG X=>Pl 5<|nt<|sq<|sg<|Pl 2<|nt<|c1<|sg<|Pl 2<|?_
 refine L0<|aW (ub X f) #[.int .u8 0,.int .u16 0,.int .u8 0,.int .u8 0,.int .u16 0,.int .u16 0,.int .u16 0,.int .u16 0,.int .u16 0,.int .u16 0,.int .u16 0,.int .u16 0,.int .u16 0,.int .u16 0,.slice none 0 0,.slice none 0 0,.slice none 0 0,.slice none 0 0,.int .u8 0,.int .u8 0,.int .u8 0,.int .u8 0,.int .u8 0,.slice none 0 0] fun bH b3 b4=>Pl 1<|nt<|rt<|tr<|bz b3 (.int .i64 11)<|?_
 have hs:fx dir b=(d7.zero,11):=by
   unfold fx
   (try simp only[i,j,k,o,r,s,bs,if_true,if_false,decide_true,decide_false,bY,hth,reduceIte])
   all_goals rfl
 rw[← eP]
 refine dh hs ?_
 exact cw (ud q (uz X b4) l)
 have hxl:2*x.length=(((b.take (((((b.length:Nat) : Int)-2)).toNat)).drop 1)).length:=by have:=lJ hth;omega
 have hxl2:(((b.take (((((b.length:Nat) : Int)-2)).toNat)).drop 1)).length=b.length-3:=by rw[List.length_drop,List.length_take];omega
 have b5:=(tg (w:=S) (aT.range (H _ _ _ _ _ t)) (by rw[List.length_drop,List.length_take];omega)).mono (oL hth)
 refine L0<|Oc<|ej b5 fun I D bI J bJ bK Y=>Pl 5<|nt<|sq<|sg<|Pl 2<|nt<|c0<|bi<|sq<|?_
 refine go<|Pl 1<|L0<|Oc (args:=#[.slice I x.length D])<|m1 (vy (J).rd) fun bL L=>Pl 1<|nt<|sq<|sg<|Pl 2<|nt<|?_
 have B:=aF Y L
 have Z:=aF q B
 refine cb ((!(ez x))) (fun u=>?_) (fun u=>?_)
 have E:(ez x)=false:=by simpa using u
 refine sg<|Pl 1<|?_
 refine L0<|aW (ub B f) #[.int .u8 0,.int .u16 0,.int .u8 0,.int .u8 0,.int .u16 0,.int .u16 0,.int .u16 0,.int .u16 0,.int .u16 0,.int .u16 0,.int .u16 0,.int .u16 0,.int .u16 0,.int .u16 0,.slice none 0 0,.slice none 0 0,.slice none 0 0,.slice none 0 0,.int .u8 0,.int .u8 0,.int .u8 0,.int .u8 0,.int .u8 0,.slice none 0 0] fun bM b6 b7=>Pl 1<|nt<|rt<|tr<|bz b6 (.int .i64 10)<|?_
 have hs:fx dir b=(d7.zero,10):=by
   unfold fx
   (try simp only[i,j,k,o,r,s,u,E,bs,if_true,if_false,decide_true,decide_false,bY,hth,reduceIte])
   all_goals rfl
 rw[← eP]
 refine dh hs ?_
 exact cw (ud Z b7 l)
 have E:(ez x)=true:=by simpa using u
 refine bi<|sg<|Pl 4<|L0<|Oi (((x.length:Nat) : Int)-1)<|jW (fg (P:=Tryz.prog) 22 5 1 Tryz.underlying22 rfl rfl I x.length D (lo:=1) (up:=(((x.length:Nat) : Int)-1)) 1 (((((x.length:Nat) : Int)-1)).toNat) (by omega) (by omega) (by omega) (by omega) (by omega)) fun b9 hrun96 a0=>L0<|g9 (.slice b9 ((((((x.length:Nat) : Int)-1)).toNat)-1) (D-1)) (ec (kl:=.i64) (kh:=.i64) (lo:=1) (hi:=(((x.length:Nat) : Int)-1)) (A:=I) (n:=x.length) (c:=D) rfl Tryz.underlying22 (by kernel_rfl) (by kernel_rfl) (by kernel_rfl) (hrun96 _ _ _))<|?_
 have a1:=ax J L (fun x hx=>ay) (fun _ _ h=>h)
 refine pr (cZ dir ((x.take (((((x.length:Nat) : Int)-1)).toNat)).drop 1)) fun a M N=>?_
 refine L0<|Oc<|e2 (gn N (a0 _ _ _ _ _ (a1).rd) (by rw[List.length_drop,List.length_take];omega)) fun d bN ba F=>?_
 have a2:=ax a1 F (fun x hx=>ay) (fun _ _ h=>h)
 refine Pl 3<|L0<|bE mZ fun a3 bO a4 bb bc=>L0<|aW bb (gF a d) fun bP bd be=>Pl 1<|nt<|sq<|sg<|Pl 2<|nt<|?_
 have O:=ud bc be a4
 have Q:=aF F O
 have a5:=aF Z Q
 refine cb ((M != 0)) (fun C=>?_) (fun C=>?_)
 have bf:=aq C
 refine sg<|Pl 2<|?_
 refine L0<|aW (ub (aF B Q) f) #[.int .u8 0,.int .u16 0,.int .u8 0,.int .u8 0,.int .u16 0,.int .u16 0,.int .u16 0,.int .u16 0,.int .u16 0,.int .u16 0,.int .u16 0,.int .u16 0,.int .u16 0,.int .u16 0,.slice none 0 0,.slice none 0 0,.slice none 0 0,.slice none 0 0,.int .u8 0,.int .u8 0,.int .u8 0,.int .u8 0,.int .u8 0,.slice none 0 0] fun bQ bh bj=>Pl 1<|nt<|rt<|tr<|bz bh (.int .i64 M)<|?_
 have hs:fx dir b=(d7.zero,M):=by
   unfold fx
   (try simp only[i,j,k,o,r,s,u,E,C,bs,if_true,if_false,decide_true,decide_false,bY,hth,N,reduceIte])
   all_goals rfl
 rw[← eP]
 refine dh hs ?_
 exact cw (ud a5 bj l)
 have bf:=ai C
 refine bi<|sq<|?_
 have a6:=ax a2 O (fun x hx=>ay) (fun _ _ h=>h)
 refine eJ (aT.at_ (a6).rd 0 (by omega)) fun bk bm a7 bn bR=>Rg 8 (fun w'=>w'.cell? ⟨bk,bm+0,none⟩=some (.int .u8 (x.getD 0 0))∧w'.heap[a3]? = some (.cells (gF a d) 30 (0,0))) fun bS G=>?_
 have a8:=ub G bd
 refine bg ⟨(uc G bn),a8⟩ fun y=>Rt 0 y<|kU 1 y x.length 0 0 rfl a7 (by omega)<|Rl 2 y (fun _ hs=>hs.1)<|Rt 3 y<|Rr 4 y (.agg (gF a d)) (fun w' hs=>gM (g:=a3) (off:=0) [.int .u8 a.code,.int .u8 a.fail,.int .u16 a.addr,.int .u16 a.count,.int .u16 a.value,.int .u16 a.and_,.int .u16 a.or_,.int .u16 a.addr2,.int .u16 a.sub,.int .u16 a.status,.int .u16 a.events,.int .u16 a.messages,.slice d.aw a.words.length d.kw,.slice d.ab a.bits.length d.kb,.slice d.ad a.data.length d.kd,.slice d.ar a.recs.length d.kr,.int .u8 a.mei,.int .u8 a.kind,.int .u8 a.level,.int .u8 a.more,.int .u8 a.next,.slice d.ao a.objects.length d.ko] rfl (by kernel_rfl) hs.2 (by kernel_rfl) (by kernel_rfl) rfl)<|Rt 5 y<|?_
 refine R0 6 rfl<|aW (ub (aF B (aF Q G)) f) (fD (x.getD 0 0) 0 a d) fun bT bo a9=>?_
 have R:=uz G a9
 refine bg ⟨(cB ((ax a6 R (fun x hx=>(aa (fun e=>(aA (am f) lr J) (e▸hx)) ay)) (fun _ _ h=>h))).rd a7 0 (by omega)),(aX a9 (Ne.symm (nb (am f) (le (le Y.size L.size) F.size) a4)) a8)⟩ fun bp=>Rt 7 bp<|re<|tn<|rt<|bz bo (.int .i64 0)<|?_
 have hs:fx dir b=(⟨(x.getD 0 0),0,a⟩,0):=by
   unfold fx
   (try simp only[i,j,k,o,r,s,u,E,C,bs,if_true,if_false,decide_true,decide_false,bY,hth,N,reduceIte])
   all_goals rfl
 rw[← eP]
 refine dh hs ?_
 exact⟨_,rfl,⟨gF a d,(by as_aux_lemma=>kernel_rfl),(aL.upd (cP.rdt ba (a0 _ _ _ _ _ (a2).rd)) (uz O R) (ak (aM (ub (aF B F) f) (by decide)) aG)),b8 (x:=(x.getD 0 0)) (by omega),aB (x:=0) (by omega)⟩,(ud a5 R l)⟩
theorem pQ{m:Md}{v:Value}{b:List Int}{w:World}{dir:Int}(h:aT m w v b)(hb:b.length≤1048576) : Calls Tryz.prog 61 #[.int .i64 dir,v] w (jO (eD dir b) w):=by
  obtain⟨A,cp,rfl,hc,_⟩:=h.shape
  exact nF h hb hc
theorem mt{m:Md}{v:Value}{b:List Int}{w:World}{dir:Int}{F:d7}{E:Int}(hX:eD dir b=(F,E))(h:aT m w v b)(hb:b.length≤1048576) : Calls Tryz.prog 61 #[.int .i64 dir,v] w (fun e w'=>∃ x,e = .returned (.tuple #[.agg (fD F.unit F.tid F.msg x),.int .i64 E])∧(aL true w' (gF F.msg x).toList F.msg∧(0≤F.unit∧F.unit<256)∧(0≤F.tid∧F.tid<65536))∧aD [] w w'):=by
  refine(pQ h hb).mono ?_
  rintro e w' ⟨cs,rfl,h1,h2⟩
  rw[hX] at h1 ⊢
  obtain⟨c,rfl,h3,h4,h5⟩:=h1
  obtain⟨x,rfl⟩:=jZ h3
  exact⟨x,by rw[j5],⟨h3,h4,h5⟩,h2⟩
end Go.Proofs.YtogbnemojakcpaaGreat
