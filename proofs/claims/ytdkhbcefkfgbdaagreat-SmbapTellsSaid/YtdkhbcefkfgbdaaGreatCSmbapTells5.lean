/- Contracts of functions, part CSmbapTells5. -/
import Derived.Test.YtdkhbcefkfgbdaaGreatCSmbapTells1
import Derived.Test.YtdkhbcefkfgbdaaGreatCSmbapTells2
import Derived.Test.YtdkhbcefkfgbdaaGreatCSmbapTells3
import Derived.Test.YtdkhbcefkfgbdaaGreatCSmbapTells4
import Derived.Deep.Slices
import Derived.ChangeArms
import Derived.WideShapes
import Derived.SizedLaws
set_option linter.unusedVariables false
set_option linter.unusedSimpArgs false
set_option maxRecDepth 100000
set_option maxHeartbeats 4000000
namespace Go.Proofs.YtdkhbcefkfgbdaaGreat
def bC (b:List Int) : Int:=(6+256*b.getD 4 0)+b.getD 5 0
def d6 (d:Int) : Nat→List Int→List Ev × Nat
  | 0,b=>([],b.length)
  | k+1,b =>
    if b.length<6 then ([],b.length)
    else if bC b<8∨260<bC b then (⟨if bC b<8 then 5 else 3,dx.zero⟩ :: (d6 d k (b.drop (min (bC b) (b.length:Int)).toNat)).1,(d6 d k (b.drop (min (bC b) (b.length:Int)).toNat)).2)
    else if (b.length:Int)<bC b then ([],b.length)
    else (⟨(bZ d (b.take (bC b).toNat)).2,(bZ d (b.take (bC b).toNat)).1⟩ :: (d6 d k (b.drop (bC b).toNat)).1,(d6 d k (b.drop (bC b).toNat)).2)
variable {b:List Int}{d:Int}
theorem hG{k:Nat}  (h:b.length<6) : d6 d k b=([],b.length):=by
  cases k with
  | zero=>rfl
  | succ k=>unfold d6;rw[if_pos h]
theorem qA(h6:6≤b.length)(hr:∀ x,x∈b→0≤x∧x<256) : 6≤bC b∧bC b<65542:=by
  have g:∀ j,j<b.length→0≤b.getD j 0∧b.getD j 0<256:=fun j hj=>by
    rw[List.getD_eq_getElem?_getD,List.getElem?_eq_getElem hj]
    exact hr _ (List.getElem_mem hj)
  have h4:=g 4 (by omega)
  have h5:=g 5 (by omega)
  unfold bC
  omega
theorem iF{d:Int}{b:List Int}:∀ k,k≤b.length→(k<6∨(8≤bC b∧bC b≤260∧(k:Int)<bC b))→(SM.mk d (b.take k) 0,[])=(SM.mk d [] 0).feed (b.take k)
  | 0,_,_=>rfl
  | k+1,hk,h=>by
    have ih:=iF (d:=d) (b:=b) k (by omega) (by omega)
    refine gx (by omega) ih ?_
    have e:=mR (T:=SM.mk d (b.take k) 0) (c:=b.getD k 0) (show ¬ (0:Int)<0 by omega)
    simp only[fx (show k<b.length by omega)] at e
    refine e ?_
    have hlen:(b.take (k+1)).length=k+1:=by rw[List.length_take];omega
    unfold SM.nx
    by_cases h6:k+1<6
    · rw[if_pos (by show(b.take (k+1)).length<6;omega)]
    · unfold bC at h
      rw[if_neg (by show ¬ (b.take (k+1)).length<6;omega),gD (by omega),if_neg (by omega),if_neg (by omega),if_neg (by show ¬ ((b.take (k+1)).length:Int)=_;omega)]
theorem t9(h6:6≤b.length)(h:bC b<8∨260<bC b) : (SM.mk d [] 0).feed (b.take 6)=(SM.mk d [] (bC b-6),[⟨if bC b<8 then 5 else 3,dx.zero⟩]):=by
  have ih:=iF (d:=d) (b:=b) 5 (by omega) (.inl (by decide))
  have hlen:(b.take (5+1)).length=6:=by rw[List.length_take];omega
  have hs:(SM.mk d (b.take (5+1)) 0).size=bC b-6:=by rw[gD (by decide)];unfold bC;omega
  have hx:(SM.mk d (b.take 5) 0).byte (b.getD 5 0)=(SM.mk d [] (bC b-6),[⟨if bC b<8 then 5 else 3,dx.zero⟩]):=by
    by_cases hlo:bC b<8
    · have e:=px (T:=SM.mk d (b.take 5) 0) (c:=b.getD 5 0) (show ¬ (0:Int)<0 by omega)
      simp only[fx (show 5<b.length by omega)] at e
      rw[if_pos hlo,e ?_,hs]
      · rfl
      · unfold SM.nx
        rw[if_neg (by show ¬ (b.take (5+1)).length<6;omega),hs,if_neg (by omega),if_pos (by omega)]
    · have e:=pL (T:=SM.mk d (b.take 5) 0) (c:=b.getD 5 0) (show ¬ (0:Int)<0 by omega)
      simp only[fx (show 5<b.length by omega)] at e
      rw[if_neg hlo,e ?_,hs]
      · rfl
      · unfold SM.nx
        rw[if_neg (by show ¬ (b.take (5+1)).length<6;omega),hs,if_pos (by omega)]
  have q:=fR (by omega) ih hx
  rw[List.nil_append] at q
  exact q.symm
theorem kL{d:Int}:∀ (l:List Int)(k:Int),(l.length:Int)≤k→(SM.mk d [] k).feed l=(SM.mk d [] (k-l.length),[])
  | [],k,_=>by simp[SM.feed]
  | c :: t,k,h=>by
    have hk:(0:Int)<k:=by simp at h;omega
    have e:(SM.mk d [] k).feed [c]=(SM.mk d [] (k-1),[]):=by
      rw[q5,jY (by exact hk)]
    have q:=fC e (kL t (k-1) (by simp at h;omega))
    have e2:k-1-(t.length:Int)=k-((c :: t).length:Int):=by simp;omega
    rw[e2] at q
    simpa using q
theorem i2{d:Int}:∀ (k:Nat)(b:List Int),b.length≤k→(∀ x,x∈b→0≤x∧x<256)→∃ S,(SM.mk d [] 0).feed b=(S,(d6 d k b).1)∧S.held.length=(d6 d k b).2
  | 0,b,hk,_=>by
    obtain rfl:=List.eq_nil_of_length_eq_zero (by omega:b.length=0)
    exact⟨_,rfl,rfl⟩
  | k+1,b,hk,hr=>by
    by_cases h6:b.length<6
    · have h:=iF (d:=d) (b:=b) b.length (Nat.le_refl _) (.inl h6)
      rw[List.take_length] at h
      rw[hG h6]
      exact⟨_,h.symm,rfl⟩
    · unfold d6
      rw[if_neg h6]
      obtain⟨hs1,hs2⟩:=qA (by omega) hr
      by_cases hb:bC b<8∨260<bC b
      · rw[if_pos hb]
        have hbad:=t9 (d:=d) (by omega) hb
        by_cases hl:bC b≤(b.length:Int)
        · have hm:(min (bC b) (b.length:Int)).toNat=(bC b).toNat:=by omega
          rw[hm]
          obtain⟨S,h1,h2⟩:=i2 k (b.drop (bC b).toNat) (by rw[List.length_drop];omega) (fun x hx=>hr x (List.mem_of_mem_drop hx))
          have hsk:=kL (d:=d) ((b.take (bC b).toNat).drop 6) (bC b-6) (by rw[List.length_drop,List.length_take];omega)
          rw[show bC b-6-(((b.take (bC b).toNat).drop 6).length:Int)=0 from by rw[List.length_drop,List.length_take];omega] at hsk
          have q:=fC (fC hbad hsk) h1
          have e:b.take 6++(b.take (bC b).toNat).drop 6++b.drop (bC b).toNat=b:=by
            rw[show b.take 6=(b.take (bC b).toNat).take 6 from by rw[List.take_take];congr 1;omega,List.take_append_drop,List.take_append_drop]
          rw[e] at q
          exact⟨S,by simpa using q,h2⟩
        · have hm:(min (bC b) (b.length:Int)).toNat=b.length:=by omega
          rw[hm,List.drop_length,hG (by simp)]
          have hsk:=kL (d:=d) (b.drop 6) (bC b-6) (by rw[List.length_drop];omega)
          have q:=fC hbad hsk
          rw[List.take_append_drop] at q
          exact⟨_,q,rfl⟩
      · rw[if_neg hb]
        by_cases hw:(b.length:Int)<bC b
        · rw[if_pos hw]
          have h:=iF (d:=d) (b:=b) b.length (Nat.le_refl _) (.inr (by omega))
          rw[List.take_length] at h
          exact⟨_,h.symm,rfl⟩
        · rw[if_neg hw]
          obtain⟨S,h1,h2⟩:=i2 k (b.drop (bC b).toNat) (by rw[List.length_drop];omega) (fun x hx=>hr x (List.mem_of_mem_drop hx))
          have g:∀ j,j<6→(b.take (bC b).toNat).getD j 0=b.getD j 0:=fun j hj=>gi (by omega)
          have hs:bC b=6+(b.getD 4 0*256+b.getD 5 0):=by unfold bC;omega
          have hwh:=pl (d:=d) (b:=b.take (bC b).toNat) (F:=(bZ d (b.take (bC b).toNat)).1) (E:=(bZ d (b.take (bC b).toNat)).2) (by rw[g 4 (by decide),g 5 (by decide),List.length_take];omega) (by rw[g 4 (by decide),g 5 (by decide)];omega) (by rw[g 4 (by decide),g 5 (by decide)];omega) rfl
          have q:=fC hwh h1
          rw[List.take_append_drop] at q
          exact⟨S,q,h2⟩
open Go.RowKit
def u4 (R:List Ev × Nat)(w:World)(e:Ending)(w':World) : Prop:=∃ v,e = .returned (.tuple #[v,.int .i64 ((R.2:Nat) : Int)])∧qV w.heap.size w' v R.1∧aC [] w w'
variable {L:List Ev}
theorem l7{k:Nat}   {R:List Ev × Nat}(h:(L++(d6 d k b).1,(d6 d k b).2)=R)(hk:b.length≤k)(h6:6≤b.length) :
    (bC b<8→(L++[Ev.mk 5 dx.zero]++(d6 d (k-1) (b.drop (min (bC b) (b.length:Int)).toNat)).1,(d6 d (k-1) (b.drop (min (bC b) (b.length:Int)).toNat)).2)=R) ∧
    (¬ bC b<8→260<bC b→(L++[Ev.mk 3 dx.zero]++(d6 d (k-1) (b.drop (min (bC b) (b.length:Int)).toNat)).1,(d6 d (k-1) (b.drop (min (bC b) (b.length:Int)).toNat)).2)=R) ∧
    (¬ (bC b<8∨260<bC b)→(b.length:Int)<bC b→R=(L,b.length)) ∧
    (¬ (bC b<8∨260<bC b)→¬ (b.length:Int)<bC b→∀ F E,bZ d (b.take (bC b).toNat)=(F,E)→(L++[Ev.mk E F]++(d6 d (k-1) (b.drop (bC b).toNat)).1,(d6 d (k-1) (b.drop (bC b).toNat)).2)=R):=by
  obtain⟨k,rfl⟩ : ∃ k',k=k'+1:=⟨k-1,by omega⟩
  rw[Nat.add_sub_cancel]
  unfold d6 at h
  rw[if_neg (by omega)] at h
  refine⟨fun h1=>?_,fun h1 h2=>?_,fun h1 h2=>?_,fun h1 h2 F E hF=>?_⟩
  · rw[if_pos (.inl h1),if_pos h1] at h
    rw[← h,List.append_assoc]
    rfl
  · rw[if_pos (.inr h2),if_neg h1] at h
    rw[← h,List.append_assoc]
    rfl
  · rw[if_neg h1,if_pos h2] at h
    rw[← h,List.append_nil]
  · rw[if_neg h1,if_neg h2,hF] at h
    rw[← h,List.append_assoc]
    rfl
variable {A:Option Addr}{dir:Int}{w:World}
theorem rR{cp:Nat}    (hsl:aV true w (.slice A b.length cp) b)(hb:b.length≤1048576) :
    Calls Tryz.prog 17 #[vI dir,.slice A b.length cp] w (u4 (d6 dir b.length b) w):=by
 have hln:(b.length:Int)≤1048576:=by omega
 refine en 71 Tryz.func17 rfl<|al 2<|cJ 1<|sq<|bk<|?_
 refine iq (fun x=>[(0,vI dir),(1,.slice x.2.2.1 x.2.2.2.1 x.2.2.2.2.1),(6,.slice x.2.2.2.2.2.2.1 x.2.2.2.2.2.1.length x.2.2.2.2.2.2.2)]) (fun(x:Nat × List Int × Option Addr × Nat × Nat × List Ev × Option Addr × Nat) w'=>aC [] w w'∧aV true w' (.slice x.2.2.1 x.2.2.2.1 x.2.2.2.2.1) x.2.1∧qV w.heap.size w' (.slice x.2.2.2.2.2.2.1 x.2.2.2.2.2.1.length x.2.2.2.2.2.2.2) x.2.2.2.2.2.1∧(x.2.2.2.1=x.2.1.length)∧(x.2.1.length≤x.1)∧(x.2.2.2.2.2.1.length+x.2.1.length≤b.length)∧((x.2.2.2.2.2.1++(d6 dir x.1 x.2.1).1,(d6 dir x.1 x.2.1).2)=(d6 dir b.length b))) (fun x=>x.2.2.2.1) (b.length,b,A,b.length,cp,[],none,0) ⟨aC.refl _ _,hsl,(aT.nil w.heap.size _ _ (f9 true) _),rfl,(Nat.le_refl _),(by(try dsimp only);simp),rfl⟩ ?_
 rintro⟨k,xs,Ab,nb,cpx,L,Bq,cq⟩ F ⟨j,a3,a4,a5,a6,a7,a8⟩
 refine fs [(0,vI dir),(1,.slice Ab nb cpx),(6,.slice Bq L.length cq)] ?_
 have i:aV true F (.slice Ab nb cpx) xs:=a3
 have g:qV w.heap.size F (.slice Bq L.length cq) L:=a4
 have a9:nb=xs.length:=a5
 have aa:xs.length≤k:=a6
 have bg:L.length+xs.length≤b.length:=a7
 have l:(L++(d6 dir k xs).1,(d6 dir k xs).2)=(d6 dir b.length b):=a8
 have hxr:∀ x,x∈xs→0≤x∧x<256:=aV.range i
 have hnb:=a9
 have hkx:=aa
 have hcx:=aG.cap i
 refine sq<|az 3<|cb ((decide (6≤(nb:Int)))) (fun t=>?_) (fun t=>?_)
 have ab:=of_decide_eq_true t
 refine bu<|bk<|sq<|eH (aV.at_ i 4 (by omega)) fun ac ad ae af bh=>eH (aV.at_ i 5 (by omega)) fun ag ah ai aj bi=>Rg 12 (fun w'=>w'.cell? ⟨ac,ad+4,none⟩=some (vB (xs.getD 4 0))∧w'.cell? ⟨ag,ah+5,none⟩=some (vB (xs.getD 5 0))) fun G d=>bz ⟨(uc d af),(uc d aj)⟩ fun f=>Rt 0 f<|jm 1 f nb 4 4 rfl ae (by omega)<|Rl 2 f (fun _ hs=>hs.1)<|Rr 3 f (vI (xs.getD 4 0)) (fun _ _=>bv (vI (IntKind.i64.wrap (xs.getD 4 0))) (by kernel_rfl) (congrArg (Value.int .i64) (i64_in (by omega))))<|Rr 4 f (vI (256*(xs.getD 4 0))) (fun _ _=>bv (vI (IntKind.i64.wrap (256*(xs.getD 4 0)))) (by kernel_rfl) (congrArg (Value.int .i64) (IntWalk.i64_in _ (by omega))))<|Rr 5 f (vI (6+(256*(xs.getD 4 0)))) (fun _ _=>bv (vI (IntKind.i64.wrap (6+(256*(xs.getD 4 0))))) (by kernel_rfl) (congrArg (Value.int .i64) (IntWalk.i64_in _ (by omega))))<|Rt 6 f<|jm 7 f nb 5 5 rfl ai (by omega)<|Rl 8 f (fun _ hs=>hs.2)<|Rr 9 f (vI (xs.getD 5 0)) (fun _ _=>bv (vI (IntKind.i64.wrap (xs.getD 5 0))) (by kernel_rfl) (congrArg (Value.int .i64) (i64_in (by omega))))<|Rr 10 f (vI ((6+(256*(xs.getD 4 0)))+(xs.getD 5 0))) (fun _ _=>bv (vI (IntKind.i64.wrap ((6+(256*(xs.getD 4 0)))+(xs.getD 5 0)))) (by kernel_rfl) (congrArg (Value.int .i64) (IntWalk.i64_in _ (by omega))))<|Rt 11 f<|re<|tn<|sq<|al 3<|dX 3 [27] 30 27 (decide (((6+(256*(xs.getD 4 0)))+(xs.getD 5 0))<8)) (decide (260<((6+(256*(xs.getD 4 0)))+(xs.getD 5 0)))) (fun K ak an=>?_) ?_
 have bj:=of_decide_eq_false an
 exact Pl 3<|ce ak _ rfl
 refine nt<|?_
 have p:=aQ j d
 refine cb (((decide (((6+(256*(xs.getD 4 0)))+(xs.getD 5 0))<8))||(decide (260<((6+(256*(xs.getD 4 0)))+(xs.getD 5 0)))))) (fun q=>?_) (fun q=>?_)
 refine az 1<|sq<|az 2<|cb ((decide (((6+(256*(xs.getD 4 0)))+(xs.getD 5 0))<8))) (fun r=>?_) (fun r=>?_)
 have ao:=of_decide_eq_true r
 refine go<|Pl 1<|aK 3<|L0<|gv (m:=1) (e:=87) #[vI 5,vB 0,vW 0,vB 0,vB 0,vW 0,vW 0,vW 0,vW 0,vW 0,vW 0,vW 0,vW 0,vW 0,vW 0,nS,nS,nS,nS,vB 0,vB 0,vB 0,vB 0,vB 0,nS] fun bl bm ap ar u=>?_
 have au:=od (m:=true) (w0:=G) (x:=(Ev.mk 5 dx.zero)) ap ar ⟨⟨none,0,none,0,none,0,none,0,none,0⟩,by kernel_rfl,nu,by decide,by decide⟩
 have v:=aQ d u
 have H:=av g v (fun x hx=>ax) (f9.upd v aE)
 refine L0<|iL (xs:=L) (ys:=([(Ev.mk 5 dx.zero)])) (.agg #[vI 0,vB 0,vW 0,vB 0,vB 0,vW 0,vW 0,vW 0,vW 0,vW 0,vW 0,vW 0,vW 0,vW 0,vW 0,nS,nS,nS,nS,vB 0,vB 0,vB 0,vB 0,vB 0,nS]) 25 168 H au.rd f9.ones (fun w' hv=>f9.upd hv (bK (bW _ H (by decide)) aE)) (by(try simp only[ef,be]);omega) (le (le j.size d.size) u.size) fun aw ay bo aD I bp=>Pl 1<|aK 4<|L0<|jU (vI (min ((6+(256*(xs.getD 4 0)))+(xs.getD 5 0)) (nb:Int))) (nQ (a:=((6+(256*(xs.getD 4 0)))+(xs.getD 5 0))) (b:=(nb:Int)) rfl (by kernel_rfl) (by kernel_rfl))<|l2 (i1 (P:=Tryz.prog) 27 5 1 Tryz.underlying27 rfl rfl Ab nb cpx (lo:=(min ((6+(256*(xs.getD 4 0)))+(xs.getD 5 0)) (nb:Int))) (((min ((6+(256*(xs.getD 4 0)))+(xs.getD 5 0)) (nb:Int))).toNat) (by omega) (by omega)) fun J hrun69 aF=>L0<|jU (.slice J (nb-(((min ((6+(256*(xs.getD 4 0)))+(xs.getD 5 0)) (nb:Int))).toNat)) (cpx-(((min ((6+(256*(xs.getD 4 0)))+(xs.getD 5 0)) (nb:Int))).toNat))) (cH (kl:=.i64) (k:=(min ((6+(256*(xs.getD 4 0)))+(xs.getD 5 0)) (nb:Int))) (A:=Ab) (n:=nb) (c:=cpx) rfl Tryz.underlying27 (by kernel_rfl) (by kernel_rfl) (hrun69 _ _))<|am 1<|xt<|tx<|bx<|?_
 have hz:=(l7 l hkx (by omega)).1 (show bC xs<8 by unfold bC;omega)
 rw[← hnb] at hz
 exact fv ((k-1),(xs.drop (((min ((6+(256*(xs.getD 4 0)))+(xs.getD 5 0)) (nb:Int))).toNat)),J,(nb-(((min ((6+(256*(xs.getD 4 0)))+(xs.getD 5 0)) (nb:Int))).toNat)),(cpx-(((min ((6+(256*(xs.getD 4 0)))+(xs.getD 5 0)) (nb:Int))).toNat)),(L++[(Ev.mk 5 dx.zero)]),aw,ay) ⟨(ut p (ut (aC.mono (S':=(ob Bq++[])) u aA) I (aH il aA)) (aH (c7 g lr) aA)),(aF _ _ _ _ _ (aV.upd' i (ut (aC.mono (S':=(ob Bq++[])) v aA) I (aH il aA)) (bK (bW _ g (by decide)) aE))),aD,(by(try dsimp only);rw[List.length_drop];omega),(by(try dsimp only);rw[List.length_drop];omega),(by(try dsimp only);simp only[ef,List.length_drop];omega),hz⟩ (by dsimp only;omega)
 have ao:=of_decide_eq_false r
 refine bu<|al 3<|L0<|gv (m:=1) (e:=87) #[vI 3,vB 0,vW 0,vB 0,vB 0,vW 0,vW 0,vW 0,vW 0,vW 0,vW 0,vW 0,vW 0,vW 0,vW 0,nS,nS,nS,nS,vB 0,vB 0,vB 0,vB 0,vB 0,nS] fun bs bt aI aL z=>?_
 have aM:=od (m:=true) (w0:=G) (x:=(Ev.mk 3 dx.zero)) aI aL ⟨⟨none,0,none,0,none,0,none,0,none,0⟩,by kernel_rfl,nu,by decide,by decide⟩
 have B:=aQ d z
 have M:=av g B (fun x hx=>ax) (f9.upd B aE)
 refine L0<|iL (xs:=L) (ys:=([(Ev.mk 3 dx.zero)])) (.agg #[vI 0,vB 0,vW 0,vB 0,vB 0,vW 0,vW 0,vW 0,vW 0,vW 0,vW 0,vW 0,vW 0,vW 0,vW 0,nS,nS,nS,nS,vB 0,vB 0,vB 0,vB 0,vB 0,nS]) 25 168 M aM.rd f9.ones (fun w' hv=>f9.upd hv (bK (bW _ M (by decide)) aE)) (by(try simp only[ef,be]);omega) (le (le j.size d.size) z.size) fun aN aO bw aP N bB=>Pl 1<|aK 4<|L0<|jU (vI (min ((6+(256*(xs.getD 4 0)))+(xs.getD 5 0)) (nb:Int))) (nQ (a:=((6+(256*(xs.getD 4 0)))+(xs.getD 5 0))) (b:=(nb:Int)) rfl (by kernel_rfl) (by kernel_rfl))<|l2 (i1 (P:=Tryz.prog) 27 5 1 Tryz.underlying27 rfl rfl Ab nb cpx (lo:=(min ((6+(256*(xs.getD 4 0)))+(xs.getD 5 0)) (nb:Int))) (((min ((6+(256*(xs.getD 4 0)))+(xs.getD 5 0)) (nb:Int))).toNat) (by omega) (by omega)) fun O hrun90 aR=>L0<|jU (.slice O (nb-(((min ((6+(256*(xs.getD 4 0)))+(xs.getD 5 0)) (nb:Int))).toNat)) (cpx-(((min ((6+(256*(xs.getD 4 0)))+(xs.getD 5 0)) (nb:Int))).toNat))) (cH (kl:=.i64) (k:=(min ((6+(256*(xs.getD 4 0)))+(xs.getD 5 0)) (nb:Int))) (A:=Ab) (n:=nb) (c:=cpx) rfl Tryz.underlying27 (by kernel_rfl) (by kernel_rfl) (hrun90 _ _))<|am 1<|xt<|tx<|bx<|?_
 have hgt:260<((6+(256*(xs.getD 4 0)))+(xs.getD 5 0)):=by have y:=q;rw[r] at y;exact of_decide_eq_true (by simpa using y)
 have hz:=(l7 l hkx (by omega)).2.1 (show ¬ bC xs<8 by unfold bC;omega) (show 260<bC xs by unfold bC;omega)
 rw[← hnb] at hz
 exact fv ((k-1),(xs.drop (((min ((6+(256*(xs.getD 4 0)))+(xs.getD 5 0)) (nb:Int))).toNat)),O,(nb-(((min ((6+(256*(xs.getD 4 0)))+(xs.getD 5 0)) (nb:Int))).toNat)),(cpx-(((min ((6+(256*(xs.getD 4 0)))+(xs.getD 5 0)) (nb:Int))).toNat)),(L++[(Ev.mk 3 dx.zero)]),aN,aO) ⟨(ut p (ut (aC.mono (S':=(ob Bq++[])) z aA) N (aH il aA)) (aH (c7 g lr) aA)),(aR _ _ _ _ _ (aV.upd' i (ut (aC.mono (S':=(ob Bq++[])) B aA) N (aH il aA)) (bK (bW _ g (by decide)) aE))),aP,(by(try dsimp only);rw[List.length_drop];omega),(by(try dsimp only);rw[List.length_drop];omega),(by(try dsimp only);simp only[ef,List.length_drop];omega),hz⟩ (by dsimp only;omega)
 have aS:=(cl q).1
 have aW:=(cl q).2
 have bD:=of_decide_eq_false aS
 have bE:=of_decide_eq_false aW
 refine bu<|sq<|az 4<|cb ((decide ((nb:Int)<((6+(256*(xs.getD 4 0)))+(xs.getD 5 0))))) (fun C=>?_) (fun C=>?_)
 have aX:=of_decide_eq_true C
 refine az 5<|bq<|br<|tr<|br<|tr<|rr (.tuple #[.slice Bq L.length cq,vI (nb:Int)])<|?_
 have hz:=(l7 l hkx (by omega)).2.2.1 (show ¬ (bC xs<8∨260<bC xs) by unfold bC;omega) (show(xs.length:Int)<bC xs by unfold bC;omega)
 rw[hz]
 exact⟨_,by rw[hnb],(av g d (fun x hx=>ax) (f9.upd d aE)),p⟩
 have aX:=of_decide_eq_false C
 refine bu<|al 3<|l2 (u0 (P:=Tryz.prog) 27 5 1 Tryz.underlying27 rfl rfl Ab nb cpx (k:=((6+(256*(xs.getD 4 0)))+(xs.getD 5 0))) ((((6+(256*(xs.getD 4 0)))+(xs.getD 5 0))).toNat) (by omega) (by omega) (by omega)) fun aY hrun99 Q=>L0<|jU (.slice aY ((((6+(256*(xs.getD 4 0)))+(xs.getD 5 0))).toNat) cpx) (qy (kl:=.i64) (k:=((6+(256*(xs.getD 4 0)))+(xs.getD 5 0))) (A:=Ab) (n:=nb) (c:=cpx) rfl Tryz.underlying27 (by kernel_rfl) (by kernel_rfl) (hrun99 _ _))<|?_
 have R:=aV.upd' i d aE
 refine pr (bZ dir (xs.take ((((6+(256*(xs.getD 4 0)))+(xs.getD 5 0))).toNat))) fun h o S=>?_
 refine aq<|e2 (jB S (Q _ _ _ _ _ R) (by rw[List.length_take];omega)) fun D bF aZ s=>?_
 obtain⟨b0,b1,b2⟩:=aZ
 have T:=aV.upd' R s aE
 have b3:=bA.rdt b0 (Q _ _ _ _ _ T)
 refine Pl 3<|aJ #[vB 0,vW 0,vB 0,vB 0,vW 0,vW 0,vW 0,vW 0,vW 0,vW 0,vW 0,vW 0,vW 0,vW 0,nS,nS,nS,nS,vB 0,vB 0,vB 0,vB 0,vB 0,nS] fun bG bH b4 b5 U=>aB b5 (qv h.unit h.tid h.msg D) fun b6 b7 V=>Pl 1<|aK 2<|L0<|cM b7<|Pl 1<|L0<|gv (m:=1) (e:=87) (ot ⟨o,h⟩ D) fun bI bJ b8 b9 W=>?_
 have E:=ud U (aQ V W) b4
 have ba:=od (w0:=b6) (x:=(Ev.mk o h)) b8 b9 ⟨D,rfl,(aU.upd b3 E aE),b1,b2⟩
 have X:=aQ s E
 have Y:=aQ d X
 have Z:=av g Y (fun x hx=>ax) (f9.upd Y aE)
 refine L0<|iL (xs:=L) (ys:=([(Ev.mk o h)])) (.agg #[vI 0,vB 0,vW 0,vB 0,vB 0,vW 0,vW 0,vW 0,vW 0,vW 0,vW 0,vW 0,vW 0,vW 0,vW 0,nS,nS,nS,nS,vB 0,vB 0,vB 0,vB 0,vB 0,nS]) 25 168 Z ba.rd f9.ones (fun w' hv=>f9.upd hv (bK (bW _ Z (by decide)) aE)) (by(try simp only[ef,be]);omega) (le (le (le (le (le j.size d.size) s.size) U.size) V.size) W.size) fun bb bc bL bd a0 bM=>am 1<|go<|Pl 2<|l2 (i1 (P:=Tryz.prog) 27 5 1 Tryz.underlying27 rfl rfl Ab nb cpx (lo:=((6+(256*(xs.getD 4 0)))+(xs.getD 5 0))) ((((6+(256*(xs.getD 4 0)))+(xs.getD 5 0))).toNat) (by omega) (by omega)) fun a1 hrun141 bf=>L0<|jU (.slice a1 (nb-((((6+(256*(xs.getD 4 0)))+(xs.getD 5 0))).toNat)) (cpx-((((6+(256*(xs.getD 4 0)))+(xs.getD 5 0))).toNat))) (cH (kl:=.i64) (k:=((6+(256*(xs.getD 4 0)))+(xs.getD 5 0))) (A:=Ab) (n:=nb) (c:=cpx) rfl Tryz.underlying27 (by kernel_rfl) (by kernel_rfl) (hrun141 _ _))<|Pl 1<|nl<|bn<|?_
 have hz:=(l7 l hkx (by omega)).2.2.2 (show ¬ (bC xs<8∨260<bC xs) by unfold bC;omega) (show ¬ (xs.length:Int)<bC xs by unfold bC;omega) h o S
 have a2:=aQ d s
 exact fv ((k-1),(xs.drop ((((6+(256*(xs.getD 4 0)))+(xs.getD 5 0))).toNat)),a1,(nb-((((6+(256*(xs.getD 4 0)))+(xs.getD 5 0))).toNat)),(cpx-((((6+(256*(xs.getD 4 0)))+(xs.getD 5 0))).toNat)),(L++[(Ev.mk o h)]),bb,bc) ⟨(ut p (ut (aC.mono (S':=(ob Bq++[])) X aA) a0 (aH il aA)) (aH (c7 g lr) aA)),(bf _ _ _ _ _ (aV.upd' T (ut (aC.mono (S':=(ob Bq++[])) E aA) a0 (aH il aA)) (bK (bW _ (av g a2 (fun x hx=>ax) (f9.upd a2 aE)) (by decide)) aE))),bd,(by(try dsimp only);rw[List.length_drop];omega),(by(try dsimp only);rw[List.length_drop];omega),(by(try dsimp only);simp only[ef,List.length_drop];omega),hz⟩ (by dsimp only;omega)
 have ab:=of_decide_eq_false t
 refine xt<|tx<|tx<|bx<|tn<|az 5<|rt<|rr (.tuple #[.slice Bq L.length cq,vI (nb:Int)])<|?_
 have hz:(d6 dir b.length b)=(L,xs.length):=by rw[← l,hG (by omega),List.append_nil]
 rw[hz]
 exact⟨_,by rw[hnb],g,j⟩
theorem sI{v:Value}    (h:aV true w v b)(hb:b.length≤1048576) : Calls Tryz.prog 17 #[.int .i64 dir,v] w (u4 (d6 dir b.length b) w):=by
  obtain⟨A,cp,rfl,_,_⟩:=h.shape
  exact rR h hb
open Go.RowKit
open Go.RowKit
open Go.RowKit
open Go.RowKit
open Go.RowKit
structure SS where
  dir:Int
  held:List Int
  off:Bool
def dz (w:World)(g:Nat)(S:SS) : Prop:=∃ A cp,w.heap[g]? = some (.cells #[.int .i64 S.dir,.slice A S.held.length cp,.bool S.off] 142 (0,0))∧aV true w (.slice A S.held.length cp) S.held∧S.held.length≤256∧S.held.length≤cp
def SS.feed (S:SS)(b:List Int) : SS × List Ev :=
  if S.off then (S,[]) else if decide (b.length≤256-S.held.length) then (⟨S.dir,S.held++b,false⟩,[]) else (⟨S.dir,[],true⟩,[Ev.bad 3])
variable {S:SS}{g:Nat}
theorem dz.lt(h:dz w g S) : g<w.heap.size:=by
  obtain⟨A,cp,h1,_⟩:=h
  exact ai h1
theorem dz.upd{w':World}   {X:List Nat}(h:dz w g S)(hu:aC X w w')(hg:g∉X)(hs:bS true [5] X w) : dz w' g S:=by
  obtain⟨A,cp,h1,h2,h3⟩:=h
  exact⟨A,cp,hu.blk hg h1,h2.upd' hu hs,h3⟩
theorem dz.old{w':World}   (h:dz w g S)(hu:aC [] w w') : dz w' g S:=h.upd hu (by simp) (bS.nil _ _ _)
theorem dz.cells(h:dz w g S) : ∃ cs fr,w.heap[g]? = some (.cells cs 142 fr):=by
  obtain⟨A,cp,h1,_⟩:=h
  exact⟨_,_,h1⟩
theorem dz.le(h:dz w g S) : S.held.length≤256:=by
  obtain⟨A,cp,_,_,h1,_⟩:=h
  exact h1
theorem dz.safe(h:dz w g S)(D:List TypeId)(hD:D.contains 142=false) : bS true D [g] w:=by
  obtain⟨A,cp,h1,_⟩:=h
  exact aR h1 hD
theorem SS.feed_le{S2:SS}   (h:S.feed b=(S2,L)) : L.length≤1:=by
  have k:=congrArg Prod.snd h
  rw[show L=(S.feed b).2 from k.symm]
  unfold SS.feed
  split
  · exact Nat.zero_le _
  split
  · exact Nat.zero_le _
  · exact Nat.le_refl _
end Go.Proofs.YtdkhbcefkfgbdaaGreat
namespace Go.Proofs.YtdkhbcefkfgbdaaGreat
open Go.RowKit
variable {dir:Int}{w:World}
theorem mH(e0:(dir != 0)=true)(e1:(dir != 1)=true) : Calls Tryz.prog 15 #[vI dir] w (cg (.pointer none) w):=by
 exact en 12 Tryz.func15 rfl<|az 1<|sq<|al 3<|sy 5 e0<|am 3<|ct e1<|az 1<|bq<|rr (.pointer none)<|⟨rfl,(aC.refl [] _)⟩
variable {L:List Ev}{b:List Int}
theorem fX{S S2 S3:SM}{a:List Int}{L2:List Ev}(h:(S2,L)=S.feed a)(hX:S2.feed b=(S3,L2)) : (S3,L++L2)=S.feed (a++b):=by
  have gen:∀ (b:List Int) (T:SM) (K:List Ev),b.foldl (fun(p:SM × List Ev) c=>((p.1.byte c).1,p.2++(p.1.byte c).2)) (T,K)=((T.feed b).1,K++(T.feed b).2):=by
    intro b
    induction b with
    | nil=>intro T K;simp[SM.feed]
    | cons c t ih =>
      intro T K
      unfold SM.feed
      rw[List.foldl_cons,List.foldl_cons,ih,ih]
      simp
  unfold SM.feed at h ⊢
  rw[List.foldl_append,← h,gen,hX]
variable {d:Int}
theorem iD{S:SM}  (hr:∀ x,x∈b→0≤x∧x<256)(h:(S,L)=(SM.mk d [] 0).feed b) : d6 d b.length b=(L,S.held.length):=by
  obtain⟨S',h1,h2⟩:=i2 (d:=d) b.length b (Nat.le_refl _) hr
  rw[← h] at h1
  injection h1 with h1 h3
  rw[h1,h2,h3]
variable {A:Option Addr}{cpA:Nat}{ls:List (List Int)}{mA:Md}
theorem iy(hA:fp mA w (.slice A ls.length cpA) ls)(hbb:∀ x,x∈ls→x.length≤140737488355328) :
    Calls Tryz.prog 3 #[vI 0,.slice A ls.length cpA] w (cg (.bool true) w):=by
 have hzA:=aG.len hA
 refine en 71 Tryz.func3 rfl<|al 1<|ng<|aq<|m1 (@l6 _) fun b4 J=>Pl 1<|aK 1<|?_
 refine aq<|m1 (i6 (fp.old hA J) hbb) fun t a0=>am 1<|sq<|az 2<|?_
 have f:=aQ J a0
 refine cb ((!(ez ls))) (fun K=>?_) (fun K=>?_)
 have a1:(ez ls)=false:=by simpa using K
 exact az 2<|bq<|rr (.bool true)<|⟨rfl,f⟩
 have a1:(ez ls)=true:=by simpa using K
 refine bu<|al 1<|aq<|e3 (kF 0 jk) fun c au a2 aw a3=>am 1<|sq<|al 6<|nl<|tn<|c0<|bu<|sq<|az 2<|c0<|bu<|sq<|go<|Pl 1<|cJ 1<|sq<|al 1<|nl<|tn<|bk<|?_
 obtain⟨hf1,hf2⟩:=lg a1
 refine iq (fun x=>[(0,vI 0),(1,.slice A ls.length cpA),(5,.bool true),(7,vP c 0),(8,.slice x.2.2.1 x.2.1.length x.2.2.2.1),(9,.slice x.2.2.2.2.2.2.2.2.1 x.2.2.2.2.2.1.length x.2.2.2.2.2.2.2.2.2.1),(10,vI (x.1:Int))]) (fun(x:Nat × List Int × Option Addr × Nat × SM × List Ev × Option Addr × Nat × Option Addr × Nat × Nat) w'=>aC [] w w'∧au.heap.size≤w'.heap.size∧bf x.2.2.2.2.2.2.2.2.2.2 t.heap.size w' c x.2.2.2.2.2.2.1 x.2.2.2.2.2.2.2.1 x.2.2.2.2.1∧fq w.heap.size w' (.slice x.2.2.1 x.2.1.length x.2.2.2.1) x.2.1∧mp x.2.2.1 x.2.2.2.2.2.2.2.2.2.2 w.heap.size w' (.slice x.2.2.2.2.2.2.2.2.1 x.2.2.2.2.2.1.length x.2.2.2.2.2.2.2.2.2.1) x.2.2.2.2.2.1∧(x.1≤ls.length)∧(x.2.1.length≤dP (ls.take x.1))∧((x.2.2.2.2.1,x.2.2.2.2.2.1)=SM.feed (SM.mk 0 [] 0) x.2.1)∧(x.2.2.2.2.2.1.length≤dP (ls.take x.1))∧((∀ z,z∈ob x.2.2.1→z∉ob x.2.2.2.2.2.2.1))) (fun x=>ls.length-x.1) (0,[],none,0,(SM.mk 0 [] 0),[],none,0,none,0,t.heap.size) ⟨(aQ f a3),lr,aw,(aT.nil w.heap.size _ _ mv _),(aT.nil w.heap.size _ _ (gq none t.heap.size) _),(by(try dsimp only);omega),(by(try dsimp only);simp),rfl,(by(try dsimp only);exact Nat.zero_le _),(fun x hx=>by simp[ob] at hx)⟩ ?_
 rintro⟨k,b,Ab,cpb,S,L,Ah,ch,Bq,cq,n⟩ M ⟨i,a4,aB,aD,aE,aF,aJ,aL,aM,aN⟩
 refine fs [(0,vI 0),(1,.slice A ls.length cpA),(5,.bool true),(7,vP c 0),(8,.slice Ab b.length cpb),(9,.slice Bq L.length cq),(10,vI (k:Int))] ?_
 have a:bf n t.heap.size M c Ah ch S:=aB
 have u:fq w.heap.size M (.slice Ab b.length cpb) b:=aD
 have j:mp Ab n w.heap.size M (.slice Bq L.length cq) L:=aE
 have b5:k≤ls.length:=aF
 have b6:b.length≤dP (ls.take k):=aJ
 have N:(S,L)=SM.feed (SM.mk 0 [] 0) b:=aL
 have b8:L.length≤dP (ls.take k):=aM
 have O:(∀ z,z∈ob Ab→z∉ob Ah):=aN
 refine sq<|az 4<|cb ((decide ((k:Int)<(ls.length:Int)))) (fun P=>?_) (fun P=>?_)
 have aO:=of_decide_eq_true P
 refine bu<|sq<|bk<|al 3<|gR (fp.elt hA k (by omega)) fun a5 a6 Q T a7 a8 B b9 ba=>L0<|ia ls.length k a7 (by omega)<|L0<|er (p:=⟨a5,a6+k,none⟩) (v:=.slice Q ((ls.getD k []).length) T) (uc i a8)<|?_
 have hpart:=ew (ls:=ls) (k:=k) (by omega)
 refine L0<|iL (R:=mv) (xs:=b) (ys:=(ls.getD k [])) (vB 0) 1 1 u (aV.old B i) kY (fun _ _ _ _ h=>h) (by(try simp only[ef,be]);omega) i.size fun a9 aP bb C l U=>Pl 1<|aK 4<|L0<|ia ls.length k a7 (by omega)<|?_
 have V:=ut i l (aH (c7 u lr) aA)
 refine L0<|er (p:=⟨a5,a6+k,none⟩) (v:=.slice Q ((ls.getD k []).length) T) (uc V a8)<|?_
 have hpart:=ew (ls:=ls) (k:=k) (by omega)
 have ab:=aV.old B V
 have D:=bf.upd a l (b7 (dv (bf.cells a) u (by decide)) ax) (fun x hx=>(b7 ((eT O) x hx) ax))
 refine pr (SM.feed S (ls.getD k [])) fun ad d m=>?_
 have bc:=SM.feed_le D.2.2.1 (aV.range ab) m
 refine aq (args:=#[vP c 0,.slice Q ((ls.getD k []).length) T])<|(dS m D ab (ly (aG.low B) (Nat.le_trans f.size a2)) (gB (aG.low B) (bf.row D) f.size) (by have y:=ew (ls:=ls) (k:=k) (by omega);omega)).mono ?_
 rintro _ bd ⟨bg,aR,aS,ae,rfl,aU,o,aW,aX,r⟩
 refine⟨_,rfl,?_⟩
 have bh:=bf.le o
 have af:=aU
 obtain⟨bi,bj,rfl,bm,bo⟩:=aG.shape af.rd
 have ag:=ut (aC.mono (S':=(ob Ab++(c :: (ob Ah++[])))) l (aH il aA)) r (ac im (aH il aA))
 have s:=av j ag (fun x hx=>(b7 ((ci j u (by decide)) x hx) (aa (fun e=>(dv (bf.cells a) j (by decide)) (e▸hx)) (b7 ((ci j (bf.row a) (by decide)) x hx) ax)))) (fun x cs q=>gq.upd ag (rf (pZ (bf.cells a) (by decide) (qk (kT (Nat.le_refl _) (bf.low a)) ec))) q)
 have W:=av C r (fun x hx=>(aa (fun e=>(dv (bf.cells D) C (by decide)) (e▸hx)) (b7 ((eu U O (bf.row a) lr) x hx) ax))) (fun _ _ h=>h)
 refine L0<|iL (R:=gq a9 ae) (xs:=L) (ys:=d) (.agg #[vI 0,vB 0,vW 0,vB 0,vB 0,vW 0,vW 0,vW 0,vW 0,vW 0,vW 0,vW 0,vW 0,vW 0,vW 0,nS,nS,nS,nS,vB 0,vB 0,vB 0,vB 0,vB 0,nS]) 25 168 (aT.map s fun x cs q=>gq.row (qz U (bf.nle a)) aX (bf.nle o) q) (aT.map af fun x cs q=>gq.of (nT C W) q).rd gq.ones (fun w' hv x cs q=>gq.upd hv (qa s (by decide) ec) q) (by(try simp only[ef,be]);omega) (le (le (le (le (le J.size a0.size) a3.size) a4) l.size) r.size) fun ah ai bp aY X bs=>Pl 1<|aK 2<|?_
 have E:=av W X (fun x hx=>(b7 ((ci W s (by decide)) x hx) ax)) (fun _ _ h=>h)
 refine aq<|tA (sI (dir:=0) (E).rd (by(try simp only[List.length_append]);omega)) fun aZ b0 bv b1 bw bz F=>Pl 5<|aK 2<|?_
 have aj:=av aY F (fun x hx=>ax) (fun x cs q=>gq.upd F ec q)
 refine aq (args:=#[.slice ah ((L++d).length) ai,.slice aZ (((d6 0 (b++(ls.getD k [])).length (b++(ls.getD k []))).1).length) b0])<|m1 (ky (xs:=(L++d)) (ys:=(d6 0 (b++(ls.getD k [])).length (b++(ls.getD k []))).1) (mp.own aj).rd (b1).rd) fun bA Y=>Pl 2<|?_
 have G:=aQ F Y
 have ak:=aQ X G
 have an:=ut V (ut (aC.mono (S':=(c :: (ob Ah++(ob Bq++[])))) r (ac im (aH il aA))) ak (aH il aA)) (ac (ni f.size a2) (aH (c7 (bf.row a) f.size) (aH (c7 j lr) aA)))
 refine bl 64 ((!(decide ((L++d)=(d6 0 (b++(ls.getD k [])).length (b++(ls.getD k []))).1)))) (fun Z=>?_) (fun Z=>?_)
 have H:(decide ((L++d)=(d6 0 (b++(ls.getD k [])).length (b++(ls.getD k []))).1))=false:=by simpa using Z
 have b2:=of_decide_eq_false H
 refine am 5<|c1<|az 1<|rt<|br<|tr<|tr<|br<|tr<|rr (.bool false)<|?_
 have hs:false=true:=by exfalso;have hz:=iD (aV.range ((av E G (fun x hx=>ax) (fun _ _ h=>h))).rd) (fX N m);have y:=H;rw[hz] at y;simp at y
 rw[hs]
 exact⟨rfl,an⟩
 have H:(decide ((L++d)=(d6 0 (b++(ls.getD k [])).length (b++(ls.getD k []))).1))=true:=by simpa using Z
 have b2:=of_decide_eq_true H
 refine Pl 1<|?_
 have ao:=bf.upd o ak (b7 (dv (bf.cells o) s (by decide)) ax) (fun x hx=>(b7 ((ci (bf.row o) s (by decide)) x hx) ax))
 refine L1<|Oc<|m1 (gO ao) fun bB g=>am 3<|?_
 have ap:=aQ an g
 refine cb (((ad.held.length:Int)!=(((d6 0 (b++(ls.getD k [])).length (b++(ls.getD k []))).2:Nat) : Int))) (fun I=>?_) (fun I=>?_)
 have b3:=ay I
 refine az 1<|rt<|br<|tr<|tr<|br<|tr<|rr (.bool false)<|?_
 have hs:false=true:=by exfalso;have hz:=iD (aV.range ((av E (aQ G g) (fun x hx=>ax) (fun _ _ h=>h))).rd) (fX N m);have y:=I;rw[hz] at y;simp at y
 rw[hs]
 exact⟨rfl,ap⟩
 have b3:=aI I
 refine sk<|bn<|tn<|go<|Pl 1<|bt ((k:Int)+1)<|Pl 1<|nl<|?_
 have ar:=aQ Y g
 exact fv ((k+1),(b++(ls.getD k [])),a9,aP,ad,(L++d),aR,aS,ah,ai,ae) ⟨ap,(le (le (le (le (le (le a4 l.size) r.size) X.size) F.size) Y.size) g.size),(bf.upd ao g ax (fun x hx=>ax)),(av E (aQ G g) (fun x hx=>ax) (fun _ _ h=>h)),(av aj ar (fun x hx=>ax) (fun x cs q=>gq.upd ar ec q)),(by(try dsimp only);omega),(by(try dsimp only);have y:=dT (ls:=ls) (k:=k) (by omega);(try simp only[List.length_append]);omega),(by(try dsimp only);exact fX N m),(by(try dsimp only);have y:=dT (ls:=ls) (k:=k) (by omega);(try simp only[List.length_append]);omega),(eT (eu aW (eT (eu U O (bf.row a) lr)) C lr))⟩ (by omega)
 have aO:=of_decide_eq_false P
 exact xt<|tx<|tx<|bx<|tn<|az 2<|rt<|rr (.bool true)<|⟨rfl,i⟩
theorem ik(hA:fp mA w (.slice A ls.length cpA) ls)(hbb:∀ x,x∈ls→x.length≤140737488355328) :
    Calls Tryz.prog 3 #[vI 1,.slice A ls.length cpA] w (cg (.bool true) w):=by
 have hzA:=aG.len hA
 refine en 71 Tryz.func3 rfl<|al 1<|ng<|aq<|m1 (@l6 _) fun b4 J=>Pl 1<|aK 1<|?_
 refine aq<|m1 (i6 (fp.old hA J) hbb) fun t a0=>am 1<|sq<|az 2<|?_
 have f:=aQ J a0
 refine cb ((!(ez ls))) (fun K=>?_) (fun K=>?_)
 have a1:(ez ls)=false:=by simpa using K
 exact az 2<|bq<|rr (.bool true)<|⟨rfl,f⟩
 have a1:(ez ls)=true:=by simpa using K
 refine bu<|al 1<|aq<|e3 (kF 1 mW) fun c au a2 aw a3=>am 1<|sq<|al 6<|nl<|tn<|c0<|bu<|sq<|az 2<|c0<|bu<|sq<|go<|Pl 1<|cJ 1<|sq<|al 1<|nl<|tn<|bk<|?_
 obtain⟨hf1,hf2⟩:=lg a1
 refine iq (fun x=>[(0,vI 1),(1,.slice A ls.length cpA),(5,.bool true),(7,vP c 0),(8,.slice x.2.2.1 x.2.1.length x.2.2.2.1),(9,.slice x.2.2.2.2.2.2.2.2.1 x.2.2.2.2.2.1.length x.2.2.2.2.2.2.2.2.2.1),(10,vI (x.1:Int))]) (fun(x:Nat × List Int × Option Addr × Nat × SM × List Ev × Option Addr × Nat × Option Addr × Nat × Nat) w'=>aC [] w w'∧au.heap.size≤w'.heap.size∧bf x.2.2.2.2.2.2.2.2.2.2 t.heap.size w' c x.2.2.2.2.2.2.1 x.2.2.2.2.2.2.2.1 x.2.2.2.2.1∧fq w.heap.size w' (.slice x.2.2.1 x.2.1.length x.2.2.2.1) x.2.1∧mp x.2.2.1 x.2.2.2.2.2.2.2.2.2.2 w.heap.size w' (.slice x.2.2.2.2.2.2.2.2.1 x.2.2.2.2.2.1.length x.2.2.2.2.2.2.2.2.2.1) x.2.2.2.2.2.1∧(x.1≤ls.length)∧(x.2.1.length≤dP (ls.take x.1))∧((x.2.2.2.2.1,x.2.2.2.2.2.1)=SM.feed (SM.mk 1 [] 0) x.2.1)∧(x.2.2.2.2.2.1.length≤dP (ls.take x.1))∧((∀ z,z∈ob x.2.2.1→z∉ob x.2.2.2.2.2.2.1))) (fun x=>ls.length-x.1) (0,[],none,0,(SM.mk 1 [] 0),[],none,0,none,0,t.heap.size) ⟨(aQ f a3),lr,aw,(aT.nil w.heap.size _ _ mv _),(aT.nil w.heap.size _ _ (gq none t.heap.size) _),(by(try dsimp only);omega),(by(try dsimp only);simp),rfl,(by(try dsimp only);exact Nat.zero_le _),(fun x hx=>by simp[ob] at hx)⟩ ?_
 rintro⟨k,b,Ab,cpb,S,L,Ah,ch,Bq,cq,n⟩ M ⟨i,a4,aB,aD,aE,aF,aJ,aL,aM,aN⟩
 refine fs [(0,vI 1),(1,.slice A ls.length cpA),(5,.bool true),(7,vP c 0),(8,.slice Ab b.length cpb),(9,.slice Bq L.length cq),(10,vI (k:Int))] ?_
 have a:bf n t.heap.size M c Ah ch S:=aB
 have u:fq w.heap.size M (.slice Ab b.length cpb) b:=aD
 have j:mp Ab n w.heap.size M (.slice Bq L.length cq) L:=aE
 have b5:k≤ls.length:=aF
 have b6:b.length≤dP (ls.take k):=aJ
 have N:(S,L)=SM.feed (SM.mk 1 [] 0) b:=aL
 have b8:L.length≤dP (ls.take k):=aM
 have O:(∀ z,z∈ob Ab→z∉ob Ah):=aN
 refine sq<|az 4<|cb ((decide ((k:Int)<(ls.length:Int)))) (fun P=>?_) (fun P=>?_)
 have aO:=of_decide_eq_true P
 refine bu<|sq<|bk<|al 3<|gR (fp.elt hA k (by omega)) fun a5 a6 Q T a7 a8 B b9 ba=>L0<|ia ls.length k a7 (by omega)<|L0<|er (p:=⟨a5,a6+k,none⟩) (v:=.slice Q ((ls.getD k []).length) T) (uc i a8)<|?_
 have hpart:=ew (ls:=ls) (k:=k) (by omega)
 refine L0<|iL (R:=mv) (xs:=b) (ys:=(ls.getD k [])) (vB 0) 1 1 u (aV.old B i) kY (fun _ _ _ _ h=>h) (by(try simp only[ef,be]);omega) i.size fun a9 aP bb C l U=>Pl 1<|aK 4<|L0<|ia ls.length k a7 (by omega)<|?_
 have V:=ut i l (aH (c7 u lr) aA)
 refine L0<|er (p:=⟨a5,a6+k,none⟩) (v:=.slice Q ((ls.getD k []).length) T) (uc V a8)<|?_
 have hpart:=ew (ls:=ls) (k:=k) (by omega)
 have ab:=aV.old B V
 have D:=bf.upd a l (b7 (dv (bf.cells a) u (by decide)) ax) (fun x hx=>(b7 ((eT O) x hx) ax))
 refine pr (SM.feed S (ls.getD k [])) fun ad d m=>?_
 have bc:=SM.feed_le D.2.2.1 (aV.range ab) m
 refine aq (args:=#[vP c 0,.slice Q ((ls.getD k []).length) T])<|(dS m D ab (ly (aG.low B) (Nat.le_trans f.size a2)) (gB (aG.low B) (bf.row D) f.size) (by have y:=ew (ls:=ls) (k:=k) (by omega);omega)).mono ?_
 rintro _ bd ⟨bg,aR,aS,ae,rfl,aU,o,aW,aX,r⟩
 refine⟨_,rfl,?_⟩
 have bh:=bf.le o
 have af:=aU
 obtain⟨bi,bj,rfl,bm,bo⟩:=aG.shape af.rd
 have ag:=ut (aC.mono (S':=(ob Ab++(c :: (ob Ah++[])))) l (aH il aA)) r (ac im (aH il aA))
 have s:=av j ag (fun x hx=>(b7 ((ci j u (by decide)) x hx) (aa (fun e=>(dv (bf.cells a) j (by decide)) (e▸hx)) (b7 ((ci j (bf.row a) (by decide)) x hx) ax)))) (fun x cs q=>gq.upd ag (rf (pZ (bf.cells a) (by decide) (qk (kT (Nat.le_refl _) (bf.low a)) ec))) q)
 have W:=av C r (fun x hx=>(aa (fun e=>(dv (bf.cells D) C (by decide)) (e▸hx)) (b7 ((eu U O (bf.row a) lr) x hx) ax))) (fun _ _ h=>h)
 refine L0<|iL (R:=gq a9 ae) (xs:=L) (ys:=d) (.agg #[vI 0,vB 0,vW 0,vB 0,vB 0,vW 0,vW 0,vW 0,vW 0,vW 0,vW 0,vW 0,vW 0,vW 0,vW 0,nS,nS,nS,nS,vB 0,vB 0,vB 0,vB 0,vB 0,nS]) 25 168 (aT.map s fun x cs q=>gq.row (qz U (bf.nle a)) aX (bf.nle o) q) (aT.map af fun x cs q=>gq.of (nT C W) q).rd gq.ones (fun w' hv x cs q=>gq.upd hv (qa s (by decide) ec) q) (by(try simp only[ef,be]);omega) (le (le (le (le (le J.size a0.size) a3.size) a4) l.size) r.size) fun ah ai bp aY X bs=>Pl 1<|aK 2<|?_
 have E:=av W X (fun x hx=>(b7 ((ci W s (by decide)) x hx) ax)) (fun _ _ h=>h)
 refine aq<|tA (sI (dir:=1) (E).rd (by(try simp only[List.length_append]);omega)) fun aZ b0 bv b1 bw bz F=>Pl 5<|aK 2<|?_
 have aj:=av aY F (fun x hx=>ax) (fun x cs q=>gq.upd F ec q)
 refine aq (args:=#[.slice ah ((L++d).length) ai,.slice aZ (((d6 1 (b++(ls.getD k [])).length (b++(ls.getD k []))).1).length) b0])<|m1 (ky (xs:=(L++d)) (ys:=(d6 1 (b++(ls.getD k [])).length (b++(ls.getD k []))).1) (mp.own aj).rd (b1).rd) fun bA Y=>Pl 2<|?_
 have G:=aQ F Y
 have ak:=aQ X G
 have an:=ut V (ut (aC.mono (S':=(c :: (ob Ah++(ob Bq++[])))) r (ac im (aH il aA))) ak (aH il aA)) (ac (ni f.size a2) (aH (c7 (bf.row a) f.size) (aH (c7 j lr) aA)))
 refine bl 64 ((!(decide ((L++d)=(d6 1 (b++(ls.getD k [])).length (b++(ls.getD k []))).1)))) (fun Z=>?_) (fun Z=>?_)
 have H:(decide ((L++d)=(d6 1 (b++(ls.getD k [])).length (b++(ls.getD k []))).1))=false:=by simpa using Z
 have b2:=of_decide_eq_false H
 refine am 5<|c1<|az 1<|rt<|br<|tr<|tr<|br<|tr<|rr (.bool false)<|?_
 have hs:false=true:=by exfalso;have hz:=iD (aV.range ((av E G (fun x hx=>ax) (fun _ _ h=>h))).rd) (fX N m);have y:=H;rw[hz] at y;simp at y
 rw[hs]
 exact⟨rfl,an⟩
 have H:(decide ((L++d)=(d6 1 (b++(ls.getD k [])).length (b++(ls.getD k []))).1))=true:=by simpa using Z
 have b2:=of_decide_eq_true H
 refine Pl 1<|?_
 have ao:=bf.upd o ak (b7 (dv (bf.cells o) s (by decide)) ax) (fun x hx=>(b7 ((ci (bf.row o) s (by decide)) x hx) ax))
 refine L1<|Oc<|m1 (gO ao) fun bB g=>am 3<|?_
 have ap:=aQ an g
 refine cb (((ad.held.length:Int)!=(((d6 1 (b++(ls.getD k [])).length (b++(ls.getD k []))).2:Nat) : Int))) (fun I=>?_) (fun I=>?_)
 have b3:=ay I
 refine az 1<|rt<|br<|tr<|tr<|br<|tr<|rr (.bool false)<|?_
 have hs:false=true:=by exfalso;have hz:=iD (aV.range ((av E (aQ G g) (fun x hx=>ax) (fun _ _ h=>h))).rd) (fX N m);have y:=I;rw[hz] at y;simp at y
 rw[hs]
 exact⟨rfl,ap⟩
 have b3:=aI I
 refine sk<|bn<|tn<|go<|Pl 1<|bt ((k:Int)+1)<|Pl 1<|nl<|?_
 have ar:=aQ Y g
 exact fv ((k+1),(b++(ls.getD k [])),a9,aP,ad,(L++d),aR,aS,ah,ai,ae) ⟨ap,(le (le (le (le (le (le a4 l.size) r.size) X.size) F.size) Y.size) g.size),(bf.upd ao g ax (fun x hx=>ax)),(av E (aQ G g) (fun x hx=>ax) (fun _ _ h=>h)),(av aj ar (fun x hx=>ax) (fun x cs q=>gq.upd ar ec q)),(by(try dsimp only);omega),(by(try dsimp only);have y:=dT (ls:=ls) (k:=k) (by omega);(try simp only[List.length_append]);omega),(by(try dsimp only);exact fX N m),(by(try dsimp only);have y:=dT (ls:=ls) (k:=k) (by omega);(try simp only[List.length_append]);omega),(eT (eu aW (eT (eu U O (bf.row a) lr)) C lr))⟩ (by omega)
 have aO:=of_decide_eq_false P
 exact xt<|tx<|tx<|bx<|tn<|az 2<|rt<|rr (.bool true)<|⟨rfl,i⟩
theorem iv(hd:¬ (dir=0∨dir=1))     (hA:fp mA w (.slice A ls.length cpA) ls)(hbb:∀ x,x∈ls→x.length≤140737488355328) :
    Calls Tryz.prog 3 #[vI dir,.slice A ls.length cpA] w (cg (.bool true) w):=by
 have hzA:=aG.len hA
 have e0:(dir != 0)=true:=by simp;omega
 have e1:(dir != 1)=true:=by simp;omega
 refine en 71 Tryz.func3 rfl<|al 1<|ng<|aq<|m1 (@l6 _) fun g b=>Pl 1<|aK 1<|?_
 refine aq<|m1 (i6 (fp.old hA b) hbb) fun h d=>am 1<|sq<|az 2<|?_
 have c:=aQ b d
 refine cb ((!(ez ls))) (fun a=>?_) (fun a=>?_)
 have e:(ez ls)=false:=by simpa using a
 exact az 2<|bq<|rr (.bool true)<|⟨rfl,c⟩
 have e:(ez ls)=true:=by simpa using a
 refine bu<|al 1<|aq<|m1 (mH e0 e1) fun i f=>am 1<|sq<|al 3<|sy 23 e0<|am 3<|ct e1<|az 6<|bq<|rr (.bool true)<|?_
 exact⟨rfl,(aQ c f)⟩
theorem j7{v:Value}  (hA:fp mA w v ls)(hbb:∀ x,x∈ls→x.length≤140737488355328) : Calls Tryz.prog 3 #[.int .i64 dir,v] w (cg (.bool true) w):=by
  obtain⟨A0,cp0,rfl,_,_⟩:=hA.shape
  by_cases h0:dir=0
  · subst h0;exact iy hA hbb
  by_cases h1:dir=1
  · subst h1;exact ik hA hbb
  exact iv (by omega) hA hbb
open Go.RowKit
section
variable {H:Type}{enc:TypeId × Value→H}{P:Program}{w:World}{base:Nat}{spare:Nat→Bool}{held:Bool}
theorem lH(b off:Nat)(sp:Option Nat)(n:Nat)(h:sp=none) : (⟨b,off,sp⟩ : Addr).add n=⟨b,off+n,none⟩:=gY b off n sp h
theorem oV{b off:Nat}{sp:Option Nat}{v:Value}(h:w.cell? ⟨b,off,sp⟩=some v) : sp=none:=by
  cases sp with
  | none=>rfl
  | some s =>
    unfold World.cell? at h
    simp at h
    split at h<;>cases h
theorem lD{α:Type}{Pd:DataW H→Prop}{R:World→α→List Value→Prop}{t e:TypeId}{sz fuel:Nat}{cs:List Value}{x:DataW H × List MemPlace}(ht:P.underlying t=some (.slice e))(hsz:P.cellsOf e=sz)(hp:0<sz)
    (hel:∀ n cs' y,cs'.length=sz→DataW.trod enc P w base spare held n e cs'=some y→Pd y.1→∃ x,R w x cs') (hP:∀ elems spare,x.1 = .slice elems spare→∀ d,d∈elems→Pd d) (h:DataW.trod enc P w base spare held fuel t cs=some x) : ∃ v xs,cs=[v]∧aG false e sz R w v xs:=by
  rcases Go.Deep.open_slice ht h with⟨rfl,_⟩|⟨a,len,cap,m,n,D,Pl,rfl,_,hl,hm,hmm,hxe,hx⟩
  · exact⟨_,[],rfl,aG.nil ..⟩
  have hlm:len≤m:=by rw[hmm];split<;>omega
  have key:∀ i:Fin len,∃ y:α × List Value,w.cells? base (a.add (i*sz)) sz=some y.2∧y.2.length=sz∧R w y.1 y.2:=fun i=>by
    obtain⟨cs',h1,h2⟩:=hx i (by omega)
    rw[hsz] at h1
    obtain⟨_,hlen,_⟩:=World.cells?_some h1
    obtain⟨y,hy⟩:=hel n cs' _ hlen h2 (hP _ _ (by rw[hxe]) _ (List.mem_map.2 ⟨i.1,List.mem_range.2 i.2,rfl⟩))
    exact⟨(y,cs'),h1,hlen,hy⟩
  obtain⟨f,hf⟩:=Classical.axiomOfChoice key
  refine⟨_,List.ofFn fun i=>(f i).1,rfl,some a,cap,by simp,by simpa using hl,hm,(fun h=>by cases h),fun hpos=>?_⟩
  have hpos':0<len:=by simpa using hpos
  obtain⟨b,off,sp⟩:=a
  have hsp:sp=none:=by
    obtain⟨h1,h2,_⟩:=hf ⟨0,hpos'⟩
    obtain⟨_,_,h3⟩:=World.cells?_some h1
    have h4:=h3 0 hp
    rw[List.getElem?_eq_getElem (by omega)] at h4
    cases sp with
    | none=>rfl
    | some s =>
      simp[Addr.add] at h4
      exact oV h4
  subst hsp
  have hc:∀ i:Fin len,∀ k u,(f i).2[k]? = some u→w.cell? ⟨b,off+i*sz+k,none⟩=some u:=fun i k u hu=>by
    obtain⟨h1,h2,_⟩:=hf i
    obtain⟨_,_,h3⟩:=World.cells?_some h1
    have hk:k<sz:=by have:=(List.getElem?_eq_some_iff.1 hu).1;omega
    have h4:=h3 k hk
    rw[lH _ _ _ _ rfl,lH _ _ _ _ rfl] at h4
    rw[h4,hu]
  have h0:∃ u,w.cell? ⟨b,off+0*sz+0,none⟩=some u:=by
    obtain⟨_,h2,_⟩:=hf ⟨0,hpos'⟩
    exact⟨_,hc ⟨0,hpos'⟩ 0 _ (List.getElem?_eq_getElem (by omega))⟩
  obtain⟨u,hu⟩:=h0
  unfold World.cell? at hu
  split at hu
  · rename_i cells t' fr hb
    refine⟨b,off,cells,t',fr,rfl,hb,fun h=>(by cases h),fun j y hj=>?_⟩
    have hjl:j<len:=by have:=(List.getElem?_eq_some_iff.1 hj).1;simpa using this
    have hy:(f ⟨j,hjl⟩).1=y:=by
      rw[List.getElem?_ofFn] at hj
      simpa [hjl] using hj
    obtain⟨_,h2,h3⟩:=hf ⟨j,hjl⟩
    refine⟨(f ⟨j,hjl⟩).2,h2,by rw[← hy];exact h3,fun i u hi=>?_⟩
    have:=hc ⟨j,hjl⟩ i u hi
    rw[bP hb] at this
    exact this
  · cases hu
theorem sj{α:Type}{R:World→α→List Value→Prop}{t e:TypeId}{sz fuel:Nat}{cs:List Value}{x:DataW H × List MemPlace}(ht:P.underlying t=some (.slice e))(hsz:P.cellsOf e=sz)(hp:0<sz)
    (hel:∀ n cs' y,cs'.length=sz→DataW.trod enc P w base spare held n e cs'=some y→∃ x,R w x cs') (h:DataW.trod enc P w base spare held fuel t cs=some x) : ∃ v xs,cs=[v]∧aG false e sz R w v xs :=
  lD (Pd:=fun _=>True) ht hsz hp (fun n cs' y h1 h2 _=>hel n cs' y h1 h2) (fun _ _ _ _ _=>trivial) h
end
section
variable {H:Type}{enc:TypeId × Value→H}{w:World}{base:Nat}{spare:Nat→Bool}{held:Bool}{n:Nat}{y:DataW H × List MemPlace}
theorem uF{cs:List Value}(h:DataW.trod enc Tryz.prog w base spare held n 5 cs=some y) : ∃ x,mv w x cs:=by
  obtain⟨k,rfl,_,hw⟩:=DataW.trod_int Tryz.underlying5 h
  exact⟨k,rfl,oR hw⟩
theorem ug{cs:List Value}(h:DataW.trod enc Tryz.prog w base spare held n 27 cs=some y) : ∃ v xs,cs=[v]∧aV false w v xs:=sj Tryz.underlying27 (by kernel_rfl) (by decide) (fun _ _ _ _ h=>uF h) h
end
open Go.RowKit
section
variable {H:Type}{enc:TypeId × Value→H}{w:World}{base:Nat}{spare:Nat→Bool}{held:Bool}{n:Nat}{y:DataW H × List MemPlace}
end
end Go.Proofs.YtdkhbcefkfgbdaaGreat
namespace Go.Proofs.YtdkhbcefkfgbdaaGreat
open Go.WideShapes
def vH (w:World)(b:List Int)(cs:List Value) : Prop:=∃ v,cs=[v]∧aV false w v b∧b.length≤140737488355328
section
variable {H:Type}{enc:TypeId × Value→H}{w:World}{base:Nat}{spare:Nat→Bool}{held:Bool}{n:Nat}{y:DataW H × List MemPlace}
theorem sU{cs:List Value}(h:DataW.trod enc Tryz.prog w base spare held n 27 cs=some y)(hp:∀ e2 s2,y.1 = .slice e2 s2→e2.length≤140737488355328) : ∃ b,vH w b cs:=by
  obtain⟨v,xs,hc,hr⟩:=ug h
  refine⟨xs,v,hc,hr,?_⟩
  obtain⟨A,c,hv,_,_⟩:=hr.shape
  rcases DataW.trod_slice Tryz.underlying27 h with⟨h1,_⟩|⟨a,len,cap,elems,rest,m,_,h1,h2,_,_,_,h3,_⟩
  · rw[hc] at h1
    simp only[List.cons.injEq,and_true] at h1
    rw[h1] at hv
    injection hv with _ h4 _
    omega
  · rw[hc] at h1
    simp only[List.cons.injEq,and_true] at h1
    rw[h1] at hv
    injection hv with _ h4 _
    have:=hp _ _ (by rw[h2])
    rw[List.length_map] at this
    omega
theorem s5{cs:List Value}(h:DataW.trod enc Tryz.prog w base spare held n 22 cs=some y)(hp:∀ elems sp,y.1 = .slice elems sp→∀ d,d∈elems→∀ e2 s2,d = .slice e2 s2→e2.length≤140737488355328) :
    ∃ v xs,cs=[v]∧fp false w v xs∧∀ x,x∈xs→x.length≤140737488355328:=by
  obtain⟨v,xs,hc,hr⟩:=lD (R:=vH) (sz:=1) (Pd:=fun d=>∀ e2 s2,d = .slice e2 s2→e2.length≤140737488355328) Tryz.underlying22 (by kernel_rfl) (by decide) (fun _ _ _ _ h hp=>sU h hp) hp h
  refine⟨v,xs,hc,aG.any hr (fun _ _ ⟨v,h1,h2,_⟩=>⟨v,h1,h2⟩),fun x hx=>?_⟩
  obtain⟨A,c,rfl,_,_⟩:=hr.shape
  obtain⟨j,hj⟩:=List.getElem?_of_mem hx
  have hl:=(List.getElem?_eq_some_iff.1 hj).1
  obtain⟨_,_,_,_,_,_,_,_,_,⟨_,_,_,h4⟩,_⟩:=aG.elt hr [] j hl
  rw[List.getD_eq_getElem?_getD,hj] at h4
  exact h4
end
theorem fI{H:Type}{P:Program}{e:TypeId}{d:DataW H}{k:Nat}(hk:k∈d.weights P e) : ∀ {l:List (DataW H)},d∈l→k∈DataW.weightsAll P e l
  | [],h=>by cases h
  | x :: r,h=>by
    simp only[DataW.weightsAll,List.mem_append]
    rcases List.mem_cons.1 h with rfl|h
    · exact .inl hk
    · exact .inr (fI hk h)
theorem rG{H:Type}{ts:List TypeId}{ds:List (DataW H)}(h:(DataW.weightsEach Tryz.prog ts ds).all (·≤reachBytes)=true){j:Nat}{d:DataW H}(ht:ts[j]? = some 22)(hd:ds[j]? = some d) :
    ∀ elems sp,d = .slice elems sp→∀ d2,d2∈elems→∀ e2 s2,d2 = .slice e2 s2→e2.length≤140737488355328:=by
  rintro elems sp rfl d2 hm e2 s2 rfl
  have hw:(e2.length+s2.length)*Tryz.prog.bytesOf 5∈(DataW.slice elems sp).weights Tryz.prog 22:=by
    simp only[DataW.weights,Tryz.underlying22,List.mem_cons,List.mem_append]
    refine .inr (.inl (fI ?_ hm))
    simp only[DataW.weights,Tryz.underlying27,List.mem_cons]
    exact .inl trivial
  have h2:=List.all_eq_true.1 h _ (DataW.weights_mem_each ht hd _ hw)
  have h3:(e2.length+s2.length)*Tryz.prog.bytesOf 5≤reachBytes:=by simpa using h2
  rw[show Tryz.prog.bytesOf 5=1 from by kernel_rfl] at h3
  have h4:reachBytes<2 ^ 47:=reachBytes_lt
  omega
end Go.Proofs.YtdkhbcefkfgbdaaGreat
