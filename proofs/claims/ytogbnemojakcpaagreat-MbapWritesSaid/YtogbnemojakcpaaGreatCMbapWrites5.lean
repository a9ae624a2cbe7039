/- Contracts of functions, part CMbapWrites5. -/
import Derived.Test.YtogbnemojakcpaaGreatCMbapWrites1
import Derived.Test.YtogbnemojakcpaaGreatCMbapWrites2
import Derived.Test.YtogbnemojakcpaaGreatCMbapWrites3
import Derived.Test.YtogbnemojakcpaaGreatCMbapWrites4
set_option linter.unusedVariables false
set_option linter.unusedSimpArgs false
set_option maxRecDepth 100000
set_option maxHeartbeats 4000000
namespace Go.Proofs.YtogbnemojakcpaaGreat
def N4 (C:aj) : Prop:=C.e≠4
theorem N4.need{C:aj}{b:Bool}{x:Int}(hx:x≠4)(h:N4 C) : N4 (C.need b x):=by
  unfold N4 aj.need at *
  split
  · exact hx
  · exact h
theorem N4.bytesC{C:aj}{n:Int}(h:N4 C) : N4 (C.bytesC n):=by
  unfold aj.bytesC
  split
  · exact N4.need (by decide) h
  · exact h
theorem N4.wordsC{C:aj}{n:Int}(h:N4 C) : N4 (C.wordsC n):=by
  unfold aj.wordsC
  split<;>exact N4.bytesC h
theorem N4.recs{one:Int→aj→Int × aj × dr}(ho:∀ s C,N4 C→N4 (one s C).2.1) : ∀ (n:Nat)(s:Int)(C:aj)(L:List dr),N4 C→N4 (aU one n s C L).1
  | 0,_,_,_,h=>h
  | n+1,s,C,L,h=>by
    unfold aU
    split
    · split
      · exact ho s C h
      · exact N4.recs ho n _ _ _ (ho s C h)
    · exact h
theorem N4.objs:∀ (n:Nat)(C:aj)(L:List Obj),N4 C→N4 (ea n C L).1
  | 0,_,_,h=>h
  | n+1,C,L,h=>N4.objs n _ _ (N4.bytesC (N4.bytesC (N4.bytesC h)))
theorem oX{x:Int}(h:x≠4) : bq x≠4:=by
  unfold bq
  split
  · decide
  · exact h
theorem sV{dir c:Int}{C:aj}{r:aj × aQ}(hC:N4 C)(h:aC dir c C=some r) : N4 r.1:=by
  unfold aC at h
  repeat' split at h
  all_goals first | cases h | skip
  all_goals simp only[cF,cn,ck,ew,bD,iK,dX,d6,kk,eX]
  all_goals repeat' first | with_reducible exact hC | with_reducible apply N4.bytesC | with_reducible apply N4.wordsC | (with_reducible refine N4.need (by decide) ?_)
theorem uI{dir c:Int}{C:aj}{r:aj × aQ}(hC:N4 C)(h:aI dir c C=some r) : N4 r.1:=by
  unfold aI at h
  repeat' split at h
  all_goals first | cases h | skip
  all_goals simp only[bL,bU,d8,cA,cm,cE,cC,i6,i3,gP,bJ,jL,db,fH,oD,vk,qA]
  all_goals repeat' first | with_reducible exact hC | with_reducible apply N4.bytesC | with_reducible apply N4.wordsC | (with_reducible refine N4.need (by decide) ?_)
theorem uG{dir c:Int}{C:aj}{r:aj × aQ}(hC:N4 C)(h:aR dir c C=some r) : N4 r.1:=by
  unfold aR dL bX at h
  repeat' split at h
  all_goals first | cases h | skip
  all_goals simp only[eR,iU,fq,fO,dt]
  all_goals repeat' first | with_reducible exact hC | with_reducible apply N4.bytesC | with_reducible apply N4.wordsC | (with_reducible refine N4.need (by decide) ?_)
theorem vE(s:Int)(C:aj)(h:N4 C) : N4 (cX s C).2.1:=by
  simp only[cX,eC,dF,eu,iw,lx]
  repeat' first | with_reducible exact h | with_reducible apply N4.bytesC | with_reducible apply N4.wordsC | (with_reducible refine N4.need (by decide) ?_)
theorem sE(s:Int)(C:aj)(h:N4 C) : N4 (bH s C).2.1:=by
  simp only[bH,eQ,gZ,fQ]
  repeat' first | with_reducible exact h | with_reducible apply N4.bytesC | with_reducible apply N4.wordsC | (with_reducible refine N4.need (by decide) ?_)
theorem vu(s:Int)(C:aj)(h:N4 C) : N4 (cY s C).2.1:=by
  simp only[cY,iC,lU,dF,eu,iw,lx]
  repeat' first | with_reducible exact h | with_reducible apply N4.bytesC | with_reducible apply N4.wordsC | (with_reducible refine N4.need (by decide) ?_)
theorem jp{one:Int→aj→Int × aj × dr}(ho:∀ s C,N4 C→N4 (one s C).2.1)(may:Int→Bool)(c:Int){C:aj}(hC:N4 C) : N4 (dy one may c C).1:=by
  unfold dy jg
  refine N4.need (oX (N4.recs ho _ _ _ _ ?_)) (N4.bytesC (N4.need (by decide) (N4.bytesC hC)))
  show(0:Int)≠4
  decide
theorem tU{dir c:Int}{C:aj}{r:aj × aQ}(hC:N4 C)(h:aX dir c C=some r) : N4 r.1:=by
  unfold aX at h
  repeat' split at h
  all_goals first | cases h | skip
  · exact jp vE _ _ hC
  · exact jp sE _ _ hC
  · exact jp vu _ _ hC
theorem N4.endC{C:aj}(h:N4 C) : N4 C.endC:=by
  unfold aj.endC
  exact N4.need (by decide) h
theorem tJ{form:Int→Int→aj→Option (aj × aQ)}(hg:∀ {dir c:Int}{C:aj}{r:aj × aQ},N4 C→form dir c C=some r→N4 r.1){dir c:Int}{b:List Int}(hd:dir=0∨dir=1){r:aj × aQ}(hf:form dir c ⟨b,false,0⟩=some r) :
    (ag form dir c b).2≠4:=by
  unfold ag
  rw[if_pos hd,hf]
  have h0:N4 ⟨b,false,0⟩:=by show(0:Int)≠4;decide
  have g1:=hg h0 hf
  show(aL r.2 r.1).2≠4
  unfold aL
  split
  · exact(show ¬ (0:Int)=4 from by decide)
  · exact N4.endC g1
theorem kA{form:Int→Int→aj→Option (aj × aQ)}{dir c:Int}{b:List Int}(hd:dir=0∨dir=1)(hf:form dir c ⟨b,false,0⟩=none) : ag form dir c b=(aQ.zero,4):=by
  unfold ag
  rw[if_pos hd,hf]
def fk (dir:Int)(b:List Int) : aQ × Int :=
  if (ag aC dir (b.getD 0 0) (b.drop 1)).2==4 then
    if (ag aI dir (b.getD 0 0) (b.drop 1)).2==4 then
      if (ag aR dir (b.getD 0 0) (b.drop 1)).2==4 then
        if (ag aX dir (b.getD 0 0) (b.drop 1)).2==4 then ag bz dir (b.getD 0 0) (b.drop 1)
        else ag aX dir (b.getD 0 0) (b.drop 1)
      else ag aR dir (b.getD 0 0) (b.drop 1)
    else ag aI dir (b.getD 0 0) (b.drop 1)
  else ag aC dir (b.getD 0 0) (b.drop 1)
theorem rG{dir:Int}{b:List Int}(hd:dir=0∨dir=1) : fk dir b=hY (iM (b.getD 0 0)) dir b:=by
  have no:∀ (form:Int→Int→aj→Option (aj × aQ)),form dir (b.getD 0 0) ⟨b.drop 1,false,0⟩=none→((ag form dir (b.getD 0 0) (b.drop 1)).2==4)=true:=fun f h=>by rw[kA hd h];rfl
  have ye:∀ (form:Int→Int→aj→Option (aj × aQ)),(∀ {dir c:Int} {C:aj} {r:aj × aQ},N4 C→form dir c C=some r→N4 r.1)→(form dir (b.getD 0 0) ⟨b.drop 1,false,0⟩).isSome=true→¬ ((ag form dir (b.getD 0 0) (b.drop 1)).2==4)=true:=fun form hg h=>by
    obtain⟨r,hr⟩:=Option.isSome_iff_exists.1 h
    have k:=tJ (form:=form) (c:=b.getD 0 0) (fun hC h=>hg hC h) hd hr
    rw[beq_iff_eq]
    exact k
  unfold fk
  rcases gq (b.getD 0 0) with⟨hk,hf⟩|⟨hk,hf⟩|⟨hk,hf⟩|⟨hk,hf⟩|⟨hk,hf⟩|⟨hk,hf⟩<;>rw[hf]
  · rw[if_neg (ye aC (fun hC h=>sV hC h) (by rcases hd with rfl | rfl<;>rcases hk with h | h | h | h<;>rw[h]<;>rfl))]
    rfl
  · rw[if_pos (no aC (by rcases hk with h | h | h | h | h | h | h<;>rw[h]<;>rfl)),if_neg (ye aI (fun hC h=>uI hC h) (by rcases hd with rfl | rfl<;>rcases hk with h | h | h | h | h | h | h<;>rw[h]<;>rfl))]
    rfl
  · rw[if_pos (no aC (by rcases hk with h | h | h | h | h<;>rw[h]<;>rfl)),if_pos (no aI (by rcases hk with h | h | h | h | h<;>rw[h]<;>rfl)),if_neg (ye aR (fun hC h=>uG hC h) (by rcases hd with rfl | rfl<;>rcases hk with h | h | h | h | h<;>rw[h]<;>rfl))]
    rfl
  · rw[if_pos (no aC (by rcases hk with h | h<;>rw[h]<;>rfl)),if_pos (no aI (by rcases hk with h | h<;>rw[h]<;>rfl)),if_pos (no aR (by rcases hk with h | h<;>rw[h]<;>rfl)),if_neg (ye aX (fun hC h=>tU hC h) (by rcases hd with rfl | rfl<;>rcases hk with h | h<;>rw[h]<;>rfl))]
    rfl
  · rw[if_pos (no aC (by rw[hk]<;>rfl)),if_pos (no aI (by rw[hk]<;>rfl)),if_pos (no aR (by rw[hk]<;>rfl)),if_pos (no aX (by rw[hk]<;>rfl))]
    rfl
  · have no0:∀ (form:Int→Int→aj→Option (aj × aQ)),(∀ C,form dir (b.getD 0 0) C=none)→((ag form dir (b.getD 0 0) (b.drop 1)).2==4)=true:=fun f h=>no f (h _)
    have ne:∀ k:Int,¬ b.getD 0 0=k→(b.getD 0 0==k)=false:=fun k h=>by simpa using h
    obtain⟨z1,z2,z5,a,z3,z4,z6,d,e,g,i,z7,z8,j,l,m,n,o,p⟩:=hk
    rw[if_pos (no0 aC fun C=>by unfold aC;simp only[ne _ z1,ne _ z2,ne _ z5,ne _ a,Bool.or_false,Bool.false_eq_true,if_false]),if_pos (no0 aI fun C=>by unfold aI;simp only[ne _ z3,ne _ z4,ne _ z6,ne _ d,ne _ e,ne _ g,ne _ i,Bool.or_false,Bool.false_eq_true,if_false]),if_pos (no0 aR fun C=>by unfold aR;simp only[ne _ z7,ne _ z8,ne _ j,ne _ l,ne _ m,Bool.or_false,Bool.false_eq_true,if_false]),if_pos (no0 aX fun C=>by unfold aX;simp only[ne _ n,ne _ o,Bool.or_false,Bool.false_eq_true,if_false])]
    exact kA hd (by unfold bz;rw[if_pos (show(b.getD 0 0 != 43)=true from by rw[bne_iff_ne];exact p)])
def gF (dir:Int)(b:List Int) : aQ × Int :=
  if dir != 0&&dir != 1 then (aQ.zero,1)
  else if (b.length:Int)==0 then (aQ.zero,2)
  else if decide (253<(b.length:Int)) then (aQ.zero,3)
  else if decide (128≤b.getD 0 0)&&dir==1 then eg b
  else fk dir b
theorem fy(dir:Int)(b:List Int) : gF dir b=cZ dir b:=by
  unfold gF cZ
  split
  · rfl
  · rename_i hh
    have hd:dir=0∨dir=1:=by simp only[Bool.and_eq_true,bne_iff_ne,ne_eq] at hh;omega
    rw[rG hd]
open Go.RowKit
theorem kp{P:Program}(t e:TypeId)(sz:Nat){i:TypeInfo}(ht:P.underlying t=some (.slice e))(hi:P.info? e=some i)(hsz:i.size=sz)(A:Option Addr)(n c:Nat){lo up:Int}(k h:Nat)(hlo:lo=(k:Int))(hup:up=(h:Int))(hk:k≤h)(hh:h≤n)(hc:n≤c) :
    ∃ A':Option Addr,(∀ (kl kh:IntKind) (W:World),(Instr.slice t (.slice A n c) (some (.int kl lo)) (some (.int kh up)) none).run P W = .ok (.slice A' (h-k) (c-k)) W) ∧
      ∀ {α:Type} (m:Md) (e':TypeId) (R:World→α→List Value→Prop) (w:World) (xs:List α),aS m e' sz R w (.slice A n c) xs→aS m e' sz R w (.slice A' (h-k) (c-k)) ((xs.take h).drop k):=by
  subst hlo hup
  exact wW t e sz ht hi hsz A n c k h hk hh hc
theorem iu{o:Oper}{ev:Operand→Value}{P:Program}{w:World}{t:TypeId}{x y z:Operand}{A:Option Addr}{n c:Nat}{kl kh:IntKind}{lo hi:Int}{v:Value}{e:TypeId}(ho:o.op = .slice t x (some y) (some z) none)(ht:P.underlying t=some (.slice e))(hx:ev x = .slice A n c)(hy:ev y = .int kl lo)(hz:ev z = .int kh hi)
    (hr:(Instr.slice t (.slice A n c) (some (.int kl lo)) (some (.int kh hi)) none).run P w = .ok v w) : (execOp ev o).run P w = .ok (.value v) w:=by
  have hu:(underlying t).run P w = .ok (.slice e) w:=run_underlying ht w
  unfold execOp
  simp only[ho,Option.map_some,Option.map_none,hx,hy,hz,Instr.sliceAt,Sem.run_bind,hu,hr,Result.andThen,Sem.run_pure]
open Go.RowKit
theorem rj{xs:List Int}{k a b:Nat}(h:2*k+1<xs.length)(ha:a=2*k)(hb:b=2*k+1)(hr:∀ x,x∈xs→0≤x∧x<256) : du (xs.drop (2*k))=[(((256*xs.getD a 0)%65536)+xs.getD b 0)%65536]++du (xs.drop (2*(k+1))):=by
  subst ha hb
  rw[List.drop_eq_getElem_cons (show 2*k<xs.length by omega),List.drop_eq_getElem_cons h]
  have h1:=hr _ (List.getElem_mem (show 2*k<xs.length by omega))
  have h2:=hr _ (List.getElem_mem h)
  have e1:xs.getD (2*k) 0=xs[2*k]:=by rw[List.getD_eq_getElem?_getD,List.getElem?_eq_getElem (by omega)];rfl
  have e2:xs.getD (2*k+1) 0=xs[2*k+1]:=by rw[List.getD_eq_getElem?_getD,List.getElem?_eq_getElem h];rfl
  rw[e1,e2]
  show(xs[2*k]*256+xs[2*k+1]) :: du (xs.drop (2*k+1+1))=_
  rw[show 2*k+1+1=2*(k+1) by omega,show((256*xs[2*k])%65536+xs[2*k+1])%65536=xs[2*k]*256+xs[2*k+1] by omega]
  rfl
theorem qI{xs L:List Int}{k:Nat}(h:L++du (xs.drop (2*k))=du xs)(h1:¬ 2*k+1<xs.length)(h2:xs.length%2=0) : L=cD xs:=by
  have hd:xs.drop (2*k)=[]:=List.drop_eq_nil_of_le (by omega)
  rw[hd] at h
  unfold cD
  rw[if_pos h2,← h]
  simp[du]
theorem wA{m:Md}{A:Option Addr}{cp:Nat}{xs:List Int}{w:World}(h:bh m w (.slice A xs.length cp) xs)(hn:xs.length≤1048576) : Calls Tryz.prog 217 #[.slice A xs.length cp] w (sI xs w):=by
 have hr:=bh.range h
 refine en 33 Tryz.func217 rfl<|sg<|Pl 1<|ng<|Pl 1<|nt<|sq<|sg<|?_
 refine Pl 2<|L0<|Oe (.int .i64 (Int.tmod ((xs.length:Nat) : Int) 2)) (.int .i64 (((xs.length:Nat) : Int)%2)) (congrArg (Value.int .i64) (Int.tmod_eq_emod_of_nonneg (by omega)))<|Pl 1<|nt<|cb (((((xs.length:Nat) : Int)%2)==1)) (fun f=>?_) (fun f=>?_)
 have y:=ae f
 refine sg<|Pl 1<|nt<|rt<|tr<|rr (.slice none 0 0)<|?_
 have hs:cD xs=[]:=by unfold cD;rw[if_neg (by have:=ae f;omega)]
 exact⟨_,rfl,by rw[hs];exact aW.nil ..,(aF.refl [] _)⟩
 have y:=ak f
 refine bp<|sq<|sg<|Pl 1<|nt<|bk<|?_
 refine js (fun x=>[(0,.slice A xs.length cp),(2,.slice none 0 0),(3,.slice x.2.2.1 x.2.1.length x.2.2.2),(4,.int .i64 ((2*x.1:Nat) : Int))]) (fun(x:Nat × List Int × Option Addr × Nat) w'=>aF [] w w'∧ka w.heap.size w' (.slice x.2.2.1 x.2.1.length x.2.2.2) x.2.1∧(2*x.1≤xs.length)∧(x.2.1++du (xs.drop (2*x.1))=du xs)∧(x.2.1.length=x.1)) (fun x=>xs.length-2*x.1) (0,[],none,0) ⟨aF.refl _ _,(aW.nil w.heap.size _ _ rP _),(by(try dsimp only);omega),rfl,rfl⟩ ?_
 rintro⟨k,L,B,cq⟩ z ⟨g,C,D,E,F⟩
 refine ju [(0,.slice A xs.length cp),(2,.slice none 0 0),(3,.slice B L.length cq),(4,.int .i64 ((2*k:Nat) : Int))] ?_
 have j:ka w.heap.size z (.slice B L.length cq) L:=C
 have T:2*k≤xs.length:=D
 have U:L++du (xs.drop (2*k))=du xs:=E
 have V:L.length=k:=F
 have hL:L++du (xs.drop (2*k))=du xs:=by assumption
 refine sq<|sg<|Pl 1<|L0<|Oi (((2*k:Nat) : Int)+1)<|Pl 3<|nt<|cb ((decide ((((2*k:Nat) : Int)+1)<((xs.length:Nat) : Int)))) (fun l=>?_) (fun l=>?_)
 have G:=of_decide_eq_true l
 refine bp<|sq<|bk<|?_
 have o:=bh.old h g
 refine gf (bh.at_ o (2*k) (by omega)) fun H I p q W=>gf (bh.at_ o (((((2*k:Nat) : Int)+1)).toNat) (by omega)) fun J K r s X=>Rg 17 (fun w'=>w'.cell? ⟨H,I+2*k,none⟩=some (.int .u8 (xs.getD (2*k) 0))∧w'.cell? ⟨J,K+((((2*k:Nat) : Int)+1)).toNat,none⟩=some (.int .u8 (xs.getD (((((2*k:Nat) : Int)+1)).toNat) 0))) fun Y d=>bj ⟨(uc d q),(uc d s)⟩ fun c=>Rt 0 c<|Rt 1 c<|Rt 2 c<|mh 3 c xs.length (2*k) ((2*k:Nat) : Int) rfl p (by omega)<|Rl 4 c (fun _ hs=>hs.1)<|Rr 5 c (.int .u16 (xs.getD (2*k) 0)) (fun _ _=>bZ (.int .u16 (IntKind.u16.wrap (xs.getD (2*k) 0))) (by kernel_rfl) (congrArg (Value.int .u16) (iO (by omega))))<|Rt 6 c<|Rt 7 c<|Rt 8 c<|Rr 9 c (.int .i64 (((2*k:Nat) : Int)+1)) (fun _ _=>bZ (.int .i64 (IntKind.i64.wrap (((2*k:Nat) : Int)+1))) (by kernel_rfl) (congrArg (Value.int .i64) (IntWalk.i64_in _ (by omega))))<|?_
 refine mh 10 c xs.length (((((2*k:Nat) : Int)+1)).toNat) (((2*k:Nat) : Int)+1) (by omega) r (by omega)<|Rl 11 c (fun _ hs=>hs.2)<|Rr 12 c (.int .u16 (xs.getD (((((2*k:Nat) : Int)+1)).toNat) 0)) (fun _ _=>bZ (.int .u16 (IntKind.u16.wrap (xs.getD (((((2*k:Nat) : Int)+1)).toNat) 0))) (by kernel_rfl) (congrArg (Value.int .u16) (iO (by omega))))<|Rt 13 c<|R0 14 rfl<|cK (m:=1) (e:=24) #[.int .u16 ((((256*(xs.getD (2*k) 0))%65536)+(xs.getD (((((2*k:Nat) : Int)+1)).toNat) 0))%65536)] fun Z a0 M N n=>?_
 have O:=dc M (xs:=[((((256*(xs.getD (2*k) 0))%65536)+(xs.getD (((((2*k:Nat) : Int)+1)).toNat) 0))%65536)]) (by as_aux_lemma=>kernel_rfl) (am (by omega) aJ) (by(try simp only[List.length_cons,List.length_nil]);omega) N
 have i:=aG d n
 refine bj ⟨(uc i q),(uc i s)⟩ fun a1=>?_
 refine R0 15 rfl<|bE nz (xs:=L) (ys:=([((((256*(xs.getD (2*k) 0))%65536)+(xs.getD (((((2*k:Nat) : Int)+1)).toNat) 0))%65536)])) (.int .u16 0) 2 (aq j i (fun x hx=>aA) (fun _ _ h=>h)) (O).rd (by(try simp only[List.length_append,List.length_cons,List.length_nil,ay]);omega) (le (le g.size d.size) n.size) fun P Q a2 R t=>?_
 have a3:=ut (aF.mono (S':=(ob B++[])) i av) t (al (fun x hx=>Or.inl (by simp[hx])) av)
 have u:=ut (aG (aG g d) n) t (al (aM j lr) av)
 have v:=bh.old h u
 exact bj ⟨(cB v p (2*k) (by omega)),(cB v r (((((2*k:Nat) : Int)+1)).toNat) (by omega))⟩ fun S=>Rt 16 S<|re<|bn<|tn<|go<|Pl 1<|L0<|Oi (((2*k:Nat) : Int)+2)<|Pl 1<|nl<|gM ((k+1),(L++[((((256*(xs.getD (2*k) 0))%65536)+(xs.getD (((((2*k:Nat) : Int)+1)).toNat) 0))%65536)]),P,Q) ⟨u,R,(by(try dsimp only);omega),(by(try dsimp only);rw[← hL,rj (k:=k) (a:=2*k) (b:=(((2*k:Nat) : Int)+1).toNat) (by omega) rfl (by omega) hr,List.append_assoc]),(by(try dsimp only);simp only[List.length_append,List.length_cons,List.length_nil];omega)⟩ (by omega)
 have G:=of_decide_eq_false l
 refine xt<|tx<|tx<|bx<|tn<|sg<|Pl 2<|nt<|rt<|rr (.slice B L.length cq)<|?_
 have hs:L=cD xs:=qI hL (by omega) (by omega)
 exact⟨_,rfl,by rw[← hs];exact j,g⟩
theorem vN{m:Md}{v:Value}{xs:List Int}{w:World}(h:bh m w v xs)(hn:xs.length≤1048576) : Calls Tryz.prog 217 #[v] w (sI xs w):=by
  obtain⟨A,cp,rfl,_,_⟩:=h.shape
  exact wA h hn
theorem qn{a n:Int}{w:World}(ha:0≤a∧a<65536)(hn : -1048576≤n∧n≤1048576) : Calls Tryz.prog 215 #[.int .u16 a,.int .i64 n] w (dM (.bool (dH a n)) w):=by
 refine en 16 Tryz.func215 rfl<|sg<|Pl 1<|nt<|sq<|sg<|Pl 3<|cu 3 [7] 10 (((decide (n<1))||(decide (65536<n)))) (fun K d=>?_) ?_
 refine bl 7 ((decide (n<1))) (fun b=>?_) (fun b=>?_)
 have e:=of_decide_eq_true b
 exact Pl 3<|ce d true (by rw[b];rfl)
 have e:=of_decide_eq_false b
 exact Pl 3<|ce d (decide (65536<n)) (by rw[b];rfl)
 refine nt<|cb (((decide (n<1))||(decide (65536<n)))) (fun c=>?_) (fun c=>?_)
 refine sg<|Pl 1<|nt<|rt<|tr<|rr (.bool false)<|?_
 have hq:=c
 have hs:dH a n=false:=by unfold dH;simp only[Bool.or_eq_true,decide_eq_true_eq] at hq;simp only[Bool.and_eq_false_iff,decide_eq_false_iff_not];omega
 rw[hs]
 exact⟨rfl,(aF.refl [] _)⟩
 have f:=(aH c).1
 have g:=(aH c).2
 have h:=of_decide_eq_false f
 have i:=of_decide_eq_false g
 refine bp<|sg<|Pl 1<|L0<|Oi a<|Pl 1<|L0<|Oi (a+n)<|Pl 2<|nt<|rt<|rr (.bool (decide ((a+n)≤65536)))<|?_
 have hs:dH a n=(decide ((a+n)≤65536)):=by unfold dH;rw[Bool.eq_iff_iff];simp only[Bool.and_eq_true,decide_eq_true_eq];omega
 rw[hs]
 exact⟨rfl,(aF.refl [] _)⟩
open Go.RowKit
def yV (A:Option Addr)(cp:Nat)(full:List Int)(k:Nat)(C:aj) : Array Value:=#[.slice A full.length cp,.int .i64 ((k:Nat) : Int),.bool C.sh,.int .i64 C.e]
structure RC (w0:World) (m:Md) (A:Option Addr) (cp:Nat) (full:List Int) (w:World) (g:Nat) (C:aj) : Prop where
  src:bh m w0 (.slice A full.length cp) full
  u:aF [] w0 w
  new:w0.heap.size≤g
  cell:∃ k:Nat,w.heap[g]? = some (.cells (yV A cp full k C) 159 (0,0))∧k≤full.length∧C.l=full.drop k
  len:full.length≤1048576
theorem RC.upd{w0:World}{m:Md}{A:Option Addr}{cp:Nat}{full:List Int}{w w':World}{g:Nat}{C:aj}{S:List Nat}(h:RC w0 m A cp full w g C)(hu:aF S w w')(hg:g∉S)(U:aF [] w0 w') : RC w0 m A cp full w' g C:=by
  obtain⟨h1,h2,h3,⟨k,h4,h5,h6⟩,h7⟩:=h
  exact⟨h1,U,h3,⟨k,hu.blk hg h4,h5,h6⟩,h7⟩
theorem RC.rd{w0:World}{m:Md}{A:Option Addr}{cp:Nat}{full:List Int}{w:World}{g:Nat}{C:aj}(h:RC w0 m A cp full w g C) : bh m w (.slice A full.length cp) full:=bh.old h.src h.u
theorem RC.rng{w0:World}{m:Md}{A:Option Addr}{cp:Nat}{full:List Int}{w:World}{g:Nat}{C:aj}(h:RC w0 m A cp full w g C) : ∀ x,x∈C.l→0≤x∧x<256:=fun x hx=>by
  obtain⟨k,_,_,h2⟩:=h.cell
  rw[h2] at hx
  exact bh.range h.src x (List.mem_of_mem_drop hx)
theorem vq(C:aj){ok:Bool}{x:Int}(h:(ok || (C.e != 0))=true) : C.need ok x=C:=by
  unfold aj.need
  rw[if_neg]
  rintro⟨h1,rfl⟩
  rw[h1] at h
  cases h
theorem uT(C:aj){ok:Bool}{x:Int}(h:(ok || (C.e != 0))=false) : C.need ok x = { C with e:=x }:=by
  simp only[Bool.or_eq_false_iff,bne_eq_false_iff_eq] at h
  unfold aj.need
  rw[if_pos ⟨h.2,h.1⟩]
def vW (w0:World)(m:Md)(A:Option Addr)(cp:Nat)(full:List Int)(g:Nat)(C:aj)(w:World)(e:Ending)(w':World) : Prop:=e = .returned (.tuple #[])∧RC w0 m A cp full w' g C∧aF [g] w w'
theorem b7{w0:World}{m:Md}{A:Option Addr}{cp:Nat}{full:List Int}{w:World}{g:Nat}{C:aj}(ok:Bool)(x:Int)(hC:RC w0 m A cp full w g C) :
    Calls Tryz.prog 152 #[.pointer (some ⟨g,0,none⟩),.bool ok,.int .i64 x] w (vW w0 m A cp full g (C.need ok x) w):=by
 obtain⟨hsrc,hU,hnew,⟨k,hB,hk,hl⟩,hlen⟩:=hC
 refine en 18 Tryz.func152 rfl<|sq<|sg<|Pl 2<|cu 6 [7] 13 ((ok || (C.e != 0))) (fun K c=>?_) ?_
 refine bl 7 (ok) (fun b=>?_) (fun b=>?_)
 exact Pl 6<|ce c true (by rw[b];rfl)
 exact Pl 3<|L1<|aP hB 3<|Pl 2<|ce c (C.e != 0) (by rw[b];rfl)
 refine nt<|cb ((ok || (C.e != 0))) (fun a=>?_) (fun a=>?_)
 refine rt<|tr<|rr (.tuple #[])<|?_
 rw[vq C a]
 exact⟨rfl,⟨hsrc,hU.trans' (aF.mono (S':=[g]) (aF.refl [] _) av) (fun x hx=>.inr (by simp at hx;subst hx;exact hnew)),hnew,⟨k,hB,hk,hl⟩,hlen⟩,(aF.mono (S':=[g]) (aF.refl [] _) av)⟩
 have i:=(aH a).1
 have f:=(aH a).2
 have j:=ai f
 refine bp<|go<|Pl 4<|L0<|cj hB 3 #[.slice A full.length cp,.int .i64 ((k:Nat) : Int),.bool C.sh,.int .i64 x] fun l h d=>nl<|rm (.tuple #[])<|?_
 rw[uT C a]
 exact⟨rfl,⟨hsrc,hU.trans' d (fun x hx=>.inr (by simp at hx;subst hx;exact hnew)),hnew,⟨k,h,hk,hl⟩,hlen⟩,d⟩
theorem ja{C:aj}{full:List Int}{k:Nat}{n:Int}(hk:k≤full.length)(hl:C.l=full.drop k) : C.fails n=((C.sh || decide (n<0))||decide ((((full.length:Nat) : Int)-((k:Nat) : Int))<n)):=by
  unfold aj.fails
  rw[hl,List.length_drop,show((full.length-k:Nat) : Int)=((full.length:Nat) : Int)-((k:Nat) : Int) by omega]
def ul (w0:World)(m:Md)(A:Option Addr)(cp:Nat)(full:List Int)(g:Nat)(C:aj)(n:Int)(w:World)(e:Ending)(w':World) : Prop:=∃ A2 n2 c2,e = .returned (.slice A2 n2 c2)∧(∀ m' w'',bh m' w'' (.slice A full.length cp) full→bh m' w'' (.slice A2 n2 c2) (C.bytesR n))∧RC w0 m A cp full w' g (C.bytesC n)∧aF [g] w w'
theorem vt{l full:List Int}{k a b:Nat}(hl:l=full.drop k)(h:b=k+a) : l.drop a=full.drop b:=by
  rw[hl,List.drop_drop,h]
theorem p8{C:aj}{full:List Int}{k:Nat}{n:Int}(hk:k≤full.length)(hl:C.l=full.drop k)(hf:C.fails n=false)(a b:Nat)(ha:(a:Int)=k)(hb:(b:Int)=(k:Int)+n) : (full.take b).drop a=C.bytesR n:=by
  obtain rfl:a=k:=by omega
  unfold aj.bytesR
  rw[hf,hl,List.drop_take]
  show _=(full.drop a).take n.toNat
  rw[show b-a=n.toNat by omega]
theorem oY{w0:World}{m:Md}{A:Option Addr}{cp:Nat}{full:List Int}{w:World}{g:Nat}{C:aj}{n:Int}(hn : -1048576≤n∧n≤2097152)(hC:RC w0 m A cp full w g C) :
    Calls Tryz.prog 153 #[.pointer (some ⟨g,0,none⟩),.int .i64 n] w (ul w0 m A cp full g C n w):=by
 obtain⟨hsrc,hU,hnew,⟨k,hB,hk,hl⟩,hlen⟩:=hC
 have hcp:full.length≤cp:=by obtain⟨_,_,hv,h1,_⟩:=aS.shape hsrc;injection hv with _ _ h3;omega
 refine en 64 Tryz.func153 rfl<|sg<|Pl 1<|nt<|sq<|sq<|Rg 22 (fun w'=>w'.cell? ⟨g,2,none⟩=some (.bool C.sh)∧w'.cell? ⟨g,0,none⟩=some (.slice A full.length cp)∧w'.cell? ⟨g,1,none⟩=some (.int .i64 ((k:Nat) : Int))) fun a4 i=>?_
 have d:=ub i hB
 refine bj ⟨(ah d rfl),(ah d rfl),(ah d rfl)⟩ fun a=>Rt 0 a<|Rt 1 a<|Rt 2 a<|Rl 3 a (fun _ hs=>hs.1)<|Rt 4 a<|si 9 (C.sh) (fun j=>?_) (fun j=>?_)
 refine Ro 5 a<|Ro 6 a<|Rt 7 a<|Rt 8 a<|Ro 9 a<|Ro 10 a<|Ro 11 a<|Ro 12 a<|Ro 13 a<|Ro 14 a<|Ro 15 a<|Ro 16 a<|Ro 17 a<|Ro 18 a<|?_
 refine Ro 19 a<|Ro 20 a<|Rt 21 a<|re<|tn<|c1<|sg<|Pl 3<|L0<|cj d 2 #[.slice A full.length cp,.int .i64 ((k:Nat) : Int),.bool true,.int .i64 C.e] fun a5 q D=>ng<|?_
 refine Pl 4<|L0<|aP q 0<|Pl 3<|L0<|cj q 1 #[.slice A full.length cp,.int .i64 ((full.length:Nat) : Int),.bool true,.int .i64 C.e] fun E F G=>ng<|Pl 1<|?_
 have r:=u1 (u1 (aF.mono (S':=[g]) i av) D im) G im
 have H:RC w0 m A cp full E g { C with l:=[],sh:=true }:=⟨hsrc,hU.trans' r (fun x hx=>.inr (by simp at hx;subst hx;exact hnew)),hnew,⟨full.length,F,Nat.le_refl _,List.drop_length.symm⟩,hlen⟩
 refine L0<|Oc<|m2 (b7 false 2 H) fun a6 I J=>ng<|Pl 1<|nt<|rt<|tr<|rr (.slice none 0 0)<|?_
 have hf:C.fails n=true:=by rw[ja (n:=n) hk hl,j];rfl
 have e1:C.bytesR n=[]:=by unfold aj.bytesR;rw[hf];rfl
 have e2:C.bytesC n=aj.need { C with l:=[],sh:=true } false 2:=by unfold aj.bytesC;rw[hf];rfl
 exact⟨none,0,0,rfl,fun _ _ _=>by rw[e1];exact aS.nil ..,by rw[e2];exact I,(u1 r J im)⟩
 refine Rt 5 a<|Rt 6 a<|Rt 7 a<|Rt 8 a<|si 13 ((decide (n<0))) (fun f=>?_) (fun f=>?_)
 have K:=of_decide_eq_true f
 refine Ro 9 a<|Ro 10 a<|Ro 11 a<|Ro 12 a<|Ro 13 a<|Ro 14 a<|Ro 15 a<|Ro 16 a<|Ro 17 a<|Ro 18 a<|Ro 19 a<|Ro 20 a<|Rt 21 a<|re<|?_
 refine tn<|c1<|sg<|Pl 3<|L0<|cj d 2 #[.slice A full.length cp,.int .i64 ((k:Nat) : Int),.bool true,.int .i64 C.e] fun a7 s L=>ng<|Pl 4<|L0<|aP s 0<|Pl 3<|L0<|cj s 1 #[.slice A full.length cp,.int .i64 ((full.length:Nat) : Int),.bool true,.int .i64 C.e] fun M N O=>?_
 refine ng<|Pl 1<|?_
 have t:=u1 (u1 (aF.mono (S':=[g]) i av) L im) O im
 have Q:RC w0 m A cp full M g { C with l:=[],sh:=true }:=⟨hsrc,hU.trans' t (fun x hx=>.inr (by simp at hx;subst hx;exact hnew)),hnew,⟨full.length,N,Nat.le_refl _,List.drop_length.symm⟩,hlen⟩
 refine L0<|Oc<|m2 (b7 false 2 Q) fun a8 R S=>ng<|Pl 1<|nt<|rt<|tr<|rr (.slice none 0 0)<|?_
 have hf:C.fails n=true:=by rw[ja (n:=n) hk hl,j,f];rfl
 have e1:C.bytesR n=[]:=by unfold aj.bytesR;rw[hf];rfl
 have e2:C.bytesC n=aj.need { C with l:=[],sh:=true } false 2:=by unfold aj.bytesC;rw[hf];rfl
 exact⟨none,0,0,rfl,fun _ _ _=>by rw[e1];exact aS.nil ..,by rw[e2];exact R,(u1 t S im)⟩
 have K:=of_decide_eq_false f
 refine Rt 9 a<|Rt 10 a<|Rt 11 a<|Rt 12 a<|Rl 13 a (fun _ hs=>hs.2.1)<|Rt 14 a<|Rt 15 a<|Rt 16 a<|Rt 17 a<|Rl 18 a (fun _ hs=>hs.2.2)<|Rr 19 a (.int .i64 (((full.length:Nat) : Int)-((k:Nat) : Int))) (fun _ _=>bZ (.int .i64 (IntKind.i64.wrap (((full.length:Nat) : Int)-((k:Nat) : Int)))) (by kernel_rfl) (congrArg (Value.int .i64) (IntWalk.i64_in _ (by omega))))<|Rt 20 a<|Rt 21 a<|re<|?_
 refine tn<|cb ((decide ((((full.length:Nat) : Int)-((k:Nat) : Int))<n))) (fun o=>?_) (fun o=>?_)
 have T:=of_decide_eq_true o
 refine sg<|Pl 3<|L0<|cj d 2 #[.slice A full.length cp,.int .i64 ((k:Nat) : Int),.bool true,.int .i64 C.e] fun a9 u U=>ng<|Pl 4<|L0<|aP u 0<|Pl 3<|L0<|cj u 1 #[.slice A full.length cp,.int .i64 ((full.length:Nat) : Int),.bool true,.int .i64 C.e] fun V W X=>nt<|?_
 refine sg<|Pl 1<|?_
 have v:=u1 (u1 (aF.mono (S':=[g]) i av) U im) X im
 have Y:RC w0 m A cp full V g { C with l:=[],sh:=true }:=⟨hsrc,hU.trans' v (fun x hx=>.inr (by simp at hx;subst hx;exact hnew)),hnew,⟨full.length,W,Nat.le_refl _,List.drop_length.symm⟩,hlen⟩
 refine L0<|Oc<|m2 (b7 false 2 Y) fun aa Z a0=>ng<|Pl 1<|nt<|rt<|tr<|rr (.slice none 0 0)<|?_
 have hf:C.fails n=true:=by rw[ja (n:=n) hk hl,j,f,o];rfl
 have e1:C.bytesR n=[]:=by unfold aj.bytesR;rw[hf];rfl
 have e2:C.bytesC n=aj.need { C with l:=[],sh:=true } false 2:=by unfold aj.bytesC;rw[hf];rfl
 exact⟨none,0,0,rfl,fun _ _ _=>by rw[e1];exact aS.nil ..,by rw[e2];exact Z,(u1 v a0 im)⟩
 have T:=of_decide_eq_false o
 refine bp<|sg<|Pl 4<|L0<|aP d 1<|Pl 1<|L0<|Oi (((k:Nat) : Int)+n)<|Pl 2<|L0<|cj d 1 #[.slice A full.length cp,.int .i64 (((k:Nat) : Int)+n),.bool C.sh,.int .i64 C.e] fun ab a1 a2=>nt<|sq<|Rg 16 (fun w'=>w'.cell? ⟨g,0,none⟩=some (.slice A full.length cp)∧w'.cell? ⟨g,1,none⟩=some (.int .i64 (((k:Nat) : Int)+n))) fun ac y=>?_
 have p:=ub y a1
 refine bj ⟨(ah p rfl),(ah p rfl)⟩ fun b=>Rt 0 b<|Rt 1 b<|Rt 2 b<|Rl 3 b (fun _ hs=>hs.1)<|Rt 4 b<|Rt 5 b<|Rt 6 b<|Rl 7 b (fun _ hs=>hs.2)<|Rt 8 b<|Rr 9 b (.int .i64 ((((k:Nat) : Int)+n)-n)) (fun _ _=>bZ (.int .i64 (IntKind.i64.wrap ((((k:Nat) : Int)+n)-n))) (by kernel_rfl) (congrArg (Value.int .i64) (IntWalk.i64_in _ (by omega))))<|Rt 10 b<|Rt 11 b<|Rt 12 b<|?_
 refine Rl 13 b (fun _ hs=>hs.2)<|pA (kp (P:=Tryz.prog) 22 5 1 Tryz.underlying22 rfl rfl A full.length cp (lo:=((((k:Nat) : Int)+n)-n)) (up:=(((k:Nat) : Int)+n)) ((((((k:Nat) : Int)+n)-n)).toNat) (((((k:Nat) : Int)+n)).toNat) (by omega) (by omega) (by omega) (by omega) (by omega)) fun z hrun69 a3=>Rr 14 b (.slice z ((((((k:Nat) : Int)+n)).toNat)-((((((k:Nat) : Int)+n)-n)).toNat)) (cp-((((((k:Nat) : Int)+n)-n)).toNat))) (fun _ _=>iu (kl:=.i64) (kh:=.i64) (lo:=((((k:Nat) : Int)+n)-n)) (hi:=(((k:Nat) : Int)+n)) (A:=A) (n:=full.length) (c:=cp) rfl Tryz.underlying22 (by kernel_rfl) (by kernel_rfl) (by kernel_rfl) (hrun69 _ _ _))<|Rt 15 b<|re<|tn<|rt<|rr (.slice z ((((((k:Nat) : Int)+n)).toNat)-((((((k:Nat) : Int)+n)-n)).toNat)) (cp-((((((k:Nat) : Int)+n)-n)).toNat)))<|?_
 have hf:C.fails n=false:=by rw[ja (n:=n) hk hl,j,f,o];rfl
 have B:=aG (u1 (aF.mono (S':=[g]) i av) a2 im) y
 have e2:C.bytesC n = { C with l:=C.l.drop n.toNat }:=by unfold aj.bytesC;rw[hf];rfl
 exact⟨_,_,_,rfl,fun m' w'' h=>by have:=a3 m' _ _ w'' full h;rw[p8 hk hl hf _ _ (by omega) (by omega)] at this;exact this,by rw[e2];exact⟨hsrc,hU.trans' B (fun x hx=>.inr (by simp at hx;subst hx;exact hnew)),hnew,⟨(((k:Nat) : Int)+n).toNat,(by unfold yV;rw[show((((((k:Nat) : Int)+n).toNat:Nat) : Int))=((k:Nat) : Int)+n by omega];exact p),by omega,vt hl (by omega)⟩,hlen⟩,B⟩
def vl (w0:World)(m:Md)(A:Option Addr)(cp:Nat)(full:List Int)(g:Nat)(C:aj)(n:Int)(w:World)(e:Ending)(w':World) : Prop:=∃ A2 c2,e = .returned (.slice A2 (C.bytesR n).length c2)∧(∀ m' w'',bh m' w'' (.slice A full.length cp) full→bh m' w'' (.slice A2 (C.bytesR n).length c2) (C.bytesR n))∧RC w0 m A cp full w' g (C.bytesC n)∧aF [g] w w'
theorem fC{w0:World}{m:Md}{A:Option Addr}{cp:Nat}{full:List Int}{w:World}{g:Nat}{C:aj}{n:Int}(hn : -1048576≤n∧n≤2097152)(hC:RC w0 m A cp full w g C) : Calls Tryz.prog 153 #[.pointer (some ⟨g,0,none⟩),.int .i64 n] w (vl w0 m A cp full g C n w):=by
  refine(oY hn hC).mono ?_
  rintro e w' ⟨A2,n2,c2,rfl,h1,h2,h3⟩
  obtain⟨_,_,hv,_⟩:=aS.shape (h1 m w0 hC.src)
  injection hv with _ e2 _
  subst e2
  exact⟨A2,c2,rfl,h1,h2,h3⟩
theorem uU{full:List Int}{k:Nat}{C:aj}(hk:k≤full.length)(hl:C.l=full.drop k) : ((full.length:Nat) : Int)-((k:Nat) : Int)=((C.l.length:Nat) : Int):=by
  rw[hl,List.length_drop]
  omega
theorem iy{w0:World}{m:Md}{A:Option Addr}{cp:Nat}{full:List Int}{w:World}{g:Nat}{C:aj}(hC:RC w0 m A cp full w g C) :
    Calls Tryz.prog 161 #[.pointer (some ⟨g,0,none⟩)] w (dM (.int .i64 ((C.l.length:Nat) : Int)) w):=by
 obtain⟨hsrc,hU,hnew,⟨k,hB,hk,hl⟩,hlen⟩:=hC
 have hcp:full.length≤1048576:=hlen
 refine en 13 Tryz.func161 rfl<|sg<|Pl 1<|nt<|sq<|Rg 11 (fun w'=>w'.cell? ⟨g,0,none⟩=some (.slice A full.length cp)∧w'.cell? ⟨g,1,none⟩=some (.int .i64 ((k:Nat) : Int))) fun d b=>?_
 have c:=ub b hB
 refine bj ⟨(ah c rfl),(ah c rfl)⟩ fun a=>Rt 0 a<|Rt 1 a<|Rt 2 a<|Rl 3 a (fun _ hs=>hs.1)<|Rt 4 a<|Rt 5 a<|Rt 6 a<|Rt 7 a<|Rl 8 a (fun _ hs=>hs.2)<|Rr 9 a (.int .i64 (((full.length:Nat) : Int)-((k:Nat) : Int))) (fun _ _=>bZ (.int .i64 (IntKind.i64.wrap (((full.length:Nat) : Int)-((k:Nat) : Int)))) (by kernel_rfl) (congrArg (Value.int .i64) (IntWalk.i64_in _ (by omega))))<|Rt 10 a<|re<|tn<|?_
 refine rt<|rr (.int .i64 (((full.length:Nat) : Int)-((k:Nat) : Int)))<|?_
 rw[uU hk hl]
 exact⟨rfl,b⟩
theorem et{w0:World}{m:Md}{A:Option Addr}{cp:Nat}{full:List Int}{w:World}{g:Nat}{C:aj}(hC:RC w0 m A cp full w g C) :
    Calls Tryz.prog 157 #[.pointer (some ⟨g,0,none⟩)] w (vW w0 m A cp full g C.endC w):=by
 refine en 7 Tryz.func157 rfl<|go<|Pl 2<|L0<|Oc<|m1 (iy hC) fun e a=>?_
 have b:=RC.upd hC a aA (aF.step (RC.u hC) a)
 refine Pl 1<|L0<|Oc<|m2 (b7 ((((C.l.length:Nat) : Int)==0)) 3 b) fun f c d=>nl<|rm (.tuple #[])<|?_
 exact⟨rfl,c,(u1 (aF.mono (S':=[g]) a av) d im)⟩
theorem RC.clen{w0:World}{m:Md}{A:Option Addr}{cp:Nat}{full:List Int}{w:World}{g:Nat}{C:aj}(h:RC w0 m A cp full w g C) : C.l.length≤1048576:=by
  obtain⟨k,_,_,h2⟩:=h.cell
  have:=h.len
  rw[h2,List.length_drop]
  omega
theorem rE{C:aj}(h:((((C.bytesR 1).length:Nat) : Int)==0)=true) : C.byteV=0:=by
  have hz:C.bytesR 1=[]:=List.eq_nil_of_length_eq_zero (by have:=ae h;omega)
  unfold aj.byteV
  rw[hz]
  rfl
def p3 (w0:World)(m:Md)(A:Option Addr)(cp:Nat)(full:List Int)(g:Nat)(q:IntKind)(M x:Int)(C:aj)(w:World)(e:Ending)(w':World) : Prop:=e = .returned (.int q x)∧RC w0 m A cp full w' g C∧aF [g] w w'∧0≤x∧x<M
theorem ee{w0:World}{m:Md}{A:Option Addr}{cp:Nat}{full:List Int}{w:World}{g:Nat}{C:aj}(hC:RC w0 m A cp full w g C) :
    Calls Tryz.prog 151 #[.pointer (some ⟨g,0,none⟩)] w (p3 w0 m A cp full g .u8 256 C.byteV (C.bytesC 1) w):=by
 refine en 12 Tryz.func151 rfl<|sg<|Pl 1<|ng<|Pl 1<|L0<|Oc<|oT (fC (n:=1) (by omega) hC) fun k l o d b c=>?_
 have q:=Nat.le_trans (aj.bytesR_le C 1) (RC.clen hC)
 refine Pl 1<|nt<|sq<|sg<|Pl 3<|nt<|cb (((((C.bytesR 1).length:Nat) : Int)==0)) (fun a=>?_) (fun a=>?_)
 have e:=ae a
 refine sg<|Pl 1<|nt<|rt<|tr<|rr (.int .u8 0)<|?_
 exact⟨by rw[rE a],b,c,mI (RC.rng hC)⟩
 have e:=ak a
 refine bp<|sg<|Pl 1<|gf (bh.at_ (d _ _ (RC.rd b)) 0 (by omega)) fun f h i j r=>L0<|lv ((C.bytesR 1).length) 0 i (by omega)<|L0<|ez (p:=⟨f,h+0,none⟩) (v:=.int .u8 ((C.bytesR 1).getD 0 0)) j<|Pl 1<|nt<|rt<|rr (.int .u8 ((C.bytesR 1).getD 0 0))<|?_
 exact⟨rfl,b,c,mI (RC.rng hC)⟩
theorem rR{C:aj}{full:List Int}{k:Nat}{n:Int}(hk:k≤full.length)(hl:C.l=full.drop k)(h:(decide (n<0)||decide (((full.length:Nat) : Int)<n))=true) : C.wordsR n=cD (C.bytesR (-1))∧C.wordsC n=C.bytesC (-1):=by
  have hb:C.wbad n=true:=by
    unfold aj.wbad
    simp only[Bool.or_eq_true,decide_eq_true_eq] at h ⊢
    rw[hl,List.length_drop]
    omega
  have hf:C.fails (-1)=true:=by
    unfold aj.fails
    simp
  constructor
  · unfold aj.wordsR aj.bytesR
    rw[hb,hf]
    rfl
  · unfold aj.wordsC
    rw[hb]
    rfl
theorem tG{C:aj}{full:List Int}{k:Nat}{n:Int}(hk:k≤full.length)(hl:C.l=full.drop k)(h:(decide (n<0)||decide (((full.length:Nat) : Int)<n))=false) : C.wordsR n=cD (C.bytesR (n+n))∧C.wordsC n=C.bytesC (n+n):=by
  simp only[Bool.or_eq_false_iff,decide_eq_false_iff_not] at h
  by_cases hw:((C.l.length:Int)<n)
  · have hb:C.wbad n=true:=by
      unfold aj.wbad
      simp only[Bool.or_eq_true,decide_eq_true_eq]
      omega
    have hf:C.fails (-1)=true:=by
      unfold aj.fails
      simp
    have hf2:C.fails (n+n)=true:=by
      unfold aj.fails
      simp only[Bool.or_eq_true,decide_eq_true_eq]
      omega
    constructor
    · unfold aj.wordsR aj.bytesR
      rw[hb,hf2]
      rfl
    · unfold aj.wordsC
      rw[hb]
      unfold aj.bytesC
      rw[hf2,hf]
      rfl
  · have hb:C.wbad n=false:=by
      unfold aj.wbad
      simp only[Bool.or_eq_false_iff,decide_eq_false_iff_not]
      omega
    constructor
    · unfold aj.wordsR
      rw[hb,show 2*n=n+n by omega]
      rfl
    · unfold aj.wordsC
      rw[hb,show 2*n=n+n by omega]
      rfl
def uk (w0:World)(m:Md)(A:Option Addr)(cp:Nat)(full:List Int)(g:Nat)(C:aj)(n:Int)(w:World)(e:Ending)(w':World) : Prop:=∃ v,e = .returned v∧ka w.heap.size w' v (C.wordsR n)∧RC w0 m A cp full w' g (C.wordsC n)∧aF [g] w w'
theorem gc{w0:World}{m:Md}{A:Option Addr}{cp:Nat}{full:List Int}{w:World}{g:Nat}{C:aj}{n:Int}(hn : -1048576≤n∧n≤1048576)(hC:RC w0 m A cp full w g C) :
    Calls Tryz.prog 158 #[.pointer (some ⟨g,0,none⟩),.int .i64 n] w (uk w0 m A cp full g C n w):=by
 have hC0:=hC
 obtain⟨hsrc,hU,hnew,⟨k,hB,hk,hl⟩,hlen⟩:=hC0
 refine en 25 Tryz.func158 rfl<|sg<|Pl 1<|nt<|sq<|sg<|Pl 3<|cu 8 [7] 15 (((decide (n<0))||(decide (((full.length:Nat) : Int)<n)))) (fun K h=>?_) ?_
 refine bl 7 ((decide (n<0))) (fun a=>?_) (fun a=>?_)
 have l:=of_decide_eq_true a
 exact Pl 8<|ce h true (by rw[a];rfl)
 have l:=of_decide_eq_false a
 exact Pl 4<|L1<|aP hB 0<|Pl 3<|ce h (decide (((full.length:Nat) : Int)<n)) (by rw[a];rfl)
 refine nt<|cb (((decide (n<0))||(decide (((full.length:Nat) : Int)<n)))) (fun b=>?_) (fun b=>?_)
 refine sg<|Pl 1<|?_
 have o:=RC.upd hC (aF.refl [] _) aA (aF.step hC.u (aF.refl [] _))
 refine L0<|Oc<|oT (fC (n:=-1) (by omega) o) fun E F G p c i=>?_
 have H:=Nat.le_trans (aj.bytesR_le C (-1)) (RC.clen hC)
 refine L0<|Oc<|di (vN (p _ _ (RC.rd c)) (by omega)) fun q r I s J L d=>Pl 1<|nt<|rt<|tr<|rr (.slice q ((cD (C.bytesR (-1))).length) r)<|?_
 have hw:=rR hk hl b
 exact⟨_,rfl,by rw[hw.1];exact(aW.weaken s i.size),by rw[hw.2];exact(RC.upd c d aA (aF.step (RC.u c) d)),(aG i d)⟩
 have t:=(aH b).1
 have v:=(aH b).2
 have M:=of_decide_eq_false t
 have N:=of_decide_eq_false v
 refine bp<|sg<|Pl 3<|L0<|Oi (n+n)<|?_
 have x:=RC.upd hC (aF.refl [] _) aA (aF.step hC.u (aF.refl [] _))
 refine L0<|Oc<|oT (fC (n:=(n+n)) (by omega) x) fun O P Q y e j=>?_
 have R:=Nat.le_trans (aj.bytesR_le C (n+n)) (RC.clen hC)
 refine L0<|Oc<|di (vN (y _ _ (RC.rd e)) (by omega)) fun z B S D T U f=>Pl 1<|nt<|rt<|rr (.slice z ((cD (C.bytesR (n+n))).length) B)<|?_
 have hw:=tG hk hl b
 exact⟨_,rfl,by rw[hw.1];exact(aW.weaken D j.size),by rw[hw.2];exact(RC.upd e f aA (aF.step (RC.u e) f)),(aG j f)⟩
theorem rZ{C:aj}(h:((((C.wordsR 1).length:Nat) : Int)==0)=true) : C.wordV=0:=by
  have hz:C.wordsR 1=[]:=List.eq_nil_of_length_eq_zero (by have:=ae h;omega)
  unfold aj.wordV
  rw[hz]
  rfl
theorem d7{w0:World}{m:Md}{A:Option Addr}{cp:Nat}{full:List Int}{w:World}{g:Nat}{C:aj}(hC:RC w0 m A cp full w g C) :
    Calls Tryz.prog 154 #[.pointer (some ⟨g,0,none⟩)] w (p3 w0 m A cp full g .u16 65536 C.wordV (C.wordsC 1) w):=by
 refine en 12 Tryz.func154 rfl<|sg<|Pl 1<|ng<|Pl 1<|L0<|Oc<|mS (gc (n:=1) (by omega) hC) fun k l o d q r b c=>Pl 1<|nt<|sq<|?_
 refine sg<|Pl 3<|nt<|cb (((((C.wordsR 1).length:Nat) : Int)==0)) (fun a=>?_) (fun a=>?_)
 have e:=ae a
 refine sg<|Pl 1<|nt<|rt<|tr<|rr (.int .u16 0)<|?_
 exact⟨by rw[rZ a],b,c,bT (RC.rng hC)⟩
 have e:=ak a
 refine bp<|sg<|Pl 1<|gf (dP.at_ (d).rd 0 (by omega)) fun f h i j s=>L0<|lv ((C.wordsR 1).length) 0 i (by omega)<|L0<|ez (p:=⟨f,h+0,none⟩) (v:=.int .u16 ((C.wordsR 1).getD 0 0)) j<|Pl 1<|nt<|rt<|rr (.int .u16 ((C.wordsR 1).getD 0 0))<|?_
 exact⟨rfl,b,c,bT (RC.rng hC)⟩
theorem fR{w0:World}{m:Md}{A:Option Addr}{cp:Nat}{full:List Int}{w:World}{g:Nat}{C:aj}{G:Prop}(h:RC w0 m A cp full w g C)(k:∀ x,C=x→RC w0 m A cp full w g x→G) : G:=k C rfl h
open Go.RowKit
theorem rc{x:Int}(hx:0≤x∧x<65536) : er x=((decide (x≤4)||(decide (10≤x)&&decide (x≤18)))||x==20):=by
  unfold er
  rw[Bool.eq_iff_iff]
  simp only[decide_eq_true_eq,List.mem_cons,List.not_mem_nil,or_false,Bool.or_eq_true,Bool.and_eq_true,beq_iff_eq]
  omega
theorem lI{x:Int}(hx:0≤x∧x<256) : cU x=((((decide (1≤x)&&decide (x≤6))||x==8)||x==10)||x==11):=by
  unfold cU
  rw[Bool.eq_iff_iff]
  simp only[decide_eq_true_eq,List.mem_cons,List.not_mem_nil,or_false,Bool.or_eq_true,Bool.and_eq_true,beq_iff_eq]
  omega
theorem xw{x:Int}{w:World}(hx:0≤x∧x<65536) : Calls Tryz.prog 160 #[.int .u16 x] w (dM (.bool (er x)) w):=by
 refine en 17 Tryz.func160 rfl<|sg<|Pl 1<|ng<|Pl 3<|cu 7 [5] 12 (((decide (x≤4))||((decide (10≤x))&&(decide (x≤18))))) (fun K d=>?_) ?_
 refine bl 5 ((decide (x≤4))) (fun a=>?_) (fun a=>?_)
 have g:=of_decide_eq_true a
 exact Pl 7<|ce d true (by rw[a];rfl)
 have g:=of_decide_eq_false a
 refine Pl 3<|cu 3 [8] 11 (((decide (10≤x))&&(decide (x≤18)))) (fun K e=>?_) ?_
 refine bl 8 ((decide (10≤x))) (fun b=>?_) (fun b=>?_)
 have h:=of_decide_eq_true b
 exact Pl 3<|ce e (decide (x≤18)) (by rw[b];rfl)
 have h:=of_decide_eq_false b
 exact Pl 3<|ce e false (by rw[b];rfl)
 exact Pl 1<|ce d ((decide (10≤x))&&(decide (x≤18))) (by rw[a];rfl)
 refine Pl 1<|cu 3 [13] 16 ((((decide (x≤4))||((decide (10≤x))&&(decide (x≤18))))||(x==20))) (fun K f=>?_) ?_
 refine bl 13 (((decide (x≤4))||((decide (10≤x))&&(decide (x≤18))))) (fun c=>?_) (fun c=>?_)
 exact Pl 3<|ce f true (by rw[c];rfl)
 have i:=(aH c).1
 have j:=(aH c).2
 have k:=of_decide_eq_false i
 exact Pl 3<|ce f (x==20) (by rw[c];rfl)
 refine Pl 1<|nt<|rt<|rr (.bool (((decide (x≤4))||((decide (10≤x))&&(decide (x≤18))))||(x==20)))<|?_
 rw[rc hx]
 have hs:((decide (x≤4)||(decide (10≤x)&&decide (x≤18)))||x==20)=(((decide (x≤4))||((decide (10≤x))&&(decide (x≤18))))||(x==20)):=by(try simp only[Bool.true_or,Bool.false_or,Bool.true_and,Bool.false_and,Bool.or_true,Bool.or_false]);all_goals rfl
 rw[hs]
 exact⟨rfl,(aF.refl [] _)⟩
theorem sO{x:Int}{w:World}(hx:0≤x∧x<256) : Calls Tryz.prog 149 #[.int .u8 x] w (dM (.bool (cU x)) w):=by
 refine en 21 Tryz.func149 rfl<|sg<|Pl 1<|ng<|Pl 3<|cu 3 [5] 8 (((decide (1≤x))&&(decide (x≤6)))) (fun K e=>?_) ?_
 refine bl 5 ((decide (1≤x))) (fun a=>?_) (fun a=>?_)
 have j:=of_decide_eq_true a
 exact Pl 3<|ce e (decide (x≤6)) (by rw[a];rfl)
 have j:=of_decide_eq_false a
 exact Pl 3<|ce e false (by rw[a];rfl)
 refine Pl 1<|cu 3 [9] 12 ((((decide (1≤x))&&(decide (x≤6)))||(x==8))) (fun K f=>?_) ?_
 refine bl 9 (((decide (1≤x))&&(decide (x≤6)))) (fun b=>?_) (fun b=>?_)
 have k:=(aZ b).1
 have l:=(aZ b).2
 have p:=of_decide_eq_true k
 have q:=of_decide_eq_true l
 exact Pl 3<|ce f true (by rw[b];rfl)
 exact Pl 3<|ce f (x==8) (by rw[b];rfl)
 refine Pl 1<|cu 3 [13] 16 (((((decide (1≤x))&&(decide (x≤6)))||(x==8))||(x==10))) (fun K g=>?_) ?_
 refine bl 13 ((((decide (1≤x))&&(decide (x≤6)))||(x==8))) (fun c=>?_) (fun c=>?_)
 exact Pl 3<|ce g true (by rw[c];rfl)
 have r:=(aH c).1
 have m:=(aH c).2
 have s:=ak m
 exact Pl 3<|ce g (x==10) (by rw[c];rfl)
 refine Pl 1<|cu 3 [17] 20 ((((((decide (1≤x))&&(decide (x≤6)))||(x==8))||(x==10))||(x==11))) (fun K h=>?_) ?_
 refine bl 17 (((((decide (1≤x))&&(decide (x≤6)))||(x==8))||(x==10))) (fun d=>?_) (fun d=>?_)
 exact Pl 3<|ce h true (by rw[d];rfl)
 have i:=(aH d).1
 have n:=(aH d).2
 have t:=(aH i).1
 have o:=(aH i).2
 have q16abp:=ak o
 have u:=ak n
 exact Pl 3<|ce h (x==11) (by rw[d];rfl)
 refine Pl 1<|nt<|rt<|rr (.bool (((((decide (1≤x))&&(decide (x≤6)))||(x==8))||(x==10))||(x==11)))<|?_
 rw[lI hx]
 have hs:((((decide (1≤x)&&decide (x≤6))||x==8)||x==10)||x==11)=(((((decide (1≤x))&&(decide (x≤6)))||(x==8))||(x==10))||(x==11)):=by(try simp only[Bool.true_or,Bool.false_or,Bool.true_and,Bool.false_and,Bool.or_true,Bool.or_false]);all_goals rfl
 rw[hs]
 exact⟨rfl,(aF.refl [] _)⟩
theorem ik{dir sub v:Int}:fo dir sub v=if sub==1 then (v==0 || v==65280) else if sub==3 then v%256==0 else if dir==1&&(sub==2 || (decide (11≤sub)&&decide (sub≤18))) then true else v==0:=by
  unfold fo
  by_cases h1:sub=1
  · subst h1
    rfl
  by_cases h3:sub=3
  · subst h3
    rfl
  have e1:(sub==1)=false:=by simpa using h1
  have e3:(sub==3)=false:=by simpa using h3
  rw[e1,e3,Bool.and_comm]
  rfl
theorem xr{dir sub v:Int}{w:World}(hv:0≤v∧v<65536) : Calls Tryz.prog 162 #[.int .i64 dir,.int .u16 sub,.int .u16 v] w (dM (.bool (fo dir sub v)) w):=by
 refine en 39 Tryz.func162 rfl<|sg<|Pl 1<|nt<|sq<|bk<|sg<|Pl 3<|nt<|cb ((sub==1)) (fun a=>?_) (fun a=>?_)
 have m:=ae a
 refine sg<|Pl 3<|cu 3 [12] 15 (((v==0)||(v==65280))) (fun K h=>?_) ?_
 refine bl 12 ((v==0)) (fun c=>?_) (fun c=>?_)
 have n:=ae c
 exact Pl 3<|ce h true (by rw[c];rfl)
 have n:=ak c
 exact Pl 3<|ce h (v==65280) (by rw[c];rfl)
 refine Pl 1<|nt<|rt<|br<|tr<|rr (.bool ((v==0)||(v==65280)))<|?_
 have hs:fo dir sub v=((v==0)||(v==65280)):=by
   rw[ik]
   (try simp only[a,bs,if_true,if_false,decide_true,decide_false,reduceIte])
   all_goals rfl
 rw[hs]
 exact⟨rfl,(aF.refl [] _)⟩
 have m:=ak a
 refine sg<|Pl 3<|nt<|cb ((sub==3)) (fun b=>?_) (fun b=>?_)
 have o:=ae b
 refine sg<|Pl 1<|L0<|Oe (.int .u16 (Int.tmod v 256)) (.int .u16 (v%256)) (congrArg (Value.int .u16) (Int.tmod_eq_emod_of_nonneg (by omega)))<|Pl 2<|nt<|rt<|br<|tr<|rr (.bool ((v%256)==0))<|?_
 have hs:fo dir sub v=((v%256)==0):=by
   rw[ik]
   (try simp only[a,b,bs,if_true,if_false,decide_true,decide_false,reduceIte])
   all_goals rfl
 rw[hs]
 exact⟨rfl,(aF.refl [] _)⟩
 have o:=ak b
 refine sg<|Pl 3<|cu 11 [25] 36 (((dir==1)&&((sub==2)||((decide (11≤sub))&&(decide (sub≤18)))))) (fun K i=>?_) ?_
 refine bl 25 ((dir==1)) (fun d=>?_) (fun d=>?_)
 have p:=ae d
 refine Pl 3<|cu 7 [28] 35 (((sub==2)||((decide (11≤sub))&&(decide (sub≤18))))) (fun K j=>?_) ?_
 refine bl 28 ((sub==2)) (fun e=>?_) (fun e=>?_)
 have q:=ae e
 exact Pl 7<|ce j true (by rw[e];rfl)
 have q:=ak e
 refine Pl 3<|cu 3 [31] 34 (((decide (11≤sub))&&(decide (sub≤18)))) (fun K k=>?_) ?_
 refine bl 31 ((decide (11≤sub))) (fun f=>?_) (fun f=>?_)
 have r:=of_decide_eq_true f
 exact Pl 3<|ce k (decide (sub≤18)) (by rw[f];rfl)
 have r:=of_decide_eq_false f
 exact Pl 3<|ce k false (by rw[f];rfl)
 exact Pl 1<|ce j ((decide (11≤sub))&&(decide (sub≤18))) (by rw[e];rfl)
 exact Pl 1<|ce i ((sub==2)||((decide (11≤sub))&&(decide (sub≤18)))) (by rw[d];rfl)
 have p:=ak d
 exact Pl 11<|ce i false (by rw[d];rfl)
 refine Pl 1<|nt<|cb (((dir==1)&&((sub==2)||((decide (11≤sub))&&(decide (sub≤18)))))) (fun g=>?_) (fun g=>?_)
 have l:=(aZ g).1
 have s:=(aZ g).2
 have t:=ae l
 refine sg<|Pl 1<|nt<|rt<|br<|tr<|rr (.bool true)<|?_
 have hs:fo dir sub v=true:=by
   rw[ik]
   (try simp only[a,b,g,l,s,bs,if_true,if_false,decide_true,decide_false,reduceIte])
   all_goals rfl
 rw[hs]
 exact⟨rfl,(aF.refl [] _)⟩
 refine sk<|bn<|tn<|sg<|Pl 3<|nt<|rt<|rr (.bool (v==0))<|?_
 have hs:fo dir sub v=(v==0):=by
   rw[ik]
   (try simp only[a,b,g,bs,if_true,if_false,decide_true,decide_false,reduceIte])
   all_goals rfl
 rw[hs]
 exact⟨rfl,(aF.refl [] _)⟩
open Go.RowKit
theorem RC.lt{w0:World}{m:Md}{A:Option Addr}{cp:Nat}{full:List Int}{w:World}{g:Nat}{C:aj}(h:RC w0 m A cp full w g C) : g<w.heap.size:=by
  obtain⟨k,h1,_⟩:=h.cell
  exact au h1
theorem RC.fld{w0:World}{m:Md}{A:Option Addr}{cp:Nat}{full:List Int}{w:World}{g:Nat}{C:aj}(h:RC w0 m A cp full w g C) : w.cell? ⟨g,3,none⟩=some (.int .i64 C.e):=by
  obtain⟨k,h1,_⟩:=h.cell
  rw[bB h1]
  rfl
theorem oz{c:Int}{C:aj}(h:(((c==3)||(c==4))||(c==23))=true) : aI 1 c C=some (bU c C):=by
  unfold aI
  by_cases h1:(c==3 || c==4)=true
  · rw[if_pos h1]
    rfl
  · rw[if_neg h1]
    have h2:c=23:=by
      simp only[Bool.or_eq_true,beq_iff_eq] at h h1
      omega
    subst h2
    rfl
theorem kf{n m:Int}:((n%2==0&&decide (0<n))&&decide (n≤m))=i2 n m:=by
  unfold i2
  rw[Bool.eq_iff_iff]
  simp only[Bool.and_eq_true,decide_eq_true_eq,beq_iff_eq]
  omega
theorem ke{a k:Int}:(a==2*k+2)=(2+2*k==a):=by
  rw[Bool.eq_iff_iff]
  simp only[beq_iff_eq]
  omega
theorem dK{x:Int}:decide (0<x)=decide (1≤x):=by
  rw[Bool.eq_iff_iff]
  simp only[decide_eq_true_eq]
  omega
theorem kD{w0:World}{m:Md}{A:Option Addr}{cp:Nat}{full:List Int}{w:World}{g:Nat}{C:aj}{a most:Int}(ha:0≤a∧a<65536)(hC:RC w0 m A cp full w g C) :
    Calls Tryz.prog 159 #[.pointer (some ⟨g,0,none⟩),.int .u16 a,.int .i64 most] w (p3 w0 m A cp full g .i64 65536 C.wordV (bJ C a most) w):=by
 have hrng:=bT (RC.rng hC)
 refine en 26 Tryz.func159 rfl<|sg<|Pl 1<|ng<|Pl 1<|L0<|Oc<|m3 (d7 hC) fun r f h s=>L0<|Oi C.wordV<|Pl 1<|nt<|?_
 refine sg<|Pl 4<|cu 4 [14] 18 (((decide (0<C.wordV))&&(decide (C.wordV≤most)))) (fun K d=>?_) ?_
 refine bl 14 ((decide (0<C.wordV))) (fun b=>?_) (fun b=>?_)
 have i:=of_decide_eq_true b
 exact Pl 4<|ce d (decide (C.wordV≤most)) (by rw[b];rfl)
 have i:=of_decide_eq_false b
 exact Pl 4<|ce d false (by rw[b];rfl)
 refine L0<|Oc<|m2 (b7 (((decide (0<C.wordV))&&(decide (C.wordV≤most)))) 5 f) fun j k l=>?_
 refine fR k fun x19 o e=>?_
 refine ng<|Pl 3<|L0<|Oc<|m1 (qn (a:=a) (n:=C.wordV) (w:=j) (by omega) (by omega)) fun t c=>?_
 refine L0<|Oc<|m2 (b7 ((dH a C.wordV)) 7 (RC.upd e c aA (aF.step (RC.u e) c))) fun v p q=>ng<|Pl 2<|nt<|rt<|rr (.int .i64 C.wordV)<|?_
 subst o
 have e1:bJ C a most=((C.wordsC 1).need (decide (0<C.wordV)&&decide (C.wordV≤most)) 5).need (dH a C.wordV) 7:=by unfold bJ;rw[← dK]
 rw[e1]
 exact⟨rfl,p,(u1 h (u1 l (uz c q) im) im),hrng⟩
theorem aS.upd0{α:Type}{m:Md}{e:TypeId}{sz:Nat}{R R':World→α→List Value→Prop}{w:World}{v:Value}{xs:List α}(h:aS m e sz R w v xs)(hR:∀ x cs,R w x cs→R' w x cs) : aS m e sz R' w v xs:=by
  obtain⟨A,c,rfl,h1,h2,h0,h3⟩:=h
  refine⟨A,c,rfl,h1,h2,h0,fun hp=>?_⟩
  obtain⟨b,off,cells,t,fr,rfl,hb,ht,hx⟩:=h3 hp
  exact⟨b,off,cells,t,fr,rfl,hb,ht,fun j x hj=>by obtain⟨cs,hl,hr,hc⟩:=hx j x hj;exact⟨cs,hl,hR _ _ hr,hc⟩⟩
def nT (v0:Value)(b:List Int)(w:World)(o:Obj)(cs:List Value) : Prop:=∃ A n c,cs=[.int .u8 o.id,.slice A n c]∧(∀ m' w',bh m' w' v0 b→bh m' w' (.slice A n c) o.value)∧B8 o.id
theorem nT.ones{v0:Value}{b:List Int}{w:World}(x:Obj)(cs:List Value)(h:nT v0 b w x cs) : ∀ v,v∈cs→v.oneCell'=true:=by
  obtain⟨A,n,c,rfl,h2,_⟩:=h
  intro u hu
  simp at hu
  rcases hu with rfl|rfl<;>rfl
def cV (v0:Value)(b:List Int)(w:World)(cs:List Value)(M:aQ) : Prop :=
  ∃ vw vb vd vr vo,cs=bu M vw vb vd vr vo∧dP true w vw M.words∧hZ true w vb M.bits∧(∀ m' w',bh m' w' v0 b→bh m' w' vd M.data)∧kZ true w vr M.recs∧aS true 111 2 (nT v0 b) w vo M.objects∧fs M
theorem cV.rd{v0:Value}{b:List Int}{m:Md}{w:World}{cs:List Value}{M:aQ}(h:cV v0 b w cs M)(hb:bh m w v0 b) : aN false w cs M:=by
  obtain⟨vw,vb,vd,vr,vo,h0,h1,h2,h3,h4,h5,h6⟩:=h
  exact⟨vw,vb,vd,vr,vo,h0,aS.any h1 fun _ _ q=>q,aS.any h2 fun _ _ q=>q,aS.any (h3 _ _ hb) fun _ _ q=>q,aS.any h4 fun r cs ⟨v,a,b,c⟩=>⟨v,a,aS.any b fun _ _ q=>q,c⟩,aS.any h5 fun r cs ⟨A,n,k,a,b,c⟩=>⟨_,a,aS.any (b _ _ hb) fun _ _ q=>q,c⟩,h6⟩
theorem cV.rdt{v0:Value}{b:List Int}{w:World}{cs:List Value}{M:aQ}(h:cV v0 b w cs M)(hb:bh true w v0 b) : aN true w cs M:=by
  obtain⟨vw,vb,vd,vr,vo,h0,h1,h2,h3,h4,h5,h6⟩:=h
  exact⟨vw,vb,vd,vr,vo,h0,h1,h2,h3 _ _ hb,h4,aS.upd0 h5 fun r cs ⟨A,n,k,a,b,c⟩=>⟨_,a,b _ _ hb,c⟩,h6⟩
theorem cV.sub{v0 v1:Value}{b b1:List Int}{w:World}{cs:List Value}{M:aQ}(h:cV v1 b1 w cs M)(hv:∀ m' w',bh m' w' v0 b→bh m' w' v1 b1) : cV v0 b w cs M:=by
  obtain⟨vw,vb,vd,vr,vo,h0,h1,h2,h3,h4,h5,h6⟩:=h
  exact⟨vw,vb,vd,vr,vo,h0,h1,h2,fun m' w' q=>h3 _ _ (hv _ _ q),h4,aS.upd0 h5 fun r cs ⟨A,n,k,a,b,c⟩=>⟨A,n,k,a,fun m' w' q=>b _ _ (hv _ _ q),c⟩,h6⟩
theorem cV.upd{v0:Value}{b:List Int}{w w':World}{cs:List Value}{M:aQ}{S:List Nat}(h:cV v0 b w cs M)(hu:aF S w w')(hs:dm true mv S w) : cV v0 b w' cs M:=by
  obtain⟨vw,vb,vd,vr,vo,h0,h1,h2,h3,h4,h5,h6⟩:=h
  exact⟨vw,vb,vd,vr,vo,h0,dP.upd' h1 hu (hs.sub (by decide)),hZ.upd' h2 hu (hs.sub (by decide)),h3,kZ.upd' h4 hu hs,aS.upd h5 hu (hs.sub (by decide)) (fun _ _ q=>q),h6⟩
theorem cV.zero(v0:Value)(b:List Int)(w:World) : cV v0 b w lz.toList aQ.zero:=by
  obtain⟨vw,vb,vd,vr,vo,h0,h1,h2,h3,h4,h5,h6⟩:=aN.zero true w
  exact⟨_,_,_,_,_,rfl,aS.nil ..,aS.nil ..,(fun _ _ _=>aS.nil ..),aS.nil ..,aS.nil ..,h6⟩
theorem cV.size{v0:Value}{b:List Int}{w:World}{cs:Array Value}{M:aQ}(h:cV v0 b w cs.toList M) : cs.size=22:=by
  obtain⟨vw,vb,vd,vr,vo,h0,_⟩:=h
  rw[← Array.length_toList,h0]
  rfl
theorem cV.one{v0:Value}{b:List Int}{w w2:World}{m:Md}{cs:Array Value}{M:aQ}(h:cV v0 b w cs.toList M)(hb:bh m w2 v0 b) : cs.all (·.oneCell')=true:=by
  obtain⟨vw,vb,vd,vr,vo,h0,h1,h2,h3,h4,h5,h6⟩:=h
  rw[← Array.all_toList,h0]
  obtain⟨_,_,rfl,_⟩:=h1
  obtain⟨_,_,rfl,_⟩:=h2
  obtain⟨_,_,rfl,_⟩:=h3 _ _ hb
  obtain⟨_,_,rfl,_⟩:=h4
  obtain⟨_,_,rfl,_⟩:=h5
  rfl
def cM (v0:Value)(b:List Int)(res:aQ × Int)(w:World)(e:Ending)(w':World) : Prop:=∃ cs,e = .returned (.tuple #[.agg cs,.int .i64 res.2])∧cV v0 b w' cs.toList res.1∧aF [] w w'
theorem bt{v0:Value}{b:List Int}{M:aQ}{c:aj}{w W:World}{cs:Array Value}(h0:c.endC.e=0)(h:cV v0 b W cs.toList M)(hu:aF [] w W) : cM v0 b (aL M c) w (.returned (.tuple #[.agg cs,.int .i64 0])) W:=by
  unfold aL
  rw[if_pos h0]
  exact⟨cs,rfl,h,hu⟩
theorem bi{v0:Value}{b:List Int}{M:aQ}{c:aj}{w W:World}(h0:¬ c.endC.e=0)(hu:aF [] w W) : cM v0 b (aL M c) w (.returned (.tuple #[.agg lz,.int .i64 c.endC.e])) W:=by
  unfold aL
  rw[if_neg h0]
  exact⟨lz,rfl,cV.zero ..,hu⟩
theorem bA{v0:Value}{b:List Int}{x:Int}{w W:World}(hu:aF [] w W) : cM v0 b (aQ.zero,x) w (.returned (.tuple #[.agg lz,.int .i64 x])) W:=⟨lz,rfl,cV.zero ..,hu⟩
theorem lN{m:Md}{A:Option Addr}{cp:Nat}{b:List Int}{w:World}{c:Int}(hcode:B8 c)(hsl:bh m w (.slice A b.length cp) b)(hb:b.length≤1048576) :
    Calls Tryz.prog 94 #[.int .i64 0,.int .u8 c,.slice A b.length cp] w (cM (.slice A b.length cp) b (ag aI 0 c b) w):=by
 obtain⟨hcode1,hcode2⟩:=hcode
 have hln:(b.length:Int)≤1048576:=by omega
 refine en 221 Tryz.func94 rfl<|sg<|L0<|bO mZ fun eH eI t k f=>Pl 1<|nt<|sq<|sg<|Pl 6<|nt<|c0<|?_
 refine bp<|sg<|Pl 2<|L0<|dv #[.slice A b.length cp,.int .i64 0,.bool false,.int .i64 0] fun l eJ d o i=>Pl 1<|ng<|Pl 2<|L0<|bO mZ fun eK eL g a8 H=>L0<|be a8 (mC c) fun a6 a7 y=>?_
 refine nt<|sq<|bk<|sg<|Pl 15<|nt<|c0<|sg<|Pl 3<|cu 3 [68] 71 (((c==3)||(c==4))) (fun K bN=>?_) ?_
 refine bl 68 ((c==3)) (fun a9=>?_) (fun a9=>?_)
 have dq:=ae a9
 exact Pl 3<|ce bN true (by rw[a9];rfl)
 have dq:=ak a9
 exact Pl 3<|ce bN (c==4) (by rw[a9];rfl)
 refine Pl 1<|nt<|?_
 have a0:=ud H y g
 have r:=aG i a0
 have z:=aG f r
 refine cb (((c==3)||(c==4))) (fun q=>?_) (fun q=>?_)
 refine sg<|Pl 1<|?_
 have dr:RC w _ A cp b a6 l (aj.mk b false 0):=⟨hsl,z,(Nat.le_trans f.size d),⟨0,(ub a0 o),Nat.zero_le _,rfl⟩,by omega⟩
 refine L0<|Oc<|m3 (d7 dr) fun eM ds bQ eN=>Pl 1<|?_
 have ab:=nb (au o) lr g
 refine L0<|cj (b6 bQ (Ne.symm ab) a7) 2 (mG c 0 ((aj.mk b false 0).wordV) 0 0 0 0 0 0 0 0 0 nS nS nS nS 0 0 0 0 0 nS) fun eO bR bT=>nt<|go<|Pl 2<|L0<|aP bR 2<|?_
 have b1:=us bQ bT
 have bV:=ut z b1 (ac (ni f.size d) (ac (ni (le f.size i.size) g) av))
 refine L0<|Oc<|m3 (kD (a:=(aj.mk b false 0).wordV) (most:=125) (by omega) (RC.upd ds bT (aa ab aA) bV)) fun eP dt bW eQ=>?_
 refine fR dt fun x52 bX du=>?_
 refine L0<|xd (((aj.mk b false 0).wordsC 1).wordV)<|Pl 1<|?_
 refine L0<|cj (b6 bW (Ne.symm ab) bR) 3 (mG c 0 ((aj.mk b false 0).wordV) (((aj.mk b false 0).wordsC 1).wordV) 0 0 0 0 0 0 0 0 nS nS nS nS 0 0 0 0 0 nS) fun eR dw bY=>nl<|bn<|tn<|sg<|Pl 1<|?_
 have b2:=us bW bY
 have bZ:=ut bV b2 (ac (ni f.size d) (ac (ni (le f.size i.size) g) av))
 refine L0<|Oc<|m2 (et (RC.upd du bY (aa ab aA) bZ)) fun eS b3 aM=>nt<|sq<|sg<|Pl 3<|L0<|ez (p:=⟨l,3,none⟩) (v:=.int .i64 x52.endC.e) (RC.fld b3)<|Pl 1<|nt<|?_
 have c2:=ud bZ aM (le f.size d)
 refine cb ((x52.endC.e != 0)) (fun ad=>?_) (fun ad=>?_)
 have b4:=az ad
 refine sq<|Rg 7 (fun w'=>w'.cell? ⟨l,3,none⟩=some (.int .i64 x52.endC.e)) fun eT aN=>?_
 have c3:=RC.upd b3 aN aA (aF.step (RC.u b3) aN)
 refine bj (RC.fld c3) fun af=>Rt 0 af<|Rt 1 af<|Rt 2 af<|Rt 3 af<|Rl 4 af (fun _ hs=>hs)<|?_
 refine R0 5 rfl<|be (ub (ut r (ut b1 (u1 b2 (aG aM aN) im) (ac im (ac im av))) (ac (nr d) (ac (ni i.size g) av))) k) mZ fun eU dx c4=>?_
 have c5:=ud c2 (uz aN c4) t
 refine bj (RC.fld (RC.upd c3 c4 (aa (Ne.symm (nb (au k) lr d)) aA) c5)) fun dy=>Rt 6 dy<|re<|tn<|rt<|tr<|bP dx (.int .i64 x52.endC.e)<|?_
 have hs:ag aI 0 c b=aL (aQ.mk c 0 ((aj.mk b false 0).wordV) (((aj.mk b false 0).wordsC 1).wordV) 0 0 0 0 0 0 0 0 [] [] [] [] 0 0 0 0 0 []) x52:=by
   subst bX
   unfold ag aI bL bU d8 cA cm cE cC i6
   (try simp only[q,ad,bs,if_true,if_false,decide_true,decide_false,eq_self,true_or,or_true,or_false,false_or,if_true,if_false,cy,co,cw,cv,reduceIte,kf,ke])
   all_goals rfl
 rw[hs]
 exact bi b4 c5
 have b4:=ai ad
 refine bp<|sg<|?_
 refine L0<|bS (b6 aM (Ne.symm ab) dw)<|?_
 refine L0<|be (ub (ut r (ut b1 (u1 b2 aM im) (ac im (ac im av))) (ac (nr d) (ac (ni i.size g) av))) k) (mG c 0 ((aj.mk b false 0).wordV) (((aj.mk b false 0).wordsC 1).wordV) 0 0 0 0 0 0 0 0 nS nS nS nS 0 0 0 0 0 nS) fun eV dz dA=>Pl 1<|nt<|rt<|bP dz (.int .i64 0)<|?_
 have hs:ag aI 0 c b=aL (aQ.mk c 0 ((aj.mk b false 0).wordV) (((aj.mk b false 0).wordsC 1).wordV) 0 0 0 0 0 0 0 0 [] [] [] [] 0 0 0 0 0 []) x52:=by
   subst bX
   unfold ag aI bL bU d8 cA cm cE cC i6
   (try simp only[q,ad,bs,if_true,if_false,decide_true,decide_false,eq_self,true_or,or_true,or_false,false_or,if_true,if_false,cy,co,cw,cv,reduceIte,kf,ke])
   all_goals rfl
 rw[hs]
 exact bt b4 ⟨_,_,_,_,_,rfl,aS.nil ..,aS.nil ..,(fun _ _ _=>aS.nil ..),aS.nil ..,aS.nil ..,⟨(b8 (x:=c) (by omega)),(b8 (x:=0) (by omega)),(aD (x:=(aj.mk b false 0).wordV) (by omega)),(aD (x:=((aj.mk b false 0).wordsC 1).wordV) (by omega)),(aD (x:=0) (by omega)),(aD (x:=0) (by omega)),(aD (x:=0) (by omega)),(aD (x:=0) (by omega)),(aD (x:=0) (by omega)),(aD (x:=0) (by omega)),(aD (x:=0) (by omega)),(aD (x:=0) (by omega)),(b8 (x:=0) (by omega)),(b8 (x:=0) (by omega)),(b8 (x:=0) (by omega)),(b8 (x:=0) (by omega)),(b8 (x:=0) (by omega))⟩⟩ (ud c2 dA t)
 have B:=(aH q).1
 have C:=(aH q).2
 have eW:=ak B
 have eX:=ak C
 refine sg<|Pl 3<|nt<|cb ((c==6)) (fun s=>?_) (fun s=>?_)
 have dB:=ae s
 refine sg<|Pl 1<|?_
 have dC:RC w _ A cp b a6 l (aj.mk b false 0):=⟨hsl,z,(Nat.le_trans f.size d),⟨0,(ub a0 o),Nat.zero_le _,rfl⟩,by omega⟩
 refine L0<|Oc<|m3 (d7 dC) fun eY dD c6 eZ=>Pl 1<|?_
 have ah:=nb (au o) lr g
 refine L0<|cj (b6 c6 (Ne.symm ah) a7) 2 (mG c 0 ((aj.mk b false 0).wordV) 0 0 0 0 0 0 0 0 0 nS nS nS nS 0 0 0 0 0 nS) fun f0 dE c7=>nt<|go<|Pl 1<|?_
 have b5:=us c6 c7
 have c8:=ut z b5 (ac (ni f.size d) (ac (ni (le f.size i.size) g) av))
 refine L0<|Oc<|m3 (d7 (RC.upd dD c7 (aa ah aA) c8)) fun f1 dF c9 f2=>Pl 1<|?_
 refine L0<|cj (b6 c9 (Ne.symm ah) dE) 4 (mG c 0 ((aj.mk b false 0).wordV) 0 (((aj.mk b false 0).wordsC 1).wordV) 0 0 0 0 0 0 0 nS nS nS nS 0 0 0 0 0 nS) fun f3 dG ca=>nl<|bn<|tn<|sg<|Pl 1<|?_
 have b9:=us c9 ca
 have cc:=ut c8 b9 (ac (ni f.size d) (ac (ni (le f.size i.size) g) av))
 refine L0<|Oc<|m2 (et (RC.upd dF ca (aa ah aA) cc)) fun f4 ba aO=>nt<|sq<|sg<|Pl 3<|L0<|ez (p:=⟨l,3,none⟩) (v:=.int .i64 (((((aj.mk b false 0).wordsC 1).wordsC 1).endC).e)) (RC.fld ba)<|Pl 1<|nt<|?_
 have cd:=ud cc aO (le f.size d)
 refine cb (((((((aj.mk b false 0).wordsC 1).wordsC 1).endC).e)!=0)) (fun al=>?_) (fun al=>?_)
 have bb:=az al
 refine sq<|Rg 7 (fun w'=>w'.cell? ⟨l,3,none⟩=some (.int .i64 (((((aj.mk b false 0).wordsC 1).wordsC 1).endC).e))) fun f5 aR=>?_
 have cg:=RC.upd ba aR aA (aF.step (RC.u ba) aR)
 refine bj (RC.fld cg) fun am=>Rt 0 am<|Rt 1 am<|Rt 2 am<|Rt 3 am<|Rl 4 am (fun _ hs=>hs)<|?_
 refine R0 5 rfl<|be (ub (ut r (ut b5 (u1 b9 (aG aO aR) im) (ac im (ac im av))) (ac (nr d) (ac (ni i.size g) av))) k) mZ fun f6 dH ch=>?_
 have ci:=ud cd (uz aR ch) t
 refine bj (RC.fld (RC.upd cg ch (aa (Ne.symm (nb (au k) lr d)) aA) ci)) fun dI=>Rt 6 dI<|re<|tn<|rt<|tr<|bP dH (.int .i64 (((((aj.mk b false 0).wordsC 1).wordsC 1).endC).e))<|?_
 have hs:ag aI 0 c b=aL (aQ.mk c 0 ((aj.mk b false 0).wordV) 0 (((aj.mk b false 0).wordsC 1).wordV) 0 0 0 0 0 0 0 [] [] [] [] 0 0 0 0 0 []) (((aj.mk b false 0).wordsC 1).wordsC 1):=by
   unfold ag aI bL bU d8 cA cm cE cC i6
   (try simp only[q,B,C,s,al,bs,if_true,if_false,decide_true,decide_false,eq_self,true_or,or_true,or_false,false_or,if_true,if_false,cy,co,cw,cv,reduceIte,kf,ke])
   all_goals rfl
 rw[hs]
 exact bi bb ci
 have bb:=ai al
 refine bp<|sg<|?_
 refine L0<|bS (b6 aO (Ne.symm ah) dG)<|?_
 refine L0<|be (ub (ut r (ut b5 (u1 b9 aO im) (ac im (ac im av))) (ac (nr d) (ac (ni i.size g) av))) k) (mG c 0 ((aj.mk b false 0).wordV) 0 (((aj.mk b false 0).wordsC 1).wordV) 0 0 0 0 0 0 0 nS nS nS nS 0 0 0 0 0 nS) fun f7 dJ dK=>Pl 1<|nt<|rt<|bP dJ (.int .i64 0)<|?_
 have hs:ag aI 0 c b=aL (aQ.mk c 0 ((aj.mk b false 0).wordV) 0 (((aj.mk b false 0).wordsC 1).wordV) 0 0 0 0 0 0 0 [] [] [] [] 0 0 0 0 0 []) (((aj.mk b false 0).wordsC 1).wordsC 1):=by
   unfold ag aI bL bU d8 cA cm cE cC i6
   (try simp only[q,B,C,s,al,bs,if_true,if_false,decide_true,decide_false,eq_self,true_or,or_true,or_false,false_or,if_true,if_false,cy,co,cw,cv,reduceIte,kf,ke])
   all_goals rfl
 rw[hs]
 exact bt bb ⟨_,_,_,_,_,rfl,aS.nil ..,aS.nil ..,(fun _ _ _=>aS.nil ..),aS.nil ..,aS.nil ..,⟨(b8 (x:=c) (by omega)),(b8 (x:=0) (by omega)),(aD (x:=(aj.mk b false 0).wordV) (by omega)),(aD (x:=0) (by omega)),(aD (x:=((aj.mk b false 0).wordsC 1).wordV) (by omega)),(aD (x:=0) (by omega)),(aD (x:=0) (by omega)),(aD (x:=0) (by omega)),(aD (x:=0) (by omega)),(aD (x:=0) (by omega)),(aD (x:=0) (by omega)),(aD (x:=0) (by omega)),(b8 (x:=0) (by omega)),(b8 (x:=0) (by omega)),(b8 (x:=0) (by omega)),(b8 (x:=0) (by omega)),(b8 (x:=0) (by omega))⟩⟩ (ud cd dK t)
 have dB:=ak s
 refine sg<|Pl 3<|nt<|cb ((c==16)) (fun D=>?_) (fun D=>?_)
 have dL:=ae D
 refine sg<|Pl 1<|?_
 have dM:RC w _ A cp b a6 l (aj.mk b false 0):=⟨hsl,z,(Nat.le_trans f.size d),⟨0,(ub a0 o),Nat.zero_le _,rfl⟩,by omega⟩
 refine L0<|Oc<|m3 (d7 dM) fun f8 dN L f9=>Pl 1<|?_
 have I:=nb (au o) lr g
 refine L0<|cj (b6 L (Ne.symm I) a7) 2 (mG c 0 ((aj.mk b false 0).wordV) 0 0 0 0 0 0 0 0 0 nS nS nS nS 0 0 0 0 0 nS) fun fa ck M=>ng<|Pl 2<|L0<|aP ck 2<|?_
 have bc:=us L M
 have cl:=ut z bc (ac (ni f.size d) (ac (ni (le f.size i.size) g) av))
 refine L0<|Oc<|m3 (kD (a:=(aj.mk b false 0).wordV) (most:=123) (by omega) (RC.upd dN M (aa I aA) cl)) fun fb dO N fc=>?_
 refine fR dO fun cn cq dP=>?_
 refine L0<|xd (((aj.mk b false 0).wordsC 1).wordV)<|Pl 1<|?_
 refine L0<|cj (b6 N (Ne.symm I) ck) 3 (mG c 0 ((aj.mk b false 0).wordV) (((aj.mk b false 0).wordsC 1).wordV) 0 0 0 0 0 0 0 0 nS nS nS nS 0 0 0 0 0 nS) fun fd dQ O=>ng<|Pl 2<|nt<|c1<|sg<|Pl 1<|?_
 have bd:=us N O
 have cr:=ut cl bd (ac (ni f.size d) (ac (ni (le f.size i.size) g) av))
 refine L0<|Oc<|m3 (ee (RC.upd dP O (aa I aA) cr)) fun fe dR P ff=>L0<|Oi cn.byteV<|Pl 1<|ng<|Pl 3<|?_
 have cs:=b6 P (Ne.symm I) dQ
 refine L0<|aP cs 3<|L0<|Oi (((aj.mk b false 0).wordsC 1).wordV)<|L0<|Oi (2*(((aj.mk b false 0).wordsC 1).wordV))<|Pl 1<|L0<|Oc<|m2 (b7 ((cn.byteV==(2*(((aj.mk b false 0).wordsC 1).wordV)))) 5 dR) fun fg dS Q=>?_
 refine fR dS fun E ct dT=>?_
 refine nt<|go<|Pl 2<|?_
 have cx:=b6 Q (Ne.symm I) cs
 refine L0<|aP cx 3<|L0<|Oi (((aj.mk b false 0).wordsC 1).wordV)<|L0<|Oc<|mS (gc (n:=((aj.mk b false 0).wordsC 1).wordV) (by omega) dT) fun cz cB fh R fi fj dU cD=>Pl 1<|?_
 refine L0<|cj (b6 cD (Ne.symm I) cx) 12 (mG c 0 ((aj.mk b false 0).wordV) (((aj.mk b false 0).wordsC 1).wordV) 0 0 0 0 0 0 0 0 (.slice cz ((E.wordsR (((aj.mk b false 0).wordsC 1).wordV)).length) cB) nS nS nS 0 0 0 0 0 nS) fun fk dV aT=>nl<|bn<|tn<|sg<|Pl 1<|?_
 have bf:=ui P (ui Q (us cD aT))
 have cF:=ut cr bf (ac (ni f.size d) (ac (ni (le f.size i.size) g) av))
 refine L0<|Oc<|m2 (et (RC.upd dU aT (aa I aA) cF)) fun fl bg an=>nt<|sq<|sg<|Pl 3<|L0<|ez (p:=⟨l,3,none⟩) (v:=.int .i64 (((E.wordsC (((aj.mk b false 0).wordsC 1).wordV)).endC).e)) (RC.fld bg)<|Pl 1<|nt<|?_
 have cG:=ud cF an (le f.size d)
 refine cb (((((E.wordsC (((aj.mk b false 0).wordsC 1).wordV)).endC).e)!=0)) (fun ao=>?_) (fun ao=>?_)
 have bm:=az ao
 refine sq<|Rg 7 (fun w'=>w'.cell? ⟨l,3,none⟩=some (.int .i64 (((E.wordsC (((aj.mk b false 0).wordsC 1).wordV)).endC).e))) fun fm aU=>?_
 have cH:=RC.upd bg aU aA (aF.step (RC.u bg) aU)
 refine bj (RC.fld cH) fun ap=>Rt 0 ap<|Rt 1 ap<|Rt 2 ap<|Rt 3 ap<|Rl 4 ap (fun _ hs=>hs)<|?_
 have cI:=aG an aU
 refine R0 5 rfl<|be (ub (ut r (ut bc (ut bd (u1 bf cI im) (ac im (ac im av))) (ac im (ac im av))) (ac (nr d) (ac (ni i.size g) av))) k) mZ fun fn dW bo=>?_
 have cJ:=ud cG (uz aU bo) t
 refine bj (RC.fld (RC.upd cH bo (aa (Ne.symm (nb (au k) lr d)) aA) cJ)) fun dX=>Rt 6 dX<|re<|tn<|rt<|tr<|bP dW (.int .i64 (((E.wordsC (((aj.mk b false 0).wordsC 1).wordV)).endC).e))<|?_
 have fo:=aq R (us aT (us cI bo)) (fun x hx=>(aa (fun e=>(aB (au a8) (le (le (le (le (le (le y.size L.size) M.size) N.size) O.size) P.size) Q.size) R) (e▸hx)) (aa (fun e=>(aB (au o) (le (le (le (le (le (le (le H.size y.size) L.size) M.size) N.size) O.size) P.size) Q.size) R) (e▸hx)) (aa (fun e=>(aB (au k) (le (le (le (le (le (le (le (le i.size H.size) y.size) L.size) M.size) N.size) O.size) P.size) Q.size) R) (e▸hx)) aA)))) (fun _ _ h=>h)
 have hs:ag aI 0 c b=aL (aQ.mk c 0 ((aj.mk b false 0).wordV) (((aj.mk b false 0).wordsC 1).wordV) 0 0 0 0 0 0 0 0 (E.wordsR (((aj.mk b false 0).wordsC 1).wordV)) [] [] [] 0 0 0 0 0 []) (E.wordsC (((aj.mk b false 0).wordsC 1).wordV)):=by
   subst ct cq
   unfold ag aI bL bU d8 cA cm cE cC i6
   (try simp only[q,B,C,s,D,ao,bs,if_true,if_false,decide_true,decide_false,eq_self,true_or,or_true,or_false,false_or,if_true,if_false,cy,co,cw,cv,reduceIte,kf,ke])
   all_goals rfl
 rw[hs]
 exact bi bm cJ
 have bm:=ai ao
 refine bp<|sg<|?_
 refine L0<|bS (b6 an (Ne.symm I) dV)<|?_
 refine L0<|be (ub (ut r (ut bc (ut bd (u1 bf an im) (ac im (ac im av))) (ac im (ac im av))) (ac (nr d) (ac (ni i.size g) av))) k) (mG c 0 ((aj.mk b false 0).wordV) (((aj.mk b false 0).wordsC 1).wordV) 0 0 0 0 0 0 0 0 (.slice cz ((E.wordsR (((aj.mk b false 0).wordsC 1).wordV)).length) cB) nS nS nS 0 0 0 0 0 nS) fun fp dY cK=>Pl 1<|nt<|rt<|bP dY (.int .i64 0)<|?_
 have hs:ag aI 0 c b=aL (aQ.mk c 0 ((aj.mk b false 0).wordV) (((aj.mk b false 0).wordsC 1).wordV) 0 0 0 0 0 0 0 0 (E.wordsR (((aj.mk b false 0).wordsC 1).wordV)) [] [] [] 0 0 0 0 0 []) (E.wordsC (((aj.mk b false 0).wordsC 1).wordV)):=by
   subst ct cq
   unfold ag aI bL bU d8 cA cm cE cC i6
   (try simp only[q,B,C,s,D,ao,bs,if_true,if_false,decide_true,decide_false,eq_self,true_or,or_true,or_false,false_or,if_true,if_false,cy,co,cw,cv,reduceIte,kf,ke])
   all_goals rfl
 rw[hs]
 exact bt bm ⟨_,_,_,_,_,rfl,((aq R (us aT (us an cK)) (fun x hx=>(aa (fun e=>(aB (au a8) (le (le (le (le (le (le y.size L.size) M.size) N.size) O.size) P.size) Q.size) R) (e▸hx)) (aa (fun e=>(aB (au o) (le (le (le (le (le (le (le H.size y.size) L.size) M.size) N.size) O.size) P.size) Q.size) R) (e▸hx)) (aa (fun e=>(aB (au k) (le (le (le (le (le (le (le (le i.size H.size) y.size) L.size) M.size) N.size) O.size) P.size) Q.size) R) (e▸hx)) aA)))) (fun _ _ h=>h))).rd,aS.nil ..,(fun _ _ _=>aS.nil ..),aS.nil ..,aS.nil ..,⟨(b8 (x:=c) (by omega)),(b8 (x:=0) (by omega)),(aD (x:=(aj.mk b false 0).wordV) (by omega)),(aD (x:=((aj.mk b false 0).wordsC 1).wordV) (by omega)),(aD (x:=0) (by omega)),(aD (x:=0) (by omega)),(aD (x:=0) (by omega)),(aD (x:=0) (by omega)),(aD (x:=0) (by omega)),(aD (x:=0) (by omega)),(aD (x:=0) (by omega)),(aD (x:=0) (by omega)),(b8 (x:=0) (by omega)),(b8 (x:=0) (by omega)),(b8 (x:=0) (by omega)),(b8 (x:=0) (by omega)),(b8 (x:=0) (by omega))⟩⟩ (ud cG cK t)
 have dL:=ak D
 refine sg<|Pl 3<|nt<|cb ((c==22)) (fun F=>?_) (fun F=>?_)
 have dZ:=ae F
 refine sg<|Pl 1<|?_
 have e0:RC w _ A cp b a6 l (aj.mk b false 0):=⟨hsl,z,(Nat.le_trans f.size d),⟨0,(ub a0 o),Nat.zero_le _,rfl⟩,by omega⟩
 refine L0<|Oc<|m3 (d7 e0) fun fq e1 cL fr=>Pl 1<|?_
 have a1:=nb (au o) lr g
 refine L0<|cj (b6 cL (Ne.symm a1) a7) 2 (mG c 0 ((aj.mk b false 0).wordV) 0 0 0 0 0 0 0 0 0 nS nS nS nS 0 0 0 0 0 nS) fun fs e2 cN=>ng<|Pl 1<|?_
 have bq:=us cL cN
 have cO:=ut z bq (ac (ni f.size d) (ac (ni (le f.size i.size) g) av))
 refine L0<|Oc<|m3 (d7 (RC.upd e1 cN (aa a1 aA) cO)) fun ft e3 cP fu=>Pl 1<|?_
 refine L0<|cj (b6 cP (Ne.symm a1) e2) 5 (mG c 0 ((aj.mk b false 0).wordV) 0 0 (((aj.mk b false 0).wordsC 1).wordV) 0 0 0 0 0 0 nS nS nS nS 0 0 0 0 0 nS) fun fv e4 cQ=>nt<|go<|Pl 1<|?_
 have bu:=us cP cQ
 have cR:=ut cO bu (ac (ni f.size d) (ac (ni (le f.size i.size) g) av))
 refine L0<|Oc<|m3 (d7 (RC.upd e3 cQ (aa a1 aA) cR)) fun fw e5 cS fx=>Pl 1<|?_
 refine L0<|cj (b6 cS (Ne.symm a1) e4) 6 (mG c 0 ((aj.mk b false 0).wordV) 0 0 (((aj.mk b false 0).wordsC 1).wordV) ((((aj.mk b false 0).wordsC 1).wordsC 1).wordV) 0 0 0 0 0 nS nS nS nS 0 0 0 0 0 nS) fun fy e6 cT=>nl<|bn<|tn<|sg<|Pl 1<|?_
 have bv:=us cS cT
 have cU:=ut cR bv (ac (ni f.size d) (ac (ni (le f.size i.size) g) av))
 refine L0<|Oc<|m2 (et (RC.upd e5 cT (aa a1 aA) cU)) fun fz bw aV=>nt<|sq<|sg<|Pl 3<|L0<|ez (p:=⟨l,3,none⟩) (v:=.int .i64 ((((((aj.mk b false 0).wordsC 1).wordsC 1).wordsC 1).endC).e)) (RC.fld bw)<|Pl 1<|nt<|?_
 have cV:=ud cU aV (le f.size d)
 refine cb ((((((((aj.mk b false 0).wordsC 1).wordsC 1).wordsC 1).endC).e)!=0)) (fun ar=>?_) (fun ar=>?_)
 have bx:=az ar
 refine sq<|Rg 7 (fun w'=>w'.cell? ⟨l,3,none⟩=some (.int .i64 ((((((aj.mk b false 0).wordsC 1).wordsC 1).wordsC 1).endC).e))) fun fA aW=>?_
 have cW:=RC.upd bw aW aA (aF.step (RC.u bw) aW)
 refine bj (RC.fld cW) fun aw=>Rt 0 aw<|Rt 1 aw<|Rt 2 aw<|Rt 3 aw<|Rl 4 aw (fun _ hs=>hs)<|?_
 refine R0 5 rfl<|be (ub (ut r (ut bq (ut bu (u1 bv (aG aV aW) im) (ac im (ac im av))) (ac im (ac im av))) (ac (nr d) (ac (ni i.size g) av))) k) mZ fun fB e7 cX=>?_
 have cY:=ud cV (uz aW cX) t
 refine bj (RC.fld (RC.upd cW cX (aa (Ne.symm (nb (au k) lr d)) aA) cY)) fun e8=>Rt 6 e8<|re<|tn<|rt<|tr<|bP e7 (.int .i64 ((((((aj.mk b false 0).wordsC 1).wordsC 1).wordsC 1).endC).e))<|?_
 have hs:ag aI 0 c b=aL (aQ.mk c 0 ((aj.mk b false 0).wordV) 0 0 (((aj.mk b false 0).wordsC 1).wordV) ((((aj.mk b false 0).wordsC 1).wordsC 1).wordV) 0 0 0 0 0 [] [] [] [] 0 0 0 0 0 []) ((((aj.mk b false 0).wordsC 1).wordsC 1).wordsC 1):=by
   unfold ag aI bL bU d8 cA cm cE cC i6
   (try simp only[q,B,C,s,D,F,ar,bs,if_true,if_false,decide_true,decide_false,eq_self,true_or,or_true,or_false,false_or,if_true,if_false,cy,co,cw,cv,reduceIte,kf,ke])
   all_goals rfl
 rw[hs]
 exact bi bx cY
 have bx:=ai ar
 refine bp<|sg<|?_
 refine L0<|bS (b6 aV (Ne.symm a1) e6)<|?_
 refine L0<|be (ub (ut r (ut bq (ut bu (u1 bv aV im) (ac im (ac im av))) (ac im (ac im av))) (ac (nr d) (ac (ni i.size g) av))) k) (mG c 0 ((aj.mk b false 0).wordV) 0 0 (((aj.mk b false 0).wordsC 1).wordV) ((((aj.mk b false 0).wordsC 1).wordsC 1).wordV) 0 0 0 0 0 nS nS nS nS 0 0 0 0 0 nS) fun fC e9 ea=>Pl 1<|nt<|rt<|bP e9 (.int .i64 0)<|?_
 have hs:ag aI 0 c b=aL (aQ.mk c 0 ((aj.mk b false 0).wordV) 0 0 (((aj.mk b false 0).wordsC 1).wordV) ((((aj.mk b false 0).wordsC 1).wordsC 1).wordV) 0 0 0 0 0 [] [] [] [] 0 0 0 0 0 []) ((((aj.mk b false 0).wordsC 1).wordsC 1).wordsC 1):=by
   unfold ag aI bL bU d8 cA cm cE cC i6
   (try simp only[q,B,C,s,D,F,ar,bs,if_true,if_false,decide_true,decide_false,eq_self,true_or,or_true,or_false,false_or,if_true,if_false,cy,co,cw,cv,reduceIte,kf,ke])
   all_goals rfl
 rw[hs]
 exact bt bx ⟨_,_,_,_,_,rfl,aS.nil ..,aS.nil ..,(fun _ _ _=>aS.nil ..),aS.nil ..,aS.nil ..,⟨(b8 (x:=c) (by omega)),(b8 (x:=0) (by omega)),(aD (x:=(aj.mk b false 0).wordV) (by omega)),(aD (x:=0) (by omega)),(aD (x:=0) (by omega)),(aD (x:=((aj.mk b false 0).wordsC 1).wordV) (by omega)),(aD (x:=(((aj.mk b false 0).wordsC 1).wordsC 1).wordV) (by omega)),(aD (x:=0) (by omega)),(aD (x:=0) (by omega)),(aD (x:=0) (by omega)),(aD (x:=0) (by omega)),(aD (x:=0) (by omega)),(b8 (x:=0) (by omega)),(b8 (x:=0) (by omega)),(b8 (x:=0) (by omega)),(b8 (x:=0) (by omega)),(b8 (x:=0) (by omega))⟩⟩ (ud cV ea t)
 have dZ:=ak F
 refine sg<|Pl 3<|nt<|cb ((c==23)) (fun S=>?_) (fun S=>?_)
 have eb:=ae S
 refine sg<|Pl 1<|?_
 have ec:RC w _ A cp b a6 l (aj.mk b false 0):=⟨hsl,z,(Nat.le_trans f.size d),⟨0,(ub a0 o),Nat.zero_le _,rfl⟩,by omega⟩
 refine L0<|Oc<|m3 (d7 ec) fun fD ed T fE=>Pl 1<|?_
 have J:=nb (au o) lr g
 refine L0<|cj (b6 T (Ne.symm J) a7) 2 (mG c 0 ((aj.mk b false 0).wordV) 0 0 0 0 0 0 0 0 0 nS nS nS nS 0 0 0 0 0 nS) fun fF cZ U=>ng<|Pl 2<|L0<|aP cZ 2<|?_
 have bz:=us T U
 have d0:=ut z bz (ac (ni f.size d) (ac (ni (le f.size i.size) g) av))
 refine L0<|Oc<|m3 (kD (a:=(aj.mk b false 0).wordV) (most:=125) (by omega) (RC.upd ed U (aa J aA) d0)) fun fG ef V fH=>?_
 refine fR ef fun j d1 eg=>?_
 refine L0<|xd (((aj.mk b false 0).wordsC 1).wordV)<|Pl 1<|?_
 refine L0<|cj (b6 V (Ne.symm J) cZ) 3 (mG c 0 ((aj.mk b false 0).wordV) (((aj.mk b false 0).wordsC 1).wordV) 0 0 0 0 0 0 0 0 nS nS nS nS 0 0 0 0 0 nS) fun fI eh W=>ng<|Pl 1<|?_
 have bB:=us V W
 have d2:=ut d0 bB (ac (ni f.size d) (ac (ni (le f.size i.size) g) av))
 refine L0<|Oc<|m3 (d7 (RC.upd eg W (aa J aA) d2)) fun fJ ei X fK=>Pl 1<|?_
 refine L0<|cj (b6 X (Ne.symm J) eh) 7 (mG c 0 ((aj.mk b false 0).wordV) (((aj.mk b false 0).wordsC 1).wordV) 0 0 0 j.wordV 0 0 0 0 nS nS nS nS 0 0 0 0 0 nS) fun fL d3 Y=>ng<|Pl 2<|L0<|aP d3 7<|?_
 have bC:=us X Y
 have d4:=ut d2 bC (ac (ni f.size d) (ac (ni (le f.size i.size) g) av))
 refine L0<|Oc<|m3 (kD (a:=j.wordV) (most:=121) (by omega) (RC.upd ei Y (aa J aA) d4)) fun fM ej a2 fN=>Pl 1<|ng<|Pl 1<|L0<|Oc<|m3 (ee ej) fun fO ek a3 fP=>L0<|Oi ((bJ (j.wordsC 1) j.wordV 121).byteV)<|Pl 1<|ng<|?_
 refine Pl 3<|L0<|Oi (2*((j.wordsC 1).wordV))<|Pl 1<|L0<|Oc<|m2 (b7 ((((bJ (j.wordsC 1) j.wordV 121).byteV)==(2*((j.wordsC 1).wordV)))) 5 ek) fun fQ el a4=>?_
 refine fR el fun G d5 em=>?_
 refine nt<|go<|Pl 2<|L0<|Oc<|mS (gc (n:=(j.wordsC 1).wordV) (by omega) em) fun d6 d9 fS Z fT fU eo ep=>Pl 1<|?_
 have da:=u1 a2 (u1 a3 (u1 a4 ep im) im) im
 refine L0<|cj (b6 da (Ne.symm J) d3) 12 (mG c 0 ((aj.mk b false 0).wordV) (((aj.mk b false 0).wordsC 1).wordV) 0 0 0 j.wordV 0 0 0 0 (.slice d6 ((G.wordsR ((j.wordsC 1).wordV)).length) d9) nS nS nS 0 0 0 0 0 nS) fun fV eq aX=>nl<|bn<|tn<|sg<|Pl 1<|?_
 have bD:=us da aX
 have db:=ut d4 bD (ac (ni f.size d) (ac (ni (le f.size i.size) g) av))
 refine L0<|Oc<|m2 (et (RC.upd eo aX (aa J aA) db)) fun fW bE ax=>nt<|sq<|sg<|Pl 3<|L0<|ez (p:=⟨l,3,none⟩) (v:=.int .i64 (((G.wordsC ((j.wordsC 1).wordV)).endC).e)) (RC.fld bE)<|Pl 1<|nt<|?_
 have dc:=ud db ax (le f.size d)
 refine cb (((((G.wordsC ((j.wordsC 1).wordV)).endC).e)!=0)) (fun ay=>?_) (fun ay=>?_)
 have bF:=az ay
 refine sq<|Rg 7 (fun w'=>w'.cell? ⟨l,3,none⟩=some (.int .i64 (((G.wordsC ((j.wordsC 1).wordV)).endC).e))) fun fX aY=>?_
 have dd:=RC.upd bE aY aA (aF.step (RC.u bE) aY)
 refine bj (RC.fld dd) fun aC=>Rt 0 aC<|Rt 1 aC<|Rt 2 aC<|Rt 3 aC<|Rl 4 aC (fun _ hs=>hs)<|?_
 have de:=aG ax aY
 refine R0 5 rfl<|be (ub (ut r (ut bz (ut bB (ut bC (u1 bD de im) (ac im (ac im av))) (ac im (ac im av))) (ac im (ac im av))) (ac (nr d) (ac (ni i.size g) av))) k) mZ fun fY er bG=>?_
 have df:=ud dc (uz aY bG) t
 refine bj (RC.fld (RC.upd dd bG (aa (Ne.symm (nb (au k) lr d)) aA) df)) fun es=>Rt 6 es<|re<|tn<|rt<|tr<|bP er (.int .i64 (((G.wordsC ((j.wordsC 1).wordV)).endC).e))<|?_
 have fZ:=aq Z (us aX (us de bG)) (fun x hx=>(aa (fun e=>(aB (au a8) (le (le (le (le (le (le (le (le (le y.size T.size) U.size) V.size) W.size) X.size) Y.size) a2.size) a3.size) a4.size) Z) (e▸hx)) (aa (fun e=>(aB (au o) (le (le (le (le (le (le (le (le (le (le H.size y.size) T.size) U.size) V.size) W.size) X.size) Y.size) a2.size) a3.size) a4.size) Z) (e▸hx)) (aa (fun e=>(aB (au k) (le (le (le (le (le (le (le (le (le (le (le i.size H.size) y.size) T.size) U.size) V.size) W.size) X.size) Y.size) a2.size) a3.size) a4.size) Z) (e▸hx)) aA)))) (fun _ _ h=>h)
 have hs:ag aI 0 c b=aL (aQ.mk c 0 ((aj.mk b false 0).wordV) (((aj.mk b false 0).wordsC 1).wordV) 0 0 0 j.wordV 0 0 0 0 (G.wordsR ((j.wordsC 1).wordV)) [] [] [] 0 0 0 0 0 []) (G.wordsC ((j.wordsC 1).wordV)):=by
   subst d5 d1
   unfold ag aI bL bU d8 cA cm cE cC i6
   (try simp only[q,B,C,s,D,F,S,ay,bs,if_true,if_false,decide_true,decide_false,eq_self,true_or,or_true,or_false,false_or,if_true,if_false,cy,co,cw,cv,reduceIte,kf,ke])
   all_goals rfl
 rw[hs]
 exact bi bF df
 have bF:=ai ay
 refine bp<|sg<|?_
 refine L0<|bS (b6 ax (Ne.symm J) eq)<|?_
 refine L0<|be (ub (ut r (ut bz (ut bB (ut bC (u1 bD ax im) (ac im (ac im av))) (ac im (ac im av))) (ac im (ac im av))) (ac (nr d) (ac (ni i.size g) av))) k) (mG c 0 ((aj.mk b false 0).wordV) (((aj.mk b false 0).wordsC 1).wordV) 0 0 0 j.wordV 0 0 0 0 (.slice d6 ((G.wordsR ((j.wordsC 1).wordV)).length) d9) nS nS nS 0 0 0 0 0 nS) fun g0 eu dg=>Pl 1<|nt<|rt<|bP eu (.int .i64 0)<|?_
 have hs:ag aI 0 c b=aL (aQ.mk c 0 ((aj.mk b false 0).wordV) (((aj.mk b false 0).wordsC 1).wordV) 0 0 0 j.wordV 0 0 0 0 (G.wordsR ((j.wordsC 1).wordV)) [] [] [] 0 0 0 0 0 []) (G.wordsC ((j.wordsC 1).wordV)):=by
   subst d5 d1
   unfold ag aI bL bU d8 cA cm cE cC i6
   (try simp only[q,B,C,s,D,F,S,ay,bs,if_true,if_false,decide_true,decide_false,eq_self,true_or,or_true,or_false,false_or,if_true,if_false,cy,co,cw,cv,reduceIte,kf,ke])
   all_goals rfl
 rw[hs]
 exact bt bF ⟨_,_,_,_,_,rfl,((aq Z (us aX (us ax dg)) (fun x hx=>(aa (fun e=>(aB (au a8) (le (le (le (le (le (le (le (le (le y.size T.size) U.size) V.size) W.size) X.size) Y.size) a2.size) a3.size) a4.size) Z) (e▸hx)) (aa (fun e=>(aB (au o) (le (le (le (le (le (le (le (le (le (le H.size y.size) T.size) U.size) V.size) W.size) X.size) Y.size) a2.size) a3.size) a4.size) Z) (e▸hx)) (aa (fun e=>(aB (au k) (le (le (le (le (le (le (le (le (le (le (le i.size H.size) y.size) T.size) U.size) V.size) W.size) X.size) Y.size) a2.size) a3.size) a4.size) Z) (e▸hx)) aA)))) (fun _ _ h=>h))).rd,aS.nil ..,(fun _ _ _=>aS.nil ..),aS.nil ..,aS.nil ..,⟨(b8 (x:=c) (by omega)),(b8 (x:=0) (by omega)),(aD (x:=(aj.mk b false 0).wordV) (by omega)),(aD (x:=((aj.mk b false 0).wordsC 1).wordV) (by omega)),(aD (x:=0) (by omega)),(aD (x:=0) (by omega)),(aD (x:=0) (by omega)),(aD (x:=j.wordV) (by omega)),(aD (x:=0) (by omega)),(aD (x:=0) (by omega)),(aD (x:=0) (by omega)),(aD (x:=0) (by omega)),(b8 (x:=0) (by omega)),(b8 (x:=0) (by omega)),(b8 (x:=0) (by omega)),(b8 (x:=0) (by omega)),(b8 (x:=0) (by omega))⟩⟩ (ud dc dg t)
 have eb:=ak S
 refine sg<|Pl 3<|cu 3 [168] 171 ((c==24)) (fun K dh=>?_) ?_
 refine bl 168 ((c==24)) (fun aE=>?_) (fun aE=>?_)
 have ev:=ae aE
 exact Pl 3<|ce dh true aE
 have ev:=ak aE
 exact Pl 3<|ce dh false aE
 refine Pl 1<|nt<|cb ((c==24)) (fun a5=>?_) (fun a5=>?_)
 have ew:=ae a5
 refine go<|Pl 1<|?_
 have ex:RC w _ A cp b a6 l (aj.mk b false 0):=⟨hsl,z,(Nat.le_trans f.size d),⟨0,(ub a0 o),Nat.zero_le _,rfl⟩,by omega⟩
 refine L0<|Oc<|m3 (d7 ex) fun g1 ey di g2=>Pl 1<|?_
 have bH:=nb (au o) lr g
 refine L0<|cj (b6 di (Ne.symm bH) a7) 2 (mG c 0 ((aj.mk b false 0).wordV) 0 0 0 0 0 0 0 0 0 nS nS nS nS 0 0 0 0 0 nS) fun g3 eA dj=>nl<|bn<|tn<|sg<|Pl 1<|?_
 have bI:=us di dj
 have dk:=ut z bI (ac (ni f.size d) (ac (ni (le f.size i.size) g) av))
 refine L0<|Oc<|m2 (et (RC.upd ey dj (aa bH aA) dk)) fun g4 bK aZ=>nt<|sq<|sg<|Pl 3<|L0<|ez (p:=⟨l,3,none⟩) (v:=.int .i64 ((((aj.mk b false 0).wordsC 1).endC).e)) (RC.fld bK)<|Pl 1<|nt<|?_
 have dl:=ud dk aZ (le f.size d)
 refine cb ((((((aj.mk b false 0).wordsC 1).endC).e)!=0)) (fun aJ=>?_) (fun aJ=>?_)
 have bM:=az aJ
 refine sq<|Rg 7 (fun w'=>w'.cell? ⟨l,3,none⟩=some (.int .i64 ((((aj.mk b false 0).wordsC 1).endC).e))) fun g5 b0=>?_
 have dm:=RC.upd bK b0 aA (aF.step (RC.u bK) b0)
 refine bj (RC.fld dm) fun aK=>Rt 0 aK<|Rt 1 aK<|Rt 2 aK<|Rt 3 aK<|Rl 4 aK (fun _ hs=>hs)<|?_
 refine R0 5 rfl<|be (ub (ut r (u1 bI (aG aZ b0) im) (ac (nr d) (ac (ni i.size g) av))) k) mZ fun g6 eB dn=>?_
 have dp:=ud dl (uz b0 dn) t
 refine bj (RC.fld (RC.upd dm dn (aa (Ne.symm (nb (au k) lr d)) aA) dp)) fun eC=>Rt 6 eC<|re<|tn<|rt<|tr<|bP eB (.int .i64 ((((aj.mk b false 0).wordsC 1).endC).e))<|?_
 have hs:ag aI 0 c b=aL (aQ.mk c 0 ((aj.mk b false 0).wordV) 0 0 0 0 0 0 0 0 0 [] [] [] [] 0 0 0 0 0 []) ((aj.mk b false 0).wordsC 1):=by
   unfold ag aI bL bU d8 cA cm cE cC i6
   (try simp only[q,B,C,s,D,F,S,a5,aJ,bs,if_true,if_false,decide_true,decide_false,eq_self,true_or,or_true,or_false,false_or,if_true,if_false,cy,co,cw,cv,reduceIte,kf,ke])
   all_goals rfl
 rw[hs]
 exact bi bM dp
 have bM:=ai aJ
 refine bp<|sg<|?_
 refine L0<|bS (b6 aZ (Ne.symm bH) eA)<|?_
 refine L0<|be (ub (ut r (u1 bI aZ im) (ac (nr d) (ac (ni i.size g) av))) k) (mG c 0 ((aj.mk b false 0).wordV) 0 0 0 0 0 0 0 0 0 nS nS nS nS 0 0 0 0 0 nS) fun g7 eD eE=>Pl 1<|nt<|rt<|bP eD (.int .i64 0)<|?_
 have hs:ag aI 0 c b=aL (aQ.mk c 0 ((aj.mk b false 0).wordV) 0 0 0 0 0 0 0 0 0 [] [] [] [] 0 0 0 0 0 []) ((aj.mk b false 0).wordsC 1):=by
   unfold ag aI bL bU d8 cA cm cE cC i6
   (try simp only[q,B,C,s,D,F,S,a5,aJ,bs,if_true,if_false,decide_true,decide_false,eq_self,true_or,or_true,or_false,false_or,if_true,if_false,cy,co,cw,cv,reduceIte,kf,ke])
   all_goals rfl
 rw[hs]
 exact bt bM ⟨_,_,_,_,_,rfl,aS.nil ..,aS.nil ..,(fun _ _ _=>aS.nil ..),aS.nil ..,aS.nil ..,⟨(b8 (x:=c) (by omega)),(b8 (x:=0) (by omega)),(aD (x:=(aj.mk b false 0).wordV) (by omega)),(aD (x:=0) (by omega)),(aD (x:=0) (by omega)),(aD (x:=0) (by omega)),(aD (x:=0) (by omega)),(aD (x:=0) (by omega)),(aD (x:=0) (by omega)),(aD (x:=0) (by omega)),(aD (x:=0) (by omega)),(aD (x:=0) (by omega)),(b8 (x:=0) (by omega)),(b8 (x:=0) (by omega)),(b8 (x:=0) (by omega)),(b8 (x:=0) (by omega)),(b8 (x:=0) (by omega))⟩⟩ (ud dl eE t)
 have ew:=ak a5
 refine sg<|Pl 3<|nt<|cf a5<|sg<|Pl 1<|?_
 refine L0<|be (ub r k) mZ fun g8 eF eG=>Pl 1<|nt<|rt<|br<|tr<|bP eF (.int .i64 4)<|?_
 have hs:ag aI 0 c b=(aQ.zero,4):=by
   unfold ag aI bL bU d8 cA cm cE cC i6
   (try simp only[q,B,C,s,D,F,S,a5,bs,if_true,if_false,decide_true,decide_false,eq_self,true_or,or_true,or_false,false_or,if_true,if_false,cy,co,cw,cv,reduceIte,kf,ke])
   all_goals rfl
 rw[hs]
 exact bA (ud z eG t)
theorem lQ{m:Md}{A:Option Addr}{cp:Nat}{b:List Int}{w:World}{c:Int}(hcode:B8 c)(hsl:bh m w (.slice A b.length cp) b)(hb:b.length≤1048576) :
    Calls Tryz.prog 94 #[.int .i64 1,.int .u8 c,.slice A b.length cp] w (cM (.slice A b.length cp) b (ag aI 1 c b) w):=by
 obtain⟨hcode1,hcode2⟩:=hcode
 have hln:(b.length:Int)≤1048576:=by omega
 refine en 221 Tryz.func94 rfl<|sg<|L0<|bO mZ fun e2 e3 y j f=>Pl 1<|nt<|sq<|sg<|Pl 6<|nt<|c0<|?_
 refine bp<|sg<|Pl 2<|L0<|dv #[.slice A b.length cp,.int .i64 0,.bool false,.int .i64 0] fun l e4 d q i=>Pl 1<|ng<|Pl 2<|L0<|bO mZ fun e5 e6 g W H=>L0<|be W (mC c) fun X Y r=>?_
 refine nt<|sq<|bk<|sg<|Pl 6<|cu 3 [35] 38 (((c==3)||(c==4))) (fun K bu=>?_) ?_
 refine bl 35 ((c==3)) (fun Z=>?_) (fun Z=>?_)
 have cS:=ae Z
 exact Pl 3<|ce bu true (by rw[Z];rfl)
 have cS:=ak Z
 exact Pl 3<|ce bu (c==4) (by rw[Z];rfl)
 refine Pl 1<|cu 3 [39] 42 ((((c==3)||(c==4))||(c==23))) (fun K bv=>?_) ?_
 refine bl 39 (((c==3)||(c==4))) (fun a0=>?_) (fun a0=>?_)
 exact Pl 3<|ce bv true (by rw[a0];rfl)
 have cT:=(aH a0).1
 have cU:=(aH a0).2
 have e7:=ak cT
 have e8:=ak cU
 exact Pl 3<|ce bv (c==23) (by rw[a0];rfl)
 refine Pl 2<|nt<|?_
 have T:=ud H r g
 have s:=aG i T
 have z:=aG f s
 refine cb ((((c==3)||(c==4))||(c==23))) (fun k=>?_) (fun k=>?_)
 refine sg<|Pl 1<|?_
 have cV:RC w _ A cp b X l (aj.mk b false 0):=⟨hsl,z,(Nat.le_trans f.size d),⟨0,(ub T q),Nat.zero_le _,rfl⟩,by omega⟩
 refine L0<|Oc<|m3 (ee cV) fun e9 cW M ea=>L0<|Oi ((aj.mk b false 0).byteV)<|Pl 1<|ng<|Pl 2<|L0<|Oe (.int .i64 (Int.tmod ((aj.mk b false 0).byteV) 2)) (.int .i64 (((aj.mk b false 0).byteV)%2)) (congrArg (Value.int .i64) (Int.tmod_eq_emod_of_nonneg (by omega)))<|Pl 2<|cu 3 [51] 54 ((((((aj.mk b false 0).byteV)%2)==0)&&(decide (0<((aj.mk b false 0).byteV))))) (fun K bw=>?_) ?_
 refine bl 51 (((((aj.mk b false 0).byteV)%2)==0)) (fun a1=>?_) (fun a1=>?_)
 have cX:=ae a1
 exact Pl 3<|ce bw (decide (0<((aj.mk b false 0).byteV))) (by rw[a1];rfl)
 have cX:=ak a1
 exact Pl 3<|ce bw false (by rw[a1];rfl)
 refine Pl 1<|cu 3 [55] 58 (((((((aj.mk b false 0).byteV)%2)==0)&&(decide (0<((aj.mk b false 0).byteV))))&&(decide (((aj.mk b false 0).byteV)≤250)))) (fun K bx=>?_) ?_
 refine bl 55 ((((((aj.mk b false 0).byteV)%2)==0)&&(decide (0<((aj.mk b false 0).byteV))))) (fun a2=>?_) (fun a2=>?_)
 have cY:=(aZ a2).1
 have cZ:=(aZ a2).2
 have eb:=ae cY
 have ec:=of_decide_eq_true cZ
 exact Pl 3<|ce bx (decide (((aj.mk b false 0).byteV)≤250)) (by rw[a2];rfl)
 exact Pl 3<|ce bx false (by rw[a2];rfl)
 refine L0<|Oc<|m2 (b7 (((((((aj.mk b false 0).byteV)%2)==0)&&(decide (0<((aj.mk b false 0).byteV))))&&(decide (((aj.mk b false 0).byteV)≤250)))) 5 cW) fun ed d0 N=>?_
 refine fR d0 fun x49 bz d1=>?_
 refine nt<|go<|Pl 2<|L0<|Oe (.int .i64 (IntKind.i64.wrap (Int.tdiv ((aj.mk b false 0).byteV) 2))) (.int .i64 (((aj.mk b false 0).byteV)/2)) (congrArg (Value.int .i64) (fU (by omega) (by omega)))<|L0<|Oc<|mS (gc (n:=(((aj.mk b false 0).byteV)/2)) (by omega) d1) fun bB bC ef I eg eh d2 d3=>Pl 1<|?_
 have bD:=u1 M (u1 N d3 im) im
 have aO:=nb (au q) lr g
 refine L0<|cj (b6 bD (Ne.symm aO) Y) 12 (mG c 0 0 0 0 0 0 0 0 0 0 0 (.slice bB ((x49.wordsR (((aj.mk b false 0).byteV)/2)).length) bC) nS nS nS 0 0 0 0 0 nS) fun ei d4 ar=>nl<|bn<|tn<|sg<|Pl 1<|?_
 have aR:=us bD ar
 have bE:=ut z aR (ac (ni f.size d) (ac (ni (le f.size i.size) g) av))
 refine L0<|Oc<|m2 (et (RC.upd d2 ar (aa aO aA) bE)) fun ej aT a3=>nt<|sq<|sg<|Pl 3<|L0<|ez (p:=⟨l,3,none⟩) (v:=.int .i64 (((x49.wordsC (((aj.mk b false 0).byteV)/2)).endC).e)) (RC.fld aT)<|Pl 1<|nt<|?_
 have bF:=ud bE a3 (le f.size d)
 refine cb (((((x49.wordsC (((aj.mk b false 0).byteV)/2)).endC).e)!=0)) (fun a4=>?_) (fun a4=>?_)
 have aU:=az a4
 refine sq<|Rg 7 (fun w'=>w'.cell? ⟨l,3,none⟩=some (.int .i64 (((x49.wordsC (((aj.mk b false 0).byteV)/2)).endC).e))) fun ek aw=>?_
 have bG:=RC.upd aT aw aA (aF.step (RC.u aT) aw)
 refine bj (RC.fld bG) fun a5=>Rt 0 a5<|Rt 1 a5<|Rt 2 a5<|Rt 3 a5<|Rl 4 a5 (fun _ hs=>hs)<|?_
 have bH:=aG a3 aw
 refine R0 5 rfl<|be (ub (ut s (u1 aR bH im) (ac (nr d) (ac (ni i.size g) av))) j) mZ fun el d5 aV=>?_
 have bI:=ud bF (uz aw aV) y
 refine bj (RC.fld (RC.upd bG aV (aa (Ne.symm (nb (au j) lr d)) aA) bI)) fun d6=>Rt 6 d6<|re<|tn<|rt<|tr<|bP d5 (.int .i64 (((x49.wordsC (((aj.mk b false 0).byteV)/2)).endC).e))<|?_
 have em:=aq I (us ar (us bH aV)) (fun x hx=>(aa (fun e=>(aB (au W) (le (le r.size M.size) N.size) I) (e▸hx)) (aa (fun e=>(aB (au q) (le (le (le H.size r.size) M.size) N.size) I) (e▸hx)) (aa (fun e=>(aB (au j) (le (le (le (le i.size H.size) r.size) M.size) N.size) I) (e▸hx)) aA)))) (fun _ _ h=>h)
 have hs:ag aI 1 c b=aL (aQ.mk c 0 0 0 0 0 0 0 0 0 0 0 (x49.wordsR (((aj.mk b false 0).byteV)/2)) [] [] [] 0 0 0 0 0 []) (x49.wordsC (((aj.mk b false 0).byteV)/2)):=by
   subst bz
   unfold ag
   (try simp only[k,a4,bs,if_true,if_false,decide_true,decide_false,eq_self,true_or,or_true,or_false,false_or,if_true,if_false,cy,co,cw,cv,reduceIte,kf,ke,oz k])
   all_goals rfl
 rw[hs]
 exact bi aU bI
 have aU:=ai a4
 refine bp<|sg<|?_
 refine L0<|bS (b6 a3 (Ne.symm aO) d4)<|?_
 refine L0<|be (ub (ut s (u1 aR a3 im) (ac (nr d) (ac (ni i.size g) av))) j) (mG c 0 0 0 0 0 0 0 0 0 0 0 (.slice bB ((x49.wordsR (((aj.mk b false 0).byteV)/2)).length) bC) nS nS nS 0 0 0 0 0 nS) fun eo d9 bJ=>Pl 1<|nt<|rt<|bP d9 (.int .i64 0)<|?_
 have hs:ag aI 1 c b=aL (aQ.mk c 0 0 0 0 0 0 0 0 0 0 0 (x49.wordsR (((aj.mk b false 0).byteV)/2)) [] [] [] 0 0 0 0 0 []) (x49.wordsC (((aj.mk b false 0).byteV)/2)):=by
   subst bz
   unfold ag
   (try simp only[k,a4,bs,if_true,if_false,decide_true,decide_false,eq_self,true_or,or_true,or_false,false_or,if_true,if_false,cy,co,cw,cv,reduceIte,kf,ke,oz k])
   all_goals rfl
 rw[hs]
 exact bt aU ⟨_,_,_,_,_,rfl,((aq I (us ar (us a3 bJ)) (fun x hx=>(aa (fun e=>(aB (au W) (le (le r.size M.size) N.size) I) (e▸hx)) (aa (fun e=>(aB (au q) (le (le (le H.size r.size) M.size) N.size) I) (e▸hx)) (aa (fun e=>(aB (au j) (le (le (le (le i.size H.size) r.size) M.size) N.size) I) (e▸hx)) aA)))) (fun _ _ h=>h))).rd,aS.nil ..,(fun _ _ _=>aS.nil ..),aS.nil ..,aS.nil ..,⟨(b8 (x:=c) (by omega)),(b8 (x:=0) (by omega)),(aD (x:=0) (by omega)),(aD (x:=0) (by omega)),(aD (x:=0) (by omega)),(aD (x:=0) (by omega)),(aD (x:=0) (by omega)),(aD (x:=0) (by omega)),(aD (x:=0) (by omega)),(aD (x:=0) (by omega)),(aD (x:=0) (by omega)),(aD (x:=0) (by omega)),(b8 (x:=0) (by omega)),(b8 (x:=0) (by omega)),(b8 (x:=0) (by omega)),(b8 (x:=0) (by omega)),(b8 (x:=0) (by omega))⟩⟩ (ud bF bJ y)
 have B:=(aH k).1
 have C:=(aH k).2
 have D:=(aH B).1
 have E:=(aH B).2
 have q35aap:=ak D
 have q35abp:=ak E
 have ep:=ak C
 refine sg<|Pl 3<|sy 68 D<|Pl 4<|nt<|cf E<|sg<|Pl 3<|nt<|cb ((c==6)) (fun t=>?_) (fun t=>?_)
 have da:=ae t
 refine sg<|Pl 1<|?_
 have db:RC w _ A cp b X l (aj.mk b false 0):=⟨hsl,z,(Nat.le_trans f.size d),⟨0,(ub T q),Nat.zero_le _,rfl⟩,by omega⟩
 refine L0<|Oc<|m3 (d7 db) fun eq dc bK er=>Pl 1<|?_
 have a6:=nb (au q) lr g
 refine L0<|cj (b6 bK (Ne.symm a6) Y) 2 (mG c 0 ((aj.mk b false 0).wordV) 0 0 0 0 0 0 0 0 0 nS nS nS nS 0 0 0 0 0 nS) fun es dd bM=>nt<|go<|Pl 1<|?_
 have aW:=us bK bM
 have bN:=ut z aW (ac (ni f.size d) (ac (ni (le f.size i.size) g) av))
 refine L0<|Oc<|m3 (d7 (RC.upd dc bM (aa a6 aA) bN)) fun eu de bQ ev=>Pl 1<|?_
 refine L0<|cj (b6 bQ (Ne.symm a6) dd) 4 (mG c 0 ((aj.mk b false 0).wordV) 0 (((aj.mk b false 0).wordsC 1).wordV) 0 0 0 0 0 0 0 nS nS nS nS 0 0 0 0 0 nS) fun ew df bR=>nl<|bn<|tn<|sg<|Pl 1<|?_
 have aX:=us bQ bR
 have bT:=ut bN aX (ac (ni f.size d) (ac (ni (le f.size i.size) g) av))
 refine L0<|Oc<|m2 (et (RC.upd de bR (aa a6 aA) bT)) fun ex aY ax=>nt<|sq<|sg<|Pl 3<|L0<|ez (p:=⟨l,3,none⟩) (v:=.int .i64 (((((aj.mk b false 0).wordsC 1).wordsC 1).endC).e)) (RC.fld aY)<|Pl 1<|nt<|?_
 have bV:=ud bT ax (le f.size d)
 refine cb (((((((aj.mk b false 0).wordsC 1).wordsC 1).endC).e)!=0)) (fun a7=>?_) (fun a7=>?_)
 have b0:=az a7
 refine sq<|Rg 7 (fun w'=>w'.cell? ⟨l,3,none⟩=some (.int .i64 (((((aj.mk b false 0).wordsC 1).wordsC 1).endC).e))) fun ey ay=>?_
 have bW:=RC.upd aY ay aA (aF.step (RC.u aY) ay)
 refine bj (RC.fld bW) fun a8=>Rt 0 a8<|Rt 1 a8<|Rt 2 a8<|Rt 3 a8<|Rl 4 a8 (fun _ hs=>hs)<|?_
 refine R0 5 rfl<|be (ub (ut s (ut aW (u1 aX (aG ax ay) im) (ac im (ac im av))) (ac (nr d) (ac (ni i.size g) av))) j) mZ fun eA dg bX=>?_
 have bY:=ud bV (uz ay bX) y
 refine bj (RC.fld (RC.upd bW bX (aa (Ne.symm (nb (au j) lr d)) aA) bY)) fun dh=>Rt 6 dh<|re<|tn<|rt<|tr<|bP dg (.int .i64 (((((aj.mk b false 0).wordsC 1).wordsC 1).endC).e))<|?_
 have hs:ag aI 1 c b=aL (aQ.mk c 0 ((aj.mk b false 0).wordV) 0 (((aj.mk b false 0).wordsC 1).wordV) 0 0 0 0 0 0 0 [] [] [] [] 0 0 0 0 0 []) (((aj.mk b false 0).wordsC 1).wordsC 1):=by
   unfold ag aI bL bU d8 cA cm cE cC i6
   (try simp only[k,B,D,E,C,t,a7,bs,if_true,if_false,decide_true,decide_false,eq_self,true_or,or_true,or_false,false_or,if_true,if_false,cy,co,cw,cv,reduceIte,kf,ke])
   all_goals rfl
 rw[hs]
 exact bi b0 bY
 have b0:=ai a7
 refine bp<|sg<|?_
 refine L0<|bS (b6 ax (Ne.symm a6) df)<|?_
 refine L0<|be (ub (ut s (ut aW (u1 aX ax im) (ac im (ac im av))) (ac (nr d) (ac (ni i.size g) av))) j) (mG c 0 ((aj.mk b false 0).wordV) 0 (((aj.mk b false 0).wordsC 1).wordV) 0 0 0 0 0 0 0 nS nS nS nS 0 0 0 0 0 nS) fun eB di dj=>Pl 1<|nt<|rt<|bP di (.int .i64 0)<|?_
 have hs:ag aI 1 c b=aL (aQ.mk c 0 ((aj.mk b false 0).wordV) 0 (((aj.mk b false 0).wordsC 1).wordV) 0 0 0 0 0 0 0 [] [] [] [] 0 0 0 0 0 []) (((aj.mk b false 0).wordsC 1).wordsC 1):=by
   unfold ag aI bL bU d8 cA cm cE cC i6
   (try simp only[k,B,D,E,C,t,a7,bs,if_true,if_false,decide_true,decide_false,eq_self,true_or,or_true,or_false,false_or,if_true,if_false,cy,co,cw,cv,reduceIte,kf,ke])
   all_goals rfl
 rw[hs]
 exact bt b0 ⟨_,_,_,_,_,rfl,aS.nil ..,aS.nil ..,(fun _ _ _=>aS.nil ..),aS.nil ..,aS.nil ..,⟨(b8 (x:=c) (by omega)),(b8 (x:=0) (by omega)),(aD (x:=(aj.mk b false 0).wordV) (by omega)),(aD (x:=0) (by omega)),(aD (x:=((aj.mk b false 0).wordsC 1).wordV) (by omega)),(aD (x:=0) (by omega)),(aD (x:=0) (by omega)),(aD (x:=0) (by omega)),(aD (x:=0) (by omega)),(aD (x:=0) (by omega)),(aD (x:=0) (by omega)),(aD (x:=0) (by omega)),(b8 (x:=0) (by omega)),(b8 (x:=0) (by omega)),(b8 (x:=0) (by omega)),(b8 (x:=0) (by omega)),(b8 (x:=0) (by omega))⟩⟩ (ud bV dj y)
 have da:=ak t
 refine sg<|Pl 3<|nt<|cb ((c==16)) (fun F=>?_) (fun F=>?_)
 have dk:=ae F
 refine sg<|Pl 1<|?_
 have dl:RC w _ A cp b X l (aj.mk b false 0):=⟨hsl,z,(Nat.le_trans f.size d),⟨0,(ub T q),Nat.zero_le _,rfl⟩,by omega⟩
 refine L0<|Oc<|m3 (d7 dl) fun eC dm bZ eD=>Pl 1<|?_
 have a9:=nb (au q) lr g
 refine L0<|cj (b6 bZ (Ne.symm a9) Y) 2 (mG c 0 ((aj.mk b false 0).wordV) 0 0 0 0 0 0 0 0 0 nS nS nS nS 0 0 0 0 0 nS) fun eE c1 c2=>ng<|Pl 2<|L0<|aP c1 2<|?_
 have b1:=us bZ c2
 have c3:=ut z b1 (ac (ni f.size d) (ac (ni (le f.size i.size) g) av))
 refine L0<|Oc<|m3 (kD (a:=(aj.mk b false 0).wordV) (most:=123) (by omega) (RC.upd dm c2 (aa a9 aA) c3)) fun eF dn c4 eG=>?_
 refine fR dn fun U c5 dp=>?_
 refine L0<|xd (((aj.mk b false 0).wordsC 1).wordV)<|Pl 1<|?_
 refine L0<|cj (b6 c4 (Ne.symm a9) c1) 3 (mG c 0 ((aj.mk b false 0).wordV) (((aj.mk b false 0).wordsC 1).wordV) 0 0 0 0 0 0 0 0 nS nS nS nS 0 0 0 0 0 nS) fun eH dq c6=>ng<|Pl 2<|nt<|c0<|sk<|bn<|tn<|sg<|?_
 refine Pl 1<|?_
 have b2:=us c4 c6
 have c7:=ut c3 b2 (ac (ni f.size d) (ac (ni (le f.size i.size) g) av))
 refine L0<|Oc<|m2 (et (RC.upd dp c6 (aa a9 aA) c7)) fun eI b3 aC=>nt<|sq<|sg<|Pl 3<|L0<|ez (p:=⟨l,3,none⟩) (v:=.int .i64 U.endC.e) (RC.fld b3)<|Pl 1<|nt<|?_
 have c8:=ud c7 aC (le f.size d)
 refine cb ((U.endC.e != 0)) (fun ab=>?_) (fun ab=>?_)
 have b4:=az ab
 refine sq<|Rg 7 (fun w'=>w'.cell? ⟨l,3,none⟩=some (.int .i64 U.endC.e)) fun eJ aE=>?_
 have c9:=RC.upd b3 aE aA (aF.step (RC.u b3) aE)
 refine bj (RC.fld c9) fun ad=>Rt 0 ad<|Rt 1 ad<|Rt 2 ad<|Rt 3 ad<|Rl 4 ad (fun _ hs=>hs)<|?_
 refine R0 5 rfl<|be (ub (ut s (ut b1 (u1 b2 (aG aC aE) im) (ac im (ac im av))) (ac (nr d) (ac (ni i.size g) av))) j) mZ fun eK dr ca=>?_
 have cc:=ud c8 (uz aE ca) y
 refine bj (RC.fld (RC.upd c9 ca (aa (Ne.symm (nb (au j) lr d)) aA) cc)) fun ds=>Rt 6 ds<|re<|tn<|rt<|tr<|bP dr (.int .i64 U.endC.e)<|?_
 have hs:ag aI 1 c b=aL (aQ.mk c 0 ((aj.mk b false 0).wordV) (((aj.mk b false 0).wordsC 1).wordV) 0 0 0 0 0 0 0 0 [] [] [] [] 0 0 0 0 0 []) U:=by
   subst c5
   unfold ag aI bL bU d8 cA cm cE cC i6
   (try simp only[k,B,D,E,C,t,F,ab,bs,if_true,if_false,decide_true,decide_false,eq_self,true_or,or_true,or_false,false_or,if_true,if_false,cy,co,cw,cv,reduceIte,kf,ke])
   all_goals rfl
 rw[hs]
 exact bi b4 cc
 have b4:=ai ab
 refine bp<|sg<|?_
 refine L0<|bS (b6 aC (Ne.symm a9) dq)<|?_
 refine L0<|be (ub (ut s (ut b1 (u1 b2 aC im) (ac im (ac im av))) (ac (nr d) (ac (ni i.size g) av))) j) (mG c 0 ((aj.mk b false 0).wordV) (((aj.mk b false 0).wordsC 1).wordV) 0 0 0 0 0 0 0 0 nS nS nS nS 0 0 0 0 0 nS) fun eL dt du=>Pl 1<|nt<|rt<|bP dt (.int .i64 0)<|?_
 have hs:ag aI 1 c b=aL (aQ.mk c 0 ((aj.mk b false 0).wordV) (((aj.mk b false 0).wordsC 1).wordV) 0 0 0 0 0 0 0 0 [] [] [] [] 0 0 0 0 0 []) U:=by
   subst c5
   unfold ag aI bL bU d8 cA cm cE cC i6
   (try simp only[k,B,D,E,C,t,F,ab,bs,if_true,if_false,decide_true,decide_false,eq_self,true_or,or_true,or_false,false_or,if_true,if_false,cy,co,cw,cv,reduceIte,kf,ke])
   all_goals rfl
 rw[hs]
 exact bt b4 ⟨_,_,_,_,_,rfl,aS.nil ..,aS.nil ..,(fun _ _ _=>aS.nil ..),aS.nil ..,aS.nil ..,⟨(b8 (x:=c) (by omega)),(b8 (x:=0) (by omega)),(aD (x:=(aj.mk b false 0).wordV) (by omega)),(aD (x:=((aj.mk b false 0).wordsC 1).wordV) (by omega)),(aD (x:=0) (by omega)),(aD (x:=0) (by omega)),(aD (x:=0) (by omega)),(aD (x:=0) (by omega)),(aD (x:=0) (by omega)),(aD (x:=0) (by omega)),(aD (x:=0) (by omega)),(aD (x:=0) (by omega)),(b8 (x:=0) (by omega)),(b8 (x:=0) (by omega)),(b8 (x:=0) (by omega)),(b8 (x:=0) (by omega)),(b8 (x:=0) (by omega))⟩⟩ (ud c8 du y)
 have dk:=ak F
 refine sg<|Pl 3<|nt<|cb ((c==22)) (fun J=>?_) (fun J=>?_)
 have dw:=ae J
 refine sg<|Pl 1<|?_
 have dx:RC w _ A cp b X l (aj.mk b false 0):=⟨hsl,z,(Nat.le_trans f.size d),⟨0,(ub T q),Nat.zero_le _,rfl⟩,by omega⟩
 refine L0<|Oc<|m3 (d7 dx) fun eM dy cd eN=>Pl 1<|?_
 have O:=nb (au q) lr g
 refine L0<|cj (b6 cd (Ne.symm O) Y) 2 (mG c 0 ((aj.mk b false 0).wordV) 0 0 0 0 0 0 0 0 0 nS nS nS nS 0 0 0 0 0 nS) fun eO dz cg=>ng<|Pl 1<|?_
 have b5:=us cd cg
 have ch:=ut z b5 (ac (ni f.size d) (ac (ni (le f.size i.size) g) av))
 refine L0<|Oc<|m3 (d7 (RC.upd dy cg (aa O aA) ch)) fun eP dA ci eQ=>Pl 1<|?_
 refine L0<|cj (b6 ci (Ne.symm O) dz) 5 (mG c 0 ((aj.mk b false 0).wordV) 0 0 (((aj.mk b false 0).wordsC 1).wordV) 0 0 0 0 0 0 nS nS nS nS 0 0 0 0 0 nS) fun eR dB ck=>nt<|go<|Pl 1<|?_
 have b9:=us ci ck
 have cl:=ut ch b9 (ac (ni f.size d) (ac (ni (le f.size i.size) g) av))
 refine L0<|Oc<|m3 (d7 (RC.upd dA ck (aa O aA) cl)) fun eS dC cn eT=>Pl 1<|?_
 refine L0<|cj (b6 cn (Ne.symm O) dB) 6 (mG c 0 ((aj.mk b false 0).wordV) 0 0 (((aj.mk b false 0).wordsC 1).wordV) ((((aj.mk b false 0).wordsC 1).wordsC 1).wordV) 0 0 0 0 0 nS nS nS nS 0 0 0 0 0 nS) fun eU dD cq=>nl<|bn<|tn<|sg<|Pl 1<|?_
 have ba:=us cn cq
 have cr:=ut cl ba (ac (ni f.size d) (ac (ni (le f.size i.size) g) av))
 refine L0<|Oc<|m2 (et (RC.upd dC cq (aa O aA) cr)) fun eV bb aJ=>nt<|sq<|sg<|Pl 3<|L0<|ez (p:=⟨l,3,none⟩) (v:=.int .i64 ((((((aj.mk b false 0).wordsC 1).wordsC 1).wordsC 1).endC).e)) (RC.fld bb)<|Pl 1<|nt<|?_
 have cs:=ud cr aJ (le f.size d)
 refine cb ((((((((aj.mk b false 0).wordsC 1).wordsC 1).wordsC 1).endC).e)!=0)) (fun af=>?_) (fun af=>?_)
 have bc:=az af
 refine sq<|Rg 7 (fun w'=>w'.cell? ⟨l,3,none⟩=some (.int .i64 ((((((aj.mk b false 0).wordsC 1).wordsC 1).wordsC 1).endC).e))) fun eW aK=>?_
 have ct:=RC.upd bb aK aA (aF.step (RC.u bb) aK)
 refine bj (RC.fld ct) fun ah=>Rt 0 ah<|Rt 1 ah<|Rt 2 ah<|Rt 3 ah<|Rl 4 ah (fun _ hs=>hs)<|?_
 refine R0 5 rfl<|be (ub (ut s (ut b5 (ut b9 (u1 ba (aG aJ aK) im) (ac im (ac im av))) (ac im (ac im av))) (ac (nr d) (ac (ni i.size g) av))) j) mZ fun eX dE cx=>?_
 have cz:=ud cs (uz aK cx) y
 refine bj (RC.fld (RC.upd ct cx (aa (Ne.symm (nb (au j) lr d)) aA) cz)) fun dF=>Rt 6 dF<|re<|tn<|rt<|tr<|bP dE (.int .i64 ((((((aj.mk b false 0).wordsC 1).wordsC 1).wordsC 1).endC).e))<|?_
 have hs:ag aI 1 c b=aL (aQ.mk c 0 ((aj.mk b false 0).wordV) 0 0 (((aj.mk b false 0).wordsC 1).wordV) ((((aj.mk b false 0).wordsC 1).wordsC 1).wordV) 0 0 0 0 0 [] [] [] [] 0 0 0 0 0 []) ((((aj.mk b false 0).wordsC 1).wordsC 1).wordsC 1):=by
   unfold ag aI bL bU d8 cA cm cE cC i6
   (try simp only[k,B,D,E,C,t,F,J,af,bs,if_true,if_false,decide_true,decide_false,eq_self,true_or,or_true,or_false,false_or,if_true,if_false,cy,co,cw,cv,reduceIte,kf,ke])
   all_goals rfl
 rw[hs]
 exact bi bc cz
 have bc:=ai af
 refine bp<|sg<|?_
 refine L0<|bS (b6 aJ (Ne.symm O) dD)<|?_
 refine L0<|be (ub (ut s (ut b5 (ut b9 (u1 ba aJ im) (ac im (ac im av))) (ac im (ac im av))) (ac (nr d) (ac (ni i.size g) av))) j) (mG c 0 ((aj.mk b false 0).wordV) 0 0 (((aj.mk b false 0).wordsC 1).wordV) ((((aj.mk b false 0).wordsC 1).wordsC 1).wordV) 0 0 0 0 0 nS nS nS nS 0 0 0 0 0 nS) fun eY dG dH=>Pl 1<|nt<|rt<|bP dG (.int .i64 0)<|?_
 have hs:ag aI 1 c b=aL (aQ.mk c 0 ((aj.mk b false 0).wordV) 0 0 (((aj.mk b false 0).wordsC 1).wordV) ((((aj.mk b false 0).wordsC 1).wordsC 1).wordV) 0 0 0 0 0 [] [] [] [] 0 0 0 0 0 []) ((((aj.mk b false 0).wordsC 1).wordsC 1).wordsC 1):=by
   unfold ag aI bL bU d8 cA cm cE cC i6
   (try simp only[k,B,D,E,C,t,F,J,af,bs,if_true,if_false,decide_true,decide_false,eq_self,true_or,or_true,or_false,false_or,if_true,if_false,cy,co,cw,cv,reduceIte,kf,ke])
   all_goals rfl
 rw[hs]
 exact bt bc ⟨_,_,_,_,_,rfl,aS.nil ..,aS.nil ..,(fun _ _ _=>aS.nil ..),aS.nil ..,aS.nil ..,⟨(b8 (x:=c) (by omega)),(b8 (x:=0) (by omega)),(aD (x:=(aj.mk b false 0).wordV) (by omega)),(aD (x:=0) (by omega)),(aD (x:=0) (by omega)),(aD (x:=((aj.mk b false 0).wordsC 1).wordV) (by omega)),(aD (x:=(((aj.mk b false 0).wordsC 1).wordsC 1).wordV) (by omega)),(aD (x:=0) (by omega)),(aD (x:=0) (by omega)),(aD (x:=0) (by omega)),(aD (x:=0) (by omega)),(aD (x:=0) (by omega)),(b8 (x:=0) (by omega)),(b8 (x:=0) (by omega)),(b8 (x:=0) (by omega)),(b8 (x:=0) (by omega)),(b8 (x:=0) (by omega))⟩⟩ (ud cs dH y)
 have dw:=ak J
 refine sg<|Pl 3<|nt<|cf C<|sg<|Pl 3<|cu 3 [168] 171 (false) (fun K cB=>?_) ?_
 refine bl 168 ((c==24)) (fun bd=>?_) (fun bd=>?_)
 have dI:=ae bd
 exact Pl 3<|ce cB false rfl
 have dI:=ak bd
 exact Pl 3<|ce cB false rfl
 refine Pl 1<|nt<|c0<|sg<|Pl 3<|nt<|cb ((c==24)) (fun V=>?_) (fun V=>?_)
 have dJ:=ae V
 refine sg<|Pl 1<|?_
 have dK:RC w _ A cp b X l (aj.mk b false 0):=⟨hsl,z,(Nat.le_trans f.size d),⟨0,(ub T q),Nat.zero_le _,rfl⟩,by omega⟩
 refine L0<|Oc<|m3 (d7 dK) fun eZ dL P f0=>L0<|Oi ((aj.mk b false 0).wordV)<|Pl 1<|ng<|Pl 2<|L0<|Oe (.int .i64 (Int.tmod ((aj.mk b false 0).wordV) 2)) (.int .i64 (((aj.mk b false 0).wordV)%2)) (congrArg (Value.int .i64) (Int.tmod_eq_emod_of_nonneg (by omega)))<|Pl 2<|cu 3 [185] 188 ((((((aj.mk b false 0).wordV)%2)==0)&&(decide (2≤((aj.mk b false 0).wordV))))) (fun K cD=>?_) ?_
 refine bl 185 (((((aj.mk b false 0).wordV)%2)==0)) (fun al=>?_) (fun al=>?_)
 have dM:=ae al
 exact Pl 3<|ce cD (decide (2≤((aj.mk b false 0).wordV))) (by rw[al];rfl)
 have dM:=ak al
 exact Pl 3<|ce cD false (by rw[al];rfl)
 refine Pl 1<|cu 3 [189] 192 (((((((aj.mk b false 0).wordV)%2)==0)&&(decide (2≤((aj.mk b false 0).wordV))))&&(decide (((aj.mk b false 0).wordV)≤64)))) (fun K cF=>?_) ?_
 refine bl 189 ((((((aj.mk b false 0).wordV)%2)==0)&&(decide (2≤((aj.mk b false 0).wordV))))) (fun am=>?_) (fun am=>?_)
 have dN:=(aZ am).1
 have dO:=(aZ am).2
 have f1:=ae dN
 have f2:=of_decide_eq_true dO
 exact Pl 3<|ce cF (decide (((aj.mk b false 0).wordV)≤64)) (by rw[am];rfl)
 exact Pl 3<|ce cF false (by rw[am];rfl)
 refine L0<|Oc<|m2 (b7 (((((((aj.mk b false 0).wordV)%2)==0)&&(decide (2≤((aj.mk b false 0).wordV))))&&(decide (((aj.mk b false 0).wordV)≤64)))) 5 dL) fun f3 dP Q=>?_
 refine fR dP fun o cG dQ=>?_
 refine ng<|Pl 1<|L0<|Oc<|m3 (d7 dQ) fun f4 dR R f5=>L0<|Oi o.wordV<|Pl 1<|ng<|Pl 3<|L0<|Oi (2*o.wordV)<|?_
 refine L0<|Oi ((2*o.wordV)+2)<|Pl 1<|L0<|Oc<|m2 (b7 ((((aj.mk b false 0).wordV)==((2*o.wordV)+2))) 5 dR) fun f6 dS S=>?_
 refine fR dS fun G cH dT=>?_
 refine nt<|go<|Pl 2<|L0<|Oc<|mS (gc (n:=o.wordV) (by omega) dT) fun cI cJ f7 L f8 f9 dU dV=>Pl 1<|?_
 have cK:=u1 P (u1 Q (u1 R (u1 S dV im) im) im) im
 have bf:=nb (au q) lr g
 refine L0<|cj (b6 cK (Ne.symm bf) Y) 12 (mG c 0 0 0 0 0 0 0 0 0 0 0 (.slice cI ((G.wordsR o.wordV).length) cJ) nS nS nS 0 0 0 0 0 nS) fun fa dW aM=>nl<|bn<|tn<|sg<|Pl 1<|?_
 have bg:=us cK aM
 have cL:=ut z bg (ac (ni f.size d) (ac (ni (le f.size i.size) g) av))
 refine L0<|Oc<|m2 (et (RC.upd dU aM (aa bf aA) cL)) fun fb bm an=>nt<|sq<|sg<|Pl 3<|L0<|ez (p:=⟨l,3,none⟩) (v:=.int .i64 (((G.wordsC o.wordV).endC).e)) (RC.fld bm)<|Pl 1<|nt<|?_
 have cN:=ud cL an (le f.size d)
 refine cb (((((G.wordsC o.wordV).endC).e)!=0)) (fun ao=>?_) (fun ao=>?_)
 have bo:=az ao
 refine sq<|Rg 7 (fun w'=>w'.cell? ⟨l,3,none⟩=some (.int .i64 (((G.wordsC o.wordV).endC).e))) fun fc aN=>?_
 have cO:=RC.upd bm aN aA (aF.step (RC.u bm) aN)
 refine bj (RC.fld cO) fun ap=>Rt 0 ap<|Rt 1 ap<|Rt 2 ap<|Rt 3 ap<|Rl 4 ap (fun _ hs=>hs)<|?_
 have cP:=aG an aN
 refine R0 5 rfl<|be (ub (ut s (u1 bg cP im) (ac (nr d) (ac (ni i.size g) av))) j) mZ fun fd dX bq=>?_
 have cQ:=ud cN (uz aN bq) y
 refine bj (RC.fld (RC.upd cO bq (aa (Ne.symm (nb (au j) lr d)) aA) cQ)) fun dY=>Rt 6 dY<|re<|tn<|rt<|tr<|bP dX (.int .i64 (((G.wordsC o.wordV).endC).e))<|?_
 have fe:=aq L (us aM (us cP bq)) (fun x hx=>(aa (fun e=>(aB (au W) (le (le (le (le r.size P.size) Q.size) R.size) S.size) L) (e▸hx)) (aa (fun e=>(aB (au q) (le (le (le (le (le H.size r.size) P.size) Q.size) R.size) S.size) L) (e▸hx)) (aa (fun e=>(aB (au j) (le (le (le (le (le (le i.size H.size) r.size) P.size) Q.size) R.size) S.size) L) (e▸hx)) aA)))) (fun _ _ h=>h)
 have hs:ag aI 1 c b=aL (aQ.mk c 0 0 0 0 0 0 0 0 0 0 0 (G.wordsR o.wordV) [] [] [] 0 0 0 0 0 []) (G.wordsC o.wordV):=by
   subst cH cG
   unfold ag aI bL bU d8 cA cm cE cC i6
   (try simp only[k,B,D,E,C,t,F,J,V,ao,bs,if_true,if_false,decide_true,decide_false,eq_self,true_or,or_true,or_false,false_or,if_true,if_false,cy,co,cw,cv,reduceIte,kf,ke])
   all_goals rfl
 rw[hs]
 exact bi bo cQ
 have bo:=ai ao
 refine bp<|sg<|?_
 refine L0<|bS (b6 an (Ne.symm bf) dW)<|?_
 refine L0<|be (ub (ut s (u1 bg an im) (ac (nr d) (ac (ni i.size g) av))) j) (mG c 0 0 0 0 0 0 0 0 0 0 0 (.slice cI ((G.wordsR o.wordV).length) cJ) nS nS nS 0 0 0 0 0 nS) fun ff dZ cR=>Pl 1<|nt<|rt<|bP dZ (.int .i64 0)<|?_
 have hs:ag aI 1 c b=aL (aQ.mk c 0 0 0 0 0 0 0 0 0 0 0 (G.wordsR o.wordV) [] [] [] 0 0 0 0 0 []) (G.wordsC o.wordV):=by
   subst cH cG
   unfold ag aI bL bU d8 cA cm cE cC i6
   (try simp only[k,B,D,E,C,t,F,J,V,ao,bs,if_true,if_false,decide_true,decide_false,eq_self,true_or,or_true,or_false,false_or,if_true,if_false,cy,co,cw,cv,reduceIte,kf,ke])
   all_goals rfl
 rw[hs]
 exact bt bo ⟨_,_,_,_,_,rfl,((aq L (us aM (us an cR)) (fun x hx=>(aa (fun e=>(aB (au W) (le (le (le (le r.size P.size) Q.size) R.size) S.size) L) (e▸hx)) (aa (fun e=>(aB (au q) (le (le (le (le (le H.size r.size) P.size) Q.size) R.size) S.size) L) (e▸hx)) (aa (fun e=>(aB (au j) (le (le (le (le (le (le i.size H.size) r.size) P.size) Q.size) R.size) S.size) L) (e▸hx)) aA)))) (fun _ _ h=>h))).rd,aS.nil ..,(fun _ _ _=>aS.nil ..),aS.nil ..,aS.nil ..,⟨(b8 (x:=c) (by omega)),(b8 (x:=0) (by omega)),(aD (x:=0) (by omega)),(aD (x:=0) (by omega)),(aD (x:=0) (by omega)),(aD (x:=0) (by omega)),(aD (x:=0) (by omega)),(aD (x:=0) (by omega)),(aD (x:=0) (by omega)),(aD (x:=0) (by omega)),(aD (x:=0) (by omega)),(aD (x:=0) (by omega)),(b8 (x:=0) (by omega)),(b8 (x:=0) (by omega)),(b8 (x:=0) (by omega)),(b8 (x:=0) (by omega)),(b8 (x:=0) (by omega))⟩⟩ (ud cN cR y)
 have dJ:=ak V
 refine sg<|Pl 1<|?_
 refine L0<|be (ub s j) mZ fun fg e0 e1=>Pl 1<|nt<|rt<|br<|tr<|bP e0 (.int .i64 4)<|?_
 have hs:ag aI 1 c b=(aQ.zero,4):=by
   unfold ag aI bL bU d8 cA cm cE cC i6
   (try simp only[k,B,D,E,C,t,F,J,V,bs,if_true,if_false,decide_true,decide_false,eq_self,true_or,or_true,or_false,false_or,if_true,if_false,cy,co,cw,cv,reduceIte,kf,ke])
   all_goals rfl
 rw[hs]
 exact bA (ud z e1 y)
theorem lJ{m:Md}{A:Option Addr}{cp:Nat}{b:List Int}{w:World}{dir c:Int}(hcode:B8 c)(hsl:bh m w (.slice A b.length cp) b)(hb:b.length≤1048576)(hd:¬ (dir=0∨dir=1)) :
    Calls Tryz.prog 94 #[.int .i64 dir,.int .u8 c,.slice A b.length cp] w (cM (.slice A b.length cp) b (ag aI dir c b) w):=by
 obtain⟨hcode1,hcode2⟩:=hcode
 have hln:(b.length:Int)≤1048576:=by omega
 have e0:(dir != 0)=true:=by simp;omega
 have e1:(dir != 1)=true:=by simp;omega
 refine en 221 Tryz.func94 rfl<|sg<|L0<|bO mZ fun g h a d e=>Pl 1<|nt<|sq<|sg<|Pl 3<|sy 18 e0<|Pl 3<|nl<|?_
 refine tn<|ct e1<|sg<|Pl 1<|L0<|be d mZ fun i dB f=>Pl 1<|nt<|rt<|tr<|bP dB (.int .i64 1)<|?_
 have hs:ag aI dir c b=(aQ.zero,1):=by
   unfold ag aI bL bU d8 cA cm cE cC i6
   (try simp only[e0,e1,bs,if_true,if_false,decide_true,decide_false,eq_self,true_or,or_true,or_false,false_or,if_true,if_false,cy,co,cw,cv,reduceIte,hd,kf,ke])
   all_goals rfl
 rw[hs]
 exact bA (ud e f a)
open Go.RowKit
def eT (dir:Int)(C:aj) : aj:=(C.wordsC 1).need (er C.wordV&&((C.wordV != 4)||(dir==0))) 8
theorem gh{C:aj}:eT 0 C=(C.wordsC 1).need (er C.wordV) 8:=by
  unfold eT
  rw[show((0:Int)==0)=true from rfl,Bool.or_true,Bool.and_true]
theorem gi{C:aj}:eT 1 C=(C.wordsC 1).need (er C.wordV&&(C.wordV != 4)) 8:=by
  unfold eT
  rw[show((1:Int)==0)=false from rfl,Bool.or_false]
def dl (dir c:Int)(C:aj) : aj × aQ :=
  if C.wordV==0 then ((iU (eT dir C)).wordsC (((eT dir C).l.length:Int)/2),{ aQ.zero with code:=c,sub:=C.wordV,words:=(iU (eT dir C)).wordsR (((eT dir C).l.length:Int)/2) })
  else (((eT dir C).wordsC 1).need (fo dir C.wordV (eT dir C).wordV) 6,{ aQ.zero with code:=c,sub:=C.wordV,words:=[(eT dir C).wordV] })
def cI (c:Int)(C:aj) : aj × aQ :=
  if c==7 then (C.bytesC 1,{ aQ.zero with code:=c,value:=C.byteV })
  else if c==11 then ((dt C).wordsC 1,{ aQ.zero with code:=c,status:=C.wordV,events:=(dt C).wordV })
  else if c==12 then ((fO C).bytesC (C.byteV-6),{ aQ.zero with code:=c,status:=(fq C 6 70).wordV,events:=(dt (fq C 6 70)).wordV,messages:=((dt (fq C 6 70)).wordsC 1).wordV,data:=(fO C).bytesR (C.byteV-6) })
  else ((fq C 1 251).bytesC C.byteV,{ aQ.zero with code:=c,data:=(fq C 1 251).bytesR C.byteV })
def b9 (dir c:Int)(C:aj) : Option (aj × aQ) :=
  if ((((c != 7)&&(c != 8))&&(c != 11))&&(c != 12))&&(c != 17) then none
  else if c==8 then some (dl dir c C)
  else if dir==0 then some (C,{ aQ.zero with code:=c })
  else some (cI c C)
theorem lR{m:Md}{A:Option Addr}{cp:Nat}{b:List Int}{w:World}{c:Int}(hcode:B8 c)(hsl:bh m w (.slice A b.length cp) b)(hb:b.length≤1048576) :
    Calls Tryz.prog 95 #[.int .i64 0,.int .u8 c,.slice A b.length cp] w (cM (.slice A b.length cp) b (ag b9 0 c b) w):=by
 obtain⟨hcode1,hcode2⟩:=hcode
 have hln:(b.length:Int)≤1048576:=by omega
 refine en 197 Tryz.func95 rfl<|sg<|L0<|bO mZ fun cQ cR I g i=>Pl 1<|nt<|sq<|sg<|Pl 6<|nt<|c0<|?_
 refine bp<|sq<|sg<|Pl 3<|cu 3 [24] 27 (((c != 7)&&(c != 8))) (fun K aT=>?_) ?_
 refine bl 24 ((c != 7)) (fun P=>?_) (fun P=>?_)
 have bW:=az P
 exact Pl 3<|ce aT (c != 8) (by rw[P];rfl)
 have bW:=ai P
 exact Pl 3<|ce aT false (by rw[P];rfl)
 refine Pl 1<|cu 3 [28] 31 ((((c != 7)&&(c != 8))&&(c != 11))) (fun K aU=>?_) ?_
 refine bl 28 (((c != 7)&&(c != 8))) (fun Q=>?_) (fun Q=>?_)
 have bX:=(aZ Q).1
 have bY:=(aZ Q).2
 have cS:=az bX
 have cT:=az bY
 exact Pl 3<|ce aU (c != 11) (by rw[Q];rfl)
 exact Pl 3<|ce aU false (by rw[Q];rfl)
 refine Pl 1<|cu 3 [32] 35 (((((c != 7)&&(c != 8))&&(c != 11))&&(c != 12))) (fun K aV=>?_) ?_
 refine bl 32 ((((c != 7)&&(c != 8))&&(c != 11))) (fun R=>?_) (fun R=>?_)
 have aW:=(aZ R).1
 have bZ:=(aZ R).2
 have c2:=(aZ aW).1
 have c3:=(aZ aW).2
 have q19aap:=az c2
 have q19abp:=az c3
 have cU:=az bZ
 exact Pl 3<|ce aV (c != 12) (by rw[R];rfl)
 exact Pl 3<|ce aV false (by rw[R];rfl)
 refine Pl 1<|cu 3 [36] 39 ((((((c != 7)&&(c != 8))&&(c != 11))&&(c != 12))&&(c != 17))) (fun K aX=>?_) ?_
 refine bl 36 (((((c != 7)&&(c != 8))&&(c != 11))&&(c != 12))) (fun S=>?_) (fun S=>?_)
 have aY:=(aZ S).1
 have c4:=(aZ S).2
 have b0:=(aZ aY).1
 have c5:=(aZ aY).2
 have q21aaa:=(aZ b0).1
 have q21aab:=(aZ b0).2
 have q21aaap:=az q21aaa
 have q21aabp:=az q21aab
 have q21abp:=az c5
 have cV:=az c4
 exact Pl 3<|ce aX (c != 17) (by rw[S];rfl)
 exact Pl 3<|ce aX false (by rw[S];rfl)
 refine nt<|cb ((((((c != 7)&&(c != 8))&&(c != 11))&&(c != 12))&&(c != 17))) (fun r=>?_) (fun r=>?_)
 have al:=(aZ r).1
 have b1:=(aZ r).2
 have an:=(aZ al).1
 have b2:=(aZ al).2
 have q23aaa:=(aZ an).1
 have q23aab:=(aZ an).2
 have q23aaaa:=(aZ q23aaa).1
 have q23aaab:=(aZ q23aaa).2
 have q23aaaap:=az q23aaaa
 have q23aaabp:=az q23aaab
 have q23aabp:=az q23aab
 have q23abp:=az b2
 have cW:=az b1
 refine sg<|Pl 1<|L0<|be g mZ fun cX c6 c7=>Pl 1<|nt<|rt<|tr<|bP c6 (.int .i64 4)<|?_
 have hs:ag b9 0 c b=(aQ.zero,4):=by
   unfold ag b9 dl cI
   (try simp only[r,al,an,q23aaa,q23aaaa,q23aaab,q23aab,b2,b1,bs,if_true,if_false,decide_true,decide_false,eq_self,true_or,or_true,or_false,false_or,if_true,if_false,cy,co,cw,cv,reduceIte,gh,gi])
   all_goals rfl
 rw[hs]
 exact bA (ud i c7 I)
 refine bp<|sg<|Pl 2<|L0<|dv #[.slice A b.length cp,.int .i64 0,.bool false,.int .i64 0] fun D cY a E q=>Pl 1<|ng<|Pl 2<|L0<|bO mZ fun cZ d0 s T y=>L0<|be T (mC c) fun b3 b4 k=>?_
 refine nt<|sq<|bk<|sg<|Pl 3<|nt<|?_
 have ao:=ud y k s
 have J:=aG q ao
 have a6:=aG i J
 refine cb ((c==8)) (fun z=>?_) (fun z=>?_)
 have c8:=ae z
 refine sg<|Pl 1<|?_
 have c9:RC w _ A cp b b3 D (aj.mk b false 0):=⟨hsl,a6,(Nat.le_trans i.size a),⟨0,(ub ao E),Nat.zero_le _,rfl⟩,by omega⟩
 refine L0<|Oc<|m3 (d7 c9) fun d1 ca j d2=>Pl 1<|?_
 have t:=nb (au E) lr s
 refine L0<|cj (b6 j (Ne.symm t) b4) 8 (mG c 0 0 0 0 0 0 0 ((aj.mk b false 0).wordV) 0 0 0 nS nS nS nS 0 0 0 0 0 nS) fun cc ap o=>ng<|Pl 1<|L0<|aP ap 8<|L0<|Oc<|m1 (xw (x:=(aj.mk b false 0).wordV) (w:=cc) (by omega)) fun d3 f=>Pl 1<|ng<|Pl 3<|cu 8 [72] 80 ((er ((aj.mk b false 0).wordV))) (fun K b5=>?_) ?_
 refine bl 72 ((er ((aj.mk b false 0).wordV))) (fun ar=>?_) (fun ar=>?_)
 refine Pl 1<|?_
 refine L1<|aP (ub f ap) 8<|Pl 2<|cu 3 [76] 79 (true) (fun K ba=>?_) ?_
 refine bl 76 ((((aj.mk b false 0).wordV)!=4)) (fun aw=>?_) (fun aw=>?_)
 have cd:=az aw
 exact Pl 3<|ce ba true rfl
 have cd:=ai aw
 exact Pl 3<|ce ba true rfl
 exact Pl 1<|ce b5 true ar
 exact Pl 8<|ce b5 false ar
 have bb:=aG o f
 have U:=us j bb
 have bc:=ut a6 U (ac (ni i.size a) (ac (ni (le i.size q.size) s) av))
 refine L0<|Oc<|m2 (b7 ((er ((aj.mk b false 0).wordV))) 8 (RC.upd ca bb (aa t aA) bc)) fun d4 cf d=>?_
 refine fR cf fun x70 a7 V=>?_
 refine nt<|sq<|sg<|Pl 1<|?_
 have ax:=b6 (uz f d) (Ne.symm t) ap
 refine L0<|aP ax 8<|Pl 1<|nt<|?_
 have bd:=ud bc d (le i.size a)
 refine cb ((((aj.mk b false 0).wordV)==0)) (fun L=>?_) (fun L=>?_)
 have cg:=ae L
 refine sg<|Pl 1<|L0<|Oc<|m1 (iy V) fun d5 B=>?_
 have d6:=RC.clen V
 refine Pl 1<|ng<|Pl 2<|L0<|Oe (.int .i64 (Int.tmod ((x70.l.length:Nat) : Int) 2)) (.int .i64 (((x70.l.length:Nat) : Int)%2)) (congrArg (Value.int .i64) (Int.tmod_eq_emod_of_nonneg (by omega)))<|Pl 2<|cu 3 [91] 94 ((((((x70.l.length:Nat) : Int)%2)==0)&&(decide (2≤((x70.l.length:Nat) : Int))))) (fun K bf=>?_) ?_
 refine bl 91 (((((x70.l.length:Nat) : Int)%2)==0)) (fun W=>?_) (fun W=>?_)
 have ch:=ae W
 exact Pl 3<|ce bf (decide (2≤((x70.l.length:Nat) : Int))) (by rw[W];rfl)
 have ch:=ak W
 exact Pl 3<|ce bf false (by rw[W];rfl)
 refine Pl 1<|cu 3 [95] 98 (((((((x70.l.length:Nat) : Int)%2)==0)&&(decide (2≤((x70.l.length:Nat) : Int))))&&(decide (((x70.l.length:Nat) : Int)≤250)))) (fun K bg=>?_) ?_
 refine bl 95 ((((((x70.l.length:Nat) : Int)%2)==0)&&(decide (2≤((x70.l.length:Nat) : Int))))) (fun X=>?_) (fun X=>?_)
 have ci:=(aZ X).1
 have ck:=(aZ X).2
 have d8:=ae ci
 have d9:=of_decide_eq_true ck
 exact Pl 3<|ce bg (decide (((x70.l.length:Nat) : Int)≤250)) (by rw[X];rfl)
 exact Pl 3<|ce bg false (by rw[X];rfl)
 refine L0<|Oc<|m2 (b7 (((((((x70.l.length:Nat) : Int)%2)==0)&&(decide (2≤((x70.l.length:Nat) : Int))))&&(decide (((x70.l.length:Nat) : Int)≤250)))) 5 (RC.upd V B aA (aF.step (RC.u V) B))) fun da cl M=>?_
 refine fR cl fun x88 bm cm=>?_
 refine ng<|Pl 2<|L0<|Oe (.int .i64 (IntKind.i64.wrap (Int.tdiv ((x70.l.length:Nat) : Int) 2))) (.int .i64 (((x70.l.length:Nat) : Int)/2)) (congrArg (Value.int .i64) (fU (by omega) (by omega)))<|L0<|Oc<|mS (gc (n:=(((x70.l.length:Nat) : Int)/2)) (by omega) cm) fun bo bq db F dd de cn cq=>Pl 1<|?_
 have br:=uz B (u1 M cq im)
 refine L0<|cj (b6 br (Ne.symm t) ax) 12 (mG c 0 0 0 0 0 0 0 ((aj.mk b false 0).wordV) 0 0 0 (.slice bo ((x88.wordsR (((x70.l.length:Nat) : Int)/2)).length) bq) nS nS nS 0 0 0 0 0 nS) fun df cr a8=>nt<|xt<|tx<|bx<|tn<|sg<|Pl 1<|?_
 have ay:=us br a8
 have bu:=ut bd ay (ac (ni i.size a) (ac (ni (le i.size q.size) s) av))
 refine L0<|Oc<|m2 (et (RC.upd cn a8 (aa t aA) bu)) fun dg aC Y=>nt<|sq<|sg<|Pl 3<|L0<|ez (p:=⟨D,3,none⟩) (v:=.int .i64 (((x88.wordsC (((x70.l.length:Nat) : Int)/2)).endC).e)) (RC.fld aC)<|Pl 1<|nt<|?_
 have bv:=ud bu Y (le i.size a)
 refine cb (((((x88.wordsC (((x70.l.length:Nat) : Int)/2)).endC).e)!=0)) (fun Z=>?_) (fun Z=>?_)
 have aE:=az Z
 refine sq<|Rg 7 (fun w'=>w'.cell? ⟨D,3,none⟩=some (.int .i64 (((x88.wordsC (((x70.l.length:Nat) : Int)/2)).endC).e))) fun dh a9=>?_
 have bw:=RC.upd aC a9 aA (aF.step (RC.u aC) a9)
 refine bj (RC.fld bw) fun a0=>Rt 0 a0<|Rt 1 a0<|Rt 2 a0<|Rt 3 a0<|Rl 4 a0 (fun _ hs=>hs)<|?_
 have bz:=aG Y a9
 refine R0 5 rfl<|be (ub (ut J (ut U (ui d (u1 ay bz im)) (ac im (ac im av))) (ac (nr a) (ac (ni q.size s) av))) g) mZ fun di cs aH=>?_
 have bB:=ud bv (uz a9 aH) I
 refine bj (RC.fld (RC.upd bw aH (aa (Ne.symm (nb (au g) lr a)) aA) bB)) fun ct=>Rt 6 ct<|re<|tn<|rt<|tr<|bP cs (.int .i64 (((x88.wordsC (((x70.l.length:Nat) : Int)/2)).endC).e))<|?_
 have dj:=aq F (us a8 (us bz aH)) (fun x hx=>(aa (fun e=>(aB (au T) (le (le (le (le (le (le k.size j.size) o.size) f.size) d.size) B.size) M.size) F) (e▸hx)) (aa (fun e=>(aB (au E) (le (le (le (le (le (le (le y.size k.size) j.size) o.size) f.size) d.size) B.size) M.size) F) (e▸hx)) (aa (fun e=>(aB (au g) (le (le (le (le (le (le (le (le q.size y.size) k.size) j.size) o.size) f.size) d.size) B.size) M.size) F) (e▸hx)) aA)))) (fun _ _ h=>h)
 have hs:ag b9 0 c b=aL (aQ.mk c 0 0 0 0 0 0 0 ((aj.mk b false 0).wordV) 0 0 0 (x88.wordsR (((x70.l.length:Nat) : Int)/2)) [] [] [] 0 0 0 0 0 []) (x88.wordsC (((x70.l.length:Nat) : Int)/2)):=by
   subst bm a7
   unfold ag b9 dl cI
   (try simp only[r,z,L,Z,bs,if_true,if_false,decide_true,decide_false,eq_self,true_or,or_true,or_false,false_or,if_true,if_false,cy,co,cw,cv,reduceIte,gh,gi])
   all_goals rfl
 rw[hs]
 exact bi aE bB
 have aE:=ai Z
 refine bp<|sg<|?_
 refine L0<|bS (b6 Y (Ne.symm t) cr)<|?_
 refine L0<|be (ub (ut J (ut U (ui d (u1 ay Y im)) (ac im (ac im av))) (ac (nr a) (ac (ni q.size s) av))) g) (mG c 0 0 0 0 0 0 0 ((aj.mk b false 0).wordV) 0 0 0 (.slice bo ((x88.wordsR (((x70.l.length:Nat) : Int)/2)).length) bq) nS nS nS 0 0 0 0 0 nS) fun dk cx bC=>Pl 1<|nt<|rt<|bP cx (.int .i64 0)<|?_
 have hs:ag b9 0 c b=aL (aQ.mk c 0 0 0 0 0 0 0 ((aj.mk b false 0).wordV) 0 0 0 (x88.wordsR (((x70.l.length:Nat) : Int)/2)) [] [] [] 0 0 0 0 0 []) (x88.wordsC (((x70.l.length:Nat) : Int)/2)):=by
   subst bm a7
   unfold ag b9 dl cI
   (try simp only[r,z,L,Z,bs,if_true,if_false,decide_true,decide_false,eq_self,true_or,or_true,or_false,false_or,if_true,if_false,cy,co,cw,cv,reduceIte,gh,gi])
   all_goals rfl
 rw[hs]
 exact bt aE ⟨_,_,_,_,_,rfl,((aq F (us a8 (us Y bC)) (fun x hx=>(aa (fun e=>(aB (au T) (le (le (le (le (le (le k.size j.size) o.size) f.size) d.size) B.size) M.size) F) (e▸hx)) (aa (fun e=>(aB (au E) (le (le (le (le (le (le (le y.size k.size) j.size) o.size) f.size) d.size) B.size) M.size) F) (e▸hx)) (aa (fun e=>(aB (au g) (le (le (le (le (le (le (le (le q.size y.size) k.size) j.size) o.size) f.size) d.size) B.size) M.size) F) (e▸hx)) aA)))) (fun _ _ h=>h))).rd,aS.nil ..,(fun _ _ _=>aS.nil ..),aS.nil ..,aS.nil ..,⟨(b8 (x:=c) (by omega)),(b8 (x:=0) (by omega)),(aD (x:=0) (by omega)),(aD (x:=0) (by omega)),(aD (x:=0) (by omega)),(aD (x:=0) (by omega)),(aD (x:=0) (by omega)),(aD (x:=0) (by omega)),(aD (x:=(aj.mk b false 0).wordV) (by omega)),(aD (x:=0) (by omega)),(aD (x:=0) (by omega)),(aD (x:=0) (by omega)),(b8 (x:=0) (by omega)),(b8 (x:=0) (by omega)),(b8 (x:=0) (by omega)),(b8 (x:=0) (by omega)),(b8 (x:=0) (by omega))⟩⟩ (ud bv bC I)
 have cg:=ak L
 refine bp<|sg<|Pl 1<|L0<|Oc<|m3 (d7 V) fun cz bD G dm=>Pl 1<|ng<|Pl 3<|?_
 have bE:=b6 G (Ne.symm t) ax
 refine L0<|aP bE 8<|Pl 1<|L0<|Oc<|m1 (xr (dir:=0) (sub:=(aj.mk b false 0).wordV) (v:=x70.wordV) (w:=cz) (by omega)) fun dn C=>?_
 refine L0<|Oc<|m2 (b7 ((fo 0 ((aj.mk b false 0).wordV) x70.wordV)) 6 (RC.upd bD C aA (aF.step (RC.u bD) C))) fun dp cA N=>?_
 refine fR cA fun O bF cB=>?_
 refine nt<|go<|Pl 1<|L0<|cK (m:=1) (e:=24) #[.int .u16 x70.wordV] fun bG dq cC cD bH=>?_
 have H:=dc cC (xs:=[x70.wordV]) (by as_aux_lemma=>kernel_rfl) (am (by omega) aJ) (by(try simp only[List.length_cons,List.length_nil]);omega) cD
 refine Pl 1<|?_
 have bI:=uz C (aG N bH)
 refine L0<|cj (b6 bI (Ne.symm t) bE) 12 (mG c 0 0 0 0 0 0 0 ((aj.mk b false 0).wordV) 0 0 0 (.slice (some ⟨bG,0,none⟩) 1 1) nS nS nS 0 0 0 0 0 nS) fun dr cE ab=>nl<|bn<|tn<|sg<|Pl 1<|?_
 have aI:=ui G (us bI ab)
 have bJ:=ut bd aI (ac (ni i.size a) (ac (ni (le i.size q.size) s) av))
 refine L0<|Oc<|m2 (et (RC.upd cB (uz bH ab) (aa t aA) bJ)) fun ds aK a1=>nt<|sq<|sg<|Pl 3<|L0<|ez (p:=⟨D,3,none⟩) (v:=.int .i64 O.endC.e) (RC.fld aK)<|Pl 1<|nt<|?_
 have bK:=ud bJ a1 (le i.size a)
 refine cb ((O.endC.e != 0)) (fun a2=>?_) (fun a2=>?_)
 have aM:=az a2
 refine sq<|Rg 7 (fun w'=>w'.cell? ⟨D,3,none⟩=some (.int .i64 O.endC.e)) fun dt ad=>?_
 have bL:=RC.upd aK ad aA (aF.step (RC.u aK) ad)
 refine bj (RC.fld bL) fun a3=>Rt 0 a3<|Rt 1 a3<|Rt 2 a3<|Rt 3 a3<|Rl 4 a3 (fun _ hs=>hs)<|?_
 have bM:=aG a1 ad
 refine R0 5 rfl<|be (ub (ut J (ut U (ui d (u1 aI bM im)) (ac im (ac im av))) (ac (nr a) (ac (ni q.size s) av))) g) mZ fun du cF aN=>?_
 have bN:=ud bK (uz ad aN) I
 refine bj (RC.fld (RC.upd bL aN (aa (Ne.symm (nb (au g) lr a)) aA) bN)) fun cG=>Rt 6 cG<|re<|tn<|rt<|tr<|bP cF (.int .i64 O.endC.e)<|?_
 have dw:=aq H (us ab (us bM aN)) (fun x hx=>(aa (fun e=>(aB (au T) (le (le (le (le (le (le (le k.size j.size) o.size) f.size) d.size) G.size) C.size) N.size) H) (e▸hx)) (aa (fun e=>(aB (au E) (le (le (le (le (le (le (le (le y.size k.size) j.size) o.size) f.size) d.size) G.size) C.size) N.size) H) (e▸hx)) (aa (fun e=>(aB (au g) (le (le (le (le (le (le (le (le (le q.size y.size) k.size) j.size) o.size) f.size) d.size) G.size) C.size) N.size) H) (e▸hx)) aA)))) (fun _ _ h=>h)
 have hs:ag b9 0 c b=aL (aQ.mk c 0 0 0 0 0 0 0 ((aj.mk b false 0).wordV) 0 0 0 [x70.wordV] [] [] [] 0 0 0 0 0 []) O:=by
   subst bF a7
   unfold ag b9 dl cI
   (try simp only[r,z,L,a2,bs,if_true,if_false,decide_true,decide_false,eq_self,true_or,or_true,or_false,false_or,if_true,if_false,cy,co,cw,cv,reduceIte,gh,gi])
   all_goals rfl
 rw[hs]
 exact bi aM bN
 have aM:=ai a2
 refine bp<|sg<|?_
 refine L0<|bS (b6 a1 (Ne.symm t) cE)<|?_
 refine L0<|be (ub (ut J (ut U (ui d (u1 aI a1 im)) (ac im (ac im av))) (ac (nr a) (ac (ni q.size s) av))) g) (mG c 0 0 0 0 0 0 0 ((aj.mk b false 0).wordV) 0 0 0 (.slice (some ⟨bG,0,none⟩) 1 1) nS nS nS 0 0 0 0 0 nS) fun dx cH bQ=>Pl 1<|nt<|rt<|bP cH (.int .i64 0)<|?_
 have hs:ag b9 0 c b=aL (aQ.mk c 0 0 0 0 0 0 0 ((aj.mk b false 0).wordV) 0 0 0 [x70.wordV] [] [] [] 0 0 0 0 0 []) O:=by
   subst bF a7
   unfold ag b9 dl cI
   (try simp only[r,z,L,a2,bs,if_true,if_false,decide_true,decide_false,eq_self,true_or,or_true,or_false,false_or,if_true,if_false,cy,co,cw,cv,reduceIte,gh,gi])
   all_goals rfl
 rw[hs]
 exact bt aM ⟨_,_,_,_,_,rfl,((aq H (us ab (us a1 bQ)) (fun x hx=>(aa (fun e=>(aB (au T) (le (le (le (le (le (le (le k.size j.size) o.size) f.size) d.size) G.size) C.size) N.size) H) (e▸hx)) (aa (fun e=>(aB (au E) (le (le (le (le (le (le (le (le y.size k.size) j.size) o.size) f.size) d.size) G.size) C.size) N.size) H) (e▸hx)) (aa (fun e=>(aB (au g) (le (le (le (le (le (le (le (le (le q.size y.size) k.size) j.size) o.size) f.size) d.size) G.size) C.size) N.size) H) (e▸hx)) aA)))) (fun _ _ h=>h))).rd,aS.nil ..,(fun _ _ _=>aS.nil ..),aS.nil ..,aS.nil ..,⟨(b8 (x:=c) (by omega)),(b8 (x:=0) (by omega)),(aD (x:=0) (by omega)),(aD (x:=0) (by omega)),(aD (x:=0) (by omega)),(aD (x:=0) (by omega)),(aD (x:=0) (by omega)),(aD (x:=0) (by omega)),(aD (x:=(aj.mk b false 0).wordV) (by omega)),(aD (x:=0) (by omega)),(aD (x:=0) (by omega)),(aD (x:=0) (by omega)),(b8 (x:=0) (by omega)),(b8 (x:=0) (by omega)),(b8 (x:=0) (by omega)),(b8 (x:=0) (by omega)),(b8 (x:=0) (by omega))⟩⟩ (ud bK bQ I)
 have c8:=ak z
 refine sg<|Pl 3<|nt<|c1<|sk<|bn<|tn<|sg<|Pl 1<|?_
 have cJ:RC w _ A cp b b3 D (aj.mk b false 0):=⟨hsl,a6,(Nat.le_trans i.size a),⟨0,(ub ao E),Nat.zero_le _,rfl⟩,by omega⟩
 refine L0<|Oc<|m2 (et cJ) fun dy aO af=>nt<|sq<|sg<|Pl 3<|L0<|ez (p:=⟨D,3,none⟩) (v:=.int .i64 (((aj.mk b false 0).endC).e)) (RC.fld aO)<|Pl 1<|nt<|?_
 have bR:=ud a6 af (le i.size a)
 refine cb (((((aj.mk b false 0).endC).e)!=0)) (fun a4=>?_) (fun a4=>?_)
 have aR:=az a4
 refine sq<|Rg 7 (fun w'=>w'.cell? ⟨D,3,none⟩=some (.int .i64 (((aj.mk b false 0).endC).e))) fun dz ah=>?_
 have bT:=RC.upd aO ah aA (aF.step (RC.u aO) ah)
 refine bj (RC.fld bT) fun a5=>Rt 0 a5<|Rt 1 a5<|Rt 2 a5<|Rt 3 a5<|Rl 4 a5 (fun _ hs=>hs)<|?_
 refine R0 5 rfl<|be (ub (ud J (aG af ah) a) g) mZ fun dA cL bU=>?_
 have bV:=ud bR (uz ah bU) I
 refine bj (RC.fld (RC.upd bT bU (aa (Ne.symm (nb (au g) lr a)) aA) bV)) fun cN=>Rt 6 cN<|re<|tn<|rt<|tr<|bP cL (.int .i64 (((aj.mk b false 0).endC).e))<|?_
 have hs:ag b9 0 c b=aL (aQ.mk c 0 0 0 0 0 0 0 0 0 0 0 [] [] [] [] 0 0 0 0 0 []) (aj.mk b false 0):=by
   unfold ag b9 dl cI
   (try simp only[r,z,a4,bs,if_true,if_false,decide_true,decide_false,eq_self,true_or,or_true,or_false,false_or,if_true,if_false,cy,co,cw,cv,reduceIte,gh,gi])
   all_goals rfl
 rw[hs]
 exact bi aR bV
 have aR:=ai a4
 refine bp<|sg<|?_
 refine L0<|bS (b6 af (Ne.symm (nb (au E) lr s)) b4)<|?_
 refine L0<|be (ub (ud J af a) g) (mC c) fun dB cO cP=>Pl 1<|nt<|rt<|bP cO (.int .i64 0)<|?_
 have hs:ag b9 0 c b=aL (aQ.mk c 0 0 0 0 0 0 0 0 0 0 0 [] [] [] [] 0 0 0 0 0 []) (aj.mk b false 0):=by
   unfold ag b9 dl cI
   (try simp only[r,z,a4,bs,if_true,if_false,decide_true,decide_false,eq_self,true_or,or_true,or_false,false_or,if_true,if_false,cy,co,cw,cv,reduceIte,gh,gi])
   all_goals rfl
 rw[hs]
 exact bt aR ⟨_,_,_,_,_,rfl,aS.nil ..,aS.nil ..,(fun _ _ _=>aS.nil ..),aS.nil ..,aS.nil ..,⟨(b8 (x:=c) (by omega)),(b8 (x:=0) (by omega)),(aD (x:=0) (by omega)),(aD (x:=0) (by omega)),(aD (x:=0) (by omega)),(aD (x:=0) (by omega)),(aD (x:=0) (by omega)),(aD (x:=0) (by omega)),(aD (x:=0) (by omega)),(aD (x:=0) (by omega)),(aD (x:=0) (by omega)),(aD (x:=0) (by omega)),(b8 (x:=0) (by omega)),(b8 (x:=0) (by omega)),(b8 (x:=0) (by omega)),(b8 (x:=0) (by omega)),(b8 (x:=0) (by omega))⟩⟩ (ud bR cP I)
theorem lH{m:Md}{A:Option Addr}{cp:Nat}{b:List Int}{w:World}{c:Int}(hcode:B8 c)(hsl:bh m w (.slice A b.length cp) b)(hb:b.length≤1048576) :
    Calls Tryz.prog 95 #[.int .i64 1,.int .u8 c,.slice A b.length cp] w (cM (.slice A b.length cp) b (ag b9 1 c b) w):=by
 obtain⟨hcode1,hcode2⟩:=hcode
 have hln:(b.length:Int)≤1048576:=by omega
 refine en 197 Tryz.func95 rfl<|sg<|L0<|bO mZ fun ft fu B i d=>Pl 1<|nt<|sq<|sg<|Pl 6<|nt<|c0<|?_
 refine bp<|sq<|sg<|Pl 3<|cu 3 [24] 27 (((c != 7)&&(c != 8))) (fun K bY=>?_) ?_
 refine bl 24 ((c != 7)) (fun a0=>?_) (fun a0=>?_)
 have dL:=az a0
 exact Pl 3<|ce bY (c != 8) (by rw[a0];rfl)
 have dL:=ai a0
 exact Pl 3<|ce bY false (by rw[a0];rfl)
 refine Pl 1<|cu 3 [28] 31 ((((c != 7)&&(c != 8))&&(c != 11))) (fun K bZ=>?_) ?_
 refine bl 28 (((c != 7)&&(c != 8))) (fun a1=>?_) (fun a1=>?_)
 have dM:=(aZ a1).1
 have dN:=(aZ a1).2
 have fv:=az dM
 have fw:=az dN
 exact Pl 3<|ce bZ (c != 11) (by rw[a1];rfl)
 exact Pl 3<|ce bZ false (by rw[a1];rfl)
 refine Pl 1<|cu 3 [32] 35 (((((c != 7)&&(c != 8))&&(c != 11))&&(c != 12))) (fun K c1=>?_) ?_
 refine bl 32 ((((c != 7)&&(c != 8))&&(c != 11))) (fun a2=>?_) (fun a2=>?_)
 have c2:=(aZ a2).1
 have dO:=(aZ a2).2
 have dP:=(aZ c2).1
 have dQ:=(aZ c2).2
 have q19aap:=az dP
 have q19abp:=az dQ
 have fx:=az dO
 exact Pl 3<|ce c1 (c != 12) (by rw[a2];rfl)
 exact Pl 3<|ce c1 false (by rw[a2];rfl)
 refine Pl 1<|cu 3 [36] 39 ((((((c != 7)&&(c != 8))&&(c != 11))&&(c != 12))&&(c != 17))) (fun K c3=>?_) ?_
 refine bl 36 (((((c != 7)&&(c != 8))&&(c != 11))&&(c != 12))) (fun a3=>?_) (fun a3=>?_)
 have c4:=(aZ a3).1
 have dR:=(aZ a3).2
 have c5:=(aZ c4).1
 have dS:=(aZ c4).2
 have q21aaa:=(aZ c5).1
 have q21aab:=(aZ c5).2
 have q21aaap:=az q21aaa
 have q21aabp:=az q21aab
 have q21abp:=az dS
 have fy:=az dR
 exact Pl 3<|ce c3 (c != 17) (by rw[a3];rfl)
 exact Pl 3<|ce c3 false (by rw[a3];rfl)
 refine nt<|cb ((((((c != 7)&&(c != 8))&&(c != 11))&&(c != 12))&&(c != 17))) (fun q=>?_) (fun q=>?_)
 have bb:=(aZ q).1
 have c6:=(aZ q).2
 have bc:=(aZ bb).1
 have c7:=(aZ bb).2
 have q23aaa:=(aZ bc).1
 have q23aab:=(aZ bc).2
 have q23aaaa:=(aZ q23aaa).1
 have q23aaab:=(aZ q23aaa).2
 have q23aaaap:=az q23aaaa
 have q23aaabp:=az q23aaab
 have q23aabp:=az q23aab
 have q23abp:=az c7
 have fz:=az c6
 refine sg<|Pl 1<|L0<|be i mZ fun fA dT dU=>Pl 1<|nt<|rt<|tr<|bP dT (.int .i64 4)<|?_
 have hs:ag b9 1 c b=(aQ.zero,4):=by
   unfold ag b9 dl cI
   (try simp only[q,bb,bc,q23aaa,q23aaaa,q23aaab,q23aab,c7,c6,bs,if_true,if_false,decide_true,decide_false,eq_self,true_or,or_true,or_false,false_or,if_true,if_false,cy,co,cw,cv,reduceIte,gh,gi])
   all_goals rfl
 rw[hs]
 exact bA (ud d dU B)
 refine bp<|sg<|Pl 2<|L0<|dv #[.slice A b.length cp,.int .i64 0,.bool false,.int .i64 0] fun o fB a t g=>Pl 1<|ng<|Pl 2<|L0<|bO mZ fun fD fE f a4 L=>L0<|be a4 (mC c) fun a5 a6 C=>?_
 refine nt<|sq<|bk<|sg<|Pl 3<|nt<|?_
 have X:=ud L C f
 have D:=aG g X
 have I:=aG d D
 refine cb ((c==8)) (fun r=>?_) (fun r=>?_)
 have dV:=ae r
 refine sg<|Pl 1<|?_
 have dW:RC w _ A cp b a5 o (aj.mk b false 0):=⟨hsl,I,(Nat.le_trans d.size a),⟨0,(ub X t),Nat.zero_le _,rfl⟩,by omega⟩
 refine L0<|Oc<|m3 (d7 dW) fun fF dX y fG=>Pl 1<|?_
 have J:=nb (au t) lr f
 refine L0<|cj (b6 y (Ne.symm J) a6) 8 (mG c 0 0 0 0 0 0 0 ((aj.mk b false 0).wordV) 0 0 0 nS nS nS nS 0 0 0 0 0 nS) fun dY bd E=>ng<|Pl 1<|L0<|aP bd 8<|L0<|Oc<|m1 (xw (x:=(aj.mk b false 0).wordV) (w:=dY) (by omega)) fun fH s=>Pl 1<|ng<|Pl 3<|cu 8 [72] 80 (((er ((aj.mk b false 0).wordV))&&(((aj.mk b false 0).wordV)!=4))) (fun K c8=>?_) ?_
 refine bl 72 ((er ((aj.mk b false 0).wordV))) (fun bf=>?_) (fun bf=>?_)
 refine Pl 1<|?_
 refine L1<|aP (ub s bd) 8<|Pl 2<|cu 3 [76] 79 ((((aj.mk b false 0).wordV)!=4)) (fun K c9=>?_) ?_
 refine bl 76 ((((aj.mk b false 0).wordV)!=4)) (fun a7=>?_) (fun a7=>?_)
 have dZ:=az a7
 exact Pl 3<|ce c9 true a7
 have dZ:=ai a7
 exact Pl 3<|ce c9 false a7
 exact Pl 1<|ce c8 (((aj.mk b false 0).wordV)!=4) (by rw[bf];rfl)
 exact Pl 8<|ce c8 false (by rw[bf];rfl)
 have ca:=aG E s
 have a8:=us y ca
 have cc:=ut I a8 (ac (ni d.size a) (ac (ni (le d.size g.size) f) av))
 refine L0<|Oc<|m2 (b7 (((er ((aj.mk b false 0).wordV))&&(((aj.mk b false 0).wordV)!=4))) 8 (RC.upd dX ca (aa J aA) cc)) fun fI e0 j=>?_
 refine fR e0 fun x70 aT a9=>?_
 refine nt<|sq<|sg<|Pl 1<|?_
 have bg:=b6 (uz s j) (Ne.symm J) bd
 refine L0<|aP bg 8<|Pl 1<|nt<|?_
 have cd:=ud cc j (le d.size a)
 refine cb ((((aj.mk b false 0).wordV)==0)) (fun T=>?_) (fun T=>?_)
 have e1:=ae T
 refine sg<|Pl 1<|L0<|Oc<|m1 (iy a9) fun fJ M=>?_
 have fK:=RC.clen a9
 refine Pl 1<|ng<|Pl 2<|L0<|Oe (.int .i64 (Int.tmod ((x70.l.length:Nat) : Int) 2)) (.int .i64 (((x70.l.length:Nat) : Int)%2)) (congrArg (Value.int .i64) (Int.tmod_eq_emod_of_nonneg (by omega)))<|Pl 2<|cu 3 [91] 94 ((((((x70.l.length:Nat) : Int)%2)==0)&&(decide (2≤((x70.l.length:Nat) : Int))))) (fun K cf=>?_) ?_
 refine bl 91 (((((x70.l.length:Nat) : Int)%2)==0)) (fun ab=>?_) (fun ab=>?_)
 have e2:=ae ab
 exact Pl 3<|ce cf (decide (2≤((x70.l.length:Nat) : Int))) (by rw[ab];rfl)
 have e2:=ak ab
 exact Pl 3<|ce cf false (by rw[ab];rfl)
 refine Pl 1<|cu 3 [95] 98 (((((((x70.l.length:Nat) : Int)%2)==0)&&(decide (2≤((x70.l.length:Nat) : Int))))&&(decide (((x70.l.length:Nat) : Int)≤250)))) (fun K cg=>?_) ?_
 refine bl 95 ((((((x70.l.length:Nat) : Int)%2)==0)&&(decide (2≤((x70.l.length:Nat) : Int))))) (fun ad=>?_) (fun ad=>?_)
 have e3:=(aZ ad).1
 have e4:=(aZ ad).2
 have fL:=ae e3
 have fM:=of_decide_eq_true e4
 exact Pl 3<|ce cg (decide (((x70.l.length:Nat) : Int)≤250)) (by rw[ad];rfl)
 exact Pl 3<|ce cg false (by rw[ad];rfl)
 refine L0<|Oc<|m2 (b7 (((((((x70.l.length:Nat) : Int)%2)==0)&&(decide (2≤((x70.l.length:Nat) : Int))))&&(decide (((x70.l.length:Nat) : Int)≤250)))) 5 (RC.upd a9 M aA (aF.step (RC.u a9) M))) fun fN e5 U=>?_
 refine fR e5 fun x88 ch e6=>?_
 refine ng<|Pl 2<|L0<|Oe (.int .i64 (IntKind.i64.wrap (Int.tdiv ((x70.l.length:Nat) : Int) 2))) (.int .i64 (((x70.l.length:Nat) : Int)/2)) (congrArg (Value.int .i64) (fU (by omega) (by omega)))<|L0<|Oc<|mS (gc (n:=(((x70.l.length:Nat) : Int)/2)) (by omega) e6) fun ci ck fO Q fP fQ e7 e8=>Pl 1<|?_
 have cl:=uz M (u1 U e8 im)
 refine L0<|cj (b6 cl (Ne.symm J) bg) 12 (mG c 0 0 0 0 0 0 0 ((aj.mk b false 0).wordV) 0 0 0 (.slice ci ((x88.wordsR (((x70.l.length:Nat) : Int)/2)).length) ck) nS nS nS 0 0 0 0 0 nS) fun fS e9 aU=>nt<|xt<|tx<|bx<|tn<|sg<|Pl 1<|?_
 have bm:=us cl aU
 have cm:=ut cd bm (ac (ni d.size a) (ac (ni (le d.size g.size) f) av))
 refine L0<|Oc<|m2 (et (RC.upd e7 aU (aa J aA) cm)) fun fT bo af=>nt<|sq<|sg<|Pl 3<|L0<|ez (p:=⟨o,3,none⟩) (v:=.int .i64 (((x88.wordsC (((x70.l.length:Nat) : Int)/2)).endC).e)) (RC.fld bo)<|Pl 1<|nt<|?_
 have cn:=ud cm af (le d.size a)
 refine cb (((((x88.wordsC (((x70.l.length:Nat) : Int)/2)).endC).e)!=0)) (fun ah=>?_) (fun ah=>?_)
 have bq:=az ah
 refine sq<|Rg 7 (fun w'=>w'.cell? ⟨o,3,none⟩=some (.int .i64 (((x88.wordsC (((x70.l.length:Nat) : Int)/2)).endC).e))) fun fV aV=>?_
 have cq:=RC.upd bo aV aA (aF.step (RC.u bo) aV)
 refine bj (RC.fld cq) fun al=>Rt 0 al<|Rt 1 al<|Rt 2 al<|Rt 3 al<|Rl 4 al (fun _ hs=>hs)<|?_
 have cr:=aG af aV
 refine R0 5 rfl<|be (ub (ut D (ut a8 (ui j (u1 bm cr im)) (ac im (ac im av))) (ac (nr a) (ac (ni g.size f) av))) i) mZ fun fW ea br=>?_
 have cs:=ud cn (uz aV br) B
 refine bj (RC.fld (RC.upd cq br (aa (Ne.symm (nb (au i) lr a)) aA) cs)) fun eb=>Rt 6 eb<|re<|tn<|rt<|tr<|bP ea (.int .i64 (((x88.wordsC (((x70.l.length:Nat) : Int)/2)).endC).e))<|?_
 have fX:=aq Q (us aU (us cr br)) (fun x hx=>(aa (fun e=>(aB (au a4) (le (le (le (le (le (le C.size y.size) E.size) s.size) j.size) M.size) U.size) Q) (e▸hx)) (aa (fun e=>(aB (au t) (le (le (le (le (le (le (le L.size C.size) y.size) E.size) s.size) j.size) M.size) U.size) Q) (e▸hx)) (aa (fun e=>(aB (au i) (le (le (le (le (le (le (le (le g.size L.size) C.size) y.size) E.size) s.size) j.size) M.size) U.size) Q) (e▸hx)) aA)))) (fun _ _ h=>h)
 have hs:ag b9 1 c b=aL (aQ.mk c 0 0 0 0 0 0 0 ((aj.mk b false 0).wordV) 0 0 0 (x88.wordsR (((x70.l.length:Nat) : Int)/2)) [] [] [] 0 0 0 0 0 []) (x88.wordsC (((x70.l.length:Nat) : Int)/2)):=by
   subst ch aT
   unfold ag b9 dl cI
   (try simp only[q,r,T,ah,bs,if_true,if_false,decide_true,decide_false,eq_self,true_or,or_true,or_false,false_or,if_true,if_false,cy,co,cw,cv,reduceIte,gh,gi])
   all_goals rfl
 rw[hs]
 exact bi bq cs
 have bq:=ai ah
 refine bp<|sg<|?_
 refine L0<|bS (b6 af (Ne.symm J) e9)<|?_
 refine L0<|be (ub (ut D (ut a8 (ui j (u1 bm af im)) (ac im (ac im av))) (ac (nr a) (ac (ni g.size f) av))) i) (mG c 0 0 0 0 0 0 0 ((aj.mk b false 0).wordV) 0 0 0 (.slice ci ((x88.wordsR (((x70.l.length:Nat) : Int)/2)).length) ck) nS nS nS 0 0 0 0 0 nS) fun fY ec ct=>Pl 1<|nt<|rt<|bP ec (.int .i64 0)<|?_
 have hs:ag b9 1 c b=aL (aQ.mk c 0 0 0 0 0 0 0 ((aj.mk b false 0).wordV) 0 0 0 (x88.wordsR (((x70.l.length:Nat) : Int)/2)) [] [] [] 0 0 0 0 0 []) (x88.wordsC (((x70.l.length:Nat) : Int)/2)):=by
   subst ch aT
   unfold ag b9 dl cI
   (try simp only[q,r,T,ah,bs,if_true,if_false,decide_true,decide_false,eq_self,true_or,or_true,or_false,false_or,if_true,if_false,cy,co,cw,cv,reduceIte,gh,gi])
   all_goals rfl
 rw[hs]
 exact bt bq ⟨_,_,_,_,_,rfl,((aq Q (us aU (us af ct)) (fun x hx=>(aa (fun e=>(aB (au a4) (le (le (le (le (le (le C.size y.size) E.size) s.size) j.size) M.size) U.size) Q) (e▸hx)) (aa (fun e=>(aB (au t) (le (le (le (le (le (le (le L.size C.size) y.size) E.size) s.size) j.size) M.size) U.size) Q) (e▸hx)) (aa (fun e=>(aB (au i) (le (le (le (le (le (le (le (le g.size L.size) C.size) y.size) E.size) s.size) j.size) M.size) U.size) Q) (e▸hx)) aA)))) (fun _ _ h=>h))).rd,aS.nil ..,(fun _ _ _=>aS.nil ..),aS.nil ..,aS.nil ..,⟨(b8 (x:=c) (by omega)),(b8 (x:=0) (by omega)),(aD (x:=0) (by omega)),(aD (x:=0) (by omega)),(aD (x:=0) (by omega)),(aD (x:=0) (by omega)),(aD (x:=0) (by omega)),(aD (x:=0) (by omega)),(aD (x:=(aj.mk b false 0).wordV) (by omega)),(aD (x:=0) (by omega)),(aD (x:=0) (by omega)),(aD (x:=0) (by omega)),(b8 (x:=0) (by omega)),(b8 (x:=0) (by omega)),(b8 (x:=0) (by omega)),(b8 (x:=0) (by omega)),(b8 (x:=0) (by omega))⟩⟩ (ud cn ct B)
 have e1:=ak T
 refine bp<|sg<|Pl 1<|L0<|Oc<|m3 (d7 a9) fun ed cx R fZ=>Pl 1<|ng<|Pl 3<|?_
 have cz:=b6 R (Ne.symm J) bg
 refine L0<|aP cz 8<|Pl 1<|L0<|Oc<|m1 (xr (dir:=1) (sub:=(aj.mk b false 0).wordV) (v:=x70.wordV) (w:=ed) (by omega)) fun g0 N=>?_
 refine L0<|Oc<|m2 (b7 ((fo 1 ((aj.mk b false 0).wordV) x70.wordV)) 6 (RC.upd cx N aA (aF.step (RC.u cx) N))) fun g1 ef V=>?_
 refine fR ef fun Y cA eg=>?_
 refine nt<|go<|Pl 1<|L0<|cK (m:=1) (e:=24) #[.int .u16 x70.wordV] fun cB g2 eh ei cC=>?_
 have S:=dc eh (xs:=[x70.wordV]) (by as_aux_lemma=>kernel_rfl) (am (by omega) aJ) (by(try simp only[List.length_cons,List.length_nil]);omega) ei
 refine Pl 1<|?_
 have cD:=uz N (aG V cC)
 refine L0<|cj (b6 cD (Ne.symm J) cz) 12 (mG c 0 0 0 0 0 0 0 ((aj.mk b false 0).wordV) 0 0 0 (.slice (some ⟨cB,0,none⟩) 1 1) nS nS nS 0 0 0 0 0 nS) fun g3 ej aW=>nl<|bn<|tn<|sg<|Pl 1<|?_
 have bu:=ui R (us cD aW)
 have cE:=ut cd bu (ac (ni d.size a) (ac (ni (le d.size g.size) f) av))
 refine L0<|Oc<|m2 (et (RC.upd eg (uz cC aW) (aa J aA) cE)) fun g4 bv an=>nt<|sq<|sg<|Pl 3<|L0<|ez (p:=⟨o,3,none⟩) (v:=.int .i64 Y.endC.e) (RC.fld bv)<|Pl 1<|nt<|?_
 have cF:=ud cE an (le d.size a)
 refine cb ((Y.endC.e != 0)) (fun ao=>?_) (fun ao=>?_)
 have bw:=az ao
 refine sq<|Rg 7 (fun w'=>w'.cell? ⟨o,3,none⟩=some (.int .i64 Y.endC.e)) fun g5 aX=>?_
 have cG:=RC.upd bv aX aA (aF.step (RC.u bv) aX)
 refine bj (RC.fld cG) fun ap=>Rt 0 ap<|Rt 1 ap<|Rt 2 ap<|Rt 3 ap<|Rl 4 ap (fun _ hs=>hs)<|?_
 have cH:=aG an aX
 refine R0 5 rfl<|be (ub (ut D (ut a8 (ui j (u1 bu cH im)) (ac im (ac im av))) (ac (nr a) (ac (ni g.size f) av))) i) mZ fun g6 ek bz=>?_
 have cJ:=ud cF (uz aX bz) B
 refine bj (RC.fld (RC.upd cG bz (aa (Ne.symm (nb (au i) lr a)) aA) cJ)) fun el=>Rt 6 el<|re<|tn<|rt<|tr<|bP ek (.int .i64 Y.endC.e)<|?_
 have g7:=aq S (us aW (us cH bz)) (fun x hx=>(aa (fun e=>(aB (au a4) (le (le (le (le (le (le (le C.size y.size) E.size) s.size) j.size) R.size) N.size) V.size) S) (e▸hx)) (aa (fun e=>(aB (au t) (le (le (le (le (le (le (le (le L.size C.size) y.size) E.size) s.size) j.size) R.size) N.size) V.size) S) (e▸hx)) (aa (fun e=>(aB (au i) (le (le (le (le (le (le (le (le (le g.size L.size) C.size) y.size) E.size) s.size) j.size) R.size) N.size) V.size) S) (e▸hx)) aA)))) (fun _ _ h=>h)
 have hs:ag b9 1 c b=aL (aQ.mk c 0 0 0 0 0 0 0 ((aj.mk b false 0).wordV) 0 0 0 [x70.wordV] [] [] [] 0 0 0 0 0 []) Y:=by
   subst cA aT
   unfold ag b9 dl cI
   (try simp only[q,r,T,ao,bs,if_true,if_false,decide_true,decide_false,eq_self,true_or,or_true,or_false,false_or,if_true,if_false,cy,co,cw,cv,reduceIte,gh,gi])
   all_goals rfl
 rw[hs]
 exact bi bw cJ
 have bw:=ai ao
 refine bp<|sg<|?_
 refine L0<|bS (b6 an (Ne.symm J) ej)<|?_
 refine L0<|be (ub (ut D (ut a8 (ui j (u1 bu an im)) (ac im (ac im av))) (ac (nr a) (ac (ni g.size f) av))) i) (mG c 0 0 0 0 0 0 0 ((aj.mk b false 0).wordV) 0 0 0 (.slice (some ⟨cB,0,none⟩) 1 1) nS nS nS 0 0 0 0 0 nS) fun g8 em cL=>Pl 1<|nt<|rt<|bP em (.int .i64 0)<|?_
 have hs:ag b9 1 c b=aL (aQ.mk c 0 0 0 0 0 0 0 ((aj.mk b false 0).wordV) 0 0 0 [x70.wordV] [] [] [] 0 0 0 0 0 []) Y:=by
   subst cA aT
   unfold ag b9 dl cI
   (try simp only[q,r,T,ao,bs,if_true,if_false,decide_true,decide_false,eq_self,true_or,or_true,or_false,false_or,if_true,if_false,cy,co,cw,cv,reduceIte,gh,gi])
   all_goals rfl
 rw[hs]
 exact bt bw ⟨_,_,_,_,_,rfl,((aq S (us aW (us an cL)) (fun x hx=>(aa (fun e=>(aB (au a4) (le (le (le (le (le (le (le C.size y.size) E.size) s.size) j.size) R.size) N.size) V.size) S) (e▸hx)) (aa (fun e=>(aB (au t) (le (le (le (le (le (le (le (le L.size C.size) y.size) E.size) s.size) j.size) R.size) N.size) V.size) S) (e▸hx)) (aa (fun e=>(aB (au i) (le (le (le (le (le (le (le (le (le g.size L.size) C.size) y.size) E.size) s.size) j.size) R.size) N.size) V.size) S) (e▸hx)) aA)))) (fun _ _ h=>h))).rd,aS.nil ..,(fun _ _ _=>aS.nil ..),aS.nil ..,aS.nil ..,⟨(b8 (x:=c) (by omega)),(b8 (x:=0) (by omega)),(aD (x:=0) (by omega)),(aD (x:=0) (by omega)),(aD (x:=0) (by omega)),(aD (x:=0) (by omega)),(aD (x:=0) (by omega)),(aD (x:=0) (by omega)),(aD (x:=(aj.mk b false 0).wordV) (by omega)),(aD (x:=0) (by omega)),(aD (x:=0) (by omega)),(aD (x:=0) (by omega)),(b8 (x:=0) (by omega)),(b8 (x:=0) (by omega)),(b8 (x:=0) (by omega)),(b8 (x:=0) (by omega)),(b8 (x:=0) (by omega))⟩⟩ (ud cF cL B)
 have dV:=ak r
 refine sg<|Pl 3<|nt<|c0<|sg<|Pl 3<|nt<|cb ((c==7)) (fun F=>?_) (fun F=>?_)
 have eo:=ae F
 refine go<|Pl 1<|?_
 have ep:RC w _ A cp b a5 o (aj.mk b false 0):=⟨hsl,I,(Nat.le_trans d.size a),⟨0,(ub X t),Nat.zero_le _,rfl⟩,by omega⟩
 refine L0<|Oc<|m3 (ee ep) fun g9 eq cN ga=>L0<|xd ((aj.mk b false 0).byteV)<|Pl 1<|?_
 have bB:=nb (au t) lr f
 refine L0<|cj (b6 cN (Ne.symm bB) a6) 4 (mG c 0 0 0 ((aj.mk b false 0).byteV) 0 0 0 0 0 0 0 nS nS nS nS 0 0 0 0 0 nS) fun gb es cO=>nl<|bn<|tn<|sg<|Pl 1<|?_
 have bC:=us cN cO
 have cP:=ut I bC (ac (ni d.size a) (ac (ni (le d.size g.size) f) av))
 refine L0<|Oc<|m2 (et (RC.upd eq cO (aa bB aA) cP)) fun gd bD aY=>nt<|sq<|sg<|Pl 3<|L0<|ez (p:=⟨o,3,none⟩) (v:=.int .i64 ((((aj.mk b false 0).bytesC 1).endC).e)) (RC.fld bD)<|Pl 1<|nt<|?_
 have cQ:=ud cP aY (le d.size a)
 refine cb ((((((aj.mk b false 0).bytesC 1).endC).e)!=0)) (fun ar=>?_) (fun ar=>?_)
 have bE:=az ar
 refine sq<|Rg 7 (fun w'=>w'.cell? ⟨o,3,none⟩=some (.int .i64 ((((aj.mk b false 0).bytesC 1).endC).e))) fun ge b0=>?_
 have cR:=RC.upd bD b0 aA (aF.step (RC.u bD) b0)
 refine bj (RC.fld cR) fun aw=>Rt 0 aw<|Rt 1 aw<|Rt 2 aw<|Rt 3 aw<|Rl 4 aw (fun _ hs=>hs)<|?_
 refine R0 5 rfl<|be (ub (ut D (u1 bC (aG aY b0) im) (ac (nr a) (ac (ni g.size f) av))) i) mZ fun gf eu cS=>?_
 have cT:=ud cQ (uz b0 cS) B
 refine bj (RC.fld (RC.upd cR cS (aa (Ne.symm (nb (au i) lr a)) aA) cT)) fun ev=>Rt 6 ev<|re<|tn<|rt<|tr<|bP eu (.int .i64 ((((aj.mk b false 0).bytesC 1).endC).e))<|?_
 have hs:ag b9 1 c b=aL (aQ.mk c 0 0 0 ((aj.mk b false 0).byteV) 0 0 0 0 0 0 0 [] [] [] [] 0 0 0 0 0 []) ((aj.mk b false 0).bytesC 1):=by
   unfold ag b9 dl cI
   (try simp only[q,r,F,ar,bs,if_true,if_false,decide_true,decide_false,eq_self,true_or,or_true,or_false,false_or,if_true,if_false,cy,co,cw,cv,reduceIte,gh,gi])
   all_goals rfl
 rw[hs]
 exact bi bE cT
 have bE:=ai ar
 refine bp<|sg<|?_
 refine L0<|bS (b6 aY (Ne.symm bB) es)<|?_
 refine L0<|be (ub (ut D (u1 bC aY im) (ac (nr a) (ac (ni g.size f) av))) i) (mG c 0 0 0 ((aj.mk b false 0).byteV) 0 0 0 0 0 0 0 nS nS nS nS 0 0 0 0 0 nS) fun gg ew ex=>Pl 1<|nt<|rt<|bP ew (.int .i64 0)<|?_
 have hs:ag b9 1 c b=aL (aQ.mk c 0 0 0 ((aj.mk b false 0).byteV) 0 0 0 0 0 0 0 [] [] [] [] 0 0 0 0 0 []) ((aj.mk b false 0).bytesC 1):=by
   unfold ag b9 dl cI
   (try simp only[q,r,F,ar,bs,if_true,if_false,decide_true,decide_false,eq_self,true_or,or_true,or_false,false_or,if_true,if_false,cy,co,cw,cv,reduceIte,gh,gi])
   all_goals rfl
 rw[hs]
 exact bt bE ⟨_,_,_,_,_,rfl,aS.nil ..,aS.nil ..,(fun _ _ _=>aS.nil ..),aS.nil ..,aS.nil ..,⟨(b8 (x:=c) (by omega)),(b8 (x:=0) (by omega)),(aD (x:=0) (by omega)),(aD (x:=0) (by omega)),(aD (x:=(aj.mk b false 0).byteV) (by omega)),(aD (x:=0) (by omega)),(aD (x:=0) (by omega)),(aD (x:=0) (by omega)),(aD (x:=0) (by omega)),(aD (x:=0) (by omega)),(aD (x:=0) (by omega)),(aD (x:=0) (by omega)),(b8 (x:=0) (by omega)),(b8 (x:=0) (by omega)),(b8 (x:=0) (by omega)),(b8 (x:=0) (by omega)),(b8 (x:=0) (by omega))⟩⟩ (ud cQ ex B)
 have eo:=ak F
 refine sg<|Pl 3<|nt<|cb ((c==11)) (fun O=>?_) (fun O=>?_)
 have ey:=ae O
 refine sg<|Pl 1<|?_
 have eA:RC w _ A cp b a5 o (aj.mk b false 0):=⟨hsl,I,(Nat.le_trans d.size a),⟨0,(ub X t),Nat.zero_le _,rfl⟩,by omega⟩
 refine L0<|Oc<|m3 (d7 eA) fun gj eB cU gk=>Pl 1<|?_
 have ax:=nb (au t) lr f
 refine L0<|cj (b6 cU (Ne.symm ax) a6) 9 (mG c 0 0 0 0 0 0 0 0 ((aj.mk b false 0).wordV) 0 0 nS nS nS nS 0 0 0 0 0 nS) fun gl bF cV=>ng<|Pl 2<|L0<|aP bF 9<|Pl 2<|cu 4 [137] 141 (((((aj.mk b false 0).wordV)==0)||(((aj.mk b false 0).wordV)==65535))) (fun K cW=>?_) ?_
 refine bl 137 ((((aj.mk b false 0).wordV)==0)) (fun ay=>?_) (fun ay=>?_)
 have eC:=ae ay
 exact Pl 4<|ce cW true (by rw[ay];rfl)
 have eC:=ak ay
 exact Pl 1<|L1<|aP bF 9<|Pl 2<|ce cW (((aj.mk b false 0).wordV)==65535) (by rw[ay];rfl)
 have bG:=us cU cV
 have cX:=ut I bG (ac (ni d.size a) (ac (ni (le d.size g.size) f) av))
 refine L0<|Oc<|m2 (b7 (((((aj.mk b false 0).wordV)==0)||(((aj.mk b false 0).wordV)==65535))) 6 (RC.upd eB cV (aa ax aA) cX)) fun gm eD eE=>?_
 refine fR eD fun G cY eF=>?_
 refine nt<|go<|Pl 1<|L0<|Oc<|m3 (d7 eF) fun gn eG eH gp=>Pl 1<|?_
 have cZ:=u1 eE eH im
 refine L0<|cj (b6 cZ (Ne.symm ax) bF) 10 (mG c 0 0 0 0 0 0 0 0 ((aj.mk b false 0).wordV) G.wordV 0 nS nS nS nS 0 0 0 0 0 nS) fun gq eI d0=>nl<|bn<|tn<|sg<|Pl 1<|?_
 have bH:=us cZ d0
 have d1:=ut cX bH (ac (ni d.size a) (ac (ni (le d.size g.size) f) av))
 refine L0<|Oc<|m2 (et (RC.upd eG d0 (aa ax aA) d1)) fun gr bI b1=>nt<|sq<|sg<|Pl 3<|L0<|ez (p:=⟨o,3,none⟩) (v:=.int .i64 (((G.wordsC 1).endC).e)) (RC.fld bI)<|Pl 1<|nt<|?_
 have d2:=ud d1 b1 (le d.size a)
 refine cb (((((G.wordsC 1).endC).e)!=0)) (fun aC=>?_) (fun aC=>?_)
 have bJ:=az aC
 refine sq<|Rg 7 (fun w'=>w'.cell? ⟨o,3,none⟩=some (.int .i64 (((G.wordsC 1).endC).e))) fun gs b2=>?_
 have d3:=RC.upd bI b2 aA (aF.step (RC.u bI) b2)
 refine bj (RC.fld d3) fun aE=>Rt 0 aE<|Rt 1 aE<|Rt 2 aE<|Rt 3 aE<|Rl 4 aE (fun _ hs=>hs)<|?_
 refine R0 5 rfl<|be (ub (ut D (ut bG (u1 bH (aG b1 b2) im) (ac im (ac im av))) (ac (nr a) (ac (ni g.size f) av))) i) mZ fun gt eJ d4=>?_
 have d5:=ud d2 (uz b2 d4) B
 refine bj (RC.fld (RC.upd d3 d4 (aa (Ne.symm (nb (au i) lr a)) aA) d5)) fun eK=>Rt 6 eK<|re<|tn<|rt<|tr<|bP eJ (.int .i64 (((G.wordsC 1).endC).e))<|?_
 have hs:ag b9 1 c b=aL (aQ.mk c 0 0 0 0 0 0 0 0 ((aj.mk b false 0).wordV) G.wordV 0 [] [] [] [] 0 0 0 0 0 []) (G.wordsC 1):=by
   subst cY
   unfold ag b9 dl cI
   (try simp only[q,r,F,O,aC,bs,if_true,if_false,decide_true,decide_false,eq_self,true_or,or_true,or_false,false_or,if_true,if_false,cy,co,cw,cv,reduceIte,gh,gi])
   all_goals rfl
 rw[hs]
 exact bi bJ d5
 have bJ:=ai aC
 refine bp<|sg<|?_
 refine L0<|bS (b6 b1 (Ne.symm ax) eI)<|?_
 refine L0<|be (ub (ut D (ut bG (u1 bH b1 im) (ac im (ac im av))) (ac (nr a) (ac (ni g.size f) av))) i) (mG c 0 0 0 0 0 0 0 0 ((aj.mk b false 0).wordV) G.wordV 0 nS nS nS nS 0 0 0 0 0 nS) fun gu eL eM=>Pl 1<|nt<|rt<|bP eL (.int .i64 0)<|?_
 have hs:ag b9 1 c b=aL (aQ.mk c 0 0 0 0 0 0 0 0 ((aj.mk b false 0).wordV) G.wordV 0 [] [] [] [] 0 0 0 0 0 []) (G.wordsC 1):=by
   subst cY
   unfold ag b9 dl cI
   (try simp only[q,r,F,O,aC,bs,if_true,if_false,decide_true,decide_false,eq_self,true_or,or_true,or_false,false_or,if_true,if_false,cy,co,cw,cv,reduceIte,gh,gi])
   all_goals rfl
 rw[hs]
 exact bt bJ ⟨_,_,_,_,_,rfl,aS.nil ..,aS.nil ..,(fun _ _ _=>aS.nil ..),aS.nil ..,aS.nil ..,⟨(b8 (x:=c) (by omega)),(b8 (x:=0) (by omega)),(aD (x:=0) (by omega)),(aD (x:=0) (by omega)),(aD (x:=0) (by omega)),(aD (x:=0) (by omega)),(aD (x:=0) (by omega)),(aD (x:=0) (by omega)),(aD (x:=0) (by omega)),(aD (x:=(aj.mk b false 0).wordV) (by omega)),(aD (x:=G.wordV) (by omega)),(aD (x:=0) (by omega)),(b8 (x:=0) (by omega)),(b8 (x:=0) (by omega)),(b8 (x:=0) (by omega)),(b8 (x:=0) (by omega)),(b8 (x:=0) (by omega))⟩⟩ (ud d2 eM B)
 have ey:=ak O
 refine sg<|Pl 3<|nt<|cb ((c==12)) (fun W=>?_) (fun W=>?_)
 have eN:=ae W
 refine sg<|Pl 1<|?_
 have eO:RC w _ A cp b a5 o (aj.mk b false 0):=⟨hsl,I,(Nat.le_trans d.size a),⟨0,(ub X t),Nat.zero_le _,rfl⟩,by omega⟩
 refine L0<|Oc<|m3 (ee eO) fun gv eP eQ gw=>L0<|Oi ((aj.mk b false 0).byteV)<|Pl 1<|ng<|Pl 4<|cu 3 [155] 158 (((decide (6≤((aj.mk b false 0).byteV)))&&(decide (((aj.mk b false 0).byteV)≤70)))) (fun K d6=>?_) ?_
 refine bl 155 ((decide (6≤((aj.mk b false 0).byteV)))) (fun aH=>?_) (fun aH=>?_)
 have eR:=of_decide_eq_true aH
 exact Pl 3<|ce d6 (decide (((aj.mk b false 0).byteV)≤70)) (by rw[aH];rfl)
 have eR:=of_decide_eq_false aH
 exact Pl 3<|ce d6 false (by rw[aH];rfl)
 refine L0<|Oc<|m2 (b7 (((decide (6≤((aj.mk b false 0).byteV)))&&(decide (((aj.mk b false 0).byteV)≤70)))) 5 eP) fun gx eS eT=>?_
 refine fR eS fun z d8 eU=>?_
 refine ng<|Pl 1<|L0<|Oc<|m3 (d7 eU) fun gy eV eW gz=>Pl 1<|?_
 have d9:=u1 eQ (u1 eT eW im) im
 have P:=nb (au t) lr f
 refine L0<|cj (b6 d9 (Ne.symm P) a6) 9 (mG c 0 0 0 0 0 0 0 0 z.wordV 0 0 nS nS nS nS 0 0 0 0 0 nS) fun gA bK da=>ng<|Pl 2<|L0<|aP bK 9<|Pl 2<|cu 4 [167] 171 (((z.wordV==0)||(z.wordV==65535))) (fun K db=>?_) ?_
 refine bl 167 ((z.wordV==0)) (fun aI=>?_) (fun aI=>?_)
 have eX:=ae aI
 exact Pl 4<|ce db true (by rw[aI];rfl)
 have eX:=ak aI
 exact Pl 1<|L1<|aP bK 9<|Pl 2<|ce db (z.wordV==65535) (by rw[aI];rfl)
 have bL:=us d9 da
 have dd:=ut I bL (ac (ni d.size a) (ac (ni (le d.size g.size) f) av))
 refine L0<|Oc<|m2 (b7 (((z.wordV==0)||(z.wordV==65535))) 6 (RC.upd eV da (aa P aA) dd)) fun gB eY eZ=>?_
 refine fR eY fun k de f0=>?_
 refine ng<|Pl 1<|L0<|Oc<|m3 (d7 f0) fun gC f1 f2 gD=>Pl 1<|?_
 have df:=u1 eZ f2 im
 refine L0<|cj (b6 df (Ne.symm P) bK) 10 (mG c 0 0 0 0 0 0 0 0 z.wordV k.wordV 0 nS nS nS nS 0 0 0 0 0 nS) fun gE f3 dg=>ng<|Pl 1<|?_
 have bM:=us df dg
 have dh:=ut dd bM (ac (ni d.size a) (ac (ni (le d.size g.size) f) av))
 refine L0<|Oc<|m3 (d7 (RC.upd f1 dg (aa P aA) dh)) fun gF f4 di gG=>Pl 1<|?_
 refine L0<|cj (b6 di (Ne.symm P) f3) 11 (mG c 0 0 0 0 0 0 0 0 z.wordV k.wordV ((k.wordsC 1).wordV) nS nS nS nS 0 0 0 0 0 nS) fun gH f5 dj=>nt<|go<|Pl 2<|L0<|Oi (((aj.mk b false 0).byteV)-6)<|?_
 have bN:=us di dj
 have dk:=ut dh bN (ac (ni d.size a) (ac (ni (le d.size g.size) f) av))
 have dm:=RC.upd f4 dj (aa P aA) dk
 refine L0<|Oc<|oT (fC (n:=(((aj.mk b false 0).byteV)-6)) (by omega) dm) fun dn dp gI f6 f7 dq=>?_
 have gJ:=Nat.le_trans (aj.bytesR_le ((k.wordsC 1).wordsC 1) (((aj.mk b false 0).byteV)-6)) (RC.clen dm)
 refine fR f7 fun Z dr f8=>?_
 refine Pl 1<|?_
 refine L0<|cj (b6 dq (Ne.symm P) f5) 14 (mG c 0 0 0 0 0 0 0 0 z.wordV k.wordV ((k.wordsC 1).wordV) nS nS (.slice dn ((((k.wordsC 1).wordsC 1).bytesR (((aj.mk b false 0).byteV)-6)).length) dp) nS 0 0 0 0 0 nS) fun gK f9 ds=>nl<|bn<|tn<|sg<|Pl 1<|?_
 have bQ:=us dq ds
 have dt:=ut dk bQ (ac (ni d.size a) (ac (ni (le d.size g.size) f) av))
 refine L0<|Oc<|m2 (et (RC.upd f8 ds (aa P aA) dt)) fun gL bR b3=>nt<|sq<|sg<|Pl 3<|L0<|ez (p:=⟨o,3,none⟩) (v:=.int .i64 Z.endC.e) (RC.fld bR)<|Pl 1<|nt<|?_
 have du:=ud dt b3 (le d.size a)
 refine cb ((Z.endC.e != 0)) (fun aK=>?_) (fun aK=>?_)
 have bT:=az aK
 refine sq<|Rg 7 (fun w'=>w'.cell? ⟨o,3,none⟩=some (.int .i64 Z.endC.e)) fun gM b4=>?_
 have dw:=RC.upd bR b4 aA (aF.step (RC.u bR) b4)
 refine bj (RC.fld dw) fun aM=>Rt 0 aM<|Rt 1 aM<|Rt 2 aM<|Rt 3 aM<|Rl 4 aM (fun _ hs=>hs)<|?_
 refine R0 5 rfl<|be (ub (ut D (ut bL (ut bM (ut bN (u1 bQ (aG b3 b4) im) (ac im (ac im av))) (ac im (ac im av))) (ac im (ac im av))) (ac (nr a) (ac (ni g.size f) av))) i) mZ fun gN fa dx=>?_
 have dy:=ud du (uz b4 dx) B
 refine bj (RC.fld (RC.upd dw dx (aa (Ne.symm (nb (au i) lr a)) aA) dy)) fun fb=>Rt 6 fb<|re<|tn<|rt<|tr<|bP fa (.int .i64 Z.endC.e)<|?_
 have hs:ag b9 1 c b=aL (aQ.mk c 0 0 0 0 0 0 0 0 z.wordV k.wordV ((k.wordsC 1).wordV) [] [] (((k.wordsC 1).wordsC 1).bytesR (((aj.mk b false 0).byteV)-6)) [] 0 0 0 0 0 []) Z:=by
   subst dr de d8
   unfold ag b9 dl cI
   (try simp only[q,r,F,O,W,aK,bs,if_true,if_false,decide_true,decide_false,eq_self,true_or,or_true,or_false,false_or,if_true,if_false,cy,co,cw,cv,reduceIte,gh,gi])
   all_goals rfl
 rw[hs]
 exact bi bT dy
 have bT:=ai aK
 refine bp<|sg<|?_
 refine L0<|bS (b6 b3 (Ne.symm P) f9)<|?_
 refine L0<|be (ub (ut D (ut bL (ut bM (ut bN (u1 bQ b3 im) (ac im (ac im av))) (ac im (ac im av))) (ac im (ac im av))) (ac (nr a) (ac (ni g.size f) av))) i) (mG c 0 0 0 0 0 0 0 0 z.wordV k.wordV ((k.wordsC 1).wordV) nS nS (.slice dn ((((k.wordsC 1).wordsC 1).bytesR (((aj.mk b false 0).byteV)-6)).length) dp) nS 0 0 0 0 0 nS) fun gO fc fd=>Pl 1<|nt<|rt<|bP fc (.int .i64 0)<|?_
 have hs:ag b9 1 c b=aL (aQ.mk c 0 0 0 0 0 0 0 0 z.wordV k.wordV ((k.wordsC 1).wordV) [] [] (((k.wordsC 1).wordsC 1).bytesR (((aj.mk b false 0).byteV)-6)) [] 0 0 0 0 0 []) Z:=by
   subst dr de d8
   unfold ag b9 dl cI
   (try simp only[q,r,F,O,W,aK,bs,if_true,if_false,decide_true,decide_false,eq_self,true_or,or_true,or_false,false_or,if_true,if_false,cy,co,cw,cv,reduceIte,gh,gi])
   all_goals rfl
 rw[hs]
 exact bt bT ⟨_,_,_,_,_,rfl,aS.nil ..,aS.nil ..,f6,aS.nil ..,aS.nil ..,⟨(b8 (x:=c) (by omega)),(b8 (x:=0) (by omega)),(aD (x:=0) (by omega)),(aD (x:=0) (by omega)),(aD (x:=0) (by omega)),(aD (x:=0) (by omega)),(aD (x:=0) (by omega)),(aD (x:=0) (by omega)),(aD (x:=0) (by omega)),(aD (x:=z.wordV) (by omega)),(aD (x:=k.wordV) (by omega)),(aD (x:=(k.wordsC 1).wordV) (by omega)),(b8 (x:=0) (by omega)),(b8 (x:=0) (by omega)),(b8 (x:=0) (by omega)),(b8 (x:=0) (by omega)),(b8 (x:=0) (by omega))⟩⟩ (ud du fd B)
 have eN:=ak W
 refine sg<|Pl 1<|?_
 have fe:RC w _ A cp b a5 o (aj.mk b false 0):=⟨hsl,I,(Nat.le_trans d.size a),⟨0,(ub X t),Nat.zero_le _,rfl⟩,by omega⟩
 refine L0<|Oc<|m3 (ee fe) fun gP ff fg gQ=>L0<|Oi ((aj.mk b false 0).byteV)<|Pl 1<|ng<|Pl 4<|cu 3 [52] 55 (((decide (1≤((aj.mk b false 0).byteV)))&&(decide (((aj.mk b false 0).byteV)≤251)))) (fun K dz=>?_) ?_
 refine bl 52 ((decide (1≤((aj.mk b false 0).byteV)))) (fun aN=>?_) (fun aN=>?_)
 have fh:=of_decide_eq_true aN
 exact Pl 3<|ce dz (decide (((aj.mk b false 0).byteV)≤251)) (by rw[aN];rfl)
 have fh:=of_decide_eq_false aN
 exact Pl 3<|ce dz false (by rw[aN];rfl)
 refine L0<|Oc<|m2 (b7 (((decide (1≤((aj.mk b false 0).byteV)))&&(decide (((aj.mk b false 0).byteV)≤251)))) 5 ff) fun gR fi fj=>?_
 refine fR fi fun H dA dB=>?_
 refine nt<|go<|Pl 2<|L0<|Oc<|oT (fC (n:=(aj.mk b false 0).byteV) (by omega) dB) fun dC dD gS fk fl fm=>?_
 have gT:=Nat.le_trans (aj.bytesR_le H ((aj.mk b false 0).byteV)) (RC.clen dB)
 refine Pl 1<|?_
 have dE:=u1 fg (u1 fj fm im) im
 have bU:=nb (au t) lr f
 refine L0<|cj (b6 dE (Ne.symm bU) a6) 14 (mG c 0 0 0 0 0 0 0 0 0 0 0 nS nS (.slice dC ((H.bytesR ((aj.mk b false 0).byteV)).length) dD) nS 0 0 0 0 0 nS) fun gU fn dF=>nl<|bn<|tn<|sg<|Pl 1<|?_
 have bV:=us dE dF
 have dG:=ut I bV (ac (ni d.size a) (ac (ni (le d.size g.size) f) av))
 refine L0<|Oc<|m2 (et (RC.upd fl dF (aa bU aA) dG)) fun gV bW b5=>nt<|sq<|sg<|Pl 3<|L0<|ez (p:=⟨o,3,none⟩) (v:=.int .i64 (((H.bytesC ((aj.mk b false 0).byteV)).endC).e)) (RC.fld bW)<|Pl 1<|nt<|?_
 have dH:=ud dG b5 (le d.size a)
 refine cb (((((H.bytesC ((aj.mk b false 0).byteV)).endC).e)!=0)) (fun aO=>?_) (fun aO=>?_)
 have bX:=az aO
 refine sq<|Rg 7 (fun w'=>w'.cell? ⟨o,3,none⟩=some (.int .i64 (((H.bytesC ((aj.mk b false 0).byteV)).endC).e))) fun gW ba=>?_
 have dI:=RC.upd bW ba aA (aF.step (RC.u bW) ba)
 refine bj (RC.fld dI) fun aR=>Rt 0 aR<|Rt 1 aR<|Rt 2 aR<|Rt 3 aR<|Rl 4 aR (fun _ hs=>hs)<|?_
 refine R0 5 rfl<|be (ub (ut D (u1 bV (aG b5 ba) im) (ac (nr a) (ac (ni g.size f) av))) i) mZ fun gX fp dJ=>?_
 have dK:=ud dH (uz ba dJ) B
 refine bj (RC.fld (RC.upd dI dJ (aa (Ne.symm (nb (au i) lr a)) aA) dK)) fun fq=>Rt 6 fq<|re<|tn<|rt<|tr<|bP fp (.int .i64 (((H.bytesC ((aj.mk b false 0).byteV)).endC).e))<|?_
 have hs:ag b9 1 c b=aL (aQ.mk c 0 0 0 0 0 0 0 0 0 0 0 [] [] (H.bytesR ((aj.mk b false 0).byteV)) [] 0 0 0 0 0 []) (H.bytesC ((aj.mk b false 0).byteV)):=by
   subst dA
   unfold ag b9 dl cI
   (try simp only[q,r,F,O,W,aO,bs,if_true,if_false,decide_true,decide_false,eq_self,true_or,or_true,or_false,false_or,if_true,if_false,cy,co,cw,cv,reduceIte,gh,gi])
   all_goals rfl
 rw[hs]
 exact bi bX dK
 have bX:=ai aO
 refine bp<|sg<|?_
 refine L0<|bS (b6 b5 (Ne.symm bU) fn)<|?_
 refine L0<|be (ub (ut D (u1 bV b5 im) (ac (nr a) (ac (ni g.size f) av))) i) (mG c 0 0 0 0 0 0 0 0 0 0 0 nS nS (.slice dC ((H.bytesR ((aj.mk b false 0).byteV)).length) dD) nS 0 0 0 0 0 nS) fun gY fr fs=>Pl 1<|nt<|rt<|bP fr (.int .i64 0)<|?_
 have hs:ag b9 1 c b=aL (aQ.mk c 0 0 0 0 0 0 0 0 0 0 0 [] [] (H.bytesR ((aj.mk b false 0).byteV)) [] 0 0 0 0 0 []) (H.bytesC ((aj.mk b false 0).byteV)):=by
   subst dA
   unfold ag b9 dl cI
   (try simp only[q,r,F,O,W,aO,bs,if_true,if_false,decide_true,decide_false,eq_self,true_or,or_true,or_false,false_or,if_true,if_false,cy,co,cw,cv,reduceIte,gh,gi])
   all_goals rfl
 rw[hs]
 exact bt bX ⟨_,_,_,_,_,rfl,aS.nil ..,aS.nil ..,fk,aS.nil ..,aS.nil ..,⟨(b8 (x:=c) (by omega)),(b8 (x:=0) (by omega)),(aD (x:=0) (by omega)),(aD (x:=0) (by omega)),(aD (x:=0) (by omega)),(aD (x:=0) (by omega)),(aD (x:=0) (by omega)),(aD (x:=0) (by omega)),(aD (x:=0) (by omega)),(aD (x:=0) (by omega)),(aD (x:=0) (by omega)),(aD (x:=0) (by omega)),(b8 (x:=0) (by omega)),(b8 (x:=0) (by omega)),(b8 (x:=0) (by omega)),(b8 (x:=0) (by omega)),(b8 (x:=0) (by omega))⟩⟩ (ud dH fs B)
theorem lM{m:Md}{A:Option Addr}{cp:Nat}{b:List Int}{w:World}{dir c:Int}(hcode:B8 c)(hsl:bh m w (.slice A b.length cp) b)(hb:b.length≤1048576)(hd:¬ (dir=0∨dir=1)) :
    Calls Tryz.prog 95 #[.int .i64 dir,.int .u8 c,.slice A b.length cp] w (cM (.slice A b.length cp) b (ag b9 dir c b) w):=by
 obtain⟨hcode1,hcode2⟩:=hcode
 have hln:(b.length:Int)≤1048576:=by omega
 have e0:(dir != 0)=true:=by simp;omega
 have e1:(dir != 1)=true:=by simp;omega
 refine en 197 Tryz.func95 rfl<|sg<|L0<|bO mZ fun g h a d e=>Pl 1<|nt<|sq<|sg<|Pl 3<|sy 17 e0<|Pl 3<|nl<|?_
 refine tn<|ct e1<|sg<|Pl 1<|L0<|be d mZ fun i dB f=>Pl 1<|nt<|rt<|tr<|bP dB (.int .i64 1)<|?_
 have hs:ag b9 dir c b=(aQ.zero,1):=by
   unfold ag b9 dl cI
   (try simp only[e0,e1,bs,if_true,if_false,decide_true,decide_false,eq_self,true_or,or_true,or_false,false_or,if_true,if_false,cy,co,cw,cv,reduceIte,hd,gh,gi])
   all_goals rfl
 rw[hs]
 exact bA (ud e f a)
open Go.RowKit
theorem ek{C:aj}{ok:Bool}{x:Int}(h:C.e≠0) : C.need ok x=C:=by
  unfold aj.need
  rw[if_neg fun k=>h k.1]
theorem fh{C:aj}{n:Int}(h:C.fails n=true) : (C.bytesC n).e≠0:=by
  unfold aj.bytesC
  rw[if_pos h]
  unfold aj.need
  split
  · exact(show(2:Int)≠0 from by decide)
  · rename_i k
    intro e
    exact k ⟨e,rfl⟩
theorem mP{C:aj}(h:(C.wordsR 1).length≠1) : (C.wordsC 1).e≠0:=by
  unfold aj.wordsR at h
  unfold aj.wordsC
  split
  · exact fh (by unfold aj.fails;simp)
  · rename_i hb
    rw[if_neg hb] at h
    by_cases hf:C.fails (2*1)=true
    · exact fh hf
    · exfalso
      apply h
      unfold aj.bytesR
      rw[if_neg hf]
      unfold aj.fails at hf
      simp only[Bool.or_eq_true,decide_eq_true_eq,not_or] at hf
      rcases e:C.l with _|⟨a,_|⟨b,t⟩⟩
      · rw[e] at hf;simp at hf
      · rw[e] at hf;simp at hf
      · show(cD [a,b]).length=1
        unfold cD
        rw[if_pos (by simp)]
        simp[du]
theorem pE{C:aj}(h:(C.wordsR 1).length=1) : [C.wordV]=C.wordsR 1:=by
  unfold aj.wordV
  rcases e:C.wordsR 1 with _|⟨a,_|⟨b,t⟩⟩
  · rw[e] at h;simp at h
  · rfl
  · rw[e] at h;simp at h
theorem ro{M M':aQ}{C:aj}(h:C.e≠0) : aL M C=aL M' C:=by
  unfold aL
  have e:C.endC.e≠0:=by unfold aj.endC;rw[ek h];exact h
  rw[if_neg e,if_neg e]
theorem s8(dir:Int)(C:aj) : eT dir C=eR dir C:=by
  unfold eT eR
  rw[Bool.or_comm]
theorem qN(dir c:Int)(C:aj) : aL (dl dir c C).2 (dl dir c C).1=aL (dL dir c C).2 (dL dir c C).1:=by
  unfold dl dL
  rw[s8]
  by_cases h0:C.wordV=0
  · rw[h0,if_pos (show((0:Int)==0)=true from rfl),if_neg (show ¬ ((0:Int)!=0)=true from by decide)]
  · rw[if_neg (by simpa using h0),if_pos (by simpa using h0)]
    by_cases h1:((eR dir C).wordsR 1).length=1
    · rw[pE h1,show((((eR dir C).wordsR 1).length:Int)==1)=true from by rw[h1];rfl,Bool.true_and]
      rfl
    · have k:=mP h1
      dsimp only
      rw[ek k,ek k]
      exact ro k
theorem ly{f f':Int→Int→aj→Option (aj × aQ)}{dir c:Int}{b:List Int}(h:∀ C,(dir=0∨dir=1)→(f dir c C=none∧f' dir c C=none)∨∃ r r',f dir c C=some r∧f' dir c C=some r'∧aL r.2 r.1=aL r'.2 r'.1) : ag f dir c b=ag f' dir c b:=by
  unfold ag
  split
  · rename_i hd
    rcases h ⟨b,false,0⟩ hd with⟨h1,h2⟩|⟨r,r',h1,h2,h3⟩
    · rw[h1,h2]
    · rw[h1,h2];exact h3
  · rfl
theorem nm(dir c:Int)(b:List Int) : ag b9 dir c b=ag aR dir c b:=by
  refine ly fun C hd=>?_
  unfold b9 aR
  by_cases h8:c=8
  · subst h8
    exact .inr ⟨_,_,rfl,rfl,qN dir 8 C⟩
  · by_cases h:c=7∨c=11∨c=12∨c=17
    · refine .inr ?_
      rw[if_neg (show ¬ (((((c != 7)&&(c != 8))&&(c != 11))&&(c != 12))&&(c != 17))=true from by rcases h with rfl | rfl | rfl | rfl<;>decide),if_neg (show ¬ (c==8)=true from by simpa using h8),if_neg (show ¬ (c==8)=true from by simpa using h8),if_pos (show(c==7 || c==11 || c==12 || c==17)=true from by rcases h with rfl | rfl | rfl | rfl<;>decide)]
      rcases hd with rfl|rfl
      · exact⟨_,_,rfl,rfl,rfl⟩
      · refine⟨_,_,rfl,rfl,?_⟩
        rcases h with rfl|rfl|rfl|rfl<;>rfl
    · refine .inl ?_
      rw[if_pos (show(((((c != 7)&&(c != 8))&&(c != 11))&&(c != 12))&&(c != 17))=true from by simp;omega),if_neg (show ¬ (c==8)=true from by simpa using h8),if_neg (show ¬ (c==7 || c==11 || c==12 || c==17)=true from by simp;omega)]
      exact⟨rfl,rfl⟩
open Go.RowKit
theorem nn{n:Int}:dN n=if n<1 then 0 else n/8+(if 0<n%8 then 1 else 0):=by
  unfold dN
  split
  · rfl
  · split<;>omega
theorem kY(l:List Bool)(j:Nat) : ci (l.take (8*j)) j=0:=by
  have h:=lY l (8*j)
  rw[show 8*j/8=j from by omega,show 8*j%8=0 from by omega] at h
  omega
theorem jw{l:List Bool}{j t:Nat}(ht:t<8) : ci (l.take (8*j+t+1)) j=ci (l.take (8*j+t)) j+if l.getD (8*j+t) false=true then 2 ^ t else 0:=by
  rw[i9,show(8*j+t)/8=j from by omega,show(8*j+t)%8=t from by omega]
  simp
theorem qE{l:List Bool}{j t:Nat}(h:t=8∨l.length≤8*j+t) : ci (l.take (8*j+t)) j=ci l j:=by
  rcases h with rfl|h
  · unfold ci
    simp only[it]
    simp
  · rw[List.take_of_length_le h]
theorem sR{l:List Bool}{j:Nat}(h1:l.length≤8*j)(h2:8*j<l.length+8) : (List.range j).map (fun i=>(ci l i:Int))=bR l:=by
  unfold bR
  rw[show(dN l.length).toNat=j from by unfold dN;split<;>omega]
theorem rq(l:List Bool) : ((bR l).length:Int)=dN l.length:=by
  unfold bR
  rw[List.length_map,List.length_range]
  unfold dN
  split<;>omega
theorem yc:∀ x0 x1 x2 x3 x4 x5 x6 x7:Bool,∀ t:Fin 8,(((((if x0=true then 1 else 0)+(if x1=true then 2 else 0)+(if x2=true then 4 else 0)+(if x3=true then 8 else 0)+(if x4=true then 16 else 0)+(if x5=true then 32 else 0)+(if x6=true then 64 else 0)+(if x7=true then 128 else 0) : Nat) : Int)/2 ^ t.val%2==1)=[x0,x1,x2,x3,x4,x5,x6,x7].getD t.val false):=by decide +kernel
theorem wv{l:List Bool}{j t:Nat}(ht:t<8) : ((ci l j:Int)/2 ^ t%2==1)=l.getD (8*j+t) false:=by
  have h:=yc (l.getD (8*j) false) (l.getD (8*j+1) false) (l.getD (8*j+2) false) (l.getD (8*j+3) false) (l.getD (8*j+4) false) (l.getD (8*j+5) false) (l.getD (8*j+6) false) (l.getD (8*j+7) false) ⟨t,ht⟩
  refine h.trans ?_
  rcases t with _|_|_|_|_|_|_|_|t
  case succ.succ.succ.succ.succ.succ.succ.succ=>omega
  all_goals rfl
theorem oS(l:List Bool) : cz (bR l) (l.length:Int)=some ((List.range l.length).map (cJ (bR l))):=by
  have hl:=rq l
  unfold cz
  rw[if_pos ⟨by omega,hl⟩,if_pos,show((l.length:Int)).toNat=l.length from by omega]
  rw[List.all_eq_true]
  intro i hi
  have hi:i<8*(bR l).length:=by simpa using hi
  simp only[Bool.or_eq_true,decide_eq_true_eq,Bool.not_eq_true']
  by_cases h:(i:Int)<l.length
  · exact .inl h
  · refine .inr ?_
    have hj:i/8<(bR l).length:=by omega
    unfold cJ
    have e:(bR l).getD (i/8) 0=(ci l (i/8) : Int):=by
      have hj2:i/8<(dN (l.length:Int)).toNat:=by omega
      unfold bR
      rw[List.getD_eq_getElem?_getD,List.getElem?_map,List.getElem?_range hj2]
      rfl
    rw[e,wv (Nat.mod_lt _ (by decide)),show 8*(i/8)+i%8=i from by omega,List.getD_eq_getElem?_getD,List.getElem?_eq_none (by omega)]
    rfl
theorem nE{b:List Int}{n:Int}(hr:∀ x,x∈b→0≤x∧x<256)(h0:0≤n) : cz b n=if bR ((List.range n.toNat).map (cJ b))=b then some ((List.range n.toNat).map (cJ b)) else none:=by
  by_cases h:bR ((List.range n.toNat).map (cJ b))=b
  · rw[if_pos h]
    have k:=oS ((List.range n.toNat).map (cJ b))
    rw[h,List.length_map,List.length_range,show((n.toNat:Nat) : Int)=n from by omega] at k
    exact k
  · rw[if_neg h]
    cases e:cz b n with
    | none=>rfl
    | some l =>
      exfalso
      have k:=jR hr e
      unfold cz at e
      split at e
      · split at e
        · injection e with e;rw[e] at h;exact h k
        · cases e
      · cases e
open Go.RowKit
theorem xn{n:Int}{w:World}(hn : -1048576≤n∧n≤1048576) : Calls Tryz.prog 155 #[.int .i64 n] w (dM (.int .i64 (dN n)) w):=by
 refine en 14 Tryz.func155 rfl<|sg<|Pl 1<|nt<|sq<|sg<|Pl 2<|nt<|cb ((decide (n<1))) (fun a=>?_) (fun a=>?_)
 have c:=of_decide_eq_true a
 refine sg<|Pl 1<|nt<|rt<|tr<|rr (.int .i64 0)<|?_
 have hs:dN n=0:=by rw[nn];split<;>(try split)<;>omega
 rw[hs]
 exact⟨rfl,(aF.refl [] _)⟩
 have c:=of_decide_eq_false a
 refine bp<|sg<|Pl 1<|L0<|Oe (.int .i64 (IntKind.i64.wrap (Int.tdiv n 8))) (.int .i64 (n/8)) (congrArg (Value.int .i64) (fU (by omega) (by omega)))<|Pl 1<|nt<|sq<|sg<|Pl 1<|L0<|Oe (.int .i64 (Int.tmod n 8)) (.int .i64 (n%8)) (congrArg (Value.int .i64) (Int.tmod_eq_emod_of_nonneg (by omega)))<|?_
 refine Pl 1<|nt<|cb ((decide (0<(n%8)))) (fun b=>?_) (fun b=>?_)
 have d:=of_decide_eq_true b
 refine go<|Pl 1<|L0<|Oi ((n/8)+1)<|Pl 1<|ng<|Pl 2<|nt<|rt<|rr (.int .i64 ((n/8)+1))<|?_
 have hs:dN n=((n/8)+1):=by rw[nn];split<;>(try split)<;>omega
 rw[hs]
 exact⟨rfl,(aF.refl [] _)⟩
 have d:=of_decide_eq_false b
 refine bp<|sg<|Pl 2<|nt<|rt<|rr (.int .i64 (n/8))<|?_
 have hs:dN n=(n/8):=by rw[nn];split<;>(try split)<;>omega
 rw[hs]
 exact⟨rfl,(aF.refl [] _)⟩
theorem qe(l:List Bool)(j t:Nat)(ht:t≤8) : ci (l.take (8*j+t)) j<2 ^ t:=by
  induction t with
  | zero=>rw[Nat.add_zero,kY];decide
  | succ t ih =>
    have h:=ih (by omega)
    rw[← Nat.add_assoc,jw (by omega),Nat.pow_succ]
    split<;>omega
theorem tv{t:Nat}(ht:t≤8) : 2 ^ t≤256:=by
  rcases t with _|_|_|_|_|_|_|_|_|t
  case succ.succ.succ.succ.succ.succ.succ.succ.succ=>omega
  all_goals decide
theorem qY{l:List Bool}{j:Nat}(h1:¬ 8*j<l.length)(h2:8*j<l.length+8) : (List.range j).map (fun i=>(ci l i:Int))=bR l:=sR (by omega) h2
theorem sJ{l:List Bool}{j t:Nat}{c:Int}(hc:c=(ci (l.take (8*j+t)) j:Int))(ht:t≤8)(h:t=8∨l.length≤8*j+t) : c%256=(ci l j:Int):=by
  have h1:=qe l j t ht
  have h2:=tv ht
  rw[qE h] at hc h1
  omega
theorem wL{m:Md}{A:Option Addr}{cp:Nat}{l:List Bool}{w:World}(h:hZ m w (.slice A l.length cp) l)(hn:l.length≤1048576) : Calls Tryz.prog 216 #[.slice A l.length cp] w (sC l w):=by
 refine en 42 Tryz.func216 rfl<|sg<|Pl 1<|ng<|Pl 1<|nt<|sq<|sg<|?_
 refine Pl 1<|nt<|bk<|?_
 refine js (fun x=>[(0,.slice A l.length cp),(2,.slice none 0 0),(3,.slice x.2.2.1 x.2.1.length x.2.2.2),(4,.int .i64 ((8*x.1:Nat) : Int))]) (fun(x:Nat × List Int × Option Addr × Nat) w'=>aF [] w w'∧eI w.heap.size w' (.slice x.2.2.1 x.2.1.length x.2.2.2) x.2.1∧(8*x.1<l.length+8)∧(x.2.1=(List.range x.1).map (fun i=>(ci l i:Int)))) (fun x=>l.length+8-8*x.1) (0,[],none,0) ⟨aF.refl _ _,(aW.nil w.heap.size _ _ t9 _),(by(try dsimp only);omega),rfl⟩ ?_
 rintro⟨j,L,B,cq⟩ r ⟨f,z,C,D⟩
 refine ju [(0,.slice A l.length cp),(2,.slice none 0 0),(3,.slice B L.length cq),(4,.int .i64 ((8*j:Nat) : Int))] ?_
 have g:eI w.heap.size r (.slice B L.length cq) L:=z
 have Z:8*j<l.length+8:=C
 have k:L=(List.range j).map (fun i=>(ci l i:Int)):=D
 have hLn:L.length=j:=by rw[k,List.length_map,List.length_range]
 refine sq<|sg<|Pl 4<|nt<|cb ((decide (((8*j:Nat) : Int)<((l.length:Nat) : Int)))) (fun n=>?_) (fun n=>?_)
 have E:=of_decide_eq_true n
 refine bp<|sq<|bk<|sg<|Pl 1<|ng<|Pl 1<|nt<|?_
 refine sq<|sg<|Pl 2<|nt<|bk<|?_
 refine js (fun x=>[(0,.slice A l.length cp),(2,.slice none 0 0),(3,.slice B L.length cq),(4,.int .i64 ((8*j:Nat) : Int)),(5,.int .i64 x.2.1),(6,.int .i64 x.2.2),(7,.int .i64 ((8*j+x.1:Nat) : Int)),(8,.int .i64 ((8*j:Nat) : Int)),(9,.slice A l.length cp),(10,.int .i64 ((l.length:Nat) : Int)),(11,.bool (decide (((8*j:Nat) : Int)<((l.length:Nat) : Int)))),(14,.int .i64 ((8*j:Nat) : Int))]) (fun(x:Nat × Int × Int) w'=>aF [] r w'∧(x.1≤8)∧(x.2.1=(ci (l.take (8*j+x.1)) j:Int))∧(x.2.2=((2 ^ x.1:Nat) : Int))) (fun x=>8-x.1) (0,0,1) ⟨aF.refl _ _,(by(try dsimp only);omega),(by(try dsimp only);rw[Nat.add_zero,kY];rfl),rfl⟩ ?_
 rintro⟨t,c,u⟩ a0 ⟨a,F,G,H⟩
 refine ju [(0,.slice A l.length cp),(2,.slice none 0 0),(3,.slice B L.length cq),(4,.int .i64 ((8*j:Nat) : Int)),(5,.int .i64 c),(6,.int .i64 u),(7,.int .i64 ((8*j+t:Nat) : Int)),(8,.int .i64 ((8*j:Nat) : Int)),(9,.slice A l.length cp),(10,.int .i64 ((l.length:Nat) : Int)),(11,.bool (decide (((8*j:Nat) : Int)<((l.length:Nat) : Int)))),(14,.int .i64 ((8*j:Nat) : Int))] ?_
 have a1:t≤8:=F
 have I:c=(ci (l.take (8*j+t)) j:Int):=G
 have a2:u=((2 ^ t:Nat) : Int):=H
 have hpl:=qe l j t (by omega)
 have hpp:=tv (t:=t) (by omega)
 refine sq<|sg<|Pl 5<|cu 5 [19] 24 (((decide (((8*j+t:Nat) : Int)<((l.length:Nat) : Int)))&&(decide (((8*j+t:Nat) : Int)<(((8*j:Nat) : Int)+8))))) (fun K s=>?_) ?_
 refine bl 19 ((decide (((8*j+t:Nat) : Int)<((l.length:Nat) : Int)))) (fun b=>?_) (fun b=>?_)
 have J:=of_decide_eq_true b
 exact Pl 2<|L1<|Oi (((8*j:Nat) : Int)+8)<|Pl 2<|ce s (decide (((8*j+t:Nat) : Int)<(((8*j:Nat) : Int)+8))) (by rw[b];rfl)
 have J:=of_decide_eq_false b
 exact Pl 5<|ce s false (by rw[b];rfl)
 refine nt<|?_
 have y:=aG f a
 refine cb (((decide (((8*j+t:Nat) : Int)<((l.length:Nat) : Int)))&&(decide (((8*j+t:Nat) : Int)<(((8*j:Nat) : Int)+8))))) (fun d=>?_) (fun d=>?_)
 have M:=(aZ d).1
 have N:=(aZ d).2
 have a3:=of_decide_eq_true M
 have a4:=of_decide_eq_true N
 refine bp<|sq<|bk<|sq<|sg<|Pl 2<|?_
 refine yt (hZ.at_ (hZ.old h y) (8*j+t) (by omega)) fun O P Q R=>L0<|lv l.length (8*j+t) Q (by omega)<|L0<|ez (p:=⟨O,P+(8*j+t),none⟩) (v:=.bool (l.getD (8*j+t) false)) R<|nt<|cb ((l.getD (8*j+t) false)) (fun o=>?_) (fun o=>?_)
 refine go<|Pl 2<|L0<|Oi (c+u)<|Pl 1<|nt<|go<|Pl 1<|L0<|Oi (2*u)<|Pl 1<|nl<|bn<|tn<|go<|?_
 exact Pl 1<|L0<|Oi (((8*j+t:Nat) : Int)+1)<|Pl 1<|nl<|gM ((t+1),(c+u),(2*u)) ⟨a,(by(try dsimp only);omega),(by(try dsimp only);rw[← Nat.add_assoc,jw (by omega),if_pos o];omega),(by(try dsimp only);rw[Nat.pow_succ];omega)⟩ (by omega)
 refine bp<|go<|Pl 1<|L0<|Oi (2*u)<|Pl 1<|nl<|bn<|tn<|go<|Pl 1<|L0<|Oi (((8*j+t:Nat) : Int)+1)<|Pl 1<|nl<|?_
 exact gM ((t+1),c,(2*u)) ⟨a,(by(try dsimp only);omega),(by(try dsimp only);rw[← Nat.add_assoc,jw (by omega),if_neg (by rw[o];decide)];omega),(by(try dsimp only);rw[Nat.pow_succ];omega)⟩ (by omega)
 refine xt<|tx<|tx<|bx<|tn<|go<|Pl 3<|L0<|cK (m:=1) (e:=5) #[.int .u8 (c%256)] fun a5 a6 S T q=>?_
 have U:=cN S (xs:=[(c%256)]) (by as_aux_lemma=>kernel_rfl) (am (by omega) aJ) (by(try simp only[List.length_cons,List.length_nil]);omega) T
 refine L0<|bE aV (xs:=L) (ys:=([(c%256)])) (.int .u8 0) 1 (aq g (aG a q) (fun x hx=>aA) (fun _ _ h=>h)) (U).rd (by(try simp only[List.length_append,List.length_cons,List.length_nil,ay]);omega) (le (le f.size a.size) q.size) fun V W a7 X Y=>Pl 1<|nl<|bn<|tn<|go<|Pl 1<|L0<|Oi (((8*j:Nat) : Int)+8)<|Pl 1<|nl<|?_
 exact gM ((j+1),(L++[(c%256)]),V,W) ⟨(ut y (ut (aF.mono (S':=(ob B++[])) q av) Y (al il av)) (al (aM g lr) av)),X,(by(try dsimp only);omega),(by(try dsimp only);rw[k,List.range_succ,List.map_append];show _++[_]=_++[_];rw[sJ I (by omega) (by have hq:=d;simp only[Bool.and_eq_false_iff,decide_eq_false_iff_not] at hq;omega)])⟩ (by omega)
 have E:=of_decide_eq_false n
 refine xt<|tx<|tx<|bx<|tn<|sg<|Pl 2<|nt<|rt<|rr (.slice B L.length cq)<|?_
 have hs:L=bR l:=by rw[k];exact qY (by omega) (by omega)
 exact⟨_,rfl,by rw[← hs];exact g,f⟩
theorem vP{m:Md}{v:Value}{l:List Bool}{w:World}(h:hZ m w v l)(hn:l.length≤1048576) : Calls Tryz.prog 216 #[v] w (sC l w):=by
  obtain⟨A,c,rfl,_,_⟩:=h.shape
  exact wL h hn
theorem tQ{P:Program}{w:World}{ev:Operand→Value}{o:Oper}{x y:Operand}{t t':TypeId}{a b:ByteArray}{v:Bool}(ho:o.op = .binOp .neq t x y t')(hx:ev x = .string a)(hy:ev y = .string b)(hv:(a.toList==b.toList)=v) : (execOp ev o).run P w = .ok (.value (.bool !v)) w:=by
  have hg:eqGuard .neq t x y (.string a) (.string b)=pure ():=rfl
  unfold execOp
  simp only[ho,hx,hy,hg,binOp_string_neq,Sem.run_bind,Sem.run_pure,Result.andThen,hv]
theorem yr{w0 w:World}{g:Nat}{cs:Array Value}{xs:List Bool}(hg:w0.heap.size≤g)(hcs:cs=(xs.map Value.bool).toArray)(hl:xs.length≤4194304)(hb:w.heap[g]? = some (.cells cs 4 (0,0))) :
    ve w0.heap.size w (.slice (some ⟨g,0,none⟩) xs.length xs.length) xs:=wD (enc:=Value.bool) hg hcs (fun x h=>rfl) hl hb
theorem sd{x c:Int}{k:Nat}(h:c=x/2 ^ k) : c/2=x/2 ^ (k+1):=by
  rw[h,Int.ediv_ediv_of_nonneg (Int.le_of_lt (Int.pow_pos (by decide))),Int.pow_succ]
theorem sY{x c:Int}(hx:0≤x∧x<256){k:Nat}(h:c=x/2 ^ k) : 0≤c∧c<256:=by
  have h1:(1:Int)≤2 ^ k:=Int.pow_pos (by decide)
  subst h
  exact⟨Int.ediv_nonneg hx.1 (by omega),Int.lt_of_le_of_lt (Int.ediv_le_self _ hx.1) hx.2⟩
theorem rf{l:List Int}{i:Nat}(h:i<l.length) : l.getD i 0∈l:=by
  rw[List.getD_eq_getElem?_getD,List.getElem?_eq_getElem h]
  exact List.getElem_mem h
theorem sG{m:Md}{A:Option Addr}{cp:Nat}{b:List Int}{n:Int}{w:World}(h:bh m w (.slice A b.length cp) b)(hl:b.length≤1048576)(hn : -1048576≤n∧n≤1048576) : Calls Tryz.prog 156 #[.slice A b.length cp,.int .i64 n] w (fX b n w):=by
 have hb:=bh.range h
 refine en 51 Tryz.func156 rfl<|sg<|Pl 2<|nt<|sq<|sg<|Pl 3<|cu 6 [12] 18 (((decide (n<0))||(decide ((8*((b.length:Nat) : Int))<n)))) (fun K H=>?_) ?_
 refine bl 12 ((decide (n<0))) (fun d=>?_) (fun d=>?_)
 have R:=of_decide_eq_true d
 exact Pl 6<|ce H true (by rw[d];rfl)
 have R:=of_decide_eq_false d
 exact Pl 3<|L1<|Oi (8*((b.length:Nat) : Int))<|Pl 2<|ce H (decide ((8*((b.length:Nat) : Int))<n)) (by rw[d];rfl)
 refine nt<|cb (((decide (n<0))||(decide ((8*((b.length:Nat) : Int))<n)))) (fun g=>?_) (fun g=>?_)
 refine sg<|Pl 2<|nt<|rt<|tr<|rr (.tuple #[.slice none 0 0,.bool false])<|?_
 have hq:=g
 have hs:cz b n=none:=by unfold cz;rw[if_neg];rintro⟨h1,h2⟩;simp only[Bool.or_eq_true,decide_eq_true_eq] at hq;rw[nn] at h2;split at h2<;>(try split at h2)<;>omega
 exact fg hs (aF.refl [] _)
 have S:=(aH g).1
 have T:=(aH g).2
 have ae:=of_decide_eq_false S
 have af:=of_decide_eq_false T
 refine bp<|sg<|Pl 1<|nt<|sq<|sg<|Pl 1<|nt<|bk<|?_
 refine js (fun x=>[(0,.slice A b.length cp),(1,.int .i64 n),(4,.slice none 0 0),(5,.bool false),(6,.slice x.2.2.1 x.2.1.length x.2.2.2),(7,.int .i64 ((x.1:Nat) : Int))]) (fun(x:Nat × List Bool × Option Addr × Nat) w'=>aF [] w w'∧ve w.heap.size w' (.slice x.2.2.1 x.2.1.length x.2.2.2) x.2.1∧(((x.1:Nat) : Int)≤n)∧(x.2.1=(List.range x.1).map (cJ b))) (fun x=>n.toNat-x.1) (0,[],none,0) ⟨aF.refl _ _,(aW.nil w.heap.size _ _ mB _),(by(try dsimp only);omega),rfl⟩ ?_
 rintro⟨i,L,B,cq⟩ I ⟨j,U,V,W⟩
 refine ju [(0,.slice A b.length cp),(1,.int .i64 n),(4,.slice none 0 0),(5,.bool false),(6,.slice B L.length cq),(7,.int .i64 ((i:Nat) : Int))] ?_
 have r:ve w.heap.size I (.slice B L.length cq) L:=U
 have ag:((i:Nat) : Int)≤n:=V
 have o:L=(List.range i).map (cJ b):=W
 have hLn:L.length=i:=by rw[o,List.length_map,List.length_range]
 have hi8:(((i:Nat) : Int)/8).toNat=i/8:=by omega
 refine sq<|sg<|Pl 3<|nt<|cb ((decide (((i:Nat) : Int)<n))) (fun s=>?_) (fun s=>?_)
 have X:=of_decide_eq_true s
 refine bp<|sq<|bk<|sg<|Pl 2<|L0<|Oe (.int .i64 (IntKind.i64.wrap (Int.tdiv ((i:Nat) : Int) 8))) (.int .i64 (((i:Nat) : Int)/8)) (congrArg (Value.int .i64) (fU (by omega) (by omega)))<|?_
 refine gf (bh.at_ (bh.old h j) (((((i:Nat) : Int)/8)).toNat) (by omega)) fun t u Y Z ah=>L0<|xQ b.length (((((i:Nat) : Int)/8)).toNat) (((i:Nat) : Int)/8) (by omega) Y (by omega)<|L0<|ez (p:=⟨t,u+(((((i:Nat) : Int)/8)).toNat),none⟩) (v:=.int .u8 (b.getD (((((i:Nat) : Int)/8)).toNat) 0)) Z<|L0<|Oi (b.getD (((((i:Nat) : Int)/8)).toNat) 0)<|Pl 1<|nt<|sq<|sg<|Pl 1<|nt<|bk<|?_
 refine js (fun x=>[(0,.slice A b.length cp),(1,.int .i64 n),(4,.slice none 0 0),(5,.bool false),(6,.slice B L.length cq),(7,.int .i64 ((i:Nat) : Int)),(8,.int .i64 x.2),(9,.int .i64 ((x.1:Nat) : Int)),(19,.int .i64 ((i:Nat) : Int)),(20,.int .i64 n),(21,.bool (decide (((i:Nat) : Int)<n))),(24,.slice A b.length cp),(25,.int .i64 ((i:Nat) : Int)),(26,.int .i64 (((i:Nat) : Int)/8)),(27,.pointer (some (⟨t,u+(((((i:Nat) : Int)/8)).toNat),none⟩))),(28,.int .u8 (b.getD (((((i:Nat) : Int)/8)).toNat) 0)),(29,.int .i64 (b.getD (((((i:Nat) : Int)/8)).toNat) 0))]) (fun(x:Nat × Int) w'=>aF [] I w'∧(x.1≤i%8)∧(x.2=b.getD (i/8) 0/2 ^ x.1)) (fun x=>8-x.1) (0,(b.getD (((((i:Nat) : Int)/8)).toNat) 0)) ⟨aF.refl _ _,(by(try dsimp only);omega),(by(try dsimp only);rw[hi8,Int.pow_zero,Int.ediv_one])⟩ ?_
 rintro⟨k,c⟩ ai ⟨q,a0,a1⟩
 refine ju [(0,.slice A b.length cp),(1,.int .i64 n),(4,.slice none 0 0),(5,.bool false),(6,.slice B L.length cq),(7,.int .i64 ((i:Nat) : Int)),(8,.int .i64 c),(9,.int .i64 ((k:Nat) : Int)),(19,.int .i64 ((i:Nat) : Int)),(20,.int .i64 n),(21,.bool (decide (((i:Nat) : Int)<n))),(24,.slice A b.length cp),(25,.int .i64 ((i:Nat) : Int)),(26,.int .i64 (((i:Nat) : Int)/8)),(27,.pointer (some (⟨t,u+(((((i:Nat) : Int)/8)).toNat),none⟩))),(28,.int .u8 (b.getD (((((i:Nat) : Int)/8)).toNat) 0)),(29,.int .i64 (b.getD (((((i:Nat) : Int)/8)).toNat) 0))] ?_
 have aj:k≤i%8:=a0
 have y:c=b.getD (i/8) 0/2 ^ k:=a1
 have hcr:=sY (hb _ (rf (l:=b) (i:=i/8) (by omega))) y
 refine sq<|sg<|Pl 2<|L0<|Oe (.int .i64 (Int.tmod ((i:Nat) : Int) 8)) (.int .i64 (((i:Nat) : Int)%8)) (congrArg (Value.int .i64) (Int.tmod_eq_emod_of_nonneg (by omega)))<|Pl 1<|nt<|?_
 refine cb ((decide (((k:Nat) : Int)<(((i:Nat) : Int)%8)))) (fun z=>?_) (fun z=>?_)
 have a2:=of_decide_eq_true z
 refine bp<|sq<|bk<|go<|Pl 1<|L0<|Oe (.int .i64 (IntKind.i64.wrap (Int.tdiv c 2))) (.int .i64 (c/2)) (congrArg (Value.int .i64) (fU (by omega) (by omega)))<|Pl 1<|nl<|bn<|tn<|go<|Pl 1<|L0<|Oi (((k:Nat) : Int)+1)<|?_
 exact Pl 1<|nl<|gM ((k+1),(c/2)) ⟨q,(by(try dsimp only);omega),sd y⟩ (by omega)
 have a2:=of_decide_eq_false z
 refine xt<|tx<|tx<|bx<|tn<|go<|Pl 2<|L0<|Oe (.int .i64 (Int.tmod c 2)) (.int .i64 (c%2)) (congrArg (Value.int .i64) (Int.tmod_eq_emod_of_nonneg (by omega)))<|Pl 1<|L0<|cK (m:=1) (e:=4) #[.bool ((c%2)==1)] fun ak am a3 a4 C=>?_
 have a5:=yr a3 (xs:=[((c%2)==1)]) (by as_aux_lemma=>kernel_rfl)  (by(try simp only[List.length_cons,List.length_nil]);omega) a4
 refine L0<|bE sW (xs:=L) (ys:=([((c%2)==1)])) (.bool false) 1 (aq r (aG q C) (fun x hx=>aA) (fun _ _ h=>h)) (a5).rd (by(try simp only[List.length_append,List.length_cons,List.length_nil,ay]);omega) (le (le j.size q.size) C.size) fun a6 a7 an a8 a9=>Pl 1<|nl<|bn<|tn<|go<|Pl 1<|L0<|Oi (((i:Nat) : Int)+1)<|Pl 1<|nl<|?_
 exact gM ((i+1),(L++[((c%2)==1)]),a6,a7) ⟨(ut (aG j q) (ut (aF.mono (S':=(ob B++[])) C av) a9 (al il av)) (al (aM r lr) av)),a8,(by(try dsimp only);omega),(by(try dsimp only);rw[o,List.range_succ,List.map_append];show _++[_]=_++[cJ b i];unfold cJ;rw[y,show k=i%8 from by omega])⟩ (by omega)
 have X:=of_decide_eq_false s
 refine xt<|tx<|tx<|bx<|tn<|sq<|sq<|Rg 6 (fun w'=>bh false w' (.slice A b.length cp) b) fun ao J=>?_
 have M:=aG j J
 have D:=bh.old h M
 refine bj (aS.any D (fun _ _ h=>h)) fun E=>Rt 0 E<|Rt 3 E<|Rr 4 E (.string (strOfNums b)) (fun _ hs=>eV (A:=A) (n:=b.length) (c:=cp) rfl (by kernel_rfl) Tryz.underlying22 Tryz.underlying5 Tryz.underlying9 hs)<|?_
 have N:=aq r J (fun x hx=>aA) (fun _ _ h=>h)
 refine R0 1 rfl<|Oc<|di (vP (N).rd (by omega)) fun aa ab ap O ar au F=>?_
 have P:=bh.old D F
 refine bj (aS.any P (fun _ _ h=>h)) fun aw=>R0 2 rfl<|nC (.string (strOfNums (bR L))) (eV (A:=aa) (n:=(bR L).length) (c:=ab) rfl (by kernel_rfl) Tryz.underlying22 Tryz.underlying5 Tryz.underlying9 (O).rd)<|bj (aS.any P (fun _ _ h=>h)) fun ac=>Rr 5 ac (.bool (!(decide ((bR L)=b)))) (fun _ _=>tQ (a:=(strOfNums (bR L))) (b:=(strOfNums b)) rfl (by kernel_rfl) (by kernel_rfl) (pJ (O).rd D))<|re<|tn<|?_
 have Q:=aG M F
 refine cb ((!(decide ((bR L)=b)))) (fun f=>?_) (fun f=>?_)
 have G:(decide ((bR L)=b))=false:=by simpa using f
 have ad:=of_decide_eq_false G
 refine sg<|Pl 2<|nt<|rt<|tr<|rr (.tuple #[.slice none 0 0,.bool false])<|?_
 have hL:L=(List.range n.toNat).map (cJ b):=by rw[o,show i=n.toNat from by omega]
 have hu:=nE (n:=n) hb (by omega)
 rw[if_neg (by rw[← hL];simpa using f)] at hu
 exact fg hu Q
 have G:(decide ((bR L)=b))=true:=by simpa using f
 have ad:=of_decide_eq_true G
 refine bp<|sg<|Pl 3<|nt<|rt<|rr (.tuple #[.slice B L.length cq,.bool true])<|?_
 have hL:L=(List.range n.toNat).map (cJ b):=by rw[o,show i=n.toNat from by omega]
 have hu:=nE (n:=n) hb (by omega)
 rw[if_pos (by rw[← hL];simpa using f),← hL] at hu
 exact⟨_,by rw[hu];rfl,by rw[hu];exact(aq N F (fun x hx=>aA) (fun _ _ h=>h)),Q⟩
theorem vf{m:Md}{v:Value}{b:List Int}{n:Int}{w:World}(h:bh m w v b)(hl:b.length≤1048576)(hn : -1048576≤n∧n≤1048576) : Calls Tryz.prog 156 #[v,.int .i64 n] w (fX b n w):=by
  obtain⟨A,c,rfl,_,_⟩:=h.shape
  exact sG h hl hn
open Go.RowKit
def uS (w0:World)(m:Md)(A:Option Addr)(cp:Nat)(full:List Int)(g gm:Nat)(C':aj)(cs:Array Value)(w:World)(e:Ending)(w':World) : Prop:=e = .returned (.tuple #[])∧RC w0 m A cp full w' g C'∧w'.heap[gm]? = some (.cells cs 30 (0,0))∧aF [g,gm] w w'
theorem np{w0:World}{m:Md}{A:Option Addr}{cp:Nat}{full:List Int}{w:World}{g gm:Nat}{c:Int}{C:aj}{most:Int}(hcode:B8 c)(hC:RC w0 m A cp full w g C)(hm:w.heap[gm]? = some (.cells (mC c) 30 (0,0)))(hgm:w0.heap.size≤gm)(hne:g≠gm) :
    Calls Tryz.prog 150 #[.pointer (some ⟨g,0,none⟩),.pointer (some ⟨gm,0,none⟩),.int .i64 most] w (uS w0 m A cp full g gm (bD C most) (mG c 0 C.wordV (C.wordsC 1).wordV 0 0 0 0 0 0 0 0 nS nS nS nS 0 0 0 0 0 nS) w):=by
 obtain⟨hcode1,hcode2⟩:=hcode
 have hrng:=bT (RC.rng hC)
 refine en 39 Tryz.func150 rfl<|sg<|Pl 2<|L0<|Oc<|m3 (d7 hC) fun G t e H=>Pl 2<|?_
 refine L0<|cj (b6 e (Ne.symm hne) hm) 2 (mG c 0 C.wordV 0 0 0 0 0 0 0 0 0 nS nS nS nS 0 0 0 0 0 nS) fun I dB f=>ng<|Pl 2<|?_
 have h:=us e f
 refine L0<|Oc<|m3 (d7 (RC.upd t f (aa hne aA) (hC.u.trans' h (fun x hx=>.inr (by simp at hx;rcases hx with rfl | rfl;exact hC.new;exact hgm))))) fun J v i L=>Pl 2<|?_
 refine L0<|cj (b6 i (Ne.symm hne) dB) 3 (mG c 0 C.wordV ((C.wordsC 1).wordV) 0 0 0 0 0 0 0 0 nS nS nS nS 0 0 0 0 0 nS) fun M j k=>ng<|Pl 3<|L0<|aP j 3<|L0<|Oi ((C.wordsC 1).wordV)<|Pl 1<|ng<|Pl 4<|cu 4 [25] 29 (((decide (0<((C.wordsC 1).wordV)))&&(decide (((C.wordsC 1).wordV)≤most)))) (fun K l=>?_) ?_
 refine bl 25 ((decide (0<((C.wordsC 1).wordV)))) (fun b=>?_) (fun b=>?_)
 have y:=of_decide_eq_true b
 exact Pl 4<|ce l (decide (((C.wordsC 1).wordV)≤most)) (by rw[b];rfl)
 have y:=of_decide_eq_false b
 exact Pl 4<|ce l false (by rw[b];rfl)
 have o:=ut h (us i k) (ac im (ac im av))
 refine L0<|Oc<|m2 (b7 (((decide (0<((C.wordsC 1).wordV)))&&(decide (((C.wordsC 1).wordV)≤most)))) 5 (RC.upd v k (aa hne aA) (hC.u.trans' o (fun x hx=>.inr (by simp at hx;rcases hx with rfl | rfl;exact hC.new;exact hgm))))) fun z B p=>?_
 refine fR B fun x36 D q=>?_
 refine nt<|go<|Pl 4<|?_
 have r:=b6 p (Ne.symm hne) j
 refine L0<|aP r 2<|Pl 1<|L0<|Oc<|m1 (qn (a:=C.wordV) (n:=(C.wordsC 1).wordV) (w:=z) (by omega) (by omega)) fun N d=>?_
 refine L0<|Oc<|m2 (b7 ((dH C.wordV ((C.wordsC 1).wordV))) 7 (RC.upd q d aA (aF.step (RC.u q) d))) fun O E F=>nl<|rm (.tuple #[])<|?_
 subst D
 have hs:bD C most=((((C.wordsC 1).wordsC 1).need ((decide (0<((C.wordsC 1).wordV)))&&(decide (((C.wordsC 1).wordV)≤most))) 5).need (dH C.wordV ((C.wordsC 1).wordV)) 7):=by
   unfold bD iK
   (try simp only[bs,if_true,if_false,decide_true,decide_false,dK,reduceIte])
   all_goals rfl
 rw[hs]
 have s:=uz d F
 exact⟨rfl,E,(b6 s (Ne.symm hne) r),(u1 o (u1 p s im) im)⟩
theorem kG{m:Md}{A:Option Addr}{cp:Nat}{b:List Int}{w:World}{c:Int}(hcode:B8 c)(hsl:bh m w (.slice A b.length cp) b)(hb:b.length≤1048576) :
    Calls Tryz.prog 93 #[.int .i64 0,.int .u8 c,.slice A b.length cp] w (cM (.slice A b.length cp) b (ag aC 0 c b) w):=by
 obtain⟨hcode1,hcode2⟩:=hcode
 have hln:(b.length:Int)≤1048576:=by omega
 refine en 113 Tryz.func93 rfl<|sg<|L0<|bO mZ fun aU d2 r i f=>Pl 1<|nt<|sq<|sg<|Pl 6<|nt<|c0<|?_
 refine bp<|sg<|Pl 2<|L0<|dv #[.slice A b.length cp,.int .i64 0,.bool false,.int .i64 0] fun j d3 a l g=>Pl 1<|ng<|Pl 2<|L0<|bO mZ fun ab d4 d ad N=>L0<|be ad (mC c) fun a2 a3 E=>?_
 refine nt<|sq<|sg<|Pl 1<|nt<|bk<|sq<|sg<|Pl 2<|nl<|?_
 refine tn<|?_
 have O:=ud N E d
 have o:=aG g O
 have s:=aG f o
 refine cb ((c==1)) (fun k=>?_) (fun k=>?_)
 have c2:=ae k
 refine bp<|ct k<|sq<|sg<|Pl 2<|nt<|c1<|sg<|Pl 1<|?_
 have af:RC w _ A cp b a2 j (aj.mk b false 0):=⟨hsl,s,(Nat.le_trans f.size a),⟨0,(ub O l),Nat.zero_le _,rfl⟩,by omega⟩
 have aV:=nb (au l) lr d
 refine L0<|Oc<|m3 (np (most:=2000) (b8 (by omega)) af a3 (Nat.le_trans (le f.size g.size) d) aV) fun d5 c3 c4 c5=>?_
 have d8:=bT (RC.rng af)
 have d9:=bT (c:=(aj.mk b false 0).wordsC 1) (cT (RC.rng af) 1)
 refine nt<|xt<|tx<|bx<|tn<|sg<|Pl 1<|L0<|Oc<|m2 (et c3) fun da al aW=>nt<|sq<|sq<|?_
 refine go<|Pl 3<|L0<|ez (p:=⟨j,3,none⟩) (v:=.int .i64 (((bD (aj.mk b false 0) 2000).endC).e)) (RC.fld al)<|Pl 1<|nt<|?_
 have am:=u1 c5 aW im
 have aX:=ut s am (ac (ni f.size a) (ac (ni (le f.size g.size) d) av))
 refine cb (((((bD (aj.mk b false 0) 2000).endC).e)!=0)) (fun P=>?_) (fun P=>?_)
 have an:=az P
 refine sq<|Rg 7 (fun w'=>w'.cell? ⟨j,3,none⟩=some (.int .i64 (((bD (aj.mk b false 0) 2000).endC).e))) fun db a4=>?_
 have aY:=RC.upd al a4 aA (aF.step (RC.u al) a4)
 refine bj (RC.fld aY) fun Q=>Rt 0 Q<|Rt 1 Q<|Rt 2 Q<|Rt 3 Q<|Rl 4 Q (fun _ hs=>hs)<|?_
 refine R0 5 rfl<|be (ub (ut o (aG am a4) (ac (nr a) (ac (ni g.size d) av))) i) mZ fun dc c6 aZ=>?_
 have b0:=ud aX (uz a4 aZ) r
 refine bj (RC.fld (RC.upd aY aZ (aa (Ne.symm (nb (au i) lr a)) aA) b0)) fun c7=>Rt 6 c7<|re<|tn<|rt<|tr<|bP c6 (.int .i64 (((bD (aj.mk b false 0) 2000).endC).e))<|?_
 have hs:ag aC 0 c b=aL (aQ.mk c 0 ((aj.mk b false 0).wordV) (((aj.mk b false 0).wordsC 1).wordV) 0 0 0 0 0 0 0 0 [] [] [] [] 0 0 0 0 0 []) (bD (aj.mk b false 0) 2000):=by
   unfold ag aC cF cn ck ew kk eX km ji kM d6 dX
   (try simp only[k,P,bs,if_true,if_false,decide_true,decide_false,eq_self,true_or,or_true,or_false,false_or,if_true,if_false,cy,co,cw,cv,reduceIte,dK])
   all_goals rfl
 rw[hs]
 exact bi an b0
 have an:=ai P
 refine bp<|sg<|?_
 refine L0<|bS (b6 aW (Ne.symm aV) c4)<|?_
 refine L0<|be (ub (ut o am (ac (nr a) (ac (ni g.size d) av))) i) (mG c 0 ((aj.mk b false 0).wordV) (((aj.mk b false 0).wordsC 1).wordV) 0 0 0 0 0 0 0 0 nS nS nS nS 0 0 0 0 0 nS) fun dd c8 c9=>Pl 1<|nt<|rt<|bP c8 (.int .i64 0)<|?_
 have hs:ag aC 0 c b=aL (aQ.mk c 0 ((aj.mk b false 0).wordV) (((aj.mk b false 0).wordsC 1).wordV) 0 0 0 0 0 0 0 0 [] [] [] [] 0 0 0 0 0 []) (bD (aj.mk b false 0) 2000):=by
   unfold ag aC cF cn ck ew kk eX km ji kM d6 dX
   (try simp only[k,P,bs,if_true,if_false,decide_true,decide_false,eq_self,true_or,or_true,or_false,false_or,if_true,if_false,cy,co,cw,cv,reduceIte,dK])
   all_goals rfl
 rw[hs]
 exact bt an ⟨_,_,_,_,_,rfl,aS.nil ..,aS.nil ..,(fun _ _ _=>aS.nil ..),aS.nil ..,aS.nil ..,⟨(b8 (x:=c) (by omega)),(b8 (x:=0) (by omega)),(aD (x:=(aj.mk b false 0).wordV) (by omega)),(aD (x:=((aj.mk b false 0).wordsC 1).wordV) (by omega)),(aD (x:=0) (by omega)),(aD (x:=0) (by omega)),(aD (x:=0) (by omega)),(aD (x:=0) (by omega)),(aD (x:=0) (by omega)),(aD (x:=0) (by omega)),(aD (x:=0) (by omega)),(aD (x:=0) (by omega)),(b8 (x:=0) (by omega)),(b8 (x:=0) (by omega)),(b8 (x:=0) (by omega)),(b8 (x:=0) (by omega)),(b8 (x:=0) (by omega))⟩⟩ (ud aX c9 r)
 have c2:=ak k
 refine go<|Pl 2<|nt<|cb ((c==2)) (fun q=>?_) (fun q=>?_)
 have ca:=ae q
 refine sq<|sg<|Pl 2<|nt<|c1<|sg<|Pl 1<|?_
 have ao:RC w _ A cp b a2 j (aj.mk b false 0):=⟨hsl,s,(Nat.le_trans f.size a),⟨0,(ub O l),Nat.zero_le _,rfl⟩,by omega⟩
 have b1:=nb (au l) lr d
 refine L0<|Oc<|m3 (np (most:=2000) (b8 (by omega)) ao a3 (Nat.le_trans (le f.size g.size) d) b1) fun de cc cd cf=>?_
 have df:=bT (RC.rng ao)
 have dg:=bT (c:=(aj.mk b false 0).wordsC 1) (cT (RC.rng ao) 1)
 refine nt<|xt<|tx<|bx<|tn<|sg<|Pl 1<|L0<|Oc<|m2 (et cc) fun dh ap b2=>nt<|sq<|sq<|?_
 refine go<|Pl 3<|L0<|ez (p:=⟨j,3,none⟩) (v:=.int .i64 (((bD (aj.mk b false 0) 2000).endC).e)) (RC.fld ap)<|Pl 1<|nt<|?_
 have ar:=u1 cf b2 im
 have b3:=ut s ar (ac (ni f.size a) (ac (ni (le f.size g.size) d) av))
 refine cb (((((bD (aj.mk b false 0) 2000).endC).e)!=0)) (fun R=>?_) (fun R=>?_)
 have aw:=az R
 refine sq<|Rg 7 (fun w'=>w'.cell? ⟨j,3,none⟩=some (.int .i64 (((bD (aj.mk b false 0) 2000).endC).e))) fun dj a5=>?_
 have b4:=RC.upd ap a5 aA (aF.step (RC.u ap) a5)
 refine bj (RC.fld b4) fun S=>Rt 0 S<|Rt 1 S<|Rt 2 S<|Rt 3 S<|Rl 4 S (fun _ hs=>hs)<|?_
 refine R0 5 rfl<|be (ub (ut o (aG ar a5) (ac (nr a) (ac (ni g.size d) av))) i) mZ fun dk cg b5=>?_
 have b9:=ud b3 (uz a5 b5) r
 refine bj (RC.fld (RC.upd b4 b5 (aa (Ne.symm (nb (au i) lr a)) aA) b9)) fun ch=>Rt 6 ch<|re<|tn<|rt<|tr<|bP cg (.int .i64 (((bD (aj.mk b false 0) 2000).endC).e))<|?_
 have hs:ag aC 0 c b=aL (aQ.mk c 0 ((aj.mk b false 0).wordV) (((aj.mk b false 0).wordsC 1).wordV) 0 0 0 0 0 0 0 0 [] [] [] [] 0 0 0 0 0 []) (bD (aj.mk b false 0) 2000):=by
   unfold ag aC cF cn ck ew kk eX km ji kM d6 dX
   (try simp only[k,q,R,bs,if_true,if_false,decide_true,decide_false,eq_self,true_or,or_true,or_false,false_or,if_true,if_false,cy,co,cw,cv,reduceIte,dK])
   all_goals rfl
 rw[hs]
 exact bi aw b9
 have aw:=ai R
 refine bp<|sg<|?_
 refine L0<|bS (b6 b2 (Ne.symm b1) cd)<|?_
 refine L0<|be (ub (ut o ar (ac (nr a) (ac (ni g.size d) av))) i) (mG c 0 ((aj.mk b false 0).wordV) (((aj.mk b false 0).wordsC 1).wordV) 0 0 0 0 0 0 0 0 nS nS nS nS 0 0 0 0 0 nS) fun dl ci cl=>Pl 1<|nt<|rt<|bP ci (.int .i64 0)<|?_
 have hs:ag aC 0 c b=aL (aQ.mk c 0 ((aj.mk b false 0).wordV) (((aj.mk b false 0).wordsC 1).wordV) 0 0 0 0 0 0 0 0 [] [] [] [] 0 0 0 0 0 []) (bD (aj.mk b false 0) 2000):=by
   unfold ag aC cF cn ck ew kk eX km ji kM d6 dX
   (try simp only[k,q,R,bs,if_true,if_false,decide_true,decide_false,eq_self,true_or,or_true,or_false,false_or,if_true,if_false,cy,co,cw,cv,reduceIte,dK])
   all_goals rfl
 rw[hs]
 exact bt aw ⟨_,_,_,_,_,rfl,aS.nil ..,aS.nil ..,(fun _ _ _=>aS.nil ..),aS.nil ..,aS.nil ..,⟨(b8 (x:=c) (by omega)),(b8 (x:=0) (by omega)),(aD (x:=(aj.mk b false 0).wordV) (by omega)),(aD (x:=((aj.mk b false 0).wordsC 1).wordV) (by omega)),(aD (x:=0) (by omega)),(aD (x:=0) (by omega)),(aD (x:=0) (by omega)),(aD (x:=0) (by omega)),(aD (x:=0) (by omega)),(aD (x:=0) (by omega)),(aD (x:=0) (by omega)),(aD (x:=0) (by omega)),(b8 (x:=0) (by omega)),(b8 (x:=0) (by omega)),(b8 (x:=0) (by omega)),(b8 (x:=0) (by omega)),(b8 (x:=0) (by omega))⟩⟩ (ud b3 cl r)
 have ca:=ak q
 refine sg<|Pl 2<|nt<|cb ((c==5)) (fun z=>?_) (fun z=>?_)
 have cm:=ae z
 refine sg<|Pl 1<|?_
 have cq:RC w _ A cp b a2 j (aj.mk b false 0):=⟨hsl,s,(Nat.le_trans f.size a),⟨0,(ub O l),Nat.zero_le _,rfl⟩,by omega⟩
 refine L0<|Oc<|m3 (d7 cq) fun dm cr ba dn=>Pl 1<|?_
 have T:=nb (au l) lr d
 refine L0<|cj (b6 ba (Ne.symm T) a3) 2 (mG c 0 ((aj.mk b false 0).wordV) 0 0 0 0 0 0 0 0 0 nS nS nS nS 0 0 0 0 0 nS) fun dp cs bb=>ng<|Pl 1<|?_
 have ax:=us ba bb
 have bc:=ut s ax (ac (ni f.size a) (ac (ni (le f.size g.size) d) av))
 refine L0<|Oc<|m3 (d7 (RC.upd cr bb (aa T aA) bc)) fun dq cx bd dr=>Pl 1<|?_
 refine L0<|cj (b6 bd (Ne.symm T) cs) 4 (mG c 0 ((aj.mk b false 0).wordV) 0 (((aj.mk b false 0).wordsC 1).wordV) 0 0 0 0 0 0 0 nS nS nS nS 0 0 0 0 0 nS) fun ds ay bf=>nt<|go<|Pl 2<|L0<|aP ay 4<|Pl 2<|cu 4 [62] 66 ((((((aj.mk b false 0).wordsC 1).wordV)==0)||((((aj.mk b false 0).wordsC 1).wordV)==65280))) (fun K bg=>?_) ?_
 refine bl 62 (((((aj.mk b false 0).wordsC 1).wordV)==0)) (fun U=>?_) (fun U=>?_)
 have cA:=ae U
 exact Pl 4<|ce bg true (by rw[U];rfl)
 have cA:=ak U
 exact Pl 1<|L1<|aP ay 4<|Pl 2<|ce bg ((((aj.mk b false 0).wordsC 1).wordV)==65280) (by rw[U];rfl)
 have aE:=us bd bf
 have bm:=ut bc aE (ac (ni f.size a) (ac (ni (le f.size g.size) d) av))
 refine L0<|Oc<|m2 (b7 ((((((aj.mk b false 0).wordsC 1).wordV)==0)||((((aj.mk b false 0).wordsC 1).wordV)==65280))) 6 (RC.upd cx bf (aa T aA) bm)) fun dt cB cC=>?_
 refine fR cB fun J bo cD=>?_
 refine nl<|bn<|tn<|sg<|Pl 1<|L0<|Oc<|m2 (et cD) fun du aH cE=>nt<|sq<|sg<|Pl 3<|L0<|ez (p:=⟨j,3,none⟩) (v:=.int .i64 J.endC.e) (RC.fld aH)<|?_
 refine Pl 1<|nt<|?_
 have a6:=u1 cC cE im
 have bq:=ud bm a6 (le f.size a)
 refine cb ((J.endC.e != 0)) (fun V=>?_) (fun V=>?_)
 have aI:=az V
 refine sq<|Rg 7 (fun w'=>w'.cell? ⟨j,3,none⟩=some (.int .i64 J.endC.e)) fun dw a7=>?_
 have bu:=RC.upd aH a7 aA (aF.step (RC.u aH) a7)
 refine bj (RC.fld bu) fun W=>Rt 0 W<|Rt 1 W<|Rt 2 W<|Rt 3 W<|Rl 4 W (fun _ hs=>hs)<|?_
 refine R0 5 rfl<|be (ub (ut o (ut ax (u1 aE (aG a6 a7) im) (ac im (ac im av))) (ac (nr a) (ac (ni g.size d) av))) i) mZ fun dx cG bv=>?_
 have bw:=ud bq (uz a7 bv) r
 refine bj (RC.fld (RC.upd bu bv (aa (Ne.symm (nb (au i) lr a)) aA) bw)) fun cH=>Rt 6 cH<|re<|tn<|rt<|tr<|bP cG (.int .i64 J.endC.e)<|?_
 have hs:ag aC 0 c b=aL (aQ.mk c 0 ((aj.mk b false 0).wordV) 0 (((aj.mk b false 0).wordsC 1).wordV) 0 0 0 0 0 0 0 [] [] [] [] 0 0 0 0 0 []) J:=by
   subst bo
   unfold ag aC cF cn ck ew kk eX km ji kM d6 dX
   (try simp only[k,q,z,V,bs,if_true,if_false,decide_true,decide_false,eq_self,true_or,or_true,or_false,false_or,if_true,if_false,cy,co,cw,cv,reduceIte,dK])
   all_goals rfl
 rw[hs]
 exact bi aI bw
 have aI:=ai V
 refine bp<|sg<|?_
 refine L0<|bS (b6 a6 (Ne.symm T) ay)<|?_
 refine L0<|be (ub (ut o (ut ax (u1 aE a6 im) (ac im (ac im av))) (ac (nr a) (ac (ni g.size d) av))) i) (mG c 0 ((aj.mk b false 0).wordV) 0 (((aj.mk b false 0).wordsC 1).wordV) 0 0 0 0 0 0 0 nS nS nS nS 0 0 0 0 0 nS) fun dy cI cJ=>Pl 1<|nt<|rt<|bP cI (.int .i64 0)<|?_
 have hs:ag aC 0 c b=aL (aQ.mk c 0 ((aj.mk b false 0).wordV) 0 (((aj.mk b false 0).wordsC 1).wordV) 0 0 0 0 0 0 0 [] [] [] [] 0 0 0 0 0 []) J:=by
   subst bo
   unfold ag aC cF cn ck ew kk eX km ji kM d6 dX
   (try simp only[k,q,z,V,bs,if_true,if_false,decide_true,decide_false,eq_self,true_or,or_true,or_false,false_or,if_true,if_false,cy,co,cw,cv,reduceIte,dK])
   all_goals rfl
 rw[hs]
 exact bt aI ⟨_,_,_,_,_,rfl,aS.nil ..,aS.nil ..,(fun _ _ _=>aS.nil ..),aS.nil ..,aS.nil ..,⟨(b8 (x:=c) (by omega)),(b8 (x:=0) (by omega)),(aD (x:=(aj.mk b false 0).wordV) (by omega)),(aD (x:=0) (by omega)),(aD (x:=((aj.mk b false 0).wordsC 1).wordV) (by omega)),(aD (x:=0) (by omega)),(aD (x:=0) (by omega)),(aD (x:=0) (by omega)),(aD (x:=0) (by omega)),(aD (x:=0) (by omega)),(aD (x:=0) (by omega)),(aD (x:=0) (by omega)),(b8 (x:=0) (by omega)),(b8 (x:=0) (by omega)),(b8 (x:=0) (by omega)),(b8 (x:=0) (by omega)),(b8 (x:=0) (by omega))⟩⟩ (ud bq cJ r)
 have cm:=ak z
 refine sg<|Pl 2<|nt<|cb ((c==15)) (fun L=>?_) (fun L=>?_)
 have cK:=ae L
 refine sg<|Pl 1<|?_
 have aJ:RC w _ A cp b a2 j (aj.mk b false 0):=⟨hsl,s,(Nat.le_trans f.size a),⟨0,(ub O l),Nat.zero_le _,rfl⟩,by omega⟩
 have F:=nb (au l) lr d
 refine L0<|Oc<|m3 (np (most:=1968) (b8 (by omega)) aJ a3 (Nat.le_trans (le f.size g.size) d) F) fun dz cL cN G=>?_
 have dA:=bT (RC.rng aJ)
 have dB:=bT (c:=(aj.mk b false 0).wordsC 1) (cT (RC.rng aJ) 1)
 refine nt<|sq<|sg<|Pl 2<|nt<|c0<|bp<|sg<|Pl 1<|L0<|Oc<|m3 (ee cL) fun cO bz B dC=>?_
 refine L0<|Oi ((bD (aj.mk b false 0) 1968).byteV)<|Pl 1<|ng<|Pl 3<|?_
 have bB:=b6 B (Ne.symm F) cN
 refine L0<|aP bB 3<|L0<|Oi (((aj.mk b false 0).wordsC 1).wordV)<|L0<|Oc<|m1 (xn (n:=((aj.mk b false 0).wordsC 1).wordV) (w:=cO) (by omega)) fun dD t=>Pl 1<|?_
 refine L0<|Oc<|m2 (b7 ((((bD (aj.mk b false 0) 1968).byteV)==(dN (((aj.mk b false 0).wordsC 1).wordV)))) 5 (RC.upd bz t aA (aF.step (RC.u bz) t))) fun dE cP H=>?_
 refine fR cP fun I bC bE=>?_
 refine nt<|sq<|Rg 12 (fun w'=>w'.cell? ⟨ab,3,none⟩=some (.int .u16 (((aj.mk b false 0).wordsC 1).wordV))) fun dF y=>?_
 have bF:=uz t (aG H y)
 have bG:=b6 bF (Ne.symm F) bB
 refine bj (ah bG rfl) fun X=>Rt 0 X<|Rt 1 X<|Rt 3 X<|Rl 4 X (fun _ hs=>hs)<|Rr 5 X (.int .i64 (((aj.mk b false 0).wordsC 1).wordV)) (fun _ _=>bZ (.int .i64 (IntKind.i64.wrap (((aj.mk b false 0).wordsC 1).wordV))) (by kernel_rfl) (congrArg (Value.int .i64) (i64_in (by omega))))<|?_
 have bH:=RC.upd bE y aA (aF.step (RC.u bE) y)
 refine R0 2 rfl<|Oc<|oT (fC (n:=(bD (aj.mk b false 0) 1968).byteV) (by omega) bH) fun cQ cR dG cS aK C=>?_
 have dH:=Nat.le_trans (aj.bytesR_le I ((bD (aj.mk b false 0) 1968).byteV)) (RC.clen bH)
 have bI:=b6 C (Ne.symm F) bG
 refine bj (ah bI rfl) fun dI=>R0 6 rfl<|Oc (args:=#[.slice cQ ((I.bytesR ((bD (aj.mk b false 0) 1968).byteV)).length) cR,.int .i64 (((aj.mk b false 0).wordsC 1).wordV)])<|di (vf (n:=((aj.mk b false 0).wordsC 1).wordV) (cS _ _ (RC.rd aK)) (by omega) (by omega)) fun bJ bK dJ D dL dM a8=>?_
 have bL:=ub a8 bI
 refine bj (ah bL rfl) fun Y=>Rt 7 Y<|Rt 8 Y<|Rt 9 Y<|Rt 10 Y<|Rt 11 Y<|re<|tn<|sg<|Pl 2<|?_
 refine L0<|Oc<|m2 (b7 ((cz (I.bytesR ((bD (aj.mk b false 0) 1968).byteV)) (((aj.mk b false 0).wordsC 1).wordV)).isSome) 6 (RC.upd aK a8 aA (aF.step (RC.u aK) a8))) fun dO cU bM=>?_
 refine fR cU fun M bN cV=>?_
 refine nt<|go<|Pl 2<|?_
 refine L0<|cj (b6 bM (Ne.symm F) bL) 13 (mG c 0 ((aj.mk b false 0).wordV) (((aj.mk b false 0).wordsC 1).wordV) 0 0 0 0 0 0 0 0 nS (.slice bJ (((cz (I.bytesR ((bD (aj.mk b false 0) 1968).byteV)) (((aj.mk b false 0).wordsC 1).wordV)).getD []).length) bK) nS nS 0 0 0 0 0 nS) fun dP cW bQ=>nl<|bn<|tn<|sg<|Pl 1<|?_
 have aM:=us bM bQ
 have aN:=ut G (ui B (ui bF (ui C (uz a8 aM)))) (ac im (ac im av))
 have bR:=ut s aN (ac (ni f.size a) (ac (ni (le f.size g.size) d) av))
 refine L0<|Oc<|m2 (et (RC.upd cV bQ (aa F aA) bR)) fun dQ aO Z=>nt<|sq<|sg<|Pl 3<|L0<|ez (p:=⟨j,3,none⟩) (v:=.int .i64 M.endC.e) (RC.fld aO)<|Pl 1<|nt<|?_
 have bU:=ud bR Z (le f.size a)
 refine cb ((M.endC.e != 0)) (fun a0=>?_) (fun a0=>?_)
 have aR:=az a0
 refine sq<|Rg 7 (fun w'=>w'.cell? ⟨j,3,none⟩=some (.int .i64 M.endC.e)) fun dR a9=>?_
 have bV:=RC.upd aO a9 aA (aF.step (RC.u aO) a9)
 refine bj (RC.fld bV) fun a1=>Rt 0 a1<|Rt 1 a1<|Rt 2 a1<|Rt 3 a1<|Rl 4 a1 (fun _ hs=>hs)<|?_
 have bW:=aG Z a9
 refine R0 5 rfl<|be (ub (ut o (u1 aN bW im) (ac (nr a) (ac (ni g.size d) av))) i) mZ fun dS cX aT=>?_
 have bX:=ud bU (uz a9 aT) r
 refine bj (RC.fld (RC.upd bV aT (aa (Ne.symm (nb (au i) lr a)) aA) bX)) fun cY=>Rt 6 cY<|re<|tn<|rt<|tr<|bP cX (.int .i64 M.endC.e)<|?_
 have dT:=aq D (ut (aF.mono (S':=[j,ab,aU]) aM (ac im (ac im av))) (us bW aT) (ac im (ac im av))) (fun x hx=>(aa (fun e=>(aB (au l) (le (le (le (le (le (le (le N.size E.size) G.size) B.size) t.size) H.size) y.size) C.size) D) (e▸hx)) (aa (fun e=>(aB (au ad) (le (le (le (le (le (le E.size G.size) B.size) t.size) H.size) y.size) C.size) D) (e▸hx)) (aa (fun e=>(aB (au i) (le (le (le (le (le (le (le (le g.size N.size) E.size) G.size) B.size) t.size) H.size) y.size) C.size) D) (e▸hx)) aA)))) (fun _ _ h=>h)
 have hs:ag aC 0 c b=aL (aQ.mk c 0 ((aj.mk b false 0).wordV) (((aj.mk b false 0).wordsC 1).wordV) 0 0 0 0 0 0 0 0 [] ((cz (I.bytesR ((bD (aj.mk b false 0) 1968).byteV)) (((aj.mk b false 0).wordsC 1).wordV)).getD []) [] [] 0 0 0 0 0 []) M:=by
   subst bN bC
   unfold ag aC cF cn ck ew kk eX km ji kM d6 dX
   (try simp only[k,q,z,L,a0,bs,if_true,if_false,decide_true,decide_false,eq_self,true_or,or_true,or_false,false_or,if_true,if_false,cy,co,cw,cv,reduceIte,dK])
   all_goals rfl
 rw[hs]
 exact bi aR bX
 have aR:=ai a0
 refine bp<|sg<|?_
 refine L0<|bS (b6 Z (Ne.symm F) cW)<|?_
 refine L0<|be (ub (ut o (u1 aN Z im) (ac (nr a) (ac (ni g.size d) av))) i) (mG c 0 ((aj.mk b false 0).wordV) (((aj.mk b false 0).wordsC 1).wordV) 0 0 0 0 0 0 0 0 nS (.slice bJ (((cz (I.bytesR ((bD (aj.mk b false 0) 1968).byteV)) (((aj.mk b false 0).wordsC 1).wordV)).getD []).length) bK) nS nS 0 0 0 0 0 nS) fun dU cZ bY=>Pl 1<|nt<|rt<|bP cZ (.int .i64 0)<|?_
 have hs:ag aC 0 c b=aL (aQ.mk c 0 ((aj.mk b false 0).wordV) (((aj.mk b false 0).wordsC 1).wordV) 0 0 0 0 0 0 0 0 [] ((cz (I.bytesR ((bD (aj.mk b false 0) 1968).byteV)) (((aj.mk b false 0).wordsC 1).wordV)).getD []) [] [] 0 0 0 0 0 []) M:=by
   subst bN bC
   unfold ag aC cF cn ck ew kk eX km ji kM d6 dX
   (try simp only[k,q,z,L,a0,bs,if_true,if_false,decide_true,decide_false,eq_self,true_or,or_true,or_false,false_or,if_true,if_false,cy,co,cw,cv,reduceIte,dK])
   all_goals rfl
 rw[hs]
 exact bt aR ⟨_,_,_,_,_,rfl,aS.nil ..,((aq D (ut (aF.mono (S':=[j,ab,aU]) aM (ac im (ac im av))) (us Z bY) (ac im (ac im av))) (fun x hx=>(aa (fun e=>(aB (au l) (le (le (le (le (le (le (le N.size E.size) G.size) B.size) t.size) H.size) y.size) C.size) D) (e▸hx)) (aa (fun e=>(aB (au ad) (le (le (le (le (le (le E.size G.size) B.size) t.size) H.size) y.size) C.size) D) (e▸hx)) (aa (fun e=>(aB (au i) (le (le (le (le (le (le (le (le g.size N.size) E.size) G.size) B.size) t.size) H.size) y.size) C.size) D) (e▸hx)) aA)))) (fun _ _ h=>h))).rd,(fun _ _ _=>aS.nil ..),aS.nil ..,aS.nil ..,⟨(b8 (x:=c) (by omega)),(b8 (x:=0) (by omega)),(aD (x:=(aj.mk b false 0).wordV) (by omega)),(aD (x:=((aj.mk b false 0).wordsC 1).wordV) (by omega)),(aD (x:=0) (by omega)),(aD (x:=0) (by omega)),(aD (x:=0) (by omega)),(aD (x:=0) (by omega)),(aD (x:=0) (by omega)),(aD (x:=0) (by omega)),(aD (x:=0) (by omega)),(aD (x:=0) (by omega)),(b8 (x:=0) (by omega)),(b8 (x:=0) (by omega)),(b8 (x:=0) (by omega)),(b8 (x:=0) (by omega)),(b8 (x:=0) (by omega))⟩⟩ (ud bU bY r)
 have cK:=ak L
 refine sg<|Pl 1<|?_
 refine L0<|be (ub o i) mZ fun dV d0 d1=>Pl 1<|nt<|rt<|br<|tr<|bP d0 (.int .i64 4)<|?_
 have hs:ag aC 0 c b=(aQ.zero,4):=by
   unfold ag aC cF cn ck ew kk eX km ji kM d6 dX
   (try simp only[k,q,z,L,bs,if_true,if_false,decide_true,decide_false,eq_self,true_or,or_true,or_false,false_or,if_true,if_false,cy,co,cw,cv,reduceIte,dK])
   all_goals rfl
 rw[hs]
 exact bA (ud s d1 r)
theorem lm{m:Md}{A:Option Addr}{cp:Nat}{b:List Int}{w:World}{c:Int}(hcode:B8 c)(hsl:bh m w (.slice A b.length cp) b)(hb:b.length≤1048576) :
    Calls Tryz.prog 93 #[.int .i64 1,.int .u8 c,.slice A b.length cp] w (cM (.slice A b.length cp) b (ag aC 1 c b) w):=by
 obtain⟨hcode1,hcode2⟩:=hcode
 have hln:(b.length:Int)≤1048576:=by omega
 refine en 113 Tryz.func93 rfl<|sg<|L0<|bO mZ fun cN cO q h d=>Pl 1<|nt<|sq<|sg<|Pl 6<|nt<|c0<|?_
 refine bp<|sg<|Pl 2<|L0<|dv #[.slice A b.length cp,.int .i64 0,.bool false,.int .i64 0] fun j cP a s g=>Pl 1<|ng<|Pl 2<|L0<|bO mZ fun cQ cR f bu bv=>L0<|be bu (mC c) fun P Q bw=>?_
 refine nt<|sq<|sg<|Pl 1<|nt<|bk<|sq<|sg<|Pl 2<|nl<|?_
 refine tn<|?_
 have B:=ud bv bw f
 have l:=aG g B
 have r:=aG d l
 refine cb ((c==1)) (fun i=>?_) (fun i=>?_)
 have bz:=ae i
 refine bp<|ct i<|sq<|sg<|Pl 2<|nt<|c0<|bp<|sg<|?_
 refine Pl 1<|?_
 have bB:RC w _ A cp b P j (aj.mk b false 0):=⟨hsl,r,(Nat.le_trans d.size a),⟨0,(ub B s),Nat.zero_le _,rfl⟩,by omega⟩
 refine L0<|Oc<|m3 (ee bB) fun cS bC bE cU=>L0<|Oi ((aj.mk b false 0).byteV)<|Pl 1<|ng<|Pl 4<|cu 3 [41] 44 (((decide (0<((aj.mk b false 0).byteV)))&&(decide (((aj.mk b false 0).byteV)≤250)))) (fun K am=>?_) ?_
 refine bl 41 ((decide (0<((aj.mk b false 0).byteV)))) (fun C=>?_) (fun C=>?_)
 have bF:=of_decide_eq_true C
 exact Pl 3<|ce am (decide (((aj.mk b false 0).byteV)≤250)) (by rw[C];rfl)
 have bF:=of_decide_eq_false C
 exact Pl 3<|ce am false (by rw[C];rfl)
 refine L0<|Oc<|m2 (b7 (((decide (0<((aj.mk b false 0).byteV)))&&(decide (((aj.mk b false 0).byteV)≤250)))) 5 bC) fun cV bG bH=>?_
 refine fR bG fun x43 an ao=>?_
 refine nt<|go<|Pl 2<|L0<|Oc<|oT (fC (n:=(aj.mk b false 0).byteV) (by omega) ao) fun ap aq cW bI bJ bK=>?_
 have cX:=Nat.le_trans (aj.bytesR_le x43 ((aj.mk b false 0).byteV)) (RC.clen ao)
 refine Pl 1<|?_
 have ar:=u1 bE (u1 bH bK im) im
 have Y:=nb (au s) lr f
 refine L0<|cj (b6 ar (Ne.symm Y) Q) 14 (mG c 0 0 0 0 0 0 0 0 0 0 0 nS nS (.slice ap ((x43.bytesR ((aj.mk b false 0).byteV)).length) aq) nS 0 0 0 0 0 nS) fun cY bL aw=>nl<|bn<|tn<|sg<|Pl 1<|?_
 have Z:=us ar aw
 have ax:=ut r Z (ac (ni d.size a) (ac (ni (le d.size g.size) f) av))
 refine L0<|Oc<|m2 (et (RC.upd bJ aw (aa Y aA) ax)) fun cZ a0 R=>nt<|sq<|sg<|Pl 3<|L0<|ez (p:=⟨j,3,none⟩) (v:=.int .i64 (((x43.bytesC ((aj.mk b false 0).byteV)).endC).e)) (RC.fld a0)<|Pl 1<|nt<|?_
 have ay:=ud ax R (le d.size a)
 refine cb (((((x43.bytesC ((aj.mk b false 0).byteV)).endC).e)!=0)) (fun D=>?_) (fun D=>?_)
 have a1:=az D
 refine sq<|Rg 7 (fun w'=>w'.cell? ⟨j,3,none⟩=some (.int .i64 (((x43.bytesC ((aj.mk b false 0).byteV)).endC).e))) fun d0 S=>?_
 have aB:=RC.upd a0 S aA (aF.step (RC.u a0) S)
 refine bj (RC.fld aB) fun E=>Rt 0 E<|Rt 1 E<|Rt 2 E<|Rt 3 E<|Rl 4 E (fun _ hs=>hs)<|?_
 refine R0 5 rfl<|be (ub (ut l (u1 Z (aG R S) im) (ac (nr a) (ac (ni g.size f) av))) h) mZ fun d1 bM aE=>?_
 have aH:=ud ay (uz S aE) q
 refine bj (RC.fld (RC.upd aB aE (aa (Ne.symm (nb (au h) lr a)) aA) aH)) fun bN=>Rt 6 bN<|re<|tn<|rt<|tr<|bP bM (.int .i64 (((x43.bytesC ((aj.mk b false 0).byteV)).endC).e))<|?_
 have hs:ag aC 1 c b=aL (aQ.mk c 0 0 0 0 0 0 0 0 0 0 0 [] [] (x43.bytesR ((aj.mk b false 0).byteV)) [] 0 0 0 0 0 []) (x43.bytesC ((aj.mk b false 0).byteV)):=by
   subst an
   unfold ag aC cF cn ck ew kk eX km ji kM d6 dX
   (try simp only[i,D,bs,if_true,if_false,decide_true,decide_false,eq_self,true_or,or_true,or_false,false_or,if_true,if_false,cy,co,cw,cv,reduceIte,dK])
   all_goals rfl
 rw[hs]
 exact bi a1 aH
 have a1:=ai D
 refine bp<|sg<|?_
 refine L0<|bS (b6 R (Ne.symm Y) bL)<|?_
 refine L0<|be (ub (ut l (u1 Z R im) (ac (nr a) (ac (ni g.size f) av))) h) (mG c 0 0 0 0 0 0 0 0 0 0 0 nS nS (.slice ap ((x43.bytesR ((aj.mk b false 0).byteV)).length) aq) nS 0 0 0 0 0 nS) fun d2 bQ bR=>Pl 1<|nt<|rt<|bP bQ (.int .i64 0)<|?_
 have hs:ag aC 1 c b=aL (aQ.mk c 0 0 0 0 0 0 0 0 0 0 0 [] [] (x43.bytesR ((aj.mk b false 0).byteV)) [] 0 0 0 0 0 []) (x43.bytesC ((aj.mk b false 0).byteV)):=by
   subst an
   unfold ag aC cF cn ck ew kk eX km ji kM d6 dX
   (try simp only[i,D,bs,if_true,if_false,decide_true,decide_false,eq_self,true_or,or_true,or_false,false_or,if_true,if_false,cy,co,cw,cv,reduceIte,dK])
   all_goals rfl
 rw[hs]
 exact bt a1 ⟨_,_,_,_,_,rfl,aS.nil ..,aS.nil ..,bI,aS.nil ..,aS.nil ..,⟨(b8 (x:=c) (by omega)),(b8 (x:=0) (by omega)),(aD (x:=0) (by omega)),(aD (x:=0) (by omega)),(aD (x:=0) (by omega)),(aD (x:=0) (by omega)),(aD (x:=0) (by omega)),(aD (x:=0) (by omega)),(aD (x:=0) (by omega)),(aD (x:=0) (by omega)),(aD (x:=0) (by omega)),(aD (x:=0) (by omega)),(b8 (x:=0) (by omega)),(b8 (x:=0) (by omega)),(b8 (x:=0) (by omega)),(b8 (x:=0) (by omega)),(b8 (x:=0) (by omega))⟩⟩ (ud ay bR q)
 have bz:=ak i
 refine go<|Pl 2<|nt<|cb ((c==2)) (fun o=>?_) (fun o=>?_)
 have bU:=ae o
 refine sq<|sg<|Pl 2<|nt<|c0<|bp<|sg<|Pl 1<|?_
 have bV:RC w _ A cp b P j (aj.mk b false 0):=⟨hsl,r,(Nat.le_trans d.size a),⟨0,(ub B s),Nat.zero_le _,rfl⟩,by omega⟩
 refine L0<|Oc<|m3 (ee bV) fun d3 bW bX d4=>L0<|Oi ((aj.mk b false 0).byteV)<|Pl 1<|ng<|Pl 4<|cu 3 [41] 44 (((decide (0<((aj.mk b false 0).byteV)))&&(decide (((aj.mk b false 0).byteV)≤250)))) (fun K aI=>?_) ?_
 refine bl 41 ((decide (0<((aj.mk b false 0).byteV)))) (fun F=>?_) (fun F=>?_)
 have bY:=of_decide_eq_true F
 exact Pl 3<|ce aI (decide (((aj.mk b false 0).byteV)≤250)) (by rw[F];rfl)
 have bY:=of_decide_eq_false F
 exact Pl 3<|ce aI false (by rw[F];rfl)
 refine L0<|Oc<|m2 (b7 (((decide (0<((aj.mk b false 0).byteV)))&&(decide (((aj.mk b false 0).byteV)≤250)))) 5 bW) fun d5 bZ c2=>?_
 refine fR bZ fun k aJ aK=>?_
 refine nt<|go<|Pl 2<|L0<|Oc<|oT (fC (n:=(aj.mk b false 0).byteV) (by omega) aK) fun aM aN d8 c3 c4 c5=>?_
 have d9:=Nat.le_trans (aj.bytesR_le k ((aj.mk b false 0).byteV)) (RC.clen aK)
 refine Pl 1<|?_
 have aO:=u1 bX (u1 c2 c5 im) im
 have a2:=nb (au s) lr f
 refine L0<|cj (b6 aO (Ne.symm a2) Q) 14 (mG c 0 0 0 0 0 0 0 0 0 0 0 nS nS (.slice aM ((k.bytesR ((aj.mk b false 0).byteV)).length) aN) nS 0 0 0 0 0 nS) fun da c6 aR=>nl<|bn<|tn<|sg<|Pl 1<|?_
 have a3:=us aO aR
 have aT:=ut r a3 (ac (ni d.size a) (ac (ni (le d.size g.size) f) av))
 refine L0<|Oc<|m2 (et (RC.upd c4 aR (aa a2 aA) aT)) fun db a4 T=>nt<|sq<|sg<|Pl 3<|L0<|ez (p:=⟨j,3,none⟩) (v:=.int .i64 (((k.bytesC ((aj.mk b false 0).byteV)).endC).e)) (RC.fld a4)<|Pl 1<|nt<|?_
 have aU:=ud aT T (le d.size a)
 refine cb (((((k.bytesC ((aj.mk b false 0).byteV)).endC).e)!=0)) (fun G=>?_) (fun G=>?_)
 have a5:=az G
 refine sq<|Rg 7 (fun w'=>w'.cell? ⟨j,3,none⟩=some (.int .i64 (((k.bytesC ((aj.mk b false 0).byteV)).endC).e))) fun dc U=>?_
 have aV:=RC.upd a4 U aA (aF.step (RC.u a4) U)
 refine bj (RC.fld aV) fun H=>Rt 0 H<|Rt 1 H<|Rt 2 H<|Rt 3 H<|Rl 4 H (fun _ hs=>hs)<|?_
 refine R0 5 rfl<|be (ub (ut l (u1 a3 (aG T U) im) (ac (nr a) (ac (ni g.size f) av))) h) mZ fun dd c7 aW=>?_
 have aX:=ud aU (uz U aW) q
 refine bj (RC.fld (RC.upd aV aW (aa (Ne.symm (nb (au h) lr a)) aA) aX)) fun c8=>Rt 6 c8<|re<|tn<|rt<|tr<|bP c7 (.int .i64 (((k.bytesC ((aj.mk b false 0).byteV)).endC).e))<|?_
 have hs:ag aC 1 c b=aL (aQ.mk c 0 0 0 0 0 0 0 0 0 0 0 [] [] (k.bytesR ((aj.mk b false 0).byteV)) [] 0 0 0 0 0 []) (k.bytesC ((aj.mk b false 0).byteV)):=by
   subst aJ
   unfold ag aC cF cn ck ew kk eX km ji kM d6 dX
   (try simp only[i,o,G,bs,if_true,if_false,decide_true,decide_false,eq_self,true_or,or_true,or_false,false_or,if_true,if_false,cy,co,cw,cv,reduceIte,dK])
   all_goals rfl
 rw[hs]
 exact bi a5 aX
 have a5:=ai G
 refine bp<|sg<|?_
 refine L0<|bS (b6 T (Ne.symm a2) c6)<|?_
 refine L0<|be (ub (ut l (u1 a3 T im) (ac (nr a) (ac (ni g.size f) av))) h) (mG c 0 0 0 0 0 0 0 0 0 0 0 nS nS (.slice aM ((k.bytesR ((aj.mk b false 0).byteV)).length) aN) nS 0 0 0 0 0 nS) fun de c9 ca=>Pl 1<|nt<|rt<|bP c9 (.int .i64 0)<|?_
 have hs:ag aC 1 c b=aL (aQ.mk c 0 0 0 0 0 0 0 0 0 0 0 [] [] (k.bytesR ((aj.mk b false 0).byteV)) [] 0 0 0 0 0 []) (k.bytesC ((aj.mk b false 0).byteV)):=by
   subst aJ
   unfold ag aC cF cn ck ew kk eX km ji kM d6 dX
   (try simp only[i,o,G,bs,if_true,if_false,decide_true,decide_false,eq_self,true_or,or_true,or_false,false_or,if_true,if_false,cy,co,cw,cv,reduceIte,dK])
   all_goals rfl
 rw[hs]
 exact bt a5 ⟨_,_,_,_,_,rfl,aS.nil ..,aS.nil ..,c3,aS.nil ..,aS.nil ..,⟨(b8 (x:=c) (by omega)),(b8 (x:=0) (by omega)),(aD (x:=0) (by omega)),(aD (x:=0) (by omega)),(aD (x:=0) (by omega)),(aD (x:=0) (by omega)),(aD (x:=0) (by omega)),(aD (x:=0) (by omega)),(aD (x:=0) (by omega)),(aD (x:=0) (by omega)),(aD (x:=0) (by omega)),(aD (x:=0) (by omega)),(b8 (x:=0) (by omega)),(b8 (x:=0) (by omega)),(b8 (x:=0) (by omega)),(b8 (x:=0) (by omega)),(b8 (x:=0) (by omega))⟩⟩ (ud aU ca q)
 have bU:=ak o
 refine sg<|Pl 2<|nt<|cb ((c==5)) (fun t=>?_) (fun t=>?_)
 have cc:=ae t
 refine sg<|Pl 1<|?_
 have cd:RC w _ A cp b P j (aj.mk b false 0):=⟨hsl,r,(Nat.le_trans d.size a),⟨0,(ub B s),Nat.zero_le _,rfl⟩,by omega⟩
 refine L0<|Oc<|m3 (d7 cd) fun df cf aY dg=>Pl 1<|?_
 have I:=nb (au s) lr f
 refine L0<|cj (b6 aY (Ne.symm I) Q) 2 (mG c 0 ((aj.mk b false 0).wordV) 0 0 0 0 0 0 0 0 0 nS nS nS nS 0 0 0 0 0 nS) fun dh cg aZ=>ng<|Pl 1<|?_
 have a6:=us aY aZ
 have b0:=ut r a6 (ac (ni d.size a) (ac (ni (le d.size g.size) f) av))
 refine L0<|Oc<|m3 (d7 (RC.upd cf aZ (aa I aA) b0)) fun di ch b1 dj=>Pl 1<|?_
 refine L0<|cj (b6 b1 (Ne.symm I) cg) 4 (mG c 0 ((aj.mk b false 0).wordV) 0 (((aj.mk b false 0).wordsC 1).wordV) 0 0 0 0 0 0 0 nS nS nS nS 0 0 0 0 0 nS) fun dk a7 b2=>nt<|go<|Pl 2<|L0<|aP a7 4<|Pl 2<|cu 4 [62] 66 ((((((aj.mk b false 0).wordsC 1).wordV)==0)||((((aj.mk b false 0).wordsC 1).wordV)==65280))) (fun K b3=>?_) ?_
 refine bl 62 (((((aj.mk b false 0).wordsC 1).wordV)==0)) (fun J=>?_) (fun J=>?_)
 have ci:=ae J
 exact Pl 4<|ce b3 true (by rw[J];rfl)
 have ci:=ak J
 exact Pl 1<|L1<|aP a7 4<|Pl 2<|ce b3 ((((aj.mk b false 0).wordsC 1).wordV)==65280) (by rw[J];rfl)
 have a8:=us b1 b2
 have b4:=ut b0 a8 (ac (ni d.size a) (ac (ni (le d.size g.size) f) av))
 refine L0<|Oc<|m2 (b7 ((((((aj.mk b false 0).wordsC 1).wordV)==0)||((((aj.mk b false 0).wordsC 1).wordV)==65280))) 6 (RC.upd ch b2 (aa I aA) b4)) fun dl cl cm=>?_
 refine fR cl fun y b5 cq=>?_
 refine nl<|bn<|tn<|sg<|Pl 1<|L0<|Oc<|m2 (et cq) fun dm a9 cr=>nt<|sq<|sg<|Pl 3<|L0<|ez (p:=⟨j,3,none⟩) (v:=.int .i64 y.endC.e) (RC.fld a9)<|?_
 refine Pl 1<|nt<|?_
 have V:=u1 cm cr im
 have b9:=ud b4 V (le d.size a)
 refine cb ((y.endC.e != 0)) (fun L=>?_) (fun L=>?_)
 have ab:=az L
 refine sq<|Rg 7 (fun w'=>w'.cell? ⟨j,3,none⟩=some (.int .i64 y.endC.e)) fun dn W=>?_
 have ba:=RC.upd a9 W aA (aF.step (RC.u a9) W)
 refine bj (RC.fld ba) fun M=>Rt 0 M<|Rt 1 M<|Rt 2 M<|Rt 3 M<|Rl 4 M (fun _ hs=>hs)<|?_
 refine R0 5 rfl<|be (ub (ut l (ut a6 (u1 a8 (aG V W) im) (ac im (ac im av))) (ac (nr a) (ac (ni g.size f) av))) h) mZ fun dp cs bb=>?_
 have bc:=ud b9 (uz W bb) q
 refine bj (RC.fld (RC.upd ba bb (aa (Ne.symm (nb (au h) lr a)) aA) bc)) fun cx=>Rt 6 cx<|re<|tn<|rt<|tr<|bP cs (.int .i64 y.endC.e)<|?_
 have hs:ag aC 1 c b=aL (aQ.mk c 0 ((aj.mk b false 0).wordV) 0 (((aj.mk b false 0).wordsC 1).wordV) 0 0 0 0 0 0 0 [] [] [] [] 0 0 0 0 0 []) y:=by
   subst b5
   unfold ag aC cF cn ck ew kk eX km ji kM d6 dX
   (try simp only[i,o,t,L,bs,if_true,if_false,decide_true,decide_false,eq_self,true_or,or_true,or_false,false_or,if_true,if_false,cy,co,cw,cv,reduceIte,dK])
   all_goals rfl
 rw[hs]
 exact bi ab bc
 have ab:=ai L
 refine bp<|sg<|?_
 refine L0<|bS (b6 V (Ne.symm I) a7)<|?_
 refine L0<|be (ub (ut l (ut a6 (u1 a8 V im) (ac im (ac im av))) (ac (nr a) (ac (ni g.size f) av))) h) (mG c 0 ((aj.mk b false 0).wordV) 0 (((aj.mk b false 0).wordsC 1).wordV) 0 0 0 0 0 0 0 nS nS nS nS 0 0 0 0 0 nS) fun dq cz cA=>Pl 1<|nt<|rt<|bP cz (.int .i64 0)<|?_
 have hs:ag aC 1 c b=aL (aQ.mk c 0 ((aj.mk b false 0).wordV) 0 (((aj.mk b false 0).wordsC 1).wordV) 0 0 0 0 0 0 0 [] [] [] [] 0 0 0 0 0 []) y:=by
   subst b5
   unfold ag aC cF cn ck ew kk eX km ji kM d6 dX
   (try simp only[i,o,t,L,bs,if_true,if_false,decide_true,decide_false,eq_self,true_or,or_true,or_false,false_or,if_true,if_false,cy,co,cw,cv,reduceIte,dK])
   all_goals rfl
 rw[hs]
 exact bt ab ⟨_,_,_,_,_,rfl,aS.nil ..,aS.nil ..,(fun _ _ _=>aS.nil ..),aS.nil ..,aS.nil ..,⟨(b8 (x:=c) (by omega)),(b8 (x:=0) (by omega)),(aD (x:=(aj.mk b false 0).wordV) (by omega)),(aD (x:=0) (by omega)),(aD (x:=((aj.mk b false 0).wordsC 1).wordV) (by omega)),(aD (x:=0) (by omega)),(aD (x:=0) (by omega)),(aD (x:=0) (by omega)),(aD (x:=0) (by omega)),(aD (x:=0) (by omega)),(aD (x:=0) (by omega)),(aD (x:=0) (by omega)),(b8 (x:=0) (by omega)),(b8 (x:=0) (by omega)),(b8 (x:=0) (by omega)),(b8 (x:=0) (by omega)),(b8 (x:=0) (by omega))⟩⟩ (ud b9 cA q)
 have cc:=ak t
 refine sg<|Pl 2<|nt<|cb ((c==15)) (fun z=>?_) (fun z=>?_)
 have cB:=ae z
 refine sg<|Pl 1<|?_
 have ad:RC w _ A cp b P j (aj.mk b false 0):=⟨hsl,r,(Nat.le_trans d.size a),⟨0,(ub B s),Nat.zero_le _,rfl⟩,by omega⟩
 have bd:=nb (au s) lr f
 refine L0<|Oc<|m3 (np (most:=1968) (b8 (by omega)) ad Q (Nat.le_trans (le d.size g.size) f) bd) fun dr cC cD cE=>?_
 have ds:=bT (RC.rng ad)
 have dt:=bT (c:=(aj.mk b false 0).wordsC 1) (cT (RC.rng ad) 1)
 refine nt<|sq<|sg<|Pl 2<|nt<|c1<|xt<|tx<|bx<|tn<|sq<|?_
 refine go<|Pl 1<|L0<|Oc<|m2 (et cC) fun du af bf=>nt<|sq<|sg<|Pl 3<|L0<|ez (p:=⟨j,3,none⟩) (v:=.int .i64 (((bD (aj.mk b false 0) 1968).endC).e)) (RC.fld af)<|Pl 1<|nt<|?_
 have ah:=u1 cE bf im
 have bg:=ut r ah (ac (ni d.size a) (ac (ni (le d.size g.size) f) av))
 refine cb (((((bD (aj.mk b false 0) 1968).endC).e)!=0)) (fun N=>?_) (fun N=>?_)
 have al:=az N
 refine sq<|Rg 7 (fun w'=>w'.cell? ⟨j,3,none⟩=some (.int .i64 (((bD (aj.mk b false 0) 1968).endC).e))) fun dw X=>?_
 have bm:=RC.upd af X aA (aF.step (RC.u af) X)
 refine bj (RC.fld bm) fun O=>Rt 0 O<|Rt 1 O<|Rt 2 O<|Rt 3 O<|Rl 4 O (fun _ hs=>hs)<|?_
 refine R0 5 rfl<|be (ub (ut l (aG ah X) (ac (nr a) (ac (ni g.size f) av))) h) mZ fun dx cG bo=>?_
 have bq:=ud bg (uz X bo) q
 refine bj (RC.fld (RC.upd bm bo (aa (Ne.symm (nb (au h) lr a)) aA) bq)) fun cH=>Rt 6 cH<|re<|tn<|rt<|tr<|bP cG (.int .i64 (((bD (aj.mk b false 0) 1968).endC).e))<|?_
 have hs:ag aC 1 c b=aL (aQ.mk c 0 ((aj.mk b false 0).wordV) (((aj.mk b false 0).wordsC 1).wordV) 0 0 0 0 0 0 0 0 [] [] [] [] 0 0 0 0 0 []) (bD (aj.mk b false 0) 1968):=by
   unfold ag aC cF cn ck ew kk eX km ji kM d6 dX
   (try simp only[i,o,t,z,N,bs,if_true,if_false,decide_true,decide_false,eq_self,true_or,or_true,or_false,false_or,if_true,if_false,cy,co,cw,cv,reduceIte,dK])
   all_goals rfl
 rw[hs]
 exact bi al bq
 have al:=ai N
 refine bp<|sg<|?_
 refine L0<|bS (b6 bf (Ne.symm bd) cD)<|?_
 refine L0<|be (ub (ut l ah (ac (nr a) (ac (ni g.size f) av))) h) (mG c 0 ((aj.mk b false 0).wordV) (((aj.mk b false 0).wordsC 1).wordV) 0 0 0 0 0 0 0 0 nS nS nS nS 0 0 0 0 0 nS) fun dy cI cJ=>Pl 1<|nt<|rt<|bP cI (.int .i64 0)<|?_
 have hs:ag aC 1 c b=aL (aQ.mk c 0 ((aj.mk b false 0).wordV) (((aj.mk b false 0).wordsC 1).wordV) 0 0 0 0 0 0 0 0 [] [] [] [] 0 0 0 0 0 []) (bD (aj.mk b false 0) 1968):=by
   unfold ag aC cF cn ck ew kk eX km ji kM d6 dX
   (try simp only[i,o,t,z,N,bs,if_true,if_false,decide_true,decide_false,eq_self,true_or,or_true,or_false,false_or,if_true,if_false,cy,co,cw,cv,reduceIte,dK])
   all_goals rfl
 rw[hs]
 exact bt al ⟨_,_,_,_,_,rfl,aS.nil ..,aS.nil ..,(fun _ _ _=>aS.nil ..),aS.nil ..,aS.nil ..,⟨(b8 (x:=c) (by omega)),(b8 (x:=0) (by omega)),(aD (x:=(aj.mk b false 0).wordV) (by omega)),(aD (x:=((aj.mk b false 0).wordsC 1).wordV) (by omega)),(aD (x:=0) (by omega)),(aD (x:=0) (by omega)),(aD (x:=0) (by omega)),(aD (x:=0) (by omega)),(aD (x:=0) (by omega)),(aD (x:=0) (by omega)),(aD (x:=0) (by omega)),(aD (x:=0) (by omega)),(b8 (x:=0) (by omega)),(b8 (x:=0) (by omega)),(b8 (x:=0) (by omega)),(b8 (x:=0) (by omega)),(b8 (x:=0) (by omega))⟩⟩ (ud bg cJ q)
 have cB:=ak z
 refine sg<|Pl 1<|?_
 refine L0<|be (ub l h) mZ fun dz cK cL=>Pl 1<|nt<|rt<|br<|tr<|bP cK (.int .i64 4)<|?_
 have hs:ag aC 1 c b=(aQ.zero,4):=by
   unfold ag aC cF cn ck ew kk eX km ji kM d6 dX
   (try simp only[i,o,t,z,bs,if_true,if_false,decide_true,decide_false,eq_self,true_or,or_true,or_false,false_or,if_true,if_false,cy,co,cw,cv,reduceIte,dK])
   all_goals rfl
 rw[hs]
 exact bA (ud r cL q)
theorem l6{m:Md}{A:Option Addr}{cp:Nat}{b:List Int}{w:World}{dir c:Int}(hcode:B8 c)(hsl:bh m w (.slice A b.length cp) b)(hb:b.length≤1048576)(hd:¬ (dir=0∨dir=1)) :
    Calls Tryz.prog 93 #[.int .i64 dir,.int .u8 c,.slice A b.length cp] w (cM (.slice A b.length cp) b (ag aC dir c b) w):=by
 obtain⟨hcode1,hcode2⟩:=hcode
 have hln:(b.length:Int)≤1048576:=by omega
 have e0:(dir != 0)=true:=by simp;omega
 have e1:(dir != 1)=true:=by simp;omega
 refine en 113 Tryz.func93 rfl<|sg<|L0<|bO mZ fun g h a d e=>Pl 1<|nt<|sq<|sg<|Pl 3<|sy 16 e0<|Pl 3<|nl<|?_
 refine tn<|ct e1<|sg<|Pl 1<|L0<|be d mZ fun i dB f=>Pl 1<|nt<|rt<|tr<|bP dB (.int .i64 1)<|?_
 have hs:ag aC dir c b=(aQ.zero,1):=by
   unfold ag aC cF cn ck ew kk eX km ji kM d6 dX
   (try simp only[e0,e1,bs,if_true,if_false,decide_true,decide_false,eq_self,true_or,or_true,or_false,false_or,if_true,if_false,cy,co,cw,cv,reduceIte,hd,dK])
   all_goals rfl
 rw[hs]
 exact bA (ud e f a)
open Go.RowKit
theorem i8{C:aj}(h:eN C){b:Bool}{x:Int}:eN (C.need b x):=fun y hy=>h y (by rwa [jj] at hy)
theorem ie{C:aj}(h:eN C){n:Int}:eN (C.bytesC n):=gQ h n
theorem mr{C:aj}(h:eN C){n:Int}:eN (C.wordsC n):=cT h n
theorem v4(C:aj)(x:Int) : (C.bytesC 1).need (!(C.bytesC 1).sh) x=C.bytesC 1:=by
  by_cases hf:C.fails 1=true
  · exact ek (fh hf)
  · have h:(C.bytesC 1).sh=false:=by
      unfold aj.bytesC
      rw[if_neg hf]
      unfold aj.fails at hf
      simp only[Bool.or_eq_true,decide_eq_true_eq,not_or] at hf
      show C.sh=false
      simpa using hf.1.1
    rw[h]
    unfold aj.need
    rw[if_neg (by rintro⟨_,h⟩;cases h)]
theorem tg{v:Int}(h:0≤v) : decide (0<v)=(v != 0):=by
  rw[Bool.eq_iff_iff]
  simp only[decide_eq_true_eq,bne_iff_ne,ne_eq]
  omega
def ya (C:aj) : aj:=((C.bytesC 1).need (!(C.bytesC 1).sh) 5).need (C.byteV==6) 9
def xY (C:aj) : aj:=((ya C).wordsC 1).need (decide (0<(ya C).wordV)) 6
def xW (C:aj) : aj:=((xY C).wordsC 1).need (decide ((xY C).wordV≤9999)) 7
def sl (C:aj) : aj:=((xW C).wordsC 1).need (decide (0<(xW C).wordV)) 5
theorem sH(C:aj) : ya C=eu C:=by unfold ya eu;rw[v4]
theorem qj{C:aj}(h:eN C) : eN (eu C):=i8 (ie h)
theorem sM{C:aj}(h:eN C) : xY C=iw C:=by unfold xY iw;rw[sH,tg (bT (qj h)).1]
theorem uQ{C:aj}(h:eN C) : eN (iw C):=i8 (mr (qj h))
theorem ss{C:aj}(h:eN C) : xW C=lx C:=by unfold xW lx;rw[sM h]
theorem uv{C:aj}(h:eN C) : eN (lx C):=i8 (mr (uQ h))
theorem rL{C:aj}(h:eN C) : sl C=dF C:=by unfold sl dF;rw[ss h,tg (bT (uv h)).1]
theorem wK{C:aj}(h:C.e≠0) : C.endC=C:=by unfold aj.endC;exact ek h
theorem tM{b:List Int}(h:b.length≠0) : (aj.mk b false 0).byteV=b.getD 0 0∧(aj.mk b false 0).bytesC 1=⟨b.drop 1,false,0⟩:=by
  have hf:¬ (aj.mk b false 0).fails 1=true:=by
    unfold aj.fails
    simp only[Bool.or_eq_true,decide_eq_true_eq,not_or]
    exact⟨⟨by decide,by decide⟩,by omega⟩
  constructor
  · unfold aj.byteV aj.bytesR
    rw[if_neg hf]
    rcases b with _|⟨x,t⟩
    · exact absurd rfl h
    · rfl
  · unfold aj.bytesC
    rw[if_neg hf]
    rfl
def dh (b:List Int)(n:Int) : List Int:=(b.take (n+1).toNat).drop 1
def dR (one:Int→aj→Int × aj × dr)(c:Int)(b:List Int) : aQ × Int :=
  if (aU one (dh b (b.getD 0 0)).length 0 ⟨dh b (b.getD 0 0),false,0⟩ []).1.e != 0 then (aQ.zero,bq (aU one (dh b (b.getD 0 0)).length 0 ⟨dh b (b.getD 0 0),false,0⟩ []).1.e)
  else if decide (b.getD 0 0+1<(b.length:Int)) then (aQ.zero,3)
  else ({ aQ.zero with code:=c,recs:=(aU one (dh b (b.getD 0 0)).length 0 ⟨dh b (b.getD 0 0),false,0⟩ []).2 },0)
def bV (one:Int→aj→Int × aj × dr)(may:Int→Bool)(c:Int)(b:List Int) : aQ × Int :=
  if (b.length:Int)==0 then (aQ.zero,2)
  else if !(may (b.getD 0 0)) then (aQ.zero,5)
  else if decide ((b.length:Int)<b.getD 0 0+1) then (aQ.zero,2)
  else dR one c b
theorem ku{M:aQ}{C:aj}(h:C.e≠0) : aL M C=(aQ.zero,C.e):=by
  unfold aL
  rw[wK h,if_neg h]
theorem jq{one:Int→aj→Int × aj × dr}{may:Int→Bool}{c:Int}{b:List Int}(hr:∀ x,x∈b→0≤x∧x<256) : aL (dy one may c ⟨b,false,0⟩).2 (dy one may c ⟨b,false,0⟩).1=bV one may c b:=by
  unfold bV
  by_cases h0:b.length=0
  · rw[if_pos (by rw[beq_iff_eq];omega)]
    obtain rfl:=List.eq_nil_of_length_eq_zero h0
    have e1:(jg may ⟨[],false,0⟩).e=2:=by
      unfold jg
      rw[ek (fh (by decide))]
      rfl
    have e2:((jg may ⟨[],false,0⟩).bytesC (aj.mk [] false 0).byteV).e=2:=by
      have hs:(jg may ⟨[],false,0⟩).sh=true:=by
        unfold jg
        rw[ek (fh (by decide))]
        rfl
      unfold aj.bytesC
      rw[if_pos (by unfold aj.fails;rw[hs];rfl),ek (by show(jg may ⟨[],false,0⟩).e≠0;rw[e1];decide)]
      exact e1
    unfold dy
    dsimp only
    rw[ek (by rw[e2];decide),ku (by rw[e2];decide),e2]
  rw[if_neg (by rw[beq_iff_eq];omega)]
  obtain⟨e1,e2⟩:=tM h0
  have hn:0≤b.getD 0 0∧b.getD 0 0<256:=by
    rcases b with _|⟨x,t⟩
    · exact absurd rfl h0
    · exact hr x (by simp)
  by_cases hm:may (b.getD 0 0)=true
  · rw[if_neg (by rw[hm];decide)]
    have e3:jg may ⟨b,false,0⟩=⟨b.drop 1,false,0⟩:=by
      unfold jg
      rw[e1,e2,hm]
      rfl
    by_cases hs:(b.length:Int)<b.getD 0 0+1
    · rw[if_pos (by simpa using hs)]
      have hf:(aj.mk (b.drop 1) false 0).fails (b.getD 0 0)=true:=by
        unfold aj.fails
        simp only[Bool.or_eq_true,decide_eq_true_eq,List.length_drop]
        exact .inr (by omega)
      have e4:(jg may ⟨b,false,0⟩).bytesC (aj.mk b false 0).byteV=⟨[],true,2⟩:=by
        rw[e1,e3]
        unfold aj.bytesC
        rw[if_pos hf]
        rfl
      unfold dy
      dsimp only
      rw[e4,ek (by decide),ku (by decide)]
    · rw[if_neg (by simpa using hs)]
      have hf:¬ (aj.mk (b.drop 1) false 0).fails (b.getD 0 0)=true:=by
        unfold aj.fails
        simp only[Bool.or_eq_true,decide_eq_true_eq,List.length_drop,not_or]
        exact⟨⟨by decide,by omega⟩,by omega⟩
      have e4:(jg may ⟨b,false,0⟩).bytesC (aj.mk b false 0).byteV=⟨(b.drop 1).drop (b.getD 0 0).toNat,false,0⟩:=by
        rw[e1,e3]
        unfold aj.bytesC
        rw[if_neg hf]
      have e5:rU may ⟨b,false,0⟩=⟨dh b (b.getD 0 0),false,0⟩:=by
        unfold rU dh
        rw[e1,e3]
        unfold aj.bytesR
        rw[if_neg hf,show(b.getD 0 0+1).toNat=1+(b.getD 0 0).toNat from by omega,List.drop_take]
        rw[show 1+(b.getD 0 0).toNat-1=(b.getD 0 0).toNat from by omega]
      unfold dy dR nD
      dsimp only
      rw[e4,e5]
      by_cases hz:(aU one (dh b (b.getD 0 0)).length 0 ⟨dh b (b.getD 0 0),false,0⟩ []).1.e=0
      · rw[hz,if_neg (by decide)]
        have e6:(aj.mk ((b.drop 1).drop (b.getD 0 0).toNat) false 0).need ((0:Int)==0) (bq 0)=⟨(b.drop 1).drop (b.getD 0 0).toNat,false,0⟩:=rfl
        rw[e6]
        by_cases hl:b.getD 0 0+1<(b.length:Int)
        · rw[if_pos (by simpa using hl)]
          have e7:(aj.mk ((b.drop 1).drop (b.getD 0 0).toNat) false 0).endC=⟨(b.drop 1).drop (b.getD 0 0).toNat,false,3⟩:=by
            unfold aj.endC aj.need
            rw[if_pos ⟨rfl,by rw[beq_eq_false_iff_ne];simp only[List.length_drop];omega⟩]
          unfold aL
          rw[e7,if_neg (show ¬ (3:Int)=0 from by decide)]
        · rw[if_neg (by simpa using hl)]
          have e7:(aj.mk ((b.drop 1).drop (b.getD 0 0).toNat) false 0).endC=⟨(b.drop 1).drop (b.getD 0 0).toNat,false,0⟩:=by
            unfold aj.endC aj.need
            rw[if_neg (by rintro⟨_,h⟩;rw[beq_eq_false_iff_ne] at h;simp only[List.length_drop] at h;omega)]
          unfold aL
          rw[e7,if_pos rfl]
      · rw[if_pos (by simpa using hz)]
        have hw:bq (aU one (dh b (b.getD 0 0)).length 0 ⟨dh b (b.getD 0 0),false,0⟩ []).1.e≠0:=by
          unfold bq
          split
          · decide
          · exact hz
        have e6:(aj.mk ((b.drop 1).drop (b.getD 0 0).toNat) false 0).need ((aU one (dh b (b.getD 0 0)).length 0 ⟨dh b (b.getD 0 0),false,0⟩ []).1.e==0) (bq (aU one (dh b (b.getD 0 0)).length 0 ⟨dh b (b.getD 0 0),false,0⟩ []).1.e)=⟨(b.drop 1).drop (b.getD 0 0).toNat,false,bq (aU one (dh b (b.getD 0 0)).length 0 ⟨dh b (b.getD 0 0),false,0⟩ []).1.e⟩:=by
          unfold aj.need
          rw[if_pos ⟨rfl,by simpa using hz⟩]
        rw[e6,ku hw]
  · have hm:may (b.getD 0 0)=false:=by simpa using hm
    rw[if_pos (by rw[hm];rfl)]
    have e3:jg may ⟨b,false,0⟩=⟨b.drop 1,false,5⟩:=by
      unfold jg
      rw[e1,e2,hm]
      rfl
    have e4:((jg may ⟨b,false,0⟩).bytesC (aj.mk b false 0).byteV).e=5:=by
      rw[e3]
      unfold aj.bytesC
      split
      · rfl
      · rfl
    unfold dy
    dsimp only
    rw[ek (by rw[e4];decide),ku (by rw[e4];decide),e4]
theorem pN{b:List Int}(hr:∀ x,x∈b→0≤x∧x<256) : ag aX 0 20 b=bV cX eF 20 b:=jq hr
theorem oV{b:List Int}(hr:∀ x,x∈b→0≤x∧x<256) : ag aX 1 20 b=bV bH eB 20 b:=jq hr
theorem sF{dir:Int}{b:List Int}(hd:dir=0∨dir=1)(hr:∀ x,x∈b→0≤x∧x<256) : ag aX dir 21 b=bV cY eG 21 b:=by
  unfold ag
  rw[if_pos hd]
  exact jq hr
theorem uu:∀ n:Nat,n<256→(decide (1≤(n:Int)%128)&&decide ((n:Int)%128≤3))=cl (n:Int):=by decide +kernel
theorem xF{x:Int}(h:0≤x∧x<256) : (decide (1≤x%128)&&decide (x%128≤3))=cl x:=by
  obtain⟨n,rfl⟩:=Int.eq_ofNat_of_zero_le h.1
  exact uu n (by omega)
theorem wZ{x:Int}:(decide (0<x)&&decide (x<5))=(decide (1≤x)&&decide (x≤4)):=by
  rw[Bool.eq_iff_iff]
  simp only[Bool.and_eq_true,decide_eq_true_eq]
  omega
def ey (C:aj) : aj:=((dk C).bytesC 1).need (decide (0<(dk C).byteV)&&decide ((dk C).byteV<5)) 6
theorem sA(C:aj) : ey C=dZ C:=by unfold ey dZ;rw[wZ]
def eP (C:aj) : aj:=(C.bytesC 1).need (decide (1≤C.byteV%128)&&decide (C.byteV%128≤3)) 6
def fu (C:aj) : aj:=((eP C).bytesC 1).need ((eP C).byteV==0 || (eP C).byteV==255) 6
def ft (C:aj) : aj:=((fu C).bytesC 1).need ((fu C).byteV==0 || (eP C).byteV==255) 6
def gA (kd:Int)(C:aj) : aj:=((ft C).bytesC 1).need ((ft C).byteV==1 || kd != 4) 5
def dz (kd:Int)(C:aj) : aj × List Obj:=ea (ft C).byteV.toNat (gA kd C) []
theorem kN{C:aj}(h:eN C) : eP C=jk C:=by unfold eP jk;rw[xF (da h)]
theorem oN{C:aj}(h:eN C) : fu C=jt C:=by unfold fu jt;rw[kN h]
theorem u4{C:aj}(h:eN C) : ft C=lV C:=by
  unfold ft lV
  rw[oN h,kN h]
  by_cases e:((jt C).bytesC 1).e=0
  · have h1:=(gG e).1
    unfold jt at h1
    have h2:=(fW (by decide) h1).2
    congr 1
    rw[Bool.eq_iff_iff]
    simp only[Bool.or_eq_true,beq_iff_eq,bne_iff_ne,ne_eq] at h2 ⊢
    omega
  · rw[ek e,ek e]
theorem oQ{kd:Int}{C:aj}(h:eN C) : dz kd C=dJ kd C:=by
  unfold dz dJ gA tq
  rw[u4 h,Bool.or_comm]
def bY (dir c:Int)(C:aj) : Option (aj × aQ) :=
  if c != 43 then none
  else if C.byteV==13 then some ((ex C).bytesC ((dk C).l.length:Int),{ aQ.zero with code:=43,mei:=C.byteV,data:=(ex C).bytesR ((dk C).l.length:Int) })
  else if dir==0 then some ((ey C).bytesC 1,{ aQ.zero with code:=43,mei:=C.byteV,kind:=(dk C).byteV,next:=(ey C).byteV })
  else some ((dz (dk C).byteV (ey C)).1,{ aQ.zero with code:=43,mei:=C.byteV,kind:=(dk C).byteV,level:=(ey C).byteV,more:=(eP (ey C)).byteV,next:=(fu (ey C)).byteV,objects:=(dz (dk C).byteV (ey C)).2 })
theorem nO{dir c:Int}{b:List Int}(hr:∀ x,x∈b→0≤x∧x<256) : ag bY dir c b=ag bz dir c b:=by
  unfold ag
  split
  · rename_i hd
    unfold bY bz
    by_cases hc:c=43
    · subst hc
      have hD:eN (ey ⟨b,false,0⟩):=i8 (ie (i8 (ie (C:=⟨b,false,0⟩) hr)))
      have hl:(ex ⟨b,false,0⟩).l.length=(dk ⟨b,false,0⟩).l.length:=by unfold ex;rw[jj]
      rw[if_neg (show ¬ (((43:Int)!=43)=true) from by decide),if_neg (show ¬ (((43:Int)!=43)=true) from by decide),kN hD,oN hD,oQ hD,sA,hl]
      rcases hd with rfl|rfl
      · rw[if_pos (show((0:Int)==0)=true from rfl),if_neg (show ¬ ((0:Int)==1)=true from by decide)]
      · rw[if_neg (show ¬ ((1:Int)==0)=true from by decide),if_pos (show((1:Int)==1)=true from rfl)]
    · rw[if_pos (by simpa using hc),if_pos (by simpa using hc)]
  · rfl
end Go.Proofs.YtogbnemojakcpaaGreat
