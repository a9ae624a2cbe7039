/- Contracts of functions, part CAduTurns7. -/
import Derived.Test.YtdkhbcefkfgbdaaGreatCAduTurns1
import Derived.Test.YtdkhbcefkfgbdaaGreatCAduTurns2
import Derived.Test.YtdkhbcefkfgbdaaGreatCAduTurns3
import Derived.Test.YtdkhbcefkfgbdaaGreatCAduTurns4
import Derived.Test.YtdkhbcefkfgbdaaGreatCAduTurns5
import Derived.Test.YtdkhbcefkfgbdaaGreatCAduTurns6
import Derived.Deep.Slices
import Derived.ChangeArms
import Derived.WideShapes
set_option linter.unusedVariables false
set_option linter.unusedSimpArgs false
set_option maxRecDepth 100000
set_option maxHeartbeats 4000000
namespace Go.Proofs.YtdkhbcefkfgbdaaGreat
open Go.RowKit
variable {M:aS}{dir t u:Int}{m:Md}{w:World}{x:SL}
theorem qW(h:aH m w (f5 M x).toList M)(hf:bh M)(hbu:0≤u∧u<256)(hbt:0≤t∧t<65536) : Calls Tryz.prog 60 #[.int .i64 dir,.agg (dC u t M x)] w (sY (fL dir u t M) w):=by
  cases hX:fL dir u t M with
  | none =>
    refine(qq h hf hbu hbt hX).mono ?_
    rintro e w' ⟨rfl,hu⟩
    exact⟨_,_,rfl,⟨rfl,rfl⟩,hu⟩
  | some l =>
    refine(pT h hf hbu hbt hX).mono ?_
    rintro e w' ⟨v,rfl,ho,hu⟩
    exact⟨_,_,rfl,⟨rfl,f9.of ho⟩,hu⟩
theorem rj(h:aH m w (f5 M x).toList M)(hf:bh M)(hbu:0≤u∧u<256)(hbt:0≤t∧t<65536) : Calls Tryz.prog 61 #[.int .i64 dir,.agg (dC u t M x)] w (sY (fT dir u t M) w):=by
  cases hX:fT dir u t M with
  | none =>
    refine(qe h hf hbu hbt hX).mono ?_
    rintro e w' ⟨rfl,hu⟩
    exact⟨_,_,rfl,⟨rfl,rfl⟩,hu⟩
  | some l =>
    refine(pS h hf hbu hbt hX).mono ?_
    rintro e w' ⟨v,rfl,ho,hu⟩
    exact⟨_,_,rfl,⟨rfl,f9.ofF ho⟩,hu⟩
theorem qt(h:aH m w (f5 M x).toList M)(hf:bh M)(hbu:0≤u∧u<256)(hbt:0≤t∧t<65536) : Calls Tryz.prog 62 #[.int .i64 dir,.agg (dC u t M x)] w (sY (ey dir u t M) w):=by
  cases hX:ey dir u t M with
  | none =>
    refine(oo h hf hbu hbt hX).mono ?_
    rintro e w' ⟨rfl,hu⟩
    exact⟨_,_,rfl,⟨rfl,rfl⟩,hu⟩
  | some l =>
    refine(oq h hf hbu hbt hX).mono ?_
    rintro e w' ⟨v,rfl,ho,hu⟩
    exact⟨_,_,rfl,⟨rfl,f9.of ho⟩,hu⟩
variable {k:Int}
theorem na(h:aH m w (f5 M x).toList M)(hf:bh M)(hbu:0≤u∧u<256)(hbt:0≤t∧t<65536) : Calls Tryz.prog 28 #[vI k,vI dir,.agg (dC u t M x)] w (sY (gy k dir u t M) w):=by
 refine en 30 Tryz.func28 rfl<|sg<|L0<|cY (dC u t M x) fun B C D e a=>ah 2<|sq<|aB 1<|bk<|aB 2<|cb ((k==0)) (fun b=>?_) (fun b=>?_)
 have f:=ag b
 refine aq 1<|L0<|cm e<|?_
 refine ay<|zZ (qW (dir:=dir) (aH.old h a) hf hbu hbt) fun g i E j l=>ah 4<|rt<|br<|tr<|rr (.tuple #[g,vI i])<|?_
 have hs:gy k dir u t M=fL dir u t M:=by unfold gy;simp only[b,cond_true,cond_false]
 rw[hs]
 exact⟨_,_,rfl,j.wk a.size,(aJ a l)⟩
 have f:=ai b
 refine aB 2<|cb ((k==1)) (fun c=>?_) (fun c=>?_)
 have n:=ag c
 refine aq 1<|L0<|cm e<|?_
 refine ay<|zZ (rj (dir:=dir) (aH.old h a) hf hbu hbt) fun o p F q r=>ah 4<|rt<|br<|tr<|rr (.tuple #[o,vI p])<|?_
 have hs:gy k dir u t M=fT dir u t M:=by unfold gy;simp only[b,c,cond_true,cond_false]
 rw[hs]
 exact⟨_,_,rfl,q.wk a.size,(aJ a r)⟩
 have n:=ai c
 refine aB 2<|cb ((k==2)) (fun d=>?_) (fun d=>?_)
 have s:=ag d
 refine aq 1<|L0<|cm e<|?_
 refine ay<|zZ (qt (dir:=dir) (aH.old h a) hf hbu hbt) fun v y G z A=>ah 4<|rt<|br<|tr<|rr (.tuple #[v,vI y])<|?_
 have hs:gy k dir u t M=ey dir u t M:=by unfold gy;simp only[b,c,d,cond_true,cond_false]
 rw[hs]
 exact⟨_,_,rfl,z.wk a.size,(aJ a A)⟩
 have s:=ai d
 refine sk<|bn<|tn<|aB 2<|rt<|rr (.tuple #[nS,vI 1])<|?_
 have hs:gy k dir u t M=none:=by unfold gy;simp only[b,c,d,cond_true,cond_false]
 rw[hs]
 exact⟨_,_,rfl,⟨rfl,rfl⟩,a⟩
theorem kU(h:aH m w (f5 M x).toList M)(hf:bh M)(hbu:0≤u∧u<256)(hbt:0≤t∧t<65536)(hX:gy k dir u t M=none) : Calls Tryz.prog 28 #[.int .i64 k,.int .i64 dir,.agg (dC u t M x)] w (fun e w'=>e = .returned (.tuple #[.slice none 0 0,.int .i64 1])∧aI [] w w'):=by
  refine(na h hf hbu hbt).mono ?_
  rw[hX]
  rintro e w' ⟨v,n,rfl,⟨rfl,rfl⟩,hu⟩
  exact⟨rfl,hu⟩
theorem kS{l:List Int}(h:aH m w (f5 M x).toList M)(hf:bh M)(hbu:0≤u∧u<256)(hbt:0≤t∧t<65536)(hX:gy k dir u t M=some l) : Calls Tryz.prog 28 #[.int .i64 k,.int .i64 dir,.agg (dC u t M x)] w (fun e w'=>∃ v,e = .returned (.tuple #[v,.int .i64 0])∧f9 w.heap.size w' v l∧aI [] w w'):=by
  refine(na h hf hbu hbt).mono ?_
  rw[hX]
  rintro e w' ⟨v,n,rfl,⟨rfl,ho⟩,hu⟩
  exact⟨v,rfl,ho,hu⟩
open Go.RowKit
theorem uK(h:k<0∨2<k) : (ku k==0)=true:=by
  have e0:(k==0)=false:=by simp;omega
  have e1:(k==1)=false:=by simp;omega
  have e2:(k==2)=false:=by simp;omega
  rw[xF e0 e1 e2]
  rfl
variable {a c:Int}{b:List Int}
theorem BF(h:((((decide (a<0))||(decide (2<a)))||(decide (c<0)))||(decide (2<c)))=true) : eS a c dir b=(none,1):=by
  simp only[Bool.or_eq_true,decide_eq_true_eq] at h
  have h:(ku a==0 || ku c==0)=true:=by
    by_cases ha:a<0∨2<a
    · rw[uK ha];rfl
    · rw[uK (k:=c) (by omega),Bool.or_true]
  unfold eS
  rw[h]
  rfl
theorem jq(h:((((decide (a<0))||(decide (2<a)))||(decide (c<0)))||(decide (2<c)))=false) : (ku a==0 || ku c==0)=false:=by
  simp only[Bool.or_eq_false_iff,decide_eq_false_iff_not] at h
  rw[rh (k:=a) (by omega),rh (k:=c) (by omega)]
  rfl
theorem ul{A:Option Addr}{cp:Nat}    (hsl:aV m w (.slice A b.length cp) b)(hb:b.length≤1048576) : Calls Tryz.prog 31 #[vI a,vI c,vI dir,.slice A b.length cp] w (PT (eS a c dir b) w):=by
 refine en 46 Tryz.func31 rfl<|aB 2<|sq<|aq 3<|cu 3 [14] 17 (((decide (a<0))||(decide (2<a)))) (fun K z=>?_) ?_
 refine bl 14 ((decide (a<0))) (fun k=>?_) (fun k=>?_)
 have M:=of_decide_eq_true k
 exact Pl 3<|ce z true (by rw[k];rfl)
 have M:=of_decide_eq_false k
 exact Pl 3<|ce z (decide (2<a)) (by rw[k];rfl)
 refine Pl 1<|cu 3 [18] 21 ((((decide (a<0))||(decide (2<a)))||(decide (c<0)))) (fun K B=>?_) ?_
 refine bl 18 (((decide (a<0))||(decide (2<a)))) (fun r=>?_) (fun r=>?_)
 exact Pl 3<|ce B true (by rw[r];rfl)
 exact Pl 3<|ce B (decide (c<0)) (by rw[r];rfl)
 refine Pl 1<|cu 3 [22] 25 (((((decide (a<0))||(decide (2<a)))||(decide (c<0)))||(decide (2<c)))) (fun K C=>?_) ?_
 refine bl 22 ((((decide (a<0))||(decide (2<a)))||(decide (c<0)))) (fun s=>?_) (fun s=>?_)
 exact Pl 3<|ce C true (by rw[s];rfl)
 exact Pl 3<|ce C (decide (2<c)) (by rw[s];rfl)
 refine nt<|cb (((((decide (a<0))||(decide (2<a)))||(decide (c<0)))||(decide (2<c)))) (fun f=>?_) (fun f=>?_)
 refine aB 2<|b6<|rr (.tuple #[nS,vI 1])<|?_
 rw[BF f]
 exact⟨_,rfl,rfl,(aI.refl [] _)⟩
 have h:=(bL f).1
 have l:=(bL f).2
 have i:=(bL h).1
 have n:=(bL h).2
 have q16aaa:=(bL i).1
 have q16aab:=(bL i).2
 refine bu<|aq 3<|pr (ja a dir b) fun d t e=>?_
 refine ay<|e2 (qA e hsl (by omega)) fun x20 a8 N D=>?_
 obtain⟨E,a9,aa⟩:=N
 refine Pl 3<|aK kP fun ab ac u O P=>aG O (dC d.unit d.tid d.msg x20) fun ad F Q=>ah 1<|sq<|aB 2<|?_
 have v:=ud P Q u
 have o:=aJ D v
 refine cb ((t != 0)) (fun g=>?_) (fun g=>?_)
 have R:=aA g
 refine aB 3<|b6<|rr (.tuple #[nS,vI t])<|?_
 have hs:eS a c dir b=(none,t):=by
   unfold eS
   rw[jq f,e]
   simp only[h,i,q16aaa,q16aab,n,l,g,cond_true,cond_false]
 rw[hs]
 exact⟨_,rfl,rfl,o⟩
 have R:=aF g
 refine bu<|sq<|aB 2<|cb ((c != 2)) (fun j=>?_) (fun j=>?_)
 have S:=aA j
 refine go<|Pl 2<|L0<|bY F 1 (dC d.unit 0 d.msg x20) fun ae T G=>aL 2<|L0<|cm T<|?_
 have H:=aH.old E (ud v G u)
 have y:=ud o G (le D.size u)
 refine wo (gy c dir d.unit 0 d.msg) (fun p=>?_) (fun I p=>?_)
 refine ay<|m1 (kU H (fS (aV.range hsl) e).1 (by omega) (by omega) p) fun af U=>ah 4<|rt<|rr (.tuple #[nS,vI 1])<|?_
 have hs:eS a c dir b=(none,1):=by
   unfold eS
   rw[jq f,e]
   simp only[h,i,q16aaa,q16aab,n,l,g,j,cond_true,cond_false]
   rw[p]
 rw[hs]
 exact⟨_,rfl,rfl,(aJ y U)⟩
 refine ay<|e2 (kS H (fS (aV.range hsl) e).1 (by omega) (by omega) p) fun ag ai V W=>?_
 obtain⟨X,Y,rfl,Z,a0⟩:=f9.shape V
 refine ah 4<|rt<|rr (.tuple #[.slice X I.length Y,vI 0])<|?_
 have hs:eS a c dir b=(some I,0):=by
   unfold eS
   rw[jq f,e]
   simp only[h,i,q16aaa,q16aab,n,l,g,j,cond_true,cond_false]
   rw[p]
 rw[hs]
 exact⟨_,rfl,(show f9 _ _ _ _ from⟨Z,_,_,_,rfl,fun x hx=>Nat.le_trans y.size (a0 x hx)⟩),(aJ y W)⟩
 have S:=aF j
 refine bu<|aq 2<|L0<|cm F<|?_
 have J:=aH.old E v
 refine wo (gy c dir d.unit d.tid d.msg) (fun q=>?_) (fun L q=>?_)
 refine ay<|m1 (kU J (fS (aV.range hsl) e).1 (by omega) (by omega) q) fun aj a1=>ah 4<|rt<|rr (.tuple #[nS,vI 1])<|?_
 have hs:eS a c dir b=(none,1):=by
   unfold eS
   rw[jq f,e]
   simp only[h,i,q16aaa,q16aab,n,l,g,j,cond_true,cond_false]
   rw[q]
 rw[hs]
 exact⟨_,rfl,rfl,(aJ o a1)⟩
 refine ay<|e2 (kS J (fS (aV.range hsl) e).1 (by omega) (by omega) q) fun ak al a2 a3=>?_
 obtain⟨a4,a5,rfl,a6,a7⟩:=f9.shape a2
 refine ah 4<|rt<|rr (.tuple #[.slice a4 L.length a5,vI 0])<|?_
 have hs:eS a c dir b=(some L,0):=by
   unfold eS
   rw[jq f,e]
   simp only[h,i,q16aaa,q16aab,n,l,g,j,cond_true,cond_false]
   rw[q]
 rw[hs]
 exact⟨_,rfl,(show f9 _ _ _ _ from⟨a6,_,_,_,rfl,fun x hx=>Nat.le_trans o.size (a7 x hx)⟩),(aJ o a3)⟩
variable {v:Value}
theorem p4(h:aV m w v b)(hb:b.length≤1048576) : Calls Tryz.prog 31 #[.int .i64 a,.int .i64 c,.int .i64 dir,v] w (PT (eS a c dir b) w):=by
  obtain⟨A,cp,rfl,_,_⟩:=h.shape
  exact ul h hb
theorem ra{l:List Int}  {E:Int}(h:aV m w v b)(hb:b.length≤1048576)(hX:eS a c dir b=(some l,E)) : Calls Tryz.prog 31 #[.int .i64 a,.int .i64 c,.int .i64 dir,v] w (fun e w'=>∃ v,e = .returned (.tuple #[v,.int .i64 E])∧f9 w.heap.size w' v l∧aI [] w w'):=by
  have k:=p4 (a:=a) (c:=c) (dir:=dir) h hb
  rw[hX] at k
  exact k
theorem sC{E:Int}(h:aV m w v b)(hb:b.length≤1048576)(hX:eS a c dir b=(none,E)) : Calls Tryz.prog 31 #[.int .i64 a,.int .i64 c,.int .i64 dir,v] w (fun e w'=>e = .returned (.tuple #[.slice none 0 0,.int .i64 E])∧aI [] w w'):=by
  refine(p4 (a:=a) (c:=c) (dir:=dir) h hb).mono ?_
  rw[hX]
  rintro e w' ⟨v,rfl,rfl,hu⟩
  exact⟨rfl,hu⟩
open Go.RowKit
theorem rR{mA:Md}{A:Option Addr}{cpA:Nat}  (hb:aV mA w (.slice A b.length cpA) b) :
    Calls Tryz.prog 6 #[vI a,vI c,vI dir,.slice A b.length cpA] w (bS (.bool true) w):=by
 refine en 46 Tryz.func6 rfl<|aq 1<|ng<|ay<|m1 (@BH _) fun F d=>ah 1<|sq<|sq<|go<|ah 3<|cb ((decide (700<(b.length:Int)))) (fun f=>?_) (fun f=>?_)
 have o:=of_decide_eq_true f
 exact aB 2<|b6<|rr (.bool true)<|⟨rfl,d⟩
 have o:=of_decide_eq_false f
 refine bu<|aq 4<|?_
 have e:=aV.old hb d
 rcases hX:eS a c dir b with⟨_|l,E⟩
 refine ay<|m1 (t6 e (by omega) hX) fun G i=>Pl 5<|aL 4<|?_
 refine ay<|m1 (sC (aV.old e i) (by omega) hX) fun H p=>Pl 5<|aL 7<|?_
 have j:=aJ d (aJ i p)
 refine bl 41 ((E==E)) (fun g=>?_) (fun g=>?_)
 have q:=ag g
 refine Pl 2<|L1<|Oc (args:=#[nS,nS])<|m1 (jI (xs:=([] : List Int)) (ys:=[]) (aT.nil true _ _ _ _) (aT.nil true _ _ _ _)) fun I r=>ah 2<|rt<|rr (.bool (decide (([] : List Int)=[])))<|?_
 have hs:(decide (([] : List Int)=[]))=true:=by first | (simp;done) | (exfalso;simp_all)
 rw[hs]
 exact⟨rfl,(aJ j r)⟩
 have q:=ai g
 refine ah 5<|rt<|rr (.bool false)<|?_
 have hs:false=true:=by first | (simp;done) | (exfalso;simp_all)
 rw[hs]
 exact⟨rfl,j⟩
 refine ay<|e2 (mQ e (by omega) hX) fun J K s k=>?_
 obtain⟨t,u,rfl,v,L⟩:=f9.shape s
 refine Pl 5<|aL 4<|?_
 refine ay<|e2 (ra (aV.old e k) (by omega) hX) fun M N x m=>?_
 obtain⟨y,z,rfl,B,O⟩:=f9.shape x
 refine Pl 5<|aL 7<|?_
 have n:=aJ d (aJ k m)
 refine bl 41 ((E==E)) (fun h=>?_) (fun h=>?_)
 have C:=ag h
 refine Pl 2<|?_
 refine L1<|Oc (args:=#[.slice t l.length u,.slice y l.length z])<|m1 (jI (xs:=l) (ys:=l) (aV.upd' v m aM) B) fun P D=>ah 2<|rt<|rr (.bool (decide (l=l)))<|?_
 have hs:(decide (l=l))=true:=by first | (simp;done) | (exfalso;simp_all)
 rw[hs]
 exact⟨rfl,(aJ n D)⟩
 have C:=ai h
 refine ah 5<|rt<|rr (.bool false)<|?_
 have hs:false=true:=by first | (simp;done) | (exfalso;simp_all)
 rw[hs]
 exact⟨rfl,n⟩
theorem qF{mA:Md}{vA:Value}  (hb:aV mA w vA b) : Calls Tryz.prog 6 #[.int .i64 a,.int .i64 c,.int .i64 dir,vA] w (bS (.bool true) w):=by
  obtain⟨AA,cpA,rfl,_,_⟩:=hb.shape
  exact rR hb
open Go.RowKit
section
variable {H:Type}{enc:TypeId × Value→H}{P:Program}{w:World}{base:Nat}{spare:Nat→Bool}{held:Bool}
theorem si(b off:Nat)(sp:Option Nat)(n:Nat)(h:sp=none) : (⟨b,off,sp⟩ : Addr).add n=⟨b,off+n,none⟩:=kn b off n sp h
theorem vJ{b off:Nat}{sp:Option Nat}{v:Value}(h:w.cell? ⟨b,off,sp⟩=some v) : sp=none:=by
  cases sp with
  | none=>rfl
  | some s =>
    unfold World.cell? at h
    simp at h
    split at h<;>cases h
theorem zH{α:Type}{Pd:DataW H→Prop}{R:World→α→List Value→Prop}{t e:TypeId}{sz fuel:Nat}{cs:List Value}{x:DataW H × List MemPlace}(ht:P.underlying t=some (.slice e))(hsz:P.cellsOf e=sz)(hp:0<sz)
    (hel:∀ n cs' y,cs'.length=sz→DataW.trod enc P w base spare held n e cs'=some y→Pd y.1→∃ x,R w x cs') (hP:∀ elems spare,x.1 = .slice elems spare→∀ d,d∈elems→Pd d) (h:DataW.trod enc P w base spare held fuel t cs=some x) : ∃ v xs,cs=[v]∧aT false e sz R w v xs:=by
  rcases Go.Deep.open_slice ht h with⟨rfl,_⟩|⟨a,len,cap,m,n,D,Pl,rfl,_,hl,hm,hmm,hxe,hx⟩
  · exact⟨_,[],rfl,aT.nil ..⟩
  have hlm:len≤m:=by rw[hmm];split<;>omega
  have key:∀ i:Fin len,∃ y:α × List Value,w.cells? base (a.add (i*sz)) sz=some y.2∧y.2.length=sz∧R w y.1 y.2:=fun i=>by
    obtain⟨cs',h1,h2⟩:=hx i (by omega)
    rw[hsz] at h1
    obtain⟨_,hlen,_⟩:=World.cells?_some h1
    obtain⟨y,hy⟩:=hel n cs' _ hlen h2 (hP _ _ (by rw[hxe]) _ (List.mem_map.2 ⟨i.1,List.mem_range.2 i.2,rfl⟩))
    exact⟨(y,cs'),h1,hlen,hy⟩
  obtain⟨f,hf⟩:=Classical.axiomOfChoice key
  refine⟨_,List.ofFn fun i=>(f i).1,rfl,some a,cap,by simp,by simpa using hl,hm,(fun h=>by cases h),fun hpos=>?_⟩
  have hpos':0<len:=by simpa using hpos
  obtain⟨b,off,sp⟩:=a
  have hsp:sp=none:=by
    obtain⟨h1,h2,_⟩:=hf ⟨0,hpos'⟩
    obtain⟨_,_,h3⟩:=World.cells?_some h1
    have h4:=h3 0 hp
    rw[List.getElem?_eq_getElem (by omega)] at h4
    cases sp with
    | none=>rfl
    | some s =>
      simp[Addr.add] at h4
      exact vJ h4
  subst hsp
  have hc:∀ i:Fin len,∀ k u,(f i).2[k]? = some u→w.cell? ⟨b,off+i*sz+k,none⟩=some u:=fun i k u hu=>by
    obtain⟨h1,h2,_⟩:=hf i
    obtain⟨_,_,h3⟩:=World.cells?_some h1
    have hk:k<sz:=by have:=(List.getElem?_eq_some_iff.1 hu).1;omega
    have h4:=h3 k hk
    rw[si _ _ _ _ rfl,si _ _ _ _ rfl] at h4
    rw[h4,hu]
  have h0:∃ u,w.cell? ⟨b,off+0*sz+0,none⟩=some u:=by
    obtain⟨_,h2,_⟩:=hf ⟨0,hpos'⟩
    exact⟨_,hc ⟨0,hpos'⟩ 0 _ (List.getElem?_eq_getElem (by omega))⟩
  obtain⟨u,hu⟩:=h0
  unfold World.cell? at hu
  split at hu
  · rename_i cells t' fr hb
    refine⟨b,off,cells,t',fr,rfl,hb,fun h=>(by cases h),fun j y hj=>?_⟩
    have hjl:j<len:=by have:=(List.getElem?_eq_some_iff.1 hj).1;simpa using this
    have hy:(f ⟨j,hjl⟩).1=y:=by
      rw[List.getElem?_ofFn] at hj
      simpa [hjl] using hj
    obtain⟨_,h2,h3⟩:=hf ⟨j,hjl⟩
    refine⟨(f ⟨j,hjl⟩).2,h2,by rw[← hy];exact h3,fun i u hi=>?_⟩
    have:=hc ⟨j,hjl⟩ i u hi
    rw[bD hb] at this
    exact this
  · cases hu
theorem AM{α:Type}{R:World→α→List Value→Prop}{t e:TypeId}{sz fuel:Nat}{cs:List Value}{x:DataW H × List MemPlace}(ht:P.underlying t=some (.slice e))(hsz:P.cellsOf e=sz)(hp:0<sz)
    (hel:∀ n cs' y,cs'.length=sz→DataW.trod enc P w base spare held n e cs'=some y→∃ x,R w x cs') (h:DataW.trod enc P w base spare held fuel t cs=some x) : ∃ v xs,cs=[v]∧aT false e sz R w v xs :=
  zH (Pd:=fun _=>True) ht hsz hp (fun n cs' y h1 h2 _=>hel n cs' y h1 h2) (fun _ _ _ _ _=>trivial) h
end
section
variable {H:Type}{enc:TypeId × Value→H}{w:World}{base:Nat}{spare:Nat→Bool}{held:Bool}{n:Nat}{y:DataW H × List MemPlace}
theorem Dr{cs:List Value}(h:DataW.trod enc Tryz.prog w base spare held n 5 cs=some y) : ∃ x,xv w x cs:=by
  obtain⟨k,rfl,_,hw⟩:=DataW.trod_int Tryz.underlying5 h
  exact⟨k,rfl,wV hw⟩
theorem DC{cs:List Value}(h:DataW.trod enc Tryz.prog w base spare held n 27 cs=some y) : ∃ v xs,cs=[v]∧aV false w v xs:=AM Tryz.underlying27 (by kernel_rfl) (by decide) (fun _ _ _ _ h=>Dr h) h
end
open Go.RowKit
section
variable {H:Type}{enc:TypeId × Value→H}{w:World}{base:Nat}{spare:Nat→Bool}{held:Bool}{n:Nat}{y:DataW H × List MemPlace}
end
open Go.RowKit
section
variable {H:Type}{enc:TypeId × Value→H}{w:World}{base:Nat}{spare:Nat→Bool}{held:Bool}{n:Nat}{y:DataW H × List MemPlace}
end
end Go.Proofs.YtdkhbcefkfgbdaaGreat
