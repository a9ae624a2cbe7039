/- Contracts of functions, part CRtuWrites6. -/
import Derived.Test.YtogbnemojakcpaaGreatCRtuWrites1
import Derived.Test.YtogbnemojakcpaaGreatCRtuWrites2
import Derived.Test.YtogbnemojakcpaaGreatCRtuWrites3
import Derived.Test.YtogbnemojakcpaaGreatCRtuWrites4
import Derived.Test.YtogbnemojakcpaaGreatCRtuWrites5
import Derived.Deep.Slices
import Derived.ChangeArms
import Derived.WideShapes
set_option linter.unusedVariables false
set_option linter.unusedSimpArgs false
set_option maxRecDepth 100000
set_option maxHeartbeats 4000000
namespace Go.Proofs.YtogbnemojakcpaaGreat
open Go.RowKit
theorem gq{x:Int}(h:bp x=0) : x=0:=by
  unfold bp at h
  split at h
  · cases h
  · exact h
theorem jy{x:Int}(h:¬ bp x=0) : (x != 0)=true:=by
  rw[bne_iff_ne]
  rintro rfl
  exact h rfl
theorem i3:((0:Int)!=0)=false:=rfl
theorem sQ{m:Md}{A:Option Addr}{cp:Nat}{b:List Int}{w:World}(hsl:b9 m w (.slice A b.length cp) b)(hb:b.length≤1048576) :
    Calls Tryz.prog 96 #[.int .i64 0,.int .u8 20,.slice A b.length cp] w (co (.slice A b.length cp) b (bP cJ fo 20 b) w):=by
 have hln:(b.length:Int)≤1048576:=by omega
 have hcp:b.length≤cp:=by obtain⟨_,_,hv,h1,_⟩:=aL.shape hsl;injection hv with _ _ h3;omega
 have hrb:=b9.range hsl
 refine en 101 Tryz.func96 rfl<|sg<|L0<|bH mZ fun a9 ab i g j=>Pl 1<|nt<|sq<|sg<|Pl 6<|nt<|c0<|?_
 refine bi<|sq<|sg<|Pl 6<|nt<|c0<|bi<|sq<|sg<|?_
 refine Pl 3<|nt<|cb ((((b.length:Nat) : Int)==0)) (fun a=>?_) (fun a=>?_)
 have J:=ah a
 refine sg<|Pl 1<|L0<|b7 g mZ fun ac L M=>Pl 1<|nt<|rt<|tr<|bN L (.int .i64 2)<|?_
 have hs:bP cJ fo 20 b=(aO.zero,2):=by
   unfold bP dM cU fo
   (try simp only[a,bs,if_true,if_false,decide_true,decide_false,i3,reduceIte])
   all_goals rfl
 rw[hs]
 exact bu (ud j M i)
 have J:=ak a
 refine bi<|sg<|Pl 1<|?_
 have t:=b9.old hsl j
 refine gj (b9.at_ t 0 (by omega)) fun N O Q R ad=>L0<|m0 b.length 0 Q (by omega)<|L0<|eq (p:=⟨N,O+0,none⟩) (v:=.int .u8 (b.getD 0 0)) R<|L0<|Oi (b.getD 0 0)<|Pl 1<|ng<|Pl 3<|cu 3 [36] 39 (((decide (9≤(b.getD 0 0)))&&(decide ((b.getD 0 0)≤251)))) (fun K C=>?_) ?_
 refine bl 36 ((decide (9≤(b.getD 0 0)))) (fun l=>?_) (fun l=>?_)
 have S:=of_decide_eq_true l
 exact Pl 3<|ce C (decide ((b.getD 0 0)≤251)) (by rw[l];rfl)
 have S:=of_decide_eq_false l
 exact Pl 3<|ce C false (by rw[l];rfl)
 refine Pl 1<|nt<|sq<|sg<|Pl 6<|nt<|c1<|go<|Pl 3<|cu 3 [48] 51 (((decide (7≤(b.getD 0 0)))&&(decide ((b.getD 0 0)≤245)))) (fun K D=>?_) ?_
 refine bl 48 ((decide (7≤(b.getD 0 0)))) (fun o=>?_) (fun o=>?_)
 have T:=of_decide_eq_true o
 exact Pl 3<|ce D (decide ((b.getD 0 0)≤245)) (by rw[o];rfl)
 have T:=of_decide_eq_false o
 exact Pl 3<|ce D false (by rw[o];rfl)
 refine Pl 1<|cu 4 [52] 56 ((((decide (7≤(b.getD 0 0)))&&(decide ((b.getD 0 0)≤245)))&&(((b.getD 0 0)%7)==0))) (fun K E=>?_) ?_
 refine bl 52 (((decide (7≤(b.getD 0 0)))&&(decide ((b.getD 0 0)≤245)))) (fun q=>?_) (fun q=>?_)
 have U:=(aU q).1
 have V:=(aU q).2
 have ae:=of_decide_eq_true U
 have af:=of_decide_eq_true V
 exact Pl 1<|L1<|Oe (.int .i64 (Int.tmod (b.getD 0 0) 7)) (.int .i64 ((b.getD 0 0)%7)) (congrArg (Value.int .i64) (Int.tmod_eq_emod_of_nonneg (by omega)))<|Pl 2<|ce E (((b.getD 0 0)%7)==0) (by rw[q];rfl)
 exact Pl 4<|ce E false (by rw[q];rfl)
 refine Pl 1<|nt<|sq<|sg<|Pl 6<|nt<|c0<|bi<|sq<|sq<|?_
 refine go<|Pl 2<|nt<|cb ((!(((decide (7≤(b.getD 0 0)))&&(decide ((b.getD 0 0)≤245)))&&(((b.getD 0 0)%7)==0)))) (fun d=>?_) (fun d=>?_)
 have f:(((decide (7≤(b.getD 0 0)))&&(decide ((b.getD 0 0)≤245)))&&(((b.getD 0 0)%7)==0))=false:=by simpa only[Bool.not_eq_true',Bool.not_eq_false'] using d
 refine sg<|Pl 1<|L0<|b7 g mZ fun ag W X=>Pl 1<|nt<|rt<|tr<|bN W (.int .i64 5)<|?_
 have hs:bP cJ fo 20 b=(aO.zero,5):=by
   unfold bP dM cU fo
   (try simp only[a,d,f,bs,if_true,if_false,decide_true,decide_false,i3,reduceIte])
   all_goals rfl
 rw[hs]
 exact bu (ud j X i)
 have f:(((decide (7≤(b.getD 0 0)))&&(decide ((b.getD 0 0)≤245)))&&(((b.getD 0 0)%7)==0))=true:=by simpa only[Bool.not_eq_true',Bool.not_eq_false'] using d
 have k:=(aU f).1
 have r:=(aU f).2
 have q32naa:=(aU k).1
 have q32nab:=(aU k).2
 have q32naap:=of_decide_eq_true q32naa
 have q32nabp:=of_decide_eq_true q32nab
 have q32nbp:=ah r
 refine bi<|sq<|sg<|Pl 3<|L0<|Oi ((b.getD 0 0)+1)<|Pl 1<|nt<|cb ((decide (((b.length:Nat) : Int)<((b.getD 0 0)+1)))) (fun h=>?_) (fun h=>?_)
 have Y:=of_decide_eq_true h
 refine sg<|Pl 1<|L0<|b7 g mZ fun ai Z a0=>Pl 1<|nt<|rt<|tr<|bN Z (.int .i64 2)<|?_
 have hs:bP cJ fo 20 b=(aO.zero,2):=by
   unfold bP dM cU fo
   (try simp only[a,d,f,k,q32naa,q32nab,r,h,bs,if_true,if_false,decide_true,decide_false,i3,reduceIte])
   all_goals rfl
 rw[hs]
 exact bu (ud j a0 i)
 have Y:=of_decide_eq_false h
 refine bi<|sg<|Pl 4<|L0<|Oi ((b.getD 0 0)+1)<|nF (iz (P:=Tryz.prog) 22 5 1 Tryz.underlying22 rfl rfl A b.length cp (lo:=1) (up:=((b.getD 0 0)+1)) 1 ((((b.getD 0 0)+1)).toNat) (by omega) (by omega) (by omega) (by omega) (by omega)) fun u hrun43 F=>L0<|ju (.slice u (((((b.getD 0 0)+1)).toNat)-1) (cp-1)) (ft (kl:=.i64) (kh:=.i64) (lo:=1) (hi:=((b.getD 0 0)+1)) (A:=A) (n:=b.length) (c:=cp) rfl Tryz.underlying22 (by kernel_rfl) (by kernel_rfl) (by kernel_rfl) (hrun43 _ _ _))<|?_
 by_cases hE:bp (aR cJ (((b.take ((((b.getD 0 0)+1)).toNat)).drop 1)).length 0 ⟨((b.take ((((b.getD 0 0)+1)).toNat)).drop 1),false,0⟩ []).1.e=0
 refine L0<|Oc (args:=#[.int .i64 0,.int .u8 20,.slice u (((((b.getD 0 0)+1)).toNat)-1) (cp-1)])<|e2 (kK (mh (F _ _ _ _ _ t) (by rw[List.length_drop,List.length_take];omega)) hE) fun aj al y z=>?_
 obtain⟨a1,a2,rfl,an,ao⟩:=aL.shape y.rd
 refine Pl 5<|nt<|sq<|sg<|Pl 2<|nt<|c0<|bi<|sq<|sq<|?_
 refine go<|Pl 3<|L0<|Oi ((b.getD 0 0)+1)<|Pl 1<|nt<|?_
 have G:=aD j z
 refine cb ((decide (((b.getD 0 0)+1)<((b.length:Nat) : Int)))) (fun s=>?_) (fun s=>?_)
 have a3:=of_decide_eq_true s
 refine sg<|Pl 1<|?_
 refine L0<|b7 (ub z g) mZ fun ar a4 a5=>Pl 1<|nt<|rt<|tr<|bN a4 (.int .i64 3)<|?_
 have hE0:(aR cJ (((b.take ((((b.getD 0 0)+1)).toNat)).drop 1)).length 0 ⟨((b.take ((((b.getD 0 0)+1)).toNat)).drop 1),false,0⟩ []).1.e=0:=gq hE
 have hs:bP cJ fo 20 b=(aO.zero,3):=by
   unfold bP dM cU fo
   (try simp only[a,d,f,k,q32naa,q32nab,r,h,s,bs,if_true,if_false,decide_true,decide_false,hE0,i3,reduceIte])
   all_goals rfl
 rw[hs]
 exact bu (ud G a5 i)
 have a3:=of_decide_eq_false s
 refine bi<|sg<|Pl 3<|?_
 have H:=ub z g
 refine L0<|b7 H (mG 20 0 0 0 0 0 0 0 0 0 0 0 nS nS nS (.slice a1 ((aR cJ (((b.take ((((b.getD 0 0)+1)).toNat)).drop 1)).length 0 ⟨((b.take ((((b.getD 0 0)+1)).toNat)).drop 1),false,0⟩ []).2.length) a2) 0 0 0 0 0 nS) fun au a6 B=>Pl 1<|nt<|rt<|bN a6 (.int .i64 0)<|?_
 have hE0:(aR cJ (((b.take ((((b.getD 0 0)+1)).toNat)).drop 1)).length 0 ⟨((b.take ((((b.getD 0 0)+1)).toNat)).drop 1),false,0⟩ []).1.e=0:=gq hE
 have hs:bP cJ fo 20 b=((aO.mk 20 0 0 0 0 0 0 0 0 0 0 0 [] [] [] (aR cJ (((b.take ((((b.getD 0 0)+1)).toNat)).drop 1)).length 0 ⟨((b.take ((((b.getD 0 0)+1)).toNat)).drop 1),false,0⟩ []).2 0 0 0 0 0 []),0):=by
   unfold bP dM cU fo
   (try simp only[a,d,f,k,q32naa,q32nab,r,h,s,bs,if_true,if_false,decide_true,decide_false,hE0,i3,reduceIte])
   all_goals rfl
 rw[hs]
 exact⟨_,rfl,⟨_,_,_,_,_,rfl,aL.nil ..,aL.nil ..,(fun _ _ _=>aL.nil ..),((aq y B (fun x hx=>(aa (fun e=>(aB (am g) lr y) (e▸hx)) aA)) (bq.upd16 B (ap (aT H (by decide)) aG)))).rd,aL.nil ..,(ch (by omega))⟩,(ud G B i)⟩
 refine L0<|Oc (args:=#[.int .i64 0,.int .u8 20,.slice u (((((b.getD 0 0)+1)).toNat)-1) (cp-1)])<|?_
 refine(jw (mh (F _ _ _ _ _ t) (by rw[List.length_drop,List.length_take];omega))).mono ?_
 rintro _ av ⟨aw,ax,ay,rfl,I⟩
 refine⟨_,rfl,?_⟩
 have hE1:(bp (aR cJ (((b.take ((((b.getD 0 0)+1)).toNat)).drop 1)).length 0 ⟨((b.take ((((b.getD 0 0)+1)).toNat)).drop 1),false,0⟩ []).1.e != 0)=true:=by simpa using hE
 refine Pl 5<|nt<|sq<|sg<|Pl 2<|nt<|ct hE1<|sg<|Pl 2<|?_
 refine L0<|b7 (ub I g) mZ fun az a7 a8=>Pl 1<|nt<|rt<|tr<|bN a7 (.int .i64 (bp (aR cJ (((b.take ((((b.getD 0 0)+1)).toNat)).drop 1)).length 0 ⟨((b.take ((((b.getD 0 0)+1)).toNat)).drop 1),false,0⟩ []).1.e))<|?_
 have hE3:((aR cJ (((b.take ((((b.getD 0 0)+1)).toNat)).drop 1)).length 0 ⟨((b.take ((((b.getD 0 0)+1)).toNat)).drop 1),false,0⟩ []).1.e != 0)=true:=jy hE
 have hs:bP cJ fo 20 b=(aO.zero,bp (aR cJ (((b.take ((((b.getD 0 0)+1)).toNat)).drop 1)).length 0 ⟨((b.take ((((b.getD 0 0)+1)).toNat)).drop 1),false,0⟩ []).1.e):=by
   unfold bP dM cU fo
   (try simp only[a,d,f,k,q32naa,q32nab,r,h,hE1,bs,if_true,if_false,decide_true,decide_false,hE3,i3,reduceIte])
   all_goals rfl
 rw[hs]
 exact bu (ud j (uz I a8) i)
theorem un{m:Md}{A:Option Addr}{cp:Nat}{b:List Int}{w:World}(hsl:b9 m w (.slice A b.length cp) b)(hb:b.length≤1048576) :
    Calls Tryz.prog 96 #[.int .i64 1,.int .u8 20,.slice A b.length cp] w (co (.slice A b.length cp) b (bP bJ fp 20 b) w):=by
 have hln:(b.length:Int)≤1048576:=by omega
 have hcp:b.length≤cp:=by obtain⟨_,_,hv,h1,_⟩:=aL.shape hsl;injection hv with _ _ h3;omega
 have hrb:=b9.range hsl
 refine en 101 Tryz.func96 rfl<|sg<|L0<|bH mZ fun a5 a6 i g j=>Pl 1<|nt<|sq<|sg<|Pl 6<|nt<|c0<|?_
 refine bi<|sq<|sg<|Pl 6<|nt<|c0<|bi<|sq<|sg<|?_
 refine Pl 3<|nt<|cb ((((b.length:Nat) : Int)==0)) (fun a=>?_) (fun a=>?_)
 have H:=ah a
 refine sg<|Pl 1<|L0<|b7 g mZ fun a7 I J=>Pl 1<|nt<|rt<|tr<|bN I (.int .i64 2)<|?_
 have hs:bP bJ fp 20 b=(aO.zero,2):=by
   unfold bP dM cU fp
   (try simp only[a,bs,if_true,if_false,decide_true,decide_false,i3,reduceIte])
   all_goals rfl
 rw[hs]
 exact bu (ud j J i)
 have H:=ak a
 refine bi<|sg<|Pl 1<|?_
 have s:=b9.old hsl j
 refine gj (b9.at_ s 0 (by omega)) fun L M N O a8=>L0<|m0 b.length 0 N (by omega)<|L0<|eq (p:=⟨L,M+0,none⟩) (v:=.int .u8 (b.getD 0 0)) O<|L0<|Oi (b.getD 0 0)<|Pl 1<|ng<|Pl 3<|cu 3 [36] 39 (((decide (9≤(b.getD 0 0)))&&(decide ((b.getD 0 0)≤251)))) (fun K B=>?_) ?_
 refine bl 36 ((decide (9≤(b.getD 0 0)))) (fun k=>?_) (fun k=>?_)
 have Q:=of_decide_eq_true k
 exact Pl 3<|ce B (decide ((b.getD 0 0)≤251)) (by rw[k];rfl)
 have Q:=of_decide_eq_false k
 exact Pl 3<|ce B false (by rw[k];rfl)
 refine Pl 1<|nt<|sq<|sg<|Pl 6<|nt<|c0<|bi<|sq<|sq<|?_
 refine go<|Pl 6<|nt<|c1<|go<|Pl 3<|cu 3 [65] 68 (((decide (4≤(b.getD 0 0)))&&(decide ((b.getD 0 0)≤245)))) (fun K C=>?_) ?_
 refine bl 65 ((decide (4≤(b.getD 0 0)))) (fun l=>?_) (fun l=>?_)
 have R:=of_decide_eq_true l
 exact Pl 3<|ce C (decide ((b.getD 0 0)≤245)) (by rw[l];rfl)
 have R:=of_decide_eq_false l
 exact Pl 3<|ce C false (by rw[l];rfl)
 refine Pl 1<|nt<|sq<|sg<|Pl 2<|nt<|cb ((!((decide (4≤(b.getD 0 0)))&&(decide ((b.getD 0 0)≤245))))) (fun d=>?_) (fun d=>?_)
 have f:((decide (4≤(b.getD 0 0)))&&(decide ((b.getD 0 0)≤245)))=false:=by simpa only[Bool.not_eq_true',Bool.not_eq_false'] using d
 refine sg<|Pl 1<|L0<|b7 g mZ fun a9 S T=>Pl 1<|nt<|rt<|tr<|bN S (.int .i64 5)<|?_
 have hs:bP bJ fp 20 b=(aO.zero,5):=by
   unfold bP dM cU fp
   (try simp only[a,d,f,bs,if_true,if_false,decide_true,decide_false,i3,reduceIte])
   all_goals rfl
 rw[hs]
 exact bu (ud j T i)
 have f:((decide (4≤(b.getD 0 0)))&&(decide ((b.getD 0 0)≤245)))=true:=by simpa only[Bool.not_eq_true',Bool.not_eq_false'] using d
 have o:=(aU f).1
 have q:=(aU f).2
 have q30nap:=of_decide_eq_true o
 have q30nbp:=of_decide_eq_true q
 refine bi<|sq<|sg<|Pl 3<|L0<|Oi ((b.getD 0 0)+1)<|Pl 1<|nt<|cb ((decide (((b.length:Nat) : Int)<((b.getD 0 0)+1)))) (fun h=>?_) (fun h=>?_)
 have U:=of_decide_eq_true h
 refine sg<|Pl 1<|L0<|b7 g mZ fun ab V W=>Pl 1<|nt<|rt<|tr<|bN V (.int .i64 2)<|?_
 have hs:bP bJ fp 20 b=(aO.zero,2):=by
   unfold bP dM cU fp
   (try simp only[a,d,f,o,q,h,bs,if_true,if_false,decide_true,decide_false,i3,reduceIte])
   all_goals rfl
 rw[hs]
 exact bu (ud j W i)
 have U:=of_decide_eq_false h
 refine bi<|sg<|Pl 4<|L0<|Oi ((b.getD 0 0)+1)<|nF (iz (P:=Tryz.prog) 22 5 1 Tryz.underlying22 rfl rfl A b.length cp (lo:=1) (up:=((b.getD 0 0)+1)) 1 ((((b.getD 0 0)+1)).toNat) (by omega) (by omega) (by omega) (by omega) (by omega)) fun t hrun41 D=>L0<|ju (.slice t (((((b.getD 0 0)+1)).toNat)-1) (cp-1)) (ft (kl:=.i64) (kh:=.i64) (lo:=1) (hi:=((b.getD 0 0)+1)) (A:=A) (n:=b.length) (c:=cp) rfl Tryz.underlying22 (by kernel_rfl) (by kernel_rfl) (by kernel_rfl) (hrun41 _ _ _))<|?_
 by_cases hE:bp (aR bJ (((b.take ((((b.getD 0 0)+1)).toNat)).drop 1)).length 0 ⟨((b.take ((((b.getD 0 0)+1)).toNat)).drop 1),false,0⟩ []).1.e=0
 refine L0<|Oc (args:=#[.int .i64 1,.int .u8 20,.slice t (((((b.getD 0 0)+1)).toNat)-1) (cp-1)])<|e2 (kK (mv (D _ _ _ _ _ s) (by rw[List.length_drop,List.length_take];omega)) hE) fun ac ad u y=>?_
 obtain⟨X,Y,rfl,ae,af⟩:=aL.shape u.rd
 refine Pl 5<|nt<|sq<|sg<|Pl 2<|nt<|c0<|bi<|sq<|sq<|?_
 refine go<|Pl 3<|L0<|Oi ((b.getD 0 0)+1)<|Pl 1<|nt<|?_
 have E:=aD j y
 refine cb ((decide (((b.getD 0 0)+1)<((b.length:Nat) : Int)))) (fun r=>?_) (fun r=>?_)
 have Z:=of_decide_eq_true r
 refine sg<|Pl 1<|?_
 refine L0<|b7 (ub y g) mZ fun ag a0 a1=>Pl 1<|nt<|rt<|tr<|bN a0 (.int .i64 3)<|?_
 have hE0:(aR bJ (((b.take ((((b.getD 0 0)+1)).toNat)).drop 1)).length 0 ⟨((b.take ((((b.getD 0 0)+1)).toNat)).drop 1),false,0⟩ []).1.e=0:=gq hE
 have hs:bP bJ fp 20 b=(aO.zero,3):=by
   unfold bP dM cU fp
   (try simp only[a,d,f,o,q,h,r,bs,if_true,if_false,decide_true,decide_false,hE0,i3,reduceIte])
   all_goals rfl
 rw[hs]
 exact bu (ud E a1 i)
 have Z:=of_decide_eq_false r
 refine bi<|sg<|Pl 3<|?_
 have F:=ub y g
 refine L0<|b7 F (mG 20 0 0 0 0 0 0 0 0 0 0 0 nS nS nS (.slice X ((aR bJ (((b.take ((((b.getD 0 0)+1)).toNat)).drop 1)).length 0 ⟨((b.take ((((b.getD 0 0)+1)).toNat)).drop 1),false,0⟩ []).2.length) Y) 0 0 0 0 0 nS) fun ai a2 z=>Pl 1<|nt<|rt<|bN a2 (.int .i64 0)<|?_
 have hE0:(aR bJ (((b.take ((((b.getD 0 0)+1)).toNat)).drop 1)).length 0 ⟨((b.take ((((b.getD 0 0)+1)).toNat)).drop 1),false,0⟩ []).1.e=0:=gq hE
 have hs:bP bJ fp 20 b=((aO.mk 20 0 0 0 0 0 0 0 0 0 0 0 [] [] [] (aR bJ (((b.take ((((b.getD 0 0)+1)).toNat)).drop 1)).length 0 ⟨((b.take ((((b.getD 0 0)+1)).toNat)).drop 1),false,0⟩ []).2 0 0 0 0 0 []),0):=by
   unfold bP dM cU fp
   (try simp only[a,d,f,o,q,h,r,bs,if_true,if_false,decide_true,decide_false,hE0,i3,reduceIte])
   all_goals rfl
 rw[hs]
 exact⟨_,rfl,⟨_,_,_,_,_,rfl,aL.nil ..,aL.nil ..,(fun _ _ _=>aL.nil ..),((aq u z (fun x hx=>(aa (fun e=>(aB (am g) lr u) (e▸hx)) aA)) (bq.upd16 z (ap (aT F (by decide)) aG)))).rd,aL.nil ..,(ch (by omega))⟩,(ud E z i)⟩
 refine L0<|Oc (args:=#[.int .i64 1,.int .u8 20,.slice t (((((b.getD 0 0)+1)).toNat)-1) (cp-1)])<|?_
 refine(jw (mv (D _ _ _ _ _ s) (by rw[List.length_drop,List.length_take];omega))).mono ?_
 rintro _ aj ⟨al,an,ao,rfl,G⟩
 refine⟨_,rfl,?_⟩
 have hE1:(bp (aR bJ (((b.take ((((b.getD 0 0)+1)).toNat)).drop 1)).length 0 ⟨((b.take ((((b.getD 0 0)+1)).toNat)).drop 1),false,0⟩ []).1.e != 0)=true:=by simpa using hE
 refine Pl 5<|nt<|sq<|sg<|Pl 2<|nt<|ct hE1<|sg<|Pl 2<|?_
 refine L0<|b7 (ub G g) mZ fun ar a3 a4=>Pl 1<|nt<|rt<|tr<|bN a3 (.int .i64 (bp (aR bJ (((b.take ((((b.getD 0 0)+1)).toNat)).drop 1)).length 0 ⟨((b.take ((((b.getD 0 0)+1)).toNat)).drop 1),false,0⟩ []).1.e))<|?_
 have hE3:((aR bJ (((b.take ((((b.getD 0 0)+1)).toNat)).drop 1)).length 0 ⟨((b.take ((((b.getD 0 0)+1)).toNat)).drop 1),false,0⟩ []).1.e != 0)=true:=jy hE
 have hs:bP bJ fp 20 b=(aO.zero,bp (aR bJ (((b.take ((((b.getD 0 0)+1)).toNat)).drop 1)).length 0 ⟨((b.take ((((b.getD 0 0)+1)).toNat)).drop 1),false,0⟩ []).1.e):=by
   unfold bP dM cU fp
   (try simp only[a,d,f,o,q,h,hE1,bs,if_true,if_false,decide_true,decide_false,hE3,i3,reduceIte])
   all_goals rfl
 rw[hs]
 exact bu (ud j (uz G a4) i)
theorem uh{m:Md}{A:Option Addr}{cp:Nat}{b:List Int}{w:World}{dir:Int}(hd:dir=0∨dir=1)(hsl:b9 m w (.slice A b.length cp) b)(hb:b.length≤1048576) :
    Calls Tryz.prog 96 #[.int .i64 dir,.int .u8 21,.slice A b.length cp] w (co (.slice A b.length cp) b (bP cK fx 21 b) w):=by
 have hln:(b.length:Int)≤1048576:=by omega
 have hcp:b.length≤cp:=by obtain⟨_,_,hv,h1,_⟩:=aL.shape hsl;injection hv with _ _ h3;omega
 have hrb:=b9.range hsl
 have g:((dir != 0)&&(dir != 1))=false:=by rcases hd with rfl | rfl<;>rfl
 refine en 101 Tryz.func96 rfl<|sg<|L0<|bH mZ fun a6 a7 j h k=>Pl 1<|nt<|sq<|sg<|Pl 3<|cu 3 [14] 17 (((dir != 0)&&(dir != 1))) (fun K C=>?_) ?_
 refine bl 14 ((dir != 0)) (fun l=>?_) (fun l=>?_)
 have I:=ay l
 exact Pl 3<|ce C (dir != 1) (by rw[l];rfl)
 have I:=ag l
 exact Pl 3<|ce C false (by rw[l];rfl)
 refine nt<|cf g<|bi<|sq<|sg<|Pl 6<|nt<|c0<|bi<|?_
 refine sq<|sg<|Pl 3<|nt<|cb ((((b.length:Nat) : Int)==0)) (fun a=>?_) (fun a=>?_)
 have J:=ah a
 refine sg<|Pl 1<|L0<|b7 h mZ fun a8 L M=>Pl 1<|nt<|rt<|tr<|bN L (.int .i64 2)<|?_
 have hs:bP cK fx 21 b=(aO.zero,2):=by
   unfold bP dM cU fx
   (try simp only[g,a,bs,if_true,if_false,decide_true,decide_false,i3,reduceIte])
   all_goals rfl
 rw[hs]
 exact bu (ud k M j)
 have J:=ak a
 refine bi<|sg<|Pl 1<|?_
 have t:=b9.old hsl k
 refine gj (b9.at_ t 0 (by omega)) fun N O Q R a9=>L0<|m0 b.length 0 Q (by omega)<|L0<|eq (p:=⟨N,O+0,none⟩) (v:=.int .u8 (b.getD 0 0)) R<|L0<|Oi (b.getD 0 0)<|Pl 1<|ng<|Pl 3<|cu 3 [36] 39 (((decide (9≤(b.getD 0 0)))&&(decide ((b.getD 0 0)≤251)))) (fun K D=>?_) ?_
 refine bl 36 ((decide (9≤(b.getD 0 0)))) (fun o=>?_) (fun o=>?_)
 have S:=of_decide_eq_true o
 exact Pl 3<|ce D (decide ((b.getD 0 0)≤251)) (by rw[o];rfl)
 have S:=of_decide_eq_false o
 exact Pl 3<|ce D false (by rw[o];rfl)
 refine Pl 1<|nt<|sq<|sg<|Pl 6<|nt<|c0<|bi<|sq<|sq<|?_
 refine go<|Pl 6<|nt<|c0<|bi<|sq<|sg<|Pl 2<|nt<|cb ((!((decide (9≤(b.getD 0 0)))&&(decide ((b.getD 0 0)≤251))))) (fun d=>?_) (fun d=>?_)
 have f:((decide (9≤(b.getD 0 0)))&&(decide ((b.getD 0 0)≤251)))=false:=by simpa only[Bool.not_eq_true',Bool.not_eq_false'] using d
 refine sg<|Pl 1<|L0<|b7 h mZ fun ab T U=>Pl 1<|nt<|rt<|tr<|bN T (.int .i64 5)<|?_
 have hs:bP cK fx 21 b=(aO.zero,5):=by
   unfold bP dM cU fx
   (try simp only[g,a,d,f,bs,if_true,if_false,decide_true,decide_false,i3,reduceIte])
   all_goals rfl
 rw[hs]
 exact bu (ud k U j)
 have f:((decide (9≤(b.getD 0 0)))&&(decide ((b.getD 0 0)≤251)))=true:=by simpa only[Bool.not_eq_true',Bool.not_eq_false'] using d
 have q:=(aU f).1
 have r:=(aU f).2
 have q30nap:=of_decide_eq_true q
 have q30nbp:=of_decide_eq_true r
 refine bi<|sq<|sg<|Pl 3<|L0<|Oi ((b.getD 0 0)+1)<|Pl 1<|nt<|cb ((decide (((b.length:Nat) : Int)<((b.getD 0 0)+1)))) (fun i=>?_) (fun i=>?_)
 have V:=of_decide_eq_true i
 refine sg<|Pl 1<|L0<|b7 h mZ fun ac W X=>Pl 1<|nt<|rt<|tr<|bN W (.int .i64 2)<|?_
 have hs:bP cK fx 21 b=(aO.zero,2):=by
   unfold bP dM cU fx
   (try simp only[g,a,d,f,q,r,i,bs,if_true,if_false,decide_true,decide_false,i3,reduceIte])
   all_goals rfl
 rw[hs]
 exact bu (ud k X j)
 have V:=of_decide_eq_false i
 refine bi<|sg<|Pl 4<|L0<|Oi ((b.getD 0 0)+1)<|nF (iz (P:=Tryz.prog) 22 5 1 Tryz.underlying22 rfl rfl A b.length cp (lo:=1) (up:=((b.getD 0 0)+1)) 1 ((((b.getD 0 0)+1)).toNat) (by omega) (by omega) (by omega) (by omega) (by omega)) fun u hrun41 E=>L0<|ju (.slice u (((((b.getD 0 0)+1)).toNat)-1) (cp-1)) (ft (kl:=.i64) (kh:=.i64) (lo:=1) (hi:=((b.getD 0 0)+1)) (A:=A) (n:=b.length) (c:=cp) rfl Tryz.underlying22 (by kernel_rfl) (by kernel_rfl) (by kernel_rfl) (hrun41 _ _ _))<|?_
 by_cases hE:bp (aR cK (((b.take ((((b.getD 0 0)+1)).toNat)).drop 1)).length 0 ⟨((b.take ((((b.getD 0 0)+1)).toNat)).drop 1),false,0⟩ []).1.e=0
 refine L0<|Oc (args:=#[.int .i64 dir,.int .u8 21,.slice u (((((b.getD 0 0)+1)).toNat)-1) (cp-1)])<|e2 (kK (mr (E _ _ _ _ _ t) (by rw[List.length_drop,List.length_take];omega)) hE) fun ad ae y z=>?_
 obtain⟨Y,Z,rfl,af,ai⟩:=aL.shape y.rd
 refine Pl 5<|nt<|sq<|sg<|Pl 2<|nt<|c0<|bi<|sq<|sq<|?_
 refine go<|Pl 3<|L0<|Oi ((b.getD 0 0)+1)<|Pl 1<|nt<|?_
 have F:=aD k z
 refine cb ((decide (((b.getD 0 0)+1)<((b.length:Nat) : Int)))) (fun s=>?_) (fun s=>?_)
 have a0:=of_decide_eq_true s
 refine sg<|Pl 1<|?_
 refine L0<|b7 (ub z h) mZ fun aj a1 a2=>Pl 1<|nt<|rt<|tr<|bN a1 (.int .i64 3)<|?_
 have hE0:(aR cK (((b.take ((((b.getD 0 0)+1)).toNat)).drop 1)).length 0 ⟨((b.take ((((b.getD 0 0)+1)).toNat)).drop 1),false,0⟩ []).1.e=0:=gq hE
 have hs:bP cK fx 21 b=(aO.zero,3):=by
   unfold bP dM cU fx
   (try simp only[g,a,d,f,q,r,i,s,bs,if_true,if_false,decide_true,decide_false,hE0,i3,reduceIte])
   all_goals rfl
 rw[hs]
 exact bu (ud F a2 j)
 have a0:=of_decide_eq_false s
 refine bi<|sg<|Pl 3<|?_
 have G:=ub z h
 refine L0<|b7 G (mG 21 0 0 0 0 0 0 0 0 0 0 0 nS nS nS (.slice Y ((aR cK (((b.take ((((b.getD 0 0)+1)).toNat)).drop 1)).length 0 ⟨((b.take ((((b.getD 0 0)+1)).toNat)).drop 1),false,0⟩ []).2.length) Z) 0 0 0 0 0 nS) fun al a3 B=>Pl 1<|nt<|rt<|bN a3 (.int .i64 0)<|?_
 have hE0:(aR cK (((b.take ((((b.getD 0 0)+1)).toNat)).drop 1)).length 0 ⟨((b.take ((((b.getD 0 0)+1)).toNat)).drop 1),false,0⟩ []).1.e=0:=gq hE
 have hs:bP cK fx 21 b=((aO.mk 21 0 0 0 0 0 0 0 0 0 0 0 [] [] [] (aR cK (((b.take ((((b.getD 0 0)+1)).toNat)).drop 1)).length 0 ⟨((b.take ((((b.getD 0 0)+1)).toNat)).drop 1),false,0⟩ []).2 0 0 0 0 0 []),0):=by
   unfold bP dM cU fx
   (try simp only[g,a,d,f,q,r,i,s,bs,if_true,if_false,decide_true,decide_false,hE0,i3,reduceIte])
   all_goals rfl
 rw[hs]
 exact⟨_,rfl,⟨_,_,_,_,_,rfl,aL.nil ..,aL.nil ..,(fun _ _ _=>aL.nil ..),((aq y B (fun x hx=>(aa (fun e=>(aB (am h) lr y) (e▸hx)) aA)) (bq.upd16 B (ap (aT G (by decide)) aG)))).rd,aL.nil ..,(ch (by omega))⟩,(ud F B j)⟩
 refine L0<|Oc (args:=#[.int .i64 dir,.int .u8 21,.slice u (((((b.getD 0 0)+1)).toNat)-1) (cp-1)])<|?_
 refine(jw (mr (E _ _ _ _ _ t) (by rw[List.length_drop,List.length_take];omega))).mono ?_
 rintro _ an ⟨ao,ar,au,rfl,H⟩
 refine⟨_,rfl,?_⟩
 have hE1:(bp (aR cK (((b.take ((((b.getD 0 0)+1)).toNat)).drop 1)).length 0 ⟨((b.take ((((b.getD 0 0)+1)).toNat)).drop 1),false,0⟩ []).1.e != 0)=true:=by simpa using hE
 refine Pl 5<|nt<|sq<|sg<|Pl 2<|nt<|ct hE1<|sg<|Pl 2<|?_
 refine L0<|b7 (ub H h) mZ fun av a4 a5=>Pl 1<|nt<|rt<|tr<|bN a4 (.int .i64 (bp (aR cK (((b.take ((((b.getD 0 0)+1)).toNat)).drop 1)).length 0 ⟨((b.take ((((b.getD 0 0)+1)).toNat)).drop 1),false,0⟩ []).1.e))<|?_
 have hE3:((aR cK (((b.take ((((b.getD 0 0)+1)).toNat)).drop 1)).length 0 ⟨((b.take ((((b.getD 0 0)+1)).toNat)).drop 1),false,0⟩ []).1.e != 0)=true:=jy hE
 have hs:bP cK fx 21 b=(aO.zero,bp (aR cK (((b.take ((((b.getD 0 0)+1)).toNat)).drop 1)).length 0 ⟨((b.take ((((b.getD 0 0)+1)).toNat)).drop 1),false,0⟩ []).1.e):=by
   unfold bP dM cU fx
   (try simp only[g,a,d,f,q,r,i,hE1,bs,if_true,if_false,decide_true,decide_false,hE3,i3,reduceIte])
   all_goals rfl
 rw[hs]
 exact bu (ud k (uz H a5) j)
theorem s6{A:Option Addr}{cp:Nat}{b:List Int}{w:World}{dir c:Int}(hd:dir=0∨dir=1)(hc:¬ c=20∧¬ c=21) :
    Calls Tryz.prog 96 #[.int .i64 dir,.int .u8 c,.slice A b.length cp] w (co (.slice A b.length cp) b (aO.zero,4) w):=by
 have g:((dir != 0)&&(dir != 1))=false:=by rcases hd with rfl | rfl<;>rfl
 have e2:((c != 20)&&(c != 21))=true:=by simp[hc.1,hc.2]
 refine en 101 Tryz.func96 rfl<|sg<|L0<|bH mZ fun o p h i j=>Pl 1<|nt<|sq<|sg<|Pl 3<|cu 3 [14] 17 (((dir != 0)&&(dir != 1))) (fun K e=>?_) ?_
 refine bl 14 ((dir != 0)) (fun a=>?_) (fun a=>?_)
 have k:=ay a
 exact Pl 3<|ce e (dir != 1) (by rw[a];rfl)
 have k:=ag a
 exact Pl 3<|ce e false (by rw[a];rfl)
 refine nt<|cf g<|bi<|sq<|sg<|Pl 3<|cu 3 [21] 24 (((c != 20)&&(c != 21))) (fun K f=>?_) ?_
 refine bl 21 ((c != 20)) (fun d=>?_) (fun d=>?_)
 have l:=ay d
 exact Pl 3<|ce f (c != 21) (by rw[d];rfl)
 have l:=ag d
 exact Pl 3<|ce f false (by rw[d];rfl)
 refine nt<|ct e2<|sg<|Pl 1<|L0<|b7 i mZ fun q m n=>Pl 1<|nt<|rt<|tr<|bN m (.int .i64 4)<|?_
 exact bu (ud j n h)
theorem u4{A:Option Addr}{cp:Nat}{b:List Int}{w:World}{dir c:Int}(hd:¬ (dir=0∨dir=1)) :
    Calls Tryz.prog 96 #[.int .i64 dir,.int .u8 c,.slice A b.length cp] w (co (.slice A b.length cp) b (aO.zero,1) w):=by
 have e:((dir != 0)&&(dir != 1))=true:=by simp;omega
 refine en 101 Tryz.func96 rfl<|sg<|L0<|bH mZ fun l m f g h=>Pl 1<|nt<|sq<|sg<|Pl 3<|cu 3 [14] 17 (((dir != 0)&&(dir != 1))) (fun K d=>?_) ?_
 refine bl 14 ((dir != 0)) (fun a=>?_) (fun a=>?_)
 have i:=ay a
 exact Pl 3<|ce d (dir != 1) (by rw[a];rfl)
 have i:=ag a
 exact Pl 3<|ce d false (by rw[a];rfl)
 refine nt<|ct e<|sg<|Pl 1<|L0<|b7 g mZ fun n j k=>Pl 1<|nt<|rt<|tr<|bN j (.int .i64 1)<|?_
 exact bu (ud h k f)
theorem qz{dir c:Int}{b:List Int}(hd:dir=0∨dir=1)(hc:¬ c=20∧¬ c=21) : ai aX dir c b=(aO.zero,4):=by
  unfold ai aX
  rw[if_pos hd,if_neg (by simpa using hc.1),if_neg (by simpa using hc.2)]
theorem rZ{form:Int→Int→aj→Option (aj × aO)}{dir c:Int}{b:List Int}(hd:¬ (dir=0∨dir=1)) : ai form dir c b=(aO.zero,1):=by
  unfold ai
  rw[if_neg hd]
theorem j7{m:Md}{v:Value}{b:List Int}{w:World}{dir c:Int}(hc:B8 c)(h:b9 m w v b)(hb:b.length≤1048576) :
    Calls Tryz.prog 96 #[.int .i64 dir,.int .u8 c,v] w (co v b (ai aX dir c b) w):=by
  have hr:=b9.range h
  obtain⟨A,cp,rfl,_,_⟩:=h.shape
  by_cases hd:dir=0∨dir=1
  · by_cases a:c=20
    · subst a
      rcases hd with rfl|rfl
      · rw[qf hr];exact sQ h hb
      · rw[pQ hr];exact un h hb
    · by_cases d:c=21
      · subst d
        rw[tp hd hr];exact uh hd h hb
      · rw[qz hd ⟨a,d⟩];exact s6 hd ⟨a,d⟩
  · rw[rZ hd];exact u4 hd
open Go.RowKit
theorem uA{k i:Nat}{C:aj}{L:List Obj}{R:aj × List Obj}(h:ed (k-i) C L=R)(hk:k-i=0) : R=(C,L):=by
  rw[hk] at h
  exact h.symm
theorem lM{m:Md}{A:Option Addr}{cp:Nat}{b:List Int}{w:World}{c:Int}(hcode:B8 c)(hsl:b9 m w (.slice A b.length cp) b)(hb:b.length≤1048576) :
    Calls Tryz.prog 97 #[.int .i64 0,.int .u8 c,.slice A b.length cp] w (co (.slice A b.length cp) b (ai cH 0 c b) w):=by
 obtain⟨hcode1,hcode2⟩:=hcode
 have hln:(b.length:Int)≤1048576:=by omega
 refine en 176 Tryz.func97 rfl<|sg<|L0<|bH mZ fun bx bz q j a=>Pl 1<|nt<|sq<|sg<|Pl 6<|nt<|c0<|?_
 refine bi<|sq<|sg<|Pl 2<|nt<|cb ((c != 43)) (fun k=>?_) (fun k=>?_)
 have aF:=ay k
 refine sg<|Pl 1<|L0<|b7 j mZ fun bA aG aH=>Pl 1<|nt<|rt<|tr<|bN aG (.int .i64 4)<|?_
 have hs:ai cH 0 c b=(aO.zero,4):=by
   unfold ai cH ee jq hY hH ga eX fk dx
   (try simp only[k,bs,if_true,if_false,decide_true,decide_false,eq_self,true_or,or_true,or_false,false_or,if_true,if_false,dC,dD,dB,dA,reduceIte])
   all_goals rfl
 rw[hs]
 exact bu (ud a aH q)
 have aF:=ag k
 refine bi<|sg<|Pl 2<|L0<|dq #[.slice A b.length cp,.int .i64 0,.bool false,.int .i64 0] fun r bB d W h=>Pl 1<|ng<|Pl 1<|L0<|bH mZ fun bC bD g aI aJ=>L0<|b7 aI (mC 43) fun aK aM aP=>?_
 refine ng<|Pl 1<|?_
 have X:=ud aJ aP g
 have s:=aD h X
 have Y:=aD a s
 have aQ:RC w _ A cp b aK r (aj.mk b false 0):=⟨hsl,Y,(Nat.le_trans a.size d),⟨0,(ub X W),Nat.zero_le _,rfl⟩,by omega⟩
 refine L0<|Oc<|m3 (dX aQ) fun bE aR Z bF=>Pl 1<|?_
 have f:=nb (am W) lr g
 refine L0<|bX (aW Z (Ne.symm f) aM) 16 (mG 43 0 0 0 0 0 0 0 0 0 0 0 nS nS nS nS ((aj.mk b false 0).byteV) 0 0 0 0 nS) fun bG I a0=>ng<|Pl 2<|L0<|aN I 16<|Pl 2<|cu 4 [38] 42 (((((aj.mk b false 0).byteV)==13)||(((aj.mk b false 0).byteV)==14))) (fun K a1=>?_) ?_
 refine bl 38 ((((aj.mk b false 0).byteV)==13)) (fun t=>?_) (fun t=>?_)
 have aS:=ah t
 exact Pl 4<|ce a1 true (by rw[t];rfl)
 have aS:=ak t
 exact Pl 1<|L1<|aN I 16<|Pl 2<|ce a1 (((aj.mk b false 0).byteV)==14) (by rw[t];rfl)
 have x:=us Z a0
 have a2:=ut Y x (ac (ni a.size d) (ac (ni (le a.size h.size) g) ax))
 refine L0<|Oc<|m2 (aY (((((aj.mk b false 0).byteV)==13)||(((aj.mk b false 0).byteV)==14))) 8 (RC.upd aR a0 (aa f aA) a2)) fun bI aT o=>?_
 refine fP aT fun x55 a3 y=>?_
 refine nt<|sq<|bk<|sg<|Pl 1<|?_
 have J:=aW o (Ne.symm f) I
 refine L0<|aN J 16<|Pl 2<|nt<|?_
 have a4:=ud a2 o (le a.size d)
 refine cb ((((aj.mk b false 0).byteV)==13)) (fun z=>?_) (fun z=>?_)
 have aU:=ah z
 refine sg<|Pl 1<|L0<|Oc<|m1 (iF y) fun bJ L=>?_
 have bK:=RC.clen y
 refine Pl 1<|ng<|Pl 3<|?_
 refine L0<|Oc<|m2 (aY ((decide (((x55.l.length:Nat) : Int)≤251))) 5 (RC.upd y L aA (aC.step (RC.u y) L))) fun bL a5 aV=>nt<|go<|Pl 2<|L0<|Oc<|pg (fz (n:=((x55.l.length:Nat) : Int)) (by omega) a5) fun a6 a7 bO aX aZ b0=>?_
 have bP:=Nat.le_trans (aj.bytesR_le (x55.need (decide (((x55.l.length:Nat) : Int)≤251)) 5) ((x55.l.length:Nat) : Int)) (RC.clen a5)
 refine fP aZ fun kD b1 b2=>?_
 refine Pl 1<|?_
 have a8:=uz L (u1 aV b0 im)
 refine L0<|bX (aW a8 (Ne.symm f) J) 14 (mG 43 0 0 0 0 0 0 0 0 0 0 0 nS nS (.slice a6 (((x55.need (decide (((x55.l.length:Nat) : Int)≤251)) 5).bytesR ((x55.l.length:Nat) : Int)).length) a7) nS ((aj.mk b false 0).byteV) 0 0 0 0 nS) fun bQ b3 a9=>nl<|bn<|tn<|sg<|Pl 1<|?_
 have M:=us a8 a9
 have ab:=ut a4 M (ac (ni a.size d) (ac (ni (le a.size h.size) g) ax))
 refine L0<|Oc<|m2 (et (RC.upd b2 a9 (aa f aA) ab)) fun bR N E=>nt<|sq<|sg<|Pl 3<|L0<|eq (p:=⟨r,3,none⟩) (v:=.int .i64 kD.endC.e) (RC.fld N)<|Pl 1<|nt<|?_
 have ad:=ud ab E (le a.size d)
 have hs:ai cH 0 c b=b6 (aO.mk 43 0 0 0 0 0 0 0 0 0 0 0 [] [] ((x55.need (decide (((x55.l.length:Nat) : Int)≤251)) 5).bytesR ((x55.l.length:Nat) : Int)) [] ((aj.mk b false 0).byteV) 0 0 0 0 []) kD:=by
   subst b1 a3
   unfold ai cH ee jq hY hH ga eX fk dx
   (try simp only[k,z,bs,if_true,if_false,decide_true,decide_false,eq_self,true_or,or_true,or_false,false_or,if_true,if_false,dC,dD,dB,dA,reduceIte])
   all_goals rfl
 refine cb ((kD.endC.e != 0)) (fun O=>?_) (fun O=>?_)
 have P:=ay O
 refine sq<|Rg 7 (fun w'=>w'.cell? ⟨r,3,none⟩=some (.int .i64 kD.endC.e)) fun bS F=>?_
 have ae:=RC.upd N F aA (aC.step (RC.u N) F)
 refine bg (RC.fld ae) fun B=>Rt 0 B<|Rt 1 B<|Rt 2 B<|Rt 3 B<|Rl 4 B (fun _ hs=>hs)<|?_
 refine R0 5 rfl<|b7 (ub (ut s (ut x (ui o (u1 M (aD E F) im)) (ac im (ac im ax))) (ac (nr d) (ac (ni h.size g) ax))) j) mZ fun bT b4 af=>?_
 have al:=ud ad (uz F af) q
 refine bg (RC.fld (RC.upd ae af (aa (Ne.symm (nb (am j) lr d)) aA) al)) fun b5=>Rt 6 b5<|re<|tn<|rt<|tr<|bN b4 (.int .i64 kD.endC.e)<|?_
 rw[hs]
 exact bf P al
 have P:=ag O
 refine bi<|sg<|?_
 refine L0<|bM (aW E (Ne.symm f) b3)<|?_
 refine L0<|b7 (ub (ut s (ut x (ui o (u1 M E im)) (ac im (ac im ax))) (ac (nr d) (ac (ni h.size g) ax))) j) (mG 43 0 0 0 0 0 0 0 0 0 0 0 nS nS (.slice a6 (((x55.need (decide (((x55.l.length:Nat) : Int)≤251)) 5).bytesR ((x55.l.length:Nat) : Int)).length) a7) nS ((aj.mk b false 0).byteV) 0 0 0 0 nS) fun bU b8 ba=>Pl 1<|nt<|rt<|bN b8 (.int .i64 0)<|?_
 rw[hs]
 exact bo P ⟨_,_,_,_,_,rfl,aL.nil ..,aL.nil ..,aX,aL.nil ..,aL.nil ..,(ch (by omega))⟩ (ud ad ba q)
 have aU:=ak z
 refine sg<|Pl 3<|nt<|c1<|sg<|Pl 1<|L0<|Oc<|m3 (dX y) fun bV bb an bW=>Pl 1<|?_
 refine L0<|bX (aW an (Ne.symm f) J) 17 (mG 43 0 0 0 0 0 0 0 0 0 0 0 nS nS nS nS ((aj.mk b false 0).byteV) x55.byteV 0 0 0 nS) fun bY Q ao=>ng<|Pl 2<|L0<|aN Q 17<|Pl 2<|cu 4 [154] 158 (((decide (0<x55.byteV))&&(decide (x55.byteV<5)))) (fun K ap=>?_) ?_
 refine bl 154 ((decide (0<x55.byteV))) (fun C=>?_) (fun C=>?_)
 have bc:=of_decide_eq_true C
 exact Pl 1<|L1<|aN Q 17<|Pl 2<|ce ap (decide (x55.byteV<5)) (by rw[C];rfl)
 have bc:=of_decide_eq_false C
 exact Pl 4<|ce ap false (by rw[C];rfl)
 have R:=us an ao
 have aq:=ut a4 R (ac (ni a.size d) (ac (ni (le a.size h.size) g) ax))
 refine L0<|Oc<|m2 (aY (((decide (0<x55.byteV))&&(decide (x55.byteV<5)))) 6 (RC.upd bb ao (aa f aA) aq)) fun bZ bd be=>?_
 refine fP bd fun i bh bj=>?_
 refine nt<|go<|Pl 1<|L0<|Oc<|m3 (dX bj) fun c2 bm bp c3=>Pl 1<|?_
 have ar:=u1 be bp im
 refine L0<|bX (aW ar (Ne.symm f) Q) 20 (mG 43 0 0 0 0 0 0 0 0 0 0 0 nS nS nS nS ((aj.mk b false 0).byteV) x55.byteV 0 0 i.byteV nS) fun c4 bq au=>nl<|bn<|tn<|sg<|Pl 1<|?_
 have S:=us ar au
 have av:=ut aq S (ac (ni a.size d) (ac (ni (le a.size h.size) g) ax))
 refine L0<|Oc<|m2 (et (RC.upd bm au (aa f aA) av)) fun c5 T G=>nt<|sq<|sg<|Pl 3<|L0<|eq (p:=⟨r,3,none⟩) (v:=.int .i64 (((i.bytesC 1).endC).e)) (RC.fld T)<|Pl 1<|nt<|?_
 have aw:=ud av G (le a.size d)
 have hs:ai cH 0 c b=b6 (aO.mk 43 0 0 0 0 0 0 0 0 0 0 0 [] [] [] [] ((aj.mk b false 0).byteV) x55.byteV 0 0 i.byteV []) (i.bytesC 1):=by
   subst bh a3
   unfold ai cH ee jq hY hH ga eX fk dx
   (try simp only[k,z,bs,if_true,if_false,decide_true,decide_false,eq_self,true_or,or_true,or_false,false_or,if_true,if_false,dC,dD,dB,dA,reduceIte])
   all_goals rfl
 refine cb (((((i.bytesC 1).endC).e)!=0)) (fun U=>?_) (fun U=>?_)
 have V:=ay U
 refine sq<|Rg 7 (fun w'=>w'.cell? ⟨r,3,none⟩=some (.int .i64 (((i.bytesC 1).endC).e))) fun c6 H=>?_
 have az:=RC.upd T H aA (aC.step (RC.u T) H)
 refine bg (RC.fld az) fun D=>Rt 0 D<|Rt 1 D<|Rt 2 D<|Rt 3 D<|Rl 4 D (fun _ hs=>hs)<|?_
 refine R0 5 rfl<|b7 (ub (ut s (ut x (ui o (ut R (u1 S (aD G H) im) (ac im (ac im ax)))) (ac im (ac im ax))) (ac (nr d) (ac (ni h.size g) ax))) j) mZ fun c7 br aB=>?_
 have aE:=ud aw (uz H aB) q
 refine bg (RC.fld (RC.upd az aB (aa (Ne.symm (nb (am j) lr d)) aA) aE)) fun bt=>Rt 6 bt<|re<|tn<|rt<|tr<|bN br (.int .i64 (((i.bytesC 1).endC).e))<|?_
 rw[hs]
 exact bf V aE
 have V:=ag U
 refine bi<|sg<|?_
 refine L0<|bM (aW G (Ne.symm f) bq)<|?_
 refine L0<|b7 (ub (ut s (ut x (ui o (ut R (u1 S G im) (ac im (ac im ax)))) (ac im (ac im ax))) (ac (nr d) (ac (ni h.size g) ax))) j) (mG 43 0 0 0 0 0 0 0 0 0 0 0 nS nS nS nS ((aj.mk b false 0).byteV) x55.byteV 0 0 i.byteV nS) fun c8 bv bw=>Pl 1<|nt<|rt<|bN bv (.int .i64 0)<|?_
 rw[hs]
 exact bo V ⟨_,_,_,_,_,rfl,aL.nil ..,aL.nil ..,(fun _ _ _=>aL.nil ..),aL.nil ..,aL.nil ..,(ch (by omega))⟩ (ud aw bw q)
theorem lN{m:Md}{A:Option Addr}{cp:Nat}{b:List Int}{w:World}{c:Int}(hcode:B8 c)(hsl:b9 m w (.slice A b.length cp) b)(hb:b.length≤1048576) :
    Calls Tryz.prog 97 #[.int .i64 1,.int .u8 c,.slice A b.length cp] w (co (.slice A b.length cp) b (ai cH 1 c b) w):=by
 obtain⟨hcode1,hcode2⟩:=hcode
 have hln:(b.length:Int)≤1048576:=by omega
 refine en 176 Tryz.func97 rfl<|sg<|L0<|bH mZ fun Y dJ I t a=>Pl 1<|nt<|sq<|sg<|Pl 6<|nt<|c0<|?_
 refine bi<|sq<|sg<|Pl 2<|nt<|cb ((c != 43)) (fun D=>?_) (fun D=>?_)
 have cv:=ay D
 refine sg<|Pl 1<|L0<|b7 t mZ fun dK cw cx=>Pl 1<|nt<|rt<|tr<|bN cw (.int .i64 4)<|?_
 have hs:ai cH 1 c b=(aO.zero,4):=by
   unfold ai cH ee jq hY hH ga eX fk dx
   (try simp only[D,bs,if_true,if_false,decide_true,decide_false,eq_self,true_or,or_true,or_false,false_or,if_true,if_false,dC,dD,dB,dA,reduceIte])
   all_goals rfl
 rw[hs]
 exact bu (ud a cx I)
 have cv:=ag D
 refine bi<|sg<|Pl 2<|L0<|dq #[.slice A b.length cp,.int .i64 0,.bool false,.int .i64 0] fun s dL f b0 o=>Pl 1<|ng<|Pl 1<|L0<|bH mZ fun E dM q cy b1=>L0<|b7 cy (mC 43) fun cz cA b2=>?_
 refine ng<|Pl 1<|?_
 have b3:=ud b1 b2 q
 have Z:=aD o b3
 have b4:=aD a Z
 have cB:RC w _ A cp b cz s (aj.mk b false 0):=⟨hsl,b4,(Nat.le_trans a.size f),⟨0,(ub b3 b0),Nat.zero_le _,rfl⟩,by omega⟩
 refine L0<|Oc<|m3 (dX cB) fun dN cC a7 dO=>Pl 1<|?_
 have g:=nb (am b0) lr q
 refine L0<|bX (aW a7 (Ne.symm g) cA) 16 (mG 43 0 0 0 0 0 0 0 0 0 0 0 nS nS nS nS ((aj.mk b false 0).byteV) 0 0 0 0 nS) fun dP a8 a9=>ng<|Pl 2<|L0<|aN a8 16<|Pl 2<|cu 4 [38] 42 (((((aj.mk b false 0).byteV)==13)||(((aj.mk b false 0).byteV)==14))) (fun K b5=>?_) ?_
 refine bl 38 ((((aj.mk b false 0).byteV)==13)) (fun J=>?_) (fun J=>?_)
 have cD:=ah J
 exact Pl 4<|ce b5 true (by rw[J];rfl)
 have cD:=ak J
 exact Pl 1<|L1<|aN a8 16<|Pl 2<|ce b5 (((aj.mk b false 0).byteV)==14) (by rw[J];rfl)
 have a0:=us a7 a9
 have ba:=ut b4 a0 (ac (ni a.size f) (ac (ni (le a.size o.size) q) ax))
 refine L0<|Oc<|m2 (aY (((((aj.mk b false 0).byteV)==13)||(((aj.mk b false 0).byteV)==14))) 8 (RC.upd cC a9 (aa g aA) ba)) fun dQ cE F=>?_
 refine fP cE fun x55 bb M=>?_
 refine nt<|sq<|bk<|sg<|Pl 1<|?_
 have ab:=aW F (Ne.symm g) a8
 refine L0<|aN ab 16<|Pl 2<|nt<|?_
 have bc:=ud ba F (le a.size f)
 refine cb ((((aj.mk b false 0).byteV)==13)) (fun N=>?_) (fun N=>?_)
 have cF:=ah N
 refine sg<|Pl 1<|L0<|Oc<|m1 (iF M) fun dR ad=>?_
 have dS:=RC.clen M
 refine Pl 1<|ng<|Pl 3<|?_
 refine L0<|Oc<|m2 (aY ((decide (((x55.l.length:Nat) : Int)≤251))) 5 (RC.upd M ad aA (aC.step (RC.u M) ad))) fun dT bd cG=>nt<|go<|Pl 2<|L0<|Oc<|pg (fz (n:=((x55.l.length:Nat) : Int)) (by omega) bd) fun be bh dU cI cJ cK=>?_
 have dV:=Nat.le_trans (aj.bytesR_le (x55.need (decide (((x55.l.length:Nat) : Int)≤251)) 5) ((x55.l.length:Nat) : Int)) (RC.clen bd)
 refine fP cJ fun kD cM cN=>?_
 refine Pl 1<|?_
 have bm:=uz ad (u1 cG cK im)
 refine L0<|bX (aW bm (Ne.symm g) ab) 14 (mG 43 0 0 0 0 0 0 0 0 0 0 0 nS nS (.slice be (((x55.need (decide (((x55.l.length:Nat) : Int)≤251)) 5).bytesR ((x55.l.length:Nat) : Int)).length) bh) nS ((aj.mk b false 0).byteV) 0 0 0 0 nS) fun dW cO bp=>nl<|bn<|tn<|sg<|Pl 1<|?_
 have ae:=us bm bp
 have bq:=ut bc ae (ac (ni a.size f) (ac (ni (le a.size o.size) q) ax))
 refine L0<|Oc<|m2 (et (RC.upd cN bp (aa g aA) bq)) fun dY af a1=>nt<|sq<|sg<|Pl 3<|L0<|eq (p:=⟨s,3,none⟩) (v:=.int .i64 kD.endC.e) (RC.fld af)<|Pl 1<|nt<|?_
 have br:=ud bq a1 (le a.size f)
 have hs:ai cH 1 c b=b6 (aO.mk 43 0 0 0 0 0 0 0 0 0 0 0 [] [] ((x55.need (decide (((x55.l.length:Nat) : Int)≤251)) 5).bytesR ((x55.l.length:Nat) : Int)) [] ((aj.mk b false 0).byteV) 0 0 0 0 []) kD:=by
   subst cM bb
   unfold ai cH ee jq hY hH ga eX fk dx
   (try simp only[D,N,bs,if_true,if_false,decide_true,decide_false,eq_self,true_or,or_true,or_false,false_or,if_true,if_false,dC,dD,dB,dA,reduceIte])
   all_goals rfl
 refine cb ((kD.endC.e != 0)) (fun al=>?_) (fun al=>?_)
 have an:=ay al
 refine sq<|Rg 7 (fun w'=>w'.cell? ⟨s,3,none⟩=some (.int .i64 kD.endC.e)) fun dZ a2=>?_
 have bt:=RC.upd af a2 aA (aC.step (RC.u af) a2)
 refine bg (RC.fld bt) fun O=>Rt 0 O<|Rt 1 O<|Rt 2 O<|Rt 3 O<|Rl 4 O (fun _ hs=>hs)<|?_
 refine R0 5 rfl<|b7 (ub (ut Z (ut a0 (ui F (u1 ae (aD a1 a2) im)) (ac im (ac im ax))) (ac (nr f) (ac (ni o.size q) ax))) t) mZ fun e0 cP bv=>?_
 have bw:=ud br (uz a2 bv) I
 refine bg (RC.fld (RC.upd bt bv (aa (Ne.symm (nb (am t) lr f)) aA) bw)) fun cQ=>Rt 6 cQ<|re<|tn<|rt<|tr<|bN cP (.int .i64 kD.endC.e)<|?_
 rw[hs]
 exact bf an bw
 have an:=ag al
 refine bi<|sg<|?_
 refine L0<|bM (aW a1 (Ne.symm g) cO)<|?_
 refine L0<|b7 (ub (ut Z (ut a0 (ui F (u1 ae a1 im)) (ac im (ac im ax))) (ac (nr f) (ac (ni o.size q) ax))) t) (mG 43 0 0 0 0 0 0 0 0 0 0 0 nS nS (.slice be (((x55.need (decide (((x55.l.length:Nat) : Int)≤251)) 5).bytesR ((x55.l.length:Nat) : Int)).length) bh) nS ((aj.mk b false 0).byteV) 0 0 0 0 nS) fun e1 cS cT=>Pl 1<|nt<|rt<|bN cS (.int .i64 0)<|?_
 rw[hs]
 exact bo an ⟨_,_,_,_,_,rfl,aL.nil ..,aL.nil ..,cI,aL.nil ..,aL.nil ..,(ch (by omega))⟩ (ud br cT I)
 have cF:=ak N
 refine sg<|Pl 3<|nt<|c0<|sg<|Pl 1<|L0<|Oc<|m3 (dX M) fun e2 cU ao e3=>Pl 1<|?_
 refine L0<|bX (aW ao (Ne.symm g) ab) 17 (mG 43 0 0 0 0 0 0 0 0 0 0 0 nS nS nS nS ((aj.mk b false 0).byteV) x55.byteV 0 0 0 nS) fun e4 ap ar=>ng<|Pl 2<|L0<|aN ap 17<|Pl 2<|cu 4 [51] 55 (((decide (0<x55.byteV))&&(decide (x55.byteV<5)))) (fun K bz=>?_) ?_
 refine bl 51 ((decide (0<x55.byteV))) (fun P=>?_) (fun P=>?_)
 have cV:=of_decide_eq_true P
 exact Pl 1<|L1<|aN ap 17<|Pl 2<|ce bz (decide (x55.byteV<5)) (by rw[P];rfl)
 have cV:=of_decide_eq_false P
 exact Pl 4<|ce bz false (by rw[P];rfl)
 have bA:=us ao ar
 have bB:=ut bc bA (ac (ni a.size f) (ac (ni (le a.size o.size) q) ax))
 refine L0<|Oc<|m2 (aY (((decide (0<x55.byteV))&&(decide (x55.byteV<5)))) 6 (RC.upd cU ar (aa g aA) bB)) fun e5 cW bC=>?_
 refine fP cW fun j cX cY=>?_
 refine ng<|Pl 1<|L0<|Oc<|m3 (dX cY) fun e6 cZ bD e7=>Pl 1<|?_
 have bE:=u1 bC bD im
 refine L0<|bX (aW bE (Ne.symm g) ap) 18 (mG 43 0 0 0 0 0 0 0 0 0 0 0 nS nS nS nS ((aj.mk b false 0).byteV) x55.byteV j.byteV 0 0 nS) fun e8 bF au=>ng<|Pl 1<|L0<|aN bF 18<|L0<|Oe (.int .u8 (Int.tmod j.byteV 128)) (.int .u8 (j.byteV%128)) (congrArg (Value.int .u8) (Int.tmod_eq_emod_of_nonneg (by omega)))<|Pl 1<|ng<|Pl 4<|cu 3 [66] 69 (((decide (1≤(j.byteV%128)))&&(decide ((j.byteV%128)≤3)))) (fun K bG=>?_) ?_
 refine bl 66 ((decide (1≤(j.byteV%128)))) (fun Q=>?_) (fun Q=>?_)
 have d0:=of_decide_eq_true Q
 exact Pl 3<|ce bG (decide ((j.byteV%128)≤3)) (by rw[Q];rfl)
 have d0:=of_decide_eq_false Q
 exact Pl 3<|ce bG false (by rw[Q];rfl)
 have bI:=us bE au
 have bJ:=ut bB bI (ac (ni a.size f) (ac (ni (le a.size o.size) q) ax))
 refine L0<|Oc<|m2 (aY (((decide (1≤(j.byteV%128)))&&(decide ((j.byteV%128)≤3)))) 6 (RC.upd cZ au (aa g aA) bJ)) fun e9 d1 bK=>?_
 refine fP d1 fun k d2 d3=>?_
 refine ng<|Pl 1<|L0<|Oc<|m3 (dX d3) fun ea d4 bL eb=>Pl 1<|?_
 have bO:=u1 bK bL im
 refine L0<|bX (aW bO (Ne.symm g) bF) 19 (mG 43 0 0 0 0 0 0 0 0 0 0 0 nS nS nS nS ((aj.mk b false 0).byteV) x55.byteV j.byteV k.byteV 0 nS) fun ef aw aB=>ng<|Pl 2<|L0<|aN aw 19<|Pl 2<|cu 4 [78] 82 (((k.byteV==0)||(k.byteV==255))) (fun K bP=>?_) ?_
 refine bl 78 ((k.byteV==0)) (fun S=>?_) (fun S=>?_)
 have d5:=ah S
 exact Pl 4<|ce bP true (by rw[S];rfl)
 have d5:=ak S
 exact Pl 1<|L1<|aN aw 19<|Pl 2<|ce bP (k.byteV==255) (by rw[S];rfl)
 have bQ:=us bO aB
 have bR:=ut bJ bQ (ac (ni a.size f) (ac (ni (le a.size o.size) q) ax))
 refine L0<|Oc<|m2 (aY (((k.byteV==0)||(k.byteV==255))) 6 (RC.upd d4 aB (aa g aA) bR)) fun eg d6 bS=>?_
 refine fP d6 fun y d7 d8=>?_
 refine ng<|Pl 1<|L0<|Oc<|m3 (dX d8) fun eh d9 bT ei=>Pl 1<|?_
 have bU:=u1 bS bT im
 refine L0<|bX (aW bU (Ne.symm g) aw) 20 (mG 43 0 0 0 0 0 0 0 0 0 0 0 nS nS nS nS ((aj.mk b false 0).byteV) x55.byteV j.byteV k.byteV y.byteV nS) fun ej a3 aE=>ng<|Pl 2<|L0<|aN a3 20<|Pl 2<|cu 4 [91] 95 (((y.byteV==0)||(k.byteV==255))) (fun K bV=>?_) ?_
 refine bl 91 ((y.byteV==0)) (fun T=>?_) (fun T=>?_)
 have da:=ah T
 exact Pl 4<|ce bV true (by rw[T];rfl)
 have da:=ak T
 exact Pl 1<|L1<|aN a3 19<|Pl 2<|ce bV (k.byteV==255) (by rw[T];rfl)
 have bW:=us bU aE
 have bY:=ut bR bW (ac (ni a.size f) (ac (ni (le a.size o.size) q) ax))
 refine L0<|Oc<|m2 (aY (((y.byteV==0)||(k.byteV==255))) 6 (RC.upd d9 aE (aa g aA) bY)) fun ek db aF=>?_
 refine fP db fun d dc dd=>?_
 refine ng<|Pl 1<|L0<|Oc<|m3 (dX dd) fun el de aG em=>L0<|Oi d.byteV<|Pl 1<|ng<|Pl 4<|cu 4 [103] 107 (((d.byteV==1)||(x55.byteV != 4))) (fun K bZ=>?_) ?_
 refine bl 103 ((d.byteV==1)) (fun U=>?_) (fun U=>?_)
 have df:=ah U
 exact Pl 4<|ce bZ true (by rw[U];rfl)
 have df:=ak U
 refine Pl 1<|?_
 exact L1<|aN (aW (u1 aF aG im) (Ne.symm g) a3) 17<|Pl 2<|ce bZ (x55.byteV != 4) (by rw[U];rfl)
 refine L0<|Oc<|m2 (aY (((d.byteV==1)||(x55.byteV != 4))) 5 de) fun dg dh c1=>?_
 refine fP dh fun V di dj=>?_
 refine ng<|Pl 1<|nt<|bk<|?_
 have hKr:0≤d.byteV∧d.byteV<256:=by omega
 have aH:=u1 aF (u1 aG c1 im) im
 refine iM (fun x=>[(6,.pointer (some ⟨Y,0,none⟩)),(7,.int .i64 0),(8,.pointer (some ⟨s,0,none⟩)),(9,.pointer (some ⟨E,0,none⟩)),(12,.int .i64 d.byteV),(13,.int .i64 ((x.1:Nat) : Int))]) (fun(x:Nat × aj × List Obj × Option Addr × Nat) w'=>aC [] w w'∧dg.heap.size≤w'.heap.size∧w'.heap[Y]? = some (.cells mZ 30 (0,0))∧RC w m A cp b w' s x.2.1∧w'.heap[E]? = some (.cells (mG 43 0 0 0 0 0 0 0 0 0 0 0 nS nS nS nS ((aj.mk b false 0).byteV) x55.byteV j.byteV k.byteV y.byteV (.slice x.2.2.2.1 x.2.2.1.length x.2.2.2.2)) 30 (0,0))∧aS w.heap.size 111 2 (p5 (.slice A b.length cp) b) w' (.slice x.2.2.2.1 x.2.2.1.length x.2.2.2.2) x.2.2.1∧(x.1≤d.byteV.toNat)∧(x.2.2.1.length=x.1)∧(ed (d.byteV.toNat-x.1) x.2.1 x.2.2.1=ed d.byteV.toNat V [])) (fun x=>d.byteV.toNat-x.1) (0,V,[],none,0) ⟨(ud bY aH (le a.size f)),lr,(ub (ut Z (ut a0 (ui F (ut bA (ut bI (ut bQ (u1 bW aH im) (ac im (ac im ax))) (ac im (ac im ax))) (ac im (ac im ax)))) (ac im (ac im ax))) (ac (nr f) (ac (ni o.size q) ax))) t),dj,(aW aH (Ne.symm g) a3),(aS.nil w.heap.size _ _ (p5 (.slice A b.length cp) b) _),(by(try dsimp only);omega),rfl,rfl⟩ ?_
 rintro⟨i,C,L,B,cq⟩ a4 ⟨c2,c3,dk,dl,dm,dn,dp,dr,ds⟩
 refine iL [(6,.pointer (some ⟨Y,0,none⟩)),(7,.int .i64 0),(8,.pointer (some ⟨s,0,none⟩)),(9,.pointer (some ⟨E,0,none⟩)),(12,.int .i64 d.byteV),(13,.int .i64 ((i:Nat) : Int))] ?_
 have G:a4.heap[Y]? = some (.cells mZ 30 (0,0)):=dk
 have z:RC w m A cp b a4 s C:=dl
 have hlC:=RC.clen z
 have hrC:eF C:=RC.rng z
 have hbv:=cR hrC
 have hbv2:=cR (iu hrC (n:=1))
 have c4:a4.heap[E]? = some (.cells (mG 43 0 0 0 0 0 0 0 0 0 0 0 nS nS nS nS ((aj.mk b false 0).byteV) x55.byteV j.byteV k.byteV y.byteV (.slice B L.length cq)) 30 (0,0)):=dm
 have r:aS w.heap.size 111 2 (p5 (.slice A b.length cp) b) a4 (.slice B L.length cq) L:=dn
 have eo:i≤d.byteV.toNat:=dp
 have ep:L.length=i:=dr
 have c5:ed (d.byteV.toNat-i) C L=ed d.byteV.toNat V []:=ds
 refine sq<|sg<|Pl 3<|nt<|cb ((decide (((i:Nat) : Int)<d.byteV))) (fun a5=>?_) (fun a5=>?_)
 have dt:=of_decide_eq_true a5
 refine bi<|sq<|bk<|sg<|Pl 1<|L0<|Oc<|m3 (dX z) fun er du aI es=>Pl 1<|ng<|Pl 1<|L0<|Oc<|m3 (dX du) fun eu c6 aJ ev=>?_
 refine L0<|Oi ((C.bytesC 1).byteV)<|Pl 1<|ng<|Pl 2<|L0<|Oc<|pg (fz (n:=(C.bytesC 1).byteV) (by omega) c6) fun dv dw ew dy c7 aK=>?_
 have ex:=Nat.le_trans (aj.bytesR_le ((C.bytesC 1).bytesC 1) ((C.bytesC 1).byteV)) (RC.clen c6)
 refine Pl 1<|nt<|go<|Pl 1<|?_
 have aM:=u1 aI (u1 aJ aK im) im
 have aQ:=aW aM (Ne.symm g) c4
 refine L0<|aN aQ 21<|Pl 3<|L0<|cL (m:=1) (e:=111) #[.int .u8 C.byteV,.slice dv ((((C.bytesC 1).bytesC 1).bytesR ((C.bytesC 1).byteV)).length) dw] fun ey ez eA dz H=>?_
 have c8:=RC.upd c7 H aA (aC.step (RC.u c7) H)
 have dE:=kB (R:=p5 (.slice A b.length cp) b) (x:=(Obj.mk C.byteV (((C.bytesC 1).bytesC 1).bytesR ((C.bytesC 1).byteV)))) dz rfl ⟨_,_,_,rfl,dy,b8 (x:=C.byteV) (by omega)⟩
 have c9:=aD aM H
 have ca:=aq r c9 (fun x hx=>(aa (fun e=>(RC.nrow z r (by decide)) (e▸hx)) aA)) (fun _ _ h=>h)
 refine L0<|hZ (xs:=L) (ys:=([(Obj.mk C.byteV (((C.bytesC 1).bytesC 1).bytesR ((C.bytesC 1).byteV)))])) (.agg #[.int .u8 0,.slice none 0 0]) 2 32 ca dE (by simp) p5.ones (fun _ _ _ _ h=>h) (by(try simp only[List.length_append,List.length_cons,List.length_nil,az]);omega) (le (le (le (le (le (le (le (le (le (le (le (le (le (le (le (le (le (le (le (le (le (le (le (le (le a.size o.size) b1.size) b2.size) a7.size) a9.size) F.size) ao.size) ar.size) bC.size) bD.size) au.size) bK.size) bL.size) aB.size) bS.size) bT.size) aE.size) aF.size) aG.size) c1.size) c3) aI.size) aJ.size) aK.size) H.size) fun cc cd eB cf aR=>Pl 1<|?_
 have cg:=aC.blk (ut (aC.mono (S':=(ob B++[])) H ax) aR (av il ax)) (bj (ec aQ (aq r aM (fun x hx=>(aa (fun e=>(RC.nrow z r (by decide)) (e▸hx)) aA)) (fun _ _ h=>h)) (by decide)) aA) aQ
 refine L0<|bX cg 21 (mG 43 0 0 0 0 0 0 0 0 0 0 0 nS nS nS nS ((aj.mk b false 0).byteV) x55.byteV j.byteV k.byteV y.byteV (.slice cc ((L++[(Obj.mk C.byteV (((C.bytesC 1).bytesC 1).bytesR ((C.bytesC 1).byteV)))]).length) cd)) fun eC dF aT=>nl<|bn<|tn<|go<|Pl 1<|L0<|Oi (((i:Nat) : Int)+1)<|Pl 1<|nl<|?_
 have ci:=u1 (aC.mono (S':=(ob B++(E :: []))) aR (av il ax)) aT im
 have cj:=ut (aC.mono (S':=(s :: (ob B++(E :: [])))) c9 (ac im ax)) ci (av il (ac im ax))
 have ck:=ut c2 cj (ac (ni a.size f) (av (aP r lr) (ac (ni (le a.size o.size) q) ax)))
 exact gE ((i+1),(((C.bytesC 1).bytesC 1).bytesC ((C.bytesC 1).byteV)),(L++[(Obj.mk C.byteV (((C.bytesC 1).bytesC 1).bytesR ((C.bytesC 1).byteV)))]),cc,cd) ⟨ck,(le (le (le (le (le (le c3 aI.size) aJ.size) aK.size) H.size) aR.size) aT.size),(aC.blk cj (aa (nb (am t) lr f) (bj (ec G r (by decide)) (aa (nb (am t) o.size q) aA))) G),(RC.upd c8 ci (bj (RC.nrow c8 ca (by decide)) (aa g aA)) ck),dF,(aq cf aT (fun x hx=>(aa (fun e=>(ec cg cf (by decide)) (e▸hx)) aA)) (fun _ _ h=>h)),(by(try dsimp only);omega),(by(try dsimp only);simp only[List.length_append,List.length_cons,List.length_nil];omega),(by(try dsimp only);rw[← c5,show d.byteV.toNat-i=(d.byteV.toNat-(i+1))+1 from by omega];rfl)⟩ (by omega)
 have dt:=of_decide_eq_false a5
 refine xt<|tx<|tx<|bx<|bn<|tn<|sg<|Pl 1<|?_
 have hR:=uA c5 (by omega)
 refine L0<|Oc<|m2 (et z) fun eD aU W=>nt<|sq<|sg<|Pl 3<|L0<|eq (p:=⟨s,3,none⟩) (v:=.int .i64 C.endC.e) (RC.fld aU)<|Pl 1<|nt<|?_
 have cl:=ud c2 W (le a.size f)
 have hs:ai cH 1 c b=b6 (aO.mk 43 0 0 0 0 0 0 0 0 0 0 0 [] [] [] [] ((aj.mk b false 0).byteV) x55.byteV j.byteV k.byteV y.byteV (ed d.byteV.toNat V []).2) (ed d.byteV.toNat V []).1:=by
   subst di dc d7 d2 cX bb
   unfold ai cH ee jq hY hH ga eX fk dx
   (try simp only[D,N,a5,bs,if_true,if_false,decide_true,decide_false,eq_self,true_or,or_true,or_false,false_or,if_true,if_false,dC,dD,dB,dA,reduceIte])
   all_goals rfl
 refine cb ((C.endC.e != 0)) (fun aV=>?_) (fun aV=>?_)
 have aX:=ay aV
 refine sq<|Rg 7 (fun w'=>w'.cell? ⟨s,3,none⟩=some (.int .i64 C.endC.e)) fun eE a6=>?_
 have cm:=RC.upd aU a6 aA (aC.step (RC.u aU) a6)
 refine bg (RC.fld cm) fun X=>Rt 0 X<|Rt 1 X<|Rt 2 X<|Rt 3 X<|Rl 4 X (fun _ hs=>hs)<|?_
 have cn:=aD W a6
 have cr:=nb (am t) lr f
 refine R0 5 rfl<|b7 (aW cn cr G) mZ fun eG dG aZ=>?_
 have cs:=ud cl (uz a6 aZ) I
 refine bg (RC.fld (RC.upd cm aZ (aa (Ne.symm cr) aA) cs)) fun dH=>Rt 6 dH<|re<|tn<|rt<|tr<|bN dG (.int .i64 C.endC.e)<|?_
 have eH:=aq r (us cn aZ) (fun x hx=>(aa (fun e=>(RC.nrow z r (by decide)) (e▸hx)) (aa (fun e=>(ec G r (by decide)) (e▸hx)) aA))) (fun _ _ h=>h)
 rw[hR] at hs
 rw[hs]
 exact bf aX cs
 have aX:=ag aV
 refine bi<|sg<|?_
 refine L0<|bM (aW W (Ne.symm g) c4)<|?_
 refine L0<|b7 (aW W (nb (am t) lr f) G) (mG 43 0 0 0 0 0 0 0 0 0 0 0 nS nS nS nS ((aj.mk b false 0).byteV) x55.byteV j.byteV k.byteV y.byteV (.slice B L.length cq)) fun eI dI ct=>Pl 1<|nt<|rt<|bN dI (.int .i64 0)<|?_
 rw[hR] at hs
 rw[hs]
 exact bo aX ⟨_,_,_,_,_,rfl,aL.nil ..,aL.nil ..,(fun _ _ _=>aL.nil ..),aL.nil ..,((aq r (us W ct) (fun x hx=>(aa (fun e=>(RC.nrow z r (by decide)) (e▸hx)) (aa (fun e=>(ec G r (by decide)) (e▸hx)) aA))) (fun _ _ h=>h))).rd,(ch (by omega))⟩ (ud cl ct I)
theorem lQ{m:Md}{A:Option Addr}{cp:Nat}{b:List Int}{w:World}{dir c:Int}(hcode:B8 c)(hsl:b9 m w (.slice A b.length cp) b)(hb:b.length≤1048576)(hd:¬ (dir=0∨dir=1)) :
    Calls Tryz.prog 97 #[.int .i64 dir,.int .u8 c,.slice A b.length cp] w (co (.slice A b.length cp) b (ai cH dir c b) w):=by
 obtain⟨hcode1,hcode2⟩:=hcode
 have hln:(b.length:Int)≤1048576:=by omega
 have e0:(dir != 0)=true:=by simp;omega
 have e1:(dir != 1)=true:=by simp;omega
 refine en 176 Tryz.func97 rfl<|sg<|L0<|bH mZ fun g h a d e=>Pl 1<|nt<|sq<|sg<|Pl 3<|sy 19 e0<|Pl 3<|nl<|?_
 refine tn<|ct e1<|sg<|Pl 1<|L0<|b7 d mZ fun i dr f=>Pl 1<|nt<|rt<|tr<|bN dr (.int .i64 1)<|?_
 have hs:ai cH dir c b=(aO.zero,1):=by
   unfold ai cH ee jq hY hH ga eX fk dx
   (try simp only[e0,e1,bs,if_true,if_false,decide_true,decide_false,eq_self,true_or,or_true,or_false,false_or,if_true,if_false,dC,dD,dB,dA,reduceIte,hd])
   all_goals rfl
 rw[hs]
 exact bu (ud e f a)
theorem kO{m:Md}{v:Value}{b:List Int}{w:World}{dir c:Int}(hc:B8 c)(h:b9 m w v b)(hb:b.length≤1048576) :
    Calls Tryz.prog 97 #[.int .i64 dir,.int .u8 c,v] w (co v b (ai bD dir c b) w):=by
  rw[← oI (b9.range h)]
  obtain⟨A,cp,rfl,_,_⟩:=h.shape
  by_cases h0:dir=0
  · subst h0;exact lM hc h hb
  by_cases h1:dir=1
  · subst h1;exact lN hc h hb
  exact lQ hc h hb (by omega)
open Go.RowKit
theorem tg{x:Int}{w:World}:Calls Tryz.prog 148 #[.int .u8 x] w (cY (.bool (iW x)) w):=by
 refine en 37 Tryz.func148 rfl<|sg<|Pl 1<|ng<|Pl 3<|cu 3 [5] 8 (((decide (1≤x))&&(decide (x≤8)))) (fun K i=>?_) ?_
 refine bl 5 ((decide (1≤x))) (fun a=>?_) (fun a=>?_)
 have v:=of_decide_eq_true a
 exact Pl 3<|ce i (decide (x≤8)) (by rw[a];rfl)
 have v:=of_decide_eq_false a
 exact Pl 3<|ce i false (by rw[a];rfl)
 refine Pl 1<|cu 3 [9] 12 ((((decide (1≤x))&&(decide (x≤8)))||(x==11))) (fun K j=>?_) ?_
 refine bl 9 (((decide (1≤x))&&(decide (x≤8)))) (fun b=>?_) (fun b=>?_)
 have y:=(aU b).1
 have z:=(aU b).2
 have G:=of_decide_eq_true y
 have H:=of_decide_eq_true z
 exact Pl 3<|ce j true (by rw[b];rfl)
 exact Pl 3<|ce j (x==11) (by rw[b];rfl)
 refine Pl 1<|cu 3 [13] 16 (((((decide (1≤x))&&(decide (x≤8)))||(x==11))||(x==12))) (fun K k=>?_) ?_
 refine bl 13 ((((decide (1≤x))&&(decide (x≤8)))||(x==11))) (fun c=>?_) (fun c=>?_)
 exact Pl 3<|ce k true (by rw[c];rfl)
 have I:=(aF c).1
 have A:=(aF c).2
 have J:=ak A
 exact Pl 3<|ce k (x==12) (by rw[c];rfl)
 refine Pl 1<|cu 7 [17] 24 ((((((decide (1≤x))&&(decide (x≤8)))||(x==11))||(x==12))||((decide (15≤x))&&(decide (x≤17))))) (fun K l=>?_) ?_
 refine bl 17 (((((decide (1≤x))&&(decide (x≤8)))||(x==11))||(x==12))) (fun d=>?_) (fun d=>?_)
 exact Pl 7<|ce l true (by rw[d];rfl)
 have m:=(aF d).1
 have B:=(aF d).2
 have L:=(aF m).1
 have C:=(aF m).2
 have q16abp:=ak C
 have M:=ak B
 refine Pl 3<|cu 3 [20] 23 (((decide (15≤x))&&(decide (x≤17)))) (fun K n=>?_) ?_
 refine bl 20 ((decide (15≤x))) (fun e=>?_) (fun e=>?_)
 have D:=of_decide_eq_true e
 exact Pl 3<|ce n (decide (x≤17)) (by rw[e];rfl)
 have D:=of_decide_eq_false e
 exact Pl 3<|ce n false (by rw[e];rfl)
 exact Pl 1<|ce l ((decide (15≤x))&&(decide (x≤17))) (by rw[d];rfl)
 refine Pl 1<|cu 7 [25] 32 (((((((decide (1≤x))&&(decide (x≤8)))||(x==11))||(x==12))||((decide (15≤x))&&(decide (x≤17))))||((decide (20≤x))&&(decide (x≤24))))) (fun K o=>?_) ?_
 refine bl 25 ((((((decide (1≤x))&&(decide (x≤8)))||(x==11))||(x==12))||((decide (15≤x))&&(decide (x≤17))))) (fun f=>?_) (fun f=>?_)
 exact Pl 7<|ce o true (by rw[f];rfl)
 have p:=(aF f).1
 have N:=(aF f).2
 have q:=(aF p).1
 have E:=(aF p).2
 have q20aaa:=(aF q).1
 have q20aab:=(aF q).2
 have q20aabp:=ak q20aab
 have q20abp:=ak E
 refine Pl 3<|cu 3 [28] 31 (((decide (20≤x))&&(decide (x≤24)))) (fun K r=>?_) ?_
 refine bl 28 ((decide (20≤x))) (fun g=>?_) (fun g=>?_)
 have F:=of_decide_eq_true g
 exact Pl 3<|ce r (decide (x≤24)) (by rw[g];rfl)
 have F:=of_decide_eq_false g
 exact Pl 3<|ce r false (by rw[g];rfl)
 exact Pl 1<|ce o ((decide (20≤x))&&(decide (x≤24))) (by rw[f];rfl)
 refine Pl 1<|cu 3 [33] 36 ((((((((decide (1≤x))&&(decide (x≤8)))||(x==11))||(x==12))||((decide (15≤x))&&(decide (x≤17))))||((decide (20≤x))&&(decide (x≤24))))||(x==43))) (fun K s=>?_) ?_
 refine bl 33 (((((((decide (1≤x))&&(decide (x≤8)))||(x==11))||(x==12))||((decide (15≤x))&&(decide (x≤17))))||((decide (20≤x))&&(decide (x≤24))))) (fun h=>?_) (fun h=>?_)
 exact Pl 3<|ce s true (by rw[h];rfl)
 have t:=(aF h).1
 have O:=(aF h).2
 have u:=(aF t).1
 have P:=(aF t).2
 have q24aaa:=(aF u).1
 have q24aab:=(aF u).2
 have q24aaaa:=(aF q24aaa).1
 have q24aaab:=(aF q24aaa).2
 have q24aaabp:=ak q24aaab
 have q24aabp:=ak q24aab
 exact Pl 3<|ce s (x==43) (by rw[h];rfl)
 refine Pl 1<|nt<|rt<|rr (.bool (((((((decide (1≤x))&&(decide (x≤8)))||(x==11))||(x==12))||((decide (15≤x))&&(decide (x≤17))))||((decide (20≤x))&&(decide (x≤24))))||(x==43)))<|?_
 have hs:iW x=(((((((decide (1≤x))&&(decide (x≤8)))||(x==11))||(x==12))||((decide (15≤x))&&(decide (x≤17))))||((decide (20≤x))&&(decide (x≤24))))||(x==43)):=by
   unfold iW
   (try simp only[bs,if_true,if_false,decide_true,decide_false])
 rw[hs]
 exact⟨rfl,(aC.refl [] _)⟩
open Go.RowKit
def eV (b:List Int) : aO × Int :=
  if decide ((b.length:Int)<1) then (aO.zero,2)
  else if decide (b.getD 0 0-128<0) then (aO.zero,4)
  else if !(iW ((b.getD 0 0-128)%256)) then (aO.zero,4)
  else if decide ((b.length:Int)<2) then (aO.zero,2)
  else if !(cD (b.getD 1 0)) then (aO.zero,6)
  else if decide (2<(b.length:Int)) then (aO.zero,3)
  else (gf ((b.getD 0 0-128)%256) (b.getD 1 0),0)
theorem xK{x:Int}:iW x=dF x:=by
  unfold iW dF
  rw[Bool.eq_iff_iff]
  simp only[decide_eq_true_eq,List.mem_cons,List.not_mem_nil,or_false,Bool.or_eq_true,Bool.and_eq_true,beq_iff_eq]
  omega
theorem tu(b:List Int) : eV b=eb b:=by
  unfold eV eb
  rw[xK,show decide ((b.length:Int)<1)=((b.length:Int)==0) from by rw[Bool.eq_iff_iff];simp only[decide_eq_true_eq,beq_iff_eq];omega,show decide (b.getD 0 0-128<0)=decide (b.getD 0 0<128) from by rw[Bool.eq_iff_iff];simp only[decide_eq_true_eq];omega]
  by_cases h:b.length=0
  · rw[show((b.length:Int)==0)=true from by rw[beq_iff_eq];omega];rfl
  · rw[show decide ((b.length:Int)<2)=((b.length:Int)==1) from by rw[Bool.eq_iff_iff];simp only[decide_eq_true_eq,beq_iff_eq];omega]
theorem oR{m:Md}{A:Option Addr}{cp:Nat}{b:List Int}{w:World}(hsl:b9 m w (.slice A b.length cp) b)(hb:b.length≤1048576) :
    Calls Tryz.prog 92 #[.slice A b.length cp] w (co (.slice A b.length cp) b (eV b) w):=by
 have hln:(b.length:Int)≤1048576:=by omega
 refine en 46 Tryz.func92 rfl<|sg<|L0<|bH mZ fun a2 a3 e f n=>Pl 1<|nt<|sq<|sg<|Pl 3<|nt<|cb ((decide (((b.length:Nat) : Int)<1))) (fun a=>?_) (fun a=>?_)
 have u:=of_decide_eq_true a
 refine sg<|Pl 1<|L0<|b7 f mZ fun a4 y z=>Pl 1<|nt<|rt<|tr<|bN y (.int .i64 2)<|?_
 have hs:eV b=(aO.zero,2):=by
   unfold eV
   (try simp only[a,bs,if_true,if_false,decide_true,decide_false,Bool.not_eq_true,reduceIte])
   all_goals rfl
 rw[hs]
 exact bu (ud n z e)
 have u:=of_decide_eq_false a
 refine bi<|sg<|Pl 1<|?_
 have s:=b9.old hsl n
 refine gj (b9.at_ s 0 (by omega)) fun B C D E a5=>L0<|m0 b.length 0 D (by omega)<|L0<|eq (p:=⟨B,C+0,none⟩) (v:=.int .u8 (b.getD 0 0)) E<|L0<|Oi (b.getD 0 0)<|L0<|Oi ((b.getD 0 0)-128)<|Pl 1<|nt<|sq<|sg<|Pl 2<|nt<|?_
 refine cb ((decide (((b.getD 0 0)-128)<0))) (fun c=>?_) (fun c=>?_)
 have F:=of_decide_eq_true c
 refine sg<|Pl 1<|L0<|b7 f mZ fun a6 G H=>Pl 1<|nt<|rt<|tr<|bN G (.int .i64 4)<|?_
 have hs:eV b=(aO.zero,4):=by
   unfold eV
   (try simp only[a,c,bs,if_true,if_false,decide_true,decide_false,Bool.not_eq_true,reduceIte])
   all_goals rfl
 rw[hs]
 exact bu (ud n H e)
 have F:=of_decide_eq_false c
 refine bi<|sg<|Pl 2<|L0<|Oc<|m1 (tg (x:=(((b.getD 0 0)-128)%256))) fun a7 g=>Pl 1<|nt<|sq<|sg<|Pl 2<|nl<|?_
 refine tn<|?_
 have q:=aD n g
 refine cb ((!(iW (((b.getD 0 0)-128)%256)))) (fun d=>?_) (fun d=>?_)
 have i:(iW (((b.getD 0 0)-128)%256))=false:=by simpa using d
 refine sg<|Pl 1<|?_
 refine L0<|b7 (ub g f) mZ fun a8 I J=>Pl 1<|nt<|rt<|tr<|bN I (.int .i64 4)<|?_
 have hs:eV b=(aO.zero,4):=by
   unfold eV
   (try simp only[a,c,d,i,bs,if_true,if_false,decide_true,decide_false,Bool.not_eq_true,reduceIte])
   all_goals rfl
 rw[hs]
 exact bu (ud q J e)
 have i:(iW (((b.getD 0 0)-128)%256))=true:=by simpa using d
 refine bi<|sq<|sg<|Pl 3<|nt<|cb ((decide (((b.length:Nat) : Int)<2))) (fun h=>?_) (fun h=>?_)
 have K:=of_decide_eq_true h
 refine sg<|Pl 1<|?_
 refine L0<|b7 (ub g f) mZ fun a9 L M=>Pl 1<|nt<|rt<|tr<|bN L (.int .i64 2)<|?_
 have hs:eV b=(aO.zero,2):=by
   unfold eV
   (try simp only[a,c,d,i,h,bs,if_true,if_false,decide_true,decide_false,Bool.not_eq_true,reduceIte])
   all_goals rfl
 rw[hs]
 exact bu (ud q M e)
 have K:=of_decide_eq_false h
 refine bi<|sg<|Pl 1<|?_
 have t:=b9.old s g
 refine gj (b9.at_ t 1 (by omega)) fun N O P Q aa=>L0<|m0 b.length 1 P (by omega)<|L0<|eq (p:=⟨N,O+1,none⟩) (v:=.int .u8 (b.getD 1 0)) Q<|L0<|Oc<|m1 (uP (x:=(b.getD 1 0)) (by omega)) fun ab k=>Pl 1<|nt<|sq<|sg<|Pl 2<|nt<|?_
 have r:=aD q k
 refine cb ((!(cD (b.getD 1 0)))) (fun j=>?_) (fun j=>?_)
 have o:(cD (b.getD 1 0))=false:=by simpa using j
 refine sg<|Pl 1<|?_
 refine L0<|b7 (ub (aD g k) f) mZ fun ac R S=>Pl 1<|nt<|rt<|tr<|bN R (.int .i64 6)<|?_
 have hs:eV b=(aO.zero,6):=by
   unfold eV
   (try simp only[a,c,d,i,h,j,o,bs,if_true,if_false,decide_true,decide_false,Bool.not_eq_true,reduceIte])
   all_goals rfl
 rw[hs]
 exact bu (ud r S e)
 have o:(cD (b.getD 1 0))=true:=by simpa using j
 refine bi<|sq<|sg<|Pl 3<|nt<|cb ((decide (2<((b.length:Nat) : Int)))) (fun l=>?_) (fun l=>?_)
 have T:=of_decide_eq_true l
 refine sg<|Pl 1<|?_
 refine L0<|b7 (ub (aD g k) f) mZ fun ad U V=>Pl 1<|nt<|rt<|tr<|bN U (.int .i64 3)<|?_
 have hs:eV b=(aO.zero,3):=by
   unfold eV
   (try simp only[a,c,d,i,h,j,o,l,bs,if_true,if_false,decide_true,decide_false,Bool.not_eq_true,reduceIte])
   all_goals rfl
 rw[hs]
 exact bu (ud r V e)
 have T:=of_decide_eq_false l
 refine bi<|sg<|Pl 3<|?_
 refine gj (b9.at_ (b9.old t k) 1 (by omega)) fun W X Y Z ae=>L0<|m0 b.length 1 Y (by omega)<|L0<|eq (p:=⟨W,X+1,none⟩) (v:=.int .u8 (b.getD 1 0)) Z<|Pl 1<|?_
 refine L0<|b7 (ub (aD g k) f) (mG (((b.getD 0 0)-128)%256) (b.getD 1 0) 0 0 0 0 0 0 0 0 0 0 nS nS nS nS 0 0 0 0 0 nS) fun af a0 a1=>Pl 1<|nt<|rt<|bN a0 (.int .i64 0)<|?_
 have hs:eV b=((aO.mk (((b.getD 0 0)-128)%256) (b.getD 1 0) 0 0 0 0 0 0 0 0 0 0 [] [] [] [] 0 0 0 0 0 []),0):=by
   unfold eV
   (try simp only[a,c,d,i,h,j,o,l,bs,if_true,if_false,decide_true,decide_false,Bool.not_eq_true,reduceIte])
   all_goals rfl
 rw[hs]
 exact⟨_,rfl,⟨_,_,_,_,_,rfl,aL.nil ..,aL.nil ..,(fun _ _ _=>aL.nil ..),aL.nil ..,aL.nil ..,(ch (by omega))⟩,(ud r a1 e)⟩
theorem kP{m:Md}{v:Value}{b:List Int}{w:World}(h:b9 m w v b)(hb:b.length≤1048576) : Calls Tryz.prog 92 #[v] w (co v b (eb b) w):=by
  obtain⟨A,cp,rfl,_,_⟩:=h.shape
  rw[← tu]
  exact oR h hb
open Go.RowKit
theorem gK{x y:aO × Int}(h:x=y){w:World}{e:Ending}{w':World}{v0:Value}{b:List Int}(k:co v0 b y w e w') : co v0 b x w e w':=by rw[h];exact k
theorem jb{m:Md}{v:Value}{b:List Int}{w:World}{dir c:Int}(hc:B8 c)(h:b9 m w v b)(hb:b.length≤1048576) :
    Calls Tryz.prog 93 #[.int .i64 dir,.int .u8 c,v] w (co v b (ai aE dir c b) w):=by
  obtain⟨A,cp,rfl,_,_⟩:=h.shape
  by_cases h0:dir=0
  · subst h0;exact kT hc h hb
  by_cases h1:dir=1
  · subst h1;exact l7 hc h hb
  exact kS hc h hb (by omega)
theorem jQ{m:Md}{v:Value}{b:List Int}{w:World}{dir c:Int}(hc:B8 c)(h:b9 m w v b)(hb:b.length≤1048576) :
    Calls Tryz.prog 94 #[.int .i64 dir,.int .u8 c,v] w (co v b (ai aM dir c b) w):=by
  obtain⟨A,cp,rfl,_,_⟩:=h.shape
  by_cases h0:dir=0
  · subst h0;exact m7 hc h hb
  by_cases h1:dir=1
  · subst h1;exact lO hc h hb
  exact md hc h hb (by omega)
theorem kp{m:Md}{v:Value}{b:List Int}{w:World}{dir c:Int}(hc:B8 c)(h:b9 m w v b)(hb:b.length≤1048576) :
    Calls Tryz.prog 95 #[.int .i64 dir,.int .u8 c,v] w (co v b (ai aV dir c b) w):=by
  obtain⟨A,cp,rfl,_,_⟩:=h.shape
  rw[← nw]
  by_cases h0:dir=0
  · subst h0;exact lY hc h hb
  by_cases h1:dir=1
  · subst h1;exact lU hc h hb
  exact mb hc h hb (by omega)
theorem oG{m:Md}{A:Option Addr}{cp:Nat}{b:List Int}{w:World}{dir:Int}(hsl:b9 m w (.slice A b.length cp) b)(hb:b.length≤1048576) :
    Calls Tryz.prog 25 #[.int .i64 dir,.slice A b.length cp] w (co (.slice A b.length cp) b (cC dir b) w):=by
 have hln:(b.length:Int)≤1048576:=by omega
 refine en 87 Tryz.func25 rfl<|sg<|L0<|bH mZ fun bO bP u d i=>Pl 1<|nt<|sq<|sg<|Pl 3<|cu 3 [11] 14 (((dir != 0)&&(dir != 1))) (fun K W=>?_) ?_
 refine bl 11 ((dir != 0)) (fun F=>?_) (fun F=>?_)
 have aZ:=ay F
 exact Pl 3<|ce W (dir != 1) (by rw[F];rfl)
 have aZ:=ag F
 exact Pl 3<|ce W false (by rw[F];rfl)
 refine nt<|cb (((dir != 0)&&(dir != 1))) (fun f=>?_) (fun f=>?_)
 have X:=(aU f).1
 have Y:=(aU f).2
 have bQ:=ay X
 have bR:=ay Y
 refine sg<|Pl 1<|L0<|b7 d mZ fun bS b0 b1=>Pl 1<|nt<|rt<|tr<|bN b0 (.int .i64 1)<|?_
 have hs:gi dir b=(aO.zero,1):=by
   unfold gi
   (try simp only[f,X,Y,bs,if_true,if_false,decide_true,decide_false,fi,reduceIte])
   all_goals rfl
 rw[← fs]
 refine gK hs ?_
 exact bu (ud i b1 u)
 refine bi<|sq<|sg<|Pl 3<|nt<|cb ((((b.length:Nat) : Int)==0)) (fun g=>?_) (fun g=>?_)
 have b2:=ah g
 refine sg<|Pl 1<|L0<|b7 d mZ fun bT b3 b4=>Pl 1<|nt<|rt<|tr<|bN b3 (.int .i64 2)<|?_
 have hs:gi dir b=(aO.zero,2):=by
   unfold gi
   (try simp only[f,g,bs,if_true,if_false,decide_true,decide_false,fi,reduceIte])
   all_goals rfl
 rw[← fs]
 refine gK hs ?_
 exact bu (ud i b4 u)
 have b2:=ak g
 refine bi<|sq<|sg<|Pl 3<|nt<|cb ((decide (253<((b.length:Nat) : Int)))) (fun j=>?_) (fun j=>?_)
 have b5:=of_decide_eq_true j
 refine sg<|Pl 1<|L0<|b7 d mZ fun bU b6 ba=>Pl 1<|nt<|rt<|tr<|bN b6 (.int .i64 3)<|?_
 have hs:gi dir b=(aO.zero,3):=by
   unfold gi
   (try simp only[f,g,j,bs,if_true,if_false,decide_true,decide_false,fi,reduceIte])
   all_goals rfl
 rw[← fs]
 refine gK hs ?_
 exact bu (ud i ba u)
 have b5:=of_decide_eq_false j
 refine bi<|sg<|Pl 1<|?_
 have G:=b9.old hsl i
 refine gj (b9.at_ G 0 (by omega)) fun bb bc bd be bV=>L0<|m0 b.length 0 bd (by omega)<|L0<|eq (p:=⟨bb,bc+0,none⟩) (v:=.int .u8 (b.getD 0 0)) be<|Pl 1<|nt<|sq<|sg<|Pl 3<|cu 3 [29] 32 (((decide (128≤(b.getD 0 0)))&&(dir==1))) (fun K Z=>?_) ?_
 refine bl 29 ((decide (128≤(b.getD 0 0)))) (fun H=>?_) (fun H=>?_)
 have bf:=of_decide_eq_true H
 exact Pl 3<|ce Z (dir==1) (by rw[H];rfl)
 have bf:=of_decide_eq_false H
 exact Pl 3<|ce Z false (by rw[H];rfl)
 refine nt<|cb (((decide (128≤(b.getD 0 0)))&&(dir==1))) (fun x=>?_) (fun x=>?_)
 have a0:=(aU x).1
 have a1:=(aU x).2
 have bW:=of_decide_eq_true a0
 have bX:=ah a1
 refine sg<|Pl 1<|L0<|Oc<|e2 (kP G (by omega)) fun bg bY I S=>?_
 refine Pl 2<|?_
 have a2:=ub S d
 refine L0<|b7 (hz:=(by rw[I.size];exact aI)) (hv:=I.size) (h1:=(cF.one I (b9.old G S))) a2 (bg) fun bZ bh a3=>Pl 1<|nt<|rt<|tr<|eD 22 I.size bh (.int .i64 (((eb b)).2))<|?_
 have hs:gi dir b=(eb b):=by
   unfold gi
   (try simp only[f,g,j,x,a0,a1,bs,if_true,if_false,decide_true,decide_false,fi,reduceIte])
   all_goals rfl
 rw[← fs]
 refine gK hs ?_
 exact⟨_,rfl,(cF.upd I a3 (ap (aT a2 (by decide)) aG)),(ud i (uz S a3) u)⟩
 refine bi<|sg<|Pl 3<|nF (dR (P:=Tryz.prog) 22 5 1 Tryz.underlying22 rfl rfl A b.length cp 1 (by omega)) fun bj hrun54 a4=>L0<|ju (.slice bj (b.length-1) (cp-1)) (ef (kl:=.i64) (k:=((1:Nat) : Int)) (A:=A) (n:=b.length) (c:=cp) rfl Tryz.underlying22 (by kernel_rfl) (by kernel_rfl) (hrun54 _ _))<|L0<|Oc<|e2 (jb (dir:=dir) (c:=(b.getD 0 0)) (b8 (by omega)) (a4 _ _ _ _ _ G) (by(try simp only[List.length_drop]);omega)) fun a5 c0 bk e=>?_
 have L:=b9.old G e
 have l:=cF.sub bk (fun m' w' q=>(a4 _ _ _ _ _ q))
 refine Pl 3<|L0<|bH mZ fun c1 c2 a bm bn=>L0<|b7 (hz:=(by rw[l.size];exact aI)) (hv:=l.size) (h1:=(cF.one l hsl)) bm (a5) fun c3 a6 bo=>Pl 1<|nt<|sq<|sg<|Pl 2<|nt<|?_
 have M:=ud bn bo a
 have o:=aD e M
 have a7:=aD i o
 refine cb (((((ai aE dir (b.getD 0 0) (b.drop 1))).2)==4)) (fun h=>?_) (fun h=>?_)
 have bp:=ah h
 refine go<|Pl 3<|nF (dR (P:=Tryz.prog) 22 5 1 Tryz.underlying22 rfl rfl A b.length cp 1 (by omega)) fun bq hrun75 a8=>L0<|ju (.slice bq (b.length-1) (cp-1)) (ef (kl:=.i64) (k:=((1:Nat) : Int)) (A:=A) (n:=b.length) (c:=cp) rfl Tryz.underlying22 (by kernel_rfl) (by kernel_rfl) (hrun75 _ _))<|?_
 have a9:=b9.old L M
 refine L0<|Oc<|e2 (jQ (dir:=dir) (c:=(b.getD 0 0)) (b8 (by omega)) (a8 _ _ _ _ _ a9) (by(try simp only[List.length_drop]);omega)) fun aa c4 br N=>?_
 have c5:=b9.old a9 N
 have r:=cF.sub br (fun m' w' q=>(a8 _ _ _ _ _ q))
 refine Pl 3<|?_
 have ab:=ub N a6
 refine L0<|b7 (hz:=(by rw[r.size];exact aI)) (hv:=(Eq.trans r.size (Eq.symm l.size))) (h1:=(cF.one r hsl)) ab (aa) fun c6 ad T=>Pl 1<|nt<|sq<|sg<|Pl 2<|nt<|?_
 have D:=uz N T
 have ae:=ud a7 D (le (le i.size e.size) a)
 refine cb (((((ai aM dir (b.getD 0 0) (b.drop 1))).2)==4)) (fun y=>?_) (fun y=>?_)
 have bt:=ah y
 refine go<|Pl 3<|nF (dR (P:=Tryz.prog) 22 5 1 Tryz.underlying22 rfl rfl A b.length cp 1 (by omega)) fun bv hrun92 af=>L0<|ju (.slice bv (b.length-1) (cp-1)) (ef (kl:=.i64) (k:=((1:Nat) : Int)) (A:=A) (n:=b.length) (c:=cp) rfl Tryz.underlying22 (by kernel_rfl) (by kernel_rfl) (hrun92 _ _))<|?_
 have aj:=ud M D a
 have al:=b9.old L aj
 refine L0<|Oc<|e2 (kp (dir:=dir) (c:=(b.getD 0 0)) (b8 (by omega)) (af _ _ _ _ _ al) (by(try simp only[List.length_drop]);omega)) fun am c7 bw O=>?_
 have c8:=b9.old al O
 have s:=cF.sub bw (fun m' w' q=>(af _ _ _ _ _ q))
 refine Pl 3<|?_
 have an:=ub O ad
 refine L0<|b7 (hz:=(by rw[s.size];exact aI)) (hv:=(Eq.trans s.size (Eq.symm r.size))) (h1:=(cF.one s hsl)) an (am) fun c9 ao U=>Pl 1<|nt<|sq<|sg<|Pl 2<|nt<|?_
 have E:=uz O U
 have aq:=ud ae E (le (le i.size e.size) a)
 refine cb (((((ai aV dir (b.getD 0 0) (b.drop 1))).2)==4)) (fun B=>?_) (fun B=>?_)
 have bx:=ah B
 refine go<|Pl 3<|nF (dR (P:=Tryz.prog) 22 5 1 Tryz.underlying22 rfl rfl A b.length cp 1 (by omega)) fun bz hrun110 ar=>L0<|ju (.slice bz (b.length-1) (cp-1)) (ef (kl:=.i64) (k:=((1:Nat) : Int)) (A:=A) (n:=b.length) (c:=cp) rfl Tryz.underlying22 (by kernel_rfl) (by kernel_rfl) (hrun110 _ _))<|?_
 have V:=u1 D E im
 have au:=ud aj E a
 have av:=b9.old L au
 refine L0<|Oc<|e2 (j7 (dir:=dir) (c:=(b.getD 0 0)) (b8 (by omega)) (ar _ _ _ _ _ av) (by(try simp only[List.length_drop]);omega)) fun aw ca bA Q=>?_
 have cc:=b9.old av Q
 have t:=cF.sub bA (fun m' w' q=>(ar _ _ _ _ _ q))
 refine Pl 3<|?_
 have az:=ub Q ao
 refine L0<|b7 (hz:=(by rw[t.size];exact aI)) (hv:=(Eq.trans t.size (Eq.symm s.size))) (h1:=(cF.one t hsl)) az (aw) fun cd aA aB=>Pl 1<|nt<|sq<|sg<|Pl 2<|nt<|?_
 have C:=uz Q aB
 have aC:=ud aq C (le (le i.size e.size) a)
 refine cb (((((ai aX dir (b.getD 0 0) (b.drop 1))).2)==4)) (fun J=>?_) (fun J=>?_)
 have bB:=ah J
 refine go<|Pl 3<|nF (dR (P:=Tryz.prog) 22 5 1 Tryz.underlying22 rfl rfl A b.length cp 1 (by omega)) fun bC hrun130 aF=>L0<|ju (.slice bC (b.length-1) (cp-1)) (ef (kl:=.i64) (k:=((1:Nat) : Int)) (A:=A) (n:=b.length) (c:=cp) rfl Tryz.underlying22 (by kernel_rfl) (by kernel_rfl) (hrun130 _ _))<|?_
 have cg:=u1 U C im
 have ch:=u1 E C im
 have ci:=u1 (u1 T E im) C im
 have aH:=u1 V C im
 have aJ:=b9.old L (ud au C a)
 refine L0<|Oc<|e2 (kO (dir:=dir) (c:=(b.getD 0 0)) (b8 (by omega)) (aF _ _ _ _ _ aJ) (by(try simp only[List.length_drop]);omega)) fun aK cj bE R=>?_
 have ck:=b9.old aJ R
 have z:=cF.sub bE (fun m' w' q=>(aF _ _ _ _ _ q))
 refine Pl 3<|?_
 have aL:=ub R aA
 refine L0<|b7 (hz:=(by rw[z.size];exact aI)) (hv:=(Eq.trans z.size (Eq.symm t.size))) (h1:=(cF.one z hsl)) aL (aK) fun cl bF aN=>Pl 1<|ng<|L0<|bM (hz:=(by rw[z.size];exact aI)) bF<|Pl 1<|?_
 have aP:=uz R aN
 refine L0<|b7 (hz:=(by rw[z.size];exact aI)) (hv:=z.size) (h1:=(cF.one z hsl)) (ub (ud o (u1 aH aP im) (le e.size a)) d) (aK) fun cm bG aQ=>Pl 1<|nt<|rt<|eD 22 z.size bG (.int .i64 (((ai bD dir (b.getD 0 0) (b.drop 1))).2))<|?_
 have hs:gi dir b=(ai bD dir (b.getD 0 0) (b.drop 1)):=by
   unfold gi
   (try simp only[f,g,j,x,h,y,B,J,bs,if_true,if_false,decide_true,decide_false,fi,reduceIte])
   all_goals rfl
 rw[← fs]
 refine gK hs ?_
 exact⟨_,rfl,(cF.upd z (us aN aQ) (ap (aT aL (by decide)) (ap (aT (ub (ud o (aD aH R) (le e.size a)) d) (by decide)) aG))),(ut aC (us aP aQ) (ac (ni (le i.size e.size) a) (ac (nr u) ax)))⟩
 have bB:=ak J
 refine bi<|sg<|L0<|bM (hz:=(by rw[t.size];exact aI)) aA<|Pl 1<|?_
 refine L0<|b7 (hz:=(by rw[t.size];exact aI)) (hv:=t.size) (h1:=(cF.one t hsl)) (ub (ud o (u1 V C im) (le e.size a)) d) (aw) fun cn bI aR=>Pl 1<|nt<|rt<|eD 22 t.size bI (.int .i64 (((ai aX dir (b.getD 0 0) (b.drop 1))).2))<|?_
 have hs:gi dir b=(ai aX dir (b.getD 0 0) (b.drop 1)):=by
   unfold gi
   (try simp only[f,g,j,x,h,y,B,J,bs,if_true,if_false,decide_true,decide_false,fi,reduceIte])
   all_goals rfl
 rw[← fs]
 refine gK hs ?_
 exact⟨_,rfl,(cF.upd t (us aB aR) (ap (aT az (by decide)) (ap (aT (ub (ud o (aD V Q) (le e.size a)) d) (by decide)) aG))),(ud aC aR u)⟩
 have bx:=ak B
 refine bi<|sq<|sg<|Pl 2<|nt<|cf B<|bi<|sg<|L0<|bM (hz:=(by rw[s.size];exact aI)) ao<|?_
 refine Pl 1<|?_
 refine L0<|b7 (hz:=(by rw[s.size];exact aI)) (hv:=s.size) (h1:=(cF.one s hsl)) (ub (ud o (u1 D E im) (le e.size a)) d) (am) fun cq bJ aS=>Pl 1<|nt<|rt<|eD 22 s.size bJ (.int .i64 (((ai aV dir (b.getD 0 0) (b.drop 1))).2))<|?_
 have hs:gi dir b=(ai aV dir (b.getD 0 0) (b.drop 1)):=by
   unfold gi
   (try simp only[f,g,j,x,h,y,B,bs,if_true,if_false,decide_true,decide_false,fi,reduceIte])
   all_goals rfl
 rw[← fs]
 refine gK hs ?_
 exact⟨_,rfl,(cF.upd s (us U aS) (ap (aT an (by decide)) (ap (aT (ub (ud o (aD D O) (le e.size a)) d) (by decide)) aG))),(ud aq aS u)⟩
 have bt:=ak y
 refine bi<|sq<|sg<|Pl 2<|nt<|cf y<|bi<|sq<|sg<|?_
 refine Pl 2<|nt<|cf y<|bi<|sg<|L0<|bM (hz:=(by rw[r.size];exact aI)) ad<|Pl 1<|?_
 refine L0<|b7 (hz:=(by rw[r.size];exact aI)) (hv:=r.size) (h1:=(cF.one r hsl)) (ub (ud o D (le e.size a)) d) (aa) fun cr bK aW=>Pl 1<|nt<|rt<|eD 22 r.size bK (.int .i64 (((ai aM dir (b.getD 0 0) (b.drop 1))).2))<|?_
 have hs:gi dir b=(ai aM dir (b.getD 0 0) (b.drop 1)):=by
   unfold gi
   (try simp only[f,g,j,x,h,y,bs,if_true,if_false,decide_true,decide_false,fi,reduceIte])
   all_goals rfl
 rw[← fs]
 refine gK hs ?_
 exact⟨_,rfl,(cF.upd r (us T aW) (ap (aT ab (by decide)) (ap (aT (ub (aD o N) d) (by decide)) aG))),(ud ae aW u)⟩
 have bp:=ak h
 refine bi<|sq<|sg<|Pl 2<|nt<|cf h<|bi<|sq<|sg<|?_
 refine Pl 2<|nt<|cf h<|bi<|sq<|sg<|Pl 2<|nt<|cf h<|sk<|?_
 refine tn<|sg<|L0<|bM (hz:=(by rw[l.size];exact aI)) a6<|Pl 1<|?_
 refine L0<|b7 (hz:=(by rw[l.size];exact aI)) (hv:=l.size) (h1:=(cF.one l hsl)) (ub o d) (a5) fun cs bL aY=>Pl 1<|nt<|rt<|eD 22 l.size bL (.int .i64 (((ai aE dir (b.getD 0 0) (b.drop 1))).2))<|?_
 have hs:gi dir b=(ai aE dir (b.getD 0 0) (b.drop 1)):=by
   unfold gi
   (try simp only[f,g,j,x,h,bs,if_true,if_false,decide_true,decide_false,fi,reduceIte])
   all_goals rfl
 rw[← fs]
 refine gK hs ?_
 exact⟨_,rfl,(cF.upd l (uz M aY) (ap (aT (ub e d) (by decide)) aG)),(ud a7 aY u)⟩
theorem ex{m:Md}{v:Value}{b:List Int}{w:World}{dir:Int}(h:b9 m w v b)(hb:b.length≤1048576) : Calls Tryz.prog 25 #[.int .i64 dir,v] w (co v b (cC dir b) w):=by
  obtain⟨A,cp,rfl,_,_⟩:=h.shape
  exact oG h hb
open Go.RowKit
def oL (v0:Value)(b:List Int)(res:ig × Int)(w:World)(e:Ending)(w':World) : Prop:=∃ x,e = .returned (.tuple #[.agg (qe res.1.unit res.1.tid res.1.msg x),.int .i64 res.2])∧(cF v0 b w' (p6 res.1.msg x).toList res.1.msg∧(0≤res.1.unit∧res.1.unit<256)∧(0≤res.1.tid∧res.1.tid<65536))∧aC [] w w'
theorem jC{x y:ig × Int}(h:x=y){w:World}{e:Ending}{w':World}{v0:Value}{b:List Int}(k:oL v0 b y w e w') : oL v0 b x w e w':=by rw[h];exact k
def Ae:SL:=⟨none,0,none,0,none,0,none,0,none,0⟩
theorem ik{v0:Value}{b:List Int}{x:Int}{w W:World}(hu:aC [] w W) : oL v0 b (ig.zero,x) w (.returned (.tuple #[.agg yt,.int .i64 x])) W:=⟨Ae,(by kernel_rfl),⟨cF.zero v0 b W,(show(0:Int)≤0∧(0:Int)<256 from by decide),(show(0:Int)≤0∧(0:Int)<65536 from by decide)⟩,hu⟩
theorem nM{m:Md}{v:Value}{b:List Int}{w:World}{dir:Int}{M:aO}{E:Int}(hX:cC dir b=(M,E))(h:b9 m w v b)(hb:b.length≤1048576) : Calls Tryz.prog 25 #[.int .i64 dir,v] w (fun e w'=>∃ x,e = .returned (.tuple #[.agg (p6 M x),.int .i64 E])∧cF v b w' (p6 M x).toList M∧aC [] w w'):=by
  refine(ex h hb).mono ?_
  rintro e w' ⟨cs,rfl,h1,h2⟩
  rw[hX] at h1 ⊢
  obtain⟨x,rfl⟩:=qq (h1.rd (b9.old h h2))
  exact⟨x,rfl,h1,h2⟩
end Go.Proofs.YtogbnemojakcpaaGreat
namespace Go.Proofs.YtogbnemojakcpaaGreat
theorem qO(a b k:Nat) : (a ^^^ b)/2 ^ k=(a/2 ^ k) ^^^ (b/2 ^ k):=by
  rw[← Nat.shiftRight_eq_div_pow,Nat.shiftRight_xor_distrib,Nat.shiftRight_eq_div_pow,Nat.shiftRight_eq_div_pow]
theorem uK(x z:Nat) : j8 (x ^^^ 2*z)=j8 x ^^^ z:=by
  unfold j8
  have h1:(x ^^^ 2*z)/2=(x/2) ^^^ z:=by
    have:=qO x (2*z) 1
    rw[show(2:Nat) ^ 1=2 from rfl] at this
    rw[this,show 2*z/2=z from by omega]
  have h2:(x ^^^ 2*z)%2=x%2:=by
    have:=Nat.xor_mod_two_pow (a:=x) (b:=2*z) (n:=1)
    rw[show(2:Nat) ^ 1=2 from rfl] at this
    rw[this,show 2*z%2=0 from by omega,Nat.xor_zero]
  rw[h1,h2,Nat.xor_assoc,Nat.xor_comm z,← Nat.xor_assoc]
theorem nU(x:Nat) : ∀ (k h:Nat),ff k (x ^^^ 2 ^ k*h)=ff k x ^^^ h
  | 0,h=>by show x ^^^ 2 ^ 0*h=x ^^^ h;rw[Nat.pow_zero,Nat.one_mul]
  | k+1,h=>by
    show j8 (ff k (x ^^^ 2 ^ (k+1)*h))=j8 (ff k x) ^^^ h
    rw[Nat.pow_succ,Nat.mul_assoc,nU x k (2*h),uK]
theorem tC(s:Nat) : (s%256) ^^^ (2 ^ 8*(s/256))=s:=by
  have h1:=Nat.xor_mod_two_pow (a:=s%256) (b:=2 ^ 8*(s/256)) (n:=8)
  have h2:=qO (s%256) (2 ^ 8*(s/256)) 8
  rw[show(2:Nat) ^ 8=256 from rfl] at *
  rw[show 256*(s/256)%256=0 from by omega,Nat.xor_zero] at h1
  rw[show s%256/256=0 from by omega,Nat.zero_xor] at h2
  omega
theorem qa(s c:Nat) : ff 8 (s ^^^ c)=ra s c:=by
  have h:=nU ((s%256) ^^^ c) 8 (s/256)
  rw[Nat.xor_assoc,Nat.xor_comm c,← Nat.xor_assoc,tC] at h
  rw[h,Nat.xor_comm]
  rfl
theorem oy{n:Nat}(hn:n<65536) : (if n%2=1 then (n/2) ^^^ 40961 else n/2)=j8 n:=by
  unfold j8
  split
  · rename_i h;rw[h]
  · rename_i h;rw[show n%2=0 from by omega,Nat.zero_mul,Nat.xor_zero]
open Go.RowKit
theorem tF{c:Int}{n:Nat}(h:c=(n:Int))(hn:n<65536)(q:(c%2==1)=true) : xi (c/2) 40961=((j8 n:Nat) : Int):=by
  have q2:c%2=1:=by simpa using q
  rw[← oy hn,if_pos (by omega)]
  unfold xi
  rw[show(c/2).toNat=n/2 from by omega]
  rfl
theorem tX{c:Int}{n:Nat}(h:c=(n:Int))(hn:n<65536)(q:(c%2==1)=false) : c/2=((j8 n:Nat) : Int):=by
  have q2:¬ c%2=1:=by simpa using q
  rw[← oy hn,if_neg (by omega)]
  omega
theorem sw{s:Int}{b:List Int}{i:Nat}(hs:0≤dT s b i∧dT s b i<65536)(hb:0≤b.getD i 0∧b.getD i 0<256){c:Int}(h:c=((ff 8 ((dT s b i).toNat ^^^ (b.getD i 0).toNat) : Nat) : Int)) : c=dT s b (i+1):=by
  rw[h,qa,← o7 hs hb]
  rfl
theorem wj{a c:Int}(ha:0≤a∧a<65536)(hc:0≤c∧c<256) : a.toNat ^^^ c.toNat<65536:=kQ (by omega) (by omega)
theorem rE{l:List Int}{i:Nat}(h:i<l.length) : l.getD i 0∈l:=by
  rw[List.getD_eq_getElem?_getD,List.getElem?_eq_getElem h]
  exact List.getElem_mem h
theorem xr{m:Md}{A:Option Addr}{cp:Nat}{b:List Int}{w:World}{s:Int}(hsl:b9 m w (.slice A b.length cp) b)(hs:0≤s∧s<65536) :
    Calls Tryz.prog 179 #[.int .u16 s,.slice A b.length cp] w (cY (.int .u16 (bU s b)) w):=by
 have hln:=aL.len hsl
 have hb:=b9.range hsl
 refine en 34 Tryz.func179 rfl<|sg<|Pl 1<|nt<|sq<|sg<|Pl 1<|nt<|bk<|?_
 refine iM (fun x=>[(0,.int .u16 x.2),(1,.slice A b.length cp),(4,.int .u16 0),(5,.int .i64 ((x.1:Nat) : Int))]) (fun(x:Nat × Int) w'=>aC [] w w'∧(x.1≤b.length)∧(x.2=dT s b x.1)∧(0≤x.2∧x.2<65536)) (fun x=>b.length-x.1) (0,s) ⟨aC.refl _ _,(by(try dsimp only);omega),rfl,hs⟩ ?_
 rintro⟨i,c⟩ r ⟨f,t,u,y⟩
 refine iL [(0,.int .u16 c),(1,.slice A b.length cp),(4,.int .u16 0),(5,.int .i64 ((i:Nat) : Int))] ?_
 have H:i≤b.length:=t
 have q:c=dT s b i:=u
 have I:0≤c∧c<65536:=y
 have hcr:0≤dT s b i∧dT s b i<65536:=jo hs hb _
 refine sq<|sg<|Pl 4<|nt<|cb ((decide (((i:Nat) : Int)<((b.length:Nat) : Int)))) (fun g=>?_) (fun g=>?_)
 have z:=of_decide_eq_true g
 refine bi<|sq<|bk<|sg<|Pl 3<|?_
 refine gj (b9.at_ (b9.old hsl f) i (by omega)) fun h j B C J=>L0<|m0 b.length i B (by omega)<|L0<|eq (p:=⟨h,j+i,none⟩) (v:=.int .u8 (b.getD i 0)) C<|L0<|wZ (b.getD i 0)<|?_
 have K:=yr (a:=c) (b:=(b.getD i 0)) (by omega) (by omega)
 refine L0<|Oe (.int .u16 (bits .xor .u16 c (b.getD i 0))) (.int .u16 (xi c (b.getD i 0))) (congrArg (Value.int .u16) (nj (by omega) (by omega)))<|Pl 1<|ng<|Pl 1<|nt<|bk<|?_
 have hbr:0≤b.getD i 0∧b.getD i 0<256:=hb _ (rE (by omega))
 have hxl:=wj hcr hbr
 refine iM (fun x=>[(0,.int .u16 x.2),(1,.slice A b.length cp),(4,.int .u16 0),(5,.int .i64 ((i:Nat) : Int)),(6,.int .i64 ((x.1:Nat) : Int)),(8,.int .i64 ((i:Nat) : Int)),(9,.slice A b.length cp),(10,.int .i64 ((b.length:Nat) : Int)),(11,.bool (decide (((i:Nat) : Int)<((b.length:Nat) : Int)))),(14,.int .u16 c),(15,.slice A b.length cp),(16,.int .i64 ((i:Nat) : Int)),(17,.pointer (some (⟨h,j+i,none⟩))),(18,.int .u8 (b.getD i 0)),(19,.int .u16 (b.getD i 0)),(20,.int .u16 (xi c (b.getD i 0)))]) (fun(x:Nat × Int) w'=>aC [] r w'∧(x.1≤8)∧(x.2=((ff x.1 ((dT s b i).toNat ^^^ (b.getD i 0).toNat) : Nat) : Int))) (fun x=>8-x.1) (0,(xi c (b.getD i 0))) ⟨aC.refl _ _,(by(try dsimp only);omega),(by(try dsimp only);rw[q];rfl)⟩ ?_
 rintro⟨k,d⟩ L ⟨l,D,E⟩
 refine iL [(0,.int .u16 d),(1,.slice A b.length cp),(4,.int .u16 0),(5,.int .i64 ((i:Nat) : Int)),(6,.int .i64 ((k:Nat) : Int)),(8,.int .i64 ((i:Nat) : Int)),(9,.slice A b.length cp),(10,.int .i64 ((b.length:Nat) : Int)),(11,.bool (decide (((i:Nat) : Int)<((b.length:Nat) : Int)))),(14,.int .u16 c),(15,.slice A b.length cp),(16,.int .i64 ((i:Nat) : Int)),(17,.pointer (some (⟨h,j+i,none⟩))),(18,.int .u8 (b.getD i 0)),(19,.int .u16 (b.getD i 0)),(20,.int .u16 (xi c (b.getD i 0)))] ?_
 have M:k≤8:=D
 have n:d=((ff k ((dT s b i).toNat ^^^ (b.getD i 0).toNat) : Nat) : Int):=E
 have hkl:=iv hxl k
 refine sq<|sg<|Pl 2<|nt<|?_
 refine cb ((decide (((k:Nat) : Int)<8))) (fun o=>?_) (fun o=>?_)
 have F:=of_decide_eq_true o
 refine bi<|sq<|bk<|sg<|Pl 1<|L0<|Oe (.int .u16 (Int.tmod d 2)) (.int .u16 (d%2)) (congrArg (Value.int .u16) (Int.tmod_eq_emod_of_nonneg (by omega)))<|Pl 2<|ng<|Pl 1<|L0<|Oe (.int .u16 (IntKind.u16.wrap (Int.tdiv d 2))) (.int .u16 (d/2)) (congrArg (Value.int .u16) (kF (by omega) (by omega)))<|?_
 refine Pl 1<|ng<|Pl 1<|nt<|cb (((d%2)==1)) (fun e=>?_) (fun e=>?_)
 have G:=ah e
 refine go<|Pl 1<|?_
 have N:=yr (a:=(d/2)) (b:=40961) (by omega) (by omega)
 exact L0<|Oe (.int .u16 (bits .xor .u16 (d/2) 40961)) (.int .u16 (xi (d/2) 40961)) (congrArg (Value.int .u16) (nj (by omega) (by omega)))<|Pl 1<|nl<|bn<|tn<|go<|Pl 1<|L0<|Oi (((k:Nat) : Int)+1)<|Pl 1<|nl<|gE ((k+1),(xi (d/2) 40961)) ⟨l,(by(try dsimp only);omega),(tF n (iv hxl k) e)⟩ (by omega)
 have G:=ak e
 exact sk<|bn<|tn<|go<|Pl 1<|L0<|Oi (((k:Nat) : Int)+1)<|Pl 1<|nl<|gE ((k+1),(d/2)) ⟨l,(by(try dsimp only);omega),(tX n (iv hxl k) e)⟩ (by omega)
 have F:=of_decide_eq_false o
 refine xt<|tx<|tx<|bx<|bn<|tn<|go<|Pl 1<|L0<|Oi (((i:Nat) : Int)+1)<|Pl 1<|nl<|?_
 have hc8:d=dT s b (i+1):=sw hcr hbr (by rw[n,show k=8 from by omega])
 exact gE ((i+1),d) ⟨(aD f l),(by(try dsimp only);omega),hc8,(by(try dsimp only);rw[hc8];exact jo hs hb _)⟩ (by omega)
 have z:=of_decide_eq_false g
 refine xt<|tx<|tx<|bx<|tn<|sg<|Pl 2<|nt<|rt<|rr (.int .u16 c)<|?_
 have hk:c=bU s b:=by rw[q];exact pa (by omega)
 rw[← hk]
 exact⟨rfl,f⟩
theorem wO{m:Md}{v:Value}{b:List Int}{w:World}(h:b9 m w v b) : Calls Tryz.prog 179 #[.int .u16 65535,v] w (cY (.int .u16 (bU 65535 b)) w):=by
  obtain⟨A,cp,rfl,_,_⟩:=h.shape
  exact xr h (by decide)
theorem qV{b:List Int}(h:2≤b.length)(hb:∀ x,x∈b→0≤x∧x<256) : dl b=((b.getD (((b.length:Nat) : Int)-2).toNat 0==(bU 65535 (b.take (((b.length:Nat) : Int)-2).toNat)%256)%256)&&(b.getD (((b.length:Nat) : Int)-1).toNat 0==(bU 65535 (b.take (((b.length:Nat) : Int)-2).toNat)/256)%256)):=by
  unfold dl bW
  rw[decide_eq_true h,Bool.true_and,show(((b.length:Nat) : Int)-2).toNat=b.length-2 from by omega,show(((b.length:Nat) : Int)-1).toNat=b.length-2+1 from by omega]
  have e:b.drop (b.length-2)=[b.getD (b.length-2) 0,b.getD (b.length-2+1) 0]:=by
    apply List.ext_getElem
    · simp;omega
    · intro i h1 h2
      simp only[List.length_cons,List.length_nil] at h2
      rw[List.getElem_drop]
      rcases i with _|_|i
      · simp[List.getD_eq_getElem?_getD,List.getElem?_eq_getElem (show b.length-2<b.length by omega)]
      · simp[List.getD_eq_getElem?_getD,List.getElem?_eq_getElem (show b.length-2+1<b.length by omega)]
      · omega
  rw[e,Bool.eq_iff_iff]
  simp only[decide_eq_true_eq,List.cons.injEq,and_true,Bool.and_eq_true,beq_iff_eq]
  constructor
  · rintro⟨h1,h2⟩
    exact⟨by rw[← h1];omega,by rw[← h2]⟩
  · rintro⟨h1,h2⟩
    exact⟨by rw[h1];omega,by rw[h2]⟩
theorem zD{m:Md}{A:Option Addr}{cp:Nat}{b:List Int}{w:World}(hsl:b9 m w (.slice A b.length cp) b)(hl:b.length≤1048576)(hcp:b.length≤cp) :
    Calls Tryz.prog 117 #[.slice A b.length cp] w (cY (.bool (dl b)) w):=by
 have hln:=aL.len hsl
 have hb:=b9.range hsl
 refine en 34 Tryz.func117 rfl<|sg<|Pl 1<|ng<|Pl 3<|nt<|sq<|sg<|?_
 refine Pl 2<|nt<|cb ((decide (((b.length:Nat) : Int)<2))) (fun a=>?_) (fun a=>?_)
 have i:=of_decide_eq_true a
 refine sg<|Pl 1<|nt<|rt<|tr<|rr (.bool false)<|?_
 have hs:dl b=false:=by unfold dl;rw[decide_eq_false (by omega)];rfl
 rw[hs]
 exact⟨rfl,(aC.refl [] _)⟩
 have i:=of_decide_eq_false a
 refine bi<|sg<|Pl 2<|L0<|Oi (((b.length:Nat) : Int)-2)<|nF (wM (P:=Tryz.prog) 22 5 1 Tryz.underlying22 rfl rfl A b.length cp (k:=(((b.length:Nat) : Int)-2)) (((((b.length:Nat) : Int)-2)).toNat) (by omega) (by omega) (by omega)) fun f hrun12 g=>L0<|ju (.slice f (((((b.length:Nat) : Int)-2)).toNat) cp) (oU (kl:=.i64) (k:=(((b.length:Nat) : Int)-2)) (A:=A) (n:=b.length) (c:=cp) rfl Tryz.underlying22 (by kernel_rfl) (by kernel_rfl) (hrun12 _ _))<|L0<|Oc (args:=#[.int .u16 65535,.slice f (((((b.length:Nat) : Int)-2)).toNat) cp])<|m1 (wO (g _ _ _ _ _ hsl)) fun z e=>?_
 have B:=gD (b.take (((((b.length:Nat) : Int)-2)).toNat)) (s:=65535) (by decide) (b9.range (g _ _ _ _ _ hsl))
 refine Pl 1<|ng<|Pl 2<|L0<|Oi (((b.length:Nat) : Int)-2)<|?_
 have h:=b9.old hsl e
 refine gj (b9.at_ h (((((b.length:Nat) : Int)-2)).toNat) (by omega)) fun j l o q C=>L0<|vZ b.length (((((b.length:Nat) : Int)-2)).toNat) (((b.length:Nat) : Int)-2) (by omega) o (by omega)<|L0<|eq (p:=⟨j,l+(((((b.length:Nat) : Int)-2)).toNat),none⟩) (v:=.int .u8 (b.getD (((((b.length:Nat) : Int)-2)).toNat) 0)) q<|Pl 1<|L0<|Oe (.int .u16 (Int.tmod (bU 65535 (b.take (((((b.length:Nat) : Int)-2)).toNat))) 256)) (.int .u16 ((bU 65535 (b.take (((((b.length:Nat) : Int)-2)).toNat)))%256)) (congrArg (Value.int .u16) (Int.tmod_eq_emod_of_nonneg (by omega)))<|Pl 3<|bl 23 (((b.getD (((((b.length:Nat) : Int)-2)).toNat) 0)==(((bU 65535 (b.take (((((b.length:Nat) : Int)-2)).toNat)))%256)%256))) (fun d=>?_) (fun d=>?_)
 have r:=ah d
 refine Pl 2<|L1<|Oi (((b.length:Nat) : Int)-1)<|gj (b9.at_ h (((((b.length:Nat) : Int)-1)).toNat) (by omega)) fun t u x y D=>L1<|vZ b.length (((((b.length:Nat) : Int)-1)).toNat) (((b.length:Nat) : Int)-1) (by omega) x (by omega)<|L1<|eq (p:=⟨t,u+(((((b.length:Nat) : Int)-1)).toNat),none⟩) (v:=.int .u8 (b.getD (((((b.length:Nat) : Int)-1)).toNat) 0)) y<|Pl 1<|L1<|Oe (.int .u16 (IntKind.u16.wrap (Int.tdiv (bU 65535 (b.take (((((b.length:Nat) : Int)-2)).toNat))) 256))) (.int .u16 ((bU 65535 (b.take (((((b.length:Nat) : Int)-2)).toNat)))/256)) (congrArg (Value.int .u16) (kF (by omega) (by omega)))<|Pl 4<|nt<|rt<|rr (.bool ((b.getD (((((b.length:Nat) : Int)-1)).toNat) 0)==(((bU 65535 (b.take (((((b.length:Nat) : Int)-2)).toNat)))/256)%256)))<|?_
 have hs:dl b=((b.getD (((((b.length:Nat) : Int)-1)).toNat) 0)==(((bU 65535 (b.take (((((b.length:Nat) : Int)-2)).toNat)))/256)%256)):=by rw[qV (by omega) hb];(try simp only[a,d,bs,if_true,if_false,decide_true,decide_false]);all_goals rfl
 rw[hs]
 exact⟨rfl,e⟩
 have r:=ak d
 refine Pl 11<|nt<|rt<|rr (.bool false)<|?_
 have hs:dl b=false:=by rw[qV (by omega) hb];(try simp only[a,d,bs,if_true,if_false,decide_true,decide_false]);all_goals rfl
 rw[hs]
 exact⟨rfl,e⟩
theorem A9{m:Md}{v:Value}{b:List Int}{w:World}(h:b9 m w v b)(hb:b.length≤1048576) : Calls Tryz.prog 117 #[v] w (cY (.bool (dl b)) w):=by
  obtain⟨A,cp,rfl,hc,_⟩:=h.shape
  exact zD h hb hc
open Go.RowKit
theorem nT{m:Md}{A:Option Addr}{cp:Nat}{b:List Int}{w:World}{dir:Int}(hsl:b9 m w (.slice A b.length cp) b)(hb:b.length≤1048576)(hcp:b.length≤cp) :
    Calls Tryz.prog 51 #[.int .i64 dir,.slice A b.length cp] w (oL (.slice A b.length cp) b (dU dir b) w):=by
 have hln:(b.length:Int)≤1048576:=by omega
 have hrb:=b9.range hsl
 refine en 49 Tryz.func51 rfl<|sg<|L0<|bH #[.int .u8 0,.int .u16 0,.int .u8 0,.int .u8 0,.int .u16 0,.int .u16 0,.int .u16 0,.int .u16 0,.int .u16 0,.int .u16 0,.int .u16 0,.int .u16 0,.int .u16 0,.int .u16 0,.slice none 0 0,.slice none 0 0,.slice none 0 0,.slice none 0 0,.int .u8 0,.int .u8 0,.int .u8 0,.int .u8 0,.int .u8 0,.slice none 0 0] fun au av j e o=>Pl 1<|ng<|Pl 3<|nt<|sq<|sq<|?_
 refine go<|Pl 3<|cu 3 [14] 17 (((dir != 0)&&(dir != 1))) (fun K C=>?_) ?_
 refine bl 14 ((dir != 0)) (fun p=>?_) (fun p=>?_)
 have V:=ay p
 exact Pl 3<|ce C (dir != 1) (by rw[p];rfl)
 have V:=ag p
 exact Pl 3<|ce C false (by rw[p];rfl)
 refine nt<|cb (((dir != 0)&&(dir != 1))) (fun d=>?_) (fun d=>?_)
 have D:=(aU d).1
 have E:=(aU d).2
 have ax:=ay D
 have az:=ay E
 refine sg<|Pl 1<|L0<|b7 e #[.int .u8 0,.int .u16 0,.int .u8 0,.int .u8 0,.int .u16 0,.int .u16 0,.int .u16 0,.int .u16 0,.int .u16 0,.int .u16 0,.int .u16 0,.int .u16 0,.int .u16 0,.int .u16 0,.slice none 0 0,.slice none 0 0,.slice none 0 0,.slice none 0 0,.int .u8 0,.int .u8 0,.int .u8 0,.int .u8 0,.int .u8 0,.slice none 0 0] fun aA W X=>Pl 1<|nt<|rt<|tr<|bN W (.int .i64 1)<|?_
 have hs:dU dir b=(ig.zero,1):=by
   unfold dU
   (try simp only[d,D,E,bs,if_true,if_false,decide_true,decide_false,fC,reduceIte])
   all_goals rfl
 refine jC hs ?_
 exact ik (ud o X j)
 refine bi<|sq<|sg<|Pl 2<|nt<|cb ((decide (((b.length:Nat) : Int)<4))) (fun f=>?_) (fun f=>?_)
 have Y:=of_decide_eq_true f
 refine sg<|Pl 1<|L0<|b7 e #[.int .u8 0,.int .u16 0,.int .u8 0,.int .u8 0,.int .u16 0,.int .u16 0,.int .u16 0,.int .u16 0,.int .u16 0,.int .u16 0,.int .u16 0,.int .u16 0,.int .u16 0,.int .u16 0,.slice none 0 0,.slice none 0 0,.slice none 0 0,.slice none 0 0,.int .u8 0,.int .u8 0,.int .u8 0,.int .u8 0,.int .u8 0,.slice none 0 0] fun aB Z a0=>Pl 1<|nt<|rt<|tr<|bN Z (.int .i64 2)<|?_
 have hs:dU dir b=(ig.zero,2):=by
   unfold dU
   (try simp only[d,f,bs,if_true,if_false,decide_true,decide_false,fC,reduceIte])
   all_goals rfl
 refine jC hs ?_
 exact ik (ud o a0 j)
 have Y:=of_decide_eq_false f
 refine bi<|sq<|sg<|Pl 2<|nt<|cb ((decide (256<((b.length:Nat) : Int)))) (fun h=>?_) (fun h=>?_)
 have a1:=of_decide_eq_true h
 refine sg<|Pl 1<|L0<|b7 e #[.int .u8 0,.int .u16 0,.int .u8 0,.int .u8 0,.int .u16 0,.int .u16 0,.int .u16 0,.int .u16 0,.int .u16 0,.int .u16 0,.int .u16 0,.int .u16 0,.int .u16 0,.int .u16 0,.slice none 0 0,.slice none 0 0,.slice none 0 0,.slice none 0 0,.int .u8 0,.int .u8 0,.int .u8 0,.int .u8 0,.int .u8 0,.slice none 0 0] fun aC a2 a3=>Pl 1<|nt<|rt<|tr<|bN a2 (.int .i64 3)<|?_
 have hs:dU dir b=(ig.zero,3):=by
   unfold dU
   (try simp only[d,f,h,bs,if_true,if_false,decide_true,decide_false,fC,reduceIte])
   all_goals rfl
 refine jC hs ?_
 exact ik (ud o a3 j)
 have a1:=of_decide_eq_false h
 refine bi<|sg<|Pl 1<|?_
 have F:=b9.old hsl o
 refine L0<|Oc (args:=#[.slice A b.length cp])<|m1 (A9 F (by omega)) fun aE i=>Pl 1<|nt<|sq<|sg<|Pl 2<|nt<|?_
 have G:=aD o i
 refine cb ((!(dl b))) (fun k=>?_) (fun k=>?_)
 have t:(dl b)=false:=by simpa using k
 refine sg<|Pl 1<|?_
 refine L0<|b7 (ub i e) #[.int .u8 0,.int .u16 0,.int .u8 0,.int .u8 0,.int .u16 0,.int .u16 0,.int .u16 0,.int .u16 0,.int .u16 0,.int .u16 0,.int .u16 0,.int .u16 0,.int .u16 0,.int .u16 0,.slice none 0 0,.slice none 0 0,.slice none 0 0,.slice none 0 0,.int .u8 0,.int .u8 0,.int .u8 0,.int .u8 0,.int .u8 0,.slice none 0 0] fun aF a4 a5=>Pl 1<|nt<|rt<|tr<|bN a4 (.int .i64 10)<|?_
 have hs:dU dir b=(ig.zero,10):=by
   unfold dU
   (try simp only[d,f,h,k,t,bs,if_true,if_false,decide_true,decide_false,fC,reduceIte])
   all_goals rfl
 refine jC hs ?_
 exact ik (ud G a5 j)
 have t:(dl b)=true:=by simpa using k
 refine bi<|sg<|Pl 3<|L0<|Oi (((b.length:Nat) : Int)-2)<|nF (iz (P:=Tryz.prog) 22 5 1 Tryz.underlying22 rfl rfl A b.length cp (lo:=1) (up:=(((b.length:Nat) : Int)-2)) 1 (((((b.length:Nat) : Int)-2)).toNat) (by omega) (by omega) (by omega) (by omega) (by omega)) fun a6 hrun43 H=>L0<|ju (.slice a6 ((((((b.length:Nat) : Int)-2)).toNat)-1) (cp-1)) (ft (kl:=.i64) (kh:=.i64) (lo:=1) (hi:=(((b.length:Nat) : Int)-2)) (A:=A) (n:=b.length) (c:=cp) rfl Tryz.underlying22 (by kernel_rfl) (by kernel_rfl) (by kernel_rfl) (hrun43 _ _ _))<|?_
 have I:=b9.old F i
 refine pr (cC dir ((b.take (((((b.length:Nat) : Int)-2)).toNat)).drop 1)) fun a r z=>?_
 refine L0<|Oc<|e2 (nM z (H _ _ _ _ _ I) (by rw[List.length_drop,List.length_take];omega)) fun x49 aH a7 B=>?_
 have a8:=cF.sub a7 (fun m' w' q=>(H _ _ _ _ _ q))
 refine Pl 3<|L0<|bH mZ fun J aI L a9 aa=>L0<|b7 a9 (p6 a x49) fun aJ ac ae=>Pl 1<|nt<|sq<|sg<|Pl 2<|nt<|?_
 have M:=ud aa ae L
 have u:=aD B M
 have N:=aD G u
 refine cb ((r != 0)) (fun s=>?_) (fun s=>?_)
 have af:=ay s
 refine sg<|Pl 2<|?_
 refine L0<|b7 (ub (aD i u) e) #[.int .u8 0,.int .u16 0,.int .u8 0,.int .u8 0,.int .u16 0,.int .u16 0,.int .u16 0,.int .u16 0,.int .u16 0,.int .u16 0,.int .u16 0,.int .u16 0,.int .u16 0,.int .u16 0,.slice none 0 0,.slice none 0 0,.slice none 0 0,.slice none 0 0,.int .u8 0,.int .u8 0,.int .u8 0,.int .u8 0,.int .u8 0,.slice none 0 0] fun aK ah ai=>Pl 1<|nt<|rt<|tr<|bN ah (.int .i64 r)<|?_
 have hX2:cC dir (fm b)=(a,r):=(congrArg (cC dir) (gW b)).trans z
 have hs:dU dir b=(ig.zero,r):=by
   unfold dU
   (try simp only[d,f,h,k,t,s,bs,if_true,if_false,decide_true,decide_false,fC,hX2,reduceIte])
   all_goals rfl
 refine jC hs ?_
 exact ik (ud N ai j)
 have af:=ag s
 refine bi<|sq<|?_
 refine gj (b9.at_ (b9.old I u) 0 (by omega)) fun aj ak O al aL=>Rg 8 (fun w'=>w'.cell? ⟨aj,ak+0,none⟩=some (.int .u8 (b.getD 0 0))∧w'.heap[J]? = some (.cells (p6 a x49) 30 (0,0))) fun aM v=>?_
 have Q:=ub v ac
 refine bg ⟨(uc v al),Q⟩ fun l=>Rt 0 l<|oh 1 l b.length 0 0 rfl O (by omega)<|Rl 2 l (fun _ hs=>hs.1)<|Rt 3 l<|Rr 4 l (.agg (p6 a x49)) (fun w' hs=>l6 (g:=J) (off:=0) [.int .u8 a.code,.int .u8 a.fail,.int .u16 a.addr,.int .u16 a.count,.int .u16 a.value,.int .u16 a.and_,.int .u16 a.or_,.int .u16 a.addr2,.int .u16 a.sub,.int .u16 a.status,.int .u16 a.events,.int .u16 a.messages,.slice x49.aw a.words.length x49.kw,.slice x49.ab a.bits.length x49.kb,.slice x49.ad a.data.length x49.kd,.slice x49.ar a.recs.length x49.kr,.int .u8 a.mei,.int .u8 a.kind,.int .u8 a.level,.int .u8 a.more,.int .u8 a.next,.slice x49.ao a.objects.length x49.ko] rfl (by kernel_rfl) hs.2 (by kernel_rfl) (by kernel_rfl) rfl)<|Rt 5 l<|?_
 have R:=aD u v
 have S:=aD i R
 refine R0 6 rfl<|b7 (ub S e) (qe (b.getD 0 0) 0 a x49) fun aN an y=>?_
 have T:=uz v y
 have aO:=uz R y
 have aP:=uz S y
 have U:=ud N T j
 refine bg ⟨(cB (b9.old hsl U) O 0 (by omega)),(aW y (Ne.symm (nb (am e) (le i.size B.size) L)) Q)⟩ fun aq=>Rt 7 aq<|re<|tn<|rt<|bN an (.int .i64 0)<|?_
 have hX2:cC dir (fm b)=(a,r):=(congrArg (cC dir) (gW b)).trans z
 have hs:dU dir b=(⟨(b.getD 0 0),0,a⟩,0):=by
   unfold dU
   (try simp only[d,f,h,k,t,s,bs,if_true,if_false,decide_true,decide_false,fC,hX2,reduceIte])
   all_goals rfl
 refine jC hs ?_
 exact⟨x49,rfl,⟨(cF.upd a8 (uz M T) (ap (aT (ub (aD i B) e) (by decide)) aG)),b8 (x:=(b.getD 0 0)) (by omega),el (x:=0) (by omega)⟩,U⟩
theorem qt{m:Md}{v:Value}{b:List Int}{w:World}{dir:Int}(h:b9 m w v b)(hb:b.length≤1048576) : Calls Tryz.prog 51 #[.int .i64 dir,v] w (oL v b (dU dir b) w):=by
  obtain⟨A,cp,rfl,hc,_⟩:=h.shape
  exact nT h hb hc
theorem na{m:Md}{v:Value}{b:List Int}{w:World}{dir:Int}{F:ig}{E:Int}(hX:dU dir b=(F,E))(h:b9 m w v b)(hb:b.length≤1048576) : Calls Tryz.prog 51 #[.int .i64 dir,v] w (fun e w'=>∃ x,e = .returned (.tuple #[.agg (qe F.unit F.tid F.msg x),.int .i64 E])∧(cF v b w' (p6 F.msg x).toList F.msg∧(0≤F.unit∧F.unit<256)∧(0≤F.tid∧F.tid<65536))∧aC [] w w'):=by
  refine(qt h hb).mono ?_
  rintro e w' ⟨x,rfl,h1,h2⟩
  rw[hX] at h1 ⊢
  exact⟨x,rfl,h1,h2⟩
open Go.RowKit
theorem ug{xs L:List Int}{k:Nat}(h:L=aJ (xs.take k))(h1:¬ ((k:Nat) : Int)<((xs.length:Nat) : Int)) : L=aJ xs:=by
  rw[h,List.take_of_length_le (by omega)]
theorem yN{m:Md}{A:Option Addr}{cp:Nat}{xs:List Int}{w:World}(h:dP m w (.slice A xs.length cp) xs)(hn:xs.length≤1048576) : Calls Tryz.prog 174 #[.slice A xs.length cp] w (xv xs w):=by
 refine en 27 Tryz.func174 rfl<|sg<|Pl 1<|ng<|Pl 1<|nt<|sq<|sg<|?_
 refine Pl 1<|nt<|bk<|?_
 refine iM (fun x=>[(0,.slice A xs.length cp),(2,.slice none 0 0),(3,.slice x.2.2.1 x.2.1.length x.2.2.2),(4,.int .i64 ((x.1:Nat) : Int))]) (fun(x:Nat × List Int × Option Addr × Nat) w'=>aC [] w w'∧eG w.heap.size w' (.slice x.2.2.1 x.2.1.length x.2.2.2) x.2.1∧(x.1≤xs.length)∧(x.2.1=aJ (xs.take x.1))) (fun x=>xs.length-x.1) (0,[],none,0) ⟨aC.refl _ _,(aS.nil w.heap.size _ _ sZ _),(by(try dsimp only);omega),rfl⟩ ?_
 rintro⟨k,L,B,cq⟩ o ⟨b,p,q,r⟩
 refine iL [(0,.slice A xs.length cp),(2,.slice none 0 0),(3,.slice B L.length cq),(4,.int .i64 ((k:Nat) : Int))] ?_
 have d:eG w.heap.size o (.slice B L.length cq) L:=p
 have H:k≤xs.length:=q
 have I:L=aJ (xs.take k):=r
 have hL:L=aJ (xs.take k):=by assumption
 have hLn:L.length=2*k:=by rw[hL,az,List.length_take];omega
 refine sq<|sg<|Pl 4<|nt<|cb ((decide (((k:Nat) : Int)<((xs.length:Nat) : Int)))) (fun c=>?_) (fun c=>?_)
 have s:=of_decide_eq_true c
 refine bi<|sq<|bk<|?_
 refine gj (dP.at_ (dP.old h b) k (by omega)) fun t u f j J=>Rg 16 (fun w'=>w'.cell? ⟨t,u+k,none⟩=some (.int .u16 (xs.getD k 0))) fun K g=>bg (uc g j) fun a=>Rt 0 a<|Rt 1 a<|Rt 2 a<|oh 3 a xs.length k ((k:Nat) : Int) rfl f (by omega)<|Rl 4 a (fun _ hs=>hs)<|Rr 5 a (.int .u16 ((xs.getD k 0)/256)) (fun _ _=>cy (.int .u16 (IntKind.u16.wrap (Int.tdiv (xs.getD k 0) 256))) (by kernel_rfl) (congrArg (Value.int .u16) (kF (by omega) (by omega))))<|Rt 6 a<|Rt 7 a<|Rt 8 a<|oh 9 a xs.length k ((k:Nat) : Int) rfl f (by omega)<|Rl 10 a (fun _ hs=>hs)<|?_
 refine Rr 11 a (.int .u16 ((xs.getD k 0)%256)) (fun _ _=>cy (.int .u16 (Int.tmod (xs.getD k 0) 256)) (by kernel_rfl) (congrArg (Value.int .u16) (Int.tmod_eq_emod_of_nonneg (by omega))))<|Rt 12 a<|R0 13 rfl<|cL (m:=2) (e:=5) #[.int .u8 (((xs.getD k 0)/256)%256),.int .u8 (((xs.getD k 0)%256)%256)] fun M N v y l=>?_
 have z:=cG v (xs:=[(((xs.getD k 0)/256)%256),(((xs.getD k 0)%256)%256)]) (by as_aux_lemma=>kernel_rfl) (au (by omega) (au (by omega) aK)) (by(try simp only[List.length_cons,List.length_nil]);omega) y
 have i:=aD g l
 refine bg (uc i j) fun O=>?_
 refine R0 14 rfl<|bS aZ (xs:=L) (ys:=([(((xs.getD k 0)/256)%256),(((xs.getD k 0)%256)%256)])) (.int .u8 0) 1 (aq d i (fun x hx=>aA) (fun _ _ h=>h)) (z).rd (by(try simp only[List.length_append,List.length_cons,List.length_nil,az]);omega) (le (le b.size g.size) l.size) fun C D P E F=>?_
 have n:=ut b (ut (aC.mono (S':=(ob B++[])) i ax) F (av il ax)) (av (aP d lr) ax)
 exact bg (cW (dP.old h n) f k (by omega)) fun G=>Rt 15 G<|re<|bn<|tn<|go<|Pl 1<|L0<|Oi (((k:Nat) : Int)+1)<|Pl 1<|nl<|gE ((k+1),(L++[(((xs.getD k 0)/256)%256),(((xs.getD k 0)%256)%256)]),C,D) ⟨n,E,(by(try dsimp only);omega),(by(try dsimp only);rw[show((xs.getD k 0)/256)%256=(xs.getD k 0)/256 from by omega,show((xs.getD k 0)%256)%256=(xs.getD k 0)%256 from by omega,mn xs k (by omega),← hL])⟩ (by omega)
 have s:=of_decide_eq_false c
 refine xt<|tx<|tx<|bx<|tn<|sg<|Pl 2<|nt<|rt<|rr (.slice B L.length cq)<|?_
 have hs:L=aJ xs:=ug hL (of_decide_eq_false c)
 exact⟨_,rfl,by rw[← hs];exact d,b⟩
theorem gl{m:Md}{v:Value}{xs:List Int}{w:World}(h:dP m w v xs)(hn:xs.length≤1048576) : Calls Tryz.prog 174 #[v] w (xv xs w):=by
  obtain⟨A,cp,rfl,_,_⟩:=h.shape
  exact yN h hn
open Go.RowKit
def cS (dir:Int)(M:aO) : List Int :=
  if M.code==1 || M.code==2 then (if dir==1 then [(M.data.length:Int)%256]++M.data else aJ [M.addr,M.count])
  else if M.code==5 then aJ [M.addr,M.value]
  else if M.code==15 then (if dir==0 then (aJ [M.addr,M.count]++[((bK M.bits).length:Int)%256])++bK M.bits else aJ [M.addr,M.count])
  else aJ [M.addr,M.count]
def dG (dir:Int)(M:aO) : List Int :=
  if M.code==8 then aJ ([M.sub]++M.words)
  else if dir==0 then []
  else if M.code==7 then [M.value%256]
  else if M.code==11 then aJ [M.status,M.events]
  else if M.code==12 then (([((M.data.length:Int)+6)%256]++aJ [M.status,M.events,M.messages])++M.data)
  else [(M.data.length:Int)%256]++M.data
def dz (dir:Int)(M:aO) : List Int :=
  if dir==1&&((M.code==3 || M.code==4)||M.code==23) then (aJ []++[(2*(M.words.length:Int))%256])++aJ M.words
  else if (M.code==3 || M.code==4)||(M.code==16&&dir==1) then aJ [M.addr,M.count]
  else if M.code==6 then aJ [M.addr,M.value]
  else if M.code==16 then ((aJ [M.addr,M.count]++[(2*(M.words.length:Int))%256])++aJ M.words)
  else if M.code==22 then aJ [M.addr,M.and_,M.or_]
  else if M.code==23 then ((aJ [M.addr,M.count,M.addr2,(M.words.length:Int)%65536]++[(2*(M.words.length:Int))%256])++aJ M.words)
  else if M.code==24&&dir==0 then aJ [M.addr]
  else if M.code==24 then aJ [(2*(M.words.length:Int)+2)%65536,(M.words.length:Int)%65536]++aJ M.words
  else (aJ []++[(2*(M.words.length:Int))%256])++aJ M.words
theorem qh{m:Md}{cs:Array Value}{M:aO}{w:World}{dir:Int}(h:aH m w cs.toList M)(hf:bR M) : Calls Tryz.prog 166 #[.int .i64 dir,.agg cs] w (fO (cS dir M) w):=by
 obtain⟨vw,vb,vd,vr,vo,h0,hw,hbt,hd,hr,ho,hR⟩:=h
 obtain rfl:cs=(bt M vw vb vd vr vo).toArray:=by apply Array.toList_inj.1;simpa using h0
 clear h0
 obtain⟨Aw,kw,rfl,_,_⟩:=hw.shape
 obtain⟨Ab,kb,rfl,_,_⟩:=hbt.shape
 obtain⟨Ad,kd,rfl,_,_⟩:=hd.shape
 obtain⟨Ar,kr,rfl,_,_⟩:=hr.shape
 obtain⟨Ao,ko,rfl,_,_⟩:=ho.shape
 obtain⟨q0,q1,q2,q3,q4,q5,q6,q7,q8,q9,K,L,N,O,P,Q,R⟩:=hR
 simp only[B8,dr] at q0 q1 q2 q3 q4 q5 q6 q7 q8 q9 K L N O P Q R
 have hf1:=hf.words
 have hf2:=hf.bits
 have hf3:=hf.data
 have hf4:=hf.recs
 have hf5:=hf.objects
 refine en 52 Tryz.func166 rfl<|sg<|L0<|dq (mG M.code M.fail M.addr M.count M.value M.and_ M.or_ M.addr2 M.sub M.status M.events M.messages (.slice Aw M.words.length kw) (.slice Ab M.bits.length kb) (.slice Ad M.data.length kd) (.slice Ar M.recs.length kr) M.mei M.kind M.level M.more M.next (.slice Ao M.objects.length ko)) fun aE aF aG t c=>Pl 1<|ng<|Pl 1<|L0<|aN t 2<|Pl 1<|L0<|aN t 3<|L0<|cL (m:=2) (e:=24) #[.int .u16 M.addr,.int .u16 M.count] fun aI aL S T d=>?_
 have U:=dK S (xs:=[M.addr,M.count]) (by as_aux_lemma=>kernel_rfl) (au (by omega) (au (by omega) aK)) (by(try simp only[List.length_cons,List.length_nil]);omega) T
 refine L0<|Oc<|du (gl (xs:=[M.addr,M.count]) (U).rd (by(try simp only[List.length_append,List.length_cons,List.length_nil]);omega)) fun i q aM j aQ aR r=>Pl 1<|nt<|sq<|sg<|Pl 1<|?_
 have A:=aD d r
 have g:=ub A t
 refine L0<|aN g 0<|nt<|bk<|sq<|sg<|Pl 2<|nt<|?_
 have a:=aD c A
 refine cb ((M.code==1)) (fun b=>?_) (fun b=>?_)
 have V:=ah b
 refine bi<|ct b<|sg<|Pl 2<|nt<|cb ((dir==1)) (fun n=>?_) (fun n=>?_)
 have W:=ah n
 refine sg<|Pl 1<|L0<|aN g 14<|Pl 2<|L0<|cL (m:=1) (e:=5) #[.int .u8 (((M.data.length:Nat) : Int)%256)] fun aT aU X Y u=>?_
 have B:=cG X (xs:=[(((M.data.length:Nat) : Int)%256)]) (by as_aux_lemma=>kernel_rfl) (au (by omega) aK) (by(try simp only[List.length_cons,List.length_nil]);omega) Y
 refine Pl 1<|?_
 refine L0<|aN (ub u g) 14<|?_
 have C:=aD a u
 refine L0<|bS aZ (xs:=([(((M.data.length:Nat) : Int)%256)])) (ys:=M.data) (.int .u8 0) 1 B (b9.old hd C) (by(try simp only[List.length_append,List.length_cons,List.length_nil,az]);omega) u.size fun Z a0 aV a1 a2=>Pl 1<|nt<|rt<|br<|tr<|rr (.slice Z (([(((M.data.length:Nat) : Int)%256)]++M.data).length) a0)<|?_
 have hs:cS dir M=([(((M.data.length:Nat) : Int)%256)]++M.data):=by
   unfold cS
   (try simp only[b,n,bs,if_true,if_false,decide_true,decide_false,Bool.or_true,Bool.true_or,Bool.or_false,Bool.false_or,Bool.and_true,Bool.true_and,Bool.and_false,Bool.false_and,reduceIte])
   all_goals rfl
 rw[hs]
 exact⟨_,rfl,(aS.weaken a1 a.size),(ut C a2 (av (aP B a.size) ax))⟩
 have W:=ak n
 refine sk<|bn<|tn<|sg<|Pl 2<|nt<|rt<|rr (.slice i ((aJ ([M.addr,M.count])).length) q)<|?_
 have hs:cS dir M=(aJ ([M.addr,M.count])):=by
   unfold cS
   (try simp only[b,n,bs,if_true,if_false,decide_true,decide_false,Bool.or_true,Bool.true_or,Bool.or_false,Bool.false_or,Bool.and_true,Bool.true_and,Bool.and_false,Bool.false_and,reduceIte])
   all_goals rfl
 rw[hs]
 exact⟨_,rfl,(aS.weaken j (le c.size d.size)),a⟩
 have V:=ak b
 refine go<|Pl 2<|nt<|cb ((M.code==2)) (fun f=>?_) (fun f=>?_)
 have a3:=ah f
 refine sg<|Pl 2<|nt<|cb ((dir==1)) (fun o=>?_) (fun o=>?_)
 have a4:=ah o
 refine sg<|Pl 1<|L0<|aN g 14<|Pl 2<|L0<|cL (m:=1) (e:=5) #[.int .u8 (((M.data.length:Nat) : Int)%256)] fun aW aX a5 a6 v=>?_
 have D:=cG a5 (xs:=[(((M.data.length:Nat) : Int)%256)]) (by as_aux_lemma=>kernel_rfl) (au (by omega) aK) (by(try simp only[List.length_cons,List.length_nil]);omega) a6
 refine Pl 1<|?_
 refine L0<|aN (ub v g) 14<|?_
 have E:=aD a v
 refine L0<|bS aZ (xs:=([(((M.data.length:Nat) : Int)%256)])) (ys:=M.data) (.int .u8 0) 1 D (b9.old hd E) (by(try simp only[List.length_append,List.length_cons,List.length_nil,az]);omega) v.size fun a7 a8 aY a9 aa=>Pl 1<|nt<|rt<|br<|tr<|rr (.slice a7 (([(((M.data.length:Nat) : Int)%256)]++M.data).length) a8)<|?_
 have hs:cS dir M=([(((M.data.length:Nat) : Int)%256)]++M.data):=by
   unfold cS
   (try simp only[b,f,o,bs,if_true,if_false,decide_true,decide_false,Bool.or_true,Bool.true_or,Bool.or_false,Bool.false_or,Bool.and_true,Bool.true_and,Bool.and_false,Bool.false_and,reduceIte])
   all_goals rfl
 rw[hs]
 exact⟨_,rfl,(aS.weaken a9 a.size),(ut E aa (av (aP D a.size) ax))⟩
 have a4:=ak o
 refine sk<|bn<|tn<|sg<|Pl 2<|nt<|rt<|rr (.slice i ((aJ ([M.addr,M.count])).length) q)<|?_
 have hs:cS dir M=(aJ ([M.addr,M.count])):=by
   unfold cS
   (try simp only[b,f,o,bs,if_true,if_false,decide_true,decide_false,Bool.or_true,Bool.true_or,Bool.or_false,Bool.false_or,Bool.and_true,Bool.true_and,Bool.and_false,Bool.false_and,reduceIte])
   all_goals rfl
 rw[hs]
 exact⟨_,rfl,(aS.weaken j (le c.size d.size)),a⟩
 have a3:=ak f
 refine sg<|Pl 2<|nt<|cb ((M.code==5)) (fun k=>?_) (fun k=>?_)
 have ab:=ah k
 refine sg<|Pl 1<|L0<|aN g 2<|Pl 1<|L0<|aN g 4<|L0<|cL (m:=2) (e:=24) #[.int .u16 M.addr,.int .u16 M.value] fun b0 b1 ac ad F=>?_
 have ae:=dK ac (xs:=[M.addr,M.value]) (by as_aux_lemma=>kernel_rfl) (au (by omega) (au (by omega) aK)) (by(try simp only[List.length_cons,List.length_nil]);omega) ad
 refine L0<|Oc<|du (gl (xs:=[M.addr,M.value]) (ae).rd (by(try simp only[List.length_append,List.length_cons,List.length_nil]);omega)) fun af ag b2 ai b3 b4 aj=>Pl 1<|nt<|rt<|br<|tr<|rr (.slice af ((aJ ([M.addr,M.value])).length) ag)<|?_
 have hs:cS dir M=(aJ ([M.addr,M.value])):=by
   unfold cS
   (try simp only[b,f,k,bs,if_true,if_false,decide_true,decide_false,Bool.or_true,Bool.true_or,Bool.or_false,Bool.false_or,Bool.and_true,Bool.true_and,Bool.and_false,Bool.false_and,reduceIte])
   all_goals rfl
 rw[hs]
 exact⟨_,rfl,(aS.weaken ai (le (le (le c.size d.size) r.size) F.size)),(aD a (aD F aj))⟩
 have ab:=ak k
 refine sg<|Pl 2<|nt<|cb ((M.code==15)) (fun l=>?_) (fun l=>?_)
 have al:=ah l
 refine sg<|Pl 2<|nt<|cb ((dir==0)) (fun p=>?_) (fun p=>?_)
 have am:=ah p
 refine sg<|Pl 1<|L0<|aN g 13<|?_
 refine L0<|Oc<|du (wK (i4.old hbt a) (by omega)) fun b5 b6 b7 G b8 ba y=>?_
 have bb:(bK M.bits).length≤1024:=by simp only[bK,List.length_map,List.length_range,dE];omega
 refine Pl 1<|ng<|Pl 4<|L0<|cL (m:=1) (e:=5) #[.int .u8 ((((bK M.bits).length:Nat) : Int)%256)] fun bc bd an ao s=>?_
 have ap:=cG an (xs:=[((((bK M.bits).length:Nat) : Int)%256)]) (by as_aux_lemma=>kernel_rfl) (au (by omega) aK) (by(try simp only[List.length_cons,List.length_nil]);omega) ao
 have H:=aD y s
 refine L0<|bS aZ (xs:=(aJ ([M.addr,M.count]))) (ys:=([((((bK M.bits).length:Nat) : Int)%256)])) (.int .u8 0) 1 (aq j H (fun x hx=>aA) (fun _ _ h=>h)) (ap).rd (by(try simp only[List.length_append,List.length_cons,List.length_nil,az]);omega) (le (le r.size y.size) s.size) fun I be bf J z=>Pl 1<|?_
 refine L0<|bS aZ (xs:=((aJ ([M.addr,M.count]))++[((((bK M.bits).length:Nat) : Int)%256)])) (ys:=(bK M.bits)) (.int .u8 0) 1 J ((aq G (ut (aC.mono (S':=(ob i++[])) s ax) z (av il ax)) (fun x hx=>(bj ((iU G j lr) x hx) aA)) (fun _ _ h=>h))).rd (by(try simp only[List.length_append,List.length_cons,List.length_nil,az]);omega) (le (le (le r.size y.size) s.size) z.size) fun ar aw bg ay aB=>Pl 1<|nt<|rt<|br<|tr<|rr (.slice ar ((((aJ ([M.addr,M.count]))++[((((bK M.bits).length:Nat) : Int)%256)])++(bK M.bits)).length) aw)<|?_
 have hs:cS dir M=(((aJ ([M.addr,M.count]))++[((((bK M.bits).length:Nat) : Int)%256)])++(bK M.bits)):=by
   unfold cS
   (try simp only[b,f,k,l,p,bs,if_true,if_false,decide_true,decide_false,Bool.or_true,Bool.true_or,Bool.or_false,Bool.false_or,Bool.and_true,Bool.true_and,Bool.and_false,Bool.false_and,reduceIte])
   all_goals rfl
 rw[hs]
 exact⟨_,rfl,(aS.weaken ay (le c.size d.size)),(ut a (ut (aC.mono (S':=(ob i++(ob I++[]))) H ax) (ut (aC.mono (S':=(ob i++(ob I++[]))) z (av il ax)) aB (av il ax)) (av il (av il ax))) (av (aP j (le c.size d.size)) (av (aP J (le c.size d.size)) ax)))⟩
 have am:=ak p
 refine sk<|bn<|tn<|sg<|Pl 2<|nt<|rt<|rr (.slice i ((aJ ([M.addr,M.count])).length) q)<|?_
 have hs:cS dir M=(aJ ([M.addr,M.count])):=by
   unfold cS
   (try simp only[b,f,k,l,p,bs,if_true,if_false,decide_true,decide_false,Bool.or_true,Bool.true_or,Bool.or_false,Bool.false_or,Bool.and_true,Bool.true_and,Bool.and_false,Bool.false_and,reduceIte])
   all_goals rfl
 rw[hs]
 exact⟨_,rfl,(aS.weaken j (le c.size d.size)),a⟩
 have al:=ak l
 refine sk<|bn<|tn<|sg<|Pl 2<|nt<|rt<|rr (.slice i ((aJ ([M.addr,M.count])).length) q)<|?_
 have hs:cS dir M=(aJ ([M.addr,M.count])):=by
   unfold cS
   (try simp only[b,f,k,l,bs,if_true,if_false,decide_true,decide_false,Bool.or_true,Bool.true_or,Bool.or_false,Bool.false_or,Bool.and_true,Bool.true_and,Bool.and_false,Bool.false_and,reduceIte])
   all_goals rfl
 rw[hs]
 exact⟨_,rfl,(aS.weaken j (le c.size d.size)),a⟩
theorem sD{m:Md}{cs:Array Value}{M:aO}{w:World}{dir:Int}(h:aH m w cs.toList M)(hf:bR M) : Calls Tryz.prog 168 #[.int .i64 dir,.agg cs] w (fO (dG dir M) w):=by
 obtain⟨vw,vb,vd,vr,vo,h0,hw,hbt,hd,hr,ho,hR⟩:=h
 obtain rfl:cs=(bt M vw vb vd vr vo).toArray:=by apply Array.toList_inj.1;simpa using h0
 clear h0
 obtain⟨Aw,kw,rfl,_,_⟩:=hw.shape
 obtain⟨Ab,kb,rfl,_,_⟩:=hbt.shape
 obtain⟨Ad,kd,rfl,_,_⟩:=hd.shape
 obtain⟨Ar,kr,rfl,_,_⟩:=hr.shape
 obtain⟨Ao,ko,rfl,_,_⟩:=ho.shape
 obtain⟨q0,q1,q2,q3,q4,q5,q6,q7,q8,q9,a9,aa,ab,ac,ad,af,ag⟩:=hR
 simp only[B8,dr] at q0 q1 q2 q3 q4 q5 q6 q7 q8 q9 a9 aa ab ac ad af ag
 have hf1:=hf.words
 have hf2:=hf.bits
 have hf3:=hf.data
 have hf4:=hf.recs
 have hf5:=hf.objects
 refine en 63 Tryz.func168 rfl<|sg<|L0<|dq (mG M.code M.fail M.addr M.count M.value M.and_ M.or_ M.addr2 M.sub M.status M.events M.messages (.slice Aw M.words.length kw) (.slice Ab M.bits.length kb) (.slice Ad M.data.length kd) (.slice Ar M.recs.length kr) M.mei M.kind M.level M.more M.next (.slice Ao M.objects.length ko)) fun C bM bN b a=>Pl 1<|nt<|sq<|sg<|Pl 1<|L0<|aN b 0<|Pl 1<|nl<|?_
 refine tn<|cb ((M.code==8)) (fun d=>?_) (fun d=>?_)
 have ai:=ah d
 refine sg<|Pl 1<|L0<|aN b 8<|L0<|cL (m:=1) (e:=24) #[.int .u16 M.sub] fun bO bP aj al D=>?_
 have P:=dK aj (xs:=[M.sub]) (by as_aux_lemma=>kernel_rfl) (au (by omega) aK) (by(try simp only[List.length_cons,List.length_nil]);omega) al
 refine Pl 1<|?_
 refine L0<|aN (ub D b) 12<|?_
 have Q:=aD a D
 refine L0<|bS mX (xs:=([M.sub])) (ys:=M.words) (.int .u16 0) 2 P (dP.old hw Q) (by(try simp only[List.length_append,List.length_cons,List.length_nil,az]);omega) D.size fun bQ bT bU an R=>L0<|Oc<|du (gl (xs:=([M.sub]++M.words)) (an).rd (by(try simp only[List.length_append,List.length_cons,List.length_nil]);omega)) fun ao ap bV ar bW bX aw=>Pl 1<|nt<|rt<|tr<|rr (.slice ao ((aJ ([M.sub]++M.words)).length) ap)<|?_
 have hs:dG dir M=(aJ ([M.sub]++M.words)):=by
   unfold dG
   (try simp only[d,bs,if_true,if_false,decide_true,decide_false,Bool.or_true,Bool.true_or,Bool.or_false,Bool.false_or,Bool.and_true,Bool.true_and,Bool.and_false,Bool.false_and,reduceIte])
   all_goals rfl
 rw[hs]
 exact⟨_,rfl,(aS.weaken ar (le (le a.size D.size) R.size)),(ut Q (aD R aw) (av (aP P a.size) ax))⟩
 have ai:=ak d
 refine bi<|sq<|sg<|Pl 2<|nt<|cb ((dir==0)) (fun g=>?_) (fun g=>?_)
 have ay:=ah g
 refine sg<|Pl 1<|nt<|rt<|tr<|rr (.slice none 0 0)<|?_
 have hs:dG dir M=[]:=by
   unfold dG
   (try simp only[d,g,bs,if_true,if_false,decide_true,decide_false,Bool.or_true,Bool.true_or,Bool.or_false,Bool.false_or,Bool.and_true,Bool.true_and,Bool.and_false,Bool.false_and,reduceIte])
   all_goals rfl
 rw[hs]
 exact⟨_,rfl,(aS.nil ..),a⟩
 have ay:=ak g
 refine bi<|sq<|sg<|Pl 1<|L0<|aN b 0<|nt<|bk<|sg<|Pl 2<|nl<|?_
 refine tn<|cb ((M.code==7)) (fun i=>?_) (fun i=>?_)
 have aE:=ah i
 refine sg<|Pl 1<|L0<|aN b 4<|Pl 1<|L0<|cL (m:=1) (e:=5) #[.int .u8 (M.value%256)] fun aF bY aG aI aL=>?_
 have aM:=cG aG (xs:=[(M.value%256)]) (by as_aux_lemma=>kernel_rfl) (au (by omega) aK) (by(try simp only[List.length_cons,List.length_nil]);omega) aI
 refine Pl 1<|nt<|rt<|br<|tr<|rr (.slice (some ⟨aF,0,none⟩) 1 1)<|?_
 have hs:dG dir M=[(M.value%256)]:=by
   unfold dG
   (try simp only[d,g,i,bs,if_true,if_false,decide_true,decide_false,Bool.or_true,Bool.true_or,Bool.or_false,Bool.false_or,Bool.and_true,Bool.true_and,Bool.and_false,Bool.false_and,reduceIte])
   all_goals rfl
 rw[hs]
 exact⟨_,rfl,(aS.weaken aM a.size),(aD a aL)⟩
 have aE:=ak i
 refine sg<|Pl 2<|nt<|cb ((M.code==11)) (fun k=>?_) (fun k=>?_)
 have aQ:=ah k
 refine sg<|Pl 1<|L0<|aN b 9<|Pl 1<|L0<|aN b 10<|L0<|cL (m:=2) (e:=24) #[.int .u16 M.status,.int .u16 M.events] fun bZ c0 aR aT S=>?_
 have aU:=dK aR (xs:=[M.status,M.events]) (by as_aux_lemma=>kernel_rfl) (au (by omega) (au (by omega) aK)) (by(try simp only[List.length_cons,List.length_nil]);omega) aT
 refine L0<|Oc<|du (gl (xs:=[M.status,M.events]) (aU).rd (by(try simp only[List.length_append,List.length_cons,List.length_nil]);omega)) fun aV aW c1 aX c2 c3 aY=>Pl 1<|nt<|rt<|br<|tr<|rr (.slice aV ((aJ ([M.status,M.events])).length) aW)<|?_
 have hs:dG dir M=(aJ ([M.status,M.events])):=by
   unfold dG
   (try simp only[d,g,i,k,bs,if_true,if_false,decide_true,decide_false,Bool.or_true,Bool.true_or,Bool.or_false,Bool.false_or,Bool.and_true,Bool.true_and,Bool.and_false,Bool.false_and,reduceIte])
   all_goals rfl
 rw[hs]
 exact⟨_,rfl,(aS.weaken aX (le a.size S.size)),(aD a (aD S aY))⟩
 have aQ:=ak k
 refine sg<|Pl 2<|nt<|cb ((M.code==12)) (fun l=>?_) (fun l=>?_)
 have b0:=ah l
 refine sq<|Rg 16 (fun w'=>w'.cell? ⟨C,14,none⟩=some (.slice Ad M.data.length kd)∧w'.cell? ⟨C,9,none⟩=some (.int .u16 M.status)∧w'.cell? ⟨C,10,none⟩=some (.int .u16 M.events)∧w'.cell? ⟨C,11,none⟩=some (.int .u16 M.messages)) fun c4 c=>?_
 have n:=ub c b
 refine bg ⟨(ae n rfl),(ae n rfl),(ae n rfl),(ae n rfl)⟩ fun f=>Rt 0 f<|Rl 1 f (fun _ hs=>hs.1)<|Rt 2 f<|Rr 3 f (.int .i64 (((M.data.length:Nat) : Int)+6)) (fun _ _=>cy (.int .i64 (IntKind.i64.wrap (((M.data.length:Nat) : Int)+6))) (by kernel_rfl) (congrArg (Value.int .i64) (IntWalk.i64_in _ (by omega))))<|Rt 4 f<|Rt 6 f<|Rl 7 f (fun _ hs=>hs.2.1)<|Rt 8 f<|Rl 9 f (fun _ hs=>hs.2.2.1)<|Rt 10 f<|Rl 11 f (fun _ hs=>hs.2.2.2)<|?_
 refine R2 5 12 rfl rfl ?_ ?_
 refine  cL (m:=1) (e:=5) #[.int .u8 ((((M.data.length:Nat) : Int)+6)%256)] fun b1 c5 b2 b3 H=>?_
 have I:=cG b2 (xs:=[((((M.data.length:Nat) : Int)+6)%256)]) (by as_aux_lemma=>kernel_rfl) (au (by omega) aK) (by(try simp only[List.length_cons,List.length_nil]);omega) b3
 have p:=ub H n
 refine bg ⟨(ae p rfl),(ae p rfl),(ae p rfl),(ae p rfl)⟩ fun c6=>R0 12 rfl<|cL (m:=3) (e:=24) #[.int .u16 M.status,.int .u16 M.events,.int .u16 M.messages] fun c7 c8 b4 b5 J=>?_
 have b6:=dK b4 (xs:=[M.status,M.events,M.messages]) (by as_aux_lemma=>kernel_rfl) (au (by omega) (au (by omega) (au (by omega) aK))) (by(try simp only[List.length_cons,List.length_nil]);omega) b5
 have q:=ub J p
 refine bg ⟨(ae q rfl),(ae q rfl),(ae q rfl),(ae q rfl)⟩ fun c9=>R0 13 rfl<|Oc<|du (gl (xs:=[M.status,M.events,M.messages]) (b6).rd (by(try simp only[List.length_append,List.length_cons,List.length_nil]);omega)) fun ca cc cd b7 ce cf K=>?_
 have r:=ub K q
 refine bg ⟨(ae r rfl),(ae r rfl),(ae r rfl),(ae r rfl)⟩ fun cg=>?_
 have T:=aD J K
 refine R0 14 rfl<|bS aZ (xs:=([((((M.data.length:Nat) : Int)+6)%256)])) (ys:=(aJ ([M.status,M.events,M.messages]))) (.int .u8 0) 1 (aq I T (fun x hx=>aA) (fun _ _ h=>h)) (b7).rd (by(try simp only[List.length_append,List.length_cons,List.length_nil,az]);omega) (le (le H.size J.size) K.size) fun ch ci cj U V=>?_
 have s:=aC.blk V (bj (aB (am b) c.size I) aA) r
 refine bg ⟨(ae s rfl),(ae s rfl),(ae s rfl),(ae s rfl)⟩ fun b8=>Rt 15 b8<|re<|tn<|sg<|Pl 2<|L0<|aN s 14<|?_
 have W:=ut H (ut (aC.mono (S':=(ob (some ⟨b1,0,none⟩)++[])) T ax) V (av il ax)) (av (aP I lr) ax)
 have X:=aD a (aD c W)
 refine L0<|bS aZ (xs:=([((((M.data.length:Nat) : Int)+6)%256)]++(aJ ([M.status,M.events,M.messages])))) (ys:=M.data) (.int .u8 0) 1 U (b9.old hd X) (by(try simp only[List.length_append,List.length_cons,List.length_nil,az]);omega) W.size fun ba bb ck bc bd=>Pl 1<|nt<|rt<|br<|tr<|rr (.slice ba ((([((((M.data.length:Nat) : Int)+6)%256)]++(aJ ([M.status,M.events,M.messages])))++M.data).length) bb)<|?_
 have hs:dG dir M=(([((((M.data.length:Nat) : Int)+6)%256)]++(aJ ([M.status,M.events,M.messages])))++M.data):=by
   unfold dG
   (try simp only[d,g,i,k,l,bs,if_true,if_false,decide_true,decide_false,Bool.or_true,Bool.true_or,Bool.or_false,Bool.false_or,Bool.and_true,Bool.true_and,Bool.and_false,Bool.false_and,reduceIte])
   all_goals rfl
 rw[hs]
 exact⟨_,rfl,(aS.weaken bc (le a.size c.size)),(ut X bd (av (aP U (le a.size c.size)) ax))⟩
 refine  cL (m:=3) (e:=24) #[.int .u16 M.status,.int .u16 M.events,.int .u16 M.messages] fun cl cm be bf j=>?_
 have Y:=dK be (xs:=[M.status,M.events,M.messages]) (by as_aux_lemma=>kernel_rfl) (au (by omega) (au (by omega) (au (by omega) aK))) (by(try simp only[List.length_cons,List.length_nil]);omega) bf
 have o:=ub j n
 refine bg ⟨(ae o rfl),(ae o rfl),(ae o rfl),(ae o rfl)⟩ fun cn=>?_
 refine R2 5 13 rfl rfl ?_ ?_
 refine  cL (m:=1) (e:=5) #[.int .u8 ((((M.data.length:Nat) : Int)+6)%256)] fun bh co bl bm E=>?_
 have L:=cG bl (xs:=[((((M.data.length:Nat) : Int)+6)%256)]) (by as_aux_lemma=>kernel_rfl) (au (by omega) aK) (by(try simp only[List.length_cons,List.length_nil]);omega) bm
 have t:=ub E o
 refine bg ⟨(ae t rfl),(ae t rfl),(ae t rfl),(ae t rfl)⟩ fun cp=>?_
 refine R0 13 rfl<|Oc<|du (gl (xs:=[M.status,M.events,M.messages]) ((aq Y E (fun x hx=>aA) (fun _ _ h=>h))).rd (by(try simp only[List.length_append,List.length_cons,List.length_nil]);omega)) fun cq cr ct bo cu cv F=>?_
 have u:=ub F t
 refine bg ⟨(ae u rfl),(ae u rfl),(ae u rfl),(ae u rfl)⟩ fun cw=>?_
 refine R0 14 rfl<|bS aZ (xs:=([((((M.data.length:Nat) : Int)+6)%256)])) (ys:=(aJ ([M.status,M.events,M.messages]))) (.int .u8 0) 1 (aq L F (fun x hx=>aA) (fun _ _ h=>h)) (bo).rd (by(try simp only[List.length_append,List.length_cons,List.length_nil,az]);omega) (le E.size F.size) fun cx cz cA Z a0=>?_
 have v:=aC.blk a0 (bj (aB (am b) (le c.size j.size) L) aA) u
 refine bg ⟨(ae v rfl),(ae v rfl),(ae v rfl),(ae v rfl)⟩ fun bp=>Rt 15 bp<|re<|tn<|sg<|Pl 2<|L0<|aN v 14<|?_
 have a1:=ut E (ut (aC.mono (S':=(ob (some ⟨bh,0,none⟩)++[])) F ax) a0 (av il ax)) (av (aP L lr) ax)
 have a2:=aD a (aD c (aD j a1))
 refine L0<|bS aZ (xs:=([((((M.data.length:Nat) : Int)+6)%256)]++(aJ ([M.status,M.events,M.messages])))) (ys:=M.data) (.int .u8 0) 1 Z (b9.old hd a2) (by(try simp only[List.length_append,List.length_cons,List.length_nil,az]);omega) a1.size fun bq bu cB bv bw=>Pl 1<|nt<|rt<|br<|tr<|rr (.slice bq ((([((((M.data.length:Nat) : Int)+6)%256)]++(aJ ([M.status,M.events,M.messages])))++M.data).length) bu)<|?_
 have hs:dG dir M=(([((((M.data.length:Nat) : Int)+6)%256)]++(aJ ([M.status,M.events,M.messages])))++M.data):=by
   unfold dG
   (try simp only[d,g,i,k,l,bs,if_true,if_false,decide_true,decide_false,Bool.or_true,Bool.true_or,Bool.or_false,Bool.false_or,Bool.and_true,Bool.true_and,Bool.and_false,Bool.false_and,reduceIte])
   all_goals rfl
 rw[hs]
 exact⟨_,rfl,(aS.weaken bv (le (le a.size c.size) j.size)),(ut a2 bw (av (aP Z (le (le a.size c.size) j.size)) ax))⟩
 refine  Oc<|du (gl (xs:=[M.status,M.events,M.messages]) (Y).rd (by(try simp only[List.length_append,List.length_cons,List.length_nil]);omega)) fun cC cD cE bx cF cH y=>?_
 have z:=ub y o
 refine bg ⟨(ae z rfl),(ae z rfl),(ae z rfl),(ae z rfl)⟩ fun cI=>R0 5 rfl<|cL (m:=1) (e:=5) #[.int .u8 ((((M.data.length:Nat) : Int)+6)%256)] fun cJ cK bz bA G=>?_
 have N:=cG bz (xs:=[((((M.data.length:Nat) : Int)+6)%256)]) (by as_aux_lemma=>kernel_rfl) (au (by omega) aK) (by(try simp only[List.length_cons,List.length_nil]);omega) bA
 have A:=ub G z
 refine bg ⟨(ae A rfl),(ae A rfl),(ae A rfl),(ae A rfl)⟩ fun cM=>?_
 refine R0 14 rfl<|bS aZ (xs:=([((((M.data.length:Nat) : Int)+6)%256)])) (ys:=(aJ ([M.status,M.events,M.messages]))) (.int .u8 0) 1 N ((aq bx G (fun x hx=>aA) (fun _ _ h=>h))).rd (by(try simp only[List.length_append,List.length_cons,List.length_nil,az]);omega) G.size fun cN cO cP a3 a4=>?_
 have B:=aC.blk a4 (bj (aB (am b) (le (le c.size j.size) y.size) N) aA) A
 refine bg ⟨(ae B rfl),(ae B rfl),(ae B rfl),(ae B rfl)⟩ fun bB=>Rt 15 bB<|re<|tn<|sg<|Pl 2<|L0<|aN B 14<|?_
 have a5:=ut G a4 (av (aP N lr) ax)
 have a6:=aD a (aD c (aD j (aD y a5)))
 refine L0<|bS aZ (xs:=([((((M.data.length:Nat) : Int)+6)%256)]++(aJ ([M.status,M.events,M.messages])))) (ys:=M.data) (.int .u8 0) 1 a3 (b9.old hd a6) (by(try simp only[List.length_append,List.length_cons,List.length_nil,az]);omega) a5.size fun bC bD cQ bE bF=>Pl 1<|nt<|rt<|br<|tr<|rr (.slice bC ((([((((M.data.length:Nat) : Int)+6)%256)]++(aJ ([M.status,M.events,M.messages])))++M.data).length) bD)<|?_
 have hs:dG dir M=(([((((M.data.length:Nat) : Int)+6)%256)]++(aJ ([M.status,M.events,M.messages])))++M.data):=by
   unfold dG
   (try simp only[d,g,i,k,l,bs,if_true,if_false,decide_true,decide_false,Bool.or_true,Bool.true_or,Bool.or_false,Bool.false_or,Bool.and_true,Bool.true_and,Bool.and_false,Bool.false_and,reduceIte])
   all_goals rfl
 rw[hs]
 exact⟨_,rfl,(aS.weaken bE (le (le (le a.size c.size) j.size) y.size)),(ut a6 bF (av (aP a3 (le (le (le a.size c.size) j.size) y.size)) ax))⟩
 have b0:=ak l
 refine sk<|bn<|tn<|sg<|Pl 1<|L0<|aN b 14<|Pl 2<|L0<|cL (m:=1) (e:=5) #[.int .u8 (((M.data.length:Nat) : Int)%256)] fun cR cS bG bH O=>?_
 have a7:=cG bG (xs:=[(((M.data.length:Nat) : Int)%256)]) (by as_aux_lemma=>kernel_rfl) (au (by omega) aK) (by(try simp only[List.length_cons,List.length_nil]);omega) bH
 refine Pl 1<|?_
 refine L0<|aN (ub O b) 14<|?_
 have a8:=aD a O
 refine L0<|bS aZ (xs:=([(((M.data.length:Nat) : Int)%256)])) (ys:=M.data) (.int .u8 0) 1 a7 (b9.old hd a8) (by(try simp only[List.length_append,List.length_cons,List.length_nil,az]);omega) O.size fun bI bJ cT bK bL=>Pl 1<|nt<|rt<|rr (.slice bI (([(((M.data.length:Nat) : Int)%256)]++M.data).length) bJ)<|?_
 have hs:dG dir M=([(((M.data.length:Nat) : Int)%256)]++M.data):=by
   unfold dG
   (try simp only[d,g,i,k,l,bs,if_true,if_false,decide_true,decide_false,Bool.or_true,Bool.true_or,Bool.or_false,Bool.false_or,Bool.and_true,Bool.true_and,Bool.and_false,Bool.false_and,reduceIte])
   all_goals rfl
 rw[hs]
 exact⟨_,rfl,(aS.weaken bK a.size),(ut a8 bL (av (aP a7 a.size) ax))⟩
theorem sx{m:Md}{cs:Array Value}{M:aO}{w:World}{dir:Int}(h:aH m w cs.toList M)(hf:bR M) : Calls Tryz.prog 167 #[.int .i64 dir,.agg cs] w (fO (dz dir M) w):=by
 obtain⟨vw,vb,vd,vr,vo,h0,hw,hbt,hd,hr,ho,hR⟩:=h
 obtain rfl:cs=(bt M vw vb vd vr vo).toArray:=by apply Array.toList_inj.1;simpa using h0
 clear h0
 obtain⟨Aw,kw,rfl,_,_⟩:=hw.shape
 obtain⟨Ab,kb,rfl,_,_⟩:=hbt.shape
 obtain⟨Ad,kd,rfl,_,_⟩:=hd.shape
 obtain⟨Ar,kr,rfl,_,_⟩:=hr.shape
 obtain⟨Ao,ko,rfl,_,_⟩:=ho.shape
 obtain⟨q0,q1,q2,q3,q4,q5,q6,q7,q8,q9,ao,ap,ar,aw,ay,aB,aE⟩:=hR
 simp only[B8,dr] at q0 q1 q2 q3 q4 q5 q6 q7 q8 q9 ao ap ar aw ay aB aE
 have hf1:=hf.words
 have hf2:=hf.bits
 have hf3:=hf.data
 have hf4:=hf.recs
 have hf5:=hf.objects
 refine en 137 Tryz.func167 rfl<|sg<|L0<|dq (mG M.code M.fail M.addr M.count M.value M.and_ M.or_ M.addr2 M.sub M.status M.events M.messages (.slice Aw M.words.length kw) (.slice Ab M.bits.length kb) (.slice Ad M.data.length kd) (.slice Ar M.recs.length kr) M.mei M.kind M.level M.more M.next (.slice Ao M.objects.length ko)) fun cA cB cC P l=>Pl 1<|ng<|Pl 1<|L0<|aN P 12<|?_
 refine L0<|Oc<|du (gl (xs:=M.words) (dP.old hw l) (by(try simp only[List.length_append,List.length_cons,List.length_nil]);omega)) fun cD cE cF u cH cI n=>Pl 1<|ng<|Pl 1<|?_
 have a:=ub n P
 refine L0<|aN a 12<|Pl 2<|ng<|Pl 1<|ng<|Pl 1<|nt<|?_
 refine sq<|bk<|sg<|Pl 3<|cu 14 [19] 33 (((dir==1)&&(((M.code==3)||(M.code==4))||(M.code==23)))) (fun K Q=>?_) ?_
 refine bl 19 ((dir==1)) (fun v=>?_) (fun v=>?_)
 have aG:=ah v
 refine Pl 1<|L1<|aN a 0<|Pl 2<|cu 4 [23] 27 (((M.code==3)||(M.code==4))) (fun K R=>?_) ?_
 refine bl 23 ((M.code==3)) (fun y=>?_) (fun y=>?_)
 have aI:=ah y
 exact Pl 4<|ce R true (by rw[y];rfl)
 have aI:=ak y
 exact Pl 1<|L1<|aN a 0<|Pl 2<|ce R (M.code==4) (by rw[y];rfl)
 refine Pl 1<|cu 4 [28] 32 ((((M.code==3)||(M.code==4))||(M.code==23))) (fun K S=>?_) ?_
 refine bl 28 (((M.code==3)||(M.code==4))) (fun z=>?_) (fun z=>?_)
 exact Pl 4<|ce S true (by rw[z];rfl)
 have aM:=(aF z).1
 have aQ:=(aF z).2
 have cJ:=ak aM
 have cK:=ak aQ
 exact Pl 1<|L1<|aN a 0<|Pl 2<|ce S (M.code==23) (by rw[z];rfl)
 exact Pl 1<|ce Q (((M.code==3)||(M.code==4))||(M.code==23)) (by rw[v];rfl)
 have aG:=ak v
 exact Pl 14<|ce Q false (by rw[v];rfl)
 refine Pl 1<|nt<|?_
 have i:=aD l n
 refine cb (((dir==1)&&(((M.code==3)||(M.code==4))||(M.code==23)))) (fun g=>?_) (fun g=>?_)
 have T:=(aU g).1
 have aR:=(aU g).2
 have cM:=ah T
 refine sk<|bn<|tn<|sg<|Pl 1<|L0<|Oc<|du (gl (xs:=[]) (aL.nil true _ _ _ _) (by(try simp only[List.length_append,List.length_cons,List.length_nil]);omega)) fun aT cN cO U cP cQ V=>Pl 1<|nt<|sq<|sg<|Pl 1<|nl<|?_
 refine tn<|c1<|go<|Pl 2<|L0<|Oi (2*((M.words.length:Nat) : Int))<|Pl 1<|L0<|cL (m:=1) (e:=5) #[.int .u8 ((2*((M.words.length:Nat) : Int))%256)] fun cR cS aV aW E=>?_
 have aX:=cG aV (xs:=[((2*((M.words.length:Nat) : Int))%256)]) (by as_aux_lemma=>kernel_rfl) (au (by omega) aK) (by(try simp only[List.length_cons,List.length_nil]);omega) aW
 refine L0<|bS aZ (xs:=(aJ ([]))) (ys:=([((2*((M.words.length:Nat) : Int))%256)])) (.int .u8 0) 1 (aq U E (fun x hx=>aA) (fun _ _ h=>h)) (aX).rd (by(try simp only[List.length_append,List.length_cons,List.length_nil,az]);omega) (le V.size E.size) fun cT cU cV W aY=>Pl 1<|ng<|Pl 2<|?_
 have F:=ut V (ut (aC.mono (S':=(ob aT++[])) E ax) aY (av il ax)) (av (aP U lr) ax)
 refine L0<|bS aZ (xs:=((aJ ([]))++[((2*((M.words.length:Nat) : Int))%256)])) (ys:=(aJ M.words)) (.int .u8 0) 1 W ((aq u F (fun x hx=>aA) (fun _ _ h=>h))).rd (by(try simp only[List.length_append,List.length_cons,List.length_nil,az]);omega) F.size fun b0 b1 cW b2 b3=>Pl 1<|nt<|rt<|rr (.slice b0 ((((aJ ([]))++[((2*((M.words.length:Nat) : Int))%256)])++(aJ M.words)).length) b1)<|?_
 have hs:dz dir M=(((aJ ([]))++[((2*((M.words.length:Nat) : Int))%256)])++(aJ M.words)):=by
   unfold dz
   (try simp only[g,T,aR,bs,if_true,if_false,decide_true,decide_false,Bool.or_true,Bool.true_or,Bool.or_false,Bool.false_or,Bool.and_true,Bool.true_and,Bool.and_false,Bool.false_and,reduceIte])
   all_goals first | rfl | (simp_all;done)
 rw[hs]
 exact⟨_,rfl,(aS.weaken b2 i.size),(aD i (ut F b3 (av (aP W lr) ax)))⟩
 refine sg<|Pl 1<|L0<|aN a 0<|Pl 2<|cu 4 [38] 42 (((M.code==3)||(M.code==4))) (fun K X=>?_) ?_
 refine bl 38 ((M.code==3)) (fun A=>?_) (fun A=>?_)
 have b4:=ah A
 exact Pl 4<|ce X true (by rw[A];rfl)
 have b4:=ak A
 exact Pl 1<|L1<|aN a 0<|Pl 2<|ce X (M.code==4) (by rw[A];rfl)
 refine Pl 1<|cu 8 [43] 51 ((((M.code==3)||(M.code==4))||((M.code==16)&&(dir==1)))) (fun K Y=>?_) ?_
 refine bl 43 (((M.code==3)||(M.code==4))) (fun B=>?_) (fun B=>?_)
 exact Pl 8<|ce Y true (by rw[B];rfl)
 have b5:=(aF B).1
 have b6:=(aF B).2
 have cX:=ak b5
 have cY:=ak b6
 refine Pl 1<|L1<|aN a 0<|Pl 2<|cu 3 [47] 50 (((M.code==16)&&(dir==1))) (fun K Z=>?_) ?_
 refine bl 47 ((M.code==16)) (fun C=>?_) (fun C=>?_)
 have b7:=ah C
 exact Pl 3<|ce Z (dir==1) (by rw[C];rfl)
 have b7:=ak C
 exact Pl 3<|ce Z false (by rw[C];rfl)
 exact Pl 1<|ce Y ((M.code==16)&&(dir==1)) (by rw[B];rfl)
 refine Pl 1<|nt<|cb ((((M.code==3)||(M.code==4))||((M.code==16)&&(dir==1)))) (fun j=>?_) (fun j=>?_)
 refine sg<|Pl 1<|L0<|aN a 2<|Pl 1<|L0<|aN a 3<|L0<|cL (m:=2) (e:=24) #[.int .u16 M.addr,.int .u16 M.count] fun cZ d0 b8 b9 a0=>?_
 have ba:=dK b8 (xs:=[M.addr,M.count]) (by as_aux_lemma=>kernel_rfl) (au (by omega) (au (by omega) aK)) (by(try simp only[List.length_cons,List.length_nil]);omega) b9
 refine L0<|Oc<|du (gl (xs:=[M.addr,M.count]) (ba).rd (by(try simp only[List.length_append,List.length_cons,List.length_nil]);omega)) fun bb bc d1 bd d2 d3 be=>Pl 1<|nt<|rt<|br<|tr<|rr (.slice bb ((aJ ([M.addr,M.count])).length) bc)<|?_
 have hs:dz dir M=(aJ ([M.addr,M.count])):=by
   unfold dz
   (try simp only[g,j,bs,if_true,if_false,decide_true,decide_false,Bool.or_true,Bool.true_or,Bool.or_false,Bool.false_or,Bool.and_true,Bool.true_and,Bool.and_false,Bool.false_and,reduceIte])
   all_goals first | rfl | (simp_all;done)
 rw[hs]
 exact⟨_,rfl,(aS.weaken bd (le (le l.size n.size) a0.size)),(aD i (aD a0 be))⟩
 have o:=(aF j).1
 have s:=(aF j).2
 have p:=(aF o).1
 have q:=(aF o).2
 have q71aap:=ak p
 have q71abp:=ak q
 refine sg<|Pl 1<|L0<|aN a 0<|Pl 2<|nt<|cb ((M.code==6)) (fun b=>?_) (fun b=>?_)
 have bf:=ah b
 refine sg<|Pl 1<|L0<|aN a 2<|Pl 1<|L0<|aN a 4<|L0<|cL (m:=2) (e:=24) #[.int .u16 M.addr,.int .u16 M.value] fun d4 d5 bg bh a1=>?_
 have bj:=dK bg (xs:=[M.addr,M.value]) (by as_aux_lemma=>kernel_rfl) (au (by omega) (au (by omega) aK)) (by(try simp only[List.length_cons,List.length_nil]);omega) bh
 refine L0<|Oc<|du (gl (xs:=[M.addr,M.value]) (bj).rd (by(try simp only[List.length_append,List.length_cons,List.length_nil]);omega)) fun bm bo d6 bp d7 d8 bq=>Pl 1<|nt<|rt<|br<|tr<|rr (.slice bm ((aJ ([M.addr,M.value])).length) bo)<|?_
 have hs:dz dir M=(aJ ([M.addr,M.value])):=by
   unfold dz
   (try simp only[show(M.code==3)=false from(by rw[ah b];rfl),show(M.code==4)=false from(by rw[ah b];rfl),show(M.code==16)=false from(by rw[ah b];rfl),show(M.code==22)=false from(by rw[ah b];rfl),show(M.code==23)=false from(by rw[ah b];rfl),show(M.code==24)=false from(by rw[ah b];rfl),g,j,o,p,q,s,b,bs,if_true,if_false,decide_true,decide_false,Bool.or_true,Bool.true_or,Bool.or_false,Bool.false_or,Bool.and_true,Bool.true_and,Bool.and_false,Bool.false_and,reduceIte])
   all_goals first | rfl | (simp_all;done)
 rw[hs]
 exact⟨_,rfl,(aS.weaken bp (le (le l.size n.size) a1.size)),(aD i (aD a1 bq))⟩
 have bf:=ak b
 refine sg<|Pl 1<|L0<|aN a 0<|Pl 2<|nt<|cb ((M.code==16)) (fun c=>?_) (fun c=>?_)
 have bu:=ah c
 refine go<|Pl 1<|L0<|aN a 2<|Pl 1<|L0<|aN a 3<|L0<|cL (m:=2) (e:=24) #[.int .u16 M.addr,.int .u16 M.count] fun d9 da bv bw G=>?_
 have bx:=dK bv (xs:=[M.addr,M.count]) (by as_aux_lemma=>kernel_rfl) (au (by omega) (au (by omega) aK)) (by(try simp only[List.length_cons,List.length_nil]);omega) bw
 refine Pl 1<|nl<|bn<|tn<|sg<|Pl 1<|L0<|Oc<|du (gl (xs:=[M.addr,M.count]) (bx).rd (by(try simp only[List.length_append,List.length_cons,List.length_nil]);omega)) fun bz db dc a2 dd de a3=>Pl 1<|nt<|sq<|sg<|?_
 refine Pl 1<|nt<|c1<|go<|Pl 2<|L0<|Oi (2*((M.words.length:Nat) : Int))<|Pl 1<|L0<|cL (m:=1) (e:=5) #[.int .u8 ((2*((M.words.length:Nat) : Int))%256)] fun df dg bA bB H=>?_
 have bC:=cG bA (xs:=[((2*((M.words.length:Nat) : Int))%256)]) (by as_aux_lemma=>kernel_rfl) (au (by omega) aK) (by(try simp only[List.length_cons,List.length_nil]);omega) bB
 refine L0<|bS aZ (xs:=(aJ ([M.addr,M.count]))) (ys:=([((2*((M.words.length:Nat) : Int))%256)])) (.int .u8 0) 1 (aq a2 H (fun x hx=>aA) (fun _ _ h=>h)) (bC).rd (by(try simp only[List.length_append,List.length_cons,List.length_nil,az]);omega) (le a3.size H.size) fun dh di dj a4 bD=>Pl 1<|ng<|Pl 2<|?_
 have a5:=ut a3 (ut (aC.mono (S':=(ob bz++[])) H ax) bD (av il ax)) (av (aP a2 lr) ax)
 have a6:=aD G a5
 refine L0<|bS aZ (xs:=((aJ ([M.addr,M.count]))++[((2*((M.words.length:Nat) : Int))%256)])) (ys:=(aJ M.words)) (.int .u8 0) 1 a4 ((aq u a6 (fun x hx=>aA) (fun _ _ h=>h))).rd (by(try simp only[List.length_append,List.length_cons,List.length_nil,az]);omega) a5.size fun bE bF dk bG bH=>Pl 1<|nt<|rt<|rr (.slice bE ((((aJ ([M.addr,M.count]))++[((2*((M.words.length:Nat) : Int))%256)])++(aJ M.words)).length) bF)<|?_
 have hs:dz dir M=(((aJ ([M.addr,M.count]))++[((2*((M.words.length:Nat) : Int))%256)])++(aJ M.words)):=by
   unfold dz
   (try simp only[show(M.code==3)=false from(by rw[ah c];rfl),show(M.code==4)=false from(by rw[ah c];rfl),show(M.code==6)=false from(by rw[ah c];rfl),show(M.code==22)=false from(by rw[ah c];rfl),show(M.code==23)=false from(by rw[ah c];rfl),show(M.code==24)=false from(by rw[ah c];rfl),g,j,o,p,q,s,b,c,bs,if_true,if_false,decide_true,decide_false,Bool.or_true,Bool.true_or,Bool.or_false,Bool.false_or,Bool.and_true,Bool.true_and,Bool.and_false,Bool.false_and,reduceIte])
   all_goals first | rfl | (simp_all;done)
 rw[hs]
 exact⟨_,rfl,(aS.weaken bG (le (le l.size n.size) G.size)),(aD i (ut a6 bH (av (aP a4 G.size) ax)))⟩
 have bu:=ak c
 refine sg<|Pl 1<|L0<|aN a 0<|Pl 2<|nt<|cb ((M.code==22)) (fun d=>?_) (fun d=>?_)
 have bI:=ah d
 refine sg<|Pl 1<|L0<|aN a 2<|Pl 1<|L0<|aN a 5<|Pl 1<|L0<|aN a 6<|L0<|cL (m:=3) (e:=24) #[.int .u16 M.addr,.int .u16 M.and_,.int .u16 M.or_] fun dl dm bJ bK a7=>?_
 have bL:=dK bJ (xs:=[M.addr,M.and_,M.or_]) (by as_aux_lemma=>kernel_rfl) (au (by omega) (au (by omega) (au (by omega) aK))) (by(try simp only[List.length_cons,List.length_nil]);omega) bK
 refine L0<|Oc<|du (gl (xs:=[M.addr,M.and_,M.or_]) (bL).rd (by(try simp only[List.length_append,List.length_cons,List.length_nil]);omega)) fun bM bN dn bO dp ds bP=>Pl 1<|nt<|rt<|br<|tr<|rr (.slice bM ((aJ ([M.addr,M.and_,M.or_])).length) bN)<|?_
 have hs:dz dir M=(aJ ([M.addr,M.and_,M.or_])):=by
   unfold dz
   (try simp only[show(M.code==3)=false from(by rw[ah d];rfl),show(M.code==4)=false from(by rw[ah d];rfl),show(M.code==6)=false from(by rw[ah d];rfl),show(M.code==16)=false from(by rw[ah d];rfl),show(M.code==23)=false from(by rw[ah d];rfl),show(M.code==24)=false from(by rw[ah d];rfl),g,j,o,p,q,s,b,c,d,bs,if_true,if_false,decide_true,decide_false,Bool.or_true,Bool.true_or,Bool.or_false,Bool.false_or,Bool.and_true,Bool.true_and,Bool.and_false,Bool.false_and,reduceIte])
   all_goals first | rfl | (simp_all;done)
 rw[hs]
 exact⟨_,rfl,(aS.weaken bO (le (le l.size n.size) a7.size)),(aD i (aD a7 bP))⟩
 have bI:=ak d
 refine sg<|Pl 1<|L0<|aN a 0<|Pl 2<|nt<|cb ((M.code==23)) (fun f=>?_) (fun f=>?_)
 have bQ:=ah f
 refine go<|Pl 1<|L0<|aN a 2<|Pl 1<|L0<|aN a 3<|Pl 1<|L0<|aN a 7<|Pl 2<|L0<|cL (m:=4) (e:=24) #[.int .u16 M.addr,.int .u16 M.count,.int .u16 M.addr2,.int .u16 (((M.words.length:Nat) : Int)%65536)] fun dt dv bT bU I=>?_
 have bV:=dK bT (xs:=[M.addr,M.count,M.addr2,(((M.words.length:Nat) : Int)%65536)]) (by as_aux_lemma=>kernel_rfl) (au (by omega) (au (by omega) (au (by omega) (au (by omega) aK)))) (by(try simp only[List.length_cons,List.length_nil]);omega) bU
 refine Pl 1<|nl<|bn<|tn<|sg<|Pl 1<|L0<|Oc<|du (gl (xs:=[M.addr,M.count,M.addr2,(((M.words.length:Nat) : Int)%65536)]) (bV).rd (by(try simp only[List.length_append,List.length_cons,List.length_nil]);omega)) fun bW dw dx a8 dy dA a9=>Pl 1<|nt<|sq<|sg<|?_
 refine Pl 1<|nt<|c1<|go<|Pl 2<|L0<|Oi (2*((M.words.length:Nat) : Int))<|Pl 1<|L0<|cL (m:=1) (e:=5) #[.int .u8 ((2*((M.words.length:Nat) : Int))%256)] fun dB dC bX bY J=>?_
 have bZ:=cG bX (xs:=[((2*((M.words.length:Nat) : Int))%256)]) (by as_aux_lemma=>kernel_rfl) (au (by omega) aK) (by(try simp only[List.length_cons,List.length_nil]);omega) bY
 refine L0<|bS aZ (xs:=(aJ ([M.addr,M.count,M.addr2,(((M.words.length:Nat) : Int)%65536)]))) (ys:=([((2*((M.words.length:Nat) : Int))%256)])) (.int .u8 0) 1 (aq a8 J (fun x hx=>aA) (fun _ _ h=>h)) (bZ).rd (by(try simp only[List.length_append,List.length_cons,List.length_nil,az]);omega) (le a9.size J.size) fun dD dE dF aa c2=>Pl 1<|ng<|Pl 2<|?_
 have ab:=ut a9 (ut (aC.mono (S':=(ob bW++[])) J ax) c2 (av il ax)) (av (aP a8 lr) ax)
 have ac:=aD I ab
 refine L0<|bS aZ (xs:=((aJ ([M.addr,M.count,M.addr2,(((M.words.length:Nat) : Int)%65536)]))++[((2*((M.words.length:Nat) : Int))%256)])) (ys:=(aJ M.words)) (.int .u8 0) 1 aa ((aq u ac (fun x hx=>aA) (fun _ _ h=>h))).rd (by(try simp only[List.length_append,List.length_cons,List.length_nil,az]);omega) ab.size fun c3 c4 dG c5 c6=>Pl 1<|nt<|rt<|rr (.slice c3 ((((aJ ([M.addr,M.count,M.addr2,(((M.words.length:Nat) : Int)%65536)]))++[((2*((M.words.length:Nat) : Int))%256)])++(aJ M.words)).length) c4)<|?_
 have hs:dz dir M=(((aJ ([M.addr,M.count,M.addr2,(((M.words.length:Nat) : Int)%65536)]))++[((2*((M.words.length:Nat) : Int))%256)])++(aJ M.words)):=by
   unfold dz
   (try simp only[show(M.code==3)=false from(by rw[ah f];rfl),show(M.code==4)=false from(by rw[ah f];rfl),show(M.code==6)=false from(by rw[ah f];rfl),show(M.code==16)=false from(by rw[ah f];rfl),show(M.code==22)=false from(by rw[ah f];rfl),show(M.code==24)=false from(by rw[ah f];rfl),g,j,o,p,q,s,b,c,d,f,bs,if_true,if_false,decide_true,decide_false,Bool.or_true,Bool.true_or,Bool.or_false,Bool.false_or,Bool.and_true,Bool.true_and,Bool.and_false,Bool.false_and,reduceIte])
   all_goals first | rfl | (simp_all;done)
 rw[hs]
 exact⟨_,rfl,(aS.weaken c5 (le (le l.size n.size) I.size)),(aD i (ut ac c6 (av (aP aa I.size) ax)))⟩
 have bQ:=ak f
 refine sg<|Pl 1<|L0<|aN a 0<|Pl 2<|cu 3 [106] 109 (((M.code==24)&&(dir==0))) (fun K ad=>?_) ?_
 refine bl 106 ((M.code==24)) (fun D=>?_) (fun D=>?_)
 have c7:=ah D
 exact Pl 3<|ce ad (dir==0) (by rw[D];rfl)
 have c7:=ak D
 exact Pl 3<|ce ad false (by rw[D];rfl)
 refine Pl 1<|nt<|cb (((M.code==24)&&(dir==0))) (fun t=>?_) (fun t=>?_)
 have r:=(aU t).1
 have ae:=(aU t).2
 have dH:=ah r
 have dI:=ah ae
 refine sg<|Pl 1<|L0<|aN a 2<|L0<|cL (m:=1) (e:=24) #[.int .u16 M.addr] fun dJ dL c8 c9 af=>?_
 have ca:=dK c8 (xs:=[M.addr]) (by as_aux_lemma=>kernel_rfl) (au (by omega) aK) (by(try simp only[List.length_cons,List.length_nil]);omega) c9
 refine L0<|Oc<|du (gl (xs:=[M.addr]) (ca).rd (by(try simp only[List.length_append,List.length_cons,List.length_nil]);omega)) fun cc cd dM cf dN dO cg=>Pl 1<|nt<|rt<|br<|tr<|rr (.slice cc ((aJ ([M.addr])).length) cd)<|?_
 have hs:dz dir M=(aJ ([M.addr])):=by
   unfold dz
   (try simp only[show(M.code==3)=false from(by rw[ah r];rfl),show(M.code==4)=false from(by rw[ah r];rfl),show(M.code==6)=false from(by rw[ah r];rfl),show(M.code==16)=false from(by rw[ah r];rfl),show(M.code==22)=false from(by rw[ah r];rfl),show(M.code==23)=false from(by rw[ah r];rfl),g,j,o,p,q,s,b,c,d,f,t,r,ae,bs,if_true,if_false,decide_true,decide_false,Bool.or_true,Bool.true_or,Bool.or_false,Bool.false_or,Bool.and_true,Bool.true_and,Bool.and_false,Bool.false_and,reduceIte])
   all_goals first | rfl | (simp_all;done)
 rw[hs]
 exact⟨_,rfl,(aS.weaken cf (le (le l.size n.size) af.size)),(aD i (aD af cg))⟩
 refine sg<|Pl 1<|L0<|aN a 0<|Pl 2<|nt<|cb ((M.code==24)) (fun k=>?_) (fun k=>?_)
 have ch:=ah k
 refine sg<|Pl 1<|L0<|Oi (2*((M.words.length:Nat) : Int))<|L0<|Oi ((2*((M.words.length:Nat) : Int))+2)<|Pl 3<|L0<|cL (m:=2) (e:=24) #[.int .u16 (((2*((M.words.length:Nat) : Int))+2)%65536),.int .u16 (((M.words.length:Nat) : Int)%65536)] fun dQ dR ci cj L=>?_
 have ck:=dK ci (xs:=[(((2*((M.words.length:Nat) : Int))+2)%65536),(((M.words.length:Nat) : Int)%65536)]) (by as_aux_lemma=>kernel_rfl) (au (by omega) (au (by omega) aK)) (by(try simp only[List.length_cons,List.length_nil]);omega) cj
 refine Pl 1<|nt<|go<|Pl 1<|nl<|bn<|tn<|sg<|Pl 1<|L0<|Oc<|du (gl (xs:=[(((2*((M.words.length:Nat) : Int))+2)%65536),(((M.words.length:Nat) : Int)%65536)]) (ck).rd (by(try simp only[List.length_append,List.length_cons,List.length_nil]);omega)) fun dS dT dU ag dV dW ai=>Pl 1<|nl<|?_
 refine tn<|sq<|sg<|Pl 1<|nt<|c0<|bi<|sg<|Pl 2<|?_
 have aj:=aD L ai
 refine L0<|bS aZ (xs:=(aJ ([(((2*((M.words.length:Nat) : Int))+2)%65536),(((M.words.length:Nat) : Int)%65536)]))) (ys:=(aJ M.words)) (.int .u8 0) 1 ag ((aq u aj (fun x hx=>aA) (fun _ _ h=>h))).rd (by(try simp only[List.length_append,List.length_cons,List.length_nil,az]);omega) ai.size fun cl cm dX cn co=>Pl 1<|nt<|rt<|rr (.slice cl (((aJ ([(((2*((M.words.length:Nat) : Int))+2)%65536),(((M.words.length:Nat) : Int)%65536)]))++(aJ M.words)).length) cm)<|?_
 have hs:dz dir M=((aJ ([(((2*((M.words.length:Nat) : Int))+2)%65536),(((M.words.length:Nat) : Int)%65536)]))++(aJ M.words)):=by
   unfold dz
   (try simp only[show(M.code==3)=false from(by rw[ah k];rfl),show(M.code==4)=false from(by rw[ah k];rfl),show(M.code==6)=false from(by rw[ah k];rfl),show(M.code==16)=false from(by rw[ah k];rfl),show(M.code==22)=false from(by rw[ah k];rfl),show(M.code==23)=false from(by rw[ah k];rfl),g,j,o,p,q,s,b,c,d,f,t,k,bs,if_true,if_false,decide_true,decide_false,Bool.or_true,Bool.true_or,Bool.or_false,Bool.false_or,Bool.and_true,Bool.true_and,Bool.and_false,Bool.false_and,reduceIte])
   all_goals first | rfl | (simp_all;done)
 rw[hs]
 exact⟨_,rfl,(aS.weaken cn (le (le l.size n.size) L.size)),(aD i (ut aj co (av (aP ag L.size) ax)))⟩
 have ch:=ak k
 refine sk<|bn<|tn<|sg<|Pl 1<|L0<|Oc<|du (gl (xs:=[]) (aL.nil true _ _ _ _) (by(try simp only[List.length_append,List.length_cons,List.length_nil]);omega)) fun cp dY dZ al e0 e1 am=>Pl 1<|nt<|sq<|sg<|Pl 1<|nl<|?_
 refine tn<|c1<|go<|Pl 2<|L0<|Oi (2*((M.words.length:Nat) : Int))<|Pl 1<|L0<|cL (m:=1) (e:=5) #[.int .u8 ((2*((M.words.length:Nat) : Int))%256)] fun e2 e3 cq cr N=>?_
 have ct:=cG cq (xs:=[((2*((M.words.length:Nat) : Int))%256)]) (by as_aux_lemma=>kernel_rfl) (au (by omega) aK) (by(try simp only[List.length_cons,List.length_nil]);omega) cr
 refine L0<|bS aZ (xs:=(aJ ([]))) (ys:=([((2*((M.words.length:Nat) : Int))%256)])) (.int .u8 0) 1 (aq al N (fun x hx=>aA) (fun _ _ h=>h)) (ct).rd (by(try simp only[List.length_append,List.length_cons,List.length_nil,az]);omega) (le am.size N.size) fun e4 e5 e6 an cv=>Pl 1<|ng<|Pl 2<|?_
 have O:=ut am (ut (aC.mono (S':=(ob cp++[])) N ax) cv (av il ax)) (av (aP al lr) ax)
 refine L0<|bS aZ (xs:=((aJ ([]))++[((2*((M.words.length:Nat) : Int))%256)])) (ys:=(aJ M.words)) (.int .u8 0) 1 an ((aq u O (fun x hx=>aA) (fun _ _ h=>h))).rd (by(try simp only[List.length_append,List.length_cons,List.length_nil,az]);omega) O.size fun cw cx e7 cy cz=>Pl 1<|nt<|rt<|rr (.slice cw ((((aJ ([]))++[((2*((M.words.length:Nat) : Int))%256)])++(aJ M.words)).length) cx)<|?_
 have hs:dz dir M=(((aJ ([]))++[((2*((M.words.length:Nat) : Int))%256)])++(aJ M.words)):=by
   unfold dz
   (try simp only[g,j,o,p,q,s,b,c,d,f,t,k,bs,if_true,if_false,decide_true,decide_false,Bool.or_true,Bool.true_or,Bool.or_false,Bool.false_or,Bool.and_true,Bool.true_and,Bool.and_false,Bool.false_and,reduceIte])
   all_goals first | rfl | (simp_all;done)
 rw[hs]
 exact⟨_,rfl,(aS.weaken cy i.size),(aD i (ut O cz (av (aP an lr) ax)))⟩
open Go.RowKit
def lg (dir code:Int)(r:dc) : List Int:=(if code==20&&dir==1 then [(2*(r.words.length:Int)+1)%256,6] else [6]++aJ [r.file,r.record,r.count])++aJ r.words
def db (dir code:Int) : List dc→List Int
  | []=>[]
  | r :: rs=>lg dir code r++db dir code rs
theorem jj(dir code:Int)(xs:List dc)(k:Nat)(h:k<xs.length) : db dir code (xs.drop k)=lg dir code (xs.getD k ⟨0,0,0,[]⟩)++db dir code (xs.drop (k+1)):=by
  rw[List.drop_eq_getElem_cons h]
  simp[db,List.getD_eq_getElem?_getD,List.getElem?_eq_getElem h]
def ei (dir:Int)(M:aO) : List Int:=[((db dir M.code M.recs).length:Int)%256]++db dir M.code M.recs
theorem oz{m:Md}{cs:Array Value}{M:aO}{w:World}{dir:Int}(h:aH m w cs.toList M)(hf:bR M) : Calls Tryz.prog 169 #[.int .i64 dir,.agg cs] w (fO (ei dir M) w):=by
 obtain⟨vw,vb,vd,vr,vo,h0,hw,hbt,hd,hr,ho,hR⟩:=h
 obtain rfl:cs=(bt M vw vb vd vr vo).toArray:=by apply Array.toList_inj.1;simpa using h0
 clear h0
 obtain⟨Aw,kw,rfl,_,_⟩:=hw.shape
 obtain⟨Ab,kb,rfl,_,_⟩:=hbt.shape
 obtain⟨Ad,kd,rfl,_,_⟩:=hd.shape
 obtain⟨Ar,kr,rfl,_,_⟩:=hr.shape
 obtain⟨Ao,ko,rfl,_,_⟩:=ho.shape
 obtain⟨q0,q1,q2,q3,q4,q5,q6,q7,q8,q9,a4,a5,a6,a7,a8,a9,aa⟩:=hR
 simp only[B8,dr] at q0 q1 q2 q3 q4 q5 q6 q7 q8 q9 a4 a5 a6 a7 a8 a9 aa
 have hf1:=hf.words
 have hf2:=hf.bits
 have hf3:=hf.data
 have hf4:=hf.recs
 have hf5:=hf.objects
 refine en 60 Tryz.func169 rfl<|sg<|L0<|dq (mG M.code M.fail M.addr M.count M.value M.and_ M.or_ M.addr2 M.sub M.status M.events M.messages (.slice Aw M.words.length kw) (.slice Ab M.bits.length kb) (.slice Ad M.data.length kd) (.slice Ar M.recs.length kr) M.mei M.kind M.level M.more M.next (.slice Ao M.objects.length ko)) fun N o ba ab p=>Pl 1<|ng<|Pl 1<|nt<|sq<|sq<|?_
 refine go<|Pl 1<|nt<|bk<|?_
 refine iM (fun x=>[(0,.int .i64 dir),(3,.pointer (some ⟨N,0,none⟩)),(4,.slice none 0 0),(5,.slice x.2.2.1 x.2.1.length x.2.2.2),(6,.int .i64 ((x.1:Nat) : Int))]) (fun(x:Nat × List Int × Option Addr × Nat) w'=>aC [] o w'∧eG o.heap.size w' (.slice x.2.2.1 x.2.1.length x.2.2.2) x.2.1∧(x.1≤M.recs.length)∧(x.2.1++db dir M.code (M.recs.drop x.1)=([])++db dir M.code M.recs)∧(x.2.1.length≤16+x.1*2060)∧(0≤x.2.1.length)) (fun x=>M.recs.length-x.1) (0,[],none,0) ⟨aC.refl _ _,(aS.nil o.heap.size _ _ sZ _),(by(try dsimp only);omega),rfl,(by(try dsimp only);(try simp only[List.length_cons,List.length_nil]);omega),(by(try dsimp only);(try simp only[List.length_cons,List.length_nil]);omega)⟩ ?_
 rintro⟨k,L,A,cp⟩ ac ⟨a,ad,ae,af,ag,ai⟩
 refine iL [(0,.int .i64 dir),(3,.pointer (some ⟨N,0,none⟩)),(4,.slice none 0 0),(5,.slice A L.length cp),(6,.int .i64 ((k:Nat) : Int))] ?_
 have b:eG o.heap.size ac (.slice A L.length cp) L:=ad
 have bb:k≤M.recs.length:=ae
 have bc:L++db dir M.code (M.recs.drop k)=([])++db dir M.code M.recs:=af
 have bd:L.length≤16+k*2060:=ag
 have be:0≤L.length:=ai
 have hL:L++db dir M.code (M.recs.drop k)=([])++db dir M.code M.recs:=by assumption
 have hv0:=fun(h:k<M.recs.length)=>hf.recw _ (dS ⟨0,0,0,[]⟩ M.recs k h)
 refine sq<|sg<|Pl 2<|?_
 have y:=ub a ab
 refine L0<|aN y 15<|Pl 2<|nt<|?_
 have q:=aD p a
 refine cb ((decide (((k:Nat) : Int)<((M.recs.length:Nat) : Int)))) (fun f=>?_) (fun f=>?_)
 have aj:=of_decide_eq_true f
 refine bi<|sq<|bk<|sg<|Pl 1<|L0<|aN y 15<|Pl 1<|kD (lJ.elt hr k (by omega)) fun bf bg bh bm bo O P al am Q bp an=>L0<|oH 4 M.recs.length k al (by omega)<|?_
 refine L0<|yI [.int .u16 ((M.recs.getD k ⟨0,0,0,[]⟩).file),.int .u16 ((M.recs.getD k ⟨0,0,0,[]⟩).record),.int .u16 ((M.recs.getD k ⟨0,0,0,[]⟩).count),.slice O ((M.recs.getD k ⟨0,0,0,[]⟩).words.length) P] (ub q am) an<|L0<|bH #[.int .u16 0,.int .u16 0,.int .u16 0,.slice none 0 0] fun bq br z ao c=>L0<|b7 ao #[.int .u16 ((M.recs.getD k ⟨0,0,0,[]⟩).file),.int .u16 ((M.recs.getD k ⟨0,0,0,[]⟩).record),.int .u16 ((M.recs.getD k ⟨0,0,0,[]⟩).count),.slice O ((M.recs.getD k ⟨0,0,0,[]⟩).words.length) P] fun bu B d=>nt<|sq<|sg<|Pl 1<|?_
 have r:=ud c d z
 refine L0<|aN (ub r y) 0<|Pl 2<|cu 3 [23] 26 (((M.code==20)&&(dir==1))) (fun K R=>?_) ?_
 refine bl 23 ((M.code==20)) (fun g=>?_) (fun g=>?_)
 have ap:=ah g
 exact Pl 3<|ce R (dir==1) (by rw[g];rfl)
 have ap:=ak g
 exact Pl 3<|ce R false (by rw[g];rfl)
 refine nt<|?_
 have S:=aD q r
 refine cb (((M.code==20)&&(dir==1))) (fun i=>?_) (fun i=>?_)
 have T:=(aU i).1
 have U:=(aU i).2
 have bv:=ah T
 have bw:=ah U
 refine go<|Pl 2<|L0<|aN B 3<|Pl 1<|L0<|Oi (2*(((M.recs.getD k ⟨0,0,0,[]⟩).words.length:Nat) : Int))<|L0<|Oi ((2*(((M.recs.getD k ⟨0,0,0,[]⟩).words.length:Nat) : Int))+1)<|Pl 1<|L0<|cL (m:=2) (e:=5) #[.int .u8 (((2*(((M.recs.getD k ⟨0,0,0,[]⟩).words.length:Nat) : Int))+1)%256),.int .u8 6] fun bz bA ar aw s=>?_
 have ay:=cG ar (xs:=[(((2*(((M.recs.getD k ⟨0,0,0,[]⟩).words.length:Nat) : Int))+1)%256),6]) (by as_aux_lemma=>kernel_rfl) (au (by omega) (au (by omega) aK)) (by(try simp only[List.length_cons,List.length_nil]);omega) aw
 have V:=aD r s
 refine L0<|bS aZ (xs:=L) (ys:=([(((2*(((M.recs.getD k ⟨0,0,0,[]⟩).words.length:Nat) : Int))+1)%256),6])) (.int .u8 0) 1 (aq b V (fun x hx=>aA) (fun _ _ h=>h)) (ay).rd (by(try simp only[List.length_append,List.length_cons,List.length_nil,az]);omega) (le (le (le a.size c.size) d.size) s.size) fun C bB bC W D=>Pl 1<|nt<|go<|Pl 2<|?_
 have X:=ut (aC.mono (S':=(ob A++[])) s ax) D (av il ax)
 refine L0<|aN (aC.blk X (bj (eK b lr z) aA) B) 3<|?_
 refine L0<|Oc<|du (gl (xs:=(M.recs.getD k ⟨0,0,0,[]⟩).words) (dP.old Q (ut S X (av (aP b p.size) ax))) (by(try simp only[List.length_append,List.length_cons,List.length_nil]);omega)) fun bD bE bF aB bG bI E=>?_
 refine L0<|bS aZ (xs:=(L++[(((2*(((M.recs.getD k ⟨0,0,0,[]⟩).words.length:Nat) : Int))+1)%256),6])) (ys:=(aJ ((M.recs.getD k ⟨0,0,0,[]⟩).words))) (.int .u8 0) 1 (aq W E (fun x hx=>aA) (fun _ _ h=>h)) (aB).rd (by(try simp only[List.length_append,List.length_cons,List.length_nil,az]);omega) (le (le (le (le (le a.size c.size) d.size) s.size) D.size) E.size) fun aE aF bJ aG aI=>Pl 1<|nl<|bn<|tn<|go<|Pl 1<|L0<|Oi (((k:Nat) : Int)+1)<|Pl 1<|nl<|?_
 exact gE ((k+1),((L++[(((2*(((M.recs.getD k ⟨0,0,0,[]⟩).words.length:Nat) : Int))+1)%256),6])++(aJ ((M.recs.getD k ⟨0,0,0,[]⟩).words))),aE,aF) ⟨(ut a (ut (aC.mono (S':=(ob A++(ob C++[]))) V ax) (ut (aC.mono (S':=(ob A++(ob C++[]))) D (av il ax)) (ut (aC.mono (S':=(ob C++[])) E ax) aI (av il ax)) (av il ax)) (av il (av il ax))) (av (aP b lr) (av (aP W lr) ax))),aG,(by(try dsimp only);omega),(by(try dsimp only);rw[← hL,jj dir M.code M.recs k (by omega)];simp only[lg,f,i,T,U,bs,if_true,if_false,decide_true,decide_false,List.append_assoc]),(by(try dsimp only);have hv:=hf.recw _ (dS ⟨0,0,0,[]⟩ M.recs k (by omega));(try simp only[List.length_append,List.length_cons,List.length_nil,az]);omega),(by(try dsimp only);(try simp only[List.length_append,List.length_cons,List.length_nil]);omega)⟩ (by omega)
 refine sg<|Pl 1<|L0<|cL (m:=1) (e:=5) #[.int .u8 6] fun bK bL aL aM j=>?_
 have aQ:=cG aL (xs:=[6]) (by as_aux_lemma=>kernel_rfl) (au (by omega) aK) (by(try simp only[List.length_cons,List.length_nil]);omega) aM
 have Y:=aD r j
 refine L0<|bS aZ (xs:=L) (ys:=([6])) (.int .u8 0) 1 (aq b Y (fun x hx=>aA) (fun _ _ h=>h)) (aQ).rd (by(try simp only[List.length_append,List.length_cons,List.length_nil,az]);omega) (le (le (le a.size c.size) d.size) j.size) fun l bM bN t u=>Pl 1<|nt<|go<|Pl 2<|?_
 have Z:=ut (aC.mono (S':=(ob A++[])) j ax) u (av il ax)
 have n:=aC.blk Z (bj (eK b lr z) aA) B
 refine L0<|aN n 0<|Pl 1<|L0<|aN n 1<|Pl 1<|L0<|aN n 2<|L0<|cL (m:=3) (e:=24) #[.int .u16 ((M.recs.getD k ⟨0,0,0,[]⟩).file),.int .u16 ((M.recs.getD k ⟨0,0,0,[]⟩).record),.int .u16 ((M.recs.getD k ⟨0,0,0,[]⟩).count)] fun bO bP aR aT F=>?_
 have aV:=dK aR (xs:=[(M.recs.getD k ⟨0,0,0,[]⟩).file,(M.recs.getD k ⟨0,0,0,[]⟩).record,(M.recs.getD k ⟨0,0,0,[]⟩).count]) (by as_aux_lemma=>kernel_rfl) (au (by omega) (au (by omega) (au (by omega) aK))) (by(try simp only[List.length_cons,List.length_nil]);omega) aT
 refine L0<|Oc<|du (gl (xs:=[(M.recs.getD k ⟨0,0,0,[]⟩).file,(M.recs.getD k ⟨0,0,0,[]⟩).record,(M.recs.getD k ⟨0,0,0,[]⟩).count]) (aV).rd (by(try simp only[List.length_append,List.length_cons,List.length_nil]);omega)) fun bQ bT bU aW bV bW G=>?_
 have a0:=aD F G
 refine L0<|bS aZ (xs:=(L++[6])) (ys:=(aJ ([(M.recs.getD k ⟨0,0,0,[]⟩).file,(M.recs.getD k ⟨0,0,0,[]⟩).record,(M.recs.getD k ⟨0,0,0,[]⟩).count]))) (.int .u8 0) 1 (aq t a0 (fun x hx=>aA) (fun _ _ h=>h)) (aW).rd (by(try simp only[List.length_append,List.length_cons,List.length_nil,az]);omega) (le (le (le (le (le (le a.size c.size) d.size) j.size) u.size) F.size) G.size) fun v bX bY a1 a2=>Pl 1<|nt<|go<|Pl 2<|?_
 have H:=ut (aC.mono (S':=(ob l++[])) a0 ax) a2 (av il ax)
 refine L0<|aN (aC.blk H (bj (ec n t (by decide)) aA) n) 3<|?_
 refine L0<|Oc<|du (gl (xs:=(M.recs.getD k ⟨0,0,0,[]⟩).words) (dP.old Q (ut S (ut (aC.mono (S':=(ob A++(ob l++[]))) Z (av il ax)) H (av il ax)) (av (aP b p.size) (av (aP t p.size) ax)))) (by(try simp only[List.length_append,List.length_cons,List.length_nil]);omega)) fun bZ c0 c1 aX c2 c3 I=>?_
 refine L0<|bS aZ (xs:=((L++[6])++(aJ ([(M.recs.getD k ⟨0,0,0,[]⟩).file,(M.recs.getD k ⟨0,0,0,[]⟩).record,(M.recs.getD k ⟨0,0,0,[]⟩).count])))) (ys:=(aJ ((M.recs.getD k ⟨0,0,0,[]⟩).words))) (.int .u8 0) 1 (aq a1 I (fun x hx=>aA) (fun _ _ h=>h)) (aX).rd (by(try simp only[List.length_append,List.length_cons,List.length_nil,az]);omega) (le (le (le (le (le (le (le (le a.size c.size) d.size) j.size) u.size) F.size) G.size) a2.size) I.size) fun aY b0 c4 b1 b2=>Pl 1<|nl<|bn<|tn<|go<|Pl 1<|L0<|Oi (((k:Nat) : Int)+1)<|Pl 1<|nl<|?_
 exact gE ((k+1),(((L++[6])++(aJ ([(M.recs.getD k ⟨0,0,0,[]⟩).file,(M.recs.getD k ⟨0,0,0,[]⟩).record,(M.recs.getD k ⟨0,0,0,[]⟩).count])))++(aJ ((M.recs.getD k ⟨0,0,0,[]⟩).words))),aY,b0) ⟨(ut a (ut (aC.mono (S':=(ob A++(ob l++(ob v++[])))) Y ax) (ut (aC.mono (S':=(ob A++(ob l++(ob v++[])))) u (av il ax)) (ut (aC.mono (S':=(ob l++(ob v++[]))) H (av il ax)) (ut (aC.mono (S':=(ob v++[])) I ax) b2 (av il ax)) (av il ax)) (av il (av il ax))) (av il (av il (av il ax)))) (av (aP b lr) (av (aP t lr) (av (aP a1 lr) ax)))),b1,(by(try dsimp only);omega),(by(try dsimp only);rw[← hL,jj dir M.code M.recs k (by omega)];simp only[lg,f,i,bs,if_true,if_false,decide_true,decide_false,List.append_assoc]),(by(try dsimp only);have hv:=hf.recw _ (dS ⟨0,0,0,[]⟩ M.recs k (by omega));(try simp only[List.length_append,List.length_cons,List.length_nil,az]);omega),(by(try dsimp only);(try simp only[List.length_append,List.length_cons,List.length_nil]);omega)⟩ (by omega)
 have aj:=of_decide_eq_false f
 refine xt<|tx<|tx<|bx<|tn<|sg<|Pl 3<|L0<|cL (m:=1) (e:=5) #[.int .u8 (((L.length:Nat) : Int)%256)] fun c5 c6 b3 b4 J=>?_
 have a3:=cG b3 (xs:=[(((L.length:Nat) : Int)%256)]) (by as_aux_lemma=>kernel_rfl) (au (by omega) aK) (by(try simp only[List.length_cons,List.length_nil]);omega) b4
 refine Pl 1<|?_
 refine L0<|bS aZ (xs:=([(((L.length:Nat) : Int)%256)])) (ys:=L) (.int .u8 0) 1 a3 ((aq b J (fun x hx=>aA) (fun _ _ h=>h))).rd (by(try simp only[List.length_append,List.length_cons,List.length_nil,az]);omega) J.size fun b5 b6 c7 b8 b9=>Pl 1<|nt<|rt<|rr (.slice b5 (([(((L.length:Nat) : Int)%256)]++L).length) b6)<|?_
 have hL2:L=db dir M.code M.recs:=by rw[show k=M.recs.length by omega,List.drop_length] at hL;rw[show db dir M.code []=[] from rfl,List.append_nil] at hL;exact hL
 have hs:ei dir M=([(((L.length:Nat) : Int)%256)]++L):=by unfold ei;rw[← hL2]
 rw[hs]
 exact⟨_,rfl,(aS.weaken b8 q.size),(aD q (ut J b9 (av (aP a3 lr) ax)))⟩
open Go.RowKit
def fa (dir:Int)(M:aO) : List Int :=
  if M.mei==13 then [13]++M.data
  else if dir==0 then [M.mei,M.kind,M.next]
  else [M.mei,M.kind,M.level,M.more,M.next,(M.objects.length:Int)%256]++eT M.objects
theorem rP{m:Md}{cs:Array Value}{M:aO}{w:World}{dir:Int}(h:aH m w cs.toList M)(hf:bR M) : Calls Tryz.prog 170 #[.int .i64 dir,.agg cs] w (fO (fa dir M) w):=by
 obtain⟨vw,vb,vd,vr,vo,h0,hw,hbt,hd,hr,ho,hR⟩:=h
 obtain rfl:cs=(bt M vw vb vd vr vo).toArray:=by apply Array.toList_inj.1;simpa using h0
 clear h0
 obtain⟨Aw,kw,rfl,_,_⟩:=hw.shape
 obtain⟨Ab,kb,rfl,_,_⟩:=hbt.shape
 obtain⟨Ad,kd,rfl,_,_⟩:=hd.shape
 obtain⟨Ar,kr,rfl,_,_⟩:=hr.shape
 obtain⟨Ao,ko,rfl,_,_⟩:=ho.shape
 obtain⟨q0,q1,q2,q3,q4,q5,q6,q7,q8,q9,X,Y,Z,a0,a1,a2,a3⟩:=hR
 simp only[B8,dr] at q0 q1 q2 q3 q4 q5 q6 q7 q8 q9 X Y Z a0 a1 a2 a3
 have hf1:=hf.words
 have hf2:=hf.bits
 have hf3:=hf.data
 have hf4:=hf.recs
 have hf5:=hf.objects
 refine en 71 Tryz.func170 rfl<|sg<|L0<|dq (mG M.code M.fail M.addr M.count M.value M.and_ M.or_ M.addr2 M.sub M.status M.events M.messages (.slice Aw M.words.length kw) (.slice Ab M.bits.length kb) (.slice Ad M.data.length kd) (.slice Ar M.recs.length kr) M.mei M.kind M.level M.more M.next (.slice Ao M.objects.length ko)) fun q r aW b c=>Pl 1<|nt<|sq<|sg<|Pl 1<|L0<|aN b 16<|Pl 1<|nl<|?_
 refine tn<|cb ((M.mei==13)) (fun g=>?_) (fun g=>?_)
 have a4:=ah g
 refine sg<|L0<|cL (m:=1) (e:=5) #[.int .u8 13] fun aX aY a5 a6 s=>?_
 have G:=cG a5 (xs:=[13]) (by as_aux_lemma=>kernel_rfl) (au (by omega) aK) (by(try simp only[List.length_cons,List.length_nil]);omega) a6
 refine Pl 1<|?_
 refine L0<|aN (ub s b) 14<|?_
 have H:=aD c s
 refine L0<|bS aZ (xs:=([13])) (ys:=M.data) (.int .u8 0) 1 G (b9.old hd H) (by(try simp only[List.length_append,List.length_cons,List.length_nil,az]);omega) s.size fun a7 a8 b0 a9 aa=>Pl 1<|nt<|rt<|tr<|rr (.slice a7 (([13]++M.data).length) a8)<|?_
 have hs:fa dir M=([13]++M.data):=by
   unfold fa
   (try simp only[g,bs,if_true,if_false,decide_true,decide_false,Bool.or_true,Bool.true_or,Bool.or_false,Bool.false_or,Bool.and_true,Bool.true_and,Bool.and_false,Bool.false_and,reduceIte])
   all_goals rfl
 rw[hs]
 exact⟨_,rfl,(aS.weaken a9 c.size),(ut H aa (av (aP G c.size) ax))⟩
 have a4:=ak g
 refine bi<|sq<|sg<|Pl 2<|nt<|cb ((dir==0)) (fun n=>?_) (fun n=>?_)
 have ab:=ah n
 refine sg<|Pl 1<|L0<|aN b 16<|Pl 1<|L0<|aN b 17<|Pl 1<|L0<|aN b 20<|L0<|cL (m:=3) (e:=5) #[.int .u8 M.mei,.int .u8 M.kind,.int .u8 M.next] fun ac b1 ad af ag=>?_
 have ai:=cG ad (xs:=[M.mei,M.kind,M.next]) (by as_aux_lemma=>kernel_rfl) (au (by omega) (au (by omega) (au (by omega) aK))) (by(try simp only[List.length_cons,List.length_nil]);omega) af
 refine Pl 1<|nt<|rt<|tr<|rr (.slice (some ⟨ac,0,none⟩) 3 3)<|?_
 have hs:fa dir M=[M.mei,M.kind,M.next]:=by
   unfold fa
   (try simp only[g,n,bs,if_true,if_false,decide_true,decide_false,Bool.or_true,Bool.true_or,Bool.or_false,Bool.false_or,Bool.and_true,Bool.true_and,Bool.and_false,Bool.false_and,reduceIte])
   all_goals rfl
 rw[hs]
 exact⟨_,rfl,(aS.weaken ai c.size),(aD c ag)⟩
 have ab:=ak n
 refine bi<|sg<|Pl 1<|L0<|aN b 16<|Pl 1<|L0<|aN b 17<|Pl 1<|L0<|aN b 18<|Pl 1<|L0<|aN b 19<|Pl 1<|L0<|aN b 20<|?_
 refine Pl 1<|L0<|aN b 21<|Pl 2<|L0<|cL (m:=6) (e:=5) #[.int .u8 M.mei,.int .u8 M.kind,.int .u8 M.level,.int .u8 M.more,.int .u8 M.next,.int .u8 (((M.objects.length:Nat) : Int)%256)] fun aj al an ao t=>?_
 have ap:=cG an (xs:=[M.mei,M.kind,M.level,M.more,M.next,(((M.objects.length:Nat) : Int)%256)]) (by as_aux_lemma=>kernel_rfl) (au (by omega) (au (by omega) (au (by omega) (au (by omega) (au (by omega) (au (by omega) aK)))))) (by(try simp only[List.length_cons,List.length_nil]);omega) ao
 refine Pl 1<|nt<|sq<|sg<|Pl 1<|nt<|bk<|?_
 refine iM (fun x=>[(3,.pointer (some ⟨q,0,none⟩)),(4,.slice none 0 0),(5,.slice x.2.2.1 x.2.1.length x.2.2.2),(6,.int .i64 ((x.1:Nat) : Int))]) (fun(x:Nat × List Int × Option Addr × Nat) w'=>aC [] r w'∧al.heap.size≤w'.heap.size∧eG r.heap.size w' (.slice x.2.2.1 x.2.1.length x.2.2.2) x.2.1∧(x.1≤M.objects.length)∧(x.2.1++eT (M.objects.drop x.1)=([M.mei,M.kind,M.level,M.more,M.next,(((M.objects.length:Nat) : Int)%256)])++eT M.objects)∧(x.2.1.length≤16+x.1*1026)∧(6≤x.2.1.length)) (fun x=>M.objects.length-x.1) (0,[M.mei,M.kind,M.level,M.more,M.next,(((M.objects.length:Nat) : Int)%256)],some ⟨aj,0,none⟩,6) ⟨t,lr,ap,(by(try dsimp only);omega),rfl,(by(try dsimp only);(try simp only[List.length_cons,List.length_nil]);omega),(by(try dsimp only);(try simp only[List.length_cons,List.length_nil]);omega)⟩ ?_
 rintro⟨k,L,A,cp⟩ ar ⟨u,y,aw,ay,aE,aF,aG⟩
 refine iL [(3,.pointer (some ⟨q,0,none⟩)),(4,.slice none 0 0),(5,.slice A L.length cp),(6,.int .i64 ((k:Nat) : Int))] ?_
 have i:eG r.heap.size ar (.slice A L.length cp) L:=aw
 have b2:k≤M.objects.length:=ay
 have b3:L++eT (M.objects.drop k)=([M.mei,M.kind,M.level,M.more,M.next,(((M.objects.length:Nat) : Int)%256)])++eT M.objects:=aE
 have b4:L.length≤16+k*1026:=aF
 have b5:6≤L.length:=aG
 have hL:L++eT (M.objects.drop k)=([M.mei,M.kind,M.level,M.more,M.next,(((M.objects.length:Nat) : Int)%256)])++eT M.objects:=by assumption
 have hv0:=fun(h:k<M.objects.length)=>hf.objv _ (dS ⟨0,[]⟩ M.objects k h)
 refine sq<|sg<|Pl 2<|?_
 have I:=ub u b
 refine L0<|aN I 21<|Pl 2<|nt<|?_
 have J:=aD c u
 refine cb ((decide (((k:Nat) : Int)<((M.objects.length:Nat) : Int)))) (fun o=>?_) (fun o=>?_)
 have aI:=of_decide_eq_true o
 refine bi<|sq<|bk<|sq<|kD (mS.elt ho k (by omega)) fun z B b6 b7 b8 K N C O aJ ba d=>Rg 18 (fun w'=>w'.cell? ⟨q,21,none⟩=some (.slice Ao M.objects.length ko)∧w'.cell? ⟨z,B+k*2+0,none⟩=some (.int .u8 ((M.objects.getD k ⟨0,[]⟩).id))∧w'.cell? ⟨z,B+k*2+1,none⟩=some (.slice K ((M.objects.getD k ⟨0,[]⟩).value.length) N)) fun bb j=>?_
 have P:=ub j I
 have Q:=aD J j
 have D:=ub Q O
 refine bg ⟨(ae P rfl),(fM D d 0 rfl (by decide)),(fM D d 1 rfl (by decide))⟩ fun a=>Rt 0 a<|Rt 1 a<|Rl 2 a (fun _ hs=>hs.1)<|Rt 3 a<|Ri 4 a 2 M.objects.length k ((k:Nat) : Int) rfl C (by omega)<|Rt 5 a<|Rl 6 a (fun _ hs=>hs.2.1)<|Rt 7 a<|Rl 8 a (fun _ hs=>hs.1)<|Rt 9 a<|Ri 10 a 2 M.objects.length k ((k:Nat) : Int) rfl C (by omega)<|Rt 11 a<|Rl 12 a (fun _ hs=>hs.2.2)<|?_
 refine Rt 13 a<|Rt 14 a<|R0 15 rfl<|cL (m:=2) (e:=5) #[.int .u8 ((M.objects.getD k ⟨0,[]⟩).id),.int .u8 ((((M.objects.getD k ⟨0,[]⟩).value.length:Nat) : Int)%256)] fun bc bd aL aM f=>?_
 have aQ:=cG aL (xs:=[(M.objects.getD k ⟨0,[]⟩).id,((((M.objects.getD k ⟨0,[]⟩).value.length:Nat) : Int)%256)]) (by as_aux_lemma=>kernel_rfl) (au (by omega) (au (by omega) aK)) (by(try simp only[List.length_cons,List.length_nil]);omega) aM
 have R:=ub f P
 have E:=ub f D
 refine bg ⟨(ae R rfl),(fM E d 0 rfl (by decide)),(fM E d 1 rfl (by decide))⟩ fun be=>?_
 have S:=aD j f
 refine R0 16 rfl<|bS aZ (xs:=L) (ys:=([(M.objects.getD k ⟨0,[]⟩).id,((((M.objects.getD k ⟨0,[]⟩).value.length:Nat) : Int)%256)])) (.int .u8 0) 1 (aq i S (fun x hx=>aA) (fun _ _ h=>h)) (aQ).rd (by(try simp only[List.length_append,List.length_cons,List.length_nil,az]);omega) (le (le (le t.size y) j.size) f.size) fun T bf bh U l=>?_
 have V:=aC.blk l (bj (aB (am b) lr i) aA) R
 have F:=aC.blk l (bj (aB (am O) c.size i) aA) E
 refine bg ⟨(ae V rfl),(fM F d 0 rfl (by decide)),(fM F d 1 rfl (by decide))⟩ fun aR=>Rt 17 aR<|re<|tn<|go<|Pl 2<|L0<|aN V 21<|Pl 1<|L0<|oH 2 M.objects.length k C (by omega)<|Pl 1<|L0<|eq (p:=⟨z,B+k*2+1,none⟩) (v:=.slice K ((M.objects.getD k ⟨0,[]⟩).value.length) N) (fM F d 1 rfl (by decide))<|?_
 refine L0<|bS aZ (xs:=(L++[(M.objects.getD k ⟨0,[]⟩).id,((((M.objects.getD k ⟨0,[]⟩).value.length:Nat) : Int)%256)])) (ys:=((M.objects.getD k ⟨0,[]⟩).value)) (.int .u8 0) 1 U (b9.old aJ (ut Q (ut (aC.mono (S':=(ob A++[])) f ax) l (av il ax)) (av (aP i c.size) ax))) (by(try simp only[List.length_append,List.length_cons,List.length_nil,az]);omega) (le (le (le (le t.size y) j.size) f.size) l.size) fun aT aU bl aV W=>Pl 1<|nl<|bn<|tn<|go<|Pl 1<|L0<|Oi (((k:Nat) : Int)+1)<|Pl 1<|nl<|?_
 exact gE ((k+1),((L++[(M.objects.getD k ⟨0,[]⟩).id,((((M.objects.getD k ⟨0,[]⟩).value.length:Nat) : Int)%256)])++(M.objects.getD k ⟨0,[]⟩).value),aT,aU) ⟨(ut u (ut (aC.mono (S':=(ob A++(ob T++[]))) S ax) (ut (aC.mono (S':=(ob A++(ob T++[]))) l (av il ax)) W (av il ax)) (av il (av il ax))) (av (aP i lr) (av (aP U lr) ax))),(le (le (le (le y j.size) f.size) l.size) W.size),aV,(by(try dsimp only);omega),(by(try dsimp only);rw[← hL,mQ  M.objects k (by omega)];simp only[List.append_assoc]),(by(try dsimp only);have hv:=hf.objv _ (dS ⟨0,[]⟩ M.objects k (by omega));(try simp only[List.length_append,List.length_cons,List.length_nil,az]);omega),(by(try dsimp only);(try simp only[List.length_append,List.length_cons,List.length_nil]);omega)⟩ (by omega)
 have aI:=of_decide_eq_false o
 refine xt<|tx<|tx<|bx<|tn<|sg<|Pl 2<|nt<|rt<|rr (.slice A L.length cp)<|?_
 have hk:k=M.objects.length:=by omega
 rw[hk,List.drop_length] at hL
 have hL2:L=([M.mei,M.kind,M.level,M.more,M.next,(((M.objects.length:Nat) : Int)%256)])++eT M.objects:=by rw[← hL];simp[eT]
 have hs:fa dir M=L:=by
   rw[hL2]
   unfold fa
   (try simp only[g,n,o,bs,if_true,if_false,decide_true,decide_false,reduceIte])
   all_goals rfl
 rw[hs]
 exact⟨_,rfl,(aS.weaken i c.size),J⟩
open Go.RowKit
theorem iD{parse:Int→Int→List Int→aO × Int}{lay:Int→aO→List Int}{dir E:Int}{M X:aO}(hX:parse dir M.code (lay dir M)=(X,E))(hE:((E != 0)||(!(decide (X=M))))=true) : bh parse lay dir M=none:=by
  unfold bh
  rw[hX,if_neg]
  intro h
  injection h with h1 h2
  rw[h1,h2] at hE
  simp at hE
theorem km(dir c:Int) : ∀ (L:List dc),(∀ r,r∈L→r.words.length≤1024)→(db dir c L).length≤2064*L.length
  | [],_=>by simp[db]
  | r :: L,h=>by
    have h1:=h r (by simp)
    have h2:=km dir c L fun x hx=>h x (by simp[hx])
    simp only[db,lg]
    repeat' split
    all_goals simp only[List.length_append,List.length_cons,List.length_nil,az]
    all_goals omega
theorem gC{M:aO}(hf:bR M)(dir:Int) : (cS dir M).length≤1048000∧(dz dir M).length≤1048000∧(dG dir M).length≤1048000∧(fa dir M).length≤1048000∧(ei dir M).length≤1048000:=by
  have hp:(bK M.bits).length≤1024:=by
    have:=hf.bits
    simp only[bK,List.length_map,List.length_range,dE]
    omega
  have h1:=hf.words
  have h2:=hf.data
  have h3:=hf.objects
  have h4:=kV M.objects hf.objv
  have h5:=km dir M.code M.recs hf.recw
  have h6:=hf.recs
  refine⟨?_,?_,?_,?_,?_⟩
  · unfold cS
    repeat' split
    all_goals simp only[List.length_append,List.length_cons,List.length_nil,az]
    all_goals omega
  · unfold dz
    repeat' split
    all_goals simp only[List.length_append,List.length_cons,List.length_nil,az]
    all_goals omega
  · unfold dG
    repeat' split
    all_goals simp only[List.length_append,List.length_cons,List.length_nil,az]
    all_goals omega
  · unfold fa
    repeat' split
    all_goals simp only[List.length_append,List.length_cons,List.length_nil]
    all_goals omega
  · unfold ei
    simp only[List.length_append,List.length_cons,List.length_nil]
    omega
theorem jl{m:Md}{cs:Array Value}{M:aO}{w:World}{dir:Int}(h:aH m w cs.toList M)(hf:bR M) : Calls Tryz.prog 102 #[.int .i64 dir,.agg cs] w (dw (bh (ai aE) cS dir M) w):=by
 have hM:=h
 have hlen:=(gC hf dir).1
 obtain⟨vw,vb,vd,vr,vo,h0,hw,hbt,hd,hr,ho,hR⟩:=h
 obtain rfl:cs=(bt M vw vb vd vr vo).toArray:=by apply Array.toList_inj.1;simpa using h0
 clear h0
 obtain⟨Aw,kw,rfl,_,_⟩:=hw.shape
 obtain⟨Ab,kb,rfl,_,_⟩:=hbt.shape
 obtain⟨Ad,kd,rfl,_,_⟩:=hd.shape
 obtain⟨Ar,kr,rfl,_,_⟩:=hr.shape
 obtain⟨Ao,ko,rfl,_,_⟩:=ho.shape
 obtain⟨q0,q1,q2,q3,q4,q5,q6,q7,q8,q9,E,F,G,H,I,J,L⟩:=hR
 simp only[B8,dr] at q0 q1 q2 q3 q4 q5 q6 q7 q8 q9 E F G H I J L
 refine en 31 Tryz.func102 rfl<|sg<|L0<|dq (mG M.code M.fail M.addr M.count M.value M.and_ M.or_ M.addr2 M.sub M.status M.events M.messages (.slice Aw M.words.length kw) (.slice Ab M.bits.length kb) (.slice Ad M.data.length kd) (.slice Ar M.recs.length kr) M.mei M.kind M.level M.more M.next (.slice Ao M.objects.length ko)) fun Z a0 a1 k f=>Pl 2<|ng<|Pl 1<|L0<|bM k<|?_
 have l:=aH.old hM f
 refine L0<|Oc<|du (qh (dir:=dir) l hf) fun N O P n a2 a3 o=>Pl 1<|ng<|Pl 2<|?_
 have p:=ub o k
 refine L0<|aN p 0<|Pl 1<|?_
 refine pr (ai aE dir M.code (cS dir M)) fun a g i=>?_
 have q:Calls _ _ _ _ (co _ _ (ai aE dir M.code (cS dir M)) P):=jb (dir:=dir) (c:=M.code) q0 (n).rd (by omega)
 rw[i] at q
 refine L0<|Oc<|e2 (q) fun Q a4 R r=>?_
 have s:=aq n r (fun x hx=>aA) (fun _ _ h=>h)
 have b:=cF.rdt R (s).rd
 refine Pl 3<|L0<|bH mZ fun a5 a6 S T U=>L0<|b7 (hz:=(by rw[b.size];exact aI)) (hv:=b.size) (h1:=b.one) T (Q) fun a7 V W=>Pl 1<|ng<|L0<|bM (hz:=(by rw[b.size];exact aI)) V<|?_
 have j:=ud U W S
 have t:=aD r j
 refine L0<|bM (ub t p)<|?_
 have u:=aD o t
 refine L0<|Oc<|m1 (dj (A:=a) (B:=M) (aH.upd b j aG) (aH.old l u)) fun a8 v=>Pl 1<|nt<|sq<|sg<|Pl 3<|cu 3 [26] 29 (((g != 0)||(!(decide (a=M))))) (fun K y=>?_) ?_
 refine bl 26 ((g != 0)) (fun d=>?_) (fun d=>?_)
 have X:=ay d
 exact Pl 3<|ce y true (by rw[d];rfl)
 have X:=ag d
 exact Pl 3<|ce y (!(decide (a=M))) (by rw[d];rfl)
 refine nt<|?_
 have z:=aD f (aD u v)
 refine cb (((g != 0)||(!(decide (a=M))))) (fun e=>?_) (fun e=>?_)
 refine sg<|Pl 2<|nt<|rt<|tr<|rr (.tuple #[.slice none 0 0,.int .i64 1])<|?_
 refine cn (iD i e) ?_
 exact⟨rfl,z⟩
 have C:=(aF e).1
 have Y:=(aF e).2
 have a9:=ag C
 have D:(decide (a=M))=true:=by simpa using Y
 have q56bnp:=of_decide_eq_true D
 refine bi<|sg<|Pl 3<|nt<|rt<|rr (.tuple #[.slice N ((cS dir M).length) O,.int .i64 0])<|?_
 refine cn (ia i C D) ?_
 exact⟨_,rfl,(aS.weaken (aq s (aD j v) (fun x hx=>aA) (fun _ _ h=>h)) f.size),z⟩
theorem kj{m:Md}{cs:Array Value}{M:aO}{w:World}{dir:Int}(h:aH m w cs.toList M)(hf:bR M) : Calls Tryz.prog 103 #[.int .i64 dir,.agg cs] w (dw (bh (ai aM) dz dir M) w):=by
 have hM:=h
 have hlen:=(gC hf dir).2.1
 obtain⟨vw,vb,vd,vr,vo,h0,hw,hbt,hd,hr,ho,hR⟩:=h
 obtain rfl:cs=(bt M vw vb vd vr vo).toArray:=by apply Array.toList_inj.1;simpa using h0
 clear h0
 obtain⟨Aw,kw,rfl,_,_⟩:=hw.shape
 obtain⟨Ab,kb,rfl,_,_⟩:=hbt.shape
 obtain⟨Ad,kd,rfl,_,_⟩:=hd.shape
 obtain⟨Ar,kr,rfl,_,_⟩:=hr.shape
 obtain⟨Ao,ko,rfl,_,_⟩:=ho.shape
 obtain⟨q0,q1,q2,q3,q4,q5,q6,q7,q8,q9,E,F,G,H,I,J,L⟩:=hR
 simp only[B8,dr] at q0 q1 q2 q3 q4 q5 q6 q7 q8 q9 E F G H I J L
 refine en 31 Tryz.func103 rfl<|sg<|L0<|dq (mG M.code M.fail M.addr M.count M.value M.and_ M.or_ M.addr2 M.sub M.status M.events M.messages (.slice Aw M.words.length kw) (.slice Ab M.bits.length kb) (.slice Ad M.data.length kd) (.slice Ar M.recs.length kr) M.mei M.kind M.level M.more M.next (.slice Ao M.objects.length ko)) fun Z a0 a1 k f=>Pl 2<|ng<|Pl 1<|L0<|bM k<|?_
 have l:=aH.old hM f
 refine L0<|Oc<|du (sx (dir:=dir) l hf) fun N O P n a2 a3 o=>Pl 1<|ng<|Pl 2<|?_
 have p:=ub o k
 refine L0<|aN p 0<|Pl 1<|?_
 refine pr (ai aM dir M.code (dz dir M)) fun a g i=>?_
 have q:Calls _ _ _ _ (co _ _ (ai aM dir M.code (dz dir M)) P):=jQ (dir:=dir) (c:=M.code) q0 (n).rd (by omega)
 rw[i] at q
 refine L0<|Oc<|e2 (q) fun Q a4 R r=>?_
 have s:=aq n r (fun x hx=>aA) (fun _ _ h=>h)
 have b:=cF.rdt R (s).rd
 refine Pl 3<|L0<|bH mZ fun a5 a6 S T U=>L0<|b7 (hz:=(by rw[b.size];exact aI)) (hv:=b.size) (h1:=b.one) T (Q) fun a7 V W=>Pl 1<|ng<|L0<|bM (hz:=(by rw[b.size];exact aI)) V<|?_
 have j:=ud U W S
 have t:=aD r j
 refine L0<|bM (ub t p)<|?_
 have u:=aD o t
 refine L0<|Oc<|m1 (dj (A:=a) (B:=M) (aH.upd b j aG) (aH.old l u)) fun a8 v=>Pl 1<|nt<|sq<|sg<|Pl 3<|cu 3 [26] 29 (((g != 0)||(!(decide (a=M))))) (fun K y=>?_) ?_
 refine bl 26 ((g != 0)) (fun d=>?_) (fun d=>?_)
 have X:=ay d
 exact Pl 3<|ce y true (by rw[d];rfl)
 have X:=ag d
 exact Pl 3<|ce y (!(decide (a=M))) (by rw[d];rfl)
 refine nt<|?_
 have z:=aD f (aD u v)
 refine cb (((g != 0)||(!(decide (a=M))))) (fun e=>?_) (fun e=>?_)
 refine sg<|Pl 2<|nt<|rt<|tr<|rr (.tuple #[.slice none 0 0,.int .i64 1])<|?_
 refine cn (iD i e) ?_
 exact⟨rfl,z⟩
 have C:=(aF e).1
 have Y:=(aF e).2
 have a9:=ag C
 have D:(decide (a=M))=true:=by simpa using Y
 have q56bnp:=of_decide_eq_true D
 refine bi<|sg<|Pl 3<|nt<|rt<|rr (.tuple #[.slice N ((dz dir M).length) O,.int .i64 0])<|?_
 refine cn (ia i C D) ?_
 exact⟨_,rfl,(aS.weaken (aq s (aD j v) (fun x hx=>aA) (fun _ _ h=>h)) f.size),z⟩
theorem jU{m:Md}{cs:Array Value}{M:aO}{w:World}{dir:Int}(h:aH m w cs.toList M)(hf:bR M) : Calls Tryz.prog 104 #[.int .i64 dir,.agg cs] w (dw (bh (ai aV) dG dir M) w):=by
 have hM:=h
 have hlen:=(gC hf dir).2.2.1
 obtain⟨vw,vb,vd,vr,vo,h0,hw,hbt,hd,hr,ho,hR⟩:=h
 obtain rfl:cs=(bt M vw vb vd vr vo).toArray:=by apply Array.toList_inj.1;simpa using h0
 clear h0
 obtain⟨Aw,kw,rfl,_,_⟩:=hw.shape
 obtain⟨Ab,kb,rfl,_,_⟩:=hbt.shape
 obtain⟨Ad,kd,rfl,_,_⟩:=hd.shape
 obtain⟨Ar,kr,rfl,_,_⟩:=hr.shape
 obtain⟨Ao,ko,rfl,_,_⟩:=ho.shape
 obtain⟨q0,q1,q2,q3,q4,q5,q6,q7,q8,q9,E,F,G,H,I,J,L⟩:=hR
 simp only[B8,dr] at q0 q1 q2 q3 q4 q5 q6 q7 q8 q9 E F G H I J L
 refine en 31 Tryz.func104 rfl<|sg<|L0<|dq (mG M.code M.fail M.addr M.count M.value M.and_ M.or_ M.addr2 M.sub M.status M.events M.messages (.slice Aw M.words.length kw) (.slice Ab M.bits.length kb) (.slice Ad M.data.length kd) (.slice Ar M.recs.length kr) M.mei M.kind M.level M.more M.next (.slice Ao M.objects.length ko)) fun Z a0 a1 k f=>Pl 2<|ng<|Pl 1<|L0<|bM k<|?_
 have l:=aH.old hM f
 refine L0<|Oc<|du (sD (dir:=dir) l hf) fun N O P n a2 a3 o=>Pl 1<|ng<|Pl 2<|?_
 have p:=ub o k
 refine L0<|aN p 0<|Pl 1<|?_
 refine pr (ai aV dir M.code (dG dir M)) fun a g i=>?_
 have q:Calls _ _ _ _ (co _ _ (ai aV dir M.code (dG dir M)) P):=kp (dir:=dir) (c:=M.code) q0 (n).rd (by omega)
 rw[i] at q
 refine L0<|Oc<|e2 (q) fun Q a4 R r=>?_
 have s:=aq n r (fun x hx=>aA) (fun _ _ h=>h)
 have b:=cF.rdt R (s).rd
 refine Pl 3<|L0<|bH mZ fun a5 a6 S T U=>L0<|b7 (hz:=(by rw[b.size];exact aI)) (hv:=b.size) (h1:=b.one) T (Q) fun a7 V W=>Pl 1<|ng<|L0<|bM (hz:=(by rw[b.size];exact aI)) V<|?_
 have j:=ud U W S
 have t:=aD r j
 refine L0<|bM (ub t p)<|?_
 have u:=aD o t
 refine L0<|Oc<|m1 (dj (A:=a) (B:=M) (aH.upd b j aG) (aH.old l u)) fun a8 v=>Pl 1<|nt<|sq<|sg<|Pl 3<|cu 3 [26] 29 (((g != 0)||(!(decide (a=M))))) (fun K y=>?_) ?_
 refine bl 26 ((g != 0)) (fun d=>?_) (fun d=>?_)
 have X:=ay d
 exact Pl 3<|ce y true (by rw[d];rfl)
 have X:=ag d
 exact Pl 3<|ce y (!(decide (a=M))) (by rw[d];rfl)
 refine nt<|?_
 have z:=aD f (aD u v)
 refine cb (((g != 0)||(!(decide (a=M))))) (fun e=>?_) (fun e=>?_)
 refine sg<|Pl 2<|nt<|rt<|tr<|rr (.tuple #[.slice none 0 0,.int .i64 1])<|?_
 refine cn (iD i e) ?_
 exact⟨rfl,z⟩
 have C:=(aF e).1
 have Y:=(aF e).2
 have a9:=ag C
 have D:(decide (a=M))=true:=by simpa using Y
 have q56bnp:=of_decide_eq_true D
 refine bi<|sg<|Pl 3<|nt<|rt<|rr (.tuple #[.slice N ((dG dir M).length) O,.int .i64 0])<|?_
 refine cn (ia i C D) ?_
 exact⟨_,rfl,(aS.weaken (aq s (aD j v) (fun x hx=>aA) (fun _ _ h=>h)) f.size),z⟩
theorem jp{m:Md}{cs:Array Value}{M:aO}{w:World}{dir:Int}(h:aH m w cs.toList M)(hf:bR M) : Calls Tryz.prog 105 #[.int .i64 dir,.agg cs] w (dw (bh (ai aX) ei dir M) w):=by
 have hM:=h
 have hlen:=(gC hf dir).2.2.2.2
 obtain⟨vw,vb,vd,vr,vo,h0,hw,hbt,hd,hr,ho,hR⟩:=h
 obtain rfl:cs=(bt M vw vb vd vr vo).toArray:=by apply Array.toList_inj.1;simpa using h0
 clear h0
 obtain⟨Aw,kw,rfl,_,_⟩:=hw.shape
 obtain⟨Ab,kb,rfl,_,_⟩:=hbt.shape
 obtain⟨Ad,kd,rfl,_,_⟩:=hd.shape
 obtain⟨Ar,kr,rfl,_,_⟩:=hr.shape
 obtain⟨Ao,ko,rfl,_,_⟩:=ho.shape
 obtain⟨q0,q1,q2,q3,q4,q5,q6,q7,q8,q9,E,F,G,H,I,J,L⟩:=hR
 simp only[B8,dr] at q0 q1 q2 q3 q4 q5 q6 q7 q8 q9 E F G H I J L
 refine en 31 Tryz.func105 rfl<|sg<|L0<|dq (mG M.code M.fail M.addr M.count M.value M.and_ M.or_ M.addr2 M.sub M.status M.events M.messages (.slice Aw M.words.length kw) (.slice Ab M.bits.length kb) (.slice Ad M.data.length kd) (.slice Ar M.recs.length kr) M.mei M.kind M.level M.more M.next (.slice Ao M.objects.length ko)) fun Z a0 a1 k f=>Pl 2<|ng<|Pl 1<|L0<|bM k<|?_
 have l:=aH.old hM f
 refine L0<|Oc<|du (oz (dir:=dir) l hf) fun N O P n a2 a3 o=>Pl 1<|ng<|Pl 2<|?_
 have p:=ub o k
 refine L0<|aN p 0<|Pl 1<|?_
 refine pr (ai aX dir M.code (ei dir M)) fun a g i=>?_
 have q:Calls _ _ _ _ (co _ _ (ai aX dir M.code (ei dir M)) P):=j7 (dir:=dir) (c:=M.code) q0 (n).rd (by omega)
 rw[i] at q
 refine L0<|Oc<|e2 (q) fun Q a4 R r=>?_
 have s:=aq n r (fun x hx=>aA) (fun _ _ h=>h)
 have b:=cF.rdt R (s).rd
 refine Pl 3<|L0<|bH mZ fun a5 a6 S T U=>L0<|b7 (hz:=(by rw[b.size];exact aI)) (hv:=b.size) (h1:=b.one) T (Q) fun a7 V W=>Pl 1<|ng<|L0<|bM (hz:=(by rw[b.size];exact aI)) V<|?_
 have j:=ud U W S
 have t:=aD r j
 refine L0<|bM (ub t p)<|?_
 have u:=aD o t
 refine L0<|Oc<|m1 (dj (A:=a) (B:=M) (aH.upd b j aG) (aH.old l u)) fun a8 v=>Pl 1<|nt<|sq<|sg<|Pl 3<|cu 3 [26] 29 (((g != 0)||(!(decide (a=M))))) (fun K y=>?_) ?_
 refine bl 26 ((g != 0)) (fun d=>?_) (fun d=>?_)
 have X:=ay d
 exact Pl 3<|ce y true (by rw[d];rfl)
 have X:=ag d
 exact Pl 3<|ce y (!(decide (a=M))) (by rw[d];rfl)
 refine nt<|?_
 have z:=aD f (aD u v)
 refine cb (((g != 0)||(!(decide (a=M))))) (fun e=>?_) (fun e=>?_)
 refine sg<|Pl 2<|nt<|rt<|tr<|rr (.tuple #[.slice none 0 0,.int .i64 1])<|?_
 refine cn (iD i e) ?_
 exact⟨rfl,z⟩
 have C:=(aF e).1
 have Y:=(aF e).2
 have a9:=ag C
 have D:(decide (a=M))=true:=by simpa using Y
 have q56bnp:=of_decide_eq_true D
 refine bi<|sg<|Pl 3<|nt<|rt<|rr (.tuple #[.slice N ((ei dir M).length) O,.int .i64 0])<|?_
 refine cn (ia i C D) ?_
 exact⟨_,rfl,(aS.weaken (aq s (aD j v) (fun x hx=>aA) (fun _ _ h=>h)) f.size),z⟩
theorem lx{m:Md}{cs:Array Value}{M:aO}{w:World}{dir:Int}(h:aH m w cs.toList M)(hf:bR M) : Calls Tryz.prog 106 #[.int .i64 dir,.agg cs] w (dw (bh (ai bD) fa dir M) w):=by
 have hM:=h
 have hlen:=(gC hf dir).2.2.2.1
 obtain⟨vw,vb,vd,vr,vo,h0,hw,hbt,hd,hr,ho,hR⟩:=h
 obtain rfl:cs=(bt M vw vb vd vr vo).toArray:=by apply Array.toList_inj.1;simpa using h0
 clear h0
 obtain⟨Aw,kw,rfl,_,_⟩:=hw.shape
 obtain⟨Ab,kb,rfl,_,_⟩:=hbt.shape
 obtain⟨Ad,kd,rfl,_,_⟩:=hd.shape
 obtain⟨Ar,kr,rfl,_,_⟩:=hr.shape
 obtain⟨Ao,ko,rfl,_,_⟩:=ho.shape
 obtain⟨q0,q1,q2,q3,q4,q5,q6,q7,q8,q9,E,F,G,H,I,J,L⟩:=hR
 simp only[B8,dr] at q0 q1 q2 q3 q4 q5 q6 q7 q8 q9 E F G H I J L
 refine en 31 Tryz.func106 rfl<|sg<|L0<|dq (mG M.code M.fail M.addr M.count M.value M.and_ M.or_ M.addr2 M.sub M.status M.events M.messages (.slice Aw M.words.length kw) (.slice Ab M.bits.length kb) (.slice Ad M.data.length kd) (.slice Ar M.recs.length kr) M.mei M.kind M.level M.more M.next (.slice Ao M.objects.length ko)) fun Z a0 a1 k f=>Pl 2<|ng<|Pl 1<|L0<|bM k<|?_
 have l:=aH.old hM f
 refine L0<|Oc<|du (rP (dir:=dir) l hf) fun N O P n a2 a3 o=>Pl 1<|ng<|Pl 2<|?_
 have p:=ub o k
 refine L0<|aN p 0<|Pl 1<|?_
 refine pr (ai bD dir M.code (fa dir M)) fun a g i=>?_
 have q:Calls _ _ _ _ (co _ _ (ai bD dir M.code (fa dir M)) P):=kO (dir:=dir) (c:=M.code) q0 (n).rd (by omega)
 rw[i] at q
 refine L0<|Oc<|e2 (q) fun Q a4 R r=>?_
 have s:=aq n r (fun x hx=>aA) (fun _ _ h=>h)
 have b:=cF.rdt R (s).rd
 refine Pl 3<|L0<|bH mZ fun a5 a6 S T U=>L0<|b7 (hz:=(by rw[b.size];exact aI)) (hv:=b.size) (h1:=b.one) T (Q) fun a7 V W=>Pl 1<|ng<|L0<|bM (hz:=(by rw[b.size];exact aI)) V<|?_
 have j:=ud U W S
 have t:=aD r j
 refine L0<|bM (ub t p)<|?_
 have u:=aD o t
 refine L0<|Oc<|m1 (dj (A:=a) (B:=M) (aH.upd b j aG) (aH.old l u)) fun a8 v=>Pl 1<|nt<|sq<|sg<|Pl 3<|cu 3 [26] 29 (((g != 0)||(!(decide (a=M))))) (fun K y=>?_) ?_
 refine bl 26 ((g != 0)) (fun d=>?_) (fun d=>?_)
 have X:=ay d
 exact Pl 3<|ce y true (by rw[d];rfl)
 have X:=ag d
 exact Pl 3<|ce y (!(decide (a=M))) (by rw[d];rfl)
 refine nt<|?_
 have z:=aD f (aD u v)
 refine cb (((g != 0)||(!(decide (a=M))))) (fun e=>?_) (fun e=>?_)
 refine sg<|Pl 2<|nt<|rt<|tr<|rr (.tuple #[.slice none 0 0,.int .i64 1])<|?_
 refine cn (iD i e) ?_
 exact⟨rfl,z⟩
 have C:=(aF e).1
 have Y:=(aF e).2
 have a9:=ag C
 have D:(decide (a=M))=true:=by simpa using Y
 have q56bnp:=of_decide_eq_true D
 refine bi<|sg<|Pl 3<|nt<|rt<|rr (.tuple #[.slice N ((fa dir M).length) O,.int .i64 0])<|?_
 refine cn (ia i C D) ?_
 exact⟨_,rfl,(aS.weaken (aq s (aD j v) (fun x hx=>aA) (fun _ _ h=>h)) f.size),z⟩
def oP (M:aO) : List Int:=[(M.code+128)%256,M.fail]
def fj (M:aO) : Option (List Int):=if decide (128≤M.code) then none else bh (fun _ _ b=>eb b) (fun _ M=>oP M) 0 M
theorem lu{m:Md}{cs:Array Value}{M:aO}{w:World}(h:aH m w cs.toList M) : Calls Tryz.prog 101 #[.agg cs] w (dw (fj M) w):=by
 have hM:=h
 obtain⟨vw,vb,vd,vr,vo,h0,hw,hbt,hd,hr,ho,hR⟩:=h
 obtain rfl:cs=(bt M vw vb vd vr vo).toArray:=by apply Array.toList_inj.1;simpa using h0
 clear h0
 obtain⟨Aw,kw,rfl,_,_⟩:=hw.shape
 obtain⟨Ab,kb,rfl,_,_⟩:=hbt.shape
 obtain⟨Ad,kd,rfl,_,_⟩:=hd.shape
 obtain⟨Ar,kr,rfl,_,_⟩:=hr.shape
 obtain⟨Ao,ko,rfl,_,_⟩:=ho.shape
 obtain⟨q0,q1,q2,q3,q4,q5,q6,q7,q8,q9,D,E,F,G,H,I,J⟩:=hR
 simp only[B8,dr] at q0 q1 q2 q3 q4 q5 q6 q7 q8 q9 D E F G H I J
 refine en 32 Tryz.func101 rfl<|sg<|L0<|dq (mG M.code M.fail M.addr M.count M.value M.and_ M.or_ M.addr2 M.sub M.status M.events M.messages (.slice Aw M.words.length kw) (.slice Ab M.bits.length kb) (.slice Ad M.data.length kd) (.slice Ar M.recs.length kr) M.mei M.kind M.level M.more M.next (.slice Ao M.objects.length ko)) fun a1 a2 a3 g j=>Pl 2<|nt<|sq<|sg<|Pl 1<|L0<|aN g 0<|Pl 1<|nl<|?_
 refine tn<|cb ((decide (128≤M.code))) (fun a=>?_) (fun a=>?_)
 have L:=of_decide_eq_true a
 refine sg<|Pl 2<|nt<|rt<|tr<|rr (.tuple #[.slice none 0 0,.int .i64 1])<|?_
 refine cn (show fj M=none by unfold fj;rw[a];rfl) ?_
 exact⟨rfl,j⟩
 have L:=of_decide_eq_false a
 refine bi<|sg<|Pl 1<|L0<|aN g 0<|Pl 2<|L0<|aN g 1<|L0<|cL (m:=2) (e:=5) #[.int .u8 ((M.code+128)%256),.int .u8 M.fail] fun N O P Q R=>?_
 have o:=cG P (xs:=[((M.code+128)%256),M.fail]) (by as_aux_lemma=>kernel_rfl) (au (by omega) (au (by omega) aK)) (by(try simp only[List.length_cons,List.length_nil]);omega) Q
 refine Pl 1<|ng<|Pl 1<|?_
 have a4:oP M=[((M.code+128)%256),M.fail]:=rfl
 refine pr (eb (oP M)) fun c k l=>?_
 have p:Calls _ _ _ _ (co _ _ (eb (oP M)) O):=kP (o).rd (show(2:Nat)≤1048576 from by decide)
 rw[l] at p
 refine L0<|Oc<|e2 (p) fun S a5 T q=>?_
 have r:=aq o q (fun x hx=>aA) (fun _ _ h=>h)
 have d:=cF.rdt T (r).rd
 refine Pl 3<|L0<|bH mZ fun a6 a7 U V W=>L0<|b7 (hz:=(by rw[d.size];exact aI)) (hv:=d.size) (h1:=d.one) V (S) fun a8 X Y=>Pl 1<|ng<|L0<|bM (hz:=(by rw[d.size];exact aI)) X<|?_
 have n:=ud W Y U
 have s:=aD R (aD q n)
 refine L0<|bM (ub s g)<|?_
 have t:=aD j s
 refine L0<|Oc<|m1 (dj (A:=c) (B:=M) (aH.upd d n aG) (aH.old hM t)) fun a9 u=>Pl 1<|nt<|sq<|sg<|Pl 3<|cu 3 [27] 30 (((k != 0)||(!(decide (c=M))))) (fun K v=>?_) ?_
 refine bl 27 ((k != 0)) (fun f=>?_) (fun f=>?_)
 have Z:=ay f
 exact Pl 3<|ce v true (by rw[f];rfl)
 have Z:=ag f
 exact Pl 3<|ce v (!(decide (c=M))) (by rw[f];rfl)
 refine nt<|?_
 have y:=aD t u
 refine cb (((k != 0)||(!(decide (c=M))))) (fun i=>?_) (fun i=>?_)
 refine sg<|Pl 2<|nt<|rt<|tr<|rr (.tuple #[.slice none 0 0,.int .i64 1])<|?_
 refine cn (show fj M=bh (fun _ _ b=>eb b) (fun _ M=>oP M) 0 M by unfold fj;rw[a];rfl) ?_
 refine cn (iD l i) ?_
 exact⟨rfl,y⟩
 have z:=(aF i).1
 have a0:=(aF i).2
 have aa:=ag z
 have C:(decide (c=M))=true:=by simpa using a0
 have q53bnp:=of_decide_eq_true C
 refine bi<|sg<|Pl 3<|nt<|rt<|rr (.tuple #[.slice (some ⟨N,0,none⟩) 2 2,.int .i64 0])<|?_
 refine cn (show fj M=bh (fun _ _ b=>eb b) (fun _ M=>oP M) 0 M by unfold fj;rw[a];rfl) ?_
 refine cn (ia l z C) ?_
 exact⟨_,rfl,(aS.weaken (aq r (aD n u) (fun x hx=>aA) (fun _ _ h=>h)) j.size),y⟩
end Go.Proofs.YtogbnemojakcpaaGreat
namespace Go.Proofs.YtogbnemojakcpaaGreat
theorem rN{dir:Int}{M:aO}(hd:dir=0∨dir=1)(hc:M.code=1∨M.code=2∨M.code=5∨M.code=15) : cS dir M=bL dir M:=by
  unfold cS bL
  rcases hd with rfl|rfl<;>rcases hc with h|h|h|h<;>rw[h]<;>rfl
theorem tt{dir:Int}{M:aO}(hd:dir=0∨dir=1)(hc:M.code=3∨M.code=4∨M.code=6∨M.code=16∨M.code=22∨M.code=23∨M.code=24) : dz dir M=bF dir M:=by
  unfold dz bF
  rw[show 2*(M.words.length:Int)+2=2+2*(M.words.length:Int) from by omega]
  rcases hd with rfl|rfl<;>rcases hc with h|h|h|h|h|h|h<;>rw[h]<;>rfl
theorem uS{dir:Int}{M:aO}(hd:dir=0∨dir=1) : dG dir M=bI dir M:=by
  unfold dG bI
  rw[show(M.data.length:Int)+6=6+(M.data.length:Int) from by omega]
  rfl
theorem uf{dir:Int}{M:aO}:fa dir M=cQ dir M:=by
  unfold fa cQ
  split
  · rename_i h
    rw[ah h]
  · rfl
theorem kL(dir c:Int) : ∀ L:List dc,db dir c L=cX dir c L
  | []=>rfl
  | r :: L=>by
    show lg dir c r++db dir c L=jd dir c r++cX dir c L
    rw[kL dir c L]
    unfold lg jd
    rw[show 2*(r.words.length:Int)+1=1+2*(r.words.length:Int) from by omega]
theorem pm{dir:Int}{M:aO}:ei dir M=cV dir M:=by
  rw[jT]
  unfold ei
  rw[kL]
def eo (dir:Int)(M:aO) : Option (List Int) :=
  match bh (ai aE) cS dir M with
  | some l=>some l
  | none=>match bh (ai aM) dz dir M with
    | some l=>some l
    | none=>match bh (ai aV) dG dir M with
      | some l=>some l
      | none=>match bh (ai aX) ei dir M with
        | some l=>some l
        | none=>bh (ai bD) fa dir M
def dm (dir:Int)(M:aO) : Option (List Int) :=
  match fj M with
  | some l=>some l
  | none=>match eo dir M with
    | some l=>some ([M.code]++l)
    | none=>none
theorem zt{form:Int→Int→aj→Option (aj × aO)}{B:Int→aO→List Int}{dir:Int}{M:aO}(hd:dir=0∨dir=1)(hf:∀ C,form dir M.code C=none) : bh (ai form) B dir M=none:=by
  cases h:bh (ai form) B dir M with
  | none=>rfl
  | some l =>
    have h1:=(de h).1
    rw[lG hd (hf _)] at h1
    injection h1 with _ h2
    cases h2
theorem p2{parse:Int→Int→List Int→aO × Int}{B lay:Int→aO→List Int}{dir:Int}{M:aO}{l:List Int}(h:bh parse lay dir M=some l)(he:B dir M=lay dir M) : bh parse B dir M=some l:=by
  unfold bh at h ⊢
  rw[he]
  exact h
theorem jk{dir:Int}{M:aO}{l:List Int}(hc:0≤M.code∧M.code<256)(h:cz dir M=some l) : dir=0∨dir=1:=by
  rcases gw hc h with⟨_,rfl,_⟩|⟨_,hk,_,l',h4,_⟩
  · exact .inr rfl
  · by_cases hd:dir=0∨dir=1
    · exact hd
    · have h5:=(jL h4).2
      exfalso
      have no:∀ form b,ai form dir (([M.code]++l').getD 0 0) b=(M,0)→False:=fun form b hp=>by
        unfold ai at hp
        rw[if_neg hd] at hp
        injection hp with _ h2
        cases h2
      unfold i7 at h5
      split at h5
      · exact no _ _ h5
      · exact no _ _ h5
      · exact no _ _ h5
      · exact no _ _ h5
      · exact no _ _ h5
      · injection h5 with _ h2
        cases h2
theorem qU{dir:Int}{M:aO}{l:List Int}(hc:0≤M.code∧M.code<256)(hf:0≤M.fail∧M.fail<256)(h:cz dir M=some l) : dm dir M=some l:=by
  have hd:=jk hc h
  rcases gw hc h with⟨h1,rfl,h2,h3,h4,rfl,h5⟩|⟨h1,h2,h3,l',h4,h5,rfl⟩
  · have k:fj M=some [M.code+128,M.fail]:=by
      unfold fj
      rw[if_neg (by simp only[decide_eq_true_eq];omega)]
      have hb:oP M=[M.code+128,M.fail]:=by unfold oP;rw[show(M.code+128)%256=M.code+128 from by omega]
      refine eM hb ?_
      have hb:(M.code+128-128)%256=M.code:=by omega
      have i6:decide (M.code+128<128)=false:=by simp;omega
      show eb [M.code+128,M.fail]=(M,0)
      unfold eb
      simp only[List.length_cons,List.length_nil,List.getD_cons_zero,List.getD_cons_succ,hb,i6,h2,h3]
      show(gf M.code M.fail,(0:Int))=(M,0)
      rw[← h4]
    unfold dm
    rw[k]
  · have k:fj M=none:=by
      cases hw:fj M with
      | none=>rfl
      | some l2 =>
        unfold fj at hw
        split at hw
        · cases hw
        · have h6:=(de hw).1
          obtain⟨h7,_,_,h8,_⟩:=qE h6
          have h9:=oc h8
          have a:M.fail=l2.getD 1 0:=by rw[h7];rfl
          rw[← a,h1] at h9
          cases h9
    have no:∀ (form:Int→Int→aj→Option (aj × aO)) (B:Int→aO→List Int),(∀ C,form dir M.code C=none)→bh (ai form) B dir M=none:=fun form B hf=>zt hd hf
    have kc:eo dir M=some l':=by
      unfold eo
      rcases gA M.code with⟨hk,hf⟩|⟨hk,hf⟩|⟨hk,hf⟩|⟨hk,hf⟩|⟨hk,hf⟩|⟨hk,hf⟩<;>rw[hf] at h4
      · have h4:bh (ai aE) bL dir M=some l':=h4
        rw[p2 h4 (rN hd hk)]
      · have h4:bh (ai aM) bF dir M=some l':=h4
        rw[no aE _ (fun C=>by rcases hk with h | h | h | h | h | h | h<;>rw[h]<;>rfl),p2 h4 (tt hd hk)]
      · have h4:bh (ai aV) bI dir M=some l':=h4
        rw[no aE _ (fun C=>by rcases hk with h | h | h | h | h<;>rw[h]<;>rfl),no aM _ (fun C=>by rcases hk with h | h | h | h | h<;>rw[h]<;>rfl),p2 h4 (uS hd)]
      · have h4:bh (ai aX) cV dir M=some l':=h4
        rw[no aE _ (fun C=>by rcases hk with h | h<;>rw[h]<;>rfl),no aM _ (fun C=>by rcases hk with h | h<;>rw[h]<;>rfl),no aV _ (fun C=>by rcases hk with h | h<;>rw[h]<;>rfl),p2 h4 pm]
      · have h4:bh (ai bD) cQ dir M=some l':=h4
        rw[no aE _ (fun C=>by rw[hk]<;>rfl),no aM _ (fun C=>by rw[hk]<;>rfl),no aV _ (fun C=>by rw[hk]<;>rfl),no aX _ (fun C=>by rw[hk]<;>rfl),p2 h4 uf]
      · exact absurd hf h2
    unfold dm
    rw[k,kc]
theorem tM{dir:Int}{b:List Int}{M:aO}(h:cC dir b=(M,0)) : dir=0∨dir=1:=by
  unfold cC at h
  split at h
  · injection h with _ h
    cases h
  · rename_i hh
    simp only[Bool.and_eq_true,bne_iff_ne,ne_eq] at hh
    omega
theorem rR{dir:Int}{M:aO}(hc:0≤M.code∧M.code<256)(hf:0≤M.fail∧M.fail<256)(hk:dm dir M=none) : cz dir M=none:=by
  cases h:cz dir M with
  | none=>rfl
  | some l=>rw[qU hc hf h] at hk;cases hk
theorem gk{dir E:Int}{M X:aO}{b:List Int}(hc:0≤M.code∧M.code<256)(hf:0≤M.fail∧M.fail<256)(hk:dm dir M=some b)(hX:cC dir b=(X,E))(hE:((E != 0)||(!(decide (X=M))))=true) : cz dir M=none:=by
  cases h:cz dir M with
  | none=>rfl
  | some l =>
    rw[qU hc hf h] at hk
    injection hk with hk
    subst hk
    rw[th (jk hc h) hc hf h] at hX
    injection hX with h1 h2
    subst h1 h2
    simp at hE
theorem iw{dir E:Int}{M X:aO}{b:List Int}(hr:∀ x,x∈b→0≤x∧x<256)(hX:cC dir b=(X,E))(hE:(E != 0)=false)(h:decide (X=M)=true) : cz dir M=some b:=by
  have h1:X=M:=by simpa using h
  have h2:E=0:=by simpa using hE
  subst h1 h2
  exact oT (tM hX) hr hX
open Go.RowKit
theorem uT{p:Int→Int→List Int→aO × Int}{B:Int→aO→List Int}{dir:Int}{M:aO}{l:List Int}(h:bh p B dir M=some l)(hB:(B dir M).length≤1048000) : l.length≤1048000:=by
  rw[(de h).2]
  exact hB
theorem td{M:aO}{l:List Int}(h:fj M=some l) : l.length≤1048000:=by
  unfold fj at h
  split at h
  · cases h
  · rw[(de h).2]
    exact(show 2≤1048000 from by decide)
theorem lc{m:Md}{cs:Array Value}{M:aO}{w:World}{dir:Int}(h:aH m w cs.toList M)(hf:bR M) : Calls Tryz.prog 29 #[.int .i64 dir,.agg cs] w (dw (cz dir M) w):=by
 have hM:=h
 obtain⟨dc,dd,de,df,dg⟩:=gC hf dir
 obtain⟨vw,vb,vd,vr,vo,h0,hw,hbt,hd,hr,ho,hR⟩:=h
 obtain rfl:cs=(bt M vw vb vd vr vo).toArray:=by apply Array.toList_inj.1;simpa using h0
 clear h0
 obtain⟨Aw,kw,rfl,_,_⟩:=hw.shape
 obtain⟨Ab,kb,rfl,_,_⟩:=hbt.shape
 obtain⟨Ad,kd,rfl,_,_⟩:=hd.shape
 obtain⟨Ar,kr,rfl,_,_⟩:=hr.shape
 obtain⟨Ao,ko,rfl,_,_⟩:=ho.shape
 obtain⟨q0,q1,q2,q3,q4,q5,q6,q7,q8,q9,dh,di,dk,dl,dn,dp,ds⟩:=hR
 simp only[B8,dr] at q0 q1 q2 q3 q4 q5 q6 q7 q8 q9 dh di dk dl dn dp ds
 refine en 79 Tryz.func29 rfl<|sg<|L0<|dq (mG M.code M.fail M.addr M.count M.value M.and_ M.or_ M.addr2 M.sub M.status M.events M.messages (.slice Aw M.words.length kw) (.slice Ab M.bits.length kb) (.slice Ad M.data.length kd) (.slice Ar M.recs.length kr) M.mei M.kind M.level M.more M.next (.slice Ao M.objects.length ko)) fun fb fc fd Z d=>Pl 2<|ng<|L0<|bM Z<|?_
 rcases a:fj M with _|r
 have a0:=aH.old hM d
 have b4:=lu a0
 rw[a] at b4
 refine L0<|Oc<|m1 b4 fun fe g=>Pl 5<|nt<|sq<|sg<|Pl 2<|nt<|c1<|sg<|Pl 1<|?_
 have a1:=ub g Z
 refine L0<|bM a1<|?_
 have b5:=aD d g
 rcases b:bh (ai aE) cS dir M with _|k
 have a2:=aH.old a0 g
 have b6:=jl (dir:=dir) a2 hf
 rw[b] at b6
 refine L0<|Oc<|m1 b6 fun ff i=>Pl 5<|nt<|sq<|sg<|Pl 2<|nt<|c1<|go<|Pl 1<|?_
 have a3:=ub i a1
 refine L0<|bM a3<|?_
 have b8:=aD b5 i
 rcases c:bh (ai aM) dz dir M with _|l
 have a4:=aH.old a2 i
 have ba:=kj (dir:=dir) a4 hf
 rw[c] at ba
 refine L0<|Oc<|m1 ba fun fg n=>Pl 5<|nt<|sq<|sg<|Pl 2<|nt<|c1<|go<|Pl 1<|?_
 have a5:=ub n a3
 refine L0<|bM a5<|?_
 have bb:=aD b8 n
 rcases f:bh (ai aV) dG dir M with _|o
 have a6:=aH.old a4 n
 have bc:=jU (dir:=dir) a6 hf
 rw[f] at bc
 refine L0<|Oc<|m1 bc fun fh s=>Pl 5<|nt<|sq<|sg<|Pl 2<|nt<|c1<|go<|Pl 1<|?_
 have a7:=ub s a5
 refine L0<|bM a7<|?_
 have bd:=aD bb s
 rcases j:bh (ai aX) ei dir M with _|p
 have a8:=aH.old a6 s
 have be:=jp (dir:=dir) a8 hf
 rw[j] at be
 refine L0<|Oc<|m1 be fun fi u=>Pl 5<|nt<|sq<|sg<|Pl 2<|nt<|c1<|go<|Pl 1<|?_
 have a9:=ub u a7
 refine L0<|bM a9<|?_
 have bf:=aD bd u
 rcases t:bh (ai bD) fa dir M with _|q
 have bg:=lx (dir:=dir) (aH.old a8 u) hf
 rw[t] at bg
 refine L0<|Oc<|m1 bg fun fk bj=>Pl 5<|nt<|go<|Pl 1<|?_
 refine L0<|aN (ub bj a9) 0<|L0<|cL (m:=1) (e:=5) #[.int .u8 M.code] fun fl fm dt dv bk=>?_
 have bm:=cG dt (xs:=[M.code]) (by as_aux_lemma=>kernel_rfl) (au (by omega) aK) (by(try simp only[List.length_cons,List.length_nil]);omega) dv
 refine Pl 1<|L0<|bS aZ (xs:=([M.code])) (ys:=([])) (.int .u8 0) 1 bm (aL.nil true 5 _ _ _) (by(try simp only[List.length_append,List.length_cons,List.length_nil,az]);omega) bk.size fun fn fo fp fq dx=>Pl 1<|nt<|sq<|sg<|Pl 2<|nt<|c1<|sg<|?_
 refine Pl 2<|nt<|rt<|tr<|rr (.tuple #[.slice none 0 0,.int .i64 1])<|?_
 have hk:dm dir M=none:=by unfold dm eo;simp only[a,b,c,f,j,t]
 refine cn (rR q0 q1 hk) ?_
 exact⟨rfl,(aD bf (aD bj (ut bk dx (av (aP bm lr) ax))))⟩
 have bn:=aH.old a8 u
 have bo:=lx (dir:=dir) bn hf
 rw[t] at bo
 refine L0<|Oc<|du bo fun fr fs ft dy fu fv aa=>?_
 have fw:q.length≤1048000:=uT t df
 refine Pl 5<|nt<|go<|Pl 1<|?_
 have bp:=ub aa a9
 refine L0<|aN bp 0<|L0<|cL (m:=1) (e:=5) #[.int .u8 M.code] fun fx fy dA dB ab=>?_
 have bq:=cG dA (xs:=[M.code]) (by as_aux_lemma=>kernel_rfl) (au (by omega) aK) (by(try simp only[List.length_cons,List.length_nil]);omega) dB
 refine Pl 1<|?_
 refine L0<|bS aZ (xs:=([M.code])) (ys:=q) (.int .u8 0) 1 bq ((aq dy ab (fun x hx=>aA) (fun _ _ h=>h))).rd (by(try simp only[List.length_append,List.length_cons,List.length_nil,az]);omega) ab.size fun dC dD dE br dF=>Pl 1<|nt<|sq<|sg<|Pl 2<|nt<|c0<|bi<|sq<|?_
 refine go<|Pl 2<|?_
 refine pr (cC dir ([M.code]++q)) fun v ac ad=>?_
 have bs:Calls _ _ _ _ (co _ _ (cC dir ([M.code]++q)) dE):=ex (dir:=dir) (br).rd (by(try simp only[List.length_append,List.length_cons,List.length_nil]);omega)
 rw[ad] at bs
 refine L0<|Oc<|e2 (bs) fun dH fz dI bu=>?_
 have bv:=aq br bu (fun x hx=>aA) (fun _ _ h=>h)
 have y:=cF.rdt dI (bv).rd
 refine Pl 3<|L0<|bH mZ fun fA fB dJ dK dL=>L0<|b7 (hz:=(by rw[y.size];exact aI)) (hv:=y.size) (h1:=y.one) dK (dH) fun fC dM dN=>Pl 1<|ng<|L0<|bM (hz:=(by rw[y.size];exact aI)) dM<|?_
 have ae:=ud dL dN dJ
 have bw:=ut ab (aD dF (aD bu ae)) (av (aP bq lr) ax)
 refine L0<|bM (ub bw bp)<|?_
 have bx:=aD aa bw
 refine L0<|Oc<|m1 (dj (A:=v) (B:=M) (aH.upd y ae aG) (aH.old bn bx)) fun fD bz=>Pl 1<|nt<|sq<|sg<|Pl 3<|cu 3 [74] 77 (((ac != 0)||(!(decide (v=M))))) (fun K bA=>?_) ?_
 refine bl 74 ((ac != 0)) (fun z=>?_) (fun z=>?_)
 have dO:=ay z
 exact Pl 3<|ce bA true (by rw[z];rfl)
 have dO:=ag z
 exact Pl 3<|ce bA (!(decide (v=M))) (by rw[z];rfl)
 refine nt<|?_
 have bB:=aD bf (aD bx bz)
 refine cb (((ac != 0)||(!(decide (v=M))))) (fun T=>?_) (fun T=>?_)
 refine sg<|Pl 2<|nt<|rt<|tr<|rr (.tuple #[.slice none 0 0,.int .i64 1])<|?_
 have hk:dm dir M=some ([M.code]++q):=by unfold dm eo;simp only[a,b,c,f,j,t]
 refine cn (gk q0 q1 hk ad T) ?_
 exact⟨rfl,bB⟩
 have bC:=(aF T).1
 have dP:=(aF T).2
 have fE:=ag bC
 have bE:(decide (v=M))=true:=by simpa using dP
 have q120bnp:=of_decide_eq_true bE
 refine bi<|sg<|Pl 3<|nt<|rt<|rr (.tuple #[.slice dC (([M.code]++q).length) dD,.int .i64 0])<|?_
 have hk:dm dir M=some ([M.code]++q):=by unfold dm eo;simp only[a,b,c,f,j,t]
 have bF:=aq bv (aD ae bz) (fun x hx=>aA) (fun _ _ h=>h)
 refine cn (iw (b9.range (bF).rd) ad bC bE) ?_
 exact⟨_,rfl,(aS.weaken bF (le (le (le (le (le (le d.size g.size) i.size) n.size) s.size) u.size) aa.size)),bB⟩
 have bG:=aH.old a6 s
 have bI:=jp (dir:=dir) bG hf
 rw[j] at bI
 refine L0<|Oc<|du bI fun fF fG fH dQ fI fJ af=>?_
 have fK:p.length≤1048000:=uT j dg
 refine Pl 5<|nt<|sq<|sg<|Pl 2<|nt<|c0<|bi<|go<|Pl 1<|?_
 have bJ:=ub af a7
 refine L0<|aN bJ 0<|L0<|cL (m:=1) (e:=5) #[.int .u8 M.code] fun fL fM dR dS ah=>?_
 have bK:=cG dR (xs:=[M.code]) (by as_aux_lemma=>kernel_rfl) (au (by omega) aK) (by(try simp only[List.length_cons,List.length_nil]);omega) dS
 refine Pl 1<|?_
 refine L0<|bS aZ (xs:=([M.code])) (ys:=p) (.int .u8 0) 1 bK ((aq dQ ah (fun x hx=>aA) (fun _ _ h=>h))).rd (by(try simp only[List.length_append,List.length_cons,List.length_nil,az]);omega) ah.size fun dT dU dV bL dW=>Pl 1<|nt<|sq<|sg<|Pl 2<|nt<|c0<|bi<|sq<|?_
 refine go<|Pl 2<|?_
 refine pr (cC dir ([M.code]++p)) fun C aj ak=>?_
 have bN:Calls _ _ _ _ (co _ _ (cC dir ([M.code]++p)) dV):=ex (dir:=dir) (bL).rd (by(try simp only[List.length_append,List.length_cons,List.length_nil]);omega)
 rw[ak] at bN
 refine L0<|Oc<|e2 (bN) fun dX fN dY bO=>?_
 have bP:=aq bL bO (fun x hx=>aA) (fun _ _ h=>h)
 have D:=cF.rdt dY (bP).rd
 refine Pl 3<|L0<|bH mZ fun fO fP dZ e0 e1=>L0<|b7 (hz:=(by rw[D.size];exact aI)) (hv:=D.size) (h1:=D.one) e0 (dX) fun fQ e3 e4=>Pl 1<|ng<|L0<|bM (hz:=(by rw[D.size];exact aI)) e3<|?_
 have al:=ud e1 e4 dZ
 have bQ:=ut ah (aD dW (aD bO al)) (av (aP bK lr) ax)
 refine L0<|bM (ub bQ bJ)<|?_
 have bT:=aD af bQ
 refine L0<|Oc<|m1 (dj (A:=C) (B:=M) (aH.upd D al aG) (aH.old bG bT)) fun fR bU=>Pl 1<|nt<|sq<|sg<|Pl 3<|cu 3 [74] 77 (((aj != 0)||(!(decide (C=M))))) (fun K bV=>?_) ?_
 refine bl 74 ((aj != 0)) (fun E=>?_) (fun E=>?_)
 have e5:=ay E
 exact Pl 3<|ce bV true (by rw[E];rfl)
 have e5:=ag E
 exact Pl 3<|ce bV (!(decide (C=M))) (by rw[E];rfl)
 refine nt<|?_
 have bW:=aD bd (aD bT bU)
 refine cb (((aj != 0)||(!(decide (C=M))))) (fun U=>?_) (fun U=>?_)
 refine sg<|Pl 2<|nt<|rt<|tr<|rr (.tuple #[.slice none 0 0,.int .i64 1])<|?_
 have hk:dm dir M=some ([M.code]++p):=by unfold dm eo;simp only[a,b,c,f,j]
 refine cn (gk q0 q1 hk ak U) ?_
 exact⟨rfl,bW⟩
 have bX:=(aF U).1
 have e6:=(aF U).2
 have fS:=ag bX
 have bY:(decide (C=M))=true:=by simpa using e6
 have q179bnp:=of_decide_eq_true bY
 refine bi<|sg<|Pl 3<|nt<|rt<|rr (.tuple #[.slice dT (([M.code]++p).length) dU,.int .i64 0])<|?_
 have hk:dm dir M=some ([M.code]++p):=by unfold dm eo;simp only[a,b,c,f,j]
 have bZ:=aq bP (aD al bU) (fun x hx=>aA) (fun _ _ h=>h)
 refine cn (iw (b9.range (bZ).rd) ak bX bY) ?_
 exact⟨_,rfl,(aS.weaken bZ (le (le (le (le (le d.size g.size) i.size) n.size) s.size) af.size)),bW⟩
 have c2:=aH.old a4 n
 have c3:=jU (dir:=dir) c2 hf
 rw[f] at c3
 refine L0<|Oc<|du c3 fun fT fU fV e7 fW fX am=>?_
 have fY:o.length≤1048000:=uT f de
 refine Pl 5<|nt<|sq<|sg<|Pl 2<|nt<|c0<|bi<|sq<|sq<|?_
 refine go<|Pl 2<|nt<|c0<|bi<|go<|Pl 1<|?_
 have c4:=ub am a5
 refine L0<|aN c4 0<|L0<|cL (m:=1) (e:=5) #[.int .u8 M.code] fun fZ g0 e8 e9 an=>?_
 have c5:=cG e8 (xs:=[M.code]) (by as_aux_lemma=>kernel_rfl) (au (by omega) aK) (by(try simp only[List.length_cons,List.length_nil]);omega) e9
 refine Pl 1<|?_
 refine L0<|bS aZ (xs:=([M.code])) (ys:=o) (.int .u8 0) 1 c5 ((aq e7 an (fun x hx=>aA) (fun _ _ h=>h))).rd (by(try simp only[List.length_append,List.length_cons,List.length_nil,az]);omega) an.size fun ea eb ec c6 ed=>Pl 1<|nt<|sq<|sg<|Pl 2<|nt<|c0<|bi<|sq<|?_
 refine go<|Pl 2<|?_
 refine pr (cC dir ([M.code]++o)) fun F ao ap=>?_
 have c7:Calls _ _ _ _ (co _ _ (cC dir ([M.code]++o)) ec):=ex (dir:=dir) (c6).rd (by(try simp only[List.length_append,List.length_cons,List.length_nil]);omega)
 rw[ap] at c7
 refine L0<|Oc<|e2 (c7) fun ee g1 ef c8=>?_
 have c9:=aq c6 c8 (fun x hx=>aA) (fun _ _ h=>h)
 have G:=cF.rdt ef (c9).rd
 refine Pl 3<|L0<|bH mZ fun g2 g3 eg eh ej=>L0<|b7 (hz:=(by rw[G.size];exact aI)) (hv:=G.size) (h1:=G.one) eh (ee) fun g4 ek el=>Pl 1<|ng<|L0<|bM (hz:=(by rw[G.size];exact aI)) ek<|?_
 have ar:=ud ej el eg
 have ca:=ut an (aD ed (aD c8 ar)) (av (aP c5 lr) ax)
 refine L0<|bM (ub ca c4)<|?_
 have cc:=aD am ca
 refine L0<|Oc<|m1 (dj (A:=F) (B:=M) (aH.upd G ar aG) (aH.old c2 cc)) fun g5 cd=>Pl 1<|nt<|sq<|sg<|Pl 3<|cu 3 [74] 77 (((ao != 0)||(!(decide (F=M))))) (fun K cf=>?_) ?_
 refine bl 74 ((ao != 0)) (fun H=>?_) (fun H=>?_)
 have em:=ay H
 exact Pl 3<|ce cf true (by rw[H];rfl)
 have em:=ag H
 exact Pl 3<|ce cf (!(decide (F=M))) (by rw[H];rfl)
 refine nt<|?_
 have cg:=aD bb (aD cc cd)
 refine cb (((ao != 0)||(!(decide (F=M))))) (fun V=>?_) (fun V=>?_)
 refine sg<|Pl 2<|nt<|rt<|tr<|rr (.tuple #[.slice none 0 0,.int .i64 1])<|?_
 have hk:dm dir M=some ([M.code]++o):=by unfold dm eo;simp only[a,b,c,f]
 refine cn (gk q0 q1 hk ap V) ?_
 exact⟨rfl,cg⟩
 have ch:=(aF V).1
 have ep:=(aF V).2
 have g6:=ag ch
 have ci:(decide (F=M))=true:=by simpa using ep
 have q238bnp:=of_decide_eq_true ci
 refine bi<|sg<|Pl 3<|nt<|rt<|rr (.tuple #[.slice ea (([M.code]++o).length) eb,.int .i64 0])<|?_
 have hk:dm dir M=some ([M.code]++o):=by unfold dm eo;simp only[a,b,c,f]
 have cj:=aq c9 (aD ar cd) (fun x hx=>aA) (fun _ _ h=>h)
 refine cn (iw (b9.range (cj).rd) ap ch ci) ?_
 exact⟨_,rfl,(aS.weaken cj (le (le (le (le d.size g.size) i.size) n.size) am.size)),cg⟩
 have ck:=aH.old a2 i
 have cl:=kj (dir:=dir) ck hf
 rw[c] at cl
 refine L0<|Oc<|du cl fun g7 g8 g9 eq ga gb aw=>?_
 have gc:l.length≤1048000:=uT c dd
 refine Pl 5<|nt<|sq<|sg<|Pl 2<|nt<|c0<|bi<|sq<|sq<|?_
 refine go<|Pl 2<|nt<|c0<|bi<|sq<|sg<|Pl 2<|nt<|c0<|?_
 refine bi<|go<|Pl 1<|?_
 have cm:=ub aw a3
 refine L0<|aN cm 0<|L0<|cL (m:=1) (e:=5) #[.int .u8 M.code] fun gd ge er es aB=>?_
 have cp:=cG er (xs:=[M.code]) (by as_aux_lemma=>kernel_rfl) (au (by omega) aK) (by(try simp only[List.length_cons,List.length_nil]);omega) es
 refine Pl 1<|?_
 refine L0<|bS aZ (xs:=([M.code])) (ys:=l) (.int .u8 0) 1 cp ((aq eq aB (fun x hx=>aA) (fun _ _ h=>h))).rd (by(try simp only[List.length_append,List.length_cons,List.length_nil,az]);omega) aB.size fun et eu ev cq ew=>Pl 1<|nt<|sq<|sg<|Pl 2<|nt<|c0<|bi<|sq<|?_
 refine go<|Pl 2<|?_
 refine pr (cC dir ([M.code]++l)) fun I aC aJ=>?_
 have cr:Calls _ _ _ _ (co _ _ (cC dir ([M.code]++l)) ev):=ex (dir:=dir) (cq).rd (by(try simp only[List.length_append,List.length_cons,List.length_nil]);omega)
 rw[aJ] at cr
 refine L0<|Oc<|e2 (cr) fun ey gf ez ct=>?_
 have cv:=aq cq ct (fun x hx=>aA) (fun _ _ h=>h)
 have J:=cF.rdt ez (cv).rd
 refine Pl 3<|L0<|bH mZ fun gg gh eA eB eC=>L0<|b7 (hz:=(by rw[J.size];exact aI)) (hv:=J.size) (h1:=J.one) eB (ey) fun gi eD eE=>Pl 1<|ng<|L0<|bM (hz:=(by rw[J.size];exact aI)) eD<|?_
 have aQ:=ud eC eE eA
 have cw:=ut aB (aD ew (aD ct aQ)) (av (aP cp lr) ax)
 refine L0<|bM (ub cw cm)<|?_
 have cx:=aD aw cw
 refine L0<|Oc<|m1 (dj (A:=I) (B:=M) (aH.upd J aQ aG) (aH.old ck cx)) fun gj cy=>Pl 1<|nt<|sq<|sg<|Pl 3<|cu 3 [74] 77 (((aC != 0)||(!(decide (I=M))))) (fun K cA=>?_) ?_
 refine bl 74 ((aC != 0)) (fun L=>?_) (fun L=>?_)
 have eF:=ay L
 exact Pl 3<|ce cA true (by rw[L];rfl)
 have eF:=ag L
 exact Pl 3<|ce cA (!(decide (I=M))) (by rw[L];rfl)
 refine nt<|?_
 have cB:=aD b8 (aD cx cy)
 refine cb (((aC != 0)||(!(decide (I=M))))) (fun W=>?_) (fun W=>?_)
 refine sg<|Pl 2<|nt<|rt<|tr<|rr (.tuple #[.slice none 0 0,.int .i64 1])<|?_
 have hk:dm dir M=some ([M.code]++l):=by unfold dm eo;simp only[a,b,c]
 refine cn (gk q0 q1 hk aJ W) ?_
 exact⟨rfl,cB⟩
 have cD:=(aF W).1
 have eG:=(aF W).2
 have gl:=ag cD
 have cE:(decide (I=M))=true:=by simpa using eG
 have q297bnp:=of_decide_eq_true cE
 refine bi<|sg<|Pl 3<|nt<|rt<|rr (.tuple #[.slice et (([M.code]++l).length) eu,.int .i64 0])<|?_
 have hk:dm dir M=some ([M.code]++l):=by unfold dm eo;simp only[a,b,c]
 have cH:=aq cv (aD aQ cy) (fun x hx=>aA) (fun _ _ h=>h)
 refine cn (iw (b9.range (cH).rd) aJ cD cE) ?_
 exact⟨_,rfl,(aS.weaken cH (le (le (le d.size g.size) i.size) aw.size)),cB⟩
 have cI:=aH.old a0 g
 have cJ:=jl (dir:=dir) cI hf
 rw[b] at cJ
 refine L0<|Oc<|du cJ fun gm gn gp eH gq gr aR=>?_
 have gs:k.length≤1048000:=uT b dc
 refine Pl 5<|nt<|sq<|sg<|Pl 2<|nt<|c0<|bi<|sq<|sq<|?_
 refine go<|Pl 2<|nt<|c0<|bi<|sq<|sg<|Pl 2<|nt<|c0<|?_
 refine bi<|sq<|sg<|Pl 2<|nt<|c0<|bi<|go<|Pl 1<|?_
 have cK:=ub aR a1
 refine L0<|aN cK 0<|L0<|cL (m:=1) (e:=5) #[.int .u8 M.code] fun gt gu eI eJ aT=>?_
 have cM:=cG eI (xs:=[M.code]) (by as_aux_lemma=>kernel_rfl) (au (by omega) aK) (by(try simp only[List.length_cons,List.length_nil]);omega) eJ
 refine Pl 1<|?_
 refine L0<|bS aZ (xs:=([M.code])) (ys:=k) (.int .u8 0) 1 cM ((aq eH aT (fun x hx=>aA) (fun _ _ h=>h))).rd (by(try simp only[List.length_append,List.length_cons,List.length_nil,az]);omega) aT.size fun eK eL eM cN eN=>Pl 1<|nt<|sq<|sg<|Pl 2<|nt<|c0<|bi<|sq<|?_
 refine go<|Pl 2<|?_
 refine pr (cC dir ([M.code]++k)) fun N aU aW=>?_
 have cO:Calls _ _ _ _ (co _ _ (cC dir ([M.code]++k)) eM):=ex (dir:=dir) (cN).rd (by(try simp only[List.length_append,List.length_cons,List.length_nil]);omega)
 rw[aW] at cO
 refine L0<|Oc<|e2 (cO) fun eO gv eP cP=>?_
 have cQ:=aq cN cP (fun x hx=>aA) (fun _ _ h=>h)
 have O:=cF.rdt eP (cQ).rd
 refine Pl 3<|L0<|bH mZ fun gw gx eQ eR eS=>L0<|b7 (hz:=(by rw[O.size];exact aI)) (hv:=O.size) (h1:=O.one) eR (eO) fun gy eT eU=>Pl 1<|ng<|L0<|bM (hz:=(by rw[O.size];exact aI)) eT<|?_
 have aY:=ud eS eU eQ
 have cR:=ut aT (aD eN (aD cP aY)) (av (aP cM lr) ax)
 refine L0<|bM (ub cR cK)<|?_
 have cT:=aD aR cR
 refine L0<|Oc<|m1 (dj (A:=N) (B:=M) (aH.upd O aY aG) (aH.old cI cT)) fun gz cU=>Pl 1<|nt<|sq<|sg<|Pl 3<|cu 3 [74] 77 (((aU != 0)||(!(decide (N=M))))) (fun K cV=>?_) ?_
 refine bl 74 ((aU != 0)) (fun P=>?_) (fun P=>?_)
 have eV:=ay P
 exact Pl 3<|ce cV true (by rw[P];rfl)
 have eV:=ag P
 exact Pl 3<|ce cV (!(decide (N=M))) (by rw[P];rfl)
 refine nt<|?_
 have cW:=aD b5 (aD cT cU)
 refine cb (((aU != 0)||(!(decide (N=M))))) (fun X=>?_) (fun X=>?_)
 refine sg<|Pl 2<|nt<|rt<|tr<|rr (.tuple #[.slice none 0 0,.int .i64 1])<|?_
 have hk:dm dir M=some ([M.code]++k):=by unfold dm eo;simp only[a,b]
 refine cn (gk q0 q1 hk aW X) ?_
 exact⟨rfl,cW⟩
 have cX:=(aF X).1
 have eW:=(aF X).2
 have gA:=ag cX
 have cY:(decide (N=M))=true:=by simpa using eW
 have q356bnp:=of_decide_eq_true cY
 refine bi<|sg<|Pl 3<|nt<|rt<|rr (.tuple #[.slice eK (([M.code]++k).length) eL,.int .i64 0])<|?_
 have hk:dm dir M=some ([M.code]++k):=by unfold dm eo;simp only[a,b]
 have cZ:=aq cQ (aD aY cU) (fun x hx=>aA) (fun _ _ h=>h)
 refine cn (iw (b9.range (cZ).rd) aW cX cY) ?_
 exact⟨_,rfl,(aS.weaken cZ (le (le d.size g.size) aR.size)),cW⟩
 have d0:=aH.old hM d
 have d1:=lu d0
 rw[a] at d1
 refine L0<|Oc<|du d1 fun eX eY eZ d2 gB gD f0=>?_
 have gE:r.length≤1048000:=td a
 refine Pl 5<|nt<|sq<|sg<|Pl 2<|nt<|c0<|bi<|sq<|sq<|?_
 refine go<|Pl 2<|nt<|c0<|bi<|sg<|Pl 2<|?_
 refine pr (cC dir r) fun Q b0 b1=>?_
 have d3:Calls _ _ _ _ (co _ _ (cC dir r) eZ):=ex (dir:=dir) (d2).rd (by(try simp only[List.length_append,List.length_cons,List.length_nil]);omega)
 rw[b1] at d3
 refine L0<|Oc<|e2 (d3) fun f1 gF f2 d4=>?_
 have d5:=aq d2 d4 (fun x hx=>aA) (fun _ _ h=>h)
 have R:=cF.rdt f2 (d5).rd
 refine Pl 3<|L0<|bH mZ fun gG gH f3 f4 f5=>L0<|b7 (hz:=(by rw[R.size];exact aI)) (hv:=R.size) (h1:=R.one) f4 (f1) fun gI f6 f7=>Pl 1<|ng<|L0<|bM (hz:=(by rw[R.size];exact aI)) f6<|?_
 have b2:=ud f5 f7 f3
 have b3:=aD f0 (aD d4 b2)
 refine L0<|bM (ub b3 Z)<|?_
 refine L0<|Oc<|m1 (dj (A:=Q) (B:=M) (aH.upd R b2 aG) (aH.old d0 b3)) fun gJ d6=>Pl 1<|nt<|sq<|sg<|Pl 3<|cu 3 [74] 77 (((b0 != 0)||(!(decide (Q=M))))) (fun K d7=>?_) ?_
 refine bl 74 ((b0 != 0)) (fun S=>?_) (fun S=>?_)
 have f8:=ay S
 exact Pl 3<|ce d7 true (by rw[S];rfl)
 have f8:=ag S
 exact Pl 3<|ce d7 (!(decide (Q=M))) (by rw[S];rfl)
 refine nt<|?_
 have d8:=aD d (aD b3 d6)
 refine cb (((b0 != 0)||(!(decide (Q=M))))) (fun Y=>?_) (fun Y=>?_)
 refine sg<|Pl 2<|nt<|rt<|tr<|rr (.tuple #[.slice none 0 0,.int .i64 1])<|?_
 have hk:dm dir M=some r:=by unfold dm eo;simp only[a]
 refine cn (gk q0 q1 hk b1 Y) ?_
 exact⟨rfl,d8⟩
 have d9:=(aF Y).1
 have f9:=(aF Y).2
 have gK:=ag d9
 have da:(decide (Q=M))=true:=by simpa using f9
 have q400bnp:=of_decide_eq_true da
 refine bi<|sg<|Pl 3<|nt<|rt<|rr (.tuple #[.slice eX r.length eY,.int .i64 0])<|?_
 have hk:dm dir M=some r:=by unfold dm eo;simp only[a]
 have db:=aq d5 (aD b2 d6) (fun x hx=>aA) (fun _ _ h=>h)
 refine cn (iw (b9.range (db).rd) b1 d9 da) ?_
 exact⟨_,rfl,(aS.weaken db d.size),d8⟩
open Go.RowKit
theorem ny{m:Md}{cs:Array Value}{M:aO}{w:World}{dir:Int}(hX:cz dir M=none)(h:aH m w cs.toList M)(hf:bR M) : Calls Tryz.prog 29 #[.int .i64 dir,.agg cs] w (fun e w'=>e = .returned (.tuple #[.slice none 0 0,.int .i64 1])∧aC [] w w'):=by
  have:=lc (dir:=dir) h hf
  rw[hX] at this
  exact this
theorem nu{m:Md}{cs:Array Value}{M:aO}{w:World}{dir:Int}{l:List Int}(hX:cz dir M=some l)(h:aH m w cs.toList M)(hf:bR M) : Calls Tryz.prog 29 #[.int .i64 dir,.agg cs] w (fun e w'=>∃ v,e = .returned (.tuple #[v,.int .i64 0])∧eG w.heap.size w' v l∧aC [] w w'):=by
  have:=lc (dir:=dir) h hf
  rw[hX] at this
  exact this
theorem xX{P:List Int→ig × Int}{r:Option (List Int)}{b:List Int}{F:ig}{E u t:Int}{M:aO}(hs:∀ l,r=some l→l=b)(hrt:∀ l,r=some l→P l=(⟨u,t,M⟩,0))(hX:P b=(F,E))(hE:(((E != 0)||(!(decide (F.msg=M))))||(!((F.unit==u)&&(F.tid==t))))=true) : r=none:=by
  cases h:r with
  | none=>rfl
  | some l =>
    have h1:=hrt l h
    rw[hs l h,hX] at h1
    injection h1 with h1 h2
    subst h1 h2
    simp at hE
theorem yA{F:ig}{E u t:Int}{M:aO}(hE:(((E != 0)||(!(decide (F.msg=M))))||(!((F.unit==u)&&(F.tid==t))))=false) : E=0∧F=⟨u,t,M⟩:=by
  obtain⟨u',t',M'⟩:=F
  simp only[Bool.or_eq_false_iff,Bool.not_eq_false',Bool.and_eq_true,beq_iff_eq,bne_eq_false_iff_eq,decide_eq_true_eq] at hE
  obtain⟨⟨h1,h2⟩,h3,h4⟩:=hE
  have h2:M'=M:=h2
  have h3:u'=u:=h3
  have h4:t'=t:=h4
  subst h2 h3 h4
  exact⟨h1,rfl⟩
theorem qy{x y:Option (List Int)}(h:x=y){w:World}{e:Ending}{w':World}(k:dw y w e w') : dw x w e w':=by rw[h];exact k
open Go.RowKit
theorem xJ{m:Md}{A:Option Addr}{cp:Nat}{b:List Int}{w:World}(hsl:b9 m w (.slice A b.length cp) b)(hb:b.length≤1048576) : Calls Tryz.prog 181 #[.slice A b.length cp] w (fO (b++bW (bU 65535 b)) w):=by
 refine en 17 Tryz.func181 rfl<|sg<|Pl 1<|ng<|Pl 1<|L0<|Oc<|m1 (wO (b:=b) hsl) fun y a=>?_
 have z:=gD b (s:=65535) (by decide) (b9.range hsl)
 refine Pl 1<|ng<|L0<|cL (m:=0) (e:=5) #[] fun l B n dr c=>?_
 have f:=cG n (xs:=[]) (by as_aux_lemma=>kernel_rfl) aK (by(try simp only[List.length_cons,List.length_nil]);omega) dr
 refine Pl 1<|?_
 have g:=aD a c
 refine L0<|bS aZ (xs:=([])) (ys:=b) (.int .u8 0) 1 f (b9.old hsl g) (by(try simp only[List.length_append,List.length_cons,List.length_nil,az]);omega) c.size fun i C D j k=>Pl 1<|L0<|Oe (.int .u16 (Int.tmod (bU 65535 b) 256)) (.int .u16 ((bU 65535 b)%256)) (congrArg (Value.int .u16) (Int.tmod_eq_emod_of_nonneg (by omega)))<|Pl 2<|L0<|Oe (.int .u16 (IntKind.u16.wrap (Int.tdiv (bU 65535 b) 256))) (.int .u16 ((bU 65535 b)/256)) (congrArg (Value.int .u16) (kF (by omega) (by omega)))<|Pl 1<|L0<|cL (m:=2) (e:=5) #[.int .u8 (((bU 65535 b)%256)%256),.int .u8 (((bU 65535 b)/256)%256)] fun E F o p d=>?_
 have q:=cG o (xs:=[(((bU 65535 b)%256)%256),(((bU 65535 b)/256)%256)]) (by as_aux_lemma=>kernel_rfl) (au (by omega) (au (by omega) aK)) (by(try simp only[List.length_cons,List.length_nil]);omega) p
 refine L0<|bS aZ (xs:=([]++b)) (ys:=([(((bU 65535 b)%256)%256),(((bU 65535 b)/256)%256)])) (.int .u8 0) 1 (aq j d (fun x hx=>aA) (fun _ _ h=>h)) (q).rd (by(try simp only[List.length_append,List.length_cons,List.length_nil,az]);omega) (le (le c.size k.size) d.size) fun r t G u v=>Pl 1<|nt<|rt<|rr (.slice r ((([]++b)++[(((bU 65535 b)%256)%256),(((bU 65535 b)/256)%256)]).length) t)<|?_
 have hs:b++bW (bU 65535 b)=(([]++b)++[(((bU 65535 b)%256)%256),(((bU 65535 b)/256)%256)]):=by show _++[_,_]=_++[_,_];rw[List.nil_append];congr 2;omega
 rw[hs]
 exact⟨_,rfl,(aS.weaken u a.size),(ut g (ut (aC.mono (S':=(ob (some ⟨l,0,none⟩)++(ob i++[]))) k (av il ax)) (ut (aC.mono (S':=(ob i++[])) d ax) v (av il ax)) (av il ax)) (av (aP f a.size) (av (aP j a.size) ax)))⟩
theorem yB{m:Md}{v:Value}{b:List Int}{w:World}(h:b9 m w v b)(hb:b.length≤1048576) : Calls Tryz.prog 181 #[v] w (fO (b++bW (bU 65535 b)) w):=by
  obtain⟨A,cp,rfl,_,_⟩:=h.shape
  exact xJ h hb
theorem oa{m:Md}{A:Option Addr}{cp:Nat}{b:List Int}{w:World}{u t:Int}(hbu:0≤u∧u<256)(hbt:0≤t∧t<65536)(hsl:b9 m w (.slice A b.length cp) b)(hb:b.length≤253) : Calls Tryz.prog 120 #[.agg #[.int .u8 u,.int .u16 t],.slice A b.length cp] w (fO (i8 u b) w):=by
 refine en 11 Tryz.func120 rfl<|sg<|L0<|dq #[.int .u8 u,.int .u16 t] fun q r s h a=>Pl 1<|ng<|Pl 1<|L0<|aN h 0<|L0<|cL (m:=1) (e:=5) #[.int .u8 u] fun v x i j c=>?_
 have d:=cG i (xs:=[u]) (by as_aux_lemma=>kernel_rfl) (au (by omega) aK) (by(try simp only[List.length_cons,List.length_nil]);omega) j
 refine Pl 1<|?_
 have f:=aD a c
 refine L0<|bS aZ (xs:=([u])) (ys:=b) (.int .u8 0) 1 d (b9.old hsl f) (by(try simp only[List.length_append,List.length_cons,List.length_nil,az]);omega) c.size fun y z B k g=>L0<|Oc<|du (yB (k).rd (by(try simp only[List.length_append,List.length_cons,List.length_nil]);omega)) fun l n C o D E p=>Pl 1<|nt<|rt<|rr (.slice l ((([u]++b)++bW (bU 65535 ([u]++b))).length) n)<|?_
 exact⟨_,rfl,(aS.weaken o (le (le a.size c.size) g.size)),(ut f (aD g p) (av (aP d a.size) ax))⟩
theorem pK{m:Md}{v:Value}{b:List Int}{w:World}{u t:Int}(hbu:0≤u∧u<256)(hbt:0≤t∧t<65536)(h:b9 m w v b)(hb:b.length≤253) : Calls Tryz.prog 120 #[.agg #[.int .u8 u,.int .u16 t],v] w (fO (i8 u b) w):=by
  obtain⟨A,cp,rfl,_,_⟩:=h.shape
  exact oa hbu hbt h hb
theorem kN{m:Md}{x:SL}{M:aO}{w:World}{dir u t:Int}(h:aH m w (p6 M x).toList M)(hf:bR M)(hbu:0≤u∧u<256)(hbt:0≤t∧t<65536) : Calls Tryz.prog 53 #[.int .i64 dir,.agg (qe u t M x)] w (dw (fN dir u t M) w):=by
 obtain⟨hc,hd⟩:=h.rngs
 refine en 50 Tryz.func53 rfl<|sg<|L0<|dq (qe u t M x) fun a3 a4 a5 n b=>Pl 2<|ng<|Pl 2<|L0<|vL n 2 22<|?_
 refine wo (cz dir M) (fun hW=>?_) (fun l hW=>?_)
 refine L0<|Oc<|m1 (ny hW (aH.old h b) hf) fun a6 H=>Pl 5<|nt<|sq<|sg<|Pl 2<|nt<|c1<|sg<|Pl 2<|nl<|?_
 refine tn<|rt<|tr<|rr (.tuple #[.slice none 0 0,.int .i64 1])<|?_
 refine qy (show fN dir u t M=none by unfold fN;rw[hW]) ?_
 exact⟨rfl,(aD b H)⟩
 have hlw:=vx hc hW
 have o:=aH.old h b
 refine L0<|Oc<|du (nu hW o hf) fun a7 a8 a9 I aa ab i=>Pl 5<|nt<|sq<|sg<|Pl 2<|nt<|c0<|bi<|sq<|?_
 refine go<|Pl 1<|?_
 have p:=ub i n
 refine L0<|vL p 0 2<|Pl 1<|L0<|Oc<|du (pK (u:=u) (t:=t) hbu hbt (I).rd hlw) fun J L ac q ad ae N=>Pl 1<|ng<|Pl 2<|?_
 have hlb:((i8 u l)).length≤1048576:=by rw[fH];omega
 refine pr (dU dir (i8 u l)) fun a c j=>?_
 refine L0<|Oc<|e2 (na j (q).rd hlb) fun x42 af O r=>?_
 obtain⟨Q,ai,aj⟩:=O
 have s:=aq q r (fun x hx=>aA) (fun _ _ h=>h)
 have R:=cF.rdt Q (s).rd
 refine Pl 3<|L0<|bH #[.int .u8 0,.int .u16 0,.int .u8 0,.int .u8 0,.int .u16 0,.int .u16 0,.int .u16 0,.int .u16 0,.int .u16 0,.int .u16 0,.int .u16 0,.int .u16 0,.int .u16 0,.int .u16 0,.slice none 0 0,.slice none 0 0,.slice none 0 0,.slice none 0 0,.int .u8 0,.int .u8 0,.int .u8 0,.int .u8 0,.int .u8 0,.slice none 0 0] fun ak al S T U=>L0<|b7 T (qe a.unit a.tid a.msg x42) fun am v V=>Pl 1<|ng<|Pl 1<|L0<|vL v 2 22<|Pl 1<|?_
 have k:=ud U V S
 have y:=aD N (aD r k)
 have z:=ub y p
 refine L0<|vL z 2 22<|?_
 have A:=aD i y
 refine L0<|Oc<|m1 (dj (aH.upd R k aG) (aH.old o A)) fun an g=>Pl 1<|nt<|sq<|sg<|Pl 3<|cu 3 [38] 41 (((c != 0)||(!(decide (a.msg=M))))) (fun K B=>?_) ?_
 refine bl 38 ((c != 0)) (fun d=>?_) (fun d=>?_)
 have W:=ay d
 exact Pl 3<|ce B true (by rw[d];rfl)
 have W:=ag d
 exact Pl 3<|ce B (!(decide (a.msg=M))) (by rw[d];rfl)
 refine Pl 1<|cu 6 [42] 48 ((((c != 0)||(!(decide (a.msg=M))))||(!((a.unit==u)&&(a.tid==t))))) (fun K C=>?_) ?_
 refine bl 42 (((c != 0)||(!(decide (a.msg=M))))) (fun e=>?_) (fun e=>?_)
 exact Pl 6<|ce C true (by rw[e];rfl)
 have X:=(aF e).1
 have Y:=(aF e).2
 have ao:=ag X
 have Z:(decide (a.msg=M))=true:=by simpa using Y
 have q70bnp:=of_decide_eq_true Z
 refine Pl 1<|?_
 refine L1<|vL (ub g v) 0 2<|Pl 1<|?_
 exact L1<|vL (ub g z) 0 2<|L1<|ju (.bool (!((a.unit==u)&&(a.tid==t)))) (ln a.unit a.tid u t rfl (by kernel_rfl) (by kernel_rfl) rfl)<|Pl 1<|ce C (!((a.unit==u)&&(a.tid==t))) (by rw[e];rfl)
 refine nt<|?_
 have D:=aD b (aD A g)
 refine cb ((((c != 0)||(!(decide (a.msg=M))))||(!((a.unit==u)&&(a.tid==t))))) (fun f=>?_) (fun f=>?_)
 refine sg<|Pl 2<|nt<|rt<|tr<|rr (.tuple #[.slice none 0 0,.int .i64 1])<|?_
 refine qy (xX (P:=dU dir) (fun l2 h=>by obtain⟨_,l3,k1,k2,_⟩:=jO h;rw[hW] at k1;injection k1 with k1;subst k1;exact k2) (fun l2 h=>yf (jk hc hW) hc hd h) j f) ?_
 exact⟨rfl,D⟩
 have E:=(aF f).1
 have a0:=(aF f).2
 have a1:=(aF E).1
 have a2:=(aF E).2
 have q76aap:=ag a1
 have q76abn:(decide (a.msg=M))=true:=by simpa using a2
 have q76abnp:=of_decide_eq_true q76abn
 have F:((a.unit==u)&&(a.tid==t))=true:=by simpa using a0
 have q76bna:=(aU F).1
 have q76bnb:=(aU F).2
 have q76bnap:=ah q76bna
 have q76bnbp:=ah q76bnb
 refine bi<|sg<|Pl 3<|nt<|rt<|rr (.tuple #[.slice J ((i8 u l).length) L,.int .i64 0])<|?_
 obtain⟨hE0,hF0⟩:=yA f
 subst hE0 hF0
 have G:=aq s (aD k g) (fun x hx=>aA) (fun _ _ h=>h)
 refine qy ((uR (jk hc hW) (b9.range (G).rd) j rfl rfl).1) ?_
 exact⟨_,rfl,(aS.weaken G (le b.size i.size)),D⟩
theorem ns{m:Md}{x:SL}{M:aO}{w:World}{dir u t:Int}(h:aH m w (p6 M x).toList M)(hf:bR M)(hbu:0≤u∧u<256)(hbt:0≤t∧t<65536)(hX:fN dir u t M=none) : Calls Tryz.prog 53 #[.int .i64 dir,.agg (qe u t M x)] w (fun e w'=>e = .returned (.tuple #[.slice none 0 0,.int .i64 1])∧aC [] w w'):=by
  have k:=kN (dir:=dir) h hf hbu hbt
  rw[hX] at k
  exact k
theorem nD{m:Md}{x:SL}{M:aO}{w:World}{dir u t:Int}(h:aH m w (p6 M x).toList M)(hf:bR M)(hbu:0≤u∧u<256)(hbt:0≤t∧t<65536){l:List Int}(hX:fN dir u t M=some l) : Calls Tryz.prog 53 #[.int .i64 dir,.agg (qe u t M x)] w (fun e w'=>∃ v,e = .returned (.tuple #[v,.int .i64 0])∧eG w.heap.size w' v l∧aC [] w w'):=by
  have k:=kN (dir:=dir) h hf hbu hbt
  rw[hX] at k
  exact k
open Go.RowKit
theorem nH{w:World}{dir:Int}{u t:Int}{M:aO}{xM:SL}{mM:Md}(hM:aH mM w (p6 M xM).toList M)(hbu:0≤u∧u<256)(hbt:0≤t∧t<65536) :
    Calls Tryz.prog 10 #[.int .i64 dir,.agg (qe u t M xM)] w (cY (.bool true) w):=by
 have hRM:=hM.rngs
 obtain⟨hcM,hdM⟩:=hRM
 refine en 41 Tryz.func10 rfl<|sg<|L0<|dq (qe u t M xM) fun F G H q r=>Pl 1<|ng<|L0<|Oc<|m1 (@vp _) fun I l=>Pl 1<|nt<|sq<|?_
 refine go<|Pl 1<|?_
 have m:=ub l q
 refine L0<|vL m 2 22<|?_
 have n:=aD r l
 have o:=aH.old hM n
 refine L0<|Oc<|m1 (wC o) fun J e=>Pl 1<|nt<|sq<|sg<|Pl 2<|nt<|?_
 have f:=aD n e
 refine cb ((!(gM M))) (fun g=>?_) (fun g=>?_)
 have c:(gM M)=false:=by simpa using g
 refine sg<|Pl 2<|nt<|rt<|tr<|rr (.bool true)<|?_
 exact⟨rfl,f⟩
 have c:(gM M)=true:=by simpa using g
 refine bi<|sg<|Pl 1<|?_
 have i:=ub e m
 refine L0<|bM i<|?_
 have d:=aH.old o e
 refine wo (fN dir u t M) (fun b=>?_) (fun a b=>?_)
 refine L0<|Oc<|m1 (p3 b d (js c) (by omega) (by omega)) fun K j=>Pl 5<|ng<|Pl 1<|?_
 refine L0<|bM (ub j i)<|?_
 refine L0<|Oc<|m1 (ns (aH.old d j) (js c) (by omega) (by omega) b) fun L s=>Pl 5<|ng<|Pl 9<|L1<|Oc (args:=#[.slice none 0 0,.slice none 0 0])<|m1 (iA (xs:=([] : List Int)) (ys:=[]) (aL.nil true _ _ _ _) (aL.nil true _ _ _ _)) fun N v=>Pl 2<|nt<|rt<|rr (.bool (decide (([] : List Int)=[])))<|?_
 have hs:(decide (([] : List Int)=[]))=true:=by simp
 rw[hs]
 exact⟨rfl,(aD f (aD j (aD s v)))⟩
 have O:=vE (d.rngs).1 b
 refine L0<|Oc<|du (od b d (js c) (by omega) (by omega)) fun y z P A Q R k=>Pl 5<|ng<|Pl 1<|?_
 refine L0<|bM (ub k i)<|?_
 refine L0<|Oc<|du (nD (aH.old d k) (js c) (by omega) (by omega) b) fun B C S D T U p=>Pl 5<|ng<|Pl 9<|?_
 refine L1<|Oc (args:=#[.slice y a.length z,.slice B a.length C])<|m1 (iA (xs:=a) (ys:=a) ((aq A p (fun x hx=>aA) (fun _ _ h=>h))).rd (D).rd) fun V E=>Pl 2<|nt<|rt<|rr (.bool (decide (a=a)))<|?_
 have hs:(decide (a=a))=true:=by simp
 rw[hs]
 exact⟨rfl,(aD f (aD k (aD p E)))⟩
open Go.RowKit
section
variable {H:Type}{enc:TypeId × Value→H}{P:Program}{w:World}{base:Nat}{spare:Nat→Bool}{held:Bool}
theorem oE(b off:Nat)(sp:Option Nat)(n:Nat)(h:sp=none) : (⟨b,off,sp⟩ : Addr).add n=⟨b,off+n,none⟩:=iR b off n sp h
theorem so{b off:Nat}{sp:Option Nat}{v:Value}(h:w.cell? ⟨b,off,sp⟩=some v) : sp=none:=by
  cases sp with
  | none=>rfl
  | some s =>
    unfold World.cell? at h
    simp at h
    split at h<;>cases h
theorem u2{α:Type}{Pd:DataW H→Prop}{R:World→α→List Value→Prop}{t e:TypeId}{sz fuel:Nat}{cs:List Value}{x:DataW H × List MemPlace}(ht:P.underlying t=some (.slice e))(hsz:P.cellsOf e=sz)(hp:0<sz)
    (hel:∀ n cs' y,cs'.length=sz→DataW.trod enc P w base spare held n e cs'=some y→Pd y.1→∃ x,R w x cs') (hP:∀ elems spare,x.1 = .slice elems spare→∀ d,d∈elems→Pd d) (h:DataW.trod enc P w base spare held fuel t cs=some x) : ∃ v xs,cs=[v]∧aL false e sz R w v xs:=by
  rcases Go.Deep.open_slice ht h with⟨rfl,_⟩|⟨a,len,cap,m,n,D,Pl,rfl,_,hl,hm,hmm,hxe,hx⟩
  · exact⟨_,[],rfl,aL.nil ..⟩
  have hlm:len≤m:=by rw[hmm];split<;>omega
  have key:∀ i:Fin len,∃ y:α × List Value,w.cells? base (a.add (i*sz)) sz=some y.2∧y.2.length=sz∧R w y.1 y.2:=fun i=>by
    obtain⟨cs',h1,h2⟩:=hx i (by omega)
    rw[hsz] at h1
    obtain⟨_,hlen,_⟩:=World.cells?_some h1
    obtain⟨y,hy⟩:=hel n cs' _ hlen h2 (hP _ _ (by rw[hxe]) _ (List.mem_map.2 ⟨i.1,List.mem_range.2 i.2,rfl⟩))
    exact⟨(y,cs'),h1,hlen,hy⟩
  obtain⟨f,hf⟩:=Classical.axiomOfChoice key
  refine⟨_,List.ofFn fun i=>(f i).1,rfl,some a,cap,by simp,by simpa using hl,hm,(fun h=>by cases h),fun hpos=>?_⟩
  have hpos':0<len:=by simpa using hpos
  obtain⟨b,off,sp⟩:=a
  have hsp:sp=none:=by
    obtain⟨h1,h2,_⟩:=hf ⟨0,hpos'⟩
    obtain⟨_,_,h3⟩:=World.cells?_some h1
    have h4:=h3 0 hp
    rw[List.getElem?_eq_getElem (by omega)] at h4
    cases sp with
    | none=>rfl
    | some s =>
      simp[Addr.add] at h4
      exact so h4
  subst hsp
  have hc:∀ i:Fin len,∀ k u,(f i).2[k]? = some u→w.cell? ⟨b,off+i*sz+k,none⟩=some u:=fun i k u hu=>by
    obtain⟨h1,h2,_⟩:=hf i
    obtain⟨_,_,h3⟩:=World.cells?_some h1
    have hk:k<sz:=by have:=(List.getElem?_eq_some_iff.1 hu).1;omega
    have h4:=h3 k hk
    rw[oE _ _ _ _ rfl,oE _ _ _ _ rfl] at h4
    rw[h4,hu]
  have h0:∃ u,w.cell? ⟨b,off+0*sz+0,none⟩=some u:=by
    obtain⟨_,h2,_⟩:=hf ⟨0,hpos'⟩
    exact⟨_,hc ⟨0,hpos'⟩ 0 _ (List.getElem?_eq_getElem (by omega))⟩
  obtain⟨u,hu⟩:=h0
  unfold World.cell? at hu
  split at hu
  · rename_i cells t' fr hb
    refine⟨b,off,cells,t',fr,rfl,hb,fun h=>(by cases h),fun j y hj=>?_⟩
    have hjl:j<len:=by have:=(List.getElem?_eq_some_iff.1 hj).1;simpa using this
    have hy:(f ⟨j,hjl⟩).1=y:=by
      rw[List.getElem?_ofFn] at hj
      simpa [hjl] using hj
    obtain⟨_,h2,h3⟩:=hf ⟨j,hjl⟩
    refine⟨(f ⟨j,hjl⟩).2,h2,by rw[← hy];exact h3,fun i u hi=>?_⟩
    have:=hc ⟨j,hjl⟩ i u hi
    rw[bv hb] at this
    exact this
  · cases hu
theorem je{α:Type}{R:World→α→List Value→Prop}{t e:TypeId}{sz fuel:Nat}{cs:List Value}{x:DataW H × List MemPlace}(ht:P.underlying t=some (.slice e))(hsz:P.cellsOf e=sz)(hp:0<sz)
    (hel:∀ n cs' y,cs'.length=sz→DataW.trod enc P w base spare held n e cs'=some y→∃ x,R w x cs') (h:DataW.trod enc P w base spare held fuel t cs=some x) : ∃ v xs,cs=[v]∧aL false e sz R w v xs :=
  u2 (Pd:=fun _=>True) ht hsz hp (fun n cs' y h1 h2 _=>hel n cs' y h1 h2) (fun _ _ _ _ _=>trivial) h
end
section
variable {H:Type}{enc:TypeId × Value→H}{w:World}{base:Nat}{spare:Nat→Bool}{held:Bool}{n:Nat}{y:DataW H × List MemPlace}
theorem pU{n:Int}(h:(Lit.int .u16 n).wf=true) : 0≤n∧n<65536:=by
  have:=bounds_u16 h
  omega
theorem iJ{cs:List Value}(h:DataW.trod enc Tryz.prog w base spare held n 5 cs=some y) : ∃ x,sZ w x cs:=by
  obtain⟨k,rfl,_,hw⟩:=DataW.trod_int Tryz.underlying5 h
  exact⟨k,rfl,rV hw⟩
theorem ez{cs:List Value}(h:DataW.trod enc Tryz.prog w base spare held n 24 cs=some y) : ∃ x,sG w x cs:=by
  obtain⟨k,rfl,_,hw⟩:=DataW.trod_int Tryz.underlying24 h
  exact⟨k,rfl,pU hw⟩
theorem wb{cs:List Value}(h:DataW.trod enc Tryz.prog w base spare held n 4 cs=some y) : ∃ x,mT w x cs:=by
  obtain⟨k,rfl,_⟩:=DataW.trod_bool Tryz.underlying4 h
  exact⟨k,rfl⟩
theorem wS{cs:List Value}(h:DataW.trod enc Tryz.prog w base spare held n 22 cs=some y) : ∃ v xs,cs=[v]∧b9 false w v xs:=je Tryz.underlying22 (by kernel_rfl) (by decide) (fun _ _ _ _ h=>iJ h) h
theorem tW{cs:List Value}(h:DataW.trod enc Tryz.prog w base spare held n 25 cs=some y) : ∃ v xs,cs=[v]∧dP false w v xs:=je Tryz.underlying25 (by kernel_rfl) (by decide) (fun _ _ _ _ h=>ez h) h
theorem vl{cs:List Value}(h:DataW.trod enc Tryz.prog w base spare held n 26 cs=some y) : ∃ v xs,cs=[v]∧i4 false w v xs:=je Tryz.underlying26 (by kernel_rfl) (by decide) (fun _ _ _ _ h=>wb h) h
end
end Go.Proofs.YtogbnemojakcpaaGreat
