/- Contracts of functions, part CMbapParses6. -/
import Derived.Test.YtogbnemojakcpaaGreatCMbapParses1
import Derived.Test.YtogbnemojakcpaaGreatCMbapParses2
import Derived.Test.YtogbnemojakcpaaGreatCMbapParses3
import Derived.Test.YtogbnemojakcpaaGreatCMbapParses4
import Derived.Test.YtogbnemojakcpaaGreatCMbapParses5
import Derived.Lib.ConvBytes
import Derived.Lib.OthersKept
import Derived.Laws.BitsAllLaws
import Derived.Shelf.Strings.Builder1
import Derived.Deep.Slices
import Derived.ChangeArms
import Derived.WideShapes
set_option linter.unusedVariables false
set_option linter.unusedSimpArgs false
set_option maxRecDepth 100000
set_option maxHeartbeats 4000000
namespace Go.Proofs.YtogbnemojakcpaaGreat
open Go.RowKit
theorem fo{x:Int}(h:bo x=0) : x=0:=by
  unfold bo at h
  split at h
  · cases h
  · exact h
theorem ic{x:Int}(h:¬ bo x=0) : (x != 0)=true:=by
  rw[bne_iff_ne]
  rintro rfl
  exact h rfl
theorem fT:((0:Int)!=0)=false:=rfl
theorem qN{m:Md}{A:Option Addr}{cp:Nat}{b:List Int}{w:World}(hsl:bg m w (.slice A b.length cp) b)(hb:b.length≤1048576) :
    Calls Tryz.prog 96 #[.int .i64 0,.int .u8 20,.slice A b.length cp] w (d7 (.slice A b.length cp) b (bH cL e8 20 b) w):=by
 have hln:(b.length:Int)≤1048576:=by omega
 have hcp:b.length≤cp:=by obtain⟨_,_,hv,h1,_⟩:=aK.shape hsl;injection hv with _ _ h3;omega
 have hrb:=bg.range hsl
 refine en 101 Tryz.func96 rfl<|sg<|L0<|bJ mZ fun a9 ab i g j=>Pl 1<|nt<|sq<|sg<|Pl 6<|nt<|c0<|?_
 refine bq<|sq<|sg<|Pl 6<|nt<|c0<|bq<|sq<|sg<|?_
 refine Pl 3<|nt<|cb ((((b.length:Nat) : Int)==0)) (fun a=>?_) (fun a=>?_)
 have J:=al a
 refine sg<|Pl 1<|L0<|b6 g mZ fun ac L M=>Pl 1<|nt<|rt<|tr<|bF L (.int .i64 2)<|?_
 have hs:bH cL e8 20 b=(aP.zero,2):=by
   unfold bH dj cN e8
   (try simp only[a,bs,if_true,if_false,decide_true,decide_false,fT,reduceIte])
   all_goals rfl
 rw[hs]
 exact bt (ud j M i)
 have J:=ap a
 refine bq<|sg<|Pl 1<|?_
 have t:=bg.old hsl j
 refine fl (bg.at_ t 0 (by omega)) fun N O Q R ad=>L0<|jt b.length 0 Q (by omega)<|L0<|dZ (p:=⟨N,O+0,none⟩) (v:=.int .u8 (b.getD 0 0)) R<|L0<|Oi (b.getD 0 0)<|Pl 1<|ng<|Pl 3<|cu 3 [36] 39 (((decide (9≤(b.getD 0 0)))&&(decide ((b.getD 0 0)≤251)))) (fun K C=>?_) ?_
 refine bl 36 ((decide (9≤(b.getD 0 0)))) (fun l=>?_) (fun l=>?_)
 have S:=of_decide_eq_true l
 exact Pl 3<|ce C (decide ((b.getD 0 0)≤251)) (by rw[l];rfl)
 have S:=of_decide_eq_false l
 exact Pl 3<|ce C false (by rw[l];rfl)
 refine Pl 1<|nt<|sq<|sg<|Pl 6<|nt<|c1<|go<|Pl 3<|cu 3 [48] 51 (((decide (7≤(b.getD 0 0)))&&(decide ((b.getD 0 0)≤245)))) (fun K D=>?_) ?_
 refine bl 48 ((decide (7≤(b.getD 0 0)))) (fun o=>?_) (fun o=>?_)
 have T:=of_decide_eq_true o
 exact Pl 3<|ce D (decide ((b.getD 0 0)≤245)) (by rw[o];rfl)
 have T:=of_decide_eq_false o
 exact Pl 3<|ce D false (by rw[o];rfl)
 refine Pl 1<|cu 4 [52] 56 ((((decide (7≤(b.getD 0 0)))&&(decide ((b.getD 0 0)≤245)))&&(((b.getD 0 0)%7)==0))) (fun K E=>?_) ?_
 refine bl 52 (((decide (7≤(b.getD 0 0)))&&(decide ((b.getD 0 0)≤245)))) (fun q=>?_) (fun q=>?_)
 have U:=(aS q).1
 have V:=(aS q).2
 have ae:=of_decide_eq_true U
 have af:=of_decide_eq_true V
 exact Pl 1<|L1<|Oe (.int .i64 (Int.tmod (b.getD 0 0) 7)) (.int .i64 ((b.getD 0 0)%7)) (congrArg (Value.int .i64) (Int.tmod_eq_emod_of_nonneg (by omega)))<|Pl 2<|ce E (((b.getD 0 0)%7)==0) (by rw[q];rfl)
 exact Pl 4<|ce E false (by rw[q];rfl)
 refine Pl 1<|nt<|sq<|sg<|Pl 6<|nt<|c0<|bq<|sq<|sq<|?_
 refine go<|Pl 2<|nt<|cb ((!(((decide (7≤(b.getD 0 0)))&&(decide ((b.getD 0 0)≤245)))&&(((b.getD 0 0)%7)==0)))) (fun d=>?_) (fun d=>?_)
 have f:(((decide (7≤(b.getD 0 0)))&&(decide ((b.getD 0 0)≤245)))&&(((b.getD 0 0)%7)==0))=false:=by simpa only[Bool.not_eq_true',Bool.not_eq_false'] using d
 refine sg<|Pl 1<|L0<|b6 g mZ fun ag W X=>Pl 1<|nt<|rt<|tr<|bF W (.int .i64 5)<|?_
 have hs:bH cL e8 20 b=(aP.zero,5):=by
   unfold bH dj cN e8
   (try simp only[a,d,f,bs,if_true,if_false,decide_true,decide_false,fT,reduceIte])
   all_goals rfl
 rw[hs]
 exact bt (ud j X i)
 have f:(((decide (7≤(b.getD 0 0)))&&(decide ((b.getD 0 0)≤245)))&&(((b.getD 0 0)%7)==0))=true:=by simpa only[Bool.not_eq_true',Bool.not_eq_false'] using d
 have k:=(aS f).1
 have r:=(aS f).2
 have q32naa:=(aS k).1
 have q32nab:=(aS k).2
 have q32naap:=of_decide_eq_true q32naa
 have q32nabp:=of_decide_eq_true q32nab
 have q32nbp:=al r
 refine bq<|sq<|sg<|Pl 3<|L0<|Oi ((b.getD 0 0)+1)<|Pl 1<|nt<|cb ((decide (((b.length:Nat) : Int)<((b.getD 0 0)+1)))) (fun h=>?_) (fun h=>?_)
 have Y:=of_decide_eq_true h
 refine sg<|Pl 1<|L0<|b6 g mZ fun ah Z a0=>Pl 1<|nt<|rt<|tr<|bF Z (.int .i64 2)<|?_
 have hs:bH cL e8 20 b=(aP.zero,2):=by
   unfold bH dj cN e8
   (try simp only[a,d,f,k,q32naa,q32nab,r,h,bs,if_true,if_false,decide_true,decide_false,fT,reduceIte])
   all_goals rfl
 rw[hs]
 exact bt (ud j a0 i)
 have Y:=of_decide_eq_false h
 refine bq<|sg<|Pl 4<|L0<|Oi ((b.getD 0 0)+1)<|mS (iG (P:=Tryz.prog) 22 5 1 Tryz.underlying22 rfl rfl A b.length cp (lo:=1) (up:=((b.getD 0 0)+1)) 1 ((((b.getD 0 0)+1)).toNat) (by omega) (by omega) (by omega) (by omega) (by omega)) fun u hrun43 F=>L0<|lB (.slice u (((((b.getD 0 0)+1)).toNat)-1) (cp-1)) (gi (kl:=.i64) (kh:=.i64) (lo:=1) (hi:=((b.getD 0 0)+1)) (A:=A) (n:=b.length) (c:=cp) rfl Tryz.underlying22 (by kernel_rfl) (by kernel_rfl) (by kernel_rfl) (hrun43 _ _ _))<|?_
 by_cases hE:bo (aN cL (((b.take ((((b.getD 0 0)+1)).toNat)).drop 1)).length 0 ⟨((b.take ((((b.getD 0 0)+1)).toNat)).drop 1),false,0⟩ []).1.e=0
 refine L0<|Oc (args:=#[.int .i64 0,.int .u8 20,.slice u (((((b.getD 0 0)+1)).toNat)-1) (cp-1)])<|e2 (iQ (kC (F _ _ _ _ _ t) (by rw[List.length_drop,List.length_take];omega)) hE) fun ai aj y z=>?_
 obtain⟨a1,a2,rfl,an,ao⟩:=aK.shape y.rd
 refine Pl 5<|nt<|sq<|sg<|Pl 2<|nt<|c0<|bq<|sq<|sq<|?_
 refine go<|Pl 3<|L0<|Oi ((b.getD 0 0)+1)<|Pl 1<|nt<|?_
 have G:=aI j z
 refine cb ((decide (((b.getD 0 0)+1)<((b.length:Nat) : Int)))) (fun s=>?_) (fun s=>?_)
 have a3:=of_decide_eq_true s
 refine sg<|Pl 1<|?_
 refine L0<|b6 (ub z g) mZ fun aq a4 a5=>Pl 1<|nt<|rt<|tr<|bF a4 (.int .i64 3)<|?_
 have hE0:(aN cL (((b.take ((((b.getD 0 0)+1)).toNat)).drop 1)).length 0 ⟨((b.take ((((b.getD 0 0)+1)).toNat)).drop 1),false,0⟩ []).1.e=0:=fo hE
 have hs:bH cL e8 20 b=(aP.zero,3):=by
   unfold bH dj cN e8
   (try simp only[a,d,f,k,q32naa,q32nab,r,h,s,bs,if_true,if_false,decide_true,decide_false,hE0,fT,reduceIte])
   all_goals rfl
 rw[hs]
 exact bt (ud G a5 i)
 have a3:=of_decide_eq_false s
 refine bq<|sg<|Pl 3<|?_
 have H:=ub z g
 refine L0<|b6 H (mG 20 0 0 0 0 0 0 0 0 0 0 0 nS nS nS (.slice a1 ((aN cL (((b.take ((((b.getD 0 0)+1)).toNat)).drop 1)).length 0 ⟨((b.take ((((b.getD 0 0)+1)).toNat)).drop 1),false,0⟩ []).2.length) a2) 0 0 0 0 0 nS) fun ar a6 B=>Pl 1<|nt<|rt<|bF a6 (.int .i64 0)<|?_
 have hE0:(aN cL (((b.take ((((b.getD 0 0)+1)).toNat)).drop 1)).length 0 ⟨((b.take ((((b.getD 0 0)+1)).toNat)).drop 1),false,0⟩ []).1.e=0:=fo hE
 have hs:bH cL e8 20 b=((aP.mk 20 0 0 0 0 0 0 0 0 0 0 0 [] [] [] (aN cL (((b.take ((((b.getD 0 0)+1)).toNat)).drop 1)).length 0 ⟨((b.take ((((b.getD 0 0)+1)).toNat)).drop 1),false,0⟩ []).2 0 0 0 0 0 []),0):=by
   unfold bH dj cN e8
   (try simp only[a,d,f,k,q32naa,q32nab,r,h,s,bs,if_true,if_false,decide_true,decide_false,hE0,fT,reduceIte])
   all_goals rfl
 rw[hs]
 exact⟨_,rfl,⟨_,_,_,_,_,rfl,aK.nil ..,aK.nil ..,(fun _ _ _=>aK.nil ..),((ax y B (fun x hx=>(aa (fun e=>(aA (ak g) lr y) (e▸hx)) ay)) (bp.upd16 B (am (aQ H (by decide)) aG)))).rd,aK.nil ..,⟨(b8 (x:=20) (by omega)),(b8 (x:=0) (by omega)),(aB (x:=0) (by omega)),(aB (x:=0) (by omega)),(aB (x:=0) (by omega)),(aB (x:=0) (by omega)),(aB (x:=0) (by omega)),(aB (x:=0) (by omega)),(aB (x:=0) (by omega)),(aB (x:=0) (by omega)),(aB (x:=0) (by omega)),(aB (x:=0) (by omega)),(b8 (x:=0) (by omega)),(b8 (x:=0) (by omega)),(b8 (x:=0) (by omega)),(b8 (x:=0) (by omega)),(b8 (x:=0) (by omega))⟩⟩,(ud G B i)⟩
 refine L0<|Oc (args:=#[.int .i64 0,.int .u8 20,.slice u (((((b.getD 0 0)+1)).toNat)-1) (cp-1)])<|?_
 refine(i7 (kC (F _ _ _ _ _ t) (by rw[List.length_drop,List.length_take];omega))).mono ?_
 rintro _ au ⟨av,aw,az,rfl,I⟩
 refine⟨_,rfl,?_⟩
 have hE1:(bo (aN cL (((b.take ((((b.getD 0 0)+1)).toNat)).drop 1)).length 0 ⟨((b.take ((((b.getD 0 0)+1)).toNat)).drop 1),false,0⟩ []).1.e != 0)=true:=by simpa using hE
 refine Pl 5<|nt<|sq<|sg<|Pl 2<|nt<|ct hE1<|sg<|Pl 2<|?_
 refine L0<|b6 (ub I g) mZ fun aC a7 a8=>Pl 1<|nt<|rt<|tr<|bF a7 (.int .i64 (bo (aN cL (((b.take ((((b.getD 0 0)+1)).toNat)).drop 1)).length 0 ⟨((b.take ((((b.getD 0 0)+1)).toNat)).drop 1),false,0⟩ []).1.e))<|?_
 have hE3:((aN cL (((b.take ((((b.getD 0 0)+1)).toNat)).drop 1)).length 0 ⟨((b.take ((((b.getD 0 0)+1)).toNat)).drop 1),false,0⟩ []).1.e != 0)=true:=ic hE
 have hs:bH cL e8 20 b=(aP.zero,bo (aN cL (((b.take ((((b.getD 0 0)+1)).toNat)).drop 1)).length 0 ⟨((b.take ((((b.getD 0 0)+1)).toNat)).drop 1),false,0⟩ []).1.e):=by
   unfold bH dj cN e8
   (try simp only[a,d,f,k,q32naa,q32nab,r,h,hE1,bs,if_true,if_false,decide_true,decide_false,hE3,fT,reduceIte])
   all_goals rfl
 rw[hs]
 exact bt (ud j (uz I a8) i)
theorem qf{m:Md}{A:Option Addr}{cp:Nat}{b:List Int}{w:World}(hsl:bg m w (.slice A b.length cp) b)(hb:b.length≤1048576) :
    Calls Tryz.prog 96 #[.int .i64 1,.int .u8 20,.slice A b.length cp] w (d7 (.slice A b.length cp) b (bH bG dW 20 b) w):=by
 have hln:(b.length:Int)≤1048576:=by omega
 have hcp:b.length≤cp:=by obtain⟨_,_,hv,h1,_⟩:=aK.shape hsl;injection hv with _ _ h3;omega
 have hrb:=bg.range hsl
 refine en 101 Tryz.func96 rfl<|sg<|L0<|bJ mZ fun a5 a6 i g j=>Pl 1<|nt<|sq<|sg<|Pl 6<|nt<|c0<|?_
 refine bq<|sq<|sg<|Pl 6<|nt<|c0<|bq<|sq<|sg<|?_
 refine Pl 3<|nt<|cb ((((b.length:Nat) : Int)==0)) (fun a=>?_) (fun a=>?_)
 have H:=al a
 refine sg<|Pl 1<|L0<|b6 g mZ fun a7 I J=>Pl 1<|nt<|rt<|tr<|bF I (.int .i64 2)<|?_
 have hs:bH bG dW 20 b=(aP.zero,2):=by
   unfold bH dj cN dW
   (try simp only[a,bs,if_true,if_false,decide_true,decide_false,fT,reduceIte])
   all_goals rfl
 rw[hs]
 exact bt (ud j J i)
 have H:=ap a
 refine bq<|sg<|Pl 1<|?_
 have s:=bg.old hsl j
 refine fl (bg.at_ s 0 (by omega)) fun L M N O a8=>L0<|jt b.length 0 N (by omega)<|L0<|dZ (p:=⟨L,M+0,none⟩) (v:=.int .u8 (b.getD 0 0)) O<|L0<|Oi (b.getD 0 0)<|Pl 1<|ng<|Pl 3<|cu 3 [36] 39 (((decide (9≤(b.getD 0 0)))&&(decide ((b.getD 0 0)≤251)))) (fun K B=>?_) ?_
 refine bl 36 ((decide (9≤(b.getD 0 0)))) (fun k=>?_) (fun k=>?_)
 have Q:=of_decide_eq_true k
 exact Pl 3<|ce B (decide ((b.getD 0 0)≤251)) (by rw[k];rfl)
 have Q:=of_decide_eq_false k
 exact Pl 3<|ce B false (by rw[k];rfl)
 refine Pl 1<|nt<|sq<|sg<|Pl 6<|nt<|c0<|bq<|sq<|sq<|?_
 refine go<|Pl 6<|nt<|c1<|go<|Pl 3<|cu 3 [65] 68 (((decide (4≤(b.getD 0 0)))&&(decide ((b.getD 0 0)≤245)))) (fun K C=>?_) ?_
 refine bl 65 ((decide (4≤(b.getD 0 0)))) (fun l=>?_) (fun l=>?_)
 have R:=of_decide_eq_true l
 exact Pl 3<|ce C (decide ((b.getD 0 0)≤245)) (by rw[l];rfl)
 have R:=of_decide_eq_false l
 exact Pl 3<|ce C false (by rw[l];rfl)
 refine Pl 1<|nt<|sq<|sg<|Pl 2<|nt<|cb ((!((decide (4≤(b.getD 0 0)))&&(decide ((b.getD 0 0)≤245))))) (fun d=>?_) (fun d=>?_)
 have f:((decide (4≤(b.getD 0 0)))&&(decide ((b.getD 0 0)≤245)))=false:=by simpa only[Bool.not_eq_true',Bool.not_eq_false'] using d
 refine sg<|Pl 1<|L0<|b6 g mZ fun a9 S T=>Pl 1<|nt<|rt<|tr<|bF S (.int .i64 5)<|?_
 have hs:bH bG dW 20 b=(aP.zero,5):=by
   unfold bH dj cN dW
   (try simp only[a,d,f,bs,if_true,if_false,decide_true,decide_false,fT,reduceIte])
   all_goals rfl
 rw[hs]
 exact bt (ud j T i)
 have f:((decide (4≤(b.getD 0 0)))&&(decide ((b.getD 0 0)≤245)))=true:=by simpa only[Bool.not_eq_true',Bool.not_eq_false'] using d
 have o:=(aS f).1
 have q:=(aS f).2
 have q30nap:=of_decide_eq_true o
 have q30nbp:=of_decide_eq_true q
 refine bq<|sq<|sg<|Pl 3<|L0<|Oi ((b.getD 0 0)+1)<|Pl 1<|nt<|cb ((decide (((b.length:Nat) : Int)<((b.getD 0 0)+1)))) (fun h=>?_) (fun h=>?_)
 have U:=of_decide_eq_true h
 refine sg<|Pl 1<|L0<|b6 g mZ fun ab V W=>Pl 1<|nt<|rt<|tr<|bF V (.int .i64 2)<|?_
 have hs:bH bG dW 20 b=(aP.zero,2):=by
   unfold bH dj cN dW
   (try simp only[a,d,f,o,q,h,bs,if_true,if_false,decide_true,decide_false,fT,reduceIte])
   all_goals rfl
 rw[hs]
 exact bt (ud j W i)
 have U:=of_decide_eq_false h
 refine bq<|sg<|Pl 4<|L0<|Oi ((b.getD 0 0)+1)<|mS (iG (P:=Tryz.prog) 22 5 1 Tryz.underlying22 rfl rfl A b.length cp (lo:=1) (up:=((b.getD 0 0)+1)) 1 ((((b.getD 0 0)+1)).toNat) (by omega) (by omega) (by omega) (by omega) (by omega)) fun t hrun41 D=>L0<|lB (.slice t (((((b.getD 0 0)+1)).toNat)-1) (cp-1)) (gi (kl:=.i64) (kh:=.i64) (lo:=1) (hi:=((b.getD 0 0)+1)) (A:=A) (n:=b.length) (c:=cp) rfl Tryz.underlying22 (by kernel_rfl) (by kernel_rfl) (by kernel_rfl) (hrun41 _ _ _))<|?_
 by_cases hE:bo (aN bG (((b.take ((((b.getD 0 0)+1)).toNat)).drop 1)).length 0 ⟨((b.take ((((b.getD 0 0)+1)).toNat)).drop 1),false,0⟩ []).1.e=0
 refine L0<|Oc (args:=#[.int .i64 1,.int .u8 20,.slice t (((((b.getD 0 0)+1)).toNat)-1) (cp-1)])<|e2 (iQ (ke (D _ _ _ _ _ s) (by rw[List.length_drop,List.length_take];omega)) hE) fun ac ad u y=>?_
 obtain⟨X,Y,rfl,ae,af⟩:=aK.shape u.rd
 refine Pl 5<|nt<|sq<|sg<|Pl 2<|nt<|c0<|bq<|sq<|sq<|?_
 refine go<|Pl 3<|L0<|Oi ((b.getD 0 0)+1)<|Pl 1<|nt<|?_
 have E:=aI j y
 refine cb ((decide (((b.getD 0 0)+1)<((b.length:Nat) : Int)))) (fun r=>?_) (fun r=>?_)
 have Z:=of_decide_eq_true r
 refine sg<|Pl 1<|?_
 refine L0<|b6 (ub y g) mZ fun ag a0 a1=>Pl 1<|nt<|rt<|tr<|bF a0 (.int .i64 3)<|?_
 have hE0:(aN bG (((b.take ((((b.getD 0 0)+1)).toNat)).drop 1)).length 0 ⟨((b.take ((((b.getD 0 0)+1)).toNat)).drop 1),false,0⟩ []).1.e=0:=fo hE
 have hs:bH bG dW 20 b=(aP.zero,3):=by
   unfold bH dj cN dW
   (try simp only[a,d,f,o,q,h,r,bs,if_true,if_false,decide_true,decide_false,hE0,fT,reduceIte])
   all_goals rfl
 rw[hs]
 exact bt (ud E a1 i)
 have Z:=of_decide_eq_false r
 refine bq<|sg<|Pl 3<|?_
 have F:=ub y g
 refine L0<|b6 F (mG 20 0 0 0 0 0 0 0 0 0 0 0 nS nS nS (.slice X ((aN bG (((b.take ((((b.getD 0 0)+1)).toNat)).drop 1)).length 0 ⟨((b.take ((((b.getD 0 0)+1)).toNat)).drop 1),false,0⟩ []).2.length) Y) 0 0 0 0 0 nS) fun ah a2 z=>Pl 1<|nt<|rt<|bF a2 (.int .i64 0)<|?_
 have hE0:(aN bG (((b.take ((((b.getD 0 0)+1)).toNat)).drop 1)).length 0 ⟨((b.take ((((b.getD 0 0)+1)).toNat)).drop 1),false,0⟩ []).1.e=0:=fo hE
 have hs:bH bG dW 20 b=((aP.mk 20 0 0 0 0 0 0 0 0 0 0 0 [] [] [] (aN bG (((b.take ((((b.getD 0 0)+1)).toNat)).drop 1)).length 0 ⟨((b.take ((((b.getD 0 0)+1)).toNat)).drop 1),false,0⟩ []).2 0 0 0 0 0 []),0):=by
   unfold bH dj cN dW
   (try simp only[a,d,f,o,q,h,r,bs,if_true,if_false,decide_true,decide_false,hE0,fT,reduceIte])
   all_goals rfl
 rw[hs]
 exact⟨_,rfl,⟨_,_,_,_,_,rfl,aK.nil ..,aK.nil ..,(fun _ _ _=>aK.nil ..),((ax u z (fun x hx=>(aa (fun e=>(aA (ak g) lr u) (e▸hx)) ay)) (bp.upd16 z (am (aQ F (by decide)) aG)))).rd,aK.nil ..,⟨(b8 (x:=20) (by omega)),(b8 (x:=0) (by omega)),(aB (x:=0) (by omega)),(aB (x:=0) (by omega)),(aB (x:=0) (by omega)),(aB (x:=0) (by omega)),(aB (x:=0) (by omega)),(aB (x:=0) (by omega)),(aB (x:=0) (by omega)),(aB (x:=0) (by omega)),(aB (x:=0) (by omega)),(aB (x:=0) (by omega)),(b8 (x:=0) (by omega)),(b8 (x:=0) (by omega)),(b8 (x:=0) (by omega)),(b8 (x:=0) (by omega)),(b8 (x:=0) (by omega))⟩⟩,(ud E z i)⟩
 refine L0<|Oc (args:=#[.int .i64 1,.int .u8 20,.slice t (((((b.getD 0 0)+1)).toNat)-1) (cp-1)])<|?_
 refine(i7 (ke (D _ _ _ _ _ s) (by rw[List.length_drop,List.length_take];omega))).mono ?_
 rintro _ ai ⟨aj,an,ao,rfl,G⟩
 refine⟨_,rfl,?_⟩
 have hE1:(bo (aN bG (((b.take ((((b.getD 0 0)+1)).toNat)).drop 1)).length 0 ⟨((b.take ((((b.getD 0 0)+1)).toNat)).drop 1),false,0⟩ []).1.e != 0)=true:=by simpa using hE
 refine Pl 5<|nt<|sq<|sg<|Pl 2<|nt<|ct hE1<|sg<|Pl 2<|?_
 refine L0<|b6 (ub G g) mZ fun aq a3 a4=>Pl 1<|nt<|rt<|tr<|bF a3 (.int .i64 (bo (aN bG (((b.take ((((b.getD 0 0)+1)).toNat)).drop 1)).length 0 ⟨((b.take ((((b.getD 0 0)+1)).toNat)).drop 1),false,0⟩ []).1.e))<|?_
 have hE3:((aN bG (((b.take ((((b.getD 0 0)+1)).toNat)).drop 1)).length 0 ⟨((b.take ((((b.getD 0 0)+1)).toNat)).drop 1),false,0⟩ []).1.e != 0)=true:=ic hE
 have hs:bH bG dW 20 b=(aP.zero,bo (aN bG (((b.take ((((b.getD 0 0)+1)).toNat)).drop 1)).length 0 ⟨((b.take ((((b.getD 0 0)+1)).toNat)).drop 1),false,0⟩ []).1.e):=by
   unfold bH dj cN dW
   (try simp only[a,d,f,o,q,h,hE1,bs,if_true,if_false,decide_true,decide_false,hE3,fT,reduceIte])
   all_goals rfl
 rw[hs]
 exact bt (ud j (uz G a4) i)
theorem qh{m:Md}{A:Option Addr}{cp:Nat}{b:List Int}{w:World}{dir:Int}(hd:dir=0∨dir=1)(hsl:bg m w (.slice A b.length cp) b)(hb:b.length≤1048576) :
    Calls Tryz.prog 96 #[.int .i64 dir,.int .u8 21,.slice A b.length cp] w (d7 (.slice A b.length cp) b (bH cI dY 21 b) w):=by
 have hln:(b.length:Int)≤1048576:=by omega
 have hcp:b.length≤cp:=by obtain⟨_,_,hv,h1,_⟩:=aK.shape hsl;injection hv with _ _ h3;omega
 have hrb:=bg.range hsl
 have g:((dir != 0)&&(dir != 1))=false:=by rcases hd with rfl | rfl<;>rfl
 refine en 101 Tryz.func96 rfl<|sg<|L0<|bJ mZ fun a6 a7 j h k=>Pl 1<|nt<|sq<|sg<|Pl 3<|cu 3 [14] 17 (((dir != 0)&&(dir != 1))) (fun K C=>?_) ?_
 refine bl 14 ((dir != 0)) (fun l=>?_) (fun l=>?_)
 have I:=aq l
 exact Pl 3<|ce C (dir != 1) (by rw[l];rfl)
 have I:=ai l
 exact Pl 3<|ce C false (by rw[l];rfl)
 refine nt<|cf g<|bq<|sq<|sg<|Pl 6<|nt<|c0<|bq<|?_
 refine sq<|sg<|Pl 3<|nt<|cb ((((b.length:Nat) : Int)==0)) (fun a=>?_) (fun a=>?_)
 have J:=al a
 refine sg<|Pl 1<|L0<|b6 h mZ fun a8 L M=>Pl 1<|nt<|rt<|tr<|bF L (.int .i64 2)<|?_
 have hs:bH cI dY 21 b=(aP.zero,2):=by
   unfold bH dj cN dY
   (try simp only[g,a,bs,if_true,if_false,decide_true,decide_false,fT,reduceIte])
   all_goals rfl
 rw[hs]
 exact bt (ud k M j)
 have J:=ap a
 refine bq<|sg<|Pl 1<|?_
 have t:=bg.old hsl k
 refine fl (bg.at_ t 0 (by omega)) fun N O Q R a9=>L0<|jt b.length 0 Q (by omega)<|L0<|dZ (p:=⟨N,O+0,none⟩) (v:=.int .u8 (b.getD 0 0)) R<|L0<|Oi (b.getD 0 0)<|Pl 1<|ng<|Pl 3<|cu 3 [36] 39 (((decide (9≤(b.getD 0 0)))&&(decide ((b.getD 0 0)≤251)))) (fun K D=>?_) ?_
 refine bl 36 ((decide (9≤(b.getD 0 0)))) (fun o=>?_) (fun o=>?_)
 have S:=of_decide_eq_true o
 exact Pl 3<|ce D (decide ((b.getD 0 0)≤251)) (by rw[o];rfl)
 have S:=of_decide_eq_false o
 exact Pl 3<|ce D false (by rw[o];rfl)
 refine Pl 1<|nt<|sq<|sg<|Pl 6<|nt<|c0<|bq<|sq<|sq<|?_
 refine go<|Pl 6<|nt<|c0<|bq<|sq<|sg<|Pl 2<|nt<|cb ((!((decide (9≤(b.getD 0 0)))&&(decide ((b.getD 0 0)≤251))))) (fun d=>?_) (fun d=>?_)
 have f:((decide (9≤(b.getD 0 0)))&&(decide ((b.getD 0 0)≤251)))=false:=by simpa only[Bool.not_eq_true',Bool.not_eq_false'] using d
 refine sg<|Pl 1<|L0<|b6 h mZ fun ab T U=>Pl 1<|nt<|rt<|tr<|bF T (.int .i64 5)<|?_
 have hs:bH cI dY 21 b=(aP.zero,5):=by
   unfold bH dj cN dY
   (try simp only[g,a,d,f,bs,if_true,if_false,decide_true,decide_false,fT,reduceIte])
   all_goals rfl
 rw[hs]
 exact bt (ud k U j)
 have f:((decide (9≤(b.getD 0 0)))&&(decide ((b.getD 0 0)≤251)))=true:=by simpa only[Bool.not_eq_true',Bool.not_eq_false'] using d
 have q:=(aS f).1
 have r:=(aS f).2
 have q30nap:=of_decide_eq_true q
 have q30nbp:=of_decide_eq_true r
 refine bq<|sq<|sg<|Pl 3<|L0<|Oi ((b.getD 0 0)+1)<|Pl 1<|nt<|cb ((decide (((b.length:Nat) : Int)<((b.getD 0 0)+1)))) (fun i=>?_) (fun i=>?_)
 have V:=of_decide_eq_true i
 refine sg<|Pl 1<|L0<|b6 h mZ fun ac W X=>Pl 1<|nt<|rt<|tr<|bF W (.int .i64 2)<|?_
 have hs:bH cI dY 21 b=(aP.zero,2):=by
   unfold bH dj cN dY
   (try simp only[g,a,d,f,q,r,i,bs,if_true,if_false,decide_true,decide_false,fT,reduceIte])
   all_goals rfl
 rw[hs]
 exact bt (ud k X j)
 have V:=of_decide_eq_false i
 refine bq<|sg<|Pl 4<|L0<|Oi ((b.getD 0 0)+1)<|mS (iG (P:=Tryz.prog) 22 5 1 Tryz.underlying22 rfl rfl A b.length cp (lo:=1) (up:=((b.getD 0 0)+1)) 1 ((((b.getD 0 0)+1)).toNat) (by omega) (by omega) (by omega) (by omega) (by omega)) fun u hrun41 E=>L0<|lB (.slice u (((((b.getD 0 0)+1)).toNat)-1) (cp-1)) (gi (kl:=.i64) (kh:=.i64) (lo:=1) (hi:=((b.getD 0 0)+1)) (A:=A) (n:=b.length) (c:=cp) rfl Tryz.underlying22 (by kernel_rfl) (by kernel_rfl) (by kernel_rfl) (hrun41 _ _ _))<|?_
 by_cases hE:bo (aN cI (((b.take ((((b.getD 0 0)+1)).toNat)).drop 1)).length 0 ⟨((b.take ((((b.getD 0 0)+1)).toNat)).drop 1),false,0⟩ []).1.e=0
 refine L0<|Oc (args:=#[.int .i64 dir,.int .u8 21,.slice u (((((b.getD 0 0)+1)).toNat)-1) (cp-1)])<|e2 (iQ (kO (E _ _ _ _ _ t) (by rw[List.length_drop,List.length_take];omega)) hE) fun ad ae y z=>?_
 obtain⟨Y,Z,rfl,af,ag⟩:=aK.shape y.rd
 refine Pl 5<|nt<|sq<|sg<|Pl 2<|nt<|c0<|bq<|sq<|sq<|?_
 refine go<|Pl 3<|L0<|Oi ((b.getD 0 0)+1)<|Pl 1<|nt<|?_
 have F:=aI k z
 refine cb ((decide (((b.getD 0 0)+1)<((b.length:Nat) : Int)))) (fun s=>?_) (fun s=>?_)
 have a0:=of_decide_eq_true s
 refine sg<|Pl 1<|?_
 refine L0<|b6 (ub z h) mZ fun ah a1 a2=>Pl 1<|nt<|rt<|tr<|bF a1 (.int .i64 3)<|?_
 have hE0:(aN cI (((b.take ((((b.getD 0 0)+1)).toNat)).drop 1)).length 0 ⟨((b.take ((((b.getD 0 0)+1)).toNat)).drop 1),false,0⟩ []).1.e=0:=fo hE
 have hs:bH cI dY 21 b=(aP.zero,3):=by
   unfold bH dj cN dY
   (try simp only[g,a,d,f,q,r,i,s,bs,if_true,if_false,decide_true,decide_false,hE0,fT,reduceIte])
   all_goals rfl
 rw[hs]
 exact bt (ud F a2 j)
 have a0:=of_decide_eq_false s
 refine bq<|sg<|Pl 3<|?_
 have G:=ub z h
 refine L0<|b6 G (mG 21 0 0 0 0 0 0 0 0 0 0 0 nS nS nS (.slice Y ((aN cI (((b.take ((((b.getD 0 0)+1)).toNat)).drop 1)).length 0 ⟨((b.take ((((b.getD 0 0)+1)).toNat)).drop 1),false,0⟩ []).2.length) Z) 0 0 0 0 0 nS) fun aj a3 B=>Pl 1<|nt<|rt<|bF a3 (.int .i64 0)<|?_
 have hE0:(aN cI (((b.take ((((b.getD 0 0)+1)).toNat)).drop 1)).length 0 ⟨((b.take ((((b.getD 0 0)+1)).toNat)).drop 1),false,0⟩ []).1.e=0:=fo hE
 have hs:bH cI dY 21 b=((aP.mk 21 0 0 0 0 0 0 0 0 0 0 0 [] [] [] (aN cI (((b.take ((((b.getD 0 0)+1)).toNat)).drop 1)).length 0 ⟨((b.take ((((b.getD 0 0)+1)).toNat)).drop 1),false,0⟩ []).2 0 0 0 0 0 []),0):=by
   unfold bH dj cN dY
   (try simp only[g,a,d,f,q,r,i,s,bs,if_true,if_false,decide_true,decide_false,hE0,fT,reduceIte])
   all_goals rfl
 rw[hs]
 exact⟨_,rfl,⟨_,_,_,_,_,rfl,aK.nil ..,aK.nil ..,(fun _ _ _=>aK.nil ..),((ax y B (fun x hx=>(aa (fun e=>(aA (ak h) lr y) (e▸hx)) ay)) (bp.upd16 B (am (aQ G (by decide)) aG)))).rd,aK.nil ..,⟨(b8 (x:=21) (by omega)),(b8 (x:=0) (by omega)),(aB (x:=0) (by omega)),(aB (x:=0) (by omega)),(aB (x:=0) (by omega)),(aB (x:=0) (by omega)),(aB (x:=0) (by omega)),(aB (x:=0) (by omega)),(aB (x:=0) (by omega)),(aB (x:=0) (by omega)),(aB (x:=0) (by omega)),(aB (x:=0) (by omega)),(b8 (x:=0) (by omega)),(b8 (x:=0) (by omega)),(b8 (x:=0) (by omega)),(b8 (x:=0) (by omega)),(b8 (x:=0) (by omega))⟩⟩,(ud F B j)⟩
 refine L0<|Oc (args:=#[.int .i64 dir,.int .u8 21,.slice u (((((b.getD 0 0)+1)).toNat)-1) (cp-1)])<|?_
 refine(i7 (kO (E _ _ _ _ _ t) (by rw[List.length_drop,List.length_take];omega))).mono ?_
 rintro _ an ⟨ao,ar,au,rfl,H⟩
 refine⟨_,rfl,?_⟩
 have hE1:(bo (aN cI (((b.take ((((b.getD 0 0)+1)).toNat)).drop 1)).length 0 ⟨((b.take ((((b.getD 0 0)+1)).toNat)).drop 1),false,0⟩ []).1.e != 0)=true:=by simpa using hE
 refine Pl 5<|nt<|sq<|sg<|Pl 2<|nt<|ct hE1<|sg<|Pl 2<|?_
 refine L0<|b6 (ub H h) mZ fun av a4 a5=>Pl 1<|nt<|rt<|tr<|bF a4 (.int .i64 (bo (aN cI (((b.take ((((b.getD 0 0)+1)).toNat)).drop 1)).length 0 ⟨((b.take ((((b.getD 0 0)+1)).toNat)).drop 1),false,0⟩ []).1.e))<|?_
 have hE3:((aN cI (((b.take ((((b.getD 0 0)+1)).toNat)).drop 1)).length 0 ⟨((b.take ((((b.getD 0 0)+1)).toNat)).drop 1),false,0⟩ []).1.e != 0)=true:=ic hE
 have hs:bH cI dY 21 b=(aP.zero,bo (aN cI (((b.take ((((b.getD 0 0)+1)).toNat)).drop 1)).length 0 ⟨((b.take ((((b.getD 0 0)+1)).toNat)).drop 1),false,0⟩ []).1.e):=by
   unfold bH dj cN dY
   (try simp only[g,a,d,f,q,r,i,hE1,bs,if_true,if_false,decide_true,decide_false,hE3,fT,reduceIte])
   all_goals rfl
 rw[hs]
 exact bt (ud k (uz H a5) j)
theorem oh{A:Option Addr}{cp:Nat}{b:List Int}{w:World}{dir c:Int}(hd:dir=0∨dir=1)(hc:¬ c=20∧¬ c=21) :
    Calls Tryz.prog 96 #[.int .i64 dir,.int .u8 c,.slice A b.length cp] w (d7 (.slice A b.length cp) b (aP.zero,4) w):=by
 have g:((dir != 0)&&(dir != 1))=false:=by rcases hd with rfl | rfl<;>rfl
 have e2:((c != 20)&&(c != 21))=true:=by simp[hc.1,hc.2]
 refine en 101 Tryz.func96 rfl<|sg<|L0<|bJ mZ fun o p h i j=>Pl 1<|nt<|sq<|sg<|Pl 3<|cu 3 [14] 17 (((dir != 0)&&(dir != 1))) (fun K e=>?_) ?_
 refine bl 14 ((dir != 0)) (fun a=>?_) (fun a=>?_)
 have k:=aq a
 exact Pl 3<|ce e (dir != 1) (by rw[a];rfl)
 have k:=ai a
 exact Pl 3<|ce e false (by rw[a];rfl)
 refine nt<|cf g<|bq<|sq<|sg<|Pl 3<|cu 3 [21] 24 (((c != 20)&&(c != 21))) (fun K f=>?_) ?_
 refine bl 21 ((c != 20)) (fun d=>?_) (fun d=>?_)
 have l:=aq d
 exact Pl 3<|ce f (c != 21) (by rw[d];rfl)
 have l:=ai d
 exact Pl 3<|ce f false (by rw[d];rfl)
 refine nt<|ct e2<|sg<|Pl 1<|L0<|b6 i mZ fun q m n=>Pl 1<|nt<|rt<|tr<|bF m (.int .i64 4)<|?_
 exact bt (ud j n h)
theorem pm{A:Option Addr}{cp:Nat}{b:List Int}{w:World}{dir c:Int}(hd:¬ (dir=0∨dir=1)) :
    Calls Tryz.prog 96 #[.int .i64 dir,.int .u8 c,.slice A b.length cp] w (d7 (.slice A b.length cp) b (aP.zero,1) w):=by
 have e:((dir != 0)&&(dir != 1))=true:=by simp;omega
 refine en 101 Tryz.func96 rfl<|sg<|L0<|bJ mZ fun l m f g h=>Pl 1<|nt<|sq<|sg<|Pl 3<|cu 3 [14] 17 (((dir != 0)&&(dir != 1))) (fun K d=>?_) ?_
 refine bl 14 ((dir != 0)) (fun a=>?_) (fun a=>?_)
 have i:=aq a
 exact Pl 3<|ce d (dir != 1) (by rw[a];rfl)
 have i:=ai a
 exact Pl 3<|ce d false (by rw[a];rfl)
 refine nt<|ct e<|sg<|Pl 1<|L0<|b6 g mZ fun n j k=>Pl 1<|nt<|rt<|tr<|bF j (.int .i64 1)<|?_
 exact bt (ud h k f)
theorem ny{dir c:Int}{b:List Int}(hd:dir=0∨dir=1)(hc:¬ c=20∧¬ c=21) : ae aY dir c b=(aP.zero,4):=by
  unfold ae aY
  rw[if_pos hd,if_neg (by simpa using hc.1),if_neg (by simpa using hc.2)]
theorem pg{form:Int→Int→ah→Option (ah × aP)}{dir c:Int}{b:List Int}(hd:¬ (dir=0∨dir=1)) : ae form dir c b=(aP.zero,1):=by
  unfold ae
  rw[if_neg hd]
theorem ls{m:Md}{v:Value}{b:List Int}{w:World}{dir c:Int}(hc:B8 c)(h:bg m w v b)(hb:b.length≤1048576) :
    Calls Tryz.prog 96 #[.int .i64 dir,.int .u8 c,v] w (d7 v b (ae aY dir c b) w):=by
  have hr:=bg.range h
  obtain⟨A,cp,rfl,_,_⟩:=h.shape
  by_cases hd:dir=0∨dir=1
  · by_cases a:c=20
    · subst a
      rcases hd with rfl|rfl
      · rw[mU hr];exact qN h hb
      · rw[nq hr];exact qf h hb
    · by_cases d:c=21
      · subst d
        rw[pE hd hr];exact qh hd h hb
      · rw[ny hd ⟨a,d⟩];exact oh hd ⟨a,d⟩
  · rw[pg hd];exact pm hd
open Go.RowKit
theorem qS{k i:Nat}{C:ah}{L:List Obj}{R:ah × List Obj}(h:ee (k-i) C L=R)(hk:k-i=0) : R=(C,L):=by
  rw[hk] at h
  exact h.symm
theorem jF{m:Md}{A:Option Addr}{cp:Nat}{b:List Int}{w:World}{c:Int}(hcode:B8 c)(hsl:bg m w (.slice A b.length cp) b)(hb:b.length≤1048576) :
    Calls Tryz.prog 97 #[.int .i64 0,.int .u8 c,.slice A b.length cp] w (d7 (.slice A b.length cp) b (ae bM 0 c b) w):=by
 obtain⟨hcode1,hcode2⟩:=hcode
 have hln:(b.length:Int)≤1048576:=by omega
 refine en 176 Tryz.func97 rfl<|sg<|L0<|bJ mZ fun bB bC r k a=>Pl 1<|nt<|sq<|sg<|Pl 6<|nt<|c0<|?_
 refine bq<|sq<|sg<|Pl 2<|nt<|cb ((c != 43)) (fun j=>?_) (fun j=>?_)
 have aL:=aq j
 refine sg<|Pl 1<|L0<|b6 k mZ fun bD aM aN=>Pl 1<|nt<|rt<|tr<|bF aM (.int .i64 4)<|?_
 have hs:ae bM 0 c b=(aP.zero,4):=by
   unfold ae bM cZ fx eJ eL ei dQ dX dm
   (try simp only[j,bs,if_true,if_false,decide_true,decide_false,eq_self,true_or,or_true,or_false,false_or,if_true,if_false,ch,cc,bZ,cg,reduceIte])
   all_goals rfl
 rw[hs]
 exact bt (ud a aN r)
 have aL:=ai j
 refine bq<|sg<|Pl 2<|L0<|dt #[.slice A b.length cp,.int .i64 0,.bool false,.int .i64 0] fun s bE d Y i=>Pl 1<|ng<|Pl 1<|L0<|bJ mZ fun bG bH h aO aQ=>L0<|b6 aO (mC 43) fun aS aU aW=>?_
 refine ng<|Pl 1<|?_
 have Z:=ud aQ aW h
 have t:=aI i Z
 have a0:=aI a t
 have aX:RC w _ A cp b aS s (ah.mk b false 0):=⟨hsl,a0,(Nat.le_trans a.size d),⟨0,(ub Z Y),Nat.zero_le _,rfl⟩,by omega⟩
 refine L0<|Oc<|m3 (dC aX) fun bI aY a1 bK=>Pl 1<|?_
 have f:=nb (ak Y) lr h
 refine L0<|bU (aT a1 (Ne.symm f) aU) 16 (mG 43 0 0 0 0 0 0 0 0 0 0 0 nS nS nS nS ((ah.mk b false 0).byteV) 0 0 0 0 nS) fun bL N a2=>ng<|Pl 2<|L0<|aR N 16<|Pl 2<|cu 4 [38] 42 (((((ah.mk b false 0).byteV)==13)||(((ah.mk b false 0).byteV)==14))) (fun K a3=>?_) ?_
 refine bl 38 ((((ah.mk b false 0).byteV)==13)) (fun y=>?_) (fun y=>?_)
 have aZ:=al y
 exact Pl 4<|ce a3 true (by rw[y];rfl)
 have aZ:=ap y
 exact Pl 1<|L1<|aR N 16<|Pl 2<|ce a3 (((ah.mk b false 0).byteV)==14) (by rw[y];rfl)
 have z:=us a1 a2
 have a4:=ut a0 z (ac (ni a.size d) (ac (ni (le a.size i.size) h) au))
 refine L0<|Oc<|m2 (aV (((((ah.mk b false 0).byteV)==13)||(((ah.mk b false 0).byteV)==14))) 8 (RC.upd aY a2 (aa f ay) a4)) fun bN b0 q=>?_
 refine f8 b0 fun x55 H B=>?_
 refine nt<|sq<|bk<|sg<|Pl 1<|?_
 have O:=aT q (Ne.symm f) N
 refine L0<|aR O 16<|Pl 2<|nt<|?_
 have a5:=ud a4 q (le a.size d)
 refine cb ((((ah.mk b false 0).byteV)==13)) (fun o=>?_) (fun o=>?_)
 have b1:=al o
 refine sg<|Pl 1<|L0<|Oc<|m1 (gB B) fun bO P=>?_
 have bP:=RC.clen B
 refine Pl 1<|ng<|Pl 3<|?_
 refine L0<|Oc<|m2 (aV ((decide (((x55.l.length:Nat) : Int)≤251))) 5 (RC.upd B P ay (aE.step (RC.u B) P))) fun bQ a6 b2=>nt<|go<|Pl 2<|L0<|Oc<|mH (eY (n:=((x55.l.length:Nat) : Int)) (by omega) a6) fun a7 a8 bR b3 b4 b5=>?_
 have bS:=Nat.le_trans (ah.bytesR_le (x55.need (decide (((x55.l.length:Nat) : Int)≤251)) 5) ((x55.l.length:Nat) : Int)) (RC.clen a6)
 refine f8 b4 fun iH a9 b7=>?_
 refine Pl 1<|?_
 have ab:=uz P (u1 b2 b5 im)
 refine L0<|bU (aT ab (Ne.symm f) O) 14 (mG 43 0 0 0 0 0 0 0 0 0 0 0 nS nS (.slice a7 (((x55.need (decide (((x55.l.length:Nat) : Int)≤251)) 5).bytesR ((x55.l.length:Nat) : Int)).length) a8) nS ((ah.mk b false 0).byteV) 0 0 0 0 nS) fun bT b9 ad=>nl<|bn<|tn<|sg<|Pl 1<|?_
 have Q:=us ab ad
 have af:=ut a5 Q (ac (ni a.size d) (ac (ni (le a.size i.size) h) au))
 refine L0<|Oc<|m2 (dT (RC.upd b7 ad (aa f ay) af)) fun bV R I=>nt<|sq<|sg<|Pl 3<|L0<|dZ (p:=⟨s,3,none⟩) (v:=.int .i64 iH.endC.e) (RC.fld R)<|Pl 1<|nt<|?_
 have ag:=ud af I (le a.size d)
 refine cb ((iH.endC.e != 0)) (fun C=>?_) (fun C=>?_)
 have S:=aq C
 refine sq<|Rg 7 (fun w'=>w'.cell? ⟨s,3,none⟩=some (.int .i64 iH.endC.e)) fun bW J=>?_
 have aj:=RC.upd R J ay (aE.step (RC.u R) J)
 refine bh (RC.fld aj) fun D=>Rt 0 D<|Rt 1 D<|Rt 2 D<|Rt 3 D<|Rl 4 D (fun _ hs=>hs)<|?_
 refine R0 5 rfl<|b6 (ub (ut t (ut z (ui q (u1 Q (aI I J) im)) (ac im (ac im au))) (ac (nr d) (ac (ni i.size h) au))) k) mZ fun bX ba am=>?_
 have an:=ud ag (uz J am) r
 refine bh (RC.fld (RC.upd aj am (aa (Ne.symm (nb (ak k) lr d)) ay) an)) fun bb=>Rt 6 bb<|re<|tn<|rt<|tr<|bF ba (.int .i64 iH.endC.e)<|?_
 have hs:ae bM 0 c b=aF (aP.mk 43 0 0 0 0 0 0 0 0 0 0 0 [] [] ((x55.need (decide (((x55.l.length:Nat) : Int)≤251)) 5).bytesR ((x55.l.length:Nat) : Int)) [] ((ah.mk b false 0).byteV) 0 0 0 0 []) iH:=by
   subst a9 H
   unfold ae bM cZ fx eJ eL ei dQ dX dm
   (try simp only[j,o,C,bs,if_true,if_false,decide_true,decide_false,eq_self,true_or,or_true,or_false,false_or,if_true,if_false,ch,cc,bZ,cg,reduceIte])
   all_goals rfl
 rw[hs]
 exact bf S an
 have S:=ai C
 refine bq<|sg<|?_
 refine L0<|cj (aT I (Ne.symm f) b9)<|?_
 refine L0<|b6 (ub (ut t (ut z (ui q (u1 Q I im)) (ac im (ac im au))) (ac (nr d) (ac (ni i.size h) au))) k) (mG 43 0 0 0 0 0 0 0 0 0 0 0 nS nS (.slice a7 (((x55.need (decide (((x55.l.length:Nat) : Int)≤251)) 5).bytesR ((x55.l.length:Nat) : Int)).length) a8) nS ((ah.mk b false 0).byteV) 0 0 0 0 nS) fun bY bc bd=>Pl 1<|nt<|rt<|bF bc (.int .i64 0)<|?_
 have hs:ae bM 0 c b=aF (aP.mk 43 0 0 0 0 0 0 0 0 0 0 0 [] [] ((x55.need (decide (((x55.l.length:Nat) : Int)≤251)) 5).bytesR ((x55.l.length:Nat) : Int)) [] ((ah.mk b false 0).byteV) 0 0 0 0 []) iH:=by
   subst a9 H
   unfold ae bM cZ fx eJ eL ei dQ dX dm
   (try simp only[j,o,C,bs,if_true,if_false,decide_true,decide_false,eq_self,true_or,or_true,or_false,false_or,if_true,if_false,ch,cc,bZ,cg,reduceIte])
   all_goals rfl
 rw[hs]
 exact bj S ⟨_,_,_,_,_,rfl,aK.nil ..,aK.nil ..,b3,aK.nil ..,aK.nil ..,⟨(b8 (x:=43) (by omega)),(b8 (x:=0) (by omega)),(aB (x:=0) (by omega)),(aB (x:=0) (by omega)),(aB (x:=0) (by omega)),(aB (x:=0) (by omega)),(aB (x:=0) (by omega)),(aB (x:=0) (by omega)),(aB (x:=0) (by omega)),(aB (x:=0) (by omega)),(aB (x:=0) (by omega)),(aB (x:=0) (by omega)),(b8 (x:=(ah.mk b false 0).byteV) (by omega)),(b8 (x:=0) (by omega)),(b8 (x:=0) (by omega)),(b8 (x:=0) (by omega)),(b8 (x:=0) (by omega))⟩⟩ (ud ag bd r)
 have b1:=ap o
 refine sg<|Pl 3<|nt<|c1<|sg<|Pl 1<|L0<|Oc<|m3 (dC B) fun c2 be ao c3=>Pl 1<|?_
 refine L0<|bU (aT ao (Ne.symm f) O) 17 (mG 43 0 0 0 0 0 0 0 0 0 0 0 nS nS nS nS ((ah.mk b false 0).byteV) x55.byteV 0 0 0 nS) fun c4 T ar=>ng<|Pl 2<|L0<|aR T 17<|Pl 2<|cu 4 [154] 158 (((decide (0<x55.byteV))&&(decide (x55.byteV<5)))) (fun K av=>?_) ?_
 refine bl 154 ((decide (0<x55.byteV))) (fun E=>?_) (fun E=>?_)
 have bi:=of_decide_eq_true E
 exact Pl 1<|L1<|aR T 17<|Pl 2<|ce av (decide (x55.byteV<5)) (by rw[E];rfl)
 have bi:=of_decide_eq_false E
 exact Pl 4<|ce av false (by rw[E];rfl)
 have U:=us ao ar
 have aw:=ut a5 U (ac (ni a.size d) (ac (ni (le a.size i.size) h) au))
 refine L0<|Oc<|m2 (aV (((decide (0<x55.byteV))&&(decide (x55.byteV<5)))) 6 (RC.upd be ar (aa f ay) aw)) fun c5 bm bo=>?_
 refine f8 bm fun g ax bp=>?_
 refine nt<|go<|Pl 1<|L0<|Oc<|m3 (dC bp) fun c6 br bu c7=>Pl 1<|?_
 have az:=u1 bo bu im
 refine L0<|bU (aT az (Ne.symm f) T) 20 (mG 43 0 0 0 0 0 0 0 0 0 0 0 nS nS nS nS ((ah.mk b false 0).byteV) x55.byteV 0 0 g.byteV nS) fun c8 bv aA=>nl<|bn<|tn<|sg<|Pl 1<|?_
 have V:=us az aA
 have aC:=ut aw V (ac (ni a.size d) (ac (ni (le a.size i.size) h) au))
 refine L0<|Oc<|m2 (dT (RC.upd br aA (aa f ay) aC)) fun c9 W L=>nt<|sq<|sg<|Pl 3<|L0<|dZ (p:=⟨s,3,none⟩) (v:=.int .i64 (((g.bytesC 1).endC).e)) (RC.fld W)<|Pl 1<|nt<|?_
 have aD:=ud aC L (le a.size d)
 refine cb (((((g.bytesC 1).endC).e)!=0)) (fun F=>?_) (fun F=>?_)
 have X:=aq F
 refine sq<|Rg 7 (fun w'=>w'.cell? ⟨s,3,none⟩=some (.int .i64 (((g.bytesC 1).endC).e))) fun ca M=>?_
 have aG:=RC.upd W M ay (aE.step (RC.u W) M)
 refine bh (RC.fld aG) fun G=>Rt 0 G<|Rt 1 G<|Rt 2 G<|Rt 3 G<|Rl 4 G (fun _ hs=>hs)<|?_
 refine R0 5 rfl<|b6 (ub (ut t (ut z (ui q (ut U (u1 V (aI L M) im) (ac im (ac im au)))) (ac im (ac im au))) (ac (nr d) (ac (ni i.size h) au))) k) mZ fun cd bw aH=>?_
 have aJ:=ud aD (uz M aH) r
 refine bh (RC.fld (RC.upd aG aH (aa (Ne.symm (nb (ak k) lr d)) ay) aJ)) fun bx=>Rt 6 bx<|re<|tn<|rt<|tr<|bF bw (.int .i64 (((g.bytesC 1).endC).e))<|?_
 have hs:ae bM 0 c b=aF (aP.mk 43 0 0 0 0 0 0 0 0 0 0 0 [] [] [] [] ((ah.mk b false 0).byteV) x55.byteV 0 0 g.byteV []) (g.bytesC 1):=by
   subst ax H
   unfold ae bM cZ fx eJ eL ei dQ dX dm
   (try simp only[j,o,F,bs,if_true,if_false,decide_true,decide_false,eq_self,true_or,or_true,or_false,false_or,if_true,if_false,ch,cc,bZ,cg,reduceIte])
   all_goals rfl
 rw[hs]
 exact bf X aJ
 have X:=ai F
 refine bq<|sg<|?_
 refine L0<|cj (aT L (Ne.symm f) bv)<|?_
 refine L0<|b6 (ub (ut t (ut z (ui q (ut U (u1 V L im) (ac im (ac im au)))) (ac im (ac im au))) (ac (nr d) (ac (ni i.size h) au))) k) (mG 43 0 0 0 0 0 0 0 0 0 0 0 nS nS nS nS ((ah.mk b false 0).byteV) x55.byteV 0 0 g.byteV nS) fun cf bz bA=>Pl 1<|nt<|rt<|bF bz (.int .i64 0)<|?_
 have hs:ae bM 0 c b=aF (aP.mk 43 0 0 0 0 0 0 0 0 0 0 0 [] [] [] [] ((ah.mk b false 0).byteV) x55.byteV 0 0 g.byteV []) (g.bytesC 1):=by
   subst ax H
   unfold ae bM cZ fx eJ eL ei dQ dX dm
   (try simp only[j,o,F,bs,if_true,if_false,decide_true,decide_false,eq_self,true_or,or_true,or_false,false_or,if_true,if_false,ch,cc,bZ,cg,reduceIte])
   all_goals rfl
 rw[hs]
 exact bj X ⟨_,_,_,_,_,rfl,aK.nil ..,aK.nil ..,(fun _ _ _=>aK.nil ..),aK.nil ..,aK.nil ..,⟨(b8 (x:=43) (by omega)),(b8 (x:=0) (by omega)),(aB (x:=0) (by omega)),(aB (x:=0) (by omega)),(aB (x:=0) (by omega)),(aB (x:=0) (by omega)),(aB (x:=0) (by omega)),(aB (x:=0) (by omega)),(aB (x:=0) (by omega)),(aB (x:=0) (by omega)),(aB (x:=0) (by omega)),(aB (x:=0) (by omega)),(b8 (x:=(ah.mk b false 0).byteV) (by omega)),(b8 (x:=x55.byteV) (by omega)),(b8 (x:=0) (by omega)),(b8 (x:=0) (by omega)),(b8 (x:=g.byteV) (by omega))⟩⟩ (ud aD bA r)
theorem jB{m:Md}{A:Option Addr}{cp:Nat}{b:List Int}{w:World}{c:Int}(hcode:B8 c)(hsl:bg m w (.slice A b.length cp) b)(hb:b.length≤1048576) :
    Calls Tryz.prog 97 #[.int .i64 1,.int .u8 c,.slice A b.length cp] w (d7 (.slice A b.length cp) b (ae bM 1 c b) w):=by
 obtain⟨hcode1,hcode2⟩:=hcode
 have hln:(b.length:Int)≤1048576:=by omega
 refine en 176 Tryz.func97 rfl<|sg<|L0<|bJ mZ fun a1 dL M y a=>Pl 1<|nt<|sq<|sg<|Pl 6<|nt<|c0<|?_
 refine bq<|sq<|sg<|Pl 2<|nt<|cb ((c != 43)) (fun z=>?_) (fun z=>?_)
 have cF:=aq z
 refine sg<|Pl 1<|L0<|b6 y mZ fun dM cG cH=>Pl 1<|nt<|rt<|tr<|bF cG (.int .i64 4)<|?_
 have hs:ae bM 1 c b=(aP.zero,4):=by
   unfold ae bM cZ fx eJ eL ei dQ dX dm
   (try simp only[z,bs,if_true,if_false,decide_true,decide_false,eq_self,true_or,or_true,or_false,false_or,if_true,if_false,ch,cc,bZ,cg,reduceIte])
   all_goals rfl
 rw[hs]
 exact bt (ud a cH M)
 have cF:=ai z
 refine bq<|sg<|Pl 2<|L0<|dt #[.slice A b.length cp,.int .i64 0,.bool false,.int .i64 0] fun t dN f b2 o=>Pl 1<|ng<|Pl 1<|L0<|bJ mZ fun G dO q cI b3=>L0<|b6 cI (mC 43) fun cJ cK b4=>?_
 refine ng<|Pl 1<|?_
 have b5:=ud b3 b4 q
 have a2:=aI o b5
 have b7:=aI a a2
 have cL:RC w _ A cp b cJ t (ah.mk b false 0):=⟨hsl,b7,(Nat.le_trans a.size f),⟨0,(ub b5 b2),Nat.zero_le _,rfl⟩,by omega⟩
 refine L0<|Oc<|m3 (dC cL) fun dP cM ab dR=>Pl 1<|?_
 have g:=nb (ak b2) lr q
 refine L0<|bU (aT ab (Ne.symm g) cK) 16 (mG 43 0 0 0 0 0 0 0 0 0 0 0 nS nS nS nS ((ah.mk b false 0).byteV) 0 0 0 0 nS) fun dS ad af=>ng<|Pl 2<|L0<|aR ad 16<|Pl 2<|cu 4 [38] 42 (((((ah.mk b false 0).byteV)==13)||(((ah.mk b false 0).byteV)==14))) (fun K b9=>?_) ?_
 refine bl 38 ((((ah.mk b false 0).byteV)==13)) (fun N=>?_) (fun N=>?_)
 have cN:=al N
 exact Pl 4<|ce b9 true (by rw[N];rfl)
 have cN:=ap N
 exact Pl 1<|L1<|aR ad 16<|Pl 2<|ce b9 (((ah.mk b false 0).byteV)==14) (by rw[N];rfl)
 have a3:=us ab af
 have ba:=ut b7 a3 (ac (ni a.size f) (ac (ni (le a.size o.size) q) au))
 refine L0<|Oc<|m2 (aV (((((ah.mk b false 0).byteV)==13)||(((ah.mk b false 0).byteV)==14))) 8 (RC.upd cM af (aa g ay) ba)) fun dU cO H=>?_
 refine f8 cO fun x55 a4 O=>?_
 refine nt<|sq<|bk<|sg<|Pl 1<|?_
 have ag:=aT H (Ne.symm g) ad
 refine L0<|aR ag 16<|Pl 2<|nt<|?_
 have bb:=ud ba H (le a.size f)
 refine cb ((((ah.mk b false 0).byteV)==13)) (fun E=>?_) (fun E=>?_)
 have cP:=al E
 refine sg<|Pl 1<|L0<|Oc<|m1 (gB O) fun dV aj=>?_
 have dW:=RC.clen O
 refine Pl 1<|ng<|Pl 3<|?_
 refine L0<|Oc<|m2 (aV ((decide (((x55.l.length:Nat) : Int)≤251))) 5 (RC.upd O aj ay (aE.step (RC.u O) aj))) fun dY bc cQ=>nt<|go<|Pl 2<|L0<|Oc<|mH (eY (n:=((x55.l.length:Nat) : Int)) (by omega) bc) fun bd bm e0 cR cS cT=>?_
 have e1:=Nat.le_trans (ah.bytesR_le (x55.need (decide (((x55.l.length:Nat) : Int)≤251)) 5) ((x55.l.length:Nat) : Int)) (RC.clen bc)
 refine f8 cS fun iH bo cU=>?_
 refine Pl 1<|?_
 have bp:=uz aj (u1 cQ cT im)
 refine L0<|bU (aT bp (Ne.symm g) ag) 14 (mG 43 0 0 0 0 0 0 0 0 0 0 0 nS nS (.slice bd (((x55.need (decide (((x55.l.length:Nat) : Int)≤251)) 5).bytesR ((x55.l.length:Nat) : Int)).length) bm) nS ((ah.mk b false 0).byteV) 0 0 0 0 nS) fun e2 cV br=>nl<|bn<|tn<|sg<|Pl 1<|?_
 have am:=us bp br
 have bu:=ut bb am (ac (ni a.size f) (ac (ni (le a.size o.size) q) au))
 refine L0<|Oc<|m2 (dT (RC.upd cU br (aa g ay) bu)) fun e3 an a5=>nt<|sq<|sg<|Pl 3<|L0<|dZ (p:=⟨t,3,none⟩) (v:=.int .i64 iH.endC.e) (RC.fld an)<|Pl 1<|nt<|?_
 have bv:=ud bu a5 (le a.size f)
 refine cb ((iH.endC.e != 0)) (fun P=>?_) (fun P=>?_)
 have ao:=aq P
 refine sq<|Rg 7 (fun w'=>w'.cell? ⟨t,3,none⟩=some (.int .i64 iH.endC.e)) fun e4 a6=>?_
 have bw:=RC.upd an a6 ay (aE.step (RC.u an) a6)
 refine bh (RC.fld bw) fun Q=>Rt 0 Q<|Rt 1 Q<|Rt 2 Q<|Rt 3 Q<|Rl 4 Q (fun _ hs=>hs)<|?_
 refine R0 5 rfl<|b6 (ub (ut a2 (ut a3 (ui H (u1 am (aI a5 a6) im)) (ac im (ac im au))) (ac (nr f) (ac (ni o.size q) au))) y) mZ fun e5 cW bz=>?_
 have bA:=ud bv (uz a6 bz) M
 refine bh (RC.fld (RC.upd bw bz (aa (Ne.symm (nb (ak y) lr f)) ay) bA)) fun cX=>Rt 6 cX<|re<|tn<|rt<|tr<|bF cW (.int .i64 iH.endC.e)<|?_
 have hs:ae bM 1 c b=aF (aP.mk 43 0 0 0 0 0 0 0 0 0 0 0 [] [] ((x55.need (decide (((x55.l.length:Nat) : Int)≤251)) 5).bytesR ((x55.l.length:Nat) : Int)) [] ((ah.mk b false 0).byteV) 0 0 0 0 []) iH:=by
   subst bo a4
   unfold ae bM cZ fx eJ eL ei dQ dX dm
   (try simp only[z,E,P,bs,if_true,if_false,decide_true,decide_false,eq_self,true_or,or_true,or_false,false_or,if_true,if_false,ch,cc,bZ,cg,reduceIte])
   all_goals rfl
 rw[hs]
 exact bf ao bA
 have ao:=ai P
 refine bq<|sg<|?_
 refine L0<|cj (aT a5 (Ne.symm g) cV)<|?_
 refine L0<|b6 (ub (ut a2 (ut a3 (ui H (u1 am a5 im)) (ac im (ac im au))) (ac (nr f) (ac (ni o.size q) au))) y) (mG 43 0 0 0 0 0 0 0 0 0 0 0 nS nS (.slice bd (((x55.need (decide (((x55.l.length:Nat) : Int)≤251)) 5).bytesR ((x55.l.length:Nat) : Int)).length) bm) nS ((ah.mk b false 0).byteV) 0 0 0 0 nS) fun e6 cY d0=>Pl 1<|nt<|rt<|bF cY (.int .i64 0)<|?_
 have hs:ae bM 1 c b=aF (aP.mk 43 0 0 0 0 0 0 0 0 0 0 0 [] [] ((x55.need (decide (((x55.l.length:Nat) : Int)≤251)) 5).bytesR ((x55.l.length:Nat) : Int)) [] ((ah.mk b false 0).byteV) 0 0 0 0 []) iH:=by
   subst bo a4
   unfold ae bM cZ fx eJ eL ei dQ dX dm
   (try simp only[z,E,P,bs,if_true,if_false,decide_true,decide_false,eq_self,true_or,or_true,or_false,false_or,if_true,if_false,ch,cc,bZ,cg,reduceIte])
   all_goals rfl
 rw[hs]
 exact bj ao ⟨_,_,_,_,_,rfl,aK.nil ..,aK.nil ..,cR,aK.nil ..,aK.nil ..,⟨(b8 (x:=43) (by omega)),(b8 (x:=0) (by omega)),(aB (x:=0) (by omega)),(aB (x:=0) (by omega)),(aB (x:=0) (by omega)),(aB (x:=0) (by omega)),(aB (x:=0) (by omega)),(aB (x:=0) (by omega)),(aB (x:=0) (by omega)),(aB (x:=0) (by omega)),(aB (x:=0) (by omega)),(aB (x:=0) (by omega)),(b8 (x:=(ah.mk b false 0).byteV) (by omega)),(b8 (x:=0) (by omega)),(b8 (x:=0) (by omega)),(b8 (x:=0) (by omega)),(b8 (x:=0) (by omega))⟩⟩ (ud bv d0 M)
 have cP:=ap E
 refine sg<|Pl 3<|nt<|c0<|sg<|Pl 1<|L0<|Oc<|m3 (dC O) fun e7 d1 ar e8=>Pl 1<|?_
 refine L0<|bU (aT ar (Ne.symm g) ag) 17 (mG 43 0 0 0 0 0 0 0 0 0 0 0 nS nS nS nS ((ah.mk b false 0).byteV) x55.byteV 0 0 0 nS) fun e9 aw az=>ng<|Pl 2<|L0<|aR aw 17<|Pl 2<|cu 4 [51] 55 (((decide (0<x55.byteV))&&(decide (x55.byteV<5)))) (fun K bB=>?_) ?_
 refine bl 51 ((decide (0<x55.byteV))) (fun S=>?_) (fun S=>?_)
 have d2:=of_decide_eq_true S
 exact Pl 1<|L1<|aR aw 17<|Pl 2<|ce bB (decide (x55.byteV<5)) (by rw[S];rfl)
 have d2:=of_decide_eq_false S
 exact Pl 4<|ce bB false (by rw[S];rfl)
 have bC:=us ar az
 have bD:=ut bb bC (ac (ni a.size f) (ac (ni (le a.size o.size) q) au))
 refine L0<|Oc<|m2 (aV (((decide (0<x55.byteV))&&(decide (x55.byteV<5)))) 6 (RC.upd d1 az (aa g ay) bD)) fun ea d3 bE=>?_
 refine f8 d3 fun j bG d4=>?_
 refine ng<|Pl 1<|L0<|Oc<|m3 (dC d4) fun eb d5 bH ec=>Pl 1<|?_
 have bI:=u1 bE bH im
 refine L0<|bU (aT bI (Ne.symm g) aw) 18 (mG 43 0 0 0 0 0 0 0 0 0 0 0 nS nS nS nS ((ah.mk b false 0).byteV) x55.byteV j.byteV 0 0 nS) fun ed bK aA=>ng<|Pl 1<|L0<|aR bK 18<|L0<|Oe (.int .u8 (Int.tmod j.byteV 128)) (.int .u8 (j.byteV%128)) (congrArg (Value.int .u8) (Int.tmod_eq_emod_of_nonneg (by omega)))<|Pl 1<|ng<|Pl 4<|cu 3 [66] 69 (((decide (1≤(j.byteV%128)))&&(decide ((j.byteV%128)≤3)))) (fun K bL=>?_) ?_
 refine bl 66 ((decide (1≤(j.byteV%128)))) (fun T=>?_) (fun T=>?_)
 have d6:=of_decide_eq_true T
 exact Pl 3<|ce bL (decide ((j.byteV%128)≤3)) (by rw[T];rfl)
 have d6:=of_decide_eq_false T
 exact Pl 3<|ce bL false (by rw[T];rfl)
 have bN:=us bI aA
 have bO:=ut bD bN (ac (ni a.size f) (ac (ni (le a.size o.size) q) au))
 refine L0<|Oc<|m2 (aV (((decide (1≤(j.byteV%128)))&&(decide ((j.byteV%128)≤3)))) 6 (RC.upd d5 aA (aa g ay) bO)) fun ef d8 bP=>?_
 refine f8 d8 fun k bQ d9=>?_
 refine ng<|Pl 1<|L0<|Oc<|m3 (dC d9) fun eg da bR eh=>Pl 1<|?_
 have bS:=u1 bP bR im
 refine L0<|bU (aT bS (Ne.symm g) bK) 19 (mG 43 0 0 0 0 0 0 0 0 0 0 0 nS nS nS nS ((ah.mk b false 0).byteV) x55.byteV j.byteV k.byteV 0 nS) fun ej aD aG=>ng<|Pl 2<|L0<|aR aD 19<|Pl 2<|cu 4 [78] 82 (((k.byteV==0)||(k.byteV==255))) (fun K bT=>?_) ?_
 refine bl 78 ((k.byteV==0)) (fun U=>?_) (fun U=>?_)
 have db:=al U
 exact Pl 4<|ce bT true (by rw[U];rfl)
 have db:=ap U
 exact Pl 1<|L1<|aR aD 19<|Pl 2<|ce bT (k.byteV==255) (by rw[U];rfl)
 have bV:=us bS aG
 have bW:=ut bO bV (ac (ni a.size f) (ac (ni (le a.size o.size) q) au))
 refine L0<|Oc<|m2 (aV (((k.byteV==0)||(k.byteV==255))) 6 (RC.upd da aG (aa g ay) bW)) fun ek dc bX=>?_
 refine f8 dc fun s bY dd=>?_
 refine ng<|Pl 1<|L0<|Oc<|m3 (dC dd) fun el de c1 em=>Pl 1<|?_
 have c2:=u1 bX c1 im
 refine L0<|bU (aT c2 (Ne.symm g) aD) 20 (mG 43 0 0 0 0 0 0 0 0 0 0 0 nS nS nS nS ((ah.mk b false 0).byteV) x55.byteV j.byteV k.byteV s.byteV nS) fun eo a7 aH=>ng<|Pl 2<|L0<|aR a7 20<|Pl 2<|cu 4 [91] 95 (((s.byteV==0)||(k.byteV==255))) (fun K c3=>?_) ?_
 refine bl 91 ((s.byteV==0)) (fun V=>?_) (fun V=>?_)
 have df:=al V
 exact Pl 4<|ce c3 true (by rw[V];rfl)
 have df:=ap V
 exact Pl 1<|L1<|aR a7 19<|Pl 2<|ce c3 (k.byteV==255) (by rw[V];rfl)
 have c4:=us c2 aH
 have c5:=ut bW c4 (ac (ni a.size f) (ac (ni (le a.size o.size) q) au))
 refine L0<|Oc<|m2 (aV (((s.byteV==0)||(k.byteV==255))) 6 (RC.upd de aH (aa g ay) c5)) fun ep dg aJ=>?_
 refine f8 dg fun d c6 dh=>?_
 refine ng<|Pl 1<|L0<|Oc<|m3 (dC dh) fun eq di aL er=>L0<|Oi d.byteV<|Pl 1<|ng<|Pl 4<|cu 4 [103] 107 (((d.byteV==1)||(x55.byteV != 4))) (fun K c7=>?_) ?_
 refine bl 103 ((d.byteV==1)) (fun W=>?_) (fun W=>?_)
 have dj:=al W
 exact Pl 4<|ce c7 true (by rw[W];rfl)
 have dj:=ap W
 refine Pl 1<|?_
 exact L1<|aR (aT (u1 aJ aL im) (Ne.symm g) a7) 17<|Pl 2<|ce c7 (x55.byteV != 4) (by rw[W];rfl)
 refine L0<|Oc<|m2 (aV (((d.byteV==1)||(x55.byteV != 4))) 5 di) fun dk dn c8=>?_
 refine f8 dn fun F c9 dp=>?_
 refine ng<|Pl 1<|nt<|bk<|?_
 have hKr:0≤d.byteV∧d.byteV<256:=by omega
 have aM:=u1 aJ (u1 aL c8 im) im
 refine jw (fun x=>[(6,.pointer (some ⟨a1,0,none⟩)),(7,.int .i64 0),(8,.pointer (some ⟨t,0,none⟩)),(9,.pointer (some ⟨G,0,none⟩)),(12,.int .i64 d.byteV),(13,.int .i64 ((x.1:Nat) : Int))]) (fun(x:Nat × ah × List Obj × Option Addr × Nat) w'=>aE [] w w'∧dk.heap.size≤w'.heap.size∧w'.heap[a1]? = some (.cells mZ 30 (0,0))∧RC w m A cp b w' t x.2.1∧w'.heap[G]? = some (.cells (mG 43 0 0 0 0 0 0 0 0 0 0 0 nS nS nS nS ((ah.mk b false 0).byteV) x55.byteV j.byteV k.byteV s.byteV (.slice x.2.2.2.1 x.2.2.1.length x.2.2.2.2)) 30 (0,0))∧be w.heap.size 111 2 (mv (.slice A b.length cp) b) w' (.slice x.2.2.2.1 x.2.2.1.length x.2.2.2.2) x.2.2.1∧(x.1≤d.byteV.toNat)∧(x.2.2.1.length=x.1)∧(ee (d.byteV.toNat-x.1) x.2.1 x.2.2.1=ee d.byteV.toNat F [])) (fun x=>d.byteV.toNat-x.1) (0,F,[],none,0) ⟨(ud c5 aM (le a.size f)),lr,(ub (ut a2 (ut a3 (ui H (ut bC (ut bN (ut bV (u1 c4 aM im) (ac im (ac im au))) (ac im (ac im au))) (ac im (ac im au)))) (ac im (ac im au))) (ac (nr f) (ac (ni o.size q) au))) y),dp,(aT aM (Ne.symm g) a7),(be.nil w.heap.size _ _ (mv (.slice A b.length cp) b) _),(by(try dsimp only);omega),rfl,rfl⟩ ?_
 rintro⟨i,C,L,B,cq⟩ a8 ⟨ca,cd,dq,dr,ds,du,dv,dw,dx⟩
 refine jr [(6,.pointer (some ⟨a1,0,none⟩)),(7,.int .i64 0),(8,.pointer (some ⟨t,0,none⟩)),(9,.pointer (some ⟨G,0,none⟩)),(12,.int .i64 d.byteV),(13,.int .i64 ((i:Nat) : Int))] ?_
 have I:a8.heap[a1]? = some (.cells mZ 30 (0,0)):=dq
 have D:RC w m A cp b a8 t C:=dr
 have hlC:=RC.clen D
 have hrC:gP C:=RC.rng D
 have hbv:=gC hrC
 have hbv2:=gC (ge hrC (n:=1))
 have cf:a8.heap[G]? = some (.cells (mG 43 0 0 0 0 0 0 0 0 0 0 0 nS nS nS nS ((ah.mk b false 0).byteV) x55.byteV j.byteV k.byteV s.byteV (.slice B L.length cq)) 30 (0,0)):=ds
 have r:be w.heap.size 111 2 (mv (.slice A b.length cp) b) a8 (.slice B L.length cq) L:=du
 have es:i≤d.byteV.toNat:=dv
 have et:L.length=i:=dw
 have ci:ee (d.byteV.toNat-i) C L=ee d.byteV.toNat F []:=dx
 refine sq<|sg<|Pl 3<|nt<|cb ((decide (((i:Nat) : Int)<d.byteV))) (fun X=>?_) (fun X=>?_)
 have dz:=of_decide_eq_true X
 refine bq<|sq<|bk<|sg<|Pl 1<|L0<|Oc<|m3 (dC D) fun eu dA aN ev=>Pl 1<|ng<|Pl 1<|L0<|Oc<|m3 (dC dA) fun ew ck aO ex=>?_
 refine L0<|Oi ((C.bytesC 1).byteV)<|Pl 1<|ng<|Pl 2<|L0<|Oc<|mH (eY (n:=(C.bytesC 1).byteV) (by omega) ck) fun dB dD ey dE cl aQ=>?_
 have ez:=Nat.le_trans (ah.bytesR_le ((C.bytesC 1).bytesC 1) ((C.bytesC 1).byteV)) (RC.clen ck)
 refine Pl 1<|nt<|go<|Pl 1<|?_
 have aS:=u1 aN (u1 aO aQ im) im
 have aW:=aT aS (Ne.symm g) cf
 refine L0<|aR aW 21<|Pl 3<|L0<|dy (m:=1) (e:=111) #[.int .u8 C.byteV,.slice dB ((((C.bytesC 1).bytesC 1).bytesR ((C.bytesC 1).byteV)).length) dD] fun eA eB eC dF J=>?_
 have cm:=RC.upd cl J ay (aE.step (RC.u cl) J)
 have dG:=iw (R:=mv (.slice A b.length cp) b) (x:=(Obj.mk C.byteV (((C.bytesC 1).bytesC 1).bytesR ((C.bytesC 1).byteV)))) dF rfl ⟨_,_,_,rfl,dE,b8 (x:=C.byteV) (by omega)⟩
 have cn:=aI aS J
 have co:=ax r cn (fun x hx=>(aa (fun e=>(RC.nrow D r (by decide)) (e▸hx)) ay)) (fun _ _ h=>h)
 refine L0<|fS (xs:=L) (ys:=([(Obj.mk C.byteV (((C.bytesC 1).bytesC 1).bytesR ((C.bytesC 1).byteV)))])) (.agg #[.int .u8 0,.slice none 0 0]) 2 32 co dG (by simp) mv.ones (fun _ _ _ _ h=>h) (by(try simp only[List.length_append,List.length_cons,List.length_nil,aC]);omega) (le (le (le (le (le (le (le (le (le (le (le (le (le (le (le (le (le (le (le (le (le (le (le (le (le a.size o.size) b3.size) b4.size) ab.size) af.size) H.size) ar.size) az.size) bE.size) bH.size) aA.size) bP.size) bR.size) aG.size) bX.size) c1.size) aH.size) aJ.size) aL.size) c8.size) cd) aN.size) aO.size) aQ.size) J.size) fun cr cs eD ct aX=>Pl 1<|?_
 have cv:=aE.blk (ut (aE.mono (S':=(ob B++[])) J au) aX (av il au)) (bi (dl aW (ax r aS (fun x hx=>(aa (fun e=>(RC.nrow D r (by decide)) (e▸hx)) ay)) (fun _ _ h=>h)) (by decide)) ay) aW
 refine L0<|bU cv 21 (mG 43 0 0 0 0 0 0 0 0 0 0 0 nS nS nS nS ((ah.mk b false 0).byteV) x55.byteV j.byteV k.byteV s.byteV (.slice cr ((L++[(Obj.mk C.byteV (((C.bytesC 1).bytesC 1).bytesR ((C.bytesC 1).byteV)))]).length) cs)) fun eE dH aY=>nl<|bn<|tn<|go<|Pl 1<|L0<|Oi (((i:Nat) : Int)+1)<|Pl 1<|nl<|?_
 have cw:=u1 (aE.mono (S':=(ob B++(G :: []))) aX (av il au)) aY im
 have cx:=ut (aE.mono (S':=(t :: (ob B++(G :: [])))) cn (ac im au)) cw (av il (ac im au))
 have cy:=ut ca cx (ac (ni a.size f) (av (aU r lr) (ac (ni (le a.size o.size) q) au)))
 exact gt ((i+1),(((C.bytesC 1).bytesC 1).bytesC ((C.bytesC 1).byteV)),(L++[(Obj.mk C.byteV (((C.bytesC 1).bytesC 1).bytesR ((C.bytesC 1).byteV)))]),cr,cs) ⟨cy,(le (le (le (le (le (le cd aN.size) aO.size) aQ.size) J.size) aX.size) aY.size),(aE.blk cx (aa (nb (ak y) lr f) (bi (dl I r (by decide)) (aa (nb (ak y) o.size q) ay))) I),(RC.upd cm cw (bi (RC.nrow cm co (by decide)) (aa g ay)) cy),dH,(ax ct aY (fun x hx=>(aa (fun e=>(dl cv ct (by decide)) (e▸hx)) ay)) (fun _ _ h=>h)),(by(try dsimp only);omega),(by(try dsimp only);simp only[List.length_append,List.length_cons,List.length_nil];omega),(by(try dsimp only);rw[← ci,show d.byteV.toNat-i=(d.byteV.toNat-(i+1))+1 from by omega];rfl)⟩ (by omega)
 have dz:=of_decide_eq_false X
 refine xt<|tx<|tx<|bx<|bn<|tn<|sg<|Pl 1<|?_
 have hR:=qS ci (by omega)
 refine L0<|Oc<|m2 (dT D) fun eF aZ Y=>nt<|sq<|sg<|Pl 3<|L0<|dZ (p:=⟨t,3,none⟩) (v:=.int .i64 C.endC.e) (RC.fld aZ)<|Pl 1<|nt<|?_
 have cz:=ud ca Y (le a.size f)
 refine cb ((C.endC.e != 0)) (fun Z=>?_) (fun Z=>?_)
 have b0:=aq Z
 refine sq<|Rg 7 (fun w'=>w'.cell? ⟨t,3,none⟩=some (.int .i64 C.endC.e)) fun eG a9=>?_
 have cA:=RC.upd aZ a9 ay (aE.step (RC.u aZ) a9)
 refine bh (RC.fld cA) fun a0=>Rt 0 a0<|Rt 1 a0<|Rt 2 a0<|Rt 3 a0<|Rl 4 a0 (fun _ hs=>hs)<|?_
 have cB:=aI Y a9
 have cC:=nb (ak y) lr f
 refine R0 5 rfl<|b6 (aT cB cC I) mZ fun eH dI b1=>?_
 have cD:=ud cz (uz a9 b1) M
 refine bh (RC.fld (RC.upd cA b1 (aa (Ne.symm cC) ay) cD)) fun dJ=>Rt 6 dJ<|re<|tn<|rt<|tr<|bF dI (.int .i64 C.endC.e)<|?_
 have eI:=ax r (us cB b1) (fun x hx=>(aa (fun e=>(RC.nrow D r (by decide)) (e▸hx)) (aa (fun e=>(dl I r (by decide)) (e▸hx)) ay))) (fun _ _ h=>h)
 have hs:ae bM 1 c b=aF (aP.mk 43 0 0 0 0 0 0 0 0 0 0 0 [] [] [] [] ((ah.mk b false 0).byteV) x55.byteV j.byteV k.byteV s.byteV (ee d.byteV.toNat F []).2) (ee d.byteV.toNat F []).1:=by
   subst c9 c6 bY bQ bG a4
   unfold ae bM cZ fx eJ eL ei dQ dX dm
   (try simp only[z,E,X,Z,bs,if_true,if_false,decide_true,decide_false,eq_self,true_or,or_true,or_false,false_or,if_true,if_false,ch,cc,bZ,cg,reduceIte])
   all_goals rfl
 rw[hR] at hs
 rw[hs]
 exact bf b0 cD
 have b0:=ai Z
 refine bq<|sg<|?_
 refine L0<|cj (aT Y (Ne.symm g) cf)<|?_
 refine L0<|b6 (aT Y (nb (ak y) lr f) I) (mG 43 0 0 0 0 0 0 0 0 0 0 0 nS nS nS nS ((ah.mk b false 0).byteV) x55.byteV j.byteV k.byteV s.byteV (.slice B L.length cq)) fun eK dK cE=>Pl 1<|nt<|rt<|bF dK (.int .i64 0)<|?_
 have hs:ae bM 1 c b=aF (aP.mk 43 0 0 0 0 0 0 0 0 0 0 0 [] [] [] [] ((ah.mk b false 0).byteV) x55.byteV j.byteV k.byteV s.byteV (ee d.byteV.toNat F []).2) (ee d.byteV.toNat F []).1:=by
   subst c9 c6 bY bQ bG a4
   unfold ae bM cZ fx eJ eL ei dQ dX dm
   (try simp only[z,E,X,Z,bs,if_true,if_false,decide_true,decide_false,eq_self,true_or,or_true,or_false,false_or,if_true,if_false,ch,cc,bZ,cg,reduceIte])
   all_goals rfl
 rw[hR] at hs
 rw[hs]
 exact bj b0 ⟨_,_,_,_,_,rfl,aK.nil ..,aK.nil ..,(fun _ _ _=>aK.nil ..),aK.nil ..,((ax r (us Y cE) (fun x hx=>(aa (fun e=>(RC.nrow D r (by decide)) (e▸hx)) (aa (fun e=>(dl I r (by decide)) (e▸hx)) ay))) (fun _ _ h=>h))).rd,⟨(b8 (x:=43) (by omega)),(b8 (x:=0) (by omega)),(aB (x:=0) (by omega)),(aB (x:=0) (by omega)),(aB (x:=0) (by omega)),(aB (x:=0) (by omega)),(aB (x:=0) (by omega)),(aB (x:=0) (by omega)),(aB (x:=0) (by omega)),(aB (x:=0) (by omega)),(aB (x:=0) (by omega)),(aB (x:=0) (by omega)),(b8 (x:=(ah.mk b false 0).byteV) (by omega)),(b8 (x:=x55.byteV) (by omega)),(b8 (x:=j.byteV) (by omega)),(b8 (x:=k.byteV) (by omega)),(b8 (x:=s.byteV) (by omega))⟩⟩ (ud cz cE M)
theorem jO{m:Md}{A:Option Addr}{cp:Nat}{b:List Int}{w:World}{dir c:Int}(hcode:B8 c)(hsl:bg m w (.slice A b.length cp) b)(hb:b.length≤1048576)(hd:¬ (dir=0∨dir=1)) :
    Calls Tryz.prog 97 #[.int .i64 dir,.int .u8 c,.slice A b.length cp] w (d7 (.slice A b.length cp) b (ae bM dir c b) w):=by
 obtain⟨hcode1,hcode2⟩:=hcode
 have hln:(b.length:Int)≤1048576:=by omega
 have e0:(dir != 0)=true:=by simp;omega
 have e1:(dir != 1)=true:=by simp;omega
 refine en 176 Tryz.func97 rfl<|sg<|L0<|bJ mZ fun g h a d e=>Pl 1<|nt<|sq<|sg<|Pl 3<|sy 19 e0<|Pl 3<|nl<|?_
 refine tn<|ct e1<|sg<|Pl 1<|L0<|b6 d mZ fun i dv f=>Pl 1<|nt<|rt<|tr<|bF dv (.int .i64 1)<|?_
 have hs:ae bM dir c b=(aP.zero,1):=by
   unfold ae bM cZ fx eJ eL ei dQ dX dm
   (try simp only[e0,e1,bs,if_true,if_false,decide_true,decide_false,eq_self,true_or,or_true,or_false,false_or,if_true,if_false,ch,cc,bZ,cg,reduceIte,hd])
   all_goals rfl
 rw[hs]
 exact bt (ud e f a)
theorem nA{m:Md}{v:Value}{b:List Int}{w:World}{dir c:Int}(hc:B8 c)(h:bg m w v b)(hb:b.length≤1048576) :
    Calls Tryz.prog 97 #[.int .i64 dir,.int .u8 c,v] w (d7 v b (ae bE dir c b) w):=by
  rw[← m7 (bg.range h)]
  obtain⟨A,cp,rfl,_,_⟩:=h.shape
  by_cases h0:dir=0
  · subst h0;exact jF hc h hb
  by_cases h1:dir=1
  · subst h1;exact jB hc h hb
  exact jO hc h hb (by omega)
open Go.RowKit
theorem pN{x:Int}{w:World}:Calls Tryz.prog 148 #[.int .u8 x] w (dh (.bool (l7 x)) w):=by
 refine en 37 Tryz.func148 rfl<|sg<|Pl 1<|ng<|Pl 3<|cu 3 [5] 8 (((decide (1≤x))&&(decide (x≤8)))) (fun K i=>?_) ?_
 refine bl 5 ((decide (1≤x))) (fun a=>?_) (fun a=>?_)
 have v:=of_decide_eq_true a
 exact Pl 3<|ce i (decide (x≤8)) (by rw[a];rfl)
 have v:=of_decide_eq_false a
 exact Pl 3<|ce i false (by rw[a];rfl)
 refine Pl 1<|cu 3 [9] 12 ((((decide (1≤x))&&(decide (x≤8)))||(x==11))) (fun K j=>?_) ?_
 refine bl 9 (((decide (1≤x))&&(decide (x≤8)))) (fun b=>?_) (fun b=>?_)
 have y:=(aS b).1
 have z:=(aS b).2
 have G:=of_decide_eq_true y
 have H:=of_decide_eq_true z
 exact Pl 3<|ce j true (by rw[b];rfl)
 exact Pl 3<|ce j (x==11) (by rw[b];rfl)
 refine Pl 1<|cu 3 [13] 16 (((((decide (1≤x))&&(decide (x≤8)))||(x==11))||(x==12))) (fun K k=>?_) ?_
 refine bl 13 ((((decide (1≤x))&&(decide (x≤8)))||(x==11))) (fun c=>?_) (fun c=>?_)
 exact Pl 3<|ce k true (by rw[c];rfl)
 have I:=(aJ c).1
 have A:=(aJ c).2
 have J:=ap A
 exact Pl 3<|ce k (x==12) (by rw[c];rfl)
 refine Pl 1<|cu 7 [17] 24 ((((((decide (1≤x))&&(decide (x≤8)))||(x==11))||(x==12))||((decide (15≤x))&&(decide (x≤17))))) (fun K l=>?_) ?_
 refine bl 17 (((((decide (1≤x))&&(decide (x≤8)))||(x==11))||(x==12))) (fun d=>?_) (fun d=>?_)
 exact Pl 7<|ce l true (by rw[d];rfl)
 have m:=(aJ d).1
 have B:=(aJ d).2
 have L:=(aJ m).1
 have C:=(aJ m).2
 have q16abp:=ap C
 have M:=ap B
 refine Pl 3<|cu 3 [20] 23 (((decide (15≤x))&&(decide (x≤17)))) (fun K n=>?_) ?_
 refine bl 20 ((decide (15≤x))) (fun e=>?_) (fun e=>?_)
 have D:=of_decide_eq_true e
 exact Pl 3<|ce n (decide (x≤17)) (by rw[e];rfl)
 have D:=of_decide_eq_false e
 exact Pl 3<|ce n false (by rw[e];rfl)
 exact Pl 1<|ce l ((decide (15≤x))&&(decide (x≤17))) (by rw[d];rfl)
 refine Pl 1<|cu 7 [25] 32 (((((((decide (1≤x))&&(decide (x≤8)))||(x==11))||(x==12))||((decide (15≤x))&&(decide (x≤17))))||((decide (20≤x))&&(decide (x≤24))))) (fun K o=>?_) ?_
 refine bl 25 ((((((decide (1≤x))&&(decide (x≤8)))||(x==11))||(x==12))||((decide (15≤x))&&(decide (x≤17))))) (fun f=>?_) (fun f=>?_)
 exact Pl 7<|ce o true (by rw[f];rfl)
 have p:=(aJ f).1
 have N:=(aJ f).2
 have q:=(aJ p).1
 have E:=(aJ p).2
 have q20aaa:=(aJ q).1
 have q20aab:=(aJ q).2
 have q20aabp:=ap q20aab
 have q20abp:=ap E
 refine Pl 3<|cu 3 [28] 31 (((decide (20≤x))&&(decide (x≤24)))) (fun K r=>?_) ?_
 refine bl 28 ((decide (20≤x))) (fun g=>?_) (fun g=>?_)
 have F:=of_decide_eq_true g
 exact Pl 3<|ce r (decide (x≤24)) (by rw[g];rfl)
 have F:=of_decide_eq_false g
 exact Pl 3<|ce r false (by rw[g];rfl)
 exact Pl 1<|ce o ((decide (20≤x))&&(decide (x≤24))) (by rw[f];rfl)
 refine Pl 1<|cu 3 [33] 36 ((((((((decide (1≤x))&&(decide (x≤8)))||(x==11))||(x==12))||((decide (15≤x))&&(decide (x≤17))))||((decide (20≤x))&&(decide (x≤24))))||(x==43))) (fun K s=>?_) ?_
 refine bl 33 (((((((decide (1≤x))&&(decide (x≤8)))||(x==11))||(x==12))||((decide (15≤x))&&(decide (x≤17))))||((decide (20≤x))&&(decide (x≤24))))) (fun h=>?_) (fun h=>?_)
 exact Pl 3<|ce s true (by rw[h];rfl)
 have t:=(aJ h).1
 have O:=(aJ h).2
 have u:=(aJ t).1
 have P:=(aJ t).2
 have q24aaa:=(aJ u).1
 have q24aab:=(aJ u).2
 have q24aaaa:=(aJ q24aaa).1
 have q24aaab:=(aJ q24aaa).2
 have q24aaabp:=ap q24aaab
 have q24aabp:=ap q24aab
 exact Pl 3<|ce s (x==43) (by rw[h];rfl)
 refine Pl 1<|nt<|rt<|rr (.bool (((((((decide (1≤x))&&(decide (x≤8)))||(x==11))||(x==12))||((decide (15≤x))&&(decide (x≤17))))||((decide (20≤x))&&(decide (x≤24))))||(x==43)))<|?_
 have hs:l7 x=(((((((decide (1≤x))&&(decide (x≤8)))||(x==11))||(x==12))||((decide (15≤x))&&(decide (x≤17))))||((decide (20≤x))&&(decide (x≤24))))||(x==43)):=by
   unfold l7
   (try simp only[bs,if_true,if_false,decide_true,decide_false])
 rw[hs]
 exact⟨rfl,(aE.refl [] _)⟩
open Go.RowKit
def eB (b:List Int) : aP × Int :=
  if decide ((b.length:Int)<1) then (aP.zero,2)
  else if decide (b.getD 0 0-128<0) then (aP.zero,4)
  else if !(l7 ((b.getD 0 0-128)%256)) then (aP.zero,4)
  else if decide ((b.length:Int)<2) then (aP.zero,2)
  else if !(d6 (b.getD 1 0)) then (aP.zero,6)
  else if decide (2<(b.length:Int)) then (aP.zero,3)
  else (n9 ((b.getD 0 0-128)%256) (b.getD 1 0),0)
theorem t7{x:Int}:l7 x=eO x:=by
  unfold l7 eO
  rw[Bool.eq_iff_iff]
  simp only[decide_eq_true_eq,List.mem_cons,List.not_mem_nil,or_false,Bool.or_eq_true,Bool.and_eq_true,beq_iff_eq]
  omega
theorem pG(b:List Int) : eB b=eH b:=by
  unfold eB eH
  rw[t7,show decide ((b.length:Int)<1)=((b.length:Int)==0) from by rw[Bool.eq_iff_iff];simp only[decide_eq_true_eq,beq_iff_eq];omega,show decide (b.getD 0 0-128<0)=decide (b.getD 0 0<128) from by rw[Bool.eq_iff_iff];simp only[decide_eq_true_eq];omega]
  by_cases h:b.length=0
  · rw[show((b.length:Int)==0)=true from by rw[beq_iff_eq];omega];rfl
  · rw[show decide ((b.length:Int)<2)=((b.length:Int)==1) from by rw[Bool.eq_iff_iff];simp only[decide_eq_true_eq,beq_iff_eq];omega]
theorem lE{m:Md}{A:Option Addr}{cp:Nat}{b:List Int}{w:World}(hsl:bg m w (.slice A b.length cp) b)(hb:b.length≤1048576) :
    Calls Tryz.prog 92 #[.slice A b.length cp] w (d7 (.slice A b.length cp) b (eB b) w):=by
 have hln:(b.length:Int)≤1048576:=by omega
 refine en 46 Tryz.func92 rfl<|sg<|L0<|bJ mZ fun a2 a3 e f n=>Pl 1<|nt<|sq<|sg<|Pl 3<|nt<|cb ((decide (((b.length:Nat) : Int)<1))) (fun a=>?_) (fun a=>?_)
 have u:=of_decide_eq_true a
 refine sg<|Pl 1<|L0<|b6 f mZ fun a4 y z=>Pl 1<|nt<|rt<|tr<|bF y (.int .i64 2)<|?_
 have hs:eB b=(aP.zero,2):=by
   unfold eB
   (try simp only[a,bs,if_true,if_false,decide_true,decide_false,Bool.not_eq_true,reduceIte])
   all_goals rfl
 rw[hs]
 exact bt (ud n z e)
 have u:=of_decide_eq_false a
 refine bq<|sg<|Pl 1<|?_
 have s:=bg.old hsl n
 refine fl (bg.at_ s 0 (by omega)) fun B C D E a5=>L0<|jt b.length 0 D (by omega)<|L0<|dZ (p:=⟨B,C+0,none⟩) (v:=.int .u8 (b.getD 0 0)) E<|L0<|Oi (b.getD 0 0)<|L0<|Oi ((b.getD 0 0)-128)<|Pl 1<|nt<|sq<|sg<|Pl 2<|nt<|?_
 refine cb ((decide (((b.getD 0 0)-128)<0))) (fun c=>?_) (fun c=>?_)
 have F:=of_decide_eq_true c
 refine sg<|Pl 1<|L0<|b6 f mZ fun a6 G H=>Pl 1<|nt<|rt<|tr<|bF G (.int .i64 4)<|?_
 have hs:eB b=(aP.zero,4):=by
   unfold eB
   (try simp only[a,c,bs,if_true,if_false,decide_true,decide_false,Bool.not_eq_true,reduceIte])
   all_goals rfl
 rw[hs]
 exact bt (ud n H e)
 have F:=of_decide_eq_false c
 refine bq<|sg<|Pl 2<|L0<|Oc<|m1 (pN (x:=(((b.getD 0 0)-128)%256))) fun a7 g=>Pl 1<|nt<|sq<|sg<|Pl 2<|nl<|?_
 refine tn<|?_
 have q:=aI n g
 refine cb ((!(l7 (((b.getD 0 0)-128)%256)))) (fun d=>?_) (fun d=>?_)
 have i:(l7 (((b.getD 0 0)-128)%256))=false:=by simpa using d
 refine sg<|Pl 1<|?_
 refine L0<|b6 (ub g f) mZ fun a8 I J=>Pl 1<|nt<|rt<|tr<|bF I (.int .i64 4)<|?_
 have hs:eB b=(aP.zero,4):=by
   unfold eB
   (try simp only[a,c,d,i,bs,if_true,if_false,decide_true,decide_false,Bool.not_eq_true,reduceIte])
   all_goals rfl
 rw[hs]
 exact bt (ud q J e)
 have i:(l7 (((b.getD 0 0)-128)%256))=true:=by simpa using d
 refine bq<|sq<|sg<|Pl 3<|nt<|cb ((decide (((b.length:Nat) : Int)<2))) (fun h=>?_) (fun h=>?_)
 have K:=of_decide_eq_true h
 refine sg<|Pl 1<|?_
 refine L0<|b6 (ub g f) mZ fun a9 L M=>Pl 1<|nt<|rt<|tr<|bF L (.int .i64 2)<|?_
 have hs:eB b=(aP.zero,2):=by
   unfold eB
   (try simp only[a,c,d,i,h,bs,if_true,if_false,decide_true,decide_false,Bool.not_eq_true,reduceIte])
   all_goals rfl
 rw[hs]
 exact bt (ud q M e)
 have K:=of_decide_eq_false h
 refine bq<|sg<|Pl 1<|?_
 have t:=bg.old s g
 refine fl (bg.at_ t 1 (by omega)) fun N O P Q aa=>L0<|jt b.length 1 P (by omega)<|L0<|dZ (p:=⟨N,O+1,none⟩) (v:=.int .u8 (b.getD 1 0)) Q<|L0<|Oc<|m1 (qt (x:=(b.getD 1 0)) (by omega)) fun ab k=>Pl 1<|nt<|sq<|sg<|Pl 2<|nt<|?_
 have r:=aI q k
 refine cb ((!(d6 (b.getD 1 0)))) (fun j=>?_) (fun j=>?_)
 have o:(d6 (b.getD 1 0))=false:=by simpa using j
 refine sg<|Pl 1<|?_
 refine L0<|b6 (ub (aI g k) f) mZ fun ac R S=>Pl 1<|nt<|rt<|tr<|bF R (.int .i64 6)<|?_
 have hs:eB b=(aP.zero,6):=by
   unfold eB
   (try simp only[a,c,d,i,h,j,o,bs,if_true,if_false,decide_true,decide_false,Bool.not_eq_true,reduceIte])
   all_goals rfl
 rw[hs]
 exact bt (ud r S e)
 have o:(d6 (b.getD 1 0))=true:=by simpa using j
 refine bq<|sq<|sg<|Pl 3<|nt<|cb ((decide (2<((b.length:Nat) : Int)))) (fun l=>?_) (fun l=>?_)
 have T:=of_decide_eq_true l
 refine sg<|Pl 1<|?_
 refine L0<|b6 (ub (aI g k) f) mZ fun ad U V=>Pl 1<|nt<|rt<|tr<|bF U (.int .i64 3)<|?_
 have hs:eB b=(aP.zero,3):=by
   unfold eB
   (try simp only[a,c,d,i,h,j,o,l,bs,if_true,if_false,decide_true,decide_false,Bool.not_eq_true,reduceIte])
   all_goals rfl
 rw[hs]
 exact bt (ud r V e)
 have T:=of_decide_eq_false l
 refine bq<|sg<|Pl 3<|?_
 refine fl (bg.at_ (bg.old t k) 1 (by omega)) fun W X Y Z ae=>L0<|jt b.length 1 Y (by omega)<|L0<|dZ (p:=⟨W,X+1,none⟩) (v:=.int .u8 (b.getD 1 0)) Z<|Pl 1<|?_
 refine L0<|b6 (ub (aI g k) f) (mG (((b.getD 0 0)-128)%256) (b.getD 1 0) 0 0 0 0 0 0 0 0 0 0 nS nS nS nS 0 0 0 0 0 nS) fun af a0 a1=>Pl 1<|nt<|rt<|bF a0 (.int .i64 0)<|?_
 have hs:eB b=((aP.mk (((b.getD 0 0)-128)%256) (b.getD 1 0) 0 0 0 0 0 0 0 0 0 0 [] [] [] [] 0 0 0 0 0 []),0):=by
   unfold eB
   (try simp only[a,c,d,i,h,j,o,l,bs,if_true,if_false,decide_true,decide_false,Bool.not_eq_true,reduceIte])
   all_goals rfl
 rw[hs]
 exact⟨_,rfl,⟨_,_,_,_,_,rfl,aK.nil ..,aK.nil ..,(fun _ _ _=>aK.nil ..),aK.nil ..,aK.nil ..,⟨(b8 (x:=(((b.getD 0 0)-128)%256)) (by omega)),(b8 (x:=(b.getD 1 0)) (by omega)),(aB (x:=0) (by omega)),(aB (x:=0) (by omega)),(aB (x:=0) (by omega)),(aB (x:=0) (by omega)),(aB (x:=0) (by omega)),(aB (x:=0) (by omega)),(aB (x:=0) (by omega)),(aB (x:=0) (by omega)),(aB (x:=0) (by omega)),(aB (x:=0) (by omega)),(b8 (x:=0) (by omega)),(b8 (x:=0) (by omega)),(b8 (x:=0) (by omega)),(b8 (x:=0) (by omega)),(b8 (x:=0) (by omega))⟩⟩,(ud r a1 e)⟩
theorem mR{m:Md}{v:Value}{b:List Int}{w:World}(h:bg m w v b)(hb:b.length≤1048576) : Calls Tryz.prog 92 #[v] w (d7 v b (eH b) w):=by
  obtain⟨A,cp,rfl,_,_⟩:=h.shape
  rw[← pG]
  exact lE h hb
open Go.RowKit
theorem fK{x y:aP × Int}(h:x=y){w:World}{e:Ending}{w':World}{v0:Value}{b:List Int}(k:d7 v0 b y w e w') : d7 v0 b x w e w':=by rw[h];exact k
theorem l8{m:Md}{v:Value}{b:List Int}{w:World}{dir c:Int}(hc:B8 c)(h:bg m w v b)(hb:b.length≤1048576) :
    Calls Tryz.prog 93 #[.int .i64 dir,.int .u8 c,v] w (d7 v b (ae aD dir c b) w):=by
  obtain⟨A,cp,rfl,_,_⟩:=h.shape
  by_cases h0:dir=0
  · subst h0;exact ji hc h hb
  by_cases h1:dir=1
  · subst h1;exact iY hc h hb
  exact jj hc h hb (by omega)
theorem mB{m:Md}{v:Value}{b:List Int}{w:World}{dir c:Int}(hc:B8 c)(h:bg m w v b)(hb:b.length≤1048576) :
    Calls Tryz.prog 94 #[.int .i64 dir,.int .u8 c,v] w (d7 v b (ae aH dir c b) w):=by
  obtain⟨A,cp,rfl,_,_⟩:=h.shape
  by_cases h0:dir=0
  · subst h0;exact jD hc h hb
  by_cases h1:dir=1
  · subst h1;exact jJ hc h hb
  exact jW hc h hb (by omega)
theorem mg{m:Md}{v:Value}{b:List Int}{w:World}{dir c:Int}(hc:B8 c)(h:bg m w v b)(hb:b.length≤1048576) :
    Calls Tryz.prog 95 #[.int .i64 dir,.int .u8 c,v] w (d7 v b (ae aM dir c b) w):=by
  obtain⟨A,cp,rfl,_,_⟩:=h.shape
  rw[← lv]
  by_cases h0:dir=0
  · subst h0;exact jI hc h hb
  by_cases h1:dir=1
  · subst h1;exact jA hc h hb
  exact jK hc h hb (by omega)
theorem ma{m:Md}{A:Option Addr}{cp:Nat}{b:List Int}{w:World}{dir:Int}(hsl:bg m w (.slice A b.length cp) b)(hb:b.length≤1048576) :
    Calls Tryz.prog 25 #[.int .i64 dir,.slice A b.length cp] w (d7 (.slice A b.length cp) b (dO dir b) w):=by
 have hln:(b.length:Int)≤1048576:=by omega
 refine en 87 Tryz.func25 rfl<|sg<|L0<|bJ mZ fun bN bO u d i=>Pl 1<|nt<|sq<|sg<|Pl 3<|cu 3 [11] 14 (((dir != 0)&&(dir != 1))) (fun K W=>?_) ?_
 refine bl 11 ((dir != 0)) (fun F=>?_) (fun F=>?_)
 have aZ:=aq F
 exact Pl 3<|ce W (dir != 1) (by rw[F];rfl)
 have aZ:=ai F
 exact Pl 3<|ce W false (by rw[F];rfl)
 refine nt<|cb (((dir != 0)&&(dir != 1))) (fun f=>?_) (fun f=>?_)
 have X:=(aS f).1
 have Y:=(aS f).2
 have bP:=aq X
 have bQ:=aq Y
 refine sg<|Pl 1<|L0<|b6 d mZ fun bR b0 b1=>Pl 1<|nt<|rt<|tr<|bF b0 (.int .i64 1)<|?_
 have hs:fA dir b=(aP.zero,1):=by
   unfold fA
   (try simp only[f,X,Y,bs,if_true,if_false,decide_true,decide_false,eE,reduceIte])
   all_goals rfl
 rw[← eN]
 refine fK hs ?_
 exact bt (ud i b1 u)
 refine bq<|sq<|sg<|Pl 3<|nt<|cb ((((b.length:Nat) : Int)==0)) (fun g=>?_) (fun g=>?_)
 have b2:=al g
 refine sg<|Pl 1<|L0<|b6 d mZ fun bS b3 b4=>Pl 1<|nt<|rt<|tr<|bF b3 (.int .i64 2)<|?_
 have hs:fA dir b=(aP.zero,2):=by
   unfold fA
   (try simp only[f,g,bs,if_true,if_false,decide_true,decide_false,eE,reduceIte])
   all_goals rfl
 rw[← eN]
 refine fK hs ?_
 exact bt (ud i b4 u)
 have b2:=ap g
 refine bq<|sq<|sg<|Pl 3<|nt<|cb ((decide (253<((b.length:Nat) : Int)))) (fun j=>?_) (fun j=>?_)
 have b5:=of_decide_eq_true j
 refine sg<|Pl 1<|L0<|b6 d mZ fun bT b7 b9=>Pl 1<|nt<|rt<|tr<|bF b7 (.int .i64 3)<|?_
 have hs:fA dir b=(aP.zero,3):=by
   unfold fA
   (try simp only[f,g,j,bs,if_true,if_false,decide_true,decide_false,eE,reduceIte])
   all_goals rfl
 rw[← eN]
 refine fK hs ?_
 exact bt (ud i b9 u)
 have b5:=of_decide_eq_false j
 refine bq<|sg<|Pl 1<|?_
 have G:=bg.old hsl i
 refine fl (bg.at_ G 0 (by omega)) fun ba bb bc bd bU=>L0<|jt b.length 0 bc (by omega)<|L0<|dZ (p:=⟨ba,bb+0,none⟩) (v:=.int .u8 (b.getD 0 0)) bd<|Pl 1<|nt<|sq<|sg<|Pl 3<|cu 3 [29] 32 (((decide (128≤(b.getD 0 0)))&&(dir==1))) (fun K Z=>?_) ?_
 refine bl 29 ((decide (128≤(b.getD 0 0)))) (fun H=>?_) (fun H=>?_)
 have be:=of_decide_eq_true H
 exact Pl 3<|ce Z (dir==1) (by rw[H];rfl)
 have be:=of_decide_eq_false H
 exact Pl 3<|ce Z false (by rw[H];rfl)
 refine nt<|cb (((decide (128≤(b.getD 0 0)))&&(dir==1))) (fun x=>?_) (fun x=>?_)
 have a0:=(aS x).1
 have a1:=(aS x).2
 have bV:=of_decide_eq_true a0
 have bW:=al a1
 refine sg<|Pl 1<|L0<|Oc<|e2 (mR G (by omega)) fun bf bX I S=>?_
 refine Pl 2<|?_
 have a2:=ub S d
 refine L0<|b6 (hz:=(by rw[I.size];exact aO)) (hv:=I.size) (h1:=(d8.one I (bg.old G S))) a2 (bf) fun bY bh a3=>Pl 1<|nt<|rt<|tr<|e9 22 I.size bh (.int .i64 (((eH b)).2))<|?_
 have hs:fA dir b=(eH b):=by
   unfold fA
   (try simp only[f,g,j,x,a0,a1,bs,if_true,if_false,decide_true,decide_false,eE,reduceIte])
   all_goals rfl
 rw[← eN]
 refine fK hs ?_
 exact⟨_,rfl,(d8.upd I a3 (am (aQ a2 (by decide)) aG)),(ud i (uz S a3) u)⟩
 refine bq<|sg<|Pl 3<|mS (dz (P:=Tryz.prog) 22 5 1 Tryz.underlying22 rfl rfl A b.length cp 1 (by omega)) fun bi hrun54 a4=>L0<|lB (.slice bi (b.length-1) (cp-1)) (dH (kl:=.i64) (k:=((1:Nat) : Int)) (A:=A) (n:=b.length) (c:=cp) rfl Tryz.underlying22 (by kernel_rfl) (by kernel_rfl) (hrun54 _ _))<|L0<|Oc<|e2 (l8 (dir:=dir) (c:=(b.getD 0 0)) (b8 (by omega)) (a4 _ _ _ _ _ G) (by(try simp only[List.length_drop]);omega)) fun a5 bZ bj e=>?_
 have L:=bg.old G e
 have l:=d8.sub bj (fun m' w' q=>(a4 _ _ _ _ _ q))
 refine Pl 3<|L0<|bJ mZ fun c0 c1 a bk bm=>L0<|b6 (hz:=(by rw[l.size];exact aO)) (hv:=l.size) (h1:=(d8.one l hsl)) bk (a5) fun c2 a6 bn=>Pl 1<|nt<|sq<|sg<|Pl 2<|nt<|?_
 have M:=ud bm bn a
 have o:=aI e M
 have a7:=aI i o
 refine cb (((((ae aD dir (b.getD 0 0) (b.drop 1))).2)==4)) (fun h=>?_) (fun h=>?_)
 have bo:=al h
 refine go<|Pl 3<|mS (dz (P:=Tryz.prog) 22 5 1 Tryz.underlying22 rfl rfl A b.length cp 1 (by omega)) fun bp hrun75 a8=>L0<|lB (.slice bp (b.length-1) (cp-1)) (dH (kl:=.i64) (k:=((1:Nat) : Int)) (A:=A) (n:=b.length) (c:=cp) rfl Tryz.underlying22 (by kernel_rfl) (by kernel_rfl) (hrun75 _ _))<|?_
 have a9:=bg.old L M
 refine L0<|Oc<|e2 (mB (dir:=dir) (c:=(b.getD 0 0)) (b8 (by omega)) (a8 _ _ _ _ _ a9) (by(try simp only[List.length_drop]);omega)) fun aa c3 br N=>?_
 have c4:=bg.old a9 N
 have r:=d8.sub br (fun m' w' q=>(a8 _ _ _ _ _ q))
 refine Pl 3<|?_
 have ab:=ub N a6
 refine L0<|b6 (hz:=(by rw[r.size];exact aO)) (hv:=(Eq.trans r.size (Eq.symm l.size))) (h1:=(d8.one r hsl)) ab (aa) fun c5 ad T=>Pl 1<|nt<|sq<|sg<|Pl 2<|nt<|?_
 have D:=uz N T
 have af:=ud a7 D (le (le i.size e.size) a)
 refine cb (((((ae aH dir (b.getD 0 0) (b.drop 1))).2)==4)) (fun y=>?_) (fun y=>?_)
 have bu:=al y
 refine go<|Pl 3<|mS (dz (P:=Tryz.prog) 22 5 1 Tryz.underlying22 rfl rfl A b.length cp 1 (by omega)) fun bv hrun92 ag=>L0<|lB (.slice bv (b.length-1) (cp-1)) (dH (kl:=.i64) (k:=((1:Nat) : Int)) (A:=A) (n:=b.length) (c:=cp) rfl Tryz.underlying22 (by kernel_rfl) (by kernel_rfl) (hrun92 _ _))<|?_
 have ah:=ud M D a
 have aj:=bg.old L ah
 refine L0<|Oc<|e2 (mg (dir:=dir) (c:=(b.getD 0 0)) (b8 (by omega)) (ag _ _ _ _ _ aj) (by(try simp only[List.length_drop]);omega)) fun ak c6 bw O=>?_
 have c7:=bg.old aj O
 have s:=d8.sub bw (fun m' w' q=>(ag _ _ _ _ _ q))
 refine Pl 3<|?_
 have an:=ub O ad
 refine L0<|b6 (hz:=(by rw[s.size];exact aO)) (hv:=(Eq.trans s.size (Eq.symm r.size))) (h1:=(d8.one s hsl)) an (ak) fun c8 ao U=>Pl 1<|nt<|sq<|sg<|Pl 2<|nt<|?_
 have E:=uz O U
 have ar:=ud af E (le (le i.size e.size) a)
 refine cb (((((ae aM dir (b.getD 0 0) (b.drop 1))).2)==4)) (fun B=>?_) (fun B=>?_)
 have bx:=al B
 refine go<|Pl 3<|mS (dz (P:=Tryz.prog) 22 5 1 Tryz.underlying22 rfl rfl A b.length cp 1 (by omega)) fun bz hrun110 av=>L0<|lB (.slice bz (b.length-1) (cp-1)) (dH (kl:=.i64) (k:=((1:Nat) : Int)) (A:=A) (n:=b.length) (c:=cp) rfl Tryz.underlying22 (by kernel_rfl) (by kernel_rfl) (hrun110 _ _))<|?_
 have V:=u1 D E im
 have aw:=ud ah E a
 have ax:=bg.old L aw
 refine L0<|Oc<|e2 (ls (dir:=dir) (c:=(b.getD 0 0)) (b8 (by omega)) (av _ _ _ _ _ ax) (by(try simp only[List.length_drop]);omega)) fun ay c9 bA Q=>?_
 have ca:=bg.old ax Q
 have t:=d8.sub bA (fun m' w' q=>(av _ _ _ _ _ q))
 refine Pl 3<|?_
 have az:=ub Q ao
 refine L0<|b6 (hz:=(by rw[t.size];exact aO)) (hv:=(Eq.trans t.size (Eq.symm s.size))) (h1:=(d8.one t hsl)) az (ay) fun cc aA aB=>Pl 1<|nt<|sq<|sg<|Pl 2<|nt<|?_
 have C:=uz Q aB
 have aC:=ud ar C (le (le i.size e.size) a)
 refine cb (((((ae aY dir (b.getD 0 0) (b.drop 1))).2)==4)) (fun J=>?_) (fun J=>?_)
 have bB:=al J
 refine go<|Pl 3<|mS (dz (P:=Tryz.prog) 22 5 1 Tryz.underlying22 rfl rfl A b.length cp 1 (by omega)) fun bC hrun130 aE=>L0<|lB (.slice bC (b.length-1) (cp-1)) (dH (kl:=.i64) (k:=((1:Nat) : Int)) (A:=A) (n:=b.length) (c:=cp) rfl Tryz.underlying22 (by kernel_rfl) (by kernel_rfl) (hrun130 _ _))<|?_
 have cd:=u1 U C im
 have cg:=u1 E C im
 have ch:=u1 (u1 T E im) C im
 have aF:=u1 V C im
 have aJ:=bg.old L (ud aw C a)
 refine L0<|Oc<|e2 (nA (dir:=dir) (c:=(b.getD 0 0)) (b8 (by omega)) (aE _ _ _ _ _ aJ) (by(try simp only[List.length_drop]);omega)) fun aK ci bD R=>?_
 have ck:=bg.old aJ R
 have z:=d8.sub bD (fun m' w' q=>(aE _ _ _ _ _ q))
 refine Pl 3<|?_
 have aL:=ub R aA
 refine L0<|b6 (hz:=(by rw[z.size];exact aO)) (hv:=(Eq.trans z.size (Eq.symm t.size))) (h1:=(d8.one z hsl)) aL (aK) fun cl bG aN=>Pl 1<|ng<|L0<|cj (hz:=(by rw[z.size];exact aO)) bG<|Pl 1<|?_
 have aR:=uz R aN
 refine L0<|b6 (hz:=(by rw[z.size];exact aO)) (hv:=z.size) (h1:=(d8.one z hsl)) (ub (ud o (u1 aF aR im) (le e.size a)) d) (aK) fun cm bH aT=>Pl 1<|nt<|rt<|e9 22 z.size bH (.int .i64 (((ae bE dir (b.getD 0 0) (b.drop 1))).2))<|?_
 have hs:fA dir b=(ae bE dir (b.getD 0 0) (b.drop 1)):=by
   unfold fA
   (try simp only[f,g,j,x,h,y,B,J,bs,if_true,if_false,decide_true,decide_false,eE,reduceIte])
   all_goals rfl
 rw[← eN]
 refine fK hs ?_
 exact⟨_,rfl,(d8.upd z (us aN aT) (am (aQ aL (by decide)) (am (aQ (ub (ud o (aI aF R) (le e.size a)) d) (by decide)) aG))),(ut aC (us aR aT) (ac (ni (le i.size e.size) a) (ac (nr u) au)))⟩
 have bB:=ap J
 refine bq<|sg<|L0<|cj (hz:=(by rw[t.size];exact aO)) aA<|Pl 1<|?_
 refine L0<|b6 (hz:=(by rw[t.size];exact aO)) (hv:=t.size) (h1:=(d8.one t hsl)) (ub (ud o (u1 V C im) (le e.size a)) d) (ay) fun cn bI aU=>Pl 1<|nt<|rt<|e9 22 t.size bI (.int .i64 (((ae aY dir (b.getD 0 0) (b.drop 1))).2))<|?_
 have hs:fA dir b=(ae aY dir (b.getD 0 0) (b.drop 1)):=by
   unfold fA
   (try simp only[f,g,j,x,h,y,B,J,bs,if_true,if_false,decide_true,decide_false,eE,reduceIte])
   all_goals rfl
 rw[← eN]
 refine fK hs ?_
 exact⟨_,rfl,(d8.upd t (us aB aU) (am (aQ az (by decide)) (am (aQ (ub (ud o (aI V Q) (le e.size a)) d) (by decide)) aG))),(ud aC aU u)⟩
 have bx:=ap B
 refine bq<|sq<|sg<|Pl 2<|nt<|cf B<|bq<|sg<|L0<|cj (hz:=(by rw[s.size];exact aO)) ao<|?_
 refine Pl 1<|?_
 refine L0<|b6 (hz:=(by rw[s.size];exact aO)) (hv:=s.size) (h1:=(d8.one s hsl)) (ub (ud o (u1 D E im) (le e.size a)) d) (ak) fun co bK aV=>Pl 1<|nt<|rt<|e9 22 s.size bK (.int .i64 (((ae aM dir (b.getD 0 0) (b.drop 1))).2))<|?_
 have hs:fA dir b=(ae aM dir (b.getD 0 0) (b.drop 1)):=by
   unfold fA
   (try simp only[f,g,j,x,h,y,B,bs,if_true,if_false,decide_true,decide_false,eE,reduceIte])
   all_goals rfl
 rw[← eN]
 refine fK hs ?_
 exact⟨_,rfl,(d8.upd s (us U aV) (am (aQ an (by decide)) (am (aQ (ub (ud o (aI D O) (le e.size a)) d) (by decide)) aG))),(ud ar aV u)⟩
 have bu:=ap y
 refine bq<|sq<|sg<|Pl 2<|nt<|cf y<|bq<|sq<|sg<|?_
 refine Pl 2<|nt<|cf y<|bq<|sg<|L0<|cj (hz:=(by rw[r.size];exact aO)) ad<|Pl 1<|?_
 refine L0<|b6 (hz:=(by rw[r.size];exact aO)) (hv:=r.size) (h1:=(d8.one r hsl)) (ub (ud o D (le e.size a)) d) (aa) fun cq bL aW=>Pl 1<|nt<|rt<|e9 22 r.size bL (.int .i64 (((ae aH dir (b.getD 0 0) (b.drop 1))).2))<|?_
 have hs:fA dir b=(ae aH dir (b.getD 0 0) (b.drop 1)):=by
   unfold fA
   (try simp only[f,g,j,x,h,y,bs,if_true,if_false,decide_true,decide_false,eE,reduceIte])
   all_goals rfl
 rw[← eN]
 refine fK hs ?_
 exact⟨_,rfl,(d8.upd r (us T aW) (am (aQ ab (by decide)) (am (aQ (ub (aI o N) d) (by decide)) aG))),(ud af aW u)⟩
 have bo:=ap h
 refine bq<|sq<|sg<|Pl 2<|nt<|cf h<|bq<|sq<|sg<|?_
 refine Pl 2<|nt<|cf h<|bq<|sq<|sg<|Pl 2<|nt<|cf h<|sk<|?_
 refine tn<|sg<|L0<|cj (hz:=(by rw[l.size];exact aO)) a6<|Pl 1<|?_
 refine L0<|b6 (hz:=(by rw[l.size];exact aO)) (hv:=l.size) (h1:=(d8.one l hsl)) (ub o d) (a5) fun cr bM aX=>Pl 1<|nt<|rt<|e9 22 l.size bM (.int .i64 (((ae aD dir (b.getD 0 0) (b.drop 1))).2))<|?_
 have hs:fA dir b=(ae aD dir (b.getD 0 0) (b.drop 1)):=by
   unfold fA
   (try simp only[f,g,j,x,h,bs,if_true,if_false,decide_true,decide_false,eE,reduceIte])
   all_goals rfl
 rw[← eN]
 refine fK hs ?_
 exact⟨_,rfl,(d8.upd l (uz M aX) (am (aQ (ub e d) (by decide)) aG)),(ud a7 aX u)⟩
theorem nJ{m:Md}{v:Value}{b:List Int}{w:World}{dir:Int}(h:bg m w v b)(hb:b.length≤1048576) : Calls Tryz.prog 25 #[.int .i64 dir,v] w (d7 v b (dO dir b) w):=by
  obtain⟨A,cp,rfl,_,_⟩:=h.shape
  exact ma h hb
open Go.RowKit
def mE (v0:Value)(b:List Int)(res:fO × Int)(w:World)(e:Ending)(w':World) : Prop:=∃ x,e = .returned (.tuple #[.agg (tg res.1.unit res.1.tid res.1.msg x),.int .i64 res.2])∧(d8 v0 b w' (rc res.1.msg x).toList res.1.msg∧(0≤res.1.unit∧res.1.unit<256)∧(0≤res.1.tid∧res.1.tid<65536))∧aE [] w w'
theorem fY{x y:fO × Int}(h:x=y){w:World}{e:Ending}{w':World}{v0:Value}{b:List Int}(k:mE v0 b y w e w') : mE v0 b x w e w':=by rw[h];exact k
def vz:SL:=⟨none,0,none,0,none,0,none,0,none,0⟩
theorem eZ{v0:Value}{b:List Int}{x:Int}{w W:World}(hu:aE [] w W) : mE v0 b (fO.zero,x) w (.returned (.tuple #[.agg ug,.int .i64 x])) W:=⟨vz,(by kernel_rfl),⟨d8.zero v0 b W,(show(0:Int)≤0∧(0:Int)<256 from by decide),(show(0:Int)≤0∧(0:Int)<65536 from by decide)⟩,hu⟩
theorem lc{m:Md}{v:Value}{b:List Int}{w:World}{dir:Int}{M:aP}{E:Int}(hX:dO dir b=(M,E))(h:bg m w v b)(hb:b.length≤1048576) : Calls Tryz.prog 25 #[.int .i64 dir,v] w (fun e w'=>∃ x,e = .returned (.tuple #[.agg (rc M x),.int .i64 E])∧d8 v b w' (rc M x).toList M∧aE [] w w'):=by
  refine(nJ h hb).mono ?_
  rintro e w' ⟨cs,rfl,h1,h2⟩
  rw[hX] at h1 ⊢
  obtain⟨x,rfl⟩:=qz (h1.rd (bg.old h h2))
  exact⟨x,rfl,h1,h2⟩
end Go.Proofs.YtogbnemojakcpaaGreat
namespace Go.Proofs.YtogbnemojakcpaaGreat
open Go.RowKit
abbrev uO (xs:List Int) : Prop:=∀ x,x∈xs→0≤x∧x<256
def rO (base:Nat)(w:World)(v:Value)(xs:List Int) : Prop:=∃ g cap cur n,v = .slice (some ⟨g,0,none⟩) xs.length cap∧base≤g∧w.heap[g]? = some (.cells cur 5 (n,n+1))∧xs.length≤n∧xs.length≤cap∧cap≤maxLen∧cur.toList.take xs.length=xs.map (Value.int .u8)∧uO xs
theorem rO.rd{base:Nat}{w:World}{v:Value}{xs:List Int}(h:rO base w v xs) : bg true w v xs:=by
  obtain⟨g,cap,cur,n,rfl,hb,hh,h1,h2,h3,h4,h5⟩:=h
  refine⟨_,_,rfl,h2,h3,(fun hA=>by cases hA),fun hp=>⟨g,0,cur,_,_,rfl,hh,(fun _=>⟨rfl,Nat.zero_le _⟩),fun j x hj=>?_⟩⟩
  refine⟨[.int .u8 x],rfl,⟨rfl,h5 x (List.mem_of_getElem? hj)⟩,fun i u hi=>?_⟩
  cases i with
  | succ i=>simp at hi
  | zero =>
    have hi:Value.int .u8 x=u:=by simpa using hi
    subst hi
    have h6:(xs.map (Value.int .u8))[j]? = some (.int .u8 x):=by rw[List.getElem?_map,hj];rfl
    rw[← h4,List.getElem?_take] at h6
    split at h6
    · simpa using h6
    · cases h6
theorem rO.shape{base:Nat}{w:World}{v:Value}{xs:List Int}(h:rO base w v xs) : ∃ g cp,v = .slice (some ⟨g,0,none⟩) xs.length cp:=by
  obtain⟨g,cap,cur,n,hv,_⟩:=h
  exact⟨g,cap,hv⟩
section
variable {P:Program}{n:Nat}{D:List Deferred}{F:Fr}{w:World}{K:Fr→World→Prop}{Q:Exit→Act→World→Prop}{d:Option Tmp}{t:TypeId}{s:String}{af:Array Edge}{gu:Option (Nat × Bool)}
end
end Go.Proofs.YtogbnemojakcpaaGreat
namespace Go.Proofs.YtogbnemojakcpaaGreat
open Go.RowKit
section
variable {P:Program}{n:Nat}{D:List Deferred}{F:Fr}{w:World}{K:Fr→World→Prop}{Q:Exit→Act→World→Prop}{d:Option Tmp}{t:TypeId}{s:String}{af:Array Edge}{gu:Option (Nat × Bool)}
end
open Go.RowKit
open Go.RowKit
def vf (B b:Nat)(L:List Int)(w:World) : Prop:=∃ p A cp,w.heap[b]? = some (.cells #[p,.slice A L.length cp] 182 (0,0))∧(p = .pointer none∨p = .pointer (some ⟨b,0,none⟩))∧fh B w (.slice A L.length cp) L
theorem vf.new{B b:Nat}{w:World}(hb:w.heap[b]? = some (.cells #[.pointer none,.slice none 0 0] 182 (0,0))) : vf B b [] w:=⟨_,_,_,hb,.inl rfl,be.nil ..⟩
open Go.RowKit
open Go.RowKit
open Go.RowKit
open Go.RowKit
open Go.RowKit
theorem ga(a c:Int)(t:List Int) : (ah.mk (a :: c :: t) false 0).wordV=a*256+c∧(ah.mk (a :: c :: t) false 0).wordsC 1=⟨t,false,0⟩:=by
  have hb:¬ (ah.mk (a :: c :: t) false 0).wbad 1=true:=by
    unfold ah.wbad
    simp only[Bool.or_eq_true,decide_eq_true_eq,List.length_cons,not_or]
    omega
  have hf:¬ (ah.mk (a :: c :: t) false 0).fails (2*1)=true:=by
    unfold ah.fails
    simp only[Bool.or_eq_true,decide_eq_true_eq,List.length_cons,not_or]
    exact⟨⟨by decide,by decide⟩,by omega⟩
  constructor
  · unfold ah.wordV ah.wordsR ah.bytesR
    rw[if_neg hb,if_neg hf]
    show(cA [a,c]).getD 0 0=_
    unfold cA
    rw[if_pos (by simp)]
    rfl
  · unfold ah.wordsC ah.bytesC
    rw[if_neg hb,if_neg hf]
    rfl
theorem nU(a:Int)(t:List Int) : (ah.mk (a :: t) false 0).byteV=a∧(ah.mk (a :: t) false 0).bytesC 1=⟨t,false,0⟩:=qv (b:=a :: t) (by simp)
theorem pi(t:List Int) : (ah.mk t false 0).bytesR ((t.length:Nat) : Int)=t:=by
  have hf:¬ (ah.mk t false 0).fails ((t.length:Nat) : Int)=true:=by
    unfold ah.fails
    simp only[Bool.or_eq_true,decide_eq_true_eq,not_or]
    exact⟨⟨by decide,by omega⟩,by omega⟩
  unfold ah.bytesR
  rw[if_neg hf]
  simp
def eg (dir:Int)(b:List Int) : fO × Int :=
  if dir != 0&&dir != 1 then (fO.zero,1)
  else if decide ((b.length:Int)<8) then (fO.zero,2)
  else if decide (260<(b.length:Int)) then (fO.zero,3)
  else if (b.getD 2 0 != 0)||(b.getD 3 0 != 0) then (fO.zero,13)
  else if ((256*b.getD 4 0)+b.getD 5 0)!=(b.length:Int)-6 then (fO.zero,5)
  else ej (b.getD 6 0) ((((256*b.getD 0 0)%65536)+b.getD 1 0)%65536) (dO dir (b.drop 7))
theorem ez{dir:Int}{b:List Int}(hr:∀ x,x∈b→0≤x∧x<256) : eg dir b=dx dir b:=by
  unfold eg dx
  split
  · rfl
  split
  · rfl
  rename_i hl
  split
  · rfl
  obtain⟨a0,a1,a2,a3,a4,a5,a6,t,rfl⟩ : ∃ a0 a1 a2 a3 a4 a5 a6 t,b=a0 :: a1 :: a2 :: a3 :: a4 :: a5 :: a6 :: t:=by
    rcases b with _|⟨a0,_|⟨a1,_|⟨a2,_|⟨a3,_|⟨a4,_|⟨a5,_|⟨a6,t⟩⟩⟩⟩⟩⟩⟩
    case cons.cons.cons.cons.cons.cons.cons=>exact⟨_,_,_,_,_,_,_,_,rfl⟩
    all_goals simp at hl
  have h0:=hr a0 (by simp)
  have h1:=hr a1 (by simp)
  have h2:=hr a2 (by simp)
  have h3:=hr a3 (by simp)
  have h4:=hr a4 (by simp)
  have h5:=hr a5 (by simp)
  have e1:rk (a0 :: a1 :: a2 :: a3 :: a4 :: a5 :: a6 :: t)=⟨a2 :: a3 :: a4 :: a5 :: a6 :: t,false,0⟩:=(ga _ _ _).2
  have e2:pl (a0 :: a1 :: a2 :: a3 :: a4 :: a5 :: a6 :: t)=⟨a4 :: a5 :: a6 :: t,false,0⟩:=by unfold pl;rw[e1];exact(ga _ _ _).2
  have e3:pL (a0 :: a1 :: a2 :: a3 :: a4 :: a5 :: a6 :: t)=⟨a6 :: t,false,0⟩:=by unfold pL;rw[e2];exact(ga _ _ _).2
  have e4:qO (a0 :: a1 :: a2 :: a3 :: a4 :: a5 :: a6 :: t)=⟨t,false,0⟩:=by unfold qO;rw[e3];exact(nU _ _).2
  have v0:(ri (a0 :: a1 :: a2 :: a3 :: a4 :: a5 :: a6 :: t)).wordV=a0*256+a1:=(ga _ _ _).1
  unfold lx
  rw[e1,e2,e3,e4,v0,(ga _ _ _).1,(ga _ _ _).1,(nU _ _).1,pi]
  show(if (a2 != 0)||(a3 != 0) then _ else if ((256*a4)+a5)!=_ then _ else ej a6 ((((256*a0)%65536)+a1)%65536) (dO dir t))=_
  rw[show((a2 != 0)||(a3 != 0))=(a2*256+a3 != 0) from by rw[Bool.eq_iff_iff];simp only[Bool.or_eq_true,bne_iff_ne,ne_eq];omega,show(256*a4)+a5=a4*256+a5 from by omega,show(((256*a0)%65536)+a1)%65536=a0*256+a1 from by omega]
open Go.RowKit
theorem kX{m:Md}{A:Option Addr}{cp:Nat}{b:List Int}{w:World}{dir:Int}(hsl:bg m w (.slice A b.length cp) b)(hb:b.length≤1048576)(hcp:b.length≤cp) :
    Calls Tryz.prog 33 #[.int .i64 dir,.slice A b.length cp] w (mE (.slice A b.length cp) b (dx dir b) w):=by
 have hln:(b.length:Int)≤1048576:=by omega
 have hrb:=bg.range hsl
 refine en 76 Tryz.func33 rfl<|sg<|L0<|bJ #[.int .u8 0,.int .u16 0,.int .u8 0,.int .u8 0,.int .u16 0,.int .u16 0,.int .u16 0,.int .u16 0,.int .u16 0,.int .u16 0,.int .u16 0,.int .u16 0,.int .u16 0,.int .u16 0,.slice none 0 0,.slice none 0 0,.slice none 0 0,.slice none 0 0,.int .u8 0,.int .u8 0,.int .u8 0,.int .u8 0,.int .u8 0,.slice none 0 0] fun bi bj o h s=>Pl 1<|ng<|Pl 3<|nt<|sq<|sq<|?_
 refine go<|Pl 3<|cu 3 [13] 16 (((dir != 0)&&(dir != 1))) (fun K L=>?_) ?_
 refine bl 13 ((dir != 0)) (fun z=>?_) (fun z=>?_)
 have a4:=aq z
 exact Pl 3<|ce L (dir != 1) (by rw[z];rfl)
 have a4:=ai z
 exact Pl 3<|ce L false (by rw[z];rfl)
 refine nt<|cb (((dir != 0)&&(dir != 1))) (fun f=>?_) (fun f=>?_)
 have M:=(aS f).1
 have N:=(aS f).2
 have bk:=aq M
 have bm:=aq N
 refine sg<|Pl 1<|L0<|b6 h #[.int .u8 0,.int .u16 0,.int .u8 0,.int .u8 0,.int .u16 0,.int .u16 0,.int .u16 0,.int .u16 0,.int .u16 0,.int .u16 0,.int .u16 0,.int .u16 0,.int .u16 0,.int .u16 0,.slice none 0 0,.slice none 0 0,.slice none 0 0,.slice none 0 0,.int .u8 0,.int .u8 0,.int .u8 0,.int .u8 0,.int .u8 0,.slice none 0 0] fun bn a5 a6=>Pl 1<|nt<|rt<|tr<|bF a5 (.int .i64 1)<|?_
 have hs:eg dir b=(fO.zero,1):=by
   unfold eg
   (try simp only[f,M,N,bs,if_true,if_false,decide_true,decide_false,ej,reduceIte])
   all_goals rfl
 rw[← ez hrb]
 refine fY hs ?_
 exact eZ (ud s a6 o)
 refine bq<|sq<|sg<|Pl 2<|nt<|cb ((decide (((b.length:Nat) : Int)<8))) (fun i=>?_) (fun i=>?_)
 have a7:=of_decide_eq_true i
 refine sg<|Pl 1<|L0<|b6 h #[.int .u8 0,.int .u16 0,.int .u8 0,.int .u8 0,.int .u16 0,.int .u16 0,.int .u16 0,.int .u16 0,.int .u16 0,.int .u16 0,.int .u16 0,.int .u16 0,.int .u16 0,.int .u16 0,.slice none 0 0,.slice none 0 0,.slice none 0 0,.slice none 0 0,.int .u8 0,.int .u8 0,.int .u8 0,.int .u8 0,.int .u8 0,.slice none 0 0] fun bo a8 a9=>Pl 1<|nt<|rt<|tr<|bF a8 (.int .i64 2)<|?_
 have hs:eg dir b=(fO.zero,2):=by
   unfold eg
   (try simp only[f,i,bs,if_true,if_false,decide_true,decide_false,ej,reduceIte])
   all_goals rfl
 rw[← ez hrb]
 refine fY hs ?_
 exact eZ (ud s a9 o)
 have a7:=of_decide_eq_false i
 refine bq<|sq<|sg<|Pl 2<|nt<|cb ((decide (260<((b.length:Nat) : Int)))) (fun j=>?_) (fun j=>?_)
 have aa:=of_decide_eq_true j
 refine sg<|Pl 1<|L0<|b6 h #[.int .u8 0,.int .u16 0,.int .u8 0,.int .u8 0,.int .u16 0,.int .u16 0,.int .u16 0,.int .u16 0,.int .u16 0,.int .u16 0,.int .u16 0,.int .u16 0,.int .u16 0,.int .u16 0,.slice none 0 0,.slice none 0 0,.slice none 0 0,.slice none 0 0,.int .u8 0,.int .u8 0,.int .u8 0,.int .u8 0,.int .u8 0,.slice none 0 0] fun bp ac ae=>Pl 1<|nt<|rt<|tr<|bF ac (.int .i64 3)<|?_
 have hs:eg dir b=(fO.zero,3):=by
   unfold eg
   (try simp only[f,i,j,bs,if_true,if_false,decide_true,decide_false,ej,reduceIte])
   all_goals rfl
 rw[← ez hrb]
 refine fY hs ?_
 exact eZ (ud s ae o)
 have aa:=of_decide_eq_false j
 refine bq<|sq<|sg<|Pl 1<|?_
 have B:=bg.old hsl s
 refine fl (bg.at_ B 2 (by omega)) fun af ag ah aj br=>L0<|jt b.length 2 ah (by omega)<|L0<|dZ (p:=⟨af,ag+2,none⟩) (v:=.int .u8 (b.getD 2 0)) aj<|Pl 2<|bl 28 (((b.getD 2 0)!=0)) (fun r=>?_) (fun r=>?_)
 have al:=aq r
 refine Pl 5<|nt<|c1<|sg<|Pl 1<|L0<|b6 h #[.int .u8 0,.int .u16 0,.int .u8 0,.int .u8 0,.int .u16 0,.int .u16 0,.int .u16 0,.int .u16 0,.int .u16 0,.int .u16 0,.int .u16 0,.int .u16 0,.int .u16 0,.int .u16 0,.slice none 0 0,.slice none 0 0,.slice none 0 0,.slice none 0 0,.int .u8 0,.int .u8 0,.int .u8 0,.int .u8 0,.int .u8 0,.slice none 0 0] fun bt an ap=>Pl 1<|nt<|rt<|tr<|bF an (.int .i64 13)<|?_
 have hs:eg dir b=(fO.zero,13):=by
   unfold eg
   (try simp only[f,i,j,r,bs,if_true,if_false,decide_true,decide_false,ej,reduceIte])
   all_goals rfl
 rw[← ez hrb]
 refine fY hs ?_
 exact eZ (ud s ap o)
 have al:=ai r
 refine Pl 1<|fl (bg.at_ B 3 (by omega)) fun au av ax ay bu=>L1<|jt b.length 3 ax (by omega)<|L1<|dZ (p:=⟨au,av+3,none⟩) (v:=.int .u8 (b.getD 3 0)) ay<|Pl 2<|nt<|cb (((b.getD 3 0)!=0)) (fun t=>?_) (fun t=>?_)
 have az:=aq t
 refine sg<|Pl 1<|L0<|b6 h #[.int .u8 0,.int .u16 0,.int .u8 0,.int .u8 0,.int .u16 0,.int .u16 0,.int .u16 0,.int .u16 0,.int .u16 0,.int .u16 0,.int .u16 0,.int .u16 0,.int .u16 0,.int .u16 0,.slice none 0 0,.slice none 0 0,.slice none 0 0,.slice none 0 0,.int .u8 0,.int .u8 0,.int .u8 0,.int .u8 0,.int .u8 0,.slice none 0 0] fun bv aA aC=>Pl 1<|nt<|rt<|tr<|bF aA (.int .i64 13)<|?_
 have hs:eg dir b=(fO.zero,13):=by
   unfold eg
   (try simp only[f,i,j,r,t,bs,if_true,if_false,decide_true,decide_false,ej,reduceIte])
   all_goals rfl
 rw[← ez hrb]
 refine fY hs ?_
 exact eZ (ud s aC o)
 have az:=ai t
 refine bq<|sq<|sq<|fl (bg.at_ B 4 (by omega)) fun aD aE aF aH bw=>fl (bg.at_ B 5 (by omega)) fun aJ aK aL aM bx=>Rg 13 (fun w'=>w'.cell? ⟨aD,aE+4,none⟩=some (.int .u8 (b.getD 4 0))∧w'.cell? ⟨aJ,aK+5,none⟩=some (.int .u8 (b.getD 5 0))) fun bz l=>bh ⟨(uc l aH),(uc l aM)⟩ fun e=>Rt 0 e<|lz 1 e b.length 4 4 rfl aF (by omega)<|Rl 2 e (fun _ hs=>hs.1)<|Rr 3 e (.int .i64 (b.getD 4 0)) (fun _ _=>bY (.int .i64 (IntKind.i64.wrap (b.getD 4 0))) (by kernel_rfl) (congrArg (Value.int .i64) (i64_in (by omega))))<|Rr 4 e (.int .i64 (256*(b.getD 4 0))) (fun _ _=>bY (.int .i64 (IntKind.i64.wrap (256*(b.getD 4 0)))) (by kernel_rfl) (congrArg (Value.int .i64) (IntWalk.i64_in _ (by omega))))<|Rt 5 e<|?_
 refine lz 6 e b.length 5 5 rfl aL (by omega)<|Rl 7 e (fun _ hs=>hs.2)<|Rr 8 e (.int .i64 (b.getD 5 0)) (fun _ _=>bY (.int .i64 (IntKind.i64.wrap (b.getD 5 0))) (by kernel_rfl) (congrArg (Value.int .i64) (i64_in (by omega))))<|Rr 9 e (.int .i64 ((256*(b.getD 4 0))+(b.getD 5 0))) (fun _ _=>bY (.int .i64 (IntKind.i64.wrap ((256*(b.getD 4 0))+(b.getD 5 0)))) (by kernel_rfl) (congrArg (Value.int .i64) (IntWalk.i64_in _ (by omega))))<|Rt 10 e<|Rr 11 e (.int .i64 (((b.length:Nat) : Int)-6)) (fun _ _=>bY (.int .i64 (IntKind.i64.wrap (((b.length:Nat) : Int)-6))) (by kernel_rfl) (congrArg (Value.int .i64) (IntWalk.i64_in _ (by omega))))<|Rt 12 e<|re<|tn<|?_
 have O:=aI s l
 refine cb ((((256*(b.getD 4 0))+(b.getD 5 0))!=(((b.length:Nat) : Int)-6))) (fun u=>?_) (fun u=>?_)
 have aN:=aq u
 refine sg<|Pl 1<|?_
 refine L0<|b6 (ub l h) #[.int .u8 0,.int .u16 0,.int .u8 0,.int .u8 0,.int .u16 0,.int .u16 0,.int .u16 0,.int .u16 0,.int .u16 0,.int .u16 0,.int .u16 0,.int .u16 0,.int .u16 0,.int .u16 0,.slice none 0 0,.slice none 0 0,.slice none 0 0,.slice none 0 0,.int .u8 0,.int .u8 0,.int .u8 0,.int .u8 0,.int .u8 0,.slice none 0 0] fun bA aO aP=>Pl 1<|nt<|rt<|tr<|bF aO (.int .i64 5)<|?_
 have hs:eg dir b=(fO.zero,5):=by
   unfold eg
   (try simp only[f,i,j,r,t,u,bs,if_true,if_false,decide_true,decide_false,ej,reduceIte])
   all_goals rfl
 rw[← ez hrb]
 refine fY hs ?_
 exact eZ (ud O aP o)
 have aN:=ai u
 refine bq<|sg<|Pl 2<|mS (dz (P:=Tryz.prog) 22 5 1 Tryz.underlying22 rfl rfl A b.length cp 7 (by omega)) fun aR hrun84 Q=>L0<|lB (.slice aR (b.length-7) (cp-7)) (dH (kl:=.i64) (k:=((7:Nat) : Int)) (A:=A) (n:=b.length) (c:=cp) rfl Tryz.underlying22 (by kernel_rfl) (by kernel_rfl) (hrun84 _ _))<|?_
 have R:=bg.old B l
 refine pr (dO dir (b.drop 7)) fun a F G=>?_
 refine L0<|Oc<|e2 (lc G (Q _ _ _ _ _ R) (by rw[List.length_drop];omega)) fun x90 bB aU H=>?_
 have aV:=d8.sub aU (fun m' w' q=>(Q _ _ _ _ _ q))
 refine Pl 3<|L0<|bJ mZ fun S bC T aW aX=>L0<|b6 aW (rc a x90) fun bD aY aZ=>Pl 1<|nt<|sq<|sg<|Pl 2<|nt<|?_
 have U:=ud aX aZ T
 have D:=aI H U
 have V:=aI O D
 refine cb ((F != 0)) (fun C=>?_) (fun C=>?_)
 have b0:=aq C
 refine sg<|Pl 2<|?_
 refine L0<|b6 (ub (aI l D) h) #[.int .u8 0,.int .u16 0,.int .u8 0,.int .u8 0,.int .u16 0,.int .u16 0,.int .u16 0,.int .u16 0,.int .u16 0,.int .u16 0,.int .u16 0,.int .u16 0,.int .u16 0,.int .u16 0,.slice none 0 0,.slice none 0 0,.slice none 0 0,.slice none 0 0,.int .u8 0,.int .u8 0,.int .u8 0,.int .u8 0,.int .u8 0,.slice none 0 0] fun bE b1 b2=>Pl 1<|nt<|rt<|tr<|bF b1 (.int .i64 F)<|?_
 have hs:eg dir b=(fO.zero,F):=by
   unfold eg
   (try simp only[f,i,j,r,t,u,C,bs,if_true,if_false,decide_true,decide_false,ej,G,reduceIte])
   all_goals rfl
 rw[← ez hrb]
 refine fY hs ?_
 exact eZ (ud V b2 o)
 have b0:=ai C
 refine bq<|sq<|?_
 have I:=bg.old R D
 refine fl (bg.at_ I 6 (by omega)) fun b3 b4 W b5 bG=>fl (bg.at_ I 0 (by omega)) fun b7 b9 X ba bH=>fl (bg.at_ I 1 (by omega)) fun bb bc Y bd bI=>Rg 18 (fun w'=>w'.cell? ⟨b3,b4+6,none⟩=some (.int .u8 (b.getD 6 0))∧w'.cell? ⟨b7,b9+0,none⟩=some (.int .u8 (b.getD 0 0))∧w'.cell? ⟨bb,bc+1,none⟩=some (.int .u8 (b.getD 1 0))∧w'.heap[S]? = some (.cells (rc a x90) 30 (0,0))) fun bK y=>?_
 have Z:=ub y aY
 refine bh ⟨(uc y b5),(uc y ba),(uc y bd),Z⟩ fun d=>Rt 0 d<|lz 1 d b.length 6 6 rfl W (by omega)<|Rl 2 d (fun _ hs=>hs.1)<|Rt 3 d<|lz 4 d b.length 0 0 rfl X (by omega)<|Rl 5 d (fun _ hs=>hs.2.1)<|Rr 6 d (.int .u16 (b.getD 0 0)) (fun _ _=>bY (.int .u16 (IntKind.u16.wrap (b.getD 0 0))) (by kernel_rfl) (congrArg (Value.int .u16) (i5 (by omega))))<|Rt 7 d<|Rt 8 d<|lz 9 d b.length 1 1 rfl Y (by omega)<|Rl 10 d (fun _ hs=>hs.2.2.1)<|Rr 11 d (.int .u16 (b.getD 1 0)) (fun _ _=>bY (.int .u16 (IntKind.u16.wrap (b.getD 1 0))) (by kernel_rfl) (congrArg (Value.int .u16) (i5 (by omega))))<|Rt 12 d<|?_
 refine Rt 13 d<|Rr 14 d (.agg (rc a x90)) (fun w' hs=>ka (g:=S) (off:=0) [.int .u8 a.code,.int .u8 a.fail,.int .u16 a.addr,.int .u16 a.count,.int .u16 a.value,.int .u16 a.and_,.int .u16 a.or_,.int .u16 a.addr2,.int .u16 a.sub,.int .u16 a.status,.int .u16 a.events,.int .u16 a.messages,.slice x90.aw a.words.length x90.kw,.slice x90.ab a.bits.length x90.kb,.slice x90.ad a.data.length x90.kd,.slice x90.ar a.recs.length x90.kr,.int .u8 a.mei,.int .u8 a.kind,.int .u8 a.level,.int .u8 a.more,.int .u8 a.next,.slice x90.ao a.objects.length x90.ko] rfl (by kernel_rfl) hs.2.2.2 (by kernel_rfl) (by kernel_rfl) rfl)<|Rt 15 d<|?_
 have a0:=aI D y
 have a1:=aI l a0
 refine R0 16 rfl<|b6 (ub a1 h) (tg (b.getD 6 0) ((((256*(b.getD 0 0))%65536)+(b.getD 1 0))%65536) a x90) fun bL be E=>?_
 have a2:=uz y E
 have bM:=uz a0 E
 have bN:=uz a1 E
 have a3:=ud V a2 o
 have J:=bg.old hsl a3
 refine bh ⟨(cB J W 6 (by omega)),(cB J X 0 (by omega)),(cB J Y 1 (by omega)),(aT E (Ne.symm (nb (ak h) (le l.size H.size) T)) Z)⟩ fun bf=>Rt 17 bf<|re<|tn<|rt<|bF be (.int .i64 0)<|?_
 have hs:eg dir b=(⟨(b.getD 6 0),((((256*(b.getD 0 0))%65536)+(b.getD 1 0))%65536),a⟩,0):=by
   unfold eg
   (try simp only[f,i,j,r,t,u,C,bs,if_true,if_false,decide_true,decide_false,ej,G,reduceIte])
   all_goals rfl
 rw[← ez hrb]
 refine fY hs ?_
 exact⟨x90,rfl,⟨(d8.upd aV (uz U a2) (am (aQ (ub (aI l H) h) (by decide)) aG)),b8 (x:=(b.getD 6 0)) (by omega),aB (x:=((((256*(b.getD 0 0))%65536)+(b.getD 1 0))%65536)) (by omega)⟩,a3⟩
theorem mt{m:Md}{v:Value}{b:List Int}{w:World}{dir:Int}(h:bg m w v b)(hb:b.length≤1048576) : Calls Tryz.prog 33 #[.int .i64 dir,v] w (mE v b (dx dir b) w):=by
  obtain⟨A,cp,rfl,hc,_⟩:=h.shape
  exact kX h hb hc
theorem jM{m:Md}{v:Value}{b:List Int}{w:World}{dir:Int}{F:fO}{E:Int}(hX:dx dir b=(F,E))(h:bg m w v b)(hb:b.length≤1048576) : Calls Tryz.prog 33 #[.int .i64 dir,v] w (fun e w'=>∃ x,e = .returned (.tuple #[.agg (tg F.unit F.tid F.msg x),.int .i64 E])∧(d8 v b w' (rc F.msg x).toList F.msg∧(0≤F.unit∧F.unit<256)∧(0≤F.tid∧F.tid<65536))∧aE [] w w'):=by
  refine(mt h hb).mono ?_
  rintro e w' ⟨x,rfl,h1,h2⟩
  rw[hX] at h1 ⊢
  exact⟨x,rfl,h1,h2⟩
open Go.RowKit
theorem jE{w:World}{dir:Int}{mA:Md}{A:Option Addr}{cpA:Nat}{b:List Int}(hb:bg mA w (.slice A b.length cpA) b) :
    Calls Tryz.prog 5 #[.int .i64 dir,.slice A b.length cpA] w (dh (.bool true) w):=by
 refine en 47 Tryz.func5 rfl<|sg<|Pl 1<|ng<|L0<|Oc<|m1 (@s5 _) fun U e=>Pl 1<|nt<|sq<|sq<|?_
 refine go<|Pl 3<|nt<|cb ((decide (700<((b.length:Nat) : Int)))) (fun f=>?_) (fun f=>?_)
 have C:=of_decide_eq_true f
 refine sg<|Pl 2<|nt<|rt<|tr<|rr (.bool true)<|?_
 exact⟨rfl,e⟩
 have C:=of_decide_eq_false f
 refine bq<|sg<|Pl 2<|?_
 have n:=bg.old hb e
 refine pr (dx dir b) fun a g h=>?_
 refine L0<|Oc<|e2 (gQ h n (by omega)) fun x17 V D E=>?_
 obtain⟨F,W,X⟩:=D
 refine Pl 3<|L0<|bJ #[.int .u8 0,.int .u16 0,.int .u8 0,.int .u8 0,.int .u16 0,.int .u16 0,.int .u16 0,.int .u16 0,.int .u16 0,.int .u16 0,.int .u16 0,.int .u16 0,.int .u16 0,.int .u16 0,.slice none 0 0,.slice none 0 0,.slice none 0 0,.slice none 0 0,.int .u8 0,.int .u8 0,.int .u8 0,.int .u8 0,.int .u8 0,.slice none 0 0] fun Y Z G H I=>L0<|b6 H (tg a.unit a.tid a.msg x17) fun a0 o J=>Pl 1<|ng<|Pl 2<|?_
 have p:=ud I J G
 have q:=aI E p
 have r:=bg.old n q
 refine pr (dx dir b) fun c i j=>?_
 refine L0<|Oc<|e2 (jM j r (by omega)) fun x38 a1 L k=>?_
 obtain⟨M,a2,a3⟩:=L
 have N:=d8.rd M (bg.old r k)
 refine Pl 3<|L0<|bJ #[.int .u8 0,.int .u16 0,.int .u8 0,.int .u8 0,.int .u16 0,.int .u16 0,.int .u16 0,.int .u16 0,.int .u16 0,.int .u16 0,.int .u16 0,.int .u16 0,.int .u16 0,.int .u16 0,.slice none 0 0,.slice none 0 0,.slice none 0 0,.slice none 0 0,.int .u8 0,.int .u8 0,.int .u8 0,.int .u8 0,.int .u8 0,.slice none 0 0] fun a4 a5 s O t=>L0<|b6 O (tg c.unit c.tid c.msg x38) fun a6 u v=>Pl 1<|ng<|Pl 7<|cu 6 [33] 39 (((g==i)&&((a.unit==c.unit)&&(a.tid==c.tid)))) (fun K x=>?_) ?_
 refine bl 33 ((g==i)) (fun d=>?_) (fun d=>?_)
 have P:=al d
 refine Pl 1<|?_
 exact L1<|tH (ub (aI k (ud t v s)) o) 0 2<|Pl 1<|L1<|tH u 0 2<|L1<|lB (.bool ((a.unit==c.unit)&&(a.tid==c.tid))) (iS a.unit a.tid c.unit c.tid rfl (by kernel_rfl) (by kernel_rfl) rfl)<|Pl 1<|ce x ((a.unit==c.unit)&&(a.tid==c.tid)) (by rw[d];rfl)
 have P:=ap d
 exact Pl 6<|ce x false (by rw[d];rfl)
 refine Pl 1<|?_
 have y:=ud t v s
 have l:=aI k y
 have z:=aI e (aI q l)
 refine bl 40 (((g==i)&&((a.unit==c.unit)&&(a.tid==c.tid)))) (fun m=>?_) (fun m=>?_)
 have Q:=(aS m).1
 have B:=(aS m).2
 have a7:=al Q
 have R:=(aS B).1
 have S:=(aS B).2
 have q64bap:=al R
 have q64bbp:=al S
 refine Pl 1<|?_
 refine L1<|tH (ub l o) 2 22<|Pl 1<|L1<|tH u 2 22<|?_
 refine L1<|Oc<|m1 (oo (aW.upd F (aI p l) aG) (aW.upd N y aG)) fun a8 T=>Pl 2<|nt<|rt<|rr (.bool (decide (a.msg=c.msg)))<|?_
 have hs:(decide (a.msg=c.msg))=true:=by obtain⟨rfl,rfl⟩:=Prod.mk.inj (h.symm.trans j);first | (simp;done) | (exfalso;simp_all)
 rw[hs]
 exact⟨rfl,(aI z T)⟩
 refine Pl 7<|nt<|rt<|rr (.bool false)<|?_
 have hs:false=true:=by obtain⟨rfl,rfl⟩:=Prod.mk.inj (h.symm.trans j);first | (simp;done) | (exfalso;simp_all)
 rw[hs]
 exact⟨rfl,z⟩
theorem iZ{w:World}{dir:Int}{mA:Md}{vA:Value}{b:List Int}(hb:bg mA w vA b) : Calls Tryz.prog 5 #[.int .i64 dir,vA] w (dh (.bool true) w):=by
  obtain⟨AA,cpA,rfl,_,_⟩:=hb.shape
  exact jE (dir:=dir) hb
open Go.RowKit
section
variable {H:Type}{enc:TypeId × Value→H}{P:Program}{w:World}{base:Nat}{spare:Nat→Bool}{held:Bool}
theorem mi(b off:Nat)(sp:Option Nat)(n:Nat)(h:sp=none) : (⟨b,off,sp⟩ : Addr).add n=⟨b,off+n,none⟩:=ib b off n sp h
theorem oT{b off:Nat}{sp:Option Nat}{v:Value}(h:w.cell? ⟨b,off,sp⟩=some v) : sp=none:=by
  cases sp with
  | none=>rfl
  | some s =>
    unfold World.cell? at h
    simp at h
    split at h<;>cases h
theorem pF{α:Type}{Pd:DataW H→Prop}{R:World→α→List Value→Prop}{t e:TypeId}{sz fuel:Nat}{cs:List Value}{x:DataW H × List MemPlace}(ht:P.underlying t=some (.slice e))(hsz:P.cellsOf e=sz)(hp:0<sz)
    (hel:∀ n cs' y,cs'.length=sz→DataW.trod enc P w base spare held n e cs'=some y→Pd y.1→∃ x,R w x cs') (hP:∀ elems spare,x.1 = .slice elems spare→∀ d,d∈elems→Pd d) (h:DataW.trod enc P w base spare held fuel t cs=some x) : ∃ v xs,cs=[v]∧aK false e sz R w v xs:=by
  rcases Go.Deep.open_slice ht h with⟨rfl,_⟩|⟨a,len,cap,m,n,D,Pl,rfl,_,hl,hm,hmm,hxe,hx⟩
  · exact⟨_,[],rfl,aK.nil ..⟩
  have hlm:len≤m:=by rw[hmm];split<;>omega
  have key:∀ i:Fin len,∃ y:α × List Value,w.cells? base (a.add (i*sz)) sz=some y.2∧y.2.length=sz∧R w y.1 y.2:=fun i=>by
    obtain⟨cs',h1,h2⟩:=hx i (by omega)
    rw[hsz] at h1
    obtain⟨_,hlen,_⟩:=World.cells?_some h1
    obtain⟨y,hy⟩:=hel n cs' _ hlen h2 (hP _ _ (by rw[hxe]) _ (List.mem_map.2 ⟨i.1,List.mem_range.2 i.2,rfl⟩))
    exact⟨(y,cs'),h1,hlen,hy⟩
  obtain⟨f,hf⟩:=Classical.axiomOfChoice key
  refine⟨_,List.ofFn fun i=>(f i).1,rfl,some a,cap,by simp,by simpa using hl,hm,(fun h=>by cases h),fun hpos=>?_⟩
  have hpos':0<len:=by simpa using hpos
  obtain⟨b,off,sp⟩:=a
  have hsp:sp=none:=by
    obtain⟨h1,h2,_⟩:=hf ⟨0,hpos'⟩
    obtain⟨_,_,h3⟩:=World.cells?_some h1
    have h4:=h3 0 hp
    rw[List.getElem?_eq_getElem (by omega)] at h4
    cases sp with
    | none=>rfl
    | some s =>
      simp[Addr.add] at h4
      exact oT h4
  subst hsp
  have hc:∀ i:Fin len,∀ k u,(f i).2[k]? = some u→w.cell? ⟨b,off+i*sz+k,none⟩=some u:=fun i k u hu=>by
    obtain⟨h1,h2,_⟩:=hf i
    obtain⟨_,_,h3⟩:=World.cells?_some h1
    have hk:k<sz:=by have:=(List.getElem?_eq_some_iff.1 hu).1;omega
    have h4:=h3 k hk
    rw[mi _ _ _ _ rfl,mi _ _ _ _ rfl] at h4
    rw[h4,hu]
  have h0:∃ u,w.cell? ⟨b,off+0*sz+0,none⟩=some u:=by
    obtain⟨_,h2,_⟩:=hf ⟨0,hpos'⟩
    exact⟨_,hc ⟨0,hpos'⟩ 0 _ (List.getElem?_eq_getElem (by omega))⟩
  obtain⟨u,hu⟩:=h0
  unfold World.cell? at hu
  split at hu
  · rename_i cells t' fr hb
    refine⟨b,off,cells,t',fr,rfl,hb,fun h=>(by cases h),fun j y hj=>?_⟩
    have hjl:j<len:=by have:=(List.getElem?_eq_some_iff.1 hj).1;simpa using this
    have hy:(f ⟨j,hjl⟩).1=y:=by
      rw[List.getElem?_ofFn] at hj
      simpa [hjl] using hj
    obtain⟨_,h2,h3⟩:=hf ⟨j,hjl⟩
    refine⟨(f ⟨j,hjl⟩).2,h2,by rw[← hy];exact h3,fun i u hi=>?_⟩
    have:=hc ⟨j,hjl⟩ i u hi
    rw[bu hb] at this
    exact this
  · cases hu
theorem sc{α:Type}{R:World→α→List Value→Prop}{t e:TypeId}{sz fuel:Nat}{cs:List Value}{x:DataW H × List MemPlace}(ht:P.underlying t=some (.slice e))(hsz:P.cellsOf e=sz)(hp:0<sz)
    (hel:∀ n cs' y,cs'.length=sz→DataW.trod enc P w base spare held n e cs'=some y→∃ x,R w x cs') (h:DataW.trod enc P w base spare held fuel t cs=some x) : ∃ v xs,cs=[v]∧aK false e sz R w v xs :=
  pF (Pd:=fun _=>True) ht hsz hp (fun n cs' y h1 h2 _=>hel n cs' y h1 h2) (fun _ _ _ _ _=>trivial) h
end
section
variable {H:Type}{enc:TypeId × Value→H}{w:World}{base:Nat}{spare:Nat→Bool}{held:Bool}{n:Nat}{y:DataW H × List MemPlace}
theorem tX{cs:List Value}(h:DataW.trod enc Tryz.prog w base spare held n 5 cs=some y) : ∃ x,rq w x cs:=by
  obtain⟨k,rfl,_,hw⟩:=DataW.trod_int Tryz.underlying5 h
  exact⟨k,rfl,oB hw⟩
theorem tQ{cs:List Value}(h:DataW.trod enc Tryz.prog w base spare held n 22 cs=some y) : ∃ v xs,cs=[v]∧bg false w v xs:=sc Tryz.underlying22 (by kernel_rfl) (by decide) (fun _ _ _ _ h=>tX h) h
end
open Go.RowKit
section
variable {H:Type}{enc:TypeId × Value→H}{w:World}{base:Nat}{spare:Nat→Bool}{held:Bool}{n:Nat}{y:DataW H × List MemPlace}
end
open Go.RowKit
section
variable {H:Type}{enc:TypeId × Value→H}{w:World}{base:Nat}{spare:Nat→Bool}{held:Bool}{n:Nat}{y:DataW H × List MemPlace}
end
end Go.Proofs.YtogbnemojakcpaaGreat
