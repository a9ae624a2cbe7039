/- Contracts of functions, part CAduTurns4. -/
import Derived.Test.YtdkhbcefkfgbdaaGreatCAduTurns1
import Derived.Test.YtdkhbcefkfgbdaaGreatCAduTurns2
import Derived.Test.YtdkhbcefkfgbdaaGreatCAduTurns3
import Derived.Laws.StructEq
import Derived.Lib.ConvBytes
import Derived.Lib.OthersKept
import Derived.Shelf.Strings.Builder1
set_option linter.unusedVariables false
set_option linter.unusedSimpArgs false
set_option maxRecDepth 100000
set_option maxHeartbeats 4000000
namespace Go.Proofs.YtdkhbcefkfgbdaaGreat
open Go.RowKit
variable {w:World}
theorem qh:Calls Tryz.prog 258 #[] w (bS (.agg (jb 256)) w):=by
 refine en 23 Tryz.func258 rfl<|sg<|aK (jb 0) fun c F n o p=>ng<|aK (jb 0) fun a q r s t=>nt<|sq<|sg<|?_
 refine ah 1<|bk<|?_
 refine je (fun x=>[(0,vP c 0),(1,vP a 0),(4,vI ((x:Nat) : Int))]) (fun(x:Nat) w'=>aI [a] q w'∧w'.heap[a]? = some (.cells (jb x) 247 (0,0))∧(x≤256)) (fun x=>256-x) 0 ⟨aI.refl _ _,s,(by(try dsimp only);omega)⟩ ?_
 rintro i g ⟨h,u,v⟩
 refine gi [(0,vP c 0),(1,vP a 0),(4,vI ((i:Nat) : Int))] ?_
 have j:g.heap[a]? = some (.cells (jb i) 247 (0,0)):=u
 have G:i≤256:=v
 refine aB 1<|sq<|?_
 have l:=ud t h r
 refine cb ((decide (((i:Nat) : Int)<256))) (fun d=>?_) (fun d=>?_)
 have y:=of_decide_eq_true d
 refine bu<|sq<|bk<|aq 2<|aL 1<|L0<|Oe (vW (IntKind.u16.wrap ((i:Nat) : Int))) (vW ((fY 0 i:Nat) : Int)) (congrArg (Value.int .u16) (jl (x:=((i:Nat) : Int)) (by omega)))<|Pl 1<|nl<|?_
 refine tn<|sq<|aB 1<|bk<|?_
 refine je (fun x=>[(0,vP c 0),(1,vP a 0),(2,vI ((i:Nat) : Int)),(3,vW ((fY x i:Nat) : Int)),(4,vI ((i:Nat) : Int)),(5,.bool (decide (((i:Nat) : Int)<256))),(6,vI ((i:Nat) : Int)),(7,vI ((i:Nat) : Int)),(8,vW ((fY 0 i:Nat) : Int)),(9,vI ((x:Nat) : Int))]) (fun(x:Nat) w'=>aI [] g w'∧(x≤8)) (fun x=>8-x) 0 ⟨aI.refl _ _,(by(try dsimp only);omega)⟩ ?_
 rintro k H ⟨e,z⟩
 refine gi [(0,vP c 0),(1,vP a 0),(2,vI ((i:Nat) : Int)),(3,vW ((fY k i:Nat) : Int)),(4,vI ((i:Nat) : Int)),(5,.bool (decide (((i:Nat) : Int)<256))),(6,vI ((i:Nat) : Int)),(7,vI ((i:Nat) : Int)),(8,vW ((fY 0 i:Nat) : Int)),(9,vI ((k:Nat) : Int))] ?_
 have I:k≤8:=z
 have J:=jL (x:=i) (by omega) k
 refine aB 1<|sq<|?_
 refine cb ((decide (((k:Nat) : Int)<8))) (fun f=>?_) (fun f=>?_)
 have A:=of_decide_eq_true f
 refine bu<|sq<|bk<|go<|Pl 1<|L0<|Oe (vW (Int.fdiv ((fY k i:Nat) : Int) (2 ^ 1))) (vW (((fY k i:Nat) : Int)/2)) (congrArg (Value.int .u16) (mB _ _ _ (by decide)))<|Pl 1<|L0<|Oe (vW (bits .and .u16 ((fY k i:Nat) : Int) 1)) (vW (((fY k i:Nat) : Int)%2)) (congrArg (Value.int .u16) (ze (by omega)))<|Pl 1<|L0<|Oe (vW (bits .xor .u16 (((fY k i:Nat) : Int)/2) (((((fY k i:Nat) : Int)%2)*40961)%65536))) (vW ((fY (k+1) i:Nat) : Int)) (congrArg (Value.int .u16) ((pP (by omega) (by omega)).trans (Bx _)))<|Pl 1<|nl<|bn<|?_
 exact tn<|go<|bp (((k:Nat) : Int)+1)<|Pl 1<|nl<|gK (k+1) ⟨e,(by(try dsimp only);omega)⟩ (by omega)
 have A:=of_decide_eq_false f
 refine xt<|tx<|tx<|bx<|tn<|go<|Pl 2<|L0<|DW (b:=a) (off:=0) 256 i ((i:Nat) : Int) rfl (by omega)<|?_
 refine L0<|bY (hl:=(by rw[dG];simp;omega)) (ub e j) (0+i) ((jb i).setIfInBounds (0+i) (vW ((fY k i:Nat) : Int))) fun K B C=>?_
 have m:=B
 rw[Nat.zero_add,zv (by omega) (by omega)] at m
 refine nl<|bn<|tn<|go<|bp (((i:Nat) : Int)+1)<|Pl 1<|nl<|?_
 exact gK (i+1) ⟨(u1 h (uz e C) im),m,(by(try dsimp only);omega)⟩ (by omega)
 have y:=of_decide_eq_false d
 refine xt<|tx<|tx<|bx<|tn<|sg<|L0<|cm (hz:=(by rw[dG];kernel_rfl)) j<|?_
 refine aG (hz:=(by rw[dG];kernel_rfl)) (hv:=(Eq.trans (by first | rw[dG,dG] | rw[dG]) (Eq.symm (dG _)))) (h1:=(rN _)) (ub l o) ((jb i)) fun L D E=>ss<|EE 256 (dG _) D<|?_
 have hi:i=256:=by omega
 subst hi
 exact⟨rfl,(ud (aJ p l) E n)⟩
variable {b:List Int}{cp:Nat}{m:Md}
theorem pV{A:Option Addr}    {s:Int}(hsl:aV m w (.slice A b.length cp) b)(hs:0≤s∧s<65536) :
    Calls Tryz.prog 257 #[vW s,.slice A b.length cp] w (bS (vW (cc s b)) w):=by
 have hln:=aT.len hsl
 have hb:=aV.range hsl
 refine en 26 Tryz.func257 rfl<|aq 1<|ng<|ay<|m1 (@qh w) fun D g=>aK (jb 0) fun c E h j l=>aG (hz:=(by rw[dG];kernel_rfl)) (hv:=(Eq.trans (by first | rw[dG,dG] | rw[dG]) (Eq.symm (dG _)))) (h1:=(rN _)) j ((jb 256)) fun n o q=>nt<|sq<|aB 3<|bk<|?_
 refine je (fun x=>[(0,vW (ex s b x)),(4,vW 0),(5,vP c 0),(9,.slice A b.length cp),(10,vI (b.length:Int)),(11,vI (x:Int))]) (fun(x:Nat) w'=>aI [] n w'∧(x≤b.length)∧(0≤ex s b x∧ex s b x<65536)) (fun x=>b.length-x) 0 ⟨aI.refl _ _,(by(try dsimp only);omega),hs⟩ ?_
 rintro k F ⟨d,r,t⟩
 refine gi [(0,vW (ex s b k)),(4,vW 0),(5,vP c 0),(9,.slice A b.length cp),(10,vI (b.length:Int)),(11,vI (k:Int))] ?_
 have G:k≤b.length:=r
 have H:0≤ex s b k∧ex s b k<65536:=t
 refine aB 1<|sq<|?_
 have f:=aJ g (ud l (aJ q d) h)
 refine cb ((decide ((k:Int)<(b.length:Int)))) (fun e=>?_) (fun e=>?_)
 have u:=of_decide_eq_true e
 refine bu<|sq<|bk<|sg<|?_
 refine fo (aV.at_ (aV.old hsl f) k (by omega)) fun y z B C I=>L0<|lc b.length k B (by omega)<|L0<|fR (p:=⟨y,z+k,none⟩) (v:=vB (b.getD k 0)) C<|ah 1<|go<|Pl 1<|L0<|Oe (vW (Int.fdiv (ex s b k) (2 ^ 8))) (vW ((ex s b k)/256)) (congrArg (Value.int .u16) (mB _ _ _ (by decide)))<|Pl 3<|?_
 have J:=Ff (a:=((ex s b k)%256)) (b:=(b.getD k 0)) (by omega) (by omega)
 refine L0<|Oe (vB (bits .xor .u8 ((ex s b k)%256) (b.getD k 0))) (vB (xi ((ex s b k)%256) (b.getD k 0))) (congrArg (Value.int .u8) (Dt (by omega) (by omega)))<|L0<|DW (b:=c) (off:=0) 256 (((xi ((ex s b k)%256) (b.getD k 0))).toNat) (xi ((ex s b k)%256) (b.getD k 0)) (by omega) (by omega)<|?_
 have K:=ru (i:=(xi ((ex s b k)%256) (b.getD k 0))) (by omega)
 exact L0<|fR (p:=⟨c,0+((xi ((ex s b k)%256) (b.getD k 0))).toNat,none⟩) (v:=vW (md ((xi ((ex s b k)%256) (b.getD k 0))))) (ae (ub d o) (by rw[Nat.zero_add,BE (by omega),xQ (by omega)]))<|L0<|Oe (vW (bits .xor .u16 ((ex s b k)/256) (md (xi ((ex s b k)%256) (b.getD k 0))))) (vW (ex s b (k+1))) (congrArg (Value.int .u16) (pP (by omega) (ru (by omega))))<|Pl 1<|nl<|bn<|tn<|go<|bp ((k:Int)+1)<|Pl 1<|nl<|gK (k+1) ⟨d,(by(try dsimp only);omega),(kq hs hb _)⟩ (by omega)
 have u:=of_decide_eq_false e
 refine xt<|tx<|tx<|bx<|tn<|aB 2<|rt<|rr (vW (ex s b k))<|?_
 have hk:ex s b k=cc s b:=s8 (by omega)
 rw[hk]
 exact⟨rfl,f⟩
variable {v:Value}
theorem sx(h:aV m w v b) : Calls Tryz.prog 257 #[.int .u16 65535,v] w (bS (.int .u16 (cc 65535 b)) w):=by
  obtain⟨A,cp,rfl,_,_⟩:=h.shape
  exact pV h (by decide)
theorem tT{A:Option Addr}    (hsl:aV m w (.slice A b.length cp) b) :
    Calls Tryz.prog 256 #[.slice A b.length cp] w (bS (vW (cc 65535 b)) w):=by
 exact en 5 Tryz.func256 rfl<|aq 1<|aL 1<|ay<|m1 (sx hsl) fun c a=>ah 1<|rt<|rr (vW (cc 65535 b))<|⟨rfl,a⟩
theorem lv(h:aV m w v b) : Calls Tryz.prog 256 #[v] w (bS (.int .u16 (cc 65535 b)) w):=by
  obtain⟨A,cp,rfl,_,_⟩:=h.shape
  exact tT h
theorem iK{s:Int}(hs:0≤s∧s<65536) : Calls Tryz.prog 255 #[vW s] w (fun e w'=>∃ v,e = .returned v∧eE w.heap.size w' v (cg s)∧aI [] w w'):=by
 refine en 9 Tryz.func255 rfl<|aq 1<|aL 3<|L0<|Oe (vW (Int.fdiv s (2 ^ 8))) (vW (s/256)) (congrArg (Value.int .u16) (mB _ _ _ (by decide)))<|Pl 1<|L0<|cX (m:=2) (e:=5) #[vB (s%256),vB ((s/256)%256)] fun a g b c d=>?_
 have f:=cD b (xs:=[(s%256),((s/256)%256)]) (by as_aux_lemma=>kernel_rfl) (al (by omega) (al (by omega) aP)) (by(try simp only[List.length_cons,List.length_nil]);omega) c
 exact ah 1<|rt<|rr (.slice (some ⟨a,0,none⟩) 2 2)<|⟨_,rfl,f,d⟩
theorem mt{n:Nat}(h:2≤b.length)(hn:n=b.length-2) : dK b=decide (cg (cc 65535 (b.take n))=b.drop n):=by
  subst hn
  unfold dK
  simp[h]
theorem Av(h:b.length<2) : dK b=false:=by
  unfold dK
  simp
  omega
theorem t4{A:Option Addr}    (hsl:aV m w (.slice A b.length cp) b)(hb:b.length≤1048576)(hcp:b.length≤cp) :
    Calls Tryz.prog 254 #[.slice A b.length cp] w (bS (.bool (dK b)) w):=by
 have hc:=aT.len hsl
 refine en 22 Tryz.func254 rfl<|aq 1<|aL 2<|bp ((b.length:Int)-2)<|ah 1<|sq<|?_
 refine Rg 16 (fun w'=>True) fun R f=>bv trivial fun d=>Rt 0 d<|Rt 1 d<|Rt 2 d<|wc 9 ((decide (0≤((b.length:Int)-2)))) (fun p=>?_) (fun p=>?_)
 have I:=of_decide_eq_true p
 refine Rt 3 d<|Rt 4 d<|ny (Ce (P:=Tryz.prog) 27 5 1 Tryz.underlying27 rfl rfl A b.length cp (k:=((b.length:Int)-2)) ((((b.length:Int)-2)).toNat) (by omega) (by omega) (by omega)) fun q hrun60 i=>Rr 5 d (.slice q ((((b.length:Int)-2)).toNat) cp) (fun _ _=>sM (kl:=.i64) (k:=((b.length:Int)-2)) (A:=A) (n:=b.length) (c:=cp) rfl Tryz.underlying27 (by kernel_rfl) (by kernel_rfl) (hrun60 _ _))<|Rt 9 d<|Rt 10 d<|ny (vT (P:=Tryz.prog) 27 5 1 Tryz.underlying27 rfl rfl A b.length cp (lo:=((b.length:Int)-2)) ((((b.length:Int)-2)).toNat) (by omega) (by omega)) fun g hrun63 e=>Rr 11 d (.slice g (b.length-((((b.length:Int)-2)).toNat)) (cp-((((b.length:Int)-2)).toNat))) (fun _ _=>eC (kl:=.i64) (k:=((b.length:Int)-2)) (A:=A) (n:=b.length) (c:=cp) rfl Tryz.underlying27 (by kernel_rfl) (by kernel_rfl) (hrun63 _ _))<|R2 6 12 rfl rfl ?_ ?_
 have h:=aV.old hsl f
 refine  Oc (args:=#[.slice q ((((b.length:Int)-2)).toNat) cp])<|m1 (lv (i _ _ _ _ _ h)) fun S j=>?_
 have T:=iv (b.take ((((b.length:Int)-2)).toNat)) (s:=65535) (by decide) (aV.range (i _ _ _ _ _ h))
 refine bv trivial fun U=>?_
 refine R2 7 12 rfl rfl ?_ ?_
 refine  Oc<|dU (iK (s:=(cc 65535 (b.take ((((b.length:Int)-2)).toNat)))) (by omega)) fun x y V l W X z=>bv trivial fun Y=>?_
 refine R2 8 12 rfl rfl ?_ ?_
 refine  gr (.string (strOfNums (cg (cc 65535 (b.take ((((b.length:Int)-2)).toNat)))))) (cJ (A:=x) (n:=(cg (cc 65535 (b.take ((((b.length:Int)-2)).toNat)))).length) (c:=y) rfl (by kernel_rfl) Tryz.underlying27 Tryz.underlying5 Tryz.underlying9 (l).rd)<|bv trivial fun Z=>?_
 have B:=aJ j z
 have C:=aV.old h B
 refine R0 12 rfl<|gr (.string (strOfNums (b.drop ((((b.length:Int)-2)).toNat)))) (cJ (A:=g) (n:=(b.length-((((b.length:Int)-2)).toNat))) (c:=(cp-((((b.length:Int)-2)).toNat))) rfl (by kernel_rfl) Tryz.underlying27 Tryz.underlying5 Tryz.underlying9 (e _ _ _ _ _ C))<|bv trivial fun r=>Rr 13 r (.bool (decide ((cg (cc 65535 (b.take ((((b.length:Int)-2)).toNat))))=(b.drop ((((b.length:Int)-2)).toNat))))) (fun _ _=>fX (a:=(strOfNums (cg (cc 65535 (b.take ((((b.length:Int)-2)).toNat)))))) (b:=(strOfNums (b.drop ((((b.length:Int)-2)).toNat)))) rfl (by kernel_rfl) (by kernel_rfl) (jW (l).rd (e _ _ _ _ _ C)))<|Rt 14 r<|Rt 15 r<|re<|tn<|rt<|rr (.bool (decide ((cg (cc 65535 (b.take ((((b.length:Int)-2)).toNat))))=(b.drop ((((b.length:Int)-2)).toNat)))))<|?_
 have hs:dK b=(decide ((cg (cc 65535 (b.take ((((b.length:Int)-2)).toNat))))=(b.drop ((((b.length:Int)-2)).toNat)))):=(mt (by omega) (by omega))
 rw[hs]
 exact⟨rfl,(aJ f B)⟩
 have D:=aJ j z
 have E:=aV.old h D
 refine  gr (.string (strOfNums (b.drop ((((b.length:Int)-2)).toNat)))) (cJ (A:=g) (n:=(b.length-((((b.length:Int)-2)).toNat))) (c:=(cp-((((b.length:Int)-2)).toNat))) rfl (by kernel_rfl) Tryz.underlying27 Tryz.underlying5 Tryz.underlying9 (e _ _ _ _ _ E))<|bv trivial fun a0=>R0 8 rfl<|gr (.string (strOfNums (cg (cc 65535 (b.take ((((b.length:Int)-2)).toNat)))))) (cJ (A:=x) (n:=(cg (cc 65535 (b.take ((((b.length:Int)-2)).toNat)))).length) (c:=y) rfl (by kernel_rfl) Tryz.underlying27 Tryz.underlying5 Tryz.underlying9 (l).rd)<|bv trivial fun t=>Rr 13 t (.bool (decide ((cg (cc 65535 (b.take ((((b.length:Int)-2)).toNat))))=(b.drop ((((b.length:Int)-2)).toNat))))) (fun _ _=>fX (a:=(strOfNums (cg (cc 65535 (b.take ((((b.length:Int)-2)).toNat)))))) (b:=(strOfNums (b.drop ((((b.length:Int)-2)).toNat)))) rfl (by kernel_rfl) (by kernel_rfl) (jW (l).rd (e _ _ _ _ _ E)))<|Rt 14 t<|Rt 15 t<|re<|tn<|rt<|rr (.bool (decide ((cg (cc 65535 (b.take ((((b.length:Int)-2)).toNat))))=(b.drop ((((b.length:Int)-2)).toNat)))))<|?_
 have hs:dK b=(decide ((cg (cc 65535 (b.take ((((b.length:Int)-2)).toNat))))=(b.drop ((((b.length:Int)-2)).toNat)))):=(mt (by omega) (by omega))
 rw[hs]
 exact⟨rfl,(aJ f D)⟩
 have F:=aV.old h j
 refine  gr (.string (strOfNums (b.drop ((((b.length:Int)-2)).toNat)))) (cJ (A:=g) (n:=(b.length-((((b.length:Int)-2)).toNat))) (c:=(cp-((((b.length:Int)-2)).toNat))) rfl (by kernel_rfl) Tryz.underlying27 Tryz.underlying5 Tryz.underlying9 (e _ _ _ _ _ F))<|bv trivial fun a1=>R0 7 rfl<|Oc<|dU (iK (s:=(cc 65535 (b.take ((((b.length:Int)-2)).toNat)))) (by omega)) fun J K a2 G a3 a4 L=>bv trivial fun a5=>R0 8 rfl<|gr (.string (strOfNums (cg (cc 65535 (b.take ((((b.length:Int)-2)).toNat)))))) (cJ (A:=J) (n:=(cg (cc 65535 (b.take ((((b.length:Int)-2)).toNat)))).length) (c:=K) rfl (by kernel_rfl) Tryz.underlying27 Tryz.underlying5 Tryz.underlying9 (G).rd)<|bv trivial fun u=>Rr 13 u (.bool (decide ((cg (cc 65535 (b.take ((((b.length:Int)-2)).toNat))))=(b.drop ((((b.length:Int)-2)).toNat))))) (fun _ _=>fX (a:=(strOfNums (cg (cc 65535 (b.take ((((b.length:Int)-2)).toNat)))))) (b:=(strOfNums (b.drop ((((b.length:Int)-2)).toNat)))) rfl (by kernel_rfl) (by kernel_rfl) (jW (G).rd (e _ _ _ _ _ F)))<|Rt 14 u<|Rt 15 u<|re<|tn<|rt<|rr (.bool (decide ((cg (cc 65535 (b.take ((((b.length:Int)-2)).toNat))))=(b.drop ((((b.length:Int)-2)).toNat)))))<|?_
 have hs:dK b=(decide ((cg (cc 65535 (b.take ((((b.length:Int)-2)).toNat))))=(b.drop ((((b.length:Int)-2)).toNat)))):=(mt (by omega) (by omega))
 rw[hs]
 exact⟨rfl,(aJ f (aJ j L))⟩
 have o:=aV.old hsl f
 refine  gr (.string (strOfNums (b.drop ((((b.length:Int)-2)).toNat)))) (cJ (A:=g) (n:=(b.length-((((b.length:Int)-2)).toNat))) (c:=(cp-((((b.length:Int)-2)).toNat))) rfl (by kernel_rfl) Tryz.underlying27 Tryz.underlying5 Tryz.underlying9 (e _ _ _ _ _ o))<|bv trivial fun a6=>R0 6 rfl<|Oc (args:=#[.slice q ((((b.length:Int)-2)).toNat) cp])<|m1 (lv (i _ _ _ _ _ o)) fun a7 M=>?_
 have a8:=iv (b.take ((((b.length:Int)-2)).toNat)) (s:=65535) (by decide) (aV.range (i _ _ _ _ _ o))
 refine bv trivial fun a9=>R0 7 rfl<|Oc<|dU (iK (s:=(cc 65535 (b.take ((((b.length:Int)-2)).toNat)))) (by omega)) fun N O aa H ab ac Q=>bv trivial fun ad=>R0 8 rfl<|gr (.string (strOfNums (cg (cc 65535 (b.take ((((b.length:Int)-2)).toNat)))))) (cJ (A:=N) (n:=(cg (cc 65535 (b.take ((((b.length:Int)-2)).toNat)))).length) (c:=O) rfl (by kernel_rfl) Tryz.underlying27 Tryz.underlying5 Tryz.underlying9 (H).rd)<|bv trivial fun v=>Rr 13 v (.bool (decide ((cg (cc 65535 (b.take ((((b.length:Int)-2)).toNat))))=(b.drop ((((b.length:Int)-2)).toNat))))) (fun _ _=>fX (a:=(strOfNums (cg (cc 65535 (b.take ((((b.length:Int)-2)).toNat)))))) (b:=(strOfNums (b.drop ((((b.length:Int)-2)).toNat)))) rfl (by kernel_rfl) (by kernel_rfl) (jW (H).rd (e _ _ _ _ _ o)))<|Rt 14 v<|Rt 15 v<|re<|tn<|rt<|rr (.bool (decide ((cg (cc 65535 (b.take ((((b.length:Int)-2)).toNat))))=(b.drop ((((b.length:Int)-2)).toNat)))))<|?_
 have hs:dK b=(decide ((cg (cc 65535 (b.take ((((b.length:Int)-2)).toNat))))=(b.drop ((((b.length:Int)-2)).toNat)))):=(mt (by omega) (by omega))
 rw[hs]
 exact⟨rfl,(aJ f (aJ M Q))⟩
 have I:=of_decide_eq_false p
 refine Ro 3 d<|Ro 4 d<|Ro 5 d<|Ro 6 d<|Ro 7 d<|Ro 8 d<|Ro 9 d<|Ro 10 d<|Ro 11 d<|Ro 12 d<|Ro 13 d<|Rt 14 d<|Rt 15 d<|re<|tn<|rt<|rr (.bool false)<|?_
 have hs:dK b=false:=(Av (by omega))
 rw[hs]
 exact⟨rfl,f⟩
theorem vR(h:aV m w v b)(hb:b.length≤1048576) : Calls Tryz.prog 254 #[v] w (bS (.bool (dK b)) w):=by
  obtain⟨A,cp,rfl,hc,_⟩:=h.shape
  exact t4 h hb hc
open Go.RowKit
def fI (b:List Int) : List Int:=(b.take (b.length-2)).drop 1
theorem j5(b:List Int) : fI b=(b.take (((b.length:Nat) : Int)-2).toNat).drop 1:=by
  unfold fI
  rw[show(((b.length:Nat) : Int)-2).toNat=b.length-2 from by omega]
def e8 (dir:Int)(b:List Int) : cy × Int :=
  if dir != 0&&dir != 1 then (cy.zero,1)
  else if decide ((b.length:Int)<4) then (cy.zero,2)
  else if decide (256<(b.length:Int)) then (cy.zero,3)
  else if !(dK b) then (cy.zero,10)
  else bU (b.getD 0 0) 0 (ci dir (fI b))
variable {dir:Int}
theorem tf{A:Option Addr}     (hsl:aV m w (.slice A b.length cp) b)(hb:b.length≤1048576)(hcp:b.length≤cp) :
    Calls Tryz.prog 253 #[vI dir,.slice A b.length cp] w (nO (e8 dir b) w):=by
 have hln:(b.length:Int)≤1048576:=by omega
 refine en 51 Tryz.func253 rfl<|sg<|aK #[vB 0,vW 0,vB 0,vB 0,vW 0,vW 0,vW 0,vW 0,vW 0,vW 0,vW 0,vW 0,vW 0,vW 0,nS,nS,nS,nS,vB 0,vB 0,vB 0,vB 0,vB 0,nS] fun aY aZ j e B=>ah 1<|sq<|bk<|aq 3<|cu 3 [11] 14 (((dir != 0)&&(dir != 1))) (fun K N=>?_) ?_
 refine bl 11 ((dir != 0)) (fun C=>?_) (fun C=>?_)
 have a5:=aA C
 exact Pl 3<|ce N (dir != 1) (by rw[C];rfl)
 have a5:=aF C
 exact Pl 3<|ce N false (by rw[C];rfl)
 refine ah 1<|cb (((dir != 0)&&(dir != 1))) (fun d=>?_) (fun d=>?_)
 have O:=(b7 d).1
 have Q:=(b7 d).2
 have b0:=aA O
 have b1:=aA Q
 refine aq 1<|aG e #[vB 0,vW 0,vB 0,vB 0,vW 0,vW 0,vW 0,vW 0,vW 0,vW 0,vW 0,vW 0,vW 0,vW 0,nS,nS,nS,nS,vB 0,vB 0,vB 0,vB 0,vB 0,nS] fun b2 a6 a7=>ah 1<|rt<|br<|tr<|ck a6 (vI 1)<|?_
 have hs:e8 dir b=(cy.zero,1):=by
   unfold e8
   (try simp only[d,O,Q,bi,bU,reduceIte])
   all_goals rfl
 refine dH hs ?_
 exact cA (ud B a7 j)
 refine aB 4<|cb ((decide ((b.length:Int)<4))) (fun f=>?_) (fun f=>?_)
 have a8:=of_decide_eq_true f
 refine aq 1<|aG e #[vB 0,vW 0,vB 0,vB 0,vW 0,vW 0,vW 0,vW 0,vW 0,vW 0,vW 0,vW 0,vW 0,vW 0,nS,nS,nS,nS,vB 0,vB 0,vB 0,vB 0,vB 0,nS] fun b3 a9 aa=>ah 1<|rt<|br<|tr<|ck a9 (vI 2)<|?_
 have hs:e8 dir b=(cy.zero,2):=by
   unfold e8
   (try simp only[d,f,bi,bU,reduceIte])
   all_goals rfl
 refine dH hs ?_
 exact cA (ud B aa j)
 have a8:=of_decide_eq_false f
 refine aB 4<|cb ((decide (256<(b.length:Int)))) (fun h=>?_) (fun h=>?_)
 have ab:=of_decide_eq_true h
 refine aq 1<|aG e #[vB 0,vW 0,vB 0,vB 0,vW 0,vW 0,vW 0,vW 0,vW 0,vW 0,vW 0,vW 0,vW 0,vW 0,nS,nS,nS,nS,vB 0,vB 0,vB 0,vB 0,vB 0,nS] fun b4 ac ad=>ah 1<|rt<|br<|tr<|ck ac (vI 3)<|?_
 have hs:e8 dir b=(cy.zero,3):=by
   unfold e8
   (try simp only[d,f,h,bi,bU,reduceIte])
   all_goals rfl
 refine dH hs ?_
 exact cA (ud B ad j)
 have ab:=of_decide_eq_false h
 refine aq 1<|?_
 have R:=aV.old hsl B
 refine ay (args:=#[.slice A b.length cp])<|m1 (vR R (by omega)) fun ae i=>ah 2<|?_
 have S:=aJ B i
 refine cb ((!(dK b))) (fun k=>?_) (fun k=>?_)
 have G:(dK b)=false:=by simpa using k
 refine aq 1<|?_
 refine aG (ub i e) #[vB 0,vW 0,vB 0,vB 0,vW 0,vW 0,vW 0,vW 0,vW 0,vW 0,vW 0,vW 0,vW 0,vW 0,nS,nS,nS,nS,vB 0,vB 0,vB 0,vB 0,vB 0,nS] fun b5 af ag=>ah 1<|rt<|br<|tr<|ck af (vI 10)<|?_
 have hs:e8 dir b=(cy.zero,10):=by
   unfold e8
   (try simp only[d,f,h,k,G,bi,bU,reduceIte])
   all_goals rfl
 refine dH hs ?_
 exact cA (ud S ag j)
 have G:(dK b)=true:=by simpa using k
 refine sk<|bn<|tn<|aq 4<|bp ((b.length:Int)-2)<|ny (gl (P:=Tryz.prog) 27 5 1 Tryz.underlying27 rfl rfl A b.length cp (lo:=1) (up:=((b.length:Int)-2)) 1 ((((b.length:Int)-2)).toNat) (by omega) (by omega) (by omega) (by omega) (by omega)) fun ai hrun43 aj=>L0<|gr (.slice ai (((((b.length:Int)-2)).toNat)-1) (cp-1)) (eW (kl:=.i64) (kh:=.i64) (lo:=1) (hi:=((b.length:Int)-2)) (A:=A) (n:=b.length) (c:=cp) rfl Tryz.underlying27 (by kernel_rfl) (by kernel_rfl) (by kernel_rfl) (hrun43 _ _ _))<|?_
 obtain⟨a,D,J⟩ : ∃ M E,ci dir ((b.take ((((b.length:Int)-2)).toNat)).drop 1)=(M,E):=⟨_,_,rfl⟩
 have T:=aV.old R i
 have U:=lC (dir:=dir) (w:=ae) (aj _ _ _ _ _ T) (by rw[List.length_drop,List.length_take];omega)
 rw[J] at U
 refine ay<|e2 U fun ak ba V L=>?_
 have al:=V
 obtain⟨am,an,ao,ap,ar,au,aw,ax,aC,aD,aE,bb⟩:=al
 obtain rfl:ak=(ez a am an ao ap ar).toArray:=by apply Array.toList_inj.1;simpa using au
 obtain⟨l,o,rfl,_,_⟩:=aw.shape
 obtain⟨p,q,rfl,_,_⟩:=ax.shape
 obtain⟨r,s,rfl,_,_⟩:=aC.shape
 obtain⟨t,u,rfl,_,_⟩:=aD.shape
 obtain⟨v,y,rfl,_,_⟩:=aE.shape
 refine Pl 3<|aK mZ fun W bc X aI aL=>aG aI (mG a.code a.fail a.addr a.count a.value a.and_ a.or_ a.addr2 a.sub a.status a.events a.messages (.slice l a.words.length o) (.slice p a.bits.length q) (.slice r a.data.length s) (.slice t a.recs.length u) a.mei a.kind a.level a.more a.next (.slice v a.objects.length y)) fun bd aN aO=>ah 1<|sq<|aB 2<|?_
 have Y:=ud aL aO X
 have H:=aJ L Y
 have Z:=aJ S H
 refine cb ((D != 0)) (fun F=>?_) (fun F=>?_)
 have aP:=aA F
 refine aq 2<|?_
 refine aG (ub (aJ i H) e) #[vB 0,vW 0,vB 0,vB 0,vW 0,vW 0,vW 0,vW 0,vW 0,vW 0,vW 0,vW 0,vW 0,vW 0,nS,nS,nS,nS,vB 0,vB 0,vB 0,vB 0,vB 0,nS] fun be aQ aR=>ah 1<|b6<|ck aQ (vI D)<|?_
 have hX2:ci dir (fI b)=(a,D):=(congrArg (ci dir) (j5 b)).trans J
 have hs:e8 dir b=(cy.zero,D):=by
   unfold e8
   (try simp only[d,f,h,k,G,F,bi,bU,hX2,reduceIte])
   all_goals rfl
 refine dH hs ?_
 exact cA (ud Z aR j)
 have aP:=aF F
 refine bu<|sq<|?_
 refine fo (aV.at_ (aV.old T H) 0 (by omega)) fun aS aT a0 aU bf=>Rg 8 (fun w'=>w'.cell? ⟨aS,aT+0,none⟩=some (vB (b.getD 0 0))∧w'.heap[W]? = some (.cells (mG a.code a.fail a.addr a.count a.value a.and_ a.or_ a.addr2 a.sub a.status a.events a.messages (.slice l a.words.length o) (.slice p a.bits.length q) (.slice r a.data.length s) (.slice t a.recs.length u) a.mei a.kind a.level a.more a.next (.slice v a.objects.length y)) 45 (0,0))) fun bg I=>?_
 have a1:=ub I aN
 refine bv ⟨(uc I aU),a1⟩ fun z=>Rt 0 z<|m0 1 z b.length 0 0 rfl a0 (by omega)<|Rl 2 z (fun _ hs=>hs.1)<|Rt 3 z<|Rr 4 z (.agg (mG a.code a.fail a.addr a.count a.value a.and_ a.or_ a.addr2 a.sub a.status a.events a.messages (.slice l a.words.length o) (.slice p a.bits.length q) (.slice r a.data.length s) (.slice t a.recs.length u) a.mei a.kind a.level a.more a.next (.slice v a.objects.length y))) (fun w' hs=>gS (g:=W) (off:=0) [vB a.code,vB a.fail,vW a.addr,vW a.count,vW a.value,vW a.and_,vW a.or_,vW a.addr2,vW a.sub,vW a.status,vW a.events,vW a.messages,.slice l a.words.length o,.slice p a.bits.length q,.slice r a.data.length s,.slice t a.recs.length u,vB a.mei,vB a.kind,vB a.level,vB a.more,vB a.next,.slice v a.objects.length y] rfl (by kernel_rfl) hs.2 (by kernel_rfl) (by kernel_rfl) rfl)<|Rt 5 z<|?_
 refine R0 6 rfl<|mb (ub (aJ i (aJ H I)) e) #[vB (b.getD 0 0),vW 0,vB a.code,vB a.fail,vW a.addr,vW a.count,vW a.value,vW a.and_,vW a.or_,vW a.addr2,vW a.sub,vW a.status,vW a.events,vW a.messages,.slice l a.words.length o,.slice p a.bits.length q,.slice r a.data.length s,.slice t a.recs.length u,vB a.mei,vB a.kind,vB a.level,vB a.more,vB a.next,.slice v a.objects.length y] fun bh aW a2=>?_
 have a3:=uz I a2
 have a4:=ud Z a3 j
 refine bv ⟨(cB (aV.old hsl a4) a0 0 (by omega)),(bj a2 (Ne.symm (nb (az e) (le i.size L.size) X)) a1)⟩ fun aX=>Rt 7 aX<|re<|tn<|rt<|ck aW (vI 0)<|?_
 have hX2:ci dir (fI b)=(a,D):=(congrArg (ci dir) (j5 b)).trans J
 have hs:e8 dir b=(⟨(b.getD 0 0),0,a⟩,0):=by
   unfold e8
   (try simp only[d,f,h,k,G,F,bi,bU,hX2,reduceIte])
   all_goals rfl
 refine dH hs ?_
 exact⟨_,rfl,⟨#[vB a.code,vB a.fail,vW a.addr,vW a.count,vW a.value,vW a.and_,vW a.or_,vW a.addr2,vW a.sub,vW a.status,vW a.events,vW a.messages,.slice l a.words.length o,.slice p a.bits.length q,.slice r a.data.length s,.slice t a.recs.length u,vB a.mei,vB a.kind,vB a.level,vB a.more,vB a.next,.slice v a.objects.length y],(by as_aux_lemma=>kernel_rfl),(aH.upd V (uz Y a3) (av (b9 (ub (aJ i L) e) (by decide)) aM)),b8 (x:=(b.getD 0 0)) (by omega),cM (x:=0) (by omega)⟩,a4⟩
theorem xu(h:aV m w v b)(hb:b.length≤1048576) : Calls Tryz.prog 253 #[.int .i64 dir,v] w (nO (e8 dir b) w):=by
  obtain⟨A,cp,rfl,hc,_⟩:=h.shape
  exact tf h hb hc
open Go.RowKit
theorem zT(a b c d:Int)(w:World) : (Op.equalIn 10000 39 (.agg #[.int .u8 a,.int .u16 b]) (.agg #[.int .u8 c,.int .u16 d])).run Tryz.prog w = .ok ((a==c)&&(b==d)) w:=by
  have hS:Tryz.prog.underlying 39=some (.struct (Tryz.prog.fieldsOf 39)):=by kernel_rfl
  have hp:Tryz.prog.stoodInHeld 39=false:=by kernel_rfl
  rw[show(10000:Nat)=9998+1+1 from rfl,run_equalIn_agg w (9998+1) 39 _ _ hS hp]
  simp only[Program.fieldsOf,Tryz.underlying39]
  have p0:∀ v:Int,(part 5 #[.int .u8 v,.int .u16 b] 0).run Tryz.prog w = .ok (.int .u8 v) w:=fun v=>by simp[part,isAgg,run_underlying Tryz.underlying5,Result.andThen]
  have p0':∀ v:Int,(part 5 #[.int .u8 v,.int .u16 d] 0).run Tryz.prog w = .ok (.int .u8 v) w:=fun v=>by simp[part,isAgg,run_underlying Tryz.underlying5,Result.andThen]
  have p1:∀ v u:Int,(part 37 #[.int .u8 u,.int .u16 v] 1).run Tryz.prog w = .ok (.int .u16 v) w:=fun v u=>by simp[part,isAgg,run_underlying Tryz.underlying37,Result.andThen]
  have e0:=run_equalIn_int (P:=Tryz.prog) w 9998 5 .u8 _ a c Tryz.underlying5
  have e1:=run_equalIn_int (P:=Tryz.prog) w 9998 37 .u16 _ b d Tryz.underlying37
  simp only[Op.eqFields,Sem.run_bind,p0,p0',p1,e0,e1,Result.andThen_ok,ne_eq,String.reduceEq,not_false_eq_true,if_true,Sem.run_ite]
  cases (a==c)<;>cases (b==d)<;>simp
variable {ev:Operand→Value}{o:Oper}{y:Operand}
theorem iG{x:Operand}{t:TypeId}(a b c d:Int){v:Bool}  (ho:o.op = .binOp .neq 39 x y t)
    (hx:ev x = .agg #[.int .u8 a,.int .u16 b]) (hy:ev y = .agg #[.int .u8 c,.int .u16 d]) (hv:(!((a==c)&&(b==d)))=v) : (execOp ev o).run Tryz.prog w = .ok (.value (.bool v)) w:=by
  subst hv
  have hg:(eqGuard .neq 39 x y (.agg #[.int .u8 a,.int .u16 b]) (.agg #[.int .u8 c,.int .u16 d])).run Tryz.prog w = .ok () w:=run_eqGuard_agg w _ _ _ _ _ _ (by kernel_rfl)
  unfold execOp
  simp only[ho,hx,hy,Sem.run_bind,hg,Result.andThen_ok,run_neq_struct,zT,Sem.run_pure]
open Go.RowKit
def jf (u:Int)(l:List Int) : List Int:=([u]++l)++cg (cc 65535 ([u]++l))
def fL (dir u t:Int)(M:aS) : Option (List Int) :=
  match cZ dir M with
  | none=>none
  | some l=>if !((u==u)&&(t==0)) then none else some (jf u l)
variable {M:aS}{t u:Int}
theorem pu{cs:Array Value}    (h:aH m w cs.toList M)(hf:bh M)(hu:B8 u)(ht:eR t) : Calls Tryz.prog 262 #[vI dir,.agg (#[vB u,vW t]++cs)] w (dT (fL dir u t M) w):=by
 have hM:=h
 obtain⟨hu1,hu2⟩:=hu
 obtain⟨ht1,ht2⟩:=ht
 refine fC h fun Aw kw Ab kb Ad kd Ar kr Ao ko e hw hbt hd hr ho _ _ _ _ _ _ _ _ _ _ q0 q1 q2 q3 q4 q5 q6 q7 q8 q9 O P Q R S T U=>?_
 subst e
 refine en 38 Tryz.func262 rfl<|sg<|L0<|cY #[vB u,vW t,vB M.code,vB M.fail,vW M.addr,vW M.count,vW M.value,vW M.and_,vW M.or_,vW M.addr2,vW M.sub,vW M.status,vW M.events,vW M.messages,.slice Aw M.words.length kw,.slice Ab M.bits.length kb,.slice Ad M.data.length kd,.slice Ar M.recs.length kr,vB M.mei,vB M.kind,vB M.level,vB M.more,vB M.next,.slice Ao M.objects.length ko] fun V W X k c=>Pl 2<|aL 2<|L0<|nZ k 2 22<|?_
 rcases hwr:cZ dir M with _|lw
 have l:=gn (dir:=dir) (aH.old hM c) hf
 rw[hwr] at l
 refine ay<|m1 l fun Y C=>ah 5<|sq<|aB 11<|c1<|aq 2<|nl<|tn<|b6<|rr (.tuple #[nS,vI 1])<|?_
 exact cI (y:=none) (by unfold fL;(try simp only[hwr,bi,reduceIte])<;>rfl) ⟨rfl,(aJ c C)⟩
 have hlw:=ie hwr
 have n:=gn (dir:=dir) (aH.old hM c) hf
 rw[hwr] at n
 refine ay<|dU n fun Z a0 a1 D a2 a3 o=>ah 5<|sq<|aq 4<|?_
 have g:=ub o k
 refine L1<|nZ g 0 2<|Pl 2<|L1<|dQ g 0<|Pl 1<|L1<|gr (.bool (!((u==u)&&(t==0)))) (iG u t u 0 rfl (by kernel_rfl) (by kernel_rfl) rfl)<|ah 1<|?_
 have i:=aJ c o
 refine cb ((!((u==u)&&(t==0)))) (fun a=>?_) (fun a=>?_)
 have b:((u==u)&&(t==0))=false:=by simpa using a
 exact aB 2<|b6<|rr (.tuple #[nS,vI 1])<|cI (y:=none) (by unfold fL;(try simp only[hwr,a,b,bi,reduceIte])<;>rfl) ⟨rfl,i⟩
 have b:((u==u)&&(t==0))=true:=by simpa using a
 have p:=(b7 b).1
 have q:=(b7 b).2
 have q33nap:=ag p
 have q33nbp:=ag q
 refine bu<|aq 2<|aC g 0<|L0<|cX (m:=1) (e:=5) #[vB u] fun E a4 F G d=>?_
 have r:=cD F (xs:=[u]) (by as_aux_lemma=>kernel_rfl) (al (by omega) aP) (by(try simp only[List.length_cons,List.length_nil]);omega) G
 refine Pl 1<|?_
 refine L0<|bK be (xs:=([u])) (ys:=lw) (vB 0) 1 r ((au D d (fun x hx=>aE) (fun _ _ h=>h))).rd (by(try simp only[bM,ax,jV]);omega) d.size fun j H a5 f v=>Pl 1<|aL 2<|ay (args:=#[.slice j (([u]++lw).length) H])<|m1 (lv (f).rd) fun a6 z=>?_
 have a7:=iv ([u]++lw) (s:=65535) (by decide) (aV.range (f).rd)
 refine ay<|dU (iK (s:=(cc 65535 ([u]++lw))) (by omega)) fun a8 a9 aa I ab ac A=>?_
 have B:=aJ z A
 refine L0<|bK be (xs:=([u]++lw)) (ys:=(cg (cc 65535 ([u]++lw)))) (vB 0) 1 (au f B (fun x hx=>aE) (fun _ _ h=>h)) (I).rd (by(try simp only[bM,ax,jV]);omega) (le (le (le d.size v.size) z.size) A.size) fun J K ad L N=>ah 2<|rt<|rr (.tuple #[.slice J ((([u]++lw)++(cg (cc 65535 ([u]++lw)))).length) K,vI 0])<|?_
 exact cI (y:=(some (([u]++lw)++(cg (cc 65535 ([u]++lw)))))) (by unfold fL;(try simp only[hwr,a,b,p,q,bi,reduceIte])<;>rfl) ⟨_,rfl,(aZ.weaken L i.size),(aJ i (ut d (ut (aI.mono (S':=(ob (some ⟨E,0,none⟩)++(ob j++[]))) v (am il aD)) (ut (aI.mono (S':=(ob j++[])) B aD) N (am il aD)) (am il aD)) (am (aU r lr) (am (aU f lr) aD))))⟩
open Go.RowKit
variable {E:Int}{F:cy}
theorem rQ(hX:e8 dir b=(F,E))(h:aV m w v b)(hb:b.length≤1048576) : Calls Tryz.prog 253 #[.int .i64 dir,v] w (fun e w'=>∃ x,e = .returned (.tuple #[.agg (dC F.unit F.tid F.msg x),.int .i64 E])∧(aH true w' (f5 F.msg x).toList F.msg∧(0≤F.unit∧F.unit<256)∧(0≤F.tid∧F.tid<65536))∧aI [] w w'):=by
  refine(xu h hb).mono ?_
  rintro e w' ⟨cs,rfl,h1,h2⟩
  rw[hX] at h1 ⊢
  obtain⟨c,rfl,h3,h4,h5⟩:=h1
  obtain⟨x,rfl⟩:=nU h3
  exact⟨x,by rw[gZ],⟨h3,h4,h5⟩,h2⟩
theorem sO{x:SL}    (hX:fL dir u t M=none)(h:aH m w (f5 M x).toList M)(hf:bh M)(hu:0≤u∧u<256)(ht:0≤t∧t<65536) : Calls Tryz.prog 262 #[.int .i64 dir,.agg (dC u t M x)] w (fun e w'=>e = .returned (.tuple #[.slice none 0 0,.int .i64 1])∧aI [] w w'):=by
  have:=pu (dir:=dir) h hf hu ht
  rw[hX] at this
  rw[gZ]
  exact this
variable {l:List Int}
theorem rO{x:SL}     (hX:fL dir u t M=some l)(h:aH m w (f5 M x).toList M)(hf:bh M)(hu:0≤u∧u<256)(ht:0≤t∧t<65536) : Calls Tryz.prog 262 #[.int .i64 dir,.agg (dC u t M x)] w (fun e w'=>∃ v,e = .returned (.tuple #[v,.int .i64 0])∧eE w.heap.size w' v l∧aI [] w w'):=by
  have:=pu (dir:=dir) h hf hu ht
  rw[hX] at this
  rw[gZ]
  exact this
end Go.Proofs.YtdkhbcefkfgbdaaGreat
namespace Go.Proofs.YtdkhbcefkfgbdaaGreat
def gk (b:List Int) : Nat→Int
  | 0=>0
  | k+1=>(gk b k+b.getD k 0)%256
def rY (b:List Int) : Int:=gk b b.length
def cv (b:List Int) : Int:=(0-rY b)%256
def eq (b:List Int) : Bool:=decide (0<((b.length:Nat) : Int))&&(cv b==0)
theorem so(b:List Int) : ∀ k,0≤gk b k∧gk b k<256
  | 0=>by unfold gk;omega
  | k+1=>by unfold gk;omega
def dt (n:Int) : Int:=if n<10 then 48+n else 55+n
def bW (c:Int) : Int:=if 48≤c∧c≤57 then c-48 else if 65≤c∧c≤70 then c-55 else -1
def dh:List Int→List Int
  | []=>[]
  | c :: b=>dt (c/16) :: dt (c%16) :: dh b
def bT:List Int→Option (List Int)
  | []=>some []
  | [_]=>none
  | a :: b :: r=>if bW a<0∨bW b<0 then none else (bT r).map fun l=>(16*bW a+bW b)%256 :: l
variable {n:Int}
theorem i9(h:0≤n∧n<16) : 48≤dt n∧dt n≤70:=by unfold dt;split<;>omega
theorem ll(h:0≤n∧n<16) : bW (dt n)=n:=by
  unfold dt
  split<;>unfold bW
  · rw[if_pos (by omega)];omega
  · rw[if_neg (by omega),if_pos (by omega)];omega
variable {c:Int}
theorem l8(h:0≤bW c) : dt (bW c)=c∧bW c<16:=by
  unfold bW at h ⊢
  split at h
  · rename_i h1
    rw[if_pos h1]
    unfold dt
    rw[if_pos (by omega)]
    omega
  · rename_i h1
    split at h
    · rename_i h2
      rw[if_neg h1,if_pos h2]
      unfold dt
      rw[if_neg (by omega)]
      omega
    · omega
theorem kY(c:Int) : bW c<16∧-1≤bW c:=by unfold bW;split;omega;split<;>omega
theorem dV:∀ b:List Int,(dh b).length=2*b.length
  | []=>rfl
  | c :: b=>by simp only[dh,List.length_cons,dV b];omega
theorem rH:∀ a b:List Int,dh (a++b)=dh a++dh b
  | [],b=>rfl
  | c :: a,b=>by simp only[List.cons_append,dh,rH a b]
theorem oR:∀ b:List Int,(∀ x,x∈b→0≤x∧x<256)→bT (dh b)=some b
  | [],_=>rfl
  | c :: b,h=>by
    have hc:=h c (List.mem_cons_self ..)
    have h1:=ll (n:=c/16) (by omega)
    have h2:=ll (n:=c%16) (by omega)
    simp only[dh,bT]
    rw[h1,h2,if_neg (by omega),oR b fun x hx=>h x (List.mem_cons_of_mem _ hx),show(16*(c/16)+c%16)%256=c from by omega]
    rfl
theorem iQ:∀ {s x:List Int},bT s=some x→s=dh x∧∀ y,y∈x→0≤y∧y<256
  | [],x,h=>by
    injection h with h
    subst h
    exact⟨rfl,fun y hy=>by cases hy⟩
  | [_],x,h=>by cases h
  | a :: b :: r,x,h=>by
    simp only[bT] at h
    split at h
    · cases h
    · rename_i hd
      cases hr:bT r with
      | none=>rw[hr] at h;cases h
      | some l =>
        rw[hr] at h
        injection h with h
        obtain⟨h1,h2⟩:=iQ hr
        have ha:=l8 (c:=a) (by omega)
        have hb:=l8 (c:=b) (by omega)
        subst h
        refine⟨?_,fun y hy=>?_⟩
        · simp only[dh]
          rw[show(16*bW a+bW b)%256/16=bW a from by omega,show(16*bW a+bW b)%256%16=bW b from by omega,ha.1,hb.1,← h1]
        · rcases List.mem_cons.1 hy with rfl | hy
          · omega
          · exact h2 y hy
variable {k:Nat}{xs:List Int}
theorem tM(h:2*k+1<xs.length)(ha:¬ bW (xs.getD (2*k) 0)<0)(hb:¬ bW (xs.getD (2*k+1) 0)<0) : bT (xs.drop (2*k))=(bT (xs.drop (2*(k+1)))).map fun l=>[(16*bW (xs.getD (2*k) 0)+bW (xs.getD (2*k+1) 0))%256]++l:=by
  have e1:xs.getD (2*k) 0=xs[2*k]:=by rw[List.getD_eq_getElem?_getD,List.getElem?_eq_getElem (by omega)];rfl
  have e2:xs.getD (2*k+1) 0=xs[2*k+1]:=by rw[List.getD_eq_getElem?_getD,List.getElem?_eq_getElem h];rfl
  rw[List.drop_eq_getElem_cons (show 2*k<xs.length by omega),List.drop_eq_getElem_cons h,← e1,← e2]
  simp only[bT]
  rw[if_neg (by omega),show 2*k+1+1=2*(k+1) by omega]
  rfl
theorem xw(h:2*k+1<xs.length)(hd:bW (xs.getD (2*k) 0)<0∨bW (xs.getD (2*k+1) 0)<0) : bT (xs.drop (2*k))=none:=by
  have e1:xs.getD (2*k) 0=xs[2*k]:=by rw[List.getD_eq_getElem?_getD,List.getElem?_eq_getElem (by omega)];rfl
  have e2:xs.getD (2*k+1) 0=xs[2*k+1]:=by rw[List.getD_eq_getElem?_getD,List.getElem?_eq_getElem h];rfl
  rw[List.drop_eq_getElem_cons (show 2*k<xs.length by omega),List.drop_eq_getElem_cons h,← e1,← e2]
  simp only[bT]
  rw[if_pos hd]
theorem lm:∀ {xs:List Int},xs.length%2≠0→bT xs=none
  | [],h=>by simp at h
  | [_],_=>rfl
  | a :: b :: r,h=>by
    simp only[bT]
    split
    · rfl
    · rw[lm (by simp only[List.length_cons] at h;omega)]
      rfl
variable {s:List Int}
theorem lu{x:List Int}(h:bT s=some x) : s.length=2*x.length:=by
  obtain⟨h1,_⟩:=iQ h
  rw[h1,dV]
variable {L:List Int}
theorem pk(h:bT xs=(bT (xs.drop (2*k))).map fun l=>L++l)(h1:¬ 2*k<xs.length) : bT xs=some L:=by
  rw[List.drop_eq_nil_of_le (by omega)] at h
  rw[h]
  simp[bT]
theorem nM(h:bT xs=(bT (xs.drop (2*k))).map fun l=>L++l)(h2:2*k+1<xs.length)(ha:¬ bW (xs.getD (2*k) 0)<0)(hb:¬ bW (xs.getD (2*k+1) 0)<0) : bT xs=(bT (xs.drop (2*(k+1)))).map fun l=>(L++[(16*bW (xs.getD (2*k) 0)+bW (xs.getD (2*k+1) 0))%256])++l:=by
  rw[h,tM h2 ha hb]
  cases bT (xs.drop (2*(k+1))) with
  | none=>rfl
  | some l=>simp
theorem rB(h:bT xs=(bT (xs.drop (2*k))).map fun l=>L++l)(h2:2*k+1<xs.length)(hd:bW (xs.getD (2*k) 0)<0∨bW (xs.getD (2*k+1) 0)<0) : bT xs=none:=by
  rw[h,xw h2 hd]
  rfl
theorem pv(b:List Int)(k:Nat)(h:k<b.length) : dh (b.take (k+1))=(dh (b.take k)++[dt (b.getD k 0/16)])++[dt (b.getD k 0%16)]:=by
  rw[List.take_succ_eq_append_getElem h,rH,List.getD_eq_getElem?_getD,List.getElem?_eq_getElem h]
  simp[dh]
open Go.RowKit
abbrev dx (xs:List Int) : Prop:=∀ x,x∈xs→0≤x∧x<256
variable {x:Int}
theorem pW(h:0≤x∧x<256) : ((UInt8.ofNat x.toNat).toNat:Int)=x:=by
  simp only[UInt8.toNat_ofNat']
  omega
theorem jS{j:Nat}(hj:j<xs.length)(hs:j<(strOfNums xs).size) : (strOfNums xs)[j]=UInt8.ofNat (xs.getD j 0).toNat:=by
  show(strOfNums xs).data[j]=_
  simp[strOfNums,List.getD_eq_getElem?_getD,List.getElem?_eq_getElem hj]
variable {P:Program}{ev:Operand→Value}{i:Int}{o:Oper}{w:World}
theorem kZ{x ix:Operand}{t:TypeId}  {k:IntKind}  (j:Nat)(ho:o.op = .index t x ix)(ht:P.underlying t=some .string)(hx:ev x = .string (strOfNums xs))(hi:ev ix = .int k i)(hr:dx xs)(hj:i=(j:Int))(hlt:j<xs.length) : (execOp ev o).run P w = .ok (.value (.int .u8 (xs.getD j 0))) w:=by
  subst hj
  have hs:j<(strOfNums xs).size:=by rw[strOfNums_size];exact hlt
  have h:=run_index_string (P:=P) w t (strOfNums xs) k (j:Int) ht
  rw[dif_pos (by omega)] at h
  have hg:xs.getD j 0∈xs:=by
    rw[List.getD_eq_getElem?_getD,List.getElem?_eq_getElem hlt]
    exact List.getElem_mem hlt
  unfold execOp
  simp only[ho,hx,hi,Sem.run_bind,h,Result.andThen,Sem.run_pure]
  have e:((strOfNums xs)[((j:Nat) : Int).toNat]'(by simpa using hs))=UInt8.ofNat (xs.getD j 0).toNat:=by
    simp only[Int.toNat_natCast]
    exact jS hlt hs
  rw[e,pW (hr _ hg)]
theorem gT(xs:List Int)(a b:Nat)(hb:b≤xs.length) : (strOfNums xs).extract a b=strOfNums ((xs.take b).drop a):=by
  apply ByteArray.ext
  rw[ByteArray.data_extract]
  apply Array.toList_inj.1
  rw[Array.toList_extract]
  simp[strOfNums,List.extract,List.map_drop,List.map_take,List.drop_take]
variable {y:Operand}
theorem oY{x:Operand}{t:TypeId}  {k:IntKind}  (j:Nat)(ho:o.op = .slice t x (some y) none none)(ht:P.underlying t=some .string)(hx:ev x = .string (strOfNums xs))(hy:ev y = .int k i)(hj:i=(j:Int))(hlt:j≤xs.length) : (execOp ev o).run P w = .ok (.value (.string (strOfNums (xs.drop j)))) w:=by
  subst hj
  have hu:(underlying t).run P w = .ok .string w:=run_underlying ht w
  have h:=run_slice_string_l (P:=P) w t (strOfNums xs) ht k (j:Int) (by omega) (by rw[strOfNums_size];omega)
  rw[strOfNums_size,gT _ _ _ (Nat.le_refl _),List.take_length,Int.toNat_natCast] at h
  unfold execOp
  simp only[ho,Option.map_some,Option.map_none,hx,hy,Instr.sliceAt,Sem.run_bind,hu,h,Result.andThen,Sem.run_pure]
theorem wi{x:Operand}{t:TypeId}  {k:IntKind}  (j:Nat)(ho:o.op = .slice t x none (some y) none)(ht:P.underlying t=some .string)(hx:ev x = .string (strOfNums xs))(hy:ev y = .int k i)(hj:i=(j:Int))(hlt:j≤xs.length) : (execOp ev o).run P w = .ok (.value (.string (strOfNums (xs.take j)))) w:=by
  subst hj
  have hu:(underlying t).run P w = .ok .string w:=run_underlying ht w
  have h:=run_slice_string_h (P:=P) w t (strOfNums xs) ht k (j:Int) (by omega) (by rw[strOfNums_size];omega)
  rw[Int.toNat_natCast,gT _ _ _ hlt,List.drop_zero] at h
  unfold execOp
  simp only[ho,Option.map_some,Option.map_none,hx,hy,Instr.sliceAt,Sem.run_bind,hu,h,Result.andThen,Sem.run_pure]
theorem ou(xs ys:List Int) : strOfNums xs++strOfNums ys=strOfNums (xs++ys):=by
  apply ByteArray.ext
  simp[strOfNums,ByteArray.data_append]
variable {ys:List Int}
theorem jr{x:Operand}{t t':TypeId}{a b:ByteArray}  (ho:o.op = .binOp .add t x y t')(hx:ev x = .string a)(hy:ev y = .string b)(ha:a=strOfNums xs)(hb:b=strOfNums ys)(hl:xs.length+ys.length≤1048576) : (execOp ev o).run P w = .ok (.value (.string (strOfNums (xs++ys)))) w:=by
  subst ha hb
  have hg:eqGuard .add t x y (.string (strOfNums xs)) (.string (strOfNums ys))=pure ():=rfl
  unfold execOp
  simp only[ho,hx,hy,hg,Sem.run_bind,Sem.run_pure,Result.andThen]
  have h:(binOp .add t (.string (strOfNums xs)) (.string (strOfNums ys))).run P w = .ok (.string (strOfNums (xs++ys))) w:=by
    show(Op.stringOp .add _ _).run P w=_
    unfold Op.stringOp
    rw[← ou]
    have:¬ ((((strOfNums xs).size+(strOfNums ys).size:Nat) : Int) > IntKind.i64.max):=by
      rw[strOfNums_size,strOfNums_size]
      show ¬ (((xs.length+ys.length:Nat) : Int) > 9223372036854775807)
      omega
    dsimp only
    rw[if_neg this]
    rfl
  rw[h]
theorem gz(h:dx xs)(k:dx ys) : dx (xs++ys):=fun x hx=>by
  rcases List.mem_append.1 hx with h1|h1
  · exact h x h1
  · exact k x h1
theorem ld(h:dx xs)(j:Nat) : dx (xs.drop j):=fun x hx=>h x (List.mem_of_mem_drop hx)
theorem pg(h:dx xs)(j:Nat) : dx (xs.take j):=fun x hx=>h x (List.mem_of_mem_take hx)
theorem AX(hx:dx xs)(hy:dx ys) : ((strOfNums xs).toList==(strOfNums ys).toList)=decide (xs=ys):=by
  have e:∀ zs:List Int,(strOfNums zs).toList=zs.map fun n=>UInt8.ofNat n.toNat:=fun zs=>by
    rw[ByteArray.toList_eq]
    rfl
  rw[e,e]
  by_cases h:xs=ys
  · subst h;simp
  · rw[decide_eq_false h,beq_eq_false_iff_ne]
    exact fun k=>h (l9 xs ys hx hy k)
def i3 (base:Nat)(w:World)(v:Value)(xs:List Int) : Prop:=∃ g cap cur n,v = .slice (some ⟨g,0,none⟩) xs.length cap∧base≤g∧w.heap[g]? = some (.cells cur 5 (n,n+1))∧xs.length≤n∧xs.length≤cap∧cap≤maxLen∧cur.toList.take xs.length=xs.map (Value.int .u8)∧dx xs
variable {base:Nat}{v:Value}
theorem i3.rd(h:i3 base w v xs) : aV true w v xs:=by
  obtain⟨g,cap,cur,n,rfl,hb,hh,h1,h2,h3,h4,h5⟩:=h
  refine⟨_,_,rfl,h2,h3,(fun hA=>by cases hA),fun hp=>⟨g,0,cur,_,_,rfl,hh,(fun _=>⟨rfl,Nat.zero_le _⟩),fun j x hj=>?_⟩⟩
  refine⟨[.int .u8 x],rfl,⟨rfl,h5 x (List.mem_of_getElem? hj)⟩,fun i u hi=>?_⟩
  cases i with
  | succ i=>simp at hi
  | zero =>
    have hi:Value.int .u8 x=u:=by simpa using hi
    subst hi
    have h6:(xs.map (Value.int .u8))[j]? = some (.int .u8 x):=by rw[List.getElem?_map,hj];rfl
    rw[← h4,List.getElem?_take] at h6
    split at h6
    · simpa using h6
    · cases h6
theorem i3.ge{g m c:Nat}   (h:i3 base w (.slice (some ⟨g,0,none⟩) m c) xs) : base≤g:=by
  obtain⟨g',cap,cur,n,hv,hb,_⟩:=h
  injection hv with e1 _ _
  injection e1 with e1
  injection e1 with e1 _
  rw[e1]
  exact hb
theorem i3.shape(h:i3 base w v xs) : ∃ g cp,v = .slice (some ⟨g,0,none⟩) xs.length cp:=by
  obtain⟨g,cap,cur,n,hv,_⟩:=h
  exact⟨g,cap,hv⟩
theorem qX{src dst e:TypeId}  (hs:P.underlying src=some .string)(hd:P.underlying dst=some (.slice e))(he:P.underlying e=some (.int .u8))(hte:e=5)(hr:dx xs)(hl:xs.length≤1048576) :
    ∃ cp w',(convert src dst (.string (strOfNums xs))).run P w = .ok (.slice (some ⟨w.heap.size,0,none⟩) xs.length cp) w'∧i3 w.heap.size w' (.slice (some ⟨w.heap.size,0,none⟩) xs.length cp) xs∧aI [] w w':=by
  subst hte
  have h:=Lib.run_convert_string_bytes (P:=P) w src dst _ (strOfNums xs) hs hd he
  rw[strOfNums_size] at h
  refine⟨_,_,h,⟨_,_,_,_,rfl,Nat.le_refl _,Lib.bytesWorld_at_new w _ (strOfNums xs),?_,?_,?_,?_,hr⟩,?_⟩
  · simp[Lib.bytesCells,strOfNums]
  · exact grownCap_ge ..
  · exact grownCap_le_maxLen _ _ _ _ (by unfold maxLen;omega)
  · simp only[Lib.bytesCells]
    rw[Array.toList_append,List.take_append_of_le_length (by simp[strOfNums])]
    rw[List.take_of_length_le (by simp[strOfNums])]
    simp only[strOfNums,Array.toList_map,List.map_map]
    apply List.map_congr_left
    intro x hx
    show Value.int .u8 _=_
    rw[pW (hr x hx)]
  · exact⟨rfl,rfl,rfl,by rw[Lib.bytesWorld_size];omega,fun k hk _=>Lib.bytesWorld_at_old w _ _ k hk⟩
section
variable {P:Program}{n:Nat}{D:List Deferred}{F:Fr}{w:World}{K:Fr→World→Prop}{Q:Exit→Act→World→Prop}{d:Option Tmp}{t:TypeId}{s:String}{af:Array Edge}{gu:Option (Nat × Bool)}
theorem pH{a:Act}{o:Oper}{N:Option Tmp}{K:Act→World→Prop}{w1:World}(v:Value)(hN:o.dst=N)(hr:(execOp a.eval o).run P w = .ok (.value v) w1)(h:K (a.put N v) w1) : OW P o a w K Q:=by
  refine OW.mk ?_
  subst hN
  unfold Oper.wp
  rw[hr]
  exact h
theorem EX{src dst:TypeId}{x:Operand}{xs:List Int}(hs:P.underlying src=some .string)(hd:P.underlying dst=some (.slice 5))(he:P.underlying 5=some (.int .u8))(hr:dx xs)(hl:xs.length≤1048576)
    (h:∀ A cp w',i3 w.heap.size w' (.slice A xs.length cp) xs→aI [] w w'→K (pt d (.slice A xs.length cp) F) w') (hx:fj F x=some (.string (strOfNums xs)):=by kernel_rfl) (hk:gv n d=true:=by kernel_rfl) : OG P ⟨d,.convert src dst x,t,s,af,gu⟩ n D F w K Q:=by
  obtain⟨cp,w',h1,h2,h3⟩:=qX (P:=P) (w:=w) hs hd he rfl hr hl
  refine⟨fun a ha K' hK=>pH _ rfl (w1:=w') ?_ (hK _ _ _ (h _ _ _ h2 h3) (ha.put hk))⟩
  have hx':=ha.ev hx
  unfold execOp
  simp only[hx',Sem.run_bind,h1,Result.andThen,Sem.run_pure]
theorem Ey{ty:TypeId}{x:Operand}{sv:ByteArray}(hs:P.underlying ty=some .string)(h:∀ g w',w.heap.size≤g→w'.heap[g]? = some (.stringIter sv 0)→aI [] w w'→K (pt d (.pointer (some ⟨g,0,none⟩)) F) w')
    (hx:fj F x=some (.string sv):=by kernel_rfl) (hk:gv n d=true:=by kernel_rfl) : OG P ⟨d,.range ty x,t,s,af,gu⟩ n D F w K Q:=by
  refine⟨fun a ha K' hK=>pH (.pointer (some ⟨w.heap.size,0,none⟩)) rfl (w1:=w.alloc (.stringIter sv 0)) ?_ (hK _ _ _ (h _ _ (Nat.le_refl _) (eV _ _) ((aI.refl _ _).alloc _)) (ha.put hk))⟩
  have hx':=ha.ev hx
  unfold execOp
  simp only[hx',Sem.run_bind,run_range_string w ty sv hs,Result.andThen,Sem.run_pure]
  rfl
theorem xk{xs:List Int}(hr:dx xs)(h0:0<xs.length) : ((((Utf8.decode (strOfNums xs) 0).1:Nat) : Int)=58↔xs.getD 0 0=58):=by
  have hs:0<(strOfNums xs).size:=by rw[strOfNums_size];exact h0
  have hm:xs.getD 0 0∈xs:=by
    rw[List.getD_eq_getElem?_getD,List.getElem?_eq_getElem h0]
    exact List.getElem_mem h0
  have hb:=hr _ hm
  have h1:((strOfNums xs).get! 0).toNat=(xs.getD 0 0).toNat:=by
    have e:(strOfNums xs).get! 0=(strOfNums xs)[0]:=by
      show(strOfNums xs).data[0]! = _
      rw[getElem!_pos (strOfNums xs).data 0 hs]
      rfl
    rw[e,jS h0 hs]
    simp only[UInt8.toNat_ofNat']
    omega
  unfold Utf8.decode
  simp only[Nat.zero_add,h1,Utf8.runeError]
  split
  · omega
  · split
    · split
      · rename_i h2 h3 h4;simp only;omega
      · simp only;omega
    · split
      · split
        · rename_i h2 h3 h4 h5;simp only[Bool.and_eq_true,decide_eq_true_eq] at h5;simp only;omega
        · simp only;omega
      · split
        · split
          · rename_i h2 h3 h4 h5 h6;simp only[Bool.and_eq_true,decide_eq_true_eq] at h6;simp only;omega
          · simp only;omega
        · simp only;omega
theorem Fo{x:Operand}{xs:List Int}{r:Nat}(hr:dx xs)(h0:0<xs.length)(B:w.heap[r]? = some (.stringIter (strOfNums xs) 0))(h:∀ c w',(c=58↔xs.getD 0 0=58)→aI [r] w w'→K (pt d (.tuple #[.bool true,.int .i64 0,.int .i32 c]) F) w')
    (hx:fj F x=some (.pointer (some ⟨r,0,none⟩)):=by kernel_rfl) (hk:gv n d=true:=by kernel_rfl) : OG P ⟨d,.next x true,t,s,af,gu⟩ n D F w K Q:=by
  have hlt:=az B
  have hrun:=Lib.run_next_any_at (P:=P) w r (strOfNums xs) 0 t B (by rw[strOfNums_size];exact h0)
  refine⟨fun a ha K' hK=>pH _ rfl (w1:=w.iterAt r (strOfNums xs) (0+(Utf8.decode (strOfNums xs) 0).2)) ?_ (hK _ _ _ (h (((Utf8.decode (strOfNums xs) 0).1:Nat) : Int) _ (xk hr h0) ?_) (ha.put hk))⟩
  · have hx':=ha.ev hx
    unfold execOp
    simp only[hx',Sem.run_bind,hrun,Result.andThen,Sem.run_pure]
    rfl
  · refine⟨rfl,rfl,rfl,?_,fun k hk hn=>?_⟩
    · simp[World.iterAt]
    · have:r≠k:=fun e=>hn (by simp[e])
      simp[World.iterAt,Array.getElem?_setIfInBounds,this]
end
open Go.RowKit
theorem Au{w:World}{g:Nat}{c s:Int}(hg:w.heap[g]? = some (.cells #[vB s] 5 (0,0))) : Calls Tryz.prog 183 #[vB c,vP g 0] w (fun e w'=>e = .returned (.tuple #[])∧w'.heap[g]? = some (.cells #[vB ((s+c)%256)] 5 (0,0))∧aI [g] w w'):=by
 exact en 6 Tryz.func183 rfl<|go<|aC hg 0<|Pl 2<|L0<|bY hg 0 #[vB ((s+c)%256)] fun d a b=>nl<|rm (.tuple #[])<|⟨rfl,a,b⟩
theorem wZ{m:Md}{A:Option Addr}{cp:Nat}{b:List Int}{w0 w:World}{g:Nat}(hu0:aI [] w0 w)(hg0:w0.heap.size≤g)(hsl:aV m w0 (.slice A b.length cp) b)(hg:w.heap[g]? = some (.cells #[vB (gk b 0)] 5 (0,0))) :
    Calls Tryz.prog 182 #[.slice A b.length cp,.func (.func 183) #[] #[vP g 0]] w (fun e w'=>e = .returned (.tuple #[])∧w'.heap[g]? = some (.cells #[vB (rY b)] 5 (0,0))∧aI [] w0 w'∧w.heap.size≤w'.heap.size):=by
 have hln:=aT.len hsl
 refine en 16 Tryz.func182 rfl<|aB 3<|bk<|?_
 refine je (fun x=>[(1,.func (.func 183) #[] #[vP g 0]),(6,.slice A b.length cp),(7,vI ((b.length:Nat) : Int)),(8,vI ((x:Nat) : Int))]) (fun(x:Nat) w'=>aI [] w0 w'∧w.heap.size≤w'.heap.size∧w'.heap[g]? = some (.cells #[vB (gk b x)] 5 (0,0))∧(x≤b.length)) (fun x=>b.length-x) 0 ⟨hu0,lr,hg,(by(try dsimp only);omega)⟩ ?_
 rintro k j ⟨a,f,l,n⟩
 refine gi [(1,.func (.func 183) #[] #[vP g 0]),(6,.slice A b.length cp),(7,vI ((b.length:Nat) : Int)),(8,vI ((k:Nat) : Int))] ?_
 have h:j.heap[g]? = some (.cells #[vB (gk b k)] 5 (0,0)):=l
 have y:k≤b.length:=n
 refine aB 1<|sq<|cb ((decide (((k:Nat) : Int)<((b.length:Nat) : Int)))) (fun d=>?_) (fun d=>?_)
 have o:=of_decide_eq_true d
 refine bu<|sq<|bk<|sg<|?_
 refine fo (aV.at_ (aV.old hsl a) k (by omega)) fun q r s t z=>L0<|lc b.length k s (by omega)<|L0<|fR (p:=⟨q,r+k,none⟩) (v:=vB (b.getD k 0)) t<|ah 1<|go<|Pl 2<|L0<|i8 #[] #[vP g 0] (args:=#[vB (b.getD k 0),vP g 0])<|m2 (Au (c:=(b.getD k 0)) h) fun B u i=>nl<|bn<|tn<|go<|bp (((k:Nat) : Int)+1)<|?_
 refine Pl 1<|nl<|?_
 exact gK (k+1) ⟨(ud a i hg0),(le f i.size),u,(by(try dsimp only);omega)⟩ (by omega)
 have o:=of_decide_eq_false d
 refine xt<|tx<|tx<|bx<|rm (.tuple #[])<|?_
 have hk:k=b.length:=by omega
 subst hk
 exact⟨rfl,h,a,f⟩
theorem tX{m:Md}{A:Option Addr}{cp:Nat}{b:List Int}{w:World}(hsl:aV m w (.slice A b.length cp) b) :
    Calls Tryz.prog 116 #[.slice A b.length cp] w (bS (vB (cv b)) w):=by
 refine en 9 Tryz.func116 rfl<|aq 1<|ng<|aK #[vB 0] fun h i a c d=>L0<|bY c 0 #[vB 0] fun j eR e=>aL 2<|?_
 exact ay<|m3 (wZ (ud d e a) a hsl eR) fun k f g l=>ng<|aC f 0<|ah 2<|rt<|rr (vB ((0-(rY b))%256))<|⟨rfl,g⟩
theorem p8{m:Md}{v:Value}{b:List Int}{w:World}(h:aV m w v b) : Calls Tryz.prog 116 #[v] w (bS (.int .u8 (cv b)) w):=by
  obtain⟨A,cp,rfl,_,_⟩:=h.shape
  exact tX h
theorem u0{m:Md}{A:Option Addr}{cp:Nat}{b:List Int}{w:World}(hsl:aV m w (.slice A b.length cp) b) :
    Calls Tryz.prog 82 #[.slice A b.length cp] w (bS (.bool (eq b)) w):=by
 refine en 11 Tryz.func82 rfl<|aq 1<|aL 4<|bl 6 ((decide (0<(b.length:Int)))) (fun a=>?_) (fun a=>?_)
 have c:=of_decide_eq_true a
 refine Pl 1<|L1<|Oc (args:=#[.slice A b.length cp])<|m1 (p8 hsl) fun e d=>ah 3<|rt<|rr (.bool ((cv b)==0))<|?_
 have hs:eq b=((cv b)==0):=by unfold eq;(try simp only[a,bi]);all_goals rfl
 rw[hs]
 exact⟨rfl,d⟩
 have c:=of_decide_eq_false a
 refine ah 5<|rt<|rr (.bool false)<|?_
 have hs:eq b=false:=by unfold eq;(try simp only[a,bi]);all_goals rfl
 rw[hs]
 exact⟨rfl,(aI.refl [] _)⟩
theorem xh{m:Md}{v:Value}{b:List Int}{w:World}(h:aV m w v b) : Calls Tryz.prog 82 #[v] w (bS (.bool (eq b)) w):=by
  obtain⟨A,cp,rfl,_,_⟩:=h.shape
  exact u0 h
open Go.RowKit
theorem s6:∃ j,Tryz.prog.info? 251=some j∧j.size=2:=Option.map_eq_some_iff.1 (show(Tryz.prog.info? 251).map (·.size)=some 2 by kernel_rfl)
theorem qa(b:Nat)(w:World)(h0:w.cell? ⟨b,0,none⟩=some (.pointer none))(hsh:w.shape? b=some (251,2))(hfz:w.frozen? ⟨b,0,none⟩=false) :
    Calls Tryz.prog 270 #[.pointer (some ⟨b,0,none⟩)] w fun e w'=>e = .returned (.tuple #[])∧w'=w.setCell ⟨b,0,none⟩ (.pointer (some ⟨b,0,none⟩)):=by
  obtain⟨j,hj,hjs⟩:=s6
  go_enter Tryz.func270,Tryz.ntmps270
  go_wp2
  rw[Lib.run_to_unsafe w ⟨b,0,none⟩ Tryz.underlying249 Tryz.underlying255 hj (by rw[hjs];decide) hsh (Nat.zero_lt_succ 1)]
  simp only[Result.andThen]
  rw[Oper.upon_value]
  go_wp2
  rw[run_callFunc_extern Tryz.func271 (by kernel_rfl) (by kernel_rfl) (by kernel_rfl) (e:=Extern.AbiNoEscape.same) (by kernel_rfl)]
  rw[Lib.run_noEscape]
  simp only[Result.andThen]
  rw[Oper.upon_value]
  go_wp2
  rw[Lib.run_from_unsafe w ⟨b,0,none⟩ Tryz.underlying255 Tryz.underlying249 hj hsh (by kernel_rfl)]
  simp only[Result.andThen]
  rw[Oper.upon_value]
  go_wp2
  go_end0
  exact⟨rfl,rfl⟩
theorem qQ(b:Nat)(w:World)(h0:w.cell? ⟨b,0,none⟩=some (.pointer (some ⟨b,0,none⟩))) :
    Calls Tryz.prog 270 #[.pointer (some ⟨b,0,none⟩)] w fun e w'=>e = .returned (.tuple #[])∧w'=w:=by
  obtain⟨j,hj,_⟩:=s6
  go_enter Tryz.func270,Tryz.ntmps270
  go_wp2
  rw[Lib.run_neq_ptr_same w _ Tryz.underlying249 hj]
  go_wp2
  go_end0
  exact⟨rfl,rfl⟩
theorem tU{w:World}{b:Nat}{p v:Value}(hp:p = .pointer none∨p = .pointer (some ⟨b,0,none⟩))(hb:w.heap[b]? = some (.cells #[p,v] 251 (0,0))) :
    Calls Tryz.prog 270 #[.pointer (some ⟨b,0,none⟩)] w fun e w'=>e = .returned (.tuple #[])∧w'.heap[b]? = some (.cells #[.pointer (some ⟨b,0,none⟩),v] 251 (0,0))∧aI [b] w w':=by
  have h0:w.cell? ⟨b,0,none⟩=some p:=(bD hb 0).trans rfl
  rcases hp with rfl|rfl
  · refine(qa b w h0 (by simp[World.shape?,hb]) (fB hb 0)).mono ?_
    rintro e w' ⟨rfl,rfl⟩
    exact⟨rfl,(gX hb 0 _).trans rfl,(aI.refl _ _).setCell (Or.inl (by simp)) _⟩
  · refine(qQ b w h0).mono ?_
    rintro e w' ⟨rfl,rfl⟩
    exact⟨rfl,hb,aI.refl _ _⟩
def nJ:Array Value:=#[.int .u8 48,.int .u8 49,.int .u8 50,.int .u8 51,.int .u8 52,.int .u8 53,.int .u8 54,.int .u8 55,.int .u8 56,.int .u8 57,.int .u8 65,.int .u8 66,.int .u8 67,.int .u8 68,.int .u8 69,.int .u8 70]
theorem uZ:∀ {j:Nat},j<16→nJ[j]? = some (.int .u8 (dt (j:Int)))
  | 0,_ | 1,_ | 2,_ | 3,_ | 4,_ | 5,_ | 6,_ | 7,_ | 8,_ | 9,_ | 10,_ | 11,_ | 12,_ | 13,_ | 14,_ | 15,_=>rfl
  | n+16,h=>by omega
theorem rV{i:Int}(h:0≤i∧i<16) : nJ[i.toNat]? = some (.int .u8 (dt i)):=by
  rw[uZ (by omega),Int.toNat_of_nonneg h.1]
theorem zU{P:Program}{w:World}{ev:Operand→Value}{o:Oper}{x ix:Operand}{t e:TypeId}{k:IntKind}{i:Int}(j:Nat)(ho:o.op = .index t x ix)(ht:P.underlying t=some (.array 16 e))(hi:(P.info? e).map (·.size)=some 1)(hr:∀ w,(isAgg e).run P w = .ok false w)(hx:ev x = .agg nJ)(hy:ev ix = .int k i)(hj:i=(j:Int))(hlt:j<16) : (execOp ev o).run P w = .ok (.value (.int .u8 (dt (j:Int)))) w:=by
  subst hj
  obtain⟨i0,hi0,hs⟩:=Option.map_eq_some_iff.1 hi
  have h:=uZ hlt
  unfold execOp
  have h2:(0:Int)≤(j:Int)∧(j:Int)<16:=by omega
  simp[ho,hx,hy,Instr.index,asIntOf,run_underlying ht,Result.andThen,h2,sizeOf,typeInfo,hi0,hs,part,h,hr,hlt]
def Ca (B b:Nat)(L:List Int)(w:World) : Prop:=∃ p A cp,w.heap[b]? = some (.cells #[p,.slice A L.length cp] 251 (0,0))∧(p = .pointer none∨p = .pointer (some ⟨b,0,none⟩))∧eE B w (.slice A L.length cp) L
theorem Ca.new{B b:Nat}{w:World}(hb:w.heap[b]? = some (.cells #[.pointer none,.slice none 0 0] 251 (0,0))) : Ca B b [] w:=⟨_,_,_,hb,.inl rfl,aZ.nil ..⟩
def Br:Go.Shelf.Ren:=⟨fun | 169=>269 | n=>n,fun | 70=>249 | 9=>9 | 0=>0 | 72=>251 | 37=>27 | 127=>240 | 3=>3 | 5=>5 | n=>n,fun | n=>n⟩
theorem DK:Go.Proofs.Lays.n169 Tryz.prog Br:={
  mixed:=by kernel_rfl
  f169:=Tryz.func269.trans (congrArg some (by kernel_rfl))
  t0:=Tryz.underlying0
  a0:=Tryz.isAgg0
  z0:=Tryz.sizeOf0
  v0:=Tryz.zeroValue0
  t3:=Tryz.underlying3
  a3:=Tryz.isAgg3
  z3:=Tryz.sizeOf3
  v3:=Tryz.zeroValue3
  t9:=Tryz.underlying9
  a9:=Tryz.isAgg9
  z9:=Tryz.sizeOf9
  v9:=Tryz.zeroValue9
  t37:=Tryz.underlying27
  a37:=Tryz.isAgg27
  z37:=Tryz.sizeOf27
  v37:=Tryz.zeroValue27
  t70:=Tryz.underlying249
  a70:=Tryz.isAgg249
  z70:=Tryz.sizeOf249
  v70:=Tryz.zeroValue249
  t72:=Tryz.underlying251
  a72:=Tryz.isAgg251
  z72:=Tryz.sizeOf251
  v72:=Tryz.zeroValue251
  t127:=Tryz.underlying240
  a127:=Tryz.isAgg240
  z127:=Tryz.sizeOf240
  v127:=Tryz.zeroValue240 }
theorem CX:Builder.Extra Tryz.prog Br:={
  sizeBuilder:=by kernel_rfl
  liesBuilder:=by kernel_rfl
  t5:=Tryz.underlying5
  a5:=Tryz.isAgg5
  z5:=Tryz.sizeOf5
  v5:=Tryz.zeroValue5
  infoByte:=by kernel_rfl
  cellsByte:=by kernel_rfl
  sizeByte:=by kernel_rfl
  neB5:=by decide }
theorem xz{L:List Int}(h:dx L) : Lib.byteCells (L.map fun n=>UInt8.ofNat n.toNat)=L.map (Value.int .u8):=by
  unfold Lib.byteCells
  rw[List.map_map]
  apply List.map_congr_left
  intro x hx
  show Value.int .u8 _=_
  rw[pW (h x hx)]
theorem uw{w0 w:World}{b:Nat}{L:List Int}(hu:aI [] w0 w)(hg:w0.heap.size≤b)(h:Ca w0.heap.size b L w)(hr:dx L) :
    Calls Tryz.prog 269 #[.pointer (some ⟨b,0,none⟩)] w fun e w'=>e = .returned (.string (strOfNums L))∧aI [] w0 w':=by
  obtain⟨p,A,cp,hb,hp,ho⟩:=h
  have h1:=fw (enc:=Value.int .u8) (fun _ _ _ h=>h.1) ho
  have h2:Lib.BuilderAt 251 5 w0.heap.size b p (Lib.byteCells (L.map fun n=>UInt8.ofNat n.toNat)) w:=by
    rw[xz hr]
    refine⟨hg,_,hb,by rw[List.length_map];exact h1,fun hq=>?_⟩
    rcases h1.2 with⟨hv,_⟩|⟨g',cap,cur,hv,_,hh,_⟩
    · rw[hv] at hq;cases hq
    · rw[hv] at hq
      have e:g'=b:=by simpa [Value.ownBlock] using hq
      subst e
      rw[hb] at hh
      injection hh with hh
      injection hh with _ h5 _
      exact absurd h5 (by decide)
  have h3:Lib.IsBuilder (Br.t 72) (Br.t 5) w0.heap.size b (Lib.byteCells (L.map fun n=>UInt8.ofNat n.toNat)) w:=by
    rcases hp with rfl|rfl
    · exact Or.inl h2
    · exact Or.inr h2
  refine(Any.Builder_String_any DK CX _ _ _ _ h3 hu.size).mono ?_
  rintro e w' ⟨rfl,hbel⟩
  exact⟨rfl,hu.os▸hbel.os,hu.tape▸hbel.tape,hu.output▸hbel.output,Nat.le_trans hu.size hbel.size,fun k hk hn=>(hbel.block k hk).trans (hu.block k hk hn)⟩
open Go.RowKit
theorem np{w:World}:Calls Tryz.prog 181 #[] w (bS (.agg nJ) w):=by
 refine en 2 Tryz.func181 rfl<|sg<|aK #[vB 0,vB 0,vB 0,vB 0,vB 0,vB 0,vB 0,vB 0,vB 0,vB 0,vB 0,vB 0,vB 0,vB 0,vB 0,vB 0] fun e f a b c=>aL 1<|aG b #[vB 48,vB 49,vB 50,vB 51,vB 52,vB 53,vB 54,vB 55,vB 56,vB 57,vB 65,vB 66,vB 67,vB 68,vB 69,vB 70] fun g eR d=>ss<|D3 eR<|?_
 exact⟨rfl,(ud c d a)⟩
theorem zn{c:Int}{n:Nat}(h:∀ j:Nat,j<n→dt (j:Int)≠c)(q:(dt ((n:Nat) : Int)==c)=false) : ∀ j:Nat,j<n+1→dt (j:Int)≠c:=fun j hj=>by
  by_cases e:j=n
  · subst e;simpa using q
  · exact h j (by omega)
theorem Dj{c:Int}{n:Nat}(hn:n<16)(q:(dt ((n:Nat) : Int)==c)=true) : bW c=((n:Nat) : Int):=by
  have e:dt ((n:Nat) : Int)=c:=by simpa using q
  rw[← e]
  exact ll (by omega)
theorem yk{c:Int}{n:Nat}(hn:n=16)(h:∀ j:Nat,j<n→dt (j:Int)≠c) : bW c = -1:=by
  by_cases e:0≤bW c
  · have h1:=l8 e
    exact absurd (by rw[Int.toNat_of_nonneg e];exact h1.1) (h (bW c).toNat (by omega))
  · have:=kY c
    omega
theorem oP{w:World}{c:Int}(hc:0≤c∧c<256) : Calls Tryz.prog 115 #[vB c] w (bS (vI (bW c)) w):=by
 refine en 15 Tryz.func115 rfl<|aB 1<|sq<|sg<|ay<|m1 (@np w) fun g h=>ah 1<|bk<|?_
 refine je (fun x=>[(0,vB c),(5,.agg nJ),(6,vI ((x:Nat) : Int))]) (fun(x:Nat) w'=>aI [] g w'∧(x≤16)∧(∀ j:Nat,j<x→dt (j:Int)≠c)) (fun x=>16-x) 0 ⟨aI.refl _ _,(by(try dsimp only);omega),(fun j hj=>by omega)⟩ ?_
 rintro n q ⟨d,l,m⟩
 refine gi [(0,vB c),(5,.agg nJ),(6,vI ((n:Nat) : Int))] ?_
 have r:n≤16:=l
 have e:∀ j:Nat,j<n→dt (j:Int)≠c:=m
 refine aB 1<|sq<|?_
 have f:=aJ h d
 refine cb ((decide (((n:Nat) : Int)<16))) (fun b=>?_) (fun b=>?_)
 have o:=of_decide_eq_true b
 refine bu<|sq<|bk<|aq 1<|L0<|gr (vB (dt ((n:Nat) : Int))) (zU (k:=.i64) (i:=((n:Nat) : Int)) n rfl Tryz.underlying204 (by kernel_rfl) Tryz.isAgg5 (by kernel_rfl) (by kernel_rfl) rfl (by omega))<|Pl 2<|aL 3<|nl<|?_
 refine tn<|cb (((dt ((n:Nat) : Int))==c)) (fun a=>?_) (fun a=>?_)
 have p:=ag a
 refine aB 2<|rt<|br<|tr<|tr<|br<|tr<|rr (vI ((n:Nat) : Int))<|?_
 have hs:bW c=((n:Nat) : Int):=Dj (by omega) a
 rw[hs]
 exact⟨rfl,f⟩
 have p:=ai a
 exact sk<|bn<|tn<|go<|bp (((n:Nat) : Int)+1)<|Pl 1<|nl<|gK (n+1) ⟨d,(by(try dsimp only);omega),(zn e a)⟩ (by omega)
 have o:=of_decide_eq_false b
 refine xt<|tx<|tx<|bx<|tn<|aB 1<|rt<|rr (vI (-1))<|?_
 have hs:bW c = -1:=yk (n:=n) (by omega) e
 rw[hs]
 exact⟨rfl,f⟩
theorem pA{w0 w:World}{b gd:Nat}{L:List Int}{c:Int}(hu0:aI [] w0 w)(hg0:w0.heap.size≤b)(hg1:w0.heap.size≤gd)(h:Ca w0.heap.size b L w)(hd:w.heap[gd]? = some (.cells nJ 204 (0,0)))(hne:gd≠b)(hc:0≤c∧c<256)(hl:L.length≤1048576) :
    Calls Tryz.prog 268 #[vP b 0,vB c] w (fun e w'=>e = .returned .nilIface∧Ca w0.heap.size b (L++[c]) w'∧w'.heap[gd]? = some (.cells nJ 204 (0,0))∧aI [] w0 w'∧w.heap.size≤w'.heap.size):=by
 obtain⟨p,A,cp,hb,hp,ho⟩:=h
 refine en 17 Tryz.func268 rfl<|aq 1<|aL 1<|ay<|m2 (tU hp hb) fun u a d=>aL 4<|aC a 1<|Pl 1<|L0<|cX (m:=1) (e:=5) #[vB c] fun v y r eR f=>?_
 have s:=cD r (xs:=[c]) (by as_aux_lemma=>kernel_rfl) (al (by omega) aP) (by(try simp only[List.length_cons,List.length_nil]);omega) eR
 have i:=aJ d f
 refine L0<|bK be (xs:=L) (ys:=([c])) (vB 0) 1 (au ho i (fun x hx=>(aa (fun e=>(dJ hb ho (by decide)) (e▸hx)) aE)) (fun _ _ h=>h)) (s).rd (by(try simp only[bM,ax]);omega) (le (le hu0.size d.size) f.size) fun j k z l n=>Pl 2<|?_
 have o:=aI.blk (ut (aI.mono (S':=(ob A++[])) f aD) n (am il aD)) (bA (dJ a (au ho d (fun x hx=>(aa (fun e=>(dJ hb ho (by decide)) (e▸hx)) aE)) (fun _ _ h=>h)) (by decide)) aE) a
 refine L0<|bY o 1 #[vP b 0,.slice j ((L++[c]).length) k] fun B t q=>dk 1<|rt<|rr (.nilIface)<|?_
 have g:=ut (aI.mono (S':=(b :: (ob A++[]))) i (ac im aD)) (u1 (aI.mono (S':=(ob A++(b :: []))) n (am il aD)) q im) (am il (ac im aD))
 exact⟨rfl,⟨_,j,k,t,.inr rfl,(au l q (fun x hx=>(aa (fun e=>(dJ o l (by decide)) (e▸hx)) aE)) (fun _ _ h=>h))⟩,(aI.blk g (aa hne (bA (dJ hd ho (by decide)) aE)) hd),(ut hu0 g (ac (nr hg0) (am (aU ho lr) aD))),g.size⟩
open Go.RowKit
theorem jB{b:List Int}(h:dx b) : dx (dh b):=by
  induction b with
  | nil=>exact h
  | cons c b ih =>
    have hc:=h c (List.mem_cons_self ..)
    have h1:=i9 (n:=c/16) (by omega)
    have h2:=i9 (n:=c%16) (by omega)
    intro x hx
    rcases List.mem_cons.1 hx with rfl|hx
    · omega
    rcases List.mem_cons.1 hx with rfl|hx
    · omega
    · exact ih (fun y hy=>h y (List.mem_cons_of_mem _ hy)) x hx
theorem w8{m:Md}{A:Option Addr}{cp:Nat}{b:List Int}{w:World}(hsl:aV m w (.slice A b.length cp) b)(hl:b.length≤1024) :
    Calls Tryz.prog 267 #[.slice A b.length cp] w (bS (.string (strOfNums (dh b))) w):=by
 have hb:=aV.range hsl
 refine en 26 Tryz.func267 rfl<|aq 1<|ng<|aK #[.pointer none,nS] fun d y g l h=>ng<|ay<|m1 (@np y) fun X e=>?_
 refine aK #[vB 0,vB 0,vB 0,vB 0,vB 0,vB 0,vB 0,vB 0,vB 0,vB 0,vB 0,vB 0,vB 0,vB 0,vB 0,vB 0] fun a Y f z B=>aG (hz:=(by kernel_rfl)) (hv:=rfl) (h1:=(by kernel_rfl)) z (nJ) fun C D E=>nt<|sq<|aB 3<|bk<|?_
 have o:=aJ e (ud B E f)
 have q:=nb (az l) e.size f
 refine je (fun x=>[(2,.string ⟨#[]⟩),(3,vP d 0),(4,vP a 0),(8,.slice A b.length cp),(9,vI ((b.length:Nat) : Int)),(10,vI ((x:Nat) : Int))]) (fun(x:Nat) w'=>aI [] w w'∧C.heap.size≤w'.heap.size∧Ca w.heap.size d (dh (b.take x)) w'∧w'.heap[a]? = some (.cells nJ 204 (0,0))∧(x≤b.length)) (fun x=>b.length-x) 0 ⟨(aJ h o),lr,(by simpa [dh] using Ca.new (ub o l)),D,(by(try dsimp only);omega)⟩ ?_
 rintro k r ⟨i,F,G,H,I⟩
 refine gi [(2,.string ⟨#[]⟩),(3,vP d 0),(4,vP a 0),(8,.slice A b.length cp),(9,vI ((b.length:Nat) : Int)),(10,vI ((k:Nat) : Int))] ?_
 have s:Ca w.heap.size d (dh (b.take k)) r:=G
 have t:r.heap[a]? = some (.cells nJ 204 (0,0)):=H
 have Z:k≤b.length:=I
 refine aB 1<|sq<|cb ((decide (((k:Nat) : Int)<((b.length:Nat) : Int)))) (fun j=>?_) (fun j=>?_)
 have J:=of_decide_eq_true j
 refine bu<|sq<|bk<|sg<|?_
 refine fo (aV.at_ (aV.old hsl i) k (by omega)) fun K L M N a0=>L0<|lc b.length k M (by omega)<|L0<|fR (p:=⟨K,L+k,none⟩) (v:=vB (b.getD k 0)) N<|Pl 1<|aL 1<|L0<|Oe (vB (Int.fdiv (b.getD k 0) (2 ^ 4))) (vB ((b.getD k 0)/16)) (congrArg (Value.int .u8) (mB _ _ _ (by decide)))<|L0<|DW (b:=a) (off:=0) 16 ((((b.getD k 0)/16)).toNat) ((b.getD k 0)/16) (by omega) (by omega)<|?_
 have a1:=i9 (n:=((b.getD k 0)/16)) (by omega)
 refine L0<|fR (p:=⟨a,0+(((b.getD k 0)/16)).toNat,none⟩) (v:=vB (dt (((b.getD k 0)/16)))) (ae t (by rw[Nat.zero_add,rV (by omega)]))<|ay<|m4 (pA (c:=(dt ((b.getD k 0)/16))) i g (Nat.le_trans (le h.size e.size) f) s t (Ne.symm q) (by omega) (by rw[dV,List.length_take];omega)) fun a2 O u P Q=>nt<|go<|Pl 1<|L0<|Oe (vB (Int.tmod (b.getD k 0) 16)) (vB ((b.getD k 0)%16)) (congrArg (Value.int .u8) (Int.tmod_eq_emod_of_nonneg (by omega)))<|L0<|DW (b:=a) (off:=0) 16 ((((b.getD k 0)%16)).toNat) ((b.getD k 0)%16) (by omega) (by omega)<|?_
 have a3:=i9 (n:=((b.getD k 0)%16)) (by omega)
 exact L0<|fR (p:=⟨a,0+(((b.getD k 0)%16)).toNat,none⟩) (v:=vB (dt (((b.getD k 0)%16)))) (ae u (by rw[Nat.zero_add,rV (by omega)]))<|ay<|m4 (pA (c:=(dt ((b.getD k 0)%16))) P g (Nat.le_trans (le h.size e.size) f) O u (Ne.symm q) (by omega) (by rw[List.length_append,dV,List.length_take];simp only[List.length_cons,List.length_nil];omega)) fun a4 R S T U=>nl<|bn<|tn<|go<|bp (((k:Nat) : Int)+1)<|Pl 1<|nl<|gK (k+1) ⟨T,(le (le F Q) U),(by rw[pv _ _ (by omega)];exact R),S,(by(try dsimp only);omega)⟩ (by omega)
 have J:=of_decide_eq_false j
 refine xt<|tx<|tx<|bx<|tn<|sg<|?_
 have V:k=b.length:=by omega
 have hbl:=s
 rw[V,List.take_length] at hbl
 have hbr:dx (dh b):=jB hb
 refine ay<|m1 (uw i g hbl hbr) fun a5 W=>ah 1<|rt<|rr (.string (strOfNums (dh b)))<|?_
 exact⟨rfl,W⟩
theorem xW{m:Md}{v:Value}{b:List Int}{w:World}(h:aV m w v b)(hl:b.length≤1024) : Calls Tryz.prog 267 #[v] w (bS (.string (strOfNums (dh b))) w):=by
  obtain⟨A,cp,rfl,_,_⟩:=h.shape
  exact w8 h hl
def hH (xs:List Int)(w:World)(e:Ending)(w':World) : Prop:=match bT xs with
  | some l=>∃ v,e = .returned (.tuple #[v,.int .i64 0])∧eE w.heap.size w' v l∧aI [] w w'
  | none=>e = .returned (.tuple #[.slice none 0 0,.int .i64 11])∧aI [] w w'
theorem uM{xs l:List Int}{w w':World}{e:Ending}(h:bT xs=some l)(k:∃ v,e = .returned (.tuple #[v,.int .i64 0])∧eE w.heap.size w' v l∧aI [] w w') : hH xs w e w':=by
  unfold hH
  rw[h]
  exact k
theorem mu{xs:List Int}{w w':World}{e:Ending}(h:bT xs=none)(k:e = .returned (.tuple #[.slice none 0 0,.int .i64 11])∧aI [] w w') : hH xs w e w':=by
  unfold hH
  rw[h]
  exact k
theorem oK{xs:List Int}{w:World}(hr:dx xs)(hl:xs.length≤1048576) :
    Calls Tryz.prog 81 #[.string (strOfNums xs)] w (hH xs w):=by
 refine en 42 Tryz.func81 rfl<|aB 2<|sq<|aq 1<|L0<|Oe (vI (((strOfNums xs).size:Nat) : Int)) (vI (xs.length:Int)) (by rw[strOfNums_size])<|L0<|Oe (vI (Int.tmod (xs.length:Int) 2)) (vI ((xs.length:Int)%2)) (congrArg (Value.int .i64) (Int.tmod_eq_emod_of_nonneg (by omega)))<|Pl 1<|nl<|tn<|cb ((((xs.length:Int)%2)!=0)) (fun f=>?_) (fun f=>?_)
 have A:=aA f
 refine aB 2<|b6<|rr (.tuple #[nS,vI 11])<|?_
 have hs:bT xs=none:=lm (by omega)
 exact mu hs ⟨rfl,(aI.refl [] _)⟩
 have A:=aF f
 refine bu<|aB 1<|sq<|aB 1<|bk<|?_
 refine je (fun x=>[(0,.string (strOfNums xs)),(4,.slice x.2.2.1 x.2.1.length x.2.2.2),(5,vI ((2*x.1:Nat) : Int))]) (fun(x:Nat × List Int × Option Addr × Nat) w'=>aI [] w w'∧eE w.heap.size w' (.slice x.2.2.1 x.2.1.length x.2.2.2) x.2.1∧(2*x.1≤xs.length)∧(bT xs=(bT (xs.drop (2*x.1))).map fun l=>x.2.1++l)∧(x.2.1.length=x.1)) (fun x=>xs.length-2*x.1) (0,[],none,0) ⟨aI.refl _ _,(aZ.nil w.heap.size _ _ xv _),(by(try dsimp only);omega),(by(try dsimp only);simp),(by(try dsimp only);rfl)⟩ ?_
 rintro⟨k,L,B,cq⟩ C ⟨g,D,E,F,G⟩
 refine gi [(0,.string (strOfNums xs)),(4,.slice B L.length cq),(5,vI ((2*k:Nat) : Int))] ?_
 have j:eE w.heap.size C (.slice B L.length cq) L:=D
 have U:2*k≤xs.length:=E
 have V:bT xs=(bT (xs.drop (2*k))).map fun l=>L++l:=F
 have W:L.length=k:=G
 have hL:bT xs=(bT (xs.drop (2*k))).map fun l=>L++l:=by assumption
 refine sq<|aq 2<|L0<|Oe (vI (((strOfNums xs).size:Nat) : Int)) (vI (xs.length:Int)) (by rw[strOfNums_size])<|ah 1<|cb ((decide (((2*k:Nat) : Int)<(xs.length:Int)))) (fun n=>?_) (fun n=>?_)
 have H:=of_decide_eq_true n
 refine bu<|sq<|bk<|sq<|Rg 11 (fun w'=>True) fun X p=>bv trivial fun a=>Rt 0 a<|Rt 1 a<|Rr 2 a (vB (xs.getD (2*k) 0)) (fun _ _=>kZ (xs:=xs) (k:=.i64) (i:=((2*k:Nat) : Int)) (2*k) rfl Tryz.underlying9 (by kernel_rfl) (by kernel_rfl) hr rfl (by omega))<|Rt 4 a<|Rt 5 a<|Rr 6 a (vI (((2*k:Nat) : Int)+1)) (fun _ _=>bO (vI (IntKind.i64.wrap (((2*k:Nat) : Int)+1))) (by kernel_rfl) (congrArg (Value.int .i64) (IntWalk.i64_in _ (by omega))))<|Rr 7 a (vB (xs.getD ((((2*k:Nat) : Int)+1)).toNat 0)) (fun _ _=>kZ (xs:=xs) (k:=.i64) (i:=(((2*k:Nat) : Int)+1)) ((((2*k:Nat) : Int)+1)).toNat rfl Tryz.underlying9 (by kernel_rfl) (by kernel_rfl) hr (by omega) (by omega))<|?_
 have Y:=kY (xs.getD (2*k) 0)
 refine R0 3 rfl<|Oc<|m1 (oP (c:=(xs.getD (2*k) 0)) (w:=_) (fe (by omega) hr _)) fun Z r=>bv trivial fun a0=>?_
 have a1:=kY (xs.getD ((((2*k:Nat) : Int)+1)).toNat 0)
 refine R0 8 rfl<|Oc<|m1 (oP (c:=(xs.getD ((((2*k:Nat) : Int)+1)).toNat 0)) (w:=_) (fe (by omega) hr _)) fun a2 s=>bv trivial fun t=>Rt 9 t<|Rt 10 t<|re<|tn<|sq<|aq 3<|cu 3 [29] 32 (((decide ((bW (xs.getD (2*k) 0))<0))||(decide ((bW (xs.getD ((((2*k:Nat) : Int)+1)).toNat 0))<0)))) (fun K u=>?_) ?_
 refine bl 29 ((decide ((bW (xs.getD (2*k) 0))<0))) (fun b=>?_) (fun b=>?_)
 have I:=of_decide_eq_true b
 exact Pl 3<|ce u true (by rw[b];rfl)
 have I:=of_decide_eq_false b
 exact Pl 3<|ce u (decide ((bW (xs.getD ((((2*k:Nat) : Int)+1)).toNat 0))<0)) (by rw[b];rfl)
 refine nt<|?_
 have v:=aJ p (aJ r s)
 have y:=aJ g v
 refine cb (((decide ((bW (xs.getD (2*k) 0))<0))||(decide ((bW (xs.getD ((((2*k:Nat) : Int)+1)).toNat 0))<0)))) (fun d=>?_) (fun d=>?_)
 refine aB 2<|b6<|br<|tr<|tr<|br<|tr<|rr (.tuple #[nS,vI 11])<|?_
 have hs:bT xs=none:=rB (k:=k) hL (by omega) (by have q:=d;simp only[Bool.or_eq_true,decide_eq_true_eq] at q;rw[show 2*k+1=(((2*k:Nat) : Int)+1).toNat from by omega];exact q)
 exact mu hs ⟨rfl,y⟩
 have J:=(bL d).1
 have M:=(bL d).2
 have a3:=of_decide_eq_false J
 have a4:=of_decide_eq_false M
 refine bu<|go<|Pl 2<|bp (16*(bW (xs.getD (2*k) 0)))<|Pl 1<|bp ((16*(bW (xs.getD (2*k) 0)))+(bW (xs.getD ((((2*k:Nat) : Int)+1)).toNat 0)))<|Pl 1<|L0<|cX (m:=1) (e:=5) #[vB (((16*(bW (xs.getD (2*k) 0)))+(bW (xs.getD ((((2*k:Nat) : Int)+1)).toNat 0)))%256)] fun a5 a6 N O o=>?_
 have P:=cD N (xs:=[(((16*(bW (xs.getD (2*k) 0)))+(bW (xs.getD ((((2*k:Nat) : Int)+1)).toNat 0)))%256)]) (by as_aux_lemma=>kernel_rfl) (al (by omega) aP) (by(try simp only[List.length_cons,List.length_nil]);omega) O
 refine L0<|bK be (xs:=L) (ys:=([(((16*(bW (xs.getD (2*k) 0)))+(bW (xs.getD ((((2*k:Nat) : Int)+1)).toNat 0)))%256)])) (vB 0) 1 (au j (aJ v o) (fun x hx=>aE) (fun _ _ h=>h)) (P).rd (by(try simp only[bM,ax]);omega) (le (le (le (le g.size p.size) r.size) s.size) o.size) fun Q R a7 S T=>Pl 1<|nl<|bn<|tn<|go<|Pl 1<|bp (((2*k:Nat) : Int)+2)<|Pl 1<|nl<|?_
 have z:=nM (k:=k) hL (by omega) (by omega) (by rw[show 2*k+1=(((2*k:Nat) : Int)+1).toNat from by omega];omega)
 rw[show 2*k+1=(((2*k:Nat) : Int)+1).toNat from by omega] at z
 exact gK ((k+1),(L++[(((16*(bW (xs.getD (2*k) 0)))+(bW (xs.getD ((((2*k:Nat) : Int)+1)).toNat 0)))%256)]),Q,R) ⟨(ut y (ut (aI.mono (S':=(ob B++[])) o aD) T (am il aD)) (am (aU j lr) aD)),S,(by(try dsimp only);omega),z,(by(try dsimp only);simp only[bM];omega)⟩ (by omega)
 have H:=of_decide_eq_false n
 refine xt<|tx<|tx<|bx<|tn<|aB 3<|rt<|rr (.tuple #[.slice B L.length cq,vI 0])<|?_
 have hs:bT xs=some L:=pk hL (by omega)
 exact uM hs ⟨_,rfl,j,g⟩
open Go.RowKit
def gj (xs:List Int) : Bool:=decide (2≤((xs.length:Nat) : Int))&&decide (xs.drop (((xs.length:Nat) : Int)-2).toNat=[13,10])
def i1 (b:List Int) : Option (List Int):=if b.getD 0 0=58∧gj (b.drop 1)=true then some ((b.drop 1).take (b.length-3)) else none
theorem nk{xs:List Int}(h:gj xs=true) : 2≤xs.length:=by
  unfold gj at h
  simp only[Bool.and_eq_true,decide_eq_true_eq] at h
  omega
theorem ls{b s:List Int}(h:i1 b=some s) : b.getD 0 0=58∧gj (b.drop 1)=true∧s=(b.drop 1).take (b.length-3)∧3≤b.length:=by
  unfold i1 at h
  split at h
  · rename_i hc
    injection h with h
    have:=nk hc.2
    rw[List.length_drop] at this
    exact⟨hc.1,hc.2,h.symm,by omega⟩
  · cases h
theorem sU{b s:List Int}(h:i1 b=some s) : s.length=b.length-3:=by
  obtain⟨_,_,rfl,h3⟩:=ls h
  rw[List.length_take,List.length_drop]
  omega
def pX (xs:List Int)(w:World)(e:Ending)(w':World) : Prop:=match i1 xs with
  | some l=>e = .returned (.tuple #[.string (strOfNums l),.bool true])∧aI [] w w'
  | none=>∃ s,e = .returned (.tuple #[.string s,.bool false])∧aI [] w w'
theorem nD{xs:List Int}{w:World}(hr:dx xs)(hl:xs.length≤1048576) : Calls Tryz.prog 226 #[.string (strOfNums xs),.string ⟨#[13,10]⟩] w (bS (.bool (gj xs)) w):=by
 refine en 21 Tryz.func226 rfl<|aq 1<|aL 1<|L0<|Oe (vI (((strOfNums xs).size:Nat) : Int)) (vI (xs.length:Int)) (by rw[strOfNums_size])<|Pl 4<|bl 10 ((decide (2≤(xs.length:Int)))) (fun c=>?_) (fun c=>?_)
 have d:=of_decide_eq_true c
 refine Pl 2<|L1<|Oe (vI (((strOfNums xs).size:Nat) : Int)) (vI (xs.length:Int)) (by rw[strOfNums_size])<|Pl 2<|L1<|Oi ((xs.length:Int)-2)<|?_
 have e:dx (xs.drop (((xs.length:Int)-2)).toNat):=ld hr (((xs.length:Int)-2)).toNat
 refine L1<|gr (.string (strOfNums (xs.drop (((xs.length:Int)-2)).toNat))) (oY (xs:=xs) (k:=.i64) (i:=((xs.length:Int)-2)) (((xs.length:Int)-2)).toNat rfl Tryz.underlying9 (by kernel_rfl) (by kernel_rfl) (by omega) (by omega))<|Pl 1<|L1<|gr (.bool (decide ((xs.drop (((xs.length:Int)-2)).toNat)=[13,10]))) (fX (a:=(strOfNums (xs.drop (((xs.length:Int)-2)).toNat))) (b:=⟨#[13,10]⟩) rfl (by kernel_rfl) (by kernel_rfl) (AX (ys:=[13,10]) e (by decide)))<|ah 2<|rt<|rr (.bool (decide ((xs.drop (((xs.length:Int)-2)).toNat)=[13,10])))<|?_
 have hs:gj xs=(decide ((xs.drop (((xs.length:Int)-2)).toNat)=[13,10])):=by unfold gj;(try simp only[c,bi]);all_goals rfl
 rw[hs]
 exact⟨rfl,(aI.refl [] _)⟩
 have d:=of_decide_eq_false c
 refine ah 11<|rt<|rr (.bool false)<|?_
 have hs:gj xs=false:=by unfold gj;(try simp only[c,bi]);all_goals rfl
 rw[hs]
 exact⟨rfl,(aI.refl [] _)⟩
theorem wX{xs:List Int}{w:World}(hr:dx xs)(hl:xs.length≤1048576)(hq:gj xs=true) : Calls Tryz.prog 180 #[.string (strOfNums xs),.string ⟨#[13,10]⟩] w (bS (.tuple #[.string (strOfNums (xs.take ((xs.length:Int)-2).toNat)),.bool true]) w):=by
 have hq2:=nk hq
 refine en 18 Tryz.func180 rfl<|aB 2<|sq<|aq 2<|ay<|m1 (nD (xs:=xs) (w:=_) hr (by omega)) fun c a=>ah 1<|?_
 have b:(!(gj xs))=false:=by simp only[hq,Bool.not_true,Bool.not_false]
 refine cf b<|bu<|aq 2<|L0<|Oe (vI (((strOfNums xs).size:Nat) : Int)) (vI (xs.length:Int)) (by rw[strOfNums_size])<|Pl 2<|bp ((xs.length:Int)-2)<|?_
 have d:dx (xs.take (((xs.length:Int)-2)).toNat):=pg hr (((xs.length:Int)-2)).toNat
 exact L0<|gr (.string (strOfNums (xs.take (((xs.length:Int)-2)).toNat))) (wi (xs:=xs) (k:=.i64) (i:=((xs.length:Int)-2)) (((xs.length:Int)-2)).toNat rfl Tryz.underlying9 (by kernel_rfl) (by kernel_rfl) (by omega) (by omega))<|ah 2<|rt<|rr (.tuple #[.string (strOfNums (xs.take (((xs.length:Int)-2)).toNat)),.bool true])<|⟨rfl,a⟩
theorem yW{xs:List Int}{w:World}(hr:dx xs)(hl:xs.length≤1048576)(hq:gj xs=true) : Calls Tryz.prog 114 #[.string (strOfNums xs),.string ⟨#[13,10]⟩] w (bS (.tuple #[.string (strOfNums (xs.take ((xs.length:Int)-2).toNat)),.bool true]) w):=by
 exact en 11 Tryz.func114 rfl<|aq 2<|aL 2<|ay<|m1 (wX (xs:=xs) (w:=_) hr hl hq) fun b a=>ah 4<|rt<|rr (.tuple #[.string (strOfNums (xs.take ((xs.length:Int)-2).toNat)),.bool true])<|⟨rfl,a⟩
theorem ww{xs:List Int}{w:World}(hr:dx xs)(hl:xs.length≤1048576)(hq:gj xs=false) : Calls Tryz.prog 180 #[.string (strOfNums xs),.string ⟨#[13,10]⟩] w (bS (.tuple #[.string (strOfNums xs),.bool false]) w):=by
 refine en 18 Tryz.func180 rfl<|aB 2<|sq<|aq 2<|ay<|m1 (nD (xs:=xs) (w:=_) hr (by omega)) fun c a=>ah 1<|?_
 have b:(!(gj xs))=true:=by simp only[hq,Bool.not_true,Bool.not_false]
 exact ct b<|aB 3<|b6<|rr (.tuple #[.string (strOfNums xs),.bool false])<|⟨rfl,a⟩
theorem yy{xs:List Int}{w:World}(hr:dx xs)(hl:xs.length≤1048576)(hq:gj xs=false) : Calls Tryz.prog 114 #[.string (strOfNums xs),.string ⟨#[13,10]⟩] w (bS (.tuple #[.string (strOfNums xs),.bool false]) w):=by
 exact en 11 Tryz.func114 rfl<|aq 2<|aL 2<|ay<|m1 (ww (xs:=xs) (w:=_) hr hl hq) fun b a=>ah 4<|rt<|rr (.tuple #[.string (strOfNums xs),.bool false])<|⟨rfl,a⟩
theorem zS{b:List Int}(h:b.getD 0 0=58)(k:gj (b.drop 1)=true) : i1 b=some ((b.drop 1).take (b.length-3)):=if_pos ⟨h,k⟩
theorem BG{b:List Int}(h:¬ b.getD 0 0=58) : i1 b=none:=if_neg fun k=>h k.1
theorem Ay{b:List Int}(k:gj (b.drop 1)=false) : i1 b=none:=if_neg fun h=>by rw[k] at h;cases h.2
theorem Db{b l:List Int}{w w':World}{e:Ending}(h:i1 b=some l)(k:e = .returned (.tuple #[.string (strOfNums l),.bool true])∧aI [] w w') : pX b w e w':=by
  unfold pX
  rw[h]
  exact k
theorem xJ{b:List Int}{w w':World}{e:Ending}(h:i1 b=none)(k:∃ s,e = .returned (.tuple #[.string s,.bool false])∧aI [] w w') : pX b w e w':=by
  unfold pX
  rw[h]
  exact k
theorem mN{b:List Int}{w:World}(hr:dx b)(hl:b.length≤1048576)(h0:0<b.length) : Calls Tryz.prog 80 #[.string (strOfNums b)] w (pX b w):=by
 refine en 18 Tryz.func80 rfl<|aB 2<|sq<|aq 1<|L0<|Ey (sv:=strOfNums b) Tryz.underlying9 fun f m n o p=>nt<|bk<|je (fun x=>[(0,.string (strOfNums b)),(7,vP f 0)]) (fun(x:Unit) w'=>aI [] m w'∧(0≤0)) (fun x=>0) () ⟨aI.refl _ _,(by(try dsimp only);omega)⟩ ?_
 rintro z v ⟨g,q⟩
 refine gi [(0,.string (strOfNums b)),(7,vP f 0)] ?_
 have y:0≤0:=q
 refine sg<|?_
 refine L0<|Fo hr (by omega) (ub g o) fun r A h s=>ah 1<|sq<|c1<|bu<|bk<|aB 2<|sq<|aB 2<|?_
 have a:=ud p (uz g s) n
 refine cb ((r != 58)) (fun c=>?_) (fun c=>?_)
 have d:=aA c
 exact aB 2<|b6<|br<|tr<|br<|tr<|rr (.tuple #[.string ⟨#[]⟩,.bool false])<|xJ (BG fun e=>d (h.2 e)) ⟨_,rfl,a⟩
 have d:=aF c
 refine bu<|xt<|Fd<|tx<|bx<|tn<|aq 1<|?_
 have j:dx (b.drop 1):=ld hr 1
 refine L0<|gr (.string (strOfNums (b.drop 1))) (oY (xs:=b) (k:=.i64) (i:=1) 1 rfl Tryz.underlying9 (by kernel_rfl) (by kernel_rfl) rfl (by omega))<|?_
 rcases iD (gj (b.drop 1)) with hq|hq
 refine ay<|m1 (yW (xs:=(b.drop 1)) (w:=_) j (by rw[List.length_drop];omega) hq) fun B t=>ah 4<|rt<|rr (.tuple #[.string (strOfNums ((b.drop 1).take (((b.drop 1).length:Int)-2).toNat)),.bool true])<|?_
 exact Db (l:=(b.drop 1).take (b.length-3)) (zS (h.1 d) hq) ⟨by rw[show b.length-3=(((b.drop 1).length:Int)-2).toNat from by rw[List.length_drop];omega],(aJ a t)⟩
 refine ay<|m1 (yy (xs:=(b.drop 1)) (w:=_) j (by rw[List.length_drop];omega) hq) fun C u=>ah 4<|rt<|rr (.tuple #[.string (strOfNums (b.drop 1)),.bool false])<|?_
 exact xJ (Ay hq) ⟨_,rfl,(aJ a u)⟩
open Go.RowKit
theorem vx{b s:List Int}(hr:dx b)(h:i1 b=some s) : dx s:=by
  obtain⟨_,_,rfl,_⟩:=ls h
  exact pg (ld hr 1) _
theorem Bs{b l:List Int}{w:World}(h:i1 b=some l)(e:Ending)(w':World)(k:pX b w e w') : e = .returned (.tuple #[.string (strOfNums l),.bool true])∧aI [] w w':=by
  unfold pX at k
  rw[h] at k
  exact k
theorem BB{b:List Int}{w:World}(h:i1 b=none)(e:Ending)(w':World)(k:pX b w e w') : ∃ s,e = .returned (.tuple #[.string s,.bool false])∧aI [] w w':=by
  unfold pX at k
  rw[h] at k
  exact k
theorem sj{b l:List Int}{w:World}(h:bT b=some l)(e:Ending)(w':World)(k:hH b w e w') : ∃ v,e = .returned (.tuple #[v,.int .i64 0])∧eE w.heap.size w' v l∧aI [] w w':=by
  unfold hH at k
  rw[h] at k
  exact k
theorem sP{b:List Int}{w:World}(h:bT b=none)(e:Ending)(w':World)(k:hH b w e w') : e = .returned (.tuple #[.slice none 0 0,.int .i64 11])∧aI [] w w':=by
  unfold hH at k
  rw[h] at k
  exact k
def eL (x:List Int) : List Int:=(x.take (x.length-1)).drop 1
theorem kj(x:List Int) : eL x=(x.take (((x.length:Nat) : Int)-1).toNat).drop 1:=by
  unfold eL
  rw[show(((x.length:Nat) : Int)-1).toNat=x.length-1 from by omega]
def ew (dir:Int)(b:List Int) : cy × Int :=
  if dir != 0&&dir != 1 then (cy.zero,1)
  else if decide ((b.length:Int)<9) then (cy.zero,2)
  else if decide (513<(b.length:Int)) then (cy.zero,3)
  else match i1 b with
    | none=>(cy.zero,12)
    | some s=>match bT s with
      | none=>(cy.zero,11)
      | some x=>if !(eq x) then (cy.zero,10) else bU (x.getD 0 0) 0 (ci dir (eL x))
theorem t7{m:Md}{A:Option Addr}{cp:Nat}{b:List Int}{w:World}{dir:Int}(hsl0:aV m w (.slice A b.length cp) b)(hb:b.length≤1048576) :
    Calls Tryz.prog 56 #[vI dir,.slice A b.length cp] w (nO (ew dir b) w):=by
 have hln:(b.length:Int)≤1048576:=by omega
 have hr:dx b:=aV.range hsl0
 refine en 71 Tryz.func56 rfl<|sg<|aK #[vB 0,vW 0,vB 0,vB 0,vW 0,vW 0,vW 0,vW 0,vW 0,vW 0,vW 0,vW 0,vW 0,vW 0,nS,nS,nS,nS,vB 0,vB 0,vB 0,vB 0,vB 0,nS] fun bD X k d o=>ah 1<|sq<|bk<|aq 3<|cu 3 [14] 17 (((dir != 0)&&(dir != 1))) (fun K Y=>?_) ?_
 refine bl 14 ((dir != 0)) (fun F=>?_) (fun F=>?_)
 have ak:=aA F
 exact Pl 3<|ce Y (dir != 1) (by rw[F];rfl)
 have ak:=aF F
 exact Pl 3<|ce Y false (by rw[F];rfl)
 refine ah 1<|cb (((dir != 0)&&(dir != 1))) (fun f=>?_) (fun f=>?_)
 have Z:=(b7 f).1
 have a0:=(b7 f).2
 have bE:=aA Z
 have bF:=aA a0
 refine aq 1<|aG d #[vB 0,vW 0,vB 0,vB 0,vW 0,vW 0,vW 0,vW 0,vW 0,vW 0,vW 0,vW 0,vW 0,vW 0,nS,nS,nS,nS,vB 0,vB 0,vB 0,vB 0,vB 0,nS] fun bG al am=>ah 1<|rt<|br<|tr<|ck al (vI 1)<|?_
 have hs:ew dir b=(cy.zero,1):=by
   unfold ew
   (try simp only[f,Z,a0,bi,bU,reduceIte])
   all_goals rfl
 refine dH hs ?_
 exact cA (ud o am k)
 refine aB 4<|cb ((decide ((b.length:Int)<9))) (fun i=>?_) (fun i=>?_)
 have an:=of_decide_eq_true i
 refine aq 1<|aG d #[vB 0,vW 0,vB 0,vB 0,vW 0,vW 0,vW 0,vW 0,vW 0,vW 0,vW 0,vW 0,vW 0,vW 0,nS,nS,nS,nS,vB 0,vB 0,vB 0,vB 0,vB 0,nS] fun bH ao ap=>ah 1<|rt<|br<|tr<|ck ao (vI 2)<|?_
 have hs:ew dir b=(cy.zero,2):=by
   unfold ew
   (try simp only[f,i,bi,bU,reduceIte])
   all_goals rfl
 refine dH hs ?_
 exact cA (ud o ap k)
 have an:=of_decide_eq_false i
 refine aB 4<|cb ((decide (513<(b.length:Int)))) (fun j=>?_) (fun j=>?_)
 have ar:=of_decide_eq_true j
 refine aq 1<|aG d #[vB 0,vW 0,vB 0,vB 0,vW 0,vW 0,vW 0,vW 0,vW 0,vW 0,vW 0,vW 0,vW 0,vW 0,nS,nS,nS,nS,vB 0,vB 0,vB 0,vB 0,vB 0,nS] fun bI aw ax=>ah 1<|rt<|br<|tr<|ck aw (vI 3)<|?_
 have hs:ew dir b=(cy.zero,3):=by
   unfold ew
   (try simp only[f,i,j,bi,bU,reduceIte])
   all_goals rfl
 refine dH hs ?_
 exact cA (ud o ax k)
 have ar:=of_decide_eq_false j
 refine sk<|bn<|tn<|aq 1<|?_
 have Q:=aV.old hsl0 o
 refine L0<|gr (.string (strOfNums b)) (cJ (A:=A) (n:=b.length) (c:=cp) rfl (by kernel_rfl) Tryz.underlying27 Tryz.underlying5 Tryz.underlying9 Q)<|?_
 rcases hds:i1 b with _|sd
 have aC:=mN (w:=X) (aV.range Q) hb (by omega)
 have aD:=aC.mono (BB hds)
 refine ay (args:=#[.string (strOfNums b)])<|e1 aD fun bJ bK a1=>ah 5<|sq<|aB 2<|c1<|aq 1<|?_
 refine aG (ub a1 d) #[vB 0,vW 0,vB 0,vB 0,vW 0,vW 0,vW 0,vW 0,vW 0,vW 0,vW 0,vW 0,vW 0,vW 0,nS,nS,nS,nS,vB 0,vB 0,vB 0,vB 0,vB 0,nS] fun bL aI aL=>ah 1<|b6<|ck aI (vI 12)<|?_
 have hs:ew dir b=(cy.zero,12):=by
   unfold ew
   (try simp only[f,i,j,bi,bU,hds,reduceIte])
   all_goals rfl
 refine dH hs ?_
 exact cA (ud o (uz a1 aL) k)
 have hsl:=sU hds
 have hsd:dx sd:=vx hr hds
 have aN:=mN (w:=X) (aV.range Q) hb (by omega)
 have aP:=aN.mono (Bs hds)
 refine ay (args:=#[.string (strOfNums b)])<|m1 aP fun a2 l=>ah 5<|sq<|aB 2<|c0<|bu<|sq<|go<|Pl 1<|?_
 have a3:=aJ o l
 rcases hth:bT sd with _|x
 have aQ:=(oK (w:=a2) hsd (by omega)).mono (sP hth)
 refine ay<|m1 aQ fun bM a4=>ah 5<|sq<|aB 2<|c1<|aq 2<|?_
 refine aG (ub (aJ l a4) d) #[vB 0,vW 0,vB 0,vB 0,vW 0,vW 0,vW 0,vW 0,vW 0,vW 0,vW 0,vW 0,vW 0,vW 0,nS,nS,nS,nS,vB 0,vB 0,vB 0,vB 0,vB 0,nS] fun bN aR aS=>ah 1<|b6<|ck aR (vI 11)<|?_
 have hs:ew dir b=(cy.zero,11):=by
   unfold ew
   (try simp only[f,i,j,bi,bU,hds,hth,reduceIte])
   all_goals rfl
 refine dH hs ?_
 exact cA (ud a3 (uz a4 aS) k)
 have hxl:=lu hth
 have aT:=(oK (w:=a2) hsd (by omega)).mono (sj hth)
 refine ay<|dU aT fun R J bO S bP bQ a5=>ah 5<|sq<|aB 2<|c0<|bu<|sq<|aq 1<|ay (args:=#[.slice R x.length J])<|m1 (xh (S).rd) fun aU T=>ah 1<|?_
 have G:=aJ a5 T
 have a6:=aJ a3 G
 refine cb ((!(eq x))) (fun p=>?_) (fun p=>?_)
 have L:(eq x)=false:=by simpa using p
 refine aq 1<|?_
 refine aG (ub (aJ l G) d) #[vB 0,vW 0,vB 0,vB 0,vW 0,vW 0,vW 0,vW 0,vW 0,vW 0,vW 0,vW 0,vW 0,vW 0,nS,nS,nS,nS,vB 0,vB 0,vB 0,vB 0,vB 0,nS] fun bR aW aX=>ah 1<|b6<|ck aW (vI 10)<|?_
 have hs:ew dir b=(cy.zero,10):=by
   unfold ew
   (try simp only[f,i,j,p,L,bi,bU,hds,hth,reduceIte])
   all_goals rfl
 refine dH hs ?_
 exact cA (ud a6 aX k)
 have L:(eq x)=true:=by simpa using p
 refine bu<|aq 4<|bp ((x.length:Int)-1)<|ny (gl (P:=Tryz.prog) 27 5 1 Tryz.underlying27 rfl rfl R x.length J (lo:=1) (up:=((x.length:Int)-1)) 1 ((((x.length:Int)-1)).toNat) (by omega) (by omega) (by omega) (by omega) (by omega)) fun aY hrun79 aZ=>L0<|gr (.slice aY (((((x.length:Int)-1)).toNat)-1) (J-1)) (eW (kl:=.i64) (kh:=.i64) (lo:=1) (hi:=((x.length:Int)-1)) (A:=R) (n:=x.length) (c:=J) rfl Tryz.underlying27 (by kernel_rfl) (by kernel_rfl) (by kernel_rfl) (hrun79 _ _ _))<|?_
 obtain⟨a,H,U⟩ : ∃ M E,ci dir ((x.take ((((x.length:Int)-1)).toNat)).drop 1)=(M,E):=⟨_,_,rfl⟩
 have a7:=au S T (fun x hx=>aE) (fun _ _ h=>h)
 have a8:=lC (dir:=dir) (w:=aU) (aZ _ _ _ _ _ (a7).rd) (by rw[List.length_drop,List.length_take];omega)
 rw[U] at a8
 refine ay<|e2 a8 fun b0 bS a9 V=>?_
 have b1:=a9
 obtain⟨b2,b3,b4,b5,ba,bb,bc,bd,be,bf,bg,bV⟩:=b1
 obtain rfl:b0=(ez a b2 b3 b4 b5 ba).toArray:=by apply Array.toList_inj.1;simpa using bb
 obtain⟨q,r,rfl,_,_⟩:=bc.shape
 obtain⟨s,t,rfl,_,_⟩:=bd.shape
 obtain⟨u,v,rfl,_,_⟩:=be.shape
 obtain⟨y,z,rfl,_,_⟩:=bf.shape
 obtain⟨B,C,rfl,_,_⟩:=bg.shape
 refine Pl 3<|aK mZ fun ab bW ac bh bm=>aG bh (mG a.code a.fail a.addr a.count a.value a.and_ a.or_ a.addr2 a.sub a.status a.events a.messages (.slice q a.words.length r) (.slice s a.bits.length t) (.slice u a.data.length v) (.slice y a.recs.length z) a.mei a.kind a.level a.more a.next (.slice B a.objects.length C)) fun bX bo bq=>ah 1<|sq<|aB 2<|?_
 have ad:=ud bm bq ac
 have N:=aJ V ad
 have ae:=aJ a6 N
 refine cb ((H != 0)) (fun I=>?_) (fun I=>?_)
 have bs:=aA I
 refine aq 2<|?_
 refine aG (ub (aJ l (aJ G N)) d) #[vB 0,vW 0,vB 0,vB 0,vW 0,vW 0,vW 0,vW 0,vW 0,vW 0,vW 0,vW 0,vW 0,vW 0,nS,nS,nS,nS,vB 0,vB 0,vB 0,vB 0,vB 0,nS] fun bY bt bw=>ah 1<|b6<|ck bt (vI H)<|?_
 have hX2:ci dir (eL x)=(a,H):=(congrArg (ci dir) (kj x)).trans U
 have hs:ew dir b=(cy.zero,H):=by
   unfold ew
   (try simp only[f,i,j,p,L,I,bi,bU,hds,hth,hX2,reduceIte])
   all_goals rfl
 refine dH hs ?_
 exact cA (ud ae bw k)
 have bs:=aF I
 refine bu<|sq<|?_
 have af:=au a7 N (fun x hx=>aE) (fun _ _ h=>h)
 refine fo (aV.at_ (af).rd 0 (by omega)) fun bx bz ag bA bZ=>Rg 8 (fun w'=>w'.cell? ⟨bx,bz+0,none⟩=some (vB (x.getD 0 0))∧w'.heap[ab]? = some (.cells (mG a.code a.fail a.addr a.count a.value a.and_ a.or_ a.addr2 a.sub a.status a.events a.messages (.slice q a.words.length r) (.slice s a.bits.length t) (.slice u a.data.length v) (.slice y a.recs.length z) a.mei a.kind a.level a.more a.next (.slice B a.objects.length C)) 45 (0,0))) fun c2 O=>?_
 have ai:=ub O bo
 refine bv ⟨(uc O bA),ai⟩ fun D=>Rt 0 D<|m0 1 D x.length 0 0 rfl ag (by omega)<|Rl 2 D (fun _ hs=>hs.1)<|Rt 3 D<|Rr 4 D (.agg (mG a.code a.fail a.addr a.count a.value a.and_ a.or_ a.addr2 a.sub a.status a.events a.messages (.slice q a.words.length r) (.slice s a.bits.length t) (.slice u a.data.length v) (.slice y a.recs.length z) a.mei a.kind a.level a.more a.next (.slice B a.objects.length C))) (fun w' hs=>gS (g:=ab) (off:=0) [vB a.code,vB a.fail,vW a.addr,vW a.count,vW a.value,vW a.and_,vW a.or_,vW a.addr2,vW a.sub,vW a.status,vW a.events,vW a.messages,.slice q a.words.length r,.slice s a.bits.length t,.slice u a.data.length v,.slice y a.recs.length z,vB a.mei,vB a.kind,vB a.level,vB a.more,vB a.next,.slice B a.objects.length C] rfl (by kernel_rfl) hs.2 (by kernel_rfl) (by kernel_rfl) rfl)<|Rt 5 D<|?_
 refine R0 6 rfl<|mb (ub (aJ l (aJ G (aJ N O))) d) #[vB (x.getD 0 0),vW 0,vB a.code,vB a.fail,vW a.addr,vW a.count,vW a.value,vW a.and_,vW a.or_,vW a.addr2,vW a.sub,vW a.status,vW a.events,vW a.messages,.slice q a.words.length r,.slice s a.bits.length t,.slice u a.data.length v,.slice y a.recs.length z,vB a.mei,vB a.kind,vB a.level,vB a.more,vB a.next,.slice B a.objects.length C] fun c3 bB aj=>?_
 have W:=uz O aj
 refine bv ⟨(cB ((au af W (fun x hx=>(aa (fun e=>(aO (az d) l.size S) (e▸hx)) aE)) (fun _ _ h=>h))).rd ag 0 (by omega)),(bj aj (Ne.symm (nb (az d) (le (le (le l.size a5.size) T.size) V.size) ac)) ai)⟩ fun bC=>Rt 7 bC<|re<|tn<|rt<|ck bB (vI 0)<|?_
 have hX2:ci dir (eL x)=(a,H):=(congrArg (ci dir) (kj x)).trans U
 have hs:ew dir b=(⟨(x.getD 0 0),0,a⟩,0):=by
   unfold ew
   (try simp only[f,i,j,p,L,I,bi,bU,hds,hth,hX2,reduceIte])
   all_goals rfl
 refine dH hs ?_
 exact⟨_,rfl,⟨#[vB a.code,vB a.fail,vW a.addr,vW a.count,vW a.value,vW a.and_,vW a.or_,vW a.addr2,vW a.sub,vW a.status,vW a.events,vW a.messages,.slice q a.words.length r,.slice s a.bits.length t,.slice u a.data.length v,.slice y a.recs.length z,vB a.mei,vB a.kind,vB a.level,vB a.more,vB a.next,.slice B a.objects.length C],(by as_aux_lemma=>kernel_rfl),(aH.upd a9 (uz ad W) (av (b9 (ub (aJ l (aJ G V)) d) (by decide)) aM)),b8 (x:=(x.getD 0 0)) (by omega),cM (x:=0) (by omega)⟩,(ud ae W k)⟩
theorem xd{m:Md}{v:Value}{b:List Int}{w:World}{dir:Int}(h:aV m w v b)(hb:b.length≤1048576) : Calls Tryz.prog 56 #[.int .i64 dir,v] w (nO (ew dir b) w):=by
  obtain⟨A,cp,rfl,_,_⟩:=h.shape
  exact t7 h hb
open Go.RowKit
def nF (u:Int)(l:List Int) : List Int:=([58]++dh (([u]++l)++[cv ([u]++l)]))++[13,10]
def fT (dir u t:Int)(M:aS) : Option (List Int) :=
  match cZ dir M with
  | none=>none
  | some l=>if t != 0 then none else some (nF u l)
def mw (res:Option (List Int))(w:World)(e:Ending)(w':World) : Prop :=
  match res with
  | some l=>∃ v,e = .returned (.tuple #[v,.int .i64 0])∧i3 w.heap.size w' v l∧aI [] w w'
  | none=>e = .returned (.tuple #[.slice none 0 0,.int .i64 1])∧aI [] w w'
theorem um{x y:Option (List Int)}(h:x=y){w:World}{e:Ending}{w':World}(k:mw y w e w') : mw x w e w':=by rw[h];exact k
theorem i3.weaken{base base':Nat}{w:World}{v:Value}{xs:List Int}(h:i3 base w v xs)(k:base'≤base) : i3 base' w v xs:=by
  obtain⟨g,cap,cur,n,h1,h2,h3⟩:=h
  exact⟨g,cap,cur,n,h1,Nat.le_trans k h2,h3⟩
theorem jv(b:List Int) : 0≤cv b∧cv b<256:=by unfold cv;omega
theorem pl{m:Md}{cs:Array Value}{M:aS}{w:World}{dir u t:Int}(h:aH m w cs.toList M)(hf:bh M)(hu:B8 u)(ht:eR t) : Calls Tryz.prog 266 #[vI dir,.agg (#[vB u,vW t]++cs)] w (mw (fT dir u t M) w):=by
 have hM:=h
 obtain⟨hu1,hu2⟩:=hu
 obtain⟨ht1,ht2⟩:=ht
 refine fC h fun Aw kw Ab kb Ad kd Ar kr Ao ko e hw hbt hd hr ho _ _ _ _ _ _ _ _ _ _ q0 q1 q2 q3 q4 q5 q6 q7 q8 q9 W X Y Z a0 a1 a2=>?_
 subst e
 refine en 39 Tryz.func266 rfl<|sg<|L0<|cY #[vB u,vW t,vB M.code,vB M.fail,vW M.addr,vW M.count,vW M.value,vW M.and_,vW M.or_,vW M.addr2,vW M.sub,vW M.status,vW M.events,vW M.messages,.slice Aw M.words.length kw,.slice Ab M.bits.length kb,.slice Ad M.data.length kd,.slice Ar M.recs.length kr,vB M.mei,vB M.kind,vB M.level,vB M.more,vB M.next,.slice Ao M.objects.length ko] fun a3 a4 a5 o c=>Pl 2<|aL 2<|L0<|nZ o 2 22<|?_
 rcases hwr:cZ dir M with _|lw
 have p:=gn (dir:=dir) (aH.old hM c) hf
 rw[hwr] at p
 refine ay<|m1 p fun a6 C=>ah 5<|sq<|aB 8<|c1<|aq 2<|nl<|tn<|b6<|rr (.tuple #[nS,vI 1])<|?_
 exact cI (y:=none) (by unfold fT;(try simp only[hwr,bi,reduceIte])<;>rfl) ⟨rfl,(aJ c C)⟩
 have hlw:=ie hwr
 have q:=gn (dir:=dir) (aH.old hM c) hf
 rw[hwr] at q
 refine ay<|dU q fun a7 a8 a9 D aa ab k=>ah 5<|sq<|aq 5<|?_
 have r:=ub k o
 refine L1<|dQ r 1<|ah 2<|?_
 have s:=aJ c k
 refine cb ((t != 0)) (fun d=>?_) (fun d=>?_)
 have E:=aA d
 exact aB 2<|b6<|rr (.tuple #[nS,vI 1])<|cI (y:=none) (by unfold fT;(try simp only[hwr,d,bi,reduceIte])<;>rfl) ⟨rfl,s⟩
 have E:=aF d
 refine bu<|aq 2<|aC r 0<|L0<|cX (m:=1) (e:=5) #[vB u] fun F ac G H f=>?_
 have v:=cD G (xs:=[u]) (by as_aux_lemma=>kernel_rfl) (al (by omega) aP) (by(try simp only[List.length_cons,List.length_nil]);omega) H
 refine Pl 1<|?_
 refine L0<|bK be (xs:=([u])) (ys:=lw) (vB 0) 1 v ((au D f (fun x hx=>aE) (fun _ _ h=>h))).rd (by(try simp only[bM,ax]);omega) f.size fun g I ad l n=>Pl 1<|aL 2<|ay (args:=#[.slice g (([u]++lw).length) I])<|m1 (p8 (l).rd) fun ae i=>?_
 have af:=jv ([u]++lw)
 refine L0<|cX (m:=1) (e:=5) #[vB (cv ([u]++lw))] fun ag ai J K j=>?_
 have L:=cD J (xs:=[(cv ([u]++lw))]) (by as_aux_lemma=>kernel_rfl) (al (by omega) aP) (by(try simp only[List.length_cons,List.length_nil]);omega) K
 refine L0<|bK be (xs:=([u]++lw)) (ys:=([(cv ([u]++lw))])) (vB 0) 1 (au (au l i (fun x hx=>aE) (fun _ _ h=>h)) j (fun x hx=>aE) (fun _ _ h=>h)) (L).rd (by(try simp only[bM,ax]);omega) (le (le (le f.size n.size) i.size) j.size) fun N O aj z A=>ay (args:=#[.slice N ((([u]++lw)++[(cv ([u]++lw))]).length) O])<|m1 (xW (z).rd (by simp only[bM];omega)) fun ak B=>?_
 have P:dx (dh (([u]++lw)++[(cv ([u]++lw))])):=jB (aV.range (z).rd)
 have Q:dx ([58]++(dh (([u]++lw)++[(cv ([u]++lw))]))):=gz (by decide) P
 refine L0<|gr (.string (strOfNums ([58]++(dh (([u]++lw)++[(cv ([u]++lw))]))))) (jr (a:=⟨#[58]⟩) (b:=(strOfNums (dh (([u]++lw)++[(cv ([u]++lw))])))) (xs:=([58])) (ys:=(dh (([u]++lw)++[(cv ([u]++lw))]))) rfl (by kernel_rfl) (by kernel_rfl) rfl rfl (by simp only[dV,List.length_append,List.length_cons,List.length_nil];omega))<|?_
 have R:dx (([58]++(dh (([u]++lw)++[(cv ([u]++lw))])))++[13,10]):=gz Q (by decide)
 refine L0<|gr (.string (strOfNums (([58]++(dh (([u]++lw)++[(cv ([u]++lw))])))++[13,10]))) (jr (a:=(strOfNums ([58]++(dh (([u]++lw)++[(cv ([u]++lw))]))))) (b:=⟨#[13,10]⟩) (xs:=([58]++(dh (([u]++lw)++[(cv ([u]++lw))])))) (ys:=([13,10])) rfl (by kernel_rfl) (by kernel_rfl) rfl rfl (by simp only[dV,List.length_append,List.length_cons,List.length_nil];omega))<|L0<|EX (xs:=(([58]++(dh (([u]++lw)++[(cv ([u]++lw))])))++[13,10])) Tryz.underlying9 Tryz.underlying27 Tryz.underlying5 R (by simp only[dV,List.length_append,List.length_cons,List.length_nil];omega) fun S T an U V=>ah 2<|rt<|rr (.tuple #[.slice S ((([58]++(dh (([u]++lw)++[(cv ([u]++lw))])))++[13,10]).length) T,vI 0])<|?_
 exact cI (y:=(some (([58]++(dh (([u]++lw)++[(cv ([u]++lw))])))++[13,10]))) (by unfold fT;(try simp only[hwr,d,bi,reduceIte])<;>rfl) ⟨_,rfl,U.weaken (le (le (le (le (le (le (le c.size k.size) f.size) n.size) i.size) j.size) A.size) B.size),(aJ s (ut f (ut (aI.mono (S':=(ob (some ⟨F,0,none⟩)++(ob g++[]))) n (am il aD)) (ut (aI.mono (S':=(ob g++[])) i aD) (ut (aI.mono (S':=(ob g++[])) j aD) (aJ A (aJ B V)) (am il aD)) (am il aD)) (am il aD)) (am (aU v lr) (am (aU l lr) aD))))⟩
open Go.RowKit
theorem sL{m:Md}{v:Value}{b:List Int}{w:World}{dir:Int}{F:cy}{E:Int}(hX:ew dir b=(F,E))(h:aV m w v b)(hb:b.length≤1048576) : Calls Tryz.prog 56 #[.int .i64 dir,v] w (fun e w'=>∃ x,e = .returned (.tuple #[.agg (dC F.unit F.tid F.msg x),.int .i64 E])∧(aH true w' (f5 F.msg x).toList F.msg∧(0≤F.unit∧F.unit<256)∧(0≤F.tid∧F.tid<65536))∧aI [] w w'):=by
  refine(xd h hb).mono ?_
  rintro e w' ⟨cs,rfl,h1,h2⟩
  rw[hX] at h1 ⊢
  obtain⟨c,rfl,h3,h4,h5⟩:=h1
  obtain⟨x,rfl⟩:=nU h3
  exact⟨x,by rw[gZ],⟨h3,h4,h5⟩,h2⟩
theorem rT{m:Md}{x:SL}{M:aS}{w:World}{dir u t:Int}(hX:fT dir u t M=none)(h:aH m w (f5 M x).toList M)(hf:bh M)(hu:0≤u∧u<256)(ht:0≤t∧t<65536) : Calls Tryz.prog 266 #[.int .i64 dir,.agg (dC u t M x)] w (fun e w'=>e = .returned (.tuple #[.slice none 0 0,.int .i64 1])∧aI [] w w'):=by
  have:=pl (dir:=dir) h hf hu ht
  rw[hX] at this
  rw[gZ]
  exact this
theorem rX{m:Md}{x:SL}{M:aS}{w:World}{dir u t:Int}{l:List Int}(hX:fT dir u t M=some l)(h:aH m w (f5 M x).toList M)(hf:bh M)(hu:0≤u∧u<256)(ht:0≤t∧t<65536) : Calls Tryz.prog 266 #[.int .i64 dir,.agg (dC u t M x)] w (fun e w'=>∃ v,e = .returned (.tuple #[v,.int .i64 0])∧i3 w.heap.size w' v l∧aI [] w w'):=by
  have:=pl (dir:=dir) h hf hu ht
  rw[hX] at this
  rw[gZ]
  exact this
open Go.RowKit
def we (b:List Int) : ap:=⟨b,false,0⟩
def x9 (b:List Int) : ap:=(we b).wordsC 1
def v8 (b:List Int) : ap:=(x9 b).wordsC 1
def v4 (b:List Int) : ap:=(v8 b).wordsC 1
def xy (b:List Int) : ap:=(v4 b).bytesC 1
def lf (b:List Int) : List Int:=(xy b).bytesR (((xy b).l.length:Nat) : Int)
def de (dir:Int)(b:List Int) : cy × Int :=
  if dir != 0&&dir != 1 then (cy.zero,1)
  else if decide ((b.length:Int)<8) then (cy.zero,2)
  else if decide (260<(b.length:Int)) then (cy.zero,3)
  else if (x9 b).wordV != 0 then (cy.zero,13)
  else if (v8 b).wordV != (b.length:Int)-6 then (cy.zero,5)
  else bU (v4 b).byteV (we b).wordV (ci dir (lf b))
theorem qN{m:Md}{A:Option Addr}{cp:Nat}{b:List Int}{w:World}{dir:Int}(hsl:aV m w (.slice A b.length cp) b)(hb:b.length≤1048576) :
    Calls Tryz.prog 107 #[vI dir,.slice A b.length cp] w (nO (de dir b) w):=by
 have hln:(b.length:Int)≤1048576:=by omega
 refine en 75 Tryz.func107 rfl<|sg<|aK #[vB 0,vW 0,vB 0,vB 0,vW 0,vW 0,vW 0,vW 0,vW 0,vW 0,vW 0,vW 0,vW 0,vW 0,nS,nS,nS,nS,vB 0,vB 0,vB 0,vB 0,vB 0,nS] fun b5 ba g e i=>ah 1<|sq<|bk<|aq 3<|cu 3 [17] 20 (((dir != 0)&&(dir != 1))) (fun K N=>?_) ?_
 refine bl 17 ((dir != 0)) (fun o=>?_) (fun o=>?_)
 have Z:=aA o
 exact Pl 3<|ce N (dir != 1) (by rw[o];rfl)
 have Z:=aF o
 exact Pl 3<|ce N false (by rw[o];rfl)
 refine ah 1<|cb (((dir != 0)&&(dir != 1))) (fun c=>?_) (fun c=>?_)
 have O:=(b7 c).1
 have P:=(b7 c).2
 have bb:=aA O
 have bc:=aA P
 refine aq 1<|aG e #[vB 0,vW 0,vB 0,vB 0,vW 0,vW 0,vW 0,vW 0,vW 0,vW 0,vW 0,vW 0,vW 0,vW 0,nS,nS,nS,nS,vB 0,vB 0,vB 0,vB 0,vB 0,nS] fun bd a0 a1=>ah 1<|rt<|br<|tr<|ck a0 (vI 1)<|?_
 have hs:de dir b=(cy.zero,1):=by
   unfold de
   (try simp only[c,O,P,bi,bU,xy,v4,v8,x9,we,reduceIte])
   all_goals rfl
 refine dH hs ?_
 exact cA (ud i a1 g)
 refine aB 4<|cb ((decide ((b.length:Int)<8))) (fun d=>?_) (fun d=>?_)
 have a2:=of_decide_eq_true d
 refine aq 1<|aG e #[vB 0,vW 0,vB 0,vB 0,vW 0,vW 0,vW 0,vW 0,vW 0,vW 0,vW 0,vW 0,vW 0,vW 0,nS,nS,nS,nS,vB 0,vB 0,vB 0,vB 0,vB 0,nS] fun be a3 a4=>ah 1<|rt<|br<|tr<|ck a3 (vI 2)<|?_
 have hs:de dir b=(cy.zero,2):=by
   unfold de
   (try simp only[c,d,bi,bU,xy,v4,v8,x9,we,reduceIte])
   all_goals rfl
 refine dH hs ?_
 exact cA (ud i a4 g)
 have a2:=of_decide_eq_false d
 refine aB 4<|cb ((decide (260<(b.length:Int)))) (fun f=>?_) (fun f=>?_)
 have a5:=of_decide_eq_true f
 refine aq 1<|aG e #[vB 0,vW 0,vB 0,vB 0,vW 0,vW 0,vW 0,vW 0,vW 0,vW 0,vW 0,vW 0,vW 0,vW 0,nS,nS,nS,nS,vB 0,vB 0,vB 0,vB 0,vB 0,nS] fun bf a6 a7=>ah 1<|rt<|br<|tr<|ck a6 (vI 3)<|?_
 have hs:de dir b=(cy.zero,3):=by
   unfold de
   (try simp only[c,d,f,bi,bU,xy,v4,v8,x9,we,reduceIte])
   all_goals rfl
 refine dH hs ?_
 exact cA (ud i a7 g)
 have a5:=of_decide_eq_false f
 refine sk<|bn<|tn<|aq 1<|?_
 refine ay<|e3 (er (aV.old hsl i) (by omega)) fun u bg p a8 a9=>Pl 1<|aL 1<|aL 2<|L0<|i8 #[] #[] (args:=#[vP u 0])<|m3 (bZ a8) fun bh aa ac bj=>Pl 2<|L0<|i8 #[] #[] (args:=#[vP u 0])<|m3 (bZ aa) fun bm ad ae bo=>?_
 refine ab ad fun x46 s af=>?_
 refine Pl 2<|L0<|i8 #[] #[] (args:=#[vP u 0])<|m3 (bZ af) fun bq ag ai bs=>ah 3<|sq<|bk<|aB 3<|?_
 have j:=ud a9 (u1 ac (u1 ae ai im) im) p
 have v:=aJ i j
 refine cb (((((ap.mk b false 0).wordsC 1).wordV)!=0)) (fun h=>?_) (fun h=>?_)
 have ak:=aA h
 refine aq 1<|?_
 refine aG (ub j e) #[vB 0,vW 0,vB 0,vB 0,vW 0,vW 0,vW 0,vW 0,vW 0,vW 0,vW 0,vW 0,vW 0,vW 0,nS,nS,nS,nS,vB 0,vB 0,vB 0,vB 0,vB 0,nS] fun bt al am=>ah 1<|rt<|br<|tr<|ck al (vI 13)<|?_
 subst s
 have hs:de dir b=(cy.zero,13):=by
   unfold de
   (try simp only[c,d,f,h,bi,bU,xy,v4,v8,x9,we,reduceIte])
   all_goals rfl
 refine dH hs ?_
 exact cA (ud v am g)
 have ak:=aF h
 refine aq 1<|bp x46.wordV<|Pl 2<|bp ((b.length:Int)-6)<|ah 2<|cb ((x46.wordV != ((b.length:Int)-6))) (fun k=>?_) (fun k=>?_)
 have an:=aA k
 refine aq 1<|?_
 refine aG (ub j e) #[vB 0,vW 0,vB 0,vB 0,vW 0,vW 0,vW 0,vW 0,vW 0,vW 0,vW 0,vW 0,vW 0,vW 0,nS,nS,nS,nS,vB 0,vB 0,vB 0,vB 0,vB 0,nS] fun bv ao ar=>ah 1<|rt<|br<|tr<|ck ao (vI 5)<|?_
 subst s
 have hs:de dir b=(cy.zero,5):=by
   unfold de
   (try simp only[c,d,f,h,k,bi,bU,xy,v4,v8,x9,we,reduceIte])
   all_goals rfl
 refine dH hs ?_
 exact cA (ud v ar g)
 have an:=aF k
 refine sk<|bn<|tn<|aq 1<|ay<|m3 (bX ag) fun bw t Q bx=>Pl 1<|aL 3<|ay<|mq (eO t)<|?_
 have bz:=aj.len t
 refine ay<|vD (cK (n:=((((x46.wordsC 1).bytesC 1).l.length:Nat) : Int)) t) fun bA bB au aw bC bD ax R=>?_
 have bE:=Nat.le_trans (ap.bytesR_le ((x46.wordsC 1).bytesC 1) ((((x46.wordsC 1).bytesC 1).l.length:Nat) : Int)) (aj.len t)
 refine ab ax fun x80 S bF=>?_
 obtain⟨a,q,x⟩ : ∃ M E,ci dir (((x46.wordsC 1).bytesC 1).bytesR ((((x46.wordsC 1).bytesC 1).l.length:Nat) : Int))=(M,E):=⟨_,_,rfl⟩
 have T:=lC (dir:=dir) (w:=au) aw (by omega)
 rw[x] at T
 refine ay<|e2 T fun az bG U V=>?_
 have aC:=U
 obtain⟨aD,aE,aI,aN,aO,aP,aQ,aR,aS,aT,aU,bH⟩:=aC
 obtain rfl:az=(ez a aD aE aI aN aO).toArray:=by apply Array.toList_inj.1;simpa using aP
 obtain⟨y,z,rfl,_,_⟩:=aQ.shape
 obtain⟨B,C,rfl,_,_⟩:=aR.shape
 obtain⟨D,F,rfl,_,_⟩:=aS.shape
 obtain⟨G,H,rfl,_,_⟩:=aT.shape
 obtain⟨I,J,rfl,_,_⟩:=aU.shape
 refine Pl 3<|aK mZ fun bI bJ aW aX aY=>aG aX (mG a.code a.fail a.addr a.count a.value a.and_ a.or_ a.addr2 a.sub a.status a.events a.messages (.slice y a.words.length z) (.slice B a.bits.length C) (.slice D a.data.length F) (.slice G a.recs.length H) a.mei a.kind a.level a.more a.next (.slice I a.objects.length J)) fun bK aZ b0=>ah 1<|sq<|aB 2<|?_
 have W:=ud aY b0 aW
 have L:=u1 Q (aJ R (aJ V W)) im
 have X:=ud v L (le i.size p)
 refine cb ((q != 0)) (fun r=>?_) (fun r=>?_)
 have b1:=aA r
 refine aq 2<|?_
 refine aG (ub (ud j L p) e) #[vB 0,vW 0,vB 0,vB 0,vW 0,vW 0,vW 0,vW 0,vW 0,vW 0,vW 0,vW 0,vW 0,vW 0,nS,nS,nS,nS,vB 0,vB 0,vB 0,vB 0,vB 0,nS] fun bL b2 b3=>ah 1<|b6<|ck b2 (vI q)<|?_
 subst S s
 have hX2:ci dir (lf b)=(a,q):=x
 have hs:de dir b=(cy.zero,q):=by
   unfold de
   (try simp only[c,d,f,h,k,r,bi,bU,xy,v4,v8,x9,we,hX2,reduceIte])
   all_goals rfl
 refine dH hs ?_
 exact cA (ud X b3 g)
 have b1:=aF r
 refine bu<|aq 3<|L0<|cm aZ<|Pl 1<|?_
 refine aG (ub (ud j L p) e) #[vB ((x46.wordsC 1).byteV),vW ((ap.mk b false 0).wordV),vB a.code,vB a.fail,vW a.addr,vW a.count,vW a.value,vW a.and_,vW a.or_,vW a.addr2,vW a.sub,vW a.status,vW a.events,vW a.messages,.slice y a.words.length z,.slice B a.bits.length C,.slice D a.data.length F,.slice G a.recs.length H,vB a.mei,vB a.kind,vB a.level,vB a.more,vB a.next,.slice I a.objects.length J] fun bM b4 Y=>ah 1<|rt<|ck b4 (vI 0)<|?_
 subst S s
 have hX2:ci dir (lf b)=(a,q):=x
 have hs:de dir b=(⟨((((ap.mk b false 0).wordsC 1).wordsC 1).wordsC 1).byteV,(ap.mk b false 0).wordV,a⟩,0):=by
   unfold de
   (try simp only[c,d,f,h,k,r,bi,bU,xy,v4,v8,x9,we,hX2,reduceIte])
   all_goals rfl
 refine dH hs ?_
 exact⟨_,rfl,⟨#[vB a.code,vB a.fail,vW a.addr,vW a.count,vW a.value,vW a.and_,vW a.or_,vW a.addr2,vW a.sub,vW a.status,vW a.events,vW a.messages,.slice y a.words.length z,.slice B a.bits.length C,.slice D a.data.length F,.slice G a.recs.length H,vB a.mei,vB a.kind,vB a.level,vB a.more,vB a.next,.slice I a.objects.length J],(by as_aux_lemma=>kernel_rfl),(aH.upd U (uz W Y) (av (b9 (ub (ud j (u1 Q (aJ R V) im) p) e) (by decide)) aM)),b8 (by omega),cM (by omega)⟩,(ud X Y g)⟩
theorem uk{m:Md}{v:Value}{b:List Int}{w:World}{dir:Int}(h:aV m w v b)(hb:b.length≤1048576) : Calls Tryz.prog 107 #[.int .i64 dir,v] w (nO (de dir b) w):=by
  obtain⟨A,cp,rfl,_,_⟩:=h.shape
  exact qN h hb
open Go.RowKit
def ey (dir u t:Int)(M:aS) : Option (List Int) :=
  match cZ dir M with
  | none=>none
  | some l=>some ((aN [t,0,((l.length:Int)+1)%65536]++[u])++l)
theorem mM{m:Md}{cs:Array Value}{M:aS}{w:World}{dir u t:Int}(h:aH m w cs.toList M)(hf:bh M)(hu:B8 u)(ht:eR t) : Calls Tryz.prog 275 #[vI dir,.agg (#[vB u,vW t]++cs)] w (dT (ey dir u t M) w):=by
 have hM:=h
 obtain⟨hu1,hu2⟩:=hu
 obtain⟨ht1,ht2⟩:=ht
 refine fC h fun Aw kw Ab kb Ad kd Ar kr Ao ko e hw hbt hd hr ho _ _ _ _ _ _ _ _ _ _ q0 q1 q2 q3 q4 q5 q6 q7 q8 q9 J K L N O P Q=>?_
 subst e
 refine en 35 Tryz.func275 rfl<|sg<|L0<|cY #[vB u,vW t,vB M.code,vB M.fail,vW M.addr,vW M.count,vW M.value,vW M.and_,vW M.or_,vW M.addr2,vW M.sub,vW M.status,vW M.events,vW M.messages,.slice Aw M.words.length kw,.slice Ab M.bits.length kb,.slice Ad M.data.length kd,.slice Ar M.recs.length kr,vB M.mei,vB M.kind,vB M.level,vB M.more,vB M.next,.slice Ao M.objects.length ko] fun R S T g a=>Pl 2<|aL 2<|L0<|nZ g 2 22<|?_
 rcases hwr:cZ dir M with _|lw
 have i:=gn (dir:=dir) (aH.old hM a) hf
 rw[hwr] at i
 refine ay<|m1 i fun U r=>ah 5<|sq<|aB 2<|c1<|aq 2<|nl<|tn<|b6<|rr (.tuple #[nS,vI 1])<|?_
 exact cI (y:=none) (by unfold ey;(try simp only[hwr])<;>rfl) ⟨rfl,(aJ a r)⟩
 have hlw:=ie hwr
 have j:=gn (dir:=dir) (aH.old hM a) hf
 rw[hwr] at j
 refine ay<|dU j fun V W X s Y Z d=>ah 5<|sq<|aB 2<|c0<|bu<|sq<|go<|Pl 2<|?_
 have k:=ub d g
 refine aC k 1<|Pl 2<|bp ((lw.length:Int)+1)<|Pl 1<|L0<|cX (m:=3) (e:=37) #[vW t,vW 0,vW (((lw.length:Int)+1)%65536)] fun a0 a1 v z b=>?_
 have A:=eH v (xs:=[t,0,(((lw.length:Int)+1)%65536)]) (by as_aux_lemma=>kernel_rfl) (al (by omega) (al (by omega) (al (by omega) aP))) (by(try simp only[List.length_cons,List.length_nil]);omega) z
 refine ay<|dU (cR (xs:=[t,0,(((lw.length:Int)+1)%65536)]) (A).rd (by(try simp only[List.length_cons,List.length_nil]);omega)) fun B a2 a3 l a4 a5 f=>Pl 1<|aL 3<|?_
 have n:=aJ b f
 refine aC (ub n k) 0<|L0<|cX (m:=1) (e:=5) #[vB u] fun a6 a7 C D c=>?_
 have E:=cD C (xs:=[u]) (by as_aux_lemma=>kernel_rfl) (al (by omega) aP) (by(try simp only[List.length_cons,List.length_nil]);omega) D
 refine L0<|bK be (xs:=(aN ([t,0,(((lw.length:Int)+1)%65536)]))) (ys:=([u])) (vB 0) 1 (au l c (fun x hx=>aE) (fun _ _ h=>h)) (E).rd (by(try simp only[bM,ax]);omega) (le f.size c.size) fun a8 a9 aa o p=>Pl 1<|?_
 have q:=ut n (ut (aI.mono (S':=(ob B++[])) c aD) p (am il aD)) (am (aU l b.size) aD)
 refine L0<|bK be (xs:=((aN ([t,0,(((lw.length:Int)+1)%65536)]))++[u])) (ys:=lw) (vB 0) 1 o ((au s q (fun x hx=>aE) (fun _ _ h=>h))).rd (by(try simp only[bM,ax]);omega) (le (le f.size c.size) p.size) fun F G ab H I=>ah 2<|rt<|rr (.tuple #[.slice F ((((aN ([t,0,(((lw.length:Int)+1)%65536)]))++[u])++lw).length) G,vI 0])<|?_
 exact cI (y:=(some (((aN ([t,0,(((lw.length:Int)+1)%65536)]))++[u])++lw))) (by unfold ey;(try simp only[hwr])<;>rfl) ⟨_,rfl,(aZ.weaken H (le (le a.size d.size) b.size)),(aJ a (aJ d (ut q I (am (aU o b.size) aD))))⟩
open Go.RowKit
theorem qn{m:Md}{v:Value}{b:List Int}{w:World}{dir:Int}{F:cy}{E:Int}(hX:de dir b=(F,E))(h:aV m w v b)(hb:b.length≤1048576) : Calls Tryz.prog 107 #[.int .i64 dir,v] w (fun e w'=>∃ x,e = .returned (.tuple #[.agg (dC F.unit F.tid F.msg x),.int .i64 E])∧(aH true w' (f5 F.msg x).toList F.msg∧(0≤F.unit∧F.unit<256)∧(0≤F.tid∧F.tid<65536))∧aI [] w w'):=by
  refine(uk h hb).mono ?_
  rintro e w' ⟨cs,rfl,h1,h2⟩
  rw[hX] at h1 ⊢
  obtain⟨c,rfl,h3,h4,h5⟩:=h1
  obtain⟨x,rfl⟩:=nU h3
  exact⟨x,by rw[gZ],⟨h3,h4,h5⟩,h2⟩
theorem pL{m:Md}{x:SL}{M:aS}{w:World}{dir u t:Int}(hX:ey dir u t M=none)(h:aH m w (f5 M x).toList M)(hf:bh M)(hu:0≤u∧u<256)(ht:0≤t∧t<65536) : Calls Tryz.prog 275 #[.int .i64 dir,.agg (dC u t M x)] w (fun e w'=>e = .returned (.tuple #[.slice none 0 0,.int .i64 1])∧aI [] w w'):=by
  have:=mM (dir:=dir) h hf hu ht
  rw[hX] at this
  rw[gZ]
  exact this
theorem qD{m:Md}{x:SL}{M:aS}{w:World}{dir u t:Int}{l:List Int}(hX:ey dir u t M=some l)(h:aH m w (f5 M x).toList M)(hf:bh M)(hu:0≤u∧u<256)(ht:0≤t∧t<65536) : Calls Tryz.prog 275 #[.int .i64 dir,.agg (dC u t M x)] w (fun e w'=>∃ v,e = .returned (.tuple #[v,.int .i64 0])∧eE w.heap.size w' v l∧aI [] w w'):=by
  have:=mM (dir:=dir) h hf hu ht
  rw[hX] at this
  rw[gZ]
  exact this
open Go.RowKit
def ja (k dir:Int)(b:List Int) : cy × Int:=bif k==0 then e8 dir b else bif k==1 then ew dir b else bif k==2 then de dir b else (cy.zero,1)
def gy (k dir u t:Int)(M:aS) : Option (List Int):=bif k==0 then fL dir u t M else bif k==1 then fT dir u t M else bif k==2 then ey dir u t M else none
def ku (k:Int) : Int:=bif k==0 then 256 else bif k==1 then 513 else bif k==2 then 260 else 0
theorem k4{C:Prop}(k:Int)(h0:k=0→C)(h1:k=1→C)(h2:k=2→C)(h3:(k==0)=false→(k==1)=false→(k==2)=false→C) : C:=by
  cases e0:k==0
  · cases e1:k==1
    · cases e2:k==2
      · exact h3 e0 e1 e2
      · exact h2 (by simpa using e2)
    · exact h1 (by simpa using e1)
  · exact h0 (by simpa using e0)
theorem zY{k dir:Int}{b:List Int}(h0:(k==0)=false)(h1:(k==1)=false)(h2:(k==2)=false) : ja k dir b=(cy.zero,1):=by unfold ja;rw[h0,h1,h2];rfl
theorem xE{k dir u t:Int}{M:aS}(h0:(k==0)=false)(h1:(k==1)=false)(h2:(k==2)=false) : gy k dir u t M=none:=by unfold gy;rw[h0,h1,h2];rfl
theorem xF{k:Int}(h0:(k==0)=false)(h1:(k==1)=false)(h2:(k==2)=false) : ku k=0:=by unfold ku;rw[h0,h1,h2];rfl
def f9 (base:Nat)(w:World)(v:Value)(xs:List Int) : Prop:=aV true w v xs∧∃ A n c,v = .slice A n c∧∀ x,x∈ob A→base≤x
theorem f9.wk{base base':Nat}{w:World}{v:Value}{xs:List Int}(h:f9 base w v xs)(k:base'≤base) : f9 base' w v xs:=by
  obtain⟨h1,A,n,c,h2,h3⟩:=h
  exact⟨h1,A,n,c,h2,fun x hx=>Nat.le_trans k (h3 x hx)⟩
def WR (res:Option (List Int))(base:Nat)(w:World)(v:Value)(n:Int) : Prop:=match res with
  | some l=>n=0∧f9 base w v l
  | none=>n=1∧v = .slice none 0 0
theorem WR.wk{res:Option (List Int)}{base base':Nat}{w:World}{v:Value}{n:Int}(h:WR res base w v n)(k:base'≤base) : WR res base' w v n:=by
  cases res with
  | none=>exact h
  | some l=>exact⟨h.1,h.2.wk k⟩
def sY (res:Option (List Int))(w:World)(e:Ending)(w':World) : Prop:=∃ v n,e = .returned (.tuple #[v,.int .i64 n])∧WR res w.heap.size w' v n∧aI [] w w'
theorem f9.of{base:Nat}{w:World}{v:Value}{xs:List Int}(h:eE base w v xs) : f9 base w v xs:=by
  obtain⟨A,c,rfl,_,_⟩:=h.rd.shape
  exact⟨h.rd,A,_,c,rfl,uU h⟩
theorem f9.ofF{base:Nat}{w:World}{v:Value}{xs:List Int}(h:i3 base w v xs) : f9 base w v xs:=by
  obtain⟨b,c,rfl⟩:=h.shape
  exact⟨h.rd,_,_,c,rfl,fun x hx=>by simp[ob] at hx;subst hx;exact h.ge⟩
theorem qj{w:World}:Calls Tryz.prog 59 #[vI 0] w (bS (.iface 133 (.agg #[])) w):=by
 exact en 18 Tryz.func59 rfl<|aB 1<|sq<|aB 1<|bk<|sq<|go<|ah 2<|c1<|aB 3<|rt<|br<|tr<|rr (.iface 133 (.agg #[]))<|⟨rfl,(aI.refl [] _)⟩
theorem qJ{w:World}:Calls Tryz.prog 59 #[vI 1] w (bS (.iface 134 (.agg #[])) w):=by
 exact en 18 Tryz.func59 rfl<|aB 1<|sq<|aB 1<|bk<|sq<|go<|ah 2<|c0<|aB 2<|c1<|aq 3<|nl<|tn<|rt<|br<|tr<|rr (.iface 134 (.agg #[]))<|⟨rfl,(aI.refl [] _)⟩
theorem pN{w:World}:Calls Tryz.prog 59 #[vI 2] w (bS (.iface 135 (.agg #[])) w):=by
 exact en 18 Tryz.func59 rfl<|aB 1<|sq<|aB 1<|bk<|sq<|go<|ah 2<|c0<|aB 2<|c0<|aq 2<|nl<|tn<|c1<|aB 3<|rt<|br<|tr<|rr (.iface 135 (.agg #[]))<|⟨rfl,(aI.refl [] _)⟩
theorem qm{w:World}{k:Int}(h0:(k==0)=false)(h1:(k==1)=false)(h2:(k==2)=false) : Calls Tryz.prog 59 #[vI k] w (bS (.iface 136 (.agg #[])) w):=by
 exact en 18 Tryz.func59 rfl<|aB 1<|sq<|aB 1<|bk<|sq<|go<|ah 2<|cf h0<|aB 2<|cf h1<|aq 2<|nl<|tn<|cf h2<|sk<|bn<|tn<|aB 3<|rt<|rr (.iface 136 (.agg #[]))<|⟨rfl,(aI.refl [] _)⟩
theorem Bz{w:World}:Calls Tryz.prog 259 #[.agg #[]] w (bS (vI 256) w):=by
 exact en 3 Tryz.func259 rfl<|sg<|L0<|cY #[] fun b c d e a=>Pl 1<|dk 1<|rt<|rr (vI 256)<|⟨rfl,a⟩
theorem xj{w:World}:Calls Tryz.prog 58 #[vI 0] w (bS (vI 256) w):=by
 refine en 6 Tryz.func58 rfl<|aq 1<|aL 1<|ay<|m1 (qj) fun c a=>L0<|xB (f:=259) (args:=#[.agg #[]]) 133 (.agg #[]) (.agg #[])<|m1 (@Bz _) fun d b=>ah 1<|rt<|rr (vI 256)<|?_
 exact⟨rfl,(aJ a b)⟩
theorem AR{w:World}:Calls Tryz.prog 263 #[.agg #[]] w (bS (vI 513) w):=by
 exact en 3 Tryz.func263 rfl<|sg<|L0<|cY #[] fun b c d e a=>Pl 1<|dk 1<|rt<|rr (vI 513)<|⟨rfl,a⟩
theorem wa{w:World}:Calls Tryz.prog 58 #[vI 1] w (bS (vI 513) w):=by
 refine en 6 Tryz.func58 rfl<|aq 1<|aL 1<|ay<|m1 (qJ) fun c a=>L0<|xB (f:=263) (args:=#[.agg #[]]) 134 (.agg #[]) (.agg #[])<|m1 (@AR _) fun d b=>ah 1<|rt<|rr (vI 513)<|?_
 exact⟨rfl,(aJ a b)⟩
theorem Bq{w:World}:Calls Tryz.prog 272 #[.agg #[]] w (bS (vI 260) w):=by
 exact en 3 Tryz.func272 rfl<|sg<|L0<|cY #[] fun b c d e a=>Pl 1<|dk 1<|rt<|rr (vI 260)<|⟨rfl,a⟩
theorem wJ{w:World}:Calls Tryz.prog 58 #[vI 2] w (bS (vI 260) w):=by
 refine en 6 Tryz.func58 rfl<|aq 1<|aL 1<|ay<|m1 (pN) fun c a=>L0<|xB (f:=272) (args:=#[.agg #[]]) 135 (.agg #[]) (.agg #[])<|m1 (@Bq _) fun d b=>ah 1<|rt<|rr (vI 260)<|?_
 exact⟨rfl,(aJ a b)⟩
theorem BT{w:World}:Calls Tryz.prog 276 #[.agg #[]] w (bS (vI 0) w):=by
 exact en 3 Tryz.func276 rfl<|sg<|L0<|cY #[] fun b c d e a=>Pl 1<|dk 1<|rt<|rr (vI 0)<|⟨rfl,a⟩
theorem wU{w:World}{k:Int}(h0:(k==0)=false)(h1:(k==1)=false)(h2:(k==2)=false) : Calls Tryz.prog 58 #[vI k] w (bS (vI 0) w):=by
 refine en 6 Tryz.func58 rfl<|aq 1<|aL 1<|ay<|m1 (qm h0 h1 h2) fun c a=>L0<|xB (f:=276) (args:=#[.agg #[]]) 136 (.agg #[]) (.agg #[])<|m1 (@BT _) fun d b=>ah 1<|rt<|rr (vI 0)<|?_
 exact⟨rfl,(aJ a b)⟩
theorem nn{w:World}{k:Int}:Calls Tryz.prog 58 #[.int .i64 k] w (bS (.int .i64 (ku k)) w):=by
  refine k4 k (fun h=>?_) (fun h=>?_) (fun h=>?_) (fun h0 h1 h2=>?_)
  · subst h;exact xj
  · subst h;exact wa
  · subst h;exact wJ
  · rw[xF h0 h1 h2];exact wU h0 h1 h2
theorem BU{m:Md}{A:Option Addr}{cp:Nat}{b:List Int}{w:World}{dir:Int}{F:cy}{E:Int}(hX:e8 dir b=(F,E))(hsl:aV m w (.slice A b.length cp) b)(hb:b.length≤1048576) : Calls Tryz.prog 260 #[.agg #[],vI dir,.slice A b.length cp] w (fun e w'=>∃ x,e = .returned (.tuple #[.agg (dC F.unit F.tid F.msg x),vI E])∧(aH true w' (f5 F.msg x).toList F.msg∧(0≤F.unit∧F.unit<256)∧(0≤F.tid∧F.tid<65536))∧aI [] w w'):=by
 refine en 13 Tryz.func260 rfl<|sg<|L0<|cY #[] fun q r s t a=>aK kP fun u v h i j=>Pl 1<|aL 2<|?_
 have c:=aJ a j
 refine ay<|e2 (rQ hX (aV.old hsl c) hb) fun x20 y k d=>?_
 obtain⟨l,n,o⟩:=k
 refine Pl 2<|?_
 have f:=ub d i
 refine aG f (dC F.unit F.tid F.msg x20) fun z p g=>ah 1<|rt<|ck p (vI E)<|?_
 exact⟨x20,rfl,⟨(aH.upd l g (av (b9 f (by decide)) aM)),n,o⟩,(ud c (uz d g) (le a.size h))⟩
theorem td{m:Md}{A:Option Addr}{cp:Nat}{b:List Int}{w:World}{dir:Int}{F:cy}{E:Int}(hX:e8 dir b=(F,E))(hsl:aV m w (.slice A b.length cp) b)(hb:b.length≤1048576) : Calls Tryz.prog 50 #[vI 0,vI dir,.slice A b.length cp] w (fun e w'=>∃ x,e = .returned (.tuple #[.agg (dC F.unit F.tid F.msg x),vI E])∧(aH true w' (f5 F.msg x).toList F.msg∧(0≤F.unit∧F.unit<256)∧(0≤F.tid∧F.tid<65536))∧aI [] w w'):=by
 refine en 15 Tryz.func50 rfl<|sg<|aK kP fun r s i j k=>Pl 1<|aL 1<|ay<|m1 (qj) fun t a=>Pl 2<|?_
 have c:=aJ k a
 refine L0<|xB (f:=260) (args:=#[.agg #[],vI dir,.slice A b.length cp]) 133 (.agg #[]) (.agg #[])<|e2 (BU hX (aV.old hsl c) hb) fun x17 u l d=>?_
 obtain⟨n,o,p⟩:=l
 refine Pl 2<|?_
 have g:=ub (aJ a d) j
 refine aG g (dC F.unit F.tid F.msg x17) fun v q h=>ah 1<|rt<|ck q (vI E)<|?_
 exact⟨x17,rfl,⟨(aH.upd n h (av (b9 g (by decide)) aM)),o,p⟩,(ud c (uz d h) i)⟩
theorem BK{m:Md}{A:Option Addr}{cp:Nat}{b:List Int}{w:World}{dir:Int}{F:cy}{E:Int}(hX:ew dir b=(F,E))(hsl:aV m w (.slice A b.length cp) b)(hb:b.length≤1048576) : Calls Tryz.prog 264 #[.agg #[],vI dir,.slice A b.length cp] w (fun e w'=>∃ x,e = .returned (.tuple #[.agg (dC F.unit F.tid F.msg x),vI E])∧(aH true w' (f5 F.msg x).toList F.msg∧(0≤F.unit∧F.unit<256)∧(0≤F.tid∧F.tid<65536))∧aI [] w w'):=by
 refine en 13 Tryz.func264 rfl<|sg<|L0<|cY #[] fun q r s t a=>aK kP fun u v h i j=>Pl 1<|aL 2<|?_
 have c:=aJ a j
 refine ay<|e2 (sL hX (aV.old hsl c) hb) fun x20 y k d=>?_
 obtain⟨l,n,o⟩:=k
 refine Pl 2<|?_
 have f:=ub d i
 refine aG f (dC F.unit F.tid F.msg x20) fun z p g=>ah 1<|rt<|ck p (vI E)<|?_
 exact⟨x20,rfl,⟨(aH.upd l g (av (b9 f (by decide)) aM)),n,o⟩,(ud c (uz d g) (le a.size h))⟩
theorem uv{m:Md}{A:Option Addr}{cp:Nat}{b:List Int}{w:World}{dir:Int}{F:cy}{E:Int}(hX:ew dir b=(F,E))(hsl:aV m w (.slice A b.length cp) b)(hb:b.length≤1048576) : Calls Tryz.prog 50 #[vI 1,vI dir,.slice A b.length cp] w (fun e w'=>∃ x,e = .returned (.tuple #[.agg (dC F.unit F.tid F.msg x),vI E])∧(aH true w' (f5 F.msg x).toList F.msg∧(0≤F.unit∧F.unit<256)∧(0≤F.tid∧F.tid<65536))∧aI [] w w'):=by
 refine en 15 Tryz.func50 rfl<|sg<|aK kP fun r s i j k=>Pl 1<|aL 1<|ay<|m1 (qJ) fun t a=>Pl 2<|?_
 have c:=aJ k a
 refine L0<|xB (f:=264) (args:=#[.agg #[],vI dir,.slice A b.length cp]) 134 (.agg #[]) (.agg #[])<|e2 (BK hX (aV.old hsl c) hb) fun x17 u l d=>?_
 obtain⟨n,o,p⟩:=l
 refine Pl 2<|?_
 have g:=ub (aJ a d) j
 refine aG g (dC F.unit F.tid F.msg x17) fun v q h=>ah 1<|rt<|ck q (vI E)<|?_
 exact⟨x17,rfl,⟨(aH.upd n h (av (b9 g (by decide)) aM)),o,p⟩,(ud c (uz d h) i)⟩
theorem B7{m:Md}{A:Option Addr}{cp:Nat}{b:List Int}{w:World}{dir:Int}{F:cy}{E:Int}(hX:de dir b=(F,E))(hsl:aV m w (.slice A b.length cp) b)(hb:b.length≤1048576) : Calls Tryz.prog 273 #[.agg #[],vI dir,.slice A b.length cp] w (fun e w'=>∃ x,e = .returned (.tuple #[.agg (dC F.unit F.tid F.msg x),vI E])∧(aH true w' (f5 F.msg x).toList F.msg∧(0≤F.unit∧F.unit<256)∧(0≤F.tid∧F.tid<65536))∧aI [] w w'):=by
 refine en 13 Tryz.func273 rfl<|sg<|L0<|cY #[] fun q r s t a=>aK kP fun u v h i j=>Pl 1<|aL 2<|?_
 have c:=aJ a j
 refine ay<|e2 (qn hX (aV.old hsl c) hb) fun x20 y k d=>?_
 obtain⟨l,n,o⟩:=k
 refine Pl 2<|?_
 have f:=ub d i
 refine aG f (dC F.unit F.tid F.msg x20) fun z p g=>ah 1<|rt<|ck p (vI E)<|?_
 exact⟨x20,rfl,⟨(aH.upd l g (av (b9 f (by decide)) aM)),n,o⟩,(ud c (uz d g) (le a.size h))⟩
theorem tQ{m:Md}{A:Option Addr}{cp:Nat}{b:List Int}{w:World}{dir:Int}{F:cy}{E:Int}(hX:de dir b=(F,E))(hsl:aV m w (.slice A b.length cp) b)(hb:b.length≤1048576) : Calls Tryz.prog 50 #[vI 2,vI dir,.slice A b.length cp] w (fun e w'=>∃ x,e = .returned (.tuple #[.agg (dC F.unit F.tid F.msg x),vI E])∧(aH true w' (f5 F.msg x).toList F.msg∧(0≤F.unit∧F.unit<256)∧(0≤F.tid∧F.tid<65536))∧aI [] w w'):=by
 refine en 15 Tryz.func50 rfl<|sg<|aK kP fun r s i j k=>Pl 1<|aL 1<|ay<|m1 (pN) fun t a=>Pl 2<|?_
 have c:=aJ k a
 refine L0<|xB (f:=273) (args:=#[.agg #[],vI dir,.slice A b.length cp]) 135 (.agg #[]) (.agg #[])<|e2 (B7 hX (aV.old hsl c) hb) fun x17 u l d=>?_
 obtain⟨n,o,p⟩:=l
 refine Pl 2<|?_
 have g:=ub (aJ a d) j
 refine aG g (dC F.unit F.tid F.msg x17) fun v q h=>ah 1<|rt<|ck q (vI E)<|?_
 exact⟨x17,rfl,⟨(aH.upd n h (av (b9 g (by decide)) aM)),o,p⟩,(ud c (uz d h) i)⟩
theorem BX{m:Md}{A:Option Addr}{cp:Nat}{b:List Int}{w:World}{dir:Int}{F:cy}{E:Int}(hX:(cy.zero,(1:Int))=(F,E))(hsl:aV m w (.slice A b.length cp) b)(hb:b.length≤1048576) : Calls Tryz.prog 277 #[.agg #[],vI dir,.slice A b.length cp] w (fun e w'=>∃ x,e = .returned (.tuple #[.agg (dC F.unit F.tid F.msg x),vI E])∧(aH true w' (f5 F.msg x).toList F.msg∧(0≤F.unit∧F.unit<256)∧(0≤F.tid∧F.tid<65536))∧aI [] w w'):=by
 refine en 9 Tryz.func277 rfl<|sg<|L0<|cY #[] fun i j k l a=>aK kP fun n o c d f=>Pl 1<|aL 1<|aG d kP fun p g h=>Pl 1<|nl<|tn<|rt<|ck g (vI 1)<|?_
 injection hX with e1 e2
 subst e1 e2
 exact⟨⟨none,0,none,0,none,0,none,0,none,0⟩,rfl,⟨aH.zero ..,(show(0:Int)≤0∧(0:Int)<256 from by decide),(show(0:Int)≤0∧(0:Int)<65536 from by decide)⟩,(aJ a (ud f h c))⟩
theorem u6{m:Md}{A:Option Addr}{cp:Nat}{b:List Int}{w:World}{dir:Int}{F:cy}{E:Int}{k:Int}(h0:(k==0)=false)(h1:(k==1)=false)(h2:(k==2)=false)(hX:(cy.zero,(1:Int))=(F,E))(hsl:aV m w (.slice A b.length cp) b)(hb:b.length≤1048576) : Calls Tryz.prog 50 #[vI k,vI dir,.slice A b.length cp] w (fun e w'=>∃ x,e = .returned (.tuple #[.agg (dC F.unit F.tid F.msg x),vI E])∧(aH true w' (f5 F.msg x).toList F.msg∧(0≤F.unit∧F.unit<256)∧(0≤F.tid∧F.tid<65536))∧aI [] w w'):=by
 refine en 15 Tryz.func50 rfl<|sg<|aK kP fun s t i j l=>Pl 1<|aL 1<|ay<|m1 (qm h0 h1 h2) fun u a=>Pl 2<|?_
 have c:=aJ l a
 refine L0<|xB (f:=277) (args:=#[.agg #[],vI dir,.slice A b.length cp]) 136 (.agg #[]) (.agg #[])<|e2 (BX hX (aV.old hsl c) hb) fun x17 v n d=>?_
 obtain⟨o,p,q⟩:=n
 refine Pl 2<|?_
 have g:=ub (aJ a d) j
 refine aG g (dC F.unit F.tid F.msg x17) fun y r h=>ah 1<|rt<|ck r (vI E)<|?_
 exact⟨x17,rfl,⟨(aH.upd o h (av (b9 g (by decide)) aM)),p,q⟩,(ud c (uz d h) i)⟩
theorem lQ{k:Int}{m:Md}{v:Value}{b:List Int}{w:World}{dir:Int}{F:cy}{E:Int}(hX:ja k dir b=(F,E))(h:aV m w v b)(hb:b.length≤1048576) : Calls Tryz.prog 50 #[.int .i64 k,.int .i64 dir,v] w (fun e w'=>∃ x,e = .returned (.tuple #[.agg (dC F.unit F.tid F.msg x),.int .i64 E])∧(aH true w' (f5 F.msg x).toList F.msg∧(0≤F.unit∧F.unit<256)∧(0≤F.tid∧F.tid<65536))∧aI [] w w'):=by
  obtain⟨A,cp,rfl,_,_⟩:=h.shape
  refine k4 k (fun e=>?_) (fun e=>?_) (fun e=>?_) (fun h0 h1 h2=>?_)
  · subst e;exact td hX h hb
  · subst e;exact uv hX h hb
  · subst e;exact tQ hX h hb
  · rw[zY h0 h1 h2] at hX;exact u6 h0 h1 h2 hX h hb
theorem to{m:Md}{x:SL}{M:aS}{w:World}{dir u t:Int}(h:aH m w (f5 M x).toList M)(hf:bh M)(hbu:0≤u∧u<256)(hbt:0≤t∧t<65536) : Calls Tryz.prog 262 #[.int .i64 dir,.agg (dC u t M x)] w (sY (fL dir u t M) w):=by
  cases hX:fL dir u t M with
  | none =>
    refine(sO hX h hf hbu hbt).mono ?_
    rintro e w' ⟨rfl,hu⟩
    exact⟨_,_,rfl,⟨rfl,rfl⟩,hu⟩
  | some l =>
    refine(rO hX h hf hbu hbt).mono ?_
    rintro e w' ⟨v,rfl,ho,hu⟩
    exact⟨_,_,rfl,⟨rfl,f9.of ho⟩,hu⟩
theorem BA{m:Md}{x:SL}{M:aS}{w:World}{dir u t:Int}(h:aH m w (f5 M x).toList M)(hf:bh M)(hbu:0≤u∧u<256)(hbt:0≤t∧t<65536) : Calls Tryz.prog 261 #[.agg #[],vI dir,.agg (dC u t M x)] w (sY (fL dir u t M) w):=by
 refine en 13 Tryz.func261 rfl<|sg<|L0<|cY #[] fun j k l n b=>L0<|cY (dC u t M x) fun o p q c d=>Pl 2<|aL 1<|L0<|cm c<|?_
 have a:=aJ b d
 refine ay<|zZ (to (dir:=dir) (aH.old h a) hf hbu hbt) fun e f r g i=>ah 4<|rt<|rr (.tuple #[e,vI f])<|?_
 exact⟨_,_,rfl,g.wk a.size,(aJ a i)⟩
theorem u2{m:Md}{x:SL}{M:aS}{w:World}{dir u t:Int}(h:aH m w (f5 M x).toList M)(hf:bh M)(hbu:0≤u∧u<256)(hbt:0≤t∧t<65536) : Calls Tryz.prog 27 #[vI 0,vI dir,.agg (dC u t M x)] w (sY (fL dir u t M) w):=by
 refine en 15 Tryz.func27 rfl<|sg<|L0<|cY (dC u t M x) fun d s v n o=>ah 2<|sq<|Rg 9 (fun w'=>w'.heap[d]? = some (.cells (dC u t M x) 47 (0,0))) fun y e=>?_
 have i:=ub e n
 refine bv i fun b=>Rt 0 b<|Rt 2 b<|Rr 3 b (.agg (dC u t M x)) (fun w' hs=>gS (g:=d) (off:=0) [vB u,vW t,vB M.code,vB M.fail,vW M.addr,vW M.count,vW M.value,vW M.and_,vW M.or_,vW M.addr2,vW M.sub,vW M.status,vW M.events,vW M.messages,.slice x.aw M.words.length x.kw,.slice x.ab M.bits.length x.kb,.slice x.ad M.data.length x.kd,.slice x.ar M.recs.length x.kr,vB M.mei,vB M.kind,vB M.level,vB M.more,vB M.next,.slice x.ao M.objects.length x.ko] rfl (by kernel_rfl) hs (by kernel_rfl) (by kernel_rfl) rfl)<|R0 1 rfl<|Oc<|m1 (qj) fun z j=>?_
 have k:=ub j i
 refine bv k fun A=>?_
 have c:=aJ o (aJ e j)
 refine R0 4 rfl<|xB (f:=261) (args:=#[.agg #[],vI dir,.agg (dC u t M x)]) 133 (.agg #[]) (.agg #[])<|zZ (BA (dir:=dir) (aH.old h c) hf hbu hbt) fun p q B r l=>?_
 refine bv (ub l k) fun a=>Rt 5 a<|Rt 6 a<|Rt 7 a<|Rt 8 a<|re<|tn<|rt<|rr (.tuple #[p,vI q])<|?_
 exact⟨_,_,rfl,r.wk c.size,(aJ c l)⟩
theorem tH{m:Md}{x:SL}{M:aS}{w:World}{dir u t:Int}(h:aH m w (f5 M x).toList M)(hf:bh M)(hbu:0≤u∧u<256)(hbt:0≤t∧t<65536) : Calls Tryz.prog 266 #[.int .i64 dir,.agg (dC u t M x)] w (sY (fT dir u t M) w):=by
  cases hX:fT dir u t M with
  | none =>
    refine(rT hX h hf hbu hbt).mono ?_
    rintro e w' ⟨rfl,hu⟩
    exact⟨_,_,rfl,⟨rfl,rfl⟩,hu⟩
  | some l =>
    refine(rX hX h hf hbu hbt).mono ?_
    rintro e w' ⟨v,rfl,ho,hu⟩
    exact⟨_,_,rfl,⟨rfl,f9.ofF ho⟩,hu⟩
theorem BM{m:Md}{x:SL}{M:aS}{w:World}{dir u t:Int}(h:aH m w (f5 M x).toList M)(hf:bh M)(hbu:0≤u∧u<256)(hbt:0≤t∧t<65536) : Calls Tryz.prog 265 #[.agg #[],vI dir,.agg (dC u t M x)] w (sY (fT dir u t M) w):=by
 refine en 13 Tryz.func265 rfl<|sg<|L0<|cY #[] fun j k l n b=>L0<|cY (dC u t M x) fun o p q c d=>Pl 2<|aL 1<|L0<|cm c<|?_
 have a:=aJ b d
 refine ay<|zZ (tH (dir:=dir) (aH.old h a) hf hbu hbt) fun e f r g i=>ah 4<|rt<|rr (.tuple #[e,vI f])<|?_
 exact⟨_,_,rfl,g.wk a.size,(aJ a i)⟩
theorem tu{m:Md}{x:SL}{M:aS}{w:World}{dir u t:Int}(h:aH m w (f5 M x).toList M)(hf:bh M)(hbu:0≤u∧u<256)(hbt:0≤t∧t<65536) : Calls Tryz.prog 27 #[vI 1,vI dir,.agg (dC u t M x)] w (sY (fT dir u t M) w):=by
 refine en 15 Tryz.func27 rfl<|sg<|L0<|cY (dC u t M x) fun d s v n o=>ah 2<|sq<|Rg 9 (fun w'=>w'.heap[d]? = some (.cells (dC u t M x) 47 (0,0))) fun y e=>?_
 have i:=ub e n
 refine bv i fun b=>Rt 0 b<|Rt 2 b<|Rr 3 b (.agg (dC u t M x)) (fun w' hs=>gS (g:=d) (off:=0) [vB u,vW t,vB M.code,vB M.fail,vW M.addr,vW M.count,vW M.value,vW M.and_,vW M.or_,vW M.addr2,vW M.sub,vW M.status,vW M.events,vW M.messages,.slice x.aw M.words.length x.kw,.slice x.ab M.bits.length x.kb,.slice x.ad M.data.length x.kd,.slice x.ar M.recs.length x.kr,vB M.mei,vB M.kind,vB M.level,vB M.more,vB M.next,.slice x.ao M.objects.length x.ko] rfl (by kernel_rfl) hs (by kernel_rfl) (by kernel_rfl) rfl)<|R0 1 rfl<|Oc<|m1 (qJ) fun z j=>?_
 have k:=ub j i
 refine bv k fun A=>?_
 have c:=aJ o (aJ e j)
 refine R0 4 rfl<|xB (f:=265) (args:=#[.agg #[],vI dir,.agg (dC u t M x)]) 134 (.agg #[]) (.agg #[])<|zZ (BM (dir:=dir) (aH.old h c) hf hbu hbt) fun p q B r l=>?_
 refine bv (ub l k) fun a=>Rt 5 a<|Rt 6 a<|Rt 7 a<|Rt 8 a<|re<|tn<|rt<|rr (.tuple #[p,vI q])<|?_
 exact⟨_,_,rfl,r.wk c.size,(aJ c l)⟩
theorem rc{m:Md}{x:SL}{M:aS}{w:World}{dir u t:Int}(h:aH m w (f5 M x).toList M)(hf:bh M)(hbu:0≤u∧u<256)(hbt:0≤t∧t<65536) : Calls Tryz.prog 275 #[.int .i64 dir,.agg (dC u t M x)] w (sY (ey dir u t M) w):=by
  cases hX:ey dir u t M with
  | none =>
    refine(pL hX h hf hbu hbt).mono ?_
    rintro e w' ⟨rfl,hu⟩
    exact⟨_,_,rfl,⟨rfl,rfl⟩,hu⟩
  | some l =>
    refine(qD hX h hf hbu hbt).mono ?_
    rintro e w' ⟨v,rfl,ho,hu⟩
    exact⟨_,_,rfl,⟨rfl,f9.of ho⟩,hu⟩
theorem BN{m:Md}{x:SL}{M:aS}{w:World}{dir u t:Int}(h:aH m w (f5 M x).toList M)(hf:bh M)(hbu:0≤u∧u<256)(hbt:0≤t∧t<65536) : Calls Tryz.prog 274 #[.agg #[],vI dir,.agg (dC u t M x)] w (sY (ey dir u t M) w):=by
 refine en 13 Tryz.func274 rfl<|sg<|L0<|cY #[] fun j k l n b=>L0<|cY (dC u t M x) fun o p q c d=>Pl 2<|aL 1<|L0<|cm c<|?_
 have a:=aJ b d
 refine ay<|zZ (rc (dir:=dir) (aH.old h a) hf hbu hbt) fun e f r g i=>ah 4<|rt<|rr (.tuple #[e,vI f])<|?_
 exact⟨_,_,rfl,g.wk a.size,(aJ a i)⟩
theorem tW{m:Md}{x:SL}{M:aS}{w:World}{dir u t:Int}(h:aH m w (f5 M x).toList M)(hf:bh M)(hbu:0≤u∧u<256)(hbt:0≤t∧t<65536) : Calls Tryz.prog 27 #[vI 2,vI dir,.agg (dC u t M x)] w (sY (ey dir u t M) w):=by
 refine en 15 Tryz.func27 rfl<|sg<|L0<|cY (dC u t M x) fun d s v n o=>ah 2<|sq<|Rg 9 (fun w'=>w'.heap[d]? = some (.cells (dC u t M x) 47 (0,0))) fun y e=>?_
 have i:=ub e n
 refine bv i fun b=>Rt 0 b<|Rt 2 b<|Rr 3 b (.agg (dC u t M x)) (fun w' hs=>gS (g:=d) (off:=0) [vB u,vW t,vB M.code,vB M.fail,vW M.addr,vW M.count,vW M.value,vW M.and_,vW M.or_,vW M.addr2,vW M.sub,vW M.status,vW M.events,vW M.messages,.slice x.aw M.words.length x.kw,.slice x.ab M.bits.length x.kb,.slice x.ad M.data.length x.kd,.slice x.ar M.recs.length x.kr,vB M.mei,vB M.kind,vB M.level,vB M.more,vB M.next,.slice x.ao M.objects.length x.ko] rfl (by kernel_rfl) hs (by kernel_rfl) (by kernel_rfl) rfl)<|R0 1 rfl<|Oc<|m1 (pN) fun z j=>?_
 have k:=ub j i
 refine bv k fun A=>?_
 have c:=aJ o (aJ e j)
 refine R0 4 rfl<|xB (f:=274) (args:=#[.agg #[],vI dir,.agg (dC u t M x)]) 135 (.agg #[]) (.agg #[])<|zZ (BN (dir:=dir) (aH.old h c) hf hbu hbt) fun p q B r l=>?_
 refine bv (ub l k) fun a=>Rt 5 a<|Rt 6 a<|Rt 7 a<|Rt 8 a<|re<|tn<|rt<|rr (.tuple #[p,vI q])<|?_
 exact⟨_,_,rfl,r.wk c.size,(aJ c l)⟩
theorem AD{m:Md}{x:SL}{M:aS}{w:World}{dir u t:Int}(h:aH m w (f5 M x).toList M)(hf:bh M)(hbu:0≤u∧u<256)(hbt:0≤t∧t<65536) : Calls Tryz.prog 278 #[.agg #[],vI dir,.agg (dC u t M x)] w (sY (none) w):=by
 refine en 8 Tryz.func278 rfl<|sg<|L0<|cY #[] fun c d e f a=>L0<|cY (dC u t M x) fun g i j k b=>Pl 2<|dk 2<|rt<|rr (.tuple #[nS,vI 1])<|?_
 exact⟨_,_,rfl,⟨rfl,rfl⟩,(aJ a b)⟩
theorem tF{m:Md}{x:SL}{M:aS}{w:World}{dir u t:Int}(h:aH m w (f5 M x).toList M)(hf:bh M)(hbu:0≤u∧u<256)(hbt:0≤t∧t<65536){k:Int}(h0:(k==0)=false)(h1:(k==1)=false)(h2:(k==2)=false) : Calls Tryz.prog 27 #[vI k,vI dir,.agg (dC u t M x)] w (sY (none) w):=by
 refine en 15 Tryz.func27 rfl<|sg<|L0<|cY (dC u t M x) fun d v y o p=>ah 2<|sq<|Rg 9 (fun w'=>w'.heap[d]? = some (.cells (dC u t M x) 47 (0,0))) fun z e=>?_
 have i:=ub e o
 refine bv i fun b=>Rt 0 b<|Rt 2 b<|Rr 3 b (.agg (dC u t M x)) (fun w' hs=>gS (g:=d) (off:=0) [vB u,vW t,vB M.code,vB M.fail,vW M.addr,vW M.count,vW M.value,vW M.and_,vW M.or_,vW M.addr2,vW M.sub,vW M.status,vW M.events,vW M.messages,.slice x.aw M.words.length x.kw,.slice x.ab M.bits.length x.kb,.slice x.ad M.data.length x.kd,.slice x.ar M.recs.length x.kr,vB M.mei,vB M.kind,vB M.level,vB M.more,vB M.next,.slice x.ao M.objects.length x.ko] rfl (by kernel_rfl) hs (by kernel_rfl) (by kernel_rfl) rfl)<|R0 1 rfl<|Oc<|m1 (qm h0 h1 h2) fun A j=>?_
 have l:=ub j i
 refine bv l fun B=>?_
 have c:=aJ p (aJ e j)
 refine R0 4 rfl<|xB (f:=278) (args:=#[.agg #[],vI dir,.agg (dC u t M x)]) 136 (.agg #[]) (.agg #[])<|zZ (AD (dir:=dir) (aH.old h c) hf hbu hbt) fun q r C s n=>?_
 refine bv (ub n l) fun a=>Rt 5 a<|Rt 6 a<|Rt 7 a<|Rt 8 a<|re<|tn<|rt<|rr (.tuple #[q,vI r])<|?_
 exact⟨_,_,rfl,s.wk c.size,(aJ c n)⟩
theorem oZ{k:Int}{m:Md}{x:SL}{M:aS}{w:World}{dir u t:Int}(h:aH m w (f5 M x).toList M)(hf:bh M)(hbu:0≤u∧u<256)(hbt:0≤t∧t<65536) : Calls Tryz.prog 27 #[.int .i64 k,.int .i64 dir,.agg (dC u t M x)] w (sY (gy k dir u t M) w):=by
  refine k4 k (fun e=>?_) (fun e=>?_) (fun e=>?_) (fun h0 h1 h2=>?_)
  · subst e;exact u2 h hf hbu hbt
  · subst e;exact tu h hf hbu hbt
  · subst e;exact tW h hf hbu hbt
  · rw[xE h0 h1 h2];exact tF h hf hbu hbt h0 h1 h2
theorem lN{k:Int}{m:Md}{x:SL}{M:aS}{w:World}{dir u t:Int}(h:aH m w (f5 M x).toList M)(hf:bh M)(hbu:0≤u∧u<256)(hbt:0≤t∧t<65536)(hX:gy k dir u t M=none) : Calls Tryz.prog 27 #[.int .i64 k,.int .i64 dir,.agg (dC u t M x)] w (fun e w'=>e = .returned (.tuple #[.slice none 0 0,.int .i64 1])∧aI [] w w'):=by
  refine(oZ h hf hbu hbt).mono ?_
  rw[hX]
  rintro e w' ⟨v,n,rfl,⟨rfl,rfl⟩,hu⟩
  exact⟨rfl,hu⟩
theorem lK{k:Int}{m:Md}{x:SL}{M:aS}{w:World}{dir u t:Int}{l:List Int}(h:aH m w (f5 M x).toList M)(hf:bh M)(hbu:0≤u∧u<256)(hbt:0≤t∧t<65536)(hX:gy k dir u t M=some l) : Calls Tryz.prog 27 #[.int .i64 k,.int .i64 dir,.agg (dC u t M x)] w (fun e w'=>∃ v,e = .returned (.tuple #[v,.int .i64 0])∧f9 w.heap.size w' v l∧aI [] w w'):=by
  refine(oZ h hf hbu hbt).mono ?_
  rw[hX]
  rintro e w' ⟨v,n,rfl,⟨rfl,ho⟩,hu⟩
  exact⟨v,rfl,ho,hu⟩
end Go.Proofs.YtdkhbcefkfgbdaaGreat
namespace Go.Proofs.YtdkhbcefkfgbdaaGreat
def f8 (C:ap) : Prop:=∀ x,x∈C.l→0≤x∧x<256
variable {C:ap}{x:Int}
theorem ft{ok:Bool}  (hx:x≠0)(h:(C.need ok x).e=0) : C.e=0∧ok=true:=by
  unfold ap.need at h
  split at h
  · exact absurd h hx
  · rename_i hh
    refine⟨h,?_⟩
    cases ok
    · exact absurd ⟨h,rfl⟩ hh
    · rfl
variable {n:Int}
theorem gV(h:(C.bytesC n).e=0) : C.e=0∧C.l=C.bytesR n++(C.bytesC n).l∧((C.bytesR n).length:Int)=n:=by
  unfold ap.bytesC at h ⊢
  unfold ap.bytesR
  split at h
  · exfalso
    unfold ap.need at h
    split at h
    · cases h
    · rename_i hh
      exact hh ⟨h,rfl⟩
  · rename_i hf
    rw[if_neg hf,if_neg hf]
    refine⟨h,(List.take_append_drop _ _).symm,?_⟩
    unfold ap.fails at hf
    simp only[Bool.or_eq_true,decide_eq_true_eq,not_or] at hf
    rw[List.length_take]
    omega
theorem nE:∀ (l:List Int),l.length%2=0→(∀ x,x∈l→0≤x∧x<256)→aN (dB l)=l
  | [],_,_=>rfl
  | [_],h,_=>by simp at h
  | a :: b :: r,h,hr=>by
    have ha:=hr a (by simp)
    have hb:=hr b (by simp)
    simp only[dB,aN]
    rw[nE r (by simp at h;omega) (fun x hx=>hr x (by simp[hx]))]
    congr 1
    · omega
    · congr 1
      omega
theorem kF(hr:f8 C)(h:(C.wordsC n).e=0) : C.e=0∧C.l=aN (C.wordsR n)++(C.wordsC n).l∧((C.wordsR n).length:Int)=n:=by
  unfold ap.wordsC at h ⊢
  unfold ap.wordsR
  split at h
  · obtain⟨_,_,h3⟩:=gV h
    omega
  · rename_i hb
    rw[if_neg hb,if_neg hb]
    obtain⟨h1,h2,h3⟩:=gV h
    have h4:(C.bytesR (2*n)).length%2=0:=by omega
    have h5:∀ x,x∈C.bytesR (2*n)→0≤x∧x<256:=fun x hx=>hr x (by rw[h2];exact List.mem_append_left _ hx)
    unfold cw
    rw[if_pos h4]
    refine⟨h1,by rw[nE _ h4 h5];exact h2,?_⟩
    rw[fl]
    omega
def du (C:ap)(l:List Int)(C':ap) : Prop:=f8 C→f8 C'∧(C'.e=0→C.e=0∧C.l=l++C'.l)
variable {A:ap}{l:List Int}
theorem du.trans{B:ap}{m:List Int}(h:du A l B)(k:du B m C) : du A (l++m) C:=fun hr=>by
  obtain⟨h1,h2⟩:=h hr
  obtain⟨k1,k2⟩:=k h1
  refine⟨k1,fun he=>?_⟩
  obtain⟨k3,k4⟩:=k2 he
  obtain⟨h3,h4⟩:=h2 k3
  exact⟨h3,by rw[h4,k4,List.append_assoc]⟩
theorem du.refl(C:ap) : du C [] C:=fun hr=>⟨hr,fun he=>⟨he,rfl⟩⟩
theorem du.need{ok:Bool}  (h:du A l C)(hx:x≠0:=by decide) : du A l (C.need ok x):=fun hr=>by
  obtain⟨h1,h2⟩:=h hr
  refine⟨fun y hy=>h1 y (by rwa [jm] at hy),fun he=>?_⟩
  rw[jm]
  exact h2 (ft hx he).1
theorem du.bytes(h:du A l C)(n:Int) : du A (l++C.bytesR n) (C.bytesC n):=h.trans fun hr=>⟨iO hr n,fun he=>⟨(gV he).1,(gV he).2.1⟩⟩
theorem du.words(h:du A l C)(n:Int) : du A (l++aN (C.wordsR n)) (C.wordsC n):=h.trans fun hr=>⟨cS hr n,fun he=>⟨(kF hr he).1,(kF hr he).2.1⟩⟩
theorem yS(h:(l.length:Int)=1) : l=[l.getD 0 0]:=by
  match l,h with
  | [a],_=>rfl
  | [],h=>simp at h
  | _ :: _ :: _,h=>simp at h;omega
theorem du.byte(h:du A l C) : du A (l++[C.byteV]) (C.bytesC 1):=h.trans fun hr=>⟨iO hr 1,fun he=>by
  obtain⟨h1,h2,h3⟩:=gV he
  refine⟨h1,?_⟩
  have:=yS h3
  show C.l=[(C.bytesR 1).getD 0 0]++_
  rw[← this]
  exact h2⟩
theorem du.word(h:du A l C) : du A (l++aN [C.wordV]) (C.wordsC 1):=h.trans fun hr=>⟨cS hr 1,fun he=>by
  obtain⟨h1,h2,h3⟩:=kF hr he
  refine⟨h1,?_⟩
  have:=yS h3
  show C.l=aN [(C.wordsR 1).getD 0 0]++_
  rw[← this]
  exact h2⟩
theorem du.fin(h:du A l C)(hr:f8 A)(he:C.endC.e=0) : C.e=0∧A.l=l:=by
  unfold ap.endC at he
  obtain⟨h1,h2⟩:=ft (by decide) he
  obtain⟨_,h3⟩:=(h hr).2 h1
  have:C.l=[]:=by
    simp only[beq_iff_eq] at h2
    exact List.eq_nil_of_length_eq_zero (by omega)
  exact⟨h1,by rw[h3,this,List.append_nil]⟩
theorem d9(hr:f8 C) : 0≤C.byteV∧C.byteV<256:=by
  unfold ap.byteV
  rw[List.getD_eq_getElem?_getD]
  cases h:(C.bytesR 1)[0]? with
  | none=>simp
  | some x =>
    have hm:x∈C.bytesR 1:=List.mem_of_getElem? h
    have:x∈C.l:=by
      unfold ap.bytesR at hm
      split at hm
      · cases hm
      · exact List.mem_of_mem_take hm
    exact hr x this
theorem mT(C:ap)(most:Int) : du C (aN [C.wordV,(C.wordsC 1).wordV]) (cz C most):=by
  have:=(((du.refl C).word).word)
  exact(this.need).need
theorem AQ:∀ n:Nat,n<256→(((if ((n:Int)/2 ^ 0%2==1) then 1 else 0)+(if ((n:Int)/2 ^ 1%2==1) then 2 else 0)+(if ((n:Int)/2 ^ 2%2==1) then 4 else 0)+(if ((n:Int)/2 ^ 3%2==1) then 8 else 0)+(if ((n:Int)/2 ^ 4%2==1) then 16 else 0)+(if ((n:Int)/2 ^ 5%2==1) then 32 else 0)+(if ((n:Int)/2 ^ 6%2==1) then 64 else 0)+(if ((n:Int)/2 ^ 7%2==1) then 128 else 0) : Nat) : Int)=n:=by decide +kernel
theorem ow(hx:0≤x∧x<256)(f:Nat→Bool)(hf:∀ i,i<8→f i=(x/2 ^ i%2==1)) :
    (((if f 0 then 1 else 0)+(if f 1 then 2 else 0)+(if f 2 then 4 else 0)+(if f 3 then 8 else 0)+(if f 4 then 16 else 0)+(if f 5 then 32 else 0)+(if f 6 then 64 else 0)+(if f 7 then 128 else 0) : Nat) : Int)=x:=by
  rw[hf 0 (by decide),hf 1 (by decide),hf 2 (by decide),hf 3 (by decide),hf 4 (by decide),hf 5 (by decide),hf 6 (by decide),hf 7 (by decide)]
  obtain⟨n,rfl⟩:=Int.eq_ofNat_of_zero_le hx.1
  exact AQ n (by omega)
variable {b:List Int}
theorem lT{l:List Bool}(hr:∀ x,x∈b→0≤x∧x<256)(h:cG b n=some l) : bP l=b:=by
  unfold cG at h
  split at h
  · rename_i hc
    split at h
    · rename_i hall
      injection h with h
      subst h
      have hlen:((List.range n.toNat).map (cH b)).length=n.toNat:=by simp
      have hm:((List.range n.toNat).map (cH b)).length=n:=by rw[hlen];omega
      unfold bP
      rw[hm,← hc.2]
      apply List.ext_getElem
      · simp
      intro j h1 h2
      simp only[List.getElem_map,List.getElem_range]
      have hj:j<b.length:=h2
      have hget:∀ i,i<8*b.length→((List.range n.toNat).map (cH b)).getD i false=cH b i:=fun i hi=>by
        rw[List.getD_eq_getElem?_getD,List.getElem?_map]
        by_cases hin:i<n.toNat
        · rw[List.getElem?_range hin];rfl
        · rw[List.getElem?_eq_none (by simpa using hin)]
          rw[List.all_eq_true] at hall
          have:=hall i (by simpa using hi)
          simp only[Bool.or_eq_true,decide_eq_true_eq,Bool.not_eq_true'] at this
          rcases this with h3|h3
          · omega
          · simp[h3]
      have hx:∀ k,k<8→cH b (8*j+k)=(b[j]/2 ^ k%2==1):=fun k hk=>by
        unfold cH
        rw[show(8*j+k)/8=j from by omega,show(8*j+k)%8=k from by omega,List.getD_eq_getElem?_getD,List.getElem?_eq_getElem hj]
        rfl
      unfold ch
      rw[show(8*j:Nat)=8*j+0 from rfl]
      simp only[hget _ (show 8*j+0<8*b.length by omega),hget _ (show 8*j+0+1<8*b.length by omega),hget _ (show 8*j+0+2<8*b.length by omega),hget _ (show 8*j+0+3<8*b.length by omega),hget _ (show 8*j+0+4<8*b.length by omega),hget _ (show 8*j+0+5<8*b.length by omega),hget _ (show 8*j+0+6<8*b.length by omega),hget _ (show 8*j+0+7<8*b.length by omega)]
      exact ow (hr _ (List.getElem_mem hj)) (fun k=>cH b (8*j+k)) hx
    · cases h
  · cases h
end Go.Proofs.YtdkhbcefkfgbdaaGreat
namespace Go.Proofs.YtdkhbcefkfgbdaaGreat
variable {α:Type}
theorem bF{β:Type}{p:α × β}{a:α}{b:β}(h:some p=some (a,b)) : p.1=a∧p.2=b:=by
  injection h with h
  rw[h]
  exact⟨rfl,rfl⟩
variable {C:ap}{c:Int}
theorem uX{most:Int}(hr:f8 C)(he:(ek most c C).1.endC.e=0) : aN [C.wordV,(C.wordsC 1).wordV]=C.l:=((mT C most).fin hr he).2.symm
theorem yH(hr:f8 C)(he:(dZ c C).1.endC.e=0) : [(((ef C).bytesR C.byteV).length:Int)%256]++(ef C).bytesR C.byteV=C.l:=by
  have hbv:=d9 hr
  have hE:du C ([]++[C.byteV]++(ef C).bytesR C.byteV) ((ef C).bytesC C.byteV):=(((du.refl C).byte).need).bytes _
  obtain⟨h1,h2⟩:=hE.fin hr he
  obtain⟨_,_,h3⟩:=gV h1
  rw[h2,h3,Int.emod_eq_of_lt hbv.1 hbv.2]
  rfl
theorem za(hr:f8 C)(he:(dM c C).1.endC.e=0) : aN [C.wordV,(C.wordsC 1).wordV]=C.l:=by
  have hE:du C ([]++aN [C.wordV]++aN [(C.wordsC 1).wordV]) (fP C):=(((du.refl C).word).word).need
  rw[(hE.fin hr he).2]
  rfl
theorem Cy(hr:f8 C)(he:(hG c C).1.endC.e=0) : (aN [C.wordV,(C.wordsC 1).wordV]++[((bP ((qK C).getD [])).length:Int)%256])++bP ((qK C).getD [])=C.l:=by
  have hE:du C (aN [C.wordV,(C.wordsC 1).wordV]++[(cz C 1968).byteV]++(iB C).bytesR (oC C)) (sX C):=(((((mT C 1968).byte).need).bytes _).need)
  obtain⟨h1,h2⟩:=hE.fin hr he
  obtain⟨h3,h4⟩:=ft (by decide) h1
  obtain⟨_,_,h5⟩:=gV h3
  obtain⟨l,hl⟩:=Option.isSome_iff_exists.1 h4
  have hB:∀ x,x∈(iB C).bytesR (oC C)→0≤x∧x<256:=fun x hx=>hr x (by rw[h2];exact List.mem_append_right _ hx)
  have h6:bP l=(iB C).bytesR (oC C):=lT hB hl
  have hk:0≤oC C∧oC C<256:=d9 ((mT C 1968) hr).1
  rw[hl]
  show(aN [C.wordV,(C.wordsC 1).wordV]++[((bP l).length:Int)%256])++bP l=C.l
  rw[h6,h2,h5,Int.emod_eq_of_lt hk.1 hk.2]
  rfl
variable {C':ap}{M:aS}{dir:Int}
theorem zg(hd:dir=0∨dir=1)(hr:f8 C)(h:aR dir c C=some (C',M))(he:C'.endC.e=0) : cC dir M=C.l:=by
  unfold aR at h
  split at h
  · rename_i hc
    simp only[Bool.or_eq_true,beq_iff_eq] at hc
    rcases hd with rfl|rfl
    · have h:some (ek 2000 c C)=some (C',M):=h
      obtain⟨rfl,rfl⟩:=bF h
      rcases hc with rfl|rfl<;>exact uX hr he
    · have h:some (dZ c C)=some (C',M):=h
      obtain⟨rfl,rfl⟩:=bF h
      rcases hc with rfl|rfl<;>exact yH hr he
  split at h
  · rename_i hc
    obtain rfl:c=5:=by simpa using hc
    obtain⟨rfl,rfl⟩:=bF h
    exact za hr he
  split at h
  · rename_i hc
    obtain rfl:c=15:=by simpa using hc
    rcases hd with rfl|rfl
    · have h:some (hG 15 C)=some (C',M):=h
      obtain⟨rfl,rfl⟩:=bF h
      exact Cy hr he
    · have h:some (ek 1968 15 C)=some (C',M):=h
      obtain⟨rfl,rfl⟩:=bF h
      exact uX hr he
  · cases h
variable {A:ap}{l:List Int}
theorem jG(h:du A l C)(a most:Int) : du A (l++aN [C.wordV]) (bI C a most):=((h.word).need).need
variable {n:Int}
theorem DF{hi:Int}(h:jo n hi=true) : n%2=0∧2≤n∧n≤hi:=by
  unfold jo at h
  simp only[Bool.and_eq_true,decide_eq_true_eq,beq_iff_eq] at h
  exact⟨h.1.1,h.1.2,h.2⟩
theorem qS(hr:f8 C)(he:(cF c C).1.endC.e=0) : [(2*(((lI C).wordsR (C.byteV/2)).length:Int))%256]++aN ((lI C).wordsR (C.byteV/2))=C.l:=by
  have hbv:=d9 hr
  have hE0:du C ([]++[C.byteV]) (lI C):=((du.refl C).byte).need
  have hE:=hE0.words (C.byteV/2)
  obtain⟨h1,h2⟩:=hE.fin hr he
  obtain⟨h3,_,h5⟩:=kF (hE0 hr).1 h1
  obtain⟨h6,h7,h8⟩:=DF (ft (by decide) h3).2
  rw[h2,h5,show(2*(C.byteV/2))%256=C.byteV from by omega]
  rfl
theorem s5{most:Int}  (hr:f8 C)(he:(cn most c C).1.endC.e=0) : aN [C.wordV,(C.wordsC 1).wordV]=C.l:=by
  rw[((jG (du.refl C).word C.wordV most).fin hr he).2]
  rfl
theorem Am(hr:f8 C)(he:(eo c C).1.endC.e=0) : aN [C.wordV,(C.wordsC 1).wordV]=C.l:=by
  rw[(((du.refl C).word).word.fin hr he).2]
  rfl
theorem m7(h:du A l C)(n:Int) : du A (l++[C.byteV]) (d8 C n):=(h.byte).need
theorem zI(hr:f8 C)(he:(dq c C).1.endC.e=0) : (aN [C.wordV,(C.wordsC 1).wordV]++[(2*(((js C).wordsR (C.wordsC 1).wordV).length:Int))%256])++aN ((js C).wordsR (C.wordsC 1).wordV)=C.l:=by
  have hE0:du C _ (bI (C.wordsC 1) C.wordV 123):=jG (du.refl C).word C.wordV 123
  have hE1:du C _ (js C):=m7 hE0 (C.wordsC 1).wordV
  have hbv:=d9 (hE0 hr).1
  obtain⟨h1,h2⟩:=(hE1.words (C.wordsC 1).wordV).fin hr he
  obtain⟨h3,_,h5⟩:=kF (hE1 hr).1 h1
  have h6:=(ft (by decide) h3).2
  simp only[beq_iff_eq] at h6
  rw[h5,← h6,Int.emod_eq_of_lt hbv.1 hbv.2,h2]
  rfl
theorem xU(hr:f8 C)(he:(da c C).1.endC.e=0) : aN [C.wordV,(C.wordsC 1).wordV,((C.wordsC 1).wordsC 1).wordV]=C.l:=by
  rw[(((du.refl C).word).word.word.fin hr he).2]
  rfl
theorem zK(hr:f8 C)(he:(dn c C).1.endC.e=0) : (aN [C.wordV,(C.wordsC 1).wordV,(bI (C.wordsC 1) C.wordV 125).wordV,(((j6 C).wordsR (gC C).wordV).length:Int)%65536]++[(2*(((j6 C).wordsR (gC C).wordV).length:Int))%256])++aN ((j6 C).wordsR (gC C).wordV)=C.l:=by
  have hE0:du C _ (gC C):=(jG (du.refl C).word C.wordV 125).word
  have hE1:du C _ (rz C):=jG hE0 (bI (C.wordsC 1) C.wordV 125).wordV 121
  have hE2:du C _ (j6 C):=m7 hE1 (gC C).wordV
  have hbv:=d9 (hE1 hr).1
  have hwv:0≤(gC C).wordV∧(gC C).wordV<65536:=bN (hE0 hr).1
  obtain⟨h1,h2⟩:=(hE2.words (gC C).wordV).fin hr he
  obtain⟨h3,_,h5⟩:=kF (hE2 hr).1 h1
  have h6:=(ft (by decide) h3).2
  simp only[beq_iff_eq] at h6
  rw[h5,Int.emod_eq_of_lt hwv.1 hwv.2,← h6,Int.emod_eq_of_lt hbv.1 hbv.2,h2]
  rfl
theorem yO(hr:f8 C)(he:(dp c C).1.endC.e=0) : aN [C.wordV]=C.l:=by
  rw[((du.refl C).word.fin hr he).2]
  rfl
theorem DN(hr:f8 C)(he:(mn c C).1.endC.e=0) : aN [(2+2*(((Bt C).wordsR (uC C).wordV).length:Int))%65536,(((Bt C).wordsR (uC C).wordV).length:Int)%65536]++aN ((Bt C).wordsR (uC C).wordV)=C.l:=by
  have hE0:du C _ (uC C):=((du.refl C).word).need
  have hE1:du C _ (Bt C):=(hE0.word).need
  have hwc:0≤C.wordV∧C.wordV<65536:=bN hr
  have hwv:0≤(uC C).wordV∧(uC C).wordV<65536:=bN (hE0 hr).1
  obtain⟨h1,h2⟩:=(hE1.words (uC C).wordV).fin hr he
  obtain⟨h3,_,h5⟩:=kF (hE1 hr).1 h1
  have h6:=(ft (by decide) h3).2
  simp only[beq_iff_eq] at h6
  rw[h5,h6,Int.emod_eq_of_lt hwv.1 hwv.2,Int.emod_eq_of_lt hwc.1 hwc.2,h2]
  rfl
theorem BY(hd:dir=0∨dir=1)(hr:f8 C)(h:aY dir c C=some (C',M))(he:C'.endC.e=0) : cj dir M=C.l:=by
  unfold aY at h
  split at h
  · rename_i hc
    simp only[Bool.or_eq_true,beq_iff_eq] at hc
    rcases hd with rfl|rfl
    · have h:some (cn 125 c C)=some (C',M):=h
      obtain⟨rfl,rfl⟩:=bF h
      rcases hc with rfl|rfl<;>exact s5 hr he
    · have h:some (cF c C)=some (C',M):=h
      obtain⟨rfl,rfl⟩:=bF h
      rcases hc with rfl|rfl<;>exact qS hr he
  split at h
  · rename_i hc
    obtain rfl:c=6:=by simpa using hc
    obtain⟨rfl,rfl⟩:=bF h
    rcases hd with rfl|rfl<;>exact Am hr he
  split at h
  · rename_i hc
    obtain rfl:c=16:=by simpa using hc
    rcases hd with rfl|rfl
    · have h:some (dq 16 C)=some (C',M):=h
      obtain⟨rfl,rfl⟩:=bF h
      exact zI hr he
    · have h:some (cn 123 16 C)=some (C',M):=h
      obtain⟨rfl,rfl⟩:=bF h
      exact s5 hr he
  split at h
  · rename_i hc
    obtain rfl:c=22:=by simpa using hc
    obtain⟨rfl,rfl⟩:=bF h
    rcases hd with rfl|rfl<;>exact xU hr he
  split at h
  · rename_i hc
    obtain rfl:c=23:=by simpa using hc
    rcases hd with rfl|rfl
    · have h:some (dn 23 C)=some (C',M):=h
      obtain⟨rfl,rfl⟩:=bF h
      exact zK hr he
    · have h:some (cF 23 C)=some (C',M):=h
      obtain⟨rfl,rfl⟩:=bF h
      exact qS hr he
  split at h
  · rename_i hc
    obtain rfl:c=24:=by simpa using hc
    rcases hd with rfl|rfl
    · have h:some (dp 24 C)=some (C',M):=h
      obtain⟨rfl,rfl⟩:=bF h
      exact yO hr he
    · have h:some (mn 24 C)=some (C',M):=h
      obtain⟨rfl,rfl⟩:=bF h
      exact DN hr he
  · cases h
end Go.Proofs.YtdkhbcefkfgbdaaGreat
namespace Go.Proofs.YtdkhbcefkfgbdaaGreat
variable {A C:ap}{l:List Int}
theorem du.conv{l':List Int}(h:du A l C)(k:f8 A→f8 C→C.e=0→l=l') : du A l' C:=fun hr=>by
  obtain⟨h1,h2⟩:=h hr
  refine⟨h1,fun he=>?_⟩
  rw[← k hr h1 he]
  exact h2 he
variable {c dir:Int}
theorem BV(hr:f8 C)(he:(eM dir c C).1.endC.e=0) : aN [(eM dir c C).2.sub]++aN (eM dir c C).2.words=C.l:=by
  have hE0:du C ([]++aN [C.wordV]) (fq dir C):=((du.refl C).word).need
  unfold eM at he ⊢
  split at he
  · rename_i hw
    rw[if_pos hw]
    exact(((hE0.words 1).need).fin hr he).2.symm
  · rename_i hw
    rw[if_neg hw]
    exact(((hE0.need).words _).fin hr he).2.symm
theorem s9(C:ap)(lo hi:Int) : du C ([]++[C.byteV]) (fp C lo hi):=((du.refl C).byte).need
theorem sV(h:du A l C) : du A (l++aN [C.wordV]) (dS C):=(h.word).need
theorem Dd(hc:c=7∨c=11∨c=12∨c=17)(hr:f8 C)(he:(cV c C).1.endC.e=0) : bV 1 (cV c C).2=C.l:=by
  have hbv:=d9 hr
  rcases hc with rfl|rfl|rfl|rfl
  · have he:(C.bytesC 1).endC.e=0:=he
    show[C.byteV%256]=C.l
    rw[Int.emod_eq_of_lt hbv.1 hbv.2,((du.refl C).byte.fin hr he).2]
    rfl
  · have he:((dS C).wordsC 1).endC.e=0:=he
    show aN [C.wordV,(dS C).wordV]=C.l
    rw[((sV (du.refl C)).word.fin hr he).2]
    rfl
  · have he:((gG C).bytesC (C.byteV-6)).endC.e=0:=he
    have hE:=(((sV (s9 C 6 70)).word).word).bytes (C.byteV-6)
    obtain⟨h1,h2⟩:=hE.fin hr he
    obtain⟨_,_,h3⟩:=gV h1
    show([(6+(((gG C).bytesR (C.byteV-6)).length:Int))%256]++aN [(fp C 6 70).wordV,(dS (fp C 6 70)).wordV,((dS (fp C 6 70)).wordsC 1).wordV])++(gG C).bytesR (C.byteV-6)=C.l
    have h4:(((gG C).bytesR (C.byteV-6)).length:Int)=C.byteV-6:=h3
    rw[h4,show(6+(C.byteV-6))%256=C.byteV from by omega,h2]
    rfl
  · have he:((fp C 1 251).bytesC C.byteV).endC.e=0:=he
    have hE:=(s9 C 1 251).bytes C.byteV
    obtain⟨h1,h2⟩:=hE.fin hr he
    obtain⟨_,_,h3⟩:=gV h1
    show[(((fp C 1 251).bytesR C.byteV).length:Int)%256]++(fp C 1 251).bytesR C.byteV=C.l
    rw[h3,Int.emod_eq_of_lt hbv.1 hbv.2,h2]
    rfl
theorem CW(hc:c=7∨c=11∨c=12∨c=17)(hr:f8 C)(he:C.endC.e=0) : bV 0 { aS.zero with code:=c }=C.l:=by
  have h:=((du.refl C).fin hr he).2
  rcases hc with rfl|rfl|rfl|rfl<;>exact h.symm
variable {C':ap}{M:aS}
theorem Af(hd:dir=0∨dir=1)(hr:f8 C)(h:bo dir c C=some (C',M))(he:C'.endC.e=0) : bV dir M=C.l:=by
  unfold bo at h
  split at h
  · rename_i hc
    obtain rfl:c=8:=by simpa using hc
    obtain⟨rfl,rfl⟩:=bF h
    have hco:(eM dir 8 C).2.code=8:=by unfold eM;split<;>rfl
    unfold bV
    rw[hco,if_pos (by rfl)]
    exact BV hr he
  split at h
  · rename_i hc
    simp only[Bool.or_eq_true,beq_iff_eq] at hc
    have hc:c=7∨c=11∨c=12∨c=17:=by omega
    rcases hd with rfl|rfl
    · have h:some (C,({ aS.zero with code:=c }:aS))=some (C',M):=h
      obtain⟨rfl,rfl⟩:=bF h
      exact CW hc hr he
    · have h:some (cV c C)=some (C',M):=h
      obtain⟨rfl,rfl⟩:=bF h
      exact Dd hc hr he
  · cases h
theorem qY:∀ (n:Nat)(C:ap)(L:List Obj),∃ L',(eP n C L).2=L++L'∧L'.length=n∧du C (eT L') (eP n C L).1
  | 0,C,L=>⟨[],by simp[eP],rfl,du.refl C⟩
  | n+1,C,L=>by
    obtain⟨L',h1,h2,h3⟩:=qY n (((C.bytesC 1).bytesC 1).bytesC (C.bytesC 1).byteV) (L++[⟨C.byteV,((C.bytesC 1).bytesC 1).bytesR (C.bytesC 1).byteV⟩])
    refine⟨⟨C.byteV,((C.bytesC 1).bytesC 1).bytesR (C.bytesC 1).byteV⟩ :: L',?_,by simp[h2],?_⟩
    · show(eP n _ _).2=_
      rw[h1]
      simp
    · have hE0:du C _ ((C.bytesC 1).bytesC 1):=(du.refl C).byte.byte
      have hE1:du C (([C.byteV,((((C.bytesC 1).bytesC 1).bytesR (C.bytesC 1).byteV).length:Int)%256])++((C.bytesC 1).bytesC 1).bytesR (C.bytesC 1).byteV) (((C.bytesC 1).bytesC 1).bytesC (C.bytesC 1).byteV):=(hE0.bytes _).conv fun hr _ he=>by
        have hb:=d9 ((du.refl C).byte hr).1
        rw[(gV he).2.2,Int.emod_eq_of_lt hb.1 hb.2]
        rfl
      exact hE1.trans h3
theorem zw{c:Int}  (hr:f8 C)(he:(dN (dF C).byteV (eG C)).1.endC.e=0) : [C.byteV,(dF C).byteV,(eG C).byteV,(m9 (eG C)).byteV,(mc (eG C)).byteV,((dN (dF C).byteV (eG C)).2.length:Int)%256]++eT (dN (dF C).byteV (eG C)).2=C.l:=by
  have hE0:du C _ (dF C):=(du.refl C).byte.need
  have hE1:du C _ (eG C):=hE0.byte.need
  have hE2:du C _ (m9 (eG C)):=hE1.byte.need
  have hE3:du C _ (mc (eG C)):=hE2.byte.need
  have hE4:du C _ (oJ (eG C)):=hE3.byte.need
  have hE5:du C _ (yV (dF C).byteV (eG C)):=hE4.byte.need
  obtain⟨L',h1,h2,h3⟩:=qY (oJ (eG C)).byteV.toNat (yV (dF C).byteV (eG C)) []
  have hb:=d9 (hE4 hr).1
  have h4:(dN (dF C).byteV (eG C)).2=L':=by unfold dN;rw[h1];rfl
  obtain⟨_,h5⟩:=(hE5.trans h3).fin hr he
  rw[h4,h2,show(((oJ (eG C)).byteV.toNat:Nat) : Int)%256=(oJ (eG C)).byteV from by omega,h5]
  rfl
theorem zj(hd:dir=0∨dir=1)(hr:f8 C)(h:bJ dir c C=some (C',M))(he:C'.endC.e=0) : dA dir M=C.l:=by
  have hE0:du C _ (dF C):=(du.refl C).byte.need
  unfold bJ at h
  split at h
  · cases h
  split at h
  · rename_i hm
    obtain⟨rfl,rfl⟩:=bF h
    have hE1:=(hE0.need (ok:=decide (((dF C).l.length:Int)≤251)) (x:=5)).bytes ((ga C).l.length:Int)
    obtain⟨_,h5⟩:=hE1.fin hr he
    unfold dA
    rw[if_pos (show(C.byteV==13)=true from hm),h5]
    rfl
  rename_i hm
  split at h
  · rename_i hc
    obtain rfl:dir=1:=by simpa using hc
    obtain⟨rfl,rfl⟩:=bF h
    unfold dA
    rw[if_neg (show ¬ (C.byteV==13)=true from hm),if_neg (by decide)]
    exact zw (c:=c) hr he
  · rename_i hc
    obtain rfl:dir=0:=by
      rcases hd with rfl|rfl
      · rfl
      · exact absurd rfl hc
    obtain⟨rfl,rfl⟩:=bF h
    have hE1:du C _ (eG C):=hE0.byte.need
    obtain⟨_,h5⟩:=hE1.byte.fin hr he
    unfold dA
    rw[if_neg (show ¬ (C.byteV==13)=true from hm),if_pos (by rfl),h5]
    rfl
variable {code:Int}{one:Int→ap→Int × ap × dl}
theorem sN(hl:∀ s C,0<C.l.length→(one s C).2.1.l.length<C.l.length)(hE:∀ s C,du C (g7 dir code (one s C).2.2) (one s C).2.1) :
    ∀ (n:Nat) (s:Int) (C:ap) (L:List dl),C.l.length≤n→f8 C→(aX one n s C L).1.e=0→∃ L',(aX one n s C L).2=L++L'∧C.l=cE dir code L'
  | 0,s,C,L,h,_,_=>⟨[],by simp[aX],by simpa [cE] using h⟩
  | n+1,s,C,L,h,hr,he=>by
    unfold aX at he ⊢
    split at he
    · rename_i hc
      rw[if_pos hc]
      simp only[Bool.and_eq_true,decide_eq_true_eq,beq_iff_eq] at hc
      have h1:=hl s C (by omega)
      obtain⟨h2,h3⟩:=hE s C hr
      split at he
      · rename_i hn
        rw[he] at hn
        cases hn
      · rename_i hn
        rw[if_neg hn]
        have h4:(one s C).2.1.e=0:=by simpa using hn
        obtain⟨L',h5,h6⟩:=sN hl hE n (one s C).1 (one s C).2.1 (L++[(one s C).2.2]) (by omega) h2 he
        refine⟨(one s C).2.2 :: L',by rw[h5];simp,?_⟩
        rw[(h3 h4).2,h6]
        rfl
    · rename_i hc
      rw[if_neg hc]
      have he:C.e=0:=he
      refine⟨[],by simp,?_⟩
      have:C.l=[]:=by
        apply List.eq_nil_of_length_eq_zero
        simp only[he,Bool.and_eq_true,decide_eq_true_eq,beq_self_eq_true,and_true] at hc
        omega
      rw[this]
      rfl
theorem Bm(C:ap) : du C [6] (jd C):=((du.refl C).byte.need).conv fun hr _ he=>by
  have h:=(ft (by decide) he).2
  simp only[beq_iff_eq] at h
  rw[h]
  rfl
theorem s0(C:ap) : du C ([6]++aN [(aW C).file,(aW C).record,(aW C).count]) (dR C):=by
  have hE1:du C _ (jO C):=(Bm C).word.need
  have hE2:du C _ (o4 C):=hE1.word.need
  have hE3:du C _ (dR C):=hE2.word.need
  exact hE3
theorem uP(s:Int)(C:ap) : du C (g7 0 20 (dj s C).2.2) (dj s C).2.1:=by
  have h:du C _ (fb s C):=(s0 C).need
  exact h.conv fun _ _ _=>rfl
theorem vf(dir s:Int)(C:ap) : du C (g7 dir 21 (dr s C).2.2) (dr s C).2.1:=by
  have h:du C _ (oD C):=(s0 C).need
  exact(h.words (o4 C).wordV).conv fun _ _ _=>rfl
theorem ve(s:Int)(C:ap) : du C (g7 1 20 (bQ s C).2.2) (bQ s C).2.1:=by
  have hE1:du C _ (iy C):=(du.refl C).byte.need
  have hE2:du C _ (ff C):=hE1.byte.need
  refine(hE2.words (Int.tdiv (C.byteV-1) 2)).conv fun hr _ he=>?_
  obtain⟨h1,_,h2⟩:=kF (hE2 hr).1 he
  obtain⟨h3,h4⟩:=ft (by decide) h1
  obtain⟨h5,h6⟩:=ft (by decide) (gV h3).1
  have hb:=d9 hr
  simp only[Bool.and_eq_true,decide_eq_true_eq,beq_iff_eq] at h4 h6
  have h7:(1+2*(((ff C).wordsR (Int.tdiv (C.byteV-1) 2)).length:Int))%256=C.byteV:=by
    rw[h2,Int.tdiv_eq_ediv_of_nonneg (by omega)]
    omega
  show _=[(1+2*(((ff C).wordsR (Int.tdiv (C.byteV-1) 2)).length:Int))%256,6]++aN ((ff C).wordsR (Int.tdiv (C.byteV-1) 2))
  rw[h7,h4]
  rfl
theorem jC(hl:∀ s C,0<C.l.length→(one s C).2.1.l.length<C.l.length)(hE:∀ s C,du C (g7 dir code (one s C).2.2) (one s C).2.1){may:Int→Bool}   (hr:f8 C)
    (he:(dm one may c C).1.endC.e=0) : [((cE dir code (oe one may C).2).length:Int)%256]++cE dir code (oe one may C).2=C.l:=by
  have hE0:du C _ (l7 may C):=(du.refl C).byte.need
  have hE1:=hE0.bytes C.byteV
  have hb:=d9 hr
  unfold ap.endC at he
  obtain⟨h0,a⟩:=ft (by decide) he
  unfold dm at h0 a
  have hw:bB (oe one may C).1.e≠0∨(oe one may C).1.e=0:=by
    by_cases hz:(oe one may C).1.e=0
    · exact Or.inr hz
    · left
      unfold bB
      split
      · decide
      · exact hz
  have h1:((l7 may C).bytesC C.byteV).e=0∧(oe one may C).1.e=0:=by
    rcases hw with hw|hw
    · obtain⟨h2,h3⟩:=ft hw h0
      exact⟨h2,by simpa using h3⟩
    · rw[hw] at h0
      refine⟨?_,hw⟩
      unfold ap.need at h0
      rw[if_neg (by rintro⟨_,hx⟩;cases hx)] at h0
      exact h0
  obtain⟨h2,h3,h4⟩:=gV h1.1
  have h5:((l7 may C).bytesC C.byteV).l=[]:=by
    rw[jm] at a
    simp only[beq_iff_eq] at a
    exact List.eq_nil_of_length_eq_zero (by omega)
  have h6:C.l=[C.byteV]++(l7 may C).bytesR C.byteV:=by
    rw[((hE1 hr).2 h1.1).2,h5]
    simp
  have hB:f8 (wq may C):=fun x hx=>hr x (by rw[h6];exact List.mem_append_right _ hx)
  obtain⟨L',h7,h8⟩:=sN hl hE (wq may C).l.length 0 (wq may C) [] (Nat.le_refl _) hB h1.2
  have h9:(oe one may C).2=L':=by unfold oe;rw[h7];rfl
  have b:cE dir code L'=(l7 may C).bytesR C.byteV:=h8.symm
  rw[h9,b,h4,Int.emod_eq_of_lt hb.1 hb.2,h6]
theorem lX(dir:Int)(M:aS) : dg dir M=[((cE dir M.code M.recs).length:Int)%256]++cE dir M.code M.recs:=by
  unfold dg
  simp
theorem yb(hd:dir=0∨dir=1)(hr:f8 C)(h:bg dir c C=some (C',M))(he:C'.endC.e=0) : dg dir M=C.l:=by
  rw[lX]
  unfold bg at h
  split at h
  · rename_i hc
    obtain rfl:c=20:=by simpa using hc
    rcases hd with rfl|rfl
    · have h:some (dm dj iS 20 C)=some (C',M):=h
      obtain⟨rfl,rfl⟩:=bF h
      exact jC ms uP hr he
    · have h:some (dm bQ iF 20 C)=some (C',M):=h
      obtain⟨rfl,rfl⟩:=bF h
      exact jC ju ve hr he
  split at h
  · rename_i hc
    obtain rfl:c=21:=by simpa using hc
    obtain⟨rfl,rfl⟩:=bF h
    exact jC mr (vf dir) hr he
  · cases h
variable {b:List Int}
theorem gB{form:Int→Int→ap→Option (ap × aS)}{lay:Int→aS→List Int}(hf:∀ {dir c:Int}{C C':ap}{M:aS},(dir=0∨dir=1)→f8 C→form dir c C=some (C',M)→C'.endC.e=0→lay dir M=C.l)
       (hd:dir=0∨dir=1) (hr:∀ x,x∈b→0≤x∧x<256) (h:ak form dir c b=(M,0)) : lay dir M=b:=by
  unfold ak at h
  rw[if_pos hd] at h
  split at h
  · cases h
  · rename_i r hr'
    unfold bC at h
    split at h
    · rename_i he
      injection h with h
      obtain⟨C',M'⟩:=r
      have h:M'=M:=h
      subst h
      exact hf (C:=⟨b,false,0⟩) hd hr hr' he
    · rename_i he
      injection h with _ h
      exact absurd h he
theorem fF{parse:Int→Int→List Int→aS × Int}{lay:Int→aS→List Int}    (h1:lay dir M=l)(h2:parse dir M.code l=(M,0)) : bt parse lay dir M=some l:=by
  unfold bt
  rw[h1,if_pos h2]
variable {k:Nat}
theorem AO(hd:dir=0∨dir=1)(hr:∀ x,x∈b→0≤x∧x<256)(h:ir k dir b=(M,0))(hc:M.code=b.getD 0 0) : i6 k dir M=some (b.drop 1):=by
  have hr':∀ x,x∈b.drop 1→0≤x∧x<256:=fun x hx=>hr x (List.mem_of_mem_drop hx)
  unfold ir at h
  split at h
  · exact fF (gB zg hd hr' h) (by rw[hc];exact h)
  · exact fF (gB BY hd hr' h) (by rw[hc];exact h)
  · exact fF (gB Af hd hr' h) (by rw[hc];exact h)
  · exact fF (gB yb hd hr' h) (by rw[hc];exact h)
  · exact fF (gB zj hd hr' h) (by rw[hc];exact h)
  · cases h
variable {x:Int}
theorem sK(h:cU x=true) : (x != 0)=true:=by
  unfold cU at h
  simp only[decide_eq_true_eq,List.mem_cons,List.not_mem_nil,or_false] at h
  simp only[bne_iff_ne]
  omega
theorem vp(h:ee x=true) : 0<x∧x<128:=by
  unfold ee at h
  simp only[decide_eq_true_eq,List.mem_cons,List.not_mem_nil,or_false] at h
  omega
theorem kO(hd:dir=0∨dir=1)(hr:∀ x,x∈b→0≤x∧x<256)(h:ci dir b=(M,0)) : cZ dir M=some b:=by
  unfold ci at h
  split at h
  · cases h
  split at h
  · cases h
  split at h
  · cases h
  rename_i h1 h2 h3
  simp only[beq_iff_eq] at h2
  simp only[decide_eq_true_eq] at h3
  obtain⟨x,t,rfl⟩ : ∃ x t,b=x :: t:=by
    cases b with
    | nil=>exact absurd rfl h2
    | cons x t=>exact⟨x,t,rfl⟩
  have hx:=hr x (by simp)
  split at h
  · rename_i hq
    simp only[Bool.and_eq_true,decide_eq_true_eq,beq_iff_eq] at hq
    obtain⟨rfl,k1,k2,k3,k4⟩:=uG h
    have k5:=vp k2
    unfold cZ
    rw[if_pos (show((i5 _ ((x :: t).getD 1 0)).fail != 0)=true from sK k3)]
    rw[if_neg (by rw[hq.2];decide)]
    unfold oG
    have k6:gU (i5 (((x :: t).getD 0 0-128)%256) ((x :: t).getD 1 0)).code (i5 (((x :: t).getD 0 0-128)%256) ((x :: t).getD 1 0)).fail=true:=by
      show gU (((x :: t).getD 0 0-128)%256) ((x :: t).getD 1 0)=true
      unfold gU
      rw[k2,k3]
      have:(((x :: t).getD 0 0-128)%256 != 0)=true:=by simp only[bne_iff_ne];omega
      rw[this]
      rfl
    rw[k6]
    have k7:decide (i5 (((x :: t).getD 0 0-128)%256) ((x :: t).getD 1 0)=i5 (i5 (((x :: t).getD 0 0-128)%256) ((x :: t).getD 1 0)).code (i5 (((x :: t).getD 0 0-128)%256) ((x :: t).getD 1 0)).fail)=true:=decide_eq_true rfl
    rw[k7]
    show some [(((x-128)%256)+128)%256,(x :: t).getD 1 0]=some (x :: t)
    match t,k4 with
    | [y],_ =>
      rw[show(((x-128)%256)+128)%256=x from by omega]
      rfl
  · obtain⟨_,k1⟩:=wK hd h
    obtain⟨k2,k3⟩:=k1 rfl
    have k4:=AO hd hr h k2
    unfold cZ
    rw[if_neg (by rw[k3];decide),k2,k4]
    show(if decide (253≤(t.length:Int))=true then none else some ([x]++t))=some (x :: t)
    rw[if_neg (by simp only[decide_eq_true_eq];simp only[List.length_cons] at h3;omega)]
    rfl
end Go.Proofs.YtdkhbcefkfgbdaaGreat
namespace Go.Proofs.YtdkhbcefkfgbdaaGreat
theorem nX(C:ap)(n:Int) : (C.bytesR n).length≤C.l.length:=by
  unfold ap.bytesR
  split
  · simp
  · rw[List.length_take];omega
theorem vv(C:ap)(n:Int) : (C.wordsR n).length≤C.l.length:=by
  have h:=nX C (2*n)
  unfold ap.wordsR
  split
  · simp
  · unfold cw
    split
    · rw[fl];omega
    · simp
def Sh (C C':ap) : Prop:=C'.l.length≤C.l.length
theorem Sh.refl(C:ap) : Sh C C:=Nat.le_refl _
variable {A C:ap}{n:Int}
theorem Sh.bytes(h:Sh A C)  : Sh A (C.bytesC n):=Nat.le_trans (ke C n) h
theorem Sh.words(h:Sh A C)  : Sh A (C.wordsC n):=Nat.le_trans (fG C n) h
theorem Sh.need(h:Sh A C){b:Bool}{e:Int}:Sh A (C.need b e):=by unfold Sh;rw[fm];exact h
variable {k:Nat}
theorem Sh.bR(h:Sh A C)(n:Int)  (hk:A.l.length≤k) : (C.bytesR n).length≤k:=Nat.le_trans (nX C n) (Nat.le_trans h hk)
theorem Sh.wR(h:Sh A C)(n:Int)  (hk:A.l.length≤k) : (C.wordsR n).length≤k:=Nat.le_trans (vv C n) (Nat.le_trans h hk)
variable {M:aS}
theorem fz(h1:M.words.length≤252)(h2:M.bits.length≤2016)(h3:M.data.length≤252)(h4:M.recs=[])(h5:M.objects=[]) : bh M :=
  ⟨by omega,by omega,by omega,by rw[h4];decide,(by rw[h4];exact fun r h=>nomatch h),by rw[h5];decide,(by rw[h5];exact fun r h=>nomatch h)⟩
theorem et(M:aS)(h1:M.words=[])(h2:M.bits=[])(h3:M.data=[])(h4:M.recs=[])(h5:M.objects=[]) : bh M:=fz (by rw[h1];decide) (by rw[h2];decide) (by rw[h3];decide) h4 h5
theorem Aa(C:ap)(m:Int) : Sh C (cz C m):=((Sh.refl C).words.words.need).need
theorem mE(h:Sh A C)(a m:Int) : Sh A (bI C a m):=(h.words.need).need
variable {b:List Int}
theorem tZ{l:List Bool}(h:cG b n=some l) : l.length≤8*b.length:=by
  unfold cG at h
  split at h
  · rename_i hc
    split at h
    · injection h with h
      subst h
      have:=hc.2
      rw[List.length_map,List.length_range]
      unfold ep at this
      split at this<;>omega
    · cases h
  · cases h
variable {C':ap}{c dir:Int}
theorem wQ(hl:C.l.length≤252)(h:aR dir c C=some (C',M)) : bh M:=by
  unfold aR at h
  repeat' split at h
  all_goals first | (cases h;done) | obtain⟨rfl,rfl⟩:=bF h
  · exact et _ rfl rfl rfl rfl rfl
  · exact fz (Nat.zero_le _) (Nat.zero_le _) (((Sh.refl C).bytes.need).bR _ hl) rfl rfl
  · exact et _ rfl rfl rfl rfl rfl
  · refine fz (Nat.zero_le _) ?_ (Nat.zero_le _) rfl rfl
    show((qK C).getD []).length≤2016
    cases hu:qK C with
    | none=>simp
    | some l =>
      have h1:=tZ hu
      have h2:((iB C).bytesR (oC C)).length≤252:=((Aa C 1968).bytes.need).bR _ hl
      simp only[Option.getD_some]
      omega
  · exact et _ rfl rfl rfl rfl rfl
theorem yc(hl:C.l.length≤252)(h:aY dir c C=some (C',M)) : bh M:=by
  unfold aY at h
  repeat' split at h
  all_goals first | (cases h;done) | obtain⟨rfl,rfl⟩:=bF h
  · exact et _ rfl rfl rfl rfl rfl
  · exact fz (((Sh.refl C).bytes.need).wR _ hl) (Nat.zero_le _) (Nat.zero_le _) rfl rfl
  · exact et _ rfl rfl rfl rfl rfl
  · exact fz (((mE (Sh.refl C).words _ _).bytes.need).wR _ hl) (Nat.zero_le _) (Nat.zero_le _) rfl rfl
  · exact et _ rfl rfl rfl rfl rfl
  · exact et _ rfl rfl rfl rfl rfl
  · exact fz (((mE (mE (Sh.refl C).words _ _).words _ _).bytes.need).wR _ hl) (Nat.zero_le _) (Nat.zero_le _) rfl rfl
  · exact fz (((Sh.refl C).bytes.need).wR _ hl) (Nat.zero_le _) (Nat.zero_le _) rfl rfl
  · exact et _ rfl rfl rfl rfl rfl
  · exact fz ((((Sh.refl C).words.need).words.need).wR _ hl) (Nat.zero_le _) (Nat.zero_le _) rfl rfl
theorem zA(hl:C.l.length≤252)(h:bo dir c C=some (C',M)) : bh M:=by
  unfold bo at h
  repeat' split at h
  all_goals first | (cases h;done) | obtain⟨rfl,rfl⟩:=bF h
  · unfold eM
    split
    · exact fz (((Sh.refl C).words.need).wR _ hl) (Nat.zero_le _) (Nat.zero_le _) rfl rfl
    · exact fz (((Sh.refl C).words.need.need).wR _ hl) (Nat.zero_le _) (Nat.zero_le _) rfl rfl
  · unfold cV
    have h1:Sh C (fp C 6 70):=(Sh.refl C).bytes.need
    have h2:Sh C (dS (fp C 6 70)):=h1.words.need
    repeat' split
    · exact et _ rfl rfl rfl rfl rfl
    · exact et _ rfl rfl rfl rfl rfl
    · exact fz (Nat.zero_le _) (Nat.zero_le _) (h2.words.words.bR _ hl) rfl rfl
    · exact fz (Nat.zero_le _) (Nat.zero_le _) (Sh.bR (C:=fp C 1 251) ((Sh.refl C).bytes.need) _ hl) rfl rfl
    · exact et _ rfl rfl rfl rfl rfl
  · exact et _ rfl rfl rfl rfl rfl
theorem sE:∀ (L:List Obj),2*L.length≤(eT L).length∧∀ o,o∈L→o.value.length≤(eT L).length
  | []=>⟨by simp[eT],fun o h=>nomatch h⟩
  | x :: L=>by
    obtain⟨h1,h2⟩:=sE L
    have h3:(eT (x :: L)).length=2+x.value.length+(eT L).length:=by simp[eT];omega
    refine⟨by rw[h3,List.length_cons];omega,fun o ho=>?_⟩
    rcases List.mem_cons.1 ho with rfl|ho
    · omega
    · have:=h2 o ho
      omega
theorem AJ(hd:dir=0∨dir=1)(hr:f8 C)(hl:C.l.length≤252)(h:bJ dir c C=some (C',M))(he:C'.endC.e=0) : bh M:=by
  have hb:=zj hd hr h he
  have hA:Sh C (dF C):=(Sh.refl C).bytes.need
  unfold bJ at h
  repeat' split at h
  all_goals first | (cases h;done) | obtain⟨rfl,rfl⟩:=bF h
  · exact fz (Nat.zero_le _) (Nat.zero_le _) (Sh.bR (C:=ga C) hA.need _ hl) rfl rfl
  · rename_i hm hc
    obtain rfl:dir=1:=by simpa using hc
    unfold dA at hb
    rw[if_neg (show ¬ (C.byteV==13)=true from hm),if_neg (by decide)] at hb
    have h1:=congrArg List.length hb
    rw[List.length_append] at h1
    obtain⟨h2,h3⟩:=sE (dN (dF C).byteV (eG C)).2
    have h1:6+(eT (dN (dF C).byteV (eG C)).2).length=C.l.length:=h1
    refine⟨Nat.zero_le _,Nat.zero_le _,Nat.zero_le _,Nat.zero_le _,(fun r h=>nomatch h),?_,?_⟩
    · show(dN (dF C).byteV (eG C)).2.length≤128
      omega
    · intro o ho
      have:=h3 o ho
      omega
  · exact et _ rfl rfl rfl rfl rfl
variable {code:Int}
theorem nB:∀ (L:List dl),(∀ r,r∈L→4≤(g7 dir code r).length)→4*L.length≤(cE dir code L).length∧∀ r,r∈L→r.words.length≤(cE dir code L).length
  | [],_=>⟨by simp[cE],fun o h=>nomatch h⟩
  | x :: L,h=>by
    obtain⟨h1,h2⟩:=nB L fun r hr=>h r (by simp[hr])
    have h3:(cE dir code (x :: L)).length=(g7 dir code x).length+(cE dir code L).length:=by simp[cE]
    have h4:=h x (by simp)
    have h5:x.words.length≤(g7 dir code x).length:=by
      have:=ax x.words
      unfold g7
      rw[List.length_append]
      omega
    refine⟨by rw[h3,List.length_cons];omega,fun o ho=>?_⟩
    rcases List.mem_cons.1 ho with rfl|ho
    · omega
    · have:=h2 o ho
      omega
variable {one:Int→ap→Int × ap × dl}
theorem rE{P:dl→Prop}  (hE:∀ s C,du C (g7 dir code (one s C).2.2) (one s C).2.1)(hP:∀ s C,f8 C→(one s C).2.1.e=0→P (one s C).2.2) :
    ∀ (n:Nat) (s:Int) (C:ap) (L:List dl),f8 C→(aX one n s C L).1.e=0→(∀ r,r∈L→P r)→∀ r,r∈(aX one n s C L).2→P r
  | 0,s,C,L,_,_,h=>h
  | n+1,s,C,L,hr,he,h=>by
    unfold aX at he ⊢
    split at he
    · rename_i hc
      rw[if_pos hc]
      split at he
      · rename_i hn
        rw[he] at hn
        cases hn
      · rename_i hn
        rw[if_neg hn]
        have h4:(one s C).2.1.e=0:=by simpa using hn
        exact rE hE hP n _ _ _ ((hE s C) hr).1 he fun r hr'=>by
          rcases List.mem_append.1 hr' with h5|h5
          · exact h r h5
          · rw[List.mem_singleton.1 h5]
            exact hP s C hr h4
    · rename_i hc
      rw[if_neg hc]
      exact h
theorem D7(s:Int)(C:ap)(hr:f8 C)(he:(bQ s C).2.1.e=0) : 4≤(g7 1 20 (bQ s C).2.2).length:=by
  have hE1:du C _ (iy C):=(du.refl C).byte.need
  have hE2:du C _ (ff C):=hE1.byte.need
  obtain⟨h1,_,h2⟩:=kF (hE2 hr).1 (show((ff C).wordsC (Int.tdiv (C.byteV-1) 2)).e=0 from he)
  obtain⟨h3,_⟩:=ft (by decide) h1
  obtain⟨_,h6⟩:=ft (by decide) (gV h3).1
  simp only[Bool.and_eq_true,decide_eq_true_eq,beq_iff_eq] at h6
  rw[Int.tdiv_eq_ediv_of_nonneg (by omega)] at h2
  have h7:=ax ((ff C).wordsR (Int.tdiv (C.byteV-1) 2))
  show 4≤([_,6]++aN ((ff C).wordsR (Int.tdiv (C.byteV-1) 2))).length
  rw[List.length_append,h7,Int.tdiv_eq_ediv_of_nonneg (by omega)]
  simp only[List.length_cons,List.length_nil]
  omega
theorem zr(dir code:Int)(r:dl)(h:(code==20&&dir==1)=false) : 4≤(g7 dir code r).length:=by
  unfold g7
  rw[h]
  simp[aN]
theorem kp(hl:∀ s C,0<C.l.length→(one s C).2.1.l.length<C.l.length)(hE:∀ s C,du C (g7 dir code (one s C).2.2) (one s C).2.1)
    (hP:∀ s C,f8 C→(one s C).2.1.e=0→4≤(g7 dir code (one s C).2.2).length) {may:Int→Bool}   (hr:f8 C) (hl':C.l.length≤252)
    (he:(dm one may c C).1.endC.e=0) : bh (dm one may c C).2:=by
  have hb:=jC hl hE hr he
  have h1:=congrArg List.length hb
  rw[List.length_append] at h1
  have h1:1+(cE dir code (oe one may C).2).length=C.l.length:=h1
  have h2:(oe one may C).1.e=0:=by
    unfold ap.endC at he
    obtain⟨h0,_⟩:=ft (by decide) he
    unfold dm at h0
    by_cases hz:(oe one may C).1.e=0
    · exact hz
    · have hw:bB (oe one may C).1.e≠0:=by
        unfold bB
        split
        · decide
        · exact hz
      simpa using (ft hw h0).2
  have hB:f8 (wq may C):=fun x hx=>hr x (by
    have h5:x∈(l7 may C).l:=by
      have:x∈(l7 may C).bytesR C.byteV:=hx
      unfold ap.bytesR at this
      split at this
      · cases this
      · exact List.mem_of_mem_take this
    have h6:x∈(C.bytesC 1).l:=by unfold l7 at h5;rwa [jm] at h5
    unfold ap.bytesC at h6
    split at h6
    · rw[jm] at h6
      cases h6
    · exact List.mem_of_mem_drop h6)
  have h3:=rE (P:=fun r=>4≤(g7 dir code r).length) hE hP (wq may C).l.length 0 (wq may C) [] hB h2 (fun r h=>nomatch h)
  obtain⟨h4,h5⟩:=nB (dir:=dir) (code:=code) (oe one may C).2 h3
  refine⟨Nat.zero_le _,Nat.zero_le _,Nat.zero_le _,?_,?_,Nat.zero_le _,(fun r h=>nomatch h)⟩
  · show(oe one may C).2.length≤64
    omega
  · intro r hr'
    have:=h5 r hr'
    omega
theorem vM(hd:dir=0∨dir=1)(hr:f8 C)(hl:C.l.length≤252)(h:bg dir c C=some (C',M))(he:C'.endC.e=0) : bh M:=by
  unfold bg at h
  split at h
  · rename_i hc
    obtain rfl:c=20:=by simpa using hc
    rcases hd with rfl|rfl
    · have h:some (dm dj iS 20 C)=some (C',M):=h
      obtain⟨rfl,rfl⟩:=bF h
      exact kp ms uP (fun _ _ _ _=>zr _ _ _ rfl) hr hl he
    · have h:some (dm bQ iF 20 C)=some (C',M):=h
      obtain⟨rfl,rfl⟩:=bF h
      exact kp ju ve D7 hr hl he
  split at h
  · rename_i hc
    obtain rfl:c=21:=by simpa using hc
    obtain⟨rfl,rfl⟩:=bF h
    exact kp mr (vf dir) (fun _ _ _ _=>zr _ _ _ rfl) hr hl he
  · cases h
theorem eA:bh aS.zero:=et _ rfl rfl rfl rfl rfl
variable {E:Int}
theorem gI{form:Int→Int→ap→Option (ap × aS)}(hf:∀ {dir c:Int}{C C':ap}{M:aS},(dir=0∨dir=1)→f8 C→C.l.length≤252→form dir c C=some (C',M)→C'.endC.e=0→bh M)
        (hr:∀ x,x∈b→0≤x∧x<256) (hl:b.length≤252) (h:ak form dir c b=(M,E)) : bh M∧(E≠0→M=aS.zero):=by
  unfold ak at h
  split at h
  · rename_i hd
    split at h
    · injection h with h1 h2
      subst h1 h2
      exact⟨eA,fun _=>rfl⟩
    · rename_i r hr'
      unfold bC at h
      split at h
      · rename_i he
        injection h with h1 h2
        obtain⟨C',M'⟩:=r
        have h1:M'=M:=h1
        subst h1
        exact⟨hf (C:=⟨b,false,0⟩) hd hr hl hr' he,fun hE=>absurd h2.symm hE⟩
      · injection h with h1 h2
        subst h1
        exact⟨eA,fun _=>rfl⟩
  · injection h with h1 h2
    subst h1
    exact⟨eA,fun _=>rfl⟩
theorem zk(hr:∀ x,x∈b→0≤x∧x<256)(hl:b.length≤253)(h:ir k dir b=(M,E)) : bh M∧(E≠0→M=aS.zero):=by
  have hr':∀ x,x∈b.drop 1→0≤x∧x<256:=fun x hx=>hr x (List.mem_of_mem_drop hx)
  have hl':(b.drop 1).length≤252:=by rw[List.length_drop];omega
  unfold ir at h
  split at h
  · exact gI (fun _ _ hl h _=>wQ hl h) hr' hl' h
  · exact gI (fun _ _ hl h _=>yc hl h) hr' hl' h
  · exact gI (fun _ _ hl h _=>zA hl h) hr' hl' h
  · exact gI vM hr' hl' h
  · exact gI AJ hr' hl' h
  · injection h with h1 h2
    subst h1
    exact⟨eA,fun _=>rfl⟩
theorem yI(h:fd b=(M,E)) : bh M∧(E≠0→M=aS.zero):=by
  unfold fd at h
  repeat' split at h
  all_goals (injection h with h1 h2;subst h1)
  all_goals first | exact⟨eA,fun _=>rfl⟩ | exact⟨et _ rfl rfl rfl rfl rfl,fun hE=>absurd h2.symm hE⟩
theorem mO(hr:∀ x,x∈b→0≤x∧x<256)(h:ci dir b=(M,E)) : bh M∧(E≠0→M=aS.zero):=by
  unfold ci at h
  split at h
  · injection h with h1 h2;subst h1;exact⟨eA,fun _=>rfl⟩
  split at h
  · injection h with h1 h2;subst h1;exact⟨eA,fun _=>rfl⟩
  split at h
  · injection h with h1 h2;subst h1;exact⟨eA,fun _=>rfl⟩
  rename_i h3
  simp only[decide_eq_true_eq] at h3
  split at h
  · exact yI h
  · exact zk hr (by omega) h
open Go.RowKit
variable {a:Int}
theorem EO{r:List Int}(ha:0≤a∧a<65536) : (ap.mk (aN [a]++r) false 0).wordV=a∧(ap.mk (aN [a]++r) false 0).wordsC 1=⟨r,false,0⟩:=by
  have hb:(ap.mk (aN [a]++r) false 0).wbad 1=false:=by
    unfold ap.wbad
    simp only[aN,List.length_append,List.length_cons,List.length_nil,Bool.or_eq_false_iff,decide_eq_false_iff_not]
    omega
  have hf:(ap.mk (aN [a]++r) false 0).fails (2*1)=false:=by
    unfold ap.fails
    simp[aN]
    omega
  constructor
  · unfold ap.wordV ap.wordsR ap.bytesR
    rw[hb,hf]
    show(cw [a/256,a%256]).getD 0 0=a
    unfold cw
    rw[if_pos (by simp)]
    show a/256*256+a%256=a
    omega
  · unfold ap.wordsC ap.bytesC
    rw[hb,hf]
    rfl
end Go.Proofs.YtdkhbcefkfgbdaaGreat
namespace Go.Proofs.YtdkhbcefkfgbdaaGreat
theorem gD(u:Int)(l:List Int) : (jf u l).length=3+l.length:=by simp[jf,cg];omega
variable {M:aS}{b:List Int}{dir t u:Int}
theorem jw(h:fL dir u t M=some b) : t=0∧∃ l,cZ dir M=some l∧b=jf u l∧l.length≤253:=by
  unfold fL at h
  split at h
  · cases h
  · rename_i l hl
    have hle:=ie hl
    split at h
    · cases h
    · rename_i ht
      injection h with h
      exact⟨by simpa using ht,l,hl,h.symm,hle⟩
theorem AP(hc:0≤M.code∧M.code<256)(h:fL dir u t M=some b) : 4≤b.length∧b.length≤256:=by
  obtain⟨_,l,h1,rfl,h2⟩:=jw h
  have:=iq hc h1
  rw[gD]
  omega
theorem pa(u:Int)(l:List Int) : (jf u l).take ((jf u l).length-2)=[u]++l:=by
  rw[gD,show 3+l.length-2=([u]++l).length from by simp;omega]
  exact List.take_left' rfl
theorem wb(u:Int)(l:List Int) : (jf u l).drop ((jf u l).length-2)=cg (cc 65535 ([u]++l)):=by
  rw[gD,show 3+l.length-2=([u]++l).length from by simp;omega]
  exact List.drop_left' rfl
theorem Bb(u:Int)(l:List Int) : dK (jf u l)=true:=by
  unfold dK
  rw[pa,wb,gD]
  simp only[decide_true,Bool.and_true,decide_eq_true_eq]
  omega
theorem y5(u:Int)(l:List Int) : fI (jf u l)=l:=by
  unfold fI
  rw[pa]
  rfl
variable {l:List Int}
theorem D9(hd:dir=0∨dir=1)(h:0<l.length)(h2:l.length≤253) : e8 dir (jf u l)=bU u 0 (ci dir l):=by
  unfold e8
  rw[Bb,y5]
  rw[if_neg (show ¬ (dir != 0&&dir != 1)=true by rcases hd with rfl | rfl<;>decide),if_neg (by rw[gD];simp only[decide_eq_true_eq];omega),if_neg (by rw[gD];simp only[decide_eq_true_eq];omega),if_neg (by decide)]
  rfl
theorem CP(hd:dir=0∨dir=1)(hc:0≤M.code∧M.code<256)(hf:0≤M.fail∧M.fail<256)(h:fL dir u t M=some b) : e8 dir b=(⟨u,t,M⟩,0):=by
  obtain⟨rfl,l,h1,rfl,h2⟩:=jw h
  rw[D9 hd (iq hc h1) h2,qE hd hc hf h1]
  rfl
theorem yR(hl:3≤b.length)(h:dK b=true) : ∃ u l,b=jf u l:=by
  unfold dK at h
  rw[Bool.and_eq_true,decide_eq_true_eq,decide_eq_true_eq] at h
  obtain⟨h1,h2⟩:=h
  cases hb:b.take (b.length-2) with
  | nil =>
    have:=congrArg List.length hb
    rw[List.length_take,List.length_nil] at this
    omega
  | cons u l =>
    refine⟨u,l,?_⟩
    conv=>lhs;rw[← List.take_append_drop (b.length-2) b,← h2,hb]
    rfl
variable {E:Int}{F:cy}
theorem xD(hr:∀ x,x∈b→0≤x∧x<256)(h:e8 dir b=(F,E)) : bh F.msg∧(E≠0→F=cy.zero):=by
  have hz:∀ k:Int,((cy.zero,k) : cy × Int)=(F,E)→bh F.msg∧(E≠0→F=cy.zero):=fun k h=>by
    injection h with h1 h2
    subst h1
    exact⟨eA,fun _=>rfl⟩
  unfold e8 at h
  split at h
  · exact hz _ h
  split at h
  · exact hz _ h
  split at h
  · exact hz _ h
  split at h
  · exact hz _ h
  cases hp:ci dir (fI b) with
  | mk M E' =>
    rw[hp] at h
    obtain⟨k1,k2⟩:=mO (fun x hx=>hr x (List.mem_of_mem_take (List.mem_of_mem_drop hx))) hp
    have h:(if (E' != 0)=true then ((cy.zero,E') : cy × Int) else (⟨_,_,M⟩,0))=(F,E):=h
    split at h
    · exact hz _ h
    · injection h with h5 h6
      subst h5
      exact⟨k1,fun hE=>absurd h6.symm hE⟩
variable {r:Option (List Int)}
theorem yJ(hd:dir=0∨dir=1)(hr:∀ x,x∈b→0≤x∧x<256)(h:e8 dir b=(F,E))(hE:(E==0)=true)(hW:fL dir F.unit F.tid F.msg=r) : r=some b∧4≤b.length∧b.length≤256:=by
  obtain rfl:E=0:=by simpa using hE
  unfold e8 at h
  split at h
  · cases h
  split at h
  · cases h
  split at h
  · cases h
  split at h
  · cases h
  rename_i h1 h2 h3 h4
  simp only[decide_eq_true_eq] at h2 h3
  have h4:dK b=true:=by simpa using h4
  obtain⟨u,l,rfl⟩:=yR (by omega) h4
  rw[y5] at h
  have h:bU u 0 (ci dir l)=(F,0):=h
  cases hp:ci dir l with
  | mk M E' =>
    rw[hp] at h
    have h:(if (E' != 0)=true then ((cy.zero,E') : cy × Int) else (⟨_,_,M⟩,0))=(F,0):=h
    split at h
    · rename_i h5
      injection h with _ h6
      subst h6
      cases h5
    · rename_i h5
      injection h with h6 _
      subst h6
      obtain rfl:E'=0:=by simpa using h5
      have h7:=kO hd (fun x hx=>hr x (by unfold jf;simp[hx])) hp
      rw[← hW]
      refine⟨?_,by omega,by omega⟩
      show fL dir u 0 M=_
      unfold fL
      rw[h7]
      simp
open Go.RowKit
def pI (u:Int)(l:List Int) : List Int:=([u]++l)++[cv ([u]++l)]
theorem kx(u:Int)(l:List Int) : (pI u l).length=l.length+2:=by simp[pI]
theorem tS(u:Int)(l:List Int) : nF u l=([58]++dh (pI u l))++[13,10]:=rfl
theorem qU(u:Int)(l:List Int) : (nF u l).length=2*l.length+7:=by
  rw[tS]
  simp only[List.length_append,List.length_cons,List.length_nil,dV,kx]
  omega
theorem wP(hu:0≤u∧u<256)(hl:dx l) : dx (pI u l):=by
  refine gz (gz ?_ hl) ?_
  · intro x hx;rw[List.mem_singleton] at hx;rw[hx];exact hu
  · intro x hx;rw[List.mem_singleton] at hx;rw[hx];exact jv _
theorem jx(h:fT dir u t M=some b) : t=0∧∃ l,cZ dir M=some l∧b=nF u l∧l.length≤253:=by
  unfold fT at h
  split at h
  · cases h
  · rename_i l hl
    have hle:=ie hl
    split at h
    · cases h
    · rename_i ht
      injection h with h
      exact⟨by simpa using ht,l,hl,h.symm,hle⟩
theorem AE(hc:0≤M.code∧M.code<256)(h:fT dir u t M=some b) : 9≤b.length∧b.length≤513:=by
  obtain⟨_,l,h1,rfl,h2⟩:=jx h
  have:=iq hc h1
  rw[qU]
  omega
theorem sm(s:List Int) : (([58]++s)++[13,10]).drop 1=s++[13,10]:=rfl
theorem Bo(s:List Int) : gj (s++[13,10])=true:=by
  unfold gj
  have e:(((s++[13,10]).length:Nat) : Int)=(s.length:Int)+2:=by simp
  have e2:((s.length:Int)+2-2).toNat=s.length:=by omega
  rw[e,e2,List.drop_left' rfl]
  simp
  omega
theorem zq(s:List Int) : i1 (([58]++s)++[13,10])=some s:=by
  rw[zS rfl (by rw[sm];exact Bo s),sm]
  have e:(([58]++s)++[13,10]).length-3=s.length:=by simp
  rw[e,List.take_left' rfl]
variable {s:List Int}
theorem y1(h:i1 b=some s) : b=([58]++s)++[13,10]:=by
  obtain⟨h1,h2,rfl,h3⟩:=ls h
  cases b with
  | nil=>simp at h3
  | cons a r =>
    have ha:a=58:=h1
    subst ha
    have h2:gj r=true:=h2
    have h4:=nk h2
    unfold gj at h2
    simp only[Bool.and_eq_true,decide_eq_true_eq] at h2
    have h5:=h2.2
    rw[show(((r.length:Nat) : Int)-2).toNat=r.length-2 from by omega] at h5
    show 58 :: r=58 :: (r.take ((58 :: r).length-3)++[13,10])
    rw[show(58 :: r).length-3=r.length-2 from by simp only[List.length_cons];omega,← h5,List.take_append_drop]
theorem sr(a b:List Int) : ∀ k,k≤a.length→gk (a++b) k=gk a k
  | 0,_=>rfl
  | k+1,h=>by
    unfold gk
    rw[sr a b k (by omega),List.getD_eq_getElem?_getD,List.getD_eq_getElem?_getD,List.getElem?_append_left (by omega)]
theorem xm(a:List Int)(c:Int) : rY (a++[c])=(rY a+c)%256:=by
  unfold rY
  have e:(a++[c]).length=a.length+1:=by simp
  rw[e]
  show(gk (a++[c]) a.length+(a++[c]).getD a.length 0)%256=_
  rw[sr a [c] _ (Nat.le_refl _)]
  simp
variable {c:Int}
theorem mL{a:List Int}  (hc:0≤c∧c<256) : eq (a++[c])=true↔c=cv a:=by
  have h:=so a a.length
  unfold eq cv
  rw[xm]
  have hs:rY a=gk a a.length:=rfl
  simp only[Bool.and_eq_true,decide_eq_true_eq,beq_iff_eq,List.length_append,List.length_cons,List.length_nil]
  constructor
  · intro k;omega
  · intro k;omega
theorem Bg(u:Int)(l:List Int) : eq (pI u l)=true:=(mL (jv _)).2 rfl
theorem CE(u:Int)(l:List Int) : eL (pI u l)=l:=by
  unfold eL
  rw[kx,show l.length+2-1=([u]++l).length from by simp]
  unfold pI
  rw[List.take_left' rfl]
  rfl
theorem CK(hd:dir=0∨dir=1)(h:6≤s.length)(h2:s.length≤510) : ew dir (([58]++s)++[13,10])=match bT s with
      | none=>(cy.zero,11)
      | some x=>if !(eq x) then (cy.zero,10) else bU (x.getD 0 0) 0 (ci dir (eL x)):=by
  have hl:((([58]++s)++[13,10]).length:Int)=(s.length:Int)+3:=by simp;omega
  unfold ew
  rw[zq,hl]
  rw[if_neg (show ¬ (dir != 0&&dir != 1)=true by rcases hd with rfl | rfl<;>decide),if_neg (by simp only[decide_eq_true_eq];omega),if_neg (by simp only[decide_eq_true_eq];omega)]
  all_goals rfl
theorem Cw(hd:dir=0∨dir=1)(hu:0≤u∧u<256)(hb:dx l)(h:0<l.length)(h2:l.length≤253) : ew dir (nF u l)=bU u 0 (ci dir l):=by
  rw[tS,CK hd (by rw[dV,kx];omega) (by rw[dV,kx];omega),oR _ (wP hu hb)]
  show(if !(eq (pI u l)) then _ else _)=_
  rw[Bg,CE]
  rfl
theorem Cr(hd:dir=0∨dir=1)(hu:0≤u∧u<256)(hc:0≤M.code∧M.code<256)(hf:0≤M.fail∧M.fail<256)(hb:∀ l,cZ dir M=some l→dx l)(h:fT dir u t M=some b) : ew dir b=(⟨u,t,M⟩,0):=by
  obtain⟨rfl,l,h1,rfl,h2⟩:=jx h
  rw[Cw hd hu (hb l h1) (iq hc h1) h2,qE hd hc hf h1]
  rfl
theorem BR{x:List Int}(h:2≤x.length)(hb:dx x)(k:eq x=true) : x=pI (x.getD 0 0) (eL x):=by
  have hne:x≠[]:=fun e=>by rw[e] at h;simp at h
  obtain⟨y,c,rfl⟩ : ∃ y c,x=y++[c]:=⟨x.dropLast,x.getLast hne,(List.dropLast_concat_getLast hne).symm⟩
  have hc:=hb c (by simp)
  have h1:=(mL hc).1 k
  cases y with
  | nil=>simp at h
  | cons u l =>
    have e:eL ((u :: l)++[c])=l:=by
      unfold eL
      rw[show((u :: l)++[c]).length-1=(u :: l).length from by simp,List.take_left' rfl]
      rfl
    rw[e]
    show(u :: l)++[c]=([u]++l)++[cv ([u]++l)]
    rw[h1]
    rfl
theorem y8(h:ew dir b=(F,E)) : bh F.msg∧(E≠0→F=cy.zero):=by
  have hz:∀ k:Int,((cy.zero,k) : cy × Int)=(F,E)→bh F.msg∧(E≠0→F=cy.zero):=fun k h=>by
    injection h with h1 h2
    subst h1
    exact⟨eA,fun _=>rfl⟩
  unfold ew at h
  split at h
  · exact hz _ h
  split at h
  · exact hz _ h
  split at h
  · exact hz _ h
  split at h
  · exact hz _ h
  split at h
  · exact hz _ h
  rename_i s _ x hx
  split at h
  · exact hz _ h
  cases hp:ci dir (eL x) with
  | mk M E' =>
    rw[hp] at h
    obtain⟨k1,k2⟩:=mO (fun y hy=>(iQ hx).2 y (List.mem_of_mem_take (List.mem_of_mem_drop hy))) hp
    have h:(if (E' != 0)=true then ((cy.zero,E') : cy × Int) else (⟨_,_,M⟩,0))=(F,E):=h
    split at h
    · exact hz _ h
    · injection h with h5 h6
      subst h5
      exact⟨k1,fun hE=>absurd h6.symm hE⟩
theorem yD(hd:dir=0∨dir=1)(h:ew dir b=(F,E))(hE:(E==0)=true)(hW:fT dir F.unit F.tid F.msg=r) : r=some b∧9≤b.length∧b.length≤513:=by
  obtain rfl:E=0:=by simpa using hE
  unfold ew at h
  split at h
  · cases h
  split at h
  · cases h
  rename_i h2
  split at h
  · cases h
  rename_i h3
  simp only[decide_eq_true_eq] at h2 h3
  cases hs:i1 b with
  | none=>rw[hs] at h;cases h
  | some s =>
  rw[hs] at h
  cases hx:bT s with
  | none=>dsimp only at h;rw[hx] at h;cases h
  | some x =>
  dsimp only at h
  rw[hx] at h
  dsimp only at h
  split at h
  · cases h
  rename_i h4
  have h4:eq x=true:=by simpa using h4
  have hl:=sU hs
  have hxl:=lu hx
  obtain⟨e1,e2⟩:=iQ hx
  have hsh:=BR (by omega) e2 h4
  cases hp:ci dir (eL x) with
  | mk M E' =>
    rw[hp] at h
    have h:(if (E' != 0)=true then ((cy.zero,E') : cy × Int) else (⟨_,_,M⟩,0))=(F,0):=h
    split at h
    · rename_i h5
      injection h with _ h6
      subst h6
      cases h5
    · rename_i h5
      injection h with h6 _
      subst h6
      obtain rfl:E'=0:=by simpa using h5
      have h7:cZ dir M=some (eL x):=kO hd (fun y hy=>e2 y (List.mem_of_mem_take (List.mem_of_mem_drop hy))) hp
      rw[← hW]
      refine⟨?_,by omega,by omega⟩
      show fT dir (x.getD 0 0) 0 M=_
      unfold fT
      rw[h7]
      show some (nF _ _)=_
      rw[tS,← hsh,← e1,← y1 hs]
open Go.RowKit
end Go.Proofs.YtdkhbcefkfgbdaaGreat
namespace Go.Proofs.YtdkhbcefkfgbdaaGreat
def my (t z n u:Int)(l:List Int) : List Int:=(aN [t,z,n]++[u])++l
theorem ml(t z n u:Int)(l:List Int) : (my t z n u l).length=7+l.length:=by simp[my,aN];omega
theorem Fg(u:Int)(l:List Int) : (ap.mk ([u]++l) false 0).byteV=u∧(ap.mk ([u]++l) false 0).bytesC 1=⟨l,false,0⟩:=by
  have hf:(ap.mk ([u]++l) false 0).fails 1=false:=by
    unfold ap.fails
    simp only[List.length_append,List.length_cons,List.length_nil,Bool.or_eq_false_iff,decide_eq_false_iff_not]
    refine⟨⟨trivial,?_⟩,?_⟩<;>omega
  constructor
  · unfold ap.byteV ap.bytesR
    rw[hf]
    rfl
  · unfold ap.bytesC
    rw[hf]
    rfl
theorem vN(l:List Int) : (ap.mk l false 0).bytesR ((l.length:Nat) : Int)=l:=by
  have hf:(ap.mk l false 0).fails ((l.length:Nat) : Int)=false:=by
    unfold ap.fails
    simp only[Bool.or_eq_false_iff,decide_eq_false_iff_not]
    refine⟨⟨trivial,?_⟩,?_⟩<;>omega
  unfold ap.bytesR
  rw[hf]
  show l.take (l.length:Int).toNat=l
  rw[Int.toNat_natCast,List.take_length]
variable {l:List Int}{n t u:Int}
theorem rU{z:Int}  (ht:0≤t∧t<65536)(hz:0≤z∧z<65536)(hn:0≤n∧n<65536) :
    (we (my t z n u l)).wordV=t∧(x9 (my t z n u l)).wordV=z∧(v8 (my t z n u l)).wordV=n∧(v4 (my t z n u l)).byteV=u∧lf (my t z n u l)=l:=by
  have h1:=EO (r:=aN [z]++(aN [n]++([u]++l))) ht
  have h2:=EO (r:=aN [n]++([u]++l)) hz
  have h3:=EO (r:=[u]++l) hn
  have h4:=Fg u l
  have e0:we (my t z n u l)=⟨aN [t]++(aN [z]++(aN [n]++([u]++l))),false,0⟩:=by simp[we,my,aN]
  have e1:x9 (my t z n u l)=⟨aN [z]++(aN [n]++([u]++l)),false,0⟩:=by unfold x9;rw[e0];exact h1.2
  have e2:v8 (my t z n u l)=⟨aN [n]++([u]++l),false,0⟩:=by unfold v8;rw[e1];exact h2.2
  have e3:v4 (my t z n u l)=⟨[u]++l,false,0⟩:=by unfold v4;rw[e2];exact h3.2
  have e4:xy (my t z n u l)=⟨l,false,0⟩:=by unfold xy;rw[e3];exact h4.2
  refine⟨by rw[e0];exact h1.1,by rw[e1];exact h2.1,by rw[e2];exact h3.1,by rw[e3];exact h4.1,?_⟩
  unfold lf
  rw[e4]
  exact vN l
variable {dir:Int}
theorem uy{z:Int}  (hd:dir=0∨dir=1)(ht:0≤t∧t<65536)(hz:0≤z∧z<65536)(hn:0≤n∧n<65536) :
    de dir (my t z n u l)=if decide ((7+l.length:Int)<8) then (cy.zero,2) else if decide (260<(7+l.length:Int)) then (cy.zero,3) else if z != 0 then (cy.zero,13) else if n != (l.length:Int)+1 then (cy.zero,5) else bU u t (ci dir l):=by
  obtain⟨h0,h1,h2,h3,h4⟩:=rU (u:=u) (l:=l) ht hz hn
  unfold de
  rw[h0,h1,h2,h3,h4,ml]
  rw[if_neg (show ¬ (dir != 0&&dir != 1)=true by rcases hd with rfl | rfl<;>decide)]
  rw[show((7+l.length:Nat) : Int)=7+(l.length:Int) by omega,show(7+(l.length:Int))-6=(l.length:Int)+1 by omega]
variable {M:aS}{b:List Int}
theorem iP(h:ey dir u t M=some b) : ∃ l,cZ dir M=some l∧b=my t 0 ((l.length:Int)+1) u l∧l.length≤253:=by
  unfold ey at h
  split at h
  · cases h
  · rename_i l hl
    have hle:=ie hl
    injection h with h
    refine⟨l,hl,?_,hle⟩
    rw[← h,Int.emod_eq_of_lt (by omega) (by omega)]
    rfl
theorem zo(hc:0≤M.code∧M.code<256)(h:ey dir u t M=some b) : 8≤b.length∧b.length≤260:=by
  obtain⟨l,h1,rfl,h2⟩:=iP h
  have:=iq hc h1
  rw[ml]
  omega
theorem B9(hd:dir=0∨dir=1)(hc:0≤M.code∧M.code<256)(hf:0≤M.fail∧M.fail<256)(ht:0≤t∧t<65536)(h:ey dir u t M=some b) : de dir b=(⟨u,t,M⟩,0):=by
  obtain⟨l,h1,rfl,h2⟩:=iP h
  have h3:=iq hc h1
  rw[uy hd ht (by decide) (by omega),qE hd hc hf h1]
  rw[if_neg (by simp only[decide_eq_true_eq];omega),if_neg (by simp only[decide_eq_true_eq];omega),if_neg (by decide),if_neg (by simp)]
  rfl
variable {a c:Int}
theorem DQ{b d e f:Int}(ha:0≤a∧a<256)(hb:0≤b∧b<256)(hc:0≤c∧c<256)(hd:0≤d∧d<256)(he:0≤e∧e<256)(hf:0≤f∧f<256) : aN [a*256+b,c*256+d,e*256+f]=[a,b,c,d,e,f]:=by
  simp only[aN]
  congr 1
  · omega
  congr 1
  · omega
  congr 1
  · omega
  congr 1
  · omega
  congr 1
  · omega
  congr 1
  omega
theorem rf(hr:∀ x,x∈b→0≤x∧x<256)(hl:8≤b.length) : ∃ t z n u l,b=my t z n u l∧(0≤t∧t<65536)∧(0≤z∧z<65536)∧(0≤n∧n<65536)∧∀ x,x∈l→0≤x∧x<256:=by
  match b,hr,hl with
  | a0 :: a1 :: a2 :: a3 :: a4 :: a5 :: u :: l,hr,_ =>
    have h0:=hr a0 (by simp)
    have h1:=hr a1 (by simp)
    have h2:=hr a2 (by simp)
    have h3:=hr a3 (by simp)
    have h4:=hr a4 (by simp)
    have h5:=hr a5 (by simp)
    refine⟨a0*256+a1,a2*256+a3,a4*256+a5,u,l,?_,by omega,by omega,by omega,fun x hx=>hr x (by simp[hx])⟩
    unfold my
    rw[DQ h0 h1 h2 h3 h4 h5]
    rfl
variable {E:Int}{F:cy}
theorem w6(hr:∀ x,x∈b→0≤x∧x<256)(h:de dir b=(F,E)) : bh F.msg∧(E≠0→F=cy.zero):=by
  have hz:∀ k:Int,((cy.zero,k) : cy × Int)=(F,E)→bh F.msg∧(E≠0→F=cy.zero):=fun k h=>by
    injection h with h1 h2
    subst h1
    exact⟨eA,fun _=>rfl⟩
  unfold de at h
  split at h
  · exact hz _ h
  split at h
  · exact hz _ h
  split at h
  · exact hz _ h
  split at h
  · exact hz _ h
  split at h
  · exact hz _ h
  rename_i _ h8 _ _ _
  simp only[decide_eq_true_eq] at h8
  obtain⟨t,z,n,u,l,rfl,ht,hz',hn,hl⟩:=rf hr (by omega)
  obtain⟨h0,h1,h2,h3,h4⟩:=rU (u:=u) (l:=l) ht hz' hn
  rw[h4] at h
  cases hp:ci dir l with
  | mk M E' =>
    rw[hp] at h
    obtain⟨k1,k2⟩:=mO hl hp
    have h:(if (E' != 0)=true then ((cy.zero,E') : cy × Int) else (⟨_,_,M⟩,0))=(F,E):=h
    split at h
    · exact hz _ h
    · injection h with h5 h6
      subst h5
      exact⟨k1,fun hE=>absurd h6.symm hE⟩
variable {r:Option (List Int)}
theorem xf(hd:dir=0∨dir=1)(hr:∀ x,x∈b→0≤x∧x<256)(h:de dir b=(F,E))(hE:(E==0)=true)(hW:ey dir F.unit F.tid F.msg=r) : r=some b∧8≤b.length∧b.length≤260:=by
  obtain rfl:E=0:=by simpa using hE
  by_cases h8:8≤b.length
  · obtain⟨t,z,n,u,l,rfl,ht,hz',hn,hl⟩:=rf hr h8
    rw[uy hd ht hz' hn] at h
    split at h
    · cases h
    split at h
    · cases h
    split at h
    · cases h
    split at h
    · cases h
    rename_i h1 h2 h3 h4
    simp only[decide_eq_true_eq] at h1 h2
    simp only[bne_iff_ne,ne_eq,Decidable.not_not] at h3 h4
    cases hp:ci dir l with
    | mk M E' =>
      rw[hp] at h
      have h:(if (E' != 0)=true then ((cy.zero,E') : cy × Int) else (⟨_,_,M⟩,0))=(F,0):=h
      split at h
      · rename_i h5
        injection h with _ h6
        subst h6
        cases h5
      · rename_i h5
        injection h with h6 _
        subst h6
        obtain rfl:E'=0:=by simpa using h5
        have h7:=kO hd hl hp
        rw[← hW]
        refine⟨?_,h8,by rw[ml];omega⟩
        show ey dir u t M=_
        unfold ey
        rw[h7]
        show some ((aN [t,0,((l.length:Int)+1)%65536]++[u])++l)=_
        rw[h3,h4,Int.emod_eq_of_lt (by omega) (by omega)]
        rfl
  · exfalso
    unfold de at h
    split at h
    · cases h
    rw[if_pos (by simp only[decide_eq_true_eq];omega)] at h
    cases h
open Go.RowKit
theorem wz{k:Int}   (h:gy k dir u t M=some b) : (k=0∨k=1∨k=2)∧(k≠2→t=0)∧∃ l,cZ dir M=some l∧l.length≤253:=by
  revert h
  refine k4 k (fun e=>?_) (fun e=>?_) (fun e=>?_) (fun h0 h1 h2=>?_)
  · subst e;intro h;obtain⟨h1,l,h2,_,h3⟩:=jw h;exact⟨.inl rfl,fun _=>h1,l,h2,h3⟩
  · subst e;intro h;obtain⟨h1,l,h2,_,h3⟩:=jx h;exact⟨.inr (.inl rfl),fun _=>h1,l,h2,h3⟩
  · subst e;intro h;obtain⟨l,h2,_,h3⟩:=iP h;exact⟨.inr (.inr rfl),fun h=>absurd rfl h,l,h2,h3⟩
  · rw[xE h0 h1 h2];intro h;cases h
theorem uH{k:Int}   (hc:0≤M.code∧M.code<256)(h:gy k dir u t M=some b) : 4≤b.length∧(b.length:Int)≤ku k∧b.length≤513:=by
  rcases(wz h).1 with rfl|rfl|rfl
  · have:=AP hc h;show 4≤b.length∧(b.length:Int)≤256∧_;omega
  · have:=AE hc h;show 4≤b.length∧(b.length:Int)≤513∧_;omega
  · have:=zo hc h;show 4≤b.length∧(b.length:Int)≤260∧_;omega
theorem fS{k:Int}    (hr:∀ x,x∈b→0≤x∧x<256)(h:ja k dir b=(F,E)) : bh F.msg∧(E≠0→F=cy.zero):=by
  revert h
  refine k4 k (fun e=>?_) (fun e=>?_) (fun e=>?_) (fun h0 h1 h2=>?_)
  · subst e;exact xD hr
  · subst e;exact y8
  · subst e;exact w6 hr
  · rw[zY h0 h1 h2];intro h;injection h with e1 e2;subst e1 e2;exact⟨eA,fun _=>rfl⟩
def eS (a c dir:Int)(b:List Int) : Option (List Int) × Int :=
  bif ku a==0 || ku c==0 then (none,1) else bif (ja a dir b).2 != 0 then (none,(ja a dir b).2) else
    match gy c dir (ja a dir b).1.unit (bif c != 2 then 0 else (ja a dir b).1.tid) (ja a dir b).1.msg with
    | some l=>(some l,0)
    | none=>(none,1)
theorem rh{k:Int}(h:k=0∨k=1∨k=2) : (ku k==0)=false:=by rcases h with rfl | rfl | rfl<;>rfl
open Go.RowKit
variable {base:Nat}{v:Value}{w:World}{xs:List Int}
theorem f9.shape(h:f9 base w v xs) : ∃ A cp,v = .slice A xs.length cp∧aV true w (.slice A xs.length cp) xs∧∀ x,x∈ob A→base≤x:=by
  obtain⟨h1,A,n,c,rfl,h2⟩:=h
  obtain⟨A',c',e,_,_⟩:=h1.shape
  injection e with e1 e2 e3
  subst e1 e2 e3
  exact⟨A,c,rfl,h1,h2⟩
def TR (res:Option (List Int))(base:Nat)(w:World)(v:Value) : Prop:=match res with
  | some l=>f9 base w v l
  | none=>v = .slice none 0 0
def PT (res:Option (List Int) × Int)(w:World)(e:Ending)(w':World) : Prop:=∃ v,e = .returned (.tuple #[v,.int .i64 res.2])∧TR res.1 w.heap.size w' v∧aI [] w w'
variable {cp:Nat}{m:Md}
theorem xn{A:Option Addr}     (hsl:aV m w (.slice A b.length cp) b)(hb:b.length≤1048576) : Calls Tryz.prog 30 #[vI a,vI c,vI dir,.slice A b.length cp] w (PT (eS a c dir b) w):=by
 refine en 40 Tryz.func30 rfl<|aB 2<|sq<|aq 1<|ay<|m1 (nn (k:=a)) fun a4 o=>Pl 2<|bl 15 (((ku a)==0)) (fun d=>?_) (fun d=>?_)
 have H:=ag d
 exact ah 4<|c1<|aB 2<|b6<|rr (.tuple #[nS,vI 1])<|cI (y:=(none,1)) (by unfold eS;simp only[d,Bool.true_or,Bool.or_true,Bool.or_self,cond_true,cond_false]<;>rfl) ⟨_,rfl,rfl,o⟩
 have H:=ai d
 refine Pl 1<|L1<|Oc<|m1 (nn (k:=c)) fun a5 z=>ah 2<|?_
 have p:=aJ o z
 refine cb (((ku c)==0)) (fun g=>?_) (fun g=>?_)
 have I:=ag g
 exact aB 2<|b6<|rr (.tuple #[nS,vI 1])<|cI (y:=(none,1)) (by unfold eS;simp only[d,g,Bool.true_or,Bool.or_true,Bool.or_self,cond_true,cond_false]<;>rfl) ⟨_,rfl,rfl,p⟩
 have I:=ai g
 refine bu<|aq 3<|?_
 refine pr (ja a dir b) fun e q f=>?_
 refine ay<|e2 (lQ f (aV.old hsl p) (by omega)) fun x18 a6 J B=>?_
 obtain⟨C,a7,a8⟩:=J
 refine Pl 3<|aK kP fun a9 aa r K L=>aG K (dC e.unit e.tid e.msg x18) fun ab D M=>ah 1<|sq<|aB 2<|?_
 have s:=ud L M r
 have n:=aJ p (aJ B s)
 refine cb ((q != 0)) (fun h=>?_) (fun h=>?_)
 have N:=aA h
 refine aB 3<|b6<|rr (.tuple #[nS,vI q])<|?_
 have hs:eS a c dir b=(none,q):=by
   unfold eS
   rw[f]
   simp only[d,g,h,Bool.true_or,Bool.or_true,Bool.or_self,cond_true,cond_false]
 rw[hs]
 exact⟨_,rfl,rfl,n⟩
 have N:=aF h
 refine bu<|sq<|aB 2<|cb ((c != 2)) (fun i=>?_) (fun i=>?_)
 have O:=aA i
 refine go<|Pl 2<|L0<|bY D 1 (dC e.unit 0 e.msg x18) fun ac P E=>aL 2<|L0<|cm P<|?_
 have t:=aH.upd C (ud s E r) aM
 have u:=ud n E (le (le (le o.size z.size) B.size) r)
 refine wo (gy c dir e.unit 0 e.msg) (fun j=>?_) (fun F j=>?_)
 refine ay<|m1 (lN t (fS (aV.range hsl) f).1 (by omega) (by omega) j) fun ad Q=>ah 4<|rt<|rr (.tuple #[nS,vI 1])<|?_
 have hs:eS a c dir b=(none,1):=by
   unfold eS
   rw[f]
   simp only[d,g,h,i,Bool.true_or,Bool.or_true,Bool.or_self,cond_true,cond_false]
   rw[j]
 rw[hs]
 exact⟨_,rfl,rfl,(aJ u Q)⟩
 have ae:=uH (t.rngs).1 j
 refine ay<|e2 (lK t (fS (aV.range hsl) f).1 (by omega) (by omega) j) fun af aj R S=>?_
 obtain⟨T,U,rfl,V,W⟩:=f9.shape R
 refine ah 4<|rt<|rr (.tuple #[.slice T F.length U,vI 0])<|?_
 have hs:eS a c dir b=(some F,0):=by
   unfold eS
   rw[f]
   simp only[d,g,h,i,Bool.true_or,Bool.or_true,Bool.or_self,cond_true,cond_false]
   rw[j]
 rw[hs]
 exact⟨_,rfl,(show f9 _ _ _ _ from⟨V,_,_,_,rfl,fun x hx=>Nat.le_trans u.size (W x hx)⟩),(aJ u S)⟩
 have O:=aF i
 refine bu<|aq 2<|L0<|cm D<|?_
 have v:=aH.upd C s aM
 refine wo (gy c dir e.unit e.tid e.msg) (fun l=>?_) (fun G l=>?_)
 refine ay<|m1 (lN v (fS (aV.range hsl) f).1 (by omega) (by omega) l) fun ak X=>ah 4<|rt<|rr (.tuple #[nS,vI 1])<|?_
 have hs:eS a c dir b=(none,1):=by
   unfold eS
   rw[f]
   simp only[d,g,h,i,Bool.true_or,Bool.or_true,Bool.or_self,cond_true,cond_false]
   rw[l]
 rw[hs]
 exact⟨_,rfl,rfl,(aJ n X)⟩
 have al:=uH (v.rngs).1 l
 refine ay<|e2 (lK v (fS (aV.range hsl) f).1 (by omega) (by omega) l) fun am an Y Z=>?_
 obtain⟨a0,a1,rfl,a2,a3⟩:=f9.shape Y
 refine ah 4<|rt<|rr (.tuple #[.slice a0 G.length a1,vI 0])<|?_
 have hs:eS a c dir b=(some G,0):=by
   unfold eS
   rw[f]
   simp only[d,g,h,i,Bool.true_or,Bool.or_true,Bool.or_self,cond_true,cond_false]
   rw[l]
 rw[hs]
 exact⟨_,rfl,(show f9 _ _ _ _ from⟨a2,_,_,_,rfl,fun x hx=>Nat.le_trans n.size (a3 x hx)⟩),(aJ n Z)⟩
theorem rq(h:aV m w v b)(hb:b.length≤1048576) : Calls Tryz.prog 30 #[.int .i64 a,.int .i64 c,.int .i64 dir,v] w (PT (eS a c dir b) w):=by
  obtain⟨A,cp,rfl,_,_⟩:=h.shape
  exact xn h hb
theorem mQ(h:aV m w v b)(hb:b.length≤1048576)(hX:eS a c dir b=(some l,E)) : Calls Tryz.prog 30 #[.int .i64 a,.int .i64 c,.int .i64 dir,v] w (fun e w'=>∃ v,e = .returned (.tuple #[v,.int .i64 E])∧f9 w.heap.size w' v l∧aI [] w w'):=by
  have k:=rq (a:=a) (c:=c) (dir:=dir) h hb
  rw[hX] at k
  exact k
theorem t6(h:aV m w v b)(hb:b.length≤1048576)(hX:eS a c dir b=(none,E)) : Calls Tryz.prog 30 #[.int .i64 a,.int .i64 c,.int .i64 dir,v] w (fun e w'=>e = .returned (.tuple #[.slice none 0 0,.int .i64 E])∧aI [] w w'):=by
  refine(rq (a:=a) (c:=c) (dir:=dir) h hb).mono ?_
  rw[hX]
  rintro e w' ⟨v,rfl,rfl,hu⟩
  exact⟨rfl,hu⟩
open Go.RowKit
theorem DO:eS 0 2 0 [1,7,65,226]=(some [0,0,0,0,0,2,1,7],0):=by decide +kernel
theorem DA:ja 2 0 [0,0,0,0,0,2,1,7]=(⟨1,0,w7⟩,0):=by decide +kernel
theorem BH:Calls Tryz.prog 25 #[] w (bS (.bool true) w):=by
 refine en 42 Tryz.func25 rfl<|aq 1<|ng<|L0<|cX (m:=4) (e:=5) #[vB 1,vB 7,vB 65,vB 226] fun B C h i j=>?_
 have l:=cD h (xs:=[1,7,65,226]) (by as_aux_lemma=>kernel_rfl) (al (by omega) (al (by omega) (al (by omega) (al (by omega) aP)))) (by(try simp only[List.length_cons,List.length_nil]);omega) i
 refine ay<|e2 (mQ (l).rd (by decide) DO) fun D E o p=>?_
 obtain⟨q,r,rfl,d,F⟩:=f9.shape o
 refine Pl 5<|aL 1<|ay<|e2 (lQ DA d (by decide)) fun x25 G s t=>?_
 obtain⟨H,I,J⟩:=s
 refine Pl 3<|aK kP fun K L u v x=>aG v #[vB 1,vW 0,vB 7,vB 0,vW 0,vW 0,vW 0,vW 0,vW 0,vW 0,vW 0,vW 0,vW 0,vW 0,.slice x25.aw w7.words.length x25.kw,.slice x25.ab w7.bits.length x25.kb,.slice x25.ad w7.data.length x25.kd,.slice x25.ar w7.recs.length x25.kr,vB 0,vB 0,vB 0,vB 0,vB 0,.slice x25.ao w7.objects.length x25.ko] fun M f y=>Pl 1<|aL 8<|?_
 have g:=aJ t (ud x y u)
 refine L1<|gr (.string (strOfNums ([0,0,0,0,0,2,1,7]))) (cJ (A:=q) (n:=([0,0,0,0,0,2,1,7]).length) (c:=r) rfl (by kernel_rfl) Tryz.underlying27 Tryz.underlying5 Tryz.underlying9 (aV.upd' d g aM))<|L1<|gr (.bool true) (fX (a:=(strOfNums ([0,0,0,0,0,2,1,7]))) (b:=⟨#[0,0,0,0,0,2,1,7]⟩) rfl (by kernel_rfl) (by kernel_rfl) (Ap rfl (by decide)))<|Pl 4<|L1<|dQ f 0<|Pl 5<|L1<|dQ f 2<|Pl 3<|L1<|Oc<|m1 (nn (k:=1)) fun N z=>ah 3<|rt<|rr (.bool true)<|?_
 exact⟨rfl,(aJ j (aJ p (aJ g z)))⟩
open Go.RowKit
variable {B:Option Addr}{d:Nat}{m':Md}{ys:List Int}
theorem uu{A:Option Addr}{c:Nat}   (h1:aV m w (.slice A xs.length c) xs)(h2:aV m' w (.slice B ys.length d) ys) :
    Calls Tryz.prog 29 #[.slice A xs.length c,.slice B ys.length d] w (bS (.bool (decide (xs=ys))) w):=by
 exact en 10 Tryz.func29 rfl<|aq 1<|aL 1<|L0<|gr (.string (strOfNums xs)) (cJ (A:=A) (n:=xs.length) (c:=c) rfl (by kernel_rfl) Tryz.underlying27 Tryz.underlying5 Tryz.underlying9 h1)<|Pl 1<|L0<|gr (.string (strOfNums ys)) (cJ (A:=B) (n:=ys.length) (c:=d) rfl (by kernel_rfl) Tryz.underlying27 Tryz.underlying5 Tryz.underlying9 h2)<|L0<|gr (.bool (decide (xs=ys))) (fX (a:=(strOfNums xs)) (b:=(strOfNums ys)) rfl (by kernel_rfl) (by kernel_rfl) (jW h1 h2))<|Pl 1<|nl<|tn<|rt<|rr (.bool (decide (xs=ys)))<|⟨rfl,(aI.refl [] _)⟩
theorem jI{a b:Value}   (h1:aV m w a xs)(h2:aV m' w b ys) : Calls Tryz.prog 29 #[a,b] w (bS (.bool (decide (xs=ys))) w):=by
  obtain⟨A,c,rfl,_,_⟩:=h1.shape
  obtain⟨B,d,rfl,_,_⟩:=h2.shape
  exact uu h1 h2
open Go.RowKit
variable {k:Nat}{α:Type}
theorem iU{xs ys:List α}  (h:xs.take k=ys.take k)(h1:k=xs.length)(h2:xs.length=ys.length) : xs=ys:=by
  rw[List.take_of_length_le (by omega),List.take_of_length_le (by omega)] at h
  exact h
theorem oh{A:Option Addr}{c:Nat}   (h1:eF m w (.slice A xs.length c) xs)(h2:eF m' w (.slice B ys.length d) ys) :
    Calls Tryz.prog 68 #[.slice A xs.length c,.slice B ys.length d] w (bS (.bool (decide (xs=ys))) w):=by
 have hz1:=aT.len h1
 have hz2:=aT.len h2
 refine en 26 Tryz.func68 rfl<|aB 1<|sq<|aB 5<|cb ((((xs.length:Nat) : Int)!=((ys.length:Nat) : Int))) (fun g=>?_) (fun g=>?_)
 have j:=aA g
 refine aB 1<|b6<|rr (.bool false)<|?_
 have hs:decide (xs=ys)=false:=decide_eq_false (fun e=>by rw[e] at j;omega)
 rw[hs]
 exact⟨rfl,(aI.refl [] _)⟩
 have j:=aF g
 refine bu<|sq<|aB 1<|bk<|?_
 refine je (fun x=>[(0,.slice A xs.length c),(1,.slice B ys.length d),(5,vI ((x:Nat) : Int))]) (fun(x:Nat) w'=>aI [] w w'∧(xs.take x=ys.take x)∧(x≤xs.length)) (fun x=>xs.length-x) 0 ⟨aI.refl _ _,(by(try dsimp only);simp),(by(try dsimp only);omega)⟩ ?_
 rintro k E ⟨b,p,q⟩
 refine gi [(0,.slice A xs.length c),(1,.slice B ys.length d),(5,vI ((k:Nat) : Int))] ?_
 have l:xs.take k=ys.take k:=p
 have F:k≤xs.length:=q
 refine sq<|aB 4<|cb ((decide (((k:Nat) : Int)<((xs.length:Nat) : Int)))) (fun h=>?_) (fun h=>?_)
 have r:=of_decide_eq_true h
 refine bu<|sq<|bk<|sq<|?_
 refine fo (eF.at_ (eF.old h1 b) k (by omega)) fun s t u v G=>?_
 refine fo (eF.at_ (eF.old h2 b) k (by omega)) fun y z C D H=>Rg 9 (fun w'=>w'.cell? ⟨s,t+k,none⟩=some (vW (xs.getD k 0))∧w'.cell? ⟨y,z+k,none⟩=some (vW (ys.getD k 0))) fun I i=>bv ⟨(uc i v),(uc i D)⟩ fun a=>Rt 0 a<|Rt 1 a<|m0 2 a xs.length k ((k:Nat) : Int) rfl u (by omega)<|Rl 3 a (fun _ hs=>hs.1)<|Rt 4 a<|Rt 5 a<|m0 6 a ys.length k ((k:Nat) : Int) rfl C (by omega)<|Rl 7 a (fun _ hs=>hs.2)<|Rt 8 a<|re<|tn<|?_
 have n:=aJ b i
 refine cb (((xs.getD k 0)!=(ys.getD k 0))) (fun f=>?_) (fun f=>?_)
 have o:=aA f
 refine aB 1<|rt<|br<|tr<|tr<|br<|tr<|rr (.bool false)<|?_
 have hs:decide (xs=ys)=false:=decide_eq_false (vZ (d:=0) k (by simpa using f))
 rw[hs]
 exact⟨rfl,n⟩
 have o:=aF f
 exact sk<|bn<|tn<|go<|Pl 1<|bp (((k:Nat) : Int)+1)<|Pl 1<|nl<|gK (k+1) ⟨n,(pD (d:=0) (by omega) (by omega) l o),(by(try dsimp only);omega)⟩ (by omega)
 have r:=of_decide_eq_false h
 refine xt<|tx<|tx<|bx<|tn<|aB 1<|rt<|rr (.bool true)<|?_
 have hs:decide (xs=ys)=true:=decide_eq_true (iU l (by omega) (by omega))
 rw[hs]
 exact⟨rfl,b⟩
theorem kN{a b:Value}   (h1:eF m w a xs)(h2:eF m' w b ys) : Calls Tryz.prog 68 #[a,b] w (bS (.bool (decide (xs=ys))) w):=by
  obtain⟨A,c,rfl,_,_⟩:=h1.shape
  obtain⟨B,d,rfl,_,_⟩:=h2.shape
  exact oh h1 h2
theorem ol{A:Option Addr}{c:Nat}{xs ys:List Bool}  (h1:jc m w (.slice A xs.length c) xs)(h2:jc m' w (.slice B ys.length d) ys) :
    Calls Tryz.prog 69 #[.slice A xs.length c,.slice B ys.length d] w (bS (.bool (decide (xs=ys))) w):=by
 have hz1:=aT.len h1
 have hz2:=aT.len h2
 refine en 26 Tryz.func69 rfl<|aB 1<|sq<|aB 5<|cb ((((xs.length:Nat) : Int)!=((ys.length:Nat) : Int))) (fun f=>?_) (fun f=>?_)
 have j:=aA f
 refine aB 1<|b6<|rr (.bool false)<|?_
 have hs:decide (xs=ys)=false:=decide_eq_false (fun e=>by rw[e] at j;omega)
 rw[hs]
 exact⟨rfl,(aI.refl [] _)⟩
 have j:=aF f
 refine bu<|sq<|aB 1<|bk<|?_
 refine je (fun x=>[(0,.slice A xs.length c),(1,.slice B ys.length d),(5,vI ((x:Nat) : Int))]) (fun(x:Nat) w'=>aI [] w w'∧(xs.take x=ys.take x)∧(x≤xs.length)) (fun x=>xs.length-x) 0 ⟨aI.refl _ _,(by(try dsimp only);simp),(by(try dsimp only);omega)⟩ ?_
 rintro k D ⟨b,o,p⟩
 refine gi [(0,.slice A xs.length c),(1,.slice B ys.length d),(5,vI ((k:Nat) : Int))] ?_
 have l:xs.take k=ys.take k:=o
 have E:k≤xs.length:=p
 refine sq<|aB 4<|cb ((decide (((k:Nat) : Int)<((xs.length:Nat) : Int)))) (fun g=>?_) (fun g=>?_)
 have q:=of_decide_eq_true g
 refine bu<|sq<|bk<|sq<|?_
 refine EI (jc.at_ (jc.old h1 b) k (by omega)) fun r s t u=>?_
 refine EI (jc.at_ (jc.old h2 b) k (by omega)) fun v y z C=>Rg 9 (fun w'=>w'.cell? ⟨r,s+k,none⟩=some (.bool (xs.getD k false))∧w'.cell? ⟨v,y+k,none⟩=some (.bool (ys.getD k false))) fun F h=>bv ⟨(uc h u),(uc h C)⟩ fun a=>Rt 0 a<|Rt 1 a<|m0 2 a xs.length k ((k:Nat) : Int) rfl t (by omega)<|Rl 3 a (fun _ hs=>hs.1)<|Rt 4 a<|Rt 5 a<|m0 6 a ys.length k ((k:Nat) : Int) rfl z (by omega)<|Rl 7 a (fun _ hs=>hs.2)<|Rt 8 a<|re<|tn<|?_
 have n:=aJ b h
 refine cb (((xs.getD k false)!=(ys.getD k false))) (fun i=>?_) (fun i=>?_)
 refine aB 1<|rt<|br<|tr<|tr<|br<|tr<|rr (.bool false)<|?_
 have hs:decide (xs=ys)=false:=decide_eq_false (vZ (d:=false) k (by simpa using i))
 rw[hs]
 exact⟨rfl,n⟩
 exact sk<|bn<|tn<|go<|Pl 1<|bp (((k:Nat) : Int)+1)<|Pl 1<|nl<|gK (k+1) ⟨n,(pD (d:=false) (by omega) (by omega) l (by simpa using i)),(by(try dsimp only);omega)⟩ (by omega)
 have q:=of_decide_eq_false g
 refine xt<|tx<|tx<|bx<|tn<|aB 1<|rt<|rr (.bool true)<|?_
 have hs:decide (xs=ys)=true:=decide_eq_true (iU l (by omega) (by omega))
 rw[hs]
 exact⟨rfl,b⟩
theorem qB{a b:Value}{xs ys:List Bool}  (h1:jc m w a xs)(h2:jc m' w b ys) : Calls Tryz.prog 69 #[a,b] w (bS (.bool (decide (xs=ys))) w):=by
  obtain⟨A,c,rfl,_,_⟩:=h1.shape
  obtain⟨B,d,rfl,_,_⟩:=h2.shape
  exact ol h1 h2
open Go.RowKit
theorem uT{xs ys:List α}{d:α}  (h:xs.take k=ys.take k)(hk:k<xs.length)(hl:xs.length=ys.length)(he:xs.getD k d=ys.getD k d) : xs.take (k+1)=ys.take (k+1):=by
  have hk2:k<ys.length:=by omega
  rw[List.take_succ_eq_append_getElem hk,List.take_succ_eq_append_getElem hk2,h]
  rw[List.getD_eq_getElem?_getD,List.getElem?_eq_getElem hk,List.getD_eq_getElem?_getD,List.getElem?_eq_getElem (by omega)] at he
  simp only[Option.getD_some] at he
  rw[he]
theorem D6{a b:dl}(h:((((!(decide (a.words=b.words)))||(a.file != b.file))||(a.record != b.record))||(a.count != b.count))=false) : a=b:=by
  cases a
  cases b
  simp at h
  simp[h]
theorem CH{a b:Obj}(h:((!(decide (a.value=b.value)))||(a.id != b.id))=false) : a=b:=by
  cases a
  cases b
  simp at h
  simp[h]
theorem BP{a b:Obj}(h:(!(decide (a.value=b.value)))=false)(h2:(a.id != b.id)=false) : a=b:=CH (by rw[h,h2];rfl)
theorem oV{A B:aS}{f:aS→aS→Bool}(h:f A B=true)(hf:∀ M,f M M=false) : decide (A=B)=false:=decide_eq_false fun e=>by rw[e,hf] at h;cases h
theorem Bh{A B:aS}(h1:((((((((((((A.code != B.code)||(A.fail != B.fail))||(A.addr != B.addr))||(A.count != B.count))||(A.value != B.value))||(A.and_ != B.and_))||(A.or_ != B.or_))||(A.addr2 != B.addr2))||(A.sub != B.sub))||(A.status != B.status))||(A.events != B.events))||(A.messages != B.messages))=false)(h2:(((((A.mei != B.mei)||(A.kind != B.kind))||(A.level != B.level))||(A.more != B.more))||(A.next != B.next))=false)(h3:(((((!(decide (A.words=B.words)))||(!(decide (A.bits=B.bits))))||(!(decide (A.data=B.data))))||(((A.recs.length:Nat) : Int)!=((B.recs.length:Nat) : Int)))||(((A.objects.length:Nat) : Int)!=((B.objects.length:Nat) : Int)))=false)(hr:A.recs.length=B.recs.length→A.recs=B.recs)(ho:A.objects.length=B.objects.length→A.objects=B.objects) : A=B:=by
  cases A
  cases B
  simp only[Bool.or_eq_false_iff,bne_eq_false_iff_eq,Bool.not_eq_false',decide_eq_true_eq] at h1 h2 h3
  simp only at hr ho
  obtain⟨⟨⟨⟨⟨⟨⟨⟨⟨⟨⟨a1,a2⟩,a3⟩,a4⟩,a5⟩,a6⟩,a7⟩,a8⟩,a9⟩,a⟩,b⟩,c⟩:=h1
  obtain⟨⟨⟨⟨b1,b2⟩,b3⟩,b4⟩,b5⟩:=h2
  obtain⟨⟨⟨⟨d1,d2⟩,d3⟩,d4⟩,d5⟩:=h3
  have d4:=hr (by omega)
  have d5:=ho (by omega)
  subst a1 a2 a3 a4 a5 a6 a7 a8 a9 a b c b1 b2 b3 b4 b5 d1 d2 d3 d4 d5
  rfl
theorem db{pc qc:Array Value}{A B:aS}  (ha:aH m w pc.toList A)(hb:aH m' w qc.toList B) :
    Calls Tryz.prog 40 #[.agg pc,.agg qc] w (bS (.bool (decide (A=B))) w):=by
 have pM:=ha
 obtain⟨pvw,pvb,pvd,pvr,pvo,ph0,phw,phb,phd,phr,pho,pR⟩:=ha
 obtain rfl:pc=(ez A pvw pvb pvd pvr pvo).toArray:=by apply Array.toList_inj.1;simpa using ph0
 clear ph0
 obtain⟨pw,pkw,rfl,_,_⟩:=phw.shape
 obtain⟨pb,pkb,rfl,_,_⟩:=phb.shape
 obtain⟨pd,pkd,rfl,_,_⟩:=phd.shape
 obtain⟨pr,pkr,rfl,_,_⟩:=phr.shape
 obtain⟨po,pko,rfl,_,_⟩:=pho.shape
 have qM:=hb
 obtain⟨qvw,qvb,qvd,qvr,qvo,qh0,qhw,qhb,qhd,qhr,qho,qR⟩:=hb
 obtain rfl:qc=(ez B qvw qvb qvd qvr qvo).toArray:=by apply Array.toList_inj.1;simpa using qh0
 clear qh0
 obtain⟨qw,qkw,rfl,_,_⟩:=qhw.shape
 obtain⟨qb,qkb,rfl,_,_⟩:=qhb.shape
 obtain⟨qd,qkd,rfl,_,_⟩:=qhd.shape
 obtain⟨qr,qkr,rfl,_,_⟩:=qhr.shape
 obtain⟨qo,qko,rfl,_,_⟩:=qho.shape
 have hz1:=aT.len phr
 have hz2:=aT.len pho
 refine en 254 Tryz.func40 rfl<|sg<|L0<|cY (mG A.code A.fail A.addr A.count A.value A.and_ A.or_ A.addr2 A.sub A.status A.events A.messages (.slice pw A.words.length pkw) (.slice pb A.bits.length pkb) (.slice pd A.data.length pkd) (.slice pr A.recs.length pkr) A.mei A.kind A.level A.more A.next (.slice po A.objects.length pko)) fun i cT cU bV bW=>L0<|cY (mG B.code B.fail B.addr B.count B.value B.and_ B.or_ B.addr2 B.sub B.status B.events B.messages (.slice qw B.words.length qkw) (.slice qb B.bits.length qkb) (.slice qd B.data.length qkd) (.slice qr B.recs.length qkr) B.mei B.kind B.level B.more B.next (.slice qo B.objects.length qko)) fun l cV cW b aD=>ah 1<|sq<|aq 1<|?_
 have c:=ub aD bV
 refine aC c 0<|Pl 1<|aC b 0<|Pl 2<|cu 6 [19] 25 (((A.code != B.code)||(A.fail != B.fail))) (fun K aE=>?_) ?_
 refine bl 19 ((A.code != B.code)) (fun q=>?_) (fun q=>?_)
 have bX:=aA q
 exact Pl 6<|ce aE true (by rw[q];rfl)
 have bX:=aF q
 exact Pl 1<|L1<|dQ c 1<|Pl 1<|L1<|dQ b 1<|Pl 2<|ce aE (A.fail != B.fail) (by rw[q];rfl)
 refine Pl 1<|cu 6 [26] 32 ((((A.code != B.code)||(A.fail != B.fail))||(A.addr != B.addr))) (fun K aM=>?_) ?_
 refine bl 26 (((A.code != B.code)||(A.fail != B.fail))) (fun V=>?_) (fun V=>?_)
 exact Pl 6<|ce aM true (by rw[V];rfl)
 exact Pl 1<|L1<|dQ c 2<|Pl 1<|L1<|dQ b 2<|Pl 2<|ce aM (A.addr != B.addr) (by rw[V];rfl)
 refine Pl 1<|cu 6 [33] 39 (((((A.code != B.code)||(A.fail != B.fail))||(A.addr != B.addr))||(A.count != B.count))) (fun K aN=>?_) ?_
 refine bl 33 ((((A.code != B.code)||(A.fail != B.fail))||(A.addr != B.addr))) (fun W=>?_) (fun W=>?_)
 exact Pl 6<|ce aN true (by rw[W];rfl)
 exact Pl 1<|L1<|dQ c 3<|Pl 1<|L1<|dQ b 3<|Pl 2<|ce aN (A.count != B.count) (by rw[W];rfl)
 refine Pl 1<|cu 6 [40] 46 ((((((A.code != B.code)||(A.fail != B.fail))||(A.addr != B.addr))||(A.count != B.count))||(A.value != B.value))) (fun K aO=>?_) ?_
 refine bl 40 (((((A.code != B.code)||(A.fail != B.fail))||(A.addr != B.addr))||(A.count != B.count))) (fun X=>?_) (fun X=>?_)
 exact Pl 6<|ce aO true (by rw[X];rfl)
 exact Pl 1<|L1<|dQ c 4<|Pl 1<|L1<|dQ b 4<|Pl 2<|ce aO (A.value != B.value) (by rw[X];rfl)
 refine Pl 1<|cu 6 [47] 53 (((((((A.code != B.code)||(A.fail != B.fail))||(A.addr != B.addr))||(A.count != B.count))||(A.value != B.value))||(A.and_ != B.and_))) (fun K aP=>?_) ?_
 refine bl 47 ((((((A.code != B.code)||(A.fail != B.fail))||(A.addr != B.addr))||(A.count != B.count))||(A.value != B.value))) (fun Y=>?_) (fun Y=>?_)
 exact Pl 6<|ce aP true (by rw[Y];rfl)
 exact Pl 1<|L1<|dQ c 5<|Pl 1<|L1<|dQ b 5<|Pl 2<|ce aP (A.and_ != B.and_) (by rw[Y];rfl)
 refine Pl 1<|cu 6 [54] 60 ((((((((A.code != B.code)||(A.fail != B.fail))||(A.addr != B.addr))||(A.count != B.count))||(A.value != B.value))||(A.and_ != B.and_))||(A.or_ != B.or_))) (fun K aQ=>?_) ?_
 refine bl 54 (((((((A.code != B.code)||(A.fail != B.fail))||(A.addr != B.addr))||(A.count != B.count))||(A.value != B.value))||(A.and_ != B.and_))) (fun Z=>?_) (fun Z=>?_)
 exact Pl 6<|ce aQ true (by rw[Z];rfl)
 exact Pl 1<|L1<|dQ c 6<|Pl 1<|L1<|dQ b 6<|Pl 2<|ce aQ (A.or_ != B.or_) (by rw[Z];rfl)
 refine Pl 1<|cu 6 [61] 67 (((((((((A.code != B.code)||(A.fail != B.fail))||(A.addr != B.addr))||(A.count != B.count))||(A.value != B.value))||(A.and_ != B.and_))||(A.or_ != B.or_))||(A.addr2 != B.addr2))) (fun K aR=>?_) ?_
 refine bl 61 ((((((((A.code != B.code)||(A.fail != B.fail))||(A.addr != B.addr))||(A.count != B.count))||(A.value != B.value))||(A.and_ != B.and_))||(A.or_ != B.or_))) (fun a0=>?_) (fun a0=>?_)
 exact Pl 6<|ce aR true (by rw[a0];rfl)
 exact Pl 1<|L1<|dQ c 7<|Pl 1<|L1<|dQ b 7<|Pl 2<|ce aR (A.addr2 != B.addr2) (by rw[a0];rfl)
 refine Pl 1<|cu 6 [68] 74 ((((((((((A.code != B.code)||(A.fail != B.fail))||(A.addr != B.addr))||(A.count != B.count))||(A.value != B.value))||(A.and_ != B.and_))||(A.or_ != B.or_))||(A.addr2 != B.addr2))||(A.sub != B.sub))) (fun K aU=>?_) ?_
 refine bl 68 (((((((((A.code != B.code)||(A.fail != B.fail))||(A.addr != B.addr))||(A.count != B.count))||(A.value != B.value))||(A.and_ != B.and_))||(A.or_ != B.or_))||(A.addr2 != B.addr2))) (fun a1=>?_) (fun a1=>?_)
 exact Pl 6<|ce aU true (by rw[a1];rfl)
 exact Pl 1<|L1<|dQ c 8<|Pl 1<|L1<|dQ b 8<|Pl 2<|ce aU (A.sub != B.sub) (by rw[a1];rfl)
 refine Pl 1<|cu 6 [75] 81 (((((((((((A.code != B.code)||(A.fail != B.fail))||(A.addr != B.addr))||(A.count != B.count))||(A.value != B.value))||(A.and_ != B.and_))||(A.or_ != B.or_))||(A.addr2 != B.addr2))||(A.sub != B.sub))||(A.status != B.status))) (fun K aW=>?_) ?_
 refine bl 75 ((((((((((A.code != B.code)||(A.fail != B.fail))||(A.addr != B.addr))||(A.count != B.count))||(A.value != B.value))||(A.and_ != B.and_))||(A.or_ != B.or_))||(A.addr2 != B.addr2))||(A.sub != B.sub))) (fun a2=>?_) (fun a2=>?_)
 exact Pl 6<|ce aW true (by rw[a2];rfl)
 exact Pl 1<|L1<|dQ c 9<|Pl 1<|L1<|dQ b 9<|Pl 2<|ce aW (A.status != B.status) (by rw[a2];rfl)
 refine Pl 1<|cu 6 [82] 88 ((((((((((((A.code != B.code)||(A.fail != B.fail))||(A.addr != B.addr))||(A.count != B.count))||(A.value != B.value))||(A.and_ != B.and_))||(A.or_ != B.or_))||(A.addr2 != B.addr2))||(A.sub != B.sub))||(A.status != B.status))||(A.events != B.events))) (fun K aX=>?_) ?_
 refine bl 82 (((((((((((A.code != B.code)||(A.fail != B.fail))||(A.addr != B.addr))||(A.count != B.count))||(A.value != B.value))||(A.and_ != B.and_))||(A.or_ != B.or_))||(A.addr2 != B.addr2))||(A.sub != B.sub))||(A.status != B.status))) (fun a3=>?_) (fun a3=>?_)
 exact Pl 6<|ce aX true (by rw[a3];rfl)
 exact Pl 1<|L1<|dQ c 10<|Pl 1<|L1<|dQ b 10<|Pl 2<|ce aX (A.events != B.events) (by rw[a3];rfl)
 refine Pl 1<|cu 6 [89] 95 (((((((((((((A.code != B.code)||(A.fail != B.fail))||(A.addr != B.addr))||(A.count != B.count))||(A.value != B.value))||(A.and_ != B.and_))||(A.or_ != B.or_))||(A.addr2 != B.addr2))||(A.sub != B.sub))||(A.status != B.status))||(A.events != B.events))||(A.messages != B.messages))) (fun K aY=>?_) ?_
 refine bl 89 ((((((((((((A.code != B.code)||(A.fail != B.fail))||(A.addr != B.addr))||(A.count != B.count))||(A.value != B.value))||(A.and_ != B.and_))||(A.or_ != B.or_))||(A.addr2 != B.addr2))||(A.sub != B.sub))||(A.status != B.status))||(A.events != B.events))) (fun a4=>?_) (fun a4=>?_)
 exact Pl 6<|ce aY true (by rw[a4];rfl)
 exact Pl 1<|L1<|dQ c 11<|Pl 1<|L1<|dQ b 11<|Pl 2<|ce aY (A.messages != B.messages) (by rw[a4];rfl)
 refine nt<|?_
 have r:=aJ bW aD
 refine cb (((((((((((((A.code != B.code)||(A.fail != B.fail))||(A.addr != B.addr))||(A.count != B.count))||(A.value != B.value))||(A.and_ != B.and_))||(A.or_ != B.or_))||(A.addr2 != B.addr2))||(A.sub != B.sub))||(A.status != B.status))||(A.events != B.events))||(A.messages != B.messages))) (fun a5=>?_) (fun a5=>?_)
 refine aB 1<|b6<|rr (.bool false)<|?_
 have hs:decide (A=B)=false:=oV (f:=fun x y=>((((((((((((x.code != y.code)||(x.fail != y.fail))||(x.addr != y.addr))||(x.count != y.count))||(x.value != y.value))||(x.and_ != y.and_))||(x.or_ != y.or_))||(x.addr2 != y.addr2))||(x.sub != y.sub))||(x.status != y.status))||(x.events != y.events))||(x.messages != y.messages))) a5 (fun M=>by simp)
 rw[hs]
 exact⟨rfl,r⟩
 refine bu<|sq<|aq 1<|aC c 16<|Pl 1<|aC b 16<|Pl 2<|cu 6 [101] 107 (((A.mei != B.mei)||(A.kind != B.kind))) (fun K aZ=>?_) ?_
 refine bl 101 ((A.mei != B.mei)) (fun s=>?_) (fun s=>?_)
 have bY:=aA s
 exact Pl 6<|ce aZ true (by rw[s];rfl)
 have bY:=aF s
 exact Pl 1<|L1<|dQ c 17<|Pl 1<|L1<|dQ b 17<|Pl 2<|ce aZ (A.kind != B.kind) (by rw[s];rfl)
 refine Pl 1<|cu 6 [108] 114 ((((A.mei != B.mei)||(A.kind != B.kind))||(A.level != B.level))) (fun K b0=>?_) ?_
 refine bl 108 (((A.mei != B.mei)||(A.kind != B.kind))) (fun a6=>?_) (fun a6=>?_)
 exact Pl 6<|ce b0 true (by rw[a6];rfl)
 exact Pl 1<|L1<|dQ c 18<|Pl 1<|L1<|dQ b 18<|Pl 2<|ce b0 (A.level != B.level) (by rw[a6];rfl)
 refine Pl 1<|cu 6 [115] 121 (((((A.mei != B.mei)||(A.kind != B.kind))||(A.level != B.level))||(A.more != B.more))) (fun K b1=>?_) ?_
 refine bl 115 ((((A.mei != B.mei)||(A.kind != B.kind))||(A.level != B.level))) (fun a7=>?_) (fun a7=>?_)
 exact Pl 6<|ce b1 true (by rw[a7];rfl)
 exact Pl 1<|L1<|dQ c 19<|Pl 1<|L1<|dQ b 19<|Pl 2<|ce b1 (A.more != B.more) (by rw[a7];rfl)
 refine Pl 1<|cu 6 [122] 128 ((((((A.mei != B.mei)||(A.kind != B.kind))||(A.level != B.level))||(A.more != B.more))||(A.next != B.next))) (fun K b2=>?_) ?_
 refine bl 122 (((((A.mei != B.mei)||(A.kind != B.kind))||(A.level != B.level))||(A.more != B.more))) (fun a8=>?_) (fun a8=>?_)
 exact Pl 6<|ce b2 true (by rw[a8];rfl)
 exact Pl 1<|L1<|dQ c 20<|Pl 1<|L1<|dQ b 20<|Pl 2<|ce b2 (A.next != B.next) (by rw[a8];rfl)
 refine nt<|cb ((((((A.mei != B.mei)||(A.kind != B.kind))||(A.level != B.level))||(A.more != B.more))||(A.next != B.next))) (fun a9=>?_) (fun a9=>?_)
 refine aB 1<|b6<|rr (.bool false)<|?_
 have hs:decide (A=B)=false:=oV (f:=fun x y=>(((((x.mei != y.mei)||(x.kind != y.kind))||(x.level != y.level))||(x.more != y.more))||(x.next != y.next))) a9 (fun M=>by simp)
 rw[hs]
 exact⟨rfl,r⟩
 refine bu<|aq 1<|aC c 12<|Pl 1<|aC b 12<|?_
 refine ay<|m1 (kN (eF.old phw r) (eF.old qhw r)) fun cX aa=>Pl 1<|aL 1<|?_
 have b3:=ub aa c
 refine aC b3 13<|Pl 1<|?_
 have b4:=ub aa b
 refine aC b4 13<|?_
 have ab:=aJ r aa
 refine ay<|m1 (qB (jc.old phb ab) (jc.old qhb ab)) fun cZ ac=>Pl 1<|aL 1<|?_
 have N:=ub ac b3
 refine aC N 14<|Pl 1<|?_
 have t:=ub ac b4
 refine aC t 14<|?_
 have ad:=aJ ab ac
 refine ay<|m1 (jI (aV.old phd ad) (aV.old qhd ad)) fun bZ n=>ah 1<|sq<|aq 3<|cu 3 [146] 149 (((!(decide (A.words=B.words)))||(!(decide (A.bits=B.bits))))) (fun K b5=>?_) ?_
 refine bl 146 ((!(decide (A.words=B.words)))) (fun u=>?_) (fun u=>?_)
 have af:(decide (A.words=B.words))=false:=by simpa using u
 have c0:=of_decide_eq_false af
 exact Pl 3<|ce b5 true (by rw[u];rfl)
 have af:(decide (A.words=B.words))=true:=by simpa using u
 have c0:=of_decide_eq_true af
 exact Pl 3<|ce b5 (!(decide (A.bits=B.bits))) (by rw[u];rfl)
 refine Pl 1<|cu 3 [150] 153 ((((!(decide (A.words=B.words)))||(!(decide (A.bits=B.bits))))||(!(decide (A.data=B.data))))) (fun K b7=>?_) ?_
 refine bl 150 (((!(decide (A.words=B.words)))||(!(decide (A.bits=B.bits))))) (fun v=>?_) (fun v=>?_)
 exact Pl 3<|ce b7 true (by rw[v];rfl)
 have c2:=(bL v).1
 have c3:=(bL v).2
 have c4:(decide (A.words=B.words))=true:=by simpa using c2
 have q74anp:=of_decide_eq_true c4
 have c5:(decide (A.bits=B.bits))=true:=by simpa using c3
 have q74bnp:=of_decide_eq_true c5
 exact Pl 3<|ce b7 (!(decide (A.data=B.data))) (by rw[v];rfl)
 refine Pl 1<|cu 8 [154] 162 (((((!(decide (A.words=B.words)))||(!(decide (A.bits=B.bits))))||(!(decide (A.data=B.data))))||(((A.recs.length:Nat) : Int)!=((B.recs.length:Nat) : Int)))) (fun K b8=>?_) ?_
 refine bl 154 ((((!(decide (A.words=B.words)))||(!(decide (A.bits=B.bits))))||(!(decide (A.data=B.data))))) (fun z=>?_) (fun z=>?_)
 exact Pl 8<|ce b8 true (by rw[z];rfl)
 have b9:=(bL z).1
 have c6:=(bL z).2
 have c7:=(bL b9).1
 have c8:=(bL b9).2
 have q76aan:(decide (A.words=B.words))=true:=by simpa using c7
 have q76aanp:=of_decide_eq_true q76aan
 have q76abn:(decide (A.bits=B.bits))=true:=by simpa using c8
 have q76abnp:=of_decide_eq_true q76abn
 have c9:(decide (A.data=B.data))=true:=by simpa using c6
 have q76bnp:=of_decide_eq_true c9
 refine Pl 1<|?_
 refine L1<|dQ (ub n N) 15<|Pl 2<|?_
 exact L1<|dQ (ub n t) 15<|Pl 3<|ce b8 (((A.recs.length:Nat) : Int)!=((B.recs.length:Nat) : Int)) (by rw[z];rfl)
 refine Pl 1<|cu 8 [163] 171 ((((((!(decide (A.words=B.words)))||(!(decide (A.bits=B.bits))))||(!(decide (A.data=B.data))))||(((A.recs.length:Nat) : Int)!=((B.recs.length:Nat) : Int)))||(((A.objects.length:Nat) : Int)!=((B.objects.length:Nat) : Int)))) (fun K ba=>?_) ?_
 refine bl 163 (((((!(decide (A.words=B.words)))||(!(decide (A.bits=B.bits))))||(!(decide (A.data=B.data))))||(((A.recs.length:Nat) : Int)!=((B.recs.length:Nat) : Int)))) (fun C=>?_) (fun C=>?_)
 exact Pl 8<|ce ba true (by rw[C];rfl)
 have bb:=(bL C).1
 have ca:=(bL C).2
 have bc:=(bL bb).1
 have cc:=(bL bb).2
 have q80aaa:=(bL bc).1
 have q80aab:=(bL bc).2
 have q80aaan:(decide (A.words=B.words))=true:=by simpa using q80aaa
 have q80aaanp:=of_decide_eq_true q80aaan
 have q80aabn:(decide (A.bits=B.bits))=true:=by simpa using q80aab
 have q80aabnp:=of_decide_eq_true q80aabn
 have q80abn:(decide (A.data=B.data))=true:=by simpa using cc
 have q80abnp:=of_decide_eq_true q80abn
 have d0:=aF ca
 refine Pl 1<|?_
 refine L1<|dQ (ub n N) 21<|Pl 2<|?_
 exact L1<|dQ (ub n t) 21<|Pl 3<|ce ba (((A.objects.length:Nat) : Int)!=((B.objects.length:Nat) : Int)) (by rw[C];rfl)
 refine nt<|?_
 have bd:=aJ ad n
 refine cb ((((((!(decide (A.words=B.words)))||(!(decide (A.bits=B.bits))))||(!(decide (A.data=B.data))))||(((A.recs.length:Nat) : Int)!=((B.recs.length:Nat) : Int)))||(((A.objects.length:Nat) : Int)!=((B.objects.length:Nat) : Int)))) (fun D=>?_) (fun D=>?_)
 refine aB 1<|b6<|rr (.bool false)<|?_
 have hs:decide (A=B)=false:=oV (f:=fun x y=>(((((!(decide (x.words=y.words)))||(!(decide (x.bits=y.bits))))||(!(decide (x.data=y.data))))||(((x.recs.length:Nat) : Int)!=((y.recs.length:Nat) : Int)))||(((x.objects.length:Nat) : Int)!=((y.objects.length:Nat) : Int)))) D (fun M=>by simp)
 rw[hs]
 exact⟨rfl,bd⟩
 have be:=(bL D).1
 have cd:=(bL D).2
 have bf:=(bL be).1
 have cf:=(bL be).2
 have q85aaa:=(bL bf).1
 have q85aab:=(bL bf).2
 have q85aaaa:=(bL q85aaa).1
 have q85aaab:=(bL q85aaa).2
 have q85aaaan:(decide (A.words=B.words))=true:=by simpa using q85aaaa
 have q85aaaanp:=of_decide_eq_true q85aaaan
 have q85aaabn:(decide (A.bits=B.bits))=true:=by simpa using q85aaab
 have q85aaabnp:=of_decide_eq_true q85aaabn
 have q85aabn:(decide (A.data=B.data))=true:=by simpa using q85aab
 have q85aabnp:=of_decide_eq_true q85aabn
 have q85abp:=aF cf
 have d1:=aF cd
 refine bu<|sq<|aB 1<|bk<|?_
 refine je (fun x=>[(2,vP i 0),(3,vP l 0),(8,vI ((x:Nat) : Int))]) (fun(x:Nat) w'=>aI [] bZ w'∧(A.recs.take x=B.recs.take x)∧(x≤A.recs.length)) (fun x=>A.recs.length-x) 0 ⟨aI.refl _ _,(by(try dsimp only);simp),(by(try dsimp only);omega)⟩ ?_
 rintro j cg ⟨O,ch,ci⟩
 refine gi [(2,vP i 0),(3,vP l 0),(8,vI ((j:Nat) : Int))] ?_
 have bg:A.recs.take j=B.recs.take j:=ch
 have d2:j≤A.recs.length:=ci
 refine sq<|aq 2<|?_
 have P:=aJ n O
 have ag:=ub P N
 refine aC ag 15<|ah 2<|?_
 have Q:=aJ bd O
 refine cb ((decide (((j:Nat) : Int)<((A.recs.length:Nat) : Int)))) (fun ai=>?_) (fun ai=>?_)
 have cj:=of_decide_eq_true ai
 refine bu<|sq<|bk<|aq 1<|aC ag 15<|Pl 1<|nw (oA.elt phr j (by omega)) fun d3 d4 d5 d6 d7 bh bi ck cl cm d8 cn=>L0<|w9 4 A.recs.length j ck (by omega)<|?_
 refine L0<|DU [vW ((A.recs.getD j ⟨0,0,0,[]⟩).file),vW ((A.recs.getD j ⟨0,0,0,[]⟩).record),vW ((A.recs.getD j ⟨0,0,0,[]⟩).count),.slice bh ((A.recs.getD j ⟨0,0,0,[]⟩).words.length) bi] (ub Q cl) cn<|aK #[vW 0,vW 0,vW 0,nS] fun d9 da aj co ak=>aG co #[vW ((A.recs.getD j ⟨0,0,0,[]⟩).file),vW ((A.recs.getD j ⟨0,0,0,[]⟩).record),vW ((A.recs.getD j ⟨0,0,0,[]⟩).count),.slice bh ((A.recs.getD j ⟨0,0,0,[]⟩).words.length) bi] fun dc cp al=>aL 1<|?_
 refine aC (ub (u1 (aJ P ak) al (ni P.size aj)) t) 15<|Pl 1<|nw (oA.elt qhr j (by omega)) fun dd de df dg dh bj bm cq cr cs di ct=>L0<|w9 4 B.recs.length j cq (by omega)<|?_
 have am:=u1 (aJ Q ak) al (ni Q.size aj)
 refine L0<|DU [vW ((B.recs.getD j ⟨0,0,0,[]⟩).file),vW ((B.recs.getD j ⟨0,0,0,[]⟩).record),vW ((B.recs.getD j ⟨0,0,0,[]⟩).count),.slice bj ((B.recs.getD j ⟨0,0,0,[]⟩).words.length) bm] (ub am cr) ct<|aK #[vW 0,vW 0,vW 0,nS] fun dj dk an cv ao=>aG cv #[vW ((B.recs.getD j ⟨0,0,0,[]⟩).file),vW ((B.recs.getD j ⟨0,0,0,[]⟩).record),vW ((B.recs.getD j ⟨0,0,0,[]⟩).count),.slice bj ((B.recs.getD j ⟨0,0,0,[]⟩).words.length) bm] fun dl R ap=>aL 1<|?_
 have S:=ub (u1 ao ap (nr an)) cp
 refine aC S 3<|Pl 1<|aC R 3<|?_
 have ar:=u1 (aJ am ao) ap (ni am.size an)
 refine ay<|m1 (kN (eF.old cm ar) (eF.old cs ar)) fun dm h=>Pl 1<|aL 3<|cu 6 [196] 202 (((!(decide ((A.recs.getD j ⟨0,0,0,[]⟩).words=(B.recs.getD j ⟨0,0,0,[]⟩).words)))||(((A.recs.getD j ⟨0,0,0,[]⟩).file)!=((B.recs.getD j ⟨0,0,0,[]⟩).file)))) (fun K bo=>?_) ?_
 refine bl 196 ((!(decide ((A.recs.getD j ⟨0,0,0,[]⟩).words=(B.recs.getD j ⟨0,0,0,[]⟩).words)))) (fun E=>?_) (fun E=>?_)
 have au:(decide ((A.recs.getD j ⟨0,0,0,[]⟩).words=(B.recs.getD j ⟨0,0,0,[]⟩).words))=false:=by simpa using E
 have cw:=of_decide_eq_false au
 exact Pl 6<|ce bo true (by rw[E];rfl)
 have au:(decide ((A.recs.getD j ⟨0,0,0,[]⟩).words=(B.recs.getD j ⟨0,0,0,[]⟩).words))=true:=by simpa using E
 have cw:=of_decide_eq_true au
 refine Pl 1<|?_
 refine L1<|dQ (ub h S) 0<|Pl 1<|?_
 exact L1<|dQ (ub h R) 0<|Pl 2<|ce bo (((A.recs.getD j ⟨0,0,0,[]⟩).file)!=((B.recs.getD j ⟨0,0,0,[]⟩).file)) (by rw[E];rfl)
 refine Pl 1<|cu 6 [203] 209 ((((!(decide ((A.recs.getD j ⟨0,0,0,[]⟩).words=(B.recs.getD j ⟨0,0,0,[]⟩).words)))||(((A.recs.getD j ⟨0,0,0,[]⟩).file)!=((B.recs.getD j ⟨0,0,0,[]⟩).file)))||(((A.recs.getD j ⟨0,0,0,[]⟩).record)!=((B.recs.getD j ⟨0,0,0,[]⟩).record)))) (fun K bq=>?_) ?_
 refine bl 203 (((!(decide ((A.recs.getD j ⟨0,0,0,[]⟩).words=(B.recs.getD j ⟨0,0,0,[]⟩).words)))||(((A.recs.getD j ⟨0,0,0,[]⟩).file)!=((B.recs.getD j ⟨0,0,0,[]⟩).file)))) (fun F=>?_) (fun F=>?_)
 exact Pl 6<|ce bq true (by rw[F];rfl)
 have cx:=(bL F).1
 have cy:=(bL F).2
 have cz:(decide ((A.recs.getD j ⟨0,0,0,[]⟩).words=(B.recs.getD j ⟨0,0,0,[]⟩).words))=true:=by simpa using cx
 have q156anp:=of_decide_eq_true cz
 have dn:=aF cy
 refine Pl 1<|?_
 refine L1<|dQ (ub h S) 1<|Pl 1<|?_
 exact L1<|dQ (ub h R) 1<|Pl 2<|ce bq (((A.recs.getD j ⟨0,0,0,[]⟩).record)!=((B.recs.getD j ⟨0,0,0,[]⟩).record)) (by rw[F];rfl)
 refine Pl 1<|cu 6 [210] 216 (((((!(decide ((A.recs.getD j ⟨0,0,0,[]⟩).words=(B.recs.getD j ⟨0,0,0,[]⟩).words)))||(((A.recs.getD j ⟨0,0,0,[]⟩).file)!=((B.recs.getD j ⟨0,0,0,[]⟩).file)))||(((A.recs.getD j ⟨0,0,0,[]⟩).record)!=((B.recs.getD j ⟨0,0,0,[]⟩).record)))||(((A.recs.getD j ⟨0,0,0,[]⟩).count)!=((B.recs.getD j ⟨0,0,0,[]⟩).count)))) (fun K bs=>?_) ?_
 refine bl 210 ((((!(decide ((A.recs.getD j ⟨0,0,0,[]⟩).words=(B.recs.getD j ⟨0,0,0,[]⟩).words)))||(((A.recs.getD j ⟨0,0,0,[]⟩).file)!=((B.recs.getD j ⟨0,0,0,[]⟩).file)))||(((A.recs.getD j ⟨0,0,0,[]⟩).record)!=((B.recs.getD j ⟨0,0,0,[]⟩).record)))) (fun G=>?_) (fun G=>?_)
 exact Pl 6<|ce bs true (by rw[G];rfl)
 have bt:=(bL G).1
 have cA:=(bL G).2
 have cB:=(bL bt).1
 have cC:=(bL bt).2
 have q160aan:(decide ((A.recs.getD j ⟨0,0,0,[]⟩).words=(B.recs.getD j ⟨0,0,0,[]⟩).words))=true:=by simpa using cB
 have q160aanp:=of_decide_eq_true q160aan
 have q160abp:=aF cC
 have dp:=aF cA
 refine Pl 1<|?_
 refine L1<|dQ (ub h S) 2<|Pl 1<|?_
 exact L1<|dQ (ub h R) 2<|Pl 2<|ce bs (((A.recs.getD j ⟨0,0,0,[]⟩).count)!=((B.recs.getD j ⟨0,0,0,[]⟩).count)) (by rw[G];rfl)
 refine nt<|?_
 refine cb (((((!(decide ((A.recs.getD j ⟨0,0,0,[]⟩).words=(B.recs.getD j ⟨0,0,0,[]⟩).words)))||(((A.recs.getD j ⟨0,0,0,[]⟩).file)!=((B.recs.getD j ⟨0,0,0,[]⟩).file)))||(((A.recs.getD j ⟨0,0,0,[]⟩).record)!=((B.recs.getD j ⟨0,0,0,[]⟩).record)))||(((A.recs.getD j ⟨0,0,0,[]⟩).count)!=((B.recs.getD j ⟨0,0,0,[]⟩).count)))) (fun H=>?_) (fun H=>?_)
 refine aB 1<|rt<|br<|tr<|tr<|br<|tr<|rr (.bool false)<|?_
 have hs:decide (A=B)=false:=oV (f:=fun x y=>((((!(decide ((x.recs.getD j ⟨0,0,0,[]⟩).words=(y.recs.getD j ⟨0,0,0,[]⟩).words)))||(((x.recs.getD j ⟨0,0,0,[]⟩).file)!=((y.recs.getD j ⟨0,0,0,[]⟩).file)))||(((x.recs.getD j ⟨0,0,0,[]⟩).record)!=((y.recs.getD j ⟨0,0,0,[]⟩).record)))||(((x.recs.getD j ⟨0,0,0,[]⟩).count)!=((y.recs.getD j ⟨0,0,0,[]⟩).count)))) H (fun M=>by simp)
 rw[hs]
 exact⟨rfl,(aJ ar h)⟩
 have bw:=(bL H).1
 have cD:=(bL H).2
 have bz:=(bL bw).1
 have cE:=(bL bw).2
 have q165aaa:=(bL bz).1
 have q165aab:=(bL bz).2
 have q165aaan:(decide ((A.recs.getD j ⟨0,0,0,[]⟩).words=(B.recs.getD j ⟨0,0,0,[]⟩).words))=true:=by simpa using q165aaa
 have q165aaanp:=of_decide_eq_true q165aaan
 have q165aabp:=aF q165aab
 have q165abp:=aF cE
 have dq:=aF cD
 refine sk<|bn<|tn<|go<|Pl 1<|bp (((j:Nat) : Int)+1)<|Pl 1<|nl<|?_
 have bA:=u1 (aJ O ak) al (ni O.size aj)
 exact gK (j+1) ⟨(aJ (u1 (aJ bA ao) ap (ni bA.size an)) h),(uT (d:=⟨0,0,0,[]⟩) bg (by omega) (by omega) (D6 H)),(by(try dsimp only);omega)⟩ (by omega)
 have cj:=of_decide_eq_false ai
 refine xt<|tx<|tx<|bx<|tn<|sq<|aB 1<|bk<|?_
 refine je (fun x=>[(2,vP i 0),(3,vP l 0),(12,vI ((x:Nat) : Int))]) (fun(x:Nat) w'=>aI [] cg w'∧(A.objects.take x=B.objects.take x)∧(x≤A.objects.length)) (fun x=>A.objects.length-x) 0 ⟨aI.refl _ _,(by(try dsimp only);simp),(by(try dsimp only);omega)⟩ ?_
 rintro k dr ⟨T,cF,cG⟩
 refine gi [(2,vP i 0),(3,vP l 0),(12,vI ((k:Nat) : Int))] ?_
 have bB:A.objects.take k=B.objects.take k:=cF
 have ds:k≤A.objects.length:=cG
 refine sq<|aq 2<|?_
 have bC:=ub T ag
 refine aC bC 21<|ah 2<|?_
 have bD:=aJ Q T
 refine cb ((decide (((k:Nat) : Int)<((A.objects.length:Nat) : Int)))) (fun av=>?_) (fun av=>?_)
 have cH:=of_decide_eq_true av
 refine bu<|sq<|bk<|sq<|nw (qi.elt pho k (by omega)) fun bE bF dt du dv cI cJ bG cK cL dw aw=>nw (qi.elt qho k (by omega)) fun bH bI dx dy dz cM cN bJ cO cP dA ax=>Rg 14 (fun w'=>w'.cell? ⟨i,21,none⟩=some (.slice po A.objects.length pko)∧w'.cell? ⟨bE,bF+k*2+1,none⟩=some (.slice cI ((A.objects.getD k ⟨0,[]⟩).value.length) cJ)∧w'.cell? ⟨l,21,none⟩=some (.slice qo B.objects.length qko)∧w'.cell? ⟨bH,bI+k*2+1,none⟩=some (.slice cM ((B.objects.getD k ⟨0,[]⟩).value.length) cN)) fun dB U=>?_
 have bK:=ub U bC
 have I:=aJ bD U
 have bM:=ub I cK
 have bN:=ub (aJ (aJ P T) U) t
 have bO:=ub I cO
 refine bv ⟨(ae bK rfl),(iC bM aw 1 rfl (by decide)),(ae bN rfl),(iC bO ax 1 rfl (by decide))⟩ fun g=>Rt 0 g<|Rl 1 g (fun _ hs=>hs.1)<|Rt 2 g<|Ri 3 g 2 A.objects.length k ((k:Nat) : Int) rfl bG (by omega)<|Rt 4 g<|Rl 5 g (fun _ hs=>hs.2.1)<|Rt 6 g<|Rl 7 g (fun _ hs=>hs.2.2.1)<|Rt 8 g<|Ri 9 g 2 B.objects.length k ((k:Nat) : Int) rfl bJ (by omega)<|Rt 10 g<|Rl 11 g (fun _ hs=>hs.2.2.2)<|?_
 refine R0 12 rfl<|Oc<|m1 (jI (aV.old cL I) (aV.old cP I)) fun dC o=>?_
 have bP:=ub o bK
 have bQ:=ub o bM
 have bR:=ub o bN
 have bT:=ub o bO
 refine bv ⟨(ae bP rfl),(iC bQ aw 1 rfl (by decide)),(ae bR rfl),(iC bT ax 1 rfl (by decide))⟩ fun cQ=>Rt 13 cQ<|re<|tn<|sq<|Rg 17 (fun w'=>w'.cell? ⟨i,21,none⟩=some (.slice po A.objects.length pko)∧w'.cell? ⟨bE,bF+k*2+0,none⟩=some (vB ((A.objects.getD k ⟨0,[]⟩).id))∧w'.cell? ⟨l,21,none⟩=some (.slice qo B.objects.length qko)∧w'.cell? ⟨bH,bI+k*2+0,none⟩=some (vB ((B.objects.getD k ⟨0,[]⟩).id))) fun dD p=>?_
 refine bv ⟨(ae (ub p bP) rfl),(iC (ub p bQ) aw 0 rfl (by decide)),(ae (ub p bR) rfl),(iC (ub p bT) ax 0 rfl (by decide))⟩ fun a=>Rt 0 a<|Rt 1 a<|Rt 2 a<|?_
 have bU:=aJ (aJ I o) p
 refine wc 239 ((!(decide ((A.objects.getD k ⟨0,[]⟩).value=(B.objects.getD k ⟨0,[]⟩).value)))) (fun J=>?_) (fun J=>?_)
 have az:(decide ((A.objects.getD k ⟨0,[]⟩).value=(B.objects.getD k ⟨0,[]⟩).value))=false:=by simpa using J
 have cR:=of_decide_eq_false az
 refine Ro 3 a<|Ro 4 a<|Ro 5 a<|Ro 6 a<|Ro 7 a<|Ro 8 a<|Ro 9 a<|Ro 10 a<|Ro 11 a<|Ro 12 a<|Ro 13 a<|Ro 14 a<|Ro 15 a<|Rt 16 a<|?_
 refine re<|tn<|c1<|aB 1<|rt<|br<|tr<|tr<|br<|tr<|?_
 refine rr (.bool false)<|?_
 have hs:decide (A=B)=false:=oV (f:=fun x y=>(!(decide ((x.objects.getD k ⟨0,[]⟩).value=(y.objects.getD k ⟨0,[]⟩).value)))) J (fun M=>by simp)
 rw[hs]
 exact⟨rfl,bU⟩
 have az:(decide ((A.objects.getD k ⟨0,[]⟩).value=(B.objects.getD k ⟨0,[]⟩).value))=true:=by simpa using J
 have cR:=of_decide_eq_true az
 refine Rt 3 a<|Rl 4 a (fun _ hs=>hs.1)<|Rt 5 a<|Ri 6 a 2 A.objects.length k ((k:Nat) : Int) rfl bG (by omega)<|Rt 7 a<|Rl 8 a (fun _ hs=>hs.2.1)<|Rt 9 a<|Rl 10 a (fun _ hs=>hs.2.2.1)<|Rt 11 a<|Ri 12 a 2 B.objects.length k ((k:Nat) : Int) rfl bJ (by omega)<|Rt 13 a<|Rl 14 a (fun _ hs=>hs.2.2.2)<|Rt 15 a<|Rt 16 a<|?_
 refine re<|tn<|cb ((((A.objects.getD k ⟨0,[]⟩).id)!=((B.objects.getD k ⟨0,[]⟩).id))) (fun L=>?_) (fun L=>?_)
 have cS:=aA L
 refine aB 1<|rt<|br<|tr<|tr<|br<|tr<|rr (.bool false)<|?_
 have hs:decide (A=B)=false:=oV (f:=fun x y=>(((x.objects.getD k ⟨0,[]⟩).id)!=((y.objects.getD k ⟨0,[]⟩).id))) L (fun M=>by simp)
 rw[hs]
 exact⟨rfl,bU⟩
 have cS:=aF L
 refine sk<|bn<|tn<|go<|Pl 1<|bp (((k:Nat) : Int)+1)<|Pl 1<|nl<|?_
 exact gK (k+1) ⟨(aJ (aJ (aJ T U) o) p),(uT (d:=⟨0,[]⟩) bB (by omega) (by omega) (BP J L)),(by(try dsimp only);omega)⟩ (by omega)
 have cH:=of_decide_eq_false av
 refine xt<|tx<|tx<|bx<|tn<|aB 1<|rt<|rr (.bool true)<|?_
 have hs:decide (A=B)=true:=decide_eq_true (Bh a5 a9 D (fun e=>iU bg (by omega) e) (fun e=>iU bB (by omega) e))
 rw[hs]
 exact⟨rfl,bD⟩
end Go.Proofs.YtdkhbcefkfgbdaaGreat
