/- Contracts of functions, part CStreamCuts4. -/
import Derived.Test.YtpglhicfhppaiaaGreatCStreamCuts1
import Derived.Test.YtpglhicfhppaiaaGreatCStreamCuts2
import Derived.Test.YtpglhicfhppaiaaGreatCStreamCuts3
import Derived.Scope
import Derived.Lib.ConvBytes
import Derived.Lib.OthersKept
import Derived.Shelf.Strings.Builder1
import Derived.Lib.SlBytesConst
set_option linter.unusedVariables false
set_option linter.unusedSimpArgs false
set_option maxRecDepth 100000
set_option maxHeartbeats 4000000
namespace Go.Proofs.YtpglhicfhppaiaaGreat
open Go.RowKit
structure SM where
  dir:Int
  held:List Int
  skip:Int
theorem qk{a b:Int}(ha:0≤a∧a<256)(hb:0≤b∧b<256) : bits .or .i64 (a*256) b=a*256+b:=by
  obtain⟨A,rfl⟩:=Int.eq_ofNat_of_zero_le ha.1
  obtain⟨B,rfl⟩:=Int.eq_ofNat_of_zero_le hb.1
  have e:((A:Int)*256)=((A*256:Nat) : Int):=by omega
  rw[e]
  show IntKind.i64.wrap ((BitVec.ofInt 64 ((A*256:Nat) : Int) ||| BitVec.ofInt 64 (B:Int)).toNat:Int)=_
  rw[BitVec.toNat_or,BitVec.ofInt_natCast,BitVec.ofInt_natCast,BitVec.toNat_ofNat,BitVec.toNat_ofNat,Nat.mod_eq_of_lt (by omega),Nat.mod_eq_of_lt (by omega)]
  have h:=Nat.shiftLeft_add_eq_or_of_lt (i:=8) (b:=B) (by omega) A
  rw[Nat.shiftLeft_eq] at h
  rw[← h,i64_in (by omega)]
  omega
def SM.size (S:SM) : Int:=S.held.getD 4 0*256+S.held.getD 5 0
def SM.nx (S:SM) : Nat:=if S.held.length<6 then 0 else if 254<S.size then 1 else if S.size<2 then 2 else if (S.held.length:Int)=6+S.size then 3 else 0
def SM.does (S:SM) : SM × List Ev:=match S.nx with
  | 1=>(⟨S.dir,[],S.size⟩,[Ev.bad 3])
  | 2=>(⟨S.dir,[],S.size⟩,[Ev.bad 5])
  | 3=>(⟨S.dir,[],S.skip⟩,[⟨(c6 S.dir S.held).2,(c6 S.dir S.held).1⟩])
  | _=>(S,[])
def SM.byte (S:SM)(c:Int) : SM × List Ev:=if 0<S.skip then (⟨S.dir,S.held,S.skip-1⟩,[]) else (SM.mk S.dir (S.held++[c]) S.skip).does
def SM.feed (S:SM)(b:List Int) : SM × List Ev:=b.foldl (fun p c=>((p.1.byte c).1,p.2++(p.1.byte c).2)) (S,[])
abbrev vN (S:SM) (A:Option Addr) (cp:Nat) : Array Value:=#[.int .i64 S.dir,.slice A S.held.length cp,.int .i64 S.skip]
abbrev io (w:World) (g:Nat) (S:SM) (A:Option Addr) (cp:Nat) : Prop:=w.heap[g]? = some (.cells (vN S A cp) 131 (0,0))
theorem SM.size_rng{S:SM}(h:∀ x,x∈S.held→0≤x∧x<256) : 0≤S.size∧S.size<65536:=by
  have hd:∀ j,0≤S.held.getD j 0∧S.held.getD j 0<256:=fun j=>by
    rw[List.getD_eq_getElem?_getD]
    cases hj:S.held[j]? with
    | none=>simp
    | some x=>exact h x (List.mem_of_getElem? hj)
  have h4:=hd 4
  have h5:=hd 5
  unfold SM.size
  omega
def tW (S:SM)(L:List Ev)(g:Nat)(w:World)(e:Ending)(w':World) : Prop:=∃ v,e = .returned v∧eR w.heap.size w' v L∧io w' g S none 0∧aq [g] w w'
theorem l4{w:World}:Calls Tryz.prog 48 #[.int .i64 0] w (fun e w'=>∃ g,e = .returned (.pointer (some ⟨g,0,none⟩))∧w.heap.size≤g∧io w' g ⟨0,[],0⟩ none 0∧aq [] w w'):=by
 refine en 12 Tryz.func48 rfl<|sg<|Pl 1<|nt<|sq<|sg<|Pl 6<|nt<|c0<|sk<|?_
 refine tn<|sg<|Pl 2<|L0<|cP #[.int .i64 0,.slice none 0 0,.int .i64 0] fun a f b c d=>Pl 1<|nt<|rt<|rr (.pointer (some ⟨a,0,none⟩))<|?_
 exact⟨a,rfl,b,c,d⟩
theorem lB{w:World}:Calls Tryz.prog 48 #[.int .i64 1] w (fun e w'=>∃ g,e = .returned (.pointer (some ⟨g,0,none⟩))∧w.heap.size≤g∧io w' g ⟨1,[],0⟩ none 0∧aq [] w w'):=by
 refine en 12 Tryz.func48 rfl<|sg<|Pl 1<|nt<|sq<|sg<|Pl 6<|nt<|c0<|sk<|?_
 refine tn<|sg<|Pl 2<|L0<|cP #[.int .i64 1,.slice none 0 0,.int .i64 0] fun a f b c d=>Pl 1<|nt<|rt<|rr (.pointer (some ⟨a,0,none⟩))<|?_
 exact⟨a,rfl,b,c,d⟩
theorem lw{w:World}{g:Nat}{S:SM}{A:Option Addr}{cp:Nat}(hb:io w g S A cp)(hr:aL true w (.slice A S.held.length cp) S.held) : Calls Tryz.prog 185 #[.pointer (some ⟨g,0,none⟩)] w (bg (.int .i64 ((S.held.length:Nat) : Int)) w):=by
 have hcm:=aG.len hr
 have hrg:=SM.size_rng (aL.range hr)
 have hru:=aL.range hr
 refine en 8 Tryz.func185 rfl<|sg<|Pl 1<|ng<|Pl 3<|L0<|aR hb 1<|Pl 2<|nt<|rt<|?_
 refine rr (.int .i64 ((S.held.length:Nat) : Int))<|?_
 exact⟨rfl,(aq.refl [] _)⟩
theorem ei{w:World}{g:Nat}{S:SM}{A:Option Addr}{cp:Nat}(hb:io w g S A cp)(hr:aL true w (.slice A S.held.length cp) S.held)(h6:6≤S.held.length) : Calls Tryz.prog 187 #[.pointer (some ⟨g,0,none⟩)] w (bg (.int .i64 S.size) w):=by
 have hcm:=aG.len hr
 have hrg:=SM.size_rng (aL.range hr)
 have hru:=aL.range hr
 refine en 19 Tryz.func187 rfl<|sg<|Pl 1<|nt<|sq<|fA (aL.at_ hr 4 (by omega)) fun c d e f l=>fA (aL.at_ hr 5 (by omega)) fun h i j k m=>Rg 17 (fun w'=>w'.cell? ⟨g,1,none⟩=some (.slice A S.held.length cp)∧w'.cell? ⟨c,d+4,none⟩=some (.int .u8 (S.held.getD 4 0))∧w'.cell? ⟨h,i+5,none⟩=some (.int .u8 (S.held.getD 5 0))) fun n b=>?_
 refine b9 ⟨(ai (ub b hb) rfl),(uc b f),(uc b k)⟩ fun a=>Rt 0 a<|Rt 1 a<|Rt 2 a<|Rl 3 a (fun _ hs=>hs.1)<|lN 4 a S.held.length 4 4 rfl e (by omega)<|Rl 5 a (fun _ hs=>hs.2.1)<|Rr 6 a (.int .i64 (S.held.getD 4 0)) (fun _ _=>bU (.int .i64 (IntKind.i64.wrap (S.held.getD 4 0))) (by kernel_rfl) (congrArg (Value.int .i64) (i64_in (by omega))))<|Rr 7 a (.int .i64 ((S.held.getD 4 0)*256)) (fun _ _=>bU (.int .i64 (IntKind.i64.wrap ((S.held.getD 4 0)*256))) (by kernel_rfl) (congrArg (Value.int .i64) (i64_in (by omega))))<|Rt 8 a<|Rt 9 a<|Rt 10 a<|Rl 11 a (fun _ hs=>hs.1)<|lN 12 a S.held.length 5 5 rfl j (by omega)<|?_
 refine Rl 13 a (fun _ hs=>hs.2.2)<|Rr 14 a (.int .i64 (S.held.getD 5 0)) (fun _ _=>bU (.int .i64 (IntKind.i64.wrap (S.held.getD 5 0))) (by kernel_rfl) (congrArg (Value.int .i64) (i64_in (by omega))))<|Rr 15 a (.int .i64 (((S.held.getD 4 0)*256)+(S.held.getD 5 0))) (fun _ _=>bU (.int .i64 (bits .or .i64 ((S.held.getD 4 0)*256) (S.held.getD 5 0))) (by kernel_rfl) (congrArg (Value.int .i64) (qk (by omega) (by omega))))<|Rt 16 a<|re<|tn<|rt<|rr (.int .i64 (((S.held.getD 4 0)*256)+(S.held.getD 5 0)))<|?_
 exact⟨rfl,b⟩
def SM.fn (S:SM)(g:Nat) : Value:=match S.nx with
  | 1=>.func (.func 188) #[.pointer (some ⟨g,0,none⟩)] #[]
  | 2=>.func (.func 189) #[.pointer (some ⟨g,0,none⟩)] #[]
  | 3=>.func (.func 190) #[.pointer (some ⟨g,0,none⟩)] #[]
  | _=>.nilFunc
theorem dZ{w:World}{g:Nat}{S:SM}{A:Option Addr}{cp:Nat}(hb:io w g S A cp)(hr:aL true w (.slice A S.held.length cp) S.held) : Calls Tryz.prog 186 #[.pointer (some ⟨g,0,none⟩)] w (bg (S.fn g) w):=by
 have hcm:=aG.len hr
 have hrg:=SM.size_rng (aL.range hr)
 have hru:=aL.range hr
 refine en 34 Tryz.func186 rfl<|sg<|Pl 1<|nt<|sq<|bk<|sg<|Pl 3<|L0<|aR hb 1<|Pl 3<|nl<|?_
 refine tn<|cb ((decide (((S.held.length:Nat) : Int)<6))) (fun c=>?_) (fun c=>?_)
 have r:=of_decide_eq_true c
 refine sg<|Pl 1<|nt<|rt<|br<|tr<|rr (.nilFunc)<|?_
 have hs:S.nx=0:=by unfold SM.nx;(repeat' split)<;>first | rfl | omega
 have hf:S.fn g = .nilFunc:=by unfold SM.fn;rw[hs];rfl
 exact⟨by rw[hf],(aq.refl [] _)⟩
 have r:=of_decide_eq_false c
 refine sg<|Pl 1<|L0<|Oc<|m1 (ei (S:=S) hb hr (by omega)) fun v b=>Pl 2<|nt<|cb ((decide (254<S.size))) (fun d=>?_) (fun d=>?_)
 have s:=of_decide_eq_true d
 refine sg<|Pl 3<|nt<|rt<|br<|tr<|rr (.func (.func 188) #[.pointer (some ⟨g,0,none⟩)] #[])<|?_
 have hs:S.nx=1:=by unfold SM.nx;(repeat' split)<;>first | rfl | omega
 have hf:S.fn g = .func (.func 188) #[.pointer (some ⟨g,0,none⟩)] #[]:=by unfold SM.fn;rw[hs];rfl
 exact⟨by rw[hf],b⟩
 have s:=of_decide_eq_false d
 refine sg<|Pl 1<|?_
 have j:=ub b hb
 have k:=aL.upd' hr b az
 refine L0<|Oc<|m1 (ei (S:=S) j k (by omega)) fun x l=>Pl 2<|nt<|?_
 have m:=aE b l
 refine cb ((decide (S.size<2))) (fun e=>?_) (fun e=>?_)
 have t:=of_decide_eq_true e
 refine sg<|Pl 3<|nt<|rt<|br<|tr<|rr (.func (.func 189) #[.pointer (some ⟨g,0,none⟩)] #[])<|?_
 have hs:S.nx=2:=by unfold SM.nx;(repeat' split)<;>first | rfl | omega
 have hf:S.fn g = .func (.func 189) #[.pointer (some ⟨g,0,none⟩)] #[]:=by unfold SM.fn;rw[hs];rfl
 exact⟨by rw[hf],m⟩
 have t:=of_decide_eq_false e
 refine sq<|Rg 10 (fun w'=>w'.cell? ⟨g,1,none⟩=some (.slice A S.held.length cp)) fun y n=>?_
 have o:=aE l n
 have f:=ub o j
 refine b9 (ai f rfl) fun a=>Rt 0 a<|Rt 1 a<|Rt 2 a<|Rl 3 a (fun _ hs=>hs)<|Rt 4 a<|Rt 5 a<|?_
 refine R0 6 rfl<|Oc<|m1 (ei (S:=S) f (aL.upd' k o az) (by omega)) fun z p=>?_
 refine b9 (ai (ub p f) rfl) fun h=>Rr 7 h (.int .i64 (6+S.size)) (fun _ _=>bU (.int .i64 (IntKind.i64.wrap (6+S.size))) (by kernel_rfl) (congrArg (Value.int .i64) (IntWalk.i64_in _ (by omega))))<|Rt 8 h<|Rt 9 h<|re<|tn<|?_
 have q:=aE m (aE n p)
 refine cb ((((S.held.length:Nat) : Int)==(6+S.size))) (fun i=>?_) (fun i=>?_)
 have u:=aA i
 refine sg<|Pl 3<|nt<|rt<|br<|tr<|rr (.func (.func 190) #[.pointer (some ⟨g,0,none⟩)] #[])<|?_
 have hs:S.nx=3:=by unfold SM.nx;(repeat' split)<;>first | rfl | omega
 have hf:S.fn g = .func (.func 190) #[.pointer (some ⟨g,0,none⟩)] #[]:=by unfold SM.fn;rw[hs];rfl
 exact⟨by rw[hf],q⟩
 have u:=aH i
 refine sk<|bn<|tn<|sg<|Pl 1<|nt<|rt<|rr (.nilFunc)<|?_
 have hs:S.nx=0:=by unfold SM.nx;(repeat' split)<;>first | rfl | omega
 have hf:S.fn g = .nilFunc:=by unfold SM.fn;rw[hs];rfl
 exact⟨by rw[hf],q⟩
theorem fF{w:World}{g:Nat}{S:SM}{A:Option Addr}{cp:Nat}(hb:io w g S A cp)(hr:aL true w (.slice A S.held.length cp) S.held)(h6:6≤S.held.length){e:Int}:Calls Tryz.prog 191 #[.pointer (some ⟨g,0,none⟩),.int .i64 e] w (tW ⟨S.dir,[],S.size⟩ [Ev.bad e] g w):=by
 have hcm:=aG.len hr
 have hrg:=SM.size_rng (aL.range hr)
 have hru:=aL.range hr
 refine en 16 Tryz.func191 rfl<|sg<|Pl 1<|ng<|Pl 2<|L0<|Oc<|m1 (ei (S:=S) hb hr (by omega)) fun l a=>Pl 2<|?_
 refine L0<|bO (ub a hb) 2 #[.int .i64 S.dir,.slice A S.held.length cp,.int .i64 S.size] fun n f b=>ng<|Pl 3<|L0<|bO f 1 #[.int .i64 S.dir,.slice none 0 0,.int .i64 S.size] fun o h c=>ng<|Pl 2<|L0<|eS (m:=1) (e:=66) #[.int .i64 e,.int .u8 0,.int .u16 0,.int .u8 0,.int .u8 0,.int .u16 0,.int .u16 0,.int .u16 0,.int .u16 0,.int .u16 0,.int .u16 0,.int .u16 0,.int .u16 0,.int .u16 0,.int .u16 0,.slice none 0 0,.slice none 0 0,.slice none 0 0,.slice none 0 0,.int .u8 0,.int .u8 0,.int .u8 0,.int .u8 0,.int .u8 0,.slice none 0 0] fun i p j k d=>Pl 1<|nl<|?_
 refine tn<|rt<|rr (.slice (some ⟨i,0,none⟩) 1 1)<|?_
 have hE:=j2 (w0:=w) (x:=Ev.bad e) (Nat.le_trans (le (le a.size b.size) c.size) j) k ⟨⟨none,0,none,0,none,0,none,0,none,0⟩,by kernel_rfl,je,(show(0:Int)≤0∧(0:Int)<256 from by decide),(show(0:Int)≤0∧(0:Int)<65536 from by decide)⟩
 exact⟨_,rfl,hE,(ub d h),(uz a (u1 b (aE c d) im))⟩
theorem kS{w:World}{g:Nat}{S:SM}{A:Option Addr}{cp:Nat}(hb:io w g S A cp)(hr:aL true w (.slice A S.held.length cp) S.held)(h6:6≤S.held.length) : Calls Tryz.prog 188 #[.pointer (some ⟨g,0,none⟩)] w (tW ⟨S.dir,[],S.size⟩ [Ev.bad 3] g w):=by
 have hcm:=aG.len hr
 have hrg:=SM.size_rng (aL.range hr)
 have hru:=aL.range hr
 refine en 5 Tryz.func188 rfl<|sg<|Pl 1<|ng<|Pl 1<|L0<|Oc<|mr (fF (S:=S) (e:=3) hb hr h6) fun a b h c i j d f=>Pl 1<|nt<|rt<|?_
 refine rr (.slice a 1 b)<|?_
 exact⟨_,rfl,c,d,f⟩
theorem jQ{w:World}{g:Nat}{S:SM}{A:Option Addr}{cp:Nat}(hb:io w g S A cp)(hr:aL true w (.slice A S.held.length cp) S.held)(h6:6≤S.held.length) : Calls Tryz.prog 189 #[.pointer (some ⟨g,0,none⟩)] w (tW ⟨S.dir,[],S.size⟩ [Ev.bad 5] g w):=by
 have hcm:=aG.len hr
 have hrg:=SM.size_rng (aL.range hr)
 have hru:=aL.range hr
 refine en 5 Tryz.func189 rfl<|sg<|Pl 1<|ng<|Pl 1<|L0<|Oc<|mr (fF (S:=S) (e:=5) hb hr h6) fun a b h c i j d f=>Pl 1<|nt<|rt<|?_
 refine rr (.slice a 1 b)<|?_
 exact⟨_,rfl,c,d,f⟩
theorem jN{w:World}{g:Nat}{S:SM}{A:Option Addr}{cp:Nat}(hb:io w g S A cp)(hr:aL true w (.slice A S.held.length cp) S.held)(hl:S.held.length≤1048576) : Calls Tryz.prog 190 #[.pointer (some ⟨g,0,none⟩)] w (tW ⟨S.dir,[],S.skip⟩ [⟨(c6 S.dir S.held).2,(c6 S.dir S.held).1⟩] g w):=by
 have hcm:=aG.len hr
 have hrg:=SM.size_rng (aL.range hr)
 have hru:=aL.range hr
 refine en 24 Tryz.func190 rfl<|sg<|Pl 1<|nt<|sq<|Rg 15 (fun w'=>w'.cell? ⟨g,0,none⟩=some (.int .i64 S.dir)∧w'.cell? ⟨g,1,none⟩=some (.slice A S.held.length cp)) fun ad a=>?_
 have f:=ub a hb
 refine b9 ⟨(ai f rfl),(ai f rfl)⟩ fun b=>Rt 0 b<|Rt 1 b<|Rt 2 b<|Rl 3 b (fun _ hs=>hs.1)<|Rt 4 b<|Rt 5 b<|Rt 6 b<|Rl 7 b (fun _ hs=>hs.2)<|?_
 refine R2 8 12 rfl rfl ?_ ?_
 refine pr (c6 S.dir S.held) fun c C D=>?_
 refine  Oc<|e2 (fo D (aL.upd' hr a az) (by omega)) fun x56 ae Q h=>?_
 obtain⟨R,T,U⟩:=Q
 have i:=ub h f
 refine b9 ⟨(ai i rfl),(ai i rfl)⟩ fun l=>Rt 9 l<|Rt 10 l<|Rt 11 l<|R0 12 rfl<|bz #[.int .u8 0,.int .u16 0,.int .u8 0,.int .u8 0,.int .u16 0,.int .u16 0,.int .u16 0,.int .u16 0,.int .u16 0,.int .u16 0,.int .u16 0,.int .u16 0,.int .u16 0,.int .u16 0,.slice none 0 0,.slice none 0 0,.slice none 0 0,.slice none 0 0,.int .u8 0,.int .u8 0,.int .u8 0,.int .u8 0,.int .u8 0,.slice none 0 0] fun af ag E V n=>?_
 have o:=ub n i
 refine b9 ⟨(ai o rfl),(ai o rfl)⟩ fun ak=>R0 13 rfl<|b6 V (nK c.unit c.tid c.msg x56) fun al W p=>?_
 have F:=nb (aj hb) (le a.size h.size) E
 have q:=aO p F o
 refine b9 ⟨(ai q rfl),(ai q rfl)⟩ fun X=>Rt 14 X<|re<|tn<|sg<|Pl 3<|L0<|bO q 1 #[.int .i64 S.dir,.slice none 0 0,.int .i64 S.skip] fun am Y r=>ng<|Pl 1<|?_
 refine L0<|c5 (aO r (Ne.symm F) W)<|Pl 1<|L0<|eS (m:=1) (e:=66) (kN ⟨C,c⟩ x56) fun Z an a0 a1 G=>Pl 1<|nt<|rt<|rr (.slice (some ⟨Z,0,none⟩) 1 1)<|?_
 have H:=ud n (us p (aE r G)) E
 have hE:=j2 (w0:=w) (x:=⟨C,c⟩) (Nat.le_trans (le (le (le (le a.size h.size) n.size) p.size) r.size) a0) a1 ⟨x56,rfl,(aU.upd R H (ah (aD i (by decide)) az)),T,U⟩
 exact⟨_,rfl,by rw[D];exact hE,(ub G Y),(uz a (uz h H))⟩
 refine  bz #[.int .u8 0,.int .u16 0,.int .u8 0,.int .u8 0,.int .u16 0,.int .u16 0,.int .u16 0,.int .u16 0,.int .u16 0,.int .u16 0,.int .u16 0,.int .u16 0,.int .u16 0,.int .u16 0,.slice none 0 0,.slice none 0 0,.slice none 0 0,.slice none 0 0,.int .u8 0,.int .u8 0,.int .u8 0,.int .u8 0,.int .u8 0,.slice none 0 0] fun ao ap I a2 s=>?_
 have t:=ub s f
 refine b9 ⟨(ai t rfl),(ai t rfl)⟩ fun aq=>?_
 have J:=aE a s
 refine pr (c6 S.dir S.held) fun d K L=>?_
 refine R0 8 rfl<|Oc<|e2 (fo L (aL.upd' hr J az) (by omega)) fun u ar a3 j=>?_
 obtain⟨a4,a5,a6⟩:=a3
 have k:=ub j t
 refine b9 ⟨(ai k rfl),(ai k rfl)⟩ fun v=>Rt 9 v<|Rt 10 v<|Rt 11 v<|?_
 have M:=ub j a2
 refine R0 13 rfl<|b6 M (nK d.unit d.tid d.msg u) fun au a7 y=>?_
 have N:=nb (aj hb) a.size I
 have z:=aO y N k
 refine b9 ⟨(ai z rfl),(ai z rfl)⟩ fun a8=>Rt 14 a8<|re<|tn<|sg<|Pl 3<|L0<|bO z 1 #[.int .i64 S.dir,.slice none 0 0,.int .i64 S.skip] fun av a9 B=>ng<|Pl 1<|?_
 refine L0<|c5 (aO B (Ne.symm N) a7)<|Pl 1<|L0<|eS (m:=1) (e:=66) (kN ⟨K,d⟩ u) fun aa aw ab ac O=>Pl 1<|nt<|rt<|rr (.slice (some ⟨aa,0,none⟩) 1 1)<|?_
 have P:=us y (aE B O)
 have hE:=j2 (w0:=w) (x:=⟨K,d⟩) (Nat.le_trans (le (le (le (le a.size s.size) j.size) y.size) B.size) ab) ac ⟨u,rfl,(aU.upd a4 P (ah (aD M (by decide)) (ah (aD k (by decide)) az))),a5,a6⟩
 exact⟨_,rfl,by rw[L];exact hE,(ub O a9),(ud J (uz j P) (le a.size I))⟩
open Go.RowKit
theorem w7{C:Prop}(S:SM)(h0:S.nx=0→C)(h1:S.nx=1→C)(h2:S.nx=2→C)(h3:S.nx=3→C) : C:=by
  have h:S.nx=0∨S.nx=1∨S.nx=2∨S.nx=3:=by
    unfold SM.nx
    (repeat' split)<;>simp
  rcases h with h|h|h|h
  · exact h0 h
  · exact h1 h
  · exact h2 h
  · exact h3 h
theorem tZ{S:SM}(h:S.nx≠0) : 6≤S.held.length:=by
  unfold SM.nx at h
  split at h
  · exact absurd rfl h
  · omega
theorem kE{w:World}{g:Nat}{S:SM}{A:Option Addr}{cp:Nat}(hb:io w g S A cp)(hr:aL true w (.slice A S.held.length cp) S.held)(h:S.nx=0) : Calls Tryz.prog 186 #[.pointer (some ⟨g,0,none⟩)] w (bg (.nilFunc) w):=by
  have k:=dZ hb hr
  unfold SM.fn at k
  rw[h] at k
  exact k
theorem jT{w:World}{g:Nat}{S:SM}{A:Option Addr}{cp:Nat}(hb:io w g S A cp)(hr:aL true w (.slice A S.held.length cp) S.held)(h:S.nx=1) : Calls Tryz.prog 186 #[.pointer (some ⟨g,0,none⟩)] w (bg (.func (.func 188) #[.pointer (some ⟨g,0,none⟩)] #[]) w):=by
  have k:=dZ hb hr
  unfold SM.fn at k
  rw[h] at k
  exact k
theorem jJ{w:World}{g:Nat}{S:SM}{A:Option Addr}{cp:Nat}(hb:io w g S A cp)(hr:aL true w (.slice A S.held.length cp) S.held)(h:S.nx=2) : Calls Tryz.prog 186 #[.pointer (some ⟨g,0,none⟩)] w (bg (.func (.func 189) #[.pointer (some ⟨g,0,none⟩)] #[]) w):=by
  have k:=dZ hb hr
  unfold SM.fn at k
  rw[h] at k
  exact k
theorem kf{w:World}{g:Nat}{S:SM}{A:Option Addr}{cp:Nat}(hb:io w g S A cp)(hr:aL true w (.slice A S.held.length cp) S.held)(h:S.nx=3) : Calls Tryz.prog 186 #[.pointer (some ⟨g,0,none⟩)] w (bg (.func (.func 190) #[.pointer (some ⟨g,0,none⟩)] #[]) w):=by
  have k:=dZ hb hr
  unfold SM.fn at k
  rw[h] at k
  exact k
def SM.ok (S:SM) : Prop:=(0≤S.skip∧S.skip<65536)∧(∀ x,x∈S.held→0≤x∧x<256)∧(S.held.length<6∨2≤S.size∧S.size≤254∧(S.held.length:Int)<6+S.size)
theorem SM.ok_le{S:SM}(h:S.ok) : S.held.length≤259:=by
  obtain⟨_,_,h|h⟩:=h
  · omega
  · omega
theorem SM.size_app{S:SM}{c:Int}(h:6≤S.held.length) : (SM.mk S.dir (S.held++[c]) S.skip).size=S.size:=by
  unfold SM.size
  simp only[List.getD_eq_getElem?_getD]
  rw[List.getElem?_append_left (by omega),List.getElem?_append_left (by omega)]
theorem SM.byte_ok{S S2:SM}{c:Int}{L2:List Ev}(h:S.ok)(hc:0≤c∧c<256)(hx:S.byte c=(S2,L2)) : S2.ok∧L2.length≤1:=by
  obtain⟨h1,h2,h3⟩:=h
  unfold SM.byte at hx
  split at hx
  · injection hx with e1 e2
    subst e1 e2
    exact⟨⟨⟨by show 0≤S.skip-1;omega,by show S.skip-1<65536;omega⟩,h2,h3⟩,Nat.zero_le _⟩
  have hr:∀ x,x∈(SM.mk S.dir (S.held++[c]) S.skip).held→0≤x∧x<256:=fun x hx=>by
    rcases List.mem_append.1 hx with h|h
    · exact h2 x h
    · rw[List.mem_singleton] at h;rw[h];exact hc
  have hz:=SM.size_rng hr
  have hn:∀ d k,(0≤k∧k<65536)→(SM.mk d [] k).ok:=fun d k hk=>⟨hk,fun x hx=>(by cases hx),.inl (show 0<6 by omega)⟩
  unfold SM.does at hx
  have hnx:∀ i,(SM.mk S.dir (S.held++[c]) S.skip).nx=i→i=0∨i=1∨i=2∨i=3:=by
    intro i hi
    subst hi
    unfold SM.nx
    (repeat' split)<;>simp
  rcases hnx _ rfl with e|e|e|e<;>rw[e] at hx<;>injection hx with e1 e2<;>subst e1 e2
  · refine⟨⟨h1,hr,?_⟩,Nat.zero_le _⟩
    unfold SM.nx at e
    by_cases h6:(SM.mk S.dir (S.held++[c]) S.skip).held.length<6
    · exact .inl h6
    rw[if_neg h6] at e
    split at e
    · cases e
    split at e
    · cases e
    split at e
    · cases e
    rename_i k1 k2 k3
    refine .inr ⟨by omega,by omega,?_⟩
    have hl:(SM.mk S.dir (S.held++[c]) S.skip).held.length=S.held.length+1:=by simp
    rcases h3 with h3|⟨h4,h5,h7⟩
    · omega
    · by_cases h8:6≤S.held.length
      · rw[SM.size_app h8] at k1 k2 k3 ⊢
        omega
      · omega
  · exact⟨hn _ _ hz,Nat.le_refl _⟩
  · exact⟨hn _ _ hz,Nat.le_refl _⟩
  · exact⟨hn _ _ h1,Nat.le_refl _⟩
theorem gw{S0 T T2:SM}{L L2:List Ev}{b:List Int}{k:Nat}(hk:k<b.length)(h:(T,L)=S0.feed (b.take k))(hx:T.byte (b.getD k 0)=(T2,L2)) : (T2,L++L2)=S0.feed (b.take (k+1)):=by
  rw[List.take_succ_eq_append_getElem hk]
  unfold SM.feed at h ⊢
  rw[List.foldl_append,← h]
  rw[List.getD_eq_getElem?_getD,List.getElem?_eq_getElem hk] at hx
  simp only[Option.getD_some] at hx
  simp only[List.foldl_cons,List.foldl_nil,hx]
theorem kG{S0 T T2:SM}{L:List Ev}{b:List Int}{k:Nat}(hk:k<b.length)(h:(T,L)=S0.feed (b.take k))(hx:T.byte (b.getD k 0)=(T2,[])) : (T2,L)=S0.feed (b.take (k+1)):=by
  have:=gw hk h hx
  rwa [List.append_nil] at this
theorem mR{T:SM}{c:Int}(h:0<T.skip) : T.byte c=(⟨T.dir,T.held,T.skip-1⟩,[]):=by unfold SM.byte;rw[if_pos h]
theorem sl{T:SM}{c:Int}(h:¬ 0<T.skip)(e:(SM.mk T.dir (T.held++[c]) T.skip).nx=0) : T.byte c=(⟨T.dir,T.held++[c],T.skip⟩,[]):=by unfold SM.byte;rw[if_neg h];unfold SM.does;rw[e];rfl
theorem sr{T:SM}{c:Int}(h:¬ 0<T.skip)(e:(SM.mk T.dir (T.held++[c]) T.skip).nx=1) : T.byte c=(⟨T.dir,[],(SM.mk T.dir (T.held++[c]) T.skip).size⟩,[Ev.bad 3]):=by unfold SM.byte;rw[if_neg h];unfold SM.does;rw[e];rfl
theorem sx{T:SM}{c:Int}(h:¬ 0<T.skip)(e:(SM.mk T.dir (T.held++[c]) T.skip).nx=2) : T.byte c=(⟨T.dir,[],(SM.mk T.dir (T.held++[c]) T.skip).size⟩,[Ev.bad 5]):=by unfold SM.byte;rw[if_neg h];unfold SM.does;rw[e];rfl
theorem s7{T:SM}{c:Int}{F:cK}{E:Int}(h:¬ 0<T.skip)(e:(SM.mk T.dir (T.held++[c]) T.skip).nx=3)(hX:c6 T.dir (T.held++[c])=(F,E)) : T.byte c=(⟨T.dir,[],T.skip⟩,[⟨E,F⟩]):=by
  unfold SM.byte
  rw[if_neg h]
  unfold SM.does
  rw[e]
  show(SM.mk T.dir [] T.skip,[Ev.mk (c6 T.dir (T.held++[c])).2 (c6 T.dir (T.held++[c])).1])=_
  rw[hX]
theorem ib{w:World}{g:Nat}{d k:Int}{h:List Int}{A:Option Addr}{cp:Nat}{F:cK}{E:Int}(hX:c6 d h=(F,E))(hb:io w g ⟨d,h,k⟩ A cp)(hr:aL true w (.slice A h.length cp) h)(hl:h.length≤1048576) : Calls Tryz.prog 190 #[.pointer (some ⟨g,0,none⟩)] w (tW ⟨d,[],k⟩ [⟨E,F⟩] g w):=by
  have q:=jN (S:=⟨d,h,k⟩) hb hr hl
  rw[hX] at q
  exact q
def vE (base n0:Nat)(S2:SM)(L:List Ev)(g:Nat)(A:Option Addr)(w:World)(e:Ending)(w':World) : Prop:=∃ v A2 cp2 n2,e = .returned v∧ck n2 w.heap.size w' v L∧io w' g S2 A2 cp2∧cI base w' (.slice A2 S2.held.length cp2) S2.held∧(∀ x,x∈ob A2→x∈ob A∨w.heap.size≤x)∧(n0≤n2∧n2≤w'.heap.size)∧(∀ x,x∈ob A2→n2≤x)∧aq (g :: (ob A++[])) w w'
theorem gE{b:List Int}(h:∀ x,x∈b→0≤x∧x<256)(k:Nat) : 0≤b.getD k 0∧b.getD k 0<256:=by
  rw[List.getD_eq_getElem?_getD]
  cases hj:b[k]? with
  | none=>simp
  | some x=>exact h x (List.mem_of_getElem? hj)
theorem kq{w:World}{g base:Nat}{S:SM}{A:Option Addr}{cp:Nat}{m:Bool}{B:Option Addr}{cpb:Nat}{b:List Int}(hb:io w g S A cp)(ho:cI base w (.slice A S.held.length cp) S.held)(hbs:base≤w.heap.size)(hok0:S.ok){n0:Nat}(hn0:n0≤w.heap.size)(hlo:∀ x,x∈ob A→n0≤x)(hsl:aL m w (.slice B b.length cpb) b)(hdg:0<b.length→∀ x,x∈ob B→x≠g)(hda:iu b.length B (ob A))(hbl:b.length≤1048576) :
    Calls Tryz.prog 184 #[.pointer (some ⟨g,0,none⟩),.slice B b.length cpb] w (vE base n0 (S.feed b).1 (S.feed b).2 g A w):=by
 have hdl:=aG.low hsl
 have hok0l:=SM.ok_le hok0
 have hrb:=aL.range hsl
 refine en 47 Tryz.func184 rfl<|sg<|Pl 1<|ng<|Pl 1<|nt<|sq<|sg<|?_
 refine Pl 3<|nt<|bk<|?_
 refine g7 (fun x=>[(0,.pointer (some ⟨g,0,none⟩)),(4,.slice none 0 0),(5,.slice x.2.2.2.2.2.1 x.2.2.1.length x.2.2.2.2.2.2.1),(9,.slice B b.length cpb),(10,.int .i64 ((b.length:Nat) : Int)),(11,.int .i64 ((x.1:Nat) : Int))]) (fun(x:Nat × SM × List Ev × Option Addr × Nat × Option Addr × Nat × Nat) w'=>aq (g :: (ob A++[])) w w'∧io w' g x.2.1 x.2.2.2.1 x.2.2.2.2.1∧cI base w' (.slice x.2.2.2.1 x.2.1.held.length x.2.2.2.2.1) x.2.1.held∧ck x.2.2.2.2.2.2.2 w.heap.size w' (.slice x.2.2.2.2.2.1 x.2.2.1.length x.2.2.2.2.2.2.1) x.2.2.1∧x.2.2.2.2.2.2.2≤w'.heap.size∧aL m w' (.slice B b.length cpb) b∧((x.2.1,x.2.2.1)=S.feed (b.take x.1))∧(x.2.1.ok)∧(x.2.1.held.length≤259)∧(x.1≤b.length)∧(x.2.2.1.length≤x.1)∧(∀ y,y∈ob x.2.2.2.1→y∈ob A∨w.heap.size≤y)∧(n0≤x.2.2.2.2.2.2.2)∧(∀ y,y∈ob x.2.2.2.1→x.2.2.2.2.2.2.2≤y)) (fun x=>b.length-x.1) (0,S,[],A,cp,none,0,n0) ⟨aq.refl _ _,hb,ho,(aN.nil w.heap.size _ _ (aZ n0) _),(Nat.le_trans hn0 lr),hsl,rfl,hok0,hok0l,(by(try dsimp only);exact Nat.zero_le _),(by(try dsimp only);exact Nat.zero_le _),fC,(by(try dsimp only);exact Nat.le_refl _),hlo⟩ ?_
 rintro⟨k,T,L,Ah,ch,Bq,cq,n⟩ D ⟨l,aK,aO,aP,aQ,aT,aU,aV,aW,aX,aY,b0,b1,b2⟩
 refine fZ [(0,.pointer (some ⟨g,0,none⟩)),(4,.slice none 0 0),(5,.slice Bq L.length cq),(9,.slice B b.length cpb),(10,.int .i64 ((b.length:Nat) : Int)),(11,.int .i64 ((k:Nat) : Int))] ?_
 have f:io D g T Ah ch:=aK
 have j:cI base D (.slice Ah T.held.length ch) T.held:=aO
 have a:ck n w.heap.size D (.slice Bq L.length cq) L:=aP
 have b3:n≤D.heap.size:=aQ
 have hnl:=b3
 have u:aL m D (.slice B b.length cpb) b:=aT
 have b4:(T,L)=S.feed (b.take k):=aU
 have b5:T.ok:=aV
 have bG:T.held.length≤259:=aW
 have bI:k≤b.length:=aX
 have bK:L.length≤k:=aY
 have b6:∀ y,y∈ob Ah→y∈ob A∨w.heap.size≤y:=b0
 have b7:n0≤n:=b1
 have b8:∀ y,y∈ob Ah→n≤y:=b2
 have hlow:=b8
 have hn0l:=b7
 have hat0:=b6
 have hok:=b5
 have hpj:=b4
 have hle:=SM.ok_le hok
 have hsk:=hok.1
 refine sg<|Pl 1<|nt<|sq<|cb ((decide (((k:Nat) : Int)<((b.length:Nat) : Int)))) (fun X=>?_) (fun X=>?_)
 have b9:=of_decide_eq_true X
 refine bD<|sq<|bk<|sg<|fA (aL.at_ u k (by omega)) fun ba bb bc bd bL=>L0<|nh b.length k bc (by omega)<|L0<|iX (p:=⟨ba,bb+k,none⟩) (v:=.int .u8 (b.getD k 0)) bd<|Pl 1<|nt<|sq<|sq<|?_
 refine go<|Pl 3<|L0<|aR f 2<|Pl 1<|nt<|cb ((decide (0<T.skip))) (fun Y=>?_) (fun Y=>?_)
 have z:=of_decide_eq_true Y
 refine sg<|Pl 3<|L0<|aR f 2<|L0<|Oi (T.skip-1)<|Pl 2<|L0<|bO f 2 #[.int .i64 T.dir,.slice Ah T.held.length ch,.int .i64 (T.skip-1)] fun bM be C=>nt<|xt<|tx<|bx<|tn<|go<|?_
 refine L0<|Oi (((k:Nat) : Int)+1)<|Pl 1<|nl<|?_
 have a2:=mR (T:=T) (c:=(b.getD k 0)) z
 have a3:=SM.byte_ok hok (gE hrb k) a2
 exact dY ((k+1),(SM.mk T.dir T.held (T.skip-1)),L,Ah,ch,Bq,cq,n) ⟨(u1 l C im),be,(am j C (fun x hx=>(aa (fun e=>(bJ f j (by decide)) (e▸hx)) ay)) (fun _ _ h=>h)),(am a C (fun x hx=>(aa (fun e=>(ap (aj hb) lr a) (e▸hx)) ay)) (fun x cs q=>aZ.upd C (dk f (by decide) bu) q)),(Nat.le_trans hnl C.size),(aL.far u C (cL hdg db)),(by(try dsimp only);exact kG (by omega) hpj a2),(by(try dsimp only);exact a3.1),(by(try dsimp only);have q:=SM.ok_le a3.1;exact q),(by(try dsimp only);omega),(by(try dsimp only);(try simp only[List.length_append,List.length_cons,List.length_nil]);omega),(by(try dsimp only);exact hat0),(by(try dsimp only);exact hn0l),(by(try dsimp only);exact hlow)⟩ (by omega)
 have z:=of_decide_eq_false Y
 refine bD<|sg<|Pl 4<|L0<|aR f 1<|Pl 1<|L0<|eS (m:=1) (e:=5) #[.int .u8 (b.getD k 0)] fun bN bP bf bg o=>?_
 have bh:=ia bf (xs:=[(b.getD k 0)]) (by as_aux_lemma=>kernel_rfl) (aF (by omega) cQ) (by(try simp only[List.length_cons,List.length_nil]);omega) bg
 refine L0<|ff (R:=kO) (xs:=T.held) (ys:=([(b.getD k 0)])) (.int .u8 0) 1 1 (am j o (fun x hx=>ay) (fun _ _ h=>h)) (bh).rd mI (fun _ _ _ _ h=>h) (by(try simp only[List.length_append,List.length_cons,List.length_nil,aS]);omega) (Nat.le_trans hbs (le l.size o.size)) fun a4 a5 bQ r J a6=>Pl 2<|?_
 have a7:=ut (aq.mono (S':=(ob Ah++[])) o av) J (au il av)
 have E:=aq.blk a7 (aM (bJ f j (by decide)) ay) f
 refine L0<|bO E 1 #[.int .i64 T.dir,.slice a4 ((T.held++[(b.getD k 0)]).length) a5,.int .i64 T.skip] fun bS s t=>ng<|Pl 1<|?_
 have F:=u1 (aq.mono (S':=(ob Ah++(g :: []))) a7 (au il av)) t im
 have K:=ut l F (au (gy hat0 il lr) (ac im av))
 refine w7 (SM.mk T.dir (T.held++[(b.getD k 0)]) T.skip) (fun i=>?_) (fun i=>?_) (fun i=>?_) (fun i=>?_)
 have a8:=am r t (fun x hx=>(aa (fun e=>(bJ E r (by decide)) (e▸hx)) ay)) (fun _ _ h=>h)
 refine L0<|Oc<|m1 (kE (S:=(SM.mk T.dir (T.held++[(b.getD k 0)]) T.skip)) s (a8).rd i) fun bT M=>Pl 1<|ng<|Pl 2<|nt<|c0<|sk<|bn<|tn<|go<|?_
 refine L0<|Oi (((k:Nat) : Int)+1)<|Pl 1<|nl<|?_
 have N:=aE F M
 have a9:=sl (T:=T) (c:=(b.getD k 0)) z i
 have ab:=SM.byte_ok hok (gE hrb k) a9
 exact dY ((k+1),(SM.mk T.dir (T.held++[(b.getD k 0)]) T.skip),L,a4,a5,Bq,cq,n) ⟨(aE K M),(ub M s),(am a8 M (fun x hx=>ay) (fun _ _ h=>h)),(am a N (fun x hx=>(aM ((bW a j (by decide)) x hx) (aa (fun e=>(ap (aj hb) lr a) (e▸hx)) ay))) (fun x cs q=>aZ.upd N (eE hlow (dk f (by decide) bu)) q)),(Nat.le_trans hnl N.size),(aL.far u N (ca (dN hda hdl hat0) (cL hdg db))),(by(try dsimp only);exact kG (by omega) hpj a9),(by(try dsimp only);exact ab.1),(by(try dsimp only);have q:=SM.ok_le ab.1;exact q),(by(try dsimp only);omega),(by(try dsimp only);(try simp only[List.length_append,List.length_cons,List.length_nil]);omega),(by(try dsimp only);exact(fP a6 hat0 (le l.size o.size))),(by(try dsimp only);exact hn0l),(by(try dsimp only);exact(mB a6 hlow (Nat.le_trans hnl o.size)))⟩ (by omega)
 have ad:=am r t (fun x hx=>(aa (fun e=>(bJ E r (by decide)) (e▸hx)) ay)) (fun _ _ h=>h)
 refine L0<|Oc<|m1 (jT (S:=(SM.mk T.dir (T.held++[(b.getD k 0)]) T.skip)) s (ad).rd i) fun bU O=>Pl 1<|ng<|Pl 2<|nt<|c1<|go<|Pl 2<|?_
 refine L0<|eD #[.pointer (some ⟨g,0,none⟩)] #[] (args:=#[.pointer (some ⟨g,0,none⟩)])<|mr (kS (S:=(SM.mk T.dir (T.held++[(b.getD k 0)]) T.skip)) (ub O s) ((am ad O (fun x hx=>ay) (fun _ _ h=>h))).rd (tZ (by rw[i];decide))) fun bV bX Z bi bY bZ bj ae=>?_
 have af:=uz O ae
 have G:=u1 F af im
 have ag:=am a G (fun x hx=>(aM ((bW a j (by decide)) x hx) (aa (fun e=>(ap (aj hb) lr a) (e▸hx)) ay))) (fun x cs q=>aZ.upd G (eE hlow (dk f (by decide) bu)) q)
 have bl:n≤Z.heap.size:=Nat.le_trans hnl G.size
 refine L0<|ff (R:=aZ Z.heap.size) (xs:=L) (ys:=([Ev.bad 3])) (.agg #[.int .i64 0,.int .u8 0,.int .u16 0,.int .u8 0,.int .u8 0,.int .u16 0,.int .u16 0,.int .u16 0,.int .u16 0,.int .u16 0,.int .u16 0,.int .u16 0,.int .u16 0,.int .u16 0,.int .u16 0,.slice none 0 0,.slice none 0 0,.slice none 0 0,.slice none 0 0,.int .u8 0,.int .u8 0,.int .u8 0,.int .u8 0,.int .u8 0,.slice none 0 0]) 25 168 (ck.up bl (Nat.le_refl _) ag) (eR.low bi).rd aZ.ones (fun w' hv x cs q=>aZ.upd hv (fk ag (by decide) bu) q) (by(try simp only[List.length_append,List.length_cons,List.length_nil,aS]);omega) (le (le (le (le (le l.size o.size) J.size) t.size) O.size) ae.size) fun bm bo c2 bp P c3=>Pl 1<|nl<|bn<|tn<|go<|L0<|Oi (((k:Nat) : Int)+1)<|Pl 1<|nl<|?_
 have ah:=sr (T:=T) (c:=(b.getD k 0)) z i
 have ai:=SM.byte_ok hok (gE hrb k) ah
 exact dY ((k+1),(SM.mk T.dir [] (SM.mk T.dir (T.held++[(b.getD k 0)]) T.skip).size),(L++[Ev.bad 3]),none,0,bm,bo,Z.heap.size) ⟨(ut K (ut (aq.mono (S':=(g :: (ob Bq++[]))) af (ac im av)) P (au il av)) (ac im (au (bH a lr) av))),(aq.blk P (aM (ap (aj hb) lr a) ay) bj),(aN.nil base _ _ kO _),bp,P.size,(aL.far u (ut (aq.mono (S':=(ob Ah++(g :: (ob Bq++[])))) G (au il (ac im av))) P (au il av)) (ca (dN hda hdl hat0) (cL hdg (ca (dL hdl a (Nat.le_refl _)) db)))),(by(try dsimp only);exact gw (by omega) hpj ah),(by(try dsimp only);exact ai.1),(by(try dsimp only);have q:=SM.ok_le ai.1;exact q),(by(try dsimp only);omega),(by(try dsimp only);(try simp only[List.length_append,List.length_cons,List.length_nil]);omega),(by(try dsimp only);exact cW),(by(try dsimp only);exact Nat.le_trans hn0l (Nat.le_trans hnl G.size)),(by(try dsimp only);exact bR)⟩ (by omega)
 have ak:=am r t (fun x hx=>(aa (fun e=>(bJ E r (by decide)) (e▸hx)) ay)) (fun _ _ h=>h)
 refine L0<|Oc<|m1 (jJ (S:=(SM.mk T.dir (T.held++[(b.getD k 0)]) T.skip)) s (ak).rd i) fun c4 Q=>Pl 1<|ng<|Pl 2<|nt<|c1<|go<|Pl 2<|?_
 refine L0<|eD #[.pointer (some ⟨g,0,none⟩)] #[] (args:=#[.pointer (some ⟨g,0,none⟩)])<|mr (jQ (S:=(SM.mk T.dir (T.held++[(b.getD k 0)]) T.skip)) (ub Q s) ((am ak Q (fun x hx=>ay) (fun _ _ h=>h))).rd (tZ (by rw[i];decide))) fun c5 c7 a0 bq c8 c9 br al=>?_
 have an:=uz Q al
 have H:=u1 F an im
 have ao:=am a H (fun x hx=>(aM ((bW a j (by decide)) x hx) (aa (fun e=>(ap (aj hb) lr a) (e▸hx)) ay))) (fun x cs q=>aZ.upd H (eE hlow (dk f (by decide) bu)) q)
 have bs:n≤a0.heap.size:=Nat.le_trans hnl H.size
 refine L0<|ff (R:=aZ a0.heap.size) (xs:=L) (ys:=([Ev.bad 5])) (.agg #[.int .i64 0,.int .u8 0,.int .u16 0,.int .u8 0,.int .u8 0,.int .u16 0,.int .u16 0,.int .u16 0,.int .u16 0,.int .u16 0,.int .u16 0,.int .u16 0,.int .u16 0,.int .u16 0,.int .u16 0,.slice none 0 0,.slice none 0 0,.slice none 0 0,.slice none 0 0,.int .u8 0,.int .u8 0,.int .u8 0,.int .u8 0,.int .u8 0,.slice none 0 0]) 25 168 (ck.up bs (Nat.le_refl _) ao) (eR.low bq).rd aZ.ones (fun w' hv x cs q=>aZ.upd hv (fk ao (by decide) bu) q) (by(try simp only[List.length_append,List.length_cons,List.length_nil,aS]);omega) (le (le (le (le (le l.size o.size) J.size) t.size) Q.size) al.size) fun bt bv cc bw U cd=>Pl 1<|nl<|bn<|tn<|go<|L0<|Oi (((k:Nat) : Int)+1)<|Pl 1<|nl<|?_
 have ar:=sx (T:=T) (c:=(b.getD k 0)) z i
 have aw:=SM.byte_ok hok (gE hrb k) ar
 exact dY ((k+1),(SM.mk T.dir [] (SM.mk T.dir (T.held++[(b.getD k 0)]) T.skip).size),(L++[Ev.bad 5]),none,0,bt,bv,a0.heap.size) ⟨(ut K (ut (aq.mono (S':=(g :: (ob Bq++[]))) an (ac im av)) U (au il av)) (ac im (au (bH a lr) av))),(aq.blk U (aM (ap (aj hb) lr a) ay) br),(aN.nil base _ _ kO _),bw,U.size,(aL.far u (ut (aq.mono (S':=(ob Ah++(g :: (ob Bq++[])))) H (au il (ac im av))) U (au il av)) (ca (dN hda hdl hat0) (cL hdg (ca (dL hdl a (Nat.le_refl _)) db)))),(by(try dsimp only);exact gw (by omega) hpj ar),(by(try dsimp only);exact aw.1),(by(try dsimp only);have q:=SM.ok_le aw.1;exact q),(by(try dsimp only);omega),(by(try dsimp only);(try simp only[List.length_append,List.length_cons,List.length_nil]);omega),(by(try dsimp only);exact cW),(by(try dsimp only);exact Nat.le_trans hn0l (Nat.le_trans hnl H.size)),(by(try dsimp only);exact bR)⟩ (by omega)
 have ax:=am r t (fun x hx=>(aa (fun e=>(bJ E r (by decide)) (e▸hx)) ay)) (fun _ _ h=>h)
 refine L0<|Oc<|m1 (kf (S:=(SM.mk T.dir (T.held++[(b.getD k 0)]) T.skip)) s (ax).rd i) fun ce V=>Pl 1<|ng<|Pl 2<|nt<|c1<|go<|Pl 2<|?_
 refine pr (c6 T.dir (T.held++[(b.getD k 0)])) fun az aA aB=>?_
 refine L0<|eD #[.pointer (some ⟨g,0,none⟩)] #[] (args:=#[.pointer (some ⟨g,0,none⟩)])<|mr (ib (d:=T.dir) (h:=T.held++[(b.getD k 0)]) (k:=T.skip) aB (ub V s) ((am ax V (fun x hx=>ay) (fun _ _ h=>h))).rd (by simp only[List.length_append,List.length_cons,List.length_nil];omega)) fun cf cg a1 bz ci cj bA aC=>?_
 have aD:=uz V aC
 have I:=u1 F aD im
 have aH:=am a I (fun x hx=>(aM ((bW a j (by decide)) x hx) (aa (fun e=>(ap (aj hb) lr a) (e▸hx)) ay))) (fun x cs q=>aZ.upd I (eE hlow (dk f (by decide) bu)) q)
 have bB:n≤a1.heap.size:=Nat.le_trans hnl I.size
 refine L0<|ff (R:=aZ a1.heap.size) (xs:=L) (ys:=([Ev.mk aA az])) (.agg #[.int .i64 0,.int .u8 0,.int .u16 0,.int .u8 0,.int .u8 0,.int .u16 0,.int .u16 0,.int .u16 0,.int .u16 0,.int .u16 0,.int .u16 0,.int .u16 0,.int .u16 0,.int .u16 0,.int .u16 0,.slice none 0 0,.slice none 0 0,.slice none 0 0,.slice none 0 0,.int .u8 0,.int .u8 0,.int .u8 0,.int .u8 0,.int .u8 0,.slice none 0 0]) 25 168 (ck.up bB (Nat.le_refl _) aH) (eR.low bz).rd aZ.ones (fun w' hv x cs q=>aZ.upd hv (fk aH (by decide) bu) q) (by(try simp only[List.length_append,List.length_cons,List.length_nil,aS]);omega) (le (le (le (le (le l.size o.size) J.size) t.size) V.size) aC.size) fun bC bE cl bF W cm=>Pl 1<|nl<|bn<|tn<|go<|L0<|Oi (((k:Nat) : Int)+1)<|Pl 1<|nl<|?_
 have aI:=s7 (T:=T) (c:=(b.getD k 0)) z i aB
 have aJ:=SM.byte_ok hok (gE hrb k) aI
 exact dY ((k+1),(SM.mk T.dir [] T.skip),(L++[Ev.mk aA az]),none,0,bC,bE,a1.heap.size) ⟨(ut K (ut (aq.mono (S':=(g :: (ob Bq++[]))) aD (ac im av)) W (au il av)) (ac im (au (bH a lr) av))),(aq.blk W (aM (ap (aj hb) lr a) ay) bA),(aN.nil base _ _ kO _),bF,W.size,(aL.far u (ut (aq.mono (S':=(ob Ah++(g :: (ob Bq++[])))) I (au il (ac im av))) W (au il av)) (ca (dN hda hdl hat0) (cL hdg (ca (dL hdl a (Nat.le_refl _)) db)))),(by(try dsimp only);exact gw (by omega) hpj aI),(by(try dsimp only);exact aJ.1),(by(try dsimp only);have q:=SM.ok_le aJ.1;exact q),(by(try dsimp only);omega),(by(try dsimp only);(try simp only[List.length_append,List.length_cons,List.length_nil]);omega),(by(try dsimp only);exact cW),(by(try dsimp only);exact Nat.le_trans hn0l (Nat.le_trans hnl I.size)),(by(try dsimp only);exact bR)⟩ (by omega)
 have b9:=of_decide_eq_false X
 refine xt<|tx<|tx<|bx<|tn<|sg<|Pl 2<|nt<|rt<|rr (.slice Bq L.length cq)<|?_
 have hs:S.feed b=(T,L):=by rw[hpj,List.take_of_length_le (by omega)]
 rw[hs]
 exact⟨_,Ah,ch,n,rfl,a,f,j,hat0,⟨hn0l,Nat.le_trans hnl lr⟩,hlow,l⟩
open Go.RowKit
def c3 (n base:Nat)(w:World)(g:Nat)(A:Option Addr)(cp:Nat)(S:SM) : Prop:=io w g S A cp∧cI base w (.slice A S.held.length cp) S.held∧S.ok∧n≤w.heap.size∧(∀ x,x∈ob A→n≤x)∧base≤w.heap.size
section
variable {n base g cp:Nat}{w w':World}{A:Option Addr}{S:SM}{X:List Nat}
theorem c3.row(h:c3 n base w g A cp S) : cI base w (.slice A S.held.length cp) S.held:=h.2.1
theorem c3.low(h:c3 n base w g A cp S) : ∀ x,x∈ob A→n≤x:=h.2.2.2.2.1
theorem c3.nle(h:c3 n base w g A cp S) : n≤w.heap.size:=h.2.2.2.1
theorem c3.le(h:c3 n base w g A cp S) : S.held.length≤259:=SM.ok_le h.2.2.1
theorem c3.lt(h:c3 n base w g A cp S) : g<w.heap.size:=aj h.1
theorem c3.cells(h:c3 n base w g A cp S) : ∃ cs fr,w.heap[g]? = some (.cells cs 131 fr):=⟨_,_,h.1⟩
theorem c3.upd(h:c3 n base w g A cp S)(hu:aq X w w')(hg:g∉X)(hr:∀ x,x∈ob A→x∉X) : c3 n base w' g A cp S :=
  ⟨hu.blk hg h.1,am h.2.1 hu hr (fun _ _ q=>q),h.2.2.1,Nat.le_trans h.2.2.2.1 hu.size,h.2.2.2.2.1,Nat.le_trans h.2.2.2.2.2 hu.size⟩
end
theorem SM.feed_ok:∀ (b:List Int)(S:SM)(L:List Ev),S.ok→(∀ x,x∈b→0≤x∧x<256)→(b.foldl (fun(p:SM × List Ev) c=>((p.1.byte c).1,p.2++(p.1.byte c).2)) (S,L)).1.ok∧(b.foldl (fun(p:SM × List Ev) c=>((p.1.byte c).1,p.2++(p.1.byte c).2)) (S,L)).2.length≤L.length+b.length
  | [],S,L,h,_=>⟨h,Nat.le_refl _⟩
  | c :: t,S,L,h,hb=>by
    have k:=SM.byte_ok (S2:=(S.byte c).1) (L2:=(S.byte c).2) h (hb c (List.mem_cons_self ..)) rfl
    have q:=SM.feed_ok t (S.byte c).1 (L++(S.byte c).2) k.1 (fun x hx=>hb x (List.mem_cons_of_mem _ hx))
    refine⟨q.1,Nat.le_trans q.2 ?_⟩
    rw[List.length_append,List.length_cons]
    omega
theorem SM.feed_le{S S2:SM}{b:List Int}{L:List Ev}(h:S.ok)(hb:∀ x,x∈b→0≤x∧x<256)(hX:S.feed b=(S2,L)) : L.length≤b.length:=by
  have q:=(SM.feed_ok b S [] h hb).2
  have e:L=(S.feed b).2:=(congrArg Prod.snd hX).symm
  rw[e]
  rw[List.length_nil,Nat.zero_add] at q
  exact q
def w4 (n base:Nat)(S2:SM)(L:List Ev)(g:Nat)(A:Option Addr)(w:World)(e:Ending)(w':World) : Prop:=∃ v A2 cp2 n2,e = .returned v∧ck n2 w.heap.size w' v L∧c3 n2 base w' g A2 cp2 S2∧(∀ x,x∈ob A2→x∈ob A∨w.heap.size≤x)∧n≤n2∧aq (g :: (ob A++[])) w w'
theorem lY{w:World}{n base g cp cpb nb:Nat}{S S2:SM}{L:List Ev}{A B:Option Addr}{m:Bool}{b:List Int}(hX:S.feed b=(S2,L))(h:c3 n base w g A cp S)(hsl:aL m w (.slice B nb cpb) b)(hdg:0<nb→∀ x,x∈ob B→x≠g)(hda:iu nb B (ob A))(hbl:b.length≤1048576) :
    Calls Tryz.prog 184 #[.pointer (some ⟨g,0,none⟩),.slice B nb cpb] w (w4 n base S2 L g A w):=by
  obtain⟨h1,h2,h3,h4,h5,h6⟩:=h
  obtain rfl:nb=b.length:=by
    obtain⟨_,_,e,_⟩:=hsl.shape
    injection e
  refine(kq h1 h2 h6 h3 h4 h5 hsl hdg hda hbl).mono ?_
  rintro e w' ⟨v,A2,cp2,n2,he,k1,k2,k3,k4,⟨k5,k6⟩,k7,k8⟩
  have hok:=(SM.feed_ok b S [] h3 (aL.range hsl)).1
  rw[hX] at k1 k2 k3
  have e2:S2=(S.feed b).1:=(congrArg Prod.fst hX).symm
  exact⟨v,A2,cp2,n2,he,k1,⟨k2,k3,by rw[e2];exact hok,k6,k7,Nat.le_trans h6 k8.size⟩,k4,k5,k8⟩
theorem mH(d:Int){w:World}(hq:Calls Tryz.prog 48 #[.int .i64 d] w (fun e w'=>∃ g,e = .returned (.pointer (some ⟨g,0,none⟩))∧w.heap.size≤g∧io w' g ⟨d,[],0⟩ none 0∧aq [] w w')) :
    Calls Tryz.prog 48 #[.int .i64 d] w (fun e w'=>∃ g,e = .returned (.pointer (some ⟨g,0,none⟩))∧w.heap.size≤g∧c3 w.heap.size w.heap.size w' g none 0 ⟨d,[],0⟩∧aq [] w w'):=by
  refine hq.mono ?_
  rintro e w' ⟨g,he,h1,h2,h3⟩
  exact⟨g,he,h1,⟨h2,aN.nil ..,⟨⟨(show(0:Int)≤0 from by decide),(show(0:Int)<65536 from by decide)⟩,(fun x hx=>by cases hx),.inl (show 0<6 from by decide)⟩,h3.size,bR,h3.size⟩,h3⟩
theorem pQ{w:World}{n base g cp:Nat}{S:SM}{A:Option Addr}(h:c3 n base w g A cp S) : Calls Tryz.prog 185 #[.pointer (some ⟨g,0,none⟩)] w (bg (.int .i64 ((S.held.length:Nat) : Int)) w):=lw h.1 h.2.1.rd
open Go.RowKit
section
variable {P:Program}{Q:Exit→Act→World→Prop}{n:Nat}{D:List Deferred}{F:Fr}{w:World}{c:Code}{l:Nat}
theorem vK(h:GC P c (Exit.noGoto Q) n D F w) : GC P (.scope c) Q n D F w:=⟨fun a ha=>wp_scope_straight (h.out a ha)⟩
theorem w8(h:GQ Q .normal n D F w) : GC P (.label l) Q n D F w:=⟨fun a ha=>wp_label (h.out a ha)⟩
theorem gr(h:GQ Q .ret n D F w) : GQ (Exit.noGoto Q) .ret n D F w:=⟨fun a ha=>h.out a ha⟩
end
open Go.RowKit
abbrev dm (xs:List Int) : Prop:=∀ x,x∈xs→0≤x∧x<256
theorem qn{x:Int}(h:0≤x∧x<256) : ((UInt8.ofNat x.toNat).toNat:Int)=x:=by
  simp only[UInt8.toNat_ofNat']
  omega
theorem eY{xs:List Int}{j:Nat}(hj:j<xs.length)(hs:j<(strOfNums xs).size) : (strOfNums xs)[j]=UInt8.ofNat (xs.getD j 0).toNat:=by
  show(strOfNums xs).data[j]=_
  simp[strOfNums,List.getD_eq_getElem?_getD,List.getElem?_eq_getElem hj]
theorem jI{P:Program}{w:World}{ev:Operand→Value}{o:Oper}{x ix:Operand}{t:TypeId}{xs:List Int}{k:IntKind}{i:Int}(j:Nat)(ho:o.op = .index t x ix)(ht:P.underlying t=some .string)(hx:ev x = .string (strOfNums xs))(hi:ev ix = .int k i)(hr:dm xs)(hj:i=(j:Int))(hlt:j<xs.length) : (execOp ev o).run P w = .ok (.value (.int .u8 (xs.getD j 0))) w:=by
  subst hj
  have hs:j<(strOfNums xs).size:=by rw[strOfNums_size];exact hlt
  have h:=run_index_string (P:=P) w t (strOfNums xs) k (j:Int) ht
  rw[dif_pos (by omega)] at h
  have hg:xs.getD j 0∈xs:=by
    rw[List.getD_eq_getElem?_getD,List.getElem?_eq_getElem hlt]
    exact List.getElem_mem hlt
  unfold execOp
  simp only[ho,hx,hi,Sem.run_bind,h,Result.andThen,Sem.run_pure]
  have e:((strOfNums xs)[((j:Nat) : Int).toNat]'(by simpa using hs))=UInt8.ofNat (xs.getD j 0).toNat:=by
    simp only[Int.toNat_natCast]
    exact eY hlt hs
  rw[e,qn (hr _ hg)]
theorem dI(xs:List Int)(a b:Nat)(hb:b≤xs.length) : (strOfNums xs).extract a b=strOfNums ((xs.take b).drop a):=by
  apply ByteArray.ext
  rw[ByteArray.data_extract]
  apply Array.toList_inj.1
  rw[Array.toList_extract]
  simp[strOfNums,List.extract,List.map_drop,List.map_take,List.drop_take]
theorem iq{P:Program}{w:World}{ev:Operand→Value}{o:Oper}{x y:Operand}{t:TypeId}{xs:List Int}{k:IntKind}{i:Int}(j:Nat)(ho:o.op = .slice t x (some y) none none)(ht:P.underlying t=some .string)(hx:ev x = .string (strOfNums xs))(hy:ev y = .int k i)(hj:i=(j:Int))(hlt:j≤xs.length) : (execOp ev o).run P w = .ok (.value (.string (strOfNums (xs.drop j)))) w:=by
  subst hj
  have hu:(underlying t).run P w = .ok .string w:=run_underlying ht w
  have h:=run_slice_string_l (P:=P) w t (strOfNums xs) ht k (j:Int) (by omega) (by rw[strOfNums_size];omega)
  rw[strOfNums_size,dI _ _ _ (Nat.le_refl _),List.take_length,Int.toNat_natCast] at h
  unfold execOp
  simp only[ho,Option.map_some,Option.map_none,hx,hy,Instr.sliceAt,Sem.run_bind,hu,h,Result.andThen,Sem.run_pure]
theorem nv{P:Program}{w:World}{ev:Operand→Value}{o:Oper}{x y:Operand}{t:TypeId}{xs:List Int}{k:IntKind}{i:Int}(j:Nat)(ho:o.op = .slice t x none (some y) none)(ht:P.underlying t=some .string)(hx:ev x = .string (strOfNums xs))(hy:ev y = .int k i)(hj:i=(j:Int))(hlt:j≤xs.length) : (execOp ev o).run P w = .ok (.value (.string (strOfNums (xs.take j)))) w:=by
  subst hj
  have hu:(underlying t).run P w = .ok .string w:=run_underlying ht w
  have h:=run_slice_string_h (P:=P) w t (strOfNums xs) ht k (j:Int) (by omega) (by rw[strOfNums_size];omega)
  rw[Int.toNat_natCast,dI _ _ _ hlt,List.drop_zero] at h
  unfold execOp
  simp only[ho,Option.map_some,Option.map_none,hx,hy,Instr.sliceAt,Sem.run_bind,hu,h,Result.andThen,Sem.run_pure]
theorem fS{xs:List Int}(h:dm xs)(j:Nat) : dm (xs.drop j):=fun x hx=>h x (List.mem_of_mem_drop hx)
theorem iy{xs:List Int}(h:dm xs)(j:Nat) : dm (xs.take j):=fun x hx=>h x (List.mem_of_mem_take hx)
theorem rL{xs ys:List Int}(hx:dm xs)(hy:dm ys) : ((strOfNums xs).toList==(strOfNums ys).toList)=decide (xs=ys):=by
  have e:∀ zs:List Int,(strOfNums zs).toList=zs.map fun n=>UInt8.ofNat n.toNat:=fun zs=>by
    rw[ByteArray.toList_eq]
    rfl
  rw[e,e]
  by_cases h:xs=ys
  · subst h;simp
  · rw[decide_eq_false h,beq_eq_false_iff_ne]
    exact fun k=>h (fU xs ys hx hy k)
def ln (base:Nat)(w:World)(v:Value)(xs:List Int) : Prop:=∃ g cap cur n,v = .slice (some ⟨g,0,none⟩) xs.length cap∧base≤g∧w.heap[g]? = some (.cells cur 5 (n,n+1))∧xs.length≤n∧xs.length≤cap∧cap≤maxLen∧cur.toList.take xs.length=xs.map (Value.int .u8)∧dm xs
theorem ln.rd{base:Nat}{w:World}{v:Value}{xs:List Int}(h:ln base w v xs) : aL true w v xs:=by
  obtain⟨g,cap,cur,n,rfl,hb,hh,h1,h2,h3,h4,h5⟩:=h
  refine⟨_,_,rfl,h2,h3,(fun hA=>by cases hA),fun hp=>⟨g,0,cur,_,_,rfl,hh,fun _=>rfl,fun j x hj=>?_⟩⟩
  refine⟨[.int .u8 x],rfl,⟨rfl,h5 x (List.mem_of_getElem? hj)⟩,fun i u hi=>?_⟩
  cases i with
  | succ i=>simp at hi
  | zero =>
    have hi:Value.int .u8 x=u:=by simpa using hi
    subst hi
    have h6:(xs.map (Value.int .u8))[j]? = some (.int .u8 x):=by rw[List.getElem?_map,hj];rfl
    rw[← h4,List.getElem?_take] at h6
    split at h6
    · simpa using h6
    · cases h6
theorem ln.shape{base:Nat}{w:World}{v:Value}{xs:List Int}(h:ln base w v xs) : ∃ g cp,v = .slice (some ⟨g,0,none⟩) xs.length cp:=by
  obtain⟨g,cap,cur,n,hv,_⟩:=h
  exact⟨g,cap,hv⟩
section
variable {P:Program}{n:Nat}{D:List Deferred}{F:Fr}{w:World}{K:Fr→World→Prop}{Q:Exit→Act→World→Prop}{d:Option Tmp}{t:TypeId}{s:String}{af:Array Edge}{gu:Option (Nat × Bool)}
theorem mO{a:Act}{o:Oper}{N:Option Tmp}{K:Act→World→Prop}{w1:World}(v:Value)(hN:o.dst=N)(hr:(execOp a.eval o).run P w = .ok (.value v) w1)(h:K (a.put N v) w1) : OW P o a w K Q:=by
  refine OW.mk ?_
  subst hN
  unfold Oper.wp
  rw[hr]
  exact h
theorem uF{ty:TypeId}{x:Operand}{sv:ByteArray}(hs:P.underlying ty=some .string)(h:∀ g w',w.heap.size≤g→w'.heap[g]? = some (.stringIter sv 0)→aq [] w w'→K (pt d (.pointer (some ⟨g,0,none⟩)) F) w')
    (hx:cU F x=some (.string sv):=by kernel_rfl) (hk:dq n d=true:=by kernel_rfl) : OG P ⟨d,.range ty x,t,s,af,gu⟩ n D F w K Q:=by
  refine⟨fun a ha K' hK=>mO (.pointer (some ⟨w.heap.size,0,none⟩)) rfl (w1:=w.alloc (.stringIter sv 0)) ?_ (hK _ _ _ (h _ _ (Nat.le_refl _) (cO _ _) ((aq.refl _ _).alloc _)) (ha.put hk))⟩
  have hx':=ha.ev hx
  unfold execOp
  simp only[hx',Sem.run_bind,run_range_string w ty sv hs,Result.andThen,Sem.run_pure]
  rfl
theorem nL{xs:List Int}(hr:dm xs)(h0:0<xs.length) : ((((Utf8.decode (strOfNums xs) 0).1:Nat) : Int)=58↔xs.getD 0 0=58):=by
  have hs:0<(strOfNums xs).size:=by rw[strOfNums_size];exact h0
  have hm:xs.getD 0 0∈xs:=by
    rw[List.getD_eq_getElem?_getD,List.getElem?_eq_getElem h0]
    exact List.getElem_mem h0
  have hb:=hr _ hm
  have h1:((strOfNums xs).get! 0).toNat=(xs.getD 0 0).toNat:=by
    have e:(strOfNums xs).get! 0=(strOfNums xs)[0]:=by
      show(strOfNums xs).data[0]! = _
      rw[getElem!_pos (strOfNums xs).data 0 hs]
      rfl
    rw[e,eY h0 hs]
    simp only[UInt8.toNat_ofNat']
    omega
  unfold Utf8.decode
  simp only[Nat.zero_add,h1,Utf8.runeError]
  split
  · omega
  · split
    · split
      · rename_i h2 h3 h4;simp only;omega
      · simp only;omega
    · split
      · split
        · rename_i h2 h3 h4 h5;simp only[Bool.and_eq_true,decide_eq_true_eq] at h5;simp only;omega
        · simp only;omega
      · split
        · split
          · rename_i h2 h3 h4 h5 h6;simp only[Bool.and_eq_true,decide_eq_true_eq] at h6;simp only;omega
          · simp only;omega
        · simp only;omega
theorem vF{x:Operand}{xs:List Int}{r:Nat}(hr:dm xs)(h0:0<xs.length)(B:w.heap[r]? = some (.stringIter (strOfNums xs) 0))(h:∀ c w',(c=58↔xs.getD 0 0=58)→aq [r] w w'→K (pt d (.tuple #[.bool true,.int .i64 0,.int .i32 c]) F) w')
    (hx:cU F x=some (.pointer (some ⟨r,0,none⟩)):=by kernel_rfl) (hk:dq n d=true:=by kernel_rfl) : OG P ⟨d,.next x true,t,s,af,gu⟩ n D F w K Q:=by
  have hlt:=aj B
  have hrun:=Lib.run_next_any_at (P:=P) w r (strOfNums xs) 0 t B (by rw[strOfNums_size];exact h0)
  refine⟨fun a ha K' hK=>mO _ rfl (w1:=w.iterAt r (strOfNums xs) (0+(Utf8.decode (strOfNums xs) 0).2)) ?_ (hK _ _ _ (h (((Utf8.decode (strOfNums xs) 0).1:Nat) : Int) _ (nL hr h0) ?_) (ha.put hk))⟩
  · have hx':=ha.ev hx
    unfold execOp
    simp only[hx',Sem.run_bind,hrun,Result.andThen,Sem.run_pure]
    rfl
  · refine⟨rfl,rfl,rfl,?_,fun k hk hn=>?_⟩
    · simp[World.iterAt]
    · have:r≠k:=fun e=>hn (by simp[e])
      simp[World.iterAt,Array.getElem?_setIfInBounds,this]
end
open Go.RowKit
def f3 (xs ys:List Int) : Bool:=decide (((ys.length:Nat) : Int)≤((xs.length:Nat) : Int))&&decide (xs.drop (((xs.length:Nat) : Int)-((ys.length:Nat) : Int)).toNat=ys)
theorem rM{m m2:Bool}{A B:Option Addr}{n n2 c c2:Nat}{xs ys:List Int}{w:World}(h1:aL m w (.slice A n c) xs)(h2:aL m2 w (.slice B n2 c2) ys) : Calls Tryz.prog 172 #[.slice A n c,.slice B n2 c2] w (bg (.bool (decide (xs=ys))) w):=by
 refine en 10 Tryz.func172 rfl<|sg<|Pl 1<|ng<|Pl 1<|L0<|fN (.string (strOfNums xs)) (bQ (A:=A) (n:=n) (c:=c) rfl (by kernel_rfl) Tryz.underlying27 Tryz.underlying5 Tryz.underlying9 h1)<|Pl 1<|L0<|fN (.string (strOfNums ys)) (bQ (A:=B) (n:=n2) (c:=c2) rfl (by kernel_rfl) Tryz.underlying27 Tryz.underlying5 Tryz.underlying9 h2)<|L0<|fN (.bool (decide (xs=ys))) (dC (a:=(strOfNums xs)) (b:=(strOfNums ys)) rfl (by kernel_rfl) (by kernel_rfl) (fI h1 h2))<|Pl 1<|nl<|?_
 refine tn<|rt<|rr (.bool (decide (xs=ys)))<|?_
 exact⟨rfl,(aq.refl [] _)⟩
theorem pl{m m2:Bool}{A B:Option Addr}{c c2:Nat}{xs ys:List Int}{w:World}(h1:aL m w (.slice A xs.length c) xs)(h2:aL m2 w (.slice B ys.length c2) ys) : Calls Tryz.prog 170 #[.slice A xs.length c,.slice B ys.length c2] w (bg (.bool (f3 xs ys)) w):=by
 have hz1:=aG.len h1
 have hz2:=aG.len h2
 have hz3:=aG.cap h1
 refine en 21 Tryz.func170 rfl<|sg<|Pl 1<|ng<|Pl 6<|bl 10 ((decide (((ys.length:Nat) : Int)≤((xs.length:Nat) : Int)))) (fun a=>?_) (fun a=>?_)
 have b:=of_decide_eq_true a
 refine Pl 5<|L1<|Oi (((xs.length:Nat) : Int)-((ys.length:Nat) : Int))<|kV (eK (P:=Tryz.prog) 27 5 1 Tryz.underlying27 rfl rfl A xs.length c (lo:=(((xs.length:Nat) : Int)-((ys.length:Nat) : Int))) (((((xs.length:Nat) : Int)-((ys.length:Nat) : Int))).toNat) (by omega) (by omega)) fun d hrun12 e=>L1<|fN (.slice d (xs.length-(((((xs.length:Nat) : Int)-((ys.length:Nat) : Int))).toNat)) (c-(((((xs.length:Nat) : Int)-((ys.length:Nat) : Int))).toNat))) (cV (kl:=.i64) (k:=(((xs.length:Nat) : Int)-((ys.length:Nat) : Int))) (A:=A) (n:=xs.length) (c:=c) rfl Tryz.underlying27 (by kernel_rfl) (by kernel_rfl) (hrun12 _ _))<|Pl 1<|L1<|Oc<|m1 (rM (xs:=(xs.drop (((((xs.length:Nat) : Int)-((ys.length:Nat) : Int))).toNat))) (ys:=ys) (e _ _ _ _ _ h1) h2) fun g f=>Pl 2<|nt<|rt<|rr (.bool (decide ((xs.drop (((((xs.length:Nat) : Int)-((ys.length:Nat) : Int))).toNat))=ys)))<|?_
 have hs:(decide ((xs.drop (((((xs.length:Nat) : Int)-((ys.length:Nat) : Int))).toNat))=ys))=f3 xs ys:=by unfold f3;simp only[a,bs,if_true,if_false,decide_true,decide_false,Bool.true_and,Bool.false_and,Bool.and_true,Bool.and_false]
 rw[hs]
 exact⟨rfl,f⟩
 have b:=of_decide_eq_false a
 refine Pl 11<|nt<|rt<|rr (.bool false)<|?_
 have hs:false=f3 xs ys:=by unfold f3;simp only[a,bs,if_true,if_false,decide_true,decide_false,Bool.true_and,Bool.false_and,Bool.and_true,Bool.and_false]
 rw[hs]
 exact⟨rfl,(aq.refl [] _)⟩
theorem qv{m m2:Bool}{u v:Value}{xs ys:List Int}{w:World}(h1:aL m w u xs)(h2:aL m2 w v ys) : Calls Tryz.prog 170 #[u,v] w (bg (.bool (f3 xs ys)) w):=by
  obtain⟨A,c,rfl,_,_⟩:=h1.shape
  obtain⟨B,c2,rfl,_,_⟩:=h2.shape
  exact pl h1 h2
end Go.Proofs.YtpglhicfhppaiaaGreat
namespace Go.Proofs.YtpglhicfhppaiaaGreat
def oZ (b:List Int) : Nat→Int
  | 0=>0
  | k+1=>(oZ b k+b.getD k 0)%256
def sM (b:List Int) : Int:=oZ b b.length
def ki (b:List Int) : Int:=(0-sM b)%256
def eX (b:List Int) : Bool:=decide (0<((b.length:Nat) : Int))&&(ki b==0)
def ea (n:Int) : Int:=if n<10 then 48+n else 55+n
def bK (c:Int) : Int:=if 48≤c∧c≤57 then c-48 else if 65≤c∧c≤70 then c-55 else -1
def pF:List Int→List Int
  | []=>[]
  | c :: b=>ea (c/16) :: ea (c%16) :: pF b
def bF:List Int→Option (List Int)
  | []=>some []
  | [_]=>none
  | a :: b :: r=>if bK a<0∨bK b<0 then none else (bF r).map fun l=>(16*bK a+bK b)%256 :: l
theorem mW{n:Int}(h:0≤n∧n<16) : bK (ea n)=n:=by
  unfold ea
  split<;>unfold bK
  · rw[if_pos (by omega)];omega
  · rw[if_neg (by omega),if_pos (by omega)];omega
theorem fL{c:Int}(h:0≤bK c) : ea (bK c)=c∧bK c<16:=by
  unfold bK at h ⊢
  split at h
  · rename_i h1
    rw[if_pos h1]
    unfold ea
    rw[if_pos (by omega)]
    omega
  · rename_i h1
    split at h
    · rename_i h2
      rw[if_neg h1,if_pos h2]
      unfold ea
      rw[if_neg (by omega)]
      omega
    · omega
theorem jk(c:Int) : bK c<16∧-1≤bK c:=by unfold bK;split;omega;split<;>omega
theorem kp:∀ b:List Int,(pF b).length=2*b.length
  | []=>rfl
  | c :: b=>by simp only[pF,List.length_cons,kp b];omega
theorem gG:∀ {s x:List Int},bF s=some x→s=pF x∧∀ y,y∈x→0≤y∧y<256
  | [],x,h=>by
    injection h with h
    subst h
    exact⟨rfl,fun y hy=>by cases hy⟩
  | [_],x,h=>by cases h
  | a :: b :: r,x,h=>by
    simp only[bF] at h
    split at h
    · cases h
    · rename_i hd
      cases hr:bF r with
      | none=>rw[hr] at h;cases h
      | some l =>
        rw[hr] at h
        injection h with h
        obtain⟨h1,h2⟩:=gG hr
        have ha:=fL (c:=a) (by omega)
        have hb:=fL (c:=b) (by omega)
        subst h
        refine⟨?_,fun y hy=>?_⟩
        · simp only[pF]
          rw[show(16*bK a+bK b)%256/16=bK a from by omega,show(16*bK a+bK b)%256%16=bK b from by omega,ha.1,hb.1,← h1]
        · rcases List.mem_cons.1 hy with rfl | hy
          · omega
          · exact h2 y hy
theorem lS{xs:List Int}{k:Nat}(h:2*k+1<xs.length)(ha:¬ bK (xs.getD (2*k) 0)<0)(hb:¬ bK (xs.getD (2*k+1) 0)<0) : bF (xs.drop (2*k))=(bF (xs.drop (2*(k+1)))).map fun l=>[(16*bK (xs.getD (2*k) 0)+bK (xs.getD (2*k+1) 0))%256]++l:=by
  have e1:xs.getD (2*k) 0=xs[2*k]:=by rw[List.getD_eq_getElem?_getD,List.getElem?_eq_getElem (by omega)];rfl
  have e2:xs.getD (2*k+1) 0=xs[2*k+1]:=by rw[List.getD_eq_getElem?_getD,List.getElem?_eq_getElem h];rfl
  rw[List.drop_eq_getElem_cons (show 2*k<xs.length by omega),List.drop_eq_getElem_cons h,← e1,← e2]
  simp only[bF]
  rw[if_neg (by omega),show 2*k+1+1=2*(k+1) by omega]
  rfl
theorem ol{xs:List Int}{k:Nat}(h:2*k+1<xs.length)(hd:bK (xs.getD (2*k) 0)<0∨bK (xs.getD (2*k+1) 0)<0) : bF (xs.drop (2*k))=none:=by
  have e1:xs.getD (2*k) 0=xs[2*k]:=by rw[List.getD_eq_getElem?_getD,List.getElem?_eq_getElem (by omega)];rfl
  have e2:xs.getD (2*k+1) 0=xs[2*k+1]:=by rw[List.getD_eq_getElem?_getD,List.getElem?_eq_getElem h];rfl
  rw[List.drop_eq_getElem_cons (show 2*k<xs.length by omega),List.drop_eq_getElem_cons h,← e1,← e2]
  simp only[bF]
  rw[if_pos hd]
theorem iF:∀ {xs:List Int},xs.length%2≠0→bF xs=none
  | [],h=>by simp at h
  | [_],_=>rfl
  | a :: b :: r,h=>by
    simp only[bF]
    split
    · rfl
    · rw[iF (by simp only[List.length_cons] at h;omega)]
      rfl
theorem nQ{s x:List Int}(h:bF s=some x) : s.length=2*x.length:=by
  obtain⟨h1,_⟩:=gG h
  rw[h1,kp]
theorem nn{xs L:List Int}{k:Nat}(h:bF xs=(bF (xs.drop (2*k))).map fun l=>L++l)(h1:¬ 2*k<xs.length) : bF xs=some L:=by
  rw[List.drop_eq_nil_of_le (by omega)] at h
  rw[h]
  simp[bF]
theorem m0{xs L:List Int}{k:Nat}(h:bF xs=(bF (xs.drop (2*k))).map fun l=>L++l)(h2:2*k+1<xs.length)(ha:¬ bK (xs.getD (2*k) 0)<0)(hb:¬ bK (xs.getD (2*k+1) 0)<0) : bF xs=(bF (xs.drop (2*(k+1)))).map fun l=>(L++[(16*bK (xs.getD (2*k) 0)+bK (xs.getD (2*k+1) 0))%256])++l:=by
  rw[h,lS h2 ha hb]
  cases bF (xs.drop (2*(k+1))) with
  | none=>rfl
  | some l=>simp
theorem pT{xs L:List Int}{k:Nat}(h:bF xs=(bF (xs.drop (2*k))).map fun l=>L++l)(h2:2*k+1<xs.length)(hd:bK (xs.getD (2*k) 0)<0∨bK (xs.getD (2*k+1) 0)<0) : bF xs=none:=by
  rw[h,ol h2 hd]
  rfl
open Go.RowKit
theorem qJ{w:World}{g:Nat}{c s:Int}(hg:w.heap[g]? = some (.cells #[.int .u8 s] 5 (0,0))) : Calls Tryz.prog 182 #[.int .u8 c,.pointer (some ⟨g,0,none⟩)] w (fun e w'=>e = .returned (.tuple #[])∧w'.heap[g]? = some (.cells #[.int .u8 ((s+c)%256)] 5 (0,0))∧aq [g] w w'):=by
 refine en 6 Tryz.func182 rfl<|go<|L0<|aR hg 0<|Pl 2<|L0<|bO hg 0 #[.int .u8 ((s+c)%256)] fun d a b=>nl<|rm (.tuple #[])<|?_
 exact⟨rfl,a,b⟩
theorem oh{m:Bool}{A:Option Addr}{cp:Nat}{b:List Int}{w0 w:World}{g:Nat}(hu0:aq [] w0 w)(hg0:w0.heap.size≤g)(hsl:aL m w0 (.slice A b.length cp) b)(hg:w.heap[g]? = some (.cells #[.int .u8 (oZ b 0)] 5 (0,0))) :
    Calls Tryz.prog 181 #[.slice A b.length cp,.func (.func 182) #[] #[.pointer (some ⟨g,0,none⟩)]] w (fun e w'=>e = .returned (.tuple #[])∧w'.heap[g]? = some (.cells #[.int .u8 (sM b)] 5 (0,0))∧aq [] w0 w'∧w.heap.size≤w'.heap.size):=by
 have hln:=aG.len hsl
 refine en 16 Tryz.func181 rfl<|sg<|Pl 3<|nt<|bk<|?_
 refine g7 (fun x=>[(1,.func (.func 182) #[] #[.pointer (some ⟨g,0,none⟩)]),(6,.slice A b.length cp),(7,.int .i64 ((b.length:Nat) : Int)),(8,.int .i64 ((x:Nat) : Int))]) (fun(x:Nat) w'=>aq [] w0 w'∧w.heap.size≤w'.heap.size∧w'.heap[g]? = some (.cells #[.int .u8 (oZ b x)] 5 (0,0))∧(x≤b.length)) (fun x=>b.length-x) 0 ⟨hu0,lr,hg,(by(try dsimp only);omega)⟩ ?_
 rintro k j ⟨a,f,l,n⟩
 refine fZ [(1,.func (.func 182) #[] #[.pointer (some ⟨g,0,none⟩)]),(6,.slice A b.length cp),(7,.int .i64 ((b.length:Nat) : Int)),(8,.int .i64 ((k:Nat) : Int))] ?_
 have h:j.heap[g]? = some (.cells #[.int .u8 (oZ b k)] 5 (0,0)):=l
 have y:k≤b.length:=n
 refine sg<|Pl 1<|nt<|sq<|cb ((decide (((k:Nat) : Int)<((b.length:Nat) : Int)))) (fun d=>?_) (fun d=>?_)
 have o:=of_decide_eq_true d
 refine bD<|sq<|bk<|sg<|?_
 refine fA (aL.at_ (aL.old hsl a) k (by omega)) fun q r s t z=>L0<|nh b.length k s (by omega)<|L0<|iX (p:=⟨q,r+k,none⟩) (v:=.int .u8 (b.getD k 0)) t<|Pl 1<|nt<|go<|Pl 2<|L0<|eD #[] #[.pointer (some ⟨g,0,none⟩)] (args:=#[.int .u8 (b.getD k 0),.pointer (some ⟨g,0,none⟩)])<|m2 (qJ (c:=(b.getD k 0)) h) fun B u i=>nl<|bn<|tn<|go<|L0<|Oi (((k:Nat) : Int)+1)<|?_
 refine Pl 1<|nl<|?_
 exact dY (k+1) ⟨(ud a i hg0),(le f i.size),u,(by(try dsimp only);omega)⟩ (by omega)
 have o:=of_decide_eq_false d
 refine xt<|tx<|tx<|bx<|rm (.tuple #[])<|?_
 have hk:k=b.length:=by omega
 subst hk
 exact⟨rfl,h,a,f⟩
theorem m6{m:Bool}{A:Option Addr}{cp:Nat}{b:List Int}{w:World}(hsl:aL m w (.slice A b.length cp) b) :
    Calls Tryz.prog 178 #[.slice A b.length cp] w (bg (.int .u8 (ki b)) w):=by
 refine en 9 Tryz.func178 rfl<|sg<|Pl 1<|ng<|L0<|bz #[.int .u8 0] fun h i a c d=>L0<|bO c 0 #[.int .u8 0] fun j dj e=>ng<|?_
 refine Pl 2<|?_
 refine L0<|Oc<|m3 (oh (ud d e a) a hsl dj) fun k f g l=>ng<|L0<|aR f 0<|Pl 2<|nt<|rt<|rr (.int .u8 ((0-(sM b))%256))<|?_
 exact⟨rfl,g⟩
theorem nG{m:Bool}{v:Value}{b:List Int}{w:World}(h:aL m w v b) : Calls Tryz.prog 178 #[v] w (bg (.int .u8 (ki b)) w):=by
  obtain⟨A,cp,rfl,_,_⟩:=h.shape
  exact m6 h
theorem la{m:Bool}{A:Option Addr}{cp:Nat}{b:List Int}{w:World}(hsl:aL m w (.slice A b.length cp) b) :
    Calls Tryz.prog 175 #[.slice A b.length cp] w (bg (.bool (eX b)) w):=by
 refine en 11 Tryz.func175 rfl<|sg<|Pl 1<|ng<|Pl 4<|bl 6 ((decide (0<((b.length:Nat) : Int)))) (fun a=>?_) (fun a=>?_)
 have c:=of_decide_eq_true a
 refine Pl 1<|L1<|Oc (args:=#[.slice A b.length cp])<|m1 (nG hsl) fun e d=>Pl 3<|nt<|rt<|rr (.bool ((ki b)==0))<|?_
 have hs:eX b=((ki b)==0):=by unfold eX;(try simp only[a,bs,if_true,if_false,decide_true,decide_false]);all_goals rfl
 rw[hs]
 exact⟨rfl,d⟩
 have c:=of_decide_eq_false a
 refine Pl 5<|nt<|rt<|rr (.bool false)<|?_
 have hs:eX b=false:=by unfold eX;(try simp only[a,bs,if_true,if_false,decide_true,decide_false]);all_goals rfl
 rw[hs]
 exact⟨rfl,(aq.refl [] _)⟩
theorem od{m:Bool}{v:Value}{b:List Int}{w:World}(h:aL m w v b) : Calls Tryz.prog 175 #[v] w (bg (.bool (eX b)) w):=by
  obtain⟨A,cp,rfl,_,_⟩:=h.shape
  exact la h
open Go.RowKit
def oN:Array Value:=#[.int .u8 48,.int .u8 49,.int .u8 50,.int .u8 51,.int .u8 52,.int .u8 53,.int .u8 54,.int .u8 55,.int .u8 56,.int .u8 57,.int .u8 65,.int .u8 66,.int .u8 67,.int .u8 68,.int .u8 69,.int .u8 70]
theorem qz:∀ {j:Nat},j<16→oN[j]? = some (.int .u8 (ea (j:Int)))
  | 0,_ | 1,_ | 2,_ | 3,_ | 4,_ | 5,_ | 6,_ | 7,_ | 8,_ | 9,_ | 10,_ | 11,_ | 12,_ | 13,_ | 14,_ | 15,_=>rfl
  | n+16,h=>by omega
theorem oF{P:Program}{w:World}{ev:Operand→Value}{o:Oper}{x ix:Operand}{t e:TypeId}{k:IntKind}{i:Int}(j:Nat)(ho:o.op = .index t x ix)(ht:P.underlying t=some (.array 16 e))(hi:(P.info? e).map (·.size)=some 1)(hr:∀ w,(isAgg e).run P w = .ok false w)(hx:ev x = .agg oN)(hy:ev ix = .int k i)(hj:i=(j:Int))(hlt:j<16) : (execOp ev o).run P w = .ok (.value (.int .u8 (ea (j:Int)))) w:=by
  subst hj
  obtain⟨i0,hi0,hs⟩:=Option.map_eq_some_iff.1 hi
  have h:=qz hlt
  unfold execOp
  have h2:(0:Int)≤(j:Int)∧(j:Int)<16:=by omega
  simp[ho,hx,hy,Instr.index,asIntOf,run_underlying ht,Result.andThen,h2,sizeOf,typeInfo,hi0,hs,part,h,hr,hlt]
open Go.RowKit
theorem lf{w:World}:Calls Tryz.prog 180 #[] w (bg (.agg oN) w):=by
 refine en 2 Tryz.func180 rfl<|sg<|L0<|bz #[.int .u8 0,.int .u8 0,.int .u8 0,.int .u8 0,.int .u8 0,.int .u8 0,.int .u8 0,.int .u8 0,.int .u8 0,.int .u8 0,.int .u8 0,.int .u8 0,.int .u8 0,.int .u8 0,.int .u8 0,.int .u8 0] fun e f a b c=>ng<|Pl 1<|L0<|b6 b #[.int .u8 48,.int .u8 49,.int .u8 50,.int .u8 51,.int .u8 52,.int .u8 53,.int .u8 54,.int .u8 55,.int .u8 56,.int .u8 57,.int .u8 65,.int .u8 66,.int .u8 67,.int .u8 68,.int .u8 69,.int .u8 70] fun g dj d=>nt<|rt<|t6 dj<|?_
 exact⟨rfl,(ud c d a)⟩
theorem pi{c:Int}{n:Nat}(h:∀ j:Nat,j<n→ea (j:Int)≠c)(q:(ea ((n:Nat) : Int)==c)=false) : ∀ j:Nat,j<n+1→ea (j:Int)≠c:=fun j hj=>by
  by_cases e:j=n
  · subst e;simpa using q
  · exact h j (by omega)
theorem sK{c:Int}{n:Nat}(hn:n<16)(q:(ea ((n:Nat) : Int)==c)=true) : bK c=((n:Nat) : Int):=by
  have e:ea ((n:Nat) : Int)=c:=by simpa using q
  rw[← e]
  exact mW (by omega)
theorem pv{c:Int}{n:Nat}(hn:n=16)(h:∀ j:Nat,j<n→ea (j:Int)≠c) : bK c = -1:=by
  by_cases e:0≤bK c
  · have h1:=fL e
    exact absurd (by rw[Int.toNat_of_nonneg e];exact h1.1) (h (bK c).toNat (by omega))
  · have:=jk c
    omega
theorem ir{w:World}{c:Int}(hc:0≤c∧c<256) : Calls Tryz.prog 177 #[.int .u8 c] w (bg (.int .i64 (bK c)) w):=by
 refine en 15 Tryz.func177 rfl<|sg<|Pl 1<|nt<|sq<|sg<|L0<|Oc<|m1 (@lf w) fun g h=>Pl 1<|nt<|bk<|?_
 refine g7 (fun x=>[(0,.int .u8 c),(5,.agg oN),(6,.int .i64 ((x:Nat) : Int))]) (fun(x:Nat) w'=>aq [] g w'∧(x≤16)∧(∀ j:Nat,j<x→ea (j:Int)≠c)) (fun x=>16-x) 0 ⟨aq.refl _ _,(by(try dsimp only);omega),(fun j hj=>by omega)⟩ ?_
 rintro n q ⟨d,l,m⟩
 refine fZ [(0,.int .u8 c),(5,.agg oN),(6,.int .i64 ((n:Nat) : Int))] ?_
 have r:n≤16:=l
 have e:∀ j:Nat,j<n→ea (j:Int)≠c:=m
 refine sg<|Pl 1<|nt<|sq<|?_
 have f:=aE h d
 refine cb ((decide (((n:Nat) : Int)<16))) (fun b=>?_) (fun b=>?_)
 have o:=of_decide_eq_true b
 refine bD<|sq<|bk<|sg<|Pl 1<|L0<|fN (.int .u8 (ea ((n:Nat) : Int))) (oF (k:=.i64) (i:=((n:Nat) : Int)) n rfl Tryz.underlying226 (by kernel_rfl) Tryz.isAgg5 (by kernel_rfl) (by kernel_rfl) rfl (by omega))<|Pl 2<|ng<|Pl 3<|nl<|?_
 refine tn<|cb (((ea ((n:Nat) : Int))==c)) (fun a=>?_) (fun a=>?_)
 have p:=aA a
 refine sg<|Pl 2<|nt<|rt<|br<|tr<|tr<|br<|tr<|rr (.int .i64 ((n:Nat) : Int))<|?_
 have hs:bK c=((n:Nat) : Int):=sK (by omega) a
 rw[hs]
 exact⟨rfl,f⟩
 have p:=aH a
 exact sk<|bn<|tn<|go<|L0<|Oi (((n:Nat) : Int)+1)<|Pl 1<|nl<|dY (n+1) ⟨d,(by(try dsimp only);omega),(pi e a)⟩ (by omega)
 have o:=of_decide_eq_false b
 refine xt<|tx<|tx<|bx<|tn<|sg<|Pl 1<|nt<|rt<|rr (.int .i64 (-1))<|?_
 have hs:bK c = -1:=pv (n:=n) (by omega) e
 rw[hs]
 exact⟨rfl,f⟩
open Go.RowKit
def e9 (xs:List Int)(w:World)(e:Ending)(w':World) : Prop:=match bF xs with
  | some l=>∃ v,e = .returned (.tuple #[v,.int .i64 0])∧cI w.heap.size w' v l∧aq [] w w'
  | none=>e = .returned (.tuple #[.slice none 0 0,.int .i64 11])∧aq [] w w'
theorem rC{xs l:List Int}{w w':World}{e:Ending}(h:bF xs=some l)(k:∃ v,e = .returned (.tuple #[v,.int .i64 0])∧cI w.heap.size w' v l∧aq [] w w') : e9 xs w e w':=by
  unfold e9
  rw[h]
  exact k
theorem mD{xs:List Int}{w w':World}{e:Ending}(h:bF xs=none)(k:e = .returned (.tuple #[.slice none 0 0,.int .i64 11])∧aq [] w w') : e9 xs w e w':=by
  unfold e9
  rw[h]
  exact k
theorem iR{xs:List Int}{w:World}(hr:dm xs)(hl:xs.length≤1048576) :
    Calls Tryz.prog 174 #[.string (strOfNums xs)] w (e9 xs w):=by
 refine en 42 Tryz.func174 rfl<|sg<|Pl 2<|nt<|sq<|sg<|Pl 1<|L0<|Oe (.int .i64 (((strOfNums xs).size:Nat) : Int)) (.int .i64 ((xs.length:Nat) : Int)) (by rw[strOfNums_size])<|L0<|Oe (.int .i64 (Int.tmod ((xs.length:Nat) : Int) 2)) (.int .i64 (((xs.length:Nat) : Int)%2)) (congrArg (Value.int .i64) (Int.tmod_eq_emod_of_nonneg (by omega)))<|Pl 1<|nl<|?_
 refine tn<|cb (((((xs.length:Nat) : Int)%2)!=0)) (fun f=>?_) (fun f=>?_)
 have A:=ax f
 refine sg<|Pl 2<|nt<|rt<|tr<|rr (.tuple #[.slice none 0 0,.int .i64 11])<|?_
 have hs:bF xs=none:=iF (by omega)
 exact mD hs ⟨rfl,(aq.refl [] _)⟩
 have A:=ag f
 refine bD<|sg<|Pl 1<|nt<|sq<|sg<|Pl 1<|nt<|bk<|?_
 refine g7 (fun x=>[(0,.string (strOfNums xs)),(4,.slice x.2.2.1 x.2.1.length x.2.2.2),(5,.int .i64 ((2*x.1:Nat) : Int))]) (fun(x:Nat × List Int × Option Addr × Nat) w'=>aq [] w w'∧cI w.heap.size w' (.slice x.2.2.1 x.2.1.length x.2.2.2) x.2.1∧(2*x.1≤xs.length)∧(bF xs=(bF (xs.drop (2*x.1))).map fun l=>x.2.1++l)∧(x.2.1.length=x.1)) (fun x=>xs.length-2*x.1) (0,[],none,0) ⟨aq.refl _ _,(aN.nil w.heap.size _ _ kO _),(by(try dsimp only);omega),(by(try dsimp only);simp),(by(try dsimp only);rfl)⟩ ?_
 rintro⟨k,L,B,cq⟩ C ⟨g,D,E,F,G⟩
 refine fZ [(0,.string (strOfNums xs)),(4,.slice B L.length cq),(5,.int .i64 ((2*k:Nat) : Int))] ?_
 have j:cI w.heap.size C (.slice B L.length cq) L:=D
 have U:2*k≤xs.length:=E
 have V:bF xs=(bF (xs.drop (2*k))).map fun l=>L++l:=F
 have W:L.length=k:=G
 have hL:bF xs=(bF (xs.drop (2*k))).map fun l=>L++l:=by assumption
 refine sq<|sg<|Pl 2<|L0<|Oe (.int .i64 (((strOfNums xs).size:Nat) : Int)) (.int .i64 ((xs.length:Nat) : Int)) (by rw[strOfNums_size])<|Pl 1<|nt<|cb ((decide (((2*k:Nat) : Int)<((xs.length:Nat) : Int)))) (fun n=>?_) (fun n=>?_)
 have H:=of_decide_eq_true n
 refine bD<|sq<|bk<|sq<|Rg 11 (fun w'=>True) fun X p=>b9 trivial fun a=>Rt 0 a<|Rt 1 a<|Rr 2 a (.int .u8 (xs.getD (2*k) 0)) (fun _ _=>jI (xs:=xs) (k:=.i64) (i:=((2*k:Nat) : Int)) (2*k) rfl Tryz.underlying9 (by kernel_rfl) (by kernel_rfl) hr rfl (by omega))<|Rt 4 a<|Rt 5 a<|Rr 6 a (.int .i64 (((2*k:Nat) : Int)+1)) (fun _ _=>bU (.int .i64 (IntKind.i64.wrap (((2*k:Nat) : Int)+1))) (by kernel_rfl) (congrArg (Value.int .i64) (IntWalk.i64_in _ (by omega))))<|Rr 7 a (.int .u8 (xs.getD ((((2*k:Nat) : Int)+1)).toNat 0)) (fun _ _=>jI (xs:=xs) (k:=.i64) (i:=(((2*k:Nat) : Int)+1)) ((((2*k:Nat) : Int)+1)).toNat rfl Tryz.underlying9 (by kernel_rfl) (by kernel_rfl) hr (by omega) (by omega))<|?_
 have Y:=jk (xs.getD (2*k) 0)
 refine R0 3 rfl<|Oc<|m1 (ir (c:=(xs.getD (2*k) 0)) (w:=_) (dQ (by omega) hr _)) fun Z r=>b9 trivial fun a0=>?_
 have a1:=jk (xs.getD ((((2*k:Nat) : Int)+1)).toNat 0)
 refine R0 8 rfl<|Oc<|m1 (ir (c:=(xs.getD ((((2*k:Nat) : Int)+1)).toNat 0)) (w:=_) (dQ (by omega) hr _)) fun a2 s=>b9 trivial fun t=>Rt 9 t<|Rt 10 t<|re<|tn<|sq<|sg<|Pl 3<|cu 3 [29] 32 (((decide ((bK (xs.getD (2*k) 0))<0))||(decide ((bK (xs.getD ((((2*k:Nat) : Int)+1)).toNat 0))<0)))) (fun K u=>?_) ?_
 refine bl 29 ((decide ((bK (xs.getD (2*k) 0))<0))) (fun b=>?_) (fun b=>?_)
 have I:=of_decide_eq_true b
 exact Pl 3<|ce u true (by rw[b];rfl)
 have I:=of_decide_eq_false b
 exact Pl 3<|ce u (decide ((bK (xs.getD ((((2*k:Nat) : Int)+1)).toNat 0))<0)) (by rw[b];rfl)
 refine nt<|?_
 have v:=aE p (aE r s)
 have y:=aE g v
 refine cb (((decide ((bK (xs.getD (2*k) 0))<0))||(decide ((bK (xs.getD ((((2*k:Nat) : Int)+1)).toNat 0))<0)))) (fun d=>?_) (fun d=>?_)
 refine sg<|Pl 2<|nt<|rt<|tr<|br<|tr<|tr<|br<|tr<|rr (.tuple #[.slice none 0 0,.int .i64 11])<|?_
 have hs:bF xs=none:=pT (k:=k) hL (by omega) (by have q:=d;simp only[Bool.or_eq_true,decide_eq_true_eq] at q;rw[show 2*k+1=(((2*k:Nat) : Int)+1).toNat from by omega];exact q)
 exact mD hs ⟨rfl,y⟩
 have J:=(aC d).1
 have M:=(aC d).2
 have a3:=of_decide_eq_false J
 have a4:=of_decide_eq_false M
 refine bD<|go<|Pl 2<|L0<|Oi (16*(bK (xs.getD (2*k) 0)))<|Pl 1<|L0<|Oi ((16*(bK (xs.getD (2*k) 0)))+(bK (xs.getD ((((2*k:Nat) : Int)+1)).toNat 0)))<|Pl 1<|L0<|eS (m:=1) (e:=5) #[.int .u8 (((16*(bK (xs.getD (2*k) 0)))+(bK (xs.getD ((((2*k:Nat) : Int)+1)).toNat 0)))%256)] fun a5 a6 N O o=>?_
 have P:=ia N (xs:=[(((16*(bK (xs.getD (2*k) 0)))+(bK (xs.getD ((((2*k:Nat) : Int)+1)).toNat 0)))%256)]) (by as_aux_lemma=>kernel_rfl) (aF (by omega) cQ) (by(try simp only[List.length_cons,List.length_nil]);omega) O
 refine L0<|uu iZ (xs:=L) (ys:=([(((16*(bK (xs.getD (2*k) 0)))+(bK (xs.getD ((((2*k:Nat) : Int)+1)).toNat 0)))%256)])) (.int .u8 0) 1 (am j (aE v o) (fun x hx=>ay) (fun _ _ h=>h)) (P).rd (by(try simp only[List.length_append,List.length_cons,List.length_nil,aS]);omega) (le (le (le (le g.size p.size) r.size) s.size) o.size) fun Q R a7 S T=>Pl 1<|nl<|bn<|tn<|go<|Pl 1<|L0<|Oi (((2*k:Nat) : Int)+2)<|Pl 1<|nl<|?_
 have z:=m0 (k:=k) hL (by omega) (by omega) (by rw[show 2*k+1=(((2*k:Nat) : Int)+1).toNat from by omega];omega)
 rw[show 2*k+1=(((2*k:Nat) : Int)+1).toNat from by omega] at z
 exact dY ((k+1),(L++[(((16*(bK (xs.getD (2*k) 0)))+(bK (xs.getD ((((2*k:Nat) : Int)+1)).toNat 0)))%256)]),Q,R) ⟨(ut y (ut (aq.mono (S':=(ob B++[])) o av) T (au il av)) (au (bH j lr) av)),S,(by(try dsimp only);omega),z,(by(try dsimp only);simp only[List.length_append,List.length_cons,List.length_nil];omega)⟩ (by omega)
 have H:=of_decide_eq_false n
 refine xt<|tx<|tx<|bx<|tn<|sg<|Pl 3<|nt<|rt<|rr (.tuple #[.slice B L.length cq,.int .i64 0])<|?_
 have hs:bF xs=some L:=nn hL (by omega)
 exact rC hs ⟨_,rfl,j,g⟩
open Go.RowKit
def et (xs:List Int) : Bool:=decide (2≤((xs.length:Nat) : Int))&&decide (xs.drop (((xs.length:Nat) : Int)-2).toNat=[13,10])
def fy (b:List Int) : Option (List Int):=if b.getD 0 0=58∧et (b.drop 1)=true then some ((b.drop 1).take (b.length-3)) else none
theorem jB{xs:List Int}(h:et xs=true) : 2≤xs.length:=by
  unfold et at h
  simp only[Bool.and_eq_true,decide_eq_true_eq] at h
  omega
theorem iI{b s:List Int}(h:fy b=some s) : b.getD 0 0=58∧et (b.drop 1)=true∧s=(b.drop 1).take (b.length-3)∧3≤b.length:=by
  unfold fy at h
  split at h
  · rename_i hc
    injection h with h
    have:=jB hc.2
    rw[List.length_drop] at this
    exact⟨hc.1,hc.2,h.symm,by omega⟩
  · cases h
theorem pD{b s:List Int}(h:fy b=some s) : s.length=b.length-3:=by
  obtain⟨_,_,rfl,h3⟩:=iI h
  rw[List.length_take,List.length_drop]
  omega
def jp (xs:List Int)(w:World)(e:Ending)(w':World) : Prop:=match fy xs with
  | some l=>e = .returned (.tuple #[.string (strOfNums l),.bool true])∧aq [] w w'
  | none=>∃ s,e = .returned (.tuple #[.string s,.bool false])∧aq [] w w'
theorem hH{xs:List Int}{w:World}(hr:dm xs)(hl:xs.length≤1048576) : Calls Tryz.prog 183 #[.string (strOfNums xs),.string ⟨#[13,10]⟩] w (bg (.bool (et xs)) w):=by
 refine en 21 Tryz.func183 rfl<|sg<|Pl 1<|ng<|Pl 1<|L0<|Oe (.int .i64 (((strOfNums xs).size:Nat) : Int)) (.int .i64 ((xs.length:Nat) : Int)) (by rw[strOfNums_size])<|Pl 4<|bl 10 ((decide (2≤((xs.length:Nat) : Int)))) (fun c=>?_) (fun c=>?_)
 have d:=of_decide_eq_true c
 refine Pl 2<|L1<|Oe (.int .i64 (((strOfNums xs).size:Nat) : Int)) (.int .i64 ((xs.length:Nat) : Int)) (by rw[strOfNums_size])<|Pl 2<|L1<|Oi (((xs.length:Nat) : Int)-2)<|?_
 have e:dm (xs.drop ((((xs.length:Nat) : Int)-2)).toNat):=fS hr ((((xs.length:Nat) : Int)-2)).toNat
 refine L1<|fN (.string (strOfNums (xs.drop ((((xs.length:Nat) : Int)-2)).toNat))) (iq (xs:=xs) (k:=.i64) (i:=(((xs.length:Nat) : Int)-2)) ((((xs.length:Nat) : Int)-2)).toNat rfl Tryz.underlying9 (by kernel_rfl) (by kernel_rfl) (by omega) (by omega))<|Pl 1<|L1<|fN (.bool (decide ((xs.drop ((((xs.length:Nat) : Int)-2)).toNat)=[13,10]))) (dC (a:=(strOfNums (xs.drop ((((xs.length:Nat) : Int)-2)).toNat))) (b:=⟨#[13,10]⟩) rfl (by kernel_rfl) (by kernel_rfl) (rL (ys:=[13,10]) e (by decide)))<|Pl 2<|nt<|rt<|rr (.bool (decide ((xs.drop ((((xs.length:Nat) : Int)-2)).toNat)=[13,10])))<|?_
 have hs:et xs=(decide ((xs.drop ((((xs.length:Nat) : Int)-2)).toNat)=[13,10])):=by unfold et;(try simp only[c,bs,if_true,if_false,decide_true,decide_false]);all_goals rfl
 rw[hs]
 exact⟨rfl,(aq.refl [] _)⟩
 have d:=of_decide_eq_false c
 refine Pl 11<|nt<|rt<|rr (.bool false)<|?_
 have hs:et xs=false:=by unfold et;(try simp only[c,bs,if_true,if_false,decide_true,decide_false]);all_goals rfl
 rw[hs]
 exact⟨rfl,(aq.refl [] _)⟩
theorem nN{xs:List Int}{w:World}(hr:dm xs)(hl:xs.length≤1048576)(hq:et xs=true) : Calls Tryz.prog 179 #[.string (strOfNums xs),.string ⟨#[13,10]⟩] w (bg (.tuple #[.string (strOfNums (xs.take (((xs.length:Nat) : Int)-2).toNat)),.bool true]) w):=by
 have hq2:=jB hq
 refine en 18 Tryz.func179 rfl<|sg<|Pl 2<|nt<|sq<|sg<|Pl 2<|L0<|Oc<|m1 (hH (xs:=xs) (w:=_) hr (by omega)) fun c a=>Pl 1<|nt<|?_
 have b:(!(et xs))=false:=by simp only[hq,Bool.not_true,Bool.not_false]
 refine cf b<|bD<|sg<|Pl 2<|L0<|Oe (.int .i64 (((strOfNums xs).size:Nat) : Int)) (.int .i64 ((xs.length:Nat) : Int)) (by rw[strOfNums_size])<|Pl 2<|L0<|Oi (((xs.length:Nat) : Int)-2)<|?_
 have d:dm (xs.take ((((xs.length:Nat) : Int)-2)).toNat):=iy hr ((((xs.length:Nat) : Int)-2)).toNat
 refine L0<|fN (.string (strOfNums (xs.take ((((xs.length:Nat) : Int)-2)).toNat))) (nv (xs:=xs) (k:=.i64) (i:=(((xs.length:Nat) : Int)-2)) ((((xs.length:Nat) : Int)-2)).toNat rfl Tryz.underlying9 (by kernel_rfl) (by kernel_rfl) (by omega) (by omega))<|Pl 2<|nt<|rt<|rr (.tuple #[.string (strOfNums (xs.take ((((xs.length:Nat) : Int)-2)).toNat)),.bool true])<|?_
 exact⟨rfl,a⟩
theorem pe{xs:List Int}{w:World}(hr:dm xs)(hl:xs.length≤1048576)(hq:et xs=true) : Calls Tryz.prog 176 #[.string (strOfNums xs),.string ⟨#[13,10]⟩] w (bg (.tuple #[.string (strOfNums (xs.take (((xs.length:Nat) : Int)-2).toNat)),.bool true]) w):=by
 refine en 11 Tryz.func176 rfl<|sg<|Pl 2<|ng<|Pl 2<|L0<|Oc<|m1 (nN (xs:=xs) (w:=_) hr hl hq) fun b a=>Pl 4<|nt<|rt<|?_
 refine rr (.tuple #[.string (strOfNums (xs.take (((xs.length:Nat) : Int)-2).toNat)),.bool true])<|?_
 exact⟨rfl,a⟩
theorem nB{xs:List Int}{w:World}(hr:dm xs)(hl:xs.length≤1048576)(hq:et xs=false) : Calls Tryz.prog 179 #[.string (strOfNums xs),.string ⟨#[13,10]⟩] w (bg (.tuple #[.string (strOfNums xs),.bool false]) w):=by
 refine en 18 Tryz.func179 rfl<|sg<|Pl 2<|nt<|sq<|sg<|Pl 2<|L0<|Oc<|m1 (hH (xs:=xs) (w:=_) hr (by omega)) fun c a=>Pl 1<|nt<|?_
 have b:(!(et xs))=true:=by simp only[hq,Bool.not_true,Bool.not_false]
 refine ct b<|sg<|Pl 3<|nt<|rt<|tr<|rr (.tuple #[.string (strOfNums xs),.bool false])<|?_
 exact⟨rfl,a⟩
theorem pZ{xs:List Int}{w:World}(hr:dm xs)(hl:xs.length≤1048576)(hq:et xs=false) : Calls Tryz.prog 176 #[.string (strOfNums xs),.string ⟨#[13,10]⟩] w (bg (.tuple #[.string (strOfNums xs),.bool false]) w):=by
 refine en 11 Tryz.func176 rfl<|sg<|Pl 2<|ng<|Pl 2<|L0<|Oc<|m1 (nB (xs:=xs) (w:=_) hr hl hq) fun b a=>Pl 4<|nt<|rt<|?_
 refine rr (.tuple #[.string (strOfNums xs),.bool false])<|?_
 exact⟨rfl,a⟩
theorem sf{b:List Int}(h:b.getD 0 0=58)(k:et (b.drop 1)=true) : fy b=some ((b.drop 1).take (b.length-3)):=if_pos ⟨h,k⟩
theorem r9{b:List Int}(h:¬ b.getD 0 0=58) : fy b=none:=if_neg fun k=>h k.1
theorem rD{b:List Int}(k:et (b.drop 1)=false) : fy b=none:=if_neg fun h=>by rw[k] at h;cases h.2
theorem sw{b l:List Int}{w w':World}{e:Ending}(h:fy b=some l)(k:e = .returned (.tuple #[.string (strOfNums l),.bool true])∧aq [] w w') : jp b w e w':=by
  unfold jp
  rw[h]
  exact k
theorem oO{b:List Int}{w w':World}{e:Ending}(h:fy b=none)(k:∃ s,e = .returned (.tuple #[.string s,.bool false])∧aq [] w w') : jp b w e w':=by
  unfold jp
  rw[h]
  exact k
theorem gF{b:List Int}{w:World}(hr:dm b)(hl:b.length≤1048576)(h0:0<b.length) : Calls Tryz.prog 173 #[.string (strOfNums b)] w (jp b w):=by
 refine en 18 Tryz.func173 rfl<|sg<|Pl 2<|nt<|sq<|sg<|Pl 1<|L0<|uF (sv:=strOfNums b) Tryz.underlying9 fun f m n o p=>nt<|bk<|?_
 refine g7 (fun x=>[(0,.string (strOfNums b)),(7,.pointer (some ⟨f,0,none⟩))]) (fun(x:Unit) w'=>aq [] m w'∧(0≤0)) (fun x=>0) () ⟨aq.refl _ _,(by(try dsimp only);omega)⟩ ?_
 rintro z v ⟨g,q⟩
 refine fZ [(0,.string (strOfNums b)),(7,.pointer (some ⟨f,0,none⟩))] ?_
 have y:0≤0:=q
 refine sg<|?_
 refine L0<|vF hr (by omega) (ub g o) fun r A h s=>Pl 1<|nt<|sq<|c1<|bD<|bk<|sg<|Pl 2<|nt<|?_
 refine sq<|sg<|Pl 2<|nt<|?_
 have a:=ud p (uz g s) n
 refine cb ((r != 58)) (fun c=>?_) (fun c=>?_)
 have d:=ax c
 refine sg<|Pl 2<|nt<|rt<|tr<|br<|tr<|br<|tr<|rr (.tuple #[.string ⟨#[]⟩,.bool false])<|?_
 exact oO (r9 fun e=>d (h.2 e)) ⟨_,rfl,a⟩
 have d:=ag c
 refine bD<|xt<|uh<|tx<|bx<|tn<|sg<|Pl 1<|?_
 have j:dm (b.drop 1):=fS hr 1
 refine L0<|fN (.string (strOfNums (b.drop 1))) (iq (xs:=b) (k:=.i64) (i:=1) 1 rfl Tryz.underlying9 (by kernel_rfl) (by kernel_rfl) rfl (by omega))<|?_
 rcases dT (et (b.drop 1)) with hq|hq
 refine L0<|Oc<|m1 (pe (xs:=(b.drop 1)) (w:=_) j (by rw[List.length_drop];omega) hq) fun B t=>Pl 4<|nt<|rt<|rr (.tuple #[.string (strOfNums ((b.drop 1).take ((((b.drop 1).length:Nat) : Int)-2).toNat)),.bool true])<|?_
 exact sw (l:=(b.drop 1).take (b.length-3)) (sf (h.1 d) hq) ⟨by rw[show b.length-3=((((b.drop 1).length:Nat) : Int)-2).toNat from by rw[List.length_drop];omega],(aE a t)⟩
 refine L0<|Oc<|m1 (pZ (xs:=(b.drop 1)) (w:=_) j (by rw[List.length_drop];omega) hq) fun C u=>Pl 4<|nt<|rt<|rr (.tuple #[.string (strOfNums (b.drop 1)),.bool false])<|?_
 exact oO (rD hq) ⟨_,rfl,(aE a u)⟩
open Go.RowKit
theorem mT{b s:List Int}(hr:dm b)(h:fy b=some s) : dm s:=by
  obtain⟨_,_,rfl,_⟩:=iI h
  exact iy (fS hr 1) _
theorem rJ{b l:List Int}{w:World}(h:fy b=some l)(e:Ending)(w':World)(k:jp b w e w') : e = .returned (.tuple #[.string (strOfNums l),.bool true])∧aq [] w w':=by
  unfold jp at k
  rw[h] at k
  exact k
theorem qX{b:List Int}{w:World}(h:fy b=none)(e:Ending)(w':World)(k:jp b w e w') : ∃ s,e = .returned (.tuple #[.string s,.bool false])∧aq [] w w':=by
  unfold jp at k
  rw[h] at k
  exact k
theorem oQ{b l:List Int}{w:World}(h:bF b=some l)(e:Ending)(w':World)(k:e9 b w e w') : ∃ v,e = .returned (.tuple #[v,.int .i64 0])∧cI w.heap.size w' v l∧aq [] w w':=by
  unfold e9 at k
  rw[h] at k
  exact k
theorem p8{b:List Int}{w:World}(h:bF b=none)(e:Ending)(w':World)(k:e9 b w e w') : e = .returned (.tuple #[.slice none 0 0,.int .i64 11])∧aq [] w w':=by
  unfold e9 at k
  rw[h] at k
  exact k
def ft (x:List Int) : List Int:=(x.take (x.length-1)).drop 1
theorem gJ(x:List Int) : ft x=(x.take (((x.length:Nat) : Int)-1).toNat).drop 1:=by
  unfold ft
  rw[show(((x.length:Nat) : Int)-1).toNat=x.length-1 from by omega]
def dp (dir:Int)(b:List Int) : cK × Int :=
  if dir != 0&&dir != 1 then (cK.zero,1)
  else if decide ((b.length:Int)<9) then (cK.zero,2)
  else if decide (513<(b.length:Int)) then (cK.zero,3)
  else match fy b with
    | none=>(cK.zero,12)
    | some s=>match bF s with
      | none=>(cK.zero,11)
      | some x=>if !(eX x) then (cK.zero,10) else cn (x.getD 0 0) 0 (cj dir (ft x))
theorem lG{m:Bool}{A:Option Addr}{cp:Nat}{b:List Int}{w:World}{dir:Int}(hsl0:aL m w (.slice A b.length cp) b)(hb:b.length≤1048576) :
    Calls Tryz.prog 171 #[.int .i64 dir,.slice A b.length cp] w (j3 (dp dir b) w):=by
 have hln:(b.length:Int)≤1048576:=by omega
 have hr:dm b:=aL.range hsl0
 refine en 71 Tryz.func171 rfl<|sg<|L0<|bz #[.int .u8 0,.int .u16 0,.int .u8 0,.int .u8 0,.int .u16 0,.int .u16 0,.int .u16 0,.int .u16 0,.int .u16 0,.int .u16 0,.int .u16 0,.int .u16 0,.int .u16 0,.int .u16 0,.slice none 0 0,.slice none 0 0,.slice none 0 0,.slice none 0 0,.int .u8 0,.int .u8 0,.int .u8 0,.int .u8 0,.int .u8 0,.slice none 0 0] fun bu X k d o=>Pl 1<|nt<|sq<|bk<|sg<|Pl 3<|cu 3 [14] 17 (((dir != 0)&&(dir != 1))) (fun K Y=>?_) ?_
 refine bl 14 ((dir != 0)) (fun F=>?_) (fun F=>?_)
 have an:=ax F
 exact Pl 3<|ce Y (dir != 1) (by rw[F];rfl)
 have an:=ag F
 exact Pl 3<|ce Y false (by rw[F];rfl)
 refine Pl 1<|nt<|cb (((dir != 0)&&(dir != 1))) (fun f=>?_) (fun f=>?_)
 have Z:=(bM f).1
 have a0:=(bM f).2
 have bv:=ax Z
 have bw:=ax a0
 refine sg<|Pl 1<|L0<|b6 d #[.int .u8 0,.int .u16 0,.int .u8 0,.int .u8 0,.int .u16 0,.int .u16 0,.int .u16 0,.int .u16 0,.int .u16 0,.int .u16 0,.int .u16 0,.int .u16 0,.int .u16 0,.int .u16 0,.slice none 0 0,.slice none 0 0,.slice none 0 0,.slice none 0 0,.int .u8 0,.int .u8 0,.int .u8 0,.int .u8 0,.int .u8 0,.slice none 0 0] fun bx ao aq=>Pl 1<|nt<|rt<|br<|tr<|c7 ao (.int .i64 1)<|?_
 have hs:dp dir b=(cK.zero,1):=by
   unfold dp
   (try simp only[f,Z,a0,bs,if_true,if_false,decide_true,decide_false,cn,reduceIte])
   all_goals rfl
 refine cJ hs ?_
 exact bV (ud o aq k)
 refine sg<|Pl 4<|nt<|cb ((decide (((b.length:Nat) : Int)<9))) (fun i=>?_) (fun i=>?_)
 have ar:=of_decide_eq_true i
 refine sg<|Pl 1<|L0<|b6 d #[.int .u8 0,.int .u16 0,.int .u8 0,.int .u8 0,.int .u16 0,.int .u16 0,.int .u16 0,.int .u16 0,.int .u16 0,.int .u16 0,.int .u16 0,.int .u16 0,.int .u16 0,.int .u16 0,.slice none 0 0,.slice none 0 0,.slice none 0 0,.slice none 0 0,.int .u8 0,.int .u8 0,.int .u8 0,.int .u8 0,.int .u8 0,.slice none 0 0] fun bA au av=>Pl 1<|nt<|rt<|br<|tr<|c7 au (.int .i64 2)<|?_
 have hs:dp dir b=(cK.zero,2):=by
   unfold dp
   (try simp only[f,i,bs,if_true,if_false,decide_true,decide_false,cn,reduceIte])
   all_goals rfl
 refine cJ hs ?_
 exact bV (ud o av k)
 have ar:=of_decide_eq_false i
 refine sg<|Pl 4<|nt<|cb ((decide (513<((b.length:Nat) : Int)))) (fun j=>?_) (fun j=>?_)
 have aw:=of_decide_eq_true j
 refine sg<|Pl 1<|L0<|b6 d #[.int .u8 0,.int .u16 0,.int .u8 0,.int .u8 0,.int .u16 0,.int .u16 0,.int .u16 0,.int .u16 0,.int .u16 0,.int .u16 0,.int .u16 0,.int .u16 0,.int .u16 0,.int .u16 0,.slice none 0 0,.slice none 0 0,.slice none 0 0,.slice none 0 0,.int .u8 0,.int .u8 0,.int .u8 0,.int .u8 0,.int .u8 0,.slice none 0 0] fun bB aA aC=>Pl 1<|nt<|rt<|br<|tr<|c7 aA (.int .i64 3)<|?_
 have hs:dp dir b=(cK.zero,3):=by
   unfold dp
   (try simp only[f,i,j,bs,if_true,if_false,decide_true,decide_false,cn,reduceIte])
   all_goals rfl
 refine cJ hs ?_
 exact bV (ud o aC k)
 have aw:=of_decide_eq_false j
 refine sk<|bn<|tn<|sg<|Pl 1<|?_
 have Q:=aL.old hsl0 o
 refine L0<|fN (.string (strOfNums b)) (bQ (A:=A) (n:=b.length) (c:=cp) rfl (by kernel_rfl) Tryz.underlying27 Tryz.underlying5 Tryz.underlying9 Q)<|?_
 rcases hds:fy b with _|sd
 have aF:=gF (w:=X) (aL.range Q) hb (by omega)
 have aG:=aF.mono (qX hds)
 refine L0<|Oc (args:=#[.string (strOfNums b)])<|e1 aG fun bC bE a1=>Pl 5<|nt<|sq<|sg<|Pl 2<|nt<|c1<|sg<|Pl 1<|?_
 refine L0<|b6 (ub a1 d) #[.int .u8 0,.int .u16 0,.int .u8 0,.int .u8 0,.int .u16 0,.int .u16 0,.int .u16 0,.int .u16 0,.int .u16 0,.int .u16 0,.int .u16 0,.int .u16 0,.int .u16 0,.int .u16 0,.slice none 0 0,.slice none 0 0,.slice none 0 0,.slice none 0 0,.int .u8 0,.int .u8 0,.int .u8 0,.int .u8 0,.int .u8 0,.slice none 0 0] fun bG aH aI=>Pl 1<|nt<|rt<|tr<|c7 aH (.int .i64 12)<|?_
 have hs:dp dir b=(cK.zero,12):=by
   unfold dp
   (try simp only[f,i,j,bs,if_true,if_false,decide_true,decide_false,cn,hds,reduceIte])
   all_goals rfl
 refine cJ hs ?_
 exact bV (ud o (uz a1 aI) k)
 have hsl:=pD hds
 have hsd:dm sd:=mT hr hds
 have aJ:=gF (w:=X) (aL.range Q) hb (by omega)
 have aK:=aJ.mono (rJ hds)
 refine L0<|Oc (args:=#[.string (strOfNums b)])<|m1 aK fun a2 l=>Pl 5<|nt<|sq<|sg<|Pl 2<|nt<|c0<|bD<|sq<|?_
 refine go<|Pl 1<|?_
 have a3:=aE o l
 rcases hth:bF sd with _|x
 have aM:=(iR (w:=a2) hsd (by omega)).mono (p8 hth)
 refine L0<|Oc<|m1 aM fun bH a4=>Pl 5<|nt<|sq<|sg<|Pl 2<|nt<|c1<|sg<|Pl 2<|?_
 refine L0<|b6 (ub (aE l a4) d) #[.int .u8 0,.int .u16 0,.int .u8 0,.int .u8 0,.int .u16 0,.int .u16 0,.int .u16 0,.int .u16 0,.int .u16 0,.int .u16 0,.int .u16 0,.int .u16 0,.int .u16 0,.int .u16 0,.slice none 0 0,.slice none 0 0,.slice none 0 0,.slice none 0 0,.int .u8 0,.int .u8 0,.int .u8 0,.int .u8 0,.int .u8 0,.slice none 0 0] fun bI aN aP=>Pl 1<|nt<|rt<|tr<|c7 aN (.int .i64 11)<|?_
 have hs:dp dir b=(cK.zero,11):=by
   unfold dp
   (try simp only[f,i,j,bs,if_true,if_false,decide_true,decide_false,cn,hds,hth,reduceIte])
   all_goals rfl
 refine cJ hs ?_
 exact bV (ud a3 (uz a4 aP) k)
 have hxl:=nQ hth
 have aQ:=(iR (w:=a2) hsd (by omega)).mono (oQ hth)
 refine L0<|Oc<|pu aQ fun R J bJ S bK bL a5=>Pl 5<|nt<|sq<|sg<|Pl 2<|nt<|c0<|bD<|sq<|?_
 refine sg<|Pl 1<|L0<|Oc (args:=#[.slice R x.length J])<|m1 (od (S).rd) fun aR T=>Pl 1<|nt<|?_
 have G:=aE a5 T
 have a6:=aE a3 G
 refine cb ((!(eX x))) (fun p=>?_) (fun p=>?_)
 have L:(eX x)=false:=by simpa using p
 refine sg<|Pl 1<|?_
 refine L0<|b6 (ub (aE l G) d) #[.int .u8 0,.int .u16 0,.int .u8 0,.int .u8 0,.int .u16 0,.int .u16 0,.int .u16 0,.int .u16 0,.int .u16 0,.int .u16 0,.int .u16 0,.int .u16 0,.int .u16 0,.int .u16 0,.slice none 0 0,.slice none 0 0,.slice none 0 0,.slice none 0 0,.int .u8 0,.int .u8 0,.int .u8 0,.int .u8 0,.int .u8 0,.slice none 0 0] fun bN aS aT=>Pl 1<|nt<|rt<|tr<|c7 aS (.int .i64 10)<|?_
 have hs:dp dir b=(cK.zero,10):=by
   unfold dp
   (try simp only[f,i,j,p,L,bs,if_true,if_false,decide_true,decide_false,cn,hds,hth,reduceIte])
   all_goals rfl
 refine cJ hs ?_
 exact bV (ud a6 aT k)
 have L:(eX x)=true:=by simpa using p
 refine bD<|sg<|Pl 4<|L0<|Oi (((x.length:Nat) : Int)-1)<|kV (mg (P:=Tryz.prog) 27 5 1 Tryz.underlying27 rfl rfl R x.length J (lo:=1) (up:=(((x.length:Nat) : Int)-1)) 1 (((((x.length:Nat) : Int)-1)).toNat) (by omega) (by omega) (by omega) (by omega) (by omega)) fun aV hrun79 aW=>L0<|fN (.slice aV ((((((x.length:Nat) : Int)-1)).toNat)-1) (J-1)) (iN (kl:=.i64) (kh:=.i64) (lo:=1) (hi:=(((x.length:Nat) : Int)-1)) (A:=R) (n:=x.length) (c:=J) rfl Tryz.underlying27 (by kernel_rfl) (by kernel_rfl) (by kernel_rfl) (hrun79 _ _ _))<|?_
 obtain⟨a,H,U⟩ : ∃ M E,cj dir ((x.take (((((x.length:Nat) : Int)-1)).toNat)).drop 1)=(M,E):=⟨_,_,rfl⟩
 have a7:=am S T (fun x hx=>ay) (fun _ _ h=>h)
 have a8:=fV (dir:=dir) (w:=aR) (aW _ _ _ _ _ (a7).rd) (by rw[List.length_drop,List.length_take];omega)
 rw[U] at a8
 refine L0<|Oc<|e2 a8 fun aX bO a9 V=>?_
 have aY:=a9
 obtain⟨aZ,b0,b1,b2,b3,b4,b5,b7,ba,bb,bc,bP⟩:=aY
 obtain rfl:aX=(dA a aZ b0 b1 b2 b3).toArray:=by apply Array.toList_inj.1;simpa using b4
 obtain⟨q,r,rfl,_,_⟩:=b5.shape
 obtain⟨s,t,rfl,_,_⟩:=b7.shape
 obtain⟨u,v,rfl,_,_⟩:=ba.shape
 obtain⟨y,z,rfl,_,_⟩:=bb.shape
 obtain⟨B,C,rfl,_,_⟩:=bc.shape
 refine Pl 3<|L0<|bz mZ fun ab bR ac bd be=>L0<|b6 bd (mG a.code a.fail a.addr a.count a.value a.and_ a.or_ a.addr2 a.sub a.status a.events a.messages (.slice q a.words.length r) (.slice s a.bits.length t) (.slice u a.data.length v) (.slice y a.recs.length z) a.mei a.kind a.level a.more a.next (.slice B a.objects.length C)) fun bS bf bg=>Pl 1<|nt<|sq<|sg<|Pl 2<|nt<|?_
 have ad:=ud be bg ac
 have N:=aE V ad
 have ae:=aE a6 N
 refine cb ((H != 0)) (fun I=>?_) (fun I=>?_)
 have bh:=ax I
 refine sg<|Pl 2<|?_
 refine L0<|b6 (ub (aE l (aE G N)) d) #[.int .u8 0,.int .u16 0,.int .u8 0,.int .u8 0,.int .u16 0,.int .u16 0,.int .u16 0,.int .u16 0,.int .u16 0,.int .u16 0,.int .u16 0,.int .u16 0,.int .u16 0,.int .u16 0,.slice none 0 0,.slice none 0 0,.slice none 0 0,.slice none 0 0,.int .u8 0,.int .u8 0,.int .u8 0,.int .u8 0,.int .u8 0,.slice none 0 0] fun bT bi bj=>Pl 1<|nt<|rt<|tr<|c7 bi (.int .i64 H)<|?_
 have hX2:cj dir (ft x)=(a,H):=(congrArg (cj dir) (gJ x)).trans U
 have hs:dp dir b=(cK.zero,H):=by
   unfold dp
   (try simp only[f,i,j,p,L,I,bs,if_true,if_false,decide_true,decide_false,cn,hds,hth,hX2,reduceIte])
   all_goals rfl
 refine cJ hs ?_
 exact bV (ud ae bj k)
 have bh:=ag I
 refine bD<|sq<|?_
 have af:=am a7 N (fun x hx=>ay) (fun _ _ h=>h)
 refine fA (aL.at_ (af).rd 0 (by omega)) fun bm bo ai bp bU=>Rg 8 (fun w'=>w'.cell? ⟨bm,bo+0,none⟩=some (.int .u8 (x.getD 0 0))∧w'.heap[ab]? = some (.cells (mG a.code a.fail a.addr a.count a.value a.and_ a.or_ a.addr2 a.sub a.status a.events a.messages (.slice q a.words.length r) (.slice s a.bits.length t) (.slice u a.data.length v) (.slice y a.recs.length z) a.mei a.kind a.level a.more a.next (.slice B a.objects.length C)) 31 (0,0))) fun bW O=>?_
 have ak:=ub O bf
 refine b9 ⟨(uc O bp),ak⟩ fun D=>Rt 0 D<|lN 1 D x.length 0 0 rfl ai (by omega)<|Rl 2 D (fun _ hs=>hs.1)<|Rt 3 D<|Rr 4 D (.agg (mG a.code a.fail a.addr a.count a.value a.and_ a.or_ a.addr2 a.sub a.status a.events a.messages (.slice q a.words.length r) (.slice s a.bits.length t) (.slice u a.data.length v) (.slice y a.recs.length z) a.mei a.kind a.level a.more a.next (.slice B a.objects.length C))) (fun w' hs=>mz (g:=ab) (off:=0) [.int .u8 a.code,.int .u8 a.fail,.int .u16 a.addr,.int .u16 a.count,.int .u16 a.value,.int .u16 a.and_,.int .u16 a.or_,.int .u16 a.addr2,.int .u16 a.sub,.int .u16 a.status,.int .u16 a.events,.int .u16 a.messages,.slice q a.words.length r,.slice s a.bits.length t,.slice u a.data.length v,.slice y a.recs.length z,.int .u8 a.mei,.int .u8 a.kind,.int .u8 a.level,.int .u8 a.more,.int .u8 a.next,.slice B a.objects.length C] rfl (by kernel_rfl) hs.2 (by kernel_rfl) (by kernel_rfl) rfl)<|Rt 5 D<|?_
 refine R0 6 rfl<|b6 (ub (aE l (aE G (aE N O))) d) #[.int .u8 (x.getD 0 0),.int .u16 0,.int .u8 a.code,.int .u8 a.fail,.int .u16 a.addr,.int .u16 a.count,.int .u16 a.value,.int .u16 a.and_,.int .u16 a.or_,.int .u16 a.addr2,.int .u16 a.sub,.int .u16 a.status,.int .u16 a.events,.int .u16 a.messages,.slice q a.words.length r,.slice s a.bits.length t,.slice u a.data.length v,.slice y a.recs.length z,.int .u8 a.mei,.int .u8 a.kind,.int .u8 a.level,.int .u8 a.more,.int .u8 a.next,.slice B a.objects.length C] fun bX bq al=>?_
 have W:=uz O al
 refine b9 ⟨(cB ((am af W (fun x hx=>(aa (fun e=>(ap (aj d) l.size S) (e▸hx)) ay)) (fun _ _ h=>h))).rd ai 0 (by omega)),(aO al (Ne.symm (nb (aj d) (le (le (le l.size a5.size) T.size) V.size) ac)) ak)⟩ fun bt=>Rt 7 bt<|re<|tn<|rt<|c7 bq (.int .i64 0)<|?_
 have hX2:cj dir (ft x)=(a,H):=(congrArg (cj dir) (gJ x)).trans U
 have hs:dp dir b=(⟨(x.getD 0 0),0,a⟩,0):=by
   unfold dp
   (try simp only[f,i,j,p,L,I,bs,if_true,if_false,decide_true,decide_false,cn,hds,hth,hX2,reduceIte])
   all_goals rfl
 refine cJ hs ?_
 exact⟨_,rfl,⟨#[.int .u8 a.code,.int .u8 a.fail,.int .u16 a.addr,.int .u16 a.count,.int .u16 a.value,.int .u16 a.and_,.int .u16 a.or_,.int .u16 a.addr2,.int .u16 a.sub,.int .u16 a.status,.int .u16 a.events,.int .u16 a.messages,.slice q a.words.length r,.slice s a.bits.length t,.slice u a.data.length v,.slice y a.recs.length z,.int .u8 a.mei,.int .u8 a.kind,.int .u8 a.level,.int .u8 a.more,.int .u8 a.next,.slice B a.objects.length C],(by as_aux_lemma=>kernel_rfl),(aU.upd a9 (uz ad W) (ah (aD (ub (aE l (aE G V)) d) (by decide)) az)),b8 (x:=(x.getD 0 0)) (by omega),aB (x:=0) (by omega)⟩,(ud ae W k)⟩
theorem mX{m:Bool}{v:Value}{b:List Int}{w:World}{dir:Int}(h:aL m w v b)(hb:b.length≤1048576) : Calls Tryz.prog 171 #[.int .i64 dir,v] w (j3 (dp dir b) w):=by
  obtain⟨A,cp,rfl,_,_⟩:=h.shape
  exact lG h hb
open Go.RowKit
theorem ln.weaken{base base':Nat}{w:World}{v:Value}{xs:List Int}(h:ln base w v xs)(k:base'≤base) : ln base' w v xs:=by
  obtain⟨g,cap,cur,n,h1,h2,h3⟩:=h
  exact⟨g,cap,cur,n,h1,Nat.le_trans k h2,h3⟩
open Go.RowKit
theorem g9{m:Bool}{v:Value}{b:List Int}{w:World}{dir:Int}{F:cK}{E:Int}(hX:dp dir b=(F,E))(h:aL m w v b)(hb:b.length≤1048576) : Calls Tryz.prog 171 #[.int .i64 dir,v] w (fun e w'=>∃ x,e = .returned (.tuple #[.agg (nK F.unit F.tid F.msg x),.int .i64 E])∧(aU true w' (oy F.msg x).toList F.msg∧(0≤F.unit∧F.unit<256)∧(0≤F.tid∧F.tid<65536))∧aq [] w w'):=by
  refine(mX h hb).mono ?_
  rintro e w' ⟨cs,rfl,h1,h2⟩
  rw[hX] at h1 ⊢
  obtain⟨c,rfl,h3,h4,h5⟩:=h1
  obtain⟨x,rfl⟩:=kZ h3
  exact⟨x,by rw[gP],⟨h3,h4,h5⟩,h2⟩
open Go.RowKit
theorem qB{P:Program}{w:World}{t e:TypeId}{g n c:Nat}{C:Array Value}(ht:P.underlying t=some (.slice e))(he:P.underlying e=some (.int .u8))(hb:w.heap[g]? = some (.cells C e (0,0))) :
    ∃ w2,(convert t t (.slice (some ⟨g,0,none⟩) n c)).run P w = .ok (.slice (some ⟨g,0,none⟩) n c) w2∧w2.heap[g]? = some (.cells C e (C.size,C.size+1))∧aq [g] w w2:=by
  have hsh:w.shape? g=some (e,C.size):=by
    unfold World.shape?
    rw[hb]
  refine⟨w.freeze ⟨g,C.size,none⟩ 1,?_,?_,?_⟩
  · simp[convert,run_underlying ht,run_underlying he,markStringish,hsh]
  · unfold World.freeze
    rw[if_neg (by decide)]
    simp[Array.getElem?_modify,hb]
  · unfold World.freeze
    rw[if_neg (by decide)]
    refine⟨rfl,rfl,rfl,by simp,fun k hk hn=>?_⟩
    have hne:¬ g=k:=fun q=>hn (by rw[q];exact List.mem_singleton.2 rfl)
    simp[Array.getElem?_modify,hne]
theorem qu{w:World}{g:Nat}{C:Array Value}{fr:Nat × Nat}{xs:List Int}(hb:w.heap[g]? = some (.cells C 5 fr))(hC:C=(xs.map (Value.int .u8)).toArray)(hr:∀ x,x∈xs→0≤x∧x<256)(hl:xs.length≤4194304) : aL true w (.slice (some ⟨g,0,none⟩) xs.length xs.length) xs:=by
  refine⟨_,xs.length,rfl,Nat.le_refl _,by unfold maxLen;omega,(fun h=>by cases h),fun _=>⟨g,0,C,_,fr,rfl,hb,fun _=>rfl,fun j x hj=>?_⟩⟩
  refine⟨[.int .u8 x],rfl,⟨rfl,hr x (List.mem_of_getElem? hj)⟩,fun i u hi=>?_⟩
  cases i with
  | succ i=>simp at hi
  | zero =>
    have hi:Value.int .u8 x=u:=by simpa using hi
    subst hi
    subst hC
    simp only[Nat.zero_add,Nat.mul_one,Nat.add_zero]
    rw[List.getElem?_toArray,List.getElem?_map,hj]
    rfl
section
variable {P:Program}{n:Nat}{D:List Deferred}{F:Fr}{w:World}{K:Fr→World→Prop}{Q:Exit→Act→World→Prop}{d:Option Tmp}{t:TypeId}{s:String}{af:Array Edge}{gu:Option (Nat × Bool)}
theorem uB{ty e:TypeId}{x:Operand}{g m c:Nat}{C:Array Value}(hb:w.heap[g]? = some (.cells C e (0,0)))(h:∀ w',w'.heap[g]? = some (.cells C e (C.size,C.size+1))→aq [g] w w'→K (pt d (.slice (some ⟨g,0,none⟩) m c) F) w')
    (hx:cU F x=some (.slice (some ⟨g,0,none⟩) m c):=by kernel_rfl) (hs:(jK P ty,P.underlying e,dq n d)=(some e,some (.int .u8),true):=by kernel_rfl) : OG P ⟨d,.convert ty ty x,t,s,af,gu⟩ n D F w K Q:=by
  simp only[Prod.mk.injEq] at hs
  obtain⟨h1,h2,h3⟩:=hs
  obtain⟨w2,hr,hB,hu⟩:=qB (n:=m) (c:=c) (cY h1) h2 hb
  refine⟨fun a ha K' hK=>OW.mk ?_⟩
  have hx':=ha.ev hx
  unfold Oper.wp execOp
  simp only[hx',Sem.run_bind,Sem.run_pure,hr,Result.andThen_ok]
  exact hK _ _ _ (h w2 hB hu) (ha.put h3)
end
open Go.RowKit
structure SA where
  dir:Int
  held:List Int
abbrev vP (S:SA) (A:Option Addr) (cp:Nat) : Array Value:=#[.int .i64 S.dir,.slice A S.held.length cp]
abbrev ql (w:World) (g:Nat) (S:SA) (A:Option Addr) (cp:Nat) : Prop:=w.heap[g]? = some (.cells (vP S A cp) 129 (0,0))
def SA.tail (d:Int)(h:List Int) : SA × List Ev:=if decide (513<((h.length:Nat) : Int))=true then (⟨d,[]⟩,[Ev.bad 3]) else if f3 h [13,10]=true then (⟨d,[]⟩,[Ev.mk (dp d h).2 (dp d h).1]) else (⟨d,h⟩,[])
def SA.byte (S:SA)(c:Int) : SA × List Ev:=if ((c==58)&&(decide (0<((S.held.length:Nat) : Int))))=true then (⟨S.dir,[58]⟩,[Ev.bad 12]) else if ((c != 58)&&(((S.held.length:Nat) : Int)==0))=true then (S,[]) else SA.tail S.dir (S.held++[c])
def SA.feed (S:SA)(b:List Int) : SA × List Ev:=b.foldl (fun p c=>((p.1.byte c).1,p.2++(p.1.byte c).2)) (S,[])
def SA.ok (S:SA) : Prop:=(∀ x,x∈S.held→0≤x∧x<256)∧S.held.length≤513
theorem SA.ok_le{S:SA}(h:S.ok) : S.held.length≤513:=h.2
theorem SA.byte_ok{S S2:SA}{c:Int}{L2:List Ev}(h:S.ok)(hc:0≤c∧c<256)(hx:S.byte c=(S2,L2)) : S2.ok∧L2.length≤1:=by
  have h0:∀ d,(SA.mk d []).ok:=fun d=>⟨fun x hx=>(by cases hx),Nat.zero_le _⟩
  unfold SA.byte at hx
  split at hx
  · injection hx with e1 e2
    subst e1 e2
    exact⟨⟨fun x hx=>(by rw[List.mem_singleton] at hx;rw[hx];decide),(by show 1≤513;decide)⟩,Nat.le_refl _⟩
  split at hx
  · injection hx with e1 e2
    subst e1 e2
    exact⟨h,Nat.zero_le _⟩
  unfold SA.tail at hx
  split at hx
  · injection hx with e1 e2
    subst e1 e2
    exact⟨h0 _,Nat.le_refl _⟩
  rename_i hl
  split at hx
  · injection hx with e1 e2
    subst e1 e2
    exact⟨h0 _,Nat.le_refl _⟩
  · injection hx with e1 e2
    subst e1 e2
    refine⟨⟨fun x hx=>?_,?_⟩,Nat.zero_le _⟩
    · rcases List.mem_append.1 hx with k | k
      · exact h.1 x k
      · rw[List.mem_singleton] at k;rw[k];exact hc
    · simp only[decide_eq_true_eq] at hl
      show(S.held++[c]).length≤513
      omega
theorem fl{S0 T T2:SA}{L L2:List Ev}{b:List Int}{k:Nat}(hk:k<b.length)(h:(T,L)=S0.feed (b.take k))(hx:T.byte (b.getD k 0)=(T2,L2)) : (T2,L++L2)=S0.feed (b.take (k+1)):=by
  rw[List.take_succ_eq_append_getElem hk]
  unfold SA.feed at h ⊢
  rw[List.foldl_append,← h]
  rw[List.getD_eq_getElem?_getD,List.getElem?_eq_getElem hk] at hx
  simp only[Option.getD_some] at hx
  simp only[List.foldl_cons,List.foldl_nil,hx]
theorem jU{S0 T T2:SA}{L:List Ev}{b:List Int}{k:Nat}(hk:k<b.length)(h:(T,L)=S0.feed (b.take k))(hx:T.byte (b.getD k 0)=(T2,[])) : (T2,L)=S0.feed (b.take (k+1)):=by
  have:=fl hk h hx
  rwa [List.append_nil] at this
theorem tI{T:SA}{c:Int}(h:((c==58)&&(decide (0<((T.held.length:Nat) : Int))))=true) : T.byte c=(⟨T.dir,[58]⟩,[Ev.bad 12]):=by unfold SA.byte;rw[if_pos h]
theorem tG{T:SA}{c:Int}(h:((c==58)&&(decide (0<((T.held.length:Nat) : Int))))=false)(h2:((c != 58)&&(((T.held.length:Nat) : Int)==0))=true) : T.byte c=(T,[]):=by unfold SA.byte;rw[if_neg (by rw[h];decide),if_pos h2]
theorem u0{T:SA}{c:Int}(h:((c==58)&&(decide (0<((T.held.length:Nat) : Int))))=false)(h2:((c != 58)&&(((T.held.length:Nat) : Int)==0))=false)(h3:decide (513<(((T.held++[c]).length:Nat) : Int))=true) : T.byte c=(⟨T.dir,[]⟩,[Ev.bad 3]):=by unfold SA.byte;rw[if_neg (by rw[h];decide),if_neg (by rw[h2];decide)];unfold SA.tail;rw[if_pos h3]
theorem rQ{T:SA}{c:Int}{F:cK}{E:Int}(h:((c==58)&&(decide (0<((T.held.length:Nat) : Int))))=false)(h2:((c != 58)&&(((T.held.length:Nat) : Int)==0))=false)(h3:decide (513<(((T.held++[c]).length:Nat) : Int))=false)(h4:f3 (T.held++[c]) [13,10]=true)(hX:dp T.dir (T.held++[c])=(F,E)) : T.byte c=(⟨T.dir,[]⟩,[Ev.mk E F]):=by unfold SA.byte;rw[if_neg (by rw[h];decide),if_neg (by rw[h2];decide)];unfold SA.tail;rw[if_neg (by rw[h3];decide),if_pos h4,hX]
theorem tu{T:SA}{c:Int}(h:((c==58)&&(decide (0<((T.held.length:Nat) : Int))))=false)(h2:((c != 58)&&(((T.held.length:Nat) : Int)==0))=false)(h3:decide (513<(((T.held++[c]).length:Nat) : Int))=false)(h4:f3 (T.held++[c]) [13,10]=false) : T.byte c=(⟨T.dir,T.held++[c]⟩,[]):=by unfold SA.byte;rw[if_neg (by rw[h];decide),if_neg (by rw[h2];decide)];unfold SA.tail;rw[if_neg (by rw[h3];decide),if_neg (by rw[h4];decide)]
def vX (base n0:Nat)(S2:SA)(L:List Ev)(g:Nat)(A:Option Addr)(w:World)(e:Ending)(w':World) : Prop:=∃ v A2 cp2 n2,e = .returned v∧ck n2 w.heap.size w' v L∧ql w' g S2 A2 cp2∧cI base w' (.slice A2 S2.held.length cp2) S2.held∧(∀ x,x∈ob A2→x∈ob A∨w.heap.size≤x)∧(n0≤n2∧n2≤w'.heap.size)∧(∀ x,x∈ob A2→n2≤x)∧aq (g :: (ob A++[])) w w'
theorem fW{b:List Int}(h:∀ x,x∈b→0≤x∧x<256)(k:Nat) : 0≤b.getD k 0∧b.getD k 0<256:=by
  rw[List.getD_eq_getElem?_getD]
  cases hj:b[k]? with
  | none=>simp
  | some x=>exact h x (List.mem_of_getElem? hj)
theorem nT{w:World}:Calls Tryz.prog 47 #[.int .i64 0] w (fun e w'=>∃ g,e = .returned (.pointer (some ⟨g,0,none⟩))∧w.heap.size≤g∧ql w' g ⟨0,[]⟩ none 0∧aq [] w w'):=by
 refine en 12 Tryz.func47 rfl<|sg<|Pl 1<|nt<|sq<|sg<|Pl 6<|nt<|c0<|sk<|?_
 refine tn<|sg<|Pl 2<|L0<|cP #[.int .i64 0,.slice none 0 0] fun a f b c d=>Pl 1<|nt<|rt<|rr (.pointer (some ⟨a,0,none⟩))<|?_
 exact⟨a,rfl,b,c,d⟩
theorem mP{w:World}:Calls Tryz.prog 47 #[.int .i64 1] w (fun e w'=>∃ g,e = .returned (.pointer (some ⟨g,0,none⟩))∧w.heap.size≤g∧ql w' g ⟨1,[]⟩ none 0∧aq [] w w'):=by
 refine en 12 Tryz.func47 rfl<|sg<|Pl 1<|nt<|sq<|sg<|Pl 6<|nt<|c0<|sk<|?_
 refine tn<|sg<|Pl 2<|L0<|cP #[.int .i64 1,.slice none 0 0] fun a f b c d=>Pl 1<|nt<|rt<|rr (.pointer (some ⟨a,0,none⟩))<|?_
 exact⟨a,rfl,b,c,d⟩
theorem oq{w:World}{g:Nat}{S:SA}{A:Option Addr}{cp:Nat}(hb:ql w g S A cp)(hr:aL true w (.slice A S.held.length cp) S.held) : Calls Tryz.prog 169 #[.pointer (some ⟨g,0,none⟩)] w (bg (.int .i64 ((S.held.length:Nat) : Int)) w):=by
 have hcm:=aG.len hr
 refine en 8 Tryz.func169 rfl<|sg<|Pl 1<|ng<|Pl 3<|L0<|aR hb 1<|Pl 2<|nt<|rt<|?_
 refine rr (.int .i64 ((S.held.length:Nat) : Int))<|?_
 exact⟨rfl,(aq.refl [] _)⟩
theorem l8{w:World}{g base:Nat}{S:SA}{A:Option Addr}{cp:Nat}{m:Bool}{B:Option Addr}{cpb:Nat}{b:List Int}(hb:ql w g S A cp)(ho:cI base w (.slice A S.held.length cp) S.held)(hbs:base≤w.heap.size)(hok0:S.ok){n0:Nat}(hn0:n0≤w.heap.size)(hlo:∀ x,x∈ob A→n0≤x)(hsl:aL m w (.slice B b.length cpb) b)(hdg:0<b.length→∀ x,x∈ob B→x≠g)(hda:iu b.length B (ob A))(hbl:b.length≤1048576) :
    Calls Tryz.prog 168 #[.pointer (some ⟨g,0,none⟩),.slice B b.length cpb] w (vX base n0 (S.feed b).1 (S.feed b).2 g A w):=by
 have hdl:=aG.low hsl
 have hok0l:=SA.ok_le hok0
 have hrb:=aL.range hsl
 refine en 98 Tryz.func168 rfl<|sg<|Pl 1<|nt<|vK<|sg<|Pl 1<|nt<|sq<|w8<|?_
 refine tn<|sq<|sg<|Pl 3<|nt<|bk<|?_
 refine g7 (fun x=>[(0,.pointer (some ⟨g,0,none⟩)),(4,.slice none 0 0),(5,.slice x.2.2.2.2.2.1 x.2.2.1.length x.2.2.2.2.2.2.1),(10,.slice B b.length cpb),(11,.int .i64 ((b.length:Nat) : Int)),(12,.int .i64 ((x.1:Nat) : Int))]) (fun(x:Nat × SA × List Ev × Option Addr × Nat × Option Addr × Nat × Nat) w'=>aq (g :: (ob A++[])) w w'∧ql w' g x.2.1 x.2.2.2.1 x.2.2.2.2.1∧cI base w' (.slice x.2.2.2.1 x.2.1.held.length x.2.2.2.2.1) x.2.1.held∧ck x.2.2.2.2.2.2.2 w.heap.size w' (.slice x.2.2.2.2.2.1 x.2.2.1.length x.2.2.2.2.2.2.1) x.2.2.1∧x.2.2.2.2.2.2.2≤w'.heap.size∧aL m w' (.slice B b.length cpb) b∧((x.2.1,x.2.2.1)=S.feed (b.take x.1))∧(x.2.1.ok)∧(x.2.1.held.length≤513)∧(x.1≤b.length)∧(x.2.2.1.length≤x.1)∧(∀ y,y∈ob x.2.2.2.1→y∈ob A∨w.heap.size≤y)∧(n0≤x.2.2.2.2.2.2.2)∧(∀ y,y∈ob x.2.2.2.1→x.2.2.2.2.2.2.2≤y)) (fun x=>b.length-x.1) (0,S,[],A,cp,none,0,n0) ⟨aq.refl _ _,hb,ho,(aN.nil w.heap.size _ _ (aZ n0) _),(Nat.le_trans hn0 lr),hsl,rfl,hok0,hok0l,(by(try dsimp only);exact Nat.zero_le _),(by(try dsimp only);exact Nat.zero_le _),fC,(by(try dsimp only);exact Nat.le_refl _),hlo⟩ ?_
 rintro⟨k,T,L,Ah,ch,Bq,cq,n⟩ H ⟨d,cj,cl,cm,cn,co,cr,ct,cv,cw,cx,cy,cz,cA⟩
 refine fZ [(0,.pointer (some ⟨g,0,none⟩)),(4,.slice none 0 0),(5,.slice Bq L.length cq),(10,.slice B b.length cpb),(11,.int .i64 ((b.length:Nat) : Int)),(12,.int .i64 ((k:Nat) : Int))] ?_
 have f:ql H g T Ah ch:=cj
 have r:cI base H (.slice Ah T.held.length ch) T.held:=cl
 have a:ck n w.heap.size H (.slice Bq L.length cq) L:=cm
 have cB:n≤H.heap.size:=cn
 have hnl:=cB
 have z:aL m H (.slice B b.length cpb) b:=co
 have cC:(T,L)=S.feed (b.take k):=cr
 have cD:T.ok:=ct
 have dV:T.held.length≤513:=cv
 have dW:k≤b.length:=cw
 have dX:L.length≤k:=cx
 have cE:∀ y,y∈ob Ah→y∈ob A∨w.heap.size≤y:=cy
 have cF:n0≤n:=cz
 have cG:∀ y,y∈ob Ah→n≤y:=cA
 have hlow:=cG
 have hn0l:=cF
 have hat0:=cE
 have hok:=cD
 have hpj:=cC
 have hle:=SA.ok_le hok
 refine sg<|Pl 1<|nt<|sq<|cb ((decide (((k:Nat) : Int)<((b.length:Nat) : Int)))) (fun ae=>?_) (fun ae=>?_)
 have cH:=of_decide_eq_true ae
 refine bD<|sq<|bk<|sg<|fA (aL.at_ z k (by omega)) fun cJ cK cM cN dZ=>L0<|nh b.length k cM (by omega)<|L0<|iX (p:=⟨cJ,cK+k,none⟩) (v:=.int .u8 (b.getD k 0)) cN<|Pl 1<|nt<|sq<|bk<|?_
 refine sg<|Pl 3<|cu 7 [19] 26 ((((b.getD k 0)==58)&&(decide (0<((T.held.length:Nat) : Int))))) (fun K bb=>?_) ?_
 refine bl 19 (((b.getD k 0)==58)) (fun M=>?_) (fun M=>?_)
 have cO:=aA M
 exact Pl 3<|L1<|aR f 1<|Pl 3<|ce bb (decide (0<((T.held.length:Nat) : Int))) (by rw[M];rfl)
 have cO:=aH M
 exact Pl 7<|ce bb false (by rw[M];rfl)
 refine Pl 1<|nt<|cb ((((b.getD k 0)==58)&&(decide (0<((T.held.length:Nat) : Int))))) (fun l=>?_) (fun l=>?_)
 have cP:=(bM l).1
 have cR:=(bM l).2
 have e0:=aA cP
 have e1:=of_decide_eq_true cR
 refine sg<|Pl 2<|L0<|eS (m:=1) (e:=66) #[.int .i64 12,.int .u8 0,.int .u16 0,.int .u8 0,.int .u8 0,.int .u16 0,.int .u16 0,.int .u16 0,.int .u16 0,.int .u16 0,.int .u16 0,.int .u16 0,.int .u16 0,.int .u16 0,.int .u16 0,.slice none 0 0,.slice none 0 0,.slice none 0 0,.slice none 0 0,.int .u8 0,.int .u8 0,.int .u8 0,.int .u8 0,.int .u8 0,.slice none 0 0] fun e3 af cS cT i=>?_
 have cU:=j2 (w0:=H) (x:=(Ev.bad 12)) cS cT ⟨⟨none,0,none,0,none,0,none,0,none,0⟩,by kernel_rfl,je,(show(0:Int)≤0∧(0:Int)<256 from by decide),(show(0:Int)≤0∧(0:Int)<65536 from by decide)⟩
 have bc:=am a i (fun x hx=>ay) (fun x cs q=>aZ.upd i bu q)
 have cV:n≤af.heap.size:=Nat.le_trans hnl i.size
 refine L0<|ff (R:=aZ af.heap.size) (xs:=L) (ys:=([Ev.bad 12])) (.agg #[.int .i64 0,.int .u8 0,.int .u16 0,.int .u8 0,.int .u8 0,.int .u16 0,.int .u16 0,.int .u16 0,.int .u16 0,.int .u16 0,.int .u16 0,.int .u16 0,.int .u16 0,.int .u16 0,.int .u16 0,.slice none 0 0,.slice none 0 0,.slice none 0 0,.slice none 0 0,.int .u8 0,.int .u8 0,.int .u8 0,.int .u8 0,.int .u8 0,.slice none 0 0]) 25 168 (ck.up cV (Nat.le_refl _) bc) (eR.low cU).rd aZ.ones (fun w' hv x cs q=>aZ.upd hv (fk bc (by decide) bu) q) (by(try simp only[List.length_append,List.length_cons,List.length_nil,aS]);omega) (le d.size i.size) fun cX cY e4 bd C e5=>Pl 1<|ng<|Pl 1<|L0<|eS (m:=1) (e:=5) #[.int .u8 58] fun be e6 cZ d0 ak=>?_
 have W:=ia cZ (xs:=[58]) (by as_aux_lemma=>kernel_rfl) (aF (by omega) cQ) (by(try simp only[List.length_cons,List.length_nil]);omega) d0
 refine Pl 2<|?_
 have bf:=ut (aq.mono (S':=(ob Bq++[])) i av) (aE C ak) (au il av)
 refine L0<|bO (aq.blk bf (aM (ap (aj hb) lr a) ay) f) 1 #[.int .i64 T.dir,.slice (some ⟨be,0,none⟩) 1 1] fun e7 d1 X=>nt<|xt<|uh<|tx<|bx<|tn<|go<|L0<|Oi (((k:Nat) : Int)+1)<|Pl 1<|nl<|?_
 have bg:=u1 (aq.mono (S':=(ob Bq++(g :: []))) bf (au il av)) X im
 have bh:=uz ak X
 have bi:=tI (T:=T) (c:=(b.getD k 0)) l
 have bj:=SA.byte_ok hok (fW hrb k) bi
 exact dY ((k+1),(SA.mk T.dir [58]),(L++[Ev.bad 12]),some ⟨be,0,none⟩,1,cX,cY,af.heap.size) ⟨(ut d bg (au (bH a lr) (ac im av))),d1,(oM (Nat.le_trans hbs (le (le d.size i.size) C.size)) (am W X (fun x hx=>(aa (fun e=>(ap (aj hb) (le (le d.size i.size) C.size) W) (e▸hx)) ay)) (fun _ _ h=>h))),(am bd bh (fun x hx=>(aa (fun e=>(ap (aj hb) lr bd) (e▸hx)) ay)) (fun x cs q=>aZ.upd bh (dk (aq.blk (ut (aq.mono (S':=(ob Bq++[])) i av) C (au il av)) (aM (ap (aj hb) lr a) ay) f) (by decide) bu) q)),(le (le C.size ak.size) X.size),(aL.far z bg (ca (dL hdl a (Nat.le_refl _)) (cL hdg db))),(by(try dsimp only);exact fl (by omega) hpj bi),(by(try dsimp only);exact bj.1),(by(try dsimp only);have q:=SA.ok_le bj.1;exact q),(by(try dsimp only);omega),(by(try dsimp only);(try simp only[List.length_append,List.length_cons,List.length_nil]);omega),(by(try dsimp only);exact(rK W (le (le d.size i.size) C.size))),(by(try dsimp only);exact Nat.le_trans hn0l (Nat.le_trans hnl i.size)),(by(try dsimp only);exact(qQ W C.size))⟩ (by omega)
 refine sg<|Pl 3<|cu 7 [38] 45 ((((b.getD k 0)!=58)&&(((T.held.length:Nat) : Int)==0))) (fun K bm=>?_) ?_
 refine bl 38 (((b.getD k 0)!=58)) (fun N=>?_) (fun N=>?_)
 have d2:=ax N
 exact Pl 3<|L1<|aR f 1<|Pl 3<|ce bm (((T.held.length:Nat) : Int)==0) (by rw[N];rfl)
 have d2:=ag N
 exact Pl 7<|ce bm false (by rw[N];rfl)
 refine Pl 1<|nt<|cb ((((b.getD k 0)!=58)&&(((T.held.length:Nat) : Int)==0))) (fun s=>?_) (fun s=>?_)
 have d3:=(bM s).1
 have d4:=(bM s).2
 have e8:=ax d3
 have e9:=aA d4
 refine xt<|uh<|tx<|bx<|tn<|go<|L0<|Oi (((k:Nat) : Int)+1)<|Pl 1<|nl<|?_
 have bo:=tG (T:=T) (c:=(b.getD k 0)) l s
 have bp:=SA.byte_ok hok (fW hrb k) bo
 exact dY ((k+1),T,L,Ah,ch,Bq,cq,n) ⟨d,f,r,a,(Nat.le_trans hnl lr),z,(by(try dsimp only);exact jU (by omega) hpj bo),(by(try dsimp only);exact bp.1),(by(try dsimp only);have q:=SA.ok_le bp.1;exact q),(by(try dsimp only);omega),(by(try dsimp only);(try simp only[List.length_append,List.length_cons,List.length_nil]);omega),(by(try dsimp only);exact hat0),(by(try dsimp only);exact hn0l),(by(try dsimp only);exact hlow)⟩ (by omega)
 refine sk<|bn<|tn<|sg<|Pl 4<|L0<|aR f 1<|Pl 1<|L0<|eS (m:=1) (e:=5) #[.int .u8 (b.getD k 0)] fun ea eb d5 d6 j=>?_
 have d7:=ia d5 (xs:=[(b.getD k 0)]) (by as_aux_lemma=>kernel_rfl) (aF (by omega) cQ) (by(try simp only[List.length_cons,List.length_nil]);omega) d6
 refine L0<|ff (R:=kO) (xs:=T.held) (ys:=([(b.getD k 0)])) (.int .u8 0) 1 1 (am r j (fun x hx=>ay) (fun _ _ h=>h)) (d7).rd mI (fun _ _ _ _ h=>h) (by(try simp only[List.length_append,List.length_cons,List.length_nil,aS]);omega) (Nat.le_trans hbs (le d.size j.size)) fun Y Z ec bq I br=>Pl 2<|?_
 have bs:=ut (aq.mono (S':=(ob Ah++[])) j av) I (au il av)
 have bt:=aq.blk bs (aM (bJ f r (by decide)) ay) f
 refine L0<|bO bt 1 #[.int .i64 T.dir,.slice Y ((T.held++[(b.getD k 0)]).length) Z] fun d8 O D=>nt<|sq<|bk<|sg<|Pl 3<|L0<|aR O 1<|Pl 3<|nt<|?_
 have J:=u1 (aq.mono (S':=(ob Ah++(g :: []))) bs (au il av)) D im
 have bv:=ut d J (au (gy hat0 il lr) (ac im av))
 refine cb ((decide (513<(((T.held++[(b.getD k 0)]).length:Nat) : Int)))) (fun E=>?_) (fun E=>?_)
 have d9:=of_decide_eq_true E
 refine go<|Pl 2<|L0<|eS (m:=1) (e:=66) #[.int .i64 3,.int .u8 0,.int .u16 0,.int .u8 0,.int .u8 0,.int .u16 0,.int .u16 0,.int .u16 0,.int .u16 0,.int .u16 0,.int .u16 0,.int .u16 0,.int .u16 0,.int .u16 0,.int .u16 0,.slice none 0 0,.slice none 0 0,.slice none 0 0,.slice none 0 0,.int .u8 0,.int .u8 0,.int .u8 0,.int .u8 0,.int .u8 0,.slice none 0 0] fun ed al da dc an=>?_
 have dd:=j2 (w0:=d8) (x:=(Ev.bad 3)) da dc ⟨⟨none,0,none,0,none,0,none,0,none,0⟩,by kernel_rfl,je,(show(0:Int)≤0∧(0:Int)<256 from by decide),(show(0:Int)≤0∧(0:Int)<65536 from by decide)⟩
 have a0:=aE J an
 have bw:=am a a0 (fun x hx=>(aM ((bW a r (by decide)) x hx) (aa (fun e=>(ap (aj hb) lr a) (e▸hx)) ay))) (fun x cs q=>aZ.upd a0 (eE hlow (dk f (by decide) bu)) q)
 have de:n≤al.heap.size:=Nat.le_trans hnl a0.size
 refine L0<|ff (R:=aZ al.heap.size) (xs:=L) (ys:=([Ev.bad 3])) (.agg #[.int .i64 0,.int .u8 0,.int .u16 0,.int .u8 0,.int .u8 0,.int .u16 0,.int .u16 0,.int .u16 0,.int .u16 0,.int .u16 0,.int .u16 0,.int .u16 0,.int .u16 0,.int .u16 0,.int .u16 0,.slice none 0 0,.slice none 0 0,.slice none 0 0,.slice none 0 0,.int .u8 0,.int .u8 0,.int .u8 0,.int .u8 0,.int .u8 0,.slice none 0 0]) 25 168 (ck.up de (Nat.le_refl _) bw) (eR.low dd).rd aZ.ones (fun w' hv x cs q=>aZ.upd hv (fk bw (by decide) bu) q) (by(try simp only[List.length_append,List.length_cons,List.length_nil,aS]);omega) (le (le (le (le d.size j.size) I.size) D.size) an.size) fun df dg ee bA bB ef=>Pl 1<|nl<|bn<|tn<|go<|Pl 3<|?_
 have bC:=ut (aq.mono (S':=(ob Bq++[])) an av) bB (au il av)
 have bE:=aq.blk bC (aM (ap (aj hb) lr a) ay) O
 refine L0<|bO bE 1 #[.int .i64 T.dir,.slice none 0 0] fun eg dh a1=>nl<|bn<|tn<|go<|L0<|Oi (((k:Nat) : Int)+1)<|Pl 1<|nl<|?_
 have bF:=u1 (aq.mono (S':=(ob Bq++(g :: []))) bC (au il av)) a1 im
 have bG:=u0 (T:=T) (c:=(b.getD k 0)) l s E
 have bI:=SA.byte_ok hok (fW hrb k) bG
 exact dY ((k+1),(SA.mk T.dir []),(L++[Ev.bad 3]),none,0,df,dg,al.heap.size) ⟨(ut bv bF (au (bH a lr) (ac im av))),dh,(aN.nil base _ _ kO _),(am bA a1 (fun x hx=>(aa (fun e=>(ap (aj hb) lr bA) (e▸hx)) ay)) (fun x cs q=>aZ.upd a1 (dk bE (by decide) bu) q)),(le bB.size a1.size),(aL.far z (ut (aq.mono (S':=(ob Ah++(g :: (ob Bq++[])))) J (au il (ac im av))) bF (au il (ac im av))) (ca (dN hda hdl hat0) (cL hdg (ca (dL hdl a (Nat.le_refl _)) db)))),(by(try dsimp only);exact fl (by omega) hpj bG),(by(try dsimp only);exact bI.1),(by(try dsimp only);have q:=SA.ok_le bI.1;exact q),(by(try dsimp only);omega),(by(try dsimp only);(try simp only[List.length_append,List.length_cons,List.length_nil]);omega),(by(try dsimp only);exact cW),(by(try dsimp only);exact Nat.le_trans hn0l (Nat.le_trans hnl a0.size)),(by(try dsimp only);exact bR)⟩ (by omega)
 have d9:=of_decide_eq_false E
 refine sg<|Pl 3<|L0<|aR O 1<|L0<|eS (m:=2) (e:=5) #[.int .u8 13,.int .u8 10] fun di eh bK bL P=>?_
 have ei:=ia bK (xs:=[13,10]) (by as_aux_lemma=>kernel_rfl) (aF (by omega) (aF (by omega) cQ)) (by(try simp only[List.length_cons,List.length_nil]);omega) bL
 refine L0<|uB (m:=2) (c:=2) bL fun ej dj Q=>?_
 have dl:=qu dj (xs:=[13,10]) (by as_aux_lemma=>kernel_rfl) (aF (by omega) (aF (by omega) cQ)) (by(try simp only[List.length_cons,List.length_nil]);omega)
 have bN:=ud P Q bK
 have a2:=am bq (aE D bN) (fun x hx=>(aa (fun e=>(bJ bt bq (by decide)) (e▸hx)) ay)) (fun _ _ h=>h)
 refine L0<|Oc (args:=#[.slice Y ((T.held++[(b.getD k 0)]).length) Z,.slice (some ⟨di,0,none⟩) 2 2])<|m1 (qv (xs:=(T.held++[(b.getD k 0)])) (ys:=[13,10]) (a2).rd dl) fun ek t=>Pl 1<|nt<|?_
 have a3:=aE bN t
 have ao:=aE bv a3
 refine cb ((f3 (T.held++[(b.getD k 0)]) ([13,10]))) (fun a4=>?_) (fun a4=>?_)
 refine sq<|Rg 15 (fun w'=>w'.cell? ⟨g,0,none⟩=some (.int .i64 T.dir)∧w'.cell? ⟨g,1,none⟩=some (.slice Y ((T.held++[(b.getD k 0)]).length) Z)) fun el o=>?_
 have ar:=aE a3 o
 have a5:=ub ar O
 refine b9 ⟨(ai a5 rfl),(ai a5 rfl)⟩ fun u=>Rt 0 u<|Rt 1 u<|Rt 2 u<|Rl 3 u (fun _ hs=>hs.1)<|Rt 4 u<|Rt 5 u<|Rt 6 u<|Rl 7 u (fun _ hs=>hs.2)<|?_
 refine R2 8 12 rfl rfl ?_ ?_
 refine pr (dp T.dir (T.held++[(b.getD k 0)])) fun F a6 bP=>?_
 refine  Oc<|e2 (g9 bP ((am a2 (aE t o) (fun x hx=>ay) (fun _ _ h=>h))).rd (by simp only[List.length_append,List.length_cons,List.length_nil,List.length_replicate];omega)) fun aw em dm a7=>?_
 obtain⟨dn,dq,dr⟩:=dm
 have aB:=ub a7 a5
 refine b9 ⟨(ai aB rfl),(ai aB rfl)⟩ fun aC=>Rt 9 aC<|Rt 10 aC<|Rt 11 aC<|R0 12 rfl<|bz #[.int .u8 0,.int .u16 0,.int .u8 0,.int .u8 0,.int .u16 0,.int .u16 0,.int .u16 0,.int .u16 0,.int .u16 0,.int .u16 0,.int .u16 0,.int .u16 0,.int .u16 0,.int .u16 0,.slice none 0 0,.slice none 0 0,.slice none 0 0,.slice none 0 0,.int .u8 0,.int .u8 0,.int .u8 0,.int .u8 0,.int .u8 0,.slice none 0 0] fun eo ep bQ ds aI=>?_
 have aJ:=ub aI aB
 refine b9 ⟨(ai aJ rfl),(ai aJ rfl)⟩ fun eq=>R0 13 rfl<|b6 ds (nK F.unit F.tid F.msg aw) fun dt du aK=>?_
 have aP:=aO aK (nb (aj hb) (le (le (le (le (le (le (le (le d.size j.size) I.size) D.size) P.size) Q.size) t.size) o.size) a7.size) bQ) aJ
 refine b9 ⟨(ai aP rfl),(ai aP rfl)⟩ fun dv=>Rt 14 dv<|re<|tn<|go<|Pl 2<|L0<|c5 du<|Pl 1<|L0<|eS (m:=1) (e:=66) (kN ⟨a6,F⟩ aw) fun er aQ dw dx aT=>?_
 have bS:=ud aI (aE aK aT) bQ
 have dy:=j2 (w0:=dt) (x:=(Ev.mk a6 F)) dw dx ⟨aw,rfl,(aU.upd dn bS az),dq,dr⟩
 have bT:=aE a7 bS
 have U:=aE J (aE ar bT)
 have bU:=am a U (fun x hx=>(aM ((bW a r (by decide)) x hx) (aa (fun e=>(ap (aj hb) lr a) (e▸hx)) ay))) (fun x cs q=>aZ.upd U (eE hlow (dk f (by decide) bu)) q)
 have dz:n≤aQ.heap.size:=Nat.le_trans hnl U.size
 refine L0<|ff (R:=aZ aQ.heap.size) (xs:=L) (ys:=([Ev.mk a6 F])) (.agg #[.int .i64 0,.int .u8 0,.int .u16 0,.int .u8 0,.int .u8 0,.int .u16 0,.int .u16 0,.int .u16 0,.int .u16 0,.int .u16 0,.int .u16 0,.int .u16 0,.int .u16 0,.int .u16 0,.int .u16 0,.slice none 0 0,.slice none 0 0,.slice none 0 0,.slice none 0 0,.int .u8 0,.int .u8 0,.int .u8 0,.int .u8 0,.int .u8 0,.slice none 0 0]) 25 168 (ck.up dz (Nat.le_refl _) bU) (eR.low dy).rd aZ.ones (fun w' hv x cs q=>aZ.upd hv (fk bU (by decide) bu) q) (by(try simp only[List.length_append,List.length_cons,List.length_nil,aS]);omega) (le (le (le (le (le (le (le (le (le (le (le d.size j.size) I.size) D.size) P.size) Q.size) t.size) o.size) a7.size) aI.size) aK.size) aT.size) fun dA dB es bV bX et=>Pl 1<|nl<|bn<|tn<|go<|Pl 3<|?_
 have bY:=aq.blk (ut (aq.mono (S':=(ob Bq++[])) aT av) bX (au il av)) (aM (ap (aj hb) lr a) ay) aP
 refine L0<|bO bY 1 #[.int .i64 T.dir,.slice none 0 0] fun eu dC aV=>nl<|bn<|tn<|go<|L0<|Oi (((k:Nat) : Int)+1)<|Pl 1<|nl<|?_
 have aW:=u1 (aq.mono (S':=(ob Bq++(g :: []))) bX (au il av)) aV im
 have bZ:=rQ (T:=T) (c:=(b.getD k 0)) l s E a4 bP
 have c0:=SA.byte_ok hok (fW hrb k) bZ
 exact dY ((k+1),(SA.mk T.dir []),(L++[Ev.mk a6 F]),none,0,dA,dB,aQ.heap.size) ⟨(ut ao (ut (aq.mono (S':=(ob Bq++(g :: []))) o av) (ut (aq.mono (S':=(ob Bq++(g :: []))) bT av) aW (au il (ac im av))) (au il (ac im av))) (au (bH a lr) (ac im av))),dC,(aN.nil base _ _ kO _),(am bV aV (fun x hx=>(aa (fun e=>(ap (aj hb) lr bV) (e▸hx)) ay)) (fun x cs q=>aZ.upd aV (dk bY (by decide) bu) q)),aW.size,(aL.far z (ut (aq.mono (S':=(ob Ah++(g :: (ob Bq++[])))) U (au il (ac im av))) aW (au il (ac im av))) (ca (dN hda hdl hat0) (cL hdg (ca (dL hdl a (Nat.le_refl _)) db)))),(by(try dsimp only);exact fl (by omega) hpj bZ),(by(try dsimp only);exact c0.1),(by(try dsimp only);have q:=SA.ok_le c0.1;exact q),(by(try dsimp only);omega),(by(try dsimp only);(try simp only[List.length_append,List.length_cons,List.length_nil]);omega),(by(try dsimp only);exact cW),(by(try dsimp only);exact Nat.le_trans hn0l (Nat.le_trans hnl U.size)),(by(try dsimp only);exact bR)⟩ (by omega)
 refine  bz #[.int .u8 0,.int .u16 0,.int .u8 0,.int .u8 0,.int .u16 0,.int .u16 0,.int .u16 0,.int .u16 0,.int .u16 0,.int .u16 0,.int .u16 0,.int .u16 0,.int .u16 0,.int .u16 0,.slice none 0 0,.slice none 0 0,.slice none 0 0,.slice none 0 0,.int .u8 0,.int .u8 0,.int .u8 0,.int .u8 0,.int .u8 0,.slice none 0 0] fun dD ev aX dE a8=>?_
 have aY:=ub a8 a5
 refine b9 ⟨(ai aY rfl),(ai aY rfl)⟩ fun ew=>?_
 have c1:=aE o a8
 refine pr (dp T.dir (T.held++[(b.getD k 0)])) fun G a9 c2=>?_
 refine R0 8 rfl<|Oc<|e2 (g9 c2 ((am a2 (aE t c1) (fun x hx=>ay) (fun _ _ h=>h))).rd (by simp only[List.length_append,List.length_cons,List.length_nil,List.length_replicate];omega)) fun b0 ex dF ab=>?_
 obtain⟨dG,dH,dI⟩:=dF
 have b1:=ub ab aY
 refine b9 ⟨(ai b1 rfl),(ai b1 rfl)⟩ fun b2=>Rt 9 b2<|Rt 10 b2<|Rt 11 b2<|?_
 have c3:=ub ab dE
 refine R0 13 rfl<|b6 c3 (nK G.unit G.tid G.msg b0) fun dJ dK b3=>?_
 have b4:=aO b3 (nb (aj hb) (le (le (le (le (le (le (le d.size j.size) I.size) D.size) P.size) Q.size) t.size) o.size) aX) b1
 refine b9 ⟨(ai b4 rfl),(ai b4 rfl)⟩ fun dM=>Rt 14 dM<|re<|tn<|go<|Pl 2<|L0<|c5 dK<|Pl 1<|L0<|eS (m:=1) (e:=66) (kN ⟨a9,G⟩ b0) fun ey b5 dO dP b7=>?_
 have c4:=aE b3 b7
 have dQ:=j2 (w0:=dJ) (x:=(Ev.mk a9 G)) dO dP ⟨b0,rfl,(aU.upd dG c4 (ah (aD c3 (by decide)) az)),dH,dI⟩
 have c6:=uz ab c4
 have V:=aE J (aE ar (ud a8 c6 aX))
 have c7:=am a V (fun x hx=>(aM ((bW a r (by decide)) x hx) (aa (fun e=>(ap (aj hb) lr a) (e▸hx)) ay))) (fun x cs q=>aZ.upd V (eE hlow (dk f (by decide) bu)) q)
 have dR:n≤b5.heap.size:=Nat.le_trans hnl V.size
 refine L0<|ff (R:=aZ b5.heap.size) (xs:=L) (ys:=([Ev.mk a9 G])) (.agg #[.int .i64 0,.int .u8 0,.int .u16 0,.int .u8 0,.int .u8 0,.int .u16 0,.int .u16 0,.int .u16 0,.int .u16 0,.int .u16 0,.int .u16 0,.int .u16 0,.int .u16 0,.int .u16 0,.int .u16 0,.slice none 0 0,.slice none 0 0,.slice none 0 0,.slice none 0 0,.int .u8 0,.int .u8 0,.int .u8 0,.int .u8 0,.int .u8 0,.slice none 0 0]) 25 168 (ck.up dR (Nat.le_refl _) c7) (eR.low dQ).rd aZ.ones (fun w' hv x cs q=>aZ.upd hv (fk c7 (by decide) bu) q) (by(try simp only[List.length_append,List.length_cons,List.length_nil,aS]);omega) (le (le (le (le (le (le (le (le (le (le (le d.size j.size) I.size) D.size) P.size) Q.size) t.size) o.size) a8.size) ab.size) b3.size) b7.size) fun dS dT ez c8 c9 eA=>Pl 1<|nl<|bn<|tn<|go<|Pl 3<|?_
 have cc:=aq.blk (ut (aq.mono (S':=(ob Bq++[])) b7 av) c9 (au il av)) (aM (ap (aj hb) lr a) ay) b4
 refine L0<|bO cc 1 #[.int .i64 T.dir,.slice none 0 0] fun eB dU b8=>nl<|bn<|tn<|go<|L0<|Oi (((k:Nat) : Int)+1)<|Pl 1<|nl<|?_
 have ba:=u1 (aq.mono (S':=(ob Bq++(g :: []))) c9 (au il av)) b8 im
 have cd:=rQ (T:=T) (c:=(b.getD k 0)) l s E a4 c2
 have cf:=SA.byte_ok hok (fW hrb k) cd
 exact dY ((k+1),(SA.mk T.dir []),(L++[Ev.mk a9 G]),none,0,dS,dT,b5.heap.size) ⟨(ut ao (ut (aq.mono (S':=(ob Bq++(g :: []))) c1 av) (ut (aq.mono (S':=(dD :: (ob Bq++(g :: [])))) c6 (ac im av)) ba (au il (ac im av))) (ac (ni o.size aX) (au il (ac im av)))) (au (bH a lr) (ac im av))),dU,(aN.nil base _ _ kO _),(am c8 b8 (fun x hx=>(aa (fun e=>(ap (aj hb) lr c8) (e▸hx)) ay)) (fun x cs q=>aZ.upd b8 (dk cc (by decide) bu) q)),ba.size,(aL.far z (ut (aq.mono (S':=(ob Ah++(g :: (ob Bq++[])))) V (au il (ac im av))) ba (au il (ac im av))) (ca (dN hda hdl hat0) (cL hdg (ca (dL hdl a (Nat.le_refl _)) db)))),(by(try dsimp only);exact fl (by omega) hpj cd),(by(try dsimp only);exact cf.1),(by(try dsimp only);have q:=SA.ok_le cf.1;exact q),(by(try dsimp only);omega),(by(try dsimp only);(try simp only[List.length_append,List.length_cons,List.length_nil]);omega),(by(try dsimp only);exact cW),(by(try dsimp only);exact Nat.le_trans hn0l (Nat.le_trans hnl V.size)),(by(try dsimp only);exact bR)⟩ (by omega)
 refine xt<|uh<|tx<|bx<|tn<|go<|L0<|Oi (((k:Nat) : Int)+1)<|Pl 1<|nl<|?_
 have ad:=aE J a3
 have cg:=tu (T:=T) (c:=(b.getD k 0)) l s E a4
 have ci:=SA.byte_ok hok (fW hrb k) cg
 exact dY ((k+1),(SA.mk T.dir (T.held++[(b.getD k 0)])),L,Y,Z,Bq,cq,n) ⟨ao,(ub a3 O),(am a2 t (fun x hx=>ay) (fun _ _ h=>h)),(am a ad (fun x hx=>(aM ((bW a r (by decide)) x hx) (aa (fun e=>(ap (aj hb) lr a) (e▸hx)) ay))) (fun x cs q=>aZ.upd ad (eE hlow (dk f (by decide) bu)) q)),(Nat.le_trans hnl ad.size),(aL.far z ad (ca (dN hda hdl hat0) (cL hdg db))),(by(try dsimp only);exact jU (by omega) hpj cg),(by(try dsimp only);exact ci.1),(by(try dsimp only);have q:=SA.ok_le ci.1;exact q),(by(try dsimp only);omega),(by(try dsimp only);(try simp only[List.length_append,List.length_cons,List.length_nil]);omega),(by(try dsimp only);exact(fP br hat0 (le d.size j.size))),(by(try dsimp only);exact hn0l),(by(try dsimp only);exact(mB br hlow (Nat.le_trans hnl j.size)))⟩ (by omega)
 have cH:=of_decide_eq_false ae
 refine xt<|tx<|tx<|bx<|tn<|sg<|Pl 2<|nt<|rt<|gr<|rr (.slice Bq L.length cq)<|?_
 have hs:S.feed b=(T,L):=by rw[hpj,List.take_of_length_le (by omega)]
 rw[hs]
 exact⟨_,Ah,ch,n,rfl,a,f,r,hat0,⟨hn0l,Nat.le_trans hnl lr⟩,hlow,d⟩
open Go.RowKit
def bY (n base:Nat)(w:World)(g:Nat)(A:Option Addr)(cp:Nat)(S:SA) : Prop:=ql w g S A cp∧cI base w (.slice A S.held.length cp) S.held∧S.ok∧n≤w.heap.size∧(∀ x,x∈ob A→n≤x)∧base≤w.heap.size
section
variable {n base g cp:Nat}{w w':World}{A:Option Addr}{S:SA}{X:List Nat}
theorem bY.row(h:bY n base w g A cp S) : cI base w (.slice A S.held.length cp) S.held:=h.2.1
theorem bY.low(h:bY n base w g A cp S) : ∀ x,x∈ob A→n≤x:=h.2.2.2.2.1
theorem bY.nle(h:bY n base w g A cp S) : n≤w.heap.size:=h.2.2.2.1
theorem bY.le(h:bY n base w g A cp S) : S.held.length≤513:=SA.ok_le h.2.2.1
theorem bY.lt(h:bY n base w g A cp S) : g<w.heap.size:=aj h.1
theorem bY.cells(h:bY n base w g A cp S) : ∃ cs fr,w.heap[g]? = some (.cells cs 129 fr):=⟨_,_,h.1⟩
theorem bY.upd(h:bY n base w g A cp S)(hu:aq X w w')(hg:g∉X)(hr:∀ x,x∈ob A→x∉X) : bY n base w' g A cp S :=
  ⟨hu.blk hg h.1,am h.2.1 hu hr (fun _ _ q=>q),h.2.2.1,Nat.le_trans h.2.2.2.1 hu.size,h.2.2.2.2.1,Nat.le_trans h.2.2.2.2.2 hu.size⟩
end
theorem SA.feed_ok:∀ (b:List Int)(S:SA)(L:List Ev),S.ok→(∀ x,x∈b→0≤x∧x<256)→(b.foldl (fun(p:SA × List Ev) c=>((p.1.byte c).1,p.2++(p.1.byte c).2)) (S,L)).1.ok∧(b.foldl (fun(p:SA × List Ev) c=>((p.1.byte c).1,p.2++(p.1.byte c).2)) (S,L)).2.length≤L.length+b.length
  | [],S,L,h,_=>⟨h,Nat.le_refl _⟩
  | c :: t,S,L,h,hb=>by
    have k:=SA.byte_ok (S2:=(S.byte c).1) (L2:=(S.byte c).2) h (hb c (List.mem_cons_self ..)) rfl
    have q:=SA.feed_ok t (S.byte c).1 (L++(S.byte c).2) k.1 (fun x hx=>hb x (List.mem_cons_of_mem _ hx))
    refine⟨q.1,Nat.le_trans q.2 ?_⟩
    rw[List.length_append,List.length_cons]
    omega
theorem SA.feed_le{S S2:SA}{b:List Int}{L:List Ev}(h:S.ok)(hb:∀ x,x∈b→0≤x∧x<256)(hX:S.feed b=(S2,L)) : L.length≤b.length:=by
  have q:=(SA.feed_ok b S [] h hb).2
  have e:L=(S.feed b).2:=(congrArg Prod.snd hX).symm
  rw[e]
  rw[List.length_nil,Nat.zero_add] at q
  exact q
def w5 (n base:Nat)(S2:SA)(L:List Ev)(g:Nat)(A:Option Addr)(w:World)(e:Ending)(w':World) : Prop:=∃ v A2 cp2 n2,e = .returned v∧ck n2 w.heap.size w' v L∧bY n2 base w' g A2 cp2 S2∧(∀ x,x∈ob A2→x∈ob A∨w.heap.size≤x)∧n≤n2∧aq (g :: (ob A++[])) w w'
theorem lD{w:World}{n base g cp cpb nb:Nat}{S S2:SA}{L:List Ev}{A B:Option Addr}{m:Bool}{b:List Int}(hX:S.feed b=(S2,L))(h:bY n base w g A cp S)(hsl:aL m w (.slice B nb cpb) b)(hdg:0<nb→∀ x,x∈ob B→x≠g)(hda:iu nb B (ob A))(hbl:b.length≤1048576) :
    Calls Tryz.prog 168 #[.pointer (some ⟨g,0,none⟩),.slice B nb cpb] w (w5 n base S2 L g A w):=by
  obtain⟨h1,h2,h3,h4,h5,h6⟩:=h
  obtain rfl:nb=b.length:=by
    obtain⟨_,_,e,_⟩:=hsl.shape
    injection e
  refine(l8 h1 h2 h6 h3 h4 h5 hsl hdg hda hbl).mono ?_
  rintro e w' ⟨v,A2,cp2,n2,he,k1,k2,k3,k4,⟨k5,k6⟩,k7,k8⟩
  have hok:=(SA.feed_ok b S [] h3 (aL.range hsl)).1
  rw[hX] at k1 k2 k3
  have e2:S2=(S.feed b).1:=(congrArg Prod.fst hX).symm
  exact⟨v,A2,cp2,n2,he,k1,⟨k2,k3,by rw[e2];exact hok,k6,k7,Nat.le_trans h6 k8.size⟩,k4,k5,k8⟩
theorem mu(d:Int){w:World}(hq:Calls Tryz.prog 47 #[.int .i64 d] w (fun e w'=>∃ g,e = .returned (.pointer (some ⟨g,0,none⟩))∧w.heap.size≤g∧ql w' g ⟨d,[]⟩ none 0∧aq [] w w')) :
    Calls Tryz.prog 47 #[.int .i64 d] w (fun e w'=>∃ g,e = .returned (.pointer (some ⟨g,0,none⟩))∧w.heap.size≤g∧bY w.heap.size w.heap.size w' g none 0 ⟨d,[]⟩∧aq [] w w'):=by
  refine hq.mono ?_
  rintro e w' ⟨g,he,h1,h2,h3⟩
  exact⟨g,he,h1,⟨h2,aN.nil ..,⟨(fun x hx=>by cases hx),(show 0≤513 from by decide)⟩,h3.size,bR,h3.size⟩,h3⟩
theorem oC{w:World}{n base g cp:Nat}{S:SA}{A:Option Addr}(h:bY n base w g A cp S) : Calls Tryz.prog 169 #[.pointer (some ⟨g,0,none⟩)] w (bg (.int .i64 ((S.held.length:Nat) : Int)) w):=oq h.1 h.2.1.rd
open Go.RowKit
inductive XS where
  | r (S:SS)
  | a (S:SA)
  | m (S:SM)
def XS.zero (k d:Int) : XS:=bif k==0 then .r ⟨d,[],false⟩ else bif k==1 then .a ⟨d,[]⟩ else .m ⟨d,[],0⟩
def XS.feed:XS→List Int→XS × List Ev
  | .r S,b=>(.r (S.feed b).1,(S.feed b).2)
  | .a S,b=>(.a (S.feed b).1,(S.feed b).2)
  | .m S,b=>(.m (S.feed b).1,(S.feed b).2)
def XS.tick:XS→XS × List Ev
  | .r S=>(.r S.tick.1,S.tick.2)
  | .a S=>(.a S,[])
  | .m S=>(.m S,[])
def XS.take (S:XS)(b:List Int)(t:Bool) : XS × List Ev:=bif t then ((S.feed b).1.tick.1,(S.feed b).2++(S.feed b).1.tick.2) else S.feed b
def XS.held:XS→List Int
  | .r S=>S.held
  | .a S=>S.held
  | .m S=>S.held
def vC:XS→TypeId
  | .r _=>95
  | .a _=>101
  | .m _=>103
def bP (n base:Nat)(w:World)(g:Nat)(A:Option Addr)(c:Nat) : XS→Prop
  | .r S=>bT n base w g A c S
  | .a S=>bY n base w g A c S
  | .m S=>c3 n base w g A c S
abbrev vV (S:XS) (g:Nat) : Array Value:=#[.iface (vC S) (.pointer (some ⟨g,0,none⟩))]
def be (n base:Nat)(w:World)(s g:Nat)(A:Option Addr)(c:Nat)(S:XS) : Prop:=w.heap[s]? = some (.cells (vV S g) 100 (0,0))∧bP n base w g A c S
section
variable {n base s g c:Nat}{w w':World}{A:Option Addr}{S:XS}{X:List Nat}
theorem bP.row(h:bP n base w g A c S) : cI base w (.slice A 0 c) []:=by
  cases S with
  | r S=>exact h.2.1
  | a S=>exact mj h.2.1
  | m S=>exact mj h.2.1
theorem bP.low(h:bP n base w g A c S) : ∀ x,x∈ob A→n≤x:=by
  cases S with
  | r S=>exact h.2.2.2.1
  | a S=>exact h.2.2.2.2.1
  | m S=>exact h.2.2.2.2.1
theorem bP.nle(h:bP n base w g A c S) : n≤w.heap.size:=by
  cases S with
  | r S=>exact h.2.2.1
  | a S=>exact h.2.2.2.1
  | m S=>exact h.2.2.2.1
theorem bP.ble(h:bP n base w g A c S) : base≤w.heap.size:=by
  cases S with
  | r S=>exact h.2.2.2.2
  | a S=>exact h.2.2.2.2.2
  | m S=>exact h.2.2.2.2.2
theorem bP.cells(h:bP n base w g A c S) : ∃ t cs fr,w.heap[g]? = some (.cells cs t fr)∧ek.contains t=false∧(t==100)=false∧(t==5)=false:=by
  cases S with
  | r S=>obtain⟨cs,fr,k⟩:=bT.cells h;exact⟨_,cs,fr,k,by decide,by decide,by decide⟩
  | a S=>exact⟨_,_,_,h.1,by decide,by decide,by decide⟩
  | m S=>exact⟨_,_,_,h.1,by decide,by decide,by decide⟩
theorem bP.lt(h:bP n base w g A c S) : g<w.heap.size:=by
  obtain⟨t,cs,fr,k,_⟩:=h.cells
  exact aj k
theorem bP.upd(h:bP n base w g A c S)(hu:aq X w w')(hg:g∉X)(hr:∀ x,x∈ob A→x∉X) : bP n base w' g A c S:=by
  cases S with
  | r S=>exact bT.upd h hu hg hr
  | a S=>exact bY.upd h hu hg hr
  | m S=>exact c3.upd h hu hg hr
theorem bP.gA(h:bP n base w g A c S) : g∉ob A:=by
  obtain⟨t,cs,fr,k,_,_,h2⟩:=h.cells
  exact bJ k h.row h2
theorem be.row(h:be n base w s g A c S) : cI base w (.slice A 0 c) []:=h.2.row
theorem be.low(h:be n base w s g A c S) : ∀ x,x∈ob A→n≤x:=h.2.low
theorem be.nle(h:be n base w s g A c S) : n≤w.heap.size:=h.2.nle
theorem be.ble(h:be n base w s g A c S) : base≤w.heap.size:=h.2.ble
theorem be.lt(h:be n base w s g A c S) : s<w.heap.size:=aj h.1
theorem be.cells(h:be n base w s g A c S) : ∃ cs fr,w.heap[s]? = some (.cells cs 100 fr):=⟨_,_,h.1⟩
theorem be.sg(h:be n base w s g A c S) : s≠g:=fun e=>by
  obtain⟨t,cs,fr,k,_,h2,_⟩:=h.2.cells
  rw[← e,h.1] at k
  injection k with k
  injection k with _ k _
  rw[← k] at h2
  exact absurd h2 (by decide)
theorem be.sA(h:be n base w s g A c S) : s∉ob A:=bJ h.1 h.row (by decide)
theorem be.gA(h:be n base w s g A c S) : g∉ob A:=h.2.gA
theorem be.upd(h:be n base w s g A c S)(hu:aq X w w')(hs:s∉X)(hg:g∉X)(hr:∀ x,x∈ob A→x∉X) : be n base w' s g A c S:=⟨hu.blk hs h.1,h.2.upd hu hg hr⟩
theorem be.old(h:be n base w s g A c S)(hu:aq [] w w') : be n base w' s g A c S:=h.upd hu (by simp) (by simp) (fun x _=>by simp)
theorem bP.ty(h:bP n base w g A c S) : ∃ t cs fr,w.heap[g]? = some (.cells cs t fr)∧(t=127∨t=129∨t=131):=by
  cases S with
  | r S=>obtain⟨cs,fr,k⟩:=bT.cells h;exact⟨_,cs,fr,k,.inl rfl⟩
  | a S=>exact⟨_,_,_,h.1,.inr (.inl rfl)⟩
  | m S=>exact⟨_,_,_,h.1,.inr (.inr rfl)⟩
theorem be.gx{α:Type}{b2 sz m c2:Nat}{e:TypeId}{R:World→α→List Value→Prop}{A2:Option Addr}{xs:List α}(h:be n base w s g A c S)(hO:aN b2 e sz R w (.slice A2 m c2) xs)(he:(127==e)=false∧(129==e)=false∧(131==e)=false) : g∉ob A2:=by
  obtain⟨t,cs,fr,k,rfl|rfl|rfl⟩:=h.2.ty
  · exact bJ k hO he.1
  · exact bJ k hO he.2.1
  · exact bJ k hO he.2.2
theorem be.apt(h:be n base w s g A c S){k:Nat}(hk:k≤n) : nw k (g :: (ob A++[])) w:=by
  obtain⟨t,cs,fr,q,h1,_⟩:=h.2.cells
  exact dk q h1 (eE (lM hk h.low) bu)
end
def ua (n base:Nat)(S2:XS)(L:List Ev)(s g:Nat)(A:Option Addr)(w:World)(e:Ending)(w':World) : Prop:=∃ v A2 c2 n2,e = .returned v∧ck n2 w.heap.size w' v L∧be n2 base w' s g A2 c2 S2∧(∀ x,x∈ob A2→x∈ob A∨w.heap.size≤x)∧n≤n2∧aq (g :: (ob A++[])) w w'
def uj (n base:Nat)(S2:XS)(L:List Ev)(g:Nat)(A:Option Addr)(w:World)(e:Ending)(w':World) : Prop:=∃ v A2 c2 n2,e = .returned v∧ck n2 w.heap.size w' v L∧bP n2 base w' g A2 c2 S2∧(∀ x,x∈ob A2→x∈ob A∨w.heap.size≤x)∧n≤n2∧aq (g :: (ob A++[])) w w'
section
variable {w:World}{n base g c cpb nb:Nat}{A B:Option Addr}{m:Bool}{b:List Int}
theorem nj{S:SS}(h:bP n base w g A c (.r S))(hsl:aL m w (.slice B nb cpb) b)(hbl:b.length≤1048576) :
    Calls Tryz.prog 157 #[.pointer (some ⟨g,0,none⟩),.slice B nb cpb] w (uj n base (.r (S.feed b).1) (S.feed b).2 g A w):=by
  obtain⟨_,_,e,hc,_⟩:=hsl.shape
  injection e with e1 e2 e3
  subst e1 e2 e3
  exact nJ h h.gA hsl hbl hc
theorem nk{S:SS}(h:bP n base w g A c (.r S)) : Calls Tryz.prog 159 #[.pointer (some ⟨g,0,none⟩)] w (uj n base (.r S.tick.1) S.tick.2 g A w):=nE h
theorem n9{S:SA}(h:bP n base w g A c (.a S))(hsl:aL m w (.slice B nb cpb) b)(hdg:0<nb→∀ x,x∈ob B→x≠g)(hda:iu nb B (ob A))(hbl:b.length≤1048576) :
    Calls Tryz.prog 168 #[.pointer (some ⟨g,0,none⟩),.slice B nb cpb] w (uj n base (.a (S.feed b).1) (S.feed b).2 g A w):=lD rfl h hsl hdg hda hbl
theorem oe{S:SM}(h:bP n base w g A c (.m S))(hsl:aL m w (.slice B nb cpb) b)(hdg:0<nb→∀ x,x∈ob B→x≠g)(hda:iu nb B (ob A))(hbl:b.length≤1048576) :
    Calls Tryz.prog 184 #[.pointer (some ⟨g,0,none⟩),.slice B nb cpb] w (uj n base (.m (S.feed b).1) (S.feed b).2 g A w):=lY rfl h hsl hdg hda hbl
end
open Go.RowKit
section
variable {P:Program}{n:Nat}{D:List Deferred}{F:Fr}{w:World}{K:Fr→World→Prop}{Q:Exit→Act→World→Prop}{d:Option Tmp}{t:TypeId}{s:String}{af:Array Edge}{gu:Option (Nat × Bool)}
theorem pW{a:Act}{K:Act→World→Prop}{o:Oper}{N:Option Tmp}{f:FuncId}{fn:Func}{x:Operand}{nm:String}{opds:Array Operand}{ts:Array TypeId}{T:TypeId}{v rv:Value}(args:Array Value)(hN:o.dst=N)(hop:o.op = .call { callee:=.invoke x nm,args:=opds,argTypes:=ts })
    (hx : a.eval x = .iface T v) (hm : (method (P.types.size + Made.depth) T v nm).run P w = .ok (f, rv) w) (hf : P.funcs[f]? = some fn) (hname : (fn.name == "runtime.NumGoroutine") = false) (hb : fn.body.isSome = true) (hargs : #[rv] ++ opds.map a.eval = args)
    (h:Calls P f args w fun e w'=>∃ v,e = .returned v∧K (a.put N v) w') : OW P o a w K Q:=by
  refine OW.mk ?_
  subst hN
  subst hargs
  have h1 : fn.name ≠ "runtime.NumGoroutine" := by simpa using hname
  obtain⟨cd,hcd⟩:=Option.isSome_iff_exists.1 hb
  have hcm:(callMethod (.iface T v) nm (opds.map a.eval)).run P w = .ok (.enter f (#[rv]++opds.map a.eval)) w:=by
    unfold callMethod
    simp only[program,Sem.run_bind]
    have hp:(pure P:Sem Program).run P w = .ok P w:=rfl
    simp[Sem.run,hm,callFunc,hf,h1,hcd,Result.andThen]
  have hinv:invoke (.fn (.method nm) #[]) (#[.iface T v]++opds.map a.eval)=callMethod (.iface T v) nm (opds.map a.eval):=by
    have e0:(#[Value.iface T v]++opds.map a.eval)[0]? = some (.iface T v):=by
      rw[Array.getElem?_append_left (by simp)]
      rfl
    have e1:(#[Value.iface T v]++opds.map a.eval).extract 1 (#[Value.iface T v]++opds.map a.eval).size=opds.map a.eval:=by
      apply Array.toList_inj.1
      simp only[Array.toList_extract,List.extract_eq_take_drop,Array.toList_append,Array.toList_map,Array.size_append,Array.size_map]
      simp[List.take_of_length_le]
    unfold invoke
    simp only[e0,e1]
  have hrun:(execOp a.eval o).run P w = .ok (.enter f (#[rv]++opds.map a.eval)) w:=by
    unfold execOp
    simp only[hop,resolve,hx,Sem.run_bind,Sem.run_pure,Result.andThen_ok,hinv,hcm]
  unfold Oper.wp
  rw[hrun,Oper.upon_enter]
  refine h.mono fun e w'' hh=>?_
  obtain⟨v,rfl,h2⟩:=hh
  exact h2
theorem p5{f:FuncId}{x:Operand}{nm:String}{opds:Array Operand}{ts:Array TypeId}{args:Array Value}(T:TypeId)(v rv:Value)(h:Calls P f args w fun e w'=>∃ v,e = .returned v∧K (pt d v F) w')
    (hm:(method (P.types.size+Made.depth) T v nm).run P w = .ok (f,rv) w:=by kernel_rfl) (hx:cU F x=some (.iface T v):=by kernel_rfl) (ha:some rv :: opds.toList.map (cU F)=args.toList.map some:=by kernel_rfl) (hf:td P f=some (false,true):=by kernel_rfl) (hs:dq n d=true:=by kernel_rfl) : OG P ⟨d,.call { callee:=.invoke x nm,args:=opds,argTypes:=ts },t,s,af,gu⟩ n D F w K Q:=by
  obtain⟨fn,h1,h2,h3⟩:=fz hf
  refine⟨fun a hag K' hK=>pW args rfl rfl (hag.ev hx) hm h1 h2 h3 ?_ (h.mono fun e w' hh=>by
    obtain⟨v,rfl,hk⟩:=hh
    exact⟨v,rfl,hK _ _ _ hk (hag.put hs)⟩)⟩
  apply Array.toList_inj.1
  obtain⟨vs,has⟩ : ∃ vs:List Value,args.toList=rv :: vs∧opds.toList.map (cU F)=vs.map some:=by
    cases hl:args.toList with
    | nil=>rw[hl] at ha;cases ha
    | cons y ys =>
      rw[hl] at ha
      injection ha with e1 e2
      exact⟨ys,by rw[Option.some.inj e1],e2⟩
  rw[has.1,Array.toList_append,Array.toList_map,gn hag has.2]
  rfl
theorem vW{x:Operand}{xt ty:TypeId}{ok:Bool}(T:TypeId)(v r:Value)(h:K (pt d r F) w)(hx:cU F x=some (.iface T v):=by kernel_rfl)(hr:(Instr.typeAssert (.iface T v) xt ty ok).run P w = .ok r w:=by kernel_rfl)(hs:dq n d=true:=by kernel_rfl) : OG P ⟨d,.typeAssert x xt ty ok,t,s,af,gu⟩ n D F w K Q:=by
  refine⟨fun a ha K' hK=>dG r rfl ?_ (hK _ _ _ h (ha.put hs))⟩
  unfold execOp
  simp only[ha.ev hx,Sem.run_bind,hr,Result.andThen_ok,Sem.run_pure]
theorem i5:∀ {l:List String},l≠[]→∃ m,Instr.least l=some m
  | [],h=>absurd rfl h
  | s :: r,_=>⟨_,rfl⟩
theorem jd{want:Array (String × TypeId)}{got:Array Method}(h:(want.toList.filter fun p=>!got.any fun m=>m.name==p.1&&m.sig==p.2).isEmpty=false) : ∃ m,Instr.missingMethod want got=some m:=by
  unfold Instr.missingMethod
  simp only[List.partition_eq_filter_filter]
  have hne:((want.toList.filter fun p=>!got.any fun m=>m.name==p.1&&m.sig==p.2).map (·.1))≠[]:=by
    intro e
    rw[List.map_eq_nil_iff] at e
    rw[e] at h
    cases h
  generalize ((want.toList.filter fun p=>!got.any fun m=>m.name==p.1&&m.sig==p.2).map (·.1))=l at hne
  by_cases hx:l.filter (not ∘ (fun s:String=>s.contains '.'))=[]
  · have hy:l.filter (fun s:String=>s.contains '.')≠[]:=by
      intro hy
      obtain⟨s,hs⟩:=List.exists_mem_of_ne_nil l hne
      cases hc:s.contains '.'
      · have:s∈l.filter (not ∘ (fun s:String=>s.contains '.')):=List.mem_filter.2 ⟨hs,by simp only[Function.comp,hc,Bool.not_false]⟩
        rw[hx] at this
        cases this
      · have:s∈l.filter (fun s:String=>s.contains '.'):=List.mem_filter.2 ⟨hs,hc⟩
        rw[hy] at this
        cases this
    rw[hx]
    obtain ⟨m, hm⟩ := i5 (l := (l.filter (fun s : String => s.contains '.')).map (fun id => (id.splitOn ".").getLastD id)) (by simpa using hy)
    exact⟨m,by rw[hm];rfl⟩
  · obtain⟨m,hm⟩:=i5 hx
    exact⟨m,by rw[hm];rfl⟩
def tz (P:Program)(ty T:TypeId) : Bool:=match P.underlying ty,P.info? T with
  | some (.interface want),some i=>!(want.toList.filter fun p=>!i.methods.any fun m=>m.name==p.1&&m.sig==p.2).isEmpty
  | _,_=>false
theorem vu{x:Operand}{xt ty:TypeId}(T:TypeId)(v z:Value)(h:K (pt d (.tuple #[z,.bool false]) F) w)(hm:tz P ty T=true:=by kernel_rfl)(hx:cU F x=some (.iface T v):=by kernel_rfl)(hz:(zeroValue ty).run P w = .ok z w:=by kernel_rfl)(hs:dq n d=true:=by kernel_rfl) : OG P ⟨d,.typeAssert x xt ty true,t,s,af,gu⟩ n D F w K Q:=by
  refine⟨fun a ha K' hK=>dG _ rfl ?_ (hK _ _ _ h (ha.put hs))⟩
  unfold tz at hm
  split at hm
  · rename_i want i hu hi
    obtain⟨m,hmm⟩:=jd (by simpa using hm)
    have h1:(underlying ty).run P w = .ok (.interface want) w:=run_underlying hu w
    have h2:(typeInfo T).run P w = .ok i w:=by simp[typeInfo,hi]
    unfold execOp
    simp only[ha.ev hx,Instr.typeAssert,Sem.run_bind,h1,h2,Result.andThen_ok,hmm,hz,Sem.run_pure,if_true]
  · cases hm
end
open Go.RowKit
def sn (k:Int) : Int:=bif k==0 then 256 else bif k==1 then 513 else bif k==2 then 260 else 0
theorem k4{C:Prop}(k:Int)(h0:k=0→C)(h1:k=1→C)(h2:k=2→C)(h3:(k==0)=false→(k==1)=false→(k==2)=false→C) : C:=by
  cases e0:k==0
  · cases e1:k==1
    · cases e2:k==2
      · exact h3 e0 e1 e2
      · exact h2 (by simpa using e2)
    · exact h1 (by simpa using e1)
  · exact h0 (by simpa using e0)
theorem mL(x:Int) : x%3=0∨x%3=1∨x%3=2:=by omega
theorem sZ{k:Int}(h0:(k==0)=false)(h1:(k==1)=false)(h2:(k==2)=false) : sn k=0:=by unfold sn;rw[h0,h1,h2];rfl
def o0 (base:Nat)(w:World)(v:Value)(xs:List Int) : Prop:=aL true w v xs∧∃ A n c,v = .slice A n c∧∀ x,x∈ob A→base≤x
theorem o0.wk{base base':Nat}{w:World}{v:Value}{xs:List Int}(h:o0 base w v xs)(k:base'≤base) : o0 base' w v xs:=by
  obtain⟨h1,A,n,c,h2,h3⟩:=h
  exact⟨h1,A,n,c,h2,fun x hx=>Nat.le_trans k (h3 x hx)⟩
def WR (res:Option (List Int))(base:Nat)(w:World)(v:Value)(n:Int) : Prop:=match res with
  | some l=>n=0∧o0 base w v l
  | none=>n=1∧v = .slice none 0 0
theorem WR.wk{res:Option (List Int)}{base base':Nat}{w:World}{v:Value}{n:Int}(h:WR res base w v n)(k:base'≤base) : WR res base' w v n:=by
  cases res with
  | none=>exact h
  | some l=>exact⟨h.1,h.2.wk k⟩
theorem o0.of{base:Nat}{w:World}{v:Value}{xs:List Int}(h:cI base w v xs) : o0 base w v xs:=by
  obtain⟨A,c,rfl,_,_⟩:=h.rd.shape
  exact⟨h.rd,A,_,c,rfl,dU h⟩
theorem qH{w:World}:Calls Tryz.prog 41 #[.int .i64 0] w (bg (.iface 122 (.agg #[])) w):=by
 refine en 18 Tryz.func41 rfl<|sg<|Pl 1<|nt<|sq<|sg<|Pl 1<|nt<|bk<|sq<|?_
 refine go<|Pl 2<|nt<|c1<|sg<|Pl 3<|nt<|rt<|br<|tr<|rr (.iface 122 (.agg #[]))<|?_
 exact⟨rfl,(aq.refl [] _)⟩
theorem qS{w:World}:Calls Tryz.prog 41 #[.int .i64 1] w (bg (.iface 123 (.agg #[])) w):=by
 refine en 18 Tryz.func41 rfl<|sg<|Pl 1<|nt<|sq<|sg<|Pl 1<|nt<|bk<|sq<|?_
 refine go<|Pl 2<|nt<|c0<|sg<|Pl 2<|nt<|c1<|sg<|Pl 3<|nl<|?_
 refine tn<|rt<|br<|tr<|rr (.iface 123 (.agg #[]))<|?_
 exact⟨rfl,(aq.refl [] _)⟩
theorem rB{w:World}:Calls Tryz.prog 41 #[.int .i64 2] w (bg (.iface 124 (.agg #[])) w):=by
 refine en 18 Tryz.func41 rfl<|sg<|Pl 1<|nt<|sq<|sg<|Pl 1<|nt<|bk<|sq<|?_
 refine go<|Pl 2<|nt<|c0<|sg<|Pl 2<|nt<|c0<|sg<|Pl 2<|nl<|?_
 refine tn<|c1<|sg<|Pl 3<|nt<|rt<|br<|tr<|rr (.iface 124 (.agg #[]))<|?_
 exact⟨rfl,(aq.refl [] _)⟩
theorem rg{w:World}{k:Int}(h0:(k==0)=false)(h1:(k==1)=false)(h2:(k==2)=false) : Calls Tryz.prog 41 #[.int .i64 k] w (bg (.iface 125 (.agg #[])) w):=by
 refine en 18 Tryz.func41 rfl<|sg<|Pl 1<|nt<|sq<|sg<|Pl 1<|nt<|bk<|sq<|?_
 refine go<|Pl 2<|nt<|cf h0<|sg<|Pl 2<|nt<|cf h1<|sg<|Pl 2<|nl<|?_
 refine tn<|cf h2<|sk<|bn<|tn<|sg<|Pl 3<|nt<|rt<|rr (.iface 125 (.agg #[]))<|?_
 exact⟨rfl,(aq.refl [] _)⟩
theorem qh{w:World}:Calls Tryz.prog 193 #[.agg #[]] w (bg (.int .i64 256) w):=by
 refine en 3 Tryz.func193 rfl<|sg<|L0<|cP #[] fun b c d e a=>Pl 1<|ng<|Pl 1<|nt<|rt<|rr (.int .i64 256)<|?_
 exact⟨rfl,a⟩
theorem oa{w:World}:Calls Tryz.prog 20 #[.int .i64 0] w (bg (.int .i64 256) w):=by
 refine en 6 Tryz.func20 rfl<|sg<|Pl 1<|ng<|Pl 1<|L0<|Oc<|m1 (qH) fun c a=>L0<|p5 (f:=193) (args:=#[.agg #[]]) 122 (.agg #[]) (.agg #[])<|m1 (@qh _) fun d b=>Pl 1<|nt<|?_
 refine rt<|rr (.int .i64 256)<|?_
 exact⟨rfl,(aE a b)⟩
theorem rF{w:World}:Calls Tryz.prog 197 #[.agg #[]] w (bg (.int .i64 513) w):=by
 refine en 3 Tryz.func197 rfl<|sg<|L0<|cP #[] fun b c d e a=>Pl 1<|ng<|Pl 1<|nt<|rt<|rr (.int .i64 513)<|?_
 exact⟨rfl,a⟩
theorem nO{w:World}:Calls Tryz.prog 20 #[.int .i64 1] w (bg (.int .i64 513) w):=by
 refine en 6 Tryz.func20 rfl<|sg<|Pl 1<|ng<|Pl 1<|L0<|Oc<|m1 (qS) fun c a=>L0<|p5 (f:=197) (args:=#[.agg #[]]) 123 (.agg #[]) (.agg #[])<|m1 (@rF _) fun d b=>Pl 1<|nt<|?_
 refine rt<|rr (.int .i64 513)<|?_
 exact⟨rfl,(aE a b)⟩
theorem qy{w:World}:Calls Tryz.prog 206 #[.agg #[]] w (bg (.int .i64 260) w):=by
 refine en 3 Tryz.func206 rfl<|sg<|L0<|cP #[] fun b c d e a=>Pl 1<|ng<|Pl 1<|nt<|rt<|rr (.int .i64 260)<|?_
 exact⟨rfl,a⟩
theorem ns{w:World}:Calls Tryz.prog 20 #[.int .i64 2] w (bg (.int .i64 260) w):=by
 refine en 6 Tryz.func20 rfl<|sg<|Pl 1<|ng<|Pl 1<|L0<|Oc<|m1 (rB) fun c a=>L0<|p5 (f:=206) (args:=#[.agg #[]]) 124 (.agg #[]) (.agg #[])<|m1 (@qy _) fun d b=>Pl 1<|nt<|?_
 refine rt<|rr (.int .i64 260)<|?_
 exact⟨rfl,(aE a b)⟩
theorem qf{w:World}:Calls Tryz.prog 210 #[.agg #[]] w (bg (.int .i64 0) w):=by
 refine en 3 Tryz.func210 rfl<|sg<|L0<|cP #[] fun b c d e a=>Pl 1<|ng<|Pl 1<|nt<|rt<|rr (.int .i64 0)<|?_
 exact⟨rfl,a⟩
theorem np{w:World}{k:Int}(h0:(k==0)=false)(h1:(k==1)=false)(h2:(k==2)=false) : Calls Tryz.prog 20 #[.int .i64 k] w (bg (.int .i64 0) w):=by
 refine en 6 Tryz.func20 rfl<|sg<|Pl 1<|ng<|Pl 1<|L0<|Oc<|m1 (rg h0 h1 h2) fun c a=>L0<|p5 (f:=210) (args:=#[.agg #[]]) 125 (.agg #[]) (.agg #[])<|m1 (@qf _) fun d b=>Pl 1<|nt<|?_
 refine rt<|rr (.int .i64 0)<|?_
 exact⟨rfl,(aE a b)⟩
theorem hZ{w:World}{k:Int}:Calls Tryz.prog 20 #[.int .i64 k] w (bg (.int .i64 (sn k)) w):=by
  refine k4 k (fun h=>?_) (fun h=>?_) (fun h=>?_) (fun h0 h1 h2=>?_)
  · subst h;exact oa
  · subst h;exact nO
  · subst h;exact ns
  · rw[sZ h0 h1 h2];exact np h0 h1 h2
open Go.RowKit
theorem bP.apt{n base g c:Nat}{w:World}{A:Option Addr}{S:XS}(h:bP n base w g A c S){k:Nat}(hk:k≤n) : nw k (g :: (ob A++[])) w:=by
  obtain⟨t,cs,fr,q,h1,_⟩:=h.cells
  exact dk q h1 (eE (lM hk h.low) bu)
theorem sC{d:Int}(hd:d=0∨d=1) : ((d != 0)&&(d != 1))=false:=by rcases hd with rfl | rfl<;>rfl
theorem bT.old0{n base g c:Nat}{w w':World}{A:Option Addr}{S:SS}(h:bT n base w g A c S)(hu:aq [] w w') : bT n base w' g A c S:=h.upd hu (by simp) (fun x _=>by simp)
theorem bT.weak{n n' g:Nat}{w:World}{S:SS}{c:Nat}(h:bT n n w g none c S)(hn:n'≤n) : bT n' n' w g none c S:=by
  obtain⟨h1,h2,h3,h4,h5⟩:=h
  exact⟨h1,aN.weaken h2 hn,Nat.le_trans hn h3,bR,Nat.le_trans hn h5⟩
theorem nH{w:World}{d:Int}(hd:d=0∨d=1) : Calls Tryz.prog 29 #[.int .i64 0,.int .i64 d] w (fun e w'=>∃ s g,e = .returned (.pointer (some ⟨s,0,none⟩))∧w.heap.size≤s∧w.heap.size≤g∧be w.heap.size w.heap.size w' s g none 0 (XS.zero 0 d)∧aq [] w w'):=by
 refine en 36 Tryz.func29 rfl<|sg<|Pl 1<|nt<|sq<|sg<|Pl 1<|L0<|Oc<|m1 (hZ (k:=0)) fun q b=>Pl 5<|cu 3 [11] 14 (((d != 0)&&(d != 1))) (fun K c=>?_) ?_
 refine bl 11 ((d != 0)) (fun a=>?_) (fun a=>?_)
 have l:=ax a
 exact Pl 3<|ce c (d != 1) (by rw[a];rfl)
 have l:=ag a
 exact Pl 3<|ce c false (by rw[a];rfl)
 refine Pl 1<|nt<|cf (sC hd)<|bD<|sq<|sg<|Pl 1<|nt<|bk<|sq<|?_
 refine go<|Pl 2<|nt<|c1<|sg<|Pl 1<|L0<|Oc<|e3 (qG hd) fun f t m n h=>Pl 2<|L0<|cP #[.iface 95 (.pointer (some ⟨f,0,none⟩))] fun i u o p j=>Pl 1<|nt<|?_
 refine rt<|br<|tr<|rr (.pointer (some ⟨i,0,none⟩))<|?_
 exact⟨i,f,rfl,(Nat.le_trans (le b.size h.size) o),(Nat.le_trans b.size m),⟨p,(show bP _ _ _ _ _ _ (XS.r _) from((bT.old0 n j)).weak b.size)⟩,(aE b (aE h j))⟩
theorem pG{w:World}{d:Int}(hd:d=0∨d=1) : Calls Tryz.prog 47 #[.int .i64 d] w (fun e w'=>∃ g,e = .returned (.pointer (some ⟨g,0,none⟩))∧w.heap.size≤g∧bY w.heap.size w.heap.size w' g none 0 ⟨d,[]⟩∧aq [] w w'):=by
  rcases hd with rfl|rfl
  · exact mu 0 nT
  · exact mu 1 mP
theorem bY.old0{n base g c:Nat}{w w':World}{A:Option Addr}{S:SA}(h:bY n base w g A c S)(hu:aq [] w w') : bY n base w' g A c S:=h.upd hu (by simp) (fun x _=>by simp)
theorem bY.weak{n n' g:Nat}{w:World}{S:SA}{c:Nat}(h:bY n n w g none c S)(hn:n'≤n) : bY n' n' w g none c S:=by
  obtain⟨h1,h2,h6,h3,h4,h5⟩:=h
  exact⟨h1,aN.weaken h2 hn,h6,Nat.le_trans hn h3,bR,Nat.le_trans hn h5⟩
theorem nd{w:World}{d:Int}(hd:d=0∨d=1) : Calls Tryz.prog 29 #[.int .i64 1,.int .i64 d] w (fun e w'=>∃ s g,e = .returned (.pointer (some ⟨s,0,none⟩))∧w.heap.size≤s∧w.heap.size≤g∧be w.heap.size w.heap.size w' s g none 0 (XS.zero 1 d)∧aq [] w w'):=by
 refine en 36 Tryz.func29 rfl<|sg<|Pl 1<|nt<|sq<|sg<|Pl 1<|L0<|Oc<|m1 (hZ (k:=1)) fun r c=>Pl 5<|cu 3 [11] 14 (((d != 0)&&(d != 1))) (fun K f=>?_) ?_
 refine bl 11 ((d != 0)) (fun b=>?_) (fun b=>?_)
 have m:=ax b
 exact Pl 3<|ce f (d != 1) (by rw[b];rfl)
 have m:=ag b
 exact Pl 3<|ce f false (by rw[b];rfl)
 refine Pl 1<|nt<|cf (sC hd)<|bD<|sq<|sg<|Pl 1<|nt<|bk<|sq<|?_
 refine go<|Pl 2<|nt<|c0<|sg<|Pl 2<|nt<|c1<|sg<|Pl 1<|L0<|Oc<|e3 (pG hd) fun h t n o i=>?_
 refine Pl 2<|L0<|cP #[.iface 101 (.pointer (some ⟨h,0,none⟩))] fun j u p q l=>Pl 1<|nt<|rt<|br<|tr<|rr (.pointer (some ⟨j,0,none⟩))<|?_
 exact⟨j,h,rfl,(Nat.le_trans (le c.size i.size) p),(Nat.le_trans c.size n),⟨q,(show bP _ _ _ _ _ _ (XS.a _) from((bY.old0 o l)).weak c.size)⟩,(aE c (aE i l))⟩
theorem pp{w:World}{d:Int}(hd:d=0∨d=1) : Calls Tryz.prog 48 #[.int .i64 d] w (fun e w'=>∃ g,e = .returned (.pointer (some ⟨g,0,none⟩))∧w.heap.size≤g∧c3 w.heap.size w.heap.size w' g none 0 ⟨d,[],0⟩∧aq [] w w'):=by
  rcases hd with rfl|rfl
  · exact mH 0 l4
  · exact mH 1 lB
theorem c3.old0{n base g c:Nat}{w w':World}{A:Option Addr}{S:SM}(h:c3 n base w g A c S)(hu:aq [] w w') : c3 n base w' g A c S:=h.upd hu (by simp) (fun x _=>by simp)
theorem c3.weak{n n' g:Nat}{w:World}{S:SM}{c:Nat}(h:c3 n n w g none c S)(hn:n'≤n) : c3 n' n' w g none c S:=by
  obtain⟨h1,h2,h6,h3,h4,h5⟩:=h
  exact⟨h1,aN.weaken h2 hn,h6,Nat.le_trans hn h3,bR,Nat.le_trans hn h5⟩
theorem oo{w:World}{d:Int}(hd:d=0∨d=1) : Calls Tryz.prog 29 #[.int .i64 2,.int .i64 d] w (fun e w'=>∃ s g,e = .returned (.pointer (some ⟨s,0,none⟩))∧w.heap.size≤s∧w.heap.size≤g∧be w.heap.size w.heap.size w' s g none 0 (XS.zero 2 d)∧aq [] w w'):=by
 refine en 36 Tryz.func29 rfl<|sg<|Pl 1<|nt<|sq<|sg<|Pl 1<|L0<|Oc<|m1 (hZ (k:=2)) fun r b=>Pl 5<|cu 3 [11] 14 (((d != 0)&&(d != 1))) (fun K c=>?_) ?_
 refine bl 11 ((d != 0)) (fun a=>?_) (fun a=>?_)
 have l:=ax a
 exact Pl 3<|ce c (d != 1) (by rw[a];rfl)
 have l:=ag a
 exact Pl 3<|ce c false (by rw[a];rfl)
 refine Pl 1<|nt<|cf (sC hd)<|bD<|sq<|sg<|Pl 1<|nt<|bk<|sq<|?_
 refine go<|Pl 2<|nt<|c0<|sg<|Pl 2<|nt<|c0<|sk<|bn<|tn<|?_
 refine sg<|Pl 1<|L0<|Oc<|e3 (pp hd) fun f t n o h=>Pl 2<|L0<|cP #[.iface 103 (.pointer (some ⟨f,0,none⟩))] fun i u p q j=>Pl 1<|nt<|rt<|rr (.pointer (some ⟨i,0,none⟩))<|?_
 exact⟨i,f,rfl,(Nat.le_trans (le b.size h.size) p),(Nat.le_trans b.size n),⟨q,(show bP _ _ _ _ _ _ (XS.m _) from((c3.old0 o j)).weak b.size)⟩,(aE b (aE h j))⟩
theorem qx{w:World}{k:Int}(hk:k=0∨k=1∨k=2){d:Int}(hd:d=0∨d=1) : Calls Tryz.prog 29 #[.int .i64 k,.int .i64 d] w (fun e w'=>∃ s g,e = .returned (.pointer (some ⟨s,0,none⟩))∧w.heap.size≤s∧w.heap.size≤g∧be w.heap.size w.heap.size w' s g none 0 (XS.zero k d)∧aq [] w w'):=by
  rcases hk with rfl|rfl|rfl
  · exact nH hd
  · exact nd hd
  · exact oo hd
theorem kW{w:World}{n base s g c:Nat}{A B:Option Addr}{cpb:Nat}{S:SS}{m t:Bool}{b:List Int}(h:be n base w s g A c (.r S))(hsl:aL m w (.slice B b.length cpb) b)(hdg:0<b.length→∀ x,x∈ob B→x≠g)(hda:iu b.length B (ob A))(hbl:b.length≤1048576) :
    Calls Tryz.prog 31 #[.pointer (some ⟨s,0,none⟩),.agg #[.slice B b.length cpb,.bool t]] w (ua n base (XS.take (.r S) b t).1 (XS.take (.r S) b t).2 s g A w):=by
 have hzb:=aG.len hsl
 have hz1:(S.feed b).2.length≤1:=SS.feed_le (S:=S) (b:=b) rfl
 have hz2:(S.feed b).1.tick.2.length≤1:=SS.tick_le (S:=(S.feed b).1) rfl
 refine en 33 Tryz.func31 rfl<|sg<|L0<|cP #[.slice B b.length cpb,.bool t] fun O a3 C P Q=>Pl 1<|nt<|sq<|Rg 8 (fun w'=>w'.cell? ⟨s,0,none⟩=some (.iface 95 (.pointer (some ⟨g,0,none⟩)))∧w'.cell? ⟨O,0,none⟩=some (.slice B b.length cpb)) fun a4 D=>?_
 have a:=aE Q D
 have p:=ub a h.1
 have E:=ub D P
 refine b9 ⟨(ai p rfl),(ai E rfl)⟩ fun i=>Rt 0 i<|Rt 1 i<|Rt 2 i<|Rl 3 i (fun _ hs=>hs.1)<|Rt 4 i<|Rl 5 i (fun _ hs=>hs.2)<|?_
 refine R0 6 rfl<|p5 (f:=157) (args:=#[.pointer (some ⟨g,0,none⟩),.slice B b.length cpb]) 95 (.pointer (some ⟨g,0,none⟩)) (.pointer (some ⟨g,0,none⟩))<|?_
 refine(nj (bP.upd h.2 a ay (fun x hx=>ay)) (aL.old hsl a) hbl).mono ?_
 rintro _ a5 ⟨a6,F,a7,a8,rfl,T,j,u,G,k⟩
 refine⟨_,rfl,?_⟩
 have d:=T
 obtain⟨H,U,rfl,a9,ab⟩:=aG.shape d.rd
 have l:=aq.blk k (aa h.sg (aM (bJ p (am (bP.row h.2) a (fun x hx=>ay) (fun _ _ h=>h)) (by decide)) ay)) p
 have I:=aq.blk k (aa (Ne.symm (nb (bP.lt h.2) lr C)) (aM (fY (bP.row h.2) lr C) ay)) E
 refine b9 ⟨(ai l rfl),(ai I rfl)⟩ fun V=>Rt 7 V<|re<|tn<|sq<|sg<|Pl 3<|L0<|aR l 0<|L0<|vW 95 (.pointer (some ⟨g,0,none⟩)) (.tuple #[.iface 95 (.pointer (some ⟨g,0,none⟩)),.bool true])<|Pl 5<|nt<|sq<|?_
 refine go<|Pl 3<|L1<|aR I 1<|Pl 1<|nt<|?_
 have J:=ut (aq.mono (S':=(g :: (ob A++[]))) a av) k (ac im (au il av))
 refine cb (t) (fun v=>?_) (fun v=>?_)
 refine go<|Pl 2<|L0<|p5 (f:=159) (args:=#[.pointer (some ⟨g,0,none⟩)]) 95 (.pointer (some ⟨g,0,none⟩)) (.pointer (some ⟨g,0,none⟩))<|?_
 refine(nk j).mono ?_
 rintro _ ad ⟨ae,W,af,X,rfl,Y,y,Z,K,o⟩
 refine⟨_,rfl,?_⟩
 have L:=Y
 obtain⟨ag,ah,rfl,ak,al⟩:=aG.shape L.rd
 have z:=am d o (fun x hx=>(aa (fun e=>(ap (bP.lt h.2) a.size d) (e▸hx)) (aM ((bW d (bP.row j) (by decide)) x hx) ay))) (fun x cs q=>aZ.upd o (bP.apt j (Nat.le_refl _)) q)
 refine L0<|ff (R:=aZ X) (xs:=((S.feed b).2)) (ys:=((S.feed b).1.tick.2)) (.agg #[.int .i64 0,.int .u8 0,.int .u16 0,.int .u8 0,.int .u8 0,.int .u16 0,.int .u16 0,.int .u16 0,.int .u16 0,.int .u16 0,.int .u16 0,.int .u16 0,.int .u16 0,.int .u16 0,.int .u16 0,.slice none 0 0,.slice none 0 0,.slice none 0 0,.slice none 0 0,.int .u8 0,.int .u8 0,.int .u8 0,.int .u8 0,.int .u8 0,.slice none 0 0]) 25 168 (ck.up K (y.nle) z) (L).rd aZ.ones (fun w' hv x cs q=>aZ.upd hv (fk z (by decide) bu) q) (by omega) (le k.size o.size) fun a0 a1 an a2 M ao=>Pl 1<|ng<|Pl 2<|nt<|rt<|rr (.slice a0 (((S.feed b).2++(S.feed b).1.tick.2).length) a1)<|?_
 have hs:XS.take (.r S) b t=(.r (S.feed b).1.tick.1,(S.feed b).2++(S.feed b).1.tick.2):=by unfold XS.take;rw[v];rfl
 rw[hs]
 have hat0:∀ x,x∈ob W→x∈ob A∨w.heap.size≤x:=fun x hx=>((fun x hx=>fP Z u k.size x hx) x hx).imp id (Nat.le_trans a.size)
 have N:=ut (aq.mono (S':=(g :: (ob F++(ob H++[])))) o (ac im (au il av))) M (au il av)
 exact⟨_,_,_,_,rfl,aN.weaken a2 a.size,⟨(aq.blk N (aa h.sg (aM (bJ l (bP.row j) (by decide)) (aM (ap (aj h.1) a.size d) ay))) l),(bP.upd y M (aM (ap (bP.lt h.2) a.size d) ay) (fun x hx=>(aM ((bW (bP.row y) z (by decide)) x hx) ay)))⟩,hat0,Nat.le_trans G K,(aq.mono (S':=g :: (ob A++[])) (ut J N (ac im (au (gy u il a.size) (au (bH d a.size) av)))) (ac im (au il av)))⟩
 refine bD<|sg<|Pl 2<|nt<|rt<|rr (.slice H (((S.feed b).2).length) U)<|?_
 have hs:XS.take (.r S) b t=(.r (S.feed b).1,(S.feed b).2):=by unfold XS.take;rw[v];rfl
 rw[hs]
 have hat0:∀ x,x∈ob F→x∈ob A∨w.heap.size≤x:=fun x hx=>((fun x hx=>u x hx) x hx).imp id (Nat.le_trans a.size)
 exact⟨_,_,_,_,rfl,aN.weaken d a.size,⟨l,j⟩,hat0,G,(aq.mono (S':=g :: (ob A++[])) J (ac im (au il av)))⟩
theorem l1{w:World}{n base s g c:Nat}{A B:Option Addr}{cpb:Nat}{S:SA}{m t:Bool}{b:List Int}(h:be n base w s g A c (.a S))(hsl:aL m w (.slice B b.length cpb) b)(hdg:0<b.length→∀ x,x∈ob B→x≠g)(hda:iu b.length B (ob A))(hbl:b.length≤1048576) :
    Calls Tryz.prog 31 #[.pointer (some ⟨s,0,none⟩),.agg #[.slice B b.length cpb,.bool t]] w (ua n base (XS.take (.a S) b t).1 (XS.take (.a S) b t).2 s g A w):=by
 have hzb:=aG.len hsl
 refine en 33 Tryz.func31 rfl<|sg<|L0<|cP #[.slice B b.length cpb,.bool t] fun r I l u v=>Pl 1<|nt<|sq<|Rg 8 (fun w'=>w'.cell? ⟨s,0,none⟩=some (.iface 101 (.pointer (some ⟨g,0,none⟩)))∧w'.cell? ⟨r,0,none⟩=some (.slice B b.length cpb)) fun J o=>?_
 have d:=aE v o
 have i:=ub d h.1
 have p:=ub o u
 refine b9 ⟨(ai i rfl),(ai p rfl)⟩ fun e=>Rt 0 e<|Rt 1 e<|Rt 2 e<|Rl 3 e (fun _ hs=>hs.1)<|Rt 4 e<|Rl 5 e (fun _ hs=>hs.2)<|?_
 refine R0 6 rfl<|p5 (f:=168) (args:=#[.pointer (some ⟨g,0,none⟩),.slice B b.length cpb]) 101 (.pointer (some ⟨g,0,none⟩)) (.pointer (some ⟨g,0,none⟩))<|?_
 refine(n9 (bP.upd h.2 d ay (fun x hx=>ay)) (aL.old hsl d) hdg hda hbl).mono ?_
 rintro _ K ⟨L,y,M,N,rfl,z,C,D,E,j⟩
 refine⟨_,rfl,?_⟩
 have q:=z
 obtain⟨F,G,rfl,O,P⟩:=aG.shape q.rd
 have k:=aq.blk j (aa h.sg (aM (bJ i (am (bP.row h.2) d (fun x hx=>ay) (fun _ _ h=>h)) (by decide)) ay)) i
 refine b9 ⟨(ai k rfl),(ai (aq.blk j (aa (Ne.symm (nb (bP.lt h.2) lr l)) (aM (fY (bP.row h.2) lr l) ay)) p) rfl)⟩ fun H=>Rt 7 H<|re<|tn<|sq<|sg<|Pl 3<|L0<|aR k 0<|L0<|vu 101 (.pointer (some ⟨g,0,none⟩)) .nilIface<|Pl 5<|nt<|sq<|?_
 refine go<|Pl 5<|nt<|c0<|bD<|sg<|Pl 2<|nt<|rt<|rr (.slice F (((S.feed b).2).length) G)<|?_
 have hs:XS.take (.a S) b t=(.a (S.feed b).1,(S.feed b).2):=by unfold XS.take;cases t;rfl;show(_,(S.feed b).2++[])=_;rw[List.append_nil];rfl
 rw[hs]
 have hat0:∀ x,x∈ob y→x∈ob A∨w.heap.size≤x:=fun x hx=>((fun x hx=>D x hx) x hx).imp id (Nat.le_trans d.size)
 exact⟨_,_,_,_,rfl,aN.weaken q d.size,⟨k,C⟩,hat0,E,(aq.mono (S':=g :: (ob A++[])) (ut (aq.mono (S':=(g :: (ob A++[]))) d av) j (ac im (au il av))) (ac im (au il av)))⟩
theorem lu{w:World}{n base s g c:Nat}{A B:Option Addr}{cpb:Nat}{S:SM}{m t:Bool}{b:List Int}(h:be n base w s g A c (.m S))(hsl:aL m w (.slice B b.length cpb) b)(hdg:0<b.length→∀ x,x∈ob B→x≠g)(hda:iu b.length B (ob A))(hbl:b.length≤1048576) :
    Calls Tryz.prog 31 #[.pointer (some ⟨s,0,none⟩),.agg #[.slice B b.length cpb,.bool t]] w (ua n base (XS.take (.m S) b t).1 (XS.take (.m S) b t).2 s g A w):=by
 have hzb:=aG.len hsl
 refine en 33 Tryz.func31 rfl<|sg<|L0<|cP #[.slice B b.length cpb,.bool t] fun q H k r u=>Pl 1<|nt<|sq<|Rg 8 (fun w'=>w'.cell? ⟨s,0,none⟩=some (.iface 103 (.pointer (some ⟨g,0,none⟩)))∧w'.cell? ⟨q,0,none⟩=some (.slice B b.length cpb)) fun I l=>?_
 have a:=aE u l
 have e:=ub a h.1
 have o:=ub l r
 refine b9 ⟨(ai e rfl),(ai o rfl)⟩ fun d=>Rt 0 d<|Rt 1 d<|Rt 2 d<|Rl 3 d (fun _ hs=>hs.1)<|Rt 4 d<|Rl 5 d (fun _ hs=>hs.2)<|?_
 refine R0 6 rfl<|p5 (f:=184) (args:=#[.pointer (some ⟨g,0,none⟩),.slice B b.length cpb]) 103 (.pointer (some ⟨g,0,none⟩)) (.pointer (some ⟨g,0,none⟩))<|?_
 refine(oe (bP.upd h.2 a ay (fun x hx=>ay)) (aL.old hsl a) hdg hda hbl).mono ?_
 rintro _ J ⟨K,v,L,M,rfl,y,z,C,D,i⟩
 refine⟨_,rfl,?_⟩
 have p:=y
 obtain⟨E,F,rfl,N,O⟩:=aG.shape p.rd
 have j:=aq.blk i (aa h.sg (aM (bJ e (am (bP.row h.2) a (fun x hx=>ay) (fun _ _ h=>h)) (by decide)) ay)) e
 refine b9 ⟨(ai j rfl),(ai (aq.blk i (aa (Ne.symm (nb (bP.lt h.2) lr k)) (aM (fY (bP.row h.2) lr k) ay)) o) rfl)⟩ fun G=>Rt 7 G<|re<|tn<|sq<|sg<|Pl 3<|L0<|aR j 0<|L0<|vu 103 (.pointer (some ⟨g,0,none⟩)) .nilIface<|Pl 5<|nt<|sq<|?_
 refine go<|Pl 5<|nt<|c0<|bD<|sg<|Pl 2<|nt<|rt<|rr (.slice E (((S.feed b).2).length) F)<|?_
 have hs:XS.take (.m S) b t=(.m (S.feed b).1,(S.feed b).2):=by unfold XS.take;cases t;rfl;show(_,(S.feed b).2++[])=_;rw[List.append_nil];rfl
 rw[hs]
 have hat0:∀ x,x∈ob v→x∈ob A∨w.heap.size≤x:=fun x hx=>((fun x hx=>C x hx) x hx).imp id (Nat.le_trans a.size)
 exact⟨_,_,_,_,rfl,aN.weaken p a.size,⟨j,z⟩,hat0,D,(aq.mono (S':=g :: (ob A++[])) (ut (aq.mono (S':=(g :: (ob A++[]))) a av) i (ac im (au il av))) (ac im (au il av)))⟩
theorem px{w:World}{n base s g c nb:Nat}{A B:Option Addr}{cpb:Nat}{S S2:XS}{L:List Ev}{m t:Bool}{b:List Int}(hX:S.take b t=(S2,L))(h:be n base w s g A c S)(hsl:aL m w (.slice B nb cpb) b)(hdg:0<nb→∀ x,x∈ob B→x≠g)(hda:iu nb B (ob A))(hbl:b.length≤1048576) :
    Calls Tryz.prog 31 #[.pointer (some ⟨s,0,none⟩),.agg #[.slice B nb cpb,.bool t]] w (ua n base S2 L s g A w):=by
  obtain⟨_,_,e,_,_⟩:=hsl.shape
  injection e with e1 e2 e3
  subst e1 e2 e3
  have e1:S2=(S.take b t).1:=(congrArg Prod.fst hX).symm
  have e2:L=(S.take b t).2:=(congrArg Prod.snd hX).symm
  rw[e1,e2]
  cases S with
  | r S=>exact kW h hsl hdg hda hbl
  | a S=>exact l1 h hsl hdg hda hbl
  | m S=>exact lu h hsl hdg hda hbl
theorem lv{w:World}{n base s g c:Nat}{A:Option Addr}{S:SS}(h:be n base w s g A c (.r S)) : Calls Tryz.prog 30 #[.pointer (some ⟨s,0,none⟩)] w (bg (.int .i64 ((S.held.length:Nat) : Int)) w):=by
 refine en 8 Tryz.func30 rfl<|sg<|Pl 1<|ng<|Pl 3<|L0<|aR h.1 0<|L0<|p5 (f:=158) (args:=#[.pointer (some ⟨g,0,none⟩)]) 95 (.pointer (some ⟨g,0,none⟩)) (.pointer (some ⟨g,0,none⟩))<|m1 (oz h.2) fun b a=>Pl 1<|nt<|?_
 refine rt<|rr (.int .i64 ((S.held.length:Nat) : Int))<|?_
 exact⟨rfl,a⟩
theorem m7{w:World}{n base s g c:Nat}{A:Option Addr}{S:SA}(h:be n base w s g A c (.a S)) : Calls Tryz.prog 30 #[.pointer (some ⟨s,0,none⟩)] w (bg (.int .i64 ((S.held.length:Nat) : Int)) w):=by
 refine en 8 Tryz.func30 rfl<|sg<|Pl 1<|ng<|Pl 3<|L0<|aR h.1 0<|L0<|p5 (f:=169) (args:=#[.pointer (some ⟨g,0,none⟩)]) 101 (.pointer (some ⟨g,0,none⟩)) (.pointer (some ⟨g,0,none⟩))<|m1 (oC h.2) fun d b=>Pl 1<|nt<|?_
 refine rt<|rr (.int .i64 ((S.held.length:Nat) : Int))<|?_
 exact⟨rfl,b⟩
theorem lJ{w:World}{n base s g c:Nat}{A:Option Addr}{S:SM}(h:be n base w s g A c (.m S)) : Calls Tryz.prog 30 #[.pointer (some ⟨s,0,none⟩)] w (bg (.int .i64 ((S.held.length:Nat) : Int)) w):=by
 refine en 8 Tryz.func30 rfl<|sg<|Pl 1<|ng<|Pl 3<|L0<|aR h.1 0<|L0<|p5 (f:=185) (args:=#[.pointer (some ⟨g,0,none⟩)]) 103 (.pointer (some ⟨g,0,none⟩)) (.pointer (some ⟨g,0,none⟩))<|m1 (pQ h.2) fun b a=>Pl 1<|nt<|?_
 refine rt<|rr (.int .i64 ((S.held.length:Nat) : Int))<|?_
 exact⟨rfl,a⟩
theorem q7{w:World}{n base s g c:Nat}{A:Option Addr}{S:XS}(h:be n base w s g A c S) : Calls Tryz.prog 30 #[.pointer (some ⟨s,0,none⟩)] w (bg (.int .i64 ((S.held.length:Nat) : Int)) w):=by
  cases S with
  | r S=>exact lv h
  | a S=>exact m7 h
  | m S=>exact lJ h
open Go.RowKit
def eq:List (List Int)→Nat
  | []=>0
  | x :: t=>x.length+eq t
def ej (ls:List (List Int)) : Bool:=decide (ls.length≤60)&&decide (eq ls≤3000)
theorem fB(a b:List (List Int)) : eq (a++b)=eq a+eq b:=by
  induction a with
  | nil=>simp[eq]
  | cons x t ih=>simp only[List.cons_append,eq,ih];omega
theorem mQ{ls:List (List Int)}{k:Nat}(hk:k<ls.length) : ls.take (k+1)=ls.take k++[ls.getD k []]:=by
  rw[List.take_succ_eq_append_getElem hk,List.getD_eq_getElem?_getD,List.getElem?_eq_getElem hk]
  rfl
theorem iL{ls:List (List Int)}{k:Nat}(hk:k<ls.length) : eq (ls.take (k+1))=eq (ls.take k)+(ls.getD k []).length:=by
  rw[mQ hk,fB]
  rfl
theorem my{ls:List (List Int)}(hb:∀ x,x∈ls→x.length≤140737488355328) : ∀ k,k≤ls.length→eq (ls.take k)≤k*140737488355328
  | 0,_=>by simp[eq]
  | k+1,h=>by
    rw[iL (by omega)]
    have h1:=my hb k (by omega)
    have h2:(ls.getD k []).length≤140737488355328:=by
      rw[List.getD_eq_getElem?_getD,List.getElem?_eq_getElem (by omega)]
      exact hb _ (List.getElem_mem _)
    rw[Nat.succ_mul]
    omega
theorem lz{ls:List (List Int)}{k:Nat}{n:Int}(hb:∀ x,x∈ls→x.length≤140737488355328)(h:k≤60→n=(eq (ls.take k) : Nat))(hk:k<ls.length) : k+1≤60→IntKind.i64.wrap (n+(((ls.getD k []).length:Nat) : Int))=(eq (ls.take (k+1)) : Nat):=by
  intro a
  have h1:=my hb (k+1) hk
  have h2:=iL hk
  rw[h (by omega),i64_in]
  · rw[h2];omega
  · omega
theorem iE{ls:List (List Int)}{k:Nat}{n:Int}(h:k≤60→n=(eq (ls.take k) : Nat))(hk:k=ls.length) : (decide ((ls.length:Int)≤60)&&decide (n≤3000))=ej ls:=by
  subst hk
  rw[List.take_length] at h
  unfold ej
  by_cases a:ls.length≤60
  · rw[h a]
    congr 1
    · rw[decide_eq_decide];omega
    · rw[decide_eq_decide];omega
  · rw[decide_eq_false a,decide_eq_false (by omega)];rfl
theorem o6{m:Bool}{A:Option Addr}{cp:Nat}{ls:List (List Int)}{w:World}(h:kF m w (.slice A ls.length cp) ls)(hbb:∀ x,x∈ls→x.length≤140737488355328) : Calls Tryz.prog 44 #[.slice A ls.length cp] w (bg (.bool (ej ls)) w):=by
 have hz:=aG.len h
 refine en 25 Tryz.func44 rfl<|sg<|Pl 1<|ng<|Pl 1<|nt<|sq<|sg<|?_
 refine Pl 1<|nt<|bk<|?_
 refine g7 (fun x=>[(0,.slice A ls.length cp),(2,.bool false),(3,.int .i64 x.2),(4,.int .i64 ((x.1:Nat) : Int))]) (fun(x:Nat × Int) w'=>aq [] w w'∧(x.1≤ls.length)∧(x.1≤60→x.2=(eq (ls.take x.1) : Nat))) (fun x=>ls.length-x.1) (0,0) ⟨aq.refl _ _,(by(try dsimp only);omega),(by(try dsimp only);intro _;rfl)⟩ ?_
 rintro⟨k,n⟩ u ⟨c,f,g⟩
 refine fZ [(0,.slice A ls.length cp),(2,.bool false),(3,.int .i64 n),(4,.int .i64 ((k:Nat) : Int))] ?_
 have y:k≤ls.length:=f
 have d:k≤60→n=(eq (ls.take k) : Nat):=g
 refine sq<|sg<|Pl 4<|nt<|cb ((decide (((k:Nat) : Int)<((ls.length:Nat) : Int)))) (fun b=>?_) (fun b=>?_)
 have i:=of_decide_eq_true b
 refine bD<|sq<|bk<|go<|Pl 3<|fJ (kF.elt h k (by omega)) fun j l o q r s z B C=>L0<|nh ls.length k r (by omega)<|L0<|iX (p:=⟨j,l+k,none⟩) (v:=.slice o ((ls.getD k []).length) q) (uc c s)<|Pl 3<|nl<|bn<|tn<|go<|?_
 exact Pl 1<|L0<|Oi (((k:Nat) : Int)+1)<|Pl 1<|nl<|dY ((k+1),(IntKind.i64.wrap (n+(((ls.getD k []).length:Nat) : Int)))) ⟨c,(by(try dsimp only);omega),(lz hbb d (by omega))⟩ (by omega)
 have i:=of_decide_eq_false b
 refine xt<|tx<|tx<|bx<|tn<|sg<|Pl 4<|cu 3 [21] 24 (((decide (((ls.length:Nat) : Int)≤60))&&(decide (n≤3000)))) (fun K e=>?_) ?_
 refine bl 21 ((decide (((ls.length:Nat) : Int)≤60))) (fun a=>?_) (fun a=>?_)
 have t:=of_decide_eq_true a
 exact Pl 3<|ce e (decide (n≤3000)) (by rw[a];rfl)
 have t:=of_decide_eq_false a
 exact Pl 3<|ce e false (by rw[a];rfl)
 refine Pl 1<|nt<|rt<|rr (.bool ((decide (((ls.length:Nat) : Int)≤60))&&(decide (n≤3000))))<|?_
 have hs:((decide (((ls.length:Nat) : Int)≤60))&&(decide (n≤3000)))=ej ls:=by first | exact iE d (by omega) | (rw[← iE d (by omega)];simp only[b,bs,if_true,if_false,decide_true,decide_false,Bool.true_and,Bool.false_and])
 rw[hs]
 exact⟨rfl,c⟩
open Go.RowKit
structure Pc where
  bytes:List Int
  tick:Bool
def Pc.z:Pc:=⟨[],false⟩
def gc (n:Nat)(w:World)(v:Value)(b:List Int) : Prop:=aL false w v b∧∀ A k c,v = .slice A k c→0<k→∀ x,x∈ob A→x<n
theorem gc.of{m:Bool}{w:World}{v:Value}{b:List Int}(h:aL m w v b) : gc w.heap.size w v b:=⟨aG.any h (fun _ _ q=>q),fun A k c e hk=>by subst e;exact aG.low h hk⟩
theorem gc.nil{n:Nat}{w:World}:gc n w (.slice none 0 0) []:=⟨aG.nil ..,fun A k c e hk=>by injection e with _ e;omega⟩
theorem gc.upd{n:Nat}{w w':World}{X:List Nat}{v:Value}{b:List Int}(hu:aq X w w')(hx:∀ x,x∈X→n≤x)(h:gc n w v b) : gc n w' v b:=by
  obtain⟨A,c,rfl,_,_⟩:=h.1.shape
  exact⟨aL.far h.1 hu fun hn x hxA hxX=>Nat.lt_irrefl _ (Nat.lt_of_lt_of_le (h.2 A _ _ rfl hn x hxA) (hx x hxX)),h.2⟩
def vt (m:Bool)(w:World)(p:Pc)(cs:List Value) : Prop:=∃ v,cs=[v,.bool p.tick]∧aL m w v p.bytes
def eJ (n:Nat)(w:World)(p:Pc)(cs:List Value) : Prop:=∃ v,cs=[v,.bool p.tick]∧gc n w v p.bytes
def ms (n:Nat)(w:World)(b:List Int)(cs:List Value) : Prop:=∃ v,cs=[v]∧gc n w v b
abbrev gf (m:Bool) (w:World) (v:Value) (ps:List Pc) : Prop:=aG m 53 2 (vt m) w v ps
abbrev fb (n base:Nat) (w:World) (v:Value) (ps:List Pc) : Prop:=aN base 53 2 (eJ n) w v ps
theorem eJ.upd{n:Nat}{w w':World}{X:List Nat}(hu:aq X w w')(hx:∀ x,x∈X→n≤x)(p:Pc)(cs:List Value)(h:eJ n w p cs) : eJ n w' p cs:=by
  obtain⟨v,h1,h2⟩:=h
  exact⟨v,h1,gc.upd hu hx h2⟩
theorem ms.upd{n:Nat}{w w':World}{X:List Nat}(hu:aq X w w')(hx:∀ x,x∈X→n≤x)(p:List Int)(cs:List Value)(h:ms n w p cs) : ms n w' p cs:=by
  obtain⟨v,h1,h2⟩:=h
  exact⟨v,h1,gc.upd hu hx h2⟩
theorem ms.ones{n:Nat}{w:World}:∀ (x:List Int)(cs:List Value),ms n w x cs→∀ v,v∈cs→v.oneCell'=true:=fun x cs ⟨v,h1,h2⟩ u hu=>by
  rw[h1,List.mem_singleton] at hu
  obtain⟨A,c,e,_⟩:=h2.1.shape
  rw[hu,e]
  rfl
theorem eJ.ones{n:Nat}{w:World}:∀ (x:Pc)(cs:List Value),eJ n w x cs→∀ v,v∈cs→v.oneCell'=true:=fun x cs ⟨v,h1,h2⟩ u hu=>by
  rw[h1] at hu
  obtain⟨A,c,e,_⟩:=h2.1.shape
  rcases List.mem_cons.1 hu with e2|hu
  · rw[e2,e];rfl
  · rw[List.mem_singleton] at hu;rw[hu];rfl
theorem fb.any{n base:Nat}{w:World}{v:Value}{ps:List Pc}(h:fb n base w v ps) : gf false w v ps:=aG.any h.rd fun p cs ⟨v,h1,h2⟩=>⟨v,h1,h2.1⟩
theorem gf.old{m:Bool}{w w':World}{v:Value}{ps:List Pc}(h:gf m w v ps)(hu:aq [] w w') : gf m w' v ps:=aG.upd h hu (bN.nil _ _ _) fun x cs ⟨v,h1,h2⟩=>⟨v,h1,h2.old hu⟩
theorem gf.elt{m:Bool}{w:World}{A:Option Addr}{n c:Nat}{ps:List Pc}(h:gf m w (.slice A n c) ps)(j:Nat)(hj:j<ps.length) :
    ∃ b off cells t fr A' c',A=some ⟨b,off,none⟩∧w.heap[b]? = some (.cells cells t fr)∧aL m w (.slice A' (ps.getD j Pc.z).bytes.length c') (ps.getD j Pc.z).bytes∧((ps.getD j Pc.z).bytes.length≤c'∧c'≤maxLen)∧(cells.toList.drop (off+j*2)).take 2=[.slice A' (ps.getD j Pc.z).bytes.length c',.bool (ps.getD j Pc.z).tick]:=by
  obtain⟨b,off,cells,t,fr,cs,h1,h2,h3,⟨v,h4,h5⟩,h6⟩:=aG.elt h Pc.z j hj
  obtain⟨A',c',rfl,h7,h8⟩:=h5.shape
  exact⟨b,off,cells,t,fr,A',c',h1,h2,h5,⟨h7,h8⟩,h6.trans h4⟩
theorem gf.n{m:Bool}{w:World}{v:Value}{ps:List Pc}(h:gf m w v ps) : aG false 53 2 (eJ w.heap.size) w v ps:=aG.any h fun p cs ⟨v,h1,h2⟩=>⟨v,h1,gc.of h2⟩
theorem RdPn.old{n:Nat}{w w':World}{v:Value}{ps:List Pc}(h:aG false 53 2 (eJ n) w v ps)(hu:aq [] w w') : aG false 53 2 (eJ n) w' v ps:=aG.upd h hu (bN.nil _ _ _) fun x cs q=>eJ.upd hu (fun x hx=>by cases hx) x cs q
theorem RdPn.elt{n0:Nat}{w:World}{A:Option Addr}{n c:Nat}{ps:List Pc}(h:aG false 53 2 (eJ n0) w (.slice A n c) ps)(j:Nat)(hj:j<ps.length) :
    ∃ b off cells t fr A' c',A=some ⟨b,off,none⟩∧w.heap[b]? = some (.cells cells t fr)∧gc n0 w (.slice A' (ps.getD j Pc.z).bytes.length c') (ps.getD j Pc.z).bytes∧((ps.getD j Pc.z).bytes.length≤c'∧c'≤maxLen)∧(cells.toList.drop (off+j*2)).take 2=[.slice A' (ps.getD j Pc.z).bytes.length c',.bool (ps.getD j Pc.z).tick]:=by
  obtain⟨b,off,cells,t,fr,cs,h1,h2,h3,⟨v,h4,h5⟩,h6⟩:=aG.elt h Pc.z j hj
  obtain⟨A',c',rfl,h7,h8⟩:=h5.1.shape
  exact⟨b,off,cells,t,fr,A',c',h1,h2,h5,⟨h7,h8⟩,h6.trans h4⟩
theorem uI{n:Nat}{w0 w:World}{g:Nat}{cs:Array Value}{p:Pc}(hg:w0.heap.size≤g)(hb:w.heap[g]? = some (.cells cs 53 (0,0)))(h:eJ n w p cs.toList) : fb n w0.heap.size w (.slice (some ⟨g,0,none⟩) 1 1) [p]:=by
  have hl:cs.toList.length=2:=by
    obtain⟨v,h1,_⟩:=h
    rw[h1]
    rfl
  refine⟨cs.toList,⟨hl,.inr ⟨g,1,cs,rfl,hg,hb,Nat.le_refl _,by unfold maxLen;omega,by simpa using hl,by rw[List.take_of_length_le];exact Nat.le_of_eq hl⟩⟩,fun j y hj=>?_⟩
  cases j with
  | succ j=>simp at hj
  | zero =>
    have hj:p=y:=by simpa using hj
    subst hj
    exact⟨cs.toList,hl,h,fun i u hi=>by simpa using hi⟩
theorem ve{n:Nat}{w0 w:World}{g:Nat}{cs:Array Value}{b:List Int}(hg:w0.heap.size≤g)(hb:w.heap[g]? = some (.cells cs 27 (0,0)))(h:ms n w b cs.toList) : aN w0.heap.size 27 1 (ms n) w (.slice (some ⟨g,0,none⟩) 1 1) [b]:=by
  have hl:cs.toList.length=1:=by
    obtain⟨v,h1,_⟩:=h
    rw[h1]
    rfl
  refine⟨cs.toList,⟨hl,.inr ⟨g,1,cs,rfl,hg,hb,Nat.le_refl _,by unfold maxLen;omega,by simpa using hl,by rw[List.take_of_length_le];exact Nat.le_of_eq hl⟩⟩,fun j y hj=>?_⟩
  cases j with
  | succ j=>simp at hj
  | zero =>
    have hj:b=y:=by simpa using hj
    subst hj
    exact⟨cs.toList,hl,h,fun i u hi=>by simpa using hi⟩
section
variable {P:Program}{n:Nat}{D:List Deferred}{F:Fr}{w:World}{K:Fr→World→Prop}{Q:Exit→Act→World→Prop}{d:Option Tmp}{t:TypeId}{s:String}{af:Array Edge}{gu:Option (Nat × Bool)}
end
def XS.run (S:XS)(ps:List Pc) : XS × List Ev:=ps.foldl (fun p c=>((p.1.take c.bytes c.tick).1,p.2++(p.1.take c.bytes c.tick).2)) (S,[])
theorem jq:∀ (ps:List Pc)(S:XS)(K:List Ev),ps.foldl (fun p c=>((p.1.take c.bytes c.tick).1,p.2++(p.1.take c.bytes c.tick).2)) (S,K)=((S.run ps).1,K++(S.run ps).2)
  | [],S,K=>by simp[XS.run]
  | c :: t,S,K=>by
    unfold XS.run
    rw[List.foldl_cons,List.foldl_cons,jq t,jq t]
    simp
theorem gp(S:XS)(a b:List Pc) : S.run (a++b)=(((S.run a).1.run b).1,(S.run a).2++((S.run a).1.run b).2):=by
  unfold XS.run
  rw[List.foldl_append]
  exact jq b _ _
theorem du{ps:List Pc}{k:Nat}(hk:k<ps.length) : ps.take (k+1)=ps.take k++[ps.getD k Pc.z]:=by
  rw[List.take_succ_eq_append_getElem hk,List.getD_eq_getElem?_getD,List.getElem?_eq_getElem hk]
  rfl
theorem gq(S:XS)(p:Pc) : S.run [p]=S.take p.bytes p.tick:=by
  unfold XS.run
  simp
theorem pz{S0 S S2:XS}{ps:List Pc}{L L2:List Ev}{k:Nat}(hk:k<ps.length)(h:(S,L)=S0.run (ps.take k))(hX:S.take (ps.getD k Pc.z).bytes (ps.getD k Pc.z).tick=(S2,L2)) : (S2,L++L2)=S0.run (ps.take (k+1)):=by
  rw[du hk,gp,← h,gq,hX]
def dl (ps:List Pc) : Nat:=eq (ps.map Pc.bytes)
theorem iG{ps:List Pc}{k:Nat}(hk:k<ps.length) : dl (ps.take (k+1))=dl (ps.take k)+(ps.getD k Pc.z).bytes.length:=by
  unfold dl
  rw[du hk,List.map_append,fB]
  rfl
theorem fO{ps:List Pc}{k:Nat}(hk:k<ps.length) : (ps.getD k Pc.z).bytes.length+dl (ps.take k)≤dl ps:=by
  have h:=iG hk
  have e:ps=ps.take (k+1)++ps.drop (k+1):=(List.take_append_drop ..).symm
  have e2:dl ps=dl (ps.take (k+1))+dl (ps.drop (k+1)):=by
    conv=>lhs;rw[e]
    unfold dl
    rw[List.map_append,fB]
  omega
theorem be.take_le{n base s g c:Nat}{w:World}{A:Option Addr}{S S2:XS}{b:List Int}{t:Bool}{L:List Ev}(h:be n base w s g A c S)(hb:∀ x,x∈b→0≤x∧x<256)(hX:S.take b t=(S2,L)) : L.length≤b.length+2:=by
  have e:L=(S.take b t).2:=(congrArg Prod.snd hX).symm
  rw[e]
  have h:=h.2
  have hf:(S.feed b).2.length≤b.length+1:=by
    cases S with
    | r S=>exact Nat.le_trans (SS.feed_le (S:=S) (b:=b) rfl) (by omega)
    | a S=>exact Nat.le_trans (SA.feed_le h.2.2.1 hb rfl) (by omega)
    | m S=>exact Nat.le_trans (SM.feed_le h.2.2.1 hb rfl) (by omega)
  have ht:(S.feed b).1.tick.2.length≤1:=by
    cases S with
    | r S=>exact SS.tick_le (S:=(S.feed b).1) rfl
    | a S=>exact Nat.zero_le _
    | m S=>exact Nat.zero_le _
  unfold XS.take
  cases t
  · exact Nat.le_trans hf (by omega)
  · show(((S.feed b).2++(S.feed b).1.tick.2:List Ev)).length≤_
    rw[List.length_append]
    omega
open Go.RowKit
theorem OwnS.any{n base:Nat}{w:World}{v:Value}{ls:List (List Int)}(h:aN base 27 1 (ms n) w v ls) : kF false w v ls:=aG.any h.rd fun p cs ⟨v,h1,h2⟩=>⟨v,h1,h2.1⟩
theorem qV{L ps:List Pc}{k:Nat}(hL:L=ps.take k)(hk:k<ps.length) : L++[Pc.mk (ps.getD k Pc.z).bytes (ps.getD k Pc.z).tick]=ps.take (k+1):=by rw[du hk,hL]
theorem rl{L:List (List Int)}{ps:List Pc}{k:Nat}(hL:L=(ps.take k).map Pc.bytes)(hk:k<ps.length) : L++[(ps.getD k Pc.z).bytes]=(ps.take (k+1)).map Pc.bytes:=by rw[du hk,List.map_append,hL];rfl
theorem l9{m:Bool}{A:Option Addr}{cp:Nat}{ps:List Pc}{w:World}(h:gf m w (.slice A ps.length cp) ps)(hps:ps.length≤4398046511104)(hbb:∀ p,p∈ps→p.bytes.length≤140737488355328) : Calls Tryz.prog 25 #[.slice A ps.length cp] w (bg (.bool (ej (ps.map Pc.bytes))) w):=by
 have hz:=aG.len h
 refine en 21 Tryz.func25 rfl<|sg<|Pl 1<|ng<|Pl 1<|nt<|sq<|sg<|?_
 refine Pl 1<|nt<|bk<|?_
 refine g7 (fun x=>[(0,.slice A ps.length cp),(2,.bool false),(3,.slice x.2.2.1 x.2.1.length x.2.2.2),(4,.int .i64 ((x.1:Nat) : Int))]) (fun(x:Nat × List (List Int) × Option Addr × Nat) w'=>aq [] w w'∧aN w.heap.size 27 1 (ms w.heap.size) w' (.slice x.2.2.1 x.2.1.length x.2.2.2) x.2.1∧(x.1≤ps.length)∧(x.2.1.length≤x.1)∧(x.2.1=(ps.take x.1).map Pc.bytes)) (fun x=>ps.length-x.1) (0,[],none,0) ⟨aq.refl _ _,(aN.nil w.heap.size _ _ (ms w.heap.size) _),(by(try dsimp only);omega),(by(try dsimp only);exact Nat.le_refl _),rfl⟩ ?_
 rintro⟨k,L,B,cq⟩ q ⟨a,r,s,t,u⟩
 refine fZ [(0,.slice A ps.length cp),(2,.bool false),(3,.slice B L.length cq),(4,.int .i64 ((k:Nat) : Int))] ?_
 have c:aN w.heap.size 27 1 (ms w.heap.size) q (.slice B L.length cq) L:=r
 have R:k≤ps.length:=s
 have S:L.length≤k:=t
 have i:L=(ps.take k).map Pc.bytes:=u
 refine sq<|sg<|Pl 4<|nt<|cb ((decide (((k:Nat) : Int)<((ps.length:Nat) : Int)))) (fun d=>?_) (fun d=>?_)
 have y:=of_decide_eq_true d
 refine bD<|sq<|bk<|go<|Pl 3<|ow (gf.elt h k (by omega)) fun C D T U V j l E F G W H=>L0<|ji 2 ps.length k E (by omega)<|Pl 1<|?_
 refine L0<|iX (p:=⟨C,D+k*2+0,none⟩) (v:=.slice j ((ps.getD k Pc.z).bytes.length) l) (cy (ub a F) H 0 rfl (by decide))<|L0<|eS (m:=1) (e:=27) #[.slice j ((ps.getD k Pc.z).bytes.length) l] fun X Y I J f=>?_
 have g:=aE a f
 have K:=ve (n:=w.heap.size) (b:=(ps.getD k Pc.z).bytes) I J (⟨_,rfl,gc.upd g (fun x hx=>by cases hx) (gc.of (G))⟩)
 have o:=am c f (fun x hx=>ay) (ms.upd f (fun x hx=>by cases hx))
 refine L0<|tp (xs:=L) (ys:=([(ps.getD k Pc.z).bytes])) (.slice none 0 0) 1 24 o (K).rd ms.ones (fun w' hv=>ms.upd hv (au (fun x hx=>Nat.le_trans lr (dU o x hx)) av)) (by(try simp only[List.length_append,List.length_cons,List.length_nil,aS]);omega) (by(try simp only[List.length_append,List.length_cons,List.length_nil,aS]);omega) g.size fun M N Z O P a0=>Pl 1<|nl<|bn<|tn<|go<|Pl 1<|L0<|Oi (((k:Nat) : Int)+1)<|Pl 1<|nl<|?_
 exact dY ((k+1),(L++[(ps.getD k Pc.z).bytes]),M,N) ⟨(ut g P (au (bH c lr) av)),O,(by(try dsimp only);omega),(by(try dsimp only);simp only[List.length_append,List.length_cons,List.length_nil];omega),(by(try dsimp only);exact rl i (by omega))⟩ (by omega)
 have y:=of_decide_eq_false d
 refine xt<|tx<|tx<|bx<|tn<|sg<|Pl 1<|?_
 have hs:L=ps.map Pc.bytes:=by rw[i,List.take_of_length_le (by omega)]
 have hbb2:∀ x,x∈L→x.length≤140737488355328:=by rw[hs];intro x hx;obtain⟨p,hp,rfl⟩:=List.mem_map.1 hx;exact hbb p hp
 refine L0<|Oc<|m1 (o6 (OwnS.any c) hbb2) fun a1 Q=>Pl 1<|nt<|rt<|rr (.bool (ej L))<|?_
 rw[hs]
 exact⟨rfl,(aE a Q)⟩
open Go.RowKit
theorem tC{n n0 base s g c:Nat}{w:World}{A:Option Addr}{S:XS}{X:List Nat}(h:be n0 base w s g A c S)(k:nw n X w) : nw n (g :: X) w:=by
  obtain⟨t,cs,fr,q,h1,_⟩:=h.2.cells
  exact dk q h1 k
theorem qA{S0 S:XS}{L:List Ev}{ps:List Pc}{k:Nat}(h:(S,L)=XS.run S0 (ps.take k))(hk:ps.length≤k) : XS.run S0 ps=(S,L):=by
  rw[List.take_of_length_le hk] at h
  exact h.symm
def tv (r:XS × List Ev)(w:World)(e:Ending)(w':World) : Prop:=∃ v,e = .returned (.tuple #[v,.int .i64 ((r.1.held.length:Nat) : Int)])∧eR w.heap.size w' v r.2∧aq [] w w'
theorem pk{m:Bool}{A:Option Addr}{cp:Nat}{ps:List Pc}{w:World}{k0 d:Int}(hk:k0=0∨k0=1∨k0=2)(hd:d=0∨d=1)(h:gf m w (.slice A ps.length cp) ps)(hps:ps.length≤1000)(hsum:dl ps≤100000) : Calls Tryz.prog 26 #[.int .i64 k0,.int .i64 d,.slice A ps.length cp] w (tv (XS.run (XS.zero k0 d) ps) w):=by
 have hz:=aG.len h
 refine en 32 Tryz.func26 rfl<|sg<|Pl 2<|ng<|Pl 2<|L0<|Oc (args:=#[.int .i64 k0,.int .i64 d])<|vM (qx (k:=k0) (d:=d) hk hd) fun b i T ah F U G=>Pl 1<|nt<|sq<|?_
 refine sg<|Pl 2<|nt<|c0<|bD<|sg<|Pl 1<|nt<|sq<|?_
 refine sg<|Pl 3<|nt<|bk<|?_
 refine g7 (fun x=>[(6,.slice none 0 0),(7,.int .i64 0),(8,.pointer (some ⟨b,0,none⟩)),(9,.slice x.2.2.2.2.2.1 x.2.2.1.length x.2.2.2.2.2.2.1),(17,.slice A ps.length cp),(18,.int .i64 ((ps.length:Nat) : Int)),(19,.int .i64 ((x.1:Nat) : Int))]) (fun(x:Nat × XS × List Ev × Option Addr × Nat × Option Addr × Nat × Nat) w'=>aq [] w w'∧T.heap.size≤w'.heap.size∧be x.2.2.2.2.2.2.2 w.heap.size w' b i x.2.2.2.1 x.2.2.2.2.1 x.2.1∧ck x.2.2.2.2.2.2.2 w.heap.size w' (.slice x.2.2.2.2.2.1 x.2.2.1.length x.2.2.2.2.2.2.1) x.2.2.1∧(x.1≤ps.length)∧((x.2.1,x.2.2.1)=XS.run (XS.zero k0 d) (ps.take x.1))∧(x.2.2.1.length≤dl (ps.take x.1)+2*x.1)) (fun x=>ps.length-x.1) (0,(XS.zero k0 d),[],none,0,none,0,w.heap.size) ⟨G,lr,U,(aN.nil w.heap.size _ _ (aZ w.heap.size) _),(by(try dsimp only);omega),rfl,(by(try dsimp only);exact Nat.zero_le _)⟩ ?_
 rintro⟨k,S,L,Ah,ch,Bq,cq,n⟩ H ⟨l,I,V,W,X,Y,Z⟩
 refine fZ [(6,.slice none 0 0),(7,.int .i64 0),(8,.pointer (some ⟨b,0,none⟩)),(9,.slice Bq L.length cq),(17,.slice A ps.length cp),(18,.int .i64 ((ps.length:Nat) : Int)),(19,.int .i64 ((k:Nat) : Int))] ?_
 have a:be n w.heap.size H b i Ah ch S:=V
 have c:ck n w.heap.size H (.slice Bq L.length cq) L:=W
 have ai:k≤ps.length:=X
 have J:(S,L)=XS.run (XS.zero k0 d) (ps.take k):=Y
 have aj:L.length≤dl (ps.take k)+2*k:=Z
 refine sg<|Pl 1<|nt<|sq<|cb ((decide (((k:Nat) : Int)<((ps.length:Nat) : Int)))) (fun o=>?_) (fun o=>?_)
 have a0:=of_decide_eq_true o
 refine bD<|sq<|bk<|sg<|ow (gf.elt h k (by omega)) fun ak al an ao ap p r a1 a2 s ar a3=>L0<|ji 2 ps.length k a1 (by omega)<|?_
 refine L0<|ul [.slice p ((ps.getD k Pc.z).bytes.length) r,.bool ((ps.getD k Pc.z).tick)] (ub l a2) a3<|L0<|bz #[.slice none 0 0,.bool false] fun aw ax a4 a5 t=>L0<|b6 a5 #[.slice p ((ps.getD k Pc.z).bytes.length) r,.bool ((ps.getD k Pc.z).tick)] fun az a6 u=>nt<|go<|Pl 2<|L0<|c5 a6<|?_
 have v:=ud t u a4
 have K:=aE l v
 have M:=aL.old s K
 have hpart:=fO (ps:=ps) (k:=k) (by omega)
 have B:=be.old a v
 refine pr (XS.take S ((ps.getD k Pc.z).bytes) ((ps.getD k Pc.z).tick)) fun a7 N C=>?_
 have aA:=be.take_le B (aL.range M) C
 refine L0<|Oc (args:=#[.pointer (some ⟨b,0,none⟩),.agg #[.slice p ((ps.getD k Pc.z).bytes.length) r,.bool ((ps.getD k Pc.z).tick)]])<|?_
 refine(px C B M (q6 (aG.low (s)) F) (dL (aG.low (s)) (be.row B) lr) (by omega)).mono ?_
 rintro _ aB ⟨aC,a8,a9,O,rfl,ab,f,aD,ad,j⟩
 refine⟨_,rfl,?_⟩
 have P:=ab
 obtain⟨aF,aH,rfl,aI,aJ⟩:=aG.shape P.rd
 have Q:=ut (aq.mono (S':=(i :: (ob Ah++[]))) v av) j (ac im (au il av))
 have g:=am c Q (fun x hx=>(aa (fun e=>(be.gx a c (by decide)) (e▸hx)) (aM ((bW c (be.row a) (by decide)) x hx) ay))) (fun x cs q=>aZ.upd Q (tC a (eE (lM (Nat.le_refl _) (be.low a)) bu)) q)
 refine L0<|ff (R:=aZ O) (xs:=L) (ys:=N) (.agg #[.int .i64 0,.int .u8 0,.int .u16 0,.int .u8 0,.int .u8 0,.int .u16 0,.int .u16 0,.int .u16 0,.int .u16 0,.int .u16 0,.int .u16 0,.int .u16 0,.int .u16 0,.int .u16 0,.int .u16 0,.slice none 0 0,.slice none 0 0,.slice none 0 0,.slice none 0 0,.int .u8 0,.int .u8 0,.int .u8 0,.int .u8 0,.int .u8 0,.slice none 0 0]) 25 168 (ck.up ad (be.nle f) g) (P).rd aZ.ones (fun w' hv x cs q=>aZ.upd hv (fk g (by decide) bu) q) (by(try simp only[List.length_append,List.length_cons,List.length_nil,aS]);omega) (le (le (le (le G.size I) t.size) u.size) j.size) fun ae af aK ag D aO=>Pl 1<|nl<|bn<|tn<|go<|L0<|Oi (((k:Nat) : Int)+1)<|Pl 1<|nl<|?_
 exact dY ((k+1),a7,(L++N),a8,a9,ae,af,O) ⟨(ut K (ut (aq.mono (S':=(i :: (ob Ah++(ob Bq++[])))) j (ac im (au il av))) D (au il av)) (ac (nr F) (au (bH (be.row a) lr) (au (bH c lr) av)))),(le (le (le (le I t.size) u.size) j.size) D.size),(be.upd f D (aM (o8 (be.cells f) g (by decide)) ay) (aM (be.gx f g (by decide)) ay) (fun x hx=>(aM ((bW (be.row f) g (by decide)) x hx) ay))),ag,(by(try dsimp only);omega),(by(try dsimp only);exact pz (by omega) J C),(by(try dsimp only);have y:=iG (ps:=ps) (k:=k) (by omega);simp only[List.length_append];omega)⟩ (by omega)
 have a0:=of_decide_eq_false o
 refine xt<|tx<|tx<|bx<|tn<|sg<|Pl 2<|L0<|Oc<|m1 (q7 a) fun aP E=>Pl 2<|nt<|rt<|rr (.tuple #[.slice Bq L.length cq,.int .i64 ((S.held.length:Nat) : Int)])<|?_
 have hs:XS.run (XS.zero k0 d) ps=(S,L):=qA J (by omega)
 rw[hs]
 exact⟨_,rfl,ck.own (am c E (fun x hx=>ay) (fun x cs q=>aZ.upd E bu q)),(aE l E)⟩
theorem r4{m:Bool}{v:Value}{ps:List Pc}{w:World}{k0 d:Int}(hk:k0=0∨k0=1∨k0=2)(hd:d=0∨d=1)(h:gf m w v ps)(hps:ps.length≤1000)(hsum:dl ps≤100000) : Calls Tryz.prog 26 #[.int .i64 k0,.int .i64 d,v] w (tv (XS.run (XS.zero k0 d) ps) w):=by
  obtain⟨A,cp,rfl,_,_⟩:=h.shape
  exact pk hk hd h hps hsum
open Go.RowKit
theorem ju.ones{m:Bool}{w:World}(x:cK)(cs:List Value)(h:ju m w x cs) : ∀ v,v∈cs→v.oneCell'=true:=by
  obtain⟨s,h1,h2,_⟩:=h
  have h3:=h2.one
  intro v hv
  rw[h1,gP,Array.toList_append,List.mem_append] at hv
  rw[Array.all_eq_true'] at h3
  rcases hv with hv|hv
  · simp at hv;rcases hv with rfl | rfl<;>rfl
  · exact h3 v (by simpa using hv)
theorem uU{w0 w:World}{g:Nat}{cs:Array Value}{x:cK}(hg:w0.heap.size≤g)(hb:w.heap[g]? = some (.cells cs 33 (0,0)))(h:ju true w x cs.toList) : aN w0.heap.size 33 24 (ju true) w (.slice (some ⟨g,0,none⟩) 1 1) [x]:=by
  have hh:=h
  obtain⟨s,h1,h2⟩:=hh
  have hl:cs.toList.length=24:=by rw[h1];kernel_rfl
  clear h1
  refine⟨cs.toList,⟨hl,.inr ⟨g,1,cs,rfl,hg,hb,Nat.le_refl _,by unfold maxLen;omega,by simpa using hl,by rw[List.take_of_length_le];exact Nat.le_of_eq hl⟩⟩,fun j y hj=>?_⟩
  cases j with
  | succ j=>simp at hj
  | zero =>
    have hj:x=y:=by simpa using hj
    subst hj
    exact⟨cs.toList,hl,h,fun i u hi=>by simpa using hi⟩
def bZ (L:List Ev) : List cK:=(L.filter fun x=>x.e==0).map (·.f)
theorem mK{L:List Ev}{fs:List cK}{k:Nat}(hk:k<L.length)(h:fs=bZ (L.take k)) : (((L.getD k (Ev.bad 0)).e==0)=true→fs++[(L.getD k (Ev.bad 0)).f]=bZ (L.take (k+1)))∧(((L.getD k (Ev.bad 0)).e==0)=false→fs=bZ (L.take (k+1))):=by
  have e:bZ (L.take (k+1))=bZ (L.take k)++bZ [L.getD k (Ev.bad 0)]:=by
    unfold bZ
    rw[List.take_succ_eq_append_getElem hk,List.getD_eq_getElem?_getD,List.getElem?_eq_getElem hk,List.filter_append,List.map_append]
    rfl
  rw[e,← h]
  refine⟨fun q=>?_,fun q=>?_⟩
  · unfold bZ;rw[List.filter_cons,if_pos q];rfl
  · unfold bZ;rw[List.filter_cons,if_neg (by rw[q];simp)];simp
theorem jF{A:Option Addr}{cp:Nat}{L:List Ev}{w:World}(h:kP true w (.slice A L.length cp) L)(hL:L.length≤200000) : Calls Tryz.prog 39 #[.slice A L.length cp] w (fun e w'=>∃ v,e = .returned v∧aN w.heap.size 33 24 (ju true) w' v (bZ L)∧aq [] w w'):=by
 have hz:=aG.len h
 refine en 22 Tryz.func39 rfl<|sg<|Pl 1<|ng<|Pl 1<|nt<|sq<|sg<|?_
 refine Pl 3<|nt<|bk<|?_
 refine g7 (fun x=>[(2,.slice none 0 0),(3,.slice x.2.2.1 x.2.1.length x.2.2.2),(6,.slice A L.length cp),(7,.int .i64 ((L.length:Nat) : Int)),(8,.int .i64 ((x.1:Nat) : Int))]) (fun(x:Nat × List cK × Option Addr × Nat) w'=>aq [] w w'∧aN w.heap.size 33 24 (ju true) w' (.slice x.2.2.1 x.2.1.length x.2.2.2) x.2.1∧(x.1≤L.length)∧(x.2.1.length≤x.1)∧(x.2.1=bZ (L.take x.1))) (fun x=>L.length-x.1) (0,[],none,0) ⟨aq.refl _ _,(aN.nil w.heap.size _ _ (ju true) _),(by(try dsimp only);omega),(by(try dsimp only);exact Nat.le_refl _),rfl⟩ ?_
 rintro⟨k,fs,B,cq⟩ t ⟨g,u,y,z,C⟩
 refine fZ [(2,.slice none 0 0),(3,.slice B fs.length cq),(6,.slice A L.length cp),(7,.int .i64 ((L.length:Nat) : Int)),(8,.int .i64 ((k:Nat) : Int))] ?_
 have c:aN w.heap.size 33 24 (ju true) t (.slice B fs.length cq) fs:=u
 have U:k≤L.length:=y
 have V:fs.length≤k:=z
 have i:fs=bZ (L.take k):=C
 refine sg<|Pl 1<|nt<|sq<|cb ((decide (((k:Nat) : Int)<((L.length:Nat) : Int)))) (fun j=>?_) (fun j=>?_)
 have D:=of_decide_eq_true j
 refine bD<|sq<|bk<|sg<|ug (kP.elt h k (by omega) (Ev.bad 0)) fun W X Y Z a0 a E F n G=>L0<|ji 25 L.length k E (by omega)<|?_
 refine L0<|ul [.int .i64 ((L.getD k (Ev.bad 0)).e),.int .u8 ((L.getD k (Ev.bad 0)).f.unit),.int .u16 ((L.getD k (Ev.bad 0)).f.tid),.int .u8 ((L.getD k (Ev.bad 0)).f.msg.code),.int .u8 ((L.getD k (Ev.bad 0)).f.msg.fail),.int .u16 ((L.getD k (Ev.bad 0)).f.msg.addr),.int .u16 ((L.getD k (Ev.bad 0)).f.msg.count),.int .u16 ((L.getD k (Ev.bad 0)).f.msg.value),.int .u16 ((L.getD k (Ev.bad 0)).f.msg.and_),.int .u16 ((L.getD k (Ev.bad 0)).f.msg.or_),.int .u16 ((L.getD k (Ev.bad 0)).f.msg.addr2),.int .u16 ((L.getD k (Ev.bad 0)).f.msg.sub),.int .u16 ((L.getD k (Ev.bad 0)).f.msg.status),.int .u16 ((L.getD k (Ev.bad 0)).f.msg.events),.int .u16 ((L.getD k (Ev.bad 0)).f.msg.messages),.slice a.aw ((L.getD k (Ev.bad 0)).f.msg.words.length) a.kw,.slice a.ab ((L.getD k (Ev.bad 0)).f.msg.bits.length) a.kb,.slice a.ad ((L.getD k (Ev.bad 0)).f.msg.data.length) a.kd,.slice a.ar ((L.getD k (Ev.bad 0)).f.msg.recs.length) a.kr,.int .u8 ((L.getD k (Ev.bad 0)).f.msg.mei),.int .u8 ((L.getD k (Ev.bad 0)).f.msg.kind),.int .u8 ((L.getD k (Ev.bad 0)).f.msg.level),.int .u8 ((L.getD k (Ev.bad 0)).f.msg.more),.int .u8 ((L.getD k (Ev.bad 0)).f.msg.next),.slice a.ao ((L.getD k (Ev.bad 0)).f.msg.objects.length) a.ko] (ub g F) G<|L0<|bz #[.int .i64 0,.int .u8 0,.int .u16 0,.int .u8 0,.int .u8 0,.int .u16 0,.int .u16 0,.int .u16 0,.int .u16 0,.int .u16 0,.int .u16 0,.int .u16 0,.int .u16 0,.int .u16 0,.int .u16 0,.slice none 0 0,.slice none 0 0,.slice none 0 0,.slice none 0 0,.int .u8 0,.int .u8 0,.int .u8 0,.int .u8 0,.int .u8 0,.slice none 0 0] fun a1 a2 H I J=>L0<|b6 I (kN ⟨(L.getD k (Ev.bad 0)).e,(L.getD k (Ev.bad 0)).f⟩ a) fun a3 o K=>ng<|Pl 1<|L0<|aR o 0<|Pl 1<|nt<|?_
 have d:=ud J K H
 have p:=aE g d
 refine cb ((((L.getD k (Ev.bad 0)).e)==0)) (fun b=>?_) (fun b=>?_)
 have M:=aA b
 refine go<|Pl 2<|L0<|u4 o 1 24<|L0<|eS (m:=1) (e:=33) (nK ((L.getD k (Ev.bad 0)).f.unit) ((L.getD k (Ev.bad 0)).f.tid) ((L.getD k (Ev.bad 0)).f.msg) a) fun a4 a5 N O q=>?_
 have l:=aE p q
 have P:=uU N O ⟨a,rfl,(aU.old (n.1) l),n.2⟩
 have r:=aE d q
 have s:=am c r (fun x hx=>ay) (ju.upd r az)
 refine L0<|ff (xs:=fs) (ys:=([(L.getD k (Ev.bad 0)).f])) (.agg tJ) 24 160 s (P).rd ju.ones (fun w' hv=>ju.upd hv (bS (c9 _ s (by decide)) az)) (by(try simp only[List.length_append,List.length_cons,List.length_nil,aS]);omega) l.size fun Q R a6 S T a7=>Pl 1<|nl<|bn<|tn<|go<|L0<|Oi (((k:Nat) : Int)+1)<|Pl 1<|nl<|?_
 exact dY ((k+1),(fs++[(L.getD k (Ev.bad 0)).f]),Q,R) ⟨(ut l T (au (bH c lr) av)),S,(by(try dsimp only);omega),(by(try dsimp only);(try simp only[List.length_append,List.length_cons,List.length_nil]);omega),(by(try dsimp only);exact(mK (by omega) i).1 b)⟩ (by omega)
 have M:=aH b
 refine sk<|bn<|tn<|go<|L0<|Oi (((k:Nat) : Int)+1)<|Pl 1<|nl<|?_
 exact dY ((k+1),fs,B,cq) ⟨p,(am c d (fun x hx=>ay) (ju.upd d az)),(by(try dsimp only);omega),(by(try dsimp only);(try simp only[List.length_append,List.length_cons,List.length_nil]);omega),(by(try dsimp only);exact(mK (by omega) i).2 b)⟩ (by omega)
 have D:=of_decide_eq_false j
 refine xt<|tx<|tx<|bx<|tn<|sg<|Pl 2<|nt<|rt<|rr (.slice B fs.length cq)<|?_
 have hs:fs=bZ L:=by rw[i,List.take_of_length_le (by omega)]
 exact⟨_,rfl,by rw[← hs];exact c,g⟩
theorem lx{v:Value}{L:List Ev}{w:World}(h:kP true w v L)(hL:L.length≤200000) : Calls Tryz.prog 39 #[v] w (fun e w'=>∃ v,e = .returned v∧aN w.heap.size 33 24 (ju true) w' v (bZ L)∧aq [] w w'):=by
  obtain⟨A,cp,rfl,_,_⟩:=h.shape
  exact jF h hL
open Go.RowKit
theorem ke(S:SS) : S.feed []=(S,[]):=by
  obtain⟨d,h,o⟩:=S
  unfold SS.feed
  cases o
  · rw[if_neg (by simp),if_pos (by simp)]
    simp
  · rfl
theorem jX(S:SS)(a b:List Int) : S.feed (a++b)=(((S.feed a).1.feed b).1,(S.feed a).2++((S.feed a).1.feed b).2):=by
  obtain⟨d,h,o⟩:=S
  cases o
  · by_cases ha:a.length≤256-h.length
    · have e1:(SS.mk d h false).feed a=(⟨d,h++a,false⟩,[]):=by unfold SS.feed;rw[if_neg (by simp),if_pos (by simpa using ha)]
      rw[e1]
      by_cases hb:b.length≤256-(h++a).length∧(h++a).length≤256∨b.length=0
      · have e2:(SS.mk d (h++a) false).feed b=(⟨d,(h++a)++b,false⟩,[]):=by
          unfold SS.feed
          rw[if_neg (by simp),if_pos (by rw[decide_eq_true_eq];show b.length≤256-(h++a).length;omega)]
        have e3:(SS.mk d h false).feed (a++b)=(⟨d,h++(a++b),false⟩,[]):=by
          unfold SS.feed
          rw[if_neg (by simp),if_pos]
          rw[decide_eq_true_eq]
          show(a++b).length≤256-h.length
          rw[List.length_append] at hb ⊢
          omega
        rw[e2,e3]
        simp
      · have e2:(SS.mk d (h++a) false).feed b=(⟨d,[],true⟩,[Ev.bad 3]):=by
          unfold SS.feed
          rw[if_neg (by simp),if_neg]
          rw[decide_eq_true_eq]
          show ¬ b.length≤256-(h++a).length
          rw[List.length_append] at hb ⊢
          omega
        have e3:(SS.mk d h false).feed (a++b)=(⟨d,[],true⟩,[Ev.bad 3]):=by
          unfold SS.feed
          rw[if_neg (by simp),if_neg]
          rw[decide_eq_true_eq]
          show ¬ (a++b).length≤256-h.length
          rw[List.length_append] at hb ⊢
          omega
        rw[e2,e3]
        rfl
    · have e1:(SS.mk d h false).feed a=(⟨d,[],true⟩,[Ev.bad 3]):=by unfold SS.feed;rw[if_neg (by simp),if_neg (by simpa using ha)]
      have e3:(SS.mk d h false).feed (a++b)=(⟨d,[],true⟩,[Ev.bad 3]):=by
        unfold SS.feed
        rw[if_neg (by simp),if_neg]
        rw[decide_eq_true_eq]
        show ¬ (a++b).length≤256-h.length
        rw[List.length_append]
        omega
      rw[e1,e3]
      rfl
  · rfl
theorem kT:∀ (b:List Int)(T:SA)(K:List Ev),b.foldl (fun(p:SA × List Ev) c=>((p.1.byte c).1,p.2++(p.1.byte c).2)) (T,K)=((T.feed b).1,K++(T.feed b).2)
  | [],T,K=>by simp[SA.feed]
  | c :: t,T,K=>by
    unfold SA.feed
    rw[List.foldl_cons,List.foldl_cons,kT t,kT t]
    simp
theorem m8:∀ (b:List Int)(T:SM)(K:List Ev),b.foldl (fun(p:SM × List Ev) c=>((p.1.byte c).1,p.2++(p.1.byte c).2)) (T,K)=((T.feed b).1,K++(T.feed b).2)
  | [],T,K=>by simp[SM.feed]
  | c :: t,T,K=>by
    unfold SM.feed
    rw[List.foldl_cons,List.foldl_cons,m8 t,m8 t]
    simp
theorem jx(S:SA)(a b:List Int) : S.feed (a++b)=(((S.feed a).1.feed b).1,(S.feed a).2++((S.feed a).1.feed b).2):=by
  conv=>lhs;unfold SA.feed
  rw[List.foldl_append]
  exact kT b _ _
theorem jL(S:SM)(a b:List Int) : S.feed (a++b)=(((S.feed a).1.feed b).1,(S.feed a).2++((S.feed a).1.feed b).2):=by
  conv=>lhs;unfold SM.feed
  rw[List.foldl_append]
  exact m8 b _ _
theorem kC(S:XS) : S.feed []=(S,[]):=by
  cases S with
  | r S=>show(XS.r _,_)=_;rw[ke]
  | a S=>rfl
  | m S=>rfl
theorem gg(S:XS)(a b:List Int) : S.feed (a++b)=(((S.feed a).1.feed b).1,(S.feed a).2++((S.feed a).1.feed b).2):=by
  cases S with
  | r S=>show(XS.r _,_)=(XS.r _,_);rw[jX];rfl
  | a S=>show(XS.a _,_)=(XS.a _,_);rw[jx];rfl
  | m S=>show(XS.m _,_)=(XS.m _,_);rw[jL];rfl
theorem ld(S:XS)(b:List Int) : S.take b false=S.feed b:=rfl
theorem pA(S:XS)(a b:List Int)(t:Bool) : S.take (a++b) t=(((S.feed a).1.take b t).1,(S.feed a).2++((S.feed a).1.take b t).2):=by
  unfold XS.take
  cases t
  · simp only[cond_false]
    exact gg S a b
  · simp only[cond_true]
    rw[gg]
    simp
def qO (a:Int)(b:List Int) : Nat:=(a%(((b.length:Nat) : Int)+1)).toNat
def gi (a:Int)(p:Pc) : List Pc:=[Pc.mk (p.bytes.take (qO a p.bytes)) false,Pc.mk [] false,Pc.mk (p.bytes.drop (qO a p.bytes)) p.tick]
theorem jY(a:Int)(S:XS)(p:Pc) : S.run (gi a p)=S.take p.bytes p.tick:=by
  have h:=pA S (p.bytes.take (qO a p.bytes)) (p.bytes.drop (qO a p.bytes)) p.tick
  rw[List.take_append_drop] at h
  rw[h]
  unfold gi XS.run
  simp only[List.foldl_cons,List.foldl_nil,ld,kC]
  simp
theorem hM{f:Pc→List Pc}(hf:∀ S p,XS.run S (f p)=S.take p.bytes p.tick) : ∀ (ps:List Pc)(S:XS),S.run (ps.flatMap f)=S.run ps
  | [],S=>rfl
  | p :: t,S=>by
    rw[List.flatMap_cons,gp,hf,hM hf t,show p :: t=[p]++t from rfl,gp,gq]
theorem iD{f:Pc→List Pc}{ps L:List Pc}{k:Nat}(hk:k<ps.length)(hL:L=(ps.take k).flatMap f) : L++f (ps.getD k Pc.z)=(ps.take (k+1)).flatMap f:=by
  rw[du hk,List.flatMap_append,hL]
  simp
theorem gR{f:Pc→List Pc}(hf:∀ p,dl (f p)=p.bytes.length) : ∀ ps,dl (ps.flatMap f)=dl ps
  | []=>rfl
  | p :: t=>by
    have h:=gR hf t
    have e:dl (f p++t.flatMap f)=dl (f p)+dl (t.flatMap f):=by unfold dl;rw[List.map_append,fB]
    rw[List.flatMap_cons,e,h,hf]
    rfl
theorem km(a:Int)(p:Pc) : dl (gi a p)=p.bytes.length:=by
  unfold gi dl
  simp only[List.map_cons,List.map_nil,eq,List.length_take,List.length_drop,List.length_nil]
  omega
theorem pB{ps:List Pc}(h:ej (ps.map Pc.bytes)=true) : ps.length≤60∧dl ps≤3000:=by
  unfold ej at h
  rw[Bool.and_eq_true,decide_eq_true_eq,decide_eq_true_eq,List.length_map] at h
  exact h
open Go.RowKit
theorem qe{w:World}{g:Nat}{cs:Array Value}{t:TypeId}{fr:Nat × Nat}{ps:List Pc}(hb:w.heap[g]? = some (.cells cs t fr))(hl:ps.length≤maxLen)(h:∀ j,j<ps.length→∃ v,(cs.toList.drop (j*2)).take 2=[v,.bool (ps.getD j Pc.z).tick]∧aL false w v (ps.getD j Pc.z).bytes) : gf false w (.slice (some ⟨g,0,none⟩) ps.length ps.length) ps:=by
  refine⟨_,_,rfl,Nat.le_refl _,hl,(fun e=>by cases e),fun hp=>⟨g,0,cs,t,fr,rfl,hb,(fun e=>by cases e),fun j x hj=>?_⟩⟩
  have hlt:=(List.getElem?_eq_some_iff.1 hj).1
  obtain⟨v,h1,h2⟩:=h j hlt
  have hx:ps.getD j Pc.z=x:=by rw[List.getD_eq_getElem?_getD,hj];rfl
  rw[hx] at h1 h2
  refine⟨[v,.bool x.tick],rfl,⟨v,rfl,h2⟩,fun i u hi=>?_⟩
  rw[← h1] at hi
  rw[List.getElem?_take] at hi
  split at hi
  · rw[List.getElem?_drop] at hi
    rw[Nat.zero_add,← Array.getElem?_toList]
    exact hi
  · cases hi
theorem tH{m m':Bool}{w:World}{g:Nat}{t:TypeId}{fr:Nat × Nat}{v v':Value}{p p':Pc}(hb:w.heap[g]? = some (.cells #[v,.bool p.tick,v',.bool p'.tick] t fr))(h:aL m w v p.bytes)(h':aL m' w v' p'.bytes) : gf false w (.slice (some ⟨g,0,none⟩) 2 2) [p,p']:=by
  refine qe (ps:=[p,p']) hb (by unfold maxLen;simp) fun j hj=>?_
  match j,hj with
  | 0,_=>exact⟨v,rfl,aG.any h fun _ _ q=>q⟩
  | 1,_=>exact⟨v',rfl,aG.any h' fun _ _ q=>q⟩
theorem qD{n:Nat}{w0 w:World}{g:Nat}{cs:Array Value}{ps:List Pc}(hg:w0.heap.size≤g)(hb:w.heap[g]? = some (.cells cs 53 (0,0)))(hl:ps.length≤4)(hs:cs.toList.length=ps.length*2)(h:∀ j,j<ps.length→eJ n w (ps.getD j Pc.z) ((cs.toList.drop (j*2)).take 2)) : fb n w0.heap.size w (.slice (some ⟨g,0,none⟩) ps.length ps.length) ps:=by
  refine⟨cs.toList,⟨hs,.inr ⟨g,ps.length,cs,rfl,hg,hb,Nat.le_refl _,by unfold maxLen;omega,by simpa using hs,by rw[List.take_of_length_le];exact Nat.le_of_eq hs⟩⟩,fun j x hj=>?_⟩
  have hlt:=(List.getElem?_eq_some_iff.1 hj).1
  have hx:ps.getD j Pc.z=x:=by rw[List.getD_eq_getElem?_getD,hj];rfl
  have k:=h j hlt
  rw[hx] at k
  have kl:((cs.toList.drop (j*2)).take 2).length=2:=by rw[List.length_take,List.length_drop];omega
  refine⟨_,kl,k,fun i u hi=>?_⟩
  rw[List.getElem?_take] at hi
  split at hi
  · rw[List.getElem?_drop] at hi;exact hi
  · cases hi
theorem rU{n:Nat}{w0 w:World}{g:Nat}{v0 v1 v2:Value}{p0 p1 p2:Pc}(hg:w0.heap.size≤g)(hb:w.heap[g]? = some (.cells #[v0,.bool p0.tick,v1,.bool p1.tick,v2,.bool p2.tick] 53 (0,0)))(h0:eJ n w p0 [v0,.bool p0.tick])(h1:eJ n w p1 [v1,.bool p1.tick])(h2:eJ n w p2 [v2,.bool p2.tick]) : fb n w0.heap.size w (.slice (some ⟨g,0,none⟩) 3 3) [p0,p1,p2]:=by
  refine qD (ps:=[p0,p1,p2]) hg hb (by simp) rfl fun j hj=>?_
  match j,hj with
  | 0,_=>exact h0
  | 1,_=>exact h1
  | 2,_=>exact h2
theorem dR{m:Bool}{v:Value}{ps:List Pc}{w:World}{k0 d:Int}{S:XS}{L:List Ev}(hX:XS.run (XS.zero k0 d) ps=(S,L))(hk:k0=0∨k0=1∨k0=2)(hd:d=0∨d=1)(h:gf m w v ps)(hps:ps.length≤1000)(hsum:dl ps≤100000) : Calls Tryz.prog 26 #[.int .i64 k0,.int .i64 d,v] w (fun e w'=>∃ v,e = .returned (.tuple #[v,.int .i64 ((S.held.length:Nat) : Int)])∧eR w.heap.size w' v L∧aq [] w w'):=by
  have k:=r4 hk hd h hps hsum
  rw[hX] at k
  exact k
theorem o9{m:Bool}{v:Value}{ps:List Pc}{w:World}(h:gf m w v ps)(hbb:∀ p,p∈ps→p.bytes.length≤140737488355328)(hps:ps.length≤4398046511104) : Calls Tryz.prog 25 #[v] w (bg (.bool (ej (ps.map Pc.bytes))) w):=by
  obtain⟨A,cp,rfl,_,_⟩:=h.shape
  exact l9 h hps hbb
open Go.RowKit
theorem tN:ed 0 [1,7,65,226]=(⟨1,0,nM⟩,0):=by decide +kernel
theorem tE:XS.run (XS.zero 0 0) [Pc.mk [1,7] false,Pc.mk [65,226] true]=((XS.r ⟨0,[],false⟩),[⟨0,⟨1,0,nM⟩⟩]):=by
  have e1:(SS.mk 0 [] false).feed [1,7]=(SS.mk 0 [1,7] false,[]):=rfl
  have e2:(SS.mk 0 [1,7] false).feed [65,226]=(SS.mk 0 [1,7,65,226] false,[]):=rfl
  have e3:(SS.mk 0 [1,7,65,226] false).tick=(SS.mk 0 [] false,[⟨0,⟨1,0,nM⟩⟩]):=by
    unfold SS.tick
    rw[if_neg (by decide),tN]
  have h1:(XS.zero 0 0).take [1,7] false=(XS.r (SS.mk 0 [1,7] false),[]):=rfl
  have h2:(XS.r (SS.mk 0 [1,7] false)).take [65,226] true=((XS.r ⟨0,[],false⟩),[⟨0,⟨1,0,nM⟩⟩]):=by
    show(XS.r ((SS.mk 0 [1,7] false).feed [65,226]).1.tick.1,((SS.mk 0 [1,7] false).feed [65,226]).2++((SS.mk 0 [1,7] false).feed [65,226]).1.tick.2)=_
    rw[e2,e3]
    rfl
  have g1:(XS.zero 0 0).run [Pc.mk [1,7] false]=(XS.r (SS.mk 0 [1,7] false),[]):=(gq _ _).trans h1
  have g2:(XS.r (SS.mk 0 [1,7] false)).run [Pc.mk [65,226] true]=((XS.r ⟨0,[],false⟩),[⟨0,⟨1,0,nM⟩⟩]):=(gq _ _).trans h2
  rw[show[Pc.mk [1,7] false,Pc.mk [65,226] true]=[Pc.mk [1,7] false]++[Pc.mk [65,226] true] from rfl,gp,g1]
  show(((XS.r (SS.mk 0 [1,7] false)).run [Pc.mk [65,226] true]).1,[]++((XS.r (SS.mk 0 [1,7] false)).run [Pc.mk [65,226] true]).2)=_
  rw[g2]
  rfl
theorem rq{w:World}:Calls Tryz.prog 24 #[] w (bg (.bool true) w):=by
 refine en 39 Tryz.func24 rfl<|sg<|Pl 1<|ng<|L0<|eS (m:=2) (e:=5) #[.int .u8 1,.int .u8 7] fun k E l n o=>?_
 have q:=ia l (xs:=[1,7]) (by as_aux_lemma=>kernel_rfl) (aF (by omega) (aF (by omega) cQ)) (by(try simp only[List.length_cons,List.length_nil]);omega) n
 refine Pl 1<|L0<|eS (m:=2) (e:=5) #[.int .u8 65,.int .u8 226] fun r F s t u=>?_
 have y:=ia s (xs:=[65,226]) (by as_aux_lemma=>kernel_rfl) (aF (by omega) (aF (by omega) cQ)) (by(try simp only[List.length_cons,List.length_nil]);omega) t
 refine Pl 1<|L0<|eS (m:=2) (e:=53) #[.slice (some ⟨k,0,none⟩) 2 2,.bool false,.slice (some ⟨r,0,none⟩) 2 2,.bool true] fun z G H A a=>?_
 have b:=aE u a
 have B:=tH (p:=(Pc.mk ([1,7]) false)) (p':=(Pc.mk ([65,226]) true)) A ((am q b (fun x hx=>ay) (fun _ _ h=>h))).rd ((am y a (fun x hx=>ay) (fun _ _ h=>h))).rd
 refine L0<|Oc (args:=#[.int .i64 0,.int .i64 0,.slice (some ⟨z,0,none⟩) 2 2])<|pu (dR tE (show 0=0∨0=1∨0=2 by decide) (show 0=0∨0=1 by decide) B (by decide) (by decide)) fun I J K c M N C=>Pl 5<|nt<|sq<|sg<|Pl 3<|nt<|c0<|bD<|sq<|?_
 refine go<|Pl 1<|ug (kP.elt (c).rd 0 (by decide) (Ev.bad 0)) fun d f O P Q R g i S j=>L0<|ji 25 1 0 g (by omega)<|Pl 1<|L0<|iX (p:=⟨d,f+0*25+0,none⟩) (v:=.int .i64 0) (cy i j 0 (by kernel_rfl) (by decide))<|Pl 3<|L1<|ji 25 1 0 g (by omega)<|Pl 3<|L1<|iX (p:=⟨d,f+0*25+1+2+0,none⟩) (v:=.int .u8 7) (cy i j 3 (by kernel_rfl) (by decide))<|Pl 8<|L1<|Oc<|pu (lx (L:=[⟨0,⟨1,0,nM⟩⟩]) (c).rd (by decide)) fun T U V W X Y D=>Pl 4<|nl<|?_
 refine tn<|rt<|rr (.bool true)<|?_
 exact⟨rfl,(aE o (aE b (aE C D)))⟩
open Go.RowKit
theorem lA{m m':Bool}{A B:Option Addr}{c d:Nat}{xs ys:List Int}{w:World}(h1:aL m w (.slice A xs.length c) xs)(h2:aL m' w (.slice B ys.length d) ys) :
    Calls Tryz.prog 33 #[.slice A xs.length c,.slice B ys.length d] w (bg (.bool (decide (xs=ys))) w):=by
 refine en 10 Tryz.func33 rfl<|sg<|Pl 1<|ng<|Pl 1<|L0<|fN (.string (strOfNums xs)) (bQ (A:=A) (n:=xs.length) (c:=c) rfl (by kernel_rfl) Tryz.underlying27 Tryz.underlying5 Tryz.underlying9 h1)<|Pl 1<|L0<|fN (.string (strOfNums ys)) (bQ (A:=B) (n:=ys.length) (c:=d) rfl (by kernel_rfl) Tryz.underlying27 Tryz.underlying5 Tryz.underlying9 h2)<|L0<|fN (.bool (decide (xs=ys))) (dC (a:=(strOfNums xs)) (b:=(strOfNums ys)) rfl (by kernel_rfl) (by kernel_rfl) (fI h1 h2))<|Pl 1<|nl<|?_
 refine tn<|rt<|rr (.bool (decide (xs=ys)))<|?_
 exact⟨rfl,(aq.refl [] _)⟩
theorem iJ{m m':Bool}{a b:Value}{xs ys:List Int}{w:World}(h1:aL m w a xs)(h2:aL m' w b ys) : Calls Tryz.prog 33 #[a,b] w (bg (.bool (decide (xs=ys))) w):=by
  obtain⟨A,c,rfl,_,_⟩:=h1.shape
  obtain⟨B,d,rfl,_,_⟩:=h2.shape
  exact lA h1 h2
open Go.RowKit
theorem dW{α:Type}{xs ys:List α}{k:Nat}(h:xs.take k=ys.take k)(h1:k=xs.length)(h2:xs.length=ys.length) : xs=ys:=by
  rw[List.take_of_length_le (by omega),List.take_of_length_le (by omega)] at h
  exact h
theorem ik{m m':Bool}{A B:Option Addr}{c d:Nat}{xs ys:List Int}{w:World}(h1:dr m w (.slice A xs.length c) xs)(h2:dr m' w (.slice B ys.length d) ys) :
    Calls Tryz.prog 42 #[.slice A xs.length c,.slice B ys.length d] w (bg (.bool (decide (xs=ys))) w):=by
 have hz1:=aG.len h1
 have hz2:=aG.len h2
 refine en 26 Tryz.func42 rfl<|sg<|Pl 1<|nt<|sq<|sg<|Pl 5<|nt<|cb ((((xs.length:Nat) : Int)!=((ys.length:Nat) : Int))) (fun g=>?_) (fun g=>?_)
 have j:=ax g
 refine sg<|Pl 1<|nt<|rt<|tr<|rr (.bool false)<|?_
 have hs:decide (xs=ys)=false:=decide_eq_false (fun e=>by rw[e] at j;omega)
 rw[hs]
 exact⟨rfl,(aq.refl [] _)⟩
 have j:=ag g
 refine bD<|sq<|sg<|Pl 1<|nt<|bk<|?_
 refine g7 (fun x=>[(0,.slice A xs.length c),(1,.slice B ys.length d),(5,.int .i64 ((x:Nat) : Int))]) (fun(x:Nat) w'=>aq [] w w'∧(xs.take x=ys.take x)∧(x≤xs.length)) (fun x=>xs.length-x) 0 ⟨aq.refl _ _,(by(try dsimp only);simp),(by(try dsimp only);omega)⟩ ?_
 rintro k E ⟨b,p,q⟩
 refine fZ [(0,.slice A xs.length c),(1,.slice B ys.length d),(5,.int .i64 ((k:Nat) : Int))] ?_
 have l:xs.take k=ys.take k:=p
 have F:k≤xs.length:=q
 refine sq<|sg<|Pl 4<|nt<|cb ((decide (((k:Nat) : Int)<((xs.length:Nat) : Int)))) (fun h=>?_) (fun h=>?_)
 have r:=of_decide_eq_true h
 refine bD<|sq<|bk<|sq<|?_
 refine fA (dr.at_ (dr.old h1 b) k (by omega)) fun s t u v G=>?_
 refine fA (dr.at_ (dr.old h2 b) k (by omega)) fun y z C D H=>Rg 9 (fun w'=>w'.cell? ⟨s,t+k,none⟩=some (.int .u16 (xs.getD k 0))∧w'.cell? ⟨y,z+k,none⟩=some (.int .u16 (ys.getD k 0))) fun I i=>b9 ⟨(uc i v),(uc i D)⟩ fun a=>Rt 0 a<|Rt 1 a<|lN 2 a xs.length k ((k:Nat) : Int) rfl u (by omega)<|Rl 3 a (fun _ hs=>hs.1)<|Rt 4 a<|Rt 5 a<|lN 6 a ys.length k ((k:Nat) : Int) rfl C (by omega)<|Rl 7 a (fun _ hs=>hs.2)<|Rt 8 a<|re<|tn<|?_
 have n:=aE b i
 refine cb (((xs.getD k 0)!=(ys.getD k 0))) (fun f=>?_) (fun f=>?_)
 have o:=ax f
 refine sg<|Pl 1<|nt<|rt<|br<|tr<|tr<|br<|tr<|rr (.bool false)<|?_
 have hs:decide (xs=ys)=false:=decide_eq_false (tL (d:=0) k (by simpa using f))
 rw[hs]
 exact⟨rfl,n⟩
 have o:=ag f
 exact sk<|bn<|tn<|go<|Pl 1<|L0<|Oi (((k:Nat) : Int)+1)<|Pl 1<|nl<|dY (k+1) ⟨n,(oX (d:=0) (by omega) (by omega) l o),(by(try dsimp only);omega)⟩ (by omega)
 have r:=of_decide_eq_false h
 refine xt<|tx<|tx<|bx<|tn<|sg<|Pl 1<|nt<|rt<|rr (.bool true)<|?_
 have hs:decide (xs=ys)=true:=decide_eq_true (dW l (by omega) (by omega))
 rw[hs]
 exact⟨rfl,b⟩
theorem fj{m m':Bool}{a b:Value}{xs ys:List Int}{w:World}(h1:dr m w a xs)(h2:dr m' w b ys) : Calls Tryz.prog 42 #[a,b] w (bg (.bool (decide (xs=ys))) w):=by
  obtain⟨A,c,rfl,_,_⟩:=h1.shape
  obtain⟨B,d,rfl,_,_⟩:=h2.shape
  exact ik h1 h2
theorem i8{m m':Bool}{A B:Option Addr}{c d:Nat}{xs ys:List Bool}{w:World}(h1:iQ m w (.slice A xs.length c) xs)(h2:iQ m' w (.slice B ys.length d) ys) :
    Calls Tryz.prog 43 #[.slice A xs.length c,.slice B ys.length d] w (bg (.bool (decide (xs=ys))) w):=by
 have hz1:=aG.len h1
 have hz2:=aG.len h2
 refine en 26 Tryz.func43 rfl<|sg<|Pl 1<|nt<|sq<|sg<|Pl 5<|nt<|cb ((((xs.length:Nat) : Int)!=((ys.length:Nat) : Int))) (fun f=>?_) (fun f=>?_)
 have j:=ax f
 refine sg<|Pl 1<|nt<|rt<|tr<|rr (.bool false)<|?_
 have hs:decide (xs=ys)=false:=decide_eq_false (fun e=>by rw[e] at j;omega)
 rw[hs]
 exact⟨rfl,(aq.refl [] _)⟩
 have j:=ag f
 refine bD<|sq<|sg<|Pl 1<|nt<|bk<|?_
 refine g7 (fun x=>[(0,.slice A xs.length c),(1,.slice B ys.length d),(5,.int .i64 ((x:Nat) : Int))]) (fun(x:Nat) w'=>aq [] w w'∧(xs.take x=ys.take x)∧(x≤xs.length)) (fun x=>xs.length-x) 0 ⟨aq.refl _ _,(by(try dsimp only);simp),(by(try dsimp only);omega)⟩ ?_
 rintro k D ⟨b,o,p⟩
 refine fZ [(0,.slice A xs.length c),(1,.slice B ys.length d),(5,.int .i64 ((k:Nat) : Int))] ?_
 have l:xs.take k=ys.take k:=o
 have E:k≤xs.length:=p
 refine sq<|sg<|Pl 4<|nt<|cb ((decide (((k:Nat) : Int)<((xs.length:Nat) : Int)))) (fun g=>?_) (fun g=>?_)
 have q:=of_decide_eq_true g
 refine bD<|sq<|bk<|sq<|?_
 refine t7 (iQ.at_ (iQ.old h1 b) k (by omega)) fun r s t u=>?_
 refine t7 (iQ.at_ (iQ.old h2 b) k (by omega)) fun v y z C=>Rg 9 (fun w'=>w'.cell? ⟨r,s+k,none⟩=some (.bool (xs.getD k false))∧w'.cell? ⟨v,y+k,none⟩=some (.bool (ys.getD k false))) fun F h=>b9 ⟨(uc h u),(uc h C)⟩ fun a=>Rt 0 a<|Rt 1 a<|lN 2 a xs.length k ((k:Nat) : Int) rfl t (by omega)<|Rl 3 a (fun _ hs=>hs.1)<|Rt 4 a<|Rt 5 a<|lN 6 a ys.length k ((k:Nat) : Int) rfl z (by omega)<|Rl 7 a (fun _ hs=>hs.2)<|Rt 8 a<|re<|tn<|?_
 have n:=aE b h
 refine cb (((xs.getD k false)!=(ys.getD k false))) (fun i=>?_) (fun i=>?_)
 refine sg<|Pl 1<|nt<|rt<|br<|tr<|tr<|br<|tr<|rr (.bool false)<|?_
 have hs:decide (xs=ys)=false:=decide_eq_false (tL (d:=false) k (by simpa using i))
 rw[hs]
 exact⟨rfl,n⟩
 exact sk<|bn<|tn<|go<|Pl 1<|L0<|Oi (((k:Nat) : Int)+1)<|Pl 1<|nl<|dY (k+1) ⟨n,(oX (d:=false) (by omega) (by omega) l (by simpa using i)),(by(try dsimp only);omega)⟩ (by omega)
 have q:=of_decide_eq_false g
 refine xt<|tx<|tx<|bx<|tn<|sg<|Pl 1<|nt<|rt<|rr (.bool true)<|?_
 have hs:decide (xs=ys)=true:=decide_eq_true (dW l (by omega) (by omega))
 rw[hs]
 exact⟨rfl,b⟩
theorem jn{m m':Bool}{a b:Value}{xs ys:List Bool}{w:World}(h1:iQ m w a xs)(h2:iQ m' w b ys) : Calls Tryz.prog 43 #[a,b] w (bg (.bool (decide (xs=ys))) w):=by
  obtain⟨A,c,rfl,_,_⟩:=h1.shape
  obtain⟨B,d,rfl,_,_⟩:=h2.shape
  exact i8 h1 h2
end Go.Proofs.YtpglhicfhppaiaaGreat
