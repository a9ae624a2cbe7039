/- Contracts of functions, part CStreamParts4. -/
import Derived.Test.YtpglhicfhppaiaaGreatCStreamParts1
import Derived.Test.YtpglhicfhppaiaaGreatCStreamParts2
import Derived.Test.YtpglhicfhppaiaaGreatCStreamParts3
import Derived.Scope
import Derived.Lib.ConvBytes
import Derived.Lib.OthersKept
import Derived.Shelf.Strings.Builder1
import Derived.Lib.SlBytesConst
set_option linter.unusedVariables false
set_option linter.unusedSimpArgs false
set_option maxRecDepth 100000
set_option maxHeartbeats 4000000
namespace Go.Proofs.YtpglhicfhppaiaaGreat
open Go.RowKit
structure SM where
  dir:Int
  held:List Int
  skip:Int
theorem qg{a b:Int}(ha:0≤a∧a<256)(hb:0≤b∧b<256) : bits .or .i64 (a*256) b=a*256+b:=by
  obtain⟨A,rfl⟩:=Int.eq_ofNat_of_zero_le ha.1
  obtain⟨B,rfl⟩:=Int.eq_ofNat_of_zero_le hb.1
  have e:((A:Int)*256)=((A*256:Nat) : Int):=by omega
  rw[e]
  show IntKind.i64.wrap ((BitVec.ofInt 64 ((A*256:Nat) : Int) ||| BitVec.ofInt 64 (B:Int)).toNat:Int)=_
  rw[BitVec.toNat_or,BitVec.ofInt_natCast,BitVec.ofInt_natCast,BitVec.toNat_ofNat,BitVec.toNat_ofNat,Nat.mod_eq_of_lt (by omega),Nat.mod_eq_of_lt (by omega)]
  have h:=Nat.shiftLeft_add_eq_or_of_lt (i:=8) (b:=B) (by omega) A
  rw[Nat.shiftLeft_eq] at h
  rw[← h,i64_in (by omega)]
  omega
def SM.size (S:SM) : Int:=S.held.getD 4 0*256+S.held.getD 5 0
def SM.nx (S:SM) : Nat:=if S.held.length<6 then 0 else if 254<S.size then 1 else if S.size<2 then 2 else if (S.held.length:Int)=6+S.size then 3 else 0
def SM.does (S:SM) : SM × List Ev:=match S.nx with
  | 1=>(⟨S.dir,[],S.size⟩,[Ev.bad 3])
  | 2=>(⟨S.dir,[],S.size⟩,[Ev.bad 5])
  | 3=>(⟨S.dir,[],S.skip⟩,[⟨(c8 S.dir S.held).2,(c8 S.dir S.held).1⟩])
  | _=>(S,[])
def SM.byte (S:SM)(c:Int) : SM × List Ev:=if 0<S.skip then (⟨S.dir,S.held,S.skip-1⟩,[]) else (SM.mk S.dir (S.held++[c]) S.skip).does
def SM.feed (S:SM)(b:List Int) : SM × List Ev:=b.foldl (fun p c=>((p.1.byte c).1,p.2++(p.1.byte c).2)) (S,[])
abbrev vy (S:SM) (A:Option Addr) (cp:Nat) : Array Value:=#[.int .i64 S.dir,.slice A S.held.length cp,.int .i64 S.skip]
abbrev ib (w:World) (g:Nat) (S:SM) (A:Option Addr) (cp:Nat) : Prop:=w.heap[g]? = some (.cells (vy S A cp) 131 (0,0))
theorem SM.size_rng{S:SM}(h:∀ x,x∈S.held→0≤x∧x<256) : 0≤S.size∧S.size<65536:=by
  have hd:∀ j,0≤S.held.getD j 0∧S.held.getD j 0<256:=fun j=>by
    rw[List.getD_eq_getElem?_getD]
    cases hj:S.held[j]? with
    | none=>simp
    | some x=>exact h x (List.mem_of_getElem? hj)
  have h4:=hd 4
  have h5:=hd 5
  unfold SM.size
  omega
def t3 (S:SM)(L:List Ev)(g:Nat)(w:World)(e:Ending)(w':World) : Prop:=∃ v,e = .returned v∧dZ w.heap.size w' v L∧ib w' g S none 0∧ax [g] w w'
theorem lY{w:World}:Calls Tryz.prog 48 #[.int .i64 0] w (fun e w'=>∃ g,e = .returned (.pointer (some ⟨g,0,none⟩))∧w.heap.size≤g∧ib w' g ⟨0,[],0⟩ none 0∧ax [] w w'):=by
 refine en 12 Tryz.func48 rfl<|sg<|Pl 1<|nt<|sq<|sg<|Pl 6<|nt<|c0<|sk<|?_
 refine tn<|sg<|Pl 2<|L0<|cS #[.int .i64 0,.slice none 0 0,.int .i64 0] fun a f b c d=>Pl 1<|nt<|rt<|rr (.pointer (some ⟨a,0,none⟩))<|?_
 exact⟨a,rfl,b,c,d⟩
theorem lE{w:World}:Calls Tryz.prog 48 #[.int .i64 1] w (fun e w'=>∃ g,e = .returned (.pointer (some ⟨g,0,none⟩))∧w.heap.size≤g∧ib w' g ⟨1,[],0⟩ none 0∧ax [] w w'):=by
 refine en 12 Tryz.func48 rfl<|sg<|Pl 1<|nt<|sq<|sg<|Pl 6<|nt<|c0<|sk<|?_
 refine tn<|sg<|Pl 2<|L0<|cS #[.int .i64 1,.slice none 0 0,.int .i64 0] fun a f b c d=>Pl 1<|nt<|rt<|rr (.pointer (some ⟨a,0,none⟩))<|?_
 exact⟨a,rfl,b,c,d⟩
theorem lD{w:World}{g:Nat}{S:SM}{A:Option Addr}{cp:Nat}(hb:ib w g S A cp)(hr:aN true w (.slice A S.held.length cp) S.held) : Calls Tryz.prog 185 #[.pointer (some ⟨g,0,none⟩)] w (bi (.int .i64 ((S.held.length:Nat) : Int)) w):=by
 have hcm:=aI.len hr
 have hrg:=SM.size_rng (aN.range hr)
 have hru:=aN.range hr
 refine en 8 Tryz.func185 rfl<|sg<|Pl 1<|ng<|Pl 3<|L0<|aU hb 1<|Pl 2<|nt<|rt<|?_
 refine rr (.int .i64 ((S.held.length:Nat) : Int))<|?_
 exact⟨rfl,(ax.refl [] _)⟩
theorem et{w:World}{g:Nat}{S:SM}{A:Option Addr}{cp:Nat}(hb:ib w g S A cp)(hr:aN true w (.slice A S.held.length cp) S.held)(h6:6≤S.held.length) : Calls Tryz.prog 187 #[.pointer (some ⟨g,0,none⟩)] w (bi (.int .i64 S.size) w):=by
 have hcm:=aI.len hr
 have hrg:=SM.size_rng (aN.range hr)
 have hru:=aN.range hr
 refine en 19 Tryz.func187 rfl<|sg<|Pl 1<|nt<|sq<|fF (aN.at_ hr 4 (by omega)) fun c d e f l=>fF (aN.at_ hr 5 (by omega)) fun h i j k m=>Rg 17 (fun w'=>w'.cell? ⟨g,1,none⟩=some (.slice A S.held.length cp)∧w'.cell? ⟨c,d+4,none⟩=some (.int .u8 (S.held.getD 4 0))∧w'.cell? ⟨h,i+5,none⟩=some (.int .u8 (S.held.getD 5 0))) fun n b=>?_
 refine bg ⟨(aj (ub b hb) rfl),(uc b f),(uc b k)⟩ fun a=>Rt 0 a<|Rt 1 a<|Rt 2 a<|Rl 3 a (fun _ hs=>hs.1)<|lz 4 a S.held.length 4 4 rfl e (by omega)<|Rl 5 a (fun _ hs=>hs.2.1)<|Rr 6 a (.int .i64 (S.held.getD 4 0)) (fun _ _=>bX (.int .i64 (IntKind.i64.wrap (S.held.getD 4 0))) (by kernel_rfl) (congrArg (Value.int .i64) (i64_in (by omega))))<|Rr 7 a (.int .i64 ((S.held.getD 4 0)*256)) (fun _ _=>bX (.int .i64 (IntKind.i64.wrap ((S.held.getD 4 0)*256))) (by kernel_rfl) (congrArg (Value.int .i64) (i64_in (by omega))))<|Rt 8 a<|Rt 9 a<|Rt 10 a<|Rl 11 a (fun _ hs=>hs.1)<|lz 12 a S.held.length 5 5 rfl j (by omega)<|?_
 refine Rl 13 a (fun _ hs=>hs.2.2)<|Rr 14 a (.int .i64 (S.held.getD 5 0)) (fun _ _=>bX (.int .i64 (IntKind.i64.wrap (S.held.getD 5 0))) (by kernel_rfl) (congrArg (Value.int .i64) (i64_in (by omega))))<|Rr 15 a (.int .i64 (((S.held.getD 4 0)*256)+(S.held.getD 5 0))) (fun _ _=>bX (.int .i64 (bits .or .i64 ((S.held.getD 4 0)*256) (S.held.getD 5 0))) (by kernel_rfl) (congrArg (Value.int .i64) (qg (by omega) (by omega))))<|Rt 16 a<|re<|tn<|rt<|rr (.int .i64 (((S.held.getD 4 0)*256)+(S.held.getD 5 0)))<|?_
 exact⟨rfl,b⟩
def SM.fn (S:SM)(g:Nat) : Value:=match S.nx with
  | 1=>.func (.func 188) #[.pointer (some ⟨g,0,none⟩)] #[]
  | 2=>.func (.func 189) #[.pointer (some ⟨g,0,none⟩)] #[]
  | 3=>.func (.func 190) #[.pointer (some ⟨g,0,none⟩)] #[]
  | _=>.nilFunc
theorem ef{w:World}{g:Nat}{S:SM}{A:Option Addr}{cp:Nat}(hb:ib w g S A cp)(hr:aN true w (.slice A S.held.length cp) S.held) : Calls Tryz.prog 186 #[.pointer (some ⟨g,0,none⟩)] w (bi (S.fn g) w):=by
 have hcm:=aI.len hr
 have hrg:=SM.size_rng (aN.range hr)
 have hru:=aN.range hr
 refine en 34 Tryz.func186 rfl<|sg<|Pl 1<|nt<|sq<|bk<|sg<|Pl 3<|L0<|aU hb 1<|Pl 3<|nl<|?_
 refine tn<|cb ((decide (((S.held.length:Nat) : Int)<6))) (fun c=>?_) (fun c=>?_)
 have r:=of_decide_eq_true c
 refine sg<|Pl 1<|nt<|rt<|br<|tr<|rr (.nilFunc)<|?_
 have hs:S.nx=0:=by unfold SM.nx;(repeat' split)<;>first | rfl | omega
 have hf:S.fn g = .nilFunc:=by unfold SM.fn;rw[hs];rfl
 exact⟨by rw[hf],(ax.refl [] _)⟩
 have r:=of_decide_eq_false c
 refine sg<|Pl 1<|L0<|Oc<|m1 (et (S:=S) hb hr (by omega)) fun v b=>Pl 2<|nt<|cb ((decide (254<S.size))) (fun d=>?_) (fun d=>?_)
 have s:=of_decide_eq_true d
 refine sg<|Pl 3<|nt<|rt<|br<|tr<|rr (.func (.func 188) #[.pointer (some ⟨g,0,none⟩)] #[])<|?_
 have hs:S.nx=1:=by unfold SM.nx;(repeat' split)<;>first | rfl | omega
 have hf:S.fn g = .func (.func 188) #[.pointer (some ⟨g,0,none⟩)] #[]:=by unfold SM.fn;rw[hs];rfl
 exact⟨by rw[hf],b⟩
 have s:=of_decide_eq_false d
 refine sg<|Pl 1<|?_
 have j:=ub b hb
 have k:=aN.upd' hr b az
 refine L0<|Oc<|m1 (et (S:=S) j k (by omega)) fun x l=>Pl 2<|nt<|?_
 have m:=aG b l
 refine cb ((decide (S.size<2))) (fun e=>?_) (fun e=>?_)
 have t:=of_decide_eq_true e
 refine sg<|Pl 3<|nt<|rt<|br<|tr<|rr (.func (.func 189) #[.pointer (some ⟨g,0,none⟩)] #[])<|?_
 have hs:S.nx=2:=by unfold SM.nx;(repeat' split)<;>first | rfl | omega
 have hf:S.fn g = .func (.func 189) #[.pointer (some ⟨g,0,none⟩)] #[]:=by unfold SM.fn;rw[hs];rfl
 exact⟨by rw[hf],m⟩
 have t:=of_decide_eq_false e
 refine sq<|Rg 10 (fun w'=>w'.cell? ⟨g,1,none⟩=some (.slice A S.held.length cp)) fun y n=>?_
 have o:=aG l n
 have f:=ub o j
 refine bg (aj f rfl) fun a=>Rt 0 a<|Rt 1 a<|Rt 2 a<|Rl 3 a (fun _ hs=>hs)<|Rt 4 a<|Rt 5 a<|?_
 refine R0 6 rfl<|Oc<|m1 (et (S:=S) f (aN.upd' k o az) (by omega)) fun z p=>?_
 refine bg (aj (ub p f) rfl) fun h=>Rr 7 h (.int .i64 (6+S.size)) (fun _ _=>bX (.int .i64 (IntKind.i64.wrap (6+S.size))) (by kernel_rfl) (congrArg (Value.int .i64) (IntWalk.i64_in _ (by omega))))<|Rt 8 h<|Rt 9 h<|re<|tn<|?_
 have q:=aG m (aG n p)
 refine cb ((((S.held.length:Nat) : Int)==(6+S.size))) (fun i=>?_) (fun i=>?_)
 have u:=aB i
 refine sg<|Pl 3<|nt<|rt<|br<|tr<|rr (.func (.func 190) #[.pointer (some ⟨g,0,none⟩)] #[])<|?_
 have hs:S.nx=3:=by unfold SM.nx;(repeat' split)<;>first | rfl | omega
 have hf:S.fn g = .func (.func 190) #[.pointer (some ⟨g,0,none⟩)] #[]:=by unfold SM.fn;rw[hs];rfl
 exact⟨by rw[hf],q⟩
 have u:=aH i
 refine sk<|bn<|tn<|sg<|Pl 1<|nt<|rt<|rr (.nilFunc)<|?_
 have hs:S.nx=0:=by unfold SM.nx;(repeat' split)<;>first | rfl | omega
 have hf:S.fn g = .nilFunc:=by unfold SM.fn;rw[hs];rfl
 exact⟨by rw[hf],q⟩
theorem fI{w:World}{g:Nat}{S:SM}{A:Option Addr}{cp:Nat}(hb:ib w g S A cp)(hr:aN true w (.slice A S.held.length cp) S.held)(h6:6≤S.held.length){e:Int}:Calls Tryz.prog 191 #[.pointer (some ⟨g,0,none⟩),.int .i64 e] w (t3 ⟨S.dir,[],S.size⟩ [Ev.bad e] g w):=by
 have hcm:=aI.len hr
 have hrg:=SM.size_rng (aN.range hr)
 have hru:=aN.range hr
 refine en 16 Tryz.func191 rfl<|sg<|Pl 1<|ng<|Pl 2<|L0<|Oc<|m1 (et (S:=S) hb hr (by omega)) fun l a=>Pl 2<|?_
 refine L0<|bS (ub a hb) 2 #[.int .i64 S.dir,.slice A S.held.length cp,.int .i64 S.size] fun n f b=>ng<|Pl 3<|L0<|bS f 1 #[.int .i64 S.dir,.slice none 0 0,.int .i64 S.size] fun o h c=>ng<|Pl 2<|L0<|fg (m:=1) (e:=66) #[.int .i64 e,.int .u8 0,.int .u16 0,.int .u8 0,.int .u8 0,.int .u16 0,.int .u16 0,.int .u16 0,.int .u16 0,.int .u16 0,.int .u16 0,.int .u16 0,.int .u16 0,.int .u16 0,.int .u16 0,.slice none 0 0,.slice none 0 0,.slice none 0 0,.slice none 0 0,.int .u8 0,.int .u8 0,.int .u8 0,.int .u8 0,.int .u8 0,.slice none 0 0] fun i p j k d=>Pl 1<|nl<|?_
 refine tn<|rt<|rr (.slice (some ⟨i,0,none⟩) 1 1)<|?_
 have hE:=jj (w0:=w) (x:=Ev.bad e) (Nat.le_trans (le (le a.size b.size) c.size) j) k ⟨⟨none,0,none,0,none,0,none,0,none,0⟩,by kernel_rfl,ja,(show(0:Int)≤0∧(0:Int)<256 from by decide),(show(0:Int)≤0∧(0:Int)<65536 from by decide)⟩
 exact⟨_,rfl,hE,(ub d h),(uz a (u1 b (aG c d) im))⟩
theorem kX{w:World}{g:Nat}{S:SM}{A:Option Addr}{cp:Nat}(hb:ib w g S A cp)(hr:aN true w (.slice A S.held.length cp) S.held)(h6:6≤S.held.length) : Calls Tryz.prog 188 #[.pointer (some ⟨g,0,none⟩)] w (t3 ⟨S.dir,[],S.size⟩ [Ev.bad 3] g w):=by
 have hcm:=aI.len hr
 have hrg:=SM.size_rng (aN.range hr)
 have hru:=aN.range hr
 refine en 5 Tryz.func188 rfl<|sg<|Pl 1<|ng<|Pl 1<|L0<|Oc<|mr (fI (S:=S) (e:=3) hb hr h6) fun a b h c i j d f=>Pl 1<|nt<|rt<|?_
 refine rr (.slice a 1 b)<|?_
 exact⟨_,rfl,c,d,f⟩
theorem jH{w:World}{g:Nat}{S:SM}{A:Option Addr}{cp:Nat}(hb:ib w g S A cp)(hr:aN true w (.slice A S.held.length cp) S.held)(h6:6≤S.held.length) : Calls Tryz.prog 189 #[.pointer (some ⟨g,0,none⟩)] w (t3 ⟨S.dir,[],S.size⟩ [Ev.bad 5] g w):=by
 have hcm:=aI.len hr
 have hrg:=SM.size_rng (aN.range hr)
 have hru:=aN.range hr
 refine en 5 Tryz.func189 rfl<|sg<|Pl 1<|ng<|Pl 1<|L0<|Oc<|mr (fI (S:=S) (e:=5) hb hr h6) fun a b h c i j d f=>Pl 1<|nt<|rt<|?_
 refine rr (.slice a 1 b)<|?_
 exact⟨_,rfl,c,d,f⟩
theorem jF{w:World}{g:Nat}{S:SM}{A:Option Addr}{cp:Nat}(hb:ib w g S A cp)(hr:aN true w (.slice A S.held.length cp) S.held)(hl:S.held.length≤1048576) : Calls Tryz.prog 190 #[.pointer (some ⟨g,0,none⟩)] w (t3 ⟨S.dir,[],S.skip⟩ [⟨(c8 S.dir S.held).2,(c8 S.dir S.held).1⟩] g w):=by
 have hcm:=aI.len hr
 have hrg:=SM.size_rng (aN.range hr)
 have hru:=aN.range hr
 refine en 24 Tryz.func190 rfl<|sg<|Pl 1<|nt<|sq<|Rg 15 (fun w'=>w'.cell? ⟨g,0,none⟩=some (.int .i64 S.dir)∧w'.cell? ⟨g,1,none⟩=some (.slice A S.held.length cp)) fun ad a=>?_
 have f:=ub a hb
 refine bg ⟨(aj f rfl),(aj f rfl)⟩ fun b=>Rt 0 b<|Rt 1 b<|Rt 2 b<|Rl 3 b (fun _ hs=>hs.1)<|Rt 4 b<|Rt 5 b<|Rt 6 b<|Rl 7 b (fun _ hs=>hs.2)<|?_
 refine R2 8 12 rfl rfl ?_ ?_
 refine pr (c8 S.dir S.held) fun c C D=>?_
 refine  Oc<|e2 (fB D (aN.upd' hr a az) (by omega)) fun x56 ae Q h=>?_
 obtain⟨R,T,U⟩:=Q
 have i:=ub h f
 refine bg ⟨(aj i rfl),(aj i rfl)⟩ fun l=>Rt 9 l<|Rt 10 l<|Rt 11 l<|R0 12 rfl<|bB #[.int .u8 0,.int .u16 0,.int .u8 0,.int .u8 0,.int .u16 0,.int .u16 0,.int .u16 0,.int .u16 0,.int .u16 0,.int .u16 0,.int .u16 0,.int .u16 0,.int .u16 0,.int .u16 0,.slice none 0 0,.slice none 0 0,.slice none 0 0,.slice none 0 0,.int .u8 0,.int .u8 0,.int .u8 0,.int .u8 0,.int .u8 0,.slice none 0 0] fun af ag E V n=>?_
 have o:=ub n i
 refine bg ⟨(aj o rfl),(aj o rfl)⟩ fun ak=>R0 13 rfl<|be V (nB c.unit c.tid c.msg x56) fun al W p=>?_
 have F:=nb (ai hb) (le a.size h.size) E
 have q:=aQ p F o
 refine bg ⟨(aj q rfl),(aj q rfl)⟩ fun X=>Rt 14 X<|re<|tn<|sg<|Pl 3<|L0<|bS q 1 #[.int .i64 S.dir,.slice none 0 0,.int .i64 S.skip] fun am Y r=>ng<|Pl 1<|?_
 refine L0<|c7 (aQ r (Ne.symm F) W)<|Pl 1<|L0<|fg (m:=1) (e:=66) (kM ⟨C,c⟩ x56) fun Z an a0 a1 G=>Pl 1<|nt<|rt<|rr (.slice (some ⟨Z,0,none⟩) 1 1)<|?_
 have H:=ud n (us p (aG r G)) E
 have hE:=jj (w0:=w) (x:=⟨C,c⟩) (Nat.le_trans (le (le (le (le a.size h.size) n.size) p.size) r.size) a0) a1 ⟨x56,rfl,(aX.upd R H (ah (aF i (by decide)) az)),T,U⟩
 exact⟨_,rfl,by rw[D];exact hE,(ub G Y),(uz a (uz h H))⟩
 refine  bB #[.int .u8 0,.int .u16 0,.int .u8 0,.int .u8 0,.int .u16 0,.int .u16 0,.int .u16 0,.int .u16 0,.int .u16 0,.int .u16 0,.int .u16 0,.int .u16 0,.int .u16 0,.int .u16 0,.slice none 0 0,.slice none 0 0,.slice none 0 0,.slice none 0 0,.int .u8 0,.int .u8 0,.int .u8 0,.int .u8 0,.int .u8 0,.slice none 0 0] fun ao ap I a2 s=>?_
 have t:=ub s f
 refine bg ⟨(aj t rfl),(aj t rfl)⟩ fun aq=>?_
 have J:=aG a s
 refine pr (c8 S.dir S.held) fun d K L=>?_
 refine R0 8 rfl<|Oc<|e2 (fB L (aN.upd' hr J az) (by omega)) fun u ar a3 j=>?_
 obtain⟨a4,a5,a6⟩:=a3
 have k:=ub j t
 refine bg ⟨(aj k rfl),(aj k rfl)⟩ fun v=>Rt 9 v<|Rt 10 v<|Rt 11 v<|?_
 have M:=ub j a2
 refine R0 13 rfl<|be M (nB d.unit d.tid d.msg u) fun au a7 y=>?_
 have N:=nb (ai hb) a.size I
 have z:=aQ y N k
 refine bg ⟨(aj z rfl),(aj z rfl)⟩ fun a8=>Rt 14 a8<|re<|tn<|sg<|Pl 3<|L0<|bS z 1 #[.int .i64 S.dir,.slice none 0 0,.int .i64 S.skip] fun av a9 B=>ng<|Pl 1<|?_
 refine L0<|c7 (aQ B (Ne.symm N) a7)<|Pl 1<|L0<|fg (m:=1) (e:=66) (kM ⟨K,d⟩ u) fun aa aw ab ac O=>Pl 1<|nt<|rt<|rr (.slice (some ⟨aa,0,none⟩) 1 1)<|?_
 have P:=us y (aG B O)
 have hE:=jj (w0:=w) (x:=⟨K,d⟩) (Nat.le_trans (le (le (le (le a.size s.size) j.size) y.size) B.size) ab) ac ⟨u,rfl,(aX.upd a4 P (ah (aF M (by decide)) (ah (aF k (by decide)) az))),a5,a6⟩
 exact⟨_,rfl,by rw[L];exact hE,(ub O a9),(ud J (uz j P) (le a.size I))⟩
open Go.RowKit
theorem vu{C:Prop}(S:SM)(h0:S.nx=0→C)(h1:S.nx=1→C)(h2:S.nx=2→C)(h3:S.nx=3→C) : C:=by
  have h:S.nx=0∨S.nx=1∨S.nx=2∨S.nx=3:=by
    unfold SM.nx
    (repeat' split)<;>simp
  rcases h with h|h|h|h
  · exact h0 h
  · exact h1 h
  · exact h2 h
  · exact h3 h
theorem tk{S:SM}(h:S.nx≠0) : 6≤S.held.length:=by
  unfold SM.nx at h
  split at h
  · exact absurd rfl h
  · omega
theorem jB{w:World}{g:Nat}{S:SM}{A:Option Addr}{cp:Nat}(hb:ib w g S A cp)(hr:aN true w (.slice A S.held.length cp) S.held)(h:S.nx=0) : Calls Tryz.prog 186 #[.pointer (some ⟨g,0,none⟩)] w (bi (.nilFunc) w):=by
  have k:=ef hb hr
  unfold SM.fn at k
  rw[h] at k
  exact k
theorem jW{w:World}{g:Nat}{S:SM}{A:Option Addr}{cp:Nat}(hb:ib w g S A cp)(hr:aN true w (.slice A S.held.length cp) S.held)(h:S.nx=1) : Calls Tryz.prog 186 #[.pointer (some ⟨g,0,none⟩)] w (bi (.func (.func 188) #[.pointer (some ⟨g,0,none⟩)] #[]) w):=by
  have k:=ef hb hr
  unfold SM.fn at k
  rw[h] at k
  exact k
theorem kz{w:World}{g:Nat}{S:SM}{A:Option Addr}{cp:Nat}(hb:ib w g S A cp)(hr:aN true w (.slice A S.held.length cp) S.held)(h:S.nx=2) : Calls Tryz.prog 186 #[.pointer (some ⟨g,0,none⟩)] w (bi (.func (.func 189) #[.pointer (some ⟨g,0,none⟩)] #[]) w):=by
  have k:=ef hb hr
  unfold SM.fn at k
  rw[h] at k
  exact k
theorem jJ{w:World}{g:Nat}{S:SM}{A:Option Addr}{cp:Nat}(hb:ib w g S A cp)(hr:aN true w (.slice A S.held.length cp) S.held)(h:S.nx=3) : Calls Tryz.prog 186 #[.pointer (some ⟨g,0,none⟩)] w (bi (.func (.func 190) #[.pointer (some ⟨g,0,none⟩)] #[]) w):=by
  have k:=ef hb hr
  unfold SM.fn at k
  rw[h] at k
  exact k
def SM.ok (S:SM) : Prop:=(0≤S.skip∧S.skip<65536)∧(∀ x,x∈S.held→0≤x∧x<256)∧(S.held.length<6∨2≤S.size∧S.size≤254∧(S.held.length:Int)<6+S.size)
theorem SM.ok_le{S:SM}(h:S.ok) : S.held.length≤259:=by
  obtain⟨_,_,h|h⟩:=h
  · omega
  · omega
theorem SM.size_app{S:SM}{c:Int}(h:6≤S.held.length) : (SM.mk S.dir (S.held++[c]) S.skip).size=S.size:=by
  unfold SM.size
  simp only[List.getD_eq_getElem?_getD]
  rw[List.getElem?_append_left (by omega),List.getElem?_append_left (by omega)]
theorem SM.byte_ok{S S2:SM}{c:Int}{L2:List Ev}(h:S.ok)(hc:0≤c∧c<256)(hx:S.byte c=(S2,L2)) : S2.ok∧L2.length≤1:=by
  obtain⟨h1,h2,h3⟩:=h
  unfold SM.byte at hx
  split at hx
  · injection hx with e1 e2
    subst e1 e2
    exact⟨⟨⟨by show 0≤S.skip-1;omega,by show S.skip-1<65536;omega⟩,h2,h3⟩,Nat.zero_le _⟩
  have hr:∀ x,x∈(SM.mk S.dir (S.held++[c]) S.skip).held→0≤x∧x<256:=fun x hx=>by
    rcases List.mem_append.1 hx with h|h
    · exact h2 x h
    · rw[List.mem_singleton] at h;rw[h];exact hc
  have hz:=SM.size_rng hr
  have hn:∀ d k,(0≤k∧k<65536)→(SM.mk d [] k).ok:=fun d k hk=>⟨hk,fun x hx=>(by cases hx),.inl (show 0<6 by omega)⟩
  unfold SM.does at hx
  have hnx:∀ i,(SM.mk S.dir (S.held++[c]) S.skip).nx=i→i=0∨i=1∨i=2∨i=3:=by
    intro i hi
    subst hi
    unfold SM.nx
    (repeat' split)<;>simp
  rcases hnx _ rfl with e|e|e|e<;>rw[e] at hx<;>injection hx with e1 e2<;>subst e1 e2
  · refine⟨⟨h1,hr,?_⟩,Nat.zero_le _⟩
    unfold SM.nx at e
    by_cases h6:(SM.mk S.dir (S.held++[c]) S.skip).held.length<6
    · exact .inl h6
    rw[if_neg h6] at e
    split at e
    · cases e
    split at e
    · cases e
    split at e
    · cases e
    rename_i k1 k2 k3
    refine .inr ⟨by omega,by omega,?_⟩
    have hl:(SM.mk S.dir (S.held++[c]) S.skip).held.length=S.held.length+1:=by simp
    rcases h3 with h3|⟨h4,h5,h7⟩
    · omega
    · by_cases h8:6≤S.held.length
      · rw[SM.size_app h8] at k1 k2 k3 ⊢
        omega
      · omega
  · exact⟨hn _ _ hz,Nat.le_refl _⟩
  · exact⟨hn _ _ hz,Nat.le_refl _⟩
  · exact⟨hn _ _ h1,Nat.le_refl _⟩
theorem gy{S0 T T2:SM}{L L2:List Ev}{b:List Int}{k:Nat}(hk:k<b.length)(h:(T,L)=S0.feed (b.take k))(hx:T.byte (b.getD k 0)=(T2,L2)) : (T2,L++L2)=S0.feed (b.take (k+1)):=by
  rw[List.take_succ_eq_append_getElem hk]
  unfold SM.feed at h ⊢
  rw[List.foldl_append,← h]
  rw[List.getD_eq_getElem?_getD,List.getElem?_eq_getElem hk] at hx
  simp only[Option.getD_some] at hx
  simp only[List.foldl_cons,List.foldl_nil,hx]
theorem jU{S0 T T2:SM}{L:List Ev}{b:List Int}{k:Nat}(hk:k<b.length)(h:(T,L)=S0.feed (b.take k))(hx:T.byte (b.getD k 0)=(T2,[])) : (T2,L)=S0.feed (b.take (k+1)):=by
  have:=gy hk h hx
  rwa [List.append_nil] at this
theorem mJ{T:SM}{c:Int}(h:0<T.skip) : T.byte c=(⟨T.dir,T.held,T.skip-1⟩,[]):=by unfold SM.byte;rw[if_pos h]
theorem s7{T:SM}{c:Int}(h:¬ 0<T.skip)(e:(SM.mk T.dir (T.held++[c]) T.skip).nx=0) : T.byte c=(⟨T.dir,T.held++[c],T.skip⟩,[]):=by unfold SM.byte;rw[if_neg h];unfold SM.does;rw[e];rfl
theorem rM{T:SM}{c:Int}(h:¬ 0<T.skip)(e:(SM.mk T.dir (T.held++[c]) T.skip).nx=1) : T.byte c=(⟨T.dir,[],(SM.mk T.dir (T.held++[c]) T.skip).size⟩,[Ev.bad 3]):=by unfold SM.byte;rw[if_neg h];unfold SM.does;rw[e];rfl
theorem sc{T:SM}{c:Int}(h:¬ 0<T.skip)(e:(SM.mk T.dir (T.held++[c]) T.skip).nx=2) : T.byte c=(⟨T.dir,[],(SM.mk T.dir (T.held++[c]) T.skip).size⟩,[Ev.bad 5]):=by unfold SM.byte;rw[if_neg h];unfold SM.does;rw[e];rfl
theorem sK{T:SM}{c:Int}{F:cN}{E:Int}(h:¬ 0<T.skip)(e:(SM.mk T.dir (T.held++[c]) T.skip).nx=3)(hX:c8 T.dir (T.held++[c])=(F,E)) : T.byte c=(⟨T.dir,[],T.skip⟩,[⟨E,F⟩]):=by
  unfold SM.byte
  rw[if_neg h]
  unfold SM.does
  rw[e]
  show(SM.mk T.dir [] T.skip,[Ev.mk (c8 T.dir (T.held++[c])).2 (c8 T.dir (T.held++[c])).1])=_
  rw[hX]
theorem ia{w:World}{g:Nat}{d k:Int}{h:List Int}{A:Option Addr}{cp:Nat}{F:cN}{E:Int}(hX:c8 d h=(F,E))(hb:ib w g ⟨d,h,k⟩ A cp)(hr:aN true w (.slice A h.length cp) h)(hl:h.length≤1048576) : Calls Tryz.prog 190 #[.pointer (some ⟨g,0,none⟩)] w (t3 ⟨d,[],k⟩ [⟨E,F⟩] g w):=by
  have q:=jF (S:=⟨d,h,k⟩) hb hr hl
  rw[hX] at q
  exact q
def vj (base n0:Nat)(S2:SM)(L:List Ev)(g:Nat)(A:Option Addr)(w:World)(e:Ending)(w':World) : Prop:=∃ v A2 cp2 n2,e = .returned v∧bH n2 w.heap.size w' v L∧ib w' g S2 A2 cp2∧cJ base w' (.slice A2 S2.held.length cp2) S2.held∧(∀ x,x∈ob A2→x∈ob A∨w.heap.size≤x)∧(n0≤n2∧n2≤w'.heap.size)∧(∀ x,x∈ob A2→n2≤x)∧ax (g :: (ob A++[])) w w'
theorem gX{b:List Int}(h:∀ x,x∈b→0≤x∧x<256)(k:Nat) : 0≤b.getD k 0∧b.getD k 0<256:=by
  rw[List.getD_eq_getElem?_getD]
  cases hj:b[k]? with
  | none=>simp
  | some x=>exact h x (List.mem_of_getElem? hj)
theorem kH{w:World}{g base:Nat}{S:SM}{A:Option Addr}{cp:Nat}{m:Bool}{B:Option Addr}{cpb:Nat}{b:List Int}(hb:ib w g S A cp)(ho:cJ base w (.slice A S.held.length cp) S.held)(hbs:base≤w.heap.size)(hok0:S.ok){n0:Nat}(hn0:n0≤w.heap.size)(hlo:∀ x,x∈ob A→n0≤x)(hsl:aN m w (.slice B b.length cpb) b)(hdg:0<b.length→∀ x,x∈ob B→x≠g)(hda:iv b.length B (ob A))(hbl:b.length≤1048576) :
    Calls Tryz.prog 184 #[.pointer (some ⟨g,0,none⟩),.slice B b.length cpb] w (vj base n0 (S.feed b).1 (S.feed b).2 g A w):=by
 have hdl:=aI.low hsl
 have hok0l:=SM.ok_le hok0
 have hrb:=aN.range hsl
 refine en 47 Tryz.func184 rfl<|sg<|Pl 1<|ng<|Pl 1<|nt<|sq<|sg<|?_
 refine Pl 3<|nt<|bk<|?_
 refine fR (fun x=>[(0,.pointer (some ⟨g,0,none⟩)),(4,.slice none 0 0),(5,.slice x.2.2.2.2.2.1 x.2.2.1.length x.2.2.2.2.2.2.1),(9,.slice B b.length cpb),(10,.int .i64 ((b.length:Nat) : Int)),(11,.int .i64 ((x.1:Nat) : Int))]) (fun(x:Nat × SM × List Ev × Option Addr × Nat × Option Addr × Nat × Nat) w'=>ax (g :: (ob A++[])) w w'∧ib w' g x.2.1 x.2.2.2.1 x.2.2.2.2.1∧cJ base w' (.slice x.2.2.2.1 x.2.1.held.length x.2.2.2.2.1) x.2.1.held∧bH x.2.2.2.2.2.2.2 w.heap.size w' (.slice x.2.2.2.2.2.1 x.2.2.1.length x.2.2.2.2.2.2.1) x.2.2.1∧x.2.2.2.2.2.2.2≤w'.heap.size∧aN m w' (.slice B b.length cpb) b∧((x.2.1,x.2.2.1)=S.feed (b.take x.1))∧(x.2.1.ok)∧(x.2.1.held.length≤259)∧(x.1≤b.length)∧(x.2.2.1.length≤x.1)∧(∀ y,y∈ob x.2.2.2.1→y∈ob A∨w.heap.size≤y)∧(n0≤x.2.2.2.2.2.2.2)∧(∀ y,y∈ob x.2.2.2.1→x.2.2.2.2.2.2.2≤y)) (fun x=>b.length-x.1) (0,S,[],A,cp,none,0,n0) ⟨ax.refl _ _,hb,ho,(aO.nil w.heap.size _ _ (aP n0) _),(Nat.le_trans hn0 lr),hsl,rfl,hok0,hok0l,(by(try dsimp only);exact Nat.zero_le _),(by(try dsimp only);exact Nat.zero_le _),fy,(by(try dsimp only);exact Nat.le_refl _),hlo⟩ ?_
 rintro⟨k,T,L,Ah,ch,Bq,cq,n⟩ D ⟨l,aL,aM,aQ,aS,aT,aV,aX,aZ,b0,b1,b2,b3,b4⟩
 refine ge [(0,.pointer (some ⟨g,0,none⟩)),(4,.slice none 0 0),(5,.slice Bq L.length cq),(9,.slice B b.length cpb),(10,.int .i64 ((b.length:Nat) : Int)),(11,.int .i64 ((k:Nat) : Int))] ?_
 have f:ib D g T Ah ch:=aL
 have j:cJ base D (.slice Ah T.held.length ch) T.held:=aM
 have a:bH n w.heap.size D (.slice Bq L.length cq) L:=aQ
 have b5:n≤D.heap.size:=aS
 have hnl:=b5
 have u:aN m D (.slice B b.length cpb) b:=aT
 have b6:(T,L)=S.feed (b.take k):=aV
 have b7:T.ok:=aX
 have bJ:T.held.length≤259:=aZ
 have bK:k≤b.length:=b0
 have bL:L.length≤k:=b1
 have b8:∀ y,y∈ob Ah→y∈ob A∨w.heap.size≤y:=b2
 have b9:n0≤n:=b3
 have ba:∀ y,y∈ob Ah→n≤y:=b4
 have hlow:=ba
 have hn0l:=b9
 have hat0:=b8
 have hok:=b7
 have hpj:=b6
 have hle:=SM.ok_le hok
 have hsk:=hok.1
 refine sg<|Pl 1<|nt<|sq<|cb ((decide (((k:Nat) : Int)<((b.length:Nat) : Int)))) (fun X=>?_) (fun X=>?_)
 have bb:=of_decide_eq_true X
 refine bC<|sq<|bk<|sg<|fF (aN.at_ u k (by omega)) fun bc bd be bf bO=>L0<|ny b.length k be (by omega)<|L0<|jx (p:=⟨bc,bd+k,none⟩) (v:=.int .u8 (b.getD k 0)) bf<|Pl 1<|nt<|sq<|sq<|?_
 refine go<|Pl 3<|L0<|aU f 2<|Pl 1<|nt<|cb ((decide (0<T.skip))) (fun Y=>?_) (fun Y=>?_)
 have z:=of_decide_eq_true Y
 refine sg<|Pl 3<|L0<|aU f 2<|L0<|Oi (T.skip-1)<|Pl 2<|L0<|bS f 2 #[.int .i64 T.dir,.slice Ah T.held.length ch,.int .i64 (T.skip-1)] fun bP bg C=>nt<|xt<|tx<|bx<|tn<|go<|?_
 refine L0<|Oi (((k:Nat) : Int)+1)<|Pl 1<|nl<|?_
 have a2:=mJ (T:=T) (c:=(b.getD k 0)) z
 have a3:=SM.byte_ok hok (gX hrb k) a2
 exact dY ((k+1),(SM.mk T.dir T.held (T.skip-1)),L,Ah,ch,Bq,cq,n) ⟨(u1 l C im),bg,(am j C (fun x hx=>(aa (fun e=>(bN f j (by decide)) (e▸hx)) av)) (fun _ _ h=>h)),(am a C (fun x hx=>(aa (fun e=>(ap (ai hb) lr a) (e▸hx)) av)) (fun x cs q=>aP.upd C (dq f (by decide) aW) q)),(Nat.le_trans hnl C.size),(aN.far u C (cP hdg dg)),(by(try dsimp only);exact jU (by omega) hpj a2),(by(try dsimp only);exact a3.1),(by(try dsimp only);have q:=SM.ok_le a3.1;exact q),(by(try dsimp only);omega),(by(try dsimp only);(try simp only[List.length_append,List.length_cons,List.length_nil]);omega),(by(try dsimp only);exact hat0),(by(try dsimp only);exact hn0l),(by(try dsimp only);exact hlow)⟩ (by omega)
 have z:=of_decide_eq_false Y
 refine bC<|sg<|Pl 4<|L0<|aU f 1<|Pl 1<|L0<|fg (m:=1) (e:=5) #[.int .u8 (b.getD k 0)] fun bQ bR bh bi o=>?_
 have bj:=ik bh (xs:=[(b.getD k 0)]) (by as_aux_lemma=>kernel_rfl) (aJ (by omega) cR) (by(try simp only[List.length_cons,List.length_nil]);omega) bi
 refine L0<|eE (R:=kL) (xs:=T.held) (ys:=([(b.getD k 0)])) (.int .u8 0) 1 1 (am j o (fun x hx=>av) (fun _ _ h=>h)) (bj).rd ms (fun _ _ _ _ h=>h) (by(try simp only[List.length_append,List.length_cons,List.length_nil,aR]);omega) (Nat.le_trans hbs (le l.size o.size)) fun a4 a5 bT r J a6=>Pl 2<|?_
 have a7:=ut (ax.mono (S':=(ob Ah++[])) o au) J (aq il au)
 have E:=ax.blk a7 (aA (bN f j (by decide)) av) f
 refine L0<|bS E 1 #[.int .i64 T.dir,.slice a4 ((T.held++[(b.getD k 0)]).length) a5,.int .i64 T.skip] fun bU s t=>ng<|Pl 1<|?_
 have F:=u1 (ax.mono (S':=(ob Ah++(g :: []))) a7 (aq il au)) t im
 have K:=ut l F (aq (gv hat0 il lr) (ac im au))
 refine vu (SM.mk T.dir (T.held++[(b.getD k 0)]) T.skip) (fun i=>?_) (fun i=>?_) (fun i=>?_) (fun i=>?_)
 have a8:=am r t (fun x hx=>(aa (fun e=>(bN E r (by decide)) (e▸hx)) av)) (fun _ _ h=>h)
 refine L0<|Oc<|m1 (jB (S:=(SM.mk T.dir (T.held++[(b.getD k 0)]) T.skip)) s (a8).rd i) fun bV M=>Pl 1<|ng<|Pl 2<|nt<|c0<|sk<|bn<|tn<|go<|?_
 refine L0<|Oi (((k:Nat) : Int)+1)<|Pl 1<|nl<|?_
 have N:=aG F M
 have a9:=s7 (T:=T) (c:=(b.getD k 0)) z i
 have ab:=SM.byte_ok hok (gX hrb k) a9
 exact dY ((k+1),(SM.mk T.dir (T.held++[(b.getD k 0)]) T.skip),L,a4,a5,Bq,cq,n) ⟨(aG K M),(ub M s),(am a8 M (fun x hx=>av) (fun _ _ h=>h)),(am a N (fun x hx=>(aA ((aY a j (by decide)) x hx) (aa (fun e=>(ap (ai hb) lr a) (e▸hx)) av))) (fun x cs q=>aP.upd N (cv hlow (dq f (by decide) aW)) q)),(Nat.le_trans hnl N.size),(aN.far u N (ci (dO hda hdl hat0) (cP hdg dg))),(by(try dsimp only);exact jU (by omega) hpj a9),(by(try dsimp only);exact ab.1),(by(try dsimp only);have q:=SM.ok_le ab.1;exact q),(by(try dsimp only);omega),(by(try dsimp only);(try simp only[List.length_append,List.length_cons,List.length_nil]);omega),(by(try dsimp only);exact(fS a6 hat0 (le l.size o.size))),(by(try dsimp only);exact hn0l),(by(try dsimp only);exact(mf a6 hlow (Nat.le_trans hnl o.size)))⟩ (by omega)
 have ad:=am r t (fun x hx=>(aa (fun e=>(bN E r (by decide)) (e▸hx)) av)) (fun _ _ h=>h)
 refine L0<|Oc<|m1 (jW (S:=(SM.mk T.dir (T.held++[(b.getD k 0)]) T.skip)) s (ad).rd i) fun bW O=>Pl 1<|ng<|Pl 2<|nt<|c1<|go<|Pl 2<|?_
 refine L0<|eK #[.pointer (some ⟨g,0,none⟩)] #[] (args:=#[.pointer (some ⟨g,0,none⟩)])<|mr (kX (S:=(SM.mk T.dir (T.held++[(b.getD k 0)]) T.skip)) (ub O s) ((am ad O (fun x hx=>av) (fun _ _ h=>h))).rd (tk (by rw[i];decide))) fun bX bY Z bl bZ c2 bm ae=>?_
 have af:=uz O ae
 have G:=u1 F af im
 have ag:=am a G (fun x hx=>(aA ((aY a j (by decide)) x hx) (aa (fun e=>(ap (ai hb) lr a) (e▸hx)) av))) (fun x cs q=>aP.upd G (cv hlow (dq f (by decide) aW)) q)
 have bo:n≤Z.heap.size:=Nat.le_trans hnl G.size
 refine L0<|eE (R:=aP Z.heap.size) (xs:=L) (ys:=([Ev.bad 3])) (.agg #[.int .i64 0,.int .u8 0,.int .u16 0,.int .u8 0,.int .u8 0,.int .u16 0,.int .u16 0,.int .u16 0,.int .u16 0,.int .u16 0,.int .u16 0,.int .u16 0,.int .u16 0,.int .u16 0,.int .u16 0,.slice none 0 0,.slice none 0 0,.slice none 0 0,.slice none 0 0,.int .u8 0,.int .u8 0,.int .u8 0,.int .u8 0,.int .u8 0,.slice none 0 0]) 25 168 (bH.up bo (Nat.le_refl _) ag) (dZ.low bl).rd aP.ones (fun w' hv x cs q=>aP.upd hv (cL ag (by decide) aW) q) (by(try simp only[List.length_append,List.length_cons,List.length_nil,aR]);omega) (le (le (le (le (le l.size o.size) J.size) t.size) O.size) ae.size) fun bp bq c3 br P c4=>Pl 1<|nl<|bn<|tn<|go<|L0<|Oi (((k:Nat) : Int)+1)<|Pl 1<|nl<|?_
 have ah:=rM (T:=T) (c:=(b.getD k 0)) z i
 have aj:=SM.byte_ok hok (gX hrb k) ah
 exact dY ((k+1),(SM.mk T.dir [] (SM.mk T.dir (T.held++[(b.getD k 0)]) T.skip).size),(L++[Ev.bad 3]),none,0,bp,bq,Z.heap.size) ⟨(ut K (ut (ax.mono (S':=(g :: (ob Bq++[]))) af (ac im au)) P (aq il au)) (ac im (aq (bv a lr) au))),(ax.blk P (aA (ap (ai hb) lr a) av) bm),(aO.nil base _ _ kL _),br,P.size,(aN.far u (ut (ax.mono (S':=(ob Ah++(g :: (ob Bq++[])))) G (aq il (ac im au))) P (aq il au)) (ci (dO hda hdl hat0) (cP hdg (ci (cT hdl a (Nat.le_refl _)) dg)))),(by(try dsimp only);exact gy (by omega) hpj ah),(by(try dsimp only);exact aj.1),(by(try dsimp only);have q:=SM.ok_le aj.1;exact q),(by(try dsimp only);omega),(by(try dsimp only);(try simp only[List.length_append,List.length_cons,List.length_nil]);omega),(by(try dsimp only);exact d6),(by(try dsimp only);exact Nat.le_trans hn0l (Nat.le_trans hnl G.size)),(by(try dsimp only);exact bM)⟩ (by omega)
 have ak:=am r t (fun x hx=>(aa (fun e=>(bN E r (by decide)) (e▸hx)) av)) (fun _ _ h=>h)
 refine L0<|Oc<|m1 (kz (S:=(SM.mk T.dir (T.held++[(b.getD k 0)]) T.skip)) s (ak).rd i) fun c5 Q=>Pl 1<|ng<|Pl 2<|nt<|c1<|go<|Pl 2<|?_
 refine L0<|eK #[.pointer (some ⟨g,0,none⟩)] #[] (args:=#[.pointer (some ⟨g,0,none⟩)])<|mr (jH (S:=(SM.mk T.dir (T.held++[(b.getD k 0)]) T.skip)) (ub Q s) ((am ak Q (fun x hx=>av) (fun _ _ h=>h))).rd (tk (by rw[i];decide))) fun c6 c7 a0 bs c9 ca bt al=>?_
 have an:=uz Q al
 have H:=u1 F an im
 have ao:=am a H (fun x hx=>(aA ((aY a j (by decide)) x hx) (aa (fun e=>(ap (ai hb) lr a) (e▸hx)) av))) (fun x cs q=>aP.upd H (cv hlow (dq f (by decide) aW)) q)
 have bu:n≤a0.heap.size:=Nat.le_trans hnl H.size
 refine L0<|eE (R:=aP a0.heap.size) (xs:=L) (ys:=([Ev.bad 5])) (.agg #[.int .i64 0,.int .u8 0,.int .u16 0,.int .u8 0,.int .u8 0,.int .u16 0,.int .u16 0,.int .u16 0,.int .u16 0,.int .u16 0,.int .u16 0,.int .u16 0,.int .u16 0,.int .u16 0,.int .u16 0,.slice none 0 0,.slice none 0 0,.slice none 0 0,.slice none 0 0,.int .u8 0,.int .u8 0,.int .u8 0,.int .u8 0,.int .u8 0,.slice none 0 0]) 25 168 (bH.up bu (Nat.le_refl _) ao) (dZ.low bs).rd aP.ones (fun w' hv x cs q=>aP.upd hv (cL ao (by decide) aW) q) (by(try simp only[List.length_append,List.length_cons,List.length_nil,aR]);omega) (le (le (le (le (le l.size o.size) J.size) t.size) Q.size) al.size) fun bw bz cc bA U cd=>Pl 1<|nl<|bn<|tn<|go<|L0<|Oi (((k:Nat) : Int)+1)<|Pl 1<|nl<|?_
 have ar:=sc (T:=T) (c:=(b.getD k 0)) z i
 have aw:=SM.byte_ok hok (gX hrb k) ar
 exact dY ((k+1),(SM.mk T.dir [] (SM.mk T.dir (T.held++[(b.getD k 0)]) T.skip).size),(L++[Ev.bad 5]),none,0,bw,bz,a0.heap.size) ⟨(ut K (ut (ax.mono (S':=(g :: (ob Bq++[]))) an (ac im au)) U (aq il au)) (ac im (aq (bv a lr) au))),(ax.blk U (aA (ap (ai hb) lr a) av) bt),(aO.nil base _ _ kL _),bA,U.size,(aN.far u (ut (ax.mono (S':=(ob Ah++(g :: (ob Bq++[])))) H (aq il (ac im au))) U (aq il au)) (ci (dO hda hdl hat0) (cP hdg (ci (cT hdl a (Nat.le_refl _)) dg)))),(by(try dsimp only);exact gy (by omega) hpj ar),(by(try dsimp only);exact aw.1),(by(try dsimp only);have q:=SM.ok_le aw.1;exact q),(by(try dsimp only);omega),(by(try dsimp only);(try simp only[List.length_append,List.length_cons,List.length_nil]);omega),(by(try dsimp only);exact d6),(by(try dsimp only);exact Nat.le_trans hn0l (Nat.le_trans hnl H.size)),(by(try dsimp only);exact bM)⟩ (by omega)
 have ay:=am r t (fun x hx=>(aa (fun e=>(bN E r (by decide)) (e▸hx)) av)) (fun _ _ h=>h)
 refine L0<|Oc<|m1 (jJ (S:=(SM.mk T.dir (T.held++[(b.getD k 0)]) T.skip)) s (ay).rd i) fun ce V=>Pl 1<|ng<|Pl 2<|nt<|c1<|go<|Pl 2<|?_
 refine pr (c8 T.dir (T.held++[(b.getD k 0)])) fun az aB aC=>?_
 refine L0<|eK #[.pointer (some ⟨g,0,none⟩)] #[] (args:=#[.pointer (some ⟨g,0,none⟩)])<|mr (ia (d:=T.dir) (h:=T.held++[(b.getD k 0)]) (k:=T.skip) aC (ub V s) ((am ay V (fun x hx=>av) (fun _ _ h=>h))).rd (by simp only[List.length_append,List.length_cons,List.length_nil];omega)) fun cf cg a1 bB cj ck bD aD=>?_
 have aE:=uz V aD
 have I:=u1 F aE im
 have aF:=am a I (fun x hx=>(aA ((aY a j (by decide)) x hx) (aa (fun e=>(ap (ai hb) lr a) (e▸hx)) av))) (fun x cs q=>aP.upd I (cv hlow (dq f (by decide) aW)) q)
 have bE:n≤a1.heap.size:=Nat.le_trans hnl I.size
 refine L0<|eE (R:=aP a1.heap.size) (xs:=L) (ys:=([Ev.mk aB az])) (.agg #[.int .i64 0,.int .u8 0,.int .u16 0,.int .u8 0,.int .u8 0,.int .u16 0,.int .u16 0,.int .u16 0,.int .u16 0,.int .u16 0,.int .u16 0,.int .u16 0,.int .u16 0,.int .u16 0,.int .u16 0,.slice none 0 0,.slice none 0 0,.slice none 0 0,.slice none 0 0,.int .u8 0,.int .u8 0,.int .u8 0,.int .u8 0,.int .u8 0,.slice none 0 0]) 25 168 (bH.up bE (Nat.le_refl _) aF) (dZ.low bB).rd aP.ones (fun w' hv x cs q=>aP.upd hv (cL aF (by decide) aW) q) (by(try simp only[List.length_append,List.length_cons,List.length_nil,aR]);omega) (le (le (le (le (le l.size o.size) J.size) t.size) V.size) aD.size) fun bF bG cl bI W cm=>Pl 1<|nl<|bn<|tn<|go<|L0<|Oi (((k:Nat) : Int)+1)<|Pl 1<|nl<|?_
 have aH:=sK (T:=T) (c:=(b.getD k 0)) z i aC
 have aK:=SM.byte_ok hok (gX hrb k) aH
 exact dY ((k+1),(SM.mk T.dir [] T.skip),(L++[Ev.mk aB az]),none,0,bF,bG,a1.heap.size) ⟨(ut K (ut (ax.mono (S':=(g :: (ob Bq++[]))) aE (ac im au)) W (aq il au)) (ac im (aq (bv a lr) au))),(ax.blk W (aA (ap (ai hb) lr a) av) bD),(aO.nil base _ _ kL _),bI,W.size,(aN.far u (ut (ax.mono (S':=(ob Ah++(g :: (ob Bq++[])))) I (aq il (ac im au))) W (aq il au)) (ci (dO hda hdl hat0) (cP hdg (ci (cT hdl a (Nat.le_refl _)) dg)))),(by(try dsimp only);exact gy (by omega) hpj aH),(by(try dsimp only);exact aK.1),(by(try dsimp only);have q:=SM.ok_le aK.1;exact q),(by(try dsimp only);omega),(by(try dsimp only);(try simp only[List.length_append,List.length_cons,List.length_nil]);omega),(by(try dsimp only);exact d6),(by(try dsimp only);exact Nat.le_trans hn0l (Nat.le_trans hnl I.size)),(by(try dsimp only);exact bM)⟩ (by omega)
 have bb:=of_decide_eq_false X
 refine xt<|tx<|tx<|bx<|tn<|sg<|Pl 2<|nt<|rt<|rr (.slice Bq L.length cq)<|?_
 have hs:S.feed b=(T,L):=by rw[hpj,List.take_of_length_le (by omega)]
 rw[hs]
 exact⟨_,Ah,ch,n,rfl,a,f,j,hat0,⟨hn0l,Nat.le_trans hnl lr⟩,hlow,l⟩
open Go.RowKit
def c6 (n base:Nat)(w:World)(g:Nat)(A:Option Addr)(cp:Nat)(S:SM) : Prop:=ib w g S A cp∧cJ base w (.slice A S.held.length cp) S.held∧S.ok∧n≤w.heap.size∧(∀ x,x∈ob A→n≤x)∧base≤w.heap.size
section
variable {n base g cp:Nat}{w w':World}{A:Option Addr}{S:SM}{X:List Nat}
theorem c6.row(h:c6 n base w g A cp S) : cJ base w (.slice A S.held.length cp) S.held:=h.2.1
theorem c6.low(h:c6 n base w g A cp S) : ∀ x,x∈ob A→n≤x:=h.2.2.2.2.1
theorem c6.nle(h:c6 n base w g A cp S) : n≤w.heap.size:=h.2.2.2.1
theorem c6.le(h:c6 n base w g A cp S) : S.held.length≤259:=SM.ok_le h.2.2.1
theorem c6.lt(h:c6 n base w g A cp S) : g<w.heap.size:=ai h.1
theorem c6.cells(h:c6 n base w g A cp S) : ∃ cs fr,w.heap[g]? = some (.cells cs 131 fr):=⟨_,_,h.1⟩
theorem c6.upd(h:c6 n base w g A cp S)(hu:ax X w w')(hg:g∉X)(hr:∀ x,x∈ob A→x∉X) : c6 n base w' g A cp S :=
  ⟨hu.blk hg h.1,am h.2.1 hu hr (fun _ _ q=>q),h.2.2.1,Nat.le_trans h.2.2.2.1 hu.size,h.2.2.2.2.1,Nat.le_trans h.2.2.2.2.2 hu.size⟩
end
theorem SM.feed_ok:∀ (b:List Int)(S:SM)(L:List Ev),S.ok→(∀ x,x∈b→0≤x∧x<256)→(b.foldl (fun(p:SM × List Ev) c=>((p.1.byte c).1,p.2++(p.1.byte c).2)) (S,L)).1.ok∧(b.foldl (fun(p:SM × List Ev) c=>((p.1.byte c).1,p.2++(p.1.byte c).2)) (S,L)).2.length≤L.length+b.length
  | [],S,L,h,_=>⟨h,Nat.le_refl _⟩
  | c :: t,S,L,h,hb=>by
    have k:=SM.byte_ok (S2:=(S.byte c).1) (L2:=(S.byte c).2) h (hb c (List.mem_cons_self ..)) rfl
    have q:=SM.feed_ok t (S.byte c).1 (L++(S.byte c).2) k.1 (fun x hx=>hb x (List.mem_cons_of_mem _ hx))
    refine⟨q.1,Nat.le_trans q.2 ?_⟩
    rw[List.length_append,List.length_cons]
    omega
theorem SM.feed_le{S S2:SM}{b:List Int}{L:List Ev}(h:S.ok)(hb:∀ x,x∈b→0≤x∧x<256)(hX:S.feed b=(S2,L)) : L.length≤b.length:=by
  have q:=(SM.feed_ok b S [] h hb).2
  have e:L=(S.feed b).2:=(congrArg Prod.snd hX).symm
  rw[e]
  rw[List.length_nil,Nat.zero_add] at q
  exact q
def vp (n base:Nat)(S2:SM)(L:List Ev)(g:Nat)(A:Option Addr)(w:World)(e:Ending)(w':World) : Prop:=∃ v A2 cp2 n2,e = .returned v∧bH n2 w.heap.size w' v L∧c6 n2 base w' g A2 cp2 S2∧(∀ x,x∈ob A2→x∈ob A∨w.heap.size≤x)∧n≤n2∧ax (g :: (ob A++[])) w w'
theorem lO{w:World}{n base g cp cpb nb:Nat}{S S2:SM}{L:List Ev}{A B:Option Addr}{m:Bool}{b:List Int}(hX:S.feed b=(S2,L))(h:c6 n base w g A cp S)(hsl:aN m w (.slice B nb cpb) b)(hdg:0<nb→∀ x,x∈ob B→x≠g)(hda:iv nb B (ob A))(hbl:b.length≤1048576) :
    Calls Tryz.prog 184 #[.pointer (some ⟨g,0,none⟩),.slice B nb cpb] w (vp n base S2 L g A w):=by
  obtain⟨h1,h2,h3,h4,h5,h6⟩:=h
  obtain rfl:nb=b.length:=by
    obtain⟨_,_,e,_⟩:=hsl.shape
    injection e
  refine(kH h1 h2 h6 h3 h4 h5 hsl hdg hda hbl).mono ?_
  rintro e w' ⟨v,A2,cp2,n2,he,k1,k2,k3,k4,⟨k5,k6⟩,k7,k8⟩
  have hok:=(SM.feed_ok b S [] h3 (aN.range hsl)).1
  rw[hX] at k1 k2 k3
  have e2:S2=(S.feed b).1:=(congrArg Prod.fst hX).symm
  exact⟨v,A2,cp2,n2,he,k1,⟨k2,k3,by rw[e2];exact hok,k6,k7,Nat.le_trans h6 k8.size⟩,k4,k5,k8⟩
theorem md(d:Int){w:World}(hq:Calls Tryz.prog 48 #[.int .i64 d] w (fun e w'=>∃ g,e = .returned (.pointer (some ⟨g,0,none⟩))∧w.heap.size≤g∧ib w' g ⟨d,[],0⟩ none 0∧ax [] w w')) :
    Calls Tryz.prog 48 #[.int .i64 d] w (fun e w'=>∃ g,e = .returned (.pointer (some ⟨g,0,none⟩))∧w.heap.size≤g∧c6 w.heap.size w.heap.size w' g none 0 ⟨d,[],0⟩∧ax [] w w'):=by
  refine hq.mono ?_
  rintro e w' ⟨g,he,h1,h2,h3⟩
  exact⟨g,he,h1,⟨h2,aO.nil ..,⟨⟨(show(0:Int)≤0 from by decide),(show(0:Int)<65536 from by decide)⟩,(fun x hx=>by cases hx),.inl (show 0<6 from by decide)⟩,h3.size,bM,h3.size⟩,h3⟩
theorem oQ{w:World}{n base g cp:Nat}{S:SM}{A:Option Addr}(h:c6 n base w g A cp S) : Calls Tryz.prog 185 #[.pointer (some ⟨g,0,none⟩)] w (bi (.int .i64 ((S.held.length:Nat) : Int)) w):=lD h.1 h.2.1.rd
open Go.RowKit
section
variable {P:Program}{Q:Exit→Act→World→Prop}{n:Nat}{D:List Deferred}{F:Fr}{w:World}{c:Code}{l:Nat}
theorem vG(h:GC P c (Exit.noGoto Q) n D F w) : GC P (.scope c) Q n D F w:=⟨fun a ha=>wp_scope_straight (h.out a ha)⟩
theorem vm(h:GQ Q .normal n D F w) : GC P (.label l) Q n D F w:=⟨fun a ha=>wp_label (h.out a ha)⟩
theorem gr(h:GQ Q .ret n D F w) : GQ (Exit.noGoto Q) .ret n D F w:=⟨fun a ha=>h.out a ha⟩
end
open Go.RowKit
abbrev dv (xs:List Int) : Prop:=∀ x,x∈xs→0≤x∧x<256
theorem pZ{x:Int}(h:0≤x∧x<256) : ((UInt8.ofNat x.toNat).toNat:Int)=x:=by
  simp only[UInt8.toNat_ofNat']
  omega
theorem fa{xs:List Int}{j:Nat}(hj:j<xs.length)(hs:j<(strOfNums xs).size) : (strOfNums xs)[j]=UInt8.ofNat (xs.getD j 0).toNat:=by
  show(strOfNums xs).data[j]=_
  simp[strOfNums,List.getD_eq_getElem?_getD,List.getElem?_eq_getElem hj]
theorem kg{P:Program}{w:World}{ev:Operand→Value}{o:Oper}{x ix:Operand}{t:TypeId}{xs:List Int}{k:IntKind}{i:Int}(j:Nat)(ho:o.op = .index t x ix)(ht:P.underlying t=some .string)(hx:ev x = .string (strOfNums xs))(hi:ev ix = .int k i)(hr:dv xs)(hj:i=(j:Int))(hlt:j<xs.length) : (execOp ev o).run P w = .ok (.value (.int .u8 (xs.getD j 0))) w:=by
  subst hj
  have hs:j<(strOfNums xs).size:=by rw[strOfNums_size];exact hlt
  have h:=run_index_string (P:=P) w t (strOfNums xs) k (j:Int) ht
  rw[dif_pos (by omega)] at h
  have hg:xs.getD j 0∈xs:=by
    rw[List.getD_eq_getElem?_getD,List.getElem?_eq_getElem hlt]
    exact List.getElem_mem hlt
  unfold execOp
  simp only[ho,hx,hi,Sem.run_bind,h,Result.andThen,Sem.run_pure]
  have e:((strOfNums xs)[((j:Nat) : Int).toNat]'(by simpa using hs))=UInt8.ofNat (xs.getD j 0).toNat:=by
    simp only[Int.toNat_natCast]
    exact fa hlt hs
  rw[e,pZ (hr _ hg)]
theorem dS(xs:List Int)(a b:Nat)(hb:b≤xs.length) : (strOfNums xs).extract a b=strOfNums ((xs.take b).drop a):=by
  apply ByteArray.ext
  rw[ByteArray.data_extract]
  apply Array.toList_inj.1
  rw[Array.toList_extract]
  simp[strOfNums,List.extract,List.map_drop,List.map_take,List.drop_take]
theorem iJ{P:Program}{w:World}{ev:Operand→Value}{o:Oper}{x y:Operand}{t:TypeId}{xs:List Int}{k:IntKind}{i:Int}(j:Nat)(ho:o.op = .slice t x (some y) none none)(ht:P.underlying t=some .string)(hx:ev x = .string (strOfNums xs))(hy:ev y = .int k i)(hj:i=(j:Int))(hlt:j≤xs.length) : (execOp ev o).run P w = .ok (.value (.string (strOfNums (xs.drop j)))) w:=by
  subst hj
  have hu:(underlying t).run P w = .ok .string w:=run_underlying ht w
  have h:=run_slice_string_l (P:=P) w t (strOfNums xs) ht k (j:Int) (by omega) (by rw[strOfNums_size];omega)
  rw[strOfNums_size,dS _ _ _ (Nat.le_refl _),List.take_length,Int.toNat_natCast] at h
  unfold execOp
  simp only[ho,Option.map_some,Option.map_none,hx,hy,Instr.sliceAt,Sem.run_bind,hu,h,Result.andThen,Sem.run_pure]
theorem oc{P:Program}{w:World}{ev:Operand→Value}{o:Oper}{x y:Operand}{t:TypeId}{xs:List Int}{k:IntKind}{i:Int}(j:Nat)(ho:o.op = .slice t x none (some y) none)(ht:P.underlying t=some .string)(hx:ev x = .string (strOfNums xs))(hy:ev y = .int k i)(hj:i=(j:Int))(hlt:j≤xs.length) : (execOp ev o).run P w = .ok (.value (.string (strOfNums (xs.take j)))) w:=by
  subst hj
  have hu:(underlying t).run P w = .ok .string w:=run_underlying ht w
  have h:=run_slice_string_h (P:=P) w t (strOfNums xs) ht k (j:Int) (by omega) (by rw[strOfNums_size];omega)
  rw[Int.toNat_natCast,dS _ _ _ hlt,List.drop_zero] at h
  unfold execOp
  simp only[ho,Option.map_some,Option.map_none,hx,hy,Instr.sliceAt,Sem.run_bind,hu,h,Result.andThen,Sem.run_pure]
theorem gc{xs:List Int}(h:dv xs)(j:Nat) : dv (xs.drop j):=fun x hx=>h x (List.mem_of_mem_drop hx)
theorem iy{xs:List Int}(h:dv xs)(j:Nat) : dv (xs.take j):=fun x hx=>h x (List.mem_of_mem_take hx)
theorem qW{xs ys:List Int}(hx:dv xs)(hy:dv ys) : ((strOfNums xs).toList==(strOfNums ys).toList)=decide (xs=ys):=by
  have e:∀ zs:List Int,(strOfNums zs).toList=zs.map fun n=>UInt8.ofNat n.toNat:=fun zs=>by
    rw[ByteArray.toList_eq]
    rfl
  rw[e,e]
  by_cases h:xs=ys
  · subst h;simp
  · rw[decide_eq_false h,beq_eq_false_iff_ne]
    exact fun k=>h (g7 xs ys hx hy k)
def lu (base:Nat)(w:World)(v:Value)(xs:List Int) : Prop:=∃ g cap cur n,v = .slice (some ⟨g,0,none⟩) xs.length cap∧base≤g∧w.heap[g]? = some (.cells cur 5 (n,n+1))∧xs.length≤n∧xs.length≤cap∧cap≤maxLen∧cur.toList.take xs.length=xs.map (Value.int .u8)∧dv xs
theorem lu.rd{base:Nat}{w:World}{v:Value}{xs:List Int}(h:lu base w v xs) : aN true w v xs:=by
  obtain⟨g,cap,cur,n,rfl,hb,hh,h1,h2,h3,h4,h5⟩:=h
  refine⟨_,_,rfl,h2,h3,(fun hA=>by cases hA),fun hp=>⟨g,0,cur,_,_,rfl,hh,fun _=>rfl,fun j x hj=>?_⟩⟩
  refine⟨[.int .u8 x],rfl,⟨rfl,h5 x (List.mem_of_getElem? hj)⟩,fun i u hi=>?_⟩
  cases i with
  | succ i=>simp at hi
  | zero =>
    have hi:Value.int .u8 x=u:=by simpa using hi
    subst hi
    have h6:(xs.map (Value.int .u8))[j]? = some (.int .u8 x):=by rw[List.getElem?_map,hj];rfl
    rw[← h4,List.getElem?_take] at h6
    split at h6
    · simpa using h6
    · cases h6
theorem lu.shape{base:Nat}{w:World}{v:Value}{xs:List Int}(h:lu base w v xs) : ∃ g cp,v = .slice (some ⟨g,0,none⟩) xs.length cp:=by
  obtain⟨g,cap,cur,n,hv,_⟩:=h
  exact⟨g,cap,hv⟩
section
variable {P:Program}{n:Nat}{D:List Deferred}{F:Fr}{w:World}{K:Fr→World→Prop}{Q:Exit→Act→World→Prop}{d:Option Tmp}{t:TypeId}{s:String}{af:Array Edge}{gu:Option (Nat × Bool)}
theorem mj{a:Act}{o:Oper}{N:Option Tmp}{K:Act→World→Prop}{w1:World}(v:Value)(hN:o.dst=N)(hr:(execOp a.eval o).run P w = .ok (.value v) w1)(h:K (a.put N v) w1) : OW P o a w K Q:=by
  refine OW.mk ?_
  subst hN
  unfold Oper.wp
  rw[hr]
  exact h
theorem uK{ty:TypeId}{x:Operand}{sv:ByteArray}(hs:P.underlying ty=some .string)(h:∀ g w',w.heap.size≤g→w'.heap[g]? = some (.stringIter sv 0)→ax [] w w'→K (pt d (.pointer (some ⟨g,0,none⟩)) F) w')
    (hx:cY F x=some (.string sv):=by kernel_rfl) (hk:dA n d=true:=by kernel_rfl) : OG P ⟨d,.range ty x,t,s,af,gu⟩ n D F w K Q:=by
  refine⟨fun a ha K' hK=>mj (.pointer (some ⟨w.heap.size,0,none⟩)) rfl (w1:=w.alloc (.stringIter sv 0)) ?_ (hK _ _ _ (h _ _ (Nat.le_refl _) (cQ _ _) ((ax.refl _ _).alloc _)) (ha.put hk))⟩
  have hx':=ha.ev hx
  unfold execOp
  simp only[hx',Sem.run_bind,run_range_string w ty sv hs,Result.andThen,Sem.run_pure]
  rfl
theorem mU{xs:List Int}(hr:dv xs)(h0:0<xs.length) : ((((Utf8.decode (strOfNums xs) 0).1:Nat) : Int)=58↔xs.getD 0 0=58):=by
  have hs:0<(strOfNums xs).size:=by rw[strOfNums_size];exact h0
  have hm:xs.getD 0 0∈xs:=by
    rw[List.getD_eq_getElem?_getD,List.getElem?_eq_getElem h0]
    exact List.getElem_mem h0
  have hb:=hr _ hm
  have h1:((strOfNums xs).get! 0).toNat=(xs.getD 0 0).toNat:=by
    have e:(strOfNums xs).get! 0=(strOfNums xs)[0]:=by
      show(strOfNums xs).data[0]! = _
      rw[getElem!_pos (strOfNums xs).data 0 hs]
      rfl
    rw[e,fa h0 hs]
    simp only[UInt8.toNat_ofNat']
    omega
  unfold Utf8.decode
  simp only[Nat.zero_add,h1,Utf8.runeError]
  split
  · omega
  · split
    · split
      · rename_i h2 h3 h4;simp only;omega
      · simp only;omega
    · split
      · split
        · rename_i h2 h3 h4 h5;simp only[Bool.and_eq_true,decide_eq_true_eq] at h5;simp only;omega
        · simp only;omega
      · split
        · split
          · rename_i h2 h3 h4 h5 h6;simp only[Bool.and_eq_true,decide_eq_true_eq] at h6;simp only;omega
          · simp only;omega
        · simp only;omega
theorem vF{x:Operand}{xs:List Int}{r:Nat}(hr:dv xs)(h0:0<xs.length)(B:w.heap[r]? = some (.stringIter (strOfNums xs) 0))(h:∀ c w',(c=58↔xs.getD 0 0=58)→ax [r] w w'→K (pt d (.tuple #[.bool true,.int .i64 0,.int .i32 c]) F) w')
    (hx:cY F x=some (.pointer (some ⟨r,0,none⟩)):=by kernel_rfl) (hk:dA n d=true:=by kernel_rfl) : OG P ⟨d,.next x true,t,s,af,gu⟩ n D F w K Q:=by
  have hlt:=ai B
  have hrun:=Lib.run_next_any_at (P:=P) w r (strOfNums xs) 0 t B (by rw[strOfNums_size];exact h0)
  refine⟨fun a ha K' hK=>mj _ rfl (w1:=w.iterAt r (strOfNums xs) (0+(Utf8.decode (strOfNums xs) 0).2)) ?_ (hK _ _ _ (h (((Utf8.decode (strOfNums xs) 0).1:Nat) : Int) _ (mU hr h0) ?_) (ha.put hk))⟩
  · have hx':=ha.ev hx
    unfold execOp
    simp only[hx',Sem.run_bind,hrun,Result.andThen,Sem.run_pure]
    rfl
  · refine⟨rfl,rfl,rfl,?_,fun k hk hn=>?_⟩
    · simp[World.iterAt]
    · have:r≠k:=fun e=>hn (by simp[e])
      simp[World.iterAt,Array.getElem?_setIfInBounds,this]
end
open Go.RowKit
def fd (xs ys:List Int) : Bool:=decide (((ys.length:Nat) : Int)≤((xs.length:Nat) : Int))&&decide (xs.drop (((xs.length:Nat) : Int)-((ys.length:Nat) : Int)).toNat=ys)
theorem ra{m m2:Bool}{A B:Option Addr}{n n2 c c2:Nat}{xs ys:List Int}{w:World}(h1:aN m w (.slice A n c) xs)(h2:aN m2 w (.slice B n2 c2) ys) : Calls Tryz.prog 172 #[.slice A n c,.slice B n2 c2] w (bi (.bool (decide (xs=ys))) w):=by
 refine en 10 Tryz.func172 rfl<|sg<|Pl 1<|ng<|Pl 1<|L0<|fw (.string (strOfNums xs)) (bU (A:=A) (n:=n) (c:=c) rfl (by kernel_rfl) Tryz.underlying27 Tryz.underlying5 Tryz.underlying9 h1)<|Pl 1<|L0<|fw (.string (strOfNums ys)) (bU (A:=B) (n:=n2) (c:=c2) rfl (by kernel_rfl) Tryz.underlying27 Tryz.underlying5 Tryz.underlying9 h2)<|L0<|fw (.bool (decide (xs=ys))) (dN (a:=(strOfNums xs)) (b:=(strOfNums ys)) rfl (by kernel_rfl) (by kernel_rfl) (gg h1 h2))<|Pl 1<|nl<|?_
 refine tn<|rt<|rr (.bool (decide (xs=ys)))<|?_
 exact⟨rfl,(ax.refl [] _)⟩
theorem oI{m m2:Bool}{A B:Option Addr}{c c2:Nat}{xs ys:List Int}{w:World}(h1:aN m w (.slice A xs.length c) xs)(h2:aN m2 w (.slice B ys.length c2) ys) : Calls Tryz.prog 170 #[.slice A xs.length c,.slice B ys.length c2] w (bi (.bool (fd xs ys)) w):=by
 have hz1:=aI.len h1
 have hz2:=aI.len h2
 have hz3:=aI.cap h1
 refine en 21 Tryz.func170 rfl<|sg<|Pl 1<|ng<|Pl 6<|bl 10 ((decide (((ys.length:Nat) : Int)≤((xs.length:Nat) : Int)))) (fun a=>?_) (fun a=>?_)
 have b:=of_decide_eq_true a
 refine Pl 5<|L1<|Oi (((xs.length:Nat) : Int)-((ys.length:Nat) : Int))<|o0 (iM (P:=Tryz.prog) 27 5 1 Tryz.underlying27 rfl rfl A xs.length c (lo:=(((xs.length:Nat) : Int)-((ys.length:Nat) : Int))) (((((xs.length:Nat) : Int)-((ys.length:Nat) : Int))).toNat) (by omega) (by omega)) fun d hrun12 e=>L1<|fw (.slice d (xs.length-(((((xs.length:Nat) : Int)-((ys.length:Nat) : Int))).toNat)) (c-(((((xs.length:Nat) : Int)-((ys.length:Nat) : Int))).toNat))) (dJ (kl:=.i64) (k:=(((xs.length:Nat) : Int)-((ys.length:Nat) : Int))) (A:=A) (n:=xs.length) (c:=c) rfl Tryz.underlying27 (by kernel_rfl) (by kernel_rfl) (hrun12 _ _))<|Pl 1<|L1<|Oc<|m1 (ra (xs:=(xs.drop (((((xs.length:Nat) : Int)-((ys.length:Nat) : Int))).toNat))) (ys:=ys) (e _ _ _ _ _ h1) h2) fun g f=>Pl 2<|nt<|rt<|rr (.bool (decide ((xs.drop (((((xs.length:Nat) : Int)-((ys.length:Nat) : Int))).toNat))=ys)))<|?_
 have hs:(decide ((xs.drop (((((xs.length:Nat) : Int)-((ys.length:Nat) : Int))).toNat))=ys))=fd xs ys:=by unfold fd;simp only[a,bs,if_true,if_false,decide_true,decide_false,Bool.true_and,Bool.false_and,Bool.and_true,Bool.and_false]
 rw[hs]
 exact⟨rfl,f⟩
 have b:=of_decide_eq_false a
 refine Pl 11<|nt<|rt<|rr (.bool false)<|?_
 have hs:false=fd xs ys:=by unfold fd;simp only[a,bs,if_true,if_false,decide_true,decide_false,Bool.true_and,Bool.false_and,Bool.and_true,Bool.and_false]
 rw[hs]
 exact⟨rfl,(ax.refl [] _)⟩
theorem qU{m m2:Bool}{u v:Value}{xs ys:List Int}{w:World}(h1:aN m w u xs)(h2:aN m2 w v ys) : Calls Tryz.prog 170 #[u,v] w (bi (.bool (fd xs ys)) w):=by
  obtain⟨A,c,rfl,_,_⟩:=h1.shape
  obtain⟨B,c2,rfl,_,_⟩:=h2.shape
  exact oI h1 h2
end Go.Proofs.YtpglhicfhppaiaaGreat
namespace Go.Proofs.YtpglhicfhppaiaaGreat
def oL (b:List Int) : Nat→Int
  | 0=>0
  | k+1=>(oL b k+b.getD k 0)%256
def rJ (b:List Int) : Int:=oL b b.length
def ky (b:List Int) : Int:=(0-rJ b)%256
def fc (b:List Int) : Bool:=decide (0<((b.length:Nat) : Int))&&(ky b==0)
def e9 (n:Int) : Int:=if n<10 then 48+n else 55+n
def bO (c:Int) : Int:=if 48≤c∧c≤57 then c-48 else if 65≤c∧c≤70 then c-55 else -1
def p9:List Int→List Int
  | []=>[]
  | c :: b=>e9 (c/16) :: e9 (c%16) :: p9 b
def bI:List Int→Option (List Int)
  | []=>some []
  | [_]=>none
  | a :: b :: r=>if bO a<0∨bO b<0 then none else (bI r).map fun l=>(16*bO a+bO b)%256 :: l
theorem nw{n:Int}(h:0≤n∧n<16) : bO (e9 n)=n:=by
  unfold e9
  split<;>unfold bO
  · rw[if_pos (by omega)];omega
  · rw[if_neg (by omega),if_pos (by omega)];omega
theorem gh{c:Int}(h:0≤bO c) : e9 (bO c)=c∧bO c<16:=by
  unfold bO at h ⊢
  split at h
  · rename_i h1
    rw[if_pos h1]
    unfold e9
    rw[if_pos (by omega)]
    omega
  · rename_i h1
    split at h
    · rename_i h2
      rw[if_neg h1,if_pos h2]
      unfold e9
      rw[if_neg (by omega)]
      omega
    · omega
theorem jr(c:Int) : bO c<16∧-1≤bO c:=by unfold bO;split;omega;split<;>omega
theorem kA:∀ b:List Int,(p9 b).length=2*b.length
  | []=>rfl
  | c :: b=>by simp only[p9,List.length_cons,kA b];omega
theorem hH:∀ {s x:List Int},bI s=some x→s=p9 x∧∀ y,y∈x→0≤y∧y<256
  | [],x,h=>by
    injection h with h
    subst h
    exact⟨rfl,fun y hy=>by cases hy⟩
  | [_],x,h=>by cases h
  | a :: b :: r,x,h=>by
    simp only[bI] at h
    split at h
    · cases h
    · rename_i hd
      cases hr:bI r with
      | none=>rw[hr] at h;cases h
      | some l =>
        rw[hr] at h
        injection h with h
        obtain⟨h1,h2⟩:=hH hr
        have ha:=gh (c:=a) (by omega)
        have hb:=gh (c:=b) (by omega)
        subst h
        refine⟨?_,fun y hy=>?_⟩
        · simp only[p9]
          rw[show(16*bO a+bO b)%256/16=bO a from by omega,show(16*bO a+bO b)%256%16=bO b from by omega,ha.1,hb.1,← h1]
        · rcases List.mem_cons.1 hy with rfl | hy
          · omega
          · exact h2 y hy
theorem kW{xs:List Int}{k:Nat}(h:2*k+1<xs.length)(ha:¬ bO (xs.getD (2*k) 0)<0)(hb:¬ bO (xs.getD (2*k+1) 0)<0) : bI (xs.drop (2*k))=(bI (xs.drop (2*(k+1)))).map fun l=>[(16*bO (xs.getD (2*k) 0)+bO (xs.getD (2*k+1) 0))%256]++l:=by
  have e1:xs.getD (2*k) 0=xs[2*k]:=by rw[List.getD_eq_getElem?_getD,List.getElem?_eq_getElem (by omega)];rfl
  have e2:xs.getD (2*k+1) 0=xs[2*k+1]:=by rw[List.getD_eq_getElem?_getD,List.getElem?_eq_getElem h];rfl
  rw[List.drop_eq_getElem_cons (show 2*k<xs.length by omega),List.drop_eq_getElem_cons h,← e1,← e2]
  simp only[bI]
  rw[if_neg (by omega),show 2*k+1+1=2*(k+1) by omega]
  rfl
theorem nR{xs:List Int}{k:Nat}(h:2*k+1<xs.length)(hd:bO (xs.getD (2*k) 0)<0∨bO (xs.getD (2*k+1) 0)<0) : bI (xs.drop (2*k))=none:=by
  have e1:xs.getD (2*k) 0=xs[2*k]:=by rw[List.getD_eq_getElem?_getD,List.getElem?_eq_getElem (by omega)];rfl
  have e2:xs.getD (2*k+1) 0=xs[2*k+1]:=by rw[List.getD_eq_getElem?_getD,List.getElem?_eq_getElem h];rfl
  rw[List.drop_eq_getElem_cons (show 2*k<xs.length by omega),List.drop_eq_getElem_cons h,← e1,← e2]
  simp only[bI]
  rw[if_pos hd]
theorem iK:∀ {xs:List Int},xs.length%2≠0→bI xs=none
  | [],h=>by simp at h
  | [_],_=>rfl
  | a :: b :: r,h=>by
    simp only[bI]
    split
    · rfl
    · rw[iK (by simp only[List.length_cons] at h;omega)]
      rfl
theorem o8{s x:List Int}(h:bI s=some x) : s.length=2*x.length:=by
  obtain⟨h1,_⟩:=hH h
  rw[h1,kA]
theorem o5{xs L:List Int}{k:Nat}(h:bI xs=(bI (xs.drop (2*k))).map fun l=>L++l)(h1:¬ 2*k<xs.length) : bI xs=some L:=by
  rw[List.drop_eq_nil_of_le (by omega)] at h
  rw[h]
  simp[bI]
theorem l4{xs L:List Int}{k:Nat}(h:bI xs=(bI (xs.drop (2*k))).map fun l=>L++l)(h2:2*k+1<xs.length)(ha:¬ bO (xs.getD (2*k) 0)<0)(hb:¬ bO (xs.getD (2*k+1) 0)<0) : bI xs=(bI (xs.drop (2*(k+1)))).map fun l=>(L++[(16*bO (xs.getD (2*k) 0)+bO (xs.getD (2*k+1) 0))%256])++l:=by
  rw[h,kW h2 ha hb]
  cases bI (xs.drop (2*(k+1))) with
  | none=>rfl
  | some l=>simp
theorem pq{xs L:List Int}{k:Nat}(h:bI xs=(bI (xs.drop (2*k))).map fun l=>L++l)(h2:2*k+1<xs.length)(hd:bO (xs.getD (2*k) 0)<0∨bO (xs.getD (2*k+1) 0)<0) : bI xs=none:=by
  rw[h,nR h2 hd]
  rfl
open Go.RowKit
theorem ql{w:World}{g:Nat}{c s:Int}(hg:w.heap[g]? = some (.cells #[.int .u8 s] 5 (0,0))) : Calls Tryz.prog 182 #[.int .u8 c,.pointer (some ⟨g,0,none⟩)] w (fun e w'=>e = .returned (.tuple #[])∧w'.heap[g]? = some (.cells #[.int .u8 ((s+c)%256)] 5 (0,0))∧ax [g] w w'):=by
 refine en 6 Tryz.func182 rfl<|go<|L0<|aU hg 0<|Pl 2<|L0<|bS hg 0 #[.int .u8 ((s+c)%256)] fun d a b=>nl<|rm (.tuple #[])<|?_
 exact⟨rfl,a,b⟩
theorem nc{m:Bool}{A:Option Addr}{cp:Nat}{b:List Int}{w0 w:World}{g:Nat}(hu0:ax [] w0 w)(hg0:w0.heap.size≤g)(hsl:aN m w0 (.slice A b.length cp) b)(hg:w.heap[g]? = some (.cells #[.int .u8 (oL b 0)] 5 (0,0))) :
    Calls Tryz.prog 181 #[.slice A b.length cp,.func (.func 182) #[] #[.pointer (some ⟨g,0,none⟩)]] w (fun e w'=>e = .returned (.tuple #[])∧w'.heap[g]? = some (.cells #[.int .u8 (rJ b)] 5 (0,0))∧ax [] w0 w'∧w.heap.size≤w'.heap.size):=by
 have hln:=aI.len hsl
 refine en 16 Tryz.func181 rfl<|sg<|Pl 3<|nt<|bk<|?_
 refine fR (fun x=>[(1,.func (.func 182) #[] #[.pointer (some ⟨g,0,none⟩)]),(6,.slice A b.length cp),(7,.int .i64 ((b.length:Nat) : Int)),(8,.int .i64 ((x:Nat) : Int))]) (fun(x:Nat) w'=>ax [] w0 w'∧w.heap.size≤w'.heap.size∧w'.heap[g]? = some (.cells #[.int .u8 (oL b x)] 5 (0,0))∧(x≤b.length)) (fun x=>b.length-x) 0 ⟨hu0,lr,hg,(by(try dsimp only);omega)⟩ ?_
 rintro k j ⟨a,f,l,n⟩
 refine ge [(1,.func (.func 182) #[] #[.pointer (some ⟨g,0,none⟩)]),(6,.slice A b.length cp),(7,.int .i64 ((b.length:Nat) : Int)),(8,.int .i64 ((k:Nat) : Int))] ?_
 have h:j.heap[g]? = some (.cells #[.int .u8 (oL b k)] 5 (0,0)):=l
 have y:k≤b.length:=n
 refine sg<|Pl 1<|nt<|sq<|cb ((decide (((k:Nat) : Int)<((b.length:Nat) : Int)))) (fun d=>?_) (fun d=>?_)
 have o:=of_decide_eq_true d
 refine bC<|sq<|bk<|sg<|?_
 refine fF (aN.at_ (aN.old hsl a) k (by omega)) fun q r s t z=>L0<|ny b.length k s (by omega)<|L0<|jx (p:=⟨q,r+k,none⟩) (v:=.int .u8 (b.getD k 0)) t<|Pl 1<|nt<|go<|Pl 2<|L0<|eK #[] #[.pointer (some ⟨g,0,none⟩)] (args:=#[.int .u8 (b.getD k 0),.pointer (some ⟨g,0,none⟩)])<|m2 (ql (c:=(b.getD k 0)) h) fun B u i=>nl<|bn<|tn<|go<|L0<|Oi (((k:Nat) : Int)+1)<|?_
 refine Pl 1<|nl<|?_
 exact dY (k+1) ⟨(ud a i hg0),(le f i.size),u,(by(try dsimp only);omega)⟩ (by omega)
 have o:=of_decide_eq_false d
 refine xt<|tx<|tx<|bx<|rm (.tuple #[])<|?_
 have hk:k=b.length:=by omega
 subst hk
 exact⟨rfl,h,a,f⟩
theorem l0{m:Bool}{A:Option Addr}{cp:Nat}{b:List Int}{w:World}(hsl:aN m w (.slice A b.length cp) b) :
    Calls Tryz.prog 178 #[.slice A b.length cp] w (bi (.int .u8 (ky b)) w):=by
 refine en 9 Tryz.func178 rfl<|sg<|Pl 1<|ng<|L0<|bB #[.int .u8 0] fun h i a c d=>L0<|bS c 0 #[.int .u8 0] fun j dp e=>ng<|?_
 refine Pl 2<|?_
 refine L0<|Oc<|m3 (nc (ud d e a) a hsl dp) fun k f g l=>ng<|L0<|aU f 0<|Pl 2<|nt<|rt<|rr (.int .u8 ((0-(rJ b))%256))<|?_
 exact⟨rfl,g⟩
theorem nH{m:Bool}{v:Value}{b:List Int}{w:World}(h:aN m w v b) : Calls Tryz.prog 178 #[v] w (bi (.int .u8 (ky b)) w):=by
  obtain⟨A,cp,rfl,_,_⟩:=h.shape
  exact l0 h
theorem kQ{m:Bool}{A:Option Addr}{cp:Nat}{b:List Int}{w:World}(hsl:aN m w (.slice A b.length cp) b) :
    Calls Tryz.prog 175 #[.slice A b.length cp] w (bi (.bool (fc b)) w):=by
 refine en 11 Tryz.func175 rfl<|sg<|Pl 1<|ng<|Pl 4<|bl 6 ((decide (0<((b.length:Nat) : Int)))) (fun a=>?_) (fun a=>?_)
 have c:=of_decide_eq_true a
 refine Pl 1<|L1<|Oc (args:=#[.slice A b.length cp])<|m1 (nH hsl) fun e d=>Pl 3<|nt<|rt<|rr (.bool ((ky b)==0))<|?_
 have hs:fc b=((ky b)==0):=by unfold fc;(try simp only[a,bs,if_true,if_false,decide_true,decide_false]);all_goals rfl
 rw[hs]
 exact⟨rfl,d⟩
 have c:=of_decide_eq_false a
 refine Pl 5<|nt<|rt<|rr (.bool false)<|?_
 have hs:fc b=false:=by unfold fc;(try simp only[a,bs,if_true,if_false,decide_true,decide_false]);all_goals rfl
 rw[hs]
 exact⟨rfl,(ax.refl [] _)⟩
theorem nk{m:Bool}{v:Value}{b:List Int}{w:World}(h:aN m w v b) : Calls Tryz.prog 175 #[v] w (bi (.bool (fc b)) w):=by
  obtain⟨A,cp,rfl,_,_⟩:=h.shape
  exact kQ h
open Go.RowKit
def pl:Array Value:=#[.int .u8 48,.int .u8 49,.int .u8 50,.int .u8 51,.int .u8 52,.int .u8 53,.int .u8 54,.int .u8 55,.int .u8 56,.int .u8 57,.int .u8 65,.int .u8 66,.int .u8 67,.int .u8 68,.int .u8 69,.int .u8 70]
theorem qF:∀ {j:Nat},j<16→pl[j]? = some (.int .u8 (e9 (j:Int)))
  | 0,_ | 1,_ | 2,_ | 3,_ | 4,_ | 5,_ | 6,_ | 7,_ | 8,_ | 9,_ | 10,_ | 11,_ | 12,_ | 13,_ | 14,_ | 15,_=>rfl
  | n+16,h=>by omega
theorem oz{P:Program}{w:World}{ev:Operand→Value}{o:Oper}{x ix:Operand}{t e:TypeId}{k:IntKind}{i:Int}(j:Nat)(ho:o.op = .index t x ix)(ht:P.underlying t=some (.array 16 e))(hi:(P.info? e).map (·.size)=some 1)(hr:∀ w,(isAgg e).run P w = .ok false w)(hx:ev x = .agg pl)(hy:ev ix = .int k i)(hj:i=(j:Int))(hlt:j<16) : (execOp ev o).run P w = .ok (.value (.int .u8 (e9 (j:Int)))) w:=by
  subst hj
  obtain⟨i0,hi0,hs⟩:=Option.map_eq_some_iff.1 hi
  have h:=qF hlt
  unfold execOp
  have h2:(0:Int)≤(j:Int)∧(j:Int)<16:=by omega
  simp[ho,hx,hy,Instr.index,asIntOf,run_underlying ht,Result.andThen,h2,sizeOf,typeInfo,hi0,hs,part,h,hr,hlt]
open Go.RowKit
theorem l7{w:World}:Calls Tryz.prog 180 #[] w (bi (.agg pl) w):=by
 refine en 2 Tryz.func180 rfl<|sg<|L0<|bB #[.int .u8 0,.int .u8 0,.int .u8 0,.int .u8 0,.int .u8 0,.int .u8 0,.int .u8 0,.int .u8 0,.int .u8 0,.int .u8 0,.int .u8 0,.int .u8 0,.int .u8 0,.int .u8 0,.int .u8 0,.int .u8 0] fun e f a b c=>ng<|Pl 1<|L0<|be b #[.int .u8 48,.int .u8 49,.int .u8 50,.int .u8 51,.int .u8 52,.int .u8 53,.int .u8 54,.int .u8 55,.int .u8 56,.int .u8 57,.int .u8 65,.int .u8 66,.int .u8 67,.int .u8 68,.int .u8 69,.int .u8 70] fun g dp d=>nt<|rt<|sU dp<|?_
 exact⟨rfl,(ud c d a)⟩
theorem oJ{c:Int}{n:Nat}(h:∀ j:Nat,j<n→e9 (j:Int)≠c)(q:(e9 ((n:Nat) : Int)==c)=false) : ∀ j:Nat,j<n+1→e9 (j:Int)≠c:=fun j hj=>by
  by_cases e:j=n
  · subst e;simpa using q
  · exact h j (by omega)
theorem rP{c:Int}{n:Nat}(hn:n<16)(q:(e9 ((n:Nat) : Int)==c)=true) : bO c=((n:Nat) : Int):=by
  have e:e9 ((n:Nat) : Int)=c:=by simpa using q
  rw[← e]
  exact nw (by omega)
theorem pf{c:Int}{n:Nat}(hn:n=16)(h:∀ j:Nat,j<n→e9 (j:Int)≠c) : bO c = -1:=by
  by_cases e:0≤bO c
  · have h1:=gh e
    exact absurd (by rw[Int.toNat_of_nonneg e];exact h1.1) (h (bO c).toNat (by omega))
  · have:=jr c
    omega
theorem ip{w:World}{c:Int}(hc:0≤c∧c<256) : Calls Tryz.prog 177 #[.int .u8 c] w (bi (.int .i64 (bO c)) w):=by
 refine en 15 Tryz.func177 rfl<|sg<|Pl 1<|nt<|sq<|sg<|L0<|Oc<|m1 (@l7 w) fun g h=>Pl 1<|nt<|bk<|?_
 refine fR (fun x=>[(0,.int .u8 c),(5,.agg pl),(6,.int .i64 ((x:Nat) : Int))]) (fun(x:Nat) w'=>ax [] g w'∧(x≤16)∧(∀ j:Nat,j<x→e9 (j:Int)≠c)) (fun x=>16-x) 0 ⟨ax.refl _ _,(by(try dsimp only);omega),(fun j hj=>by omega)⟩ ?_
 rintro n q ⟨d,l,m⟩
 refine ge [(0,.int .u8 c),(5,.agg pl),(6,.int .i64 ((n:Nat) : Int))] ?_
 have r:n≤16:=l
 have e:∀ j:Nat,j<n→e9 (j:Int)≠c:=m
 refine sg<|Pl 1<|nt<|sq<|?_
 have f:=aG h d
 refine cb ((decide (((n:Nat) : Int)<16))) (fun b=>?_) (fun b=>?_)
 have o:=of_decide_eq_true b
 refine bC<|sq<|bk<|sg<|Pl 1<|L0<|fw (.int .u8 (e9 ((n:Nat) : Int))) (oz (k:=.i64) (i:=((n:Nat) : Int)) n rfl Tryz.underlying226 (by kernel_rfl) Tryz.isAgg5 (by kernel_rfl) (by kernel_rfl) rfl (by omega))<|Pl 2<|ng<|Pl 3<|nl<|?_
 refine tn<|cb (((e9 ((n:Nat) : Int))==c)) (fun a=>?_) (fun a=>?_)
 have p:=aB a
 refine sg<|Pl 2<|nt<|rt<|br<|tr<|tr<|br<|tr<|rr (.int .i64 ((n:Nat) : Int))<|?_
 have hs:bO c=((n:Nat) : Int):=rP (by omega) a
 rw[hs]
 exact⟨rfl,f⟩
 have p:=aH a
 exact sk<|bn<|tn<|go<|L0<|Oi (((n:Nat) : Int)+1)<|Pl 1<|nl<|dY (n+1) ⟨d,(by(try dsimp only);omega),(oJ e a)⟩ (by omega)
 have o:=of_decide_eq_false b
 refine xt<|tx<|tx<|bx<|tn<|sg<|Pl 1<|nt<|rt<|rr (.int .i64 (-1))<|?_
 have hs:bO c = -1:=pf (n:=n) (by omega) e
 rw[hs]
 exact⟨rfl,f⟩
open Go.RowKit
def ek (xs:List Int)(w:World)(e:Ending)(w':World) : Prop:=match bI xs with
  | some l=>∃ v,e = .returned (.tuple #[v,.int .i64 0])∧cJ w.heap.size w' v l∧ax [] w w'
  | none=>e = .returned (.tuple #[.slice none 0 0,.int .i64 11])∧ax [] w w'
theorem qi{xs l:List Int}{w w':World}{e:Ending}(h:bI xs=some l)(k:∃ v,e = .returned (.tuple #[v,.int .i64 0])∧cJ w.heap.size w' v l∧ax [] w w') : ek xs w e w':=by
  unfold ek
  rw[h]
  exact k
theorem mv{xs:List Int}{w w':World}{e:Ending}(h:bI xs=none)(k:e = .returned (.tuple #[.slice none 0 0,.int .i64 11])∧ax [] w w') : ek xs w e w':=by
  unfold ek
  rw[h]
  exact k
theorem iD{xs:List Int}{w:World}(hr:dv xs)(hl:xs.length≤1048576) :
    Calls Tryz.prog 174 #[.string (strOfNums xs)] w (ek xs w):=by
 refine en 42 Tryz.func174 rfl<|sg<|Pl 2<|nt<|sq<|sg<|Pl 1<|L0<|Oe (.int .i64 (((strOfNums xs).size:Nat) : Int)) (.int .i64 ((xs.length:Nat) : Int)) (by rw[strOfNums_size])<|L0<|Oe (.int .i64 (Int.tmod ((xs.length:Nat) : Int) 2)) (.int .i64 (((xs.length:Nat) : Int)%2)) (congrArg (Value.int .i64) (Int.tmod_eq_emod_of_nonneg (by omega)))<|Pl 1<|nl<|?_
 refine tn<|cb (((((xs.length:Nat) : Int)%2)!=0)) (fun f=>?_) (fun f=>?_)
 have A:=ay f
 refine sg<|Pl 2<|nt<|rt<|tr<|rr (.tuple #[.slice none 0 0,.int .i64 11])<|?_
 have hs:bI xs=none:=iK (by omega)
 exact mv hs ⟨rfl,(ax.refl [] _)⟩
 have A:=ag f
 refine bC<|sg<|Pl 1<|nt<|sq<|sg<|Pl 1<|nt<|bk<|?_
 refine fR (fun x=>[(0,.string (strOfNums xs)),(4,.slice x.2.2.1 x.2.1.length x.2.2.2),(5,.int .i64 ((2*x.1:Nat) : Int))]) (fun(x:Nat × List Int × Option Addr × Nat) w'=>ax [] w w'∧cJ w.heap.size w' (.slice x.2.2.1 x.2.1.length x.2.2.2) x.2.1∧(2*x.1≤xs.length)∧(bI xs=(bI (xs.drop (2*x.1))).map fun l=>x.2.1++l)∧(x.2.1.length=x.1)) (fun x=>xs.length-2*x.1) (0,[],none,0) ⟨ax.refl _ _,(aO.nil w.heap.size _ _ kL _),(by(try dsimp only);omega),(by(try dsimp only);simp),(by(try dsimp only);rfl)⟩ ?_
 rintro⟨k,L,B,cq⟩ C ⟨g,D,E,F,G⟩
 refine ge [(0,.string (strOfNums xs)),(4,.slice B L.length cq),(5,.int .i64 ((2*k:Nat) : Int))] ?_
 have j:cJ w.heap.size C (.slice B L.length cq) L:=D
 have U:2*k≤xs.length:=E
 have V:bI xs=(bI (xs.drop (2*k))).map fun l=>L++l:=F
 have W:L.length=k:=G
 have hL:bI xs=(bI (xs.drop (2*k))).map fun l=>L++l:=by assumption
 refine sq<|sg<|Pl 2<|L0<|Oe (.int .i64 (((strOfNums xs).size:Nat) : Int)) (.int .i64 ((xs.length:Nat) : Int)) (by rw[strOfNums_size])<|Pl 1<|nt<|cb ((decide (((2*k:Nat) : Int)<((xs.length:Nat) : Int)))) (fun n=>?_) (fun n=>?_)
 have H:=of_decide_eq_true n
 refine bC<|sq<|bk<|sq<|Rg 11 (fun w'=>True) fun X p=>bg trivial fun a=>Rt 0 a<|Rt 1 a<|Rr 2 a (.int .u8 (xs.getD (2*k) 0)) (fun _ _=>kg (xs:=xs) (k:=.i64) (i:=((2*k:Nat) : Int)) (2*k) rfl Tryz.underlying9 (by kernel_rfl) (by kernel_rfl) hr rfl (by omega))<|Rt 4 a<|Rt 5 a<|Rr 6 a (.int .i64 (((2*k:Nat) : Int)+1)) (fun _ _=>bX (.int .i64 (IntKind.i64.wrap (((2*k:Nat) : Int)+1))) (by kernel_rfl) (congrArg (Value.int .i64) (IntWalk.i64_in _ (by omega))))<|Rr 7 a (.int .u8 (xs.getD ((((2*k:Nat) : Int)+1)).toNat 0)) (fun _ _=>kg (xs:=xs) (k:=.i64) (i:=(((2*k:Nat) : Int)+1)) ((((2*k:Nat) : Int)+1)).toNat rfl Tryz.underlying9 (by kernel_rfl) (by kernel_rfl) hr (by omega) (by omega))<|?_
 have Y:=jr (xs.getD (2*k) 0)
 refine R0 3 rfl<|Oc<|m1 (ip (c:=(xs.getD (2*k) 0)) (w:=_) (dX (by omega) hr _)) fun Z r=>bg trivial fun a0=>?_
 have a1:=jr (xs.getD ((((2*k:Nat) : Int)+1)).toNat 0)
 refine R0 8 rfl<|Oc<|m1 (ip (c:=(xs.getD ((((2*k:Nat) : Int)+1)).toNat 0)) (w:=_) (dX (by omega) hr _)) fun a2 s=>bg trivial fun t=>Rt 9 t<|Rt 10 t<|re<|tn<|sq<|sg<|Pl 3<|cu 3 [29] 32 (((decide ((bO (xs.getD (2*k) 0))<0))||(decide ((bO (xs.getD ((((2*k:Nat) : Int)+1)).toNat 0))<0)))) (fun K u=>?_) ?_
 refine bl 29 ((decide ((bO (xs.getD (2*k) 0))<0))) (fun b=>?_) (fun b=>?_)
 have I:=of_decide_eq_true b
 exact Pl 3<|ce u true (by rw[b];rfl)
 have I:=of_decide_eq_false b
 exact Pl 3<|ce u (decide ((bO (xs.getD ((((2*k:Nat) : Int)+1)).toNat 0))<0)) (by rw[b];rfl)
 refine nt<|?_
 have v:=aG p (aG r s)
 have y:=aG g v
 refine cb (((decide ((bO (xs.getD (2*k) 0))<0))||(decide ((bO (xs.getD ((((2*k:Nat) : Int)+1)).toNat 0))<0)))) (fun d=>?_) (fun d=>?_)
 refine sg<|Pl 2<|nt<|rt<|tr<|br<|tr<|tr<|br<|tr<|rr (.tuple #[.slice none 0 0,.int .i64 11])<|?_
 have hs:bI xs=none:=pq (k:=k) hL (by omega) (by have q:=d;simp only[Bool.or_eq_true,decide_eq_true_eq] at q;rw[show 2*k+1=(((2*k:Nat) : Int)+1).toNat from by omega];exact q)
 exact mv hs ⟨rfl,y⟩
 have J:=(aE d).1
 have M:=(aE d).2
 have a3:=of_decide_eq_false J
 have a4:=of_decide_eq_false M
 refine bC<|go<|Pl 2<|L0<|Oi (16*(bO (xs.getD (2*k) 0)))<|Pl 1<|L0<|Oi ((16*(bO (xs.getD (2*k) 0)))+(bO (xs.getD ((((2*k:Nat) : Int)+1)).toNat 0)))<|Pl 1<|L0<|fg (m:=1) (e:=5) #[.int .u8 (((16*(bO (xs.getD (2*k) 0)))+(bO (xs.getD ((((2*k:Nat) : Int)+1)).toNat 0)))%256)] fun a5 a6 N O o=>?_
 have P:=ik N (xs:=[(((16*(bO (xs.getD (2*k) 0)))+(bO (xs.getD ((((2*k:Nat) : Int)+1)).toNat 0)))%256)]) (by as_aux_lemma=>kernel_rfl) (aJ (by omega) cR) (by(try simp only[List.length_cons,List.length_nil]);omega) O
 refine L0<|ua jn (xs:=L) (ys:=([(((16*(bO (xs.getD (2*k) 0)))+(bO (xs.getD ((((2*k:Nat) : Int)+1)).toNat 0)))%256)])) (.int .u8 0) 1 (am j (aG v o) (fun x hx=>av) (fun _ _ h=>h)) (P).rd (by(try simp only[List.length_append,List.length_cons,List.length_nil,aR]);omega) (le (le (le (le g.size p.size) r.size) s.size) o.size) fun Q R a7 S T=>Pl 1<|nl<|bn<|tn<|go<|Pl 1<|L0<|Oi (((2*k:Nat) : Int)+2)<|Pl 1<|nl<|?_
 have z:=l4 (k:=k) hL (by omega) (by omega) (by rw[show 2*k+1=(((2*k:Nat) : Int)+1).toNat from by omega];omega)
 rw[show 2*k+1=(((2*k:Nat) : Int)+1).toNat from by omega] at z
 exact dY ((k+1),(L++[(((16*(bO (xs.getD (2*k) 0)))+(bO (xs.getD ((((2*k:Nat) : Int)+1)).toNat 0)))%256)]),Q,R) ⟨(ut y (ut (ax.mono (S':=(ob B++[])) o au) T (aq il au)) (aq (bv j lr) au)),S,(by(try dsimp only);omega),z,(by(try dsimp only);simp only[List.length_append,List.length_cons,List.length_nil];omega)⟩ (by omega)
 have H:=of_decide_eq_false n
 refine xt<|tx<|tx<|bx<|tn<|sg<|Pl 3<|nt<|rt<|rr (.tuple #[.slice B L.length cq,.int .i64 0])<|?_
 have hs:bI xs=some L:=o5 hL (by omega)
 exact qi hs ⟨_,rfl,j,g⟩
open Go.RowKit
def eC (xs:List Int) : Bool:=decide (2≤((xs.length:Nat) : Int))&&decide (xs.drop (((xs.length:Nat) : Int)-2).toNat=[13,10])
def fM (b:List Int) : Option (List Int):=if b.getD 0 0=58∧eC (b.drop 1)=true then some ((b.drop 1).take (b.length-3)) else none
theorem jT{xs:List Int}(h:eC xs=true) : 2≤xs.length:=by
  unfold eC at h
  simp only[Bool.and_eq_true,decide_eq_true_eq] at h
  omega
theorem iT{b s:List Int}(h:fM b=some s) : b.getD 0 0=58∧eC (b.drop 1)=true∧s=(b.drop 1).take (b.length-3)∧3≤b.length:=by
  unfold fM at h
  split at h
  · rename_i hc
    injection h with h
    have:=jT hc.2
    rw[List.length_drop] at this
    exact⟨hc.1,hc.2,h.symm,by omega⟩
  · cases h
theorem pN{b s:List Int}(h:fM b=some s) : s.length=b.length-3:=by
  obtain⟨_,_,rfl,h3⟩:=iT h
  rw[List.length_take,List.length_drop]
  omega
def jp (xs:List Int)(w:World)(e:Ending)(w':World) : Prop:=match fM xs with
  | some l=>e = .returned (.tuple #[.string (strOfNums l),.bool true])∧ax [] w w'
  | none=>∃ s,e = .returned (.tuple #[.string s,.bool false])∧ax [] w w'
theorem gZ{xs:List Int}{w:World}(hr:dv xs)(hl:xs.length≤1048576) : Calls Tryz.prog 183 #[.string (strOfNums xs),.string ⟨#[13,10]⟩] w (bi (.bool (eC xs)) w):=by
 refine en 21 Tryz.func183 rfl<|sg<|Pl 1<|ng<|Pl 1<|L0<|Oe (.int .i64 (((strOfNums xs).size:Nat) : Int)) (.int .i64 ((xs.length:Nat) : Int)) (by rw[strOfNums_size])<|Pl 4<|bl 10 ((decide (2≤((xs.length:Nat) : Int)))) (fun c=>?_) (fun c=>?_)
 have d:=of_decide_eq_true c
 refine Pl 2<|L1<|Oe (.int .i64 (((strOfNums xs).size:Nat) : Int)) (.int .i64 ((xs.length:Nat) : Int)) (by rw[strOfNums_size])<|Pl 2<|L1<|Oi (((xs.length:Nat) : Int)-2)<|?_
 have e:dv (xs.drop ((((xs.length:Nat) : Int)-2)).toNat):=gc hr ((((xs.length:Nat) : Int)-2)).toNat
 refine L1<|fw (.string (strOfNums (xs.drop ((((xs.length:Nat) : Int)-2)).toNat))) (iJ (xs:=xs) (k:=.i64) (i:=(((xs.length:Nat) : Int)-2)) ((((xs.length:Nat) : Int)-2)).toNat rfl Tryz.underlying9 (by kernel_rfl) (by kernel_rfl) (by omega) (by omega))<|Pl 1<|L1<|fw (.bool (decide ((xs.drop ((((xs.length:Nat) : Int)-2)).toNat)=[13,10]))) (dN (a:=(strOfNums (xs.drop ((((xs.length:Nat) : Int)-2)).toNat))) (b:=⟨#[13,10]⟩) rfl (by kernel_rfl) (by kernel_rfl) (qW (ys:=[13,10]) e (by decide)))<|Pl 2<|nt<|rt<|rr (.bool (decide ((xs.drop ((((xs.length:Nat) : Int)-2)).toNat)=[13,10])))<|?_
 have hs:eC xs=(decide ((xs.drop ((((xs.length:Nat) : Int)-2)).toNat)=[13,10])):=by unfold eC;(try simp only[c,bs,if_true,if_false,decide_true,decide_false]);all_goals rfl
 rw[hs]
 exact⟨rfl,(ax.refl [] _)⟩
 have d:=of_decide_eq_false c
 refine Pl 11<|nt<|rt<|rr (.bool false)<|?_
 have hs:eC xs=false:=by unfold eC;(try simp only[c,bs,if_true,if_false,decide_true,decide_false]);all_goals rfl
 rw[hs]
 exact⟨rfl,(ax.refl [] _)⟩
theorem mP{xs:List Int}{w:World}(hr:dv xs)(hl:xs.length≤1048576)(hq:eC xs=true) : Calls Tryz.prog 179 #[.string (strOfNums xs),.string ⟨#[13,10]⟩] w (bi (.tuple #[.string (strOfNums (xs.take (((xs.length:Nat) : Int)-2).toNat)),.bool true]) w):=by
 have hq2:=jT hq
 refine en 18 Tryz.func179 rfl<|sg<|Pl 2<|nt<|sq<|sg<|Pl 2<|L0<|Oc<|m1 (gZ (xs:=xs) (w:=_) hr (by omega)) fun c a=>Pl 1<|nt<|?_
 have b:(!(eC xs))=false:=by simp only[hq,Bool.not_true,Bool.not_false]
 refine cf b<|bC<|sg<|Pl 2<|L0<|Oe (.int .i64 (((strOfNums xs).size:Nat) : Int)) (.int .i64 ((xs.length:Nat) : Int)) (by rw[strOfNums_size])<|Pl 2<|L0<|Oi (((xs.length:Nat) : Int)-2)<|?_
 have d:dv (xs.take ((((xs.length:Nat) : Int)-2)).toNat):=iy hr ((((xs.length:Nat) : Int)-2)).toNat
 refine L0<|fw (.string (strOfNums (xs.take ((((xs.length:Nat) : Int)-2)).toNat))) (oc (xs:=xs) (k:=.i64) (i:=(((xs.length:Nat) : Int)-2)) ((((xs.length:Nat) : Int)-2)).toNat rfl Tryz.underlying9 (by kernel_rfl) (by kernel_rfl) (by omega) (by omega))<|Pl 2<|nt<|rt<|rr (.tuple #[.string (strOfNums (xs.take ((((xs.length:Nat) : Int)-2)).toNat)),.bool true])<|?_
 exact⟨rfl,a⟩
theorem pi{xs:List Int}{w:World}(hr:dv xs)(hl:xs.length≤1048576)(hq:eC xs=true) : Calls Tryz.prog 176 #[.string (strOfNums xs),.string ⟨#[13,10]⟩] w (bi (.tuple #[.string (strOfNums (xs.take (((xs.length:Nat) : Int)-2).toNat)),.bool true]) w):=by
 refine en 11 Tryz.func176 rfl<|sg<|Pl 2<|ng<|Pl 2<|L0<|Oc<|m1 (mP (xs:=xs) (w:=_) hr hl hq) fun b a=>Pl 4<|nt<|rt<|?_
 refine rr (.tuple #[.string (strOfNums (xs.take (((xs.length:Nat) : Int)-2).toNat)),.bool true])<|?_
 exact⟨rfl,a⟩
theorem nA{xs:List Int}{w:World}(hr:dv xs)(hl:xs.length≤1048576)(hq:eC xs=false) : Calls Tryz.prog 179 #[.string (strOfNums xs),.string ⟨#[13,10]⟩] w (bi (.tuple #[.string (strOfNums xs),.bool false]) w):=by
 refine en 18 Tryz.func179 rfl<|sg<|Pl 2<|nt<|sq<|sg<|Pl 2<|L0<|Oc<|m1 (gZ (xs:=xs) (w:=_) hr (by omega)) fun c a=>Pl 1<|nt<|?_
 have b:(!(eC xs))=true:=by simp only[hq,Bool.not_true,Bool.not_false]
 refine ct b<|sg<|Pl 3<|nt<|rt<|tr<|rr (.tuple #[.string (strOfNums xs),.bool false])<|?_
 exact⟨rfl,a⟩
theorem pk{xs:List Int}{w:World}(hr:dv xs)(hl:xs.length≤1048576)(hq:eC xs=false) : Calls Tryz.prog 176 #[.string (strOfNums xs),.string ⟨#[13,10]⟩] w (bi (.tuple #[.string (strOfNums xs),.bool false]) w):=by
 refine en 11 Tryz.func176 rfl<|sg<|Pl 2<|ng<|Pl 2<|L0<|Oc<|m1 (nA (xs:=xs) (w:=_) hr hl hq) fun b a=>Pl 4<|nt<|rt<|?_
 refine rr (.tuple #[.string (strOfNums xs),.bool false])<|?_
 exact⟨rfl,a⟩
theorem rU{b:List Int}(h:b.getD 0 0=58)(k:eC (b.drop 1)=true) : fM b=some ((b.drop 1).take (b.length-3)):=if_pos ⟨h,k⟩
theorem qE{b:List Int}(h:¬ b.getD 0 0=58) : fM b=none:=if_neg fun k=>h k.1
theorem qQ{b:List Int}(k:eC (b.drop 1)=false) : fM b=none:=if_neg fun h=>by rw[k] at h;cases h.2
theorem rV{b l:List Int}{w w':World}{e:Ending}(h:fM b=some l)(k:e = .returned (.tuple #[.string (strOfNums l),.bool true])∧ax [] w w') : jp b w e w':=by
  unfold jp
  rw[h]
  exact k
theorem oq{b:List Int}{w w':World}{e:Ending}(h:fM b=none)(k:∃ s,e = .returned (.tuple #[.string s,.bool false])∧ax [] w w') : jp b w e w':=by
  unfold jp
  rw[h]
  exact k
theorem gO{b:List Int}{w:World}(hr:dv b)(hl:b.length≤1048576)(h0:0<b.length) : Calls Tryz.prog 173 #[.string (strOfNums b)] w (jp b w):=by
 refine en 18 Tryz.func173 rfl<|sg<|Pl 2<|nt<|sq<|sg<|Pl 1<|L0<|uK (sv:=strOfNums b) Tryz.underlying9 fun f m n o p=>nt<|bk<|?_
 refine fR (fun x=>[(0,.string (strOfNums b)),(7,.pointer (some ⟨f,0,none⟩))]) (fun(x:Unit) w'=>ax [] m w'∧(0≤0)) (fun x=>0) () ⟨ax.refl _ _,(by(try dsimp only);omega)⟩ ?_
 rintro z v ⟨g,q⟩
 refine ge [(0,.string (strOfNums b)),(7,.pointer (some ⟨f,0,none⟩))] ?_
 have y:0≤0:=q
 refine sg<|?_
 refine L0<|vF hr (by omega) (ub g o) fun r A h s=>Pl 1<|nt<|sq<|c1<|bC<|bk<|sg<|Pl 2<|nt<|?_
 refine sq<|sg<|Pl 2<|nt<|?_
 have a:=ud p (uz g s) n
 refine cb ((r != 58)) (fun c=>?_) (fun c=>?_)
 have d:=ay c
 refine sg<|Pl 2<|nt<|rt<|tr<|br<|tr<|br<|tr<|rr (.tuple #[.string ⟨#[]⟩,.bool false])<|?_
 exact oq (qE fun e=>d (h.2 e)) ⟨_,rfl,a⟩
 have d:=ag c
 refine bC<|xt<|tV<|tx<|bx<|tn<|sg<|Pl 1<|?_
 have j:dv (b.drop 1):=gc hr 1
 refine L0<|fw (.string (strOfNums (b.drop 1))) (iJ (xs:=b) (k:=.i64) (i:=1) 1 rfl Tryz.underlying9 (by kernel_rfl) (by kernel_rfl) rfl (by omega))<|?_
 rcases e7 (eC (b.drop 1)) with hq|hq
 refine L0<|Oc<|m1 (pi (xs:=(b.drop 1)) (w:=_) j (by rw[List.length_drop];omega) hq) fun B t=>Pl 4<|nt<|rt<|rr (.tuple #[.string (strOfNums ((b.drop 1).take ((((b.drop 1).length:Nat) : Int)-2).toNat)),.bool true])<|?_
 exact rV (l:=(b.drop 1).take (b.length-3)) (rU (h.1 d) hq) ⟨by rw[show b.length-3=((((b.drop 1).length:Nat) : Int)-2).toNat from by rw[List.length_drop];omega],(aG a t)⟩
 refine L0<|Oc<|m1 (pk (xs:=(b.drop 1)) (w:=_) j (by rw[List.length_drop];omega) hq) fun C u=>Pl 4<|nt<|rt<|rr (.tuple #[.string (strOfNums (b.drop 1)),.bool false])<|?_
 exact oq (qQ hq) ⟨_,rfl,(aG a u)⟩
open Go.RowKit
theorem nP{b s:List Int}(hr:dv b)(h:fM b=some s) : dv s:=by
  obtain⟨_,_,rfl,_⟩:=iT h
  exact iy (gc hr 1) _
theorem pX{b l:List Int}{w:World}(h:fM b=some l)(e:Ending)(w':World)(k:jp b w e w') : e = .returned (.tuple #[.string (strOfNums l),.bool true])∧ax [] w w':=by
  unfold jp at k
  rw[h] at k
  exact k
theorem qk{b:List Int}{w:World}(h:fM b=none)(e:Ending)(w':World)(k:jp b w e w') : ∃ s,e = .returned (.tuple #[.string s,.bool false])∧ax [] w w':=by
  unfold jp at k
  rw[h] at k
  exact k
theorem ox{b l:List Int}{w:World}(h:bI b=some l)(e:Ending)(w':World)(k:ek b w e w') : ∃ v,e = .returned (.tuple #[v,.int .i64 0])∧cJ w.heap.size w' v l∧ax [] w w':=by
  unfold ek at k
  rw[h] at k
  exact k
theorem pj{b:List Int}{w:World}(h:bI b=none)(e:Ending)(w':World)(k:ek b w e w') : e = .returned (.tuple #[.slice none 0 0,.int .i64 11])∧ax [] w w':=by
  unfold ek at k
  rw[h] at k
  exact k
def fL (x:List Int) : List Int:=(x.take (x.length-1)).drop 1
theorem hM(x:List Int) : fL x=(x.take (((x.length:Nat) : Int)-1).toNat).drop 1:=by
  unfold fL
  rw[show(((x.length:Nat) : Int)-1).toNat=x.length-1 from by omega]
def dr (dir:Int)(b:List Int) : cN × Int :=
  if dir != 0&&dir != 1 then (cN.zero,1)
  else if decide ((b.length:Int)<9) then (cN.zero,2)
  else if decide (513<(b.length:Int)) then (cN.zero,3)
  else match fM b with
    | none=>(cN.zero,12)
    | some s=>match bI s with
      | none=>(cN.zero,11)
      | some x=>if !(fc x) then (cN.zero,10) else cn (x.getD 0 0) 0 (cj dir (fL x))
theorem lF{m:Bool}{A:Option Addr}{cp:Nat}{b:List Int}{w:World}{dir:Int}(hsl0:aN m w (.slice A b.length cp) b)(hb:b.length≤1048576) :
    Calls Tryz.prog 171 #[.int .i64 dir,.slice A b.length cp] w (j2 (dr dir b) w):=by
 have hln:(b.length:Int)≤1048576:=by omega
 have hr:dv b:=aN.range hsl0
 refine en 71 Tryz.func171 rfl<|sg<|L0<|bB #[.int .u8 0,.int .u16 0,.int .u8 0,.int .u8 0,.int .u16 0,.int .u16 0,.int .u16 0,.int .u16 0,.int .u16 0,.int .u16 0,.int .u16 0,.int .u16 0,.int .u16 0,.int .u16 0,.slice none 0 0,.slice none 0 0,.slice none 0 0,.slice none 0 0,.int .u8 0,.int .u8 0,.int .u8 0,.int .u8 0,.int .u8 0,.slice none 0 0] fun bu X k d o=>Pl 1<|nt<|sq<|bk<|sg<|Pl 3<|cu 3 [14] 17 (((dir != 0)&&(dir != 1))) (fun K Y=>?_) ?_
 refine bl 14 ((dir != 0)) (fun F=>?_) (fun F=>?_)
 have an:=ay F
 exact Pl 3<|ce Y (dir != 1) (by rw[F];rfl)
 have an:=ag F
 exact Pl 3<|ce Y false (by rw[F];rfl)
 refine Pl 1<|nt<|cb (((dir != 0)&&(dir != 1))) (fun f=>?_) (fun f=>?_)
 have Z:=(bQ f).1
 have a0:=(bQ f).2
 have bv:=ay Z
 have bw:=ay a0
 refine sg<|Pl 1<|L0<|be d #[.int .u8 0,.int .u16 0,.int .u8 0,.int .u8 0,.int .u16 0,.int .u16 0,.int .u16 0,.int .u16 0,.int .u16 0,.int .u16 0,.int .u16 0,.int .u16 0,.int .u16 0,.int .u16 0,.slice none 0 0,.slice none 0 0,.slice none 0 0,.slice none 0 0,.int .u8 0,.int .u8 0,.int .u8 0,.int .u8 0,.int .u8 0,.slice none 0 0] fun bx ao aq=>Pl 1<|nt<|rt<|br<|tr<|c9 ao (.int .i64 1)<|?_
 have hs:dr dir b=(cN.zero,1):=by
   unfold dr
   (try simp only[f,Z,a0,bs,if_true,if_false,decide_true,decide_false,cn,reduceIte])
   all_goals rfl
 refine cK hs ?_
 exact bY (ud o aq k)
 refine sg<|Pl 4<|nt<|cb ((decide (((b.length:Nat) : Int)<9))) (fun i=>?_) (fun i=>?_)
 have ar:=of_decide_eq_true i
 refine sg<|Pl 1<|L0<|be d #[.int .u8 0,.int .u16 0,.int .u8 0,.int .u8 0,.int .u16 0,.int .u16 0,.int .u16 0,.int .u16 0,.int .u16 0,.int .u16 0,.int .u16 0,.int .u16 0,.int .u16 0,.int .u16 0,.slice none 0 0,.slice none 0 0,.slice none 0 0,.slice none 0 0,.int .u8 0,.int .u8 0,.int .u8 0,.int .u8 0,.int .u8 0,.slice none 0 0] fun bz au aw=>Pl 1<|nt<|rt<|br<|tr<|c9 au (.int .i64 2)<|?_
 have hs:dr dir b=(cN.zero,2):=by
   unfold dr
   (try simp only[f,i,bs,if_true,if_false,decide_true,decide_false,cn,reduceIte])
   all_goals rfl
 refine cK hs ?_
 exact bY (ud o aw k)
 have ar:=of_decide_eq_false i
 refine sg<|Pl 4<|nt<|cb ((decide (513<((b.length:Nat) : Int)))) (fun j=>?_) (fun j=>?_)
 have ax:=of_decide_eq_true j
 refine sg<|Pl 1<|L0<|be d #[.int .u8 0,.int .u16 0,.int .u8 0,.int .u8 0,.int .u16 0,.int .u16 0,.int .u16 0,.int .u16 0,.int .u16 0,.int .u16 0,.int .u16 0,.int .u16 0,.int .u16 0,.int .u16 0,.slice none 0 0,.slice none 0 0,.slice none 0 0,.slice none 0 0,.int .u8 0,.int .u8 0,.int .u8 0,.int .u8 0,.int .u8 0,.slice none 0 0] fun bA aA aB=>Pl 1<|nt<|rt<|br<|tr<|c9 aA (.int .i64 3)<|?_
 have hs:dr dir b=(cN.zero,3):=by
   unfold dr
   (try simp only[f,i,j,bs,if_true,if_false,decide_true,decide_false,cn,reduceIte])
   all_goals rfl
 refine cK hs ?_
 exact bY (ud o aB k)
 have ax:=of_decide_eq_false j
 refine sk<|bn<|tn<|sg<|Pl 1<|?_
 have Q:=aN.old hsl0 o
 refine L0<|fw (.string (strOfNums b)) (bU (A:=A) (n:=b.length) (c:=cp) rfl (by kernel_rfl) Tryz.underlying27 Tryz.underlying5 Tryz.underlying9 Q)<|?_
 rcases hds:fM b with _|sd
 have aC:=gO (w:=X) (aN.range Q) hb (by omega)
 have aE:=aC.mono (qk hds)
 refine L0<|Oc (args:=#[.string (strOfNums b)])<|e1 aE fun bD bE a1=>Pl 5<|nt<|sq<|sg<|Pl 2<|nt<|c1<|sg<|Pl 1<|?_
 refine L0<|be (ub a1 d) #[.int .u8 0,.int .u16 0,.int .u8 0,.int .u8 0,.int .u16 0,.int .u16 0,.int .u16 0,.int .u16 0,.int .u16 0,.int .u16 0,.int .u16 0,.int .u16 0,.int .u16 0,.int .u16 0,.slice none 0 0,.slice none 0 0,.slice none 0 0,.slice none 0 0,.int .u8 0,.int .u8 0,.int .u8 0,.int .u8 0,.int .u8 0,.slice none 0 0] fun bF aH aI=>Pl 1<|nt<|rt<|tr<|c9 aH (.int .i64 12)<|?_
 have hs:dr dir b=(cN.zero,12):=by
   unfold dr
   (try simp only[f,i,j,bs,if_true,if_false,decide_true,decide_false,cn,hds,reduceIte])
   all_goals rfl
 refine cK hs ?_
 exact bY (ud o (uz a1 aI) k)
 have hsl:=pN hds
 have hsd:dv sd:=nP hr hds
 have aJ:=gO (w:=X) (aN.range Q) hb (by omega)
 have aK:=aJ.mono (pX hds)
 refine L0<|Oc (args:=#[.string (strOfNums b)])<|m1 aK fun a2 l=>Pl 5<|nt<|sq<|sg<|Pl 2<|nt<|c0<|bC<|sq<|?_
 refine go<|Pl 1<|?_
 have a3:=aG o l
 rcases hth:bI sd with _|x
 have aL:=(iD (w:=a2) hsd (by omega)).mono (pj hth)
 refine L0<|Oc<|m1 aL fun bG a4=>Pl 5<|nt<|sq<|sg<|Pl 2<|nt<|c1<|sg<|Pl 2<|?_
 refine L0<|be (ub (aG l a4) d) #[.int .u8 0,.int .u16 0,.int .u8 0,.int .u8 0,.int .u16 0,.int .u16 0,.int .u16 0,.int .u16 0,.int .u16 0,.int .u16 0,.int .u16 0,.int .u16 0,.int .u16 0,.int .u16 0,.slice none 0 0,.slice none 0 0,.slice none 0 0,.slice none 0 0,.int .u8 0,.int .u8 0,.int .u8 0,.int .u8 0,.int .u8 0,.slice none 0 0] fun bH aM aO=>Pl 1<|nt<|rt<|tr<|c9 aM (.int .i64 11)<|?_
 have hs:dr dir b=(cN.zero,11):=by
   unfold dr
   (try simp only[f,i,j,bs,if_true,if_false,decide_true,decide_false,cn,hds,hth,reduceIte])
   all_goals rfl
 refine cK hs ?_
 exact bY (ud a3 (uz a4 aO) k)
 have hxl:=o8 hth
 have aP:=(iD (w:=a2) hsd (by omega)).mono (ox hth)
 refine L0<|Oc<|oB aP fun R J bJ S bK bL a5=>Pl 5<|nt<|sq<|sg<|Pl 2<|nt<|c0<|bC<|sq<|?_
 refine sg<|Pl 1<|L0<|Oc (args:=#[.slice R x.length J])<|m1 (nk (S).rd) fun aR T=>Pl 1<|nt<|?_
 have G:=aG a5 T
 have a6:=aG a3 G
 refine cb ((!(fc x))) (fun p=>?_) (fun p=>?_)
 have L:(fc x)=false:=by simpa using p
 refine sg<|Pl 1<|?_
 refine L0<|be (ub (aG l G) d) #[.int .u8 0,.int .u16 0,.int .u8 0,.int .u8 0,.int .u16 0,.int .u16 0,.int .u16 0,.int .u16 0,.int .u16 0,.int .u16 0,.int .u16 0,.int .u16 0,.int .u16 0,.int .u16 0,.slice none 0 0,.slice none 0 0,.slice none 0 0,.slice none 0 0,.int .u8 0,.int .u8 0,.int .u8 0,.int .u8 0,.int .u8 0,.slice none 0 0] fun bM aS aT=>Pl 1<|nt<|rt<|tr<|c9 aS (.int .i64 10)<|?_
 have hs:dr dir b=(cN.zero,10):=by
   unfold dr
   (try simp only[f,i,j,p,L,bs,if_true,if_false,decide_true,decide_false,cn,hds,hth,reduceIte])
   all_goals rfl
 refine cK hs ?_
 exact bY (ud a6 aT k)
 have L:(fc x)=true:=by simpa using p
 refine bC<|sg<|Pl 4<|L0<|Oi (((x.length:Nat) : Int)-1)<|o0 (m7 (P:=Tryz.prog) 27 5 1 Tryz.underlying27 rfl rfl R x.length J (lo:=1) (up:=(((x.length:Nat) : Int)-1)) 1 (((((x.length:Nat) : Int)-1)).toNat) (by omega) (by omega) (by omega) (by omega) (by omega)) fun aU hrun79 aV=>L0<|fw (.slice aU ((((((x.length:Nat) : Int)-1)).toNat)-1) (J-1)) (iw (kl:=.i64) (kh:=.i64) (lo:=1) (hi:=(((x.length:Nat) : Int)-1)) (A:=R) (n:=x.length) (c:=J) rfl Tryz.underlying27 (by kernel_rfl) (by kernel_rfl) (by kernel_rfl) (hrun79 _ _ _))<|?_
 obtain⟨a,H,U⟩ : ∃ M E,cj dir ((x.take (((((x.length:Nat) : Int)-1)).toNat)).drop 1)=(M,E):=⟨_,_,rfl⟩
 have a7:=am S T (fun x hx=>av) (fun _ _ h=>h)
 have a8:=fV (dir:=dir) (w:=aR) (aV _ _ _ _ _ (a7).rd) (by rw[List.length_drop,List.length_take];omega)
 rw[U] at a8
 refine L0<|Oc<|e2 a8 fun aW bN a9 V=>?_
 have aY:=a9
 obtain⟨aZ,b0,b1,b2,b3,b4,b5,b6,b7,b9,ba,bO⟩:=aY
 obtain rfl:aW=(dL a aZ b0 b1 b2 b3).toArray:=by apply Array.toList_inj.1;simpa using b4
 obtain⟨q,r,rfl,_,_⟩:=b5.shape
 obtain⟨s,t,rfl,_,_⟩:=b6.shape
 obtain⟨u,v,rfl,_,_⟩:=b7.shape
 obtain⟨y,z,rfl,_,_⟩:=b9.shape
 obtain⟨B,C,rfl,_,_⟩:=ba.shape
 refine Pl 3<|L0<|bB mZ fun ab bP ac bb bc=>L0<|be bb (mG a.code a.fail a.addr a.count a.value a.and_ a.or_ a.addr2 a.sub a.status a.events a.messages (.slice q a.words.length r) (.slice s a.bits.length t) (.slice u a.data.length v) (.slice y a.recs.length z) a.mei a.kind a.level a.more a.next (.slice B a.objects.length C)) fun bR bd bf=>Pl 1<|nt<|sq<|sg<|Pl 2<|nt<|?_
 have ad:=ud bc bf ac
 have N:=aG V ad
 have ae:=aG a6 N
 refine cb ((H != 0)) (fun I=>?_) (fun I=>?_)
 have bh:=ay I
 refine sg<|Pl 2<|?_
 refine L0<|be (ub (aG l (aG G N)) d) #[.int .u8 0,.int .u16 0,.int .u8 0,.int .u8 0,.int .u16 0,.int .u16 0,.int .u16 0,.int .u16 0,.int .u16 0,.int .u16 0,.int .u16 0,.int .u16 0,.int .u16 0,.int .u16 0,.slice none 0 0,.slice none 0 0,.slice none 0 0,.slice none 0 0,.int .u8 0,.int .u8 0,.int .u8 0,.int .u8 0,.int .u8 0,.slice none 0 0] fun bS bi bj=>Pl 1<|nt<|rt<|tr<|c9 bi (.int .i64 H)<|?_
 have hX2:cj dir (fL x)=(a,H):=(congrArg (cj dir) (hM x)).trans U
 have hs:dr dir b=(cN.zero,H):=by
   unfold dr
   (try simp only[f,i,j,p,L,I,bs,if_true,if_false,decide_true,decide_false,cn,hds,hth,hX2,reduceIte])
   all_goals rfl
 refine cK hs ?_
 exact bY (ud ae bj k)
 have bh:=ag I
 refine bC<|sq<|?_
 have af:=am a7 N (fun x hx=>av) (fun _ _ h=>h)
 refine fF (aN.at_ (af).rd 0 (by omega)) fun bm bo aj bp bT=>Rg 8 (fun w'=>w'.cell? ⟨bm,bo+0,none⟩=some (.int .u8 (x.getD 0 0))∧w'.heap[ab]? = some (.cells (mG a.code a.fail a.addr a.count a.value a.and_ a.or_ a.addr2 a.sub a.status a.events a.messages (.slice q a.words.length r) (.slice s a.bits.length t) (.slice u a.data.length v) (.slice y a.recs.length z) a.mei a.kind a.level a.more a.next (.slice B a.objects.length C)) 31 (0,0))) fun bV O=>?_
 have ak:=ub O bd
 refine bg ⟨(uc O bp),ak⟩ fun D=>Rt 0 D<|lz 1 D x.length 0 0 rfl aj (by omega)<|Rl 2 D (fun _ hs=>hs.1)<|Rt 3 D<|Rr 4 D (.agg (mG a.code a.fail a.addr a.count a.value a.and_ a.or_ a.addr2 a.sub a.status a.events a.messages (.slice q a.words.length r) (.slice s a.bits.length t) (.slice u a.data.length v) (.slice y a.recs.length z) a.mei a.kind a.level a.more a.next (.slice B a.objects.length C))) (fun w' hs=>ma (g:=ab) (off:=0) [.int .u8 a.code,.int .u8 a.fail,.int .u16 a.addr,.int .u16 a.count,.int .u16 a.value,.int .u16 a.and_,.int .u16 a.or_,.int .u16 a.addr2,.int .u16 a.sub,.int .u16 a.status,.int .u16 a.events,.int .u16 a.messages,.slice q a.words.length r,.slice s a.bits.length t,.slice u a.data.length v,.slice y a.recs.length z,.int .u8 a.mei,.int .u8 a.kind,.int .u8 a.level,.int .u8 a.more,.int .u8 a.next,.slice B a.objects.length C] rfl (by kernel_rfl) hs.2 (by kernel_rfl) (by kernel_rfl) rfl)<|Rt 5 D<|?_
 refine R0 6 rfl<|be (ub (aG l (aG G (aG N O))) d) #[.int .u8 (x.getD 0 0),.int .u16 0,.int .u8 a.code,.int .u8 a.fail,.int .u16 a.addr,.int .u16 a.count,.int .u16 a.value,.int .u16 a.and_,.int .u16 a.or_,.int .u16 a.addr2,.int .u16 a.sub,.int .u16 a.status,.int .u16 a.events,.int .u16 a.messages,.slice q a.words.length r,.slice s a.bits.length t,.slice u a.data.length v,.slice y a.recs.length z,.int .u8 a.mei,.int .u8 a.kind,.int .u8 a.level,.int .u8 a.more,.int .u8 a.next,.slice B a.objects.length C] fun bW bq al=>?_
 have W:=uz O al
 refine bg ⟨(cB ((am af W (fun x hx=>(aa (fun e=>(ap (ai d) l.size S) (e▸hx)) av)) (fun _ _ h=>h))).rd aj 0 (by omega)),(aQ al (Ne.symm (nb (ai d) (le (le (le l.size a5.size) T.size) V.size) ac)) ak)⟩ fun bt=>Rt 7 bt<|re<|tn<|rt<|c9 bq (.int .i64 0)<|?_
 have hX2:cj dir (fL x)=(a,H):=(congrArg (cj dir) (hM x)).trans U
 have hs:dr dir b=(⟨(x.getD 0 0),0,a⟩,0):=by
   unfold dr
   (try simp only[f,i,j,p,L,I,bs,if_true,if_false,decide_true,decide_false,cn,hds,hth,hX2,reduceIte])
   all_goals rfl
 refine cK hs ?_
 exact⟨_,rfl,⟨#[.int .u8 a.code,.int .u8 a.fail,.int .u16 a.addr,.int .u16 a.count,.int .u16 a.value,.int .u16 a.and_,.int .u16 a.or_,.int .u16 a.addr2,.int .u16 a.sub,.int .u16 a.status,.int .u16 a.events,.int .u16 a.messages,.slice q a.words.length r,.slice s a.bits.length t,.slice u a.data.length v,.slice y a.recs.length z,.int .u8 a.mei,.int .u8 a.kind,.int .u8 a.level,.int .u8 a.more,.int .u8 a.next,.slice B a.objects.length C],(by as_aux_lemma=>kernel_rfl),(aX.upd a9 (uz ad W) (ah (aF (ub (aG l (aG G V)) d) (by decide)) az)),b8 (x:=(x.getD 0 0)) (by omega),aD (x:=0) (by omega)⟩,(ud ae W k)⟩
theorem nG{m:Bool}{v:Value}{b:List Int}{w:World}{dir:Int}(h:aN m w v b)(hb:b.length≤1048576) : Calls Tryz.prog 171 #[.int .i64 dir,v] w (j2 (dr dir b) w):=by
  obtain⟨A,cp,rfl,_,_⟩:=h.shape
  exact lF h hb
open Go.RowKit
theorem lu.weaken{base base':Nat}{w:World}{v:Value}{xs:List Int}(h:lu base w v xs)(k:base'≤base) : lu base' w v xs:=by
  obtain⟨g,cap,cur,n,h1,h2,h3⟩:=h
  exact⟨g,cap,cur,n,h1,Nat.le_trans k h2,h3⟩
open Go.RowKit
theorem gk{m:Bool}{v:Value}{b:List Int}{w:World}{dir:Int}{F:cN}{E:Int}(hX:dr dir b=(F,E))(h:aN m w v b)(hb:b.length≤1048576) : Calls Tryz.prog 171 #[.int .i64 dir,v] w (fun e w'=>∃ x,e = .returned (.tuple #[.agg (nB F.unit F.tid F.msg x),.int .i64 E])∧(aX true w' (og F.msg x).toList F.msg∧(0≤F.unit∧F.unit<256)∧(0≤F.tid∧F.tid<65536))∧ax [] w w'):=by
  refine(nG h hb).mono ?_
  rintro e w' ⟨cs,rfl,h1,h2⟩
  rw[hX] at h1 ⊢
  obtain⟨c,rfl,h3,h4,h5⟩:=h1
  obtain⟨x,rfl⟩:=kV h3
  exact⟨x,by rw[gQ],⟨h3,h4,h5⟩,h2⟩
open Go.RowKit
theorem r8{P:Program}{w:World}{t e:TypeId}{g n c:Nat}{C:Array Value}(ht:P.underlying t=some (.slice e))(he:P.underlying e=some (.int .u8))(hb:w.heap[g]? = some (.cells C e (0,0))) :
    ∃ w2,(convert t t (.slice (some ⟨g,0,none⟩) n c)).run P w = .ok (.slice (some ⟨g,0,none⟩) n c) w2∧w2.heap[g]? = some (.cells C e (C.size,C.size+1))∧ax [g] w w2:=by
  have hsh:w.shape? g=some (e,C.size):=by
    unfold World.shape?
    rw[hb]
  refine⟨w.freeze ⟨g,C.size,none⟩ 1,?_,?_,?_⟩
  · simp[convert,run_underlying ht,run_underlying he,markStringish,hsh]
  · unfold World.freeze
    rw[if_neg (by decide)]
    simp[Array.getElem?_modify,hb]
  · unfold World.freeze
    rw[if_neg (by decide)]
    refine⟨rfl,rfl,rfl,by simp,fun k hk hn=>?_⟩
    have hne:¬ g=k:=fun q=>hn (by rw[q];exact List.mem_singleton.2 rfl)
    simp[Array.getElem?_modify,hne]
theorem qV{w:World}{g:Nat}{C:Array Value}{fr:Nat × Nat}{xs:List Int}(hb:w.heap[g]? = some (.cells C 5 fr))(hC:C=(xs.map (Value.int .u8)).toArray)(hr:∀ x,x∈xs→0≤x∧x<256)(hl:xs.length≤4194304) : aN true w (.slice (some ⟨g,0,none⟩) xs.length xs.length) xs:=by
  refine⟨_,xs.length,rfl,Nat.le_refl _,by unfold maxLen;omega,(fun h=>by cases h),fun _=>⟨g,0,C,_,fr,rfl,hb,fun _=>rfl,fun j x hj=>?_⟩⟩
  refine⟨[.int .u8 x],rfl,⟨rfl,hr x (List.mem_of_getElem? hj)⟩,fun i u hi=>?_⟩
  cases i with
  | succ i=>simp at hi
  | zero =>
    have hi:Value.int .u8 x=u:=by simpa using hi
    subst hi
    subst hC
    simp only[Nat.zero_add,Nat.mul_one,Nat.add_zero]
    rw[List.getElem?_toArray,List.getElem?_map,hj]
    rfl
section
variable {P:Program}{n:Nat}{D:List Deferred}{F:Fr}{w:World}{K:Fr→World→Prop}{Q:Exit→Act→World→Prop}{d:Option Tmp}{t:TypeId}{s:String}{af:Array Edge}{gu:Option (Nat × Bool)}
theorem uq{ty e:TypeId}{x:Operand}{g m c:Nat}{C:Array Value}(hb:w.heap[g]? = some (.cells C e (0,0)))(h:∀ w',w'.heap[g]? = some (.cells C e (C.size,C.size+1))→ax [g] w w'→K (pt d (.slice (some ⟨g,0,none⟩) m c) F) w')
    (hx:cY F x=some (.slice (some ⟨g,0,none⟩) m c):=by kernel_rfl) (hs:(jO P ty,P.underlying e,dA n d)=(some e,some (.int .u8),true):=by kernel_rfl) : OG P ⟨d,.convert ty ty x,t,s,af,gu⟩ n D F w K Q:=by
  simp only[Prod.mk.injEq] at hs
  obtain⟨h1,h2,h3⟩:=hs
  obtain⟨w2,hr,hB,hu⟩:=r8 (n:=m) (c:=c) (cZ h1) h2 hb
  refine⟨fun a ha K' hK=>OW.mk ?_⟩
  have hx':=ha.ev hx
  unfold Oper.wp execOp
  simp only[hx',Sem.run_bind,Sem.run_pure,hr,Result.andThen_ok]
  exact hK _ _ _ (h w2 hB hu) (ha.put h3)
end
open Go.RowKit
structure SA where
  dir:Int
  held:List Int
abbrev vO (S:SA) (A:Option Addr) (cp:Nat) : Array Value:=#[.int .i64 S.dir,.slice A S.held.length cp]
abbrev rg (w:World) (g:Nat) (S:SA) (A:Option Addr) (cp:Nat) : Prop:=w.heap[g]? = some (.cells (vO S A cp) 129 (0,0))
def SA.tail (d:Int)(h:List Int) : SA × List Ev:=if decide (513<((h.length:Nat) : Int))=true then (⟨d,[]⟩,[Ev.bad 3]) else if fd h [13,10]=true then (⟨d,[]⟩,[Ev.mk (dr d h).2 (dr d h).1]) else (⟨d,h⟩,[])
def SA.byte (S:SA)(c:Int) : SA × List Ev:=if ((c==58)&&(decide (0<((S.held.length:Nat) : Int))))=true then (⟨S.dir,[58]⟩,[Ev.bad 12]) else if ((c != 58)&&(((S.held.length:Nat) : Int)==0))=true then (S,[]) else SA.tail S.dir (S.held++[c])
def SA.feed (S:SA)(b:List Int) : SA × List Ev:=b.foldl (fun p c=>((p.1.byte c).1,p.2++(p.1.byte c).2)) (S,[])
def SA.ok (S:SA) : Prop:=(∀ x,x∈S.held→0≤x∧x<256)∧S.held.length≤513
theorem SA.ok_le{S:SA}(h:S.ok) : S.held.length≤513:=h.2
theorem SA.byte_ok{S S2:SA}{c:Int}{L2:List Ev}(h:S.ok)(hc:0≤c∧c<256)(hx:S.byte c=(S2,L2)) : S2.ok∧L2.length≤1:=by
  have h0:∀ d,(SA.mk d []).ok:=fun d=>⟨fun x hx=>(by cases hx),Nat.zero_le _⟩
  unfold SA.byte at hx
  split at hx
  · injection hx with e1 e2
    subst e1 e2
    exact⟨⟨fun x hx=>(by rw[List.mem_singleton] at hx;rw[hx];decide),(by show 1≤513;decide)⟩,Nat.le_refl _⟩
  split at hx
  · injection hx with e1 e2
    subst e1 e2
    exact⟨h,Nat.zero_le _⟩
  unfold SA.tail at hx
  split at hx
  · injection hx with e1 e2
    subst e1 e2
    exact⟨h0 _,Nat.le_refl _⟩
  rename_i hl
  split at hx
  · injection hx with e1 e2
    subst e1 e2
    exact⟨h0 _,Nat.le_refl _⟩
  · injection hx with e1 e2
    subst e1 e2
    refine⟨⟨fun x hx=>?_,?_⟩,Nat.zero_le _⟩
    · rcases List.mem_append.1 hx with k | k
      · exact h.1 x k
      · rw[List.mem_singleton] at k;rw[k];exact hc
    · simp only[decide_eq_true_eq] at hl
      show(S.held++[c]).length≤513
      omega
theorem fC{S0 T T2:SA}{L L2:List Ev}{b:List Int}{k:Nat}(hk:k<b.length)(h:(T,L)=S0.feed (b.take k))(hx:T.byte (b.getD k 0)=(T2,L2)) : (T2,L++L2)=S0.feed (b.take (k+1)):=by
  rw[List.take_succ_eq_append_getElem hk]
  unfold SA.feed at h ⊢
  rw[List.foldl_append,← h]
  rw[List.getD_eq_getElem?_getD,List.getElem?_eq_getElem hk] at hx
  simp only[Option.getD_some] at hx
  simp only[List.foldl_cons,List.foldl_nil,hx]
theorem kk{S0 T T2:SA}{L:List Ev}{b:List Int}{k:Nat}(hk:k<b.length)(h:(T,L)=S0.feed (b.take k))(hx:T.byte (b.getD k 0)=(T2,[])) : (T2,L)=S0.feed (b.take (k+1)):=by
  have:=fC hk h hx
  rwa [List.append_nil] at this
theorem tz{T:SA}{c:Int}(h:((c==58)&&(decide (0<((T.held.length:Nat) : Int))))=true) : T.byte c=(⟨T.dir,[58]⟩,[Ev.bad 12]):=by unfold SA.byte;rw[if_pos h]
theorem th{T:SA}{c:Int}(h:((c==58)&&(decide (0<((T.held.length:Nat) : Int))))=false)(h2:((c != 58)&&(((T.held.length:Nat) : Int)==0))=true) : T.byte c=(T,[]):=by unfold SA.byte;rw[if_neg (by rw[h];decide),if_pos h2]
theorem tK{T:SA}{c:Int}(h:((c==58)&&(decide (0<((T.held.length:Nat) : Int))))=false)(h2:((c != 58)&&(((T.held.length:Nat) : Int)==0))=false)(h3:decide (513<(((T.held++[c]).length:Nat) : Int))=true) : T.byte c=(⟨T.dir,[]⟩,[Ev.bad 3]):=by unfold SA.byte;rw[if_neg (by rw[h];decide),if_neg (by rw[h2];decide)];unfold SA.tail;rw[if_pos h3]
theorem rH{T:SA}{c:Int}{F:cN}{E:Int}(h:((c==58)&&(decide (0<((T.held.length:Nat) : Int))))=false)(h2:((c != 58)&&(((T.held.length:Nat) : Int)==0))=false)(h3:decide (513<(((T.held++[c]).length:Nat) : Int))=false)(h4:fd (T.held++[c]) [13,10]=true)(hX:dr T.dir (T.held++[c])=(F,E)) : T.byte c=(⟨T.dir,[]⟩,[Ev.mk E F]):=by unfold SA.byte;rw[if_neg (by rw[h];decide),if_neg (by rw[h2];decide)];unfold SA.tail;rw[if_neg (by rw[h3];decide),if_pos h4,hX]
theorem t4{T:SA}{c:Int}(h:((c==58)&&(decide (0<((T.held.length:Nat) : Int))))=false)(h2:((c != 58)&&(((T.held.length:Nat) : Int)==0))=false)(h3:decide (513<(((T.held++[c]).length:Nat) : Int))=false)(h4:fd (T.held++[c]) [13,10]=false) : T.byte c=(⟨T.dir,T.held++[c]⟩,[]):=by unfold SA.byte;rw[if_neg (by rw[h];decide),if_neg (by rw[h2];decide)];unfold SA.tail;rw[if_neg (by rw[h3];decide),if_neg (by rw[h4];decide)]
def vI (base n0:Nat)(S2:SA)(L:List Ev)(g:Nat)(A:Option Addr)(w:World)(e:Ending)(w':World) : Prop:=∃ v A2 cp2 n2,e = .returned v∧bH n2 w.heap.size w' v L∧rg w' g S2 A2 cp2∧cJ base w' (.slice A2 S2.held.length cp2) S2.held∧(∀ x,x∈ob A2→x∈ob A∨w.heap.size≤x)∧(n0≤n2∧n2≤w'.heap.size)∧(∀ x,x∈ob A2→n2≤x)∧ax (g :: (ob A++[])) w w'
theorem gf{b:List Int}(h:∀ x,x∈b→0≤x∧x<256)(k:Nat) : 0≤b.getD k 0∧b.getD k 0<256:=by
  rw[List.getD_eq_getElem?_getD]
  cases hj:b[k]? with
  | none=>simp
  | some x=>exact h x (List.mem_of_getElem? hj)
theorem nz{w:World}:Calls Tryz.prog 47 #[.int .i64 0] w (fun e w'=>∃ g,e = .returned (.pointer (some ⟨g,0,none⟩))∧w.heap.size≤g∧rg w' g ⟨0,[]⟩ none 0∧ax [] w w'):=by
 refine en 12 Tryz.func47 rfl<|sg<|Pl 1<|nt<|sq<|sg<|Pl 6<|nt<|c0<|sk<|?_
 refine tn<|sg<|Pl 2<|L0<|cS #[.int .i64 0,.slice none 0 0] fun a f b c d=>Pl 1<|nt<|rt<|rr (.pointer (some ⟨a,0,none⟩))<|?_
 exact⟨a,rfl,b,c,d⟩
theorem nK{w:World}:Calls Tryz.prog 47 #[.int .i64 1] w (fun e w'=>∃ g,e = .returned (.pointer (some ⟨g,0,none⟩))∧w.heap.size≤g∧rg w' g ⟨1,[]⟩ none 0∧ax [] w w'):=by
 refine en 12 Tryz.func47 rfl<|sg<|Pl 1<|nt<|sq<|sg<|Pl 6<|nt<|c0<|sk<|?_
 refine tn<|sg<|Pl 2<|L0<|cS #[.int .i64 1,.slice none 0 0] fun a f b c d=>Pl 1<|nt<|rt<|rr (.pointer (some ⟨a,0,none⟩))<|?_
 exact⟨a,rfl,b,c,d⟩
theorem mM{w:World}{g:Nat}{S:SA}{A:Option Addr}{cp:Nat}(hb:rg w g S A cp)(hr:aN true w (.slice A S.held.length cp) S.held) : Calls Tryz.prog 169 #[.pointer (some ⟨g,0,none⟩)] w (bi (.int .i64 ((S.held.length:Nat) : Int)) w):=by
 have hcm:=aI.len hr
 refine en 8 Tryz.func169 rfl<|sg<|Pl 1<|ng<|Pl 3<|L0<|aU hb 1<|Pl 2<|nt<|rt<|?_
 refine rr (.int .i64 ((S.held.length:Nat) : Int))<|?_
 exact⟨rfl,(ax.refl [] _)⟩
theorem lb{w:World}{g base:Nat}{S:SA}{A:Option Addr}{cp:Nat}{m:Bool}{B:Option Addr}{cpb:Nat}{b:List Int}(hb:rg w g S A cp)(ho:cJ base w (.slice A S.held.length cp) S.held)(hbs:base≤w.heap.size)(hok0:S.ok){n0:Nat}(hn0:n0≤w.heap.size)(hlo:∀ x,x∈ob A→n0≤x)(hsl:aN m w (.slice B b.length cpb) b)(hdg:0<b.length→∀ x,x∈ob B→x≠g)(hda:iv b.length B (ob A))(hbl:b.length≤1048576) :
    Calls Tryz.prog 168 #[.pointer (some ⟨g,0,none⟩),.slice B b.length cpb] w (vI base n0 (S.feed b).1 (S.feed b).2 g A w):=by
 have hdl:=aI.low hsl
 have hok0l:=SA.ok_le hok0
 have hrb:=aN.range hsl
 refine en 98 Tryz.func168 rfl<|sg<|Pl 1<|nt<|vG<|sg<|Pl 1<|nt<|sq<|vm<|?_
 refine tn<|sq<|sg<|Pl 3<|nt<|bk<|?_
 refine fR (fun x=>[(0,.pointer (some ⟨g,0,none⟩)),(4,.slice none 0 0),(5,.slice x.2.2.2.2.2.1 x.2.2.1.length x.2.2.2.2.2.2.1),(10,.slice B b.length cpb),(11,.int .i64 ((b.length:Nat) : Int)),(12,.int .i64 ((x.1:Nat) : Int))]) (fun(x:Nat × SA × List Ev × Option Addr × Nat × Option Addr × Nat × Nat) w'=>ax (g :: (ob A++[])) w w'∧rg w' g x.2.1 x.2.2.2.1 x.2.2.2.2.1∧cJ base w' (.slice x.2.2.2.1 x.2.1.held.length x.2.2.2.2.1) x.2.1.held∧bH x.2.2.2.2.2.2.2 w.heap.size w' (.slice x.2.2.2.2.2.1 x.2.2.1.length x.2.2.2.2.2.2.1) x.2.2.1∧x.2.2.2.2.2.2.2≤w'.heap.size∧aN m w' (.slice B b.length cpb) b∧((x.2.1,x.2.2.1)=S.feed (b.take x.1))∧(x.2.1.ok)∧(x.2.1.held.length≤513)∧(x.1≤b.length)∧(x.2.2.1.length≤x.1)∧(∀ y,y∈ob x.2.2.2.1→y∈ob A∨w.heap.size≤y)∧(n0≤x.2.2.2.2.2.2.2)∧(∀ y,y∈ob x.2.2.2.1→x.2.2.2.2.2.2.2≤y)) (fun x=>b.length-x.1) (0,S,[],A,cp,none,0,n0) ⟨ax.refl _ _,hb,ho,(aO.nil w.heap.size _ _ (aP n0) _),(Nat.le_trans hn0 lr),hsl,rfl,hok0,hok0l,(by(try dsimp only);exact Nat.zero_le _),(by(try dsimp only);exact Nat.zero_le _),fy,(by(try dsimp only);exact Nat.le_refl _),hlo⟩ ?_
 rintro⟨k,T,L,Ah,ch,Bq,cq,n⟩ H ⟨d,ck,cl,cm,cn,co,cr,ct,cw,cx,cy,cz,cA,cB⟩
 refine ge [(0,.pointer (some ⟨g,0,none⟩)),(4,.slice none 0 0),(5,.slice Bq L.length cq),(10,.slice B b.length cpb),(11,.int .i64 ((b.length:Nat) : Int)),(12,.int .i64 ((k:Nat) : Int))] ?_
 have f:rg H g T Ah ch:=ck
 have r:cJ base H (.slice Ah T.held.length ch) T.held:=cl
 have a:bH n w.heap.size H (.slice Bq L.length cq) L:=cm
 have cC:n≤H.heap.size:=cn
 have hnl:=cC
 have z:aN m H (.slice B b.length cpb) b:=co
 have cD:(T,L)=S.feed (b.take k):=cr
 have cE:T.ok:=ct
 have dX:T.held.length≤513:=cw
 have e0:k≤b.length:=cx
 have e1:L.length≤k:=cy
 have cF:∀ y,y∈ob Ah→y∈ob A∨w.heap.size≤y:=cz
 have cG:n0≤n:=cA
 have cH:∀ y,y∈ob Ah→n≤y:=cB
 have hlow:=cH
 have hn0l:=cG
 have hat0:=cF
 have hok:=cE
 have hpj:=cD
 have hle:=SA.ok_le hok
 refine sg<|Pl 1<|nt<|sq<|cb ((decide (((k:Nat) : Int)<((b.length:Nat) : Int)))) (fun ae=>?_) (fun ae=>?_)
 have cI:=of_decide_eq_true ae
 refine bC<|sq<|bk<|sg<|fF (aN.at_ z k (by omega)) fun cK cM cN cO e3=>L0<|ny b.length k cN (by omega)<|L0<|jx (p:=⟨cK,cM+k,none⟩) (v:=.int .u8 (b.getD k 0)) cO<|Pl 1<|nt<|sq<|bk<|?_
 refine sg<|Pl 3<|cu 7 [19] 26 ((((b.getD k 0)==58)&&(decide (0<((T.held.length:Nat) : Int))))) (fun K bb=>?_) ?_
 refine bl 19 (((b.getD k 0)==58)) (fun M=>?_) (fun M=>?_)
 have cQ:=aB M
 exact Pl 3<|L1<|aU f 1<|Pl 3<|ce bb (decide (0<((T.held.length:Nat) : Int))) (by rw[M];rfl)
 have cQ:=aH M
 exact Pl 7<|ce bb false (by rw[M];rfl)
 refine Pl 1<|nt<|cb ((((b.getD k 0)==58)&&(decide (0<((T.held.length:Nat) : Int))))) (fun l=>?_) (fun l=>?_)
 have cS:=(bQ l).1
 have cU:=(bQ l).2
 have e4:=aB cS
 have e5:=of_decide_eq_true cU
 refine sg<|Pl 2<|L0<|fg (m:=1) (e:=66) #[.int .i64 12,.int .u8 0,.int .u16 0,.int .u8 0,.int .u8 0,.int .u16 0,.int .u16 0,.int .u16 0,.int .u16 0,.int .u16 0,.int .u16 0,.int .u16 0,.int .u16 0,.int .u16 0,.int .u16 0,.slice none 0 0,.slice none 0 0,.slice none 0 0,.slice none 0 0,.int .u8 0,.int .u8 0,.int .u8 0,.int .u8 0,.int .u8 0,.slice none 0 0] fun e6 af cV cW i=>?_
 have cX:=jj (w0:=H) (x:=(Ev.bad 12)) cV cW ⟨⟨none,0,none,0,none,0,none,0,none,0⟩,by kernel_rfl,ja,(show(0:Int)≤0∧(0:Int)<256 from by decide),(show(0:Int)≤0∧(0:Int)<65536 from by decide)⟩
 have bc:=am a i (fun x hx=>av) (fun x cs q=>aP.upd i aW q)
 have cY:n≤af.heap.size:=Nat.le_trans hnl i.size
 refine L0<|eE (R:=aP af.heap.size) (xs:=L) (ys:=([Ev.bad 12])) (.agg #[.int .i64 0,.int .u8 0,.int .u16 0,.int .u8 0,.int .u8 0,.int .u16 0,.int .u16 0,.int .u16 0,.int .u16 0,.int .u16 0,.int .u16 0,.int .u16 0,.int .u16 0,.int .u16 0,.int .u16 0,.slice none 0 0,.slice none 0 0,.slice none 0 0,.slice none 0 0,.int .u8 0,.int .u8 0,.int .u8 0,.int .u8 0,.int .u8 0,.slice none 0 0]) 25 168 (bH.up cY (Nat.le_refl _) bc) (dZ.low cX).rd aP.ones (fun w' hv x cs q=>aP.upd hv (cL bc (by decide) aW) q) (by(try simp only[List.length_append,List.length_cons,List.length_nil,aR]);omega) (le d.size i.size) fun cZ d0 e7 bd C e8=>Pl 1<|ng<|Pl 1<|L0<|fg (m:=1) (e:=5) #[.int .u8 58] fun bf e9 d1 d2 ak=>?_
 have W:=ik d1 (xs:=[58]) (by as_aux_lemma=>kernel_rfl) (aJ (by omega) cR) (by(try simp only[List.length_cons,List.length_nil]);omega) d2
 refine Pl 2<|?_
 have bh:=ut (ax.mono (S':=(ob Bq++[])) i au) (aG C ak) (aq il au)
 refine L0<|bS (ax.blk bh (aA (ap (ai hb) lr a) av) f) 1 #[.int .i64 T.dir,.slice (some ⟨bf,0,none⟩) 1 1] fun ea d3 X=>nt<|xt<|tV<|tx<|bx<|tn<|go<|L0<|Oi (((k:Nat) : Int)+1)<|Pl 1<|nl<|?_
 have bi:=u1 (ax.mono (S':=(ob Bq++(g :: []))) bh (aq il au)) X im
 have bj:=uz ak X
 have bm:=tz (T:=T) (c:=(b.getD k 0)) l
 have bo:=SA.byte_ok hok (gf hrb k) bm
 exact dY ((k+1),(SA.mk T.dir [58]),(L++[Ev.bad 12]),some ⟨bf,0,none⟩,1,cZ,d0,af.heap.size) ⟨(ut d bi (aq (bv a lr) (ac im au))),d3,(p6 (Nat.le_trans hbs (le (le d.size i.size) C.size)) (am W X (fun x hx=>(aa (fun e=>(ap (ai hb) (le (le d.size i.size) C.size) W) (e▸hx)) av)) (fun _ _ h=>h))),(am bd bj (fun x hx=>(aa (fun e=>(ap (ai hb) lr bd) (e▸hx)) av)) (fun x cs q=>aP.upd bj (dq (ax.blk (ut (ax.mono (S':=(ob Bq++[])) i au) C (aq il au)) (aA (ap (ai hb) lr a) av) f) (by decide) aW) q)),(le (le C.size ak.size) X.size),(aN.far z bi (ci (cT hdl a (Nat.le_refl _)) (cP hdg dg))),(by(try dsimp only);exact fC (by omega) hpj bm),(by(try dsimp only);exact bo.1),(by(try dsimp only);have q:=SA.ok_le bo.1;exact q),(by(try dsimp only);omega),(by(try dsimp only);(try simp only[List.length_append,List.length_cons,List.length_nil]);omega),(by(try dsimp only);exact(qa W (le (le d.size i.size) C.size))),(by(try dsimp only);exact Nat.le_trans hn0l (Nat.le_trans hnl i.size)),(by(try dsimp only);exact(qG W C.size))⟩ (by omega)
 refine sg<|Pl 3<|cu 7 [38] 45 ((((b.getD k 0)!=58)&&(((T.held.length:Nat) : Int)==0))) (fun K bp=>?_) ?_
 refine bl 38 (((b.getD k 0)!=58)) (fun N=>?_) (fun N=>?_)
 have d4:=ay N
 exact Pl 3<|L1<|aU f 1<|Pl 3<|ce bp (((T.held.length:Nat) : Int)==0) (by rw[N];rfl)
 have d4:=ag N
 exact Pl 7<|ce bp false (by rw[N];rfl)
 refine Pl 1<|nt<|cb ((((b.getD k 0)!=58)&&(((T.held.length:Nat) : Int)==0))) (fun s=>?_) (fun s=>?_)
 have d5:=(bQ s).1
 have d7:=(bQ s).2
 have eb:=ay d5
 have ec:=aB d7
 refine xt<|tV<|tx<|bx<|tn<|go<|L0<|Oi (((k:Nat) : Int)+1)<|Pl 1<|nl<|?_
 have bq:=th (T:=T) (c:=(b.getD k 0)) l s
 have br:=SA.byte_ok hok (gf hrb k) bq
 exact dY ((k+1),T,L,Ah,ch,Bq,cq,n) ⟨d,f,r,a,(Nat.le_trans hnl lr),z,(by(try dsimp only);exact kk (by omega) hpj bq),(by(try dsimp only);exact br.1),(by(try dsimp only);have q:=SA.ok_le br.1;exact q),(by(try dsimp only);omega),(by(try dsimp only);(try simp only[List.length_append,List.length_cons,List.length_nil]);omega),(by(try dsimp only);exact hat0),(by(try dsimp only);exact hn0l),(by(try dsimp only);exact hlow)⟩ (by omega)
 refine sk<|bn<|tn<|sg<|Pl 4<|L0<|aU f 1<|Pl 1<|L0<|fg (m:=1) (e:=5) #[.int .u8 (b.getD k 0)] fun ed ee d8 d9 j=>?_
 have da:=ik d8 (xs:=[(b.getD k 0)]) (by as_aux_lemma=>kernel_rfl) (aJ (by omega) cR) (by(try simp only[List.length_cons,List.length_nil]);omega) d9
 refine L0<|eE (R:=kL) (xs:=T.held) (ys:=([(b.getD k 0)])) (.int .u8 0) 1 1 (am r j (fun x hx=>av) (fun _ _ h=>h)) (da).rd ms (fun _ _ _ _ h=>h) (by(try simp only[List.length_append,List.length_cons,List.length_nil,aR]);omega) (Nat.le_trans hbs (le d.size j.size)) fun Y Z ef bs I bt=>Pl 2<|?_
 have bu:=ut (ax.mono (S':=(ob Ah++[])) j au) I (aq il au)
 have bw:=ax.blk bu (aA (bN f r (by decide)) av) f
 refine L0<|bS bw 1 #[.int .i64 T.dir,.slice Y ((T.held++[(b.getD k 0)]).length) Z] fun db O D=>nt<|sq<|bk<|sg<|Pl 3<|L0<|aU O 1<|Pl 3<|nt<|?_
 have J:=u1 (ax.mono (S':=(ob Ah++(g :: []))) bu (aq il au)) D im
 have bz:=ut d J (aq (gv hat0 il lr) (ac im au))
 refine cb ((decide (513<(((T.held++[(b.getD k 0)]).length:Nat) : Int)))) (fun E=>?_) (fun E=>?_)
 have dc:=of_decide_eq_true E
 refine go<|Pl 2<|L0<|fg (m:=1) (e:=66) #[.int .i64 3,.int .u8 0,.int .u16 0,.int .u8 0,.int .u8 0,.int .u16 0,.int .u16 0,.int .u16 0,.int .u16 0,.int .u16 0,.int .u16 0,.int .u16 0,.int .u16 0,.int .u16 0,.int .u16 0,.slice none 0 0,.slice none 0 0,.slice none 0 0,.slice none 0 0,.int .u8 0,.int .u8 0,.int .u8 0,.int .u8 0,.int .u8 0,.slice none 0 0] fun eg al dd de an=>?_
 have df:=jj (w0:=db) (x:=(Ev.bad 3)) dd de ⟨⟨none,0,none,0,none,0,none,0,none,0⟩,by kernel_rfl,ja,(show(0:Int)≤0∧(0:Int)<256 from by decide),(show(0:Int)≤0∧(0:Int)<65536 from by decide)⟩
 have a0:=aG J an
 have bA:=am a a0 (fun x hx=>(aA ((aY a r (by decide)) x hx) (aa (fun e=>(ap (ai hb) lr a) (e▸hx)) av))) (fun x cs q=>aP.upd a0 (cv hlow (dq f (by decide) aW)) q)
 have dh:n≤al.heap.size:=Nat.le_trans hnl a0.size
 refine L0<|eE (R:=aP al.heap.size) (xs:=L) (ys:=([Ev.bad 3])) (.agg #[.int .i64 0,.int .u8 0,.int .u16 0,.int .u8 0,.int .u8 0,.int .u16 0,.int .u16 0,.int .u16 0,.int .u16 0,.int .u16 0,.int .u16 0,.int .u16 0,.int .u16 0,.int .u16 0,.int .u16 0,.slice none 0 0,.slice none 0 0,.slice none 0 0,.slice none 0 0,.int .u8 0,.int .u8 0,.int .u8 0,.int .u8 0,.int .u8 0,.slice none 0 0]) 25 168 (bH.up dh (Nat.le_refl _) bA) (dZ.low df).rd aP.ones (fun w' hv x cs q=>aP.upd hv (cL bA (by decide) aW) q) (by(try simp only[List.length_append,List.length_cons,List.length_nil,aR]);omega) (le (le (le (le d.size j.size) I.size) D.size) an.size) fun di dj eh bD bE ei=>Pl 1<|nl<|bn<|tn<|go<|Pl 3<|?_
 have bF:=ut (ax.mono (S':=(ob Bq++[])) an au) bE (aq il au)
 have bG:=ax.blk bF (aA (ap (ai hb) lr a) av) O
 refine L0<|bS bG 1 #[.int .i64 T.dir,.slice none 0 0] fun ej dk a1=>nl<|bn<|tn<|go<|L0<|Oi (((k:Nat) : Int)+1)<|Pl 1<|nl<|?_
 have bI:=u1 (ax.mono (S':=(ob Bq++(g :: []))) bF (aq il au)) a1 im
 have bJ:=tK (T:=T) (c:=(b.getD k 0)) l s E
 have bK:=SA.byte_ok hok (gf hrb k) bJ
 exact dY ((k+1),(SA.mk T.dir []),(L++[Ev.bad 3]),none,0,di,dj,al.heap.size) ⟨(ut bz bI (aq (bv a lr) (ac im au))),dk,(aO.nil base _ _ kL _),(am bD a1 (fun x hx=>(aa (fun e=>(ap (ai hb) lr bD) (e▸hx)) av)) (fun x cs q=>aP.upd a1 (dq bG (by decide) aW) q)),(le bE.size a1.size),(aN.far z (ut (ax.mono (S':=(ob Ah++(g :: (ob Bq++[])))) J (aq il (ac im au))) bI (aq il (ac im au))) (ci (dO hda hdl hat0) (cP hdg (ci (cT hdl a (Nat.le_refl _)) dg)))),(by(try dsimp only);exact fC (by omega) hpj bJ),(by(try dsimp only);exact bK.1),(by(try dsimp only);have q:=SA.ok_le bK.1;exact q),(by(try dsimp only);omega),(by(try dsimp only);(try simp only[List.length_append,List.length_cons,List.length_nil]);omega),(by(try dsimp only);exact d6),(by(try dsimp only);exact Nat.le_trans hn0l (Nat.le_trans hnl a0.size)),(by(try dsimp only);exact bM)⟩ (by omega)
 have dc:=of_decide_eq_false E
 refine sg<|Pl 3<|L0<|aU O 1<|L0<|fg (m:=2) (e:=5) #[.int .u8 13,.int .u8 10] fun dl ek bL bO P=>?_
 have el:=ik bL (xs:=[13,10]) (by as_aux_lemma=>kernel_rfl) (aJ (by omega) (aJ (by omega) cR)) (by(try simp only[List.length_cons,List.length_nil]);omega) bO
 refine L0<|uq (m:=2) (c:=2) bO fun em dm Q=>?_
 have dn:=qV dm (xs:=[13,10]) (by as_aux_lemma=>kernel_rfl) (aJ (by omega) (aJ (by omega) cR)) (by(try simp only[List.length_cons,List.length_nil]);omega)
 have bP:=ud P Q bL
 have a2:=am bs (aG D bP) (fun x hx=>(aa (fun e=>(bN bw bs (by decide)) (e▸hx)) av)) (fun _ _ h=>h)
 refine L0<|Oc (args:=#[.slice Y ((T.held++[(b.getD k 0)]).length) Z,.slice (some ⟨dl,0,none⟩) 2 2])<|m1 (qU (xs:=(T.held++[(b.getD k 0)])) (ys:=[13,10]) (a2).rd dn) fun eo t=>Pl 1<|nt<|?_
 have a3:=aG bP t
 have ao:=aG bz a3
 refine cb ((fd (T.held++[(b.getD k 0)]) ([13,10]))) (fun a4=>?_) (fun a4=>?_)
 refine sq<|Rg 15 (fun w'=>w'.cell? ⟨g,0,none⟩=some (.int .i64 T.dir)∧w'.cell? ⟨g,1,none⟩=some (.slice Y ((T.held++[(b.getD k 0)]).length) Z)) fun ep o=>?_
 have ar:=aG a3 o
 have a5:=ub ar O
 refine bg ⟨(aj a5 rfl),(aj a5 rfl)⟩ fun u=>Rt 0 u<|Rt 1 u<|Rt 2 u<|Rl 3 u (fun _ hs=>hs.1)<|Rt 4 u<|Rt 5 u<|Rt 6 u<|Rl 7 u (fun _ hs=>hs.2)<|?_
 refine R2 8 12 rfl rfl ?_ ?_
 refine pr (dr T.dir (T.held++[(b.getD k 0)])) fun F a6 bR=>?_
 refine  Oc<|e2 (gk bR ((am a2 (aG t o) (fun x hx=>av) (fun _ _ h=>h))).rd (by simp only[List.length_append,List.length_cons,List.length_nil,List.length_replicate];omega)) fun aw eq dp a7=>?_
 obtain⟨ds,dt,du⟩:=dp
 have aC:=ub a7 a5
 refine bg ⟨(aj aC rfl),(aj aC rfl)⟩ fun aD=>Rt 9 aD<|Rt 10 aD<|Rt 11 aD<|R0 12 rfl<|bB #[.int .u8 0,.int .u16 0,.int .u8 0,.int .u8 0,.int .u16 0,.int .u16 0,.int .u16 0,.int .u16 0,.int .u16 0,.int .u16 0,.int .u16 0,.int .u16 0,.int .u16 0,.int .u16 0,.slice none 0 0,.slice none 0 0,.slice none 0 0,.slice none 0 0,.int .u8 0,.int .u8 0,.int .u8 0,.int .u8 0,.int .u8 0,.slice none 0 0] fun er es bT dv aE=>?_
 have aK:=ub aE aC
 refine bg ⟨(aj aK rfl),(aj aK rfl)⟩ fun et=>R0 13 rfl<|be dv (nB F.unit F.tid F.msg aw) fun dw dx aL=>?_
 have aM:=aQ aL (nb (ai hb) (le (le (le (le (le (le (le (le d.size j.size) I.size) D.size) P.size) Q.size) t.size) o.size) a7.size) bT) aK
 refine bg ⟨(aj aM rfl),(aj aM rfl)⟩ fun dy=>Rt 14 dy<|re<|tn<|go<|Pl 2<|L0<|c7 dx<|Pl 1<|L0<|fg (m:=1) (e:=66) (kM ⟨a6,F⟩ aw) fun eu aS dz dA aT=>?_
 have bU:=ud aE (aG aL aT) bT
 have dB:=jj (w0:=dw) (x:=(Ev.mk a6 F)) dz dA ⟨aw,rfl,(aX.upd ds bU az),dt,du⟩
 have bV:=aG a7 bU
 have U:=aG J (aG ar bV)
 have bW:=am a U (fun x hx=>(aA ((aY a r (by decide)) x hx) (aa (fun e=>(ap (ai hb) lr a) (e▸hx)) av))) (fun x cs q=>aP.upd U (cv hlow (dq f (by decide) aW)) q)
 have dC:n≤aS.heap.size:=Nat.le_trans hnl U.size
 refine L0<|eE (R:=aP aS.heap.size) (xs:=L) (ys:=([Ev.mk a6 F])) (.agg #[.int .i64 0,.int .u8 0,.int .u16 0,.int .u8 0,.int .u8 0,.int .u16 0,.int .u16 0,.int .u16 0,.int .u16 0,.int .u16 0,.int .u16 0,.int .u16 0,.int .u16 0,.int .u16 0,.int .u16 0,.slice none 0 0,.slice none 0 0,.slice none 0 0,.slice none 0 0,.int .u8 0,.int .u8 0,.int .u8 0,.int .u8 0,.int .u8 0,.slice none 0 0]) 25 168 (bH.up dC (Nat.le_refl _) bW) (dZ.low dB).rd aP.ones (fun w' hv x cs q=>aP.upd hv (cL bW (by decide) aW) q) (by(try simp only[List.length_append,List.length_cons,List.length_nil,aR]);omega) (le (le (le (le (le (le (le (le (le (le (le d.size j.size) I.size) D.size) P.size) Q.size) t.size) o.size) a7.size) aE.size) aL.size) aT.size) fun dD dE ev bX bY ew=>Pl 1<|nl<|bn<|tn<|go<|Pl 3<|?_
 have bZ:=ax.blk (ut (ax.mono (S':=(ob Bq++[])) aT au) bY (aq il au)) (aA (ap (ai hb) lr a) av) aM
 refine L0<|bS bZ 1 #[.int .i64 T.dir,.slice none 0 0] fun ex dF aV=>nl<|bn<|tn<|go<|L0<|Oi (((k:Nat) : Int)+1)<|Pl 1<|nl<|?_
 have aZ:=u1 (ax.mono (S':=(ob Bq++(g :: []))) bY (aq il au)) aV im
 have c0:=rH (T:=T) (c:=(b.getD k 0)) l s E a4 bR
 have c1:=SA.byte_ok hok (gf hrb k) c0
 exact dY ((k+1),(SA.mk T.dir []),(L++[Ev.mk a6 F]),none,0,dD,dE,aS.heap.size) ⟨(ut ao (ut (ax.mono (S':=(ob Bq++(g :: []))) o au) (ut (ax.mono (S':=(ob Bq++(g :: []))) bV au) aZ (aq il (ac im au))) (aq il (ac im au))) (aq (bv a lr) (ac im au))),dF,(aO.nil base _ _ kL _),(am bX aV (fun x hx=>(aa (fun e=>(ap (ai hb) lr bX) (e▸hx)) av)) (fun x cs q=>aP.upd aV (dq bZ (by decide) aW) q)),aZ.size,(aN.far z (ut (ax.mono (S':=(ob Ah++(g :: (ob Bq++[])))) U (aq il (ac im au))) aZ (aq il (ac im au))) (ci (dO hda hdl hat0) (cP hdg (ci (cT hdl a (Nat.le_refl _)) dg)))),(by(try dsimp only);exact fC (by omega) hpj c0),(by(try dsimp only);exact c1.1),(by(try dsimp only);have q:=SA.ok_le c1.1;exact q),(by(try dsimp only);omega),(by(try dsimp only);(try simp only[List.length_append,List.length_cons,List.length_nil]);omega),(by(try dsimp only);exact d6),(by(try dsimp only);exact Nat.le_trans hn0l (Nat.le_trans hnl U.size)),(by(try dsimp only);exact bM)⟩ (by omega)
 refine  bB #[.int .u8 0,.int .u16 0,.int .u8 0,.int .u8 0,.int .u16 0,.int .u16 0,.int .u16 0,.int .u16 0,.int .u16 0,.int .u16 0,.int .u16 0,.int .u16 0,.int .u16 0,.int .u16 0,.slice none 0 0,.slice none 0 0,.slice none 0 0,.slice none 0 0,.int .u8 0,.int .u8 0,.int .u8 0,.int .u8 0,.int .u8 0,.slice none 0 0] fun dG ey b0 dH a8=>?_
 have b1:=ub a8 a5
 refine bg ⟨(aj b1 rfl),(aj b1 rfl)⟩ fun ez=>?_
 have c2:=aG o a8
 refine pr (dr T.dir (T.held++[(b.getD k 0)])) fun G a9 c3=>?_
 refine R0 8 rfl<|Oc<|e2 (gk c3 ((am a2 (aG t c2) (fun x hx=>av) (fun _ _ h=>h))).rd (by simp only[List.length_append,List.length_cons,List.length_nil,List.length_replicate];omega)) fun b2 eA dI ab=>?_
 obtain⟨dJ,dK,dL⟩:=dI
 have b3:=ub ab b1
 refine bg ⟨(aj b3 rfl),(aj b3 rfl)⟩ fun b4=>Rt 9 b4<|Rt 10 b4<|Rt 11 b4<|?_
 have c4:=ub ab dH
 refine R0 13 rfl<|be c4 (nB G.unit G.tid G.msg b2) fun dM dN b5=>?_
 have b6:=aQ b5 (nb (ai hb) (le (le (le (le (le (le (le d.size j.size) I.size) D.size) P.size) Q.size) t.size) o.size) b0) b3
 refine bg ⟨(aj b6 rfl),(aj b6 rfl)⟩ fun dP=>Rt 14 dP<|re<|tn<|go<|Pl 2<|L0<|c7 dN<|Pl 1<|L0<|fg (m:=1) (e:=66) (kM ⟨a9,G⟩ b2) fun eB b7 dQ dR b8=>?_
 have c5:=aG b5 b8
 have dS:=jj (w0:=dM) (x:=(Ev.mk a9 G)) dQ dR ⟨b2,rfl,(aX.upd dJ c5 (ah (aF c4 (by decide)) az)),dK,dL⟩
 have c6:=uz ab c5
 have V:=aG J (aG ar (ud a8 c6 b0))
 have c8:=am a V (fun x hx=>(aA ((aY a r (by decide)) x hx) (aa (fun e=>(ap (ai hb) lr a) (e▸hx)) av))) (fun x cs q=>aP.upd V (cv hlow (dq f (by decide) aW)) q)
 have dT:n≤b7.heap.size:=Nat.le_trans hnl V.size
 refine L0<|eE (R:=aP b7.heap.size) (xs:=L) (ys:=([Ev.mk a9 G])) (.agg #[.int .i64 0,.int .u8 0,.int .u16 0,.int .u8 0,.int .u8 0,.int .u16 0,.int .u16 0,.int .u16 0,.int .u16 0,.int .u16 0,.int .u16 0,.int .u16 0,.int .u16 0,.int .u16 0,.int .u16 0,.slice none 0 0,.slice none 0 0,.slice none 0 0,.slice none 0 0,.int .u8 0,.int .u8 0,.int .u8 0,.int .u8 0,.int .u8 0,.slice none 0 0]) 25 168 (bH.up dT (Nat.le_refl _) c8) (dZ.low dS).rd aP.ones (fun w' hv x cs q=>aP.upd hv (cL c8 (by decide) aW) q) (by(try simp only[List.length_append,List.length_cons,List.length_nil,aR]);omega) (le (le (le (le (le (le (le (le (le (le (le d.size j.size) I.size) D.size) P.size) Q.size) t.size) o.size) a8.size) ab.size) b5.size) b8.size) fun dU dV eC c9 ca eD=>Pl 1<|nl<|bn<|tn<|go<|Pl 3<|?_
 have cc:=ax.blk (ut (ax.mono (S':=(ob Bq++[])) b8 au) ca (aq il au)) (aA (ap (ai hb) lr a) av) b6
 refine L0<|bS cc 1 #[.int .i64 T.dir,.slice none 0 0] fun eF dW b9=>nl<|bn<|tn<|go<|L0<|Oi (((k:Nat) : Int)+1)<|Pl 1<|nl<|?_
 have ba:=u1 (ax.mono (S':=(ob Bq++(g :: []))) ca (aq il au)) b9 im
 have cd:=rH (T:=T) (c:=(b.getD k 0)) l s E a4 c3
 have cf:=SA.byte_ok hok (gf hrb k) cd
 exact dY ((k+1),(SA.mk T.dir []),(L++[Ev.mk a9 G]),none,0,dU,dV,b7.heap.size) ⟨(ut ao (ut (ax.mono (S':=(ob Bq++(g :: []))) c2 au) (ut (ax.mono (S':=(dG :: (ob Bq++(g :: [])))) c6 (ac im au)) ba (aq il (ac im au))) (ac (ni o.size b0) (aq il (ac im au)))) (aq (bv a lr) (ac im au))),dW,(aO.nil base _ _ kL _),(am c9 b9 (fun x hx=>(aa (fun e=>(ap (ai hb) lr c9) (e▸hx)) av)) (fun x cs q=>aP.upd b9 (dq cc (by decide) aW) q)),ba.size,(aN.far z (ut (ax.mono (S':=(ob Ah++(g :: (ob Bq++[])))) V (aq il (ac im au))) ba (aq il (ac im au))) (ci (dO hda hdl hat0) (cP hdg (ci (cT hdl a (Nat.le_refl _)) dg)))),(by(try dsimp only);exact fC (by omega) hpj cd),(by(try dsimp only);exact cf.1),(by(try dsimp only);have q:=SA.ok_le cf.1;exact q),(by(try dsimp only);omega),(by(try dsimp only);(try simp only[List.length_append,List.length_cons,List.length_nil]);omega),(by(try dsimp only);exact d6),(by(try dsimp only);exact Nat.le_trans hn0l (Nat.le_trans hnl V.size)),(by(try dsimp only);exact bM)⟩ (by omega)
 refine xt<|tV<|tx<|bx<|tn<|go<|L0<|Oi (((k:Nat) : Int)+1)<|Pl 1<|nl<|?_
 have ad:=aG J a3
 have cg:=t4 (T:=T) (c:=(b.getD k 0)) l s E a4
 have cj:=SA.byte_ok hok (gf hrb k) cg
 exact dY ((k+1),(SA.mk T.dir (T.held++[(b.getD k 0)])),L,Y,Z,Bq,cq,n) ⟨ao,(ub a3 O),(am a2 t (fun x hx=>av) (fun _ _ h=>h)),(am a ad (fun x hx=>(aA ((aY a r (by decide)) x hx) (aa (fun e=>(ap (ai hb) lr a) (e▸hx)) av))) (fun x cs q=>aP.upd ad (cv hlow (dq f (by decide) aW)) q)),(Nat.le_trans hnl ad.size),(aN.far z ad (ci (dO hda hdl hat0) (cP hdg dg))),(by(try dsimp only);exact kk (by omega) hpj cg),(by(try dsimp only);exact cj.1),(by(try dsimp only);have q:=SA.ok_le cj.1;exact q),(by(try dsimp only);omega),(by(try dsimp only);(try simp only[List.length_append,List.length_cons,List.length_nil]);omega),(by(try dsimp only);exact(fS bt hat0 (le d.size j.size))),(by(try dsimp only);exact hn0l),(by(try dsimp only);exact(mf bt hlow (Nat.le_trans hnl j.size)))⟩ (by omega)
 have cI:=of_decide_eq_false ae
 refine xt<|tx<|tx<|bx<|tn<|sg<|Pl 2<|nt<|rt<|gr<|rr (.slice Bq L.length cq)<|?_
 have hs:S.feed b=(T,L):=by rw[hpj,List.take_of_length_le (by omega)]
 rw[hs]
 exact⟨_,Ah,ch,n,rfl,a,f,r,hat0,⟨hn0l,Nat.le_trans hnl lr⟩,hlow,d⟩
open Go.RowKit
def c5 (n base:Nat)(w:World)(g:Nat)(A:Option Addr)(cp:Nat)(S:SA) : Prop:=rg w g S A cp∧cJ base w (.slice A S.held.length cp) S.held∧S.ok∧n≤w.heap.size∧(∀ x,x∈ob A→n≤x)∧base≤w.heap.size
section
variable {n base g cp:Nat}{w w':World}{A:Option Addr}{S:SA}{X:List Nat}
theorem c5.row(h:c5 n base w g A cp S) : cJ base w (.slice A S.held.length cp) S.held:=h.2.1
theorem c5.low(h:c5 n base w g A cp S) : ∀ x,x∈ob A→n≤x:=h.2.2.2.2.1
theorem c5.nle(h:c5 n base w g A cp S) : n≤w.heap.size:=h.2.2.2.1
theorem c5.le(h:c5 n base w g A cp S) : S.held.length≤513:=SA.ok_le h.2.2.1
theorem c5.lt(h:c5 n base w g A cp S) : g<w.heap.size:=ai h.1
theorem c5.cells(h:c5 n base w g A cp S) : ∃ cs fr,w.heap[g]? = some (.cells cs 129 fr):=⟨_,_,h.1⟩
theorem c5.upd(h:c5 n base w g A cp S)(hu:ax X w w')(hg:g∉X)(hr:∀ x,x∈ob A→x∉X) : c5 n base w' g A cp S :=
  ⟨hu.blk hg h.1,am h.2.1 hu hr (fun _ _ q=>q),h.2.2.1,Nat.le_trans h.2.2.2.1 hu.size,h.2.2.2.2.1,Nat.le_trans h.2.2.2.2.2 hu.size⟩
end
theorem SA.feed_ok:∀ (b:List Int)(S:SA)(L:List Ev),S.ok→(∀ x,x∈b→0≤x∧x<256)→(b.foldl (fun(p:SA × List Ev) c=>((p.1.byte c).1,p.2++(p.1.byte c).2)) (S,L)).1.ok∧(b.foldl (fun(p:SA × List Ev) c=>((p.1.byte c).1,p.2++(p.1.byte c).2)) (S,L)).2.length≤L.length+b.length
  | [],S,L,h,_=>⟨h,Nat.le_refl _⟩
  | c :: t,S,L,h,hb=>by
    have k:=SA.byte_ok (S2:=(S.byte c).1) (L2:=(S.byte c).2) h (hb c (List.mem_cons_self ..)) rfl
    have q:=SA.feed_ok t (S.byte c).1 (L++(S.byte c).2) k.1 (fun x hx=>hb x (List.mem_cons_of_mem _ hx))
    refine⟨q.1,Nat.le_trans q.2 ?_⟩
    rw[List.length_append,List.length_cons]
    omega
theorem SA.feed_le{S S2:SA}{b:List Int}{L:List Ev}(h:S.ok)(hb:∀ x,x∈b→0≤x∧x<256)(hX:S.feed b=(S2,L)) : L.length≤b.length:=by
  have q:=(SA.feed_ok b S [] h hb).2
  have e:L=(S.feed b).2:=(congrArg Prod.snd hX).symm
  rw[e]
  rw[List.length_nil,Nat.zero_add] at q
  exact q
def vt (n base:Nat)(S2:SA)(L:List Ev)(g:Nat)(A:Option Addr)(w:World)(e:Ending)(w':World) : Prop:=∃ v A2 cp2 n2,e = .returned v∧bH n2 w.heap.size w' v L∧c5 n2 base w' g A2 cp2 S2∧(∀ x,x∈ob A2→x∈ob A∨w.heap.size≤x)∧n≤n2∧ax (g :: (ob A++[])) w w'
theorem lN{w:World}{n base g cp cpb nb:Nat}{S S2:SA}{L:List Ev}{A B:Option Addr}{m:Bool}{b:List Int}(hX:S.feed b=(S2,L))(h:c5 n base w g A cp S)(hsl:aN m w (.slice B nb cpb) b)(hdg:0<nb→∀ x,x∈ob B→x≠g)(hda:iv nb B (ob A))(hbl:b.length≤1048576) :
    Calls Tryz.prog 168 #[.pointer (some ⟨g,0,none⟩),.slice B nb cpb] w (vt n base S2 L g A w):=by
  obtain⟨h1,h2,h3,h4,h5,h6⟩:=h
  obtain rfl:nb=b.length:=by
    obtain⟨_,_,e,_⟩:=hsl.shape
    injection e
  refine(lb h1 h2 h6 h3 h4 h5 hsl hdg hda hbl).mono ?_
  rintro e w' ⟨v,A2,cp2,n2,he,k1,k2,k3,k4,⟨k5,k6⟩,k7,k8⟩
  have hok:=(SA.feed_ok b S [] h3 (aN.range hsl)).1
  rw[hX] at k1 k2 k3
  have e2:S2=(S.feed b).1:=(congrArg Prod.fst hX).symm
  exact⟨v,A2,cp2,n2,he,k1,⟨k2,k3,by rw[e2];exact hok,k6,k7,Nat.le_trans h6 k8.size⟩,k4,k5,k8⟩
theorem mp(d:Int){w:World}(hq:Calls Tryz.prog 47 #[.int .i64 d] w (fun e w'=>∃ g,e = .returned (.pointer (some ⟨g,0,none⟩))∧w.heap.size≤g∧rg w' g ⟨d,[]⟩ none 0∧ax [] w w')) :
    Calls Tryz.prog 47 #[.int .i64 d] w (fun e w'=>∃ g,e = .returned (.pointer (some ⟨g,0,none⟩))∧w.heap.size≤g∧c5 w.heap.size w.heap.size w' g none 0 ⟨d,[]⟩∧ax [] w w'):=by
  refine hq.mono ?_
  rintro e w' ⟨g,he,h1,h2,h3⟩
  exact⟨g,he,h1,⟨h2,aO.nil ..,⟨(fun x hx=>by cases hx),(show 0≤513 from by decide)⟩,h3.size,bM,h3.size⟩,h3⟩
theorem oV{w:World}{n base g cp:Nat}{S:SA}{A:Option Addr}(h:c5 n base w g A cp S) : Calls Tryz.prog 169 #[.pointer (some ⟨g,0,none⟩)] w (bi (.int .i64 ((S.held.length:Nat) : Int)) w):=mM h.1 h.2.1.rd
open Go.RowKit
inductive XS where
  | r (S:SS)
  | a (S:SA)
  | m (S:SM)
def XS.zero (k d:Int) : XS:=bif k==0 then .r ⟨d,[],false⟩ else bif k==1 then .a ⟨d,[]⟩ else .m ⟨d,[],0⟩
def XS.feed:XS→List Int→XS × List Ev
  | .r S,b=>(.r (S.feed b).1,(S.feed b).2)
  | .a S,b=>(.a (S.feed b).1,(S.feed b).2)
  | .m S,b=>(.m (S.feed b).1,(S.feed b).2)
def XS.tick:XS→XS × List Ev
  | .r S=>(.r S.tick.1,S.tick.2)
  | .a S=>(.a S,[])
  | .m S=>(.m S,[])
def XS.take (S:XS)(b:List Int)(t:Bool) : XS × List Ev:=bif t then ((S.feed b).1.tick.1,(S.feed b).2++(S.feed b).1.tick.2) else S.feed b
def XS.held:XS→List Int
  | .r S=>S.held
  | .a S=>S.held
  | .m S=>S.held
def vL:XS→TypeId
  | .r _=>95
  | .a _=>101
  | .m _=>103
def bT (n base:Nat)(w:World)(g:Nat)(A:Option Addr)(c:Nat) : XS→Prop
  | .r S=>bV n base w g A c S
  | .a S=>c5 n base w g A c S
  | .m S=>c6 n base w g A c S
abbrev vx (S:XS) (g:Nat) : Array Value:=#[.iface (vL S) (.pointer (some ⟨g,0,none⟩))]
def aC (n base:Nat)(w:World)(s g:Nat)(A:Option Addr)(c:Nat)(S:XS) : Prop:=w.heap[s]? = some (.cells (vx S g) 100 (0,0))∧bT n base w g A c S
section
variable {n base s g c:Nat}{w w':World}{A:Option Addr}{S:XS}{X:List Nat}
theorem bT.row(h:bT n base w g A c S) : cJ base w (.slice A 0 c) []:=by
  cases S with
  | r S=>exact h.2.1
  | a S=>exact mH h.2.1
  | m S=>exact mH h.2.1
theorem bT.low(h:bT n base w g A c S) : ∀ x,x∈ob A→n≤x:=by
  cases S with
  | r S=>exact h.2.2.2.1
  | a S=>exact h.2.2.2.2.1
  | m S=>exact h.2.2.2.2.1
theorem bT.nle(h:bT n base w g A c S) : n≤w.heap.size:=by
  cases S with
  | r S=>exact h.2.2.1
  | a S=>exact h.2.2.2.1
  | m S=>exact h.2.2.2.1
theorem bT.ble(h:bT n base w g A c S) : base≤w.heap.size:=by
  cases S with
  | r S=>exact h.2.2.2.2
  | a S=>exact h.2.2.2.2.2
  | m S=>exact h.2.2.2.2.2
theorem bT.cells(h:bT n base w g A c S) : ∃ t cs fr,w.heap[g]? = some (.cells cs t fr)∧ew.contains t=false∧(t==100)=false∧(t==5)=false:=by
  cases S with
  | r S=>obtain⟨cs,fr,k⟩:=bV.cells h;exact⟨_,cs,fr,k,by decide,by decide,by decide⟩
  | a S=>exact⟨_,_,_,h.1,by decide,by decide,by decide⟩
  | m S=>exact⟨_,_,_,h.1,by decide,by decide,by decide⟩
theorem bT.lt(h:bT n base w g A c S) : g<w.heap.size:=by
  obtain⟨t,cs,fr,k,_⟩:=h.cells
  exact ai k
theorem bT.upd(h:bT n base w g A c S)(hu:ax X w w')(hg:g∉X)(hr:∀ x,x∈ob A→x∉X) : bT n base w' g A c S:=by
  cases S with
  | r S=>exact bV.upd h hu hg hr
  | a S=>exact c5.upd h hu hg hr
  | m S=>exact c6.upd h hu hg hr
theorem bT.gA(h:bT n base w g A c S) : g∉ob A:=by
  obtain⟨t,cs,fr,k,_,_,h2⟩:=h.cells
  exact bN k h.row h2
theorem aC.row(h:aC n base w s g A c S) : cJ base w (.slice A 0 c) []:=h.2.row
theorem aC.low(h:aC n base w s g A c S) : ∀ x,x∈ob A→n≤x:=h.2.low
theorem aC.nle(h:aC n base w s g A c S) : n≤w.heap.size:=h.2.nle
theorem aC.ble(h:aC n base w s g A c S) : base≤w.heap.size:=h.2.ble
theorem aC.lt(h:aC n base w s g A c S) : s<w.heap.size:=ai h.1
theorem aC.glt(h:aC n base w s g A c S) : g<w.heap.size:=h.2.lt
theorem aC.cells(h:aC n base w s g A c S) : ∃ cs fr,w.heap[s]? = some (.cells cs 100 fr):=⟨_,_,h.1⟩
theorem aC.sg(h:aC n base w s g A c S) : s≠g:=fun e=>by
  obtain⟨t,cs,fr,k,_,h2,_⟩:=h.2.cells
  rw[← e,h.1] at k
  injection k with k
  injection k with _ k _
  rw[← k] at h2
  exact absurd h2 (by decide)
theorem aC.sA(h:aC n base w s g A c S) : s∉ob A:=bN h.1 h.row (by decide)
theorem aC.gA(h:aC n base w s g A c S) : g∉ob A:=h.2.gA
theorem aC.upd(h:aC n base w s g A c S)(hu:ax X w w')(hs:s∉X)(hg:g∉X)(hr:∀ x,x∈ob A→x∉X) : aC n base w' s g A c S:=⟨hu.blk hs h.1,h.2.upd hu hg hr⟩
theorem aC.old(h:aC n base w s g A c S)(hu:ax [] w w') : aC n base w' s g A c S:=h.upd hu (by simp) (by simp) (fun x _=>by simp)
theorem bT.ty(h:bT n base w g A c S) : ∃ t cs fr,w.heap[g]? = some (.cells cs t fr)∧(t=127∨t=129∨t=131):=by
  cases S with
  | r S=>obtain⟨cs,fr,k⟩:=bV.cells h;exact⟨_,cs,fr,k,.inl rfl⟩
  | a S=>exact⟨_,_,_,h.1,.inr (.inl rfl)⟩
  | m S=>exact⟨_,_,_,h.1,.inr (.inr rfl)⟩
theorem aC.gx{α:Type}{b2 sz m c2:Nat}{e:TypeId}{R:World→α→List Value→Prop}{A2:Option Addr}{xs:List α}(h:aC n base w s g A c S)(hO:aO b2 e sz R w (.slice A2 m c2) xs)(he:(127==e)=false∧(129==e)=false∧(131==e)=false) : g∉ob A2:=by
  obtain⟨t,cs,fr,k,rfl|rfl|rfl⟩:=h.2.ty
  · exact bN k hO he.1
  · exact bN k hO he.2.1
  · exact bN k hO he.2.2
theorem aC.apt(h:aC n base w s g A c S){k:Nat}(hk:k≤n) : na k (g :: (ob A++[])) w:=by
  obtain⟨t,cs,fr,q,h1,_⟩:=h.2.cells
  exact dq q h1 (cv (cV hk h.low) aW)
end
def tR (n base:Nat)(S2:XS)(L:List Ev)(s g:Nat)(A:Option Addr)(w:World)(e:Ending)(w':World) : Prop:=∃ v A2 c2 n2,e = .returned v∧bH n2 w.heap.size w' v L∧aC n2 base w' s g A2 c2 S2∧(∀ x,x∈ob A2→x∈ob A∨w.heap.size≤x)∧n≤n2∧ax (g :: (ob A++[])) w w'
def tT (n base:Nat)(S2:XS)(L:List Ev)(g:Nat)(A:Option Addr)(w:World)(e:Ending)(w':World) : Prop:=∃ v A2 c2 n2,e = .returned v∧bH n2 w.heap.size w' v L∧bT n2 base w' g A2 c2 S2∧(∀ x,x∈ob A2→x∈ob A∨w.heap.size≤x)∧n≤n2∧ax (g :: (ob A++[])) w w'
section
variable {w:World}{n base g c cpb nb:Nat}{A B:Option Addr}{m:Bool}{b:List Int}
theorem mT{S:SS}(h:bT n base w g A c (.r S))(hsl:aN m w (.slice B nb cpb) b)(hbl:b.length≤1048576) :
    Calls Tryz.prog 157 #[.pointer (some ⟨g,0,none⟩),.slice B nb cpb] w (tT n base (.r (S.feed b).1) (S.feed b).2 g A w):=by
  obtain⟨_,_,e,hc,_⟩:=hsl.shape
  injection e with e1 e2 e3
  subst e1 e2 e3
  exact nZ h h.gA hsl hbl hc
theorem np{S:SS}(h:bT n base w g A c (.r S)) : Calls Tryz.prog 159 #[.pointer (some ⟨g,0,none⟩)] w (tT n base (.r S.tick.1) S.tick.2 g A w):=nQ h
theorem o2{S:SA}(h:bT n base w g A c (.a S))(hsl:aN m w (.slice B nb cpb) b)(hdg:0<nb→∀ x,x∈ob B→x≠g)(hda:iv nb B (ob A))(hbl:b.length≤1048576) :
    Calls Tryz.prog 168 #[.pointer (some ⟨g,0,none⟩),.slice B nb cpb] w (tT n base (.a (S.feed b).1) (S.feed b).2 g A w):=lN rfl h hsl hdg hda hbl
theorem nh{S:SM}(h:bT n base w g A c (.m S))(hsl:aN m w (.slice B nb cpb) b)(hdg:0<nb→∀ x,x∈ob B→x≠g)(hda:iv nb B (ob A))(hbl:b.length≤1048576) :
    Calls Tryz.prog 184 #[.pointer (some ⟨g,0,none⟩),.slice B nb cpb] w (tT n base (.m (S.feed b).1) (S.feed b).2 g A w):=lO rfl h hsl hdg hda hbl
end
open Go.RowKit
section
variable {P:Program}{n:Nat}{D:List Deferred}{F:Fr}{w:World}{K:Fr→World→Prop}{Q:Exit→Act→World→Prop}{d:Option Tmp}{t:TypeId}{s:String}{af:Array Edge}{gu:Option (Nat × Bool)}
theorem oT{a:Act}{K:Act→World→Prop}{o:Oper}{N:Option Tmp}{f:FuncId}{fn:Func}{x:Operand}{nm:String}{opds:Array Operand}{ts:Array TypeId}{T:TypeId}{v rv:Value}(args:Array Value)(hN:o.dst=N)(hop:o.op = .call { callee:=.invoke x nm,args:=opds,argTypes:=ts })
    (hx : a.eval x = .iface T v) (hm : (method (P.types.size + Made.depth) T v nm).run P w = .ok (f, rv) w) (hf : P.funcs[f]? = some fn) (hname : (fn.name == "runtime.NumGoroutine") = false) (hb : fn.body.isSome = true) (hargs : #[rv] ++ opds.map a.eval = args)
    (h:Calls P f args w fun e w'=>∃ v,e = .returned v∧K (a.put N v) w') : OW P o a w K Q:=by
  refine OW.mk ?_
  subst hN
  subst hargs
  have h1 : fn.name ≠ "runtime.NumGoroutine" := by simpa using hname
  obtain⟨cd,hcd⟩:=Option.isSome_iff_exists.1 hb
  have hcm:(callMethod (.iface T v) nm (opds.map a.eval)).run P w = .ok (.enter f (#[rv]++opds.map a.eval)) w:=by
    unfold callMethod
    simp only[program,Sem.run_bind]
    have hp:(pure P:Sem Program).run P w = .ok P w:=rfl
    simp[Sem.run,hm,callFunc,hf,h1,hcd,Result.andThen]
  have hinv:invoke (.fn (.method nm) #[]) (#[.iface T v]++opds.map a.eval)=callMethod (.iface T v) nm (opds.map a.eval):=by
    have e0:(#[Value.iface T v]++opds.map a.eval)[0]? = some (.iface T v):=by
      rw[Array.getElem?_append_left (by simp)]
      rfl
    have e1:(#[Value.iface T v]++opds.map a.eval).extract 1 (#[Value.iface T v]++opds.map a.eval).size=opds.map a.eval:=by
      apply Array.toList_inj.1
      simp only[Array.toList_extract,List.extract_eq_take_drop,Array.toList_append,Array.toList_map,Array.size_append,Array.size_map]
      simp[List.take_of_length_le]
    unfold invoke
    simp only[e0,e1]
  have hrun:(execOp a.eval o).run P w = .ok (.enter f (#[rv]++opds.map a.eval)) w:=by
    unfold execOp
    simp only[hop,resolve,hx,Sem.run_bind,Sem.run_pure,Result.andThen_ok,hinv,hcm]
  unfold Oper.wp
  rw[hrun,Oper.upon_enter]
  refine h.mono fun e w'' hh=>?_
  obtain⟨v,rfl,h2⟩:=hh
  exact h2
theorem oZ{f:FuncId}{x:Operand}{nm:String}{opds:Array Operand}{ts:Array TypeId}{args:Array Value}(T:TypeId)(v rv:Value)(h:Calls P f args w fun e w'=>∃ v,e = .returned v∧K (pt d v F) w')
    (hm:(method (P.types.size+Made.depth) T v nm).run P w = .ok (f,rv) w:=by kernel_rfl) (hx:cY F x=some (.iface T v):=by kernel_rfl) (ha:some rv :: opds.toList.map (cY F)=args.toList.map some:=by kernel_rfl) (hf:sR P f=some (false,true):=by kernel_rfl) (hs:dA n d=true:=by kernel_rfl) : OG P ⟨d,.call { callee:=.invoke x nm,args:=opds,argTypes:=ts },t,s,af,gu⟩ n D F w K Q:=by
  obtain⟨fn,h1,h2,h3⟩:=fH hf
  refine⟨fun a hag K' hK=>oT args rfl rfl (hag.ev hx) hm h1 h2 h3 ?_ (h.mono fun e w' hh=>by
    obtain⟨v,rfl,hk⟩:=hh
    exact⟨v,rfl,hK _ _ _ hk (hag.put hs)⟩)⟩
  apply Array.toList_inj.1
  obtain⟨vs,has⟩ : ∃ vs:List Value,args.toList=rv :: vs∧opds.toList.map (cY F)=vs.map some:=by
    cases hl:args.toList with
    | nil=>rw[hl] at ha;cases ha
    | cons y ys =>
      rw[hl] at ha
      injection ha with e1 e2
      exact⟨ys,by rw[Option.some.inj e1],e2⟩
  rw[has.1,Array.toList_append,Array.toList_map,gB hag has.2]
  rfl
theorem vH{x:Operand}{xt ty:TypeId}{ok:Bool}(T:TypeId)(v r:Value)(h:K (pt d r F) w)(hx:cY F x=some (.iface T v):=by kernel_rfl)(hr:(Instr.typeAssert (.iface T v) xt ty ok).run P w = .ok r w:=by kernel_rfl)(hs:dA n d=true:=by kernel_rfl) : OG P ⟨d,.typeAssert x xt ty ok,t,s,af,gu⟩ n D F w K Q:=by
  refine⟨fun a ha K' hK=>dy r rfl ?_ (hK _ _ _ h (ha.put hs))⟩
  unfold execOp
  simp only[ha.ev hx,Sem.run_bind,hr,Result.andThen_ok,Sem.run_pure]
theorem gE:∀ {l:List String},l≠[]→∃ m,Instr.least l=some m
  | [],h=>absurd rfl h
  | s :: r,_=>⟨_,rfl⟩
theorem j4{want:Array (String × TypeId)}{got:Array Method}(h:(want.toList.filter fun p=>!got.any fun m=>m.name==p.1&&m.sig==p.2).isEmpty=false) : ∃ m,Instr.missingMethod want got=some m:=by
  unfold Instr.missingMethod
  simp only[List.partition_eq_filter_filter]
  have hne:((want.toList.filter fun p=>!got.any fun m=>m.name==p.1&&m.sig==p.2).map (·.1))≠[]:=by
    intro e
    rw[List.map_eq_nil_iff] at e
    rw[e] at h
    cases h
  generalize ((want.toList.filter fun p=>!got.any fun m=>m.name==p.1&&m.sig==p.2).map (·.1))=l at hne
  by_cases hx:l.filter (not ∘ (fun s:String=>s.contains '.'))=[]
  · have hy:l.filter (fun s:String=>s.contains '.')≠[]:=by
      intro hy
      obtain⟨s,hs⟩:=List.exists_mem_of_ne_nil l hne
      cases hc:s.contains '.'
      · have:s∈l.filter (not ∘ (fun s:String=>s.contains '.')):=List.mem_filter.2 ⟨hs,by simp only[Function.comp,hc,Bool.not_false]⟩
        rw[hx] at this
        cases this
      · have:s∈l.filter (fun s:String=>s.contains '.'):=List.mem_filter.2 ⟨hs,hc⟩
        rw[hy] at this
        cases this
    rw[hx]
    obtain ⟨m, hm⟩ := gE (l := (l.filter (fun s : String => s.contains '.')).map (fun id => (id.splitOn ".").getLastD id)) (by simpa using hy)
    exact⟨m,by rw[hm];rfl⟩
  · obtain⟨m,hm⟩:=gE hx
    exact⟨m,by rw[hm];rfl⟩
def t8 (P:Program)(ty T:TypeId) : Bool:=match P.underlying ty,P.info? T with
  | some (.interface want),some i=>!(want.toList.filter fun p=>!i.methods.any fun m=>m.name==p.1&&m.sig==p.2).isEmpty
  | _,_=>false
theorem uX{x:Operand}{xt ty:TypeId}(T:TypeId)(v z:Value)(h:K (pt d (.tuple #[z,.bool false]) F) w)(hm:t8 P ty T=true:=by kernel_rfl)(hx:cY F x=some (.iface T v):=by kernel_rfl)(hz:(zeroValue ty).run P w = .ok z w:=by kernel_rfl)(hs:dA n d=true:=by kernel_rfl) : OG P ⟨d,.typeAssert x xt ty true,t,s,af,gu⟩ n D F w K Q:=by
  refine⟨fun a ha K' hK=>dy _ rfl ?_ (hK _ _ _ h (ha.put hs))⟩
  unfold t8 at hm
  split at hm
  · rename_i want i hu hi
    obtain⟨m,hmm⟩:=j4 (by simpa using hm)
    have h1:(underlying ty).run P w = .ok (.interface want) w:=run_underlying hu w
    have h2:(typeInfo T).run P w = .ok i w:=by simp[typeInfo,hi]
    unfold execOp
    simp only[ha.ev hx,Instr.typeAssert,Sem.run_bind,h1,h2,Result.andThen_ok,hmm,hz,Sem.run_pure,if_true]
  · cases hm
end
open Go.RowKit
def rW (k:Int) : Int:=bif k==0 then 256 else bif k==1 then 513 else bif k==2 then 260 else 0
theorem k4{C:Prop}(k:Int)(h0:k=0→C)(h1:k=1→C)(h2:k=2→C)(h3:(k==0)=false→(k==1)=false→(k==2)=false→C) : C:=by
  cases e0:k==0
  · cases e1:k==1
    · cases e2:k==2
      · exact h3 e0 e1 e2
      · exact h2 (by simpa using e2)
    · exact h1 (by simpa using e1)
  · exact h0 (by simpa using e0)
theorem iU(x:Int) : x%3=0∨x%3=1∨x%3=2:=by omega
theorem sf{k:Int}(h0:(k==0)=false)(h1:(k==1)=false)(h2:(k==2)=false) : rW k=0:=by unfold rW;rw[h0,h1,h2];rfl
def o7 (base:Nat)(w:World)(v:Value)(xs:List Int) : Prop:=aN true w v xs∧∃ A n c,v = .slice A n c∧∀ x,x∈ob A→base≤x
theorem o7.wk{base base':Nat}{w:World}{v:Value}{xs:List Int}(h:o7 base w v xs)(k:base'≤base) : o7 base' w v xs:=by
  obtain⟨h1,A,n,c,h2,h3⟩:=h
  exact⟨h1,A,n,c,h2,fun x hx=>Nat.le_trans k (h3 x hx)⟩
def WR (res:Option (List Int))(base:Nat)(w:World)(v:Value)(n:Int) : Prop:=match res with
  | some l=>n=0∧o7 base w v l
  | none=>n=1∧v = .slice none 0 0
theorem WR.wk{res:Option (List Int)}{base base':Nat}{w:World}{v:Value}{n:Int}(h:WR res base w v n)(k:base'≤base) : WR res base' w v n:=by
  cases res with
  | none=>exact h
  | some l=>exact⟨h.1,h.2.wk k⟩
theorem o7.of{base:Nat}{w:World}{v:Value}{xs:List Int}(h:cJ base w v xs) : o7 base w v xs:=by
  obtain⟨A,c,rfl,_,_⟩:=h.rd.shape
  exact⟨h.rd,A,_,c,rfl,eu h⟩
theorem qY{w:World}:Calls Tryz.prog 41 #[.int .i64 0] w (bi (.iface 122 (.agg #[])) w):=by
 refine en 18 Tryz.func41 rfl<|sg<|Pl 1<|nt<|sq<|sg<|Pl 1<|nt<|bk<|sq<|?_
 refine go<|Pl 2<|nt<|c1<|sg<|Pl 3<|nt<|rt<|br<|tr<|rr (.iface 122 (.agg #[]))<|?_
 exact⟨rfl,(ax.refl [] _)⟩
theorem qx{w:World}:Calls Tryz.prog 41 #[.int .i64 1] w (bi (.iface 123 (.agg #[])) w):=by
 refine en 18 Tryz.func41 rfl<|sg<|Pl 1<|nt<|sq<|sg<|Pl 1<|nt<|bk<|sq<|?_
 refine go<|Pl 2<|nt<|c0<|sg<|Pl 2<|nt<|c1<|sg<|Pl 3<|nl<|?_
 refine tn<|rt<|br<|tr<|rr (.iface 123 (.agg #[]))<|?_
 exact⟨rfl,(ax.refl [] _)⟩
theorem rh{w:World}:Calls Tryz.prog 41 #[.int .i64 2] w (bi (.iface 124 (.agg #[])) w):=by
 refine en 18 Tryz.func41 rfl<|sg<|Pl 1<|nt<|sq<|sg<|Pl 1<|nt<|bk<|sq<|?_
 refine go<|Pl 2<|nt<|c0<|sg<|Pl 2<|nt<|c0<|sg<|Pl 2<|nl<|?_
 refine tn<|c1<|sg<|Pl 3<|nt<|rt<|br<|tr<|rr (.iface 124 (.agg #[]))<|?_
 exact⟨rfl,(ax.refl [] _)⟩
theorem q9{w:World}{k:Int}(h0:(k==0)=false)(h1:(k==1)=false)(h2:(k==2)=false) : Calls Tryz.prog 41 #[.int .i64 k] w (bi (.iface 125 (.agg #[])) w):=by
 refine en 18 Tryz.func41 rfl<|sg<|Pl 1<|nt<|sq<|sg<|Pl 1<|nt<|bk<|sq<|?_
 refine go<|Pl 2<|nt<|cf h0<|sg<|Pl 2<|nt<|cf h1<|sg<|Pl 2<|nl<|?_
 refine tn<|cf h2<|sk<|bn<|tn<|sg<|Pl 3<|nt<|rt<|rr (.iface 125 (.agg #[]))<|?_
 exact⟨rfl,(ax.refl [] _)⟩
theorem qJ{w:World}:Calls Tryz.prog 193 #[.agg #[]] w (bi (.int .i64 256) w):=by
 refine en 3 Tryz.func193 rfl<|sg<|L0<|cS #[] fun b c d e a=>Pl 1<|ng<|Pl 1<|nt<|rt<|rr (.int .i64 256)<|?_
 exact⟨rfl,a⟩
theorem nd{w:World}:Calls Tryz.prog 20 #[.int .i64 0] w (bi (.int .i64 256) w):=by
 refine en 6 Tryz.func20 rfl<|sg<|Pl 1<|ng<|Pl 1<|L0<|Oc<|m1 (qY) fun c a=>L0<|oZ (f:=193) (args:=#[.agg #[]]) 122 (.agg #[]) (.agg #[])<|m1 (@qJ _) fun d b=>Pl 1<|nt<|?_
 refine rt<|rr (.int .i64 256)<|?_
 exact⟨rfl,(aG a b)⟩
theorem qC{w:World}:Calls Tryz.prog 197 #[.agg #[]] w (bi (.int .i64 513) w):=by
 refine en 3 Tryz.func197 rfl<|sg<|L0<|cS #[] fun b c d e a=>Pl 1<|ng<|Pl 1<|nt<|rt<|rr (.int .i64 513)<|?_
 exact⟨rfl,a⟩
theorem nC{w:World}:Calls Tryz.prog 20 #[.int .i64 1] w (bi (.int .i64 513) w):=by
 refine en 6 Tryz.func20 rfl<|sg<|Pl 1<|ng<|Pl 1<|L0<|Oc<|m1 (qx) fun c a=>L0<|oZ (f:=197) (args:=#[.agg #[]]) 123 (.agg #[]) (.agg #[])<|m1 (@qC _) fun d b=>Pl 1<|nt<|?_
 refine rt<|rr (.int .i64 513)<|?_
 exact⟨rfl,(aG a b)⟩
theorem qP{w:World}:Calls Tryz.prog 206 #[.agg #[]] w (bi (.int .i64 260) w):=by
 refine en 3 Tryz.func206 rfl<|sg<|L0<|cS #[] fun b c d e a=>Pl 1<|ng<|Pl 1<|nt<|rt<|rr (.int .i64 260)<|?_
 exact⟨rfl,a⟩
theorem nO{w:World}:Calls Tryz.prog 20 #[.int .i64 2] w (bi (.int .i64 260) w):=by
 refine en 6 Tryz.func20 rfl<|sg<|Pl 1<|ng<|Pl 1<|L0<|Oc<|m1 (rh) fun c a=>L0<|oZ (f:=206) (args:=#[.agg #[]]) 124 (.agg #[]) (.agg #[])<|m1 (@qP _) fun d b=>Pl 1<|nt<|?_
 refine rt<|rr (.int .i64 260)<|?_
 exact⟨rfl,(aG a b)⟩
theorem qN{w:World}:Calls Tryz.prog 210 #[.agg #[]] w (bi (.int .i64 0) w):=by
 refine en 3 Tryz.func210 rfl<|sg<|L0<|cS #[] fun b c d e a=>Pl 1<|ng<|Pl 1<|nt<|rt<|rr (.int .i64 0)<|?_
 exact⟨rfl,a⟩
theorem nW{w:World}{k:Int}(h0:(k==0)=false)(h1:(k==1)=false)(h2:(k==2)=false) : Calls Tryz.prog 20 #[.int .i64 k] w (bi (.int .i64 0) w):=by
 refine en 6 Tryz.func20 rfl<|sg<|Pl 1<|ng<|Pl 1<|L0<|Oc<|m1 (q9 h0 h1 h2) fun c a=>L0<|oZ (f:=210) (args:=#[.agg #[]]) 125 (.agg #[]) (.agg #[])<|m1 (@qN _) fun d b=>Pl 1<|nt<|?_
 refine rt<|rr (.int .i64 0)<|?_
 exact⟨rfl,(aG a b)⟩
theorem gW{w:World}{k:Int}:Calls Tryz.prog 20 #[.int .i64 k] w (bi (.int .i64 (rW k)) w):=by
  refine k4 k (fun h=>?_) (fun h=>?_) (fun h=>?_) (fun h0 h1 h2=>?_)
  · subst h;exact nd
  · subst h;exact nC
  · subst h;exact nO
  · rw[sf h0 h1 h2];exact nW h0 h1 h2
open Go.RowKit
theorem bT.apt{n base g c:Nat}{w:World}{A:Option Addr}{S:XS}(h:bT n base w g A c S){k:Nat}(hk:k≤n) : na k (g :: (ob A++[])) w:=by
  obtain⟨t,cs,fr,q,h1,_⟩:=h.cells
  exact dq q h1 (cv (cV hk h.low) aW)
theorem si{d:Int}(hd:d=0∨d=1) : ((d != 0)&&(d != 1))=false:=by rcases hd with rfl | rfl<;>rfl
theorem bV.old0{n base g c:Nat}{w w':World}{A:Option Addr}{S:SS}(h:bV n base w g A c S)(hu:ax [] w w') : bV n base w' g A c S:=h.upd hu (by simp) (fun x _=>by simp)
theorem bV.weak{n n' g:Nat}{w:World}{S:SS}{c:Nat}(h:bV n n w g none c S)(hn:n'≤n) : bV n' n' w g none c S:=by
  obtain⟨h1,h2,h3,h4,h5⟩:=h
  exact⟨h1,aO.weaken h2 hn,Nat.le_trans hn h3,bM,Nat.le_trans hn h5⟩
theorem o3{w:World}{d:Int}(hd:d=0∨d=1) : Calls Tryz.prog 29 #[.int .i64 0,.int .i64 d] w (fun e w'=>∃ s g,e = .returned (.pointer (some ⟨s,0,none⟩))∧w.heap.size≤s∧w.heap.size≤g∧aC w.heap.size w.heap.size w' s g none 0 (XS.zero 0 d)∧ax [] w w'):=by
 refine en 36 Tryz.func29 rfl<|sg<|Pl 1<|nt<|sq<|sg<|Pl 1<|L0<|Oc<|m1 (gW (k:=0)) fun q b=>Pl 5<|cu 3 [11] 14 (((d != 0)&&(d != 1))) (fun K c=>?_) ?_
 refine bl 11 ((d != 0)) (fun a=>?_) (fun a=>?_)
 have l:=ay a
 exact Pl 3<|ce c (d != 1) (by rw[a];rfl)
 have l:=ag a
 exact Pl 3<|ce c false (by rw[a];rfl)
 refine Pl 1<|nt<|cf (si hd)<|bC<|sq<|sg<|Pl 1<|nt<|bk<|sq<|?_
 refine go<|Pl 2<|nt<|c1<|sg<|Pl 1<|L0<|Oc<|e3 (ru hd) fun f t m n h=>Pl 2<|L0<|cS #[.iface 95 (.pointer (some ⟨f,0,none⟩))] fun i u o p j=>Pl 1<|nt<|?_
 refine rt<|br<|tr<|rr (.pointer (some ⟨i,0,none⟩))<|?_
 exact⟨i,f,rfl,(Nat.le_trans (le b.size h.size) o),(Nat.le_trans b.size m),⟨p,(show bT _ _ _ _ _ _ (XS.r _) from((bV.old0 n j)).weak b.size)⟩,(aG b (aG h j))⟩
theorem oY{w:World}{d:Int}(hd:d=0∨d=1) : Calls Tryz.prog 47 #[.int .i64 d] w (fun e w'=>∃ g,e = .returned (.pointer (some ⟨g,0,none⟩))∧w.heap.size≤g∧c5 w.heap.size w.heap.size w' g none 0 ⟨d,[]⟩∧ax [] w w'):=by
  rcases hd with rfl|rfl
  · exact mp 0 nz
  · exact mp 1 nK
theorem c5.old0{n base g c:Nat}{w w':World}{A:Option Addr}{S:SA}(h:c5 n base w g A c S)(hu:ax [] w w') : c5 n base w' g A c S:=h.upd hu (by simp) (fun x _=>by simp)
theorem c5.weak{n n' g:Nat}{w:World}{S:SA}{c:Nat}(h:c5 n n w g none c S)(hn:n'≤n) : c5 n' n' w g none c S:=by
  obtain⟨h1,h2,h6,h3,h4,h5⟩:=h
  exact⟨h1,aO.weaken h2 hn,h6,Nat.le_trans hn h3,bM,Nat.le_trans hn h5⟩
theorem nv{w:World}{d:Int}(hd:d=0∨d=1) : Calls Tryz.prog 29 #[.int .i64 1,.int .i64 d] w (fun e w'=>∃ s g,e = .returned (.pointer (some ⟨s,0,none⟩))∧w.heap.size≤s∧w.heap.size≤g∧aC w.heap.size w.heap.size w' s g none 0 (XS.zero 1 d)∧ax [] w w'):=by
 refine en 36 Tryz.func29 rfl<|sg<|Pl 1<|nt<|sq<|sg<|Pl 1<|L0<|Oc<|m1 (gW (k:=1)) fun r c=>Pl 5<|cu 3 [11] 14 (((d != 0)&&(d != 1))) (fun K f=>?_) ?_
 refine bl 11 ((d != 0)) (fun b=>?_) (fun b=>?_)
 have m:=ay b
 exact Pl 3<|ce f (d != 1) (by rw[b];rfl)
 have m:=ag b
 exact Pl 3<|ce f false (by rw[b];rfl)
 refine Pl 1<|nt<|cf (si hd)<|bC<|sq<|sg<|Pl 1<|nt<|bk<|sq<|?_
 refine go<|Pl 2<|nt<|c0<|sg<|Pl 2<|nt<|c1<|sg<|Pl 1<|L0<|Oc<|e3 (oY hd) fun h t n o i=>?_
 refine Pl 2<|L0<|cS #[.iface 101 (.pointer (some ⟨h,0,none⟩))] fun j u p q l=>Pl 1<|nt<|rt<|br<|tr<|rr (.pointer (some ⟨j,0,none⟩))<|?_
 exact⟨j,h,rfl,(Nat.le_trans (le c.size i.size) p),(Nat.le_trans c.size n),⟨q,(show bT _ _ _ _ _ _ (XS.a _) from((c5.old0 o l)).weak c.size)⟩,(aG c (aG i l))⟩
theorem pC{w:World}{d:Int}(hd:d=0∨d=1) : Calls Tryz.prog 48 #[.int .i64 d] w (fun e w'=>∃ g,e = .returned (.pointer (some ⟨g,0,none⟩))∧w.heap.size≤g∧c6 w.heap.size w.heap.size w' g none 0 ⟨d,[],0⟩∧ax [] w w'):=by
  rcases hd with rfl|rfl
  · exact md 0 lY
  · exact md 1 lE
theorem c6.old0{n base g c:Nat}{w w':World}{A:Option Addr}{S:SM}(h:c6 n base w g A c S)(hu:ax [] w w') : c6 n base w' g A c S:=h.upd hu (by simp) (fun x _=>by simp)
theorem c6.weak{n n' g:Nat}{w:World}{S:SM}{c:Nat}(h:c6 n n w g none c S)(hn:n'≤n) : c6 n' n' w g none c S:=by
  obtain⟨h1,h2,h6,h3,h4,h5⟩:=h
  exact⟨h1,aO.weaken h2 hn,h6,Nat.le_trans hn h3,bM,Nat.le_trans hn h5⟩
theorem nn{w:World}{d:Int}(hd:d=0∨d=1) : Calls Tryz.prog 29 #[.int .i64 2,.int .i64 d] w (fun e w'=>∃ s g,e = .returned (.pointer (some ⟨s,0,none⟩))∧w.heap.size≤s∧w.heap.size≤g∧aC w.heap.size w.heap.size w' s g none 0 (XS.zero 2 d)∧ax [] w w'):=by
 refine en 36 Tryz.func29 rfl<|sg<|Pl 1<|nt<|sq<|sg<|Pl 1<|L0<|Oc<|m1 (gW (k:=2)) fun r b=>Pl 5<|cu 3 [11] 14 (((d != 0)&&(d != 1))) (fun K c=>?_) ?_
 refine bl 11 ((d != 0)) (fun a=>?_) (fun a=>?_)
 have l:=ay a
 exact Pl 3<|ce c (d != 1) (by rw[a];rfl)
 have l:=ag a
 exact Pl 3<|ce c false (by rw[a];rfl)
 refine Pl 1<|nt<|cf (si hd)<|bC<|sq<|sg<|Pl 1<|nt<|bk<|sq<|?_
 refine go<|Pl 2<|nt<|c0<|sg<|Pl 2<|nt<|c0<|sk<|bn<|tn<|?_
 refine sg<|Pl 1<|L0<|Oc<|e3 (pC hd) fun f t n o h=>Pl 2<|L0<|cS #[.iface 103 (.pointer (some ⟨f,0,none⟩))] fun i u p q j=>Pl 1<|nt<|rt<|rr (.pointer (some ⟨i,0,none⟩))<|?_
 exact⟨i,f,rfl,(Nat.le_trans (le b.size h.size) p),(Nat.le_trans b.size n),⟨q,(show bT _ _ _ _ _ _ (XS.m _) from((c6.old0 o j)).weak b.size)⟩,(aG b (aG h j))⟩
theorem jq{w:World}{k:Int}(hk:k=0∨k=1∨k=2){d:Int}(hd:d=0∨d=1) : Calls Tryz.prog 29 #[.int .i64 k,.int .i64 d] w (fun e w'=>∃ s g,e = .returned (.pointer (some ⟨s,0,none⟩))∧w.heap.size≤s∧w.heap.size≤g∧aC w.heap.size w.heap.size w' s g none 0 (XS.zero k d)∧ax [] w w'):=by
  rcases hk with rfl|rfl|rfl
  · exact o3 hd
  · exact nv hd
  · exact nn hd
theorem lx{w:World}{n base s g c:Nat}{A B:Option Addr}{cpb:Nat}{S:SS}{m t:Bool}{b:List Int}(h:aC n base w s g A c (.r S))(hsl:aN m w (.slice B b.length cpb) b)(hdg:0<b.length→∀ x,x∈ob B→x≠g)(hda:iv b.length B (ob A))(hbl:b.length≤1048576) :
    Calls Tryz.prog 31 #[.pointer (some ⟨s,0,none⟩),.agg #[.slice B b.length cpb,.bool t]] w (tR n base (XS.take (.r S) b t).1 (XS.take (.r S) b t).2 s g A w):=by
 have hzb:=aI.len hsl
 have hz1:(S.feed b).2.length≤1:=SS.feed_le (S:=S) (b:=b) rfl
 have hz2:(S.feed b).1.tick.2.length≤1:=SS.tick_le (S:=(S.feed b).1) rfl
 refine en 33 Tryz.func31 rfl<|sg<|L0<|cS #[.slice B b.length cpb,.bool t] fun O a3 C P Q=>Pl 1<|nt<|sq<|Rg 8 (fun w'=>w'.cell? ⟨s,0,none⟩=some (.iface 95 (.pointer (some ⟨g,0,none⟩)))∧w'.cell? ⟨O,0,none⟩=some (.slice B b.length cpb)) fun a4 D=>?_
 have a:=aG Q D
 have p:=ub a h.1
 have E:=ub D P
 refine bg ⟨(aj p rfl),(aj E rfl)⟩ fun i=>Rt 0 i<|Rt 1 i<|Rt 2 i<|Rl 3 i (fun _ hs=>hs.1)<|Rt 4 i<|Rl 5 i (fun _ hs=>hs.2)<|?_
 refine R0 6 rfl<|oZ (f:=157) (args:=#[.pointer (some ⟨g,0,none⟩),.slice B b.length cpb]) 95 (.pointer (some ⟨g,0,none⟩)) (.pointer (some ⟨g,0,none⟩))<|?_
 refine(mT (bT.upd h.2 a av (fun x hx=>av)) (aN.old hsl a) hbl).mono ?_
 rintro _ a5 ⟨a6,F,a7,a8,rfl,T,j,u,G,k⟩
 refine⟨_,rfl,?_⟩
 have d:=T
 obtain⟨H,U,rfl,a9,ab⟩:=aI.shape d.rd
 have l:=ax.blk k (aa h.sg (aA (bN p (am (bT.row h.2) a (fun x hx=>av) (fun _ _ h=>h)) (by decide)) av)) p
 have I:=ax.blk k (aa (Ne.symm (nb (bT.lt h.2) lr C)) (aA (fQ (bT.row h.2) lr C) av)) E
 refine bg ⟨(aj l rfl),(aj I rfl)⟩ fun V=>Rt 7 V<|re<|tn<|sq<|sg<|Pl 3<|L0<|aU l 0<|L0<|vH 95 (.pointer (some ⟨g,0,none⟩)) (.tuple #[.iface 95 (.pointer (some ⟨g,0,none⟩)),.bool true])<|Pl 5<|nt<|sq<|?_
 refine go<|Pl 3<|L1<|aU I 1<|Pl 1<|nt<|?_
 have J:=ut (ax.mono (S':=(g :: (ob A++[]))) a au) k (ac im (aq il au))
 refine cb (t) (fun v=>?_) (fun v=>?_)
 refine go<|Pl 2<|L0<|oZ (f:=159) (args:=#[.pointer (some ⟨g,0,none⟩)]) 95 (.pointer (some ⟨g,0,none⟩)) (.pointer (some ⟨g,0,none⟩))<|?_
 refine(np j).mono ?_
 rintro _ ad ⟨ae,W,af,X,rfl,Y,y,Z,K,o⟩
 refine⟨_,rfl,?_⟩
 have L:=Y
 obtain⟨ag,ah,rfl,ak,al⟩:=aI.shape L.rd
 have z:=am d o (fun x hx=>(aa (fun e=>(ap (bT.lt h.2) a.size d) (e▸hx)) (aA ((aY d (bT.row j) (by decide)) x hx) av))) (fun x cs q=>aP.upd o (bT.apt j (Nat.le_refl _)) q)
 refine L0<|eE (R:=aP X) (xs:=((S.feed b).2)) (ys:=((S.feed b).1.tick.2)) (.agg #[.int .i64 0,.int .u8 0,.int .u16 0,.int .u8 0,.int .u8 0,.int .u16 0,.int .u16 0,.int .u16 0,.int .u16 0,.int .u16 0,.int .u16 0,.int .u16 0,.int .u16 0,.int .u16 0,.int .u16 0,.slice none 0 0,.slice none 0 0,.slice none 0 0,.slice none 0 0,.int .u8 0,.int .u8 0,.int .u8 0,.int .u8 0,.int .u8 0,.slice none 0 0]) 25 168 (bH.up K (y.nle) z) (L).rd aP.ones (fun w' hv x cs q=>aP.upd hv (cL z (by decide) aW) q) (by omega) (le k.size o.size) fun a0 a1 an a2 M ao=>Pl 1<|ng<|Pl 2<|nt<|rt<|rr (.slice a0 (((S.feed b).2++(S.feed b).1.tick.2).length) a1)<|?_
 have hs:XS.take (.r S) b t=(.r (S.feed b).1.tick.1,(S.feed b).2++(S.feed b).1.tick.2):=by unfold XS.take;rw[v];rfl
 rw[hs]
 have hat0:∀ x,x∈ob W→x∈ob A∨w.heap.size≤x:=fun x hx=>((fun x hx=>fS Z u k.size x hx) x hx).imp id (Nat.le_trans a.size)
 have N:=ut (ax.mono (S':=(g :: (ob F++(ob H++[])))) o (ac im (aq il au))) M (aq il au)
 exact⟨_,_,_,_,rfl,aO.weaken a2 a.size,⟨(ax.blk N (aa h.sg (aA (bN l (bT.row j) (by decide)) (aA (ap (ai h.1) a.size d) av))) l),(bT.upd y M (aA (ap (bT.lt h.2) a.size d) av) (fun x hx=>(aA ((aY (bT.row y) z (by decide)) x hx) av)))⟩,hat0,Nat.le_trans G K,(ax.mono (S':=g :: (ob A++[])) (ut J N (ac im (aq (gv u il a.size) (aq (bv d a.size) au)))) (ac im (aq il au)))⟩
 refine bC<|sg<|Pl 2<|nt<|rt<|rr (.slice H (((S.feed b).2).length) U)<|?_
 have hs:XS.take (.r S) b t=(.r (S.feed b).1,(S.feed b).2):=by unfold XS.take;rw[v];rfl
 rw[hs]
 have hat0:∀ x,x∈ob F→x∈ob A∨w.heap.size≤x:=fun x hx=>((fun x hx=>u x hx) x hx).imp id (Nat.le_trans a.size)
 exact⟨_,_,_,_,rfl,aO.weaken d a.size,⟨l,j⟩,hat0,G,(ax.mono (S':=g :: (ob A++[])) J (ac im (aq il au)))⟩
theorem lm{w:World}{n base s g c:Nat}{A B:Option Addr}{cpb:Nat}{S:SA}{m t:Bool}{b:List Int}(h:aC n base w s g A c (.a S))(hsl:aN m w (.slice B b.length cpb) b)(hdg:0<b.length→∀ x,x∈ob B→x≠g)(hda:iv b.length B (ob A))(hbl:b.length≤1048576) :
    Calls Tryz.prog 31 #[.pointer (some ⟨s,0,none⟩),.agg #[.slice B b.length cpb,.bool t]] w (tR n base (XS.take (.a S) b t).1 (XS.take (.a S) b t).2 s g A w):=by
 have hzb:=aI.len hsl
 refine en 33 Tryz.func31 rfl<|sg<|L0<|cS #[.slice B b.length cpb,.bool t] fun r I l u v=>Pl 1<|nt<|sq<|Rg 8 (fun w'=>w'.cell? ⟨s,0,none⟩=some (.iface 101 (.pointer (some ⟨g,0,none⟩)))∧w'.cell? ⟨r,0,none⟩=some (.slice B b.length cpb)) fun J o=>?_
 have d:=aG v o
 have i:=ub d h.1
 have p:=ub o u
 refine bg ⟨(aj i rfl),(aj p rfl)⟩ fun e=>Rt 0 e<|Rt 1 e<|Rt 2 e<|Rl 3 e (fun _ hs=>hs.1)<|Rt 4 e<|Rl 5 e (fun _ hs=>hs.2)<|?_
 refine R0 6 rfl<|oZ (f:=168) (args:=#[.pointer (some ⟨g,0,none⟩),.slice B b.length cpb]) 101 (.pointer (some ⟨g,0,none⟩)) (.pointer (some ⟨g,0,none⟩))<|?_
 refine(o2 (bT.upd h.2 d av (fun x hx=>av)) (aN.old hsl d) hdg hda hbl).mono ?_
 rintro _ K ⟨L,y,M,N,rfl,z,C,D,E,j⟩
 refine⟨_,rfl,?_⟩
 have q:=z
 obtain⟨F,G,rfl,O,P⟩:=aI.shape q.rd
 have k:=ax.blk j (aa h.sg (aA (bN i (am (bT.row h.2) d (fun x hx=>av) (fun _ _ h=>h)) (by decide)) av)) i
 refine bg ⟨(aj k rfl),(aj (ax.blk j (aa (Ne.symm (nb (bT.lt h.2) lr l)) (aA (fQ (bT.row h.2) lr l) av)) p) rfl)⟩ fun H=>Rt 7 H<|re<|tn<|sq<|sg<|Pl 3<|L0<|aU k 0<|L0<|uX 101 (.pointer (some ⟨g,0,none⟩)) .nilIface<|Pl 5<|nt<|sq<|?_
 refine go<|Pl 5<|nt<|c0<|bC<|sg<|Pl 2<|nt<|rt<|rr (.slice F (((S.feed b).2).length) G)<|?_
 have hs:XS.take (.a S) b t=(.a (S.feed b).1,(S.feed b).2):=by unfold XS.take;cases t;rfl;show(_,(S.feed b).2++[])=_;rw[List.append_nil];rfl
 rw[hs]
 have hat0:∀ x,x∈ob y→x∈ob A∨w.heap.size≤x:=fun x hx=>((fun x hx=>D x hx) x hx).imp id (Nat.le_trans d.size)
 exact⟨_,_,_,_,rfl,aO.weaken q d.size,⟨k,C⟩,hat0,E,(ax.mono (S':=g :: (ob A++[])) (ut (ax.mono (S':=(g :: (ob A++[]))) d au) j (ac im (aq il au))) (ac im (aq il au)))⟩
theorem lQ{w:World}{n base s g c:Nat}{A B:Option Addr}{cpb:Nat}{S:SM}{m t:Bool}{b:List Int}(h:aC n base w s g A c (.m S))(hsl:aN m w (.slice B b.length cpb) b)(hdg:0<b.length→∀ x,x∈ob B→x≠g)(hda:iv b.length B (ob A))(hbl:b.length≤1048576) :
    Calls Tryz.prog 31 #[.pointer (some ⟨s,0,none⟩),.agg #[.slice B b.length cpb,.bool t]] w (tR n base (XS.take (.m S) b t).1 (XS.take (.m S) b t).2 s g A w):=by
 have hzb:=aI.len hsl
 refine en 33 Tryz.func31 rfl<|sg<|L0<|cS #[.slice B b.length cpb,.bool t] fun q H k r u=>Pl 1<|nt<|sq<|Rg 8 (fun w'=>w'.cell? ⟨s,0,none⟩=some (.iface 103 (.pointer (some ⟨g,0,none⟩)))∧w'.cell? ⟨q,0,none⟩=some (.slice B b.length cpb)) fun I l=>?_
 have a:=aG u l
 have e:=ub a h.1
 have o:=ub l r
 refine bg ⟨(aj e rfl),(aj o rfl)⟩ fun d=>Rt 0 d<|Rt 1 d<|Rt 2 d<|Rl 3 d (fun _ hs=>hs.1)<|Rt 4 d<|Rl 5 d (fun _ hs=>hs.2)<|?_
 refine R0 6 rfl<|oZ (f:=184) (args:=#[.pointer (some ⟨g,0,none⟩),.slice B b.length cpb]) 103 (.pointer (some ⟨g,0,none⟩)) (.pointer (some ⟨g,0,none⟩))<|?_
 refine(nh (bT.upd h.2 a av (fun x hx=>av)) (aN.old hsl a) hdg hda hbl).mono ?_
 rintro _ J ⟨K,v,L,M,rfl,y,z,C,D,i⟩
 refine⟨_,rfl,?_⟩
 have p:=y
 obtain⟨E,F,rfl,N,O⟩:=aI.shape p.rd
 have j:=ax.blk i (aa h.sg (aA (bN e (am (bT.row h.2) a (fun x hx=>av) (fun _ _ h=>h)) (by decide)) av)) e
 refine bg ⟨(aj j rfl),(aj (ax.blk i (aa (Ne.symm (nb (bT.lt h.2) lr k)) (aA (fQ (bT.row h.2) lr k) av)) o) rfl)⟩ fun G=>Rt 7 G<|re<|tn<|sq<|sg<|Pl 3<|L0<|aU j 0<|L0<|uX 103 (.pointer (some ⟨g,0,none⟩)) .nilIface<|Pl 5<|nt<|sq<|?_
 refine go<|Pl 5<|nt<|c0<|bC<|sg<|Pl 2<|nt<|rt<|rr (.slice E (((S.feed b).2).length) F)<|?_
 have hs:XS.take (.m S) b t=(.m (S.feed b).1,(S.feed b).2):=by unfold XS.take;cases t;rfl;show(_,(S.feed b).2++[])=_;rw[List.append_nil];rfl
 rw[hs]
 have hat0:∀ x,x∈ob v→x∈ob A∨w.heap.size≤x:=fun x hx=>((fun x hx=>C x hx) x hx).imp id (Nat.le_trans a.size)
 exact⟨_,_,_,_,rfl,aO.weaken p a.size,⟨j,z⟩,hat0,D,(ax.mono (S':=g :: (ob A++[])) (ut (ax.mono (S':=(g :: (ob A++[]))) a au) i (ac im (aq il au))) (ac im (aq il au)))⟩
theorem eU{w:World}{n base s g c nb:Nat}{A B:Option Addr}{cpb:Nat}{S S2:XS}{L:List Ev}{m t:Bool}{b:List Int}(hX:S.take b t=(S2,L))(h:aC n base w s g A c S)(hsl:aN m w (.slice B nb cpb) b)(hdg:0<nb→∀ x,x∈ob B→x≠g)(hda:iv nb B (ob A))(hbl:b.length≤1048576) :
    Calls Tryz.prog 31 #[.pointer (some ⟨s,0,none⟩),.agg #[.slice B nb cpb,.bool t]] w (tR n base S2 L s g A w):=by
  obtain⟨_,_,e,_,_⟩:=hsl.shape
  injection e with e1 e2 e3
  subst e1 e2 e3
  have e1:S2=(S.take b t).1:=(congrArg Prod.fst hX).symm
  have e2:L=(S.take b t).2:=(congrArg Prod.snd hX).symm
  rw[e1,e2]
  cases S with
  | r S=>exact lx h hsl hdg hda hbl
  | a S=>exact lm h hsl hdg hda hbl
  | m S=>exact lQ h hsl hdg hda hbl
theorem lh{w:World}{n base s g c:Nat}{A:Option Addr}{S:SS}(h:aC n base w s g A c (.r S)) : Calls Tryz.prog 30 #[.pointer (some ⟨s,0,none⟩)] w (bi (.int .i64 ((S.held.length:Nat) : Int)) w):=by
 refine en 8 Tryz.func30 rfl<|sg<|Pl 1<|ng<|Pl 3<|L0<|aU h.1 0<|L0<|oZ (f:=158) (args:=#[.pointer (some ⟨g,0,none⟩)]) 95 (.pointer (some ⟨g,0,none⟩)) (.pointer (some ⟨g,0,none⟩))<|m1 (pJ h.2) fun b a=>Pl 1<|nt<|?_
 refine rt<|rr (.int .i64 ((S.held.length:Nat) : Int))<|?_
 exact⟨rfl,a⟩
theorem l3{w:World}{n base s g c:Nat}{A:Option Addr}{S:SA}(h:aC n base w s g A c (.a S)) : Calls Tryz.prog 30 #[.pointer (some ⟨s,0,none⟩)] w (bi (.int .i64 ((S.held.length:Nat) : Int)) w):=by
 refine en 8 Tryz.func30 rfl<|sg<|Pl 1<|ng<|Pl 3<|L0<|aU h.1 0<|L0<|oZ (f:=169) (args:=#[.pointer (some ⟨g,0,none⟩)]) 101 (.pointer (some ⟨g,0,none⟩)) (.pointer (some ⟨g,0,none⟩))<|m1 (oV h.2) fun d b=>Pl 1<|nt<|?_
 refine rt<|rr (.int .i64 ((S.held.length:Nat) : Int))<|?_
 exact⟨rfl,b⟩
theorem lT{w:World}{n base s g c:Nat}{A:Option Addr}{S:SM}(h:aC n base w s g A c (.m S)) : Calls Tryz.prog 30 #[.pointer (some ⟨s,0,none⟩)] w (bi (.int .i64 ((S.held.length:Nat) : Int)) w):=by
 refine en 8 Tryz.func30 rfl<|sg<|Pl 1<|ng<|Pl 3<|L0<|aU h.1 0<|L0<|oZ (f:=185) (args:=#[.pointer (some ⟨g,0,none⟩)]) 103 (.pointer (some ⟨g,0,none⟩)) (.pointer (some ⟨g,0,none⟩))<|m1 (oQ h.2) fun b a=>Pl 1<|nt<|?_
 refine rt<|rr (.int .i64 ((S.held.length:Nat) : Int))<|?_
 exact⟨rfl,a⟩
theorem eM{w:World}{n base s g c:Nat}{A:Option Addr}{S:XS}(h:aC n base w s g A c S) : Calls Tryz.prog 30 #[.pointer (some ⟨s,0,none⟩)] w (bi (.int .i64 ((S.held.length:Nat) : Int)) w):=by
  cases S with
  | r S=>exact lh h
  | a S=>exact l3 h
  | m S=>exact lT h
open Go.RowKit
def eO:List (List Int)→Nat
  | []=>0
  | x :: t=>x.length+eO t
def ey (ls:List (List Int)) : Bool:=decide (ls.length≤60)&&decide (eO ls≤3000)
theorem fE(a b:List (List Int)) : eO (a++b)=eO a+eO b:=by
  induction a with
  | nil=>simp[eO]
  | cons x t ih=>simp only[List.cons_append,eO,ih];omega
theorem nq{ls:List (List Int)}{k:Nat}(hk:k<ls.length) : ls.take (k+1)=ls.take k++[ls.getD k []]:=by
  rw[List.take_succ_eq_append_getElem hk,List.getD_eq_getElem?_getD,List.getElem?_eq_getElem hk]
  rfl
theorem iR{ls:List (List Int)}{k:Nat}(hk:k<ls.length) : eO (ls.take (k+1))=eO (ls.take k)+(ls.getD k []).length:=by
  rw[nq hk,fE]
  rfl
theorem m8{ls:List (List Int)}(hb:∀ x,x∈ls→x.length≤140737488355328) : ∀ k,k≤ls.length→eO (ls.take k)≤k*140737488355328
  | 0,_=>by simp[eO]
  | k+1,h=>by
    rw[iR (by omega)]
    have h1:=m8 hb k (by omega)
    have h2:(ls.getD k []).length≤140737488355328:=by
      rw[List.getD_eq_getElem?_getD,List.getElem?_eq_getElem (by omega)]
      exact hb _ (List.getElem_mem _)
    rw[Nat.succ_mul]
    omega
theorem lR{ls:List (List Int)}{k:Nat}{n:Int}(hb:∀ x,x∈ls→x.length≤140737488355328)(h:k≤60→n=(eO (ls.take k) : Nat))(hk:k<ls.length) : k+1≤60→IntKind.i64.wrap (n+(((ls.getD k []).length:Nat) : Int))=(eO (ls.take (k+1)) : Nat):=by
  intro a
  have h1:=m8 hb (k+1) hk
  have h2:=iR hk
  rw[h (by omega),i64_in]
  · rw[h2];omega
  · omega
theorem iS{ls:List (List Int)}{k:Nat}{n:Int}(h:k≤60→n=(eO (ls.take k) : Nat))(hk:k=ls.length) : (decide ((ls.length:Int)≤60)&&decide (n≤3000))=ey ls:=by
  subst hk
  rw[List.take_length] at h
  unfold ey
  by_cases a:ls.length≤60
  · rw[h a]
    congr 1
    · rw[decide_eq_decide];omega
    · rw[decide_eq_decide];omega
  · rw[decide_eq_false a,decide_eq_false (by omega)];rfl
theorem nN{m:Bool}{A:Option Addr}{cp:Nat}{ls:List (List Int)}{w:World}(h:jR m w (.slice A ls.length cp) ls)(hbb:∀ x,x∈ls→x.length≤140737488355328) : Calls Tryz.prog 44 #[.slice A ls.length cp] w (bi (.bool (ey ls)) w):=by
 have hz:=aI.len h
 refine en 25 Tryz.func44 rfl<|sg<|Pl 1<|ng<|Pl 1<|nt<|sq<|sg<|?_
 refine Pl 1<|nt<|bk<|?_
 refine fR (fun x=>[(0,.slice A ls.length cp),(2,.bool false),(3,.int .i64 x.2),(4,.int .i64 ((x.1:Nat) : Int))]) (fun(x:Nat × Int) w'=>ax [] w w'∧(x.1≤ls.length)∧(x.1≤60→x.2=(eO (ls.take x.1) : Nat))) (fun x=>ls.length-x.1) (0,0) ⟨ax.refl _ _,(by(try dsimp only);omega),(by(try dsimp only);intro _;rfl)⟩ ?_
 rintro⟨k,n⟩ u ⟨c,f,g⟩
 refine ge [(0,.slice A ls.length cp),(2,.bool false),(3,.int .i64 n),(4,.int .i64 ((k:Nat) : Int))] ?_
 have y:k≤ls.length:=f
 have d:k≤60→n=(eO (ls.take k) : Nat):=g
 refine sq<|sg<|Pl 4<|nt<|cb ((decide (((k:Nat) : Int)<((ls.length:Nat) : Int)))) (fun b=>?_) (fun b=>?_)
 have i:=of_decide_eq_true b
 refine bC<|sq<|bk<|go<|Pl 3<|fU (jR.elt h k (by omega)) fun j l o q r s z B C=>L0<|ny ls.length k r (by omega)<|L0<|jx (p:=⟨j,l+k,none⟩) (v:=.slice o ((ls.getD k []).length) q) (uc c s)<|Pl 3<|nl<|bn<|tn<|go<|?_
 exact Pl 1<|L0<|Oi (((k:Nat) : Int)+1)<|Pl 1<|nl<|dY ((k+1),(IntKind.i64.wrap (n+(((ls.getD k []).length:Nat) : Int)))) ⟨c,(by(try dsimp only);omega),(lR hbb d (by omega))⟩ (by omega)
 have i:=of_decide_eq_false b
 refine xt<|tx<|tx<|bx<|tn<|sg<|Pl 4<|cu 3 [21] 24 (((decide (((ls.length:Nat) : Int)≤60))&&(decide (n≤3000)))) (fun K e=>?_) ?_
 refine bl 21 ((decide (((ls.length:Nat) : Int)≤60))) (fun a=>?_) (fun a=>?_)
 have t:=of_decide_eq_true a
 exact Pl 3<|ce e (decide (n≤3000)) (by rw[a];rfl)
 have t:=of_decide_eq_false a
 exact Pl 3<|ce e false (by rw[a];rfl)
 refine Pl 1<|nt<|rt<|rr (.bool ((decide (((ls.length:Nat) : Int)≤60))&&(decide (n≤3000))))<|?_
 have hs:((decide (((ls.length:Nat) : Int)≤60))&&(decide (n≤3000)))=ey ls:=by first | exact iS d (by omega) | (rw[← iS d (by omega)];simp only[b,bs,if_true,if_false,decide_true,decide_false,Bool.true_and,Bool.false_and])
 rw[hs]
 exact⟨rfl,c⟩
open Go.RowKit
structure Pc where
  bytes:List Int
  tick:Bool
def Pc.z:Pc:=⟨[],false⟩
def kJ (n:Nat)(w:World)(v:Value)(b:List Int) : Prop:=aN false w v b∧∀ A k c,v = .slice A k c→0<k→∀ x,x∈ob A→x<n
theorem kJ.of{m:Bool}{w:World}{v:Value}{b:List Int}(h:aN m w v b) : kJ w.heap.size w v b:=⟨aI.any h (fun _ _ q=>q),fun A k c e hk=>by subst e;exact aI.low h hk⟩
theorem kJ.nil{n:Nat}{w:World}:kJ n w (.slice none 0 0) []:=⟨aI.nil ..,fun A k c e hk=>by injection e with _ e;omega⟩
theorem kJ.upd{n:Nat}{w w':World}{X:List Nat}{v:Value}{b:List Int}(hu:ax X w w')(hx:∀ x,x∈X→n≤x)(h:kJ n w v b) : kJ n w' v b:=by
  obtain⟨A,c,rfl,_,_⟩:=h.1.shape
  exact⟨aN.far h.1 hu fun hn x hxA hxX=>Nat.lt_irrefl _ (Nat.lt_of_lt_of_le (h.2 A _ _ rfl hn x hxA) (hx x hxX)),h.2⟩
def vh (m:Bool)(w:World)(p:Pc)(cs:List Value) : Prop:=∃ v,cs=[v,.bool p.tick]∧aN m w v p.bytes
def iq (n:Nat)(w:World)(p:Pc)(cs:List Value) : Prop:=∃ v,cs=[v,.bool p.tick]∧kJ n w v p.bytes
def mD (n:Nat)(w:World)(b:List Int)(cs:List Value) : Prop:=∃ v,cs=[v]∧kJ n w v b
abbrev fu (m:Bool) (w:World) (v:Value) (ps:List Pc) : Prop:=aI m 53 2 (vh m) w v ps
abbrev jb (n base:Nat) (w:World) (v:Value) (ps:List Pc) : Prop:=aO base 53 2 (iq n) w v ps
theorem iq.upd{n:Nat}{w w':World}{X:List Nat}(hu:ax X w w')(hx:∀ x,x∈X→n≤x)(p:Pc)(cs:List Value)(h:iq n w p cs) : iq n w' p cs:=by
  obtain⟨v,h1,h2⟩:=h
  exact⟨v,h1,kJ.upd hu hx h2⟩
theorem mD.upd{n:Nat}{w w':World}{X:List Nat}(hu:ax X w w')(hx:∀ x,x∈X→n≤x)(p:List Int)(cs:List Value)(h:mD n w p cs) : mD n w' p cs:=by
  obtain⟨v,h1,h2⟩:=h
  exact⟨v,h1,kJ.upd hu hx h2⟩
theorem mD.ones{n:Nat}{w:World}:∀ (x:List Int)(cs:List Value),mD n w x cs→∀ v,v∈cs→v.oneCell'=true:=fun x cs ⟨v,h1,h2⟩ u hu=>by
  rw[h1,List.mem_singleton] at hu
  obtain⟨A,c,e,_⟩:=h2.1.shape
  rw[hu,e]
  rfl
theorem iq.ones{n:Nat}{w:World}:∀ (x:Pc)(cs:List Value),iq n w x cs→∀ v,v∈cs→v.oneCell'=true:=fun x cs ⟨v,h1,h2⟩ u hu=>by
  rw[h1] at hu
  obtain⟨A,c,e,_⟩:=h2.1.shape
  rcases List.mem_cons.1 hu with e2|hu
  · rw[e2,e];rfl
  · rw[List.mem_singleton] at hu;rw[hu];rfl
theorem jb.any{n base:Nat}{w:World}{v:Value}{ps:List Pc}(h:jb n base w v ps) : fu false w v ps:=aI.any h.rd fun p cs ⟨v,h1,h2⟩=>⟨v,h1,h2.1⟩
theorem fu.old{m:Bool}{w w':World}{v:Value}{ps:List Pc}(h:fu m w v ps)(hu:ax [] w w') : fu m w' v ps:=aI.upd h hu (bR.nil _ _ _) fun x cs ⟨v,h1,h2⟩=>⟨v,h1,h2.old hu⟩
theorem fu.elt{m:Bool}{w:World}{A:Option Addr}{n c:Nat}{ps:List Pc}(h:fu m w (.slice A n c) ps)(j:Nat)(hj:j<ps.length) :
    ∃ b off cells t fr A' c',A=some ⟨b,off,none⟩∧w.heap[b]? = some (.cells cells t fr)∧aN m w (.slice A' (ps.getD j Pc.z).bytes.length c') (ps.getD j Pc.z).bytes∧((ps.getD j Pc.z).bytes.length≤c'∧c'≤maxLen)∧(cells.toList.drop (off+j*2)).take 2=[.slice A' (ps.getD j Pc.z).bytes.length c',.bool (ps.getD j Pc.z).tick]:=by
  obtain⟨b,off,cells,t,fr,cs,h1,h2,h3,⟨v,h4,h5⟩,h6⟩:=aI.elt h Pc.z j hj
  obtain⟨A',c',rfl,h7,h8⟩:=h5.shape
  exact⟨b,off,cells,t,fr,A',c',h1,h2,h5,⟨h7,h8⟩,h6.trans h4⟩
theorem fu.n{m:Bool}{w:World}{v:Value}{ps:List Pc}(h:fu m w v ps) : aI false 53 2 (iq w.heap.size) w v ps:=aI.any h fun p cs ⟨v,h1,h2⟩=>⟨v,h1,kJ.of h2⟩
theorem RdPn.old{n:Nat}{w w':World}{v:Value}{ps:List Pc}(h:aI false 53 2 (iq n) w v ps)(hu:ax [] w w') : aI false 53 2 (iq n) w' v ps:=aI.upd h hu (bR.nil _ _ _) fun x cs q=>iq.upd hu (fun x hx=>by cases hx) x cs q
theorem RdPn.elt{n0:Nat}{w:World}{A:Option Addr}{n c:Nat}{ps:List Pc}(h:aI false 53 2 (iq n0) w (.slice A n c) ps)(j:Nat)(hj:j<ps.length) :
    ∃ b off cells t fr A' c',A=some ⟨b,off,none⟩∧w.heap[b]? = some (.cells cells t fr)∧kJ n0 w (.slice A' (ps.getD j Pc.z).bytes.length c') (ps.getD j Pc.z).bytes∧((ps.getD j Pc.z).bytes.length≤c'∧c'≤maxLen)∧(cells.toList.drop (off+j*2)).take 2=[.slice A' (ps.getD j Pc.z).bytes.length c',.bool (ps.getD j Pc.z).tick]:=by
  obtain⟨b,off,cells,t,fr,cs,h1,h2,h3,⟨v,h4,h5⟩,h6⟩:=aI.elt h Pc.z j hj
  obtain⟨A',c',rfl,h7,h8⟩:=h5.1.shape
  exact⟨b,off,cells,t,fr,A',c',h1,h2,h5,⟨h7,h8⟩,h6.trans h4⟩
theorem uM{n:Nat}{w0 w:World}{g:Nat}{cs:Array Value}{p:Pc}(hg:w0.heap.size≤g)(hb:w.heap[g]? = some (.cells cs 53 (0,0)))(h:iq n w p cs.toList) : jb n w0.heap.size w (.slice (some ⟨g,0,none⟩) 1 1) [p]:=by
  have hl:cs.toList.length=2:=by
    obtain⟨v,h1,_⟩:=h
    rw[h1]
    rfl
  refine⟨cs.toList,⟨hl,.inr ⟨g,1,cs,rfl,hg,hb,Nat.le_refl _,by unfold maxLen;omega,by simpa using hl,by rw[List.take_of_length_le];exact Nat.le_of_eq hl⟩⟩,fun j y hj=>?_⟩
  cases j with
  | succ j=>simp at hj
  | zero =>
    have hj:p=y:=by simpa using hj
    subst hj
    exact⟨cs.toList,hl,h,fun i u hi=>by simpa using hi⟩
theorem u7{n:Nat}{w0 w:World}{g:Nat}{cs:Array Value}{b:List Int}(hg:w0.heap.size≤g)(hb:w.heap[g]? = some (.cells cs 27 (0,0)))(h:mD n w b cs.toList) : aO w0.heap.size 27 1 (mD n) w (.slice (some ⟨g,0,none⟩) 1 1) [b]:=by
  have hl:cs.toList.length=1:=by
    obtain⟨v,h1,_⟩:=h
    rw[h1]
    rfl
  refine⟨cs.toList,⟨hl,.inr ⟨g,1,cs,rfl,hg,hb,Nat.le_refl _,by unfold maxLen;omega,by simpa using hl,by rw[List.take_of_length_le];exact Nat.le_of_eq hl⟩⟩,fun j y hj=>?_⟩
  cases j with
  | succ j=>simp at hj
  | zero =>
    have hj:b=y:=by simpa using hj
    subst hj
    exact⟨cs.toList,hl,h,fun i u hi=>by simpa using hi⟩
section
variable {P:Program}{n:Nat}{D:List Deferred}{F:Fr}{w:World}{K:Fr→World→Prop}{Q:Exit→Act→World→Prop}{d:Option Tmp}{t:TypeId}{s:String}{af:Array Edge}{gu:Option (Nat × Bool)}
end
def XS.run (S:XS)(ps:List Pc) : XS × List Ev:=ps.foldl (fun p c=>((p.1.take c.bytes c.tick).1,p.2++(p.1.take c.bytes c.tick).2)) (S,[])
theorem jl:∀ (ps:List Pc)(S:XS)(K:List Ev),ps.foldl (fun p c=>((p.1.take c.bytes c.tick).1,p.2++(p.1.take c.bytes c.tick).2)) (S,K)=((S.run ps).1,K++(S.run ps).2)
  | [],S,K=>by simp[XS.run]
  | c :: t,S,K=>by
    unfold XS.run
    rw[List.foldl_cons,List.foldl_cons,jl t,jl t]
    simp
theorem mc(S:XS)(a b:List Pc) : S.run (a++b)=(((S.run a).1.run b).1,(S.run a).2++((S.run a).1.run b).2):=by
  unfold XS.run
  rw[List.foldl_append]
  exact jl b _ _
theorem eh{ps:List Pc}{k:Nat}(hk:k<ps.length) : ps.take (k+1)=ps.take k++[ps.getD k Pc.z]:=by
  rw[List.take_succ_eq_append_getElem hk,List.getD_eq_getElem?_getD,List.getElem?_eq_getElem hk]
  rfl
theorem ji(S:XS)(p:Pc) : S.run [p]=S.take p.bytes p.tick:=by
  unfold XS.run
  simp
theorem eI{S0 S S2:XS}{ps:List Pc}{L L2:List Ev}{k:Nat}(hk:k<ps.length)(h:(S,L)=S0.run (ps.take k))(hX:S.take (ps.getD k Pc.z).bytes (ps.getD k Pc.z).tick=(S2,L2)) : (S2,L++L2)=S0.run (ps.take (k+1)):=by
  rw[eh hk,mc,← h,ji,hX]
def dl (ps:List Pc) : Nat:=eO (ps.map Pc.bytes)
theorem dw{ps:List Pc}{k:Nat}(hk:k<ps.length) : dl (ps.take (k+1))=dl (ps.take k)+(ps.getD k Pc.z).bytes.length:=by
  unfold dl
  rw[eh hk,List.map_append,fE]
  rfl
theorem dU{ps:List Pc}{k:Nat}(hk:k<ps.length) : (ps.getD k Pc.z).bytes.length+dl (ps.take k)≤dl ps:=by
  have h:=dw hk
  have e:ps=ps.take (k+1)++ps.drop (k+1):=(List.take_append_drop ..).symm
  have e2:dl ps=dl (ps.take (k+1))+dl (ps.drop (k+1)):=by
    conv=>lhs;rw[e]
    unfold dl
    rw[List.map_append,fE]
  omega
theorem aC.take_le{n base s g c:Nat}{w:World}{A:Option Addr}{S S2:XS}{b:List Int}{t:Bool}{L:List Ev}(h:aC n base w s g A c S)(hb:∀ x,x∈b→0≤x∧x<256)(hX:S.take b t=(S2,L)) : L.length≤b.length+2:=by
  have e:L=(S.take b t).2:=(congrArg Prod.snd hX).symm
  rw[e]
  have h:=h.2
  have hf:(S.feed b).2.length≤b.length+1:=by
    cases S with
    | r S=>exact Nat.le_trans (SS.feed_le (S:=S) (b:=b) rfl) (by omega)
    | a S=>exact Nat.le_trans (SA.feed_le h.2.2.1 hb rfl) (by omega)
    | m S=>exact Nat.le_trans (SM.feed_le h.2.2.1 hb rfl) (by omega)
  have ht:(S.feed b).1.tick.2.length≤1:=by
    cases S with
    | r S=>exact SS.tick_le (S:=(S.feed b).1) rfl
    | a S=>exact Nat.zero_le _
    | m S=>exact Nat.zero_le _
  unfold XS.take
  cases t
  · exact Nat.le_trans hf (by omega)
  · show(((S.feed b).2++(S.feed b).1.tick.2:List Ev)).length≤_
    rw[List.length_append]
    omega
open Go.RowKit
theorem OwnS.any{n base:Nat}{w:World}{v:Value}{ls:List (List Int)}(h:aO base 27 1 (mD n) w v ls) : jR false w v ls:=aI.any h.rd fun p cs ⟨v,h1,h2⟩=>⟨v,h1,h2.1⟩
theorem rj{L ps:List Pc}{k:Nat}(hL:L=ps.take k)(hk:k<ps.length) : L++[Pc.mk (ps.getD k Pc.z).bytes (ps.getD k Pc.z).tick]=ps.take (k+1):=by rw[eh hk,hL]
theorem rl{L:List (List Int)}{ps:List Pc}{k:Nat}(hL:L=(ps.take k).map Pc.bytes)(hk:k<ps.length) : L++[(ps.getD k Pc.z).bytes]=(ps.take (k+1)).map Pc.bytes:=by rw[eh hk,List.map_append,hL];rfl
theorem l5{m:Bool}{A:Option Addr}{cp:Nat}{ps:List Pc}{w:World}(h:fu m w (.slice A ps.length cp) ps)(hps:ps.length≤4398046511104)(hbb:∀ p,p∈ps→p.bytes.length≤140737488355328) : Calls Tryz.prog 25 #[.slice A ps.length cp] w (bi (.bool (ey (ps.map Pc.bytes))) w):=by
 have hz:=aI.len h
 refine en 21 Tryz.func25 rfl<|sg<|Pl 1<|ng<|Pl 1<|nt<|sq<|sg<|?_
 refine Pl 1<|nt<|bk<|?_
 refine fR (fun x=>[(0,.slice A ps.length cp),(2,.bool false),(3,.slice x.2.2.1 x.2.1.length x.2.2.2),(4,.int .i64 ((x.1:Nat) : Int))]) (fun(x:Nat × List (List Int) × Option Addr × Nat) w'=>ax [] w w'∧aO w.heap.size 27 1 (mD w.heap.size) w' (.slice x.2.2.1 x.2.1.length x.2.2.2) x.2.1∧(x.1≤ps.length)∧(x.2.1.length≤x.1)∧(x.2.1=(ps.take x.1).map Pc.bytes)) (fun x=>ps.length-x.1) (0,[],none,0) ⟨ax.refl _ _,(aO.nil w.heap.size _ _ (mD w.heap.size) _),(by(try dsimp only);omega),(by(try dsimp only);exact Nat.le_refl _),rfl⟩ ?_
 rintro⟨k,L,B,cq⟩ q ⟨a,r,s,t,u⟩
 refine ge [(0,.slice A ps.length cp),(2,.bool false),(3,.slice B L.length cq),(4,.int .i64 ((k:Nat) : Int))] ?_
 have c:aO w.heap.size 27 1 (mD w.heap.size) q (.slice B L.length cq) L:=r
 have R:k≤ps.length:=s
 have S:L.length≤k:=t
 have i:L=(ps.take k).map Pc.bytes:=u
 refine sq<|sg<|Pl 4<|nt<|cb ((decide (((k:Nat) : Int)<((ps.length:Nat) : Int)))) (fun d=>?_) (fun d=>?_)
 have y:=of_decide_eq_true d
 refine bC<|sq<|bk<|go<|Pl 3<|mB (fu.elt h k (by omega)) fun C D T U V j l E F G W H=>L0<|lZ 2 ps.length k E (by omega)<|Pl 1<|?_
 refine L0<|jx (p:=⟨C,D+k*2+0,none⟩) (v:=.slice j ((ps.getD k Pc.z).bytes.length) l) (bK (ub a F) H 0 rfl (by decide))<|L0<|fg (m:=1) (e:=27) #[.slice j ((ps.getD k Pc.z).bytes.length) l] fun X Y I J f=>?_
 have g:=aG a f
 have K:=u7 (n:=w.heap.size) (b:=(ps.getD k Pc.z).bytes) I J (⟨_,rfl,kJ.upd g (fun x hx=>by cases hx) (kJ.of (G))⟩)
 have o:=am c f (fun x hx=>av) (mD.upd f (fun x hx=>by cases hx))
 refine L0<|ta (xs:=L) (ys:=([(ps.getD k Pc.z).bytes])) (.slice none 0 0) 1 24 o (K).rd mD.ones (fun w' hv=>mD.upd hv (aq (fun x hx=>Nat.le_trans lr (eu o x hx)) au)) (by(try simp only[List.length_append,List.length_cons,List.length_nil,aR]);omega) (by(try simp only[List.length_append,List.length_cons,List.length_nil,aR]);omega) g.size fun M N Z O P a0=>Pl 1<|nl<|bn<|tn<|go<|Pl 1<|L0<|Oi (((k:Nat) : Int)+1)<|Pl 1<|nl<|?_
 exact dY ((k+1),(L++[(ps.getD k Pc.z).bytes]),M,N) ⟨(ut g P (aq (bv c lr) au)),O,(by(try dsimp only);omega),(by(try dsimp only);simp only[List.length_append,List.length_cons,List.length_nil];omega),(by(try dsimp only);exact rl i (by omega))⟩ (by omega)
 have y:=of_decide_eq_false d
 refine xt<|tx<|tx<|bx<|tn<|sg<|Pl 1<|?_
 have hs:L=ps.map Pc.bytes:=by rw[i,List.take_of_length_le (by omega)]
 have hbb2:∀ x,x∈L→x.length≤140737488355328:=by rw[hs];intro x hx;obtain⟨p,hp,rfl⟩:=List.mem_map.1 hx;exact hbb p hp
 refine L0<|Oc<|m1 (nN (OwnS.any c) hbb2) fun a1 Q=>Pl 1<|nt<|rt<|rr (.bool (ey L))<|?_
 rw[hs]
 exact⟨rfl,(aG a Q)⟩
open Go.RowKit
theorem dW{n n0 base s g c:Nat}{w:World}{A:Option Addr}{S:XS}{X:List Nat}(h:aC n0 base w s g A c S)(k:na n X w) : na n (g :: X) w:=by
  obtain⟨t,cs,fr,q,h1,_⟩:=h.2.cells
  exact dq q h1 k
theorem r4{S0 S:XS}{L:List Ev}{ps:List Pc}{k:Nat}(h:(S,L)=XS.run S0 (ps.take k))(hk:ps.length≤k) : XS.run S0 ps=(S,L):=by
  rw[List.take_of_length_le hk] at h
  exact h.symm
def tD (r:XS × List Ev)(w:World)(e:Ending)(w':World) : Prop:=∃ v,e = .returned (.tuple #[v,.int .i64 ((r.1.held.length:Nat) : Int)])∧dZ w.heap.size w' v r.2∧ax [] w w'
theorem pG{m:Bool}{A:Option Addr}{cp:Nat}{ps:List Pc}{w:World}{k0 d:Int}(hk:k0=0∨k0=1∨k0=2)(hd:d=0∨d=1)(h:fu m w (.slice A ps.length cp) ps)(hps:ps.length≤1000)(hsum:dl ps≤100000) : Calls Tryz.prog 26 #[.int .i64 k0,.int .i64 d,.slice A ps.length cp] w (tD (XS.run (XS.zero k0 d) ps) w):=by
 have hz:=aI.len h
 refine en 32 Tryz.func26 rfl<|sg<|Pl 2<|ng<|Pl 2<|L0<|Oc (args:=#[.int .i64 k0,.int .i64 d])<|uy (jq (k:=k0) (d:=d) hk hd) fun b i T ah F U G=>Pl 1<|nt<|sq<|?_
 refine sg<|Pl 2<|nt<|c0<|bC<|sg<|Pl 1<|nt<|sq<|?_
 refine sg<|Pl 3<|nt<|bk<|?_
 refine fR (fun x=>[(6,.slice none 0 0),(7,.int .i64 0),(8,.pointer (some ⟨b,0,none⟩)),(9,.slice x.2.2.2.2.2.1 x.2.2.1.length x.2.2.2.2.2.2.1),(17,.slice A ps.length cp),(18,.int .i64 ((ps.length:Nat) : Int)),(19,.int .i64 ((x.1:Nat) : Int))]) (fun(x:Nat × XS × List Ev × Option Addr × Nat × Option Addr × Nat × Nat) w'=>ax [] w w'∧T.heap.size≤w'.heap.size∧aC x.2.2.2.2.2.2.2 w.heap.size w' b i x.2.2.2.1 x.2.2.2.2.1 x.2.1∧bH x.2.2.2.2.2.2.2 w.heap.size w' (.slice x.2.2.2.2.2.1 x.2.2.1.length x.2.2.2.2.2.2.1) x.2.2.1∧(x.1≤ps.length)∧((x.2.1,x.2.2.1)=XS.run (XS.zero k0 d) (ps.take x.1))∧(x.2.2.1.length≤dl (ps.take x.1)+2*x.1)) (fun x=>ps.length-x.1) (0,(XS.zero k0 d),[],none,0,none,0,w.heap.size) ⟨G,lr,U,(aO.nil w.heap.size _ _ (aP w.heap.size) _),(by(try dsimp only);omega),rfl,(by(try dsimp only);exact Nat.zero_le _)⟩ ?_
 rintro⟨k,S,L,Ah,ch,Bq,cq,n⟩ H ⟨l,I,V,W,X,Y,Z⟩
 refine ge [(6,.slice none 0 0),(7,.int .i64 0),(8,.pointer (some ⟨b,0,none⟩)),(9,.slice Bq L.length cq),(17,.slice A ps.length cp),(18,.int .i64 ((ps.length:Nat) : Int)),(19,.int .i64 ((k:Nat) : Int))] ?_
 have a:aC n w.heap.size H b i Ah ch S:=V
 have c:bH n w.heap.size H (.slice Bq L.length cq) L:=W
 have ai:k≤ps.length:=X
 have J:(S,L)=XS.run (XS.zero k0 d) (ps.take k):=Y
 have aj:L.length≤dl (ps.take k)+2*k:=Z
 refine sg<|Pl 1<|nt<|sq<|cb ((decide (((k:Nat) : Int)<((ps.length:Nat) : Int)))) (fun o=>?_) (fun o=>?_)
 have a0:=of_decide_eq_true o
 refine bC<|sq<|bk<|sg<|mB (fu.elt h k (by omega)) fun ak al an ao ap p r a1 a2 s ar a3=>L0<|lZ 2 ps.length k a1 (by omega)<|?_
 refine L0<|tL [.slice p ((ps.getD k Pc.z).bytes.length) r,.bool ((ps.getD k Pc.z).tick)] (ub l a2) a3<|L0<|bB #[.slice none 0 0,.bool false] fun aw ay a4 a5 t=>L0<|be a5 #[.slice p ((ps.getD k Pc.z).bytes.length) r,.bool ((ps.getD k Pc.z).tick)] fun az a6 u=>nt<|go<|Pl 2<|L0<|c7 a6<|?_
 have v:=ud t u a4
 have K:=aG l v
 have M:=aN.old s K
 have hpart:=dU (ps:=ps) (k:=k) (by omega)
 have B:=aC.old a v
 refine pr (XS.take S ((ps.getD k Pc.z).bytes) ((ps.getD k Pc.z).tick)) fun a7 N C=>?_
 have aB:=aC.take_le B (aN.range M) C
 refine L0<|Oc (args:=#[.pointer (some ⟨b,0,none⟩),.agg #[.slice p ((ps.getD k Pc.z).bytes.length) r,.bool ((ps.getD k Pc.z).tick)]])<|?_
 refine(eU C B M (eN (aI.low (s)) F) (cT (aI.low (s)) (aC.row B) lr) (by omega)).mono ?_
 rintro _ aD ⟨aE,a8,a9,O,rfl,ab,f,aF,ad,j⟩
 refine⟨_,rfl,?_⟩
 have P:=ab
 obtain⟨aH,aJ,rfl,aK,aL⟩:=aI.shape P.rd
 have Q:=ut (ax.mono (S':=(i :: (ob Ah++[]))) v au) j (ac im (aq il au))
 have g:=am c Q (fun x hx=>(aa (fun e=>(aC.gx a c (by decide)) (e▸hx)) (aA ((aY c (aC.row a) (by decide)) x hx) av))) (fun x cs q=>aP.upd Q (dW a (cv (cV (Nat.le_refl _) (aC.low a)) aW)) q)
 refine L0<|eE (R:=aP O) (xs:=L) (ys:=N) (.agg #[.int .i64 0,.int .u8 0,.int .u16 0,.int .u8 0,.int .u8 0,.int .u16 0,.int .u16 0,.int .u16 0,.int .u16 0,.int .u16 0,.int .u16 0,.int .u16 0,.int .u16 0,.int .u16 0,.int .u16 0,.slice none 0 0,.slice none 0 0,.slice none 0 0,.slice none 0 0,.int .u8 0,.int .u8 0,.int .u8 0,.int .u8 0,.int .u8 0,.slice none 0 0]) 25 168 (bH.up ad (aC.nle f) g) (P).rd aP.ones (fun w' hv x cs q=>aP.upd hv (cL g (by decide) aW) q) (by(try simp only[List.length_append,List.length_cons,List.length_nil,aR]);omega) (le (le (le (le G.size I) t.size) u.size) j.size) fun ae af aM ag D aQ=>Pl 1<|nl<|bn<|tn<|go<|L0<|Oi (((k:Nat) : Int)+1)<|Pl 1<|nl<|?_
 exact dY ((k+1),a7,(L++N),a8,a9,ae,af,O) ⟨(ut K (ut (ax.mono (S':=(i :: (ob Ah++(ob Bq++[])))) j (ac im (aq il au))) D (aq il au)) (ac (nr F) (aq (bv (aC.row a) lr) (aq (bv c lr) au)))),(le (le (le (le I t.size) u.size) j.size) D.size),(aC.upd f D (aA (nu (aC.cells f) g (by decide)) av) (aA (aC.gx f g (by decide)) av) (fun x hx=>(aA ((aY (aC.row f) g (by decide)) x hx) av))),ag,(by(try dsimp only);omega),(by(try dsimp only);exact eI (by omega) J C),(by(try dsimp only);have y:=dw (ps:=ps) (k:=k) (by omega);simp only[List.length_append];omega)⟩ (by omega)
 have a0:=of_decide_eq_false o
 refine xt<|tx<|tx<|bx<|tn<|sg<|Pl 2<|L0<|Oc<|m1 (eM a) fun aS E=>Pl 2<|nt<|rt<|rr (.tuple #[.slice Bq L.length cq,.int .i64 ((S.held.length:Nat) : Int)])<|?_
 have hs:XS.run (XS.zero k0 d) ps=(S,L):=r4 J (by omega)
 rw[hs]
 exact⟨_,rfl,bH.own (am c E (fun x hx=>av) (fun x cs q=>aP.upd E aW q)),(aG l E)⟩
theorem qs{m:Bool}{v:Value}{ps:List Pc}{w:World}{k0 d:Int}(hk:k0=0∨k0=1∨k0=2)(hd:d=0∨d=1)(h:fu m w v ps)(hps:ps.length≤1000)(hsum:dl ps≤100000) : Calls Tryz.prog 26 #[.int .i64 k0,.int .i64 d,v] w (tD (XS.run (XS.zero k0 d) ps) w):=by
  obtain⟨A,cp,rfl,_,_⟩:=h.shape
  exact pG hk hd h hps hsum
open Go.RowKit
theorem jv.ones{m:Bool}{w:World}(x:cN)(cs:List Value)(h:jv m w x cs) : ∀ v,v∈cs→v.oneCell'=true:=by
  obtain⟨s,h1,h2,_⟩:=h
  have h3:=h2.one
  intro v hv
  rw[h1,gQ,Array.toList_append,List.mem_append] at hv
  rw[Array.all_eq_true'] at h3
  rcases hv with hv|hv
  · simp at hv;rcases hv with rfl | rfl<;>rfl
  · exact h3 v (by simpa using hv)
theorem uP{w0 w:World}{g:Nat}{cs:Array Value}{x:cN}(hg:w0.heap.size≤g)(hb:w.heap[g]? = some (.cells cs 33 (0,0)))(h:jv true w x cs.toList) : aO w0.heap.size 33 24 (jv true) w (.slice (some ⟨g,0,none⟩) 1 1) [x]:=by
  have hh:=h
  obtain⟨s,h1,h2⟩:=hh
  have hl:cs.toList.length=24:=by rw[h1];kernel_rfl
  clear h1
  refine⟨cs.toList,⟨hl,.inr ⟨g,1,cs,rfl,hg,hb,Nat.le_refl _,by unfold maxLen;omega,by simpa using hl,by rw[List.take_of_length_le];exact Nat.le_of_eq hl⟩⟩,fun j y hj=>?_⟩
  cases j with
  | succ j=>simp at hj
  | zero =>
    have hj:x=y:=by simpa using hj
    subst hj
    exact⟨cs.toList,hl,h,fun i u hi=>by simpa using hi⟩
def c4 (L:List Ev) : List cN:=(L.filter fun x=>x.e==0).map (·.f)
theorem mb{L:List Ev}{fs:List cN}{k:Nat}(hk:k<L.length)(h:fs=c4 (L.take k)) : (((L.getD k (Ev.bad 0)).e==0)=true→fs++[(L.getD k (Ev.bad 0)).f]=c4 (L.take (k+1)))∧(((L.getD k (Ev.bad 0)).e==0)=false→fs=c4 (L.take (k+1))):=by
  have e:c4 (L.take (k+1))=c4 (L.take k)++c4 [L.getD k (Ev.bad 0)]:=by
    unfold c4
    rw[List.take_succ_eq_append_getElem hk,List.getD_eq_getElem?_getD,List.getElem?_eq_getElem hk,List.filter_append,List.map_append]
    rfl
  rw[e,← h]
  refine⟨fun q=>?_,fun q=>?_⟩
  · unfold c4;rw[List.filter_cons,if_pos q];rfl
  · unfold c4;rw[List.filter_cons,if_neg (by rw[q];simp)];simp
theorem jG{A:Option Addr}{cp:Nat}{L:List Ev}{w:World}(h:kK true w (.slice A L.length cp) L)(hL:L.length≤200000) : Calls Tryz.prog 39 #[.slice A L.length cp] w (fun e w'=>∃ v,e = .returned v∧aO w.heap.size 33 24 (jv true) w' v (c4 L)∧ax [] w w'):=by
 have hz:=aI.len h
 refine en 22 Tryz.func39 rfl<|sg<|Pl 1<|ng<|Pl 1<|nt<|sq<|sg<|?_
 refine Pl 3<|nt<|bk<|?_
 refine fR (fun x=>[(2,.slice none 0 0),(3,.slice x.2.2.1 x.2.1.length x.2.2.2),(6,.slice A L.length cp),(7,.int .i64 ((L.length:Nat) : Int)),(8,.int .i64 ((x.1:Nat) : Int))]) (fun(x:Nat × List cN × Option Addr × Nat) w'=>ax [] w w'∧aO w.heap.size 33 24 (jv true) w' (.slice x.2.2.1 x.2.1.length x.2.2.2) x.2.1∧(x.1≤L.length)∧(x.2.1.length≤x.1)∧(x.2.1=c4 (L.take x.1))) (fun x=>L.length-x.1) (0,[],none,0) ⟨ax.refl _ _,(aO.nil w.heap.size _ _ (jv true) _),(by(try dsimp only);omega),(by(try dsimp only);exact Nat.le_refl _),rfl⟩ ?_
 rintro⟨k,fs,B,cq⟩ t ⟨g,u,y,z,C⟩
 refine ge [(2,.slice none 0 0),(3,.slice B fs.length cq),(6,.slice A L.length cp),(7,.int .i64 ((L.length:Nat) : Int)),(8,.int .i64 ((k:Nat) : Int))] ?_
 have c:aO w.heap.size 33 24 (jv true) t (.slice B fs.length cq) fs:=u
 have U:k≤L.length:=y
 have V:fs.length≤k:=z
 have i:fs=c4 (L.take k):=C
 refine sg<|Pl 1<|nt<|sq<|cb ((decide (((k:Nat) : Int)<((L.length:Nat) : Int)))) (fun j=>?_) (fun j=>?_)
 have D:=of_decide_eq_true j
 refine bC<|sq<|bk<|sg<|tN (kK.elt h k (by omega) (Ev.bad 0)) fun W X Y Z a0 a E F n G=>L0<|lZ 25 L.length k E (by omega)<|?_
 refine L0<|tL [.int .i64 ((L.getD k (Ev.bad 0)).e),.int .u8 ((L.getD k (Ev.bad 0)).f.unit),.int .u16 ((L.getD k (Ev.bad 0)).f.tid),.int .u8 ((L.getD k (Ev.bad 0)).f.msg.code),.int .u8 ((L.getD k (Ev.bad 0)).f.msg.fail),.int .u16 ((L.getD k (Ev.bad 0)).f.msg.addr),.int .u16 ((L.getD k (Ev.bad 0)).f.msg.count),.int .u16 ((L.getD k (Ev.bad 0)).f.msg.value),.int .u16 ((L.getD k (Ev.bad 0)).f.msg.and_),.int .u16 ((L.getD k (Ev.bad 0)).f.msg.or_),.int .u16 ((L.getD k (Ev.bad 0)).f.msg.addr2),.int .u16 ((L.getD k (Ev.bad 0)).f.msg.sub),.int .u16 ((L.getD k (Ev.bad 0)).f.msg.status),.int .u16 ((L.getD k (Ev.bad 0)).f.msg.events),.int .u16 ((L.getD k (Ev.bad 0)).f.msg.messages),.slice a.aw ((L.getD k (Ev.bad 0)).f.msg.words.length) a.kw,.slice a.ab ((L.getD k (Ev.bad 0)).f.msg.bits.length) a.kb,.slice a.ad ((L.getD k (Ev.bad 0)).f.msg.data.length) a.kd,.slice a.ar ((L.getD k (Ev.bad 0)).f.msg.recs.length) a.kr,.int .u8 ((L.getD k (Ev.bad 0)).f.msg.mei),.int .u8 ((L.getD k (Ev.bad 0)).f.msg.kind),.int .u8 ((L.getD k (Ev.bad 0)).f.msg.level),.int .u8 ((L.getD k (Ev.bad 0)).f.msg.more),.int .u8 ((L.getD k (Ev.bad 0)).f.msg.next),.slice a.ao ((L.getD k (Ev.bad 0)).f.msg.objects.length) a.ko] (ub g F) G<|L0<|bB #[.int .i64 0,.int .u8 0,.int .u16 0,.int .u8 0,.int .u8 0,.int .u16 0,.int .u16 0,.int .u16 0,.int .u16 0,.int .u16 0,.int .u16 0,.int .u16 0,.int .u16 0,.int .u16 0,.int .u16 0,.slice none 0 0,.slice none 0 0,.slice none 0 0,.slice none 0 0,.int .u8 0,.int .u8 0,.int .u8 0,.int .u8 0,.int .u8 0,.slice none 0 0] fun a1 a2 H I J=>L0<|be I (kM ⟨(L.getD k (Ev.bad 0)).e,(L.getD k (Ev.bad 0)).f⟩ a) fun a3 o K=>ng<|Pl 1<|L0<|aU o 0<|Pl 1<|nt<|?_
 have d:=ud J K H
 have p:=aG g d
 refine cb ((((L.getD k (Ev.bad 0)).e)==0)) (fun b=>?_) (fun b=>?_)
 have M:=aB b
 refine go<|Pl 2<|L0<|tI o 1 24<|L0<|fg (m:=1) (e:=33) (nB ((L.getD k (Ev.bad 0)).f.unit) ((L.getD k (Ev.bad 0)).f.tid) ((L.getD k (Ev.bad 0)).f.msg) a) fun a4 a5 N O q=>?_
 have l:=aG p q
 have P:=uP N O ⟨a,rfl,(aX.old (n.1) l),n.2⟩
 have r:=aG d q
 have s:=am c r (fun x hx=>av) (jv.upd r az)
 refine L0<|eE (xs:=fs) (ys:=([(L.getD k (Ev.bad 0)).f])) (.agg t1) 24 160 s (P).rd jv.ones (fun w' hv=>jv.upd hv (bW (cg _ s (by decide)) az)) (by(try simp only[List.length_append,List.length_cons,List.length_nil,aR]);omega) l.size fun Q R a6 S T a7=>Pl 1<|nl<|bn<|tn<|go<|L0<|Oi (((k:Nat) : Int)+1)<|Pl 1<|nl<|?_
 exact dY ((k+1),(fs++[(L.getD k (Ev.bad 0)).f]),Q,R) ⟨(ut l T (aq (bv c lr) au)),S,(by(try dsimp only);omega),(by(try dsimp only);(try simp only[List.length_append,List.length_cons,List.length_nil]);omega),(by(try dsimp only);exact(mb (by omega) i).1 b)⟩ (by omega)
 have M:=aH b
 refine sk<|bn<|tn<|go<|L0<|Oi (((k:Nat) : Int)+1)<|Pl 1<|nl<|?_
 exact dY ((k+1),fs,B,cq) ⟨p,(am c d (fun x hx=>av) (jv.upd d az)),(by(try dsimp only);omega),(by(try dsimp only);(try simp only[List.length_append,List.length_cons,List.length_nil]);omega),(by(try dsimp only);exact(mb (by omega) i).2 b)⟩ (by omega)
 have D:=of_decide_eq_false j
 refine xt<|tx<|tx<|bx<|tn<|sg<|Pl 2<|nt<|rt<|rr (.slice B fs.length cq)<|?_
 have hs:fs=c4 L:=by rw[i,List.take_of_length_le (by omega)]
 exact⟨_,rfl,by rw[← hs];exact c,g⟩
theorem kN{v:Value}{L:List Ev}{w:World}(h:kK true w v L)(hL:L.length≤200000) : Calls Tryz.prog 39 #[v] w (fun e w'=>∃ v,e = .returned v∧aO w.heap.size 33 24 (jv true) w' v (c4 L)∧ax [] w w'):=by
  obtain⟨A,cp,rfl,_,_⟩:=h.shape
  exact jG h hL
open Go.RowKit
theorem ga{ps:List Pc}(h:ey (ps.map Pc.bytes)=true) : ps.length≤60∧dl ps≤3000:=by
  unfold ey at h
  rw[Bool.and_eq_true,decide_eq_true_eq,decide_eq_true_eq,List.length_map] at h
  exact h
theorem iN{ps:List Pc}(m:Nat) : dl (ps.take m)≤dl ps:=by
  have e2:dl (ps.take m++ps.drop m)=dl (ps.take m)+dl (ps.drop m):=by
    unfold dl
    rw[List.map_append,fE]
  rw[List.take_append_drop] at e2
  omega
open Go.RowKit
theorem qZ{w:World}{g:Nat}{cs:Array Value}{t:TypeId}{fr:Nat × Nat}{ps:List Pc}(hb:w.heap[g]? = some (.cells cs t fr))(hl:ps.length≤maxLen)(h:∀ j,j<ps.length→∃ v,(cs.toList.drop (j*2)).take 2=[v,.bool (ps.getD j Pc.z).tick]∧aN false w v (ps.getD j Pc.z).bytes) : fu false w (.slice (some ⟨g,0,none⟩) ps.length ps.length) ps:=by
  refine⟨_,_,rfl,Nat.le_refl _,hl,(fun e=>by cases e),fun hp=>⟨g,0,cs,t,fr,rfl,hb,(fun e=>by cases e),fun j x hj=>?_⟩⟩
  have hlt:=(List.getElem?_eq_some_iff.1 hj).1
  obtain⟨v,h1,h2⟩:=h j hlt
  have hx:ps.getD j Pc.z=x:=by rw[List.getD_eq_getElem?_getD,hj];rfl
  rw[hx] at h1 h2
  refine⟨[v,.bool x.tick],rfl,⟨v,rfl,h2⟩,fun i u hi=>?_⟩
  rw[← h1] at hi
  rw[List.getElem?_take] at hi
  split at hi
  · rw[List.getElem?_drop] at hi
    rw[Nat.zero_add,← Array.getElem?_toList]
    exact hi
  · cases hi
theorem to{m m':Bool}{w:World}{g:Nat}{t:TypeId}{fr:Nat × Nat}{v v':Value}{p p':Pc}(hb:w.heap[g]? = some (.cells #[v,.bool p.tick,v',.bool p'.tick] t fr))(h:aN m w v p.bytes)(h':aN m' w v' p'.bytes) : fu false w (.slice (some ⟨g,0,none⟩) 2 2) [p,p']:=by
  refine qZ (ps:=[p,p']) hb (by unfold maxLen;simp) fun j hj=>?_
  match j,hj with
  | 0,_=>exact⟨v,rfl,aI.any h fun _ _ q=>q⟩
  | 1,_=>exact⟨v',rfl,aI.any h' fun _ _ q=>q⟩
theorem dV{m:Bool}{v:Value}{ps:List Pc}{w:World}{k0 d:Int}{S:XS}{L:List Ev}(hX:XS.run (XS.zero k0 d) ps=(S,L))(hk:k0=0∨k0=1∨k0=2)(hd:d=0∨d=1)(h:fu m w v ps)(hps:ps.length≤1000)(hsum:dl ps≤100000) : Calls Tryz.prog 26 #[.int .i64 k0,.int .i64 d,v] w (fun e w'=>∃ v,e = .returned (.tuple #[v,.int .i64 ((S.held.length:Nat) : Int)])∧dZ w.heap.size w' v L∧ax [] w w'):=by
  have k:=qs hk hd h hps hsum
  rw[hX] at k
  exact k
theorem od{m:Bool}{v:Value}{ps:List Pc}{w:World}(h:fu m w v ps)(hbb:∀ p,p∈ps→p.bytes.length≤140737488355328)(hps:ps.length≤4398046511104) : Calls Tryz.prog 25 #[v] w (bi (.bool (ey (ps.map Pc.bytes))) w):=by
  obtain⟨A,cp,rfl,_,_⟩:=h.shape
  exact l5 h hps hbb
open Go.RowKit
theorem tC:er 0 [1,7,65,226]=(⟨1,0,o4⟩,0):=by decide +kernel
theorem tp:XS.run (XS.zero 0 0) [Pc.mk [1,7] false,Pc.mk [65,226] true]=((XS.r ⟨0,[],false⟩),[⟨0,⟨1,0,o4⟩⟩]):=by
  have e1:(SS.mk 0 [] false).feed [1,7]=(SS.mk 0 [1,7] false,[]):=rfl
  have e2:(SS.mk 0 [1,7] false).feed [65,226]=(SS.mk 0 [1,7,65,226] false,[]):=rfl
  have e3:(SS.mk 0 [1,7,65,226] false).tick=(SS.mk 0 [] false,[⟨0,⟨1,0,o4⟩⟩]):=by
    unfold SS.tick
    rw[if_neg (by decide),tC]
  have h1:(XS.zero 0 0).take [1,7] false=(XS.r (SS.mk 0 [1,7] false),[]):=rfl
  have h2:(XS.r (SS.mk 0 [1,7] false)).take [65,226] true=((XS.r ⟨0,[],false⟩),[⟨0,⟨1,0,o4⟩⟩]):=by
    show(XS.r ((SS.mk 0 [1,7] false).feed [65,226]).1.tick.1,((SS.mk 0 [1,7] false).feed [65,226]).2++((SS.mk 0 [1,7] false).feed [65,226]).1.tick.2)=_
    rw[e2,e3]
    rfl
  have g1:(XS.zero 0 0).run [Pc.mk [1,7] false]=(XS.r (SS.mk 0 [1,7] false),[]):=(ji _ _).trans h1
  have g2:(XS.r (SS.mk 0 [1,7] false)).run [Pc.mk [65,226] true]=((XS.r ⟨0,[],false⟩),[⟨0,⟨1,0,o4⟩⟩]):=(ji _ _).trans h2
  rw[show[Pc.mk [1,7] false,Pc.mk [65,226] true]=[Pc.mk [1,7] false]++[Pc.mk [65,226] true] from rfl,mc,g1]
  show(((XS.r (SS.mk 0 [1,7] false)).run [Pc.mk [65,226] true]).1,[]++((XS.r (SS.mk 0 [1,7] false)).run [Pc.mk [65,226] true]).2)=_
  rw[g2]
  rfl
theorem qz{w:World}:Calls Tryz.prog 24 #[] w (bi (.bool true) w):=by
 refine en 39 Tryz.func24 rfl<|sg<|Pl 1<|ng<|L0<|fg (m:=2) (e:=5) #[.int .u8 1,.int .u8 7] fun k E l n o=>?_
 have q:=ik l (xs:=[1,7]) (by as_aux_lemma=>kernel_rfl) (aJ (by omega) (aJ (by omega) cR)) (by(try simp only[List.length_cons,List.length_nil]);omega) n
 refine Pl 1<|L0<|fg (m:=2) (e:=5) #[.int .u8 65,.int .u8 226] fun r F s t u=>?_
 have y:=ik s (xs:=[65,226]) (by as_aux_lemma=>kernel_rfl) (aJ (by omega) (aJ (by omega) cR)) (by(try simp only[List.length_cons,List.length_nil]);omega) t
 refine Pl 1<|L0<|fg (m:=2) (e:=53) #[.slice (some ⟨k,0,none⟩) 2 2,.bool false,.slice (some ⟨r,0,none⟩) 2 2,.bool true] fun z G H A a=>?_
 have b:=aG u a
 have B:=to (p:=(Pc.mk ([1,7]) false)) (p':=(Pc.mk ([65,226]) true)) A ((am q b (fun x hx=>av) (fun _ _ h=>h))).rd ((am y a (fun x hx=>av) (fun _ _ h=>h))).rd
 refine L0<|Oc (args:=#[.int .i64 0,.int .i64 0,.slice (some ⟨z,0,none⟩) 2 2])<|oB (dV tp (show 0=0∨0=1∨0=2 by decide) (show 0=0∨0=1 by decide) B (by decide) (by decide)) fun I J K c M N C=>Pl 5<|nt<|sq<|sg<|Pl 3<|nt<|c0<|bC<|sq<|?_
 refine go<|Pl 1<|tN (kK.elt (c).rd 0 (by decide) (Ev.bad 0)) fun d f O P Q R g i S j=>L0<|lZ 25 1 0 g (by omega)<|Pl 1<|L0<|jx (p:=⟨d,f+0*25+0,none⟩) (v:=.int .i64 0) (bK i j 0 (by kernel_rfl) (by decide))<|Pl 3<|L1<|lZ 25 1 0 g (by omega)<|Pl 3<|L1<|jx (p:=⟨d,f+0*25+1+2+0,none⟩) (v:=.int .u8 7) (bK i j 3 (by kernel_rfl) (by decide))<|Pl 8<|L1<|Oc<|oB (kN (L:=[⟨0,⟨1,0,o4⟩⟩]) (c).rd (by decide)) fun T U V W X Y D=>Pl 4<|nl<|?_
 refine tn<|rt<|rr (.bool true)<|?_
 exact⟨rfl,(aG o (aG b (aG C D)))⟩
open Go.RowKit
theorem l8{m m':Bool}{A B:Option Addr}{c d:Nat}{xs ys:List Int}{w:World}(h1:aN m w (.slice A xs.length c) xs)(h2:aN m' w (.slice B ys.length d) ys) :
    Calls Tryz.prog 33 #[.slice A xs.length c,.slice B ys.length d] w (bi (.bool (decide (xs=ys))) w):=by
 refine en 10 Tryz.func33 rfl<|sg<|Pl 1<|ng<|Pl 1<|L0<|fw (.string (strOfNums xs)) (bU (A:=A) (n:=xs.length) (c:=c) rfl (by kernel_rfl) Tryz.underlying27 Tryz.underlying5 Tryz.underlying9 h1)<|Pl 1<|L0<|fw (.string (strOfNums ys)) (bU (A:=B) (n:=ys.length) (c:=d) rfl (by kernel_rfl) Tryz.underlying27 Tryz.underlying5 Tryz.underlying9 h2)<|L0<|fw (.bool (decide (xs=ys))) (dN (a:=(strOfNums xs)) (b:=(strOfNums ys)) rfl (by kernel_rfl) (by kernel_rfl) (gg h1 h2))<|Pl 1<|nl<|?_
 refine tn<|rt<|rr (.bool (decide (xs=ys)))<|?_
 exact⟨rfl,(ax.refl [] _)⟩
theorem iG{m m':Bool}{a b:Value}{xs ys:List Int}{w:World}(h1:aN m w a xs)(h2:aN m' w b ys) : Calls Tryz.prog 33 #[a,b] w (bi (.bool (decide (xs=ys))) w):=by
  obtain⟨A,c,rfl,_,_⟩:=h1.shape
  obtain⟨B,d,rfl,_,_⟩:=h2.shape
  exact l8 h1 h2
open Go.RowKit
theorem ec{α:Type}{xs ys:List α}{k:Nat}(h:xs.take k=ys.take k)(h1:k=xs.length)(h2:xs.length=ys.length) : xs=ys:=by
  rw[List.take_of_length_le (by omega),List.take_of_length_le (by omega)] at h
  exact h
theorem ie{m m':Bool}{A B:Option Addr}{c d:Nat}{xs ys:List Int}{w:World}(h1:dE m w (.slice A xs.length c) xs)(h2:dE m' w (.slice B ys.length d) ys) :
    Calls Tryz.prog 42 #[.slice A xs.length c,.slice B ys.length d] w (bi (.bool (decide (xs=ys))) w):=by
 have hz1:=aI.len h1
 have hz2:=aI.len h2
 refine en 26 Tryz.func42 rfl<|sg<|Pl 1<|nt<|sq<|sg<|Pl 5<|nt<|cb ((((xs.length:Nat) : Int)!=((ys.length:Nat) : Int))) (fun g=>?_) (fun g=>?_)
 have j:=ay g
 refine sg<|Pl 1<|nt<|rt<|tr<|rr (.bool false)<|?_
 have hs:decide (xs=ys)=false:=decide_eq_false (fun e=>by rw[e] at j;omega)
 rw[hs]
 exact⟨rfl,(ax.refl [] _)⟩
 have j:=ag g
 refine bC<|sq<|sg<|Pl 1<|nt<|bk<|?_
 refine fR (fun x=>[(0,.slice A xs.length c),(1,.slice B ys.length d),(5,.int .i64 ((x:Nat) : Int))]) (fun(x:Nat) w'=>ax [] w w'∧(xs.take x=ys.take x)∧(x≤xs.length)) (fun x=>xs.length-x) 0 ⟨ax.refl _ _,(by(try dsimp only);simp),(by(try dsimp only);omega)⟩ ?_
 rintro k E ⟨b,p,q⟩
 refine ge [(0,.slice A xs.length c),(1,.slice B ys.length d),(5,.int .i64 ((k:Nat) : Int))] ?_
 have l:xs.take k=ys.take k:=p
 have F:k≤xs.length:=q
 refine sq<|sg<|Pl 4<|nt<|cb ((decide (((k:Nat) : Int)<((xs.length:Nat) : Int)))) (fun h=>?_) (fun h=>?_)
 have r:=of_decide_eq_true h
 refine bC<|sq<|bk<|sq<|?_
 refine fF (dE.at_ (dE.old h1 b) k (by omega)) fun s t u v G=>?_
 refine fF (dE.at_ (dE.old h2 b) k (by omega)) fun y z C D H=>Rg 9 (fun w'=>w'.cell? ⟨s,t+k,none⟩=some (.int .u16 (xs.getD k 0))∧w'.cell? ⟨y,z+k,none⟩=some (.int .u16 (ys.getD k 0))) fun I i=>bg ⟨(uc i v),(uc i D)⟩ fun a=>Rt 0 a<|Rt 1 a<|lz 2 a xs.length k ((k:Nat) : Int) rfl u (by omega)<|Rl 3 a (fun _ hs=>hs.1)<|Rt 4 a<|Rt 5 a<|lz 6 a ys.length k ((k:Nat) : Int) rfl C (by omega)<|Rl 7 a (fun _ hs=>hs.2)<|Rt 8 a<|re<|tn<|?_
 have n:=aG b i
 refine cb (((xs.getD k 0)!=(ys.getD k 0))) (fun f=>?_) (fun f=>?_)
 have o:=ay f
 refine sg<|Pl 1<|nt<|rt<|br<|tr<|tr<|br<|tr<|rr (.bool false)<|?_
 have hs:decide (xs=ys)=false:=decide_eq_false (tf (d:=0) k (by simpa using f))
 rw[hs]
 exact⟨rfl,n⟩
 have o:=ag f
 exact sk<|bn<|tn<|go<|Pl 1<|L0<|Oi (((k:Nat) : Int)+1)<|Pl 1<|nl<|dY (k+1) ⟨n,(pu (d:=0) (by omega) (by omega) l o),(by(try dsimp only);omega)⟩ (by omega)
 have r:=of_decide_eq_false h
 refine xt<|tx<|tx<|bx<|tn<|sg<|Pl 1<|nt<|rt<|rr (.bool true)<|?_
 have hs:decide (xs=ys)=true:=decide_eq_true (ec l (by omega) (by omega))
 rw[hs]
 exact⟨rfl,b⟩
theorem fx{m m':Bool}{a b:Value}{xs ys:List Int}{w:World}(h1:dE m w a xs)(h2:dE m' w b ys) : Calls Tryz.prog 42 #[a,b] w (bi (.bool (decide (xs=ys))) w):=by
  obtain⟨A,c,rfl,_,_⟩:=h1.shape
  obtain⟨B,d,rfl,_,_⟩:=h2.shape
  exact ie h1 h2
theorem ic{m m':Bool}{A B:Option Addr}{c d:Nat}{xs ys:List Bool}{w:World}(h1:iY m w (.slice A xs.length c) xs)(h2:iY m' w (.slice B ys.length d) ys) :
    Calls Tryz.prog 43 #[.slice A xs.length c,.slice B ys.length d] w (bi (.bool (decide (xs=ys))) w):=by
 have hz1:=aI.len h1
 have hz2:=aI.len h2
 refine en 26 Tryz.func43 rfl<|sg<|Pl 1<|nt<|sq<|sg<|Pl 5<|nt<|cb ((((xs.length:Nat) : Int)!=((ys.length:Nat) : Int))) (fun f=>?_) (fun f=>?_)
 have j:=ay f
 refine sg<|Pl 1<|nt<|rt<|tr<|rr (.bool false)<|?_
 have hs:decide (xs=ys)=false:=decide_eq_false (fun e=>by rw[e] at j;omega)
 rw[hs]
 exact⟨rfl,(ax.refl [] _)⟩
 have j:=ag f
 refine bC<|sq<|sg<|Pl 1<|nt<|bk<|?_
 refine fR (fun x=>[(0,.slice A xs.length c),(1,.slice B ys.length d),(5,.int .i64 ((x:Nat) : Int))]) (fun(x:Nat) w'=>ax [] w w'∧(xs.take x=ys.take x)∧(x≤xs.length)) (fun x=>xs.length-x) 0 ⟨ax.refl _ _,(by(try dsimp only);simp),(by(try dsimp only);omega)⟩ ?_
 rintro k D ⟨b,o,p⟩
 refine ge [(0,.slice A xs.length c),(1,.slice B ys.length d),(5,.int .i64 ((k:Nat) : Int))] ?_
 have l:xs.take k=ys.take k:=o
 have E:k≤xs.length:=p
 refine sq<|sg<|Pl 4<|nt<|cb ((decide (((k:Nat) : Int)<((xs.length:Nat) : Int)))) (fun g=>?_) (fun g=>?_)
 have q:=of_decide_eq_true g
 refine bC<|sq<|bk<|sq<|?_
 refine sT (iY.at_ (iY.old h1 b) k (by omega)) fun r s t u=>?_
 refine sT (iY.at_ (iY.old h2 b) k (by omega)) fun v y z C=>Rg 9 (fun w'=>w'.cell? ⟨r,s+k,none⟩=some (.bool (xs.getD k false))∧w'.cell? ⟨v,y+k,none⟩=some (.bool (ys.getD k false))) fun F h=>bg ⟨(uc h u),(uc h C)⟩ fun a=>Rt 0 a<|Rt 1 a<|lz 2 a xs.length k ((k:Nat) : Int) rfl t (by omega)<|Rl 3 a (fun _ hs=>hs.1)<|Rt 4 a<|Rt 5 a<|lz 6 a ys.length k ((k:Nat) : Int) rfl z (by omega)<|Rl 7 a (fun _ hs=>hs.2)<|Rt 8 a<|re<|tn<|?_
 have n:=aG b h
 refine cb (((xs.getD k false)!=(ys.getD k false))) (fun i=>?_) (fun i=>?_)
 refine sg<|Pl 1<|nt<|rt<|br<|tr<|tr<|br<|tr<|rr (.bool false)<|?_
 have hs:decide (xs=ys)=false:=decide_eq_false (tf (d:=false) k (by simpa using i))
 rw[hs]
 exact⟨rfl,n⟩
 exact sk<|bn<|tn<|go<|Pl 1<|L0<|Oi (((k:Nat) : Int)+1)<|Pl 1<|nl<|dY (k+1) ⟨n,(pu (d:=false) (by omega) (by omega) l (by simpa using i)),(by(try dsimp only);omega)⟩ (by omega)
 have q:=of_decide_eq_false g
 refine xt<|tx<|tx<|bx<|tn<|sg<|Pl 1<|nt<|rt<|rr (.bool true)<|?_
 have hs:decide (xs=ys)=true:=decide_eq_true (ec l (by omega) (by omega))
 rw[hs]
 exact⟨rfl,b⟩
theorem j5{m m':Bool}{a b:Value}{xs ys:List Bool}{w:World}(h1:iY m w a xs)(h2:iY m' w b ys) : Calls Tryz.prog 43 #[a,b] w (bi (.bool (decide (xs=ys))) w):=by
  obtain⟨A,c,rfl,_,_⟩:=h1.shape
  obtain⟨B,d,rfl,_,_⟩:=h2.shape
  exact ic h1 h2
open Go.RowKit
theorem my{α:Type}{xs ys:List α}{d:α}{k:Nat}(h:xs.take k=ys.take k)(hk:k<xs.length)(hl:xs.length=ys.length)(he:xs.getD k d=ys.getD k d) : xs.take (k+1)=ys.take (k+1):=by
  have hk2:k<ys.length:=by omega
  rw[List.take_succ_eq_append_getElem hk,List.take_succ_eq_append_getElem hk2,h]
  rw[List.getD_eq_getElem?_getD,List.getElem?_eq_getElem hk,List.getD_eq_getElem?_getD,List.getElem?_eq_getElem (by omega)] at he
  simp only[Option.getD_some] at he
  rw[he]
theorem sO{a b:dP}(h:((((!(decide (a.words=b.words)))||(a.file != b.file))||(a.record != b.record))||(a.count != b.count))=false) : a=b:=by
  cases a
  cases b
  simp at h
  simp[h]
theorem rO{a b:Obj}(h:((!(decide (a.value=b.value)))||(a.id != b.id))=false) : a=b:=by
  cases a
  cases b
  simp at h
  simp[h]
theorem q7{a b:Obj}(h:(!(decide (a.value=b.value)))=false)(h2:(a.id != b.id)=false) : a=b:=rO (by rw[h,h2];rfl)
theorem iE{A B:bh}{f:bh→bh→Bool}(h:f A B=true)(hf:∀ M,f M M=false) : decide (A=B)=false:=decide_eq_false fun e=>by rw[e,hf] at h;cases h
theorem q5{A B:bh}(h1:((((((((((((A.code != B.code)||(A.fail != B.fail))||(A.addr != B.addr))||(A.count != B.count))||(A.value != B.value))||(A.and_ != B.and_))||(A.or_ != B.or_))||(A.addr2 != B.addr2))||(A.sub != B.sub))||(A.status != B.status))||(A.events != B.events))||(A.messages != B.messages))=false)(h2:(((((A.mei != B.mei)||(A.kind != B.kind))||(A.level != B.level))||(A.more != B.more))||(A.next != B.next))=false)(h3:(((((!(decide (A.words=B.words)))||(!(decide (A.bits=B.bits))))||(!(decide (A.data=B.data))))||(((A.recs.length:Nat) : Int)!=((B.recs.length:Nat) : Int)))||(((A.objects.length:Nat) : Int)!=((B.objects.length:Nat) : Int)))=false)(hr:A.recs.length=B.recs.length→A.recs=B.recs)(ho:A.objects.length=B.objects.length→A.objects=B.objects) : A=B:=by
  cases A
  cases B
  simp only[Bool.or_eq_false_iff,bne_eq_false_iff_eq,Bool.not_eq_false',decide_eq_true_eq] at h1 h2 h3
  simp only at hr ho
  obtain⟨⟨⟨⟨⟨⟨⟨⟨⟨⟨⟨a1,a2⟩,a3⟩,a4⟩,a5⟩,a6⟩,a7⟩,a8⟩,a9⟩,a⟩,b⟩,c⟩:=h1
  obtain⟨⟨⟨⟨b1,b2⟩,b3⟩,b4⟩,b5⟩:=h2
  obtain⟨⟨⟨⟨d1,d2⟩,d3⟩,d4⟩,d5⟩:=h3
  have d4:=hr (by omega)
  have d5:=ho (by omega)
  subst a1 a2 a3 a4 a5 a6 a7 a8 a9 a b c b1 b2 b3 b4 b5 d1 d2 d3 d4 d5
  rfl
theorem nV{m m':Bool}{pc qc:Array Value}{A B:bh}{w:World}(ha:aX m w pc.toList A)(hb:aX m' w qc.toList B) :
    Calls Tryz.prog 22 #[.agg pc,.agg qc] w (bi (.bool (decide (A=B))) w):=by
 have pM:=ha
 obtain⟨pvw,pvb,pvd,pvr,pvo,ph0,phw,phb,phd,phr,pho,pR⟩:=ha
 obtain rfl:pc=(dL A pvw pvb pvd pvr pvo).toArray:=by apply Array.toList_inj.1;simpa using ph0
 clear ph0
 obtain⟨pw,pkw,rfl,_,_⟩:=phw.shape
 obtain⟨pb,pkb,rfl,_,_⟩:=phb.shape
 obtain⟨pd,pkd,rfl,_,_⟩:=phd.shape
 obtain⟨pr,pkr,rfl,_,_⟩:=phr.shape
 obtain⟨po,pko,rfl,_,_⟩:=pho.shape
 have qM:=hb
 obtain⟨qvw,qvb,qvd,qvr,qvo,qh0,qhw,qhb,qhd,qhr,qho,qR⟩:=hb
 obtain rfl:qc=(dL B qvw qvb qvd qvr qvo).toArray:=by apply Array.toList_inj.1;simpa using qh0
 clear qh0
 obtain⟨qw,qkw,rfl,_,_⟩:=qhw.shape
 obtain⟨qb,qkb,rfl,_,_⟩:=qhb.shape
 obtain⟨qd,qkd,rfl,_,_⟩:=qhd.shape
 obtain⟨qr,qkr,rfl,_,_⟩:=qhr.shape
 obtain⟨qo,qko,rfl,_,_⟩:=qho.shape
 have hz1:=aI.len phr
 have hz2:=aI.len pho
 refine en 254 Tryz.func22 rfl<|sg<|L0<|cS (mG A.code A.fail A.addr A.count A.value A.and_ A.or_ A.addr2 A.sub A.status A.events A.messages (.slice pw A.words.length pkw) (.slice pb A.bits.length pkb) (.slice pd A.data.length pkd) (.slice pr A.recs.length pkr) A.mei A.kind A.level A.more A.next (.slice po A.objects.length pko)) fun i dK dM cg ch=>L0<|cS (mG B.code B.fail B.addr B.count B.value B.and_ B.or_ B.addr2 B.sub B.status B.events B.messages (.slice qw B.words.length qkw) (.slice qb B.bits.length qkb) (.slice qd B.data.length qkd) (.slice qr B.recs.length qkr) B.mei B.kind B.level B.more B.next (.slice qo B.objects.length qko)) fun l dN dO b aA=>Pl 1<|nt<|sq<|sg<|Pl 1<|?_
 have c:=ub aA cg
 refine L0<|aU c 0<|Pl 1<|L0<|aU b 0<|Pl 2<|cu 6 [19] 25 (((A.code != B.code)||(A.fail != B.fail))) (fun K aB=>?_) ?_
 refine bl 19 ((A.code != B.code)) (fun q=>?_) (fun q=>?_)
 have ci:=ay q
 exact Pl 6<|ce aB true (by rw[q];rfl)
 have ci:=ag q
 exact Pl 1<|L1<|aU c 1<|Pl 1<|L1<|aU b 1<|Pl 2<|ce aB (A.fail != B.fail) (by rw[q];rfl)
 refine Pl 1<|cu 6 [26] 32 ((((A.code != B.code)||(A.fail != B.fail))||(A.addr != B.addr))) (fun K aC=>?_) ?_
 refine bl 26 (((A.code != B.code)||(A.fail != B.fail))) (fun r=>?_) (fun r=>?_)
 exact Pl 6<|ce aC true (by rw[r];rfl)
 have cj:=(aE r).1
 have ck:=(aE r).2
 have dP:=ag cj
 have dQ:=ag ck
 exact Pl 1<|L1<|aU c 2<|Pl 1<|L1<|aU b 2<|Pl 2<|ce aC (A.addr != B.addr) (by rw[r];rfl)
 refine Pl 1<|cu 6 [33] 39 (((((A.code != B.code)||(A.fail != B.fail))||(A.addr != B.addr))||(A.count != B.count))) (fun K aD=>?_) ?_
 refine bl 33 ((((A.code != B.code)||(A.fail != B.fail))||(A.addr != B.addr))) (fun s=>?_) (fun s=>?_)
 exact Pl 6<|ce aD true (by rw[s];rfl)
 have aF:=(aE s).1
 have cl:=(aE s).2
 have cm:=(aE aF).1
 have cn:=(aE aF).2
 have q25aap:=ag cm
 have q25abp:=ag cn
 have dR:=ag cl
 exact Pl 1<|L1<|aU c 3<|Pl 1<|L1<|aU b 3<|Pl 2<|ce aD (A.count != B.count) (by rw[s];rfl)
 refine Pl 1<|cu 6 [40] 46 ((((((A.code != B.code)||(A.fail != B.fail))||(A.addr != B.addr))||(A.count != B.count))||(A.value != B.value))) (fun K aH=>?_) ?_
 refine bl 40 (((((A.code != B.code)||(A.fail != B.fail))||(A.addr != B.addr))||(A.count != B.count))) (fun t=>?_) (fun t=>?_)
 exact Pl 6<|ce aH true (by rw[t];rfl)
 have aJ:=(aE t).1
 have co:=(aE t).2
 have aK:=(aE aJ).1
 have cp:=(aE aJ).2
 have q27aaa:=(aE aK).1
 have q27aab:=(aE aK).2
 have q27aaap:=ag q27aaa
 have q27aabp:=ag q27aab
 have q27abp:=ag cp
 have dS:=ag co
 exact Pl 1<|L1<|aU c 4<|Pl 1<|L1<|aU b 4<|Pl 2<|ce aH (A.value != B.value) (by rw[t];rfl)
 refine Pl 1<|cu 6 [47] 53 (((((((A.code != B.code)||(A.fail != B.fail))||(A.addr != B.addr))||(A.count != B.count))||(A.value != B.value))||(A.and_ != B.and_))) (fun K aL=>?_) ?_
 refine bl 47 ((((((A.code != B.code)||(A.fail != B.fail))||(A.addr != B.addr))||(A.count != B.count))||(A.value != B.value))) (fun u=>?_) (fun u=>?_)
 exact Pl 6<|ce aL true (by rw[u];rfl)
 have aM:=(aE u).1
 have cq:=(aE u).2
 have aO:=(aE aM).1
 have cr:=(aE aM).2
 have q29aaa:=(aE aO).1
 have q29aab:=(aE aO).2
 have q29aaaa:=(aE q29aaa).1
 have q29aaab:=(aE q29aaa).2
 have q29aaaap:=ag q29aaaa
 have q29aaabp:=ag q29aaab
 have q29aabp:=ag q29aab
 have q29abp:=ag cr
 have dT:=ag cq
 exact Pl 1<|L1<|aU c 5<|Pl 1<|L1<|aU b 5<|Pl 2<|ce aL (A.and_ != B.and_) (by rw[u];rfl)
 refine Pl 1<|cu 6 [54] 60 ((((((((A.code != B.code)||(A.fail != B.fail))||(A.addr != B.addr))||(A.count != B.count))||(A.value != B.value))||(A.and_ != B.and_))||(A.or_ != B.or_))) (fun K aP=>?_) ?_
 refine bl 54 (((((((A.code != B.code)||(A.fail != B.fail))||(A.addr != B.addr))||(A.count != B.count))||(A.value != B.value))||(A.and_ != B.and_))) (fun v=>?_) (fun v=>?_)
 exact Pl 6<|ce aP true (by rw[v];rfl)
 have aQ:=(aE v).1
 have cs:=(aE v).2
 have aR:=(aE aQ).1
 have ct:=(aE aQ).2
 have q31aaa:=(aE aR).1
 have q31aab:=(aE aR).2
 have q31aaaa:=(aE q31aaa).1
 have q31aaab:=(aE q31aaa).2
 have q31aaaaa:=(aE q31aaaa).1
 have q31aaaab:=(aE q31aaaa).2
 have q31aaaaap:=ag q31aaaaa
 have q31aaaabp:=ag q31aaaab
 have q31aaabp:=ag q31aaab
 have q31aabp:=ag q31aab
 have q31abp:=ag ct
 have dU:=ag cs
 exact Pl 1<|L1<|aU c 6<|Pl 1<|L1<|aU b 6<|Pl 2<|ce aP (A.or_ != B.or_) (by rw[v];rfl)
 refine Pl 1<|cu 6 [61] 67 (((((((((A.code != B.code)||(A.fail != B.fail))||(A.addr != B.addr))||(A.count != B.count))||(A.value != B.value))||(A.and_ != B.and_))||(A.or_ != B.or_))||(A.addr2 != B.addr2))) (fun K aS=>?_) ?_
 refine bl 61 ((((((((A.code != B.code)||(A.fail != B.fail))||(A.addr != B.addr))||(A.count != B.count))||(A.value != B.value))||(A.and_ != B.and_))||(A.or_ != B.or_))) (fun z=>?_) (fun z=>?_)
 exact Pl 6<|ce aS true (by rw[z];rfl)
 have aT:=(aE z).1
 have cv:=(aE z).2
 have aV:=(aE aT).1
 have cw:=(aE aT).2
 have q33aaa:=(aE aV).1
 have q33aab:=(aE aV).2
 have q33aaaa:=(aE q33aaa).1
 have q33aaab:=(aE q33aaa).2
 have q33aaaaa:=(aE q33aaaa).1
 have q33aaaab:=(aE q33aaaa).2
 have q33aaaaaa:=(aE q33aaaaa).1
 have q33aaaaab:=(aE q33aaaaa).2
 have q33aaaaaap:=ag q33aaaaaa
 have q33aaaaabp:=ag q33aaaaab
 have q33aaaabp:=ag q33aaaab
 have q33aaabp:=ag q33aaab
 have q33aabp:=ag q33aab
 have q33abp:=ag cw
 have dV:=ag cv
 exact Pl 1<|L1<|aU c 7<|Pl 1<|L1<|aU b 7<|Pl 2<|ce aS (A.addr2 != B.addr2) (by rw[z];rfl)
 refine Pl 1<|cu 6 [68] 74 ((((((((((A.code != B.code)||(A.fail != B.fail))||(A.addr != B.addr))||(A.count != B.count))||(A.value != B.value))||(A.and_ != B.and_))||(A.or_ != B.or_))||(A.addr2 != B.addr2))||(A.sub != B.sub))) (fun K aW=>?_) ?_
 refine bl 68 (((((((((A.code != B.code)||(A.fail != B.fail))||(A.addr != B.addr))||(A.count != B.count))||(A.value != B.value))||(A.and_ != B.and_))||(A.or_ != B.or_))||(A.addr2 != B.addr2))) (fun C=>?_) (fun C=>?_)
 exact Pl 6<|ce aW true (by rw[C];rfl)
 have aY:=(aE C).1
 have cx:=(aE C).2
 have aZ:=(aE aY).1
 have cy:=(aE aY).2
 have q35aaa:=(aE aZ).1
 have q35aab:=(aE aZ).2
 have q35aaaa:=(aE q35aaa).1
 have q35aaab:=(aE q35aaa).2
 have q35aaaaa:=(aE q35aaaa).1
 have q35aaaab:=(aE q35aaaa).2
 have q35aaaaaa:=(aE q35aaaaa).1
 have q35aaaaab:=(aE q35aaaaa).2
 have q35aaaaaaa:=(aE q35aaaaaa).1
 have q35aaaaaab:=(aE q35aaaaaa).2
 have q35aaaaaaap:=ag q35aaaaaaa
 have q35aaaaaabp:=ag q35aaaaaab
 have q35aaaaabp:=ag q35aaaaab
 have q35aaaabp:=ag q35aaaab
 have q35aaabp:=ag q35aaab
 have q35aabp:=ag q35aab
 have q35abp:=ag cy
 have dW:=ag cx
 exact Pl 1<|L1<|aU c 8<|Pl 1<|L1<|aU b 8<|Pl 2<|ce aW (A.sub != B.sub) (by rw[C];rfl)
 refine Pl 1<|cu 6 [75] 81 (((((((((((A.code != B.code)||(A.fail != B.fail))||(A.addr != B.addr))||(A.count != B.count))||(A.value != B.value))||(A.and_ != B.and_))||(A.or_ != B.or_))||(A.addr2 != B.addr2))||(A.sub != B.sub))||(A.status != B.status))) (fun K b0=>?_) ?_
 refine bl 75 ((((((((((A.code != B.code)||(A.fail != B.fail))||(A.addr != B.addr))||(A.count != B.count))||(A.value != B.value))||(A.and_ != B.and_))||(A.or_ != B.or_))||(A.addr2 != B.addr2))||(A.sub != B.sub))) (fun D=>?_) (fun D=>?_)
 exact Pl 6<|ce b0 true (by rw[D];rfl)
 have b1:=(aE D).1
 have cz:=(aE D).2
 have b2:=(aE b1).1
 have cA:=(aE b1).2
 have q37aaa:=(aE b2).1
 have q37aab:=(aE b2).2
 have q37aaaa:=(aE q37aaa).1
 have q37aaab:=(aE q37aaa).2
 have q37aaaaa:=(aE q37aaaa).1
 have q37aaaab:=(aE q37aaaa).2
 have q37aaaaaa:=(aE q37aaaaa).1
 have q37aaaaab:=(aE q37aaaaa).2
 have q37aaaaaaa:=(aE q37aaaaaa).1
 have q37aaaaaab:=(aE q37aaaaaa).2
 have q37aaaaaaaa:=(aE q37aaaaaaa).1
 have q37aaaaaaab:=(aE q37aaaaaaa).2
 have q37aaaaaaaap:=ag q37aaaaaaaa
 have q37aaaaaaabp:=ag q37aaaaaaab
 have q37aaaaaabp:=ag q37aaaaaab
 have q37aaaaabp:=ag q37aaaaab
 have q37aaaabp:=ag q37aaaab
 have q37aaabp:=ag q37aaab
 have q37aabp:=ag q37aab
 have q37abp:=ag cA
 have dX:=ag cz
 exact Pl 1<|L1<|aU c 9<|Pl 1<|L1<|aU b 9<|Pl 2<|ce b0 (A.status != B.status) (by rw[D];rfl)
 refine Pl 1<|cu 6 [82] 88 ((((((((((((A.code != B.code)||(A.fail != B.fail))||(A.addr != B.addr))||(A.count != B.count))||(A.value != B.value))||(A.and_ != B.and_))||(A.or_ != B.or_))||(A.addr2 != B.addr2))||(A.sub != B.sub))||(A.status != B.status))||(A.events != B.events))) (fun K b3=>?_) ?_
 refine bl 82 (((((((((((A.code != B.code)||(A.fail != B.fail))||(A.addr != B.addr))||(A.count != B.count))||(A.value != B.value))||(A.and_ != B.and_))||(A.or_ != B.or_))||(A.addr2 != B.addr2))||(A.sub != B.sub))||(A.status != B.status))) (fun E=>?_) (fun E=>?_)
 exact Pl 6<|ce b3 true (by rw[E];rfl)
 have b4:=(aE E).1
 have cB:=(aE E).2
 have b5:=(aE b4).1
 have cC:=(aE b4).2
 have q39aaa:=(aE b5).1
 have q39aab:=(aE b5).2
 have q39aaaa:=(aE q39aaa).1
 have q39aaab:=(aE q39aaa).2
 have q39aaaaa:=(aE q39aaaa).1
 have q39aaaab:=(aE q39aaaa).2
 have q39aaaaaa:=(aE q39aaaaa).1
 have q39aaaaab:=(aE q39aaaaa).2
 have q39aaaaaaa:=(aE q39aaaaaa).1
 have q39aaaaaab:=(aE q39aaaaaa).2
 have q39aaaaaaaa:=(aE q39aaaaaaa).1
 have q39aaaaaaab:=(aE q39aaaaaaa).2
 have q39aaaaaaaaa:=(aE q39aaaaaaaa).1
 have q39aaaaaaaab:=(aE q39aaaaaaaa).2
 have q39aaaaaaaaap:=ag q39aaaaaaaaa
 have q39aaaaaaaabp:=ag q39aaaaaaaab
 have q39aaaaaaabp:=ag q39aaaaaaab
 have q39aaaaaabp:=ag q39aaaaaab
 have q39aaaaabp:=ag q39aaaaab
 have q39aaaabp:=ag q39aaaab
 have q39aaabp:=ag q39aaab
 have q39aabp:=ag q39aab
 have q39abp:=ag cC
 have dZ:=ag cB
 exact Pl 1<|L1<|aU c 10<|Pl 1<|L1<|aU b 10<|Pl 2<|ce b3 (A.events != B.events) (by rw[E];rfl)
 refine Pl 1<|cu 6 [89] 95 (((((((((((((A.code != B.code)||(A.fail != B.fail))||(A.addr != B.addr))||(A.count != B.count))||(A.value != B.value))||(A.and_ != B.and_))||(A.or_ != B.or_))||(A.addr2 != B.addr2))||(A.sub != B.sub))||(A.status != B.status))||(A.events != B.events))||(A.messages != B.messages))) (fun K b6=>?_) ?_
 refine bl 89 ((((((((((((A.code != B.code)||(A.fail != B.fail))||(A.addr != B.addr))||(A.count != B.count))||(A.value != B.value))||(A.and_ != B.and_))||(A.or_ != B.or_))||(A.addr2 != B.addr2))||(A.sub != B.sub))||(A.status != B.status))||(A.events != B.events))) (fun F=>?_) (fun F=>?_)
 exact Pl 6<|ce b6 true (by rw[F];rfl)
 have b7:=(aE F).1
 have cD:=(aE F).2
 have b8:=(aE b7).1
 have cE:=(aE b7).2
 have q41aaa:=(aE b8).1
 have q41aab:=(aE b8).2
 have q41aaaa:=(aE q41aaa).1
 have q41aaab:=(aE q41aaa).2
 have q41aaaaa:=(aE q41aaaa).1
 have q41aaaab:=(aE q41aaaa).2
 have q41aaaaaa:=(aE q41aaaaa).1
 have q41aaaaab:=(aE q41aaaaa).2
 have q41aaaaaaa:=(aE q41aaaaaa).1
 have q41aaaaaab:=(aE q41aaaaaa).2
 have q41aaaaaaaa:=(aE q41aaaaaaa).1
 have q41aaaaaaab:=(aE q41aaaaaaa).2
 have q41aaaaaaaaa:=(aE q41aaaaaaaa).1
 have q41aaaaaaaab:=(aE q41aaaaaaaa).2
 have q41aaaaaaaaaa:=(aE q41aaaaaaaaa).1
 have q41aaaaaaaaab:=(aE q41aaaaaaaaa).2
 have q41aaaaaaaaaap:=ag q41aaaaaaaaaa
 have q41aaaaaaaaabp:=ag q41aaaaaaaaab
 have q41aaaaaaaabp:=ag q41aaaaaaaab
 have q41aaaaaaabp:=ag q41aaaaaaab
 have q41aaaaaabp:=ag q41aaaaaab
 have q41aaaaabp:=ag q41aaaaab
 have q41aaaabp:=ag q41aaaab
 have q41aaabp:=ag q41aaab
 have q41aabp:=ag q41aab
 have q41abp:=ag cE
 have e0:=ag cD
 exact Pl 1<|L1<|aU c 11<|Pl 1<|L1<|aU b 11<|Pl 2<|ce b6 (A.messages != B.messages) (by rw[F];rfl)
 refine nt<|?_
 have G:=aG ch aA
 refine cb (((((((((((((A.code != B.code)||(A.fail != B.fail))||(A.addr != B.addr))||(A.count != B.count))||(A.value != B.value))||(A.and_ != B.and_))||(A.or_ != B.or_))||(A.addr2 != B.addr2))||(A.sub != B.sub))||(A.status != B.status))||(A.events != B.events))||(A.messages != B.messages))) (fun H=>?_) (fun H=>?_)
 refine sg<|Pl 1<|nt<|rt<|tr<|rr (.bool false)<|?_
 have hs:decide (A=B)=false:=iE (f:=fun x y=>((((((((((((x.code != y.code)||(x.fail != y.fail))||(x.addr != y.addr))||(x.count != y.count))||(x.value != y.value))||(x.and_ != y.and_))||(x.or_ != y.or_))||(x.addr2 != y.addr2))||(x.sub != y.sub))||(x.status != y.status))||(x.events != y.events))||(x.messages != y.messages))) H (fun M=>by simp)
 rw[hs]
 exact⟨rfl,G⟩
 have b9:=(aE H).1
 have cF:=(aE H).2
 have ba:=(aE b9).1
 have cG:=(aE b9).2
 have q44aaa:=(aE ba).1
 have q44aab:=(aE ba).2
 have q44aaaa:=(aE q44aaa).1
 have q44aaab:=(aE q44aaa).2
 have q44aaaaa:=(aE q44aaaa).1
 have q44aaaab:=(aE q44aaaa).2
 have q44aaaaaa:=(aE q44aaaaa).1
 have q44aaaaab:=(aE q44aaaaa).2
 have q44aaaaaaa:=(aE q44aaaaaa).1
 have q44aaaaaab:=(aE q44aaaaaa).2
 have q44aaaaaaaa:=(aE q44aaaaaaa).1
 have q44aaaaaaab:=(aE q44aaaaaaa).2
 have q44aaaaaaaaa:=(aE q44aaaaaaaa).1
 have q44aaaaaaaab:=(aE q44aaaaaaaa).2
 have q44aaaaaaaaaa:=(aE q44aaaaaaaaa).1
 have q44aaaaaaaaab:=(aE q44aaaaaaaaa).2
 have q44aaaaaaaaaaa:=(aE q44aaaaaaaaaa).1
 have q44aaaaaaaaaab:=(aE q44aaaaaaaaaa).2
 have q44aaaaaaaaaaap:=ag q44aaaaaaaaaaa
 have q44aaaaaaaaaabp:=ag q44aaaaaaaaaab
 have q44aaaaaaaaabp:=ag q44aaaaaaaaab
 have q44aaaaaaaabp:=ag q44aaaaaaaab
 have q44aaaaaaabp:=ag q44aaaaaaab
 have q44aaaaaabp:=ag q44aaaaaab
 have q44aaaaabp:=ag q44aaaaab
 have q44aaaabp:=ag q44aaaab
 have q44aaabp:=ag q44aaab
 have q44aabp:=ag q44aab
 have q44abp:=ag cG
 have e1:=ag cF
 refine bC<|sq<|sg<|Pl 1<|L0<|aU c 16<|Pl 1<|L0<|aU b 16<|Pl 2<|cu 6 [101] 107 (((A.mei != B.mei)||(A.kind != B.kind))) (fun K bb=>?_) ?_
 refine bl 101 ((A.mei != B.mei)) (fun I=>?_) (fun I=>?_)
 have cH:=ay I
 exact Pl 6<|ce bb true (by rw[I];rfl)
 have cH:=ag I
 exact Pl 1<|L1<|aU c 17<|Pl 1<|L1<|aU b 17<|Pl 2<|ce bb (A.kind != B.kind) (by rw[I];rfl)
 refine Pl 1<|cu 6 [108] 114 ((((A.mei != B.mei)||(A.kind != B.kind))||(A.level != B.level))) (fun K bc=>?_) ?_
 refine bl 108 (((A.mei != B.mei)||(A.kind != B.kind))) (fun J=>?_) (fun J=>?_)
 exact Pl 6<|ce bc true (by rw[J];rfl)
 have cI:=(aE J).1
 have cJ:=(aE J).2
 have e2:=ag cI
 have e3:=ag cJ
 exact Pl 1<|L1<|aU c 18<|Pl 1<|L1<|aU b 18<|Pl 2<|ce bc (A.level != B.level) (by rw[J];rfl)
 refine Pl 1<|cu 6 [115] 121 (((((A.mei != B.mei)||(A.kind != B.kind))||(A.level != B.level))||(A.more != B.more))) (fun K bd=>?_) ?_
 refine bl 115 ((((A.mei != B.mei)||(A.kind != B.kind))||(A.level != B.level))) (fun L=>?_) (fun L=>?_)
 exact Pl 6<|ce bd true (by rw[L];rfl)
 have bf:=(aE L).1
 have cK:=(aE L).2
 have cL:=(aE bf).1
 have cM:=(aE bf).2
 have q49aap:=ag cL
 have q49abp:=ag cM
 have e4:=ag cK
 exact Pl 1<|L1<|aU c 19<|Pl 1<|L1<|aU b 19<|Pl 2<|ce bd (A.more != B.more) (by rw[L];rfl)
 refine Pl 1<|cu 6 [122] 128 ((((((A.mei != B.mei)||(A.kind != B.kind))||(A.level != B.level))||(A.more != B.more))||(A.next != B.next))) (fun K bj=>?_) ?_
 refine bl 122 (((((A.mei != B.mei)||(A.kind != B.kind))||(A.level != B.level))||(A.more != B.more))) (fun N=>?_) (fun N=>?_)
 exact Pl 6<|ce bj true (by rw[N];rfl)
 have bm:=(aE N).1
 have cN:=(aE N).2
 have bo:=(aE bm).1
 have cO:=(aE bm).2
 have q51aaa:=(aE bo).1
 have q51aab:=(aE bo).2
 have q51aaap:=ag q51aaa
 have q51aabp:=ag q51aab
 have q51abp:=ag cO
 have e5:=ag cN
 exact Pl 1<|L1<|aU c 20<|Pl 1<|L1<|aU b 20<|Pl 2<|ce bj (A.next != B.next) (by rw[N];rfl)
 refine nt<|cb ((((((A.mei != B.mei)||(A.kind != B.kind))||(A.level != B.level))||(A.more != B.more))||(A.next != B.next))) (fun O=>?_) (fun O=>?_)
 refine sg<|Pl 1<|nt<|rt<|tr<|rr (.bool false)<|?_
 have hs:decide (A=B)=false:=iE (f:=fun x y=>(((((x.mei != y.mei)||(x.kind != y.kind))||(x.level != y.level))||(x.more != y.more))||(x.next != y.next))) O (fun M=>by simp)
 rw[hs]
 exact⟨rfl,G⟩
 have bp:=(aE O).1
 have cP:=(aE O).2
 have bq:=(aE bp).1
 have cQ:=(aE bp).2
 have q53aaa:=(aE bq).1
 have q53aab:=(aE bq).2
 have q53aaaa:=(aE q53aaa).1
 have q53aaab:=(aE q53aaa).2
 have q53aaaap:=ag q53aaaa
 have q53aaabp:=ag q53aaab
 have q53aabp:=ag q53aab
 have q53abp:=ag cQ
 have e6:=ag cP
 refine bC<|sg<|Pl 1<|L0<|aU c 12<|Pl 1<|L0<|aU b 12<|?_
 refine L0<|Oc<|m1 (fx (dE.old phw G) (dE.old qhw G)) fun e7 aa=>Pl 1<|ng<|Pl 1<|?_
 have bs:=ub aa c
 refine L0<|aU bs 13<|Pl 1<|?_
 have bt:=ub aa b
 refine L0<|aU bt 13<|?_
 have ab:=aG G aa
 refine L0<|Oc<|m1 (j5 (iY.old phb ab) (iY.old qhb ab)) fun e8 ac=>Pl 1<|ng<|Pl 1<|?_
 have a2:=ub ac bs
 refine L0<|aU a2 14<|Pl 1<|?_
 have P:=ub ac bt
 refine L0<|aU P 14<|?_
 have ad:=aG ab ac
 refine L0<|Oc<|m1 (iG (aN.old phd ad) (aN.old qhd ad)) fun cR n=>Pl 1<|nt<|sq<|sg<|Pl 3<|cu 3 [146] 149 (((!(decide (A.words=B.words)))||(!(decide (A.bits=B.bits))))) (fun K bu=>?_) ?_
 refine bl 146 ((!(decide (A.words=B.words)))) (fun Q=>?_) (fun Q=>?_)
 have ae:(decide (A.words=B.words))=false:=by simpa using Q
 have cT:=of_decide_eq_false ae
 exact Pl 3<|ce bu true (by rw[Q];rfl)
 have ae:(decide (A.words=B.words))=true:=by simpa using Q
 have cT:=of_decide_eq_true ae
 exact Pl 3<|ce bu (!(decide (A.bits=B.bits))) (by rw[Q];rfl)
 refine Pl 1<|cu 3 [150] 153 ((((!(decide (A.words=B.words)))||(!(decide (A.bits=B.bits))))||(!(decide (A.data=B.data))))) (fun K bv=>?_) ?_
 refine bl 150 (((!(decide (A.words=B.words)))||(!(decide (A.bits=B.bits))))) (fun R=>?_) (fun R=>?_)
 exact Pl 3<|ce bv true (by rw[R];rfl)
 have cU:=(aE R).1
 have cV:=(aE R).2
 have cW:(decide (A.words=B.words))=true:=by simpa using cU
 have q74anp:=of_decide_eq_true cW
 have cX:(decide (A.bits=B.bits))=true:=by simpa using cV
 have q74bnp:=of_decide_eq_true cX
 exact Pl 3<|ce bv (!(decide (A.data=B.data))) (by rw[R];rfl)
 refine Pl 1<|cu 8 [154] 162 (((((!(decide (A.words=B.words)))||(!(decide (A.bits=B.bits))))||(!(decide (A.data=B.data))))||(((A.recs.length:Nat) : Int)!=((B.recs.length:Nat) : Int)))) (fun K bw=>?_) ?_
 refine bl 154 ((((!(decide (A.words=B.words)))||(!(decide (A.bits=B.bits))))||(!(decide (A.data=B.data))))) (fun S=>?_) (fun S=>?_)
 exact Pl 8<|ce bw true (by rw[S];rfl)
 have bz:=(aE S).1
 have cY:=(aE S).2
 have cZ:=(aE bz).1
 have d0:=(aE bz).2
 have q76aan:(decide (A.words=B.words))=true:=by simpa using cZ
 have q76aanp:=of_decide_eq_true q76aan
 have q76abn:(decide (A.bits=B.bits))=true:=by simpa using d0
 have q76abnp:=of_decide_eq_true q76abn
 have d1:(decide (A.data=B.data))=true:=by simpa using cY
 have q76bnp:=of_decide_eq_true d1
 refine Pl 1<|?_
 refine L1<|aU (ub n a2) 15<|Pl 2<|?_
 exact L1<|aU (ub n P) 15<|Pl 3<|ce bw (((A.recs.length:Nat) : Int)!=((B.recs.length:Nat) : Int)) (by rw[S];rfl)
 refine Pl 1<|cu 8 [163] 171 ((((((!(decide (A.words=B.words)))||(!(decide (A.bits=B.bits))))||(!(decide (A.data=B.data))))||(((A.recs.length:Nat) : Int)!=((B.recs.length:Nat) : Int)))||(((A.objects.length:Nat) : Int)!=((B.objects.length:Nat) : Int)))) (fun K bA=>?_) ?_
 refine bl 163 (((((!(decide (A.words=B.words)))||(!(decide (A.bits=B.bits))))||(!(decide (A.data=B.data))))||(((A.recs.length:Nat) : Int)!=((B.recs.length:Nat) : Int)))) (fun T=>?_) (fun T=>?_)
 exact Pl 8<|ce bA true (by rw[T];rfl)
 have bD:=(aE T).1
 have d2:=(aE T).2
 have bE:=(aE bD).1
 have d3:=(aE bD).2
 have q80aaa:=(aE bE).1
 have q80aab:=(aE bE).2
 have q80aaan:(decide (A.words=B.words))=true:=by simpa using q80aaa
 have q80aaanp:=of_decide_eq_true q80aaan
 have q80aabn:(decide (A.bits=B.bits))=true:=by simpa using q80aab
 have q80aabnp:=of_decide_eq_true q80aabn
 have q80abn:(decide (A.data=B.data))=true:=by simpa using d3
 have q80abnp:=of_decide_eq_true q80abn
 have e9:=ag d2
 refine Pl 1<|?_
 refine L1<|aU (ub n a2) 21<|Pl 2<|?_
 exact L1<|aU (ub n P) 21<|Pl 3<|ce bA (((A.objects.length:Nat) : Int)!=((B.objects.length:Nat) : Int)) (by rw[T];rfl)
 refine nt<|?_
 have bF:=aG ad n
 refine cb ((((((!(decide (A.words=B.words)))||(!(decide (A.bits=B.bits))))||(!(decide (A.data=B.data))))||(((A.recs.length:Nat) : Int)!=((B.recs.length:Nat) : Int)))||(((A.objects.length:Nat) : Int)!=((B.objects.length:Nat) : Int)))) (fun U=>?_) (fun U=>?_)
 refine sg<|Pl 1<|nt<|rt<|tr<|rr (.bool false)<|?_
 have hs:decide (A=B)=false:=iE (f:=fun x y=>(((((!(decide (x.words=y.words)))||(!(decide (x.bits=y.bits))))||(!(decide (x.data=y.data))))||(((x.recs.length:Nat) : Int)!=((y.recs.length:Nat) : Int)))||(((x.objects.length:Nat) : Int)!=((y.objects.length:Nat) : Int)))) U (fun M=>by simp)
 rw[hs]
 exact⟨rfl,bF⟩
 have bG:=(aE U).1
 have d4:=(aE U).2
 have bH:=(aE bG).1
 have d5:=(aE bG).2
 have q85aaa:=(aE bH).1
 have q85aab:=(aE bH).2
 have q85aaaa:=(aE q85aaa).1
 have q85aaab:=(aE q85aaa).2
 have q85aaaan:(decide (A.words=B.words))=true:=by simpa using q85aaaa
 have q85aaaanp:=of_decide_eq_true q85aaaan
 have q85aaabn:(decide (A.bits=B.bits))=true:=by simpa using q85aaab
 have q85aaabnp:=of_decide_eq_true q85aaabn
 have q85aabn:(decide (A.data=B.data))=true:=by simpa using q85aab
 have q85aabnp:=of_decide_eq_true q85aabn
 have q85abp:=ag d5
 have ea:=ag d4
 refine bC<|sq<|sg<|Pl 1<|nt<|bk<|?_
 refine fR (fun x=>[(2,.pointer (some ⟨i,0,none⟩)),(3,.pointer (some ⟨l,0,none⟩)),(8,.int .i64 ((x:Nat) : Int))]) (fun(x:Nat) w'=>ax [] cR w'∧(A.recs.take x=B.recs.take x)∧(x≤A.recs.length)) (fun x=>A.recs.length-x) 0 ⟨ax.refl _ _,(by(try dsimp only);simp),(by(try dsimp only);omega)⟩ ?_
 rintro j d6 ⟨a3,d7,d8⟩
 refine ge [(2,.pointer (some ⟨i,0,none⟩)),(3,.pointer (some ⟨l,0,none⟩)),(8,.int .i64 ((j:Nat) : Int))] ?_
 have bI:A.recs.take j=B.recs.take j:=d7
 have eb:j≤A.recs.length:=d8
 refine sq<|sg<|Pl 2<|?_
 have a4:=aG n a3
 have af:=ub a4 a2
 refine L0<|aU af 15<|Pl 2<|nt<|?_
 have a5:=aG bF a3
 refine cb ((decide (((j:Nat) : Int)<((A.recs.length:Nat) : Int)))) (fun ah=>?_) (fun ah=>?_)
 have d9:=of_decide_eq_true ah
 refine bC<|sq<|bk<|sg<|Pl 1<|L0<|aU af 15<|Pl 1<|mB (oo.elt phr j (by omega)) fun ed ee ef eg eh bJ bL da db dc ei dd=>L0<|lZ 4 A.recs.length j da (by omega)<|?_
 refine L0<|tL [.int .u16 ((A.recs.getD j ⟨0,0,0,[]⟩).file),.int .u16 ((A.recs.getD j ⟨0,0,0,[]⟩).record),.int .u16 ((A.recs.getD j ⟨0,0,0,[]⟩).count),.slice bJ ((A.recs.getD j ⟨0,0,0,[]⟩).words.length) bL] (ub a5 db) dd<|L0<|bB #[.int .u16 0,.int .u16 0,.int .u16 0,.slice none 0 0] fun ej ek ai de ak=>L0<|be de #[.int .u16 ((A.recs.getD j ⟨0,0,0,[]⟩).file),.int .u16 ((A.recs.getD j ⟨0,0,0,[]⟩).record),.int .u16 ((A.recs.getD j ⟨0,0,0,[]⟩).count),.slice bJ ((A.recs.getD j ⟨0,0,0,[]⟩).words.length) bL] fun el df al=>ng<|Pl 1<|?_
 refine L0<|aU (ub (u1 (aG a4 ak) al (ni a4.size ai)) P) 15<|Pl 1<|mB (oo.elt qhr j (by omega)) fun em eo ep eq er bM bN dg dh di es dj=>L0<|lZ 4 B.recs.length j dg (by omega)<|?_
 have am:=u1 (aG a5 ak) al (ni a5.size ai)
 refine L0<|tL [.int .u16 ((B.recs.getD j ⟨0,0,0,[]⟩).file),.int .u16 ((B.recs.getD j ⟨0,0,0,[]⟩).record),.int .u16 ((B.recs.getD j ⟨0,0,0,[]⟩).count),.slice bM ((B.recs.getD j ⟨0,0,0,[]⟩).words.length) bN] (ub am dh) dj<|L0<|bB #[.int .u16 0,.int .u16 0,.int .u16 0,.slice none 0 0] fun et eu an dk ao=>L0<|be dk #[.int .u16 ((B.recs.getD j ⟨0,0,0,[]⟩).file),.int .u16 ((B.recs.getD j ⟨0,0,0,[]⟩).record),.int .u16 ((B.recs.getD j ⟨0,0,0,[]⟩).count),.slice bM ((B.recs.getD j ⟨0,0,0,[]⟩).words.length) bN] fun ev a6 ap=>ng<|Pl 1<|?_
 have a7:=ub (u1 ao ap (nr an)) df
 refine L0<|aU a7 3<|Pl 1<|L0<|aU a6 3<|?_
 have aq:=u1 (aG am ao) ap (ni am.size an)
 refine L0<|Oc<|m1 (fx (dE.old dc aq) (dE.old di aq)) fun ew h=>Pl 1<|ng<|Pl 3<|cu 6 [196] 202 (((!(decide ((A.recs.getD j ⟨0,0,0,[]⟩).words=(B.recs.getD j ⟨0,0,0,[]⟩).words)))||(((A.recs.getD j ⟨0,0,0,[]⟩).file)!=((B.recs.getD j ⟨0,0,0,[]⟩).file)))) (fun K bO=>?_) ?_
 refine bl 196 ((!(decide ((A.recs.getD j ⟨0,0,0,[]⟩).words=(B.recs.getD j ⟨0,0,0,[]⟩).words)))) (fun V=>?_) (fun V=>?_)
 have ar:(decide ((A.recs.getD j ⟨0,0,0,[]⟩).words=(B.recs.getD j ⟨0,0,0,[]⟩).words))=false:=by simpa using V
 have dl:=of_decide_eq_false ar
 exact Pl 6<|ce bO true (by rw[V];rfl)
 have ar:(decide ((A.recs.getD j ⟨0,0,0,[]⟩).words=(B.recs.getD j ⟨0,0,0,[]⟩).words))=true:=by simpa using V
 have dl:=of_decide_eq_true ar
 refine Pl 1<|?_
 refine L1<|aU (ub h a7) 0<|Pl 1<|?_
 exact L1<|aU (ub h a6) 0<|Pl 2<|ce bO (((A.recs.getD j ⟨0,0,0,[]⟩).file)!=((B.recs.getD j ⟨0,0,0,[]⟩).file)) (by rw[V];rfl)
 refine Pl 1<|cu 6 [203] 209 ((((!(decide ((A.recs.getD j ⟨0,0,0,[]⟩).words=(B.recs.getD j ⟨0,0,0,[]⟩).words)))||(((A.recs.getD j ⟨0,0,0,[]⟩).file)!=((B.recs.getD j ⟨0,0,0,[]⟩).file)))||(((A.recs.getD j ⟨0,0,0,[]⟩).record)!=((B.recs.getD j ⟨0,0,0,[]⟩).record)))) (fun K bP=>?_) ?_
 refine bl 203 (((!(decide ((A.recs.getD j ⟨0,0,0,[]⟩).words=(B.recs.getD j ⟨0,0,0,[]⟩).words)))||(((A.recs.getD j ⟨0,0,0,[]⟩).file)!=((B.recs.getD j ⟨0,0,0,[]⟩).file)))) (fun W=>?_) (fun W=>?_)
 exact Pl 6<|ce bP true (by rw[W];rfl)
 have dm:=(aE W).1
 have dn:=(aE W).2
 have dp:(decide ((A.recs.getD j ⟨0,0,0,[]⟩).words=(B.recs.getD j ⟨0,0,0,[]⟩).words))=true:=by simpa using dm
 have q156anp:=of_decide_eq_true dp
 have ex:=ag dn
 refine Pl 1<|?_
 refine L1<|aU (ub h a7) 1<|Pl 1<|?_
 exact L1<|aU (ub h a6) 1<|Pl 2<|ce bP (((A.recs.getD j ⟨0,0,0,[]⟩).record)!=((B.recs.getD j ⟨0,0,0,[]⟩).record)) (by rw[W];rfl)
 refine Pl 1<|cu 6 [210] 216 (((((!(decide ((A.recs.getD j ⟨0,0,0,[]⟩).words=(B.recs.getD j ⟨0,0,0,[]⟩).words)))||(((A.recs.getD j ⟨0,0,0,[]⟩).file)!=((B.recs.getD j ⟨0,0,0,[]⟩).file)))||(((A.recs.getD j ⟨0,0,0,[]⟩).record)!=((B.recs.getD j ⟨0,0,0,[]⟩).record)))||(((A.recs.getD j ⟨0,0,0,[]⟩).count)!=((B.recs.getD j ⟨0,0,0,[]⟩).count)))) (fun K bQ=>?_) ?_
 refine bl 210 ((((!(decide ((A.recs.getD j ⟨0,0,0,[]⟩).words=(B.recs.getD j ⟨0,0,0,[]⟩).words)))||(((A.recs.getD j ⟨0,0,0,[]⟩).file)!=((B.recs.getD j ⟨0,0,0,[]⟩).file)))||(((A.recs.getD j ⟨0,0,0,[]⟩).record)!=((B.recs.getD j ⟨0,0,0,[]⟩).record)))) (fun X=>?_) (fun X=>?_)
 exact Pl 6<|ce bQ true (by rw[X];rfl)
 have bR:=(aE X).1
 have dq:=(aE X).2
 have dr:=(aE bR).1
 have ds:=(aE bR).2
 have q160aan:(decide ((A.recs.getD j ⟨0,0,0,[]⟩).words=(B.recs.getD j ⟨0,0,0,[]⟩).words))=true:=by simpa using dr
 have q160aanp:=of_decide_eq_true q160aan
 have q160abp:=ag ds
 have ey:=ag dq
 refine Pl 1<|?_
 refine L1<|aU (ub h a7) 2<|Pl 1<|?_
 exact L1<|aU (ub h a6) 2<|Pl 2<|ce bQ (((A.recs.getD j ⟨0,0,0,[]⟩).count)!=((B.recs.getD j ⟨0,0,0,[]⟩).count)) (by rw[X];rfl)
 refine nt<|?_
 refine cb (((((!(decide ((A.recs.getD j ⟨0,0,0,[]⟩).words=(B.recs.getD j ⟨0,0,0,[]⟩).words)))||(((A.recs.getD j ⟨0,0,0,[]⟩).file)!=((B.recs.getD j ⟨0,0,0,[]⟩).file)))||(((A.recs.getD j ⟨0,0,0,[]⟩).record)!=((B.recs.getD j ⟨0,0,0,[]⟩).record)))||(((A.recs.getD j ⟨0,0,0,[]⟩).count)!=((B.recs.getD j ⟨0,0,0,[]⟩).count)))) (fun Y=>?_) (fun Y=>?_)
 refine sg<|Pl 1<|nt<|rt<|br<|tr<|tr<|br<|tr<|rr (.bool false)<|?_
 have hs:decide (A=B)=false:=iE (f:=fun x y=>((((!(decide ((x.recs.getD j ⟨0,0,0,[]⟩).words=(y.recs.getD j ⟨0,0,0,[]⟩).words)))||(((x.recs.getD j ⟨0,0,0,[]⟩).file)!=((y.recs.getD j ⟨0,0,0,[]⟩).file)))||(((x.recs.getD j ⟨0,0,0,[]⟩).record)!=((y.recs.getD j ⟨0,0,0,[]⟩).record)))||(((x.recs.getD j ⟨0,0,0,[]⟩).count)!=((y.recs.getD j ⟨0,0,0,[]⟩).count)))) Y (fun M=>by simp)
 rw[hs]
 exact⟨rfl,(aG aq h)⟩
 have bS:=(aE Y).1
 have dt:=(aE Y).2
 have bT:=(aE bS).1
 have du:=(aE bS).2
 have q165aaa:=(aE bT).1
 have q165aab:=(aE bT).2
 have q165aaan:(decide ((A.recs.getD j ⟨0,0,0,[]⟩).words=(B.recs.getD j ⟨0,0,0,[]⟩).words))=true:=by simpa using q165aaa
 have q165aaanp:=of_decide_eq_true q165aaan
 have q165aabp:=ag q165aab
 have q165abp:=ag du
 have ez:=ag dt
 refine sk<|bn<|tn<|go<|Pl 1<|L0<|Oi (((j:Nat) : Int)+1)<|Pl 1<|nl<|?_
 have bU:=u1 (aG a3 ak) al (ni a3.size ai)
 exact dY (j+1) ⟨(aG (u1 (aG bU ao) ap (ni bU.size an)) h),(my (d:=⟨0,0,0,[]⟩) bI (by omega) (by omega) (sO Y)),(by(try dsimp only);omega)⟩ (by omega)
 have d9:=of_decide_eq_false ah
 refine xt<|tx<|tx<|bx<|tn<|sq<|sg<|Pl 1<|nt<|bk<|?_
 refine fR (fun x=>[(2,.pointer (some ⟨i,0,none⟩)),(3,.pointer (some ⟨l,0,none⟩)),(12,.int .i64 ((x:Nat) : Int))]) (fun(x:Nat) w'=>ax [] d6 w'∧(A.objects.take x=B.objects.take x)∧(x≤A.objects.length)) (fun x=>A.objects.length-x) 0 ⟨ax.refl _ _,(by(try dsimp only);simp),(by(try dsimp only);omega)⟩ ?_
 rintro k eA ⟨a8,dv,dw⟩
 refine ge [(2,.pointer (some ⟨i,0,none⟩)),(3,.pointer (some ⟨l,0,none⟩)),(12,.int .i64 ((k:Nat) : Int))] ?_
 have bV:A.objects.take k=B.objects.take k:=dv
 have eB:k≤A.objects.length:=dw
 refine sq<|sg<|Pl 2<|?_
 have bW:=ub a8 af
 refine L0<|aU bW 21<|Pl 2<|nt<|?_
 have bX:=aG a5 a8
 refine cb ((decide (((k:Nat) : Int)<((A.objects.length:Nat) : Int)))) (fun au=>?_) (fun au=>?_)
 have dx:=of_decide_eq_true au
 refine bC<|sq<|bk<|sq<|mB (oh.elt pho k (by omega)) fun bY bZ eC eD eE dy dz c0 dA dB eF av=>mB (oh.elt qho k (by omega)) fun c2 c3 eG eH eI dC dD c4 dF dG eJ aw=>Rg 14 (fun w'=>w'.cell? ⟨i,21,none⟩=some (.slice po A.objects.length pko)∧w'.cell? ⟨bY,bZ+k*2+1,none⟩=some (.slice dy ((A.objects.getD k ⟨0,[]⟩).value.length) dz)∧w'.cell? ⟨l,21,none⟩=some (.slice qo B.objects.length qko)∧w'.cell? ⟨c2,c3+k*2+1,none⟩=some (.slice dC ((B.objects.getD k ⟨0,[]⟩).value.length) dD)) fun eK a9=>?_
 have c5:=ub a9 bW
 have Z:=aG bX a9
 have c6:=ub Z dA
 have c7:=ub (aG (aG a4 a8) a9) P
 have c8:=ub Z dF
 refine bg ⟨(aj c5 rfl),(bK c6 av 1 rfl (by decide)),(aj c7 rfl),(bK c8 aw 1 rfl (by decide))⟩ fun g=>Rt 0 g<|Rl 1 g (fun _ hs=>hs.1)<|Rt 2 g<|Ri 3 g 2 A.objects.length k ((k:Nat) : Int) rfl c0 (by omega)<|Rt 4 g<|Rl 5 g (fun _ hs=>hs.2.1)<|Rt 6 g<|Rl 7 g (fun _ hs=>hs.2.2.1)<|Rt 8 g<|Ri 9 g 2 B.objects.length k ((k:Nat) : Int) rfl c4 (by omega)<|Rt 10 g<|Rl 11 g (fun _ hs=>hs.2.2.2)<|?_
 refine R0 12 rfl<|Oc<|m1 (iG (aN.old dB Z) (aN.old dG Z)) fun eL o=>?_
 have c9:=ub o c5
 have ca:=ub o c6
 have cc:=ub o c7
 have cd:=ub o c8
 refine bg ⟨(aj c9 rfl),(bK ca av 1 rfl (by decide)),(aj cc rfl),(bK cd aw 1 rfl (by decide))⟩ fun dH=>Rt 13 dH<|re<|tn<|sq<|Rg 17 (fun w'=>w'.cell? ⟨i,21,none⟩=some (.slice po A.objects.length pko)∧w'.cell? ⟨bY,bZ+k*2+0,none⟩=some (.int .u8 ((A.objects.getD k ⟨0,[]⟩).id))∧w'.cell? ⟨l,21,none⟩=some (.slice qo B.objects.length qko)∧w'.cell? ⟨c2,c3+k*2+0,none⟩=some (.int .u8 ((B.objects.getD k ⟨0,[]⟩).id))) fun eM p=>?_
 refine bg ⟨(aj (ub p c9) rfl),(bK (ub p ca) av 0 rfl (by decide)),(aj (ub p cc) rfl),(bK (ub p cd) aw 0 rfl (by decide))⟩ fun a=>Rt 0 a<|Rt 1 a<|Rt 2 a<|?_
 have cf:=aG (aG Z o) p
 refine tw 239 ((!(decide ((A.objects.getD k ⟨0,[]⟩).value=(B.objects.getD k ⟨0,[]⟩).value)))) (fun a0=>?_) (fun a0=>?_)
 have az:(decide ((A.objects.getD k ⟨0,[]⟩).value=(B.objects.getD k ⟨0,[]⟩).value))=false:=by simpa using a0
 have dI:=of_decide_eq_false az
 refine Ro 3 a<|Ro 4 a<|Ro 5 a<|Ro 6 a<|Ro 7 a<|Ro 8 a<|Ro 9 a<|Ro 10 a<|Ro 11 a<|Ro 12 a<|Ro 13 a<|Ro 14 a<|Ro 15 a<|Rt 16 a<|?_
 refine re<|tn<|c1<|sg<|Pl 1<|nt<|rt<|br<|tr<|tr<|br<|tr<|?_
 refine rr (.bool false)<|?_
 have hs:decide (A=B)=false:=iE (f:=fun x y=>(!(decide ((x.objects.getD k ⟨0,[]⟩).value=(y.objects.getD k ⟨0,[]⟩).value)))) a0 (fun M=>by simp)
 rw[hs]
 exact⟨rfl,cf⟩
 have az:(decide ((A.objects.getD k ⟨0,[]⟩).value=(B.objects.getD k ⟨0,[]⟩).value))=true:=by simpa using a0
 have dI:=of_decide_eq_true az
 refine Rt 3 a<|Rl 4 a (fun _ hs=>hs.1)<|Rt 5 a<|Ri 6 a 2 A.objects.length k ((k:Nat) : Int) rfl c0 (by omega)<|Rt 7 a<|Rl 8 a (fun _ hs=>hs.2.1)<|Rt 9 a<|Rl 10 a (fun _ hs=>hs.2.2.1)<|Rt 11 a<|Ri 12 a 2 B.objects.length k ((k:Nat) : Int) rfl c4 (by omega)<|Rt 13 a<|Rl 14 a (fun _ hs=>hs.2.2.2)<|Rt 15 a<|Rt 16 a<|?_
 refine re<|tn<|cb ((((A.objects.getD k ⟨0,[]⟩).id)!=((B.objects.getD k ⟨0,[]⟩).id))) (fun a1=>?_) (fun a1=>?_)
 have dJ:=ay a1
 refine sg<|Pl 1<|nt<|rt<|br<|tr<|tr<|br<|tr<|rr (.bool false)<|?_
 have hs:decide (A=B)=false:=iE (f:=fun x y=>(((x.objects.getD k ⟨0,[]⟩).id)!=((y.objects.getD k ⟨0,[]⟩).id))) a1 (fun M=>by simp)
 rw[hs]
 exact⟨rfl,cf⟩
 have dJ:=ag a1
 refine sk<|bn<|tn<|go<|Pl 1<|L0<|Oi (((k:Nat) : Int)+1)<|Pl 1<|nl<|?_
 exact dY (k+1) ⟨(aG (aG (aG a8 a9) o) p),(my (d:=⟨0,[]⟩) bV (by omega) (by omega) (q7 a0 a1)),(by(try dsimp only);omega)⟩ (by omega)
 have dx:=of_decide_eq_false au
 refine xt<|tx<|tx<|bx<|tn<|sg<|Pl 1<|nt<|rt<|rr (.bool true)<|?_
 have hs:decide (A=B)=true:=decide_eq_true (q5 H O U (fun e=>ec bI (by omega) e) (fun e=>ec bV (by omega) e))
 rw[hs]
 exact⟨rfl,bX⟩
end Go.Proofs.YtpglhicfhppaiaaGreat
