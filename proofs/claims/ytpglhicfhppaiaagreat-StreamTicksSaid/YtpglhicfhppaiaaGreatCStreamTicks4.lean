/- Contracts of functions, part CStreamTicks4. -/
import Derived.Test.YtpglhicfhppaiaaGreatCStreamTicks1
import Derived.Test.YtpglhicfhppaiaaGreatCStreamTicks2
import Derived.Test.YtpglhicfhppaiaaGreatCStreamTicks3
import Derived.Scope
import Derived.Lib.ConvBytes
import Derived.Lib.OthersKept
import Derived.Shelf.Strings.Builder1
import Derived.Lib.SlBytesConst
set_option linter.unusedVariables false
set_option linter.unusedSimpArgs false
set_option maxRecDepth 100000
set_option maxHeartbeats 4000000
namespace Go.Proofs.YtpglhicfhppaiaaGreat
open Go.RowKit
structure SM where
  dir:Int
  held:List Int
  skip:Int
theorem rb{a b:Int}(ha:0≤a∧a<256)(hb:0≤b∧b<256) : bits .or .i64 (a*256) b=a*256+b:=by
  obtain⟨A,rfl⟩:=Int.eq_ofNat_of_zero_le ha.1
  obtain⟨B,rfl⟩:=Int.eq_ofNat_of_zero_le hb.1
  have e:((A:Int)*256)=((A*256:Nat) : Int):=by omega
  rw[e]
  show IntKind.i64.wrap ((BitVec.ofInt 64 ((A*256:Nat) : Int) ||| BitVec.ofInt 64 (B:Int)).toNat:Int)=_
  rw[BitVec.toNat_or,BitVec.ofInt_natCast,BitVec.ofInt_natCast,BitVec.toNat_ofNat,BitVec.toNat_ofNat,Nat.mod_eq_of_lt (by omega),Nat.mod_eq_of_lt (by omega)]
  have h:=Nat.shiftLeft_add_eq_or_of_lt (i:=8) (b:=B) (by omega) A
  rw[Nat.shiftLeft_eq] at h
  rw[← h,i64_in (by omega)]
  omega
def SM.size (S:SM) : Int:=S.held.getD 4 0*256+S.held.getD 5 0
def SM.nx (S:SM) : Nat:=if S.held.length<6 then 0 else if 254<S.size then 1 else if S.size<2 then 2 else if (S.held.length:Int)=6+S.size then 3 else 0
def SM.does (S:SM) : SM × List Ev:=match S.nx with
  | 1=>(⟨S.dir,[],S.size⟩,[Ev.bad 3])
  | 2=>(⟨S.dir,[],S.size⟩,[Ev.bad 5])
  | 3=>(⟨S.dir,[],S.skip⟩,[⟨(ca S.dir S.held).2,(ca S.dir S.held).1⟩])
  | _=>(S,[])
def SM.byte (S:SM)(c:Int) : SM × List Ev:=if 0<S.skip then (⟨S.dir,S.held,S.skip-1⟩,[]) else (SM.mk S.dir (S.held++[c]) S.skip).does
def SM.feed (S:SM)(b:List Int) : SM × List Ev:=b.foldl (fun p c=>((p.1.byte c).1,p.2++(p.1.byte c).2)) (S,[])
abbrev vQ (S:SM) (A:Option Addr) (cp:Nat) : Array Value:=#[.int .i64 S.dir,.slice A S.held.length cp,.int .i64 S.skip]
abbrev io (w:World) (g:Nat) (S:SM) (A:Option Addr) (cp:Nat) : Prop:=w.heap[g]? = some (.cells (vQ S A cp) 131 (0,0))
theorem SM.size_rng{S:SM}(h:∀ x,x∈S.held→0≤x∧x<256) : 0≤S.size∧S.size<65536:=by
  have hd:∀ j,0≤S.held.getD j 0∧S.held.getD j 0<256:=fun j=>by
    rw[List.getD_eq_getElem?_getD]
    cases hj:S.held[j]? with
    | none=>simp
    | some x=>exact h x (List.mem_of_getElem? hj)
  have h4:=hd 4
  have h5:=hd 5
  unfold SM.size
  omega
def tz (S:SM)(L:List Ev)(g:Nat)(w:World)(e:Ending)(w':World) : Prop:=∃ v,e = .returned v∧f6 w.heap.size w' v L∧io w' g S none 0∧au [g] w w'
theorem lq{w:World}:Calls Tryz.prog 48 #[.int .i64 0] w (fun e w'=>∃ g,e = .returned (.pointer (some ⟨g,0,none⟩))∧w.heap.size≤g∧io w' g ⟨0,[],0⟩ none 0∧au [] w w'):=by
 refine en 12 Tryz.func48 rfl<|sg<|Pl 1<|nt<|sq<|sg<|Pl 6<|nt<|c0<|sk<|?_
 refine tn<|sg<|Pl 2<|L0<|cW #[.int .i64 0,.slice none 0 0,.int .i64 0] fun a f b c d=>Pl 1<|nt<|rt<|rr (.pointer (some ⟨a,0,none⟩))<|?_
 exact⟨a,rfl,b,c,d⟩
theorem l8{w:World}:Calls Tryz.prog 48 #[.int .i64 1] w (fun e w'=>∃ g,e = .returned (.pointer (some ⟨g,0,none⟩))∧w.heap.size≤g∧io w' g ⟨1,[],0⟩ none 0∧au [] w w'):=by
 refine en 12 Tryz.func48 rfl<|sg<|Pl 1<|nt<|sq<|sg<|Pl 6<|nt<|c0<|sk<|?_
 refine tn<|sg<|Pl 2<|L0<|cW #[.int .i64 1,.slice none 0 0,.int .i64 0] fun a f b c d=>Pl 1<|nt<|rt<|rr (.pointer (some ⟨a,0,none⟩))<|?_
 exact⟨a,rfl,b,c,d⟩
theorem lO{w:World}{g:Nat}{S:SM}{A:Option Addr}{cp:Nat}(hb:io w g S A cp)(hr:aM true w (.slice A S.held.length cp) S.held) : Calls Tryz.prog 185 #[.pointer (some ⟨g,0,none⟩)] w (bg (.int .i64 ((S.held.length:Nat) : Int)) w):=by
 have hcm:=aH.len hr
 have hrg:=SM.size_rng (aM.range hr)
 have hru:=aM.range hr
 refine en 8 Tryz.func185 rfl<|sg<|Pl 1<|ng<|Pl 3<|L0<|aR hb 1<|Pl 2<|nt<|rt<|?_
 refine rr (.int .i64 ((S.held.length:Nat) : Int))<|?_
 exact⟨rfl,(au.refl [] _)⟩
theorem ec{w:World}{g:Nat}{S:SM}{A:Option Addr}{cp:Nat}(hb:io w g S A cp)(hr:aM true w (.slice A S.held.length cp) S.held)(h6:6≤S.held.length) : Calls Tryz.prog 187 #[.pointer (some ⟨g,0,none⟩)] w (bg (.int .i64 S.size) w):=by
 have hcm:=aH.len hr
 have hrg:=SM.size_rng (aM.range hr)
 have hru:=aM.range hr
 refine en 19 Tryz.func187 rfl<|sg<|Pl 1<|nt<|sq<|fE (aM.at_ hr 4 (by omega)) fun c d e f l=>fE (aM.at_ hr 5 (by omega)) fun h i j k m=>Rg 17 (fun w'=>w'.cell? ⟨g,1,none⟩=some (.slice A S.held.length cp)∧w'.cell? ⟨c,d+4,none⟩=some (.int .u8 (S.held.getD 4 0))∧w'.cell? ⟨h,i+5,none⟩=some (.int .u8 (S.held.getD 5 0))) fun n b=>?_
 refine be ⟨(ai (ub b hb) rfl),(uc b f),(uc b k)⟩ fun a=>Rt 0 a<|Rt 1 a<|Rt 2 a<|Rl 3 a (fun _ hs=>hs.1)<|lU 4 a S.held.length 4 4 rfl e (by omega)<|Rl 5 a (fun _ hs=>hs.2.1)<|Rr 6 a (.int .i64 (S.held.getD 4 0)) (fun _ _=>bV (.int .i64 (IntKind.i64.wrap (S.held.getD 4 0))) (by kernel_rfl) (congrArg (Value.int .i64) (i64_in (by omega))))<|Rr 7 a (.int .i64 ((S.held.getD 4 0)*256)) (fun _ _=>bV (.int .i64 (IntKind.i64.wrap ((S.held.getD 4 0)*256))) (by kernel_rfl) (congrArg (Value.int .i64) (i64_in (by omega))))<|Rt 8 a<|Rt 9 a<|Rt 10 a<|Rl 11 a (fun _ hs=>hs.1)<|lU 12 a S.held.length 5 5 rfl j (by omega)<|?_
 refine Rl 13 a (fun _ hs=>hs.2.2)<|Rr 14 a (.int .i64 (S.held.getD 5 0)) (fun _ _=>bV (.int .i64 (IntKind.i64.wrap (S.held.getD 5 0))) (by kernel_rfl) (congrArg (Value.int .i64) (i64_in (by omega))))<|Rr 15 a (.int .i64 (((S.held.getD 4 0)*256)+(S.held.getD 5 0))) (fun _ _=>bV (.int .i64 (bits .or .i64 ((S.held.getD 4 0)*256) (S.held.getD 5 0))) (by kernel_rfl) (congrArg (Value.int .i64) (rb (by omega) (by omega))))<|Rt 16 a<|re<|tn<|rt<|rr (.int .i64 (((S.held.getD 4 0)*256)+(S.held.getD 5 0)))<|?_
 exact⟨rfl,b⟩
def SM.fn (S:SM)(g:Nat) : Value:=match S.nx with
  | 1=>.func (.func 188) #[.pointer (some ⟨g,0,none⟩)] #[]
  | 2=>.func (.func 189) #[.pointer (some ⟨g,0,none⟩)] #[]
  | 3=>.func (.func 190) #[.pointer (some ⟨g,0,none⟩)] #[]
  | _=>.nilFunc
theorem ee{w:World}{g:Nat}{S:SM}{A:Option Addr}{cp:Nat}(hb:io w g S A cp)(hr:aM true w (.slice A S.held.length cp) S.held) : Calls Tryz.prog 186 #[.pointer (some ⟨g,0,none⟩)] w (bg (S.fn g) w):=by
 have hcm:=aH.len hr
 have hrg:=SM.size_rng (aM.range hr)
 have hru:=aM.range hr
 refine en 34 Tryz.func186 rfl<|sg<|Pl 1<|nt<|sq<|bk<|sg<|Pl 3<|L0<|aR hb 1<|Pl 3<|nl<|?_
 refine tn<|cb ((decide (((S.held.length:Nat) : Int)<6))) (fun c=>?_) (fun c=>?_)
 have r:=of_decide_eq_true c
 refine sg<|Pl 1<|nt<|rt<|br<|tr<|rr (.nilFunc)<|?_
 have hs:S.nx=0:=by unfold SM.nx;(repeat' split)<;>first | rfl | omega
 have hf:S.fn g = .nilFunc:=by unfold SM.fn;rw[hs];rfl
 exact⟨by rw[hf],(au.refl [] _)⟩
 have r:=of_decide_eq_false c
 refine sg<|Pl 1<|L0<|Oc<|m1 (ec (S:=S) hb hr (by omega)) fun v b=>Pl 2<|nt<|cb ((decide (254<S.size))) (fun d=>?_) (fun d=>?_)
 have s:=of_decide_eq_true d
 refine sg<|Pl 3<|nt<|rt<|br<|tr<|rr (.func (.func 188) #[.pointer (some ⟨g,0,none⟩)] #[])<|?_
 have hs:S.nx=1:=by unfold SM.nx;(repeat' split)<;>first | rfl | omega
 have hf:S.fn g = .func (.func 188) #[.pointer (some ⟨g,0,none⟩)] #[]:=by unfold SM.fn;rw[hs];rfl
 exact⟨by rw[hf],b⟩
 have s:=of_decide_eq_false d
 refine sg<|Pl 1<|?_
 have j:=ub b hb
 have k:=aM.upd' hr b az
 refine L0<|Oc<|m1 (ec (S:=S) j k (by omega)) fun x l=>Pl 2<|nt<|?_
 have m:=aE b l
 refine cb ((decide (S.size<2))) (fun e=>?_) (fun e=>?_)
 have t:=of_decide_eq_true e
 refine sg<|Pl 3<|nt<|rt<|br<|tr<|rr (.func (.func 189) #[.pointer (some ⟨g,0,none⟩)] #[])<|?_
 have hs:S.nx=2:=by unfold SM.nx;(repeat' split)<;>first | rfl | omega
 have hf:S.fn g = .func (.func 189) #[.pointer (some ⟨g,0,none⟩)] #[]:=by unfold SM.fn;rw[hs];rfl
 exact⟨by rw[hf],m⟩
 have t:=of_decide_eq_false e
 refine sq<|Rg 10 (fun w'=>w'.cell? ⟨g,1,none⟩=some (.slice A S.held.length cp)) fun y n=>?_
 have o:=aE l n
 have f:=ub o j
 refine be (ai f rfl) fun a=>Rt 0 a<|Rt 1 a<|Rt 2 a<|Rl 3 a (fun _ hs=>hs)<|Rt 4 a<|Rt 5 a<|?_
 refine R0 6 rfl<|Oc<|m1 (ec (S:=S) f (aM.upd' k o az) (by omega)) fun z p=>?_
 refine be (ai (ub p f) rfl) fun h=>Rr 7 h (.int .i64 (6+S.size)) (fun _ _=>bV (.int .i64 (IntKind.i64.wrap (6+S.size))) (by kernel_rfl) (congrArg (Value.int .i64) (IntWalk.i64_in _ (by omega))))<|Rt 8 h<|Rt 9 h<|re<|tn<|?_
 have q:=aE m (aE n p)
 refine cb ((((S.held.length:Nat) : Int)==(6+S.size))) (fun i=>?_) (fun i=>?_)
 have u:=aA i
 refine sg<|Pl 3<|nt<|rt<|br<|tr<|rr (.func (.func 190) #[.pointer (some ⟨g,0,none⟩)] #[])<|?_
 have hs:S.nx=3:=by unfold SM.nx;(repeat' split)<;>first | rfl | omega
 have hf:S.fn g = .func (.func 190) #[.pointer (some ⟨g,0,none⟩)] #[]:=by unfold SM.fn;rw[hs];rfl
 exact⟨by rw[hf],q⟩
 have u:=aG i
 refine sk<|bn<|tn<|sg<|Pl 1<|nt<|rt<|rr (.nilFunc)<|?_
 have hs:S.nx=0:=by unfold SM.nx;(repeat' split)<;>first | rfl | omega
 have hf:S.fn g = .nilFunc:=by unfold SM.fn;rw[hs];rfl
 exact⟨by rw[hf],q⟩
theorem fC{w:World}{g:Nat}{S:SM}{A:Option Addr}{cp:Nat}(hb:io w g S A cp)(hr:aM true w (.slice A S.held.length cp) S.held)(h6:6≤S.held.length){e:Int}:Calls Tryz.prog 191 #[.pointer (some ⟨g,0,none⟩),.int .i64 e] w (tz ⟨S.dir,[],S.size⟩ [Ev.bad e] g w):=by
 have hcm:=aH.len hr
 have hrg:=SM.size_rng (aM.range hr)
 have hru:=aM.range hr
 refine en 16 Tryz.func191 rfl<|sg<|Pl 1<|ng<|Pl 2<|L0<|Oc<|m1 (ec (S:=S) hb hr (by omega)) fun l a=>Pl 2<|?_
 refine L0<|bO (ub a hb) 2 #[.int .i64 S.dir,.slice A S.held.length cp,.int .i64 S.size] fun n f b=>ng<|Pl 3<|L0<|bO f 1 #[.int .i64 S.dir,.slice none 0 0,.int .i64 S.size] fun o h c=>ng<|Pl 2<|L0<|fk (m:=1) (e:=66) #[.int .i64 e,.int .u8 0,.int .u16 0,.int .u8 0,.int .u8 0,.int .u16 0,.int .u16 0,.int .u16 0,.int .u16 0,.int .u16 0,.int .u16 0,.int .u16 0,.int .u16 0,.int .u16 0,.int .u16 0,.slice none 0 0,.slice none 0 0,.slice none 0 0,.slice none 0 0,.int .u8 0,.int .u8 0,.int .u8 0,.int .u8 0,.int .u8 0,.slice none 0 0] fun i p j k d=>Pl 1<|nl<|?_
 refine tn<|rt<|rr (.slice (some ⟨i,0,none⟩) 1 1)<|?_
 have hE:=j8 (w0:=w) (x:=Ev.bad e) (Nat.le_trans (le (le a.size b.size) c.size) j) k ⟨⟨none,0,none,0,none,0,none,0,none,0⟩,by kernel_rfl,jg,(show(0:Int)≤0∧(0:Int)<256 from by decide),(show(0:Int)≤0∧(0:Int)<65536 from by decide)⟩
 exact⟨_,rfl,hE,(ub d h),(uz a (u1 b (aE c d) im))⟩
theorem lx{w:World}{g:Nat}{S:SM}{A:Option Addr}{cp:Nat}(hb:io w g S A cp)(hr:aM true w (.slice A S.held.length cp) S.held)(h6:6≤S.held.length) : Calls Tryz.prog 188 #[.pointer (some ⟨g,0,none⟩)] w (tz ⟨S.dir,[],S.size⟩ [Ev.bad 3] g w):=by
 have hcm:=aH.len hr
 have hrg:=SM.size_rng (aM.range hr)
 have hru:=aM.range hr
 refine en 5 Tryz.func188 rfl<|sg<|Pl 1<|ng<|Pl 1<|L0<|Oc<|mw (fC (S:=S) (e:=3) hb hr h6) fun a b h c i j d f=>Pl 1<|nt<|rt<|?_
 refine rr (.slice a 1 b)<|?_
 exact⟨_,rfl,c,d,f⟩
theorem kD{w:World}{g:Nat}{S:SM}{A:Option Addr}{cp:Nat}(hb:io w g S A cp)(hr:aM true w (.slice A S.held.length cp) S.held)(h6:6≤S.held.length) : Calls Tryz.prog 189 #[.pointer (some ⟨g,0,none⟩)] w (tz ⟨S.dir,[],S.size⟩ [Ev.bad 5] g w):=by
 have hcm:=aH.len hr
 have hrg:=SM.size_rng (aM.range hr)
 have hru:=aM.range hr
 refine en 5 Tryz.func189 rfl<|sg<|Pl 1<|ng<|Pl 1<|L0<|Oc<|mw (fC (S:=S) (e:=5) hb hr h6) fun a b h c i j d f=>Pl 1<|nt<|rt<|?_
 refine rr (.slice a 1 b)<|?_
 exact⟨_,rfl,c,d,f⟩
theorem kI{w:World}{g:Nat}{S:SM}{A:Option Addr}{cp:Nat}(hb:io w g S A cp)(hr:aM true w (.slice A S.held.length cp) S.held)(hl:S.held.length≤1048576) : Calls Tryz.prog 190 #[.pointer (some ⟨g,0,none⟩)] w (tz ⟨S.dir,[],S.skip⟩ [⟨(ca S.dir S.held).2,(ca S.dir S.held).1⟩] g w):=by
 have hcm:=aH.len hr
 have hrg:=SM.size_rng (aM.range hr)
 have hru:=aM.range hr
 refine en 24 Tryz.func190 rfl<|sg<|Pl 1<|nt<|sq<|Rg 15 (fun w'=>w'.cell? ⟨g,0,none⟩=some (.int .i64 S.dir)∧w'.cell? ⟨g,1,none⟩=some (.slice A S.held.length cp)) fun ad a=>?_
 have f:=ub a hb
 refine be ⟨(ai f rfl),(ai f rfl)⟩ fun b=>Rt 0 b<|Rt 1 b<|Rt 2 b<|Rl 3 b (fun _ hs=>hs.1)<|Rt 4 b<|Rt 5 b<|Rt 6 b<|Rl 7 b (fun _ hs=>hs.2)<|?_
 refine R2 8 12 rfl rfl ?_ ?_
 refine pr (ca S.dir S.held) fun c C D=>?_
 refine  Oc<|e2 (fH D (aM.upd' hr a az) (by omega)) fun x56 ae Q h=>?_
 obtain⟨R,T,U⟩:=Q
 have i:=ub h f
 refine be ⟨(ai i rfl),(ai i rfl)⟩ fun l=>Rt 9 l<|Rt 10 l<|Rt 11 l<|R0 12 rfl<|bz #[.int .u8 0,.int .u16 0,.int .u8 0,.int .u8 0,.int .u16 0,.int .u16 0,.int .u16 0,.int .u16 0,.int .u16 0,.int .u16 0,.int .u16 0,.int .u16 0,.int .u16 0,.int .u16 0,.slice none 0 0,.slice none 0 0,.slice none 0 0,.slice none 0 0,.int .u8 0,.int .u8 0,.int .u8 0,.int .u8 0,.int .u8 0,.slice none 0 0] fun af ag E V n=>?_
 have o:=ub n i
 refine be ⟨(ai o rfl),(ai o rfl)⟩ fun ak=>R0 13 rfl<|b6 V (o5 c.unit c.tid c.msg x56) fun al W p=>?_
 have F:=nb (aj hb) (le a.size h.size) E
 have q:=aO p F o
 refine be ⟨(ai q rfl),(ai q rfl)⟩ fun X=>Rt 14 X<|re<|tn<|sg<|Pl 3<|L0<|bO q 1 #[.int .i64 S.dir,.slice none 0 0,.int .i64 S.skip] fun am Y r=>ng<|Pl 1<|?_
 refine L0<|c9 (aO r (Ne.symm F) W)<|Pl 1<|L0<|fk (m:=1) (e:=66) (kS ⟨C,c⟩ x56) fun Z an a0 a1 G=>Pl 1<|nt<|rt<|rr (.slice (some ⟨Z,0,none⟩) 1 1)<|?_
 have H:=ud n (us p (aE r G)) E
 have hE:=j8 (w0:=w) (x:=⟨C,c⟩) (Nat.le_trans (le (le (le (le a.size h.size) n.size) p.size) r.size) a0) a1 ⟨x56,rfl,(aU.upd R H (ah (aD i (by decide)) az)),T,U⟩
 exact⟨_,rfl,by rw[D];exact hE,(ub G Y),(uz a (uz h H))⟩
 refine  bz #[.int .u8 0,.int .u16 0,.int .u8 0,.int .u8 0,.int .u16 0,.int .u16 0,.int .u16 0,.int .u16 0,.int .u16 0,.int .u16 0,.int .u16 0,.int .u16 0,.int .u16 0,.int .u16 0,.slice none 0 0,.slice none 0 0,.slice none 0 0,.slice none 0 0,.int .u8 0,.int .u8 0,.int .u8 0,.int .u8 0,.int .u8 0,.slice none 0 0] fun ao ap I a2 s=>?_
 have t:=ub s f
 refine be ⟨(ai t rfl),(ai t rfl)⟩ fun aq=>?_
 have J:=aE a s
 refine pr (ca S.dir S.held) fun d K L=>?_
 refine R0 8 rfl<|Oc<|e2 (fH L (aM.upd' hr J az) (by omega)) fun u ar a3 j=>?_
 obtain⟨a4,a5,a6⟩:=a3
 have k:=ub j t
 refine be ⟨(ai k rfl),(ai k rfl)⟩ fun v=>Rt 9 v<|Rt 10 v<|Rt 11 v<|?_
 have M:=ub j a2
 refine R0 13 rfl<|b6 M (o5 d.unit d.tid d.msg u) fun au a7 y=>?_
 have N:=nb (aj hb) a.size I
 have z:=aO y N k
 refine be ⟨(ai z rfl),(ai z rfl)⟩ fun a8=>Rt 14 a8<|re<|tn<|sg<|Pl 3<|L0<|bO z 1 #[.int .i64 S.dir,.slice none 0 0,.int .i64 S.skip] fun av a9 B=>ng<|Pl 1<|?_
 refine L0<|c9 (aO B (Ne.symm N) a7)<|Pl 1<|L0<|fk (m:=1) (e:=66) (kS ⟨K,d⟩ u) fun aa aw ab ac O=>Pl 1<|nt<|rt<|rr (.slice (some ⟨aa,0,none⟩) 1 1)<|?_
 have P:=us y (aE B O)
 have hE:=j8 (w0:=w) (x:=⟨K,d⟩) (Nat.le_trans (le (le (le (le a.size s.size) j.size) y.size) B.size) ab) ac ⟨u,rfl,(aU.upd a4 P (ah (aD M (by decide)) (ah (aD k (by decide)) az))),a5,a6⟩
 exact⟨_,rfl,by rw[L];exact hE,(ub O a9),(ud J (uz j P) (le a.size I))⟩
open Go.RowKit
theorem vB{C:Prop}(S:SM)(h0:S.nx=0→C)(h1:S.nx=1→C)(h2:S.nx=2→C)(h3:S.nx=3→C) : C:=by
  have h:S.nx=0∨S.nx=1∨S.nx=2∨S.nx=3:=by
    unfold SM.nx
    (repeat' split)<;>simp
  rcases h with h|h|h|h
  · exact h0 h
  · exact h1 h
  · exact h2 h
  · exact h3 h
theorem tL{S:SM}(h:S.nx≠0) : 6≤S.held.length:=by
  unfold SM.nx at h
  split at h
  · exact absurd rfl h
  · omega
theorem kH{w:World}{g:Nat}{S:SM}{A:Option Addr}{cp:Nat}(hb:io w g S A cp)(hr:aM true w (.slice A S.held.length cp) S.held)(h:S.nx=0) : Calls Tryz.prog 186 #[.pointer (some ⟨g,0,none⟩)] w (bg (.nilFunc) w):=by
  have k:=ee hb hr
  unfold SM.fn at k
  rw[h] at k
  exact k
theorem jE{w:World}{g:Nat}{S:SM}{A:Option Addr}{cp:Nat}(hb:io w g S A cp)(hr:aM true w (.slice A S.held.length cp) S.held)(h:S.nx=1) : Calls Tryz.prog 186 #[.pointer (some ⟨g,0,none⟩)] w (bg (.func (.func 188) #[.pointer (some ⟨g,0,none⟩)] #[]) w):=by
  have k:=ee hb hr
  unfold SM.fn at k
  rw[h] at k
  exact k
theorem k9{w:World}{g:Nat}{S:SM}{A:Option Addr}{cp:Nat}(hb:io w g S A cp)(hr:aM true w (.slice A S.held.length cp) S.held)(h:S.nx=2) : Calls Tryz.prog 186 #[.pointer (some ⟨g,0,none⟩)] w (bg (.func (.func 189) #[.pointer (some ⟨g,0,none⟩)] #[]) w):=by
  have k:=ee hb hr
  unfold SM.fn at k
  rw[h] at k
  exact k
theorem kA{w:World}{g:Nat}{S:SM}{A:Option Addr}{cp:Nat}(hb:io w g S A cp)(hr:aM true w (.slice A S.held.length cp) S.held)(h:S.nx=3) : Calls Tryz.prog 186 #[.pointer (some ⟨g,0,none⟩)] w (bg (.func (.func 190) #[.pointer (some ⟨g,0,none⟩)] #[]) w):=by
  have k:=ee hb hr
  unfold SM.fn at k
  rw[h] at k
  exact k
def SM.ok (S:SM) : Prop:=(0≤S.skip∧S.skip<65536)∧(∀ x,x∈S.held→0≤x∧x<256)∧(S.held.length<6∨2≤S.size∧S.size≤254∧(S.held.length:Int)<6+S.size)
theorem SM.ok_le{S:SM}(h:S.ok) : S.held.length≤259:=by
  obtain⟨_,_,h|h⟩:=h
  · omega
  · omega
theorem SM.size_app{S:SM}{c:Int}(h:6≤S.held.length) : (SM.mk S.dir (S.held++[c]) S.skip).size=S.size:=by
  unfold SM.size
  simp only[List.getD_eq_getElem?_getD]
  rw[List.getElem?_append_left (by omega),List.getElem?_append_left (by omega)]
theorem SM.byte_ok{S S2:SM}{c:Int}{L2:List Ev}(h:S.ok)(hc:0≤c∧c<256)(hx:S.byte c=(S2,L2)) : S2.ok∧L2.length≤1:=by
  obtain⟨h1,h2,h3⟩:=h
  unfold SM.byte at hx
  split at hx
  · injection hx with e1 e2
    subst e1 e2
    exact⟨⟨⟨by show 0≤S.skip-1;omega,by show S.skip-1<65536;omega⟩,h2,h3⟩,Nat.zero_le _⟩
  have hr:∀ x,x∈(SM.mk S.dir (S.held++[c]) S.skip).held→0≤x∧x<256:=fun x hx=>by
    rcases List.mem_append.1 hx with h|h
    · exact h2 x h
    · rw[List.mem_singleton] at h;rw[h];exact hc
  have hz:=SM.size_rng hr
  have hn:∀ d k,(0≤k∧k<65536)→(SM.mk d [] k).ok:=fun d k hk=>⟨hk,fun x hx=>(by cases hx),.inl (show 0<6 by omega)⟩
  unfold SM.does at hx
  have hnx:∀ i,(SM.mk S.dir (S.held++[c]) S.skip).nx=i→i=0∨i=1∨i=2∨i=3:=by
    intro i hi
    subst hi
    unfold SM.nx
    (repeat' split)<;>simp
  rcases hnx _ rfl with e|e|e|e<;>rw[e] at hx<;>injection hx with e1 e2<;>subst e1 e2
  · refine⟨⟨h1,hr,?_⟩,Nat.zero_le _⟩
    unfold SM.nx at e
    by_cases h6:(SM.mk S.dir (S.held++[c]) S.skip).held.length<6
    · exact .inl h6
    rw[if_neg h6] at e
    split at e
    · cases e
    split at e
    · cases e
    split at e
    · cases e
    rename_i k1 k2 k3
    refine .inr ⟨by omega,by omega,?_⟩
    have hl:(SM.mk S.dir (S.held++[c]) S.skip).held.length=S.held.length+1:=by simp
    rcases h3 with h3|⟨h4,h5,h7⟩
    · omega
    · by_cases h8:6≤S.held.length
      · rw[SM.size_app h8] at k1 k2 k3 ⊢
        omega
      · omega
  · exact⟨hn _ _ hz,Nat.le_refl _⟩
  · exact⟨hn _ _ hz,Nat.le_refl _⟩
  · exact⟨hn _ _ h1,Nat.le_refl _⟩
theorem gy{S0 T T2:SM}{L L2:List Ev}{b:List Int}{k:Nat}(hk:k<b.length)(h:(T,L)=S0.feed (b.take k))(hx:T.byte (b.getD k 0)=(T2,L2)) : (T2,L++L2)=S0.feed (b.take (k+1)):=by
  rw[List.take_succ_eq_append_getElem hk]
  unfold SM.feed at h ⊢
  rw[List.foldl_append,← h]
  rw[List.getD_eq_getElem?_getD,List.getElem?_eq_getElem hk] at hx
  simp only[Option.getD_some] at hx
  simp only[List.foldl_cons,List.foldl_nil,hx]
theorem kL{S0 T T2:SM}{L:List Ev}{b:List Int}{k:Nat}(hk:k<b.length)(h:(T,L)=S0.feed (b.take k))(hx:T.byte (b.getD k 0)=(T2,[])) : (T2,L)=S0.feed (b.take (k+1)):=by
  have:=gy hk h hx
  rwa [List.append_nil] at this
theorem nV{T:SM}{c:Int}(h:0<T.skip) : T.byte c=(⟨T.dir,T.held,T.skip-1⟩,[]):=by unfold SM.byte;rw[if_pos h]
theorem sC{T:SM}{c:Int}(h:¬ 0<T.skip)(e:(SM.mk T.dir (T.held++[c]) T.skip).nx=0) : T.byte c=(⟨T.dir,T.held++[c],T.skip⟩,[]):=by unfold SM.byte;rw[if_neg h];unfold SM.does;rw[e];rfl
theorem rT{T:SM}{c:Int}(h:¬ 0<T.skip)(e:(SM.mk T.dir (T.held++[c]) T.skip).nx=1) : T.byte c=(⟨T.dir,[],(SM.mk T.dir (T.held++[c]) T.skip).size⟩,[Ev.bad 3]):=by unfold SM.byte;rw[if_neg h];unfold SM.does;rw[e];rfl
theorem rQ{T:SM}{c:Int}(h:¬ 0<T.skip)(e:(SM.mk T.dir (T.held++[c]) T.skip).nx=2) : T.byte c=(⟨T.dir,[],(SM.mk T.dir (T.held++[c]) T.skip).size⟩,[Ev.bad 5]):=by unfold SM.byte;rw[if_neg h];unfold SM.does;rw[e];rfl
theorem s7{T:SM}{c:Int}{F:cT}{E:Int}(h:¬ 0<T.skip)(e:(SM.mk T.dir (T.held++[c]) T.skip).nx=3)(hX:ca T.dir (T.held++[c])=(F,E)) : T.byte c=(⟨T.dir,[],T.skip⟩,[⟨E,F⟩]):=by
  unfold SM.byte
  rw[if_neg h]
  unfold SM.does
  rw[e]
  show(SM.mk T.dir [] T.skip,[Ev.mk (ca T.dir (T.held++[c])).2 (ca T.dir (T.held++[c])).1])=_
  rw[hX]
theorem iq{w:World}{g:Nat}{d k:Int}{h:List Int}{A:Option Addr}{cp:Nat}{F:cT}{E:Int}(hX:ca d h=(F,E))(hb:io w g ⟨d,h,k⟩ A cp)(hr:aM true w (.slice A h.length cp) h)(hl:h.length≤1048576) : Calls Tryz.prog 190 #[.pointer (some ⟨g,0,none⟩)] w (tz ⟨d,[],k⟩ [⟨E,F⟩] g w):=by
  have q:=kI (S:=⟨d,h,k⟩) hb hr hl
  rw[hX] at q
  exact q
def vN (base n0:Nat)(S2:SM)(L:List Ev)(g:Nat)(A:Option Addr)(w:World)(e:Ending)(w':World) : Prop:=∃ v A2 cp2 n2,e = .returned v∧cv n2 w.heap.size w' v L∧io w' g S2 A2 cp2∧cN base w' (.slice A2 S2.held.length cp2) S2.held∧(∀ x,x∈ob A2→x∈ob A∨w.heap.size≤x)∧(n0≤n2∧n2≤w'.heap.size)∧(∀ x,x∈ob A2→n2≤x)∧au (g :: (ob A++[])) w w'
theorem i8{b:List Int}(h:∀ x,x∈b→0≤x∧x<256)(k:Nat) : 0≤b.getD k 0∧b.getD k 0<256:=by
  rw[List.getD_eq_getElem?_getD]
  cases hj:b[k]? with
  | none=>simp
  | some x=>exact h x (List.mem_of_getElem? hj)
theorem kK{w:World}{g base:Nat}{S:SM}{A:Option Addr}{cp:Nat}{m:Bool}{B:Option Addr}{cpb:Nat}{b:List Int}(hb:io w g S A cp)(ho:cN base w (.slice A S.held.length cp) S.held)(hbs:base≤w.heap.size)(hok0:S.ok){n0:Nat}(hn0:n0≤w.heap.size)(hlo:∀ x,x∈ob A→n0≤x)(hsl:aM m w (.slice B b.length cpb) b)(hdg:0<b.length→∀ x,x∈ob B→x≠g)(hda:iV b.length B (ob A))(hbl:b.length≤1048576) :
    Calls Tryz.prog 184 #[.pointer (some ⟨g,0,none⟩),.slice B b.length cpb] w (vN base n0 (S.feed b).1 (S.feed b).2 g A w):=by
 have hdl:=aH.low hsl
 have hok0l:=SM.ok_le hok0
 have hrb:=aM.range hsl
 refine en 47 Tryz.func184 rfl<|sg<|Pl 1<|ng<|Pl 1<|nt<|sq<|sg<|?_
 refine Pl 3<|nt<|bk<|?_
 refine fR (fun x=>[(0,.pointer (some ⟨g,0,none⟩)),(4,.slice none 0 0),(5,.slice x.2.2.2.2.2.1 x.2.2.1.length x.2.2.2.2.2.2.1),(9,.slice B b.length cpb),(10,.int .i64 ((b.length:Nat) : Int)),(11,.int .i64 ((x.1:Nat) : Int))]) (fun(x:Nat × SM × List Ev × Option Addr × Nat × Option Addr × Nat × Nat) w'=>au (g :: (ob A++[])) w w'∧io w' g x.2.1 x.2.2.2.1 x.2.2.2.2.1∧cN base w' (.slice x.2.2.2.1 x.2.1.held.length x.2.2.2.2.1) x.2.1.held∧cv x.2.2.2.2.2.2.2 w.heap.size w' (.slice x.2.2.2.2.2.1 x.2.2.1.length x.2.2.2.2.2.2.1) x.2.2.1∧x.2.2.2.2.2.2.2≤w'.heap.size∧aM m w' (.slice B b.length cpb) b∧((x.2.1,x.2.2.1)=S.feed (b.take x.1))∧(x.2.1.ok)∧(x.2.1.held.length≤259)∧(x.1≤b.length)∧(x.2.2.1.length≤x.1)∧(∀ y,y∈ob x.2.2.2.1→y∈ob A∨w.heap.size≤y)∧(n0≤x.2.2.2.2.2.2.2)∧(∀ y,y∈ob x.2.2.2.1→x.2.2.2.2.2.2.2≤y)) (fun x=>b.length-x.1) (0,S,[],A,cp,none,0,n0) ⟨au.refl _ _,hb,ho,(aN.nil w.heap.size _ _ (aZ n0) _),(Nat.le_trans hn0 lr),hsl,rfl,hok0,hok0l,(by(try dsimp only);exact Nat.zero_le _),(by(try dsimp only);exact Nat.zero_le _),fx,(by(try dsimp only);exact Nat.le_refl _),hlo⟩ ?_
 rintro⟨k,T,L,Ah,ch,Bq,cq,n⟩ D ⟨l,aL,aO,aP,aQ,aS,aU,aV,aW,aX,aY,b0,b1,b2⟩
 refine fz [(0,.pointer (some ⟨g,0,none⟩)),(4,.slice none 0 0),(5,.slice Bq L.length cq),(9,.slice B b.length cpb),(10,.int .i64 ((b.length:Nat) : Int)),(11,.int .i64 ((k:Nat) : Int))] ?_
 have f:io D g T Ah ch:=aL
 have j:cN base D (.slice Ah T.held.length ch) T.held:=aO
 have a:cv n w.heap.size D (.slice Bq L.length cq) L:=aP
 have b3:n≤D.heap.size:=aQ
 have hnl:=b3
 have u:aM m D (.slice B b.length cpb) b:=aS
 have b4:(T,L)=S.feed (b.take k):=aU
 have b5:T.ok:=aV
 have bH:T.held.length≤259:=aW
 have bI:k≤b.length:=aX
 have bK:L.length≤k:=aY
 have b6:∀ y,y∈ob Ah→y∈ob A∨w.heap.size≤y:=b0
 have b7:n0≤n:=b1
 have b8:∀ y,y∈ob Ah→n≤y:=b2
 have hlow:=b8
 have hn0l:=b7
 have hat0:=b6
 have hok:=b5
 have hpj:=b4
 have hle:=SM.ok_le hok
 have hsk:=hok.1
 refine sg<|Pl 1<|nt<|sq<|cb ((decide (((k:Nat) : Int)<((b.length:Nat) : Int)))) (fun X=>?_) (fun X=>?_)
 have b9:=of_decide_eq_true X
 refine bB<|sq<|bk<|sg<|fE (aM.at_ u k (by omega)) fun ba bb bc bd bL=>L0<|mN b.length k bc (by omega)<|L0<|jx (p:=⟨ba,bb+k,none⟩) (v:=.int .u8 (b.getD k 0)) bd<|Pl 1<|nt<|sq<|sq<|?_
 refine go<|Pl 3<|L0<|aR f 2<|Pl 1<|nt<|cb ((decide (0<T.skip))) (fun Y=>?_) (fun Y=>?_)
 have z:=of_decide_eq_true Y
 refine sg<|Pl 3<|L0<|aR f 2<|L0<|Oi (T.skip-1)<|Pl 2<|L0<|bO f 2 #[.int .i64 T.dir,.slice Ah T.held.length ch,.int .i64 (T.skip-1)] fun bM be C=>nt<|xt<|tx<|bx<|tn<|go<|?_
 refine L0<|Oi (((k:Nat) : Int)+1)<|Pl 1<|nl<|?_
 have a2:=nV (T:=T) (c:=(b.getD k 0)) z
 have a3:=SM.byte_ok hok (i8 hrb k) a2
 exact dZ ((k+1),(SM.mk T.dir T.held (T.skip-1)),L,Ah,ch,Bq,cq,n) ⟨(u1 l C im),be,(am j C (fun x hx=>(aa (fun e=>(bJ f j (by decide)) (e▸hx)) ax)) (fun _ _ h=>h)),(am a C (fun x hx=>(aa (fun e=>(aq (aj hb) lr a) (e▸hx)) ax)) (fun x cs q=>aZ.upd C (dr f (by decide) bv) q)),(Nat.le_trans hnl C.size),(aM.far u C (cP hdg dh)),(by(try dsimp only);exact kL (by omega) hpj a2),(by(try dsimp only);exact a3.1),(by(try dsimp only);have q:=SM.ok_le a3.1;exact q),(by(try dsimp only);omega),(by(try dsimp only);(try simp only[List.length_append,List.length_cons,List.length_nil]);omega),(by(try dsimp only);exact hat0),(by(try dsimp only);exact hn0l),(by(try dsimp only);exact hlow)⟩ (by omega)
 have z:=of_decide_eq_false Y
 refine bB<|sg<|Pl 4<|L0<|aR f 1<|Pl 1<|L0<|fk (m:=1) (e:=5) #[.int .u8 (b.getD k 0)] fun bN bP bf bg o=>?_
 have bh:=ir bf (xs:=[(b.getD k 0)]) (by as_aux_lemma=>kernel_rfl) (aF (by omega) cV) (by(try simp only[List.length_cons,List.length_nil]);omega) bg
 refine L0<|ge (R:=kQ) (xs:=T.held) (ys:=([(b.getD k 0)])) (.int .u8 0) 1 1 (am j o (fun x hx=>ax) (fun _ _ h=>h)) (bh).rd mH (fun _ _ _ _ h=>h) (by(try simp only[List.length_append,List.length_cons,List.length_nil,aT]);omega) (Nat.le_trans hbs (le l.size o.size)) fun a4 a5 bQ r J a6=>Pl 2<|?_
 have a7:=ut (au.mono (S':=(ob Ah++[])) o av) J (ap il av)
 have E:=au.blk a7 (aK (bJ f j (by decide)) ax) f
 refine L0<|bO E 1 #[.int .i64 T.dir,.slice a4 ((T.held++[(b.getD k 0)]).length) a5,.int .i64 T.skip] fun bR s t=>ng<|Pl 1<|?_
 have F:=u1 (au.mono (S':=(ob Ah++(g :: []))) a7 (ap il av)) t im
 have K:=ut l F (ap (gD hat0 il lr) (ac im av))
 refine vB (SM.mk T.dir (T.held++[(b.getD k 0)]) T.skip) (fun i=>?_) (fun i=>?_) (fun i=>?_) (fun i=>?_)
 have a8:=am r t (fun x hx=>(aa (fun e=>(bJ E r (by decide)) (e▸hx)) ax)) (fun _ _ h=>h)
 refine L0<|Oc<|m1 (kH (S:=(SM.mk T.dir (T.held++[(b.getD k 0)]) T.skip)) s (a8).rd i) fun bS M=>Pl 1<|ng<|Pl 2<|nt<|c0<|sk<|bn<|tn<|go<|?_
 refine L0<|Oi (((k:Nat) : Int)+1)<|Pl 1<|nl<|?_
 have N:=aE F M
 have a9:=sC (T:=T) (c:=(b.getD k 0)) z i
 have ab:=SM.byte_ok hok (i8 hrb k) a9
 exact dZ ((k+1),(SM.mk T.dir (T.held++[(b.getD k 0)]) T.skip),L,a4,a5,Bq,cq,n) ⟨(aE K M),(ub M s),(am a8 M (fun x hx=>ax) (fun _ _ h=>h)),(am a N (fun x hx=>(aK ((bY a j (by decide)) x hx) (aa (fun e=>(aq (aj hb) lr a) (e▸hx)) ax))) (fun x cs q=>aZ.upd N (eO hlow (dr f (by decide) bv)) q)),(Nat.le_trans hnl N.size),(aM.far u N (cj (dP hda hdl hat0) (cP hdg dh))),(by(try dsimp only);exact kL (by omega) hpj a9),(by(try dsimp only);exact ab.1),(by(try dsimp only);have q:=SM.ok_le ab.1;exact q),(by(try dsimp only);omega),(by(try dsimp only);(try simp only[List.length_append,List.length_cons,List.length_nil]);omega),(by(try dsimp only);exact(fX a6 hat0 (le l.size o.size))),(by(try dsimp only);exact hn0l),(by(try dsimp only);exact(mE a6 hlow (Nat.le_trans hnl o.size)))⟩ (by omega)
 have ad:=am r t (fun x hx=>(aa (fun e=>(bJ E r (by decide)) (e▸hx)) ax)) (fun _ _ h=>h)
 refine L0<|Oc<|m1 (jE (S:=(SM.mk T.dir (T.held++[(b.getD k 0)]) T.skip)) s (ad).rd i) fun bT O=>Pl 1<|ng<|Pl 2<|nt<|c1<|go<|Pl 2<|?_
 refine L0<|eP #[.pointer (some ⟨g,0,none⟩)] #[] (args:=#[.pointer (some ⟨g,0,none⟩)])<|mw (lx (S:=(SM.mk T.dir (T.held++[(b.getD k 0)]) T.skip)) (ub O s) ((am ad O (fun x hx=>ax) (fun _ _ h=>h))).rd (tL (by rw[i];decide))) fun bV bW Z bi bX bZ bj ae=>?_
 have af:=uz O ae
 have G:=u1 F af im
 have ag:=am a G (fun x hx=>(aK ((bY a j (by decide)) x hx) (aa (fun e=>(aq (aj hb) lr a) (e▸hx)) ax))) (fun x cs q=>aZ.upd G (eO hlow (dr f (by decide) bv)) q)
 have bl:n≤Z.heap.size:=Nat.le_trans hnl G.size
 refine L0<|ge (R:=aZ Z.heap.size) (xs:=L) (ys:=([Ev.bad 3])) (.agg #[.int .i64 0,.int .u8 0,.int .u16 0,.int .u8 0,.int .u8 0,.int .u16 0,.int .u16 0,.int .u16 0,.int .u16 0,.int .u16 0,.int .u16 0,.int .u16 0,.int .u16 0,.int .u16 0,.int .u16 0,.slice none 0 0,.slice none 0 0,.slice none 0 0,.slice none 0 0,.int .u8 0,.int .u8 0,.int .u8 0,.int .u8 0,.int .u8 0,.slice none 0 0]) 25 168 (cv.up bl (Nat.le_refl _) ag) (f6.low bi).rd aZ.ones (fun w' hv x cs q=>aZ.upd hv (fN ag (by decide) bv) q) (by(try simp only[List.length_append,List.length_cons,List.length_nil,aT]);omega) (le (le (le (le (le l.size o.size) J.size) t.size) O.size) ae.size) fun bm bo c2 bp P c3=>Pl 1<|nl<|bn<|tn<|go<|L0<|Oi (((k:Nat) : Int)+1)<|Pl 1<|nl<|?_
 have ah:=rT (T:=T) (c:=(b.getD k 0)) z i
 have ai:=SM.byte_ok hok (i8 hrb k) ah
 exact dZ ((k+1),(SM.mk T.dir [] (SM.mk T.dir (T.held++[(b.getD k 0)]) T.skip).size),(L++[Ev.bad 3]),none,0,bm,bo,Z.heap.size) ⟨(ut K (ut (au.mono (S':=(g :: (ob Bq++[]))) af (ac im av)) P (ap il av)) (ac im (ap (bt a lr) av))),(au.blk P (aK (aq (aj hb) lr a) ax) bj),(aN.nil base _ _ kQ _),bp,P.size,(aM.far u (ut (au.mono (S':=(ob Ah++(g :: (ob Bq++[])))) G (ap il (ac im av))) P (ap il av)) (cj (dP hda hdl hat0) (cP hdg (cj (dT hdl a (Nat.le_refl _)) dh)))),(by(try dsimp only);exact gy (by omega) hpj ah),(by(try dsimp only);exact ai.1),(by(try dsimp only);have q:=SM.ok_le ai.1;exact q),(by(try dsimp only);omega),(by(try dsimp only);(try simp only[List.length_append,List.length_cons,List.length_nil]);omega),(by(try dsimp only);exact d7),(by(try dsimp only);exact Nat.le_trans hn0l (Nat.le_trans hnl G.size)),(by(try dsimp only);exact bU)⟩ (by omega)
 have ak:=am r t (fun x hx=>(aa (fun e=>(bJ E r (by decide)) (e▸hx)) ax)) (fun _ _ h=>h)
 refine L0<|Oc<|m1 (k9 (S:=(SM.mk T.dir (T.held++[(b.getD k 0)]) T.skip)) s (ak).rd i) fun c4 Q=>Pl 1<|ng<|Pl 2<|nt<|c1<|go<|Pl 2<|?_
 refine L0<|eP #[.pointer (some ⟨g,0,none⟩)] #[] (args:=#[.pointer (some ⟨g,0,none⟩)])<|mw (kD (S:=(SM.mk T.dir (T.held++[(b.getD k 0)]) T.skip)) (ub Q s) ((am ak Q (fun x hx=>ax) (fun _ _ h=>h))).rd (tL (by rw[i];decide))) fun c5 c6 a0 bq c7 c8 br al=>?_
 have an:=uz Q al
 have H:=u1 F an im
 have ao:=am a H (fun x hx=>(aK ((bY a j (by decide)) x hx) (aa (fun e=>(aq (aj hb) lr a) (e▸hx)) ax))) (fun x cs q=>aZ.upd H (eO hlow (dr f (by decide) bv)) q)
 have bs:n≤a0.heap.size:=Nat.le_trans hnl H.size
 refine L0<|ge (R:=aZ a0.heap.size) (xs:=L) (ys:=([Ev.bad 5])) (.agg #[.int .i64 0,.int .u8 0,.int .u16 0,.int .u8 0,.int .u8 0,.int .u16 0,.int .u16 0,.int .u16 0,.int .u16 0,.int .u16 0,.int .u16 0,.int .u16 0,.int .u16 0,.int .u16 0,.int .u16 0,.slice none 0 0,.slice none 0 0,.slice none 0 0,.slice none 0 0,.int .u8 0,.int .u8 0,.int .u8 0,.int .u8 0,.int .u8 0,.slice none 0 0]) 25 168 (cv.up bs (Nat.le_refl _) ao) (f6.low bq).rd aZ.ones (fun w' hv x cs q=>aZ.upd hv (fN ao (by decide) bv) q) (by(try simp only[List.length_append,List.length_cons,List.length_nil,aT]);omega) (le (le (le (le (le l.size o.size) J.size) t.size) Q.size) al.size) fun bu bw c9 bz U cc=>Pl 1<|nl<|bn<|tn<|go<|L0<|Oi (((k:Nat) : Int)+1)<|Pl 1<|nl<|?_
 have ar:=rQ (T:=T) (c:=(b.getD k 0)) z i
 have aw:=SM.byte_ok hok (i8 hrb k) ar
 exact dZ ((k+1),(SM.mk T.dir [] (SM.mk T.dir (T.held++[(b.getD k 0)]) T.skip).size),(L++[Ev.bad 5]),none,0,bu,bw,a0.heap.size) ⟨(ut K (ut (au.mono (S':=(g :: (ob Bq++[]))) an (ac im av)) U (ap il av)) (ac im (ap (bt a lr) av))),(au.blk U (aK (aq (aj hb) lr a) ax) br),(aN.nil base _ _ kQ _),bz,U.size,(aM.far u (ut (au.mono (S':=(ob Ah++(g :: (ob Bq++[])))) H (ap il (ac im av))) U (ap il av)) (cj (dP hda hdl hat0) (cP hdg (cj (dT hdl a (Nat.le_refl _)) dh)))),(by(try dsimp only);exact gy (by omega) hpj ar),(by(try dsimp only);exact aw.1),(by(try dsimp only);have q:=SM.ok_le aw.1;exact q),(by(try dsimp only);omega),(by(try dsimp only);(try simp only[List.length_append,List.length_cons,List.length_nil]);omega),(by(try dsimp only);exact d7),(by(try dsimp only);exact Nat.le_trans hn0l (Nat.le_trans hnl H.size)),(by(try dsimp only);exact bU)⟩ (by omega)
 have ay:=am r t (fun x hx=>(aa (fun e=>(bJ E r (by decide)) (e▸hx)) ax)) (fun _ _ h=>h)
 refine L0<|Oc<|m1 (kA (S:=(SM.mk T.dir (T.held++[(b.getD k 0)]) T.skip)) s (ay).rd i) fun cd V=>Pl 1<|ng<|Pl 2<|nt<|c1<|go<|Pl 2<|?_
 refine pr (ca T.dir (T.held++[(b.getD k 0)])) fun az aA aB=>?_
 refine L0<|eP #[.pointer (some ⟨g,0,none⟩)] #[] (args:=#[.pointer (some ⟨g,0,none⟩)])<|mw (iq (d:=T.dir) (h:=T.held++[(b.getD k 0)]) (k:=T.skip) aB (ub V s) ((am ay V (fun x hx=>ax) (fun _ _ h=>h))).rd (by simp only[List.length_append,List.length_cons,List.length_nil];omega)) fun ce cf a1 bA cg ci bC aC=>?_
 have aD:=uz V aC
 have I:=u1 F aD im
 have aG:=am a I (fun x hx=>(aK ((bY a j (by decide)) x hx) (aa (fun e=>(aq (aj hb) lr a) (e▸hx)) ax))) (fun x cs q=>aZ.upd I (eO hlow (dr f (by decide) bv)) q)
 have bD:n≤a1.heap.size:=Nat.le_trans hnl I.size
 refine L0<|ge (R:=aZ a1.heap.size) (xs:=L) (ys:=([Ev.mk aA az])) (.agg #[.int .i64 0,.int .u8 0,.int .u16 0,.int .u8 0,.int .u8 0,.int .u16 0,.int .u16 0,.int .u16 0,.int .u16 0,.int .u16 0,.int .u16 0,.int .u16 0,.int .u16 0,.int .u16 0,.int .u16 0,.slice none 0 0,.slice none 0 0,.slice none 0 0,.slice none 0 0,.int .u8 0,.int .u8 0,.int .u8 0,.int .u8 0,.int .u8 0,.slice none 0 0]) 25 168 (cv.up bD (Nat.le_refl _) aG) (f6.low bA).rd aZ.ones (fun w' hv x cs q=>aZ.upd hv (fN aG (by decide) bv) q) (by(try simp only[List.length_append,List.length_cons,List.length_nil,aT]);omega) (le (le (le (le (le l.size o.size) J.size) t.size) V.size) aC.size) fun bE bF ck bG W cl=>Pl 1<|nl<|bn<|tn<|go<|L0<|Oi (((k:Nat) : Int)+1)<|Pl 1<|nl<|?_
 have aI:=s7 (T:=T) (c:=(b.getD k 0)) z i aB
 have aJ:=SM.byte_ok hok (i8 hrb k) aI
 exact dZ ((k+1),(SM.mk T.dir [] T.skip),(L++[Ev.mk aA az]),none,0,bE,bF,a1.heap.size) ⟨(ut K (ut (au.mono (S':=(g :: (ob Bq++[]))) aD (ac im av)) W (ap il av)) (ac im (ap (bt a lr) av))),(au.blk W (aK (aq (aj hb) lr a) ax) bC),(aN.nil base _ _ kQ _),bG,W.size,(aM.far u (ut (au.mono (S':=(ob Ah++(g :: (ob Bq++[])))) I (ap il (ac im av))) W (ap il av)) (cj (dP hda hdl hat0) (cP hdg (cj (dT hdl a (Nat.le_refl _)) dh)))),(by(try dsimp only);exact gy (by omega) hpj aI),(by(try dsimp only);exact aJ.1),(by(try dsimp only);have q:=SM.ok_le aJ.1;exact q),(by(try dsimp only);omega),(by(try dsimp only);(try simp only[List.length_append,List.length_cons,List.length_nil]);omega),(by(try dsimp only);exact d7),(by(try dsimp only);exact Nat.le_trans hn0l (Nat.le_trans hnl I.size)),(by(try dsimp only);exact bU)⟩ (by omega)
 have b9:=of_decide_eq_false X
 refine xt<|tx<|tx<|bx<|tn<|sg<|Pl 2<|nt<|rt<|rr (.slice Bq L.length cq)<|?_
 have hs:S.feed b=(T,L):=by rw[hpj,List.take_of_length_le (by omega)]
 rw[hs]
 exact⟨_,Ah,ch,n,rfl,a,f,j,hat0,⟨hn0l,Nat.le_trans hnl lr⟩,hlow,l⟩
open Go.RowKit
def c5 (n base:Nat)(w:World)(g:Nat)(A:Option Addr)(cp:Nat)(S:SM) : Prop:=io w g S A cp∧cN base w (.slice A S.held.length cp) S.held∧S.ok∧n≤w.heap.size∧(∀ x,x∈ob A→n≤x)∧base≤w.heap.size
section
variable {n base g cp:Nat}{w w':World}{A:Option Addr}{S:SM}{X:List Nat}
theorem c5.row(h:c5 n base w g A cp S) : cN base w (.slice A S.held.length cp) S.held:=h.2.1
theorem c5.low(h:c5 n base w g A cp S) : ∀ x,x∈ob A→n≤x:=h.2.2.2.2.1
theorem c5.nle(h:c5 n base w g A cp S) : n≤w.heap.size:=h.2.2.2.1
theorem c5.le(h:c5 n base w g A cp S) : S.held.length≤259:=SM.ok_le h.2.2.1
theorem c5.lt(h:c5 n base w g A cp S) : g<w.heap.size:=aj h.1
theorem c5.cells(h:c5 n base w g A cp S) : ∃ cs fr,w.heap[g]? = some (.cells cs 131 fr):=⟨_,_,h.1⟩
theorem c5.upd(h:c5 n base w g A cp S)(hu:au X w w')(hg:g∉X)(hr:∀ x,x∈ob A→x∉X) : c5 n base w' g A cp S :=
  ⟨hu.blk hg h.1,am h.2.1 hu hr (fun _ _ q=>q),h.2.2.1,Nat.le_trans h.2.2.2.1 hu.size,h.2.2.2.2.1,Nat.le_trans h.2.2.2.2.2 hu.size⟩
end
theorem SM.feed_ok:∀ (b:List Int)(S:SM)(L:List Ev),S.ok→(∀ x,x∈b→0≤x∧x<256)→(b.foldl (fun(p:SM × List Ev) c=>((p.1.byte c).1,p.2++(p.1.byte c).2)) (S,L)).1.ok∧(b.foldl (fun(p:SM × List Ev) c=>((p.1.byte c).1,p.2++(p.1.byte c).2)) (S,L)).2.length≤L.length+b.length
  | [],S,L,h,_=>⟨h,Nat.le_refl _⟩
  | c :: t,S,L,h,hb=>by
    have k:=SM.byte_ok (S2:=(S.byte c).1) (L2:=(S.byte c).2) h (hb c (List.mem_cons_self ..)) rfl
    have q:=SM.feed_ok t (S.byte c).1 (L++(S.byte c).2) k.1 (fun x hx=>hb x (List.mem_cons_of_mem _ hx))
    refine⟨q.1,Nat.le_trans q.2 ?_⟩
    rw[List.length_append,List.length_cons]
    omega
theorem SM.feed_le{S S2:SM}{b:List Int}{L:List Ev}(h:S.ok)(hb:∀ x,x∈b→0≤x∧x<256)(hX:S.feed b=(S2,L)) : L.length≤b.length:=by
  have q:=(SM.feed_ok b S [] h hb).2
  have e:L=(S.feed b).2:=(congrArg Prod.snd hX).symm
  rw[e]
  rw[List.length_nil,Nat.zero_add] at q
  exact q
def vU (n base:Nat)(S2:SM)(L:List Ev)(g:Nat)(A:Option Addr)(w:World)(e:Ending)(w':World) : Prop:=∃ v A2 cp2 n2,e = .returned v∧cv n2 w.heap.size w' v L∧c5 n2 base w' g A2 cp2 S2∧(∀ x,x∈ob A2→x∈ob A∨w.heap.size≤x)∧n≤n2∧au (g :: (ob A++[])) w w'
theorem lD{w:World}{n base g cp cpb nb:Nat}{S S2:SM}{L:List Ev}{A B:Option Addr}{m:Bool}{b:List Int}(hX:S.feed b=(S2,L))(h:c5 n base w g A cp S)(hsl:aM m w (.slice B nb cpb) b)(hdg:0<nb→∀ x,x∈ob B→x≠g)(hda:iV nb B (ob A))(hbl:b.length≤1048576) :
    Calls Tryz.prog 184 #[.pointer (some ⟨g,0,none⟩),.slice B nb cpb] w (vU n base S2 L g A w):=by
  obtain⟨h1,h2,h3,h4,h5,h6⟩:=h
  obtain rfl:nb=b.length:=by
    obtain⟨_,_,e,_⟩:=hsl.shape
    injection e
  refine(kK h1 h2 h6 h3 h4 h5 hsl hdg hda hbl).mono ?_
  rintro e w' ⟨v,A2,cp2,n2,he,k1,k2,k3,k4,⟨k5,k6⟩,k7,k8⟩
  have hok:=(SM.feed_ok b S [] h3 (aM.range hsl)).1
  rw[hX] at k1 k2 k3
  have e2:S2=(S.feed b).1:=(congrArg Prod.fst hX).symm
  exact⟨v,A2,cp2,n2,he,k1,⟨k2,k3,by rw[e2];exact hok,k6,k7,Nat.le_trans h6 k8.size⟩,k4,k5,k8⟩
theorem mB(d:Int){w:World}(hq:Calls Tryz.prog 48 #[.int .i64 d] w (fun e w'=>∃ g,e = .returned (.pointer (some ⟨g,0,none⟩))∧w.heap.size≤g∧io w' g ⟨d,[],0⟩ none 0∧au [] w w')) :
    Calls Tryz.prog 48 #[.int .i64 d] w (fun e w'=>∃ g,e = .returned (.pointer (some ⟨g,0,none⟩))∧w.heap.size≤g∧c5 w.heap.size w.heap.size w' g none 0 ⟨d,[],0⟩∧au [] w w'):=by
  refine hq.mono ?_
  rintro e w' ⟨g,he,h1,h2,h3⟩
  exact⟨g,he,h1,⟨h2,aN.nil ..,⟨⟨(show(0:Int)≤0 from by decide),(show(0:Int)<65536 from by decide)⟩,(fun x hx=>by cases hx),.inl (show 0<6 from by decide)⟩,h3.size,bU,h3.size⟩,h3⟩
theorem oX{w:World}{n base g cp:Nat}{S:SM}{A:Option Addr}(h:c5 n base w g A cp S) : Calls Tryz.prog 185 #[.pointer (some ⟨g,0,none⟩)] w (bg (.int .i64 ((S.held.length:Nat) : Int)) w):=lO h.1 h.2.1.rd
open Go.RowKit
section
variable {P:Program}{Q:Exit→Act→World→Prop}{n:Nat}{D:List Deferred}{F:Fr}{w:World}{c:Code}{l:Nat}
theorem vG(h:GC P c (Exit.noGoto Q) n D F w) : GC P (.scope c) Q n D F w:=⟨fun a ha=>wp_scope_straight (h.out a ha)⟩
theorem vO(h:GQ Q .normal n D F w) : GC P (.label l) Q n D F w:=⟨fun a ha=>wp_label (h.out a ha)⟩
theorem gr(h:GQ Q .ret n D F w) : GQ (Exit.noGoto Q) .ret n D F w:=⟨fun a ha=>h.out a ha⟩
end
open Go.RowKit
abbrev dt (xs:List Int) : Prop:=∀ x,x∈xs→0≤x∧x<256
theorem rg{x:Int}(h:0≤x∧x<256) : ((UInt8.ofNat x.toNat).toNat:Int)=x:=by
  simp only[UInt8.toNat_ofNat']
  omega
theorem fb{xs:List Int}{j:Nat}(hj:j<xs.length)(hs:j<(strOfNums xs).size) : (strOfNums xs)[j]=UInt8.ofNat (xs.getD j 0).toNat:=by
  show(strOfNums xs).data[j]=_
  simp[strOfNums,List.getD_eq_getElem?_getD,List.getElem?_eq_getElem hj]
theorem kz{P:Program}{w:World}{ev:Operand→Value}{o:Oper}{x ix:Operand}{t:TypeId}{xs:List Int}{k:IntKind}{i:Int}(j:Nat)(ho:o.op = .index t x ix)(ht:P.underlying t=some .string)(hx:ev x = .string (strOfNums xs))(hi:ev ix = .int k i)(hr:dt xs)(hj:i=(j:Int))(hlt:j<xs.length) : (execOp ev o).run P w = .ok (.value (.int .u8 (xs.getD j 0))) w:=by
  subst hj
  have hs:j<(strOfNums xs).size:=by rw[strOfNums_size];exact hlt
  have h:=run_index_string (P:=P) w t (strOfNums xs) k (j:Int) ht
  rw[dif_pos (by omega)] at h
  have hg:xs.getD j 0∈xs:=by
    rw[List.getD_eq_getElem?_getD,List.getElem?_eq_getElem hlt]
    exact List.getElem_mem hlt
  unfold execOp
  simp only[ho,hx,hi,Sem.run_bind,h,Result.andThen,Sem.run_pure]
  have e:((strOfNums xs)[((j:Nat) : Int).toNat]'(by simpa using hs))=UInt8.ofNat (xs.getD j 0).toNat:=by
    simp only[Int.toNat_natCast]
    exact fb hlt hs
  rw[e,rg (hr _ hg)]
theorem dV(xs:List Int)(a b:Nat)(hb:b≤xs.length) : (strOfNums xs).extract a b=strOfNums ((xs.take b).drop a):=by
  apply ByteArray.ext
  rw[ByteArray.data_extract]
  apply Array.toList_inj.1
  rw[Array.toList_extract]
  simp[strOfNums,List.extract,List.map_drop,List.map_take,List.drop_take]
theorem iO{P:Program}{w:World}{ev:Operand→Value}{o:Oper}{x y:Operand}{t:TypeId}{xs:List Int}{k:IntKind}{i:Int}(j:Nat)(ho:o.op = .slice t x (some y) none none)(ht:P.underlying t=some .string)(hx:ev x = .string (strOfNums xs))(hy:ev y = .int k i)(hj:i=(j:Int))(hlt:j≤xs.length) : (execOp ev o).run P w = .ok (.value (.string (strOfNums (xs.drop j)))) w:=by
  subst hj
  have hu:(underlying t).run P w = .ok .string w:=run_underlying ht w
  have h:=run_slice_string_l (P:=P) w t (strOfNums xs) ht k (j:Int) (by omega) (by rw[strOfNums_size];omega)
  rw[strOfNums_size,dV _ _ _ (Nat.le_refl _),List.take_length,Int.toNat_natCast] at h
  unfold execOp
  simp only[ho,Option.map_some,Option.map_none,hx,hy,Instr.sliceAt,Sem.run_bind,hu,h,Result.andThen,Sem.run_pure]
theorem nX{P:Program}{w:World}{ev:Operand→Value}{o:Oper}{x y:Operand}{t:TypeId}{xs:List Int}{k:IntKind}{i:Int}(j:Nat)(ho:o.op = .slice t x none (some y) none)(ht:P.underlying t=some .string)(hx:ev x = .string (strOfNums xs))(hy:ev y = .int k i)(hj:i=(j:Int))(hlt:j≤xs.length) : (execOp ev o).run P w = .ok (.value (.string (strOfNums (xs.take j)))) w:=by
  subst hj
  have hu:(underlying t).run P w = .ok .string w:=run_underlying ht w
  have h:=run_slice_string_h (P:=P) w t (strOfNums xs) ht k (j:Int) (by omega) (by rw[strOfNums_size];omega)
  rw[Int.toNat_natCast,dV _ _ _ hlt,List.drop_zero] at h
  unfold execOp
  simp only[ho,Option.map_some,Option.map_none,hx,hy,Instr.sliceAt,Sem.run_bind,hu,h,Result.andThen,Sem.run_pure]
theorem fY{xs:List Int}(h:dt xs)(j:Nat) : dt (xs.drop j):=fun x hx=>h x (List.mem_of_mem_drop hx)
theorem j0{xs:List Int}(h:dt xs)(j:Nat) : dt (xs.take j):=fun x hx=>h x (List.mem_of_mem_take hx)
theorem qA{xs ys:List Int}(hx:dt xs)(hy:dt ys) : ((strOfNums xs).toList==(strOfNums ys).toList)=decide (xs=ys):=by
  have e:∀ zs:List Int,(strOfNums zs).toList=zs.map fun n=>UInt8.ofNat n.toNat:=fun zs=>by
    rw[ByteArray.toList_eq]
    rfl
  rw[e,e]
  by_cases h:xs=ys
  · subst h;simp
  · rw[decide_eq_false h,beq_eq_false_iff_ne]
    exact fun k=>h (fZ xs ys hx hy k)
def lz (base:Nat)(w:World)(v:Value)(xs:List Int) : Prop:=∃ g cap cur n,v = .slice (some ⟨g,0,none⟩) xs.length cap∧base≤g∧w.heap[g]? = some (.cells cur 5 (n,n+1))∧xs.length≤n∧xs.length≤cap∧cap≤maxLen∧cur.toList.take xs.length=xs.map (Value.int .u8)∧dt xs
theorem lz.rd{base:Nat}{w:World}{v:Value}{xs:List Int}(h:lz base w v xs) : aM true w v xs:=by
  obtain⟨g,cap,cur,n,rfl,hb,hh,h1,h2,h3,h4,h5⟩:=h
  refine⟨_,_,rfl,h2,h3,(fun hA=>by cases hA),fun hp=>⟨g,0,cur,_,_,rfl,hh,fun _=>rfl,fun j x hj=>?_⟩⟩
  refine⟨[.int .u8 x],rfl,⟨rfl,h5 x (List.mem_of_getElem? hj)⟩,fun i u hi=>?_⟩
  cases i with
  | succ i=>simp at hi
  | zero =>
    have hi:Value.int .u8 x=u:=by simpa using hi
    subst hi
    have h6:(xs.map (Value.int .u8))[j]? = some (.int .u8 x):=by rw[List.getElem?_map,hj];rfl
    rw[← h4,List.getElem?_take] at h6
    split at h6
    · simpa using h6
    · cases h6
theorem lz.shape{base:Nat}{w:World}{v:Value}{xs:List Int}(h:lz base w v xs) : ∃ g cp,v = .slice (some ⟨g,0,none⟩) xs.length cp:=by
  obtain⟨g,cap,cur,n,hv,_⟩:=h
  exact⟨g,cap,hv⟩
section
variable {P:Program}{n:Nat}{D:List Deferred}{F:Fr}{w:World}{K:Fr→World→Prop}{Q:Exit→Act→World→Prop}{d:Option Tmp}{t:TypeId}{s:String}{af:Array Edge}{gu:Option (Nat × Bool)}
theorem md{a:Act}{o:Oper}{N:Option Tmp}{K:Act→World→Prop}{w1:World}(v:Value)(hN:o.dst=N)(hr:(execOp a.eval o).run P w = .ok (.value v) w1)(h:K (a.put N v) w1) : OW P o a w K Q:=by
  refine OW.mk ?_
  subst hN
  unfold Oper.wp
  rw[hr]
  exact h
theorem uB{ty:TypeId}{x:Operand}{sv:ByteArray}(hs:P.underlying ty=some .string)(h:∀ g w',w.heap.size≤g→w'.heap[g]? = some (.stringIter sv 0)→au [] w w'→K (pt d (.pointer (some ⟨g,0,none⟩)) F) w')
    (hx:cX F x=some (.string sv):=by kernel_rfl) (hk:dw n d=true:=by kernel_rfl) : OG P ⟨d,.range ty x,t,s,af,gu⟩ n D F w K Q:=by
  refine⟨fun a ha K' hK=>md (.pointer (some ⟨w.heap.size,0,none⟩)) rfl (w1:=w.alloc (.stringIter sv 0)) ?_ (hK _ _ _ (h _ _ (Nat.le_refl _) (cU _ _) ((au.refl _ _).alloc _)) (ha.put hk))⟩
  have hx':=ha.ev hx
  unfold execOp
  simp only[hx',Sem.run_bind,run_range_string w ty sv hs,Result.andThen,Sem.run_pure]
  rfl
theorem nn{xs:List Int}(hr:dt xs)(h0:0<xs.length) : ((((Utf8.decode (strOfNums xs) 0).1:Nat) : Int)=58↔xs.getD 0 0=58):=by
  have hs:0<(strOfNums xs).size:=by rw[strOfNums_size];exact h0
  have hm:xs.getD 0 0∈xs:=by
    rw[List.getD_eq_getElem?_getD,List.getElem?_eq_getElem h0]
    exact List.getElem_mem h0
  have hb:=hr _ hm
  have h1:((strOfNums xs).get! 0).toNat=(xs.getD 0 0).toNat:=by
    have e:(strOfNums xs).get! 0=(strOfNums xs)[0]:=by
      show(strOfNums xs).data[0]! = _
      rw[getElem!_pos (strOfNums xs).data 0 hs]
      rfl
    rw[e,fb h0 hs]
    simp only[UInt8.toNat_ofNat']
    omega
  unfold Utf8.decode
  simp only[Nat.zero_add,h1,Utf8.runeError]
  split
  · omega
  · split
    · split
      · rename_i h2 h3 h4;simp only;omega
      · simp only;omega
    · split
      · split
        · rename_i h2 h3 h4 h5;simp only[Bool.and_eq_true,decide_eq_true_eq] at h5;simp only;omega
        · simp only;omega
      · split
        · split
          · rename_i h2 h3 h4 h5 h6;simp only[Bool.and_eq_true,decide_eq_true_eq] at h6;simp only;omega
          · simp only;omega
        · simp only;omega
theorem vT{x:Operand}{xs:List Int}{r:Nat}(hr:dt xs)(h0:0<xs.length)(B:w.heap[r]? = some (.stringIter (strOfNums xs) 0))(h:∀ c w',(c=58↔xs.getD 0 0=58)→au [r] w w'→K (pt d (.tuple #[.bool true,.int .i64 0,.int .i32 c]) F) w')
    (hx:cX F x=some (.pointer (some ⟨r,0,none⟩)):=by kernel_rfl) (hk:dw n d=true:=by kernel_rfl) : OG P ⟨d,.next x true,t,s,af,gu⟩ n D F w K Q:=by
  have hlt:=aj B
  have hrun:=Lib.run_next_any_at (P:=P) w r (strOfNums xs) 0 t B (by rw[strOfNums_size];exact h0)
  refine⟨fun a ha K' hK=>md _ rfl (w1:=w.iterAt r (strOfNums xs) (0+(Utf8.decode (strOfNums xs) 0).2)) ?_ (hK _ _ _ (h (((Utf8.decode (strOfNums xs) 0).1:Nat) : Int) _ (nn hr h0) ?_) (ha.put hk))⟩
  · have hx':=ha.ev hx
    unfold execOp
    simp only[hx',Sem.run_bind,hrun,Result.andThen,Sem.run_pure]
    rfl
  · refine⟨rfl,rfl,rfl,?_,fun k hk hn=>?_⟩
    · simp[World.iterAt]
    · have:r≠k:=fun e=>hn (by simp[e])
      simp[World.iterAt,Array.getElem?_setIfInBounds,this]
end
open Go.RowKit
def fd (xs ys:List Int) : Bool:=decide (((ys.length:Nat) : Int)≤((xs.length:Nat) : Int))&&decide (xs.drop (((xs.length:Nat) : Int)-((ys.length:Nat) : Int)).toNat=ys)
theorem qJ{m m2:Bool}{A B:Option Addr}{n n2 c c2:Nat}{xs ys:List Int}{w:World}(h1:aM m w (.slice A n c) xs)(h2:aM m2 w (.slice B n2 c2) ys) : Calls Tryz.prog 172 #[.slice A n c,.slice B n2 c2] w (bg (.bool (decide (xs=ys))) w):=by
 refine en 10 Tryz.func172 rfl<|sg<|Pl 1<|ng<|Pl 1<|L0<|gw (.string (strOfNums xs)) (bR (A:=A) (n:=n) (c:=c) rfl (by kernel_rfl) Tryz.underlying27 Tryz.underlying5 Tryz.underlying9 h1)<|Pl 1<|L0<|gw (.string (strOfNums ys)) (bR (A:=B) (n:=n2) (c:=c2) rfl (by kernel_rfl) Tryz.underlying27 Tryz.underlying5 Tryz.underlying9 h2)<|L0<|gw (.bool (decide (xs=ys))) (dL (a:=(strOfNums xs)) (b:=(strOfNums ys)) rfl (by kernel_rfl) (by kernel_rfl) (gc h1 h2))<|Pl 1<|nl<|?_
 refine tn<|rt<|rr (.bool (decide (xs=ys)))<|?_
 exact⟨rfl,(au.refl [] _)⟩
theorem oz{m m2:Bool}{A B:Option Addr}{c c2:Nat}{xs ys:List Int}{w:World}(h1:aM m w (.slice A xs.length c) xs)(h2:aM m2 w (.slice B ys.length c2) ys) : Calls Tryz.prog 170 #[.slice A xs.length c,.slice B ys.length c2] w (bg (.bool (fd xs ys)) w):=by
 have hz1:=aH.len h1
 have hz2:=aH.len h2
 have hz3:=aH.cap h1
 refine en 21 Tryz.func170 rfl<|sg<|Pl 1<|ng<|Pl 6<|bl 10 ((decide (((ys.length:Nat) : Int)≤((xs.length:Nat) : Int)))) (fun a=>?_) (fun a=>?_)
 have b:=of_decide_eq_true a
 refine Pl 5<|L1<|Oi (((xs.length:Nat) : Int)-((ys.length:Nat) : Int))<|pf (iC (P:=Tryz.prog) 27 5 1 Tryz.underlying27 rfl rfl A xs.length c (lo:=(((xs.length:Nat) : Int)-((ys.length:Nat) : Int))) (((((xs.length:Nat) : Int)-((ys.length:Nat) : Int))).toNat) (by omega) (by omega)) fun d hrun12 e=>L1<|gw (.slice d (xs.length-(((((xs.length:Nat) : Int)-((ys.length:Nat) : Int))).toNat)) (c-(((((xs.length:Nat) : Int)-((ys.length:Nat) : Int))).toNat))) (dF (kl:=.i64) (k:=(((xs.length:Nat) : Int)-((ys.length:Nat) : Int))) (A:=A) (n:=xs.length) (c:=c) rfl Tryz.underlying27 (by kernel_rfl) (by kernel_rfl) (hrun12 _ _))<|Pl 1<|L1<|Oc<|m1 (qJ (xs:=(xs.drop (((((xs.length:Nat) : Int)-((ys.length:Nat) : Int))).toNat))) (ys:=ys) (e _ _ _ _ _ h1) h2) fun g f=>Pl 2<|nt<|rt<|rr (.bool (decide ((xs.drop (((((xs.length:Nat) : Int)-((ys.length:Nat) : Int))).toNat))=ys)))<|?_
 have hs:(decide ((xs.drop (((((xs.length:Nat) : Int)-((ys.length:Nat) : Int))).toNat))=ys))=fd xs ys:=by unfold fd;simp only[a,bs,if_true,if_false,decide_true,decide_false,Bool.true_and,Bool.false_and,Bool.and_true,Bool.and_false]
 rw[hs]
 exact⟨rfl,f⟩
 have b:=of_decide_eq_false a
 refine Pl 11<|nt<|rt<|rr (.bool false)<|?_
 have hs:false=fd xs ys:=by unfold fd;simp only[a,bs,if_true,if_false,decide_true,decide_false,Bool.true_and,Bool.false_and,Bool.and_true,Bool.and_false]
 rw[hs]
 exact⟨rfl,(au.refl [] _)⟩
theorem qX{m m2:Bool}{u v:Value}{xs ys:List Int}{w:World}(h1:aM m w u xs)(h2:aM m2 w v ys) : Calls Tryz.prog 170 #[u,v] w (bg (.bool (fd xs ys)) w):=by
  obtain⟨A,c,rfl,_,_⟩:=h1.shape
  obtain⟨B,c2,rfl,_,_⟩:=h2.shape
  exact oz h1 h2
end Go.Proofs.YtpglhicfhppaiaaGreat
namespace Go.Proofs.YtpglhicfhppaiaaGreat
def pE (b:List Int) : Nat→Int
  | 0=>0
  | k+1=>(pE b k+b.getD k 0)%256
def rR (b:List Int) : Int:=pE b b.length
def kN (b:List Int) : Int:=(0-rR b)%256
def fc (b:List Int) : Bool:=decide (0<((b.length:Nat) : Int))&&(kN b==0)
def eb (n:Int) : Int:=if n<10 then 48+n else 55+n
def bL (c:Int) : Int:=if 48≤c∧c≤57 then c-48 else if 65≤c∧c≤70 then c-55 else -1
def pP:List Int→List Int
  | []=>[]
  | c :: b=>eb (c/16) :: eb (c%16) :: pP b
def bH:List Int→Option (List Int)
  | []=>some []
  | [_]=>none
  | a :: b :: r=>if bL a<0∨bL b<0 then none else (bH r).map fun l=>(16*bL a+bL b)%256 :: l
theorem nQ{n:Int}(h:0≤n∧n<16) : bL (eb n)=n:=by
  unfold eb
  split<;>unfold bL
  · rw[if_pos (by omega)];omega
  · rw[if_neg (by omega),if_pos (by omega)];omega
theorem gi{c:Int}(h:0≤bL c) : eb (bL c)=c∧bL c<16:=by
  unfold bL at h ⊢
  split at h
  · rename_i h1
    rw[if_pos h1]
    unfold eb
    rw[if_pos (by omega)]
    omega
  · rename_i h1
    split at h
    · rename_i h2
      rw[if_neg h1,if_pos h2]
      unfold eb
      rw[if_neg (by omega)]
      omega
    · omega
theorem jl(c:Int) : bL c<16∧-1≤bL c:=by unfold bL;split;omega;split<;>omega
theorem jQ:∀ b:List Int,(pP b).length=2*b.length
  | []=>rfl
  | c :: b=>by simp only[pP,List.length_cons,jQ b];omega
theorem i9:∀ {s x:List Int},bH s=some x→s=pP x∧∀ y,y∈x→0≤y∧y<256
  | [],x,h=>by
    injection h with h
    subst h
    exact⟨rfl,fun y hy=>by cases hy⟩
  | [_],x,h=>by cases h
  | a :: b :: r,x,h=>by
    simp only[bH] at h
    split at h
    · cases h
    · rename_i hd
      cases hr:bH r with
      | none=>rw[hr] at h;cases h
      | some l =>
        rw[hr] at h
        injection h with h
        obtain⟨h1,h2⟩:=i9 hr
        have ha:=gi (c:=a) (by omega)
        have hb:=gi (c:=b) (by omega)
        subst h
        refine⟨?_,fun y hy=>?_⟩
        · simp only[pP]
          rw[show(16*bL a+bL b)%256/16=bL a from by omega,show(16*bL a+bL b)%256%16=bL b from by omega,ha.1,hb.1,← h1]
        · rcases List.mem_cons.1 hy with rfl | hy
          · omega
          · exact h2 y hy
theorem lb{xs:List Int}{k:Nat}(h:2*k+1<xs.length)(ha:¬ bL (xs.getD (2*k) 0)<0)(hb:¬ bL (xs.getD (2*k+1) 0)<0) : bH (xs.drop (2*k))=(bH (xs.drop (2*(k+1)))).map fun l=>[(16*bL (xs.getD (2*k) 0)+bL (xs.getD (2*k+1) 0))%256]++l:=by
  have e1:xs.getD (2*k) 0=xs[2*k]:=by rw[List.getD_eq_getElem?_getD,List.getElem?_eq_getElem (by omega)];rfl
  have e2:xs.getD (2*k+1) 0=xs[2*k+1]:=by rw[List.getD_eq_getElem?_getD,List.getElem?_eq_getElem h];rfl
  rw[List.drop_eq_getElem_cons (show 2*k<xs.length by omega),List.drop_eq_getElem_cons h,← e1,← e2]
  simp only[bH]
  rw[if_neg (by omega),show 2*k+1+1=2*(k+1) by omega]
  rfl
theorem mJ{xs:List Int}{k:Nat}(h:2*k+1<xs.length)(hd:bL (xs.getD (2*k) 0)<0∨bL (xs.getD (2*k+1) 0)<0) : bH (xs.drop (2*k))=none:=by
  have e1:xs.getD (2*k) 0=xs[2*k]:=by rw[List.getD_eq_getElem?_getD,List.getElem?_eq_getElem (by omega)];rfl
  have e2:xs.getD (2*k+1) 0=xs[2*k+1]:=by rw[List.getD_eq_getElem?_getD,List.getElem?_eq_getElem h];rfl
  rw[List.drop_eq_getElem_cons (show 2*k<xs.length by omega),List.drop_eq_getElem_cons h,← e1,← e2]
  simp only[bH]
  rw[if_pos hd]
theorem iM:∀ {xs:List Int},xs.length%2≠0→bH xs=none
  | [],h=>by simp at h
  | [_],_=>rfl
  | a :: b :: r,h=>by
    simp only[bH]
    split
    · rfl
    · rw[iM (by simp only[List.length_cons] at h;omega)]
      rfl
theorem nh{s x:List Int}(h:bH s=some x) : s.length=2*x.length:=by
  obtain⟨h1,_⟩:=i9 h
  rw[h1,jQ]
theorem o8{xs L:List Int}{k:Nat}(h:bH xs=(bH (xs.drop (2*k))).map fun l=>L++l)(h1:¬ 2*k<xs.length) : bH xs=some L:=by
  rw[List.drop_eq_nil_of_le (by omega)] at h
  rw[h]
  simp[bH]
theorem lL{xs L:List Int}{k:Nat}(h:bH xs=(bH (xs.drop (2*k))).map fun l=>L++l)(h2:2*k+1<xs.length)(ha:¬ bL (xs.getD (2*k) 0)<0)(hb:¬ bL (xs.getD (2*k+1) 0)<0) : bH xs=(bH (xs.drop (2*(k+1)))).map fun l=>(L++[(16*bL (xs.getD (2*k) 0)+bL (xs.getD (2*k+1) 0))%256])++l:=by
  rw[h,lb h2 ha hb]
  cases bH (xs.drop (2*(k+1))) with
  | none=>rfl
  | some l=>simp
theorem pT{xs L:List Int}{k:Nat}(h:bH xs=(bH (xs.drop (2*k))).map fun l=>L++l)(h2:2*k+1<xs.length)(hd:bL (xs.getD (2*k) 0)<0∨bL (xs.getD (2*k+1) 0)<0) : bH xs=none:=by
  rw[h,mJ h2 hd]
  rfl
open Go.RowKit
theorem rk{w:World}{g:Nat}{c s:Int}(hg:w.heap[g]? = some (.cells #[.int .u8 s] 5 (0,0))) : Calls Tryz.prog 182 #[.int .u8 c,.pointer (some ⟨g,0,none⟩)] w (fun e w'=>e = .returned (.tuple #[])∧w'.heap[g]? = some (.cells #[.int .u8 ((s+c)%256)] 5 (0,0))∧au [g] w w'):=by
 refine en 6 Tryz.func182 rfl<|go<|L0<|aR hg 0<|Pl 2<|L0<|bO hg 0 #[.int .u8 ((s+c)%256)] fun d a b=>nl<|rm (.tuple #[])<|?_
 exact⟨rfl,a,b⟩
theorem nI{m:Bool}{A:Option Addr}{cp:Nat}{b:List Int}{w0 w:World}{g:Nat}(hu0:au [] w0 w)(hg0:w0.heap.size≤g)(hsl:aM m w0 (.slice A b.length cp) b)(hg:w.heap[g]? = some (.cells #[.int .u8 (pE b 0)] 5 (0,0))) :
    Calls Tryz.prog 181 #[.slice A b.length cp,.func (.func 182) #[] #[.pointer (some ⟨g,0,none⟩)]] w (fun e w'=>e = .returned (.tuple #[])∧w'.heap[g]? = some (.cells #[.int .u8 (rR b)] 5 (0,0))∧au [] w0 w'∧w.heap.size≤w'.heap.size):=by
 have hln:=aH.len hsl
 refine en 16 Tryz.func181 rfl<|sg<|Pl 3<|nt<|bk<|?_
 refine fR (fun x=>[(1,.func (.func 182) #[] #[.pointer (some ⟨g,0,none⟩)]),(6,.slice A b.length cp),(7,.int .i64 ((b.length:Nat) : Int)),(8,.int .i64 ((x:Nat) : Int))]) (fun(x:Nat) w'=>au [] w0 w'∧w.heap.size≤w'.heap.size∧w'.heap[g]? = some (.cells #[.int .u8 (pE b x)] 5 (0,0))∧(x≤b.length)) (fun x=>b.length-x) 0 ⟨hu0,lr,hg,(by(try dsimp only);omega)⟩ ?_
 rintro k j ⟨a,f,l,n⟩
 refine fz [(1,.func (.func 182) #[] #[.pointer (some ⟨g,0,none⟩)]),(6,.slice A b.length cp),(7,.int .i64 ((b.length:Nat) : Int)),(8,.int .i64 ((k:Nat) : Int))] ?_
 have h:j.heap[g]? = some (.cells #[.int .u8 (pE b k)] 5 (0,0)):=l
 have y:k≤b.length:=n
 refine sg<|Pl 1<|nt<|sq<|cb ((decide (((k:Nat) : Int)<((b.length:Nat) : Int)))) (fun d=>?_) (fun d=>?_)
 have o:=of_decide_eq_true d
 refine bB<|sq<|bk<|sg<|?_
 refine fE (aM.at_ (aM.old hsl a) k (by omega)) fun q r s t z=>L0<|mN b.length k s (by omega)<|L0<|jx (p:=⟨q,r+k,none⟩) (v:=.int .u8 (b.getD k 0)) t<|Pl 1<|nt<|go<|Pl 2<|L0<|eP #[] #[.pointer (some ⟨g,0,none⟩)] (args:=#[.int .u8 (b.getD k 0),.pointer (some ⟨g,0,none⟩)])<|m2 (rk (c:=(b.getD k 0)) h) fun B u i=>nl<|bn<|tn<|go<|L0<|Oi (((k:Nat) : Int)+1)<|?_
 refine Pl 1<|nl<|?_
 exact dZ (k+1) ⟨(ud a i hg0),(le f i.size),u,(by(try dsimp only);omega)⟩ (by omega)
 have o:=of_decide_eq_false d
 refine xt<|tx<|tx<|bx<|rm (.tuple #[])<|?_
 have hk:k=b.length:=by omega
 subst hk
 exact⟨rfl,h,a,f⟩
theorem l0{m:Bool}{A:Option Addr}{cp:Nat}{b:List Int}{w:World}(hsl:aM m w (.slice A b.length cp) b) :
    Calls Tryz.prog 178 #[.slice A b.length cp] w (bg (.int .u8 (kN b)) w):=by
 refine en 9 Tryz.func178 rfl<|sg<|Pl 1<|ng<|L0<|bz #[.int .u8 0] fun h i a c d=>L0<|bO c 0 #[.int .u8 0] fun j dq e=>ng<|?_
 refine Pl 2<|?_
 refine L0<|Oc<|m3 (nI (ud d e a) a hsl dq) fun k f g l=>ng<|L0<|aR f 0<|Pl 2<|nt<|rt<|rr (.int .u8 ((0-(rR b))%256))<|?_
 exact⟨rfl,g⟩
theorem og{m:Bool}{v:Value}{b:List Int}{w:World}(h:aM m w v b) : Calls Tryz.prog 178 #[v] w (bg (.int .u8 (kN b)) w):=by
  obtain⟨A,cp,rfl,_,_⟩:=h.shape
  exact l0 h
theorem lu{m:Bool}{A:Option Addr}{cp:Nat}{b:List Int}{w:World}(hsl:aM m w (.slice A b.length cp) b) :
    Calls Tryz.prog 175 #[.slice A b.length cp] w (bg (.bool (fc b)) w):=by
 refine en 11 Tryz.func175 rfl<|sg<|Pl 1<|ng<|Pl 4<|bl 6 ((decide (0<((b.length:Nat) : Int)))) (fun a=>?_) (fun a=>?_)
 have c:=of_decide_eq_true a
 refine Pl 1<|L1<|Oc (args:=#[.slice A b.length cp])<|m1 (og hsl) fun e d=>Pl 3<|nt<|rt<|rr (.bool ((kN b)==0))<|?_
 have hs:fc b=((kN b)==0):=by unfold fc;(try simp only[a,bs,if_true,if_false,decide_true,decide_false]);all_goals rfl
 rw[hs]
 exact⟨rfl,d⟩
 have c:=of_decide_eq_false a
 refine Pl 5<|nt<|rt<|rr (.bool false)<|?_
 have hs:fc b=false:=by unfold fc;(try simp only[a,bs,if_true,if_false,decide_true,decide_false]);all_goals rfl
 rw[hs]
 exact⟨rfl,(au.refl [] _)⟩
theorem mS{m:Bool}{v:Value}{b:List Int}{w:World}(h:aM m w v b) : Calls Tryz.prog 175 #[v] w (bg (.bool (fc b)) w):=by
  obtain⟨A,cp,rfl,_,_⟩:=h.shape
  exact lu h
open Go.RowKit
def pu:Array Value:=#[.int .u8 48,.int .u8 49,.int .u8 50,.int .u8 51,.int .u8 52,.int .u8 53,.int .u8 54,.int .u8 55,.int .u8 56,.int .u8 57,.int .u8 65,.int .u8 66,.int .u8 67,.int .u8 68,.int .u8 69,.int .u8 70]
theorem qg:∀ {j:Nat},j<16→pu[j]? = some (.int .u8 (eb (j:Int)))
  | 0,_ | 1,_ | 2,_ | 3,_ | 4,_ | 5,_ | 6,_ | 7,_ | 8,_ | 9,_ | 10,_ | 11,_ | 12,_ | 13,_ | 14,_ | 15,_=>rfl
  | n+16,h=>by omega
theorem pF{P:Program}{w:World}{ev:Operand→Value}{o:Oper}{x ix:Operand}{t e:TypeId}{k:IntKind}{i:Int}(j:Nat)(ho:o.op = .index t x ix)(ht:P.underlying t=some (.array 16 e))(hi:(P.info? e).map (·.size)=some 1)(hr:∀ w,(isAgg e).run P w = .ok false w)(hx:ev x = .agg pu)(hy:ev ix = .int k i)(hj:i=(j:Int))(hlt:j<16) : (execOp ev o).run P w = .ok (.value (.int .u8 (eb (j:Int)))) w:=by
  subst hj
  obtain⟨i0,hi0,hs⟩:=Option.map_eq_some_iff.1 hi
  have h:=qg hlt
  unfold execOp
  have h2:(0:Int)≤(j:Int)∧(j:Int)<16:=by omega
  simp[ho,hx,hy,Instr.index,asIntOf,run_underlying ht,Result.andThen,h2,sizeOf,typeInfo,hi0,hs,part,h,hr,hlt]
open Go.RowKit
theorem m9{w:World}:Calls Tryz.prog 180 #[] w (bg (.agg pu) w):=by
 refine en 2 Tryz.func180 rfl<|sg<|L0<|bz #[.int .u8 0,.int .u8 0,.int .u8 0,.int .u8 0,.int .u8 0,.int .u8 0,.int .u8 0,.int .u8 0,.int .u8 0,.int .u8 0,.int .u8 0,.int .u8 0,.int .u8 0,.int .u8 0,.int .u8 0,.int .u8 0] fun e f a b c=>ng<|Pl 1<|L0<|b6 b #[.int .u8 48,.int .u8 49,.int .u8 50,.int .u8 51,.int .u8 52,.int .u8 53,.int .u8 54,.int .u8 55,.int .u8 56,.int .u8 57,.int .u8 65,.int .u8 66,.int .u8 67,.int .u8 68,.int .u8 69,.int .u8 70] fun g dq d=>nt<|rt<|t6 dq<|?_
 exact⟨rfl,(ud c d a)⟩
theorem pN{c:Int}{n:Nat}(h:∀ j:Nat,j<n→eb (j:Int)≠c)(q:(eb ((n:Nat) : Int)==c)=false) : ∀ j:Nat,j<n+1→eb (j:Int)≠c:=fun j hj=>by
  by_cases e:j=n
  · subst e;simpa using q
  · exact h j (by omega)
theorem sV{c:Int}{n:Nat}(hn:n<16)(q:(eb ((n:Nat) : Int)==c)=true) : bL c=((n:Nat) : Int):=by
  have e:eb ((n:Nat) : Int)=c:=by simpa using q
  rw[← e]
  exact nQ (by omega)
theorem p4{c:Int}{n:Nat}(hn:n=16)(h:∀ j:Nat,j<n→eb (j:Int)≠c) : bL c = -1:=by
  by_cases e:0≤bL c
  · have h1:=gi e
    exact absurd (by rw[Int.toNat_of_nonneg e];exact h1.1) (h (bL c).toNat (by omega))
  · have:=jl c
    omega
theorem iG{w:World}{c:Int}(hc:0≤c∧c<256) : Calls Tryz.prog 177 #[.int .u8 c] w (bg (.int .i64 (bL c)) w):=by
 refine en 15 Tryz.func177 rfl<|sg<|Pl 1<|nt<|sq<|sg<|L0<|Oc<|m1 (@m9 w) fun g h=>Pl 1<|nt<|bk<|?_
 refine fR (fun x=>[(0,.int .u8 c),(5,.agg pu),(6,.int .i64 ((x:Nat) : Int))]) (fun(x:Nat) w'=>au [] g w'∧(x≤16)∧(∀ j:Nat,j<x→eb (j:Int)≠c)) (fun x=>16-x) 0 ⟨au.refl _ _,(by(try dsimp only);omega),(fun j hj=>by omega)⟩ ?_
 rintro n q ⟨d,l,m⟩
 refine fz [(0,.int .u8 c),(5,.agg pu),(6,.int .i64 ((n:Nat) : Int))] ?_
 have r:n≤16:=l
 have e:∀ j:Nat,j<n→eb (j:Int)≠c:=m
 refine sg<|Pl 1<|nt<|sq<|?_
 have f:=aE h d
 refine cb ((decide (((n:Nat) : Int)<16))) (fun b=>?_) (fun b=>?_)
 have o:=of_decide_eq_true b
 refine bB<|sq<|bk<|sg<|Pl 1<|L0<|gw (.int .u8 (eb ((n:Nat) : Int))) (pF (k:=.i64) (i:=((n:Nat) : Int)) n rfl Tryz.underlying226 (by kernel_rfl) Tryz.isAgg5 (by kernel_rfl) (by kernel_rfl) rfl (by omega))<|Pl 2<|ng<|Pl 3<|nl<|?_
 refine tn<|cb (((eb ((n:Nat) : Int))==c)) (fun a=>?_) (fun a=>?_)
 have p:=aA a
 refine sg<|Pl 2<|nt<|rt<|br<|tr<|tr<|br<|tr<|rr (.int .i64 ((n:Nat) : Int))<|?_
 have hs:bL c=((n:Nat) : Int):=sV (by omega) a
 rw[hs]
 exact⟨rfl,f⟩
 have p:=aG a
 exact sk<|bn<|tn<|go<|L0<|Oi (((n:Nat) : Int)+1)<|Pl 1<|nl<|dZ (n+1) ⟨d,(by(try dsimp only);omega),(pN e a)⟩ (by omega)
 have o:=of_decide_eq_false b
 refine xt<|tx<|tx<|bx<|tn<|sg<|Pl 1<|nt<|rt<|rr (.int .i64 (-1))<|?_
 have hs:bL c = -1:=p4 (n:=n) (by omega) e
 rw[hs]
 exact⟨rfl,f⟩
open Go.RowKit
def ed (xs:List Int)(w:World)(e:Ending)(w':World) : Prop:=match bH xs with
  | some l=>∃ v,e = .returned (.tuple #[v,.int .i64 0])∧cN w.heap.size w' v l∧au [] w w'
  | none=>e = .returned (.tuple #[.slice none 0 0,.int .i64 11])∧au [] w w'
theorem qf{xs l:List Int}{w w':World}{e:Ending}(h:bH xs=some l)(k:∃ v,e = .returned (.tuple #[v,.int .i64 0])∧cN w.heap.size w' v l∧au [] w w') : ed xs w e w':=by
  unfold ed
  rw[h]
  exact k
theorem mF{xs:List Int}{w w':World}{e:Ending}(h:bH xs=none)(k:e = .returned (.tuple #[.slice none 0 0,.int .i64 11])∧au [] w w') : ed xs w e w':=by
  unfold ed
  rw[h]
  exact k
theorem iX{xs:List Int}{w:World}(hr:dt xs)(hl:xs.length≤1048576) :
    Calls Tryz.prog 174 #[.string (strOfNums xs)] w (ed xs w):=by
 refine en 42 Tryz.func174 rfl<|sg<|Pl 2<|nt<|sq<|sg<|Pl 1<|L0<|Oe (.int .i64 (((strOfNums xs).size:Nat) : Int)) (.int .i64 ((xs.length:Nat) : Int)) (by rw[strOfNums_size])<|L0<|Oe (.int .i64 (Int.tmod ((xs.length:Nat) : Int) 2)) (.int .i64 (((xs.length:Nat) : Int)%2)) (congrArg (Value.int .i64) (Int.tmod_eq_emod_of_nonneg (by omega)))<|Pl 1<|nl<|?_
 refine tn<|cb (((((xs.length:Nat) : Int)%2)!=0)) (fun f=>?_) (fun f=>?_)
 have A:=ay f
 refine sg<|Pl 2<|nt<|rt<|tr<|rr (.tuple #[.slice none 0 0,.int .i64 11])<|?_
 have hs:bH xs=none:=iM (by omega)
 exact mF hs ⟨rfl,(au.refl [] _)⟩
 have A:=ag f
 refine bB<|sg<|Pl 1<|nt<|sq<|sg<|Pl 1<|nt<|bk<|?_
 refine fR (fun x=>[(0,.string (strOfNums xs)),(4,.slice x.2.2.1 x.2.1.length x.2.2.2),(5,.int .i64 ((2*x.1:Nat) : Int))]) (fun(x:Nat × List Int × Option Addr × Nat) w'=>au [] w w'∧cN w.heap.size w' (.slice x.2.2.1 x.2.1.length x.2.2.2) x.2.1∧(2*x.1≤xs.length)∧(bH xs=(bH (xs.drop (2*x.1))).map fun l=>x.2.1++l)∧(x.2.1.length=x.1)) (fun x=>xs.length-2*x.1) (0,[],none,0) ⟨au.refl _ _,(aN.nil w.heap.size _ _ kQ _),(by(try dsimp only);omega),(by(try dsimp only);simp),(by(try dsimp only);rfl)⟩ ?_
 rintro⟨k,L,B,cq⟩ C ⟨g,D,E,F,G⟩
 refine fz [(0,.string (strOfNums xs)),(4,.slice B L.length cq),(5,.int .i64 ((2*k:Nat) : Int))] ?_
 have j:cN w.heap.size C (.slice B L.length cq) L:=D
 have U:2*k≤xs.length:=E
 have V:bH xs=(bH (xs.drop (2*k))).map fun l=>L++l:=F
 have W:L.length=k:=G
 have hL:bH xs=(bH (xs.drop (2*k))).map fun l=>L++l:=by assumption
 refine sq<|sg<|Pl 2<|L0<|Oe (.int .i64 (((strOfNums xs).size:Nat) : Int)) (.int .i64 ((xs.length:Nat) : Int)) (by rw[strOfNums_size])<|Pl 1<|nt<|cb ((decide (((2*k:Nat) : Int)<((xs.length:Nat) : Int)))) (fun n=>?_) (fun n=>?_)
 have H:=of_decide_eq_true n
 refine bB<|sq<|bk<|sq<|Rg 11 (fun w'=>True) fun X p=>be trivial fun a=>Rt 0 a<|Rt 1 a<|Rr 2 a (.int .u8 (xs.getD (2*k) 0)) (fun _ _=>kz (xs:=xs) (k:=.i64) (i:=((2*k:Nat) : Int)) (2*k) rfl Tryz.underlying9 (by kernel_rfl) (by kernel_rfl) hr rfl (by omega))<|Rt 4 a<|Rt 5 a<|Rr 6 a (.int .i64 (((2*k:Nat) : Int)+1)) (fun _ _=>bV (.int .i64 (IntKind.i64.wrap (((2*k:Nat) : Int)+1))) (by kernel_rfl) (congrArg (Value.int .i64) (IntWalk.i64_in _ (by omega))))<|Rr 7 a (.int .u8 (xs.getD ((((2*k:Nat) : Int)+1)).toNat 0)) (fun _ _=>kz (xs:=xs) (k:=.i64) (i:=(((2*k:Nat) : Int)+1)) ((((2*k:Nat) : Int)+1)).toNat rfl Tryz.underlying9 (by kernel_rfl) (by kernel_rfl) hr (by omega) (by omega))<|?_
 have Y:=jl (xs.getD (2*k) 0)
 refine R0 3 rfl<|Oc<|m1 (iG (c:=(xs.getD (2*k) 0)) (w:=_) (dY (by omega) hr _)) fun Z r=>be trivial fun a0=>?_
 have a1:=jl (xs.getD ((((2*k:Nat) : Int)+1)).toNat 0)
 refine R0 8 rfl<|Oc<|m1 (iG (c:=(xs.getD ((((2*k:Nat) : Int)+1)).toNat 0)) (w:=_) (dY (by omega) hr _)) fun a2 s=>be trivial fun t=>Rt 9 t<|Rt 10 t<|re<|tn<|sq<|sg<|Pl 3<|cu 3 [29] 32 (((decide ((bL (xs.getD (2*k) 0))<0))||(decide ((bL (xs.getD ((((2*k:Nat) : Int)+1)).toNat 0))<0)))) (fun K u=>?_) ?_
 refine bl 29 ((decide ((bL (xs.getD (2*k) 0))<0))) (fun b=>?_) (fun b=>?_)
 have I:=of_decide_eq_true b
 exact Pl 3<|ce u true (by rw[b];rfl)
 have I:=of_decide_eq_false b
 exact Pl 3<|ce u (decide ((bL (xs.getD ((((2*k:Nat) : Int)+1)).toNat 0))<0)) (by rw[b];rfl)
 refine nt<|?_
 have v:=aE p (aE r s)
 have y:=aE g v
 refine cb (((decide ((bL (xs.getD (2*k) 0))<0))||(decide ((bL (xs.getD ((((2*k:Nat) : Int)+1)).toNat 0))<0)))) (fun d=>?_) (fun d=>?_)
 refine sg<|Pl 2<|nt<|rt<|tr<|br<|tr<|tr<|br<|tr<|rr (.tuple #[.slice none 0 0,.int .i64 11])<|?_
 have hs:bH xs=none:=pT (k:=k) hL (by omega) (by have q:=d;simp only[Bool.or_eq_true,decide_eq_true_eq] at q;rw[show 2*k+1=(((2*k:Nat) : Int)+1).toNat from by omega];exact q)
 exact mF hs ⟨rfl,y⟩
 have J:=(aC d).1
 have M:=(aC d).2
 have a3:=of_decide_eq_false J
 have a4:=of_decide_eq_false M
 refine bB<|go<|Pl 2<|L0<|Oi (16*(bL (xs.getD (2*k) 0)))<|Pl 1<|L0<|Oi ((16*(bL (xs.getD (2*k) 0)))+(bL (xs.getD ((((2*k:Nat) : Int)+1)).toNat 0)))<|Pl 1<|L0<|fk (m:=1) (e:=5) #[.int .u8 (((16*(bL (xs.getD (2*k) 0)))+(bL (xs.getD ((((2*k:Nat) : Int)+1)).toNat 0)))%256)] fun a5 a6 N O o=>?_
 have P:=ir N (xs:=[(((16*(bL (xs.getD (2*k) 0)))+(bL (xs.getD ((((2*k:Nat) : Int)+1)).toNat 0)))%256)]) (by as_aux_lemma=>kernel_rfl) (aF (by omega) cV) (by(try simp only[List.length_cons,List.length_nil]);omega) O
 refine L0<|uW jv (xs:=L) (ys:=([(((16*(bL (xs.getD (2*k) 0)))+(bL (xs.getD ((((2*k:Nat) : Int)+1)).toNat 0)))%256)])) (.int .u8 0) 1 (am j (aE v o) (fun x hx=>ax) (fun _ _ h=>h)) (P).rd (by(try simp only[List.length_append,List.length_cons,List.length_nil,aT]);omega) (le (le (le (le g.size p.size) r.size) s.size) o.size) fun Q R a7 S T=>Pl 1<|nl<|bn<|tn<|go<|Pl 1<|L0<|Oi (((2*k:Nat) : Int)+2)<|Pl 1<|nl<|?_
 have z:=lL (k:=k) hL (by omega) (by omega) (by rw[show 2*k+1=(((2*k:Nat) : Int)+1).toNat from by omega];omega)
 rw[show 2*k+1=(((2*k:Nat) : Int)+1).toNat from by omega] at z
 exact dZ ((k+1),(L++[(((16*(bL (xs.getD (2*k) 0)))+(bL (xs.getD ((((2*k:Nat) : Int)+1)).toNat 0)))%256)]),Q,R) ⟨(ut y (ut (au.mono (S':=(ob B++[])) o av) T (ap il av)) (ap (bt j lr) av)),S,(by(try dsimp only);omega),z,(by(try dsimp only);simp only[List.length_append,List.length_cons,List.length_nil];omega)⟩ (by omega)
 have H:=of_decide_eq_false n
 refine xt<|tx<|tx<|bx<|tn<|sg<|Pl 3<|nt<|rt<|rr (.tuple #[.slice B L.length cq,.int .i64 0])<|?_
 have hs:bH xs=some L:=o8 hL (by omega)
 exact qf hs ⟨_,rfl,j,g⟩
open Go.RowKit
def eA (xs:List Int) : Bool:=decide (2≤((xs.length:Nat) : Int))&&decide (xs.drop (((xs.length:Nat) : Int)-2).toNat=[13,10])
def fK (b:List Int) : Option (List Int):=if b.getD 0 0=58∧eA (b.drop 1)=true then some ((b.drop 1).take (b.length-3)) else none
theorem jC{xs:List Int}(h:eA xs=true) : 2≤xs.length:=by
  unfold eA at h
  simp only[Bool.and_eq_true,decide_eq_true_eq] at h
  omega
theorem iR{b s:List Int}(h:fK b=some s) : b.getD 0 0=58∧eA (b.drop 1)=true∧s=(b.drop 1).take (b.length-3)∧3≤b.length:=by
  unfold fK at h
  split at h
  · rename_i hc
    injection h with h
    have:=jC hc.2
    rw[List.length_drop] at this
    exact⟨hc.1,hc.2,h.symm,by omega⟩
  · cases h
theorem pV{b s:List Int}(h:fK b=some s) : s.length=b.length-3:=by
  obtain⟨_,_,rfl,h3⟩:=iR h
  rw[List.length_take,List.length_drop]
  omega
def jb (xs:List Int)(w:World)(e:Ending)(w':World) : Prop:=match fK xs with
  | some l=>e = .returned (.tuple #[.string (strOfNums l),.bool true])∧au [] w w'
  | none=>∃ s,e = .returned (.tuple #[.string s,.bool false])∧au [] w w'
theorem ia{xs:List Int}{w:World}(hr:dt xs)(hl:xs.length≤1048576) : Calls Tryz.prog 183 #[.string (strOfNums xs),.string ⟨#[13,10]⟩] w (bg (.bool (eA xs)) w):=by
 refine en 21 Tryz.func183 rfl<|sg<|Pl 1<|ng<|Pl 1<|L0<|Oe (.int .i64 (((strOfNums xs).size:Nat) : Int)) (.int .i64 ((xs.length:Nat) : Int)) (by rw[strOfNums_size])<|Pl 4<|bl 10 ((decide (2≤((xs.length:Nat) : Int)))) (fun c=>?_) (fun c=>?_)
 have d:=of_decide_eq_true c
 refine Pl 2<|L1<|Oe (.int .i64 (((strOfNums xs).size:Nat) : Int)) (.int .i64 ((xs.length:Nat) : Int)) (by rw[strOfNums_size])<|Pl 2<|L1<|Oi (((xs.length:Nat) : Int)-2)<|?_
 have e:dt (xs.drop ((((xs.length:Nat) : Int)-2)).toNat):=fY hr ((((xs.length:Nat) : Int)-2)).toNat
 refine L1<|gw (.string (strOfNums (xs.drop ((((xs.length:Nat) : Int)-2)).toNat))) (iO (xs:=xs) (k:=.i64) (i:=(((xs.length:Nat) : Int)-2)) ((((xs.length:Nat) : Int)-2)).toNat rfl Tryz.underlying9 (by kernel_rfl) (by kernel_rfl) (by omega) (by omega))<|Pl 1<|L1<|gw (.bool (decide ((xs.drop ((((xs.length:Nat) : Int)-2)).toNat)=[13,10]))) (dL (a:=(strOfNums (xs.drop ((((xs.length:Nat) : Int)-2)).toNat))) (b:=⟨#[13,10]⟩) rfl (by kernel_rfl) (by kernel_rfl) (qA (ys:=[13,10]) e (by decide)))<|Pl 2<|nt<|rt<|rr (.bool (decide ((xs.drop ((((xs.length:Nat) : Int)-2)).toNat)=[13,10])))<|?_
 have hs:eA xs=(decide ((xs.drop ((((xs.length:Nat) : Int)-2)).toNat)=[13,10])):=by unfold eA;(try simp only[c,bs,if_true,if_false,decide_true,decide_false]);all_goals rfl
 rw[hs]
 exact⟨rfl,(au.refl [] _)⟩
 have d:=of_decide_eq_false c
 refine Pl 11<|nt<|rt<|rr (.bool false)<|?_
 have hs:eA xs=false:=by unfold eA;(try simp only[c,bs,if_true,if_false,decide_true,decide_false]);all_goals rfl
 rw[hs]
 exact⟨rfl,(au.refl [] _)⟩
theorem nj{xs:List Int}{w:World}(hr:dt xs)(hl:xs.length≤1048576)(hq:eA xs=true) : Calls Tryz.prog 179 #[.string (strOfNums xs),.string ⟨#[13,10]⟩] w (bg (.tuple #[.string (strOfNums (xs.take (((xs.length:Nat) : Int)-2).toNat)),.bool true]) w):=by
 have hq2:=jC hq
 refine en 18 Tryz.func179 rfl<|sg<|Pl 2<|nt<|sq<|sg<|Pl 2<|L0<|Oc<|m1 (ia (xs:=xs) (w:=_) hr (by omega)) fun c a=>Pl 1<|nt<|?_
 have b:(!(eA xs))=false:=by simp only[hq,Bool.not_true,Bool.not_false]
 refine cf b<|bB<|sg<|Pl 2<|L0<|Oe (.int .i64 (((strOfNums xs).size:Nat) : Int)) (.int .i64 ((xs.length:Nat) : Int)) (by rw[strOfNums_size])<|Pl 2<|L0<|Oi (((xs.length:Nat) : Int)-2)<|?_
 have d:dt (xs.take ((((xs.length:Nat) : Int)-2)).toNat):=j0 hr ((((xs.length:Nat) : Int)-2)).toNat
 refine L0<|gw (.string (strOfNums (xs.take ((((xs.length:Nat) : Int)-2)).toNat))) (nX (xs:=xs) (k:=.i64) (i:=(((xs.length:Nat) : Int)-2)) ((((xs.length:Nat) : Int)-2)).toNat rfl Tryz.underlying9 (by kernel_rfl) (by kernel_rfl) (by omega) (by omega))<|Pl 2<|nt<|rt<|rr (.tuple #[.string (strOfNums (xs.take ((((xs.length:Nat) : Int)-2)).toNat)),.bool true])<|?_
 exact⟨rfl,a⟩
theorem oM{xs:List Int}{w:World}(hr:dt xs)(hl:xs.length≤1048576)(hq:eA xs=true) : Calls Tryz.prog 176 #[.string (strOfNums xs),.string ⟨#[13,10]⟩] w (bg (.tuple #[.string (strOfNums (xs.take (((xs.length:Nat) : Int)-2).toNat)),.bool true]) w):=by
 refine en 11 Tryz.func176 rfl<|sg<|Pl 2<|ng<|Pl 2<|L0<|Oc<|m1 (nj (xs:=xs) (w:=_) hr hl hq) fun b a=>Pl 4<|nt<|rt<|?_
 refine rr (.tuple #[.string (strOfNums (xs.take (((xs.length:Nat) : Int)-2).toNat)),.bool true])<|?_
 exact⟨rfl,a⟩
theorem oa{xs:List Int}{w:World}(hr:dt xs)(hl:xs.length≤1048576)(hq:eA xs=false) : Calls Tryz.prog 179 #[.string (strOfNums xs),.string ⟨#[13,10]⟩] w (bg (.tuple #[.string (strOfNums xs),.bool false]) w):=by
 refine en 18 Tryz.func179 rfl<|sg<|Pl 2<|nt<|sq<|sg<|Pl 2<|L0<|Oc<|m1 (ia (xs:=xs) (w:=_) hr (by omega)) fun c a=>Pl 1<|nt<|?_
 have b:(!(eA xs))=true:=by simp only[hq,Bool.not_true,Bool.not_false]
 refine ct b<|sg<|Pl 3<|nt<|rt<|tr<|rr (.tuple #[.string (strOfNums xs),.bool false])<|?_
 exact⟨rfl,a⟩
theorem pp{xs:List Int}{w:World}(hr:dt xs)(hl:xs.length≤1048576)(hq:eA xs=false) : Calls Tryz.prog 176 #[.string (strOfNums xs),.string ⟨#[13,10]⟩] w (bg (.tuple #[.string (strOfNums xs),.bool false]) w):=by
 refine en 11 Tryz.func176 rfl<|sg<|Pl 2<|ng<|Pl 2<|L0<|Oc<|m1 (oa (xs:=xs) (w:=_) hr hl hq) fun b a=>Pl 4<|nt<|rt<|?_
 refine rr (.tuple #[.string (strOfNums xs),.bool false])<|?_
 exact⟨rfl,a⟩
theorem si{b:List Int}(h:b.getD 0 0=58)(k:eA (b.drop 1)=true) : fK b=some ((b.drop 1).take (b.length-3)):=if_pos ⟨h,k⟩
theorem qO{b:List Int}(h:¬ b.getD 0 0=58) : fK b=none:=if_neg fun k=>h k.1
theorem qE{b:List Int}(k:eA (b.drop 1)=false) : fK b=none:=if_neg fun h=>by rw[k] at h;cases h.2
theorem sf{b l:List Int}{w w':World}{e:Ending}(h:fK b=some l)(k:e = .returned (.tuple #[.string (strOfNums l),.bool true])∧au [] w w') : jb b w e w':=by
  unfold jb
  rw[h]
  exact k
theorem pD{b:List Int}{w w':World}{e:Ending}(h:fK b=none)(k:∃ s,e = .returned (.tuple #[.string s,.bool false])∧au [] w w') : jb b w e w':=by
  unfold jb
  rw[h]
  exact k
theorem i6{b:List Int}{w:World}(hr:dt b)(hl:b.length≤1048576)(h0:0<b.length) : Calls Tryz.prog 173 #[.string (strOfNums b)] w (jb b w):=by
 refine en 18 Tryz.func173 rfl<|sg<|Pl 2<|nt<|sq<|sg<|Pl 1<|L0<|uB (sv:=strOfNums b) Tryz.underlying9 fun f m n o p=>nt<|bk<|?_
 refine fR (fun x=>[(0,.string (strOfNums b)),(7,.pointer (some ⟨f,0,none⟩))]) (fun(x:Unit) w'=>au [] m w'∧(0≤0)) (fun x=>0) () ⟨au.refl _ _,(by(try dsimp only);omega)⟩ ?_
 rintro z v ⟨g,q⟩
 refine fz [(0,.string (strOfNums b)),(7,.pointer (some ⟨f,0,none⟩))] ?_
 have y:0≤0:=q
 refine sg<|?_
 refine L0<|vT hr (by omega) (ub g o) fun r A h s=>Pl 1<|nt<|sq<|c1<|bB<|bk<|sg<|Pl 2<|nt<|?_
 refine sq<|sg<|Pl 2<|nt<|?_
 have a:=ud p (uz g s) n
 refine cb ((r != 58)) (fun c=>?_) (fun c=>?_)
 have d:=ay c
 refine sg<|Pl 2<|nt<|rt<|tr<|br<|tr<|br<|tr<|rr (.tuple #[.string ⟨#[]⟩,.bool false])<|?_
 exact pD (qO fun e=>d (h.2 e)) ⟨_,rfl,a⟩
 have d:=ag c
 refine bB<|xt<|u5<|tx<|bx<|tn<|sg<|Pl 1<|?_
 have j:dt (b.drop 1):=fY hr 1
 refine L0<|gw (.string (strOfNums (b.drop 1))) (iO (xs:=b) (k:=.i64) (i:=1) 1 rfl Tryz.underlying9 (by kernel_rfl) (by kernel_rfl) rfl (by omega))<|?_
 rcases e8 (eA (b.drop 1)) with hq|hq
 refine L0<|Oc<|m1 (oM (xs:=(b.drop 1)) (w:=_) j (by rw[List.length_drop];omega) hq) fun B t=>Pl 4<|nt<|rt<|rr (.tuple #[.string (strOfNums ((b.drop 1).take ((((b.drop 1).length:Nat) : Int)-2).toNat)),.bool true])<|?_
 exact sf (l:=(b.drop 1).take (b.length-3)) (si (h.1 d) hq) ⟨by rw[show b.length-3=((((b.drop 1).length:Nat) : Int)-2).toNat from by rw[List.length_drop];omega],(aE a t)⟩
 refine L0<|Oc<|m1 (pp (xs:=(b.drop 1)) (w:=_) j (by rw[List.length_drop];omega) hq) fun C u=>Pl 4<|nt<|rt<|rr (.tuple #[.string (strOfNums (b.drop 1)),.bool false])<|?_
 exact pD (qE hq) ⟨_,rfl,(aE a u)⟩
open Go.RowKit
theorem o1{b s:List Int}(hr:dt b)(h:fK b=some s) : dt s:=by
  obtain⟨_,_,rfl,_⟩:=iR h
  exact j0 (fY hr 1) _
theorem q8{b l:List Int}{w:World}(h:fK b=some l)(e:Ending)(w':World)(k:jb b w e w') : e = .returned (.tuple #[.string (strOfNums l),.bool true])∧au [] w w':=by
  unfold jb at k
  rw[h] at k
  exact k
theorem ra{b:List Int}{w:World}(h:fK b=none)(e:Ending)(w':World)(k:jb b w e w') : ∃ s,e = .returned (.tuple #[.string s,.bool false])∧au [] w w':=by
  unfold jb at k
  rw[h] at k
  exact k
theorem pg{b l:List Int}{w:World}(h:bH b=some l)(e:Ending)(w':World)(k:ed b w e w') : ∃ v,e = .returned (.tuple #[v,.int .i64 0])∧cN w.heap.size w' v l∧au [] w w':=by
  unfold ed at k
  rw[h] at k
  exact k
theorem oY{b:List Int}{w:World}(h:bH b=none)(e:Ending)(w':World)(k:ed b w e w') : e = .returned (.tuple #[.slice none 0 0,.int .i64 11])∧au [] w w':=by
  unfold ed at k
  rw[h] at k
  exact k
def fS (x:List Int) : List Int:=(x.take (x.length-1)).drop 1
theorem gJ(x:List Int) : fS x=(x.take (((x.length:Nat) : Int)-1).toNat).drop 1:=by
  unfold fS
  rw[show(((x.length:Nat) : Int)-1).toNat=x.length-1 from by omega]
def du (dir:Int)(b:List Int) : cT × Int :=
  if dir != 0&&dir != 1 then (cT.zero,1)
  else if decide ((b.length:Int)<9) then (cT.zero,2)
  else if decide (513<(b.length:Int)) then (cT.zero,3)
  else match fK b with
    | none=>(cT.zero,12)
    | some s=>match bH s with
      | none=>(cT.zero,11)
      | some x=>if !(fc x) then (cT.zero,10) else cw (x.getD 0 0) 0 (co dir (fS x))
theorem lP{m:Bool}{A:Option Addr}{cp:Nat}{b:List Int}{w:World}{dir:Int}(hsl0:aM m w (.slice A b.length cp) b)(hb:b.length≤1048576) :
    Calls Tryz.prog 171 #[.int .i64 dir,.slice A b.length cp] w (jh (du dir b) w):=by
 have hln:(b.length:Int)≤1048576:=by omega
 have hr:dt b:=aM.range hsl0
 refine en 71 Tryz.func171 rfl<|sg<|L0<|bz #[.int .u8 0,.int .u16 0,.int .u8 0,.int .u8 0,.int .u16 0,.int .u16 0,.int .u16 0,.int .u16 0,.int .u16 0,.int .u16 0,.int .u16 0,.int .u16 0,.int .u16 0,.int .u16 0,.slice none 0 0,.slice none 0 0,.slice none 0 0,.slice none 0 0,.int .u8 0,.int .u8 0,.int .u8 0,.int .u8 0,.int .u8 0,.slice none 0 0] fun bu X k d o=>Pl 1<|nt<|sq<|bk<|sg<|Pl 3<|cu 3 [14] 17 (((dir != 0)&&(dir != 1))) (fun K Y=>?_) ?_
 refine bl 14 ((dir != 0)) (fun F=>?_) (fun F=>?_)
 have an:=ay F
 exact Pl 3<|ce Y (dir != 1) (by rw[F];rfl)
 have an:=ag F
 exact Pl 3<|ce Y false (by rw[F];rfl)
 refine Pl 1<|nt<|cb (((dir != 0)&&(dir != 1))) (fun f=>?_) (fun f=>?_)
 have Z:=(bM f).1
 have a0:=(bM f).2
 have bv:=ay Z
 have bw:=ay a0
 refine sg<|Pl 1<|L0<|b6 d #[.int .u8 0,.int .u16 0,.int .u8 0,.int .u8 0,.int .u16 0,.int .u16 0,.int .u16 0,.int .u16 0,.int .u16 0,.int .u16 0,.int .u16 0,.int .u16 0,.int .u16 0,.int .u16 0,.slice none 0 0,.slice none 0 0,.slice none 0 0,.slice none 0 0,.int .u8 0,.int .u8 0,.int .u8 0,.int .u8 0,.int .u8 0,.slice none 0 0] fun bx ao ap=>Pl 1<|nt<|rt<|br<|tr<|cc ao (.int .i64 1)<|?_
 have hs:du dir b=(cT.zero,1):=by
   unfold du
   (try simp only[f,Z,a0,bs,if_true,if_false,decide_true,decide_false,cw,reduceIte])
   all_goals rfl
 refine cQ hs ?_
 exact bW (ud o ap k)
 refine sg<|Pl 4<|nt<|cb ((decide (((b.length:Nat) : Int)<9))) (fun i=>?_) (fun i=>?_)
 have ar:=of_decide_eq_true i
 refine sg<|Pl 1<|L0<|b6 d #[.int .u8 0,.int .u16 0,.int .u8 0,.int .u8 0,.int .u16 0,.int .u16 0,.int .u16 0,.int .u16 0,.int .u16 0,.int .u16 0,.int .u16 0,.int .u16 0,.int .u16 0,.int .u16 0,.slice none 0 0,.slice none 0 0,.slice none 0 0,.slice none 0 0,.int .u8 0,.int .u8 0,.int .u8 0,.int .u8 0,.int .u8 0,.slice none 0 0] fun bA au av=>Pl 1<|nt<|rt<|br<|tr<|cc au (.int .i64 2)<|?_
 have hs:du dir b=(cT.zero,2):=by
   unfold du
   (try simp only[f,i,bs,if_true,if_false,decide_true,decide_false,cw,reduceIte])
   all_goals rfl
 refine cQ hs ?_
 exact bW (ud o av k)
 have ar:=of_decide_eq_false i
 refine sg<|Pl 4<|nt<|cb ((decide (513<((b.length:Nat) : Int)))) (fun j=>?_) (fun j=>?_)
 have aw:=of_decide_eq_true j
 refine sg<|Pl 1<|L0<|b6 d #[.int .u8 0,.int .u16 0,.int .u8 0,.int .u8 0,.int .u16 0,.int .u16 0,.int .u16 0,.int .u16 0,.int .u16 0,.int .u16 0,.int .u16 0,.int .u16 0,.int .u16 0,.int .u16 0,.slice none 0 0,.slice none 0 0,.slice none 0 0,.slice none 0 0,.int .u8 0,.int .u8 0,.int .u8 0,.int .u8 0,.int .u8 0,.slice none 0 0] fun bC aA aC=>Pl 1<|nt<|rt<|br<|tr<|cc aA (.int .i64 3)<|?_
 have hs:du dir b=(cT.zero,3):=by
   unfold du
   (try simp only[f,i,j,bs,if_true,if_false,decide_true,decide_false,cw,reduceIte])
   all_goals rfl
 refine cQ hs ?_
 exact bW (ud o aC k)
 have aw:=of_decide_eq_false j
 refine sk<|bn<|tn<|sg<|Pl 1<|?_
 have Q:=aM.old hsl0 o
 refine L0<|gw (.string (strOfNums b)) (bR (A:=A) (n:=b.length) (c:=cp) rfl (by kernel_rfl) Tryz.underlying27 Tryz.underlying5 Tryz.underlying9 Q)<|?_
 rcases hds:fK b with _|sd
 have aF:=i6 (w:=X) (aM.range Q) hb (by omega)
 have aG:=aF.mono (ra hds)
 refine L0<|Oc (args:=#[.string (strOfNums b)])<|e1 aG fun bD bE a1=>Pl 5<|nt<|sq<|sg<|Pl 2<|nt<|c1<|sg<|Pl 1<|?_
 refine L0<|b6 (ub a1 d) #[.int .u8 0,.int .u16 0,.int .u8 0,.int .u8 0,.int .u16 0,.int .u16 0,.int .u16 0,.int .u16 0,.int .u16 0,.int .u16 0,.int .u16 0,.int .u16 0,.int .u16 0,.int .u16 0,.slice none 0 0,.slice none 0 0,.slice none 0 0,.slice none 0 0,.int .u8 0,.int .u8 0,.int .u8 0,.int .u8 0,.int .u8 0,.slice none 0 0] fun bF aH aI=>Pl 1<|nt<|rt<|tr<|cc aH (.int .i64 12)<|?_
 have hs:du dir b=(cT.zero,12):=by
   unfold du
   (try simp only[f,i,j,bs,if_true,if_false,decide_true,decide_false,cw,hds,reduceIte])
   all_goals rfl
 refine cQ hs ?_
 exact bW (ud o (uz a1 aI) k)
 have hsl:=pV hds
 have hsd:dt sd:=o1 hr hds
 have aJ:=i6 (w:=X) (aM.range Q) hb (by omega)
 have aK:=aJ.mono (q8 hds)
 refine L0<|Oc (args:=#[.string (strOfNums b)])<|m1 aK fun a2 l=>Pl 5<|nt<|sq<|sg<|Pl 2<|nt<|c0<|bB<|sq<|?_
 refine go<|Pl 1<|?_
 have a3:=aE o l
 rcases hth:bH sd with _|x
 have aL:=(iX (w:=a2) hsd (by omega)).mono (oY hth)
 refine L0<|Oc<|m1 aL fun bG a4=>Pl 5<|nt<|sq<|sg<|Pl 2<|nt<|c1<|sg<|Pl 2<|?_
 refine L0<|b6 (ub (aE l a4) d) #[.int .u8 0,.int .u16 0,.int .u8 0,.int .u8 0,.int .u16 0,.int .u16 0,.int .u16 0,.int .u16 0,.int .u16 0,.int .u16 0,.int .u16 0,.int .u16 0,.int .u16 0,.int .u16 0,.slice none 0 0,.slice none 0 0,.slice none 0 0,.slice none 0 0,.int .u8 0,.int .u8 0,.int .u8 0,.int .u8 0,.int .u8 0,.slice none 0 0] fun bI aN aP=>Pl 1<|nt<|rt<|tr<|cc aN (.int .i64 11)<|?_
 have hs:du dir b=(cT.zero,11):=by
   unfold du
   (try simp only[f,i,j,bs,if_true,if_false,decide_true,decide_false,cw,hds,hth,reduceIte])
   all_goals rfl
 refine cQ hs ?_
 exact bW (ud a3 (uz a4 aP) k)
 have hxl:=nh hth
 have aQ:=(iX (w:=a2) hsd (by omega)).mono (pg hth)
 refine L0<|Oc<|gH aQ fun R J bJ S bK bL a5=>Pl 5<|nt<|sq<|sg<|Pl 2<|nt<|c0<|bB<|sq<|?_
 refine sg<|Pl 1<|L0<|Oc (args:=#[.slice R x.length J])<|m1 (mS (S).rd) fun aR T=>Pl 1<|nt<|?_
 have G:=aE a5 T
 have a6:=aE a3 G
 refine cb ((!(fc x))) (fun p=>?_) (fun p=>?_)
 have L:(fc x)=false:=by simpa using p
 refine sg<|Pl 1<|?_
 refine L0<|b6 (ub (aE l G) d) #[.int .u8 0,.int .u16 0,.int .u8 0,.int .u8 0,.int .u16 0,.int .u16 0,.int .u16 0,.int .u16 0,.int .u16 0,.int .u16 0,.int .u16 0,.int .u16 0,.int .u16 0,.int .u16 0,.slice none 0 0,.slice none 0 0,.slice none 0 0,.slice none 0 0,.int .u8 0,.int .u8 0,.int .u8 0,.int .u8 0,.int .u8 0,.slice none 0 0] fun bN aS aT=>Pl 1<|nt<|rt<|tr<|cc aS (.int .i64 10)<|?_
 have hs:du dir b=(cT.zero,10):=by
   unfold du
   (try simp only[f,i,j,p,L,bs,if_true,if_false,decide_true,decide_false,cw,hds,hth,reduceIte])
   all_goals rfl
 refine cQ hs ?_
 exact bW (ud a6 aT k)
 have L:(fc x)=true:=by simpa using p
 refine bB<|sg<|Pl 4<|L0<|Oi (((x.length:Nat) : Int)-1)<|pf (mg (P:=Tryz.prog) 27 5 1 Tryz.underlying27 rfl rfl R x.length J (lo:=1) (up:=(((x.length:Nat) : Int)-1)) 1 (((((x.length:Nat) : Int)-1)).toNat) (by omega) (by omega) (by omega) (by omega) (by omega)) fun aV hrun79 aW=>L0<|gw (.slice aV ((((((x.length:Nat) : Int)-1)).toNat)-1) (J-1)) (iz (kl:=.i64) (kh:=.i64) (lo:=1) (hi:=(((x.length:Nat) : Int)-1)) (A:=R) (n:=x.length) (c:=J) rfl Tryz.underlying27 (by kernel_rfl) (by kernel_rfl) (by kernel_rfl) (hrun79 _ _ _))<|?_
 obtain⟨a,H,U⟩ : ∃ M E,co dir ((x.take (((((x.length:Nat) : Int)-1)).toNat)).drop 1)=(M,E):=⟨_,_,rfl⟩
 have a7:=am S T (fun x hx=>ax) (fun _ _ h=>h)
 have a8:=fT (dir:=dir) (w:=aR) (aW _ _ _ _ _ (a7).rd) (by rw[List.length_drop,List.length_take];omega)
 rw[U] at a8
 refine L0<|Oc<|e2 a8 fun aX bO a9 V=>?_
 have aY:=a9
 obtain⟨aZ,b0,b1,b2,b3,b4,b5,b7,b9,ba,bb,bP⟩:=aY
 obtain rfl:aX=(dH a aZ b0 b1 b2 b3).toArray:=by apply Array.toList_inj.1;simpa using b4
 obtain⟨q,r,rfl,_,_⟩:=b5.shape
 obtain⟨s,t,rfl,_,_⟩:=b7.shape
 obtain⟨u,v,rfl,_,_⟩:=b9.shape
 obtain⟨y,z,rfl,_,_⟩:=ba.shape
 obtain⟨B,C,rfl,_,_⟩:=bb.shape
 refine Pl 3<|L0<|bz mZ fun ab bQ ac bc bd=>L0<|b6 bc (mG a.code a.fail a.addr a.count a.value a.and_ a.or_ a.addr2 a.sub a.status a.events a.messages (.slice q a.words.length r) (.slice s a.bits.length t) (.slice u a.data.length v) (.slice y a.recs.length z) a.mei a.kind a.level a.more a.next (.slice B a.objects.length C)) fun bS bf bg=>Pl 1<|nt<|sq<|sg<|Pl 2<|nt<|?_
 have ad:=ud bd bg ac
 have N:=aE V ad
 have ae:=aE a6 N
 refine cb ((H != 0)) (fun I=>?_) (fun I=>?_)
 have bh:=ay I
 refine sg<|Pl 2<|?_
 refine L0<|b6 (ub (aE l (aE G N)) d) #[.int .u8 0,.int .u16 0,.int .u8 0,.int .u8 0,.int .u16 0,.int .u16 0,.int .u16 0,.int .u16 0,.int .u16 0,.int .u16 0,.int .u16 0,.int .u16 0,.int .u16 0,.int .u16 0,.slice none 0 0,.slice none 0 0,.slice none 0 0,.slice none 0 0,.int .u8 0,.int .u8 0,.int .u8 0,.int .u8 0,.int .u8 0,.slice none 0 0] fun bT bi bj=>Pl 1<|nt<|rt<|tr<|cc bi (.int .i64 H)<|?_
 have hX2:co dir (fS x)=(a,H):=(congrArg (co dir) (gJ x)).trans U
 have hs:du dir b=(cT.zero,H):=by
   unfold du
   (try simp only[f,i,j,p,L,I,bs,if_true,if_false,decide_true,decide_false,cw,hds,hth,hX2,reduceIte])
   all_goals rfl
 refine cQ hs ?_
 exact bW (ud ae bj k)
 have bh:=ag I
 refine bB<|sq<|?_
 have af:=am a7 N (fun x hx=>ax) (fun _ _ h=>h)
 refine fE (aM.at_ (af).rd 0 (by omega)) fun bm bo ai bp bU=>Rg 8 (fun w'=>w'.cell? ⟨bm,bo+0,none⟩=some (.int .u8 (x.getD 0 0))∧w'.heap[ab]? = some (.cells (mG a.code a.fail a.addr a.count a.value a.and_ a.or_ a.addr2 a.sub a.status a.events a.messages (.slice q a.words.length r) (.slice s a.bits.length t) (.slice u a.data.length v) (.slice y a.recs.length z) a.mei a.kind a.level a.more a.next (.slice B a.objects.length C)) 31 (0,0))) fun bV O=>?_
 have ak:=ub O bf
 refine be ⟨(uc O bp),ak⟩ fun D=>Rt 0 D<|lU 1 D x.length 0 0 rfl ai (by omega)<|Rl 2 D (fun _ hs=>hs.1)<|Rt 3 D<|Rr 4 D (.agg (mG a.code a.fail a.addr a.count a.value a.and_ a.or_ a.addr2 a.sub a.status a.events a.messages (.slice q a.words.length r) (.slice s a.bits.length t) (.slice u a.data.length v) (.slice y a.recs.length z) a.mei a.kind a.level a.more a.next (.slice B a.objects.length C))) (fun w' hs=>mp (g:=ab) (off:=0) [.int .u8 a.code,.int .u8 a.fail,.int .u16 a.addr,.int .u16 a.count,.int .u16 a.value,.int .u16 a.and_,.int .u16 a.or_,.int .u16 a.addr2,.int .u16 a.sub,.int .u16 a.status,.int .u16 a.events,.int .u16 a.messages,.slice q a.words.length r,.slice s a.bits.length t,.slice u a.data.length v,.slice y a.recs.length z,.int .u8 a.mei,.int .u8 a.kind,.int .u8 a.level,.int .u8 a.more,.int .u8 a.next,.slice B a.objects.length C] rfl (by kernel_rfl) hs.2 (by kernel_rfl) (by kernel_rfl) rfl)<|Rt 5 D<|?_
 refine R0 6 rfl<|b6 (ub (aE l (aE G (aE N O))) d) #[.int .u8 (x.getD 0 0),.int .u16 0,.int .u8 a.code,.int .u8 a.fail,.int .u16 a.addr,.int .u16 a.count,.int .u16 a.value,.int .u16 a.and_,.int .u16 a.or_,.int .u16 a.addr2,.int .u16 a.sub,.int .u16 a.status,.int .u16 a.events,.int .u16 a.messages,.slice q a.words.length r,.slice s a.bits.length t,.slice u a.data.length v,.slice y a.recs.length z,.int .u8 a.mei,.int .u8 a.kind,.int .u8 a.level,.int .u8 a.more,.int .u8 a.next,.slice B a.objects.length C] fun bX bq al=>?_
 have W:=uz O al
 refine be ⟨(cB ((am af W (fun x hx=>(aa (fun e=>(aq (aj d) l.size S) (e▸hx)) ax)) (fun _ _ h=>h))).rd ai 0 (by omega)),(aO al (Ne.symm (nb (aj d) (le (le (le l.size a5.size) T.size) V.size) ac)) ak)⟩ fun bt=>Rt 7 bt<|re<|tn<|rt<|cc bq (.int .i64 0)<|?_
 have hX2:co dir (fS x)=(a,H):=(congrArg (co dir) (gJ x)).trans U
 have hs:du dir b=(⟨(x.getD 0 0),0,a⟩,0):=by
   unfold du
   (try simp only[f,i,j,p,L,I,bs,if_true,if_false,decide_true,decide_false,cw,hds,hth,hX2,reduceIte])
   all_goals rfl
 refine cQ hs ?_
 exact⟨_,rfl,⟨#[.int .u8 a.code,.int .u8 a.fail,.int .u16 a.addr,.int .u16 a.count,.int .u16 a.value,.int .u16 a.and_,.int .u16 a.or_,.int .u16 a.addr2,.int .u16 a.sub,.int .u16 a.status,.int .u16 a.events,.int .u16 a.messages,.slice q a.words.length r,.slice s a.bits.length t,.slice u a.data.length v,.slice y a.recs.length z,.int .u8 a.mei,.int .u8 a.kind,.int .u8 a.level,.int .u8 a.more,.int .u8 a.next,.slice B a.objects.length C],(by as_aux_lemma=>kernel_rfl),(aU.upd a9 (uz ad W) (ah (aD (ub (aE l (aE G V)) d) (by decide)) az)),b8 (x:=(x.getD 0 0)) (by omega),aB (x:=0) (by omega)⟩,(ud ae W k)⟩
theorem mV{m:Bool}{v:Value}{b:List Int}{w:World}{dir:Int}(h:aM m w v b)(hb:b.length≤1048576) : Calls Tryz.prog 171 #[.int .i64 dir,v] w (jh (du dir b) w):=by
  obtain⟨A,cp,rfl,_,_⟩:=h.shape
  exact lP h hb
open Go.RowKit
theorem lz.weaken{base base':Nat}{w:World}{v:Value}{xs:List Int}(h:lz base w v xs)(k:base'≤base) : lz base' w v xs:=by
  obtain⟨g,cap,cur,n,h1,h2,h3⟩:=h
  exact⟨g,cap,cur,n,h1,Nat.le_trans k h2,h3⟩
open Go.RowKit
theorem gn{m:Bool}{v:Value}{b:List Int}{w:World}{dir:Int}{F:cT}{E:Int}(hX:du dir b=(F,E))(h:aM m w v b)(hb:b.length≤1048576) : Calls Tryz.prog 171 #[.int .i64 dir,v] w (fun e w'=>∃ x,e = .returned (.tuple #[.agg (o5 F.unit F.tid F.msg x),.int .i64 E])∧(aU true w' (ol F.msg x).toList F.msg∧(0≤F.unit∧F.unit<256)∧(0≤F.tid∧F.tid<65536))∧au [] w w'):=by
  refine(mV h hb).mono ?_
  rintro e w' ⟨cs,rfl,h1,h2⟩
  rw[hX] at h1 ⊢
  obtain⟨c,rfl,h3,h4,h5⟩:=h1
  obtain⟨x,rfl⟩:=m6 h3
  exact⟨x,by rw[i5],⟨h3,h4,h5⟩,h2⟩
open Go.RowKit
theorem q7{P:Program}{w:World}{t e:TypeId}{g n c:Nat}{C:Array Value}(ht:P.underlying t=some (.slice e))(he:P.underlying e=some (.int .u8))(hb:w.heap[g]? = some (.cells C e (0,0))) :
    ∃ w2,(convert t t (.slice (some ⟨g,0,none⟩) n c)).run P w = .ok (.slice (some ⟨g,0,none⟩) n c) w2∧w2.heap[g]? = some (.cells C e (C.size,C.size+1))∧au [g] w w2:=by
  have hsh:w.shape? g=some (e,C.size):=by
    unfold World.shape?
    rw[hb]
  refine⟨w.freeze ⟨g,C.size,none⟩ 1,?_,?_,?_⟩
  · simp[convert,run_underlying ht,run_underlying he,markStringish,hsh]
  · unfold World.freeze
    rw[if_neg (by decide)]
    simp[Array.getElem?_modify,hb]
  · unfold World.freeze
    rw[if_neg (by decide)]
    refine⟨rfl,rfl,rfl,by simp,fun k hk hn=>?_⟩
    have hne:¬ g=k:=fun q=>hn (by rw[q];exact List.mem_singleton.2 rfl)
    simp[Array.getElem?_modify,hne]
theorem qt{w:World}{g:Nat}{C:Array Value}{fr:Nat × Nat}{xs:List Int}(hb:w.heap[g]? = some (.cells C 5 fr))(hC:C=(xs.map (Value.int .u8)).toArray)(hr:∀ x,x∈xs→0≤x∧x<256)(hl:xs.length≤4194304) : aM true w (.slice (some ⟨g,0,none⟩) xs.length xs.length) xs:=by
  refine⟨_,xs.length,rfl,Nat.le_refl _,by unfold maxLen;omega,(fun h=>by cases h),fun _=>⟨g,0,C,_,fr,rfl,hb,fun _=>rfl,fun j x hj=>?_⟩⟩
  refine⟨[.int .u8 x],rfl,⟨rfl,hr x (List.mem_of_getElem? hj)⟩,fun i u hi=>?_⟩
  cases i with
  | succ i=>simp at hi
  | zero =>
    have hi:Value.int .u8 x=u:=by simpa using hi
    subst hi
    subst hC
    simp only[Nat.zero_add,Nat.mul_one,Nat.add_zero]
    rw[List.getElem?_toArray,List.getElem?_map,hj]
    rfl
section
variable {P:Program}{n:Nat}{D:List Deferred}{F:Fr}{w:World}{K:Fr→World→Prop}{Q:Exit→Act→World→Prop}{d:Option Tmp}{t:TypeId}{s:String}{af:Array Edge}{gu:Option (Nat × Bool)}
theorem uw{ty e:TypeId}{x:Operand}{g m c:Nat}{C:Array Value}(hb:w.heap[g]? = some (.cells C e (0,0)))(h:∀ w',w'.heap[g]? = some (.cells C e (C.size,C.size+1))→au [g] w w'→K (pt d (.slice (some ⟨g,0,none⟩) m c) F) w')
    (hx:cX F x=some (.slice (some ⟨g,0,none⟩) m c):=by kernel_rfl) (hs:(kF P ty,P.underlying e,dw n d)=(some e,some (.int .u8),true):=by kernel_rfl) : OG P ⟨d,.convert ty ty x,t,s,af,gu⟩ n D F w K Q:=by
  simp only[Prod.mk.injEq] at hs
  obtain⟨h1,h2,h3⟩:=hs
  obtain⟨w2,hr,hB,hu⟩:=q7 (n:=m) (c:=c) (d8 h1) h2 hb
  refine⟨fun a ha K' hK=>OW.mk ?_⟩
  have hx':=ha.ev hx
  unfold Oper.wp execOp
  simp only[hx',Sem.run_bind,Sem.run_pure,hr,Result.andThen_ok]
  exact hK _ _ _ (h w2 hB hu) (ha.put h3)
end
open Go.RowKit
structure SA where
  dir:Int
  held:List Int
abbrev vR (S:SA) (A:Option Addr) (cp:Nat) : Array Value:=#[.int .i64 S.dir,.slice A S.held.length cp]
abbrev qV (w:World) (g:Nat) (S:SA) (A:Option Addr) (cp:Nat) : Prop:=w.heap[g]? = some (.cells (vR S A cp) 129 (0,0))
def SA.tail (d:Int)(h:List Int) : SA × List Ev:=if decide (513<((h.length:Nat) : Int))=true then (⟨d,[]⟩,[Ev.bad 3]) else if fd h [13,10]=true then (⟨d,[]⟩,[Ev.mk (du d h).2 (du d h).1]) else (⟨d,h⟩,[])
def SA.byte (S:SA)(c:Int) : SA × List Ev:=if ((c==58)&&(decide (0<((S.held.length:Nat) : Int))))=true then (⟨S.dir,[58]⟩,[Ev.bad 12]) else if ((c != 58)&&(((S.held.length:Nat) : Int)==0))=true then (S,[]) else SA.tail S.dir (S.held++[c])
def SA.feed (S:SA)(b:List Int) : SA × List Ev:=b.foldl (fun p c=>((p.1.byte c).1,p.2++(p.1.byte c).2)) (S,[])
def SA.ok (S:SA) : Prop:=(∀ x,x∈S.held→0≤x∧x<256)∧S.held.length≤513
theorem SA.ok_le{S:SA}(h:S.ok) : S.held.length≤513:=h.2
theorem SA.byte_ok{S S2:SA}{c:Int}{L2:List Ev}(h:S.ok)(hc:0≤c∧c<256)(hx:S.byte c=(S2,L2)) : S2.ok∧L2.length≤1:=by
  have h0:∀ d,(SA.mk d []).ok:=fun d=>⟨fun x hx=>(by cases hx),Nat.zero_le _⟩
  unfold SA.byte at hx
  split at hx
  · injection hx with e1 e2
    subst e1 e2
    exact⟨⟨fun x hx=>(by rw[List.mem_singleton] at hx;rw[hx];decide),(by show 1≤513;decide)⟩,Nat.le_refl _⟩
  split at hx
  · injection hx with e1 e2
    subst e1 e2
    exact⟨h,Nat.zero_le _⟩
  unfold SA.tail at hx
  split at hx
  · injection hx with e1 e2
    subst e1 e2
    exact⟨h0 _,Nat.le_refl _⟩
  rename_i hl
  split at hx
  · injection hx with e1 e2
    subst e1 e2
    exact⟨h0 _,Nat.le_refl _⟩
  · injection hx with e1 e2
    subst e1 e2
    refine⟨⟨fun x hx=>?_,?_⟩,Nat.zero_le _⟩
    · rcases List.mem_append.1 hx with k | k
      · exact h.1 x k
      · rw[List.mem_singleton] at k;rw[k];exact hc
    · simp only[decide_eq_true_eq] at hl
      show(S.held++[c]).length≤513
      omega
theorem fA{S0 T T2:SA}{L L2:List Ev}{b:List Int}{k:Nat}(hk:k<b.length)(h:(T,L)=S0.feed (b.take k))(hx:T.byte (b.getD k 0)=(T2,L2)) : (T2,L++L2)=S0.feed (b.take (k+1)):=by
  rw[List.take_succ_eq_append_getElem hk]
  unfold SA.feed at h ⊢
  rw[List.foldl_append,← h]
  rw[List.getD_eq_getElem?_getD,List.getElem?_eq_getElem hk] at hx
  simp only[Option.getD_some] at hx
  simp only[List.foldl_cons,List.foldl_nil,hx]
theorem kx{S0 T T2:SA}{L:List Ev}{b:List Int}{k:Nat}(hk:k<b.length)(h:(T,L)=S0.feed (b.take k))(hx:T.byte (b.getD k 0)=(T2,[])) : (T2,L)=S0.feed (b.take (k+1)):=by
  have:=fA hk h hx
  rwa [List.append_nil] at this
theorem tI{T:SA}{c:Int}(h:((c==58)&&(decide (0<((T.held.length:Nat) : Int))))=true) : T.byte c=(⟨T.dir,[58]⟩,[Ev.bad 12]):=by unfold SA.byte;rw[if_pos h]
theorem to{T:SA}{c:Int}(h:((c==58)&&(decide (0<((T.held.length:Nat) : Int))))=false)(h2:((c != 58)&&(((T.held.length:Nat) : Int)==0))=true) : T.byte c=(T,[]):=by unfold SA.byte;rw[if_neg (by rw[h];decide),if_pos h2]
theorem tA{T:SA}{c:Int}(h:((c==58)&&(decide (0<((T.held.length:Nat) : Int))))=false)(h2:((c != 58)&&(((T.held.length:Nat) : Int)==0))=false)(h3:decide (513<(((T.held++[c]).length:Nat) : Int))=true) : T.byte c=(⟨T.dir,[]⟩,[Ev.bad 3]):=by unfold SA.byte;rw[if_neg (by rw[h];decide),if_neg (by rw[h2];decide)];unfold SA.tail;rw[if_pos h3]
theorem rM{T:SA}{c:Int}{F:cT}{E:Int}(h:((c==58)&&(decide (0<((T.held.length:Nat) : Int))))=false)(h2:((c != 58)&&(((T.held.length:Nat) : Int)==0))=false)(h3:decide (513<(((T.held++[c]).length:Nat) : Int))=false)(h4:fd (T.held++[c]) [13,10]=true)(hX:du T.dir (T.held++[c])=(F,E)) : T.byte c=(⟨T.dir,[]⟩,[Ev.mk E F]):=by unfold SA.byte;rw[if_neg (by rw[h];decide),if_neg (by rw[h2];decide)];unfold SA.tail;rw[if_neg (by rw[h3];decide),if_pos h4,hX]
theorem tu{T:SA}{c:Int}(h:((c==58)&&(decide (0<((T.held.length:Nat) : Int))))=false)(h2:((c != 58)&&(((T.held.length:Nat) : Int)==0))=false)(h3:decide (513<(((T.held++[c]).length:Nat) : Int))=false)(h4:fd (T.held++[c]) [13,10]=false) : T.byte c=(⟨T.dir,T.held++[c]⟩,[]):=by unfold SA.byte;rw[if_neg (by rw[h];decide),if_neg (by rw[h2];decide)];unfold SA.tail;rw[if_neg (by rw[h3];decide),if_neg (by rw[h4];decide)]
def vA (base n0:Nat)(S2:SA)(L:List Ev)(g:Nat)(A:Option Addr)(w:World)(e:Ending)(w':World) : Prop:=∃ v A2 cp2 n2,e = .returned v∧cv n2 w.heap.size w' v L∧qV w' g S2 A2 cp2∧cN base w' (.slice A2 S2.held.length cp2) S2.held∧(∀ x,x∈ob A2→x∈ob A∨w.heap.size≤x)∧(n0≤n2∧n2≤w'.heap.size)∧(∀ x,x∈ob A2→n2≤x)∧au (g :: (ob A++[])) w w'
theorem ga{b:List Int}(h:∀ x,x∈b→0≤x∧x<256)(k:Nat) : 0≤b.getD k 0∧b.getD k 0<256:=by
  rw[List.getD_eq_getElem?_getD]
  cases hj:b[k]? with
  | none=>simp
  | some x=>exact h x (List.mem_of_getElem? hj)
theorem nM{w:World}:Calls Tryz.prog 47 #[.int .i64 0] w (fun e w'=>∃ g,e = .returned (.pointer (some ⟨g,0,none⟩))∧w.heap.size≤g∧qV w' g ⟨0,[]⟩ none 0∧au [] w w'):=by
 refine en 12 Tryz.func47 rfl<|sg<|Pl 1<|nt<|sq<|sg<|Pl 6<|nt<|c0<|sk<|?_
 refine tn<|sg<|Pl 2<|L0<|cW #[.int .i64 0,.slice none 0 0] fun a f b c d=>Pl 1<|nt<|rt<|rr (.pointer (some ⟨a,0,none⟩))<|?_
 exact⟨a,rfl,b,c,d⟩
theorem nd{w:World}:Calls Tryz.prog 47 #[.int .i64 1] w (fun e w'=>∃ g,e = .returned (.pointer (some ⟨g,0,none⟩))∧w.heap.size≤g∧qV w' g ⟨1,[]⟩ none 0∧au [] w w'):=by
 refine en 12 Tryz.func47 rfl<|sg<|Pl 1<|nt<|sq<|sg<|Pl 6<|nt<|c0<|sk<|?_
 refine tn<|sg<|Pl 2<|L0<|cW #[.int .i64 1,.slice none 0 0] fun a f b c d=>Pl 1<|nt<|rt<|rr (.pointer (some ⟨a,0,none⟩))<|?_
 exact⟨a,rfl,b,c,d⟩
theorem o4{w:World}{g:Nat}{S:SA}{A:Option Addr}{cp:Nat}(hb:qV w g S A cp)(hr:aM true w (.slice A S.held.length cp) S.held) : Calls Tryz.prog 169 #[.pointer (some ⟨g,0,none⟩)] w (bg (.int .i64 ((S.held.length:Nat) : Int)) w):=by
 have hcm:=aH.len hr
 refine en 8 Tryz.func169 rfl<|sg<|Pl 1<|ng<|Pl 3<|L0<|aR hb 1<|Pl 2<|nt<|rt<|?_
 refine rr (.int .i64 ((S.held.length:Nat) : Int))<|?_
 exact⟨rfl,(au.refl [] _)⟩
theorem lG{w:World}{g base:Nat}{S:SA}{A:Option Addr}{cp:Nat}{m:Bool}{B:Option Addr}{cpb:Nat}{b:List Int}(hb:qV w g S A cp)(ho:cN base w (.slice A S.held.length cp) S.held)(hbs:base≤w.heap.size)(hok0:S.ok){n0:Nat}(hn0:n0≤w.heap.size)(hlo:∀ x,x∈ob A→n0≤x)(hsl:aM m w (.slice B b.length cpb) b)(hdg:0<b.length→∀ x,x∈ob B→x≠g)(hda:iV b.length B (ob A))(hbl:b.length≤1048576) :
    Calls Tryz.prog 168 #[.pointer (some ⟨g,0,none⟩),.slice B b.length cpb] w (vA base n0 (S.feed b).1 (S.feed b).2 g A w):=by
 have hdl:=aH.low hsl
 have hok0l:=SA.ok_le hok0
 have hrb:=aM.range hsl
 refine en 98 Tryz.func168 rfl<|sg<|Pl 1<|nt<|vG<|sg<|Pl 1<|nt<|sq<|vO<|?_
 refine tn<|sq<|sg<|Pl 3<|nt<|bk<|?_
 refine fR (fun x=>[(0,.pointer (some ⟨g,0,none⟩)),(4,.slice none 0 0),(5,.slice x.2.2.2.2.2.1 x.2.2.1.length x.2.2.2.2.2.2.1),(10,.slice B b.length cpb),(11,.int .i64 ((b.length:Nat) : Int)),(12,.int .i64 ((x.1:Nat) : Int))]) (fun(x:Nat × SA × List Ev × Option Addr × Nat × Option Addr × Nat × Nat) w'=>au (g :: (ob A++[])) w w'∧qV w' g x.2.1 x.2.2.2.1 x.2.2.2.2.1∧cN base w' (.slice x.2.2.2.1 x.2.1.held.length x.2.2.2.2.1) x.2.1.held∧cv x.2.2.2.2.2.2.2 w.heap.size w' (.slice x.2.2.2.2.2.1 x.2.2.1.length x.2.2.2.2.2.2.1) x.2.2.1∧x.2.2.2.2.2.2.2≤w'.heap.size∧aM m w' (.slice B b.length cpb) b∧((x.2.1,x.2.2.1)=S.feed (b.take x.1))∧(x.2.1.ok)∧(x.2.1.held.length≤513)∧(x.1≤b.length)∧(x.2.2.1.length≤x.1)∧(∀ y,y∈ob x.2.2.2.1→y∈ob A∨w.heap.size≤y)∧(n0≤x.2.2.2.2.2.2.2)∧(∀ y,y∈ob x.2.2.2.1→x.2.2.2.2.2.2.2≤y)) (fun x=>b.length-x.1) (0,S,[],A,cp,none,0,n0) ⟨au.refl _ _,hb,ho,(aN.nil w.heap.size _ _ (aZ n0) _),(Nat.le_trans hn0 lr),hsl,rfl,hok0,hok0l,(by(try dsimp only);exact Nat.zero_le _),(by(try dsimp only);exact Nat.zero_le _),fx,(by(try dsimp only);exact Nat.le_refl _),hlo⟩ ?_
 rintro⟨k,T,L,Ah,ch,Bq,cq,n⟩ H ⟨d,ci,ck,cl,cm,cn,co,cr,ct,cw,cx,cy,cz,cA⟩
 refine fz [(0,.pointer (some ⟨g,0,none⟩)),(4,.slice none 0 0),(5,.slice Bq L.length cq),(10,.slice B b.length cpb),(11,.int .i64 ((b.length:Nat) : Int)),(12,.int .i64 ((k:Nat) : Int))] ?_
 have f:qV H g T Ah ch:=ci
 have r:cN base H (.slice Ah T.held.length ch) T.held:=ck
 have a:cv n w.heap.size H (.slice Bq L.length cq) L:=cl
 have cB:n≤H.heap.size:=cm
 have hnl:=cB
 have z:aM m H (.slice B b.length cpb) b:=cn
 have cC:(T,L)=S.feed (b.take k):=co
 have cD:T.ok:=cr
 have dV:T.held.length≤513:=ct
 have dW:k≤b.length:=cw
 have dX:L.length≤k:=cx
 have cE:∀ y,y∈ob Ah→y∈ob A∨w.heap.size≤y:=cy
 have cF:n0≤n:=cz
 have cG:∀ y,y∈ob Ah→n≤y:=cA
 have hlow:=cG
 have hn0l:=cF
 have hat0:=cE
 have hok:=cD
 have hpj:=cC
 have hle:=SA.ok_le hok
 refine sg<|Pl 1<|nt<|sq<|cb ((decide (((k:Nat) : Int)<((b.length:Nat) : Int)))) (fun ae=>?_) (fun ae=>?_)
 have cH:=of_decide_eq_true ae
 refine bB<|sq<|bk<|sg<|fE (aM.at_ z k (by omega)) fun cI cJ cK cL dY=>L0<|mN b.length k cK (by omega)<|L0<|jx (p:=⟨cI,cJ+k,none⟩) (v:=.int .u8 (b.getD k 0)) cL<|Pl 1<|nt<|sq<|bk<|?_
 refine sg<|Pl 3<|cu 7 [19] 26 ((((b.getD k 0)==58)&&(decide (0<((T.held.length:Nat) : Int))))) (fun K ba=>?_) ?_
 refine bl 19 (((b.getD k 0)==58)) (fun M=>?_) (fun M=>?_)
 have cM:=aA M
 exact Pl 3<|L1<|aR f 1<|Pl 3<|ce ba (decide (0<((T.held.length:Nat) : Int))) (by rw[M];rfl)
 have cM:=aG M
 exact Pl 7<|ce ba false (by rw[M];rfl)
 refine Pl 1<|nt<|cb ((((b.getD k 0)==58)&&(decide (0<((T.held.length:Nat) : Int))))) (fun l=>?_) (fun l=>?_)
 have cO:=(bM l).1
 have cQ:=(bM l).2
 have e0:=aA cO
 have e1:=of_decide_eq_true cQ
 refine sg<|Pl 2<|L0<|fk (m:=1) (e:=66) #[.int .i64 12,.int .u8 0,.int .u16 0,.int .u8 0,.int .u8 0,.int .u16 0,.int .u16 0,.int .u16 0,.int .u16 0,.int .u16 0,.int .u16 0,.int .u16 0,.int .u16 0,.int .u16 0,.int .u16 0,.slice none 0 0,.slice none 0 0,.slice none 0 0,.slice none 0 0,.int .u8 0,.int .u8 0,.int .u8 0,.int .u8 0,.int .u8 0,.slice none 0 0] fun e3 af cR cS i=>?_
 have cT:=j8 (w0:=H) (x:=(Ev.bad 12)) cR cS ⟨⟨none,0,none,0,none,0,none,0,none,0⟩,by kernel_rfl,jg,(show(0:Int)≤0∧(0:Int)<256 from by decide),(show(0:Int)≤0∧(0:Int)<65536 from by decide)⟩
 have bb:=am a i (fun x hx=>ax) (fun x cs q=>aZ.upd i bv q)
 have cU:n≤af.heap.size:=Nat.le_trans hnl i.size
 refine L0<|ge (R:=aZ af.heap.size) (xs:=L) (ys:=([Ev.bad 12])) (.agg #[.int .i64 0,.int .u8 0,.int .u16 0,.int .u8 0,.int .u8 0,.int .u16 0,.int .u16 0,.int .u16 0,.int .u16 0,.int .u16 0,.int .u16 0,.int .u16 0,.int .u16 0,.int .u16 0,.int .u16 0,.slice none 0 0,.slice none 0 0,.slice none 0 0,.slice none 0 0,.int .u8 0,.int .u8 0,.int .u8 0,.int .u8 0,.int .u8 0,.slice none 0 0]) 25 168 (cv.up cU (Nat.le_refl _) bb) (f6.low cT).rd aZ.ones (fun w' hv x cs q=>aZ.upd hv (fN bb (by decide) bv) q) (by(try simp only[List.length_append,List.length_cons,List.length_nil,aT]);omega) (le d.size i.size) fun cW cX e4 bc C e5=>Pl 1<|ng<|Pl 1<|L0<|fk (m:=1) (e:=5) #[.int .u8 58] fun bd e6 cY cZ ak=>?_
 have W:=ir cY (xs:=[58]) (by as_aux_lemma=>kernel_rfl) (aF (by omega) cV) (by(try simp only[List.length_cons,List.length_nil]);omega) cZ
 refine Pl 2<|?_
 have bf:=ut (au.mono (S':=(ob Bq++[])) i av) (aE C ak) (ap il av)
 refine L0<|bO (au.blk bf (aK (aq (aj hb) lr a) ax) f) 1 #[.int .i64 T.dir,.slice (some ⟨bd,0,none⟩) 1 1] fun e7 d0 X=>nt<|xt<|u5<|tx<|bx<|tn<|go<|L0<|Oi (((k:Nat) : Int)+1)<|Pl 1<|nl<|?_
 have bg:=u1 (au.mono (S':=(ob Bq++(g :: []))) bf (ap il av)) X im
 have bh:=uz ak X
 have bi:=tI (T:=T) (c:=(b.getD k 0)) l
 have bj:=SA.byte_ok hok (ga hrb k) bi
 exact dZ ((k+1),(SA.mk T.dir [58]),(L++[Ev.bad 12]),some ⟨bd,0,none⟩,1,cW,cX,af.heap.size) ⟨(ut d bg (ap (bt a lr) (ac im av))),d0,(pm (Nat.le_trans hbs (le (le d.size i.size) C.size)) (am W X (fun x hx=>(aa (fun e=>(aq (aj hb) (le (le d.size i.size) C.size) W) (e▸hx)) ax)) (fun _ _ h=>h))),(am bc bh (fun x hx=>(aa (fun e=>(aq (aj hb) lr bc) (e▸hx)) ax)) (fun x cs q=>aZ.upd bh (dr (au.blk (ut (au.mono (S':=(ob Bq++[])) i av) C (ap il av)) (aK (aq (aj hb) lr a) ax) f) (by decide) bv) q)),(le (le C.size ak.size) X.size),(aM.far z bg (cj (dT hdl a (Nat.le_refl _)) (cP hdg dh))),(by(try dsimp only);exact fA (by omega) hpj bi),(by(try dsimp only);exact bj.1),(by(try dsimp only);have q:=SA.ok_le bj.1;exact q),(by(try dsimp only);omega),(by(try dsimp only);(try simp only[List.length_append,List.length_cons,List.length_nil]);omega),(by(try dsimp only);exact(qB W (le (le d.size i.size) C.size))),(by(try dsimp only);exact Nat.le_trans hn0l (Nat.le_trans hnl i.size)),(by(try dsimp only);exact(qC W C.size))⟩ (by omega)
 refine sg<|Pl 3<|cu 7 [38] 45 ((((b.getD k 0)!=58)&&(((T.held.length:Nat) : Int)==0))) (fun K bm=>?_) ?_
 refine bl 38 (((b.getD k 0)!=58)) (fun N=>?_) (fun N=>?_)
 have d1:=ay N
 exact Pl 3<|L1<|aR f 1<|Pl 3<|ce bm (((T.held.length:Nat) : Int)==0) (by rw[N];rfl)
 have d1:=ag N
 exact Pl 7<|ce bm false (by rw[N];rfl)
 refine Pl 1<|nt<|cb ((((b.getD k 0)!=58)&&(((T.held.length:Nat) : Int)==0))) (fun s=>?_) (fun s=>?_)
 have d2:=(bM s).1
 have d3:=(bM s).2
 have e8:=ay d2
 have e9:=aA d3
 refine xt<|u5<|tx<|bx<|tn<|go<|L0<|Oi (((k:Nat) : Int)+1)<|Pl 1<|nl<|?_
 have bo:=to (T:=T) (c:=(b.getD k 0)) l s
 have bp:=SA.byte_ok hok (ga hrb k) bo
 exact dZ ((k+1),T,L,Ah,ch,Bq,cq,n) ⟨d,f,r,a,(Nat.le_trans hnl lr),z,(by(try dsimp only);exact kx (by omega) hpj bo),(by(try dsimp only);exact bp.1),(by(try dsimp only);have q:=SA.ok_le bp.1;exact q),(by(try dsimp only);omega),(by(try dsimp only);(try simp only[List.length_append,List.length_cons,List.length_nil]);omega),(by(try dsimp only);exact hat0),(by(try dsimp only);exact hn0l),(by(try dsimp only);exact hlow)⟩ (by omega)
 refine sk<|bn<|tn<|sg<|Pl 4<|L0<|aR f 1<|Pl 1<|L0<|fk (m:=1) (e:=5) #[.int .u8 (b.getD k 0)] fun ea eb d4 d5 j=>?_
 have d6:=ir d4 (xs:=[(b.getD k 0)]) (by as_aux_lemma=>kernel_rfl) (aF (by omega) cV) (by(try simp only[List.length_cons,List.length_nil]);omega) d5
 refine L0<|ge (R:=kQ) (xs:=T.held) (ys:=([(b.getD k 0)])) (.int .u8 0) 1 1 (am r j (fun x hx=>ax) (fun _ _ h=>h)) (d6).rd mH (fun _ _ _ _ h=>h) (by(try simp only[List.length_append,List.length_cons,List.length_nil,aT]);omega) (Nat.le_trans hbs (le d.size j.size)) fun Y Z ec bq I br=>Pl 2<|?_
 have bs:=ut (au.mono (S':=(ob Ah++[])) j av) I (ap il av)
 have bu:=au.blk bs (aK (bJ f r (by decide)) ax) f
 refine L0<|bO bu 1 #[.int .i64 T.dir,.slice Y ((T.held++[(b.getD k 0)]).length) Z] fun d8 O D=>nt<|sq<|bk<|sg<|Pl 3<|L0<|aR O 1<|Pl 3<|nt<|?_
 have J:=u1 (au.mono (S':=(ob Ah++(g :: []))) bs (ap il av)) D im
 have bw:=ut d J (ap (gD hat0 il lr) (ac im av))
 refine cb ((decide (513<(((T.held++[(b.getD k 0)]).length:Nat) : Int)))) (fun E=>?_) (fun E=>?_)
 have d9:=of_decide_eq_true E
 refine go<|Pl 2<|L0<|fk (m:=1) (e:=66) #[.int .i64 3,.int .u8 0,.int .u16 0,.int .u8 0,.int .u8 0,.int .u16 0,.int .u16 0,.int .u16 0,.int .u16 0,.int .u16 0,.int .u16 0,.int .u16 0,.int .u16 0,.int .u16 0,.int .u16 0,.slice none 0 0,.slice none 0 0,.slice none 0 0,.slice none 0 0,.int .u8 0,.int .u8 0,.int .u8 0,.int .u8 0,.int .u8 0,.slice none 0 0] fun ed al da db an=>?_
 have dc:=j8 (w0:=d8) (x:=(Ev.bad 3)) da db ⟨⟨none,0,none,0,none,0,none,0,none,0⟩,by kernel_rfl,jg,(show(0:Int)≤0∧(0:Int)<256 from by decide),(show(0:Int)≤0∧(0:Int)<65536 from by decide)⟩
 have a0:=aE J an
 have bA:=am a a0 (fun x hx=>(aK ((bY a r (by decide)) x hx) (aa (fun e=>(aq (aj hb) lr a) (e▸hx)) ax))) (fun x cs q=>aZ.upd a0 (eO hlow (dr f (by decide) bv)) q)
 have dd:n≤al.heap.size:=Nat.le_trans hnl a0.size
 refine L0<|ge (R:=aZ al.heap.size) (xs:=L) (ys:=([Ev.bad 3])) (.agg #[.int .i64 0,.int .u8 0,.int .u16 0,.int .u8 0,.int .u8 0,.int .u16 0,.int .u16 0,.int .u16 0,.int .u16 0,.int .u16 0,.int .u16 0,.int .u16 0,.int .u16 0,.int .u16 0,.int .u16 0,.slice none 0 0,.slice none 0 0,.slice none 0 0,.slice none 0 0,.int .u8 0,.int .u8 0,.int .u8 0,.int .u8 0,.int .u8 0,.slice none 0 0]) 25 168 (cv.up dd (Nat.le_refl _) bA) (f6.low dc).rd aZ.ones (fun w' hv x cs q=>aZ.upd hv (fN bA (by decide) bv) q) (by(try simp only[List.length_append,List.length_cons,List.length_nil,aT]);omega) (le (le (le (le d.size j.size) I.size) D.size) an.size) fun de df ee bC bD ef=>Pl 1<|nl<|bn<|tn<|go<|Pl 3<|?_
 have bE:=ut (au.mono (S':=(ob Bq++[])) an av) bD (ap il av)
 have bF:=au.blk bE (aK (aq (aj hb) lr a) ax) O
 refine L0<|bO bF 1 #[.int .i64 T.dir,.slice none 0 0] fun eg dg a1=>nl<|bn<|tn<|go<|L0<|Oi (((k:Nat) : Int)+1)<|Pl 1<|nl<|?_
 have bG:=u1 (au.mono (S':=(ob Bq++(g :: []))) bE (ap il av)) a1 im
 have bH:=tA (T:=T) (c:=(b.getD k 0)) l s E
 have bI:=SA.byte_ok hok (ga hrb k) bH
 exact dZ ((k+1),(SA.mk T.dir []),(L++[Ev.bad 3]),none,0,de,df,al.heap.size) ⟨(ut bw bG (ap (bt a lr) (ac im av))),dg,(aN.nil base _ _ kQ _),(am bC a1 (fun x hx=>(aa (fun e=>(aq (aj hb) lr bC) (e▸hx)) ax)) (fun x cs q=>aZ.upd a1 (dr bF (by decide) bv) q)),(le bD.size a1.size),(aM.far z (ut (au.mono (S':=(ob Ah++(g :: (ob Bq++[])))) J (ap il (ac im av))) bG (ap il (ac im av))) (cj (dP hda hdl hat0) (cP hdg (cj (dT hdl a (Nat.le_refl _)) dh)))),(by(try dsimp only);exact fA (by omega) hpj bH),(by(try dsimp only);exact bI.1),(by(try dsimp only);have q:=SA.ok_le bI.1;exact q),(by(try dsimp only);omega),(by(try dsimp only);(try simp only[List.length_append,List.length_cons,List.length_nil]);omega),(by(try dsimp only);exact d7),(by(try dsimp only);exact Nat.le_trans hn0l (Nat.le_trans hnl a0.size)),(by(try dsimp only);exact bU)⟩ (by omega)
 have d9:=of_decide_eq_false E
 refine sg<|Pl 3<|L0<|aR O 1<|L0<|fk (m:=2) (e:=5) #[.int .u8 13,.int .u8 10] fun di eh bK bL P=>?_
 have ei:=ir bK (xs:=[13,10]) (by as_aux_lemma=>kernel_rfl) (aF (by omega) (aF (by omega) cV)) (by(try simp only[List.length_cons,List.length_nil]);omega) bL
 refine L0<|uw (m:=2) (c:=2) bL fun ej dj Q=>?_
 have dk:=qt dj (xs:=[13,10]) (by as_aux_lemma=>kernel_rfl) (aF (by omega) (aF (by omega) cV)) (by(try simp only[List.length_cons,List.length_nil]);omega)
 have bN:=ud P Q bK
 have a2:=am bq (aE D bN) (fun x hx=>(aa (fun e=>(bJ bu bq (by decide)) (e▸hx)) ax)) (fun _ _ h=>h)
 refine L0<|Oc (args:=#[.slice Y ((T.held++[(b.getD k 0)]).length) Z,.slice (some ⟨di,0,none⟩) 2 2])<|m1 (qX (xs:=(T.held++[(b.getD k 0)])) (ys:=[13,10]) (a2).rd dk) fun ek t=>Pl 1<|nt<|?_
 have a3:=aE bN t
 have ao:=aE bw a3
 refine cb ((fd (T.held++[(b.getD k 0)]) ([13,10]))) (fun a4=>?_) (fun a4=>?_)
 refine sq<|Rg 15 (fun w'=>w'.cell? ⟨g,0,none⟩=some (.int .i64 T.dir)∧w'.cell? ⟨g,1,none⟩=some (.slice Y ((T.held++[(b.getD k 0)]).length) Z)) fun el o=>?_
 have ar:=aE a3 o
 have a5:=ub ar O
 refine be ⟨(ai a5 rfl),(ai a5 rfl)⟩ fun u=>Rt 0 u<|Rt 1 u<|Rt 2 u<|Rl 3 u (fun _ hs=>hs.1)<|Rt 4 u<|Rt 5 u<|Rt 6 u<|Rl 7 u (fun _ hs=>hs.2)<|?_
 refine R2 8 12 rfl rfl ?_ ?_
 refine pr (du T.dir (T.held++[(b.getD k 0)])) fun F a6 bP=>?_
 refine  Oc<|e2 (gn bP ((am a2 (aE t o) (fun x hx=>ax) (fun _ _ h=>h))).rd (by simp only[List.length_append,List.length_cons,List.length_nil,List.length_replicate];omega)) fun aw em dl a7=>?_
 obtain⟨dm,dn,dp⟩:=dl
 have aB:=ub a7 a5
 refine be ⟨(ai aB rfl),(ai aB rfl)⟩ fun aC=>Rt 9 aC<|Rt 10 aC<|Rt 11 aC<|R0 12 rfl<|bz #[.int .u8 0,.int .u16 0,.int .u8 0,.int .u8 0,.int .u16 0,.int .u16 0,.int .u16 0,.int .u16 0,.int .u16 0,.int .u16 0,.int .u16 0,.int .u16 0,.int .u16 0,.int .u16 0,.slice none 0 0,.slice none 0 0,.slice none 0 0,.slice none 0 0,.int .u8 0,.int .u8 0,.int .u8 0,.int .u8 0,.int .u8 0,.slice none 0 0] fun eo ep bQ dq aI=>?_
 have aJ:=ub aI aB
 refine be ⟨(ai aJ rfl),(ai aJ rfl)⟩ fun eq=>R0 13 rfl<|b6 dq (o5 F.unit F.tid F.msg aw) fun ds dt aL=>?_
 have aP:=aO aL (nb (aj hb) (le (le (le (le (le (le (le (le d.size j.size) I.size) D.size) P.size) Q.size) t.size) o.size) a7.size) bQ) aJ
 refine be ⟨(ai aP rfl),(ai aP rfl)⟩ fun dv=>Rt 14 dv<|re<|tn<|go<|Pl 2<|L0<|c9 dt<|Pl 1<|L0<|fk (m:=1) (e:=66) (kS ⟨a6,F⟩ aw) fun er aQ dw dx aS=>?_
 have bR:=ud aI (aE aL aS) bQ
 have dy:=j8 (w0:=ds) (x:=(Ev.mk a6 F)) dw dx ⟨aw,rfl,(aU.upd dm bR az),dn,dp⟩
 have bS:=aE a7 bR
 have U:=aE J (aE ar bS)
 have bT:=am a U (fun x hx=>(aK ((bY a r (by decide)) x hx) (aa (fun e=>(aq (aj hb) lr a) (e▸hx)) ax))) (fun x cs q=>aZ.upd U (eO hlow (dr f (by decide) bv)) q)
 have dz:n≤aQ.heap.size:=Nat.le_trans hnl U.size
 refine L0<|ge (R:=aZ aQ.heap.size) (xs:=L) (ys:=([Ev.mk a6 F])) (.agg #[.int .i64 0,.int .u8 0,.int .u16 0,.int .u8 0,.int .u8 0,.int .u16 0,.int .u16 0,.int .u16 0,.int .u16 0,.int .u16 0,.int .u16 0,.int .u16 0,.int .u16 0,.int .u16 0,.int .u16 0,.slice none 0 0,.slice none 0 0,.slice none 0 0,.slice none 0 0,.int .u8 0,.int .u8 0,.int .u8 0,.int .u8 0,.int .u8 0,.slice none 0 0]) 25 168 (cv.up dz (Nat.le_refl _) bT) (f6.low dy).rd aZ.ones (fun w' hv x cs q=>aZ.upd hv (fN bT (by decide) bv) q) (by(try simp only[List.length_append,List.length_cons,List.length_nil,aT]);omega) (le (le (le (le (le (le (le (le (le (le (le d.size j.size) I.size) D.size) P.size) Q.size) t.size) o.size) a7.size) aI.size) aL.size) aS.size) fun dA dB es bV bW et=>Pl 1<|nl<|bn<|tn<|go<|Pl 3<|?_
 have bX:=au.blk (ut (au.mono (S':=(ob Bq++[])) aS av) bW (ap il av)) (aK (aq (aj hb) lr a) ax) aP
 refine L0<|bO bX 1 #[.int .i64 T.dir,.slice none 0 0] fun eu dC aV=>nl<|bn<|tn<|go<|L0<|Oi (((k:Nat) : Int)+1)<|Pl 1<|nl<|?_
 have aW:=u1 (au.mono (S':=(ob Bq++(g :: []))) bW (ap il av)) aV im
 have bZ:=rM (T:=T) (c:=(b.getD k 0)) l s E a4 bP
 have c0:=SA.byte_ok hok (ga hrb k) bZ
 exact dZ ((k+1),(SA.mk T.dir []),(L++[Ev.mk a6 F]),none,0,dA,dB,aQ.heap.size) ⟨(ut ao (ut (au.mono (S':=(ob Bq++(g :: []))) o av) (ut (au.mono (S':=(ob Bq++(g :: []))) bS av) aW (ap il (ac im av))) (ap il (ac im av))) (ap (bt a lr) (ac im av))),dC,(aN.nil base _ _ kQ _),(am bV aV (fun x hx=>(aa (fun e=>(aq (aj hb) lr bV) (e▸hx)) ax)) (fun x cs q=>aZ.upd aV (dr bX (by decide) bv) q)),aW.size,(aM.far z (ut (au.mono (S':=(ob Ah++(g :: (ob Bq++[])))) U (ap il (ac im av))) aW (ap il (ac im av))) (cj (dP hda hdl hat0) (cP hdg (cj (dT hdl a (Nat.le_refl _)) dh)))),(by(try dsimp only);exact fA (by omega) hpj bZ),(by(try dsimp only);exact c0.1),(by(try dsimp only);have q:=SA.ok_le c0.1;exact q),(by(try dsimp only);omega),(by(try dsimp only);(try simp only[List.length_append,List.length_cons,List.length_nil]);omega),(by(try dsimp only);exact d7),(by(try dsimp only);exact Nat.le_trans hn0l (Nat.le_trans hnl U.size)),(by(try dsimp only);exact bU)⟩ (by omega)
 refine  bz #[.int .u8 0,.int .u16 0,.int .u8 0,.int .u8 0,.int .u16 0,.int .u16 0,.int .u16 0,.int .u16 0,.int .u16 0,.int .u16 0,.int .u16 0,.int .u16 0,.int .u16 0,.int .u16 0,.slice none 0 0,.slice none 0 0,.slice none 0 0,.slice none 0 0,.int .u8 0,.int .u8 0,.int .u8 0,.int .u8 0,.int .u8 0,.slice none 0 0] fun dD ev aX dE a8=>?_
 have aY:=ub a8 a5
 refine be ⟨(ai aY rfl),(ai aY rfl)⟩ fun ew=>?_
 have c1:=aE o a8
 refine pr (du T.dir (T.held++[(b.getD k 0)])) fun G a9 c2=>?_
 refine R0 8 rfl<|Oc<|e2 (gn c2 ((am a2 (aE t c1) (fun x hx=>ax) (fun _ _ h=>h))).rd (by simp only[List.length_append,List.length_cons,List.length_nil,List.length_replicate];omega)) fun b0 ex dF ab=>?_
 obtain⟨dG,dH,dI⟩:=dF
 have b1:=ub ab aY
 refine be ⟨(ai b1 rfl),(ai b1 rfl)⟩ fun b2=>Rt 9 b2<|Rt 10 b2<|Rt 11 b2<|?_
 have c3:=ub ab dE
 refine R0 13 rfl<|b6 c3 (o5 G.unit G.tid G.msg b0) fun dJ dK b3=>?_
 have b4:=aO b3 (nb (aj hb) (le (le (le (le (le (le (le d.size j.size) I.size) D.size) P.size) Q.size) t.size) o.size) aX) b1
 refine be ⟨(ai b4 rfl),(ai b4 rfl)⟩ fun dL=>Rt 14 dL<|re<|tn<|go<|Pl 2<|L0<|c9 dK<|Pl 1<|L0<|fk (m:=1) (e:=66) (kS ⟨a9,G⟩ b0) fun ey b5 dM dN b7=>?_
 have c4:=aE b3 b7
 have dO:=j8 (w0:=dJ) (x:=(Ev.mk a9 G)) dM dN ⟨b0,rfl,(aU.upd dG c4 (ah (aD c3 (by decide)) az)),dH,dI⟩
 have c5:=uz ab c4
 have V:=aE J (aE ar (ud a8 c5 aX))
 have c6:=am a V (fun x hx=>(aK ((bY a r (by decide)) x hx) (aa (fun e=>(aq (aj hb) lr a) (e▸hx)) ax))) (fun x cs q=>aZ.upd V (eO hlow (dr f (by decide) bv)) q)
 have dQ:n≤b5.heap.size:=Nat.le_trans hnl V.size
 refine L0<|ge (R:=aZ b5.heap.size) (xs:=L) (ys:=([Ev.mk a9 G])) (.agg #[.int .i64 0,.int .u8 0,.int .u16 0,.int .u8 0,.int .u8 0,.int .u16 0,.int .u16 0,.int .u16 0,.int .u16 0,.int .u16 0,.int .u16 0,.int .u16 0,.int .u16 0,.int .u16 0,.int .u16 0,.slice none 0 0,.slice none 0 0,.slice none 0 0,.slice none 0 0,.int .u8 0,.int .u8 0,.int .u8 0,.int .u8 0,.int .u8 0,.slice none 0 0]) 25 168 (cv.up dQ (Nat.le_refl _) c6) (f6.low dO).rd aZ.ones (fun w' hv x cs q=>aZ.upd hv (fN c6 (by decide) bv) q) (by(try simp only[List.length_append,List.length_cons,List.length_nil,aT]);omega) (le (le (le (le (le (le (le (le (le (le (le d.size j.size) I.size) D.size) P.size) Q.size) t.size) o.size) a8.size) ab.size) b3.size) b7.size) fun dR dS ez c7 c8 eA=>Pl 1<|nl<|bn<|tn<|go<|Pl 3<|?_
 have ca:=au.blk (ut (au.mono (S':=(ob Bq++[])) b7 av) c8 (ap il av)) (aK (aq (aj hb) lr a) ax) b4
 refine L0<|bO ca 1 #[.int .i64 T.dir,.slice none 0 0] fun eB dU b8=>nl<|bn<|tn<|go<|L0<|Oi (((k:Nat) : Int)+1)<|Pl 1<|nl<|?_
 have b9:=u1 (au.mono (S':=(ob Bq++(g :: []))) c8 (ap il av)) b8 im
 have cc:=rM (T:=T) (c:=(b.getD k 0)) l s E a4 c2
 have cd:=SA.byte_ok hok (ga hrb k) cc
 exact dZ ((k+1),(SA.mk T.dir []),(L++[Ev.mk a9 G]),none,0,dR,dS,b5.heap.size) ⟨(ut ao (ut (au.mono (S':=(ob Bq++(g :: []))) c1 av) (ut (au.mono (S':=(dD :: (ob Bq++(g :: [])))) c5 (ac im av)) b9 (ap il (ac im av))) (ac (ni o.size aX) (ap il (ac im av)))) (ap (bt a lr) (ac im av))),dU,(aN.nil base _ _ kQ _),(am c7 b8 (fun x hx=>(aa (fun e=>(aq (aj hb) lr c7) (e▸hx)) ax)) (fun x cs q=>aZ.upd b8 (dr ca (by decide) bv) q)),b9.size,(aM.far z (ut (au.mono (S':=(ob Ah++(g :: (ob Bq++[])))) V (ap il (ac im av))) b9 (ap il (ac im av))) (cj (dP hda hdl hat0) (cP hdg (cj (dT hdl a (Nat.le_refl _)) dh)))),(by(try dsimp only);exact fA (by omega) hpj cc),(by(try dsimp only);exact cd.1),(by(try dsimp only);have q:=SA.ok_le cd.1;exact q),(by(try dsimp only);omega),(by(try dsimp only);(try simp only[List.length_append,List.length_cons,List.length_nil]);omega),(by(try dsimp only);exact d7),(by(try dsimp only);exact Nat.le_trans hn0l (Nat.le_trans hnl V.size)),(by(try dsimp only);exact bU)⟩ (by omega)
 refine xt<|u5<|tx<|bx<|tn<|go<|L0<|Oi (((k:Nat) : Int)+1)<|Pl 1<|nl<|?_
 have ad:=aE J a3
 have cf:=tu (T:=T) (c:=(b.getD k 0)) l s E a4
 have cg:=SA.byte_ok hok (ga hrb k) cf
 exact dZ ((k+1),(SA.mk T.dir (T.held++[(b.getD k 0)])),L,Y,Z,Bq,cq,n) ⟨ao,(ub a3 O),(am a2 t (fun x hx=>ax) (fun _ _ h=>h)),(am a ad (fun x hx=>(aK ((bY a r (by decide)) x hx) (aa (fun e=>(aq (aj hb) lr a) (e▸hx)) ax))) (fun x cs q=>aZ.upd ad (eO hlow (dr f (by decide) bv)) q)),(Nat.le_trans hnl ad.size),(aM.far z ad (cj (dP hda hdl hat0) (cP hdg dh))),(by(try dsimp only);exact kx (by omega) hpj cf),(by(try dsimp only);exact cg.1),(by(try dsimp only);have q:=SA.ok_le cg.1;exact q),(by(try dsimp only);omega),(by(try dsimp only);(try simp only[List.length_append,List.length_cons,List.length_nil]);omega),(by(try dsimp only);exact(fX br hat0 (le d.size j.size))),(by(try dsimp only);exact hn0l),(by(try dsimp only);exact(mE br hlow (Nat.le_trans hnl j.size)))⟩ (by omega)
 have cH:=of_decide_eq_false ae
 refine xt<|tx<|tx<|bx<|tn<|sg<|Pl 2<|nt<|rt<|gr<|rr (.slice Bq L.length cq)<|?_
 have hs:S.feed b=(T,L):=by rw[hpj,List.take_of_length_le (by omega)]
 rw[hs]
 exact⟨_,Ah,ch,n,rfl,a,f,r,hat0,⟨hn0l,Nat.le_trans hnl lr⟩,hlow,d⟩
open Go.RowKit
def c7 (n base:Nat)(w:World)(g:Nat)(A:Option Addr)(cp:Nat)(S:SA) : Prop:=qV w g S A cp∧cN base w (.slice A S.held.length cp) S.held∧S.ok∧n≤w.heap.size∧(∀ x,x∈ob A→n≤x)∧base≤w.heap.size
section
variable {n base g cp:Nat}{w w':World}{A:Option Addr}{S:SA}{X:List Nat}
theorem c7.row(h:c7 n base w g A cp S) : cN base w (.slice A S.held.length cp) S.held:=h.2.1
theorem c7.low(h:c7 n base w g A cp S) : ∀ x,x∈ob A→n≤x:=h.2.2.2.2.1
theorem c7.nle(h:c7 n base w g A cp S) : n≤w.heap.size:=h.2.2.2.1
theorem c7.le(h:c7 n base w g A cp S) : S.held.length≤513:=SA.ok_le h.2.2.1
theorem c7.lt(h:c7 n base w g A cp S) : g<w.heap.size:=aj h.1
theorem c7.cells(h:c7 n base w g A cp S) : ∃ cs fr,w.heap[g]? = some (.cells cs 129 fr):=⟨_,_,h.1⟩
theorem c7.upd(h:c7 n base w g A cp S)(hu:au X w w')(hg:g∉X)(hr:∀ x,x∈ob A→x∉X) : c7 n base w' g A cp S :=
  ⟨hu.blk hg h.1,am h.2.1 hu hr (fun _ _ q=>q),h.2.2.1,Nat.le_trans h.2.2.2.1 hu.size,h.2.2.2.2.1,Nat.le_trans h.2.2.2.2.2 hu.size⟩
end
theorem SA.feed_ok:∀ (b:List Int)(S:SA)(L:List Ev),S.ok→(∀ x,x∈b→0≤x∧x<256)→(b.foldl (fun(p:SA × List Ev) c=>((p.1.byte c).1,p.2++(p.1.byte c).2)) (S,L)).1.ok∧(b.foldl (fun(p:SA × List Ev) c=>((p.1.byte c).1,p.2++(p.1.byte c).2)) (S,L)).2.length≤L.length+b.length
  | [],S,L,h,_=>⟨h,Nat.le_refl _⟩
  | c :: t,S,L,h,hb=>by
    have k:=SA.byte_ok (S2:=(S.byte c).1) (L2:=(S.byte c).2) h (hb c (List.mem_cons_self ..)) rfl
    have q:=SA.feed_ok t (S.byte c).1 (L++(S.byte c).2) k.1 (fun x hx=>hb x (List.mem_cons_of_mem _ hx))
    refine⟨q.1,Nat.le_trans q.2 ?_⟩
    rw[List.length_append,List.length_cons]
    omega
theorem SA.feed_le{S S2:SA}{b:List Int}{L:List Ev}(h:S.ok)(hb:∀ x,x∈b→0≤x∧x<256)(hX:S.feed b=(S2,L)) : L.length≤b.length:=by
  have q:=(SA.feed_ok b S [] h hb).2
  have e:L=(S.feed b).2:=(congrArg Prod.snd hX).symm
  rw[e]
  rw[List.length_nil,Nat.zero_add] at q
  exact q
def vK (n base:Nat)(S2:SA)(L:List Ev)(g:Nat)(A:Option Addr)(w:World)(e:Ending)(w':World) : Prop:=∃ v A2 cp2 n2,e = .returned v∧cv n2 w.heap.size w' v L∧c7 n2 base w' g A2 cp2 S2∧(∀ x,x∈ob A2→x∈ob A∨w.heap.size≤x)∧n≤n2∧au (g :: (ob A++[])) w w'
theorem lE{w:World}{n base g cp cpb nb:Nat}{S S2:SA}{L:List Ev}{A B:Option Addr}{m:Bool}{b:List Int}(hX:S.feed b=(S2,L))(h:c7 n base w g A cp S)(hsl:aM m w (.slice B nb cpb) b)(hdg:0<nb→∀ x,x∈ob B→x≠g)(hda:iV nb B (ob A))(hbl:b.length≤1048576) :
    Calls Tryz.prog 168 #[.pointer (some ⟨g,0,none⟩),.slice B nb cpb] w (vK n base S2 L g A w):=by
  obtain⟨h1,h2,h3,h4,h5,h6⟩:=h
  obtain rfl:nb=b.length:=by
    obtain⟨_,_,e,_⟩:=hsl.shape
    injection e
  refine(lG h1 h2 h6 h3 h4 h5 hsl hdg hda hbl).mono ?_
  rintro e w' ⟨v,A2,cp2,n2,he,k1,k2,k3,k4,⟨k5,k6⟩,k7,k8⟩
  have hok:=(SA.feed_ok b S [] h3 (aM.range hsl)).1
  rw[hX] at k1 k2 k3
  have e2:S2=(S.feed b).1:=(congrArg Prod.fst hX).symm
  exact⟨v,A2,cp2,n2,he,k1,⟨k2,k3,by rw[e2];exact hok,k6,k7,Nat.le_trans h6 k8.size⟩,k4,k5,k8⟩
theorem mv(d:Int){w:World}(hq:Calls Tryz.prog 47 #[.int .i64 d] w (fun e w'=>∃ g,e = .returned (.pointer (some ⟨g,0,none⟩))∧w.heap.size≤g∧qV w' g ⟨d,[]⟩ none 0∧au [] w w')) :
    Calls Tryz.prog 47 #[.int .i64 d] w (fun e w'=>∃ g,e = .returned (.pointer (some ⟨g,0,none⟩))∧w.heap.size≤g∧c7 w.heap.size w.heap.size w' g none 0 ⟨d,[]⟩∧au [] w w'):=by
  refine hq.mono ?_
  rintro e w' ⟨g,he,h1,h2,h3⟩
  exact⟨g,he,h1,⟨h2,aN.nil ..,⟨(fun x hx=>by cases hx),(show 0≤513 from by decide)⟩,h3.size,bU,h3.size⟩,h3⟩
theorem pa{w:World}{n base g cp:Nat}{S:SA}{A:Option Addr}(h:c7 n base w g A cp S) : Calls Tryz.prog 169 #[.pointer (some ⟨g,0,none⟩)] w (bg (.int .i64 ((S.held.length:Nat) : Int)) w):=o4 h.1 h.2.1.rd
open Go.RowKit
inductive XS where
  | r (S:SS)
  | a (S:SA)
  | m (S:SM)
def XS.zero (k d:Int) : XS:=bif k==0 then .r ⟨d,[],false⟩ else bif k==1 then .a ⟨d,[]⟩ else .m ⟨d,[],0⟩
def XS.feed:XS→List Int→XS × List Ev
  | .r S,b=>(.r (S.feed b).1,(S.feed b).2)
  | .a S,b=>(.a (S.feed b).1,(S.feed b).2)
  | .m S,b=>(.m (S.feed b).1,(S.feed b).2)
def XS.tick:XS→XS × List Ev
  | .r S=>(.r S.tick.1,S.tick.2)
  | .a S=>(.a S,[])
  | .m S=>(.m S,[])
def XS.take (S:XS)(b:List Int)(t:Bool) : XS × List Ev:=bif t then ((S.feed b).1.tick.1,(S.feed b).2++(S.feed b).1.tick.2) else S.feed b
def XS.held:XS→List Int
  | .r S=>S.held
  | .a S=>S.held
  | .m S=>S.held
def vu:XS→TypeId
  | .r _=>95
  | .a _=>101
  | .m _=>103
def bQ (n base:Nat)(w:World)(g:Nat)(A:Option Addr)(c:Nat) : XS→Prop
  | .r S=>bT n base w g A c S
  | .a S=>c7 n base w g A c S
  | .m S=>c5 n base w g A c S
abbrev vp (S:XS) (g:Nat) : Array Value:=#[.iface (vu S) (.pointer (some ⟨g,0,none⟩))]
def b9 (n base:Nat)(w:World)(s g:Nat)(A:Option Addr)(c:Nat)(S:XS) : Prop:=w.heap[s]? = some (.cells (vp S g) 100 (0,0))∧bQ n base w g A c S
section
variable {n base s g c:Nat}{w w':World}{A:Option Addr}{S:XS}{X:List Nat}
theorem bQ.row(h:bQ n base w g A c S) : cN base w (.slice A 0 c) []:=by
  cases S with
  | r S=>exact h.2.1
  | a S=>exact mi h.2.1
  | m S=>exact mi h.2.1
theorem bQ.low(h:bQ n base w g A c S) : ∀ x,x∈ob A→n≤x:=by
  cases S with
  | r S=>exact h.2.2.2.1
  | a S=>exact h.2.2.2.2.1
  | m S=>exact h.2.2.2.2.1
theorem bQ.nle(h:bQ n base w g A c S) : n≤w.heap.size:=by
  cases S with
  | r S=>exact h.2.2.1
  | a S=>exact h.2.2.2.1
  | m S=>exact h.2.2.2.1
theorem bQ.ble(h:bQ n base w g A c S) : base≤w.heap.size:=by
  cases S with
  | r S=>exact h.2.2.2.2
  | a S=>exact h.2.2.2.2.2
  | m S=>exact h.2.2.2.2.2
theorem bQ.cells(h:bQ n base w g A c S) : ∃ t cs fr,w.heap[g]? = some (.cells cs t fr)∧ez.contains t=false∧(t==100)=false∧(t==5)=false:=by
  cases S with
  | r S=>obtain⟨cs,fr,k⟩:=bT.cells h;exact⟨_,cs,fr,k,by decide,by decide,by decide⟩
  | a S=>exact⟨_,_,_,h.1,by decide,by decide,by decide⟩
  | m S=>exact⟨_,_,_,h.1,by decide,by decide,by decide⟩
theorem bQ.lt(h:bQ n base w g A c S) : g<w.heap.size:=by
  obtain⟨t,cs,fr,k,_⟩:=h.cells
  exact aj k
theorem bQ.upd(h:bQ n base w g A c S)(hu:au X w w')(hg:g∉X)(hr:∀ x,x∈ob A→x∉X) : bQ n base w' g A c S:=by
  cases S with
  | r S=>exact bT.upd h hu hg hr
  | a S=>exact c7.upd h hu hg hr
  | m S=>exact c5.upd h hu hg hr
theorem bQ.gA(h:bQ n base w g A c S) : g∉ob A:=by
  obtain⟨t,cs,fr,k,_,_,h2⟩:=h.cells
  exact bJ k h.row h2
theorem b9.row(h:b9 n base w s g A c S) : cN base w (.slice A 0 c) []:=h.2.row
theorem b9.low(h:b9 n base w s g A c S) : ∀ x,x∈ob A→n≤x:=h.2.low
theorem b9.nle(h:b9 n base w s g A c S) : n≤w.heap.size:=h.2.nle
theorem b9.ble(h:b9 n base w s g A c S) : base≤w.heap.size:=h.2.ble
theorem b9.lt(h:b9 n base w s g A c S) : s<w.heap.size:=aj h.1
theorem b9.cells(h:b9 n base w s g A c S) : ∃ cs fr,w.heap[s]? = some (.cells cs 100 fr):=⟨_,_,h.1⟩
theorem b9.sg(h:b9 n base w s g A c S) : s≠g:=fun e=>by
  obtain⟨t,cs,fr,k,_,h2,_⟩:=h.2.cells
  rw[← e,h.1] at k
  injection k with k
  injection k with _ k _
  rw[← k] at h2
  exact absurd h2 (by decide)
theorem b9.sA(h:b9 n base w s g A c S) : s∉ob A:=bJ h.1 h.row (by decide)
theorem b9.gA(h:b9 n base w s g A c S) : g∉ob A:=h.2.gA
theorem b9.upd(h:b9 n base w s g A c S)(hu:au X w w')(hs:s∉X)(hg:g∉X)(hr:∀ x,x∈ob A→x∉X) : b9 n base w' s g A c S:=⟨hu.blk hs h.1,h.2.upd hu hg hr⟩
theorem b9.old(h:b9 n base w s g A c S)(hu:au [] w w') : b9 n base w' s g A c S:=h.upd hu (by simp) (by simp) (fun x _=>by simp)
theorem bQ.ty(h:bQ n base w g A c S) : ∃ t cs fr,w.heap[g]? = some (.cells cs t fr)∧(t=127∨t=129∨t=131):=by
  cases S with
  | r S=>obtain⟨cs,fr,k⟩:=bT.cells h;exact⟨_,cs,fr,k,.inl rfl⟩
  | a S=>exact⟨_,_,_,h.1,.inr (.inl rfl)⟩
  | m S=>exact⟨_,_,_,h.1,.inr (.inr rfl)⟩
theorem b9.gx{α:Type}{b2 sz m c2:Nat}{e:TypeId}{R:World→α→List Value→Prop}{A2:Option Addr}{xs:List α}(h:b9 n base w s g A c S)(hO:aN b2 e sz R w (.slice A2 m c2) xs)(he:(127==e)=false∧(129==e)=false∧(131==e)=false) : g∉ob A2:=by
  obtain⟨t,cs,fr,k,rfl|rfl|rfl⟩:=h.2.ty
  · exact bJ k hO he.1
  · exact bJ k hO he.2.1
  · exact bJ k hO he.2.2
theorem b9.apt(h:b9 n base w s g A c S){k:Nat}(hk:k≤n) : oc k (g :: (ob A++[])) w:=by
  obtain⟨t,cs,fr,q,h1,_⟩:=h.2.cells
  exact dr q h1 (eO (l7 hk h.low) bv)
end
def tV (n base:Nat)(S2:XS)(L:List Ev)(s g:Nat)(A:Option Addr)(w:World)(e:Ending)(w':World) : Prop:=∃ v A2 c2 n2,e = .returned v∧cv n2 w.heap.size w' v L∧b9 n2 base w' s g A2 c2 S2∧(∀ x,x∈ob A2→x∈ob A∨w.heap.size≤x)∧n≤n2∧au (g :: (ob A++[])) w w'
def tW (n base:Nat)(S2:XS)(L:List Ev)(g:Nat)(A:Option Addr)(w:World)(e:Ending)(w':World) : Prop:=∃ v A2 c2 n2,e = .returned v∧cv n2 w.heap.size w' v L∧bQ n2 base w' g A2 c2 S2∧(∀ x,x∈ob A2→x∈ob A∨w.heap.size≤x)∧n≤n2∧au (g :: (ob A++[])) w w'
section
variable {w:World}{n base g c cpb nb:Nat}{A B:Option Addr}{m:Bool}{b:List Int}
theorem mM{S:SS}(h:bQ n base w g A c (.r S))(hsl:aM m w (.slice B nb cpb) b)(hbl:b.length≤1048576) :
    Calls Tryz.prog 157 #[.pointer (some ⟨g,0,none⟩),.slice B nb cpb] w (tW n base (.r (S.feed b).1) (S.feed b).2 g A w):=by
  obtain⟨_,_,e,hc,_⟩:=hsl.shape
  injection e with e1 e2 e3
  subst e1 e2 e3
  exact nD h h.gA hsl hbl hc
theorem ny{S:SS}(h:bQ n base w g A c (.r S)) : Calls Tryz.prog 159 #[.pointer (some ⟨g,0,none⟩)] w (tW n base (.r S.tick.1) S.tick.2 g A w):=mO h
theorem o6{S:SA}(h:bQ n base w g A c (.a S))(hsl:aM m w (.slice B nb cpb) b)(hdg:0<nb→∀ x,x∈ob B→x≠g)(hda:iV nb B (ob A))(hbl:b.length≤1048576) :
    Calls Tryz.prog 168 #[.pointer (some ⟨g,0,none⟩),.slice B nb cpb] w (tW n base (.a (S.feed b).1) (S.feed b).2 g A w):=lE rfl h hsl hdg hda hbl
theorem mU{S:SM}(h:bQ n base w g A c (.m S))(hsl:aM m w (.slice B nb cpb) b)(hdg:0<nb→∀ x,x∈ob B→x≠g)(hda:iV nb B (ob A))(hbl:b.length≤1048576) :
    Calls Tryz.prog 184 #[.pointer (some ⟨g,0,none⟩),.slice B nb cpb] w (tW n base (.m (S.feed b).1) (S.feed b).2 g A w):=lD rfl h hsl hdg hda hbl
end
open Go.RowKit
section
variable {P:Program}{n:Nat}{D:List Deferred}{F:Fr}{w:World}{K:Fr→World→Prop}{Q:Exit→Act→World→Prop}{d:Option Tmp}{t:TypeId}{s:String}{af:Array Edge}{gu:Option (Nat × Bool)}
theorem oL{a:Act}{K:Act→World→Prop}{o:Oper}{N:Option Tmp}{f:FuncId}{fn:Func}{x:Operand}{nm:String}{opds:Array Operand}{ts:Array TypeId}{T:TypeId}{v rv:Value}(args:Array Value)(hN:o.dst=N)(hop:o.op = .call { callee:=.invoke x nm,args:=opds,argTypes:=ts })
    (hx : a.eval x = .iface T v) (hm : (method (P.types.size + Made.depth) T v nm).run P w = .ok (f, rv) w) (hf : P.funcs[f]? = some fn) (hname : (fn.name == "runtime.NumGoroutine") = false) (hb : fn.body.isSome = true) (hargs : #[rv] ++ opds.map a.eval = args)
    (h:Calls P f args w fun e w'=>∃ v,e = .returned v∧K (a.put N v) w') : OW P o a w K Q:=by
  refine OW.mk ?_
  subst hN
  subst hargs
  have h1 : fn.name ≠ "runtime.NumGoroutine" := by simpa using hname
  obtain⟨cd,hcd⟩:=Option.isSome_iff_exists.1 hb
  have hcm:(callMethod (.iface T v) nm (opds.map a.eval)).run P w = .ok (.enter f (#[rv]++opds.map a.eval)) w:=by
    unfold callMethod
    simp only[program,Sem.run_bind]
    have hp:(pure P:Sem Program).run P w = .ok P w:=rfl
    simp[Sem.run,hm,callFunc,hf,h1,hcd,Result.andThen]
  have hinv:invoke (.fn (.method nm) #[]) (#[.iface T v]++opds.map a.eval)=callMethod (.iface T v) nm (opds.map a.eval):=by
    have e0:(#[Value.iface T v]++opds.map a.eval)[0]? = some (.iface T v):=by
      rw[Array.getElem?_append_left (by simp)]
      rfl
    have e1:(#[Value.iface T v]++opds.map a.eval).extract 1 (#[Value.iface T v]++opds.map a.eval).size=opds.map a.eval:=by
      apply Array.toList_inj.1
      simp only[Array.toList_extract,List.extract_eq_take_drop,Array.toList_append,Array.toList_map,Array.size_append,Array.size_map]
      simp[List.take_of_length_le]
    unfold invoke
    simp only[e0,e1]
  have hrun:(execOp a.eval o).run P w = .ok (.enter f (#[rv]++opds.map a.eval)) w:=by
    unfold execOp
    simp only[hop,resolve,hx,Sem.run_bind,Sem.run_pure,Result.andThen_ok,hinv,hcm]
  unfold Oper.wp
  rw[hrun,Oper.upon_enter]
  refine h.mono fun e w'' hh=>?_
  obtain⟨v,rfl,h2⟩:=hh
  exact h2
theorem oI{f:FuncId}{x:Operand}{nm:String}{opds:Array Operand}{ts:Array TypeId}{args:Array Value}(T:TypeId)(v rv:Value)(h:Calls P f args w fun e w'=>∃ v,e = .returned v∧K (pt d v F) w')
    (hm:(method (P.types.size+Made.depth) T v nm).run P w = .ok (f,rv) w:=by kernel_rfl) (hx:cX F x=some (.iface T v):=by kernel_rfl) (ha:some rv :: opds.toList.map (cX F)=args.toList.map some:=by kernel_rfl) (hf:t4 P f=some (false,true):=by kernel_rfl) (hs:dw n d=true:=by kernel_rfl) : OG P ⟨d,.call { callee:=.invoke x nm,args:=opds,argTypes:=ts },t,s,af,gu⟩ n D F w K Q:=by
  obtain⟨fn,h1,h2,h3⟩:=fG hf
  refine⟨fun a hag K' hK=>oL args rfl rfl (hag.ev hx) hm h1 h2 h3 ?_ (h.mono fun e w' hh=>by
    obtain⟨v,rfl,hk⟩:=hh
    exact⟨v,rfl,hK _ _ _ hk (hag.put hs)⟩)⟩
  apply Array.toList_inj.1
  obtain⟨vs,has⟩ : ∃ vs:List Value,args.toList=rv :: vs∧opds.toList.map (cX F)=vs.map some:=by
    cases hl:args.toList with
    | nil=>rw[hl] at ha;cases ha
    | cons y ys =>
      rw[hl] at ha
      injection ha with e1 e2
      exact⟨ys,by rw[Option.some.inj e1],e2⟩
  rw[has.1,Array.toList_append,Array.toList_map,gz hag has.2]
  rfl
theorem vM{x:Operand}{xt ty:TypeId}{ok:Bool}(T:TypeId)(v r:Value)(h:K (pt d r F) w)(hx:cX F x=some (.iface T v):=by kernel_rfl)(hr:(Instr.typeAssert (.iface T v) xt ty ok).run P w = .ok r w:=by kernel_rfl)(hs:dw n d=true:=by kernel_rfl) : OG P ⟨d,.typeAssert x xt ty ok,t,s,af,gu⟩ n D F w K Q:=by
  refine⟨fun a ha K' hK=>dN r rfl ?_ (hK _ _ _ h (ha.put hs))⟩
  unfold execOp
  simp only[ha.ev hx,Sem.run_bind,hr,Result.andThen_ok,Sem.run_pure]
theorem gK:∀ {l:List String},l≠[]→∃ m,Instr.least l=some m
  | [],h=>absurd rfl h
  | s :: r,_=>⟨_,rfl⟩
theorem j6{want:Array (String × TypeId)}{got:Array Method}(h:(want.toList.filter fun p=>!got.any fun m=>m.name==p.1&&m.sig==p.2).isEmpty=false) : ∃ m,Instr.missingMethod want got=some m:=by
  unfold Instr.missingMethod
  simp only[List.partition_eq_filter_filter]
  have hne:((want.toList.filter fun p=>!got.any fun m=>m.name==p.1&&m.sig==p.2).map (·.1))≠[]:=by
    intro e
    rw[List.map_eq_nil_iff] at e
    rw[e] at h
    cases h
  generalize ((want.toList.filter fun p=>!got.any fun m=>m.name==p.1&&m.sig==p.2).map (·.1))=l at hne
  by_cases hx:l.filter (not ∘ (fun s:String=>s.contains '.'))=[]
  · have hy:l.filter (fun s:String=>s.contains '.')≠[]:=by
      intro hy
      obtain⟨s,hs⟩:=List.exists_mem_of_ne_nil l hne
      cases hc:s.contains '.'
      · have:s∈l.filter (not ∘ (fun s:String=>s.contains '.')):=List.mem_filter.2 ⟨hs,by simp only[Function.comp,hc,Bool.not_false]⟩
        rw[hx] at this
        cases this
      · have:s∈l.filter (fun s:String=>s.contains '.'):=List.mem_filter.2 ⟨hs,hc⟩
        rw[hy] at this
        cases this
    rw[hx]
    obtain ⟨m, hm⟩ := gK (l := (l.filter (fun s : String => s.contains '.')).map (fun id => (id.splitOn ".").getLastD id)) (by simpa using hy)
    exact⟨m,by rw[hm];rfl⟩
  · obtain⟨m,hm⟩:=gK hx
    exact⟨m,by rw[hm];rfl⟩
def tG (P:Program)(ty T:TypeId) : Bool:=match P.underlying ty,P.info? T with
  | some (.interface want),some i=>!(want.toList.filter fun p=>!i.methods.any fun m=>m.name==p.1&&m.sig==p.2).isEmpty
  | _,_=>false
theorem vf{x:Operand}{xt ty:TypeId}(T:TypeId)(v z:Value)(h:K (pt d (.tuple #[z,.bool false]) F) w)(hm:tG P ty T=true:=by kernel_rfl)(hx:cX F x=some (.iface T v):=by kernel_rfl)(hz:(zeroValue ty).run P w = .ok z w:=by kernel_rfl)(hs:dw n d=true:=by kernel_rfl) : OG P ⟨d,.typeAssert x xt ty true,t,s,af,gu⟩ n D F w K Q:=by
  refine⟨fun a ha K' hK=>dN _ rfl ?_ (hK _ _ _ h (ha.put hs))⟩
  unfold tG at hm
  split at hm
  · rename_i want i hu hi
    obtain⟨m,hmm⟩:=j6 (by simpa using hm)
    have h1:(underlying ty).run P w = .ok (.interface want) w:=run_underlying hu w
    have h2:(typeInfo T).run P w = .ok i w:=by simp[typeInfo,hi]
    unfold execOp
    simp only[ha.ev hx,Instr.typeAssert,Sem.run_bind,h1,h2,Result.andThen_ok,hmm,hz,Sem.run_pure,if_true]
  · cases hm
end
open Go.RowKit
def sE (k:Int) : Int:=bif k==0 then 256 else bif k==1 then 513 else bif k==2 then 260 else 0
theorem k4{C:Prop}(k:Int)(h0:k=0→C)(h1:k=1→C)(h2:k=2→C)(h3:(k==0)=false→(k==1)=false→(k==2)=false→C) : C:=by
  cases e0:k==0
  · cases e1:k==1
    · cases e2:k==2
      · exact h3 e0 e1 e2
      · exact h2 (by simpa using e2)
    · exact h1 (by simpa using e1)
  · exact h0 (by simpa using e0)
theorem sD{k:Int}(h0:(k==0)=false)(h1:(k==1)=false)(h2:(k==2)=false) : sE k=0:=by unfold sE;rw[h0,h1,h2];rfl
def nT (base:Nat)(w:World)(v:Value)(xs:List Int) : Prop:=aM true w v xs∧∃ A n c,v = .slice A n c∧∀ x,x∈ob A→base≤x
theorem nT.wk{base base':Nat}{w:World}{v:Value}{xs:List Int}(h:nT base w v xs)(k:base'≤base) : nT base' w v xs:=by
  obtain⟨h1,A,n,c,h2,h3⟩:=h
  exact⟨h1,A,n,c,h2,fun x hx=>Nat.le_trans k (h3 x hx)⟩
def WR (res:Option (List Int))(base:Nat)(w:World)(v:Value)(n:Int) : Prop:=match res with
  | some l=>n=0∧nT base w v l
  | none=>n=1∧v = .slice none 0 0
theorem WR.wk{res:Option (List Int)}{base base':Nat}{w:World}{v:Value}{n:Int}(h:WR res base w v n)(k:base'≤base) : WR res base' w v n:=by
  cases res with
  | none=>exact h
  | some l=>exact⟨h.1,h.2.wk k⟩
theorem nT.of{base:Nat}{w:World}{v:Value}{xs:List Int}(h:cN base w v xs) : nT base w v xs:=by
  obtain⟨A,c,rfl,_,_⟩:=h.rd.shape
  exact⟨h.rd,A,_,c,rfl,cS h⟩
theorem qu{w:World}:Calls Tryz.prog 41 #[.int .i64 0] w (bg (.iface 122 (.agg #[])) w):=by
 refine en 18 Tryz.func41 rfl<|sg<|Pl 1<|nt<|sq<|sg<|Pl 1<|nt<|bk<|sq<|?_
 refine go<|Pl 2<|nt<|c1<|sg<|Pl 3<|nt<|rt<|br<|tr<|rr (.iface 122 (.agg #[]))<|?_
 exact⟨rfl,(au.refl [] _)⟩
theorem qD{w:World}:Calls Tryz.prog 41 #[.int .i64 1] w (bg (.iface 123 (.agg #[])) w):=by
 refine en 18 Tryz.func41 rfl<|sg<|Pl 1<|nt<|sq<|sg<|Pl 1<|nt<|bk<|sq<|?_
 refine go<|Pl 2<|nt<|c0<|sg<|Pl 2<|nt<|c1<|sg<|Pl 3<|nl<|?_
 refine tn<|rt<|br<|tr<|rr (.iface 123 (.agg #[]))<|?_
 exact⟨rfl,(au.refl [] _)⟩
theorem rh{w:World}:Calls Tryz.prog 41 #[.int .i64 2] w (bg (.iface 124 (.agg #[])) w):=by
 refine en 18 Tryz.func41 rfl<|sg<|Pl 1<|nt<|sq<|sg<|Pl 1<|nt<|bk<|sq<|?_
 refine go<|Pl 2<|nt<|c0<|sg<|Pl 2<|nt<|c0<|sg<|Pl 2<|nl<|?_
 refine tn<|c1<|sg<|Pl 3<|nt<|rt<|br<|tr<|rr (.iface 124 (.agg #[]))<|?_
 exact⟨rfl,(au.refl [] _)⟩
theorem qZ{w:World}{k:Int}(h0:(k==0)=false)(h1:(k==1)=false)(h2:(k==2)=false) : Calls Tryz.prog 41 #[.int .i64 k] w (bg (.iface 125 (.agg #[])) w):=by
 refine en 18 Tryz.func41 rfl<|sg<|Pl 1<|nt<|sq<|sg<|Pl 1<|nt<|bk<|sq<|?_
 refine go<|Pl 2<|nt<|cf h0<|sg<|Pl 2<|nt<|cf h1<|sg<|Pl 2<|nl<|?_
 refine tn<|cf h2<|sk<|bn<|tn<|sg<|Pl 3<|nt<|rt<|rr (.iface 125 (.agg #[]))<|?_
 exact⟨rfl,(au.refl [] _)⟩
theorem qi{w:World}:Calls Tryz.prog 193 #[.agg #[]] w (bg (.int .i64 256) w):=by
 refine en 3 Tryz.func193 rfl<|sg<|L0<|cW #[] fun b c d e a=>Pl 1<|ng<|Pl 1<|nt<|rt<|rr (.int .i64 256)<|?_
 exact⟨rfl,a⟩
theorem nf{w:World}:Calls Tryz.prog 20 #[.int .i64 0] w (bg (.int .i64 256) w):=by
 refine en 6 Tryz.func20 rfl<|sg<|Pl 1<|ng<|Pl 1<|L0<|Oc<|m1 (qu) fun c a=>L0<|oI (f:=193) (args:=#[.agg #[]]) 122 (.agg #[]) (.agg #[])<|m1 (@qi _) fun d b=>Pl 1<|nt<|?_
 refine rt<|rr (.int .i64 256)<|?_
 exact⟨rfl,(aE a b)⟩
theorem r7{w:World}:Calls Tryz.prog 197 #[.agg #[]] w (bg (.int .i64 513) w):=by
 refine en 3 Tryz.func197 rfl<|sg<|L0<|cW #[] fun b c d e a=>Pl 1<|ng<|Pl 1<|nt<|rt<|rr (.int .i64 513)<|?_
 exact⟨rfl,a⟩
theorem nR{w:World}:Calls Tryz.prog 20 #[.int .i64 1] w (bg (.int .i64 513) w):=by
 refine en 6 Tryz.func20 rfl<|sg<|Pl 1<|ng<|Pl 1<|L0<|Oc<|m1 (qD) fun c a=>L0<|oI (f:=197) (args:=#[.agg #[]]) 123 (.agg #[]) (.agg #[])<|m1 (@r7 _) fun d b=>Pl 1<|nt<|?_
 refine rt<|rr (.int .i64 513)<|?_
 exact⟨rfl,(aE a b)⟩
theorem qx{w:World}:Calls Tryz.prog 206 #[.agg #[]] w (bg (.int .i64 260) w):=by
 refine en 3 Tryz.func206 rfl<|sg<|L0<|cW #[] fun b c d e a=>Pl 1<|ng<|Pl 1<|nt<|rt<|rr (.int .i64 260)<|?_
 exact⟨rfl,a⟩
theorem nY{w:World}:Calls Tryz.prog 20 #[.int .i64 2] w (bg (.int .i64 260) w):=by
 refine en 6 Tryz.func20 rfl<|sg<|Pl 1<|ng<|Pl 1<|L0<|Oc<|m1 (rh) fun c a=>L0<|oI (f:=206) (args:=#[.agg #[]]) 124 (.agg #[]) (.agg #[])<|m1 (@qx _) fun d b=>Pl 1<|nt<|?_
 refine rt<|rr (.int .i64 260)<|?_
 exact⟨rfl,(aE a b)⟩
theorem qk{w:World}:Calls Tryz.prog 210 #[.agg #[]] w (bg (.int .i64 0) w):=by
 refine en 3 Tryz.func210 rfl<|sg<|L0<|cW #[] fun b c d e a=>Pl 1<|ng<|Pl 1<|nt<|rt<|rr (.int .i64 0)<|?_
 exact⟨rfl,a⟩
theorem o0{w:World}{k:Int}(h0:(k==0)=false)(h1:(k==1)=false)(h2:(k==2)=false) : Calls Tryz.prog 20 #[.int .i64 k] w (bg (.int .i64 0) w):=by
 refine en 6 Tryz.func20 rfl<|sg<|Pl 1<|ng<|Pl 1<|L0<|Oc<|m1 (qZ h0 h1 h2) fun c a=>L0<|oI (f:=210) (args:=#[.agg #[]]) 125 (.agg #[]) (.agg #[])<|m1 (@qk _) fun d b=>Pl 1<|nt<|?_
 refine rt<|rr (.int .i64 0)<|?_
 exact⟨rfl,(aE a b)⟩
theorem gO{w:World}{k:Int}:Calls Tryz.prog 20 #[.int .i64 k] w (bg (.int .i64 (sE k)) w):=by
  refine k4 k (fun h=>?_) (fun h=>?_) (fun h=>?_) (fun h0 h1 h2=>?_)
  · subst h;exact nf
  · subst h;exact nR
  · subst h;exact nY
  · rw[sD h0 h1 h2];exact o0 h0 h1 h2
open Go.RowKit
theorem bQ.apt{n base g c:Nat}{w:World}{A:Option Addr}{S:XS}(h:bQ n base w g A c S){k:Nat}(hk:k≤n) : oc k (g :: (ob A++[])) w:=by
  obtain⟨t,cs,fr,q,h1,_⟩:=h.cells
  exact dr q h1 (eO (l7 hk h.low) bv)
theorem sn{d:Int}(hd:d=0∨d=1) : ((d != 0)&&(d != 1))=false:=by rcases hd with rfl | rfl<;>rfl
theorem bT.old0{n base g c:Nat}{w w':World}{A:Option Addr}{S:SS}(h:bT n base w g A c S)(hu:au [] w w') : bT n base w' g A c S:=h.upd hu (by simp) (fun x _=>by simp)
theorem bT.weak{n n' g:Nat}{w:World}{S:SS}{c:Nat}(h:bT n n w g none c S)(hn:n'≤n) : bT n' n' w g none c S:=by
  obtain⟨h1,h2,h3,h4,h5⟩:=h
  exact⟨h1,aN.weaken h2 hn,Nat.le_trans hn h3,bU,Nat.le_trans hn h5⟩
theorem o2{w:World}{d:Int}(hd:d=0∨d=1) : Calls Tryz.prog 29 #[.int .i64 0,.int .i64 d] w (fun e w'=>∃ s g,e = .returned (.pointer (some ⟨s,0,none⟩))∧w.heap.size≤s∧w.heap.size≤g∧b9 w.heap.size w.heap.size w' s g none 0 (XS.zero 0 d)∧au [] w w'):=by
 refine en 36 Tryz.func29 rfl<|sg<|Pl 1<|nt<|sq<|sg<|Pl 1<|L0<|Oc<|m1 (gO (k:=0)) fun q b=>Pl 5<|cu 3 [11] 14 (((d != 0)&&(d != 1))) (fun K c=>?_) ?_
 refine bl 11 ((d != 0)) (fun a=>?_) (fun a=>?_)
 have l:=ay a
 exact Pl 3<|ce c (d != 1) (by rw[a];rfl)
 have l:=ag a
 exact Pl 3<|ce c false (by rw[a];rfl)
 refine Pl 1<|nt<|cf (sn hd)<|bB<|sq<|sg<|Pl 1<|nt<|bk<|sq<|?_
 refine go<|Pl 2<|nt<|c1<|sg<|Pl 1<|L0<|Oc<|e3 (qH hd) fun f t m n h=>Pl 2<|L0<|cW #[.iface 95 (.pointer (some ⟨f,0,none⟩))] fun i u o p j=>Pl 1<|nt<|?_
 refine rt<|br<|tr<|rr (.pointer (some ⟨i,0,none⟩))<|?_
 exact⟨i,f,rfl,(Nat.le_trans (le b.size h.size) o),(Nat.le_trans b.size m),⟨p,(show bQ _ _ _ _ _ _ (XS.r _) from((bT.old0 n j)).weak b.size)⟩,(aE b (aE h j))⟩
theorem oZ{w:World}{d:Int}(hd:d=0∨d=1) : Calls Tryz.prog 47 #[.int .i64 d] w (fun e w'=>∃ g,e = .returned (.pointer (some ⟨g,0,none⟩))∧w.heap.size≤g∧c7 w.heap.size w.heap.size w' g none 0 ⟨d,[]⟩∧au [] w w'):=by
  rcases hd with rfl|rfl
  · exact mv 0 nM
  · exact mv 1 nd
theorem c7.old0{n base g c:Nat}{w w':World}{A:Option Addr}{S:SA}(h:c7 n base w g A c S)(hu:au [] w w') : c7 n base w' g A c S:=h.upd hu (by simp) (fun x _=>by simp)
theorem c7.weak{n n' g:Nat}{w:World}{S:SA}{c:Nat}(h:c7 n n w g none c S)(hn:n'≤n) : c7 n' n' w g none c S:=by
  obtain⟨h1,h2,h6,h3,h4,h5⟩:=h
  exact⟨h1,aN.weaken h2 hn,h6,Nat.le_trans hn h3,bU,Nat.le_trans hn h5⟩
theorem mY{w:World}{d:Int}(hd:d=0∨d=1) : Calls Tryz.prog 29 #[.int .i64 1,.int .i64 d] w (fun e w'=>∃ s g,e = .returned (.pointer (some ⟨s,0,none⟩))∧w.heap.size≤s∧w.heap.size≤g∧b9 w.heap.size w.heap.size w' s g none 0 (XS.zero 1 d)∧au [] w w'):=by
 refine en 36 Tryz.func29 rfl<|sg<|Pl 1<|nt<|sq<|sg<|Pl 1<|L0<|Oc<|m1 (gO (k:=1)) fun r c=>Pl 5<|cu 3 [11] 14 (((d != 0)&&(d != 1))) (fun K f=>?_) ?_
 refine bl 11 ((d != 0)) (fun b=>?_) (fun b=>?_)
 have m:=ay b
 exact Pl 3<|ce f (d != 1) (by rw[b];rfl)
 have m:=ag b
 exact Pl 3<|ce f false (by rw[b];rfl)
 refine Pl 1<|nt<|cf (sn hd)<|bB<|sq<|sg<|Pl 1<|nt<|bk<|sq<|?_
 refine go<|Pl 2<|nt<|c0<|sg<|Pl 2<|nt<|c1<|sg<|Pl 1<|L0<|Oc<|e3 (oZ hd) fun h t n o i=>?_
 refine Pl 2<|L0<|cW #[.iface 101 (.pointer (some ⟨h,0,none⟩))] fun j u p q l=>Pl 1<|nt<|rt<|br<|tr<|rr (.pointer (some ⟨j,0,none⟩))<|?_
 exact⟨j,h,rfl,(Nat.le_trans (le c.size i.size) p),(Nat.le_trans c.size n),⟨q,(show bQ _ _ _ _ _ _ (XS.a _) from((c7.old0 o l)).weak c.size)⟩,(aE c (aE i l))⟩
theorem pU{w:World}{d:Int}(hd:d=0∨d=1) : Calls Tryz.prog 48 #[.int .i64 d] w (fun e w'=>∃ g,e = .returned (.pointer (some ⟨g,0,none⟩))∧w.heap.size≤g∧c5 w.heap.size w.heap.size w' g none 0 ⟨d,[],0⟩∧au [] w w'):=by
  rcases hd with rfl|rfl
  · exact mB 0 lq
  · exact mB 1 l8
theorem c5.old0{n base g c:Nat}{w w':World}{A:Option Addr}{S:SM}(h:c5 n base w g A c S)(hu:au [] w w') : c5 n base w' g A c S:=h.upd hu (by simp) (fun x _=>by simp)
theorem c5.weak{n n' g:Nat}{w:World}{S:SM}{c:Nat}(h:c5 n n w g none c S)(hn:n'≤n) : c5 n' n' w g none c S:=by
  obtain⟨h1,h2,h6,h3,h4,h5⟩:=h
  exact⟨h1,aN.weaken h2 hn,h6,Nat.le_trans hn h3,bU,Nat.le_trans hn h5⟩
theorem nU{w:World}{d:Int}(hd:d=0∨d=1) : Calls Tryz.prog 29 #[.int .i64 2,.int .i64 d] w (fun e w'=>∃ s g,e = .returned (.pointer (some ⟨s,0,none⟩))∧w.heap.size≤s∧w.heap.size≤g∧b9 w.heap.size w.heap.size w' s g none 0 (XS.zero 2 d)∧au [] w w'):=by
 refine en 36 Tryz.func29 rfl<|sg<|Pl 1<|nt<|sq<|sg<|Pl 1<|L0<|Oc<|m1 (gO (k:=2)) fun r b=>Pl 5<|cu 3 [11] 14 (((d != 0)&&(d != 1))) (fun K c=>?_) ?_
 refine bl 11 ((d != 0)) (fun a=>?_) (fun a=>?_)
 have l:=ay a
 exact Pl 3<|ce c (d != 1) (by rw[a];rfl)
 have l:=ag a
 exact Pl 3<|ce c false (by rw[a];rfl)
 refine Pl 1<|nt<|cf (sn hd)<|bB<|sq<|sg<|Pl 1<|nt<|bk<|sq<|?_
 refine go<|Pl 2<|nt<|c0<|sg<|Pl 2<|nt<|c0<|sk<|bn<|tn<|?_
 refine sg<|Pl 1<|L0<|Oc<|e3 (pU hd) fun f t n o h=>Pl 2<|L0<|cW #[.iface 103 (.pointer (some ⟨f,0,none⟩))] fun i u p q j=>Pl 1<|nt<|rt<|rr (.pointer (some ⟨i,0,none⟩))<|?_
 exact⟨i,f,rfl,(Nat.le_trans (le b.size h.size) p),(Nat.le_trans b.size n),⟨q,(show bQ _ _ _ _ _ _ (XS.m _) from((c5.old0 o j)).weak b.size)⟩,(aE b (aE h j))⟩
theorem qm{w:World}{k:Int}(hk:k=0∨k=1∨k=2){d:Int}(hd:d=0∨d=1) : Calls Tryz.prog 29 #[.int .i64 k,.int .i64 d] w (fun e w'=>∃ s g,e = .returned (.pointer (some ⟨s,0,none⟩))∧w.heap.size≤s∧w.heap.size≤g∧b9 w.heap.size w.heap.size w' s g none 0 (XS.zero k d)∧au [] w w'):=by
  rcases hk with rfl|rfl|rfl
  · exact o2 hd
  · exact mY hd
  · exact nU hd
theorem lQ{w:World}{n base s g c:Nat}{A B:Option Addr}{cpb:Nat}{S:SS}{m t:Bool}{b:List Int}(h:b9 n base w s g A c (.r S))(hsl:aM m w (.slice B b.length cpb) b)(hdg:0<b.length→∀ x,x∈ob B→x≠g)(hda:iV b.length B (ob A))(hbl:b.length≤1048576) :
    Calls Tryz.prog 31 #[.pointer (some ⟨s,0,none⟩),.agg #[.slice B b.length cpb,.bool t]] w (tV n base (XS.take (.r S) b t).1 (XS.take (.r S) b t).2 s g A w):=by
 have hzb:=aH.len hsl
 have hz1:(S.feed b).2.length≤1:=SS.feed_le (S:=S) (b:=b) rfl
 have hz2:(S.feed b).1.tick.2.length≤1:=SS.tick_le (S:=(S.feed b).1) rfl
 refine en 33 Tryz.func31 rfl<|sg<|L0<|cW #[.slice B b.length cpb,.bool t] fun O a3 C P Q=>Pl 1<|nt<|sq<|Rg 8 (fun w'=>w'.cell? ⟨s,0,none⟩=some (.iface 95 (.pointer (some ⟨g,0,none⟩)))∧w'.cell? ⟨O,0,none⟩=some (.slice B b.length cpb)) fun a4 D=>?_
 have a:=aE Q D
 have p:=ub a h.1
 have E:=ub D P
 refine be ⟨(ai p rfl),(ai E rfl)⟩ fun i=>Rt 0 i<|Rt 1 i<|Rt 2 i<|Rl 3 i (fun _ hs=>hs.1)<|Rt 4 i<|Rl 5 i (fun _ hs=>hs.2)<|?_
 refine R0 6 rfl<|oI (f:=157) (args:=#[.pointer (some ⟨g,0,none⟩),.slice B b.length cpb]) 95 (.pointer (some ⟨g,0,none⟩)) (.pointer (some ⟨g,0,none⟩))<|?_
 refine(mM (bQ.upd h.2 a ax (fun x hx=>ax)) (aM.old hsl a) hbl).mono ?_
 rintro _ a5 ⟨a6,F,a7,a8,rfl,T,j,u,G,k⟩
 refine⟨_,rfl,?_⟩
 have d:=T
 obtain⟨H,U,rfl,a9,ab⟩:=aH.shape d.rd
 have l:=au.blk k (aa h.sg (aK (bJ p (am (bQ.row h.2) a (fun x hx=>ax) (fun _ _ h=>h)) (by decide)) ax)) p
 have I:=au.blk k (aa (Ne.symm (nb (bQ.lt h.2) lr C)) (aK (gh (bQ.row h.2) lr C) ax)) E
 refine be ⟨(ai l rfl),(ai I rfl)⟩ fun V=>Rt 7 V<|re<|tn<|sq<|sg<|Pl 3<|L0<|aR l 0<|L0<|vM 95 (.pointer (some ⟨g,0,none⟩)) (.tuple #[.iface 95 (.pointer (some ⟨g,0,none⟩)),.bool true])<|Pl 5<|nt<|sq<|?_
 refine go<|Pl 3<|L1<|aR I 1<|Pl 1<|nt<|?_
 have J:=ut (au.mono (S':=(g :: (ob A++[]))) a av) k (ac im (ap il av))
 refine cb (t) (fun v=>?_) (fun v=>?_)
 refine go<|Pl 2<|L0<|oI (f:=159) (args:=#[.pointer (some ⟨g,0,none⟩)]) 95 (.pointer (some ⟨g,0,none⟩)) (.pointer (some ⟨g,0,none⟩))<|?_
 refine(ny j).mono ?_
 rintro _ ad ⟨ae,W,af,X,rfl,Y,y,Z,K,o⟩
 refine⟨_,rfl,?_⟩
 have L:=Y
 obtain⟨ag,ah,rfl,ak,al⟩:=aH.shape L.rd
 have z:=am d o (fun x hx=>(aa (fun e=>(aq (bQ.lt h.2) a.size d) (e▸hx)) (aK ((bY d (bQ.row j) (by decide)) x hx) ax))) (fun x cs q=>aZ.upd o (bQ.apt j (Nat.le_refl _)) q)
 refine L0<|ge (R:=aZ X) (xs:=((S.feed b).2)) (ys:=((S.feed b).1.tick.2)) (.agg #[.int .i64 0,.int .u8 0,.int .u16 0,.int .u8 0,.int .u8 0,.int .u16 0,.int .u16 0,.int .u16 0,.int .u16 0,.int .u16 0,.int .u16 0,.int .u16 0,.int .u16 0,.int .u16 0,.int .u16 0,.slice none 0 0,.slice none 0 0,.slice none 0 0,.slice none 0 0,.int .u8 0,.int .u8 0,.int .u8 0,.int .u8 0,.int .u8 0,.slice none 0 0]) 25 168 (cv.up K (y.nle) z) (L).rd aZ.ones (fun w' hv x cs q=>aZ.upd hv (fN z (by decide) bv) q) (by omega) (le k.size o.size) fun a0 a1 an a2 M ao=>Pl 1<|ng<|Pl 2<|nt<|rt<|rr (.slice a0 (((S.feed b).2++(S.feed b).1.tick.2).length) a1)<|?_
 have hs:XS.take (.r S) b t=(.r (S.feed b).1.tick.1,(S.feed b).2++(S.feed b).1.tick.2):=by unfold XS.take;rw[v];rfl
 rw[hs]
 have hat0:∀ x,x∈ob W→x∈ob A∨w.heap.size≤x:=fun x hx=>((fun x hx=>fX Z u k.size x hx) x hx).imp id (Nat.le_trans a.size)
 have N:=ut (au.mono (S':=(g :: (ob F++(ob H++[])))) o (ac im (ap il av))) M (ap il av)
 exact⟨_,_,_,_,rfl,aN.weaken a2 a.size,⟨(au.blk N (aa h.sg (aK (bJ l (bQ.row j) (by decide)) (aK (aq (aj h.1) a.size d) ax))) l),(bQ.upd y M (aK (aq (bQ.lt h.2) a.size d) ax) (fun x hx=>(aK ((bY (bQ.row y) z (by decide)) x hx) ax)))⟩,hat0,Nat.le_trans G K,(au.mono (S':=g :: (ob A++[])) (ut J N (ac im (ap (gD u il a.size) (ap (bt d a.size) av)))) (ac im (ap il av)))⟩
 refine bB<|sg<|Pl 2<|nt<|rt<|rr (.slice H (((S.feed b).2).length) U)<|?_
 have hs:XS.take (.r S) b t=(.r (S.feed b).1,(S.feed b).2):=by unfold XS.take;rw[v];rfl
 rw[hs]
 have hat0:∀ x,x∈ob F→x∈ob A∨w.heap.size≤x:=fun x hx=>((fun x hx=>u x hx) x hx).imp id (Nat.le_trans a.size)
 exact⟨_,_,_,_,rfl,aN.weaken d a.size,⟨l,j⟩,hat0,G,(au.mono (S':=g :: (ob A++[])) J (ac im (ap il av)))⟩
theorem lK{w:World}{n base s g c:Nat}{A B:Option Addr}{cpb:Nat}{S:SA}{m t:Bool}{b:List Int}(h:b9 n base w s g A c (.a S))(hsl:aM m w (.slice B b.length cpb) b)(hdg:0<b.length→∀ x,x∈ob B→x≠g)(hda:iV b.length B (ob A))(hbl:b.length≤1048576) :
    Calls Tryz.prog 31 #[.pointer (some ⟨s,0,none⟩),.agg #[.slice B b.length cpb,.bool t]] w (tV n base (XS.take (.a S) b t).1 (XS.take (.a S) b t).2 s g A w):=by
 have hzb:=aH.len hsl
 refine en 33 Tryz.func31 rfl<|sg<|L0<|cW #[.slice B b.length cpb,.bool t] fun r I l u v=>Pl 1<|nt<|sq<|Rg 8 (fun w'=>w'.cell? ⟨s,0,none⟩=some (.iface 101 (.pointer (some ⟨g,0,none⟩)))∧w'.cell? ⟨r,0,none⟩=some (.slice B b.length cpb)) fun J o=>?_
 have d:=aE v o
 have i:=ub d h.1
 have p:=ub o u
 refine be ⟨(ai i rfl),(ai p rfl)⟩ fun e=>Rt 0 e<|Rt 1 e<|Rt 2 e<|Rl 3 e (fun _ hs=>hs.1)<|Rt 4 e<|Rl 5 e (fun _ hs=>hs.2)<|?_
 refine R0 6 rfl<|oI (f:=168) (args:=#[.pointer (some ⟨g,0,none⟩),.slice B b.length cpb]) 101 (.pointer (some ⟨g,0,none⟩)) (.pointer (some ⟨g,0,none⟩))<|?_
 refine(o6 (bQ.upd h.2 d ax (fun x hx=>ax)) (aM.old hsl d) hdg hda hbl).mono ?_
 rintro _ K ⟨L,y,M,N,rfl,z,C,D,E,j⟩
 refine⟨_,rfl,?_⟩
 have q:=z
 obtain⟨F,G,rfl,O,P⟩:=aH.shape q.rd
 have k:=au.blk j (aa h.sg (aK (bJ i (am (bQ.row h.2) d (fun x hx=>ax) (fun _ _ h=>h)) (by decide)) ax)) i
 refine be ⟨(ai k rfl),(ai (au.blk j (aa (Ne.symm (nb (bQ.lt h.2) lr l)) (aK (gh (bQ.row h.2) lr l) ax)) p) rfl)⟩ fun H=>Rt 7 H<|re<|tn<|sq<|sg<|Pl 3<|L0<|aR k 0<|L0<|vf 101 (.pointer (some ⟨g,0,none⟩)) .nilIface<|Pl 5<|nt<|sq<|?_
 refine go<|Pl 5<|nt<|c0<|bB<|sg<|Pl 2<|nt<|rt<|rr (.slice F (((S.feed b).2).length) G)<|?_
 have hs:XS.take (.a S) b t=(.a (S.feed b).1,(S.feed b).2):=by unfold XS.take;cases t;rfl;show(_,(S.feed b).2++[])=_;rw[List.append_nil];rfl
 rw[hs]
 have hat0:∀ x,x∈ob y→x∈ob A∨w.heap.size≤x:=fun x hx=>((fun x hx=>D x hx) x hx).imp id (Nat.le_trans d.size)
 exact⟨_,_,_,_,rfl,aN.weaken q d.size,⟨k,C⟩,hat0,E,(au.mono (S':=g :: (ob A++[])) (ut (au.mono (S':=(g :: (ob A++[]))) d av) j (ac im (ap il av))) (ac im (ap il av)))⟩
theorem lm{w:World}{n base s g c:Nat}{A B:Option Addr}{cpb:Nat}{S:SM}{m t:Bool}{b:List Int}(h:b9 n base w s g A c (.m S))(hsl:aM m w (.slice B b.length cpb) b)(hdg:0<b.length→∀ x,x∈ob B→x≠g)(hda:iV b.length B (ob A))(hbl:b.length≤1048576) :
    Calls Tryz.prog 31 #[.pointer (some ⟨s,0,none⟩),.agg #[.slice B b.length cpb,.bool t]] w (tV n base (XS.take (.m S) b t).1 (XS.take (.m S) b t).2 s g A w):=by
 have hzb:=aH.len hsl
 refine en 33 Tryz.func31 rfl<|sg<|L0<|cW #[.slice B b.length cpb,.bool t] fun q H k r u=>Pl 1<|nt<|sq<|Rg 8 (fun w'=>w'.cell? ⟨s,0,none⟩=some (.iface 103 (.pointer (some ⟨g,0,none⟩)))∧w'.cell? ⟨q,0,none⟩=some (.slice B b.length cpb)) fun I l=>?_
 have a:=aE u l
 have e:=ub a h.1
 have o:=ub l r
 refine be ⟨(ai e rfl),(ai o rfl)⟩ fun d=>Rt 0 d<|Rt 1 d<|Rt 2 d<|Rl 3 d (fun _ hs=>hs.1)<|Rt 4 d<|Rl 5 d (fun _ hs=>hs.2)<|?_
 refine R0 6 rfl<|oI (f:=184) (args:=#[.pointer (some ⟨g,0,none⟩),.slice B b.length cpb]) 103 (.pointer (some ⟨g,0,none⟩)) (.pointer (some ⟨g,0,none⟩))<|?_
 refine(mU (bQ.upd h.2 a ax (fun x hx=>ax)) (aM.old hsl a) hdg hda hbl).mono ?_
 rintro _ J ⟨K,v,L,M,rfl,y,z,C,D,i⟩
 refine⟨_,rfl,?_⟩
 have p:=y
 obtain⟨E,F,rfl,N,O⟩:=aH.shape p.rd
 have j:=au.blk i (aa h.sg (aK (bJ e (am (bQ.row h.2) a (fun x hx=>ax) (fun _ _ h=>h)) (by decide)) ax)) e
 refine be ⟨(ai j rfl),(ai (au.blk i (aa (Ne.symm (nb (bQ.lt h.2) lr k)) (aK (gh (bQ.row h.2) lr k) ax)) o) rfl)⟩ fun G=>Rt 7 G<|re<|tn<|sq<|sg<|Pl 3<|L0<|aR j 0<|L0<|vf 103 (.pointer (some ⟨g,0,none⟩)) .nilIface<|Pl 5<|nt<|sq<|?_
 refine go<|Pl 5<|nt<|c0<|bB<|sg<|Pl 2<|nt<|rt<|rr (.slice E (((S.feed b).2).length) F)<|?_
 have hs:XS.take (.m S) b t=(.m (S.feed b).1,(S.feed b).2):=by unfold XS.take;cases t;rfl;show(_,(S.feed b).2++[])=_;rw[List.append_nil];rfl
 rw[hs]
 have hat0:∀ x,x∈ob v→x∈ob A∨w.heap.size≤x:=fun x hx=>((fun x hx=>C x hx) x hx).imp id (Nat.le_trans a.size)
 exact⟨_,_,_,_,rfl,aN.weaken p a.size,⟨j,z⟩,hat0,D,(au.mono (S':=g :: (ob A++[])) (ut (au.mono (S':=(g :: (ob A++[]))) a av) i (ac im (ap il av))) (ac im (ap il av)))⟩
theorem pB{w:World}{n base s g c nb:Nat}{A B:Option Addr}{cpb:Nat}{S S2:XS}{L:List Ev}{m t:Bool}{b:List Int}(hX:S.take b t=(S2,L))(h:b9 n base w s g A c S)(hsl:aM m w (.slice B nb cpb) b)(hdg:0<nb→∀ x,x∈ob B→x≠g)(hda:iV nb B (ob A))(hbl:b.length≤1048576) :
    Calls Tryz.prog 31 #[.pointer (some ⟨s,0,none⟩),.agg #[.slice B nb cpb,.bool t]] w (tV n base S2 L s g A w):=by
  obtain⟨_,_,e,_,_⟩:=hsl.shape
  injection e with e1 e2 e3
  subst e1 e2 e3
  have e1:S2=(S.take b t).1:=(congrArg Prod.fst hX).symm
  have e2:L=(S.take b t).2:=(congrArg Prod.snd hX).symm
  rw[e1,e2]
  cases S with
  | r S=>exact lQ h hsl hdg hda hbl
  | a S=>exact lK h hsl hdg hda hbl
  | m S=>exact lm h hsl hdg hda hbl
theorem lf{w:World}{n base s g c:Nat}{A:Option Addr}{S:SS}(h:b9 n base w s g A c (.r S)) : Calls Tryz.prog 30 #[.pointer (some ⟨s,0,none⟩)] w (bg (.int .i64 ((S.held.length:Nat) : Int)) w):=by
 refine en 8 Tryz.func30 rfl<|sg<|Pl 1<|ng<|Pl 3<|L0<|aR h.1 0<|L0<|oI (f:=158) (args:=#[.pointer (some ⟨g,0,none⟩)]) 95 (.pointer (some ⟨g,0,none⟩)) (.pointer (some ⟨g,0,none⟩))<|m1 (oJ h.2) fun b a=>Pl 1<|nt<|?_
 refine rt<|rr (.int .i64 ((S.held.length:Nat) : Int))<|?_
 exact⟨rfl,a⟩
theorem lh{w:World}{n base s g c:Nat}{A:Option Addr}{S:SA}(h:b9 n base w s g A c (.a S)) : Calls Tryz.prog 30 #[.pointer (some ⟨s,0,none⟩)] w (bg (.int .i64 ((S.held.length:Nat) : Int)) w):=by
 refine en 8 Tryz.func30 rfl<|sg<|Pl 1<|ng<|Pl 3<|L0<|aR h.1 0<|L0<|oI (f:=169) (args:=#[.pointer (some ⟨g,0,none⟩)]) 101 (.pointer (some ⟨g,0,none⟩)) (.pointer (some ⟨g,0,none⟩))<|m1 (pa h.2) fun d b=>Pl 1<|nt<|?_
 refine rt<|rr (.int .i64 ((S.held.length:Nat) : Int))<|?_
 exact⟨rfl,b⟩
theorem lZ{w:World}{n base s g c:Nat}{A:Option Addr}{S:SM}(h:b9 n base w s g A c (.m S)) : Calls Tryz.prog 30 #[.pointer (some ⟨s,0,none⟩)] w (bg (.int .i64 ((S.held.length:Nat) : Int)) w):=by
 refine en 8 Tryz.func30 rfl<|sg<|Pl 1<|ng<|Pl 3<|L0<|aR h.1 0<|L0<|oI (f:=185) (args:=#[.pointer (some ⟨g,0,none⟩)]) 103 (.pointer (some ⟨g,0,none⟩)) (.pointer (some ⟨g,0,none⟩))<|m1 (oX h.2) fun b a=>Pl 1<|nt<|?_
 refine rt<|rr (.int .i64 ((S.held.length:Nat) : Int))<|?_
 exact⟨rfl,a⟩
theorem pq{w:World}{n base s g c:Nat}{A:Option Addr}{S:XS}(h:b9 n base w s g A c S) : Calls Tryz.prog 30 #[.pointer (some ⟨s,0,none⟩)] w (bg (.int .i64 ((S.held.length:Nat) : Int)) w):=by
  cases S with
  | r S=>exact lf h
  | a S=>exact lh h
  | m S=>exact lZ h
open Go.RowKit
def eU:List (List Int)→Nat
  | []=>0
  | x :: t=>x.length+eU t
def ey (ls:List (List Int)) : Bool:=decide (ls.length≤60)&&decide (eU ls≤3000)
theorem gL(a b:List (List Int)) : eU (a++b)=eU a+eU b:=by
  induction a with
  | nil=>simp[eU]
  | cons x t ih=>simp only[List.cons_append,eU,ih];omega
theorem na{ls:List (List Int)}{k:Nat}(hk:k<ls.length) : ls.take (k+1)=ls.take k++[ls.getD k []]:=by
  rw[List.take_succ_eq_append_getElem hk,List.getD_eq_getElem?_getD,List.getElem?_eq_getElem hk]
  rfl
theorem iy{ls:List (List Int)}{k:Nat}(hk:k<ls.length) : eU (ls.take (k+1))=eU (ls.take k)+(ls.getD k []).length:=by
  rw[na hk,gL]
  rfl
theorem mf{ls:List (List Int)}(hb:∀ x,x∈ls→x.length≤140737488355328) : ∀ k,k≤ls.length→eU (ls.take k)≤k*140737488355328
  | 0,_=>by simp[eU]
  | k+1,h=>by
    rw[iy (by omega)]
    have h1:=mf hb k (by omega)
    have h2:(ls.getD k []).length≤140737488355328:=by
      rw[List.getD_eq_getElem?_getD,List.getElem?_eq_getElem (by omega)]
      exact hb _ (List.getElem_mem _)
    rw[Nat.succ_mul]
    omega
theorem m8{ls:List (List Int)}{k:Nat}{n:Int}(hb:∀ x,x∈ls→x.length≤140737488355328)(h:k≤60→n=(eU (ls.take k) : Nat))(hk:k<ls.length) : k+1≤60→IntKind.i64.wrap (n+(((ls.getD k []).length:Nat) : Int))=(eU (ls.take (k+1)) : Nat):=by
  intro a
  have h1:=mf hb (k+1) hk
  have h2:=iy hk
  rw[h (by omega),i64_in]
  · rw[h2];omega
  · omega
theorem iD{ls:List (List Int)}{k:Nat}{n:Int}(h:k≤60→n=(eU (ls.take k) : Nat))(hk:k=ls.length) : (decide ((ls.length:Int)≤60)&&decide (n≤3000))=ey ls:=by
  subst hk
  rw[List.take_length] at h
  unfold ey
  by_cases a:ls.length≤60
  · rw[h a]
    congr 1
    · rw[decide_eq_decide];omega
    · rw[decide_eq_decide];omega
  · rw[decide_eq_false a,decide_eq_false (by omega)];rfl
theorem nq{m:Bool}{A:Option Addr}{cp:Nat}{ls:List (List Int)}{w:World}(h:kG m w (.slice A ls.length cp) ls)(hbb:∀ x,x∈ls→x.length≤140737488355328) : Calls Tryz.prog 44 #[.slice A ls.length cp] w (bg (.bool (ey ls)) w):=by
 have hz:=aH.len h
 refine en 25 Tryz.func44 rfl<|sg<|Pl 1<|ng<|Pl 1<|nt<|sq<|sg<|?_
 refine Pl 1<|nt<|bk<|?_
 refine fR (fun x=>[(0,.slice A ls.length cp),(2,.bool false),(3,.int .i64 x.2),(4,.int .i64 ((x.1:Nat) : Int))]) (fun(x:Nat × Int) w'=>au [] w w'∧(x.1≤ls.length)∧(x.1≤60→x.2=(eU (ls.take x.1) : Nat))) (fun x=>ls.length-x.1) (0,0) ⟨au.refl _ _,(by(try dsimp only);omega),(by(try dsimp only);intro _;rfl)⟩ ?_
 rintro⟨k,n⟩ u ⟨c,f,g⟩
 refine fz [(0,.slice A ls.length cp),(2,.bool false),(3,.int .i64 n),(4,.int .i64 ((k:Nat) : Int))] ?_
 have y:k≤ls.length:=f
 have d:k≤60→n=(eU (ls.take k) : Nat):=g
 refine sq<|sg<|Pl 4<|nt<|cb ((decide (((k:Nat) : Int)<((ls.length:Nat) : Int)))) (fun b=>?_) (fun b=>?_)
 have i:=of_decide_eq_true b
 refine bB<|sq<|bk<|go<|Pl 3<|g7 (kG.elt h k (by omega)) fun j l o q r s z B C=>L0<|mN ls.length k r (by omega)<|L0<|jx (p:=⟨j,l+k,none⟩) (v:=.slice o ((ls.getD k []).length) q) (uc c s)<|Pl 3<|nl<|bn<|tn<|go<|?_
 exact Pl 1<|L0<|Oi (((k:Nat) : Int)+1)<|Pl 1<|nl<|dZ ((k+1),(IntKind.i64.wrap (n+(((ls.getD k []).length:Nat) : Int)))) ⟨c,(by(try dsimp only);omega),(m8 hbb d (by omega))⟩ (by omega)
 have i:=of_decide_eq_false b
 refine xt<|tx<|tx<|bx<|tn<|sg<|Pl 4<|cu 3 [21] 24 (((decide (((ls.length:Nat) : Int)≤60))&&(decide (n≤3000)))) (fun K e=>?_) ?_
 refine bl 21 ((decide (((ls.length:Nat) : Int)≤60))) (fun a=>?_) (fun a=>?_)
 have t:=of_decide_eq_true a
 exact Pl 3<|ce e (decide (n≤3000)) (by rw[a];rfl)
 have t:=of_decide_eq_false a
 exact Pl 3<|ce e false (by rw[a];rfl)
 refine Pl 1<|nt<|rt<|rr (.bool ((decide (((ls.length:Nat) : Int)≤60))&&(decide (n≤3000))))<|?_
 have hs:((decide (((ls.length:Nat) : Int)≤60))&&(decide (n≤3000)))=ey ls:=by first | exact iD d (by omega) | (rw[← iD d (by omega)];simp only[b,bs,if_true,if_false,decide_true,decide_false,Bool.true_and,Bool.false_and])
 rw[hs]
 exact⟨rfl,c⟩
open Go.RowKit
structure Pc where
  bytes:List Int
  tick:Bool
def Pc.z:Pc:=⟨[],false⟩
def km (n:Nat)(w:World)(v:Value)(b:List Int) : Prop:=aM false w v b∧∀ A k c,v = .slice A k c→0<k→∀ x,x∈ob A→x<n
theorem km.of{m:Bool}{w:World}{v:Value}{b:List Int}(h:aM m w v b) : km w.heap.size w v b:=⟨aH.any h (fun _ _ q=>q),fun A k c e hk=>by subst e;exact aH.low h hk⟩
theorem km.nil{n:Nat}{w:World}:km n w (.slice none 0 0) []:=⟨aH.nil ..,fun A k c e hk=>by injection e with _ e;omega⟩
theorem km.upd{n:Nat}{w w':World}{X:List Nat}{v:Value}{b:List Int}(hu:au X w w')(hx:∀ x,x∈X→n≤x)(h:km n w v b) : km n w' v b:=by
  obtain⟨A,c,rfl,_,_⟩:=h.1.shape
  exact⟨aM.far h.1 hu fun hn x hxA hxX=>Nat.lt_irrefl _ (Nat.lt_of_lt_of_le (h.2 A _ _ rfl hn x hxA) (hx x hxX)),h.2⟩
def vc (m:Bool)(w:World)(p:Pc)(cs:List Value) : Prop:=∃ v,cs=[v,.bool p.tick]∧aM m w v p.bytes
def eD (n:Nat)(w:World)(p:Pc)(cs:List Value) : Prop:=∃ v,cs=[v,.bool p.tick]∧km n w v p.bytes
def mu (n:Nat)(w:World)(b:List Int)(cs:List Value) : Prop:=∃ v,cs=[v]∧km n w v b
abbrev ew (m:Bool) (w:World) (v:Value) (ps:List Pc) : Prop:=aH m 53 2 (vc m) w v ps
abbrev ci (n base:Nat) (w:World) (v:Value) (ps:List Pc) : Prop:=aN base 53 2 (eD n) w v ps
theorem eD.upd{n:Nat}{w w':World}{X:List Nat}(hu:au X w w')(hx:∀ x,x∈X→n≤x)(p:Pc)(cs:List Value)(h:eD n w p cs) : eD n w' p cs:=by
  obtain⟨v,h1,h2⟩:=h
  exact⟨v,h1,km.upd hu hx h2⟩
theorem mu.upd{n:Nat}{w w':World}{X:List Nat}(hu:au X w w')(hx:∀ x,x∈X→n≤x)(p:List Int)(cs:List Value)(h:mu n w p cs) : mu n w' p cs:=by
  obtain⟨v,h1,h2⟩:=h
  exact⟨v,h1,km.upd hu hx h2⟩
theorem mu.ones{n:Nat}{w:World}:∀ (x:List Int)(cs:List Value),mu n w x cs→∀ v,v∈cs→v.oneCell'=true:=fun x cs ⟨v,h1,h2⟩ u hu=>by
  rw[h1,List.mem_singleton] at hu
  obtain⟨A,c,e,_⟩:=h2.1.shape
  rw[hu,e]
  rfl
theorem eD.ones{n:Nat}{w:World}:∀ (x:Pc)(cs:List Value),eD n w x cs→∀ v,v∈cs→v.oneCell'=true:=fun x cs ⟨v,h1,h2⟩ u hu=>by
  rw[h1] at hu
  obtain⟨A,c,e,_⟩:=h2.1.shape
  rcases List.mem_cons.1 hu with e2|hu
  · rw[e2,e];rfl
  · rw[List.mem_singleton] at hu;rw[hu];rfl
theorem ci.any{n base:Nat}{w:World}{v:Value}{ps:List Pc}(h:ci n base w v ps) : ew false w v ps:=aH.any h.rd fun p cs ⟨v,h1,h2⟩=>⟨v,h1,h2.1⟩
theorem ew.old{m:Bool}{w w':World}{v:Value}{ps:List Pc}(h:ew m w v ps)(hu:au [] w w') : ew m w' v ps:=aH.upd h hu (bN.nil _ _ _) fun x cs ⟨v,h1,h2⟩=>⟨v,h1,h2.old hu⟩
theorem ew.elt{m:Bool}{w:World}{A:Option Addr}{n c:Nat}{ps:List Pc}(h:ew m w (.slice A n c) ps)(j:Nat)(hj:j<ps.length) :
    ∃ b off cells t fr A' c',A=some ⟨b,off,none⟩∧w.heap[b]? = some (.cells cells t fr)∧aM m w (.slice A' (ps.getD j Pc.z).bytes.length c') (ps.getD j Pc.z).bytes∧((ps.getD j Pc.z).bytes.length≤c'∧c'≤maxLen)∧(cells.toList.drop (off+j*2)).take 2=[.slice A' (ps.getD j Pc.z).bytes.length c',.bool (ps.getD j Pc.z).tick]:=by
  obtain⟨b,off,cells,t,fr,cs,h1,h2,h3,⟨v,h4,h5⟩,h6⟩:=aH.elt h Pc.z j hj
  obtain⟨A',c',rfl,h7,h8⟩:=h5.shape
  exact⟨b,off,cells,t,fr,A',c',h1,h2,h5,⟨h7,h8⟩,h6.trans h4⟩
theorem ew.n{m:Bool}{w:World}{v:Value}{ps:List Pc}(h:ew m w v ps) : aH false 53 2 (eD w.heap.size) w v ps:=aH.any h fun p cs ⟨v,h1,h2⟩=>⟨v,h1,km.of h2⟩
theorem RdPn.old{n:Nat}{w w':World}{v:Value}{ps:List Pc}(h:aH false 53 2 (eD n) w v ps)(hu:au [] w w') : aH false 53 2 (eD n) w' v ps:=aH.upd h hu (bN.nil _ _ _) fun x cs q=>eD.upd hu (fun x hx=>by cases hx) x cs q
theorem RdPn.elt{n0:Nat}{w:World}{A:Option Addr}{n c:Nat}{ps:List Pc}(h:aH false 53 2 (eD n0) w (.slice A n c) ps)(j:Nat)(hj:j<ps.length) :
    ∃ b off cells t fr A' c',A=some ⟨b,off,none⟩∧w.heap[b]? = some (.cells cells t fr)∧km n0 w (.slice A' (ps.getD j Pc.z).bytes.length c') (ps.getD j Pc.z).bytes∧((ps.getD j Pc.z).bytes.length≤c'∧c'≤maxLen)∧(cells.toList.drop (off+j*2)).take 2=[.slice A' (ps.getD j Pc.z).bytes.length c',.bool (ps.getD j Pc.z).tick]:=by
  obtain⟨b,off,cells,t,fr,cs,h1,h2,h3,⟨v,h4,h5⟩,h6⟩:=aH.elt h Pc.z j hj
  obtain⟨A',c',rfl,h7,h8⟩:=h5.1.shape
  exact⟨b,off,cells,t,fr,A',c',h1,h2,h5,⟨h7,h8⟩,h6.trans h4⟩
theorem uP{n:Nat}{w0 w:World}{g:Nat}{cs:Array Value}{p:Pc}(hg:w0.heap.size≤g)(hb:w.heap[g]? = some (.cells cs 53 (0,0)))(h:eD n w p cs.toList) : ci n w0.heap.size w (.slice (some ⟨g,0,none⟩) 1 1) [p]:=by
  have hl:cs.toList.length=2:=by
    obtain⟨v,h1,_⟩:=h
    rw[h1]
    rfl
  refine⟨cs.toList,⟨hl,.inr ⟨g,1,cs,rfl,hg,hb,Nat.le_refl _,by unfold maxLen;omega,by simpa using hl,by rw[List.take_of_length_le];exact Nat.le_of_eq hl⟩⟩,fun j y hj=>?_⟩
  cases j with
  | succ j=>simp at hj
  | zero =>
    have hj:p=y:=by simpa using hj
    subst hj
    exact⟨cs.toList,hl,h,fun i u hi=>by simpa using hi⟩
theorem um{n:Nat}{w0 w:World}{g:Nat}{cs:Array Value}{b:List Int}(hg:w0.heap.size≤g)(hb:w.heap[g]? = some (.cells cs 27 (0,0)))(h:mu n w b cs.toList) : aN w0.heap.size 27 1 (mu n) w (.slice (some ⟨g,0,none⟩) 1 1) [b]:=by
  have hl:cs.toList.length=1:=by
    obtain⟨v,h1,_⟩:=h
    rw[h1]
    rfl
  refine⟨cs.toList,⟨hl,.inr ⟨g,1,cs,rfl,hg,hb,Nat.le_refl _,by unfold maxLen;omega,by simpa using hl,by rw[List.take_of_length_le];exact Nat.le_of_eq hl⟩⟩,fun j y hj=>?_⟩
  cases j with
  | succ j=>simp at hj
  | zero =>
    have hj:b=y:=by simpa using hj
    subst hj
    exact⟨cs.toList,hl,h,fun i u hi=>by simpa using hi⟩
section
variable {P:Program}{n:Nat}{D:List Deferred}{F:Fr}{w:World}{K:Fr→World→Prop}{Q:Exit→Act→World→Prop}{d:Option Tmp}{t:TypeId}{s:String}{af:Array Edge}{gu:Option (Nat × Bool)}
theorem jX{ty:TypeId}{x y:Operand}{m c b off j:Nat}{A:Option Addr}{ps:List Pc}{n0 base:Nat}(HO:ci n0 base w (.slice A m c) ps)(hnb:n0≤base)(hA:A=some ⟨b,off,none⟩)(hj:j<ps.length)(v:Bool)
    (h:∀ w',ci n0 base w' (.slice A m c) (ps.set j (Pc.mk (ps.getD j Pc.z).bytes v))→au (ob A++[]) w w'→K (pt d undef F) w') (hx:cX F x=some (.pointer (some ⟨b,off+j*2+1,none⟩)):=by kernel_rfl) (hy:cX F y=some (.bool v):=by kernel_rfl) (hs:((P.info? ty).map (·.size),dw n d)=(some 1,true):=by kernel_rfl) : OG P ⟨d,.store ty x y,t,s,af,gu⟩ n D F w K Q:=by
  simp only[Prod.mk.injEq] at hs
  subst hA
  have hrow:=HO
  obtain⟨cells,⟨hl,ho⟩,hx0⟩:=HO
  rcases ho with⟨e,_⟩|⟨g,cap,cur,e,hb,hh,h1,h2,h3,h4⟩
  · cases e
  injection e with e1 e2 e3
  injection e1 with e1
  injection e1 with e4 e5
  subst e4 e5 e2 e3
  obtain⟨i,hi1,hi2⟩:=Option.map_eq_some_iff.1 hs.1
  have hcl:cells.length=ps.length*2:=hl
  have hle:ps.length*2≤cur.size:=by rw[h3];exact Nat.mul_le_mul_right 2 h1
  have hlt:j*2+1<cur.size:=by omega
  have hcell:w.cell? ⟨b,0+j*2+1,none⟩=some cur[j*2+1]:=by rw[bF hh,Nat.zero_add];simp[hlt]
  refine⟨fun a ha K' hK=>OW.mk ?_⟩
  have hx':=ha.ev hx
  have hy':=ha.ev hy
  have hrun:(execOp a.eval ⟨d,.store ty x y,t,s,af,gu⟩).run P w = .ok .skip (w.setCell ⟨b,0+j*2+1,none⟩ (.bool v)):=by
    have hfr:w.frozen? ⟨b,0+j*2+1,none⟩=false:=by simp[World.frozen?,hh]
    unfold execOp
    simp only[hx',hy',Instr.storeAt,Instr.sureAddr,Sem.run_bind,Sem.run_pure,Result.andThen_ok,storeVar,sizeOf,typeInfo]
    simp_all [Value.oneCell',Value.cells,Sem.run,Result.andThen,storeCells,store,Addr.add,program]
  unfold Oper.wp
  rw[hrun]
  have hu:au (ob (some ⟨b,0,none⟩)++[]) w (w.setCell ⟨b,0+j*2+1,none⟩ (.bool v)):=by
    refine(au.refl _ w).setCell (p:=⟨b,0+j*2+1,none⟩) (.inl ?_) _
    simp[ob]
  have hlow:∀ x,x∈(ob (some ⟨b,0,none⟩)++[])→n0≤x:=fun x hx=>by simp[ob] at hx;subst hx;exact Nat.le_trans hnb hb
  refine hK _ _ _ (h _ ?_ hu) (ha.put hs.2)
  refine⟨cells.set (j*2+1) (.bool v),⟨by rw[List.length_set,List.length_set];exact hl,.inr ⟨b,c,_,by rw[List.length_set],hb,dO hh (0+j*2+1) _,by rw[List.length_set];exact h1,h2,by simpa using h3,?_⟩⟩,fun k p hk=>?_⟩
  · rw[List.length_set,← h4,Nat.zero_add]
    simp[List.take_set]
  · by_cases hjk:k=j
    · subst hjk
      rw[List.getElem?_set_self hj] at hk
      injection hk with hk
      subst hk
      obtain⟨cs,c1,⟨v0,c2,c3⟩,c4⟩:=hx0 k (ps.getD k Pc.z) (by rw[List.getD_eq_getElem?_getD,List.getElem?_eq_getElem hj];rfl)
      refine⟨[v0,.bool v],rfl,⟨v0,rfl,km.upd hu hlow c3⟩,fun i u hi=>?_⟩
      subst c2
      match i,hi with
      | 0,hi =>
        rw[List.getElem?_set_ne (by omega)]
        exact c4 0 u hi
      | 1,hi =>
        rw[List.getElem?_set_self (by omega)]
        simpa using hi
    · rw[List.getElem?_set_ne (fun e=>hjk e.symm)] at hk
      obtain⟨cs,c1,c2,c4⟩:=hx0 k p hk
      refine⟨cs,c1,eD.upd hu hlow p cs c2,fun i u hi=>?_⟩
      have hil:i<2:=by have:=(List.getElem?_eq_some_iff.1 hi).1;omega
      rw[List.getElem?_set_ne (by omega)]
      exact c4 i u hi
end
def XS.run (S:XS)(ps:List Pc) : XS × List Ev:=ps.foldl (fun p c=>((p.1.take c.bytes c.tick).1,p.2++(p.1.take c.bytes c.tick).2)) (S,[])
theorem jk:∀ (ps:List Pc)(S:XS)(K:List Ev),ps.foldl (fun p c=>((p.1.take c.bytes c.tick).1,p.2++(p.1.take c.bytes c.tick).2)) (S,K)=((S.run ps).1,K++(S.run ps).2)
  | [],S,K=>by simp[XS.run]
  | c :: t,S,K=>by
    unfold XS.run
    rw[List.foldl_cons,List.foldl_cons,jk t,jk t]
    simp
theorem gB(S:XS)(a b:List Pc) : S.run (a++b)=(((S.run a).1.run b).1,(S.run a).2++((S.run a).1.run b).2):=by
  unfold XS.run
  rw[List.foldl_append]
  exact jk b _ _
theorem eu{ps:List Pc}{k:Nat}(hk:k<ps.length) : ps.take (k+1)=ps.take k++[ps.getD k Pc.z]:=by
  rw[List.take_succ_eq_append_getElem hk,List.getD_eq_getElem?_getD,List.getElem?_eq_getElem hk]
  rfl
theorem fP(S:XS)(p:Pc) : S.run [p]=S.take p.bytes p.tick:=by
  unfold XS.run
  simp
theorem oQ{S0 S S2:XS}{ps:List Pc}{L L2:List Ev}{k:Nat}(hk:k<ps.length)(h:(S,L)=S0.run (ps.take k))(hX:S.take (ps.getD k Pc.z).bytes (ps.getD k Pc.z).tick=(S2,L2)) : (S2,L++L2)=S0.run (ps.take (k+1)):=by
  rw[eu hk,gB,← h,fP,hX]
def eC (ps:List Pc) : Nat:=eU (ps.map Pc.bytes)
theorem iJ{ps:List Pc}{k:Nat}(hk:k<ps.length) : eC (ps.take (k+1))=eC (ps.take k)+(ps.getD k Pc.z).bytes.length:=by
  unfold eC
  rw[eu hk,List.map_append,gL]
  rfl
theorem mP{ps:List Pc}{k:Nat}(hk:k<ps.length) : (ps.getD k Pc.z).bytes.length+eC (ps.take k)≤eC ps:=by
  have h:=iJ hk
  have e:ps=ps.take (k+1)++ps.drop (k+1):=(List.take_append_drop ..).symm
  have e2:eC ps=eC (ps.take (k+1))+eC (ps.drop (k+1)):=by
    conv=>lhs;rw[e]
    unfold eC
    rw[List.map_append,gL]
  omega
theorem b9.take_le{n base s g c:Nat}{w:World}{A:Option Addr}{S S2:XS}{b:List Int}{t:Bool}{L:List Ev}(h:b9 n base w s g A c S)(hb:∀ x,x∈b→0≤x∧x<256)(hX:S.take b t=(S2,L)) : L.length≤b.length+2:=by
  have e:L=(S.take b t).2:=(congrArg Prod.snd hX).symm
  rw[e]
  have h:=h.2
  have hf:(S.feed b).2.length≤b.length+1:=by
    cases S with
    | r S=>exact Nat.le_trans (SS.feed_le (S:=S) (b:=b) rfl) (by omega)
    | a S=>exact Nat.le_trans (SA.feed_le h.2.2.1 hb rfl) (by omega)
    | m S=>exact Nat.le_trans (SM.feed_le h.2.2.1 hb rfl) (by omega)
  have ht:(S.feed b).1.tick.2.length≤1:=by
    cases S with
    | r S=>exact SS.tick_le (S:=(S.feed b).1) rfl
    | a S=>exact Nat.zero_le _
    | m S=>exact Nat.zero_le _
  unfold XS.take
  cases t
  · exact Nat.le_trans hf (by omega)
  · show(((S.feed b).2++(S.feed b).1.tick.2:List Ev)).length≤_
    rw[List.length_append]
    omega
open Go.RowKit
theorem OwnS.any{n base:Nat}{w:World}{v:Value}{ls:List (List Int)}(h:aN base 27 1 (mu n) w v ls) : kG false w v ls:=aH.any h.rd fun p cs ⟨v,h1,h2⟩=>⟨v,h1,h2.1⟩
theorem r3{L ps:List Pc}{k:Nat}(hL:L=ps.take k)(hk:k<ps.length) : L++[Pc.mk (ps.getD k Pc.z).bytes (ps.getD k Pc.z).tick]=ps.take (k+1):=by rw[eu hk,hL]
theorem qp{L:List (List Int)}{ps:List Pc}{k:Nat}(hL:L=(ps.take k).map Pc.bytes)(hk:k<ps.length) : L++[(ps.getD k Pc.z).bytes]=(ps.take (k+1)).map Pc.bytes:=by rw[eu hk,List.map_append,hL];rfl
theorem l4{m:Bool}{A:Option Addr}{cp:Nat}{ps:List Pc}{w:World}(h:ew m w (.slice A ps.length cp) ps)(hps:ps.length≤4398046511104)(hbb:∀ p,p∈ps→p.bytes.length≤140737488355328) : Calls Tryz.prog 25 #[.slice A ps.length cp] w (bg (.bool (ey (ps.map Pc.bytes))) w):=by
 have hz:=aH.len h
 refine en 21 Tryz.func25 rfl<|sg<|Pl 1<|ng<|Pl 1<|nt<|sq<|sg<|?_
 refine Pl 1<|nt<|bk<|?_
 refine fR (fun x=>[(0,.slice A ps.length cp),(2,.bool false),(3,.slice x.2.2.1 x.2.1.length x.2.2.2),(4,.int .i64 ((x.1:Nat) : Int))]) (fun(x:Nat × List (List Int) × Option Addr × Nat) w'=>au [] w w'∧aN w.heap.size 27 1 (mu w.heap.size) w' (.slice x.2.2.1 x.2.1.length x.2.2.2) x.2.1∧(x.1≤ps.length)∧(x.2.1.length≤x.1)∧(x.2.1=(ps.take x.1).map Pc.bytes)) (fun x=>ps.length-x.1) (0,[],none,0) ⟨au.refl _ _,(aN.nil w.heap.size _ _ (mu w.heap.size) _),(by(try dsimp only);omega),(by(try dsimp only);exact Nat.le_refl _),rfl⟩ ?_
 rintro⟨k,L,B,cq⟩ q ⟨a,r,s,t,u⟩
 refine fz [(0,.slice A ps.length cp),(2,.bool false),(3,.slice B L.length cq),(4,.int .i64 ((k:Nat) : Int))] ?_
 have c:aN w.heap.size 27 1 (mu w.heap.size) q (.slice B L.length cq) L:=r
 have R:k≤ps.length:=s
 have S:L.length≤k:=t
 have i:L=(ps.take k).map Pc.bytes:=u
 refine sq<|sg<|Pl 4<|nt<|cb ((decide (((k:Nat) : Int)<((ps.length:Nat) : Int)))) (fun d=>?_) (fun d=>?_)
 have y:=of_decide_eq_true d
 refine bB<|sq<|bk<|go<|Pl 3<|jA (ew.elt h k (by omega)) fun C D T U V j l E F G W H=>L0<|fq 2 ps.length k E (by omega)<|Pl 1<|?_
 refine L0<|jx (p:=⟨C,D+k*2+0,none⟩) (v:=.slice j ((ps.getD k Pc.z).bytes.length) l) (dC (ub a F) H 0 rfl (by decide))<|L0<|fk (m:=1) (e:=27) #[.slice j ((ps.getD k Pc.z).bytes.length) l] fun X Y I J f=>?_
 have g:=aE a f
 have K:=um (n:=w.heap.size) (b:=(ps.getD k Pc.z).bytes) I J (⟨_,rfl,km.upd g (fun x hx=>by cases hx) (km.of (G))⟩)
 have o:=am c f (fun x hx=>ax) (mu.upd f (fun x hx=>by cases hx))
 refine L0<|t9 (xs:=L) (ys:=([(ps.getD k Pc.z).bytes])) (.slice none 0 0) 1 24 o (K).rd mu.ones (fun w' hv=>mu.upd hv (ap (fun x hx=>Nat.le_trans lr (cS o x hx)) av)) (by(try simp only[List.length_append,List.length_cons,List.length_nil,aT]);omega) (by(try simp only[List.length_append,List.length_cons,List.length_nil,aT]);omega) g.size fun M N Z O P a0=>Pl 1<|nl<|bn<|tn<|go<|Pl 1<|L0<|Oi (((k:Nat) : Int)+1)<|Pl 1<|nl<|?_
 exact dZ ((k+1),(L++[(ps.getD k Pc.z).bytes]),M,N) ⟨(ut g P (ap (bt c lr) av)),O,(by(try dsimp only);omega),(by(try dsimp only);simp only[List.length_append,List.length_cons,List.length_nil];omega),(by(try dsimp only);exact qp i (by omega))⟩ (by omega)
 have y:=of_decide_eq_false d
 refine xt<|tx<|tx<|bx<|tn<|sg<|Pl 1<|?_
 have hs:L=ps.map Pc.bytes:=by rw[i,List.take_of_length_le (by omega)]
 have hbb2:∀ x,x∈L→x.length≤140737488355328:=by rw[hs];intro x hx;obtain⟨p,hp,rfl⟩:=List.mem_map.1 hx;exact hbb p hp
 refine L0<|Oc<|m1 (nq (OwnS.any c) hbb2) fun a1 Q=>Pl 1<|nt<|rt<|rr (.bool (ey L))<|?_
 rw[hs]
 exact⟨rfl,(aE a Q)⟩
open Go.RowKit
theorem tF{n n0 base s g c:Nat}{w:World}{A:Option Addr}{S:XS}{X:List Nat}(h:b9 n0 base w s g A c S)(k:oc n X w) : oc n (g :: X) w:=by
  obtain⟨t,cs,fr,q,h1,_⟩:=h.2.cells
  exact dr q h1 k
theorem ro{S0 S:XS}{L:List Ev}{ps:List Pc}{k:Nat}(h:(S,L)=XS.run S0 (ps.take k))(hk:ps.length≤k) : XS.run S0 ps=(S,L):=by
  rw[List.take_of_length_le hk] at h
  exact h.symm
def tO (r:XS × List Ev)(w:World)(e:Ending)(w':World) : Prop:=∃ v,e = .returned (.tuple #[v,.int .i64 ((r.1.held.length:Nat) : Int)])∧f6 w.heap.size w' v r.2∧au [] w w'
theorem pL{m:Bool}{A:Option Addr}{cp:Nat}{ps:List Pc}{w:World}{k0 d:Int}(hk:k0=0∨k0=1∨k0=2)(hd:d=0∨d=1)(h:ew m w (.slice A ps.length cp) ps)(hps:ps.length≤1000)(hsum:eC ps≤100000) : Calls Tryz.prog 26 #[.int .i64 k0,.int .i64 d,.slice A ps.length cp] w (tO (XS.run (XS.zero k0 d) ps) w):=by
 have hz:=aH.len h
 refine en 32 Tryz.func26 rfl<|sg<|Pl 2<|ng<|Pl 2<|L0<|Oc (args:=#[.int .i64 k0,.int .i64 d])<|vI (qm (k:=k0) (d:=d) hk hd) fun b i T ah F U G=>Pl 1<|nt<|sq<|?_
 refine sg<|Pl 2<|nt<|c0<|bB<|sg<|Pl 1<|nt<|sq<|?_
 refine sg<|Pl 3<|nt<|bk<|?_
 refine fR (fun x=>[(6,.slice none 0 0),(7,.int .i64 0),(8,.pointer (some ⟨b,0,none⟩)),(9,.slice x.2.2.2.2.2.1 x.2.2.1.length x.2.2.2.2.2.2.1),(17,.slice A ps.length cp),(18,.int .i64 ((ps.length:Nat) : Int)),(19,.int .i64 ((x.1:Nat) : Int))]) (fun(x:Nat × XS × List Ev × Option Addr × Nat × Option Addr × Nat × Nat) w'=>au [] w w'∧T.heap.size≤w'.heap.size∧b9 x.2.2.2.2.2.2.2 w.heap.size w' b i x.2.2.2.1 x.2.2.2.2.1 x.2.1∧cv x.2.2.2.2.2.2.2 w.heap.size w' (.slice x.2.2.2.2.2.1 x.2.2.1.length x.2.2.2.2.2.2.1) x.2.2.1∧(x.1≤ps.length)∧((x.2.1,x.2.2.1)=XS.run (XS.zero k0 d) (ps.take x.1))∧(x.2.2.1.length≤eC (ps.take x.1)+2*x.1)) (fun x=>ps.length-x.1) (0,(XS.zero k0 d),[],none,0,none,0,w.heap.size) ⟨G,lr,U,(aN.nil w.heap.size _ _ (aZ w.heap.size) _),(by(try dsimp only);omega),rfl,(by(try dsimp only);exact Nat.zero_le _)⟩ ?_
 rintro⟨k,S,L,Ah,ch,Bq,cq,n⟩ H ⟨l,I,V,W,X,Y,Z⟩
 refine fz [(6,.slice none 0 0),(7,.int .i64 0),(8,.pointer (some ⟨b,0,none⟩)),(9,.slice Bq L.length cq),(17,.slice A ps.length cp),(18,.int .i64 ((ps.length:Nat) : Int)),(19,.int .i64 ((k:Nat) : Int))] ?_
 have a:b9 n w.heap.size H b i Ah ch S:=V
 have c:cv n w.heap.size H (.slice Bq L.length cq) L:=W
 have ai:k≤ps.length:=X
 have J:(S,L)=XS.run (XS.zero k0 d) (ps.take k):=Y
 have aj:L.length≤eC (ps.take k)+2*k:=Z
 refine sg<|Pl 1<|nt<|sq<|cb ((decide (((k:Nat) : Int)<((ps.length:Nat) : Int)))) (fun o=>?_) (fun o=>?_)
 have a0:=of_decide_eq_true o
 refine bB<|sq<|bk<|sg<|jA (ew.elt h k (by omega)) fun ak al an ao aq p r a1 a2 s ar a3=>L0<|fq 2 ps.length k a1 (by omega)<|?_
 refine L0<|tX [.slice p ((ps.getD k Pc.z).bytes.length) r,.bool ((ps.getD k Pc.z).tick)] (ub l a2) a3<|L0<|bz #[.slice none 0 0,.bool false] fun aw ay a4 a5 t=>L0<|b6 a5 #[.slice p ((ps.getD k Pc.z).bytes.length) r,.bool ((ps.getD k Pc.z).tick)] fun az a6 u=>nt<|go<|Pl 2<|L0<|c9 a6<|?_
 have v:=ud t u a4
 have K:=aE l v
 have M:=aM.old s K
 have hpart:=mP (ps:=ps) (k:=k) (by omega)
 have B:=b9.old a v
 refine pr (XS.take S ((ps.getD k Pc.z).bytes) ((ps.getD k Pc.z).tick)) fun a7 N C=>?_
 have aA:=b9.take_le B (aM.range M) C
 refine L0<|Oc (args:=#[.pointer (some ⟨b,0,none⟩),.agg #[.slice p ((ps.getD k Pc.z).bytes.length) r,.bool ((ps.getD k Pc.z).tick)]])<|?_
 refine(pB C B M (pv (aH.low (s)) F) (dT (aH.low (s)) (b9.row B) lr) (by omega)).mono ?_
 rintro _ aB ⟨aC,a8,a9,O,rfl,ab,f,aD,ad,j⟩
 refine⟨_,rfl,?_⟩
 have P:=ab
 obtain⟨aF,aG,rfl,aI,aJ⟩:=aH.shape P.rd
 have Q:=ut (au.mono (S':=(i :: (ob Ah++[]))) v av) j (ac im (ap il av))
 have g:=am c Q (fun x hx=>(aa (fun e=>(b9.gx a c (by decide)) (e▸hx)) (aK ((bY c (b9.row a) (by decide)) x hx) ax))) (fun x cs q=>aZ.upd Q (tF a (eO (l7 (Nat.le_refl _) (b9.low a)) bv)) q)
 refine L0<|ge (R:=aZ O) (xs:=L) (ys:=N) (.agg #[.int .i64 0,.int .u8 0,.int .u16 0,.int .u8 0,.int .u8 0,.int .u16 0,.int .u16 0,.int .u16 0,.int .u16 0,.int .u16 0,.int .u16 0,.int .u16 0,.int .u16 0,.int .u16 0,.int .u16 0,.slice none 0 0,.slice none 0 0,.slice none 0 0,.slice none 0 0,.int .u8 0,.int .u8 0,.int .u8 0,.int .u8 0,.int .u8 0,.slice none 0 0]) 25 168 (cv.up ad (b9.nle f) g) (P).rd aZ.ones (fun w' hv x cs q=>aZ.upd hv (fN g (by decide) bv) q) (by(try simp only[List.length_append,List.length_cons,List.length_nil,aT]);omega) (le (le (le (le G.size I) t.size) u.size) j.size) fun ae af aL ag D aO=>Pl 1<|nl<|bn<|tn<|go<|L0<|Oi (((k:Nat) : Int)+1)<|Pl 1<|nl<|?_
 exact dZ ((k+1),a7,(L++N),a8,a9,ae,af,O) ⟨(ut K (ut (au.mono (S':=(i :: (ob Ah++(ob Bq++[])))) j (ac im (ap il av))) D (ap il av)) (ac (nr F) (ap (bt (b9.row a) lr) (ap (bt c lr) av)))),(le (le (le (le I t.size) u.size) j.size) D.size),(b9.upd f D (aK (np (b9.cells f) g (by decide)) ax) (aK (b9.gx f g (by decide)) ax) (fun x hx=>(aK ((bY (b9.row f) g (by decide)) x hx) ax))),ag,(by(try dsimp only);omega),(by(try dsimp only);exact oQ (by omega) J C),(by(try dsimp only);have y:=iJ (ps:=ps) (k:=k) (by omega);simp only[List.length_append];omega)⟩ (by omega)
 have a0:=of_decide_eq_false o
 refine xt<|tx<|tx<|bx<|tn<|sg<|Pl 2<|L0<|Oc<|m1 (pq a) fun aP E=>Pl 2<|nt<|rt<|rr (.tuple #[.slice Bq L.length cq,.int .i64 ((S.held.length:Nat) : Int)])<|?_
 have hs:XS.run (XS.zero k0 d) ps=(S,L):=ro J (by omega)
 rw[hs]
 exact⟨_,rfl,cv.own (am c E (fun x hx=>ax) (fun x cs q=>aZ.upd E bv q)),(aE l E)⟩
theorem qU{m:Bool}{v:Value}{ps:List Pc}{w:World}{k0 d:Int}(hk:k0=0∨k0=1∨k0=2)(hd:d=0∨d=1)(h:ew m w v ps)(hps:ps.length≤1000)(hsum:eC ps≤100000) : Calls Tryz.prog 26 #[.int .i64 k0,.int .i64 d,v] w (tO (XS.run (XS.zero k0 d) ps) w):=by
  obtain⟨A,cp,rfl,_,_⟩:=h.shape
  exact pL hk hd h hps hsum
open Go.RowKit
theorem jz.ones{m:Bool}{w:World}(x:cT)(cs:List Value)(h:jz m w x cs) : ∀ v,v∈cs→v.oneCell'=true:=by
  obtain⟨s,h1,h2,_⟩:=h
  have h3:=h2.one
  intro v hv
  rw[h1,i5,Array.toList_append,List.mem_append] at hv
  rw[Array.all_eq_true'] at h3
  rcases hv with hv|hv
  · simp at hv;rcases hv with rfl | rfl<;>rfl
  · exact h3 v (by simpa using hv)
theorem uC{w0 w:World}{g:Nat}{cs:Array Value}{x:cT}(hg:w0.heap.size≤g)(hb:w.heap[g]? = some (.cells cs 33 (0,0)))(h:jz true w x cs.toList) : aN w0.heap.size 33 24 (jz true) w (.slice (some ⟨g,0,none⟩) 1 1) [x]:=by
  have hh:=h
  obtain⟨s,h1,h2⟩:=hh
  have hl:cs.toList.length=24:=by rw[h1];kernel_rfl
  clear h1
  refine⟨cs.toList,⟨hl,.inr ⟨g,1,cs,rfl,hg,hb,Nat.le_refl _,by unfold maxLen;omega,by simpa using hl,by rw[List.take_of_length_le];exact Nat.le_of_eq hl⟩⟩,fun j y hj=>?_⟩
  cases j with
  | succ j=>simp at hj
  | zero =>
    have hj:x=y:=by simpa using hj
    subst hj
    exact⟨cs.toList,hl,h,fun i u hi=>by simpa using hi⟩
def c6 (L:List Ev) : List cT:=(L.filter fun x=>x.e==0).map (·.f)
theorem mz{L:List Ev}{fs:List cT}{k:Nat}(hk:k<L.length)(h:fs=c6 (L.take k)) : (((L.getD k (Ev.bad 0)).e==0)=true→fs++[(L.getD k (Ev.bad 0)).f]=c6 (L.take (k+1)))∧(((L.getD k (Ev.bad 0)).e==0)=false→fs=c6 (L.take (k+1))):=by
  have e:c6 (L.take (k+1))=c6 (L.take k)++c6 [L.getD k (Ev.bad 0)]:=by
    unfold c6
    rw[List.take_succ_eq_append_getElem hk,List.getD_eq_getElem?_getD,List.getElem?_eq_getElem hk,List.filter_append,List.map_append]
    rfl
  rw[e,← h]
  refine⟨fun q=>?_,fun q=>?_⟩
  · unfold c6;rw[List.filter_cons,if_pos q];rfl
  · unfold c6;rw[List.filter_cons,if_neg (by rw[q];simp)];simp
theorem kn{A:Option Addr}{cp:Nat}{L:List Ev}{w:World}(h:kP true w (.slice A L.length cp) L)(hL:L.length≤200000) : Calls Tryz.prog 39 #[.slice A L.length cp] w (fun e w'=>∃ v,e = .returned v∧aN w.heap.size 33 24 (jz true) w' v (c6 L)∧au [] w w'):=by
 have hz:=aH.len h
 refine en 22 Tryz.func39 rfl<|sg<|Pl 1<|ng<|Pl 1<|nt<|sq<|sg<|?_
 refine Pl 3<|nt<|bk<|?_
 refine fR (fun x=>[(2,.slice none 0 0),(3,.slice x.2.2.1 x.2.1.length x.2.2.2),(6,.slice A L.length cp),(7,.int .i64 ((L.length:Nat) : Int)),(8,.int .i64 ((x.1:Nat) : Int))]) (fun(x:Nat × List cT × Option Addr × Nat) w'=>au [] w w'∧aN w.heap.size 33 24 (jz true) w' (.slice x.2.2.1 x.2.1.length x.2.2.2) x.2.1∧(x.1≤L.length)∧(x.2.1.length≤x.1)∧(x.2.1=c6 (L.take x.1))) (fun x=>L.length-x.1) (0,[],none,0) ⟨au.refl _ _,(aN.nil w.heap.size _ _ (jz true) _),(by(try dsimp only);omega),(by(try dsimp only);exact Nat.le_refl _),rfl⟩ ?_
 rintro⟨k,fs,B,cq⟩ t ⟨g,u,y,z,C⟩
 refine fz [(2,.slice none 0 0),(3,.slice B fs.length cq),(6,.slice A L.length cp),(7,.int .i64 ((L.length:Nat) : Int)),(8,.int .i64 ((k:Nat) : Int))] ?_
 have c:aN w.heap.size 33 24 (jz true) t (.slice B fs.length cq) fs:=u
 have U:k≤L.length:=y
 have V:fs.length≤k:=z
 have i:fs=c6 (L.take k):=C
 refine sg<|Pl 1<|nt<|sq<|cb ((decide (((k:Nat) : Int)<((L.length:Nat) : Int)))) (fun j=>?_) (fun j=>?_)
 have D:=of_decide_eq_true j
 refine bB<|sq<|bk<|sg<|tU (kP.elt h k (by omega) (Ev.bad 0)) fun W X Y Z a0 a E F n G=>L0<|fq 25 L.length k E (by omega)<|?_
 refine L0<|tX [.int .i64 ((L.getD k (Ev.bad 0)).e),.int .u8 ((L.getD k (Ev.bad 0)).f.unit),.int .u16 ((L.getD k (Ev.bad 0)).f.tid),.int .u8 ((L.getD k (Ev.bad 0)).f.msg.code),.int .u8 ((L.getD k (Ev.bad 0)).f.msg.fail),.int .u16 ((L.getD k (Ev.bad 0)).f.msg.addr),.int .u16 ((L.getD k (Ev.bad 0)).f.msg.count),.int .u16 ((L.getD k (Ev.bad 0)).f.msg.value),.int .u16 ((L.getD k (Ev.bad 0)).f.msg.and_),.int .u16 ((L.getD k (Ev.bad 0)).f.msg.or_),.int .u16 ((L.getD k (Ev.bad 0)).f.msg.addr2),.int .u16 ((L.getD k (Ev.bad 0)).f.msg.sub),.int .u16 ((L.getD k (Ev.bad 0)).f.msg.status),.int .u16 ((L.getD k (Ev.bad 0)).f.msg.events),.int .u16 ((L.getD k (Ev.bad 0)).f.msg.messages),.slice a.aw ((L.getD k (Ev.bad 0)).f.msg.words.length) a.kw,.slice a.ab ((L.getD k (Ev.bad 0)).f.msg.bits.length) a.kb,.slice a.ad ((L.getD k (Ev.bad 0)).f.msg.data.length) a.kd,.slice a.ar ((L.getD k (Ev.bad 0)).f.msg.recs.length) a.kr,.int .u8 ((L.getD k (Ev.bad 0)).f.msg.mei),.int .u8 ((L.getD k (Ev.bad 0)).f.msg.kind),.int .u8 ((L.getD k (Ev.bad 0)).f.msg.level),.int .u8 ((L.getD k (Ev.bad 0)).f.msg.more),.int .u8 ((L.getD k (Ev.bad 0)).f.msg.next),.slice a.ao ((L.getD k (Ev.bad 0)).f.msg.objects.length) a.ko] (ub g F) G<|L0<|bz #[.int .i64 0,.int .u8 0,.int .u16 0,.int .u8 0,.int .u8 0,.int .u16 0,.int .u16 0,.int .u16 0,.int .u16 0,.int .u16 0,.int .u16 0,.int .u16 0,.int .u16 0,.int .u16 0,.int .u16 0,.slice none 0 0,.slice none 0 0,.slice none 0 0,.slice none 0 0,.int .u8 0,.int .u8 0,.int .u8 0,.int .u8 0,.int .u8 0,.slice none 0 0] fun a1 a2 H I J=>L0<|b6 I (kS ⟨(L.getD k (Ev.bad 0)).e,(L.getD k (Ev.bad 0)).f⟩ a) fun a3 o K=>ng<|Pl 1<|L0<|aR o 0<|Pl 1<|nt<|?_
 have d:=ud J K H
 have p:=aE g d
 refine cb ((((L.getD k (Ev.bad 0)).e)==0)) (fun b=>?_) (fun b=>?_)
 have M:=aA b
 refine go<|Pl 2<|L0<|tK o 1 24<|L0<|fk (m:=1) (e:=33) (o5 ((L.getD k (Ev.bad 0)).f.unit) ((L.getD k (Ev.bad 0)).f.tid) ((L.getD k (Ev.bad 0)).f.msg) a) fun a4 a5 N O q=>?_
 have l:=aE p q
 have P:=uC N O ⟨a,rfl,(aU.old (n.1) l),n.2⟩
 have r:=aE d q
 have s:=am c r (fun x hx=>ax) (jz.upd r az)
 refine L0<|ge (xs:=fs) (ys:=([(L.getD k (Ev.bad 0)).f])) (.agg tE) 24 160 s (P).rd jz.ones (fun w' hv=>jz.upd hv (bS (ck _ s (by decide)) az)) (by(try simp only[List.length_append,List.length_cons,List.length_nil,aT]);omega) l.size fun Q R a6 S T a7=>Pl 1<|nl<|bn<|tn<|go<|L0<|Oi (((k:Nat) : Int)+1)<|Pl 1<|nl<|?_
 exact dZ ((k+1),(fs++[(L.getD k (Ev.bad 0)).f]),Q,R) ⟨(ut l T (ap (bt c lr) av)),S,(by(try dsimp only);omega),(by(try dsimp only);(try simp only[List.length_append,List.length_cons,List.length_nil]);omega),(by(try dsimp only);exact(mz (by omega) i).1 b)⟩ (by omega)
 have M:=aG b
 refine sk<|bn<|tn<|go<|L0<|Oi (((k:Nat) : Int)+1)<|Pl 1<|nl<|?_
 exact dZ ((k+1),fs,B,cq) ⟨p,(am c d (fun x hx=>ax) (jz.upd d az)),(by(try dsimp only);omega),(by(try dsimp only);(try simp only[List.length_append,List.length_cons,List.length_nil]);omega),(by(try dsimp only);exact(mz (by omega) i).2 b)⟩ (by omega)
 have D:=of_decide_eq_false j
 refine xt<|tx<|tx<|bx<|tn<|sg<|Pl 2<|nt<|rt<|rr (.slice B fs.length cq)<|?_
 have hs:fs=c6 L:=by rw[i,List.take_of_length_le (by omega)]
 exact⟨_,rfl,by rw[← hs];exact c,g⟩
theorem ly{v:Value}{L:List Ev}{w:World}(h:kP true w v L)(hL:L.length≤200000) : Calls Tryz.prog 39 #[v] w (fun e w'=>∃ v,e = .returned v∧aN w.heap.size 33 24 (jz true) w' v (c6 L)∧au [] w w'):=by
  obtain⟨A,cp,rfl,_,_⟩:=h.shape
  exact kn h hL
open Go.RowKit
def ju:XS→Prop
  | .r _=>False
  | _=>True
theorem nA{S:XS}(h:ju S)(b:List Int)(t t':Bool) : S.take b t=S.take b t':=by
  have e:∀ t,S.take b t=S.feed b:=by
    intro t
    cases S with
    | r S=>exact h.elim
    | a S=>cases t;rfl;show(_,(S.feed b).2++[])=_;rw[List.append_nil];rfl
    | m S=>cases t;rfl;show(_,(S.feed b).2++[])=_;rw[List.append_nil];rfl
  rw[e,e]
theorem kk{S:XS}(h:ju S)(b:List Int)(t:Bool) : ju (S.take b t).1:=by
  cases S with
  | r S=>exact h.elim
  | a S=>cases t<;>trivial
  | m S=>cases t<;>trivial
theorem eH:∀ (ps qs:List Pc)(S:XS),ju S→ps.map Pc.bytes=qs.map Pc.bytes→S.run ps=S.run qs
  | [],[],S,_,_=>rfl
  | [],q :: t,S,_,h=>by cases h
  | p :: t,[],S,_,h=>by cases h
  | p :: t,q :: u,S,hS,h=>by
    injection h with h1 h2
    rw[show p :: t=[p]++t from rfl,show q :: u=[q]++u from rfl,gB,gB,fP,fP,h1,nA hS _ p.tick q.tick,eH t u _ (kk hS _ _) h2]
theorem dn{ps:List Pc}(h:ey (ps.map Pc.bytes)=true) : ps.length≤60∧eC ps≤3000:=by
  unfold ey at h
  rw[Bool.and_eq_true,decide_eq_true_eq,decide_eq_true_eq,List.length_map] at h
  exact h
open Go.RowKit
theorem r6{w:World}{g:Nat}{cs:Array Value}{t:TypeId}{fr:Nat × Nat}{ps:List Pc}(hb:w.heap[g]? = some (.cells cs t fr))(hl:ps.length≤maxLen)(h:∀ j,j<ps.length→∃ v,(cs.toList.drop (j*2)).take 2=[v,.bool (ps.getD j Pc.z).tick]∧aM false w v (ps.getD j Pc.z).bytes) : ew false w (.slice (some ⟨g,0,none⟩) ps.length ps.length) ps:=by
  refine⟨_,_,rfl,Nat.le_refl _,hl,(fun e=>by cases e),fun hp=>⟨g,0,cs,t,fr,rfl,hb,(fun e=>by cases e),fun j x hj=>?_⟩⟩
  have hlt:=(List.getElem?_eq_some_iff.1 hj).1
  obtain⟨v,h1,h2⟩:=h j hlt
  have hx:ps.getD j Pc.z=x:=by rw[List.getD_eq_getElem?_getD,hj];rfl
  rw[hx] at h1 h2
  refine⟨[v,.bool x.tick],rfl,⟨v,rfl,h2⟩,fun i u hi=>?_⟩
  rw[← h1] at hi
  rw[List.getElem?_take] at hi
  split at hi
  · rw[List.getElem?_drop] at hi
    rw[Nat.zero_add,← Array.getElem?_toList]
    exact hi
  · cases hi
theorem tc{m m':Bool}{w:World}{g:Nat}{t:TypeId}{fr:Nat × Nat}{v v':Value}{p p':Pc}(hb:w.heap[g]? = some (.cells #[v,.bool p.tick,v',.bool p'.tick] t fr))(h:aM m w v p.bytes)(h':aM m' w v' p'.bytes) : ew false w (.slice (some ⟨g,0,none⟩) 2 2) [p,p']:=by
  refine r6 (ps:=[p,p']) hb (by unfold maxLen;simp) fun j hj=>?_
  match j,hj with
  | 0,_=>exact⟨v,rfl,aH.any h fun _ _ q=>q⟩
  | 1,_=>exact⟨v',rfl,aH.any h' fun _ _ q=>q⟩
theorem cL{m:Bool}{v:Value}{ps:List Pc}{w:World}{k0 d:Int}{S:XS}{L:List Ev}(hX:XS.run (XS.zero k0 d) ps=(S,L))(hk:k0=0∨k0=1∨k0=2)(hd:d=0∨d=1)(h:ew m w v ps)(hps:ps.length≤1000)(hsum:eC ps≤100000) : Calls Tryz.prog 26 #[.int .i64 k0,.int .i64 d,v] w (fun e w'=>∃ v,e = .returned (.tuple #[v,.int .i64 ((S.held.length:Nat) : Int)])∧f6 w.heap.size w' v L∧au [] w w'):=by
  have k:=qU hk hd h hps hsum
  rw[hX] at k
  exact k
theorem nK{m:Bool}{v:Value}{ps:List Pc}{w:World}(h:ew m w v ps)(hbb:∀ p,p∈ps→p.bytes.length≤140737488355328)(hps:ps.length≤4398046511104) : Calls Tryz.prog 25 #[v] w (bg (.bool (ey (ps.map Pc.bytes))) w):=by
  obtain⟨A,cp,rfl,_,_⟩:=h.shape
  exact l4 h hps hbb
open Go.RowKit
theorem tv:eh 0 [1,7,65,226]=(⟨1,0,o3⟩,0):=by decide +kernel
theorem tH:XS.run (XS.zero 0 0) [Pc.mk [1,7] false,Pc.mk [65,226] true]=((XS.r ⟨0,[],false⟩),[⟨0,⟨1,0,o3⟩⟩]):=by
  have e1:(SS.mk 0 [] false).feed [1,7]=(SS.mk 0 [1,7] false,[]):=rfl
  have e2:(SS.mk 0 [1,7] false).feed [65,226]=(SS.mk 0 [1,7,65,226] false,[]):=rfl
  have e3:(SS.mk 0 [1,7,65,226] false).tick=(SS.mk 0 [] false,[⟨0,⟨1,0,o3⟩⟩]):=by
    unfold SS.tick
    rw[if_neg (by decide),tv]
  have h1:(XS.zero 0 0).take [1,7] false=(XS.r (SS.mk 0 [1,7] false),[]):=rfl
  have h2:(XS.r (SS.mk 0 [1,7] false)).take [65,226] true=((XS.r ⟨0,[],false⟩),[⟨0,⟨1,0,o3⟩⟩]):=by
    show(XS.r ((SS.mk 0 [1,7] false).feed [65,226]).1.tick.1,((SS.mk 0 [1,7] false).feed [65,226]).2++((SS.mk 0 [1,7] false).feed [65,226]).1.tick.2)=_
    rw[e2,e3]
    rfl
  have g1:(XS.zero 0 0).run [Pc.mk [1,7] false]=(XS.r (SS.mk 0 [1,7] false),[]):=(fP _ _).trans h1
  have g2:(XS.r (SS.mk 0 [1,7] false)).run [Pc.mk [65,226] true]=((XS.r ⟨0,[],false⟩),[⟨0,⟨1,0,o3⟩⟩]):=(fP _ _).trans h2
  rw[show[Pc.mk [1,7] false,Pc.mk [65,226] true]=[Pc.mk [1,7] false]++[Pc.mk [65,226] true] from rfl,gB,g1]
  show(((XS.r (SS.mk 0 [1,7] false)).run [Pc.mk [65,226] true]).1,[]++((XS.r (SS.mk 0 [1,7] false)).run [Pc.mk [65,226] true]).2)=_
  rw[g2]
  rfl
theorem rD{w:World}:Calls Tryz.prog 24 #[] w (bg (.bool true) w):=by
 refine en 39 Tryz.func24 rfl<|sg<|Pl 1<|ng<|L0<|fk (m:=2) (e:=5) #[.int .u8 1,.int .u8 7] fun k E l n o=>?_
 have q:=ir l (xs:=[1,7]) (by as_aux_lemma=>kernel_rfl) (aF (by omega) (aF (by omega) cV)) (by(try simp only[List.length_cons,List.length_nil]);omega) n
 refine Pl 1<|L0<|fk (m:=2) (e:=5) #[.int .u8 65,.int .u8 226] fun r F s t u=>?_
 have y:=ir s (xs:=[65,226]) (by as_aux_lemma=>kernel_rfl) (aF (by omega) (aF (by omega) cV)) (by(try simp only[List.length_cons,List.length_nil]);omega) t
 refine Pl 1<|L0<|fk (m:=2) (e:=53) #[.slice (some ⟨k,0,none⟩) 2 2,.bool false,.slice (some ⟨r,0,none⟩) 2 2,.bool true] fun z G H A a=>?_
 have b:=aE u a
 have B:=tc (p:=(Pc.mk ([1,7]) false)) (p':=(Pc.mk ([65,226]) true)) A ((am q b (fun x hx=>ax) (fun _ _ h=>h))).rd ((am y a (fun x hx=>ax) (fun _ _ h=>h))).rd
 refine L0<|Oc (args:=#[.int .i64 0,.int .i64 0,.slice (some ⟨z,0,none⟩) 2 2])<|gH (cL tH (show 0=0∨0=1∨0=2 by decide) (show 0=0∨0=1 by decide) B (by decide) (by decide)) fun I J K c M N C=>Pl 5<|nt<|sq<|sg<|Pl 3<|nt<|c0<|bB<|sq<|?_
 refine go<|Pl 1<|tU (kP.elt (c).rd 0 (by decide) (Ev.bad 0)) fun d f O P Q R g i S j=>L0<|fq 25 1 0 g (by omega)<|Pl 1<|L0<|jx (p:=⟨d,f+0*25+0,none⟩) (v:=.int .i64 0) (dC i j 0 (by kernel_rfl) (by decide))<|Pl 3<|L1<|fq 25 1 0 g (by omega)<|Pl 3<|L1<|jx (p:=⟨d,f+0*25+1+2+0,none⟩) (v:=.int .u8 7) (dC i j 3 (by kernel_rfl) (by decide))<|Pl 8<|L1<|Oc<|gH (ly (L:=[⟨0,⟨1,0,o3⟩⟩]) (c).rd (by decide)) fun T U V W X Y D=>Pl 4<|nl<|?_
 refine tn<|rt<|rr (.bool true)<|?_
 exact⟨rfl,(aE o (aE b (aE C D)))⟩
open Go.RowKit
theorem lA{m m':Bool}{A B:Option Addr}{c d:Nat}{xs ys:List Int}{w:World}(h1:aM m w (.slice A xs.length c) xs)(h2:aM m' w (.slice B ys.length d) ys) :
    Calls Tryz.prog 33 #[.slice A xs.length c,.slice B ys.length d] w (bg (.bool (decide (xs=ys))) w):=by
 refine en 10 Tryz.func33 rfl<|sg<|Pl 1<|ng<|Pl 1<|L0<|gw (.string (strOfNums xs)) (bR (A:=A) (n:=xs.length) (c:=c) rfl (by kernel_rfl) Tryz.underlying27 Tryz.underlying5 Tryz.underlying9 h1)<|Pl 1<|L0<|gw (.string (strOfNums ys)) (bR (A:=B) (n:=ys.length) (c:=d) rfl (by kernel_rfl) Tryz.underlying27 Tryz.underlying5 Tryz.underlying9 h2)<|L0<|gw (.bool (decide (xs=ys))) (dL (a:=(strOfNums xs)) (b:=(strOfNums ys)) rfl (by kernel_rfl) (by kernel_rfl) (gc h1 h2))<|Pl 1<|nl<|?_
 refine tn<|rt<|rr (.bool (decide (xs=ys)))<|?_
 exact⟨rfl,(au.refl [] _)⟩
theorem iw{m m':Bool}{a b:Value}{xs ys:List Int}{w:World}(h1:aM m w a xs)(h2:aM m' w b ys) : Calls Tryz.prog 33 #[a,b] w (bg (.bool (decide (xs=ys))) w):=by
  obtain⟨A,c,rfl,_,_⟩:=h1.shape
  obtain⟨B,d,rfl,_,_⟩:=h2.shape
  exact lA h1 h2
open Go.RowKit
theorem ek{α:Type}{xs ys:List α}{k:Nat}(h:xs.take k=ys.take k)(h1:k=xs.length)(h2:xs.length=ys.length) : xs=ys:=by
  rw[List.take_of_length_le (by omega),List.take_of_length_le (by omega)] at h
  exact h
theorem it{m m':Bool}{A B:Option Addr}{c d:Nat}{xs ys:List Int}{w:World}(h1:dJ m w (.slice A xs.length c) xs)(h2:dJ m' w (.slice B ys.length d) ys) :
    Calls Tryz.prog 42 #[.slice A xs.length c,.slice B ys.length d] w (bg (.bool (decide (xs=ys))) w):=by
 have hz1:=aH.len h1
 have hz2:=aH.len h2
 refine en 26 Tryz.func42 rfl<|sg<|Pl 1<|nt<|sq<|sg<|Pl 5<|nt<|cb ((((xs.length:Nat) : Int)!=((ys.length:Nat) : Int))) (fun g=>?_) (fun g=>?_)
 have j:=ay g
 refine sg<|Pl 1<|nt<|rt<|tr<|rr (.bool false)<|?_
 have hs:decide (xs=ys)=false:=decide_eq_false (fun e=>by rw[e] at j;omega)
 rw[hs]
 exact⟨rfl,(au.refl [] _)⟩
 have j:=ag g
 refine bB<|sq<|sg<|Pl 1<|nt<|bk<|?_
 refine fR (fun x=>[(0,.slice A xs.length c),(1,.slice B ys.length d),(5,.int .i64 ((x:Nat) : Int))]) (fun(x:Nat) w'=>au [] w w'∧(xs.take x=ys.take x)∧(x≤xs.length)) (fun x=>xs.length-x) 0 ⟨au.refl _ _,(by(try dsimp only);simp),(by(try dsimp only);omega)⟩ ?_
 rintro k E ⟨b,p,q⟩
 refine fz [(0,.slice A xs.length c),(1,.slice B ys.length d),(5,.int .i64 ((k:Nat) : Int))] ?_
 have l:xs.take k=ys.take k:=p
 have F:k≤xs.length:=q
 refine sq<|sg<|Pl 4<|nt<|cb ((decide (((k:Nat) : Int)<((xs.length:Nat) : Int)))) (fun h=>?_) (fun h=>?_)
 have r:=of_decide_eq_true h
 refine bB<|sq<|bk<|sq<|?_
 refine fE (dJ.at_ (dJ.old h1 b) k (by omega)) fun s t u v G=>?_
 refine fE (dJ.at_ (dJ.old h2 b) k (by omega)) fun y z C D H=>Rg 9 (fun w'=>w'.cell? ⟨s,t+k,none⟩=some (.int .u16 (xs.getD k 0))∧w'.cell? ⟨y,z+k,none⟩=some (.int .u16 (ys.getD k 0))) fun I i=>be ⟨(uc i v),(uc i D)⟩ fun a=>Rt 0 a<|Rt 1 a<|lU 2 a xs.length k ((k:Nat) : Int) rfl u (by omega)<|Rl 3 a (fun _ hs=>hs.1)<|Rt 4 a<|Rt 5 a<|lU 6 a ys.length k ((k:Nat) : Int) rfl C (by omega)<|Rl 7 a (fun _ hs=>hs.2)<|Rt 8 a<|re<|tn<|?_
 have n:=aE b i
 refine cb (((xs.getD k 0)!=(ys.getD k 0))) (fun f=>?_) (fun f=>?_)
 have o:=ay f
 refine sg<|Pl 1<|nt<|rt<|br<|tr<|tr<|br<|tr<|rr (.bool false)<|?_
 have hs:decide (xs=ys)=false:=decide_eq_false (tf (d:=0) k (by simpa using f))
 rw[hs]
 exact⟨rfl,n⟩
 have o:=ag f
 exact sk<|bn<|tn<|go<|Pl 1<|L0<|Oi (((k:Nat) : Int)+1)<|Pl 1<|nl<|dZ (k+1) ⟨n,(oT (d:=0) (by omega) (by omega) l o),(by(try dsimp only);omega)⟩ (by omega)
 have r:=of_decide_eq_false h
 refine xt<|tx<|tx<|bx<|tn<|sg<|Pl 1<|nt<|rt<|rr (.bool true)<|?_
 have hs:decide (xs=ys)=true:=decide_eq_true (ek l (by omega) (by omega))
 rw[hs]
 exact⟨rfl,b⟩
theorem fQ{m m':Bool}{a b:Value}{xs ys:List Int}{w:World}(h1:dJ m w a xs)(h2:dJ m' w b ys) : Calls Tryz.prog 42 #[a,b] w (bg (.bool (decide (xs=ys))) w):=by
  obtain⟨A,c,rfl,_,_⟩:=h1.shape
  obtain⟨B,d,rfl,_,_⟩:=h2.shape
  exact it h1 h2
theorem ij{m m':Bool}{A B:Option Addr}{c d:Nat}{xs ys:List Bool}{w:World}(h1:iQ m w (.slice A xs.length c) xs)(h2:iQ m' w (.slice B ys.length d) ys) :
    Calls Tryz.prog 43 #[.slice A xs.length c,.slice B ys.length d] w (bg (.bool (decide (xs=ys))) w):=by
 have hz1:=aH.len h1
 have hz2:=aH.len h2
 refine en 26 Tryz.func43 rfl<|sg<|Pl 1<|nt<|sq<|sg<|Pl 5<|nt<|cb ((((xs.length:Nat) : Int)!=((ys.length:Nat) : Int))) (fun f=>?_) (fun f=>?_)
 have j:=ay f
 refine sg<|Pl 1<|nt<|rt<|tr<|rr (.bool false)<|?_
 have hs:decide (xs=ys)=false:=decide_eq_false (fun e=>by rw[e] at j;omega)
 rw[hs]
 exact⟨rfl,(au.refl [] _)⟩
 have j:=ag f
 refine bB<|sq<|sg<|Pl 1<|nt<|bk<|?_
 refine fR (fun x=>[(0,.slice A xs.length c),(1,.slice B ys.length d),(5,.int .i64 ((x:Nat) : Int))]) (fun(x:Nat) w'=>au [] w w'∧(xs.take x=ys.take x)∧(x≤xs.length)) (fun x=>xs.length-x) 0 ⟨au.refl _ _,(by(try dsimp only);simp),(by(try dsimp only);omega)⟩ ?_
 rintro k D ⟨b,o,p⟩
 refine fz [(0,.slice A xs.length c),(1,.slice B ys.length d),(5,.int .i64 ((k:Nat) : Int))] ?_
 have l:xs.take k=ys.take k:=o
 have E:k≤xs.length:=p
 refine sq<|sg<|Pl 4<|nt<|cb ((decide (((k:Nat) : Int)<((xs.length:Nat) : Int)))) (fun g=>?_) (fun g=>?_)
 have q:=of_decide_eq_true g
 refine bB<|sq<|bk<|sq<|?_
 refine sW (iQ.at_ (iQ.old h1 b) k (by omega)) fun r s t u=>?_
 refine sW (iQ.at_ (iQ.old h2 b) k (by omega)) fun v y z C=>Rg 9 (fun w'=>w'.cell? ⟨r,s+k,none⟩=some (.bool (xs.getD k false))∧w'.cell? ⟨v,y+k,none⟩=some (.bool (ys.getD k false))) fun F h=>be ⟨(uc h u),(uc h C)⟩ fun a=>Rt 0 a<|Rt 1 a<|lU 2 a xs.length k ((k:Nat) : Int) rfl t (by omega)<|Rl 3 a (fun _ hs=>hs.1)<|Rt 4 a<|Rt 5 a<|lU 6 a ys.length k ((k:Nat) : Int) rfl z (by omega)<|Rl 7 a (fun _ hs=>hs.2)<|Rt 8 a<|re<|tn<|?_
 have n:=aE b h
 refine cb (((xs.getD k false)!=(ys.getD k false))) (fun i=>?_) (fun i=>?_)
 refine sg<|Pl 1<|nt<|rt<|br<|tr<|tr<|br<|tr<|rr (.bool false)<|?_
 have hs:decide (xs=ys)=false:=decide_eq_false (tf (d:=false) k (by simpa using i))
 rw[hs]
 exact⟨rfl,n⟩
 exact sk<|bn<|tn<|go<|Pl 1<|L0<|Oi (((k:Nat) : Int)+1)<|Pl 1<|nl<|dZ (k+1) ⟨n,(oT (d:=false) (by omega) (by omega) l (by simpa using i)),(by(try dsimp only);omega)⟩ (by omega)
 have q:=of_decide_eq_false g
 refine xt<|tx<|tx<|bx<|tn<|sg<|Pl 1<|nt<|rt<|rr (.bool true)<|?_
 have hs:decide (xs=ys)=true:=decide_eq_true (ek l (by omega) (by omega))
 rw[hs]
 exact⟨rfl,b⟩
theorem j5{m m':Bool}{a b:Value}{xs ys:List Bool}{w:World}(h1:iQ m w a xs)(h2:iQ m' w b ys) : Calls Tryz.prog 43 #[a,b] w (bg (.bool (decide (xs=ys))) w):=by
  obtain⟨A,c,rfl,_,_⟩:=h1.shape
  obtain⟨B,d,rfl,_,_⟩:=h2.shape
  exact ij h1 h2
open Go.RowKit
theorem mb{α:Type}{xs ys:List α}{d:α}{k:Nat}(h:xs.take k=ys.take k)(hk:k<xs.length)(hl:xs.length=ys.length)(he:xs.getD k d=ys.getD k d) : xs.take (k+1)=ys.take (k+1):=by
  have hk2:k<ys.length:=by omega
  rw[List.take_succ_eq_append_getElem hk,List.take_succ_eq_append_getElem hk2,h]
  rw[List.getD_eq_getElem?_getD,List.getElem?_eq_getElem hk,List.getD_eq_getElem?_getD,List.getElem?_eq_getElem (by omega)] at he
  simp only[Option.getD_some] at he
  rw[he]
theorem sU{a b:dU}(h:((((!(decide (a.words=b.words)))||(a.file != b.file))||(a.record != b.record))||(a.count != b.count))=false) : a=b:=by
  cases a
  cases b
  simp at h
  simp[h]
theorem sT{a b:Obj}(h:((!(decide (a.value=b.value)))||(a.id != b.id))=false) : a=b:=by
  cases a
  cases b
  simp at h
  simp[h]
theorem qy{a b:Obj}(h:(!(decide (a.value=b.value)))=false)(h2:(a.id != b.id)=false) : a=b:=sT (by rw[h,h2];rfl)
theorem iU{A B:bf}{f:bf→bf→Bool}(h:f A B=true)(hf:∀ M,f M M=false) : decide (A=B)=false:=decide_eq_false fun e=>by rw[e,hf] at h;cases h
theorem qq{A B:bf}(h1:((((((((((((A.code != B.code)||(A.fail != B.fail))||(A.addr != B.addr))||(A.count != B.count))||(A.value != B.value))||(A.and_ != B.and_))||(A.or_ != B.or_))||(A.addr2 != B.addr2))||(A.sub != B.sub))||(A.status != B.status))||(A.events != B.events))||(A.messages != B.messages))=false)(h2:(((((A.mei != B.mei)||(A.kind != B.kind))||(A.level != B.level))||(A.more != B.more))||(A.next != B.next))=false)(h3:(((((!(decide (A.words=B.words)))||(!(decide (A.bits=B.bits))))||(!(decide (A.data=B.data))))||(((A.recs.length:Nat) : Int)!=((B.recs.length:Nat) : Int)))||(((A.objects.length:Nat) : Int)!=((B.objects.length:Nat) : Int)))=false)(hr:A.recs.length=B.recs.length→A.recs=B.recs)(ho:A.objects.length=B.objects.length→A.objects=B.objects) : A=B:=by
  cases A
  cases B
  simp only[Bool.or_eq_false_iff,bne_eq_false_iff_eq,Bool.not_eq_false',decide_eq_true_eq] at h1 h2 h3
  simp only at hr ho
  obtain⟨⟨⟨⟨⟨⟨⟨⟨⟨⟨⟨a1,a2⟩,a3⟩,a4⟩,a5⟩,a6⟩,a7⟩,a8⟩,a9⟩,a⟩,b⟩,c⟩:=h1
  obtain⟨⟨⟨⟨b1,b2⟩,b3⟩,b4⟩,b5⟩:=h2
  obtain⟨⟨⟨⟨d1,d2⟩,d3⟩,d4⟩,d5⟩:=h3
  have d4:=hr (by omega)
  have d5:=ho (by omega)
  subst a1 a2 a3 a4 a5 a6 a7 a8 a9 a b c b1 b2 b3 b4 b5 d1 d2 d3 d4 d5
  rfl
theorem nL{m m':Bool}{pc qc:Array Value}{A B:bf}{w:World}(ha:aU m w pc.toList A)(hb:aU m' w qc.toList B) :
    Calls Tryz.prog 22 #[.agg pc,.agg qc] w (bg (.bool (decide (A=B))) w):=by
 have pM:=ha
 obtain⟨pvw,pvb,pvd,pvr,pvo,ph0,phw,phb,phd,phr,pho,pR⟩:=ha
 obtain rfl:pc=(dH A pvw pvb pvd pvr pvo).toArray:=by apply Array.toList_inj.1;simpa using ph0
 clear ph0
 obtain⟨pw,pkw,rfl,_,_⟩:=phw.shape
 obtain⟨pb,pkb,rfl,_,_⟩:=phb.shape
 obtain⟨pd,pkd,rfl,_,_⟩:=phd.shape
 obtain⟨pr,pkr,rfl,_,_⟩:=phr.shape
 obtain⟨po,pko,rfl,_,_⟩:=pho.shape
 have qM:=hb
 obtain⟨qvw,qvb,qvd,qvr,qvo,qh0,qhw,qhb,qhd,qhr,qho,qR⟩:=hb
 obtain rfl:qc=(dH B qvw qvb qvd qvr qvo).toArray:=by apply Array.toList_inj.1;simpa using qh0
 clear qh0
 obtain⟨qw,qkw,rfl,_,_⟩:=qhw.shape
 obtain⟨qb,qkb,rfl,_,_⟩:=qhb.shape
 obtain⟨qd,qkd,rfl,_,_⟩:=qhd.shape
 obtain⟨qr,qkr,rfl,_,_⟩:=qhr.shape
 obtain⟨qo,qko,rfl,_,_⟩:=qho.shape
 have hz1:=aH.len phr
 have hz2:=aH.len pho
 refine en 254 Tryz.func22 rfl<|sg<|L0<|cW (mG A.code A.fail A.addr A.count A.value A.and_ A.or_ A.addr2 A.sub A.status A.events A.messages (.slice pw A.words.length pkw) (.slice pb A.bits.length pkb) (.slice pd A.data.length pkd) (.slice pr A.recs.length pkr) A.mei A.kind A.level A.more A.next (.slice po A.objects.length pko)) fun i dL dM cf cg=>L0<|cW (mG B.code B.fail B.addr B.count B.value B.and_ B.or_ B.addr2 B.sub B.status B.events B.messages (.slice qw B.words.length qkw) (.slice qb B.bits.length qkb) (.slice qd B.data.length qkd) (.slice qr B.recs.length qkr) B.mei B.kind B.level B.more B.next (.slice qo B.objects.length qko)) fun l dN dO b aA=>Pl 1<|nt<|sq<|sg<|Pl 1<|?_
 have c:=ub aA cf
 refine L0<|aR c 0<|Pl 1<|L0<|aR b 0<|Pl 2<|cu 6 [19] 25 (((A.code != B.code)||(A.fail != B.fail))) (fun K aB=>?_) ?_
 refine bl 19 ((A.code != B.code)) (fun q=>?_) (fun q=>?_)
 have ch:=ay q
 exact Pl 6<|ce aB true (by rw[q];rfl)
 have ch:=ag q
 exact Pl 1<|L1<|aR c 1<|Pl 1<|L1<|aR b 1<|Pl 2<|ce aB (A.fail != B.fail) (by rw[q];rfl)
 refine Pl 1<|cu 6 [26] 32 ((((A.code != B.code)||(A.fail != B.fail))||(A.addr != B.addr))) (fun K aD=>?_) ?_
 refine bl 26 (((A.code != B.code)||(A.fail != B.fail))) (fun r=>?_) (fun r=>?_)
 exact Pl 6<|ce aD true (by rw[r];rfl)
 have ci:=(aC r).1
 have cj:=(aC r).2
 have dP:=ag ci
 have dQ:=ag cj
 exact Pl 1<|L1<|aR c 2<|Pl 1<|L1<|aR b 2<|Pl 2<|ce aD (A.addr != B.addr) (by rw[r];rfl)
 refine Pl 1<|cu 6 [33] 39 (((((A.code != B.code)||(A.fail != B.fail))||(A.addr != B.addr))||(A.count != B.count))) (fun K aF=>?_) ?_
 refine bl 33 ((((A.code != B.code)||(A.fail != B.fail))||(A.addr != B.addr))) (fun s=>?_) (fun s=>?_)
 exact Pl 6<|ce aF true (by rw[s];rfl)
 have aG:=(aC s).1
 have ck:=(aC s).2
 have cl:=(aC aG).1
 have cm:=(aC aG).2
 have q25aap:=ag cl
 have q25abp:=ag cm
 have dR:=ag ck
 exact Pl 1<|L1<|aR c 3<|Pl 1<|L1<|aR b 3<|Pl 2<|ce aF (A.count != B.count) (by rw[s];rfl)
 refine Pl 1<|cu 6 [40] 46 ((((((A.code != B.code)||(A.fail != B.fail))||(A.addr != B.addr))||(A.count != B.count))||(A.value != B.value))) (fun K aI=>?_) ?_
 refine bl 40 (((((A.code != B.code)||(A.fail != B.fail))||(A.addr != B.addr))||(A.count != B.count))) (fun t=>?_) (fun t=>?_)
 exact Pl 6<|ce aI true (by rw[t];rfl)
 have aJ:=(aC t).1
 have cn:=(aC t).2
 have aK:=(aC aJ).1
 have co:=(aC aJ).2
 have q27aaa:=(aC aK).1
 have q27aab:=(aC aK).2
 have q27aaap:=ag q27aaa
 have q27aabp:=ag q27aab
 have q27abp:=ag co
 have dS:=ag cn
 exact Pl 1<|L1<|aR c 4<|Pl 1<|L1<|aR b 4<|Pl 2<|ce aI (A.value != B.value) (by rw[t];rfl)
 refine Pl 1<|cu 6 [47] 53 (((((((A.code != B.code)||(A.fail != B.fail))||(A.addr != B.addr))||(A.count != B.count))||(A.value != B.value))||(A.and_ != B.and_))) (fun K aL=>?_) ?_
 refine bl 47 ((((((A.code != B.code)||(A.fail != B.fail))||(A.addr != B.addr))||(A.count != B.count))||(A.value != B.value))) (fun u=>?_) (fun u=>?_)
 exact Pl 6<|ce aL true (by rw[u];rfl)
 have aN:=(aC u).1
 have cp:=(aC u).2
 have aO:=(aC aN).1
 have cq:=(aC aN).2
 have q29aaa:=(aC aO).1
 have q29aab:=(aC aO).2
 have q29aaaa:=(aC q29aaa).1
 have q29aaab:=(aC q29aaa).2
 have q29aaaap:=ag q29aaaa
 have q29aaabp:=ag q29aaab
 have q29aabp:=ag q29aab
 have q29abp:=ag cq
 have dT:=ag cp
 exact Pl 1<|L1<|aR c 5<|Pl 1<|L1<|aR b 5<|Pl 2<|ce aL (A.and_ != B.and_) (by rw[u];rfl)
 refine Pl 1<|cu 6 [54] 60 ((((((((A.code != B.code)||(A.fail != B.fail))||(A.addr != B.addr))||(A.count != B.count))||(A.value != B.value))||(A.and_ != B.and_))||(A.or_ != B.or_))) (fun K aP=>?_) ?_
 refine bl 54 (((((((A.code != B.code)||(A.fail != B.fail))||(A.addr != B.addr))||(A.count != B.count))||(A.value != B.value))||(A.and_ != B.and_))) (fun v=>?_) (fun v=>?_)
 exact Pl 6<|ce aP true (by rw[v];rfl)
 have aQ:=(aC v).1
 have cr:=(aC v).2
 have aS:=(aC aQ).1
 have cs:=(aC aQ).2
 have q31aaa:=(aC aS).1
 have q31aab:=(aC aS).2
 have q31aaaa:=(aC q31aaa).1
 have q31aaab:=(aC q31aaa).2
 have q31aaaaa:=(aC q31aaaa).1
 have q31aaaab:=(aC q31aaaa).2
 have q31aaaaap:=ag q31aaaaa
 have q31aaaabp:=ag q31aaaab
 have q31aaabp:=ag q31aaab
 have q31aabp:=ag q31aab
 have q31abp:=ag cs
 have dU:=ag cr
 exact Pl 1<|L1<|aR c 6<|Pl 1<|L1<|aR b 6<|Pl 2<|ce aP (A.or_ != B.or_) (by rw[v];rfl)
 refine Pl 1<|cu 6 [61] 67 (((((((((A.code != B.code)||(A.fail != B.fail))||(A.addr != B.addr))||(A.count != B.count))||(A.value != B.value))||(A.and_ != B.and_))||(A.or_ != B.or_))||(A.addr2 != B.addr2))) (fun K aT=>?_) ?_
 refine bl 61 ((((((((A.code != B.code)||(A.fail != B.fail))||(A.addr != B.addr))||(A.count != B.count))||(A.value != B.value))||(A.and_ != B.and_))||(A.or_ != B.or_))) (fun z=>?_) (fun z=>?_)
 exact Pl 6<|ce aT true (by rw[z];rfl)
 have aV:=(aC z).1
 have ct:=(aC z).2
 have aW:=(aC aV).1
 have cv:=(aC aV).2
 have q33aaa:=(aC aW).1
 have q33aab:=(aC aW).2
 have q33aaaa:=(aC q33aaa).1
 have q33aaab:=(aC q33aaa).2
 have q33aaaaa:=(aC q33aaaa).1
 have q33aaaab:=(aC q33aaaa).2
 have q33aaaaaa:=(aC q33aaaaa).1
 have q33aaaaab:=(aC q33aaaaa).2
 have q33aaaaaap:=ag q33aaaaaa
 have q33aaaaabp:=ag q33aaaaab
 have q33aaaabp:=ag q33aaaab
 have q33aaabp:=ag q33aaab
 have q33aabp:=ag q33aab
 have q33abp:=ag cv
 have dV:=ag ct
 exact Pl 1<|L1<|aR c 7<|Pl 1<|L1<|aR b 7<|Pl 2<|ce aT (A.addr2 != B.addr2) (by rw[z];rfl)
 refine Pl 1<|cu 6 [68] 74 ((((((((((A.code != B.code)||(A.fail != B.fail))||(A.addr != B.addr))||(A.count != B.count))||(A.value != B.value))||(A.and_ != B.and_))||(A.or_ != B.or_))||(A.addr2 != B.addr2))||(A.sub != B.sub))) (fun K aX=>?_) ?_
 refine bl 68 (((((((((A.code != B.code)||(A.fail != B.fail))||(A.addr != B.addr))||(A.count != B.count))||(A.value != B.value))||(A.and_ != B.and_))||(A.or_ != B.or_))||(A.addr2 != B.addr2))) (fun C=>?_) (fun C=>?_)
 exact Pl 6<|ce aX true (by rw[C];rfl)
 have aY:=(aC C).1
 have cw:=(aC C).2
 have aZ:=(aC aY).1
 have cx:=(aC aY).2
 have q35aaa:=(aC aZ).1
 have q35aab:=(aC aZ).2
 have q35aaaa:=(aC q35aaa).1
 have q35aaab:=(aC q35aaa).2
 have q35aaaaa:=(aC q35aaaa).1
 have q35aaaab:=(aC q35aaaa).2
 have q35aaaaaa:=(aC q35aaaaa).1
 have q35aaaaab:=(aC q35aaaaa).2
 have q35aaaaaaa:=(aC q35aaaaaa).1
 have q35aaaaaab:=(aC q35aaaaaa).2
 have q35aaaaaaap:=ag q35aaaaaaa
 have q35aaaaaabp:=ag q35aaaaaab
 have q35aaaaabp:=ag q35aaaaab
 have q35aaaabp:=ag q35aaaab
 have q35aaabp:=ag q35aaab
 have q35aabp:=ag q35aab
 have q35abp:=ag cx
 have dW:=ag cw
 exact Pl 1<|L1<|aR c 8<|Pl 1<|L1<|aR b 8<|Pl 2<|ce aX (A.sub != B.sub) (by rw[C];rfl)
 refine Pl 1<|cu 6 [75] 81 (((((((((((A.code != B.code)||(A.fail != B.fail))||(A.addr != B.addr))||(A.count != B.count))||(A.value != B.value))||(A.and_ != B.and_))||(A.or_ != B.or_))||(A.addr2 != B.addr2))||(A.sub != B.sub))||(A.status != B.status))) (fun K b0=>?_) ?_
 refine bl 75 ((((((((((A.code != B.code)||(A.fail != B.fail))||(A.addr != B.addr))||(A.count != B.count))||(A.value != B.value))||(A.and_ != B.and_))||(A.or_ != B.or_))||(A.addr2 != B.addr2))||(A.sub != B.sub))) (fun D=>?_) (fun D=>?_)
 exact Pl 6<|ce b0 true (by rw[D];rfl)
 have b1:=(aC D).1
 have cy:=(aC D).2
 have b2:=(aC b1).1
 have cz:=(aC b1).2
 have q37aaa:=(aC b2).1
 have q37aab:=(aC b2).2
 have q37aaaa:=(aC q37aaa).1
 have q37aaab:=(aC q37aaa).2
 have q37aaaaa:=(aC q37aaaa).1
 have q37aaaab:=(aC q37aaaa).2
 have q37aaaaaa:=(aC q37aaaaa).1
 have q37aaaaab:=(aC q37aaaaa).2
 have q37aaaaaaa:=(aC q37aaaaaa).1
 have q37aaaaaab:=(aC q37aaaaaa).2
 have q37aaaaaaaa:=(aC q37aaaaaaa).1
 have q37aaaaaaab:=(aC q37aaaaaaa).2
 have q37aaaaaaaap:=ag q37aaaaaaaa
 have q37aaaaaaabp:=ag q37aaaaaaab
 have q37aaaaaabp:=ag q37aaaaaab
 have q37aaaaabp:=ag q37aaaaab
 have q37aaaabp:=ag q37aaaab
 have q37aaabp:=ag q37aaab
 have q37aabp:=ag q37aab
 have q37abp:=ag cz
 have dX:=ag cy
 exact Pl 1<|L1<|aR c 9<|Pl 1<|L1<|aR b 9<|Pl 2<|ce b0 (A.status != B.status) (by rw[D];rfl)
 refine Pl 1<|cu 6 [82] 88 ((((((((((((A.code != B.code)||(A.fail != B.fail))||(A.addr != B.addr))||(A.count != B.count))||(A.value != B.value))||(A.and_ != B.and_))||(A.or_ != B.or_))||(A.addr2 != B.addr2))||(A.sub != B.sub))||(A.status != B.status))||(A.events != B.events))) (fun K b3=>?_) ?_
 refine bl 82 (((((((((((A.code != B.code)||(A.fail != B.fail))||(A.addr != B.addr))||(A.count != B.count))||(A.value != B.value))||(A.and_ != B.and_))||(A.or_ != B.or_))||(A.addr2 != B.addr2))||(A.sub != B.sub))||(A.status != B.status))) (fun E=>?_) (fun E=>?_)
 exact Pl 6<|ce b3 true (by rw[E];rfl)
 have b4:=(aC E).1
 have cA:=(aC E).2
 have b5:=(aC b4).1
 have cB:=(aC b4).2
 have q39aaa:=(aC b5).1
 have q39aab:=(aC b5).2
 have q39aaaa:=(aC q39aaa).1
 have q39aaab:=(aC q39aaa).2
 have q39aaaaa:=(aC q39aaaa).1
 have q39aaaab:=(aC q39aaaa).2
 have q39aaaaaa:=(aC q39aaaaa).1
 have q39aaaaab:=(aC q39aaaaa).2
 have q39aaaaaaa:=(aC q39aaaaaa).1
 have q39aaaaaab:=(aC q39aaaaaa).2
 have q39aaaaaaaa:=(aC q39aaaaaaa).1
 have q39aaaaaaab:=(aC q39aaaaaaa).2
 have q39aaaaaaaaa:=(aC q39aaaaaaaa).1
 have q39aaaaaaaab:=(aC q39aaaaaaaa).2
 have q39aaaaaaaaap:=ag q39aaaaaaaaa
 have q39aaaaaaaabp:=ag q39aaaaaaaab
 have q39aaaaaaabp:=ag q39aaaaaaab
 have q39aaaaaabp:=ag q39aaaaaab
 have q39aaaaabp:=ag q39aaaaab
 have q39aaaabp:=ag q39aaaab
 have q39aaabp:=ag q39aaab
 have q39aabp:=ag q39aab
 have q39abp:=ag cB
 have dY:=ag cA
 exact Pl 1<|L1<|aR c 10<|Pl 1<|L1<|aR b 10<|Pl 2<|ce b3 (A.events != B.events) (by rw[E];rfl)
 refine Pl 1<|cu 6 [89] 95 (((((((((((((A.code != B.code)||(A.fail != B.fail))||(A.addr != B.addr))||(A.count != B.count))||(A.value != B.value))||(A.and_ != B.and_))||(A.or_ != B.or_))||(A.addr2 != B.addr2))||(A.sub != B.sub))||(A.status != B.status))||(A.events != B.events))||(A.messages != B.messages))) (fun K b7=>?_) ?_
 refine bl 89 ((((((((((((A.code != B.code)||(A.fail != B.fail))||(A.addr != B.addr))||(A.count != B.count))||(A.value != B.value))||(A.and_ != B.and_))||(A.or_ != B.or_))||(A.addr2 != B.addr2))||(A.sub != B.sub))||(A.status != B.status))||(A.events != B.events))) (fun F=>?_) (fun F=>?_)
 exact Pl 6<|ce b7 true (by rw[F];rfl)
 have b8:=(aC F).1
 have cC:=(aC F).2
 have b9:=(aC b8).1
 have cD:=(aC b8).2
 have q41aaa:=(aC b9).1
 have q41aab:=(aC b9).2
 have q41aaaa:=(aC q41aaa).1
 have q41aaab:=(aC q41aaa).2
 have q41aaaaa:=(aC q41aaaa).1
 have q41aaaab:=(aC q41aaaa).2
 have q41aaaaaa:=(aC q41aaaaa).1
 have q41aaaaab:=(aC q41aaaaa).2
 have q41aaaaaaa:=(aC q41aaaaaa).1
 have q41aaaaaab:=(aC q41aaaaaa).2
 have q41aaaaaaaa:=(aC q41aaaaaaa).1
 have q41aaaaaaab:=(aC q41aaaaaaa).2
 have q41aaaaaaaaa:=(aC q41aaaaaaaa).1
 have q41aaaaaaaab:=(aC q41aaaaaaaa).2
 have q41aaaaaaaaaa:=(aC q41aaaaaaaaa).1
 have q41aaaaaaaaab:=(aC q41aaaaaaaaa).2
 have q41aaaaaaaaaap:=ag q41aaaaaaaaaa
 have q41aaaaaaaaabp:=ag q41aaaaaaaaab
 have q41aaaaaaaabp:=ag q41aaaaaaaab
 have q41aaaaaaabp:=ag q41aaaaaaab
 have q41aaaaaabp:=ag q41aaaaaab
 have q41aaaaabp:=ag q41aaaaab
 have q41aaaabp:=ag q41aaaab
 have q41aaabp:=ag q41aaab
 have q41aabp:=ag q41aab
 have q41abp:=ag cD
 have e0:=ag cC
 exact Pl 1<|L1<|aR c 11<|Pl 1<|L1<|aR b 11<|Pl 2<|ce b7 (A.messages != B.messages) (by rw[F];rfl)
 refine nt<|?_
 have G:=aE cg aA
 refine cb (((((((((((((A.code != B.code)||(A.fail != B.fail))||(A.addr != B.addr))||(A.count != B.count))||(A.value != B.value))||(A.and_ != B.and_))||(A.or_ != B.or_))||(A.addr2 != B.addr2))||(A.sub != B.sub))||(A.status != B.status))||(A.events != B.events))||(A.messages != B.messages))) (fun H=>?_) (fun H=>?_)
 refine sg<|Pl 1<|nt<|rt<|tr<|rr (.bool false)<|?_
 have hs:decide (A=B)=false:=iU (f:=fun x y=>((((((((((((x.code != y.code)||(x.fail != y.fail))||(x.addr != y.addr))||(x.count != y.count))||(x.value != y.value))||(x.and_ != y.and_))||(x.or_ != y.or_))||(x.addr2 != y.addr2))||(x.sub != y.sub))||(x.status != y.status))||(x.events != y.events))||(x.messages != y.messages))) H (fun M=>by simp)
 rw[hs]
 exact⟨rfl,G⟩
 have ba:=(aC H).1
 have cE:=(aC H).2
 have bb:=(aC ba).1
 have cF:=(aC ba).2
 have q44aaa:=(aC bb).1
 have q44aab:=(aC bb).2
 have q44aaaa:=(aC q44aaa).1
 have q44aaab:=(aC q44aaa).2
 have q44aaaaa:=(aC q44aaaa).1
 have q44aaaab:=(aC q44aaaa).2
 have q44aaaaaa:=(aC q44aaaaa).1
 have q44aaaaab:=(aC q44aaaaa).2
 have q44aaaaaaa:=(aC q44aaaaaa).1
 have q44aaaaaab:=(aC q44aaaaaa).2
 have q44aaaaaaaa:=(aC q44aaaaaaa).1
 have q44aaaaaaab:=(aC q44aaaaaaa).2
 have q44aaaaaaaaa:=(aC q44aaaaaaaa).1
 have q44aaaaaaaab:=(aC q44aaaaaaaa).2
 have q44aaaaaaaaaa:=(aC q44aaaaaaaaa).1
 have q44aaaaaaaaab:=(aC q44aaaaaaaaa).2
 have q44aaaaaaaaaaa:=(aC q44aaaaaaaaaa).1
 have q44aaaaaaaaaab:=(aC q44aaaaaaaaaa).2
 have q44aaaaaaaaaaap:=ag q44aaaaaaaaaaa
 have q44aaaaaaaaaabp:=ag q44aaaaaaaaaab
 have q44aaaaaaaaabp:=ag q44aaaaaaaaab
 have q44aaaaaaaabp:=ag q44aaaaaaaab
 have q44aaaaaaabp:=ag q44aaaaaaab
 have q44aaaaaabp:=ag q44aaaaaab
 have q44aaaaabp:=ag q44aaaaab
 have q44aaaabp:=ag q44aaaab
 have q44aaabp:=ag q44aaab
 have q44aabp:=ag q44aab
 have q44abp:=ag cF
 have e1:=ag cE
 refine bB<|sq<|sg<|Pl 1<|L0<|aR c 16<|Pl 1<|L0<|aR b 16<|Pl 2<|cu 6 [101] 107 (((A.mei != B.mei)||(A.kind != B.kind))) (fun K bc=>?_) ?_
 refine bl 101 ((A.mei != B.mei)) (fun I=>?_) (fun I=>?_)
 have cG:=ay I
 exact Pl 6<|ce bc true (by rw[I];rfl)
 have cG:=ag I
 exact Pl 1<|L1<|aR c 17<|Pl 1<|L1<|aR b 17<|Pl 2<|ce bc (A.kind != B.kind) (by rw[I];rfl)
 refine Pl 1<|cu 6 [108] 114 ((((A.mei != B.mei)||(A.kind != B.kind))||(A.level != B.level))) (fun K bd=>?_) ?_
 refine bl 108 (((A.mei != B.mei)||(A.kind != B.kind))) (fun J=>?_) (fun J=>?_)
 exact Pl 6<|ce bd true (by rw[J];rfl)
 have cH:=(aC J).1
 have cI:=(aC J).2
 have e2:=ag cH
 have e3:=ag cI
 exact Pl 1<|L1<|aR c 18<|Pl 1<|L1<|aR b 18<|Pl 2<|ce bd (A.level != B.level) (by rw[J];rfl)
 refine Pl 1<|cu 6 [115] 121 (((((A.mei != B.mei)||(A.kind != B.kind))||(A.level != B.level))||(A.more != B.more))) (fun K bh=>?_) ?_
 refine bl 115 ((((A.mei != B.mei)||(A.kind != B.kind))||(A.level != B.level))) (fun L=>?_) (fun L=>?_)
 exact Pl 6<|ce bh true (by rw[L];rfl)
 have bi:=(aC L).1
 have cJ:=(aC L).2
 have cK:=(aC bi).1
 have cL:=(aC bi).2
 have q49aap:=ag cK
 have q49abp:=ag cL
 have e4:=ag cJ
 exact Pl 1<|L1<|aR c 19<|Pl 1<|L1<|aR b 19<|Pl 2<|ce bh (A.more != B.more) (by rw[L];rfl)
 refine Pl 1<|cu 6 [122] 128 ((((((A.mei != B.mei)||(A.kind != B.kind))||(A.level != B.level))||(A.more != B.more))||(A.next != B.next))) (fun K bj=>?_) ?_
 refine bl 122 (((((A.mei != B.mei)||(A.kind != B.kind))||(A.level != B.level))||(A.more != B.more))) (fun N=>?_) (fun N=>?_)
 exact Pl 6<|ce bj true (by rw[N];rfl)
 have bm:=(aC N).1
 have cM:=(aC N).2
 have bo:=(aC bm).1
 have cN:=(aC bm).2
 have q51aaa:=(aC bo).1
 have q51aab:=(aC bo).2
 have q51aaap:=ag q51aaa
 have q51aabp:=ag q51aab
 have q51abp:=ag cN
 have e5:=ag cM
 exact Pl 1<|L1<|aR c 20<|Pl 1<|L1<|aR b 20<|Pl 2<|ce bj (A.next != B.next) (by rw[N];rfl)
 refine nt<|cb ((((((A.mei != B.mei)||(A.kind != B.kind))||(A.level != B.level))||(A.more != B.more))||(A.next != B.next))) (fun O=>?_) (fun O=>?_)
 refine sg<|Pl 1<|nt<|rt<|tr<|rr (.bool false)<|?_
 have hs:decide (A=B)=false:=iU (f:=fun x y=>(((((x.mei != y.mei)||(x.kind != y.kind))||(x.level != y.level))||(x.more != y.more))||(x.next != y.next))) O (fun M=>by simp)
 rw[hs]
 exact⟨rfl,G⟩
 have bp:=(aC O).1
 have cO:=(aC O).2
 have bq:=(aC bp).1
 have cP:=(aC bp).2
 have q53aaa:=(aC bq).1
 have q53aab:=(aC bq).2
 have q53aaaa:=(aC q53aaa).1
 have q53aaab:=(aC q53aaa).2
 have q53aaaap:=ag q53aaaa
 have q53aaabp:=ag q53aaab
 have q53aabp:=ag q53aab
 have q53abp:=ag cP
 have e6:=ag cO
 refine bB<|sg<|Pl 1<|L0<|aR c 12<|Pl 1<|L0<|aR b 12<|?_
 refine L0<|Oc<|m1 (fQ (dJ.old phw G) (dJ.old qhw G)) fun e7 aa=>Pl 1<|ng<|Pl 1<|?_
 have bs:=ub aa c
 refine L0<|aR bs 13<|Pl 1<|?_
 have bt:=ub aa b
 refine L0<|aR bt 13<|?_
 have ab:=aE G aa
 refine L0<|Oc<|m1 (j5 (iQ.old phb ab) (iQ.old qhb ab)) fun e8 ac=>Pl 1<|ng<|Pl 1<|?_
 have a2:=ub ac bs
 refine L0<|aR a2 14<|Pl 1<|?_
 have P:=ub ac bt
 refine L0<|aR P 14<|?_
 have ad:=aE ab ac
 refine L0<|Oc<|m1 (iw (aM.old phd ad) (aM.old qhd ad)) fun cQ n=>Pl 1<|nt<|sq<|sg<|Pl 3<|cu 3 [146] 149 (((!(decide (A.words=B.words)))||(!(decide (A.bits=B.bits))))) (fun K bu=>?_) ?_
 refine bl 146 ((!(decide (A.words=B.words)))) (fun Q=>?_) (fun Q=>?_)
 have ae:(decide (A.words=B.words))=false:=by simpa using Q
 have cR:=of_decide_eq_false ae
 exact Pl 3<|ce bu true (by rw[Q];rfl)
 have ae:(decide (A.words=B.words))=true:=by simpa using Q
 have cR:=of_decide_eq_true ae
 exact Pl 3<|ce bu (!(decide (A.bits=B.bits))) (by rw[Q];rfl)
 refine Pl 1<|cu 3 [150] 153 ((((!(decide (A.words=B.words)))||(!(decide (A.bits=B.bits))))||(!(decide (A.data=B.data))))) (fun K bv=>?_) ?_
 refine bl 150 (((!(decide (A.words=B.words)))||(!(decide (A.bits=B.bits))))) (fun R=>?_) (fun R=>?_)
 exact Pl 3<|ce bv true (by rw[R];rfl)
 have cS:=(aC R).1
 have cT:=(aC R).2
 have cU:(decide (A.words=B.words))=true:=by simpa using cS
 have q74anp:=of_decide_eq_true cU
 have cV:(decide (A.bits=B.bits))=true:=by simpa using cT
 have q74bnp:=of_decide_eq_true cV
 exact Pl 3<|ce bv (!(decide (A.data=B.data))) (by rw[R];rfl)
 refine Pl 1<|cu 8 [154] 162 (((((!(decide (A.words=B.words)))||(!(decide (A.bits=B.bits))))||(!(decide (A.data=B.data))))||(((A.recs.length:Nat) : Int)!=((B.recs.length:Nat) : Int)))) (fun K bw=>?_) ?_
 refine bl 154 ((((!(decide (A.words=B.words)))||(!(decide (A.bits=B.bits))))||(!(decide (A.data=B.data))))) (fun S=>?_) (fun S=>?_)
 exact Pl 8<|ce bw true (by rw[S];rfl)
 have bA:=(aC S).1
 have cX:=(aC S).2
 have cY:=(aC bA).1
 have cZ:=(aC bA).2
 have q76aan:(decide (A.words=B.words))=true:=by simpa using cY
 have q76aanp:=of_decide_eq_true q76aan
 have q76abn:(decide (A.bits=B.bits))=true:=by simpa using cZ
 have q76abnp:=of_decide_eq_true q76abn
 have d0:(decide (A.data=B.data))=true:=by simpa using cX
 have q76bnp:=of_decide_eq_true d0
 refine Pl 1<|?_
 refine L1<|aR (ub n a2) 15<|Pl 2<|?_
 exact L1<|aR (ub n P) 15<|Pl 3<|ce bw (((A.recs.length:Nat) : Int)!=((B.recs.length:Nat) : Int)) (by rw[S];rfl)
 refine Pl 1<|cu 8 [163] 171 ((((((!(decide (A.words=B.words)))||(!(decide (A.bits=B.bits))))||(!(decide (A.data=B.data))))||(((A.recs.length:Nat) : Int)!=((B.recs.length:Nat) : Int)))||(((A.objects.length:Nat) : Int)!=((B.objects.length:Nat) : Int)))) (fun K bC=>?_) ?_
 refine bl 163 (((((!(decide (A.words=B.words)))||(!(decide (A.bits=B.bits))))||(!(decide (A.data=B.data))))||(((A.recs.length:Nat) : Int)!=((B.recs.length:Nat) : Int)))) (fun T=>?_) (fun T=>?_)
 exact Pl 8<|ce bC true (by rw[T];rfl)
 have bD:=(aC T).1
 have d1:=(aC T).2
 have bE:=(aC bD).1
 have d2:=(aC bD).2
 have q80aaa:=(aC bE).1
 have q80aab:=(aC bE).2
 have q80aaan:(decide (A.words=B.words))=true:=by simpa using q80aaa
 have q80aaanp:=of_decide_eq_true q80aaan
 have q80aabn:(decide (A.bits=B.bits))=true:=by simpa using q80aab
 have q80aabnp:=of_decide_eq_true q80aabn
 have q80abn:(decide (A.data=B.data))=true:=by simpa using d2
 have q80abnp:=of_decide_eq_true q80abn
 have e9:=ag d1
 refine Pl 1<|?_
 refine L1<|aR (ub n a2) 21<|Pl 2<|?_
 exact L1<|aR (ub n P) 21<|Pl 3<|ce bC (((A.objects.length:Nat) : Int)!=((B.objects.length:Nat) : Int)) (by rw[T];rfl)
 refine nt<|?_
 have bF:=aE ad n
 refine cb ((((((!(decide (A.words=B.words)))||(!(decide (A.bits=B.bits))))||(!(decide (A.data=B.data))))||(((A.recs.length:Nat) : Int)!=((B.recs.length:Nat) : Int)))||(((A.objects.length:Nat) : Int)!=((B.objects.length:Nat) : Int)))) (fun U=>?_) (fun U=>?_)
 refine sg<|Pl 1<|nt<|rt<|tr<|rr (.bool false)<|?_
 have hs:decide (A=B)=false:=iU (f:=fun x y=>(((((!(decide (x.words=y.words)))||(!(decide (x.bits=y.bits))))||(!(decide (x.data=y.data))))||(((x.recs.length:Nat) : Int)!=((y.recs.length:Nat) : Int)))||(((x.objects.length:Nat) : Int)!=((y.objects.length:Nat) : Int)))) U (fun M=>by simp)
 rw[hs]
 exact⟨rfl,bF⟩
 have bG:=(aC U).1
 have d3:=(aC U).2
 have bH:=(aC bG).1
 have d4:=(aC bG).2
 have q85aaa:=(aC bH).1
 have q85aab:=(aC bH).2
 have q85aaaa:=(aC q85aaa).1
 have q85aaab:=(aC q85aaa).2
 have q85aaaan:(decide (A.words=B.words))=true:=by simpa using q85aaaa
 have q85aaaanp:=of_decide_eq_true q85aaaan
 have q85aaabn:(decide (A.bits=B.bits))=true:=by simpa using q85aaab
 have q85aaabnp:=of_decide_eq_true q85aaabn
 have q85aabn:(decide (A.data=B.data))=true:=by simpa using q85aab
 have q85aabnp:=of_decide_eq_true q85aabn
 have q85abp:=ag d4
 have ea:=ag d3
 refine bB<|sq<|sg<|Pl 1<|nt<|bk<|?_
 refine fR (fun x=>[(2,.pointer (some ⟨i,0,none⟩)),(3,.pointer (some ⟨l,0,none⟩)),(8,.int .i64 ((x:Nat) : Int))]) (fun(x:Nat) w'=>au [] cQ w'∧(A.recs.take x=B.recs.take x)∧(x≤A.recs.length)) (fun x=>A.recs.length-x) 0 ⟨au.refl _ _,(by(try dsimp only);simp),(by(try dsimp only);omega)⟩ ?_
 rintro j d5 ⟨a3,d6,d7⟩
 refine fz [(2,.pointer (some ⟨i,0,none⟩)),(3,.pointer (some ⟨l,0,none⟩)),(8,.int .i64 ((j:Nat) : Int))] ?_
 have bI:A.recs.take j=B.recs.take j:=d6
 have eb:j≤A.recs.length:=d7
 refine sq<|sg<|Pl 2<|?_
 have a4:=aE n a3
 have af:=ub a4 a2
 refine L0<|aR af 15<|Pl 2<|nt<|?_
 have a5:=aE bF a3
 refine cb ((decide (((j:Nat) : Int)<((A.recs.length:Nat) : Int)))) (fun ah=>?_) (fun ah=>?_)
 have d8:=of_decide_eq_true ah
 refine bB<|sq<|bk<|sg<|Pl 1<|L0<|aR af 15<|Pl 1<|jA (oq.elt phr j (by omega)) fun ec ed ee ef eg bJ bK d9 da db eh dc=>L0<|fq 4 A.recs.length j d9 (by omega)<|?_
 refine L0<|tX [.int .u16 ((A.recs.getD j ⟨0,0,0,[]⟩).file),.int .u16 ((A.recs.getD j ⟨0,0,0,[]⟩).record),.int .u16 ((A.recs.getD j ⟨0,0,0,[]⟩).count),.slice bJ ((A.recs.getD j ⟨0,0,0,[]⟩).words.length) bK] (ub a5 da) dc<|L0<|bz #[.int .u16 0,.int .u16 0,.int .u16 0,.slice none 0 0] fun ei ej aj dd ak=>L0<|b6 dd #[.int .u16 ((A.recs.getD j ⟨0,0,0,[]⟩).file),.int .u16 ((A.recs.getD j ⟨0,0,0,[]⟩).record),.int .u16 ((A.recs.getD j ⟨0,0,0,[]⟩).count),.slice bJ ((A.recs.getD j ⟨0,0,0,[]⟩).words.length) bK] fun el de al=>ng<|Pl 1<|?_
 refine L0<|aR (ub (u1 (aE a4 ak) al (ni a4.size aj)) P) 15<|Pl 1<|jA (oq.elt qhr j (by omega)) fun em eo ep eq er bL bM df dg dh es di=>L0<|fq 4 B.recs.length j df (by omega)<|?_
 have am:=u1 (aE a5 ak) al (ni a5.size aj)
 refine L0<|tX [.int .u16 ((B.recs.getD j ⟨0,0,0,[]⟩).file),.int .u16 ((B.recs.getD j ⟨0,0,0,[]⟩).record),.int .u16 ((B.recs.getD j ⟨0,0,0,[]⟩).count),.slice bL ((B.recs.getD j ⟨0,0,0,[]⟩).words.length) bM] (ub am dg) di<|L0<|bz #[.int .u16 0,.int .u16 0,.int .u16 0,.slice none 0 0] fun et eu an dj ao=>L0<|b6 dj #[.int .u16 ((B.recs.getD j ⟨0,0,0,[]⟩).file),.int .u16 ((B.recs.getD j ⟨0,0,0,[]⟩).record),.int .u16 ((B.recs.getD j ⟨0,0,0,[]⟩).count),.slice bL ((B.recs.getD j ⟨0,0,0,[]⟩).words.length) bM] fun ev a6 ap=>ng<|Pl 1<|?_
 have a7:=ub (u1 ao ap (nr an)) de
 refine L0<|aR a7 3<|Pl 1<|L0<|aR a6 3<|?_
 have aq:=u1 (aE am ao) ap (ni am.size an)
 refine L0<|Oc<|m1 (fQ (dJ.old db aq) (dJ.old dh aq)) fun ew h=>Pl 1<|ng<|Pl 3<|cu 6 [196] 202 (((!(decide ((A.recs.getD j ⟨0,0,0,[]⟩).words=(B.recs.getD j ⟨0,0,0,[]⟩).words)))||(((A.recs.getD j ⟨0,0,0,[]⟩).file)!=((B.recs.getD j ⟨0,0,0,[]⟩).file)))) (fun K bN=>?_) ?_
 refine bl 196 ((!(decide ((A.recs.getD j ⟨0,0,0,[]⟩).words=(B.recs.getD j ⟨0,0,0,[]⟩).words)))) (fun V=>?_) (fun V=>?_)
 have ar:(decide ((A.recs.getD j ⟨0,0,0,[]⟩).words=(B.recs.getD j ⟨0,0,0,[]⟩).words))=false:=by simpa using V
 have dk:=of_decide_eq_false ar
 exact Pl 6<|ce bN true (by rw[V];rfl)
 have ar:(decide ((A.recs.getD j ⟨0,0,0,[]⟩).words=(B.recs.getD j ⟨0,0,0,[]⟩).words))=true:=by simpa using V
 have dk:=of_decide_eq_true ar
 refine Pl 1<|?_
 refine L1<|aR (ub h a7) 0<|Pl 1<|?_
 exact L1<|aR (ub h a6) 0<|Pl 2<|ce bN (((A.recs.getD j ⟨0,0,0,[]⟩).file)!=((B.recs.getD j ⟨0,0,0,[]⟩).file)) (by rw[V];rfl)
 refine Pl 1<|cu 6 [203] 209 ((((!(decide ((A.recs.getD j ⟨0,0,0,[]⟩).words=(B.recs.getD j ⟨0,0,0,[]⟩).words)))||(((A.recs.getD j ⟨0,0,0,[]⟩).file)!=((B.recs.getD j ⟨0,0,0,[]⟩).file)))||(((A.recs.getD j ⟨0,0,0,[]⟩).record)!=((B.recs.getD j ⟨0,0,0,[]⟩).record)))) (fun K bO=>?_) ?_
 refine bl 203 (((!(decide ((A.recs.getD j ⟨0,0,0,[]⟩).words=(B.recs.getD j ⟨0,0,0,[]⟩).words)))||(((A.recs.getD j ⟨0,0,0,[]⟩).file)!=((B.recs.getD j ⟨0,0,0,[]⟩).file)))) (fun W=>?_) (fun W=>?_)
 exact Pl 6<|ce bO true (by rw[W];rfl)
 have dl:=(aC W).1
 have dm:=(aC W).2
 have dn:(decide ((A.recs.getD j ⟨0,0,0,[]⟩).words=(B.recs.getD j ⟨0,0,0,[]⟩).words))=true:=by simpa using dl
 have q156anp:=of_decide_eq_true dn
 have ex:=ag dm
 refine Pl 1<|?_
 refine L1<|aR (ub h a7) 1<|Pl 1<|?_
 exact L1<|aR (ub h a6) 1<|Pl 2<|ce bO (((A.recs.getD j ⟨0,0,0,[]⟩).record)!=((B.recs.getD j ⟨0,0,0,[]⟩).record)) (by rw[W];rfl)
 refine Pl 1<|cu 6 [210] 216 (((((!(decide ((A.recs.getD j ⟨0,0,0,[]⟩).words=(B.recs.getD j ⟨0,0,0,[]⟩).words)))||(((A.recs.getD j ⟨0,0,0,[]⟩).file)!=((B.recs.getD j ⟨0,0,0,[]⟩).file)))||(((A.recs.getD j ⟨0,0,0,[]⟩).record)!=((B.recs.getD j ⟨0,0,0,[]⟩).record)))||(((A.recs.getD j ⟨0,0,0,[]⟩).count)!=((B.recs.getD j ⟨0,0,0,[]⟩).count)))) (fun K bP=>?_) ?_
 refine bl 210 ((((!(decide ((A.recs.getD j ⟨0,0,0,[]⟩).words=(B.recs.getD j ⟨0,0,0,[]⟩).words)))||(((A.recs.getD j ⟨0,0,0,[]⟩).file)!=((B.recs.getD j ⟨0,0,0,[]⟩).file)))||(((A.recs.getD j ⟨0,0,0,[]⟩).record)!=((B.recs.getD j ⟨0,0,0,[]⟩).record)))) (fun X=>?_) (fun X=>?_)
 exact Pl 6<|ce bP true (by rw[X];rfl)
 have bQ:=(aC X).1
 have dp:=(aC X).2
 have dq:=(aC bQ).1
 have dr:=(aC bQ).2
 have q160aan:(decide ((A.recs.getD j ⟨0,0,0,[]⟩).words=(B.recs.getD j ⟨0,0,0,[]⟩).words))=true:=by simpa using dq
 have q160aanp:=of_decide_eq_true q160aan
 have q160abp:=ag dr
 have ey:=ag dp
 refine Pl 1<|?_
 refine L1<|aR (ub h a7) 2<|Pl 1<|?_
 exact L1<|aR (ub h a6) 2<|Pl 2<|ce bP (((A.recs.getD j ⟨0,0,0,[]⟩).count)!=((B.recs.getD j ⟨0,0,0,[]⟩).count)) (by rw[X];rfl)
 refine nt<|?_
 refine cb (((((!(decide ((A.recs.getD j ⟨0,0,0,[]⟩).words=(B.recs.getD j ⟨0,0,0,[]⟩).words)))||(((A.recs.getD j ⟨0,0,0,[]⟩).file)!=((B.recs.getD j ⟨0,0,0,[]⟩).file)))||(((A.recs.getD j ⟨0,0,0,[]⟩).record)!=((B.recs.getD j ⟨0,0,0,[]⟩).record)))||(((A.recs.getD j ⟨0,0,0,[]⟩).count)!=((B.recs.getD j ⟨0,0,0,[]⟩).count)))) (fun Y=>?_) (fun Y=>?_)
 refine sg<|Pl 1<|nt<|rt<|br<|tr<|tr<|br<|tr<|rr (.bool false)<|?_
 have hs:decide (A=B)=false:=iU (f:=fun x y=>((((!(decide ((x.recs.getD j ⟨0,0,0,[]⟩).words=(y.recs.getD j ⟨0,0,0,[]⟩).words)))||(((x.recs.getD j ⟨0,0,0,[]⟩).file)!=((y.recs.getD j ⟨0,0,0,[]⟩).file)))||(((x.recs.getD j ⟨0,0,0,[]⟩).record)!=((y.recs.getD j ⟨0,0,0,[]⟩).record)))||(((x.recs.getD j ⟨0,0,0,[]⟩).count)!=((y.recs.getD j ⟨0,0,0,[]⟩).count)))) Y (fun M=>by simp)
 rw[hs]
 exact⟨rfl,(aE aq h)⟩
 have bR:=(aC Y).1
 have ds:=(aC Y).2
 have bS:=(aC bR).1
 have dt:=(aC bR).2
 have q165aaa:=(aC bS).1
 have q165aab:=(aC bS).2
 have q165aaan:(decide ((A.recs.getD j ⟨0,0,0,[]⟩).words=(B.recs.getD j ⟨0,0,0,[]⟩).words))=true:=by simpa using q165aaa
 have q165aaanp:=of_decide_eq_true q165aaan
 have q165aabp:=ag q165aab
 have q165abp:=ag dt
 have ez:=ag ds
 refine sk<|bn<|tn<|go<|Pl 1<|L0<|Oi (((j:Nat) : Int)+1)<|Pl 1<|nl<|?_
 have bT:=u1 (aE a3 ak) al (ni a3.size aj)
 exact dZ (j+1) ⟨(aE (u1 (aE bT ao) ap (ni bT.size an)) h),(mb (d:=⟨0,0,0,[]⟩) bI (by omega) (by omega) (sU Y)),(by(try dsimp only);omega)⟩ (by omega)
 have d8:=of_decide_eq_false ah
 refine xt<|tx<|tx<|bx<|tn<|sq<|sg<|Pl 1<|nt<|bk<|?_
 refine fR (fun x=>[(2,.pointer (some ⟨i,0,none⟩)),(3,.pointer (some ⟨l,0,none⟩)),(12,.int .i64 ((x:Nat) : Int))]) (fun(x:Nat) w'=>au [] d5 w'∧(A.objects.take x=B.objects.take x)∧(x≤A.objects.length)) (fun x=>A.objects.length-x) 0 ⟨au.refl _ _,(by(try dsimp only);simp),(by(try dsimp only);omega)⟩ ?_
 rintro k eA ⟨a8,du,dv⟩
 refine fz [(2,.pointer (some ⟨i,0,none⟩)),(3,.pointer (some ⟨l,0,none⟩)),(12,.int .i64 ((k:Nat) : Int))] ?_
 have bU:A.objects.take k=B.objects.take k:=du
 have eB:k≤A.objects.length:=dv
 refine sq<|sg<|Pl 2<|?_
 have bV:=ub a8 af
 refine L0<|aR bV 21<|Pl 2<|nt<|?_
 have bW:=aE a5 a8
 refine cb ((decide (((k:Nat) : Int)<((A.objects.length:Nat) : Int)))) (fun av=>?_) (fun av=>?_)
 have dw:=of_decide_eq_true av
 refine bB<|sq<|bk<|sq<|jA (oo.elt pho k (by omega)) fun bX bY eC eD eE dx dy bZ dz dA eF aw=>jA (oo.elt qho k (by omega)) fun c0 c2 eG eH eI dB dD c3 dE dF eJ ax=>Rg 14 (fun w'=>w'.cell? ⟨i,21,none⟩=some (.slice po A.objects.length pko)∧w'.cell? ⟨bX,bY+k*2+1,none⟩=some (.slice dx ((A.objects.getD k ⟨0,[]⟩).value.length) dy)∧w'.cell? ⟨l,21,none⟩=some (.slice qo B.objects.length qko)∧w'.cell? ⟨c0,c2+k*2+1,none⟩=some (.slice dB ((B.objects.getD k ⟨0,[]⟩).value.length) dD)) fun eK a9=>?_
 have c4:=ub a9 bV
 have Z:=aE bW a9
 have c5:=ub Z dz
 have c6:=ub (aE (aE a4 a8) a9) P
 have c7:=ub Z dE
 refine be ⟨(ai c4 rfl),(dC c5 aw 1 rfl (by decide)),(ai c6 rfl),(dC c7 ax 1 rfl (by decide))⟩ fun g=>Rt 0 g<|Rl 1 g (fun _ hs=>hs.1)<|Rt 2 g<|Ri 3 g 2 A.objects.length k ((k:Nat) : Int) rfl bZ (by omega)<|Rt 4 g<|Rl 5 g (fun _ hs=>hs.2.1)<|Rt 6 g<|Rl 7 g (fun _ hs=>hs.2.2.1)<|Rt 8 g<|Ri 9 g 2 B.objects.length k ((k:Nat) : Int) rfl c3 (by omega)<|Rt 10 g<|Rl 11 g (fun _ hs=>hs.2.2.2)<|?_
 refine R0 12 rfl<|Oc<|m1 (iw (aM.old dA Z) (aM.old dF Z)) fun eL o=>?_
 have c8:=ub o c4
 have c9:=ub o c5
 have ca:=ub o c6
 have cc:=ub o c7
 refine be ⟨(ai c8 rfl),(dC c9 aw 1 rfl (by decide)),(ai ca rfl),(dC cc ax 1 rfl (by decide))⟩ fun dG=>Rt 13 dG<|re<|tn<|sq<|Rg 17 (fun w'=>w'.cell? ⟨i,21,none⟩=some (.slice po A.objects.length pko)∧w'.cell? ⟨bX,bY+k*2+0,none⟩=some (.int .u8 ((A.objects.getD k ⟨0,[]⟩).id))∧w'.cell? ⟨l,21,none⟩=some (.slice qo B.objects.length qko)∧w'.cell? ⟨c0,c2+k*2+0,none⟩=some (.int .u8 ((B.objects.getD k ⟨0,[]⟩).id))) fun eM p=>?_
 refine be ⟨(ai (ub p c8) rfl),(dC (ub p c9) aw 0 rfl (by decide)),(ai (ub p ca) rfl),(dC (ub p cc) ax 0 rfl (by decide))⟩ fun a=>Rt 0 a<|Rt 1 a<|Rt 2 a<|?_
 have cd:=aE (aE Z o) p
 refine tM 239 ((!(decide ((A.objects.getD k ⟨0,[]⟩).value=(B.objects.getD k ⟨0,[]⟩).value)))) (fun a0=>?_) (fun a0=>?_)
 have az:(decide ((A.objects.getD k ⟨0,[]⟩).value=(B.objects.getD k ⟨0,[]⟩).value))=false:=by simpa using a0
 have dI:=of_decide_eq_false az
 refine Ro 3 a<|Ro 4 a<|Ro 5 a<|Ro 6 a<|Ro 7 a<|Ro 8 a<|Ro 9 a<|Ro 10 a<|Ro 11 a<|Ro 12 a<|Ro 13 a<|Ro 14 a<|Ro 15 a<|Rt 16 a<|?_
 refine re<|tn<|c1<|sg<|Pl 1<|nt<|rt<|br<|tr<|tr<|br<|tr<|?_
 refine rr (.bool false)<|?_
 have hs:decide (A=B)=false:=iU (f:=fun x y=>(!(decide ((x.objects.getD k ⟨0,[]⟩).value=(y.objects.getD k ⟨0,[]⟩).value)))) a0 (fun M=>by simp)
 rw[hs]
 exact⟨rfl,cd⟩
 have az:(decide ((A.objects.getD k ⟨0,[]⟩).value=(B.objects.getD k ⟨0,[]⟩).value))=true:=by simpa using a0
 have dI:=of_decide_eq_true az
 refine Rt 3 a<|Rl 4 a (fun _ hs=>hs.1)<|Rt 5 a<|Ri 6 a 2 A.objects.length k ((k:Nat) : Int) rfl bZ (by omega)<|Rt 7 a<|Rl 8 a (fun _ hs=>hs.2.1)<|Rt 9 a<|Rl 10 a (fun _ hs=>hs.2.2.1)<|Rt 11 a<|Ri 12 a 2 B.objects.length k ((k:Nat) : Int) rfl c3 (by omega)<|Rt 13 a<|Rl 14 a (fun _ hs=>hs.2.2.2)<|Rt 15 a<|Rt 16 a<|?_
 refine re<|tn<|cb ((((A.objects.getD k ⟨0,[]⟩).id)!=((B.objects.getD k ⟨0,[]⟩).id))) (fun a1=>?_) (fun a1=>?_)
 have dK:=ay a1
 refine sg<|Pl 1<|nt<|rt<|br<|tr<|tr<|br<|tr<|rr (.bool false)<|?_
 have hs:decide (A=B)=false:=iU (f:=fun x y=>(((x.objects.getD k ⟨0,[]⟩).id)!=((y.objects.getD k ⟨0,[]⟩).id))) a1 (fun M=>by simp)
 rw[hs]
 exact⟨rfl,cd⟩
 have dK:=ag a1
 refine sk<|bn<|tn<|go<|Pl 1<|L0<|Oi (((k:Nat) : Int)+1)<|Pl 1<|nl<|?_
 exact dZ (k+1) ⟨(aE (aE (aE a8 a9) o) p),(mb (d:=⟨0,[]⟩) bU (by omega) (by omega) (qy a0 a1)),(by(try dsimp only);omega)⟩ (by omega)
 have dw:=of_decide_eq_false av
 refine xt<|tx<|tx<|bx<|tn<|sg<|Pl 1<|nt<|rt<|rr (.bool true)<|?_
 have hs:decide (A=B)=true:=decide_eq_true (qq H O U (fun e=>ek bI (by omega) e) (fun e=>ek bU (by omega) e))
 rw[hs]
 exact⟨rfl,bW⟩
end Go.Proofs.YtpglhicfhppaiaaGreat
