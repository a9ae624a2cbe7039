/- Contracts of functions, part CStreamHolds5. -/
import Derived.Test.YtpglhicfhppaiaaGreatCStreamHolds1
import Derived.Test.YtpglhicfhppaiaaGreatCStreamHolds2
import Derived.Test.YtpglhicfhppaiaaGreatCStreamHolds3
import Derived.Test.YtpglhicfhppaiaaGreatCStreamHolds4
import Derived.Scope
import Derived.Lib.ConvBytes
import Derived.Lib.OthersKept
import Derived.Shelf.Strings.Builder1
import Derived.Lib.SlBytesConst
set_option linter.unusedVariables false
set_option linter.unusedSimpArgs false
set_option maxRecDepth 100000
set_option maxHeartbeats 4000000
namespace Go.Proofs.YtpglhicfhppaiaaGreat
open Go.RowKit
structure SM where
  dir:Int
  held:List Int
  skip:Int
theorem xQ{a b:Int}(ha:0≤a∧a<256)(hb:0≤b∧b<256) : bits .or .i64 (a*256) b=a*256+b:=by
  obtain⟨A,rfl⟩:=Int.eq_ofNat_of_zero_le ha.1
  obtain⟨B,rfl⟩:=Int.eq_ofNat_of_zero_le hb.1
  have e:((A:Int)*256)=((A*256:Nat) : Int):=by omega
  rw[e]
  show IntKind.i64.wrap ((BitVec.ofInt 64 ((A*256:Nat) : Int) ||| BitVec.ofInt 64 (B:Int)).toNat:Int)=_
  rw[BitVec.toNat_or,BitVec.ofInt_natCast,BitVec.ofInt_natCast,BitVec.toNat_ofNat,BitVec.toNat_ofNat,Nat.mod_eq_of_lt (by omega),Nat.mod_eq_of_lt (by omega)]
  have h:=Nat.shiftLeft_add_eq_or_of_lt (i:=8) (b:=B) (by omega) A
  rw[Nat.shiftLeft_eq] at h
  rw[← h,i64_in (by omega)]
  omega
def SM.size (S:SM) : Int:=S.held.getD 4 0*256+S.held.getD 5 0
def SM.nx (S:SM) : Nat:=if S.held.length<6 then 0 else if 254<S.size then 1 else if S.size<2 then 2 else if (S.held.length:Int)=6+S.size then 3 else 0
def SM.does (S:SM) : SM × List Ev:=match S.nx with
  | 1=>(⟨S.dir,[],S.size⟩,[Ev.bad 3])
  | 2=>(⟨S.dir,[],S.size⟩,[Ev.bad 5])
  | 3=>(⟨S.dir,[],S.skip⟩,[⟨(cn S.dir S.held).2,(cn S.dir S.held).1⟩])
  | _=>(S,[])
def SM.byte (S:SM)(c:Int) : SM × List Ev:=if 0<S.skip then (⟨S.dir,S.held,S.skip-1⟩,[]) else (SM.mk S.dir (S.held++[c]) S.skip).does
def SM.feed (S:SM)(b:List Int) : SM × List Ev:=b.foldl (fun p c=>((p.1.byte c).1,p.2++(p.1.byte c).2)) (S,[])
abbrev Cd (S:SM) (A:Option Addr) (cp:Nat) : Array Value:=#[.int .i64 S.dir,.slice A S.held.length cp,.int .i64 S.skip]
abbrev lg (w:World) (g:Nat) (S:SM) (A:Option Addr) (cp:Nat) : Prop:=w.heap[g]? = some (.cells (Cd S A cp) 131 (0,0))
theorem SM.size_rng{S:SM}(h:∀ x,x∈S.held→0≤x∧x<256) : 0≤S.size∧S.size<65536:=by
  have hd:∀ j,0≤S.held.getD j 0∧S.held.getD j 0<256:=fun j=>by
    rw[List.getD_eq_getElem?_getD]
    cases hj:S.held[j]? with
    | none=>simp
    | some x=>exact h x (List.mem_of_getElem? hj)
  have h4:=hd 4
  have h5:=hd 5
  unfold SM.size
  omega
def Ay (S:SM)(L:List Ev)(g:Nat)(w:World)(e:Ending)(w':World) : Prop:=∃ v,e = .returned v∧i3 w.heap.size w' v L∧lg w' g S none 0∧ay [g] w w'
theorem qL{w:World}:Calls Tryz.prog 48 #[.int .i64 0] w (fun e w'=>∃ g,e = .returned (.pointer (some ⟨g,0,none⟩))∧w.heap.size≤g∧lg w' g ⟨0,[],0⟩ none 0∧ay [] w w'):=by
 refine en 12 Tryz.func48 rfl<|sg<|Pl 1<|nt<|sq<|sg<|Pl 6<|nt<|c0<|sk<|?_
 refine tn<|sg<|Pl 2<|L0<|cI #[.int .i64 0,.slice none 0 0,.int .i64 0] fun a f b c d=>Pl 1<|nt<|rt<|rr (.pointer (some ⟨a,0,none⟩))<|?_
 exact⟨a,rfl,b,c,d⟩
theorem ql{w:World}:Calls Tryz.prog 48 #[.int .i64 1] w (fun e w'=>∃ g,e = .returned (.pointer (some ⟨g,0,none⟩))∧w.heap.size≤g∧lg w' g ⟨1,[],0⟩ none 0∧ay [] w w'):=by
 refine en 12 Tryz.func48 rfl<|sg<|Pl 1<|nt<|sq<|sg<|Pl 6<|nt<|c0<|sk<|?_
 refine tn<|sg<|Pl 2<|L0<|cI #[.int .i64 1,.slice none 0 0,.int .i64 0] fun a f b c d=>Pl 1<|nt<|rt<|rr (.pointer (some ⟨a,0,none⟩))<|?_
 exact⟨a,rfl,b,c,d⟩
theorem qu{w:World}{g:Nat}{S:SM}{A:Option Addr}{cp:Nat}(hb:lg w g S A cp)(hr:aS true w (.slice A S.held.length cp) S.held) : Calls Tryz.prog 185 #[.pointer (some ⟨g,0,none⟩)] w (bv (.int .i64 ((S.held.length:Nat) : Int)) w):=by
 have hcm:=aR.len hr
 have hrg:=SM.size_rng (aS.range hr)
 have hru:=aS.range hr
 refine en 8 Tryz.func185 rfl<|sg<|Pl 1<|ng<|Pl 3<|L0<|aP hb 1<|Pl 2<|nt<|rt<|?_
 refine rr (.int .i64 ((S.held.length:Nat) : Int))<|?_
 exact⟨rfl,(ay.refl [] _)⟩
theorem gc{w:World}{g:Nat}{S:SM}{A:Option Addr}{cp:Nat}(hb:lg w g S A cp)(hr:aS true w (.slice A S.held.length cp) S.held)(h6:6≤S.held.length) : Calls Tryz.prog 187 #[.pointer (some ⟨g,0,none⟩)] w (bv (.int .i64 S.size) w):=by
 have hcm:=aR.len hr
 have hrg:=SM.size_rng (aS.range hr)
 have hru:=aS.range hr
 refine en 19 Tryz.func187 rfl<|sg<|Pl 1<|nt<|sq<|i8 (aS.at_ hr 4 (by omega)) fun c d e f l=>i8 (aS.at_ hr 5 (by omega)) fun h i j k m=>Rg 17 (fun w'=>w'.cell? ⟨g,1,none⟩=some (.slice A S.held.length cp)∧w'.cell? ⟨c,d+4,none⟩=some (.int .u8 (S.held.getD 4 0))∧w'.cell? ⟨h,i+5,none⟩=some (.int .u8 (S.held.getD 5 0))) fun n b=>?_
 refine aZ ⟨(aa (ub b hb) rfl),(uc b f),(uc b k)⟩ fun a=>Rt 0 a<|Rt 1 a<|Rt 2 a<|Rl 3 a (fun _ hs=>hs.1)<|qz 4 a S.held.length 4 4 rfl e (by omega)<|Rl 5 a (fun _ hs=>hs.2.1)<|Rr 6 a (.int .i64 (S.held.getD 4 0)) (fun _ _=>cD (.int .i64 (IntKind.i64.wrap (S.held.getD 4 0))) (by kernel_rfl) (congrArg (Value.int .i64) (i64_in (by omega))))<|Rr 7 a (.int .i64 ((S.held.getD 4 0)*256)) (fun _ _=>cD (.int .i64 (IntKind.i64.wrap ((S.held.getD 4 0)*256))) (by kernel_rfl) (congrArg (Value.int .i64) (i64_in (by omega))))<|Rt 8 a<|Rt 9 a<|Rt 10 a<|Rl 11 a (fun _ hs=>hs.1)<|qz 12 a S.held.length 5 5 rfl j (by omega)<|?_
 refine Rl 13 a (fun _ hs=>hs.2.2)<|Rr 14 a (.int .i64 (S.held.getD 5 0)) (fun _ _=>cD (.int .i64 (IntKind.i64.wrap (S.held.getD 5 0))) (by kernel_rfl) (congrArg (Value.int .i64) (i64_in (by omega))))<|Rr 15 a (.int .i64 (((S.held.getD 4 0)*256)+(S.held.getD 5 0))) (fun _ _=>cD (.int .i64 (bits .or .i64 ((S.held.getD 4 0)*256) (S.held.getD 5 0))) (by kernel_rfl) (congrArg (Value.int .i64) (xQ (by omega) (by omega))))<|Rt 16 a<|re<|tn<|rt<|rr (.int .i64 (((S.held.getD 4 0)*256)+(S.held.getD 5 0)))<|?_
 exact⟨rfl,b⟩
def SM.fn (S:SM)(g:Nat) : Value:=match S.nx with
  | 1=>.func (.func 188) #[.pointer (some ⟨g,0,none⟩)] #[]
  | 2=>.func (.func 189) #[.pointer (some ⟨g,0,none⟩)] #[]
  | 3=>.func (.func 190) #[.pointer (some ⟨g,0,none⟩)] #[]
  | _=>.nilFunc
theorem ga{w:World}{g:Nat}{S:SM}{A:Option Addr}{cp:Nat}(hb:lg w g S A cp)(hr:aS true w (.slice A S.held.length cp) S.held) : Calls Tryz.prog 186 #[.pointer (some ⟨g,0,none⟩)] w (bv (S.fn g) w):=by
 have hcm:=aR.len hr
 have hrg:=SM.size_rng (aS.range hr)
 have hru:=aS.range hr
 refine en 34 Tryz.func186 rfl<|sg<|Pl 1<|nt<|sq<|bk<|sg<|Pl 3<|L0<|aP hb 1<|Pl 3<|nl<|?_
 refine tn<|cb ((decide (((S.held.length:Nat) : Int)<6))) (fun c=>?_) (fun c=>?_)
 have r:=of_decide_eq_true c
 refine sg<|Pl 1<|nt<|rt<|br<|tr<|rr (.nilFunc)<|?_
 have hs:S.nx=0:=by unfold SM.nx;(repeat' split)<;>first | rfl | omega
 have hf:S.fn g = .nilFunc:=by unfold SM.fn;rw[hs];rfl
 exact⟨by rw[hf],(ay.refl [] _)⟩
 have r:=of_decide_eq_false c
 refine sg<|Pl 1<|L0<|Oc<|m1 (gc (S:=S) hb hr (by omega)) fun v b=>Pl 2<|nt<|cb ((decide (254<S.size))) (fun d=>?_) (fun d=>?_)
 have s:=of_decide_eq_true d
 refine sg<|Pl 3<|nt<|rt<|br<|tr<|rr (.func (.func 188) #[.pointer (some ⟨g,0,none⟩)] #[])<|?_
 have hs:S.nx=1:=by unfold SM.nx;(repeat' split)<;>first | rfl | omega
 have hf:S.fn g = .func (.func 188) #[.pointer (some ⟨g,0,none⟩)] #[]:=by unfold SM.fn;rw[hs];rfl
 exact⟨by rw[hf],b⟩
 have s:=of_decide_eq_false d
 refine sg<|Pl 1<|?_
 have j:=ub b hb
 have k:=aS.upd' hr b aE
 refine L0<|Oc<|m1 (gc (S:=S) j k (by omega)) fun x l=>Pl 2<|nt<|?_
 have m:=aD b l
 refine cb ((decide (S.size<2))) (fun e=>?_) (fun e=>?_)
 have t:=of_decide_eq_true e
 refine sg<|Pl 3<|nt<|rt<|br<|tr<|rr (.func (.func 189) #[.pointer (some ⟨g,0,none⟩)] #[])<|?_
 have hs:S.nx=2:=by unfold SM.nx;(repeat' split)<;>first | rfl | omega
 have hf:S.fn g = .func (.func 189) #[.pointer (some ⟨g,0,none⟩)] #[]:=by unfold SM.fn;rw[hs];rfl
 exact⟨by rw[hf],m⟩
 have t:=of_decide_eq_false e
 refine sq<|Rg 10 (fun w'=>w'.cell? ⟨g,1,none⟩=some (.slice A S.held.length cp)) fun y n=>?_
 have o:=aD l n
 have f:=ub o j
 refine aZ (aa f rfl) fun a=>Rt 0 a<|Rt 1 a<|Rt 2 a<|Rl 3 a (fun _ hs=>hs)<|Rt 4 a<|Rt 5 a<|?_
 refine R0 6 rfl<|Oc<|m1 (gc (S:=S) f (aS.upd' k o aE) (by omega)) fun z p=>?_
 refine aZ (aa (ub p f) rfl) fun h=>Rr 7 h (.int .i64 (6+S.size)) (fun _ _=>cD (.int .i64 (IntKind.i64.wrap (6+S.size))) (by kernel_rfl) (congrArg (Value.int .i64) (IntWalk.i64_in _ (by omega))))<|Rt 8 h<|Rt 9 h<|re<|tn<|?_
 have q:=aD m (aD n p)
 refine cb ((((S.held.length:Nat) : Int)==(6+S.size))) (fun i=>?_) (fun i=>?_)
 have u:=ax i
 refine sg<|Pl 3<|nt<|rt<|br<|tr<|rr (.func (.func 190) #[.pointer (some ⟨g,0,none⟩)] #[])<|?_
 have hs:S.nx=3:=by unfold SM.nx;(repeat' split)<;>first | rfl | omega
 have hf:S.fn g = .func (.func 190) #[.pointer (some ⟨g,0,none⟩)] #[]:=by unfold SM.fn;rw[hs];rfl
 exact⟨by rw[hf],q⟩
 have u:=aA i
 refine sk<|bn<|tn<|sg<|Pl 1<|nt<|rt<|rr (.nilFunc)<|?_
 have hs:S.nx=0:=by unfold SM.nx;(repeat' split)<;>first | rfl | omega
 have hf:S.fn g = .nilFunc:=by unfold SM.fn;rw[hs];rfl
 exact⟨by rw[hf],q⟩
theorem iN{w:World}{g:Nat}{S:SM}{A:Option Addr}{cp:Nat}(hb:lg w g S A cp)(hr:aS true w (.slice A S.held.length cp) S.held)(h6:6≤S.held.length){e:Int}:Calls Tryz.prog 191 #[.pointer (some ⟨g,0,none⟩),.int .i64 e] w (Ay ⟨S.dir,[],S.size⟩ [Ev.bad e] g w):=by
 have hcm:=aR.len hr
 have hrg:=SM.size_rng (aS.range hr)
 have hru:=aS.range hr
 refine en 16 Tryz.func191 rfl<|sg<|Pl 1<|ng<|Pl 2<|L0<|Oc<|m1 (gc (S:=S) hb hr (by omega)) fun l a=>Pl 2<|?_
 refine L0<|co (ub a hb) 2 #[.int .i64 S.dir,.slice A S.held.length cp,.int .i64 S.size] fun n f b=>ng<|Pl 3<|L0<|co f 1 #[.int .i64 S.dir,.slice none 0 0,.int .i64 S.size] fun o h c=>ng<|Pl 2<|L0<|cR (m:=1) (e:=66) #[.int .i64 e,.int .u8 0,.int .u16 0,.int .u8 0,.int .u8 0,.int .u16 0,.int .u16 0,.int .u16 0,.int .u16 0,.int .u16 0,.int .u16 0,.int .u16 0,.int .u16 0,.int .u16 0,.int .u16 0,.slice none 0 0,.slice none 0 0,.slice none 0 0,.slice none 0 0,.int .u8 0,.int .u8 0,.int .u8 0,.int .u8 0,.int .u8 0,.slice none 0 0] fun i p j k d=>Pl 1<|nl<|?_
 refine tn<|rt<|rr (.slice (some ⟨i,0,none⟩) 1 1)<|?_
 have hE:=ms (w0:=w) (x:=Ev.bad e) (Nat.le_trans (le (le a.size b.size) c.size) j) k ⟨⟨none,0,none,0,none,0,none,0,none,0⟩,by kernel_rfl,mw,(show(0:Int)≤0∧(0:Int)<256 from by decide),(show(0:Int)≤0∧(0:Int)<65536 from by decide)⟩
 exact⟨_,rfl,hE,(ub d h),(uz a (u1 b (aD c d) im))⟩
theorem pv{w:World}{g:Nat}{S:SM}{A:Option Addr}{cp:Nat}(hb:lg w g S A cp)(hr:aS true w (.slice A S.held.length cp) S.held)(h6:6≤S.held.length) : Calls Tryz.prog 188 #[.pointer (some ⟨g,0,none⟩)] w (Ay ⟨S.dir,[],S.size⟩ [Ev.bad 3] g w):=by
 have hcm:=aR.len hr
 have hrg:=SM.size_rng (aS.range hr)
 have hru:=aS.range hr
 refine en 5 Tryz.func188 rfl<|sg<|Pl 1<|ng<|Pl 1<|L0<|Oc<|si (iN (S:=S) (e:=3) hb hr h6) fun a b h c i j d f=>Pl 1<|nt<|rt<|?_
 refine rr (.slice a 1 b)<|?_
 exact⟨_,rfl,c,d,f⟩
theorem oM{w:World}{g:Nat}{S:SM}{A:Option Addr}{cp:Nat}(hb:lg w g S A cp)(hr:aS true w (.slice A S.held.length cp) S.held)(h6:6≤S.held.length) : Calls Tryz.prog 189 #[.pointer (some ⟨g,0,none⟩)] w (Ay ⟨S.dir,[],S.size⟩ [Ev.bad 5] g w):=by
 have hcm:=aR.len hr
 have hrg:=SM.size_rng (aS.range hr)
 have hru:=aS.range hr
 refine en 5 Tryz.func189 rfl<|sg<|Pl 1<|ng<|Pl 1<|L0<|Oc<|si (iN (S:=S) (e:=5) hb hr h6) fun a b h c i j d f=>Pl 1<|nt<|rt<|?_
 refine rr (.slice a 1 b)<|?_
 exact⟨_,rfl,c,d,f⟩
theorem nv{w:World}{g:Nat}{S:SM}{A:Option Addr}{cp:Nat}(hb:lg w g S A cp)(hr:aS true w (.slice A S.held.length cp) S.held)(hl:S.held.length≤1048576) : Calls Tryz.prog 190 #[.pointer (some ⟨g,0,none⟩)] w (Ay ⟨S.dir,[],S.skip⟩ [⟨(cn S.dir S.held).2,(cn S.dir S.held).1⟩] g w):=by
 have hcm:=aR.len hr
 have hrg:=SM.size_rng (aS.range hr)
 have hru:=aS.range hr
 refine en 24 Tryz.func190 rfl<|sg<|Pl 1<|nt<|sq<|Rg 15 (fun w'=>w'.cell? ⟨g,0,none⟩=some (.int .i64 S.dir)∧w'.cell? ⟨g,1,none⟩=some (.slice A S.held.length cp)) fun ae a=>?_
 have f:=ub a hb
 refine aZ ⟨(aa f rfl),(aa f rfl)⟩ fun b=>Rt 0 b<|Rt 1 b<|Rt 2 b<|Rl 3 b (fun _ hs=>hs.1)<|Rt 4 b<|Rt 5 b<|Rt 6 b<|Rl 7 b (fun _ hs=>hs.2)<|?_
 refine R2 8 12 rfl rfl ?_ ?_
 refine pr (cn S.dir S.held) fun c C D=>?_
 refine  Oc<|e2 (iF D (aS.upd' hr a aE) (by omega)) fun x56 af Q h=>?_
 obtain⟨R,T,U⟩:=Q
 have i:=ub h f
 refine aZ ⟨(aa i rfl),(aa i rfl)⟩ fun l=>Rt 9 l<|Rt 10 l<|Rt 11 l<|R0 12 rfl<|bN #[.int .u8 0,.int .u16 0,.int .u8 0,.int .u8 0,.int .u16 0,.int .u16 0,.int .u16 0,.int .u16 0,.int .u16 0,.int .u16 0,.int .u16 0,.int .u16 0,.int .u16 0,.int .u16 0,.slice none 0 0,.slice none 0 0,.slice none 0 0,.slice none 0 0,.int .u8 0,.int .u8 0,.int .u8 0,.int .u8 0,.int .u8 0,.slice none 0 0] fun ag ah E V n=>?_
 have o:=ub n i
 refine aZ ⟨(aa o rfl),(aa o rfl)⟩ fun ai=>R0 13 rfl<|bi V (eK c.unit c.tid c.msg x56) fun ak W p=>?_
 have F:=nb (am hb) (le a.size h.size) E
 have q:=aY p F o
 refine aZ ⟨(aa q rfl),(aa q rfl)⟩ fun X=>Rt 14 X<|re<|tn<|sg<|Pl 3<|L0<|co q 1 #[.int .i64 S.dir,.slice none 0 0,.int .i64 S.skip] fun al Y r=>ng<|Pl 1<|?_
 refine L0<|cj (aY r (Ne.symm F) W)<|Pl 1<|L0<|cR (m:=1) (e:=66) (uv ⟨C,c⟩ x56) fun Z an a0 a1 G=>Pl 1<|nt<|rt<|rr (.slice (some ⟨Z,0,none⟩) 1 1)<|?_
 have H:=ud n (us p (aD r G)) E
 have hE:=ms (w0:=w) (x:=⟨C,c⟩) (Nat.le_trans (le (le (le (le a.size h.size) n.size) p.size) r.size) a0) a1 ⟨x56,rfl,(aF.upd R H (aj (aM i (by decide)) aE)),T,U⟩
 exact⟨_,rfl,by rw[D];exact hE,(ub G Y),(uz a (uz h H))⟩
 refine  bN #[.int .u8 0,.int .u16 0,.int .u8 0,.int .u8 0,.int .u16 0,.int .u16 0,.int .u16 0,.int .u16 0,.int .u16 0,.int .u16 0,.int .u16 0,.int .u16 0,.int .u16 0,.int .u16 0,.slice none 0 0,.slice none 0 0,.slice none 0 0,.slice none 0 0,.int .u8 0,.int .u8 0,.int .u8 0,.int .u8 0,.int .u8 0,.slice none 0 0] fun ao ap I a2 s=>?_
 have t:=ub s f
 refine aZ ⟨(aa t rfl),(aa t rfl)⟩ fun aq=>?_
 have J:=aD a s
 refine pr (cn S.dir S.held) fun d K L=>?_
 refine R0 8 rfl<|Oc<|e2 (iF L (aS.upd' hr J aE) (by omega)) fun u ar a3 j=>?_
 obtain⟨a4,a5,a6⟩:=a3
 have k:=ub j t
 refine aZ ⟨(aa k rfl),(aa k rfl)⟩ fun v=>Rt 9 v<|Rt 10 v<|Rt 11 v<|?_
 have M:=ub j a2
 refine R0 13 rfl<|bi M (eK d.unit d.tid d.msg u) fun au a7 y=>?_
 have N:=nb (am hb) a.size I
 have z:=aY y N k
 refine aZ ⟨(aa z rfl),(aa z rfl)⟩ fun a8=>Rt 14 a8<|re<|tn<|sg<|Pl 3<|L0<|co z 1 #[.int .i64 S.dir,.slice none 0 0,.int .i64 S.skip] fun av a9 B=>ng<|Pl 1<|?_
 refine L0<|cj (aY B (Ne.symm N) a7)<|Pl 1<|L0<|cR (m:=1) (e:=66) (uv ⟨K,d⟩ u) fun ab aw ac ad O=>Pl 1<|nt<|rt<|rr (.slice (some ⟨ab,0,none⟩) 1 1)<|?_
 have P:=us y (aD B O)
 have hE:=ms (w0:=w) (x:=⟨K,d⟩) (Nat.le_trans (le (le (le (le a.size s.size) j.size) y.size) B.size) ac) ad ⟨u,rfl,(aF.upd a4 P (aj (aM M (by decide)) (aj (aM k (by decide)) aE))),a5,a6⟩
 exact⟨_,rfl,by rw[L];exact hE,(ub O a9),(ud J (uz j P) (le a.size I))⟩
open Go.RowKit
theorem Ct{C:Prop}(S:SM)(h0:S.nx=0→C)(h1:S.nx=1→C)(h2:S.nx=2→C)(h3:S.nx=3→C) : C:=by
  have h:S.nx=0∨S.nx=1∨S.nx=2∨S.nx=3:=by
    unfold SM.nx
    (repeat' split)<;>simp
  rcases h with h|h|h|h
  · exact h0 h
  · exact h1 h
  · exact h2 h
  · exact h3 h
theorem zS{S:SM}(h:S.nx≠0) : 6≤S.held.length:=by
  unfold SM.nx at h
  split at h
  · exact absurd rfl h
  · omega
theorem oE{w:World}{g:Nat}{S:SM}{A:Option Addr}{cp:Nat}(hb:lg w g S A cp)(hr:aS true w (.slice A S.held.length cp) S.held)(h:S.nx=0) : Calls Tryz.prog 186 #[.pointer (some ⟨g,0,none⟩)] w (bv (.nilFunc) w):=by
  have k:=ga hb hr
  unfold SM.fn at k
  rw[h] at k
  exact k
theorem nM{w:World}{g:Nat}{S:SM}{A:Option Addr}{cp:Nat}(hb:lg w g S A cp)(hr:aS true w (.slice A S.held.length cp) S.held)(h:S.nx=1) : Calls Tryz.prog 186 #[.pointer (some ⟨g,0,none⟩)] w (bv (.func (.func 188) #[.pointer (some ⟨g,0,none⟩)] #[]) w):=by
  have k:=ga hb hr
  unfold SM.fn at k
  rw[h] at k
  exact k
theorem nQ{w:World}{g:Nat}{S:SM}{A:Option Addr}{cp:Nat}(hb:lg w g S A cp)(hr:aS true w (.slice A S.held.length cp) S.held)(h:S.nx=2) : Calls Tryz.prog 186 #[.pointer (some ⟨g,0,none⟩)] w (bv (.func (.func 189) #[.pointer (some ⟨g,0,none⟩)] #[]) w):=by
  have k:=ga hb hr
  unfold SM.fn at k
  rw[h] at k
  exact k
theorem pf{w:World}{g:Nat}{S:SM}{A:Option Addr}{cp:Nat}(hb:lg w g S A cp)(hr:aS true w (.slice A S.held.length cp) S.held)(h:S.nx=3) : Calls Tryz.prog 186 #[.pointer (some ⟨g,0,none⟩)] w (bv (.func (.func 190) #[.pointer (some ⟨g,0,none⟩)] #[]) w):=by
  have k:=ga hb hr
  unfold SM.fn at k
  rw[h] at k
  exact k
def SM.ok (S:SM) : Prop:=(0≤S.skip∧S.skip<65536)∧(∀ x,x∈S.held→0≤x∧x<256)∧(S.held.length<6∨2≤S.size∧S.size≤254∧(S.held.length:Int)<6+S.size)
theorem SM.ok_le{S:SM}(h:S.ok) : S.held.length≤259:=by
  obtain⟨_,_,h|h⟩:=h
  · omega
  · omega
theorem SM.size_app{S:SM}{c:Int}(h:6≤S.held.length) : (SM.mk S.dir (S.held++[c]) S.skip).size=S.size:=by
  unfold SM.size
  simp only[List.getD_eq_getElem?_getD]
  rw[List.getElem?_append_left (by omega),List.getElem?_append_left (by omega)]
theorem SM.byte_ok{S S2:SM}{c:Int}{L2:List Ev}(h:S.ok)(hc:0≤c∧c<256)(hx:S.byte c=(S2,L2)) : S2.ok∧L2.length≤1:=by
  obtain⟨h1,h2,h3⟩:=h
  unfold SM.byte at hx
  split at hx
  · injection hx with e1 e2
    subst e1 e2
    exact⟨⟨⟨by show 0≤S.skip-1;omega,by show S.skip-1<65536;omega⟩,h2,h3⟩,Nat.zero_le _⟩
  have hr:∀ x,x∈(SM.mk S.dir (S.held++[c]) S.skip).held→0≤x∧x<256:=fun x hx=>by
    rcases List.mem_append.1 hx with h|h
    · exact h2 x h
    · rw[List.mem_singleton] at h;rw[h];exact hc
  have hz:=SM.size_rng hr
  have hn:∀ d k,(0≤k∧k<65536)→(SM.mk d [] k).ok:=fun d k hk=>⟨hk,fun x hx=>(by cases hx),.inl (show 0<6 by omega)⟩
  unfold SM.does at hx
  have hnx:∀ i,(SM.mk S.dir (S.held++[c]) S.skip).nx=i→i=0∨i=1∨i=2∨i=3:=by
    intro i hi
    subst hi
    unfold SM.nx
    (repeat' split)<;>simp
  rcases hnx _ rfl with e|e|e|e<;>rw[e] at hx<;>injection hx with e1 e2<;>subst e1 e2
  · refine⟨⟨h1,hr,?_⟩,Nat.zero_le _⟩
    unfold SM.nx at e
    by_cases h6:(SM.mk S.dir (S.held++[c]) S.skip).held.length<6
    · exact .inl h6
    rw[if_neg h6] at e
    split at e
    · cases e
    split at e
    · cases e
    split at e
    · cases e
    rename_i k1 k2 k3
    refine .inr ⟨by omega,by omega,?_⟩
    have hl:(SM.mk S.dir (S.held++[c]) S.skip).held.length=S.held.length+1:=by simp
    rcases h3 with h3|⟨h4,h5,h7⟩
    · omega
    · by_cases h8:6≤S.held.length
      · rw[SM.size_app h8] at k1 k2 k3 ⊢
        omega
      · omega
  · exact⟨hn _ _ hz,Nat.le_refl _⟩
  · exact⟨hn _ _ hz,Nat.le_refl _⟩
  · exact⟨hn _ _ h1,Nat.le_refl _⟩
theorem jJ{S0 T T2:SM}{L L2:List Ev}{b:List Int}{k:Nat}(hk:k<b.length)(h:(T,L)=S0.feed (b.take k))(hx:T.byte (b.getD k 0)=(T2,L2)) : (T2,L++L2)=S0.feed (b.take (k+1)):=by
  rw[List.take_succ_eq_append_getElem hk]
  unfold SM.feed at h ⊢
  rw[List.foldl_append,← h]
  rw[List.getD_eq_getElem?_getD,List.getElem?_eq_getElem hk] at hx
  simp only[Option.getD_some] at hx
  simp only[List.foldl_cons,List.foldl_nil,hx]
theorem oQ{S0 T T2:SM}{L:List Ev}{b:List Int}{k:Nat}(hk:k<b.length)(h:(T,L)=S0.feed (b.take k))(hx:T.byte (b.getD k 0)=(T2,[])) : (T2,L)=S0.feed (b.take (k+1)):=by
  have:=jJ hk h hx
  rwa [List.append_nil] at this
theorem tH{T:SM}{c:Int}(h:0<T.skip) : T.byte c=(⟨T.dir,T.held,T.skip-1⟩,[]):=by unfold SM.byte;rw[if_pos h]
theorem zB{T:SM}{c:Int}(h:¬ 0<T.skip)(e:(SM.mk T.dir (T.held++[c]) T.skip).nx=0) : T.byte c=(⟨T.dir,T.held++[c],T.skip⟩,[]):=by unfold SM.byte;rw[if_neg h];unfold SM.does;rw[e];rfl
theorem zx{T:SM}{c:Int}(h:¬ 0<T.skip)(e:(SM.mk T.dir (T.held++[c]) T.skip).nx=1) : T.byte c=(⟨T.dir,[],(SM.mk T.dir (T.held++[c]) T.skip).size⟩,[Ev.bad 3]):=by unfold SM.byte;rw[if_neg h];unfold SM.does;rw[e];rfl
theorem zv{T:SM}{c:Int}(h:¬ 0<T.skip)(e:(SM.mk T.dir (T.held++[c]) T.skip).nx=2) : T.byte c=(⟨T.dir,[],(SM.mk T.dir (T.held++[c]) T.skip).size⟩,[Ev.bad 5]):=by unfold SM.byte;rw[if_neg h];unfold SM.does;rw[e];rfl
theorem zw{T:SM}{c:Int}{F:cm}{E:Int}(h:¬ 0<T.skip)(e:(SM.mk T.dir (T.held++[c]) T.skip).nx=3)(hX:cn T.dir (T.held++[c])=(F,E)) : T.byte c=(⟨T.dir,[],T.skip⟩,[⟨E,F⟩]):=by
  unfold SM.byte
  rw[if_neg h]
  unfold SM.does
  rw[e]
  show(SM.mk T.dir [] T.skip,[Ev.mk (cn T.dir (T.held++[c])).2 (cn T.dir (T.held++[c])).1])=_
  rw[hX]
theorem lv{w:World}{g:Nat}{d k:Int}{h:List Int}{A:Option Addr}{cp:Nat}{F:cm}{E:Int}(hX:cn d h=(F,E))(hb:lg w g ⟨d,h,k⟩ A cp)(hr:aS true w (.slice A h.length cp) h)(hl:h.length≤1048576) : Calls Tryz.prog 190 #[.pointer (some ⟨g,0,none⟩)] w (Ay ⟨d,[],k⟩ [⟨E,F⟩] g w):=by
  have q:=nv (S:=⟨d,h,k⟩) hb hr hl
  rw[hX] at q
  exact q
def C9 (base n0:Nat)(S2:SM)(L:List Ev)(g:Nat)(A:Option Addr)(w:World)(e:Ending)(w':World) : Prop:=∃ v A2 cp2 n2,e = .returned v∧dv n2 w.heap.size w' v L∧lg w' g S2 A2 cp2∧cz base w' (.slice A2 S2.held.length cp2) S2.held∧(∀ x,x∈ob A2→x∈ob A∨w.heap.size≤x)∧(n0≤n2∧n2≤w'.heap.size)∧(∀ x,x∈ob A2→n2≤x)∧ay (g :: (ob A++[])) w w'
theorem jW{b:List Int}(h:∀ x,x∈b→0≤x∧x<256)(k:Nat) : 0≤b.getD k 0∧b.getD k 0<256:=by
  rw[List.getD_eq_getElem?_getD]
  cases hj:b[k]? with
  | none=>simp
  | some x=>exact h x (List.mem_of_getElem? hj)
theorem p4{w:World}{g base:Nat}{S:SM}{A:Option Addr}{cp:Nat}{m:Bool}{B:Option Addr}{cpb:Nat}{b:List Int}(hb:lg w g S A cp)(ho:cz base w (.slice A S.held.length cp) S.held)(hbs:base≤w.heap.size)(hok0:S.ok){n0:Nat}(hn0:n0≤w.heap.size)(hlo:∀ x,x∈ob A→n0≤x)(hsl:aS m w (.slice B b.length cpb) b)(hdg:0<b.length→∀ x,x∈ob B→x≠g)(hda:lD b.length B (ob A))(hbl:b.length≤1048576) :
    Calls Tryz.prog 184 #[.pointer (some ⟨g,0,none⟩),.slice B b.length cpb] w (C9 base n0 (S.feed b).1 (S.feed b).2 g A w):=by
 have hdl:=aR.low hsl
 have hok0l:=SM.ok_le hok0
 have hrb:=aS.range hsl
 refine en 47 Tryz.func184 rfl<|sg<|Pl 1<|ng<|Pl 1<|nt<|sq<|sg<|?_
 refine Pl 3<|nt<|bk<|?_
 refine ie (fun x=>[(0,.pointer (some ⟨g,0,none⟩)),(4,.slice none 0 0),(5,.slice x.2.2.2.2.2.1 x.2.2.1.length x.2.2.2.2.2.2.1),(9,.slice B b.length cpb),(10,.int .i64 ((b.length:Nat) : Int)),(11,.int .i64 ((x.1:Nat) : Int))]) (fun(x:Nat × SM × List Ev × Option Addr × Nat × Option Addr × Nat × Nat) w'=>ay (g :: (ob A++[])) w w'∧lg w' g x.2.1 x.2.2.2.1 x.2.2.2.2.1∧cz base w' (.slice x.2.2.2.1 x.2.1.held.length x.2.2.2.2.1) x.2.1.held∧dv x.2.2.2.2.2.2.2 w.heap.size w' (.slice x.2.2.2.2.2.1 x.2.2.1.length x.2.2.2.2.2.2.1) x.2.2.1∧x.2.2.2.2.2.2.2≤w'.heap.size∧aS m w' (.slice B b.length cpb) b∧((x.2.1,x.2.2.1)=S.feed (b.take x.1))∧(x.2.1.ok)∧(x.2.1.held.length≤259)∧(x.1≤b.length)∧(x.2.2.1.length≤x.1)∧(∀ y,y∈ob x.2.2.2.1→y∈ob A∨w.heap.size≤y)∧(n0≤x.2.2.2.2.2.2.2)∧(∀ y,y∈ob x.2.2.2.1→x.2.2.2.2.2.2.2≤y)) (fun x=>b.length-x.1) (0,S,[],A,cp,none,0,n0) ⟨ay.refl _ _,hb,ho,(aL.nil w.heap.size _ _ (bo n0) _),(Nat.le_trans hn0 lr),hsl,rfl,hok0,hok0l,(by(try dsimp only);exact Nat.zero_le _),(by(try dsimp only);exact Nat.zero_le _),iH,(by(try dsimp only);exact Nat.le_refl _),hlo⟩ ?_
 rintro⟨k,T,L,Ah,ch,Bq,cq,n⟩ D ⟨l,aN,aQ,aT,aU,aV,aW,aX,aY,aZ,b0,b1,b2,b3⟩
 refine ik [(0,.pointer (some ⟨g,0,none⟩)),(4,.slice none 0 0),(5,.slice Bq L.length cq),(9,.slice B b.length cpb),(10,.int .i64 ((b.length:Nat) : Int)),(11,.int .i64 ((k:Nat) : Int))] ?_
 have f:lg D g T Ah ch:=aN
 have j:cz base D (.slice Ah T.held.length ch) T.held:=aQ
 have a:dv n w.heap.size D (.slice Bq L.length cq) L:=aT
 have b4:n≤D.heap.size:=aU
 have hnl:=b4
 have u:aS m D (.slice B b.length cpb) b:=aV
 have b5:(T,L)=S.feed (b.take k):=aW
 have b6:T.ok:=aX
 have bH:T.held.length≤259:=aY
 have bI:k≤b.length:=aZ
 have bJ:L.length≤k:=b0
 have b7:∀ y,y∈ob Ah→y∈ob A∨w.heap.size≤y:=b1
 have b8:n0≤n:=b2
 have b9:∀ y,y∈ob Ah→n≤y:=b3
 have hlow:=b9
 have hn0l:=b8
 have hat0:=b7
 have hok:=b6
 have hpj:=b5
 have hle:=SM.ok_le hok
 have hsk:=hok.1
 refine sg<|Pl 1<|nt<|sq<|cb ((decide (((k:Nat) : Int)<((b.length:Nat) : Int)))) (fun X=>?_) (fun X=>?_)
 have ba:=of_decide_eq_true X
 refine bK<|sq<|bk<|sg<|i8 (aS.at_ u k (by omega)) fun bb bc bd be bL=>L0<|pn b.length k bd (by omega)<|L0<|lf (p:=⟨bb,bc+k,none⟩) (v:=.int .u8 (b.getD k 0)) be<|Pl 1<|nt<|sq<|sq<|?_
 refine go<|Pl 3<|L0<|aP f 2<|Pl 1<|nt<|cb ((decide (0<T.skip))) (fun Y=>?_) (fun Y=>?_)
 have z:=of_decide_eq_true Y
 refine sg<|Pl 3<|L0<|aP f 2<|L0<|Oi (T.skip-1)<|Pl 2<|L0<|co f 2 #[.int .i64 T.dir,.slice Ah T.held.length ch,.int .i64 (T.skip-1)] fun bM bf C=>nt<|xt<|tx<|bx<|tn<|go<|?_
 refine L0<|Oi (((k:Nat) : Int)+1)<|Pl 1<|nl<|?_
 have a2:=tH (T:=T) (c:=(b.getD k 0)) z
 have a3:=SM.byte_ok hok (jW hrb k) a2
 exact ew ((k+1),(SM.mk T.dir T.held (T.skip-1)),L,Ah,ch,Bq,cq,n) ⟨(u1 l C im),bf,(ak j C (fun x hx=>(ae (fun e=>(bB f j (by decide)) (e▸hx)) az)) (fun _ _ h=>h)),(ak a C (fun x hx=>(ae (fun e=>(aC (am hb) lr a) (e▸hx)) az)) (fun x cs q=>bo.upd C (eP f (by decide) bO) q)),(Nat.le_trans hnl C.size),(aS.far u C (dV hdg eD)),(by(try dsimp only);exact oQ (by omega) hpj a2),(by(try dsimp only);exact a3.1),(by(try dsimp only);have q:=SM.ok_le a3.1;exact q),(by(try dsimp only);omega),(by(try dsimp only);(try simp only[List.length_append,List.length_cons,List.length_nil]);omega),(by(try dsimp only);exact hat0),(by(try dsimp only);exact hn0l),(by(try dsimp only);exact hlow)⟩ (by omega)
 have z:=of_decide_eq_false Y
 refine bK<|sg<|Pl 4<|L0<|aP f 1<|Pl 1<|L0<|cR (m:=1) (e:=5) #[.int .u8 (b.getD k 0)] fun bN bP bg bh o=>?_
 have bi:=cW bg (xs:=[(b.getD k 0)]) (by as_aux_lemma=>kernel_rfl) (ap (by omega) aO) (by(try simp only[List.length_cons,List.length_nil]);omega) bh
 refine L0<|jC (R:=np) (xs:=T.held) (ys:=([(b.getD k 0)])) (.int .u8 0) 1 1 (ak j o (fun x hx=>az) (fun _ _ h=>h)) (bi).rd rT (fun _ _ _ _ h=>h) (by(try simp only[List.length_append,List.length_cons,List.length_nil,av]);omega) (Nat.le_trans hbs (le l.size o.size)) fun a4 a5 bQ r J a6=>Pl 2<|?_
 have a7:=ut (ay.mono (S':=(ob Ah++[])) o au) J (ai il au)
 have E:=ay.blk a7 (aH (bB f j (by decide)) az) f
 refine L0<|co E 1 #[.int .i64 T.dir,.slice a4 ((T.held++[(b.getD k 0)]).length) a5,.int .i64 T.skip] fun bR s t=>ng<|Pl 1<|?_
 have F:=u1 (ay.mono (S':=(ob Ah++(g :: []))) a7 (ai il au)) t im
 have K:=ut l F (ai (jM hat0 il lr) (ac im au))
 refine Ct (SM.mk T.dir (T.held++[(b.getD k 0)]) T.skip) (fun i=>?_) (fun i=>?_) (fun i=>?_) (fun i=>?_)
 have a8:=ak r t (fun x hx=>(ae (fun e=>(bB E r (by decide)) (e▸hx)) az)) (fun _ _ h=>h)
 refine L0<|Oc<|m1 (oE (S:=(SM.mk T.dir (T.held++[(b.getD k 0)]) T.skip)) s (a8).rd i) fun bS M=>Pl 1<|ng<|Pl 2<|nt<|c0<|sk<|bn<|tn<|go<|?_
 refine L0<|Oi (((k:Nat) : Int)+1)<|Pl 1<|nl<|?_
 have N:=aD F M
 have a9:=zB (T:=T) (c:=(b.getD k 0)) z i
 have aa:=SM.byte_ok hok (jW hrb k) a9
 exact ew ((k+1),(SM.mk T.dir (T.held++[(b.getD k 0)]) T.skip),L,a4,a5,Bq,cq,n) ⟨(aD K M),(ub M s),(ak a8 M (fun x hx=>az) (fun _ _ h=>h)),(ak a N (fun x hx=>(aH ((cT a j (by decide)) x hx) (ae (fun e=>(aC (am hb) lr a) (e▸hx)) az))) (fun x cs q=>bo.upd N (gP hlow (eP f (by decide) bO)) q)),(Nat.le_trans hnl N.size),(aS.far u N (dt (fv hda hdl hat0) (dV hdg eD))),(by(try dsimp only);exact oQ (by omega) hpj a9),(by(try dsimp only);exact aa.1),(by(try dsimp only);have q:=SM.ok_le aa.1;exact q),(by(try dsimp only);omega),(by(try dsimp only);(try simp only[List.length_append,List.length_cons,List.length_nil]);omega),(by(try dsimp only);exact(j4 a6 hat0 (le l.size o.size))),(by(try dsimp only);exact hn0l),(by(try dsimp only);exact(s5 a6 hlow (Nat.le_trans hnl o.size)))⟩ (by omega)
 have ab:=ak r t (fun x hx=>(ae (fun e=>(bB E r (by decide)) (e▸hx)) az)) (fun _ _ h=>h)
 refine L0<|Oc<|m1 (nM (S:=(SM.mk T.dir (T.held++[(b.getD k 0)]) T.skip)) s (ab).rd i) fun bT O=>Pl 1<|ng<|Pl 2<|nt<|c1<|go<|Pl 2<|?_
 refine L0<|fj #[.pointer (some ⟨g,0,none⟩)] #[] (args:=#[.pointer (some ⟨g,0,none⟩)])<|si (pv (S:=(SM.mk T.dir (T.held++[(b.getD k 0)]) T.skip)) (ub O s) ((ak ab O (fun x hx=>az) (fun _ _ h=>h))).rd (zS (by rw[i];decide))) fun bU bV Z bj bW bX bl ad=>?_
 have af:=uz O ad
 have G:=u1 F af im
 have ag:=ak a G (fun x hx=>(aH ((cT a j (by decide)) x hx) (ae (fun e=>(aC (am hb) lr a) (e▸hx)) az))) (fun x cs q=>bo.upd G (gP hlow (eP f (by decide) bO)) q)
 have bm:n≤Z.heap.size:=Nat.le_trans hnl G.size
 refine L0<|jC (R:=bo Z.heap.size) (xs:=L) (ys:=([Ev.bad 3])) (.agg #[.int .i64 0,.int .u8 0,.int .u16 0,.int .u8 0,.int .u8 0,.int .u16 0,.int .u16 0,.int .u16 0,.int .u16 0,.int .u16 0,.int .u16 0,.int .u16 0,.int .u16 0,.int .u16 0,.int .u16 0,.slice none 0 0,.slice none 0 0,.slice none 0 0,.slice none 0 0,.int .u8 0,.int .u8 0,.int .u8 0,.int .u8 0,.int .u8 0,.slice none 0 0]) 25 168 (dv.up bm (Nat.le_refl _) ag) (i3.low bj).rd bo.ones (fun w' hv x cs q=>bo.upd hv (iW ag (by decide) bO) q) (by(try simp only[List.length_append,List.length_cons,List.length_nil,av]);omega) (le (le (le (le (le l.size o.size) J.size) t.size) O.size) ad.size) fun bp bq bY br P bZ=>Pl 1<|nl<|bn<|tn<|go<|L0<|Oi (((k:Nat) : Int)+1)<|Pl 1<|nl<|?_
 have ah:=zx (T:=T) (c:=(b.getD k 0)) z i
 have aj:=SM.byte_ok hok (jW hrb k) ah
 exact ew ((k+1),(SM.mk T.dir [] (SM.mk T.dir (T.held++[(b.getD k 0)]) T.skip).size),(L++[Ev.bad 3]),none,0,bp,bq,Z.heap.size) ⟨(ut K (ut (ay.mono (S':=(g :: (ob Bq++[]))) af (ac im au)) P (ai il au)) (ac im (ai (aI a lr) au))),(ay.blk P (aH (aC (am hb) lr a) az) bl),(aL.nil base _ _ np _),br,P.size,(aS.far u (ut (ay.mono (S':=(ob Ah++(g :: (ob Bq++[])))) G (ai il (ac im au))) P (ai il au)) (dt (fv hda hdl hat0) (dV hdg (dt (eE hdl a (Nat.le_refl _)) eD)))),(by(try dsimp only);exact jJ (by omega) hpj ah),(by(try dsimp only);exact aj.1),(by(try dsimp only);have q:=SM.ok_le aj.1;exact q),(by(try dsimp only);omega),(by(try dsimp only);(try simp only[List.length_append,List.length_cons,List.length_nil]);omega),(by(try dsimp only);exact eg),(by(try dsimp only);exact Nat.le_trans hn0l (Nat.le_trans hnl G.size)),(by(try dsimp only);exact cJ)⟩ (by omega)
 have al:=ak r t (fun x hx=>(ae (fun e=>(bB E r (by decide)) (e▸hx)) az)) (fun _ _ h=>h)
 refine L0<|Oc<|m1 (nQ (S:=(SM.mk T.dir (T.held++[(b.getD k 0)]) T.skip)) s (al).rd i) fun c2 Q=>Pl 1<|ng<|Pl 2<|nt<|c1<|go<|Pl 2<|?_
 refine L0<|fj #[.pointer (some ⟨g,0,none⟩)] #[] (args:=#[.pointer (some ⟨g,0,none⟩)])<|si (oM (S:=(SM.mk T.dir (T.held++[(b.getD k 0)]) T.skip)) (ub Q s) ((ak al Q (fun x hx=>az) (fun _ _ h=>h))).rd (zS (by rw[i];decide))) fun c3 c4 a0 bs c5 c6 bt an=>?_
 have ao:=uz Q an
 have H:=u1 F ao im
 have aq:=ak a H (fun x hx=>(aH ((cT a j (by decide)) x hx) (ae (fun e=>(aC (am hb) lr a) (e▸hx)) az))) (fun x cs q=>bo.upd H (gP hlow (eP f (by decide) bO)) q)
 have bu:n≤a0.heap.size:=Nat.le_trans hnl H.size
 refine L0<|jC (R:=bo a0.heap.size) (xs:=L) (ys:=([Ev.bad 5])) (.agg #[.int .i64 0,.int .u8 0,.int .u16 0,.int .u8 0,.int .u8 0,.int .u16 0,.int .u16 0,.int .u16 0,.int .u16 0,.int .u16 0,.int .u16 0,.int .u16 0,.int .u16 0,.int .u16 0,.int .u16 0,.slice none 0 0,.slice none 0 0,.slice none 0 0,.slice none 0 0,.int .u8 0,.int .u8 0,.int .u8 0,.int .u8 0,.int .u8 0,.slice none 0 0]) 25 168 (dv.up bu (Nat.le_refl _) aq) (i3.low bs).rd bo.ones (fun w' hv x cs q=>bo.upd hv (iW aq (by decide) bO) q) (by(try simp only[List.length_append,List.length_cons,List.length_nil,av]);omega) (le (le (le (le (le l.size o.size) J.size) t.size) Q.size) an.size) fun bv bw c7 bz U c8=>Pl 1<|nl<|bn<|tn<|go<|L0<|Oi (((k:Nat) : Int)+1)<|Pl 1<|nl<|?_
 have ar:=zv (T:=T) (c:=(b.getD k 0)) z i
 have aw:=SM.byte_ok hok (jW hrb k) ar
 exact ew ((k+1),(SM.mk T.dir [] (SM.mk T.dir (T.held++[(b.getD k 0)]) T.skip).size),(L++[Ev.bad 5]),none,0,bv,bw,a0.heap.size) ⟨(ut K (ut (ay.mono (S':=(g :: (ob Bq++[]))) ao (ac im au)) U (ai il au)) (ac im (ai (aI a lr) au))),(ay.blk U (aH (aC (am hb) lr a) az) bt),(aL.nil base _ _ np _),bz,U.size,(aS.far u (ut (ay.mono (S':=(ob Ah++(g :: (ob Bq++[])))) H (ai il (ac im au))) U (ai il au)) (dt (fv hda hdl hat0) (dV hdg (dt (eE hdl a (Nat.le_refl _)) eD)))),(by(try dsimp only);exact jJ (by omega) hpj ar),(by(try dsimp only);exact aw.1),(by(try dsimp only);have q:=SM.ok_le aw.1;exact q),(by(try dsimp only);omega),(by(try dsimp only);(try simp only[List.length_append,List.length_cons,List.length_nil]);omega),(by(try dsimp only);exact eg),(by(try dsimp only);exact Nat.le_trans hn0l (Nat.le_trans hnl H.size)),(by(try dsimp only);exact cJ)⟩ (by omega)
 have ax:=ak r t (fun x hx=>(ae (fun e=>(bB E r (by decide)) (e▸hx)) az)) (fun _ _ h=>h)
 refine L0<|Oc<|m1 (pf (S:=(SM.mk T.dir (T.held++[(b.getD k 0)]) T.skip)) s (ax).rd i) fun c9 V=>Pl 1<|ng<|Pl 2<|nt<|c1<|go<|Pl 2<|?_
 refine pr (cn T.dir (T.held++[(b.getD k 0)])) fun aA aB aE=>?_
 refine L0<|fj #[.pointer (some ⟨g,0,none⟩)] #[] (args:=#[.pointer (some ⟨g,0,none⟩)])<|si (lv (d:=T.dir) (h:=T.held++[(b.getD k 0)]) (k:=T.skip) aE (ub V s) ((ak ax V (fun x hx=>az) (fun _ _ h=>h))).rd (by simp only[List.length_append,List.length_cons,List.length_nil];omega)) fun ca cc a1 bA cd ce bC aF=>?_
 have aG:=uz V aF
 have I:=u1 F aG im
 have aJ:=ak a I (fun x hx=>(aH ((cT a j (by decide)) x hx) (ae (fun e=>(aC (am hb) lr a) (e▸hx)) az))) (fun x cs q=>bo.upd I (gP hlow (eP f (by decide) bO)) q)
 have bD:n≤a1.heap.size:=Nat.le_trans hnl I.size
 refine L0<|jC (R:=bo a1.heap.size) (xs:=L) (ys:=([Ev.mk aB aA])) (.agg #[.int .i64 0,.int .u8 0,.int .u16 0,.int .u8 0,.int .u8 0,.int .u16 0,.int .u16 0,.int .u16 0,.int .u16 0,.int .u16 0,.int .u16 0,.int .u16 0,.int .u16 0,.int .u16 0,.int .u16 0,.slice none 0 0,.slice none 0 0,.slice none 0 0,.slice none 0 0,.int .u8 0,.int .u8 0,.int .u8 0,.int .u8 0,.int .u8 0,.slice none 0 0]) 25 168 (dv.up bD (Nat.le_refl _) aJ) (i3.low bA).rd bo.ones (fun w' hv x cs q=>bo.upd hv (iW aJ (by decide) bO) q) (by(try simp only[List.length_append,List.length_cons,List.length_nil,av]);omega) (le (le (le (le (le l.size o.size) J.size) t.size) V.size) aF.size) fun bE bF cf bG W cg=>Pl 1<|nl<|bn<|tn<|go<|L0<|Oi (((k:Nat) : Int)+1)<|Pl 1<|nl<|?_
 have aK:=zw (T:=T) (c:=(b.getD k 0)) z i aE
 have aM:=SM.byte_ok hok (jW hrb k) aK
 exact ew ((k+1),(SM.mk T.dir [] T.skip),(L++[Ev.mk aB aA]),none,0,bE,bF,a1.heap.size) ⟨(ut K (ut (ay.mono (S':=(g :: (ob Bq++[]))) aG (ac im au)) W (ai il au)) (ac im (ai (aI a lr) au))),(ay.blk W (aH (aC (am hb) lr a) az) bC),(aL.nil base _ _ np _),bG,W.size,(aS.far u (ut (ay.mono (S':=(ob Ah++(g :: (ob Bq++[])))) I (ai il (ac im au))) W (ai il au)) (dt (fv hda hdl hat0) (dV hdg (dt (eE hdl a (Nat.le_refl _)) eD)))),(by(try dsimp only);exact jJ (by omega) hpj aK),(by(try dsimp only);exact aM.1),(by(try dsimp only);have q:=SM.ok_le aM.1;exact q),(by(try dsimp only);omega),(by(try dsimp only);(try simp only[List.length_append,List.length_cons,List.length_nil]);omega),(by(try dsimp only);exact eg),(by(try dsimp only);exact Nat.le_trans hn0l (Nat.le_trans hnl I.size)),(by(try dsimp only);exact cJ)⟩ (by omega)
 have ba:=of_decide_eq_false X
 refine xt<|tx<|tx<|bx<|tn<|sg<|Pl 2<|nt<|rt<|rr (.slice Bq L.length cq)<|?_
 have hs:S.feed b=(T,L):=by rw[hpj,List.take_of_length_le (by omega)]
 rw[hs]
 exact⟨_,Ah,ch,n,rfl,a,f,j,hat0,⟨hn0l,Nat.le_trans hnl lr⟩,hlow,l⟩
open Go.RowKit
def cX (n base:Nat)(w:World)(g:Nat)(A:Option Addr)(cp:Nat)(S:SM) : Prop:=lg w g S A cp∧cz base w (.slice A S.held.length cp) S.held∧S.ok∧n≤w.heap.size∧(∀ x,x∈ob A→n≤x)∧base≤w.heap.size
section
variable {n base g cp:Nat}{w w':World}{A:Option Addr}{S:SM}{X:List Nat}
theorem cX.row(h:cX n base w g A cp S) : cz base w (.slice A S.held.length cp) S.held:=h.2.1
theorem cX.low(h:cX n base w g A cp S) : ∀ x,x∈ob A→n≤x:=h.2.2.2.2.1
theorem cX.nle(h:cX n base w g A cp S) : n≤w.heap.size:=h.2.2.2.1
theorem cX.le(h:cX n base w g A cp S) : S.held.length≤259:=SM.ok_le h.2.2.1
theorem cX.lt(h:cX n base w g A cp S) : g<w.heap.size:=am h.1
theorem cX.cells(h:cX n base w g A cp S) : ∃ cs fr,w.heap[g]? = some (.cells cs 131 fr):=⟨_,_,h.1⟩
theorem cX.upd(h:cX n base w g A cp S)(hu:ay X w w')(hg:g∉X)(hr:∀ x,x∈ob A→x∉X) : cX n base w' g A cp S :=
  ⟨hu.blk hg h.1,ak h.2.1 hu hr (fun _ _ q=>q),h.2.2.1,Nat.le_trans h.2.2.2.1 hu.size,h.2.2.2.2.1,Nat.le_trans h.2.2.2.2.2 hu.size⟩
end
theorem SM.feed_ok:∀ (b:List Int)(S:SM)(L:List Ev),S.ok→(∀ x,x∈b→0≤x∧x<256)→(b.foldl (fun(p:SM × List Ev) c=>((p.1.byte c).1,p.2++(p.1.byte c).2)) (S,L)).1.ok∧(b.foldl (fun(p:SM × List Ev) c=>((p.1.byte c).1,p.2++(p.1.byte c).2)) (S,L)).2.length≤L.length+b.length
  | [],S,L,h,_=>⟨h,Nat.le_refl _⟩
  | c :: t,S,L,h,hb=>by
    have k:=SM.byte_ok (S2:=(S.byte c).1) (L2:=(S.byte c).2) h (hb c (List.mem_cons_self ..)) rfl
    have q:=SM.feed_ok t (S.byte c).1 (L++(S.byte c).2) k.1 (fun x hx=>hb x (List.mem_cons_of_mem _ hx))
    refine⟨q.1,Nat.le_trans q.2 ?_⟩
    rw[List.length_append,List.length_cons]
    omega
theorem SM.feed_le{S S2:SM}{b:List Int}{L:List Ev}(h:S.ok)(hb:∀ x,x∈b→0≤x∧x<256)(hX:S.feed b=(S2,L)) : L.length≤b.length:=by
  have q:=(SM.feed_ok b S [] h hb).2
  have e:L=(S.feed b).2:=(congrArg Prod.snd hX).symm
  rw[e]
  rw[List.length_nil,Nat.zero_add] at q
  exact q
def Cu (n base:Nat)(S2:SM)(L:List Ev)(g:Nat)(A:Option Addr)(w:World)(e:Ending)(w':World) : Prop:=∃ v A2 cp2 n2,e = .returned v∧dv n2 w.heap.size w' v L∧cX n2 base w' g A2 cp2 S2∧(∀ x,x∈ob A2→x∈ob A∨w.heap.size≤x)∧n≤n2∧ay (g :: (ob A++[])) w w'
theorem pI{w:World}{n base g cp cpb nb:Nat}{S S2:SM}{L:List Ev}{A B:Option Addr}{m:Bool}{b:List Int}(hX:S.feed b=(S2,L))(h:cX n base w g A cp S)(hsl:aS m w (.slice B nb cpb) b)(hdg:0<nb→∀ x,x∈ob B→x≠g)(hda:lD nb B (ob A))(hbl:b.length≤1048576) :
    Calls Tryz.prog 184 #[.pointer (some ⟨g,0,none⟩),.slice B nb cpb] w (Cu n base S2 L g A w):=by
  obtain⟨h1,h2,h3,h4,h5,h6⟩:=h
  obtain rfl:nb=b.length:=by
    obtain⟨_,_,e,_⟩:=hsl.shape
    injection e
  refine(p4 h1 h2 h6 h3 h4 h5 hsl hdg hda hbl).mono ?_
  rintro e w' ⟨v,A2,cp2,n2,he,k1,k2,k3,k4,⟨k5,k6⟩,k7,k8⟩
  have hok:=(SM.feed_ok b S [] h3 (aS.range hsl)).1
  rw[hX] at k1 k2 k3
  have e2:S2=(S.feed b).1:=(congrArg Prod.fst hX).symm
  exact⟨v,A2,cp2,n2,he,k1,⟨k2,k3,by rw[e2];exact hok,k6,k7,Nat.le_trans h6 k8.size⟩,k4,k5,k8⟩
theorem rD(d:Int){w:World}(hq:Calls Tryz.prog 48 #[.int .i64 d] w (fun e w'=>∃ g,e = .returned (.pointer (some ⟨g,0,none⟩))∧w.heap.size≤g∧lg w' g ⟨d,[],0⟩ none 0∧ay [] w w')) :
    Calls Tryz.prog 48 #[.int .i64 d] w (fun e w'=>∃ g,e = .returned (.pointer (some ⟨g,0,none⟩))∧w.heap.size≤g∧cX w.heap.size w.heap.size w' g none 0 ⟨d,[],0⟩∧ay [] w w'):=by
  refine hq.mono ?_
  rintro e w' ⟨g,he,h1,h2,h3⟩
  exact⟨g,he,h1,⟨h2,aL.nil ..,⟨⟨(show(0:Int)≤0 from by decide),(show(0:Int)<65536 from by decide)⟩,(fun x hx=>by cases hx),.inl (show 0<6 from by decide)⟩,h3.size,cJ,h3.size⟩,h3⟩
theorem uS{w:World}{n base g cp:Nat}{S:SM}{A:Option Addr}(h:cX n base w g A cp S) : Calls Tryz.prog 185 #[.pointer (some ⟨g,0,none⟩)] w (bv (.int .i64 ((S.held.length:Nat) : Int)) w):=qu h.1 h.2.1.rd
open Go.RowKit
section
variable {P:Program}{Q:Exit→Act→World→Prop}{n:Nat}{D:List Deferred}{F:Fr}{w:World}{c:Code}{l:Nat}
theorem Cs(h:GC P c (Exit.noGoto Q) n D F w) : GC P (.scope c) Q n D F w:=⟨fun a ha=>wp_scope_straight (h.out a ha)⟩
theorem Cj(h:GQ Q .normal n D F w) : GC P (.label l) Q n D F w:=⟨fun a ha=>wp_label (h.out a ha)⟩
theorem gr(h:GQ Q .ret n D F w) : GQ (Exit.noGoto Q) .ret n D F w:=⟨fun a ha=>h.out a ha⟩
end
open Go.RowKit
abbrev dw (xs:List Int) : Prop:=∀ x,x∈xs→0≤x∧x<256
theorem nh{x:Int}(h:0≤x∧x<256) : ((UInt8.ofNat x.toNat).toNat:Int)=x:=by
  simp only[UInt8.toNat_ofNat']
  omega
theorem i6{xs:List Int}{j:Nat}(hj:j<xs.length)(hs:j<(strOfNums xs).size) : (strOfNums xs)[j]=UInt8.ofNat (xs.getD j 0).toNat:=by
  show(strOfNums xs).data[j]=_
  simp[strOfNums,List.getD_eq_getElem?_getD,List.getElem?_eq_getElem hj]
theorem od{P:Program}{w:World}{ev:Operand→Value}{o:Oper}{x ix:Operand}{t:TypeId}{xs:List Int}{k:IntKind}{i:Int}(j:Nat)(ho:o.op = .index t x ix)(ht:P.underlying t=some .string)(hx:ev x = .string (strOfNums xs))(hi:ev ix = .int k i)(hr:dw xs)(hj:i=(j:Int))(hlt:j<xs.length) : (execOp ev o).run P w = .ok (.value (.int .u8 (xs.getD j 0))) w:=by
  subst hj
  have hs:j<(strOfNums xs).size:=by rw[strOfNums_size];exact hlt
  have h:=run_index_string (P:=P) w t (strOfNums xs) k (j:Int) ht
  rw[dif_pos (by omega)] at h
  have hg:xs.getD j 0∈xs:=by
    rw[List.getD_eq_getElem?_getD,List.getElem?_eq_getElem hlt]
    exact List.getElem_mem hlt
  unfold execOp
  simp only[ho,hx,hi,Sem.run_bind,h,Result.andThen,Sem.run_pure]
  have e:((strOfNums xs)[((j:Nat) : Int).toNat]'(by simpa using hs))=UInt8.ofNat (xs.getD j 0).toNat:=by
    simp only[Int.toNat_natCast]
    exact i6 hlt hs
  rw[e,nh (hr _ hg)]
theorem fx(xs:List Int)(a b:Nat)(hb:b≤xs.length) : (strOfNums xs).extract a b=strOfNums ((xs.take b).drop a):=by
  apply ByteArray.ext
  rw[ByteArray.data_extract]
  apply Array.toList_inj.1
  rw[Array.toList_extract]
  simp[strOfNums,List.extract,List.map_drop,List.map_take,List.drop_take]
theorem lM{P:Program}{w:World}{ev:Operand→Value}{o:Oper}{x y:Operand}{t:TypeId}{xs:List Int}{k:IntKind}{i:Int}(j:Nat)(ho:o.op = .slice t x (some y) none none)(ht:P.underlying t=some .string)(hx:ev x = .string (strOfNums xs))(hy:ev y = .int k i)(hj:i=(j:Int))(hlt:j≤xs.length) : (execOp ev o).run P w = .ok (.value (.string (strOfNums (xs.drop j)))) w:=by
  subst hj
  have hu:(underlying t).run P w = .ok .string w:=run_underlying ht w
  have h:=run_slice_string_l (P:=P) w t (strOfNums xs) ht k (j:Int) (by omega) (by rw[strOfNums_size];omega)
  rw[strOfNums_size,fx _ _ _ (Nat.le_refl _),List.take_length,Int.toNat_natCast] at h
  unfold execOp
  simp only[ho,Option.map_some,Option.map_none,hx,hy,Instr.sliceAt,Sem.run_bind,hu,h,Result.andThen,Sem.run_pure]
theorem tL{P:Program}{w:World}{ev:Operand→Value}{o:Oper}{x y:Operand}{t:TypeId}{xs:List Int}{k:IntKind}{i:Int}(j:Nat)(ho:o.op = .slice t x none (some y) none)(ht:P.underlying t=some .string)(hx:ev x = .string (strOfNums xs))(hy:ev y = .int k i)(hj:i=(j:Int))(hlt:j≤xs.length) : (execOp ev o).run P w = .ok (.value (.string (strOfNums (xs.take j)))) w:=by
  subst hj
  have hu:(underlying t).run P w = .ok .string w:=run_underlying ht w
  have h:=run_slice_string_h (P:=P) w t (strOfNums xs) ht k (j:Int) (by omega) (by rw[strOfNums_size];omega)
  rw[Int.toNat_natCast,fx _ _ _ hlt,List.drop_zero] at h
  unfold execOp
  simp only[ho,Option.map_some,Option.map_none,hx,hy,Instr.sliceAt,Sem.run_bind,hu,h,Result.andThen,Sem.run_pure]
theorem lz(xs ys:List Int) : strOfNums xs++strOfNums ys=strOfNums (xs++ys):=by
  apply ByteArray.ext
  simp[strOfNums,ByteArray.data_append]
theorem o9{P:Program}{w:World}{ev:Operand→Value}{o:Oper}{x y:Operand}{t t':TypeId}{a b:ByteArray}{xs ys:List Int}(ho:o.op = .binOp .add t x y t')(hx:ev x = .string a)(hy:ev y = .string b)(ha:a=strOfNums xs)(hb:b=strOfNums ys)(hl:xs.length+ys.length≤1048576) : (execOp ev o).run P w = .ok (.value (.string (strOfNums (xs++ys)))) w:=by
  subst ha hb
  have hg:eqGuard .add t x y (.string (strOfNums xs)) (.string (strOfNums ys))=pure ():=rfl
  unfold execOp
  simp only[ho,hx,hy,hg,Sem.run_bind,Sem.run_pure,Result.andThen]
  have h:(binOp .add t (.string (strOfNums xs)) (.string (strOfNums ys))).run P w = .ok (.string (strOfNums (xs++ys))) w:=by
    show(Op.stringOp .add _ _).run P w=_
    unfold Op.stringOp
    rw[← lz]
    have:¬ ((((strOfNums xs).size+(strOfNums ys).size:Nat) : Int) > IntKind.i64.max):=by
      rw[strOfNums_size,strOfNums_size]
      show ¬ (((xs.length+ys.length:Nat) : Int) > 9223372036854775807)
      omega
    dsimp only
    rw[if_neg this]
    rfl
  rw[h]
theorem o7{xs ys:List Int}(h:dw xs)(k:dw ys) : dw (xs++ys):=fun x hx=>by
  rcases List.mem_append.1 hx with h1|h1
  · exact h x h1
  · exact k x h1
theorem j5{xs:List Int}(h:dw xs)(j:Nat) : dw (xs.drop j):=fun x hx=>h x (List.mem_of_mem_drop hx)
theorem m5{xs:List Int}(h:dw xs)(j:Nat) : dw (xs.take j):=fun x hx=>h x (List.mem_of_mem_take hx)
theorem xD{xs ys:List Int}(hx:dw xs)(hy:dw ys) : ((strOfNums xs).toList==(strOfNums ys).toList)=decide (xs=ys):=by
  have e:∀ zs:List Int,(strOfNums zs).toList=zs.map fun n=>UInt8.ofNat n.toNat:=fun zs=>by
    rw[ByteArray.toList_eq]
    rfl
  rw[e,e]
  by_cases h:xs=ys
  · subst h;simp
  · rw[decide_eq_false h,beq_eq_false_iff_ne]
    exact fun k=>h (j9 xs ys hx hy k)
def iL (base:Nat)(w:World)(v:Value)(xs:List Int) : Prop:=∃ g cap cur n,v = .slice (some ⟨g,0,none⟩) xs.length cap∧base≤g∧w.heap[g]? = some (.cells cur 5 (n,n+1))∧xs.length≤n∧xs.length≤cap∧cap≤maxLen∧cur.toList.take xs.length=xs.map (Value.int .u8)∧dw xs
theorem iL.rd{base:Nat}{w:World}{v:Value}{xs:List Int}(h:iL base w v xs) : aS true w v xs:=by
  obtain⟨g,cap,cur,n,rfl,hb,hh,h1,h2,h3,h4,h5⟩:=h
  refine⟨_,_,rfl,h2,h3,(fun hA=>by cases hA),fun hp=>⟨g,0,cur,_,_,rfl,hh,fun _=>rfl,fun j x hj=>?_⟩⟩
  refine⟨[.int .u8 x],rfl,⟨rfl,h5 x (List.mem_of_getElem? hj)⟩,fun i u hi=>?_⟩
  cases i with
  | succ i=>simp at hi
  | zero =>
    have hi:Value.int .u8 x=u:=by simpa using hi
    subst hi
    have h6:(xs.map (Value.int .u8))[j]? = some (.int .u8 x):=by rw[List.getElem?_map,hj];rfl
    rw[← h4,List.getElem?_take] at h6
    split at h6
    · simpa using h6
    · cases h6
theorem iL.ge{base g m c:Nat}{w:World}{xs:List Int}(h:iL base w (.slice (some ⟨g,0,none⟩) m c) xs) : base≤g:=by
  obtain⟨g',cap,cur,n,hv,hb,_⟩:=h
  injection hv with e1 _ _
  injection e1 with e1
  injection e1 with e1 _
  rw[e1]
  exact hb
theorem iL.shape{base:Nat}{w:World}{v:Value}{xs:List Int}(h:iL base w v xs) : ∃ g cp,v = .slice (some ⟨g,0,none⟩) xs.length cp:=by
  obtain⟨g,cap,cur,n,hv,_⟩:=h
  exact⟨g,cap,hv⟩
theorem nu{P:Program}{w:World}{src dst e:TypeId}{xs:List Int}(hs:P.underlying src=some .string)(hd:P.underlying dst=some (.slice e))(he:P.underlying e=some (.int .u8))(hte:e=5)(hr:dw xs)(hl:xs.length≤1048576) :
    ∃ cp w',(convert src dst (.string (strOfNums xs))).run P w = .ok (.slice (some ⟨w.heap.size,0,none⟩) xs.length cp) w'∧iL w.heap.size w' (.slice (some ⟨w.heap.size,0,none⟩) xs.length cp) xs∧ay [] w w':=by
  subst hte
  have h:=Lib.run_convert_string_bytes (P:=P) w src dst _ (strOfNums xs) hs hd he
  rw[strOfNums_size] at h
  refine⟨_,_,h,⟨_,_,_,_,rfl,Nat.le_refl _,Lib.bytesWorld_at_new w _ (strOfNums xs),?_,?_,?_,?_,hr⟩,?_⟩
  · simp[Lib.bytesCells,strOfNums]
  · exact grownCap_ge ..
  · exact grownCap_le_maxLen _ _ _ _ (by unfold maxLen;omega)
  · simp only[Lib.bytesCells]
    rw[Array.toList_append,List.take_append_of_le_length (by simp[strOfNums])]
    rw[List.take_of_length_le (by simp[strOfNums])]
    simp only[strOfNums,Array.toList_map,List.map_map]
    apply List.map_congr_left
    intro x hx
    show Value.int .u8 _=_
    rw[nh (hr x hx)]
  · exact⟨rfl,rfl,rfl,by rw[Lib.bytesWorld_size];omega,fun k hk _=>Lib.bytesWorld_at_old w _ _ k hk⟩
section
variable {P:Program}{n:Nat}{D:List Deferred}{F:Fr}{w:World}{K:Fr→World→Prop}{Q:Exit→Act→World→Prop}{d:Option Tmp}{t:TypeId}{s:String}{af:Array Edge}{gu:Option (Nat × Bool)}
theorem mW{a:Act}{o:Oper}{N:Option Tmp}{K:Act→World→Prop}{w1:World}(v:Value)(hN:o.dst=N)(hr:(execOp a.eval o).run P w = .ok (.value v) w1)(h:K (a.put N v) w1) : OW P o a w K Q:=by
  refine OW.mk ?_
  subst hN
  unfold Oper.wp
  rw[hr]
  exact h
theorem Cm{src dst:TypeId}{x:Operand}{xs:List Int}(hs:P.underlying src=some .string)(hd:P.underlying dst=some (.slice 5))(he:P.underlying 5=some (.int .u8))(hr:dw xs)(hl:xs.length≤1048576)
    (h:∀ A cp w',iL w.heap.size w' (.slice A xs.length cp) xs→ay [] w w'→K (pt d (.slice A xs.length cp) F) w') (hx:dW F x=some (.string (strOfNums xs)):=by kernel_rfl) (hk:eR n d=true:=by kernel_rfl) : OG P ⟨d,.convert src dst x,t,s,af,gu⟩ n D F w K Q:=by
  obtain⟨cp,w',h1,h2,h3⟩:=nu (P:=P) (w:=w) hs hd he rfl hr hl
  refine⟨fun a ha K' hK=>mW _ rfl (w1:=w') ?_ (hK _ _ _ (h _ _ _ h2 h3) (ha.put hk))⟩
  have hx':=ha.ev hx
  unfold execOp
  simp only[hx',Sem.run_bind,h1,Result.andThen,Sem.run_pure]
theorem AY{ty:TypeId}{x:Operand}{sv:ByteArray}(hs:P.underlying ty=some .string)(h:∀ g w',w.heap.size≤g→w'.heap[g]? = some (.stringIter sv 0)→ay [] w w'→K (pt d (.pointer (some ⟨g,0,none⟩)) F) w')
    (hx:dW F x=some (.string sv):=by kernel_rfl) (hk:eR n d=true:=by kernel_rfl) : OG P ⟨d,.range ty x,t,s,af,gu⟩ n D F w K Q:=by
  refine⟨fun a ha K' hK=>mW (.pointer (some ⟨w.heap.size,0,none⟩)) rfl (w1:=w.alloc (.stringIter sv 0)) ?_ (hK _ _ _ (h _ _ (Nat.le_refl _) (dm _ _) ((ay.refl _ _).alloc _)) (ha.put hk))⟩
  have hx':=ha.ev hx
  unfold execOp
  simp only[hx',Sem.run_bind,run_range_string w ty sv hs,Result.andThen,Sem.run_pure]
  rfl
theorem ta{xs:List Int}(hr:dw xs)(h0:0<xs.length) : ((((Utf8.decode (strOfNums xs) 0).1:Nat) : Int)=58↔xs.getD 0 0=58):=by
  have hs:0<(strOfNums xs).size:=by rw[strOfNums_size];exact h0
  have hm:xs.getD 0 0∈xs:=by
    rw[List.getD_eq_getElem?_getD,List.getElem?_eq_getElem h0]
    exact List.getElem_mem h0
  have hb:=hr _ hm
  have h1:((strOfNums xs).get! 0).toNat=(xs.getD 0 0).toNat:=by
    have e:(strOfNums xs).get! 0=(strOfNums xs)[0]:=by
      show(strOfNums xs).data[0]! = _
      rw[getElem!_pos (strOfNums xs).data 0 hs]
      rfl
    rw[e,i6 h0 hs]
    simp only[UInt8.toNat_ofNat']
    omega
  unfold Utf8.decode
  simp only[Nat.zero_add,h1,Utf8.runeError]
  split
  · omega
  · split
    · split
      · rename_i h2 h3 h4;simp only;omega
      · simp only;omega
    · split
      · split
        · rename_i h2 h3 h4 h5;simp only[Bool.and_eq_true,decide_eq_true_eq] at h5;simp only;omega
        · simp only;omega
      · split
        · split
          · rename_i h2 h3 h4 h5 h6;simp only[Bool.and_eq_true,decide_eq_true_eq] at h6;simp only;omega
          · simp only;omega
        · simp only;omega
theorem Cw{x:Operand}{xs:List Int}{r:Nat}(hr:dw xs)(h0:0<xs.length)(B:w.heap[r]? = some (.stringIter (strOfNums xs) 0))(h:∀ c w',(c=58↔xs.getD 0 0=58)→ay [r] w w'→K (pt d (.tuple #[.bool true,.int .i64 0,.int .i32 c]) F) w')
    (hx:dW F x=some (.pointer (some ⟨r,0,none⟩)):=by kernel_rfl) (hk:eR n d=true:=by kernel_rfl) : OG P ⟨d,.next x true,t,s,af,gu⟩ n D F w K Q:=by
  have hlt:=am B
  have hrun:=Lib.run_next_any_at (P:=P) w r (strOfNums xs) 0 t B (by rw[strOfNums_size];exact h0)
  refine⟨fun a ha K' hK=>mW _ rfl (w1:=w.iterAt r (strOfNums xs) (0+(Utf8.decode (strOfNums xs) 0).2)) ?_ (hK _ _ _ (h (((Utf8.decode (strOfNums xs) 0).1:Nat) : Int) _ (ta hr h0) ?_) (ha.put hk))⟩
  · have hx':=ha.ev hx
    unfold execOp
    simp only[hx',Sem.run_bind,hrun,Result.andThen,Sem.run_pure]
    rfl
  · refine⟨rfl,rfl,rfl,?_,fun k hk hn=>?_⟩
    · simp[World.iterAt]
    · have:r≠k:=fun e=>hn (by simp[e])
      simp[World.iterAt,Array.getElem?_setIfInBounds,this]
end
open Go.RowKit
def i7 (xs ys:List Int) : Bool:=decide (((ys.length:Nat) : Int)≤((xs.length:Nat) : Int))&&decide (xs.drop (((xs.length:Nat) : Int)-((ys.length:Nat) : Int)).toNat=ys)
theorem y7{m m2:Bool}{A B:Option Addr}{n n2 c c2:Nat}{xs ys:List Int}{w:World}(h1:aS m w (.slice A n c) xs)(h2:aS m2 w (.slice B n2 c2) ys) : Calls Tryz.prog 172 #[.slice A n c,.slice B n2 c2] w (bv (.bool (decide (xs=ys))) w):=by
 refine en 10 Tryz.func172 rfl<|sg<|Pl 1<|ng<|Pl 1<|L0<|iD (.string (strOfNums xs)) (cl (A:=A) (n:=n) (c:=c) rfl (by kernel_rfl) Tryz.underlying27 Tryz.underlying5 Tryz.underlying9 h1)<|Pl 1<|L0<|iD (.string (strOfNums ys)) (cl (A:=B) (n:=n2) (c:=c2) rfl (by kernel_rfl) Tryz.underlying27 Tryz.underlying5 Tryz.underlying9 h2)<|L0<|iD (.bool (decide (xs=ys))) (eH (a:=(strOfNums xs)) (b:=(strOfNums ys)) rfl (by kernel_rfl) (by kernel_rfl) (iB h1 h2))<|Pl 1<|nl<|?_
 refine tn<|rt<|rr (.bool (decide (xs=ys)))<|?_
 exact⟨rfl,(ay.refl [] _)⟩
theorem uY{m m2:Bool}{A B:Option Addr}{c c2:Nat}{xs ys:List Int}{w:World}(h1:aS m w (.slice A xs.length c) xs)(h2:aS m2 w (.slice B ys.length c2) ys) : Calls Tryz.prog 170 #[.slice A xs.length c,.slice B ys.length c2] w (bv (.bool (i7 xs ys)) w):=by
 have hz1:=aR.len h1
 have hz2:=aR.len h2
 have hz3:=aR.cap h1
 refine en 21 Tryz.func170 rfl<|sg<|Pl 1<|ng<|Pl 6<|bl 10 ((decide (((ys.length:Nat) : Int)≤((xs.length:Nat) : Int)))) (fun a=>?_) (fun a=>?_)
 have b:=of_decide_eq_true a
 refine Pl 5<|L1<|Oi (((xs.length:Nat) : Int)-((ys.length:Nat) : Int))<|v6 (lH (P:=Tryz.prog) 27 5 1 Tryz.underlying27 rfl rfl A xs.length c (lo:=(((xs.length:Nat) : Int)-((ys.length:Nat) : Int))) (((((xs.length:Nat) : Int)-((ys.length:Nat) : Int))).toNat) (by omega) (by omega)) fun d hrun12 e=>L1<|iD (.slice d (xs.length-(((((xs.length:Nat) : Int)-((ys.length:Nat) : Int))).toNat)) (c-(((((xs.length:Nat) : Int)-((ys.length:Nat) : Int))).toNat))) (f6 (kl:=.i64) (k:=(((xs.length:Nat) : Int)-((ys.length:Nat) : Int))) (A:=A) (n:=xs.length) (c:=c) rfl Tryz.underlying27 (by kernel_rfl) (by kernel_rfl) (hrun12 _ _))<|Pl 1<|L1<|Oc<|m1 (y7 (xs:=(xs.drop (((((xs.length:Nat) : Int)-((ys.length:Nat) : Int))).toNat))) (ys:=ys) (e _ _ _ _ _ h1) h2) fun g f=>Pl 2<|nt<|rt<|rr (.bool (decide ((xs.drop (((((xs.length:Nat) : Int)-((ys.length:Nat) : Int))).toNat))=ys)))<|?_
 have hs:(decide ((xs.drop (((((xs.length:Nat) : Int)-((ys.length:Nat) : Int))).toNat))=ys))=i7 xs ys:=by unfold i7;simp only[a,bs,if_true,if_false,decide_true,decide_false,Bool.true_and,Bool.false_and,Bool.and_true,Bool.and_false]
 rw[hs]
 exact⟨rfl,f⟩
 have b:=of_decide_eq_false a
 refine Pl 11<|nt<|rt<|rr (.bool false)<|?_
 have hs:false=i7 xs ys:=by unfold i7;simp only[a,bs,if_true,if_false,decide_true,decide_false,Bool.true_and,Bool.false_and,Bool.and_true,Bool.and_false]
 rw[hs]
 exact⟨rfl,(ay.refl [] _)⟩
theorem wT{m m2:Bool}{u v:Value}{xs ys:List Int}{w:World}(h1:aS m w u xs)(h2:aS m2 w v ys) : Calls Tryz.prog 170 #[u,v] w (bv (.bool (i7 xs ys)) w):=by
  obtain⟨A,c,rfl,_,_⟩:=h1.shape
  obtain⟨B,c2,rfl,_,_⟩:=h2.shape
  exact uY h1 h2
end Go.Proofs.YtpglhicfhppaiaaGreat
namespace Go.Proofs.YtpglhicfhppaiaaGreat
def iU (b:List Int) : Nat→Int
  | 0=>0
  | k+1=>(iU b k+b.getD k 0)%256
def qW (b:List Int) : Int:=iU b b.length
def cY (b:List Int) : Int:=(0-qW b)%256
def fo (b:List Int) : Bool:=decide (0<((b.length:Nat) : Int))&&(cY b==0)
theorem wL(b:List Int) : ∀ k,0≤iU b k∧iU b k<256
  | 0=>by unfold iU;omega
  | k+1=>by unfold iU;omega
def ed (n:Int) : Int:=if n<10 then 48+n else 55+n
def ck (c:Int) : Int:=if 48≤c∧c≤57 then c-48 else if 65≤c∧c≤70 then c-55 else -1
def dL:List Int→List Int
  | []=>[]
  | c :: b=>ed (c/16) :: ed (c%16) :: dL b
def bY:List Int→Option (List Int)
  | []=>some []
  | [_]=>none
  | a :: b :: r=>if ck a<0∨ck b<0 then none else (bY r).map fun l=>(16*ck a+ck b)%256 :: l
theorem iG{n:Int}(h:0≤n∧n<16) : 48≤ed n∧ed n≤70:=by unfold ed;split<;>omega
theorem sJ{n:Int}(h:0≤n∧n<16) : ck (ed n)=n:=by
  unfold ed
  split<;>unfold ck
  · rw[if_pos (by omega)];omega
  · rw[if_neg (by omega),if_pos (by omega)];omega
theorem jg{c:Int}(h:0≤ck c) : ed (ck c)=c∧ck c<16:=by
  unfold ck at h ⊢
  split at h
  · rename_i h1
    rw[if_pos h1]
    unfold ed
    rw[if_pos (by omega)]
    omega
  · rename_i h1
    split at h
    · rename_i h2
      rw[if_neg h1,if_pos h2]
      unfold ed
      rw[if_neg (by omega)]
      omega
    · omega
theorem mV(c:Int) : ck c<16∧-1≤ck c:=by unfold ck;split;omega;split<;>omega
theorem eI:∀ b:List Int,(dL b).length=2*b.length
  | []=>rfl
  | c :: b=>by simp only[dL,List.length_cons,eI b];omega
theorem oT:∀ a b:List Int,dL (a++b)=dL a++dL b
  | [],b=>rfl
  | c :: a,b=>by simp only[List.cons_append,dL,oT a b]
theorem gk:∀ {s x:List Int},bY s=some x→s=dL x∧∀ y,y∈x→0≤y∧y<256
  | [],x,h=>by
    injection h with h
    subst h
    exact⟨rfl,fun y hy=>by cases hy⟩
  | [_],x,h=>by cases h
  | a :: b :: r,x,h=>by
    simp only[bY] at h
    split at h
    · cases h
    · rename_i hd
      cases hr:bY r with
      | none=>rw[hr] at h;cases h
      | some l =>
        rw[hr] at h
        injection h with h
        obtain⟨h1,h2⟩:=gk hr
        have ha:=jg (c:=a) (by omega)
        have hb:=jg (c:=b) (by omega)
        subst h
        refine⟨?_,fun y hy=>?_⟩
        · simp only[dL]
          rw[show(16*ck a+ck b)%256/16=ck a from by omega,show(16*ck a+ck b)%256%16=ck b from by omega,ha.1,hb.1,← h1]
        · rcases List.mem_cons.1 hy with rfl | hy
          · omega
          · exact h2 y hy
theorem pV{xs:List Int}{k:Nat}(h:2*k+1<xs.length)(ha:¬ ck (xs.getD (2*k) 0)<0)(hb:¬ ck (xs.getD (2*k+1) 0)<0) : bY (xs.drop (2*k))=(bY (xs.drop (2*(k+1)))).map fun l=>[(16*ck (xs.getD (2*k) 0)+ck (xs.getD (2*k+1) 0))%256]++l:=by
  have e1:xs.getD (2*k) 0=xs[2*k]:=by rw[List.getD_eq_getElem?_getD,List.getElem?_eq_getElem (by omega)];rfl
  have e2:xs.getD (2*k+1) 0=xs[2*k+1]:=by rw[List.getD_eq_getElem?_getD,List.getElem?_eq_getElem h];rfl
  rw[List.drop_eq_getElem_cons (show 2*k<xs.length by omega),List.drop_eq_getElem_cons h,← e1,← e2]
  simp only[bY]
  rw[if_neg (by omega),show 2*k+1+1=2*(k+1) by omega]
  rfl
theorem tT{xs:List Int}{k:Nat}(h:2*k+1<xs.length)(hd:ck (xs.getD (2*k) 0)<0∨ck (xs.getD (2*k+1) 0)<0) : bY (xs.drop (2*k))=none:=by
  have e1:xs.getD (2*k) 0=xs[2*k]:=by rw[List.getD_eq_getElem?_getD,List.getElem?_eq_getElem (by omega)];rfl
  have e2:xs.getD (2*k+1) 0=xs[2*k+1]:=by rw[List.getD_eq_getElem?_getD,List.getElem?_eq_getElem h];rfl
  rw[List.drop_eq_getElem_cons (show 2*k<xs.length by omega),List.drop_eq_getElem_cons h,← e1,← e2]
  simp only[bY]
  rw[if_pos hd]
theorem lQ:∀ {xs:List Int},xs.length%2≠0→bY xs=none
  | [],h=>by simp at h
  | [_],_=>rfl
  | a :: b :: r,h=>by
    simp only[bY]
    split
    · rfl
    · rw[lQ (by simp only[List.length_cons] at h;omega)]
      rfl
theorem mb{s x:List Int}(h:bY s=some x) : s.length=2*x.length:=by
  obtain⟨h1,_⟩:=gk h
  rw[h1,eI]
theorem tc{xs L:List Int}{k:Nat}(h:bY xs=(bY (xs.drop (2*k))).map fun l=>L++l)(h1:¬ 2*k<xs.length) : bY xs=some L:=by
  rw[List.drop_eq_nil_of_le (by omega)] at h
  rw[h]
  simp[bY]
theorem ri{xs L:List Int}{k:Nat}(h:bY xs=(bY (xs.drop (2*k))).map fun l=>L++l)(h2:2*k+1<xs.length)(ha:¬ ck (xs.getD (2*k) 0)<0)(hb:¬ ck (xs.getD (2*k+1) 0)<0) : bY xs=(bY (xs.drop (2*(k+1)))).map fun l=>(L++[(16*ck (xs.getD (2*k) 0)+ck (xs.getD (2*k+1) 0))%256])++l:=by
  rw[h,pV h2 ha hb]
  cases bY (xs.drop (2*(k+1))) with
  | none=>rfl
  | some l=>simp
theorem vP{xs L:List Int}{k:Nat}(h:bY xs=(bY (xs.drop (2*k))).map fun l=>L++l)(h2:2*k+1<xs.length)(hd:ck (xs.getD (2*k) 0)<0∨ck (xs.getD (2*k+1) 0)<0) : bY xs=none:=by
  rw[h,tT h2 hd]
  rfl
theorem ss(b:List Int)(k:Nat)(h:k<b.length) : dL (b.take (k+1))=(dL (b.take k)++[ed (b.getD k 0/16)])++[ed (b.getD k 0%16)]:=by
  rw[List.take_succ_eq_append_getElem h,oT,List.getD_eq_getElem?_getD,List.getElem?_eq_getElem h]
  simp[dL]
open Go.RowKit
theorem xx{w:World}{g:Nat}{c s:Int}(hg:w.heap[g]? = some (.cells #[.int .u8 s] 5 (0,0))) : Calls Tryz.prog 182 #[.int .u8 c,.pointer (some ⟨g,0,none⟩)] w (fun e w'=>e = .returned (.tuple #[])∧w'.heap[g]? = some (.cells #[.int .u8 ((s+c)%256)] 5 (0,0))∧ay [g] w w'):=by
 refine en 6 Tryz.func182 rfl<|go<|L0<|aP hg 0<|Pl 2<|L0<|co hg 0 #[.int .u8 ((s+c)%256)] fun d a b=>nl<|rm (.tuple #[])<|?_
 exact⟨rfl,a,b⟩
theorem tB{m:Bool}{A:Option Addr}{cp:Nat}{b:List Int}{w0 w:World}{g:Nat}(hu0:ay [] w0 w)(hg0:w0.heap.size≤g)(hsl:aS m w0 (.slice A b.length cp) b)(hg:w.heap[g]? = some (.cells #[.int .u8 (iU b 0)] 5 (0,0))) :
    Calls Tryz.prog 181 #[.slice A b.length cp,.func (.func 182) #[] #[.pointer (some ⟨g,0,none⟩)]] w (fun e w'=>e = .returned (.tuple #[])∧w'.heap[g]? = some (.cells #[.int .u8 (qW b)] 5 (0,0))∧ay [] w0 w'∧w.heap.size≤w'.heap.size):=by
 have hln:=aR.len hsl
 refine en 16 Tryz.func181 rfl<|sg<|Pl 3<|nt<|bk<|?_
 refine ie (fun x=>[(1,.func (.func 182) #[] #[.pointer (some ⟨g,0,none⟩)]),(6,.slice A b.length cp),(7,.int .i64 ((b.length:Nat) : Int)),(8,.int .i64 ((x:Nat) : Int))]) (fun(x:Nat) w'=>ay [] w0 w'∧w.heap.size≤w'.heap.size∧w'.heap[g]? = some (.cells #[.int .u8 (iU b x)] 5 (0,0))∧(x≤b.length)) (fun x=>b.length-x) 0 ⟨hu0,lr,hg,(by(try dsimp only);omega)⟩ ?_
 rintro k j ⟨a,f,l,n⟩
 refine ik [(1,.func (.func 182) #[] #[.pointer (some ⟨g,0,none⟩)]),(6,.slice A b.length cp),(7,.int .i64 ((b.length:Nat) : Int)),(8,.int .i64 ((k:Nat) : Int))] ?_
 have h:j.heap[g]? = some (.cells #[.int .u8 (iU b k)] 5 (0,0)):=l
 have y:k≤b.length:=n
 refine sg<|Pl 1<|nt<|sq<|cb ((decide (((k:Nat) : Int)<((b.length:Nat) : Int)))) (fun d=>?_) (fun d=>?_)
 have o:=of_decide_eq_true d
 refine bK<|sq<|bk<|sg<|?_
 refine i8 (aS.at_ (aS.old hsl a) k (by omega)) fun q r s t z=>L0<|pn b.length k s (by omega)<|L0<|lf (p:=⟨q,r+k,none⟩) (v:=.int .u8 (b.getD k 0)) t<|Pl 1<|nt<|go<|Pl 2<|L0<|fj #[] #[.pointer (some ⟨g,0,none⟩)] (args:=#[.int .u8 (b.getD k 0),.pointer (some ⟨g,0,none⟩)])<|m2 (xx (c:=(b.getD k 0)) h) fun B u i=>nl<|bn<|tn<|go<|L0<|Oi (((k:Nat) : Int)+1)<|?_
 refine Pl 1<|nl<|?_
 exact ew (k+1) ⟨(ud a i hg0),(le f i.size),u,(by(try dsimp only);omega)⟩ (by omega)
 have o:=of_decide_eq_false d
 refine xt<|tx<|tx<|bx<|rm (.tuple #[])<|?_
 have hk:k=b.length:=by omega
 subst hk
 exact⟨rfl,h,a,f⟩
theorem pZ{m:Bool}{A:Option Addr}{cp:Nat}{b:List Int}{w:World}(hsl:aS m w (.slice A b.length cp) b) :
    Calls Tryz.prog 178 #[.slice A b.length cp] w (bv (.int .u8 (cY b)) w):=by
 refine en 9 Tryz.func178 rfl<|sg<|Pl 1<|ng<|L0<|bN #[.int .u8 0] fun h i a c d=>L0<|co c 0 #[.int .u8 0] fun j dA e=>ng<|?_
 refine Pl 2<|?_
 refine L0<|Oc<|m3 (tB (ud d e a) a hsl dA) fun k f g l=>ng<|L0<|aP f 0<|Pl 2<|nt<|rt<|rr (.int .u8 ((0-(qW b))%256))<|?_
 exact⟨rfl,g⟩
theorem mh{m:Bool}{v:Value}{b:List Int}{w:World}(h:aS m w v b) : Calls Tryz.prog 178 #[v] w (bv (.int .u8 (cY b)) w):=by
  obtain⟨A,cp,rfl,_,_⟩:=h.shape
  exact pZ h
theorem qB{m:Bool}{A:Option Addr}{cp:Nat}{b:List Int}{w:World}(hsl:aS m w (.slice A b.length cp) b) :
    Calls Tryz.prog 175 #[.slice A b.length cp] w (bv (.bool (fo b)) w):=by
 refine en 11 Tryz.func175 rfl<|sg<|Pl 1<|ng<|Pl 4<|bl 6 ((decide (0<((b.length:Nat) : Int)))) (fun a=>?_) (fun a=>?_)
 have c:=of_decide_eq_true a
 refine Pl 1<|L1<|Oc (args:=#[.slice A b.length cp])<|m1 (mh hsl) fun e d=>Pl 3<|nt<|rt<|rr (.bool ((cY b)==0))<|?_
 have hs:fo b=((cY b)==0):=by unfold fo;(try simp only[a,bs,if_true,if_false,decide_true,decide_false]);all_goals rfl
 rw[hs]
 exact⟨rfl,d⟩
 have c:=of_decide_eq_false a
 refine Pl 5<|nt<|rt<|rr (.bool false)<|?_
 have hs:fo b=false:=by unfold fo;(try simp only[a,bs,if_true,if_false,decide_true,decide_false]);all_goals rfl
 rw[hs]
 exact⟨rfl,(ay.refl [] _)⟩
theorem tA{m:Bool}{v:Value}{b:List Int}{w:World}(h:aS m w v b) : Calls Tryz.prog 175 #[v] w (bv (.bool (fo b)) w):=by
  obtain⟨A,cp,rfl,_,_⟩:=h.shape
  exact qB h
open Go.RowKit
theorem o6:∃ j,Tryz.prog.info? 236=some j∧j.size=2:=Option.map_eq_some_iff.1 (show(Tryz.prog.info? 236).map (·.size)=some 2 by kernel_rfl)
theorem mU(b:Nat)(w:World)(h0:w.cell? ⟨b,0,none⟩=some (.pointer none))(hsh:w.shape? b=some (236,2))(hfz:w.frozen? ⟨b,0,none⟩=false) :
    Calls Tryz.prog 204 #[.pointer (some ⟨b,0,none⟩)] w fun e w'=>e = .returned (.tuple #[])∧w'=w.setCell ⟨b,0,none⟩ (.pointer (some ⟨b,0,none⟩)):=by
  obtain⟨j,hj,hjs⟩:=o6
  go_enter Tryz.func204,Tryz.ntmps204
  go_wp2
  rw[Lib.run_to_unsafe w ⟨b,0,none⟩ Tryz.underlying234 Tryz.underlying240 hj (by rw[hjs];decide) hsh (Nat.zero_lt_succ 1)]
  simp only[Result.andThen]
  rw[Oper.upon_value]
  go_wp2
  rw[run_callFunc_extern Tryz.func205 (by kernel_rfl) (by kernel_rfl) (by kernel_rfl) (e:=Extern.AbiNoEscape.same) (by kernel_rfl)]
  rw[Lib.run_noEscape]
  simp only[Result.andThen]
  rw[Oper.upon_value]
  go_wp2
  rw[Lib.run_from_unsafe w ⟨b,0,none⟩ Tryz.underlying240 Tryz.underlying234 hj hsh (by kernel_rfl)]
  simp only[Result.andThen]
  rw[Oper.upon_value]
  go_wp2
  go_end0
  exact⟨rfl,rfl⟩
theorem oF(b:Nat)(w:World)(h0:w.cell? ⟨b,0,none⟩=some (.pointer (some ⟨b,0,none⟩))) :
    Calls Tryz.prog 204 #[.pointer (some ⟨b,0,none⟩)] w fun e w'=>e = .returned (.tuple #[])∧w'=w:=by
  obtain⟨j,hj,_⟩:=o6
  go_enter Tryz.func204,Tryz.ntmps204
  go_wp2
  rw[Lib.run_neq_ptr_same w _ Tryz.underlying234 hj]
  go_wp2
  go_end0
  exact⟨rfl,rfl⟩
theorem pC{w:World}{b:Nat}{p v:Value}(hp:p = .pointer none∨p = .pointer (some ⟨b,0,none⟩))(hb:w.heap[b]? = some (.cells #[p,v] 236 (0,0))) :
    Calls Tryz.prog 204 #[.pointer (some ⟨b,0,none⟩)] w fun e w'=>e = .returned (.tuple #[])∧w'.heap[b]? = some (.cells #[.pointer (some ⟨b,0,none⟩),v] 236 (0,0))∧ay [b] w w':=by
  have h0:w.cell? ⟨b,0,none⟩=some p:=(be hb 0).trans rfl
  rcases hp with rfl|rfl
  · refine(mU b w h0 (by simp[World.shape?,hb]) (eu hb 0)).mono ?_
    rintro e w' ⟨rfl,rfl⟩
    exact⟨rfl,(ft hb 0 _).trans rfl,(ay.refl _ _).setCell (Or.inl (by simp)) _⟩
  · refine(oF b w h0).mono ?_
    rintro e w' ⟨rfl,rfl⟩
    exact⟨rfl,hb,ay.refl _ _⟩
def kU:Array Value:=#[.int .u8 48,.int .u8 49,.int .u8 50,.int .u8 51,.int .u8 52,.int .u8 53,.int .u8 54,.int .u8 55,.int .u8 56,.int .u8 57,.int .u8 65,.int .u8 66,.int .u8 67,.int .u8 68,.int .u8 69,.int .u8 70]
theorem rS:∀ {j:Nat},j<16→kU[j]? = some (.int .u8 (ed (j:Int)))
  | 0,_ | 1,_ | 2,_ | 3,_ | 4,_ | 5,_ | 6,_ | 7,_ | 8,_ | 9,_ | 10,_ | 11,_ | 12,_ | 13,_ | 14,_ | 15,_=>rfl
  | n+16,h=>by omega
theorem nU{i:Int}(h:0≤i∧i<16) : kU[i.toNat]? = some (.int .u8 (ed i)):=by
  rw[rS (by omega),Int.toNat_of_nonneg h.1]
theorem vn{P:Program}{w:World}{ev:Operand→Value}{o:Oper}{x ix:Operand}{t e:TypeId}{k:IntKind}{i:Int}(j:Nat)(ho:o.op = .index t x ix)(ht:P.underlying t=some (.array 16 e))(hi:(P.info? e).map (·.size)=some 1)(hr:∀ w,(isAgg e).run P w = .ok false w)(hx:ev x = .agg kU)(hy:ev ix = .int k i)(hj:i=(j:Int))(hlt:j<16) : (execOp ev o).run P w = .ok (.value (.int .u8 (ed (j:Int)))) w:=by
  subst hj
  obtain⟨i0,hi0,hs⟩:=Option.map_eq_some_iff.1 hi
  have h:=rS hlt
  unfold execOp
  have h2:(0:Int)≤(j:Int)∧(j:Int)<16:=by omega
  simp[ho,hx,hy,Instr.index,asIntOf,run_underlying ht,Result.andThen,h2,sizeOf,typeInfo,hi0,hs,part,h,hr,hlt]
def yx (B b:Nat)(L:List Int)(w:World) : Prop:=∃ p A cp,w.heap[b]? = some (.cells #[p,.slice A L.length cp] 236 (0,0))∧(p = .pointer none∨p = .pointer (some ⟨b,0,none⟩))∧cz B w (.slice A L.length cp) L
theorem yx.new{B b:Nat}{w:World}(hb:w.heap[b]? = some (.cells #[.pointer none,.slice none 0 0] 236 (0,0))) : yx B b [] w:=⟨_,_,_,hb,.inl rfl,aL.nil ..⟩
def xP:Go.Shelf.Ren:=⟨fun | 169=>203 | n=>n,fun | 70=>234 | 9=>9 | 0=>0 | 72=>236 | 37=>27 | 127=>207 | 3=>3 | 5=>5 | n=>n,fun | n=>n⟩
theorem zY:Go.Proofs.Lays.n169 Tryz.prog xP:={
  mixed:=by kernel_rfl
  f169:=Tryz.func203.trans (congrArg some (by kernel_rfl))
  t0:=Tryz.underlying0
  a0:=Tryz.isAgg0
  z0:=Tryz.sizeOf0
  v0:=Tryz.zeroValue0
  t3:=Tryz.underlying3
  a3:=Tryz.isAgg3
  z3:=Tryz.sizeOf3
  v3:=Tryz.zeroValue3
  t9:=Tryz.underlying9
  a9:=Tryz.isAgg9
  z9:=Tryz.sizeOf9
  v9:=Tryz.zeroValue9
  t37:=Tryz.underlying27
  a37:=Tryz.isAgg27
  z37:=Tryz.sizeOf27
  v37:=Tryz.zeroValue27
  t70:=Tryz.underlying234
  a70:=Tryz.isAgg234
  z70:=Tryz.sizeOf234
  v70:=Tryz.zeroValue234
  t72:=Tryz.underlying236
  a72:=Tryz.isAgg236
  z72:=Tryz.sizeOf236
  v72:=Tryz.zeroValue236
  t127:=Tryz.underlying207
  a127:=Tryz.isAgg207
  z127:=Tryz.sizeOf207
  v127:=Tryz.zeroValue207 }
theorem yX:Builder.Extra Tryz.prog xP:={
  sizeBuilder:=by kernel_rfl
  liesBuilder:=by kernel_rfl
  t5:=Tryz.underlying5
  a5:=Tryz.isAgg5
  z5:=Tryz.sizeOf5
  v5:=Tryz.zeroValue5
  infoByte:=by kernel_rfl
  cellsByte:=by kernel_rfl
  sizeByte:=by kernel_rfl
  neB5:=by decide }
theorem tZ{L:List Int}(h:dw L) : Lib.byteCells (L.map fun n=>UInt8.ofNat n.toNat)=L.map (Value.int .u8):=by
  unfold Lib.byteCells
  rw[List.map_map]
  apply List.map_congr_left
  intro x hx
  show Value.int .u8 _=_
  rw[nh (h x hx)]
theorem qI{w0 w:World}{b:Nat}{L:List Int}(hu:ay [] w0 w)(hg:w0.heap.size≤b)(h:yx w0.heap.size b L w)(hr:dw L) :
    Calls Tryz.prog 203 #[.pointer (some ⟨b,0,none⟩)] w fun e w'=>e = .returned (.string (strOfNums L))∧ay [] w0 w':=by
  obtain⟨p,A,cp,hb,hp,ho⟩:=h
  have h1:=ep (enc:=Value.int .u8) (fun _ _ _ h=>h.1) ho
  have h2:Lib.BuilderAt 236 5 w0.heap.size b p (Lib.byteCells (L.map fun n=>UInt8.ofNat n.toNat)) w:=by
    rw[tZ hr]
    refine⟨hg,_,hb,by rw[List.length_map];exact h1,fun hq=>?_⟩
    rcases h1.2 with⟨hv,_⟩|⟨g',cap,cur,hv,_,hh,_⟩
    · rw[hv] at hq;cases hq
    · rw[hv] at hq
      have e:g'=b:=by simpa [Value.ownBlock] using hq
      subst e
      rw[hb] at hh
      injection hh with hh
      injection hh with _ h5 _
      exact absurd h5 (by decide)
  have h3:Lib.IsBuilder (xP.t 72) (xP.t 5) w0.heap.size b (Lib.byteCells (L.map fun n=>UInt8.ofNat n.toNat)) w:=by
    rcases hp with rfl|rfl
    · exact Or.inl h2
    · exact Or.inr h2
  refine(Any.Builder_String_any zY yX _ _ _ _ h3 hu.size).mono ?_
  rintro e w' ⟨rfl,hbel⟩
  exact⟨rfl,hu.os▸hbel.os,hu.tape▸hbel.tape,hu.output▸hbel.output,Nat.le_trans hu.size hbel.size,fun k hk hn=>(hbel.block k hk).trans (hu.block k hk hn)⟩
open Go.RowKit
theorem kS{w:World}:Calls Tryz.prog 180 #[] w (bv (.agg kU) w):=by
 refine en 2 Tryz.func180 rfl<|sg<|L0<|bN #[.int .u8 0,.int .u8 0,.int .u8 0,.int .u8 0,.int .u8 0,.int .u8 0,.int .u8 0,.int .u8 0,.int .u8 0,.int .u8 0,.int .u8 0,.int .u8 0,.int .u8 0,.int .u8 0,.int .u8 0,.int .u8 0] fun e f a b c=>ng<|Pl 1<|L0<|bi b #[.int .u8 48,.int .u8 49,.int .u8 50,.int .u8 51,.int .u8 52,.int .u8 53,.int .u8 54,.int .u8 55,.int .u8 56,.int .u8 57,.int .u8 65,.int .u8 66,.int .u8 67,.int .u8 68,.int .u8 69,.int .u8 70] fun g dA d=>nt<|rt<|zH dA<|?_
 exact⟨rfl,(ud c d a)⟩
theorem wI{c:Int}{n:Nat}(h:∀ j:Nat,j<n→ed (j:Int)≠c)(q:(ed ((n:Nat) : Int)==c)=false) : ∀ j:Nat,j<n+1→ed (j:Int)≠c:=fun j hj=>by
  by_cases e:j=n
  · subst e;simpa using q
  · exact h j (by omega)
theorem yV{c:Int}{n:Nat}(hn:n<16)(q:(ed ((n:Nat) : Int)==c)=true) : ck c=((n:Nat) : Int):=by
  have e:ed ((n:Nat) : Int)=c:=by simpa using q
  rw[← e]
  exact sJ (by omega)
theorem vW{c:Int}{n:Nat}(hn:n=16)(h:∀ j:Nat,j<n→ed (j:Int)≠c) : ck c = -1:=by
  by_cases e:0≤ck c
  · have h1:=jg e
    exact absurd (by rw[Int.toNat_of_nonneg e];exact h1.1) (h (ck c).toNat (by omega))
  · have:=mV c
    omega
theorem mg{w:World}{c:Int}(hc:0≤c∧c<256) : Calls Tryz.prog 177 #[.int .u8 c] w (bv (.int .i64 (ck c)) w):=by
 refine en 15 Tryz.func177 rfl<|sg<|Pl 1<|nt<|sq<|sg<|L0<|Oc<|m1 (@kS w) fun g h=>Pl 1<|nt<|bk<|?_
 refine ie (fun x=>[(0,.int .u8 c),(5,.agg kU),(6,.int .i64 ((x:Nat) : Int))]) (fun(x:Nat) w'=>ay [] g w'∧(x≤16)∧(∀ j:Nat,j<x→ed (j:Int)≠c)) (fun x=>16-x) 0 ⟨ay.refl _ _,(by(try dsimp only);omega),(fun j hj=>by omega)⟩ ?_
 rintro n q ⟨d,l,m⟩
 refine ik [(0,.int .u8 c),(5,.agg kU),(6,.int .i64 ((n:Nat) : Int))] ?_
 have r:n≤16:=l
 have e:∀ j:Nat,j<n→ed (j:Int)≠c:=m
 refine sg<|Pl 1<|nt<|sq<|?_
 have f:=aD h d
 refine cb ((decide (((n:Nat) : Int)<16))) (fun b=>?_) (fun b=>?_)
 have o:=of_decide_eq_true b
 refine bK<|sq<|bk<|sg<|Pl 1<|L0<|iD (.int .u8 (ed ((n:Nat) : Int))) (vn (k:=.i64) (i:=((n:Nat) : Int)) n rfl Tryz.underlying226 (by kernel_rfl) Tryz.isAgg5 (by kernel_rfl) (by kernel_rfl) rfl (by omega))<|Pl 2<|ng<|Pl 3<|nl<|?_
 refine tn<|cb (((ed ((n:Nat) : Int))==c)) (fun a=>?_) (fun a=>?_)
 have p:=ax a
 refine sg<|Pl 2<|nt<|rt<|br<|tr<|tr<|br<|tr<|rr (.int .i64 ((n:Nat) : Int))<|?_
 have hs:ck c=((n:Nat) : Int):=yV (by omega) a
 rw[hs]
 exact⟨rfl,f⟩
 have p:=aA a
 exact sk<|bn<|tn<|go<|L0<|Oi (((n:Nat) : Int)+1)<|Pl 1<|nl<|ew (n+1) ⟨d,(by(try dsimp only);omega),(wI e a)⟩ (by omega)
 have o:=of_decide_eq_false b
 refine xt<|tx<|tx<|bx<|tn<|sg<|Pl 1<|nt<|rt<|rr (.int .i64 (-1))<|?_
 have hs:ck c = -1:=vW (n:=n) (by omega) e
 rw[hs]
 exact⟨rfl,f⟩
theorem lJ{w0 w:World}{b gd:Nat}{L:List Int}{c:Int}(hu0:ay [] w0 w)(hg0:w0.heap.size≤b)(hg1:w0.heap.size≤gd)(h:yx w0.heap.size b L w)(hd:w.heap[gd]? = some (.cells kU 226 (0,0)))(hne:gd≠b)(hc:0≤c∧c<256)(hl:L.length≤1048576) :
    Calls Tryz.prog 202 #[.pointer (some ⟨b,0,none⟩),.int .u8 c] w (fun e w'=>e = .returned .nilIface∧yx w0.heap.size b (L++[c]) w'∧w'.heap[gd]? = some (.cells kU 226 (0,0))∧ay [] w0 w'∧w.heap.size≤w'.heap.size):=by
 obtain⟨p,A,cp,hb,hp,ho⟩:=h
 refine en 17 Tryz.func202 rfl<|sg<|Pl 1<|ng<|Pl 1<|L0<|Oc<|m2 (pC hp hb) fun u a d=>ng<|?_
 refine Pl 4<|L0<|aP a 1<|Pl 1<|L0<|cR (m:=1) (e:=5) #[.int .u8 c] fun v y r dA f=>?_
 have s:=cW r (xs:=[c]) (by as_aux_lemma=>kernel_rfl) (ap (by omega) aO) (by(try simp only[List.length_cons,List.length_nil]);omega) dA
 have i:=aD d f
 refine L0<|cg aX (xs:=L) (ys:=([c])) (.int .u8 0) 1 (ak ho i (fun x hx=>(ae (fun e=>(bB hb ho (by decide)) (e▸hx)) az)) (fun _ _ h=>h)) (s).rd (by(try simp only[List.length_append,List.length_cons,List.length_nil,av]);omega) (le (le hu0.size d.size) f.size) fun j k z l n=>Pl 2<|?_
 have o:=ay.blk (ut (ay.mono (S':=(ob A++[])) f au) n (ai il au)) (aH (bB a (ak ho d (fun x hx=>(ae (fun e=>(bB hb ho (by decide)) (e▸hx)) az)) (fun _ _ h=>h)) (by decide)) az) a
 refine L0<|co o 1 #[.pointer (some ⟨b,0,none⟩),.slice j ((L++[c]).length) k] fun B t q=>ng<|Pl 1<|nt<|rt<|rr (.nilIface)<|?_
 have g:=ut (ay.mono (S':=(b :: (ob A++[]))) i (ac im au)) (u1 (ay.mono (S':=(ob A++(b :: []))) n (ai il au)) q im) (ai il (ac im au))
 exact⟨rfl,⟨_,j,k,t,.inr rfl,(ak l q (fun x hx=>(ae (fun e=>(bB o l (by decide)) (e▸hx)) az)) (fun _ _ h=>h))⟩,(ay.blk g (ae hne (aH (bB hd ho (by decide)) az)) hd),(ut hu0 g (ac (nr hg0) (ai (aI ho lr) au))),g.size⟩
open Go.RowKit
theorem mn{b:List Int}(h:dw b) : dw (dL b):=by
  induction b with
  | nil=>exact h
  | cons c b ih =>
    have hc:=h c (List.mem_cons_self ..)
    have h1:=iG (n:=c/16) (by omega)
    have h2:=iG (n:=c%16) (by omega)
    intro x hx
    rcases List.mem_cons.1 hx with rfl|hx
    · omega
    rcases List.mem_cons.1 hx with rfl|hx
    · omega
    · exact ih (fun y hy=>h y (List.mem_cons_of_mem _ hy)) x hx
theorem tO{m:Bool}{A:Option Addr}{cp:Nat}{b:List Int}{w:World}(hsl:aS m w (.slice A b.length cp) b)(hl:b.length≤1024) :
    Calls Tryz.prog 201 #[.slice A b.length cp] w (bv (.string (strOfNums (dL b))) w):=by
 have hb:=aS.range hsl
 refine en 26 Tryz.func201 rfl<|sg<|Pl 1<|ng<|L0<|bN #[.pointer none,.slice none 0 0] fun d y g l h=>ng<|L0<|Oc<|m1 (@kS y) fun X e=>?_
 refine L0<|bN #[.int .u8 0,.int .u8 0,.int .u8 0,.int .u8 0,.int .u8 0,.int .u8 0,.int .u8 0,.int .u8 0,.int .u8 0,.int .u8 0,.int .u8 0,.int .u8 0,.int .u8 0,.int .u8 0,.int .u8 0,.int .u8 0] fun a Y f z B=>L0<|bi (hz:=(by kernel_rfl)) (hv:=rfl) (h1:=(by kernel_rfl)) z (kU) fun C D E=>nt<|sq<|sg<|Pl 3<|nt<|bk<|?_
 have o:=aD e (ud B E f)
 have q:=nb (am l) e.size f
 refine ie (fun x=>[(2,.string ⟨#[]⟩),(3,.pointer (some ⟨d,0,none⟩)),(4,.pointer (some ⟨a,0,none⟩)),(8,.slice A b.length cp),(9,.int .i64 ((b.length:Nat) : Int)),(10,.int .i64 ((x:Nat) : Int))]) (fun(x:Nat) w'=>ay [] w w'∧C.heap.size≤w'.heap.size∧yx w.heap.size d (dL (b.take x)) w'∧w'.heap[a]? = some (.cells kU 226 (0,0))∧(x≤b.length)) (fun x=>b.length-x) 0 ⟨(aD h o),lr,(by simpa [dL] using yx.new (ub o l)),D,(by(try dsimp only);omega)⟩ ?_
 rintro k r ⟨i,F,G,H,I⟩
 refine ik [(2,.string ⟨#[]⟩),(3,.pointer (some ⟨d,0,none⟩)),(4,.pointer (some ⟨a,0,none⟩)),(8,.slice A b.length cp),(9,.int .i64 ((b.length:Nat) : Int)),(10,.int .i64 ((k:Nat) : Int))] ?_
 have s:yx w.heap.size d (dL (b.take k)) r:=G
 have t:r.heap[a]? = some (.cells kU 226 (0,0)):=H
 have Z:k≤b.length:=I
 refine sg<|Pl 1<|nt<|sq<|cb ((decide (((k:Nat) : Int)<((b.length:Nat) : Int)))) (fun j=>?_) (fun j=>?_)
 have J:=of_decide_eq_true j
 refine bK<|sq<|bk<|sg<|?_
 refine i8 (aS.at_ (aS.old hsl i) k (by omega)) fun K L M N a0=>L0<|pn b.length k M (by omega)<|L0<|lf (p:=⟨K,L+k,none⟩) (v:=.int .u8 (b.getD k 0)) N<|Pl 1<|ng<|Pl 1<|L0<|Oe (.int .u8 (Int.fdiv (b.getD k 0) (2 ^ 4))) (.int .u8 ((b.getD k 0)/16)) (congrArg (Value.int .u8) (jK _ _ _ (by decide)))<|L0<|AO (b:=a) (off:=0) 16 ((((b.getD k 0)/16)).toNat) ((b.getD k 0)/16) (by omega) (by omega)<|?_
 have a1:=iG (n:=((b.getD k 0)/16)) (by omega)
 refine L0<|lf (p:=⟨a,0+(((b.getD k 0)/16)).toNat,none⟩) (v:=.int .u8 (ed (((b.getD k 0)/16)))) (aa t (by rw[Nat.zero_add,nU (by omega)]))<|L0<|Oc<|m4 (lJ (c:=(ed ((b.getD k 0)/16))) i g (Nat.le_trans (le h.size e.size) f) s t (Ne.symm q) (by omega) (by rw[eI,List.length_take];omega)) fun a2 O u P Q=>nt<|go<|Pl 1<|L0<|Oe (.int .u8 (Int.tmod (b.getD k 0) 16)) (.int .u8 ((b.getD k 0)%16)) (congrArg (Value.int .u8) (Int.tmod_eq_emod_of_nonneg (by omega)))<|L0<|AO (b:=a) (off:=0) 16 ((((b.getD k 0)%16)).toNat) ((b.getD k 0)%16) (by omega) (by omega)<|?_
 have a3:=iG (n:=((b.getD k 0)%16)) (by omega)
 exact L0<|lf (p:=⟨a,0+(((b.getD k 0)%16)).toNat,none⟩) (v:=.int .u8 (ed (((b.getD k 0)%16)))) (aa u (by rw[Nat.zero_add,nU (by omega)]))<|L0<|Oc<|m4 (lJ (c:=(ed ((b.getD k 0)%16))) P g (Nat.le_trans (le h.size e.size) f) O u (Ne.symm q) (by omega) (by rw[List.length_append,eI,List.length_take];simp only[List.length_cons,List.length_nil];omega)) fun a4 R S T U=>nl<|bn<|tn<|go<|L0<|Oi (((k:Nat) : Int)+1)<|Pl 1<|nl<|ew (k+1) ⟨T,(le (le F Q) U),(by rw[ss _ _ (by omega)];exact R),S,(by(try dsimp only);omega)⟩ (by omega)
 have J:=of_decide_eq_false j
 refine xt<|tx<|tx<|bx<|tn<|sg<|?_
 have V:k=b.length:=by omega
 have hbl:=s
 rw[V,List.take_length] at hbl
 have hbr:dw (dL b):=mn hb
 refine L0<|Oc<|m1 (qI i g hbl hbr) fun a5 W=>Pl 1<|nt<|rt<|rr (.string (strOfNums (dL b)))<|?_
 exact⟨rfl,W⟩
theorem uQ{m:Bool}{v:Value}{b:List Int}{w:World}(h:aS m w v b)(hl:b.length≤1024) : Calls Tryz.prog 201 #[v] w (bv (.string (strOfNums (dL b))) w):=by
  obtain⟨A,cp,rfl,_,_⟩:=h.shape
  exact tO h hl
def fY (xs:List Int)(w:World)(e:Ending)(w':World) : Prop:=match bY xs with
  | some l=>∃ v,e = .returned (.tuple #[v,.int .i64 0])∧cz w.heap.size w' v l∧ay [] w w'
  | none=>e = .returned (.tuple #[.slice none 0 0,.int .i64 11])∧ay [] w w'
theorem xU{xs l:List Int}{w w':World}{e:Ending}(h:bY xs=some l)(k:∃ v,e = .returned (.tuple #[v,.int .i64 0])∧cz w.heap.size w' v l∧ay [] w w') : fY xs w e w':=by
  unfold fY
  rw[h]
  exact k
theorem rX{xs:List Int}{w w':World}{e:Ending}(h:bY xs=none)(k:e = .returned (.tuple #[.slice none 0 0,.int .i64 11])∧ay [] w w') : fY xs w e w':=by
  unfold fY
  rw[h]
  exact k
theorem lI{xs:List Int}{w:World}(hr:dw xs)(hl:xs.length≤1048576) :
    Calls Tryz.prog 174 #[.string (strOfNums xs)] w (fY xs w):=by
 refine en 42 Tryz.func174 rfl<|sg<|Pl 2<|nt<|sq<|sg<|Pl 1<|L0<|Oe (.int .i64 (((strOfNums xs).size:Nat) : Int)) (.int .i64 ((xs.length:Nat) : Int)) (by rw[strOfNums_size])<|L0<|Oe (.int .i64 (Int.tmod ((xs.length:Nat) : Int) 2)) (.int .i64 (((xs.length:Nat) : Int)%2)) (congrArg (Value.int .i64) (Int.tmod_eq_emod_of_nonneg (by omega)))<|Pl 1<|nl<|?_
 refine tn<|cb (((((xs.length:Nat) : Int)%2)!=0)) (fun f=>?_) (fun f=>?_)
 have A:=aB f
 refine sg<|Pl 2<|nt<|rt<|tr<|rr (.tuple #[.slice none 0 0,.int .i64 11])<|?_
 have hs:bY xs=none:=lQ (by omega)
 exact rX hs ⟨rfl,(ay.refl [] _)⟩
 have A:=ah f
 refine bK<|sg<|Pl 1<|nt<|sq<|sg<|Pl 1<|nt<|bk<|?_
 refine ie (fun x=>[(0,.string (strOfNums xs)),(4,.slice x.2.2.1 x.2.1.length x.2.2.2),(5,.int .i64 ((2*x.1:Nat) : Int))]) (fun(x:Nat × List Int × Option Addr × Nat) w'=>ay [] w w'∧cz w.heap.size w' (.slice x.2.2.1 x.2.1.length x.2.2.2) x.2.1∧(2*x.1≤xs.length)∧(bY xs=(bY (xs.drop (2*x.1))).map fun l=>x.2.1++l)∧(x.2.1.length=x.1)) (fun x=>xs.length-2*x.1) (0,[],none,0) ⟨ay.refl _ _,(aL.nil w.heap.size _ _ np _),(by(try dsimp only);omega),(by(try dsimp only);simp),(by(try dsimp only);rfl)⟩ ?_
 rintro⟨k,L,B,cq⟩ C ⟨g,D,E,F,G⟩
 refine ik [(0,.string (strOfNums xs)),(4,.slice B L.length cq),(5,.int .i64 ((2*k:Nat) : Int))] ?_
 have j:cz w.heap.size C (.slice B L.length cq) L:=D
 have U:2*k≤xs.length:=E
 have V:bY xs=(bY (xs.drop (2*k))).map fun l=>L++l:=F
 have W:L.length=k:=G
 have hL:bY xs=(bY (xs.drop (2*k))).map fun l=>L++l:=by assumption
 refine sq<|sg<|Pl 2<|L0<|Oe (.int .i64 (((strOfNums xs).size:Nat) : Int)) (.int .i64 ((xs.length:Nat) : Int)) (by rw[strOfNums_size])<|Pl 1<|nt<|cb ((decide (((2*k:Nat) : Int)<((xs.length:Nat) : Int)))) (fun n=>?_) (fun n=>?_)
 have H:=of_decide_eq_true n
 refine bK<|sq<|bk<|sq<|Rg 11 (fun w'=>True) fun X p=>aZ trivial fun a=>Rt 0 a<|Rt 1 a<|Rr 2 a (.int .u8 (xs.getD (2*k) 0)) (fun _ _=>od (xs:=xs) (k:=.i64) (i:=((2*k:Nat) : Int)) (2*k) rfl Tryz.underlying9 (by kernel_rfl) (by kernel_rfl) hr rfl (by omega))<|Rt 4 a<|Rt 5 a<|Rr 6 a (.int .i64 (((2*k:Nat) : Int)+1)) (fun _ _=>cD (.int .i64 (IntKind.i64.wrap (((2*k:Nat) : Int)+1))) (by kernel_rfl) (congrArg (Value.int .i64) (IntWalk.i64_in _ (by omega))))<|Rr 7 a (.int .u8 (xs.getD ((((2*k:Nat) : Int)+1)).toNat 0)) (fun _ _=>od (xs:=xs) (k:=.i64) (i:=(((2*k:Nat) : Int)+1)) ((((2*k:Nat) : Int)+1)).toNat rfl Tryz.underlying9 (by kernel_rfl) (by kernel_rfl) hr (by omega) (by omega))<|?_
 have Y:=mV (xs.getD (2*k) 0)
 refine R0 3 rfl<|Oc<|m1 (mg (c:=(xs.getD (2*k) 0)) (w:=_) (fL (by omega) hr _)) fun Z r=>aZ trivial fun a0=>?_
 have a1:=mV (xs.getD ((((2*k:Nat) : Int)+1)).toNat 0)
 refine R0 8 rfl<|Oc<|m1 (mg (c:=(xs.getD ((((2*k:Nat) : Int)+1)).toNat 0)) (w:=_) (fL (by omega) hr _)) fun a2 s=>aZ trivial fun t=>Rt 9 t<|Rt 10 t<|re<|tn<|sq<|sg<|Pl 3<|cu 3 [29] 32 (((decide ((ck (xs.getD (2*k) 0))<0))||(decide ((ck (xs.getD ((((2*k:Nat) : Int)+1)).toNat 0))<0)))) (fun K u=>?_) ?_
 refine bl 29 ((decide ((ck (xs.getD (2*k) 0))<0))) (fun b=>?_) (fun b=>?_)
 have I:=of_decide_eq_true b
 exact Pl 3<|ce u true (by rw[b];rfl)
 have I:=of_decide_eq_false b
 exact Pl 3<|ce u (decide ((ck (xs.getD ((((2*k:Nat) : Int)+1)).toNat 0))<0)) (by rw[b];rfl)
 refine nt<|?_
 have v:=aD p (aD r s)
 have y:=aD g v
 refine cb (((decide ((ck (xs.getD (2*k) 0))<0))||(decide ((ck (xs.getD ((((2*k:Nat) : Int)+1)).toNat 0))<0)))) (fun d=>?_) (fun d=>?_)
 refine sg<|Pl 2<|nt<|rt<|tr<|br<|tr<|tr<|br<|tr<|rr (.tuple #[.slice none 0 0,.int .i64 11])<|?_
 have hs:bY xs=none:=vP (k:=k) hL (by omega) (by have q:=d;simp only[Bool.or_eq_true,decide_eq_true_eq] at q;rw[show 2*k+1=(((2*k:Nat) : Int)+1).toNat from by omega];exact q)
 exact rX hs ⟨rfl,y⟩
 have J:=(aK d).1
 have M:=(aK d).2
 have a3:=of_decide_eq_false J
 have a4:=of_decide_eq_false M
 refine bK<|go<|Pl 2<|L0<|Oi (16*(ck (xs.getD (2*k) 0)))<|Pl 1<|L0<|Oi ((16*(ck (xs.getD (2*k) 0)))+(ck (xs.getD ((((2*k:Nat) : Int)+1)).toNat 0)))<|Pl 1<|L0<|cR (m:=1) (e:=5) #[.int .u8 (((16*(ck (xs.getD (2*k) 0)))+(ck (xs.getD ((((2*k:Nat) : Int)+1)).toNat 0)))%256)] fun a5 a6 N O o=>?_
 have P:=cW N (xs:=[(((16*(ck (xs.getD (2*k) 0)))+(ck (xs.getD ((((2*k:Nat) : Int)+1)).toNat 0)))%256)]) (by as_aux_lemma=>kernel_rfl) (ap (by omega) aO) (by(try simp only[List.length_cons,List.length_nil]);omega) O
 refine L0<|cg aX (xs:=L) (ys:=([(((16*(ck (xs.getD (2*k) 0)))+(ck (xs.getD ((((2*k:Nat) : Int)+1)).toNat 0)))%256)])) (.int .u8 0) 1 (ak j (aD v o) (fun x hx=>az) (fun _ _ h=>h)) (P).rd (by(try simp only[List.length_append,List.length_cons,List.length_nil,av]);omega) (le (le (le (le g.size p.size) r.size) s.size) o.size) fun Q R a7 S T=>Pl 1<|nl<|bn<|tn<|go<|Pl 1<|L0<|Oi (((2*k:Nat) : Int)+2)<|Pl 1<|nl<|?_
 have z:=ri (k:=k) hL (by omega) (by omega) (by rw[show 2*k+1=(((2*k:Nat) : Int)+1).toNat from by omega];omega)
 rw[show 2*k+1=(((2*k:Nat) : Int)+1).toNat from by omega] at z
 exact ew ((k+1),(L++[(((16*(ck (xs.getD (2*k) 0)))+(ck (xs.getD ((((2*k:Nat) : Int)+1)).toNat 0)))%256)]),Q,R) ⟨(ut y (ut (ay.mono (S':=(ob B++[])) o au) T (ai il au)) (ai (aI j lr) au)),S,(by(try dsimp only);omega),z,(by(try dsimp only);simp only[List.length_append,List.length_cons,List.length_nil];omega)⟩ (by omega)
 have H:=of_decide_eq_false n
 refine xt<|tx<|tx<|bx<|tn<|sg<|Pl 3<|nt<|rt<|rr (.tuple #[.slice B L.length cq,.int .i64 0])<|?_
 have hs:bY xs=some L:=tc hL (by omega)
 exact xU hs ⟨_,rfl,j,g⟩
open Go.RowKit
def fR (xs:List Int) : Bool:=decide (2≤((xs.length:Nat) : Int))&&decide (xs.drop (((xs.length:Nat) : Int)-2).toNat=[13,10])
def hZ (b:List Int) : Option (List Int):=if b.getD 0 0=58∧fR (b.drop 1)=true then some ((b.drop 1).take (b.length-3)) else none
theorem kB{xs:List Int}(h:fR xs=true) : 2≤xs.length:=by
  unfold fR at h
  simp only[Bool.and_eq_true,decide_eq_true_eq] at h
  omega
theorem jc{b s:List Int}(h:hZ b=some s) : b.getD 0 0=58∧fR (b.drop 1)=true∧s=(b.drop 1).take (b.length-3)∧3≤b.length:=by
  unfold hZ at h
  split at h
  · rename_i hc
    injection h with h
    have:=kB hc.2
    rw[List.length_drop] at this
    exact⟨hc.1,hc.2,h.symm,by omega⟩
  · cases h
theorem oo{b s:List Int}(h:hZ b=some s) : s.length=b.length-3:=by
  obtain⟨_,_,rfl,h3⟩:=jc h
  rw[List.length_take,List.length_drop]
  omega
def mH (xs:List Int)(w:World)(e:Ending)(w':World) : Prop:=match hZ xs with
  | some l=>e = .returned (.tuple #[.string (strOfNums l),.bool true])∧ay [] w w'
  | none=>∃ s,e = .returned (.tuple #[.string s,.bool false])∧ay [] w w'
theorem kc{xs:List Int}{w:World}(hr:dw xs)(hl:xs.length≤1048576) : Calls Tryz.prog 183 #[.string (strOfNums xs),.string ⟨#[13,10]⟩] w (bv (.bool (fR xs)) w):=by
 refine en 21 Tryz.func183 rfl<|sg<|Pl 1<|ng<|Pl 1<|L0<|Oe (.int .i64 (((strOfNums xs).size:Nat) : Int)) (.int .i64 ((xs.length:Nat) : Int)) (by rw[strOfNums_size])<|Pl 4<|bl 10 ((decide (2≤((xs.length:Nat) : Int)))) (fun c=>?_) (fun c=>?_)
 have d:=of_decide_eq_true c
 refine Pl 2<|L1<|Oe (.int .i64 (((strOfNums xs).size:Nat) : Int)) (.int .i64 ((xs.length:Nat) : Int)) (by rw[strOfNums_size])<|Pl 2<|L1<|Oi (((xs.length:Nat) : Int)-2)<|?_
 have e:dw (xs.drop ((((xs.length:Nat) : Int)-2)).toNat):=j5 hr ((((xs.length:Nat) : Int)-2)).toNat
 refine L1<|iD (.string (strOfNums (xs.drop ((((xs.length:Nat) : Int)-2)).toNat))) (lM (xs:=xs) (k:=.i64) (i:=(((xs.length:Nat) : Int)-2)) ((((xs.length:Nat) : Int)-2)).toNat rfl Tryz.underlying9 (by kernel_rfl) (by kernel_rfl) (by omega) (by omega))<|Pl 1<|L1<|iD (.bool (decide ((xs.drop ((((xs.length:Nat) : Int)-2)).toNat)=[13,10]))) (eH (a:=(strOfNums (xs.drop ((((xs.length:Nat) : Int)-2)).toNat))) (b:=⟨#[13,10]⟩) rfl (by kernel_rfl) (by kernel_rfl) (xD (ys:=[13,10]) e (by decide)))<|Pl 2<|nt<|rt<|rr (.bool (decide ((xs.drop ((((xs.length:Nat) : Int)-2)).toNat)=[13,10])))<|?_
 have hs:fR xs=(decide ((xs.drop ((((xs.length:Nat) : Int)-2)).toNat)=[13,10])):=by unfold fR;(try simp only[c,bs,if_true,if_false,decide_true,decide_false]);all_goals rfl
 rw[hs]
 exact⟨rfl,(ay.refl [] _)⟩
 have d:=of_decide_eq_false c
 refine Pl 11<|nt<|rt<|rr (.bool false)<|?_
 have hs:fR xs=false:=by unfold fR;(try simp only[c,bs,if_true,if_false,decide_true,decide_false]);all_goals rfl
 rw[hs]
 exact⟨rfl,(ay.refl [] _)⟩
theorem tz{xs:List Int}{w:World}(hr:dw xs)(hl:xs.length≤1048576)(hq:fR xs=true) : Calls Tryz.prog 179 #[.string (strOfNums xs),.string ⟨#[13,10]⟩] w (bv (.tuple #[.string (strOfNums (xs.take (((xs.length:Nat) : Int)-2).toNat)),.bool true]) w):=by
 have hq2:=kB hq
 refine en 18 Tryz.func179 rfl<|sg<|Pl 2<|nt<|sq<|sg<|Pl 2<|L0<|Oc<|m1 (kc (xs:=xs) (w:=_) hr (by omega)) fun c a=>Pl 1<|nt<|?_
 have b:(!(fR xs))=false:=by simp only[hq,Bool.not_true,Bool.not_false]
 refine cf b<|bK<|sg<|Pl 2<|L0<|Oe (.int .i64 (((strOfNums xs).size:Nat) : Int)) (.int .i64 ((xs.length:Nat) : Int)) (by rw[strOfNums_size])<|Pl 2<|L0<|Oi (((xs.length:Nat) : Int)-2)<|?_
 have d:dw (xs.take ((((xs.length:Nat) : Int)-2)).toNat):=m5 hr ((((xs.length:Nat) : Int)-2)).toNat
 refine L0<|iD (.string (strOfNums (xs.take ((((xs.length:Nat) : Int)-2)).toNat))) (tL (xs:=xs) (k:=.i64) (i:=(((xs.length:Nat) : Int)-2)) ((((xs.length:Nat) : Int)-2)).toNat rfl Tryz.underlying9 (by kernel_rfl) (by kernel_rfl) (by omega) (by omega))<|Pl 2<|nt<|rt<|rr (.tuple #[.string (strOfNums (xs.take ((((xs.length:Nat) : Int)-2)).toNat)),.bool true])<|?_
 exact⟨rfl,a⟩
theorem uO{xs:List Int}{w:World}(hr:dw xs)(hl:xs.length≤1048576)(hq:fR xs=true) : Calls Tryz.prog 176 #[.string (strOfNums xs),.string ⟨#[13,10]⟩] w (bv (.tuple #[.string (strOfNums (xs.take (((xs.length:Nat) : Int)-2).toNat)),.bool true]) w):=by
 refine en 11 Tryz.func176 rfl<|sg<|Pl 2<|ng<|Pl 2<|L0<|Oc<|m1 (tz (xs:=xs) (w:=_) hr hl hq) fun b a=>Pl 4<|nt<|rt<|?_
 refine rr (.tuple #[.string (strOfNums (xs.take (((xs.length:Nat) : Int)-2).toNat)),.bool true])<|?_
 exact⟨rfl,a⟩
theorem tW{xs:List Int}{w:World}(hr:dw xs)(hl:xs.length≤1048576)(hq:fR xs=false) : Calls Tryz.prog 179 #[.string (strOfNums xs),.string ⟨#[13,10]⟩] w (bv (.tuple #[.string (strOfNums xs),.bool false]) w):=by
 refine en 18 Tryz.func179 rfl<|sg<|Pl 2<|nt<|sq<|sg<|Pl 2<|L0<|Oc<|m1 (kc (xs:=xs) (w:=_) hr (by omega)) fun c a=>Pl 1<|nt<|?_
 have b:(!(fR xs))=true:=by simp only[hq,Bool.not_true,Bool.not_false]
 refine ct b<|sg<|Pl 3<|nt<|rt<|tr<|rr (.tuple #[.string (strOfNums xs),.bool false])<|?_
 exact⟨rfl,a⟩
theorem uX{xs:List Int}{w:World}(hr:dw xs)(hl:xs.length≤1048576)(hq:fR xs=false) : Calls Tryz.prog 176 #[.string (strOfNums xs),.string ⟨#[13,10]⟩] w (bv (.tuple #[.string (strOfNums xs),.bool false]) w):=by
 refine en 11 Tryz.func176 rfl<|sg<|Pl 2<|ng<|Pl 2<|L0<|Oc<|m1 (tW (xs:=xs) (w:=_) hr hl hq) fun b a=>Pl 4<|nt<|rt<|?_
 refine rr (.tuple #[.string (strOfNums xs),.bool false])<|?_
 exact⟨rfl,a⟩
theorem zj{b:List Int}(h:b.getD 0 0=58)(k:fR (b.drop 1)=true) : hZ b=some ((b.drop 1).take (b.length-3)):=if_pos ⟨h,k⟩
theorem xy{b:List Int}(h:¬ b.getD 0 0=58) : hZ b=none:=if_neg fun k=>h k.1
theorem xc{b:List Int}(k:fR (b.drop 1)=false) : hZ b=none:=if_neg fun h=>by rw[k] at h;cases h.2
theorem yE{b l:List Int}{w w':World}{e:Ending}(h:hZ b=some l)(k:e = .returned (.tuple #[.string (strOfNums l),.bool true])∧ay [] w w') : mH b w e w':=by
  unfold mH
  rw[h]
  exact k
theorem ww{b:List Int}{w w':World}{e:Ending}(h:hZ b=none)(k:∃ s,e = .returned (.tuple #[.string s,.bool false])∧ay [] w w') : mH b w e w':=by
  unfold mH
  rw[h]
  exact k
theorem kf{b:List Int}{w:World}(hr:dw b)(hl:b.length≤1048576)(h0:0<b.length) : Calls Tryz.prog 173 #[.string (strOfNums b)] w (mH b w):=by
 refine en 18 Tryz.func173 rfl<|sg<|Pl 2<|nt<|sq<|sg<|Pl 1<|L0<|AY (sv:=strOfNums b) Tryz.underlying9 fun f m n o p=>nt<|bk<|?_
 refine ie (fun x=>[(0,.string (strOfNums b)),(7,.pointer (some ⟨f,0,none⟩))]) (fun(x:Unit) w'=>ay [] m w'∧(0≤0)) (fun x=>0) () ⟨ay.refl _ _,(by(try dsimp only);omega)⟩ ?_
 rintro z v ⟨g,q⟩
 refine ik [(0,.string (strOfNums b)),(7,.pointer (some ⟨f,0,none⟩))] ?_
 have y:0≤0:=q
 refine sg<|?_
 refine L0<|Cw hr (by omega) (ub g o) fun r A h s=>Pl 1<|nt<|sq<|c1<|bK<|bk<|sg<|Pl 2<|nt<|?_
 refine sq<|sg<|Pl 2<|nt<|?_
 have a:=ud p (uz g s) n
 refine cb ((r != 58)) (fun c=>?_) (fun c=>?_)
 have d:=aB c
 refine sg<|Pl 2<|nt<|rt<|tr<|br<|tr<|br<|tr<|rr (.tuple #[.string ⟨#[]⟩,.bool false])<|?_
 exact ww (xy fun e=>d (h.2 e)) ⟨_,rfl,a⟩
 have d:=ah c
 refine bK<|xt<|AQ<|tx<|bx<|tn<|sg<|Pl 1<|?_
 have j:dw (b.drop 1):=j5 hr 1
 refine L0<|iD (.string (strOfNums (b.drop 1))) (lM (xs:=b) (k:=.i64) (i:=1) 1 rfl Tryz.underlying9 (by kernel_rfl) (by kernel_rfl) rfl (by omega))<|?_
 rcases dB (fR (b.drop 1)) with hq|hq
 refine L0<|Oc<|m1 (uO (xs:=(b.drop 1)) (w:=_) j (by rw[List.length_drop];omega) hq) fun B t=>Pl 4<|nt<|rt<|rr (.tuple #[.string (strOfNums ((b.drop 1).take ((((b.drop 1).length:Nat) : Int)-2).toNat)),.bool true])<|?_
 exact yE (l:=(b.drop 1).take (b.length-3)) (zj (h.1 d) hq) ⟨by rw[show b.length-3=((((b.drop 1).length:Nat) : Int)-2).toNat from by rw[List.length_drop];omega],(aD a t)⟩
 refine L0<|Oc<|m1 (uX (xs:=(b.drop 1)) (w:=_) j (by rw[List.length_drop];omega) hq) fun C u=>Pl 4<|nt<|rt<|rr (.tuple #[.string (strOfNums (b.drop 1)),.bool false])<|?_
 exact ww (xc hq) ⟨_,rfl,(aD a u)⟩
open Go.RowKit
theorem tj{b s:List Int}(hr:dw b)(h:hZ b=some s) : dw s:=by
  obtain⟨_,_,rfl,_⟩:=jc h
  exact m5 (j5 hr 1) _
theorem xr{b l:List Int}{w:World}(h:hZ b=some l)(e:Ending)(w':World)(k:mH b w e w') : e = .returned (.tuple #[.string (strOfNums l),.bool true])∧ay [] w w':=by
  unfold mH at k
  rw[h] at k
  exact k
theorem ya{b:List Int}{w:World}(h:hZ b=none)(e:Ending)(w':World)(k:mH b w e w') : ∃ s,e = .returned (.tuple #[.string s,.bool false])∧ay [] w w':=by
  unfold mH at k
  rw[h] at k
  exact k
theorem ws{b l:List Int}{w:World}(h:bY b=some l)(e:Ending)(w':World)(k:fY b w e w') : ∃ v,e = .returned (.tuple #[v,.int .i64 0])∧cz w.heap.size w' v l∧ay [] w w':=by
  unfold fY at k
  rw[h] at k
  exact k
theorem uR{b:List Int}{w:World}(h:bY b=none)(e:Ending)(w':World)(k:fY b w e w') : e = .returned (.tuple #[.slice none 0 0,.int .i64 11])∧ay [] w w':=by
  unfold fY at k
  rw[h] at k
  exact k
def e7 (x:List Int) : List Int:=(x.take (x.length-1)).drop 1
theorem kC(x:List Int) : e7 x=(x.take (((x.length:Nat) : Int)-1).toNat).drop 1:=by
  unfold e7
  rw[show(((x.length:Nat) : Int)-1).toNat=x.length-1 from by omega]
def ec (dir:Int)(b:List Int) : cm × Int :=
  if dir != 0&&dir != 1 then (cm.zero,1)
  else if decide ((b.length:Int)<9) then (cm.zero,2)
  else if decide (513<(b.length:Int)) then (cm.zero,3)
  else match hZ b with
    | none=>(cm.zero,12)
    | some s=>match bY s with
      | none=>(cm.zero,11)
      | some x=>if !(fo x) then (cm.zero,10) else dj (x.getD 0 0) 0 (cy dir (e7 x))
theorem qi{m:Bool}{A:Option Addr}{cp:Nat}{b:List Int}{w:World}{dir:Int}(hsl0:aS m w (.slice A b.length cp) b)(hb:b.length≤1048576) :
    Calls Tryz.prog 171 #[.int .i64 dir,.slice A b.length cp] w (mF (ec dir b) w):=by
 have hln:(b.length:Int)≤1048576:=by omega
 have hr:dw b:=aS.range hsl0
 refine en 71 Tryz.func171 rfl<|sg<|L0<|bN #[.int .u8 0,.int .u16 0,.int .u8 0,.int .u8 0,.int .u16 0,.int .u16 0,.int .u16 0,.int .u16 0,.int .u16 0,.int .u16 0,.int .u16 0,.int .u16 0,.int .u16 0,.int .u16 0,.slice none 0 0,.slice none 0 0,.slice none 0 0,.slice none 0 0,.int .u8 0,.int .u8 0,.int .u8 0,.int .u8 0,.int .u8 0,.slice none 0 0] fun bu X k d o=>Pl 1<|nt<|sq<|bk<|sg<|Pl 3<|cu 3 [14] 17 (((dir != 0)&&(dir != 1))) (fun K Y=>?_) ?_
 refine bl 14 ((dir != 0)) (fun F=>?_) (fun F=>?_)
 have an:=aB F
 exact Pl 3<|ce Y (dir != 1) (by rw[F];rfl)
 have an:=ah F
 exact Pl 3<|ce Y false (by rw[F];rfl)
 refine Pl 1<|nt<|cb (((dir != 0)&&(dir != 1))) (fun f=>?_) (fun f=>?_)
 have Z:=(bM f).1
 have a0:=(bM f).2
 have bv:=aB Z
 have bw:=aB a0
 refine sg<|Pl 1<|L0<|bi d #[.int .u8 0,.int .u16 0,.int .u8 0,.int .u8 0,.int .u16 0,.int .u16 0,.int .u16 0,.int .u16 0,.int .u16 0,.int .u16 0,.int .u16 0,.int .u16 0,.int .u16 0,.int .u16 0,.slice none 0 0,.slice none 0 0,.slice none 0 0,.slice none 0 0,.int .u8 0,.int .u8 0,.int .u8 0,.int .u8 0,.int .u8 0,.slice none 0 0] fun bx ao ap=>Pl 1<|nt<|rt<|br<|tr<|d9 ao (.int .i64 1)<|?_
 have hs:ec dir b=(cm.zero,1):=by
   unfold ec
   (try simp only[f,Z,a0,bs,if_true,if_false,decide_true,decide_false,dj,reduceIte])
   all_goals rfl
 refine dU hs ?_
 exact cQ (ud o ap k)
 refine sg<|Pl 4<|nt<|cb ((decide (((b.length:Nat) : Int)<9))) (fun i=>?_) (fun i=>?_)
 have aq:=of_decide_eq_true i
 refine sg<|Pl 1<|L0<|bi d #[.int .u8 0,.int .u16 0,.int .u8 0,.int .u8 0,.int .u16 0,.int .u16 0,.int .u16 0,.int .u16 0,.int .u16 0,.int .u16 0,.int .u16 0,.int .u16 0,.int .u16 0,.int .u16 0,.slice none 0 0,.slice none 0 0,.slice none 0 0,.slice none 0 0,.int .u8 0,.int .u8 0,.int .u8 0,.int .u8 0,.int .u8 0,.slice none 0 0] fun bz ar au=>Pl 1<|nt<|rt<|br<|tr<|d9 ar (.int .i64 2)<|?_
 have hs:ec dir b=(cm.zero,2):=by
   unfold ec
   (try simp only[f,i,bs,if_true,if_false,decide_true,decide_false,dj,reduceIte])
   all_goals rfl
 refine dU hs ?_
 exact cQ (ud o au k)
 have aq:=of_decide_eq_false i
 refine sg<|Pl 4<|nt<|cb ((decide (513<((b.length:Nat) : Int)))) (fun j=>?_) (fun j=>?_)
 have av:=of_decide_eq_true j
 refine sg<|Pl 1<|L0<|bi d #[.int .u8 0,.int .u16 0,.int .u8 0,.int .u8 0,.int .u16 0,.int .u16 0,.int .u16 0,.int .u16 0,.int .u16 0,.int .u16 0,.int .u16 0,.int .u16 0,.int .u16 0,.int .u16 0,.slice none 0 0,.slice none 0 0,.slice none 0 0,.slice none 0 0,.int .u8 0,.int .u8 0,.int .u8 0,.int .u8 0,.int .u8 0,.slice none 0 0] fun bB aw ax=>Pl 1<|nt<|rt<|br<|tr<|d9 aw (.int .i64 3)<|?_
 have hs:ec dir b=(cm.zero,3):=by
   unfold ec
   (try simp only[f,i,j,bs,if_true,if_false,decide_true,decide_false,dj,reduceIte])
   all_goals rfl
 refine dU hs ?_
 exact cQ (ud o ax k)
 have av:=of_decide_eq_false j
 refine sk<|bn<|tn<|sg<|Pl 1<|?_
 have Q:=aS.old hsl0 o
 refine L0<|iD (.string (strOfNums b)) (cl (A:=A) (n:=b.length) (c:=cp) rfl (by kernel_rfl) Tryz.underlying27 Tryz.underlying5 Tryz.underlying9 Q)<|?_
 rcases hds:hZ b with _|sd
 have ay:=kf (w:=X) (aS.range Q) hb (by omega)
 have aA:=ay.mono (ya hds)
 refine L0<|Oc (args:=#[.string (strOfNums b)])<|e1 aA fun bC bD a1=>Pl 5<|nt<|sq<|sg<|Pl 2<|nt<|c1<|sg<|Pl 1<|?_
 refine L0<|bi (ub a1 d) #[.int .u8 0,.int .u16 0,.int .u8 0,.int .u8 0,.int .u16 0,.int .u16 0,.int .u16 0,.int .u16 0,.int .u16 0,.int .u16 0,.int .u16 0,.int .u16 0,.int .u16 0,.int .u16 0,.slice none 0 0,.slice none 0 0,.slice none 0 0,.slice none 0 0,.int .u8 0,.int .u8 0,.int .u8 0,.int .u8 0,.int .u8 0,.slice none 0 0] fun bE aG aH=>Pl 1<|nt<|rt<|tr<|d9 aG (.int .i64 12)<|?_
 have hs:ec dir b=(cm.zero,12):=by
   unfold ec
   (try simp only[f,i,j,bs,if_true,if_false,decide_true,decide_false,dj,hds,reduceIte])
   all_goals rfl
 refine dU hs ?_
 exact cQ (ud o (uz a1 aH) k)
 have hsl:=oo hds
 have hsd:dw sd:=tj hr hds
 have aI:=kf (w:=X) (aS.range Q) hb (by omega)
 have aK:=aI.mono (xr hds)
 refine L0<|Oc (args:=#[.string (strOfNums b)])<|m1 aK fun a2 l=>Pl 5<|nt<|sq<|sg<|Pl 2<|nt<|c0<|bK<|sq<|?_
 refine go<|Pl 1<|?_
 have a3:=aD o l
 rcases hth:bY sd with _|x
 have aL:=(lI (w:=a2) hsd (by omega)).mono (uR hth)
 refine L0<|Oc<|m1 aL fun bF a4=>Pl 5<|nt<|sq<|sg<|Pl 2<|nt<|c1<|sg<|Pl 2<|?_
 refine L0<|bi (ub (aD l a4) d) #[.int .u8 0,.int .u16 0,.int .u8 0,.int .u8 0,.int .u16 0,.int .u16 0,.int .u16 0,.int .u16 0,.int .u16 0,.int .u16 0,.int .u16 0,.int .u16 0,.int .u16 0,.int .u16 0,.slice none 0 0,.slice none 0 0,.slice none 0 0,.slice none 0 0,.int .u8 0,.int .u8 0,.int .u8 0,.int .u8 0,.int .u8 0,.slice none 0 0] fun bG aN aO=>Pl 1<|nt<|rt<|tr<|d9 aN (.int .i64 11)<|?_
 have hs:ec dir b=(cm.zero,11):=by
   unfold ec
   (try simp only[f,i,j,bs,if_true,if_false,decide_true,decide_false,dj,hds,hth,reduceIte])
   all_goals rfl
 refine dU hs ?_
 exact cQ (ud a3 (uz a4 aO) k)
 have hxl:=mb hth
 have aP:=(lI (w:=a2) hsd (by omega)).mono (ws hth)
 refine L0<|Oc<|dX aP fun R J bH S bI bJ a5=>Pl 5<|nt<|sq<|sg<|Pl 2<|nt<|c0<|bK<|sq<|?_
 refine sg<|Pl 1<|L0<|Oc (args:=#[.slice R x.length J])<|m1 (tA (S).rd) fun aQ T=>Pl 1<|nt<|?_
 have G:=aD a5 T
 have a6:=aD a3 G
 refine cb ((!(fo x))) (fun p=>?_) (fun p=>?_)
 have L:(fo x)=false:=by simpa using p
 refine sg<|Pl 1<|?_
 refine L0<|bi (ub (aD l G) d) #[.int .u8 0,.int .u16 0,.int .u8 0,.int .u8 0,.int .u16 0,.int .u16 0,.int .u16 0,.int .u16 0,.int .u16 0,.int .u16 0,.int .u16 0,.int .u16 0,.int .u16 0,.int .u16 0,.slice none 0 0,.slice none 0 0,.slice none 0 0,.slice none 0 0,.int .u8 0,.int .u8 0,.int .u8 0,.int .u8 0,.int .u8 0,.slice none 0 0] fun bL aR aT=>Pl 1<|nt<|rt<|tr<|d9 aR (.int .i64 10)<|?_
 have hs:ec dir b=(cm.zero,10):=by
   unfold ec
   (try simp only[f,i,j,p,L,bs,if_true,if_false,decide_true,decide_false,dj,hds,hth,reduceIte])
   all_goals rfl
 refine dU hs ?_
 exact cQ (ud a6 aT k)
 have L:(fo x)=true:=by simpa using p
 refine bK<|sg<|Pl 4<|L0<|Oi (((x.length:Nat) : Int)-1)<|v6 (s6 (P:=Tryz.prog) 27 5 1 Tryz.underlying27 rfl rfl R x.length J (lo:=1) (up:=(((x.length:Nat) : Int)-1)) 1 (((((x.length:Nat) : Int)-1)).toNat) (by omega) (by omega) (by omega) (by omega) (by omega)) fun aU hrun79 aV=>L0<|iD (.slice aU ((((((x.length:Nat) : Int)-1)).toNat)-1) (J-1)) (lO (kl:=.i64) (kh:=.i64) (lo:=1) (hi:=(((x.length:Nat) : Int)-1)) (A:=R) (n:=x.length) (c:=J) rfl Tryz.underlying27 (by kernel_rfl) (by kernel_rfl) (by kernel_rfl) (hrun79 _ _ _))<|?_
 obtain⟨a,H,U⟩ : ∃ M E,cy dir ((x.take (((((x.length:Nat) : Int)-1)).toNat)).drop 1)=(M,E):=⟨_,_,rfl⟩
 have a7:=ak S T (fun x hx=>az) (fun _ _ h=>h)
 have a8:=j0 (dir:=dir) (w:=aQ) (aV _ _ _ _ _ (a7).rd) (by rw[List.length_drop,List.length_take];omega)
 rw[U] at a8
 refine L0<|Oc<|e2 a8 fun aW bO a9 V=>?_
 have aX:=a9
 obtain⟨b0,b1,b2,b3,b4,b5,b6,b7,b9,ba,bb,bP⟩:=aX
 obtain rfl:aW=(bA a b0 b1 b2 b3 b4).toArray:=by apply Array.toList_inj.1;simpa using b5
 obtain⟨q,r,rfl,_,_⟩:=b6.shape
 obtain⟨s,t,rfl,_,_⟩:=b7.shape
 obtain⟨u,v,rfl,_,_⟩:=b9.shape
 obtain⟨y,z,rfl,_,_⟩:=ba.shape
 obtain⟨B,C,rfl,_,_⟩:=bb.shape
 refine Pl 3<|L0<|bN mZ fun aa bQ ab bc bd=>L0<|bi bc (mG a.code a.fail a.addr a.count a.value a.and_ a.or_ a.addr2 a.sub a.status a.events a.messages (.slice q a.words.length r) (.slice s a.bits.length t) (.slice u a.data.length v) (.slice y a.recs.length z) a.mei a.kind a.level a.more a.next (.slice B a.objects.length C)) fun bR be bf=>Pl 1<|nt<|sq<|sg<|Pl 2<|nt<|?_
 have ac:=ud bd bf ab
 have N:=aD V ac
 have ad:=aD a6 N
 refine cb ((H != 0)) (fun I=>?_) (fun I=>?_)
 have bg:=aB I
 refine sg<|Pl 2<|?_
 refine L0<|bi (ub (aD l (aD G N)) d) #[.int .u8 0,.int .u16 0,.int .u8 0,.int .u8 0,.int .u16 0,.int .u16 0,.int .u16 0,.int .u16 0,.int .u16 0,.int .u16 0,.int .u16 0,.int .u16 0,.int .u16 0,.int .u16 0,.slice none 0 0,.slice none 0 0,.slice none 0 0,.slice none 0 0,.int .u8 0,.int .u8 0,.int .u8 0,.int .u8 0,.int .u8 0,.slice none 0 0] fun bS bh bj=>Pl 1<|nt<|rt<|tr<|d9 bh (.int .i64 H)<|?_
 have hX2:cy dir (e7 x)=(a,H):=(congrArg (cy dir) (kC x)).trans U
 have hs:ec dir b=(cm.zero,H):=by
   unfold ec
   (try simp only[f,i,j,p,L,I,bs,if_true,if_false,decide_true,decide_false,dj,hds,hth,hX2,reduceIte])
   all_goals rfl
 refine dU hs ?_
 exact cQ (ud ad bj k)
 have bg:=ah I
 refine bK<|sq<|?_
 have af:=ak a7 N (fun x hx=>az) (fun _ _ h=>h)
 refine i8 (aS.at_ (af).rd 0 (by omega)) fun bm bo ag bp bT=>Rg 8 (fun w'=>w'.cell? ⟨bm,bo+0,none⟩=some (.int .u8 (x.getD 0 0))∧w'.heap[aa]? = some (.cells (mG a.code a.fail a.addr a.count a.value a.and_ a.or_ a.addr2 a.sub a.status a.events a.messages (.slice q a.words.length r) (.slice s a.bits.length t) (.slice u a.data.length v) (.slice y a.recs.length z) a.mei a.kind a.level a.more a.next (.slice B a.objects.length C)) 31 (0,0))) fun bU O=>?_
 have ai:=ub O be
 refine aZ ⟨(uc O bp),ai⟩ fun D=>Rt 0 D<|qz 1 D x.length 0 0 rfl ag (by omega)<|Rl 2 D (fun _ hs=>hs.1)<|Rt 3 D<|Rr 4 D (.agg (mG a.code a.fail a.addr a.count a.value a.and_ a.or_ a.addr2 a.sub a.status a.events a.messages (.slice q a.words.length r) (.slice s a.bits.length t) (.slice u a.data.length v) (.slice y a.recs.length z) a.mei a.kind a.level a.more a.next (.slice B a.objects.length C))) (fun w' hs=>gJ (g:=aa) (off:=0) [.int .u8 a.code,.int .u8 a.fail,.int .u16 a.addr,.int .u16 a.count,.int .u16 a.value,.int .u16 a.and_,.int .u16 a.or_,.int .u16 a.addr2,.int .u16 a.sub,.int .u16 a.status,.int .u16 a.events,.int .u16 a.messages,.slice q a.words.length r,.slice s a.bits.length t,.slice u a.data.length v,.slice y a.recs.length z,.int .u8 a.mei,.int .u8 a.kind,.int .u8 a.level,.int .u8 a.more,.int .u8 a.next,.slice B a.objects.length C] rfl (by kernel_rfl) hs.2 (by kernel_rfl) (by kernel_rfl) rfl)<|Rt 5 D<|?_
 refine R0 6 rfl<|bi (ub (aD l (aD G (aD N O))) d) #[.int .u8 (x.getD 0 0),.int .u16 0,.int .u8 a.code,.int .u8 a.fail,.int .u16 a.addr,.int .u16 a.count,.int .u16 a.value,.int .u16 a.and_,.int .u16 a.or_,.int .u16 a.addr2,.int .u16 a.sub,.int .u16 a.status,.int .u16 a.events,.int .u16 a.messages,.slice q a.words.length r,.slice s a.bits.length t,.slice u a.data.length v,.slice y a.recs.length z,.int .u8 a.mei,.int .u8 a.kind,.int .u8 a.level,.int .u8 a.more,.int .u8 a.next,.slice B a.objects.length C] fun bV bq al=>?_
 have W:=uz O al
 refine aZ ⟨(cB ((ak af W (fun x hx=>(ae (fun e=>(aC (am d) l.size S) (e▸hx)) az)) (fun _ _ h=>h))).rd ag 0 (by omega)),(aY al (Ne.symm (nb (am d) (le (le (le l.size a5.size) T.size) V.size) ab)) ai)⟩ fun bt=>Rt 7 bt<|re<|tn<|rt<|d9 bq (.int .i64 0)<|?_
 have hX2:cy dir (e7 x)=(a,H):=(congrArg (cy dir) (kC x)).trans U
 have hs:ec dir b=(⟨(x.getD 0 0),0,a⟩,0):=by
   unfold ec
   (try simp only[f,i,j,p,L,I,bs,if_true,if_false,decide_true,decide_false,dj,hds,hth,hX2,reduceIte])
   all_goals rfl
 refine dU hs ?_
 exact⟨_,rfl,⟨#[.int .u8 a.code,.int .u8 a.fail,.int .u16 a.addr,.int .u16 a.count,.int .u16 a.value,.int .u16 a.and_,.int .u16 a.or_,.int .u16 a.addr2,.int .u16 a.sub,.int .u16 a.status,.int .u16 a.events,.int .u16 a.messages,.slice q a.words.length r,.slice s a.bits.length t,.slice u a.data.length v,.slice y a.recs.length z,.int .u8 a.mei,.int .u8 a.kind,.int .u8 a.level,.int .u8 a.more,.int .u8 a.next,.slice B a.objects.length C],(by as_aux_lemma=>kernel_rfl),(aF.upd a9 (uz ac W) (aj (aM (ub (aD l (aD G V)) d) (by decide)) aE)),b8 (x:=(x.getD 0 0)) (by omega),aJ (x:=0) (by omega)⟩,(ud ad W k)⟩
theorem t4{m:Bool}{v:Value}{b:List Int}{w:World}{dir:Int}(h:aS m w v b)(hb:b.length≤1048576) : Calls Tryz.prog 171 #[.int .i64 dir,v] w (mF (ec dir b) w):=by
  obtain⟨A,cp,rfl,_,_⟩:=h.shape
  exact qi h hb
open Go.RowKit
def uL (u:Int)(l:List Int) : List Int:=([58]++dL (([u]++l)++[cY ([u]++l)]))++[13,10]
def fF (dir u t:Int)(M:aT) : Option (List Int) :=
  match ci dir M with
  | none=>none
  | some l=>if t != 0 then none else some (uL u l)
def mM (res:Option (List Int))(w:World)(e:Ending)(w':World) : Prop :=
  match res with
  | some l=>∃ v,e = .returned (.tuple #[v,.int .i64 0])∧iL w.heap.size w' v l∧ay [] w w'
  | none=>e = .returned (.tuple #[.slice none 0 0,.int .i64 1])∧ay [] w w'
theorem pK{x y:Option (List Int)}(h:x=y){w:World}{e:Ending}{w':World}(k:mM y w e w') : mM x w e w':=by rw[h];exact k
theorem iL.weaken{base base':Nat}{w:World}{v:Value}{xs:List Int}(h:iL base w v xs)(k:base'≤base) : iL base' w v xs:=by
  obtain⟨g,cap,cur,n,h1,h2,h3⟩:=h
  exact⟨g,cap,cur,n,h1,Nat.le_trans k h2,h3⟩
theorem u6(b:List Int) : 0≤cY b∧cY b<256:=by unfold cY;omega
theorem ma{m:Bool}{cs:Array Value}{M:aT}{w:World}{dir u t:Int}(h:aF m w cs.toList M)(hf:aW M)(hu:B8 u)(ht:dA t) : Calls Tryz.prog 200 #[.int .i64 dir,.agg (#[.int .u8 u,.int .u16 t]++cs)] w (mM (fF dir u t M) w):=by
 have hM:=h
 obtain⟨hu1,hu2⟩:=hu
 obtain⟨ht1,ht2⟩:=ht
 obtain⟨vw,vb,vd,vr,vo,h0,hw,hbt,hd,hr,ho,hR⟩:=h
 obtain rfl:cs=(bA M vw vb vd vr vo).toArray:=by apply Array.toList_inj.1;simpa using h0
 clear h0
 obtain⟨Aw,kw,rfl,_,_⟩:=hw.shape
 obtain⟨Ab,kb,rfl,_,_⟩:=hbt.shape
 obtain⟨Ad,kd,rfl,_,_⟩:=hd.shape
 obtain⟨Ar,kr,rfl,_,_⟩:=hr.shape
 obtain⟨Ao,ko,rfl,_,_⟩:=ho.shape
 obtain⟨q0,q1,q2,q3,q4,q5,q6,q7,q8,q9,B,C,D,E,F,G,H⟩:=hR
 simp only[B8,dA] at q0 q1 q2 q3 q4 q5 q6 q7 q8 q9 B C D E F G H
 refine en 39 Tryz.func200 rfl<|sg<|L0<|cI #[.int .u8 u,.int .u16 t,.int .u8 M.code,.int .u8 M.fail,.int .u16 M.addr,.int .u16 M.count,.int .u16 M.value,.int .u16 M.and_,.int .u16 M.or_,.int .u16 M.addr2,.int .u16 M.sub,.int .u16 M.status,.int .u16 M.events,.int .u16 M.messages,.slice Aw M.words.length kw,.slice Ab M.bits.length kb,.slice Ad M.data.length kd,.slice Ar M.recs.length kr,.int .u8 M.mei,.int .u8 M.kind,.int .u8 M.level,.int .u8 M.more,.int .u8 M.next,.slice Ao M.objects.length ko] fun a2 a3 a4 o c=>Pl 2<|ng<|Pl 2<|L0<|sV o 2 22<|?_
 rcases hwr:ci dir M with _|lw
 have p:=eT (dir:=dir) (aF.old hM c) hf
 rw[hwr] at p
 refine L0<|Oc<|m1 p fun a5 I=>Pl 5<|nt<|sq<|sg<|Pl 8<|nt<|c1<|sg<|Pl 2<|nl<|?_
 refine tn<|rt<|tr<|rr (.tuple #[.slice none 0 0,.int .i64 1])<|?_
 have hs:fF dir u t M=none:=by
   unfold fF
   (try simp only[hwr,bs,if_true,if_false,decide_true,decide_false,reduceIte])
   all_goals rfl
 refine pK hs ?_
 exact⟨rfl,(aD c I)⟩
 have hlw:=fE hwr
 have q:=eT (dir:=dir) (aF.old hM c) hf
 rw[hwr] at q
 refine L0<|Oc<|dX q fun a6 a7 a8 J a9 aa k=>Pl 5<|nt<|sq<|sg<|Pl 5<|?_
 have r:=ub k o
 refine L1<|aP r 1<|Pl 2<|nt<|?_
 have s:=aD c k
 refine cb ((t != 0)) (fun d=>?_) (fun d=>?_)
 have K:=aB d
 refine sg<|Pl 2<|nt<|rt<|tr<|rr (.tuple #[.slice none 0 0,.int .i64 1])<|?_
 have hs:fF dir u t M=none:=by
   unfold fF
   (try simp only[hwr,d,bs,if_true,if_false,decide_true,decide_false,reduceIte])
   all_goals rfl
 refine pK hs ?_
 exact⟨rfl,s⟩
 have K:=ah d
 refine bK<|sg<|Pl 2<|L0<|aP r 0<|L0<|cR (m:=1) (e:=5) #[.int .u8 u] fun L ab N O f=>?_
 have v:=cW N (xs:=[u]) (by as_aux_lemma=>kernel_rfl) (ap (by omega) aO) (by(try simp only[List.length_cons,List.length_nil]);omega) O
 refine Pl 1<|?_
 refine L0<|cg aX (xs:=([u])) (ys:=lw) (.int .u8 0) 1 v ((ak J f (fun x hx=>az) (fun _ _ h=>h))).rd (by(try simp only[List.length_append,List.length_cons,List.length_nil,av]);omega) f.size fun g P ac l n=>Pl 1<|ng<|Pl 2<|L0<|Oc (args:=#[.slice g (([u]++lw).length) P])<|m1 (mh (l).rd) fun ad i=>?_
 have ae:=u6 ([u]++lw)
 refine L0<|cR (m:=1) (e:=5) #[.int .u8 (cY ([u]++lw))] fun af ag Q R j=>?_
 have S:=cW Q (xs:=[(cY ([u]++lw))]) (by as_aux_lemma=>kernel_rfl) (ap (by omega) aO) (by(try simp only[List.length_cons,List.length_nil]);omega) R
 refine L0<|cg aX (xs:=([u]++lw)) (ys:=([(cY ([u]++lw))])) (.int .u8 0) 1 (ak (ak l i (fun x hx=>az) (fun _ _ h=>h)) j (fun x hx=>az) (fun _ _ h=>h)) (S).rd (by(try simp only[List.length_append,List.length_cons,List.length_nil,av]);omega) (le (le (le f.size n.size) i.size) j.size) fun T U aj y z=>L0<|Oc (args:=#[.slice T ((([u]++lw)++[(cY ([u]++lw))]).length) U])<|m1 (uQ (y).rd (by simp only[List.length_append,List.length_cons,List.length_nil];omega)) fun al A=>?_
 have V:dw (dL (([u]++lw)++[(cY ([u]++lw))])):=mn (aS.range (y).rd)
 have W:dw ([58]++(dL (([u]++lw)++[(cY ([u]++lw))]))):=o7 (by decide) V
 refine L0<|iD (.string (strOfNums ([58]++(dL (([u]++lw)++[(cY ([u]++lw))]))))) (o9 (a:=⟨#[58]⟩) (b:=(strOfNums (dL (([u]++lw)++[(cY ([u]++lw))])))) (xs:=([58])) (ys:=(dL (([u]++lw)++[(cY ([u]++lw))]))) rfl (by kernel_rfl) (by kernel_rfl) rfl rfl (by simp only[eI,List.length_append,List.length_cons,List.length_nil];omega))<|?_
 have X:dw (([58]++(dL (([u]++lw)++[(cY ([u]++lw))])))++[13,10]):=o7 W (by decide)
 refine L0<|iD (.string (strOfNums (([58]++(dL (([u]++lw)++[(cY ([u]++lw))])))++[13,10]))) (o9 (a:=(strOfNums ([58]++(dL (([u]++lw)++[(cY ([u]++lw))]))))) (b:=⟨#[13,10]⟩) (xs:=([58]++(dL (([u]++lw)++[(cY ([u]++lw))])))) (ys:=([13,10])) rfl (by kernel_rfl) (by kernel_rfl) rfl rfl (by simp only[eI,List.length_append,List.length_cons,List.length_nil];omega))<|L0<|Cm (xs:=(([58]++(dL (([u]++lw)++[(cY ([u]++lw))])))++[13,10])) Tryz.underlying9 Tryz.underlying27 Tryz.underlying5 X (by simp only[eI,List.length_append,List.length_cons,List.length_nil];omega) fun Y Z am a0 a1=>Pl 2<|nt<|rt<|rr (.tuple #[.slice Y ((([58]++(dL (([u]++lw)++[(cY ([u]++lw))])))++[13,10]).length) Z,.int .i64 0])<|?_
 have hs:fF dir u t M=(some (([58]++(dL (([u]++lw)++[(cY ([u]++lw))])))++[13,10])):=by
   unfold fF
   (try simp only[hwr,d,bs,if_true,if_false,decide_true,decide_false,reduceIte])
   all_goals rfl
 refine pK hs ?_
 exact⟨_,rfl,a0.weaken (le (le (le (le (le (le (le c.size k.size) f.size) n.size) i.size) j.size) z.size) A.size),(aD s (ut f (ut (ay.mono (S':=(ob (some ⟨L,0,none⟩)++(ob g++[]))) n (ai il au)) (ut (ay.mono (S':=(ob g++[])) i au) (ut (ay.mono (S':=(ob g++[])) j au) (aD z (aD A a1)) (ai il au)) (ai il au)) (ai il au)) (ai (aI v lr) (ai (aI l lr) au))))⟩
open Go.RowKit
theorem jr{m:Bool}{v:Value}{b:List Int}{w:World}{dir:Int}{F:cm}{E:Int}(hX:ec dir b=(F,E))(h:aS m w v b)(hb:b.length≤1048576) : Calls Tryz.prog 171 #[.int .i64 dir,v] w (fun e w'=>∃ x,e = .returned (.tuple #[.agg (eK F.unit F.tid F.msg x),.int .i64 E])∧(aF true w' (iE F.msg x).toList F.msg∧(0≤F.unit∧F.unit<256)∧(0≤F.tid∧F.tid<65536))∧ay [] w w'):=by
  refine(t4 h hb).mono ?_
  rintro e w' ⟨cs,rfl,h1,h2⟩
  rw[hX] at h1 ⊢
  obtain⟨c,rfl,h3,h4,h5⟩:=h1
  obtain⟨x,rfl⟩:=pz h3
  exact⟨x,by rw[eW],⟨h3,h4,h5⟩,h2⟩
theorem oK{m:Bool}{x:SL}{M:aT}{w:World}{dir u t:Int}(hX:fF dir u t M=none)(h:aF m w (iE M x).toList M)(hf:aW M)(hu:0≤u∧u<256)(ht:0≤t∧t<65536) : Calls Tryz.prog 200 #[.int .i64 dir,.agg (eK u t M x)] w (fun e w'=>e = .returned (.tuple #[.slice none 0 0,.int .i64 1])∧ay [] w w'):=by
  have:=ma (dir:=dir) h hf hu ht
  rw[hX] at this
  rw[eW]
  exact this
theorem oz{m:Bool}{x:SL}{M:aT}{w:World}{dir u t:Int}{l:List Int}(hX:fF dir u t M=some l)(h:aF m w (iE M x).toList M)(hf:aW M)(hu:0≤u∧u<256)(ht:0≤t∧t<65536) : Calls Tryz.prog 200 #[.int .i64 dir,.agg (eK u t M x)] w (fun e w'=>∃ v,e = .returned (.tuple #[v,.int .i64 0])∧iL w.heap.size w' v l∧ay [] w w'):=by
  have:=ma (dir:=dir) h hf hu ht
  rw[hX] at this
  rw[eW]
  exact this
open Go.RowKit
theorem xA{P:Program}{w:World}{t e:TypeId}{g n c:Nat}{C:Array Value}(ht:P.underlying t=some (.slice e))(he:P.underlying e=some (.int .u8))(hb:w.heap[g]? = some (.cells C e (0,0))) :
    ∃ w2,(convert t t (.slice (some ⟨g,0,none⟩) n c)).run P w = .ok (.slice (some ⟨g,0,none⟩) n c) w2∧w2.heap[g]? = some (.cells C e (C.size,C.size+1))∧ay [g] w w2:=by
  have hsh:w.shape? g=some (e,C.size):=by
    unfold World.shape?
    rw[hb]
  refine⟨w.freeze ⟨g,C.size,none⟩ 1,?_,?_,?_⟩
  · simp[convert,run_underlying ht,run_underlying he,markStringish,hsh]
  · unfold World.freeze
    rw[if_neg (by decide)]
    simp[Array.getElem?_modify,hb]
  · unfold World.freeze
    rw[if_neg (by decide)]
    refine⟨rfl,rfl,rfl,by simp,fun k hk hn=>?_⟩
    have hne:¬ g=k:=fun q=>hn (by rw[q];exact List.mem_singleton.2 rfl)
    simp[Array.getElem?_modify,hne]
theorem ye{w:World}{g:Nat}{C:Array Value}{fr:Nat × Nat}{xs:List Int}(hb:w.heap[g]? = some (.cells C 5 fr))(hC:C=(xs.map (Value.int .u8)).toArray)(hr:∀ x,x∈xs→0≤x∧x<256)(hl:xs.length≤4194304) : aS true w (.slice (some ⟨g,0,none⟩) xs.length xs.length) xs:=by
  refine⟨_,xs.length,rfl,Nat.le_refl _,by unfold maxLen;omega,(fun h=>by cases h),fun _=>⟨g,0,C,_,fr,rfl,hb,fun _=>rfl,fun j x hj=>?_⟩⟩
  refine⟨[.int .u8 x],rfl,⟨rfl,hr x (List.mem_of_getElem? hj)⟩,fun i u hi=>?_⟩
  cases i with
  | succ i=>simp at hi
  | zero =>
    have hi:Value.int .u8 x=u:=by simpa using hi
    subst hi
    subst hC
    simp only[Nat.zero_add,Nat.mul_one,Nat.add_zero]
    rw[List.getElem?_toArray,List.getElem?_map,hj]
    rfl
section
variable {P:Program}{n:Nat}{D:List Deferred}{F:Fr}{w:World}{K:Fr→World→Prop}{Q:Exit→Act→World→Prop}{d:Option Tmp}{t:TypeId}{s:String}{af:Array Edge}{gu:Option (Nat × Bool)}
theorem AX{ty e:TypeId}{x:Operand}{g m c:Nat}{C:Array Value}(hb:w.heap[g]? = some (.cells C e (0,0)))(h:∀ w',w'.heap[g]? = some (.cells C e (C.size,C.size+1))→ay [g] w w'→K (pt d (.slice (some ⟨g,0,none⟩) m c) F) w')
    (hx:dW F x=some (.slice (some ⟨g,0,none⟩) m c):=by kernel_rfl) (hs:(oZ P ty,P.underlying e,eR n d)=(some e,some (.int .u8),true):=by kernel_rfl) : OG P ⟨d,.convert ty ty x,t,s,af,gu⟩ n D F w K Q:=by
  simp only[Prod.mk.injEq] at hs
  obtain⟨h1,h2,h3⟩:=hs
  obtain⟨w2,hr,hB,hu⟩:=xA (n:=m) (c:=c) (e9 h1) h2 hb
  refine⟨fun a ha K' hK=>OW.mk ?_⟩
  have hx':=ha.ev hx
  unfold Oper.wp execOp
  simp only[hx',Sem.run_bind,Sem.run_pure,hr,Result.andThen_ok]
  exact hK _ _ _ (h w2 hB hu) (ha.put h3)
end
open Go.RowKit
structure SA where
  dir:Int
  held:List Int
abbrev Cq (S:SA) (A:Option Addr) (cp:Nat) : Array Value:=#[.int .i64 S.dir,.slice A S.held.length cp]
abbrev x6 (w:World) (g:Nat) (S:SA) (A:Option Addr) (cp:Nat) : Prop:=w.heap[g]? = some (.cells (Cq S A cp) 129 (0,0))
def SA.tail (d:Int)(h:List Int) : SA × List Ev:=if decide (513<((h.length:Nat) : Int))=true then (⟨d,[]⟩,[Ev.bad 3]) else if i7 h [13,10]=true then (⟨d,[]⟩,[Ev.mk (ec d h).2 (ec d h).1]) else (⟨d,h⟩,[])
def SA.byte (S:SA)(c:Int) : SA × List Ev:=if ((c==58)&&(decide (0<((S.held.length:Nat) : Int))))=true then (⟨S.dir,[58]⟩,[Ev.bad 12]) else if ((c != 58)&&(((S.held.length:Nat) : Int)==0))=true then (S,[]) else SA.tail S.dir (S.held++[c])
def SA.feed (S:SA)(b:List Int) : SA × List Ev:=b.foldl (fun p c=>((p.1.byte c).1,p.2++(p.1.byte c).2)) (S,[])
def SA.ok (S:SA) : Prop:=(∀ x,x∈S.held→0≤x∧x<256)∧S.held.length≤513
theorem SA.ok_le{S:SA}(h:S.ok) : S.held.length≤513:=h.2
theorem SA.byte_ok{S S2:SA}{c:Int}{L2:List Ev}(h:S.ok)(hc:0≤c∧c<256)(hx:S.byte c=(S2,L2)) : S2.ok∧L2.length≤1:=by
  have h0:∀ d,(SA.mk d []).ok:=fun d=>⟨fun x hx=>(by cases hx),Nat.zero_le _⟩
  unfold SA.byte at hx
  split at hx
  · injection hx with e1 e2
    subst e1 e2
    exact⟨⟨fun x hx=>(by rw[List.mem_singleton] at hx;rw[hx];decide),(by show 1≤513;decide)⟩,Nat.le_refl _⟩
  split at hx
  · injection hx with e1 e2
    subst e1 e2
    exact⟨h,Nat.zero_le _⟩
  unfold SA.tail at hx
  split at hx
  · injection hx with e1 e2
    subst e1 e2
    exact⟨h0 _,Nat.le_refl _⟩
  rename_i hl
  split at hx
  · injection hx with e1 e2
    subst e1 e2
    exact⟨h0 _,Nat.le_refl _⟩
  · injection hx with e1 e2
    subst e1 e2
    refine⟨⟨fun x hx=>?_,?_⟩,Nat.zero_le _⟩
    · rcases List.mem_append.1 hx with k | k
      · exact h.1 x k
      · rw[List.mem_singleton] at k;rw[k];exact hc
    · simp only[decide_eq_true_eq] at hl
      show(S.held++[c]).length≤513
      omega
theorem iZ{S0 T T2:SA}{L L2:List Ev}{b:List Int}{k:Nat}(hk:k<b.length)(h:(T,L)=S0.feed (b.take k))(hx:T.byte (b.getD k 0)=(T2,L2)) : (T2,L++L2)=S0.feed (b.take (k+1)):=by
  rw[List.take_succ_eq_append_getElem hk]
  unfold SA.feed at h ⊢
  rw[List.foldl_append,← h]
  rw[List.getD_eq_getElem?_getD,List.getElem?_eq_getElem hk] at hx
  simp only[Option.getD_some] at hx
  simp only[List.foldl_cons,List.foldl_nil,hx]
theorem nA{S0 T T2:SA}{L:List Ev}{b:List Int}{k:Nat}(hk:k<b.length)(h:(T,L)=S0.feed (b.take k))(hx:T.byte (b.getD k 0)=(T2,[])) : (T2,L)=S0.feed (b.take (k+1)):=by
  have:=iZ hk h hx
  rwa [List.append_nil] at this
theorem Aq{T:SA}{c:Int}(h:((c==58)&&(decide (0<((T.held.length:Nat) : Int))))=true) : T.byte c=(⟨T.dir,[58]⟩,[Ev.bad 12]):=by unfold SA.byte;rw[if_pos h]
theorem AC{T:SA}{c:Int}(h:((c==58)&&(decide (0<((T.held.length:Nat) : Int))))=false)(h2:((c != 58)&&(((T.held.length:Nat) : Int)==0))=true) : T.byte c=(T,[]):=by unfold SA.byte;rw[if_neg (by rw[h];decide),if_pos h2]
theorem AI{T:SA}{c:Int}(h:((c==58)&&(decide (0<((T.held.length:Nat) : Int))))=false)(h2:((c != 58)&&(((T.held.length:Nat) : Int)==0))=false)(h3:decide (513<(((T.held++[c]).length:Nat) : Int))=true) : T.byte c=(⟨T.dir,[]⟩,[Ev.bad 3]):=by unfold SA.byte;rw[if_neg (by rw[h];decide),if_neg (by rw[h2];decide)];unfold SA.tail;rw[if_pos h3]
theorem yy{T:SA}{c:Int}{F:cm}{E:Int}(h:((c==58)&&(decide (0<((T.held.length:Nat) : Int))))=false)(h2:((c != 58)&&(((T.held.length:Nat) : Int)==0))=false)(h3:decide (513<(((T.held++[c]).length:Nat) : Int))=false)(h4:i7 (T.held++[c]) [13,10]=true)(hX:ec T.dir (T.held++[c])=(F,E)) : T.byte c=(⟨T.dir,[]⟩,[Ev.mk E F]):=by unfold SA.byte;rw[if_neg (by rw[h];decide),if_neg (by rw[h2];decide)];unfold SA.tail;rw[if_neg (by rw[h3];decide),if_pos h4,hX]
theorem Av{T:SA}{c:Int}(h:((c==58)&&(decide (0<((T.held.length:Nat) : Int))))=false)(h2:((c != 58)&&(((T.held.length:Nat) : Int)==0))=false)(h3:decide (513<(((T.held++[c]).length:Nat) : Int))=false)(h4:i7 (T.held++[c]) [13,10]=false) : T.byte c=(⟨T.dir,T.held++[c]⟩,[]):=by unfold SA.byte;rw[if_neg (by rw[h];decide),if_neg (by rw[h2];decide)];unfold SA.tail;rw[if_neg (by rw[h3];decide),if_neg (by rw[h4];decide)]
def Ch (base n0:Nat)(S2:SA)(L:List Ev)(g:Nat)(A:Option Addr)(w:World)(e:Ending)(w':World) : Prop:=∃ v A2 cp2 n2,e = .returned v∧dv n2 w.heap.size w' v L∧x6 w' g S2 A2 cp2∧cz base w' (.slice A2 S2.held.length cp2) S2.held∧(∀ x,x∈ob A2→x∈ob A∨w.heap.size≤x)∧(n0≤n2∧n2≤w'.heap.size)∧(∀ x,x∈ob A2→n2≤x)∧ay (g :: (ob A++[])) w w'
theorem jh{b:List Int}(h:∀ x,x∈b→0≤x∧x<256)(k:Nat) : 0≤b.getD k 0∧b.getD k 0<256:=by
  rw[List.getD_eq_getElem?_getD]
  cases hj:b[k]? with
  | none=>simp
  | some x=>exact h x (List.mem_of_getElem? hj)
theorem tf{w:World}:Calls Tryz.prog 47 #[.int .i64 0] w (fun e w'=>∃ g,e = .returned (.pointer (some ⟨g,0,none⟩))∧w.heap.size≤g∧x6 w' g ⟨0,[]⟩ none 0∧ay [] w w'):=by
 refine en 12 Tryz.func47 rfl<|sg<|Pl 1<|nt<|sq<|sg<|Pl 6<|nt<|c0<|sk<|?_
 refine tn<|sg<|Pl 2<|L0<|cI #[.int .i64 0,.slice none 0 0] fun a f b c d=>Pl 1<|nt<|rt<|rr (.pointer (some ⟨a,0,none⟩))<|?_
 exact⟨a,rfl,b,c,d⟩
theorem uh{w:World}:Calls Tryz.prog 47 #[.int .i64 1] w (fun e w'=>∃ g,e = .returned (.pointer (some ⟨g,0,none⟩))∧w.heap.size≤g∧x6 w' g ⟨1,[]⟩ none 0∧ay [] w w'):=by
 refine en 12 Tryz.func47 rfl<|sg<|Pl 1<|nt<|sq<|sg<|Pl 6<|nt<|c0<|sk<|?_
 refine tn<|sg<|Pl 2<|L0<|cI #[.int .i64 1,.slice none 0 0] fun a f b c d=>Pl 1<|nt<|rt<|rr (.pointer (some ⟨a,0,none⟩))<|?_
 exact⟨a,rfl,b,c,d⟩
theorem uu{w:World}{g:Nat}{S:SA}{A:Option Addr}{cp:Nat}(hb:x6 w g S A cp)(hr:aS true w (.slice A S.held.length cp) S.held) : Calls Tryz.prog 169 #[.pointer (some ⟨g,0,none⟩)] w (bv (.int .i64 ((S.held.length:Nat) : Int)) w):=by
 have hcm:=aR.len hr
 refine en 8 Tryz.func169 rfl<|sg<|Pl 1<|ng<|Pl 3<|L0<|aP hb 1<|Pl 2<|nt<|rt<|?_
 refine rr (.int .i64 ((S.held.length:Nat) : Int))<|?_
 exact⟨rfl,(ay.refl [] _)⟩
theorem rc{w:World}{g base:Nat}{S:SA}{A:Option Addr}{cp:Nat}{m:Bool}{B:Option Addr}{cpb:Nat}{b:List Int}(hb:x6 w g S A cp)(ho:cz base w (.slice A S.held.length cp) S.held)(hbs:base≤w.heap.size)(hok0:S.ok){n0:Nat}(hn0:n0≤w.heap.size)(hlo:∀ x,x∈ob A→n0≤x)(hsl:aS m w (.slice B b.length cpb) b)(hdg:0<b.length→∀ x,x∈ob B→x≠g)(hda:lD b.length B (ob A))(hbl:b.length≤1048576) :
    Calls Tryz.prog 168 #[.pointer (some ⟨g,0,none⟩),.slice B b.length cpb] w (Ch base n0 (S.feed b).1 (S.feed b).2 g A w):=by
 have hdl:=aR.low hsl
 have hok0l:=SA.ok_le hok0
 have hrb:=aS.range hsl
 refine en 98 Tryz.func168 rfl<|sg<|Pl 1<|nt<|Cs<|sg<|Pl 1<|nt<|sq<|Cj<|?_
 refine tn<|sq<|sg<|Pl 3<|nt<|bk<|?_
 refine ie (fun x=>[(0,.pointer (some ⟨g,0,none⟩)),(4,.slice none 0 0),(5,.slice x.2.2.2.2.2.1 x.2.2.1.length x.2.2.2.2.2.2.1),(10,.slice B b.length cpb),(11,.int .i64 ((b.length:Nat) : Int)),(12,.int .i64 ((x.1:Nat) : Int))]) (fun(x:Nat × SA × List Ev × Option Addr × Nat × Option Addr × Nat × Nat) w'=>ay (g :: (ob A++[])) w w'∧x6 w' g x.2.1 x.2.2.2.1 x.2.2.2.2.1∧cz base w' (.slice x.2.2.2.1 x.2.1.held.length x.2.2.2.2.1) x.2.1.held∧dv x.2.2.2.2.2.2.2 w.heap.size w' (.slice x.2.2.2.2.2.1 x.2.2.1.length x.2.2.2.2.2.2.1) x.2.2.1∧x.2.2.2.2.2.2.2≤w'.heap.size∧aS m w' (.slice B b.length cpb) b∧((x.2.1,x.2.2.1)=S.feed (b.take x.1))∧(x.2.1.ok)∧(x.2.1.held.length≤513)∧(x.1≤b.length)∧(x.2.2.1.length≤x.1)∧(∀ y,y∈ob x.2.2.2.1→y∈ob A∨w.heap.size≤y)∧(n0≤x.2.2.2.2.2.2.2)∧(∀ y,y∈ob x.2.2.2.1→x.2.2.2.2.2.2.2≤y)) (fun x=>b.length-x.1) (0,S,[],A,cp,none,0,n0) ⟨ay.refl _ _,hb,ho,(aL.nil w.heap.size _ _ (bo n0) _),(Nat.le_trans hn0 lr),hsl,rfl,hok0,hok0l,(by(try dsimp only);exact Nat.zero_le _),(by(try dsimp only);exact Nat.zero_le _),iH,(by(try dsimp only);exact Nat.le_refl _),hlo⟩ ?_
 rintro⟨k,T,L,Ah,ch,Bq,cq,n⟩ H ⟨d,cd,cf,cg,ci,ck,cl,cm,cn,cr,ct,cv,cw,cx⟩
 refine ik [(0,.pointer (some ⟨g,0,none⟩)),(4,.slice none 0 0),(5,.slice Bq L.length cq),(10,.slice B b.length cpb),(11,.int .i64 ((b.length:Nat) : Int)),(12,.int .i64 ((k:Nat) : Int))] ?_
 have f:x6 H g T Ah ch:=cd
 have r:cz base H (.slice Ah T.held.length ch) T.held:=cf
 have a:dv n w.heap.size H (.slice Bq L.length cq) L:=cg
 have cy:n≤H.heap.size:=ci
 have hnl:=cy
 have z:aS m H (.slice B b.length cpb) b:=ck
 have cA:(T,L)=S.feed (b.take k):=cl
 have cB:T.ok:=cm
 have dQ:T.held.length≤513:=cn
 have dR:k≤b.length:=cr
 have dS:L.length≤k:=ct
 have cC:∀ y,y∈ob Ah→y∈ob A∨w.heap.size≤y:=cv
 have cD:n0≤n:=cw
 have cE:∀ y,y∈ob Ah→n≤y:=cx
 have hlow:=cE
 have hn0l:=cD
 have hat0:=cC
 have hok:=cB
 have hpj:=cA
 have hle:=SA.ok_le hok
 refine sg<|Pl 1<|nt<|sq<|cb ((decide (((k:Nat) : Int)<((b.length:Nat) : Int)))) (fun af=>?_) (fun af=>?_)
 have cF:=of_decide_eq_true af
 refine bK<|sq<|bk<|sg<|i8 (aS.at_ z k (by omega)) fun cG cH cI cK dT=>L0<|pn b.length k cI (by omega)<|L0<|lf (p:=⟨cG,cH+k,none⟩) (v:=.int .u8 (b.getD k 0)) cK<|Pl 1<|nt<|sq<|bk<|?_
 refine sg<|Pl 3<|cu 7 [19] 26 ((((b.getD k 0)==58)&&(decide (0<((T.held.length:Nat) : Int))))) (fun K bb=>?_) ?_
 refine bl 19 (((b.getD k 0)==58)) (fun M=>?_) (fun M=>?_)
 have cL:=ax M
 exact Pl 3<|L1<|aP f 1<|Pl 3<|ce bb (decide (0<((T.held.length:Nat) : Int))) (by rw[M];rfl)
 have cL:=aA M
 exact Pl 7<|ce bb false (by rw[M];rfl)
 refine Pl 1<|nt<|cb ((((b.getD k 0)==58)&&(decide (0<((T.held.length:Nat) : Int))))) (fun l=>?_) (fun l=>?_)
 have cM:=(bM l).1
 have cN:=(bM l).2
 have dU:=ax cM
 have dW:=of_decide_eq_true cN
 refine sg<|Pl 2<|L0<|cR (m:=1) (e:=66) #[.int .i64 12,.int .u8 0,.int .u16 0,.int .u8 0,.int .u8 0,.int .u16 0,.int .u16 0,.int .u16 0,.int .u16 0,.int .u16 0,.int .u16 0,.int .u16 0,.int .u16 0,.int .u16 0,.int .u16 0,.slice none 0 0,.slice none 0 0,.slice none 0 0,.slice none 0 0,.int .u8 0,.int .u8 0,.int .u8 0,.int .u8 0,.int .u8 0,.slice none 0 0] fun dX ag cO cP i=>?_
 have cQ:=ms (w0:=H) (x:=(Ev.bad 12)) cO cP ⟨⟨none,0,none,0,none,0,none,0,none,0⟩,by kernel_rfl,mw,(show(0:Int)≤0∧(0:Int)<256 from by decide),(show(0:Int)≤0∧(0:Int)<65536 from by decide)⟩
 have bc:=ak a i (fun x hx=>az) (fun x cs q=>bo.upd i bO q)
 have cS:n≤ag.heap.size:=Nat.le_trans hnl i.size
 refine L0<|jC (R:=bo ag.heap.size) (xs:=L) (ys:=([Ev.bad 12])) (.agg #[.int .i64 0,.int .u8 0,.int .u16 0,.int .u8 0,.int .u8 0,.int .u16 0,.int .u16 0,.int .u16 0,.int .u16 0,.int .u16 0,.int .u16 0,.int .u16 0,.int .u16 0,.int .u16 0,.int .u16 0,.slice none 0 0,.slice none 0 0,.slice none 0 0,.slice none 0 0,.int .u8 0,.int .u8 0,.int .u8 0,.int .u8 0,.int .u8 0,.slice none 0 0]) 25 168 (dv.up cS (Nat.le_refl _) bc) (i3.low cQ).rd bo.ones (fun w' hv x cs q=>bo.upd hv (iW bc (by decide) bO) q) (by(try simp only[List.length_append,List.length_cons,List.length_nil,av]);omega) (le d.size i.size) fun cU cV dY bd C dZ=>Pl 1<|ng<|Pl 1<|L0<|cR (m:=1) (e:=5) #[.int .u8 58] fun be e0 cX cY al=>?_
 have W:=cW cX (xs:=[58]) (by as_aux_lemma=>kernel_rfl) (ap (by omega) aO) (by(try simp only[List.length_cons,List.length_nil]);omega) cY
 refine Pl 2<|?_
 have bf:=ut (ay.mono (S':=(ob Bq++[])) i au) (aD C al) (ai il au)
 refine L0<|co (ay.blk bf (aH (aC (am hb) lr a) az) f) 1 #[.int .i64 T.dir,.slice (some ⟨be,0,none⟩) 1 1] fun e1 cZ X=>nt<|xt<|AQ<|tx<|bx<|tn<|go<|L0<|Oi (((k:Nat) : Int)+1)<|Pl 1<|nl<|?_
 have bg:=u1 (ay.mono (S':=(ob Bq++(g :: []))) bf (ai il au)) X im
 have bh:=uz al X
 have bj:=Aq (T:=T) (c:=(b.getD k 0)) l
 have bm:=SA.byte_ok hok (jh hrb k) bj
 exact ew ((k+1),(SA.mk T.dir [58]),(L++[Ev.bad 12]),some ⟨be,0,none⟩,1,cU,cV,ag.heap.size) ⟨(ut d bg (ai (aI a lr) (ac im au))),cZ,(wA (Nat.le_trans hbs (le (le d.size i.size) C.size)) (ak W X (fun x hx=>(ae (fun e=>(aC (am hb) (le (le d.size i.size) C.size) W) (e▸hx)) az)) (fun _ _ h=>h))),(ak bd bh (fun x hx=>(ae (fun e=>(aC (am hb) lr bd) (e▸hx)) az)) (fun x cs q=>bo.upd bh (eP (ay.blk (ut (ay.mono (S':=(ob Bq++[])) i au) C (ai il au)) (aH (aC (am hb) lr a) az) f) (by decide) bO) q)),(le (le C.size al.size) X.size),(aS.far z bg (dt (eE hdl a (Nat.le_refl _)) (dV hdg eD))),(by(try dsimp only);exact iZ (by omega) hpj bj),(by(try dsimp only);exact bm.1),(by(try dsimp only);have q:=SA.ok_le bm.1;exact q),(by(try dsimp only);omega),(by(try dsimp only);(try simp only[List.length_append,List.length_cons,List.length_nil]);omega),(by(try dsimp only);exact(y3 W (le (le d.size i.size) C.size))),(by(try dsimp only);exact Nat.le_trans hn0l (Nat.le_trans hnl i.size)),(by(try dsimp only);exact(yg W C.size))⟩ (by omega)
 refine sg<|Pl 3<|cu 7 [38] 45 ((((b.getD k 0)!=58)&&(((T.held.length:Nat) : Int)==0))) (fun K bp=>?_) ?_
 refine bl 38 (((b.getD k 0)!=58)) (fun N=>?_) (fun N=>?_)
 have d0:=aB N
 exact Pl 3<|L1<|aP f 1<|Pl 3<|ce bp (((T.held.length:Nat) : Int)==0) (by rw[N];rfl)
 have d0:=ah N
 exact Pl 7<|ce bp false (by rw[N];rfl)
 refine Pl 1<|nt<|cb ((((b.getD k 0)!=58)&&(((T.held.length:Nat) : Int)==0))) (fun s=>?_) (fun s=>?_)
 have d1:=(bM s).1
 have d2:=(bM s).2
 have e3:=aB d1
 have e4:=ax d2
 refine xt<|AQ<|tx<|bx<|tn<|go<|L0<|Oi (((k:Nat) : Int)+1)<|Pl 1<|nl<|?_
 have bq:=AC (T:=T) (c:=(b.getD k 0)) l s
 have br:=SA.byte_ok hok (jh hrb k) bq
 exact ew ((k+1),T,L,Ah,ch,Bq,cq,n) ⟨d,f,r,a,(Nat.le_trans hnl lr),z,(by(try dsimp only);exact nA (by omega) hpj bq),(by(try dsimp only);exact br.1),(by(try dsimp only);have q:=SA.ok_le br.1;exact q),(by(try dsimp only);omega),(by(try dsimp only);(try simp only[List.length_append,List.length_cons,List.length_nil]);omega),(by(try dsimp only);exact hat0),(by(try dsimp only);exact hn0l),(by(try dsimp only);exact hlow)⟩ (by omega)
 refine sk<|bn<|tn<|sg<|Pl 4<|L0<|aP f 1<|Pl 1<|L0<|cR (m:=1) (e:=5) #[.int .u8 (b.getD k 0)] fun e5 e6 d3 d4 j=>?_
 have d5:=cW d3 (xs:=[(b.getD k 0)]) (by as_aux_lemma=>kernel_rfl) (ap (by omega) aO) (by(try simp only[List.length_cons,List.length_nil]);omega) d4
 refine L0<|jC (R:=np) (xs:=T.held) (ys:=([(b.getD k 0)])) (.int .u8 0) 1 1 (ak r j (fun x hx=>az) (fun _ _ h=>h)) (d5).rd rT (fun _ _ _ _ h=>h) (by(try simp only[List.length_append,List.length_cons,List.length_nil,av]);omega) (Nat.le_trans hbs (le d.size j.size)) fun Y Z e7 bs I bt=>Pl 2<|?_
 have bu:=ut (ay.mono (S':=(ob Ah++[])) j au) I (ai il au)
 have bv:=ay.blk bu (aH (bB f r (by decide)) az) f
 refine L0<|co bv 1 #[.int .i64 T.dir,.slice Y ((T.held++[(b.getD k 0)]).length) Z] fun d6 O D=>nt<|sq<|bk<|sg<|Pl 3<|L0<|aP O 1<|Pl 3<|nt<|?_
 have J:=u1 (ay.mono (S':=(ob Ah++(g :: []))) bu (ai il au)) D im
 have bw:=ut d J (ai (jM hat0 il lr) (ac im au))
 refine cb ((decide (513<(((T.held++[(b.getD k 0)]).length:Nat) : Int)))) (fun E=>?_) (fun E=>?_)
 have d7:=of_decide_eq_true E
 refine go<|Pl 2<|L0<|cR (m:=1) (e:=66) #[.int .i64 3,.int .u8 0,.int .u16 0,.int .u8 0,.int .u8 0,.int .u16 0,.int .u16 0,.int .u16 0,.int .u16 0,.int .u16 0,.int .u16 0,.int .u16 0,.int .u16 0,.int .u16 0,.int .u16 0,.slice none 0 0,.slice none 0 0,.slice none 0 0,.slice none 0 0,.int .u8 0,.int .u8 0,.int .u8 0,.int .u8 0,.int .u8 0,.slice none 0 0] fun e8 an d8 d9 ao=>?_
 have da:=ms (w0:=d6) (x:=(Ev.bad 3)) d8 d9 ⟨⟨none,0,none,0,none,0,none,0,none,0⟩,by kernel_rfl,mw,(show(0:Int)≤0∧(0:Int)<256 from by decide),(show(0:Int)≤0∧(0:Int)<65536 from by decide)⟩
 have a0:=aD J ao
 have bz:=ak a a0 (fun x hx=>(aH ((cT a r (by decide)) x hx) (ae (fun e=>(aC (am hb) lr a) (e▸hx)) az))) (fun x cs q=>bo.upd a0 (gP hlow (eP f (by decide) bO)) q)
 have db:n≤an.heap.size:=Nat.le_trans hnl a0.size
 refine L0<|jC (R:=bo an.heap.size) (xs:=L) (ys:=([Ev.bad 3])) (.agg #[.int .i64 0,.int .u8 0,.int .u16 0,.int .u8 0,.int .u8 0,.int .u16 0,.int .u16 0,.int .u16 0,.int .u16 0,.int .u16 0,.int .u16 0,.int .u16 0,.int .u16 0,.int .u16 0,.int .u16 0,.slice none 0 0,.slice none 0 0,.slice none 0 0,.slice none 0 0,.int .u8 0,.int .u8 0,.int .u8 0,.int .u8 0,.int .u8 0,.slice none 0 0]) 25 168 (dv.up db (Nat.le_refl _) bz) (i3.low da).rd bo.ones (fun w' hv x cs q=>bo.upd hv (iW bz (by decide) bO) q) (by(try simp only[List.length_append,List.length_cons,List.length_nil,av]);omega) (le (le (le (le d.size j.size) I.size) D.size) ao.size) fun dc dd e9 bA bC ea=>Pl 1<|nl<|bn<|tn<|go<|Pl 3<|?_
 have bD:=ut (ay.mono (S':=(ob Bq++[])) ao au) bC (ai il au)
 have bE:=ay.blk bD (aH (aC (am hb) lr a) az) O
 refine L0<|co bE 1 #[.int .i64 T.dir,.slice none 0 0] fun eb de a1=>nl<|bn<|tn<|go<|L0<|Oi (((k:Nat) : Int)+1)<|Pl 1<|nl<|?_
 have bF:=u1 (ay.mono (S':=(ob Bq++(g :: []))) bD (ai il au)) a1 im
 have bG:=AI (T:=T) (c:=(b.getD k 0)) l s E
 have bH:=SA.byte_ok hok (jh hrb k) bG
 exact ew ((k+1),(SA.mk T.dir []),(L++[Ev.bad 3]),none,0,dc,dd,an.heap.size) ⟨(ut bw bF (ai (aI a lr) (ac im au))),de,(aL.nil base _ _ np _),(ak bA a1 (fun x hx=>(ae (fun e=>(aC (am hb) lr bA) (e▸hx)) az)) (fun x cs q=>bo.upd a1 (eP bE (by decide) bO) q)),(le bC.size a1.size),(aS.far z (ut (ay.mono (S':=(ob Ah++(g :: (ob Bq++[])))) J (ai il (ac im au))) bF (ai il (ac im au))) (dt (fv hda hdl hat0) (dV hdg (dt (eE hdl a (Nat.le_refl _)) eD)))),(by(try dsimp only);exact iZ (by omega) hpj bG),(by(try dsimp only);exact bH.1),(by(try dsimp only);have q:=SA.ok_le bH.1;exact q),(by(try dsimp only);omega),(by(try dsimp only);(try simp only[List.length_append,List.length_cons,List.length_nil]);omega),(by(try dsimp only);exact eg),(by(try dsimp only);exact Nat.le_trans hn0l (Nat.le_trans hnl a0.size)),(by(try dsimp only);exact cJ)⟩ (by omega)
 have d7:=of_decide_eq_false E
 refine sg<|Pl 3<|L0<|aP O 1<|L0<|cR (m:=2) (e:=5) #[.int .u8 13,.int .u8 10] fun df ed bI bJ P=>?_
 have ee:=cW bI (xs:=[13,10]) (by as_aux_lemma=>kernel_rfl) (ap (by omega) (ap (by omega) aO)) (by(try simp only[List.length_cons,List.length_nil]);omega) bJ
 refine L0<|AX (m:=2) (c:=2) bJ fun ef dg Q=>?_
 have dh:=ye dg (xs:=[13,10]) (by as_aux_lemma=>kernel_rfl) (ap (by omega) (ap (by omega) aO)) (by(try simp only[List.length_cons,List.length_nil]);omega)
 have bL:=ud P Q bI
 have a2:=ak bs (aD D bL) (fun x hx=>(ae (fun e=>(bB bv bs (by decide)) (e▸hx)) az)) (fun _ _ h=>h)
 refine L0<|Oc (args:=#[.slice Y ((T.held++[(b.getD k 0)]).length) Z,.slice (some ⟨df,0,none⟩) 2 2])<|m1 (wT (xs:=(T.held++[(b.getD k 0)])) (ys:=[13,10]) (a2).rd dh) fun eh t=>Pl 1<|nt<|?_
 have a3:=aD bL t
 have aq:=aD bw a3
 refine cb ((i7 (T.held++[(b.getD k 0)]) ([13,10]))) (fun a4=>?_) (fun a4=>?_)
 refine sq<|Rg 15 (fun w'=>w'.cell? ⟨g,0,none⟩=some (.int .i64 T.dir)∧w'.cell? ⟨g,1,none⟩=some (.slice Y ((T.held++[(b.getD k 0)]).length) Z)) fun ei o=>?_
 have ar:=aD a3 o
 have a5:=ub ar O
 refine aZ ⟨(aa a5 rfl),(aa a5 rfl)⟩ fun u=>Rt 0 u<|Rt 1 u<|Rt 2 u<|Rl 3 u (fun _ hs=>hs.1)<|Rt 4 u<|Rt 5 u<|Rt 6 u<|Rl 7 u (fun _ hs=>hs.2)<|?_
 refine R2 8 12 rfl rfl ?_ ?_
 refine pr (ec T.dir (T.held++[(b.getD k 0)])) fun F a6 bP=>?_
 refine  Oc<|e2 (jr bP ((ak a2 (aD t o) (fun x hx=>az) (fun _ _ h=>h))).rd (by simp only[List.length_append,List.length_cons,List.length_nil,List.length_replicate];omega)) fun aw ej di a7=>?_
 obtain⟨dj,dk,dl⟩:=di
 have aG:=ub a7 a5
 refine aZ ⟨(aa aG rfl),(aa aG rfl)⟩ fun aJ=>Rt 9 aJ<|Rt 10 aJ<|Rt 11 aJ<|R0 12 rfl<|bN #[.int .u8 0,.int .u16 0,.int .u8 0,.int .u8 0,.int .u16 0,.int .u16 0,.int .u16 0,.int .u16 0,.int .u16 0,.int .u16 0,.int .u16 0,.int .u16 0,.int .u16 0,.int .u16 0,.slice none 0 0,.slice none 0 0,.slice none 0 0,.slice none 0 0,.int .u8 0,.int .u8 0,.int .u8 0,.int .u8 0,.int .u8 0,.slice none 0 0] fun ek el bQ dm aK=>?_
 have aN:=ub aK aG
 refine aZ ⟨(aa aN rfl),(aa aN rfl)⟩ fun em=>R0 13 rfl<|bi dm (eK F.unit F.tid F.msg aw) fun dn dp aQ=>?_
 have aT:=aY aQ (nb (am hb) (le (le (le (le (le (le (le (le d.size j.size) I.size) D.size) P.size) Q.size) t.size) o.size) a7.size) bQ) aN
 refine aZ ⟨(aa aT rfl),(aa aT rfl)⟩ fun dq=>Rt 14 dq<|re<|tn<|go<|Pl 2<|L0<|cj dp<|Pl 1<|L0<|cR (m:=1) (e:=66) (uv ⟨a6,F⟩ aw) fun eo aU dr ds aV=>?_
 have bR:=ud aK (aD aQ aV) bQ
 have du:=ms (w0:=dn) (x:=(Ev.mk a6 F)) dr ds ⟨aw,rfl,(aF.upd dj bR aE),dk,dl⟩
 have bS:=aD a7 bR
 have U:=aD J (aD ar bS)
 have bT:=ak a U (fun x hx=>(aH ((cT a r (by decide)) x hx) (ae (fun e=>(aC (am hb) lr a) (e▸hx)) az))) (fun x cs q=>bo.upd U (gP hlow (eP f (by decide) bO)) q)
 have dw:n≤aU.heap.size:=Nat.le_trans hnl U.size
 refine L0<|jC (R:=bo aU.heap.size) (xs:=L) (ys:=([Ev.mk a6 F])) (.agg #[.int .i64 0,.int .u8 0,.int .u16 0,.int .u8 0,.int .u8 0,.int .u16 0,.int .u16 0,.int .u16 0,.int .u16 0,.int .u16 0,.int .u16 0,.int .u16 0,.int .u16 0,.int .u16 0,.int .u16 0,.slice none 0 0,.slice none 0 0,.slice none 0 0,.slice none 0 0,.int .u8 0,.int .u8 0,.int .u8 0,.int .u8 0,.int .u8 0,.slice none 0 0]) 25 168 (dv.up dw (Nat.le_refl _) bT) (i3.low du).rd bo.ones (fun w' hv x cs q=>bo.upd hv (iW bT (by decide) bO) q) (by(try simp only[List.length_append,List.length_cons,List.length_nil,av]);omega) (le (le (le (le (le (le (le (le (le (le (le d.size j.size) I.size) D.size) P.size) Q.size) t.size) o.size) a7.size) aK.size) aQ.size) aV.size) fun dx dy ep bU bV eq=>Pl 1<|nl<|bn<|tn<|go<|Pl 3<|?_
 have bW:=ay.blk (ut (ay.mono (S':=(ob Bq++[])) aV au) bV (ai il au)) (aH (aC (am hb) lr a) az) aT
 refine L0<|co bW 1 #[.int .i64 T.dir,.slice none 0 0] fun er dz aW=>nl<|bn<|tn<|go<|L0<|Oi (((k:Nat) : Int)+1)<|Pl 1<|nl<|?_
 have aX:=u1 (ay.mono (S':=(ob Bq++(g :: []))) bV (ai il au)) aW im
 have bX:=yy (T:=T) (c:=(b.getD k 0)) l s E a4 bP
 have bY:=SA.byte_ok hok (jh hrb k) bX
 exact ew ((k+1),(SA.mk T.dir []),(L++[Ev.mk a6 F]),none,0,dx,dy,aU.heap.size) ⟨(ut aq (ut (ay.mono (S':=(ob Bq++(g :: []))) o au) (ut (ay.mono (S':=(ob Bq++(g :: []))) bS au) aX (ai il (ac im au))) (ai il (ac im au))) (ai (aI a lr) (ac im au))),dz,(aL.nil base _ _ np _),(ak bU aW (fun x hx=>(ae (fun e=>(aC (am hb) lr bU) (e▸hx)) az)) (fun x cs q=>bo.upd aW (eP bW (by decide) bO) q)),aX.size,(aS.far z (ut (ay.mono (S':=(ob Ah++(g :: (ob Bq++[])))) U (ai il (ac im au))) aX (ai il (ac im au))) (dt (fv hda hdl hat0) (dV hdg (dt (eE hdl a (Nat.le_refl _)) eD)))),(by(try dsimp only);exact iZ (by omega) hpj bX),(by(try dsimp only);exact bY.1),(by(try dsimp only);have q:=SA.ok_le bY.1;exact q),(by(try dsimp only);omega),(by(try dsimp only);(try simp only[List.length_append,List.length_cons,List.length_nil]);omega),(by(try dsimp only);exact eg),(by(try dsimp only);exact Nat.le_trans hn0l (Nat.le_trans hnl U.size)),(by(try dsimp only);exact cJ)⟩ (by omega)
 refine  bN #[.int .u8 0,.int .u16 0,.int .u8 0,.int .u8 0,.int .u16 0,.int .u16 0,.int .u16 0,.int .u16 0,.int .u16 0,.int .u16 0,.int .u16 0,.int .u16 0,.int .u16 0,.int .u16 0,.slice none 0 0,.slice none 0 0,.slice none 0 0,.slice none 0 0,.int .u8 0,.int .u8 0,.int .u8 0,.int .u8 0,.int .u8 0,.slice none 0 0] fun dA es b0 dB a8=>?_
 have b1:=ub a8 a5
 refine aZ ⟨(aa b1 rfl),(aa b1 rfl)⟩ fun et=>?_
 have bZ:=aD o a8
 refine pr (ec T.dir (T.held++[(b.getD k 0)])) fun G a9 c0=>?_
 refine R0 8 rfl<|Oc<|e2 (jr c0 ((ak a2 (aD t bZ) (fun x hx=>az) (fun _ _ h=>h))).rd (by simp only[List.length_append,List.length_cons,List.length_nil,List.length_replicate];omega)) fun b2 eu dC ab=>?_
 obtain⟨dD,dE,dF⟩:=dC
 have b3:=ub ab b1
 refine aZ ⟨(aa b3 rfl),(aa b3 rfl)⟩ fun b4=>Rt 9 b4<|Rt 10 b4<|Rt 11 b4<|?_
 have c1:=ub ab dB
 refine R0 13 rfl<|bi c1 (eK G.unit G.tid G.msg b2) fun dG dH b5=>?_
 have b6:=aY b5 (nb (am hb) (le (le (le (le (le (le (le d.size j.size) I.size) D.size) P.size) Q.size) t.size) o.size) b0) b3
 refine aZ ⟨(aa b6 rfl),(aa b6 rfl)⟩ fun dI=>Rt 14 dI<|re<|tn<|go<|Pl 2<|L0<|cj dH<|Pl 1<|L0<|cR (m:=1) (e:=66) (uv ⟨a9,G⟩ b2) fun ev b7 dJ dK b8=>?_
 have c2:=aD b5 b8
 have dL:=ms (w0:=dG) (x:=(Ev.mk a9 G)) dJ dK ⟨b2,rfl,(aF.upd dD c2 (aj (aM c1 (by decide)) aE)),dE,dF⟩
 have c3:=uz ab c2
 have V:=aD J (aD ar (ud a8 c3 b0))
 have c4:=ak a V (fun x hx=>(aH ((cT a r (by decide)) x hx) (ae (fun e=>(aC (am hb) lr a) (e▸hx)) az))) (fun x cs q=>bo.upd V (gP hlow (eP f (by decide) bO)) q)
 have dM:n≤b7.heap.size:=Nat.le_trans hnl V.size
 refine L0<|jC (R:=bo b7.heap.size) (xs:=L) (ys:=([Ev.mk a9 G])) (.agg #[.int .i64 0,.int .u8 0,.int .u16 0,.int .u8 0,.int .u8 0,.int .u16 0,.int .u16 0,.int .u16 0,.int .u16 0,.int .u16 0,.int .u16 0,.int .u16 0,.int .u16 0,.int .u16 0,.int .u16 0,.slice none 0 0,.slice none 0 0,.slice none 0 0,.slice none 0 0,.int .u8 0,.int .u8 0,.int .u8 0,.int .u8 0,.int .u8 0,.slice none 0 0]) 25 168 (dv.up dM (Nat.le_refl _) c4) (i3.low dL).rd bo.ones (fun w' hv x cs q=>bo.upd hv (iW c4 (by decide) bO) q) (by(try simp only[List.length_append,List.length_cons,List.length_nil,av]);omega) (le (le (le (le (le (le (le (le (le (le (le d.size j.size) I.size) D.size) P.size) Q.size) t.size) o.size) a8.size) ab.size) b5.size) b8.size) fun dN dO ex c5 c6 ey=>Pl 1<|nl<|bn<|tn<|go<|Pl 3<|?_
 have c7:=ay.blk (ut (ay.mono (S':=(ob Bq++[])) b8 au) c6 (ai il au)) (aH (aC (am hb) lr a) az) b6
 refine L0<|co c7 1 #[.int .i64 T.dir,.slice none 0 0] fun ez dP b9=>nl<|bn<|tn<|go<|L0<|Oi (((k:Nat) : Int)+1)<|Pl 1<|nl<|?_
 have ba:=u1 (ay.mono (S':=(ob Bq++(g :: []))) c6 (ai il au)) b9 im
 have c8:=yy (T:=T) (c:=(b.getD k 0)) l s E a4 c0
 have c9:=SA.byte_ok hok (jh hrb k) c8
 exact ew ((k+1),(SA.mk T.dir []),(L++[Ev.mk a9 G]),none,0,dN,dO,b7.heap.size) ⟨(ut aq (ut (ay.mono (S':=(ob Bq++(g :: []))) bZ au) (ut (ay.mono (S':=(dA :: (ob Bq++(g :: [])))) c3 (ac im au)) ba (ai il (ac im au))) (ac (ni o.size b0) (ai il (ac im au)))) (ai (aI a lr) (ac im au))),dP,(aL.nil base _ _ np _),(ak c5 b9 (fun x hx=>(ae (fun e=>(aC (am hb) lr c5) (e▸hx)) az)) (fun x cs q=>bo.upd b9 (eP c7 (by decide) bO) q)),ba.size,(aS.far z (ut (ay.mono (S':=(ob Ah++(g :: (ob Bq++[])))) V (ai il (ac im au))) ba (ai il (ac im au))) (dt (fv hda hdl hat0) (dV hdg (dt (eE hdl a (Nat.le_refl _)) eD)))),(by(try dsimp only);exact iZ (by omega) hpj c8),(by(try dsimp only);exact c9.1),(by(try dsimp only);have q:=SA.ok_le c9.1;exact q),(by(try dsimp only);omega),(by(try dsimp only);(try simp only[List.length_append,List.length_cons,List.length_nil]);omega),(by(try dsimp only);exact eg),(by(try dsimp only);exact Nat.le_trans hn0l (Nat.le_trans hnl V.size)),(by(try dsimp only);exact cJ)⟩ (by omega)
 refine xt<|AQ<|tx<|bx<|tn<|go<|L0<|Oi (((k:Nat) : Int)+1)<|Pl 1<|nl<|?_
 have ad:=aD J a3
 have ca:=Av (T:=T) (c:=(b.getD k 0)) l s E a4
 have cc:=SA.byte_ok hok (jh hrb k) ca
 exact ew ((k+1),(SA.mk T.dir (T.held++[(b.getD k 0)])),L,Y,Z,Bq,cq,n) ⟨aq,(ub a3 O),(ak a2 t (fun x hx=>az) (fun _ _ h=>h)),(ak a ad (fun x hx=>(aH ((cT a r (by decide)) x hx) (ae (fun e=>(aC (am hb) lr a) (e▸hx)) az))) (fun x cs q=>bo.upd ad (gP hlow (eP f (by decide) bO)) q)),(Nat.le_trans hnl ad.size),(aS.far z ad (dt (fv hda hdl hat0) (dV hdg eD))),(by(try dsimp only);exact nA (by omega) hpj ca),(by(try dsimp only);exact cc.1),(by(try dsimp only);have q:=SA.ok_le cc.1;exact q),(by(try dsimp only);omega),(by(try dsimp only);(try simp only[List.length_append,List.length_cons,List.length_nil]);omega),(by(try dsimp only);exact(j4 bt hat0 (le d.size j.size))),(by(try dsimp only);exact hn0l),(by(try dsimp only);exact(s5 bt hlow (Nat.le_trans hnl j.size)))⟩ (by omega)
 have cF:=of_decide_eq_false af
 refine xt<|tx<|tx<|bx<|tn<|sg<|Pl 2<|nt<|rt<|gr<|rr (.slice Bq L.length cq)<|?_
 have hs:S.feed b=(T,L):=by rw[hpj,List.take_of_length_le (by omega)]
 rw[hs]
 exact⟨_,Ah,ch,n,rfl,a,f,r,hat0,⟨hn0l,Nat.le_trans hnl lr⟩,hlow,d⟩
open Go.RowKit
def cZ (n base:Nat)(w:World)(g:Nat)(A:Option Addr)(cp:Nat)(S:SA) : Prop:=x6 w g S A cp∧cz base w (.slice A S.held.length cp) S.held∧S.ok∧n≤w.heap.size∧(∀ x,x∈ob A→n≤x)∧base≤w.heap.size
section
variable {n base g cp:Nat}{w w':World}{A:Option Addr}{S:SA}{X:List Nat}
theorem cZ.row(h:cZ n base w g A cp S) : cz base w (.slice A S.held.length cp) S.held:=h.2.1
theorem cZ.low(h:cZ n base w g A cp S) : ∀ x,x∈ob A→n≤x:=h.2.2.2.2.1
theorem cZ.nle(h:cZ n base w g A cp S) : n≤w.heap.size:=h.2.2.2.1
theorem cZ.le(h:cZ n base w g A cp S) : S.held.length≤513:=SA.ok_le h.2.2.1
theorem cZ.lt(h:cZ n base w g A cp S) : g<w.heap.size:=am h.1
theorem cZ.cells(h:cZ n base w g A cp S) : ∃ cs fr,w.heap[g]? = some (.cells cs 129 fr):=⟨_,_,h.1⟩
theorem cZ.upd(h:cZ n base w g A cp S)(hu:ay X w w')(hg:g∉X)(hr:∀ x,x∈ob A→x∉X) : cZ n base w' g A cp S :=
  ⟨hu.blk hg h.1,ak h.2.1 hu hr (fun _ _ q=>q),h.2.2.1,Nat.le_trans h.2.2.2.1 hu.size,h.2.2.2.2.1,Nat.le_trans h.2.2.2.2.2 hu.size⟩
end
theorem SA.feed_ok:∀ (b:List Int)(S:SA)(L:List Ev),S.ok→(∀ x,x∈b→0≤x∧x<256)→(b.foldl (fun(p:SA × List Ev) c=>((p.1.byte c).1,p.2++(p.1.byte c).2)) (S,L)).1.ok∧(b.foldl (fun(p:SA × List Ev) c=>((p.1.byte c).1,p.2++(p.1.byte c).2)) (S,L)).2.length≤L.length+b.length
  | [],S,L,h,_=>⟨h,Nat.le_refl _⟩
  | c :: t,S,L,h,hb=>by
    have k:=SA.byte_ok (S2:=(S.byte c).1) (L2:=(S.byte c).2) h (hb c (List.mem_cons_self ..)) rfl
    have q:=SA.feed_ok t (S.byte c).1 (L++(S.byte c).2) k.1 (fun x hx=>hb x (List.mem_cons_of_mem _ hx))
    refine⟨q.1,Nat.le_trans q.2 ?_⟩
    rw[List.length_append,List.length_cons]
    omega
theorem SA.feed_le{S S2:SA}{b:List Int}{L:List Ev}(h:S.ok)(hb:∀ x,x∈b→0≤x∧x<256)(hX:S.feed b=(S2,L)) : L.length≤b.length:=by
  have q:=(SA.feed_ok b S [] h hb).2
  have e:L=(S.feed b).2:=(congrArg Prod.snd hX).symm
  rw[e]
  rw[List.length_nil,Nat.zero_add] at q
  exact q
def Cz (n base:Nat)(S2:SA)(L:List Ev)(g:Nat)(A:Option Addr)(w:World)(e:Ending)(w':World) : Prop:=∃ v A2 cp2 n2,e = .returned v∧dv n2 w.heap.size w' v L∧cZ n2 base w' g A2 cp2 S2∧(∀ x,x∈ob A2→x∈ob A∨w.heap.size≤x)∧n≤n2∧ay (g :: (ob A++[])) w w'
theorem qO{w:World}{n base g cp cpb nb:Nat}{S S2:SA}{L:List Ev}{A B:Option Addr}{m:Bool}{b:List Int}(hX:S.feed b=(S2,L))(h:cZ n base w g A cp S)(hsl:aS m w (.slice B nb cpb) b)(hdg:0<nb→∀ x,x∈ob B→x≠g)(hda:lD nb B (ob A))(hbl:b.length≤1048576) :
    Calls Tryz.prog 168 #[.pointer (some ⟨g,0,none⟩),.slice B nb cpb] w (Cz n base S2 L g A w):=by
  obtain⟨h1,h2,h3,h4,h5,h6⟩:=h
  obtain rfl:nb=b.length:=by
    obtain⟨_,_,e,_⟩:=hsl.shape
    injection e
  refine(rc h1 h2 h6 h3 h4 h5 hsl hdg hda hbl).mono ?_
  rintro e w' ⟨v,A2,cp2,n2,he,k1,k2,k3,k4,⟨k5,k6⟩,k7,k8⟩
  have hok:=(SA.feed_ok b S [] h3 (aS.range hsl)).1
  rw[hX] at k1 k2 k3
  have e2:S2=(S.feed b).1:=(congrArg Prod.fst hX).symm
  exact⟨v,A2,cp2,n2,he,k1,⟨k2,k3,by rw[e2];exact hok,k6,k7,Nat.le_trans h6 k8.size⟩,k4,k5,k8⟩
theorem rW(d:Int){w:World}(hq:Calls Tryz.prog 47 #[.int .i64 d] w (fun e w'=>∃ g,e = .returned (.pointer (some ⟨g,0,none⟩))∧w.heap.size≤g∧x6 w' g ⟨d,[]⟩ none 0∧ay [] w w')) :
    Calls Tryz.prog 47 #[.int .i64 d] w (fun e w'=>∃ g,e = .returned (.pointer (some ⟨g,0,none⟩))∧w.heap.size≤g∧cZ w.heap.size w.heap.size w' g none 0 ⟨d,[]⟩∧ay [] w w'):=by
  refine hq.mono ?_
  rintro e w' ⟨g,he,h1,h2,h3⟩
  exact⟨g,he,h1,⟨h2,aL.nil ..,⟨(fun x hx=>by cases hx),(show 0≤513 from by decide)⟩,h3.size,cJ,h3.size⟩,h3⟩
theorem wH{w:World}{n base g cp:Nat}{S:SA}{A:Option Addr}(h:cZ n base w g A cp S) : Calls Tryz.prog 169 #[.pointer (some ⟨g,0,none⟩)] w (bv (.int .i64 ((S.held.length:Nat) : Int)) w):=uu h.1 h.2.1.rd
open Go.RowKit
inductive XS where
  | r (S:SS)
  | a (S:SA)
  | m (S:SM)
def XS.zero (k d:Int) : XS:=bif k==0 then .r ⟨d,[],false⟩ else bif k==1 then .a ⟨d,[]⟩ else .m ⟨d,[],0⟩
def XS.feed:XS→List Int→XS × List Ev
  | .r S,b=>(.r (S.feed b).1,(S.feed b).2)
  | .a S,b=>(.a (S.feed b).1,(S.feed b).2)
  | .m S,b=>(.m (S.feed b).1,(S.feed b).2)
def XS.tick:XS→XS × List Ev
  | .r S=>(.r S.tick.1,S.tick.2)
  | .a S=>(.a S,[])
  | .m S=>(.m S,[])
def XS.take (S:XS)(b:List Int)(t:Bool) : XS × List Ev:=bif t then ((S.feed b).1.tick.1,(S.feed b).2++(S.feed b).1.tick.2) else S.feed b
def XS.held:XS→List Int
  | .r S=>S.held
  | .a S=>S.held
  | .m S=>S.held
def Ce:XS→TypeId
  | .r _=>95
  | .a _=>101
  | .m _=>103
def cC (n base:Nat)(w:World)(g:Nat)(A:Option Addr)(c:Nat) : XS→Prop
  | .r S=>cF n base w g A c S
  | .a S=>cZ n base w g A c S
  | .m S=>cX n base w g A c S
abbrev Ck (S:XS) (g:Nat) : Array Value:=#[.iface (Ce S) (.pointer (some ⟨g,0,none⟩))]
def b9 (n base:Nat)(w:World)(s g:Nat)(A:Option Addr)(c:Nat)(S:XS) : Prop:=w.heap[s]? = some (.cells (Ck S g) 100 (0,0))∧cC n base w g A c S
section
variable {n base s g c:Nat}{w w':World}{A:Option Addr}{S:XS}{X:List Nat}
theorem cC.row(h:cC n base w g A c S) : cz base w (.slice A 0 c) []:=by
  cases S with
  | r S=>exact h.2.1
  | a S=>exact rR h.2.1
  | m S=>exact rR h.2.1
theorem cC.low(h:cC n base w g A c S) : ∀ x,x∈ob A→n≤x:=by
  cases S with
  | r S=>exact h.2.2.2.1
  | a S=>exact h.2.2.2.2.1
  | m S=>exact h.2.2.2.2.1
theorem cC.nle(h:cC n base w g A c S) : n≤w.heap.size:=by
  cases S with
  | r S=>exact h.2.2.1
  | a S=>exact h.2.2.2.1
  | m S=>exact h.2.2.2.1
theorem cC.ble(h:cC n base w g A c S) : base≤w.heap.size:=by
  cases S with
  | r S=>exact h.2.2.2.2
  | a S=>exact h.2.2.2.2.2
  | m S=>exact h.2.2.2.2.2
theorem cC.cells(h:cC n base w g A c S) : ∃ t cs fr,w.heap[g]? = some (.cells cs t fr)∧gn.contains t=false∧(t==100)=false∧(t==5)=false:=by
  cases S with
  | r S=>obtain⟨cs,fr,k⟩:=cF.cells h;exact⟨_,cs,fr,k,by decide,by decide,by decide⟩
  | a S=>exact⟨_,_,_,h.1,by decide,by decide,by decide⟩
  | m S=>exact⟨_,_,_,h.1,by decide,by decide,by decide⟩
theorem cC.lt(h:cC n base w g A c S) : g<w.heap.size:=by
  obtain⟨t,cs,fr,k,_⟩:=h.cells
  exact am k
theorem cC.upd(h:cC n base w g A c S)(hu:ay X w w')(hg:g∉X)(hr:∀ x,x∈ob A→x∉X) : cC n base w' g A c S:=by
  cases S with
  | r S=>exact cF.upd h hu hg hr
  | a S=>exact cZ.upd h hu hg hr
  | m S=>exact cX.upd h hu hg hr
theorem cC.gA(h:cC n base w g A c S) : g∉ob A:=by
  obtain⟨t,cs,fr,k,_,_,h2⟩:=h.cells
  exact bB k h.row h2
theorem b9.row(h:b9 n base w s g A c S) : cz base w (.slice A 0 c) []:=h.2.row
theorem b9.low(h:b9 n base w s g A c S) : ∀ x,x∈ob A→n≤x:=h.2.low
theorem b9.nle(h:b9 n base w s g A c S) : n≤w.heap.size:=h.2.nle
theorem b9.ble(h:b9 n base w s g A c S) : base≤w.heap.size:=h.2.ble
theorem b9.lt(h:b9 n base w s g A c S) : s<w.heap.size:=am h.1
theorem b9.cells(h:b9 n base w s g A c S) : ∃ cs fr,w.heap[s]? = some (.cells cs 100 fr):=⟨_,_,h.1⟩
theorem b9.sg(h:b9 n base w s g A c S) : s≠g:=fun e=>by
  obtain⟨t,cs,fr,k,_,h2,_⟩:=h.2.cells
  rw[← e,h.1] at k
  injection k with k
  injection k with _ k _
  rw[← k] at h2
  exact absurd h2 (by decide)
theorem b9.gA(h:b9 n base w s g A c S) : g∉ob A:=h.2.gA
theorem b9.upd(h:b9 n base w s g A c S)(hu:ay X w w')(hs:s∉X)(hg:g∉X)(hr:∀ x,x∈ob A→x∉X) : b9 n base w' s g A c S:=⟨hu.blk hs h.1,h.2.upd hu hg hr⟩
theorem b9.old(h:b9 n base w s g A c S)(hu:ay [] w w') : b9 n base w' s g A c S:=h.upd hu (by simp) (by simp) (fun x _=>by simp)
theorem cC.ty(h:cC n base w g A c S) : ∃ t cs fr,w.heap[g]? = some (.cells cs t fr)∧(t=127∨t=129∨t=131):=by
  cases S with
  | r S=>obtain⟨cs,fr,k⟩:=cF.cells h;exact⟨_,cs,fr,k,.inl rfl⟩
  | a S=>exact⟨_,_,_,h.1,.inr (.inl rfl)⟩
  | m S=>exact⟨_,_,_,h.1,.inr (.inr rfl)⟩
theorem b9.gx{α:Type}{b2 sz m c2:Nat}{e:TypeId}{R:World→α→List Value→Prop}{A2:Option Addr}{xs:List α}(h:b9 n base w s g A c S)(hO:aL b2 e sz R w (.slice A2 m c2) xs)(he:(127==e)=false∧(129==e)=false∧(131==e)=false) : g∉ob A2:=by
  obtain⟨t,cs,fr,k,rfl|rfl|rfl⟩:=h.2.ty
  · exact bB k hO he.1
  · exact bB k hO he.2.1
  · exact bB k hO he.2.2
theorem b9.apt(h:b9 n base w s g A c S){k:Nat}(hk:k≤n) : tq k (g :: (ob A++[])) w:=by
  obtain⟨t,cs,fr,q,h1,_⟩:=h.2.cells
  exact eP q h1 (gP (qx hk h.low) bO)
end
def AW (n base:Nat)(S2:XS)(L:List Ev)(s g:Nat)(A:Option Addr)(w:World)(e:Ending)(w':World) : Prop:=∃ v A2 c2 n2,e = .returned v∧dv n2 w.heap.size w' v L∧b9 n2 base w' s g A2 c2 S2∧(∀ x,x∈ob A2→x∈ob A∨w.heap.size≤x)∧n≤n2∧ay (g :: (ob A++[])) w w'
def AP (n base:Nat)(S2:XS)(L:List Ev)(g:Nat)(A:Option Addr)(w:World)(e:Ending)(w':World) : Prop:=∃ v A2 c2 n2,e = .returned v∧dv n2 w.heap.size w' v L∧cC n2 base w' g A2 c2 S2∧(∀ x,x∈ob A2→x∈ob A∨w.heap.size≤x)∧n≤n2∧ay (g :: (ob A++[])) w w'
section
variable {w:World}{n base g c cpb nb:Nat}{A B:Option Addr}{m:Bool}{b:List Int}
theorem tI{S:SS}(h:cC n base w g A c (.r S))(hsl:aS m w (.slice B nb cpb) b)(hbl:b.length≤1048576) :
    Calls Tryz.prog 157 #[.pointer (some ⟨g,0,none⟩),.slice B nb cpb] w (AP n base (.r (S.feed b).1) (S.feed b).2 g A w):=by
  obtain⟨_,_,e,hc,_⟩:=hsl.shape
  injection e with e1 e2 e3
  subst e1 e2 e3
  exact ti h h.gA hsl hbl hc
theorem th{S:SS}(h:cC n base w g A c (.r S)) : Calls Tryz.prog 159 #[.pointer (some ⟨g,0,none⟩)] w (AP n base (.r S.tick.1) S.tick.2 g A w):=sX h
theorem sI{S:SA}(h:cC n base w g A c (.a S))(hsl:aS m w (.slice B nb cpb) b)(hdg:0<nb→∀ x,x∈ob B→x≠g)(hda:lD nb B (ob A))(hbl:b.length≤1048576) :
    Calls Tryz.prog 168 #[.pointer (some ⟨g,0,none⟩),.slice B nb cpb] w (AP n base (.a (S.feed b).1) (S.feed b).2 g A w):=qO rfl h hsl hdg hda hbl
theorem sO{S:SM}(h:cC n base w g A c (.m S))(hsl:aS m w (.slice B nb cpb) b)(hdg:0<nb→∀ x,x∈ob B→x≠g)(hda:lD nb B (ob A))(hbl:b.length≤1048576) :
    Calls Tryz.prog 184 #[.pointer (some ⟨g,0,none⟩),.slice B nb cpb] w (AP n base (.m (S.feed b).1) (S.feed b).2 g A w):=pI rfl h hsl hdg hda hbl
end
open Go.RowKit
section
variable {P:Program}{n:Nat}{D:List Deferred}{F:Fr}{w:World}{K:Fr→World→Prop}{Q:Exit→Act→World→Prop}{d:Option Tmp}{t:TypeId}{s:String}{af:Array Edge}{gu:Option (Nat × Bool)}
theorem wg{a:Act}{K:Act→World→Prop}{o:Oper}{N:Option Tmp}{f:FuncId}{fn:Func}{x:Operand}{nm:String}{opds:Array Operand}{ts:Array TypeId}{T:TypeId}{v rv:Value}(args:Array Value)(hN:o.dst=N)(hop:o.op = .call { callee:=.invoke x nm,args:=opds,argTypes:=ts })
    (hx : a.eval x = .iface T v) (hm : (method (P.types.size + Made.depth) T v nm).run P w = .ok (f, rv) w) (hf : P.funcs[f]? = some fn) (hname : (fn.name == "runtime.NumGoroutine") = false) (hb : fn.body.isSome = true) (hargs : #[rv] ++ opds.map a.eval = args)
    (h:Calls P f args w fun e w'=>∃ v,e = .returned v∧K (a.put N v) w') : OW P o a w K Q:=by
  refine OW.mk ?_
  subst hN
  subst hargs
  have h1 : fn.name ≠ "runtime.NumGoroutine" := by simpa using hname
  obtain⟨cd,hcd⟩:=Option.isSome_iff_exists.1 hb
  have hcm:(callMethod (.iface T v) nm (opds.map a.eval)).run P w = .ok (.enter f (#[rv]++opds.map a.eval)) w:=by
    unfold callMethod
    simp only[program,Sem.run_bind]
    have hp:(pure P:Sem Program).run P w = .ok P w:=rfl
    simp[Sem.run,hm,callFunc,hf,h1,hcd,Result.andThen]
  have hinv:invoke (.fn (.method nm) #[]) (#[.iface T v]++opds.map a.eval)=callMethod (.iface T v) nm (opds.map a.eval):=by
    have e0:(#[Value.iface T v]++opds.map a.eval)[0]? = some (.iface T v):=by
      rw[Array.getElem?_append_left (by simp)]
      rfl
    have e1:(#[Value.iface T v]++opds.map a.eval).extract 1 (#[Value.iface T v]++opds.map a.eval).size=opds.map a.eval:=by
      apply Array.toList_inj.1
      simp only[Array.toList_extract,List.extract_eq_take_drop,Array.toList_append,Array.toList_map,Array.size_append,Array.size_map]
      simp[List.take_of_length_le]
    unfold invoke
    simp only[e0,e1]
  have hrun:(execOp a.eval o).run P w = .ok (.enter f (#[rv]++opds.map a.eval)) w:=by
    unfold execOp
    simp only[hop,resolve,hx,Sem.run_bind,Sem.run_pure,Result.andThen_ok,hinv,hcm]
  unfold Oper.wp
  rw[hrun,Oper.upon_enter]
  refine h.mono fun e w'' hh=>?_
  obtain⟨v,rfl,h2⟩:=hh
  exact h2
theorem rp{f:FuncId}{x:Operand}{nm:String}{opds:Array Operand}{ts:Array TypeId}{args:Array Value}(T:TypeId)(v rv:Value)(h:Calls P f args w fun e w'=>∃ v,e = .returned v∧K (pt d v F) w')
    (hm:(method (P.types.size+Made.depth) T v nm).run P w = .ok (f,rv) w:=by kernel_rfl) (hx:dW F x=some (.iface T v):=by kernel_rfl) (ha:some rv :: opds.toList.map (dW F)=args.toList.map some:=by kernel_rfl) (hf:zL P f=some (false,true):=by kernel_rfl) (hs:eR n d=true:=by kernel_rfl) : OG P ⟨d,.call { callee:=.invoke x nm,args:=opds,argTypes:=ts },t,s,af,gu⟩ n D F w K Q:=by
  obtain⟨fn,h1,h2,h3⟩:=iJ hf
  refine⟨fun a hag K' hK=>wg args rfl rfl (hag.ev hx) hm h1 h2 h3 ?_ (h.mono fun e w' hh=>by
    obtain⟨v,rfl,hk⟩:=hh
    exact⟨v,rfl,hK _ _ _ hk (hag.put hs)⟩)⟩
  apply Array.toList_inj.1
  obtain⟨vs,has⟩ : ∃ vs:List Value,args.toList=rv :: vs∧opds.toList.map (dW F)=vs.map some:=by
    cases hl:args.toList with
    | nil=>rw[hl] at ha;cases ha
    | cons y ys =>
      rw[hl] at ha
      injection ha with e1 e2
      exact⟨ys,by rw[Option.some.inj e1],e2⟩
  rw[has.1,Array.toList_append,Array.toList_map,jQ hag has.2]
  rfl
theorem C5{x:Operand}{xt ty:TypeId}{ok:Bool}(T:TypeId)(v r:Value)(h:K (pt d r F) w)(hx:dW F x=some (.iface T v):=by kernel_rfl)(hr:(Instr.typeAssert (.iface T v) xt ty ok).run P w = .ok r w:=by kernel_rfl)(hs:eR n d=true:=by kernel_rfl) : OG P ⟨d,.typeAssert x xt ty ok,t,s,af,gu⟩ n D F w K Q:=by
  refine⟨fun a ha K' hK=>fi r rfl ?_ (hK _ _ _ h (ha.put hs))⟩
  unfold execOp
  simp only[ha.ev hx,Sem.run_bind,hr,Result.andThen_ok,Sem.run_pure]
theorem l0:∀ {l:List String},l≠[]→∃ m,Instr.least l=some m
  | [],h=>absurd rfl h
  | s :: r,_=>⟨_,rfl⟩
theorem mR{want:Array (String × TypeId)}{got:Array Method}(h:(want.toList.filter fun p=>!got.any fun m=>m.name==p.1&&m.sig==p.2).isEmpty=false) : ∃ m,Instr.missingMethod want got=some m:=by
  unfold Instr.missingMethod
  simp only[List.partition_eq_filter_filter]
  have hne:((want.toList.filter fun p=>!got.any fun m=>m.name==p.1&&m.sig==p.2).map (·.1))≠[]:=by
    intro e
    rw[List.map_eq_nil_iff] at e
    rw[e] at h
    cases h
  generalize ((want.toList.filter fun p=>!got.any fun m=>m.name==p.1&&m.sig==p.2).map (·.1))=l at hne
  by_cases hx:l.filter (not ∘ (fun s:String=>s.contains '.'))=[]
  · have hy:l.filter (fun s:String=>s.contains '.')≠[]:=by
      intro hy
      obtain⟨s,hs⟩:=List.exists_mem_of_ne_nil l hne
      cases hc:s.contains '.'
      · have:s∈l.filter (not ∘ (fun s:String=>s.contains '.')):=List.mem_filter.2 ⟨hs,by simp only[Function.comp,hc,Bool.not_false]⟩
        rw[hx] at this
        cases this
      · have:s∈l.filter (fun s:String=>s.contains '.'):=List.mem_filter.2 ⟨hs,hc⟩
        rw[hy] at this
        cases this
    rw[hx]
    obtain ⟨m, hm⟩ := l0 (l := (l.filter (fun s : String => s.contains '.')).map (fun id => (id.splitOn ".").getLastD id)) (by simpa using hy)
    exact⟨m,by rw[hm];rfl⟩
  · obtain⟨m,hm⟩:=l0 hx
    exact⟨m,by rw[hm];rfl⟩
def AB (P:Program)(ty T:TypeId) : Bool:=match P.underlying ty,P.info? T with
  | some (.interface want),some i=>!(want.toList.filter fun p=>!i.methods.any fun m=>m.name==p.1&&m.sig==p.2).isEmpty
  | _,_=>false
theorem BS{x:Operand}{xt ty:TypeId}(T:TypeId)(v z:Value)(h:K (pt d (.tuple #[z,.bool false]) F) w)(hm:AB P ty T=true:=by kernel_rfl)(hx:dW F x=some (.iface T v):=by kernel_rfl)(hz:(zeroValue ty).run P w = .ok z w:=by kernel_rfl)(hs:eR n d=true:=by kernel_rfl) : OG P ⟨d,.typeAssert x xt ty true,t,s,af,gu⟩ n D F w K Q:=by
  refine⟨fun a ha K' hK=>fi _ rfl ?_ (hK _ _ _ h (ha.put hs))⟩
  unfold AB at hm
  split at hm
  · rename_i want i hu hi
    obtain⟨m,hmm⟩:=mR (by simpa using hm)
    have h1:(underlying ty).run P w = .ok (.interface want) w:=run_underlying hu w
    have h2:(typeInfo T).run P w = .ok i w:=by simp[typeInfo,hi]
    unfold execOp
    simp only[ha.ev hx,Instr.typeAssert,Sem.run_bind,h1,h2,Result.andThen_ok,hmm,hz,Sem.run_pure,if_true]
  · cases hm
end
open Go.RowKit
def ky (k dir:Int)(b:List Int) : cm × Int:=bif k==0 then eQ dir b else bif k==1 then ec dir b else bif k==2 then cn dir b else (cm.zero,1)
def jj (k dir u t:Int)(M:aT) : Option (List Int):=bif k==0 then fI dir u t M else bif k==1 then fF dir u t M else bif k==2 then ei dir u t M else none
def qA (k:Int) : Int:=bif k==0 then 256 else bif k==1 then 513 else bif k==2 then 260 else 0
theorem k4{C:Prop}(k:Int)(h0:k=0→C)(h1:k=1→C)(h2:k=2→C)(h3:(k==0)=false→(k==1)=false→(k==2)=false→C) : C:=by
  cases e0:k==0
  · cases e1:k==1
    · cases e2:k==2
      · exact h3 e0 e1 e2
      · exact h2 (by simpa using e2)
    · exact h1 (by simpa using e1)
  · exact h0 (by simpa using e0)
theorem rK(x:Int) : x%3=0∨x%3=1∨x%3=2:=by omega
theorem vL{k dir:Int}{b:List Int}(h0:(k==0)=false)(h1:(k==1)=false)(h2:(k==2)=false) : ky k dir b=(cm.zero,1):=by unfold ky;rw[h0,h1,h2];rfl
theorem vX{k dir u t:Int}{M:aT}(h0:(k==0)=false)(h1:(k==1)=false)(h2:(k==2)=false) : jj k dir u t M=none:=by unfold jj;rw[h0,h1,h2];rfl
theorem zb{k:Int}(h0:(k==0)=false)(h1:(k==1)=false)(h2:(k==2)=false) : qA k=0:=by unfold qA;rw[h0,h1,h2];rfl
def gD (base:Nat)(w:World)(v:Value)(xs:List Int) : Prop:=aS true w v xs∧∃ A n c,v = .slice A n c∧∀ x,x∈ob A→base≤x
theorem gD.wk{base base':Nat}{w:World}{v:Value}{xs:List Int}(h:gD base w v xs)(k:base'≤base) : gD base' w v xs:=by
  obtain⟨h1,A,n,c,h2,h3⟩:=h
  exact⟨h1,A,n,c,h2,fun x hx=>Nat.le_trans k (h3 x hx)⟩
def WR (res:Option (List Int))(base:Nat)(w:World)(v:Value)(n:Int) : Prop:=match res with
  | some l=>n=0∧gD base w v l
  | none=>n=1∧v = .slice none 0 0
theorem WR.wk{res:Option (List Int)}{base base':Nat}{w:World}{v:Value}{n:Int}(h:WR res base w v n)(k:base'≤base) : WR res base' w v n:=by
  cases res with
  | none=>exact h
  | some l=>exact⟨h.1,h.2.wk k⟩
def uy (res:Option (List Int))(w:World)(e:Ending)(w':World) : Prop:=∃ v n,e = .returned (.tuple #[v,.int .i64 n])∧WR res w.heap.size w' v n∧ay [] w w'
theorem gD.of{base:Nat}{w:World}{v:Value}{xs:List Int}(h:cz base w v xs) : gD base w v xs:=by
  obtain⟨A,c,rfl,_,_⟩:=h.rd.shape
  exact⟨h.rd,A,_,c,rfl,gG h⟩
theorem gD.ofF{base:Nat}{w:World}{v:Value}{xs:List Int}(h:iL base w v xs) : gD base w v xs:=by
  obtain⟨b,c,rfl⟩:=h.shape
  exact⟨h.rd,_,_,c,rfl,fun x hx=>by simp[ob] at hx;subst hx;exact h.ge⟩
theorem rz{w:World}:Calls Tryz.prog 41 #[.int .i64 0] w (bv (.iface 122 (.agg #[])) w):=by
 refine en 18 Tryz.func41 rfl<|sg<|Pl 1<|nt<|sq<|sg<|Pl 1<|nt<|bk<|sq<|?_
 refine go<|Pl 2<|nt<|c1<|sg<|Pl 3<|nt<|rt<|br<|tr<|rr (.iface 122 (.agg #[]))<|?_
 exact⟨rfl,(ay.refl [] _)⟩
theorem s7{w:World}:Calls Tryz.prog 41 #[.int .i64 1] w (bv (.iface 123 (.agg #[])) w):=by
 refine en 18 Tryz.func41 rfl<|sg<|Pl 1<|nt<|sq<|sg<|Pl 1<|nt<|bk<|sq<|?_
 refine go<|Pl 2<|nt<|c0<|sg<|Pl 2<|nt<|c1<|sg<|Pl 3<|nl<|?_
 refine tn<|rt<|br<|tr<|rr (.iface 123 (.agg #[]))<|?_
 exact⟨rfl,(ay.refl [] _)⟩
theorem rP{w:World}:Calls Tryz.prog 41 #[.int .i64 2] w (bv (.iface 124 (.agg #[])) w):=by
 refine en 18 Tryz.func41 rfl<|sg<|Pl 1<|nt<|sq<|sg<|Pl 1<|nt<|bk<|sq<|?_
 refine go<|Pl 2<|nt<|c0<|sg<|Pl 2<|nt<|c0<|sg<|Pl 2<|nl<|?_
 refine tn<|c1<|sg<|Pl 3<|nt<|rt<|br<|tr<|rr (.iface 124 (.agg #[]))<|?_
 exact⟨rfl,(ay.refl [] _)⟩
theorem rG{w:World}{k:Int}(h0:(k==0)=false)(h1:(k==1)=false)(h2:(k==2)=false) : Calls Tryz.prog 41 #[.int .i64 k] w (bv (.iface 125 (.agg #[])) w):=by
 refine en 18 Tryz.func41 rfl<|sg<|Pl 1<|nt<|sq<|sg<|Pl 1<|nt<|bk<|sq<|?_
 refine go<|Pl 2<|nt<|cf h0<|sg<|Pl 2<|nt<|cf h1<|sg<|Pl 2<|nl<|?_
 refine tn<|cf h2<|sk<|bn<|tn<|sg<|Pl 3<|nt<|rt<|rr (.iface 125 (.agg #[]))<|?_
 exact⟨rfl,(ay.refl [] _)⟩
theorem wY{w:World}:Calls Tryz.prog 193 #[.agg #[]] w (bv (.int .i64 256) w):=by
 refine en 3 Tryz.func193 rfl<|sg<|L0<|cI #[] fun b c d e a=>Pl 1<|ng<|Pl 1<|nt<|rt<|rr (.int .i64 256)<|?_
 exact⟨rfl,a⟩
theorem tb{w:World}:Calls Tryz.prog 20 #[.int .i64 0] w (bv (.int .i64 256) w):=by
 refine en 6 Tryz.func20 rfl<|sg<|Pl 1<|ng<|Pl 1<|L0<|Oc<|m1 (rz) fun c a=>L0<|rp (f:=193) (args:=#[.agg #[]]) 122 (.agg #[]) (.agg #[])<|m1 (@wY _) fun d b=>Pl 1<|nt<|?_
 refine rt<|rr (.int .i64 256)<|?_
 exact⟨rfl,(aD a b)⟩
theorem x9{w:World}:Calls Tryz.prog 197 #[.agg #[]] w (bv (.int .i64 513) w):=by
 refine en 3 Tryz.func197 rfl<|sg<|L0<|cI #[] fun b c d e a=>Pl 1<|ng<|Pl 1<|nt<|rt<|rr (.int .i64 513)<|?_
 exact⟨rfl,a⟩
theorem sY{w:World}:Calls Tryz.prog 20 #[.int .i64 1] w (bv (.int .i64 513) w):=by
 refine en 6 Tryz.func20 rfl<|sg<|Pl 1<|ng<|Pl 1<|L0<|Oc<|m1 (s7) fun c a=>L0<|rp (f:=197) (args:=#[.agg #[]]) 123 (.agg #[]) (.agg #[])<|m1 (@x9 _) fun d b=>Pl 1<|nt<|?_
 refine rt<|rr (.int .i64 513)<|?_
 exact⟨rfl,(aD a b)⟩
theorem xb{w:World}:Calls Tryz.prog 206 #[.agg #[]] w (bv (.int .i64 260) w):=by
 refine en 3 Tryz.func206 rfl<|sg<|L0<|cI #[] fun b c d e a=>Pl 1<|ng<|Pl 1<|nt<|rt<|rr (.int .i64 260)<|?_
 exact⟨rfl,a⟩
theorem sU{w:World}:Calls Tryz.prog 20 #[.int .i64 2] w (bv (.int .i64 260) w):=by
 refine en 6 Tryz.func20 rfl<|sg<|Pl 1<|ng<|Pl 1<|L0<|Oc<|m1 (rP) fun c a=>L0<|rp (f:=206) (args:=#[.agg #[]]) 124 (.agg #[]) (.agg #[])<|m1 (@xb _) fun d b=>Pl 1<|nt<|?_
 refine rt<|rr (.int .i64 260)<|?_
 exact⟨rfl,(aD a b)⟩
theorem xN{w:World}:Calls Tryz.prog 210 #[.agg #[]] w (bv (.int .i64 0) w):=by
 refine en 3 Tryz.func210 rfl<|sg<|L0<|cI #[] fun b c d e a=>Pl 1<|ng<|Pl 1<|nt<|rt<|rr (.int .i64 0)<|?_
 exact⟨rfl,a⟩
theorem tw{w:World}{k:Int}(h0:(k==0)=false)(h1:(k==1)=false)(h2:(k==2)=false) : Calls Tryz.prog 20 #[.int .i64 k] w (bv (.int .i64 0) w):=by
 refine en 6 Tryz.func20 rfl<|sg<|Pl 1<|ng<|Pl 1<|L0<|Oc<|m1 (rG h0 h1 h2) fun c a=>L0<|rp (f:=210) (args:=#[.agg #[]]) 125 (.agg #[]) (.agg #[])<|m1 (@xN _) fun d b=>Pl 1<|nt<|?_
 refine rt<|rr (.int .i64 0)<|?_
 exact⟨rfl,(aD a b)⟩
theorem gN{w:World}{k:Int}:Calls Tryz.prog 20 #[.int .i64 k] w (bv (.int .i64 (qA k)) w):=by
  refine k4 k (fun h=>?_) (fun h=>?_) (fun h=>?_) (fun h0 h1 h2=>?_)
  · subst h;exact tb
  · subst h;exact sY
  · subst h;exact sU
  · rw[zb h0 h1 h2];exact tw h0 h1 h2
theorem qp{m:Bool}{x:SL}{M:aT}{w:World}{dir u t:Int}(h:aF m w (iE M x).toList M)(hf:aW M)(hbu:0≤u∧u<256)(hbt:0≤t∧t<65536) : Calls Tryz.prog 196 #[.int .i64 dir,.agg (eK u t M x)] w (uy (fI dir u t M) w):=by
  cases hX:fI dir u t M with
  | none =>
    refine(p6 hX h hf hbu hbt).mono ?_
    rintro e w' ⟨rfl,hu⟩
    exact⟨_,_,rfl,⟨rfl,rfl⟩,hu⟩
  | some l =>
    refine(oP hX h hf hbu hbt).mono ?_
    rintro e w' ⟨v,rfl,ho,hu⟩
    exact⟨_,_,rfl,⟨rfl,gD.of ho⟩,hu⟩
theorem xS{m:Bool}{x:SL}{M:aT}{w:World}{dir u t:Int}(h:aF m w (iE M x).toList M)(hf:aW M)(hbu:0≤u∧u<256)(hbt:0≤t∧t<65536) : Calls Tryz.prog 195 #[.agg #[],.int .i64 dir,.agg (eK u t M x)] w (uy (fI dir u t M) w):=by
 refine en 13 Tryz.func195 rfl<|sg<|L0<|cI #[] fun j k l n b=>L0<|cI (eK u t M x) fun o p q c d=>Pl 2<|ng<|Pl 1<|L0<|cj c<|?_
 have a:=aD b d
 refine L0<|Oc<|yR (qp (dir:=dir) (aF.old h a) hf hbu hbt) fun e f r g i=>Pl 4<|nt<|rt<|rr (.tuple #[e,.int .i64 f])<|?_
 exact⟨_,_,rfl,g.wk a.size,(aD a i)⟩
theorem qg{m:Bool}{x:SL}{M:aT}{w:World}{dir u t:Int}(h:aF m w (iE M x).toList M)(hf:aW M)(hbu:0≤u∧u<256)(hbt:0≤t∧t<65536) : Calls Tryz.prog 18 #[.int .i64 0,.int .i64 dir,.agg (eK u t M x)] w (uy (fI dir u t M) w):=by
 refine en 15 Tryz.func18 rfl<|sg<|L0<|cI (eK u t M x) fun d s v n o=>Pl 2<|nt<|sq<|Rg 9 (fun w'=>w'.heap[d]? = some (.cells (eK u t M x) 33 (0,0))) fun y e=>?_
 have i:=ub e n
 refine aZ i fun b=>Rt 0 b<|Rt 2 b<|Rr 3 b (.agg (eK u t M x)) (fun w' hs=>gJ (g:=d) (off:=0) [.int .u8 u,.int .u16 t,.int .u8 M.code,.int .u8 M.fail,.int .u16 M.addr,.int .u16 M.count,.int .u16 M.value,.int .u16 M.and_,.int .u16 M.or_,.int .u16 M.addr2,.int .u16 M.sub,.int .u16 M.status,.int .u16 M.events,.int .u16 M.messages,.slice x.aw M.words.length x.kw,.slice x.ab M.bits.length x.kb,.slice x.ad M.data.length x.kd,.slice x.ar M.recs.length x.kr,.int .u8 M.mei,.int .u8 M.kind,.int .u8 M.level,.int .u8 M.more,.int .u8 M.next,.slice x.ao M.objects.length x.ko] rfl (by kernel_rfl) hs (by kernel_rfl) (by kernel_rfl) rfl)<|R0 1 rfl<|Oc<|m1 (rz) fun z j=>?_
 have k:=ub j i
 refine aZ k fun A=>?_
 have c:=aD o (aD e j)
 refine R0 4 rfl<|rp (f:=195) (args:=#[.agg #[],.int .i64 dir,.agg (eK u t M x)]) 122 (.agg #[]) (.agg #[])<|yR (xS (dir:=dir) (aF.old h c) hf hbu hbt) fun p q B r l=>?_
 refine aZ (ub l k) fun a=>Rt 5 a<|Rt 6 a<|Rt 7 a<|Rt 8 a<|re<|tn<|rt<|rr (.tuple #[p,.int .i64 q])<|?_
 exact⟨_,_,rfl,r.wk c.size,(aD c l)⟩
theorem qh{m:Bool}{x:SL}{M:aT}{w:World}{dir u t:Int}(h:aF m w (iE M x).toList M)(hf:aW M)(hbu:0≤u∧u<256)(hbt:0≤t∧t<65536) : Calls Tryz.prog 200 #[.int .i64 dir,.agg (eK u t M x)] w (uy (fF dir u t M) w):=by
  cases hX:fF dir u t M with
  | none =>
    refine(oK hX h hf hbu hbt).mono ?_
    rintro e w' ⟨rfl,hu⟩
    exact⟨_,_,rfl,⟨rfl,rfl⟩,hu⟩
  | some l =>
    refine(oz hX h hf hbu hbt).mono ?_
    rintro e w' ⟨v,rfl,ho,hu⟩
    exact⟨_,_,rfl,⟨rfl,gD.ofF ho⟩,hu⟩
theorem xK{m:Bool}{x:SL}{M:aT}{w:World}{dir u t:Int}(h:aF m w (iE M x).toList M)(hf:aW M)(hbu:0≤u∧u<256)(hbt:0≤t∧t<65536) : Calls Tryz.prog 199 #[.agg #[],.int .i64 dir,.agg (eK u t M x)] w (uy (fF dir u t M) w):=by
 refine en 13 Tryz.func199 rfl<|sg<|L0<|cI #[] fun j k l n b=>L0<|cI (eK u t M x) fun o p q c d=>Pl 2<|ng<|Pl 1<|L0<|cj c<|?_
 have a:=aD b d
 refine L0<|Oc<|yR (qh (dir:=dir) (aF.old h a) hf hbu hbt) fun e f r g i=>Pl 4<|nt<|rt<|rr (.tuple #[e,.int .i64 f])<|?_
 exact⟨_,_,rfl,g.wk a.size,(aD a i)⟩
theorem qK{m:Bool}{x:SL}{M:aT}{w:World}{dir u t:Int}(h:aF m w (iE M x).toList M)(hf:aW M)(hbu:0≤u∧u<256)(hbt:0≤t∧t<65536) : Calls Tryz.prog 18 #[.int .i64 1,.int .i64 dir,.agg (eK u t M x)] w (uy (fF dir u t M) w):=by
 refine en 15 Tryz.func18 rfl<|sg<|L0<|cI (eK u t M x) fun d s v n o=>Pl 2<|nt<|sq<|Rg 9 (fun w'=>w'.heap[d]? = some (.cells (eK u t M x) 33 (0,0))) fun y e=>?_
 have i:=ub e n
 refine aZ i fun b=>Rt 0 b<|Rt 2 b<|Rr 3 b (.agg (eK u t M x)) (fun w' hs=>gJ (g:=d) (off:=0) [.int .u8 u,.int .u16 t,.int .u8 M.code,.int .u8 M.fail,.int .u16 M.addr,.int .u16 M.count,.int .u16 M.value,.int .u16 M.and_,.int .u16 M.or_,.int .u16 M.addr2,.int .u16 M.sub,.int .u16 M.status,.int .u16 M.events,.int .u16 M.messages,.slice x.aw M.words.length x.kw,.slice x.ab M.bits.length x.kb,.slice x.ad M.data.length x.kd,.slice x.ar M.recs.length x.kr,.int .u8 M.mei,.int .u8 M.kind,.int .u8 M.level,.int .u8 M.more,.int .u8 M.next,.slice x.ao M.objects.length x.ko] rfl (by kernel_rfl) hs (by kernel_rfl) (by kernel_rfl) rfl)<|R0 1 rfl<|Oc<|m1 (s7) fun z j=>?_
 have k:=ub j i
 refine aZ k fun A=>?_
 have c:=aD o (aD e j)
 refine R0 4 rfl<|rp (f:=199) (args:=#[.agg #[],.int .i64 dir,.agg (eK u t M x)]) 123 (.agg #[]) (.agg #[])<|yR (xK (dir:=dir) (aF.old h c) hf hbu hbt) fun p q B r l=>?_
 refine aZ (ub l k) fun a=>Rt 5 a<|Rt 6 a<|Rt 7 a<|Rt 8 a<|re<|tn<|rt<|rr (.tuple #[p,.int .i64 q])<|?_
 exact⟨_,_,rfl,r.wk c.size,(aD c l)⟩
theorem ow{m:Bool}{x:SL}{M:aT}{w:World}{dir u t:Int}(h:aF m w (iE M x).toList M)(hf:aW M)(hbu:0≤u∧u<256)(hbt:0≤t∧t<65536) : Calls Tryz.prog 209 #[.int .i64 dir,.agg (eK u t M x)] w (uy (ei dir u t M) w):=by
  cases hX:ei dir u t M with
  | none =>
    refine(mz hX h hf hbu hbt).mono ?_
    rintro e w' ⟨rfl,hu⟩
    exact⟨_,_,rfl,⟨rfl,rfl⟩,hu⟩
  | some l =>
    refine(mL hX h hf hbu hbt).mono ?_
    rintro e w' ⟨v,rfl,ho,hu⟩
    exact⟨_,_,rfl,⟨rfl,gD.of ho⟩,hu⟩
theorem wZ{m:Bool}{x:SL}{M:aT}{w:World}{dir u t:Int}(h:aF m w (iE M x).toList M)(hf:aW M)(hbu:0≤u∧u<256)(hbt:0≤t∧t<65536) : Calls Tryz.prog 208 #[.agg #[],.int .i64 dir,.agg (eK u t M x)] w (uy (ei dir u t M) w):=by
 refine en 13 Tryz.func208 rfl<|sg<|L0<|cI #[] fun j k l n b=>L0<|cI (eK u t M x) fun o p q c d=>Pl 2<|ng<|Pl 1<|L0<|cj c<|?_
 have a:=aD b d
 refine L0<|Oc<|yR (ow (dir:=dir) (aF.old h a) hf hbu hbt) fun e f r g i=>Pl 4<|nt<|rt<|rr (.tuple #[e,.int .i64 f])<|?_
 exact⟨_,_,rfl,g.wk a.size,(aD a i)⟩
theorem pp{m:Bool}{x:SL}{M:aT}{w:World}{dir u t:Int}(h:aF m w (iE M x).toList M)(hf:aW M)(hbu:0≤u∧u<256)(hbt:0≤t∧t<65536) : Calls Tryz.prog 18 #[.int .i64 2,.int .i64 dir,.agg (eK u t M x)] w (uy (ei dir u t M) w):=by
 refine en 15 Tryz.func18 rfl<|sg<|L0<|cI (eK u t M x) fun d s v n o=>Pl 2<|nt<|sq<|Rg 9 (fun w'=>w'.heap[d]? = some (.cells (eK u t M x) 33 (0,0))) fun y e=>?_
 have i:=ub e n
 refine aZ i fun b=>Rt 0 b<|Rt 2 b<|Rr 3 b (.agg (eK u t M x)) (fun w' hs=>gJ (g:=d) (off:=0) [.int .u8 u,.int .u16 t,.int .u8 M.code,.int .u8 M.fail,.int .u16 M.addr,.int .u16 M.count,.int .u16 M.value,.int .u16 M.and_,.int .u16 M.or_,.int .u16 M.addr2,.int .u16 M.sub,.int .u16 M.status,.int .u16 M.events,.int .u16 M.messages,.slice x.aw M.words.length x.kw,.slice x.ab M.bits.length x.kb,.slice x.ad M.data.length x.kd,.slice x.ar M.recs.length x.kr,.int .u8 M.mei,.int .u8 M.kind,.int .u8 M.level,.int .u8 M.more,.int .u8 M.next,.slice x.ao M.objects.length x.ko] rfl (by kernel_rfl) hs (by kernel_rfl) (by kernel_rfl) rfl)<|R0 1 rfl<|Oc<|m1 (rP) fun z j=>?_
 have k:=ub j i
 refine aZ k fun A=>?_
 have c:=aD o (aD e j)
 refine R0 4 rfl<|rp (f:=208) (args:=#[.agg #[],.int .i64 dir,.agg (eK u t M x)]) 124 (.agg #[]) (.agg #[])<|yR (wZ (dir:=dir) (aF.old h c) hf hbu hbt) fun p q B r l=>?_
 refine aZ (ub l k) fun a=>Rt 5 a<|Rt 6 a<|Rt 7 a<|Rt 8 a<|re<|tn<|rt<|rr (.tuple #[p,.int .i64 q])<|?_
 exact⟨_,_,rfl,r.wk c.size,(aD c l)⟩
theorem xV{m:Bool}{x:SL}{M:aT}{w:World}{dir u t:Int}(h:aF m w (iE M x).toList M)(hf:aW M)(hbu:0≤u∧u<256)(hbt:0≤t∧t<65536) : Calls Tryz.prog 212 #[.agg #[],.int .i64 dir,.agg (eK u t M x)] w (uy (none) w):=by
 refine en 8 Tryz.func212 rfl<|sg<|L0<|cI #[] fun c d e f a=>L0<|cI (eK u t M x) fun g i j k b=>Pl 2<|ng<|Pl 2<|nt<|rt<|?_
 refine rr (.tuple #[.slice none 0 0,.int .i64 1])<|?_
 exact⟨_,_,rfl,⟨rfl,rfl⟩,(aD a b)⟩
theorem rq{m:Bool}{x:SL}{M:aT}{w:World}{dir u t:Int}(h:aF m w (iE M x).toList M)(hf:aW M)(hbu:0≤u∧u<256)(hbt:0≤t∧t<65536){k:Int}(h0:(k==0)=false)(h1:(k==1)=false)(h2:(k==2)=false) : Calls Tryz.prog 18 #[.int .i64 k,.int .i64 dir,.agg (eK u t M x)] w (uy (none) w):=by
 refine en 15 Tryz.func18 rfl<|sg<|L0<|cI (eK u t M x) fun d v y o p=>Pl 2<|nt<|sq<|Rg 9 (fun w'=>w'.heap[d]? = some (.cells (eK u t M x) 33 (0,0))) fun z e=>?_
 have i:=ub e o
 refine aZ i fun b=>Rt 0 b<|Rt 2 b<|Rr 3 b (.agg (eK u t M x)) (fun w' hs=>gJ (g:=d) (off:=0) [.int .u8 u,.int .u16 t,.int .u8 M.code,.int .u8 M.fail,.int .u16 M.addr,.int .u16 M.count,.int .u16 M.value,.int .u16 M.and_,.int .u16 M.or_,.int .u16 M.addr2,.int .u16 M.sub,.int .u16 M.status,.int .u16 M.events,.int .u16 M.messages,.slice x.aw M.words.length x.kw,.slice x.ab M.bits.length x.kb,.slice x.ad M.data.length x.kd,.slice x.ar M.recs.length x.kr,.int .u8 M.mei,.int .u8 M.kind,.int .u8 M.level,.int .u8 M.more,.int .u8 M.next,.slice x.ao M.objects.length x.ko] rfl (by kernel_rfl) hs (by kernel_rfl) (by kernel_rfl) rfl)<|R0 1 rfl<|Oc<|m1 (rG h0 h1 h2) fun A j=>?_
 have l:=ub j i
 refine aZ l fun B=>?_
 have c:=aD p (aD e j)
 refine R0 4 rfl<|rp (f:=212) (args:=#[.agg #[],.int .i64 dir,.agg (eK u t M x)]) 125 (.agg #[]) (.agg #[])<|yR (xV (dir:=dir) (aF.old h c) hf hbu hbt) fun q r C s n=>?_
 refine aZ (ub n l) fun a=>Rt 5 a<|Rt 6 a<|Rt 7 a<|Rt 8 a<|re<|tn<|rt<|rr (.tuple #[q,.int .i64 r])<|?_
 exact⟨_,_,rfl,s.wk c.size,(aD c n)⟩
theorem mj{k:Int}{m:Bool}{x:SL}{M:aT}{w:World}{dir u t:Int}(h:aF m w (iE M x).toList M)(hf:aW M)(hbu:0≤u∧u<256)(hbt:0≤t∧t<65536) : Calls Tryz.prog 18 #[.int .i64 k,.int .i64 dir,.agg (eK u t M x)] w (uy (jj k dir u t M) w):=by
  refine k4 k (fun e=>?_) (fun e=>?_) (fun e=>?_) (fun h0 h1 h2=>?_)
  · subst e;exact qg h hf hbu hbt
  · subst e;exact qK h hf hbu hbt
  · subst e;exact pp h hf hbu hbt
  · rw[vX h0 h1 h2];exact rq h hf hbu hbt h0 h1 h2
theorem fz{k:Int}{m:Bool}{x:SL}{M:aT}{w:World}{dir u t:Int}(h:aF m w (iE M x).toList M)(hf:aW M)(hbu:0≤u∧u<256)(hbt:0≤t∧t<65536)(hX:jj k dir u t M=none) : Calls Tryz.prog 18 #[.int .i64 k,.int .i64 dir,.agg (eK u t M x)] w (fun e w'=>e = .returned (.tuple #[.slice none 0 0,.int .i64 1])∧ay [] w w'):=by
  refine(mj h hf hbu hbt).mono ?_
  rw[hX]
  rintro e w' ⟨v,n,rfl,⟨rfl,rfl⟩,hu⟩
  exact⟨rfl,hu⟩
theorem fp{k:Int}{m:Bool}{x:SL}{M:aT}{w:World}{dir u t:Int}{l:List Int}(h:aF m w (iE M x).toList M)(hf:aW M)(hbu:0≤u∧u<256)(hbt:0≤t∧t<65536)(hX:jj k dir u t M=some l) : Calls Tryz.prog 18 #[.int .i64 k,.int .i64 dir,.agg (eK u t M x)] w (fun e w'=>∃ v,e = .returned (.tuple #[v,.int .i64 0])∧gD w.heap.size w' v l∧ay [] w w'):=by
  refine(mj h hf hbu hbt).mono ?_
  rw[hX]
  rintro e w' ⟨v,n,rfl,⟨rfl,ho⟩,hu⟩
  exact⟨v,rfl,ho,hu⟩
open Go.RowKit
theorem cC.apt{n base g c:Nat}{w:World}{A:Option Addr}{S:XS}(h:cC n base w g A c S){k:Nat}(hk:k≤n) : tq k (g :: (ob A++[])) w:=by
  obtain⟨t,cs,fr,q,h1,_⟩:=h.cells
  exact eP q h1 (gP (qx hk h.low) bO)
theorem yK{d:Int}(hd:d=0∨d=1) : ((d != 0)&&(d != 1))=false:=by rcases hd with rfl | rfl<;>rfl
theorem cF.old0{n base g c:Nat}{w w':World}{A:Option Addr}{S:SS}(h:cF n base w g A c S)(hu:ay [] w w') : cF n base w' g A c S:=h.upd hu (by simp) (fun x _=>by simp)
theorem cF.weak{n n' g:Nat}{w:World}{S:SS}{c:Nat}(h:cF n n w g none c S)(hn:n'≤n) : cF n' n' w g none c S:=by
  obtain⟨h1,h2,h3,h4,h5⟩:=h
  exact⟨h1,aL.weaken h2 hn,Nat.le_trans hn h3,cJ,Nat.le_trans hn h5⟩
theorem tF{w:World}{d:Int}(hd:d=0∨d=1) : Calls Tryz.prog 29 #[.int .i64 0,.int .i64 d] w (fun e w'=>∃ s g,e = .returned (.pointer (some ⟨s,0,none⟩))∧w.heap.size≤s∧w.heap.size≤g∧b9 w.heap.size w.heap.size w' s g none 0 (XS.zero 0 d)∧ay [] w w'):=by
 refine en 36 Tryz.func29 rfl<|sg<|Pl 1<|nt<|sq<|sg<|Pl 1<|L0<|Oc<|m1 (gN (k:=0)) fun q b=>Pl 5<|cu 3 [11] 14 (((d != 0)&&(d != 1))) (fun K c=>?_) ?_
 refine bl 11 ((d != 0)) (fun a=>?_) (fun a=>?_)
 have l:=aB a
 exact Pl 3<|ce c (d != 1) (by rw[a];rfl)
 have l:=ah a
 exact Pl 3<|ce c false (by rw[a];rfl)
 refine Pl 1<|nt<|cf (yK hd)<|bK<|sq<|sg<|Pl 1<|nt<|bk<|sq<|?_
 refine go<|Pl 2<|nt<|c1<|sg<|Pl 1<|L0<|Oc<|e3 (wV hd) fun f t m n h=>Pl 2<|L0<|cI #[.iface 95 (.pointer (some ⟨f,0,none⟩))] fun i u o p j=>Pl 1<|nt<|?_
 refine rt<|br<|tr<|rr (.pointer (some ⟨i,0,none⟩))<|?_
 exact⟨i,f,rfl,(Nat.le_trans (le b.size h.size) o),(Nat.le_trans b.size m),⟨p,(show cC _ _ _ _ _ _ (XS.r _) from((cF.old0 n j)).weak b.size)⟩,(aD b (aD h j))⟩
theorem vS{w:World}{d:Int}(hd:d=0∨d=1) : Calls Tryz.prog 47 #[.int .i64 d] w (fun e w'=>∃ g,e = .returned (.pointer (some ⟨g,0,none⟩))∧w.heap.size≤g∧cZ w.heap.size w.heap.size w' g none 0 ⟨d,[]⟩∧ay [] w w'):=by
  rcases hd with rfl|rfl
  · exact rW 0 tf
  · exact rW 1 uh
theorem cZ.old0{n base g c:Nat}{w w':World}{A:Option Addr}{S:SA}(h:cZ n base w g A c S)(hu:ay [] w w') : cZ n base w' g A c S:=h.upd hu (by simp) (fun x _=>by simp)
theorem cZ.weak{n n' g:Nat}{w:World}{S:SA}{c:Nat}(h:cZ n n w g none c S)(hn:n'≤n) : cZ n' n' w g none c S:=by
  obtain⟨h1,h2,h6,h3,h4,h5⟩:=h
  exact⟨h1,aL.weaken h2 hn,h6,Nat.le_trans hn h3,cJ,Nat.le_trans hn h5⟩
theorem sE{w:World}{d:Int}(hd:d=0∨d=1) : Calls Tryz.prog 29 #[.int .i64 1,.int .i64 d] w (fun e w'=>∃ s g,e = .returned (.pointer (some ⟨s,0,none⟩))∧w.heap.size≤s∧w.heap.size≤g∧b9 w.heap.size w.heap.size w' s g none 0 (XS.zero 1 d)∧ay [] w w'):=by
 refine en 36 Tryz.func29 rfl<|sg<|Pl 1<|nt<|sq<|sg<|Pl 1<|L0<|Oc<|m1 (gN (k:=1)) fun r c=>Pl 5<|cu 3 [11] 14 (((d != 0)&&(d != 1))) (fun K f=>?_) ?_
 refine bl 11 ((d != 0)) (fun b=>?_) (fun b=>?_)
 have m:=aB b
 exact Pl 3<|ce f (d != 1) (by rw[b];rfl)
 have m:=ah b
 exact Pl 3<|ce f false (by rw[b];rfl)
 refine Pl 1<|nt<|cf (yK hd)<|bK<|sq<|sg<|Pl 1<|nt<|bk<|sq<|?_
 refine go<|Pl 2<|nt<|c0<|sg<|Pl 2<|nt<|c1<|sg<|Pl 1<|L0<|Oc<|e3 (vS hd) fun h t n o i=>?_
 refine Pl 2<|L0<|cI #[.iface 101 (.pointer (some ⟨h,0,none⟩))] fun j u p q l=>Pl 1<|nt<|rt<|br<|tr<|rr (.pointer (some ⟨j,0,none⟩))<|?_
 exact⟨j,h,rfl,(Nat.le_trans (le c.size i.size) p),(Nat.le_trans c.size n),⟨q,(show cC _ _ _ _ _ _ (XS.a _) from((cZ.old0 o l)).weak c.size)⟩,(aD c (aD i l))⟩
theorem ve{w:World}{d:Int}(hd:d=0∨d=1) : Calls Tryz.prog 48 #[.int .i64 d] w (fun e w'=>∃ g,e = .returned (.pointer (some ⟨g,0,none⟩))∧w.heap.size≤g∧cX w.heap.size w.heap.size w' g none 0 ⟨d,[],0⟩∧ay [] w w'):=by
  rcases hd with rfl|rfl
  · exact rD 0 qL
  · exact rD 1 ql
theorem cX.old0{n base g c:Nat}{w w':World}{A:Option Addr}{S:SM}(h:cX n base w g A c S)(hu:ay [] w w') : cX n base w' g A c S:=h.upd hu (by simp) (fun x _=>by simp)
theorem cX.weak{n n' g:Nat}{w:World}{S:SM}{c:Nat}(h:cX n n w g none c S)(hn:n'≤n) : cX n' n' w g none c S:=by
  obtain⟨h1,h2,h6,h3,h4,h5⟩:=h
  exact⟨h1,aL.weaken h2 hn,h6,Nat.le_trans hn h3,cJ,Nat.le_trans hn h5⟩
theorem tt{w:World}{d:Int}(hd:d=0∨d=1) : Calls Tryz.prog 29 #[.int .i64 2,.int .i64 d] w (fun e w'=>∃ s g,e = .returned (.pointer (some ⟨s,0,none⟩))∧w.heap.size≤s∧w.heap.size≤g∧b9 w.heap.size w.heap.size w' s g none 0 (XS.zero 2 d)∧ay [] w w'):=by
 refine en 36 Tryz.func29 rfl<|sg<|Pl 1<|nt<|sq<|sg<|Pl 1<|L0<|Oc<|m1 (gN (k:=2)) fun r b=>Pl 5<|cu 3 [11] 14 (((d != 0)&&(d != 1))) (fun K c=>?_) ?_
 refine bl 11 ((d != 0)) (fun a=>?_) (fun a=>?_)
 have l:=aB a
 exact Pl 3<|ce c (d != 1) (by rw[a];rfl)
 have l:=ah a
 exact Pl 3<|ce c false (by rw[a];rfl)
 refine Pl 1<|nt<|cf (yK hd)<|bK<|sq<|sg<|Pl 1<|nt<|bk<|sq<|?_
 refine go<|Pl 2<|nt<|c0<|sg<|Pl 2<|nt<|c0<|sk<|bn<|tn<|?_
 refine sg<|Pl 1<|L0<|Oc<|e3 (ve hd) fun f t n o h=>Pl 2<|L0<|cI #[.iface 103 (.pointer (some ⟨f,0,none⟩))] fun i u p q j=>Pl 1<|nt<|rt<|rr (.pointer (some ⟨i,0,none⟩))<|?_
 exact⟨i,f,rfl,(Nat.le_trans (le b.size h.size) p),(Nat.le_trans b.size n),⟨q,(show cC _ _ _ _ _ _ (XS.m _) from((cX.old0 o j)).weak b.size)⟩,(aD b (aD h j))⟩
theorem mE{w:World}{k:Int}(hk:k=0∨k=1∨k=2){d:Int}(hd:d=0∨d=1) : Calls Tryz.prog 29 #[.int .i64 k,.int .i64 d] w (fun e w'=>∃ s g,e = .returned (.pointer (some ⟨s,0,none⟩))∧w.heap.size≤s∧w.heap.size≤g∧b9 w.heap.size w.heap.size w' s g none 0 (XS.zero k d)∧ay [] w w'):=by
  rcases hk with rfl|rfl|rfl
  · exact tF hd
  · exact sE hd
  · exact tt hd
theorem pL{w:World}{n base s g c:Nat}{A B:Option Addr}{cpb:Nat}{S:SS}{m t:Bool}{b:List Int}(h:b9 n base w s g A c (.r S))(hsl:aS m w (.slice B b.length cpb) b)(hdg:0<b.length→∀ x,x∈ob B→x≠g)(hda:lD b.length B (ob A))(hbl:b.length≤1048576) :
    Calls Tryz.prog 31 #[.pointer (some ⟨s,0,none⟩),.agg #[.slice B b.length cpb,.bool t]] w (AW n base (XS.take (.r S) b t).1 (XS.take (.r S) b t).2 s g A w):=by
 have hzb:=aR.len hsl
 have hz1:(S.feed b).2.length≤1:=SS.feed_le (S:=S) (b:=b) rfl
 have hz2:(S.feed b).1.tick.2.length≤1:=SS.tick_le (S:=(S.feed b).1) rfl
 refine en 33 Tryz.func31 rfl<|sg<|L0<|cI #[.slice B b.length cpb,.bool t] fun O a3 C P Q=>Pl 1<|nt<|sq<|Rg 8 (fun w'=>w'.cell? ⟨s,0,none⟩=some (.iface 95 (.pointer (some ⟨g,0,none⟩)))∧w'.cell? ⟨O,0,none⟩=some (.slice B b.length cpb)) fun a4 D=>?_
 have a:=aD Q D
 have p:=ub a h.1
 have E:=ub D P
 refine aZ ⟨(aa p rfl),(aa E rfl)⟩ fun i=>Rt 0 i<|Rt 1 i<|Rt 2 i<|Rl 3 i (fun _ hs=>hs.1)<|Rt 4 i<|Rl 5 i (fun _ hs=>hs.2)<|?_
 refine R0 6 rfl<|rp (f:=157) (args:=#[.pointer (some ⟨g,0,none⟩),.slice B b.length cpb]) 95 (.pointer (some ⟨g,0,none⟩)) (.pointer (some ⟨g,0,none⟩))<|?_
 refine(tI (cC.upd h.2 a az (fun x hx=>az)) (aS.old hsl a) hbl).mono ?_
 rintro _ a5 ⟨a6,F,a7,a8,rfl,T,j,u,G,k⟩
 refine⟨_,rfl,?_⟩
 have d:=T
 obtain⟨H,U,rfl,a9,ab⟩:=aR.shape d.rd
 have l:=ay.blk k (ae h.sg (aH (bB p (ak (cC.row h.2) a (fun x hx=>az) (fun _ _ h=>h)) (by decide)) az)) p
 have I:=ay.blk k (ae (Ne.symm (nb (cC.lt h.2) lr C)) (aH (cU (cC.row h.2) lr C) az)) E
 refine aZ ⟨(aa l rfl),(aa I rfl)⟩ fun V=>Rt 7 V<|re<|tn<|sq<|sg<|Pl 3<|L0<|aP l 0<|L0<|C5 95 (.pointer (some ⟨g,0,none⟩)) (.tuple #[.iface 95 (.pointer (some ⟨g,0,none⟩)),.bool true])<|Pl 5<|nt<|sq<|?_
 refine go<|Pl 3<|L1<|aP I 1<|Pl 1<|nt<|?_
 have J:=ut (ay.mono (S':=(g :: (ob A++[]))) a au) k (ac im (ai il au))
 refine cb (t) (fun v=>?_) (fun v=>?_)
 refine go<|Pl 2<|L0<|rp (f:=159) (args:=#[.pointer (some ⟨g,0,none⟩)]) 95 (.pointer (some ⟨g,0,none⟩)) (.pointer (some ⟨g,0,none⟩))<|?_
 refine(th j).mono ?_
 rintro _ ad ⟨af,W,ag,X,rfl,Y,y,Z,K,o⟩
 refine⟨_,rfl,?_⟩
 have L:=Y
 obtain⟨ah,aj,rfl,al,an⟩:=aR.shape L.rd
 have z:=ak d o (fun x hx=>(ae (fun e=>(aC (cC.lt h.2) a.size d) (e▸hx)) (aH ((cT d (cC.row j) (by decide)) x hx) az))) (fun x cs q=>bo.upd o (cC.apt j (Nat.le_refl _)) q)
 refine L0<|jC (R:=bo X) (xs:=((S.feed b).2)) (ys:=((S.feed b).1.tick.2)) (.agg #[.int .i64 0,.int .u8 0,.int .u16 0,.int .u8 0,.int .u8 0,.int .u16 0,.int .u16 0,.int .u16 0,.int .u16 0,.int .u16 0,.int .u16 0,.int .u16 0,.int .u16 0,.int .u16 0,.int .u16 0,.slice none 0 0,.slice none 0 0,.slice none 0 0,.slice none 0 0,.int .u8 0,.int .u8 0,.int .u8 0,.int .u8 0,.int .u8 0,.slice none 0 0]) 25 168 (dv.up K (y.nle) z) (L).rd bo.ones (fun w' hv x cs q=>bo.upd hv (iW z (by decide) bO) q) (by omega) (le k.size o.size) fun a0 a1 ao a2 M ap=>Pl 1<|ng<|Pl 2<|nt<|rt<|rr (.slice a0 (((S.feed b).2++(S.feed b).1.tick.2).length) a1)<|?_
 have hs:XS.take (.r S) b t=(.r (S.feed b).1.tick.1,(S.feed b).2++(S.feed b).1.tick.2):=by unfold XS.take;rw[v];rfl
 rw[hs]
 have hat0:∀ x,x∈ob W→x∈ob A∨w.heap.size≤x:=fun x hx=>((fun x hx=>j4 Z u k.size x hx) x hx).imp id (Nat.le_trans a.size)
 have N:=ut (ay.mono (S':=(g :: (ob F++(ob H++[])))) o (ac im (ai il au))) M (ai il au)
 exact⟨_,_,_,_,rfl,aL.weaken a2 a.size,⟨(ay.blk N (ae h.sg (aH (bB l (cC.row j) (by decide)) (aH (aC (am h.1) a.size d) az))) l),(cC.upd y M (aH (aC (cC.lt h.2) a.size d) az) (fun x hx=>(aH ((cT (cC.row y) z (by decide)) x hx) az)))⟩,hat0,Nat.le_trans G K,(ay.mono (S':=g :: (ob A++[])) (ut J N (ac im (ai (jM u il a.size) (ai (aI d a.size) au)))) (ac im (ai il au)))⟩
 refine bK<|sg<|Pl 2<|nt<|rt<|rr (.slice H (((S.feed b).2).length) U)<|?_
 have hs:XS.take (.r S) b t=(.r (S.feed b).1,(S.feed b).2):=by unfold XS.take;rw[v];rfl
 rw[hs]
 have hat0:∀ x,x∈ob F→x∈ob A∨w.heap.size≤x:=fun x hx=>((fun x hx=>u x hx) x hx).imp id (Nat.le_trans a.size)
 exact⟨_,_,_,_,rfl,aL.weaken d a.size,⟨l,j⟩,hat0,G,(ay.mono (S':=g :: (ob A++[])) J (ac im (ai il au)))⟩
theorem qt{w:World}{n base s g c:Nat}{A B:Option Addr}{cpb:Nat}{S:SA}{m t:Bool}{b:List Int}(h:b9 n base w s g A c (.a S))(hsl:aS m w (.slice B b.length cpb) b)(hdg:0<b.length→∀ x,x∈ob B→x≠g)(hda:lD b.length B (ob A))(hbl:b.length≤1048576) :
    Calls Tryz.prog 31 #[.pointer (some ⟨s,0,none⟩),.agg #[.slice B b.length cpb,.bool t]] w (AW n base (XS.take (.a S) b t).1 (XS.take (.a S) b t).2 s g A w):=by
 have hzb:=aR.len hsl
 refine en 33 Tryz.func31 rfl<|sg<|L0<|cI #[.slice B b.length cpb,.bool t] fun r I l u v=>Pl 1<|nt<|sq<|Rg 8 (fun w'=>w'.cell? ⟨s,0,none⟩=some (.iface 101 (.pointer (some ⟨g,0,none⟩)))∧w'.cell? ⟨r,0,none⟩=some (.slice B b.length cpb)) fun J o=>?_
 have d:=aD v o
 have i:=ub d h.1
 have p:=ub o u
 refine aZ ⟨(aa i rfl),(aa p rfl)⟩ fun e=>Rt 0 e<|Rt 1 e<|Rt 2 e<|Rl 3 e (fun _ hs=>hs.1)<|Rt 4 e<|Rl 5 e (fun _ hs=>hs.2)<|?_
 refine R0 6 rfl<|rp (f:=168) (args:=#[.pointer (some ⟨g,0,none⟩),.slice B b.length cpb]) 101 (.pointer (some ⟨g,0,none⟩)) (.pointer (some ⟨g,0,none⟩))<|?_
 refine(sI (cC.upd h.2 d az (fun x hx=>az)) (aS.old hsl d) hdg hda hbl).mono ?_
 rintro _ K ⟨L,y,M,N,rfl,z,C,D,E,j⟩
 refine⟨_,rfl,?_⟩
 have q:=z
 obtain⟨F,G,rfl,O,P⟩:=aR.shape q.rd
 have k:=ay.blk j (ae h.sg (aH (bB i (ak (cC.row h.2) d (fun x hx=>az) (fun _ _ h=>h)) (by decide)) az)) i
 refine aZ ⟨(aa k rfl),(aa (ay.blk j (ae (Ne.symm (nb (cC.lt h.2) lr l)) (aH (cU (cC.row h.2) lr l) az)) p) rfl)⟩ fun H=>Rt 7 H<|re<|tn<|sq<|sg<|Pl 3<|L0<|aP k 0<|L0<|BS 101 (.pointer (some ⟨g,0,none⟩)) .nilIface<|Pl 5<|nt<|sq<|?_
 refine go<|Pl 5<|nt<|c0<|bK<|sg<|Pl 2<|nt<|rt<|rr (.slice F (((S.feed b).2).length) G)<|?_
 have hs:XS.take (.a S) b t=(.a (S.feed b).1,(S.feed b).2):=by unfold XS.take;cases t;rfl;show(_,(S.feed b).2++[])=_;rw[List.append_nil];rfl
 rw[hs]
 have hat0:∀ x,x∈ob y→x∈ob A∨w.heap.size≤x:=fun x hx=>((fun x hx=>D x hx) x hx).imp id (Nat.le_trans d.size)
 exact⟨_,_,_,_,rfl,aL.weaken q d.size,⟨k,C⟩,hat0,E,(ay.mono (S':=g :: (ob A++[])) (ut (ay.mono (S':=(g :: (ob A++[]))) d au) j (ac im (ai il au))) (ac im (ai il au)))⟩
theorem qS{w:World}{n base s g c:Nat}{A B:Option Addr}{cpb:Nat}{S:SM}{m t:Bool}{b:List Int}(h:b9 n base w s g A c (.m S))(hsl:aS m w (.slice B b.length cpb) b)(hdg:0<b.length→∀ x,x∈ob B→x≠g)(hda:lD b.length B (ob A))(hbl:b.length≤1048576) :
    Calls Tryz.prog 31 #[.pointer (some ⟨s,0,none⟩),.agg #[.slice B b.length cpb,.bool t]] w (AW n base (XS.take (.m S) b t).1 (XS.take (.m S) b t).2 s g A w):=by
 have hzb:=aR.len hsl
 refine en 33 Tryz.func31 rfl<|sg<|L0<|cI #[.slice B b.length cpb,.bool t] fun q H k r u=>Pl 1<|nt<|sq<|Rg 8 (fun w'=>w'.cell? ⟨s,0,none⟩=some (.iface 103 (.pointer (some ⟨g,0,none⟩)))∧w'.cell? ⟨q,0,none⟩=some (.slice B b.length cpb)) fun I l=>?_
 have a:=aD u l
 have e:=ub a h.1
 have o:=ub l r
 refine aZ ⟨(aa e rfl),(aa o rfl)⟩ fun d=>Rt 0 d<|Rt 1 d<|Rt 2 d<|Rl 3 d (fun _ hs=>hs.1)<|Rt 4 d<|Rl 5 d (fun _ hs=>hs.2)<|?_
 refine R0 6 rfl<|rp (f:=184) (args:=#[.pointer (some ⟨g,0,none⟩),.slice B b.length cpb]) 103 (.pointer (some ⟨g,0,none⟩)) (.pointer (some ⟨g,0,none⟩))<|?_
 refine(sO (cC.upd h.2 a az (fun x hx=>az)) (aS.old hsl a) hdg hda hbl).mono ?_
 rintro _ J ⟨K,v,L,M,rfl,y,z,C,D,i⟩
 refine⟨_,rfl,?_⟩
 have p:=y
 obtain⟨E,F,rfl,N,O⟩:=aR.shape p.rd
 have j:=ay.blk i (ae h.sg (aH (bB e (ak (cC.row h.2) a (fun x hx=>az) (fun _ _ h=>h)) (by decide)) az)) e
 refine aZ ⟨(aa j rfl),(aa (ay.blk i (ae (Ne.symm (nb (cC.lt h.2) lr k)) (aH (cU (cC.row h.2) lr k) az)) o) rfl)⟩ fun G=>Rt 7 G<|re<|tn<|sq<|sg<|Pl 3<|L0<|aP j 0<|L0<|BS 103 (.pointer (some ⟨g,0,none⟩)) .nilIface<|Pl 5<|nt<|sq<|?_
 refine go<|Pl 5<|nt<|c0<|bK<|sg<|Pl 2<|nt<|rt<|rr (.slice E (((S.feed b).2).length) F)<|?_
 have hs:XS.take (.m S) b t=(.m (S.feed b).1,(S.feed b).2):=by unfold XS.take;cases t;rfl;show(_,(S.feed b).2++[])=_;rw[List.append_nil];rfl
 rw[hs]
 have hat0:∀ x,x∈ob v→x∈ob A∨w.heap.size≤x:=fun x hx=>((fun x hx=>C x hx) x hx).imp id (Nat.le_trans a.size)
 exact⟨_,_,_,_,rfl,aL.weaken p a.size,⟨j,z⟩,hat0,D,(ay.mono (S':=g :: (ob A++[])) (ut (ay.mono (S':=(g :: (ob A++[]))) a au) i (ac im (ai il au))) (ac im (ai il au)))⟩
theorem la{w:World}{n base s g c nb:Nat}{A B:Option Addr}{cpb:Nat}{S S2:XS}{L:List Ev}{m t:Bool}{b:List Int}(hX:S.take b t=(S2,L))(h:b9 n base w s g A c S)(hsl:aS m w (.slice B nb cpb) b)(hdg:0<nb→∀ x,x∈ob B→x≠g)(hda:lD nb B (ob A))(hbl:b.length≤1048576) :
    Calls Tryz.prog 31 #[.pointer (some ⟨s,0,none⟩),.agg #[.slice B nb cpb,.bool t]] w (AW n base S2 L s g A w):=by
  obtain⟨_,_,e,_,_⟩:=hsl.shape
  injection e with e1 e2 e3
  subst e1 e2 e3
  have e1:S2=(S.take b t).1:=(congrArg Prod.fst hX).symm
  have e2:L=(S.take b t).2:=(congrArg Prod.snd hX).symm
  rw[e1,e2]
  cases S with
  | r S=>exact pL h hsl hdg hda hbl
  | a S=>exact qt h hsl hdg hda hbl
  | m S=>exact qS h hsl hdg hda hbl
theorem qq{w:World}{n base s g c:Nat}{A:Option Addr}{S:SS}(h:b9 n base w s g A c (.r S)) : Calls Tryz.prog 30 #[.pointer (some ⟨s,0,none⟩)] w (bv (.int .i64 ((S.held.length:Nat) : Int)) w):=by
 refine en 8 Tryz.func30 rfl<|sg<|Pl 1<|ng<|Pl 3<|L0<|aP h.1 0<|L0<|rp (f:=158) (args:=#[.pointer (some ⟨g,0,none⟩)]) 95 (.pointer (some ⟨g,0,none⟩)) (.pointer (some ⟨g,0,none⟩))<|m1 (wJ h.2) fun b a=>Pl 1<|nt<|?_
 refine rt<|rr (.int .i64 ((S.held.length:Nat) : Int))<|?_
 exact⟨rfl,a⟩
theorem qQ{w:World}{n base s g c:Nat}{A:Option Addr}{S:SA}(h:b9 n base w s g A c (.a S)) : Calls Tryz.prog 30 #[.pointer (some ⟨s,0,none⟩)] w (bv (.int .i64 ((S.held.length:Nat) : Int)) w):=by
 refine en 8 Tryz.func30 rfl<|sg<|Pl 1<|ng<|Pl 3<|L0<|aP h.1 0<|L0<|rp (f:=169) (args:=#[.pointer (some ⟨g,0,none⟩)]) 101 (.pointer (some ⟨g,0,none⟩)) (.pointer (some ⟨g,0,none⟩))<|m1 (wH h.2) fun d b=>Pl 1<|nt<|?_
 refine rt<|rr (.int .i64 ((S.held.length:Nat) : Int))<|?_
 exact⟨rfl,b⟩
theorem pu{w:World}{n base s g c:Nat}{A:Option Addr}{S:SM}(h:b9 n base w s g A c (.m S)) : Calls Tryz.prog 30 #[.pointer (some ⟨s,0,none⟩)] w (bv (.int .i64 ((S.held.length:Nat) : Int)) w):=by
 refine en 8 Tryz.func30 rfl<|sg<|Pl 1<|ng<|Pl 3<|L0<|aP h.1 0<|L0<|rp (f:=185) (args:=#[.pointer (some ⟨g,0,none⟩)]) 103 (.pointer (some ⟨g,0,none⟩)) (.pointer (some ⟨g,0,none⟩))<|m1 (uS h.2) fun b a=>Pl 1<|nt<|?_
 refine rt<|rr (.int .i64 ((S.held.length:Nat) : Int))<|?_
 exact⟨rfl,a⟩
theorem gE{w:World}{n base s g c:Nat}{A:Option Addr}{S:XS}(h:b9 n base w s g A c S) : Calls Tryz.prog 30 #[.pointer (some ⟨s,0,none⟩)] w (bv (.int .i64 ((S.held.length:Nat) : Int)) w):=by
  cases S with
  | r S=>exact qq h
  | a S=>exact qQ h
  | m S=>exact pu h
open Go.RowKit
def gM:List (List Int)→Nat
  | []=>0
  | x :: t=>x.length+gM t
def gt (ls:List (List Int)) : Bool:=decide (ls.length≤60)&&decide (gM ls≤3000)
theorem kj(a b:List (List Int)) : gM (a++b)=gM a+gM b:=by
  induction a with
  | nil=>simp[gM]
  | cons x t ih=>simp only[List.cons_append,gM,ih];omega
theorem tP{ls:List (List Int)}{k:Nat}(hk:k<ls.length) : ls.take (k+1)=ls.take k++[ls.getD k []]:=by
  rw[List.take_succ_eq_append_getElem hk,List.getD_eq_getElem?_getD,List.getElem?_eq_getElem hk]
  rfl
theorem lN{ls:List (List Int)}{k:Nat}(hk:k<ls.length) : gM (ls.take (k+1))=gM (ls.take k)+(ls.getD k []).length:=by
  rw[tP hk,kj]
  rfl
theorem rM{ls:List (List Int)}(hb:∀ x,x∈ls→x.length≤140737488355328) : ∀ k,k≤ls.length→gM (ls.take k)≤k*140737488355328
  | 0,_=>by simp[gM]
  | k+1,h=>by
    rw[lN (by omega)]
    have h1:=rM hb k (by omega)
    have h2:(ls.getD k []).length≤140737488355328:=by
      rw[List.getD_eq_getElem?_getD,List.getElem?_eq_getElem (by omega)]
      exact hb _ (List.getElem_mem _)
    rw[Nat.succ_mul]
    omega
theorem pX{ls:List (List Int)}{k:Nat}{n:Int}(hb:∀ x,x∈ls→x.length≤140737488355328)(h:k≤60→n=(gM (ls.take k) : Nat))(hk:k<ls.length) : k+1≤60→IntKind.i64.wrap (n+(((ls.getD k []).length:Nat) : Int))=(gM (ls.take (k+1)) : Nat):=by
  intro a
  have h1:=rM hb (k+1) hk
  have h2:=lN hk
  rw[h (by omega),i64_in]
  · rw[h2];omega
  · omega
theorem lX{ls:List (List Int)}{k:Nat}{n:Int}(h:k≤60→n=(gM (ls.take k) : Nat))(hk:k=ls.length) : (decide ((ls.length:Int)≤60)&&decide (n≤3000))=gt ls:=by
  subst hk
  rw[List.take_length] at h
  unfold gt
  by_cases a:ls.length≤60
  · rw[h a]
    congr 1
    · rw[decide_eq_decide];omega
    · rw[decide_eq_decide];omega
  · rw[decide_eq_false a,decide_eq_false (by omega)];rfl
theorem sx{m:Bool}{A:Option Addr}{cp:Nat}{ls:List (List Int)}{w:World}(h:oH m w (.slice A ls.length cp) ls)(hbb:∀ x,x∈ls→x.length≤140737488355328) : Calls Tryz.prog 44 #[.slice A ls.length cp] w (bv (.bool (gt ls)) w):=by
 have hz:=aR.len h
 refine en 25 Tryz.func44 rfl<|sg<|Pl 1<|ng<|Pl 1<|nt<|sq<|sg<|?_
 refine Pl 1<|nt<|bk<|?_
 refine ie (fun x=>[(0,.slice A ls.length cp),(2,.bool false),(3,.int .i64 x.2),(4,.int .i64 ((x.1:Nat) : Int))]) (fun(x:Nat × Int) w'=>ay [] w w'∧(x.1≤ls.length)∧(x.1≤60→x.2=(gM (ls.take x.1) : Nat))) (fun x=>ls.length-x.1) (0,0) ⟨ay.refl _ _,(by(try dsimp only);omega),(by(try dsimp only);intro _;rfl)⟩ ?_
 rintro⟨k,n⟩ u ⟨c,f,g⟩
 refine ik [(0,.slice A ls.length cp),(2,.bool false),(3,.int .i64 n),(4,.int .i64 ((k:Nat) : Int))] ?_
 have y:k≤ls.length:=f
 have d:k≤60→n=(gM (ls.take k) : Nat):=g
 refine sq<|sg<|Pl 4<|nt<|cb ((decide (((k:Nat) : Int)<((ls.length:Nat) : Int)))) (fun b=>?_) (fun b=>?_)
 have i:=of_decide_eq_true b
 refine bK<|sq<|bk<|go<|Pl 3<|j8 (oH.elt h k (by omega)) fun j l o q r s z B C=>L0<|pn ls.length k r (by omega)<|L0<|lf (p:=⟨j,l+k,none⟩) (v:=.slice o ((ls.getD k []).length) q) (uc c s)<|Pl 3<|nl<|bn<|tn<|go<|?_
 exact Pl 1<|L0<|Oi (((k:Nat) : Int)+1)<|Pl 1<|nl<|ew ((k+1),(IntKind.i64.wrap (n+(((ls.getD k []).length:Nat) : Int)))) ⟨c,(by(try dsimp only);omega),(pX hbb d (by omega))⟩ (by omega)
 have i:=of_decide_eq_false b
 refine xt<|tx<|tx<|bx<|tn<|sg<|Pl 4<|cu 3 [21] 24 (((decide (((ls.length:Nat) : Int)≤60))&&(decide (n≤3000)))) (fun K e=>?_) ?_
 refine bl 21 ((decide (((ls.length:Nat) : Int)≤60))) (fun a=>?_) (fun a=>?_)
 have t:=of_decide_eq_true a
 exact Pl 3<|ce e (decide (n≤3000)) (by rw[a];rfl)
 have t:=of_decide_eq_false a
 exact Pl 3<|ce e false (by rw[a];rfl)
 refine Pl 1<|nt<|rt<|rr (.bool ((decide (((ls.length:Nat) : Int)≤60))&&(decide (n≤3000))))<|?_
 have hs:((decide (((ls.length:Nat) : Int)≤60))&&(decide (n≤3000)))=gt ls:=by first | exact lX d (by omega) | (rw[← lX d (by omega)];simp only[b,bs,if_true,if_false,decide_true,decide_false,Bool.true_and,Bool.false_and])
 rw[hs]
 exact⟨rfl,c⟩
open Go.RowKit
structure Pc where
  bytes:List Int
  tick:Bool
def Pc.z:Pc:=⟨[],false⟩
def pW (n:Nat)(w:World)(v:Value)(b:List Int) : Prop:=aS false w v b∧∀ A k c,v = .slice A k c→0<k→∀ x,x∈ob A→x<n
theorem pW.of{m:Bool}{w:World}{v:Value}{b:List Int}(h:aS m w v b) : pW w.heap.size w v b:=⟨aR.any h (fun _ _ q=>q),fun A k c e hk=>by subst e;exact aR.low h hk⟩
theorem pW.nil{n:Nat}{w:World}:pW n w (.slice none 0 0) []:=⟨aR.nil ..,fun A k c e hk=>by injection e with _ e;omega⟩
theorem pW.upd{n:Nat}{w w':World}{X:List Nat}{v:Value}{b:List Int}(hu:ay X w w')(hx:∀ x,x∈X→n≤x)(h:pW n w v b) : pW n w' v b:=by
  obtain⟨A,c,rfl,_,_⟩:=h.1.shape
  exact⟨aS.far h.1 hu fun hn x hxA hxX=>Nat.lt_irrefl _ (Nat.lt_of_lt_of_le (h.2 A _ _ rfl hn x hxA) (hx x hxX)),h.2⟩
def BP (m:Bool)(w:World)(p:Pc)(cs:List Value) : Prop:=∃ v,cs=[v,.bool p.tick]∧aS m w v p.bytes
def vf (n:Nat)(w:World)(p:Pc)(cs:List Value) : Prop:=∃ v,cs=[v,.bool p.tick]∧pW n w v p.bytes
def s4 (n:Nat)(w:World)(b:List Int)(cs:List Value) : Prop:=∃ v,cs=[v]∧pW n w v b
abbrev jO (m:Bool) (w:World) (v:Value) (ps:List Pc) : Prop:=aR m 53 2 (BP m) w v ps
abbrev Ap (n base:Nat) (w:World) (v:Value) (ps:List Pc) : Prop:=aL base 53 2 (vf n) w v ps
theorem vf.upd{n:Nat}{w w':World}{X:List Nat}(hu:ay X w w')(hx:∀ x,x∈X→n≤x)(p:Pc)(cs:List Value)(h:vf n w p cs) : vf n w' p cs:=by
  obtain⟨v,h1,h2⟩:=h
  exact⟨v,h1,pW.upd hu hx h2⟩
theorem s4.upd{n:Nat}{w w':World}{X:List Nat}(hu:ay X w w')(hx:∀ x,x∈X→n≤x)(p:List Int)(cs:List Value)(h:s4 n w p cs) : s4 n w' p cs:=by
  obtain⟨v,h1,h2⟩:=h
  exact⟨v,h1,pW.upd hu hx h2⟩
theorem s4.ones{n:Nat}{w:World}:∀ (x:List Int)(cs:List Value),s4 n w x cs→∀ v,v∈cs→v.oneCell'=true:=fun x cs ⟨v,h1,h2⟩ u hu=>by
  rw[h1,List.mem_singleton] at hu
  obtain⟨A,c,e,_⟩:=h2.1.shape
  rw[hu,e]
  rfl
theorem vf.ones{n:Nat}{w:World}:∀ (x:Pc)(cs:List Value),vf n w x cs→∀ v,v∈cs→v.oneCell'=true:=fun x cs ⟨v,h1,h2⟩ u hu=>by
  rw[h1] at hu
  obtain⟨A,c,e,_⟩:=h2.1.shape
  rcases List.mem_cons.1 hu with e2|hu
  · rw[e2,e];rfl
  · rw[List.mem_singleton] at hu;rw[hu];rfl
theorem Ap.any{n base:Nat}{w:World}{v:Value}{ps:List Pc}(h:Ap n base w v ps) : jO false w v ps:=aR.any h.rd fun p cs ⟨v,h1,h2⟩=>⟨v,h1,h2.1⟩
theorem jO.old{m:Bool}{w w':World}{v:Value}{ps:List Pc}(h:jO m w v ps)(hu:ay [] w w') : jO m w' v ps:=aR.upd h hu (bZ.nil _ _ _) fun x cs ⟨v,h1,h2⟩=>⟨v,h1,h2.old hu⟩
theorem jO.elt{m:Bool}{w:World}{A:Option Addr}{n c:Nat}{ps:List Pc}(h:jO m w (.slice A n c) ps)(j:Nat)(hj:j<ps.length) :
    ∃ b off cells t fr A' c',A=some ⟨b,off,none⟩∧w.heap[b]? = some (.cells cells t fr)∧aS m w (.slice A' (ps.getD j Pc.z).bytes.length c') (ps.getD j Pc.z).bytes∧((ps.getD j Pc.z).bytes.length≤c'∧c'≤maxLen)∧(cells.toList.drop (off+j*2)).take 2=[.slice A' (ps.getD j Pc.z).bytes.length c',.bool (ps.getD j Pc.z).tick]:=by
  obtain⟨b,off,cells,t,fr,cs,h1,h2,h3,⟨v,h4,h5⟩,h6⟩:=aR.elt h Pc.z j hj
  obtain⟨A',c',rfl,h7,h8⟩:=h5.shape
  exact⟨b,off,cells,t,fr,A',c',h1,h2,h5,⟨h7,h8⟩,h6.trans h4⟩
theorem jO.n{m:Bool}{w:World}{v:Value}{ps:List Pc}(h:jO m w v ps) : aR false 53 2 (vf w.heap.size) w v ps:=aR.any h fun p cs ⟨v,h1,h2⟩=>⟨v,h1,pW.of h2⟩
theorem RdPn.old{n:Nat}{w w':World}{v:Value}{ps:List Pc}(h:aR false 53 2 (vf n) w v ps)(hu:ay [] w w') : aR false 53 2 (vf n) w' v ps:=aR.upd h hu (bZ.nil _ _ _) fun x cs q=>vf.upd hu (fun x hx=>by cases hx) x cs q
theorem RdPn.elt{n0:Nat}{w:World}{A:Option Addr}{n c:Nat}{ps:List Pc}(h:aR false 53 2 (vf n0) w (.slice A n c) ps)(j:Nat)(hj:j<ps.length) :
    ∃ b off cells t fr A' c',A=some ⟨b,off,none⟩∧w.heap[b]? = some (.cells cells t fr)∧pW n0 w (.slice A' (ps.getD j Pc.z).bytes.length c') (ps.getD j Pc.z).bytes∧((ps.getD j Pc.z).bytes.length≤c'∧c'≤maxLen)∧(cells.toList.drop (off+j*2)).take 2=[.slice A' (ps.getD j Pc.z).bytes.length c',.bool (ps.getD j Pc.z).tick]:=by
  obtain⟨b,off,cells,t,fr,cs,h1,h2,h3,⟨v,h4,h5⟩,h6⟩:=aR.elt h Pc.z j hj
  obtain⟨A',c',rfl,h7,h8⟩:=h5.1.shape
  exact⟨b,off,cells,t,fr,A',c',h1,h2,h5,⟨h7,h8⟩,h6.trans h4⟩
theorem Bj{n:Nat}{w0 w:World}{g:Nat}{cs:Array Value}{b:List Int}(hg:w0.heap.size≤g)(hb:w.heap[g]? = some (.cells cs 27 (0,0)))(h:s4 n w b cs.toList) : aL w0.heap.size 27 1 (s4 n) w (.slice (some ⟨g,0,none⟩) 1 1) [b]:=by
  have hl:cs.toList.length=1:=by
    obtain⟨v,h1,_⟩:=h
    rw[h1]
    rfl
  refine⟨cs.toList,⟨hl,.inr ⟨g,1,cs,rfl,hg,hb,Nat.le_refl _,by unfold maxLen;omega,by simpa using hl,by rw[List.take_of_length_le];exact Nat.le_of_eq hl⟩⟩,fun j y hj=>?_⟩
  cases j with
  | succ j=>simp at hj
  | zero =>
    have hj:b=y:=by simpa using hj
    subst hj
    exact⟨cs.toList,hl,h,fun i u hi=>by simpa using hi⟩
section
variable {P:Program}{n:Nat}{D:List Deferred}{F:Fr}{w:World}{K:Fr→World→Prop}{Q:Exit→Act→World→Prop}{d:Option Tmp}{t:TypeId}{s:String}{af:Array Edge}{gu:Option (Nat × Bool)}
end
def XS.run (S:XS)(ps:List Pc) : XS × List Ev:=ps.foldl (fun p c=>((p.1.take c.bytes c.tick).1,p.2++(p.1.take c.bytes c.tick).2)) (S,[])
theorem my:∀ (ps:List Pc)(S:XS)(K:List Ev),ps.foldl (fun p c=>((p.1.take c.bytes c.tick).1,p.2++(p.1.take c.bytes c.tick).2)) (S,K)=((S.run ps).1,K++(S.run ps).2)
  | [],S,K=>by simp[XS.run]
  | c :: t,S,K=>by
    unfold XS.run
    rw[List.foldl_cons,List.foldl_cons,my t,my t]
    simp
theorem s8(S:XS)(a b:List Pc) : S.run (a++b)=(((S.run a).1.run b).1,(S.run a).2++((S.run a).1.run b).2):=by
  unfold XS.run
  rw[List.foldl_append]
  exact my b _ _
theorem iA{ps:List Pc}{k:Nat}(hk:k<ps.length) : ps.take (k+1)=ps.take k++[ps.getD k Pc.z]:=by
  rw[List.take_succ_eq_append_getElem hk,List.getD_eq_getElem?_getD,List.getElem?_eq_getElem hk]
  rfl
theorem nd(S:XS)(p:Pc) : S.run [p]=S.take p.bytes p.tick:=by
  unfold XS.run
  simp
theorem wq{S0 S S2:XS}{ps:List Pc}{L L2:List Ev}{k:Nat}(hk:k<ps.length)(h:(S,L)=S0.run (ps.take k))(hX:S.take (ps.getD k Pc.z).bytes (ps.getD k Pc.z).tick=(S2,L2)) : (S2,L++L2)=S0.run (ps.take (k+1)):=by
  rw[iA hk,s8,← h,nd,hX]
def iq (ps:List Pc) : Nat:=gM (ps.map Pc.bytes)
theorem ml{ps:List Pc}{k:Nat}(hk:k<ps.length) : iq (ps.take (k+1))=iq (ps.take k)+(ps.getD k Pc.z).bytes.length:=by
  unfold iq
  rw[iA hk,List.map_append,kj]
  rfl
theorem j2{ps:List Pc}{k:Nat}(hk:k<ps.length) : (ps.getD k Pc.z).bytes.length+iq (ps.take k)≤iq ps:=by
  have h:=ml hk
  have e:ps=ps.take (k+1)++ps.drop (k+1):=(List.take_append_drop ..).symm
  have e2:iq ps=iq (ps.take (k+1))+iq (ps.drop (k+1)):=by
    conv=>lhs;rw[e]
    unfold iq
    rw[List.map_append,kj]
  omega
theorem b9.take_le{n base s g c:Nat}{w:World}{A:Option Addr}{S S2:XS}{b:List Int}{t:Bool}{L:List Ev}(h:b9 n base w s g A c S)(hb:∀ x,x∈b→0≤x∧x<256)(hX:S.take b t=(S2,L)) : L.length≤b.length+2:=by
  have e:L=(S.take b t).2:=(congrArg Prod.snd hX).symm
  rw[e]
  have h:=h.2
  have hf:(S.feed b).2.length≤b.length+1:=by
    cases S with
    | r S=>exact Nat.le_trans (SS.feed_le (S:=S) (b:=b) rfl) (by omega)
    | a S=>exact Nat.le_trans (SA.feed_le h.2.2.1 hb rfl) (by omega)
    | m S=>exact Nat.le_trans (SM.feed_le h.2.2.1 hb rfl) (by omega)
  have ht:(S.feed b).1.tick.2.length≤1:=by
    cases S with
    | r S=>exact SS.tick_le (S:=(S.feed b).1) rfl
    | a S=>exact Nat.zero_le _
    | m S=>exact Nat.zero_le _
  unfold XS.take
  cases t
  · exact Nat.le_trans hf (by omega)
  · show(((S.feed b).2++(S.feed b).1.tick.2:List Ev)).length≤_
    rw[List.length_append]
    omega
open Go.RowKit
theorem OwnS.any{n base:Nat}{w:World}{v:Value}{ls:List (List Int)}(h:aL base 27 1 (s4 n) w v ls) : oH false w v ls:=aR.any h.rd fun p cs ⟨v,h1,h2⟩=>⟨v,h1,h2.1⟩
theorem xv{L:List (List Int)}{ps:List Pc}{k:Nat}(hL:L=(ps.take k).map Pc.bytes)(hk:k<ps.length) : L++[(ps.getD k Pc.z).bytes]=(ps.take (k+1)).map Pc.bytes:=by rw[iA hk,List.map_append,hL];rfl
theorem pY{m:Bool}{A:Option Addr}{cp:Nat}{ps:List Pc}{w:World}(h:jO m w (.slice A ps.length cp) ps)(hps:ps.length≤4398046511104)(hbb:∀ p,p∈ps→p.bytes.length≤140737488355328) : Calls Tryz.prog 25 #[.slice A ps.length cp] w (bv (.bool (gt (ps.map Pc.bytes))) w):=by
 have hz:=aR.len h
 refine en 21 Tryz.func25 rfl<|sg<|Pl 1<|ng<|Pl 1<|nt<|sq<|sg<|?_
 refine Pl 1<|nt<|bk<|?_
 refine ie (fun x=>[(0,.slice A ps.length cp),(2,.bool false),(3,.slice x.2.2.1 x.2.1.length x.2.2.2),(4,.int .i64 ((x.1:Nat) : Int))]) (fun(x:Nat × List (List Int) × Option Addr × Nat) w'=>ay [] w w'∧aL w.heap.size 27 1 (s4 w.heap.size) w' (.slice x.2.2.1 x.2.1.length x.2.2.2) x.2.1∧(x.1≤ps.length)∧(x.2.1.length≤x.1)∧(x.2.1=(ps.take x.1).map Pc.bytes)) (fun x=>ps.length-x.1) (0,[],none,0) ⟨ay.refl _ _,(aL.nil w.heap.size _ _ (s4 w.heap.size) _),(by(try dsimp only);omega),(by(try dsimp only);exact Nat.le_refl _),rfl⟩ ?_
 rintro⟨k,L,B,cq⟩ q ⟨a,r,s,t,u⟩
 refine ik [(0,.slice A ps.length cp),(2,.bool false),(3,.slice B L.length cq),(4,.int .i64 ((k:Nat) : Int))] ?_
 have c:aL w.heap.size 27 1 (s4 w.heap.size) q (.slice B L.length cq) L:=r
 have R:k≤ps.length:=s
 have S:L.length≤k:=t
 have i:L=(ps.take k).map Pc.bytes:=u
 refine sq<|sg<|Pl 4<|nt<|cb ((decide (((k:Nat) : Int)<((ps.length:Nat) : Int)))) (fun d=>?_) (fun d=>?_)
 have y:=of_decide_eq_true d
 refine bK<|sq<|bk<|go<|Pl 3<|se (jO.elt h k (by omega)) fun C D T U V j l E F G W H=>L0<|jF 2 ps.length k E (by omega)<|Pl 1<|?_
 refine L0<|lf (p:=⟨C,D+k*2+0,none⟩) (v:=.slice j ((ps.getD k Pc.z).bytes.length) l) (eJ (ub a F) H 0 rfl (by decide))<|L0<|cR (m:=1) (e:=27) #[.slice j ((ps.getD k Pc.z).bytes.length) l] fun X Y I J f=>?_
 have g:=aD a f
 have K:=Bj (n:=w.heap.size) (b:=(ps.getD k Pc.z).bytes) I J (⟨_,rfl,pW.upd g (fun x hx=>by cases hx) (pW.of (G))⟩)
 have o:=ak c f (fun x hx=>az) (s4.upd f (fun x hx=>by cases hx))
 refine L0<|zT (xs:=L) (ys:=([(ps.getD k Pc.z).bytes])) (.slice none 0 0) 1 24 o (K).rd s4.ones (fun w' hv=>s4.upd hv (ai (fun x hx=>Nat.le_trans lr (gG o x hx)) au)) (by(try simp only[List.length_append,List.length_cons,List.length_nil,av]);omega) (by(try simp only[List.length_append,List.length_cons,List.length_nil,av]);omega) g.size fun M N Z O P a0=>Pl 1<|nl<|bn<|tn<|go<|Pl 1<|L0<|Oi (((k:Nat) : Int)+1)<|Pl 1<|nl<|?_
 exact ew ((k+1),(L++[(ps.getD k Pc.z).bytes]),M,N) ⟨(ut g P (ai (aI c lr) au)),O,(by(try dsimp only);omega),(by(try dsimp only);simp only[List.length_append,List.length_cons,List.length_nil];omega),(by(try dsimp only);exact xv i (by omega))⟩ (by omega)
 have y:=of_decide_eq_false d
 refine xt<|tx<|tx<|bx<|tn<|sg<|Pl 1<|?_
 have hs:L=ps.map Pc.bytes:=by rw[i,List.take_of_length_le (by omega)]
 have hbb2:∀ x,x∈L→x.length≤140737488355328:=by rw[hs];intro x hx;obtain⟨p,hp,rfl⟩:=List.mem_map.1 hx;exact hbb p hp
 refine L0<|Oc<|m1 (sx (OwnS.any c) hbb2) fun a1 Q=>Pl 1<|nt<|rt<|rr (.bool (gt L))<|?_
 rw[hs]
 exact⟨rfl,(aD a Q)⟩
open Go.RowKit
theorem Ai{n n0 base s g c:Nat}{w:World}{A:Option Addr}{S:XS}{X:List Nat}(h:b9 n0 base w s g A c S)(k:tq n X w) : tq n (g :: X) w:=by
  obtain⟨t,cs,fr,q,h1,_⟩:=h.2.cells
  exact eP q h1 k
theorem x4{S0 S:XS}{L:List Ev}{ps:List Pc}{k:Nat}(h:(S,L)=XS.run S0 (ps.take k))(hk:ps.length≤k) : XS.run S0 ps=(S,L):=by
  rw[List.take_of_length_le hk] at h
  exact h.symm
def An (r:XS × List Ev)(w:World)(e:Ending)(w':World) : Prop:=∃ v,e = .returned (.tuple #[v,.int .i64 ((r.1.held.length:Nat) : Int)])∧i3 w.heap.size w' v r.2∧ay [] w w'
theorem uN{m:Bool}{A:Option Addr}{cp:Nat}{ps:List Pc}{w:World}{k0 d:Int}(hk:k0=0∨k0=1∨k0=2)(hd:d=0∨d=1)(h:jO m w (.slice A ps.length cp) ps)(hps:ps.length≤1000)(hsum:iq ps≤100000) : Calls Tryz.prog 26 #[.int .i64 k0,.int .i64 d,.slice A ps.length cp] w (An (XS.run (XS.zero k0 d) ps) w):=by
 have hz:=aR.len h
 refine en 32 Tryz.func26 rfl<|sg<|Pl 2<|ng<|Pl 2<|L0<|Oc (args:=#[.int .i64 k0,.int .i64 d])<|Bn (mE (k:=k0) (d:=d) hk hd) fun b i T ah F U G=>Pl 1<|nt<|sq<|?_
 refine sg<|Pl 2<|nt<|c0<|bK<|sg<|Pl 1<|nt<|sq<|?_
 refine sg<|Pl 3<|nt<|bk<|?_
 refine ie (fun x=>[(6,.slice none 0 0),(7,.int .i64 0),(8,.pointer (some ⟨b,0,none⟩)),(9,.slice x.2.2.2.2.2.1 x.2.2.1.length x.2.2.2.2.2.2.1),(17,.slice A ps.length cp),(18,.int .i64 ((ps.length:Nat) : Int)),(19,.int .i64 ((x.1:Nat) : Int))]) (fun(x:Nat × XS × List Ev × Option Addr × Nat × Option Addr × Nat × Nat) w'=>ay [] w w'∧T.heap.size≤w'.heap.size∧b9 x.2.2.2.2.2.2.2 w.heap.size w' b i x.2.2.2.1 x.2.2.2.2.1 x.2.1∧dv x.2.2.2.2.2.2.2 w.heap.size w' (.slice x.2.2.2.2.2.1 x.2.2.1.length x.2.2.2.2.2.2.1) x.2.2.1∧(x.1≤ps.length)∧((x.2.1,x.2.2.1)=XS.run (XS.zero k0 d) (ps.take x.1))∧(x.2.2.1.length≤iq (ps.take x.1)+2*x.1)) (fun x=>ps.length-x.1) (0,(XS.zero k0 d),[],none,0,none,0,w.heap.size) ⟨G,lr,U,(aL.nil w.heap.size _ _ (bo w.heap.size) _),(by(try dsimp only);omega),rfl,(by(try dsimp only);exact Nat.zero_le _)⟩ ?_
 rintro⟨k,S,L,Ah,ch,Bq,cq,n⟩ H ⟨l,I,V,W,X,Y,Z⟩
 refine ik [(6,.slice none 0 0),(7,.int .i64 0),(8,.pointer (some ⟨b,0,none⟩)),(9,.slice Bq L.length cq),(17,.slice A ps.length cp),(18,.int .i64 ((ps.length:Nat) : Int)),(19,.int .i64 ((k:Nat) : Int))] ?_
 have a:b9 n w.heap.size H b i Ah ch S:=V
 have c:dv n w.heap.size H (.slice Bq L.length cq) L:=W
 have aj:k≤ps.length:=X
 have J:(S,L)=XS.run (XS.zero k0 d) (ps.take k):=Y
 have al:L.length≤iq (ps.take k)+2*k:=Z
 refine sg<|Pl 1<|nt<|sq<|cb ((decide (((k:Nat) : Int)<((ps.length:Nat) : Int)))) (fun o=>?_) (fun o=>?_)
 have a0:=of_decide_eq_true o
 refine bK<|sq<|bk<|sg<|se (jO.elt h k (by omega)) fun am an ao ap aq p r a1 a2 s ar a3=>L0<|jF 2 ps.length k a1 (by omega)<|?_
 refine L0<|wU [.slice p ((ps.getD k Pc.z).bytes.length) r,.bool ((ps.getD k Pc.z).tick)] (ub l a2) a3<|L0<|bN #[.slice none 0 0,.bool false] fun aw ax a4 a5 t=>L0<|bi a5 #[.slice p ((ps.getD k Pc.z).bytes.length) r,.bool ((ps.getD k Pc.z).tick)] fun aA a6 u=>nt<|go<|Pl 2<|L0<|cj a6<|?_
 have v:=ud t u a4
 have K:=aD l v
 have M:=aS.old s K
 have hpart:=j2 (ps:=ps) (k:=k) (by omega)
 have B:=b9.old a v
 refine pr (XS.take S ((ps.getD k Pc.z).bytes) ((ps.getD k Pc.z).tick)) fun a7 N C=>?_
 have aB:=b9.take_le B (aS.range M) C
 refine L0<|Oc (args:=#[.pointer (some ⟨b,0,none⟩),.agg #[.slice p ((ps.getD k Pc.z).bytes.length) r,.bool ((ps.getD k Pc.z).tick)]])<|?_
 refine(la C B M (jU (aR.low (s)) F) (eE (aR.low (s)) (b9.row B) lr) (by omega)).mono ?_
 rintro _ aC ⟨aE,a8,a9,O,rfl,aa,f,aF,ab,j⟩
 refine⟨_,rfl,?_⟩
 have P:=aa
 obtain⟨aG,aJ,rfl,aK,aM⟩:=aR.shape P.rd
 have Q:=ut (ay.mono (S':=(i :: (ob Ah++[]))) v au) j (ac im (ai il au))
 have g:=ak c Q (fun x hx=>(ae (fun e=>(b9.gx a c (by decide)) (e▸hx)) (aH ((cT c (b9.row a) (by decide)) x hx) az))) (fun x cs q=>bo.upd Q (Ai a (gP (qx (Nat.le_refl _) (b9.low a)) bO)) q)
 refine L0<|jC (R:=bo O) (xs:=L) (ys:=N) (.agg #[.int .i64 0,.int .u8 0,.int .u16 0,.int .u8 0,.int .u8 0,.int .u16 0,.int .u16 0,.int .u16 0,.int .u16 0,.int .u16 0,.int .u16 0,.int .u16 0,.int .u16 0,.int .u16 0,.int .u16 0,.slice none 0 0,.slice none 0 0,.slice none 0 0,.slice none 0 0,.int .u8 0,.int .u8 0,.int .u8 0,.int .u8 0,.int .u8 0,.slice none 0 0]) 25 168 (dv.up ab (b9.nle f) g) (P).rd bo.ones (fun w' hv x cs q=>bo.upd hv (iW g (by decide) bO) q) (by(try simp only[List.length_append,List.length_cons,List.length_nil,av]);omega) (le (le (le (le G.size I) t.size) u.size) j.size) fun ad af aN ag D aO=>Pl 1<|nl<|bn<|tn<|go<|L0<|Oi (((k:Nat) : Int)+1)<|Pl 1<|nl<|?_
 exact ew ((k+1),a7,(L++N),a8,a9,ad,af,O) ⟨(ut K (ut (ay.mono (S':=(i :: (ob Ah++(ob Bq++[])))) j (ac im (ai il au))) D (ai il au)) (ac (nr F) (ai (aI (b9.row a) lr) (ai (aI c lr) au)))),(le (le (le (le I t.size) u.size) j.size) D.size),(b9.upd f D (aH (to (b9.cells f) g (by decide)) az) (aH (b9.gx f g (by decide)) az) (fun x hx=>(aH ((cT (b9.row f) g (by decide)) x hx) az))),ag,(by(try dsimp only);omega),(by(try dsimp only);exact wq (by omega) J C),(by(try dsimp only);have y:=ml (ps:=ps) (k:=k) (by omega);simp only[List.length_append];omega)⟩ (by omega)
 have a0:=of_decide_eq_false o
 refine xt<|tx<|tx<|bx<|tn<|sg<|Pl 2<|L0<|Oc<|m1 (gE a) fun aP E=>Pl 2<|nt<|rt<|rr (.tuple #[.slice Bq L.length cq,.int .i64 ((S.held.length:Nat) : Int)])<|?_
 have hs:XS.run (XS.zero k0 d) ps=(S,L):=x4 J (by omega)
 rw[hs]
 exact⟨_,rfl,dv.own (ak c E (fun x hx=>az) (fun x cs q=>bo.upd E bO q)),(aD l E)⟩
theorem xd{m:Bool}{v:Value}{ps:List Pc}{w:World}{k0 d:Int}(hk:k0=0∨k0=1∨k0=2)(hd:d=0∨d=1)(h:jO m w v ps)(hps:ps.length≤1000)(hsum:iq ps≤100000) : Calls Tryz.prog 26 #[.int .i64 k0,.int .i64 d,v] w (An (XS.run (XS.zero k0 d) ps) w):=by
  obtain⟨A,cp,rfl,_,_⟩:=h.shape
  exact uN hk hd h hps hsum
open Go.RowKit
theorem nn.ones{m:Bool}{w:World}(x:cm)(cs:List Value)(h:nn m w x cs) : ∀ v,v∈cs→v.oneCell'=true:=by
  obtain⟨s,h1,h2,_⟩:=h
  have h3:=h2.one
  intro v hv
  rw[h1,eW,Array.toList_append,List.mem_append] at hv
  rw[Array.all_eq_true'] at h3
  rcases hv with hv|hv
  · simp at hv;rcases hv with rfl | rfl<;>rfl
  · exact h3 v (by simpa using hv)
theorem BG{w0 w:World}{g:Nat}{cs:Array Value}{x:cm}(hg:w0.heap.size≤g)(hb:w.heap[g]? = some (.cells cs 33 (0,0)))(h:nn true w x cs.toList) : aL w0.heap.size 33 24 (nn true) w (.slice (some ⟨g,0,none⟩) 1 1) [x]:=by
  have hh:=h
  obtain⟨s,h1,h2⟩:=hh
  have hl:cs.toList.length=24:=by rw[h1];kernel_rfl
  clear h1
  refine⟨cs.toList,⟨hl,.inr ⟨g,1,cs,rfl,hg,hb,Nat.le_refl _,by unfold maxLen;omega,by simpa using hl,by rw[List.take_of_length_le];exact Nat.le_of_eq hl⟩⟩,fun j y hj=>?_⟩
  cases j with
  | succ j=>simp at hj
  | zero =>
    have hj:x=y:=by simpa using hj
    subst hj
    exact⟨cs.toList,hl,h,fun i u hi=>by simpa using hi⟩
def cV (L:List Ev) : List cm:=(L.filter fun x=>x.e==0).map (·.f)
theorem sl{L:List Ev}{fs:List cm}{k:Nat}(hk:k<L.length)(h:fs=cV (L.take k)) : (((L.getD k (Ev.bad 0)).e==0)=true→fs++[(L.getD k (Ev.bad 0)).f]=cV (L.take (k+1)))∧(((L.getD k (Ev.bad 0)).e==0)=false→fs=cV (L.take (k+1))):=by
  have e:cV (L.take (k+1))=cV (L.take k)++cV [L.getD k (Ev.bad 0)]:=by
    unfold cV
    rw[List.take_succ_eq_append_getElem hk,List.getD_eq_getElem?_getD,List.getElem?_eq_getElem hk,List.filter_append,List.map_append]
    rfl
  rw[e,← h]
  refine⟨fun q=>?_,fun q=>?_⟩
  · unfold cV;rw[List.filter_cons,if_pos q];rfl
  · unfold cV;rw[List.filter_cons,if_neg (by rw[q];simp)];simp
theorem ou{A:Option Addr}{cp:Nat}{L:List Ev}{w:World}(h:rZ true w (.slice A L.length cp) L)(hL:L.length≤200000) : Calls Tryz.prog 39 #[.slice A L.length cp] w (fun e w'=>∃ v,e = .returned v∧aL w.heap.size 33 24 (nn true) w' v (cV L)∧ay [] w w'):=by
 have hz:=aR.len h
 refine en 22 Tryz.func39 rfl<|sg<|Pl 1<|ng<|Pl 1<|nt<|sq<|sg<|?_
 refine Pl 3<|nt<|bk<|?_
 refine ie (fun x=>[(2,.slice none 0 0),(3,.slice x.2.2.1 x.2.1.length x.2.2.2),(6,.slice A L.length cp),(7,.int .i64 ((L.length:Nat) : Int)),(8,.int .i64 ((x.1:Nat) : Int))]) (fun(x:Nat × List cm × Option Addr × Nat) w'=>ay [] w w'∧aL w.heap.size 33 24 (nn true) w' (.slice x.2.2.1 x.2.1.length x.2.2.2) x.2.1∧(x.1≤L.length)∧(x.2.1.length≤x.1)∧(x.2.1=cV (L.take x.1))) (fun x=>L.length-x.1) (0,[],none,0) ⟨ay.refl _ _,(aL.nil w.heap.size _ _ (nn true) _),(by(try dsimp only);omega),(by(try dsimp only);exact Nat.le_refl _),rfl⟩ ?_
 rintro⟨k,fs,B,cq⟩ t ⟨g,u,y,z,C⟩
 refine ik [(2,.slice none 0 0),(3,.slice B fs.length cq),(6,.slice A L.length cp),(7,.int .i64 ((L.length:Nat) : Int)),(8,.int .i64 ((k:Nat) : Int))] ?_
 have c:aL w.heap.size 33 24 (nn true) t (.slice B fs.length cq) fs:=u
 have U:k≤L.length:=y
 have V:fs.length≤k:=z
 have i:fs=cV (L.take k):=C
 refine sg<|Pl 1<|nt<|sq<|cb ((decide (((k:Nat) : Int)<((L.length:Nat) : Int)))) (fun j=>?_) (fun j=>?_)
 have D:=of_decide_eq_true j
 refine bK<|sq<|bk<|sg<|AL (rZ.elt h k (by omega) (Ev.bad 0)) fun W X Y Z a0 a E F n G=>L0<|jF 25 L.length k E (by omega)<|?_
 refine L0<|wU [.int .i64 ((L.getD k (Ev.bad 0)).e),.int .u8 ((L.getD k (Ev.bad 0)).f.unit),.int .u16 ((L.getD k (Ev.bad 0)).f.tid),.int .u8 ((L.getD k (Ev.bad 0)).f.msg.code),.int .u8 ((L.getD k (Ev.bad 0)).f.msg.fail),.int .u16 ((L.getD k (Ev.bad 0)).f.msg.addr),.int .u16 ((L.getD k (Ev.bad 0)).f.msg.count),.int .u16 ((L.getD k (Ev.bad 0)).f.msg.value),.int .u16 ((L.getD k (Ev.bad 0)).f.msg.and_),.int .u16 ((L.getD k (Ev.bad 0)).f.msg.or_),.int .u16 ((L.getD k (Ev.bad 0)).f.msg.addr2),.int .u16 ((L.getD k (Ev.bad 0)).f.msg.sub),.int .u16 ((L.getD k (Ev.bad 0)).f.msg.status),.int .u16 ((L.getD k (Ev.bad 0)).f.msg.events),.int .u16 ((L.getD k (Ev.bad 0)).f.msg.messages),.slice a.aw ((L.getD k (Ev.bad 0)).f.msg.words.length) a.kw,.slice a.ab ((L.getD k (Ev.bad 0)).f.msg.bits.length) a.kb,.slice a.ad ((L.getD k (Ev.bad 0)).f.msg.data.length) a.kd,.slice a.ar ((L.getD k (Ev.bad 0)).f.msg.recs.length) a.kr,.int .u8 ((L.getD k (Ev.bad 0)).f.msg.mei),.int .u8 ((L.getD k (Ev.bad 0)).f.msg.kind),.int .u8 ((L.getD k (Ev.bad 0)).f.msg.level),.int .u8 ((L.getD k (Ev.bad 0)).f.msg.more),.int .u8 ((L.getD k (Ev.bad 0)).f.msg.next),.slice a.ao ((L.getD k (Ev.bad 0)).f.msg.objects.length) a.ko] (ub g F) G<|L0<|bN #[.int .i64 0,.int .u8 0,.int .u16 0,.int .u8 0,.int .u8 0,.int .u16 0,.int .u16 0,.int .u16 0,.int .u16 0,.int .u16 0,.int .u16 0,.int .u16 0,.int .u16 0,.int .u16 0,.int .u16 0,.slice none 0 0,.slice none 0 0,.slice none 0 0,.slice none 0 0,.int .u8 0,.int .u8 0,.int .u8 0,.int .u8 0,.int .u8 0,.slice none 0 0] fun a1 a2 H I J=>L0<|bi I (uv ⟨(L.getD k (Ev.bad 0)).e,(L.getD k (Ev.bad 0)).f⟩ a) fun a3 o K=>ng<|Pl 1<|L0<|aP o 0<|Pl 1<|nt<|?_
 have d:=ud J K H
 have p:=aD g d
 refine cb ((((L.getD k (Ev.bad 0)).e)==0)) (fun b=>?_) (fun b=>?_)
 have M:=ax b
 refine go<|Pl 2<|L0<|sV o 1 24<|L0<|cR (m:=1) (e:=33) (eK ((L.getD k (Ev.bad 0)).f.unit) ((L.getD k (Ev.bad 0)).f.tid) ((L.getD k (Ev.bad 0)).f.msg) a) fun a4 a5 N O q=>?_
 have l:=aD p q
 have P:=BG N O ⟨a,rfl,(aF.old (n.1) l),n.2⟩
 have r:=aD d q
 have s:=ak c r (fun x hx=>az) (nn.upd r aE)
 refine L0<|jC (xs:=fs) (ys:=([(L.getD k (Ev.bad 0)).f])) (.agg zZ) 24 160 s (P).rd nn.ones (fun w' hv=>nn.upd hv (cK (dp _ s (by decide)) aE)) (by(try simp only[List.length_append,List.length_cons,List.length_nil,av]);omega) l.size fun Q R a6 S T a7=>Pl 1<|nl<|bn<|tn<|go<|L0<|Oi (((k:Nat) : Int)+1)<|Pl 1<|nl<|?_
 exact ew ((k+1),(fs++[(L.getD k (Ev.bad 0)).f]),Q,R) ⟨(ut l T (ai (aI c lr) au)),S,(by(try dsimp only);omega),(by(try dsimp only);(try simp only[List.length_append,List.length_cons,List.length_nil]);omega),(by(try dsimp only);exact(sl (by omega) i).1 b)⟩ (by omega)
 have M:=aA b
 refine sk<|bn<|tn<|go<|L0<|Oi (((k:Nat) : Int)+1)<|Pl 1<|nl<|?_
 exact ew ((k+1),fs,B,cq) ⟨p,(ak c d (fun x hx=>az) (nn.upd d aE)),(by(try dsimp only);omega),(by(try dsimp only);(try simp only[List.length_append,List.length_cons,List.length_nil]);omega),(by(try dsimp only);exact(sl (by omega) i).2 b)⟩ (by omega)
 have D:=of_decide_eq_false j
 refine xt<|tx<|tx<|bx<|tn<|sg<|Pl 2<|nt<|rt<|rr (.slice B fs.length cq)<|?_
 have hs:fs=cV L:=by rw[i,List.take_of_length_le (by omega)]
 exact⟨_,rfl,by rw[← hs];exact c,g⟩
theorem pD{v:Value}{L:List Ev}{w:World}(h:rZ true w v L)(hL:L.length≤200000) : Calls Tryz.prog 39 #[v] w (fun e w'=>∃ v,e = .returned v∧aL w.heap.size 33 24 (nn true) w' v (cV L)∧ay [] w w'):=by
  obtain⟨A,cp,rfl,_,_⟩:=h.shape
  exact ou h hL
open Go.RowKit
theorem qJ:∀ (b:List Int)(T:SA)(K:List Ev),b.foldl (fun(p:SA × List Ev) c=>((p.1.byte c).1,p.2++(p.1.byte c).2)) (T,K)=((T.feed b).1,K++(T.feed b).2)
  | [],T,K=>by simp[SA.feed]
  | c :: t,T,K=>by
    unfold SA.feed
    rw[List.foldl_cons,List.foldl_cons,qJ t,qJ t]
    simp
theorem qY:∀ (b:List Int)(T:SM)(K:List Ev),b.foldl (fun(p:SM × List Ev) c=>((p.1.byte c).1,p.2++(p.1.byte c).2)) (T,K)=((T.feed b).1,K++(T.feed b).2)
  | [],T,K=>by simp[SM.feed]
  | c :: t,T,K=>by
    unfold SM.feed
    rw[List.foldl_cons,List.foldl_cons,qY t,qY t]
    simp
theorem oe(S:SA)(a b:List Int) : S.feed (a++b)=(((S.feed a).1.feed b).1,(S.feed a).2++((S.feed a).1.feed b).2):=by
  conv=>lhs;unfold SA.feed
  rw[List.foldl_append]
  exact qJ b _ _
theorem pl(S:SM)(a b:List Int) : S.feed (a++b)=(((S.feed a).1.feed b).1,(S.feed a).2++((S.feed a).1.feed b).2):=by
  conv=>lhs;unfold SM.feed
  rw[List.foldl_append]
  exact qY b _ _
def yT:XS→Prop
  | .r _=>False
  | _=>True
theorem m7{S:XS}(h:yT S)(b:List Int)(t t':Bool) : S.take b t=S.take b t':=by
  have e:∀ t,S.take b t=S.feed b:=by
    intro t
    cases S with
    | r S=>exact h.elim
    | a S=>cases t;rfl;show(_,(S.feed b).2++[])=_;rw[List.append_nil];rfl
    | m S=>cases t;rfl;show(_,(S.feed b).2++[])=_;rw[List.append_nil];rfl
  rw[e,e]
theorem wF{ps:List Pc}(h:gt (ps.map Pc.bytes)=true) : ps.length≤60∧iq ps≤3000:=by
  unfold gt at h
  rw[Bool.and_eq_true,decide_eq_true_eq,decide_eq_true_eq,List.length_map] at h
  exact h
open Go.RowKit
theorem x7{w:World}{g:Nat}{cs:Array Value}{t:TypeId}{fr:Nat × Nat}{ps:List Pc}(hb:w.heap[g]? = some (.cells cs t fr))(hl:ps.length≤maxLen)(h:∀ j,j<ps.length→∃ v,(cs.toList.drop (j*2)).take 2=[v,.bool (ps.getD j Pc.z).tick]∧aS false w v (ps.getD j Pc.z).bytes) : jO false w (.slice (some ⟨g,0,none⟩) ps.length ps.length) ps:=by
  refine⟨_,_,rfl,Nat.le_refl _,hl,(fun e=>by cases e),fun hp=>⟨g,0,cs,t,fr,rfl,hb,(fun e=>by cases e),fun j x hj=>?_⟩⟩
  have hlt:=(List.getElem?_eq_some_iff.1 hj).1
  obtain⟨v,h1,h2⟩:=h j hlt
  have hx:ps.getD j Pc.z=x:=by rw[List.getD_eq_getElem?_getD,hj];rfl
  rw[hx] at h1 h2
  refine⟨[v,.bool x.tick],rfl,⟨v,rfl,h2⟩,fun i u hi=>?_⟩
  rw[← h1] at hi
  rw[List.getElem?_take] at hi
  split at hi
  · rw[List.getElem?_drop] at hi
    rw[Nat.zero_add,← Array.getElem?_toList]
    exact hi
  · cases hi
theorem Ac{m m':Bool}{w:World}{g:Nat}{t:TypeId}{fr:Nat × Nat}{v v':Value}{p p':Pc}(hb:w.heap[g]? = some (.cells #[v,.bool p.tick,v',.bool p'.tick] t fr))(h:aS m w v p.bytes)(h':aS m' w v' p'.bytes) : jO false w (.slice (some ⟨g,0,none⟩) 2 2) [p,p']:=by
  refine x7 (ps:=[p,p']) hb (by unfold maxLen;simp) fun j hj=>?_
  match j,hj with
  | 0,_=>exact⟨v,rfl,aR.any h fun _ _ q=>q⟩
  | 1,_=>exact⟨v',rfl,aR.any h' fun _ _ q=>q⟩
theorem um{m:Bool}{v:Value}{ps:List Pc}{w:World}{k0 d:Int}{S:XS}{L:List Ev}(hX:XS.run (XS.zero k0 d) ps=(S,L))(hk:k0=0∨k0=1∨k0=2)(hd:d=0∨d=1)(h:jO m w v ps)(hps:ps.length≤1000)(hsum:iq ps≤100000) : Calls Tryz.prog 26 #[.int .i64 k0,.int .i64 d,v] w (fun e w'=>∃ v,e = .returned (.tuple #[v,.int .i64 ((S.held.length:Nat) : Int)])∧i3 w.heap.size w' v L∧ay [] w w'):=by
  have k:=xd hk hd h hps hsum
  rw[hX] at k
  exact k
theorem sW{m:Bool}{v:Value}{ps:List Pc}{w:World}(h:jO m w v ps)(hbb:∀ p,p∈ps→p.bytes.length≤140737488355328)(hps:ps.length≤4398046511104) : Calls Tryz.prog 25 #[v] w (bv (.bool (gt (ps.map Pc.bytes))) w):=by
  obtain⟨A,cp,rfl,_,_⟩:=h.shape
  exact pY h hps hbb
open Go.RowKit
theorem Aj:eQ 0 [1,7,65,226]=(⟨1,0,uj⟩,0):=by decide +kernel
theorem zV:XS.run (XS.zero 0 0) [Pc.mk [1,7] false,Pc.mk [65,226] true]=((XS.r ⟨0,[],false⟩),[⟨0,⟨1,0,uj⟩⟩]):=by
  have e1:(SS.mk 0 [] false).feed [1,7]=(SS.mk 0 [1,7] false,[]):=rfl
  have e2:(SS.mk 0 [1,7] false).feed [65,226]=(SS.mk 0 [1,7,65,226] false,[]):=rfl
  have e3:(SS.mk 0 [1,7,65,226] false).tick=(SS.mk 0 [] false,[⟨0,⟨1,0,uj⟩⟩]):=by
    unfold SS.tick
    rw[if_neg (by decide),Aj]
  have h1:(XS.zero 0 0).take [1,7] false=(XS.r (SS.mk 0 [1,7] false),[]):=rfl
  have h2:(XS.r (SS.mk 0 [1,7] false)).take [65,226] true=((XS.r ⟨0,[],false⟩),[⟨0,⟨1,0,uj⟩⟩]):=by
    show(XS.r ((SS.mk 0 [1,7] false).feed [65,226]).1.tick.1,((SS.mk 0 [1,7] false).feed [65,226]).2++((SS.mk 0 [1,7] false).feed [65,226]).1.tick.2)=_
    rw[e2,e3]
    rfl
  have g1:(XS.zero 0 0).run [Pc.mk [1,7] false]=(XS.r (SS.mk 0 [1,7] false),[]):=(nd _ _).trans h1
  have g2:(XS.r (SS.mk 0 [1,7] false)).run [Pc.mk [65,226] true]=((XS.r ⟨0,[],false⟩),[⟨0,⟨1,0,uj⟩⟩]):=(nd _ _).trans h2
  rw[show[Pc.mk [1,7] false,Pc.mk [65,226] true]=[Pc.mk [1,7] false]++[Pc.mk [65,226] true] from rfl,s8,g1]
  show(((XS.r (SS.mk 0 [1,7] false)).run [Pc.mk [65,226] true]).1,[]++((XS.r (SS.mk 0 [1,7] false)).run [Pc.mk [65,226] true]).2)=_
  rw[g2]
  rfl
theorem yf{w:World}:Calls Tryz.prog 24 #[] w (bv (.bool true) w):=by
 refine en 39 Tryz.func24 rfl<|sg<|Pl 1<|ng<|L0<|cR (m:=2) (e:=5) #[.int .u8 1,.int .u8 7] fun k E l n o=>?_
 have q:=cW l (xs:=[1,7]) (by as_aux_lemma=>kernel_rfl) (ap (by omega) (ap (by omega) aO)) (by(try simp only[List.length_cons,List.length_nil]);omega) n
 refine Pl 1<|L0<|cR (m:=2) (e:=5) #[.int .u8 65,.int .u8 226] fun r F s t u=>?_
 have y:=cW s (xs:=[65,226]) (by as_aux_lemma=>kernel_rfl) (ap (by omega) (ap (by omega) aO)) (by(try simp only[List.length_cons,List.length_nil]);omega) t
 refine Pl 1<|L0<|cR (m:=2) (e:=53) #[.slice (some ⟨k,0,none⟩) 2 2,.bool false,.slice (some ⟨r,0,none⟩) 2 2,.bool true] fun z G H A a=>?_
 have b:=aD u a
 have B:=Ac (p:=(Pc.mk ([1,7]) false)) (p':=(Pc.mk ([65,226]) true)) A ((ak q b (fun x hx=>az) (fun _ _ h=>h))).rd ((ak y a (fun x hx=>az) (fun _ _ h=>h))).rd
 refine L0<|Oc (args:=#[.int .i64 0,.int .i64 0,.slice (some ⟨z,0,none⟩) 2 2])<|dX (um zV (show 0=0∨0=1∨0=2 by decide) (show 0=0∨0=1 by decide) B (by decide) (by decide)) fun I J K c M N C=>Pl 5<|nt<|sq<|sg<|Pl 3<|nt<|c0<|bK<|sq<|?_
 refine go<|Pl 1<|AL (rZ.elt (c).rd 0 (by decide) (Ev.bad 0)) fun d f O P Q R g i S j=>L0<|jF 25 1 0 g (by omega)<|Pl 1<|L0<|lf (p:=⟨d,f+0*25+0,none⟩) (v:=.int .i64 0) (eJ i j 0 (by kernel_rfl) (by decide))<|Pl 3<|L1<|jF 25 1 0 g (by omega)<|Pl 3<|L1<|lf (p:=⟨d,f+0*25+1+2+0,none⟩) (v:=.int .u8 7) (eJ i j 3 (by kernel_rfl) (by decide))<|Pl 8<|L1<|Oc<|dX (pD (L:=[⟨0,⟨1,0,uj⟩⟩]) (c).rd (by decide)) fun T U V W X Y D=>Pl 4<|nl<|?_
 refine tn<|rt<|rr (.bool true)<|?_
 exact⟨rfl,(aD o (aD b (aD C D)))⟩
open Go.RowKit
theorem qk{m m':Bool}{A B:Option Addr}{c d:Nat}{xs ys:List Int}{w:World}(h1:aS m w (.slice A xs.length c) xs)(h2:aS m' w (.slice B ys.length d) ys) :
    Calls Tryz.prog 33 #[.slice A xs.length c,.slice B ys.length d] w (bv (.bool (decide (xs=ys))) w):=by
 refine en 10 Tryz.func33 rfl<|sg<|Pl 1<|ng<|Pl 1<|L0<|iD (.string (strOfNums xs)) (cl (A:=A) (n:=xs.length) (c:=c) rfl (by kernel_rfl) Tryz.underlying27 Tryz.underlying5 Tryz.underlying9 h1)<|Pl 1<|L0<|iD (.string (strOfNums ys)) (cl (A:=B) (n:=ys.length) (c:=d) rfl (by kernel_rfl) Tryz.underlying27 Tryz.underlying5 Tryz.underlying9 h2)<|L0<|iD (.bool (decide (xs=ys))) (eH (a:=(strOfNums xs)) (b:=(strOfNums ys)) rfl (by kernel_rfl) (by kernel_rfl) (iB h1 h2))<|Pl 1<|nl<|?_
 refine tn<|rt<|rr (.bool (decide (xs=ys)))<|?_
 exact⟨rfl,(ay.refl [] _)⟩
theorem lB{m m':Bool}{a b:Value}{xs ys:List Int}{w:World}(h1:aS m w a xs)(h2:aS m' w b ys) : Calls Tryz.prog 33 #[a,b] w (bv (.bool (decide (xs=ys))) w):=by
  obtain⟨A,c,rfl,_,_⟩:=h1.shape
  obtain⟨B,d,rfl,_,_⟩:=h2.shape
  exact qk h1 h2
open Go.RowKit
theorem g9{α:Type}{xs ys:List α}{k:Nat}(h:xs.take k=ys.take k)(h1:k=xs.length)(h2:xs.length=ys.length) : xs=ys:=by
  rw[List.take_of_length_le (by omega),List.take_of_length_le (by omega)] at h
  exact h
theorem lq{m m':Bool}{A B:Option Addr}{c d:Nat}{xs ys:List Int}{w:World}(h1:dT m w (.slice A xs.length c) xs)(h2:dT m' w (.slice B ys.length d) ys) :
    Calls Tryz.prog 42 #[.slice A xs.length c,.slice B ys.length d] w (bv (.bool (decide (xs=ys))) w):=by
 have hz1:=aR.len h1
 have hz2:=aR.len h2
 refine en 26 Tryz.func42 rfl<|sg<|Pl 1<|nt<|sq<|sg<|Pl 5<|nt<|cb ((((xs.length:Nat) : Int)!=((ys.length:Nat) : Int))) (fun g=>?_) (fun g=>?_)
 have j:=aB g
 refine sg<|Pl 1<|nt<|rt<|tr<|rr (.bool false)<|?_
 have hs:decide (xs=ys)=false:=decide_eq_false (fun e=>by rw[e] at j;omega)
 rw[hs]
 exact⟨rfl,(ay.refl [] _)⟩
 have j:=ah g
 refine bK<|sq<|sg<|Pl 1<|nt<|bk<|?_
 refine ie (fun x=>[(0,.slice A xs.length c),(1,.slice B ys.length d),(5,.int .i64 ((x:Nat) : Int))]) (fun(x:Nat) w'=>ay [] w w'∧(xs.take x=ys.take x)∧(x≤xs.length)) (fun x=>xs.length-x) 0 ⟨ay.refl _ _,(by(try dsimp only);simp),(by(try dsimp only);omega)⟩ ?_
 rintro k E ⟨b,p,q⟩
 refine ik [(0,.slice A xs.length c),(1,.slice B ys.length d),(5,.int .i64 ((k:Nat) : Int))] ?_
 have l:xs.take k=ys.take k:=p
 have F:k≤xs.length:=q
 refine sq<|sg<|Pl 4<|nt<|cb ((decide (((k:Nat) : Int)<((xs.length:Nat) : Int)))) (fun h=>?_) (fun h=>?_)
 have r:=of_decide_eq_true h
 refine bK<|sq<|bk<|sq<|?_
 refine i8 (dT.at_ (dT.old h1 b) k (by omega)) fun s t u v G=>?_
 refine i8 (dT.at_ (dT.old h2 b) k (by omega)) fun y z C D H=>Rg 9 (fun w'=>w'.cell? ⟨s,t+k,none⟩=some (.int .u16 (xs.getD k 0))∧w'.cell? ⟨y,z+k,none⟩=some (.int .u16 (ys.getD k 0))) fun I i=>aZ ⟨(uc i v),(uc i D)⟩ fun a=>Rt 0 a<|Rt 1 a<|qz 2 a xs.length k ((k:Nat) : Int) rfl u (by omega)<|Rl 3 a (fun _ hs=>hs.1)<|Rt 4 a<|Rt 5 a<|qz 6 a ys.length k ((k:Nat) : Int) rfl C (by omega)<|Rl 7 a (fun _ hs=>hs.2)<|Rt 8 a<|re<|tn<|?_
 have n:=aD b i
 refine cb (((xs.getD k 0)!=(ys.getD k 0))) (fun f=>?_) (fun f=>?_)
 have o:=aB f
 refine sg<|Pl 1<|nt<|rt<|br<|tr<|tr<|br<|tr<|rr (.bool false)<|?_
 have hs:decide (xs=ys)=false:=decide_eq_false (tK (d:=0) k (by simpa using f))
 rw[hs]
 exact⟨rfl,n⟩
 have o:=ah f
 exact sk<|bn<|tn<|go<|Pl 1<|L0<|Oi (((k:Nat) : Int)+1)<|Pl 1<|nl<|ew (k+1) ⟨n,(lL (d:=0) (by omega) (by omega) l o),(by(try dsimp only);omega)⟩ (by omega)
 have r:=of_decide_eq_false h
 refine xt<|tx<|tx<|bx<|tn<|sg<|Pl 1<|nt<|rt<|rr (.bool true)<|?_
 have hs:decide (xs=ys)=true:=decide_eq_true (g9 l (by omega) (by omega))
 rw[hs]
 exact⟨rfl,b⟩
theorem iY{m m':Bool}{a b:Value}{xs ys:List Int}{w:World}(h1:dT m w a xs)(h2:dT m' w b ys) : Calls Tryz.prog 42 #[a,b] w (bv (.bool (decide (xs=ys))) w):=by
  obtain⟨A,c,rfl,_,_⟩:=h1.shape
  obtain⟨B,d,rfl,_,_⟩:=h2.shape
  exact lq h1 h2
theorem lx{m m':Bool}{A B:Option Addr}{c d:Nat}{xs ys:List Bool}{w:World}(h1:iX m w (.slice A xs.length c) xs)(h2:iX m' w (.slice B ys.length d) ys) :
    Calls Tryz.prog 43 #[.slice A xs.length c,.slice B ys.length d] w (bv (.bool (decide (xs=ys))) w):=by
 have hz1:=aR.len h1
 have hz2:=aR.len h2
 refine en 26 Tryz.func43 rfl<|sg<|Pl 1<|nt<|sq<|sg<|Pl 5<|nt<|cb ((((xs.length:Nat) : Int)!=((ys.length:Nat) : Int))) (fun f=>?_) (fun f=>?_)
 have j:=aB f
 refine sg<|Pl 1<|nt<|rt<|tr<|rr (.bool false)<|?_
 have hs:decide (xs=ys)=false:=decide_eq_false (fun e=>by rw[e] at j;omega)
 rw[hs]
 exact⟨rfl,(ay.refl [] _)⟩
 have j:=ah f
 refine bK<|sq<|sg<|Pl 1<|nt<|bk<|?_
 refine ie (fun x=>[(0,.slice A xs.length c),(1,.slice B ys.length d),(5,.int .i64 ((x:Nat) : Int))]) (fun(x:Nat) w'=>ay [] w w'∧(xs.take x=ys.take x)∧(x≤xs.length)) (fun x=>xs.length-x) 0 ⟨ay.refl _ _,(by(try dsimp only);simp),(by(try dsimp only);omega)⟩ ?_
 rintro k D ⟨b,o,p⟩
 refine ik [(0,.slice A xs.length c),(1,.slice B ys.length d),(5,.int .i64 ((k:Nat) : Int))] ?_
 have l:xs.take k=ys.take k:=o
 have E:k≤xs.length:=p
 refine sq<|sg<|Pl 4<|nt<|cb ((decide (((k:Nat) : Int)<((xs.length:Nat) : Int)))) (fun g=>?_) (fun g=>?_)
 have q:=of_decide_eq_true g
 refine bK<|sq<|bk<|sq<|?_
 refine zN (iX.at_ (iX.old h1 b) k (by omega)) fun r s t u=>?_
 refine zN (iX.at_ (iX.old h2 b) k (by omega)) fun v y z C=>Rg 9 (fun w'=>w'.cell? ⟨r,s+k,none⟩=some (.bool (xs.getD k false))∧w'.cell? ⟨v,y+k,none⟩=some (.bool (ys.getD k false))) fun F h=>aZ ⟨(uc h u),(uc h C)⟩ fun a=>Rt 0 a<|Rt 1 a<|qz 2 a xs.length k ((k:Nat) : Int) rfl t (by omega)<|Rl 3 a (fun _ hs=>hs.1)<|Rt 4 a<|Rt 5 a<|qz 6 a ys.length k ((k:Nat) : Int) rfl z (by omega)<|Rl 7 a (fun _ hs=>hs.2)<|Rt 8 a<|re<|tn<|?_
 have n:=aD b h
 refine cb (((xs.getD k false)!=(ys.getD k false))) (fun i=>?_) (fun i=>?_)
 refine sg<|Pl 1<|nt<|rt<|br<|tr<|tr<|br<|tr<|rr (.bool false)<|?_
 have hs:decide (xs=ys)=false:=decide_eq_false (tK (d:=false) k (by simpa using i))
 rw[hs]
 exact⟨rfl,n⟩
 exact sk<|bn<|tn<|go<|Pl 1<|L0<|Oi (((k:Nat) : Int)+1)<|Pl 1<|nl<|ew (k+1) ⟨n,(lL (d:=false) (by omega) (by omega) l (by simpa using i)),(by(try dsimp only);omega)⟩ (by omega)
 have q:=of_decide_eq_false g
 refine xt<|tx<|tx<|bx<|tn<|sg<|Pl 1<|nt<|rt<|rr (.bool true)<|?_
 have hs:decide (xs=ys)=true:=decide_eq_true (g9 l (by omega) (by omega))
 rw[hs]
 exact⟨rfl,b⟩
theorem mB{m m':Bool}{a b:Value}{xs ys:List Bool}{w:World}(h1:iX m w a xs)(h2:iX m' w b ys) : Calls Tryz.prog 43 #[a,b] w (bv (.bool (decide (xs=ys))) w):=by
  obtain⟨A,c,rfl,_,_⟩:=h1.shape
  obtain⟨B,d,rfl,_,_⟩:=h2.shape
  exact lx h1 h2
end Go.Proofs.YtpglhicfhppaiaaGreat
